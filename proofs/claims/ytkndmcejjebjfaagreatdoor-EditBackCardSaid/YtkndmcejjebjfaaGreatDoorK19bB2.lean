/- Lemmas for the claim K19b: how the program's functions run, and what they answer; no condition but those that each theorem names. -/
import Derived.Test.YtkndmcejjebjfaaGreatDoorProg
import Derived.Laws.MakeOwn
import Derived.Shelf.SlSortCmp.NoneTotal
import Derived.Ground.SlsfProg
import Derived.Lib.AtoiAll
import Derived.Test.YtkndmcejjebjfaaGreatDoorK19bB1
set_option linter.unusedVariables false
set_option linter.unusedSimpArgs false
set_option linter.defProp false
set_option maxHeartbeats 16000000
open Go Go.RowKit Go.Proofs Go.Shelf Go.Hal Go.Proofs.Tryz
variable {a c0 p:Addr} {n sep:Bs} {R:Int->Wp} {ps:List Bs} {L:List Pack} {l m:List Rk} {cs xs:LV} {b base i lo r u:Nat} {S S2:Nat->Prop} {data mDev mOpt mOv s:Sl} {E:Type} {t:TypeId} {A W w w':Wd}
namespace Go.Hal
namespace StG
structure Sh(E:Type) where
 α:Type
 β:Type
 γ:Type
 C:α->β->γ->LV
 p1:E->α
 p2:E->β
 p3:E->γ
 len:∀a b c,(C a b c).length=3
abbrev El(E:Type):Type:=E×Nat
def Sh.cells(Q0:Sh E)(x:E):LV:=Q0.C (Q0.p1 x) (Q0.p2 x) (Q0.p3 x)
def Sh.fc(Q0:Sh E)(x:El E):LV:=Q0.cells x.1
def Sh.fc_len(Q0:Sh E)(x:El E):(Q0.fc x).length=3:=Q0.len _ _ _
structure Gos{E:Type}(Q0:Sh E) where
 fi:FuncId
 fs:FuncId
 fr:FuncId
 fw:FuncId
 ft:FuncId
 gi:∀(d:Sl)(a b:Int)(cmp:Value)(w:Wd)(k:Value->Wp),SE.IQ Q0.C d a b cmp w (λw'=>k (.tuple #[]) w')->callS prog fi [d.v,vi a,vi b,cmp] w k
 gs:∀(d:Sl)(a m b:Int)(cmp:Value)(w:Wd)(k:Value->Wp),SE.LB Q0.C fs fr d a m b cmp w (λw'=>k (.tuple #[]) w')->callS prog fs [d.v,vi a,vi m,vi b,cmp] w k
 gr:∀(d:Sl)(a m b:Int)(cmp:Value)(w:Wd)(k:Value->Wp),SE.L9 fw d a m b cmp w (λw'=>k (.tuple #[]) w')->callS prog fr [d.v,vi a,vi m,vi b,cmp] w k
 gw:∀(d:Sl)(a b n:Int)(cmp:Value)(w:Wd)(k:Value->Wp),SE.LA Q0.C d a b n cmp w (λw'=>k (.tuple #[]) w')->callS prog fw [d.v,vi a,vi b,vi n,cmp] w k
 gt:∀(d:Sl)(n:Int)(cmp:Value)(w:Wd)(k:Value->Wp),SE.IU fi fs d n cmp w (λw'=>k (.tuple #[]) w')->callS prog ft [d.v,vi n,cmp] w k
def CmpOk(Q0:Sh E)(cmp:Value)(c:E->E->Int)(g:Nat)(w0:Wd):Prop:=
 ∀(x y:E)(w:Wd)(k:Value->Wp),But g w0 w->(∀w',Ext w w'->k (.int .i64 (c x y)) w')->callV prog cmp [.agg (Q0.cells x).toArray,.agg (Q0.cells y).toArray] w k
def CmpOk.but{Q0:Sh E}{cmp:Value}{c:E->E->Int}{g:Nat}{w0 w1:Wd}(h:CmpOk Q0 cmp c g w0)(hb:But g w0 w1):CmpOk Q0 cmp c g w1:=λx y w k hw hk=>h x y w k (hb.trans hw) hk
section
variable {E:Type} {Q0:Sh E} {cmp:Value} {c:E->E->Int} {g:Nat}
def Uo(hO:Ord3 c){R:Wp}{A M0 B:List (El E)}{tail:LV}{a b:Int}(hc:CmpOk Q0 cmp c g w)(hd:data.a=some ⟨g,0,none⟩)(a9:data.len=(A++M0++B).length)(d4:data.len<4611686018427387904)
  (hB:RowB Q0.fc w g (A++M0++B) tail) (ha:a=(A.length:Int)) (hb:b=((A.length+M0.length:Nat):Int)) (hM:M0.Pairwise λx y=>x.2<y.2)
  (hR:∀w' M,But g w w'->M.Perm M0->M.Pairwise (Ah c)->RowB Q0.fc w' g (A++M++B) tail->R w'):SE.IQ Q0.C data a b cmp w R:=by
 unfold SE.IQ;subst ha hb;simp only[du]at a9;rw[Ag oM oM];by_cases h0:M0=[]
 .subst h0;refine⟨λi w'=>w'=w/\i=(A.length:Int)+1,λ_ _=>0,⟨rfl,rfl⟩,?_⟩;rintro i w' ⟨rfl,rfl⟩;refine⟨λh=>?_,λ_=>hR _ [] ⟨fm _,rfl,rfl,rfl,λ_ _ _=>rfl⟩ (jf _) .nil hB⟩;simp at h;omega
 have c3:0<M0.length:=mw.2 h0;refine⟨λi w'=>∃(n:Nat) (M:List (El E)),i=((A.length+n:Nat):Int)/\1<=n/\n<=M0.length/\But g w w'/\M.Perm (M0.take n)/\M.Pairwise (Ah c)/\RowB Q0.fc w' g (A++M++(M0.drop n++B)) tail,λi _=>(A.length+M0.length) - i.toNat,⟨1,M0.take 1,oM,fm _,c3,⟨fm _,rfl,rfl,rfl,λ_ _ _=>rfl⟩,jf _,?_,?_⟩,?_⟩
 .cases M0 with
  |nil=>exact .nil
  |cons x r=>exact kj _ _
 .rw[<-fg,fg A,fo];exact hB
 rintro i w1 ⟨n,M,rfl,d9,e0,b1,hp,hs,a8⟩;have b9:M.length=n:=by rw[hp.length_eq,fb];omega
 refine⟨λd8=>?_,λd6=>?_⟩
 .have b5:n<M0.length:=oM;have b4:M0.drop n=M0[n]::M0.drop (n+1):=fu b5;have hx:∀y∈M,y.2<M0[n].2:=λy hy=>by have d2:=hp.mem_iff.1 hy;obtain⟨j,hj,rfl⟩:=fp.1 d2;rw[fb]at hj;rw[jh];exact gh.1 hM j n oM b5 oM
  rw[b4]at a8;generalize hX:M0[n]=x at*;refine⟨λj w'=>∃(M1 M2:List (El E)),j=((A.length+M1.length:Nat):Int)/\M1++M2=M/\(∀y∈M2,Ah c x y)/\But g w w'/\RowB Q0.fc w' g (A++M1++x::(M2++(M0.drop (n+1)++B))) tail,λj _=>j.toNat,⟨M,[],by rw[b9],by simp,by simp,b1,by simpa using a8⟩,?_⟩;rintro j w2 ⟨M1,M2,rfl,a4,c4,b2,d0⟩;refine bnd.drew λw3 x3=>bound ?_;have a6:=d0.ext x3;have b3:But g w w3:=b2.ext' x3;have d5:M1.length+M2.length=n:=by rw[<-b9,<-a4,du]
  have fin:∀w' w0,But g w w'->RowB Q0.fc w' g (A++M1++x::(M2++(M0.drop (n+1)++B))) tail->(∀y∈M1,Ah c y x)->w0=w'->
    (∃(n':Nat) (M':List (El E)),Aa (((A.length+n:Nat):Int)+1)=((A.length+n':Nat):Int)/\1<=n'/\n'<=M0.length/\But g w w0/\M'.Perm (M0.take n')/\M'.Pairwise (Ah c)/\RowB Q0.fc w0 g (A++M'++(M0.drop n'++B)) tail)/\(A.length+M0.length) - (Aa (((A.length+n:Nat):Int)+1)).toNat<(A.length+M0.length) - (((A.length+n:Nat):Int)).toNat:=λw' w0 b' c9 h1 e=>by
   subst e;rw[Ag oM oM];refine⟨⟨n+1,M1++x::M2,oM,oM,oM,b',?_,?_,by simpa using c9⟩,oM⟩
   .rw[dw b5,hX];refine(List.perm_middle).trans ?_;rw[a4];exact(hp.cons x).trans (nr x _).symm
   .rw[<-a4]at hs;obtain⟨p1,p2,p3⟩:=ir.1 hs;refine ir.2 ⟨p1,ic.2 ⟨c4,p2⟩,λy hy z hz=>?_⟩;obtain rfl|hz:=ga.1 hz
    .exact h1 y hy
    .exact p3 y hy z hz
  rcases List.eq_nil_or_concat M1 with rfl|⟨a0,y,rfl⟩
  .have hf:decide ((A.length:Int)<((A.length+([]:List (El E)).length:Nat):Int))=false:=(by simp);rw[hf];refine⟨⟨g,0,none⟩,nO,Q0.p1 x.1,Q0.p2 x.1,Q0.p3 x.1,nO,⟨g,0,none⟩,nO,Q0.p1 x.1,Q0.p2 x.1,Q0.p3 x.1,nO,nO,λ_=>⟨nO,λ_=>?_⟩⟩;exact fin w3 w3 b3 a6 sI rfl
  .simp only[List.concat_eq_append]at*;have hj:decide ((A.length:Int)<((A.length+(a0++[y]).length:Nat):Int))=true:=by simp;omega
   rw[hj];have a7:(a0++[y]).length=a0.length+1:=by simp
   have e1:Aa (((A.length+(a0++[y]).length:Nat):Int) - 1)=((A.length+a0.length:Nat):Int):=(by rw[a7,Ag oM oM];omega);rw[e1];have d7:data.len=A.length+(n+1+(M0.drop (n+1)++B).length):=(by rw[a9,du,fx];omega);have eB:A++(a0++[y])++x::(M2++(M0.drop (n+1)++B))=(A++a0)++y::x::(M2++(M0.drop (n+1)++B)):=(by simp);rw[eB]at a6;have ey:(A++a0).length=A.length+a0.length:=du;have gy:=a6.ld' Q0.fc_len (Ii ey);have gx:=a6.ld' Q0.fc_len (N1 (n:=A.length+(a0++[y]).length) (by rw[a7,ey];omega));have d3:y∈M:=(by rw[<-a4];simp);have a5:=Ah.right hO (hx y d3);refine⟨_,λ_=>⟨hd,oM,oM⟩,_,_,_,λ_=>gx,_,λ_=>⟨hd,oM,oM⟩,_,_,_,λ_=>gy,λ_=>?_,nO⟩;refine hc x.1 y.1 w3 _ b3 λw4 x4=>⟨_,rfl,λh=>?_,λh=>?_⟩
   .simp only[ie,decide_eq_true_eq]at h;refine bnd.drew λw5 x5=>?_;have c6:=x4.trans x5;have b0:=a6.ext c6;have c8:=b0.ld' Q0.fc_len (Ii ey);have c7:=b0.ld' Q0.fc_len (N1 (n:=A.length+(a0++[y]).length) (by rw[a7,ey];omega));refine⟨_,⟨hd,oM,oM⟩,_,_,_,c8,_,⟨hd,oM,oM⟩,_,_,_,c7,_,⟨hd,oM,oM⟩,b0.st Q0.fc_len (i:=A.length+(a0++[y]).length) (x:=y) (by simp only[du,fl,ia];omega) λw6 b6 d1=>⟨_,⟨hd,oM,oM⟩,d1.st Q0.fc_len (i:=A.length+a0.length) (x:=x) (by simp only[iz,du,fl,ia];omega) λw7 b7 b8=>?_⟩⟩;have e2:((((A++a0)++y::x::(M2++(M0.drop (n+1)++B))).set (A.length+(a0++[y]).length) y).set (A.length+a0.length) x)=(A++a0)++x::y::(M2++(M0.drop (n+1)++B)):=by have:=W4 (A++a0) (M2++(M0.drop (n+1)++B)) y x;rw[ey]at this;rw[a7,<-pp];exact this
    rw[e2]at b8;refine⟨⟨a0,y::M2,rfl,by rw[<-a4];simp,λz hz=>?_,((b3.ext' c6).trans b6).trans b7,by simpa using b8⟩,by rw[a7];omega⟩;obtain rfl|hz:=ga.1 hz
    .exact a5.1 h
    .exact c4 z hz
   .simp only[ie,decide_eq_false_iff_not]at h;refine fin w4 w4 (b3.ext' x4) (by rw[eB];exact a6.ext x4) (λz hz=>?_) rfl;have c5:=a5.2 h;obtain hz|hz:=fk.1 hz
    .refine Ah.trans hO ?_ c5;rw[<-a4]at hs;have:=(ir.1 (ir.1 hs).1).2.2 z hz y sI;exact this
    .simp at hz;subst hz;exact c5
 .have hn:n=M0.length:=oM;subst hn;rw[eh]at hp;rw[li,ig]at a8;exact hR w1 M b1 hp hs a8
def R6{R:Wp}{P X M Y Q:List (El E)}{tail:LV}{a b n:Int}(hd:data.a=some ⟨g,0,none⟩)(a4:data.len=(P++X++M++Y++Q).length)(b7:data.len<4611686018427387904)
  (hB:RowB Q0.fc w g (P++X++M++Y++Q) tail) (ha:a=(P.length:Int)) (hb:b=((P.length+X.length+M.length:Nat):Int)) (hn:n=(X.length:Int)) (b8:Y.length=X.length)
  (hR:∀w',But g w w'->RowB Q0.fc w' g (P++Y++M++X++Q) tail->R w'):SE.LA Q0.C data a b n cmp w R:=by
 unfold SE.LA;subst ha hb hn;simp only[du]at a4;refine loop1.up (N:=X.length) (by rw[Al];omega) (λi w'=>But g w w'/\RowB Q0.fc w' g (P++(Y.take i++X.drop i)++M++(X.take i++Y.drop i)++Q) tail) ⟨⟨fm _,rfl,rfl,rfl,λ_ _ _=>rfl⟩,by simpa using hB⟩ λi w1 c4 hi ⟨b1,a5⟩ b6=>⟨λc3=>?_,λb9=>?_⟩
 .have a6:i<X.length:=oM;have a8:i<Y.length:=oM;refine bnd.drew λw2 x2=>?_;rw[Ag (x:=((P.length+X.length+M.length:Nat):Int)+(i:Int)) oM oM,Ag (x:=(P.length:Int)+(i:Int)) oM oM];rw[show((P.length+X.length+M.length:Nat):Int)+(i:Int)=((P.length+X.length+M.length+i:Nat):Int) by omega,show(P.length:Int)+(i:Int)=((P.length+i:Nat):Int) by omega];have a0:=a5.ext x2;have eL:P++(Y.take i++X.drop i)++M++(X.take i++Y.drop i)++Q=(P++Y.take i)++X[i]::((X.drop (i+1)++M++X.take i)++Y[i]::(Y.drop (i+1)++Q)):=by rw[fu a6,fu a8];simp only[fg,gu]
  rw[eL]at a0;have l1:(P++Y.take i).length=P.length+i:=by simp;omega
  have l2:(X.drop (i+1)++M++X.take i).length+1=X.length+M.length:=by simp;omega
  have gx:=a0.ld' Q0.fc_len (Ii l1);have b5:((P++Y.take i)++X[i]::((X.drop (i+1)++M++X.take i)++Y[i]::(Y.drop (i+1)++Q)))[P.length+X.length+M.length+i]?=some Y[i]:=by rw[<-gu,<-fg];refine Ii ?_;simp only[du,fl]at l1 l2 ⊢;omega
  have gy:=a0.ld' Q0.fc_len b5;have b2:=b1.ext' x2;have a9:((P++Y.take i)++X[i]::((X.drop (i+1)++M++X.take i)++Y[i]::(Y.drop (i+1)++Q))).length=data.len:=by rw[<-eL,a4];simp;omega
  refine⟨_,⟨hd,oM,oM⟩,_,_,_,gy,_,⟨hd,oM,oM⟩,_,_,_,gx,_,⟨hd,oM,oM⟩,a0.st Q0.fc_len (i:=P.length+i) (x:=Y[i]) (by rw[a9];omega) λw3 b3 b0=>⟨_,⟨hd,oM,oM⟩,b0.st Q0.fc_len (i:=P.length+X.length+M.length+i) (x:=X[i]) (by rw[iz,a9];omega) λw4 b4 a7=>b6 a6 _ ⟨(b2.trans b3).trans b4,?_⟩⟩⟩;have e:=Zjx (P++Y.take i) (X.drop (i+1)++M++X.take i) (Y.drop (i+1)++Q) X[i] Y[i];rw[l1,show P.length+i+1+(X.drop (i+1)++M++X.take i).length=P.length+X.length+M.length+i by omega]at e;rw[e]at a7;have e2:P++(Y.take (i+1)++X.drop (i+1))++M++(X.take (i+1)++Y.drop (i+1))++Q=(P++Y.take i)++Y[i]::((X.drop (i+1)++M++X.take i)++X[i]::(Y.drop (i+1)++Q)):=by rw[dw a6,dw a8];simp only[fg,gu,ig]
  rw[e2];exact a7
 .have:i=X.length:=oM;subst this;rw[gj oM,li,gd,eh,jp oM,gd]at a5;exact hR w1 b1 a5
def Zhz(G:Gos Q0){R:Wp}{P X Y Q:List (El E)}{tail:LV}{a m b:Int}(hd:data.a=some ⟨g,0,none⟩)(a5:data.len=(P++X++Y++Q).length)(a4:data.len<4611686018427387904)
  (hB:RowB Q0.fc w g (P++X++Y++Q) tail) (ha:a=(P.length:Int)) (hm:m=((P.length+X.length:Nat):Int)) (hb:b=((P.length+X.length+Y.length:Nat):Int)) (hX:0<X.length) (hY:0<Y.length)
  (hR:∀w',But g w w'->RowB Q0.fc w' g (P++Y++X++Q) tail->R w'):SE.L9 G.fw data a m b cmp w R:=by
 unfold SE.L9;subst ha hb hm;simp only[du]at a5;refine⟨λi j w'=>∃P' X' Y' Q':List (El E),i=(X'.length:Int)/\j=(Y'.length:Int)/\P'.length+X'.length=P.length+X.length/\0<X'.length/\0<Y'.length/\data.len=P'.length+X'.length+Y'.length+Q'.length/\P'++Y'++X'++Q'=P++Y++X++Q/\But g w w'/\RowB Q0.fc w' g (P'++X'++Y'++Q') tail,
  λi j _=>i.toNat+j.toNat,⟨P,X,Y,Q,by rw[Ag oM oM];omega,by rw[Ag oM oM];omega,rfl,hX,hY,a5,rfl,⟨fm _,rfl,rfl,rfl,λ_ _ _=>rfl⟩,hB⟩,?_⟩
 rintro i j w1 ⟨P',X',Y',Q',rfl,rfl,hm,b7,b8,hl,hg,b1,a6⟩;have wi:Aa (((P.length+X.length:Nat):Int) - (X'.length:Int))=(P'.length:Int):=by rw[Ag oM oM];omega
 rw[wi];refine⟨λb6=>⟨λb0=>?_,λb9=>?_⟩,λa7=>?_⟩
 .have a8:X'=X'.take Y'.length++X'.drop Y'.length:=(fo _ _).symm;have l1:(X'.take Y'.length).length=Y'.length:=by rw[fb];omega
  have l2:(X'.drop Y'.length).length=X'.length - Y'.length:=fx;generalize X'.take Y'.length=X1 at*;generalize X'.drop Y'.length=X2 at*;subst a8;rw[du]at*;refine G.gw _ _ _ _ _ _ _ (R6 (P:=P') (X:=X1) (M:=X2) (Y:=Y') (Q:=Q') hd (by simp only[du];omega) a4 (by simpa using a6) rfl oM oM oM λw2 b2 a0=>⟨rfl,?_⟩);rw[Ag oM oM];refine⟨⟨P'++Y',X2,X1,Q',oM,oM,by rw[du];omega,oM,oM,by rw[du];omega,by rw[<-hg];simp,b1.trans b2,by simpa using a0⟩,by show Int.toNat _+Int.toNat _<Int.toNat _+Int.toNat _;omega⟩
 .have b0:X'.length<Y'.length:=by
   obtain h|h|h:=Nat.lt_trichotomy X'.length Y'.length
   .exact h
   .exact absurd (by rw[h]) b6
   .omega
  have a9:Y'=Y'.take (Y'.length - X'.length)++Y'.drop (Y'.length - X'.length):=(fo _ _).symm;have l1:(Y'.take (Y'.length - X'.length)).length=Y'.length - X'.length:=by rw[fb];omega
  have l2:(Y'.drop (Y'.length - X'.length)).length=X'.length:=by rw[fx];omega
  generalize b4:Y'.take (Y'.length - X'.length)=Y1 at*;generalize b5:Y'.drop (Y'.length - X'.length)=Y2 at*;clear b4 b5;subst a9;rw[du]at*;have e1:Aa (Aa (((P.length+X.length:Nat):Int)+((Y1.length+Y2.length:Nat):Int)) - (X'.length:Int))=((P'.length+X'.length+Y1.length:Nat):Int):=by rw[Ag (x:=((P.length+X.length:Nat):Int)+((Y1.length+Y2.length:Nat):Int)) oM oM,Ag oM oM];omega
  rw[e1];refine G.gw _ _ _ _ _ _ _ (R6 (P:=P') (X:=X') (M:=Y1) (Y:=Y2) (Q:=Q') hd (by simp only[du];omega) a4 (by simpa using a6) rfl rfl rfl l2 λw2 b2 a0=>⟨rfl,?_⟩);rw[Ag oM oM];refine⟨⟨P',Y2,Y1,X'++Q',oM,oM,oM,oM,oM,by rw[du];omega,by rw[<-hg];simp,b1.trans b2,by simpa using a0⟩,by show Int.toNat _+Int.toNat _<Int.toNat _+Int.toNat _;omega⟩
 .have a7:X'.length=Y'.length:=by have:=ji.1 a7;omega
  refine G.gw _ _ _ _ _ _ _ (R6 (P:=P') (X:=X') (M:=[]) (Y:=Y') (Q:=Q') hd (by simp only[du,ia];omega) a4 (by simpa using a6) rfl (by simp only[ia];omega) rfl a7.symm λw2 b2 a0=>⟨rfl,?_⟩);exact hR w2 (b1.trans b2) (by rw[<-hg];simpa using a0)
def Ou(G:Gos Q0)(hO:Ord3 c){data:Sl}{tail:LV}(hd:data.a=some ⟨g,0,none⟩)(c3:data.len<4611686018427387904):
  ∀(N:Nat) {w:Wd} {R:Wp} {P L X Q:List (El E)} {a m b:Int},L.length+X.length<=N->CmpOk Q0 cmp c g w->data.len=(P++L++X++Q).length->RowB Q0.fc w g (P++L++X++Q) tail->
   a=(P.length:Int)->m=((P.length+L.length:Nat):Int)->b=((P.length+L.length+X.length:Nat):Int)->0<L.length->0<X.length->L.Pairwise (Ah c)->X.Pairwise (Ah c)->(∀x∈L,∀y∈X,x.2<y.2)->
   (∀w' M,But g w w'->M.Perm (L++X)->M.Pairwise (Ah c)->RowB Q0.fc w' g (P++M++Q) tail->R w')->SE.LB Q0.C G.fs G.fr data a m b cmp w R
 |0,_,_,_,L,_,_,_,_,_,h,_,_,_,_,_,_,hL,_,_,_,_,_=>by omega
 |N+1,w,R,P,L,X,Q,_,_,_,hN,hc,hlen,hB,rfl,rfl,rfl,hL0,hX0,hL,hX,hid,hR=>by
  unfold SE.LB;simp only[du]at hlen;have refl:But g w w:=⟨fm _,rfl,rfl,rfl,λ_ _ _=>rfl⟩;have eL:∀(u:Nat)(hu:u<L.length),(P++L++X++Q)[P.length+u]?=some L[u]:=λu hu=>by rw[fg,fg,gp oM,fy oM,Nat.add_sub_cancel_left];exact dt hu
  have eX:∀(u:Nat)(hu:u<X.length),(P++L++X++Q)[P.length+L.length+u]?=some X[u]:=λu hu=>by rw[fg,gp (by rw[du];omega),du,Nat.add_sub_cancel_left,fy oM];exact dt hu
  have wm:Aa (((P.length+L.length:Nat):Int) - (P.length:Int))=(L.length:Int):=by rw[Ag oM oM];omega
  have wb:Aa (((P.length+L.length+X.length:Nat):Int) - ((P.length+L.length:Nat):Int))=(X.length:Int):=by rw[Ag oM oM];omega
  rw[wm,wb];refine⟨λh1=>?_,λh1=>⟨λh2=>?_,λh2=>?_⟩⟩
  .
   obtain⟨x,rfl⟩:=List.length_eq_one_iff.1 (show L.length=1 by omega);simp only[fl,ia]at*;refine⟨λi j w'=>∃p q:Nat,i=((P.length+(0+1)+p:Nat):Int)/\j=((P.length+(0+1)+q:Nat):Int)/\p<=q/\q<=X.length/\(∀(u:Nat)(hu:u<X.length),u<p->Ah c X[u] x)/\(∀(u:Nat)(hu:u<X.length),q<=u->Ah c x X[u])/\Ext w w',
    λi j _=>(j - i).toNat,⟨0,X.length,oM,oM,oM,oM,λu _ h=>by omega,λu h1 h2=>by omega,Ext.refl _⟩,?_⟩
   rintro _ _ w1 ⟨p,q,rfl,rfl,f2,hq,a5,b8,x1⟩;refine⟨λa9=>bnd.drew λw2 x2=>?_,λa8=>?_⟩
   .rw[N5 oM];have he:(P.length+(0+1)+p+(P.length+(0+1)+q))/2=P.length+(0+1)+(p+q)/2:=oM;rw[he];have a7:(p+q)/2<X.length:=oM;have a4:=hB.ext (x1.trans x2);have gx:=a4.ld' Q0.fc_len (eL 0 sI);have gy:=a4.ld' Q0.fc_len (eX _ a7);have a0:=Ah.right hO (hid x sI _ (ff a7));refine⟨_,⟨hd,oM,oM⟩,_,_,_,gy,_,⟨hd,oM,oM⟩,_,_,_,gx,hc _ x.1 w2 _ (refl.ext' (x1.trans x2)) λw3 x3=>⟨_,rfl,λh=>?_,λh=>?_⟩⟩
    .have hA:=a0.1 h;rw[Ag oM oM];refine⟨⟨(p+q)/2+1,q,oM,rfl,oM,hq,λu hu a9=>?_,b8,x1.trans (x2.trans x3)⟩,by show Int.toNat _<Int.toNat _;omega⟩;obtain h'|rfl:=ik.1 a9
     .exact(gh.1 hX u _ hu a7 h').trans hO hA
     .exact hA
    .have hA:=a0.2 h;refine⟨⟨p,(p+q)/2,rfl,rfl,oM,oM,a5,λu hu a8=>?_,x1.trans (x2.trans x3)⟩,by show Int.toNat _<Int.toNat _;omega⟩;obtain h'|rfl:=ou a8
     .exact hA.trans hO (gh.1 hX _ u a7 hu h')
     .exact hA
   .have c5:p=q:=oM;subst c5;have wi:Aa (((P.length+(0+1)+p:Nat):Int) - 1)=((P.length+p:Nat):Int):=(by rw[Ag oM oM];omega);rw[wi];refine⟨λk w'=>∃t:Nat,k=((P.length+t:Nat):Int)/\t<=p/\But g w w'/\RowB Q0.fc w' g (P++(X.take t++x::X.drop t)++Q) tail,λk _=>(P.length+p) - k.toNat,⟨0,oM,oM,refl.ext' x1,by simpa using hB.ext x1⟩,?_⟩;rintro _ w2 ⟨t,rfl,f6,b2,a4⟩;refine⟨λa9=>bnd.drew λw3 x3=>?_,λa8=>?_⟩
    .have e0:t<X.length:=oM;have e1:Aa (((P.length+t:Nat):Int)+1)=((P.length+t+1:Nat):Int):=(by rw[Ag oM oM];omega);rw[e1];have eB:P++(X.take t++x::X.drop t)++Q=(P++X.take t)++x::X[t]::(X.drop (t+1)++Q):=(by rw[fu e0];simp only[fg,gu]);have a6:=a4.ext x3;rw[eB]at a6;have ey:(P++X.take t).length=P.length+t:=(by rw[du,fb];omega);have gy:=a6.ld' Q0.fc_len (Ii ey);have gx:=a6.ld' Q0.fc_len (N1 (n:=P.length+t+1) oM);have c4:((P++X.take t)++x::X[t]::(X.drop (t+1)++Q)).length=data.len:=(by rw[<-eB,hlen];simp;omega);refine⟨_,⟨hd,oM,oM⟩,_,_,_,gx,_,⟨hd,oM,oM⟩,_,_,_,gy,_,⟨hd,oM,oM⟩,a6.st Q0.fc_len (i:=P.length+t) (x:=X[t]) (by rw[c4];omega) λw4 b4 b7=>⟨_,⟨hd,oM,oM⟩,b7.st Q0.fc_len (i:=P.length+t+1) (x:=x) (by rw[iz,c4];omega) λw5 b5 b9=>?_⟩⟩;have e2:=Zjw (P++X.take t) (X.drop (t+1)++Q) x X[t];rw[ey]at e2;rw[e2]at b9;refine⟨⟨t+1,oM,oM,((b2.ext' x3).trans b4).trans b5,?_⟩,by show _ - Int.toNat _<_ - Int.toNat _;omega⟩;rw[dw e0];simpa only[fg,gu,ig]using b9
    .have:t=p:=oM;subst this;refine hR w2 _ b2 ?_ ?_ a4
     .refine List.perm_middle.trans ?_;rw[fo];exact jf _
     .refine ir.2 ⟨hX.sublist (pc _ _),ic.2 ⟨λy hy=>?_,hX.sublist (nk _ _)⟩,λy hy z hz=>?_⟩
      .obtain⟨u,hu,rfl⟩:=fp.1 hy;rw[fx]at hu;rw[kf];exact b8 _ oM oM
      .obtain⟨u,hu,rfl⟩:=fp.1 hy;rw[fb]at hu;rw[jh];have c6:=a5 u oM oM;obtain rfl|hz:=ga.1 hz
       .exact c6
       .obtain⟨v,hv,rfl⟩:=fp.1 hz;rw[fx]at hv;rw[kf];exact c6.trans hO (b8 _ oM oM)
  .
   obtain⟨y,rfl⟩:=List.length_eq_one_iff.1 (show X.length=1 by omega);simp only[fl,ia]at*;refine⟨λi j w'=>∃p q:Nat,i=((P.length+p:Nat):Int)/\j=((P.length+q:Nat):Int)/\p<=q/\q<=L.length/\(∀(u:Nat)(hu:u<L.length),u<p->Ah c L[u] y)/\(∀(u:Nat)(hu:u<L.length),q<=u->Ah c y L[u])/\Ext w w',
    λi j _=>(j - i).toNat,⟨0,L.length,oM,oM,oM,oM,λu _ h=>by omega,λu h1 h2=>by omega,Ext.refl _⟩,?_⟩
   rintro _ _ w1 ⟨p,q,rfl,rfl,f2,hq,a5,b8,x1⟩;refine⟨λa9=>bnd.drew λw2 x2=>?_,λa8=>?_⟩
   .rw[N5 oM];have he:(P.length+p+(P.length+q))/2=P.length+(p+q)/2:=oM;rw[he];have a7:(p+q)/2<L.length:=oM;have a4:=hB.ext (x1.trans x2);have gx:=a4.ld' Q0.fc_len (eX 0 sI);have gy:=a4.ld' Q0.fc_len (eL _ a7);have a0:=Ah.right hO (hid _ (ff a7) y sI);refine⟨_,⟨hd,oM,oM⟩,_,_,_,gx,_,⟨hd,oM,oM⟩,_,_,_,gy,hc y.1 _ w2 _ (refl.ext' (x1.trans x2)) λw3 x3=>⟨_,rfl,λh=>?_,λh=>?_⟩⟩
    .have hA:=a0.2 h;rw[Ag oM oM];refine⟨⟨(p+q)/2+1,q,oM,rfl,oM,hq,λu hu a9=>?_,b8,x1.trans (x2.trans x3)⟩,by show Int.toNat _<Int.toNat _;omega⟩;obtain h'|rfl:=ik.1 a9
     .exact(gh.1 hL u _ hu a7 h').trans hO hA
     .exact hA
    .have hA:=a0.1 (ji.1 h);refine⟨⟨p,(p+q)/2,rfl,rfl,oM,oM,a5,λu hu a8=>?_,x1.trans (x2.trans x3)⟩,by show Int.toNat _<Int.toNat _;omega⟩;obtain h'|rfl:=ou a8
     .exact hA.trans hO (gh.1 hL _ u a7 hu h')
     .exact hA
   .have c5:p=q:=oM;subst c5;refine⟨λk w'=>∃t:Nat,k=((P.length+t:Nat):Int)/\p<=t/\t<=L.length/\But g w w'/\RowB Q0.fc w' g (P++(L.take t++y::L.drop t)++Q) tail,λk _=>k.toNat,⟨L.length,oM,oM,oM,refl.ext' x1,by simpa using hB.ext x1⟩,?_⟩;rintro _ w2 ⟨t,rfl,f6,g9,b2,a4⟩;refine⟨λa9=>bnd.drew λw3 x3=>?_,λa8=>?_⟩
    .obtain⟨s,rfl⟩:∃s,t=s+1:=⟨t - 1,oM⟩;have d2:s<L.length:=oM;have e1:Aa (((P.length+(s+1):Nat):Int) - 1)=((P.length+s:Nat):Int):=by rw[Ag oM oM];omega
     rw[e1];have eB:P++(L.take (s+1)++y::L.drop (s+1))++Q=(P++L.take s)++L[s]::y::(L.drop (s+1)++Q):=by rw[dw d2];simp only[fg,gu,ig]
     have a6:=a4.ext x3;rw[eB]at a6;have ey:(P++L.take s).length=P.length+s:=(by rw[du,fb];omega);have gy:=a6.ld' Q0.fc_len (Ii ey);have gx:=a6.ld' Q0.fc_len (N1 (n:=P.length+(s+1)) oM);have c4:((P++L.take s)++L[s]::y::(L.drop (s+1)++Q)).length=data.len:=(by rw[<-eB,hlen];simp;omega);refine⟨_,⟨hd,oM,oM⟩,_,_,_,gy,_,⟨hd,oM,oM⟩,_,_,_,gx,_,⟨hd,oM,oM⟩,a6.st Q0.fc_len (i:=P.length+(s+1)) (x:=L[s]) (by rw[c4];omega) λw4 b4 b7=>⟨_,⟨hd,oM,oM⟩,b7.st Q0.fc_len (i:=P.length+s) (x:=y) (by rw[iz,c4];omega) λw5 b5 b9=>?_⟩⟩;have e2:=W4 (P++L.take s) (L.drop (s+1)++Q) L[s] y;rw[ey,pp]at e2;rw[e2]at b9;refine⟨⟨s,oM,oM,oM,((b2.ext' x3).trans b4).trans b5,?_⟩,by show Int.toNat _<Int.toNat _;omega⟩;rw[fu d2];simpa only[fg,gu,ig]using b9
    .have:t=p:=oM;subst this;refine hR w2 _ b2 ?_ ?_ a4
     .refine List.perm_middle.trans ?_;rw[fo];exact(nr y L).symm
     .refine ir.2 ⟨hL.sublist (pc _ _),ic.2 ⟨λz hz=>?_,hL.sublist (nk _ _)⟩,λx hx z hz=>?_⟩
      .obtain⟨u,hu,rfl⟩:=fp.1 hz;rw[fx]at hu;rw[kf];exact b8 _ oM oM
      .obtain⟨u,hu,rfl⟩:=fp.1 hx;rw[fb]at hu;rw[jh];have c6:=a5 u oM oM;obtain rfl|hz:=ga.1 hz
       .exact c6
       .obtain⟨v,hv,rfl⟩:=fp.1 hz;rw[fx]at hv;rw[kf];exact c6.trans hO (b8 _ oM oM)
  .
   rw[N5 (i:=P.length) (j:=P.length+L.length+X.length) oM];have d5:(P.length+(P.length+L.length+X.length))/2=P.length+(L.length+X.length)/2:=oM;rw[d5];generalize hH:(L.length+X.length)/2=H at*;have wn:Aa (((P.length+H:Nat):Int)+((P.length+L.length:Nat):Int))=((P.length+H+(P.length+L.length):Nat):Int):=by rw[Ag oM oM];omega
   rw[wn];have wp:Aa (((P.length+H+(P.length+L.length):Nat):Int) - 1)=((P.length+H+(P.length+L.length) - 1:Nat):Int):=by rw[Ag oM oM];omega
   rw[wp];refine join.named λJ hJ=>?_;have d1:∀u0 v0:Nat,u0=H - X.length->v0=min L.length H->J ((P.length+u0:Nat):Int) ((P.length+v0:Nat):Int) w:=λu0 v0 h0 h5=>by
    subst hJ;show loop2 _ _ _ _;refine⟨λi j w'=>∃s r:Nat,i=((P.length+s:Nat):Int)/\j=((P.length+r:Nat):Int)/\u0<=s/\s<=r/\r<=v0/\(∀(u:Nat)(h1:u<L.length)(h2:H - 1 - u<X.length),u0<=u->u<s->Ah c L[u] X[H - 1 - u])/\(∀(u:Nat)(h1:u<L.length)(h2:H - 1 - u<X.length),r<=u->u<v0->Ah c X[H - 1 - u] L[u])/\Ext w w',
     λi j _=>(j - i).toNat,⟨u0,v0,rfl,rfl,fm _,oM,fm _,λu _ _ h1 h2=>by omega,λu _ _ h1 h2=>by omega,Ext.refl _⟩,?_⟩
    rintro _ _ w1 ⟨s,r,rfl,rfl,f5,g8,f4,d8,d7,x1⟩;refine⟨λa9=>bnd.drew λw2 x2=>?_,λa8=>?_⟩
    .rw[N5 oM];have he:(P.length+s+(P.length+r))/2=P.length+(s+r)/2:=oM;rw[he];generalize hu:(s+r)/2=u at*;have c8:u<L.length:=oM;have c9:H - 1 - u<X.length:=oM;have g4:Aa (((P.length+H+(P.length+L.length) - 1:Nat):Int) - ((P.length+u:Nat):Int))=((P.length+L.length+(H - 1 - u):Nat):Int):=by rw[Ag oM oM];omega
     rw[g4];have a4:=hB.ext (x1.trans x2);have gx:=a4.ld' Q0.fc_len (eX _ c9);have gy:=a4.ld' Q0.fc_len (eL _ c8);have a0:=Ah.right hO (hid _ (ff c8) _ (ff c9));refine⟨_,⟨hd,oM,oM⟩,_,_,_,gx,_,⟨hd,oM,oM⟩,_,_,_,gy,hc _ _ w2 _ (refl.ext' (x1.trans x2)) λw3 x3=>⟨_,rfl,λh=>?_,λh=>?_⟩⟩
     .have hA:=a0.2 h;rw[Ag oM oM];refine⟨⟨u+1,r,oM,rfl,oM,oM,f4,λt h1 h2 h3 h4=>?_,d7,x1.trans (x2.trans x3)⟩,by show Int.toNat _<Int.toNat _;omega⟩;obtain h'|rfl:=ik.1 h4
      .exact((gh.1 hL t u h1 c8 h').trans hO hA).trans hO (gh.1 hX (H - 1 - u) (H - 1 - t) c9 h2 oM)
      .exact hA
     .have hA:=a0.1 (ji.1 h);refine⟨⟨s,u,rfl,rfl,f5,oM,oM,d8,λt h1 h2 h3 h4=>?_,x1.trans (x2.trans x3)⟩,by show Int.toNat _<Int.toNat _;omega⟩;obtain h'|rfl:=ou h3
      .exact((gh.1 hX (H - 1 - t) (H - 1 - u) h2 c9 oM).trans hO hA).trans hO (gh.1 hL u t c8 h1 h')
      .exact hA
    .have d9:s=r:=oM;subst d9;have d2:s<=L.length:=oM;have g7:s<=H:=oM;have g5:H - s<=X.length:=oM;have e7:Aa (((P.length+H+(P.length+L.length):Nat):Int) - ((P.length+s:Nat):Int))=((P.length+L.length+(H - s):Nat):Int):=(by rw[Ag oM oM];omega);rw[e7];have e8:∀x∈L.take s,∀y∈X.drop (H - s),Ah c x y:=λx hx y hy=>by
      obtain⟨i,hi,rfl⟩:=fp.1 hx;obtain⟨j,hj,rfl⟩:=fp.1 hy;rw[fb]at hi;rw[fx]at hj;rw[jh,kf];have k1:=d8 (s - 1) oM oM oM oM;have e:H - 1 - (s - 1)=H - s:=oM;have k2:Ah c L[i] X[H - s]:=by
       rcases ou (show i<=s - 1 by omega)with h|h
       .have:=(gh.1 hL i (s - 1) oM oM h).trans hO k1;simpa only[e]using this
       .subst h;simpa only[e]using k1
      obtain h|h:=jq j
      .subst h;exact k2
      .exact k2.trans hO (gh.1 hX (H - s) (H - s+j) oM oM oM)
     have e9:∀y∈X.take (H - s),∀x∈L.drop s,Ah c y x:=λy hy x hx=>by
      obtain⟨i,hi,rfl⟩:=fp.1 hx;obtain⟨j,hj,rfl⟩:=fp.1 hy;rw[fx]at hi;rw[fb]at hj;rw[jh,kf];have k1:=d7 s oM oM nR oM;have k2:Ah c X[j] L[s]:=by
       rcases ou (show j<=H - 1 - s by omega)with h|h
       .exact(gh.1 hX j (H - 1 - s) oM oM h).trans hO k1
       .subst h;exact k1
      obtain h|h:=jq i
      .subst h;exact k2
      .exact k2.trans hO (gh.1 hL s (s+i) oM oM oM)
     have f9:(L.take s).length=s:=(by rw[fb];omega);have g0:(X.take (H - s)).length=H - s:=(by rw[fb];omega);have g1:(L.drop s).length=L.length - s:=fx;have g2:(X.drop (H - s)).length=X.length - (H - s):=fx;have e3:=hL.sublist (pc s L);have e4:=hL.sublist (nk s L);have e5:=hX.sublist (pc (H - s) X);have e6:=hX.sublist (nk (H - s) X);have f7:∀x∈L.take s,∀y∈X.take (H - s),x.2<y.2:=λx hx y hy=>hid x (kl hx) y (kl hy);have f8:∀x∈L.drop s,∀y∈X.drop (H - s),x.2<y.2:=λx hx y hy=>hid x (List.mem_of_mem_drop hx) y (List.mem_of_mem_drop hy);have d3:L=L.take s++L.drop s:=(fo _ _).symm;have d4:X=X.take (H - s)++X.drop (H - s):=(fo _ _).symm;have g6:L.take s=[]\/0<s:=by
       obtain h|h:=jq s
       .exact .inl (by rw[h];rfl)
       .exact .inr h
     have b0:∀M1 M2:List (El E),M1.Perm (L.take s++X.take (H - s))->M2.Perm (L.drop s++X.drop (H - s))->(M1++M2).Perm (L++X):=λM1 M2 h1 h2=>by
      refine(h1.append h2).trans ?_
      conv=>rhs;rw[d3,d4]
      rw[fg,fg];refine List.Perm.append_left _ ?_;rw[<-fg,<-fg];exact List.Perm.append_right _ List.perm_append_comm
     have b6:∀M1 M2:List (El E),M1.Perm (L.take s++X.take (H - s))->M2.Perm (L.drop s++X.drop (H - s))->M1.Pairwise (Ah c)->M2.Pairwise (Ah c)->(M1++M2).Pairwise (Ah c):=λM1 M2 h1 h2 s1 s2=>
      ir.2 ⟨s1,s2,λx hx y hy=>by
       rcases fk.1 (h1.mem_iff.1 hx)with hx|hx<;>rcases fk.1 (h2.mem_iff.1 hy)with hy|hy
       .obtain⟨i,hi,rfl⟩:=fp.1 hx;obtain⟨j,hj,rfl⟩:=fp.1 hy;rw[f9]at hi;rw[g1]at hj;rw[jh,kf];exact gh.1 hL i (s+j) oM oM oM
       .exact e8 x hx y hy
       .exact e9 x hx y hy
       .obtain⟨i,hi,rfl⟩:=fp.1 hx;obtain⟨j,hj,rfl⟩:=fp.1 hy;rw[g0]at hi;rw[g2]at hj;rw[jh,kf];exact gh.1 hX i (H - s+j) oM oM oM⟩
     generalize L.take s=L1 at*;generalize L.drop s=L2 at*;generalize X.take (H - s)=X1 at*;generalize X.drop (H - s)=X2 at*;have b1:But g w w1:=refl.ext' x1;have c7:=hB.ext x1;refine join.named λJ2 f0=>?_;have k2:∀w2,But g w w2->RowB Q0.fc w2 g (P++L1++X1++(L2++X2++Q)) tail->J2 w2:=λw2 b2 a4=>by
      subst f0;refine join.named λJ3 f1=>bound ?_;have k3:∀w3 M1,But g w w3->M1.Perm (L1++X1)->M1.Pairwise (Ah c)->RowB Q0.fc w3 g (P++M1++(L2++X2++Q)) tail->J3 w3:=λw3 M1 b3 a5 d0 a6=>by
       subst f1;have lM:M1.length=H:=by rw[a5.length_eq,du];omega
       refine bound ⟨λh=>?_,λh=>?_⟩
       .simp only[dx,decide_eq_true_eq]at h;refine G.gs _ _ _ _ _ _ _ (Ou G hO hd c3 N (P:=P++M1) (L:=L2) (X:=X2) (Q:=Q) oM (hc.but b3) (by simp only[du];omega) (by simpa only[fg]using a6) (by rw[du];omega) (by rw[du];omega) (by rw[du];omega) oM oM e4 e6 f8 λw4 M2 b4 d6 g3 b7=>⟨rfl,?_⟩);exact hR w4 (M1++M2) (b3.trans b4) (b0 M1 M2 a5 d6) (b6 M1 M2 a5 d6 d0 g3) (by simpa only[fg]using b7)
       .simp only[mh,decide_eq_false_iff_not]at h;refine hR w3 (M1++(L2++X2)) b3 (b0 M1 _ a5 (jf _)) (b6 M1 _ a5 (jf _) d0 ?_) (by simpa only[fg]using a6);have:L2=[]\/X2=[]:=by
         obtain h|h:=h
         .exact .inl (fj oM)
         .exact .inr (fj oM)
        obtain rfl|rfl:=this
        .simpa using e6
        .simpa using e4
      refine⟨λh=>?_,λh=>?_⟩
      .simp only[dx,decide_eq_true_eq]at h;refine G.gs _ _ _ _ _ _ _ (Ou G hO hd c3 N (P:=P) (L:=L1) (X:=X1) (Q:=L2++X2++Q) oM (hc.but b2) (by simp only[du];omega) (by simpa only[fg]using a4) rfl oM oM oM oM e3 e5 f7 λw4 M1 b4 a5 d0 b7=>⟨rfl,k3 w4 M1 (b2.trans b4) a5 d0 b7⟩)
      .simp only[mh,decide_eq_false_iff_not]at h;refine k3 w2 (L1++X1) b2 (jf _) ?_ (by simpa only[fg]using a4);have:L1=[]\/X1=[]:=by
        obtain h|h:=h
        .exact .inl (fj oM)
        .exact .inr (fj oM)
       obtain rfl|rfl:=this
       .simpa using e5
       .simpa using e3
     rw[d3,d4]at c7;refine bound ⟨λh=>?_,λh=>?_⟩
     .simp only[dx,decide_eq_true_eq]at h;refine G.gr _ _ _ _ _ _ _ (Zhz G (P:=P++L1) (X:=L2) (Y:=X1) (Q:=X2++Q) hd (by simp only[du];omega) c3 (by simpa only[fg]using c7) (by rw[du];omega) (by rw[du];omega) (by rw[du];omega) oM oM λw2 b2 a4=>⟨rfl,k2 w2 (b1.trans b2) (by simpa only[fg]using a4)⟩)
     .simp only[mh,decide_eq_false_iff_not]at h;refine k2 w1 b1 ?_;have:L2=[]\/X1=[]:=by
       obtain h|h:=h
       .exact .inl (fj oM)
       .exact .inr (fj oM)
      obtain rfl|rfl:=this
      .simpa only[fg,gd,ig]using c7
      .simpa only[fg,gd,ig]using c7
   refine⟨λh=>?_,λh=>?_⟩
   .have:=d1 (H - X.length) H rfl oM;have e:Aa (((P.length+H+(P.length+L.length):Nat):Int) - ((P.length+L.length+X.length:Nat):Int))=((P.length+(H - X.length):Nat):Int):=(by rw[Ag oM oM];omega);rw[e];exact this
   .have:=d1 0 L.length oM oM;exact this
def ids{z0:List (El E)}(hz:z0.Pairwise λx y=>x.2<y.2){n j m:Nat}(h:i+n<=j):∀x∈sg z0 i n,∀y∈sg z0 j m,x.2<y.2:=λx hx y hy=>by obtain⟨a,ha,_,a0,rfl⟩:=VT hx;obtain⟨b,hb,a4,_,rfl⟩:=VT hy;exact gh.1 hz a b ha hb oM
def Zjl(G:Gos Q0)(hO:Ord3 c){tail:LV}{R:Wp}{z0:List (El E)}{n:Int}(hd:data.a=some ⟨g,0,none⟩)(e9:data.len<2305843009213693952)(hc:CmpOk Q0 cmp c g w)(a7:data.len=z0.length)(hn:n=(z0.length:Int))(hB:RowB Q0.fc w g z0 tail)
  (hz:z0.Pairwise λx y=>x.2<y.2) (hR:∀w' M,But g w w'->M.Perm z0->M.Pairwise (Ah c)->RowB Q0.fc w' g M tail->R w'):SE.IU G.fi G.fs data n cmp w R:=by
 unfold SE.IU;subst hn;have refl:But g w w:=⟨fm _,rfl,rfl,rfl,λ_ _ _=>rfl⟩;refine⟨λa b w'=>∃(k:Nat) (z:List (El E)),a=((k*20:Nat):Int)/\b=((k*20+20:Nat):Int)/\k*20<=z0.length/\z.length=z0.length/\z.drop (k*20)=z0.drop (k*20)/\Chunks c 20 z z0 k/\But g w w'/\RowB Q0.fc w' g z tail,
  λa _ _=>z0.length - a.toNat,⟨0,z0,rfl,rfl,oM,rfl,rfl,⟨λi h=>by omega,λi h=>by omega⟩,refl,hB⟩,?_⟩
 rintro _ _ w1 ⟨k,z,rfl,rfl,hk,d1,c4,b9,b1,b7⟩;have la:(z.take (k*20)).length=k*20:=by rw[fb];omega
 refine⟨λc5=>?_,λf5=>?_⟩
 .have d0:sg z (k*20) 20=sg z0 (k*20) 20:=by unfold sg;rw[c4]
  have hs:=VU z (k*20) 20;have d9:(sg z (k*20) 20).length=20:=Oh oM;rw[hs]at b7;refine G.gi _ _ _ _ _ _ (Uo hO (A:=z.take (k*20)) (M0:=sg z (k*20) 20) (B:=z.drop (k*20+20)) (hc.but b1) hd (by rw[<-hs,d1];exact a7) oM b7 (by rw[la]) (by rw[la,d9]) (by rw[d0];exact hz.sublist ((pc _ _).trans (nk _ _))) λw2 M b2 hp a5 b8=>⟨rfl,?_⟩);have a0:M.length=20:=by rw[hp.length_eq,d9]
  rw[Ag oM oM];refine⟨⟨k+1,z.take (k*20)++M++z.drop (k*20+20),oM,oM,oM,?_,?_,?_,b1.trans b2,b8⟩,by show _ - Int.toNat _<_ - Int.toNat _;omega⟩
  .simp only[du,fx,la,a0];omega
  .rw[List.drop_left' (by rw[du,la,a0];omega),show k*20+20=(k+1)*20 by omega];rw[show(k+1)*20=k*20+20 by omega,<-jw,c4,jw]
  .constructor
   .intro i hi;obtain h|rfl:=ik.1 hi
    .rw[EK (by rw[la];omega)];have:=b9.perm i h;rw[hs,EK (by rw[la];omega)]at this;exact this
    .rw[Rc la a0,<-d0];exact hp
   .intro i hi;obtain h|rfl:=ik.1 hi
    .rw[EK (by rw[la];omega)];have:=b9.sort i h;rw[hs,EK (by rw[la];omega)]at this;exact this
    .rw[Rc la a0];exact a5
 .have hs:z=z.take (k*20)++z.drop (k*20)++[]:=by rw[gd,fo]
  have d7:(z.drop (k*20)).length=z0.length - k*20:=by rw[fx,d1]
  rw[hs]at b7;refine G.gi _ _ _ _ _ _ (Uo hO (A:=z.take (k*20)) (M0:=z.drop (k*20)) (B:=[]) (hc.but b1) hd (by rw[<-hs,d1];exact a7) oM b7 (by rw[la]) (by rw[la,d7];omega) (by rw[c4];exact hz.sublist (nk _ _)) λw2 M b2 hp a5 b8=>⟨rfl,?_⟩);have a0:M.length=z0.length - k*20:=by rw[hp.length_eq,d7]
  rw[gd]at b8;have d6:∀j,Chunks c 20 (z.take (k*20)++M) z0 j:=λj=>by
   have d0:sg z (k*20) 20=z.drop (k*20):=(by unfold sg;rw[gj oM]);have d8:sg z0 (k*20) 20=z0.drop (k*20):=by unfold sg;rw[gj (by rw[fx];omega)]
   constructor
   .intro i _;obtain h|rfl|h:=Nat.lt_trichotomy i k
    .have:=b9.perm i h;rw[hs,EK (by rw[la];omega)]at this;rw[<-gd (z.take (k*20)++M),EK (by rw[la];omega)];exact this
    .rw[Rb la oM,d8,<-c4];exact hp
    .have:k+1<=i:=h;rw[Hp (by rw[du,la];omega),Hp oM]
   .intro i _;obtain h|rfl|h:=Nat.lt_trichotomy i k
    .have:=b9.sort i h;rw[hs,EK (by rw[la];omega)]at this;rw[<-gd (z.take (k*20)++M),EK (by rw[la];omega)];exact this
    .rw[Rb la oM];exact a5
    .have:k+1<=i:=h;rw[Hp (by rw[du,la];omega)];exact .nil
  have e2:(z.take (k*20)++M).length=z0.length:=by rw[du,la];omega
  generalize z.take (k*20)++M=z1 at*;have e5:=b1.trans b2;clear hp a5 a0;refine⟨λbs w'=>∃(s:Nat) (z:List (El E)),bs=(s:Int)/\0<s/\s<2*z0.length+40/\z.length=z0.length/\(∀j,Chunks c s z z0 j)/\But g w w'/\RowB Q0.fc w' g z tail,λbs _=>2*z0.length+40 - bs.toNat,⟨20,z1,rfl,oM,oM,e2,d6,e5,b8⟩,?_⟩;rintro _ w3 ⟨s,z2,rfl,f8,f9,e3,a6,b3,d4⟩;refine⟨λf6=>?_,λf4=>?_⟩
  .have g0:s<z0.length:=oM;rw[Ag (x:=2*(s:Int)) oM oM];refine⟨λa b w'=>∃(k:Nat) (z:List (El E)),a=((k*(2*s):Nat):Int)/\b=((k*(2*s)+2*s:Nat):Int)/\k*(2*s)<=z0.length/\z.length=z0.length/\z.drop (k*(2*s))=z2.drop (k*(2*s))/\Chunks c (2*s) z z0 k/\But g w w'/\RowB Q0.fc w' g z tail,
    λa _ _=>z0.length - a.toNat,⟨0,z2,by simp,by simp,oM,e3,by simp,⟨λi h=>by omega,λi h=>by omega⟩,b3,d4⟩,?_⟩
   rintro _ _ w4 ⟨k,z,rfl,rfl,hk,a8,b0,c7,b4,a9⟩;generalize hK:k*(2*s)=K at*;have a4:(z.take K).length=K:=by rw[fb];omega
   have d2:2*k*s=K:=(by rw[<-hK,Nat.mul_comm 2 k,Nat.mul_assoc]);have d3:(2*k+1)*s=K+s:=(by rw[jx,d2,Nat.one_mul]);have p1:=(a6 (2*k+2)).perm (2*k) oM;have p2:=(a6 (2*k+2)).perm (2*k+1) oM;have s1:=(a6 (2*k+2)).sort (2*k) oM;have s2:=(a6 (2*k+2)).sort (2*k+1) oM;rw[d2]at p1 s1;rw[d3]at p2 s2;have g1:sg z K s=sg z2 K s:=(by unfold sg;rw[b0]);have g2:sg z (K+s) s=sg z2 (K+s) s:=(by unfold sg;rw[<-jw,b0,jw]);rw[<-g1]at p1 s1;rw[<-g2]at p2 s2;have c8:∀x∈sg z K s,∀y∈sg z (K+s) s,x.2<y.2:=λx hx y hy=>ids hz nR x (p1.mem_iff.1 hx) y (p2.mem_iff.1 hy);have e4:Aa ((K:Int)+(s:Int))=((K+s:Nat):Int):=(by rw[Ag oM oM];omega);have grow:∀(z' M B:List (El E)) (m:Nat),z'=z.take K++M++B->M.length=m->M.Perm (sg z K s++sg z (K+s) s)->M.Pairwise (Ah c)->(m=2*s\/B=[])->m<=2*s->Chunks c (2*s) z' z0 (k+1):=λz' M B m e1 hm hp a5 e8 f7=>by
    have e:sg z' K (2*s)=M:=by
     subst e1;obtain h|h:=e8
     .exact Rc a4 oM
     .subst h;rw[gd];exact Rb a4 oM
    have e0:sg z0 K (2*s)=sg z0 K s++sg z0 (K+s) s:=by rw[show 2*s=s+s by omega,Ra]
    have el:∀i,i<k->sg z' (i*(2*s)) (2*s)=sg z (i*(2*s)) (2*s):=λi h=>by
     have c5:i*(2*s)+2*s<=K:=(by have:=ij (2*s) (show i+1<=k from h);rw[jx,hK,Nat.one_mul]at this;exact this);have h1:sg z (i*(2*s)) (2*s)=sg (z.take K) (i*(2*s)) (2*s):=by
      conv=>lhs;rw[show z=z.take K++z.drop K++[] by rw[gd,fo]]
      exact EK (by rw[a4];exact c5)
     rw[h1,e1,EK (by rw[a4];exact c5)]
    constructor
    .intro i hi;obtain h|rfl:=ik.1 hi
     .rw[el i h];exact c7.perm i h
     .rw[hK,e,e0];exact hp.trans (p1.append p2)
    .intro i hi;obtain h|rfl:=ik.1 hi
     .rw[el i h];exact c7.sort i h
     .rw[hK,e];exact a5
   refine⟨λc5=>?_,λf1=>?_⟩
   .have b6:z=z.take K++sg z K s++sg z (K+s) s++z.drop (K+2*s):=by have:=VU z K (2*s);rw[show 2*s=s+s by omega,Ra]at this;rw[show 2*s=s+s by omega];simpa only[fg]using this
    have l1:(sg z K s).length=s:=Oh oM;have l2:(sg z (K+s) s).length=s:=Oh oM;rw[e4];rw[b6]at a9;refine G.gs _ _ _ _ _ _ _ (Ou G hO hd oM _ (P:=z.take K) (L:=sg z K s) (X:=sg z (K+s) s) (Q:=z.drop (K+2*s)) nR (hc.but b4) (by rw[<-b6,a8];exact a7) a9 (by rw[a4]) (by rw[a4,l1]) (by rw[a4,l1,l2];omega) oM oM s1 s2 c8 λw5 M b5 hp a5 c9=>⟨rfl,?_⟩);have a0:M.length=2*s:=(by rw[hp.length_eq,du];omega);rw[Ag oM oM];have d5:(k+1)*(2*s)=K+2*s:=(by rw[jx,hK,Nat.one_mul]);refine⟨⟨k+1,z.take K++M++z.drop (K+2*s),oM,oM,oM,?_,?_,grow _ M _ (2*s) rfl a0 hp a5 (.inl rfl) nR,b4.trans b5,c9⟩,by show _ - Int.toNat _<_ - Int.toNat _;omega⟩
    .simp only[du,fx,a4,a0];omega
    .rw[d5,List.drop_left' (by rw[du,a4,a0]),<-jw,b0,jw]
   .refine join.named λJ hJ=>?_;have kJ:∀w' z',But g w w'->z'.length=z0.length->Chunks c (2*s) z' z0 (k+1)->RowB Q0.fc w' g z' tail->J w':=λw' z' b' e7 c6 e6=>by
     subst hJ;have e:Aa ((s:Int)*2)=((2*s:Nat):Int):=by rw[Ag oM oM];omega
     rw[e];have d5:(k+1)*(2*s)=K+2*s:=by rw[jx,hK,Nat.one_mul]
     refine⟨⟨2*s,z',rfl,oM,oM,e7,λj=>⟨λi _=>?_,λi _=>?_⟩,b',e6⟩,by show _ - Int.toNat _<_ - Int.toNat _;omega⟩
     .by_cases h:i<k+1
      .exact c6.perm i h
      .have:=ij (2*s) (show k+1<=i by omega);rw[Hp oM,Hp oM]
     .by_cases h:i<k+1
      .exact c6.sort i h
      .have:=ij (2*s) (show k+1<=i by omega);rw[Hp oM];exact .nil
    rw[e4];have c3:z.drop K=sg z K s++sg z (K+s) s:=by rw[<-Ra];unfold sg;rw[gj (by rw[fx];omega)]
    refine⟨λf2=>?_,λf0=>?_⟩
    .have b6:z=z.take K++sg z K s++sg z (K+s) s++[]:=(by rw[gd,fg,<-c3,fo]);have l1:(sg z K s).length=s:=Oh oM;have l2:(sg z K s).length+(sg z (K+s) s).length=z0.length - K:=(by rw[<-du,<-c3,fx,a8]);rw[b6]at a9;refine G.gs _ _ _ _ _ _ _ (Ou G hO hd oM _ (P:=z.take K) (L:=sg z K s) (X:=sg z (K+s) s) (Q:=[]) nR (hc.but b4) (by rw[<-b6,a8];exact a7) a9 (by rw[a4]) (by rw[a4,l1]) (by rw[a4];omega) oM oM s1 s2 c8 λw5 M b5 hp a5 c9=>⟨rfl,?_⟩);have a0:M.length=z0.length - K:=(by rw[hp.length_eq,du];exact l2);exact kJ w5 _ (b4.trans b5) (by simp only[du,ia,a4,a0];omega) (grow _ M [] _ rfl a0 hp a5 (.inr rfl) oM) c9
    .have e0:sg z (K+s) s=[]:=Hp oM;refine kJ w4 z b4 a8 (grow z (z.drop K) [] _ (by rw[gd,fo]) rfl (by rw[c3]) ?_ (.inr rfl) (by rw[fx];omega)) a9;rw[c3,e0,gd];exact s1
  .have e:sg z2 (0*s) s=z2:=(by rw[lu];unfold sg;rw[jv,gj oM]);have e0:sg z0 (0*s) s=z0:=(by rw[lu];unfold sg;rw[jv,gj oM]);have p:=(a6 1).perm 0 oM;have so:=(a6 1).sort 0 oM;rw[e]at p so;rw[e0]at p;exact hR w3 z2 b3 p so d4
def sortStable_se(G:Gos Q0)(hO:Ord3 c){tail:LV}{R:Wp}{l:List E}(hd:data.a=some ⟨g,0,none⟩)(a5:data.len<2305843009213693952)(hc:CmpOk Q0 cmp c g w)(a0:data.len=l.length)(hB:RowB Q0.cells w g l tail)
  (hR:∀w',But g w w'->RowB Q0.cells w' g (Bw c l) tail->R w'):SE.IR G.ft data cmp w R:=by
 unfold SE.IR;have a6:RowB Q0.fc w g (DZ 0 l) tail:=by
  unfold RowB at hB ⊢;have:(DZ 0 l).map Q0.fc=l.map Q0.cells:=by have h:=congrArg (List.map Q0.cells) (Qr 0 l);rw[iy]at h;exact h
  rw[this];exact hB
 refine G.gt _ _ _ _ _ (Zjl G hO hd a5 hc (by rw[Vd];exact a0) (by rw[Vd,a0]) a6 (Qs 0 l) λw2 M b2 hp hs a4=>⟨rfl,hR w2 b2 ?_⟩);have e:=Zji hO hp hs;unfold RowB at a4 ⊢;have:M.map Q0.fc=(Bw c l).map Q0.cells:=by rw[<-e,iy];rfl
 rw[<-this];exact a4
def sortStable_nil(G:Gos Q0){R:Wp}(h0:data.len=0)(hR:R w):SE.IR G.ft data cmp w R:=by unfold SE.IR;rw[h0];refine G.gt _ _ _ _ _ ?_;unfold SE.IU;refine⟨λa b w'=>a=0/\b=20/\w'=w,λ_ _ _=>0,⟨rfl,rfl,rfl⟩,?_⟩;rintro _ _ w1 ⟨rfl,rfl,a0⟩;subst a0;refine⟨λh=>by simp at h,λ_=>G.gi _ _ _ _ _ _ ?_⟩;unfold SE.IQ;refine⟨λa w'=>a=1/\w'=w1,λ_ _=>0,⟨by decide,rfl⟩,?_⟩;rintro _ w2 ⟨rfl,a4⟩;subst a4;refine⟨λh=>by simp at h,λ_=>⟨rfl,?_⟩⟩;refine⟨λa w'=>a=20/\w'=w2,λ_ _=>0,⟨rfl,rfl⟩,?_⟩;rintro _ w3 ⟨rfl,a5⟩;subst a5;exact⟨λh=>by simp at h,λ_=>⟨rfl,hR⟩⟩
end
end StG
namespace StV
def cells(x:Ver):LV:=x.c
def Q0:StG.Sh Ver:=⟨_,_,_,SE.AE,Ver.ma,Ver.mi,Ver.pa,λ_ _ _=>rfl⟩
def G0:StG.Gos Q0:=⟨353,354,393,415,289,λ_ _ _ _ _ _ h=>SE.Rl.go h,λ_ _ _ _ _ _ _ h=>SE.Ru.go h,λ_ _ _ _ _ _ _ h=>SE.Rn.go h,λ_ _ _ _ _ _ _ h=>SE.Rr.go h,λ_ _ _ _ _ h=>SE.Rp.go h⟩
def CmpOk(cmp:Value)(c:Ver->Ver->Int)(g:Nat)(w0:Wd):Prop:=
 ∀(x y:Ver)(w:Wd)(k:Value->Wp),But g w0 w->(∀w',Ext w w'->k (.int .i64 (c x y)) w')->callV prog cmp [.agg (cells x).toArray,.agg (cells y).toArray] w k
def sortStable_se{cmp:Value}{c:Ver->Ver->Int}{g:Nat}(hO:Ord3 c){tail:LV}{R:Wp}{l:List Ver}(hd:data.a=some ⟨g,0,none⟩)(a0:data.len<2305843009213693952)(hc:CmpOk cmp c g w)(a4:data.len=l.length)(hB:RowB cells w g l tail)
  (hR:∀w',But g w w'->RowB cells w' g (Bw c l) tail->R w'):SE.IY data cmp w R:=StG.sortStable_se (Q0:=Q0) G0 hO hd a0 hc a4 hB hR
def sortStable_nil{cmp:Value}{R:Wp}(h0:data.len=0)(hR:R w):SE.IY data cmp w R:=StG.sortStable_nil (Q0:=Q0) G0 h0 hR
end StV
end Go.Hal
namespace Go.Hal
def _root_.Go.RowKit.Below.keepS(h:Below lo w w')(hS:∀b,S b->b<lo):Keep S w w':=λb hb _=>h.block b (hS b hb)
def BoxAt.below(hb:BoxAt w a cs)(h:Below lo w w')(hl:a.block<lo):BoxAt w' a cs:=hb.keep (S:=λb=>b<lo) hl (h.keepS λ_ h=>h)
def SlR.below{α:Type}{E:Enc α}{l:List α}(hs:SlR E w S s l)(h:Below lo w w')(hS:∀b,S b->b<lo):SlR E w' S s l:=hs.keep (h.keepS hS)
def Zf3(a b:Pin):((Ai a.name b.name)&&(((a.v.ma==b.v.ma)&&((a.v.mi==b.v.mi)&&((a.v.pa==b.v.pa)&&true)))&&true))=decide (a=b):=by rw[Gq,Bool.and_true,gk,dx,AH,decide_eq_true_eq,decide_eq_true_eq];obtain⟨n,v⟩:=a;obtain⟨m,u⟩:=b;simp
def Zcc{l:LP}{x:Pin}(hs:SlR pinE w S s l)(hR:∀w',Ext w w'->R (AU (λy=>decide (x=y)) l) w'):SE.Mc s x.name x.v.ma x.v.mi x.v.pa w R:=by
 unfold SE.Mc;have hl:=hs.len;refine newS.intro λa w0 x0 hb _ _=>?_;refine loop1.up hs.max (λi w'=>Ext w0 w'/\(l.take i).any (λy=>decide (x=y))=false) ⟨Ext.refl _,rfl⟩ λi w1 a6 hi ⟨x1,hI⟩ hn=>⟨λa4=>bnd.drew λw2 x2=>?_,λa5=>?_⟩
 .have a0:i<l.length:=oM;obtain⟨ad,cs,ha,_,⟨rfl,_⟩,hc⟩:=hs.el a0;refine⟨_,_,_,_,hb.at0 (r:=[]) (x1.trans x2) rfl,ad,⟨ha,oM,a4⟩,_,_,_,_,hc _ (x0.trans (x1.trans x2)),?_⟩;rw[Zf3];exact⟨λh=>by rw[<-Fx (p:=λy=>decide (x=y)) a0 hI h];exact hR _ (x0.trans (x1.trans x2)),λh=>hn a0 _ ⟨x1.trans x2,by rw[F8 a0 hI];exact h⟩⟩
 .have:i=l.length:=oM;rw[this,eh]at hI;rw[<-E8 hI];exact hR _ (x0.trans x1)
def Tq{l:LP}{x:Pin}{R:Bool->Wp}(hs:SlR pinE w S s l)(hR:∀w',Ext w w'->R (decide (x∈l)) w'):SE.IW s x.name x.v.ma x.v.mi x.v.pa w R:=by
 unfold SE.IW;refine newS.intro λa w0 x0 hb _ _=>⟨_,_,_,_,hb.ldc.pre (r:=[]) rfl,SE.Mc.go (Zcc (x:=x) (hs.ext x0) λw1 x1=>⟨_,rfl,?_⟩)⟩;rw[Fw];have:l.any (λy=>decide (x=y))=decide (x∈l):=by rw[gk,jg,decide_eq_true_eq];simp
 rw[this];exact hR _ (x0.trans x1)
def catOrder_se{b:Bool}(hR:R (C7 b) w):SE.HO b w R:=by unfold SE.HO;exact⟨λh=>by subst h;exact hR,λh=>by subst h;exact hR⟩
def Yn{v:Ver}{l:Sl}{ll:LS}{R:Bool->Wp}(hc:BoxAt w c0 [l.v])(hl:SlR spanE w S l ll)(hR:∀w',Ext w w'->R (!BT ll v) w'):SE.J9 v.ma v.mi v.pa c0 w R:=by unfold SE.J9;refine newS.intro λa w1 x1 hb _ _=>⟨l,hc.at0 (r:=[]) x1 rfl,_,_,_,hb.ldc.pre (r:=[]) rfl,SE.Hv.go (Ry (v:=v) (hl.ext x1) λw2 x2=>⟨_,rfl,hR _ (x1.trans x2)⟩)⟩
def Yo{a b:Ver}{pins:Sl}{lp:LP}{c1:Addr}(a4:BoxAt w c0 [pins.v])(a5:BoxAt w c1 [.string n])(hp:SlR pinE w S pins lp)(hR:∀w',Ext w w'->R (cC lp n a b) w'):
  SE.JA a.ma a.mi a.pa b.ma b.mi b.pa c0 c1 w R:=by
 unfold SE.JA;refine newS.intro λ_ w1 x1 hb _ _=>newS.intro λ_ w2 x2 a7 _ _=>bnd.drew λw3 x3=>?_;have a6:=x2.trans x3;have a0:=x1.trans a6;refine⟨pins,a4.at0 (r:=[]) a0 rfl,n,a5.at0 (r:=[]) a0 rfl,_,_,_,a7.at0 (r:=[]) x3 rfl,pins,a4.at0 (r:=[]) a0 rfl,n,a5.at0 (r:=[]) a0 rfl,_,_,_,hb.at0 (r:=[]) a6 rfl,?_⟩;refine callX.intro (SE.IW.go (Tq (x:=⟨n,b⟩) (hp.ext a0) λw4 x4=>⟨x4,_,rfl,callX.intro (SE.HO.go (catOrder_se ⟨Ext.refl _,_,rfl,?_⟩))⟩));refine SE.IW.go (Tq (x:=⟨n,a⟩) (hp.ext (a0.trans x4)) λw5 x5=>⟨_,rfl,SE.HO.go (catOrder_se ⟨_,rfl,?_⟩)⟩);have e:Aa (C7 (decide ((⟨n,b⟩:Pin)∈lp)) - C7 (decide ((⟨n,a⟩:Pin)∈lp)))=cC lp n a b:=by
  rw[Ag]<;>unfold C7
  .rfl
  .split<;>split<;>omega
  .split<;>split<;>omega
 rw[e];exact hR _ (a0.trans (x4.trans x5))
def ZZ:Bn prog 210:=enters_of func210 kR rfl
def Zaa:Bn prog 212:=enters_of func212 kR rfl
def Yt{l pins:Sl}{ll:LS}{lp:LP}{S1:Nat->Prop}{R:Sl->Wp}(hC:CatL w S p r L)(b7:Old S1 w)(b8:Old S2 w)(hl:SlR spanE w S1 l ll)(hp:SlR pinE w S2 pins lp)
  (hR:∀t w',Ext w w'->FlatO Ver.c 24 w' w.heap.size t (D9 L n ll lp)->R t w'):SE.J8 (some p) n l pins w R:=by
 unfold SE.J8;refine newS.intro λa w1 x1 hb _ _=>newS.intro λa1 w2 x2 b9 _ _=>newS.intro λa3 w3 x3 b0 _ _=>?_;have a0:=x1.trans (x2.trans x3);have a6:=hb.ext (x2.trans x3);have a4:=b9.ext x3;refine⟨n,a6.ldc.pre (r:=[]) rfl,SE.Fo.go (Yy (hC.ext a0) λt w4 x4 hF=>⟨_,rfl,?_⟩)⟩;have s4:=x4.size;refine SE.LM.go (Ze (d:=λv=>!BT ll v) hF s4 (λx _ w' k hw hk=>?_) λt2 w5 b5 a9=>⟨_,rfl,?_⟩)
 .refine⟨_,_,rfl,ZZ,SE.J9.go (Yn (v:=x) (l:=l) (ll:=ll) (S:=S1) ?_ ?_ hk)⟩
  .exact(a4.ext x4).below hw a4.lt
  .exact(hl.ext (a0.trans x4)).below hw λb hb=>jd (b7 b hb) a0.size
 .have e:(D0 n L).filter (λx=>!(!BT ll x))=(D0 n L).filter (BT ll):=by simp
  rw[e]at a9;have xB:Below w3.heap.size w3 w5:=Below.trans x4 b5;have fin:∀w6,Below w3.heap.size w3 w6->FlatO Ver.c 24 w6 w3.heap.size t2 (D9 L n ll lp)->callS prog 215 [t2.v] w6 (λc3 c4=>∃b4:Sl,c3=b4.v/\R b4 c4):=λw6 b6 a5=>by refine SE.Ol.go ⟨⟨oM,oM,oM,by have:=a5.1;have:=a5.2.1;omega⟩,_,rfl,hR _ _ (a0.trans b6) ?_⟩;obtain⟨a,b,c,d,e⟩:=a5.clip (k:=3);exact⟨a,b,c,d,e.imp id λ⟨g,tail,a,b,c⟩=>⟨g,tail,a,fe a0.size b,c⟩⟩
  obtain⟨k1,k2,k3,k4,k5⟩:=a9;rcases k5 with k5|⟨g,tail,ha,hg,hr⟩
  .refine SE.IY.go (StV.sortStable_nil (by rw[k1,k5];rfl) ⟨rfl,fin w5 xB ?_⟩);have:D9 L n ll lp=[]:=(by rw[<-Nb,k5];rfl);rw[this];rw[k5]at k1 k2;exact⟨k1,k2,k3,by simp,.inl rfl⟩
  .refine SE.IY.go (StV.sortStable_se (Yg lp n) ha (by rw[k1];unfold Ab at k4;omega) (λx y w' k hw hk=>?_) k1 hr λw6 b6 b2=>⟨rfl,fin w6 (Below.trans xB (b6.below (by have:=xB.size;omega) hg)) ?_⟩)
   .have a8:Below w3.heap.size w3 w':=Below.trans xB (hw.below (by have:=xB.size;omega) hg);refine⟨_,_,rfl,Zaa,SE.JA.go (Yo (a:=x) (b:=y) (n:=n) (pins:=pins) (lp:=lp) (S:=S2) ?_ ?_ ?_ hk)⟩
    .exact b0.below a8 b0.lt
    .exact a6.below a8 (jd a6.lt nR)
    .exact(hp.ext a0).below a8 λb hb=>jd (b8 b hb) a0.size
   .rw[Nb]at b2;have a7:(D9 L n ll lp).length=((D0 n L).filter (BT ll)).length:=by rw[<-Nb];exact(Gm _).length_eq
    exact⟨by rw[a7];exact k1,by rw[a7];exact k2,k3,by rw[a7];exact k4,.inr ⟨g,tail,ha,hg,b2⟩⟩
structure PackC where
 name:Bs
 v:Ver
 d:Sl
 e:Sl
 o:Sl
instance:Inhabited PackC:=⟨⟨⟨#[]⟩,⟨0,0,0⟩,Sl.nil,Sl.nil,Sl.nil⟩⟩
def Tm{x y:Int}(hs:SlR Cd w S s [x,y])(hR:R (AN x y) w):SE.Ez s w R:=
 Tp hs (by
  have: [x,y].foldr AN 0=AN x y:=by
   show AN x (AN y 0)=_;have:AN y 0=y:=by unfold AN;split<;>simp_all
   rw[this]
  rw[this];exact hR)
def OX:B0 prog 22 68 7 112:=CD (z:=.agg #[.string ⟨#[]⟩,vi 0,vi 0,vi 0,.slice none 0 0,.slice none 0 0,.slice none 0 0]) kR kR rfl dC
def RK{mD dR:Sl}{dN:Bs}{over:LD}{dr:LS}{R:Sl->Wp}(hS:Old S w)(hO:SlR depE w S mOv over)(hd:SlR spanE w S dR dr)
  (hR:∀t w',Ext w w'->SlP spanE w' (λb=>w.heap.size<=b/\b<w'.heap.size) t (Eb over dN dr)->R t w'):SE.H2 mD mDev mOpt mOv dN dR w R:=by
 unfold SE.H2;refine newS.intro λa w1 x1 ha _ _=>newS.intro λa1 w2 x2 a8 _ _=>?_;have b0:=x1.trans x2;have hl:=hO.len;refine⟨mOv,ha.at1 x2 rfl,loop1.up hO.max (λi w'=>Ext w2 w'/\∀k<i,∀e:Dep,over[k]?=some e-> ¬e.name=dN) ⟨Ext.refl _,λk hk=>by omega⟩ λi w3 c4 hi ⟨x3,hI⟩ hn=>⟨λb4=>?_,λb9=>?_⟩⟩
 .have a4:i<over.length:=oM;have a0:=b0.trans x3;obtain⟨ad,t,b7,_,c3,hr,hc⟩:=BD hO a4;refine⟨ad,⟨b7,oM,b4⟩,_,t,hc _ a0,newS.intro λa5 w4 x4 b2 b8 _=>stw0.intro b2 sI λw5 b5 _ a9=>⟨_,a9.ldc.pre rfl,dN,(a8.ext x3).at0 (b5.ext x4 oM) rfl,λhe=>?_,λb6=>?_⟩⟩
  .have a7:Ext w3 w5:=b5.ext x4 oM;have a6:=a0.trans a7;refine⟨t,a9.at1 (k:=1) xR rfl,SE.Hr.go (Pt (hS.ext a6.size) (hr.ext a6) λu w6 x6 hu=>⟨_,rfl,?_⟩)⟩;refine hR _ _ (a6.trans x6) ?_;rw[Zfk (dt a4) he hI];have:=a6.size;exact hu.mono λb hb=>⟨oM,hb.2⟩
  .have a7:Ext w3 w5:=b5.ext x4 oM;refine hn a4 _ ⟨x3.trans a7,λk hk e he=>?_⟩;obtain h|rfl:=ik.1 hk
   .exact hI k h e he
   .rw[dt a4,eu]at he;subst he;exact b6
 .have a0:=b0.trans x3;refine⟨dR,(a8.ext x3).at1 (k:=1) xR rfl,SE.Hr.go (Pt (hS.ext a0.size) (hd.ext a0) λu w6 x6 hu=>⟨_,rfl,?_⟩)⟩;refine hR _ _ (a0.trans x6) ?_;rw[Zfl λk e he=>hI k (by have:=(fh.1 he).1;omega) e he];have:=a0.size;exact hu.mono λb hb=>⟨oM,hb.2⟩
def SlP.clip{α:Type}{E:Enc α}{l:List α}{k:Nat}(h:SlP E w S s l):SlP E w S (Sl.mk (if(s.len:Int).toNat=0 then s.a else s.a.map (·.add (0*k))) ((s.len:Int).toNat - 0) ((s.len:Int).toNat - 0)) l:=by
 have ea:(if(s.len:Int).toNat=0 then s.a else s.a.map (·.add (0*k)))=s.a:=by
  split
  .rfl
  .rw[lu];cases s.a<;>rfl
 rw[ea];obtain⟨⟨h1,h2,h3,h4,h5⟩,h6⟩:=h;exact⟨⟨by simp[h1],by simp[h1],by simp[h1];omega,h4,h5⟩,h6⟩
def Tk(h:s.len<=s.cap):(0:Int)<=0/\0<=(s.len:Int)/\(s.len:Int)<=(s.len:Int)/\(s.len:Int)<=(s.cap:Int):=⟨oM,oM,oM,oM⟩
def wantsPeers_se{pN:Bs}{v1 v2 v3:Int}{pD pP pO mD:Sl}{over peers:LD}{R:Sl->Wp}(hS:Old S w)(hO:SlR depE w S mOv over)(hp:SlR depE w S pP peers)
  (hR:∀t w',Ext w w'->SlP depP w' (λb=>w.heap.size<=b/\b<w'.heap.size) t (BJ over peers)->R t w'):SE.MA pN v1 v2 v3 pD pP pO mD mDev mOpt mOv w R:=by
 unfold SE.MA;refine newS.intro λa w1 x1 ha _ _=>newS.intro λa1 w2 x2 c4 _ _=>?_;have b0:=x1.trans x2;have hl:=hp.len;have h4:=hp.2.2.2.1;have b4:depE.bytes=40:=rfl;have b6:depP.bytes=40:=rfl;refine⟨pP,ha.at1 x2 rfl,loop2.up hp.max (λout i w'=>Ext w2 w'/\∃Q,OwnS depP 96 w' w2.heap.size Q out (BJ over (peers.take i))/\∀b,Q b->w2.heap.size<=b) ⟨Ext.refl _,_,OwnS.zero _,λ_ h=>h.elim⟩ λout i w3 d5 hi ⟨x3,Q,own,hQ⟩ hn=>⟨λc7=>?_,λd4=>?_⟩⟩
 .have a0:i<peers.length:=oM;have c3:=b0.trans x3;obtain⟨ad,t,c9,_,c8,hr,hc⟩:=BD hp a0;refine⟨ad,⟨c9,oM,c7⟩,_,t,hc _ c3,newS.intro λa5 w4 x4 c5 d2 _=>stw0.intro c5 sI λw5 b5 _ b7=>bnd.drew λw6 x6=>?_⟩;have d1:Ext w3 w5:=b5.ext x4 oM;have a6:=d1.trans x6;have a4:=c3.trans a6;refine⟨_,b7.at0 x6 rfl,mD,mDev,mOpt,mOv,(c4.ext x3).at0 (r:=[]) a6 rfl,_,t,b7.at0 (r:=[]) x6 rfl,callX.intro (SE.H2.go (RK (hS.ext a4.size) (hO.ext a4) (hr.ext a4) λu w7 x7 hu=>⟨x7,_,rfl,newS.intro λa7 w8 x8 c6 d3 _=>?_⟩))⟩;have b2:=a6.trans (x7.trans x8);have s6:=a4.size;have d6:=a6.size;have s3:=x3.size;have s8:=x8.size;have s7:=x7.size;have d0:=(hu.ext x8).mono (S':=λb=>w6.heap.size<=b/\b<w8.heap.size) λb hb=>⟨hb.1,oM⟩;have a8:(BJ over (peers.take i)).length=i:=by simp[BJ];omega
  refine(own.ext b2).push Jv (x3.trans b2).size (x:=⟨peers[i].name,Eb over peers[i].name peers[i].range⟩) (S':=λb=>w6.heap.size<=b/\b<w8.heap.size) ⟨c8,u,rfl,d0⟩ c6.ldc (λb hb=>hb.2) (λad ha hb=>?_) (by rw[a8];rw[b4]at h4;rw[b6];omega) (by rw[a8];have:=hp.max;omega) λr w9 b9 bel _ _=>hn a0 _ _ ⟨(x3.trans b2).trans' bel,λb=>Q b\/(w6.heap.size<=b/\b<w8.heap.size),?_,λb hb=>?_⟩
  .have:=(own.block ha).2.1;omega
  .have e:BJ over (peers.take (i+1))=BJ over (peers.take i)++[⟨peers[i].name,Eb over peers[i].name peers[i].range⟩]:=(by unfold BJ;rw[dw a0,fq];rfl);rw[e];exact b9
  .obtain hb|hb:=hb
   .exact hQ b hb
   .omega
 .have:i=peers.length:=oM;rw[this,eh]at own;have b8:(BJ over peers).length=peers.length:=by simp[BJ]
  have a9:=own.readP (by rw[b8,b6];rw[b4]at h4;exact h4) (by rw[b8];exact hp.max);refine SE.Ri.go ⟨Tk (by have:=a9.1.1;have:=a9.1.2.1;omega),_,rfl,hR _ _ (b0.trans x3) (a9.clip.mono λb hb=>?_)⟩;have:=b0.size;rcases hb with hb|⟨ad,ha,rfl⟩
  .have:=hQ b hb;have:=own.lt b hb;exact⟨oM,oM⟩
  .have:=own.block ha;exact⟨oM,this.2.1⟩
def Qp{x:Pack}(h:AQ x=true):Af x.name=true/\x.v.may=true/\Av x.deps=true/\Av x.peers=true/\Av x.opt=true:=by unfold AQ C5 at h;simp only[dx]at h;exact⟨h.1.1.1.1.1,h.1.1.1.1.2,h.1.1.1.2,h.1.1.2,h.1.2⟩
def Zf1(over l:LD):(BJ over l).map (·.name)=l.map (·.name):=by unfold BJ;rw[iy];rfl
def Tw(hg:GoodL L){over:LD}{env:LP}{p:Pin}{out:LP}(h:CtxI (AR L) over env p i out):out.length<=2048:=by
 have h1:=KP (m:=L.flatMap λx=>x.peers.map (·.name)) h.names λn hn=>by
  obtain⟨r,hr,rfl⟩:=gq.1 hn;have key:∀r,Reach (AR L) over env p r->r.name∈L.flatMap λx=>x.peers.map (·.name):=λr hr=>by
   have ask:∀q r,H5 (AR L) over env q r->r.name∈L.flatMap λx=>x.peers.map (·.name):=λq r ⟨x,d,hx,hd,hn,_⟩=>(by refine List.mem_flatMap.2 ⟨x,(Kh hx).1,?_⟩;rw[<-Zf1 over,hn];exact ip hd);cases hr with
   |one ha=>exact ask _ _ ha
   |more _ ha=>exact ask _ _ ha
  exact key r (h.reach r hr)
 have h2:∀L:List Pack,(∀x∈L,AQ x=true)->(L.flatMap λx=>x.peers.map (·.name)).length<=16*L.length:=λL=>by
  induction L with
  |nil=>intro _;simp
  |cons x r ih=>intro h;have:=ih λy hy=>h y (.tail _ hy);have:=(BX (Qp (h x (.head _))).2.2.2.1).1;simp only[List.flatMap_cons,du,dz,fl];omega
 have h3:=h2 L hg.may;have:=hg.le;rw[dz]at h1;omega
def AW(p:Pin):LV:=[.string p.name,vi p.v.ma,vi p.v.mi,vi p.v.pa]
def Apart(s t:Sl):Prop:=∀ad ad',s.a=some ad->t.a=some ad'->ad.block≠ad'.block
def OwnS.pushA{α β:Type}{E:Enc α}{F:Enc β}{P:Program}{e e2:TypeId}{s2:Sl}{l:List α}{l2:List β}{x:α}{k:Sl->Wp}(h:OwnS E e w lo None' s l)(h2:OwnS F e2 w lo None' s2 l2)(hA:Apart s s2)(a7:lo<=w.heap.size)(hT:B0 P t e E.n E.bytes)
  (hx:E.rep w None' x cs) (hc:ldc w a cs) (hb:(l.length+1)*E.bytes<=Ab) (hm:l.length+1<=maxLen) (hk:∀r w',OwnS E e w' lo None' r (l++[x])->OwnS F e2 w' lo None' s2 l2->Apart r s2->Below lo w w'->(∀b,b<w.heap.size->(∀ad,s.a=some ad->b≠ad.block)->w'.heap[b]?=w.heap[b]?)->(∀ad,r.a=some ad->(s.a=some ad\/w.heap.size<=ad.block))->k r w'):appS P t t s (Sl.v ⟨some a,1,1⟩) w k:=by
 refine h.push hT a7 hx hc (λ_ h=>h.elim) (λ_ _ h=>h.elim) hb hm λr w' own bel oth a4=>hk r w' (own.mono (λ_ h=>h.elim id id) (λ_ h=>h.elim) (λ_ _ h=>h.elim)) (h2.keep bel.size λb a6 a0=>?_) (λad a5 h3 h4=>?_) bel oth a4
 .rcases a0 with a0|⟨ad,ha,rfl⟩
  .exact a0.elim
  .exact oth _ a6 λa5 h'=>Ne.symm (hA _ _ h' ha)
 .obtain h5|h5:=a4 ad h3
  .exact hA _ _ h5 h4
  .have:=(h2.block h4).2.1;omega
def Apart.swap{t:Sl}(h:Apart s t):Apart t s:=λa b h1 h2=>Ne.symm (h b a h2 h1)
def newS.own{α:Type}{E:Enc α}{x:α}{k:Addr->Wp}(hx:E.rep w None' x cs)(h:∀a w',Ext w w'->OwnS E t w' w.heap.size None' ⟨some a,1,1⟩ [x]->a.block=w.heap.size->k a w'):newS w cs t k:=λa w' ha hw=>by
 subst ha hw;have hl:=E.len hx;refine h _ _ (Ext.alloc _ _) ⟨⟨[cs],⟨by simp[hl],.inr ⟨w.heap.size,1,cs.toArray,rfl,fm _,heap_alloc_new w _,fm _,by rw[Al];omega,by simp[hl],?_⟩⟩,rfl,λi y hy=>?_⟩,rfl,λ_ h=>h.elim,λ_ _ h=>h.elim⟩ rfl
 .simp[hl,gj (Nat.le_of_eq hl)]
 .cases i with
  |zero=>simp only[ja,eu]at hy;subst hy;exact⟨cs,rfl,E.keep hx ((Ext.alloc w _).keep _)⟩
  |succ i=>simp at hy
def Jw:B0 prog 69 166 4 40:=CD (z:=.agg #[.string ⟨#[]⟩,vi 0,vi 0,vi 0]) kR kR rfl dC
def YI{q:Pin}{R:Bool->Wp}(hc:BoxAt w c0 [.string n])(hR:∀w',Ext w w'->R (Aw n q) w'):SE.M6 q.name q.v.ma q.v.mi q.v.pa c0 w R:=by
 unfold SE.M6;refine newS.intro λa w1 x1 hb _ _=>⟨_,hb.at0 xR rfl,n,hc.at0 (r:=[]) x1 rfl,?_⟩;have e:Ai q.name n=Aw n q:=by unfold Aw;rw[gk,AH,decide_eq_true_eq]
 rw[e];exact hR _ x1
def Zab:Bn prog 191:=enters_of func191 kR rfl
def ctx1_se{R:Value->Wp}(hR:∀f w',Ext w w'->(∀l:LP,Fg f (λx=>.agg #[.string x.name,vi x.v.ma,vi x.v.mi,vi x.v.pa]) (Aw n) l w')->R f w'):SE.Jk n w R:=by unfold SE.Jk;refine newS.intro λa w1 x1 hb _ _=>hR _ w1 x1 λl x _ w' k hx hk=>⟨_,_,rfl,Zab,SE.M6.go (YI (q:=x) (n:=n) (hb.ext hx) hk)⟩
def YJ{a b:Pin}(hR:∀w',Gr w w'->R (A7 a.name b.name) w'):SE.M7 a.name a.v.ma a.v.mi a.v.pa b.name b.v.ma b.v.mi b.v.pa w R:=by unfold SE.M7;refine newS.gr λ_ w1 x1 hb=>newS.gr λ_ w2 x2 a0=>⟨_,Gr.at0 hb x2 rfl,_,Gr.at0 a0 (Gr.refl _) rfl,ET ⟨_,rfl,hR _ (x1.trans x2)⟩⟩
def ZK:Bn prog 193:=enters_of func193 kR rfl
def PY:∀w,(isAgg 166).run prog w= .ok true w:=λw=>by kernel_rfl
def Rf:∀w,(Go.sizeOf 166).run prog w= .ok 4 w:=λw=>by kernel_rfl
def Ziz{l:LP}{K:Value->Wp}(h:FlatO AW 40 w lo s l)(a4:lo<=w.heap.size)(hn:(l.map (·.name)).Nodup)
  (hK:∀w',Below lo w w'->FlatO AW 40 w' lo s (BA l)->K (.tuple #[]) w'):
  callS prog 130 [s.v,.func (.func 193) #[] #[]] w K:=by
 obtain⟨h1,h2,h3,h4,h5⟩:=h;obtain⟨a,n,c⟩:=s;simp only at h1 h2 h3 h5;subst h1;rcases h5 with rfl|⟨g,tail,ha,hg,hr⟩
 .refine(AnyF.slices_SortFunc_none Tryz.laySp a c _ w).mono λe w' ⟨he,hw⟩=>⟨_,he,?_⟩;subst hw;exact hK _ (Below.refl _ _) ⟨rfl,h2,h3,h4,.inl rfl⟩
 .subst ha;have hO:=DB (α:=Pin) (·.name);refine F7 Tryz.laySp (k:=4) PY Rf (f:=AW) (λ_=>rfl) (λx v hv=>by simp[AW]at hv;rcases hv with rfl|rfl|rfl|rfl<;>rfl) (λa b=>A7 a.name b.name) (EU hO.flip hO.trans) 193 #[] ZK (λw0 x y hb _=>?_) hr (by unfold Ab at h4;omega) rfl λl' w' hp hs b a5=>?_
  .have h:=SE.M7.go (k:=λv w'=>v= .int .i64 (A7 x.name y.name)/\Gr w0 w') (YJ (a:=x) (b:=y) (w:=w0) λw' h=>⟨rfl,h⟩);exact Calls.mono h λe w' ⟨v,he,hv,hg⟩=>⟨by rw[he,hv],hg⟩
  .have e:l'=BA l:=by refine Rises.one ?_ (Rx hn) (hp.trans (EP l).symm);have a0:(l'.map (·.name)).Nodup:=(hp.map _).nodup_iff.2 hn;rw[gz,iq]at a0;exact(hs.and a0).imp λ{a b} h=>Jy (by have:=hO.flip b a;have:=hO.flip a b;omega) h.2
   subst e;have hl:=(EP l).length_eq;exact hK w' (b.below a4 hg) ⟨hl.symm,by rw[hl];exact h2,h3,by rw[hl];exact h4,.inr ⟨g,tail,rfl,hg,a5⟩⟩
def Dg{l:LP}(h:SlR pinE w S s l){n:Nat}(hn:n<l.length):
  ∃ad,s.a=some ad/\S ad.block/\Ac l[n].name/\∀w',Ext w w'->ldc w' (ad.add (n*4)) (AW l[n]):=by
 obtain⟨ad,cs,h1,h2,⟨rfl,h3⟩,h4⟩:=h.el hn;exact⟨ad,h1,h2,h3,h4⟩
def OwnS.el{α:Type}{E:Enc α}{T:TypeId}{l:List α}(h:OwnS E T w lo S s l){x:α}(hx:l[i]?=some x):∃ad cs,s.a=some ad/\E.rep w S x cs/\∀w',Ext w w'->ldc w' (ad.add (i*E.n)) cs:=by
 obtain⟨css,ho,hl,hr⟩:=h.row;obtain⟨cs,h1,h2⟩:=hr i x hx;rcases ho.2 with⟨hv,hn⟩|⟨g,cap,a7,hv,hg,hh,hc,a8,a4,ht⟩
 .have:=(fh.1 hx).1;have:=h.len;omega
 .simp[Sl.v]at hv;refine⟨⟨g,0,none⟩,cs,hv.1,h2,λw' a5=>?_⟩;have a0:∀cs∈css,cs.length=E.n:=by intro cs a4;obtain⟨k,hk,he⟩:=fp.1 a4;obtain⟨a6,h3,h4⟩:=hr k _ (dt oM);rw[dt hk,he,eu]at h3;rw[h3];exact E.len h4
  have:ldc w ((⟨g,0,none⟩:Addr).add (i*E.n)) cs:=λj v hj=>by rw[CX];exact ho.cells (g:=g) (by simp[Value.ownBlock,Sl.v,hv.1]) _ _ (Nx a0 h1 hj)
  exact this.ext a5
def Zj6{env:LP}:(AU (Aw n) env<0/\tells env n=none)\/∃k,∃hk:k<env.length,AU (Aw n) env=(k:Int)/\tells env n=some env[k].v/\env[k].name=n:=by
 unfold AU tells;cases hf:env.findIdx? (Aw n)with
 |none=>left;refine⟨by decide,?_⟩;rw[Option.map_eq_none_iff,kq];intro x hx;have:=mj.1 hf x hx;simp[this]
 |some k=>
  right;obtain⟨hk,hp,hb⟩:=lq.1 hf;refine⟨k,hk,rfl,?_,by simpa[Aw]using hp⟩;have h0:(env.take k).find? (Aw n)=none:=by rw[kq];intro x hx;obtain⟨j,hj,rfl⟩:=fp.1 hx;rw[fb]at hj;rw[jh];exact hb j oM
  have h1:(env.take (k+1)).find? (Aw n)=some env[k]:=by rw[dw hk,List.find?_append,h0];simp[List.find?_cons,hp]
  have h2:env.find? (Aw n)=some env[k]:=by have e:env.find? (Aw n)=(env.take (k+1)++env.drop (k+1)).find? (Aw n):=(by rw[fo]);rw[e,List.find?_append,h1];rfl
  rw[h2];rfl
def CZ(L:List Pack)(over:LD)(env:LP)(p:Pin):Option (List Pin):=ctx (AR L) over env p
def Kp(lo c d:Nat)(w w':Wd):Prop:=Below lo w w'/\∀b,c<=b->b<d->w'.heap[b]?=w.heap[b]?
def Kp.refl(lo c d:Nat)(w:Wd):Kp lo c d w w:=⟨Below.refl _ _,λ_ _ _=>rfl⟩
def Kp.trans{c d:Nat}{u v:Wd}(h:Kp lo c d u v)(k:Kp lo c d v w):Kp lo c d u w:=⟨Below.trans h.1 k.1,λb h1 h2=>(k.2 b h1 h2).trans (h.2 b h1 h2)⟩
def Kp.ext{c d:Nat}{u v:Wd}(h:Kp lo c d u v)(hx:Ext v w)(h1:lo<=v.heap.size)(h2:d<=v.heap.size):Kp lo c d u w:=h.trans ⟨Below.mono hx h1,λb _ h3=>hx.block oM⟩
def Zlk{mD envS:Sl}{over:LD}{env:LP}{pn:Pin}{S3:Nat->Prop}{R:Sl->Bool->Wp}
  (hC:CatL w S p r L) (o5:Old S2 w) (v8:Old S3 w) (hO:SlR depE w S2 mOv over) (hE:SlR pinE w S3 envS env) (j7:Ac pn.name)
  (g7:∀a t w',CZ L over env pn=some a->Ext w w'->FlatO AW 40 w' w.heap.size t a->(∀q∈a,Ac q.name)->R t true w') (c5:∀w',CZ L over env pn=none->Ext w w'->R Sl.nil false w'):
  SE.M5 (some p) mD mDev mOpt mOv envS pn.name pn.v.ma pn.v.mi pn.v.pa w R:=by
 unfold SE.M5;have d5:=hC.good;refine newS.intro λa w1 x1 ha _ _=>newS.intro λa1 w2 x2 o9 _ _=>⟨nO,λ_=>?_⟩;have l9:=x1.trans x2;have f5:pinE.bytes=40:=rfl;have v7:=hE.len;have r9:=l9.size;have a0:∀w',Below w2.heap.size w2 w'->Ext w w':=λw' hb=>l9.trans' (Below.mono hb r9);have h8:=ha.ext x2;refine⟨_,_,_,_,o9.ldc.pre (r:=[]) rfl,newS.own (E:=pinE) (x:=pn) ⟨rfl,j7⟩ λa3 w4 x4 k6 v2=>?_⟩;refine loop3.ghost (λn all d9 i w'=>∃(out:LP) (k:Nat),i=(k:Int)/\n=env.length+2 - k/\CtxI (AR L) over env pn k out/\Cu (AR L) over env pn (env.length+2 - k) k out=Cu (AR L) over env pn (env.length+2) 0 []/\(∀q∈pn::out,Ac q.name)/\
   Below w2.heap.size w2 w'/\OwnS pinE 166 w' w2.heap.size None' all (pn::out)/\OwnS pinE 166 w' w2.heap.size None' d9 out/\Apart d9 all) (env.length+2)
  ⟨[],0,rfl,rfl,CtxI.zero,rfl,by simpa using j7,x4,k6,(OwnS.nil _ _).mono (λ_ h=>h) (λ_ h=>h.elim) (λ_ h=>by cases h),λ_ _ h=>by cases h⟩ λn all d9 i w5 y4 hJ hn=>?_
 obtain⟨out,k,rfl,rfl,hI,c4,d0,b5,oA,oC,n8⟩:=hJ;have n7:=oA.len;have v6:=oC.len;have x8:=hI.le;have u0:=hI.len;have w0:=Tw d5 hI;have s5:=b5.size;refine⟨λy0=>join.named λJ hJ=>?_,λx0=>?_⟩
 .have hk:k<(pn::out).length:=oM;have x3:k<out.length+1:=hk;have d6:(pn::out)[k]?=some (pn::out)[k]:=dt hk;have y3:Ac (pn::out)[k].name:=d0 _ (ff hk);generalize hq:(pn::out)[k]=q at*;have hf:env.length+2 - k=(env.length+1 - k)+1:=oM;have kJ:∀a6 w6 d e o,Ext w5 w6->BoxAt w6 a6 [.string (getD L q.name q.v).name,.int .i64 (getD L q.name q.v).v.ma,.int .i64 (getD L q.name q.v).v.mi,.int .i64 (getD L q.name q.v).v.pa,Sl.v d,Sl.v e,Sl.v o]->
    SlR depE w6 (λb=>b<w6.heap.size) e (getD L q.name q.v).peers->J a6 (AR L q.name q.v).isSome w6:=λa6 w6 d e o x6 i4 he=>by
   subst hJ;have b6:Below w2.heap.size w2 w6:=Below.trans b5 (Below.mono x6 s5);have s6:=b6.size;have y5:=x6.size;refine⟨λh=>?_,λh=>?_⟩
   .refine c5 w6 ?_ (a0 _ b6);have hg:AR L q.name q.v=none:=by
     cases hg:AR L q.name q.v with
     |none=>rfl
     |some y=>rw[hg]at h;simp at h
    rw[hf,YO d6 hg]at c4;unfold CZ ctx;rw[<-c4];rfl
   .obtain⟨y,hg⟩:∃y,AR L q.name q.v=some y:=by
     cases hg:AR L q.name q.v with
     |none=>rw[hg]at h;simp at h
     |some y=>exact⟨y,rfl⟩
    have hD:getD L q.name q.v=y:=(by unfold getD;rw[hg];rfl);rw[hD]at i4 he;have r4:=(Kh hg).1;have p5:=BX (Qp (d5.may y r4)).2.2.2.1;refine⟨_,_,_,_,_,_,_,i4.ldc.pre (r:=[]) rfl,mD,mDev,mOpt,mOv,(h8.below b6 h8.lt).ldc.pre (r:=[]) rfl,?_⟩;have f9:Old (λb=>b<w6.heap.size) w6:=λb hb=>hb;have o4:SlR depE w6 (λb=>b<w6.heap.size) mOv over:=(hO.ext (a0 _ b6)).mono λb hb=>jd (o5 b hb) (a0 _ b6).size;refine SE.MA.go (wantsPeers_se f9 o4 he λt w7 x7 ht=>⟨_,rfl,?_⟩);have b7:Below w2.heap.size w2 w7:=Below.trans b6 (Below.mono x7 s6);have s7:=x7.size;have hT:=ht.dep;have v9:=hT.len;have y2:(BJ over y.peers).length<=16:=(by unfold BJ;rw[dz];exact p5.1);have g4:∀c7,B7 env (BJ over y.peers) out=some c7->CtxI (AR L) over env pn (k+1) c7/\Cu (AR L) over env pn (env.length+2 - (k+1)) (k+1) c7=Cu (AR L) over env pn (env.length+2) 0 []:=λc7 hs=>by refine⟨hI.next d6 hg hs,?_⟩;rw[<-c4,hf,YN d6 hg hs,show env.length+2 - (k+1)=env.length+1 - k by omega]
    have d4:B7 env (BJ over y.peers) out=none->CZ L over env pn=none:=λhs=>(by rw[hf,YM d6 hg hs]at c4;unfold CZ ctx;rw[<-c4];rfl);generalize hP:BJ over y.peers=P at*;have r7:=oA.ext (x6.trans x7);have r8:=oC.ext (x6.trans x7);refine loop3.ghost (λn2 c6 a9 j w'=>∃(o2:LP) (m:Nat),j=(m:Int)/\n2=P.length - m/\m<=P.length/\B7 env (P.drop m) o2=B7 env P out/\o2.length<=out.length+m/\(∀q∈pn::o2,Ac q.name)/\
     Kp w2.heap.size w6.heap.size w7.heap.size w7 w'/\OwnS pinE 166 w' w2.heap.size None' c6 (pn::o2)/\OwnS pinE 166 w' w2.heap.size None' a9 o2/\Apart a9 c6/\
     (∀ad,c6.a=some ad->ad.block<w6.heap.size\/w7.heap.size<=ad.block)/\∀ad,a9.a=some ad->ad.block<w6.heap.size\/w7.heap.size<=ad.block) P.length
     ⟨out,0,rfl,rfl,gn _,rfl,oM,d0,Kp.refl _ _ _ _,r7,r8,n8,λad h=>.inl (by have:=(oA.block h).2.1;omega),λad h=>.inl (by have:=(oC.block h).2.1;omega)⟩ λn2 c6 a9 j w8 k0 e0 p7=>?_
    obtain⟨o2,m,rfl,rfl,hm,a4,y1,a7,k8,g9,e3,c9,g5,g6⟩:=e0;have b8:Below w2.heap.size w2 w8:=Below.trans b7 k8.1;have s8:=k8.1.size;have o8:SlR depE w8 (λb=>w6.heap.size<=b/\b<w7.heap.size) t P:=hT.keep λb hb _=>k8.2 b hb.1 hb.2;refine⟨λj3=>join.named λJ2 e0=>?_,λt8=>?_⟩
    .have e2:m<P.length:=oM;obtain⟨ad,tr,r0,_,p8,q0,p4⟩:=BD o8 e2;have g1:P.drop m=P[m]::P.drop (m+1):=fu e2;generalize w3:P[m]=d1 at*;rw[g1]at a4;have j9:∀a8 b0 o3 w9,B7 env (P.drop (m+1)) o3=B7 env P out->o3.length<=out.length+(m+1)->(∀q∈pn::o3,Ac q.name)->Kp w2.heap.size w6.heap.size w7.heap.size w7 w9->OwnS pinE 166 w9 w2.heap.size None' a8 (pn::o3)->OwnS pinE 166 w9 w2.heap.size None' b0 o3->Apart b0 a8->
       (∀ad,a8.a=some ad->ad.block<w6.heap.size\/w7.heap.size<=ad.block)->(∀ad,b0.a=some ad->ad.block<w6.heap.size\/w7.heap.size<=ad.block)->J2 a8 b0 w9:=λa8 b0 o3 w9 q1 q2 q3 q4 q5 q6 q7 q8 q9=>by
      subst e0;show k0 _ _ _ _;rw[Ag oM oM];exact p7 _ _ _ _ _ oM ⟨o3,m+1,oM,rfl,oM,q1,q2,q3,q4,q5,q6,q7,q8,q9⟩
     clear e0;refine⟨ad,⟨r0,oM,j3⟩,_,tr,p4 _ xR,newS.intro λu6 w9 x9 p0 v5 _=>stw0.intro p0 sI λs0 n0 _ e6=>⟨_,e6.ldc.pre rfl,?_⟩⟩;have m7:Ext w8 s0:=n0.ext x9 oM;refine SE.Jk.go (ctx1_se λf y7 m0 o6=>⟨_,rfl,?_⟩);have e9:=m7.trans m0;have n9:=hE.ext (a0 _ b8);refine SE.Hu.go (idxPin_se (p:=Aw d1.name) (n9.ext e9) (o6 env) λy8 m1=>⟨_,rfl,bnd.drew λk7 m2=>bound ?_⟩);have d7:=e9.trans (m1.trans m2);have h7:Below w2.heap.size w2 k7:=Below.trans b8 (Below.mono d7 oM);have e7:=e6.ext (m0.trans (m1.trans m2));rcases Zj6 (env:=env) (n:=d1.name)with⟨j4,r3⟩|⟨kk,p6,j0,g8,j1⟩
     .have d3:decide (AU (Aw d1.name) env<0)=true:=(by simpa using j4);rw[d3];refine⟨Sl.nil,nO,⟨0,0,none⟩,nO,0,0,0,nO,nO,λ_=>⟨λ_=>?_,nO⟩⟩;refine c5 k7 (d4 ?_) (a0 _ h7);rw[<-a4];exact YS r3
     .rw[j0];have d3:decide ((kk:Int)<0)=false:=by simp
      rw[d3];obtain⟨ae,g2,t7,_,g3⟩:=Dg hE p6;refine⟨tr,λ_=>e7.at1 (k:=1) xR rfl,ae,λ_=>⟨g2,oM,oM⟩,_,_,_,λ_=>(g3 _ (a0 _ h7)).mid (k:=1) (r:=[]) rfl,gCall.named λJ3 o0=>⟨λ_=>?_,nO⟩⟩;refine SE.Hv.go (Ry (v:=env[kk].v) (q0.ext d7) λs2 m3=>⟨_,rfl,?_⟩);have f0:=d7.trans m3;subst o0;refine⟨λh=>?_,λh=>?_⟩
      .have e1:BT d1.range env[kk].v=false:=(by simpa using h);rw[YR g8 e1]at a4;exact c5 s2 (d4 a4.symm) (a0 _ (Below.trans b8 (Below.mono f0 oM)))
      .have e1:BT d1.range env[kk].v=true:=(by simpa using h);have j6:(⟨d1.name,env[kk].v⟩:Pin)=env[kk]:=(by rw[<-j1]);have b9:Ac env[kk].name:=(by rw[j1];exact p8);refine⟨_,e7.at0 (r:=[tr.v]) m3 rfl,SE.Jk.go (ctx1_se λf2 s3 t1 o7=>⟨_,rfl,?_⟩)⟩;have d8:=f0.trans t1;have k3:=e3.ext d8;have p9:SlR pinE s3 (λb=>True) a9 o2:=((k3.read (by rw[f5];unfold Ab;omega) (by rw[Al];omega))).mono λ_ _=>trivial;refine SE.Hs.go (Pv (p:=Aw d1.name) p9 (o7 o2) λk9 m4=>⟨_,rfl,λh2=>?_,λh2=>?_⟩)
       .have d2:o2.any (Aw d1.name)=false:=(by simpa using h2);rw[YQ g8 e1 d2,j6]at a4;have a5:=d8.trans m4;have n1:Below w2.heap.size w2 k9:=Below.trans b8 (Below.mono a5 oM);refine⟨ae,⟨g2,oM,oM⟩,_,_,_,_,g3 _ (a0 _ n1),newS.intro λu7 s4 t3 i2 _ _=>?_⟩;have b2:=a5.trans t3;have u1:=b2.size;refine OwnS.pushA (x:=env[kk]) (e3.ext b2) (g9.ext b2) c9 oM Jw ⟨rfl,b9⟩ i2.ldc (by rw[f5];unfold Ab;omega) (by rw[Al];omega) λr1 l0 k4 k1 f6 b4 h0 h4=>?_;have u2:=b4.size;have n4:Below w2.heap.size w2 l0:=Below.trans (Below.trans b8 (Below.mono b2 oM)) b4;refine⟨ae,⟨g2,oM,oM⟩,_,_,_,_,g3 _ (a0 _ n4),newS.intro λu9 s9 e4 i3 _ _=>?_⟩;have u3:=e4.size;refine OwnS.pushA (x:=env[kk]) (k1.ext e4) (k4.ext e4) f6.swap oM Jw ⟨rfl,b9⟩ i3.ldc (by rw[f5,fl];unfold Ab;omega) (by rw[Al,fl];omega) λr2 l5 k2 k5 f7 f4 h3 h5=>?_;have g0:∀q∈pn::(o2++[env[kk]]),Ac q.name:=λq hq=>by
         obtain rfl|hq:=ga.1 hq
         .exact a7 _ (.head _)
         .obtain hq|hq:=fk.1 hq
          .exact a7 _ (.tail _ hq)
          .simp at hq;subst hq;exact b9
        have r5:Kp w2.heap.size w6.heap.size w7.heap.size s4 l0:=⟨b4,λb h1 h2=>h0 b oM λad c3=>by rintro rfl;rcases g6 ad c3 with h|h<;>omega⟩;have r6:Kp w2.heap.size w6.heap.size w7.heap.size s9 l5:=⟨f4,λb h1 h2=>h3 b oM λad c3=>by rintro rfl;rcases g5 ad c3 with h|h<;>omega⟩;refine j9 r2 r1 (o2++[env[kk]]) l5 a4 (by simp;omega) g0 ((((k8.ext b2 oM oM).trans r5).ext e4 oM oM).trans r6) k2 k5 f7.swap (λad c3=>?_) (λad c3=>?_)
        .obtain h|h:=h5 ad c3
         .exact g5 ad h
         .right;omega
        .obtain h|h:=h4 ad c3
         .exact g6 ad h
         .right;omega
       .have d2:o2.any (Aw d1.name)=true:=(by simpa using h2);rw[YT g8 e1 d2]at a4;have a5:=d8.trans m4;exact j9 _ _ o2 k9 a4 oM a7 (k8.ext a5 oM oM) (g9.ext a5) (e3.ext a5) c9 g5 g6
    .have e2:m=P.length:=oM;subst e2;rw[li,B7]at a4;obtain⟨c1,c2⟩:=g4 o2 a4.symm;rw[Ag oM oM];exact hn _ _ _ _ _ oM ⟨o2,k+1,oM,rfl,c1,c2,a7,b8,g9,e3,c9⟩
  clear hJ;refine bnd.drew λl6 c8=>?_;obtain⟨aq,v0,h9,⟨i9,_⟩,j2⟩:=oA.el d6;subst i9;have e5:CatL l6 S p r L:=(hC.ext (a0 _ b5)).ext c8;have y6:=c8.size;refine⟨aq,⟨h9,oM,oM⟩,_,(j2 _ c8).pre rfl,aq,⟨h9,oM,oM⟩,_,_,_,(j2 _ c8).mid (k:=1) (r:=[]) rfl,?_,?_⟩
  .refine SE.Fm.go (J7 (n:=q.name) (v:=q.v) e5 λd e o t0 t4 _ _ he _=>⟨_,_,_,_,_,_,_,_,rfl,newS.intro λm8 y9 t5 i5 v3 _=>stw0.intro i5 sI λl7 n5 _ i6=>?_⟩);have h6:Ext t0 l7:=n5.ext t5 oM;have u4:=h6.size;exact kJ m8 l7 d e o (c8.trans (t4.trans h6)) i6 ((he.dep.ext h6).mono λb hb=>by omega)
  .refine newS.intro λm9 z0 m5 e8 v4 _=>SE.Fm.go (J7 (n:=q.name) (v:=q.v) (e5.ext m5) λd e o z1 m6 _ _ he _=>⟨_,_,_,_,_,_,_,_,rfl,stw0.intro (e8.ext m6) sI λl8 f1 _ i7=>?_⟩);have t6:Ext l6 l8:=f1.ext (m5.trans m6) oM;have u5:=f1.1;have t9:=e8.lt;exact kJ m9 l8 d e o (c8.trans t6) i7 ((he.dep.but f1 (λhb=>by omega)).mono λb hb=>by omega)
 .have x5:k=out.length+1:=by simp at n7;omega
  have j8:CZ L over env pn=some (BA out):=by have hf:env.length+2 - k=(env.length+1 - k)+1:=oM;have j5:(pn::out)[k]?=none:=nz.2 (by simp;omega);rw[hf,YL j5]at c4;unfold CZ ctx;rw[<-c4];rfl
  have hF:FlatO AW 40 w5 w2.heap.size d9 out:=FlatO.of (E:=pinE) (f:=AW) (bytes:=40) (λx cs h=>h.1) oC (by unfold Ab;omega);refine Ziz hF s5 hI.names λw6 b6 f8=>⟨rfl,?_⟩;refine SE.Rj.go ⟨Tk (by have:=f8.1;have:=f8.2.1;omega),_,rfl,g7 (BA out) _ w6 j8 (a0 _ (Below.trans b5 b6)) ?_ λq hq=>d0 q (.tail _ ((EP out).mem_iff.1 hq))⟩;obtain⟨a,b,c,d,e⟩:=f8.clip (k:=4);exact⟨a,b,c,d,e.imp id λ⟨g,tail,a,b,c⟩=>⟨g,tail,a,oM,c⟩⟩
def SlR.cut{α:Type}{E:Enc α}{l:List α}(h:SlR E w S s l){a:Nat}(a0:a<=b)(hb:b<=l.length):SlR E w S (Sl.cut s a b E.n) ((l.take b).drop a):=by
 obtain⟨h1,h2,h3,h4,h5⟩:=h;have hl:((l.take b).drop a).length=b - a:=by rw[fx,fb];omega
 refine⟨by rw[hl];rfl,by rw[hl];show b - a<=s.cap - a;omega,by show s.cap - a<=_;omega,?_,?_⟩
 .rw[hl];exact fe (ij _ oM) h4
 .by_cases h0:b - a=0
  .exact .inl (fj oM)
  .rcases h5 with h5|⟨ad,ha,hS,hr⟩
   .subst h5;simp at hb;omega
   .refine .inr ⟨ad.add (a*E.n),?_,by rw[CO];exact hS,λi x hx=>?_⟩
    .show(if s.cap=a then s.a else _)=_;rw[if_neg oM,ha];rfl
    .rw[lh]at hx;rw[lf]at hx;split at hx
     .obtain⟨cs,k1,k2⟩:=hr (a+i) x hx;exact⟨cs,k1,by rw[CX,<-jx];exact k2⟩
     .cases hx
def IE{l:List Pack}(h:SlR packE w S s l){n:Nat}(hn:n<l.length):
  ∃ad d e o,s.a=some ad/\S ad.block/\Ac l[n].name/\SlR depE w S d l[n].deps/\SlR depE w S e l[n].peers/\SlR depE w S o l[n].opt/\∀w',Ext w w'->ldc w' (ad.add (n*7)) [.string l[n].name,.int .i64 l[n].v.ma,.int .i64 l[n].v.mi,.int .i64 l[n].v.pa,d.v,e.v,o.v]:=by
 obtain⟨ad,cs,h1,h2,⟨h0,d,e,o,rfl,a,b,c⟩,h4⟩:=h.el hn;exact⟨ad,d,e,o,h1,h2,h0,a,b,c,h4⟩
structure RefR(w:Wd)(S:Nat->Prop)(q:Addr)(L:List Pack):Prop where
 at_:∃s,BoxAt w q [Sl.v s]/\SlR packE w S s L
 free: ¬S q.block
 old:Old S w
 good:GoodL L
def RefR.ext{q:Addr}(h:RefR w S q L)(hx:Ext w w'):RefR w' S q L:=by obtain⟨s,a,b⟩:=h.at_;exact⟨⟨s,a.ext hx,b.ext hx⟩,h.free,h.old.ext hx.size,h.good⟩
def RefR.stay{q:Addr}(h:RefR w S q L)(a0:w.heap.size<=w'.heap.size)(hk:∀b,b<w.heap.size->(S b\/b=q.block)->w'.heap[b]?=w.heap[b]?):RefR w' S q L:=by obtain⟨s,a,b⟩:=h.at_;exact⟨⟨s,a.keep (S:=λb=>b=q.block) rfl λb hb hl=>hk b hl (.inr hb),b.keep λb hb hl=>hk b hl (.inl hb)⟩,h.free,h.old.ext a0,h.good⟩
def R8{α:Type}{p:α->Bool}{l:List α}{n:Nat}(hn:n<l.length)(h0:(l.take n).find? p=none):(l.take (n+1)).find? p=if p l[n]then some l[n]else none:=by rw[dw hn,List.find?_append,h0];simp only[Option.none_or,List.find?_cons,List.find?_nil];cases p l[n]<;>rfl
def PQ{α:Type}{p:α->Bool}{l:List α}{n:Nat}(hn:n<l.length)(h0:(l.take n).find? p=none)(h:p l[n]=true):l.find? p=some l[n]:=by
 have e:l.find? p=(l.take (n+1)++l.drop (n+1)).find? p:=by rw[fo]
 rw[e,List.find?_append,R8 hn h0,if_pos h];rfl
def Zgw{v:Ver}{q:Addr}{R:Bs->Int->Int->Int->Sl->Sl->Sl->Bool->Wp}(hC:RefR w S q L)
  (hR:∀d e o w',Ext w w'->Ac (getD L n v).name->SlR depE w' S d (getD L n v).deps->SlR depE w' S e (getD L n v).peers->SlR depE w' S o (getD L n v).opt->
   R (getD L n v).name (getD L n v).v.ma (getD L n v).v.mi (getD L n v).v.pa d e o (AR L n v).isSome w'):SE.Kw (some q) n v.ma v.mi v.pa w R:=by
 unfold SE.Kw;obtain⟨s,hb,hs⟩:=hC.at_;have hl:=hs.len;refine newS.intro λa w1 x1 ha _ _=>newS.intro λa1 w2 x2 b2 b6 _=>?_;have b4:=x1.trans x2;have b9:=b4.size;refine loop1.up hs.max (λi w'=>Ext w2 w'/\(L.take i).find? (C9 n v)=none) ⟨Ext.refl _,rfl⟩ λi w3 b8 hi ⟨x3,hI⟩ hn=>?_;have b0:=b4.trans x3;refine⟨q,rfl,s,hb.at0 (r:=[]) b0 rfl,λa8=>bnd.drew λw4 x4=>?_,λb7=>?_⟩
 .have a4:i<L.length:=oM;have a0:=b0.trans x4;obtain⟨ad,d,e,o,a9,_,hN,hd,he,ho,hc⟩:=IE hs a4;refine⟨q,rfl,s,hb.at0 (r:=[]) a0 rfl,ad,⟨a9,oM,a8⟩,_,(hc _ a0).pre rfl,bound ⟨q,λ_=>rfl,s,λ_=>hb.at0 (r:=[]) a0 rfl,ad,λ_=>⟨a9,oM,a8⟩,_,_,_,λ_=>(hc _ a0).mid rfl,_,_,_,λ_=>ha.at0 (r:=[]) (x2.trans (x3.trans x4)) rfl,?_⟩⟩;rw[Gq];have ek:(Ai L[i].name n&&decide (L[i].v=v))=C9 n v L[i]:=by unfold C9;rw[gk,dx,AH,decide_eq_true_eq,decide_eq_true_eq]
  rw[ek];refine⟨λh=>?_,λh=>hn a4 _ ⟨x3.trans x4,by rw[R8 a4 hI,h];rfl⟩⟩;refine⟨q,rfl,s,hb.at0 (r:=[]) a0 rfl,ad,⟨a9,oM,a8⟩,_,_,_,_,_,_,_,(hc _ a0).pre (r:=[]) rfl,stw0.intro (b2.ext (x3.trans x4)) sI λw5 b5 _ a6=>⟨_,_,_,_,_,_,_,a6.ldc.pre rfl,?_⟩⟩;have hg:AR L n v=some L[i]:=PQ a4 hI h;have x5:Ext w w5:=b5.ext a0 (by have:=x1.size;omega);have a5:=hR d e o w5 x5;have a7:getD L n v=L[i]:=by unfold getD;rw[hg];rfl
  rw[a7,hg]at a5;exact a5 hN (hd.ext x5) (he.ext x5) (ho.ext x5)
 .have:i=L.length:=oM;rw[this,eh]at hI;refine stw0.intro (b2.ext x3) sI λw5 b5 _ a6=>⟨_,_,_,_,_,_,_,a6.ldc.pre rfl,?_⟩;have hg:AR L n v=none:=hI;have x5:Ext w w5:=b5.ext b0 (by have:=x1.size;omega);have a5:=hR Sl.nil Sl.nil Sl.nil w5 x5;have a7:getD L n v=RO:=by unfold getD;rw[hg];rfl
  rw[a7,hg]at a5;exact a5 (by unfold Ac;exact gn _) (SlR.nil trivial) (SlR.nil trivial) (SlR.nil trivial)
def Zgy{a b:Pack}{d1 e1 o1 d2 e2 o2:Sl}{R:Bool->Wp}(hN:Ac a.name)(hR:∀w',Ext w w'->R (Cl a b) w'):SE.Ky a.name a.v.ma a.v.mi a.v.pa d1 e1 o1 b.name b.v.ma b.v.mi b.v.pa d2 e2 o2 w R:=by
 unfold SE.Ky;refine newS.intro λ_ w1 x1 hb _ _=>newS.intro λ_ w2 x2 a0 _ _=>?_;refine⟨_,hb.at0 x2 rfl,_,a0.at0 xR rfl,λa4=>⟨_,hb.at0 x2 rfl,_,a0.at0 xR rfl,SE.Kr.go (r05less_se hN λw3 x3=>⟨_,rfl,?_⟩)⟩,λhe=>⟨_,_,_,hb.at1 x2 rfl,_,_,_,a0.at1 xR rfl,SE.Kn.go (Zgr (a:=a.v) (b:=b.v) λw3 x3=>⟨_,rfl,?_⟩)⟩⟩
 .have e:Cl a b=Ao a.name b.name:=by
   unfold Cl cP;rw[gk,decide_eq_true_eq,Qx,HS];constructor
   .rintro(h|⟨h,_⟩)
    .exact h
    .exact absurd (Ey.1 h) a4
   .exact .inl
  rw[<-e];exact hR _ (x1.trans (x2.trans x3))
 .have he:=ji.1 he;have e:Cl a b=decide (0<a.v.cmp b.v):=by unfold Cl cP;rw[decide_eq_decide,Qx,he,Ey.2 rfl];have:=Ver.cmp_ord.flip b.v a.v;omega
  rw[<-e];exact hR _ (x1.trans (x2.trans x3))
def Zj2{α:Type}{p:α->Bool}{l:List α}(hi:i<=l.length)(h:∀x∈l.take i,p x=true)(h2:∀x,l[i]?=some x->p x=false):l.takeWhile p=l.take i/\l.dropWhile p=l.drop i:=by
 induction l generalizing i with
 |nil=>simp
 |cons a r ih=>
  cases i with
  |zero=>have:=h2 a rfl;simp[List.takeWhile_cons,oh,this]
  |succ i=>have ha:=h a sI;obtain⟨k1,k2⟩:=ih (i:=i) (by simpa using hi) (λx hx=>h x (by simp[hx])) (λx hx=>h2 x (by simpa using hx));simp[List.takeWhile_cons,oh,ha,k1,k2]
def Zgx{x:Pack}{d e o:Sl}{q:Addr}(hC:RefR w S q L)(hN:Ac x.name)(c5:Old S2 w)(hq: ¬S2 q.block)
  (hd:SlR depE w S2 d x.deps) (he:SlR depE w S2 e x.peers) (ho:SlR depE w S2 o x.opt)
  (hR:∀w',But q.block w w'->RefR w' (λb=>(S b\/S2 b)\/(w.heap.size<=b/\b<w'.heap.size)) q (BK L x).2->R (BK L x).1 w'):SE.Kx (some q) x.name x.v.ma x.v.mi x.v.pa d e o w R:=by
 unfold SE.Kx;obtain⟨s,hb,hs⟩:=hC.at_;have h8:=hb.lt;have hl:=hs.len;have g9:=hC.good.le;have same:∀w',Ext w w'->RefR w' (λb=>(S b\/S2 b)\/(w.heap.size<=b/\b<w'.heap.size)) q L:=λw' hx=>
  ⟨⟨s,hb.ext hx,(hs.ext hx).mono λb hb=>.inl (.inl hb)⟩,λh=>by
   rcases h with(h|h)|h
   .exact hC.free h
   .exact hq h
   .omega,λb hb=>by
   have:=hx.size;rcases hb with(h|h)|h
   .have:=hC.old b h;omega
   .have:=c5 b h;omega
   .exact h.2,hC.good⟩
 refine newS.intro λa w1 x1 ha h6 _=>⟨_,_,_,_,_,_,_,ha.ldc.pre rfl,SE.Kt.go (Zgt (p:=x) hN (hd.ext x1) (he.ext x1) (ho.ext x1) λw2 x2=>⟨_,rfl,λh=>?_,λh=>?_⟩)⟩
 .have e1:AQ x=false:=by simpa using h
  have hp:BK L x=(24,L):=by unfold BK;rw[if_pos e1]
  rw[hp]at hR;exact hR w2 ((x1.trans x2).but _) (same _ (x1.trans x2))
 have b4:AQ x=true:=by simpa using h
 have f2:=x1.trans x2;refine⟨_,ha.at0 x2 rfl,_,_,_,ha.at1 x2 rfl,SE.Kw.go (Zgw (n:=x.name) (v:=x.v) (hC.ext f2) λd0 e0 o0 w3 x3 _ _ _ _=>⟨_,_,_,_,_,_,_,_,rfl,newS.intro λa7 w4 x4 f7 h0 _=>stw0.intro f7 sI λw5 b5 _ _=>⟨λh=>?_,λh=>?_⟩⟩)⟩
 all_goals
  have s1:=x1.size;have s2:=x2.size;have s3:=x3.size;have s4:=x4.size;have a9:Ext w w5:=b5.ext (f2.trans (x3.trans x4)) oM
 .have hp:BK L x=(11,L):=by unfold BK;rw[if_neg (by rw[b4];simp),if_pos h]
  rw[hp]at hR;exact hR w5 (a9.but _) (same _ a9)
 have b6:(AR L x.name x.v).isSome=false:=h;refine⟨q,rfl,s,hb.at0 (r:=[]) a9 rfl,λh=>?_,λh=>?_⟩
 .have hp:BK L x=(26,L):=by unfold BK;rw[if_neg (by rw[b4];simp),if_neg (by rw[b6];simp),if_pos oM]
  rw[hp]at hR;exact hR w5 (a9.but _) (same _ a9)
 have h7:L.length<128:=oM;have hp:BK L x=(0,Ec x L):=by unfold BK;rw[if_neg (by rw[b4];simp),if_neg (by rw[b6];simp),if_neg oM]
 have b2:=VA hC.good x;rw[hp]at hR b2;have g8:Ext w1 w5:=b5.ext (x2.trans (x3.trans x4)) oM;have c4:packE.bytes=112:=rfl;refine loop1.up hs.max (λi w'=>Ext w5 w'/\∀y∈L.take i,Cl y x=true) ⟨Ext.refl _,by simp⟩ λi w6 h9 hi ⟨x6,hI⟩ hn=>bnd.drew λw7 x7=>?_;have d4:=x6.trans x7;have c7:=a9.trans d4;have f4:=g8.trans d4;obtain⟨ad,y,dy,ey,oy,b0⟩:∃(ad:Addr) (y:Pack) (dy ey oy:Sl),decide ((i:Int)<(s.len:Int))=true->s.a=some ad/\L[i]?=some y/\Ac y.name/\∀w',Ext w w'->ldc w' (ad.add (i*7)) [.string y.name,vi y.v.ma,vi y.v.mi,vi y.v.pa,dy.v,ey.v,oy.v]:=by
  by_cases c9:i<L.length
  .obtain⟨ad,d',e',o',g2,_,f6,_,_,_,hc⟩:=IE hs c9;exact⟨ad,L[i],d',e',o',λ_=>⟨g2,dt c9,f6,hc⟩⟩
  .exact⟨q,RO,Sl.nil,Sl.nil,Sl.nil,λh=>by simp at h;omega⟩
 refine⟨q,rfl,s,hb.at0 (r:=[]) c7 rfl,bound ⟨q,λ_=>rfl,s,λ_=>hb.at0 (r:=[]) c7 rfl,ad,λh=>⟨(b0 h).1,oM,by simpa using h⟩,y.name,y.v.ma,y.v.mi,y.v.pa,dy,ey,oy,λh=>(b0 h).2.2.2 w7 c7,x.name,x.v.ma,x.v.mi,x.v.pa,d,e,o,λ_=>ha.at0 (r:=[]) f4 rfl,gCall.named λJ hJ=>?_⟩⟩;have key:∀t w8,Ext w7 w8->(decide ((i:Int)<(s.len:Int))=true->t=Cl y x)->J t w8:=λt w8 x8 ht=>by
  subst hJ;have a5:=c7.trans x8;refine⟨λh=>?_,λh=>?_⟩
  .simp only[dx]at h;obtain⟨k1,k2,_,_⟩:=b0 h.1;have c6:i<L.length:=by have:=h.1;simp at this;omega
   refine hn c6 _ ⟨d4.trans x8,λz hz=>?_⟩;rw[dw c6]at hz;obtain hz|hz:=fk.1 hz
   .exact hI z hz
   .simp at hz;subst hz;rw[dt c6,eu]at k2;rw[k2,<-ht h.1];exact h.2
  .have f8:∀z,L[i]?=some z->Cl z x=false:=λz hz=>by have c6:=(fh.1 hz).1;have d2:decide ((i:Int)<(s.len:Int))=true:=(by simp;omega);obtain⟨_,k2,_,_⟩:=b0 d2;rw[hz,eu]at k2;rw[k2,<-ht d2];rw[d2]at h;simpa using h
   obtain⟨g3,g4⟩:=Zj2 (p:=(Cl · x)) (l:=L) (i:=i) hi hI f8;have e6:Ec x L=L.take i++x::L.drop i:=by unfold Ec;rw[g3,g4]
   have e8:=hs.ext a5;have h1:=hs.2.1;have c1:=e8.cut (a:=0) (b:=i) (gn _) hi;have c2:=e8.cut (a:=i) (b:=L.length) hi nR;rw[jv]at c1;rw[eh]at c2;have b7:(L.take i).length=i:=(by rw[fb];omega);have e9:(L.drop i).length=L.length - i:=fx;have e5:Old S w8:=hC.old.ext a5.size;refine⟨q,rfl,s,hb.at0 (r:=[]) a5 rfl,⟨oM,oM⟩,?_⟩;refine(OwnS.zero (E:=packE) (T:=68) w8).appAll OX nR c1 e5 (λad h=>by cases h) (by rw[c4,b7];unfold Ab;simp;omega) (by rw[b7,Al];simp;omega) λr1 w9 b8 d6 _ h3=>?_;rw[ig]at b8;have x9:Ext w8 w9:=d6;refine⟨_,_,_,_,_,_,_,ha.at0 (r:=[]) (f4.trans (x8.trans x9)) rfl,newS.intro λh4 g5 d3 e4 h5 _=>?_⟩;have c3:=x9.trans d3;have s9:=x9.size;have i3:=d3.size;have a8:=a5.trans c3;have i2:=a5.size;have d9:Old S2 g5:=c5.ext a8.size;have f9:∀ad,r1.a=some ad->w8.heap.size<=ad.block:=λad h=>(b8.block h).1;refine(b8.ext d3).push (x:=x) (S':=S2) OX c3.size ⟨hN,d,e,o,rfl,hd.ext a8,he.ext a8,ho.ext a8⟩ e4.ldc d9 (λad a4 hb=>by have:=f9 ad a4;have:=c5 _ hb;omega) (by rw[c4,b7];unfold Ab;omega) (by rw[b7,Al];omega) λr2 g6 d1 d7 _ _=>?_;have a0:Ext w8 g6:=c3.trans' d7;have f1:=a5.trans a0;refine⟨q,rfl,s,hb.at0 (r:=[]) f1 rfl,⟨oM,oM⟩,?_⟩;have g0:∀ad,r2.a=some ad->w8.heap.size<=ad.block:=λad h=>(d1.block h).1;have l2:(L.take i++[x]).length=i+1:=(by rw[du,b7];rfl);rw[hl];refine d1.appAll OX a0.size (c2.ext a0) (e5.ext a0.size) (λad a4 hb=>by have:=g0 ad a4;have:=hC.old _ hb;omega) (by rw[c4,l2,e9];unfold Ab;omega) (by rw[l2,e9,Al];omega) λr3 g7 a6 d8 _ _=>?_;have f5:Ext w8 g7:=a0.trans' d8;have b9:=a5.trans f5;have e3:(L.take i++[x])++L.drop i=Ec x L:=(by rw[e6];simp);rw[e3]at a6;have c8:(Ec x L).length=L.length+1:=(by rw[(QB x L).length_eq];simp);refine⟨q,rfl,stw0.intro (hb.ext b9) sI λf0 d5 h2 e2=>?_⟩;have e7:∀b,(((None' b\/S b)\/S2 b)\/S b)\/(∃ad,r3.a=some ad/\b=ad.block)->(S b\/S2 b)\/(w.heap.size<=b/\b<f0.heap.size):=λb hb=>by
    rcases hb with(((hb|hb)|hb)|hb)|⟨ad,a4,rfl⟩
    .exact hb.elim
    .exact .inl (.inl hb)
    .exact .inl (.inr hb)
    .exact .inl (.inl hb)
    .have:=a6.block a4;exact .inr ⟨oM,oM⟩
   have g1:=a6.read (by rw[c4,c8];unfold Ab;omega) (by rw[c8,Al];omega);refine hR f0 ((b9.but _).trans d5) ⟨⟨r3,e2,(g1.but d5 λhb=>?_).mono e7⟩,λhb=>?_,λb hb=>?_,b2⟩
   .rcases hb with(((hb|hb)|hb)|hb)|⟨ad,a4,hb⟩
    .exact hb.elim
    .exact hC.free hb
    .exact hq hb
    .exact hC.free hb
    .have:=a6.block a4;omega
   .rcases hb with(hb|hb)|hb
    .exact hC.free hb
    .exact hq hb
    .omega
   .have:=b9.size;rcases hb with(hb|hb)|hb
    .have:=hC.old b hb;omega
    .have:=c5 b hb;omega
    .exact hb.2
 refine⟨λhg=>SE.Ky.go (Zgy (a:=y) (b:=x) (b0 hg).2.2.1 λw8 x8=>⟨_,rfl,key _ _ x8 λ_=>rfl⟩),λhg=>key _ _ xR λh=>by rw[hg]at h;cases h⟩
def DA(l:List Pack):List Pack:=l.foldl (λL x=>(BK L x).2) []
def Yv(l:List Pack)(x:Pack):DA (l++[x])=(BK (DA l) x).2:=by unfold DA;rw[List.foldl_append];rfl
def CatL.stay(h:CatL w S p r L)(a0:w.heap.size<=w'.heap.size)(hk:∀b,b<w.heap.size->(S b\/b=p.block\/b=r)->w'.heap[b]?=w.heap[b]?):CatL w' S p r L:=by obtain⟨ps,a,b,c⟩:=h;exact⟨ps,a.stay a0 hk,b,c⟩
def CatL.lt(h:CatL w S p r L):r<w.heap.size/\p.block<w.heap.size/\(∀b,S b->b<w.heap.size)/\ ¬S r/\ ¬S p.block/\p.block≠r:=by obtain⟨ps,a,_⟩:=h;obtain⟨m,hm,_⟩:=a.map;exact⟨hm.lt,a.box.lt,a.old,a.free.1,a.free.2,a.ne⟩
structure Both(w:Wd)(lo:Nat)(SA:Nat->Prop)(p:Addr)(r:Nat)(q:Addr)(L:List Pack):Prop where
 cat:∃S,CatL w S p r L/\(∀b,S b->lo<=b)/\ ¬S q.block
 ref:∃S,RefR w S q L/\(∀b,S b->SA b\/lo<=b)/\ ¬S r
 le:lo<=r/\lo<=p.block/\lo<=q.block
 ne:q.block≠p.block/\q.block≠r
def Both.ext{SA:Nat->Prop}{q:Addr}(h:Both w lo SA p r q L)(hx:Ext w w'):Both w' lo SA p r q L:=by obtain⟨⟨S,a,b,c⟩,⟨T,d,e,f⟩,g,k⟩:=h;exact⟨⟨S,a.ext hx,b,c⟩,⟨T,d.ext hx,e,f⟩,g,k⟩
def J6{α:Type}{E:Enc α}{x:α}(hb:BoxAt w a cs)(hx:E.rep w S x cs)(hB:E.bytes<=Ab):SlR E w (λb=>S b\/b=a.block) ⟨some a,1,1⟩ [x]:=
 ⟨rfl,fm _,by show 1<=maxLen;rw[Al];omega,by simpa using hB,.inr ⟨a,rfl,.inr rfl,λi y hy=>by
  cases i with
  |zero=>simp only[ja,eu]at hy;subst hy;exact⟨cs,E.mono hx λ_ h=>.inl h,by rw[lu];exact hb.ldc⟩
  |succ i=>simp at hy⟩⟩
def FlatO.pins{l:LP}(h:FlatO AW 40 w lo s l)(hs:∀q∈l,Ac q.name):SlR pinE w (λb=>lo<=b/\b<w.heap.size) s l:=
 FlatO.read (E:=pinE) h (λ_=>rfl) λ_ _ x hx=>⟨rfl,hs x hx⟩
def v1:Ver:=⟨1,0,0⟩
def Yq(L:List Pack)(n:Bs)(l:LS)(pins:LP):(D9 L n l pins).length=((D0 n L).filter (BT l)).length:=by rw[<-Nb];exact(Gm _).length_eq
def Zla(n:Bs):(D0 n L).length<=L.length:=by unfold D0;rw[dz];exact ix _ _
def SZ(h:GoodL L)(n:Bs)(l:LS)(pins:LP):(D9 L n l pins).length<=128:=by rw[Yq];have h1:=ix (BT l) (D0 n L);have h2:=Zla (L:=L) n;have h3:=h.le;omega
end Go.Hal
/-
 DERIVED:THE SHELF's CONTRACTS AT THIS DUMP,IN PLAIN WORDS (tools/lay-plain.mjs out of 'YtkndmcejjebjfaaGreatDoorLay3.lean',which tools/lay-shelf.mjs wrote):THE SAME DECLARATIONS UNDER THE SAME NAMES:'import','namespace','open','def','theorem' AND NOTHING ELSE:no command of the shelf's:FOR A HAND-IN. Each laying:the table of numbers ('.._ren') and one theorem,a field a fact of the dump's own or the kernel's comparison;each contract:ONE APPLICATION.
-/
namespace Go.Proofs
def Tryz.laySr_ren:Go.Shelf.Ren:=⟨λ|6=>384|15=>93|14=>411|28=>172|29=>173|20=>425|21=>426|22=>427|23=>428|24=>429|25=>430|26=>431|27=>432|46=>441|47=>267|48=>268|49=>442|50=>443|57=>446|n=>n,λ|22=>304|24=>307|25=>398|3=>3|39=>180|0=>0|53=>253|55=>255|4=>4|46=>246|45=>245|50=>250|5=>5|9=>9|66=>326|70=>330|76=>376|77=>377|n=>n,λ|n=>n⟩
def Tryz.laySr:Go.Proofs.SlLaysF0.n6 prog Tryz.laySr_ren:=by repeat' first|kernel_rfl|exact Fk kR kR|(intro w;kernel_rfl)|constructor
end Go.Proofs
namespace Go.Hal
def rkC(x:Rk):LV:=[vi x.1,vi x.2]
def Zhr(l:List Rk):Cp l=(l.map rkC).flatten:=rfl
def rkFlat_len(l:List Rk):(Cp l).length=l.length*2:=by rw[Zhr,CE rkC (k:=2) λ_=>rfl]
def Zht(l:List Rk):∀{i:Nat} (hi:i<l.length) (v:Int),(Cp l).set (i*2+1) (.int .i64 v)=Cp (l.set i (l[i].1,v)):=by
 induction l with
 |nil=>intro i hi;simp at hi
 |cons x r ih=>
  intro i hi v;cases i with
  |zero=>rfl
  |succ i=>have e:(i+1)*2+1=(i*2+1)+1+1:=oM;have a0:i<r.length:=(by simpa using hi);have h:=ih a0 v;show([Value.int .i64 x.1,vi x.2]++Cp r).set _ _= [Value.int .i64 x.1,vi x.2]++Cp (r.set i (r[i].1,v));rw[e,<-h];rfl
section
variable {T:TypeId} {w:Wd} {lo:Nat} {S:Nat->Prop} {s:Sl} {l:List Rk}
def OwnS.rkRow(h:OwnS rkE T w lo S s l):w.ownsRow lo T 2 s.v s.len (Cp l):=by
 obtain⟨css,ho,hl,hr⟩:=h.row;have e:css=l.map rkC:=by apply po (by simp[hl]);intro i h1 h2;obtain⟨cs,k1,k2⟩:=hr i (l[i]'(by simpa using h2)) (dt (by simpa using h2));rw[dt h1,eu]at k1;rw[k1,na];exact k2.1
 rw[e]at ho;exact ho
def OwnS.rkMk{v:Value}(h:w.ownsRow lo T 2 v l.length (Cp l)):∃s:Sl,v=s.v/\OwnS rkE T w lo None' s l:=by
 have h1:∃s:Sl,v=s.v/\s.len=l.length:=by
  rcases h.2 with⟨hv,hn⟩|⟨g,cap,a0,hv,_⟩
  .exact⟨Sl.nil,hv,hn.symm⟩
  .exact⟨⟨some ⟨g,0,none⟩,l.length,cap⟩,hv,rfl⟩
 obtain⟨s,rfl,hs⟩:=h1;refine⟨s,rfl,⟨l.map rkC,by rw[hs];exact h,by simp,λi x hx=>⟨rkC x,by rw[gc,hx];rfl,rfl,trivial⟩⟩,hs,λ_ h=>h.elim,λ_ _ h=>h.elim⟩
def OwnS.setHi{v:Int}{ad:Addr}{K:Wp}(h:OwnS rkE T w lo None' s l)(hi:i<l.length)(ha:s.a=some ad)(hK:∀w',But ad.block w w'->OwnS rkE T w' lo None' s (l.set i (l[i].1,v))->K w'):stw w ((ad.add (i*2)).add 1) [vi v] K:=by
 have ho:=h.rkRow;have hl:=h.len;rcases ho.2 with⟨hv,_⟩|⟨g,cap,a0,hv,hg,hh,hc,a8,a9,ht⟩
 .simp[Sl.v]at hv;rw[hv.1]at ha;cases ha
 .have a7:ad=⟨g,0,none⟩:=by simp[Sl.v]at hv;rw[hv.1]at ha;exact(jm ha).symm
  subst a7;have a4:i*2+1+1<=a0.size:=oM;rw[CX,G8];refine⟨a0,T,hh,rfl,by simpa using a4,hK _ ⟨by simp[World.setRow],rfl,rfl,rfl,λc hc b0=>setRow_other w g c _ b0⟩ ?_⟩;have a6:(Dk a0 (i*2+1) [vi v]).toList=a0.toList.set (i*2+1) (.int .i64 v):=by unfold Dk;rw[List.set_eq_take_append_cons_drop,if_pos (by rw[jt (xs:=a0)];omega)];simp
  have a5:(w.setRow g (Dk a0 (i*2+1) [vi v])).ownsRow lo T 2 s.v (l.set i (l[i].1,v)).length (Cp (l.set i (l[i].1,v))):=by
   refine⟨rkFlat_len _,.inr ⟨g,cap,_,by rw[hv,iz,hl],hg,setRow_heap w g a0 _ T _ hh,by rw[iz,<-hl];exact hc,a8,?_,?_⟩⟩
   .rw[<-jt,a6,iz,jt (xs:=a0)];exact a9
   .rw[a6,List.take_set,iz,<-hl,ht,Zht l hi]
  obtain⟨s',e,own⟩:=OwnS.rkMk a5;have:s'=s:=by obtain⟨a,n,c⟩:=s;obtain⟨a',n',c'⟩:=s';simpa[Sl.v,eq_comm]using e
  subst this;exact own
end
def spans_se{R:Sl->Wp}(hs:SlR rkE w S s l)(hl:l.length<=64)(hR:∀t w',Ext w w'->SlR spanE w' (λb=>w.heap.size<=b/\b<w'.heap.size) t (BU l)->R t w'):SE.Mj s w R:=by
 unfold SE.Mj;have d6:=hs.len;have eb:spanE.bytes=48:=rfl;refine loop2.up hs.max (λout i w'=>Ext w w'/\OwnS spanE 233 w' w.heap.size None' out (BU (l.take i))) ⟨Ext.refl _,OwnS.zero _⟩ λout i w1 d7 hi ⟨x1,own⟩ hn=>⟨λc5=>?_,λd5=>?_⟩
 .have a4:i<l.length:=oM;obtain⟨ad,c6,_,hc⟩:=Ob hs a4;refine⟨ad,⟨c6,oM,c5⟩,_,_,hc _ x1,newS.intro λa w2 x2 b5 d2 _=>stw0.intro b5 sI λw3 b3 _ b0=>?_⟩;have c8:Ext w1 w3:=b3.ext x2 oM;refine⟨_,b0.at0 xR rfl,SE.Gu.go (versAt_se λw4 x4=>⟨_,_,_,_,rfl,newS.intro λa5 w5 x5 b7 d3 _=>stw0.intro b7 sI λw6 b6 _ b8=>?_⟩)⟩;have c9:Ext w4 w6:=b6.ext x5 oM;have b2:=x4.trans c9;refine⟨_,BoxAt.at1 b0 (k:=1) b2 rfl,SE.Gu.go (versAt_se λw7 x7=>⟨_,_,_,_,rfl,newS.intro λa8 w8 x8 c3 d4 _=>stw0.intro c3 sI λw9 b9 _ c4=>?_⟩)⟩;have d0:Ext w7 w9:=b9.ext x8 oM;have b4:=x7.trans d0;refine⟨_,_,_,b8.at0 (r:=[]) b4 rfl,_,_,_,c4.at0 (r:=[]) xR rfl,newS.intro λd1 d8 c7 a9 _ _=>?_⟩;have a6:=c8.trans (b2.trans (b4.trans c7));have a0:(BU (l.take i)).length=i:=by unfold BU;rw[dz,fb];omega
  refine(own.ext a6).push S8 (x1.trans a6).size (x:=⟨CT l[i].1,CT l[i].2⟩) (S':=None') (cs:=(CT l[i].1).c++(CT l[i].2).c) ⟨rfl,trivial⟩ (a9.ldc.pre (r:=[]) rfl) (λ_ h=>h.elim) (λ_ _ h=>h.elim) (by rw[a0,eb];unfold Ab;omega) (by rw[a0,Al];omega) λr d9 a7 bel _ _=>hn a4 _ _ ⟨(x1.trans a6).trans' bel,?_⟩;have e:BU (l.take (i+1))=BU (l.take i)++[⟨CT l[i].1,CT l[i].2⟩]:=by unfold BU;rw[dw a4,fq];rfl
  rw[e];exact a7.mono (λ_ h=>h.elim id id) (λ_ h=>h.elim) (λ_ _ h=>h.elim)
 .have:i=l.length:=oM;rw[this,eh]at own;have a0:(BU l).length=l.length:=by unfold BU;rw[dz]
  refine hR _ _ x1 ((own.read (by rw[a0,eb];unfold Ab;omega) (by rw[a0,Al];omega)).mono λb hb=>?_);rcases hb with hb|⟨ad,ha,rfl⟩
  .exact hb.elim
  .have:=own.block ha;exact⟨this.1,this.2.1⟩
def Zbx(a b:Int):PV a b=max a b:=by unfold PV;split<;>omega
def Zhs{j:Nat}(h:j<l.length):(Cp l)[j*2]?=some (.int .i64 l[j].1)/\(Cp l)[j*2+1]?=some (.int .i64 l[j].2):=by
 have a0:∀cs∈l.map rkC,cs.length=2:=λcs hc=>by obtain⟨x,_,rfl⟩:=gq.1 hc;rfl
 have hi:(l.map rkC)[j]?=some (rkC l[j]):=by rw[gc,dt h];rfl
 exact⟨Nx a0 hi (j:=0) rfl,Nx a0 hi (j:=1) rfl⟩
def OwnS.lower{α:Type}{E:Enc α}{T:TypeId}{lo':Nat}{l:List α}(h:OwnS E T w lo S s l)(hl:lo'<=lo):OwnS E T w lo' S s l:=by obtain⟨css,ho,k1,k2⟩:=h.row;refine⟨⟨css,⟨ho.1,ho.2.imp id λ⟨g,cap,a0,hv,hg,r⟩=>⟨g,cap,a0,hv,fe hl hg,r⟩⟩,k1,k2⟩,h.len,h.lt,h.apart⟩
def collect_se{T:TypeId}{R:Sl->Wp}(h:OwnS rkE T w lo S s l)(ha:BoxAt w a [s.v])(hl:l.length<=1000000)
  (hR:∀t w',Ext w w'->OwnS rkE 307 w' w.heap.size None' t l->R t w'):SE.LH (.func (.func 385) #[] #[.pointer (some a)]) w R:=by
 unfold SE.LH;have hI:RkS w.heap.size w s.v l:=by
  have ho:=h.rkRow;rcases ho.2 with⟨hv,hn⟩|⟨g,cap,a8,hv,hg,hh,hc,a9,b0,ht⟩
  .exact .inl ⟨hv,fj (by rw[<-h.len];exact hn)⟩
  .refine .inr ⟨g,0,cap,by rw[hv,h.len],lt_of_block hh,λj hj=>?_⟩;have a4:=ho.cells (g:=g) (by rw[hv];rfl);obtain⟨k1,k2⟩:=Zhs hj;have c1:=a4 _ _ k1;have c2:=a4 _ _ k2;rw[G8]at c1 c2;rw[ke];exact⟨c1,c2⟩
 have a5:w.cell? ⟨a.block,0,none⟩=some s.v:=by obtain⟨t,_,_,hb⟩:=ha;simp[World.cell?,hb]
 have a7:a=⟨a.block,0,none⟩:=by obtain⟨t,h1,h2,_⟩:=ha;obtain⟨b,o,sp⟩:=a;simp only at h1 h2;subst h1 h2;rfl
 have a0:=callsIn_wide.1 (Zhq Fence.wide 3 trivial trivial rfl nR a.block s.v l hl w ha.lt a5 hI);rw[<-a7]at a0;refine Calls.mono a0 λe w' ⟨v,he,a6,hb⟩=>⟨v,he,?_⟩;obtain⟨t,rfl,own⟩:=OwnS.rkMk a6;exact⟨t,rfl,hR t w' hb own⟩
abbrev Jt:Type:={x:Rk//0<=x.1/\x.1<=999999999}
instance:Inhabited Jt:=⟨⟨(0,0),by decide⟩⟩
def Zac:Bn prog 351:=enters_of func351 kR rfl
def Zcq:∀w,(isAgg 307).run prog w= .ok true w:=λw=>by kernel_rfl
def Ziq:∀w,(Go.sizeOf 307).run prog w= .ok 2 w:=λw=>by kernel_rfl
def Zc6{a b:Jt}(hR:∀w',Gr w w'->R (a.1.1 - b.1.1) w'):SE.Mh a.1.1 a.1.2 b.1.1 b.1.2 w R:=by unfold SE.Mh;have ha:=a.2;have hb:=b.2;refine newS.gr λ_ w1 x1 a0=>newS.gr λ_ w2 x2 a4=>⟨_,Gr.at0 a0 x2 rfl,_,Gr.at0 a4 (Gr.refl _) rfl,?_⟩;rw[Ag oM oM];exact hR _ (x1.trans x2)
def U3:∀{l:List Rk},F5 l->∃la:List Jt,la.map Subtype.val=l
 | [],_=>⟨[],rfl⟩
 |x::r,h=>by obtain⟨la,e⟩:=U3 (l:=r) λy hy=>h y (.tail _ hy);have hx:=h x (.head _);exact⟨⟨x,hx.1,hx.2.1⟩::la,by rw[ib,e]⟩
def Oc(x:Jt):LV:=rkC x.1
def VH{la:List Jt}:la.map Oc=(la.map Subtype.val).map rkC:=by rw[iy];rfl
def Zi1{K:Value->Wp}(h:OwnS rkE 307 w lo None' s l)(a7:lo<=w.heap.size)(a6:F5 l)(hl:l.length<=1000000)
  (hK:∀l' w',l'.Perm l->Ee l'->Below lo w w'->SlR rkE w' (λb=>lo<=b/\b<w'.heap.size) s l'->K (.tuple #[]) w'):
  callS prog 384 [s.v,.func (.func 351) #[] #[]] w K:=by
 have eb:rkE.bytes=16:=rfl;have hF:FlatO rkC 16 w lo s l:=FlatO.of (E:=rkE) (λx cs h=>h.1) h (by unfold Ab;omega);obtain⟨h1,h2,h3,h4,h5⟩:=hF;obtain⟨a,n,c⟩:=s;simp only at h1 h2 h3 h5;subst h1;rcases h5 with rfl|⟨g,tail,ha,hg,hr⟩
 .refine(AnyF.slices_SortFunc_none Tryz.laySr a c _ w).mono λe w' ⟨he,hw⟩=>⟨_,he,?_⟩;subst hw;exact hK [] _ (jf _) .nil (Below.refl _ _) ⟨rfl,h2,h3,by simp,.inl rfl⟩
 .subst ha;obtain⟨la,rfl⟩:=U3 a6;have a8:RowB Oc w g la tail:=by unfold RowB at hr ⊢;rw[VH];exact hr
  rw[dz]at*;refine F7 Tryz.laySr (k:=2) Zcq Ziq (f:=Oc) (λ_=>rfl) (λx v hv=>by simp[Oc,rkC]at hv;rcases hv with rfl|rfl<;>rfl) (λa b=>a.1.1 - b.1.1) (EU (λx y=>by omega) (λx y z=>by omega)) 351 #[] Zac (λw0 x y hb _=>?_) a8 oM rfl λl' w' hp hs b a4=>?_
  .have h:=SE.Mh.go (k:=λv w'=>v= .int .i64 (x.1.1 - y.1.1)/\Gr w0 w') (Zc6 (a:=x) (b:=y) (w:=w0) λw' h=>⟨rfl,h⟩);exact Calls.mono h λe w' ⟨v,he,hv,hg⟩=>⟨by rw[he,hv],hg⟩
  .have a9:RowB rkC w' g (l'.map Subtype.val) tail:=(by unfold RowB at a4 ⊢;rw[<-VH];exact a4);have a0:=hp.length_eq;have a5:FlatO rkC rkE.bytes w' lo ⟨some ⟨g,0,none⟩,la.length,c⟩ (l'.map Subtype.val):=⟨by simp[a0],by simp[a0];exact h2,h3,by rw[dz,a0];exact h4,.inr ⟨g,tail,rfl,hg,a9⟩⟩;refine hK (l'.map Subtype.val) w' (hp.map _) ?_ (b.below a7 hg) (a5.read (λ_=>rfl) λw S x _=>⟨rfl,trivial⟩);unfold Ee;rw[iq];exact hs.imp λ{x y} h=>by omega
def Zi7{T:TypeId}{R:Sl->Wp}(h:OwnS rkE T w lo S s l)(ha:BoxAt w a [s.v])(a0:F5 l)(hl:l.length<=1000000)
  (hR:∀t w' m,Ext w w'->m.Perm l->Ee m->SlR rkE w' (λb=>w.heap.size<=b/\b<w'.heap.size) t m->R t w'):SE.Me (.func (.func 385) #[] #[.pointer (some a)]) (.func (.func 351) #[] #[]) w R:=by
 unfold SE.Me;refine SE.LH.go (collect_se h ha hl λt w1 x1 own=>⟨_,rfl,Zi1 own x1.size a0 hl λm w2 hp hs bel hr=>⟨rfl,hR t w2 m (x1.trans' bel) hp hs hr⟩⟩)
def H7(m:List Rk)(n:Nat)(done:List Rk):Prop:=(n=0/\done=[])\/∃d y,done=d++[y]/\Db m=d++Ds y (m.drop n)
def Zcz{n:Nat}(hn:n<m.length)(h0:n=0):H7 m (n+1) [m[n]]:=by
 subst h0;refine .inr ⟨[],m[0],rfl,?_⟩;cases m with
 |nil=>simp at hn
 |cons y r=>rfl
def Zc0{n:Nat}{d:List Rk}{y:Rk}(hn:n<m.length)(h:Db m=d++Ds y (m.drop n)):
  (m[n].1<=y.2+1->H7 m (n+1) (d++[(y.1,max y.2 m[n].2)]))/\(¬m[n].1<=y.2+1->H7 m (n+1) (d++[y]++[m[n]])):=by
 rw[fu hn,Ds]at h;refine⟨λhl=>.inr ⟨d,_,rfl,?_⟩,λhl=>.inr ⟨d++[y],m[n],rfl,?_⟩⟩
 .rw[if_pos hl]at h;exact h
 .rw[if_neg hl]at h;rw[h,fg];rfl
def joined_se{T:TypeId}{R:Sl->Wp}(h:OwnS rkE T w lo S s l)(d1:F5 l)(hl:l.length<=1000000)
  (hR:∀t w' m,Ext w w'->m.Perm l->Ee m->OwnS rkE 307 w' w.heap.size None' t (Db m)->R t w'):SE.Mg s w R:=by
 unfold SE.Mg;have eb:rkE.bytes=16:=rfl;refine SE.Oo.go ?_;unfold SE.Oo;refine newS.intro λa w1 x1 ha _ _=>⟨_,rfl,SE.Me.go (Zi7 (h.ext x1) ha d1 hl λt w2 m x2 hp hs hm=>⟨_,rfl,?_⟩)⟩;have d6:=x1.trans x2;have f9:=hm.len;have g0:m.length<=1000000:=by rw[hp.length_eq];exact hl
 have e9:F5 m:=λx hx=>d1 x (hp.mem_iff.1 hx);refine loop2.up hm.max (λout i w'=>Ext w2 w'/\∃done,OwnS rkE 307 w' w2.heap.size None' out done/\H7 m i done/\done.length<=i/\F5 done) ⟨Ext.refl _,[],OwnS.zero _,.inl ⟨rfl,rfl⟩,fm _,λx hx=>by cases hx⟩ λout i w3 g2 hi ⟨x3,done,own,hJ,f7,c7⟩ hn=>⟨λe7=>?_,λf8=>?_⟩
 .have a5:i<m.length:=oM;obtain⟨ad,e8,_,hc⟩:=Ob hm a5;have f1:=e9 _ (ff a5);refine join.named λJ e1=>⟨ad,⟨e8,oM,e7⟩,m[i].1,m[i].2,hc _ x3,newS.intro λa4 w4 x4 e3 f6 _=>stw0.intro e3 sI λw5 b5 _ c5=>bnd.drew λw6 x6=>?_⟩;have f5:Ext w3 w5:=b5.ext x4 oM;have d7:=f5.trans x6;have c9:=x3.trans d7;have b7:=own.ext d7;have c8:=own.len;have step:∀b6 w7 a0,Ext w2 w7->OwnS rkE 307 w7 w2.heap.size None' b6 a0->H7 m (i+1) a0->a0.length<=i+1->F5 a0->J b6 w7:=by subst e1;intro b6 w7 a0 x7 d3 e2 e6 e5;exact hn a5 _ _ ⟨x7,a0,d3,e2,e6,e5⟩
  have push:H7 m (i+1) (done++[m[i]])->∃(a9:Int) (a8:Int),(ldc w6 a4 [(Value.int .i64 a9),(Value.int .i64 a8)])/\newS w6 [(Value.int .i64 a9),(Value.int .i64 a8)] 307 λd8 d4=>appS prog 304 304 out (Sl.v (Sl.mk (some d8) 1 1)) d4 λf2 d5=>J f2 d5:=λd9=>by
   refine⟨m[i].1,m[i].2,c5.at0 (r:=[]) x6 rfl,newS.intro λa7 w7 x7 e4 _ _=>?_⟩;refine(b7.ext x7).push S7 (c9.trans x7).size (x:=m[i]) (S':=None') (cs:=[.int .i64 m[i].1,.int .i64 m[i].2]) ⟨rfl,trivial⟩ (e4.ldc.pre (r:=[]) rfl) (λ_ h=>h.elim) (λ_ _ h=>h.elim) (by rw[eb];unfold Ab;omega) (by rw[Al];omega) λr w8 b9 bel _ _=>step _ _ _ ((c9.trans x7).trans' bel) (b9.mono (λ_ h=>h.elim id id) (λ_ h=>h.elim) (λ_ _ h=>h.elim)) d9 (by simp;omega) λx hx=>?_;obtain hx|hx:=fk.1 hx
   .exact c7 x hx
   .rw[ep]at hx;subst hx;exact f1
  rcases hJ with⟨h0,rfl⟩|⟨d,y,rfl,hd⟩
  .have e0:Aa ((out.len:Int) - 1)= -1:=(by rw[c8];decide);rw[e0];have c4:decide ((0:Int)<= -1)=false:=(by decide);rw[c4];refine bound ⟨m[i].1,nO,⟨0,0,none⟩,nO,0,nO,λh=>by simp at h,λ_=>push ?_⟩;exact Zcz a5 h0
  .have a6:(d++[y]).length=d.length+1:=(by simp);have e0:Aa ((out.len:Int) - 1)=(d.length:Int):=(by rw[c8,a6,Ag oM oM];omega);rw[e0];have c4:decide ((0:Int)<=(d.length:Int))=true:=(by rw[decide_eq_true_eq];omega);rw[c4];have f0:=b7.read (by rw[a6,eb];unfold Ab;omega) (by rw[a6,Al];omega);have d0:d.length<(d++[y]).length:=oM;obtain⟨c3,b2,_,c6⟩:=Ob f0 d0;have hy:(d++[y])[d.length]=y:=(by simp);have g1:=c7 y sI;rw[hy]at c6;have c2:=c6 _ xR;have d2:Aa (y.2+1)=y.2+1:=Ag oM oM;have b4:(d.length:Int)<(out.len:Int):=(by rw[c8,a6];omega);obtain⟨j1,j2⟩:=Zc0 a5 hd;refine bound ⟨m[i].1,λ_=>c5.at0 x6 rfl,c3,λ_=>⟨b2,oM,b4⟩,y.2,λ_=>c2.mid (k:=1) rfl,λb0=>?_,λb0=>push ?_⟩
   .rw[d2,ie,decide_eq_true_eq]at b0;refine bnd.drew λw7 x7=>⟨c3,⟨b2,oM,b4⟩,y.2,(c6 _ x7).mid (k:=1) rfl,m[i].2,BoxAt.at1 c5 (k:=1) (x6.trans x7) rfl,c3,⟨b2,oM,b4⟩,?_⟩;rw[Zbx];have f4:=c9.trans x7;refine(b7.ext x7).setHi (i:=d.length) d0 b2 λw8 b8 b9=>step _ _ _ ?_ b9 ?_ ?_ ?_
    .have:=(own.block b2).1;exact b8.ext f4 this
    .have e:(d++[y]).set d.length ((d++[y])[d.length].1,max y.2 m[i].2)=d++[(y.1,max y.2 m[i].2)]:=(by rw[hy,ph _ _ nR];simp);rw[e];exact j1 b0
    .rw[iz];omega
    .intro x hx;obtain hx|rfl:=List.mem_or_eq_of_mem_set hx
     .exact c7 x hx
     .rw[hy];simp only;omega
   .refine j2 λh=>?_;rw[d2,ie,decide_eq_false_iff_not]at b0;exact b0 h
 .have:i=m.length:=oM;subst this;have hd:done=Db m:=by
   rcases hJ with⟨h0,rfl⟩|⟨d,y,rfl,hd⟩
   .rw[fj h0];rfl
   .rw[hd,li];rfl
  subst hd;refine hR _ _ m (d6.trans x3) hp hs (OwnS.lower own d6.size)
attribute [local go_sem] Oper.semAt_some
def Wm(a:Nat):Value:=.func (.func 379) #[] #[.pointer (some ⟨a+1,0,none⟩),.pointer (some ⟨a,0,none⟩),.pointer (some ⟨a+2,0,none⟩)]
def Gk(w:Wd)(s sep:Bs):Wd:=((w.alloc (.cells #[.string s] 9)).alloc (.cells #[.string sep] 9)).alloc (.cells #[vi 0] 3)
def Zjd(n:Nat)(hn:1<=n)(s sep:Bs)(w:Wd):CallsIn Fence.wide n prog 346 #[.string s,.string sep,vi 0] w λe w'=>e= .returned (Wm w.heap.size)/\w'=Gk w s sep:=by
 refine callsIn_of_wp func346 rfl trivial ?_ rfl;simp only[Tryz.ntmps346,iv,fl,ia,Nat.reduceAdd,Nat.reduceSub,ku,kr,lw,kx,ig,gu]
 gi_wp2
 go_ret
 exact⟨rfl,rfl⟩
def Wj(n:Nat)(hn:2<=n)(s sep:Bs)(w:Wd):CallsIn Fence.wide n prog 280 #[.string s,.string sep] w λe w'=>e= .returned (Wm w.heap.size)/\w'=Gk w s sep:=by
 have h1:1<=n - 1:=oM;refine callsIn_of_wp func280 rfl trivial ?_ rfl;simp only[Tryz.ntmps280,iv,fl,ia,Nat.reduceAdd,Nat.reduceSub,ku,kr,lw,kx,ig,gu]
 gi_wp2
 refine⟨trivial,λh=>(by cases h),(Zjd (n - 1) h1 s sep w).mono ?_⟩;rintro e w' ⟨rfl,rfl⟩
 gi_wp2
 go_ret
 exact⟨rfl,rfl⟩
structure InW(ps:List Bs)(k:Nat)(x:Rk)(b:Bool):Prop where
 ok:∀t∈ps.take k,t.size≠0->∃a,WordR t.data.toList a
 some:b=true↔∃t∈ps.take k,t.size≠0
 lo:0<=x.1/\x.1<=1000000000
 hi: -1<=x.2/\x.2<=999999999
 has:∀n:Int,(x.1<=n/\n<=x.2)↔(0<=n/\n<=999999999/\∀t∈ps.take k,t.size≠0->∀a,WordR t.data.toList a->a.1<=n/\n<=a.2)
def InW.start(ps:List Bs):InW ps 0 (0,999999999) false:=⟨by simp,by simp,by simp,by simp,λn=>by simp⟩
def EW{α:Type}{ps:List α}{k:Nat}(h:k<ps.length){t:α}:t∈ps.take (k+1)↔t∈ps.take k\/t=ps[k]:=by rw[dw h,fk,ep]
def InW.skip{k:Nat}{x:Rk}{b:Bool}(h:InW ps k x b)(hk:k<ps.length)(h0:ps[k].size=0):InW ps (k+1) x b:=by
 have e:∀t,(t∈ps.take (k+1)/\t.size≠0)↔(t∈ps.take k/\t.size≠0):=λt=>by
  rw[EW hk];constructor
  .rintro⟨h1|rfl,h2⟩
   .exact⟨h1,h2⟩
   .exact absurd h0 h2
  .exact λ⟨h1,h2⟩=>⟨.inl h1,h2⟩
 refine⟨λt ht hn=>h.ok t ((e t).1 ⟨ht,hn⟩).1 hn,?_,h.lo,h.hi,λn=>?_⟩
 .rw[h.some];exact⟨λ⟨t,ht⟩=>⟨t,(e t).2 ht⟩,λ⟨t,ht⟩=>⟨t,(e t).1 ht⟩⟩
 .rw[h.has];exact and_congr_right λ_=>and_congr_right λ_=>⟨λg t ht hn=>g t ((e t).1 ⟨ht,hn⟩).1 hn,λg t ht hn=>g t ((e t).2 ⟨ht,hn⟩).1 hn⟩
def InW.word{k:Nat}{x a:Rk}{b:Bool}(h:InW ps k x b)(hk:k<ps.length)(h0:ps[k].size≠0)(hw:WordR ps[k].data.toList a):InW ps (k+1) (max x.1 a.1,min x.2 a.2) true:=by
 obtain⟨h1,h2⟩:=hw.in;have hl:=h.lo;have hh:=h.hi;refine⟨λt ht hn=>?_,?_,?_,?_,λn=>?_⟩
 .rcases(EW hk).1 ht with h3|rfl
  .exact h.ok t h3 hn
  .exact⟨a,hw⟩
 .simp only[true_iff];exact⟨_,(EW hk).2 (.inr rfl),h0⟩
 .simp only;omega
 .simp only;omega
 .simp only;have e:=h.has n;have e1:(max x.1 a.1<=n/\n<=min x.2 a.2)↔(x.1<=n/\n<=x.2)/\(a.1<=n/\n<=a.2):=oM;rw[e1,e];constructor
  .rintro⟨⟨g1,g2,g3⟩,g4⟩;refine⟨g1,g2,λt ht hn c hc=>?_⟩;rcases(EW hk).1 ht with h3|rfl
   .exact g3 t h3 hn c hc
   .rw[<-hw.one hc];exact g4
  .rintro⟨g1,g2,g3⟩;exact⟨⟨g1,g2,λt ht hn c hc=>g3 t ((EW hk).2 (.inl ht)) hn c hc⟩,g3 _ ((EW hk).2 (.inr rfl)) h0 a hw⟩
def Gz(a:Bs):Prop:=(∃t∈Au BM a,t.size≠0)/\∀t∈Au BM a,t.size≠0->∃x,WordR t.data.toList x
def Jo(a:Bs)(n:Int):Prop:=0<=n/\n<=999999999/\∀t∈Au BM a,t.size≠0->∀x,WordR t.data.toList x->x.1<=n/\n<=x.2
structure InA(ps:List Bs)(k:Nat)(l:List Rk):Prop where
 ok:∀a∈ps.take k,Gz a
 len:l.length<=k
 inn:F5 l
 le:∀x∈l,x.1<=x.2
 has:∀n,Bc n l=true↔∃a∈ps.take k,Jo a n
def InA.start(ps:List Bs):InA ps 0 []:=⟨by simp,fm _,λx hx=>(by cases hx),λx hx=>(by cases hx),λn=>by simp[Bc]⟩
def Zb1{n:Int}{x:Rk}:Bc n (l++[x])=true↔Bc n l=true\/(x.1<=n/\n<=x.2):=by simp[Bc,List.any_append]
def InA.step{k:Nat}{x:Rk}(h:InA ps k l)(hk:k<ps.length)(hw:InW (Au BM ps[k]) (Au BM ps[k]).length x true):
  (x.1<=x.2->InA ps (k+1) (l++[x]))/\(¬x.1<=x.2->InA ps (k+1) l):=by
 have ht:(Au BM ps[k]).take (Au BM ps[k]).length=Au BM ps[k]:=eh;have a6:Gz ps[k]:=by have h1:=hw.ok;have h2:=hw.some;rw[ht]at h1 h2;exact⟨h2.1 rfl,h1⟩
 have a4:∀n,(x.1<=n/\n<=x.2)↔Jo ps[k] n:=λn=>by have:=hw.has n;rw[ht]at this;exact this
 have a0:∀a∈ps.take (k+1),Gz a:=λa ha=>by
  rcases(EW hk).1 ha with h1|rfl
  .exact h.ok a h1
  .exact a6
 have hl:=hw.lo;have hh:=hw.hi;have a5:∀n,(∃a∈ps.take (k+1),Jo a n)↔(Bc n l=true\/(x.1<=n/\n<=x.2)):=λn=>by
  rw[h.has,a4];constructor
  .rintro⟨a,ha,hn⟩;rcases(EW hk).1 ha with h1|rfl
   .exact .inl ⟨a,h1,hn⟩
   .exact .inr hn
  .rintro(⟨a,ha,hn⟩|hn)
   .exact⟨a,(EW hk).2 (.inl ha),hn⟩
   .exact⟨_,(EW hk).2 (.inr rfl),hn⟩
 refine⟨λhx=>⟨a0,by have:=h.len;simp;omega,λy hy=>?_,λy hy=>?_,λn=>?_⟩,λhx=>⟨a0,by have:=h.len;omega,h.inn,h.le,λn=>?_⟩⟩
 .obtain h1|h1:=fk.1 hy
  .exact h.inn y h1
  .rw[ep]at h1;subst h1;omega
 .obtain h1|h1:=fk.1 hy
  .exact h.le y h1
  .rw[ep]at h1;subst h1;exact hx
 .rw[Zb1,a5]
 .rw[a5];constructor
  .exact .inl
  .rintro(h1|h1)
   .exact h1
   .omega
def MI(text:Bs):Prop:=text.size<=4096/\∀a∈Au Bt text,Gz a
def Wi(sep:Bs):∀(k:Nat)(s:Bs),∀t∈Lib.splitB sep 0 k s,t.size<=s.size
 |0,s,t,h=>by rw[Lib.splitB_zero,ep]at h;rw[h];exact fm _
 |k+1,s,t,h=>by
  rcases Lib.indexB_cases s sep with a0|⟨i,a0,a4⟩
  .rw[Lib.splitB_miss _ _ _ _ a0,ep]at h;rw[h];exact fm _
  .rw[Lib.splitB_hit _ _ _ _ i a0]at h;obtain rfl|h:=ga.1 h
   .rw[kw];omega
   .have:=Wi sep k _ t h;rw[kw]at this;omega
def P3{s t:Bs}(h:t∈Au sep s):t.size<=s.size:=Wi sep _ s t h
def P2(sep:Bs)(h1:1<=sep.size)(s:Bs):(Au sep s).length<=s.size+1:=Lib.splitB_length_le sep 0 s.size s
def Sq(w:Wd):Prop:=∀(t:Bs)(W:Wd),AnyW t->t.size<=4096->Ext w W->Calls prog 281 #[.string t] W λe w'=>Ext W w'/\
 ((∃x:Rk,WordR t.data.toList x/\e= .returned (.tuple #[.agg #[vi x.1,vi x.2],.bool true]))\/((∀x,¬WordR t.data.toList x)/\e= .returned (.tuple #[.agg #[vi 0,vi 0],.bool false])))
def Bp:Value:=.slice none 0 0
def IA(w:Wd)(text:Bs)(k:Nat)(W:Wd):Prop:=
 ∃(l:List Rk) (v:Value),InA (Au Bt text) k l/\Boxed W (w.heap.size+1+1) 304 v/\W.ownsRow (w.heap.size+8) 307 2 v l.length (Cp l)/\Below w.heap.size w W/\
  Boxed W w.heap.size 94 Bp/\Boxed W (w.heap.size+1) 46 (.int .i64 0)/\W.heap[w.heap.size+6]?=some (.deferred (some []))/\w.heap.size+7<=W.heap.size
def XA(w:Wd)(text:Bs)(c:Code)(W:Wd):Prop:=
 c= .ret/\ ¬MI text/\Below w.heap.size w W/\Boxed W w.heap.size 94 Bp/\Boxed W (w.heap.size+1) 46 (.int .i64 21)/\W.heap[w.heap.size+6]?=some (.deferred (some []))/\w.heap.size+7<=W.heap.size
def Zfp{B:Wd}{e:TypeId}{size k:Nat}{v:Value}(h:A.ownsRow base e size v k xs)(ht:Tu b A B)(hb:b<base):B.ownsRow base e size v k xs:=by
 refine h.kept ht ?_;rcases h.2 with⟨rfl,_⟩|⟨g,cap,a0,rfl,hg,_⟩
 .exact .inl rfl
 .refine .inr λe'=>?_;have:g=b:=by simpa[Value.ownBlock]using e'
  omega
def J0{B:Wd}{s:Nat}(h:Below s w A)(ht:Tu b A B)(hb:s<=b)(hs:s<=w.heap.size):Below s w B:=h.grown ht (fe hs h.size) λk e=>by cases e;exact hb
def D8{B:Wd}{k:Nat}{v:Value}(h:Boxed A k t v)(ht:Tu b A B)(a0:k≠b):Boxed B k t v:=h.kept ht (by simpa using a0)
def IA.tu{text:Bs}{k:Nat}{B:Wd}(hb:b=w.heap.size+1+1+1\/b=w.heap.size+7):IA w text k A->Tu b A B->IA w text k B:=by rintro⟨l,v,h1,h2,h3,h4,h5,h6,h7,h8⟩ ht;exact⟨l,v,h1,D8 h2 ht oM,Zfp h3 ht oM,J0 h4 ht oM nR,D8 h5 ht oM,D8 h6 ht oM,ht.at h7 oM,fe h8 (World.grownBy.size ht)⟩
def XA.tu{text:Bs}{c:Code}{B:Wd}(hb:b=w.heap.size+1+1+1\/b=w.heap.size+7):XA w text c A->Tu b A B->XA w text c B:=by rintro⟨h1,h2,h4,h5,h6,h7,h8⟩ ht;exact⟨h1,h2,J0 h4 ht oM nR,D8 h5 ht oM,D8 h6 ht oM,ht.at h7 oM,fe h8 (World.grownBy.size ht)⟩
structure StA(w:Wd)(text:Bs)(V:Wd):Prop where
 size:V.heap.size=w.heap.size+6
 out:Boxed V w.heap.size 94 Bp
 err:Boxed V (w.heap.size+1) 46 (.int .i64 0)
 all:Boxed V (w.heap.size+1+1) 304 Bp
 str:Boxed V (w.heap.size+1+1+1) 9 (.string text)
 sep:Boxed V (w.heap.size+1+1+1+1) 9 (.string Bt)
 sav:Boxed V (w.heap.size+1+1+1+2) 3 (.int .i64 0)
 bel:Below w.heap.size w V
def stA(w:Wd)(text:Bs):StA w text (Gk (((w.alloc (.cells #[Bp] 94)).alloc (.cells #[vi 0] 46)).alloc (.cells #[Bp] 304)) text Bt):=by
 unfold Gk;have b0:=Boxed.new w 94 Bp;have b1:=Boxed.new (w.alloc (.cells #[Bp] 94)) 46 (.int .i64 0);have b2:=Boxed.new ((w.alloc (.cells #[Bp] 94)).alloc (.cells #[vi 0] 46)) 304 Bp;generalize hA:((w.alloc (.cells #[Bp] 94)).alloc (.cells #[vi 0] 46)).alloc (.cells #[Bp] 304)=A at*;have hs:A.heap.size=w.heap.size+1+1+1:=by rw[<-hA];simp
 have hb:Below w.heap.size w A:=by rw[<-hA];exact(((Below.refl _ w).alloc nR _).alloc sI _).alloc (by simp;omega) _
 have b3:=Boxed.new A 9 (.string text);have b4:=Boxed.new (A.alloc (.cells #[.string text] 9)) 9 (.string Bt);have b5:=Boxed.new ((A.alloc (.cells #[.string text] 9)).alloc (.cells #[.string Bt] 9)) 3 (.int .i64 0);simp only[World.size_alloc,hs]at b1 b2 b3 b4 b5;have c0:Boxed A w.heap.size 94 Bp:=by rw[<-hA];exact(b0.alloc _).alloc _
 have c1:Boxed A (w.heap.size+1) 46 (.int .i64 0):=by rw[<-hA];exact b1.alloc _
 exact⟨by simp[hs],((c0.alloc _).alloc _).alloc _,((c1.alloc _).alloc _).alloc _,((b2.alloc _).alloc _).alloc _,(b3.alloc _).alloc _,b4.alloc _,b5,((hb.alloc oM _).alloc (by simp;omega) _).alloc (by simp;omega) _⟩
structure StB(W:Wd)(a:Bs)(V:Wd):Prop where
 size:V.heap.size=W.heap.size+5
 one:V.heap[W.heap.size]?=some (.cells #[vi 0,vi 999999999] 307 (0,0))
 some:Boxed V (W.heap.size+1) 4 (.bool false)
 str:Boxed V (W.heap.size+1+1) 9 (.string a)
 sep:Boxed V (W.heap.size+1+1+1) 9 (.string BM)
 sav:Boxed V (W.heap.size+1+1+2) 3 (.int .i64 0)
 bel:Below W.heap.size W V
def FK{k:Nat}{o:Obj}(h:W.heap[k]?=some o)(o':Obj):(W.alloc o').heap[k]?=some o:=(Below.heap_alloc _ _ _ (fa.1 h).1).trans h
def stB(W:Wd)(a:Bs):StB W a (Gk ((W.alloc (.cells #[vi 0,vi 999999999] 307)).alloc (.cells #[.bool false] 4)) a BM):=by
 unfold Gk;have b0:=World.alloc_heap_new W (.cells #[vi 0,vi 999999999] 307);have b1:=Boxed.new (W.alloc (.cells #[vi 0,vi 999999999] 307)) 4 (.bool false);generalize hA:(W.alloc (.cells #[vi 0,vi 999999999] 307)).alloc (.cells #[.bool false] 4)=A at*;have hs:A.heap.size=W.heap.size+1+1:=by rw[<-hA];simp
 have hb:Below W.heap.size W A:=by rw[<-hA];exact((Below.refl _ W).alloc nR _).alloc sI _
 have b3:=Boxed.new A 9 (.string a);have b4:=Boxed.new (A.alloc (.cells #[.string a] 9)) 9 (.string BM);have b5:=Boxed.new ((A.alloc (.cells #[.string a] 9)).alloc (.cells #[.string BM] 9)) 3 (.int .i64 0);simp only[World.size_alloc,hs]at b1 b3 b4 b5;have c0:A.heap[W.heap.size]?=some (.cells #[vi 0,vi 999999999] 307 (0,0)):=by rw[<-hA];exact FK b0 _
 exact⟨by simp[hs],FK (FK (FK c0 _) _) _,((b1.alloc _).alloc _).alloc _,(b3.alloc _).alloc _,b4.alloc _,b5,((hb.alloc oM _).alloc (by simp;omega) _).alloc (by simp;omega) _⟩
def IB(W:Wd)(a:Bs)(j:Nat)(W':Wd):Prop:=
 ∃(x:Rk) (b:Bool),InW (Au BM a) j x b/\W'.heap[W.heap.size]?=some (.cells #[vi x.1,vi x.2] 307 (0,0))/\Boxed W' (W.heap.size+1) 4 (.bool b)/\Below W.heap.size W W'/\W.heap.size+5<=W'.heap.size
structure ButR(s:Nat)(W W':Wd):Prop where
 os:W'.os=W.os
 tape:W'.tape=W.tape
 output:W'.output=W.output
 size:W.heap.size<=W'.heap.size
 block:∀k,k<W.heap.size->k≠s->k≠s+1->W'.heap[k]?=W.heap[k]?
def XB(w W:Wd)(a:Bs)(c:Code)(W':Wd):Prop:=
 c= .ret/\(∃t∈Au BM a,t.size≠0/\∀x,¬WordR t.data.toList x)/\Boxed W' w.heap.size 94 Bp/\Boxed W' (w.heap.size+1) 46 (.int .i64 21)/\ButR w.heap.size W W'
def IB.tu{a:Bs}{k:Nat}{B:Wd}(hb:b=W.heap.size+1+1\/b=W.heap.size+5):IB W a k A->Tu b A B->IB W a k B:=by rintro⟨x,y,h1,h2,h3,h4,h5⟩ ht;exact⟨x,y,h1,ht.at h2 oM,D8 h3 ht oM,J0 h4 ht oM nR,fe h5 (World.grownBy.size ht)⟩
def XB.tu{a:Bs}{c:Code}{B:Wd}(hw:w.heap.size+7<=W.heap.size)(hb:b=W.heap.size+1+1\/b=W.heap.size+5):XB w W a c A->Tu b A B->XB w W a c B:=by
 rintro⟨h1,h2,h3,h4,h5⟩ ht;exact⟨h1,h2,D8 h3 ht oM,D8 h4 ht oM,⟨(World.grownBy.os ht).trans h5.os,(World.grownBy.tape ht).trans h5.tape,(World.grownBy.output ht).trans h5.output,fe h5.size (World.grownBy.size ht),λk hk h6 h7=>
  (World.grownBy.block ht k (jd hk h5.size) (by simp;omega)).trans (h5.block k hk h6 h7)⟩⟩
def Y4{B:Wd}{x y:Value}{s:TypeId}{b:Value}(hx:Ext A B)(h:A.heap[u]?=some (.cells #[x,y] t (0,0)))(hb:Boxed A (u+1) s b):
  B.cell? ⟨u,0,none⟩=some x/\B.cell? ⟨u,1,none⟩=some y/\B.frozen? ⟨u,0,none⟩=false/\B.frozen? ⟨u,1,none⟩=false/\B.cell? ⟨u+1,0,none⟩=some b/\B.frozen? ⟨u+1,0,none⟩=false:=by
 have h2:B.heap[u]?=_:=(hx.block (fa.1 h).1).trans h;have a0:Boxed B (u+1) s b:=(hx.block hb.lt).trans hb;exact⟨by simp[World.cell?,h2],by simp[World.cell?,h2],by simp[World.frozen?,h2],by simp[World.frozen?,h2],a0.cell,a0.frozen⟩
structure Two(u:Nat)(A B:Wd):Prop where
 os:B.os=A.os
 tape:B.tape=A.tape
 output:B.output=A.output
 size:A.heap.size<=B.heap.size
 block:∀k,k<A.heap.size->k≠u->k≠u+1->B.heap[k]?=A.heap[k]?
def Two.below{s:Nat}{B:Wd}(h:Below s w A)(t:Two u A B)(hs:s<=u)(hw:s<=w.heap.size):Below s w B:=⟨t.os.trans h.os,t.tape.trans h.tape,t.output.trans h.output,fe h.size t.size,λk hk=>(t.block k (by have:=h.size;omega) oM oM).trans (h.block k hk)⟩
def Two.ext{B C:Wd}(h:Ext A B)(t:Two u B C)(hu:u+1<A.heap.size):Two u A C:=⟨t.os.trans h.os,t.tape.trans h.tape,t.output.trans h.output,fe h.size t.size,λk hk h1 h2=>(t.block k (by have:=h.size;omega) h1 h2).trans (h.block hk)⟩
def Zif{x y p q r b:Value}{s:TypeId}(h:A.heap[u]?=some (.cells #[x,y] t (0,0)))(hb:Boxed A (u+1) s b):
  (((A.setCell ⟨u,0,none⟩ p).setCell ⟨u,1,none⟩ q).setCell ⟨u+1,0,none⟩ r).heap[u]?=some (.cells #[p,q] t (0,0))/\Boxed (((A.setCell ⟨u,0,none⟩ p).setCell ⟨u,1,none⟩ q).setCell ⟨u+1,0,none⟩ r) (u+1) s r/\Two u A (((A.setCell ⟨u,0,none⟩ p).setCell ⟨u,1,none⟩ q).setCell ⟨u+1,0,none⟩ r):=by
 obtain⟨a6,hk⟩:=fa.1 h;have o:∀(B:Wd)(a:Addr)(v:Value)(k:Nat),k≠a.block->(B.setCell a v).heap[k]?=B.heap[k]? :=λB a v k hk=>Below.heap_setCell B a v k hk;have e1:(A.setCell ⟨u,0,none⟩ p).heap[u]?=some (.cells #[p,y] t (0,0)):=by show(A.heap.modify u _)[u]?=_;rw[lz (by rw[Array.size_modify];exact a6),ob,hk];rfl
 obtain⟨a0,a5⟩:=fa.1 e1;have e2:((A.setCell ⟨u,0,none⟩ p).setCell ⟨u,1,none⟩ q).heap[u]?=some (.cells #[p,q] t (0,0)):=by show((A.setCell ⟨u,0,none⟩ p).heap.modify u _)[u]?=_;rw[lz (by rw[Array.size_modify];exact a0),ob,a5];rfl
 have a4:Boxed ((A.setCell ⟨u,0,none⟩ p).setCell ⟨u,1,none⟩ q) (u+1) s b:=((o _ _ _ _ sI).trans (o _ _ _ _ sI)).trans hb;refine⟨(o _ _ _ _ sI).trans e2,a4.set r,rfl,rfl,rfl,by simp[World.setCell],λk hk h1 h2=>(o _ _ _ _ (by simpa using h2)).trans ((o _ _ _ _ (by simpa using h1)).trans (o _ _ _ _ (by simpa using h1)))⟩
def CY{B:Wd}{n k:Nat}{v:Value}(h:Boxed A k t v)(hx:Below n A B)(hk:k<n):Boxed B k t v:=(hx.block k hk).trans h
def QZ{p q x y:Value}{s:TypeId}(h:Boxed A u t x)(hb:Boxed A (u+1) s y):
  Boxed ((A.setCell ⟨u,0,none⟩ p).setCell ⟨u+1,0,none⟩ q) u t p/\Boxed ((A.setCell ⟨u,0,none⟩ p).setCell ⟨u+1,0,none⟩ q) (u+1) s q/\Two u A ((A.setCell ⟨u,0,none⟩ p).setCell ⟨u+1,0,none⟩ q):=by
 have o:∀(B:Wd)(a:Addr)(v:Value)(k:Nat),k≠a.block->(B.setCell a v).heap[k]?=B.heap[k]? :=λB a v k hk=>Below.heap_setCell B a v k hk;have h1:=h.set p;have a0:Boxed (A.setCell ⟨u,0,none⟩ p) (u+1) s y:=(o _ _ _ _ sI).trans hb;refine⟨(o _ _ _ _ sI).trans h1,a0.set q,rfl,rfl,rfl,by simp[World.setCell],λk hk h1 h2=>(o _ _ _ _ (by simpa using h2)).trans (o _ _ _ _ (by simpa using h1))⟩
def Two.butR{s:Nat}{B:Wd}(h:Below W.heap.size W A)(t:Two s A B):ButR s W B:=⟨t.os.trans h.os,t.tape.trans h.tape,t.output.trans h.output,fe h.size t.size,λk hk h1 h2=>(t.block k (by have:=h.size;omega) h1 h2).trans (h.block k hk)⟩
def ButR.below{s:Nat}{B:Wd}(h:Below s w A)(t:ButR s A B)(hw:s<=w.heap.size):Below s w B:=⟨t.os.trans h.os,t.tape.trans h.tape,t.output.trans h.output,fe h.size t.size,λk hk=>(t.block k (by have:=h.size;omega) oM oM).trans (h.block k hk)⟩
structure OneB(n b:Nat)(A B:Wd):Prop where
 os:B.os=A.os
 tape:B.tape=A.tape
 output:B.output=A.output
 size:A.heap.size<=B.heap.size
 block:∀k,k<n->k≠b->B.heap[k]?=A.heap[k]?
def OneB.below{n s:Nat}{B:Wd}(h:Below s w A)(t:OneB n b A B)(hs:s<=b)(hn:s<=n):Below s w B:=⟨t.os.trans h.os,t.tape.trans h.tape,t.output.trans h.output,fe h.size t.size,λk hk=>(t.block k oM oM).trans (h.block k hk)⟩
def Vo{B:Wd}{e:TypeId}{size k:Nat}{v:Value}(h:A.ownsRow base e size v k xs)(hb:Below A.heap.size A B):B.ownsRow base e size v k xs:=
 ⟨h.1,h.2.imp id λ⟨g,cap,a0,h1,h2,h3,h4⟩=>⟨g,cap,a0,h1,h2,(hb.block g (fa.1 h3).1).trans h3,h4⟩⟩
def XO{w1:Wd}{n₀ B:Nat}{e:TypeId}{size:Nat}{v v':Value}{k m:Nat}{ys:LV}{tmp:Obj}
  (hv:Boxed W B t v) (a7:t≠e) (a5:W.ownsRow n₀ e size v k xs) (b0:n₀<=W.heap.size)
  (a4:w1.ownsRow n₀ e size v' m ys) (a0:(W.alloc tmp).grownBy w1 v.ownBlock):
  Boxed w1 B t v/\Boxed (w1.setCell ⟨B,0,none⟩ v') B t v'/\(w1.setCell ⟨B,0,none⟩ v').ownsRow n₀ e size v' m ys/\OneB n₀ B W (w1.setCell ⟨B,0,none⟩ v'):=by
 have a6:Boxed w1 B t v:=(hv.alloc tmp).kept a0 (hv.not_row a7 a5);refine⟨a6,a6.set v',a4.kept (grownBy_setCell' w1 B v') (.inr (a6.not_row a7 a4).symm),by have:=World.grownBy.os a0;exact this,by have:=World.grownBy.tape a0;exact this,by have:=World.grownBy.output a0;exact this,?_,λj hj hb=>?_⟩
 .have:=World.grownBy.size a0;simp[World.setCell]at this ⊢;omega
 .refine(Below.heap_setCell w1 _ v' j hb).trans ((World.grownBy.block a0 j (by simp;omega) λe'=>?_).trans (Below.heap_alloc W tmp j oM));rcases a5.2 with⟨rfl,_⟩|⟨g,cap,a8,rfl,a9,_⟩
  .simp[Value.ownBlock]at e'
  .have:j=g:=(by simpa[Value.ownBlock]using e');omega
def Zc8{v:Value}(h:W.ownsRow base 307 2 v l.length (Cp l))(a0:F5 l)(hl:l.length<=1000000):
  Calls prog 283 #[v] W λe w'=>∃(t:Sl) (m:List Rk),e= .returned t.v/\Ext W w'/\m.Perm l/\Ee m/\SlR rkE w' (λb=>W.heap.size<=b/\b<w'.heap.size) t (Db m):=by
 obtain⟨s,rfl,own⟩:=OwnS.rkMk h;have eb:rkE.bytes=16:=rfl;have hj:callS prog 283 [s.v] W λv w'=>∃(t:Sl) (m:List Rk),v=t.v/\Ext W w'/\m.Perm l/\Ee m/\SlR rkE w' (λb=>W.heap.size<=b/\b<w'.heap.size) t (Db m):=by
  refine SE.Mg.go (joined_se own a0 hl λt w' m hx hp hr ow=>⟨t,m,rfl,hx,hp,hr,?_⟩);have a4:(Db m).length<=1000000:=by
   have hm:m.length<=1000000:=(by rw[hp.length_eq];exact hl);cases m with
   |nil=>simp[Db]
   |cons y r=>have:=Zcy r y;simp only[fl]at hm;show(Ds y r).length<=1000000;omega
  refine(ow.read (by rw[eb];unfold Ab;omega) (by rw[Al];omega)).mono λb hb=>?_;rcases hb with h|⟨ad,ha,rfl⟩
  .exact h.elim
  .have:=ow.block ha;exact⟨this.1,this.2.1⟩
 exact Calls.mono hj λe w' ⟨v,he,t,m,hv,r⟩=>⟨t,m,by rw[he,hv],r⟩
def Zbk{t:Sl}(h:SlR rkE W S t l):
  Calls prog 282 #[t.v] W λe w'=>∃(s:Sl) (er:Int),e= .returned (.tuple #[s.v,vi er])/\Ext W w'/\((s=Sl.nil/\er=26/\64<l.length)\/(er=0/\l.length<=64/\SlR spanE w' (λb=>W.heap.size<=b/\b<w'.heap.size) s (BU l))):=by
 have hf:callS prog 282 [t.v] W λv w'=>∃(s:Sl) (er:Int),v= .tuple #[s.v,vi er]/\Ext W w'/\((s=Sl.nil/\er=26/\64<l.length)\/(er=0/\l.length<=64/\SlR spanE w' (λb=>W.heap.size<=b/\b<w'.heap.size) s (BU l))):=by refine SE.Oq.go ?_;unfold SE.Oq;have hl:=h.len;exact⟨λhg=>⟨Sl.nil,26,rfl,Ext.refl _,.inl ⟨rfl,rfl,oM⟩⟩,λhg=>SE.Mj.go (spans_se h oM λt w' hx ht=>⟨t,rfl,t,0,rfl,hx,.inr ⟨rfl,oM,ht⟩⟩)⟩
 exact Calls.mono hf λe w' ⟨v,he,s,er,hv,r⟩=>⟨s,er,by rw[he,hv],r⟩
def OG(w:Wd)(text:Bs)(e:Ending)(W':Wd):Prop:=
 Ext w W'/\∃(s:Sl) (er:Int),e= .returned (.tuple #[s.v,vi er])/\((s=Sl.nil/\er=21/\ ¬MI text)\/
  (text.size<=4096/\∃l m,InA (Au Bt text) (Au Bt text).length l/\m.Perm l/\Ee m/\((s=Sl.nil/\er=26/\64<(Db m).length)\/
   (er=0/\(Db m).length<=64/\SlR spanE W' (λb=>w.heap.size<=b/\b<W'.heap.size) s (BU (Db m))))))
set_option maxRecDepth 100000 in
def Zfw(n:Nat)(hn:12<=n)(text:Bs)(w:Wd)(f7:text.size<=4096)(m:Int)(hm:w.cell? ⟨0,0,none⟩=some (.int .i64 m))(e0:Sq w)(g6:AnyW text):
  CallsIn Fence.wide n prog 200 #[.string text] w (OG w text):=by
 have h1:1<=n:=oM;obtain⟨i0,hi,i3,i4,i5⟩:=info_parts (show(prog.info? 307).map (λi=>(i.zero,i.size,i.bytes))=some (some (.agg #[vi 0,vi 0]),2,16) by kernel_rfl);refine callsIn_of_wp_marks func200 rfl trivial ?_ rfl;simp only[Tryz.ntmps200,iv,fl,ia,Nat.reduceAdd,Nat.reduceSub,ku,kr,lw,kx,ig,gu];have g5:(text.size:Int)<=4096:=oM
 gi_wp2_with (refine⟨trivial,?_⟩;gi_at_call 280;refine(Wj (n - 1) oM _ _ _).mono ?_;rintro e w' ⟨rfl,rfl⟩)
 have b5:=stA w text;obtain⟨V,hV⟩:∃V,Gk (((w.alloc (.cells #[Bp] 94)).alloc (.cells #[vi 0] 46)).alloc (.cells #[Bp] 304)) text Bt=V:=⟨_,rfl⟩;rw[hV]at b5;have c6:=hV;unfold Bp Bt at c6;rw[c6];clear hV c6;have h4:0<w.heap.size:=World.block_lt_of_cell? _ _ hm;have f9:∀{W:Wd},Below w.heap.size w W->W.cell? ⟨0,0,none⟩=some (.int .i64 m):=λh=>(h.cell (p:=⟨0,0,none⟩) h4).trans hm;have f5:=b5.size;have g4:=Wk (n - 1) oM Bt dC (w.heap.size+1+1+1+1) (w.heap.size+1+1+1) (w.heap.size+1+1+1+2) oM oM text f7 m oM (V.alloc (.deferred (some []))) (b5.sep.alloc _) (b5.str.alloc _) (b5.sav.alloc _) (f9 (b5.bel.alloc oM _));have hD:(V.alloc (.deferred (some []))).heap[w.heap.size+6]?=some (.deferred (some [])):=by rw[<-f5];exact World.alloc_heap_new V _
 have d5:(V.alloc (.deferred (some []))).heap.size=w.heap.size+7:=by rw[World.size_alloc,f5]
 refine V7 (r₀:=none) (D:=V.heap.size) (λfn=>Zb2 _ _ _ _ fn) (gf:=379) rfl (enters_of func379 kR rfl) g4 rfl oM (λk hk=>?ks)
  (IA w text) (XA w text) (λk A B b hb h ht=>h.tu (hb.imp id λe=>e.trans d5) ht) (λc A B b hb h ht=>h.tu (hb.imp id λe=>e.trans d5) ht)
  ⟨[],Bp,InA.start _,b5.all.alloc _,World.ownsRow_nil _ _ _ _,b5.bel.alloc oM _,b5.out.alloc _,b5.err.alloc _,hD,oM⟩ ?a1 ?assign ?body ?done ?stop
 case ks=>simp only[ga,pm,or_false]at hk;omega
 case assign=>
  intro x W K hK
  gi_wp2
  exact hK
 case body=>
  rintro k hk W ⟨g8,d2,j7⟩ ⟨l,v,hA,c9,c8,hB,b7,b6,b9,d8⟩;rw[d5]at d2;have h5:=(fa.1 d2).1;have n1:1<=n - 1 - 1:=oM;have n2:1<=n - 1 - 1 - 1:=oM
  gi_wp2_with (refine⟨trivial,?_⟩;gi_at_call 280;refine(CallsIn.inRound (F:=Fence.wide) _ (Wj (n - 1 - 1 - 1) oM _ _ _)).mono ?_;rintro e w' ⟨rfl,rfl⟩)
  have a6:=stB W (Au Bt text)[k];obtain⟨V2,hV⟩:∃V2,Gk ((W.alloc (.cells #[vi 0,vi 999999999] 307)).alloc (.cells #[.bool false] 4)) (Au Bt text)[k] BM=V2:=⟨_,rfl⟩;rw[hV]at a6;have c6:=hV;unfold BM at c6;rw[c6];clear hV c6;have e6:=a6.size;have g9:V2.heap[(V.alloc (.deferred (some []))).heap.size]?=some (.loop g8):=by rw[d5];exact(a6.bel.block _ oM).trans d2
  have e5:(Au Bt text)[k].size<=4096:=fe (P3 (ff hk)) f7;have f6:=Wk (n - 1 - 1 - 1) oM BM dC (W.heap.size+1+1+1) (W.heap.size+1+1) (W.heap.size+1+1+2) oM oM (Au Bt text)[k] e5 m oM V2 a6.sep a6.str a6.sav (f9 (hB.trans (a6.bel.mono oM)));refine V7 (r₀:=some (V.alloc (.deferred (some []))).heap.size) (D:=g8.defers) (w₀:=V2) (mark:=[]) (λfn=>run_enterLoop_inner g9 fn _ _ _ _) (gf:=379) rfl (enters_of func379 kR rfl) f6 rfl oM (λk hk=>?ks2)
   (IB W (Au Bt text)[k]) (XB w W (Au Bt text)[k]) (λj A B b hb h ht=>h.tu (hb.imp id λe=>e.trans e6) ht) (λc A B b hb h ht=>h.tu oM (hb.imp id λe=>e.trans e6) ht)
   ⟨_,_,InW.start _,a6.one,a6.some,a6.bel,oM⟩ ?a2 ?assign2 ?body2 ?done2 ?stop2
  case ks2=>simp only[ga,pm,or_false]at hk;omega
  case assign2=>
   intro x W K hK
   gi_wp2
   exact hK
  case body2=>
   rintro j hj W' ⟨j1,d3,i9⟩ ⟨x,b,hW,b4,a8,a0,d7⟩;have d9:(Au BM (Au Bt text)[k])[j].size<=4096:=fe (P3 (ff hj)) e5;generalize ht:(Au BM (Au Bt text)[k])[j]=t at d9 ⊢;by_cases h0:t.size=0
   .have h9:t=bm #[]:=(by obtain⟨⟨l⟩⟩:=t;simp[ByteArray.size]at h0;rw[h0]);subst h9
    gi_wp2
    exact⟨rfl,λ_ _=>rfl,x,b,hW.skip hj (by rw[ht];rfl),b4,a8,a0,d7⟩
   .have j2: ¬t=bm #[]:=(by rintro rfl;exact h0 rfl);have j8:t.toList.isEmpty=false:=by
     rw[Lib.toList_data];cases h:t.data.toList with
     |nil=>have:=Lib.size_eq t;rw[h,ia]at this;omega
     |cons _ _=>rfl
    by_cases hx:∃a,WordR t.data.toList a
    .obtain⟨a,ha⟩:=hx;have hc:Calls prog 281 #[.string t] W' λe w'=>e= .returned (.tuple #[.agg #[vi a.1,vi a.2],.bool true])/\Ext W' w':=by
      refine(e0 t W' (AnyW.piece g6 (ff hk) (by rw[<-ht];exact ff hj)) d9 (hB.trans (a0.mono oM))).mono ?_;rintro e w' ⟨b8,⟨y,hy,rfl⟩|⟨hn,_⟩⟩
      .rw[hy.one ha];exact⟨rfl,b8⟩
      .exact absurd ha (hn a)
     have n3:1<=n - 1 - 1 - 1 - 1:=oM
     gi_wp2_with (refine⟨trivial,?_⟩;gi_at_call 281;refine(CallsIn.inRound (F:=Fence.wide) _ (callsIn_wide.2 hc)).mono ?_;rintro e w' ⟨rfl,b8⟩;obtain⟨c1,c2,f1,f2,cs,fs⟩:=Y4 (b8.trans (Ext.alloc w' (.cells #[vi a.1,vi a.2] 307))) b4 a8)
     have x2:=b8.trans (Ext.alloc w' (.cells #[vi a.1,vi a.2] 307));have f4:=(x2.block (fa.1 b4).1).trans b4;have e2:=CY a8 x2 a8.lt;obtain⟨k1,k2,k3⟩:=Zif (p:=.int .i64 (max x.1 a.1)) (q:=.int .i64 (min x.2 a.2)) (r:=.bool true) f4 e2;have k4:=k3.ext x2 a8.lt;refine⟨?_,?_,(max x.1 a.1,min x.2 a.2),true,hW.word hj (by rw[ht];exact h0) (by rw[ht];exact ha),k1,k2,Two.below a0 k4 nR nR,fe d7 k4.size⟩
     .exact k4.block _ (fa.1 d3).1 oM oM
     .intro q hq;simp only[ga,pm,or_false]at hq;exact k4.block _ oM oM oM
    .have hc:Calls prog 281 #[.string t] W' λe w'=>e= .returned (.tuple #[.agg #[vi 0,vi 0],.bool false])/\Ext W' w':=by
      refine(e0 t W' (AnyW.piece g6 (ff hk) (by rw[<-ht];exact ff hj)) d9 (hB.trans (a0.mono oM))).mono ?_;rintro e w' ⟨b8,⟨y,hy,_⟩|⟨_,he⟩⟩
      .exact absurd ⟨y,hy⟩ hx
      .exact⟨he,b8⟩
     have n3:1<=n - 1 - 1 - 1 - 1:=oM;have a9:=CY b7 a0 oM;have a7:=CY b6 a0 oM
     gi_wp2_with (refine⟨trivial,?_⟩;gi_at_call 281;refine(CallsIn.inRound (F:=Fence.wide) _ (callsIn_wide.2 hc)).mono ?_;rintro e w' ⟨rfl,b8⟩;have x2:=b8.trans (Ext.alloc w' (.cells #[vi 0,vi 0] 307));have c1:=(CY a9 x2 a9.lt).cell;have c2:=(CY a9 x2 a9.lt).frozen;have c3:=(CY a7 x2 a7.lt).cell;have c4:=(CY a7 x2 a7.lt).frozen)
     have x2:=b8.trans (Ext.alloc w' (.cells #[vi 0,vi 0] 307));obtain⟨k1,k2,k3⟩:=QZ (p:=Bp) (q:=.int .i64 21) (CY a9 x2 a9.lt) (CY a7 x2 a7.lt);have k4:=k3.ext x2 a7.lt;exact⟨k4.block _ (fa.1 d3).1 oM oM,rfl,⟨t,by rw[<-ht];exact ff hj,h0,λy hy=>hx ⟨y,hy⟩⟩,k1,k2,k4.butR a0⟩
  case stop2=>
   rintro c W2 ⟨rfl,⟨t,ht,h0,hx⟩,b1,b2,hr⟩
   gi_wp2
   exact⟨by rw[d5];exact hr.block _ h5 oM oM,rfl,λh=>by obtain⟨y,hy⟩:=(h.2 _ (ff hk)).2 t ht h0;exact hx y hy,ButR.below hB hr nR,b1,b2,(hr.block _ (fa.1 b9).1 oM oM).trans b9,fe d8 hr.size⟩
  case done2=>
   rintro W2 ⟨x,b,hW,b4,a8,a0,d7⟩;have j4:=a8.cell;have a5:=CY b7 a0 oM;have a4:=CY b6 a0 oM;have e3:=hB.trans (a0.mono (by omega:w.heap.size<=W.heap.size));have b0:=(a0.block _ (fa.1 b9).1).trans b9;cases b with
   |false=>
    have c1:=a5.cell;have c2:=a5.frozen;have c3:=a4.cell;have c4:=a4.frozen
    gi_wp2
    obtain⟨k1,k2,k3⟩:=QZ (p:=Bp) (q:=.int .i64 21) a5 a4;exact⟨(k3.block _ oM oM oM).trans (a0.block _ oM),rfl,λh=>by have:=hW.some;rw[eh]at this;exact absurd (this.2 (h.2 _ (ff hk)).1) sI,ButR.below hB (k3.butR a0) nR,k1,k2,(k3.block _ (fa.1 b0).1 oM oM).trans b0,fe oM k3.size⟩
   |true=>
    have d6:=hA.step hk hW;have c1:W2.cell? ⟨W.heap.size,0,none⟩=some (.int .i64 x.1):=(by simp[World.cell?,b4]);have c2:W2.cell? ⟨W.heap.size,1,none⟩=some (.int .i64 x.2):=(by simp[World.cell?,b4]);have c5:=CY c9 a0 oM;by_cases f8:x.1<=x.2
    .have e7:=d6.1 f8;have h3:=c5.cell;have d4:=Vo c8 a0;have i7:=hA.len;have h6:l.length<=4096:=by have:=P2 Bt dC text;omega
     gi_wp2_with (gi_at_builtin;refine wpListIn_append_own _ rfl _ _ 304 rfl (w.heap.size+8) 307 i0 (.agg #[vi 0,vi 0]) 2 16 underlying304 hi i3 i4 i5 rfl dC _ _ _ rfl (d4.alloc _) ⟨W2.heap.size,0,none⟩ 1 1 [vi x.1,vi x.2] rfl rfl (λj u hj=>by rw[show(⟨W2.heap.size,0,none⟩:Addr).add j=⟨W2.heap.size,j,none⟩ by unfold Addr.add;split<;>simp_all];rw[World.cell?_alloc_mark,jr];exact hj) (by simp[Value.oneCell']) (by rw[UO];omega) oM (by simp;omega) ?_;intro v' w1 d0 f0 _;obtain⟨g',i6,rfl⟩:=ownsRow_succ d0;obtain⟨g7,i2,h8,c7⟩:=XO c5 dC d4 oM d0 f0;have j3:=g7.cell;have j5:=g7.frozen)
     exact⟨(c7.block _ oM oM).trans (a0.block _ oM),λq hq=>by simp only[ga,pm,or_false]at hq;exact(c7.block _ oM oM).trans (a0.block _ oM),l++[x],_,e7,i2,by rw[VI];simpa using h8,OneB.below e3 c7 oM oM,(c7.block _ oM oM).trans a5,(c7.block _ oM oM).trans a4,(c7.block _ oM oM).trans b0,fe oM c7.size⟩
    .have e7:=d6.2 f8
     gi_wp2
     exact⟨a0.block _ oM,λq hq=>by simp only[ga,pm,or_false]at hq;exact a0.block _ oM,l,v,e7,c5,Vo c8 a0,e3,a5,a4,b0,oM⟩
 case stop=>
  rintro c W ⟨rfl,h7,hB,b7,b6,b9,d8⟩
  gi_wp2
  refine⟨by simp,.inl ⟨_,_,rfl,run_takeDeferred (by rw[f5];exact b9),?_⟩⟩;have hp:=Tu.put W V.heap.size (.deferred none);have e8:=(D8 b7 hp oM).cell;have e9:=(D8 b6 hp oM).cell;refine⟨.tuple #[Bp,vi 21],?_,J0 hB hp oM nR,Sl.nil,21,rfl,.inl ⟨rfl,rfl,h7⟩⟩;simp[results,Tryz.f200,go_sem,e8,e9]
 case done=>
  rintro W ⟨l,v,hA,c9,c8,hB,b7,b6,b9,d8⟩;have h3:=c9.cell;have j6:=hA.len;have h6:=P2 Bt dC text
  gi_wp2
  refine⟨trivial,(callsIn_wide.2 (Zc8 c8 hA.inn oM)).mono ?_⟩;rintro e w1 ⟨t,m',rfl,x1,hp,hr,hm⟩
  gi_wp2
  refine⟨trivial,(callsIn_wide.2 (Zbk hm)).mono ?_⟩;rintro e w2 ⟨⟨a2,l2,k2⟩,er,rfl,x2,g0⟩;dsimp only[Sl.v];have e1:=x1.trans x2;have a5:=CY b7 e1 oM;have a4:=CY b6 e1 oM;have b0:=(e1.block oM).trans b9;have c1:=a5.cell;have c2:=a5.frozen;have c3:=a4.cell;have c4:=a4.frozen
  gi_wp2
  obtain⟨q1,q2,q3⟩:=QZ (p:=.slice a2 l2 k2) (q:=.int .i64 er) a5 a4;have e4:=(q3.block _ (fa.1 b0).1 oM oM).trans b0;refine⟨by simp,.inl ⟨_,_,rfl,run_takeDeferred e4,?_⟩⟩;generalize hX:(w2.setCell ⟨w.heap.size,0,none⟩ (.slice a2 l2 k2)).setCell ⟨w.heap.size+1,0,none⟩ (.int .i64 er)=X at q1 q2 q3 e4 ⊢;have d1:=Tu.put X (w.heap.size+6) (.deferred none);have e8:=(D8 q1 d1 oM).cell;have e9:=(D8 q2 d1 oM).cell;have h2:=Two.below (hB.trans (e1.mono oM)) q3 nR nR;refine⟨.tuple #[.slice a2 l2 k2,vi er],?_,J0 h2 d1 oM nR,⟨a2,l2,k2⟩,er,rfl,.inr ⟨f7,l,m',hA,hp,hr,g0.imp id λ⟨g1,g2,g3⟩=>⟨g1,g2,?_⟩⟩⟩
  .simp[results,Tryz.f200,go_sem,e8,e9]
  .have j0:=e1.size;have j9:=x1.size;have g5:=World.grownBy.size d1;have hq:=q3.size;refine(g3.keep (w':=X.putObj (w.heap.size+6) (.deferred none)) λb hb hl=>?_).mono λb hb=>⟨by have:=hb.1;omega,by have:=hb.2;omega⟩;have h1:=hb.1;exact(World.grownBy.block d1 b oM (by simp;omega)).trans (q3.block b hl oM oM)
end Go.Hal
namespace Go.Hal
def Bo(sep:LU):Nat->LU->List (List UInt8)
 |0,s=>[s]
 |_+1,[]=>[[]]
 |f+1,b::l=>if sep.isPrefixOf (b::l)then []::Bo sep f ((b::l).drop sep.length)else match Bo sep f l with
  |h::t=>(b::h)::t
  | []=>[[b]]
def FM(sep:LU)(f:Nat)(s:LU):∃h t,Bo sep f s=h::t:=by
 cases f with
 |zero=>exact⟨_,_,rfl⟩
 |succ f=>cases s with
  |nil=>exact⟨_,_,rfl⟩
  |cons b l=>
   unfold Bo;split
   .exact⟨_,_,rfl⟩
   .split<;>exact⟨_,_,rfl⟩
def R2{sep:LU}{k:Nat}{s:LU}(h:Lib.index s sep= -1):Lib.splitK sep 0 k s= [s]:=by
 cases k with
 |zero=>rfl
 |succ k=>unfold Lib.splitK;rw[if_pos (by rw[h];rfl)]
def R1{sep:LU}{k:Nat}{s:LU}(h:Lib.index s sep=i):Lib.splitK sep 0 (k+1) s=s.take i::Lib.splitK sep 0 k (s.drop (i+sep.length)):=by
 have hm: ¬(Lib.index s sep== -1)=true:=λe=>by have:=beq_iff_eq.1 e;omega
 have e:(Lib.index s sep).toNat=i:=oM;rw[Lib.splitK,if_neg hm,e,jz]
def Ng{sep:LU}(h1:1<=sep.length):∀(f k:Nat)(s:LU),s.length<=f->s.length<=k->Lib.splitK sep 0 k s=Bo sep f s
 |f,k,[],_,_=>by
  have hi:Lib.index [] sep= -1:=by
   cases sep with
   |nil=>simp at h1
   |cons a t=>rfl
  rw[R2 hi];cases f<;>rfl
 |0,_,b::l,h,_=>by simp at h
 |_,0,b::l,_,h=>by simp at h
 |f+1,k+1,b::l,hf,hk=>by
  simp only[fl]at hf hk;unfold Bo;by_cases h0:sep.isPrefixOf (b::l)=true
  .have hi:Lib.index (b::l) sep=(0:Nat):=(by unfold Lib.index;rw[if_pos h0];rfl);rw[R1 hi,if_pos h0,ke,List.take_zero];rw[Ng h1 f k _ (by rw[fx];simp only[fl];omega) (by rw[fx];simp only[fl];omega)]
  .rw[if_neg h0];have hl:=Ng h1 f k l oM oM;have a4:=Ng h1 f (k+1) l oM oM;rcases Lib.index_spec l sep with⟨hm,_⟩|⟨i,hi,_⟩
   .have hi:Lib.index (b::l) sep= -1:=(by unfold Lib.index;rw[if_neg h0,hm];rfl);rw[R2 hi,<-hl,R2 hm]
   .have a0:Lib.index (b::l) sep=((i+1:Nat):Int):=by have:((i:Int)== -1)=false:=(by rw[beq_eq_false_iff_ne];omega);unfold Lib.index;rw[if_neg h0,hi];simp[this]
    rw[R1 a0,<-a4,R1 hi];simp[Nat.add_right_comm]
def pre(acc:LU):List (List UInt8)->List (List UInt8)
 |h::t=>(acc++h)::t
 | []=>[acc]
def OS:∀(f:Nat)(a0 s:LU),s.length<=f->G9 a0 s=pre a0 (Bo [124,124] f s)
 |f,a0,[],_=>by cases f<;>simp[G9,Bo,pre]
 |0,_,b::l,h=>by simp at h
 |f+1,a0,[b],h=>by
  have h0: ¬([124,124]:LU).isPrefixOf [b]=true:=by simp
  unfold G9 Bo;rw[if_neg h0];cases f<;>simp[Bo,pre]
 |f+1,a0,b::c::r,h=>by
  simp only[fl]at h;have e:(([124,124]:LU).isPrefixOf (b::c::r)=true)↔(b=124/\c=124):=by
   constructor
   .intro h;simp only[List.isPrefixOf,dx,beq_iff_eq]at h;exact⟨h.1.symm,h.2.1.symm⟩
   .rintro⟨rfl,rfl⟩;simp only[List.isPrefixOf,beq_self_eq_true,Bool.and_self]
  unfold G9 Bo;by_cases hb:b=124/\c=124
  .rw[if_pos hb,if_pos (e.2 hb)];have:=OS f [] r oM;obtain⟨x,t,ht⟩:=FM [124,124] f r;simp only[fl,ia,qe,jv,pre,gd];rw[this,ht];simp[pre]
  .rw[if_neg hb,if_neg λh=>hb (e.1 h),OS f (a0++[b]) (c::r) (by simp only[fl];omega)];obtain⟨x,t,ht⟩:=FM [124,124] f (c::r);rw[ht];simp[pre]
def RM:∀(f:Nat)(a0 s:LU),s.length<=f->H3 a0 s=(pre a0 (Bo [32] f s)).filter λt=>decide (t≠[])
 |f,a0,[],_=>by cases f<;>by_cases ha:a0=[]<;>simp[H3,Bo,pre,ha]
 |0,_,b::l,h=>by simp at h
 |f+1,a0,b::r,h=>by
  simp only[fl]at h;have e:(([32]:LU).isPrefixOf (b::r)=true)↔b=32:=by
   constructor
   .intro h;simp only[List.isPrefixOf,dx,beq_iff_eq]at h;exact h.1.symm
   .rintro rfl;simp only[List.isPrefixOf,beq_self_eq_true,Bool.and_self]
  unfold H3 Bo;by_cases hb:b=32
  .rw[if_pos hb,if_pos (e.2 hb)];have:=RM f [] r oM;obtain⟨x,t,ht⟩:=FM [32] f r;simp only[fl,ia,qe,jv,pre,gd];rw[this,ht];by_cases ha:a0=[]<;>simp[pre,ha]
  .rw[if_neg hb,if_neg λh=>hb (e.1 h),RM f (a0++[b]) r oM];obtain⟨x,t,ht⟩:=FM [32] f r;rw[ht];simp[pre]
def P1(h1:1<=sep.size)(s:Bs):(Au sep s).map (·.data.toList)=Bo sep.data.toList s.data.toList.length s.data.toList:=by unfold Au;rw[Lib.splitB_data,Lib.size_eq];exact Ng (by rw[<-Lib.size_eq];exact h1) _ _ _ nR nR
def V0(l:List (List UInt8))(h:l≠[]):pre [] l=l:=by cases l with
 |nil=>exact absurd rfl h
 |cons x t=>rfl
def Sy(s:Bs):Ju s.data.toList=(Au Bt s).map (·.data.toList):=by
 rw[P1 dC];unfold Ju;rw[OS _ _ _ nR,V0]
 .rfl
 .obtain⟨h,t,e⟩:=FM [124,124] s.data.toList.length s.data.toList;rw[e];simp
def Xd(s:Bs):Gy s.data.toList=((Au BM s).map (·.data.toList)).filter λt=>decide (t≠[]):=by
 rw[P1 dC];unfold Gy;rw[RM _ _ _ nR,V0]
 .rfl
 .obtain⟨h,t,e⟩:=FM [32] s.data.toList.length s.data.toList;rw[e];simp
def Ok{t:Bs}:t.size≠0↔t.data.toList≠[]:=by rw[Lib.size_eq,ne_eq,List.length_eq_zero_iff]
def Xe{s:Bs}{p:LU->Prop}:(∀w∈Gy s.data.toList,p w)↔∀t∈Au BM s,t.size≠0->p t.data.toList:=by
 rw[Xd];constructor
 .intro h t ht h0;exact h _ (io.2 ⟨gq.2 ⟨t,ht,rfl⟩,by simpa using Ok.1 h0⟩)
 .intro h w hw;obtain⟨h1,h2⟩:=io.1 hw;obtain⟨t,ht,rfl⟩:=gq.1 h1;exact h t ht (Ok.2 (by simpa using h2))
def Zlv{s:Bs}:Gy s.data.toList≠[]↔∃t∈Au BM s,t.size≠0:=by
 rw[Xd,ne_eq,List.filter_eq_nil_iff];constructor
 .intro h;apply iw;intro hn;refine h λw hw=>?_;obtain⟨t,ht,rfl⟩:=gq.1 hw;intro h2;exact hn ⟨t,ht,Ok.2 (by simpa using h2)⟩
 .rintro⟨t,ht,h0⟩ h;exact h _ (gq.2 ⟨t,ht,rfl⟩) (by simpa using Ok.1 h0)
def Sx(a:Bs):Gz a↔O9 a.data.toList:=by unfold Gz O9;rw[Zlv,Xe (p:=λw=>∃x,WordR w x)]
def Sw(a:Bs)(n:Int):Jo a n↔O8 a.data.toList n:=by unfold Jo O8;rw[Xe (p:=λw=>∀x,WordR w x->x.1<=n/\n<=x.2)]
def QK(s:Bs):MI s↔G5 s.data.toList:=by
 unfold MI G5;rw[Sy,Lib.size_eq];refine and_congr_right λ_=>?_;constructor
 .intro h a ha;obtain⟨t,ht,rfl⟩:=gq.1 ha;exact(Sx t).1 (h t ht)
 .intro h a ha;exact(Sx a).2 (h _ (gq.2 ⟨a,ha,rfl⟩))
def InA.range{s:Bs}(hs:s.size<=4096)(h:InA (Au Bt s) (Au Bt s).length l)(hp:m.Perm l)(hr:Ee m):RangeIs s.data.toList (Db m):=by
 have ht:(Au Bt s).take (Au Bt s).length=Au Bt s:=eh;have h1:=h.ok;have h2:=h.has;rw[ht]at h1 h2;have a0:∀x∈m,x∈l:=λx hx=>hp.mem_iff.1 hx;have hm:∀n,Bc n m=true↔Bc n l=true:=λn=>by unfold Bc;rw[jg,jg];exact⟨λ⟨x,hx,h⟩=>⟨x,a0 x hx,h⟩,λ⟨x,hx,h⟩=>⟨x,hp.mem_iff.2 hx,h⟩⟩
 have a4:Ef 0 (Db m)/\∀n,Bc n (Db m)=true↔Bc n m=true:=by
  cases m with
  |nil=>exact⟨trivial,λn=>Iff.rfl⟩
  |cons y r=>have ha:y.1<=y.2:=h.le y (a0 y (.head _));have hb:∀x∈r,x.1<=x.2:=λx hx=>h.le x (a0 x (.tail _ hx));exact⟨Zcw r y 0 (h.inn y (a0 y (.head _))).1 hr ha hb,λn=>Zcx n r y hr ha hb⟩
 refine⟨(QK s).1 ⟨hs,h1⟩,a4.1,λn=>?_⟩;rw[a4.2,hm,h2,Sy];constructor
 .rintro⟨a,ha,hn⟩;exact⟨_,gq.2 ⟨a,ha,rfl⟩,(Sw a n).1 hn⟩
 .rintro⟨a,ha,hn⟩;obtain⟨t,ht,rfl⟩:=gq.1 ha;exact⟨t,ht,(Sw t n).2 hn⟩
structure Gl(w:Wd):Prop where
 tab:Tab w
 mx:∃m,w.cell? ⟨0,0,none⟩=some (.int .i64 m)
 syn:∃ev,w.cell? ⟨6,0,none⟩=some ev/\(ev= .nilIface\/∃te pe,ev= .iface te pe)
 rng:∃ev,w.cell? ⟨7,0,none⟩=some ev/\(ev= .nilIface\/∃te pe,ev= .iface te pe)
def Gl.ext(h:Gl w)(hx:Ext w w'):Gl w':=by obtain⟨h1,⟨m,h2⟩,⟨e,h3,a0⟩,⟨e',h4,a4⟩⟩:=h;exact⟨h1.ext hx,⟨m,hx.cell h2⟩,⟨e,hx.cell h3,a0⟩,⟨e',hx.cell h4,a4⟩⟩
attribute [local go_sem] Oper.semAt_some
def SG(n:Nat):Bool:=match Lib.atoiAll (dec n)with
 | .ok v=>v==(n:Int)
 |_=>false
set_option maxRecDepth 100000 in
def XR:(List.range 1000).all SG=true:=by decide+kernel
def SH{n:Int}(h0:0<=n)(h1:n<=999):Lib.atoiAll (dec n)= .ok n:=by
 have h:=im.1 XR n.toNat (by simp;omega);have e:((n.toNat:Nat):Int)=n:=oM;unfold SG at h;rw[e]at h;split at h
 .rename_i v hv;rw[hv,eq_of_beq h]
 .cases h
def K4{n:Int}(h0:0<=n):Lib.itoa n=dec n:=by unfold Lib.itoa dec;rw[if_neg oM]
def GO:Bs:=bm #[46]
def R0{sep:Bs}(h1:1<=sep.size):∀(k:Nat)(s:Bs),s.size<=k->Lib.splitB sep 0 (Lib.countB s sep) s=Au sep s
 |k,s,hk=>by
  rcases Lib.indexB_cases s sep with a0|⟨i,a0,a4⟩
  .rw[Lib.splitB_miss _ _ _ _ a0,Tz a0]
  .match k with
   |0=>omega
   |k+1=>rw[Lib.countB_hit s sep i h1 a0,Nat.add_comm,Lib.splitB_hit _ _ _ _ i a0,Ty h1 a0 a4,R0 h1 k _ (by rw[kw];omega),jz]
termination_by k=>k
def YX(h1:1<=sep.size)(s:Bs):(Au sep s).length=Lib.countB s sep+1:=by rw[<-R0 h1 s.size s nR];exact Lib.splitB_all sep h1 0 _ s rfl
def Tx{c:UInt8}:∀{a:LU} (f:Nat),c∉a->Bo [c] f a= [a]
 | [],f,_=>by cases f<;>rfl
 |b::a,0,_=>rfl
 |b::a,f+1,h=>by
  have h0: ¬([c]:LU).isPrefixOf (b::a)=true:=λh2=>by simp only[List.isPrefixOf,dx,beq_iff_eq]at h2;exact h (by rw[h2.1];exact .head _)
  unfold Bo;rw[if_neg h0,Tx f λh2=>h (.tail _ h2)]
def Pz{c:UInt8}:∀{a:LU} {r:LU} (f:Nat),c∉a->(a++c::r).length<=f->Bo [c] f (a++c::r)=a::Bo [c] (f - a.length - 1) r
 | [],r,0,_,h=>by simp at h
 | [],r,f+1,_,_=>by rw[ig,Bo,if_pos (by simp only[List.isPrefixOf,beq_self_eq_true,Bool.and_self])];rfl
 |b::a,r,0,_,h=>by simp at h
 |b::a,r,f+1,h,hf=>by
  have h0: ¬([c]:LU).isPrefixOf (b::(a++c::r))=true:=λh2=>by simp only[List.isPrefixOf,dx,beq_iff_eq]at h2;exact h (by rw[h2.1];exact .head _)
  simp only[gu,fl]at hf;rw[gu,Bo,if_neg h0,Pz f (λh2=>h (.tail _ h2)) oM,fl,show f+1 - (a.length+1) - 1=f - a.length - 1 by omega]
def Iv(c:UInt8):List (List UInt8)->LU
 | []=>[]
 | [x]=>x
 |x::y::r=>x++c::Iv c (y::r)
def Ux(c:UInt8):∀(f:Nat)(s:LU),s.length<=f->Iv c (Bo [c] f s)=s
 |f,[],_=>by cases f<;>rfl
 |0,b::l,h=>by simp at h
 |f+1,b::l,h=>by
  simp only[fl]at h;have ih:=Ux c f l oM;unfold Bo;split
  .rename_i h0;simp only[List.isPrefixOf,dx,beq_iff_eq]at h0;obtain⟨x,t,e⟩:=FM [c] f l;simp only[fl,ia,qe,jv];rw[e]at ih ⊢;rw[Iv,ih,h0.1];rfl
  .split
   .rename_i x t e;rw[e]at ih;cases t with
    |nil=>rw[Iv]at ih ⊢;rw[ih]
    |cons y r=>rw[Iv]at ih ⊢;rw[<-ih];rfl
   .rename_i e;obtain⟨x,t,e'⟩:=FM [c] f l;rw[e']at e;cases e
def Qa{s:LU}{v:Ver}(h:IsVer s v):Bo [46] s.length s= [dec v.ma,dec v.mi,dec v.pa]:=by
 obtain⟨hm,rfl⟩:=h;have hv:=Ver.may_iff.1 hm;have e:AG v=dec v.ma++46::(dec v.mi++46::dec v.pa):=by unfold AG;rw[if_pos hm];simp
 rw[e,Pz _ (GM hv.1.1) nR,Pz _ (GM hv.2.1.1) sI,Tx _ (GM hv.2.2.1)]
def Zcu{s:LU}{a b c:Int}(h:Bo [46] s.length s= [Lib.itoa a,Lib.itoa b,Lib.itoa c])(hm:(⟨a,b,c⟩:Ver).may=true):IsVer s ⟨a,b,c⟩:=by refine⟨hm,?_⟩;have hv:=Ver.may_iff.1 hm;simp only at hv;have:=Ux 46 s.length s nR;rw[h,K4 hv.1.1,K4 hv.2.1.1,K4 hv.2.2.1]at this;rw[<-this];unfold AG;rw[if_pos hm];simp[Iv]
def YZ(s:Bs):(Au GO s).map (·.data.toList)=Bo [46] s.data.toList.length s.data.toList:=P1 dC s
def Uu{s:Bs}{P:List Bs}{v:Ver}(hc:P.map (·.data.toList)=Bo [46] s.data.toList.length s.data.toList)(hv:IsVer s.data.toList v){k:Nat}(hk:k<P.length):∃x:Int,0<=x/\x<=999/\P[k].data.toList=dec x:=by
 rw[Qa hv]at hc;have hm:=Ver.may_iff.1 hv.1;have h:(P.map (·.data.toList))[k]?=some P[k].data.toList:=by rw[gc,dt hk];rfl
 rw[hc]at h
 match k with
 |0=>exact⟨v.ma,hm.1.1,hm.1.2,(jm h).symm⟩
 |1=>exact⟨v.mi,hm.2.1.1,hm.2.1.2,(jm h).symm⟩
 |2=>exact⟨v.pa,hm.2.2.1,hm.2.2.2,(jm h).symm⟩
 |k+3=>simp at h
def Qb{a x:Int}(hx:0<=x)(h:Lib.itoa a=dec x):a=x:=by
 by_cases ha:a<0
 .unfold Lib.itoa at h;rw[if_pos ha]at h;have:=P4 _ hx rfl 45 (by rw[<-h];exact .head _);exact absurd this dC
 .rw[K4 oM]at h;exact Nh oM hx h
def DM(xs:List Int):Array Value:=((xs++List.replicate (3 - xs.length) 0).map (Value.int .i64)).toArray
def IL(P:List Bs):Array Value:=(P.map Value.string).toArray
structure PI(w:Wd)(P:List Bs)(k:Nat)(wr:Wd):Prop where
 bel:Below w.heap.size w wr
 ver:wr.heap[w.heap.size]?=some (.cells #[vi 0,vi 0,vi 0] 66 (0,0))
 row:wr.heap[w.heap.size+1]?=some (.cells (IL P) 9 (0,0))
 arr:∃xs:List Int,wr.heap[w.heap.size+1+1]?=some (.cells (DM xs) 271 (0,0))/\xs.length=k/\(P.take k).map (·.data.toList)=xs.map Lib.itoa
def CU(v:Ver):Value:=.agg #[vi v.ma,vi v.mi,vi v.pa]
def X0(w:Wd)(s:Bs)(e:Ending)(w':Wd):Prop:=Ext w w'/\((∃v,IsVer s.data.toList v/\e= .returned (.tuple #[CU v,.bool true]))\/((∀v,¬IsVer s.data.toList v)/\e= .returned (.tuple #[CU ⟨0,0,0⟩,.bool false])))
def Zk7(w:Wd)(P:List Bs):PI w P 0 (((w.alloc (.cells #[vi 0,vi 0,vi 0] 66)).alloc (.cells (IL P) 9)).alloc (.cells #[vi 0,vi 0,vi 0] 271)):=by have b0:=World.alloc_heap_new w (.cells #[vi 0,vi 0,vi 0] 66);have b1:=World.alloc_heap_new (w.alloc (.cells #[vi 0,vi 0,vi 0] 66)) (.cells (IL P) 9);have b2:=World.alloc_heap_new ((w.alloc (.cells #[vi 0,vi 0,vi 0] 66)).alloc (.cells (IL P) 9)) (.cells #[vi 0,vi 0,vi 0] 271);simp only[World.size_alloc]at b1 b2;exact⟨(((Below.refl _ w).alloc nR _).alloc sI _).alloc (by simp;omega) _,FK (FK b0 _) _,FK b1 _,[],b2,rfl,rfl⟩
def Zcv{v:Int}(h0: -9223372036854775808<=v)(h1:v<=9223372036854775807)(ht:Tab W):Calls prog 80 #[vi v] W λe w'=>e= .returned (.string ⟨(Lib.itoa v).toArray⟩)/\Ext W w':=by refine(Any.strconv_Itoa Tryz.layIt v h0 h1 W ht).mono λe w' ⟨he,q,os,hw⟩=>⟨he,?_⟩;subst hw;exact⟨rfl,rfl,rfl,by show W.heap.size<=(W.heap++os).size;simp,λb hb=>by show(W.heap++os)[b]?=W.heap[b]?;rw[jl hb]⟩
def XT{s:Bs}{v:Int}(hs:s.size<=4096)(h:Lib.atoiAll s.data.toList= .ok v):Calls prog 382 #[.string s] W λe w'=>e= .returned (.tuple #[vi v,.nilIface])/\Ext W w':=by
 refine(Any.strconv_Atoi_ok Tryz.layAt s oM v h W).mono λe w' ⟨he,hw⟩=>⟨he,?_⟩;rcases hw with rfl|⟨t,rfl⟩
 .exact Ext.refl _
 .exact Lib.bytesWorld_below _ _ _
def XP{B:Wd}{k:Nat}{xs:List Int}(hx:Ext A B)(h:A.heap[u]?=some (.cells (DM xs) t (0,0)))(hl:xs.length=k)(hk:k<3):
  B.cell? ⟨u,k,none⟩=some (.int .i64 0)/\B.frozen? ⟨u,k,none⟩=false:=by
 have h2:B.heap[u]?=_:=(hx.block (fa.1 h).1).trans h;have e:(DM xs)[k]?=some (.int .i64 0):=by unfold DM;rw[jr,gc,gp oM,List.getElem?_replicate,if_pos oM];rfl
 constructor
 .simp only[World.cell?,h2];simpa using e
 .simp[World.frozen?,h2]
def XS{s:Bs}(hg:Gl W)(hs:s.size<=4096)(h:∀v,Lib.atoiAll s.data.toList≠ .ok v):Calls prog 382 #[.string s] W λe w'=>∃(x:Int) (t:TypeId) (N:Nat),e= .returned (.tuple #[vi x,.iface t (.pointer (some ⟨N,0,none⟩))])/\Ext W w':=by
 obtain⟨_,_,⟨ev,hv,a0⟩,⟨ew,hw,a4⟩⟩:=hg;cases hat:Lib.atoiAll s.data.toList with
 |ok v=>exact absurd hat (h v)
 |range=>exact(Any.strconv_Atoi_range Tryz.layAt s oM hat ew W hw a4).mono λe w' ⟨N,he,_,_,hb⟩=>⟨_,_,N,he,hb⟩
 |_=>exact(Any.strconv_Atoi_syntax Tryz.layAt s oM hat ev W hv a0).mono λe w' ⟨N,he,_,_,hb⟩=>⟨0,_,N,he,hb⟩
def PI.step{wr w2:Wd}{P:List Bs}{k:Nat}{v:Int}(h:PI w P k wr)(hx:Ext wr w2)(hk:k<3)(hP:k<P.length)(he:P[k].data.toList=Lib.itoa v):PI w P (k+1) (w2.setCell ⟨w.heap.size+1+1,k,none⟩ (.int .i64 v)):=by
 obtain⟨xs,a0,a5,a8⟩:=h.arr;have o:∀j,j≠w.heap.size+1+1->(w2.setCell ⟨w.heap.size+1+1,k,none⟩ (.int .i64 v)).heap[j]?=w2.heap[j]? :=λj hj=>Below.heap_setCell w2 _ _ j hj;have a4:w2.heap[w.heap.size+1+1]?=some (.cells (DM xs) 271 (0,0)):=(hx.block (fa.1 a0).1).trans a0;obtain⟨a7,a6⟩:=fa.1 a4;refine⟨(h.bel.trans (hx.mono h.bel.size)).setCell (p:=⟨w.heap.size+1+1,k,none⟩) (by simp;omega) _,(o _ oM).trans ((hx.block (fa.1 h.ver).1).trans h.ver),(o _ oM).trans ((hx.block (fa.1 h.row).1).trans h.row),xs++[v],?_,by simp[a5],?_⟩
 .have e:(DM xs).setIfInBounds k (.int .i64 v)=DM (xs++[v]):=by
   unfold DM;rw[List.setIfInBounds_toArray];congr 1
   match k,xs,a5,hk with
   |0,[],_,_=>rfl
   |1,[a],_,_=>rfl
   |2,[a,b],_,_=>rfl
  rw[<-e];show(w2.heap.modify (w.heap.size+1+1) _)[w.heap.size+1+1]?=_;rw[lz (by rw[Array.size_modify];exact a7),ob,a6];rfl
 .rw[dw hP,fq,a8,fq,List.map_singleton,List.map_singleton,he]
def Fp{B:Wd}{x y z:Value}(hx:Ext A B)(h:A.heap[u]?=some (.cells #[x,y,z] t (0,0))):
  B.cell? ⟨u,0,none⟩=some x/\B.cell? ⟨u,1,none⟩=some y/\B.cell? ⟨u,2,none⟩=some z/\B.frozen? ⟨u,0,none⟩=false/\B.frozen? ⟨u,1,none⟩=false/\B.frozen? ⟨u,2,none⟩=false:=by
 have h2:B.heap[u]?=_:=(hx.block (fa.1 h).1).trans h;exact⟨by simp[World.cell?,h2],by simp[World.cell?,h2],by simp[World.cell?,h2],by simp[World.frozen?,h2],by simp[World.frozen?,h2],by simp[World.frozen?,h2]⟩
def QX{k:Nat}{cs:Array Value}{v:Value}(h:A.heap[u]?=some (.cells cs t (0,0))):(A.setCell ⟨u,k,none⟩ v).heap[u]?=some (.cells (cs.setIfInBounds k v) t (0,0)):=by obtain⟨a0,hk⟩:=fa.1 h;show(A.heap.modify u _)[u]?=_;rw[lz (by rw[Array.size_modify];exact a0),ob,hk];rfl
def Oe{x y z p q r:Value}(h:A.heap[u]?=some (.cells #[x,y,z] t (0,0))):(((A.setCell ⟨u,0,none⟩ p).setCell ⟨u,1,none⟩ q).setCell ⟨u,2,none⟩ r).heap[u]?=some (.cells #[p,q,r] t (0,0)):=QX (QX (QX h))
def MT{p q r:Value}(h:Below w.heap.size w A)(hu:w.heap.size<=u):Below w.heap.size w (((A.setCell ⟨u,0,none⟩ p).setCell ⟨u,1,none⟩ q).setCell ⟨u,2,none⟩ r):=
 ((h.setCell (p:=⟨u,0,none⟩) hu p).setCell (p:=⟨u,1,none⟩) hu q).setCell (p:=⟨u,2,none⟩) hu r
set_option maxRecDepth 100000 in
def Zlc(n:Nat)(hn:4<=n)(s:Bs)(hs:s.size<=4096)(w:Wd)(hg:Gl w):CallsIn Fence.wide n prog 347 #[.string s] w (X0 w s):=by
 have h1:1<=n:=oM;obtain⟨m,hm⟩:=hg.mx;refine callsIn_of_wp func347 rfl trivial ?_ rfl;simp only[Tryz.ntmps347,iv,fl,ia,Nat.reduceAdd,Nat.reduceSub,ku,kr,lw,kx,ig,gu];have d0:(w.alloc (.cells #[vi 0,vi 0,vi 0] 66)).cell? ⟨0,0,none⟩=some (.int .i64 m):=(Ext.alloc w _).cell hm;have b0:=Any.strings_Split Tryz.laySS kR s GO m (w.alloc (.cells #[vi 0,vi 0,vi 0] 66)) oM d0 dC;rw[R0 dC _ _ nR,<-YX dC]at b0;have hP:∀P,Au GO s=P->P.map (·.data.toList)=Bo [46] s.data.toList.length s.data.toList:=λP h=>by rw[<-h];exact YZ s
 have b9:(Au GO s).length<=4097:=fe (P2 GO dC s) oM;obtain⟨P,eP⟩:∃P,Au GO s=P:=⟨_,rfl⟩;have a7:=hP P eP;have b5:∀p∈P,p.size<=4096:=λp hp=>fe (P3 (sep:=GO) (by rw[eP];exact hp)) hs;rw[eP]at b0 b9;clear hP eP;by_cases h3:P.length=3
 .gi_wp2_with (refine⟨trivial,?_⟩;gi_at_call 381;refine(callsIn_wide.2 b0).mono ?_;rintro e w' ⟨rfl,rfl⟩)
  have b2:=Zk7 w P;obtain⟨V,hV⟩:∃V,((w.alloc (.cells #[vi 0,vi 0,vi 0] 66)).alloc (.cells (IL P) 9)).alloc (.cells #[vi 0,vi 0,vi 0] 271)=V:=⟨_,rfl⟩;rw[hV]at b2;have b7:((w.alloc (.cells #[vi 0,vi 0,vi 0] 66)).alloc (.cells (P.map Value.string).toArray (Tryz.laySS_ren.t 9))).alloc (.cells #[vi 0,vi 0,vi 0] 271)=V:=hV;rw[b7];clear hV b7
  gi_loopw [19] (λi wr=>∃k:Nat,i= .int .i64 k/\k<=3/\PI w P k wr) (λi _=>3 - (Go.Proofs.intOf i).toNat)
  case atStart=>exact⟨0,rfl,oM,b2⟩
  case round=>
   obtain⟨k,rfl,hk,hI⟩:=hrel;obtain⟨xs,a6,c8,d6⟩:=hI.arr;have b8:Gl wr:=hg.ext hI.bel;have e7:=(fa.1 a6).1;by_cases c4:k<3
   .have a8:k<P.length:=oM;have e0:(k:Int)<(P.length:Int):=oM;have c1:wr.cell? ⟨w.heap.size+1,k,none⟩=some (.string P[k]):=(by simp[World.cell?,hI.row,IL,a8]);cases hat:Lib.atoiAll P[k].data.toList with
    |ok v=>
     gi_wp2_with (refine⟨trivial,?_⟩;gi_at_call 382;refine(callsIn_wide.2 (XT (b5 _ (ff a8)) hat)).mono ?_;rintro e w' ⟨rfl,c7⟩)
     obtain⟨d4,e8⟩:=Lib.atoiAll_bounds hat;refine⟨trivial,(callsIn_wide.2 (Zcv d4 oM (b8.ext c7).tab)).mono ?_⟩;rintro e w2 ⟨rfl,b4⟩;have a4:=c7.trans b4;by_cases a9:P[k].data.toList=Lib.itoa v
     .have b2:(⟨(Lib.itoa v).toArray⟩:Bs)=P[k]:=(by rw[<-a9]);rw[b2];obtain⟨d1,d2⟩:=XP a4 a6 c8 c4
      gi_wp2
      go_roundw
      case rel=>exact⟨k+1,by simp,oM,hI.step a4 c4 a8 a9⟩
      case measure=>simp[Go.Proofs.intOf];try omega
     .have d9:(Lib.itoa v==P[k].toList)=false:=beq_eq_false_iff_ne.2 (by rw[Lib.toList_data];exact λe=>a9 e.symm);have a0:=(a4.block (fa.1 hI.ver).1).trans hI.ver;obtain⟨e1,e2,e3,e4,e5,e6⟩:=Fp xR a0
      gi_wp2
      obtain⟨g1,g2,g3,_⟩:=Fp xR (Oe (p:=.int .i64 0) (q:=.int .i64 0) (r:=.int .i64 0) a0);refine bodyPost_ret (v:=.tuple #[CU ⟨0,0,0⟩,.bool false]) ?_ rfl ⟨MT (hI.bel.trans (a4.mono hI.bel.size)) nR,.inr ⟨λu hu=>?_,rfl⟩⟩
      .simp[results,Tryz.f347,go_sem,g1,g2,g3,CU]
      .obtain⟨x,c6,d5,hx⟩:=Uu a7 hu a8;have h2:=SH c6 d5;rw[<-hx,hat]at h2;cases h2;exact a9 (hx.trans (K4 c6).symm)
    |_=>
      have c5:∀v,Lib.atoiAll P[k].data.toList≠ .ok v:=λv h=>by rw[hat]at h;cases h
      gi_wp2_with (refine⟨trivial,?_⟩;gi_at_call 382;refine(callsIn_wide.2 (XS b8 (b5 _ (ff a8)) c5)).mono ?_;rintro e w2 ⟨x,t,N,rfl,a4⟩;obtain⟨e1,e2,e3,e4,e5,e6⟩:=Fp a4 hI.ver)
      refine⟨trivial,?_⟩
      gi_wp2
      have a0:=(a4.block (fa.1 hI.ver).1).trans hI.ver;obtain⟨g1,g2,g3,_⟩:=Fp xR (Oe (p:=.int .i64 0) (q:=.int .i64 0) (r:=.int .i64 0) a0);refine bodyPost_ret (v:=.tuple #[CU ⟨0,0,0⟩,.bool false]) ?_ rfl ⟨MT (hI.bel.trans (a4.mono hI.bel.size)) nR,.inr ⟨λu hu=>?_,rfl⟩⟩
      .simp[results,Tryz.f347,go_sem,g1,g2,g3,CU]
      .obtain⟨y,d7,d8,hy⟩:=Uu a7 hu a8;exact c5 y (by rw[hy];exact SH d7 d8)
   .obtain rfl:k=3:=oM
    match xs,c8 with
    | [a,b,c],_=>
     have d1:wr.cell? ⟨w.heap.size+1+1,0,none⟩=some (.int .i64 a):=(by simp[World.cell?,a6,DM]);have d2:wr.cell? ⟨w.heap.size+1+1,1,none⟩=some (.int .i64 b):=(by simp[World.cell?,a6,DM]);have d3:wr.cell? ⟨w.heap.size+1+1,2,none⟩=some (.int .i64 c):=(by simp[World.cell?,a6,DM]);have a5:Bo [46] s.data.toList.length s.data.toList= [Lib.itoa a,Lib.itoa b,Lib.itoa c]:=(by rw[<-a7,<-eh (l:=P),h3];exact d6);have c9:∀W,Calls prog 104 #[CU ⟨a,b,c⟩] W λe w'=>e= .returned (.bool (⟨a,b,c⟩:Ver).may)/\Ext W w':=λW=>by have h:callS prog 104 [CU ⟨a,b,c⟩] W λv w'=>v= .bool (⟨a,b,c⟩:Ver).may/\Ext W w':=SE.Ek.go (H1 (v:=⟨a,b,c⟩) λw' hx=>⟨rfl,hx⟩);exact Calls.mono h λe w' ⟨v,he,hv,hx⟩=>⟨by rw[he,hv],hx⟩
     gi_wp2
     refine⟨trivial,(callsIn_wide.2 (c9 _)).mono ?_⟩;rintro e w2 ⟨rfl,b4⟩;have a4:=(Ext.alloc wr (.cells #[vi a,vi b,vi c] 66)).trans b4;have a0:=(a4.block (fa.1 hI.ver).1).trans hI.ver;have c3:=(b4.block sI).trans (World.alloc_heap_new wr (.cells #[vi a,vi b,vi c] 66));obtain⟨e1,e2,e3,e4,e5,e6⟩:=Fp xR a0;obtain⟨l1,l2,l3,_⟩:=Fp xR c3;cases hmay:(⟨a,b,c⟩:Ver).may with
     |true=>
      gi_wp2
      obtain⟨g1,g2,g3,_⟩:=Fp xR (Oe (p:=.int .i64 a) (q:=.int .i64 b) (r:=.int .i64 c) a0);refine bodyPost_ret (v:=.tuple #[CU ⟨a,b,c⟩,.bool true]) ?_ rfl ⟨MT (hI.bel.trans (a4.mono hI.bel.size)) nR,.inl ⟨_,Zcu a5 hmay,rfl⟩⟩;simp[results,Tryz.f347,go_sem,g1,g2,g3,CU]
     |false=>
      gi_wp2
      obtain⟨g1,g2,g3,_⟩:=Fp xR (Oe (p:=.int .i64 0) (q:=.int .i64 0) (r:=.int .i64 0) a0);refine bodyPost_ret (v:=.tuple #[CU ⟨0,0,0⟩,.bool false]) ?_ rfl ⟨MT (hI.bel.trans (a4.mono hI.bel.size)) nR,.inr ⟨λu hu=>?_,rfl⟩⟩
      .simp[results,Tryz.f347,go_sem,g1,g2,g3,CU]
      .rw[Qa hu]at a5;have hm:=Ver.may_iff.1 hu.1;simp only[List.cons.injEq,and_true]at a5;have i1:=Qb hm.1.1 a5.1.symm;have i2:=Qb hm.2.1.1 a5.2.1.symm;have i3:=Qb hm.2.2.1 a5.2.2.symm;subst i1 i2 i3;exact absurd (hu.1.symm.trans hmay) sI
 .gi_wp2_with (refine⟨trivial,?_⟩;gi_at_call 381;refine(callsIn_wide.2 b0).mono ?_;rintro e w' ⟨rfl,rfl⟩)
  have a0:=World.alloc_heap_new w (.cells #[vi 0,vi 0,vi 0] 66);have b6:=FK a0 (.cells (P.map Value.string).toArray (Tryz.laySS_ren.t 9));obtain⟨g1,g2,g3,_⟩:=Fp xR b6;refine bodyPost_ret (v:=.tuple #[CU ⟨0,0,0⟩,.bool false]) ?_ rfl ⟨((Below.refl _ w).alloc nR _).alloc sI _,.inr ⟨λu hu=>?_,rfl⟩⟩
  .simp[results,Tryz.f347,go_sem,g1,g2,g3,CU]
  .have:=congrArg List.length a7;rw[Qa hu,dz]at this;exact h3 this
end Go.Hal
