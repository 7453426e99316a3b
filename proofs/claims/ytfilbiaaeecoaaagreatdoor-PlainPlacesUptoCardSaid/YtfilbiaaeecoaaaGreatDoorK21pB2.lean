/- Lemmas for the claim K21p: how the program's functions run, and what they answer; no condition but those that each theorem names. -/
import Derived.Test.YtfilbiaaeecoaaaGreatDoorProg
import Derived.Test.YtfilbiaaeecoaaaGreatDoorK21pB1
set_option linter.unusedVariables false
set_option linter.unusedSimpArgs false
set_option maxHeartbeats 16000000
open Go Go.RowKit Go.Proofs Go.Shelf Go.Hal Go.Proofs.Tryz
variable {c0 p:Addr} {n:ByteArray} {a b:Int} {L:List Pack} {env l:List Pin} {cs tail:List Value} {M:List Want} {m:Mani} {i lo r:Nat} {S S2:Nat→Prop} {data mDev mOpt mOv out s:Sl} {t:TypeId} {w w' w0 w1:World} {R:World→Prop}
namespace Go.Hal
namespace StV
abbrev El:Type:=Ver×Nat
def cells(x:Ver):List Value:=x.c
def fc(x:El):List Value:=cells x.1
theorem Za4(x:El):(fc x).length=3:=rfl
def CmpOk(cmp:Value)(c:Ver→Ver→Int)(g:Nat)(w0:World):Prop:=
 ∀(x y:Ver) (w:World) (k:Value→World→Prop),But g w0 w→(∀w',Ext w w'→k (.int .i64 (c x y)) w')→callV prog cmp [.agg (cells x).toArray,.agg (cells y).toArray] w k
theorem CmpOk.but{cmp:Value}{c:Ver→Ver→Int}{g:Nat}(h:CmpOk cmp c g w0)(hb:But g w0 w1):CmpOk cmp c g w1:=λx y w k hw hk=>h x y w k (hb.trans hw) hk
section
variable {cmp:Value} {c:Ver→Ver→Int} {g:Nat}
theorem Zgx(hO:Ord3 c){A M0 B:List El}(hc:CmpOk cmp c g w)(hd:data.a=some ⟨g,0,none⟩)(a9:data.len=(A++M0++B).length)(d2:data.len<4611686018427387904)
  (hB:RowB fc w g (A++M0++B) tail) (ha:a=(A.length:Int)) (hb:b=((A.length+M0.length:Nat):Int)) (hM:M0.Pairwise λx y=>x.2<y.2)
  (hR: ∀w' M,But g w w'→M.Perm M0→M.Pairwise (Ah c)→RowB fc w' g (A++M++B) tail→R w'):SE.Zh data a b cmp w R:=by
 unfold SE.Zh
 subst ha hb
 simp only[br]at a9
 rw[Zc oM oM]
 by_cases h0:M0= []
 ·subst h0
  refine⟨λi w'=>w'=w∧i=(A.length:Int)+1,λ_ _=>0,⟨rfl,rfl⟩,?_⟩
  rintro i w' ⟨rfl,rfl⟩
  refine⟨λh=>?_,λ_=>hR _ [] ⟨df _,rfl,rfl,rfl,λ_ _ _=>rfl⟩ (fx _) .nil hB⟩
  simp at h; omega
 have c1:0<M0.length:=ig.2 h0
 refine⟨λi w'=>∃(n:Nat) (M:List El),i=((A.length+n:Nat):Int)∧1≤n∧n≤M0.length∧But g w w'∧M.Perm (M0.take n)∧M.Pairwise (Ah c)∧RowB fc w' g (A++M++(M0.drop n++B)) tail,λi _=>(A.length+M0.length) - i.toNat,⟨1,M0.take 1,oM,df _,c1,⟨df _,rfl,rfl,rfl,λ_ _ _=>rfl⟩,fx _,?_,?_⟩,?_⟩
 ·cases M0 with
  |nil=>exact .nil
  |cons x r=>exact im _ _
 ·rw[←cc,cc A,dc]; exact hB
 rintro i w1 ⟨n,M,rfl,d7,d8,b1,hp,hs,a8⟩
 have b9:M.length=n:=by rw[hp.length_eq,cd]; omega
 refine⟨λd6=>?_,λd4=>?_⟩
 ·have b5:n<M0.length:=oM
  have b4:M0.drop n=M0[n]::M0.drop (n+1):=dm b5
  have hx: ∀y∈M,y.2<M0[n].2:=λy hy=>by
   have d0:=hp.mem_iff.1 hy
   obtain⟨j,hj,rfl⟩:=cy.1 d0
   rw[cd]at hj
   rw[fm]
   exact cr.1 hM j n oM b5 oM
  rw[b4]at a8
  generalize hX:M0[n]=x at*
  refine⟨λj w'=>∃(M1 M2:List El),j=((A.length+M1.length:Nat):Int)∧M1++M2=M∧(∀y∈M2,Ah c x y)∧But g w w'∧RowB fc w' g (A++M1++x::(M2++(M0.drop (n+1)++B))) tail,λj _=>j.toNat,⟨M,[],by rw[b9],by simp,by simp,b1,by simpa using a8⟩,?_⟩
  rintro j w2 ⟨M1,M2,rfl,a4,c2,b2,c8⟩
  refine bnd.drew λw3 x3=>bound ?_
  have a6:=c8.ext x3
  have b3:But g w w3:=b2.ext' x3
  have d3:M1.length+M2.length=n:=by rw[←b9,←a4,br]
  have fin: ∀w' w0,But g w w'→RowB fc w' g (A++M1++x::(M2++(M0.drop (n+1)++B))) tail→(∀y∈M1,Ah c y x)→w0=w'→
    (∃(n':Nat) (M':List El),Za (((A.length+n:Nat):Int)+1)=((A.length+n':Nat):Int)∧1≤n'∧n'≤M0.length∧But g w w0∧M'.Perm (M0.take n')∧M'.Pairwise (Ah c)∧RowB fc w0 g (A++M'++(M0.drop n'++B)) tail)∧(A.length+M0.length) - (Za (((A.length+n:Nat):Int)+1)).toNat<(A.length+M0.length) - (((A.length+n:Nat):Int)).toNat:=λw' w0 b' c7 h1 e=>by
   subst e
   rw[Zc oM oM]
   refine⟨⟨n+1,M1++x::M2,oM,oM,oM,b',?_,?_,by simpa using c7⟩,oM⟩
   ·rw[bu b5,hX]
    refine(List.perm_middle).trans ?_
    rw[a4]
    exact(hp.cons x).trans (iz x _).symm
   ·rw[←a4]at hs
    obtain⟨p1,p2,p3⟩:=eu.1 hs
    refine eu.2 ⟨p1,ga.2 ⟨c2,p2⟩,λy hy z hz=>?_⟩
    rcases du.1 hz with rfl|hz
    ·exact h1 y hy
    ·exact p3 y hy z hz
  rcases List.eq_nil_or_concat M1 with rfl|⟨a0,y,rfl⟩
  ·have hf:decide ((A.length:Int)<((A.length+([]:List El).length:Nat):Int))=false:=by simp
   rw[hf]
   refine⟨⟨g,0,none⟩,nO,0,0,0,nO,⟨g,0,none⟩,nO,0,0,0,nO,nO,λ_=>⟨nO,λ_=> ?_⟩⟩
   exact fin w3 w3 b3 a6 sI rfl
  ·simp only[List.concat_eq_append]at*
   have hj:decide ((A.length:Int)<((A.length+(a0++ [y]).length:Nat):Int))=true:=by simp; omega
   rw[hj]
   have a7:(a0++ [y]).length=a0.length+1:=by simp
   have e1:Za (((A.length+(a0++ [y]).length:Nat):Int) - 1)=((A.length+a0.length:Nat):Int):=by rw[a7,Zc oM oM]; omega
   rw[e1]
   have d5:data.len=A.length+(n+1+(M0.drop (n+1)++B).length):=by
    rw[a9,br,dh]; omega
   have eB:A++(a0++ [y])++x::(M2++(M0.drop (n+1)++B))=(A++a0)++y::x::(M2++(M0.drop (n+1)++B)):=by simp
   rw[eB]at a6
   have ey:(A++a0).length=A.length+a0.length:=br
   have gy:=a6.ld' Za4 (Zhb ey)
   have gx:=a6.ld' Za4 (Zid (n:=A.length+(a0++ [y]).length) (by rw[a7,ey]; omega))
   have d1:y∈M:=by rw[←a4]; simp
   have a5:=Ah.right hO (hx y d1)
   refine⟨_,λ_=>⟨hd,oM,oM⟩,_,_,_,λ_=>gx,_,λ_=>⟨hd,oM,oM⟩,_,_,_,λ_=>gy,λ_=> ?_,nO⟩
   refine hc x.1 y.1 w3 _ b3 λw4 x4=>⟨_,rfl,λh=>?_,λh=>?_⟩
   ·simp only[dw,decide_eq_true_eq]at h
    refine bnd.drew λw5 x5=>?_
    have c4:=x4.trans x5
    have b0:=a6.ext c4
    have c6:=b0.ld' Za4 (Zhb ey)
    have c5:=b0.ld' Za4 (Zid (n:=A.length+(a0++ [y]).length) (by rw[a7,ey]; omega))
    refine⟨_,⟨hd,oM,oM⟩,_,_,_,c6,_,⟨hd,oM,oM⟩,_,_,_,c5,_,⟨hd,oM,oM⟩,b0.st Za4 (i:=A.length+(a0++ [y]).length) (x:=y) (by simp only[br,dq,fa]; omega) λw6 b6 c9=>⟨_,⟨hd,oM,oM⟩,c9.st Za4 (i:=A.length+a0.length) (x:=x) (by simp only[fw,br,dq,fa]; omega) λw7 b7 b8=>?_⟩⟩
    have e2:((((A++a0)++y::x::(M2++(M0.drop (n+1)++B))).set (A.length+(a0++ [y]).length) y).set (A.length+a0.length) x)=(A++a0)++x::y::(M2++(M0.drop (n+1)++B)):=by
     have:=Zox (A++a0) (M2++(M0.drop (n+1)++B)) y x
     rw[ey]at this
     rw[a7,←kh]; exact this
    rw[e2]at b8
    refine⟨⟨a0,y::M2,rfl,by rw[←a4]; simp,λz hz=>?_,((b3.ext' c4).trans b6).trans b7,by simpa using b8⟩,by rw[a7]; omega⟩
    rcases du.1 hz with rfl|hz
    ·exact a5.1 h
    ·exact c2 z hz
   ·simp only[dw,decide_eq_false_iff_not]at h
    refine fin w4 w4 (b3.ext' x4) (by rw[eB]; exact a6.ext x4) (λz hz=>?_) rfl
    have c3:=a5.2 h
    rcases dj.1 hz with hz|hz
    ·refine Ah.trans hO ?_ c3
     rw[←a4]at hs
     have:=(eu.1 (eu.1 hs).1).2.2 z hz y sI
     exact this
    ·simp at hz; subst hz; exact c3
 ·have hn:n=M0.length:=oM
  subst hn
  rw[cu]at hp
  rw[ix,em]at a8
  exact hR w1 M b1 hp hs a8
theorem Ze9{P X M Y Q:List El}{n:Int}(hd:data.a=some ⟨g,0,none⟩)(a4:data.len=(P++X++M++Y++Q).length)(b7:data.len<4611686018427387904)
  (hB:RowB fc w g (P++X++M++Y++Q) tail) (ha:a=(P.length:Int)) (hb:b=((P.length+X.length+M.length:Nat):Int)) (hn:n=(X.length:Int)) (b8:Y.length=X.length)
  (hR: ∀w',But g w w'→RowB fc w' g (P++Y++M++X++Q) tail→R w'):SE.Zo data a b n cmp w R:=by
 unfold SE.Zo
 subst ha hb hn
 simp only[br]at a4
 refine loop1.up (N:=X.length) (by rw[Zd]; omega) (λi w'=>But g w w'∧RowB fc w' g (P++(Y.take i++X.drop i)++M++(X.take i++Y.drop i)++Q) tail) ⟨⟨df _,rfl,rfl,rfl,λ_ _ _=>rfl⟩,by simpa using hB⟩ λi w1 c2 hi ⟨b1,a5⟩ b6=>⟨λc1=>?_,λb9=>?_⟩
 ·have a6:i<X.length:=oM
  have a8:i<Y.length:=oM
  refine bnd.drew λw2 x2=>?_
  rw[Zc (x:=((P.length+X.length+M.length:Nat):Int)+(i:Int)) oM oM,Zc (x:=(P.length:Int)+(i:Int)) oM oM]
  rw[show((P.length+X.length+M.length:Nat):Int)+(i:Int)=((P.length+X.length+M.length+i:Nat):Int) by omega,show(P.length:Int)+(i:Int)=((P.length+i:Nat):Int) by omega]
  have a0:=a5.ext x2
  have eL:P++(Y.take i++X.drop i)++M++(X.take i++Y.drop i)++Q=(P++Y.take i)++X[i]::((X.drop (i+1)++M++X.take i)++Y[i]::(Y.drop (i+1)++Q)):=by
   rw[dm a6,dm a8]; simp only[cc,dz]
  rw[eL]at a0
  have l1:(P++Y.take i).length=P.length+i:=by simp; omega
  have l2:(X.drop (i+1)++M++X.take i).length+1=X.length+M.length:=by simp; omega
  have gx:=a0.ld' Za4 (Zhb l1)
  have b5:((P++Y.take i)++X[i]::((X.drop (i+1)++M++X.take i)++Y[i]::(Y.drop (i+1)++Q)))[P.length+X.length+M.length+i]? =some Y[i]:=by
   rw[←dz,←cc]
   refine Zhb ?_
   simp only[br,dq]at l1 l2 ⊢; omega
  have gy:=a0.ld' Za4 b5
  have b2:=b1.ext' x2
  have a9:((P++Y.take i)++X[i]::((X.drop (i+1)++M++X.take i)++Y[i]::(Y.drop (i+1)++Q))).length=data.len:=by
   rw[←eL,a4]; simp; omega
  refine⟨_,⟨hd,oM,oM⟩,_,_,_,gy,_,⟨hd,oM,oM⟩,_,_,_,gx,_,⟨hd,oM,oM⟩,a0.st Za4 (i:=P.length+i) (x:=Y[i]) (by rw[a9]; omega) λw3 b3 b0=>⟨_,⟨hd,oM,oM⟩,b0.st Za4 (i:=P.length+X.length+M.length+i) (x:=X[i]) (by rw[fw,a9]; omega) λw4 b4 a7=>b6 a6 _ ⟨(b2.trans b3).trans b4,?_⟩⟩⟩
  have e:=Zx5 (P++Y.take i) (X.drop (i+1)++M++X.take i) (Y.drop (i+1)++Q) X[i] Y[i]
  rw[l1,show P.length+i+1+(X.drop (i+1)++M++X.take i).length=P.length+X.length+M.length+i by omega]at e
  rw[e]at a7
  have e2:P++(Y.take (i+1)++X.drop (i+1))++M++(X.take (i+1)++Y.drop (i+1))++Q=(P++Y.take i)++Y[i]::((X.drop (i+1)++M++X.take i)++X[i]::(Y.drop (i+1)++Q)):=by
   rw[bu a6,bu a8]; simp only[cc,dz,em]
  rw[e2]; exact a7
 ·have:i=X.length:=oM
  subst this
  rw[dg oM,ix,dp,cu,gd oM,dp]at a5
  exact hR w1 b1 a5
theorem Zpy{P X Y Q:List El}{m:Int}(hd:data.a=some ⟨g,0,none⟩)(a5:data.len=(P++X++Y++Q).length)(a4:data.len<4611686018427387904)
  (hB:RowB fc w g (P++X++Y++Q) tail) (ha:a=(P.length:Int)) (hm:m=((P.length+X.length:Nat):Int)) (hb:b=((P.length+X.length+Y.length:Nat):Int)) (hX:0<X.length) (hY:0<Y.length)
  (hR: ∀w',But g w w'→RowB fc w' g (P++Y++X++Q) tail→R w'):SE.Zao data a m b cmp w R:=by
 unfold SE.Zao
 subst ha hb hm
 simp only[br]at a5
 refine⟨λi j w'=>∃P' X' Y' Q':List El,i=(X'.length:Int)∧j=(Y'.length:Int)∧P'.length+X'.length=P.length+X.length∧0<X'.length∧0<Y'.length∧data.len=P'.length+X'.length+Y'.length+Q'.length∧P'++Y'++X'++Q'=P++Y++X++Q∧But g w w'∧RowB fc w' g (P'++X'++Y'++Q') tail,
  λi j _=>i.toNat+j.toNat,⟨P,X,Y,Q,by rw[Zc oM oM]; omega,by rw[Zc oM oM]; omega,rfl,hX,hY,a5,rfl,⟨df _,rfl,rfl,rfl,λ_ _ _=>rfl⟩,hB⟩,?_⟩
 rintro i j w1 ⟨P',X',Y',Q',rfl,rfl,hm,b6,b7,hl,hg,b1,a6⟩
 have wi:Za (((P.length+X.length:Nat):Int) - (X'.length:Int))=(P'.length:Int):=by rw[Zc oM oM]; omega
 rw[wi]
 refine⟨λb5=>⟨λb0=>?_,λb8=>?_⟩,λa7=>?_⟩
 ·have a8:X'=X'.take Y'.length++X'.drop Y'.length:=(dc _ _).symm
  have l1:(X'.take Y'.length).length=Y'.length:=by rw[cd]; omega
  have l2:(X'.drop Y'.length).length=X'.length - Y'.length:=dh
  generalize X'.take Y'.length=X1 at*
  generalize X'.drop Y'.length=X2 at*
  subst a8
  rw[br]at*
  refine SE.Zo.go (Ze9 (P:=P') (X:=X1) (M:=X2) (Y:=Y') (Q:=Q') hd (by simp only[br]; omega) a4 (by simpa using a6) rfl oM oM oM λw2 b2 a0=>⟨rfl,?_⟩)
  rw[Zc oM oM]
  refine⟨⟨P'++Y',X2,X1,Q',oM,oM,by rw[br]; omega,oM,oM,by rw[br]; omega,by rw[←hg]; simp,b1.trans b2,by simpa using a0⟩,by show Int.toNat _+Int.toNat _<Int.toNat _+Int.toNat _; omega⟩
 ·have b0:X'.length<Y'.length:=by
   rcases jm X'.length Y'.length with h|h|h
   ·exact h
   ·exact absurd (by rw[h]) b5
   ·omega
  have a9:Y'=Y'.take (Y'.length - X'.length)++Y'.drop (Y'.length - X'.length):=(dc _ _).symm
  have l1:(Y'.take (Y'.length - X'.length)).length=Y'.length - X'.length:=by rw[cd]; omega
  have l2:(Y'.drop (Y'.length - X'.length)).length=X'.length:=by rw[dh]; omega
  generalize b3:Y'.take (Y'.length - X'.length)=Y1 at*
  generalize b4:Y'.drop (Y'.length - X'.length)=Y2 at*
  clear b3 b4
  subst a9
  rw[br]at*
  have e1:Za (Za (((P.length+X.length:Nat):Int)+((Y1.length+Y2.length:Nat):Int)) - (X'.length:Int))=((P'.length+X'.length+Y1.length:Nat):Int):=by
   rw[Zc (x:=((P.length+X.length:Nat):Int)+((Y1.length+Y2.length:Nat):Int)) oM oM,Zc oM oM]; omega
  rw[e1]
  refine SE.Zo.go (Ze9 (P:=P') (X:=X') (M:=Y1) (Y:=Y2) (Q:=Q') hd (by simp only[br]; omega) a4 (by simpa using a6) rfl rfl rfl l2 λw2 b2 a0=>⟨rfl,?_⟩)
  rw[Zc oM oM]
  refine⟨⟨P',Y2,Y1,X'++Q',oM,oM,oM,oM,oM,by rw[br]; omega,by rw[←hg]; simp,b1.trans b2,by simpa using a0⟩,by show Int.toNat _+Int.toNat _<Int.toNat _+Int.toNat _; omega⟩
 ·have a7:X'.length=Y'.length:=by
   have:=fj.1 a7; omega
  refine SE.Zo.go (Ze9 (P:=P') (X:=X') (M:=[]) (Y:=Y') (Q:=Q') hd (by simp only[br,fa]; omega) a4 (by simpa using a6) rfl (by simp only[fa]; omega) rfl a7.symm λw2 b2 a0=>⟨rfl,?_⟩)
  exact hR w2 (b1.trans b2) (by rw[←hg]; simpa using a0)
theorem Zej(hO:Ord3 c){data:Sl}{tail:List Value}(hd:data.a=some ⟨g,0,none⟩)(c1:data.len<4611686018427387904):
  ∀(N:Nat) {w:World} {R:World→Prop} {P L X Q:List El} {a m b:Int},L.length+X.length≤N→CmpOk cmp c g w→data.len=(P++L++X++Q).length→RowB fc w g (P++L++X++Q) tail→
   a=(P.length:Int)→m=((P.length+L.length:Nat):Int)→b=((P.length+L.length+X.length:Nat):Int)→0<L.length→0<X.length→L.Pairwise (Ah c)→X.Pairwise (Ah c)→(∀x∈L,∀y∈X,x.2<y.2)→
   (∀w' M,But g w w'→M.Perm (L++X)→M.Pairwise (Ah c)→RowB fc w' g (P++M++Q) tail→R w')→SE.Zl data a m b cmp w R
 |0,_,_,_,L,_,_,_,_,_,h,_,_,_,_,_,_,hL,_,_,_,_,_=>by omega
 |N+1,w,R,P,L,X,Q,_,_,_,hN,hc,hlen,hB,rfl,rfl,rfl,hL0,hX0,hL,hX,hid,hR=>by
  unfold SE.Zl
  simp only[br]at hlen
  have refl:But g w w:=⟨df _,rfl,rfl,rfl,λ_ _ _=>rfl⟩
  have eL: ∀(u:Nat) (hu:u<L.length),(P++L++X++Q)[P.length+u]? =some L[u]:=λu hu=>by
   rw[cc,cc,ff oM,dt oM,lr]; exact bq hu
  have eX: ∀(u:Nat) (hu:u<X.length),(P++L++X++Q)[P.length+L.length+u]? =some X[u]:=λu hu=>by
   rw[cc,ff (by rw[br]; omega),br,lr,dt oM]; exact bq hu
  have wm:Za (((P.length+L.length:Nat):Int) - (P.length:Int))=(L.length:Int):=by rw[Zc oM oM]; omega
  have wb:Za (((P.length+L.length+X.length:Nat):Int) - ((P.length+L.length:Nat):Int))=(X.length:Int):=by rw[Zc oM oM]; omega
  rw[wm,wb]
  refine⟨λh1=>?_,λh1=>⟨λh2=>?_,λh2=>?_⟩⟩
  ·
   obtain⟨x,rfl⟩:=lx.1 (show L.length=1 by omega)
   simp only[dq,fa]at*
   refine⟨λi j w'=>∃p q:Nat,i=((P.length+(0+1)+p:Nat):Int)∧j=((P.length+(0+1)+q:Nat):Int)∧p≤q∧q≤X.length∧(∀(u:Nat) (hu:u<X.length),u<p→Ah c X[u] x)∧(∀(u:Nat) (hu:u<X.length),q≤u→Ah c x X[u])∧Ext w w',
    λi j _=>(j - i).toNat,⟨0,X.length,oM,oM,oM,oM,λu _ h=>by omega,λu h1 h2=>by omega,Ext.refl _⟩,?_⟩
   rintro _ _ w1 ⟨p,q,rfl,rfl,f0,hq,a5,b8,x1⟩
   refine⟨λa9=>bnd.drew λw2 x2=>?_,λa8=>?_⟩
   ·rw[half oM]
    have he:(P.length+(0+1)+p+(P.length+(0+1)+q))/2=P.length+(0+1)+(p+q)/2:=oM
    rw[he]
    have a7:(p+q)/2<X.length:=oM
    have a4:=hB.ext (x1.trans x2)
    have gx:=a4.ld' Za4 (eL 0 sI)
    have gy:=a4.ld' Za4 (eX _ a7)
    have a0:=Ah.right hO (hid x sI _ (cj a7))
    refine⟨_,⟨hd,oM,oM⟩,_,_,_,gy,_,⟨hd,oM,oM⟩,_,_,_,gx,hc _ x.1 w2 _ (refl.ext' (x1.trans x2)) λw3 x3=>⟨_,rfl,λh=>?_,λh=>?_⟩⟩
    ·have hA:=a0.1 h
     rw[Zc oM oM]
     refine⟨⟨(p+q)/2+1,q,oM,rfl,oM,hq,λu hu a9=>?_,b8,x1.trans (x2.trans x3)⟩,by show Int.toNat _<Int.toNat _; omega⟩
     rcases dn.1 a9 with h'|rfl
     ·exact(cr.1 hX u _ hu a7 h').trans hO hA
     ·exact hA
    ·have hA:=a0.2 h
     refine⟨⟨p,(p+q)/2,rfl,rfl,oM,oM,a5,λu hu a8=>?_,x1.trans (x2.trans x3)⟩,by show Int.toNat _<Int.toNat _; omega⟩
     rcases io a8 with h'|rfl
     ·exact hA.trans hO (cr.1 hX _ u a7 hu h')
     ·exact hA
   ·have c3:p=q:=oM
    subst c3
    have wi:Za (((P.length+(0+1)+p:Nat):Int) - 1)=((P.length+p:Nat):Int):=by rw[Zc oM oM]; omega
    rw[wi]
    refine⟨λk w'=>∃t:Nat,k=((P.length+t:Nat):Int)∧t≤p∧But g w w'∧RowB fc w' g (P++(X.take t++x::X.drop t)++Q) tail,λk _=>(P.length+p) - k.toNat,⟨0,oM,oM,refl.ext' x1,by simpa using hB.ext x1⟩,?_⟩
    rintro _ w2 ⟨t,rfl,f4,b2,a4⟩
    refine⟨λa9=>bnd.drew λw3 x3=>?_,λa8=>?_⟩
    ·have d8:t<X.length:=oM
     have e1:Za (((P.length+t:Nat):Int)+1)=((P.length+t+1:Nat):Int):=by rw[Zc oM oM]; omega
     rw[e1]
     have eB:P++(X.take t++x::X.drop t)++Q=(P++X.take t)++x::X[t]::(X.drop (t+1)++Q):=by
      rw[dm d8]; simp only[cc,dz]
     have a6:=a4.ext x3
     rw[eB]at a6
     have ey:(P++X.take t).length=P.length+t:=by rw[br,cd]; omega
     have gy:=a6.ld' Za4 (Zhb ey)
     have gx:=a6.ld' Za4 (Zid (n:=P.length+t+1) oM)
     have c2:((P++X.take t)++x::X[t]::(X.drop (t+1)++Q)).length=data.len:=by rw[←eB,hlen]; simp; omega
     refine⟨_,⟨hd,oM,oM⟩,_,_,_,gx,_,⟨hd,oM,oM⟩,_,_,_,gy,_,⟨hd,oM,oM⟩,a6.st Za4 (i:=P.length+t) (x:=X[t]) (by rw[c2]; omega) λw4 b4 b7=>⟨_,⟨hd,oM,oM⟩,b7.st Za4 (i:=P.length+t+1) (x:=x) (by rw[fw,c2]; omega) λw5 b5 b9=>?_⟩⟩
     have e2:=Zu3 (P++X.take t) (X.drop (t+1)++Q) x X[t]
     rw[ey]at e2
     rw[e2]at b9
     refine⟨⟨t+1,oM,oM,((b2.ext' x3).trans b4).trans b5,?_⟩,by show _ - Int.toNat _<_ - Int.toNat _; omega⟩
     rw[bu d8]
     simpa only[cc,dz,em]using b9
    ·have:t=p:=oM
     subst this
     refine hR w2 _ b2 ?_ ?_ a4
     ·refine List.perm_middle.trans ?_
      rw[dc]; exact fx _
     ·refine eu.2 ⟨hX.sublist (iu _ _),ga.2 ⟨λy hy=>?_,hX.sublist (ib _ _)⟩,λy hy z hz=>?_⟩
      ·obtain⟨u,hu,rfl⟩:=cy.1 hy
       rw[dh]at hu
       rw[fq]; exact b8 _ oM oM
      ·obtain⟨u,hu,rfl⟩:=cy.1 hy
       rw[cd]at hu
       rw[fm]
       have c4:=a5 u oM oM
       rcases du.1 hz with rfl|hz
       ·exact c4
       ·obtain⟨v,hv,rfl⟩:=cy.1 hz
        rw[dh]at hv
        rw[fq]; exact c4.trans hO (b8 _ oM oM)
  ·
   obtain⟨y,rfl⟩:=lx.1 (show X.length=1 by omega)
   simp only[dq,fa]at*
   refine⟨λi j w'=>∃p q:Nat,i=((P.length+p:Nat):Int)∧j=((P.length+q:Nat):Int)∧p≤q∧q≤L.length∧(∀(u:Nat) (hu:u<L.length),u<p→Ah c L[u] y)∧(∀(u:Nat) (hu:u<L.length),q≤u→Ah c y L[u])∧Ext w w',
    λi j _=>(j - i).toNat,⟨0,L.length,oM,oM,oM,oM,λu _ h=>by omega,λu h1 h2=>by omega,Ext.refl _⟩,?_⟩
   rintro _ _ w1 ⟨p,q,rfl,rfl,f0,hq,a5,b8,x1⟩
   refine⟨λa9=>bnd.drew λw2 x2=>?_,λa8=>?_⟩
   ·rw[half oM]
    have he:(P.length+p+(P.length+q))/2=P.length+(p+q)/2:=oM
    rw[he]
    have a7:(p+q)/2<L.length:=oM
    have a4:=hB.ext (x1.trans x2)
    have gx:=a4.ld' Za4 (eX 0 sI)
    have gy:=a4.ld' Za4 (eL _ a7)
    have a0:=Ah.right hO (hid _ (cj a7) y sI)
    refine⟨_,⟨hd,oM,oM⟩,_,_,_,gx,_,⟨hd,oM,oM⟩,_,_,_,gy,hc y.1 _ w2 _ (refl.ext' (x1.trans x2)) λw3 x3=>⟨_,rfl,λh=>?_,λh=>?_⟩⟩
    ·have hA:=a0.2 h
     rw[Zc oM oM]
     refine⟨⟨(p+q)/2+1,q,oM,rfl,oM,hq,λu hu a9=>?_,b8,x1.trans (x2.trans x3)⟩,by show Int.toNat _<Int.toNat _; omega⟩
     rcases dn.1 a9 with h'|rfl
     ·exact(cr.1 hL u _ hu a7 h').trans hO hA
     ·exact hA
    ·have hA:=a0.1 (fj.1 h)
     refine⟨⟨p,(p+q)/2,rfl,rfl,oM,oM,a5,λu hu a8=>?_,x1.trans (x2.trans x3)⟩,by show Int.toNat _<Int.toNat _; omega⟩
     rcases io a8 with h'|rfl
     ·exact hA.trans hO (cr.1 hL _ u a7 hu h')
     ·exact hA
   ·have c3:p=q:=oM
    subst c3
    refine⟨λk w'=>∃t:Nat,k=((P.length+t:Nat):Int)∧p≤t∧t≤L.length∧But g w w'∧RowB fc w' g (P++(L.take t++y::L.drop t)++Q) tail,λk _=>k.toNat,⟨L.length,oM,oM,oM,refl.ext' x1,by simpa using hB.ext x1⟩,?_⟩
    rintro _ w2 ⟨t,rfl,f4,g7,b2,a4⟩
    refine⟨λa9=>bnd.drew λw3 x3=>?_,λa8=>?_⟩
    ·obtain⟨s,rfl⟩: ∃s,t=s+1:=⟨t - 1,oM⟩
     have d0:s<L.length:=oM
     have e1:Za (((P.length+(s+1):Nat):Int) - 1)=((P.length+s:Nat):Int):=by rw[Zc oM oM]; omega
     rw[e1]
     have eB:P++(L.take (s+1)++y::L.drop (s+1))++Q=(P++L.take s)++L[s]::y::(L.drop (s+1)++Q):=by
      rw[bu d0]; simp only[cc,dz,em]
     have a6:=a4.ext x3
     rw[eB]at a6
     have ey:(P++L.take s).length=P.length+s:=by rw[br,cd]; omega
     have gy:=a6.ld' Za4 (Zhb ey)
     have gx:=a6.ld' Za4 (Zid (n:=P.length+(s+1)) oM)
     have c2:((P++L.take s)++L[s]::y::(L.drop (s+1)++Q)).length=data.len:=by rw[←eB,hlen]; simp; omega
     refine⟨_,⟨hd,oM,oM⟩,_,_,_,gy,_,⟨hd,oM,oM⟩,_,_,_,gx,_,⟨hd,oM,oM⟩,a6.st Za4 (i:=P.length+(s+1)) (x:=L[s]) (by rw[c2]; omega) λw4 b4 b7=>⟨_,⟨hd,oM,oM⟩,b7.st Za4 (i:=P.length+s) (x:=y) (by rw[fw,c2]; omega) λw5 b5 b9=>?_⟩⟩
     have e2:=Zox (P++L.take s) (L.drop (s+1)++Q) L[s] y
     rw[ey,kh]at e2
     rw[e2]at b9
     refine⟨⟨s,oM,oM,oM,((b2.ext' x3).trans b4).trans b5,?_⟩,by show Int.toNat _<Int.toNat _; omega⟩
     rw[dm d0]
     simpa only[cc,dz,em]using b9
    ·have:t=p:=oM
     subst this
     refine hR w2 _ b2 ?_ ?_ a4
     ·refine List.perm_middle.trans ?_
      rw[dc]; exact(iz y L).symm
     ·refine eu.2 ⟨hL.sublist (iu _ _),ga.2 ⟨λz hz=>?_,hL.sublist (ib _ _)⟩,λx hx z hz=>?_⟩
      ·obtain⟨u,hu,rfl⟩:=cy.1 hz
       rw[dh]at hu
       rw[fq]; exact b8 _ oM oM
      ·obtain⟨u,hu,rfl⟩:=cy.1 hx
       rw[cd]at hu
       rw[fm]
       have c4:=a5 u oM oM
       rcases du.1 hz with rfl|hz
       ·exact c4
       ·obtain⟨v,hv,rfl⟩:=cy.1 hz
        rw[dh]at hv
        rw[fq]; exact c4.trans hO (b8 _ oM oM)
  ·
   rw[half (i:=P.length) (j:=P.length+L.length+X.length) oM]
   have d3:(P.length+(P.length+L.length+X.length))/2=P.length+(L.length+X.length)/2:=oM
   rw[d3]
   generalize hH:(L.length+X.length)/2=H at*
   have wn:Za (((P.length+H:Nat):Int)+((P.length+L.length:Nat):Int))=((P.length+H+(P.length+L.length):Nat):Int):=by rw[Zc oM oM]; omega
   rw[wn]
   have wp:Za (((P.length+H+(P.length+L.length):Nat):Int) - 1)=((P.length+H+(P.length+L.length) - 1:Nat):Int):=by rw[Zc oM oM]; omega
   rw[wp]
   refine join.named λJ hJ=>?_
   have c9: ∀u0 v0:Nat,u0=H - X.length→v0=min L.length H→J ((P.length+u0:Nat):Int) ((P.length+v0:Nat):Int) w:=λu0 v0 g8 g9=>by
    subst hJ
    show loop2 _ _ _ _
    refine⟨λi j w'=>∃s r:Nat,i=((P.length+s:Nat):Int)∧j=((P.length+r:Nat):Int)∧u0≤s∧s≤r∧r≤v0∧(∀(u:Nat) (h1:u<L.length) (h2:H - 1 - u<X.length),u0≤u→u<s→Ah c L[u] X[H - 1 - u])∧(∀(u:Nat) (h1:u<L.length) (h2:H - 1 - u<X.length),r≤u→u<v0→Ah c X[H - 1 - u] L[u])∧Ext w w',
     λi j _=>(j - i).toNat,⟨u0,v0,rfl,rfl,df _,oM,df _,λu _ _ h1 h2=>by omega,λu _ _ h1 h2=>by omega,Ext.refl _⟩,?_⟩
    rintro _ _ w1 ⟨s,r,rfl,rfl,f2,g6,f1,d6,d5,x1⟩
    refine⟨λa9=>bnd.drew λw2 x2=>?_,λa8=>?_⟩
    ·rw[half oM]
     have he:(P.length+s+(P.length+r))/2=P.length+(s+r)/2:=oM
     rw[he]
     generalize hu:(s+r)/2=u at*
     have c6:u<L.length:=oM
     have c7:H - 1 - u<X.length:=oM
     have g2:Za (((P.length+H+(P.length+L.length) - 1:Nat):Int) - ((P.length+u:Nat):Int))=((P.length+L.length+(H - 1 - u):Nat):Int):=by rw[Zc oM oM]; omega
     rw[g2]
     have a4:=hB.ext (x1.trans x2)
     have gx:=a4.ld' Za4 (eX _ c7)
     have gy:=a4.ld' Za4 (eL _ c6)
     have a0:=Ah.right hO (hid _ (cj c6) _ (cj c7))
     refine⟨_,⟨hd,oM,oM⟩,_,_,_,gx,_,⟨hd,oM,oM⟩,_,_,_,gy,hc _ _ w2 _ (refl.ext' (x1.trans x2)) λw3 x3=>⟨_,rfl,λh=>?_,λh=>?_⟩⟩
     ·have hA:=a0.2 h
      rw[Zc oM oM]
      refine⟨⟨u+1,r,oM,rfl,oM,oM,f1,λt h1 h2 h3 h4=>?_,d5,x1.trans (x2.trans x3)⟩,by show Int.toNat _<Int.toNat _; omega⟩
      rcases dn.1 h4 with h'|rfl
      ·exact((cr.1 hL t u h1 c6 h').trans hO hA).trans hO (cr.1 hX (H - 1 - u) (H - 1 - t) c7 h2 oM)
      ·exact hA
     ·have hA:=a0.1 (fj.1 h)
      refine⟨⟨s,u,rfl,rfl,f2,oM,oM,d6,λt h1 h2 h3 h4=>?_,x1.trans (x2.trans x3)⟩,by show Int.toNat _<Int.toNat _; omega⟩
      rcases io h3 with h'|rfl
      ·exact((cr.1 hX (H - 1 - t) (H - 1 - u) h2 c7 oM).trans hO hA).trans hO (cr.1 hL u t c6 h1 h')
      ·exact hA
    ·have d7:s=r:=oM
     subst d7
     have d0:s≤L.length:=oM
     have g5:s≤H:=oM
     have g3:H - s≤X.length:=oM
     have e5:Za (((P.length+H+(P.length+L.length):Nat):Int) - ((P.length+s:Nat):Int))=((P.length+L.length+(H - s):Nat):Int):=by rw[Zc oM oM]; omega
     rw[e5]
     have e6: ∀x∈L.take s,∀y∈X.drop (H - s),Ah c x y:=λx hx y hy=>by
      obtain⟨i,hi,rfl⟩:=cy.1 hx
      obtain⟨j,hj,rfl⟩:=cy.1 hy
      rw[cd]at hi; rw[dh]at hj
      rw[fm,fq]
      have k1:=d6 (s - 1) oM oM oM oM
      have e:H - 1 - (s - 1)=H - s:=oM
      have k2:Ah c L[i] X[H - s]:=by
       rcases io (show i≤s - 1 by omega)with h|h
       ·have:=(cr.1 hL i (s - 1) oM oM h).trans hO k1
        simpa only[e]using this
       ·subst h; simpa only[e]using k1
      rcases fo j with h|h
      ·subst h; exact k2
      ·exact k2.trans hO (cr.1 hX (H - s) (H - s+j) oM oM oM)
     have e7: ∀y∈X.take (H - s),∀x∈L.drop s,Ah c y x:=λy hy x hx=>by
      obtain⟨i,hi,rfl⟩:=cy.1 hx
      obtain⟨j,hj,rfl⟩:=cy.1 hy
      rw[dh]at hi; rw[cd]at hj
      rw[fm,fq]
      have k1:=d5 s oM oM nR oM
      have k2:Ah c X[j] L[s]:=by
       rcases io (show j≤H - 1 - s by omega)with h|h
       ·exact(cr.1 hX j (H - 1 - s) oM oM h).trans hO k1
       ·subst h; exact k1
      rcases fo i with h|h
      ·subst h; exact k2
      ·exact k2.trans hO (cr.1 hL s (s+i) oM oM oM)
     have f7:(L.take s).length=s:=by rw[cd]; omega
     have f8:(X.take (H - s)).length=H - s:=by rw[cd]; omega
     have f9:(L.drop s).length=L.length - s:=dh
     have g0:(X.drop (H - s)).length=X.length - (H - s):=dh
     have d9:=hL.sublist (iu s L)
     have e0:=hL.sublist (ib s L)
     have e3:=hX.sublist (iu (H - s) X)
     have e4:=hX.sublist (ib (H - s) X)
     have f5: ∀x∈L.take s,∀y∈X.take (H - s),x.2<y.2:=λx hx y hy=>hid x (iw hx) y (iw hy)
     have f6: ∀x∈L.drop s,∀y∈X.drop (H - s),x.2<y.2:=λx hx y hy=>hid x (mh hx) y (mh hy)
     have d1:L=L.take s++L.drop s:=(dc _ _).symm
     have d2:X=X.take (H - s)++X.drop (H - s):=(dc _ _).symm
     have g4:L.take s= []∨0<s:=by
       rcases fo s with h|h
       ·exact .inl (by rw[h]; rfl)
       ·exact .inr h
     have b0: ∀M1 M2:List El,M1.Perm (L.take s++X.take (H - s))→M2.Perm (L.drop s++X.drop (H - s))→(M1++M2).Perm (L++X):=λM1 M2 h1 h2=>by
      refine(h1.append h2).trans ?_
      conv=>rhs; rw[d1,d2]
      rw[cc,cc]
      refine List.Perm.append_left _ ?_
      rw[←cc,←cc]
      exact List.Perm.append_right _ List.perm_append_comm
     have b6: ∀M1 M2:List El,M1.Perm (L.take s++X.take (H - s))→M2.Perm (L.drop s++X.drop (H - s))→M1.Pairwise (Ah c)→M2.Pairwise (Ah c)→(M1++M2).Pairwise (Ah c):=λM1 M2 h1 h2 s1 s2=>
      eu.2 ⟨s1,s2,λx hx y hy=>by
       rcases dj.1 (h1.mem_iff.1 hx)with hx|hx<;>rcases dj.1 (h2.mem_iff.1 hy)with hy|hy
       ·obtain⟨i,hi,rfl⟩:=cy.1 hx
        obtain⟨j,hj,rfl⟩:=cy.1 hy
        rw[f7]at hi; rw[f9]at hj
        rw[fm,fq]
        exact cr.1 hL i (s+j) oM oM oM
       ·exact e6 x hx y hy
       ·exact e7 x hx y hy
       ·obtain⟨i,hi,rfl⟩:=cy.1 hx
        obtain⟨j,hj,rfl⟩:=cy.1 hy
        rw[f8]at hi; rw[g0]at hj
        rw[fm,fq]
        exact cr.1 hX i (H - s+j) oM oM oM⟩
     generalize L.take s=L1 at*
     generalize L.drop s=L2 at*
     generalize X.take (H - s)=X1 at*
     generalize X.drop (H - s)=X2 at*
     have b1:But g w w1:=refl.ext' x1
     have c5:=hB.ext x1
     refine join.named λJ2 e8=>?_
     have k2: ∀w2,But g w w2→RowB fc w2 g (P++L1++X1++(L2++X2++Q)) tail→J2 w2:=λw2 b2 a4=>by
      subst e8
      refine join.named λJ3 e9=>bound ?_
      have k3: ∀w3 M1,But g w w3→M1.Perm (L1++X1)→M1.Pairwise (Ah c)→RowB fc w3 g (P++M1++(L2++X2++Q)) tail→J3 w3:=λw3 M1 b3 a5 c8 a6=>by
       subst e9
       have lM:M1.length=H:=by rw[a5.length_eq,br]; omega
       refine bound ⟨λh=>?_,λh=>?_⟩
       ·simp only[bx,decide_eq_true_eq]at h
        refine SE.Zl.go (Zej hO hd c1 N (P:=P++M1) (L:=L2) (X:=X2) (Q:=Q) oM (hc.but b3) (by simp only[br]; omega) (by simpa only[cc]using a6) (by rw[br]; omega) (by rw[br]; omega) (by rw[br]; omega) oM oM e0 e4 f6 λw4 M2 b4 d4 g1 b7=>⟨rfl,?_⟩)
        exact hR w4 (M1++M2) (b3.trans b4) (b0 M1 M2 a5 d4) (b6 M1 M2 a5 d4 c8 g1) (by simpa only[cc]using b7)
       ·simp only[gp,decide_eq_false_iff_not]at h
        refine hR w3 (M1++(L2++X2)) b3 (b0 M1 _ a5 (fx _)) (b6 M1 _ a5 (fx _) c8 ?_) (by simpa only[cc]using a6)
        have:L2= []∨X2= []:=by
         rcases h with h|h
         ·exact .inl (cq oM)
         ·exact .inr (cq oM)
        rcases this with rfl|rfl
        ·simpa using e4
        ·simpa using e0
      refine⟨λh=>?_,λh=>?_⟩
      ·simp only[bx,decide_eq_true_eq]at h
       refine SE.Zl.go (Zej hO hd c1 N (P:=P) (L:=L1) (X:=X1) (Q:=L2++X2++Q) oM (hc.but b2) (by simp only[br]; omega) (by simpa only[cc]using a4) rfl oM oM oM oM d9 e3 f5 λw4 M1 b4 a5 c8 b7=>⟨rfl,k3 w4 M1 (b2.trans b4) a5 c8 b7⟩)
      ·simp only[gp,decide_eq_false_iff_not]at h
       refine k3 w2 (L1++X1) b2 (fx _) ?_ (by simpa only[cc]using a4)
       have:L1= []∨X1= []:=by
        rcases h with h|h
        ·exact .inl (cq oM)
        ·exact .inr (cq oM)
       rcases this with rfl|rfl
       ·simpa using e3
       ·simpa using d9
     rw[d1,d2]at c5
     refine bound ⟨λh=>?_,λh=>?_⟩
     ·simp only[bx,decide_eq_true_eq]at h
      refine SE.Zao.go (Zpy (P:=P++L1) (X:=L2) (Y:=X1) (Q:=X2++Q) hd (by simp only[br]; omega) c1 (by simpa only[cc]using c5) (by rw[br]; omega) (by rw[br]; omega) (by rw[br]; omega) oM oM λw2 b2 a4=>⟨rfl,k2 w2 (b1.trans b2) (by simpa only[cc]using a4)⟩)
     ·simp only[gp,decide_eq_false_iff_not]at h
      refine k2 w1 b1 ?_
      have:L2= []∨X1= []:=by
       rcases h with h|h
       ·exact .inl (cq oM)
       ·exact .inr (cq oM)
      rcases this with rfl|rfl
      ·simpa only[cc,dp,em]using c5
      ·simpa only[cc,dp,em]using c5
   refine⟨λh=>?_,λh=>?_⟩
   ·have:=c9 (H - X.length) H rfl oM
    have e:Za (((P.length+H+(P.length+L.length):Nat):Int) - ((P.length+L.length+X.length:Nat):Int))=((P.length+(H - X.length):Nat):Int):=by rw[Zc oM oM]; omega
    rw[e]; exact this
   ·have:=c9 0 L.length oM oM
    exact this
theorem ids{z0:List El}(hz:z0.Pairwise λx y=>x.2<y.2){n j m:Nat}(h:i+n≤j): ∀x∈sg z0 i n,∀y∈sg z0 j m,x.2<y.2:=λx hx y hy=>by
 obtain⟨a,ha,_,a0,rfl⟩:=Zx1 hx
 obtain⟨b,hb,a4,_,rfl⟩:=Zx1 hy
 exact cr.1 hz a b ha hb oM
theorem Zp7(hO:Ord3 c){z0:List El}{n:Int}(hd:data.a=some ⟨g,0,none⟩)(e7:data.len<2305843009213693952)(hc:CmpOk cmp c g w)(a7:data.len=z0.length)(hn:n=(z0.length:Int))(hB:RowB fc w g z0 tail)
  (hz:z0.Pairwise λx y=>x.2<y.2) (hR: ∀w' M,But g w w'→M.Perm z0→M.Pairwise (Ah c)→RowB fc w' g M tail→R w'):SE.Zu data n cmp w R:=by
 unfold SE.Zu
 subst hn
 have refl:But g w w:=⟨df _,rfl,rfl,rfl,λ_ _ _=>rfl⟩
 refine⟨λa b w'=>∃(k:Nat) (z:List El),a=((k*20:Nat):Int)∧b=((k*20+20:Nat):Int)∧k*20≤z0.length∧z.length=z0.length∧z.drop (k*20)=z0.drop (k*20)∧Chunks c 20 z z0 k∧But g w w'∧RowB fc w' g z tail,
  λa _ _=>z0.length - a.toNat,⟨0,z0,rfl,rfl,oM,rfl,rfl,⟨λi h=>by omega,λi h=>by omega⟩,refl,hB⟩,?_⟩
 rintro _ _ w1 ⟨k,z,rfl,rfl,hk,c9,c2,b9,b1,b7⟩
 have la:(z.take (k*20)).length=k*20:=by rw[cd]; omega
 refine⟨λc3=>?_,λf2=>?_⟩
 ·have c8:sg z (k*20) 20=sg z0 (k*20) 20:=by unfold sg; rw[c2]
  have hs:=Zou z (k*20) 20
  have d7:(sg z (k*20) 20).length=20:=Zn5 oM
  rw[hs]at b7
  refine SE.Zh.go (Zgx hO (A:=z.take (k*20)) (M0:=sg z (k*20) 20) (B:=z.drop (k*20+20)) (hc.but b1) hd (by rw[←hs,c9]; exact a7) oM b7 (by rw[la]) (by rw[la,d7]) (by rw[c8]; exact hz.sublist ((iu _ _).trans (ib _ _))) λw2 M b2 hp a5 b8=>⟨rfl,?_⟩)
  have a0:M.length=20:=by rw[hp.length_eq,d7]
  rw[Zc oM oM]
  refine⟨⟨k+1,z.take (k*20)++M++z.drop (k*20+20),oM,oM,oM,?_,?_,?_,b1.trans b2,b8⟩,by show _ - Int.toNat _<_ - Int.toNat _; omega⟩
  ·simp only[br,dh,la,a0]; omega
  ·rw[mj (by rw[br,la,a0]; omega),show k*20+20=(k+1)*20 by omega]
   rw[show(k+1)*20=k*20+20 by omega,←gk,c2,gk]
  ·constructor
   ·intro i hi
    rcases dn.1 hi with h|rfl
    ·rw[Zd8 (by rw[la]; omega)]
     have:=b9.perm i h
     rw[hs,Zd8 (by rw[la]; omega)]at this
     exact this
    ·rw[Zns la a0,←c8]; exact hp
   ·intro i hi
    rcases dn.1 hi with h|rfl
    ·rw[Zd8 (by rw[la]; omega)]
     have:=b9.sort i h
     rw[hs,Zd8 (by rw[la]; omega)]at this
     exact this
    ·rw[Zns la a0]; exact a5
 ·have hs:z=z.take (k*20)++z.drop (k*20)++ []:=by rw[dp,dc]
  have d5:(z.drop (k*20)).length=z0.length - k*20:=by rw[dh,c9]
  rw[hs]at b7
  refine SE.Zh.go (Zgx hO (A:=z.take (k*20)) (M0:=z.drop (k*20)) (B:=[]) (hc.but b1) hd (by rw[←hs,c9]; exact a7) oM b7 (by rw[la]) (by rw[la,d5]; omega) (by rw[c2]; exact hz.sublist (ib _ _)) λw2 M b2 hp a5 b8=>⟨rfl,?_⟩)
  have a0:M.length=z0.length - k*20:=by rw[hp.length_eq,d5]
  rw[dp]at b8
  have d4: ∀j,Chunks c 20 (z.take (k*20)++M) z0 j:=λj=>by
   have c8:sg z (k*20) 20=z.drop (k*20):=by unfold sg; rw[dg oM]
   have d6:sg z0 (k*20) 20=z0.drop (k*20):=by unfold sg; rw[dg (by rw[dh]; omega)]
   constructor
   ·intro i _
    rcases jm i k with h|rfl|h
    ·have:=b9.perm i h
     rw[hs,Zd8 (by rw[la]; omega)]at this
     rw[←dp (z.take (k*20)++M),Zd8 (by rw[la]; omega)]
     exact this
    ·rw[Znr la oM,d6,←c2]; exact hp
    ·have:k+1≤i:=h
     rw[Zih (by rw[br,la]; omega),Zih oM]
   ·intro i _
    rcases jm i k with h|rfl|h
    ·have:=b9.sort i h
     rw[hs,Zd8 (by rw[la]; omega)]at this
     rw[←dp (z.take (k*20)++M),Zd8 (by rw[la]; omega)]
     exact this
    ·rw[Znr la oM]; exact a5
    ·have:k+1≤i:=h
     rw[Zih (by rw[br,la]; omega)]
     exact .nil
  have d9:(z.take (k*20)++M).length=z0.length:=by rw[br,la]; omega
  generalize z.take (k*20)++M=z1 at*
  have e3:=b1.trans b2
  clear hp a5 a0
  refine⟨λbs w'=>∃(s:Nat) (z:List El),bs=(s:Int)∧0<s∧s<2*z0.length+40∧z.length=z0.length∧(∀j,Chunks c s z z0 j)∧But g w w'∧RowB fc w' g z tail,λbs _=>2*z0.length+40 - bs.toNat,⟨20,z1,rfl,oM,oM,d9,d4,e3,b8⟩,?_⟩
  rintro _ w3 ⟨s,z2,rfl,f6,f7,e1,a6,b3,d2⟩
  refine⟨λf4=>?_,λf1=>?_⟩
  ·have f8:s<z0.length:=oM
   rw[Zc (x:=2*(s:Int)) oM oM]
   refine⟨λa b w'=>∃(k:Nat) (z:List El),a=((k*(2*s):Nat):Int)∧b=((k*(2*s)+2*s:Nat):Int)∧k*(2*s)≤z0.length∧z.length=z0.length∧z.drop (k*(2*s))=z2.drop (k*(2*s))∧Chunks c (2*s) z z0 k∧But g w w'∧RowB fc w' g z tail,
    λa _ _=>z0.length - a.toNat,⟨0,z2,by simp,by simp,oM,e1,by simp,⟨λi h=>by omega,λi h=>by omega⟩,b3,d2⟩,?_⟩
   rintro _ _ w4 ⟨k,z,rfl,rfl,hk,a8,b0,c5,b4,a9⟩
   generalize hK:k*(2*s)=K at*
   have a4:(z.take K).length=K:=by rw[cd]; omega
   have d0:2*k*s=K:=by rw[←hK,Nat.mul_comm 2 k,Nat.mul_assoc]
   have d1:(2*k+1)*s=K+s:=by rw[gh,d0,kn]
   have p1:=(a6 (2*k+2)).perm (2*k) oM; have p2:=(a6 (2*k+2)).perm (2*k+1) oM
   have s1:=(a6 (2*k+2)).sort (2*k) oM; have s2:=(a6 (2*k+2)).sort (2*k+1) oM
   rw[d0]at p1 s1; rw[d1]at p2 s2
   have g1:sg z K s=sg z2 K s:=by unfold sg; rw[b0]
   have g2:sg z (K+s) s=sg z2 (K+s) s:=by unfold sg; rw[←gk,b0,gk]
   rw[←g1]at p1 s1; rw[←g2]at p2 s2
   have c6: ∀x∈sg z K s,∀y∈sg z (K+s) s,x.2<y.2:=λx hx y hy=>ids hz nR x (p1.mem_iff.1 hx) y (p2.mem_iff.1 hy)
   have e2:Za ((K:Int)+(s:Int))=((K+s:Nat):Int):=by rw[Zc oM oM]; omega
   have grow: ∀(z' M B:List El) (m:Nat),z'=z.take K++M++B→M.length=m→M.Perm (sg z K s++sg z (K+s) s)→M.Pairwise (Ah c)→(m=2*s∨B= [])→m≤2*s→Chunks c (2*s) z' z0 (k+1):=λz' M B m d8 hm hp a5 e6 f5=>by
    have e:sg z' K (2*s)=M:=by
     subst d8
     rcases e6 with h|h
     ·exact Zns a4 oM
     ·subst h; rw[dp]; exact Znr a4 oM
    have e0:sg z0 K (2*s)=sg z0 K s++sg z0 (K+s) s:=by rw[show 2*s=s+s by omega,Zrm]
    have el: ∀i,i<k→sg z' (i*(2*s)) (2*s)=sg z (i*(2*s)) (2*s):=λi h=>by
     have c3:i*(2*s)+2*s≤K:=by
      have:=fb (2*s) (show i+1≤k from h)
      rw[gh,hK,kn]at this; exact this
     have h1:sg z (i*(2*s)) (2*s)=sg (z.take K) (i*(2*s)) (2*s):=by
      conv=>lhs; rw[show z=z.take K++z.drop K++ [] by rw[dp,dc]]
      exact Zd8 (by rw[a4]; exact c3)
     rw[h1,d8,Zd8 (by rw[a4]; exact c3)]
    constructor
    ·intro i hi
     rcases dn.1 hi with h|rfl
     ·rw[el i h]; exact c5.perm i h
     ·rw[hK,e,e0]; exact hp.trans (p1.append p2)
    ·intro i hi
     rcases dn.1 hi with h|rfl
     ·rw[el i h]; exact c5.sort i h
     ·rw[hK,e]; exact a5
   refine⟨λc3=>?_,λe9=>?_⟩
   ·have b6:z=z.take K++sg z K s++sg z (K+s) s++z.drop (K+2*s):=by
     have:=Zou z K (2*s)
     rw[show 2*s=s+s by omega,Zrm]at this
     rw[show 2*s=s+s by omega]
     simpa only[cc]using this
    have l1:(sg z K s).length=s:=Zn5 oM
    have l2:(sg z (K+s) s).length=s:=Zn5 oM
    rw[e2]
    rw[b6]at a9
    refine SE.Zl.go (Zej hO hd oM _ (P:=z.take K) (L:=sg z K s) (X:=sg z (K+s) s) (Q:=z.drop (K+2*s)) nR (hc.but b4) (by rw[←b6,a8]; exact a7) a9 (by rw[a4]) (by rw[a4,l1]) (by rw[a4,l1,l2]; omega) oM oM s1 s2 c6 λw5 M b5 hp a5 c7=>⟨rfl,?_⟩)
    have a0:M.length=2*s:=by rw[hp.length_eq,br]; omega
    rw[Zc oM oM]
    have d3:(k+1)*(2*s)=K+2*s:=by rw[gh,hK,kn]
    refine⟨⟨k+1,z.take K++M++z.drop (K+2*s),oM,oM,oM,?_,?_,grow _ M _ (2*s) rfl a0 hp a5 (.inl rfl) nR,b4.trans b5,c7⟩,by show _ - Int.toNat _<_ - Int.toNat _; omega⟩
    ·simp only[br,dh,a4,a0]; omega
    ·rw[d3,mj (by rw[br,a4,a0]),←gk,b0,gk]
   ·refine join.named λJ hJ=>?_
    have kJ: ∀w' z',But g w w'→z'.length=z0.length→Chunks c (2*s) z' z0 (k+1)→RowB fc w' g z' tail→J w':=λw' z' b' e5 c4 e4=>by
     subst hJ
     have e:Za ((s:Int)*2)=((2*s:Nat):Int):=by rw[Zc oM oM]; omega
     rw[e]
     have d3:(k+1)*(2*s)=K+2*s:=by rw[gh,hK,kn]
     refine⟨⟨2*s,z',rfl,oM,oM,e5,λj=>⟨λi _=> ?_,λi _=> ?_⟩,b',e4⟩,by show _ - Int.toNat _<_ - Int.toNat _; omega⟩
     ·by_cases h:i<k+1
      ·exact c4.perm i h
      ·have:=fb (2*s) (show k+1≤i by omega)
       rw[Zih oM,Zih oM]
     ·by_cases h:i<k+1
      ·exact c4.sort i h
      ·have:=fb (2*s) (show k+1≤i by omega)
       rw[Zih oM]
       exact .nil
    rw[e2]
    have c1:z.drop K=sg z K s++sg z (K+s) s:=by
     rw[←Zrm]; unfold sg; rw[dg (by rw[dh]; omega)]
    refine⟨λf0=>?_,λe8=>?_⟩
    ·have b6:z=z.take K++sg z K s++sg z (K+s) s++ []:=by
      rw[dp,cc,←c1,dc]
     have l1:(sg z K s).length=s:=Zn5 oM
     have l2:(sg z K s).length+(sg z (K+s) s).length=z0.length - K:=by rw[←br,←c1,dh,a8]
     rw[b6]at a9
     refine SE.Zl.go (Zej hO hd oM _ (P:=z.take K) (L:=sg z K s) (X:=sg z (K+s) s) (Q:=[]) nR (hc.but b4) (by rw[←b6,a8]; exact a7) a9 (by rw[a4]) (by rw[a4,l1]) (by rw[a4]; omega) oM oM s1 s2 c6 λw5 M b5 hp a5 c7=>⟨rfl,?_⟩)
     have a0:M.length=z0.length - K:=by rw[hp.length_eq,br]; exact l2
     exact kJ w5 _ (b4.trans b5) (by simp only[br,fa,a4,a0]; omega) (grow _ M [] _ rfl a0 hp a5 (.inr rfl) oM) c7
    ·have e0:sg z (K+s) s= []:=Zih oM
     refine kJ w4 z b4 a8 (grow z (z.drop K) [] _ (by rw[dp,dc]) rfl (by rw[c1]) ?_ (.inr rfl) (by rw[dh]; omega)) a9
     rw[c1,e0,dp]; exact s1
  ·have e:sg z2 (0*s) s=z2:=by rw[jg]; unfold sg; rw[gz,dg oM]
   have e0:sg z0 (0*s) s=z0:=by rw[jg]; unfold sg; rw[gz,dg oM]
   have p:=(a6 1).perm 0 oM; have so:=(a6 1).sort 0 oM
   rw[e]at p so
   rw[e0]at p
   exact hR w3 z2 b3 p so d2
theorem sortStable_se(hO:Ord3 c){l:List Ver}(hd:data.a=some ⟨g,0,none⟩)(a5:data.len<2305843009213693952)(hc:CmpOk cmp c g w)(a0:data.len=l.length)(hB:RowB cells w g l tail)
  (hR: ∀w',But g w w'→RowB cells w' g (Zdr c l) tail→R w'):SE.Ze data cmp w R:=by
 unfold SE.Ze
 have a6:RowB fc w g (nums 0 l) tail:=by
  unfold RowB at hB ⊢
  have:(nums 0 l).map fc=l.map cells:=by
   have h:=congrArg (List.map cells) (Zos 0 l)
   rw[gc]at h; exact h
  rw[this]; exact hB
 refine SE.Zu.go (Zp7 hO hd a5 hc (by rw[Zot]; exact a0) (by rw[Zot,a0]) a6 (Zmh 0 l) λw2 M b2 hp hs a4=>⟨rfl,hR w2 b2 ?_⟩)
 have e:=Zu0 hO hp hs
 unfold RowB at a4 ⊢
 have:M.map fc=(Zdr c l).map cells:=by rw[←e,gc]; rfl
 rw[←this]; exact a4
theorem sortStable_nil(h0:data.len=0)(hR:R w):SE.Ze data cmp w R:=by
 unfold SE.Ze
 rw[h0]
 refine SE.Zu.go ?_
 unfold SE.Zu
 refine⟨λa b w'=>a=0∧b=20∧w'=w,λ_ _ _=>0,⟨rfl,rfl,rfl⟩,?_⟩
 rintro _ _ w1 ⟨rfl,rfl,a0⟩
 subst a0
 refine⟨λh=>by simp at h,λ_=>SE.Zh.go ?_⟩
 unfold SE.Zh
 refine⟨λa w'=>a=1∧w'=w1,λ_ _=>0,⟨by decide,rfl⟩,?_⟩
 rintro _ w2 ⟨rfl,a4⟩
 subst a4
 refine⟨λh=>by simp at h,λ_=>⟨rfl,?_⟩⟩
 refine⟨λa w'=>a=20∧w'=w2,λ_ _=>0,⟨rfl,rfl⟩,?_⟩
 rintro _ w3 ⟨rfl,a5⟩
 subst a5
 exact⟨λh=>by simp at h,λ_=>⟨rfl,hR⟩⟩
end
end StV
end Go.Hal
namespace Go.Hal
theorem _root_.Go.RowKit.Below.keepS(h:Below lo w w')(hS: ∀b,S b→b<lo):Keep S w w':=λb hb _=>h.block b (hS b hb)
theorem BoxAt.below{a:Addr}(hb:BoxAt w a cs)(h:Below lo w w')(hl:a.block<lo):BoxAt w' a cs:=hb.keep (S:=λb=>b<lo) hl (h.keepS λ_ h=>h)
theorem SlR.below{α:Type}{E:Enc α}{l:List α}(hs:SlR E w S s l)(h:Below lo w w')(hS: ∀b,S b→b<lo):SlR E w' S s l:=hs.keep (h.keepS hS)
theorem pinEqB(a b:Pin):((bEq a.name b.name)&&(((a.v.ma==b.v.ma)&&((a.v.mi==b.v.mi)&&((a.v.pa==b.v.pa)&&true)))&&true))=decide (a=b):=by
 rw[Zp9,Bool.and_true,ep,bx,Zap,decide_eq_true_eq,decide_eq_true_eq]
 obtain⟨n,v⟩:=a; obtain⟨m,u⟩:=b
 simp
theorem Zyu{x:Pin}{R:Int→World→Prop}(hs:SlR pinE w S s l)(hR: ∀w',Ext w w'→R (idxI (λy=>decide (x=y)) l) w'):SE.Zbs s x.name x.v.ma x.v.mi x.v.pa w R:=by
 unfold SE.Zbs
 have hl:=hs.len
 refine newS.intro λa w0 x0 hb _ _=> ?_
 refine loop1.up hs.max (λi w'=>Ext w0 w'∧(l.take i).any (λy=>decide (x=y))=false) ⟨Ext.refl _,rfl⟩ λi w1 a6 hi ⟨x1,hI⟩ hn=>⟨λa4=>bnd.drew λw2 x2=>?_,λa5=>?_⟩
 ·have a0:i<l.length:=oM
  obtain⟨ad,cs,ha,_,⟨rfl,_⟩,hc⟩:=hs.el a0
  refine⟨_,_,_,_,hb.at0 (r:=[]) (x1.trans x2) rfl,ad,⟨ha,oM,a4⟩,_,_,_,_,hc _ (x0.trans (x1.trans x2)),?_⟩
  rw[pinEqB]
  exact⟨λh=>by rw[←Zjo (p:=λy=>decide (x=y)) a0 hI h]; exact hR _ (x0.trans (x1.trans x2)),λh=>hn a0 _ ⟨x1.trans x2,by rw[Zdm a0 hI]; exact h⟩⟩
 ·have:i=l.length:=oM
  rw[this,cu]at hI
  rw[←Zgv hI]; exact hR _ (x0.trans x1)
theorem Zqw{x:Pin}{R:Bool→World→Prop}(hs:SlR pinE w S s l)(hR: ∀w',Ext w w'→R (decide (x∈l)) w'):SE.Zag s x.name x.v.ma x.v.mi x.v.pa w R:=by
 unfold SE.Zag
 refine newS.intro λa w0 x0 hb _ _=>⟨_,_,_,_,hb.ldc.pre (r:=[]) rfl,SE.Zbs.go (Zyu (x:=x) (hs.ext x0) λw1 x1=>⟨_,rfl,?_⟩)⟩
 rw[Zk5]
 have:l.any (λy=>decide (x=y))=decide (x∈l):=by
  rw[ep,ir,decide_eq_true_eq]
  simp
 rw[this]; exact hR _ (x0.trans x1)
theorem catOrder_se{b:Bool}{R:Int→World→Prop}(hR:R (ordB b) w):SE.Zfc b w R:=by
 unfold SE.Zfc
 exact⟨λh=>by subst h; exact hR,λh=>by subst h; exact hR⟩
theorem Z3s{v:Ver}{l:Sl}{ll:List Span}{R:Bool→World→Prop}(hc:BoxAt w c0 [Sl.v l])(hl:SlR spanE w S l ll)(hR: ∀w',Ext w w'→R (!Zdp ll v) w'):SE.Za2 v.ma v.mi v.pa c0 w R:=by
 unfold SE.Za2
 refine newS.intro λa w1 x1 hb _ _=>⟨l,hc.at0 (r:=[]) x1 rfl,_,_,_,hb.ldc.pre (r:=[]) rfl,SE.Zlx.go (Zp1 (v:=v) (hl.ext x1) λw2 x2=>⟨_,rfl,hR _ (x1.trans x2)⟩)⟩
theorem Z3t{a b:Ver}{pins:Sl}{lp:List Pin}{c1:Addr}{R:Int→World→Prop}(a4:BoxAt w c0 [Sl.v pins])(a5:BoxAt w c1 [.string n])(hp:SlR pinE w S pins lp)(hR: ∀w',Ext w w'→R (cC lp n a b) w'):
  SE.Za3 a.ma a.mi a.pa b.ma b.mi b.pa c0 c1 w R:=by
 unfold SE.Za3
 refine newS.intro λ_ w1 x1 hb _ _=>newS.intro λ_ w2 x2 a7 _ _=>bnd.drew λw3 x3=>?_
 have a6:=x2.trans x3
 have a0:=x1.trans a6
 refine⟨pins,a4.at0 (r:=[]) a0 rfl,n,a5.at0 (r:=[]) a0 rfl,_,_,_,a7.at0 (r:=[]) x3 rfl,pins,a4.at0 (r:=[]) a0 rfl,n,a5.at0 (r:=[]) a0 rfl,_,_,_,hb.at0 (r:=[]) a6 rfl,?_⟩
 refine callX.intro (SE.Zag.go (Zqw (x:=⟨n,b⟩) (hp.ext a0) λw4 x4=>⟨x4,_,rfl,callX.intro (SE.Zfc.go (catOrder_se ⟨Ext.refl _,_,rfl,?_⟩))⟩))
 refine SE.Zag.go (Zqw (x:=⟨n,a⟩) (hp.ext (a0.trans x4)) λw5 x5=>⟨_,rfl,SE.Zfc.go (catOrder_se ⟨_,rfl,?_⟩)⟩)
 have e:Za (ordB (decide ((⟨n,b⟩:Pin)∈lp)) - ordB (decide ((⟨n,a⟩:Pin)∈lp)))=cC lp n a b:=by
  rw[Zc]<;>unfold ordB
  ·rfl
  ·split<;>split<;>omega
  ·split<;>split<;>omega
 rw[e]; exact hR _ (a0.trans (x4.trans x5))
theorem Z0u:Zfj prog 271:=enters_of func271 kR rfl
theorem Z0v:Zfj prog 273:=enters_of func273 kR rfl
theorem Zvl{l pins:Sl}{ll:List Span}{lp:List Pin}{S1:Nat→Prop}{R:Sl→World→Prop}(hC:CatL w S p r L)(b3:Old S1 w)(b4:Old S2 w)(hl:SlR spanE w S1 l ll)(hp:SlR pinE w S2 pins lp)
  (hR: ∀t w',Ext w w'→FlatO Ver.c 24 w' w.heap.size t (Zr4 L n ll lp)→R t w'):SE.Zbk (some p) n l pins w R:=by
 unfold SE.Zbk
 refine newS.intro λa w1 x1 hb _ _=>newS.intro λa1 w2 x2 b7 _ _=>newS.intro λa3 w3 x3 b0 _ _=> ?_
 have a0:=x1.trans (x2.trans x3)
 have a6:=hb.ext (x2.trans x3)
 have a4:=b7.ext x3
 refine⟨n,a6.ldc.pre (r:=[]) rfl,SE.Zy.go (Zqh (hC.ext a0) λt w4 x4 hF=>⟨_,rfl,?_⟩)⟩
 have s4:=x4.size
 refine SE.Zf.go (Zth (d:=λv=>!Zdp ll v) hF s4 (λx _ w' k hw hk=>?_) λt2 w5 b5 a9=>⟨_,rfl,?_⟩)
 ·refine⟨_,_,rfl,Z0u,SE.Za2.go (Z3s (v:=x) (l:=l) (ll:=ll) (S:=S1) ?_ ?_ hk)⟩
  ·exact(a4.ext x4).below hw a4.lt
  ·exact(hl.ext (a0.trans x4)).below hw λb hb=>iv (b3 b hb) a0.size
 ·have e:(Zjd n L).filter (λx=>!(!Zdp ll x))=(Zjd n L).filter (Zdp ll):=by simp
  rw[e]at a9
  have xB:Below w3.heap.size w3 w5:=Below.trans x4 b5
  have fin: ∀w6,Below w3.heap.size w3 w6→FlatO Ver.c 24 w6 w3.heap.size t2 (Zr4 L n ll lp)→callS prog 276 [Sl.v t2] w6 (λb8 b9=>∃b2:Sl,b8=Sl.v b2∧R b2 b9):=λw6 b6 a5=>by
   refine SE.Za8.go ⟨⟨oM,oM,oM,by have:=a5.1; have:=a5.2.1; omega⟩,_,rfl,hR _ _ (a0.trans b6) ?_⟩
   obtain⟨a,b,c,d,e⟩:=a5.clip (k:=3)
   exact⟨a,b,c,d,e.imp id λ⟨g,tail,a,b,c⟩=>⟨g,tail,a,co a0.size b,c⟩⟩
  obtain⟨k1,k2,k3,k4,k5⟩:=a9
  rcases k5 with k5|⟨g,tail,ha,hg,hr⟩
  ·refine SE.Ze.go (StV.sortStable_nil (by rw[k1,k5]; rfl) ⟨rfl,fin w5 xB ?_⟩)
   have:Zr4 L n ll lp= []:=by rw[←Zk1,k5]; rfl
   rw[this]
   rw[k5]at k1 k2
   exact⟨k1,k2,k3,by simp,.inl rfl⟩
  ·refine SE.Ze.go (StV.sortStable_se (Z9s lp n) ha (by rw[k1]; unfold room at k4; omega) (λx y w' k hw hk=>?_) k1 hr λw6 b6 b1=>⟨rfl,fin w6 (Below.trans xB (b6.below (by have:=xB.size; omega) hg)) ?_⟩)
   ·have a8:Below w3.heap.size w3 w':=Below.trans xB (hw.below (by have:=xB.size; omega) hg)
    refine⟨_,_,rfl,Z0v,SE.Za3.go (Z3t (a:=x) (b:=y) (n:=n) (pins:=pins) (lp:=lp) (S:=S2) ?_ ?_ ?_ hk)⟩
    ·exact b0.below a8 b0.lt
    ·exact a6.below a8 (iv a6.lt nR)
    ·exact(hp.ext a0).below a8 λb hb=>iv (b4 b hb) a0.size
   ·rw[Zk1]at b1
    have a7:(Zr4 L n ll lp).length=((Zjd n L).filter (Zdp ll)).length:=by rw[←Zk1]; exact(Ze8 _).length_eq
    exact⟨by rw[a7]; exact k1,by rw[a7]; exact k2,k3,by rw[a7]; exact k4,.inr ⟨g,tail,ha,hg,b1⟩⟩
structure PackC where
 name:ByteArray
 v:Ver
 d:Sl
 e:Sl
 o:Sl
instance:Inhabited PackC:=⟨⟨⟨#[]⟩,⟨0,0,0⟩,Sl.nil,Sl.nil,Sl.nil⟩⟩
theorem Zs1:ApT prog 25 53 7 112:=Zhv (z:=.agg #[.string ⟨#[]⟩,.int .i64 0,.int .i64 0,.int .i64 0,.slice none 0 0,.slice none 0 0,.slice none 0 0]) kR kR rfl dC
theorem SlR.cut{α:Type}{E:Enc α}{l:List α}(h:SlR E w S s l){a b:Nat}(a0:a≤b)(hb:b≤l.length):SlR E w S (Sl.cut s a b E.n) ((l.take b).drop a):=by
 obtain⟨h1,h2,h3,h4,h5⟩:=h
 have hl:((l.take b).drop a).length=b - a:=by rw[dh,cd]; omega
 refine⟨by rw[hl]; rfl,by rw[hl]; show b - a≤s.cap - a; omega,by show s.cap - a≤_; omega,?_,?_⟩
 ·rw[hl]; exact co (fb _ oM) h4
 ·by_cases h0:b - a=0
  ·exact .inl (cq oM)
  ·rcases h5 with h5|⟨ad,ha,hS,hr⟩
   ·subst h5; simp at hb; omega
   ·refine .inr ⟨ad.add (a*E.n),?_,by rw[Zel]; exact hS,λi x hx=>?_⟩
    ·show(if s.cap=a then s.a else _)=_
     rw[if_neg oM,ha]; rfl
    ·rw[lm]at hx
     rw[List.getElem?_take]at hx
     split at hx
     ·obtain⟨cs,k1,k2⟩:=hr (a+i) x hx
      exact⟨cs,k1,by rw[Zfq,←gh]; exact k2⟩
     ·cases hx
theorem Zmm{l:List Pack}(h:SlR packE w S s l){n:Nat}(hn:n<l.length):
  ∃ad d e o,s.a=some ad∧S ad.block∧Str l[n].name∧SlR depE w S d l[n].deps∧SlR depE w S e l[n].peers∧SlR depE w S o l[n].opt∧ ∀w',Ext w w'→ldc w' (ad.add (n*7)) [.string l[n].name,.int .i64 l[n].v.ma,.int .i64 l[n].v.mi,.int .i64 l[n].v.pa,d.v,e.v,o.v]:=by
 obtain⟨ad,cs,h1,h2,⟨h0,d,e,o,rfl,a,b,c⟩,h4⟩:=h.el hn
 exact⟨ad,d,e,o,h1,h2,h0,a,b,c,h4⟩
structure RefR(w:World)(S:Nat→Prop)(q:Addr)(L:List Pack):Prop where
 at_: ∃s,BoxAt w q [Sl.v s]∧SlR packE w S s L
 free: ¬S q.block
 old:Old S w
 good:GoodL L
theorem RefR.ext{q:Addr}(h:RefR w S q L)(hx:Ext w w'):RefR w' S q L:=by
 obtain⟨s,a,b⟩:=h.at_
 exact⟨⟨s,a.ext hx,b.ext hx⟩,h.free,h.old.ext hx.size,h.good⟩
theorem RefR.stay{q:Addr}(h:RefR w S q L)(a0:w.heap.size≤w'.heap.size)(hk: ∀b,b<w.heap.size→(S b∨b=q.block)→w'.heap[b]? =w.heap[b]?):RefR w' S q L:=by
 obtain⟨s,a,b⟩:=h.at_
 exact⟨⟨s,a.keep (S:=λb=>b=q.block) rfl λb hb hl=>hk b hl (.inr hb),b.keep λb hb hl=>hk b hl (.inl hb)⟩,h.free,h.old.ext a0,h.good⟩
theorem Zis{α:Type}{p:α→Bool}{l:List α}{n:Nat}(hn:n<l.length)(h0:(l.take n).find? p=none):(l.take (n+1)).find? p=if p l[n]then some l[n]else none:=by
 rw[bu hn,ly,h0]
 simp only[Option.none_or,List.find?_cons,List.find?_nil]
 cases p l[n]<;>rfl
theorem Zsb{α:Type}{p:α→Bool}{l:List α}{n:Nat}(hn:n<l.length)(h0:(l.take n).find? p=none)(h:p l[n]=true):l.find? p=some l[n]:=by
 have e:l.find? p=(l.take (n+1)++l.drop (n+1)).find? p:=by rw[dc]
 rw[e,ly,Zis hn h0,if_pos h]; rfl
theorem Zpu{v:Ver}{q:Addr}{R:ByteArray→Int→Int→Int→Sl→Sl→Sl→Bool→World→Prop}(hC:RefR w S q L)
  (hR: ∀d e o w',Ext w w'→Str (getD L n v).name→SlR depE w' S d (getD L n v).deps→SlR depE w' S e (getD L n v).peers→SlR depE w' S o (getD L n v).opt→
   R (getD L n v).name (getD L n v).v.ma (getD L n v).v.mi (getD L n v).v.pa d e o (getL L n v).isSome w'):SE.Zak (some q) n v.ma v.mi v.pa w R:=by
 unfold SE.Zak
 obtain⟨s,hb,hs⟩:=hC.at_
 have hl:=hs.len
 refine newS.intro λa w1 x1 ha _ _=>newS.intro λa1 w2 x2 b1 b3 _=> ?_
 have b2:=x1.trans x2
 have b7:=b2.size
 refine loop1.up hs.max (λi w'=>Ext w2 w'∧(L.take i).find? (Ze7 n v)=none) ⟨Ext.refl _,rfl⟩ λi w3 b6 hi ⟨x3,hI⟩ hn=>?_
 have b0:=b2.trans x3
 refine⟨q,rfl,s,hb.at0 (r:=[]) b0 rfl,λa8=>bnd.drew λw4 x4=>?_,λb4=>?_⟩
 ·have a4:i<L.length:=oM
  have a0:=b0.trans x4
  obtain⟨ad,d,e,o,a9,_,hN,hd,he,ho,hc⟩:=Zmm hs a4
  refine⟨q,rfl,s,hb.at0 (r:=[]) a0 rfl,ad,⟨a9,oM,a8⟩,_,(hc _ a0).pre rfl,bound ⟨q,λ_=>rfl,s,λ_=>hb.at0 (r:=[]) a0 rfl,ad,λ_=>⟨a9,oM,a8⟩,_,_,_,λ_=>(hc _ a0).mid rfl,_,_,_,λ_=>ha.at0 (r:=[]) (x2.trans (x3.trans x4)) rfl,?_⟩⟩
  rw[Zp9]
  have ek:(bEq L[i].name n&&decide (L[i].v=v))=Ze7 n v L[i]:=by
   unfold Ze7
   rw[ep,bx,Zap,decide_eq_true_eq,decide_eq_true_eq]
  rw[ek]
  refine⟨λh=>?_,λh=>hn a4 _ ⟨x3.trans x4,by rw[Zis a4 hI,h]; rfl⟩⟩
  refine⟨q,rfl,s,hb.at0 (r:=[]) a0 rfl,ad,⟨a9,oM,a8⟩,_,_,_,_,_,_,_,(hc _ a0).pre (r:=[]) rfl,stw0.intro (b1.ext (x3.trans x4)) sI λw5 b5 _ a6=>⟨_,_,_,_,_,_,_,a6.ldc.pre rfl,?_⟩⟩
  have hg:getL L n v=some L[i]:=Zsb a4 hI h
  have x5:Ext w w5:=b5.ext a0 (by have:=x1.size; omega)
  have a5:=hR d e o w5 x5
  have a7:getD L n v=L[i]:=by unfold getD; rw[hg]; rfl
  rw[a7,hg]at a5
  exact a5 hN (hd.ext x5) (he.ext x5) (ho.ext x5)
 ·have:i=L.length:=oM
  rw[this,cu]at hI
  refine stw0.intro (b1.ext x3) sI λw5 b5 _ a6=>⟨_,_,_,_,_,_,_,a6.ldc.pre rfl,?_⟩
  have hg:getL L n v=none:=hI
  have x5:Ext w w5:=b5.ext b0 (by have:=x1.size; omega)
  have a5:=hR Sl.nil Sl.nil Sl.nil w5 x5
  have a7:getD L n v=Z88:=by unfold getD; rw[hg]; rfl
  rw[a7,hg]at a5
  exact a5 (by unfold Str; exact eh _) (SlR.nil trivial) (SlR.nil trivial) (SlR.nil trivial)
theorem Zwo{a b:Pack}{d1 e1 o1 d2 e2 o2:Sl}{R:Bool→World→Prop}(hN:Str a.name)(hR: ∀w',Ext w w'→R (Zfw a b) w'):SE.Zde a.name a.v.ma a.v.mi a.v.pa d1 e1 o1 b.name b.v.ma b.v.mi b.v.pa d2 e2 o2 w R:=by
 unfold SE.Zde
 refine newS.intro λ_ w1 x1 hb _ _=>newS.intro λ_ w2 x2 a0 _ _=> ?_
 refine⟨_,hb.at0 x2 rfl,_,a0.at0 xR rfl,λa4=>⟨_,hb.at0 x2 rfl,_,a0.at0 xR rfl,SE.Zdw.go (r05less_se hN λw3 x3=>⟨_,rfl,?_⟩)⟩,λhe=>⟨_,_,_,hb.at1 x2 rfl,_,_,_,a0.at1 xR rfl,SE.Zcr.go (Zsq (a:=a.v) (b:=b.v) λw3 x3=>⟨_,rfl,?_⟩)⟩⟩
 ·have e:Zfw a b=bLt a.name b.name:=by
   unfold Zfw cP
   rw[ep,decide_eq_true_eq,Z1u,Zm5]
   constructor
   ·rintro(h|⟨h,_⟩)
    ·exact h
    ·exact absurd (Zgs.1 h) a4
   ·exact .inl
  rw[←e]; exact hR _ (x1.trans (x2.trans x3))
 ·have he:=fj.1 he
  have e:Zfw a b=decide (0<a.v.cmp b.v):=by
   unfold Zfw cP
   rw[decide_eq_decide,Z1u,he,Zgs.2 rfl]
   have:=Ver.cmp_ord.flip b.v a.v
   omega
  rw[←e]; exact hR _ (x1.trans (x2.trans x3))
theorem Zob{α:Type}{p:α→Bool}{l:List α}(hi:i≤l.length)(h: ∀x∈l.take i,p x=true)(h2: ∀x,l[i]? =some x→p x=false):l.takeWhile p=l.take i∧l.dropWhile p=l.drop i:=by
 induction l generalizing i with
 |nil=>simp
 |cons a r ih=>
  cases i with
  |zero=>
   have:=h2 a rfl
   simp[List.takeWhile_cons,lg,this]
  |succ i=>
   have ha:=h a sI
   obtain⟨k1,k2⟩:=ih (i:=i) (by simpa using hi) (λx hx=>h x (by simp[hx])) (λx hx=>h2 x (by simpa using hx))
   simp[List.takeWhile_cons,lg,ha,k1,k2]
theorem Z12{x:Pack}{d e o:Sl}{q:Addr}{R:Int→World→Prop}(hC:RefR w S q L)(hN:Str x.name)(c3:Old S2 w)(hq: ¬S2 q.block)
  (hd:SlR depE w S2 d x.deps) (he:SlR depE w S2 e x.peers) (ho:SlR depE w S2 o x.opt)
  (hR: ∀w',But q.block w w'→RefR w' (λb=>(S b∨S2 b)∨(w.heap.size≤b∧b<w'.heap.size)) q (Zfo L x).2→R (Zfo L x).1 w'):SE.Zby (some q) x.name x.v.ma x.v.mi x.v.pa d e o w R:=by
 unfold SE.Zby
 obtain⟨s,hb,hs⟩:=hC.at_
 have h6:=hb.lt
 have hl:=hs.len
 have g7:=hC.good.le
 have same: ∀w',Ext w w'→RefR w' (λb=>(S b∨S2 b)∨(w.heap.size≤b∧b<w'.heap.size)) q L:=λw' hx=>
  ⟨⟨s,hb.ext hx,(hs.ext hx).mono λb hb=>.inl (.inl hb)⟩,λh=>by
   rcases h with(h|h)|h
   ·exact hC.free h
   ·exact hq h
   ·omega,λb hb=>by
   have:=hx.size
   rcases hb with(h|h)|h
   ·have:=hC.old b h; omega
   ·have:=c3 b h; omega
   ·exact h.2,hC.good⟩
 refine newS.intro λa w1 x1 ha h4 _=>⟨_,_,_,_,_,_,_,ha.ldc.pre rfl,SE.Zco.go (Zpt (p:=x) hN (hd.ext x1) (he.ext x1) (ho.ext x1) λw2 x2=>⟨_,rfl,λh=>?_,λh=>?_⟩)⟩
 ·have e1:Zbb x=false:=by simpa using h
  have hp:Zfo L x=(24,L):=by unfold Zfo; rw[if_pos e1]
  rw[hp]at hR
  exact hR w2 ((x1.trans x2).but _) (same _ (x1.trans x2))
 have b2:Zbb x=true:=by simpa using h
 have f0:=x1.trans x2
 refine⟨_,ha.at0 x2 rfl,_,_,_,ha.at1 x2 rfl,SE.Zak.go (Zpu (n:=x.name) (v:=x.v) (hC.ext f0) λd0 e0 o0 w3 x3 _ _ _ _=>⟨_,_,_,_,_,_,_,_,rfl,newS.intro λa7 w4 x4 f5 g8 _=>stw0.intro f5 sI λw5 b5 _ _=>⟨λh=>?_,λh=>?_⟩⟩)⟩
 all_goals
  have s1:=x1.size; have s2:=x2.size; have s3:=x3.size; have s4:=x4.size
  have a9:Ext w w5:=b5.ext (f0.trans (x3.trans x4)) oM
 ·have hp:Zfo L x=(11,L):=by unfold Zfo; rw[if_neg (by rw[b2]; simp),if_pos h]
  rw[hp]at hR
  exact hR w5 (a9.but _) (same _ a9)
 have b3:(getL L x.name x.v).isSome=false:=h
 refine⟨q,rfl,s,hb.at0 (r:=[]) a9 rfl,λh=>?_,λh=>?_⟩
 ·have hp:Zfo L x=(26,L):=by unfold Zfo; rw[if_neg (by rw[b2]; simp),if_neg (by rw[b3]; simp),if_pos oM]
  rw[hp]at hR
  exact hR w5 (a9.but _) (same _ a9)
 have h5:L.length<128:=oM
 have hp:Zfo L x=(0,Zps x L):=by unfold Zfo; rw[if_neg (by rw[b2]; simp),if_neg (by rw[b3]; simp),if_neg oM]
 have b1:=Zpv hC.good x
 rw[hp]at hR b1
 have g6:Ext w1 w5:=b5.ext (x2.trans (x3.trans x4)) oM
 have b9:packE.bytes=112:=rfl
 refine loop1.up hs.max (λi w'=>Ext w5 w'∧ ∀y∈L.take i,Zfw y x=true) ⟨Ext.refl _,by simp⟩ λi w6 h7 hi ⟨x6,hI⟩ hn=>bnd.drew λw7 x7=>?_
 have d2:=x6.trans x7
 have c5:=a9.trans d2
 have f1:=g6.trans d2
 obtain⟨ad,y,dy,ey,oy,b0⟩: ∃(ad:Addr) (y:Pack) (dy ey oy:Sl),decide ((i:Int)<(s.len:Int))=true→s.a=some ad∧L[i]? =some y∧Str y.name∧ ∀w',Ext w w'→ldc w' (ad.add (i*7)) [.string y.name,.int .i64 y.v.ma,.int .i64 y.v.mi,.int .i64 y.v.pa,dy.v,ey.v,oy.v]:=by
  by_cases c7:i<L.length
  ·obtain⟨ad,d',e',o',g0,_,f4,_,_,_,hc⟩:=Zmm hs c7
   exact⟨ad,L[i],d',e',o',λ_=>⟨g0,bq c7,f4,hc⟩⟩
  ·exact⟨q,Z88,Sl.nil,Sl.nil,Sl.nil,λh=>by simp at h; omega⟩
 refine⟨q,rfl,s,hb.at0 (r:=[]) c5 rfl,bound ⟨q,λ_=>rfl,s,λ_=>hb.at0 (r:=[]) c5 rfl,ad,λh=>⟨(b0 h).1,oM,by simpa using h⟩,y.name,y.v.ma,y.v.mi,y.v.pa,dy,ey,oy,λh=>(b0 h).2.2.2 w7 c5,x.name,x.v.ma,x.v.mi,x.v.pa,d,e,o,λ_=>ha.at0 (r:=[]) f1 rfl,gCall.named λJ hJ=>?_⟩⟩
 have key: ∀t w8,Ext w7 w8→(decide ((i:Int)<(s.len:Int))=true→t=Zfw y x)→J t w8:=λt w8 x8 ht=>by
  subst hJ
  have a5:=c5.trans x8
  refine⟨λh=>?_,λh=>?_⟩
  ·simp only[bx]at h
   obtain⟨k1,k2,_,_⟩:=b0 h.1
   have c4:i<L.length:=by have:=h.1; simp at this; omega
   refine hn c4 _ ⟨d2.trans x8,λz hz=>?_⟩
   rw[bu c4]at hz
   rcases dj.1 hz with hz|hz
   ·exact hI z hz
   ·simp at hz; subst hz
    rw[bq c4,cw]at k2
    rw[k2,←ht h.1]; exact h.2
  ·have f6: ∀z,L[i]? =some z→Zfw z x=false:=λz hz=>by
    have c4:=(ce.1 hz).1
    have c9:decide ((i:Int)<(s.len:Int))=true:=by simp; omega
    obtain⟨_,k2,_,_⟩:=b0 c9
    rw[hz,cw]at k2
    rw[k2,←ht c9]
    rw[c9]at h; simpa using h
   obtain⟨g1,g2⟩:=Zob (p:=(Zfw · x)) (l:=L) (i:=i) hi hI f6
   have e4:Zps x L=L.take i++x::L.drop i:=by unfold Zps; rw[g1,g2]
   have e6:=hs.ext a5
   have g9:=hs.2.1
   have c1:=e6.cut (a:=0) (b:=i) (eh _) hi
   have c2:=e6.cut (a:=i) (b:=L.length) hi nR
   rw[gz]at c1
   rw[cu]at c2
   have b4:(L.take i).length=i:=by rw[cd]; omega
   have e7:(L.drop i).length=L.length - i:=dh
   have e2:Old S w8:=hC.old.ext a5.size
   refine⟨q,rfl,s,hb.at0 (r:=[]) a5 rfl,⟨oM,oM⟩,?_⟩
   refine(OwnS.zero (E:=packE) (T:=53) w8).appAll Zs1 nR c1 e2 (λad h=>by cases h) (by rw[b9,b4]; unfold room; simp; omega) (by rw[b4,Zd]; simp; omega) λr1 w9 b6 d4 _ h1=>?_
   rw[em]at b6
   have x9:Ext w8 w9:=d4
   refine⟨_,_,_,_,_,_,_,ha.at0 (r:=[]) (f1.trans (x8.trans x9)) rfl,newS.intro λh2 g3 d1 d9 h3 _=> ?_⟩
   have b8:=x9.trans d1
   have s9:=x9.size; have h9:=d1.size
   have a8:=a5.trans b8
   have h8:=a5.size
   have d7:Old S2 g3:=c3.ext a8.size
   have f7: ∀ad,r1.a=some ad→w8.heap.size≤ad.block:=λad h=>(b6.block h).1
   refine(b6.ext d1).push (x:=x) (S':=S2) Zs1 b8.size ⟨hN,d,e,o,rfl,hd.ext a8,he.ext a8,ho.ext a8⟩ d9.ldc d7 (λad a4 hb=>by have:=f7 ad a4; have:=c3 _ hb; omega) (by rw[b9,b4]; unfold room; omega) (by rw[b4,Zd]; omega) λr2 g4 c8 d5 _ _=> ?_
   have a0:Ext w8 g4:=b8.trans' d5
   have e9:=a5.trans a0
   refine⟨q,rfl,s,hb.at0 (r:=[]) e9 rfl,⟨oM,oM⟩,?_⟩
   have f8: ∀ad,r2.a=some ad→w8.heap.size≤ad.block:=λad h=>(c8.block h).1
   have l2:(L.take i++ [x]).length=i+1:=by rw[br,b4]; rfl
   rw[hl]
   refine c8.appAll Zs1 a0.size (c2.ext a0) (e2.ext a0.size) (λad a4 hb=>by have:=f8 ad a4; have:=hC.old _ hb; omega) (by rw[b9,l2,e7]; unfold room; omega) (by rw[l2,e7,Zd]; omega) λr3 g5 a6 d6 _ _=> ?_
   have f2:Ext w8 g5:=a0.trans' d6
   have b7:=a5.trans f2
   have e3:(L.take i++ [x])++L.drop i=Zps x L:=by rw[e4]; simp
   rw[e3]at a6
   have c6:(Zps x L).length=L.length+1:=by rw[(Zno x L).length_eq]; simp
   refine⟨q,rfl,stw0.intro (hb.ext b7) sI λe8 d3 h0 d8=>?_⟩
   have e5: ∀b,(((None' b∨S b)∨S2 b)∨S b)∨(∃ad,r3.a=some ad∧b=ad.block)→(S b∨S2 b)∨(w.heap.size≤b∧b<e8.heap.size):=λb hb=>by
    rcases hb with(((hb|hb)|hb)|hb)|⟨ad,a4,rfl⟩
    ·exact hb.elim
    ·exact .inl (.inl hb)
    ·exact .inl (.inr hb)
    ·exact .inl (.inl hb)
    ·have:=a6.block a4; exact .inr ⟨oM,oM⟩
   have f9:=a6.read (by rw[b9,c6]; unfold room; omega) (by rw[c6,Zd]; omega)
   refine hR e8 ((b7.but _).trans d3) ⟨⟨r3,d8,(f9.but d3 λhb=>?_).mono e5⟩,λhb=>?_,λb hb=>?_,b1⟩
   ·rcases hb with(((hb|hb)|hb)|hb)|⟨ad,a4,hb⟩
    ·exact hb.elim
    ·exact hC.free hb
    ·exact hq hb
    ·exact hC.free hb
    ·have:=a6.block a4; omega
   ·rcases hb with(hb|hb)|hb
    ·exact hC.free hb
    ·exact hq hb
    ·omega
   ·have:=b7.size
    rcases hb with(hb|hb)|hb
    ·have:=hC.old b hb; omega
    ·have:=c3 b hb; omega
    ·exact hb.2
 refine⟨λhg=>SE.Zde.go (Zwo (a:=y) (b:=x) (b0 hg).2.2.1 λw8 x8=>⟨_,rfl,key _ _ x8 λ_=>rfl⟩),λhg=>key _ _ xR λh=>by rw[hg]at h; cases h⟩
end Go.Hal
namespace Go.Hal
section
variable {α:Type} {c:α→α→Int}
end
end Go.Hal
namespace Go.Hal
def cW(a b:Want):Int:=cmpS a.name b.name
def Zof(kind:Int)(over:List Dep)(d:Dep):Want:=⟨d.name,kind,Zkp over d.name d.range⟩
theorem Z61{l:List Want}(h:SlR Zzv w S s l){n:Nat}(hn:n<l.length):
  ∃ad t,s.a=some ad∧S ad.block∧Str l[n].name∧SlR spanE w S t l[n].range∧ ∀w',Ext w w'→ldc w' (ad.add (n*3)) [.string l[n].name,.int .i64 l[n].kind,t.v]:=by
 obtain⟨ad,cs,h1,h2,⟨h0,t,rfl,h5⟩,h4⟩:=h.el hn
 exact⟨ad,t,h1,h2,h0,h5,h4⟩
theorem Z9l:ApT prog 233 293 3 48:=Zhv (z:=.agg #[.string ⟨#[]⟩,.int .i64 0,.slice none 0 0]) kR kR rfl dC
theorem Znt{α:Type}{c:α→α→Int}(l:List α):(Zdr c l).length=l.length:=(Ze8 l).length_eq
def Ziu(over a b:List Dep):List Want:=Zdr cW (a.map (Zof 1 over)++b.map (Zof 2 over))
def Zf4(m:Mani)(dev:Bool):List Dep:=if dev then m.deps++m.dev else m.deps
theorem Zj3{mD dR:Sl}{dN:ByteArray}{over:List Dep}{dr:List Span}{R:Sl→World→Prop}(hS:Old S w)(hO:SlR depE w S mOv over)(hd:SlR spanE w S dR dr)
  (hR: ∀t w',Ext w w'→SlP spanE w' (λb=>w.heap.size≤b∧b<w'.heap.size) t (Zkp over dN dr)→R t w'):SE.Zfs mD mDev mOpt mOv dN dR w R:=by
 unfold SE.Zfs
 refine newS.intro λa w1 x1 ha _ _=>newS.intro λa1 w2 x2 a8 _ _=> ?_
 have b0:=x1.trans x2
 have hl:=hO.len
 refine⟨mOv,ha.at1 x2 rfl,loop1.up hO.max (λi w'=>Ext w2 w'∧ ∀k<i,∀e:Dep,over[k]? =some e→ ¬e.name=dN) ⟨Ext.refl _,λk hk=>by omega⟩ λi w3 b9 hi ⟨x3,hI⟩ hn=>⟨λb2=>?_,λb7=>?_⟩⟩
 ·have a4:i<over.length:=oM
  have a0:=b0.trans x3
  obtain⟨ad,t,b4,_,b8,hr,hc⟩:=Zhw hO a4
  refine⟨ad,⟨b4,oM,b2⟩,_,t,hc _ a0,newS.intro λa5 w4 x4 b1 b6 _=>stw0.intro b1 sI λw5 b5 _ a9=>⟨_,a9.ldc.pre rfl,dN,(a8.ext x3).at0 (b5.ext x4 oM) rfl,λhe=>?_,λb3=>?_⟩⟩
  ·have a7:Ext w3 w5:=b5.ext x4 oM
   have a6:=a0.trans a7
   refine⟨t,a9.at1 (k:=1) xR rfl,SE.Z6.go (Zkg (hS.ext a6.size) (hr.ext a6) λu w6 x6 hu=>⟨_,rfl,?_⟩)⟩
   refine hR _ _ (a6.trans x6) ?_
   rw[Zy8 (bq a4) he hI]
   have:=a6.size
   exact hu.mono λb hb=>⟨oM,hb.2⟩
  ·have a7:Ext w3 w5:=b5.ext x4 oM
   refine hn a4 _ ⟨x3.trans a7,λk hk e he=>?_⟩
   rcases dn.1 hk with h|rfl
   ·exact hI k h e he
   ·rw[bq a4,cw]at he
    subst he; exact b3
 ·have a0:=b0.trans x3
  refine⟨dR,(a8.ext x3).at1 (k:=1) xR rfl,SE.Z6.go (Zkg (hS.ext a0.size) (hd.ext a0) λu w6 x6 hu=>⟨_,rfl,?_⟩)⟩
  refine hR _ _ (a0.trans x6) ?_
  rw[Zwe λk e he=>hI k (by have:=(ce.1 he).1; omega) e he]
  have:=a0.size
  exact hu.mono λb hb=>⟨oM,hb.2⟩
theorem SlP.clip{α:Type}{E:Enc α}{l:List α}{k:Nat}(h:SlP E w S s l):SlP E w S (Sl.mk (if(s.len:Int).toNat=0 then s.a else s.a.map (·.add (0*k))) ((s.len:Int).toNat - 0) ((s.len:Int).toNat - 0)) l:=by
 have ea:(if(s.len:Int).toNat=0 then s.a else s.a.map (·.add (0*k)))=s.a:=by
  split
  ·rfl
  ·rw[jg]; cases s.a<;>rfl
 rw[ea]
 obtain⟨⟨h1,h2,h3,h4,h5⟩,h6⟩:=h
 exact⟨⟨by simp[h1],by simp[h1],by simp[h1]; omega,h4,h5⟩,h6⟩
theorem Z0i(h:s.len≤s.cap):(0:Int)≤0∧0≤(s.len:Int)∧(s.len:Int)≤(s.len:Int)∧(s.len:Int)≤(s.cap:Int):=⟨oM,oM,oM,oM⟩
theorem wantsPeers_se{pN:ByteArray}{v1 v2 v3:Int}{pD pP pO mD:Sl}{over peers:List Dep}{R:Sl→World→Prop}(hS:Old S w)(hO:SlR depE w S mOv over)(hp:SlR depE w S pP peers)
  (hR: ∀t w',Ext w w'→SlP depP w' (λb=>w.heap.size≤b∧b<w'.heap.size) t (Zc5 over peers)→R t w'):SE.Zia pN v1 v2 v3 pD pP pO mD mDev mOpt mOv w R:=by
 unfold SE.Zia
 refine newS.intro λa w1 x1 ha _ _=>newS.intro λa1 w2 x2 b9 _ _=> ?_
 have b0:=x1.trans x2
 have hl:=hp.len
 have h4:=hp.2.2.2.1
 have b2:depE.bytes=40:=rfl
 have b3:depP.bytes=40:=rfl
 refine⟨pP,ha.at1 x2 rfl,loop2.up hp.max (λout i w'=>Ext w2 w'∧ ∃Q,OwnS depP 202 w' w2.heap.size Q out (Zc5 over (peers.take i))∧ ∀b,Q b→w2.heap.size≤b) ⟨Ext.refl _,_,OwnS.zero _,λ_ h=>h.elim⟩ λout i w3 d1 hi ⟨x3,Q,own,hQ⟩ hn=>⟨λc3=>?_,λd0=>?_⟩⟩
 ·have a0:i<peers.length:=oM
  have b8:=b0.trans x3
  obtain⟨ad,t,c5,_,c4,hr,hc⟩:=Zhw hp a0
  refine⟨ad,⟨c5,oM,c3⟩,_,t,hc _ b8,newS.intro λa5 w4 x4 c1 c8 _=>stw0.intro c1 sI λw5 b5 _ b4=>bnd.drew λw6 x6=>?_⟩
  have c7:Ext w3 w5:=b5.ext x4 oM
  have a6:=c7.trans x6
  have a4:=b8.trans a6
  refine⟨_,b4.at0 x6 rfl,mD,mDev,mOpt,mOv,(b9.ext x3).at0 (r:=[]) a6 rfl,_,t,b4.at0 (r:=[]) x6 rfl,callX.intro (SE.Zfs.go (Zj3 (hS.ext a4.size) (hO.ext a4) (hr.ext a4) λu w7 x7 hu=>⟨x7,_,rfl,newS.intro λa7 w8 x8 c2 c9 _=> ?_⟩))⟩
  have b1:=a6.trans (x7.trans x8)
  have s6:=a4.size; have d2:=a6.size; have s3:=x3.size; have s8:=x8.size; have s7:=x7.size
  have c6:=(hu.ext x8).mono (S':=λb=>w6.heap.size≤b∧b<w8.heap.size) λb hb=>⟨hb.1,oM⟩
  have a8:(Zc5 over (peers.take i)).length=i:=by simp[Zc5]; omega
  refine(own.ext b1).push Z3m (x3.trans b1).size (x:=⟨peers[i].name,Zkp over peers[i].name peers[i].range⟩) (S':=λb=>w6.heap.size≤b∧b<w8.heap.size) ⟨c4,u,rfl,c6⟩ c2.ldc (λb hb=>hb.2) (λad ha hb=>?_) (by rw[a8]; rw[b2]at h4; rw[b3]; omega) (by rw[a8]; have:=hp.max; omega) λr w9 b7 bel _ _=>hn a0 _ _ ⟨(x3.trans b1).trans' bel,λb=>Q b∨(w6.heap.size≤b∧b<w8.heap.size),?_,λb hb=>?_⟩
  ·have:=(own.block ha).2.1; omega
  ·have e:Zc5 over (peers.take (i+1))=Zc5 over (peers.take i)++ [⟨peers[i].name,Zkp over peers[i].name peers[i].range⟩]:=by
    unfold Zc5; rw[bu a0,ec]; rfl
   rw[e]; exact b7
  ·rcases hb with hb|hb
   ·exact hQ b hb
   ·omega
 ·have:i=peers.length:=oM
  rw[this,cu]at own
  have b6:(Zc5 over peers).length=peers.length:=by simp[Zc5]
  have a9:=own.readP (by rw[b6,b3]; rw[b2]at h4; exact h4) (by rw[b6]; exact hp.max)
  refine SE.Zd9.go ⟨Z0i (by have:=a9.1.1; have:=a9.1.2.1; omega),_,rfl,hR _ _ (b0.trans x3) (a9.clip.mono λb hb=>?_)⟩
  have:=b0.size
  rcases hb with hb|⟨ad,ha,rfl⟩
  ·have:=hQ b hb; have:=own.lt b hb; exact⟨oM,oM⟩
  ·have:=own.block ha; exact⟨oM,this.2.1⟩
end Go.Hal
namespace Go.Hal
structure WantC where
 name:ByteArray
 kind:Int
 range:Sl
end Go.Hal
namespace Go.Hal
namespace StW
abbrev El:Type:=WantC×Nat
def cells(x:WantC):List Value:=[.string x.name,.int .i64 x.kind,x.range.v]
def fc(x:El):List Value:=cells x.1
theorem Za4(x:El):(fc x).length=3:=rfl
def CmpOk(cmp:Value)(c:WantC→WantC→Int)(g:Nat)(w0:World):Prop:=
 ∀(x y:WantC) (w:World) (k:Value→World→Prop),But g w0 w→(∀w',Ext w w'→k (.int .i64 (c x y)) w')→callV prog cmp [.agg (cells x).toArray,.agg (cells y).toArray] w k
theorem CmpOk.but{cmp:Value}{c:WantC→WantC→Int}{g:Nat}(h:CmpOk cmp c g w0)(hb:But g w0 w1):CmpOk cmp c g w1:=λx y w k hw hk=>h x y w k (hb.trans hw) hk
section
variable {cmp:Value} {c:WantC→WantC→Int} {g:Nat}
theorem Zgx(hO:Ord3 c){A M0 B:List El}(hc:CmpOk cmp c g w)(hd:data.a=some ⟨g,0,none⟩)(a9:data.len=(A++M0++B).length)(d2:data.len<4611686018427387904)
  (hB:RowB fc w g (A++M0++B) tail) (ha:a=(A.length:Int)) (hb:b=((A.length+M0.length:Nat):Int)) (hM:M0.Pairwise λx y=>x.2<y.2)
  (hR: ∀w' M,But g w w'→M.Perm M0→M.Pairwise (Ah c)→RowB fc w' g (A++M++B) tail→R w'):SE.Zj data a b cmp w R:=by
 unfold SE.Zj
 subst ha hb
 simp only[br]at a9
 rw[Zc oM oM]
 by_cases h0:M0= []
 ·subst h0
  refine⟨λi w'=>w'=w∧i=(A.length:Int)+1,λ_ _=>0,⟨rfl,rfl⟩,?_⟩
  rintro i w' ⟨rfl,rfl⟩
  refine⟨λh=>?_,λ_=>hR _ [] ⟨df _,rfl,rfl,rfl,λ_ _ _=>rfl⟩ (fx _) .nil hB⟩
  simp at h; omega
 have c1:0<M0.length:=ig.2 h0
 refine⟨λi w'=>∃(n:Nat) (M:List El),i=((A.length+n:Nat):Int)∧1≤n∧n≤M0.length∧But g w w'∧M.Perm (M0.take n)∧M.Pairwise (Ah c)∧RowB fc w' g (A++M++(M0.drop n++B)) tail,λi _=>(A.length+M0.length) - i.toNat,⟨1,M0.take 1,oM,df _,c1,⟨df _,rfl,rfl,rfl,λ_ _ _=>rfl⟩,fx _,?_,?_⟩,?_⟩
 ·cases M0 with
  |nil=>exact .nil
  |cons x r=>exact im _ _
 ·rw[←cc,cc A,dc]; exact hB
 rintro i w1 ⟨n,M,rfl,d7,d8,b1,hp,hs,a8⟩
 have b9:M.length=n:=by rw[hp.length_eq,cd]; omega
 refine⟨λd6=>?_,λd4=>?_⟩
 ·have b5:n<M0.length:=oM
  have b4:M0.drop n=M0[n]::M0.drop (n+1):=dm b5
  have hx: ∀y∈M,y.2<M0[n].2:=λy hy=>by
   have d0:=hp.mem_iff.1 hy
   obtain⟨j,hj,rfl⟩:=cy.1 d0
   rw[cd]at hj
   rw[fm]
   exact cr.1 hM j n oM b5 oM
  rw[b4]at a8
  generalize hX:M0[n]=x at*
  refine⟨λj w'=>∃(M1 M2:List El),j=((A.length+M1.length:Nat):Int)∧M1++M2=M∧(∀y∈M2,Ah c x y)∧But g w w'∧RowB fc w' g (A++M1++x::(M2++(M0.drop (n+1)++B))) tail,λj _=>j.toNat,⟨M,[],by rw[b9],by simp,by simp,b1,by simpa using a8⟩,?_⟩
  rintro j w2 ⟨M1,M2,rfl,a4,c2,b2,c8⟩
  refine bnd.drew λw3 x3=>bound ?_
  have a6:=c8.ext x3
  have b3:But g w w3:=b2.ext' x3
  have d3:M1.length+M2.length=n:=by rw[←b9,←a4,br]
  have fin: ∀w' w0,But g w w'→RowB fc w' g (A++M1++x::(M2++(M0.drop (n+1)++B))) tail→(∀y∈M1,Ah c y x)→w0=w'→
    (∃(n':Nat) (M':List El),Za (((A.length+n:Nat):Int)+1)=((A.length+n':Nat):Int)∧1≤n'∧n'≤M0.length∧But g w w0∧M'.Perm (M0.take n')∧M'.Pairwise (Ah c)∧RowB fc w0 g (A++M'++(M0.drop n'++B)) tail)∧(A.length+M0.length) - (Za (((A.length+n:Nat):Int)+1)).toNat<(A.length+M0.length) - (((A.length+n:Nat):Int)).toNat:=λw' w0 b' c7 h1 e=>by
   subst e
   rw[Zc oM oM]
   refine⟨⟨n+1,M1++x::M2,oM,oM,oM,b',?_,?_,by simpa using c7⟩,oM⟩
   ·rw[bu b5,hX]
    refine(List.perm_middle).trans ?_
    rw[a4]
    exact(hp.cons x).trans (iz x _).symm
   ·rw[←a4]at hs
    obtain⟨p1,p2,p3⟩:=eu.1 hs
    refine eu.2 ⟨p1,ga.2 ⟨c2,p2⟩,λy hy z hz=>?_⟩
    rcases du.1 hz with rfl|hz
    ·exact h1 y hy
    ·exact p3 y hy z hz
  rcases List.eq_nil_or_concat M1 with rfl|⟨a0,y,rfl⟩
  ·have hf:decide ((A.length:Int)<((A.length+([]:List El).length:Nat):Int))=false:=by simp
   rw[hf]
   refine⟨⟨g,0,none⟩,nO,⟨#[]⟩,0,Sl.nil,nO,⟨g,0,none⟩,nO,⟨#[]⟩,0,Sl.nil,nO,nO,λ_=>⟨nO,λ_=> ?_⟩⟩
   exact fin w3 w3 b3 a6 sI rfl
  ·simp only[List.concat_eq_append]at*
   have hj:decide ((A.length:Int)<((A.length+(a0++ [y]).length:Nat):Int))=true:=by simp; omega
   rw[hj]
   have a7:(a0++ [y]).length=a0.length+1:=by simp
   have e1:Za (((A.length+(a0++ [y]).length:Nat):Int) - 1)=((A.length+a0.length:Nat):Int):=by rw[a7,Zc oM oM]; omega
   rw[e1]
   have d5:data.len=A.length+(n+1+(M0.drop (n+1)++B).length):=by
    rw[a9,br,dh]; omega
   have eB:A++(a0++ [y])++x::(M2++(M0.drop (n+1)++B))=(A++a0)++y::x::(M2++(M0.drop (n+1)++B)):=by simp
   rw[eB]at a6
   have ey:(A++a0).length=A.length+a0.length:=br
   have gy:=a6.ld' Za4 (Zhb ey)
   have gx:=a6.ld' Za4 (Zid (n:=A.length+(a0++ [y]).length) (by rw[a7,ey]; omega))
   have d1:y∈M:=by rw[←a4]; simp
   have a5:=Ah.right hO (hx y d1)
   refine⟨_,λ_=>⟨hd,oM,oM⟩,_,_,_,λ_=>gx,_,λ_=>⟨hd,oM,oM⟩,_,_,_,λ_=>gy,λ_=> ?_,nO⟩
   refine hc x.1 y.1 w3 _ b3 λw4 x4=>⟨_,rfl,λh=>?_,λh=>?_⟩
   ·simp only[dw,decide_eq_true_eq]at h
    refine bnd.drew λw5 x5=>?_
    have c4:=x4.trans x5
    have b0:=a6.ext c4
    have c6:=b0.ld' Za4 (Zhb ey)
    have c5:=b0.ld' Za4 (Zid (n:=A.length+(a0++ [y]).length) (by rw[a7,ey]; omega))
    refine⟨_,⟨hd,oM,oM⟩,_,_,_,c6,_,⟨hd,oM,oM⟩,_,_,_,c5,_,⟨hd,oM,oM⟩,b0.st Za4 (i:=A.length+(a0++ [y]).length) (x:=y) (by simp only[br,dq,fa]; omega) λw6 b6 c9=>⟨_,⟨hd,oM,oM⟩,c9.st Za4 (i:=A.length+a0.length) (x:=x) (by simp only[fw,br,dq,fa]; omega) λw7 b7 b8=>?_⟩⟩
    have e2:((((A++a0)++y::x::(M2++(M0.drop (n+1)++B))).set (A.length+(a0++ [y]).length) y).set (A.length+a0.length) x)=(A++a0)++x::y::(M2++(M0.drop (n+1)++B)):=by
     have:=Zox (A++a0) (M2++(M0.drop (n+1)++B)) y x
     rw[ey]at this
     rw[a7,←kh]; exact this
    rw[e2]at b8
    refine⟨⟨a0,y::M2,rfl,by rw[←a4]; simp,λz hz=>?_,((b3.ext' c4).trans b6).trans b7,by simpa using b8⟩,by rw[a7]; omega⟩
    rcases du.1 hz with rfl|hz
    ·exact a5.1 h
    ·exact c2 z hz
   ·simp only[dw,decide_eq_false_iff_not]at h
    refine fin w4 w4 (b3.ext' x4) (by rw[eB]; exact a6.ext x4) (λz hz=>?_) rfl
    have c3:=a5.2 h
    rcases dj.1 hz with hz|hz
    ·refine Ah.trans hO ?_ c3
     rw[←a4]at hs
     have:=(eu.1 (eu.1 hs).1).2.2 z hz y sI
     exact this
    ·simp at hz; subst hz; exact c3
 ·have hn:n=M0.length:=oM
  subst hn
  rw[cu]at hp
  rw[ix,em]at a8
  exact hR w1 M b1 hp hs a8
theorem Ze9{P X M Y Q:List El}{n:Int}(hd:data.a=some ⟨g,0,none⟩)(a4:data.len=(P++X++M++Y++Q).length)(b7:data.len<4611686018427387904)
  (hB:RowB fc w g (P++X++M++Y++Q) tail) (ha:a=(P.length:Int)) (hb:b=((P.length+X.length+M.length:Nat):Int)) (hn:n=(X.length:Int)) (b8:Y.length=X.length)
  (hR: ∀w',But g w w'→RowB fc w' g (P++Y++M++X++Q) tail→R w'):SE.Zv data a b n cmp w R:=by
 unfold SE.Zv
 subst ha hb hn
 simp only[br]at a4
 refine loop1.up (N:=X.length) (by rw[Zd]; omega) (λi w'=>But g w w'∧RowB fc w' g (P++(Y.take i++X.drop i)++M++(X.take i++Y.drop i)++Q) tail) ⟨⟨df _,rfl,rfl,rfl,λ_ _ _=>rfl⟩,by simpa using hB⟩ λi w1 c2 hi ⟨b1,a5⟩ b6=>⟨λc1=>?_,λb9=>?_⟩
 ·have a6:i<X.length:=oM
  have a8:i<Y.length:=oM
  refine bnd.drew λw2 x2=>?_
  rw[Zc (x:=((P.length+X.length+M.length:Nat):Int)+(i:Int)) oM oM,Zc (x:=(P.length:Int)+(i:Int)) oM oM]
  rw[show((P.length+X.length+M.length:Nat):Int)+(i:Int)=((P.length+X.length+M.length+i:Nat):Int) by omega,show(P.length:Int)+(i:Int)=((P.length+i:Nat):Int) by omega]
  have a0:=a5.ext x2
  have eL:P++(Y.take i++X.drop i)++M++(X.take i++Y.drop i)++Q=(P++Y.take i)++X[i]::((X.drop (i+1)++M++X.take i)++Y[i]::(Y.drop (i+1)++Q)):=by
   rw[dm a6,dm a8]; simp only[cc,dz]
  rw[eL]at a0
  have l1:(P++Y.take i).length=P.length+i:=by simp; omega
  have l2:(X.drop (i+1)++M++X.take i).length+1=X.length+M.length:=by simp; omega
  have gx:=a0.ld' Za4 (Zhb l1)
  have b5:((P++Y.take i)++X[i]::((X.drop (i+1)++M++X.take i)++Y[i]::(Y.drop (i+1)++Q)))[P.length+X.length+M.length+i]? =some Y[i]:=by
   rw[←dz,←cc]
   refine Zhb ?_
   simp only[br,dq]at l1 l2 ⊢; omega
  have gy:=a0.ld' Za4 b5
  have b2:=b1.ext' x2
  have a9:((P++Y.take i)++X[i]::((X.drop (i+1)++M++X.take i)++Y[i]::(Y.drop (i+1)++Q))).length=data.len:=by
   rw[←eL,a4]; simp; omega
  refine⟨_,⟨hd,oM,oM⟩,_,_,_,gy,_,⟨hd,oM,oM⟩,_,_,_,gx,_,⟨hd,oM,oM⟩,a0.st Za4 (i:=P.length+i) (x:=Y[i]) (by rw[a9]; omega) λw3 b3 b0=>⟨_,⟨hd,oM,oM⟩,b0.st Za4 (i:=P.length+X.length+M.length+i) (x:=X[i]) (by rw[fw,a9]; omega) λw4 b4 a7=>b6 a6 _ ⟨(b2.trans b3).trans b4,?_⟩⟩⟩
  have e:=Zx5 (P++Y.take i) (X.drop (i+1)++M++X.take i) (Y.drop (i+1)++Q) X[i] Y[i]
  rw[l1,show P.length+i+1+(X.drop (i+1)++M++X.take i).length=P.length+X.length+M.length+i by omega]at e
  rw[e]at a7
  have e2:P++(Y.take (i+1)++X.drop (i+1))++M++(X.take (i+1)++Y.drop (i+1))++Q=(P++Y.take i)++Y[i]::((X.drop (i+1)++M++X.take i)++X[i]::(Y.drop (i+1)++Q)):=by
   rw[bu a6,bu a8]; simp only[cc,dz,em]
  rw[e2]; exact a7
 ·have:i=X.length:=oM
  subst this
  rw[dg oM,ix,dp,cu,gd oM,dp]at a5
  exact hR w1 b1 a5
theorem Zpy{P X Y Q:List El}{m:Int}(hd:data.a=some ⟨g,0,none⟩)(a5:data.len=(P++X++Y++Q).length)(a4:data.len<4611686018427387904)
  (hB:RowB fc w g (P++X++Y++Q) tail) (ha:a=(P.length:Int)) (hm:m=((P.length+X.length:Nat):Int)) (hb:b=((P.length+X.length+Y.length:Nat):Int)) (hX:0<X.length) (hY:0<Y.length)
  (hR: ∀w',But g w w'→RowB fc w' g (P++Y++X++Q) tail→R w'):SE.Za6 data a m b cmp w R:=by
 unfold SE.Za6
 subst ha hb hm
 simp only[br]at a5
 refine⟨λi j w'=>∃P' X' Y' Q':List El,i=(X'.length:Int)∧j=(Y'.length:Int)∧P'.length+X'.length=P.length+X.length∧0<X'.length∧0<Y'.length∧data.len=P'.length+X'.length+Y'.length+Q'.length∧P'++Y'++X'++Q'=P++Y++X++Q∧But g w w'∧RowB fc w' g (P'++X'++Y'++Q') tail,
  λi j _=>i.toNat+j.toNat,⟨P,X,Y,Q,by rw[Zc oM oM]; omega,by rw[Zc oM oM]; omega,rfl,hX,hY,a5,rfl,⟨df _,rfl,rfl,rfl,λ_ _ _=>rfl⟩,hB⟩,?_⟩
 rintro i j w1 ⟨P',X',Y',Q',rfl,rfl,hm,b6,b7,hl,hg,b1,a6⟩
 have wi:Za (((P.length+X.length:Nat):Int) - (X'.length:Int))=(P'.length:Int):=by rw[Zc oM oM]; omega
 rw[wi]
 refine⟨λb5=>⟨λb0=>?_,λb8=>?_⟩,λa7=>?_⟩
 ·have a8:X'=X'.take Y'.length++X'.drop Y'.length:=(dc _ _).symm
  have l1:(X'.take Y'.length).length=Y'.length:=by rw[cd]; omega
  have l2:(X'.drop Y'.length).length=X'.length - Y'.length:=dh
  generalize X'.take Y'.length=X1 at*
  generalize X'.drop Y'.length=X2 at*
  subst a8
  rw[br]at*
  refine SE.Zv.go (Ze9 (P:=P') (X:=X1) (M:=X2) (Y:=Y') (Q:=Q') hd (by simp only[br]; omega) a4 (by simpa using a6) rfl oM oM oM λw2 b2 a0=>⟨rfl,?_⟩)
  rw[Zc oM oM]
  refine⟨⟨P'++Y',X2,X1,Q',oM,oM,by rw[br]; omega,oM,oM,by rw[br]; omega,by rw[←hg]; simp,b1.trans b2,by simpa using a0⟩,by show Int.toNat _+Int.toNat _<Int.toNat _+Int.toNat _; omega⟩
 ·have b0:X'.length<Y'.length:=by
   rcases jm X'.length Y'.length with h|h|h
   ·exact h
   ·exact absurd (by rw[h]) b5
   ·omega
  have a9:Y'=Y'.take (Y'.length - X'.length)++Y'.drop (Y'.length - X'.length):=(dc _ _).symm
  have l1:(Y'.take (Y'.length - X'.length)).length=Y'.length - X'.length:=by rw[cd]; omega
  have l2:(Y'.drop (Y'.length - X'.length)).length=X'.length:=by rw[dh]; omega
  generalize b3:Y'.take (Y'.length - X'.length)=Y1 at*
  generalize b4:Y'.drop (Y'.length - X'.length)=Y2 at*
  clear b3 b4
  subst a9
  rw[br]at*
  have e1:Za (Za (((P.length+X.length:Nat):Int)+((Y1.length+Y2.length:Nat):Int)) - (X'.length:Int))=((P'.length+X'.length+Y1.length:Nat):Int):=by
   rw[Zc (x:=((P.length+X.length:Nat):Int)+((Y1.length+Y2.length:Nat):Int)) oM oM,Zc oM oM]; omega
  rw[e1]
  refine SE.Zv.go (Ze9 (P:=P') (X:=X') (M:=Y1) (Y:=Y2) (Q:=Q') hd (by simp only[br]; omega) a4 (by simpa using a6) rfl rfl rfl l2 λw2 b2 a0=>⟨rfl,?_⟩)
  rw[Zc oM oM]
  refine⟨⟨P',Y2,Y1,X'++Q',oM,oM,oM,oM,oM,by rw[br]; omega,by rw[←hg]; simp,b1.trans b2,by simpa using a0⟩,by show Int.toNat _+Int.toNat _<Int.toNat _+Int.toNat _; omega⟩
 ·have a7:X'.length=Y'.length:=by
   have:=fj.1 a7; omega
  refine SE.Zv.go (Ze9 (P:=P') (X:=X') (M:=[]) (Y:=Y') (Q:=Q') hd (by simp only[br,fa]; omega) a4 (by simpa using a6) rfl (by simp only[fa]; omega) rfl a7.symm λw2 b2 a0=>⟨rfl,?_⟩)
  exact hR w2 (b1.trans b2) (by rw[←hg]; simpa using a0)
theorem Zej(hO:Ord3 c){data:Sl}{tail:List Value}(hd:data.a=some ⟨g,0,none⟩)(c1:data.len<4611686018427387904):
  ∀(N:Nat) {w:World} {R:World→Prop} {P L X Q:List El} {a m b:Int},L.length+X.length≤N→CmpOk cmp c g w→data.len=(P++L++X++Q).length→RowB fc w g (P++L++X++Q) tail→
   a=(P.length:Int)→m=((P.length+L.length:Nat):Int)→b=((P.length+L.length+X.length:Nat):Int)→0<L.length→0<X.length→L.Pairwise (Ah c)→X.Pairwise (Ah c)→(∀x∈L,∀y∈X,x.2<y.2)→
   (∀w' M,But g w w'→M.Perm (L++X)→M.Pairwise (Ah c)→RowB fc w' g (P++M++Q) tail→R w')→SE.Zq data a m b cmp w R
 |0,_,_,_,L,_,_,_,_,_,h,_,_,_,_,_,_,hL,_,_,_,_,_=>by omega
 |N+1,w,R,P,L,X,Q,_,_,_,hN,hc,hlen,hB,rfl,rfl,rfl,hL0,hX0,hL,hX,hid,hR=>by
  unfold SE.Zq
  simp only[br]at hlen
  have refl:But g w w:=⟨df _,rfl,rfl,rfl,λ_ _ _=>rfl⟩
  have eL: ∀(u:Nat) (hu:u<L.length),(P++L++X++Q)[P.length+u]? =some L[u]:=λu hu=>by
   rw[cc,cc,ff oM,dt oM,lr]; exact bq hu
  have eX: ∀(u:Nat) (hu:u<X.length),(P++L++X++Q)[P.length+L.length+u]? =some X[u]:=λu hu=>by
   rw[cc,ff (by rw[br]; omega),br,lr,dt oM]; exact bq hu
  have wm:Za (((P.length+L.length:Nat):Int) - (P.length:Int))=(L.length:Int):=by rw[Zc oM oM]; omega
  have wb:Za (((P.length+L.length+X.length:Nat):Int) - ((P.length+L.length:Nat):Int))=(X.length:Int):=by rw[Zc oM oM]; omega
  rw[wm,wb]
  refine⟨λh1=>?_,λh1=>⟨λh2=>?_,λh2=>?_⟩⟩
  ·
   obtain⟨x,rfl⟩:=lx.1 (show L.length=1 by omega)
   simp only[dq,fa]at*
   refine⟨λi j w'=>∃p q:Nat,i=((P.length+(0+1)+p:Nat):Int)∧j=((P.length+(0+1)+q:Nat):Int)∧p≤q∧q≤X.length∧(∀(u:Nat) (hu:u<X.length),u<p→Ah c X[u] x)∧(∀(u:Nat) (hu:u<X.length),q≤u→Ah c x X[u])∧Ext w w',
    λi j _=>(j - i).toNat,⟨0,X.length,oM,oM,oM,oM,λu _ h=>by omega,λu h1 h2=>by omega,Ext.refl _⟩,?_⟩
   rintro _ _ w1 ⟨p,q,rfl,rfl,f0,hq,a5,b8,x1⟩
   refine⟨λa9=>bnd.drew λw2 x2=>?_,λa8=>?_⟩
   ·rw[half oM]
    have he:(P.length+(0+1)+p+(P.length+(0+1)+q))/2=P.length+(0+1)+(p+q)/2:=oM
    rw[he]
    have a7:(p+q)/2<X.length:=oM
    have a4:=hB.ext (x1.trans x2)
    have gx:=a4.ld' Za4 (eL 0 sI)
    have gy:=a4.ld' Za4 (eX _ a7)
    have a0:=Ah.right hO (hid x sI _ (cj a7))
    refine⟨_,⟨hd,oM,oM⟩,_,_,_,gy,_,⟨hd,oM,oM⟩,_,_,_,gx,hc _ x.1 w2 _ (refl.ext' (x1.trans x2)) λw3 x3=>⟨_,rfl,λh=>?_,λh=>?_⟩⟩
    ·have hA:=a0.1 h
     rw[Zc oM oM]
     refine⟨⟨(p+q)/2+1,q,oM,rfl,oM,hq,λu hu a9=>?_,b8,x1.trans (x2.trans x3)⟩,by show Int.toNat _<Int.toNat _; omega⟩
     rcases dn.1 a9 with h'|rfl
     ·exact(cr.1 hX u _ hu a7 h').trans hO hA
     ·exact hA
    ·have hA:=a0.2 h
     refine⟨⟨p,(p+q)/2,rfl,rfl,oM,oM,a5,λu hu a8=>?_,x1.trans (x2.trans x3)⟩,by show Int.toNat _<Int.toNat _; omega⟩
     rcases io a8 with h'|rfl
     ·exact hA.trans hO (cr.1 hX _ u a7 hu h')
     ·exact hA
   ·have c3:p=q:=oM
    subst c3
    have wi:Za (((P.length+(0+1)+p:Nat):Int) - 1)=((P.length+p:Nat):Int):=by rw[Zc oM oM]; omega
    rw[wi]
    refine⟨λk w'=>∃t:Nat,k=((P.length+t:Nat):Int)∧t≤p∧But g w w'∧RowB fc w' g (P++(X.take t++x::X.drop t)++Q) tail,λk _=>(P.length+p) - k.toNat,⟨0,oM,oM,refl.ext' x1,by simpa using hB.ext x1⟩,?_⟩
    rintro _ w2 ⟨t,rfl,f4,b2,a4⟩
    refine⟨λa9=>bnd.drew λw3 x3=>?_,λa8=>?_⟩
    ·have d8:t<X.length:=oM
     have e1:Za (((P.length+t:Nat):Int)+1)=((P.length+t+1:Nat):Int):=by rw[Zc oM oM]; omega
     rw[e1]
     have eB:P++(X.take t++x::X.drop t)++Q=(P++X.take t)++x::X[t]::(X.drop (t+1)++Q):=by
      rw[dm d8]; simp only[cc,dz]
     have a6:=a4.ext x3
     rw[eB]at a6
     have ey:(P++X.take t).length=P.length+t:=by rw[br,cd]; omega
     have gy:=a6.ld' Za4 (Zhb ey)
     have gx:=a6.ld' Za4 (Zid (n:=P.length+t+1) oM)
     have c2:((P++X.take t)++x::X[t]::(X.drop (t+1)++Q)).length=data.len:=by rw[←eB,hlen]; simp; omega
     refine⟨_,⟨hd,oM,oM⟩,_,_,_,gx,_,⟨hd,oM,oM⟩,_,_,_,gy,_,⟨hd,oM,oM⟩,a6.st Za4 (i:=P.length+t) (x:=X[t]) (by rw[c2]; omega) λw4 b4 b7=>⟨_,⟨hd,oM,oM⟩,b7.st Za4 (i:=P.length+t+1) (x:=x) (by rw[fw,c2]; omega) λw5 b5 b9=>?_⟩⟩
     have e2:=Zu3 (P++X.take t) (X.drop (t+1)++Q) x X[t]
     rw[ey]at e2
     rw[e2]at b9
     refine⟨⟨t+1,oM,oM,((b2.ext' x3).trans b4).trans b5,?_⟩,by show _ - Int.toNat _<_ - Int.toNat _; omega⟩
     rw[bu d8]
     simpa only[cc,dz,em]using b9
    ·have:t=p:=oM
     subst this
     refine hR w2 _ b2 ?_ ?_ a4
     ·refine List.perm_middle.trans ?_
      rw[dc]; exact fx _
     ·refine eu.2 ⟨hX.sublist (iu _ _),ga.2 ⟨λy hy=>?_,hX.sublist (ib _ _)⟩,λy hy z hz=>?_⟩
      ·obtain⟨u,hu,rfl⟩:=cy.1 hy
       rw[dh]at hu
       rw[fq]; exact b8 _ oM oM
      ·obtain⟨u,hu,rfl⟩:=cy.1 hy
       rw[cd]at hu
       rw[fm]
       have c4:=a5 u oM oM
       rcases du.1 hz with rfl|hz
       ·exact c4
       ·obtain⟨v,hv,rfl⟩:=cy.1 hz
        rw[dh]at hv
        rw[fq]; exact c4.trans hO (b8 _ oM oM)
  ·
   obtain⟨y,rfl⟩:=lx.1 (show X.length=1 by omega)
   simp only[dq,fa]at*
   refine⟨λi j w'=>∃p q:Nat,i=((P.length+p:Nat):Int)∧j=((P.length+q:Nat):Int)∧p≤q∧q≤L.length∧(∀(u:Nat) (hu:u<L.length),u<p→Ah c L[u] y)∧(∀(u:Nat) (hu:u<L.length),q≤u→Ah c y L[u])∧Ext w w',
    λi j _=>(j - i).toNat,⟨0,L.length,oM,oM,oM,oM,λu _ h=>by omega,λu h1 h2=>by omega,Ext.refl _⟩,?_⟩
   rintro _ _ w1 ⟨p,q,rfl,rfl,f0,hq,a5,b8,x1⟩
   refine⟨λa9=>bnd.drew λw2 x2=>?_,λa8=>?_⟩
   ·rw[half oM]
    have he:(P.length+p+(P.length+q))/2=P.length+(p+q)/2:=oM
    rw[he]
    have a7:(p+q)/2<L.length:=oM
    have a4:=hB.ext (x1.trans x2)
    have gx:=a4.ld' Za4 (eX 0 sI)
    have gy:=a4.ld' Za4 (eL _ a7)
    have a0:=Ah.right hO (hid _ (cj a7) y sI)
    refine⟨_,⟨hd,oM,oM⟩,_,_,_,gx,_,⟨hd,oM,oM⟩,_,_,_,gy,hc y.1 _ w2 _ (refl.ext' (x1.trans x2)) λw3 x3=>⟨_,rfl,λh=>?_,λh=>?_⟩⟩
    ·have hA:=a0.2 h
     rw[Zc oM oM]
     refine⟨⟨(p+q)/2+1,q,oM,rfl,oM,hq,λu hu a9=>?_,b8,x1.trans (x2.trans x3)⟩,by show Int.toNat _<Int.toNat _; omega⟩
     rcases dn.1 a9 with h'|rfl
     ·exact(cr.1 hL u _ hu a7 h').trans hO hA
     ·exact hA
    ·have hA:=a0.1 (fj.1 h)
     refine⟨⟨p,(p+q)/2,rfl,rfl,oM,oM,a5,λu hu a8=>?_,x1.trans (x2.trans x3)⟩,by show Int.toNat _<Int.toNat _; omega⟩
     rcases io a8 with h'|rfl
     ·exact hA.trans hO (cr.1 hL _ u a7 hu h')
     ·exact hA
   ·have c3:p=q:=oM
    subst c3
    refine⟨λk w'=>∃t:Nat,k=((P.length+t:Nat):Int)∧p≤t∧t≤L.length∧But g w w'∧RowB fc w' g (P++(L.take t++y::L.drop t)++Q) tail,λk _=>k.toNat,⟨L.length,oM,oM,oM,refl.ext' x1,by simpa using hB.ext x1⟩,?_⟩
    rintro _ w2 ⟨t,rfl,f4,g7,b2,a4⟩
    refine⟨λa9=>bnd.drew λw3 x3=>?_,λa8=>?_⟩
    ·obtain⟨s,rfl⟩: ∃s,t=s+1:=⟨t - 1,oM⟩
     have d0:s<L.length:=oM
     have e1:Za (((P.length+(s+1):Nat):Int) - 1)=((P.length+s:Nat):Int):=by rw[Zc oM oM]; omega
     rw[e1]
     have eB:P++(L.take (s+1)++y::L.drop (s+1))++Q=(P++L.take s)++L[s]::y::(L.drop (s+1)++Q):=by
      rw[bu d0]; simp only[cc,dz,em]
     have a6:=a4.ext x3
     rw[eB]at a6
     have ey:(P++L.take s).length=P.length+s:=by rw[br,cd]; omega
     have gy:=a6.ld' Za4 (Zhb ey)
     have gx:=a6.ld' Za4 (Zid (n:=P.length+(s+1)) oM)
     have c2:((P++L.take s)++L[s]::y::(L.drop (s+1)++Q)).length=data.len:=by rw[←eB,hlen]; simp; omega
     refine⟨_,⟨hd,oM,oM⟩,_,_,_,gy,_,⟨hd,oM,oM⟩,_,_,_,gx,_,⟨hd,oM,oM⟩,a6.st Za4 (i:=P.length+(s+1)) (x:=L[s]) (by rw[c2]; omega) λw4 b4 b7=>⟨_,⟨hd,oM,oM⟩,b7.st Za4 (i:=P.length+s) (x:=y) (by rw[fw,c2]; omega) λw5 b5 b9=>?_⟩⟩
     have e2:=Zox (P++L.take s) (L.drop (s+1)++Q) L[s] y
     rw[ey,kh]at e2
     rw[e2]at b9
     refine⟨⟨s,oM,oM,oM,((b2.ext' x3).trans b4).trans b5,?_⟩,by show Int.toNat _<Int.toNat _; omega⟩
     rw[dm d0]
     simpa only[cc,dz,em]using b9
    ·have:t=p:=oM
     subst this
     refine hR w2 _ b2 ?_ ?_ a4
     ·refine List.perm_middle.trans ?_
      rw[dc]; exact(iz y L).symm
     ·refine eu.2 ⟨hL.sublist (iu _ _),ga.2 ⟨λz hz=>?_,hL.sublist (ib _ _)⟩,λx hx z hz=>?_⟩
      ·obtain⟨u,hu,rfl⟩:=cy.1 hz
       rw[dh]at hu
       rw[fq]; exact b8 _ oM oM
      ·obtain⟨u,hu,rfl⟩:=cy.1 hx
       rw[cd]at hu
       rw[fm]
       have c4:=a5 u oM oM
       rcases du.1 hz with rfl|hz
       ·exact c4
       ·obtain⟨v,hv,rfl⟩:=cy.1 hz
        rw[dh]at hv
        rw[fq]; exact c4.trans hO (b8 _ oM oM)
  ·
   rw[half (i:=P.length) (j:=P.length+L.length+X.length) oM]
   have d3:(P.length+(P.length+L.length+X.length))/2=P.length+(L.length+X.length)/2:=oM
   rw[d3]
   generalize hH:(L.length+X.length)/2=H at*
   have wn:Za (((P.length+H:Nat):Int)+((P.length+L.length:Nat):Int))=((P.length+H+(P.length+L.length):Nat):Int):=by rw[Zc oM oM]; omega
   rw[wn]
   have wp:Za (((P.length+H+(P.length+L.length):Nat):Int) - 1)=((P.length+H+(P.length+L.length) - 1:Nat):Int):=by rw[Zc oM oM]; omega
   rw[wp]
   refine join.named λJ hJ=>?_
   have c9: ∀u0 v0:Nat,u0=H - X.length→v0=min L.length H→J ((P.length+u0:Nat):Int) ((P.length+v0:Nat):Int) w:=λu0 v0 g8 g9=>by
    subst hJ
    show loop2 _ _ _ _
    refine⟨λi j w'=>∃s r:Nat,i=((P.length+s:Nat):Int)∧j=((P.length+r:Nat):Int)∧u0≤s∧s≤r∧r≤v0∧(∀(u:Nat) (h1:u<L.length) (h2:H - 1 - u<X.length),u0≤u→u<s→Ah c L[u] X[H - 1 - u])∧(∀(u:Nat) (h1:u<L.length) (h2:H - 1 - u<X.length),r≤u→u<v0→Ah c X[H - 1 - u] L[u])∧Ext w w',
     λi j _=>(j - i).toNat,⟨u0,v0,rfl,rfl,df _,oM,df _,λu _ _ h1 h2=>by omega,λu _ _ h1 h2=>by omega,Ext.refl _⟩,?_⟩
    rintro _ _ w1 ⟨s,r,rfl,rfl,f2,g6,f1,d6,d5,x1⟩
    refine⟨λa9=>bnd.drew λw2 x2=>?_,λa8=>?_⟩
    ·rw[half oM]
     have he:(P.length+s+(P.length+r))/2=P.length+(s+r)/2:=oM
     rw[he]
     generalize hu:(s+r)/2=u at*
     have c6:u<L.length:=oM
     have c7:H - 1 - u<X.length:=oM
     have g2:Za (((P.length+H+(P.length+L.length) - 1:Nat):Int) - ((P.length+u:Nat):Int))=((P.length+L.length+(H - 1 - u):Nat):Int):=by rw[Zc oM oM]; omega
     rw[g2]
     have a4:=hB.ext (x1.trans x2)
     have gx:=a4.ld' Za4 (eX _ c7)
     have gy:=a4.ld' Za4 (eL _ c6)
     have a0:=Ah.right hO (hid _ (cj c6) _ (cj c7))
     refine⟨_,⟨hd,oM,oM⟩,_,_,_,gx,_,⟨hd,oM,oM⟩,_,_,_,gy,hc _ _ w2 _ (refl.ext' (x1.trans x2)) λw3 x3=>⟨_,rfl,λh=>?_,λh=>?_⟩⟩
     ·have hA:=a0.2 h
      rw[Zc oM oM]
      refine⟨⟨u+1,r,oM,rfl,oM,oM,f1,λt h1 h2 h3 h4=>?_,d5,x1.trans (x2.trans x3)⟩,by show Int.toNat _<Int.toNat _; omega⟩
      rcases dn.1 h4 with h'|rfl
      ·exact((cr.1 hL t u h1 c6 h').trans hO hA).trans hO (cr.1 hX (H - 1 - u) (H - 1 - t) c7 h2 oM)
      ·exact hA
     ·have hA:=a0.1 (fj.1 h)
      refine⟨⟨s,u,rfl,rfl,f2,oM,oM,d6,λt h1 h2 h3 h4=>?_,x1.trans (x2.trans x3)⟩,by show Int.toNat _<Int.toNat _; omega⟩
      rcases io h3 with h'|rfl
      ·exact((cr.1 hX (H - 1 - t) (H - 1 - u) h2 c7 oM).trans hO hA).trans hO (cr.1 hL u t c6 h1 h')
      ·exact hA
    ·have d7:s=r:=oM
     subst d7
     have d0:s≤L.length:=oM
     have g5:s≤H:=oM
     have g3:H - s≤X.length:=oM
     have e5:Za (((P.length+H+(P.length+L.length):Nat):Int) - ((P.length+s:Nat):Int))=((P.length+L.length+(H - s):Nat):Int):=by rw[Zc oM oM]; omega
     rw[e5]
     have e6: ∀x∈L.take s,∀y∈X.drop (H - s),Ah c x y:=λx hx y hy=>by
      obtain⟨i,hi,rfl⟩:=cy.1 hx
      obtain⟨j,hj,rfl⟩:=cy.1 hy
      rw[cd]at hi; rw[dh]at hj
      rw[fm,fq]
      have k1:=d6 (s - 1) oM oM oM oM
      have e:H - 1 - (s - 1)=H - s:=oM
      have k2:Ah c L[i] X[H - s]:=by
       rcases io (show i≤s - 1 by omega)with h|h
       ·have:=(cr.1 hL i (s - 1) oM oM h).trans hO k1
        simpa only[e]using this
       ·subst h; simpa only[e]using k1
      rcases fo j with h|h
      ·subst h; exact k2
      ·exact k2.trans hO (cr.1 hX (H - s) (H - s+j) oM oM oM)
     have e7: ∀y∈X.take (H - s),∀x∈L.drop s,Ah c y x:=λy hy x hx=>by
      obtain⟨i,hi,rfl⟩:=cy.1 hx
      obtain⟨j,hj,rfl⟩:=cy.1 hy
      rw[dh]at hi; rw[cd]at hj
      rw[fm,fq]
      have k1:=d5 s oM oM nR oM
      have k2:Ah c X[j] L[s]:=by
       rcases io (show j≤H - 1 - s by omega)with h|h
       ·exact(cr.1 hX j (H - 1 - s) oM oM h).trans hO k1
       ·subst h; exact k1
      rcases fo i with h|h
      ·subst h; exact k2
      ·exact k2.trans hO (cr.1 hL s (s+i) oM oM oM)
     have f7:(L.take s).length=s:=by rw[cd]; omega
     have f8:(X.take (H - s)).length=H - s:=by rw[cd]; omega
     have f9:(L.drop s).length=L.length - s:=dh
     have g0:(X.drop (H - s)).length=X.length - (H - s):=dh
     have d9:=hL.sublist (iu s L)
     have e0:=hL.sublist (ib s L)
     have e3:=hX.sublist (iu (H - s) X)
     have e4:=hX.sublist (ib (H - s) X)
     have f5: ∀x∈L.take s,∀y∈X.take (H - s),x.2<y.2:=λx hx y hy=>hid x (iw hx) y (iw hy)
     have f6: ∀x∈L.drop s,∀y∈X.drop (H - s),x.2<y.2:=λx hx y hy=>hid x (mh hx) y (mh hy)
     have d1:L=L.take s++L.drop s:=(dc _ _).symm
     have d2:X=X.take (H - s)++X.drop (H - s):=(dc _ _).symm
     have g4:L.take s= []∨0<s:=by
       rcases fo s with h|h
       ·exact .inl (by rw[h]; rfl)
       ·exact .inr h
     have b0: ∀M1 M2:List El,M1.Perm (L.take s++X.take (H - s))→M2.Perm (L.drop s++X.drop (H - s))→(M1++M2).Perm (L++X):=λM1 M2 h1 h2=>by
      refine(h1.append h2).trans ?_
      conv=>rhs; rw[d1,d2]
      rw[cc,cc]
      refine List.Perm.append_left _ ?_
      rw[←cc,←cc]
      exact List.Perm.append_right _ List.perm_append_comm
     have b6: ∀M1 M2:List El,M1.Perm (L.take s++X.take (H - s))→M2.Perm (L.drop s++X.drop (H - s))→M1.Pairwise (Ah c)→M2.Pairwise (Ah c)→(M1++M2).Pairwise (Ah c):=λM1 M2 h1 h2 s1 s2=>
      eu.2 ⟨s1,s2,λx hx y hy=>by
       rcases dj.1 (h1.mem_iff.1 hx)with hx|hx<;>rcases dj.1 (h2.mem_iff.1 hy)with hy|hy
       ·obtain⟨i,hi,rfl⟩:=cy.1 hx
        obtain⟨j,hj,rfl⟩:=cy.1 hy
        rw[f7]at hi; rw[f9]at hj
        rw[fm,fq]
        exact cr.1 hL i (s+j) oM oM oM
       ·exact e6 x hx y hy
       ·exact e7 x hx y hy
       ·obtain⟨i,hi,rfl⟩:=cy.1 hx
        obtain⟨j,hj,rfl⟩:=cy.1 hy
        rw[f8]at hi; rw[g0]at hj
        rw[fm,fq]
        exact cr.1 hX i (H - s+j) oM oM oM⟩
     generalize L.take s=L1 at*
     generalize L.drop s=L2 at*
     generalize X.take (H - s)=X1 at*
     generalize X.drop (H - s)=X2 at*
     have b1:But g w w1:=refl.ext' x1
     have c5:=hB.ext x1
     refine join.named λJ2 e8=>?_
     have k2: ∀w2,But g w w2→RowB fc w2 g (P++L1++X1++(L2++X2++Q)) tail→J2 w2:=λw2 b2 a4=>by
      subst e8
      refine join.named λJ3 e9=>bound ?_
      have k3: ∀w3 M1,But g w w3→M1.Perm (L1++X1)→M1.Pairwise (Ah c)→RowB fc w3 g (P++M1++(L2++X2++Q)) tail→J3 w3:=λw3 M1 b3 a5 c8 a6=>by
       subst e9
       have lM:M1.length=H:=by rw[a5.length_eq,br]; omega
       refine bound ⟨λh=>?_,λh=>?_⟩
       ·simp only[bx,decide_eq_true_eq]at h
        refine SE.Zq.go (Zej hO hd c1 N (P:=P++M1) (L:=L2) (X:=X2) (Q:=Q) oM (hc.but b3) (by simp only[br]; omega) (by simpa only[cc]using a6) (by rw[br]; omega) (by rw[br]; omega) (by rw[br]; omega) oM oM e0 e4 f6 λw4 M2 b4 d4 g1 b7=>⟨rfl,?_⟩)
        exact hR w4 (M1++M2) (b3.trans b4) (b0 M1 M2 a5 d4) (b6 M1 M2 a5 d4 c8 g1) (by simpa only[cc]using b7)
       ·simp only[gp,decide_eq_false_iff_not]at h
        refine hR w3 (M1++(L2++X2)) b3 (b0 M1 _ a5 (fx _)) (b6 M1 _ a5 (fx _) c8 ?_) (by simpa only[cc]using a6)
        have:L2= []∨X2= []:=by
         rcases h with h|h
         ·exact .inl (cq oM)
         ·exact .inr (cq oM)
        rcases this with rfl|rfl
        ·simpa using e4
        ·simpa using e0
      refine⟨λh=>?_,λh=>?_⟩
      ·simp only[bx,decide_eq_true_eq]at h
       refine SE.Zq.go (Zej hO hd c1 N (P:=P) (L:=L1) (X:=X1) (Q:=L2++X2++Q) oM (hc.but b2) (by simp only[br]; omega) (by simpa only[cc]using a4) rfl oM oM oM oM d9 e3 f5 λw4 M1 b4 a5 c8 b7=>⟨rfl,k3 w4 M1 (b2.trans b4) a5 c8 b7⟩)
      ·simp only[gp,decide_eq_false_iff_not]at h
       refine k3 w2 (L1++X1) b2 (fx _) ?_ (by simpa only[cc]using a4)
       have:L1= []∨X1= []:=by
        rcases h with h|h
        ·exact .inl (cq oM)
        ·exact .inr (cq oM)
       rcases this with rfl|rfl
       ·simpa using e3
       ·simpa using d9
     rw[d1,d2]at c5
     refine bound ⟨λh=>?_,λh=>?_⟩
     ·simp only[bx,decide_eq_true_eq]at h
      refine SE.Za6.go (Zpy (P:=P++L1) (X:=L2) (Y:=X1) (Q:=X2++Q) hd (by simp only[br]; omega) c1 (by simpa only[cc]using c5) (by rw[br]; omega) (by rw[br]; omega) (by rw[br]; omega) oM oM λw2 b2 a4=>⟨rfl,k2 w2 (b1.trans b2) (by simpa only[cc]using a4)⟩)
     ·simp only[gp,decide_eq_false_iff_not]at h
      refine k2 w1 b1 ?_
      have:L2= []∨X1= []:=by
       rcases h with h|h
       ·exact .inl (cq oM)
       ·exact .inr (cq oM)
      rcases this with rfl|rfl
      ·simpa only[cc,dp,em]using c5
      ·simpa only[cc,dp,em]using c5
   refine⟨λh=>?_,λh=>?_⟩
   ·have:=c9 (H - X.length) H rfl oM
    have e:Za (((P.length+H+(P.length+L.length):Nat):Int) - ((P.length+L.length+X.length:Nat):Int))=((P.length+(H - X.length):Nat):Int):=by rw[Zc oM oM]; omega
    rw[e]; exact this
   ·have:=c9 0 L.length oM oM
    exact this
theorem ids{z0:List El}(hz:z0.Pairwise λx y=>x.2<y.2){n j m:Nat}(h:i+n≤j): ∀x∈sg z0 i n,∀y∈sg z0 j m,x.2<y.2:=λx hx y hy=>by
 obtain⟨a,ha,_,a0,rfl⟩:=Zx1 hx
 obtain⟨b,hb,a4,_,rfl⟩:=Zx1 hy
 exact cr.1 hz a b ha hb oM
theorem Zp7(hO:Ord3 c){z0:List El}{n:Int}(hd:data.a=some ⟨g,0,none⟩)(e7:data.len<2305843009213693952)(hc:CmpOk cmp c g w)(a7:data.len=z0.length)(hn:n=(z0.length:Int))(hB:RowB fc w g z0 tail)
  (hz:z0.Pairwise λx y=>x.2<y.2) (hR: ∀w' M,But g w w'→M.Perm z0→M.Pairwise (Ah c)→RowB fc w' g M tail→R w'):SE.Z2 data n cmp w R:=by
 unfold SE.Z2
 subst hn
 have refl:But g w w:=⟨df _,rfl,rfl,rfl,λ_ _ _=>rfl⟩
 refine⟨λa b w'=>∃(k:Nat) (z:List El),a=((k*20:Nat):Int)∧b=((k*20+20:Nat):Int)∧k*20≤z0.length∧z.length=z0.length∧z.drop (k*20)=z0.drop (k*20)∧Chunks c 20 z z0 k∧But g w w'∧RowB fc w' g z tail,
  λa _ _=>z0.length - a.toNat,⟨0,z0,rfl,rfl,oM,rfl,rfl,⟨λi h=>by omega,λi h=>by omega⟩,refl,hB⟩,?_⟩
 rintro _ _ w1 ⟨k,z,rfl,rfl,hk,c9,c2,b9,b1,b7⟩
 have la:(z.take (k*20)).length=k*20:=by rw[cd]; omega
 refine⟨λc3=>?_,λf2=>?_⟩
 ·have c8:sg z (k*20) 20=sg z0 (k*20) 20:=by unfold sg; rw[c2]
  have hs:=Zou z (k*20) 20
  have d7:(sg z (k*20) 20).length=20:=Zn5 oM
  rw[hs]at b7
  refine SE.Zj.go (Zgx hO (A:=z.take (k*20)) (M0:=sg z (k*20) 20) (B:=z.drop (k*20+20)) (hc.but b1) hd (by rw[←hs,c9]; exact a7) oM b7 (by rw[la]) (by rw[la,d7]) (by rw[c8]; exact hz.sublist ((iu _ _).trans (ib _ _))) λw2 M b2 hp a5 b8=>⟨rfl,?_⟩)
  have a0:M.length=20:=by rw[hp.length_eq,d7]
  rw[Zc oM oM]
  refine⟨⟨k+1,z.take (k*20)++M++z.drop (k*20+20),oM,oM,oM,?_,?_,?_,b1.trans b2,b8⟩,by show _ - Int.toNat _<_ - Int.toNat _; omega⟩
  ·simp only[br,dh,la,a0]; omega
  ·rw[mj (by rw[br,la,a0]; omega),show k*20+20=(k+1)*20 by omega]
   rw[show(k+1)*20=k*20+20 by omega,←gk,c2,gk]
  ·constructor
   ·intro i hi
    rcases dn.1 hi with h|rfl
    ·rw[Zd8 (by rw[la]; omega)]
     have:=b9.perm i h
     rw[hs,Zd8 (by rw[la]; omega)]at this
     exact this
    ·rw[Zns la a0,←c8]; exact hp
   ·intro i hi
    rcases dn.1 hi with h|rfl
    ·rw[Zd8 (by rw[la]; omega)]
     have:=b9.sort i h
     rw[hs,Zd8 (by rw[la]; omega)]at this
     exact this
    ·rw[Zns la a0]; exact a5
 ·have hs:z=z.take (k*20)++z.drop (k*20)++ []:=by rw[dp,dc]
  have d5:(z.drop (k*20)).length=z0.length - k*20:=by rw[dh,c9]
  rw[hs]at b7
  refine SE.Zj.go (Zgx hO (A:=z.take (k*20)) (M0:=z.drop (k*20)) (B:=[]) (hc.but b1) hd (by rw[←hs,c9]; exact a7) oM b7 (by rw[la]) (by rw[la,d5]; omega) (by rw[c2]; exact hz.sublist (ib _ _)) λw2 M b2 hp a5 b8=>⟨rfl,?_⟩)
  have a0:M.length=z0.length - k*20:=by rw[hp.length_eq,d5]
  rw[dp]at b8
  have d4: ∀j,Chunks c 20 (z.take (k*20)++M) z0 j:=λj=>by
   have c8:sg z (k*20) 20=z.drop (k*20):=by unfold sg; rw[dg oM]
   have d6:sg z0 (k*20) 20=z0.drop (k*20):=by unfold sg; rw[dg (by rw[dh]; omega)]
   constructor
   ·intro i _
    rcases jm i k with h|rfl|h
    ·have:=b9.perm i h
     rw[hs,Zd8 (by rw[la]; omega)]at this
     rw[←dp (z.take (k*20)++M),Zd8 (by rw[la]; omega)]
     exact this
    ·rw[Znr la oM,d6,←c2]; exact hp
    ·have:k+1≤i:=h
     rw[Zih (by rw[br,la]; omega),Zih oM]
   ·intro i _
    rcases jm i k with h|rfl|h
    ·have:=b9.sort i h
     rw[hs,Zd8 (by rw[la]; omega)]at this
     rw[←dp (z.take (k*20)++M),Zd8 (by rw[la]; omega)]
     exact this
    ·rw[Znr la oM]; exact a5
    ·have:k+1≤i:=h
     rw[Zih (by rw[br,la]; omega)]
     exact .nil
  have d9:(z.take (k*20)++M).length=z0.length:=by rw[br,la]; omega
  generalize z.take (k*20)++M=z1 at*
  have e3:=b1.trans b2
  clear hp a5 a0
  refine⟨λbs w'=>∃(s:Nat) (z:List El),bs=(s:Int)∧0<s∧s<2*z0.length+40∧z.length=z0.length∧(∀j,Chunks c s z z0 j)∧But g w w'∧RowB fc w' g z tail,λbs _=>2*z0.length+40 - bs.toNat,⟨20,z1,rfl,oM,oM,d9,d4,e3,b8⟩,?_⟩
  rintro _ w3 ⟨s,z2,rfl,f6,f7,e1,a6,b3,d2⟩
  refine⟨λf4=>?_,λf1=>?_⟩
  ·have f8:s<z0.length:=oM
   rw[Zc (x:=2*(s:Int)) oM oM]
   refine⟨λa b w'=>∃(k:Nat) (z:List El),a=((k*(2*s):Nat):Int)∧b=((k*(2*s)+2*s:Nat):Int)∧k*(2*s)≤z0.length∧z.length=z0.length∧z.drop (k*(2*s))=z2.drop (k*(2*s))∧Chunks c (2*s) z z0 k∧But g w w'∧RowB fc w' g z tail,
    λa _ _=>z0.length - a.toNat,⟨0,z2,by simp,by simp,oM,e1,by simp,⟨λi h=>by omega,λi h=>by omega⟩,b3,d2⟩,?_⟩
   rintro _ _ w4 ⟨k,z,rfl,rfl,hk,a8,b0,c5,b4,a9⟩
   generalize hK:k*(2*s)=K at*
   have a4:(z.take K).length=K:=by rw[cd]; omega
   have d0:2*k*s=K:=by rw[←hK,Nat.mul_comm 2 k,Nat.mul_assoc]
   have d1:(2*k+1)*s=K+s:=by rw[gh,d0,kn]
   have p1:=(a6 (2*k+2)).perm (2*k) oM; have p2:=(a6 (2*k+2)).perm (2*k+1) oM
   have s1:=(a6 (2*k+2)).sort (2*k) oM; have s2:=(a6 (2*k+2)).sort (2*k+1) oM
   rw[d0]at p1 s1; rw[d1]at p2 s2
   have g1:sg z K s=sg z2 K s:=by unfold sg; rw[b0]
   have g2:sg z (K+s) s=sg z2 (K+s) s:=by unfold sg; rw[←gk,b0,gk]
   rw[←g1]at p1 s1; rw[←g2]at p2 s2
   have c6: ∀x∈sg z K s,∀y∈sg z (K+s) s,x.2<y.2:=λx hx y hy=>ids hz nR x (p1.mem_iff.1 hx) y (p2.mem_iff.1 hy)
   have e2:Za ((K:Int)+(s:Int))=((K+s:Nat):Int):=by rw[Zc oM oM]; omega
   have grow: ∀(z' M B:List El) (m:Nat),z'=z.take K++M++B→M.length=m→M.Perm (sg z K s++sg z (K+s) s)→M.Pairwise (Ah c)→(m=2*s∨B= [])→m≤2*s→Chunks c (2*s) z' z0 (k+1):=λz' M B m d8 hm hp a5 e6 f5=>by
    have e:sg z' K (2*s)=M:=by
     subst d8
     rcases e6 with h|h
     ·exact Zns a4 oM
     ·subst h; rw[dp]; exact Znr a4 oM
    have e0:sg z0 K (2*s)=sg z0 K s++sg z0 (K+s) s:=by rw[show 2*s=s+s by omega,Zrm]
    have el: ∀i,i<k→sg z' (i*(2*s)) (2*s)=sg z (i*(2*s)) (2*s):=λi h=>by
     have c3:i*(2*s)+2*s≤K:=by
      have:=fb (2*s) (show i+1≤k from h)
      rw[gh,hK,kn]at this; exact this
     have h1:sg z (i*(2*s)) (2*s)=sg (z.take K) (i*(2*s)) (2*s):=by
      conv=>lhs; rw[show z=z.take K++z.drop K++ [] by rw[dp,dc]]
      exact Zd8 (by rw[a4]; exact c3)
     rw[h1,d8,Zd8 (by rw[a4]; exact c3)]
    constructor
    ·intro i hi
     rcases dn.1 hi with h|rfl
     ·rw[el i h]; exact c5.perm i h
     ·rw[hK,e,e0]; exact hp.trans (p1.append p2)
    ·intro i hi
     rcases dn.1 hi with h|rfl
     ·rw[el i h]; exact c5.sort i h
     ·rw[hK,e]; exact a5
   refine⟨λc3=>?_,λe9=>?_⟩
   ·have b6:z=z.take K++sg z K s++sg z (K+s) s++z.drop (K+2*s):=by
     have:=Zou z K (2*s)
     rw[show 2*s=s+s by omega,Zrm]at this
     rw[show 2*s=s+s by omega]
     simpa only[cc]using this
    have l1:(sg z K s).length=s:=Zn5 oM
    have l2:(sg z (K+s) s).length=s:=Zn5 oM
    rw[e2]
    rw[b6]at a9
    refine SE.Zq.go (Zej hO hd oM _ (P:=z.take K) (L:=sg z K s) (X:=sg z (K+s) s) (Q:=z.drop (K+2*s)) nR (hc.but b4) (by rw[←b6,a8]; exact a7) a9 (by rw[a4]) (by rw[a4,l1]) (by rw[a4,l1,l2]; omega) oM oM s1 s2 c6 λw5 M b5 hp a5 c7=>⟨rfl,?_⟩)
    have a0:M.length=2*s:=by rw[hp.length_eq,br]; omega
    rw[Zc oM oM]
    have d3:(k+1)*(2*s)=K+2*s:=by rw[gh,hK,kn]
    refine⟨⟨k+1,z.take K++M++z.drop (K+2*s),oM,oM,oM,?_,?_,grow _ M _ (2*s) rfl a0 hp a5 (.inl rfl) nR,b4.trans b5,c7⟩,by show _ - Int.toNat _<_ - Int.toNat _; omega⟩
    ·simp only[br,dh,a4,a0]; omega
    ·rw[d3,mj (by rw[br,a4,a0]),←gk,b0,gk]
   ·refine join.named λJ hJ=>?_
    have kJ: ∀w' z',But g w w'→z'.length=z0.length→Chunks c (2*s) z' z0 (k+1)→RowB fc w' g z' tail→J w':=λw' z' b' e5 c4 e4=>by
     subst hJ
     have e:Za ((s:Int)*2)=((2*s:Nat):Int):=by rw[Zc oM oM]; omega
     rw[e]
     have d3:(k+1)*(2*s)=K+2*s:=by rw[gh,hK,kn]
     refine⟨⟨2*s,z',rfl,oM,oM,e5,λj=>⟨λi _=> ?_,λi _=> ?_⟩,b',e4⟩,by show _ - Int.toNat _<_ - Int.toNat _; omega⟩
     ·by_cases h:i<k+1
      ·exact c4.perm i h
      ·have:=fb (2*s) (show k+1≤i by omega)
       rw[Zih oM,Zih oM]
     ·by_cases h:i<k+1
      ·exact c4.sort i h
      ·have:=fb (2*s) (show k+1≤i by omega)
       rw[Zih oM]
       exact .nil
    rw[e2]
    have c1:z.drop K=sg z K s++sg z (K+s) s:=by
     rw[←Zrm]; unfold sg; rw[dg (by rw[dh]; omega)]
    refine⟨λf0=>?_,λe8=>?_⟩
    ·have b6:z=z.take K++sg z K s++sg z (K+s) s++ []:=by
      rw[dp,cc,←c1,dc]
     have l1:(sg z K s).length=s:=Zn5 oM
     have l2:(sg z K s).length+(sg z (K+s) s).length=z0.length - K:=by rw[←br,←c1,dh,a8]
     rw[b6]at a9
     refine SE.Zq.go (Zej hO hd oM _ (P:=z.take K) (L:=sg z K s) (X:=sg z (K+s) s) (Q:=[]) nR (hc.but b4) (by rw[←b6,a8]; exact a7) a9 (by rw[a4]) (by rw[a4,l1]) (by rw[a4]; omega) oM oM s1 s2 c6 λw5 M b5 hp a5 c7=>⟨rfl,?_⟩)
     have a0:M.length=z0.length - K:=by rw[hp.length_eq,br]; exact l2
     exact kJ w5 _ (b4.trans b5) (by simp only[br,fa,a4,a0]; omega) (grow _ M [] _ rfl a0 hp a5 (.inr rfl) oM) c7
    ·have e0:sg z (K+s) s= []:=Zih oM
     refine kJ w4 z b4 a8 (grow z (z.drop K) [] _ (by rw[dp,dc]) rfl (by rw[c1]) ?_ (.inr rfl) (by rw[dh]; omega)) a9
     rw[c1,e0,dp]; exact s1
  ·have e:sg z2 (0*s) s=z2:=by rw[jg]; unfold sg; rw[gz,dg oM]
   have e0:sg z0 (0*s) s=z0:=by rw[jg]; unfold sg; rw[gz,dg oM]
   have p:=(a6 1).perm 0 oM; have so:=(a6 1).sort 0 oM
   rw[e]at p so
   rw[e0]at p
   exact hR w3 z2 b3 p so d2
theorem sortStable_se(hO:Ord3 c){l:List WantC}(hd:data.a=some ⟨g,0,none⟩)(a5:data.len<2305843009213693952)(hc:CmpOk cmp c g w)(a0:data.len=l.length)(hB:RowB cells w g l tail)
  (hR: ∀w',But g w w'→RowB cells w' g (Zdr c l) tail→R w'):SE.Zi data cmp w R:=by
 unfold SE.Zi
 have a6:RowB fc w g (nums 0 l) tail:=by
  unfold RowB at hB ⊢
  have:(nums 0 l).map fc=l.map cells:=by
   have h:=congrArg (List.map cells) (Zos 0 l)
   rw[gc]at h; exact h
  rw[this]; exact hB
 refine SE.Z2.go (Zp7 hO hd a5 hc (by rw[Zot]; exact a0) (by rw[Zot,a0]) a6 (Zmh 0 l) λw2 M b2 hp hs a4=>⟨rfl,hR w2 b2 ?_⟩)
 have e:=Zu0 hO hp hs
 unfold RowB at a4 ⊢
 have:M.map fc=(Zdr c l).map cells:=by rw[←e,gc]; rfl
 rw[←this]; exact a4
theorem sortStable_nil(h0:data.len=0)(hR:R w):SE.Zi data cmp w R:=by
 unfold SE.Zi
 rw[h0]
 refine SE.Z2.go ?_
 unfold SE.Z2
 refine⟨λa b w'=>a=0∧b=20∧w'=w,λ_ _ _=>0,⟨rfl,rfl,rfl⟩,?_⟩
 rintro _ _ w1 ⟨rfl,rfl,a0⟩
 subst a0
 refine⟨λh=>by simp at h,λ_=>SE.Zj.go ?_⟩
 unfold SE.Zj
 refine⟨λa w'=>a=1∧w'=w1,λ_ _=>0,⟨by decide,rfl⟩,?_⟩
 rintro _ w2 ⟨rfl,a4⟩
 subst a4
 refine⟨λh=>by simp at h,λ_=>⟨rfl,?_⟩⟩
 refine⟨λa w'=>a=20∧w'=w2,λ_ _=>0,⟨rfl,rfl⟩,?_⟩
 rintro _ w3 ⟨rfl,a5⟩
 subst a5
 exact⟨λh=>by simp at h,λ_=>⟨rfl,hR⟩⟩
end
end StW
end Go.Hal
namespace Go.Hal
theorem Zmg{x:Pack}(h:Zbb x=true):Zn x.name=true∧x.v.may=true∧Zs x.deps=true∧Zs x.peers=true∧Zs x.opt=true:=by
 unfold Zbb Zdk at h
 simp only[bx]at h
 exact⟨h.1.1.1.1.1,h.1.1.1.1.2,h.1.1.1.2,h.1.1.2,h.1.2⟩
theorem Zwg(over l:List Dep):(Zc5 over l).map (·.name)=l.map (·.name):=by unfold Zc5; rw[gc]; rfl
theorem Ztf(hg:GoodL L){over:List Dep}{p:Pin}{out:List Pin}(h:CtxI (getL L) over env p i out):out.length≤2048:=by
 have h1:=Zor (m:=L.flatMap λx=>x.peers.map (·.name)) h.names λn hn=>by
  obtain⟨r,hr,rfl⟩:=fh.1 hn
  have key: ∀r,Reach (getL L) over env p r→r.name∈L.flatMap λx=>x.peers.map (·.name):=λr hr=>by
   have ask: ∀q r,Asks (getL L) over env q r→r.name∈L.flatMap λx=>x.peers.map (·.name):=λq r ⟨x,d,hx,hd,hn,_⟩=>by
    refine List.mem_flatMap.2 ⟨x,(Zhy hx).1,?_⟩
    rw[←Zwg over,hn]
    exact fp hd
   cases hr with
   |one ha=>exact ask _ _ ha
   |more _ ha=>exact ask _ _ ha
  exact key r (h.reach r hr)
 have h2: ∀L:List Pack,(∀x∈L,Zbb x=true)→(L.flatMap λx=>x.peers.map (·.name)).length≤16*L.length:=λL=>by
  induction L with
  |nil=>intro _; simp
  |cons x r ih=>
   intro h
   have:=ih λy hy=>h y (.tail _ hy)
   have:=(Zr (Zmg (h x (.head _))).2.2.2.1).1
   simp only[List.flatMap_cons,br,cm,dq]; omega
 have h3:=h2 L hg.may
 have:=hg.le
 rw[cm]at h1
 omega
def pinC(p:Pin):List Value:=[.string p.name,.int .i64 p.v.ma,.int .i64 p.v.mi,.int .i64 p.v.pa]
def Apart(s t:Sl):Prop:=∀ad ad',s.a=some ad→t.a=some ad'→ad.block≠ad'.block
theorem OwnS.pushA{α β:Type}{E:Enc α}{F:Enc β}{P:Program}{e e2:TypeId}{s2:Sl}{l:List α}{l2:List β}{x:α}{a:Addr}{k:Sl→World→Prop}(h:OwnS E e w lo None' s l)(h2:OwnS F e2 w lo None' s2 l2)(hA:Apart s s2)(a7:lo≤w.heap.size)(hT:ApT P t e E.n E.bytes)
  (hx:E.rep w None' x cs) (hc:ldc w a cs) (hb:(l.length+1)*E.bytes≤room) (hm:l.length+1≤maxLen) (hk: ∀r w',OwnS E e w' lo None' r (l++ [x])→OwnS F e2 w' lo None' s2 l2→Apart r s2→Below lo w w'→(∀b,b<w.heap.size→(∀ad,s.a=some ad→b≠ad.block)→w'.heap[b]? =w.heap[b]?)→(∀ad,r.a=some ad→(s.a=some ad∨w.heap.size≤ad.block))→k r w'):appS P t t s (Sl.v ⟨some a,1,1⟩) w k:=by
 refine h.push hT a7 hx hc (λ_ h=>h.elim) (λ_ _ h=>h.elim) hb hm λr w' own bel oth a4=>hk r w' (own.mono (λ_ h=>h.elim id id) (λ_ h=>h.elim) (λ_ _ h=>h.elim)) (h2.keep bel.size λb a6 a0=>?_) (λad a5 h3 h4=>?_) bel oth a4
 ·rcases a0 with a0|⟨ad,ha,rfl⟩
  ·exact a0.elim
  ·exact oth _ a6 λa5 h'=>Ne.symm (hA _ _ h' ha)
 ·rcases a4 ad h3 with h5|h5
  ·exact hA _ _ h5 h4
  ·have:=(h2.block h4).2.1; omega
theorem Apart.swap{t:Sl}(h:Apart s t):Apart t s:=λa b h1 h2=>Ne.symm (h b a h2 h1)
theorem newS.own{α:Type}{E:Enc α}{x:α}{k:Addr→World→Prop}(hx:E.rep w None' x cs)(h: ∀a w',Ext w w'→OwnS E t w' w.heap.size None' ⟨some a,1,1⟩ [x]→a.block=w.heap.size→k a w'):newS w cs t k:=λa w' ha hw=>by
 subst ha hw
 have hl:=E.len hx
 refine h _ _ (Ext.alloc _ _) ⟨⟨[cs],⟨by simp[hl],.inr ⟨w.heap.size,1,cs.toArray,rfl,df _,heap_alloc_new w _,df _,by rw[Zd]; omega,by simp[hl],?_⟩⟩,rfl,λi y hy=>?_⟩,rfl,λ_ h=>h.elim,λ_ _ h=>h.elim⟩ rfl
 ·simp[hl,dg (mr hl)]
 ·cases i with
  |zero=>
   simp only[gl,cw]at hy
   subst hy
   exact⟨cs,rfl,E.keep hx ((Ext.alloc w _).keep _)⟩
  |succ i=>simp at hy
theorem Zz7:ApT prog 73 111 4 40:=Zhv (z:=.agg #[.string ⟨#[]⟩,.int .i64 0,.int .i64 0,.int .i64 0]) kR kR rfl dC
theorem Z3y{q:Pin}{R:Bool→World→Prop}(hc:BoxAt w c0 [.string n])(hR: ∀w',Ext w w'→R (isN n q) w'):SE.Zec q.name q.v.ma q.v.mi q.v.pa c0 w R:=by
 unfold SE.Zec
 refine newS.intro λa w1 x1 hb _ _=>⟨_,hb.at0 xR rfl,n,hc.at0 (r:=[]) x1 rfl,?_⟩
 have e:bEq q.name n=isN n q:=by
  unfold isN
  rw[ep,Zap,decide_eq_true_eq]
 rw[e]; exact hR _ x1
theorem Ztp:Zfj prog 310:=enters_of func310 kR rfl
theorem ctx1_se{R:Value→World→Prop}(hR: ∀f w',Ext w w'→(∀l:List Pin,Zve f (λx=>.agg #[.string x.name,.int .i64 x.v.ma,.int .i64 x.v.mi,.int .i64 x.v.pa]) (isN n) l w')→R f w'):SE.Zeb n w R:=by
 unfold SE.Zeb
 refine newS.intro λa w1 x1 hb _ _=>hR _ w1 x1 λl x _ w' k hx hk=>⟨_,_,rfl,Ztp,SE.Zec.go (Z3y (q:=x) (n:=n) (hb.ext hx) hk)⟩
theorem Z7i{a b:Pin}{R:Int→World→Prop}(hR: ∀w',Gr w w'→R (cmpS a.name b.name) w'):SE.Zfa a.name a.v.ma a.v.mi a.v.pa b.name b.v.ma b.v.mi b.v.pa w R:=by
 unfold SE.Zfa
 refine newS.gr λ_ w1 x1 hb=>newS.gr λ_ w2 x2 a0=>⟨_,Gr.at0 hb x2 rfl,_,Gr.at0 a0 (Gr.refl _) rfl,Zjw ⟨_,rfl,hR _ (x1.trans x2)⟩⟩
theorem Zym:Zfj prog 312:=enters_of func312 kR rfl
theorem Z6s: ∀w,(isAgg 111).run prog w= .ok true w:=λw=>by kernel_rfl
theorem Z2j: ∀w,(Go.sizeOf 111).run prog w= .ok 4 w:=λw=>by kernel_rfl
theorem Zzl{K:Value→World→Prop}(h:FlatO pinC 40 w lo s l)(a4:lo≤w.heap.size)(hn:(l.map (·.name)).Nodup)
  (hK: ∀w',Below lo w w'→FlatO pinC 40 w' lo s (Zi8 l)→K (.tuple #[]) w'):
  callS prog 139 [Sl.v s,.func (.func 312) #[] #[]] w K:=by
 obtain⟨h1,h2,h3,h4,h5⟩:=h
 obtain⟨a,n,c⟩:=s
 simp only at h1 h2 h3 h5
 subst h1
 rcases h5 with rfl|⟨g,tail,ha,hg,hr⟩
 ·refine(AnyF.slices_SortFunc_none Tryz.laySp a c _ w).mono λe w' ⟨he,hw⟩=>⟨_,he,?_⟩
  subst hw
  exact hK _ (Below.refl _ _) ⟨rfl,h2,h3,h4,.inl rfl⟩
 ·subst ha
  have hO:=Zhf (α:=Pin) (·.name)
  refine Zgo Tryz.laySp (k:=4) Z6s Z2j (f:=pinC) (λ_=>rfl) (λx v hv=>by simp[pinC]at hv; rcases hv with rfl|rfl|rfl|rfl<;>rfl) (λa b=>cmpS a.name b.name) (Zjx hO.flip hO.trans) 312 #[] Zym (λw0 x y hb _=> ?_) hr (by unfold room at h4; omega) rfl λl' w' hp hs b a5=>?_
  ·have h:=SE.Zfa.go (k:=λv w'=>v= .int .i64 (cmpS x.name y.name)∧Gr w0 w') (Z7i (a:=x) (b:=y) (w:=w0) λw' h=>⟨rfl,h⟩)
   exact Calls.mono h λe w' ⟨v,he,hv,hg⟩=>⟨by rw[he,hv],hg⟩
  ·have e:l'=Zi8 l:=by
    refine Rises.one ?_ (Zlw hn) (hp.trans (Zes l).symm)
    have a0:(l'.map (·.name)).Nodup:=(hp.map _).nodup_iff.2 hn
    rw[fe,fy]at a0
    exact(hs.and a0).imp λ{a b} h=>Zs4 (by have:=hO.flip b a; have:=hO.flip a b; omega) h.2
   subst e
   have hl:=(Zes l).length_eq
   exact hK w' (b.below a4 hg) ⟨hl.symm,by rw[hl]; exact h2,h3,by rw[hl]; exact h4,.inr ⟨g,tail,rfl,hg,a5⟩⟩
theorem Zlh(h:SlR pinE w S s l){n:Nat}(hn:n<l.length):
  ∃ad,s.a=some ad∧S ad.block∧Str l[n].name∧ ∀w',Ext w w'→ldc w' (ad.add (n*4)) (pinC l[n]):=by
 obtain⟨ad,cs,h1,h2,⟨rfl,h3⟩,h4⟩:=h.el hn
 exact⟨ad,h1,h2,h3,h4⟩
theorem OwnS.el{α:Type}{E:Enc α}{T:TypeId}{l:List α}(h:OwnS E T w lo S s l){x:α}(hx:l[i]? =some x): ∃ad cs,s.a=some ad∧E.rep w S x cs∧ ∀w',Ext w w'→ldc w' (ad.add (i*E.n)) cs:=by
 obtain⟨css,ho,hl,hr⟩:=h.row
 obtain⟨cs,h1,h2⟩:=hr i x hx
 rcases ho.2 with⟨hv,hn⟩|⟨g,cap,a6,hv,hg,hh,hc,a7,a4,ht⟩
 ·have:=(ce.1 hx).1
  have:=h.len
  omega
 ·simp[Sl.v]at hv
  refine⟨⟨g,0,none⟩,cs,hv.1,h2,λw' a5=>?_⟩
  have a0: ∀cs∈css,cs.length=E.n:=by
   intro cs a4
   obtain⟨k,hk,he⟩:=cy.1 a4
   obtain⟨cs',h3,h4⟩:=hr k _ (bq oM)
   rw[bq hk,he,cw]at h3
   rw[h3]; exact E.len h4
  have:ldc w ((⟨g,0,none⟩:Addr).add (i*E.n)) cs:=λj v hj=>by
   rw[Zfq]
   exact ho.cells (g:=g) (by simp[Value.ownBlock,Sl.v,hv.1]) _ _ (Zjn a0 h1 hj)
  exact this.ext a5
theorem Z2v:(idxI (isN n) env<0∧tells env n=none)∨ ∃k,∃hk:k<env.length,idxI (isN n) env=(k:Int)∧tells env n=some env[k].v∧env[k].name=n:=by
 unfold idxI tells
 cases hf:env.findIdx? (isN n)with
 |none=>
  left
  refine⟨by decide,?_⟩
  rw[Option.map_eq_none_iff,gn]
  intro x hx
  have:=je.1 hf x hx
  simp[this]
 |some k=>
  right
  obtain⟨hk,hp,hb⟩:=ie.1 hf
  refine⟨k,hk,rfl,?_,by simpa[isN]using hp⟩
  have h0:(env.take k).find? (isN n)=none:=by
   rw[gn]
   intro x hx
   obtain⟨j,hj,rfl⟩:=cy.1 hx
   rw[cd]at hj
   rw[fm]
   exact hb j oM
  have h1:(env.take (k+1)).find? (isN n)=some env[k]:=by
   rw[bu hk,ly,h0]
   simp[List.find?_cons,hp]
  have h2:env.find? (isN n)=some env[k]:=by
   have e:env.find? (isN n)=(env.take (k+1)++env.drop (k+1)).find? (isN n):=by rw[dc]
   rw[e,ly,h1]; rfl
  rw[h2]; rfl
def Ze3(L:List Pack)(over:List Dep)(env:List Pin)(p:Pin):Option (List Pin):=ctx (getL L) over env p
def Kp(lo c d:Nat)(w w':World):Prop:=Below lo w w'∧ ∀b,c≤b→b<d→w'.heap[b]? =w.heap[b]?
theorem Kp.refl(lo c d:Nat)(w:World):Kp lo c d w w:=⟨Below.refl _ _,λ_ _ _=>rfl⟩
theorem Kp.trans{c d:Nat}{u v:World}(h:Kp lo c d u v)(k:Kp lo c d v w):Kp lo c d u w:=⟨Below.trans h.1 k.1,λb h1 h2=>(k.2 b h1 h2).trans (h.2 b h1 h2)⟩
theorem Kp.ext{c d:Nat}{u v:World}(h:Kp lo c d u v)(hx:Ext v w)(h1:lo≤v.heap.size)(h2:d≤v.heap.size):Kp lo c d u w:=h.trans ⟨Below.mono hx h1,λb _ h3=>hx.block oM⟩
theorem Zqd{mD envS:Sl}{over:List Dep}{pn:Pin}{S3:Nat→Prop}{R:Sl→Bool→World→Prop}
  (hC:CatL w S p r L) (n9:Old S2 w) (u9:Old S3 w) (hO:SlR depE w S2 mOv over) (hE:SlR pinE w S3 envS env) (j3:Str pn.name)
  (g5: ∀a t w',Ze3 L over env pn=some a→Ext w w'→FlatO pinC 40 w' w.heap.size t a→(∀q∈a,Str q.name)→R t true w') (c3: ∀w',Ze3 L over env pn=none→Ext w w'→R Sl.nil false w'):
  SE.Zgb (some p) mD mDev mOpt mOv envS pn.name pn.v.ma pn.v.mi pn.v.pa w R:=by
 unfold SE.Zgb
 have d3:=hC.good
 refine newS.intro λa w1 x1 ha _ _=>newS.intro λa1 w2 x2 o5 _ _=>⟨nO,λ_=> ?_⟩
 have l7:=x1.trans x2
 have f1:pinE.bytes=40:=rfl
 have u7:=hE.len
 have r0:=l7.size
 have a0: ∀w',Below w2.heap.size w2 w'→Ext w w':=λw' hb=>l7.trans' (Below.mono hb r0)
 have h6:=ha.ext x2
 refine⟨_,_,_,_,o5.ldc.pre (r:=[]) rfl,newS.own (E:=pinE) (x:=pn) ⟨rfl,j3⟩ λa3 w4 x4 k4 u2=>?_⟩
 refine loop3.ghost (λn all d7 i w'=>∃(out:List Pin) (k:Nat),i=(k:Int)∧n=env.length+2 - k∧CtxI (getL L) over env pn k out∧Zj8 (getL L) over env pn (env.length+2 - k) k out=Zj8 (getL L) over env pn (env.length+2) 0 []∧(∀q∈pn::out,Str q.name)∧
   Below w2.heap.size w2 w'∧OwnS pinE 111 w' w2.heap.size None' all (pn::out)∧OwnS pinE 111 w' w2.heap.size None' d7 out∧Apart d7 all) (env.length+2)
  ⟨[],0,rfl,rfl,CtxI.zero,rfl,by simpa using j3,x4,k4,(OwnS.nil _ _).mono (λ_ h=>h) (λ_ h=>h.elim) (λ_ h=>by cases h),λ_ _ h=>by cases h⟩ λn all d7 i w5 x3 hJ hn=>?_
 obtain⟨out,k,rfl,rfl,hI,b9,c8,b5,oA,oC,n4⟩:=hJ
 have n3:=oA.len
 have u6:=oC.len
 have v7:=hI.le
 have t1:=hI.len
 have v2:=Ztf d3 hI
 have s5:=b5.size
 refine⟨λv8=>join.named λJ hJ=>?_,λv4=>?_⟩
 ·have hk:k<(pn::out).length:=oM
  have v5:k<out.length+1:=hk
  have d4:(pn::out)[k]? =some (pn::out)[k]:=bq hk
  have x0:Str (pn::out)[k].name:=c8 _ (cj hk)
  generalize hq:(pn::out)[k]=q at*
  have hf:env.length+2 - k=(env.length+1 - k)+1:=oM
  have kJ: ∀a6 w6 d e o,Ext w5 w6→BoxAt w6 a6 [.string (getD L q.name q.v).name,.int .i64 (getD L q.name q.v).v.ma,.int .i64 (getD L q.name q.v).v.mi,.int .i64 (getD L q.name q.v).v.pa,Sl.v d,Sl.v e,Sl.v o]→
    SlR depE w6 (λb=>b<w6.heap.size) e (getD L q.name q.v).peers→J a6 (getL L q.name q.v).isSome w6:=λa6 w6 d e o x6 i0 he=>by
   subst hJ
   have b6:Below w2.heap.size w2 w6:=Below.trans b5 (Below.mono x6 s5)
   have s6:=b6.size
   have x5:=x6.size
   refine⟨λh=>?_,λh=>?_⟩
   ·refine c3 w6 ?_ (a0 _ b6)
    have hg:getL L q.name q.v=none:=by
     cases hg:getL L q.name q.v with
     |none=>rfl
     |some y=>rw[hg]at h; simp at h
    rw[hf,Zyh d4 hg]at b9
    unfold Ze3 ctx
    rw[←b9]; rfl
   ·obtain⟨y,hg⟩: ∃y,getL L q.name q.v=some y:=by
     cases hg:getL L q.name q.v with
     |none=>rw[hg]at h; simp at h
     |some y=>exact⟨y,rfl⟩
    have hD:getD L q.name q.v=y:=by unfold getD; rw[hg]; rfl
    rw[hD]at i0 he
    have p6:=(Zhy hg).1
    have o8:=Zr (Zmg (d3.may y p6)).2.2.2.1
    refine⟨_,_,_,_,_,_,_,i0.ldc.pre (r:=[]) rfl,mD,mDev,mOpt,mOv,(h6.below b6 h6.lt).ldc.pre (r:=[]) rfl,?_⟩
    have f7:Old (λb=>b<w6.heap.size) w6:=λb hb=>hb
    have n8:SlR depE w6 (λb=>b<w6.heap.size) mOv over:=(hO.ext (a0 _ b6)).mono λb hb=>iv (n9 b hb) (a0 _ b6).size
    refine SE.Zia.go (wantsPeers_se f7 n8 he λt w7 x7 ht=>⟨_,rfl,?_⟩)
    have b7:Below w2.heap.size w2 w7:=Below.trans b6 (Below.mono x7 s6)
    have s7:=x7.size
    have hT:=ht.dep
    have v0:=hT.len
    have w3:(Zc5 over y.peers).length≤16:=by unfold Zc5; rw[cm]; exact o8.1
    have g2: ∀c5,Zcl env (Zc5 over y.peers) out=some c5→CtxI (getL L) over env pn (k+1) c5∧Zj8 (getL L) over env pn (env.length+2 - (k+1)) (k+1) c5=Zj8 (getL L) over env pn (env.length+2) 0 []:=λc5 hs=>by
     refine⟨hI.next d4 hg hs,?_⟩
     rw[←b9,hf,Zyg d4 hg hs,show env.length+2 - (k+1)=env.length+1 - k by omega]
    have d2:Zcl env (Zc5 over y.peers) out=none→Ze3 L over env pn=none:=λhs=>by
     rw[hf,Zyf d4 hg hs]at b9
     unfold Ze3 ctx
     rw[←b9]; rfl
    generalize hP:Zc5 over y.peers=P at*
    have p9:=oA.ext (x6.trans x7)
    have q0:=oC.ext (x6.trans x7)
    refine loop3.ghost (λn2 c4 a9 j w'=>∃(o2:List Pin) (m:Nat),j=(m:Int)∧n2=P.length - m∧m≤P.length∧Zcl env (P.drop m) o2=Zcl env P out∧o2.length≤out.length+m∧(∀q∈pn::o2,Str q.name)∧
     Kp w2.heap.size w6.heap.size w7.heap.size w7 w'∧OwnS pinE 111 w' w2.heap.size None' c4 (pn::o2)∧OwnS pinE 111 w' w2.heap.size None' a9 o2∧Apart a9 c4∧
     (∀ad,c4.a=some ad→ad.block<w6.heap.size∨w7.heap.size≤ad.block)∧ ∀ad,a9.a=some ad→ad.block<w6.heap.size∨w7.heap.size≤ad.block) P.length
     ⟨out,0,rfl,rfl,eh _,rfl,oM,c8,Kp.refl _ _ _ _,p9,q0,n4,λad h=>.inl (by have:=(oA.block h).2.1; omega),λad h=>.inl (by have:=(oC.block h).2.1; omega)⟩ λn2 c4 a9 j w8 j6 d8 p0=>?_
    obtain⟨o2,m,rfl,rfl,hm,a4,v9,a7,k8,g7,e1,c7,g3,g4⟩:=d8
    have b8:Below w2.heap.size w2 w8:=Below.trans b7 k8.1
    have s8:=k8.1.size
    have o4:SlR depE w8 (λb=>w6.heap.size≤b∧b<w7.heap.size) t P:=hT.keep λb hb _=>k8.2 b hb.1 hb.2
    refine⟨λi9=>join.named λJ2 d8=>?_,λs9=>?_⟩
    ·have e0:m<P.length:=oM
     obtain⟨ad,tr,p4,_,p1,p3,o7⟩:=Zhw o4 e0
     have f9:P.drop m=P[m]::P.drop (m+1):=dm e0
     generalize v3:P[m]=d1 at*
     rw[f9]at a4
     have j5: ∀a8 b0 o3 w9,Zcl env (P.drop (m+1)) o3=Zcl env P out→o3.length≤out.length+(m+1)→(∀q∈pn::o3,Str q.name)→Kp w2.heap.size w6.heap.size w7.heap.size w7 w9→OwnS pinE 111 w9 w2.heap.size None' a8 (pn::o3)→OwnS pinE 111 w9 w2.heap.size None' b0 o3→Apart b0 a8→
       (∀ad,a8.a=some ad→ad.block<w6.heap.size∨w7.heap.size≤ad.block)→(∀ad,b0.a=some ad→ad.block<w6.heap.size∨w7.heap.size≤ad.block)→J2 a8 b0 w9:=λa8 b0 o3 w9 q1 q2 q3 q4 q5 q6 q7 q8 q9=>by
      subst d8
      show j6 _ _ _ _
      rw[Zc oM oM]
      exact p0 _ _ _ _ _ oM ⟨o3,m+1,oM,rfl,oM,q1,q2,q3,q4,q5,q6,q7,q8,q9⟩
     clear d8
     refine⟨ad,⟨p4,oM,i9⟩,_,tr,o7 _ xR,newS.intro λt8 w9 x9 o6 u5 _=>stw0.intro o6 sI λr3 m8 _ e4=>⟨_,e4.ldc.pre rfl,?_⟩⟩
     have m5:Ext w8 r3:=m8.ext x9 oM
     refine SE.Zeb.go (ctx1_se λf y0 l8 o0=>⟨_,rfl,?_⟩)
     have e7:=m5.trans l8
     have n5:=hE.ext (a0 _ b8)
     refine SE.Zad.go (idxPin_se (p:=isN d1.name) (n5.ext e7) (o0 env) λy1 l9=>⟨_,rfl,bnd.drew λk5 m0=>bound ?_⟩)
     have d5:=e7.trans (l9.trans m0)
     have h5:Below w2.heap.size w2 k5:=Below.trans b8 (Below.mono d5 oM)
     have e5:=e4.ext (l8.trans (l9.trans m0))
     rcases Z2v (env:=env) (n:=d1.name)with⟨j0,p5⟩|⟨kk,o9,i5,g6,i6⟩
     ·have d0:decide (idxI (isN d1.name) env<0)=true:=by simpa using j0
      rw[d0]
      refine⟨Sl.nil,nO,⟨0,0,none⟩,nO,0,0,0,nO,nO,λ_=>⟨λ_=> ?_,nO⟩⟩
      refine c3 k5 (d2 ?_) (a0 _ h5)
      rw[←a4]; exact Zte p5
     ·rw[i5]
      have d0:decide ((kk:Int)<0)=false:=by simp
      rw[d0]
      obtain⟨ae,g0,s4,_,g1⟩:=Zlh hE o9
      refine⟨tr,λ_=>e5.at1 (k:=1) xR rfl,ae,λ_=>⟨g0,oM,oM⟩,_,_,_,λ_=>(g1 _ (a0 _ h5)).mid (k:=1) (r:=[]) rfl,gCall.named λJ3 n7=>⟨λ_=> ?_,nO⟩⟩
      refine SE.Zlx.go (Zp1 (v:=env[kk].v) (p3.ext d5) λr4 m1=>⟨_,rfl,?_⟩)
      have e8:=d5.trans m1
      subst n7
      refine⟨λh=>?_,λh=>?_⟩
      ·have d9:Zdp d1.range env[kk].v=false:=by simpa using h
       rw[Zyi g6 d9]at a4
       exact c3 r4 (d2 a4.symm) (a0 _ (Below.trans b8 (Below.mono e8 oM)))
      ·have d9:Zdp d1.range env[kk].v=true:=by simpa using h
       have j2:(⟨d1.name,env[kk].v⟩:Pin)=env[kk]:=by rw[←i6]
       have b3:Str env[kk].name:=by rw[i6]; exact p1
       refine⟨_,e5.at0 (r:=[Sl.v tr]) m1 rfl,SE.Zeb.go (ctx1_se λf2 r5 r9 o1=>⟨_,rfl,?_⟩)⟩
       have d6:=e8.trans r9
       have j9:=e1.ext d6
       have p2:SlR pinE r5 (λb=>True) a9 o2:=((j9.read (by rw[f1]; unfold room; omega) (by rw[Zd]; omega))).mono λ_ _=>trivial
       refine SE.Z0.go (Zta (p:=isN d1.name) p2 (o1 o2) λk6 m2=>⟨_,rfl,λh2=>?_,λh2=>?_⟩)
       ·have c9:o2.any (isN d1.name)=false:=by simpa using h2
        rw[Zvo g6 d9 c9,j2]at a4
        have a5:=d6.trans m2
        have m9:Below w2.heap.size w2 k6:=Below.trans b8 (Below.mono a5 oM)
        refine⟨ae,⟨g0,oM,oM⟩,_,_,_,_,g1 _ (a0 _ m9),newS.intro λt9 r6 s0 h8 _ _=> ?_⟩
        have b1:=a5.trans s0
        have t3:=b1.size
        refine OwnS.pushA (x:=env[kk]) (e1.ext b1) (g7.ext b1) c7 oM Zz7 ⟨rfl,b3⟩ h8.ldc (by rw[f1]; unfold room; omega) (by rw[Zd]; omega) λr1 k7 k0 j7 f4 b2 g8 h0=>?_
        have t4:=b2.size
        have n0:Below w2.heap.size w2 k7:=Below.trans (Below.trans b8 (Below.mono b1 oM)) b2
        refine⟨ae,⟨g0,oM,oM⟩,_,_,_,_,g1 _ (a0 _ n0),newS.intro λu0 r7 e2 h9 _ _=> ?_⟩
        have t5:=e2.size
        refine OwnS.pushA (x:=env[kk]) (j7.ext e2) (k0.ext e2) f4.swap oM Zz7 ⟨rfl,b3⟩ h9.ldc (by rw[f1,dq]; unfold room; omega) (by rw[Zd,dq]; omega) λr2 k9 j8 k3 f5 f0 g9 h3=>?_
        have f8: ∀q∈pn::(o2++ [env[kk]]),Str q.name:=λq hq=>by
         rcases du.1 hq with rfl|hq
         ·exact a7 _ (.head _)
         ·rcases dj.1 hq with hq|hq
          ·exact a7 _ (.tail _ hq)
          ·simp at hq; subst hq; exact b3
        have p7:Kp w2.heap.size w6.heap.size w7.heap.size r6 k7:=⟨b2,λb h1 h2=>g8 b oM λad b4=>by
         rintro rfl
         rcases g4 ad b4 with h|h<;>omega⟩
        have p8:Kp w2.heap.size w6.heap.size w7.heap.size r7 k9:=⟨f0,λb h1 h2=>g9 b oM λad b4=>by
         rintro rfl
         rcases g3 ad b4 with h|h<;>omega⟩
        refine j5 r2 r1 (o2++ [env[kk]]) k9 a4 (by simp; omega) f8 ((((k8.ext b1 oM oM).trans p7).ext e2 oM oM).trans p8) j8 k3 f5.swap (λad b4=>?_) (λad b4=>?_)
        ·rcases h3 ad b4 with h|h
         ·exact g3 ad h
         ·right; omega
        ·rcases h0 ad b4 with h|h
         ·exact g4 ad h
         ·right; omega
       ·have c9:o2.any (isN d1.name)=true:=by simpa using h2
        rw[Zvp g6 d9 c9]at a4
        have a5:=d6.trans m2
        exact j5 _ _ o2 k6 a4 oM a7 (k8.ext a5 oM oM) (g7.ext a5) (e1.ext a5) c7 g3 g4
    ·have e0:m=P.length:=oM
     subst e0
     rw[ix,Zcl]at a4
     obtain⟨c1,c2⟩:=g2 o2 a4.symm
     rw[Zc oM oM]
     exact hn _ _ _ _ _ oM ⟨o2,k+1,oM,rfl,c1,c2,a7,b8,g7,e1,c7⟩
  clear hJ
  refine bnd.drew λl0 c6=>?_
  obtain⟨aq,u1,h7,⟨i4,_⟩,i7⟩:=oA.el d4
  subst i4
  have e3:CatL l0 S p r L:=(hC.ext (a0 _ b5)).ext c6
  have x8:=c6.size
  refine⟨aq,⟨h7,oM,oM⟩,_,(i7 _ c6).pre rfl,aq,⟨h7,oM,oM⟩,_,_,_,(i7 _ c6).mid (k:=1) (r:=[]) rfl,?_,?_⟩
  ·refine SE.Zaq.go (Zke (n:=q.name) (v:=q.v) e3 λd e o r8 s1 _ _ he _=>⟨_,_,_,_,_,_,_,_,rfl,newS.intro λm6 y2 s2 i1 u3 _=>stw0.intro i1 sI λl5 n1 _ i2=>?_⟩)
   have h4:Ext r8 l5:=n1.ext s2 oM
   have t6:=h4.size
   exact kJ m6 l5 d e o (c6.trans (s1.trans h4)) i2 ((he.dep.ext h4).mono λb hb=>by omega)
  ·refine newS.intro λm7 y3 m3 e6 u4 _=>SE.Zaq.go (Zke (n:=q.name) (v:=q.v) (e3.ext m3) λd e o y4 m4 _ _ he _=>⟨_,_,_,_,_,_,_,_,rfl,stw0.intro (e6.ext m4) sI λl6 e9 _ i3=>?_⟩)
   have s3:Ext l0 l6:=e9.ext (m3.trans m4) oM
   have t7:=e9.1
   have t0:=e6.lt
   exact kJ m7 l6 d e o (c6.trans s3) i3 ((he.dep.but e9 (λhb=>by omega)).mono λb hb=>by omega)
 ·have v6:k=out.length+1:=by simp at n3; omega
  have j4:Ze3 L over env pn=some (Zi8 out):=by
   have hf:env.length+2 - k=(env.length+1 - k)+1:=oM
   have j1:(pn::out)[k]? =none:=List.getElem?_eq_none_iff.2 (by simp; omega)
   rw[hf,Z0j j1]at b9
   unfold Ze3 ctx
   rw[←b9]; rfl
  have hF:FlatO pinC 40 w5 w2.heap.size d7 out:=FlatO.of (E:=pinE) (f:=pinC) (bytes:=40) (λx cs h=>h.1) oC (by unfold room; omega)
  refine Zzl hF s5 hI.names λw6 b6 f6=>⟨rfl,?_⟩
  refine SE.Zea.go ⟨Z0i (by have:=f6.1; have:=f6.2.1; omega),_,rfl,g5 (Zi8 out) _ w6 j4 (a0 _ (Below.trans b5 b6)) ?_ λq hq=>c8 q (.tail _ ((Zes out).mem_iff.1 hq))⟩
  obtain⟨a,b,c,d,e⟩:=f6.clip (k:=4)
  exact⟨a,b,c,d,e.imp id λ⟨g,tail,a,b,c⟩=>⟨g,tail,a,oM,c⟩⟩
def Zqg(l:List Pack):List Pack:=l.foldl (λL x=>(Zfo L x).2) []
theorem Zyd(l:List Pack)(x:Pack):Zqg (l++ [x])=(Zfo (Zqg l) x).2:=by unfold Zqg; rw[List.foldl_append]; rfl
theorem CatL.stay(h:CatL w S p r L)(a0:w.heap.size≤w'.heap.size)(hk: ∀b,b<w.heap.size→(S b∨b=p.block∨b=r)→w'.heap[b]? =w.heap[b]?):CatL w' S p r L:=by
 obtain⟨ps,a,b,c⟩:=h
 exact⟨ps,a.stay a0 hk,b,c⟩
theorem CatL.lt(h:CatL w S p r L):r<w.heap.size∧p.block<w.heap.size∧(∀b,S b→b<w.heap.size)∧ ¬S r∧ ¬S p.block∧p.block≠r:=by
 obtain⟨ps,a,_⟩:=h
 obtain⟨m,hm,_⟩:=a.map
 exact⟨hm.lt,a.box.lt,a.old,a.free.1,a.free.2,a.ne⟩
structure Both(w:World)(lo:Nat)(SA:Nat→Prop)(p:Addr)(r:Nat)(q:Addr)(L:List Pack):Prop where
 cat: ∃S,CatL w S p r L∧(∀b,S b→lo≤b)∧ ¬S q.block
 ref: ∃S,RefR w S q L∧(∀b,S b→SA b∨lo≤b)∧ ¬S r
 le:lo≤r∧lo≤p.block∧lo≤q.block
 ne:q.block≠p.block∧q.block≠r
theorem Zm3{α:Type}{E:Enc α}{a:Addr}{x:α}(hb:BoxAt w a cs)(hx:E.rep w S x cs)(hB:E.bytes≤room):SlR E w (λb=>S b∨b=a.block) ⟨some a,1,1⟩ [x]:=
 ⟨rfl,df _,by show 1≤maxLen; rw[Zd]; omega,by simpa using hB,.inr ⟨a,rfl,.inr rfl,λi y hy=>by
  cases i with
  |zero=>
   simp only[gl,cw]at hy
   subst hy
   exact⟨cs,E.mono hx λ_ h=>.inl h,by rw[jg]; exact hb.ldc⟩
  |succ i=>simp at hy⟩⟩
theorem FlatO.pins(h:FlatO pinC 40 w lo s l)(hs: ∀q∈l,Str q.name):SlR pinE w (λb=>lo≤b∧b<w.heap.size) s l:=
 FlatO.read (E:=pinE) h (λ_=>rfl) λ_ _ x hx=>⟨rfl,hs x hx⟩
theorem Z2s{α β:Type}{c:β→β→Int}{d:α→α→Int}(f:α→β){x:α}{l:List α}(h: ∀y∈l,c (f x) (f y)=d x y):(Zjc d x l).map f=Zjc c (f x) (l.map f):=by
 induction l with
 |nil=>rfl
 |cons y r ih=>
  rw[fg,Zjc,Zjc,h y (.head _)]
  by_cases h1:d x y≤0
  ·rw[if_pos h1,if_pos h1]; rfl
  ·rw[if_neg h1,if_neg h1,fg,ih λz hz=>h z (.tail _ hz)]
theorem Zrr{α β:Type}{c:β→β→Int}{d:α→α→Int}(f:α→β){l:List α}(h: ∀x∈l,∀y∈l,c (f x) (f y)=d x y):(Zdr d l).map f=Zdr c (l.map f):=by
 induction l with
 |nil=>rfl
 |cons x r ih=>
  rw[fg,Zdr,Zdr,←ih λa ha b hb=>h a (.tail _ ha) b (.tail _ hb)]
  exact Z2s f λy hy=>h x (.head _) y (.tail _ ((Ze8 r).mem_iff.1 hy))
def wantT:Enc (Want×(Nat→Prop)) where
 n:=3
 bytes:=48
 rep:=λw S x cs=>wantP.rep w x.2 x.1 cs∧ ∀b,x.2 b→S b
 len:=λh=>wantP.len h.1
 one:=λh v hv=>wantP.one h.1 v hv
 mono:=λh hs=>⟨h.1,λb hb=>hs b (h.2 b hb)⟩
 keep:=λh hk=>⟨wantP.keep h.1 λb hb hl=>hk b (h.2 b hb) hl,h.2⟩
def Z9a(p q:Want×(Nat→Prop)):Prop:=∀b,p.2 b→ ¬q.2 b
def SepW(w:World)(S:Nat→Prop)(s:Sl)(L:List Want):Prop:=
 s.len=L.length∧s.cap=L.length∧(L= []∨ ∃(g:Nat) (tail:List Value) (z:List (WantC×(Want×(Nat→Prop)))),s.a=some ⟨g,0,none⟩∧S g∧RowB StW.cells w g (z.map Prod.fst) tail∧(z.map λq=>q.2.1)=L∧
  (∀q∈z,q.1.name=q.2.1.name∧q.1.kind=q.2.1.kind∧wantP.rep w q.2.2 q.2.1 (StW.cells q.1)∧ ∀b,q.2.2 b→S b∧b≠g)∧z.Pairwise λp q=>∀b,p.2.2 b→ ¬q.2.2 b)
def AllI(w:World)(lo:Nat)(out:Sl)(M:List Want):Prop:=
 ∃(vis:List (Want×(Nat→Prop))) (Q:Nat→Prop),OwnS wantT 293 w lo Q out vis∧vis.map Prod.fst=M∧(∀b,Q b→lo≤b)∧vis.Pairwise Z9a∧ ∀q∈vis,∀b,q.2 b→Q b
theorem AllI.ext(h:AllI w lo out M)(hx:Ext w w'):AllI w' lo out M:=by
 obtain⟨a0,Q,a,b,c,d,e⟩:=h
 exact⟨a0,Q,a.ext hx,b,c,d,e⟩
theorem AllI.zero(w:World):AllI w w.heap.size Sl.nil []:=⟨[],None',OwnS.nil _ _,rfl,λ_ h=>h.elim,.nil,λ_ h=>by cases h⟩
theorem AllI.push{u:Sl}{x:Want}{a:Addr}{K:Sl→World→Prop}(h:AllI w0 lo out M)(hx:Ext w0 w)(a6:lo≤w0.heap.size)(hN:Str x.name)(hu:SlP spanE w (λb=>w0.heap.size≤b∧b<w.heap.size) u x.range)(hb:BoxAt w a [.string x.name,.int .i64 x.kind,u.v])(hm:(M.length+1)*48≤room)
  (hK: ∀r w',Below lo w w'→AllI w' lo r (M++ [x])→K r w'):appS prog 233 233 out (Sl.v ⟨some a,1,1⟩) w K:=by
 obtain⟨a7,Q,own,rfl,hQ,a5,a0⟩:=h
 have s:=hx.size
 have eb:wantT.bytes=48:=rfl
 rw[cm]at hm
 have a8:a7.length+1≤9000000000000:=by unfold room at hm; omega
 refine(own.ext hx).push Z9l (co a6 s) (x:=(x,λb=>w0.heap.size≤b∧b<w.heap.size)) (S':=λb=>w0.heap.size≤b∧b<w.heap.size) ⟨⟨hN,u,rfl,hu⟩,λ_ h=>h⟩ (hb.ldc.pre (r:=[]) rfl) (λb hb=>hb.2) (λad ha hb=>by have:=(own.block ha).2.1; omega) (by rw[eb]; exact hm) (by rw[Zd]; omega) λr w' a4 bel _ _=>hK r w' bel ⟨_,_,a4,by rw[ec]; rfl,λb hb=>?_,?_,λq hq b hb=>?_⟩
 ·rcases hb with hb|hb
  ·exact hQ b hb
  ·omega
 ·refine eu.2 ⟨a5,im _ _,λq hq y hy b hb hc=>?_⟩
  rw[ci]at hy
  subst hy
  have h1:=own.lt b (a0 q hq b hb)
  have h2:w0.heap.size≤b∧b<w.heap.size:=hc
  omega
 ·rcases dj.1 hq with hq|hq
  ·exact .inl (a0 q hq b hb)
  ·rw[ci]at hq
   subst hq
   exact .inr hb
def depsE:Enc (List Dep) where
 n:=1
 bytes:=24
 rep:=λw S l cs=>∃t:Sl,cs= [t.v]∧SlR depE w S t l
 len:=λ⟨_,h,_⟩=>by rw[h]; rfl
 one:=λ⟨_,h,_⟩ v hv=>by rw[h]at hv; simp[Sl.v]at hv; subst hv; rfl
 mono:=λ⟨t,h,hr⟩ hs=>⟨t,h,hr.mono hs⟩
 keep:=λ⟨t,h,hr⟩ hk=>⟨t,h,hr.keep hk⟩
theorem Zv0:Zfj prog 263:=enters_of func263 kR rfl
def cWC(a b:WantC):Int:=cmpS a.name b.name
theorem Z7b:Ord3 cWC:=Zhf WantC.name
theorem Z66(g:Nat)(w:World):StW.CmpOk (.func (.func 263) #[] #[]) cWC g w:=by
 intro x y w1 k _ hk
 refine⟨_,_,rfl,Zv0,SE.Zj4.go ?_⟩
 unfold SE.Zj4
 exact newS.intro λa w2 x2 ha _ _=>newS.intro λa1 w3 x3 a0 _ _=>⟨x.name,BoxAt.at0 ha x3 rfl,y.name,BoxAt.at0 a0 xR rfl,Zjw ⟨_,rfl,hk _ (x2.trans x3)⟩⟩
theorem Z9f{R:Sl→World→Prop}(hI:AllI w1 w.heap.size out M)(hx:Ext w w1)(hb:M.length*48≤room)
  (hR: ∀t w',Ext w w'→SepW w' (λb=>w.heap.size≤b∧b<w'.heap.size) t (Zdr cW M)→R t w'):
  callS prog 262 [Sl.v out,Value.func (.func 263) #[] #[]] w1 λc6 b8=>c6=(Value.tuple #[])∧callS prog 264 [Sl.v out] b8 λc7 b9=>∃(b7:Sl),c7=(Sl.v b7)∧R b7 b9:=by
 obtain⟨a9,Q,own,rfl,hQ,c3,d1⟩:=hI
 rw[cm]at hb
 have a5:=own.len
 have c1:a9.length≤9000000000000:=by unfold room at hb; omega
 have hf: ∀(x:Want×(Nat→Prop)) cs,wantT.rep w1 Q x cs→ ∃y:WantC,cs=StW.cells y∧(y.name=x.1.name∧y.kind=x.1.kind∧wantT.rep w1 Q x (StW.cells y)):=λx cs h=>by
  obtain⟨⟨hN,s,rfl,a⟩,c2⟩:=h
  exact⟨⟨x.1.name,x.1.kind,s⟩,rfl,rfl,rfl,⟨hN,s,rfl,a⟩,c2⟩
 rcases OwnS.rowG StW.cells (λ(y:WantC) (x:Want×(Nat→Prop))=>y.name=x.1.name∧y.kind=x.1.kind∧wantT.rep w1 Q x (StW.cells y)) hf own with⟨ho,hv⟩|⟨g,zz,tail,ha,b3,a8,a4,b6,c8,c9⟩
 ·subst ho hv
  refine SE.Zi.go (StW.sortStable_nil rfl ⟨rfl,SE.Zcb.go ⟨⟨by decide,by decide,by decide,by decide⟩,_,rfl,hR _ _ hx ?_⟩⟩)
  exact⟨rfl,rfl,.inl rfl⟩
 ·have c5:zz.length=a9.length:=by rw[←a8,cm]
  have b4:out.len=(zz.map Prod.fst).length:=by rw[cm,c5]; exact a5
  refine SE.Zi.go (StW.sortStable_se Z7b ha (by rw[a5]; omega) (Z66 g w1) b4 b6 λw2 b2 a7=>⟨rfl,?_⟩)
  have b1:(Zdr (λp q:WantC×(Want×(Nat→Prop))=>cWC p.1 q.1) zz).map Prod.fst=Zdr cWC (zz.map Prod.fst):=Zrr (c:=cWC) Prod.fst λ_ _ _ _=>rfl
  have a6:(Zdr (λp q:WantC×(Want×(Nat→Prop))=>cWC p.1 q.1) zz).map (λq:WantC×(Want×(Nat→Prop))=>q.2.1)=Zdr cW (zz.map λq=>q.2.1):=Zrr (c:=cW) (λq:WantC×(Want×(Nat→Prop))=>q.2.1) λx hx y hy=>by
   unfold cW cWC
   rw[(a4 x hx).1,(a4 y hy).1]
  have hM:(zz.map λq=>q.2.1)=a9.map Prod.fst:=by rw[←a8,gc]; rfl
  rw[hM]at a6
  rw[←b1]at a7
  have a0:=Ze8 (c:=λp q:WantC×(Want×(Nat→Prop))=>cWC p.1 q.1) zz
  generalize Zdr (λp q:WantC×(Want×(Nat→Prop))=>cWC p.1 q.1) zz=zs at*
  have d0:zs.length=zz.length:=a0.length_eq
  have b0: ¬Q g:=own.apart _ ha
  have x2:Ext w w2:=hx.trans' (b2.below hx.size b3)
  have b5:g<w2.heap.size:=a7.lt
  have s2:=b2.1
  refine SE.Zcb.go ⟨⟨oM,oM,oM,oM⟩,_,rfl,hR _ _ x2 ?_⟩
  have c4:zs.Pairwise λp q=>∀b,p.2.2 b→ ¬q.2.2 b:=by
   have h1:(zz.map Prod.snd).Pairwise Z9a:=by rw[a8]; exact c3
   rw[fy]at h1
   exact(a0.pairwise_iff λ{x y} h b hb hc=>h b hc hb).2 h1
  refine⟨?_,?_,.inr ⟨g,tail,zs,?_,⟨b3,b5⟩,a7,a6,λq hq=>?_,c4⟩⟩
  ·show(out.len:Int).toNat - 0=_
   rw[Znt,cm,a5]; simp
  ·show(out.len:Int).toNat - 0=_
   rw[Znt,cm,a5]; simp
  ·show(if _ then _ else _)=_
   split
   ·exact ha
   ·rw[ha,jg]; rfl
  ·obtain⟨k1,k2,k3,k4⟩:=a4 q (a0.mem_iff.1 hq)
   refine⟨k1,k2,wantP.keep k3 (b2.keep λh=>b0 (k4 g h)),λb hb=>⟨⟨hQ b (k4 b hb),?_⟩,λe=>b0 (e▸k4 b hb)⟩⟩
   have:=own.lt b (k4 b hb); omega
theorem Zqc{mD must may:Sl}{ms:List (List Dep)}{ml over:List Dep}{R:Sl→World→Prop}(hS:Old S w)(hV:SlR depE w S mOv over)(hM:SlR depsE w S must ms)(hY:SlR depE w S may ml)(hb:(ms.flatten.length+ml.length)*48≤room)
  (hR: ∀t w',Ext w w'→SepW w' (λb=>w.heap.size≤b∧b<w'.heap.size) t (Ziu over ms.flatten ml)→R t w'):SE.Zjf mD mDev mOpt mOv must may w R:=by
 unfold SE.Zjf
 have d4:=hM.len
 have d5:=hY.len
 refine newS.intro λa w1 x1 ha _ _=> ?_
 have s1:=x1.size
 refine loop2.up hM.max (λout i w'=>Ext w1 w'∧AllI w' w1.heap.size out ((ms.take i).flatten.map (Zof 1 over))) ⟨Ext.refl _,AllI.zero _⟩ λout i w2 d8 hi ⟨x2,b6⟩ hn=>⟨λd0=>?_,λd6=>?_⟩
 ·have b0:i<ms.length:=oM
  obtain⟨ad,cs,d1,_,⟨t,rfl,ht⟩,hc⟩:=hM.el b0
  have d7:=ht.len
  have b3:(ms.take (i+1)).flatten=(ms.take i).flatten++ms[i]:=by rw[bu b0,jb,ge,List.flatten_nil,dp]
  have d3:(ms.take i).flatten.length+ms[i].length≤ms.flatten.length:=by
   rw[←br,←b3]
   have:ms.flatten=(ms.take (i+1)).flatten++(ms.drop (i+1)).flatten:=by rw[←jb,dc]
   rw[this,br]; omega
  refine⟨ad,⟨d1,oM,d0⟩,t,(hc _ (x1.trans x2)).pre (r:=[]) rfl,?_⟩
  refine loop2.up ht.max (λout k w'=>Ext w1 w'∧AllI w' w1.heap.size out (((ms.take i).flatten++ms[i].take k).map (Zof 1 over))) ⟨x2,by rw[List.take_zero,dp]; exact b6⟩ λc7 k w3 c6 hk ⟨x3,a4⟩ c2=>⟨λa9=>?_,λc5=>?_⟩
  ·have a5:k<ms[i].length:=oM
   have b1:=x1.trans x3
   obtain⟨b4,u,c3,_,hN,hr,c1⟩:=Zhw ht a5
   refine⟨b4,⟨c3,oM,a9⟩,_,u,c1 _ b1,newS.intro λa8 w4 x4 b8 c9 _=>stw0.intro b8 sI λw5 b5 _ a7=>bnd.drew λw6 x6=>?_⟩
   have c4:Ext w3 w5:=b5.ext x4 oM
   have a0:=c4.trans x6
   have a6:=b1.trans a0
   refine⟨_,a7.at0 x6 rfl,mD,mDev,mOpt,mOv,ha.at0 (r:=[]) (x3.trans a0) rfl,_,u,a7.at0 (r:=[]) x6 rfl,callX.intro (SE.Zfs.go (Zj3 (hS.ext a6.size) (hV.ext a6) (hr.ext a6) λr7 w7 x7 hu=>⟨x7,_,rfl,newS.intro λc8 w8 x8 b9 _ _=> ?_⟩))⟩
   have b2:=x7.trans x8
   have d2:=a0.size; have s8:=x8.size; have s3:=x3.size
   refine(a4.ext a0).push (x:=Zof 1 over ms[i][k]) b2 oM hN ((hu.ext x8).mono λb hb=>⟨hb.1,oM⟩) b9 ?_ λr9 w9 bel b7=>c2 a5 _ _ ⟨(x3.trans (a0.trans b2)).trans' bel,?_⟩
   ·rw[cm,br,cd]
    have:((ms.take i).flatten.length+min k ms[i].length+1)*48≤(ms.flatten.length+ml.length)*48:=fb _ oM
    omega
   ·rw[bu a5,←cc,ec]
    exact b7
  ·have:k=ms[i].length:=oM
   rw[this,cu,←b3]at a4
   exact hn b0 _ _ ⟨x3,a4⟩
 ·have:i=ms.length:=oM
  rw[this,cu]at b6
  refine loop2.up hY.max (λout k w'=>Ext w1 w'∧AllI w' w1.heap.size out (ms.flatten.map (Zof 1 over)++(ml.take k).map (Zof 2 over))) ⟨x2,by rw[List.take_zero,List.map_nil,dp]; exact b6⟩ λc7 k w3 c6 hk ⟨x3,a4⟩ c2=>⟨λa9=>?_,λc5=>?_⟩
  ·have a5:k<ml.length:=oM
   have b1:=x1.trans x3
   obtain⟨b4,u,c3,_,hN,hr,c1⟩:=Zhw hY a5
   refine⟨b4,⟨c3,oM,a9⟩,_,u,c1 _ b1,newS.intro λa8 w4 x4 b8 c9 _=>stw0.intro b8 sI λw5 b5 _ a7=>bnd.drew λw6 x6=>?_⟩
   have c4:Ext w3 w5:=b5.ext x4 oM
   have a0:=c4.trans x6
   have a6:=b1.trans a0
   refine⟨_,a7.at0 x6 rfl,mD,mDev,mOpt,mOv,ha.at0 (r:=[]) (x3.trans a0) rfl,_,u,a7.at0 (r:=[]) x6 rfl,callX.intro (SE.Zfs.go (Zj3 (hS.ext a6.size) (hV.ext a6) (hr.ext a6) λr7 w7 x7 hu=>⟨x7,_,rfl,newS.intro λc8 w8 x8 b9 _ _=> ?_⟩))⟩
   have b2:=x7.trans x8
   have d2:=a0.size; have s8:=x8.size; have s3:=x3.size
   refine(a4.ext a0).push (x:=Zof 2 over ml[k]) b2 oM hN ((hu.ext x8).mono λb hb=>⟨hb.1,oM⟩) b9 ?_ λr9 w9 bel b7=>c2 a5 _ _ ⟨(x3.trans (a0.trans b2)).trans' bel,?_⟩
   ·rw[br,cm,cm,cd]
    have:(ms.flatten.length+min k ml.length+1)*48≤(ms.flatten.length+ml.length)*48:=fb _ oM
    omega
   ·rw[bu a5,ec,←cc]
    exact b7
  ·have:k=ml.length:=oM
   rw[this,cu]at a4
   refine Z9f a4 x3 (by rw[br,cm,cm]; exact hb) λt w' hx hs=>hR _ _ (x1.trans hx) ?_
   obtain⟨k1,k0,k2⟩:=hs
   refine⟨k1,k0,k2.imp id λ⟨g,tail,z,e1,e2,e3,e4,e5,e6⟩=>⟨g,tail,z,e1,⟨oM,e2.2⟩,e3,e4,λq hq=>?_,e6⟩⟩
   obtain⟨f1,f2,f3,f4⟩:=e5 q hq
   exact⟨f1,f2,f3,λb hb=>⟨⟨by have:=(f4 b hb).1.1; omega,(f4 b hb).1.2⟩,(f4 b hb).2⟩⟩
theorem newS.ownS{α:Type}{E:Enc α}{x:α}{k:Addr→World→Prop}(hS:Old S w)(hx:E.rep w S x cs)(h: ∀a w',Ext w w'→OwnS E t w' w.heap.size S ⟨some a,1,1⟩ [x]→a.block=w.heap.size→k a w'):newS w cs t k:=λa w' ha hw=>by
 subst ha hw
 have hl:=E.len hx
 refine h _ _ (Ext.alloc _ _) ⟨⟨[cs],⟨by simp[hl],.inr ⟨w.heap.size,1,cs.toArray,rfl,df _,heap_alloc_new w _,df _,by rw[Zd]; omega,by simp[hl],?_⟩⟩,rfl,λi y hy=>?_⟩,rfl,λb hb=>by have:=hS b hb; simp; omega,λad ha hb=>?_⟩ rfl
 ·simp[hl,dg (mr hl)]
 ·cases i with
  |zero=>
   simp only[gl,cw]at hy
   subst hy
   exact⟨cs,rfl,E.keep hx ((Ext.alloc w _).keep _)⟩
  |succ i=>simp at hy
 ·simp only[cw]at ha
  subst ha
  have:=hS _ hb
  simp at this
theorem Z9i:ApT prog 204 51 1 24:=Zhv (z:=.slice none 0 0) kR kR rfl dC
theorem Zzw{p:Pack}{pD pP pO mD:Sl}{over:List Dep}{R:Sl→World→Prop}(hS:Old S w)(hD:SlR depE w S pD p.deps)(hO:SlR depE w S pO p.opt)(hV:SlR depE w S mOv over)(hb:(p.deps.length+p.opt.length)*48≤room)
  (hR: ∀t w',Ext w w'→SepW w' (λb=>w.heap.size≤b∧b<w'.heap.size) t (Ziu over p.deps p.opt)→R t w'):SE.Zmy p.name p.v.ma p.v.mi p.v.pa pD pP pO mD mDev mOpt mOv w R:=by
 unfold SE.Zmy
 refine newS.intro λa w1 x1 ha _ _=>newS.intro λa1 w2 x2 a7 _ _=> ?_
 have a9:=x1.trans x2
 refine⟨mD,mDev,mOpt,mOv,BoxAt.at0 a7 xR rfl,pD,BoxAt.at1 ha x2 rfl,newS.intro λa4 w3 x3 a5 b0 _=>⟨pO,BoxAt.at1 ha (x2.trans x3) rfl,?_⟩⟩
 have a0:=a9.trans x3
 have s3:=a0.size
 have a6:SlR depsE w3 (λb=>S b∨b=a4.block) ⟨some a4,1,1⟩ [p.deps]:=Zm3 (E:=depsE) a5 ⟨pD,rfl,hD.ext a0⟩ dC
 have a8:=a5.lt
 refine SE.Zjf.go (Zqc (S:=λb=>S b∨b=a4.block) (ms:=[p.deps]) (over:=over) (ml:=p.opt) (λb hb=>?_) ((hV.ext a0).mono λ_ h=>.inl h) a6 ((hO.ext a0).mono λ_ h=>.inl h) (by simpa using hb) λt w4 x4 h4=>⟨_,rfl,hR _ _ (a0.trans x4) ?_⟩)
 ·rcases hb with hb|rfl
  ·have:=hS b hb; omega
  ·exact a8
 ·rw[ge,List.flatten_nil,dp]at h4
  obtain⟨k1,k0,k2⟩:=h4
  refine⟨k1,k0,k2.imp id λ⟨g,tail,z,e1,e2,e3,e4,e5,e6⟩=>⟨g,tail,z,e1,⟨oM,e2.2⟩,e3,e4,λq hq=>?_,e6⟩⟩
  obtain⟨f1,f2,f3,f4⟩:=e5 q hq
  exact⟨f1,f2,f3,λb hb=>⟨⟨by have:=(f4 b hb).1.1; omega,(f4 b hb).1.2⟩,(f4 b hb).2⟩⟩
theorem Zqs{mD:Sl}{dev:Bool}{R:Sl→World→Prop}(hS:Old S w)(hD:SlR depE w S mD m.deps)(hE:SlR depE w S mDev m.dev)(hO:SlR depE w S mOpt m.opt)(hV:SlR depE w S mOv m.over)(hb:(m.deps.length+m.dev.length+m.opt.length)*48≤room)
  (hR: ∀t w',Ext w w'→SepW w' (λb=>w.heap.size≤b∧b<w'.heap.size) t (Ziu m.over (Zf4 m dev) m.opt)→R t w'):SE.Zg7 mD mDev mOpt mOv dev w R:=by
 unfold SE.Zg7
 refine newS.intro λa w1 x1 ha _ _=>⟨mD,BoxAt.at0 ha xR rfl,?_⟩
 refine newS.ownS (E:=depsE) (x:=m.deps) (S:=S) (hS.ext x1.size) ⟨mD,rfl,hD.ext x1⟩ λa1 w2 x2 own b5=>?_
 have a9:=x1.trans x2
 have s1:=x1.size; have s2:=x2.size
 have eb:depsE.bytes=24:=rfl
 refine join.named λJ hJ=>?_
 have key: ∀a0 w3 (ms:List (List Dep)),Ext w1 w3→SlR depsE w3 (λb=>S b∨(w.heap.size≤b∧b<w3.heap.size)) a0 ms→ms.flatten=Zf4 m dev→J a0 w3:=by
  subst hJ
  intro a0 w3 ms x3 b1 a7
  have a4:=x1.trans x3
  have s3:=a4.size
  have b4:(Zf4 m dev).length≤m.deps.length+m.dev.length:=by
   unfold Zf4
   split
   ·rw[br]; exact df _
   ·omega
  refine⟨mD,mDev,mOpt,mOv,BoxAt.at0 ha x3 rfl,mOpt,BoxAt.at1 ha x3 rfl,SE.Zjf.go (Zqc (S:=λb=>S b∨(w.heap.size≤b∧b<w3.heap.size)) (over:=m.over) (ml:=m.opt) (λb hb=>?_) ((hV.ext a4).mono λ_ h=>.inl h) b1 ((hO.ext a4).mono λ_ h=>.inl h) (by rw[a7]; have:((Zf4 m dev).length+m.opt.length)*48≤(m.deps.length+m.dev.length+m.opt.length)*48:=fb _ oM; omega) λt w4 x4 h4=>⟨_,rfl,hR _ _ (a4.trans x4) ?_⟩)⟩
  ·rcases hb with hb|hb
   ·have:=hS b hb; omega
   ·exact hb.2
  ·rw[a7]at h4
   obtain⟨k1,k0,k2⟩:=h4
   refine⟨k1,k0,k2.imp id λ⟨g,tail,z,e1,e2,e3,e4,e5,e6⟩=>⟨g,tail,z,e1,⟨oM,e2.2⟩,e3,e4,λq hq=>?_,e6⟩⟩
   obtain⟨f1,f2,f3,f4⟩:=e5 q hq
   exact⟨f1,f2,f3,λb hb=>⟨⟨by have:=(f4 b hb).1.1; omega,(f4 b hb).1.2⟩,(f4 b hb).2⟩⟩
 refine⟨λh=>?_,λh=>?_⟩
 ·subst h
  refine⟨mDev,BoxAt.at1 ha x2 rfl,newS.intro λa8 w3 x3 b0 b3 _=> ?_⟩
  refine(own.ext x3).push Z9i (x2.trans x3).size (x:=m.dev) (S':=S) ⟨mDev,rfl,hE.ext (a9.trans x3)⟩ (b0.ldc.pre (r:=[]) rfl) (hS.ext (a9.trans x3).size) (λad ha hb=>(own.apart ad ha hb)) (by rw[eb]; unfold room; simp) (by rw[Zd]; simp) λr w4 a5 bel _ _=> ?_
  have b2:Ext w1 w4:=(x2.trans x3).trans' bel
  refine key _ _ [m.deps,m.dev] b2 ((a5.read (by rw[eb]; unfold room; simp) (by rw[Zd]; simp)).mono λb hb=>?_) (by simp[Zf4])
  rcases hb with(hb|hb)|⟨ad,a6,rfl⟩
  ·exact .inl hb
  ·exact .inl hb
  ·have:=a5.block a6; exact .inr ⟨oM,this.2.1⟩
 ·subst h
  refine key _ _ [m.deps] x2 ((own.read (by rw[eb]; unfold room; simp) (by rw[Zd]; simp)).mono λb hb=>?_) (by simp[Zf4])
  rcases hb with hb|⟨ad,a6,rfl⟩
  ·exact .inl hb
  ·have:=own.block a6; exact .inr ⟨oM,this.2.1⟩
theorem SepW.read{L:List Want}(h:SepW w S s L)(hb:L.length*48≤room):SlR Zzv w S s L:=by
 obtain⟨h1,h0,h2⟩:=h
 have hm:L.length≤maxLen:=by rw[Zd]; unfold room at hb; omega
 refine⟨h1,by rw[h0]; exact df _,by rw[h0]; exact hm,hb,?_⟩
 rcases h2 with rfl|⟨g,tail,z,e1,e2,e3,e4,e5,e6⟩
 ·exact .inl rfl
 ·refine .inr ⟨_,e1,e2,λi x hx=>?_⟩
  rw[←e4,fi]at hx
  cases hz:z[i]? with
  |none=>rw[hz]at hx; cases hx
  |some q=>
   rw[hz]at hx
   simp only[gv,cw]at hx
   subst hx
   obtain⟨f1,f2,⟨f3,u,f5,f6⟩,f4⟩:=e5 q (ez hz)
   refine⟨StW.cells q.1,⟨f3,u,f5,f6.1.mono λb hb=>(f4 b hb).1⟩,e3.ld' (f:=StW.cells) (k:=3) (λ_=>rfl) (by rw[fi,hz]; rfl)⟩
end Go.Hal
namespace Go.Hal
structure Edge where
 name:ByteArray
 to:Int
 deriving DecidableEq
structure Node where
 name:ByteArray
 v:Ver
 ctx:List Pin
 edges:List Edge
 deriving DecidableEq
abbrev NKey:=ByteArray×Ver×List Pin
def Node.key(n:Node):NKey:=(n.name,n.v,n.ctx)
structure Quest where
 L:List Pack
 m:Mani
 dev:Bool
 pins:List Pin
 D:Nat
 N:Nat
def rootNode:Node:=⟨⟨#[]⟩,⟨0,0,0⟩,[],[]⟩
def Z27(q:Quest)(k:Nat)(n:Option NKey):List Want:=
 if k=0 then Ziu q.m.over (Zf4 q.m q.dev) q.m.opt else
  match n with
  |none=>[]
  |some n=>match getL q.L n.1 n.2.1 with
   |none=>[]
   |some p=>Ziu q.m.over p.deps p.opt
def Zy0(ns:List Node)(k:Nat):Option NKey:=(ns.map Node.key)[k]?
def Zj7(ns:List Node)(k:Nat):List Pin:=match Zy0 ns k with
 |some x=>x.2.2
 |none=>[]
def Quest.wants(q:Quest)(ns:List Node)(k:Nat):List Want:=Z27 q k (Zy0 ns k)
def Quest.cand(q:Quest)(c:List Pin)(w:Want):List Ver×Bool:=match tells c w.name with
 |some v=>(if Zdp w.range v then [v]else [],false)
 |none=>(Zr4 q.L w.name w.range q.pins,decide (w.kind=2))
def opts(x:List Ver×Bool):List (Option Ver):=x.1.map some++(if x.2 then [none]else [])
def addO(e:List Pin)(n:ByteArray)(o:Option Ver):List Pin:=match o with
 |none=>e
 |some v=>if e.any (isN n)then e else e++ [⟨n,v⟩]
def targets(q:Quest)(env:List Pin):List Pin→Option (List Node)
 | []=>some []
 |p::r=>match Ze3 q.L q.m.over env p with
  |none=>none
  |some c=>(targets q env r).map λxs=>⟨p.name,p.v,c,[]⟩::xs
def putK(N:Nat):List NKey→List Node→Option (List Node×List Edge)
 |_,[]=>some ([],[])
 |ks,x::xs=>match ks.findIdx? λy=>decide (y=x.key)with
  |some i=>(putK N ks xs).map λr=>(r.1,⟨x.name,(i:Int)⟩::r.2)
  |none=>if ks.length=N then none else(putK N (ks++ [x.key]) xs).map λr=>(x::r.1,⟨x.name,(ks.length:Int)⟩::r.2)
def Zdt(ns:List Node)(k:Nat)(es:List Edge):List Node:=ns.modify k λn=>{n with edges:=es}
inductive Bnd where
 |graph
 |many
 |ok (ns:List Node)
def Quest.bind(q:Quest)(ns:List Node)(k:Nat)(e:List Pin):Bnd:=match targets q (Zi8 e) (Zi8 e)with
 |none=>.graph
 |some xs=>match putK q.N (ns.map Node.key) xs with
  |none=>.many
  |some r=>.ok (Zdt ns k r.2++r.1)
inductive Out where
 |fail (t:Nat)
 |done (ns:List Node) (t:Nat)
 |err (e:Int)
 |out
def Zj5(D:Nat)(k:Option Ver→Nat→Out):List (Option Ver)→Nat→Out
 | [],t=>.fail t
 |o::os,t=>if t=D then .err 31 else match k o (t+1)with
  | .fail t'=>Zj5 D k os t'
  |r=>r
def Quest.go(q:Quest):Nat→List Node→Nat→List Want→List Pin→Nat→Out
 |0,_,_,_,_,_=> .out
 |f+1,ns,k,[],e,t=>match q.bind ns k e with
  | .graph=>.fail t
  | .many=>.err 32
  | .ok ns'=>if k+1=ns'.length then .done ns' t else q.go f ns' (k+1) (q.wants ns' (k+1)) (Zj7 ns' (k+1)) t
 |f+1,ns,k,w::l,e,t=>Zj5 q.D (λo t=>q.go f ns k l (addO e w.name o) t) (opts (q.cand (Zj7 ns k) w)) t
structure Ch where
 node:Nat
 name:ByteArray
 vs:List Ver
 none:Bool
 i:Nat
structure St where
 stack:List Ch
 ns:List Node
 ahead:List Nat
 ws:List Want
 first:Nat
 dec:Nat
inductive Lb where
 |next
 |tri
 |back
inductive Stp where
 |go (l:Lb) (s:St)
 |done (ns:List Node) (t:Nat)
 |err (e:Int)
theorem Zn3(ns:List Node)(k:Nat)(es:List Edge):(Zdt ns k es).map Node.key=ns.map Node.key:=by
 unfold Zdt
 apply List.ext_getElem?
 intro i
 rw[fi,fi,List.getElem?_modify]
 cases ns[i]? with
 |none=>rfl
 |some n=>by_cases h:k=i<;>simp[h,Node.key]
theorem Zn4(ns:List Node)(k:Nat)(es:List Edge):(Zdt ns k es).length=ns.length:=by unfold Zdt; rw[List.length_modify]
end Go.Hal
namespace Go.Hal
section
variable {q:Quest}
def Quest.fuel(q:Quest):Nat:=q.D+q.N+2
def Quest.run(q:Quest):Out:=q.go q.fuel [rootNode] 0 (q.wants [rootNode] 0) [] 0
end
end Go.Hal
namespace Go.Hal
theorem Zso{N:Nat}: ∀{xs:List Node} {ks:List NKey} {r:List Node×List Edge},putK N ks xs=some r→ks.length≤N→ks.length+r.1.length≤N
 | [],ks,r,h,hl=>by
  rw[putK]at h
  cases h; simpa using hl
 |x::xs,ks,r,h,hl=>by
  rw[putK]at h
  cases hf:ks.findIdx? λy=>decide (y=x.key)with
  |some i=>
   rw[hf]at h
   obtain⟨r',h1,h2⟩:=iy.1 h
   subst h2
   have:=Zso h1 hl
   exact this
  |none=>
   rw[hf]at h
   dsimp only at h
   by_cases hN:ks.length=N
   ·rw[if_pos hN]at h; cases h
   ·rw[if_neg hN]at h
    obtain⟨r',h1,h2⟩:=iy.1 h
    subst h2
    have:=Zso h1 (by simp; omega)
    simp at this ⊢
    omega
theorem Z3n{q:Quest}{ns ns':List Node}{k:Nat}{e:List Pin}(h:q.bind ns k e= .ok ns')(hl:ns.length≤q.N):ns.length≤ns'.length∧ns'.length≤q.N:=by
 unfold Quest.bind at h
 cases h1:targets q (Zi8 e) (Zi8 e)with
 |none=>rw[h1]at h; cases h
 |some xs=>
  rw[h1]at h
  dsimp only at h
  cases h2:putK q.N (ns.map Node.key) xs with
  |none=>rw[h2]at h; cases h
  |some r=>
   rw[h2]at h
   cases h
   have:=Zso h2 (by simpa using hl)
   rw[br,Zn4]
   simp at this
   omega
def Fine(q:Quest)(t:Nat):Out→Prop
 | .out=>False
 | .fail t'=>t≤t'∧t'≤q.D
 | .done ns' t'=>t≤t'∧t'≤q.D∧ns'.length≤q.N
 | .err e=>e=31∨e=32
theorem Fine.mono{q:Quest}{t t2:Nat}{o:Out}(h:Fine q t2 o)(ht:t≤t2):Fine q t o:=by
 cases o with
 |out=>exact h
 |fail t'=>exact⟨co ht h.1,h.2⟩
 |done a0 t'=>exact⟨co ht h.1,h.2⟩
 |err e=>exact h
theorem Zx7{q:Quest}{k:Option Ver→Nat→Out}{m:Nat}(hk: ∀o t,m<t→t≤q.D→Fine q t (k o t)): ∀(os:List (Option Ver)) (t:Nat),m≤t→t≤q.D→Fine q t (Zj5 q.D k os t)
 | [],t,_,ht=>⟨df _,ht⟩
 |o::os,t,hm,ht=>by
  rw[Zj5]
  by_cases hD:t=q.D
  ·rw[if_pos hD]; exact .inl rfl
  ·rw[if_neg hD]
   have h:=hk o (t+1) oM oM
   revert h
   cases k o (t+1)with
   |out=>exact λh=>h.elim
   |done a0 t'=>exact λh=>Fine.mono (o:=.done a0 t') h (Nat.le_succ _)
   |err e=>exact λh=>h
   |fail t'=>exact λh=>(Zx7 hk os t' (by have:=h.1; omega) h.2).mono (by have:=h.1; omega)
theorem Zv6{q:Quest}: ∀(f:Nat) (ns:List Node) (k:Nat) (l:List Want) (e:List Pin) (t:Nat),t≤q.D→k<ns.length→ns.length≤q.N→(q.D - t)+(q.N - k)+1≤f→Fine q t (q.go f ns k l e t)
 |0,_,_,_,_,_,_,_,_,hf=>by omega
 |f+1,ns,k,[],e,t,ht,hk,hN,hf=>by
  rw[Quest.go]
  cases h:q.bind ns k e with
  |graph=>exact⟨df _,ht⟩
  |many=>exact .inr rfl
  |ok a0=>
   obtain⟨h1,h2⟩:=Z3n h hN
   dsimp only
   split
   ·exact⟨df _,ht,h2⟩
   ·exact Zv6 f a0 (k+1) _ _ t ht oM h2 oM
 |f+1,ns,k,w::l,e,t,ht,hk,hN,hf=>by
  rw[Quest.go]
  exact Zx7 (m:=t) (λo t2 h1 h2=>Zv6 f ns k l _ t2 h2 hk hN oM) _ t nR ht
theorem Z5p{q:Quest}(hN:1≤q.N):Fine q 0 q.run:=Zv6 _ _ _ _ _ _ (eh _) Nat.one_pos hN (by unfold Quest.fuel; omega)
def Quest.res(q:Quest):Stp:=match q.run with
 | .out=>.err 0
 | .fail _=> .err 30
 | .done ns t=>.done ns t
 | .err e=>.err e
end Go.Hal
namespace Go.Hal
def edgeE:Enc Edge:=Zoi 2 24 (λx=>[.string x.name,.int .i64 x.to]) (λx=>Str x.name) (λ_=>rfl) (λ_ v hv=>by simp at hv; rcases hv with rfl|rfl<;>rfl)
def nodeE:Enc Node where
 n:=6
 bytes:=88
 rep:=λw S x cs=>Str x.name∧ ∃c e:Sl,cs= [.string x.name,.int .i64 x.v.ma,.int .i64 x.v.mi,.int .i64 x.v.pa,c.v,e.v]∧SlR pinE w S c x.ctx∧SlR edgeE w S e x.edges
 len:=λ⟨_,_,_,h,_⟩=>by rw[h]; rfl
 one:=λ⟨_,_,_,h,_⟩ v hv=>by rw[h]at hv; simp[Sl.v]at hv; rcases hv with rfl|rfl|rfl|rfl|rfl|rfl<;>rfl
 mono:=λ⟨h0,c,e,h,a,b⟩ hs=>⟨h0,c,e,h,a.mono hs,b.mono hs⟩
 keep:=λ⟨h0,c,e,h,a,b⟩ hk=>⟨h0,c,e,h,a.keep hk,b.keep hk⟩
theorem Z6h:ApT prog 22 76 6 88:=Zhv (z:=.agg #[.string ⟨#[]⟩,.int .i64 0,.int .i64 0,.int .i64 0,.slice none 0 0,.slice none 0 0]) kR kR rfl dC
theorem Z9j:ApT prog 74 80 2 24:=Zhv (z:=.agg #[.string ⟨#[]⟩,.int .i64 0]) kR kR rfl dC
structure K7 where
 cp:Addr
 mD:Sl
 mDev:Sl
 mOpt:Sl
 mOv:Sl
 dev:Bool
 pS:Sl
structure Cs(w:World)(lo:Nat)(q:Quest)(K:K7):Prop where
 cat: ∃S r,CatL w S K.cp r q.L∧(∀b,S b→b<lo)∧r<lo∧K.cp.block<lo
 deps:SlR depE w (· <lo) K.mD q.m.deps
 dv:SlR depE w (· <lo) K.mDev q.m.dev
 opt:SlR depE w (· <lo) K.mOpt q.m.opt
 over:SlR depE w (· <lo) K.mOv q.m.over
 pins:SlR pinE w (· <lo) K.pS q.pins
 dev:K.dev=q.dev
 le:lo≤w.heap.size
 small:q.m.deps.length+q.m.dev.length+q.m.opt.length≤48
section
variable {w w':World} {lo g:Nat} {stk nds ahd ws:Sl} {Q:Nat→Prop} {s:St}
end
theorem Zim(over a b:List Dep):(Ziu over a b).length=a.length+b.length:=by
 unfold Ziu
 rw[Znt,br,cm,cm]
theorem Zmq(m:Mani)(dev:Bool):(Zf4 m dev).length≤m.deps.length+m.dev.length:=by
 unfold Zf4
 split
 ·rw[br]; exact df _
 ·omega
end Go.Hal
namespace Go.Hal
theorem Zvn(hg:GoodL L){over:List Dep}{p:Pin}{c:List Pin}(h:Ze3 L over env p=some c):(c.map (·.name)).Nodup∧c.length≤2048:=by
 refine⟨(Zr7 h).1.nodup,?_⟩
 unfold Ze3 ctx at h
 obtain⟨o,h1,rfl⟩:=iy.1 h
 rw[(Zes o).length_eq]
 exact Ztf hg (Zm6 _ _ _ _ CtxI.zero h1)
theorem Zuv{ns:List Node}{k:Nat}{es:List Edge}{x:Node}(hx:x∈Zdt ns k es): ∃y∈ns,y.ctx=x.ctx:=by
 have h:x.key∈(Zdt ns k es).map Node.key:=fp hx
 rw[Zn3]at h
 obtain⟨y,hy,e⟩:=fh.1 h
 exact⟨y,hy,congrArg (·.2.2) e⟩
end Go.Hal
namespace Go.Hal
def wDev:List UInt8:=[100,101,118]
def wPins:List UInt8:=[112,105,110,115]
def pjText:List UInt8:=[112,114,111,106,101,99,116,10]
def Zk7(m:Mani):List UInt8:=(((pjText++Zbh wNeeds m.deps)++Zbh wDev m.dev)++Zbh wLikes m.opt)++Zbh wPins m.over
def Zgy(m:Mani):Bool:=Zs m.deps&&Zs m.dev&&Zs m.opt&&Zs m.over
def Zpl(m:Mani):Bool:=Ze1 m.deps m.dev&&Ze1 m.deps m.opt&&Ze1 m.dev m.opt
def Zef(m:Mani):Bool:=Zgy m&&(Zpl m&&decide ((Zk7 m).length≤4096))
def Zev:List Dep→Bool
 | []=>true
 | [_]=>true
 |x::y::r=>!decide (cmpS y.name x.name<0)&&Zev (y::r)
def okD(d:Dep):Bool:=Zn d.name&&Zaa d.range&& !d.range.isEmpty
def wk(l:List Dep):Bool:=decide (l.length≤16)&&Zev l&&l.all okD
def may3(a b c:List Dep):Bool:=Zs a&&Zs b&&Zs c&&decide ((a++b++c).map (·.name)).Nodup
theorem Zti: ∀{l:List Dep} {p:Option ByteArray},Zcz p l=true→Zev l=true∧l.all okD=true
 | [],_,_=>⟨rfl,rfl⟩
 | [x],p,h=>by
  rw[Zcz]at h
  simp only[bx]at h
  exact⟨rfl,by simp[okD,h.1.1.1.1,h.1.1.1.2,h.1.1.2]⟩
 |x::y::r,p,h=>by
  rw[Zcz]at h
  simp only[bx]at h
  obtain⟨h1,h2⟩:=Zti h.2
  rw[Zcz]at h
  simp only[bx,Zkc]at h
  refine⟨?_,?_⟩
  ·rw[Zev,h1]
   have h3:bLt x.name y.name=true:=h.2.1.2
   have h4: ¬cmpS y.name x.name<0:=λhc=>by rw[Zm5,Zl2 h3]at hc; cases hc
   simp[h4]
  ·rw[jv,h2]
   simp[okD,h.1.1.1.1,h.1.1.1.2,h.1.1.2]
theorem Zm7{l:List Dep}(h:Zs l=true):wk l=true:=by
 unfold Zs at h
 simp only[bx]at h
 obtain⟨h1,h2⟩:=Zti h.1
 unfold wk
 rw[h1,h2,h.2]; rfl
theorem wk_go: ∀{l:List Dep} {p:Option ByteArray},Zev l=true→l.all okD=true→(l.map (·.name)).Nodup→(∀x,l.head? =some x→Zkc p x.name=true)→Zcz p l=true
 | [],_,_,_,_,_=>rfl
 | [x],p,_,h2,_,h4=>by
  rw[Zcz,Zcz,h4 x rfl]
  simp[okD]at h2
  simp[h2]
 |x::y::r,p,h1,h2,h3,h4=>by
  rw[Zev]at h1
  rw[jv]at h2
  rw[bx]at h1 h2
  rw[fg,lj]at h3
  rw[Zcz,h4 x rfl,wk_go h1.2 h2.2 h3.2 λz hz=>?_]
  ·have:=h2.1
   unfold okD at this
   rw[this]; rfl
  ·simp only[List.head?_cons,cw]at hz
   subst hz
   show bLt x.name y.name=true
   have h5: ¬cmpS y.name x.name<0:=by simpa using h1.1
   have hO:=Zhf (α:=ByteArray) id
   have:=hO.flip y.name x.name
   have:=hO.flip x.name y.name
   simp only[id]at*
   refine Zs4 oM λe=>h3.1 ?_
   rw[e]; simp
theorem Z29{l:List Dep}(h:wk l=true)(hn:(l.map (·.name)).Nodup):Zs l=true:=by
 unfold wk at h
 simp only[bx]at h
 unfold Zs
 rw[wk_go h.1.2 h.2 hn λ_ _=>rfl,h.1.1]; rfl
theorem Z87{a b c:List Dep}(ha:wk a=true)(hb:wk b=true)(hc:wk c=true):may3 a b c=decide ((a++b++c).map (·.name)).Nodup:=by
 unfold may3
 cases h:decide ((a++b++c).map (·.name)).Nodup
 ·rw[Bool.and_false]
 ·have hn:=of_decide_eq_true h
  rw[ec,ec,gi,gi]at hn
  rw[Z29 ha hn.1.1,Z29 hb hn.1.2.1,Z29 hc hn.2.1]; rfl
theorem Znj{a b c:List Dep}(h:wk a=false∨wk b=false∨wk c=false):may3 a b c=false:=by
 cases hm:may3 a b c
 ·rfl
 ·unfold may3 at hm
  simp only[bx]at hm
  rcases h with h|h|h
  ·rw[Zm7 hm.1.1.1]at h; cases h
  ·rw[Zm7 hm.1.1.2]at h; cases h
  ·rw[Zm7 hm.1.2]at h; cases h
theorem Zwa(a b c:List Dep):may3 a b c=(Zs a&&Zs b&&Zs c&&(Ze1 a b&&Ze1 a c&&Ze1 b c)):=by
 unfold may3
 cases h:(Zs a&&Zs b&&Zs c)
 ·simp
 ·simp only[bx]at h
  rw[dw,dw,ep,decide_eq_true_eq,bx,bx,Zgg,Zgg,Zgg]
  have h1:=Zfe h.1.1; have h2:=Zfe h.1.2; have h3:=Zfe h.2
  rw[ec,ec,gi,gi]
  constructor
  ·rintro⟨⟨_,_,h4⟩,_,h5⟩
   exact⟨⟨h4,λx hx y hy=>h5 x (gb _ hx) y hy⟩,λx hx y hy=>h5 x (ii _ hx) y hy⟩
  ·rintro⟨⟨h4,h5⟩,h6⟩
   exact⟨⟨h1,h2,h4⟩,h3,λx hx y hy=>(dj.1 hx).elim (λhx=>h5 x hx y hy) λhx=>h6 x hx y hy⟩
theorem Z1p(l:List Dep):may3 l [] []=Zs l:=by
 rw[Zwa]
 have:Ze1 l []=true:=by rw[Zgg]; intro x _ y hy; simp at hy
 have h2:Ze1 ([]:List Dep) []=true:=rfl
 have h3:Zs []=true:=rfl
 rw[this,h2,h3]; simp
theorem Zy5(m:Mani):Zef m=((may3 m.deps m.dev m.opt&&may3 m.over [] [])&&decide ((Zk7 m).length≤4096)):=by
 rw[Z1p,Zwa]
 unfold Zef Zgy Zpl
 cases Zs m.deps<;>cases Zs m.dev<;>cases Zs m.opt<;>cases Zs m.over<;>simp
theorem Zsh(h:Zef m=true):Zs m.deps=true∧Zs m.dev=true∧Zs m.opt=true∧Zs m.over=true∧Zpl m=true:=by
 unfold Zef Zgy at h
 simp only[bx]at h
 exact⟨h.1.1.1.1,h.1.1.1.2,h.1.1.2,h.1.2,h.2.1⟩
theorem Zmf(h:Zef m=true):m.deps.length+m.dev.length+m.opt.length≤48:=by
 obtain⟨h1,h2,h3,_⟩:=Zsh h
 have:=(Zr h1).1; have:=(Zr h2).1; have:=(Zr h3).1
 omega
end Go.Hal
namespace Go.Hal
def RiseN{α:Type}(f:α→ByteArray)(l:List α):Prop:=l.Pairwise λa b=>bLt (f a) (f b)=true
theorem Zzg{α:Type}{f:α→ByteArray}{l:List α}{a x:α}(h:RiseN f (l++ [a]))(hx:bLt (f a) (f x)=true):RiseN f (l++ [a]++ [x]):=by
 unfold RiseN at*
 rw[eu]
 refine⟨h,by simp,λb hb c hc=>?_⟩
 simp only[ci]at hc
 subst hc
 rcases dj.1 hb with hb|hb
 ·exact Zkd ((eu.1 h).2.2 b hb a sI) hx
 ·simp only[ci]at hb; subst hb; exact hx
theorem RiseN.nodup{α:Type}{f:α→ByteArray}{l:List α}(h:RiseN f l):(l.map f).Nodup:=by
 rw[fe,fy]
 exact h.imp λh=>Znu h
theorem RiseN.inj{α:Type}{f:α→ByteArray}{l:List α}(h:RiseN f l){a b:α}(ha:a∈l)(hb:b∈l)(he:f a=f b):a=b:=by
 obtain⟨i,hi,rfl⟩:=cy.1 ha
 obtain⟨j,hj,rfl⟩:=cy.1 hb
 have hp:=cr.1 h
 rcases jm i j with a0|rfl|a0
 ·exact absurd he (Znu (hp i j hi hj a0))
 ·rfl
 ·exact absurd he.symm (Znu (hp j i hj hi a0))
def Z1(g:List Node)(k:Nat):List Edge:=match g[k]? with
 |some x=>x.edges
 |none=>[]
def Znx(g:List Node)(x:Node)(n:ByteArray):Option Node:=(x.edges.find? λe=>decide (e.name=n)).bind λe=>g[e.to.toNat]?
theorem Zvv{g:List Node}{x y:Node}(h:Znx g x n=some y): ∃e∈x.edges,e.name=n∧g[e.to.toNat]? =some y:=by
 unfold Znx at h
 obtain⟨e,h1,h2⟩:=Option.bind_eq_some_iff.1 h
 exact⟨e,ic h1,by simpa using js h1,h2⟩
end Go.Hal
