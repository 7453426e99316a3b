/- Lemmas for the claim K21r: how the program's functions run, and what they answer; no condition but those that each theorem names. -/
import Derived.Test.YtdjiedhnoanbpaaGreatDoorProg
import Derived.Test.YtdjiedhnoanbpaaGreatDoorK21rB1
set_option linter.unusedVariables false
set_option linter.unusedSimpArgs false
set_option maxHeartbeats 16000000
namespace Go.Hal
open Go.Proofs.Tryz
open Go Go.RowKit Go.Proofs
namespace StV
abbrev El:Type:=Ver×Nat
def cells(x:Ver):List Value:=x.c
def fc(x:El):List Value:=cells x.1
theorem Za0(x:El):(fc x).length=3:=rfl
def CmpOk(cmp:Value)(c:Ver→Ver→Int)(g:Nat)(w0:World):Prop:=
 ∀(x y:Ver) (w:World) (k:Value→World→Prop),But g w0 w→(∀w',Ext w w'→k (.int .i64 (c x y)) w')→callV prog cmp [.agg (cells x).toArray,.agg (cells y).toArray] w k
theorem CmpOk.but{cmp:Value}{c:Ver→Ver→Int}{g:Nat}{w0 w1:World}(h:CmpOk cmp c g w0)(hb:But g w0 w1):CmpOk cmp c g w1:=λx y w k hw hk=>h x y w k (hb.trans hw) hk
section
variable {cmp:Value} {c:Ver→Ver→Int} {g:Nat}
theorem Zgg(hO:Ord3 c){data:Sl}{w:World}{R:World→Prop}{A M0 B:List El}{tail:List Value}{a b:Int}(hc:CmpOk cmp c g w)(hd:data.a=some ⟨g,0,none⟩)(hlen:data.len=(A++M0++B).length)(hbig:data.len<4611686018427387904)
  (hB:RowB fc w g (A++M0++B) tail) (ha:a=(A.length:Int)) (hb:b=((A.length+M0.length:Nat):Int)) (hM:M0.Pairwise λx y=>x.2<y.2)
  (hR: ∀w' M,But g w w'→M.Perm M0→M.Pairwise (Ah c)→RowB fc w' g (A++M++B) tail→R w'):SE.Zg data a b cmp w R:=by
 unfold SE.Zg
 subst ha hb
 simp only[List.length_append]at hlen
 rw[Zc oM oM]
 by_cases h0:M0= []
 ·subst h0
  refine⟨λi w'=>w'=w∧i=(A.length:Int)+1,λ_ _=>0,⟨rfl,rfl⟩,?_⟩
  rintro i w' ⟨rfl,rfl⟩
  refine⟨λh=>?_,λ_=>hR _ [] ⟨Nat.le_refl _,rfl,rfl,rfl,λ_ _ _=>rfl⟩ (List.Perm.refl _) .nil hB⟩
  simp at h; omega
 have hpos:0<M0.length:=List.length_pos_iff.2 h0
 refine⟨λi w'=>∃(n:Nat) (M:List El),i=((A.length+n:Nat):Int)∧1≤n∧n≤M0.length∧But g w w'∧M.Perm (M0.take n)∧M.Pairwise (Ah c)∧RowB fc w' g (A++M++(M0.drop n++B)) tail,λi _=>(A.length+M0.length) - i.toNat,⟨1,M0.take 1,oM,Nat.le_refl _,hpos,⟨Nat.le_refl _,rfl,rfl,rfl,λ_ _ _=>rfl⟩,List.Perm.refl _,?_,?_⟩,?_⟩
 ·cases M0 with
  |nil=>exact .nil
  |cons x r=>exact List.pairwise_singleton _ _
 ·rw[←List.append_assoc,List.append_assoc A,List.take_append_drop]; exact hB
 rintro i w1 ⟨n,M,rfl,hn1,hn2,b1,hp,hs,hB1⟩
 have hMl:M.length=n:=by rw[hp.length_eq,List.length_take]; omega
 refine⟨λhlt=>?_,λhge=>?_⟩
 ·have hn3:n<M0.length:=oM
  have hdrop:M0.drop n=M0[n]::M0.drop (n+1):=List.drop_eq_getElem_cons hn3
  have hx: ∀y∈M,y.2<M0[n].2:=λy hy=>by
   have hy':=hp.mem_iff.1 hy
   obtain⟨j,hj,rfl⟩:=List.mem_iff_getElem.1 hy'
   rw[List.length_take]at hj
   rw[List.getElem_take]
   exact List.pairwise_iff_getElem.1 hM j n oM hn3 oM
  rw[hdrop]at hB1
  generalize hX:M0[n]=x at*
  refine⟨λj w'=>∃(M1 M2:List El),j=((A.length+M1.length:Nat):Int)∧M1++M2=M∧(∀y∈M2,Ah c x y)∧But g w w'∧RowB fc w' g (A++M1++x::(M2++(M0.drop (n+1)++B))) tail,λj _=>j.toNat,⟨M,[],by rw[hMl],by simp,by simp,b1,by simpa using hB1⟩,?_⟩
  rintro j w2 ⟨M1,M2,rfl,hM12,hx2,b2,hB2⟩
  refine bnd.drew λw3 x3=>bound ?_
  have hB3:=hB2.ext x3
  have b3:But g w w3:=b2.ext' x3
  have hl12:M1.length+M2.length=n:=by rw[←hMl,←hM12,List.length_append]
  have fin: ∀w' w0,But g w w'→RowB fc w' g (A++M1++x::(M2++(M0.drop (n+1)++B))) tail→(∀y∈M1,Ah c y x)→w0=w'→
    (∃(n':Nat) (M':List El),Za (((A.length+n:Nat):Int)+1)=((A.length+n':Nat):Int)∧1≤n'∧n'≤M0.length∧But g w w0∧M'.Perm (M0.take n')∧M'.Pairwise (Ah c)∧RowB fc w0 g (A++M'++(M0.drop n'++B)) tail)∧(A.length+M0.length) - (Za (((A.length+n:Nat):Int)+1)).toNat<(A.length+M0.length) - (((A.length+n:Nat):Int)).toNat:=λw' w0 b' hB' h1 e=>by
   subst e
   rw[Zc oM oM]
   refine⟨⟨n+1,M1++x::M2,oM,oM,oM,b',?_,?_,by simpa using hB'⟩,oM⟩
   ·rw[List.take_succ_eq_append_getElem hn3,hX]
    refine(List.perm_middle).trans ?_
    rw[hM12]
    exact(hp.cons x).trans (List.perm_append_singleton x _).symm
   ·rw[←hM12]at hs
    obtain⟨p1,p2,p3⟩:=List.pairwise_append.1 hs
    refine List.pairwise_append.2 ⟨p1,List.pairwise_cons.2 ⟨hx2,p2⟩,λy hy z hz=>?_⟩
    rcases List.mem_cons.1 hz with rfl|hz
    ·exact h1 y hy
    ·exact p3 y hy z hz
  rcases List.eq_nil_or_concat M1 with rfl|⟨M1',y,rfl⟩
  ·have hf:decide ((A.length:Int)<((A.length+([]:List El).length:Nat):Int))=false:=by simp
   rw[hf]
   refine⟨⟨g,0,none⟩,nO,0,0,0,nO,⟨g,0,none⟩,nO,0,0,0,nO,nO,λ_=>⟨nO,λ_=> ?_⟩⟩
   exact fin w3 w3 b3 hB3 sI rfl
  ·simp only[List.concat_eq_append]at*
   have hj:decide ((A.length:Int)<((A.length+(M1'++ [y]).length:Nat):Int))=true:=by simp; omega
   rw[hj]
   have hlM:(M1'++ [y]).length=M1'.length+1:=by simp
   have e1:Za (((A.length+(M1'++ [y]).length:Nat):Int) - 1)=((A.length+M1'.length:Nat):Int):=by rw[hlM,Zc oM oM]; omega
   rw[e1]
   have hl2:data.len=A.length+(n+1+(M0.drop (n+1)++B).length):=by
    rw[hlen,List.length_append,List.length_drop]; omega
   have eB:A++(M1'++ [y])++x::(M2++(M0.drop (n+1)++B))=(A++M1')++y::x::(M2++(M0.drop (n+1)++B)):=by simp
   rw[eB]at hB3
   have ey:(A++M1').length=A.length+M1'.length:=List.length_append
   have gy:=hB3.ld' Za0 (Zgr ey)
   have gx:=hB3.ld' Za0 (Zh2 (n:=A.length+(M1'++ [y]).length) (by rw[hlM,ey]; omega))
   have hym:y∈M:=by rw[←hM12]; simp
   have hright:=Ah.right hO (hx y hym)
   refine⟨_,λ_=>⟨hd,oM,oM⟩,_,_,_,λ_=>gx,_,λ_=>⟨hd,oM,oM⟩,_,_,_,λ_=>gy,λ_=> ?_,nO⟩
   refine hc x.1 y.1 w3 _ b3 λw4 x4=>⟨_,rfl,λh=>?_,λh=>?_⟩
   ·simp only[Bool.true_and,decide_eq_true_eq]at h
    refine bnd.drew λw5 x5=>?_
    have x35:=x4.trans x5
    have hB5:=hB3.ext x35
    have gy5:=hB5.ld' Za0 (Zgr ey)
    have gx5:=hB5.ld' Za0 (Zh2 (n:=A.length+(M1'++ [y]).length) (by rw[hlM,ey]; omega))
    refine⟨_,⟨hd,oM,oM⟩,_,_,_,gy5,_,⟨hd,oM,oM⟩,_,_,_,gx5,_,⟨hd,oM,oM⟩,hB5.st Za0 (i:=A.length+(M1'++ [y]).length) (x:=y) (by simp only[List.length_append,List.length_cons,List.length_nil]; omega) λw6 b6 hB6=>⟨_,⟨hd,oM,oM⟩,hB6.st Za0 (i:=A.length+M1'.length) (x:=x) (by simp only[List.length_set,List.length_append,List.length_cons,List.length_nil]; omega) λw7 b7 hB7=>?_⟩⟩
    have e2:((((A++M1')++y::x::(M2++(M0.drop (n+1)++B))).set (A.length+(M1'++ [y]).length) y).set (A.length+M1'.length) x)=(A++M1')++x::y::(M2++(M0.drop (n+1)++B)):=by
     have:=Znf (A++M1') (M2++(M0.drop (n+1)++B)) y x
     rw[ey]at this
     rw[hlM,←Nat.add_assoc]; exact this
    rw[e2]at hB7
    refine⟨⟨M1',y::M2,rfl,by rw[←hM12]; simp,λz hz=>?_,((b3.ext' x35).trans b6).trans b7,by simpa using hB7⟩,by rw[hlM]; omega⟩
    rcases List.mem_cons.1 hz with rfl|hz
    ·exact hright.1 h
    ·exact hx2 z hz
   ·simp only[Bool.true_and,decide_eq_false_iff_not]at h
    refine fin w4 w4 (b3.ext' x4) (by rw[eB]; exact hB3.ext x4) (λz hz=>?_) rfl
    have hyx:=hright.2 h
    rcases List.mem_append.1 hz with hz|hz
    ·refine Ah.trans hO ?_ hyx
     rw[←hM12]at hs
     have:=(List.pairwise_append.1 (List.pairwise_append.1 hs).1).2.2 z hz y sI
     exact this
    ·simp at hz; subst hz; exact hyx
 ·have hn:n=M0.length:=oM
  subst hn
  rw[List.take_length]at hp
  rw[List.drop_length,List.nil_append]at hB1
  exact hR w1 M b1 hp hs hB1
theorem Zer{data:Sl}{w:World}{R:World→Prop}{P X M Y Q:List El}{tail:List Value}{a b n:Int}(hd:data.a=some ⟨g,0,none⟩)(hlen:data.len=(P++X++M++Y++Q).length)(hbig:data.len<4611686018427387904)
  (hB:RowB fc w g (P++X++M++Y++Q) tail) (ha:a=(P.length:Int)) (hb:b=((P.length+X.length+M.length:Nat):Int)) (hn:n=(X.length:Int)) (hXY:Y.length=X.length)
  (hR: ∀w',But g w w'→RowB fc w' g (P++Y++M++X++Q) tail→R w'):SE.Zn data a b n cmp w R:=by
 unfold SE.Zn
 subst ha hb hn
 simp only[List.length_append]at hlen
 refine loop1.up (N:=X.length) (by rw[Zb]; omega) (λi w'=>But g w w'∧RowB fc w' g (P++(Y.take i++X.drop i)++M++(X.take i++Y.drop i)++Q) tail) ⟨⟨Nat.le_refl _,rfl,rfl,rfl,λ_ _ _=>rfl⟩,by simpa using hB⟩ λi w1 nxt hi ⟨b1,hB1⟩ hnx=>⟨λhlt=>?_,λhge=>?_⟩
 ·have hi':i<X.length:=oM
  have hiY:i<Y.length:=oM
  refine bnd.drew λw2 x2=>?_
  rw[Zc (x:=((P.length+X.length+M.length:Nat):Int)+(i:Int)) oM oM,Zc (x:=(P.length:Int)+(i:Int)) oM oM]
  rw[show((P.length+X.length+M.length:Nat):Int)+(i:Int)=((P.length+X.length+M.length+i:Nat):Int) by omega,show(P.length:Int)+(i:Int)=((P.length+i:Nat):Int) by omega]
  have hB2:=hB1.ext x2
  have eL:P++(Y.take i++X.drop i)++M++(X.take i++Y.drop i)++Q=(P++Y.take i)++X[i]::((X.drop (i+1)++M++X.take i)++Y[i]::(Y.drop (i+1)++Q)):=by
   rw[List.drop_eq_getElem_cons hi',List.drop_eq_getElem_cons hiY]; simp only[List.append_assoc,List.cons_append]
  rw[eL]at hB2
  have l1:(P++Y.take i).length=P.length+i:=by simp; omega
  have l2:(X.drop (i+1)++M++X.take i).length+1=X.length+M.length:=by simp; omega
  have gx:=hB2.ld' Za0 (Zgr l1)
  have hgy:((P++Y.take i)++X[i]::((X.drop (i+1)++M++X.take i)++Y[i]::(Y.drop (i+1)++Q)))[P.length+X.length+M.length+i]? =some Y[i]:=by
   rw[←List.cons_append,←List.append_assoc]
   refine Zgr ?_
   simp only[List.length_append,List.length_cons]at l1 l2 ⊢; omega
  have gy:=hB2.ld' Za0 hgy
  have b2:=b1.ext' x2
  have hln:((P++Y.take i)++X[i]::((X.drop (i+1)++M++X.take i)++Y[i]::(Y.drop (i+1)++Q))).length=data.len:=by
   rw[←eL,hlen]; simp; omega
  refine⟨_,⟨hd,oM,oM⟩,_,_,_,gy,_,⟨hd,oM,oM⟩,_,_,_,gx,_,⟨hd,oM,oM⟩,hB2.st Za0 (i:=P.length+i) (x:=Y[i]) (by rw[hln]; omega) λw3 b3 hB3=>⟨_,⟨hd,oM,oM⟩,hB3.st Za0 (i:=P.length+X.length+M.length+i) (x:=X[i]) (by rw[List.length_set,hln]; omega) λw4 b4 hB4=>hnx hi' _ ⟨(b2.trans b3).trans b4,?_⟩⟩⟩
  have e:=Zv3 (P++Y.take i) (X.drop (i+1)++M++X.take i) (Y.drop (i+1)++Q) X[i] Y[i]
  rw[l1,show P.length+i+1+(X.drop (i+1)++M++X.take i).length=P.length+X.length+M.length+i by omega]at e
  rw[e]at hB4
  have e2:P++(Y.take (i+1)++X.drop (i+1))++M++(X.take (i+1)++Y.drop (i+1))++Q=(P++Y.take i)++Y[i]::((X.drop (i+1)++M++X.take i)++X[i]::(Y.drop (i+1)++Q)):=by
   rw[List.take_succ_eq_append_getElem hi',List.take_succ_eq_append_getElem hiY]; simp only[List.append_assoc,List.cons_append,List.nil_append]
  rw[e2]; exact hB4
 ·have:i=X.length:=oM
  subst this
  rw[List.take_of_length_le oM,List.drop_length,List.append_nil,List.take_length,List.drop_eq_nil_of_le oM,List.append_nil]at hB1
  exact hR w1 b1 hB1
theorem Zok{data:Sl}{w:World}{R:World→Prop}{P X Y Q:List El}{tail:List Value}{a m b:Int}(hd:data.a=some ⟨g,0,none⟩)(hlen:data.len=(P++X++Y++Q).length)(hbig:data.len<4611686018427387904)
  (hB:RowB fc w g (P++X++Y++Q) tail) (ha:a=(P.length:Int)) (hm:m=((P.length+X.length:Nat):Int)) (hb:b=((P.length+X.length+Y.length:Nat):Int)) (hX:0<X.length) (hY:0<Y.length)
  (hR: ∀w',But g w w'→RowB fc w' g (P++Y++X++Q) tail→R w'):SE.Zai data a m b cmp w R:=by
 unfold SE.Zai
 subst ha hb hm
 simp only[List.length_append]at hlen
 refine⟨λi j w'=>∃P' X' Y' Q':List El,i=(X'.length:Int)∧j=(Y'.length:Int)∧P'.length+X'.length=P.length+X.length∧0<X'.length∧0<Y'.length∧data.len=P'.length+X'.length+Y'.length+Q'.length∧P'++Y'++X'++Q'=P++Y++X++Q∧But g w w'∧RowB fc w' g (P'++X'++Y'++Q') tail,
  λi j _=>i.toNat+j.toNat,⟨P,X,Y,Q,by rw[Zc oM oM]; omega,by rw[Zc oM oM]; omega,rfl,hX,hY,hlen,rfl,⟨Nat.le_refl _,rfl,rfl,rfl,λ_ _ _=>rfl⟩,hB⟩,?_⟩
 rintro i j w1 ⟨P',X',Y',Q',rfl,rfl,hm,hX',hY',hl,hg,b1,hB1⟩
 have wi:Za (((P.length+X.length:Nat):Int) - (X'.length:Int))=(P'.length:Int):=by rw[Zc oM oM]; omega
 rw[wi]
 refine⟨λhne=>⟨λhlt=>?_,λhge=>?_⟩,λheq=>?_⟩
 ·have hXe:X'=X'.take Y'.length++X'.drop Y'.length:=(List.take_append_drop _ _).symm
  have l1:(X'.take Y'.length).length=Y'.length:=by rw[List.length_take]; omega
  have l2:(X'.drop Y'.length).length=X'.length - Y'.length:=List.length_drop
  generalize X'.take Y'.length=X1 at*
  generalize X'.drop Y'.length=X2 at*
  subst hXe
  rw[List.length_append]at*
  refine SE.Zn.go (Zer (P:=P') (X:=X1) (M:=X2) (Y:=Y') (Q:=Q') hd (by simp only[List.length_append]; omega) hbig (by simpa using hB1) rfl oM oM oM λw2 b2 hB2=>⟨rfl,?_⟩)
  rw[Zc oM oM]
  refine⟨⟨P'++Y',X2,X1,Q',oM,oM,by rw[List.length_append]; omega,oM,oM,by rw[List.length_append]; omega,by rw[←hg]; simp,b1.trans b2,by simpa using hB2⟩,by show Int.toNat _+Int.toNat _<Int.toNat _+Int.toNat _; omega⟩
 ·have hlt:X'.length<Y'.length:=by
   rcases Nat.lt_trichotomy X'.length Y'.length with h|h|h
   ·exact h
   ·exact absurd (by rw[h]) hne
   ·omega
  have hYe:Y'=Y'.take (Y'.length - X'.length)++Y'.drop (Y'.length - X'.length):=(List.take_append_drop _ _).symm
  have l1:(Y'.take (Y'.length - X'.length)).length=Y'.length - X'.length:=by rw[List.length_take]; omega
  have l2:(Y'.drop (Y'.length - X'.length)).length=X'.length:=by rw[List.length_drop]; omega
  generalize hn1:Y'.take (Y'.length - X'.length)=Y1 at*
  generalize hn2:Y'.drop (Y'.length - X'.length)=Y2 at*
  clear hn1 hn2
  subst hYe
  rw[List.length_append]at*
  have e1:Za (Za (((P.length+X.length:Nat):Int)+((Y1.length+Y2.length:Nat):Int)) - (X'.length:Int))=((P'.length+X'.length+Y1.length:Nat):Int):=by
   rw[Zc (x:=((P.length+X.length:Nat):Int)+((Y1.length+Y2.length:Nat):Int)) oM oM,Zc oM oM]; omega
  rw[e1]
  refine SE.Zn.go (Zer (P:=P') (X:=X') (M:=Y1) (Y:=Y2) (Q:=Q') hd (by simp only[List.length_append]; omega) hbig (by simpa using hB1) rfl rfl rfl l2 λw2 b2 hB2=>⟨rfl,?_⟩)
  rw[Zc oM oM]
  refine⟨⟨P',Y2,Y1,X'++Q',oM,oM,oM,oM,oM,by rw[List.length_append]; omega,by rw[←hg]; simp,b1.trans b2,by simpa using hB2⟩,by show Int.toNat _+Int.toNat _<Int.toNat _+Int.toNat _; omega⟩
 ·have heq:X'.length=Y'.length:=by
   have:=Classical.not_not.1 heq; omega
  refine SE.Zn.go (Zer (P:=P') (X:=X') (M:=[]) (Y:=Y') (Q:=Q') hd (by simp only[List.length_append,List.length_nil]; omega) hbig (by simpa using hB1) rfl (by simp only[List.length_nil]; omega) rfl heq.symm λw2 b2 hB2=>⟨rfl,?_⟩)
  exact hR w2 (b1.trans b2) (by rw[←hg]; simpa using hB2)
theorem Zd6(hO:Ord3 c){data:Sl}{tail:List Value}(hd:data.a=some ⟨g,0,none⟩)(hbig:data.len<4611686018427387904):
  ∀(N:Nat) {w:World} {R:World→Prop} {P L X Q:List El} {a m b:Int},L.length+X.length≤N→CmpOk cmp c g w→data.len=(P++L++X++Q).length→RowB fc w g (P++L++X++Q) tail→
   a=(P.length:Int)→m=((P.length+L.length:Nat):Int)→b=((P.length+L.length+X.length:Nat):Int)→0<L.length→0<X.length→L.Pairwise (Ah c)→X.Pairwise (Ah c)→(∀x∈L,∀y∈X,x.2<y.2)→
   (∀w' M,But g w w'→M.Perm (L++X)→M.Pairwise (Ah c)→RowB fc w' g (P++M++Q) tail→R w')→SE.Zk data a m b cmp w R
 |0,_,_,_,L,_,_,_,_,_,h,_,_,_,_,_,_,hL,_,_,_,_,_=>by omega
 |N+1,w,R,P,L,X,Q,_,_,_,hN,hc,hlen,hB,rfl,rfl,rfl,hL0,hX0,hL,hX,hid,hR=>by
  unfold SE.Zk
  simp only[List.length_append]at hlen
  have refl:But g w w:=⟨Nat.le_refl _,rfl,rfl,rfl,λ_ _ _=>rfl⟩
  have eL: ∀(u:Nat) (hu:u<L.length),(P++L++X++Q)[P.length+u]? =some L[u]:=λu hu=>by
   rw[List.append_assoc,List.append_assoc,List.getElem?_append_right oM,List.getElem?_append_left oM,Nat.add_sub_cancel_left]; exact List.getElem?_eq_getElem hu
  have eX: ∀(u:Nat) (hu:u<X.length),(P++L++X++Q)[P.length+L.length+u]? =some X[u]:=λu hu=>by
   rw[List.append_assoc,List.getElem?_append_right (by rw[List.length_append]; omega),List.length_append,Nat.add_sub_cancel_left,List.getElem?_append_left oM]; exact List.getElem?_eq_getElem hu
  have wm:Za (((P.length+L.length:Nat):Int) - (P.length:Int))=(L.length:Int):=by rw[Zc oM oM]; omega
  have wb:Za (((P.length+L.length+X.length:Nat):Int) - ((P.length+L.length:Nat):Int))=(X.length:Int):=by rw[Zc oM oM]; omega
  rw[wm,wb]
  refine⟨λh1=>?_,λh1=>⟨λh2=>?_,λh2=>?_⟩⟩
  ·
   obtain⟨x,rfl⟩:=List.length_eq_one_iff.1 (show L.length=1 by omega)
   simp only[List.length_cons,List.length_nil]at*
   refine⟨λi j w'=>∃p q:Nat,i=((P.length+(0+1)+p:Nat):Int)∧j=((P.length+(0+1)+q:Nat):Int)∧p≤q∧q≤X.length∧(∀(u:Nat) (hu:u<X.length),u<p→Ah c X[u] x)∧(∀(u:Nat) (hu:u<X.length),q≤u→Ah c x X[u])∧Ext w w',
    λi j _=>(j - i).toNat,⟨0,X.length,oM,oM,oM,oM,λu _ h=>by omega,λu h1 h2=>by omega,Ext.refl _⟩,?_⟩
   rintro _ _ w1 ⟨p,q,rfl,rfl,hpq,hq,hp1,hq1,x1⟩
   refine⟨λhlt=>bnd.drew λw2 x2=>?_,λhge=>?_⟩
   ·rw[half oM]
    have he:(P.length+(0+1)+p+(P.length+(0+1)+q))/2=P.length+(0+1)+(p+q)/2:=oM
    rw[he]
    have heX:(p+q)/2<X.length:=oM
    have hB2:=hB.ext (x1.trans x2)
    have gx:=hB2.ld' Za0 (eL 0 sI)
    have gy:=hB2.ld' Za0 (eX _ heX)
    have hright:=Ah.right hO (hid x sI _ (List.getElem_mem heX))
    refine⟨_,⟨hd,oM,oM⟩,_,_,_,gy,_,⟨hd,oM,oM⟩,_,_,_,gx,hc _ x.1 w2 _ (refl.ext' (x1.trans x2)) λw3 x3=>⟨_,rfl,λh=>?_,λh=>?_⟩⟩
    ·have hA:=hright.1 h
     rw[Zc oM oM]
     refine⟨⟨(p+q)/2+1,q,oM,rfl,oM,hq,λu hu hlt=>?_,hq1,x1.trans (x2.trans x3)⟩,by show Int.toNat _<Int.toNat _; omega⟩
     rcases Nat.lt_succ_iff_lt_or_eq.1 hlt with h'|rfl
     ·exact(List.pairwise_iff_getElem.1 hX u _ hu heX h').trans hO hA
     ·exact hA
    ·have hA:=hright.2 h
     refine⟨⟨p,(p+q)/2,rfl,rfl,oM,oM,hp1,λu hu hge=>?_,x1.trans (x2.trans x3)⟩,by show Int.toNat _<Int.toNat _; omega⟩
     rcases Nat.lt_or_eq_of_le hge with h'|rfl
     ·exact hA.trans hO (List.pairwise_iff_getElem.1 hX _ u heX hu h')
     ·exact hA
   ·have hpq':p=q:=oM
    subst hpq'
    have wi:Za (((P.length+(0+1)+p:Nat):Int) - 1)=((P.length+p:Nat):Int):=by rw[Zc oM oM]; omega
    rw[wi]
    refine⟨λk w'=>∃t:Nat,k=((P.length+t:Nat):Int)∧t≤p∧But g w w'∧RowB fc w' g (P++(X.take t++x::X.drop t)++Q) tail,λk _=>(P.length+p) - k.toNat,⟨0,oM,oM,refl.ext' x1,by simpa using hB.ext x1⟩,?_⟩
    rintro _ w2 ⟨t,rfl,htp,b2,hB2⟩
    refine⟨λhlt=>bnd.drew λw3 x3=>?_,λhge=>?_⟩
    ·have htX:t<X.length:=oM
     have e1:Za (((P.length+t:Nat):Int)+1)=((P.length+t+1:Nat):Int):=by rw[Zc oM oM]; omega
     rw[e1]
     have eB:P++(X.take t++x::X.drop t)++Q=(P++X.take t)++x::X[t]::(X.drop (t+1)++Q):=by
      rw[List.drop_eq_getElem_cons htX]; simp only[List.append_assoc,List.cons_append]
     have hB3:=hB2.ext x3
     rw[eB]at hB3
     have ey:(P++X.take t).length=P.length+t:=by rw[List.length_append,List.length_take]; omega
     have gy:=hB3.ld' Za0 (Zgr ey)
     have gx:=hB3.ld' Za0 (Zh2 (n:=P.length+t+1) oM)
     have hln:((P++X.take t)++x::X[t]::(X.drop (t+1)++Q)).length=data.len:=by rw[←eB,hlen]; simp; omega
     refine⟨_,⟨hd,oM,oM⟩,_,_,_,gx,_,⟨hd,oM,oM⟩,_,_,_,gy,_,⟨hd,oM,oM⟩,hB3.st Za0 (i:=P.length+t) (x:=X[t]) (by rw[hln]; omega) λw4 b4 hB4=>⟨_,⟨hd,oM,oM⟩,hB4.st Za0 (i:=P.length+t+1) (x:=x) (by rw[List.length_set,hln]; omega) λw5 b5 hB5=>?_⟩⟩
     have e2:=Zta (P++X.take t) (X.drop (t+1)++Q) x X[t]
     rw[ey]at e2
     rw[e2]at hB5
     refine⟨⟨t+1,oM,oM,((b2.ext' x3).trans b4).trans b5,?_⟩,by show _ - Int.toNat _<_ - Int.toNat _; omega⟩
     rw[List.take_succ_eq_append_getElem htX]
     simpa only[List.append_assoc,List.cons_append,List.nil_append]using hB5
    ·have:t=p:=oM
     subst this
     refine hR w2 _ b2 ?_ ?_ hB2
     ·refine List.perm_middle.trans ?_
      rw[List.take_append_drop]; exact List.Perm.refl _
     ·refine List.pairwise_append.2 ⟨hX.sublist (List.take_sublist _ _),List.pairwise_cons.2 ⟨λy hy=>?_,hX.sublist (List.drop_sublist _ _)⟩,λy hy z hz=>?_⟩
      ·obtain⟨u,hu,rfl⟩:=List.mem_iff_getElem.1 hy
       rw[List.length_drop]at hu
       rw[List.getElem_drop]; exact hq1 _ oM oM
      ·obtain⟨u,hu,rfl⟩:=List.mem_iff_getElem.1 hy
       rw[List.length_take]at hu
       rw[List.getElem_take]
       have hyx:=hp1 u oM oM
       rcases List.mem_cons.1 hz with rfl|hz
       ·exact hyx
       ·obtain⟨v,hv,rfl⟩:=List.mem_iff_getElem.1 hz
        rw[List.length_drop]at hv
        rw[List.getElem_drop]; exact hyx.trans hO (hq1 _ oM oM)
  ·
   obtain⟨y,rfl⟩:=List.length_eq_one_iff.1 (show X.length=1 by omega)
   simp only[List.length_cons,List.length_nil]at*
   refine⟨λi j w'=>∃p q:Nat,i=((P.length+p:Nat):Int)∧j=((P.length+q:Nat):Int)∧p≤q∧q≤L.length∧(∀(u:Nat) (hu:u<L.length),u<p→Ah c L[u] y)∧(∀(u:Nat) (hu:u<L.length),q≤u→Ah c y L[u])∧Ext w w',
    λi j _=>(j - i).toNat,⟨0,L.length,oM,oM,oM,oM,λu _ h=>by omega,λu h1 h2=>by omega,Ext.refl _⟩,?_⟩
   rintro _ _ w1 ⟨p,q,rfl,rfl,hpq,hq,hp1,hq1,x1⟩
   refine⟨λhlt=>bnd.drew λw2 x2=>?_,λhge=>?_⟩
   ·rw[half oM]
    have he:(P.length+p+(P.length+q))/2=P.length+(p+q)/2:=oM
    rw[he]
    have heX:(p+q)/2<L.length:=oM
    have hB2:=hB.ext (x1.trans x2)
    have gx:=hB2.ld' Za0 (eX 0 sI)
    have gy:=hB2.ld' Za0 (eL _ heX)
    have hright:=Ah.right hO (hid _ (List.getElem_mem heX) y sI)
    refine⟨_,⟨hd,oM,oM⟩,_,_,_,gx,_,⟨hd,oM,oM⟩,_,_,_,gy,hc y.1 _ w2 _ (refl.ext' (x1.trans x2)) λw3 x3=>⟨_,rfl,λh=>?_,λh=>?_⟩⟩
    ·have hA:=hright.2 h
     rw[Zc oM oM]
     refine⟨⟨(p+q)/2+1,q,oM,rfl,oM,hq,λu hu hlt=>?_,hq1,x1.trans (x2.trans x3)⟩,by show Int.toNat _<Int.toNat _; omega⟩
     rcases Nat.lt_succ_iff_lt_or_eq.1 hlt with h'|rfl
     ·exact(List.pairwise_iff_getElem.1 hL u _ hu heX h').trans hO hA
     ·exact hA
    ·have hA:=hright.1 (Classical.not_not.1 h)
     refine⟨⟨p,(p+q)/2,rfl,rfl,oM,oM,hp1,λu hu hge=>?_,x1.trans (x2.trans x3)⟩,by show Int.toNat _<Int.toNat _; omega⟩
     rcases Nat.lt_or_eq_of_le hge with h'|rfl
     ·exact hA.trans hO (List.pairwise_iff_getElem.1 hL _ u heX hu h')
     ·exact hA
   ·have hpq':p=q:=oM
    subst hpq'
    refine⟨λk w'=>∃t:Nat,k=((P.length+t:Nat):Int)∧p≤t∧t≤L.length∧But g w w'∧RowB fc w' g (P++(L.take t++y::L.drop t)++Q) tail,λk _=>k.toNat,⟨L.length,oM,oM,oM,refl.ext' x1,by simpa using hB.ext x1⟩,?_⟩
    rintro _ w2 ⟨t,rfl,htp,htL,b2,hB2⟩
    refine⟨λhlt=>bnd.drew λw3 x3=>?_,λhge=>?_⟩
    ·obtain⟨s,rfl⟩: ∃s,t=s+1:=⟨t - 1,oM⟩
     have hsL:s<L.length:=oM
     have e1:Za (((P.length+(s+1):Nat):Int) - 1)=((P.length+s:Nat):Int):=by rw[Zc oM oM]; omega
     rw[e1]
     have eB:P++(L.take (s+1)++y::L.drop (s+1))++Q=(P++L.take s)++L[s]::y::(L.drop (s+1)++Q):=by
      rw[List.take_succ_eq_append_getElem hsL]; simp only[List.append_assoc,List.cons_append,List.nil_append]
     have hB3:=hB2.ext x3
     rw[eB]at hB3
     have ey:(P++L.take s).length=P.length+s:=by rw[List.length_append,List.length_take]; omega
     have gy:=hB3.ld' Za0 (Zgr ey)
     have gx:=hB3.ld' Za0 (Zh2 (n:=P.length+(s+1)) oM)
     have hln:((P++L.take s)++L[s]::y::(L.drop (s+1)++Q)).length=data.len:=by rw[←eB,hlen]; simp; omega
     refine⟨_,⟨hd,oM,oM⟩,_,_,_,gy,_,⟨hd,oM,oM⟩,_,_,_,gx,_,⟨hd,oM,oM⟩,hB3.st Za0 (i:=P.length+(s+1)) (x:=L[s]) (by rw[hln]; omega) λw4 b4 hB4=>⟨_,⟨hd,oM,oM⟩,hB4.st Za0 (i:=P.length+s) (x:=y) (by rw[List.length_set,hln]; omega) λw5 b5 hB5=>?_⟩⟩
     have e2:=Znf (P++L.take s) (L.drop (s+1)++Q) L[s] y
     rw[ey,Nat.add_assoc]at e2
     rw[e2]at hB5
     refine⟨⟨s,oM,oM,oM,((b2.ext' x3).trans b4).trans b5,?_⟩,by show Int.toNat _<Int.toNat _; omega⟩
     rw[List.drop_eq_getElem_cons hsL]
     simpa only[List.append_assoc,List.cons_append,List.nil_append]using hB5
    ·have:t=p:=oM
     subst this
     refine hR w2 _ b2 ?_ ?_ hB2
     ·refine List.perm_middle.trans ?_
      rw[List.take_append_drop]; exact(List.perm_append_singleton y L).symm
     ·refine List.pairwise_append.2 ⟨hL.sublist (List.take_sublist _ _),List.pairwise_cons.2 ⟨λz hz=>?_,hL.sublist (List.drop_sublist _ _)⟩,λx hx z hz=>?_⟩
      ·obtain⟨u,hu,rfl⟩:=List.mem_iff_getElem.1 hz
       rw[List.length_drop]at hu
       rw[List.getElem_drop]; exact hq1 _ oM oM
      ·obtain⟨u,hu,rfl⟩:=List.mem_iff_getElem.1 hx
       rw[List.length_take]at hu
       rw[List.getElem_take]
       have hyx:=hp1 u oM oM
       rcases List.mem_cons.1 hz with rfl|hz
       ·exact hyx
       ·obtain⟨v,hv,rfl⟩:=List.mem_iff_getElem.1 hz
        rw[List.length_drop]at hv
        rw[List.getElem_drop]; exact hyx.trans hO (hq1 _ oM oM)
  ·
   rw[half (i:=P.length) (j:=P.length+L.length+X.length) oM]
   have hmid:(P.length+(P.length+L.length+X.length))/2=P.length+(L.length+X.length)/2:=oM
   rw[hmid]
   generalize hH:(L.length+X.length)/2=H at*
   have wn:Za (((P.length+H:Nat):Int)+((P.length+L.length:Nat):Int))=((P.length+H+(P.length+L.length):Nat):Int):=by rw[Zc oM oM]; omega
   rw[wn]
   have wp:Za (((P.length+H+(P.length+L.length):Nat):Int) - 1)=((P.length+H+(P.length+L.length) - 1:Nat):Int):=by rw[Zc oM oM]; omega
   rw[wp]
   refine join.named λJ hJ=>?_
   have main: ∀u0 v0:Nat,u0=H - X.length→v0=min L.length H→J ((P.length+u0:Nat):Int) ((P.length+v0:Nat):Int) w:=λu0 v0 hu0 hv0=>by
    subst hJ
    show loop2 _ _ _ _
    refine⟨λi j w'=>∃s r:Nat,i=((P.length+s:Nat):Int)∧j=((P.length+r:Nat):Int)∧u0≤s∧s≤r∧r≤v0∧(∀(u:Nat) (h1:u<L.length) (h2:H - 1 - u<X.length),u0≤u→u<s→Ah c L[u] X[H - 1 - u])∧(∀(u:Nat) (h1:u<L.length) (h2:H - 1 - u<X.length),r≤u→u<v0→Ah c X[H - 1 - u] L[u])∧Ext w w',
     λi j _=>(j - i).toNat,⟨u0,v0,rfl,rfl,Nat.le_refl _,oM,Nat.le_refl _,λu _ _ h1 h2=>by omega,λu _ _ h1 h2=>by omega,Ext.refl _⟩,?_⟩
    rintro _ _ w1 ⟨s,r,rfl,rfl,hs0,hsr,hrv,hs1,hr1,x1⟩
    refine⟨λhlt=>bnd.drew λw2 x2=>?_,λhge=>?_⟩
    ·rw[half oM]
     have he:(P.length+s+(P.length+r))/2=P.length+(s+r)/2:=oM
     rw[he]
     generalize hu:(s+r)/2=u at*
     have huL:u<L.length:=oM
     have huX:H - 1 - u<X.length:=oM
     have wpc:Za (((P.length+H+(P.length+L.length) - 1:Nat):Int) - ((P.length+u:Nat):Int))=((P.length+L.length+(H - 1 - u):Nat):Int):=by rw[Zc oM oM]; omega
     rw[wpc]
     have hB2:=hB.ext (x1.trans x2)
     have gx:=hB2.ld' Za0 (eX _ huX)
     have gy:=hB2.ld' Za0 (eL _ huL)
     have hright:=Ah.right hO (hid _ (List.getElem_mem huL) _ (List.getElem_mem huX))
     refine⟨_,⟨hd,oM,oM⟩,_,_,_,gx,_,⟨hd,oM,oM⟩,_,_,_,gy,hc _ _ w2 _ (refl.ext' (x1.trans x2)) λw3 x3=>⟨_,rfl,λh=>?_,λh=>?_⟩⟩
     ·have hA:=hright.2 h
      rw[Zc oM oM]
      refine⟨⟨u+1,r,oM,rfl,oM,oM,hrv,λt h1 h2 h3 h4=>?_,hr1,x1.trans (x2.trans x3)⟩,by show Int.toNat _<Int.toNat _; omega⟩
      rcases Nat.lt_succ_iff_lt_or_eq.1 h4 with h'|rfl
      ·exact((List.pairwise_iff_getElem.1 hL t u h1 huL h').trans hO hA).trans hO (List.pairwise_iff_getElem.1 hX (H - 1 - u) (H - 1 - t) huX h2 oM)
      ·exact hA
     ·have hA:=hright.1 (Classical.not_not.1 h)
      refine⟨⟨s,u,rfl,rfl,hs0,oM,oM,hs1,λt h1 h2 h3 h4=>?_,x1.trans (x2.trans x3)⟩,by show Int.toNat _<Int.toNat _; omega⟩
      rcases Nat.lt_or_eq_of_le h3 with h'|rfl
      ·exact((List.pairwise_iff_getElem.1 hX (H - 1 - t) (H - 1 - u) h2 huX oM).trans hO hA).trans hO (List.pairwise_iff_getElem.1 hL u t huL h1 h')
      ·exact hA
    ·have hsr':s=r:=oM
     subst hsr'
     have hsL:s≤L.length:=oM
     have hsH:s≤H:=oM
     have hHX:H - s≤X.length:=oM
     have wend:Za (((P.length+H+(P.length+L.length):Nat):Int) - ((P.length+s:Nat):Int))=((P.length+L.length+(H - s):Nat):Int):=by rw[Zc oM oM]; omega
     rw[wend]
     have cr1: ∀x∈L.take s,∀y∈X.drop (H - s),Ah c x y:=λx hx y hy=>by
      obtain⟨i,hi,rfl⟩:=List.mem_iff_getElem.1 hx
      obtain⟨j,hj,rfl⟩:=List.mem_iff_getElem.1 hy
      rw[List.length_take]at hi; rw[List.length_drop]at hj
      rw[List.getElem_take,List.getElem_drop]
      have k1:=hs1 (s - 1) oM oM oM oM
      have e:H - 1 - (s - 1)=H - s:=oM
      have k2:Ah c L[i] X[H - s]:=by
       rcases Nat.lt_or_eq_of_le (show i≤s - 1 by omega)with h|h
       ·have:=(List.pairwise_iff_getElem.1 hL i (s - 1) oM oM h).trans hO k1
        simpa only[e]using this
       ·subst h; simpa only[e]using k1
      rcases Nat.eq_zero_or_pos j with h|h
      ·subst h; exact k2
      ·exact k2.trans hO (List.pairwise_iff_getElem.1 hX (H - s) (H - s+j) oM oM oM)
     have cr2: ∀y∈X.take (H - s),∀x∈L.drop s,Ah c y x:=λy hy x hx=>by
      obtain⟨i,hi,rfl⟩:=List.mem_iff_getElem.1 hx
      obtain⟨j,hj,rfl⟩:=List.mem_iff_getElem.1 hy
      rw[List.length_drop]at hi; rw[List.length_take]at hj
      rw[List.getElem_take,List.getElem_drop]
      have k1:=hr1 s oM oM nR oM
      have k2:Ah c X[j] L[s]:=by
       rcases Nat.lt_or_eq_of_le (show j≤H - 1 - s by omega)with h|h
       ·exact(List.pairwise_iff_getElem.1 hX j (H - 1 - s) oM oM h).trans hO k1
       ·subst h; exact k1
      rcases Nat.eq_zero_or_pos i with h|h
      ·subst h; exact k2
      ·exact k2.trans hO (List.pairwise_iff_getElem.1 hL s (s+i) oM oM oM)
     have lt1:(L.take s).length=s:=by rw[List.length_take]; omega
     have lt2:(X.take (H - s)).length=H - s:=by rw[List.length_take]; omega
     have lt3:(L.drop s).length=L.length - s:=List.length_drop
     have lt4:(X.drop (H - s)).length=X.length - (H - s):=List.length_drop
     have sL1:=hL.sublist (List.take_sublist s L)
     have sL2:=hL.sublist (List.drop_sublist s L)
     have sX1:=hX.sublist (List.take_sublist (H - s) X)
     have sX2:=hX.sublist (List.drop_sublist (H - s) X)
     have id1: ∀x∈L.take s,∀y∈X.take (H - s),x.2<y.2:=λx hx y hy=>hid x (List.mem_of_mem_take hx) y (List.mem_of_mem_take hy)
     have id2: ∀x∈L.drop s,∀y∈X.drop (H - s),x.2<y.2:=λx hx y hy=>hid x (List.mem_of_mem_drop hx) y (List.mem_of_mem_drop hy)
     have eLs:L=L.take s++L.drop s:=(List.take_append_drop _ _).symm
     have eXs:X=X.take (H - s)++X.drop (H - s):=(List.take_append_drop _ _).symm
     have hLX:L.take s= []∨0<s:=by
       rcases Nat.eq_zero_or_pos s with h|h
       ·exact .inl (by rw[h]; rfl)
       ·exact .inr h
     have permAll: ∀M1 M2:List El,M1.Perm (L.take s++X.take (H - s))→M2.Perm (L.drop s++X.drop (H - s))→(M1++M2).Perm (L++X):=λM1 M2 h1 h2=>by
      refine(h1.append h2).trans ?_
      conv=>rhs; rw[eLs,eXs]
      rw[List.append_assoc,List.append_assoc]
      refine List.Perm.append_left _ ?_
      rw[←List.append_assoc,←List.append_assoc]
      exact List.Perm.append_right _ List.perm_append_comm
     have sortAll: ∀M1 M2:List El,M1.Perm (L.take s++X.take (H - s))→M2.Perm (L.drop s++X.drop (H - s))→M1.Pairwise (Ah c)→M2.Pairwise (Ah c)→(M1++M2).Pairwise (Ah c):=λM1 M2 h1 h2 s1 s2=>
      List.pairwise_append.2 ⟨s1,s2,λx hx y hy=>by
       rcases List.mem_append.1 (h1.mem_iff.1 hx)with hx|hx<;>rcases List.mem_append.1 (h2.mem_iff.1 hy)with hy|hy
       ·obtain⟨i,hi,rfl⟩:=List.mem_iff_getElem.1 hx
        obtain⟨j,hj,rfl⟩:=List.mem_iff_getElem.1 hy
        rw[lt1]at hi; rw[lt3]at hj
        rw[List.getElem_take,List.getElem_drop]
        exact List.pairwise_iff_getElem.1 hL i (s+j) oM oM oM
       ·exact cr1 x hx y hy
       ·exact cr2 x hx y hy
       ·obtain⟨i,hi,rfl⟩:=List.mem_iff_getElem.1 hx
        obtain⟨j,hj,rfl⟩:=List.mem_iff_getElem.1 hy
        rw[lt2]at hi; rw[lt4]at hj
        rw[List.getElem_take,List.getElem_drop]
        exact List.pairwise_iff_getElem.1 hX i (H - s+j) oM oM oM⟩
     generalize L.take s=L1 at*
     generalize L.drop s=L2 at*
     generalize X.take (H - s)=X1 at*
     generalize X.drop (H - s)=X2 at*
     have b1:But g w w1:=refl.ext' x1
     have hB1:=hB.ext x1
     refine join.named λJ2 hJ2=>?_
     have k2: ∀w2,But g w w2→RowB fc w2 g (P++L1++X1++(L2++X2++Q)) tail→J2 w2:=λw2 b2 hB2=>by
      subst hJ2
      refine join.named λJ3 hJ3=>bound ?_
      have k3: ∀w3 M1,But g w w3→M1.Perm (L1++X1)→M1.Pairwise (Ah c)→RowB fc w3 g (P++M1++(L2++X2++Q)) tail→J3 w3:=λw3 M1 b3 hp1 so1 hB3=>by
       subst hJ3
       have lM:M1.length=H:=by rw[hp1.length_eq,List.length_append]; omega
       refine bound ⟨λh=>?_,λh=>?_⟩
       ·simp only[Bool.and_eq_true,decide_eq_true_eq]at h
        refine SE.Zk.go (Zd6 hO hd hbig N (P:=P++M1) (L:=L2) (X:=X2) (Q:=Q) oM (hc.but b3) (by simp only[List.length_append]; omega) (by simpa only[List.append_assoc]using hB3) (by rw[List.length_append]; omega) (by rw[List.length_append]; omega) (by rw[List.length_append]; omega) oM oM sL2 sX2 id2 λw4 M2 b4 hp2 so2 hB4=>⟨rfl,?_⟩)
        exact hR w4 (M1++M2) (b3.trans b4) (permAll M1 M2 hp1 hp2) (sortAll M1 M2 hp1 hp2 so1 so2) (by simpa only[List.append_assoc]using hB4)
       ·simp only[Bool.and_eq_false_iff,decide_eq_false_iff_not]at h
        refine hR w3 (M1++(L2++X2)) b3 (permAll M1 _ hp1 (List.Perm.refl _)) (sortAll M1 _ hp1 (List.Perm.refl _) so1 ?_) (by simpa only[List.append_assoc]using hB3)
        have:L2= []∨X2= []:=by
         rcases h with h|h
         ·exact .inl (List.eq_nil_of_length_eq_zero oM)
         ·exact .inr (List.eq_nil_of_length_eq_zero oM)
        rcases this with rfl|rfl
        ·simpa using sX2
        ·simpa using sL2
      refine⟨λh=>?_,λh=>?_⟩
      ·simp only[Bool.and_eq_true,decide_eq_true_eq]at h
       refine SE.Zk.go (Zd6 hO hd hbig N (P:=P) (L:=L1) (X:=X1) (Q:=L2++X2++Q) oM (hc.but b2) (by simp only[List.length_append]; omega) (by simpa only[List.append_assoc]using hB2) rfl oM oM oM oM sL1 sX1 id1 λw4 M1 b4 hp1 so1 hB4=>⟨rfl,k3 w4 M1 (b2.trans b4) hp1 so1 hB4⟩)
      ·simp only[Bool.and_eq_false_iff,decide_eq_false_iff_not]at h
       refine k3 w2 (L1++X1) b2 (List.Perm.refl _) ?_ (by simpa only[List.append_assoc]using hB2)
       have:L1= []∨X1= []:=by
        rcases h with h|h
        ·exact .inl (List.eq_nil_of_length_eq_zero oM)
        ·exact .inr (List.eq_nil_of_length_eq_zero oM)
       rcases this with rfl|rfl
       ·simpa using sX1
       ·simpa using sL1
     rw[eLs,eXs]at hB1
     refine bound ⟨λh=>?_,λh=>?_⟩
     ·simp only[Bool.and_eq_true,decide_eq_true_eq]at h
      refine SE.Zai.go (Zok (P:=P++L1) (X:=L2) (Y:=X1) (Q:=X2++Q) hd (by simp only[List.length_append]; omega) hbig (by simpa only[List.append_assoc]using hB1) (by rw[List.length_append]; omega) (by rw[List.length_append]; omega) (by rw[List.length_append]; omega) oM oM λw2 b2 hB2=>⟨rfl,k2 w2 (b1.trans b2) (by simpa only[List.append_assoc]using hB2)⟩)
     ·simp only[Bool.and_eq_false_iff,decide_eq_false_iff_not]at h
      refine k2 w1 b1 ?_
      have:L2= []∨X1= []:=by
       rcases h with h|h
       ·exact .inl (List.eq_nil_of_length_eq_zero oM)
       ·exact .inr (List.eq_nil_of_length_eq_zero oM)
      rcases this with rfl|rfl
      ·simpa only[List.append_assoc,List.append_nil,List.nil_append]using hB1
      ·simpa only[List.append_assoc,List.append_nil,List.nil_append]using hB1
   refine⟨λh=>?_,λh=>?_⟩
   ·have:=main (H - X.length) H rfl oM
    have e:Za (((P.length+H+(P.length+L.length):Nat):Int) - ((P.length+L.length+X.length:Nat):Int))=((P.length+(H - X.length):Nat):Int):=by rw[Zc oM oM]; omega
    rw[e]; exact this
   ·have:=main 0 L.length oM oM
    exact this
theorem ids{z0:List El}(hz:z0.Pairwise λx y=>x.2<y.2){i n j m:Nat}(h:i+n≤j): ∀x∈sg z0 i n,∀y∈sg z0 j m,x.2<y.2:=λx hx y hy=>by
 obtain⟨a,ha,_,ha2,rfl⟩:=Zvz hx
 obtain⟨b,hb,hb1,_,rfl⟩:=Zvz hy
 exact List.pairwise_iff_getElem.1 hz a b ha hb oM
theorem Zos(hO:Ord3 c){data:Sl}{tail:List Value}{w:World}{R:World→Prop}{z0:List El}{n:Int}(hd:data.a=some ⟨g,0,none⟩)(hbig:data.len<2305843009213693952)(hc:CmpOk cmp c g w)(hlen:data.len=z0.length)(hn:n=(z0.length:Int))(hB:RowB fc w g z0 tail)
  (hz:z0.Pairwise λx y=>x.2<y.2) (hR: ∀w' M,But g w w'→M.Perm z0→M.Pairwise (Ah c)→RowB fc w' g M tail→R w'):SE.Zt data n cmp w R:=by
 unfold SE.Zt
 subst hn
 have refl:But g w w:=⟨Nat.le_refl _,rfl,rfl,rfl,λ_ _ _=>rfl⟩
 refine⟨λa b w'=>∃(k:Nat) (z:List El),a=((k*20:Nat):Int)∧b=((k*20+20:Nat):Int)∧k*20≤z0.length∧z.length=z0.length∧z.drop (k*20)=z0.drop (k*20)∧Chunks c 20 z z0 k∧But g w w'∧RowB fc w' g z tail,
  λa _ _=>z0.length - a.toNat,⟨0,z0,rfl,rfl,oM,rfl,rfl,⟨λi h=>by omega,λi h=>by omega⟩,refl,hB⟩,?_⟩
 rintro _ _ w1 ⟨k,z,rfl,rfl,hk,hzl,hdr,hch,b1,hB1⟩
 have la:(z.take (k*20)).length=k*20:=by rw[List.length_take]; omega
 refine⟨λhle=>?_,λhgt=>?_⟩
 ·have hsg:sg z (k*20) 20=sg z0 (k*20) 20:=by unfold sg; rw[hdr]
  have hs:=Znd z (k*20) 20
  have hsl:(sg z (k*20) 20).length=20:=Zmv oM
  rw[hs]at hB1
  refine SE.Zg.go (Zgg hO (A:=z.take (k*20)) (M0:=sg z (k*20) 20) (B:=z.drop (k*20+20)) (hc.but b1) hd (by rw[←hs,hzl]; exact hlen) oM hB1 (by rw[la]) (by rw[la,hsl]) (by rw[hsg]; exact hz.sublist ((List.take_sublist _ _).trans (List.drop_sublist _ _))) λw2 M b2 hp hso hB2=>⟨rfl,?_⟩)
  have hMl:M.length=20:=by rw[hp.length_eq,hsl]
  rw[Zc oM oM]
  refine⟨⟨k+1,z.take (k*20)++M++z.drop (k*20+20),oM,oM,oM,?_,?_,?_,b1.trans b2,hB2⟩,by show _ - Int.toNat _<_ - Int.toNat _; omega⟩
  ·simp only[List.length_append,List.length_drop,la,hMl]; omega
  ·rw[List.drop_left' (by rw[List.length_append,la,hMl]; omega),show k*20+20=(k+1)*20 by omega]
   rw[show(k+1)*20=k*20+20 by omega,←List.drop_drop,hdr,List.drop_drop]
  ·constructor
   ·intro i hi
    rcases Nat.lt_succ_iff_lt_or_eq.1 hi with h|rfl
    ·rw[Zdu (by rw[la]; omega)]
     have:=hch.perm i h
     rw[hs,Zdu (by rw[la]; omega)]at this
     exact this
    ·rw[Zmk la hMl,←hsg]; exact hp
   ·intro i hi
    rcases Nat.lt_succ_iff_lt_or_eq.1 hi with h|rfl
    ·rw[Zdu (by rw[la]; omega)]
     have:=hch.sort i h
     rw[hs,Zdu (by rw[la]; omega)]at this
     exact this
    ·rw[Zmk la hMl]; exact hso
 ·have hs:z=z.take (k*20)++z.drop (k*20)++ []:=by rw[List.append_nil,List.take_append_drop]
  have hdl:(z.drop (k*20)).length=z0.length - k*20:=by rw[List.length_drop,hzl]
  rw[hs]at hB1
  refine SE.Zg.go (Zgg hO (A:=z.take (k*20)) (M0:=z.drop (k*20)) (B:=[]) (hc.but b1) hd (by rw[←hs,hzl]; exact hlen) oM hB1 (by rw[la]) (by rw[la,hdl]; omega) (by rw[hdr]; exact hz.sublist (List.drop_sublist _ _)) λw2 M b2 hp hso hB2=>⟨rfl,?_⟩)
  have hMl:M.length=z0.length - k*20:=by rw[hp.length_eq,hdl]
  rw[List.append_nil]at hB2
  have hch0: ∀j,Chunks c 20 (z.take (k*20)++M) z0 j:=λj=>by
   have hsg:sg z (k*20) 20=z.drop (k*20):=by unfold sg; rw[List.take_of_length_le oM]
   have hsg0:sg z0 (k*20) 20=z0.drop (k*20):=by unfold sg; rw[List.take_of_length_le (by rw[List.length_drop]; omega)]
   constructor
   ·intro i _
    rcases Nat.lt_trichotomy i k with h|rfl|h
    ·have:=hch.perm i h
     rw[hs,Zdu (by rw[la]; omega)]at this
     rw[←List.append_nil (z.take (k*20)++M),Zdu (by rw[la]; omega)]
     exact this
    ·rw[Zmj la oM,hsg0,←hdr]; exact hp
    ·have:k+1≤i:=h
     rw[Zh6 (by rw[List.length_append,la]; omega),Zh6 oM]
   ·intro i _
    rcases Nat.lt_trichotomy i k with h|rfl|h
    ·have:=hch.sort i h
     rw[hs,Zdu (by rw[la]; omega)]at this
     rw[←List.append_nil (z.take (k*20)++M),Zdu (by rw[la]; omega)]
     exact this
    ·rw[Zmj la oM]; exact hso
    ·have:k+1≤i:=h
     rw[Zh6 (by rw[List.length_append,la]; omega)]
     exact .nil
  have hzl1:(z.take (k*20)++M).length=z0.length:=by rw[List.length_append,la]; omega
  generalize z.take (k*20)++M=z1 at*
  have b02:=b1.trans b2
  clear hp hso hMl
  refine⟨λbs w'=>∃(s:Nat) (z:List El),bs=(s:Int)∧0<s∧s<2*z0.length+40∧z.length=z0.length∧(∀j,Chunks c s z z0 j)∧But g w w'∧RowB fc w' g z tail,λbs _=>2*z0.length+40 - bs.toNat,⟨20,z1,rfl,oM,oM,hzl1,hch0,b02,hB2⟩,?_⟩
  rintro _ w3 ⟨s,z2,rfl,hs0,hsb,hzl2,hch2,b3,hB3⟩
  refine⟨λhlt=>?_,λhge=>?_⟩
  ·have hsn:s<z0.length:=oM
   rw[Zc (x:=2*(s:Int)) oM oM]
   refine⟨λa b w'=>∃(k:Nat) (z:List El),a=((k*(2*s):Nat):Int)∧b=((k*(2*s)+2*s:Nat):Int)∧k*(2*s)≤z0.length∧z.length=z0.length∧z.drop (k*(2*s))=z2.drop (k*(2*s))∧Chunks c (2*s) z z0 k∧But g w w'∧RowB fc w' g z tail,
    λa _ _=>z0.length - a.toNat,⟨0,z2,by simp,by simp,oM,hzl2,by simp,⟨λi h=>by omega,λi h=>by omega⟩,b3,hB3⟩,?_⟩
   rintro _ _ w4 ⟨k,z,rfl,rfl,hk,hzl4,hdr4,hch4,b4,hB4⟩
   generalize hK:k*(2*s)=K at*
   have la4:(z.take K).length=K:=by rw[List.length_take]; omega
   have e2k:2*k*s=K:=by rw[←hK,Nat.mul_comm 2 k,Nat.mul_assoc]
   have e2k1:(2*k+1)*s=K+s:=by rw[Nat.add_mul,e2k,Nat.one_mul]
   have p1:=(hch2 (2*k+2)).perm (2*k) oM; have p2:=(hch2 (2*k+2)).perm (2*k+1) oM
   have s1:=(hch2 (2*k+2)).sort (2*k) oM; have s2:=(hch2 (2*k+2)).sort (2*k+1) oM
   rw[e2k]at p1 s1; rw[e2k1]at p2 s2
   have g1:sg z K s=sg z2 K s:=by unfold sg; rw[hdr4]
   have g2:sg z (K+s) s=sg z2 (K+s) s:=by unfold sg; rw[←List.drop_drop,hdr4,List.drop_drop]
   rw[←g1]at p1 s1; rw[←g2]at p2 s2
   have hids: ∀x∈sg z K s,∀y∈sg z (K+s) s,x.2<y.2:=λx hx y hy=>ids hz nR x (p1.mem_iff.1 hx) y (p2.mem_iff.1 hy)
   have wks:Za ((K:Int)+(s:Int))=((K+s:Nat):Int):=by rw[Zc oM oM]; omega
   have grow: ∀(z' M B:List El) (m:Nat),z'=z.take K++M++B→M.length=m→M.Perm (sg z K s++sg z (K+s) s)→M.Pairwise (Ah c)→(m=2*s∨B= [])→m≤2*s→Chunks c (2*s) z' z0 (k+1):=λz' M B m hz' hm hp hso hmB hm2=>by
    have e:sg z' K (2*s)=M:=by
     subst hz'
     rcases hmB with h|h
     ·exact Zmk la4 oM
     ·subst h; rw[List.append_nil]; exact Zmj la4 oM
    have e0:sg z0 K (2*s)=sg z0 K s++sg z0 (K+s) s:=by rw[show 2*s=s+s by omega,Zp8]
    have el: ∀i,i<k→sg z' (i*(2*s)) (2*s)=sg z (i*(2*s)) (2*s):=λi h=>by
     have hle:i*(2*s)+2*s≤K:=by
      have:=Nat.mul_le_mul_right (2*s) (show i+1≤k from h)
      rw[Nat.add_mul,hK,Nat.one_mul]at this; exact this
     have h1:sg z (i*(2*s)) (2*s)=sg (z.take K) (i*(2*s)) (2*s):=by
      conv=>lhs; rw[show z=z.take K++z.drop K++ [] by rw[List.append_nil,List.take_append_drop]]
      exact Zdu (by rw[la4]; exact hle)
     rw[h1,hz',Zdu (by rw[la4]; exact hle)]
    constructor
    ·intro i hi
     rcases Nat.lt_succ_iff_lt_or_eq.1 hi with h|rfl
     ·rw[el i h]; exact hch4.perm i h
     ·rw[hK,e,e0]; exact hp.trans (p1.append p2)
    ·intro i hi
     rcases Nat.lt_succ_iff_lt_or_eq.1 hi with h|rfl
     ·rw[el i h]; exact hch4.sort i h
     ·rw[hK,e]; exact hso
   refine⟨λhle=>?_,λhgt4=>?_⟩
   ·have hs4:z=z.take K++sg z K s++sg z (K+s) s++z.drop (K+2*s):=by
     have:=Znd z K (2*s)
     rw[show 2*s=s+s by omega,Zp8]at this
     rw[show 2*s=s+s by omega]
     simpa only[List.append_assoc]using this
    have l1:(sg z K s).length=s:=Zmv oM
    have l2:(sg z (K+s) s).length=s:=Zmv oM
    rw[wks]
    rw[hs4]at hB4
    refine SE.Zk.go (Zd6 hO hd oM _ (P:=z.take K) (L:=sg z K s) (X:=sg z (K+s) s) (Q:=z.drop (K+2*s)) nR (hc.but b4) (by rw[←hs4,hzl4]; exact hlen) hB4 (by rw[la4]) (by rw[la4,l1]) (by rw[la4,l1,l2]; omega) oM oM s1 s2 hids λw5 M b5 hp hso hB5=>⟨rfl,?_⟩)
    have hMl:M.length=2*s:=by rw[hp.length_eq,List.length_append]; omega
    rw[Zc oM oM]
    have hK1:(k+1)*(2*s)=K+2*s:=by rw[Nat.add_mul,hK,Nat.one_mul]
    refine⟨⟨k+1,z.take K++M++z.drop (K+2*s),oM,oM,oM,?_,?_,grow _ M _ (2*s) rfl hMl hp hso (.inl rfl) nR,b4.trans b5,hB5⟩,by show _ - Int.toNat _<_ - Int.toNat _; omega⟩
    ·simp only[List.length_append,List.length_drop,la4,hMl]; omega
    ·rw[hK1,List.drop_left' (by rw[List.length_append,la4,hMl]),←List.drop_drop,hdr4,List.drop_drop]
   ·refine join.named λJ hJ=>?_
    have kJ: ∀w' z',But g w w'→z'.length=z0.length→Chunks c (2*s) z' z0 (k+1)→RowB fc w' g z' tail→J w':=λw' z' b' hl' hch' hB'=>by
     subst hJ
     have e:Za ((s:Int)*2)=((2*s:Nat):Int):=by rw[Zc oM oM]; omega
     rw[e]
     have hK1:(k+1)*(2*s)=K+2*s:=by rw[Nat.add_mul,hK,Nat.one_mul]
     refine⟨⟨2*s,z',rfl,oM,oM,hl',λj=>⟨λi _=> ?_,λi _=> ?_⟩,b',hB'⟩,by show _ - Int.toNat _<_ - Int.toNat _; omega⟩
     ·by_cases h:i<k+1
      ·exact hch'.perm i h
      ·have:=Nat.mul_le_mul_right (2*s) (show k+1≤i by omega)
       rw[Zh6 oM,Zh6 oM]
     ·by_cases h:i<k+1
      ·exact hch'.sort i h
      ·have:=Nat.mul_le_mul_right (2*s) (show k+1≤i by omega)
       rw[Zh6 oM]
       exact .nil
    rw[wks]
    have hdK:z.drop K=sg z K s++sg z (K+s) s:=by
     rw[←Zp8]; unfold sg; rw[List.take_of_length_le (by rw[List.length_drop]; omega)]
    refine⟨λhlt4=>?_,λhge4=>?_⟩
    ·have hs4:z=z.take K++sg z K s++sg z (K+s) s++ []:=by
      rw[List.append_nil,List.append_assoc,←hdK,List.take_append_drop]
     have l1:(sg z K s).length=s:=Zmv oM
     have l2:(sg z K s).length+(sg z (K+s) s).length=z0.length - K:=by rw[←List.length_append,←hdK,List.length_drop,hzl4]
     rw[hs4]at hB4
     refine SE.Zk.go (Zd6 hO hd oM _ (P:=z.take K) (L:=sg z K s) (X:=sg z (K+s) s) (Q:=[]) nR (hc.but b4) (by rw[←hs4,hzl4]; exact hlen) hB4 (by rw[la4]) (by rw[la4,l1]) (by rw[la4]; omega) oM oM s1 s2 hids λw5 M b5 hp hso hB5=>⟨rfl,?_⟩)
     have hMl:M.length=z0.length - K:=by rw[hp.length_eq,List.length_append]; exact l2
     exact kJ w5 _ (b4.trans b5) (by simp only[List.length_append,List.length_nil,la4,hMl]; omega) (grow _ M [] _ rfl hMl hp hso (.inr rfl) oM) hB5
    ·have e0:sg z (K+s) s= []:=Zh6 oM
     refine kJ w4 z b4 hzl4 (grow z (z.drop K) [] _ (by rw[List.append_nil,List.take_append_drop]) rfl (by rw[hdK]) ?_ (.inr rfl) (by rw[List.length_drop]; omega)) hB4
     rw[hdK,e0,List.append_nil]; exact s1
  ·have e:sg z2 (0*s) s=z2:=by rw[Nat.zero_mul]; unfold sg; rw[List.drop_zero,List.take_of_length_le oM]
   have e0:sg z0 (0*s) s=z0:=by rw[Nat.zero_mul]; unfold sg; rw[List.drop_zero,List.take_of_length_le oM]
   have p:=(hch2 1).perm 0 oM; have so:=(hch2 1).sort 0 oM
   rw[e]at p so
   rw[e0]at p
   exact hR w3 z2 b3 p so hB3
theorem sortStable_se(hO:Ord3 c){data:Sl}{tail:List Value}{w:World}{R:World→Prop}{l:List Ver}(hd:data.a=some ⟨g,0,none⟩)(hbig:data.len<2305843009213693952)(hc:CmpOk cmp c g w)(hlen:data.len=l.length)(hB:RowB cells w g l tail)
  (hR: ∀w',But g w w'→RowB cells w' g (Zb0 c l) tail→R w'):SE.Zd data cmp w R:=by
 unfold SE.Zd
 have hB':RowB fc w g (nums 0 l) tail:=by
  unfold RowB at hB ⊢
  have:(nums 0 l).map fc=l.map cells:=by
   have h:=congrArg (List.map cells) (Zm9 0 l)
   rw[List.map_map]at h; exact h
  rw[this]; exact hB
 refine SE.Zt.go (Zos hO hd hbig hc (by rw[Zna]; exact hlen) (by rw[Zna,hlen]) hB' (Zlk 0 l) λw2 M b2 hp hs hB2=>⟨rfl,hR w2 b2 ?_⟩)
 have e:=Zs8 hO hp hs
 unfold RowB at hB2 ⊢
 have:M.map fc=(Zb0 c l).map cells:=by rw[←e,List.map_map]; rfl
 rw[←this]; exact hB2
theorem sortStable_nil{data:Sl}{w:World}{R:World→Prop}(h0:data.len=0)(hR:R w):SE.Zd data cmp w R:=by
 unfold SE.Zd
 rw[h0]
 refine SE.Zt.go ?_
 unfold SE.Zt
 refine⟨λa b w'=>a=0∧b=20∧w'=w,λ_ _ _=>0,⟨rfl,rfl,rfl⟩,?_⟩
 rintro _ _ w1 ⟨rfl,rfl,hw1⟩
 subst hw1
 refine⟨λh=>by simp at h,λ_=>SE.Zg.go ?_⟩
 unfold SE.Zg
 refine⟨λa w'=>a=1∧w'=w1,λ_ _=>0,⟨by decide,rfl⟩,?_⟩
 rintro _ w2 ⟨rfl,hw2⟩
 subst hw2
 refine⟨λh=>by simp at h,λ_=>⟨rfl,?_⟩⟩
 refine⟨λa w'=>a=20∧w'=w2,λ_ _=>0,⟨rfl,rfl⟩,?_⟩
 rintro _ w3 ⟨rfl,hw3⟩
 subst hw3
 exact⟨λh=>by simp at h,λ_=>⟨rfl,hR⟩⟩
end
end StV
end Go.Hal
namespace Go.Hal
open Go.Proofs.Tryz
open Go Go.RowKit Go.Proofs Go.Shelf
theorem _root_.Go.RowKit.Below.keepS{lo:Nat}{w w':World}(h:Below lo w w'){S:Nat→Prop}(hS: ∀b,S b→b<lo):Keep S w w':=λb hb _=>h.block b (hS b hb)
theorem BoxAt.below{lo:Nat}{w w':World}{a:Addr}{cs:List Value}(hb:BoxAt w a cs)(h:Below lo w w')(hl:a.block<lo):BoxAt w' a cs:=hb.keep (S:=λb=>b<lo) hl (h.keepS λ_ h=>h)
theorem SlR.below{α:Type}{E:Enc α}{lo:Nat}{w w':World}{S:Nat→Prop}{s:Sl}{l:List α}(hs:SlR E w S s l)(h:Below lo w w')(hS: ∀b,S b→b<lo):SlR E w' S s l:=hs.keep (h.keepS hS)
theorem Z32(a b:Pin):((bEq a.name b.name)&&(((a.v.ma==b.v.ma)&&((a.v.mi==b.v.mi)&&((a.v.pa==b.v.pa)&&true)))&&true))=decide (a=b):=by
 rw[Zqe,Bool.and_true,Bool.eq_iff_iff,Bool.and_eq_true,Zca,decide_eq_true_eq,decide_eq_true_eq]
 obtain⟨n,v⟩:=a; obtain⟨m,u⟩:=b
 simp
theorem Zwt{s:Sl}{l:List Pin}{x:Pin}{S:Nat→Prop}{w:World}{R:Int→World→Prop}(hs:SlR pinE w S s l)(hR: ∀w',Ext w w'→R (idxI (λy=>decide (x=y)) l) w'):SE.Zbq s x.name x.v.ma x.v.mi x.v.pa w R:=by
 unfold SE.Zbq
 have hl:=hs.len
 refine newS.intro λa w0 x0 hb _ _=> ?_
 refine loop1.up hs.max (λi w'=>Ext w0 w'∧(l.take i).any (λy=>decide (x=y))=false) ⟨Ext.refl _,rfl⟩ λi w1 nxt hi ⟨x1,hI⟩ hn=>⟨λhlt=>bnd.drew λw2 x2=>?_,λhge=>?_⟩
 ·have hlt':i<l.length:=oM
  obtain⟨ad,cs,ha,_,⟨rfl,_⟩,hc⟩:=hs.el hlt'
  refine⟨_,_,_,_,hb.at0 (r:=[]) (x1.trans x2) rfl,ad,⟨ha,oM,hlt⟩,_,_,_,_,hc _ (x0.trans (x1.trans x2)),?_⟩
  rw[Z32]
  exact⟨λh=>by rw[←Zlf (p:=λy=>decide (x=y)) hlt' hI h]; exact hR _ (x0.trans (x1.trans x2)),λh=>hn hlt' _ ⟨x1.trans x2,by rw[Zfq hlt' hI]; exact h⟩⟩
 ·have:i=l.length:=oM
  rw[this,List.take_length]at hI
  rw[←Zim hI]; exact hR _ (x0.trans x1)
theorem Zpi{s:Sl}{l:List Pin}{x:Pin}{S:Nat→Prop}{w:World}{R:Bool→World→Prop}(hs:SlR pinE w S s l)(hR: ∀w',Ext w w'→R (decide (x∈l)) w'):SE.Zac s x.name x.v.ma x.v.mi x.v.pa w R:=by
 unfold SE.Zac
 refine newS.intro λa w0 x0 hb _ _=>⟨_,_,_,_,hb.ldc.pre (r:=[]) rfl,SE.Zbq.go (Zwt (x:=x) (hs.ext x0) λw1 x1=>⟨_,rfl,?_⟩)⟩
 rw[Zle]
 have:l.any (λy=>decide (x=y))=decide (x∈l):=by
  rw[Bool.eq_iff_iff,List.any_eq_true,decide_eq_true_eq]
  simp
 rw[this]; exact hR _ (x0.trans x1)
theorem catOrder_se{b:Bool}{w:World}{R:Int→World→Prop}(hR:R (ordB b) w):SE.Zew b w R:=by
 unfold SE.Zew
 exact⟨λh=>by subst h; exact hR,λh=>by subst h; exact hR⟩
theorem Z1g{v:Ver}{l:Sl}{ll:List Span}{S:Nat→Prop}{c0:Addr}{w:World}{R:Bool→World→Prop}(hc:BoxAt w c0 [Sl.v l])(hl:SlR spanE w S l ll)(hR: ∀w',Ext w w'→R (!Z6 ll v) w'):SE.Zay v.ma v.mi v.pa c0 w R:=by
 unfold SE.Zay
 refine newS.intro λa w1 x1 hb _ _=>⟨l,hc.at0 (r:=[]) x1 rfl,_,_,_,hb.ldc.pre (r:=[]) rfl,SE.Zk0.go (Zoo (v:=v) (hl.ext x1) λw2 x2=>⟨_,rfl,hR _ (x1.trans x2)⟩)⟩
theorem Z1h{a b:Ver}{n:ByteArray}{pins:Sl}{lp:List Pin}{S:Nat→Prop}{c0 c1:Addr}{w:World}{R:Int→World→Prop}(hc0:BoxAt w c0 [Sl.v pins])(hc1:BoxAt w c1 [.string n])(hp:SlR pinE w S pins lp)(hR: ∀w',Ext w w'→R (cC lp n a b) w'):
  SE.Zaz a.ma a.mi a.pa b.ma b.mi b.pa c0 c1 w R:=by
 unfold SE.Zaz
 refine newS.intro λ_ w1 x1 hb _ _=>newS.intro λ_ w2 x2 hb2 _ _=>bnd.drew λw3 x3=>?_
 have x13:=x2.trans x3
 have x03:=x1.trans x13
 refine⟨pins,hc0.at0 (r:=[]) x03 rfl,n,hc1.at0 (r:=[]) x03 rfl,_,_,_,hb2.at0 (r:=[]) x3 rfl,pins,hc0.at0 (r:=[]) x03 rfl,n,hc1.at0 (r:=[]) x03 rfl,_,_,_,hb.at0 (r:=[]) x13 rfl,?_⟩
 refine callX.intro (SE.Zac.go (Zpi (x:=⟨n,b⟩) (hp.ext x03) λw4 x4=>⟨x4,_,rfl,callX.intro (SE.Zew.go (catOrder_se ⟨Ext.refl _,_,rfl,?_⟩))⟩))
 refine SE.Zac.go (Zpi (x:=⟨n,a⟩) (hp.ext (x03.trans x4)) λw5 x5=>⟨_,rfl,SE.Zew.go (catOrder_se ⟨_,rfl,?_⟩)⟩)
 have e:Za (ordB (decide ((⟨n,b⟩:Pin)∈lp)) - ordB (decide ((⟨n,a⟩:Pin)∈lp)))=cC lp n a b:=by
  rw[Zc]<;>unfold ordB
  ·rfl
  ·split<;>split<;>omega
  ·split<;>split<;>omega
 rw[e]; exact hR _ (x03.trans (x4.trans x5))
theorem Zyr:Zfv prog 155:=enters_of func155 kR rfl
theorem Zys:Zfv prog 157:=enters_of func157 kR rfl
theorem Ztr{n:ByteArray}{l pins:Sl}{ll:List Span}{lp:List Pin}{S S1 S2:Nat→Prop}{p:Addr}{r:Nat}{L:List Pack}{w:World}{R:Sl→World→Prop}(hC:CatL w S p r L)(hS1:Old S1 w)(hS2:Old S2 w)(hl:SlR spanE w S1 l ll)(hp:SlR pinE w S2 pins lp)
  (hR: ∀t w',Ext w w'→FlatO Ver.c 24 w' w.heap.size t (Znq L n ll lp)→R t w'):SE.Zbg (some p) n l pins w R:=by
 unfold SE.Zbg
 refine newS.intro λa w1 x1 hb _ _=>newS.intro λa1 w2 x2 hb1 _ _=>newS.intro λa3 w3 x3 hb3 _ _=> ?_
 have x03:=x1.trans (x2.trans x3)
 have hb':=hb.ext (x2.trans x3)
 have hb1':=hb1.ext x3
 refine⟨n,hb'.ldc.pre (r:=[]) rfl,SE.Zw.go (Zo2 (hC.ext x03) λt w4 x4 hF=>⟨_,rfl,?_⟩)⟩
 have s4:=x4.size
 refine SE.Ze.go (Zrv (d:=λv=>!Z6 ll v) hF s4 (λx _ w' k hw hk=>?_) λt2 w5 b5 hF5=>⟨_,rfl,?_⟩)
 ·refine⟨_,_,rfl,Zyr,SE.Zay.go (Z1g (v:=x) (l:=l) (ll:=ll) (S:=S1) ?_ ?_ hk)⟩
  ·exact(hb1'.ext x4).below hw hb1'.lt
  ·exact(hl.ext (x03.trans x4)).below hw λb hb=>Nat.lt_of_lt_of_le (hS1 b hb) x03.size
 ·have e:(Zd0 n L).filter (λx=>!(!Z6 ll x))=(Zd0 n L).filter (Z6 ll):=by simp
  rw[e]at hF5
  have xB:Below w3.heap.size w3 w5:=Below.trans x4 b5
  have fin: ∀w6,Below w3.heap.size w3 w6→FlatO Ver.c 24 w6 w3.heap.size t2 (Znq L n ll lp)→callS prog 160 [Sl.v t2] w6 (λv13 w12=>∃t19:Sl,v13=Sl.v t19∧R t19 w12):=λw6 b6 hF6=>by
   refine SE.Za4.go ⟨⟨oM,oM,oM,by have:=hF6.1; have:=hF6.2.1; omega⟩,_,rfl,hR _ _ (x03.trans b6) ?_⟩
   obtain⟨a,b,c,d,e⟩:=hF6.clip (k:=3)
   exact⟨a,b,c,d,e.imp id λ⟨g,tail,a,b,c⟩=>⟨g,tail,a,Nat.le_trans x03.size b,c⟩⟩
  obtain⟨k1,k2,k3,k4,k5⟩:=hF5
  rcases k5 with k5|⟨g,tail,ha,hg,hr⟩
  ·refine SE.Zd.go (StV.sortStable_nil (by rw[k1,k5]; rfl) ⟨rfl,fin w5 xB ?_⟩)
   have:Znq L n ll lp= []:=by rw[←Zka,k5]; rfl
   rw[this]
   rw[k5]at k1 k2
   exact⟨k1,k2,k3,by simp,.inl rfl⟩
  ·refine SE.Zd.go (StV.sortStable_se (Z6r lp n) ha (by rw[k1]; unfold room at k4; omega) (λx y w' k hw hk=>?_) k1 hr λw6 b6 hr6=>⟨rfl,fin w6 (Below.trans xB (b6.below (by have:=xB.size; omega) hg)) ?_⟩)
   ·have hwB:Below w3.heap.size w3 w':=Below.trans xB (hw.below (by have:=xB.size; omega) hg)
    refine⟨_,_,rfl,Zys,SE.Zaz.go (Z1h (a:=x) (b:=y) (n:=n) (pins:=pins) (lp:=lp) (S:=S2) ?_ ?_ ?_ hk)⟩
    ·exact hb3.below hwB hb3.lt
    ·exact hb'.below hwB (Nat.lt_of_lt_of_le hb'.lt nR)
    ·exact(hp.ext x03).below hwB λb hb=>Nat.lt_of_lt_of_le (hS2 b hb) x03.size
   ·rw[Zka]at hr6
    have hl2:(Znq L n ll lp).length=((Zd0 n L).filter (Z6 ll)).length:=by rw[←Zka]; exact(Zeq _).length_eq
    exact⟨by rw[hl2]; exact k1,by rw[hl2]; exact k2,k3,by rw[hl2]; exact k4,.inr ⟨g,tail,ha,hg,hr6⟩⟩
structure PackC where
 name:ByteArray
 v:Ver
 d:Sl
 e:Sl
 o:Sl
instance:Inhabited PackC:=⟨⟨⟨#[]⟩,⟨0,0,0⟩,Sl.nil,Sl.nil,Sl.nil⟩⟩
theorem Zu5:ApT prog 22 52 7 112:=Zhe (z:=.agg #[.string ⟨#[]⟩,.int .i64 0,.int .i64 0,.int .i64 0,.slice none 0 0,.slice none 0 0,.slice none 0 0]) kR kR rfl dC
theorem SlR.cut{α:Type}{E:Enc α}{w:World}{S:Nat→Prop}{s:Sl}{l:List α}(h:SlR E w S s l){a b:Nat}(hab:a≤b)(hb:b≤l.length):SlR E w S (Sl.cut s a b E.n) ((l.take b).drop a):=by
 obtain⟨h1,h2,h3,h4,h5⟩:=h
 have hl:((l.take b).drop a).length=b - a:=by rw[List.length_drop,List.length_take]; omega
 refine⟨by rw[hl]; rfl,by rw[hl]; show b - a≤s.cap - a; omega,by show s.cap - a≤_; omega,?_,?_⟩
 ·rw[hl]; exact Nat.le_trans (Nat.mul_le_mul_right _ oM) h4
 ·by_cases h0:b - a=0
  ·exact .inl (List.eq_nil_of_length_eq_zero oM)
  ·rcases h5 with h5|⟨ad,ha,hS,hr⟩
   ·subst h5; simp at hb; omega
   ·refine .inr ⟨ad.add (a*E.n),?_,by rw[Ze5]; exact hS,λi x hx=>?_⟩
    ·show(if s.cap=a then s.a else _)=_
     rw[if_neg oM,ha]; rfl
    ·rw[List.getElem?_drop]at hx
     rw[List.getElem?_take]at hx
     split at hx
     ·obtain⟨cs,k1,k2⟩:=hr (a+i) x hx
      exact⟨cs,k1,by rw[Zfi,←Nat.add_mul]; exact k2⟩
     ·cases hx
theorem Zp3{w:World}{S:Nat→Prop}{s:Sl}{l:List Pack}(h:SlR packE w S s l){n:Nat}(hn:n<l.length):
  ∃ad d e o,s.a=some ad∧S ad.block∧Str l[n].name∧SlR depE w S d l[n].deps∧SlR depE w S e l[n].peers∧SlR depE w S o l[n].opt∧ ∀w',Ext w w'→ldc w' (ad.add (n*7)) [.string l[n].name,.int .i64 l[n].v.ma,.int .i64 l[n].v.mi,.int .i64 l[n].v.pa,d.v,e.v,o.v]:=by
 obtain⟨ad,cs,h1,h2,⟨h0,d,e,o,rfl,a,b,c⟩,h4⟩:=h.el hn
 exact⟨ad,d,e,o,h1,h2,h0,a,b,c,h4⟩
structure RefR(w:World)(S:Nat→Prop)(q:Addr)(L:List Pack):Prop where
 at_: ∃s,BoxAt w q [Sl.v s]∧SlR packE w S s L
 free: ¬S q.block
 old:Old S w
 good:GoodL L
theorem RefR.ext{w w':World}{S:Nat→Prop}{q:Addr}{L:List Pack}(h:RefR w S q L)(hx:Ext w w'):RefR w' S q L:=by
 obtain⟨s,a,b⟩:=h.at_
 exact⟨⟨s,a.ext hx,b.ext hx⟩,h.free,h.old.ext hx.size,h.good⟩
theorem RefR.stay{w w':World}{S:Nat→Prop}{q:Addr}{L:List Pack}(h:RefR w S q L)(hsz:w.heap.size≤w'.heap.size)(hk: ∀b,b<w.heap.size→(S b∨b=q.block)→w'.heap[b]? =w.heap[b]?):RefR w' S q L:=by
 obtain⟨s,a,b⟩:=h.at_
 exact⟨⟨s,a.keep (S:=λb=>b=q.block) rfl λb hb hl=>hk b hl (.inr hb),b.keep λb hb hl=>hk b hl (.inl hb)⟩,h.free,h.old.ext hsz,h.good⟩
theorem Zgc{α:Type}{p:α→Bool}{l:List α}{n:Nat}(hn:n<l.length)(h0:(l.take n).find? p=none):(l.take (n+1)).find? p=if p l[n]then some l[n]else none:=by
 rw[List.take_succ_eq_append_getElem hn,List.find?_append,h0]
 simp only[Option.none_or,List.find?_cons,List.find?_nil]
 cases p l[n]<;>rfl
theorem Zqx{α:Type}{p:α→Bool}{l:List α}{n:Nat}(hn:n<l.length)(h0:(l.take n).find? p=none)(h:p l[n]=true):l.find? p=some l[n]:=by
 have e:l.find? p=(l.take (n+1)++l.drop (n+1)).find? p:=by rw[List.take_append_drop]
 rw[e,List.find?_append,Zgc hn h0,if_pos h]; rfl
theorem Zjy{n:ByteArray}{v:Ver}{S:Nat→Prop}{q:Addr}{L:List Pack}{w:World}{R:ByteArray→Int→Int→Int→Sl→Sl→Sl→Bool→World→Prop}(hC:RefR w S q L)
  (hR: ∀d e o w',Ext w w'→Str (getD L n v).name→SlR depE w' S d (getD L n v).deps→SlR depE w' S e (getD L n v).peers→SlR depE w' S o (getD L n v).opt→
   R (getD L n v).name (getD L n v).v.ma (getD L n v).v.mi (getD L n v).v.pa d e o (getL L n v).isSome w'):SE.Zx (some q) n v.ma v.mi v.pa w R:=by
 unfold SE.Zx
 obtain⟨s,hb,hs⟩:=hC.at_
 have hl:=hs.len
 refine newS.intro λa w1 x1 ha _ _=>newS.intro λa1 w2 x2 ha1 hab _=> ?_
 have x02:=x1.trans x2
 have s02:=x02.size
 refine loop1.up hs.max (λi w'=>Ext w2 w'∧(L.take i).find? (Zeo n v)=none) ⟨Ext.refl _,rfl⟩ λi w3 nxt hi ⟨x3,hI⟩ hn=>?_
 have x03:=x02.trans x3
 refine⟨q,rfl,s,hb.at0 (r:=[]) x03 rfl,λhlt=>bnd.drew λw4 x4=>?_,λhge=>?_⟩
 ·have hlt':i<L.length:=oM
  have x04:=x03.trans x4
  obtain⟨ad,d,e,o,hsa,_,hN,hd,he,ho,hc⟩:=Zp3 hs hlt'
  refine⟨q,rfl,s,hb.at0 (r:=[]) x04 rfl,ad,⟨hsa,oM,hlt⟩,_,(hc _ x04).pre rfl,bound ⟨q,λ_=>rfl,s,λ_=>hb.at0 (r:=[]) x04 rfl,ad,λ_=>⟨hsa,oM,hlt⟩,_,_,_,λ_=>(hc _ x04).mid rfl,_,_,_,λ_=>ha.at0 (r:=[]) (x2.trans (x3.trans x4)) rfl,?_⟩⟩
  rw[Zqe]
  have ek:(bEq L[i].name n&&decide (L[i].v=v))=Zeo n v L[i]:=by
   unfold Zeo
   rw[Bool.eq_iff_iff,Bool.and_eq_true,Zca,decide_eq_true_eq,decide_eq_true_eq]
  rw[ek]
  refine⟨λh=>?_,λh=>hn hlt' _ ⟨x3.trans x4,by rw[Zgc hlt' hI,h]; rfl⟩⟩
  refine⟨q,rfl,s,hb.at0 (r:=[]) x04 rfl,ad,⟨hsa,oM,hlt⟩,_,_,_,_,_,_,_,(hc _ x04).pre (r:=[]) rfl,stw0.intro (ha1.ext (x3.trans x4)) sI λw5 b5 _ hb5=>⟨_,_,_,_,_,_,_,hb5.ldc.pre rfl,?_⟩⟩
  have hg:getL L n v=some L[i]:=Zqx hlt' hI h
  have x5:Ext w w5:=b5.ext x04 (by have:=x1.size; omega)
  have hR':=hR d e o w5 x5
  have hgd:getD L n v=L[i]:=by unfold getD; rw[hg]; rfl
  rw[hgd,hg]at hR'
  exact hR' hN (hd.ext x5) (he.ext x5) (ho.ext x5)
 ·have:i=L.length:=oM
  rw[this,List.take_length]at hI
  refine stw0.intro (ha1.ext x3) sI λw5 b5 _ hb5=>⟨_,_,_,_,_,_,_,hb5.ldc.pre rfl,?_⟩
  have hg:getL L n v=none:=hI
  have x5:Ext w w5:=b5.ext x03 (by have:=x1.size; omega)
  have hR':=hR Sl.nil Sl.nil Sl.nil w5 x5
  have hgd:getD L n v=Z59:=by unfold getD; rw[hg]; rfl
  rw[hgd,hg]at hR'
  exact hR' (by unfold Str; exact Nat.zero_le _) (SlR.nil trivial) (SlR.nil trivial) (SlR.nil trivial)
theorem Zuj{a b:Pack}{d1 e1 o1 d2 e2 o2:Sl}{w:World}{R:Bool→World→Prop}(hN:Str a.name)(hR: ∀w',Ext w w'→R (Zfj a b) w'):SE.Zc0 a.name a.v.ma a.v.mi a.v.pa d1 e1 o1 b.name b.v.ma b.v.mi b.v.pa d2 e2 o2 w R:=by
 unfold SE.Zc0
 refine newS.intro λ_ w1 x1 hb _ _=>newS.intro λ_ w2 x2 hb2 _ _=> ?_
 refine⟨_,hb.at0 x2 rfl,_,hb2.at0 xR rfl,λhne=>⟨_,hb.at0 x2 rfl,_,hb2.at0 xR rfl,SE.Zbt.go (r05less_se hN λw3 x3=>⟨_,rfl,?_⟩)⟩,λhe=>⟨_,_,_,hb.at1 x2 rfl,_,_,_,hb2.at1 xR rfl,SE.Zcg.go (Zq9 (a:=a.v) (b:=b.v) λw3 x3=>⟨_,rfl,?_⟩)⟩⟩
 ·have e:Zfj a b=bLt a.name b.name:=by
   unfold Zfj cP
   rw[Bool.eq_iff_iff,decide_eq_true_eq,Zzr,Zkr]
   constructor
   ·rintro(h|⟨h,_⟩)
    ·exact h
    ·exact absurd (Zhf.1 h) hne
   ·exact .inl
  rw[←e]; exact hR _ (x1.trans (x2.trans x3))
 ·have he:=Classical.not_not.1 he
  have e:Zfj a b=decide (0<a.v.cmp b.v):=by
   unfold Zfj cP
   rw[decide_eq_decide,Zzr,he,Zhf.2 rfl]
   have:=Ver.cmp_ord.flip b.v a.v
   omega
  rw[←e]; exact hR _ (x1.trans (x2.trans x3))
theorem Ztc{α:Type}{p:α→Bool}{l:List α}{i:Nat}(hi:i≤l.length)(h: ∀x∈l.take i,p x=true)(h2: ∀x,l[i]? =some x→p x=false):l.takeWhile p=l.take i∧l.dropWhile p=l.drop i:=by
 induction l generalizing i with
 |nil=>simp
 |cons a r ih=>
  cases i with
  |zero=>
   have:=h2 a rfl
   simp[List.takeWhile_cons,List.dropWhile_cons,this]
  |succ i=>
   have ha:=h a sI
   obtain⟨k1,k2⟩:=ih (i:=i) (by simpa using hi) (λx hx=>h x (by simp[hx])) (λx hx=>h2 x (by simpa using hx))
   simp[List.takeWhile_cons,List.dropWhile_cons,ha,k1,k2]
theorem Zz3{x:Pack}{d e o:Sl}{S S2:Nat→Prop}{q:Addr}{L:List Pack}{w:World}{R:Int→World→Prop}(hC:RefR w S q L)(hN:Str x.name)(hS2:Old S2 w)(hq: ¬S2 q.block)
  (hd:SlR depE w S2 d x.deps) (he:SlR depE w S2 e x.peers) (ho:SlR depE w S2 o x.opt)
  (hR: ∀w',But q.block w w'→RefR w' (λb=>(S b∨S2 b)∨(w.heap.size≤b∧b<w'.heap.size)) q (Ze9 L x).2→R (Ze9 L x).1 w'):SE.Zbu (some q) x.name x.v.ma x.v.mi x.v.pa d e o w R:=by
 unfold SE.Zbu
 obtain⟨s,hb,hs⟩:=hC.at_
 have hql:=hb.lt
 have hl:=hs.len
 have h128:=hC.good.le
 have same: ∀w',Ext w w'→RefR w' (λb=>(S b∨S2 b)∨(w.heap.size≤b∧b<w'.heap.size)) q L:=λw' hx=>
  ⟨⟨s,hb.ext hx,(hs.ext hx).mono λb hb=>.inl (.inl hb)⟩,λh=>by
   rcases h with(h|h)|h
   ·exact hC.free h
   ·exact hq h
   ·omega,λb hb=>by
   have:=hx.size
   rcases hb with(h|h)|h
   ·have:=hC.old b h; omega
   ·have:=hS2 b h; omega
   ·exact h.2,hC.good⟩
 refine newS.intro λa w1 x1 ha hab _=>⟨_,_,_,_,_,_,_,ha.ldc.pre rfl,SE.Zd9.go (Zz1 (p:=x) hN (hd.ext x1) (he.ext x1) (ho.ext x1) λw2 x2=>⟨_,rfl,λh=>?_,λh=>?_⟩)⟩
 ·have e1:Zcv x=false:=by simpa using h
  have hp:Ze9 L x=(24,L):=by unfold Ze9; rw[if_pos e1]
  rw[hp]at hR
  exact hR w2 ((x1.trans x2).but _) (same _ (x1.trans x2))
 have hmay:Zcv x=true:=by simpa using h
 have x02:=x1.trans x2
 refine⟨_,ha.at0 x2 rfl,_,_,_,ha.at1 x2 rfl,SE.Zx.go (Zjy (n:=x.name) (v:=x.v) (hC.ext x02) λd0 e0 o0 w3 x3 _ _ _ _=>⟨_,_,_,_,_,_,_,_,rfl,newS.intro λa7 w4 x4 ha7 ha7b _=>stw0.intro ha7 sI λw5 b5 _ _=>⟨λh=>?_,λh=>?_⟩⟩)⟩
 all_goals
  have s1:=x1.size; have s2:=x2.size; have s3:=x3.size; have s4:=x4.size
  have x05:Ext w w5:=b5.ext (x02.trans (x3.trans x4)) oM
 ·have hp:Ze9 L x=(11,L):=by unfold Ze9; rw[if_neg (by rw[hmay]; simp),if_pos h]
  rw[hp]at hR
  exact hR w5 (x05.but _) (same _ x05)
 have hnone:(getL L x.name x.v).isSome=false:=h
 refine⟨q,rfl,s,hb.at0 (r:=[]) x05 rfl,λh=>?_,λh=>?_⟩
 ·have hp:Ze9 L x=(26,L):=by unfold Ze9; rw[if_neg (by rw[hmay]; simp),if_neg (by rw[hnone]; simp),if_pos oM]
  rw[hp]at hR
  exact hR w5 (x05.but _) (same _ x05)
 have hlt:L.length<128:=oM
 have hp:Ze9 L x=(0,Zoe x L):=by unfold Ze9; rw[if_neg (by rw[hmay]; simp),if_neg (by rw[hnone]; simp),if_neg oM]
 have hgood:=Zoh hC.good x
 rw[hp]at hR hgood
 have x25:Ext w1 w5:=b5.ext (x2.trans (x3.trans x4)) oM
 have hEb:packE.bytes=112:=rfl
 refine loop1.up hs.max (λi w'=>Ext w5 w'∧ ∀y∈L.take i,Zfj y x=true) ⟨Ext.refl _,by simp⟩ λi w6 nxt hi ⟨x6,hI⟩ hn=>bnd.drew λw7 x7=>?_
 have x57:=x6.trans x7
 have x07:=x05.trans x57
 have x17:=x25.trans x57
 obtain⟨ad,y,dy,ey,oy,hel⟩: ∃(ad:Addr) (y:Pack) (dy ey oy:Sl),decide ((i:Int)<(s.len:Int))=true→s.a=some ad∧L[i]? =some y∧Str y.name∧ ∀w',Ext w w'→ldc w' (ad.add (i*7)) [.string y.name,.int .i64 y.v.ma,.int .i64 y.v.mi,.int .i64 y.v.pa,dy.v,ey.v,oy.v]:=by
  by_cases hlt':i<L.length
  ·obtain⟨ad,d',e',o',hsa,_,hNy,_,_,_,hc⟩:=Zp3 hs hlt'
   exact⟨ad,L[i],d',e',o',λ_=>⟨hsa,List.getElem?_eq_getElem hlt',hNy,hc⟩⟩
  ·exact⟨q,Z59,Sl.nil,Sl.nil,Sl.nil,λh=>by simp at h; omega⟩
 refine⟨q,rfl,s,hb.at0 (r:=[]) x07 rfl,bound ⟨q,λ_=>rfl,s,λ_=>hb.at0 (r:=[]) x07 rfl,ad,λh=>⟨(hel h).1,oM,by simpa using h⟩,y.name,y.v.ma,y.v.mi,y.v.pa,dy,ey,oy,λh=>(hel h).2.2.2 w7 x07,x.name,x.v.ma,x.v.mi,x.v.pa,d,e,o,λ_=>ha.at0 (r:=[]) x17 rfl,gCall.named λJ hJ=>?_⟩⟩
 have key: ∀t w8,Ext w7 w8→(decide ((i:Int)<(s.len:Int))=true→t=Zfj y x)→J t w8:=λt w8 x8 ht=>by
  subst hJ
  have x08:=x07.trans x8
  refine⟨λh=>?_,λh=>?_⟩
  ·simp only[Bool.and_eq_true]at h
   obtain⟨k1,k2,_,_⟩:=hel h.1
   have hil:i<L.length:=by have:=h.1; simp at this; omega
   refine hn hil _ ⟨x57.trans x8,λz hz=>?_⟩
   rw[List.take_succ_eq_append_getElem hil]at hz
   rcases List.mem_append.1 hz with hz|hz
   ·exact hI z hz
   ·simp at hz; subst hz
    rw[List.getElem?_eq_getElem hil,Option.some.injEq]at k2
    rw[k2,←ht h.1]; exact h.2
  ·have hno: ∀z,L[i]? =some z→Zfj z x=false:=λz hz=>by
    have hil:=(List.getElem?_eq_some_iff.1 hz).1
    have hd1:decide ((i:Int)<(s.len:Int))=true:=by simp; omega
    obtain⟨_,k2,_,_⟩:=hel hd1
    rw[hz,Option.some.injEq]at k2
    rw[k2,←ht hd1]
    rw[hd1]at h; simpa using h
   obtain⟨ht1,ht2⟩:=Ztc (p:=(Zfj · x)) (l:=L) (i:=i) hi hI hno
   have hput:Zoe x L=L.take i++x::L.drop i:=by unfold Zoe; rw[ht1,ht2]
   have hs8:=hs.ext x08
   have hcap:=hs.2.1
   have c1:=hs8.cut (a:=0) (b:=i) (Nat.zero_le _) hi
   have c2:=hs8.cut (a:=i) (b:=L.length) hi nR
   rw[List.drop_zero]at c1
   rw[List.take_length]at c2
   have lt1:(L.take i).length=i:=by rw[List.length_take]; omega
   have lt2:(L.drop i).length=L.length - i:=List.length_drop
   have hol:Old S w8:=hC.old.ext x08.size
   refine⟨q,rfl,s,hb.at0 (r:=[]) x08 rfl,⟨oM,oM⟩,?_⟩
   refine(OwnS.zero (E:=packE) (T:=52) w8).appAll Zu5 nR c1 hol (λad h=>by cases h) (by rw[hEb,lt1]; unfold room; simp; omega) (by rw[lt1,Zb]; simp; omega) λr1 w9 own1 bel1 _ reg1=>?_
   rw[List.nil_append]at own1
   have x9:Ext w8 w9:=bel1
   refine⟨_,_,_,_,_,_,_,ha.at0 (r:=[]) (x17.trans (x8.trans x9)) rfl,newS.intro λa30 w10 x10 hb30 h30 _=> ?_⟩
   have x810:=x9.trans x10
   have s9:=x9.size; have s10:=x10.size
   have x010:=x08.trans x810
   have s08:=x08.size
   have hS2':Old S2 w10:=hS2.ext x010.size
   have hr1: ∀ad,r1.a=some ad→w8.heap.size≤ad.block:=λad h=>(own1.block h).1
   refine(own1.ext x10).push (x:=x) (S':=S2) Zu5 x810.size ⟨hN,d,e,o,rfl,hd.ext x010,he.ext x010,ho.ext x010⟩ hb30.ldc hS2' (λad had hb=>by have:=hr1 ad had; have:=hS2 _ hb; omega) (by rw[hEb,lt1]; unfold room; omega) (by rw[lt1,Zb]; omega) λr2 w11 own2 bel2 _ _=> ?_
   have x811:Ext w8 w11:=x810.trans' bel2
   have x011:=x08.trans x811
   refine⟨q,rfl,s,hb.at0 (r:=[]) x011 rfl,⟨oM,oM⟩,?_⟩
   have hr2: ∀ad,r2.a=some ad→w8.heap.size≤ad.block:=λad h=>(own2.block h).1
   have l2:(L.take i++ [x]).length=i+1:=by rw[List.length_append,lt1]; rfl
   rw[hl]
   refine own2.appAll Zu5 x811.size (c2.ext x811) (hol.ext x811.size) (λad had hb=>by have:=hr2 ad had; have:=hC.old _ hb; omega) (by rw[hEb,l2,lt2]; unfold room; omega) (by rw[l2,lt2,Zb]; omega) λr3 w12 own3 bel3 _ _=> ?_
   have x812:Ext w8 w12:=x811.trans' bel3
   have x012:=x08.trans x812
   have e3:(L.take i++ [x])++L.drop i=Zoe x L:=by rw[hput]; simp
   rw[e3]at own3
   have hlen:(Zoe x L).length=L.length+1:=by rw[(Zmi x L).length_eq]; simp
   refine⟨q,rfl,stw0.intro (hb.ext x012) sI λw13 b13 hz13 hb13=>?_⟩
   have hrow: ∀b,(((None' b∨S b)∨S2 b)∨S b)∨(∃ad,r3.a=some ad∧b=ad.block)→(S b∨S2 b)∨(w.heap.size≤b∧b<w13.heap.size):=λb hb=>by
    rcases hb with(((hb|hb)|hb)|hb)|⟨ad,had,rfl⟩
    ·exact hb.elim
    ·exact .inl (.inl hb)
    ·exact .inl (.inr hb)
    ·exact .inl (.inl hb)
    ·have:=own3.block had; exact .inr ⟨oM,oM⟩
   have hrd:=own3.read (by rw[hEb,hlen]; unfold room; omega) (by rw[hlen,Zb]; omega)
   refine hR w13 ((x012.but _).trans b13) ⟨⟨r3,hb13,(hrd.but b13 λhb=>?_).mono hrow⟩,λhb=>?_,λb hb=>?_,hgood⟩
   ·rcases hb with(((hb|hb)|hb)|hb)|⟨ad,had,hb⟩
    ·exact hb.elim
    ·exact hC.free hb
    ·exact hq hb
    ·exact hC.free hb
    ·have:=own3.block had; omega
   ·rcases hb with(hb|hb)|hb
    ·exact hC.free hb
    ·exact hq hb
    ·omega
   ·have:=x012.size
    rcases hb with(hb|hb)|hb
    ·have:=hC.old b hb; omega
    ·have:=hS2 b hb; omega
    ·exact hb.2
 refine⟨λhg=>SE.Zc0.go (Zuj (a:=y) (b:=x) (hel hg).2.2.1 λw8 x8=>⟨_,rfl,key _ _ x8 λ_=>rfl⟩),λhg=>key _ _ xR λh=>by rw[hg]at h; cases h⟩
def cW(a b:Want):Int:=cmpS a.name b.name
theorem cW_ord:Ord3 cW:=Zgb Want.name
def Zhw(kind:Int)(over:List Dep)(d:Dep):Want:=⟨d.name,kind,Zh4 over d.name d.range⟩
theorem Zwa{w:World}{S:Nat→Prop}{s:Sl}{l:List Want}(h:SlR wantE w S s l){n:Nat}(hn:n<l.length):
  ∃ad t,s.a=some ad∧S ad.block∧Str l[n].name∧SlR spanE w S t l[n].range∧ ∀w',Ext w w'→ldc w' (ad.add (n*3)) [.string l[n].name,.int .i64 l[n].kind,t.v]:=by
 obtain⟨ad,cs,h1,h2,⟨h0,t,rfl,h5⟩,h4⟩:=h.el hn
 exact⟨ad,t,h1,h2,h0,h5,h4⟩
theorem Zu6:ApT prog 108 177 3 48:=Zhe (z:=.agg #[.string ⟨#[]⟩,.int .i64 0,.slice none 0 0]) kR kR rfl dC
theorem Zs3{l rs:Sl}{L:List Want}{x:Want}{S:Nat→Prop}{w:World}{R:Sl→World→Prop}(hS:Old S w)(hl:SlR wantE w S l L)(hs:L.Pairwise λa b=>cW a b≤0)(hN:Str x.name)(hx:SlR spanE w S rs x.range)(hb:(L.length+1)*48≤room)
  (hR: ∀t w',Ext w w'→SlR wantE w' (λb=>S b∨(w.heap.size≤b∧b<w'.heap.size)) t (Zdo cW x L)→R t w'):SE.Zcu l x.name x.kind rs w R:=by
 unfold SE.Zcu
 have hll:=hl.len
 have hcap:l.len≤l.cap:=by rw[hll]; exact hl.2.1
 have hmax:=hl.max
 have h48:L.length+1≤9000000000000:=by unfold room at hb; omega
 have eb:wantE.bytes=48:=rfl
 refine newS.intro λa w1 x1 ha hab _=> ?_
 refine loop1.ghost (λn i w'=>i=(n:Int)∧n≤L.length∧Ext w1 w'∧ ∀k (h:k<L.length),n≤k→cW x L[k]<0) L.length ⟨oM,Nat.le_refl _,Ext.refl _,λk h hk=>by omega⟩ λn i w2 nxt ⟨hi,hn,x2,hgt⟩ hnx=>bnd.drew λw3 x3=>?_
 subst hi
 have x13:=x2.trans x3
 have x03:=x1.trans x13
 have done: ∀w4,Ext w1 w4→(∀h:0<n,¬cW x L[n - 1]<0)→((0:Int)≤(n:Int)∧(n:Int)≤(l.cap:Int))∧appS prog 108 108 Sl.nil (Sl.v (Sl.cut l 0 (n:Int).toNat 3)) w4 λt28 vw6=>∃(t30_Name:ByteArray) (t30_Kind:Int) (t30_Range:Sl),(ldc vw6 a [(Value.string t30_Name),(Value.int .i64 t30_Kind),(Sl.v t30_Range)])∧newS vw6 [(Value.string t30_Name),(Value.int .i64 t30_Kind),(Sl.v t30_Range)] 177 λa8 vw9=>appS prog 108 108 t28 (Sl.v (Sl.mk (some a8) 1 1)) vw9 λt32 vw10=>((0:Int)≤(n:Int)∧(n:Int)≤(l.len:Int))∧appS prog 108 108 t32 (Sl.v (Sl.cut l (n:Int).toNat l.len 3)) vw10 λt37 vw12=>R t37 vw12:=λw4 x4 hle=>by
  refine⟨oM,?_⟩
  have x04:=x1.trans x4
  have hS4:=hS.ext x04.size
  have hc1:SlR wantE w4 S (Sl.cut l 0 n 3) ((L.take n).drop 0):=(hl.ext x04).cut (Nat.zero_le _) hn
  rw[List.drop_zero]at hc1
  have hc2:SlR wantE w S (Sl.cut l n l.len 3) ((L.take l.len).drop n):=hl.cut oM oM
  rw[hll,List.take_length]at hc2
  have htl:(L.take n).length=n:=by rw[List.length_take]; omega
  have hdl:(L.drop n).length=L.length - n:=List.length_drop
  rw[Int.toNat_natCast]
  refine(OwnS.zero (E:=wantE) (T:=177) w4).appAll Zu6 nR hc1 hS4 (λad ha=>by cases ha) (by rw[htl,eb]; simp; omega) (by rw[htl]; simp; omega) λr1 w5 o1 bel1 _ reg1=>?_
  have x45:Ext w4 w5:=(Ext.refl w4).trans' bel1
  rw[List.nil_append]at o1
  refine⟨_,_,_,(ha.ext (x4.trans x45)).ldc.pre (r:=[]) rfl,newS.intro λa8 w6 x6 hb8 ha8 _=> ?_⟩
  have x46:=x45.trans x6
  have fresh: ∀{s:Sl} {l':List Want} {Q:Nat→Prop} {w':World},OwnS wantE 177 w' w4.heap.size Q s l'→ ∀ad,s.a=some ad→ ¬S ad.block:=λo ad h hSb=>by
   have:=(o.block h).1; have:=hS4 _ hSb; omega
  refine(o1.ext x6).push Zu6 (x46.size) (x:=x) (S':=S) ⟨hN,rs,rfl,hx.ext (x04.trans x46)⟩ (hb8.ldc.pre (r:=[]) rfl) (hS4.ext x46.size) (fresh o1) (by rw[htl,eb]; omega) (by rw[htl,Zb]; omega) λr2 w7 o2 bel2 _ _=> ?_
  have x47:Ext w4 w7:=x46.trans' bel2
  rw[hll]
  refine⟨oM,o2.appAll Zu6 x47.size (hc2.ext (x04.trans x47)) (hS4.ext x47.size) (fresh o2) (by rw[List.length_append,htl,hdl,eb]; simp; omega) (by rw[List.length_append,htl,hdl,Zb]; simp; omega) λr3 w8 o3 bel3 _ _=> ?_⟩
  have hpl:(L.take n++ [x])++L.drop n=Zdo cW x L:=by
   rw[List.append_assoc,List.singleton_append,←Zue (c:=cW) (x:=x) (A:=L.take n) (B:=L.drop n) (λy hy=>?_) (λy hy=>?_),List.take_append_drop]
   ·obtain⟨k,hk,rfl⟩:=List.mem_iff_getElem.1 hy
    rw[htl]at hk
    rw[List.getElem_take]
    have h0:0<n:=oM
    intro hlt
    rcases Nat.lt_or_ge k (n - 1)with h|h
    ·have h1:=List.pairwise_iff_getElem.1 hs k (n - 1) oM oM h
     exact hle h0 (cW_ord.lt_of hlt h1)
    ·have:k=n - 1:=oM
     subst this
     exact hle h0 hlt
   ·obtain⟨k,hk,rfl⟩:=List.mem_iff_getElem.1 hy
    rw[hdl]at hk
    rw[List.getElem_drop]
    exact hgt (n+k) oM oM
  rw[hpl]at o3
  have hlen:(Zdo cW x L).length=L.length+1:=by rw[←hpl]; simp; omega
  have s04:=x04.size
  refine hR _ _ ((x04.trans x47).trans' (Below.mono bel3 x04.size)) ((o3.read (by rw[hlen,eb]; omega) (by rw[hlen,Zb]; omega)).mono λb hb=>?_)
  rcases hb with((((hb|hb)|hb)|hb))|⟨ad,ha,rfl⟩
  ·exact hb.elim
  ·exact .inl hb
  ·exact .inl hb
  ·exact .inl hb
  ·have:=o3.block ha; exact .inr ⟨oM,this.2.1⟩
 rcases Nat.eq_zero_or_pos n with h0|h0
 ·subst h0
  have e:decide ((0:Int)<((0:Nat):Int))=false:=rfl
  rw[e]
  refine bound ⟨⟨#[]⟩,nO,⟨0,0,none⟩,nO,⟨#[]⟩,nO,nO,λ_=>⟨nO,λ_=>done w3 x13 λh=>absurd h (Nat.lt_irrefl 0)⟩⟩
 ·have e:decide ((0:Int)<(n:Int))=true:=by rw[decide_eq_true_eq]; omega
  have hw:Za ((n:Int) - 1)=((n - 1:Nat):Int):=by rw[Zc oM oM]; omega
  have hn1:n - 1<L.length:=oM
  obtain⟨ad,t,hla,_,hNk,_,hc⟩:=Zwa hl hn1
  rw[e,hw]
  refine bound ⟨x.name,λ_=>BoxAt.at0 ha x13 rfl,ad,λ_=>⟨hla,oM,oM⟩,L[n - 1].name,λ_=>(hc _ x03).pre rfl,?_⟩
  refine gCall.intro (bLt x.name L[n - 1].name) (λ_ q hq=>SE.Zbt.go (r05less_se hN λw' hx=>⟨_,rfl,hq _ hx⟩)) λt20 w4 x4 ht=>?_
  have ht:=ht rfl
  subst ht
  refine⟨λh=>hnx (n - 1) _ _ oM ⟨rfl,oM,x13.trans x4,λk hk hkn=>?_⟩,λh=>done w4 (x13.trans x4) λ_ hlt=>?_⟩
  ·rcases Nat.lt_or_ge k n with h1|h1
   ·have:k=n - 1:=oM
    subst this
    exact Zkr.2 (by simpa using h)
   ·exact hgt k hk h1
  ·have:=Zkr.1 hlt
   rw[this]at h; simp at h
theorem Zki{α:Type}{c:α→α→Int}(l:List α):(Zb0 c l).length=l.length:=(Zeq l).length_eq
theorem Zhs{l ds mD mDev mOpt mOv:Sl}{M:List Want}{deps over:List Dep}{kind:Int}{S S0:Nat→Prop}{w:World}{R:Sl→World→Prop}(hS:Old S w)(hS0: ∀b,S0 b→S b)(hl:SlR wantE w S l (Zb0 cW M))(hd:SlR depE w S0 ds deps)(hO:SlR depE w S0 mOv over)(hb:(M.length+deps.length)*48≤room)
  (hR: ∀t w',Ext w w'→SlR wantE w' (λb=>S b∨(w.heap.size≤b∧b<w'.heap.size)) t (Zb0 cW (M++deps.map (Zhw kind over)))→R t w'):SE.Za1 l ds kind mD mDev mOpt mOv w R:=by
 unfold SE.Za1
 have hdl:=hd.len
 refine newS.intro λa w1 x1 ha hab _=> ?_
 refine loop2.up hd.max (λl1 i w'=>Ext w1 w'∧SlR wantE w' (λb=>S b∨(w.heap.size≤b∧b<w'.heap.size)) l1 (Zb0 cW (M++(deps.take i).map (Zhw kind over)))) ⟨Ext.refl _,by rw[List.take_zero,List.map_nil,List.append_nil]; exact(hl.ext x1).mono λ_ h=>.inl h⟩ λl1 i w2 nxt hi ⟨x2,hl2⟩ hn=>⟨λhlt=>bnd.drew λw3 x3=>?_,λhge=>?_⟩
 ·have hlt':i<deps.length:=oM
  have x13:=x2.trans x3
  have x03:=x1.trans x13
  obtain⟨ad,t,hda,_,hN,hr,hc⟩:=Zhg hd hlt'
  have hcd:=hc _ x03
  refine⟨ad,⟨hda,oM,hlt⟩,deps[i].name,hcd.pre rfl,mD,mDev,mOpt,mOv,BoxAt.at0 ha x13 rfl,ad,⟨hda,oM,hlt⟩,deps[i].name,t,hcd.pre (r:=[]) rfl,?_⟩
  refine callX.intro (SE.Zcc.go (refRange_se (S:=S0) (hO.ext x03) (hr.ext x03) λu w4 x4 hu=>⟨x4,_,rfl,?_⟩))
  have x24:=x3.trans x4
  have x14:=x13.trans x4
  have s2:=(x1.trans x2).size; have s24:=x24.size; have s4:=(x1.trans x14).size
  have hold:Old (λb=>S b∨(w.heap.size≤b∧b<w2.heap.size)) w4:=λb hb=>by
   rcases hb with hb|hb
   ·have:=hS b hb; omega
   ·omega
  have hsort:=Zko cW_ord (M++(deps.take i).map (Zhw kind over))
  have hlen:(Zb0 cW (M++(deps.take i).map (Zhw kind over))).length=M.length+i:=by
   rw[Zki,List.length_append,List.length_map,List.length_take]; omega
  refine SE.Zcu.go (Zs3 (x:=Zhw kind over deps[i]) hold (hl2.ext x24) hsort hN (hu.mono λb hb=>.inl (hS0 b hb)) (by rw[hlen]; have:(M.length+i+1)*48≤(M.length+deps.length)*48:=Nat.mul_le_mul_right _ oM; omega) λt5 w5 x5 ht5=>⟨_,rfl,hn hlt' _ _ ⟨x14.trans x5,?_⟩⟩)
  rw[←Zuu cW_ord]at ht5
  rw[List.take_succ_eq_append_getElem hlt',List.map_append,←List.append_assoc]
  have s5:=x5.size
  refine ht5.mono λb hb=>?_
  rcases hb with(hb|hb)|hb
  ·exact .inl hb
  ·exact .inr ⟨hb.1,oM⟩
  ·exact .inr ⟨oM,hb.2⟩
 ·have:i=deps.length:=oM
  rw[this,List.take_length]at hl2
  exact hR _ _ (x1.trans x2) hl2
def Zgs(over a b:List Dep):List Want:=Zb0 cW (a.map (Zhw 1 over)++b.map (Zhw 2 over))
theorem Z2v{p:Pack}{pD pP pO mD mDev mOpt mOv:Sl}{over:List Dep}{S:Nat→Prop}{w:World}{R:Sl→World→Prop}(hS:Old S w)(hD:SlR depE w S pD p.deps)(hO:SlR depE w S pO p.opt)(hV:SlR depE w S mOv over)(hb:(p.deps.length+p.opt.length)*48≤room)
  (hR: ∀t w',Ext w w'→SlR wantE w' (λb=>S b∨(w.heap.size≤b∧b<w'.heap.size)) t (Zgs over p.deps p.opt)→R t w'):SE.Zem p.name p.v.ma p.v.mi p.v.pa pD pP pO mD mDev mOpt mOv w R:=by
 unfold SE.Zem
 refine newS.intro λa w1 x1 ha _ _=>newS.intro λa1 w2 x2 ha1 _ _=>bnd.drew λw3 x3=>?_
 have x13:=x2.trans x3
 have x03:=x1.trans x13
 refine⟨pD,BoxAt.at1 ha x13 rfl,mD,mDev,mOpt,mOv,BoxAt.at0 ha1 x3 rfl,pO,BoxAt.at1 ha x13 rfl,mD,mDev,mOpt,mOv,BoxAt.at0 ha1 x3 rfl,?_⟩
 refine callX.intro (SE.Za1.go (Zhs (M:=[]) (S0:=S) (hS.ext x03.size) (λ_ h=>h) (SlR.nil trivial) (hD.ext x03) (hV.ext x03) (by rw[List.length_nil]; have:(0+p.deps.length)*48≤(p.deps.length+p.opt.length)*48:=Nat.mul_le_mul_right _ oM; omega) λt4 w4 x4 h4=>⟨x4,_,rfl,?_⟩))
 have s3:=x03.size; have s4:=x4.size
 rw[List.nil_append]at h4
 refine SE.Za1.go (Zhs (S0:=S) (λb hb=>?_) (λ_ h=>.inl h) h4 (hO.ext (x03.trans x4)) (hV.ext (x03.trans x4)) (by rw[List.length_map]; exact hb) λt5 w5 x5 h5=>⟨_,rfl,hR _ _ (x03.trans (x4.trans x5)) (h5.mono λb hb=>?_)⟩)
 ·rcases hb with hb|hb
  ·have:=hS b hb; omega
  ·exact hb.2
 ·have s5:=x5.size
  rcases hb with(hb|hb)|hb
  ·exact .inl hb
  ·exact .inr ⟨oM,oM⟩
  ·exact .inr ⟨oM,hb.2⟩
def Zdf(m:Mani)(dev:Bool):List Dep:=if dev then m.deps++m.dev else m.deps
theorem Zs2{m:Mani}{mD mDev mOpt mOv:Sl}{dev:Bool}{S:Nat→Prop}{w:World}{R:Sl→World→Prop}(hS:Old S w)(hD:SlR depE w S mD m.deps)(hE:SlR depE w S mDev m.dev)(hO:SlR depE w S mOpt m.opt)(hV:SlR depE w S mOv m.over)(hb:(m.deps.length+m.dev.length+m.opt.length)*48≤room)
  (hR: ∀t w',Ext w w'→SlR wantE w' (λb=>S b∨(w.heap.size≤b∧b<w'.heap.size)) t (Zgs m.over (Zdf m dev) m.opt)→R t w'):SE.Zcs mD mDev mOpt mOv dev w R:=by
 unfold SE.Zcs
 refine newS.intro λa w1 x1 ha _ _=> ?_
 refine⟨mD,BoxAt.at0 ha xR rfl,mD,mDev,mOpt,mOv,BoxAt.at0 ha xR rfl,?_⟩
 refine SE.Za1.go (Zhs (M:=[]) (S0:=S) (hS.ext x1.size) (λ_ h=>h) (SlR.nil trivial) (hD.ext x1) (hV.ext x1) (by rw[List.length_nil]; have:(0+m.deps.length)*48≤(m.deps.length+m.dev.length+m.opt.length)*48:=Nat.mul_le_mul_right _ oM; omega) λt4 w4 x4 h4=>⟨_,rfl,?_⟩)
 rw[List.nil_append]at h4
 have s1:=x1.size; have s4:=x4.size
 have x04:=x1.trans x4
 refine join.named λJ hJ=>?_
 have key: ∀t5 w5,Ext w4 w5→SlR wantE w5 (λb=>S b∨(w1.heap.size≤b∧b<w5.heap.size)) t5 (Zb0 cW ((Zdf m dev).map (Zhw 1 m.over)))→(Zdf m dev).length≤m.deps.length+m.dev.length→J t5 w5:=by
  subst hJ
  intro t5 w5 x5 h5 hlen
  have x15:=x4.trans x5
  have s5:=x5.size
  refine⟨mOpt,BoxAt.at1 ha x15 rfl,mD,mDev,mOpt,mOv,BoxAt.at0 ha x15 rfl,?_⟩
  refine SE.Za1.go (Zhs (S0:=S) (λb hb=>?_) (λ_ h=>.inl h) h5 (hO.ext (x1.trans x15)) (hV.ext (x1.trans x15)) (by rw[List.length_map]; have:((Zdf m dev).length+m.opt.length)*48≤(m.deps.length+m.dev.length+m.opt.length)*48:=Nat.mul_le_mul_right _ oM; omega) λt6 w6 x6 h6=>⟨_,rfl,hR _ _ (x1.trans (x15.trans x6)) (h6.mono λb hb=>?_)⟩)
  ·rcases hb with hb|hb
   ·have:=hS b hb; omega
   ·exact hb.2
  ·have s6:=x6.size
   rcases hb with(hb|hb)|hb
   ·exact .inl hb
   ·exact .inr ⟨oM,oM⟩
   ·exact .inr ⟨oM,hb.2⟩
 refine⟨λh=>?_,λh=>?_⟩
 ·subst h
  refine⟨mDev,BoxAt.at1 ha x4 rfl,mD,mDev,mOpt,mOv,BoxAt.at0 ha x4 rfl,?_⟩
  refine SE.Za1.go (Zhs (S0:=S) (λb hb=>?_) (λ_ h=>.inl h) h4 (hE.ext x04) (hV.ext x04) (by rw[List.length_map]; have:(m.deps.length+m.dev.length)*48≤(m.deps.length+m.dev.length+m.opt.length)*48:=Nat.mul_le_mul_right _ oM; omega) λt5 w5 x5 h5=>⟨_,rfl,key _ _ x5 ?_ ?_⟩)
  ·rcases hb with hb|hb
   ·have:=hS b hb; omega
   ·exact hb.2
  ·have s5:=x5.size
   rw[←List.map_append]at h5
   refine(h5:SlR _ _ _ _ (Zb0 cW ((Zdf m true).map (Zhw 1 m.over)))).mono λb hb=>?_
   rcases hb with(hb|hb)|hb
   ·exact .inl hb
   ·exact .inr ⟨oM,oM⟩
   ·exact .inr ⟨oM,hb.2⟩
  ·show(m.deps++m.dev).length≤_
   rw[List.length_append]; exact Nat.le_refl _
 ·subst h
  exact key _ _ xR h4 (by show m.deps.length≤_; omega)
theorem Zje{S:Nat→Prop}{mD mDev mOpt mOv dR:Sl}{dN:ByteArray}{over:List Dep}{dr:List Span}{w:World}{R:Sl→World→Prop}(hS:Old S w)(hO:SlR depE w S mOv over)(hd:SlR spanE w S dR dr)
  (hR: ∀t w',Ext w w'→SlP spanE w' (λb=>w.heap.size≤b∧b<w'.heap.size) t (Zh4 over dN dr)→R t w'):SE.Zfd mD mDev mOpt mOv dN dR w R:=by
 unfold SE.Zfd
 refine newS.intro λa w1 x1 ha _ _=>newS.intro λa1 w2 x2 ha1 _ _=> ?_
 have x02:=x1.trans x2
 have hl:=hO.len
 refine⟨mOv,ha.at1 x2 rfl,loop1.up hO.max (λi w'=>Ext w2 w'∧ ∀k<i,∀e:Dep,over[k]? =some e→ ¬e.name=dN) ⟨Ext.refl _,λk hk=>by omega⟩ λi w3 nxt hi ⟨x3,hI⟩ hn=>⟨λhlt=>?_,λhge=>?_⟩⟩
 ·have hlt':i<over.length:=oM
  have x03:=x02.trans x3
  obtain⟨ad,t,hsa,_,hnm,hr,hc⟩:=Zhg hO hlt'
  refine⟨ad,⟨hsa,oM,hlt⟩,_,t,hc _ x03,newS.intro λa5 w4 x4 hb4 ha4 _=>stw0.intro hb4 sI λw5 b5 _ hb5=>⟨_,hb5.ldc.pre rfl,dN,(ha1.ext x3).at0 (b5.ext x4 oM) rfl,λhe=>?_,λhne=>?_⟩⟩
  ·have x35:Ext w3 w5:=b5.ext x4 oM
   have x05:=x03.trans x35
   refine⟨t,hb5.at1 (k:=1) xR rfl,SE.Z4.go (Zjl (hS.ext x05.size) (hr.ext x05) λu w6 x6 hu=>⟨_,rfl,?_⟩)⟩
   refine hR _ _ (x05.trans x6) ?_
   rw[Zp2 (List.getElem?_eq_getElem hlt') he hI]
   have:=x05.size
   exact hu.mono λb hb=>⟨oM,hb.2⟩
  ·have x35:Ext w3 w5:=b5.ext x4 oM
   refine hn hlt' _ ⟨x3.trans x35,λk hk e he=>?_⟩
   rcases Nat.lt_succ_iff_lt_or_eq.1 hk with h|rfl
   ·exact hI k h e he
   ·rw[List.getElem?_eq_getElem hlt',Option.some.injEq]at he
    subst he; exact hne
 ·have x03:=x02.trans x3
  refine⟨dR,(ha1.ext x3).at1 (k:=1) xR rfl,SE.Z4.go (Zjl (hS.ext x03.size) (hd.ext x03) λu w6 x6 hu=>⟨_,rfl,?_⟩)⟩
  refine hR _ _ (x03.trans x6) ?_
  rw[Zob λk e he=>hI k (by have:=(List.getElem?_eq_some_iff.1 he).1; omega) e he]
  have:=x03.size
  exact hu.mono λb hb=>⟨oM,hb.2⟩
theorem SlP.clip{α:Type}{E:Enc α}{w:World}{S:Nat→Prop}{s:Sl}{l:List α}{k:Nat}(h:SlP E w S s l):SlP E w S (Sl.mk (if(s.len:Int).toNat=0 then s.a else s.a.map (·.add (0*k))) ((s.len:Int).toNat - 0) ((s.len:Int).toNat - 0)) l:=by
 have ea:(if(s.len:Int).toNat=0 then s.a else s.a.map (·.add (0*k)))=s.a:=by
  split
  ·rfl
  ·rw[Nat.zero_mul]; cases s.a<;>rfl
 rw[ea]
 obtain⟨⟨h1,h2,h3,h4,h5⟩,h6⟩:=h
 exact⟨⟨by simp[h1],by simp[h1],by simp[h1]; omega,h4,h5⟩,h6⟩
theorem Zyd{s:Sl}(h:s.len≤s.cap):(0:Int)≤0∧0≤(s.len:Int)∧(s.len:Int)≤(s.len:Int)∧(s.len:Int)≤(s.cap:Int):=⟨oM,oM,oM,oM⟩
theorem wantsPeers_se{S:Nat→Prop}{pN:ByteArray}{v1 v2 v3:Int}{pD pP pO mD mDev mOpt mOv:Sl}{over peers:List Dep}{w:World}{R:Sl→World→Prop}(hS:Old S w)(hO:SlR depE w S mOv over)(hp:SlR depE w S pP peers)
  (hR: ∀t w',Ext w w'→SlP depP w' (λb=>w.heap.size≤b∧b<w'.heap.size) t (Zbe over peers)→R t w'):SE.Zhx pN v1 v2 v3 pD pP pO mD mDev mOpt mOv w R:=by
 unfold SE.Zhx
 refine newS.intro λa w1 x1 ha _ _=>newS.intro λa1 w2 x2 ha1 _ _=> ?_
 have x02:=x1.trans x2
 have hl:=hp.len
 have h4:=hp.2.2.2.1
 have e40:depE.bytes=40:=rfl
 have e41:depP.bytes=40:=rfl
 refine⟨pP,ha.at1 x2 rfl,loop2.up hp.max (λout i w'=>Ext w2 w'∧ ∃Q,OwnS depP 152 w' w2.heap.size Q out (Zbe over (peers.take i))∧ ∀b,Q b→w2.heap.size≤b) ⟨Ext.refl _,_,OwnS.zero _,λ_ h=>h.elim⟩ λout i w3 nxt hi ⟨x3,Q,own,hQ⟩ hn=>⟨λhlt=>?_,λhge=>?_⟩⟩
 ·have hlt':i<peers.length:=oM
  have x03:=x02.trans x3
  obtain⟨ad,t,hsa,_,hnm,hr,hc⟩:=Zhg hp hlt'
  refine⟨ad,⟨hsa,oM,hlt⟩,_,t,hc _ x03,newS.intro λa5 w4 x4 hb4 ha4 _=>stw0.intro hb4 sI λw5 b5 _ hb5=>bnd.drew λw6 x6=>?_⟩
  have x35:Ext w3 w5:=b5.ext x4 oM
  have x36:=x35.trans x6
  have x06:=x03.trans x36
  refine⟨_,hb5.at0 x6 rfl,mD,mDev,mOpt,mOv,(ha1.ext x3).at0 (r:=[]) x36 rfl,_,t,hb5.at0 (r:=[]) x6 rfl,callX.intro (SE.Zfd.go (Zje (hS.ext x06.size) (hO.ext x06) (hr.ext x06) λu w7 x7 hu=>⟨x7,_,rfl,newS.intro λa7 w8 x8 hb8 ha8 _=> ?_⟩))⟩
  have x38:=x36.trans (x7.trans x8)
  have s6:=x06.size; have s36:=x36.size; have s3:=x3.size; have s8:=x8.size; have s7:=x7.size
  have hu':=(hu.ext x8).mono (S':=λb=>w6.heap.size≤b∧b<w8.heap.size) λb hb=>⟨hb.1,oM⟩
  have hlen:(Zbe over (peers.take i)).length=i:=by simp[Zbe]; omega
  refine(own.ext x38).push Zx2 (x3.trans x38).size (x:=⟨peers[i].name,Zh4 over peers[i].name peers[i].range⟩) (S':=λb=>w6.heap.size≤b∧b<w8.heap.size) ⟨hnm,u,rfl,hu'⟩ hb8.ldc (λb hb=>hb.2) (λad ha hb=>?_) (by rw[hlen]; rw[e40]at h4; rw[e41]; omega) (by rw[hlen]; have:=hp.max; omega) λr w9 own9 bel _ _=>hn hlt' _ _ ⟨(x3.trans x38).trans' bel,λb=>Q b∨(w6.heap.size≤b∧b<w8.heap.size),?_,λb hb=>?_⟩
  ·have:=(own.block ha).2.1; omega
  ·have e:Zbe over (peers.take (i+1))=Zbe over (peers.take i)++ [⟨peers[i].name,Zh4 over peers[i].name peers[i].range⟩]:=by
    unfold Zbe; rw[List.take_succ_eq_append_getElem hlt',List.map_append]; rfl
   rw[e]; exact own9
  ·rcases hb with hb|hb
   ·exact hQ b hb
   ·omega
 ·have:i=peers.length:=oM
  rw[this,List.take_length]at own
  have hl2:(Zbe over peers).length=peers.length:=by simp[Zbe]
  have hrd:=own.readP (by rw[hl2,e41]; rw[e40]at h4; exact h4) (by rw[hl2]; exact hp.max)
  refine SE.Zdv.go ⟨Zyd (by have:=hrd.1.1; have:=hrd.1.2.1; omega),_,rfl,hR _ _ (x02.trans x3) (hrd.clip.mono λb hb=>?_)⟩
  have:=x02.size
  rcases hb with hb|⟨ad,ha,rfl⟩
  ·have:=hQ b hb; have:=own.lt b hb; exact⟨oM,oM⟩
  ·have:=own.block ha; exact⟨oM,this.2.1⟩
theorem Zjr{x:Pack}(h:Zcv x=true):Zap x.name=true∧x.v.may=true∧Zm x.deps=true∧Zm x.peers=true∧Zm x.opt=true:=by
 unfold Zcv Zdd at h
 simp only[Bool.and_eq_true]at h
 exact⟨h.1.1.1.1.1,h.1.1.1.1.2,h.1.1.1.2,h.1.1.2,h.1.2⟩
theorem Zoc(over l:List Dep):(Zbe over l).map (·.name)=l.map (·.name):=by unfold Zbe; rw[List.map_map]; rfl
theorem Znv{L:List Pack}(hg:GoodL L){over:List Dep}{env:List Pin}{p:Pin}{i:Nat}{out:List Pin}(h:CtxI (getL L) over env p i out):out.length≤2048:=by
 have h1:=Zq4 (m:=L.flatMap λx=>x.peers.map (·.name)) h.names λn hn=>by
  obtain⟨r,hr,rfl⟩:=List.mem_map.1 hn
  have key: ∀r,Reach (getL L) over env p r→r.name∈L.flatMap λx=>x.peers.map (·.name):=λr hr=>by
   have ask: ∀q r,Asks (getL L) over env q r→r.name∈L.flatMap λx=>x.peers.map (·.name):=λq r ⟨x,d,hx,hd,hn,_⟩=>by
    refine List.mem_flatMap.2 ⟨x,(Zge hx).1,?_⟩
    rw[←Zoc over,hn]
    exact List.mem_map_of_mem hd
   cases hr with
   |one ha=>exact ask _ _ ha
   |more _ ha=>exact ask _ _ ha
  exact key r (h.reach r hr)
 have h2: ∀L:List Pack,(∀x∈L,Zcv x=true)→(L.flatMap λx=>x.peers.map (·.name)).length≤16*L.length:=λL=>by
  induction L with
  |nil=>intro _; simp
  |cons x r ih=>
   intro h
   have:=ih λy hy=>h y (.tail _ hy)
   have:=(Zi (Zjr (h x (.head _))).2.2.2.1).1
   simp only[List.flatMap_cons,List.length_append,List.length_map,List.length_cons]; omega
 have h3:=h2 L hg.may
 have:=hg.le
 rw[List.length_map]at h1
 omega
def pinC(p:Pin):List Value:=[.string p.name,.int .i64 p.v.ma,.int .i64 p.v.mi,.int .i64 p.v.pa]
def Apart(s t:Sl):Prop:=∀ad ad',s.a=some ad→t.a=some ad'→ad.block≠ad'.block
theorem OwnS.pushA{α β:Type}{E:Enc α}{F:Enc β}{P:Program}{w:World}{t e e2:TypeId}{lo:Nat}{s s2:Sl}{l:List α}{l2:List β}{x:α}{cs:List Value}{a:Addr}{k:Sl→World→Prop}(h:OwnS E e w lo None' s l)(h2:OwnS F e2 w lo None' s2 l2)(hA:Apart s s2)(hlo:lo≤w.heap.size)(hT:ApT P t e E.n E.bytes)
  (hx:E.rep w None' x cs) (hc:ldc w a cs) (hb:(l.length+1)*E.bytes≤room) (hm:l.length+1≤maxLen) (hk: ∀r w',OwnS E e w' lo None' r (l++ [x])→OwnS F e2 w' lo None' s2 l2→Apart r s2→Below lo w w'→(∀b,b<w.heap.size→(∀ad,s.a=some ad→b≠ad.block)→w'.heap[b]? =w.heap[b]?)→(∀ad,r.a=some ad→(s.a=some ad∨w.heap.size≤ad.block))→k r w'):appS P t t s (Sl.v ⟨some a,1,1⟩) w k:=by
 refine h.push hT hlo hx hc (λ_ h=>h.elim) (λ_ _ h=>h.elim) hb hm λr w' own bel oth reg=>hk r w' (own.mono (λ_ h=>h.elim id id) (λ_ h=>h.elim) (λ_ _ h=>h.elim)) (h2.keep bel.size λb hbl hb'=>?_) (λad ad' h3 h4=>?_) bel oth reg
 ·rcases hb' with hb'|⟨ad,ha,rfl⟩
  ·exact hb'.elim
  ·exact oth _ hbl λad' h'=>Ne.symm (hA _ _ h' ha)
 ·rcases reg ad h3 with h5|h5
  ·exact hA _ _ h5 h4
  ·have:=(h2.block h4).2.1; omega
theorem Apart.swap{s t:Sl}(h:Apart s t):Apart t s:=λa b h1 h2=>Ne.symm (h b a h2 h1)
theorem newS.own{α:Type}{E:Enc α}{w:World}{cs:List Value}{t:TypeId}{x:α}{k:Addr→World→Prop}(hx:E.rep w None' x cs)(h: ∀a w',Ext w w'→OwnS E t w' w.heap.size None' ⟨some a,1,1⟩ [x]→a.block=w.heap.size→k a w'):newS w cs t k:=λa w' ha hw=>by
 subst ha hw
 have hl:=E.len hx
 refine h _ _ (Ext.alloc _ _) ⟨⟨[cs],⟨by simp[hl],.inr ⟨w.heap.size,1,cs.toArray,rfl,Nat.le_refl _,heap_alloc_new w _,Nat.le_refl _,by rw[Zb]; omega,by simp[hl],?_⟩⟩,rfl,λi y hy=>?_⟩,rfl,λ_ h=>h.elim,λ_ _ h=>h.elim⟩ rfl
 ·simp[hl,List.take_of_length_le (Nat.le_of_eq hl)]
 ·cases i with
  |zero=>
   simp only[List.getElem?_cons_zero,Option.some.injEq]at hy
   subst hy
   exact⟨cs,rfl,E.keep hx ((Ext.alloc w _).keep _)⟩
  |succ i=>simp at hy
theorem Zoz:ApT prog 26 78 4 40:=Zhe (z:=.agg #[.string ⟨#[]⟩,.int .i64 0,.int .i64 0,.int .i64 0]) kR kR rfl dC
theorem Z1l{q:Pin}{n:ByteArray}{c0:Addr}{w:World}{R:Bool→World→Prop}(hc:BoxAt w c0 [.string n])(hR: ∀w',Ext w w'→R (isN n q) w'):SE.Zdy q.name q.v.ma q.v.mi q.v.pa c0 w R:=by
 unfold SE.Zdy
 refine newS.intro λa w1 x1 hb _ _=>⟨_,hb.at0 xR rfl,n,hc.at0 (r:=[]) x1 rfl,?_⟩
 have e:bEq q.name n=isN n q:=by
  unfold isN
  rw[Bool.eq_iff_iff,Zca,decide_eq_true_eq]
 rw[e]; exact hR _ x1
theorem Zr3:Zfv prog 231:=enters_of func231 kR rfl
theorem ctx1_se{n:ByteArray}{w:World}{R:Value→World→Prop}(hR: ∀f w',Ext w w'→(∀l:List Pin,Ztk f (λx=>.agg #[.string x.name,.int .i64 x.v.ma,.int .i64 x.v.mi,.int .i64 x.v.pa]) (isN n) l w')→R f w'):SE.Zdx n w R:=by
 unfold SE.Zdx
 refine newS.intro λa w1 x1 hb _ _=>hR _ w1 x1 λl x _ w' k hx hk=>⟨_,_,rfl,Zr3,SE.Zdy.go (Z1l (q:=x) (n:=n) (hb.ext hx) hk)⟩
theorem Z4o{a b:Pin}{w:World}{R:Int→World→Prop}(hR: ∀w',Gr w w'→R (cmpS a.name b.name) w'):SE.Zes a.name a.v.ma a.v.mi a.v.pa b.name b.v.ma b.v.mi b.v.pa w R:=by
 unfold SE.Zes
 refine newS.gr λ_ w1 x1 hb=>newS.gr λ_ w2 x2 hb2=>⟨_,Gr.at0 hb x2 rfl,_,Gr.at0 hb2 (Gr.refl _) rfl,Zja ⟨_,rfl,hR _ (x1.trans x2)⟩⟩
theorem Zwm:Zfv prog 233:=enters_of func233 kR rfl
theorem Z3y: ∀w,(isAgg 78).run prog w= .ok true w:=λw=>by kernel_rfl
theorem Z0f: ∀w,(Go.sizeOf 78).run prog w= .ok 4 w:=λw=>by kernel_rfl
theorem Zxl{w:World}{lo:Nat}{s:Sl}{l:List Pin}{K:Value→World→Prop}(h:FlatO pinC 40 w lo s l)(hlo:lo≤w.heap.size)(hn:(l.map (·.name)).Nodup)
  (hK: ∀w',Below lo w w'→FlatO pinC 40 w' lo s (Zaw l)→K (.tuple #[]) w'):
  callS prog 115 [Sl.v s,.func (.func 233) #[] #[]] w K:=by
 obtain⟨h1,h2,h3,h4,h5⟩:=h
 obtain⟨a,n,c⟩:=s
 simp only at h1 h2 h3 h5
 subst h1
 rcases h5 with rfl|⟨g,tail,ha,hg,hr⟩
 ·refine(AnyF.slices_SortFunc_none Tryz.laySp a c _ w).mono λe w' ⟨he,hw⟩=>⟨_,he,?_⟩
  subst hw
  exact hK _ (Below.refl _ _) ⟨rfl,h2,h3,h4,.inl rfl⟩
 ·subst ha
  have hO:=Zgb (α:=Pin) (·.name)
  refine Zf7 Tryz.laySp (k:=4) Z3y Z0f (f:=pinC) (λ_=>rfl) (λx v hv=>by simp[pinC]at hv; rcases hv with rfl|rfl|rfl|rfl<;>rfl) (λa b=>cmpS a.name b.name) (Zjb hO.flip hO.trans) 233 #[] Zwm (λw0 x y hb _=> ?_) hr (by unfold room at h4; omega) rfl λl' w' hp hs b hr'=>?_
  ·have h:=SE.Zes.go (k:=λv w'=>v= .int .i64 (cmpS x.name y.name)∧Gr w0 w') (Z4o (a:=x) (b:=y) (w:=w0) λw' h=>⟨rfl,h⟩)
   exact Calls.mono h λe w' ⟨v,he,hv,hg⟩=>⟨by rw[he,hv],hg⟩
  ·have e:l'=Zaw l:=by
    refine Rises.one ?_ (Zf8 hn) (hp.trans (Zbk l).symm)
    have hn':(l'.map (·.name)).Nodup:=(hp.map _).nodup_iff.2 hn
    rw[List.nodup_iff_pairwise_ne,List.pairwise_map]at hn'
    exact(hs.and hn').imp λ{a b} h=>Zrm (by have:=hO.flip b a; have:=hO.flip a b; omega) h.2
   subst e
   have hl:=(Zbk l).length_eq
   exact hK w' (b.below hlo hg) ⟨hl.symm,by rw[hl]; exact h2,h3,by rw[hl]; exact h4,.inr ⟨g,tail,rfl,hg,hr'⟩⟩
theorem Zhz{w:World}{S:Nat→Prop}{s:Sl}{l:List Pin}(h:SlR pinE w S s l){n:Nat}(hn:n<l.length):
  ∃ad,s.a=some ad∧S ad.block∧Str l[n].name∧ ∀w',Ext w w'→ldc w' (ad.add (n*4)) (pinC l[n]):=by
 obtain⟨ad,cs,h1,h2,⟨rfl,h3⟩,h4⟩:=h.el hn
 exact⟨ad,h1,h2,h3,h4⟩
theorem OwnS.el{α:Type}{E:Enc α}{T:TypeId}{w:World}{lo:Nat}{S:Nat→Prop}{s:Sl}{l:List α}(h:OwnS E T w lo S s l){i:Nat}{x:α}(hx:l[i]? =some x): ∃ad cs,s.a=some ad∧E.rep w S x cs∧ ∀w',Ext w w'→ldc w' (ad.add (i*E.n)) cs:=by
 obtain⟨css,ho,hl,hr⟩:=h.row
 obtain⟨cs,h1,h2⟩:=hr i x hx
 rcases ho.2 with⟨hv,hn⟩|⟨g,cap,cur,hv,hg,hh,hc,hcm,hcs,ht⟩
 ·have:=(List.getElem?_eq_some_iff.1 hx).1
  have:=h.len
  omega
 ·simp[Sl.v]at hv
  refine⟨⟨g,0,none⟩,cs,hv.1,h2,λw' hxt=>?_⟩
  have hall: ∀cs∈css,cs.length=E.n:=by
   intro cs hcs
   obtain⟨k,hk,he⟩:=List.mem_iff_getElem.1 hcs
   obtain⟨cs',h3,h4⟩:=hr k _ (List.getElem?_eq_getElem oM)
   rw[List.getElem?_eq_getElem hk,he,Option.some.injEq]at h3
   rw[h3]; exact E.len h4
  have:ldc w ((⟨g,0,none⟩:Addr).add (i*E.n)) cs:=λj v hj=>by
   rw[Zfi]
   exact ho.cells (g:=g) (by simp[Value.ownBlock,Sl.v,hv.1]) _ _ (Zi3 hall h1 hj)
  exact this.ext hxt
theorem Z0o{env:List Pin}{n:ByteArray}:(idxI (isN n) env<0∧tells env n=none)∨ ∃k,∃hk:k<env.length,idxI (isN n) env=(k:Int)∧tells env n=some env[k].v∧env[k].name=n:=by
 unfold idxI tells
 cases hf:env.findIdx? (isN n)with
 |none=>
  left
  refine⟨by decide,?_⟩
  rw[Option.map_eq_none_iff,List.find?_eq_none]
  intro x hx
  have:=List.findIdx?_eq_none_iff.1 hf x hx
  simp[this]
 |some k=>
  right
  obtain⟨hk,hp,hb⟩:=List.findIdx?_eq_some_iff_getElem.1 hf
  refine⟨k,hk,rfl,?_,by simpa[isN]using hp⟩
  have h0:(env.take k).find? (isN n)=none:=by
   rw[List.find?_eq_none]
   intro x hx
   obtain⟨j,hj,rfl⟩:=List.mem_iff_getElem.1 hx
   rw[List.length_take]at hj
   rw[List.getElem_take]
   exact hb j oM
  have h1:(env.take (k+1)).find? (isN n)=some env[k]:=by
   rw[List.take_succ_eq_append_getElem hk,List.find?_append,h0]
   simp[List.find?_cons,hp]
  have h2:env.find? (isN n)=some env[k]:=by
   have e:env.find? (isN n)=(env.take (k+1)++env.drop (k+1)).find? (isN n):=by rw[List.take_append_drop]
   rw[e,List.find?_append,h1]; rfl
  rw[h2]; rfl
def Zdg(L:List Pack)(over:List Dep)(env:List Pin)(p:Pin):Option (List Pin):=ctx (getL L) over env p
def Kp(lo c d:Nat)(w w':World):Prop:=Below lo w w'∧ ∀b,c≤b→b<d→w'.heap[b]? =w.heap[b]?
theorem Kp.refl(lo c d:Nat)(w:World):Kp lo c d w w:=⟨Below.refl _ _,λ_ _ _=>rfl⟩
theorem Kp.trans{lo c d:Nat}{u v w:World}(h:Kp lo c d u v)(k:Kp lo c d v w):Kp lo c d u w:=⟨Below.trans h.1 k.1,λb h1 h2=>(k.2 b h1 h2).trans (h.2 b h1 h2)⟩
theorem Kp.ext{lo c d:Nat}{u v w:World}(h:Kp lo c d u v)(hx:Ext v w)(h1:lo≤v.heap.size)(h2:d≤v.heap.size):Kp lo c d u w:=h.trans ⟨Below.mono hx h1,λb _ h3=>hx.block oM⟩
theorem Zox{S S2:Nat→Prop}{p:Addr}{r:Nat}{L:List Pack}{mD mDev mOpt mOv envS:Sl}{over:List Dep}{env:List Pin}{pn:Pin}{S3:Nat→Prop}{w:World}{R:Sl→Bool→World→Prop}
  (hC:CatL w S p r L) (hS2:Old S2 w) (hS3:Old S3 w) (hO:SlR depE w S2 mOv over) (hE:SlR pinE w S3 envS env) (hpn:Str pn.name)
  (hsome: ∀a t w',Zdg L over env pn=some a→Ext w w'→FlatO pinC 40 w' w.heap.size t a→(∀q∈a,Str q.name)→R t true w') (hnone: ∀w',Zdg L over env pn=none→Ext w w'→R Sl.nil false w'):
  SE.Zfu (some p) mD mDev mOpt mOv envS pn.name pn.v.ma pn.v.mi pn.v.pa w R:=by
 unfold SE.Zfu
 have hgood:=hC.good
 refine newS.intro λa w1 x1 ha _ _=>newS.intro λa1 w2 x2 ha1 _ _=>⟨nO,λ_=> ?_⟩
 have x02:=x1.trans x2
 have ePb:pinE.bytes=40:=rfl
 have hEl:=hE.len
 have s02:=x02.size
 have upE: ∀w',Below w2.heap.size w2 w'→Ext w w':=λw' hb=>x02.trans' (Below.mono hb s02)
 have ha2:=ha.ext x2
 refine⟨_,_,_,_,ha1.ldc.pre (r:=[]) rfl,newS.own (E:=pinE) (x:=pn) ⟨rfl,hpn⟩ λa3 w4 x4 own0 h3b=>?_⟩
 refine loop3.ghost (λn all con i w'=>∃(out:List Pin) (k:Nat),i=(k:Int)∧n=env.length+2 - k∧CtxI (getL L) over env pn k out∧Zic (getL L) over env pn (env.length+2 - k) k out=Zic (getL L) over env pn (env.length+2) 0 []∧(∀q∈pn::out,Str q.name)∧
   Below w2.heap.size w2 w'∧OwnS pinE 78 w' w2.heap.size None' all (pn::out)∧OwnS pinE 78 w' w2.heap.size None' con out∧Apart con all) (env.length+2)
  ⟨[],0,rfl,rfl,CtxI.zero,rfl,by simpa using hpn,x4,own0,(OwnS.nil _ _).mono (λ_ h=>h) (λ_ h=>h.elim) (λ_ h=>by cases h),λ_ _ h=>by cases h⟩ λn all con i w5 nxt hJ hn=>?_
 obtain⟨out,k,rfl,rfl,hI,hgo,hStr,b5,oA,oC,hAp⟩:=hJ
 have hAl:=oA.len
 have hCl:=oC.len
 have hle:=hI.le
 have hlen:=hI.len
 have hbd:=Znv hgood hI
 have s5:=b5.size
 refine⟨λhlt=>join.named λJ hJ=>?_,λhge=>?_⟩
 ·have hk:k<(pn::out).length:=oM
  have hk':k<out.length+1:=hk
  have hqk:(pn::out)[k]? =some (pn::out)[k]:=List.getElem?_eq_getElem hk
  have hqS:Str (pn::out)[k].name:=hStr _ (List.getElem_mem hk)
  generalize hq:(pn::out)[k]=q at*
  have hf:env.length+2 - k=(env.length+1 - k)+1:=oM
  have kJ: ∀a6 w6 d e o,Ext w5 w6→BoxAt w6 a6 [.string (getD L q.name q.v).name,.int .i64 (getD L q.name q.v).v.ma,.int .i64 (getD L q.name q.v).v.mi,.int .i64 (getD L q.name q.v).v.pa,Sl.v d,Sl.v e,Sl.v o]→
    SlR depE w6 (λb=>b<w6.heap.size) e (getD L q.name q.v).peers→J a6 (getL L q.name q.v).isSome w6:=λa6 w6 d e o x6 hb6 he=>by
   subst hJ
   have b6:Below w2.heap.size w2 w6:=Below.trans b5 (Below.mono x6 s5)
   have s6:=b6.size
   have s56:=x6.size
   refine⟨λh=>?_,λh=>?_⟩
   ·refine hnone w6 ?_ (upE _ b6)
    have hg:getL L q.name q.v=none:=by
     cases hg:getL L q.name q.v with
     |none=>rfl
     |some y=>rw[hg]at h; simp at h
    rw[hf,Zpl hqk hg]at hgo
    unfold Zdg ctx
    rw[←hgo]; rfl
   ·obtain⟨y,hg⟩: ∃y,getL L q.name q.v=some y:=by
     cases hg:getL L q.name q.v with
     |none=>rw[hg]at h; simp at h
     |some y=>exact⟨y,rfl⟩
    have hD:getD L q.name q.v=y:=by unfold getD; rw[hg]; rfl
    rw[hD]at hb6 he
    have hyL:=(Zge hg).1
    have hdm:=Zi (Zjr (hgood.may y hyL)).2.2.2.1
    refine⟨_,_,_,_,_,_,_,hb6.ldc.pre (r:=[]) rfl,mD,mDev,mOpt,mOv,(ha2.below b6 ha2.lt).ldc.pre (r:=[]) rfl,?_⟩
    have hOldB:Old (λb=>b<w6.heap.size) w6:=λb hb=>hb
    have hO6:SlR depE w6 (λb=>b<w6.heap.size) mOv over:=(hO.ext (upE _ b6)).mono λb hb=>Nat.lt_of_lt_of_le (hS2 b hb) (upE _ b6).size
    refine SE.Zhx.go (wantsPeers_se hOldB hO6 he λt w7 x7 ht=>⟨_,rfl,?_⟩)
    have b7:Below w2.heap.size w2 w7:=Below.trans b6 (Below.mono x7 s6)
    have s7:=x7.size
    have hT:=ht.dep
    have hTl:=hT.len
    have hpl:(Zbe over y.peers).length≤16:=by unfold Zbe; rw[List.length_map]; exact hdm.1
    have hnext: ∀out',Zbc env (Zbe over y.peers) out=some out'→CtxI (getL L) over env pn (k+1) out'∧Zic (getL L) over env pn (env.length+2 - (k+1)) (k+1) out'=Zic (getL L) over env pn (env.length+2) 0 []:=λout' hs=>by
     refine⟨hI.next hqk hg hs,?_⟩
     rw[←hgo,hf,Zpk hqk hg hs,show env.length+2 - (k+1)=env.length+1 - k by omega]
    have hfail:Zbc env (Zbe over y.peers) out=none→Zdg L over env pn=none:=λhs=>by
     rw[hf,Zpj hqk hg hs]at hgo
     unfold Zdg ctx
     rw[←hgo]; rfl
    generalize hP:Zbe over y.peers=P at*
    have oA7:=oA.ext (x6.trans x7)
    have oC7:=oC.ext (x6.trans x7)
    refine loop3.ghost (λn2 all2 con2 j w'=>∃(o2:List Pin) (m:Nat),j=(m:Int)∧n2=P.length - m∧m≤P.length∧Zbc env (P.drop m) o2=Zbc env P out∧o2.length≤out.length+m∧(∀q∈pn::o2,Str q.name)∧
     Kp w2.heap.size w6.heap.size w7.heap.size w7 w'∧OwnS pinE 78 w' w2.heap.size None' all2 (pn::o2)∧OwnS pinE 78 w' w2.heap.size None' con2 o2∧Apart con2 all2∧
     (∀ad,all2.a=some ad→ad.block<w6.heap.size∨w7.heap.size≤ad.block)∧ ∀ad,con2.a=some ad→ad.block<w6.heap.size∨w7.heap.size≤ad.block) P.length
     ⟨out,0,rfl,rfl,Nat.zero_le _,rfl,oM,hStr,Kp.refl _ _ _ _,oA7,oC7,hAp,λad h=>.inl (by have:=(oA.block h).2.1; omega),λad h=>.inl (by have:=(oC.block h).2.1; omega)⟩ λn2 all2 con2 j w8 nxt2 hJ2 hn2=>?_
    obtain⟨o2,m,rfl,rfl,hm,hst,hol,hStr2,k8,oA2,oC2,hAp2,hra,hrc⟩:=hJ2
    have b8:Below w2.heap.size w2 w8:=Below.trans b7 k8.1
    have s8:=k8.1.size
    have hT8:SlR depE w8 (λb=>w6.heap.size≤b∧b<w7.heap.size) t P:=hT.keep λb hb _=>k8.2 b hb.1 hb.2
    refine⟨λhlt2=>join.named λJ2 hJ2=>?_,λhge2=>?_⟩
    ·have hmP:m<P.length:=oM
     obtain⟨ad,tr,hta,_,hnm,hrr,hcc⟩:=Zhg hT8 hmP
     have hdrop:P.drop m=P[m]::P.drop (m+1):=List.drop_eq_getElem_cons hmP
     generalize hdd:P[m]=d1 at*
     rw[hdrop]at hst
     have kJ2: ∀all3 con3 o3 w9,Zbc env (P.drop (m+1)) o3=Zbc env P out→o3.length≤out.length+(m+1)→(∀q∈pn::o3,Str q.name)→Kp w2.heap.size w6.heap.size w7.heap.size w7 w9→OwnS pinE 78 w9 w2.heap.size None' all3 (pn::o3)→OwnS pinE 78 w9 w2.heap.size None' con3 o3→Apart con3 all3→
       (∀ad,all3.a=some ad→ad.block<w6.heap.size∨w7.heap.size≤ad.block)→(∀ad,con3.a=some ad→ad.block<w6.heap.size∨w7.heap.size≤ad.block)→J2 all3 con3 w9:=λall3 con3 o3 w9 q1 q2 q3 q4 q5 q6 q7 q8 q9=>by
      subst hJ2
      show nxt2 _ _ _ _
      rw[Zc oM oM]
      exact hn2 _ _ _ _ _ oM ⟨o3,m+1,oM,rfl,oM,q1,q2,q3,q4,q5,q6,q7,q8,q9⟩
     clear hJ2
     refine⟨ad,⟨hta,oM,hlt2⟩,_,tr,hcc _ xR,newS.intro λa18 w9 x9 hb9 h9b _=>stw0.intro hb9 sI λw10 b10 _ hb10=>⟨_,hb10.ldc.pre rfl,?_⟩⟩
     have x810:Ext w8 w10:=b10.ext x9 oM
     refine SE.Zdx.go (ctx1_se λf w11 x11 hT1=>⟨_,rfl,?_⟩)
     have x811:=x810.trans x11
     have hE8:=hE.ext (upE _ b8)
     refine SE.Z9.go (idxPin_se (p:=isN d1.name) (hE8.ext x811) (hT1 env) λw12 x12=>⟨_,rfl,bnd.drew λw13 x13=>bound ?_⟩)
     have x813:=x811.trans (x12.trans x13)
     have b13:Below w2.heap.size w2 w13:=Below.trans b8 (Below.mono x813 oM)
     have hb13:=hb10.ext (x11.trans (x12.trans x13))
     rcases Z0o (env:=env) (n:=d1.name)with⟨hneg,htn⟩|⟨kk,hkk,hidx,htk,hkn⟩
     ·have hdec:decide (idxI (isN d1.name) env<0)=true:=by simpa using hneg
      rw[hdec]
      refine⟨Sl.nil,nO,⟨0,0,none⟩,nO,0,0,0,nO,nO,λ_=>⟨λ_=> ?_,nO⟩⟩
      refine hnone w13 (hfail ?_) (upE _ b13)
      rw[←hst]; exact Zmp htn
     ·rw[hidx]
      have hdec:decide ((kk:Int)<0)=false:=by simp
      rw[hdec]
      obtain⟨ae,hea,hS3e,_,hec⟩:=Zhz hE hkk
      refine⟨tr,λ_=>hb13.at1 (k:=1) xR rfl,ae,λ_=>⟨hea,oM,oM⟩,_,_,_,λ_=>(hec _ (upE _ b13)).mid (k:=1) (r:=[]) rfl,gCall.named λJ3 hJ3=>⟨λ_=> ?_,nO⟩⟩
      refine SE.Zk0.go (Zoo (v:=env[kk].v) (hrr.ext x813) λw14 x14=>⟨_,rfl,?_⟩)
      have x814:=x813.trans x14
      subst hJ3
      refine⟨λh=>?_,λh=>?_⟩
      ·have hin:Z6 d1.range env[kk].v=false:=by simpa using h
       rw[Zpm htk hin]at hst
       exact hnone w14 (hfail hst.symm) (upE _ (Below.trans b8 (Below.mono x814 oM)))
      ·have hin:Z6 d1.range env[kk].v=true:=by simpa using h
       have hpin:(⟨d1.name,env[kk].v⟩:Pin)=env[kk]:=by rw[←hkn]
       have hStrK:Str env[kk].name:=by rw[hkn]; exact hnm
       refine⟨_,hb13.at0 (r:=[Sl.v tr]) x14 rfl,SE.Zdx.go (ctx1_se λf2 w15 x15 hT2=>⟨_,rfl,?_⟩)⟩
       have x815:=x814.trans x15
       have oC15:=oC2.ext x815
       have hrd:SlR pinE w15 (λb=>True) con2 o2:=((oC15.read (by rw[ePb]; unfold room; omega) (by rw[Zb]; omega))).mono λ_ _=>trivial
       refine SE.Zz.go (Zrs (p:=isN d1.name) hrd (hT2 o2) λw16 x16=>⟨_,rfl,λh2=>?_,λh2=>?_⟩)
       ·have hany:o2.any (isN d1.name)=false:=by simpa using h2
        rw[Znt htk hin hany,hpin]at hst
        have x816:=x815.trans x16
        have b16:Below w2.heap.size w2 w16:=Below.trans b8 (Below.mono x816 oM)
        refine⟨ae,⟨hea,oM,oM⟩,_,_,_,_,hec _ (upE _ b16),newS.intro λa48 w17 x17 hb17 _ _=> ?_⟩
        have x817:=x816.trans x17
        have hs17:=x817.size
        refine OwnS.pushA (x:=env[kk]) (oC2.ext x817) (oA2.ext x817) hAp2 oM Zoz ⟨rfl,hStrK⟩ hb17.ldc (by rw[ePb]; unfold room; omega) (by rw[Zb]; omega) λr1 w18 oC18 oA18 hAp18 bel18 oth18 reg18=>?_
        have hs18:=bel18.size
        have b18:Below w2.heap.size w2 w18:=Below.trans (Below.trans b8 (Below.mono x817 oM)) bel18
        refine⟨ae,⟨hea,oM,oM⟩,_,_,_,_,hec _ (upE _ b18),newS.intro λa54 w19 x19 hb19 _ _=> ?_⟩
        have hs19:=x19.size
        refine OwnS.pushA (x:=env[kk]) (oA18.ext x19) (oC18.ext x19) hAp18.swap oM Zoz ⟨rfl,hStrK⟩ hb19.ldc (by rw[ePb,List.length_cons]; unfold room; omega) (by rw[Zb,List.length_cons]; omega) λr2 w20 oA20 oC20 hAp20 bel20 oth20 reg20=>?_
        have hStr3: ∀q∈pn::(o2++ [env[kk]]),Str q.name:=λq hq=>by
         rcases List.mem_cons.1 hq with rfl|hq
         ·exact hStr2 _ (.head _)
         ·rcases List.mem_append.1 hq with hq|hq
          ·exact hStr2 _ (.tail _ hq)
          ·simp at hq; subst hq; exact hStrK
        have k18:Kp w2.heap.size w6.heap.size w7.heap.size w17 w18:=⟨bel18,λb h1 h2=>oth18 b oM λad had=>by
         rintro rfl
         rcases hrc ad had with h|h<;>omega⟩
        have k20:Kp w2.heap.size w6.heap.size w7.heap.size w19 w20:=⟨bel20,λb h1 h2=>oth20 b oM λad had=>by
         rintro rfl
         rcases hra ad had with h|h<;>omega⟩
        refine kJ2 r2 r1 (o2++ [env[kk]]) w20 hst (by simp; omega) hStr3 ((((k8.ext x817 oM oM).trans k18).ext x19 oM oM).trans k20) oA20 oC20 hAp20.swap (λad had=>?_) (λad had=>?_)
        ·rcases reg20 ad had with h|h
         ·exact hra ad h
         ·right; omega
        ·rcases reg18 ad had with h|h
         ·exact hrc ad h
         ·right; omega
       ·have hany:o2.any (isN d1.name)=true:=by simpa using h2
        rw[Znu htk hin hany]at hst
        have x816:=x815.trans x16
        exact kJ2 _ _ o2 w16 hst oM hStr2 (k8.ext x816 oM oM) (oA2.ext x816) (oC2.ext x816) hAp2 hra hrc
    ·have hmP:m=P.length:=oM
     subst hmP
     rw[List.drop_length,Zbc]at hst
     obtain⟨c1,c2⟩:=hnext o2 hst.symm
     rw[Zc oM oM]
     exact hn _ _ _ _ _ oM ⟨o2,k+1,oM,rfl,c1,c2,hStr2,b8,oA2,oC2,hAp2⟩
  clear hJ
  refine bnd.drew λw59 x59=>?_
  obtain⟨aq,csq,haq,⟨hcsq,_⟩,hlq⟩:=oA.el hqk
  subst hcsq
  have hC59:CatL w59 S p r L:=(hC.ext (upE _ b5)).ext x59
  have s59:=x59.size
  refine⟨aq,⟨haq,oM,oM⟩,_,(hlq _ x59).pre rfl,aq,⟨haq,oM,oM⟩,_,_,_,(hlq _ x59).mid (k:=1) (r:=[]) rfl,?_,?_⟩
  ·refine SE.Zam.go (Zjk (n:=q.name) (v:=q.v) hC59 λd e o w66 x66 _ _ he _=>⟨_,_,_,_,_,_,_,_,rfl,newS.intro λa69 w70 x70 hb70 h70 _=>stw0.intro hb70 sI λw71 b71 _ hb71=>?_⟩)
   have x71:Ext w66 w71:=b71.ext x70 oM
   have hs71:=x71.size
   exact kJ a69 w71 d e o (x59.trans (x66.trans x71)) hb71 ((he.dep.ext x71).mono λb hb=>by omega)
  ·refine newS.intro λa72 w73 x73 hb73 h73 _=>SE.Zam.go (Zjk (n:=q.name) (v:=q.v) (hC59.ext x73) λd e o w74 x74 _ _ he _=>⟨_,_,_,_,_,_,_,_,rfl,stw0.intro (hb73.ext x74) sI λw75 b75 _ hb75=>?_⟩)
   have x75:Ext w59 w75:=b75.ext (x73.trans x74) oM
   have hs75:=b75.1
   have hl73:=hb73.lt
   exact kJ a72 w75 d e o (x59.trans x75) hb75 ((he.dep.but b75 (λhb=>by omega)).mono λb hb=>by omega)
 ·have hkl:k=out.length+1:=by simp at hAl; omega
  have hres:Zdg L over env pn=some (Zaw out):=by
   have hf:env.length+2 - k=(env.length+1 - k)+1:=oM
   have hnoq:(pn::out)[k]? =none:=List.getElem?_eq_none_iff.2 (by simp; omega)
   rw[hf,Zru hnoq]at hgo
   unfold Zdg ctx
   rw[←hgo]; rfl
  have hF:FlatO pinC 40 w5 w2.heap.size con out:=FlatO.of (E:=pinE) (f:=pinC) (bytes:=40) (λx cs h=>h.1) oC (by unfold room; omega)
  refine Zxl hF s5 hI.names λw6 b6 hF6=>⟨rfl,?_⟩
  refine SE.Zdw.go ⟨Zyd (by have:=hF6.1; have:=hF6.2.1; omega),_,rfl,hsome (Zaw out) _ w6 hres (upE _ (Below.trans b5 b6)) ?_ λq hq=>hStr q (.tail _ ((Zbk out).mem_iff.1 hq))⟩
  obtain⟨a,b,c,d,e⟩:=hF6.clip (k:=4)
  exact⟨a,b,c,d,e.imp id λ⟨g,tail,a,b,c⟩=>⟨g,tail,a,oM,c⟩⟩
end Go.Hal
namespace Go.Hal
open Go.Proofs.Tryz
structure Edge where
 name:ByteArray
 to:Int
 deriving DecidableEq
structure Node where
 name:ByteArray
 v:Ver
 ctx:List Pin
 edges:List Edge
 deriving DecidableEq
abbrev NKey:=ByteArray×Ver×List Pin
def Node.key(n:Node):NKey:=(n.name,n.v,n.ctx)
structure Quest where
 L:List Pack
 m:Mani
 dev:Bool
 pins:List Pin
 D:Nat
 N:Nat
def rootNode:Node:=⟨⟨#[]⟩,⟨0,0,0⟩,[],[]⟩
def Z00(q:Quest)(k:Nat)(n:Option NKey):List Want:=
 if k=0 then Zgs q.m.over (Zdf q.m q.dev) q.m.opt else
  match n with
  |none=>[]
  |some n=>match getL q.L n.1 n.2.1 with
   |none=>[]
   |some p=>Zgs q.m.over p.deps p.opt
def Zsl(ns:List Node)(k:Nat):Option NKey:=(ns.map Node.key)[k]?
def Zf0(ns:List Node)(k:Nat):List Pin:=match Zsl ns k with
 |some x=>x.2.2
 |none=>[]
def Quest.wants(q:Quest)(ns:List Node)(k:Nat):List Want:=Z00 q k (Zsl ns k)
def Quest.cand(q:Quest)(c:List Pin)(w:Want):List Ver×Bool:=match tells c w.name with
 |some v=>(if Z6 w.range v then [v]else [],false)
 |none=>(Znq q.L w.name w.range q.pins,decide (w.kind=2))
def opts(x:List Ver×Bool):List (Option Ver):=x.1.map some++(if x.2 then [none]else [])
def addO(e:List Pin)(n:ByteArray)(o:Option Ver):List Pin:=match o with
 |none=>e
 |some v=>if e.any (isN n)then e else e++ [⟨n,v⟩]
def targets(q:Quest)(env:List Pin):List Pin→Option (List Node)
 | []=>some []
 |p::r=>match Zdg q.L q.m.over env p with
  |none=>none
  |some c=>(targets q env r).map λxs=>⟨p.name,p.v,c,[]⟩::xs
def putK(N:Nat):List NKey→List Node→Option (List Node×List Edge)
 |_,[]=>some ([],[])
 |ks,x::xs=>match ks.findIdx? λy=>decide (y=x.key)with
  |some i=>(putK N ks xs).map λr=>(r.1,⟨x.name,(i:Int)⟩::r.2)
  |none=>if ks.length=N then none else(putK N (ks++ [x.key]) xs).map λr=>(x::r.1,⟨x.name,(ks.length:Int)⟩::r.2)
def Zbz(ns:List Node)(k:Nat)(es:List Edge):List Node:=ns.modify k λn=>{n with edges:=es}
inductive Bnd where
 |graph
 |many
 |ok (ns:List Node)
def Quest.bind(q:Quest)(ns:List Node)(k:Nat)(e:List Pin):Bnd:=match targets q (Zaw e) (Zaw e)with
 |none=>.graph
 |some xs=>match putK q.N (ns.map Node.key) xs with
  |none=>.many
  |some r=>.ok (Zbz ns k r.2++r.1)
inductive Out where
 |fail (t:Nat)
 |done (ns:List Node) (t:Nat)
 |err (e:Int)
 |out
def Zgt(D:Nat)(k:Option Ver→Nat→Out):List (Option Ver)→Nat→Out
 | [],t=>.fail t
 |o::os,t=>if t=D then .err 31 else match k o (t+1)with
  | .fail t'=>Zgt D k os t'
  |r=>r
def Quest.go(q:Quest):Nat→List Node→Nat→List Want→List Pin→Nat→Out
 |0,_,_,_,_,_=> .out
 |f+1,ns,k,[],e,t=>match q.bind ns k e with
  | .graph=>.fail t
  | .many=>.err 32
  | .ok ns'=>if k+1=ns'.length then .done ns' t else q.go f ns' (k+1) (q.wants ns' (k+1)) (Zf0 ns' (k+1)) t
 |f+1,ns,k,w::l,e,t=>Zgt q.D (λo t=>q.go f ns k l (addO e w.name o) t) (opts (q.cand (Zf0 ns k) w)) t
structure Ch where
 node:Nat
 name:ByteArray
 vs:List Ver
 none:Bool
 i:Nat
structure St where
 stack:List Ch
 ns:List Node
 ahead:List Nat
 ws:List Want
 first:Nat
 dec:Nat
inductive Lb where
 |next
 |tri
 |back
inductive Stp where
 |go (l:Lb) (s:St)
 |done (ns:List Node) (t:Nat)
 |err (e:Int)
theorem Zj0(ns:List Node)(k:Nat)(es:List Edge):(Zbz ns k es).map Node.key=ns.map Node.key:=by
 unfold Zbz
 apply List.ext_getElem?
 intro i
 rw[List.getElem?_map,List.getElem?_map,List.getElem?_modify]
 cases ns[i]? with
 |none=>rfl
 |some n=>by_cases h:k=i<;>simp[h,Node.key]
theorem Zj1(ns:List Node)(k:Nat)(es:List Edge):(Zbz ns k es).length=ns.length:=by unfold Zbz; rw[List.length_modify]
end Go.Hal
namespace Go.Hal
open Go.Proofs.Tryz
section
variable {q:Quest}
def Quest.fuel(q:Quest):Nat:=q.D+q.N+2
def Quest.run(q:Quest):Out:=q.go q.fuel [rootNode] 0 (q.wants [rootNode] 0) [] 0
end
end Go.Hal
namespace Go.Hal
open Go.Proofs.Tryz
theorem Zq7{N:Nat}: ∀{xs:List Node} {ks:List NKey} {r:List Node×List Edge},putK N ks xs=some r→ks.length≤N→ks.length+r.1.length≤N
 | [],ks,r,h,hl=>by
  rw[putK]at h
  cases h; simpa using hl
 |x::xs,ks,r,h,hl=>by
  rw[putK]at h
  cases hf:ks.findIdx? λy=>decide (y=x.key)with
  |some i=>
   rw[hf]at h
   obtain⟨r',h1,h2⟩:=Option.map_eq_some_iff.1 h
   subst h2
   have:=Zq7 h1 hl
   exact this
  |none=>
   rw[hf]at h
   dsimp only at h
   by_cases hN:ks.length=N
   ·rw[if_pos hN]at h; cases h
   ·rw[if_neg hN]at h
    obtain⟨r',h1,h2⟩:=Option.map_eq_some_iff.1 h
    subst h2
    have:=Zq7 h1 (by simp; omega)
    simp at this ⊢
    omega
theorem Z1d{q:Quest}{ns ns':List Node}{k:Nat}{e:List Pin}(h:q.bind ns k e= .ok ns')(hl:ns.length≤q.N):ns.length≤ns'.length∧ns'.length≤q.N:=by
 unfold Quest.bind at h
 cases h1:targets q (Zaw e) (Zaw e)with
 |none=>rw[h1]at h; cases h
 |some xs=>
  rw[h1]at h
  dsimp only at h
  cases h2:putK q.N (ns.map Node.key) xs with
  |none=>rw[h2]at h; cases h
  |some r=>
   rw[h2]at h
   cases h
   have:=Zq7 h2 (by simpa using hl)
   rw[List.length_append,Zj1]
   simp at this
   omega
def Fine(q:Quest)(t:Nat):Out→Prop
 | .out=>False
 | .fail t'=>t≤t'∧t'≤q.D
 | .done ns' t'=>t≤t'∧t'≤q.D∧ns'.length≤q.N
 | .err e=>e=31∨e=32
theorem Fine.mono{q:Quest}{t t2:Nat}{o:Out}(h:Fine q t2 o)(ht:t≤t2):Fine q t o:=by
 cases o with
 |out=>exact h
 |fail t'=>exact⟨Nat.le_trans ht h.1,h.2⟩
 |done ns' t'=>exact⟨Nat.le_trans ht h.1,h.2⟩
 |err e=>exact h
theorem Zv5{q:Quest}{k:Option Ver→Nat→Out}{m:Nat}(hk: ∀o t,m<t→t≤q.D→Fine q t (k o t)): ∀(os:List (Option Ver)) (t:Nat),m≤t→t≤q.D→Fine q t (Zgt q.D k os t)
 | [],t,_,ht=>⟨Nat.le_refl _,ht⟩
 |o::os,t,hm,ht=>by
  rw[Zgt]
  by_cases hD:t=q.D
  ·rw[if_pos hD]; exact .inl rfl
  ·rw[if_neg hD]
   have h:=hk o (t+1) oM oM
   revert h
   cases k o (t+1)with
   |out=>exact λh=>h.elim
   |done ns' t'=>exact λh=>Fine.mono (o:=.done ns' t') h (Nat.le_succ _)
   |err e=>exact λh=>h
   |fail t'=>exact λh=>(Zv5 hk os t' (by have:=h.1; omega) h.2).mono (by have:=h.1; omega)
theorem Zt6{q:Quest}: ∀(f:Nat) (ns:List Node) (k:Nat) (l:List Want) (e:List Pin) (t:Nat),t≤q.D→k<ns.length→ns.length≤q.N→(q.D - t)+(q.N - k)+1≤f→Fine q t (q.go f ns k l e t)
 |0,_,_,_,_,_,_,_,_,hf=>by omega
 |f+1,ns,k,[],e,t,ht,hk,hN,hf=>by
  rw[Quest.go]
  cases h:q.bind ns k e with
  |graph=>exact⟨Nat.le_refl _,ht⟩
  |many=>exact .inr rfl
  |ok ns'=>
   obtain⟨h1,h2⟩:=Z1d h hN
   dsimp only
   split
   ·exact⟨Nat.le_refl _,ht,h2⟩
   ·exact Zt6 f ns' (k+1) _ _ t ht oM h2 oM
 |f+1,ns,k,w::l,e,t,ht,hk,hN,hf=>by
  rw[Quest.go]
  exact Zv5 (m:=t) (λo t2 h1 h2=>Zt6 f ns k l _ t2 h2 hk hN oM) _ t nR ht
theorem Zvy{q:Quest}(hN:1≤q.N):Fine q 0 q.run:=Zt6 _ _ _ _ _ _ (Nat.zero_le _) Nat.one_pos hN (by unfold Quest.fuel; omega)
def Quest.res(q:Quest):Stp:=match q.run with
 | .out=>.err 0
 | .fail _=> .err 30
 | .done ns t=>.done ns t
 | .err e=>.err e
end Go.Hal
namespace Go.Hal
open Go.Proofs.Tryz
theorem Ztt{L:List Pack}(hg:GoodL L){over:List Dep}{env:List Pin}{p:Pin}{c:List Pin}(h:Zdg L over env p=some c):(c.map (·.name)).Nodup∧c.length≤2048:=by
 refine⟨(Zqq h).1.nodup,?_⟩
 unfold Zdg ctx at h
 obtain⟨o,h1,rfl⟩:=Option.map_eq_some_iff.1 h
 rw[(Zbk o).length_eq]
 exact Znv hg (Zl6 _ _ _ _ CtxI.zero h1)
theorem Zmu{ns:List Node}{k:Nat}{es:List Edge}{x:Node}(hx:x∈Zbz ns k es): ∃y∈ns,y.ctx=x.ctx:=by
 have h:x.key∈(Zbz ns k es).map Node.key:=List.mem_map_of_mem hx
 rw[Zj0]at h
 obtain⟨y,hy,e⟩:=List.mem_map.1 h
 exact⟨y,hy,congrArg (·.2.2) e⟩
end Go.Hal
namespace Go.Hal
open Go.Proofs.Tryz
theorem Rises.hi{l:List Pin}(hr:Rises l){n:ByteArray}{i:Nat}(hhi: ∀h:i<l.length,bLt l[i].name n=false): ∀q∈l.drop i,bLt q.name n=false∧(q.name=n→ ∃h:i<l.length,l[i].name=n):=λq hq=>by
 obtain⟨j,hj,rfl⟩:=List.mem_iff_getElem.1 hq
 rw[List.length_drop]at hj
 rw[List.getElem_drop]
 have hil:i<l.length:=oM
 have h0:=hhi hil
 rcases Nat.eq_zero_or_pos j with rfl|hj0
 ·exact⟨h0,λh=>⟨hil,h⟩⟩
 ·have h1:bLt l[i].name l[i+j].name=true:=List.pairwise_iff_getElem.1 hr i (i+j) hil oM oM
  refine⟨?_,λh=>?_⟩
  ·cases h2:bLt l[i+j].name n
   ·rfl
   ·rw[Zii h1 h2]at h0; cases h0
  ·rw[h,h0]at h1; cases h1
structure AtN(l:List Pin)(n:ByteArray)(i:Nat):Prop where
 le:i≤l.length
 lo: ∀k (h:k<l.length),k<i→bLt l[k].name n=true
 hi: ∀h:i<l.length,bLt l[i].name n=false
theorem AtN.below{l:List Pin}{n:ByteArray}{i:Nat}(h:AtN l n i): ∀q∈l.take i,bLt q.name n=true:=λq hq=>by
 obtain⟨j,hj,rfl⟩:=List.mem_iff_getElem.1 hq
 rw[List.length_take]at hj
 rw[List.getElem_take]
 exact h.lo j oM oM
theorem AtN.none{l:List Pin}{n:ByteArray}{i:Nat}(h:AtN l n i)(hr:Rises l)(hne: ∀h:i<l.length,l[i].name≠n): ∀q∈l,q.name≠n:=λq hq e=>by
 rw[←List.take_append_drop i l]at hq
 rcases List.mem_append.1 hq with hq|hq
 ·have:=h.below q hq
  rw[e,Zj9]at this; cases this
 ·obtain⟨h1,h2⟩:=(hr.hi h.hi q hq).2 e
  exact hne h1 h2
theorem Zy9{l:List Pin}(hr:Rises l){p:Pin}{i:Nat}(h:AtN l p.name i)(hne: ∀h:i<l.length,l[i].name≠p.name):Rises (l.take i++p::l.drop i):=by
 have hno:=h.none hr hne
 refine List.pairwise_append.2 ⟨hr.sub (List.take_sublist _ _),List.pairwise_cons.2 ⟨λq hq=>?_,hr.sub (List.drop_sublist _ _)⟩,λa ha b hb=>?_⟩
 ·have h1:=(hr.hi h.hi q hq).1
  cases h2:bLt p.name q.name
  ·exact absurd (Znn h1 h2) (hno q (List.mem_of_mem_drop hq))
  ·rfl
 ·have ha':=h.below a ha
  rcases List.mem_cons.1 hb with rfl|hb
  ·exact ha'
  ·have h1:=(hr.hi h.hi b hb).1
   cases h2:bLt p.name b.name
   ·exact absurd (Znn h1 h2) (hno b (List.mem_of_mem_drop hb))
   ·exact Zii ha' h2
theorem Zza{e:List Pin}(hn:(e.map (·.name)).Nodup){p:Pin}{i:Nat}(h:AtN (Zaw e) p.name i)(hne: ∀h:i<(Zaw e).length,(Zaw e)[i].name≠p.name):
  (Zaw e).take i++p::(Zaw e).drop i=Zaw (e++ [p])∧(∀q∈e,q.name≠p.name):=by
 have hr:=Zf8 hn
 have hno: ∀q∈e,q.name≠p.name:=λq hq=>h.none hr hne q ((Zbk e).mem_iff.2 hq)
 refine⟨?_,hno⟩
 have hn2:((e++ [p]).map (·.name)).Nodup:=by
  rw[List.map_append,List.nodup_append]
  refine⟨hn,by simp,λa ha b hb=>?_⟩
  obtain⟨q,hq,rfl⟩:=List.mem_map.1 ha
  simp only[List.map_cons,List.map_nil,List.mem_singleton]at hb
  subst hb
  exact hno q hq
 refine(Zy9 hr h hne).one (Zf8 hn2) ?_
 have h1:((Zaw e).take i++p::(Zaw e).drop i).Perm (p::Zaw e):=by
  have:=@List.perm_middle _ p ((Zaw e).take i) ((Zaw e).drop i)
  rwa [List.take_append_drop]at this
 refine h1.trans (((Zbk e).cons p).trans ?_)
 refine List.Perm.trans ?_ (Zbk (e++ [p])).symm
 exact(List.perm_append_singleton p e).symm
theorem Zl2(e:List Pin)(n:ByteArray)(v:Ver):addO e n (some v)=if e.any (isN n)then e else e++ [⟨n,v⟩]:=rfl
theorem Z3l{e:List Pin}{n:ByteArray}(h: ∀q∈e,q.name≠n):e.any (isN n)=false:=by
 rw[List.any_eq_false]
 intro x hx hp
 exact h x hx (by simpa[isN]using hp)
theorem Zx1{e:List Pin}{q:Pin}{n:ByteArray}(h:q∈e)(hq:q.name=n):e.any (isN n)=true:=List.any_eq_true.2 ⟨q,h,by simpa[isN]using hq⟩
theorem Zwb{e:List Pin}(hn:(e.map (·.name)).Nodup){p:Pin}{i:Nat}(h:AtN (Zaw e) p.name i)(hne: ∀h:i<(Zaw e).length,(Zaw e)[i].name≠p.name):(Zaw e).take i++p::(Zaw e).drop i=Zaw (addO e p.name (some p.v))∧addO e p.name (some p.v)=e++ [p]∧e.any (isN p.name)=false:=by
 obtain⟨h1,h2⟩:=Zza hn h hne
 have h3:=Z3l h2
 rw[Zl2,h3]
 exact⟨h1,rfl,rfl⟩
theorem Zwc{e:List Pin}{p:Pin}{i:Nat}(h:i<(Zaw e).length)(he:(Zaw e)[i].name=p.name):addO e p.name (some p.v)=e∧e.any (isN p.name)=true:=by
 have h3:=Zx1 ((Zbk e).mem_iff.1 (List.getElem_mem h)) he
 rw[Zl2,h3]
 exact⟨rfl,rfl⟩
theorem Zpf{e:List Pin}(hn:(e.map (·.name)).Nodup)(n:ByteArray)(o:Option Ver):((addO e n o).map (·.name)).Nodup:=by
 cases o with
 |none=>exact hn
 |some v=>
  rw[Zl2]
  cases h:e.any (isN n)
  ·rw[if_neg dC,List.map_append,List.nodup_append]
   refine⟨hn,by simp,λa ha b hb=>?_⟩
   obtain⟨q,hq,rfl⟩:=List.mem_map.1 ha
   simp only[List.map_cons,List.map_nil,List.mem_singleton]at hb
   subst hb
   have:=List.any_eq_false.1 h q hq
   simpa[isN]using this
  ·rw[if_pos rfl]; exact hn
theorem Zu2(e:List Pin)(n:ByteArray)(o:Option Ver):(addO e n o).length≤e.length+1:=by
 cases o with
 |none=>exact Nat.le_succ _
 |some v=>
  rw[Zl2]
  split
  ·omega
  ·simp
theorem Zxk{c:List Pin}(h:Rises c):Zaw c=c:=(Zf8 h.nodup).one h (Zbk c)
structure PlaceAt(ns:List Node)(k:NKey)(i:Nat):Prop where
 one:1≤i
 le:i≤ns.length
 lo: ∀j (h:j<ns.length),1≤j→j<i→ns[j].key≠k
 hit: ∀h:i<ns.length,ns[i].key=k
theorem PlaceAt.find{ns:List Node}{k:NKey}{i:Nat}(h:PlaceAt ns k i)(h0: ∀h:0<ns.length,ns[0].key≠k):
  (i<ns.length→(ns.map Node.key).findIdx? (λy=>decide (y=k))=some i)∧(i=ns.length→(ns.map Node.key).findIdx? (λy=>decide (y=k))=none):=by
 have hlo: ∀j (hj:j<ns.length),j<i→ns[j].key≠k:=λj hj hi=>by
  rcases Nat.eq_zero_or_pos j with rfl|h1
  ·exact h0 hj
  ·exact h.lo j hj h1 hi
 refine⟨λhi=>?_,λhi=>?_⟩
 ·rw[List.findIdx?_eq_some_iff_getElem]
  refine⟨by rw[List.length_map]; exact hi,by simpa using h.hit hi,λj hj=>?_⟩
  simpa using hlo j oM hj
 ·rw[List.findIdx?_eq_none_iff]
  intro x hx
  obtain⟨y,hy,rfl⟩:=List.mem_map.1 hx
  obtain⟨j,hj,rfl⟩:=List.mem_iff_getElem.1 hy
  simpa using hlo j hj oM
theorem Zsc{L:List Pack}(hG:GoodL L){n:ByteArray}{v:Ver}(h:(getL L n v).isSome=true):n≠⟨#[]⟩:=by
 obtain⟨x,hx⟩:=Option.isSome_iff_exists.1 h
 obtain⟨h1,h2,_⟩:=Zge hx
 have:=hG.may x h1
 unfold Zcv at this
 rw[Bool.and_eq_true]at this
 have:=this.1
 unfold Zdd at this
 simp only[Bool.and_eq_true]at this
 have hn:=this.1.1.1.1
 rw[h2]at hn
 rintro rfl
 revert hn
 unfold Zap
 rw[show bEq ⟨#[]⟩ ⟨#[]⟩=true from Zca.2 rfl]
 simp
theorem Zmo{L:List Pack}{over:List Dep}{env c:List Pin}{p:Pin}(h:Zdg L over env p=some c):(getL L p.name p.v).isSome=true:=by
 obtain⟨x,hx,_⟩:=(Zqq h).2.2.1 p (.inl rfl)
 rw[hx]; rfl
end Go.Hal
namespace Go.Hal
open Go.Proofs.Tryz
structure WantC where
 name:ByteArray
 kind:Int
 range:Sl
end Go.Hal
namespace Go.Hal
open Go.Proofs.Tryz
open Go Go.RowKit Go.Proofs
namespace StW
abbrev El:Type:=WantC×Nat
def cells(x:WantC):List Value:=[.string x.name,.int .i64 x.kind,x.range.v]
def fc(x:El):List Value:=cells x.1
theorem Za0(x:El):(fc x).length=3:=rfl
def CmpOk(cmp:Value)(c:WantC→WantC→Int)(g:Nat)(w0:World):Prop:=
 ∀(x y:WantC) (w:World) (k:Value→World→Prop),But g w0 w→(∀w',Ext w w'→k (.int .i64 (c x y)) w')→callV prog cmp [.agg (cells x).toArray,.agg (cells y).toArray] w k
theorem CmpOk.but{cmp:Value}{c:WantC→WantC→Int}{g:Nat}{w0 w1:World}(h:CmpOk cmp c g w0)(hb:But g w0 w1):CmpOk cmp c g w1:=λx y w k hw hk=>h x y w k (hb.trans hw) hk
section
variable {cmp:Value} {c:WantC→WantC→Int} {g:Nat}
theorem Zgg(hO:Ord3 c){data:Sl}{w:World}{R:World→Prop}{A M0 B:List El}{tail:List Value}{a b:Int}(hc:CmpOk cmp c g w)(hd:data.a=some ⟨g,0,none⟩)(hlen:data.len=(A++M0++B).length)(hbig:data.len<4611686018427387904)
  (hB:RowB fc w g (A++M0++B) tail) (ha:a=(A.length:Int)) (hb:b=((A.length+M0.length:Nat):Int)) (hM:M0.Pairwise λx y=>x.2<y.2)
  (hR: ∀w' M,But g w w'→M.Perm M0→M.Pairwise (Ah c)→RowB fc w' g (A++M++B) tail→R w'):SE.Zj data a b cmp w R:=by
 unfold SE.Zj
 subst ha hb
 simp only[List.length_append]at hlen
 rw[Zc oM oM]
 by_cases h0:M0= []
 ·subst h0
  refine⟨λi w'=>w'=w∧i=(A.length:Int)+1,λ_ _=>0,⟨rfl,rfl⟩,?_⟩
  rintro i w' ⟨rfl,rfl⟩
  refine⟨λh=>?_,λ_=>hR _ [] ⟨Nat.le_refl _,rfl,rfl,rfl,λ_ _ _=>rfl⟩ (List.Perm.refl _) .nil hB⟩
  simp at h; omega
 have hpos:0<M0.length:=List.length_pos_iff.2 h0
 refine⟨λi w'=>∃(n:Nat) (M:List El),i=((A.length+n:Nat):Int)∧1≤n∧n≤M0.length∧But g w w'∧M.Perm (M0.take n)∧M.Pairwise (Ah c)∧RowB fc w' g (A++M++(M0.drop n++B)) tail,λi _=>(A.length+M0.length) - i.toNat,⟨1,M0.take 1,oM,Nat.le_refl _,hpos,⟨Nat.le_refl _,rfl,rfl,rfl,λ_ _ _=>rfl⟩,List.Perm.refl _,?_,?_⟩,?_⟩
 ·cases M0 with
  |nil=>exact .nil
  |cons x r=>exact List.pairwise_singleton _ _
 ·rw[←List.append_assoc,List.append_assoc A,List.take_append_drop]; exact hB
 rintro i w1 ⟨n,M,rfl,hn1,hn2,b1,hp,hs,hB1⟩
 have hMl:M.length=n:=by rw[hp.length_eq,List.length_take]; omega
 refine⟨λhlt=>?_,λhge=>?_⟩
 ·have hn3:n<M0.length:=oM
  have hdrop:M0.drop n=M0[n]::M0.drop (n+1):=List.drop_eq_getElem_cons hn3
  have hx: ∀y∈M,y.2<M0[n].2:=λy hy=>by
   have hy':=hp.mem_iff.1 hy
   obtain⟨j,hj,rfl⟩:=List.mem_iff_getElem.1 hy'
   rw[List.length_take]at hj
   rw[List.getElem_take]
   exact List.pairwise_iff_getElem.1 hM j n oM hn3 oM
  rw[hdrop]at hB1
  generalize hX:M0[n]=x at*
  refine⟨λj w'=>∃(M1 M2:List El),j=((A.length+M1.length:Nat):Int)∧M1++M2=M∧(∀y∈M2,Ah c x y)∧But g w w'∧RowB fc w' g (A++M1++x::(M2++(M0.drop (n+1)++B))) tail,λj _=>j.toNat,⟨M,[],by rw[hMl],by simp,by simp,b1,by simpa using hB1⟩,?_⟩
  rintro j w2 ⟨M1,M2,rfl,hM12,hx2,b2,hB2⟩
  refine bnd.drew λw3 x3=>bound ?_
  have hB3:=hB2.ext x3
  have b3:But g w w3:=b2.ext' x3
  have hl12:M1.length+M2.length=n:=by rw[←hMl,←hM12,List.length_append]
  have fin: ∀w' w0,But g w w'→RowB fc w' g (A++M1++x::(M2++(M0.drop (n+1)++B))) tail→(∀y∈M1,Ah c y x)→w0=w'→
    (∃(n':Nat) (M':List El),Za (((A.length+n:Nat):Int)+1)=((A.length+n':Nat):Int)∧1≤n'∧n'≤M0.length∧But g w w0∧M'.Perm (M0.take n')∧M'.Pairwise (Ah c)∧RowB fc w0 g (A++M'++(M0.drop n'++B)) tail)∧(A.length+M0.length) - (Za (((A.length+n:Nat):Int)+1)).toNat<(A.length+M0.length) - (((A.length+n:Nat):Int)).toNat:=λw' w0 b' hB' h1 e=>by
   subst e
   rw[Zc oM oM]
   refine⟨⟨n+1,M1++x::M2,oM,oM,oM,b',?_,?_,by simpa using hB'⟩,oM⟩
   ·rw[List.take_succ_eq_append_getElem hn3,hX]
    refine(List.perm_middle).trans ?_
    rw[hM12]
    exact(hp.cons x).trans (List.perm_append_singleton x _).symm
   ·rw[←hM12]at hs
    obtain⟨p1,p2,p3⟩:=List.pairwise_append.1 hs
    refine List.pairwise_append.2 ⟨p1,List.pairwise_cons.2 ⟨hx2,p2⟩,λy hy z hz=>?_⟩
    rcases List.mem_cons.1 hz with rfl|hz
    ·exact h1 y hy
    ·exact p3 y hy z hz
  rcases List.eq_nil_or_concat M1 with rfl|⟨M1',y,rfl⟩
  ·have hf:decide ((A.length:Int)<((A.length+([]:List El).length:Nat):Int))=false:=by simp
   rw[hf]
   refine⟨⟨g,0,none⟩,nO,⟨#[]⟩,0,Sl.nil,nO,⟨g,0,none⟩,nO,⟨#[]⟩,0,Sl.nil,nO,nO,λ_=>⟨nO,λ_=> ?_⟩⟩
   exact fin w3 w3 b3 hB3 sI rfl
  ·simp only[List.concat_eq_append]at*
   have hj:decide ((A.length:Int)<((A.length+(M1'++ [y]).length:Nat):Int))=true:=by simp; omega
   rw[hj]
   have hlM:(M1'++ [y]).length=M1'.length+1:=by simp
   have e1:Za (((A.length+(M1'++ [y]).length:Nat):Int) - 1)=((A.length+M1'.length:Nat):Int):=by rw[hlM,Zc oM oM]; omega
   rw[e1]
   have hl2:data.len=A.length+(n+1+(M0.drop (n+1)++B).length):=by
    rw[hlen,List.length_append,List.length_drop]; omega
   have eB:A++(M1'++ [y])++x::(M2++(M0.drop (n+1)++B))=(A++M1')++y::x::(M2++(M0.drop (n+1)++B)):=by simp
   rw[eB]at hB3
   have ey:(A++M1').length=A.length+M1'.length:=List.length_append
   have gy:=hB3.ld' Za0 (Zgr ey)
   have gx:=hB3.ld' Za0 (Zh2 (n:=A.length+(M1'++ [y]).length) (by rw[hlM,ey]; omega))
   have hym:y∈M:=by rw[←hM12]; simp
   have hright:=Ah.right hO (hx y hym)
   refine⟨_,λ_=>⟨hd,oM,oM⟩,_,_,_,λ_=>gx,_,λ_=>⟨hd,oM,oM⟩,_,_,_,λ_=>gy,λ_=> ?_,nO⟩
   refine hc x.1 y.1 w3 _ b3 λw4 x4=>⟨_,rfl,λh=>?_,λh=>?_⟩
   ·simp only[Bool.true_and,decide_eq_true_eq]at h
    refine bnd.drew λw5 x5=>?_
    have x35:=x4.trans x5
    have hB5:=hB3.ext x35
    have gy5:=hB5.ld' Za0 (Zgr ey)
    have gx5:=hB5.ld' Za0 (Zh2 (n:=A.length+(M1'++ [y]).length) (by rw[hlM,ey]; omega))
    refine⟨_,⟨hd,oM,oM⟩,_,_,_,gy5,_,⟨hd,oM,oM⟩,_,_,_,gx5,_,⟨hd,oM,oM⟩,hB5.st Za0 (i:=A.length+(M1'++ [y]).length) (x:=y) (by simp only[List.length_append,List.length_cons,List.length_nil]; omega) λw6 b6 hB6=>⟨_,⟨hd,oM,oM⟩,hB6.st Za0 (i:=A.length+M1'.length) (x:=x) (by simp only[List.length_set,List.length_append,List.length_cons,List.length_nil]; omega) λw7 b7 hB7=>?_⟩⟩
    have e2:((((A++M1')++y::x::(M2++(M0.drop (n+1)++B))).set (A.length+(M1'++ [y]).length) y).set (A.length+M1'.length) x)=(A++M1')++x::y::(M2++(M0.drop (n+1)++B)):=by
     have:=Znf (A++M1') (M2++(M0.drop (n+1)++B)) y x
     rw[ey]at this
     rw[hlM,←Nat.add_assoc]; exact this
    rw[e2]at hB7
    refine⟨⟨M1',y::M2,rfl,by rw[←hM12]; simp,λz hz=>?_,((b3.ext' x35).trans b6).trans b7,by simpa using hB7⟩,by rw[hlM]; omega⟩
    rcases List.mem_cons.1 hz with rfl|hz
    ·exact hright.1 h
    ·exact hx2 z hz
   ·simp only[Bool.true_and,decide_eq_false_iff_not]at h
    refine fin w4 w4 (b3.ext' x4) (by rw[eB]; exact hB3.ext x4) (λz hz=>?_) rfl
    have hyx:=hright.2 h
    rcases List.mem_append.1 hz with hz|hz
    ·refine Ah.trans hO ?_ hyx
     rw[←hM12]at hs
     have:=(List.pairwise_append.1 (List.pairwise_append.1 hs).1).2.2 z hz y sI
     exact this
    ·simp at hz; subst hz; exact hyx
 ·have hn:n=M0.length:=oM
  subst hn
  rw[List.take_length]at hp
  rw[List.drop_length,List.nil_append]at hB1
  exact hR w1 M b1 hp hs hB1
theorem Zer{data:Sl}{w:World}{R:World→Prop}{P X M Y Q:List El}{tail:List Value}{a b n:Int}(hd:data.a=some ⟨g,0,none⟩)(hlen:data.len=(P++X++M++Y++Q).length)(hbig:data.len<4611686018427387904)
  (hB:RowB fc w g (P++X++M++Y++Q) tail) (ha:a=(P.length:Int)) (hb:b=((P.length+X.length+M.length:Nat):Int)) (hn:n=(X.length:Int)) (hXY:Y.length=X.length)
  (hR: ∀w',But g w w'→RowB fc w' g (P++Y++M++X++Q) tail→R w'):SE.Zu data a b n cmp w R:=by
 unfold SE.Zu
 subst ha hb hn
 simp only[List.length_append]at hlen
 refine loop1.up (N:=X.length) (by rw[Zb]; omega) (λi w'=>But g w w'∧RowB fc w' g (P++(Y.take i++X.drop i)++M++(X.take i++Y.drop i)++Q) tail) ⟨⟨Nat.le_refl _,rfl,rfl,rfl,λ_ _ _=>rfl⟩,by simpa using hB⟩ λi w1 nxt hi ⟨b1,hB1⟩ hnx=>⟨λhlt=>?_,λhge=>?_⟩
 ·have hi':i<X.length:=oM
  have hiY:i<Y.length:=oM
  refine bnd.drew λw2 x2=>?_
  rw[Zc (x:=((P.length+X.length+M.length:Nat):Int)+(i:Int)) oM oM,Zc (x:=(P.length:Int)+(i:Int)) oM oM]
  rw[show((P.length+X.length+M.length:Nat):Int)+(i:Int)=((P.length+X.length+M.length+i:Nat):Int) by omega,show(P.length:Int)+(i:Int)=((P.length+i:Nat):Int) by omega]
  have hB2:=hB1.ext x2
  have eL:P++(Y.take i++X.drop i)++M++(X.take i++Y.drop i)++Q=(P++Y.take i)++X[i]::((X.drop (i+1)++M++X.take i)++Y[i]::(Y.drop (i+1)++Q)):=by
   rw[List.drop_eq_getElem_cons hi',List.drop_eq_getElem_cons hiY]; simp only[List.append_assoc,List.cons_append]
  rw[eL]at hB2
  have l1:(P++Y.take i).length=P.length+i:=by simp; omega
  have l2:(X.drop (i+1)++M++X.take i).length+1=X.length+M.length:=by simp; omega
  have gx:=hB2.ld' Za0 (Zgr l1)
  have hgy:((P++Y.take i)++X[i]::((X.drop (i+1)++M++X.take i)++Y[i]::(Y.drop (i+1)++Q)))[P.length+X.length+M.length+i]? =some Y[i]:=by
   rw[←List.cons_append,←List.append_assoc]
   refine Zgr ?_
   simp only[List.length_append,List.length_cons]at l1 l2 ⊢; omega
  have gy:=hB2.ld' Za0 hgy
  have b2:=b1.ext' x2
  have hln:((P++Y.take i)++X[i]::((X.drop (i+1)++M++X.take i)++Y[i]::(Y.drop (i+1)++Q))).length=data.len:=by
   rw[←eL,hlen]; simp; omega
  refine⟨_,⟨hd,oM,oM⟩,_,_,_,gy,_,⟨hd,oM,oM⟩,_,_,_,gx,_,⟨hd,oM,oM⟩,hB2.st Za0 (i:=P.length+i) (x:=Y[i]) (by rw[hln]; omega) λw3 b3 hB3=>⟨_,⟨hd,oM,oM⟩,hB3.st Za0 (i:=P.length+X.length+M.length+i) (x:=X[i]) (by rw[List.length_set,hln]; omega) λw4 b4 hB4=>hnx hi' _ ⟨(b2.trans b3).trans b4,?_⟩⟩⟩
  have e:=Zv3 (P++Y.take i) (X.drop (i+1)++M++X.take i) (Y.drop (i+1)++Q) X[i] Y[i]
  rw[l1,show P.length+i+1+(X.drop (i+1)++M++X.take i).length=P.length+X.length+M.length+i by omega]at e
  rw[e]at hB4
  have e2:P++(Y.take (i+1)++X.drop (i+1))++M++(X.take (i+1)++Y.drop (i+1))++Q=(P++Y.take i)++Y[i]::((X.drop (i+1)++M++X.take i)++X[i]::(Y.drop (i+1)++Q)):=by
   rw[List.take_succ_eq_append_getElem hi',List.take_succ_eq_append_getElem hiY]; simp only[List.append_assoc,List.cons_append,List.nil_append]
  rw[e2]; exact hB4
 ·have:i=X.length:=oM
  subst this
  rw[List.take_of_length_le oM,List.drop_length,List.append_nil,List.take_length,List.drop_eq_nil_of_le oM,List.append_nil]at hB1
  exact hR w1 b1 hB1
theorem Zok{data:Sl}{w:World}{R:World→Prop}{P X Y Q:List El}{tail:List Value}{a m b:Int}(hd:data.a=some ⟨g,0,none⟩)(hlen:data.len=(P++X++Y++Q).length)(hbig:data.len<4611686018427387904)
  (hB:RowB fc w g (P++X++Y++Q) tail) (ha:a=(P.length:Int)) (hm:m=((P.length+X.length:Nat):Int)) (hb:b=((P.length+X.length+Y.length:Nat):Int)) (hX:0<X.length) (hY:0<Y.length)
  (hR: ∀w',But g w w'→RowB fc w' g (P++Y++X++Q) tail→R w'):SE.Za3 data a m b cmp w R:=by
 unfold SE.Za3
 subst ha hb hm
 simp only[List.length_append]at hlen
 refine⟨λi j w'=>∃P' X' Y' Q':List El,i=(X'.length:Int)∧j=(Y'.length:Int)∧P'.length+X'.length=P.length+X.length∧0<X'.length∧0<Y'.length∧data.len=P'.length+X'.length+Y'.length+Q'.length∧P'++Y'++X'++Q'=P++Y++X++Q∧But g w w'∧RowB fc w' g (P'++X'++Y'++Q') tail,
  λi j _=>i.toNat+j.toNat,⟨P,X,Y,Q,by rw[Zc oM oM]; omega,by rw[Zc oM oM]; omega,rfl,hX,hY,hlen,rfl,⟨Nat.le_refl _,rfl,rfl,rfl,λ_ _ _=>rfl⟩,hB⟩,?_⟩
 rintro i j w1 ⟨P',X',Y',Q',rfl,rfl,hm,hX',hY',hl,hg,b1,hB1⟩
 have wi:Za (((P.length+X.length:Nat):Int) - (X'.length:Int))=(P'.length:Int):=by rw[Zc oM oM]; omega
 rw[wi]
 refine⟨λhne=>⟨λhlt=>?_,λhge=>?_⟩,λheq=>?_⟩
 ·have hXe:X'=X'.take Y'.length++X'.drop Y'.length:=(List.take_append_drop _ _).symm
  have l1:(X'.take Y'.length).length=Y'.length:=by rw[List.length_take]; omega
  have l2:(X'.drop Y'.length).length=X'.length - Y'.length:=List.length_drop
  generalize X'.take Y'.length=X1 at*
  generalize X'.drop Y'.length=X2 at*
  subst hXe
  rw[List.length_append]at*
  refine SE.Zu.go (Zer (P:=P') (X:=X1) (M:=X2) (Y:=Y') (Q:=Q') hd (by simp only[List.length_append]; omega) hbig (by simpa using hB1) rfl oM oM oM λw2 b2 hB2=>⟨rfl,?_⟩)
  rw[Zc oM oM]
  refine⟨⟨P'++Y',X2,X1,Q',oM,oM,by rw[List.length_append]; omega,oM,oM,by rw[List.length_append]; omega,by rw[←hg]; simp,b1.trans b2,by simpa using hB2⟩,by show Int.toNat _+Int.toNat _<Int.toNat _+Int.toNat _; omega⟩
 ·have hlt:X'.length<Y'.length:=by
   rcases Nat.lt_trichotomy X'.length Y'.length with h|h|h
   ·exact h
   ·exact absurd (by rw[h]) hne
   ·omega
  have hYe:Y'=Y'.take (Y'.length - X'.length)++Y'.drop (Y'.length - X'.length):=(List.take_append_drop _ _).symm
  have l1:(Y'.take (Y'.length - X'.length)).length=Y'.length - X'.length:=by rw[List.length_take]; omega
  have l2:(Y'.drop (Y'.length - X'.length)).length=X'.length:=by rw[List.length_drop]; omega
  generalize hn1:Y'.take (Y'.length - X'.length)=Y1 at*
  generalize hn2:Y'.drop (Y'.length - X'.length)=Y2 at*
  clear hn1 hn2
  subst hYe
  rw[List.length_append]at*
  have e1:Za (Za (((P.length+X.length:Nat):Int)+((Y1.length+Y2.length:Nat):Int)) - (X'.length:Int))=((P'.length+X'.length+Y1.length:Nat):Int):=by
   rw[Zc (x:=((P.length+X.length:Nat):Int)+((Y1.length+Y2.length:Nat):Int)) oM oM,Zc oM oM]; omega
  rw[e1]
  refine SE.Zu.go (Zer (P:=P') (X:=X') (M:=Y1) (Y:=Y2) (Q:=Q') hd (by simp only[List.length_append]; omega) hbig (by simpa using hB1) rfl rfl rfl l2 λw2 b2 hB2=>⟨rfl,?_⟩)
  rw[Zc oM oM]
  refine⟨⟨P',Y2,Y1,X'++Q',oM,oM,oM,oM,oM,by rw[List.length_append]; omega,by rw[←hg]; simp,b1.trans b2,by simpa using hB2⟩,by show Int.toNat _+Int.toNat _<Int.toNat _+Int.toNat _; omega⟩
 ·have heq:X'.length=Y'.length:=by
   have:=Classical.not_not.1 heq; omega
  refine SE.Zu.go (Zer (P:=P') (X:=X') (M:=[]) (Y:=Y') (Q:=Q') hd (by simp only[List.length_append,List.length_nil]; omega) hbig (by simpa using hB1) rfl (by simp only[List.length_nil]; omega) rfl heq.symm λw2 b2 hB2=>⟨rfl,?_⟩)
  exact hR w2 (b1.trans b2) (by rw[←hg]; simpa using hB2)
theorem Zd6(hO:Ord3 c){data:Sl}{tail:List Value}(hd:data.a=some ⟨g,0,none⟩)(hbig:data.len<4611686018427387904):
  ∀(N:Nat) {w:World} {R:World→Prop} {P L X Q:List El} {a m b:Int},L.length+X.length≤N→CmpOk cmp c g w→data.len=(P++L++X++Q).length→RowB fc w g (P++L++X++Q) tail→
   a=(P.length:Int)→m=((P.length+L.length:Nat):Int)→b=((P.length+L.length+X.length:Nat):Int)→0<L.length→0<X.length→L.Pairwise (Ah c)→X.Pairwise (Ah c)→(∀x∈L,∀y∈X,x.2<y.2)→
   (∀w' M,But g w w'→M.Perm (L++X)→M.Pairwise (Ah c)→RowB fc w' g (P++M++Q) tail→R w')→SE.Zp data a m b cmp w R
 |0,_,_,_,L,_,_,_,_,_,h,_,_,_,_,_,_,hL,_,_,_,_,_=>by omega
 |N+1,w,R,P,L,X,Q,_,_,_,hN,hc,hlen,hB,rfl,rfl,rfl,hL0,hX0,hL,hX,hid,hR=>by
  unfold SE.Zp
  simp only[List.length_append]at hlen
  have refl:But g w w:=⟨Nat.le_refl _,rfl,rfl,rfl,λ_ _ _=>rfl⟩
  have eL: ∀(u:Nat) (hu:u<L.length),(P++L++X++Q)[P.length+u]? =some L[u]:=λu hu=>by
   rw[List.append_assoc,List.append_assoc,List.getElem?_append_right oM,List.getElem?_append_left oM,Nat.add_sub_cancel_left]; exact List.getElem?_eq_getElem hu
  have eX: ∀(u:Nat) (hu:u<X.length),(P++L++X++Q)[P.length+L.length+u]? =some X[u]:=λu hu=>by
   rw[List.append_assoc,List.getElem?_append_right (by rw[List.length_append]; omega),List.length_append,Nat.add_sub_cancel_left,List.getElem?_append_left oM]; exact List.getElem?_eq_getElem hu
  have wm:Za (((P.length+L.length:Nat):Int) - (P.length:Int))=(L.length:Int):=by rw[Zc oM oM]; omega
  have wb:Za (((P.length+L.length+X.length:Nat):Int) - ((P.length+L.length:Nat):Int))=(X.length:Int):=by rw[Zc oM oM]; omega
  rw[wm,wb]
  refine⟨λh1=>?_,λh1=>⟨λh2=>?_,λh2=>?_⟩⟩
  ·
   obtain⟨x,rfl⟩:=List.length_eq_one_iff.1 (show L.length=1 by omega)
   simp only[List.length_cons,List.length_nil]at*
   refine⟨λi j w'=>∃p q:Nat,i=((P.length+(0+1)+p:Nat):Int)∧j=((P.length+(0+1)+q:Nat):Int)∧p≤q∧q≤X.length∧(∀(u:Nat) (hu:u<X.length),u<p→Ah c X[u] x)∧(∀(u:Nat) (hu:u<X.length),q≤u→Ah c x X[u])∧Ext w w',
    λi j _=>(j - i).toNat,⟨0,X.length,oM,oM,oM,oM,λu _ h=>by omega,λu h1 h2=>by omega,Ext.refl _⟩,?_⟩
   rintro _ _ w1 ⟨p,q,rfl,rfl,hpq,hq,hp1,hq1,x1⟩
   refine⟨λhlt=>bnd.drew λw2 x2=>?_,λhge=>?_⟩
   ·rw[half oM]
    have he:(P.length+(0+1)+p+(P.length+(0+1)+q))/2=P.length+(0+1)+(p+q)/2:=oM
    rw[he]
    have heX:(p+q)/2<X.length:=oM
    have hB2:=hB.ext (x1.trans x2)
    have gx:=hB2.ld' Za0 (eL 0 sI)
    have gy:=hB2.ld' Za0 (eX _ heX)
    have hright:=Ah.right hO (hid x sI _ (List.getElem_mem heX))
    refine⟨_,⟨hd,oM,oM⟩,_,_,_,gy,_,⟨hd,oM,oM⟩,_,_,_,gx,hc _ x.1 w2 _ (refl.ext' (x1.trans x2)) λw3 x3=>⟨_,rfl,λh=>?_,λh=>?_⟩⟩
    ·have hA:=hright.1 h
     rw[Zc oM oM]
     refine⟨⟨(p+q)/2+1,q,oM,rfl,oM,hq,λu hu hlt=>?_,hq1,x1.trans (x2.trans x3)⟩,by show Int.toNat _<Int.toNat _; omega⟩
     rcases Nat.lt_succ_iff_lt_or_eq.1 hlt with h'|rfl
     ·exact(List.pairwise_iff_getElem.1 hX u _ hu heX h').trans hO hA
     ·exact hA
    ·have hA:=hright.2 h
     refine⟨⟨p,(p+q)/2,rfl,rfl,oM,oM,hp1,λu hu hge=>?_,x1.trans (x2.trans x3)⟩,by show Int.toNat _<Int.toNat _; omega⟩
     rcases Nat.lt_or_eq_of_le hge with h'|rfl
     ·exact hA.trans hO (List.pairwise_iff_getElem.1 hX _ u heX hu h')
     ·exact hA
   ·have hpq':p=q:=oM
    subst hpq'
    have wi:Za (((P.length+(0+1)+p:Nat):Int) - 1)=((P.length+p:Nat):Int):=by rw[Zc oM oM]; omega
    rw[wi]
    refine⟨λk w'=>∃t:Nat,k=((P.length+t:Nat):Int)∧t≤p∧But g w w'∧RowB fc w' g (P++(X.take t++x::X.drop t)++Q) tail,λk _=>(P.length+p) - k.toNat,⟨0,oM,oM,refl.ext' x1,by simpa using hB.ext x1⟩,?_⟩
    rintro _ w2 ⟨t,rfl,htp,b2,hB2⟩
    refine⟨λhlt=>bnd.drew λw3 x3=>?_,λhge=>?_⟩
    ·have htX:t<X.length:=oM
     have e1:Za (((P.length+t:Nat):Int)+1)=((P.length+t+1:Nat):Int):=by rw[Zc oM oM]; omega
     rw[e1]
     have eB:P++(X.take t++x::X.drop t)++Q=(P++X.take t)++x::X[t]::(X.drop (t+1)++Q):=by
      rw[List.drop_eq_getElem_cons htX]; simp only[List.append_assoc,List.cons_append]
     have hB3:=hB2.ext x3
     rw[eB]at hB3
     have ey:(P++X.take t).length=P.length+t:=by rw[List.length_append,List.length_take]; omega
     have gy:=hB3.ld' Za0 (Zgr ey)
     have gx:=hB3.ld' Za0 (Zh2 (n:=P.length+t+1) oM)
     have hln:((P++X.take t)++x::X[t]::(X.drop (t+1)++Q)).length=data.len:=by rw[←eB,hlen]; simp; omega
     refine⟨_,⟨hd,oM,oM⟩,_,_,_,gx,_,⟨hd,oM,oM⟩,_,_,_,gy,_,⟨hd,oM,oM⟩,hB3.st Za0 (i:=P.length+t) (x:=X[t]) (by rw[hln]; omega) λw4 b4 hB4=>⟨_,⟨hd,oM,oM⟩,hB4.st Za0 (i:=P.length+t+1) (x:=x) (by rw[List.length_set,hln]; omega) λw5 b5 hB5=>?_⟩⟩
     have e2:=Zta (P++X.take t) (X.drop (t+1)++Q) x X[t]
     rw[ey]at e2
     rw[e2]at hB5
     refine⟨⟨t+1,oM,oM,((b2.ext' x3).trans b4).trans b5,?_⟩,by show _ - Int.toNat _<_ - Int.toNat _; omega⟩
     rw[List.take_succ_eq_append_getElem htX]
     simpa only[List.append_assoc,List.cons_append,List.nil_append]using hB5
    ·have:t=p:=oM
     subst this
     refine hR w2 _ b2 ?_ ?_ hB2
     ·refine List.perm_middle.trans ?_
      rw[List.take_append_drop]; exact List.Perm.refl _
     ·refine List.pairwise_append.2 ⟨hX.sublist (List.take_sublist _ _),List.pairwise_cons.2 ⟨λy hy=>?_,hX.sublist (List.drop_sublist _ _)⟩,λy hy z hz=>?_⟩
      ·obtain⟨u,hu,rfl⟩:=List.mem_iff_getElem.1 hy
       rw[List.length_drop]at hu
       rw[List.getElem_drop]; exact hq1 _ oM oM
      ·obtain⟨u,hu,rfl⟩:=List.mem_iff_getElem.1 hy
       rw[List.length_take]at hu
       rw[List.getElem_take]
       have hyx:=hp1 u oM oM
       rcases List.mem_cons.1 hz with rfl|hz
       ·exact hyx
       ·obtain⟨v,hv,rfl⟩:=List.mem_iff_getElem.1 hz
        rw[List.length_drop]at hv
        rw[List.getElem_drop]; exact hyx.trans hO (hq1 _ oM oM)
  ·
   obtain⟨y,rfl⟩:=List.length_eq_one_iff.1 (show X.length=1 by omega)
   simp only[List.length_cons,List.length_nil]at*
   refine⟨λi j w'=>∃p q:Nat,i=((P.length+p:Nat):Int)∧j=((P.length+q:Nat):Int)∧p≤q∧q≤L.length∧(∀(u:Nat) (hu:u<L.length),u<p→Ah c L[u] y)∧(∀(u:Nat) (hu:u<L.length),q≤u→Ah c y L[u])∧Ext w w',
    λi j _=>(j - i).toNat,⟨0,L.length,oM,oM,oM,oM,λu _ h=>by omega,λu h1 h2=>by omega,Ext.refl _⟩,?_⟩
   rintro _ _ w1 ⟨p,q,rfl,rfl,hpq,hq,hp1,hq1,x1⟩
   refine⟨λhlt=>bnd.drew λw2 x2=>?_,λhge=>?_⟩
   ·rw[half oM]
    have he:(P.length+p+(P.length+q))/2=P.length+(p+q)/2:=oM
    rw[he]
    have heX:(p+q)/2<L.length:=oM
    have hB2:=hB.ext (x1.trans x2)
    have gx:=hB2.ld' Za0 (eX 0 sI)
    have gy:=hB2.ld' Za0 (eL _ heX)
    have hright:=Ah.right hO (hid _ (List.getElem_mem heX) y sI)
    refine⟨_,⟨hd,oM,oM⟩,_,_,_,gx,_,⟨hd,oM,oM⟩,_,_,_,gy,hc y.1 _ w2 _ (refl.ext' (x1.trans x2)) λw3 x3=>⟨_,rfl,λh=>?_,λh=>?_⟩⟩
    ·have hA:=hright.2 h
     rw[Zc oM oM]
     refine⟨⟨(p+q)/2+1,q,oM,rfl,oM,hq,λu hu hlt=>?_,hq1,x1.trans (x2.trans x3)⟩,by show Int.toNat _<Int.toNat _; omega⟩
     rcases Nat.lt_succ_iff_lt_or_eq.1 hlt with h'|rfl
     ·exact(List.pairwise_iff_getElem.1 hL u _ hu heX h').trans hO hA
     ·exact hA
    ·have hA:=hright.1 (Classical.not_not.1 h)
     refine⟨⟨p,(p+q)/2,rfl,rfl,oM,oM,hp1,λu hu hge=>?_,x1.trans (x2.trans x3)⟩,by show Int.toNat _<Int.toNat _; omega⟩
     rcases Nat.lt_or_eq_of_le hge with h'|rfl
     ·exact hA.trans hO (List.pairwise_iff_getElem.1 hL _ u heX hu h')
     ·exact hA
   ·have hpq':p=q:=oM
    subst hpq'
    refine⟨λk w'=>∃t:Nat,k=((P.length+t:Nat):Int)∧p≤t∧t≤L.length∧But g w w'∧RowB fc w' g (P++(L.take t++y::L.drop t)++Q) tail,λk _=>k.toNat,⟨L.length,oM,oM,oM,refl.ext' x1,by simpa using hB.ext x1⟩,?_⟩
    rintro _ w2 ⟨t,rfl,htp,htL,b2,hB2⟩
    refine⟨λhlt=>bnd.drew λw3 x3=>?_,λhge=>?_⟩
    ·obtain⟨s,rfl⟩: ∃s,t=s+1:=⟨t - 1,oM⟩
     have hsL:s<L.length:=oM
     have e1:Za (((P.length+(s+1):Nat):Int) - 1)=((P.length+s:Nat):Int):=by rw[Zc oM oM]; omega
     rw[e1]
     have eB:P++(L.take (s+1)++y::L.drop (s+1))++Q=(P++L.take s)++L[s]::y::(L.drop (s+1)++Q):=by
      rw[List.take_succ_eq_append_getElem hsL]; simp only[List.append_assoc,List.cons_append,List.nil_append]
     have hB3:=hB2.ext x3
     rw[eB]at hB3
     have ey:(P++L.take s).length=P.length+s:=by rw[List.length_append,List.length_take]; omega
     have gy:=hB3.ld' Za0 (Zgr ey)
     have gx:=hB3.ld' Za0 (Zh2 (n:=P.length+(s+1)) oM)
     have hln:((P++L.take s)++L[s]::y::(L.drop (s+1)++Q)).length=data.len:=by rw[←eB,hlen]; simp; omega
     refine⟨_,⟨hd,oM,oM⟩,_,_,_,gy,_,⟨hd,oM,oM⟩,_,_,_,gx,_,⟨hd,oM,oM⟩,hB3.st Za0 (i:=P.length+(s+1)) (x:=L[s]) (by rw[hln]; omega) λw4 b4 hB4=>⟨_,⟨hd,oM,oM⟩,hB4.st Za0 (i:=P.length+s) (x:=y) (by rw[List.length_set,hln]; omega) λw5 b5 hB5=>?_⟩⟩
     have e2:=Znf (P++L.take s) (L.drop (s+1)++Q) L[s] y
     rw[ey,Nat.add_assoc]at e2
     rw[e2]at hB5
     refine⟨⟨s,oM,oM,oM,((b2.ext' x3).trans b4).trans b5,?_⟩,by show Int.toNat _<Int.toNat _; omega⟩
     rw[List.drop_eq_getElem_cons hsL]
     simpa only[List.append_assoc,List.cons_append,List.nil_append]using hB5
    ·have:t=p:=oM
     subst this
     refine hR w2 _ b2 ?_ ?_ hB2
     ·refine List.perm_middle.trans ?_
      rw[List.take_append_drop]; exact(List.perm_append_singleton y L).symm
     ·refine List.pairwise_append.2 ⟨hL.sublist (List.take_sublist _ _),List.pairwise_cons.2 ⟨λz hz=>?_,hL.sublist (List.drop_sublist _ _)⟩,λx hx z hz=>?_⟩
      ·obtain⟨u,hu,rfl⟩:=List.mem_iff_getElem.1 hz
       rw[List.length_drop]at hu
       rw[List.getElem_drop]; exact hq1 _ oM oM
      ·obtain⟨u,hu,rfl⟩:=List.mem_iff_getElem.1 hx
       rw[List.length_take]at hu
       rw[List.getElem_take]
       have hyx:=hp1 u oM oM
       rcases List.mem_cons.1 hz with rfl|hz
       ·exact hyx
       ·obtain⟨v,hv,rfl⟩:=List.mem_iff_getElem.1 hz
        rw[List.length_drop]at hv
        rw[List.getElem_drop]; exact hyx.trans hO (hq1 _ oM oM)
  ·
   rw[half (i:=P.length) (j:=P.length+L.length+X.length) oM]
   have hmid:(P.length+(P.length+L.length+X.length))/2=P.length+(L.length+X.length)/2:=oM
   rw[hmid]
   generalize hH:(L.length+X.length)/2=H at*
   have wn:Za (((P.length+H:Nat):Int)+((P.length+L.length:Nat):Int))=((P.length+H+(P.length+L.length):Nat):Int):=by rw[Zc oM oM]; omega
   rw[wn]
   have wp:Za (((P.length+H+(P.length+L.length):Nat):Int) - 1)=((P.length+H+(P.length+L.length) - 1:Nat):Int):=by rw[Zc oM oM]; omega
   rw[wp]
   refine join.named λJ hJ=>?_
   have main: ∀u0 v0:Nat,u0=H - X.length→v0=min L.length H→J ((P.length+u0:Nat):Int) ((P.length+v0:Nat):Int) w:=λu0 v0 hu0 hv0=>by
    subst hJ
    show loop2 _ _ _ _
    refine⟨λi j w'=>∃s r:Nat,i=((P.length+s:Nat):Int)∧j=((P.length+r:Nat):Int)∧u0≤s∧s≤r∧r≤v0∧(∀(u:Nat) (h1:u<L.length) (h2:H - 1 - u<X.length),u0≤u→u<s→Ah c L[u] X[H - 1 - u])∧(∀(u:Nat) (h1:u<L.length) (h2:H - 1 - u<X.length),r≤u→u<v0→Ah c X[H - 1 - u] L[u])∧Ext w w',
     λi j _=>(j - i).toNat,⟨u0,v0,rfl,rfl,Nat.le_refl _,oM,Nat.le_refl _,λu _ _ h1 h2=>by omega,λu _ _ h1 h2=>by omega,Ext.refl _⟩,?_⟩
    rintro _ _ w1 ⟨s,r,rfl,rfl,hs0,hsr,hrv,hs1,hr1,x1⟩
    refine⟨λhlt=>bnd.drew λw2 x2=>?_,λhge=>?_⟩
    ·rw[half oM]
     have he:(P.length+s+(P.length+r))/2=P.length+(s+r)/2:=oM
     rw[he]
     generalize hu:(s+r)/2=u at*
     have huL:u<L.length:=oM
     have huX:H - 1 - u<X.length:=oM
     have wpc:Za (((P.length+H+(P.length+L.length) - 1:Nat):Int) - ((P.length+u:Nat):Int))=((P.length+L.length+(H - 1 - u):Nat):Int):=by rw[Zc oM oM]; omega
     rw[wpc]
     have hB2:=hB.ext (x1.trans x2)
     have gx:=hB2.ld' Za0 (eX _ huX)
     have gy:=hB2.ld' Za0 (eL _ huL)
     have hright:=Ah.right hO (hid _ (List.getElem_mem huL) _ (List.getElem_mem huX))
     refine⟨_,⟨hd,oM,oM⟩,_,_,_,gx,_,⟨hd,oM,oM⟩,_,_,_,gy,hc _ _ w2 _ (refl.ext' (x1.trans x2)) λw3 x3=>⟨_,rfl,λh=>?_,λh=>?_⟩⟩
     ·have hA:=hright.2 h
      rw[Zc oM oM]
      refine⟨⟨u+1,r,oM,rfl,oM,oM,hrv,λt h1 h2 h3 h4=>?_,hr1,x1.trans (x2.trans x3)⟩,by show Int.toNat _<Int.toNat _; omega⟩
      rcases Nat.lt_succ_iff_lt_or_eq.1 h4 with h'|rfl
      ·exact((List.pairwise_iff_getElem.1 hL t u h1 huL h').trans hO hA).trans hO (List.pairwise_iff_getElem.1 hX (H - 1 - u) (H - 1 - t) huX h2 oM)
      ·exact hA
     ·have hA:=hright.1 (Classical.not_not.1 h)
      refine⟨⟨s,u,rfl,rfl,hs0,oM,oM,hs1,λt h1 h2 h3 h4=>?_,x1.trans (x2.trans x3)⟩,by show Int.toNat _<Int.toNat _; omega⟩
      rcases Nat.lt_or_eq_of_le h3 with h'|rfl
      ·exact((List.pairwise_iff_getElem.1 hX (H - 1 - t) (H - 1 - u) h2 huX oM).trans hO hA).trans hO (List.pairwise_iff_getElem.1 hL u t huL h1 h')
      ·exact hA
    ·have hsr':s=r:=oM
     subst hsr'
     have hsL:s≤L.length:=oM
     have hsH:s≤H:=oM
     have hHX:H - s≤X.length:=oM
     have wend:Za (((P.length+H+(P.length+L.length):Nat):Int) - ((P.length+s:Nat):Int))=((P.length+L.length+(H - s):Nat):Int):=by rw[Zc oM oM]; omega
     rw[wend]
     have cr1: ∀x∈L.take s,∀y∈X.drop (H - s),Ah c x y:=λx hx y hy=>by
      obtain⟨i,hi,rfl⟩:=List.mem_iff_getElem.1 hx
      obtain⟨j,hj,rfl⟩:=List.mem_iff_getElem.1 hy
      rw[List.length_take]at hi; rw[List.length_drop]at hj
      rw[List.getElem_take,List.getElem_drop]
      have k1:=hs1 (s - 1) oM oM oM oM
      have e:H - 1 - (s - 1)=H - s:=oM
      have k2:Ah c L[i] X[H - s]:=by
       rcases Nat.lt_or_eq_of_le (show i≤s - 1 by omega)with h|h
       ·have:=(List.pairwise_iff_getElem.1 hL i (s - 1) oM oM h).trans hO k1
        simpa only[e]using this
       ·subst h; simpa only[e]using k1
      rcases Nat.eq_zero_or_pos j with h|h
      ·subst h; exact k2
      ·exact k2.trans hO (List.pairwise_iff_getElem.1 hX (H - s) (H - s+j) oM oM oM)
     have cr2: ∀y∈X.take (H - s),∀x∈L.drop s,Ah c y x:=λy hy x hx=>by
      obtain⟨i,hi,rfl⟩:=List.mem_iff_getElem.1 hx
      obtain⟨j,hj,rfl⟩:=List.mem_iff_getElem.1 hy
      rw[List.length_drop]at hi; rw[List.length_take]at hj
      rw[List.getElem_take,List.getElem_drop]
      have k1:=hr1 s oM oM nR oM
      have k2:Ah c X[j] L[s]:=by
       rcases Nat.lt_or_eq_of_le (show j≤H - 1 - s by omega)with h|h
       ·exact(List.pairwise_iff_getElem.1 hX j (H - 1 - s) oM oM h).trans hO k1
       ·subst h; exact k1
      rcases Nat.eq_zero_or_pos i with h|h
      ·subst h; exact k2
      ·exact k2.trans hO (List.pairwise_iff_getElem.1 hL s (s+i) oM oM oM)
     have lt1:(L.take s).length=s:=by rw[List.length_take]; omega
     have lt2:(X.take (H - s)).length=H - s:=by rw[List.length_take]; omega
     have lt3:(L.drop s).length=L.length - s:=List.length_drop
     have lt4:(X.drop (H - s)).length=X.length - (H - s):=List.length_drop
     have sL1:=hL.sublist (List.take_sublist s L)
     have sL2:=hL.sublist (List.drop_sublist s L)
     have sX1:=hX.sublist (List.take_sublist (H - s) X)
     have sX2:=hX.sublist (List.drop_sublist (H - s) X)
     have id1: ∀x∈L.take s,∀y∈X.take (H - s),x.2<y.2:=λx hx y hy=>hid x (List.mem_of_mem_take hx) y (List.mem_of_mem_take hy)
     have id2: ∀x∈L.drop s,∀y∈X.drop (H - s),x.2<y.2:=λx hx y hy=>hid x (List.mem_of_mem_drop hx) y (List.mem_of_mem_drop hy)
     have eLs:L=L.take s++L.drop s:=(List.take_append_drop _ _).symm
     have eXs:X=X.take (H - s)++X.drop (H - s):=(List.take_append_drop _ _).symm
     have hLX:L.take s= []∨0<s:=by
       rcases Nat.eq_zero_or_pos s with h|h
       ·exact .inl (by rw[h]; rfl)
       ·exact .inr h
     have permAll: ∀M1 M2:List El,M1.Perm (L.take s++X.take (H - s))→M2.Perm (L.drop s++X.drop (H - s))→(M1++M2).Perm (L++X):=λM1 M2 h1 h2=>by
      refine(h1.append h2).trans ?_
      conv=>rhs; rw[eLs,eXs]
      rw[List.append_assoc,List.append_assoc]
      refine List.Perm.append_left _ ?_
      rw[←List.append_assoc,←List.append_assoc]
      exact List.Perm.append_right _ List.perm_append_comm
     have sortAll: ∀M1 M2:List El,M1.Perm (L.take s++X.take (H - s))→M2.Perm (L.drop s++X.drop (H - s))→M1.Pairwise (Ah c)→M2.Pairwise (Ah c)→(M1++M2).Pairwise (Ah c):=λM1 M2 h1 h2 s1 s2=>
      List.pairwise_append.2 ⟨s1,s2,λx hx y hy=>by
       rcases List.mem_append.1 (h1.mem_iff.1 hx)with hx|hx<;>rcases List.mem_append.1 (h2.mem_iff.1 hy)with hy|hy
       ·obtain⟨i,hi,rfl⟩:=List.mem_iff_getElem.1 hx
        obtain⟨j,hj,rfl⟩:=List.mem_iff_getElem.1 hy
        rw[lt1]at hi; rw[lt3]at hj
        rw[List.getElem_take,List.getElem_drop]
        exact List.pairwise_iff_getElem.1 hL i (s+j) oM oM oM
       ·exact cr1 x hx y hy
       ·exact cr2 x hx y hy
       ·obtain⟨i,hi,rfl⟩:=List.mem_iff_getElem.1 hx
        obtain⟨j,hj,rfl⟩:=List.mem_iff_getElem.1 hy
        rw[lt2]at hi; rw[lt4]at hj
        rw[List.getElem_take,List.getElem_drop]
        exact List.pairwise_iff_getElem.1 hX i (H - s+j) oM oM oM⟩
     generalize L.take s=L1 at*
     generalize L.drop s=L2 at*
     generalize X.take (H - s)=X1 at*
     generalize X.drop (H - s)=X2 at*
     have b1:But g w w1:=refl.ext' x1
     have hB1:=hB.ext x1
     refine join.named λJ2 hJ2=>?_
     have k2: ∀w2,But g w w2→RowB fc w2 g (P++L1++X1++(L2++X2++Q)) tail→J2 w2:=λw2 b2 hB2=>by
      subst hJ2
      refine join.named λJ3 hJ3=>bound ?_
      have k3: ∀w3 M1,But g w w3→M1.Perm (L1++X1)→M1.Pairwise (Ah c)→RowB fc w3 g (P++M1++(L2++X2++Q)) tail→J3 w3:=λw3 M1 b3 hp1 so1 hB3=>by
       subst hJ3
       have lM:M1.length=H:=by rw[hp1.length_eq,List.length_append]; omega
       refine bound ⟨λh=>?_,λh=>?_⟩
       ·simp only[Bool.and_eq_true,decide_eq_true_eq]at h
        refine SE.Zp.go (Zd6 hO hd hbig N (P:=P++M1) (L:=L2) (X:=X2) (Q:=Q) oM (hc.but b3) (by simp only[List.length_append]; omega) (by simpa only[List.append_assoc]using hB3) (by rw[List.length_append]; omega) (by rw[List.length_append]; omega) (by rw[List.length_append]; omega) oM oM sL2 sX2 id2 λw4 M2 b4 hp2 so2 hB4=>⟨rfl,?_⟩)
        exact hR w4 (M1++M2) (b3.trans b4) (permAll M1 M2 hp1 hp2) (sortAll M1 M2 hp1 hp2 so1 so2) (by simpa only[List.append_assoc]using hB4)
       ·simp only[Bool.and_eq_false_iff,decide_eq_false_iff_not]at h
        refine hR w3 (M1++(L2++X2)) b3 (permAll M1 _ hp1 (List.Perm.refl _)) (sortAll M1 _ hp1 (List.Perm.refl _) so1 ?_) (by simpa only[List.append_assoc]using hB3)
        have:L2= []∨X2= []:=by
         rcases h with h|h
         ·exact .inl (List.eq_nil_of_length_eq_zero oM)
         ·exact .inr (List.eq_nil_of_length_eq_zero oM)
        rcases this with rfl|rfl
        ·simpa using sX2
        ·simpa using sL2
      refine⟨λh=>?_,λh=>?_⟩
      ·simp only[Bool.and_eq_true,decide_eq_true_eq]at h
       refine SE.Zp.go (Zd6 hO hd hbig N (P:=P) (L:=L1) (X:=X1) (Q:=L2++X2++Q) oM (hc.but b2) (by simp only[List.length_append]; omega) (by simpa only[List.append_assoc]using hB2) rfl oM oM oM oM sL1 sX1 id1 λw4 M1 b4 hp1 so1 hB4=>⟨rfl,k3 w4 M1 (b2.trans b4) hp1 so1 hB4⟩)
      ·simp only[Bool.and_eq_false_iff,decide_eq_false_iff_not]at h
       refine k3 w2 (L1++X1) b2 (List.Perm.refl _) ?_ (by simpa only[List.append_assoc]using hB2)
       have:L1= []∨X1= []:=by
        rcases h with h|h
        ·exact .inl (List.eq_nil_of_length_eq_zero oM)
        ·exact .inr (List.eq_nil_of_length_eq_zero oM)
       rcases this with rfl|rfl
       ·simpa using sX1
       ·simpa using sL1
     rw[eLs,eXs]at hB1
     refine bound ⟨λh=>?_,λh=>?_⟩
     ·simp only[Bool.and_eq_true,decide_eq_true_eq]at h
      refine SE.Za3.go (Zok (P:=P++L1) (X:=L2) (Y:=X1) (Q:=X2++Q) hd (by simp only[List.length_append]; omega) hbig (by simpa only[List.append_assoc]using hB1) (by rw[List.length_append]; omega) (by rw[List.length_append]; omega) (by rw[List.length_append]; omega) oM oM λw2 b2 hB2=>⟨rfl,k2 w2 (b1.trans b2) (by simpa only[List.append_assoc]using hB2)⟩)
     ·simp only[Bool.and_eq_false_iff,decide_eq_false_iff_not]at h
      refine k2 w1 b1 ?_
      have:L2= []∨X1= []:=by
       rcases h with h|h
       ·exact .inl (List.eq_nil_of_length_eq_zero oM)
       ·exact .inr (List.eq_nil_of_length_eq_zero oM)
      rcases this with rfl|rfl
      ·simpa only[List.append_assoc,List.append_nil,List.nil_append]using hB1
      ·simpa only[List.append_assoc,List.append_nil,List.nil_append]using hB1
   refine⟨λh=>?_,λh=>?_⟩
   ·have:=main (H - X.length) H rfl oM
    have e:Za (((P.length+H+(P.length+L.length):Nat):Int) - ((P.length+L.length+X.length:Nat):Int))=((P.length+(H - X.length):Nat):Int):=by rw[Zc oM oM]; omega
    rw[e]; exact this
   ·have:=main 0 L.length oM oM
    exact this
theorem ids{z0:List El}(hz:z0.Pairwise λx y=>x.2<y.2){i n j m:Nat}(h:i+n≤j): ∀x∈sg z0 i n,∀y∈sg z0 j m,x.2<y.2:=λx hx y hy=>by
 obtain⟨a,ha,_,ha2,rfl⟩:=Zvz hx
 obtain⟨b,hb,hb1,_,rfl⟩:=Zvz hy
 exact List.pairwise_iff_getElem.1 hz a b ha hb oM
theorem Zos(hO:Ord3 c){data:Sl}{tail:List Value}{w:World}{R:World→Prop}{z0:List El}{n:Int}(hd:data.a=some ⟨g,0,none⟩)(hbig:data.len<2305843009213693952)(hc:CmpOk cmp c g w)(hlen:data.len=z0.length)(hn:n=(z0.length:Int))(hB:RowB fc w g z0 tail)
  (hz:z0.Pairwise λx y=>x.2<y.2) (hR: ∀w' M,But g w w'→M.Perm z0→M.Pairwise (Ah c)→RowB fc w' g M tail→R w'):SE.Z0 data n cmp w R:=by
 unfold SE.Z0
 subst hn
 have refl:But g w w:=⟨Nat.le_refl _,rfl,rfl,rfl,λ_ _ _=>rfl⟩
 refine⟨λa b w'=>∃(k:Nat) (z:List El),a=((k*20:Nat):Int)∧b=((k*20+20:Nat):Int)∧k*20≤z0.length∧z.length=z0.length∧z.drop (k*20)=z0.drop (k*20)∧Chunks c 20 z z0 k∧But g w w'∧RowB fc w' g z tail,
  λa _ _=>z0.length - a.toNat,⟨0,z0,rfl,rfl,oM,rfl,rfl,⟨λi h=>by omega,λi h=>by omega⟩,refl,hB⟩,?_⟩
 rintro _ _ w1 ⟨k,z,rfl,rfl,hk,hzl,hdr,hch,b1,hB1⟩
 have la:(z.take (k*20)).length=k*20:=by rw[List.length_take]; omega
 refine⟨λhle=>?_,λhgt=>?_⟩
 ·have hsg:sg z (k*20) 20=sg z0 (k*20) 20:=by unfold sg; rw[hdr]
  have hs:=Znd z (k*20) 20
  have hsl:(sg z (k*20) 20).length=20:=Zmv oM
  rw[hs]at hB1
  refine SE.Zj.go (Zgg hO (A:=z.take (k*20)) (M0:=sg z (k*20) 20) (B:=z.drop (k*20+20)) (hc.but b1) hd (by rw[←hs,hzl]; exact hlen) oM hB1 (by rw[la]) (by rw[la,hsl]) (by rw[hsg]; exact hz.sublist ((List.take_sublist _ _).trans (List.drop_sublist _ _))) λw2 M b2 hp hso hB2=>⟨rfl,?_⟩)
  have hMl:M.length=20:=by rw[hp.length_eq,hsl]
  rw[Zc oM oM]
  refine⟨⟨k+1,z.take (k*20)++M++z.drop (k*20+20),oM,oM,oM,?_,?_,?_,b1.trans b2,hB2⟩,by show _ - Int.toNat _<_ - Int.toNat _; omega⟩
  ·simp only[List.length_append,List.length_drop,la,hMl]; omega
  ·rw[List.drop_left' (by rw[List.length_append,la,hMl]; omega),show k*20+20=(k+1)*20 by omega]
   rw[show(k+1)*20=k*20+20 by omega,←List.drop_drop,hdr,List.drop_drop]
  ·constructor
   ·intro i hi
    rcases Nat.lt_succ_iff_lt_or_eq.1 hi with h|rfl
    ·rw[Zdu (by rw[la]; omega)]
     have:=hch.perm i h
     rw[hs,Zdu (by rw[la]; omega)]at this
     exact this
    ·rw[Zmk la hMl,←hsg]; exact hp
   ·intro i hi
    rcases Nat.lt_succ_iff_lt_or_eq.1 hi with h|rfl
    ·rw[Zdu (by rw[la]; omega)]
     have:=hch.sort i h
     rw[hs,Zdu (by rw[la]; omega)]at this
     exact this
    ·rw[Zmk la hMl]; exact hso
 ·have hs:z=z.take (k*20)++z.drop (k*20)++ []:=by rw[List.append_nil,List.take_append_drop]
  have hdl:(z.drop (k*20)).length=z0.length - k*20:=by rw[List.length_drop,hzl]
  rw[hs]at hB1
  refine SE.Zj.go (Zgg hO (A:=z.take (k*20)) (M0:=z.drop (k*20)) (B:=[]) (hc.but b1) hd (by rw[←hs,hzl]; exact hlen) oM hB1 (by rw[la]) (by rw[la,hdl]; omega) (by rw[hdr]; exact hz.sublist (List.drop_sublist _ _)) λw2 M b2 hp hso hB2=>⟨rfl,?_⟩)
  have hMl:M.length=z0.length - k*20:=by rw[hp.length_eq,hdl]
  rw[List.append_nil]at hB2
  have hch0: ∀j,Chunks c 20 (z.take (k*20)++M) z0 j:=λj=>by
   have hsg:sg z (k*20) 20=z.drop (k*20):=by unfold sg; rw[List.take_of_length_le oM]
   have hsg0:sg z0 (k*20) 20=z0.drop (k*20):=by unfold sg; rw[List.take_of_length_le (by rw[List.length_drop]; omega)]
   constructor
   ·intro i _
    rcases Nat.lt_trichotomy i k with h|rfl|h
    ·have:=hch.perm i h
     rw[hs,Zdu (by rw[la]; omega)]at this
     rw[←List.append_nil (z.take (k*20)++M),Zdu (by rw[la]; omega)]
     exact this
    ·rw[Zmj la oM,hsg0,←hdr]; exact hp
    ·have:k+1≤i:=h
     rw[Zh6 (by rw[List.length_append,la]; omega),Zh6 oM]
   ·intro i _
    rcases Nat.lt_trichotomy i k with h|rfl|h
    ·have:=hch.sort i h
     rw[hs,Zdu (by rw[la]; omega)]at this
     rw[←List.append_nil (z.take (k*20)++M),Zdu (by rw[la]; omega)]
     exact this
    ·rw[Zmj la oM]; exact hso
    ·have:k+1≤i:=h
     rw[Zh6 (by rw[List.length_append,la]; omega)]
     exact .nil
  have hzl1:(z.take (k*20)++M).length=z0.length:=by rw[List.length_append,la]; omega
  generalize z.take (k*20)++M=z1 at*
  have b02:=b1.trans b2
  clear hp hso hMl
  refine⟨λbs w'=>∃(s:Nat) (z:List El),bs=(s:Int)∧0<s∧s<2*z0.length+40∧z.length=z0.length∧(∀j,Chunks c s z z0 j)∧But g w w'∧RowB fc w' g z tail,λbs _=>2*z0.length+40 - bs.toNat,⟨20,z1,rfl,oM,oM,hzl1,hch0,b02,hB2⟩,?_⟩
  rintro _ w3 ⟨s,z2,rfl,hs0,hsb,hzl2,hch2,b3,hB3⟩
  refine⟨λhlt=>?_,λhge=>?_⟩
  ·have hsn:s<z0.length:=oM
   rw[Zc (x:=2*(s:Int)) oM oM]
   refine⟨λa b w'=>∃(k:Nat) (z:List El),a=((k*(2*s):Nat):Int)∧b=((k*(2*s)+2*s:Nat):Int)∧k*(2*s)≤z0.length∧z.length=z0.length∧z.drop (k*(2*s))=z2.drop (k*(2*s))∧Chunks c (2*s) z z0 k∧But g w w'∧RowB fc w' g z tail,
    λa _ _=>z0.length - a.toNat,⟨0,z2,by simp,by simp,oM,hzl2,by simp,⟨λi h=>by omega,λi h=>by omega⟩,b3,hB3⟩,?_⟩
   rintro _ _ w4 ⟨k,z,rfl,rfl,hk,hzl4,hdr4,hch4,b4,hB4⟩
   generalize hK:k*(2*s)=K at*
   have la4:(z.take K).length=K:=by rw[List.length_take]; omega
   have e2k:2*k*s=K:=by rw[←hK,Nat.mul_comm 2 k,Nat.mul_assoc]
   have e2k1:(2*k+1)*s=K+s:=by rw[Nat.add_mul,e2k,Nat.one_mul]
   have p1:=(hch2 (2*k+2)).perm (2*k) oM; have p2:=(hch2 (2*k+2)).perm (2*k+1) oM
   have s1:=(hch2 (2*k+2)).sort (2*k) oM; have s2:=(hch2 (2*k+2)).sort (2*k+1) oM
   rw[e2k]at p1 s1; rw[e2k1]at p2 s2
   have g1:sg z K s=sg z2 K s:=by unfold sg; rw[hdr4]
   have g2:sg z (K+s) s=sg z2 (K+s) s:=by unfold sg; rw[←List.drop_drop,hdr4,List.drop_drop]
   rw[←g1]at p1 s1; rw[←g2]at p2 s2
   have hids: ∀x∈sg z K s,∀y∈sg z (K+s) s,x.2<y.2:=λx hx y hy=>ids hz nR x (p1.mem_iff.1 hx) y (p2.mem_iff.1 hy)
   have wks:Za ((K:Int)+(s:Int))=((K+s:Nat):Int):=by rw[Zc oM oM]; omega
   have grow: ∀(z' M B:List El) (m:Nat),z'=z.take K++M++B→M.length=m→M.Perm (sg z K s++sg z (K+s) s)→M.Pairwise (Ah c)→(m=2*s∨B= [])→m≤2*s→Chunks c (2*s) z' z0 (k+1):=λz' M B m hz' hm hp hso hmB hm2=>by
    have e:sg z' K (2*s)=M:=by
     subst hz'
     rcases hmB with h|h
     ·exact Zmk la4 oM
     ·subst h; rw[List.append_nil]; exact Zmj la4 oM
    have e0:sg z0 K (2*s)=sg z0 K s++sg z0 (K+s) s:=by rw[show 2*s=s+s by omega,Zp8]
    have el: ∀i,i<k→sg z' (i*(2*s)) (2*s)=sg z (i*(2*s)) (2*s):=λi h=>by
     have hle:i*(2*s)+2*s≤K:=by
      have:=Nat.mul_le_mul_right (2*s) (show i+1≤k from h)
      rw[Nat.add_mul,hK,Nat.one_mul]at this; exact this
     have h1:sg z (i*(2*s)) (2*s)=sg (z.take K) (i*(2*s)) (2*s):=by
      conv=>lhs; rw[show z=z.take K++z.drop K++ [] by rw[List.append_nil,List.take_append_drop]]
      exact Zdu (by rw[la4]; exact hle)
     rw[h1,hz',Zdu (by rw[la4]; exact hle)]
    constructor
    ·intro i hi
     rcases Nat.lt_succ_iff_lt_or_eq.1 hi with h|rfl
     ·rw[el i h]; exact hch4.perm i h
     ·rw[hK,e,e0]; exact hp.trans (p1.append p2)
    ·intro i hi
     rcases Nat.lt_succ_iff_lt_or_eq.1 hi with h|rfl
     ·rw[el i h]; exact hch4.sort i h
     ·rw[hK,e]; exact hso
   refine⟨λhle=>?_,λhgt4=>?_⟩
   ·have hs4:z=z.take K++sg z K s++sg z (K+s) s++z.drop (K+2*s):=by
     have:=Znd z K (2*s)
     rw[show 2*s=s+s by omega,Zp8]at this
     rw[show 2*s=s+s by omega]
     simpa only[List.append_assoc]using this
    have l1:(sg z K s).length=s:=Zmv oM
    have l2:(sg z (K+s) s).length=s:=Zmv oM
    rw[wks]
    rw[hs4]at hB4
    refine SE.Zp.go (Zd6 hO hd oM _ (P:=z.take K) (L:=sg z K s) (X:=sg z (K+s) s) (Q:=z.drop (K+2*s)) nR (hc.but b4) (by rw[←hs4,hzl4]; exact hlen) hB4 (by rw[la4]) (by rw[la4,l1]) (by rw[la4,l1,l2]; omega) oM oM s1 s2 hids λw5 M b5 hp hso hB5=>⟨rfl,?_⟩)
    have hMl:M.length=2*s:=by rw[hp.length_eq,List.length_append]; omega
    rw[Zc oM oM]
    have hK1:(k+1)*(2*s)=K+2*s:=by rw[Nat.add_mul,hK,Nat.one_mul]
    refine⟨⟨k+1,z.take K++M++z.drop (K+2*s),oM,oM,oM,?_,?_,grow _ M _ (2*s) rfl hMl hp hso (.inl rfl) nR,b4.trans b5,hB5⟩,by show _ - Int.toNat _<_ - Int.toNat _; omega⟩
    ·simp only[List.length_append,List.length_drop,la4,hMl]; omega
    ·rw[hK1,List.drop_left' (by rw[List.length_append,la4,hMl]),←List.drop_drop,hdr4,List.drop_drop]
   ·refine join.named λJ hJ=>?_
    have kJ: ∀w' z',But g w w'→z'.length=z0.length→Chunks c (2*s) z' z0 (k+1)→RowB fc w' g z' tail→J w':=λw' z' b' hl' hch' hB'=>by
     subst hJ
     have e:Za ((s:Int)*2)=((2*s:Nat):Int):=by rw[Zc oM oM]; omega
     rw[e]
     have hK1:(k+1)*(2*s)=K+2*s:=by rw[Nat.add_mul,hK,Nat.one_mul]
     refine⟨⟨2*s,z',rfl,oM,oM,hl',λj=>⟨λi _=> ?_,λi _=> ?_⟩,b',hB'⟩,by show _ - Int.toNat _<_ - Int.toNat _; omega⟩
     ·by_cases h:i<k+1
      ·exact hch'.perm i h
      ·have:=Nat.mul_le_mul_right (2*s) (show k+1≤i by omega)
       rw[Zh6 oM,Zh6 oM]
     ·by_cases h:i<k+1
      ·exact hch'.sort i h
      ·have:=Nat.mul_le_mul_right (2*s) (show k+1≤i by omega)
       rw[Zh6 oM]
       exact .nil
    rw[wks]
    have hdK:z.drop K=sg z K s++sg z (K+s) s:=by
     rw[←Zp8]; unfold sg; rw[List.take_of_length_le (by rw[List.length_drop]; omega)]
    refine⟨λhlt4=>?_,λhge4=>?_⟩
    ·have hs4:z=z.take K++sg z K s++sg z (K+s) s++ []:=by
      rw[List.append_nil,List.append_assoc,←hdK,List.take_append_drop]
     have l1:(sg z K s).length=s:=Zmv oM
     have l2:(sg z K s).length+(sg z (K+s) s).length=z0.length - K:=by rw[←List.length_append,←hdK,List.length_drop,hzl4]
     rw[hs4]at hB4
     refine SE.Zp.go (Zd6 hO hd oM _ (P:=z.take K) (L:=sg z K s) (X:=sg z (K+s) s) (Q:=[]) nR (hc.but b4) (by rw[←hs4,hzl4]; exact hlen) hB4 (by rw[la4]) (by rw[la4,l1]) (by rw[la4]; omega) oM oM s1 s2 hids λw5 M b5 hp hso hB5=>⟨rfl,?_⟩)
     have hMl:M.length=z0.length - K:=by rw[hp.length_eq,List.length_append]; exact l2
     exact kJ w5 _ (b4.trans b5) (by simp only[List.length_append,List.length_nil,la4,hMl]; omega) (grow _ M [] _ rfl hMl hp hso (.inr rfl) oM) hB5
    ·have e0:sg z (K+s) s= []:=Zh6 oM
     refine kJ w4 z b4 hzl4 (grow z (z.drop K) [] _ (by rw[List.append_nil,List.take_append_drop]) rfl (by rw[hdK]) ?_ (.inr rfl) (by rw[List.length_drop]; omega)) hB4
     rw[hdK,e0,List.append_nil]; exact s1
  ·have e:sg z2 (0*s) s=z2:=by rw[Nat.zero_mul]; unfold sg; rw[List.drop_zero,List.take_of_length_le oM]
   have e0:sg z0 (0*s) s=z0:=by rw[Nat.zero_mul]; unfold sg; rw[List.drop_zero,List.take_of_length_le oM]
   have p:=(hch2 1).perm 0 oM; have so:=(hch2 1).sort 0 oM
   rw[e]at p so
   rw[e0]at p
   exact hR w3 z2 b3 p so hB3
theorem sortStable_se(hO:Ord3 c){data:Sl}{tail:List Value}{w:World}{R:World→Prop}{l:List WantC}(hd:data.a=some ⟨g,0,none⟩)(hbig:data.len<2305843009213693952)(hc:CmpOk cmp c g w)(hlen:data.len=l.length)(hB:RowB cells w g l tail)
  (hR: ∀w',But g w w'→RowB cells w' g (Zb0 c l) tail→R w'):SE.Zh data cmp w R:=by
 unfold SE.Zh
 have hB':RowB fc w g (nums 0 l) tail:=by
  unfold RowB at hB ⊢
  have:(nums 0 l).map fc=l.map cells:=by
   have h:=congrArg (List.map cells) (Zm9 0 l)
   rw[List.map_map]at h; exact h
  rw[this]; exact hB
 refine SE.Z0.go (Zos hO hd hbig hc (by rw[Zna]; exact hlen) (by rw[Zna,hlen]) hB' (Zlk 0 l) λw2 M b2 hp hs hB2=>⟨rfl,hR w2 b2 ?_⟩)
 have e:=Zs8 hO hp hs
 unfold RowB at hB2 ⊢
 have:M.map fc=(Zb0 c l).map cells:=by rw[←e,List.map_map]; rfl
 rw[←this]; exact hB2
theorem sortStable_nil{data:Sl}{w:World}{R:World→Prop}(h0:data.len=0)(hR:R w):SE.Zh data cmp w R:=by
 unfold SE.Zh
 rw[h0]
 refine SE.Z0.go ?_
 unfold SE.Z0
 refine⟨λa b w'=>a=0∧b=20∧w'=w,λ_ _ _=>0,⟨rfl,rfl,rfl⟩,?_⟩
 rintro _ _ w1 ⟨rfl,rfl,hw1⟩
 subst hw1
 refine⟨λh=>by simp at h,λ_=>SE.Zj.go ?_⟩
 unfold SE.Zj
 refine⟨λa w'=>a=1∧w'=w1,λ_ _=>0,⟨by decide,rfl⟩,?_⟩
 rintro _ w2 ⟨rfl,hw2⟩
 subst hw2
 refine⟨λh=>by simp at h,λ_=>⟨rfl,?_⟩⟩
 refine⟨λa w'=>a=20∧w'=w2,λ_ _=>0,⟨rfl,rfl⟩,?_⟩
 rintro _ w3 ⟨rfl,hw3⟩
 subst hw3
 exact⟨λh=>by simp at h,λ_=>⟨rfl,hR⟩⟩
end
end StW
end Go.Hal
namespace Go.Hal
open Go.Proofs.Tryz
open Go Go.RowKit Go.Proofs Go.Shelf
def Zo1(l:List Pack):List Pack:=l.foldl (λL x=>(Ze9 L x).2) []
theorem Zwg(l:List Pack)(x:Pack):Zo1 (l++ [x])=(Ze9 (Zo1 l) x).2:=by unfold Zo1; rw[List.foldl_append]; rfl
theorem CatL.stay{w w':World}{S:Nat→Prop}{p:Addr}{r:Nat}{L:List Pack}(h:CatL w S p r L)(hsz:w.heap.size≤w'.heap.size)(hk: ∀b,b<w.heap.size→(S b∨b=p.block∨b=r)→w'.heap[b]? =w.heap[b]?):CatL w' S p r L:=by
 obtain⟨ps,a,b,c⟩:=h
 exact⟨ps,a.stay hsz hk,b,c⟩
theorem CatL.lt{w:World}{S:Nat→Prop}{p:Addr}{r:Nat}{L:List Pack}(h:CatL w S p r L):r<w.heap.size∧p.block<w.heap.size∧(∀b,S b→b<w.heap.size)∧ ¬S r∧ ¬S p.block∧p.block≠r:=by
 obtain⟨ps,a,_⟩:=h
 obtain⟨m,hm,_⟩:=a.map
 exact⟨hm.lt,a.box.lt,a.old,a.free.1,a.free.2,a.ne⟩
structure Both(w:World)(lo:Nat)(SA:Nat→Prop)(p:Addr)(r:Nat)(q:Addr)(L:List Pack):Prop where
 cat: ∃S,CatL w S p r L∧(∀b,S b→lo≤b)∧ ¬S q.block
 ref: ∃S,RefR w S q L∧(∀b,S b→SA b∨lo≤b)∧ ¬S r
 le:lo≤r∧lo≤p.block∧lo≤q.block
 ne:q.block≠p.block∧q.block≠r
theorem Zjj{α:Type}{E:Enc α}{w:World}{S:Nat→Prop}{a:Addr}{cs:List Value}{x:α}(hb:BoxAt w a cs)(hx:E.rep w S x cs)(hB:E.bytes≤room):SlR E w (λb=>S b∨b=a.block) ⟨some a,1,1⟩ [x]:=
 ⟨rfl,Nat.le_refl _,by show 1≤maxLen; rw[Zb]; omega,by simpa using hB,.inr ⟨a,rfl,.inr rfl,λi y hy=>by
  cases i with
  |zero=>
   simp only[List.getElem?_cons_zero,Option.some.injEq]at hy
   subst hy
   exact⟨cs,E.mono hx λ_ h=>.inl h,by rw[Nat.zero_mul]; exact hb.ldc⟩
  |succ i=>simp at hy⟩⟩
theorem FlatO.pins{w:World}{lo:Nat}{s:Sl}{l:List Pin}(h:FlatO pinC 40 w lo s l)(hs: ∀q∈l,Str q.name):SlR pinE w (λb=>lo≤b∧b<w.heap.size) s l:=
 FlatO.read (E:=pinE) h (λ_=>rfl) λ_ _ x hx=>⟨rfl,hs x hx⟩
theorem Z0m{α β:Type}{c:β→β→Int}{d:α→α→Int}(f:α→β){x:α}{l:List α}(h: ∀y∈l,c (f x) (f y)=d x y):(Ze3 d x l).map f=Ze3 c (f x) (l.map f):=by
 induction l with
 |nil=>rfl
 |cons y r ih=>
  rw[List.map_cons,Ze3,Ze3,h y (.head _)]
  by_cases h1:d x y≤0
  ·rw[if_pos h1,if_pos h1]; rfl
  ·rw[if_neg h1,if_neg h1,List.map_cons,ih λz hz=>h z (.tail _ hz)]
theorem Zqc{α β:Type}{c:β→β→Int}{d:α→α→Int}(f:α→β){l:List α}(h: ∀x∈l,∀y∈l,c (f x) (f y)=d x y):(Zb0 d l).map f=Zb0 c (l.map f):=by
 induction l with
 |nil=>rfl
 |cons x r ih=>
  rw[List.map_cons,Zb0,Zb0,←ih λa ha b hb=>h a (.tail _ ha) b (.tail _ hb)]
  exact Z0m f λy hy=>h x (.head _) y (.tail _ ((Zeq r).mem_iff.1 hy))
def wantT:Enc (Want×(Nat→Prop)) where
 n:=3
 bytes:=48
 rep:=λw S x cs=>wantP.rep w x.2 x.1 cs∧ ∀b,x.2 b→S b
 len:=λh=>wantP.len h.1
 one:=λh v hv=>wantP.one h.1 v hv
 mono:=λh hs=>⟨h.1,λb hb=>hs b (h.2 b hb)⟩
 keep:=λh hk=>⟨wantP.keep h.1 λb hb hl=>hk b (h.2 b hb) hl,h.2⟩
def Z6d(p q:Want×(Nat→Prop)):Prop:=∀b,p.2 b→ ¬q.2 b
def SepW(w:World)(S:Nat→Prop)(s:Sl)(L:List Want):Prop:=
 s.len=L.length∧s.cap=L.length∧(L= []∨ ∃(g:Nat) (tail:List Value) (z:List (WantC×(Want×(Nat→Prop)))),s.a=some ⟨g,0,none⟩∧S g∧RowB StW.cells w g (z.map Prod.fst) tail∧(z.map λq=>q.2.1)=L∧
  (∀q∈z,q.1.name=q.2.1.name∧q.1.kind=q.2.1.kind∧wantP.rep w q.2.2 q.2.1 (StW.cells q.1)∧ ∀b,q.2.2 b→S b∧b≠g)∧z.Pairwise λp q=>∀b,p.2.2 b→ ¬q.2.2 b)
def AllI(w:World)(lo:Nat)(out:Sl)(M:List Want):Prop:=
 ∃(vis:List (Want×(Nat→Prop))) (Q:Nat→Prop),OwnS wantT 177 w lo Q out vis∧vis.map Prod.fst=M∧(∀b,Q b→lo≤b)∧vis.Pairwise Z6d∧ ∀q∈vis,∀b,q.2 b→Q b
theorem AllI.ext{w w':World}{lo:Nat}{out:Sl}{M:List Want}(h:AllI w lo out M)(hx:Ext w w'):AllI w' lo out M:=by
 obtain⟨vis,Q,a,b,c,d,e⟩:=h
 exact⟨vis,Q,a.ext hx,b,c,d,e⟩
theorem AllI.zero(w:World):AllI w w.heap.size Sl.nil []:=⟨[],None',OwnS.nil _ _,rfl,λ_ h=>h.elim,.nil,λ_ h=>by cases h⟩
theorem AllI.push{w0 w:World}{lo:Nat}{out u:Sl}{M:List Want}{x:Want}{a:Addr}{K:Sl→World→Prop}(h:AllI w0 lo out M)(hx:Ext w0 w)(hlo:lo≤w0.heap.size)(hN:Str x.name)(hu:SlP spanE w (λb=>w0.heap.size≤b∧b<w.heap.size) u x.range)(hb:BoxAt w a [.string x.name,.int .i64 x.kind,u.v])(hm:(M.length+1)*48≤room)
  (hK: ∀r w',Below lo w w'→AllI w' lo r (M++ [x])→K r w'):appS prog 108 108 out (Sl.v ⟨some a,1,1⟩) w K:=by
 obtain⟨vis,Q,own,rfl,hQ,hdj,hvQ⟩:=h
 have s:=hx.size
 have eb:wantT.bytes=48:=rfl
 rw[List.length_map]at hm
 have hm2:vis.length+1≤9000000000000:=by unfold room at hm; omega
 refine(own.ext hx).push Zu6 (Nat.le_trans hlo s) (x:=(x,λb=>w0.heap.size≤b∧b<w.heap.size)) (S':=λb=>w0.heap.size≤b∧b<w.heap.size) ⟨⟨hN,u,rfl,hu⟩,λ_ h=>h⟩ (hb.ldc.pre (r:=[]) rfl) (λb hb=>hb.2) (λad ha hb=>by have:=(own.block ha).2.1; omega) (by rw[eb]; exact hm) (by rw[Zb]; omega) λr w' own' bel _ _=>hK r w' bel ⟨_,_,own',by rw[List.map_append]; rfl,λb hb=>?_,?_,λq hq b hb=>?_⟩
 ·rcases hb with hb|hb
  ·exact hQ b hb
  ·omega
 ·refine List.pairwise_append.2 ⟨hdj,List.pairwise_singleton _ _,λq hq y hy b hb hc=>?_⟩
  rw[List.mem_singleton]at hy
  subst hy
  have h1:=own.lt b (hvQ q hq b hb)
  have h2:w0.heap.size≤b∧b<w.heap.size:=hc
  omega
 ·rcases List.mem_append.1 hq with hq|hq
  ·exact .inl (hvQ q hq b hb)
  ·rw[List.mem_singleton]at hq
   subst hq
   exact .inr hb
def depsE:Enc (List Dep) where
 n:=1
 bytes:=24
 rep:=λw S l cs=>∃t:Sl,cs= [t.v]∧SlR depE w S t l
 len:=λ⟨_,h,_⟩=>by rw[h]; rfl
 one:=λ⟨_,h,_⟩ v hv=>by rw[h]at hv; simp[Sl.v]at hv; subst hv; rfl
 mono:=λ⟨t,h,hr⟩ hs=>⟨t,h,hr.mono hs⟩
 keep:=λ⟨t,h,hr⟩ hk=>⟨t,h,hr.keep hk⟩
theorem Zt0:Zfv prog 147:=enters_of func147 kR rfl
def cWC(a b:WantC):Int:=cmpS a.name b.name
theorem Z4h:Ord3 cWC:=Zgb WantC.name
theorem Z4c(g:Nat)(w:World):StW.CmpOk (.func (.func 147) #[] #[]) cWC g w:=by
 intro x y w1 k _ hk
 refine⟨_,_,rfl,Zt0,SE.Zjf.go ?_⟩
 unfold SE.Zjf
 exact newS.intro λa w2 x2 ha _ _=>newS.intro λa1 w3 x3 ha1 _ _=>⟨x.name,BoxAt.at0 ha x3 rfl,y.name,BoxAt.at0 ha1 xR rfl,Zja ⟨_,rfl,hk _ (x2.trans x3)⟩⟩
theorem Z6h{w w1:World}{out:Sl}{M:List Want}{R:Sl→World→Prop}(hI:AllI w1 w.heap.size out M)(hx:Ext w w1)(hb:M.length*48≤room)
  (hR: ∀t w',Ext w w'→SepW w' (λb=>w.heap.size≤b∧b<w'.heap.size) t (Zb0 cW M)→R t w'):
  callS prog 146 [Sl.v out,Value.func (.func 147) #[] #[]] w1 λv39 vw38=>v39=(Value.tuple #[])∧callS prog 148 [Sl.v out] vw38 λv42 vw41=>∃(t56:Sl),v42=(Sl.v t56)∧R t56 vw41:=by
 obtain⟨vis,Q,own,rfl,hQ,hdj,hvQ⟩:=hI
 rw[List.length_map]at hb
 have hol:=own.len
 have hsmall:vis.length≤9000000000000:=by unfold room at hb; omega
 have hf: ∀(x:Want×(Nat→Prop)) cs,wantT.rep w1 Q x cs→ ∃y:WantC,cs=StW.cells y∧(y.name=x.1.name∧y.kind=x.1.kind∧wantT.rep w1 Q x (StW.cells y)):=λx cs h=>by
  obtain⟨⟨hN,s,rfl,a⟩,hTQ⟩:=h
  exact⟨⟨x.1.name,x.1.kind,s⟩,rfl,rfl,rfl,⟨hN,s,rfl,a⟩,hTQ⟩
 rcases OwnS.rowG StW.cells (λ(y:WantC) (x:Want×(Nat→Prop))=>y.name=x.1.name∧y.kind=x.1.kind∧wantT.rep w1 Q x (StW.cells y)) hf own with⟨ho,hv⟩|⟨g,zz,tail,ha,hgl,hzz,hrel,hrow,hcap,hmax⟩
 ·subst ho hv
  refine SE.Zh.go (StW.sortStable_nil rfl ⟨rfl,SE.Zb3.go ⟨⟨by decide,by decide,by decide,by decide⟩,_,rfl,hR _ _ hx ?_⟩⟩)
  exact⟨rfl,rfl,.inl rfl⟩
 ·have hzl:zz.length=vis.length:=by rw[←hzz,List.length_map]
  have hlen:out.len=(zz.map Prod.fst).length:=by rw[List.length_map,hzl]; exact hol
  refine SE.Zh.go (StW.sortStable_se Z4h ha (by rw[hol]; omega) (Z4c g w1) hlen hrow λw2 b2 hr2=>⟨rfl,?_⟩)
  have hfst:(Zb0 (λp q:WantC×(Want×(Nat→Prop))=>cWC p.1 q.1) zz).map Prod.fst=Zb0 cWC (zz.map Prod.fst):=Zqc (c:=cWC) Prod.fst λ_ _ _ _=>rfl
  have hsnd:(Zb0 (λp q:WantC×(Want×(Nat→Prop))=>cWC p.1 q.1) zz).map (λq:WantC×(Want×(Nat→Prop))=>q.2.1)=Zb0 cW (zz.map λq=>q.2.1):=Zqc (c:=cW) (λq:WantC×(Want×(Nat→Prop))=>q.2.1) λx hx y hy=>by
   unfold cW cWC
   rw[(hrel x hx).1,(hrel y hy).1]
  have hM:(zz.map λq=>q.2.1)=vis.map Prod.fst:=by rw[←hzz,List.map_map]; rfl
  rw[hM]at hsnd
  rw[←hfst]at hr2
  have hperm:=Zeq (c:=λp q:WantC×(Want×(Nat→Prop))=>cWC p.1 q.1) zz
  generalize Zb0 (λp q:WantC×(Want×(Nat→Prop))=>cWC p.1 q.1) zz=zs at*
  have hzsl:zs.length=zz.length:=hperm.length_eq
  have hQg: ¬Q g:=own.apart _ ha
  have x2:Ext w w2:=hx.trans' (b2.below hx.size hgl)
  have hlt2:g<w2.heap.size:=hr2.lt
  have s2:=b2.1
  refine SE.Zb3.go ⟨⟨oM,oM,oM,oM⟩,_,rfl,hR _ _ x2 ?_⟩
  have hdz:zs.Pairwise λp q=>∀b,p.2.2 b→ ¬q.2.2 b:=by
   have h1:(zz.map Prod.snd).Pairwise Z6d:=by rw[hzz]; exact hdj
   rw[List.pairwise_map]at h1
   exact(hperm.pairwise_iff λ{x y} h b hb hc=>h b hc hb).2 h1
  refine⟨?_,?_,.inr ⟨g,tail,zs,?_,⟨hgl,hlt2⟩,hr2,hsnd,λq hq=>?_,hdz⟩⟩
  ·show(out.len:Int).toNat - 0=_
   rw[Zki,List.length_map,hol]; simp
  ·show(out.len:Int).toNat - 0=_
   rw[Zki,List.length_map,hol]; simp
  ·show(if _ then _ else _)=_
   split
   ·exact ha
   ·rw[ha,Nat.zero_mul]; rfl
  ·obtain⟨k1,k2,k3,k4⟩:=hrel q (hperm.mem_iff.1 hq)
   refine⟨k1,k2,wantP.keep k3 (b2.keep λh=>hQg (k4 g h)),λb hb=>⟨⟨hQ b (k4 b hb),?_⟩,λe=>hQg (e▸k4 b hb)⟩⟩
   have:=own.lt b (k4 b hb); omega
theorem Zow{mD mDev mOpt mOv must may:Sl}{ms:List (List Dep)}{ml over:List Dep}{S:Nat→Prop}{w:World}{R:Sl→World→Prop}(hS:Old S w)(hV:SlR depE w S mOv over)(hM:SlR depsE w S must ms)(hY:SlR depE w S may ml)(hb:(ms.flatten.length+ml.length)*48≤room)
  (hR: ∀t w',Ext w w'→SepW w' (λb=>w.heap.size≤b∧b<w'.heap.size) t (Zgs over ms.flatten ml)→R t w'):SE.Ziw mD mDev mOpt mOv must may w R:=by
 unfold SE.Ziw
 have hMl:=hM.len
 have hYl:=hY.len
 refine newS.intro λa w1 x1 ha _ _=> ?_
 have s1:=x1.size
 refine loop2.up hM.max (λout i w'=>Ext w1 w'∧AllI w' w1.heap.size out ((ms.take i).flatten.map (Zhw 1 over))) ⟨Ext.refl _,AllI.zero _⟩ λout i w2 nxt hi ⟨x2,hI2⟩ hn=>⟨λhlt=>?_,λhge=>?_⟩
 ·have hlt':i<ms.length:=oM
  obtain⟨ad,cs,hma,_,⟨t,rfl,ht⟩,hc⟩:=hM.el hlt'
  have htl:=ht.len
  have hsum:(ms.take (i+1)).flatten=(ms.take i).flatten++ms[i]:=by rw[List.take_succ_eq_append_getElem hlt',List.flatten_append,List.flatten_cons,List.flatten_nil,List.append_nil]
  have hsub:(ms.take i).flatten.length+ms[i].length≤ms.flatten.length:=by
   rw[←List.length_append,←hsum]
   have:ms.flatten=(ms.take (i+1)).flatten++(ms.drop (i+1)).flatten:=by rw[←List.flatten_append,List.take_append_drop]
   rw[this,List.length_append]; omega
  refine⟨ad,⟨hma,oM,hlt⟩,t,(hc _ (x1.trans x2)).pre (r:=[]) rfl,?_⟩
  refine loop2.up ht.max (λout k w'=>Ext w1 w'∧AllI w' w1.heap.size out (((ms.take i).flatten++ms[i].take k).map (Zhw 1 over))) ⟨x2,by rw[List.take_zero,List.append_nil]; exact hI2⟩ λout2 k w3 nxt2 hk ⟨x3,hI3⟩ hn2=>⟨λhklt=>?_,λhkge=>?_⟩
  ·have hk':k<ms[i].length:=oM
   have x03:=x1.trans x3
   obtain⟨ad5,u,hta,_,hN,hr,hcd⟩:=Zhg ht hk'
   refine⟨ad5,⟨hta,oM,hklt⟩,_,u,hcd _ x03,newS.intro λa8 w4 x4 hb4 ha4 _=>stw0.intro hb4 sI λw5 b5 _ hb5=>bnd.drew λw6 x6=>?_⟩
   have x35:Ext w3 w5:=b5.ext x4 oM
   have x36:=x35.trans x6
   have x06:=x03.trans x36
   refine⟨_,hb5.at0 x6 rfl,mD,mDev,mOpt,mOv,ha.at0 (r:=[]) (x3.trans x36) rfl,_,u,hb5.at0 (r:=[]) x6 rfl,callX.intro (SE.Zfd.go (Zje (hS.ext x06.size) (hV.ext x06) (hr.ext x06) λr7 w7 x7 hu=>⟨x7,_,rfl,newS.intro λa16 w8 x8 hb8 _ _=> ?_⟩))⟩
   have x68:=x7.trans x8
   have s36:=x36.size; have s8:=x8.size; have s3:=x3.size
   refine(hI3.ext x36).push (x:=Zhw 1 over ms[i][k]) x68 oM hN ((hu.ext x8).mono λb hb=>⟨hb.1,oM⟩) hb8 ?_ λr9 w9 bel hI9=>hn2 hk' _ _ ⟨(x3.trans (x36.trans x68)).trans' bel,?_⟩
   ·rw[List.length_map,List.length_append,List.length_take]
    have:((ms.take i).flatten.length+min k ms[i].length+1)*48≤(ms.flatten.length+ml.length)*48:=Nat.mul_le_mul_right _ oM
    omega
   ·rw[List.take_succ_eq_append_getElem hk',←List.append_assoc,List.map_append]
    exact hI9
  ·have:k=ms[i].length:=oM
   rw[this,List.take_length,←hsum]at hI3
   exact hn hlt' _ _ ⟨x3,hI3⟩
 ·have:i=ms.length:=oM
  rw[this,List.take_length]at hI2
  refine loop2.up hY.max (λout k w'=>Ext w1 w'∧AllI w' w1.heap.size out (ms.flatten.map (Zhw 1 over)++(ml.take k).map (Zhw 2 over))) ⟨x2,by rw[List.take_zero,List.map_nil,List.append_nil]; exact hI2⟩ λout2 k w3 nxt2 hk ⟨x3,hI3⟩ hn2=>⟨λhklt=>?_,λhkge=>?_⟩
  ·have hk':k<ml.length:=oM
   have x03:=x1.trans x3
   obtain⟨ad5,u,hta,_,hN,hr,hcd⟩:=Zhg hY hk'
   refine⟨ad5,⟨hta,oM,hklt⟩,_,u,hcd _ x03,newS.intro λa8 w4 x4 hb4 ha4 _=>stw0.intro hb4 sI λw5 b5 _ hb5=>bnd.drew λw6 x6=>?_⟩
   have x35:Ext w3 w5:=b5.ext x4 oM
   have x36:=x35.trans x6
   have x06:=x03.trans x36
   refine⟨_,hb5.at0 x6 rfl,mD,mDev,mOpt,mOv,ha.at0 (r:=[]) (x3.trans x36) rfl,_,u,hb5.at0 (r:=[]) x6 rfl,callX.intro (SE.Zfd.go (Zje (hS.ext x06.size) (hV.ext x06) (hr.ext x06) λr7 w7 x7 hu=>⟨x7,_,rfl,newS.intro λa16 w8 x8 hb8 _ _=> ?_⟩))⟩
   have x68:=x7.trans x8
   have s36:=x36.size; have s8:=x8.size; have s3:=x3.size
   refine(hI3.ext x36).push (x:=Zhw 2 over ml[k]) x68 oM hN ((hu.ext x8).mono λb hb=>⟨hb.1,oM⟩) hb8 ?_ λr9 w9 bel hI9=>hn2 hk' _ _ ⟨(x3.trans (x36.trans x68)).trans' bel,?_⟩
   ·rw[List.length_append,List.length_map,List.length_map,List.length_take]
    have:(ms.flatten.length+min k ml.length+1)*48≤(ms.flatten.length+ml.length)*48:=Nat.mul_le_mul_right _ oM
    omega
   ·rw[List.take_succ_eq_append_getElem hk',List.map_append,←List.append_assoc]
    exact hI9
  ·have:k=ml.length:=oM
   rw[this,List.take_length]at hI3
   refine Z6h hI3 x3 (by rw[List.length_append,List.length_map,List.length_map]; exact hb) λt w' hx hs=>hR _ _ (x1.trans hx) ?_
   obtain⟨k1,k0,k2⟩:=hs
   refine⟨k1,k0,k2.imp id λ⟨g,tail,z,e1,e2,e3,e4,e5,e6⟩=>⟨g,tail,z,e1,⟨oM,e2.2⟩,e3,e4,λq hq=>?_,e6⟩⟩
   obtain⟨f1,f2,f3,f4⟩:=e5 q hq
   exact⟨f1,f2,f3,λb hb=>⟨⟨by have:=(f4 b hb).1.1; omega,(f4 b hb).1.2⟩,(f4 b hb).2⟩⟩
end Go.Hal
