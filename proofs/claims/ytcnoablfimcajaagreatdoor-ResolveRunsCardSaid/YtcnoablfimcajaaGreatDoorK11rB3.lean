/- Lemmas for the claim K11r: how the program's functions run, and what they answer; no condition but those that each theorem names. -/
import Derived.Test.YtcnoablfimcajaaGreatDoorProg
import Derived.Shelf.SlSortCmp.NoneTotal
import Derived.Ground.SlsfProg
import Derived.Test.YtcnoablfimcajaaGreatDoorK11rB2
set_option linter.unusedVariables false
set_option linter.unusedSimpArgs false
set_option maxHeartbeats 16000000
namespace Go.Hal
open Go.Proofs.Tryz
open Go Go.RowKit Go.Proofs
namespace StW
abbrev El : Type:=WantC × Nat
def cells (x : WantC) : List Value:=[.string x.name,.int .i64 x.kind,x.range.v]
def fc (x : El) : List Value:=cells x.1
theorem Zaw (x : El) : (fc x).length = 3:=rfl
def CmpOk (cmp : Value) (c : WantC → WantC → Int) (g : Nat) (w0 : World) : Prop :=
 ∀ (x y : WantC) (w : World) (k : Value → World → Prop),But g w0 w → (∀ w',Ext w w' → k (.int .i64 (c x y)) w') → callV prog cmp [.agg (cells x).toArray,.agg (cells y).toArray] w k
theorem CmpOk.but {cmp : Value} {c : WantC → WantC → Int} {g : Nat} {w0 w1 : World} (h : CmpOk cmp c g w0) (hb : But g w0 w1) : CmpOk cmp c g w1:=fun x y w k hw hk=>h x y w k (hb.trans hw) hk
section
variable {cmp : Value} {c : WantC → WantC → Int} {g : Nat}
theorem Zfa (hO : Ord3 c) {data : Sl} {w : World} {R : World → Prop} {A M0 B : List El} {tail : List Value} {a b : Int} (hc : CmpOk cmp c g w) (hd : data.a = some ⟨g,0,none⟩) (hlen : data.len = (A ++ M0 ++ B).length) (hbig : data.len < 4611686018427387904)
  (hB : RowB fc w g (A ++ M0 ++ B) tail) (ha : a = (A.length : Int)) (hb : b = ((A.length + M0.length : Nat) : Int)) (hM : M0.Pairwise fun x y=>x.2 < y.2)
  (hR : ∀ w' M,But g w w' → M.Perm M0 → M.Pairwise (Ah c) → RowB fc w' g (A ++ M ++ B) tail → R w') : SE.Zl data a b cmp w R:=by
 unfold SE.Zl
 subst ha hb
 simp only [List.length_append] at hlen
 rw [Zb (by omega) (by omega)]
 by_cases h0 : M0 = []
 ·subst h0
  refine ⟨fun i w'=>w' = w ∧ i = (A.length : Int) + 1,fun _ _ => 0,⟨rfl,rfl⟩,?_⟩
  rintro i w' ⟨rfl,rfl⟩
  refine ⟨fun h=>?_,fun _ => hR _ [] ⟨Nat.le_refl _,rfl,rfl,rfl,fun _ _ _ => rfl⟩ (List.Perm.refl _) .nil hB⟩
  simp at h; omega
 have hpos : 0 < M0.length:=List.length_pos_iff.2 h0
 refine ⟨fun i w'=>∃ (n : Nat) (M : List El),i = ((A.length + n : Nat) : Int) ∧ 1 ≤ n ∧ n ≤ M0.length ∧ But g w w' ∧ M.Perm (M0.take n) ∧ M.Pairwise (Ah c) ∧ RowB fc w' g (A ++ M ++ (M0.drop n ++ B)) tail,fun i _ => (A.length + M0.length) - i.toNat,⟨1,M0.take 1,by omega,Nat.le_refl _,hpos,⟨Nat.le_refl _,rfl,rfl,rfl,fun _ _ _ => rfl⟩,List.Perm.refl _,?_,?_⟩,?_⟩
 ·cases M0 with
  | nil=>exact .nil
  | cons x r=>exact List.pairwise_singleton _ _
 ·rw [← List.append_assoc,List.append_assoc A,List.take_append_drop]; exact hB
 rintro i w1 ⟨n,M,rfl,hn1,hn2,b1,hp,hs,hB1⟩
 have hMl : M.length = n:=by rw [hp.length_eq,List.length_take]; omega
 refine ⟨fun hlt=>?_,fun hge=>?_⟩
 ·have hn3 : n < M0.length:=by omega
  have hdrop : M0.drop n = M0[n] :: M0.drop (n + 1):=List.drop_eq_getElem_cons hn3
  have hx : ∀ y ∈ M,y.2 < M0[n].2:=fun y hy=>by
   have hy':=hp.mem_iff.1 hy
   obtain ⟨j,hj,rfl⟩:=List.mem_iff_getElem.1 hy'
   rw [List.length_take] at hj
   rw [List.getElem_take]
   exact List.pairwise_iff_getElem.1 hM j n (by omega) hn3 (by omega)
  rw [hdrop] at hB1
  generalize hX : M0[n] = x at *
  refine ⟨fun j w'=>∃ (M1 M2 : List El),j = ((A.length + M1.length : Nat) : Int) ∧ M1 ++ M2 = M ∧ (∀ y ∈ M2,Ah c x y) ∧ But g w w' ∧ RowB fc w' g (A ++ M1 ++ x :: (M2 ++ (M0.drop (n + 1) ++ B))) tail,fun j _ => j.toNat,⟨M,[],by rw [hMl],by simp,by simp,b1,by simpa using hB1⟩,?_⟩
  rintro j w2 ⟨M1,M2,rfl,hM12,hx2,b2,hB2⟩
  refine bnd.drew fun w3 x3=>bound ?_
  have hB3:=hB2.ext x3
  have b3 : But g w w3:=b2.ext' x3
  have hl12 : M1.length + M2.length = n:=by rw [← hMl,← hM12,List.length_append]
  have fin : ∀ w' w0,But g w w' → RowB fc w' g (A ++ M1 ++ x :: (M2 ++ (M0.drop (n + 1) ++ B))) tail → (∀ y ∈ M1,Ah c y x) → w0 = w' →
    (∃ (n' : Nat) (M' : List El),Za (((A.length + n : Nat) : Int) + 1) = ((A.length + n' : Nat) : Int) ∧ 1 ≤ n' ∧ n' ≤ M0.length ∧ But g w w0 ∧ M'.Perm (M0.take n') ∧ M'.Pairwise (Ah c) ∧ RowB fc w0 g (A ++ M' ++ (M0.drop n' ++ B)) tail) ∧ (A.length + M0.length) - (Za (((A.length + n : Nat) : Int) + 1)).toNat < (A.length + M0.length) - (((A.length + n : Nat) : Int)).toNat:=fun w' w0 b' hB' h1 e=>by
   subst e
   rw [Zb (by omega) (by omega)]
   refine ⟨⟨n + 1,M1 ++ x :: M2,by omega,by omega,by omega,b',?_,?_,by simpa using hB'⟩,by omega⟩
   ·rw [List.take_succ_eq_append_getElem hn3,hX]
    refine (List.perm_middle).trans ?_
    rw [hM12]
    exact (hp.cons x).trans (List.perm_append_singleton x _).symm
   ·rw [← hM12] at hs
    obtain ⟨p1,p2,p3⟩:=List.pairwise_append.1 hs
    refine List.pairwise_append.2 ⟨p1,List.pairwise_cons.2 ⟨hx2,p2⟩,fun y hy z hz=>?_⟩
    rcases List.mem_cons.1 hz with rfl | hz
    ·exact h1 y hy
    ·exact p3 y hy z hz
  rcases List.eq_nil_or_concat M1 with rfl | ⟨M1',y,rfl⟩
  ·have hf : decide ((A.length : Int) < ((A.length + ([] : List El).length : Nat) : Int)) = false:=by simp
   rw [hf]
   refine ⟨⟨g,0,none⟩,(fun h=>by cases h),⟨#[]⟩,0,Sl.nil,(fun h=>by cases h),⟨g,0,none⟩,(fun h=>by cases h),⟨#[]⟩,0,Sl.nil,(fun h=>by cases h),(fun h=>by cases h),fun _ => ⟨(fun h=>by cases h),fun _ => ?_⟩⟩
   exact fin w3 w3 b3 hB3 (by simp) rfl
  ·simp only [List.concat_eq_append] at *
   have hj : decide ((A.length : Int) < ((A.length + (M1' ++ [y]).length : Nat) : Int)) = true:=by simp; omega
   rw [hj]
   have hlM : (M1' ++ [y]).length = M1'.length + 1:=by simp
   have e1 : Za (((A.length + (M1' ++ [y]).length : Nat) : Int) - 1) = ((A.length + M1'.length : Nat) : Int):=by rw [hlM,Zb (by omega) (by omega)]; omega
   rw [e1]
   have hl2 : data.len = A.length + (n + 1 + (M0.drop (n + 1) ++ B).length):=by
    rw [hlen,List.length_append,List.length_drop]; omega
   have eB : A ++ (M1' ++ [y]) ++ x :: (M2 ++ (M0.drop (n + 1) ++ B)) = (A ++ M1') ++ y :: x :: (M2 ++ (M0.drop (n + 1) ++ B)):=by simp
   rw [eB] at hB3
   have ey : (A ++ M1').length = A.length + M1'.length:=List.length_append
   have gy:=hB3.ld' Zaw (Zfl ey)
   have gx:=hB3.ld' Zaw (Zgc (n:=A.length + (M1' ++ [y]).length) (by rw [hlM,ey]; omega))
   have hym : y ∈ M:=by rw [← hM12]; simp
   have hright:=Ah.right hO (hx y hym)
   refine ⟨_,fun _ => ⟨hd,by omega,by omega⟩,_,_,_,fun _ => gx,_,fun _ => ⟨hd,by omega,by omega⟩,_,_,_,fun _ => gy,fun _ => ?_,(fun h=>by cases h)⟩
   refine hc x.1 y.1 w3 _ b3 fun w4 x4=>⟨_,rfl,fun h=>?_,fun h=>?_⟩
   ·simp only [Bool.true_and,decide_eq_true_eq] at h
    refine bnd.drew fun w5 x5=>?_
    have x35:=x4.trans x5
    have hB5:=hB3.ext x35
    have gy5:=hB5.ld' Zaw (Zfl ey)
    have gx5:=hB5.ld' Zaw (Zgc (n:=A.length + (M1' ++ [y]).length) (by rw [hlM,ey]; omega))
    refine ⟨_,⟨hd,by omega,by omega⟩,_,_,_,gy5,_,⟨hd,by omega,by omega⟩,_,_,_,gx5,_,⟨hd,by omega,by omega⟩,hB5.st Zaw (i:=A.length + (M1' ++ [y]).length) (x:=y) (by simp only [List.length_append,List.length_cons,List.length_nil]; omega) fun w6 b6 hB6=>⟨_,⟨hd,by omega,by omega⟩,hB6.st Zaw (i:=A.length + M1'.length) (x:=x) (by simp only [List.length_set,List.length_append,List.length_cons,List.length_nil]; omega) fun w7 b7 hB7=>?_⟩⟩
    have e2 : ((((A ++ M1') ++ y :: x :: (M2 ++ (M0.drop (n + 1) ++ B))).set (A.length + (M1' ++ [y]).length) y).set (A.length + M1'.length) x) = (A ++ M1') ++ x :: y :: (M2 ++ (M0.drop (n + 1) ++ B)):=by
     have:=Zj4 (A ++ M1') (M2 ++ (M0.drop (n + 1) ++ B)) y x
     rw [ey] at this
     rw [hlM,← Nat.add_assoc]; exact this
    rw [e2] at hB7
    refine ⟨⟨M1',y :: M2,rfl,by rw [← hM12]; simp,fun z hz=>?_,((b3.ext' x35).trans b6).trans b7,by simpa using hB7⟩,by rw [hlM]; omega⟩
    rcases List.mem_cons.1 hz with rfl | hz
    ·exact hright.1 h
    ·exact hx2 z hz
   ·simp only [Bool.true_and,decide_eq_false_iff_not] at h
    refine fin w4 w4 (b3.ext' x4) (by rw [eB]; exact hB3.ext x4) (fun z hz=>?_) rfl
    have hyx:=hright.2 h
    rcases List.mem_append.1 hz with hz | hz
    ·refine Ah.trans hO ?_ hyx
     rw [← hM12] at hs
     have:=(List.pairwise_append.1 (List.pairwise_append.1 hs).1).2.2 z hz y (by simp)
     exact this
    ·simp at hz; subst hz; exact hyx
 ·have hn : n = M0.length:=by omega
  subst hn
  rw [List.take_length] at hp
  rw [List.drop_length,List.nil_append] at hB1
  exact hR w1 M b1 hp hs hB1
theorem Zd8 {data : Sl} {w : World} {R : World → Prop} {P X M Y Q : List El} {tail : List Value} {a b n : Int} (hd : data.a = some ⟨g,0,none⟩) (hlen : data.len = (P ++ X ++ M ++ Y ++ Q).length) (hbig : data.len < 4611686018427387904)
  (hB : RowB fc w g (P ++ X ++ M ++ Y ++ Q) tail) (ha : a = (P.length : Int)) (hb : b = ((P.length + X.length + M.length : Nat) : Int)) (hn : n = (X.length : Int)) (hXY : Y.length = X.length)
  (hR : ∀ w',But g w w' → RowB fc w' g (P ++ Y ++ M ++ X ++ Q) tail → R w') : SE.Zx data a b n cmp w R:=by
 unfold SE.Zx
 subst ha hb hn
 simp only [List.length_append] at hlen
 refine loop1.up (N:=X.length) (by rw [Zd]; omega) (fun i w'=>But g w w' ∧ RowB fc w' g (P ++ (Y.take i ++ X.drop i) ++ M ++ (X.take i ++ Y.drop i) ++ Q) tail) ⟨⟨Nat.le_refl _,rfl,rfl,rfl,fun _ _ _ => rfl⟩,by simpa using hB⟩ fun i w1 nxt hi ⟨b1,hB1⟩ hnx=>⟨fun hlt=>?_,fun hge=>?_⟩
 ·have hi' : i < X.length:=by omega
  have hiY : i < Y.length:=by omega
  refine bnd.drew fun w2 x2=>?_
  rw [Zb (x:=((P.length + X.length + M.length : Nat) : Int) + (i : Int)) (by omega) (by omega),Zb (x:=(P.length : Int) + (i : Int)) (by omega) (by omega)]
  rw [show ((P.length + X.length + M.length : Nat) : Int) + (i : Int) = ((P.length + X.length + M.length + i : Nat) : Int) by omega,show (P.length : Int) + (i : Int) = ((P.length + i : Nat) : Int) by omega]
  have hB2:=hB1.ext x2
  have eL : P ++ (Y.take i ++ X.drop i) ++ M ++ (X.take i ++ Y.drop i) ++ Q = (P ++ Y.take i) ++ X[i] :: ((X.drop (i + 1) ++ M ++ X.take i) ++ Y[i] :: (Y.drop (i + 1) ++ Q)):=by
   rw [List.drop_eq_getElem_cons hi',List.drop_eq_getElem_cons hiY]; simp only [List.append_assoc,List.cons_append]
  rw [eL] at hB2
  have l1 : (P ++ Y.take i).length = P.length + i:=by simp; omega
  have l2 : (X.drop (i + 1) ++ M ++ X.take i).length + 1 = X.length + M.length:=by simp; omega
  have gx:=hB2.ld' Zaw (Zfl l1)
  have hgy : ((P ++ Y.take i) ++ X[i] :: ((X.drop (i + 1) ++ M ++ X.take i) ++ Y[i] :: (Y.drop (i + 1) ++ Q)))[P.length + X.length + M.length + i]? = some Y[i]:=by
   rw [← List.cons_append,← List.append_assoc]
   refine Zfl ?_
   simp only [List.length_append,List.length_cons] at l1 l2 ⊢; omega
  have gy:=hB2.ld' Zaw hgy
  have b2:=b1.ext' x2
  have hln : ((P ++ Y.take i) ++ X[i] :: ((X.drop (i + 1) ++ M ++ X.take i) ++ Y[i] :: (Y.drop (i + 1) ++ Q))).length = data.len:=by
   rw [← eL,hlen]; simp; omega
  refine ⟨_,⟨hd,by omega,by omega⟩,_,_,_,gy,_,⟨hd,by omega,by omega⟩,_,_,_,gx,_,⟨hd,by omega,by omega⟩,hB2.st Zaw (i:=P.length + i) (x:=Y[i]) (by rw [hln]; omega) fun w3 b3 hB3=>⟨_,⟨hd,by omega,by omega⟩,hB3.st Zaw (i:=P.length + X.length + M.length + i) (x:=X[i]) (by rw [List.length_set,hln]; omega) fun w4 b4 hB4=>hnx hi' _ ⟨(b2.trans b3).trans b4,?_⟩⟩⟩
  have e:=Zq3 (P ++ Y.take i) (X.drop (i + 1) ++ M ++ X.take i) (Y.drop (i + 1) ++ Q) X[i] Y[i]
  rw [l1,show P.length + i + 1 + (X.drop (i + 1) ++ M ++ X.take i).length = P.length + X.length + M.length + i by omega] at e
  rw [e] at hB4
  have e2 : P ++ (Y.take (i + 1) ++ X.drop (i + 1)) ++ M ++ (X.take (i + 1) ++ Y.drop (i + 1)) ++ Q = (P ++ Y.take i) ++ Y[i] :: ((X.drop (i + 1) ++ M ++ X.take i) ++ X[i] :: (Y.drop (i + 1) ++ Q)):=by
   rw [List.take_succ_eq_append_getElem hi',List.take_succ_eq_append_getElem hiY]; simp only [List.append_assoc,List.cons_append,List.nil_append]
  rw [e2]; exact hB4
 ·have : i = X.length:=by omega
  subst this
  rw [List.take_of_length_le (by omega),List.drop_length,List.append_nil,List.take_length,List.drop_eq_nil_of_le (by omega),List.append_nil] at hB1
  exact hR w1 b1 hB1
theorem Zkw {data : Sl} {w : World} {R : World → Prop} {P X Y Q : List El} {tail : List Value} {a m b : Int} (hd : data.a = some ⟨g,0,none⟩) (hlen : data.len = (P ++ X ++ Y ++ Q).length) (hbig : data.len < 4611686018427387904)
  (hB : RowB fc w g (P ++ X ++ Y ++ Q) tail) (ha : a = (P.length : Int)) (hm : m = ((P.length + X.length : Nat) : Int)) (hb : b = ((P.length + X.length + Y.length : Nat) : Int)) (hX : 0 < X.length) (hY : 0 < Y.length)
  (hR : ∀ w',But g w w' → RowB fc w' g (P ++ Y ++ X ++ Q) tail → R w') : SE.Zaz data a m b cmp w R:=by
 unfold SE.Zaz
 subst ha hb hm
 simp only [List.length_append] at hlen
 refine ⟨fun i j w'=>∃ P' X' Y' Q' : List El,i = (X'.length : Int) ∧ j = (Y'.length : Int) ∧ P'.length + X'.length = P.length + X.length ∧ 0 < X'.length ∧ 0 < Y'.length ∧ data.len = P'.length + X'.length + Y'.length + Q'.length ∧ P' ++ Y' ++ X' ++ Q' = P ++ Y ++ X ++ Q ∧ But g w w' ∧ RowB fc w' g (P' ++ X' ++ Y' ++ Q') tail,
  fun i j _ => i.toNat + j.toNat,⟨P,X,Y,Q,by rw [Zb (by omega) (by omega)]; omega,by rw [Zb (by omega) (by omega)]; omega,rfl,hX,hY,hlen,rfl,⟨Nat.le_refl _,rfl,rfl,rfl,fun _ _ _ => rfl⟩,hB⟩,?_⟩
 rintro i j w1 ⟨P',X',Y',Q',rfl,rfl,hm,hX',hY',hl,hg,b1,hB1⟩
 have wi : Za (((P.length + X.length : Nat) : Int) - (X'.length : Int)) = (P'.length : Int):=by rw [Zb (by omega) (by omega)]; omega
 rw [wi]
 refine ⟨fun hne=>⟨fun hlt=>?_,fun hge=>?_⟩,fun heq=>?_⟩
 ·have hXe : X' = X'.take Y'.length ++ X'.drop Y'.length:=(List.take_append_drop _ _).symm
  have l1 : (X'.take Y'.length).length = Y'.length:=by rw [List.length_take]; omega
  have l2 : (X'.drop Y'.length).length = X'.length - Y'.length:=List.length_drop
  generalize X'.take Y'.length = X1 at *
  generalize X'.drop Y'.length = X2 at *
  subst hXe
  rw [List.length_append] at *
  refine SE.Zx.go (Zd8 (P:=P') (X:=X1) (M:=X2) (Y:=Y') (Q:=Q') hd (by simp only [List.length_append]; omega) hbig (by simpa using hB1) rfl (by omega) (by omega) (by omega) fun w2 b2 hB2=>⟨rfl,?_⟩)
  rw [Zb (by omega) (by omega)]
  refine ⟨⟨P' ++ Y',X2,X1,Q',by omega,by omega,by rw [List.length_append]; omega,by omega,by omega,by rw [List.length_append]; omega,by rw [← hg]; simp,b1.trans b2,by simpa using hB2⟩,by show Int.toNat _ + Int.toNat _ < Int.toNat _ + Int.toNat _; omega⟩
 ·have hlt : X'.length < Y'.length:=by
   rcases Nat.lt_trichotomy X'.length Y'.length with h | h | h
   ·exact h
   ·exact absurd (by rw [h]) hne
   ·omega
  have hYe : Y' = Y'.take (Y'.length - X'.length) ++ Y'.drop (Y'.length - X'.length):=(List.take_append_drop _ _).symm
  have l1 : (Y'.take (Y'.length - X'.length)).length = Y'.length - X'.length:=by rw [List.length_take]; omega
  have l2 : (Y'.drop (Y'.length - X'.length)).length = X'.length:=by rw [List.length_drop]; omega
  generalize hn1 : Y'.take (Y'.length - X'.length) = Y1 at *
  generalize hn2 : Y'.drop (Y'.length - X'.length) = Y2 at *
  clear hn1 hn2
  subst hYe
  rw [List.length_append] at *
  have e1 : Za (Za (((P.length + X.length : Nat) : Int) + ((Y1.length + Y2.length : Nat) : Int)) - (X'.length : Int)) = ((P'.length + X'.length + Y1.length : Nat) : Int):=by
   rw [Zb (x:=((P.length + X.length : Nat) : Int) + ((Y1.length + Y2.length : Nat) : Int)) (by omega) (by omega),Zb (by omega) (by omega)]; omega
  rw [e1]
  refine SE.Zx.go (Zd8 (P:=P') (X:=X') (M:=Y1) (Y:=Y2) (Q:=Q') hd (by simp only [List.length_append]; omega) hbig (by simpa using hB1) rfl rfl rfl l2 fun w2 b2 hB2=>⟨rfl,?_⟩)
  rw [Zb (by omega) (by omega)]
  refine ⟨⟨P',Y2,Y1,X' ++ Q',by omega,by omega,by omega,by omega,by omega,by rw [List.length_append]; omega,by rw [← hg]; simp,b1.trans b2,by simpa using hB2⟩,by show Int.toNat _ + Int.toNat _ < Int.toNat _ + Int.toNat _; omega⟩
 ·have heq : X'.length = Y'.length:=by
   have:=Classical.not_not.1 heq; omega
  refine SE.Zx.go (Zd8 (P:=P') (X:=X') (M:=[]) (Y:=Y') (Q:=Q') hd (by simp only [List.length_append,List.length_nil]; omega) hbig (by simpa using hB1) rfl (by simp only [List.length_nil]; omega) rfl heq.symm fun w2 b2 hB2=>⟨rfl,?_⟩)
  exact hR w2 (b1.trans b2) (by rw [← hg]; simpa using hB2)
theorem Zdp (hO : Ord3 c) {data : Sl} {tail : List Value} (hd : data.a = some ⟨g,0,none⟩) (hbig : data.len < 4611686018427387904) :
  ∀ (N : Nat) {w : World} {R : World → Prop} {P L X Q : List El} {a m b : Int},L.length + X.length ≤ N → CmpOk cmp c g w → data.len = (P ++ L ++ X ++ Q).length → RowB fc w g (P ++ L ++ X ++ Q) tail →
   a = (P.length : Int) → m = ((P.length + L.length : Nat) : Int) → b = ((P.length + L.length + X.length : Nat) : Int) → 0 < L.length → 0 < X.length → L.Pairwise (Ah c) → X.Pairwise (Ah c) → (∀ x ∈ L,∀ y ∈ X,x.2 < y.2) →
   (∀ w' M,But g w w' → M.Perm (L ++ X) → M.Pairwise (Ah c) → RowB fc w' g (P ++ M ++ Q) tail → R w') → SE.Zr data a m b cmp w R
 | 0,_,_,_,L,_,_,_,_,_,h,_,_,_,_,_,_,hL,_,_,_,_,_ => by omega
 | N + 1,w,R,P,L,X,Q,_,_,_,hN,hc,hlen,hB,rfl,rfl,rfl,hL0,hX0,hL,hX,hid,hR=>by
  unfold SE.Zr
  simp only [List.length_append] at hlen
  have refl : But g w w:=⟨Nat.le_refl _,rfl,rfl,rfl,fun _ _ _ => rfl⟩
  have eL : ∀ (u : Nat) (hu : u < L.length),(P ++ L ++ X ++ Q)[P.length + u]? = some L[u]:=fun u hu=>by
   rw [List.append_assoc,List.append_assoc,List.getElem?_append_right (by omega),List.getElem?_append_left (by omega),Nat.add_sub_cancel_left]; exact List.getElem?_eq_getElem hu
  have eX : ∀ (u : Nat) (hu : u < X.length),(P ++ L ++ X ++ Q)[P.length + L.length + u]? = some X[u]:=fun u hu=>by
   rw [List.append_assoc,List.getElem?_append_right (by rw [List.length_append]; omega),List.length_append,Nat.add_sub_cancel_left,List.getElem?_append_left (by omega)]; exact List.getElem?_eq_getElem hu
  have wm : Za (((P.length + L.length : Nat) : Int) - (P.length : Int)) = (L.length : Int):=by rw [Zb (by omega) (by omega)]; omega
  have wb : Za (((P.length + L.length + X.length : Nat) : Int) - ((P.length + L.length : Nat) : Int)) = (X.length : Int):=by rw [Zb (by omega) (by omega)]; omega
  rw [wm,wb]
  refine ⟨fun h1=>?_,fun h1=>⟨fun h2=>?_,fun h2=>?_⟩⟩
  ·
   obtain ⟨x,rfl⟩:=List.length_eq_one_iff.1 (show L.length = 1 by omega)
   simp only [List.length_cons,List.length_nil] at *
   refine ⟨fun i j w'=>∃ p q : Nat,i = ((P.length + (0 + 1) + p : Nat) : Int) ∧ j = ((P.length + (0 + 1) + q : Nat) : Int) ∧ p ≤ q ∧ q ≤ X.length ∧ (∀ (u : Nat) (hu : u < X.length),u < p → Ah c X[u] x) ∧ (∀ (u : Nat) (hu : u < X.length),q ≤ u → Ah c x X[u]) ∧ Ext w w',
    fun i j _ => (j - i).toNat,⟨0,X.length,by omega,by omega,by omega,by omega,fun u _ h=>by omega,fun u h1 h2=>by omega,Ext.refl _⟩,?_⟩
   rintro _ _ w1 ⟨p,q,rfl,rfl,hpq,hq,hp1,hq1,x1⟩
   refine ⟨fun hlt=>bnd.drew fun w2 x2=>?_,fun hge=>?_⟩
   ·rw [half (by omega)]
    have he : (P.length + (0 + 1) + p + (P.length + (0 + 1) + q)) / 2 = P.length + (0 + 1) + (p + q) / 2:=by omega
    rw [he]
    have heX : (p + q) / 2 < X.length:=by omega
    have hB2:=hB.ext (x1.trans x2)
    have gx:=hB2.ld' Zaw (eL 0 (by simp))
    have gy:=hB2.ld' Zaw (eX _ heX)
    have hright:=Ah.right hO (hid x (by simp) _ (List.getElem_mem heX))
    refine ⟨_,⟨hd,by omega,by omega⟩,_,_,_,gy,_,⟨hd,by omega,by omega⟩,_,_,_,gx,hc _ x.1 w2 _ (refl.ext' (x1.trans x2)) fun w3 x3=>⟨_,rfl,fun h=>?_,fun h=>?_⟩⟩
    ·have hA:=hright.1 h
     rw [Zb (by omega) (by omega)]
     refine ⟨⟨(p + q) / 2 + 1,q,by omega,rfl,by omega,hq,fun u hu hlt=>?_,hq1,x1.trans (x2.trans x3)⟩,by show Int.toNat _ < Int.toNat _; omega⟩
     rcases Nat.lt_succ_iff_lt_or_eq.1 hlt with h' | rfl
     ·exact (List.pairwise_iff_getElem.1 hX u _ hu heX h').trans hO hA
     ·exact hA
    ·have hA:=hright.2 h
     refine ⟨⟨p,(p + q) / 2,rfl,rfl,by omega,by omega,hp1,fun u hu hge=>?_,x1.trans (x2.trans x3)⟩,by show Int.toNat _ < Int.toNat _; omega⟩
     rcases Nat.lt_or_eq_of_le hge with h' | rfl
     ·exact hA.trans hO (List.pairwise_iff_getElem.1 hX _ u heX hu h')
     ·exact hA
   ·have hpq' : p = q:=by omega
    subst hpq'
    have wi : Za (((P.length + (0 + 1) + p : Nat) : Int) - 1) = ((P.length + p : Nat) : Int):=by rw [Zb (by omega) (by omega)]; omega
    rw [wi]
    refine ⟨fun k w'=>∃ t : Nat,k = ((P.length + t : Nat) : Int) ∧ t ≤ p ∧ But g w w' ∧ RowB fc w' g (P ++ (X.take t ++ x :: X.drop t) ++ Q) tail,fun k _ => (P.length + p) - k.toNat,⟨0,by omega,by omega,refl.ext' x1,by simpa using hB.ext x1⟩,?_⟩
    rintro _ w2 ⟨t,rfl,htp,b2,hB2⟩
    refine ⟨fun hlt=>bnd.drew fun w3 x3=>?_,fun hge=>?_⟩
    ·have htX : t < X.length:=by omega
     have e1 : Za (((P.length + t : Nat) : Int) + 1) = ((P.length + t + 1 : Nat) : Int):=by rw [Zb (by omega) (by omega)]; omega
     rw [e1]
     have eB : P ++ (X.take t ++ x :: X.drop t) ++ Q = (P ++ X.take t) ++ x :: X[t] :: (X.drop (t + 1) ++ Q):=by
      rw [List.drop_eq_getElem_cons htX]; simp only [List.append_assoc,List.cons_append]
     have hB3:=hB2.ext x3
     rw [eB] at hB3
     have ey : (P ++ X.take t).length = P.length + t:=by rw [List.length_append,List.length_take]; omega
     have gy:=hB3.ld' Zaw (Zfl ey)
     have gx:=hB3.ld' Zaw (Zgc (n:=P.length + t + 1) (by omega))
     have hln : ((P ++ X.take t) ++ x :: X[t] :: (X.drop (t + 1) ++ Q)).length = data.len:=by rw [← eB,hlen]; simp; omega
     refine ⟨_,⟨hd,by omega,by omega⟩,_,_,_,gx,_,⟨hd,by omega,by omega⟩,_,_,_,gy,_,⟨hd,by omega,by omega⟩,hB3.st Zaw (i:=P.length + t) (x:=X[t]) (by rw [hln]; omega) fun w4 b4 hB4=>⟨_,⟨hd,by omega,by omega⟩,hB4.st Zaw (i:=P.length + t + 1) (x:=x) (by rw [List.length_set,hln]; omega) fun w5 b5 hB5=>?_⟩⟩
     have e2:=Zok (P ++ X.take t) (X.drop (t + 1) ++ Q) x X[t]
     rw [ey] at e2
     rw [e2] at hB5
     refine ⟨⟨t + 1,by omega,by omega,((b2.ext' x3).trans b4).trans b5,?_⟩,by show _ - Int.toNat _ < _ - Int.toNat _; omega⟩
     rw [List.take_succ_eq_append_getElem htX]
     simpa only [List.append_assoc,List.cons_append,List.nil_append] using hB5
    ·have : t = p:=by omega
     subst this
     refine hR w2 _ b2 ?_ ?_ hB2
     ·refine List.perm_middle.trans ?_
      rw [List.take_append_drop]; exact List.Perm.refl _
     ·refine List.pairwise_append.2 ⟨hX.sublist (List.take_sublist _ _),List.pairwise_cons.2 ⟨fun y hy=>?_,hX.sublist (List.drop_sublist _ _)⟩,fun y hy z hz=>?_⟩
      ·obtain ⟨u,hu,rfl⟩:=List.mem_iff_getElem.1 hy
       rw [List.length_drop] at hu
       rw [List.getElem_drop]; exact hq1 _ (by omega) (by omega)
      ·obtain ⟨u,hu,rfl⟩:=List.mem_iff_getElem.1 hy
       rw [List.length_take] at hu
       rw [List.getElem_take]
       have hyx:=hp1 u (by omega) (by omega)
       rcases List.mem_cons.1 hz with rfl | hz
       ·exact hyx
       ·obtain ⟨v,hv,rfl⟩:=List.mem_iff_getElem.1 hz
        rw [List.length_drop] at hv
        rw [List.getElem_drop]; exact hyx.trans hO (hq1 _ (by omega) (by omega))
  ·
   obtain ⟨y,rfl⟩:=List.length_eq_one_iff.1 (show X.length = 1 by omega)
   simp only [List.length_cons,List.length_nil] at *
   refine ⟨fun i j w'=>∃ p q : Nat,i = ((P.length + p : Nat) : Int) ∧ j = ((P.length + q : Nat) : Int) ∧ p ≤ q ∧ q ≤ L.length ∧ (∀ (u : Nat) (hu : u < L.length),u < p → Ah c L[u] y) ∧ (∀ (u : Nat) (hu : u < L.length),q ≤ u → Ah c y L[u]) ∧ Ext w w',
    fun i j _ => (j - i).toNat,⟨0,L.length,by omega,by omega,by omega,by omega,fun u _ h=>by omega,fun u h1 h2=>by omega,Ext.refl _⟩,?_⟩
   rintro _ _ w1 ⟨p,q,rfl,rfl,hpq,hq,hp1,hq1,x1⟩
   refine ⟨fun hlt=>bnd.drew fun w2 x2=>?_,fun hge=>?_⟩
   ·rw [half (by omega)]
    have he : (P.length + p + (P.length + q)) / 2 = P.length + (p + q) / 2:=by omega
    rw [he]
    have heX : (p + q) / 2 < L.length:=by omega
    have hB2:=hB.ext (x1.trans x2)
    have gx:=hB2.ld' Zaw (eX 0 (by simp))
    have gy:=hB2.ld' Zaw (eL _ heX)
    have hright:=Ah.right hO (hid _ (List.getElem_mem heX) y (by simp))
    refine ⟨_,⟨hd,by omega,by omega⟩,_,_,_,gx,_,⟨hd,by omega,by omega⟩,_,_,_,gy,hc y.1 _ w2 _ (refl.ext' (x1.trans x2)) fun w3 x3=>⟨_,rfl,fun h=>?_,fun h=>?_⟩⟩
    ·have hA:=hright.2 h
     rw [Zb (by omega) (by omega)]
     refine ⟨⟨(p + q) / 2 + 1,q,by omega,rfl,by omega,hq,fun u hu hlt=>?_,hq1,x1.trans (x2.trans x3)⟩,by show Int.toNat _ < Int.toNat _; omega⟩
     rcases Nat.lt_succ_iff_lt_or_eq.1 hlt with h' | rfl
     ·exact (List.pairwise_iff_getElem.1 hL u _ hu heX h').trans hO hA
     ·exact hA
    ·have hA:=hright.1 (Classical.not_not.1 h)
     refine ⟨⟨p,(p + q) / 2,rfl,rfl,by omega,by omega,hp1,fun u hu hge=>?_,x1.trans (x2.trans x3)⟩,by show Int.toNat _ < Int.toNat _; omega⟩
     rcases Nat.lt_or_eq_of_le hge with h' | rfl
     ·exact hA.trans hO (List.pairwise_iff_getElem.1 hL _ u heX hu h')
     ·exact hA
   ·have hpq' : p = q:=by omega
    subst hpq'
    refine ⟨fun k w'=>∃ t : Nat,k = ((P.length + t : Nat) : Int) ∧ p ≤ t ∧ t ≤ L.length ∧ But g w w' ∧ RowB fc w' g (P ++ (L.take t ++ y :: L.drop t) ++ Q) tail,fun k _ => k.toNat,⟨L.length,by omega,by omega,by omega,refl.ext' x1,by simpa using hB.ext x1⟩,?_⟩
    rintro _ w2 ⟨t,rfl,htp,htL,b2,hB2⟩
    refine ⟨fun hlt=>bnd.drew fun w3 x3=>?_,fun hge=>?_⟩
    ·obtain ⟨s,rfl⟩ : ∃ s,t = s + 1:=⟨t - 1,by omega⟩
     have hsL : s < L.length:=by omega
     have e1 : Za (((P.length + (s + 1) : Nat) : Int) - 1) = ((P.length + s : Nat) : Int):=by rw [Zb (by omega) (by omega)]; omega
     rw [e1]
     have eB : P ++ (L.take (s + 1) ++ y :: L.drop (s + 1)) ++ Q = (P ++ L.take s) ++ L[s] :: y :: (L.drop (s + 1) ++ Q):=by
      rw [List.take_succ_eq_append_getElem hsL]; simp only [List.append_assoc,List.cons_append,List.nil_append]
     have hB3:=hB2.ext x3
     rw [eB] at hB3
     have ey : (P ++ L.take s).length = P.length + s:=by rw [List.length_append,List.length_take]; omega
     have gy:=hB3.ld' Zaw (Zfl ey)
     have gx:=hB3.ld' Zaw (Zgc (n:=P.length + (s + 1)) (by omega))
     have hln : ((P ++ L.take s) ++ L[s] :: y :: (L.drop (s + 1) ++ Q)).length = data.len:=by rw [← eB,hlen]; simp; omega
     refine ⟨_,⟨hd,by omega,by omega⟩,_,_,_,gy,_,⟨hd,by omega,by omega⟩,_,_,_,gx,_,⟨hd,by omega,by omega⟩,hB3.st Zaw (i:=P.length + (s + 1)) (x:=L[s]) (by rw [hln]; omega) fun w4 b4 hB4=>⟨_,⟨hd,by omega,by omega⟩,hB4.st Zaw (i:=P.length + s) (x:=y) (by rw [List.length_set,hln]; omega) fun w5 b5 hB5=>?_⟩⟩
     have e2:=Zj4 (P ++ L.take s) (L.drop (s + 1) ++ Q) L[s] y
     rw [ey,Nat.add_assoc] at e2
     rw [e2] at hB5
     refine ⟨⟨s,by omega,by omega,by omega,((b2.ext' x3).trans b4).trans b5,?_⟩,by show Int.toNat _ < Int.toNat _; omega⟩
     rw [List.drop_eq_getElem_cons hsL]
     simpa only [List.append_assoc,List.cons_append,List.nil_append] using hB5
    ·have : t = p:=by omega
     subst this
     refine hR w2 _ b2 ?_ ?_ hB2
     ·refine List.perm_middle.trans ?_
      rw [List.take_append_drop]; exact (List.perm_append_singleton y L).symm
     ·refine List.pairwise_append.2 ⟨hL.sublist (List.take_sublist _ _),List.pairwise_cons.2 ⟨fun z hz=>?_,hL.sublist (List.drop_sublist _ _)⟩,fun x hx z hz=>?_⟩
      ·obtain ⟨u,hu,rfl⟩:=List.mem_iff_getElem.1 hz
       rw [List.length_drop] at hu
       rw [List.getElem_drop]; exact hq1 _ (by omega) (by omega)
      ·obtain ⟨u,hu,rfl⟩:=List.mem_iff_getElem.1 hx
       rw [List.length_take] at hu
       rw [List.getElem_take]
       have hyx:=hp1 u (by omega) (by omega)
       rcases List.mem_cons.1 hz with rfl | hz
       ·exact hyx
       ·obtain ⟨v,hv,rfl⟩:=List.mem_iff_getElem.1 hz
        rw [List.length_drop] at hv
        rw [List.getElem_drop]; exact hyx.trans hO (hq1 _ (by omega) (by omega))
  ·
   rw [half (i:=P.length) (j:=P.length + L.length + X.length) (by omega)]
   have hmid : (P.length + (P.length + L.length + X.length)) / 2 = P.length + (L.length + X.length) / 2:=by omega
   rw [hmid]
   generalize hH : (L.length + X.length) / 2 = H at *
   have wn : Za (((P.length + H : Nat) : Int) + ((P.length + L.length : Nat) : Int)) = ((P.length + H + (P.length + L.length) : Nat) : Int):=by rw [Zb (by omega) (by omega)]; omega
   rw [wn]
   have wp : Za (((P.length + H + (P.length + L.length) : Nat) : Int) - 1) = ((P.length + H + (P.length + L.length) - 1 : Nat) : Int):=by rw [Zb (by omega) (by omega)]; omega
   rw [wp]
   refine join.named fun J hJ=>?_
   have main : ∀ u0 v0 : Nat,u0 = H - X.length → v0 = min L.length H → J ((P.length + u0 : Nat) : Int) ((P.length + v0 : Nat) : Int) w:=fun u0 v0 hu0 hv0=>by
    subst hJ
    show loop2 _ _ _ _
    refine ⟨fun i j w'=>∃ s r : Nat,i = ((P.length + s : Nat) : Int) ∧ j = ((P.length + r : Nat) : Int) ∧ u0 ≤ s ∧ s ≤ r ∧ r ≤ v0 ∧ (∀ (u : Nat) (h1 : u < L.length) (h2 : H - 1 - u < X.length),u0 ≤ u → u < s → Ah c L[u] X[H - 1 - u]) ∧ (∀ (u : Nat) (h1 : u < L.length) (h2 : H - 1 - u < X.length),r ≤ u → u < v0 → Ah c X[H - 1 - u] L[u]) ∧ Ext w w',
     fun i j _ => (j - i).toNat,⟨u0,v0,rfl,rfl,Nat.le_refl _,by omega,Nat.le_refl _,fun u _ _ h1 h2=>by omega,fun u _ _ h1 h2=>by omega,Ext.refl _⟩,?_⟩
    rintro _ _ w1 ⟨s,r,rfl,rfl,hs0,hsr,hrv,hs1,hr1,x1⟩
    refine ⟨fun hlt=>bnd.drew fun w2 x2=>?_,fun hge=>?_⟩
    ·rw [half (by omega)]
     have he : (P.length + s + (P.length + r)) / 2 = P.length + (s + r) / 2:=by omega
     rw [he]
     generalize hu : (s + r) / 2 = u at *
     have huL : u < L.length:=by omega
     have huX : H - 1 - u < X.length:=by omega
     have wpc : Za (((P.length + H + (P.length + L.length) - 1 : Nat) : Int) - ((P.length + u : Nat) : Int)) = ((P.length + L.length + (H - 1 - u) : Nat) : Int):=by rw [Zb (by omega) (by omega)]; omega
     rw [wpc]
     have hB2:=hB.ext (x1.trans x2)
     have gx:=hB2.ld' Zaw (eX _ huX)
     have gy:=hB2.ld' Zaw (eL _ huL)
     have hright:=Ah.right hO (hid _ (List.getElem_mem huL) _ (List.getElem_mem huX))
     refine ⟨_,⟨hd,by omega,by omega⟩,_,_,_,gx,_,⟨hd,by omega,by omega⟩,_,_,_,gy,hc _ _ w2 _ (refl.ext' (x1.trans x2)) fun w3 x3=>⟨_,rfl,fun h=>?_,fun h=>?_⟩⟩
     ·have hA:=hright.2 h
      rw [Zb (by omega) (by omega)]
      refine ⟨⟨u + 1,r,by omega,rfl,by omega,by omega,hrv,fun t h1 h2 h3 h4=>?_,hr1,x1.trans (x2.trans x3)⟩,by show Int.toNat _ < Int.toNat _; omega⟩
      rcases Nat.lt_succ_iff_lt_or_eq.1 h4 with h' | rfl
      ·exact ((List.pairwise_iff_getElem.1 hL t u h1 huL h').trans hO hA).trans hO (List.pairwise_iff_getElem.1 hX (H - 1 - u) (H - 1 - t) huX h2 (by omega))
      ·exact hA
     ·have hA:=hright.1 (Classical.not_not.1 h)
      refine ⟨⟨s,u,rfl,rfl,hs0,by omega,by omega,hs1,fun t h1 h2 h3 h4=>?_,x1.trans (x2.trans x3)⟩,by show Int.toNat _ < Int.toNat _; omega⟩
      rcases Nat.lt_or_eq_of_le h3 with h' | rfl
      ·exact ((List.pairwise_iff_getElem.1 hX (H - 1 - t) (H - 1 - u) h2 huX (by omega)).trans hO hA).trans hO (List.pairwise_iff_getElem.1 hL u t huL h1 h')
      ·exact hA
    ·have hsr' : s = r:=by omega
     subst hsr'
     have hsL : s ≤ L.length:=by omega
     have hsH : s ≤ H:=by omega
     have hHX : H - s ≤ X.length:=by omega
     have wend : Za (((P.length + H + (P.length + L.length) : Nat) : Int) - ((P.length + s : Nat) : Int)) = ((P.length + L.length + (H - s) : Nat) : Int):=by rw [Zb (by omega) (by omega)]; omega
     rw [wend]
     have cr1 : ∀ x ∈ L.take s,∀ y ∈ X.drop (H - s),Ah c x y:=fun x hx y hy=>by
      obtain ⟨i,hi,rfl⟩:=List.mem_iff_getElem.1 hx
      obtain ⟨j,hj,rfl⟩:=List.mem_iff_getElem.1 hy
      rw [List.length_take] at hi; rw [List.length_drop] at hj
      rw [List.getElem_take,List.getElem_drop]
      have k1:=hs1 (s - 1) (by omega) (by omega) (by omega) (by omega)
      have e : H - 1 - (s - 1) = H - s:=by omega
      have k2 : Ah c L[i] X[H - s]:=by
       rcases Nat.lt_or_eq_of_le (show i ≤ s - 1 by omega) with h | h
       ·have:=(List.pairwise_iff_getElem.1 hL i (s - 1) (by omega) (by omega) h).trans hO k1
        simpa only [e] using this
       ·subst h; simpa only [e] using k1
      rcases Nat.eq_zero_or_pos j with h | h
      ·subst h; exact k2
      ·exact k2.trans hO (List.pairwise_iff_getElem.1 hX (H - s) (H - s + j) (by omega) (by omega) (by omega))
     have cr2 : ∀ y ∈ X.take (H - s),∀ x ∈ L.drop s,Ah c y x:=fun y hy x hx=>by
      obtain ⟨i,hi,rfl⟩:=List.mem_iff_getElem.1 hx
      obtain ⟨j,hj,rfl⟩:=List.mem_iff_getElem.1 hy
      rw [List.length_drop] at hi; rw [List.length_take] at hj
      rw [List.getElem_take,List.getElem_drop]
      have k1:=hr1 s (by omega) (by omega) (Nat.le_refl _) (by omega)
      have k2 : Ah c X[j] L[s]:=by
       rcases Nat.lt_or_eq_of_le (show j ≤ H - 1 - s by omega) with h | h
       ·exact (List.pairwise_iff_getElem.1 hX j (H - 1 - s) (by omega) (by omega) h).trans hO k1
       ·subst h; exact k1
      rcases Nat.eq_zero_or_pos i with h | h
      ·subst h; exact k2
      ·exact k2.trans hO (List.pairwise_iff_getElem.1 hL s (s + i) (by omega) (by omega) (by omega))
     have lt1 : (L.take s).length = s:=by rw [List.length_take]; omega
     have lt2 : (X.take (H - s)).length = H - s:=by rw [List.length_take]; omega
     have lt3 : (L.drop s).length = L.length - s:=List.length_drop
     have lt4 : (X.drop (H - s)).length = X.length - (H - s):=List.length_drop
     have sL1:=hL.sublist (List.take_sublist s L)
     have sL2:=hL.sublist (List.drop_sublist s L)
     have sX1:=hX.sublist (List.take_sublist (H - s) X)
     have sX2:=hX.sublist (List.drop_sublist (H - s) X)
     have id1 : ∀ x ∈ L.take s,∀ y ∈ X.take (H - s),x.2 < y.2:=fun x hx y hy=>hid x (List.mem_of_mem_take hx) y (List.mem_of_mem_take hy)
     have id2 : ∀ x ∈ L.drop s,∀ y ∈ X.drop (H - s),x.2 < y.2:=fun x hx y hy=>hid x (List.mem_of_mem_drop hx) y (List.mem_of_mem_drop hy)
     have eLs : L = L.take s ++ L.drop s:=(List.take_append_drop _ _).symm
     have eXs : X = X.take (H - s) ++ X.drop (H - s):=(List.take_append_drop _ _).symm
     have hLX : L.take s = [] ∨ 0 < s:=by
       rcases Nat.eq_zero_or_pos s with h | h
       ·exact .inl (by rw [h]; rfl)
       ·exact .inr h
     have permAll : ∀ M1 M2 : List El,M1.Perm (L.take s ++ X.take (H - s)) → M2.Perm (L.drop s ++ X.drop (H - s)) → (M1 ++ M2).Perm (L ++ X):=fun M1 M2 h1 h2=>by
      refine (h1.append h2).trans ?_
      conv=>rhs; rw [eLs,eXs]
      rw [List.append_assoc,List.append_assoc]
      refine List.Perm.append_left _ ?_
      rw [← List.append_assoc,← List.append_assoc]
      exact List.Perm.append_right _ List.perm_append_comm
     have sortAll : ∀ M1 M2 : List El,M1.Perm (L.take s ++ X.take (H - s)) → M2.Perm (L.drop s ++ X.drop (H - s)) → M1.Pairwise (Ah c) → M2.Pairwise (Ah c) → (M1 ++ M2).Pairwise (Ah c):=fun M1 M2 h1 h2 s1 s2 =>
      List.pairwise_append.2 ⟨s1,s2,fun x hx y hy=>by
       rcases List.mem_append.1 (h1.mem_iff.1 hx) with hx | hx <;> rcases List.mem_append.1 (h2.mem_iff.1 hy) with hy | hy
       ·obtain ⟨i,hi,rfl⟩:=List.mem_iff_getElem.1 hx
        obtain ⟨j,hj,rfl⟩:=List.mem_iff_getElem.1 hy
        rw [lt1] at hi; rw [lt3] at hj
        rw [List.getElem_take,List.getElem_drop]
        exact List.pairwise_iff_getElem.1 hL i (s + j) (by omega) (by omega) (by omega)
       ·exact cr1 x hx y hy
       ·exact cr2 x hx y hy
       ·obtain ⟨i,hi,rfl⟩:=List.mem_iff_getElem.1 hx
        obtain ⟨j,hj,rfl⟩:=List.mem_iff_getElem.1 hy
        rw [lt2] at hi; rw [lt4] at hj
        rw [List.getElem_take,List.getElem_drop]
        exact List.pairwise_iff_getElem.1 hX i (H - s + j) (by omega) (by omega) (by omega)⟩
     generalize L.take s = L1 at *
     generalize L.drop s = L2 at *
     generalize X.take (H - s) = X1 at *
     generalize X.drop (H - s) = X2 at *
     have b1 : But g w w1:=refl.ext' x1
     have hB1:=hB.ext x1
     refine join.named fun J2 hJ2=>?_
     have k2 : ∀ w2,But g w w2 → RowB fc w2 g (P ++ L1 ++ X1 ++ (L2 ++ X2 ++ Q)) tail → J2 w2:=fun w2 b2 hB2=>by
      subst hJ2
      refine join.named fun J3 hJ3=>bound ?_
      have k3 : ∀ w3 M1,But g w w3 → M1.Perm (L1 ++ X1) → M1.Pairwise (Ah c) → RowB fc w3 g (P ++ M1 ++ (L2 ++ X2 ++ Q)) tail → J3 w3:=fun w3 M1 b3 hp1 so1 hB3=>by
       subst hJ3
       have lM : M1.length = H:=by rw [hp1.length_eq,List.length_append]; omega
       refine bound ⟨fun h=>?_,fun h=>?_⟩
       ·simp only [Bool.and_eq_true,decide_eq_true_eq] at h
        refine SE.Zr.go (Zdp hO hd hbig N (P:=P ++ M1) (L:=L2) (X:=X2) (Q:=Q) (by omega) (hc.but b3) (by simp only [List.length_append]; omega) (by simpa only [List.append_assoc] using hB3) (by rw [List.length_append]; omega) (by rw [List.length_append]; omega) (by rw [List.length_append]; omega) (by omega) (by omega) sL2 sX2 id2 fun w4 M2 b4 hp2 so2 hB4=>⟨rfl,?_⟩)
        exact hR w4 (M1 ++ M2) (b3.trans b4) (permAll M1 M2 hp1 hp2) (sortAll M1 M2 hp1 hp2 so1 so2) (by simpa only [List.append_assoc] using hB4)
       ·simp only [Bool.and_eq_false_iff,decide_eq_false_iff_not] at h
        refine hR w3 (M1 ++ (L2 ++ X2)) b3 (permAll M1 _ hp1 (List.Perm.refl _)) (sortAll M1 _ hp1 (List.Perm.refl _) so1 ?_) (by simpa only [List.append_assoc] using hB3)
        have : L2 = [] ∨ X2 = []:=by
         rcases h with h | h
         ·exact .inl (List.eq_nil_of_length_eq_zero (by omega))
         ·exact .inr (List.eq_nil_of_length_eq_zero (by omega))
        rcases this with rfl | rfl
        ·simpa using sX2
        ·simpa using sL2
      refine ⟨fun h=>?_,fun h=>?_⟩
      ·simp only [Bool.and_eq_true,decide_eq_true_eq] at h
       refine SE.Zr.go (Zdp hO hd hbig N (P:=P) (L:=L1) (X:=X1) (Q:=L2 ++ X2 ++ Q) (by omega) (hc.but b2) (by simp only [List.length_append]; omega) (by simpa only [List.append_assoc] using hB2) rfl (by omega) (by omega) (by omega) (by omega) sL1 sX1 id1 fun w4 M1 b4 hp1 so1 hB4=>⟨rfl,k3 w4 M1 (b2.trans b4) hp1 so1 hB4⟩)
      ·simp only [Bool.and_eq_false_iff,decide_eq_false_iff_not] at h
       refine k3 w2 (L1 ++ X1) b2 (List.Perm.refl _) ?_ (by simpa only [List.append_assoc] using hB2)
       have : L1 = [] ∨ X1 = []:=by
        rcases h with h | h
        ·exact .inl (List.eq_nil_of_length_eq_zero (by omega))
        ·exact .inr (List.eq_nil_of_length_eq_zero (by omega))
       rcases this with rfl | rfl
       ·simpa using sX1
       ·simpa using sL1
     rw [eLs,eXs] at hB1
     refine bound ⟨fun h=>?_,fun h=>?_⟩
     ·simp only [Bool.and_eq_true,decide_eq_true_eq] at h
      refine SE.Zaz.go (Zkw (P:=P ++ L1) (X:=L2) (Y:=X1) (Q:=X2 ++ Q) hd (by simp only [List.length_append]; omega) hbig (by simpa only [List.append_assoc] using hB1) (by rw [List.length_append]; omega) (by rw [List.length_append]; omega) (by rw [List.length_append]; omega) (by omega) (by omega) fun w2 b2 hB2=>⟨rfl,k2 w2 (b1.trans b2) (by simpa only [List.append_assoc] using hB2)⟩)
     ·simp only [Bool.and_eq_false_iff,decide_eq_false_iff_not] at h
      refine k2 w1 b1 ?_
      have : L2 = [] ∨ X1 = []:=by
       rcases h with h | h
       ·exact .inl (List.eq_nil_of_length_eq_zero (by omega))
       ·exact .inr (List.eq_nil_of_length_eq_zero (by omega))
      rcases this with rfl | rfl
      ·simpa only [List.append_assoc,List.append_nil,List.nil_append] using hB1
      ·simpa only [List.append_assoc,List.append_nil,List.nil_append] using hB1
   refine ⟨fun h=>?_,fun h=>?_⟩
   ·have:=main (H - X.length) H rfl (by omega)
    have e : Za (((P.length + H + (P.length + L.length) : Nat) : Int) - ((P.length + L.length + X.length : Nat) : Int)) = ((P.length + (H - X.length) : Nat) : Int):=by rw [Zb (by omega) (by omega)]; omega
    rw [e]; exact this
   ·have:=main 0 L.length (by omega) (by omega)
    exact this
theorem ids {z0 : List El} (hz : z0.Pairwise fun x y=>x.2 < y.2) {i n j m : Nat} (h : i + n ≤ j) : ∀ x ∈ sg z0 i n,∀ y ∈ sg z0 j m,x.2 < y.2:=fun x hx y hy=>by
 obtain ⟨a,ha,_,ha2,rfl⟩:=Zq0 hx
 obtain ⟨b,hb,hb1,_,rfl⟩:=Zq0 hy
 exact List.pairwise_iff_getElem.1 hz a b ha hb (by omega)
theorem Zk4 (hO : Ord3 c) {data : Sl} {tail : List Value} {w : World} {R : World → Prop} {z0 : List El} {n : Int} (hd : data.a = some ⟨g,0,none⟩) (hbig : data.len < 2305843009213693952) (hc : CmpOk cmp c g w) (hlen : data.len = z0.length) (hn : n = (z0.length : Int)) (hB : RowB fc w g z0 tail)
  (hz : z0.Pairwise fun x y=>x.2 < y.2) (hR : ∀ w' M,But g w w' → M.Perm z0 → M.Pairwise (Ah c) → RowB fc w' g M tail → R w') : SE.Z1 data n cmp w R:=by
 unfold SE.Z1
 subst hn
 have refl : But g w w:=⟨Nat.le_refl _,rfl,rfl,rfl,fun _ _ _ => rfl⟩
 refine ⟨fun a b w'=>∃ (k : Nat) (z : List El),a = ((k * 20 : Nat) : Int) ∧ b = ((k * 20 + 20 : Nat) : Int) ∧ k * 20 ≤ z0.length ∧ z.length = z0.length ∧ z.drop (k * 20) = z0.drop (k * 20) ∧ Chunks c 20 z z0 k ∧ But g w w' ∧ RowB fc w' g z tail,
  fun a _ _ => z0.length - a.toNat,⟨0,z0,rfl,rfl,by omega,rfl,rfl,⟨fun i h=>by omega,fun i h=>by omega⟩,refl,hB⟩,?_⟩
 rintro _ _ w1 ⟨k,z,rfl,rfl,hk,hzl,hdr,hch,b1,hB1⟩
 have la : (z.take (k * 20)).length = k * 20:=by rw [List.length_take]; omega
 refine ⟨fun hle=>?_,fun hgt=>?_⟩
 ·have hsg : sg z (k * 20) 20 = sg z0 (k * 20) 20:=by unfold sg; rw [hdr]
  have hs:=Zj3 z (k * 20) 20
  have hsl : (sg z (k * 20) 20).length = 20:=Zjj (by omega)
  rw [hs] at hB1
  refine SE.Zl.go (Zfa hO (A:=z.take (k * 20)) (M0:=sg z (k * 20) 20) (B:=z.drop (k * 20 + 20)) (hc.but b1) hd (by rw [← hs,hzl]; exact hlen) (by omega) hB1 (by rw [la]) (by rw [la,hsl]) (by rw [hsg]; exact hz.sublist ((List.take_sublist _ _).trans (List.drop_sublist _ _))) fun w2 M b2 hp hso hB2=>⟨rfl,?_⟩)
  have hMl : M.length = 20:=by rw [hp.length_eq,hsl]
  rw [Zb (by omega) (by omega)]
  refine ⟨⟨k + 1,z.take (k * 20) ++ M ++ z.drop (k * 20 + 20),by omega,by omega,by omega,?_,?_,?_,b1.trans b2,hB2⟩,by show _ - Int.toNat _ < _ - Int.toNat _; omega⟩
  ·simp only [List.length_append,List.length_drop,la,hMl]; omega
  ·rw [List.drop_left' (by rw [List.length_append,la,hMl]; omega),show k * 20 + 20 = (k + 1) * 20 by omega]
   rw [show (k + 1) * 20 = k * 20 + 20 by omega,← List.drop_drop,hdr,List.drop_drop]
  ·constructor
   ·intro i hi
    rcases Nat.lt_succ_iff_lt_or_eq.1 hi with h | rfl
    ·rw [Zdf (by rw [la]; omega)]
     have:=hch.perm i h
     rw [hs,Zdf (by rw [la]; omega)] at this
     exact this
    ·rw [Zi8 la hMl,← hsg]; exact hp
   ·intro i hi
    rcases Nat.lt_succ_iff_lt_or_eq.1 hi with h | rfl
    ·rw [Zdf (by rw [la]; omega)]
     have:=hch.sort i h
     rw [hs,Zdf (by rw [la]; omega)] at this
     exact this
    ·rw [Zi8 la hMl]; exact hso
 ·have hs : z = z.take (k * 20) ++ z.drop (k * 20) ++ []:=by rw [List.append_nil,List.take_append_drop]
  have hdl : (z.drop (k * 20)).length = z0.length - k * 20:=by rw [List.length_drop,hzl]
  rw [hs] at hB1
  refine SE.Zl.go (Zfa hO (A:=z.take (k * 20)) (M0:=z.drop (k * 20)) (B:=[]) (hc.but b1) hd (by rw [← hs,hzl]; exact hlen) (by omega) hB1 (by rw [la]) (by rw [la,hdl]; omega) (by rw [hdr]; exact hz.sublist (List.drop_sublist _ _)) fun w2 M b2 hp hso hB2=>⟨rfl,?_⟩)
  have hMl : M.length = z0.length - k * 20:=by rw [hp.length_eq,hdl]
  rw [List.append_nil] at hB2
  have hch0 : ∀ j,Chunks c 20 (z.take (k * 20) ++ M) z0 j:=fun j=>by
   have hsg : sg z (k * 20) 20 = z.drop (k * 20):=by unfold sg; rw [List.take_of_length_le (by omega)]
   have hsg0 : sg z0 (k * 20) 20 = z0.drop (k * 20):=by unfold sg; rw [List.take_of_length_le (by rw [List.length_drop]; omega)]
   constructor
   ·intro i _
    rcases Nat.lt_trichotomy i k with h | rfl | h
    ·have:=hch.perm i h
     rw [hs,Zdf (by rw [la]; omega)] at this
     rw [← List.append_nil (z.take (k * 20) ++ M),Zdf (by rw [la]; omega)]
     exact this
    ·rw [Zi7 la (by omega),hsg0,← hdr]; exact hp
    ·have : k + 1 ≤ i:=h
     rw [Zgh (by rw [List.length_append,la]; omega),Zgh (by omega)]
   ·intro i _
    rcases Nat.lt_trichotomy i k with h | rfl | h
    ·have:=hch.sort i h
     rw [hs,Zdf (by rw [la]; omega)] at this
     rw [← List.append_nil (z.take (k * 20) ++ M),Zdf (by rw [la]; omega)]
     exact this
    ·rw [Zi7 la (by omega)]; exact hso
    ·have : k + 1 ≤ i:=h
     rw [Zgh (by rw [List.length_append,la]; omega)]
     exact .nil
  have hzl1 : (z.take (k * 20) ++ M).length = z0.length:=by rw [List.length_append,la]; omega
  generalize z.take (k * 20) ++ M = z1 at *
  have b02:=b1.trans b2
  clear hp hso hMl
  refine ⟨fun bs w'=>∃ (s : Nat) (z : List El),bs = (s : Int) ∧ 0 < s ∧ s < 2 * z0.length + 40 ∧ z.length = z0.length ∧ (∀ j,Chunks c s z z0 j) ∧ But g w w' ∧ RowB fc w' g z tail,fun bs _ => 2 * z0.length + 40 - bs.toNat,⟨20,z1,rfl,by omega,by omega,hzl1,hch0,b02,hB2⟩,?_⟩
  rintro _ w3 ⟨s,z2,rfl,hs0,hsb,hzl2,hch2,b3,hB3⟩
  refine ⟨fun hlt=>?_,fun hge=>?_⟩
  ·have hsn : s < z0.length:=by omega
   rw [Zb (x:=2 * (s : Int)) (by omega) (by omega)]
   refine ⟨fun a b w'=>∃ (k : Nat) (z : List El),a = ((k * (2 * s) : Nat) : Int) ∧ b = ((k * (2 * s) + 2 * s : Nat) : Int) ∧ k * (2 * s) ≤ z0.length ∧ z.length = z0.length ∧ z.drop (k * (2 * s)) = z2.drop (k * (2 * s)) ∧ Chunks c (2 * s) z z0 k ∧ But g w w' ∧ RowB fc w' g z tail,
    fun a _ _ => z0.length - a.toNat,⟨0,z2,by simp,by simp,by omega,hzl2,by simp,⟨fun i h=>by omega,fun i h=>by omega⟩,b3,hB3⟩,?_⟩
   rintro _ _ w4 ⟨k,z,rfl,rfl,hk,hzl4,hdr4,hch4,b4,hB4⟩
   generalize hK : k * (2 * s) = K at *
   have la4 : (z.take K).length = K:=by rw [List.length_take]; omega
   have e2k : 2 * k * s = K:=by rw [← hK,Nat.mul_comm 2 k,Nat.mul_assoc]
   have e2k1 : (2 * k + 1) * s = K + s:=by rw [Nat.add_mul,e2k,Nat.one_mul]
   have p1:=(hch2 (2 * k + 2)).perm (2 * k) (by omega); have p2:=(hch2 (2 * k + 2)).perm (2 * k + 1) (by omega)
   have s1:=(hch2 (2 * k + 2)).sort (2 * k) (by omega); have s2:=(hch2 (2 * k + 2)).sort (2 * k + 1) (by omega)
   rw [e2k] at p1 s1; rw [e2k1] at p2 s2
   have g1 : sg z K s = sg z2 K s:=by unfold sg; rw [hdr4]
   have g2 : sg z (K + s) s = sg z2 (K + s) s:=by unfold sg; rw [← List.drop_drop,hdr4,List.drop_drop]
   rw [← g1] at p1 s1; rw [← g2] at p2 s2
   have hids : ∀ x ∈ sg z K s,∀ y ∈ sg z (K + s) s,x.2 < y.2:=fun x hx y hy=>ids hz (Nat.le_refl _) x (p1.mem_iff.1 hx) y (p2.mem_iff.1 hy)
   have wks : Za ((K : Int) + (s : Int)) = ((K + s : Nat) : Int):=by rw [Zb (by omega) (by omega)]; omega
   have grow : ∀ (z' M B : List El) (m : Nat),z' = z.take K ++ M ++ B → M.length = m → M.Perm (sg z K s ++ sg z (K + s) s) → M.Pairwise (Ah c) → (m = 2 * s ∨ B = []) → m ≤ 2 * s → Chunks c (2 * s) z' z0 (k + 1):=fun z' M B m hz' hm hp hso hmB hm2=>by
    have e : sg z' K (2 * s) = M:=by
     subst hz'
     rcases hmB with h | h
     ·exact Zi8 la4 (by omega)
     ·subst h; rw [List.append_nil]; exact Zi7 la4 (by omega)
    have e0 : sg z0 K (2 * s) = sg z0 K s ++ sg z0 (K + s) s:=by rw [show 2 * s = s + s by omega,Zl5]
    have el : ∀ i,i < k → sg z' (i * (2 * s)) (2 * s) = sg z (i * (2 * s)) (2 * s):=fun i h=>by
     have hle : i * (2 * s) + 2 * s ≤ K:=by
      have:=Nat.mul_le_mul_right (2 * s) (show i + 1 ≤ k from h)
      rw [Nat.add_mul,hK,Nat.one_mul] at this; exact this
     have h1 : sg z (i * (2 * s)) (2 * s) = sg (z.take K) (i * (2 * s)) (2 * s):=by
      conv=>lhs; rw [show z = z.take K ++ z.drop K ++ [] by rw [List.append_nil,List.take_append_drop]]
      exact Zdf (by rw [la4]; exact hle)
     rw [h1,hz',Zdf (by rw [la4]; exact hle)]
    constructor
    ·intro i hi
     rcases Nat.lt_succ_iff_lt_or_eq.1 hi with h | rfl
     ·rw [el i h]; exact hch4.perm i h
     ·rw [hK,e,e0]; exact hp.trans (p1.append p2)
    ·intro i hi
     rcases Nat.lt_succ_iff_lt_or_eq.1 hi with h | rfl
     ·rw [el i h]; exact hch4.sort i h
     ·rw [hK,e]; exact hso
   refine ⟨fun hle=>?_,fun hgt4=>?_⟩
   ·have hs4 : z = z.take K ++ sg z K s ++ sg z (K + s) s ++ z.drop (K + 2 * s):=by
     have:=Zj3 z K (2 * s)
     rw [show 2 * s = s + s by omega,Zl5] at this
     rw [show 2 * s = s + s by omega]
     simpa only [List.append_assoc] using this
    have l1 : (sg z K s).length = s:=Zjj (by omega)
    have l2 : (sg z (K + s) s).length = s:=Zjj (by omega)
    rw [wks]
    rw [hs4] at hB4
    refine SE.Zr.go (Zdp hO hd (by omega) _ (P:=z.take K) (L:=sg z K s) (X:=sg z (K + s) s) (Q:=z.drop (K + 2 * s)) (Nat.le_refl _) (hc.but b4) (by rw [← hs4,hzl4]; exact hlen) hB4 (by rw [la4]) (by rw [la4,l1]) (by rw [la4,l1,l2]; omega) (by omega) (by omega) s1 s2 hids fun w5 M b5 hp hso hB5=>⟨rfl,?_⟩)
    have hMl : M.length = 2 * s:=by rw [hp.length_eq,List.length_append]; omega
    rw [Zb (by omega) (by omega)]
    have hK1 : (k + 1) * (2 * s) = K + 2 * s:=by rw [Nat.add_mul,hK,Nat.one_mul]
    refine ⟨⟨k + 1,z.take K ++ M ++ z.drop (K + 2 * s),by omega,by omega,by omega,?_,?_,grow _ M _ (2 * s) rfl hMl hp hso (.inl rfl) (Nat.le_refl _),b4.trans b5,hB5⟩,by show _ - Int.toNat _ < _ - Int.toNat _; omega⟩
    ·simp only [List.length_append,List.length_drop,la4,hMl]; omega
    ·rw [hK1,List.drop_left' (by rw [List.length_append,la4,hMl]),← List.drop_drop,hdr4,List.drop_drop]
   ·refine join.named fun J hJ=>?_
    have kJ : ∀ w' z',But g w w' → z'.length = z0.length → Chunks c (2 * s) z' z0 (k + 1) → RowB fc w' g z' tail → J w':=fun w' z' b' hl' hch' hB'=>by
     subst hJ
     have e : Za ((s : Int) * 2) = ((2 * s : Nat) : Int):=by rw [Zb (by omega) (by omega)]; omega
     rw [e]
     have hK1 : (k + 1) * (2 * s) = K + 2 * s:=by rw [Nat.add_mul,hK,Nat.one_mul]
     refine ⟨⟨2 * s,z',rfl,by omega,by omega,hl',fun j=>⟨fun i _ => ?_,fun i _ => ?_⟩,b',hB'⟩,by show _ - Int.toNat _ < _ - Int.toNat _; omega⟩
     ·by_cases h : i < k + 1
      ·exact hch'.perm i h
      ·have:=Nat.mul_le_mul_right (2 * s) (show k + 1 ≤ i by omega)
       rw [Zgh (by omega),Zgh (by omega)]
     ·by_cases h : i < k + 1
      ·exact hch'.sort i h
      ·have:=Nat.mul_le_mul_right (2 * s) (show k + 1 ≤ i by omega)
       rw [Zgh (by omega)]
       exact .nil
    rw [wks]
    have hdK : z.drop K = sg z K s ++ sg z (K + s) s:=by
     rw [← Zl5]; unfold sg; rw [List.take_of_length_le (by rw [List.length_drop]; omega)]
    refine ⟨fun hlt4=>?_,fun hge4=>?_⟩
    ·have hs4 : z = z.take K ++ sg z K s ++ sg z (K + s) s ++ []:=by
      rw [List.append_nil,List.append_assoc,← hdK,List.take_append_drop]
     have l1 : (sg z K s).length = s:=Zjj (by omega)
     have l2 : (sg z K s).length + (sg z (K + s) s).length = z0.length - K:=by rw [← List.length_append,← hdK,List.length_drop,hzl4]
     rw [hs4] at hB4
     refine SE.Zr.go (Zdp hO hd (by omega) _ (P:=z.take K) (L:=sg z K s) (X:=sg z (K + s) s) (Q:=[]) (Nat.le_refl _) (hc.but b4) (by rw [← hs4,hzl4]; exact hlen) hB4 (by rw [la4]) (by rw [la4,l1]) (by rw [la4]; omega) (by omega) (by omega) s1 s2 hids fun w5 M b5 hp hso hB5=>⟨rfl,?_⟩)
     have hMl : M.length = z0.length - K:=by rw [hp.length_eq,List.length_append]; exact l2
     exact kJ w5 _ (b4.trans b5) (by simp only [List.length_append,List.length_nil,la4,hMl]; omega) (grow _ M [] _ rfl hMl hp hso (.inr rfl) (by omega)) hB5
    ·have e0 : sg z (K + s) s = []:=Zgh (by omega)
     refine kJ w4 z b4 hzl4 (grow z (z.drop K) [] _ (by rw [List.append_nil,List.take_append_drop]) rfl (by rw [hdK]) ?_ (.inr rfl) (by rw [List.length_drop]; omega)) hB4
     rw [hdK,e0,List.append_nil]; exact s1
  ·have e : sg z2 (0 * s) s = z2:=by rw [Nat.zero_mul]; unfold sg; rw [List.drop_zero,List.take_of_length_le (by omega)]
   have e0 : sg z0 (0 * s) s = z0:=by rw [Nat.zero_mul]; unfold sg; rw [List.drop_zero,List.take_of_length_le (by omega)]
   have p:=(hch2 1).perm 0 (by omega); have so:=(hch2 1).sort 0 (by omega)
   rw [e] at p so
   rw [e0] at p
   exact hR w3 z2 b3 p so hB3
theorem sortStable_se (hO : Ord3 c) {data : Sl} {tail : List Value} {w : World} {R : World → Prop} {l : List WantC} (hd : data.a = some ⟨g,0,none⟩) (hbig : data.len < 2305843009213693952) (hc : CmpOk cmp c g w) (hlen : data.len = l.length) (hB : RowB cells w g l tail)
  (hR : ∀ w',But g w w' → RowB cells w' g (Zbz c l) tail → R w') : SE.Zj data cmp w R:=by
 unfold SE.Zj
 have hB' : RowB fc w g (nums 0 l) tail:=by
  unfold RowB at hB ⊢
  have : (nums 0 l).map fc = l.map cells:=by
   have h:=congrArg (List.map cells) (Zjz 0 l)
   rw [List.map_map] at h; exact h
  rw [this]; exact hB
 refine SE.Z1.go (Zk4 hO hd hbig hc (by rw [Zj0]; exact hlen) (by rw [Zj0,hlen]) hB' (Zik 0 l) fun w2 M b2 hp hs hB2=>⟨rfl,hR w2 b2 ?_⟩)
 have e:=Zoh hO hp hs
 unfold RowB at hB2 ⊢
 have : M.map fc = (Zbz c l).map cells:=by rw [← e,List.map_map]; rfl
 rw [← this]; exact hB2
theorem sortStable_nil {data : Sl} {w : World} {R : World → Prop} (h0 : data.len = 0) (hR : R w) : SE.Zj data cmp w R:=by
 unfold SE.Zj
 rw [h0]
 refine SE.Z1.go ?_
 unfold SE.Z1
 refine ⟨fun a b w'=>a = 0 ∧ b = 20 ∧ w' = w,fun _ _ _ => 0,⟨rfl,rfl,rfl⟩,?_⟩
 rintro _ _ w1 ⟨rfl,rfl,hw1⟩
 subst hw1
 refine ⟨fun h=>by simp at h,fun _ => SE.Zl.go ?_⟩
 unfold SE.Zl
 refine ⟨fun a w'=>a = 1 ∧ w' = w1,fun _ _ => 0,⟨by decide,rfl⟩,?_⟩
 rintro _ w2 ⟨rfl,hw2⟩
 subst hw2
 refine ⟨fun h=>by simp at h,fun _ => ⟨rfl,?_⟩⟩
 refine ⟨fun a w'=>a = 20 ∧ w' = w2,fun _ _ => 0,⟨rfl,rfl⟩,?_⟩
 rintro _ w3 ⟨rfl,hw3⟩
 subst hw3
 exact ⟨fun h=>by simp at h,fun _ => ⟨rfl,hR⟩⟩
end
end StW
end Go.Hal
namespace Go.Hal
open Go.Proofs.Tryz
open Go Go.RowKit Go.Proofs Go.Shelf
def Zml (l : List Pack) : List Pack:=l.foldl (fun L x=>(Zee L x).2) []
theorem Zrf (l : List Pack) (x : Pack) : Zml (l ++ [x]) = (Zee (Zml l) x).2:=by unfold Zml; rw [List.foldl_append]; rfl
theorem CatL.stay {w w' : World} {S : Nat → Prop} {p : Addr} {r : Nat} {L : List Pack} (h : CatL w S p r L) (hsz : w.heap.size ≤ w'.heap.size) (hk : ∀ b,b < w.heap.size → (S b ∨ b = p.block ∨ b = r) → w'.heap[b]? = w.heap[b]?) : CatL w' S p r L:=by
 obtain ⟨ps,a,b,c⟩:=h
 exact ⟨ps,a.stay hsz hk,b,c⟩
theorem CatL.lt {w : World} {S : Nat → Prop} {p : Addr} {r : Nat} {L : List Pack} (h : CatL w S p r L) : r < w.heap.size ∧ p.block < w.heap.size ∧ (∀ b,S b → b < w.heap.size) ∧ ¬ S r ∧ ¬ S p.block ∧ p.block ≠ r:=by
 obtain ⟨ps,a,_⟩:=h
 obtain ⟨m,hm,_⟩:=a.map
 exact ⟨hm.lt,a.box.lt,a.old,a.free.1,a.free.2,a.ne⟩
structure Both (w : World) (lo : Nat) (SA : Nat → Prop) (p : Addr) (r : Nat) (q : Addr) (L : List Pack) : Prop where
 cat : ∃ S,CatL w S p r L ∧ (∀ b,S b → lo ≤ b) ∧ ¬ S q.block
 ref : ∃ S,RefR w S q L ∧ (∀ b,S b → SA b ∨ lo ≤ b) ∧ ¬ S r
 le : lo ≤ r ∧ lo ≤ p.block ∧ lo ≤ q.block
 ne : q.block ≠ p.block ∧ q.block ≠ r
theorem Ziw {α : Type} {E : Enc α} {w : World} {S : Nat → Prop} {a : Addr} {cs : List Value} {x : α} (hb : BoxAt w a cs) (hx : E.rep w S x cs) (hB : E.bytes ≤ room) : SlR E w (fun b=>S b ∨ b = a.block) ⟨some a,1,1⟩ [x] :=
 ⟨rfl,Nat.le_refl _,by show 1 ≤ maxLen; rw [Zd]; omega,by simpa using hB,.inr ⟨a,rfl,.inr rfl,fun i y hy=>by
  cases i with
  | zero =>
   simp only [List.getElem?_cons_zero,Option.some.injEq] at hy
   subst hy
   exact ⟨cs,E.mono hx fun _ h=>.inl h,by rw [Nat.zero_mul]; exact hb.ldc⟩
  | succ i=>simp at hy⟩⟩
theorem FlatO.pins {w : World} {lo : Nat} {s : Sl} {l : List Pin} (h : FlatO pinC 40 w lo s l) (hs : ∀ q ∈ l,Str q.name) : SlR pinE w (fun b=>lo ≤ b ∧ b < w.heap.size) s l :=
 FlatO.read (E:=pinE) h (fun _ => rfl) fun _ _ x hx=>⟨rfl,hs x hx⟩
end Go.Hal
namespace Go.Hal
open Go.Proofs.Tryz
open Go Go.RowKit Go.Proofs Go.Shelf
theorem Zum {α β : Type} {c : β → β → Int} {d : α → α → Int} (f : α → β) {x : α} {l : List α} (h : ∀ y ∈ l,c (f x) (f y) = d x y) : (Zeg d x l).map f = Zeg c (f x) (l.map f):=by
 induction l with
 | nil=>rfl
 | cons y r ih =>
  rw [List.map_cons,Zeg,Zeg,h y (.head _)]
  by_cases h1 : d x y ≤ 0
  ·rw [if_pos h1,if_pos h1]; rfl
  ·rw [if_neg h1,if_neg h1,List.map_cons,ih fun z hz=>h z (.tail _ hz)]
theorem Zl9 {α β : Type} {c : β → β → Int} {d : α → α → Int} (f : α → β) {l : List α} (h : ∀ x ∈ l,∀ y ∈ l,c (f x) (f y) = d x y) : (Zbz d l).map f = Zbz c (l.map f):=by
 induction l with
 | nil=>rfl
 | cons x r ih =>
  rw [List.map_cons,Zbz,Zbz,← ih fun a ha b hb=>h a (.tail _ ha) b (.tail _ hb)]
  exact Zum f fun y hy=>h x (.head _) y (.tail _ ((Zd7 r).mem_iff.1 hy))
def wantT : Enc (Want × (Nat → Prop)) where
 n:=3
 bytes:=48
 rep:=fun w S x cs=>wantP.rep w x.2 x.1 cs ∧ ∀ b,x.2 b → S b
 len:=fun h=>wantP.len h.1
 one:=fun h v hv=>wantP.one h.1 v hv
 mono:=fun h hs=>⟨h.1,fun b hb=>hs b (h.2 b hb)⟩
 keep:=fun h hk=>⟨wantP.keep h.1 fun b hb hl=>hk b (h.2 b hb) hl,h.2⟩
def Zy3 (p q : Want × (Nat → Prop)) : Prop:=∀ b,p.2 b → ¬ q.2 b
def SepW (w : World) (S : Nat → Prop) (s : Sl) (L : List Want) : Prop :=
 s.len = L.length ∧ s.cap = L.length ∧ (L = [] ∨ ∃ (g : Nat) (tail : List Value) (z : List (WantC × (Want × (Nat → Prop)))),s.a = some ⟨g,0,none⟩ ∧ S g ∧ RowB StW.cells w g (z.map Prod.fst) tail ∧ (z.map fun q=>q.2.1) = L ∧
  (∀ q ∈ z,q.1.name = q.2.1.name ∧ q.1.kind = q.2.1.kind ∧ wantP.rep w q.2.2 q.2.1 (StW.cells q.1) ∧ ∀ b,q.2.2 b → S b ∧ b ≠ g) ∧ z.Pairwise fun p q=>∀ b,p.2.2 b → ¬ q.2.2 b)
def AllI (w : World) (lo : Nat) (out : Sl) (M : List Want) : Prop :=
 ∃ (vis : List (Want × (Nat → Prop))) (Q : Nat → Prop),OwnS wantT 62 w lo Q out vis ∧ vis.map Prod.fst = M ∧ (∀ b,Q b → lo ≤ b) ∧ vis.Pairwise Zy3 ∧ ∀ q ∈ vis,∀ b,q.2 b → Q b
theorem AllI.ext {w w' : World} {lo : Nat} {out : Sl} {M : List Want} (h : AllI w lo out M) (hx : Ext w w') : AllI w' lo out M:=by
 obtain ⟨vis,Q,a,b,c,d,e⟩:=h
 exact ⟨vis,Q,a.ext hx,b,c,d,e⟩
theorem AllI.zero (w : World) : AllI w w.heap.size Sl.nil []:=⟨[],None',OwnS.nil _ _,rfl,fun _ h=>h.elim,.nil,fun _ h=>by cases h⟩
theorem AllI.push {w0 w : World} {lo : Nat} {out u : Sl} {M : List Want} {x : Want} {a : Addr} {K : Sl → World → Prop} (h : AllI w0 lo out M) (hx : Ext w0 w) (hlo : lo ≤ w0.heap.size) (hN : Str x.name) (hu : SlP spanE w (fun b=>w0.heap.size ≤ b ∧ b < w.heap.size) u x.range) (hb : BoxAt w a [.string x.name,.int .i64 x.kind,u.v]) (hm : (M.length + 1) * 48 ≤ room)
  (hK : ∀ r w',Below lo w w' → AllI w' lo r (M ++ [x]) → K r w') : appS prog 56 56 out (Sl.v ⟨some a,1,1⟩) w K:=by
 obtain ⟨vis,Q,own,rfl,hQ,hdj,hvQ⟩:=h
 have s:=hx.size
 have eb : wantT.bytes = 48:=rfl
 rw [List.length_map] at hm
 have hm2 : vis.length + 1 ≤ 9000000000000:=by unfold room at hm; omega
 refine (own.ext hx).push Zqb (Nat.le_trans hlo s) (x:=(x,fun b=>w0.heap.size ≤ b ∧ b < w.heap.size)) (S':=fun b=>w0.heap.size ≤ b ∧ b < w.heap.size) ⟨⟨hN,u,rfl,hu⟩,fun _ h=>h⟩ (hb.ldc.pre (r:=[]) rfl) (fun b hb=>hb.2) (fun ad ha hb=>by have:=(own.block ha).2.1; omega) (by rw [eb]; exact hm) (by rw [Zd]; omega) fun r w' own' bel _ _ => hK r w' bel ⟨_,_,own',by rw [List.map_append]; rfl,fun b hb=>?_,?_,fun q hq b hb=>?_⟩
 ·rcases hb with hb | hb
  ·exact hQ b hb
  ·omega
 ·refine List.pairwise_append.2 ⟨hdj,List.pairwise_singleton _ _,fun q hq y hy b hb hc=>?_⟩
  rw [List.mem_singleton] at hy
  subst hy
  have h1:=own.lt b (hvQ q hq b hb)
  have h2 : w0.heap.size ≤ b ∧ b < w.heap.size:=hc
  omega
 ·rcases List.mem_append.1 hq with hq | hq
  ·exact .inl (hvQ q hq b hb)
  ·rw [List.mem_singleton] at hq
   subst hq
   exact .inr hb
def depsE : Enc (List Dep) where
 n:=1
 bytes:=24
 rep:=fun w S l cs=>∃ t : Sl,cs = [t.v] ∧ SlR depE w S t l
 len:=fun ⟨_,h,_⟩=>by rw [h]; rfl
 one:=fun ⟨_,h,_⟩ v hv=>by rw [h] at hv; simp [Sl.v] at hv; subst hv; rfl
 mono:=fun ⟨t,h,hr⟩ hs=>⟨t,h,hr.mono hs⟩
 keep:=fun ⟨t,h,hr⟩ hk=>⟨t,h,hr.keep hk⟩
theorem Zo9 : Zgv prog 159:=enters_of func159 (by kernel_rfl) rfl
def cWC (a b : WantC) : Int:=cmpS a.name b.name
theorem Zxo : Ord3 cWC:=Zgb WantC.name
theorem Zxk (g : Nat) (w : World) : StW.CmpOk (.func (.func 159) #[] #[]) cWC g w:=by
 intro x y w1 k _ hk
 refine ⟨_,_,rfl,Zo9,SE.Zhb.go ?_⟩
 unfold SE.Zhb
 exact newS.intro fun a w2 x2 ha _ _ => newS.intro fun a1 w3 x3 ha1 _ _ => ⟨x.name,BoxAt.at0 ha x3 rfl,y.name,BoxAt.at0 ha1 (Ext.refl _) rfl,Zip ⟨_,rfl,hk _ (x2.trans x3)⟩⟩
end Go.Hal
namespace Go.Hal
open Go.Proofs.Tryz
open Go Go.RowKit Go.Proofs Go.Shelf
theorem Zy4 {w w1 : World} {out : Sl} {M : List Want} {R : Sl → World → Prop} (hI : AllI w1 w.heap.size out M) (hx : Ext w w1) (hb : M.length * 48 ≤ room)
  (hR : ∀ t w',Ext w w' → SepW w' (fun b=>w.heap.size ≤ b ∧ b < w'.heap.size) t (Zbz cW M) → R t w') :
  callS prog 158 [Sl.v out,Value.func (.func 159) #[] #[]] w1 fun v39 vw38=>v39 = (Value.tuple #[]) ∧ callS prog 160 [Sl.v out] vw38 fun v42 vw41=>∃ (t56 : Sl),v42 = (Sl.v t56) ∧ R t56 vw41:=by
 obtain ⟨vis,Q,own,rfl,hQ,hdj,hvQ⟩:=hI
 rw [List.length_map] at hb
 have hol:=own.len
 have hsmall : vis.length ≤ 9000000000000:=by unfold room at hb; omega
 have hf : ∀ (x : Want × (Nat → Prop)) cs,wantT.rep w1 Q x cs → ∃ y : WantC,cs = StW.cells y ∧ (y.name = x.1.name ∧ y.kind = x.1.kind ∧ wantT.rep w1 Q x (StW.cells y)):=fun x cs h=>by
  obtain ⟨⟨hN,s,rfl,a⟩,hTQ⟩:=h
  exact ⟨⟨x.1.name,x.1.kind,s⟩,rfl,rfl,rfl,⟨hN,s,rfl,a⟩,hTQ⟩
 rcases OwnS.rowG StW.cells (fun (y : WantC) (x : Want × (Nat → Prop))=>y.name = x.1.name ∧ y.kind = x.1.kind ∧ wantT.rep w1 Q x (StW.cells y)) hf own with ⟨ho,hv⟩ | ⟨g,zz,tail,ha,hgl,hzz,hrel,hrow,hcap,hmax⟩
 ·subst ho hv
  refine SE.Zj.go (StW.sortStable_nil rfl ⟨rfl,SE.Zb2.go ⟨⟨by decide,by decide,by decide,by decide⟩,_,rfl,hR _ _ hx ?_⟩⟩)
  exact ⟨rfl,rfl,.inl rfl⟩
 ·have hzl : zz.length = vis.length:=by rw [← hzz,List.length_map]
  have hlen : out.len = (zz.map Prod.fst).length:=by rw [List.length_map,hzl]; exact hol
  refine SE.Zj.go (StW.sortStable_se Zxo ha (by rw [hol]; omega) (Zxk g w1) hlen hrow fun w2 b2 hr2=>⟨rfl,?_⟩)
  have hfst : (Zbz (fun p q : WantC × (Want × (Nat → Prop))=>cWC p.1 q.1) zz).map Prod.fst = Zbz cWC (zz.map Prod.fst):=Zl9 (c:=cWC) Prod.fst fun _ _ _ _ => rfl
  have hsnd : (Zbz (fun p q : WantC × (Want × (Nat → Prop))=>cWC p.1 q.1) zz).map (fun q : WantC × (Want × (Nat → Prop))=>q.2.1) = Zbz cW (zz.map fun q=>q.2.1):=Zl9 (c:=cW) (fun q : WantC × (Want × (Nat → Prop))=>q.2.1) fun x hx y hy=>by
   unfold cW cWC
   rw [(hrel x hx).1,(hrel y hy).1]
  have hM : (zz.map fun q=>q.2.1) = vis.map Prod.fst:=by rw [← hzz,List.map_map]; rfl
  rw [hM] at hsnd
  rw [← hfst] at hr2
  have hperm:=Zd7 (c:=fun p q : WantC × (Want × (Nat → Prop))=>cWC p.1 q.1) zz
  generalize Zbz (fun p q : WantC × (Want × (Nat → Prop))=>cWC p.1 q.1) zz = zs at *
  have hzsl : zs.length = zz.length:=hperm.length_eq
  have hQg : ¬ Q g:=own.apart _ ha
  have x2 : Ext w w2:=hx.trans' (b2.below hx.size hgl)
  have hlt2 : g < w2.heap.size:=hr2.lt
  have s2:=b2.1
  refine SE.Zb2.go ⟨⟨by omega,by omega,by omega,by omega⟩,_,rfl,hR _ _ x2 ?_⟩
  have hdz : zs.Pairwise fun p q=>∀ b,p.2.2 b → ¬ q.2.2 b:=by
   have h1 : (zz.map Prod.snd).Pairwise Zy3:=by rw [hzz]; exact hdj
   rw [List.pairwise_map] at h1
   exact (hperm.pairwise_iff fun {x y} h b hb hc=>h b hc hb).2 h1
  refine ⟨?_,?_,.inr ⟨g,tail,zs,?_,⟨hgl,hlt2⟩,hr2,hsnd,fun q hq=>?_,hdz⟩⟩
  ·show (out.len : Int).toNat - 0 = _
   rw [Zhu,List.length_map,hol]; simp
  ·show (out.len : Int).toNat - 0 = _
   rw [Zhu,List.length_map,hol]; simp
  ·show (if _ then _ else _) = _
   split
   ·exact ha
   ·rw [ha,Nat.zero_mul]; rfl
  ·obtain ⟨k1,k2,k3,k4⟩:=hrel q (hperm.mem_iff.1 hq)
   refine ⟨k1,k2,wantP.keep k3 (b2.keep fun h=>hQg (k4 g h)),fun b hb=>⟨⟨hQ b (k4 b hb),?_⟩,fun e=>hQg (e ▸ k4 b hb)⟩⟩
   have:=own.lt b (k4 b hb); omega
theorem Zk8 {mD mDev mOpt mOv must may : Sl} {ms : List (List Dep)} {ml over : List Dep} {S : Nat → Prop} {w : World} {R : Sl → World → Prop} (hS : Old S w) (hV : SlR depE w S mOv over) (hM : SlR depsE w S must ms) (hY : SlR depE w S may ml) (hb : (ms.flatten.length + ml.length) * 48 ≤ room)
  (hR : ∀ t w',Ext w w' → SepW w' (fun b=>w.heap.size ≤ b ∧ b < w'.heap.size) t (Zf7 over ms.flatten ml) → R t w') : SE.Zg3 mD mDev mOpt mOv must may w R:=by
 unfold SE.Zg3
 have hMl:=hM.len
 have hYl:=hY.len
 refine newS.intro fun a w1 x1 ha _ _ => ?_
 have s1:=x1.size
 refine loop2.up hM.max (fun out i w'=>Ext w1 w' ∧ AllI w' w1.heap.size out ((ms.take i).flatten.map (Zf6 1 over))) ⟨Ext.refl _,AllI.zero _⟩ fun out i w2 nxt hi ⟨x2,hI2⟩ hn=>⟨fun hlt=>?_,fun hge=>?_⟩
 ·have hlt' : i < ms.length:=by omega
  obtain ⟨ad,cs,hma,_,⟨t,rfl,ht⟩,hc⟩:=hM.el hlt'
  have htl:=ht.len
  have hsum : (ms.take (i + 1)).flatten = (ms.take i).flatten ++ ms[i]:=by rw [List.take_succ_eq_append_getElem hlt',List.flatten_append,List.flatten_cons,List.flatten_nil,List.append_nil]
  have hsub : (ms.take i).flatten.length + ms[i].length ≤ ms.flatten.length:=by
   rw [← List.length_append,← hsum]
   have : ms.flatten = (ms.take (i + 1)).flatten ++ (ms.drop (i + 1)).flatten:=by rw [← List.flatten_append,List.take_append_drop]
   rw [this,List.length_append]; omega
  refine ⟨ad,⟨hma,by omega,hlt⟩,t,(hc _ (x1.trans x2)).pre (r:=[]) rfl,?_⟩
  refine loop2.up ht.max (fun out k w'=>Ext w1 w' ∧ AllI w' w1.heap.size out (((ms.take i).flatten ++ ms[i].take k).map (Zf6 1 over))) ⟨x2,by rw [List.take_zero,List.append_nil]; exact hI2⟩ fun out2 k w3 nxt2 hk ⟨x3,hI3⟩ hn2=>⟨fun hklt=>?_,fun hkge=>?_⟩
  ·have hk' : k < ms[i].length:=by omega
   have x03:=x1.trans x3
   obtain ⟨ad5,u,hta,_,hN,hr,hcd⟩:=Zgp ht hk'
   refine ⟨ad5,⟨hta,by omega,hklt⟩,_,u,hcd _ x03,newS.intro fun a8 w4 x4 hb4 ha4 _ => stw0.intro hb4 (by simp) fun w5 b5 _ hb5=>bnd.drew fun w6 x6=>?_⟩
   have x35 : Ext w3 w5:=b5.ext x4 (by omega)
   have x36:=x35.trans x6
   have x06:=x03.trans x36
   refine ⟨_,hb5.at0 x6 rfl,mD,mDev,mOpt,mOv,ha.at0 (r:=[]) (x3.trans x36) rfl,_,u,hb5.at0 (r:=[]) x6 rfl,callX.intro (SE.Zen.go (Zha (hS.ext x06.size) (hV.ext x06) (hr.ext x06) fun r7 w7 x7 hu=>⟨x7,_,rfl,newS.intro fun a16 w8 x8 hb8 _ _ => ?_⟩))⟩
   have x68:=x7.trans x8
   have s36:=x36.size; have s8:=x8.size; have s3:=x3.size
   refine (hI3.ext x36).push (x:=Zf6 1 over ms[i][k]) x68 (by omega) hN ((hu.ext x8).mono fun b hb=>⟨hb.1,by omega⟩) hb8 ?_ fun r9 w9 bel hI9=>hn2 hk' _ _ ⟨(x3.trans (x36.trans x68)).trans' bel,?_⟩
   ·rw [List.length_map,List.length_append,List.length_take]
    have : ((ms.take i).flatten.length + min k ms[i].length + 1) * 48 ≤ (ms.flatten.length + ml.length) * 48:=Nat.mul_le_mul_right _ (by omega)
    omega
   ·rw [List.take_succ_eq_append_getElem hk',← List.append_assoc,List.map_append]
    exact hI9
  ·have : k = ms[i].length:=by omega
   rw [this,List.take_length,← hsum] at hI3
   exact hn hlt' _ _ ⟨x3,hI3⟩
 ·have : i = ms.length:=by omega
  rw [this,List.take_length] at hI2
  refine loop2.up hY.max (fun out k w'=>Ext w1 w' ∧ AllI w' w1.heap.size out (ms.flatten.map (Zf6 1 over) ++ (ml.take k).map (Zf6 2 over))) ⟨x2,by rw [List.take_zero,List.map_nil,List.append_nil]; exact hI2⟩ fun out2 k w3 nxt2 hk ⟨x3,hI3⟩ hn2=>⟨fun hklt=>?_,fun hkge=>?_⟩
  ·have hk' : k < ml.length:=by omega
   have x03:=x1.trans x3
   obtain ⟨ad5,u,hta,_,hN,hr,hcd⟩:=Zgp hY hk'
   refine ⟨ad5,⟨hta,by omega,hklt⟩,_,u,hcd _ x03,newS.intro fun a8 w4 x4 hb4 ha4 _ => stw0.intro hb4 (by simp) fun w5 b5 _ hb5=>bnd.drew fun w6 x6=>?_⟩
   have x35 : Ext w3 w5:=b5.ext x4 (by omega)
   have x36:=x35.trans x6
   have x06:=x03.trans x36
   refine ⟨_,hb5.at0 x6 rfl,mD,mDev,mOpt,mOv,ha.at0 (r:=[]) (x3.trans x36) rfl,_,u,hb5.at0 (r:=[]) x6 rfl,callX.intro (SE.Zen.go (Zha (hS.ext x06.size) (hV.ext x06) (hr.ext x06) fun r7 w7 x7 hu=>⟨x7,_,rfl,newS.intro fun a16 w8 x8 hb8 _ _ => ?_⟩))⟩
   have x68:=x7.trans x8
   have s36:=x36.size; have s8:=x8.size; have s3:=x3.size
   refine (hI3.ext x36).push (x:=Zf6 2 over ml[k]) x68 (by omega) hN ((hu.ext x8).mono fun b hb=>⟨hb.1,by omega⟩) hb8 ?_ fun r9 w9 bel hI9=>hn2 hk' _ _ ⟨(x3.trans (x36.trans x68)).trans' bel,?_⟩
   ·rw [List.length_append,List.length_map,List.length_map,List.length_take]
    have : (ms.flatten.length + min k ml.length + 1) * 48 ≤ (ms.flatten.length + ml.length) * 48:=Nat.mul_le_mul_right _ (by omega)
    omega
   ·rw [List.take_succ_eq_append_getElem hk',List.map_append,← List.append_assoc]
    exact hI9
  ·have : k = ml.length:=by omega
   rw [this,List.take_length] at hI3
   refine Zy4 hI3 x3 (by rw [List.length_append,List.length_map,List.length_map]; exact hb) fun t w' hx hs=>hR _ _ (x1.trans hx) ?_
   obtain ⟨k1,k0,k2⟩:=hs
   refine ⟨k1,k0,k2.imp id fun ⟨g,tail,z,e1,e2,e3,e4,e5,e6⟩=>⟨g,tail,z,e1,⟨by omega,e2.2⟩,e3,e4,fun q hq=>?_,e6⟩⟩
   obtain ⟨f1,f2,f3,f4⟩:=e5 q hq
   exact ⟨f1,f2,f3,fun b hb=>⟨⟨by have:=(f4 b hb).1.1; omega,(f4 b hb).1.2⟩,(f4 b hb).2⟩⟩
end Go.Hal
namespace Go.Hal
open Go.Proofs.Tryz
open Go Go.RowKit Go.Proofs Go.Shelf
theorem newS.ownS {α : Type} {E : Enc α} {w : World} {cs : List Value} {t : TypeId} {x : α} {S : Nat → Prop} {k : Addr → World → Prop} (hS : Old S w) (hx : E.rep w S x cs) (h : ∀ a w',Ext w w' → OwnS E t w' w.heap.size S ⟨some a,1,1⟩ [x] → a.block = w.heap.size → k a w') : newS w cs t k:=fun a w' ha hw=>by
 subst ha hw
 have hl:=E.len hx
 refine h _ _ (Ext.alloc _ _) ⟨⟨[cs],⟨by simp [hl],.inr ⟨w.heap.size,1,cs.toArray,rfl,Nat.le_refl _,heap_alloc_new w _,Nat.le_refl _,by rw [Zd]; omega,by simp [hl],?_⟩⟩,rfl,fun i y hy=>?_⟩,rfl,fun b hb=>by have:=hS b hb; simp; omega,fun ad ha hb=>?_⟩ rfl
 ·simp [hl,List.take_of_length_le (Nat.le_of_eq hl)]
 ·cases i with
  | zero =>
   simp only [List.getElem?_cons_zero,Option.some.injEq] at hy
   subst hy
   exact ⟨cs,rfl,E.keep hx ((Ext.alloc w _).keep _)⟩
  | succ i=>simp at hy
 ·simp only [Option.some.injEq] at ha
  subst ha
  have:=hS _ hb
  simp at this
theorem Zy8 : ApT prog 159 23 1 24:=Zga (z:=.slice none 0 0) (by kernel_rfl) (by kernel_rfl) rfl (by decide)
theorem Zsh {p : Pack} {pD pP pO mD mDev mOpt mOv : Sl} {over : List Dep} {S : Nat → Prop} {w : World} {R : Sl → World → Prop} (hS : Old S w) (hD : SlR depE w S pD p.deps) (hO : SlR depE w S pO p.opt) (hV : SlR depE w S mOv over) (hb : (p.deps.length + p.opt.length) * 48 ≤ room)
  (hR : ∀ t w',Ext w w' → SepW w' (fun b=>w.heap.size ≤ b ∧ b < w'.heap.size) t (Zf7 over p.deps p.opt) → R t w') : SE.Zis p.name p.v.ma p.v.mi p.v.pa pD pP pO mD mDev mOpt mOv w R:=by
 unfold SE.Zis
 refine newS.intro fun a w1 x1 ha _ _ => newS.intro fun a1 w2 x2 ha1 _ _ => ?_
 have x02:=x1.trans x2
 refine ⟨mD,mDev,mOpt,mOv,BoxAt.at0 ha1 (Ext.refl _) rfl,pD,BoxAt.at1 ha x2 rfl,newS.intro fun a4 w3 x3 hb4 hab _ => ⟨pO,BoxAt.at1 ha (x2.trans x3) rfl,?_⟩⟩
 have x03:=x02.trans x3
 have s3:=x03.size
 have hone : SlR depsE w3 (fun b=>S b ∨ b = a4.block) ⟨some a4,1,1⟩ [p.deps]:=Ziw (E:=depsE) hb4 ⟨pD,rfl,hD.ext x03⟩ (by decide)
 have hlt:=hb4.lt
 refine SE.Zg3.go (Zk8 (S:=fun b=>S b ∨ b = a4.block) (ms:=[p.deps]) (over:=over) (ml:=p.opt) (fun b hb=>?_) ((hV.ext x03).mono fun _ h=>.inl h) hone ((hO.ext x03).mono fun _ h=>.inl h) (by simpa using hb) fun t w4 x4 h4=>⟨_,rfl,hR _ _ (x03.trans x4) ?_⟩)
 ·rcases hb with hb | rfl
  ·have:=hS b hb; omega
  ·exact hlt
 ·rw [List.flatten_cons,List.flatten_nil,List.append_nil] at h4
  obtain ⟨k1,k0,k2⟩:=h4
  refine ⟨k1,k0,k2.imp id fun ⟨g,tail,z,e1,e2,e3,e4,e5,e6⟩=>⟨g,tail,z,e1,⟨by omega,e2.2⟩,e3,e4,fun q hq=>?_,e6⟩⟩
  obtain ⟨f1,f2,f3,f4⟩:=e5 q hq
  exact ⟨f1,f2,f3,fun b hb=>⟨⟨by have:=(f4 b hb).1.1; omega,(f4 b hb).1.2⟩,(f4 b hb).2⟩⟩
theorem Zlg {m : Mani} {mD mDev mOpt mOv : Sl} {dev : Bool} {S : Nat → Prop} {w : World} {R : Sl → World → Prop} (hS : Old S w) (hD : SlR depE w S mD m.deps) (hE : SlR depE w S mDev m.dev) (hO : SlR depE w S mOpt m.opt) (hV : SlR depE w S mOv m.over) (hb : (m.deps.length + m.dev.length + m.opt.length) * 48 ≤ room)
  (hR : ∀ t w',Ext w w' → SepW w' (fun b=>w.heap.size ≤ b ∧ b < w'.heap.size) t (Zf7 m.over (Zdo m dev) m.opt) → R t w') : SE.Zfj mD mDev mOpt mOv dev w R:=by
 unfold SE.Zfj
 refine newS.intro fun a w1 x1 ha _ _ => ⟨mD,BoxAt.at0 ha (Ext.refl _) rfl,?_⟩
 refine newS.ownS (E:=depsE) (x:=m.deps) (S:=S) (hS.ext x1.size) ⟨mD,rfl,hD.ext x1⟩ fun a1 w2 x2 own hab=>?_
 have x02:=x1.trans x2
 have s1:=x1.size; have s2:=x2.size
 have eb : depsE.bytes = 24:=rfl
 refine join.named fun J hJ=>?_
 have key : ∀ must w3 (ms : List (List Dep)),Ext w1 w3 → SlR depsE w3 (fun b=>S b ∨ (w.heap.size ≤ b ∧ b < w3.heap.size)) must ms → ms.flatten = Zdo m dev → J must w3:=by
  subst hJ
  intro must w3 ms x3 hms hfl
  have x03:=x1.trans x3
  have s3:=x03.size
  have hlen : (Zdo m dev).length ≤ m.deps.length + m.dev.length:=by
   unfold Zdo
   split
   ·rw [List.length_append]; exact Nat.le_refl _
   ·omega
  refine ⟨mD,mDev,mOpt,mOv,BoxAt.at0 ha x3 rfl,mOpt,BoxAt.at1 ha x3 rfl,SE.Zg3.go (Zk8 (S:=fun b=>S b ∨ (w.heap.size ≤ b ∧ b < w3.heap.size)) (over:=m.over) (ml:=m.opt) (fun b hb=>?_) ((hV.ext x03).mono fun _ h=>.inl h) hms ((hO.ext x03).mono fun _ h=>.inl h) (by rw [hfl]; have : ((Zdo m dev).length + m.opt.length) * 48 ≤ (m.deps.length + m.dev.length + m.opt.length) * 48:=Nat.mul_le_mul_right _ (by omega); omega) fun t w4 x4 h4=>⟨_,rfl,hR _ _ (x03.trans x4) ?_⟩)⟩
  ·rcases hb with hb | hb
   ·have:=hS b hb; omega
   ·exact hb.2
  ·rw [hfl] at h4
   obtain ⟨k1,k0,k2⟩:=h4
   refine ⟨k1,k0,k2.imp id fun ⟨g,tail,z,e1,e2,e3,e4,e5,e6⟩=>⟨g,tail,z,e1,⟨by omega,e2.2⟩,e3,e4,fun q hq=>?_,e6⟩⟩
   obtain ⟨f1,f2,f3,f4⟩:=e5 q hq
   exact ⟨f1,f2,f3,fun b hb=>⟨⟨by have:=(f4 b hb).1.1; omega,(f4 b hb).1.2⟩,(f4 b hb).2⟩⟩
 refine ⟨fun h=>?_,fun h=>?_⟩
 ·subst h
  refine ⟨mDev,BoxAt.at1 ha x2 rfl,newS.intro fun a8 w3 x3 hb8 hab8 _ => ?_⟩
  refine (own.ext x3).push Zy8 (x2.trans x3).size (x:=m.dev) (S':=S) ⟨mDev,rfl,hE.ext (x02.trans x3)⟩ (hb8.ldc.pre (r:=[]) rfl) (hS.ext (x02.trans x3).size) (fun ad ha hb=>(own.apart ad ha hb)) (by rw [eb]; unfold room; simp) (by rw [Zd]; simp) fun r w4 own4 bel _ _ => ?_
  have x14 : Ext w1 w4:=(x2.trans x3).trans' bel
  refine key _ _ [m.deps,m.dev] x14 ((own4.read (by rw [eb]; unfold room; simp) (by rw [Zd]; simp)).mono fun b hb=>?_) (by simp [Zdo])
  rcases hb with (hb | hb) | ⟨ad,ha',rfl⟩
  ·exact .inl hb
  ·exact .inl hb
  ·have:=own4.block ha'; exact .inr ⟨by omega,this.2.1⟩
 ·subst h
  refine key _ _ [m.deps] x2 ((own.read (by rw [eb]; unfold room; simp) (by rw [Zd]; simp)).mono fun b hb=>?_) (by simp [Zdo])
  rcases hb with hb | ⟨ad,ha',rfl⟩
  ·exact .inl hb
  ·have:=own.block ha'; exact .inr ⟨by omega,this.2.1⟩
end Go.Hal
namespace Go.Hal
open Go.Proofs.Tryz
open Go Go.RowKit Go.Proofs Go.Shelf
theorem SepW.read {w : World} {S : Nat → Prop} {s : Sl} {L : List Want} (h : SepW w S s L) (hb : L.length * 48 ≤ room) : SlR wantE w S s L:=by
 obtain ⟨h1,h0,h2⟩:=h
 have hm : L.length ≤ maxLen:=by rw [Zd]; unfold room at hb; omega
 refine ⟨h1,by rw [h0]; exact Nat.le_refl _,by rw [h0]; exact hm,hb,?_⟩
 rcases h2 with rfl | ⟨g,tail,z,e1,e2,e3,e4,e5,e6⟩
 ·exact .inl rfl
 ·refine .inr ⟨_,e1,e2,fun i x hx=>?_⟩
  rw [← e4,List.getElem?_map] at hx
  cases hz : z[i]? with
  | none=>rw [hz] at hx; cases hx
  | some q =>
   rw [hz] at hx
   simp only [Option.map_some,Option.some.injEq] at hx
   subst hx
   obtain ⟨f1,f2,⟨f3,u,f5,f6⟩,f4⟩:=e5 q (List.mem_of_getElem? hz)
   refine ⟨StW.cells q.1,⟨f3,u,f5,f6.1.mono fun b hb=>(f4 b hb).1⟩,e3.ld' (f:=StW.cells) (k:=3) (fun _ => rfl) (by rw [List.getElem?_map,hz]; rfl)⟩
end Go.Hal
namespace Go.Hal
open Go.Proofs.Tryz
open Go Go.RowKit Go.Proofs Go.Shelf
def edgeE : Enc Edge:=Zpg 2 24 (fun x=>[.string x.name,.int .i64 x.to]) (fun x=>Str x.name) (fun _ => rfl) (fun _ v hv=>by simp at hv; rcases hv with rfl | rfl <;> rfl)
def nodeE : Enc Node where
 n:=6
 bytes:=88
 rep:=fun w S x cs=>Str x.name ∧ ∃ c e : Sl,cs = [.string x.name,.int .i64 x.v.ma,.int .i64 x.v.mi,.int .i64 x.v.pa,c.v,e.v] ∧ SlR pinE w S c x.ctx ∧ SlR edgeE w S e x.edges
 len:=fun ⟨_,_,_,h,_⟩=>by rw [h]; rfl
 one:=fun ⟨_,_,_,h,_⟩ v hv=>by rw [h] at hv; simp [Sl.v] at hv; rcases hv with rfl | rfl | rfl | rfl | rfl | rfl <;> rfl
 mono:=fun ⟨h0,c,e,h,a,b⟩ hs=>⟨h0,c,e,h,a.mono hs,b.mono hs⟩
 keep:=fun ⟨h0,c,e,h,a,b⟩ hk=>⟨h0,c,e,h,a.keep hk,b.keep hk⟩
def chE : Enc Ch where
 n:=5
 bytes:=64
 rep:=fun w S x cs=>Str x.name ∧ ∃ v : Sl,cs = [.int .i64 x.node,.string x.name,v.v,.bool x.none,.int .i64 x.i] ∧ SlR verE w S v x.vs
 len:=fun ⟨_,_,h,_⟩=>by rw [h]; rfl
 one:=fun ⟨_,_,h,_⟩ v hv=>by rw [h] at hv; simp [Sl.v] at hv; rcases hv with rfl | rfl | rfl | rfl | rfl <;> rfl
 mono:=fun ⟨h0,c,h,a⟩ hs=>⟨h0,c,h,a.mono hs⟩
 keep:=fun ⟨h0,c,h,a⟩ hk=>⟨h0,c,h,a.keep hk⟩
theorem apCh : ApT prog 76 81 5 64:=Zga (z:=.agg #[.int .i64 0,.string ⟨#[]⟩,.slice none 0 0,.bool false,.int .i64 0]) (by kernel_rfl) (by kernel_rfl) rfl (by decide)
theorem Zqa : ApT prog 36 65 6 88:=Zga (z:=.agg #[.string ⟨#[]⟩,.int .i64 0,.int .i64 0,.int .i64 0,.slice none 0 0,.slice none 0 0]) (by kernel_rfl) (by kernel_rfl) rfl (by decide)
theorem Zw7 : ApT prog 63 90 2 24:=Zga (z:=.agg #[.string ⟨#[]⟩,.int .i64 0]) (by kernel_rfl) (by kernel_rfl) rfl (by decide)
theorem Z0g : ApT prog 77 3 1 8:=Zga (z:=.int .i64 0) (by kernel_rfl) (by kernel_rfl) rfl (by decide)
structure K7 where
 cp : Addr
 mD : Sl
 mDev : Sl
 mOpt : Sl
 mOv : Sl
 dev : Bool
 pS : Sl
def Zef (K : K7) (stk nds ahd ws : Sl) (first : Nat) : List Value:=[.pointer (some K.cp),K.mD.v,K.mDev.v,K.mOpt.v,K.mOv.v,.bool K.dev,K.pS.v,stk.v,nds.v,ahd.v,ws.v,.int .i64 first]
structure Cs (w : World) (lo : Nat) (q : Quest) (K : K7) : Prop where
 cat : ∃ S r,CatL w S K.cp r q.L ∧ (∀ b,S b → b < lo) ∧ r < lo ∧ K.cp.block < lo
 deps : SlR depE w (· < lo) K.mD q.m.deps
 dv : SlR depE w (· < lo) K.mDev q.m.dev
 opt : SlR depE w (· < lo) K.mOpt q.m.opt
 over : SlR depE w (· < lo) K.mOv q.m.over
 pins : SlR pinE w (· < lo) K.pS q.pins
 dev : K.dev = q.dev
 le : lo ≤ w.heap.size
 small : q.m.deps.length + q.m.dev.length + q.m.opt.length ≤ 48
theorem Cs.below {w w' : World} {lo : Nat} {q : Quest} {K : K7} (h : Cs w lo q K) (hb : Below lo w w') : Cs w' lo q K:=by
 obtain ⟨S,r,a,b,c,d⟩:=h.cat
 have s:=hb.size
 have hlt : ∀ x,(S x ∨ x = K.cp.block ∨ x = r) → x < lo:=fun x hh=>by
  rcases hh with hh | rfl | rfl
  ·exact b x hh
  ·exact d
  ·exact c
 exact ⟨⟨S,r,a.stay s fun x hx hh=>hb.block x (hlt x hh),b,c,d⟩,h.deps.below hb fun _ h=>h,h.dv.below hb fun _ h=>h,h.opt.below hb fun _ h=>h,h.over.below hb fun _ h=>h,h.pins.below hb fun _ h=>h,h.dev,Nat.le_trans h.le s,h.small⟩
theorem Cs.old {w : World} {lo : Nat} {q : Quest} {K : K7} (h : Cs w lo q K) : Old (· < lo) w:=fun b hb=>Nat.lt_of_lt_of_le hb h.le
def Off (s : Sl) (g : Nat) : Prop:=∀ ad,s.a = some ad → ad.block ≠ g
structure Sr0 (w : World) (lo : Nat) (g : Nat) (stk nds ahd ws : Sl) (Q : Nat → Prop) (s : St) : Prop where
 stack : OwnS chE 81 w lo Q stk s.stack
 nodes : OwnS nodeE 65 w lo Q nds s.ns
 ahead : OwnS intE 3 w lo Q ahd (s.ahead.map Int.ofNat)
 wants : SlR wantE w Q ws s.ws
 q : ∀ b,Q b → lo ≤ b ∧ b ≠ g
 a1 : Apart stk nds
 a2 : Apart stk ahd
 a3 : Apart nds ahd
 o1 : Off stk g
 o2 : Off nds g
 o3 : Off ahd g
section
variable {w w' : World} {lo g : Nat} {stk nds ahd ws : Sl} {Q : Nat → Prop} {s : St}
theorem Sr0.but (h : Sr0 w lo g stk nds ahd ws Q s) (hb : But g w w') : Sr0 w' lo g stk nds ahd ws Q s:=by
 have hg : ¬ Q g:=fun h0=>(h.q g h0).2 rfl
 exact ⟨h.stack.but hb hg fun ad ha=>(h.o1 ad ha).symm,h.nodes.but hb hg fun ad ha=>(h.o2 ad ha).symm,h.ahead.but hb hg fun ad ha=>(h.o3 ad ha).symm,h.wants.but hb hg,h.q,h.a1,h.a2,h.a3,h.o1,h.o2,h.o3⟩
theorem Sr0.ext (h : Sr0 w lo g stk nds ahd ws Q s) (hx : Ext w w') : Sr0 w' lo g stk nds ahd ws Q s :=
 ⟨h.stack.ext hx,h.nodes.ext hx,h.ahead.ext hx,h.wants.ext hx,h.q,h.a1,h.a2,h.a3,h.o1,h.o2,h.o3⟩
theorem Sr0.grow (h : Sr0 w lo g stk nds ahd ws Q s) (hx : Ext w w') (hlo : lo ≤ w.heap.size) (hg : g < w.heap.size) : Sr0 w' lo g stk nds ahd ws (fun b=>Q b ∨ (w.heap.size ≤ b ∧ b < w'.heap.size)) s:=by
 have hs:=hx.size
 have key : ∀ {α : Type} {E : Enc α} {T : TypeId} {x : Sl} {l : List α},OwnS E T w lo Q x l → OwnS E T w' lo (fun b=>Q b ∨ (w.heap.size ≤ b ∧ b < w'.heap.size)) x l:=fun o=>(o.ext hx).mono (fun _ h=>.inl h) (fun b hb=>by
   rcases hb with hb | hb
   ·have:=o.lt b hb; omega
   ·exact hb.2) (fun ad ha hb=>by
   rcases hb with hb | hb
   ·exact o.apart ad ha hb
   ·have:=(o.block ha).2.1; omega)
 exact ⟨key h.stack,key h.nodes,key h.ahead,(h.wants.ext hx).mono fun _ h=>.inl h,fun b hb=>by
  rcases hb with hb | hb
  ·exact h.q b hb
  ·exact ⟨by omega,by omega⟩,h.a1,h.a2,h.a3,h.o1,h.o2,h.o3⟩
end
def SrAt (w : World) (lo : Nat) (sp : Addr) (K : K7) (s : St) : Prop:=∃ stk nds ahd ws Q,BoxAt w sp (Zef K stk nds ahd ws s.first) ∧ lo ≤ sp.block ∧ Sr0 w lo sp.block stk nds ahd ws Q s
theorem _root_.Go.Hal.Ext.below' {w w' : World} (h : Ext w w') (lo : Nat) (hl : lo ≤ w.heap.size) : Below lo w w':=Below.mono h hl
theorem Zrs {w : World} {a : Addr} {cs : List Value} (h : BoxAt w a cs) : a.block < w.heap.size:=h.lt
theorem Zgm (over a b : List Dep) : (Zf7 over a b).length = a.length + b.length:=by
 unfold Zf7
 rw [Zhu,List.length_append,List.length_map,List.length_map]
theorem Zim (m : Mani) (dev : Bool) : (Zdo m dev).length ≤ m.deps.length + m.dev.length:=by
 unfold Zdo
 split
 ·rw [List.length_append]; exact Nat.le_refl _
 ·omega
theorem Zvw {w : World} {lo : Nat} {s : Sl} {l : List Ver} (h : FlatO Ver.c 24 w lo s l) : SlR verE w (fun b=>lo ≤ b ∧ b < w.heap.size) s l:=FlatO.read (E:=verE) h (fun _ => rfl) fun _ _ x _ => ⟨rfl,trivial⟩
theorem Zsv {c : Ch} {v : Sl} {S : Nat → Prop} {w : World} {R : Int → World → Prop} (hv : SlR verE w S v c.vs) (hl : c.vs.length ≤ 1000) (hR : ∀ w',Ext w w' → R (c.many : Int) w') : SE.Zcr c.node c.name v c.none c.i w R:=by
 unfold SE.Zcr
 have hvl:=hv.len
 refine newS.intro fun a w1 x1 ha _ _ => ⟨c.none,BoxAt.at1 ha (k:=3) (Ext.refl _) rfl,fun h=>?_,fun h=>?_⟩
 ·refine ⟨v,BoxAt.at1 ha (k:=2) (Ext.refl _) rfl,?_⟩
  have e : Za ((v.len : Int) + 1) = (c.many : Int):=by
   rw [Zb (by omega) (by omega)]
   unfold Ch.many
   rw [if_pos h]; omega
  rw [e]; exact hR _ x1
 ·refine ⟨v,BoxAt.at1 ha (k:=2) (Ext.refl _) rfl,?_⟩
  have e : (v.len : Int) = (c.many : Int):=by
   unfold Ch.many
   rw [if_neg (by rw [h]; decide)]; omega
  rw [e]; exact hR _ x1
theorem Zkx {s : Sl} {l : List Pin} {n : ByteArray} {S : Nat → Prop} {w : World} {R : Int → Int → Int → Bool → World → Prop} (hs : SlR pinE w S s l)
  (hsome : ∀ v w',tells l n = some v → Ext w w' → R v.ma v.mi v.pa true w') (hnone : ∀ w',tells l n = none → Ext w w' → R 0 0 0 false w') : SE.Zd4 s n w R:=by
 unfold SE.Zd4
 have hl:=hs.len
 refine newS.intro fun a w1 x1 ha hab _ => ?_
 refine loop1.up hs.max (fun i w'=>Ext w1 w' ∧ (l.take i).find? (isN n) = none) ⟨Ext.refl _,rfl⟩ fun i w2 nxt hi ⟨x2,hI⟩ hn=>⟨fun hlt=>?_,fun hge=>?_⟩
 ·have hlt' : i < l.length:=by omega
  have x02:=x1.trans x2
  obtain ⟨ad,hsa,_,hN,hc⟩:=Zg0 hs hlt'
  refine ⟨ad,⟨hsa,by omega,hlt⟩,_,_,_,_,hc _ x02,newS.intro fun a3 w3 x3 hb3 ha3 _ => stw0.intro hb3 (by simp) fun w4 b4 _ hb4=>?_⟩
  have x24 : Ext w2 w4:=b4.ext x3 (by omega)
  have x14:=x2.trans x24
  refine ⟨_,hb4.at0 (Ext.refl _) rfl,fun he=>?_,fun he=>?_⟩
  ·refine ⟨_,_,_,BoxAt.at1 hb4 (k:=1) (Ext.refl _) rfl,stw0.intro (ha.ext x14) (by simp) fun w5 b5 _ hb5=>⟨_,_,_,hb5.at0 (r:=[]) (Ext.refl _) rfl,?_⟩⟩
   have hf:=Zmr (p:=isN n) hlt' hI (by simp [isN,he])
   exact hsome l[i].v w5 (by unfold tells; rw [hf]; rfl) (b5.ext (x1.trans x14) (by omega))
  ·refine hn hlt' _ ⟨x14,?_⟩
   rw [Ze7 hlt' hI,if_neg (by simp [isN,he])]
 ·have : i = l.length:=by omega
  rw [this,List.take_length] at hI
  refine stw0.intro (ha.ext x2) (by simp) fun w3 b3 _ hb3=>⟨_,_,_,hb3.at0 (r:=[]) (Ext.refl _) rfl,hnone w3 (by unfold tells; rw [hI]; rfl) (b3.ext (x1.trans x2) (by omega))⟩
end Go.Hal
namespace Go.Hal
open Go.Proofs.Tryz
open Go Go.RowKit Go.Proofs Go.Shelf
section
variable {w : World} {lo : Nat} {sp : Addr} {K : K7} {q : Quest} {s : St}
theorem Sr0.setWs {stk nds ahd ws t : Sl} {Q : Nat → Prop} {l : List Want} {k : World → Prop} (hb : BoxAt w sp (Zef K stk nds ahd ws s.first)) (hlo : lo ≤ sp.block) (h0 : Sr0 w lo sp.block stk nds ahd ws Q s) (ht : SlR wantE w Q t l)
  (hk : ∀ w',But sp.block w w' → BoxAt w' sp (Zef K stk nds ahd t s.first) → Sr0 w' lo sp.block stk nds ahd t Q { s with ws:=l } → k w') : stw w (sp.add 10) [t.v] k :=
 stw.intro (o:=10) hb (by show 11 ≤ 12; omega) fun w' b _ hb'=>hk w' b hb'
  (have h:=h0.but b
  ⟨h.stack,h.nodes,h.ahead,ht.but b fun h1=>(h0.q _ h1).2 rfl,h.q,h.a1,h.a2,h.a3,h.o1,h.o2,h.o3⟩)
theorem Sr0.setFirst {stk nds ahd ws : Sl} {Q : Nat → Prop} {n : Nat} {k : World → Prop} (hb : BoxAt w sp (Zef K stk nds ahd ws s.first)) (hlo : lo ≤ sp.block) (h0 : Sr0 w lo sp.block stk nds ahd ws Q s)
  (hk : ∀ w',But sp.block w w' → SrAt w' lo sp K { s with first:=n } → k w') : stw w (sp.add 11) [.int .i64 n] k :=
 stw.intro (o:=11) hb (by show 12 ≤ 12; omega) fun w' b _ hb'=>hk w' b ⟨stk,nds,ahd,ws,Q,hb',hlo,
  have h:=h0.but b
  ⟨h.stack,h.nodes,h.ahead,h.wants,h.q,h.a1,h.a2,h.a3,h.o1,h.o2,h.o3⟩⟩
theorem Zlv {L : List Pack} (hG : GoodL L) (n : ByteArray) (v : Ver) : (getD L n v).deps.length ≤ 16 ∧ (getD L n v).peers.length ≤ 16 ∧ (getD L n v).opt.length ≤ 16:=by
 unfold getD
 cases h : getL L n v with
 | none=>exact ⟨Nat.zero_le _,Nat.zero_le _,Nat.zero_le _⟩
 | some p =>
  obtain ⟨_,_,h1,h2,h3⟩:=Zhh (hG.may p (Ze8 h).1)
  exact ⟨(Zk h1).1,(Zk h2).1,(Zk h3).1⟩
theorem Zmb {ns : List Node} {k : Nat} {x : Node} (hk : k ≠ 0) (hx : ns[k]? = some x) : q.wants ns k = Zf7 q.m.over (getD q.L x.name x.v).deps (getD q.L x.name x.v).opt:=by
 unfold Quest.wants Zu0 keyAt
 rw [if_neg hk,List.getElem?_map,hx]
 show (match getL q.L x.name x.v with | none=>[] | some p=>Zf7 q.m.over p.deps p.opt) = _
 unfold getD
 cases getL q.L x.name x.v with
 | none=>rfl
 | some p=>rfl
theorem Zq8 {k : Nat} {stk nds ahd ws : Sl} {Q : Nat → Prop} {R : World → Prop} (hC : Cs w lo q K) (hb : BoxAt w sp (Zef K stk nds ahd ws s.first)) (hlo : lo ≤ sp.block) (h0 : Sr0 w lo sp.block stk nds ahd ws Q s) (hk : k < s.ns.length)
  (hR : ∀ w' ws' Q',But sp.block w w' → BoxAt w' sp (Zef K stk nds ahd ws' s.first) → Sr0 w' lo sp.block stk nds ahd ws' Q' { s with ws:=q.wants s.ns k } → R w') : SE.Zbp (some sp) (k : Int) w R:=by
 unfold SE.Zbp
 have hsm:=hC.small
 refine ⟨fun hk0=>bnd.drew fun w1 x1=>⟨sp,rfl,K.mD,K.mDev,K.mOpt,K.mOv,BoxAt.at1 hb (k:=1) x1 rfl,sp,rfl,K.dev,BoxAt.at1 hb (k:=5) x1 rfl,?_⟩,fun hk0=>?_⟩
 ·have hk0' : k = 0:=by omega
  subst hk0'
  have hC1:=hC.below (x1.below' lo hC.le)
  refine SE.Zfj.go (Zlg (m:=q.m) hC1.old hC1.deps hC1.dv hC1.opt hC1.over (by unfold room; omega) fun t w2 x2 hsep=>⟨_,rfl,sp,rfl,?_⟩)
  have x02:=x1.trans x2
  have hg:=Zrs hb
  have hrd:=hsep.read (by rw [Zgm]; have:=Zim q.m K.dev; unfold room; omega)
  have h2:=h0.grow x02 hC.le hg
  have s1:=x1.size
  refine Sr0.setWs (l:=q.wants s.ns 0) (hb.ext x02) hlo h2 ?_ fun w3 b3 hb3 h3=>hR w3 _ _ ((x02.but _).trans b3) hb3 h3
  rw [hC.dev] at hrd
  exact hrd.mono fun b hb=>.inr ⟨by omega,hb.2⟩
 ·have hk0' : k ≠ 0:=by omega
  have hx : s.ns[k]? = some s.ns[k]:=List.getElem?_eq_getElem hk
  obtain ⟨ad,cs,hna,⟨hN,c,e,rfl,_,_⟩,hc⟩:=h0.nodes.el hx
  have hnl:=h0.nodes.len
  obtain ⟨S,r,hcat,hS,hr,hcp⟩:=hC.cat
  have hG:=hcat.good
  obtain ⟨g1,g2,g3⟩:=Zlv hG s.ns[k].name s.ns[k].v
  have hg:=Zrs hb
  refine join.named fun J hJ=>bnd.drew fun w1 x1=>?_
  refine ⟨sp,rfl,_,BoxAt.at0 hb x1 rfl,sp,rfl,nds,BoxAt.at1 hb (k:=8) x1 rfl,ad,⟨hna,by omega,by omega⟩,s.ns[k].name,(hc _ x1).pre rfl,sp,rfl,nds,BoxAt.at1 hb (k:=8) x1 rfl,ad,⟨hna,by omega,by omega⟩,s.ns[k].v.ma,s.ns[k].v.mi,s.ns[k].v.pa,(hc _ x1).mid (k:=1) rfl,?_⟩
  have key : ∀ (a : Addr) (d e o : Sl) (wm w3 : World),Ext w wm → Ext wm w3 → BoxAt w3 a [.string (getD q.L s.ns[k].name s.ns[k].v).name,.int .i64 (getD q.L s.ns[k].name s.ns[k].v).v.ma,.int .i64 (getD q.L s.ns[k].name s.ns[k].v).v.mi,.int .i64 (getD q.L s.ns[k].name s.ns[k].v).v.pa,d.v,e.v,o.v] →
    SlR depE w3 (fun b=>b < w3.heap.size) d (getD q.L s.ns[k].name s.ns[k].v).deps → SlR depE w3 (fun b=>b < w3.heap.size) o (getD q.L s.ns[k].name s.ns[k].v).opt → J a w3:=by
   subst hJ
   intro a d e o wm w3 xm x3 hba hd ho
   have x03:=xm.trans x3
   refine bnd.drew fun w4 x4=>?_
   have x04:=x03.trans x4
   have hC4:=hC.below (x04.below' lo hC.le)
   refine ⟨_,_,_,_,d,e,o,hba.at0 (r:=[]) x4 rfl,sp,rfl,K.mD,K.mDev,K.mOpt,K.mOv,BoxAt.at1 hb (k:=1) x04 rfl,?_⟩
   have s4:=x4.size
   refine SE.Zis.go (Zsh (p:=getD q.L s.ns[k].name s.ns[k].v) (S:=fun b=>b < w4.heap.size) (fun b h=>h) ((hd.ext x4).mono fun b h=>by omega) ((ho.ext x4).mono fun b h=>by omega) (hC4.over.mono fun b h=>by have:=hC4.le; omega) (by unfold room; omega) fun t w5 x5 hsep=>⟨_,rfl,sp,rfl,?_⟩)
   have x05:=x04.trans x5
   have hrd:=hsep.read (by rw [Zgm]; unfold room; omega)
   have h5:=h0.grow x05 hC.le hg
   have s04:=x04.size
   refine Sr0.setWs (l:=q.wants s.ns k) (hb.ext x05) hlo h5 ?_ fun w6 b6 hb6 h6=>hR w6 _ _ ((x05.but _).trans b6) hb6 h6
   rw [Zmb hk0' hx]
   exact hrd.mono fun b hb=>.inr ⟨by omega,hb.2⟩
  refine ⟨SE.Za2.go (Zic (n:=s.ns[k].name) (v:=s.ns[k].v) (hcat.ext x1) fun d e o w3 x3 _ hd he ho=>⟨_,_,_,_,_,_,_,_,rfl,newS.intro fun a w4 x4 hb4 hab _ => stw0.intro hb4 (by simp) fun w5 b5 _ hb5=>?_⟩),newS.intro fun a w3 x3 hb3 hab _ => SE.Za2.go (Zic (n:=s.ns[k].name) (v:=s.ns[k].v) ((hcat.ext x1).ext x3) fun d e o w4 x4 _ hd he ho=>⟨_,_,_,_,_,_,_,_,rfl,stw0.intro (hb3.ext x4) (by simp) fun w5 b5 _ hb5=>?_⟩)⟩
  ·have x35 : Ext w3 w5:=b5.ext x4 (by omega)
   have s5:=x35.size
   exact key a d e o w3 w5 (x1.trans x3) x35 hb5 ((hd.dep.ext x35).mono fun b h=>by omega) ((ho.dep.ext x35).mono fun b h=>by omega)
  ·have x15 : Ext w1 w5:=b5.ext (x3.trans x4) (by omega)
   have hna : ∀ b,(w3.heap.size ≤ b ∧ b < w4.heap.size) → b ≠ a.block:=fun b h=>by omega
   have s5:=b5.1
   exact key a d e o w1 w5 x1 x15 hb5 ((hd.dep.but b5 fun h=>hna _ h rfl).mono fun b h=>by omega) ((ho.dep.but b5 fun h=>hna _ h rfl).mono fun b h=>by omega)
theorem Zyz {k : Nat} {R : World → Prop} (hC : Cs w lo q K) (h : SrAt w lo sp K s) (hk : k < s.ns.length) (hR : ∀ w',Below lo w w' → SrAt w' lo sp K { s with ws:=q.wants s.ns k } → R w') : SE.Zbp (some sp) (k : Int) w R:=by
 obtain ⟨stk,nds,ahd,ws,Q,hb,hlo,h0⟩:=h
 exact Zq8 hC hb hlo h0 hk fun w' ws' Q' b hb' h'=>hR w' (b.below hC.le hlo) ⟨stk,nds,ahd,ws',Q',hb',hlo,h'⟩
theorem Zmh {R : World → Prop} (hC : Cs w lo q K) (h : SrAt w lo sp K s) (hk : s.ahead.length < s.ns.length) (hR : ∀ w',Below lo w w' → SrAt w' lo sp K { s with first:=s.stack.length,ws:=q.wants s.ns s.ahead.length } → R w') : SE.Zbb (some sp) w R:=by
 unfold SE.Zbb
 obtain ⟨stk,nds,ahd,ws,Q,hb,hlo,h0⟩:=h
 have hsl:=h0.stack.len
 have hal:=h0.ahead.len
 rw [List.length_map] at hal
 refine ⟨sp,rfl,ahd,BoxAt.at1 hb (k:=9) (Ext.refl _) rfl,sp,rfl,stk,BoxAt.at1 hb (k:=7) (Ext.refl _) rfl,sp,rfl,?_⟩
 rw [hsl,hal]
 refine Sr0.setFirst (n:=s.stack.length) hb hlo h0 fun w1 b1 h1=>?_
 have bel:=b1.below hC.le hlo
 exact SE.Zbp.go (Zyz (hC.below bel) h1 hk fun w2 bel2 h2=>⟨rfl,hR w2 (bel.trans bel2) h2⟩)
end
end Go.Hal
namespace Go.Hal
open Go.Proofs.Tryz
open Go Go.RowKit Go.Proofs Go.Shelf
section
variable {w : World} {lo : Nat} {sp : Addr} {K : K7} {q : Quest} {s : St}
theorem Zqj {ns : List Node} {k : Nat} {x : Node} (h : ns[k]? = some x) : ctxAt ns k = x.ctx:=by
 unfold ctxAt keyAt
 rw [List.getElem?_map,h]; rfl
theorem Zng {wt : Want} {rs : Sl} {SR : Nat → Prop} {R : Int → ByteArray → Sl → Bool → Int → World → Prop} (hC : Cs w lo q K) (h : SrAt w lo sp K s) (hk : s.ahead.length < s.ns.length) (hN : Str wt.name) (hSR : Old SR w) (hr : SlR spanE w SR rs wt.range)
  (hR : ∀ v w',Ext w w' → SlR verE w' (fun b=>w.heap.size ≤ b ∧ b < w'.heap.size) v (q.ch s.ahead.length (ctxAt s.ns s.ahead.length) wt).vs → R (s.ahead.length : Int) wt.name v (q.ch s.ahead.length (ctxAt s.ns s.ahead.length) wt).none 0 w') : SE.Zbv (some sp) wt.name wt.kind rs w R:=by
 unfold SE.Zbv
 obtain ⟨stk,nds,ahd,ws,Q,hb,hlo,h0⟩:=h
 have hal:=h0.ahead.len
 rw [List.length_map] at hal
 have hnl:=h0.nodes.len
 have hx : s.ns[s.ahead.length]? = some s.ns[s.ahead.length]:=List.getElem?_eq_getElem hk
 obtain ⟨ad,cs,hna,⟨hNx,c,e,rfl,hctx,_⟩,hcx⟩:=h0.nodes.el hx
 have hcA:=Zqj hx
 obtain ⟨S,r,hcat,hS,hrl,hcp⟩:=hC.cat
 have hch : q.ch s.ahead.length (ctxAt s.ns s.ahead.length) wt = ⟨s.ahead.length,wt.name,(q.cand (ctxAt s.ns s.ahead.length) wt).1,(q.cand (ctxAt s.ns s.ahead.length) wt).2,0⟩:=rfl
 rw [hch] at hR
 dsimp only at hR
 rw [hcA] at hR
 refine newS.intro fun a w1 x1 ha hab _ => newS.intro fun a1 w2 x2 ha1 ha1b _ => ?_
 have x02:=x1.trans x2
 have s1:=x1.size; have s2:=x2.size
 refine ⟨sp,rfl,ahd,BoxAt.at1 hb (k:=9) x02 rfl,wt.name,BoxAt.at0 ha x2 rfl,newS.intro fun a4 w3 x3 hb4 ha4b _ => stw0.intro hb4 (by simp) fun w4 b4 _ hb5=>?_⟩
 have s3:=x3.size
 have x24 : Ext w2 w4:=b4.ext x3 (by omega)
 have x04:=x02.trans x24
 have x14:=x2.trans x24
 rw [hal] at hb5 ⊢
 have hl4 : a4.block < w4.heap.size:=hb5.lt
 have hl1 : a1.block < w4.heap.size:=by have:=ha1.lt; omega
 have hne : a1.block ≠ a4.block:=by have:=ha1.lt; omega
 have fin : ∀ (w8 : World) (v : Sl) (nb : Bool) (l : List Ver),Ext w2 w8 → w4.heap.size ≤ w8.heap.size → BoxAt w8 a4 [.int .i64 (s.ahead.length : Int),.string wt.name,v.v,.bool nb,.int .i64 0] → SlR verE w8 (fun b=>w4.heap.size ≤ b ∧ b < w8.heap.size) v l → q.cand s.ns[s.ahead.length].ctx wt = (l,nb) →
   ∃ (t40_node : Int) (t40_name : ByteArray) (t40_versions : Sl) (t40_none : Bool) (t40_at : Int),(ldc w8 a4 [(Value.int .i64 t40_node),(Value.string t40_name),(Sl.v t40_versions),(Value.bool t40_none),(Value.int .i64 t40_at)]) ∧ stw w8 a1 [(Value.int .i64 t40_node),(Value.string t40_name),(Sl.v t40_versions),(Value.bool t40_none),(Value.int .i64 t40_at)] fun vw10 =>
    ∃ (r_node : Int) (r_name : ByteArray) (r_versions : Sl) (r_none : Bool) (r_at : Int),ldc vw10 a1 [(Value.int .i64 r_node),(Value.string r_name),(Sl.v r_versions),(Value.bool r_none),(Value.int .i64 r_at)] ∧ R r_node r_name r_versions r_none r_at vw10:=fun w8 v nb l x28 hs8 hb8 hv hcd=>by
  refine ⟨_,_,v,_,_,hb8.ldc.pre (r:=[]) rfl,stw0.intro (ha1.ext x28) (by simp) fun w9 b9 _ hb9=>⟨_,_,v,_,_,hb9.at0 (r:=[]) (Ext.refl _) rfl,?_⟩⟩
  have h2:=hR v w9 (b9.ext (x02.trans x28) (by omega))
  rw [hcd] at h2
  have s9:=b9.1
  exact h2 ((hv.but b9 fun h=>by omega).mono fun b h=>⟨by omega,by omega⟩)
 refine join.named fun J hJ=>bnd.drew fun w5 x5=>?_
 have x05:=x04.trans x5
 have x25:=x24.trans x5
 have s5:=x5.size
 have key : ∀ (a6 : Addr) (v : Ver) (is : Bool) (w7 : World),Ext w5 w7 → BoxAt w7 a6 [.int .i64 v.ma,.int .i64 v.mi,.int .i64 v.pa] → (is = true → tells s.ns[s.ahead.length].ctx wt.name = some v) → (is = false → tells s.ns[s.ahead.length].ctx wt.name = none) → J a6 is w7:=by
  subst hJ
  intro a6 v is w7 x57 hb6 ht1 ht2
  have x07:=x05.trans x57
  have x47:=x5.trans x57
  have x27:=x24.trans x47
  have x17:=x2.trans x27
  have hb7:=hb5.ext x47
  have s7:=x57.size
  refine ⟨fun his=>?_,fun his=>?_⟩
  ·have hcand : q.cand s.ns[s.ahead.length].ctx wt = (if Z3 wt.range v then [v] else [],false):=by unfold Quest.cand; rw [ht1 his]
   refine join.named fun J2 hJ2=>⟨rs,BoxAt.at1 ha (k:=2) x17 rfl,v.ma,v.mi,v.pa,hb6.at0 (r:=[]) (Ext.refl _) rfl,SE.Zh5.go (Zk1 (hr.ext x07) fun w8 x8=>⟨_,rfl,fun hin=>?_,fun hin=>?_⟩)⟩
   ·refine ⟨v.ma,v.mi,v.pa,hb6.at0 (r:=[]) x8 rfl,newS.intro fun a9 w9 x9 hb9 ha9 _ => ?_⟩
    have x79:=x8.trans x9
    refine stw.intro (o:=2) (hb7.ext x79) (by simp) fun w10 b10 _ hb10=>?_
    have s8:=x8.size; have s9:=x9.size
    have x210 : Ext w2 w10:=b10.ext (x27.trans x79) (by omega)
    subst hJ2
    have hne9 : a9.block ≠ a4.block:=by omega
    have h1:=(Ziw (E:=verE) (S:=fun _ => False) hb9 ⟨rfl,trivial⟩ (by decide)).but b10 (fun h=>by
     rcases h with h | h
     ·exact h
     ·exact hne9 h.symm)
    have hl9:=hb9.lt
    have s10:=b10.1
    refine fin w10 ⟨some a9,1,1⟩ false [v] x210 (by omega) hb10 (h1.mono fun b hb=>?_) (by rw [hcand,if_pos hin])
    rcases hb with hb | rfl
    ·exact hb.elim
    ·exact ⟨by omega,by omega⟩
   ·subst hJ2
    exact fin w8 Sl.nil false [] (x27.trans x8) (by have:=x8.size; omega) (hb7.ext x8) (SlR.nil trivial) (by rw [hcand,if_neg (by rw [hin]; decide)])
  ·have hcand : q.cand s.ns[s.ahead.length].ctx wt = (Zib q.L wt.name wt.range q.pins,decide (wt.kind = 2)):=by unfold Quest.cand; rw [ht2 his]
   refine bnd.drew fun w8 x8=>?_
   have x78:=x8
   have x08:=x07.trans x8
   have x18:=x17.trans x8
   have hC8:=hC.below (x08.below' lo hC.le)
   refine ⟨sp,rfl,_,BoxAt.at0 hb x08 rfl,wt.name,BoxAt.at0 ha x18 rfl,rs,BoxAt.at1 ha (k:=2) x18 rfl,sp,rfl,K.pS,BoxAt.at1 hb (k:=6) x08 rfl,?_⟩
   refine SE.Za9.go (Zoy (hcat.ext x08) (hSR.ext x08.size) hC8.old (hr.ext x08) hC8.pins fun t w9 x9 hF=>⟨_,rfl,?_⟩)
   have x89:=x9
   have s8:=x8.size; have s9:=x9.size
   refine stw.intro (o:=2) ((hb7.ext x8).ext x9) (by simp) fun w10 b10 _ hb10=>?_
   have x210 : Ext w2 w10:=b10.ext ((x27.trans x8).trans x9) (by omega)
   refine ⟨wt.kind,BoxAt.at1 ha (k:=1) (x2.trans x210) rfl,stw.intro (o:=3) hb10 (by simp) fun w11 b11 _ hb11=>?_⟩
   have x211 : Ext w2 w11:=b11.ext x210 (by omega)
   have e2 : (wt.kind == 2) = decide (wt.kind = 2):=by rw [Bool.eq_iff_iff]; simp
   rw [e2] at hb11
   have s10:=b10.1; have s11:=b11.1
   have hv:=(((Zvw hF).but b10 (fun h=>by omega)).but b11 (fun h=>by omega))
   exact fin w11 t (decide (wt.kind = 2)) _ x211 (by omega) hb11 (hv.mono fun b h=>⟨by omega,by omega⟩) hcand
 have hcS : SlR pinE w5 (fun b=>Q b) c s.ns[s.ahead.length].ctx:=hctx.ext x05
 have nds8 : ldc w5 (sp.add 8) [nds.v]:=BoxAt.at1 hb (k:=8) x05 rfl
 refine ⟨sp,rfl,nds,nds8,ad,⟨hna,by omega,by omega⟩,c,(hcx _ x05).mid (k:=4) rfl,wt.name,BoxAt.at0 ha (x2.trans x25) rfl,?_⟩
 refine ⟨SE.Zd4.go (Zkx hcS (fun v w6 ht x6=>⟨_,_,_,_,rfl,newS.intro fun a7 w7 x7 hb7 hab7 _ => stw0.intro hb7 (by simp) fun w8 b8 _ hb8=>?_⟩) fun w6 ht x6=>⟨_,_,_,_,rfl,newS.intro fun a7 w7 x7 hb7 hab7 _ => stw0.intro hb7 (by simp) fun w8 b8 _ hb8=>?_⟩),
  newS.intro fun a7 w7 x7 hb7 hab7 _ => SE.Zd4.go (Zkx (hcS.ext x7) (fun v w6 ht x6=>⟨_,_,_,_,rfl,stw0.intro (hb7.ext x6) (by simp) fun w8 b8 _ hb8=>?_⟩) fun w6 ht x6=>⟨_,_,_,_,rfl,stw0.intro (hb7.ext x6) (by simp) fun w8 b8 _ hb8=>?_⟩)⟩
 ·exact key a7 v true w8 (x6.trans (b8.ext x7 (by omega))) hb8 (fun _ => ht) (fun h=>by cases h)
 ·exact key a7 ⟨0,0,0⟩ false w8 (x6.trans (b8.ext x7 (by omega))) hb8 (fun h=>by cases h) fun _ => ht
 ·exact key a7 v true w8 (b8.ext (x7.trans x6) (by omega)) hb8 (fun _ => ht) (fun h=>by cases h)
 ·exact key a7 ⟨0,0,0⟩ false w8 (b8.ext (x7.trans x6) (by omega)) hb8 (fun h=>by cases h) fun _ => ht
end
end Go.Hal
namespace Go.Hal
open Go.Proofs.Tryz
open Go Go.RowKit Go.Proofs Go.Shelf
section
variable {α : Type} {E : Enc α} {T : TypeId} {w : World} {lo : Nat} {Q : Nat → Prop} {s : Sl} {l : List α}
theorem Zig {css : List (List Value)} {n : Nat} (h : ∀ cs ∈ css,cs.length = n) : css.flatten.length = css.length * n:=by
 induction css with
 | nil=>simp
 | cons c r ih=>rw [List.flatten_cons,List.length_append,h c (.head _),ih fun x hx=>h x (.tail _ hx),List.length_cons,Nat.add_mul]; omega
theorem OwnS.rowLens (h : OwnS E T w lo Q s l) {css : List (List Value)} (hl : css.length = l.length) (hr : ∀ (i : Nat) (x : α),l[i]? = some x → ∃ cs,css[i]? = some cs ∧ E.rep w Q x cs) : ∀ cs ∈ css,cs.length = E.n:=fun cs hcs=>by
 obtain ⟨k,hk,rfl⟩:=List.mem_iff_getElem.1 hcs
 obtain ⟨cs',h1,h2⟩:=hr k _ (List.getElem?_eq_getElem (by omega))
 rw [List.getElem?_eq_getElem hk,Option.some.injEq] at h1
 rw [h1]; exact E.len h2
theorem OwnS.take (h : OwnS E T w lo Q s l) {n : Nat} (hn : n ≤ l.length) : OwnS E T w lo Q (Sl.cut s 0 n E.n) (l.take n):=by
 obtain ⟨css,ho,hl,hr⟩:=h.row
 have hlens:=h.rowLens hl hr
 have hsl:=h.len
 have ha : (Sl.cut s 0 n E.n).a = s.a:=by
  unfold Sl.cut
  dsimp only
  split
  ·rfl
  ·rw [Nat.zero_mul]; cases s.a <;> rfl
 have hv : (Sl.cut s 0 n E.n).v = .slice s.a n s.cap:=by unfold Sl.v; rw [ha]; unfold Sl.cut; simp
 refine ⟨⟨css.take n,?_,by rw [List.length_take,List.length_take,hl],fun i x hx=>?_⟩,by show n - 0 = _; rw [List.length_take]; omega,h.lt,fun ad had=>h.apart ad (ha ▸ had)⟩
 ·rw [hv]
  show w.ownsRow lo T E.n _ (n - 0) _
  have hfl:=Zig (css:=css.take n) (n:=E.n) fun c hc=>hlens c (List.mem_of_mem_take hc)
  rw [List.length_take,hl,Nat.min_eq_left hn] at hfl
  refine ⟨by simpa using hfl,?_⟩
  rcases ho.2 with ⟨h1,h2⟩ | ⟨g,cap,cur,h1,h2,h3,h4,h5,h6,h7⟩
  ·left
   simp [Sl.v] at h1
   have : n = 0:=by omega
   rw [h1.1,h1.2.2,this]; exact ⟨rfl,rfl⟩
  ·right
   simp [Sl.v] at h1
   refine ⟨g,cap,cur,by rw [h1.1,h1.2]; simp,h2,h3,by omega,h5,h6,?_⟩
   have h8:=congrArg (List.take (n * E.n)) h7
   rw [List.take_take,Nat.min_eq_left (Nat.mul_le_mul_right _ (by omega))] at h8
   rw [Nat.sub_zero,h8]
   have e : css.flatten = (css.take n).flatten ++ (css.drop n).flatten:=by rw [← List.flatten_append,List.take_append_drop]
   rw [e,List.take_left' hfl]
 ·rw [List.getElem?_take] at hx
  split at hx
  ·obtain ⟨cs,k1,k2⟩:=hr i x hx
   rename_i hi
   exact ⟨cs,by rw [List.getElem?_take,if_pos hi]; exact k1,k2⟩
  ·cases hx
theorem OwnS.setEl (h : OwnS E T w lo Q s l) {i : Nat} (hi : i < l.length) {ad : Addr} (ha : s.a = some ad) {x : α} {o : Nat} {new : List Value} (hx : ∀ cs,E.rep w Q l[i] cs → E.rep w Q x (cs.take o ++ new ++ cs.drop (o + new.length))) (ho : o + new.length ≤ E.n) {K : World → Prop}
  (hK : ∀ w',But ad.block w w' → w'.heap.size = w.heap.size → OwnS E T w' lo Q s (l.set i x) → K w') : stw w ((ad.add (i * E.n)).add o) new K:=by
 obtain ⟨css,hrow,hl,hr⟩:=h.row
 have hlens:=h.rowLens hl hr
 have hsl:=h.len
 rcases hrow.2 with ⟨hv,_⟩ | ⟨g,cap,cur,hv,hg,hh,hc,hcm,hcs,ht⟩
 ·simp [Sl.v] at hv; rw [hv.1] at ha; cases ha
 ·have had : ad = ⟨g,0,none⟩:=by simp [Sl.v] at hv; rw [hv.1] at ha; exact (Option.some.inj ha).symm
  subst had
  have hic : i < css.length:=by omega
  have hmul : (i + 1) * E.n ≤ l.length * E.n:=Nat.mul_le_mul_right _ hi
  have hmul2 : s.len * E.n ≤ cap * E.n:=Nat.mul_le_mul_right _ hc
  rw [Nat.add_mul] at hmul
  rw [hsl] at hmul2
  have hfit : i * E.n + o + new.length ≤ cur.size:=by omega
  rw [Zfs,Zj7]
  have hci:=hlens css[i] (List.getElem_mem hic)
  have hA:=Zig (css:=css.take i) (n:=E.n) fun c hc=>hlens c (List.mem_of_mem_take hc)
  rw [List.length_take,Nat.min_eq_left (by omega)] at hA
  have e1 : css.flatten = (css.take i).flatten ++ (css[i] ++ (css.drop (i + 1)).flatten):=by
   conv=>lhs; rw [← List.take_append_drop i css,List.flatten_append,List.drop_eq_getElem_cons hic,List.flatten_cons]
  have e2 : (css.set i (css[i].take o ++ new ++ css[i].drop (o + new.length))).flatten = (css.take i).flatten ++ ((css[i].take o ++ new ++ css[i].drop (o + new.length)) ++ (css.drop (i + 1)).flatten):=by
   rw [List.set_eq_take_append_cons_drop,if_pos hic,List.flatten_append,List.flatten_cons]
  have hcur : cur.toList = css.flatten ++ cur.toList.drop (s.len * E.n):=by
   rw [← ht,List.take_append_drop]
  have hnew : (Zhy cur (i * E.n + o) new).toList = (css.set i (css[i].take o ++ new ++ css[i].drop (o + new.length))).flatten ++ cur.toList.drop (s.len * E.n):=by
   have key : ∀ (A B C D N : List Value),A.length = i * E.n → B.length = E.n → N.length = new.length → (A ++ (B ++ C) ++ D).take (i * E.n + o) ++ N ++ (A ++ (B ++ C) ++ D).drop (i * E.n + o + N.length) = A ++ (B.take o ++ N ++ B.drop (o + N.length) ++ C) ++ D:=by
    intro A B C D N hA hB hN
    rw [List.append_assoc A,← hA,List.take_length_add_append]
    have t1 : ((B ++ C) ++ D).take o = B.take o:=by rw [List.append_assoc,List.take_append_of_le_length (by omega)]
    have t2 : (A ++ ((B ++ C) ++ D)).drop (A.length + o + N.length) = B.drop (o + N.length) ++ (C ++ D):=by
     rw [Nat.add_assoc,List.drop_length_add_append,List.append_assoc,List.drop_append_of_le_length (by omega)]
    rw [t1,t2]
    simp [List.append_assoc]
   unfold Zhy
   generalize cur.toList.drop (s.len * E.n) = D at hcur ⊢
   rw [List.toList_toArray,hcur,e1,e2]
   exact key (css.take i).flatten css[i] (css.drop (i + 1)).flatten D new hA hci rfl
  refine ⟨cur,T,hh,rfl,by simpa using hfit,?_⟩
  have hb : But g w (w.setRow g (Zhy cur (i * E.n + o) new)):=⟨by simp [World.setRow],rfl,rfl,rfl,fun c hc hne=>setRow_other w g c _ hne⟩
  have hQg : ¬ Q g:=h.apart _ ha
  refine hK _ hb (by simp [World.setRow]) ⟨⟨css.set i (css[i].take o ++ new ++ css[i].drop (o + new.length)),⟨?_,.inr ⟨g,cap,_,hv,hg,setRow_heap w g cur _ T _ hh,hc,hcm,?_,?_⟩⟩,by rw [List.length_set,List.length_set,hl],fun j y hy=>?_⟩,by rw [List.length_set]; exact h.len,fun b hb'=>Nat.lt_of_lt_of_le (h.lt b hb') hb.1,h.apart⟩
  ·rw [Zig (n:=E.n),List.length_set,hl,hsl]
   intro c hc
   rcases List.mem_or_eq_of_mem_set hc with hc | rfl
   ·exact hlens c hc
   ·simp only [List.length_append,List.length_take,List.length_drop,hci]; omega
  ·have h8:=congrArg List.length hnew
   have h9:=congrArg List.length hcur
   rw [List.length_append] at h9 h8
   have e3 : (css.set i (css[i].take o ++ new ++ css[i].drop (o + new.length))).flatten.length = css.flatten.length:=by
    rw [e1,e2]
    simp only [List.length_append,List.length_take,List.length_drop,hci]; omega
   rw [e3,← h9] at h8
   rw [← Array.length_toList (xs:=Zhy cur (i * E.n + o) new),h8,Array.length_toList]
   exact hcs
  ·rw [hnew]
   refine List.take_left' ?_
   rw [e2]
   have:=Zig hlens
   rw [e1] at this
   simp only [List.length_append,List.length_take,List.length_drop,hci] at this ⊢
   rw [hl] at this
   rw [hsl]; omega
  ·rw [List.getElem?_set] at hy
   split at hy
   ·rename_i hij
    subst hij
    simp only [Option.some.injEq] at hy
    subst hy
    obtain ⟨cs,k1,k2⟩:=hr i _ (List.getElem?_eq_getElem hi)
    rw [List.getElem?_eq_getElem hic,Option.some.injEq] at k1
    subst k1
    exact ⟨_,by rw [List.getElem?_set_self hic],E.keep (hx _ k2) (hb.keep hQg)⟩
   ·rename_i hij
    obtain ⟨cs,k1,k2⟩:=hr j y hy
    exact ⟨cs,by rw [List.getElem?_set_ne hij]; exact k1,E.keep k2 (hb.keep hQg)⟩
end
end Go.Hal
namespace Go.Hal
open Go.Proofs.Tryz
open Go Go.RowKit Go.Proofs Go.Shelf
end Go.Hal
namespace Go.Hal
open Go.Proofs.Tryz
open Go Go.RowKit Go.Proofs Go.Shelf
def nP : ByteArray:=⟨#[112]⟩
def nQ : ByteArray:=⟨#[113]⟩
def v1 : Ver:=⟨1,0,0⟩
def allS : List Span:=[⟨verAt 0,verAt 999999999⟩]
def kP : Pack:=⟨nP,v1,[],[⟨nQ,allS⟩],[]⟩
def kQ : Pack:=⟨nQ,v1,[],[],[]⟩
end Go.Hal
namespace Go.Hal
open Go.Proofs.Tryz
open Go Go.RowKit Go.Proofs Go.Shelf
def nA : ByteArray:=⟨#[97]⟩
def kA : Pack:=⟨nA,v1,[],[],[]⟩
theorem FlatO.vers {w : World} {lo : Nat} {s : Sl} {l : List Ver} (h : FlatO Ver.c 24 w lo s l) : SlR verE w (fun b=>lo ≤ b ∧ b < w.heap.size) s l :=
 FlatO.read (E:=verE) h (fun _ => rfl) fun _ _ _ _ => ⟨rfl,trivial⟩
theorem Z0d {w : World} {S : Nat → Prop} {s : Sl} {l : List Ver} (h : SlR verE w S s l) {n : Nat} (hn : n < l.length) : ∃ ad,s.a = some ad ∧ n < s.len ∧ S ad.block ∧ ∀ w',Ext w w' → ldc w' (ad.add (n * 3)) l[n].c:=by
 obtain ⟨ad,cs,ha,hs,⟨rfl,_⟩,hc⟩:=h.el hn
 exact ⟨ad,ha,by rw [h.len]; exact hn,hs,hc⟩
end Go.Hal
namespace Go.Hal
open Go.Proofs.Tryz
open Go Go.RowKit Go.Proofs Go.Shelf
theorem Zss (L : List Pack) (n : ByteArray) (l : List Span) (pins : List Pin) : (Zib L n l pins).length = ((Zdl n L).filter (Z3 l)).length:=by
 rw [← Zho]; exact (Zd7 _).length_eq
theorem Zuy {L : List Pack} (n : ByteArray) : (Zdl n L).length ≤ L.length:=by
 unfold Zdl
 rw [List.length_map]
 exact List.length_filter_le _ _
theorem Zmk {L : List Pack} (h : GoodL L) (n : ByteArray) (l : List Span) (pins : List Pin) : (Zib L n l pins).length ≤ 128:=by
 rw [Zss]
 have h1:=List.length_filter_le (Z3 l) (Zdl n L)
 have h2:=Zuy (L:=L) n
 have h3:=h.le
 omega
end Go.Hal
namespace Go.Hal
open Go.Proofs.Tryz
open Go Go.RowKit Go.Proofs Go.Shelf
theorem Zve {x : Ch} {v : Sl} {n : Int} {c0 p : Addr} {w : World} {R : Bool → World → Prop} (hc : BoxAt w c0 [.pointer (some p)]) (hp : ldc w p [.int .i64 n]) (hR : ∀ w',Ext w w' → R (decide ((x.node : Int) = n)) w') : SE.Zb7 (x.node : Int) x.name v x.none (x.i : Int) c0 w R:=by
 unfold SE.Zb7
 refine newS.intro fun a w1 x1 hb _ _ => bnd.drew fun w2 x2=>⟨_,hb.at0 x2 rfl,_,hc.at0 (r:=[]) (x1.trans x2) rfl,p,rfl,n,hp.keep (S:=fun _ => True) trivial ((x1.trans x2).keep _),?_⟩
 have e : ((x.node : Int) == n) = decide ((x.node : Int) = n):=by rw [Bool.eq_iff_iff]; simp
 rw [e]; exact hR _ (x1.trans x2)
theorem Zo6 : Zgv prog 74:=enters_of func74 (by kernel_rfl) rfl
theorem Zv2 {s : Sl} {l : List Ch} {f : Value} {p : Ch → Bool} {S : Nat → Prop} {w : World} {R : Int → World → Prop} (hs : SlR chE w S s l)
  (hf : ∀ x ∈ l,∀ v w' (k : Value → World → Prop),Ext w w' → (∀ w'',Ext w' w'' → k (.bool (p x)) w'') → callV prog f [.agg #[.int .i64 (x.node : Int),.string x.name,Sl.v v,.bool x.none,.int .i64 (x.i : Int)]] w' k)
  (hR : ∀ w',Ext w w' → R (idxI p l) w') : SE.Zs s f w R:=by
 unfold SE.Zs
 have hl:=hs.len
 refine loop1.up hs.max (fun i w'=>Ext w w' ∧ (l.take i).any p = false) ⟨Ext.refl _,rfl⟩ fun i w1 nxt hi ⟨x1,hI⟩ hn=>⟨fun hlt=>?_,fun hge=>?_⟩
 ·have hlt' : i < l.length:=by omega
  obtain ⟨ad,cs,ha,_,⟨_,v,rfl,_⟩,hc⟩:=hs.el hlt'
  refine ⟨ad,⟨ha,by omega,hlt⟩,_,_,v,_,_,hc _ (by (repeat (first | assumption | exact Ext.refl _ | refine Ext.trans ?_ (by assumption)))),hf _ (List.getElem_mem hlt') _ _ _ x1 fun w2 x2=>⟨_,rfl,fun h=>?_,fun h=>?_⟩⟩
  ·rw [← Zhr hlt' hI h]; exact hR _ (by (repeat (first | assumption | exact Ext.refl _ | refine Ext.trans ?_ (by assumption))))
  ·exact hn hlt' _ ⟨by (repeat (first | assumption | exact Ext.refl _ | refine Ext.trans ?_ (by assumption))),by rw [Zed hlt' hI]; exact h⟩
 ·have : i = l.length:=by omega
  rw [this,List.take_length] at hI
  rw [← Zfx hI]; exact hR _ (by (repeat (first | assumption | exact Ext.refl _ | refine Ext.trans ?_ (by assumption))))
theorem Zny {α : Type} {p : α → Bool} {l : List α} (h : ∃ x ∈ l,p x = true) : idxI p l = ((l.findIdx p : Nat) : Int):=by
 unfold idxI
 rw [List.findIdx?_eq_some_of_exists h]
section
variable {w : World} {lo : Nat} {sp : Addr} {K : K7} {q : Quest} {s : St}
theorem Sr0.but2 {w' : World} {g gg : Nat} {stk nds ahd ws : Sl} {Q : Nat → Prop} (h : Sr0 w lo gg stk nds ahd ws Q s) {ad : Addr} (ha : stk.a = some ad) (hb : But ad.block w w') {l : List Ch} (ho : OwnS chE 81 w' lo Q stk l) : Sr0 w' lo gg stk nds ahd ws Q { s with stack:=l }:=by
 have hQ : ¬ Q ad.block:=h.stack.apart ad ha
 exact ⟨ho,h.nodes.but hb hQ fun b hb=>h.a1 ad b ha hb,h.ahead.but hb hQ fun b hb=>h.a2 ad b ha hb,h.wants.but hb hQ,h.q,h.a1,h.a2,h.a3,h.o1,h.o2,h.o3⟩
theorem Sr0.setRows {stk nds ahd ws nds' ahd' : Sl} {Q : Nat → Prop} {l1 : List Node} {l2 : List Nat} (h : Sr0 w lo sp.block stk nds ahd ws Q s) (e1 : nds'.a = nds.a) (e2 : ahd'.a = ahd.a) (h1 : OwnS nodeE 65 w lo Q nds' l1) (h2 : OwnS intE 3 w lo Q ahd' (l2.map Int.ofNat)) : Sr0 w lo sp.block stk nds' ahd' ws Q { s with ns:=l1,ahead:=l2 } :=
 ⟨h.stack,h1,h2,h.wants,h.q,fun a b ha hb=>h.a1 a b ha (e1 ▸ hb),fun a b ha hb=>h.a2 a b ha (e2 ▸ hb),fun a b ha hb=>h.a3 a b (e1 ▸ ha) (e2 ▸ hb),h.o1,fun a ha=>h.o2 a (e1 ▸ ha),fun a ha=>h.o3 a (e2 ▸ ha)⟩
theorem Zxw {s : Sl} {n sz : Nat} : (Sl.cut s 0 n sz).a = s.a:=by
 unfold Sl.cut
 dsimp only
 split
 ·rfl
 ·rw [Nat.zero_mul]; cases s.a <;> rfl
theorem Zsm {c : Ch} {R : World → Prop} (hC : Cs w lo q K) (h : SrAt w lo sp K s) (hI : InvS q 0 s) (hl : s.stack.getLast? = some c) (hN : q.N ≤ 128) (hD : q.D ≤ 4096)
  (hR : ∀ w',Below lo w w' → SrAt w' lo sp K (Zjb q s c.node) → R w') : SE.Zb4 (some sp) w R:=by
 unfold SE.Zb4
 obtain ⟨stk,nds,ahd,ws,Q,hb,hlo,h0⟩:=h
 obtain ⟨pre,hpre⟩ : ∃ pre,s.stack = pre ++ [c]:=List.getLast?_eq_some_iff.1 hl
 have hsl:=h0.stack.len
 have hal:=h0.ahead.len
 have hnl:=h0.nodes.len
 rw [List.length_map] at hal
 have hpl : s.stack.length = pre.length + 1:=by rw [hpre,List.length_append,List.length_singleton]
 have hcn : c.node ≤ s.ahead.length:=hI.top _ (by rw [hpre]; simp)
 have hi1 : c.i ≤ 1000:=hI.i1 c (by rw [hpre]; simp)
 have hmx:=Zd
 have hx : s.stack[pre.length]? = some c:=by rw [hpre]; simp
 have hpn : pre.length < s.stack.length:=by omega
 have hgl : s.stack[pre.length] = c:=by rw [List.getElem?_eq_getElem hpn,Option.some.injEq] at hx; exact hx
 obtain ⟨ad,cs,hna,⟨hNx,v,rfl,hv⟩,hcx⟩:=h0.stack.el hx
 have hg:=Zrs hb
 have hsk : s.stack.length ≤ 4096:=by have:=hI.k; have:=hI.d; omega
 have hw1 : Za ((stk.len : Int) - 1) = (pre.length : Int):=by rw [hsl,hpl,Zb (by omega) (by omega)]; omega
 refine bnd.drew fun w1 x1=>⟨sp,rfl,stk,BoxAt.at1 hb (k:=7) x1 rfl,sp,rfl,stk,BoxAt.at1 hb (k:=7) x1 rfl,ad,⟨hna,by rw [hw1]; omega,by rw [hw1]; omega⟩,newS.intro fun a w2 x2 ha hab _ => stw0.intro ha (by simp) fun w3 b3 hz3 ha3=>?_⟩
 have s1:=x1.size; have s2:=x2.size
 have x13 : Ext w1 w3:=b3.ext x2 (by omega)
 have x03:=x1.trans x13
 have s3:=x03.size
 simp only [List.length_singleton,List.drop_one,List.tail_cons,List.append_nil] at ha3
 have eN : (Za ((stk.len : Int) - 1)).toNat * 5 = pre.length * chE.n:=by rw [hw1]; rfl
 rw [eN] at ha3
 refine ⟨_,ha3.at0 (r:=[]) (Ext.refl _) rfl,_,rfl,(c.i : Int),(hcx _ x03).mid (k:=4) (r:=[]) rfl,_,rfl,?_⟩
 have h3:=h0.ext x03
 have e1 : Za ((c.i : Int) + 1) = ((c.i + 1 : Nat) : Int):=by rw [Zb (by omega) (by omega)]; omega
 rw [e1]
 refine h3.stack.setEl (i:=pre.length) (x:={ c with i:=c.i + 1 }) (o:=4) (new:=[.int .i64 ((c.i + 1 : Nat) : Int)]) hpn hna (fun cs hcs=>?_) (by show 4 + 1 ≤ 5; omega) fun w4 b4 hz4 own4=>?_
 ·rw [hgl] at hcs
  obtain ⟨k1,v',rfl,k2⟩:=hcs
  exact ⟨k1,v',rfl,k2⟩
 have hset : s.stack.set pre.length { c with i:=c.i + 1 } = bump s.stack:=by rw [hpre,Zft]; simp
 rw [hset] at own4
 have hab4 : ad.block < w.heap.size:=(h0.stack.block hna).2.1
 have h4 : Sr0 w4 lo sp.block stk nds ahd ws Q { s with stack:=bump s.stack }:=Sr0.but2 (g:=0) h3 hna b4 own4
 have hbl:=Zqg s.stack
 have hne : a.block ≠ ad.block:=by omega
 have ha4:=b4.box ha3 hne
 have hb4 : BoxAt w4 sp (Zef K stk nds ahd ws s.first):=b4.box (hb.ext x03) (fun e=>h0.o1 ad hna e.symm)
 have bel4 : Below lo w w4:=(x03.below' lo hC.le).trans (b4.below (by have:=hC.le; omega) (h0.stack.block hna).1)
 have node4 : ∀ w',Ext w4 w' → ldc w' (ad.add (pre.length * chE.n)) [.int .i64 (c.node : Int)]:=fun w' hx=>by
  have hy : (bump s.stack)[pre.length]? = some { c with i:=c.i + 1 }:=by rw [hpre,Zft]; simp
  obtain ⟨ad',cs',hna',⟨_,v',rfl,_⟩,hcx'⟩:=own4.el hy
  rw [hna,Option.some.injEq] at hna'
  subst hna'
  exact (hcx' _ hx).pre rfl
 have hI' : InvS q 1 (Zjb q s c.node):=InvL.step (l:=.back) (l':=.tri) hC.cat.choose_spec.choose_spec.1.good (fun n r p=>Nat.le_trans (Zmk hC.cat.choose_spec.choose_spec.1.good n r p) (by omega)) hI (by rw [Zfg,hl])
 have hkn : c.node < (Zhe s.ns s.ahead c.node).length:=by
  have h1:=hI'.a
  have h2 : (Zjb q s c.node).ahead.length = c.node:=by
   show (s.ahead.take c.node).length = _
   rw [List.length_take]; omega
  rw [h2] at h1; exact h1
 refine join.named fun J hJ=>bnd.drew fun w5 x5=>?_
 have x5s:=x5.size
 have key : ∀ (w7 : World) (nds' ahd' : Sl),But sp.block w5 w7 → nds'.a = nds.a → ahd'.a = ahd.a → BoxAt w7 sp (Zef K stk nds' ahd' ws s.first) → OwnS nodeE 65 w7 lo Q nds' (Zhe s.ns s.ahead c.node) → OwnS intE 3 w7 lo Q ahd' ((s.ahead.take c.node).map Int.ofNat) → J w7:=by
  subst hJ
  intro w7 nds' ahd' b7 en ea hb7 hn7 ha7
  have bel7 : Below lo w w7:=(bel4.trans (x5.below' lo (Nat.le_trans hC.le bel4.size))).trans (b7.below (by have:=hC.le; have:=bel4.size; omega) hlo)
  have s7:=b7.1
  have h7 : Sr0 w7 lo sp.block stk nds' ahd' ws Q { s with stack:=bump s.stack,ns:=Zhe s.ns s.ahead c.node,ahead:=s.ahead.take c.node }:=Sr0.setRows (sp:=sp) ((h4.ext x5).but b7) en ea hn7 ha7
  have hsa : SrAt w7 lo sp K { s with stack:=bump s.stack,ns:=Zhe s.ns s.ahead c.node,ahead:=s.ahead.take c.node }:=⟨stk,nds',ahd',ws,Q,hb7,hlo,h7⟩
  have hne2 : a.block ≠ sp.block:=by omega
  have ha7':=b7.box (ha4.ext x5) hne2
  have hne3 : ad.block ≠ sp.block:=h0.o1 ad hna
  have node7 : ldc w7 (ad.add (pre.length * chE.n)) [.int .i64 (c.node : Int)]:=(node4 _ x5).keep (S:=fun b=>b ≠ sp.block) (by rw [Zdr]; exact hne3) fun b hb hlt=>b7.2.2.2.2 b hlt hb
  refine ⟨_,ha7'.at0 (r:=[]) (Ext.refl _) rfl,_,rfl,(c.node : Int),node7,?_⟩
  refine SE.Zbp.go (Zq8 (s:={ s with stack:=bump s.stack,ns:=Zhe s.ns s.ahead c.node,ahead:=s.ahead.take c.node }) (k:=c.node) (hC.below bel7) hb7 hlo h7 hkn fun w8 ws8 Q8 b8 hb8 h8=>⟨rfl,?_⟩)
  have bel8 : Below lo w w8:=bel7.trans (b8.below (by have:=hC.le; have:=bel7.size; omega) hlo)
  have ha8:=b8.box ha7' hne2
  have node8 : ldc w8 (ad.add (pre.length * chE.n)) [.int .i64 (c.node : Int)]:=node7.keep (S:=fun b=>b ≠ sp.block) (by rw [Zdr]; exact hne3) fun b hb hlt=>b8.2.2.2.2 b hlt hb
  have hrd:=h8.stack.read (by show (bump s.stack).length * 64 ≤ room; unfold room; omega) (by show (bump s.stack).length ≤ maxLen; omega)
  have hlen8 : stk.len = (bump s.stack).length:=h8.stack.len
  refine ⟨sp,rfl,stk,BoxAt.at1 hb8 (k:=7) (Ext.refl _) rfl,SE.Zs.go (Zv2 (p:=fun x=>decide (x.node = c.node)) hrd (fun x _ v w' k hx hk=>⟨_,_,rfl,Zo6,?_⟩) fun w9 x9=>⟨_,rfl,sp,rfl,?_⟩)⟩
  ·refine SE.Zb7.go (Zve (x:=x) (v:=v) (n:=(c.node : Int)) (p:=ad.add (pre.length * chE.n)) (ha8.ext hx) (node8.keep (S:=fun _ => True) trivial (hx.keep _)) fun w'' hx''=>?_)
   have e : decide ((x.node : Int) = (c.node : Int)) = decide (x.node = c.node):=by rw [Bool.eq_iff_iff]; simp; omega
   rw [e]; exact hk _ hx''
  ·have hex : ∃ x ∈ bump s.stack,decide (x.node = c.node) = true:=⟨{ c with i:=c.i + 1 },by rw [hpre,Zft]; simp,by simp⟩
   rw [Zny hex]
   refine Sr0.setFirst (s:={ s with stack:=bump s.stack,ns:=Zhe s.ns s.ahead c.node,ahead:=s.ahead.take c.node,ws:=q.wants (Zhe s.ns s.ahead c.node) c.node }) (n:=(bump s.stack).findIdx fun x : Ch=>decide (x.node = c.node)) (hb8.ext x9) hlo (h8.ext x9) fun w10 b10 h10=>hR w10 ((bel8.trans (x9.below' lo (Nat.le_trans hC.le bel8.size))).trans (b10.below (by have:=hC.le; have:=bel8.size; have:=x9.size; omega) hlo)) h10
 have ndL:=h4.nodes.read (by show s.ns.length * 88 ≤ room; have:=hI.n; unfold room; omega) (by show s.ns.length ≤ maxLen; have:=hI.n; omega)
 have ahL:=h4.ahead.read (by show (s.ahead.map Int.ofNat).length * 8 ≤ room; rw [List.length_map]; have:=hI.n; have:=hI.a; unfold room; omega) (by show (s.ahead.map Int.ofNat).length ≤ maxLen; rw [List.length_map]; have:=hI.n; have:=hI.a; omega)
 have ncap : s.ns.length ≤ nds.cap:=ndL.2.1
 have acap : (s.ahead.map Int.ofNat).length ≤ ahd.cap:=ahL.2.1
 rw [List.length_map] at acap
 have ha5:=ha4.ext x5
 refine ⟨_,ha5.at0 (r:=[]) (Ext.refl _) rfl,_,rfl,(c.node : Int),node4 _ x5,sp,rfl,ahd,BoxAt.at1 hb4 (k:=9) x5 rfl,fun hlt=>?_,fun hge=>?_⟩
 ·have hlt' : c.node < s.ahead.length:=by omega
  have hax : (s.ahead.map Int.ofNat)[c.node]? = some (Int.ofNat s.ahead[c.node]):=by rw [List.getElem?_map,List.getElem?_eq_getElem hlt']; rfl
  obtain ⟨aa,cs2,haa,hcs2,hcx2⟩:=h4.ahead.el hax
  have hb6:=hI.b c.node _ (List.getElem?_eq_getElem hlt')
  have hcs2' : cs2 = [.int .i64 (Int.ofNat s.ahead[c.node])]:=hcs2.1
  subst hcs2'
  have ecut : Zhe s.ns s.ahead c.node = s.ns.take s.ahead[c.node]:=by unfold Zhe; rw [List.getElem?_eq_getElem hlt']
  generalize s.ahead[c.node] = m at *
  refine bnd.drew fun w6 x6=>⟨sp,rfl,nds,BoxAt.at1 hb4 (k:=8) (x5.trans x6) rfl,sp,rfl,ahd,BoxAt.at1 hb4 (k:=9) (x5.trans x6) rfl,_,ha5.at0 (r:=[]) x6 rfl,_,rfl,(c.node : Int),node4 _ (x5.trans x6),aa,⟨haa,by omega,by omega⟩,(m : Int),hcx2 _ (x5.trans x6),⟨by omega,by omega⟩,sp,rfl,?_⟩
  have x6s:=x6.size
  have em : ((m : Int)).toNat = m:=Int.toNat_natCast m
  rw [em]
  refine stw.intro (o:=8) ((hb4.ext x5).ext x6) (by show 9 ≤ 12; omega) fun w7 b7 hz7 hb7=>bnd.drew fun w8 x8=>?_
  have x8s:=x8.size
  have hne2 : a.block ≠ sp.block:=by omega
  have hne3 : ad.block ≠ sp.block:=h0.o1 ad hna
  have b58 : But sp.block w5 w8:=((x6.but _).trans b7).trans (x8.but _)
  have ha8:=b58.box ha5 hne2
  have node8 : ldc w8 (ad.add (pre.length * chE.n)) [.int .i64 (c.node : Int)]:=(node4 _ x5).keep (S:=fun b=>b ≠ sp.block) (by rw [Zdr]; exact hne3) fun b hb hlt=>b58.2.2.2.2 b hlt hb
  have h8:=(h4.ext x5).but b58
  refine ⟨sp,rfl,ahd,BoxAt.at1 hb7 (k:=9) x8 rfl,_,ha8.at0 (r:=[]) (Ext.refl _) rfl,_,rfl,(c.node : Int),node8,⟨by omega,by omega⟩,sp,rfl,?_⟩
  have en : ((c.node : Int)).toNat = c.node:=Int.toNat_natCast _
  rw [en]
  refine stw.intro (o:=9) (hb7.ext x8) (by show 10 ≤ 12; omega) fun w9 b9 hz9 hb9=>?_
  have b59 : But sp.block w5 w9:=b58.trans b9
  have h9:=(h4.ext x5).but b59
  refine key w9 (Sl.cut nds 0 m 6) (Sl.cut ahd 0 c.node 1) b59 Zxw Zxw hb9 ?_ ?_
  ·rw [ecut]
   exact OwnS.take (E:=nodeE) h9.nodes hb6.2
  ·rw [List.map_take]
   exact OwnS.take (E:=intE) h9.ahead (by rw [List.length_map]; omega)
 ·have ecut : Zhe s.ns s.ahead c.node = s.ns:=by unfold Zhe; rw [List.getElem?_eq_none (by omega)]
  have etk : s.ahead.take c.node = s.ahead:=List.take_of_length_le (by omega)
  exact key w5 nds ahd ((Ext.refl w5).but _) rfl rfl (hb4.ext x5) (by rw [ecut]; exact (h4.ext x5).nodes) (by rw [etk]; exact (h4.ext x5).ahead)
end
end Go.Hal
namespace Go.Hal
open Go.Proofs.Tryz
open Go Go.RowKit Go.Proofs Go.Shelf
theorem Zoz {s : Sl} {l : List Pin} {S : Nat → Prop} {w : World} {R : Sl → World → Prop} (hS : Old S w) (hs : SlR pinE w S s l) (hR : ∀ t w',Ext w w' → OwnS pinE 67 w' w.heap.size None' t l → R t w') : SE.Zbk s w R:=by
 unfold SE.Zbk
 refine ⟨fun h=>?_,fun h=>?_⟩
 ·have : l = []:=by
   rcases hs.2.2.2.2 with h0 | ⟨ad,h1,_⟩
   ·exact h0
   ·rw [h] at h1; cases h1
  subst this
  exact hR _ _ (Ext.refl _) (OwnS.nil _ _)
 ·intro a w1 ha hw
  subst ha
  have x1 : Ext w w1:=hw ▸ Ext.alloc _ _
  have own : OwnS pinE 67 w1 w.heap.size None' ⟨some ⟨w.heap.size,0,none⟩,0,0⟩ []:=hw ▸ OwnS.empty w
  refine own.appAll Zmf x1.size (hs.ext x1) (hS.ext x1.size) (fun ad ha hb=>?_) (by simpa using hs.2.2.2.1) (by simpa using hs.max) fun r w2 own2 bel _ _ => ?_
  ·simp only [Option.some.injEq] at ha
   subst ha
   have:=hS _ hb
   simp at this
  ·exact hR r w2 (x1.trans' bel) (OwnS.flat (fun h=>h) own2)
theorem Zvf {a b : Pin} {w : World} {R : Int → World → Prop} (hR : ∀ w',Gr w w' → R (cmpS a.name b.name) w') : SE.Zb8 a.name a.v.ma a.v.mi a.v.pa b.name b.v.ma b.v.mi b.v.pa w R:=by
 unfold SE.Zb8
 refine newS.gr fun _ w1 x1 hb=>newS.gr fun _ w2 x2 hb2=>⟨_,Gr.at0 hb x2 rfl,_,Gr.at0 hb2 (Gr.refl _) rfl,Zip ⟨_,rfl,hR _ (x1.trans x2)⟩⟩
theorem Zo7 : Zgv prog 67:=enters_of func67 (by kernel_rfl) rfl
theorem Zr9 {w : World} {lo : Nat} {s : Sl} {l : List Pin} {K : Value → World → Prop} (h : FlatO pinC 40 w lo s l) (hlo : lo ≤ w.heap.size) (hn : (l.map (·.name)).Nodup)
  (hK : ∀ w',Below lo w w' → FlatO pinC 40 w' lo s (Zal l) → K (.tuple #[]) w') :
  callS prog 66 [Sl.v s,.func (.func 67) #[] #[]] w K:=by
 obtain ⟨h1,h2,h3,h4,h5⟩:=h
 obtain ⟨a,n,c⟩:=s
 simp only at h1 h2 h3 h5
 subst h1
 rcases h5 with rfl | ⟨g,tail,ha,hg,hr⟩
 ·refine (AnyF.slices_SortFunc_none Tryz.laySp a c _ w).mono fun e w' ⟨he,hw⟩=>⟨_,he,?_⟩
  subst hw
  exact hK _ (Below.refl _ _) ⟨rfl,h2,h3,h4,.inl rfl⟩
 ·subst ha
  have hO:=Zgb (α := Pin) (·.name)
  refine Zhs Tryz.laySp (k:=4) Zxd Zuh (f:=pinC) (fun _ => rfl) (fun x v hv=>by simp [pinC] at hv; rcases hv with rfl | rfl | rfl | rfl <;> rfl) (fun a b=>cmpS a.name b.name) (Zj5 hO.flip hO.trans) 67 #[] Zo7 (fun w0 x y hb _ => ?_) hr (by unfold room at h4; omega) rfl fun l' w' hp hs b hr'=>?_
  ·have h:=SE.Zb8.go (k:=fun v w'=>v = .int .i64 (cmpS x.name y.name) ∧ Gr w0 w') (Zvf (a:=x) (b:=y) (w:=w0) fun w' h=>⟨rfl,h⟩)
   exact Calls.mono h fun e w' ⟨v,he,hv,hg⟩=>⟨by rw [he,hv],hg⟩
  ·have e : l' = Zal l:=by
    refine Rises.one ?_ (Ze6 hn) (hp.trans (Zbe l).symm)
    have hn' : (l'.map (·.name)).Nodup:=(hp.map _).nodup_iff.2 hn
    rw [List.nodup_iff_pairwise_ne,List.pairwise_map] at hn'
    exact (hs.and hn').imp fun {a b} h=>Zne (by have:=hO.flip b a; have:=hO.flip a b; omega) h.2
   subst e
   have hl:=(Zbe l).length_eq
   exact hK w' (b.below hlo hg) ⟨hl.symm,by rw [hl]; exact h2,h3,by rw [hl]; exact h4,.inr ⟨g,tail,rfl,hg,hr'⟩⟩
theorem verB {a b c x y z : Int} : ((a == x) && ((b == y) && ((c == z) && true))) = decide ((⟨a,b,c⟩ : Ver) = ⟨x,y,z⟩):=by
 rw [Bool.eq_iff_iff]; simp
theorem Zta {s t : Sl} {a b : List Pin} {S T : Nat → Prop} {w : World} {R : Bool → World → Prop} (hs : SlR pinE w S s a) (ht : SlR pinE w T t b) (hR : ∀ w',Ext w w' → R (decide (a = b)) w') : SE.Zbl s t w R:=by
 unfold SE.Zbl
 have h1:=hs.len
 have h2:=ht.len
 refine ⟨fun h=>?_,fun h=>?_⟩
 ·have : ¬ a = b:=fun e=>by subst e; omega
  have h3:=hR w (Ext.refl _)
  rw [decide_eq_false this] at h3; exact h3
 have hll : a.length = b.length:=by
  have:=Classical.not_not.1 h
  omega
 refine loop1.up hs.max (fun i w'=>Ext w w' ∧ a.take i = b.take i) ⟨Ext.refl _,rfl⟩ fun i w1 nxt hi ⟨x1,hI⟩ hn=>⟨fun hlt=>bnd.drew fun w2 x2=>?_,fun hge=>?_⟩
 ·have k1 : i < a.length:=by omega
  have k2 : i < b.length:=by omega
  obtain ⟨ad,ha,_,_,hc⟩:=Zg0 hs k1
  obtain ⟨ad2,ha2,_,_,hc2⟩:=Zg0 ht k2
  refine ⟨ad,⟨ha,by omega,hlt⟩,_,_,_,_,hc _ (x1.trans x2),ad2,⟨ha2,by omega,by omega⟩,_,_,_,_,hc2 _ (x1.trans x2),?_⟩
  have e : (!((bEq a[i].name b[i].name) && (((a[i].v.ma == b[i].v.ma) && ((a[i].v.mi == b[i].v.mi) && ((a[i].v.pa == b[i].v.pa) && true))) && true))) = !decide (a[i] = b[i]):=by
   congr 1
   rw [Bool.eq_iff_iff]
   generalize a[i] = x; generalize b[i] = y
   obtain ⟨n,⟨p,q,r⟩⟩:=x
   obtain ⟨n',⟨p',q',r'⟩⟩:=y
   simp [Zck]
  rw [e]
  refine ⟨fun h=>?_,fun h=>?_⟩
  ·have hne : ¬ a = b:=fun e=>by subst e; simp at h
   have h3:=hR w2 (x1.trans x2)
   rw [decide_eq_false hne] at h3; exact h3
  ·refine hn k1 _ ⟨x1.trans x2,?_⟩
   have he : a[i] = b[i]:=by simpa using h
   rw [List.take_succ_eq_append_getElem k1,List.take_succ_eq_append_getElem k2,hI,he]
 ·have : i = a.length:=by omega
  subst this
  rw [List.take_length,List.take_of_length_le (by omega)] at hI
  have h3:=hR w1 x1
  rw [decide_eq_true hI] at h3; exact h3
theorem Zvg {x y : Node} {cx ex cy ey : Sl} {S T : Nat → Prop} {c0 : Addr} {w : World} {R : Bool → World → Prop} (hc : BoxAt w c0 [.string x.name,.int .i64 x.v.ma,.int .i64 x.v.mi,.int .i64 x.v.pa,cx.v,ex.v]) (hx : SlR pinE w S cx x.ctx) (hy : SlR pinE w T cy y.ctx) (hR : ∀ w',Ext w w' → R (decide (y.key = x.key)) w') :
  SE.Zb9 y.name y.v.ma y.v.mi y.v.pa cy ey c0 w R:=by
 unfold SE.Zb9
 have e : decide (y.key = x.key) = (bEq x.name y.name && decide (x.v = y.v) && decide (x.ctx = y.ctx)):=by
  rw [Bool.eq_iff_iff]
  simp only [Node.key,decide_eq_true_eq,Prod.mk.injEq,Bool.and_eq_true,Zck]
  exact ⟨fun ⟨a,b,c⟩=>⟨⟨a.symm,b.symm⟩,c.symm⟩,fun ⟨⟨a,b⟩,c⟩=>⟨a.symm,b.symm,c.symm⟩⟩
 rw [e] at hR
 refine newS.intro fun a w1 x1 hb _ _ => ⟨_,hc.at0 x1 rfl,_,hb.at0 (Ext.refl _) rfl,bound ⟨_,_,_,fun _ => hc.at1 (k:=1) x1 rfl,_,_,_,fun _ => hb.at1 (k:=1) (Ext.refl _) rfl,bound ?_⟩⟩
 have ev : ((x.v.ma == y.v.ma) && ((x.v.mi == y.v.mi) && ((x.v.pa == y.v.pa) && true))) = decide (x.v = y.v):=verB
 rw [ev]
 refine ⟨cx,fun _ => hc.at1 (k:=4) x1 rfl,cy,fun _ => hb.at1 (k:=4) (Ext.refl _) rfl,?_⟩
 refine gCall.intro (decide (x.ctx = y.ctx)) (fun _ q hq=>SE.Zbl.go (Zta (hx.ext x1) (hy.ext x1) fun w' hx=>⟨_,rfl,hq _ hx⟩)) fun t w2 x2 ht=>?_
 have h3:=hR w2 (x1.trans x2)
 cases hg : (bEq x.name y.name && decide (x.v = y.v))
 ·rw [hg] at h3; exact h3
 ·rw [hg] at h3 ht
  rw [ht rfl]; exact h3
theorem Zo8 : Zgv prog 71:=enters_of func71 (by kernel_rfl) rfl
theorem Zrm {s : Sl} {l : List Node} {f : Value} {p : Node → Bool} {S : Nat → Prop} {w : World} {R : Int → World → Prop} (hs : SlR nodeE w S s l)
  (hf : ∀ x ∈ l,∀ (c e : Sl) w' (k : Value → World → Prop),Ext w w' → SlR pinE w' S c x.ctx → (∀ w'',Ext w' w'' → k (.bool (p x)) w'') → callV prog f [.agg #[.string x.name,.int .i64 x.v.ma,.int .i64 x.v.mi,.int .i64 x.v.pa,Sl.v c,Sl.v e]] w' k)
  (hR : ∀ w',Ext w w' → R (idxI p l) w') : SE.Zah s f w R:=by
 unfold SE.Zah
 have hl:=hs.len
 refine loop1.up hs.max (fun i w'=>Ext w w' ∧ (l.take i).any p = false) ⟨Ext.refl _,rfl⟩ fun i w1 nxt hi ⟨x1,hI⟩ hn=>⟨fun hlt=>?_,fun hge=>?_⟩
 ·have hlt' : i < l.length:=by omega
  obtain ⟨ad,cs,ha,_,⟨_,c,e,rfl,hcc,_⟩,hc⟩:=hs.el hlt'
  refine ⟨ad,⟨ha,by omega,hlt⟩,_,_,_,_,c,e,hc _ (by (repeat (first | assumption | exact Ext.refl _ | refine Ext.trans ?_ (by assumption)))),hf _ (List.getElem_mem hlt') c e _ _ x1 (hcc.ext x1) fun w2 x2=>⟨_,rfl,fun h=>?_,fun h=>?_⟩⟩
  ·rw [← Zhr hlt' hI h]; exact hR _ (by (repeat (first | assumption | exact Ext.refl _ | refine Ext.trans ?_ (by assumption))))
  ·exact hn hlt' _ ⟨by (repeat (first | assumption | exact Ext.refl _ | refine Ext.trans ?_ (by assumption))),by rw [Zed hlt' hI]; exact h⟩
 ·have : i = l.length:=by omega
  rw [this,List.take_length] at hI
  rw [← Zfx hI]; exact hR _ (by (repeat (first | assumption | exact Ext.refl _ | refine Ext.trans ?_ (by assumption))))
end Go.Hal
namespace Go.Hal
open Go.Proofs.Tryz
open Go Go.RowKit Go.Proofs Go.Shelf
def Oth (s : Sl) (w w' : World) : Prop:=w.heap.size ≤ w'.heap.size ∧ ∀ b,b < w.heap.size → (∀ ad,s.a = some ad → b ≠ ad.block) → w'.heap[b]? = w.heap[b]?
section
variable {α : Type} {E : Enc α} {T : TypeId} {w w' : World} {lo : Nat} {Q : Nat → Prop} {s x : Sl} {l : List α}
theorem OwnS.oth (h : OwnS E T w lo Q x l) (ho : Oth s w w') (hA : Apart x s) (hQ : ∀ ad,s.a = some ad → ¬ Q ad.block) : OwnS E T w' lo Q x l :=
 h.keep ho.1 fun b hlt hb=>ho.2 b hlt fun ad ha e=>by
  rcases hb with hb | ⟨ad',ha',rfl⟩
  ·exact hQ ad ha (e ▸ hb)
  ·exact hA _ _ ha' ha e
theorem SlR.oth (h : SlR E w Q x l) (ho : Oth s w w') (hQ : ∀ ad,s.a = some ad → ¬ Q ad.block) : SlR E w' Q x l :=
 h.keep fun b hb hlt=>ho.2 b hlt fun ad ha e=>hQ ad ha (e ▸ hb)
theorem BoxAt.oth {a : Addr} {cs : List Value} (h : BoxAt w a cs) (ho : Oth s w w') (hne : ∀ ad,s.a = some ad → a.block ≠ ad.block) : BoxAt w' a cs :=
 h.keep (S:=fun b=>b = a.block) rfl fun b hb hlt=>ho.2 b hlt fun ad ha e=>hne ad ha (hb ▸ e)
theorem Sl.regA {r : Sl} {y : Sl} {β : Type} {F : Enc β} {U : TypeId} {m : List β} (reg : ∀ ad,r.a = some ad → (s.a = some ad ∨ w.heap.size ≤ ad.block)) (hA : Apart s y) (hy : OwnS F U w lo Q y m) : Apart r y:=fun a b ha hb=>by
 rcases reg a ha with h | h
 ·exact hA a b h hb
 ·have:=(hy.block hb).2.1; omega
theorem Sl.regO {r : Sl} {g : Nat} (reg : ∀ ad,r.a = some ad → (s.a = some ad ∨ w.heap.size ≤ ad.block)) (hO : Off s g) (hg : g < w.heap.size) : Off r g:=fun a ha=>by
 rcases reg a ha with h | h
 ·exact hO a h
 ·omega
end
section
variable {w : World} {lo g : Nat} {stk nds ahd ws : Sl} {Q : Nat → Prop} {s : St} {P : Program}
theorem Sr0.pushNd {a : Addr} {cs : List Value} {x : Node} {t : TypeId} {k : Sl → World → Prop} (h : Sr0 w lo g stk nds ahd ws Q s) (hT : ApT P t 65 6 88) (hlo : lo ≤ w.heap.size) (hg : g < w.heap.size) (hx : nodeE.rep w Q x cs) (hc : ldc w a cs) (hn : s.ns.length ≤ 1000)
  (hk : ∀ (r : Sl) (w' : World),Sr0 w' lo g stk r ahd ws Q { s with ns:=s.ns ++ [x] } → Below lo w w' → Oth nds w w' → (∀ ad,r.a = some ad → (nds.a = some ad ∨ w.heap.size ≤ ad.block)) → k r w') : appS P t t nds (Sl.v ⟨some a,1,1⟩) w k:=by
 have hmx:=Zd
 refine h.nodes.push (E:=nodeE) hT hlo hx hc h.nodes.lt h.nodes.apart (by show (s.ns.length + 1) * 88 ≤ room; unfold room; omega) (by omega) fun r w' own bel oth reg=>?_
 have ho : Oth nds w w':=⟨bel.size,oth⟩
 have hQ:=h.nodes.apart
 refine hk r w' ⟨h.stack.oth ho h.a1 hQ,own.mono (fun b hb=>hb.elim id id) (fun b hb=>Nat.lt_of_lt_of_le (h.nodes.lt b hb) bel.size) (fun ad ha hb=>?_),h.ahead.oth ho h.a3.swap hQ,h.wants.oth ho hQ,h.q,(Sl.regA reg h.a1.swap h.stack).swap,h.a2,Sl.regA reg h.a3 h.ahead,h.o1,Sl.regO reg h.o2 hg,h.o3⟩ bel ho reg
 rcases reg ad ha with h1 | h1
 ·exact hQ ad h1 hb
 ·have:=h.nodes.lt _ hb; omega
theorem Sr0.pushCh {a : Addr} {cs : List Value} {x : Ch} {t : TypeId} {k : Sl → World → Prop} (h : Sr0 w lo g stk nds ahd ws Q s) (hT : ApT P t 81 5 64) (hlo : lo ≤ w.heap.size) (hg : g < w.heap.size) (hx : chE.rep w Q x cs) (hc : ldc w a cs) (hn : s.stack.length ≤ 100000)
  (hk : ∀ (r : Sl) (w' : World),Sr0 w' lo g r nds ahd ws Q { s with stack:=s.stack ++ [x] } → Below lo w w' → Oth stk w w' → k r w') : appS P t t stk (Sl.v ⟨some a,1,1⟩) w k:=by
 have hmx:=Zd
 refine h.stack.push (E:=chE) hT hlo hx hc h.stack.lt h.stack.apart (by show (s.stack.length + 1) * 64 ≤ room; unfold room; omega) (by omega) fun r w' own bel oth reg=>?_
 have ho : Oth stk w w':=⟨bel.size,oth⟩
 have hQ:=h.stack.apart
 refine hk r w' ⟨own.mono (fun b hb=>hb.elim id id) (fun b hb=>Nat.lt_of_lt_of_le (h.stack.lt b hb) bel.size) (fun ad ha hb=>?_),h.nodes.oth ho h.a1.swap hQ,h.ahead.oth ho h.a2.swap hQ,h.wants.oth ho hQ,h.q,Sl.regA reg h.a1 h.nodes,Sl.regA reg h.a2 h.ahead,h.a3,Sl.regO reg h.o1 hg,h.o2,h.o3⟩ bel ho
 rcases reg ad ha with h1 | h1
 ·exact hQ ad h1 hb
 ·have:=h.stack.lt _ hb; omega
theorem Sr0.pushAh {a : Addr} {x : Nat} {t : TypeId} {k : Sl → World → Prop} (h : Sr0 w lo g stk nds ahd ws Q s) (hT : ApT P t 3 1 8) (hlo : lo ≤ w.heap.size) (hg : g < w.heap.size) (hc : ldc w a [.int .i64 (x : Int)]) (hn : s.ahead.length ≤ 100000)
  (hk : ∀ (r : Sl) (w' : World),Sr0 w' lo g stk nds r ws Q { s with ahead:=s.ahead ++ [x] } → Below lo w w' → Oth ahd w w' → k r w') : appS P t t ahd (Sl.v ⟨some a,1,1⟩) w k:=by
 have hmx:=Zd
 refine h.ahead.push (E:=intE) (x:=(x : Int)) hT hlo ⟨rfl,trivial⟩ hc h.ahead.lt h.ahead.apart (by show ((s.ahead.map Int.ofNat).length + 1) * 8 ≤ room; rw [List.length_map]; unfold room; omega) (by rw [List.length_map]; omega) fun r w' own bel oth reg=>?_
 have ho : Oth ahd w w':=⟨bel.size,oth⟩
 have hQ:=h.ahead.apart
 refine hk r w' ⟨h.stack.oth ho h.a2 hQ,h.nodes.oth ho h.a3 hQ,?_,h.wants.oth ho hQ,h.q,h.a1,(Sl.regA reg h.a2.swap h.stack).swap,(Sl.regA reg h.a3.swap h.nodes).swap,h.o1,h.o2,Sl.regO reg h.o3 hg⟩ bel ho
 have e : (s.ahead ++ [x]).map Int.ofNat = s.ahead.map Int.ofNat ++ [(x : Int)]:=by rw [List.map_append]; rfl
 show OwnS intE 3 w' lo Q r ((s.ahead ++ [x]).map Int.ofNat)
 rw [e]
 refine own.mono (fun b hb=>hb.elim id id) (fun b hb=>Nat.lt_of_lt_of_le (h.ahead.lt b hb) bel.size) (fun ad ha hb=>?_)
 rcases reg ad ha with h1 | h1
 ·exact hQ ad h1 hb
 ·have:=h.ahead.lt _ hb; omega
theorem Sr0.oth {w' : World} {x : Sl} (h : Sr0 w lo g stk nds ahd ws Q s) (ho : Oth x w w') (h1 : Apart stk x) (h2 : Apart nds x) (h3 : Apart ahd x) (hQ : ∀ ad,x.a = some ad → ¬ Q ad.block) : Sr0 w' lo g stk nds ahd ws Q s :=
 ⟨h.stack.oth ho h1 hQ,h.nodes.oth ho h2 hQ,h.ahead.oth ho h3 hQ,h.wants.oth ho hQ,h.q,h.a1,h.a2,h.a3,h.o1,h.o2,h.o3⟩
theorem Sr0.addQ {P : Nat → Prop} (h : Sr0 w lo g stk nds ahd ws Q s) (hP : ∀ b,P b → lo ≤ b ∧ b ≠ g ∧ b < w.heap.size) (h1 : ∀ ad,stk.a = some ad → ¬ P ad.block) (h2 : ∀ ad,nds.a = some ad → ¬ P ad.block) (h3 : ∀ ad,ahd.a = some ad → ¬ P ad.block) : Sr0 w lo g stk nds ahd ws (fun b=>Q b ∨ P b) s :=
 have key : ∀ {α : Type} {E : Enc α} {T : TypeId} {x : Sl} {l : List α},OwnS E T w lo Q x l → (∀ ad,x.a = some ad → ¬ P ad.block) → OwnS E T w lo (fun b=>Q b ∨ P b) x l:=fun o hn=>o.mono (fun _ h=>.inl h) (fun b hb=>hb.elim (o.lt b) fun hb=>(hP b hb).2.2) fun ad ha hb=>hb.elim (o.apart ad ha) (hn ad ha)
 ⟨key h.stack h1,key h.nodes h2,key h.ahead h3,h.wants.mono fun _ h=>.inl h,fun b hb=>hb.elim (h.q b) fun hb=>⟨(hP b hb).1,(hP b hb).2.1⟩,h.a1,h.a2,h.a3,h.o1,h.o2,h.o3⟩
end
theorem Zjh {ns a : List Node} {k : Nat} {es : List Edge} (hk : k < ns.length) : (ns ++ a).set k { ns[k] with edges:=es } = Zby ns k es ++ a:=by
 rw [List.set_append_left _ _ hk]
 congr 1
 unfold Zby
 apply List.ext_getElem?
 intro i
 rw [List.getElem?_modify,List.getElem?_set]
 by_cases h : k = i
 ·subst h
  rw [if_pos rfl,if_pos hk,List.getElem?_eq_getElem hk]; simp
 ·rw [if_neg h]
  cases ns[i]? with
  | none=>rfl
  | some n=>simp [h]
theorem Zom {e : List Pin} {n : ByteArray} : (tells e n).isSome = e.any (isN n):=by
 unfold tells
 rw [Option.isSome_map]
 cases h : e.any (isN n)
 ·simp only [Bool.eq_false_iff,ne_eq,List.find?_isSome,not_exists,not_and]
  intro x hx hp
  have:=List.any_eq_false.1 h x hx
  exact this hp
 ·obtain ⟨x,hx,hp⟩:=List.any_eq_true.1 h
  rw [List.find?_isSome]
  exact ⟨x,hx,hp⟩
theorem Zh8 {e : List Pin} {c : Ch} {v : Ver} (h : tells e c.name = some v) : addC e c = e:=by
 unfold addC addO
 have : e.any (isN c.name) = true:=by rw [← Zom,h]; rfl
 cases c.vs[c.i]? with
 | none=>rfl
 | some v=>dsimp only; rw [if_pos this]
theorem Zju {e : List Pin} {c : Ch} (h : tells e c.name = none) (hi : c.i < c.vs.length) : addC e c = e ++ [⟨c.name,c.vs[c.i]⟩]:=by
 unfold addC addO
 have : e.any (isN c.name) = false:=by rw [← Zom,h]; rfl
 rw [List.getElem?_eq_getElem hi]
 dsimp only
 rw [if_neg (by rw [this]; decide)]
theorem Zh7 {e : List Pin} {c : Ch} (hi : ¬ c.i < c.vs.length) : addC e c = e:=by
 unfold addC addO
 rw [List.getElem?_eq_none (by omega)]
theorem Zrb {e : List Pin} {c : Ch} (h : (e.map (·.name)).Nodup) : ((addC e c).map (·.name)).Nodup:=by
 cases ht : tells e c.name with
 | some v=>rw [Zh8 ht]; exact h
 | none =>
  by_cases hi : c.i < c.vs.length
  ·rw [Zju ht hi,List.map_append,List.nodup_append]
   refine ⟨h,by simp,fun a ha b hb=>?_⟩
   simp only [List.map_cons,List.map_nil,List.mem_singleton] at hb
   subst hb
   obtain ⟨x,hx,rfl⟩:=List.mem_map.1 ha
   exact Zsd ht x hx
  ·rw [Zh7 hi]; exact h
theorem Zu5 (e : List Pin) (c : Ch) : (addC e c).length ≤ e.length + 1:=by
 cases ht : tells e c.name with
 | some v=>rw [Zh8 ht]; omega
 | none =>
  by_cases hi : c.i < c.vs.length
  ·rw [Zju ht hi,List.length_append]; simp
  ·rw [Zh7 hi]; omega
theorem Zfh {q : Quest} {env r : List Pin} {p : Pin} {c : List Pin} (h : Zc4 q.L q.m.over env p = some c) : targets q env (p :: r) = (targets q env r).map fun xs=>⟨p.name,p.v,c,[]⟩ :: xs:=by
 rw [targets,h]
theorem Zgk {q : Quest} {env r : List Pin} {p : Pin} (h : Zc4 q.L q.m.over env p = none) : targets q env (p :: r) = none:=by
 rw [targets,h]
theorem Zqv {N : Nat} {ks : List NKey} {x : Node} {xs : List Node} {i : Nat} (h : ks.findIdx? (fun y=>decide (y = x.key)) = some i) : putK N ks (x :: xs) = (putK N ks xs).map fun r=>(r.1,⟨x.name,(i : Int)⟩ :: r.2):=by
 rw [putK,h]
theorem Zn9 {N : Nat} {ks : List NKey} {x : Node} {xs : List Node} (h : ks.findIdx? (fun y=>decide (y = x.key)) = none) (hN : ks.length = N) : putK N ks (x :: xs) = none:=by
 rw [putK,h]
 dsimp only
 rw [if_pos hN]
theorem Zqw {N : Nat} {ks : List NKey} {x : Node} {xs : List Node} (h : ks.findIdx? (fun y=>decide (y = x.key)) = none) (hN : ¬ ks.length = N) : putK N ks (x :: xs) = (putK N (ks ++ [x.key]) xs).map fun r=>(x :: r.1,⟨x.name,(ks.length : Int)⟩ :: r.2):=by
 rw [putK,h]
 dsimp only
 rw [if_neg hN]
theorem Zpf (ns : List Node) (x : Node) : (ns.map Node.key).findIdx? (fun y=>decide (y = x.key)) = ns.findIdx? (fun y=>decide (y.key = x.key)):=by
 rw [List.findIdx?_map]; rfl
end Go.Hal
namespace Go.Hal
open Go.Proofs.Tryz
open Go Go.RowKit Go.Proofs Go.Shelf
section
variable {w : World} {lo : Nat} {sp : Addr} {K : K7} {q : Quest} {s : St}
theorem Zso {R : Int → World → Prop} (hC : Cs w lo q K) (h : SrAt w lo sp K s) (hI : InvS q 0 s) (hN : q.N ≤ 128) (hD : q.D ≤ 4096)
  (hgraph : ∀ w',q.bind s.ns s.ahead.length s.env = .graph → Ext w w' → R 33 w')
  (hmany : ∀ w',q.bind s.ns s.ahead.length s.env = .many → Below lo w w' → R 32 w')
  (hok : ∀ w' ns',q.bind s.ns s.ahead.length s.env = .ok ns' → Below lo w w' → SrAt w' lo sp K { s with ns:=ns',ahead:=s.ahead ++ [s.ns.length] } → R 0 w') :
  SE.Zb5 (some sp) (q.N : Int) w R:=by
 unfold SE.Zb5
 obtain ⟨stk,nds,ahd,ws,Q,hb,hlo,h0⟩:=h
 have hsl:=h0.stack.len
 have hal:=h0.ahead.len
 have hnl:=h0.nodes.len
 rw [List.length_map] at hal
 have hk:=hI.a
 have hnN:=hI.n
 have hg:=Zrs hb
 have hmx:=Zd
 have hx : s.ns[s.ahead.length]? = some s.ns[s.ahead.length]:=List.getElem?_eq_getElem hk
 obtain ⟨ad,cs,hna,⟨hNx,c,e,rfl,hctx,_⟩,hcx⟩:=h0.nodes.el hx
 have hcA:=Zqj hx
 have hcf:=hI.c _ (List.getElem_mem hk)
 have henv : s.env = (s.stack.drop s.first).foldl addC s.ns[s.ahead.length].ctx:=by unfold St.env; rw [hcA]
 have hsk : s.stack.length ≤ 4096:=by have:=hI.k; have:=hI.d; omega
 have hctxS : ∀ p ∈ s.ns[s.ahead.length].ctx,Str p.name:=fun p hp=>by
  obtain ⟨i,hi,rfl⟩:=List.mem_iff_getElem.1 hp
  obtain ⟨_,_,_,h,_⟩:=Zg0 hctx hi
  exact h
 obtain ⟨S,r,hcat,hS,hrl,hcp⟩:=hC.cat
 refine ⟨sp,rfl,ahd,BoxAt.at1 hb (k:=9) (Ext.refl _) rfl,sp,rfl,nds,BoxAt.at1 hb (k:=8) (Ext.refl _) rfl,ad,⟨hna,by omega,by omega⟩,c,by rw [hal]; exact (hcx _ (Ext.refl _)).mid (k:=4) rfl,?_⟩
 refine SE.Zbk.go (Zoz (S:=Q) h0.nodes.lt hctx fun t w1 x1 own1=>⟨_,rfl,bnd.drew fun w2 x2=>⟨sp,rfl,stk,BoxAt.at1 hb (k:=7) (x1.trans x2) rfl,sp,rfl,(s.first : Int),BoxAt.at1 hb (k:=11) (x1.trans x2) rfl,⟨by omega,by have:=hI.f; omega⟩,?_⟩⟩)
 have hCut : SlR chE w (fun b=>Q b ∨ ∃ ad,stk.a = some ad ∧ b = ad.block) (Sl.cut stk s.first stk.len 5) ((s.stack.take stk.len).drop s.first):=SlR.cut (E:=chE) (h0.stack.read (by show s.stack.length * 64 ≤ room; unfold room; omega) (by omega)) (by have:=hI.f; omega) (by omega)
 rw [List.take_of_length_le (by omega)] at hCut
 have ef : ((s.first : Int)).toNat = s.first:=Int.toNat_natCast _
 rw [ef]
 generalize hcs : Sl.cut stk s.first stk.len 5 = cutS at hCut ⊢
 have hLl : (s.stack.drop s.first).length ≤ 4096:=by rw [List.length_drop]; omega
 generalize hL : s.stack.drop s.first = L at *
 have hcl:=hCut.len
 have hsz1:=x1.size
 have hsz2:=x2.size
 refine loop2.up hCut.max (fun env i w'=>Ext w w' ∧ OwnS pinE 67 w' w.heap.size None' env ((L.take i).foldl addC s.ns[s.ahead.length].ctx) ∧ (((L.take i).foldl addC s.ns[s.ahead.length].ctx).map (·.name)).Nodup ∧ (∀ p ∈ (L.take i).foldl addC s.ns[s.ahead.length].ctx,Str p.name) ∧ ((L.take i).foldl addC s.ns[s.ahead.length].ctx).length ≤ 2048 + i)
  ⟨x1.trans x2,own1.ext x2,hcf.1,hctxS,hcf.2⟩ fun env i w3 nxt hi ⟨x3,own3,hnd,hst,hlen⟩ hn=>⟨fun hlt=>join.named fun J hJ=>?_,fun hge=>?_⟩
 ·have hlt' : i < L.length:=by omega
  obtain ⟨ad16,cs16,ha16,_,⟨hNc,v,rfl,hv⟩,hcc⟩:=hCut.el hlt'
  have estep : (L.take (i + 1)).foldl addC s.ns[s.ahead.length].ctx = addC ((L.take i).foldl addC s.ns[s.ahead.length].ctx) L[i]:=by
   rw [List.take_succ_eq_append_getElem hlt',List.foldl_append]; rfl
  rw [estep] at hn
  generalize (L.take i).foldl addC s.ns[s.ahead.length].ctx = A at *
  generalize L[i] = ch at *
  have hs3:=x3.size
  have kJ : ∀ env' w',Ext w w' → OwnS pinE 67 w' w.heap.size None' env' (addC A ch) → J env' w':=fun env' w' x' o'=>by
   subst hJ
   refine hn hlt' _ _ ⟨x',o',Zrb hnd,fun p hp=>?_,by have:=Zu5 A ch; omega⟩
   cases ht : tells A ch.name with
   | some v=>rw [Zh8 ht] at hp; exact hst p hp
   | none =>
    by_cases hi : ch.i < ch.vs.length
    ·rw [Zju ht hi] at hp
     rcases List.mem_append.1 hp with hp | hp
     ·exact hst p hp
     ·simp only [List.mem_singleton] at hp; subst hp; exact hNc
    ·rw [Zh7 hi] at hp; exact hst p hp
  clear hJ
  have eP : pinE.bytes = 40:=rfl
  have hEnv : SlR pinE w3 (fun b=>w.heap.size ≤ b) env A:=own3.readF (by decide) (by rw [eP]; unfold room; omega)
  refine ⟨ad16,⟨ha16,by omega,hlt⟩,_,_,v,_,_,hcc _ x3,newS.intro fun a w4 x4 hb4 hab4 _ => stw0.intro hb4 (by simp) fun w5 b5 _ hb5=>⟨_,hb5.at1 (k:=1) (Ext.refl _) rfl,?_⟩⟩
  have x35 : Ext w3 w5:=b5.ext x4 (by omega)
  have x05:=x3.trans x35
  refine SE.Zd4.go (Zkx (hEnv.ext x35) (fun v' w6 ht x6=>⟨_,_,_,_,rfl,newS.intro fun a25 w7 x7 hb7 hab7 _ => stw0.intro hb7 (by simp) fun w8 b8 _ hb8=>bound ?_⟩) fun w6 ht x6=>⟨_,_,_,_,rfl,newS.intro fun a25 w7 x7 hb7 hab7 _ => stw0.intro hb7 (by simp) fun w8 b8 _ hb8=>bound ?_⟩)
  ·have x58 : Ext w5 w8:=x6.trans (b8.ext x7 (by omega))
   refine ⟨0,(fun h=>by cases h),Sl.nil,(fun h=>by cases h),(fun h=>by cases h),fun _ => kJ _ _ (x05.trans x58) ?_⟩
   rw [Zh8 ht]
   exact own3.ext (x35.trans x58)
  ·have x58 : Ext w5 w8:=x6.trans (b8.ext x7 (by omega))
   have x08:=x05.trans x58
   have hvl:=hv.len
   refine ⟨(ch.i : Int),fun _ => hb5.at1 (k:=4) x58 rfl,v,fun _ => hb5.at1 (k:=2) x58 rfl,fun hh=>?_,fun hh=>?_⟩
   ·have hci : ch.i < ch.vs.length:=by simp at hh; omega
    obtain ⟨ad34,cs34,ha34,_,⟨hcs34,_⟩,hcv⟩:=hv.el hci
    subst hcs34
    refine bnd.drew fun w9 x9=>⟨_,hb5.at1 (k:=1) (x58.trans x9) rfl,v,hb5.at1 (k:=2) (x58.trans x9) rfl,(ch.i : Int),hb5.at1 (k:=4) (x58.trans x9) rfl,ad34,⟨ha34,by omega,by omega⟩,_,_,_,hcv _ (x08.trans x9),newS.intro fun a37 w10 x10 hb10 _ _ => ?_⟩
    refine (own3.ext (((x35.trans x58).trans x9).trans x10)).pushF (((x08.trans x9).trans x10)) Zmf (x:=⟨ch.name,ch.vs[ch.i]⟩) ⟨rfl,hNc⟩ hb10.ldc (by decide) (by rw [eP]; unfold room; omega) fun r' w11 own11 x11=>kJ r' w11 x11 ?_
    rw [Zju ht hci]
    exact own11
   ·have hci : ¬ ch.i < ch.vs.length:=by simp at hh; omega
    refine kJ _ _ x08 ?_
    rw [Zh7 hci]
    exact own3.ext (x35.trans x58)
 ·have hiL : i = L.length:=by omega
  rw [hiL,List.take_length,← henv] at own3 hnd hst hlen
  have hs3:=x3.size
  have hEl : s.env.length ≤ 7000:=by omega
  generalize hE0 : s.env = E0 at *
  have hF : FlatO pinC 40 w3 w.heap.size env E0:=FlatO.of (E:=pinE) (f:=pinC) (bytes:=40) (fun x cs h=>h.1) own3 (by unfold room; omega)
  refine Zr9 hF hs3 hnd fun w4 b4 hF4=>⟨rfl,?_⟩
  have x04 : Ext w w4:=x3.trans' b4
  have hs4:=x04.size
  have hstS : ∀ p ∈ Zal E0,Str p.name:=fun p hp=>hst p ((Zbe E0).mem_iff.1 hp)
  have hE : SlR pinE w4 (fun b=>w.heap.size ≤ b ∧ b < w4.heap.size) env (Zal E0):=hF4.pins hstS
  have hESl : (Zal E0).length ≤ 7000:=by rw [(Zbe E0).length_eq]; exact hEl
  have hbind : q.bind s.ns s.ahead.length E0 = match targets q (Zal E0) (Zal E0) with
   | none=>.graph
   | some xs=>match putK q.N (s.ns.map Node.key) xs with
    | none=>.many
    | some r=>.ok (Zby s.ns s.ahead.length r.2 ++ r.1):=rfl
  generalize Zal E0 = ES at *
  clear own3 hnd hst hlen hF hF4 hctxS hn b4 x3 hs3 hi hge own1
  have hel:=hE.len
  refine loop2.up hE.max (fun tg i w'=>Ext w4 w' ∧ ∃ (SS : Nat → Prop) (done : List Node),OwnS nodeE 65 w' w4.heap.size SS tg done ∧ (∀ b,SS b → w4.heap.size ≤ b) ∧ targets q ES ES = (targets q ES (ES.drop i)).map (fun r=>done ++ r) ∧ done.length = i)
   ⟨Ext.refl _,None',[],OwnS.nil _ _,fun _ h=>h.elim,by rw [List.drop_zero]; cases targets q ES ES <;> rfl,rfl⟩ fun tg i w5 nxt hi ⟨x5,SS,done,own5,hSS,htg,hdl⟩ hn=>⟨fun hlt=>?_,fun hge=>?_⟩
  ·have hlt' : i < ES.length:=by omega
   obtain ⟨ad6,ha6,_,hNp,hc6⟩:=Zg0 hE hlt'
   rw [List.drop_eq_getElem_cons hlt'] at htg
   generalize ES[i] = p at *
   have hs5:=x5.size
   refine ⟨ad6,⟨ha6,by omega,hlt⟩,_,_,_,_,hc6 _ x5,newS.intro fun a6 w6 x6 hb6 hab6 _ => stw0.intro hb6 (by simp) fun w7 b7 _ hb7=>bnd.drew fun w8 x8=>?_⟩
   have x57 : Ext w5 w7:=b7.ext x6 (by omega)
   have x58:=x57.trans x8
   have x48:=x5.trans x58
   have x08:=x04.trans x48
   have hs8:=x58.size
   refine ⟨sp,rfl,some K.cp,BoxAt.at0 hb x08 rfl,sp,rfl,K.mD,K.mDev,K.mOpt,K.mOv,BoxAt.at1 hb (k:=1) x08 rfl,_,_,_,_,hb7.at0 (r:=[]) x8 rfl,?_⟩
   have hC8:=hC.below (x08.below' lo hC.le)
   refine SE.Zey.go (Zk9 (hcat.ext x08) hC8.old (S3:=fun b=>w.heap.size ≤ b ∧ b < w4.heap.size) (fun b hb=>by have:=x48.size; omega) hC8.over (hE.ext x48) hNp (fun cx t w9 hres x9 hF9 hst9=>⟨_,_,rfl,(fun h=>by cases h),fun _ => ?_⟩) fun w9 hres x9=>⟨_,_,rfl,fun _ => ?_,(fun h=>by cases h)⟩)
   ·have hs9:=x9.size
    have x79:=x8.trans x9
    refine ⟨_,hb7.at0 x79 rfl,_,_,_,hb7.at1 (k:=1) (r:=[]) x79 rfl,newS.intro fun a10 w10 x10 hb10 hab10 _ => ?_⟩
    have x510:=(x58.trans x9).trans x10
    have hs10:=x10.size
    refine (own5.ext x510).push (E:=nodeE) Zqa (x:=⟨p.name,p.v,cx,[]⟩) (S':=fun b=>w8.heap.size ≤ b ∧ b < w9.heap.size) (by have:=x510.size; omega) ⟨hNp,t,Sl.nil,rfl,(hF9.pins hst9).ext x10,SlR.nil trivial⟩ hb10.ldc (fun b hb=>by omega) (fun ad had hb=>by have:=(own5.block had).2.1; omega) (by show (done.length + 1) * 88 ≤ room; unfold room; omega) (by omega) fun r' w11 own11 bel11 oth11 reg11=>?_
    refine hn hlt' _ _ ⟨(x5.trans x510).trans' bel11,_,done ++ [⟨p.name,p.v,cx,[]⟩],own11,fun b hb=>?_,?_,by rw [List.length_append,hdl]; rfl⟩
    ·rcases hb with hb | hb
     ·exact hSS b hb
     ·omega
    ·rw [htg,Zfh hres,Option.map_map]
     congr 1
     funext r
     simp
   ·refine hgraph w9 ?_ (x08.trans x9)
    rw [hbind,htg,Zgk hres]; rfl
  ·have hiL : i = ES.length:=by omega
   have htg' : targets q ES ES = some done:=by
    rw [htg,hiL,List.drop_length,targets]; simp
   rw [htg'] at hbind
   dsimp only at hbind
   clear htg hn htg'
   have hs5:=x5.size
   have x05:=x04.trans x5
   have hs05:=x05.size
   generalize done = xs at *
   have hxl : xs.length ≤ 7000:=by omega
   obtain ⟨ST,hST,hSTb⟩ : ∃ ST,SlR nodeE w5 ST tg xs ∧ ∀ b,ST b → w4.heap.size ≤ b ∧ b < w5.heap.size:=⟨_,own5.read (by show xs.length * 88 ≤ room; unfold room; omega) (by omega),fun b hb=>by
    rcases hb with hb | ⟨ad,had,rfl⟩
    ·exact ⟨hSS b hb,own5.lt b hb⟩
    ·exact ⟨(own5.block had).1,(own5.block had).2.1⟩⟩
   have hndb : ∀ ad,nds.a = some ad → ad.block < w.heap.size:=fun ad had=>(h0.nodes.block had).2.1
   have hahb : ∀ ad,ahd.a = some ad → ad.block < w.heap.size:=fun ad had=>(h0.ahead.block had).2.1
   have hstb : ∀ ad,stk.a = some ad → ad.block < w.heap.size:=fun ad had=>(h0.stack.block had).2.1
   obtain ⟨Q2,h5,hQ2,hQS⟩ : ∃ Q2,Sr0 w5 lo sp.block stk nds ahd ws Q2 s ∧ (∀ b,Q2 b → b < w5.heap.size) ∧ ∀ b,ST b → Q2 b:=⟨_,h0.grow x05 hC.le hg,fun b hb=>by
    rcases hb with hb | hb
    ·have:=h0.nodes.lt b hb; omega
    ·exact hb.2,fun b hb=>.inr ⟨by have:=hSTb b hb; omega,(hSTb b hb).2⟩⟩
   have htl:=hST.len
   refine ⟨sp,rfl,nds,BoxAt.at1 hb (k:=8) x05 rfl,?_⟩
   refine loop2.up hST.max (fun eg i w'=>∃ (nds' : Sl) (added : List Node) (es : List Edge),BoxAt w' sp (Zef K stk nds' ahd ws s.first) ∧ Sr0 w' lo sp.block stk nds' ahd ws Q2 { s with ns:=s.ns ++ added } ∧ (∀ ad,nds'.a = some ad → ad.block < w.heap.size ∨ w5.heap.size ≤ ad.block) ∧ Below lo w5 w' ∧ (∀ b,w.heap.size ≤ b → b < w5.heap.size → w'.heap[b]? = w5.heap[b]?) ∧
     OwnS edgeE 90 w' w5.heap.size None' eg es ∧ Apart eg nds' ∧ putK q.N (s.ns.map Node.key) xs = (putK q.N ((s.ns ++ added).map Node.key) (xs.drop i)).map (fun r=>(added ++ r.1,es ++ r.2)) ∧ es.length = i ∧ (s.ns ++ added).length ≤ q.N)
    ⟨nds,[],[],hb.ext x05,by rw [List.append_nil]; exact h5,fun ad had=>.inl (hndb ad had),Below.refl _ _,fun _ _ _ => rfl,OwnS.nil _ _,fun _ _ h=>(by cases h),by rw [List.append_nil,List.drop_zero]; cases putK q.N (s.ns.map Node.key) xs <;> rfl,rfl,by rw [List.append_nil]; exact hnN⟩
    fun eg i w6 nxt hi ⟨nds',added,es,hb6,h6,hnb6,bel6,mid6,own6,hA6,hpk,hesl,hnl6⟩ hn=>⟨fun hlt=>?_,fun hge=>?_⟩
   ·have hlt' : i < xs.length:=by omega
    have hs6:=bel6.size
    have hT6 : SlR nodeE w6 ST tg xs:=hST.keep fun b hb hbl=>mid6 b (by have:=hSTb b hb; omega) hbl
    obtain ⟨ad7,cs7,ha7,_,⟨hNy,cy,ey,rfl,hcy,hey⟩,hcc7⟩:=hT6.el hlt'
    rw [List.drop_eq_getElem_cons hlt'] at hpk
    have hnl6':=h6.nodes.len
    generalize xs[i] = x at *
    refine ⟨ad7,⟨ha7,by omega,hlt⟩,_,_,_,_,cy,ey,hcc7 _ (Ext.refl _),newS.intro fun a7 w7 x7 hb7 hab7 _ => stw0.intro hb7 (by simp) fun w8 b8 _ hb8=>?_⟩
    have hs7:=x7.size
    have x68 : Ext w6 w8:=b8.ext x7 (by omega)
    have hs8:=x68.size
    have hnds : SlR nodeE w8 (fun b=>Q2 b ∨ ∃ ad,nds'.a = some ad ∧ b = ad.block) nds' (s.ns ++ added):=(h6.nodes.ext x68).read (by show (s.ns ++ added).length * 88 ≤ room; unfold room; omega) (by show (s.ns ++ added).length ≤ maxLen; omega)
    have hsp6 : sp.block < w.heap.size:=hg
    have x58s : w5.heap.size ≤ w8.heap.size:=by omega
    refine ⟨sp,rfl,nds',BoxAt.at1 hb6 (k:=8) x68 rfl,SE.Zah.go (Zrm (p:=fun y=>decide (y.key = x.key)) hnds (fun y _ c' e' w'' k hx'' hcy' hk=>⟨_,_,rfl,Zo8,SE.Zb9.go (Zvg (x:=x) (y:=y) (hb8.ext hx'') ((hcy.ext x68).ext hx'') hcy' hk)⟩) fun w9 x9=>⟨_,rfl,join.named fun J hJ=>?_⟩)⟩
    have x69:=x68.trans x9
    have hs9:=x69.size
    have hb9:=hb8.ext x9
    have kJ : ∀ (to : Int) (w10 : World) (nds2 : Sl) (added2 : List Node),BoxAt w10 a7 [.string x.name,.int .i64 x.v.ma,.int .i64 x.v.mi,.int .i64 x.v.pa,cy.v,ey.v] → BoxAt w10 sp (Zef K stk nds2 ahd ws s.first) → Sr0 w10 lo sp.block stk nds2 ahd ws Q2 { s with ns:=s.ns ++ added2 } → (∀ ad,nds2.a = some ad → ad.block < w.heap.size ∨ w5.heap.size ≤ ad.block) → Below lo w5 w10 → (∀ b,w.heap.size ≤ b → b < w5.heap.size → w10.heap[b]? = w5.heap[b]?) →
      OwnS edgeE 90 w10 w5.heap.size None' eg es → Apart eg nds2 → putK q.N (s.ns.map Node.key) xs = (putK q.N ((s.ns ++ added2).map Node.key) (xs.drop (i + 1))).map (fun r=>(added2 ++ r.1,(es ++ [⟨x.name,to⟩]) ++ r.2)) → (s.ns ++ added2).length ≤ q.N → J to w10:=by
     subst hJ
     intro to w10 nds2 added2 hb10 hsp10 h10 hnb10 bel10 mid10 own10 hA10 hpk10 hnl10
     refine ⟨_,hb10.at0 (Ext.refl _) rfl,newS.intro fun a11 w11 x11 hb11 hab11 _ => ?_⟩
     have hs10:=bel10.size
     have hs11:=x11.size
     have bel11 : Below lo w5 w11:=Below.trans bel10 (x11.below' lo (by have:=hC.le; omega))
     refine (own10.ext x11).push (E:=edgeE) Zw7 (x:=⟨x.name,to⟩) (S':=None') (by omega) ⟨rfl,hNy⟩ hb11.ldc (fun _ h=>h.elim) (fun _ _ h=>h.elim) (by show (es.length + 1) * 24 ≤ room; unfold room; omega) (by omega) fun r' w12 own12 bel12 oth12 reg12=>?_
     have hs12:=bel12.size
     have ho : Oth eg w11 w12:=⟨bel12.size,oth12⟩
     have hegb : ∀ ad,eg.a = some ad → w5.heap.size ≤ ad.block:=fun ad had=>(own10.block had).1
     refine hn hlt' r' w12 ⟨nds2,added2,es ++ [⟨x.name,to⟩],(hsp10.ext x11).oth ho (fun ad had=>by have:=hegb ad had; omega),(h10.ext x11).oth ho (fun a b ha hb=>by have:=hstb a ha; have:=hegb b hb; omega) hA10.swap (fun a b ha hb=>by have:=hahb a ha; have:=hegb b hb; omega) (fun ad had hq=>by have:=hegb ad had; have:=hQ2 _ hq; omega),hnb10,
      Below.trans bel11 (Below.mono bel12 (by have:=hC.le; omega)),fun b h1 h2=>?_,own12.mono (fun _ h=>h.elim id id) (fun _ h=>h.elim) (fun _ _ h=>h.elim),Sl.regA reg12 hA10 (h10.nodes.ext x11),hpk10,by rw [List.length_append,hesl]; rfl,hnl10⟩
     rw [oth12 b (by omega) fun ad had e=>by have:=hegb ad had; omega,x11.block (by omega)]
     exact mid10 b h1 h2
    clear hJ
    have hkey:=Zpf (s.ns ++ added) x
    have hnlN : (s.ns ++ added).length = s.ns.length + added.length:=List.length_append
    cases hf : (s.ns ++ added).findIdx? (fun y=>decide (y.key = x.key)) with
    | some j =>
     have hidx : idxI (fun y : Node=>decide (y.key = x.key)) (s.ns ++ added) = (j : Int):=by unfold idxI; rw [hf]
     rw [hidx]
     rw [hf] at hkey
     refine ⟨fun h=>by omega,fun _ => kJ (j : Int) w9 nds' added hb9 (hb6.ext x69) (h6.ext x69) hnb6 (Below.trans bel6 (x69.below' lo (by have:=hC.le; omega))) (fun b h1 h2=>by rw [x69.block (by omega)]; exact mid6 b h1 h2) (own6.ext x69) hA6 ?_ hnl6⟩
     rw [hpk,Zqv hkey,Option.map_map]
     congr 1
     funext r
     simp
    | none =>
     have hidx : idxI (fun y : Node=>decide (y.key = x.key)) (s.ns ++ added) = -1:=by unfold idxI; rw [hf]
     rw [hidx]
     rw [hf] at hkey
     have hlen6 : nds'.len = (s.ns ++ added).length:=hnl6'
     refine ⟨fun _ => ⟨sp,rfl,nds',BoxAt.at1 hb6 (k:=8) x69 rfl,fun hfull=>?_,fun hnf=>?_⟩,fun h=>absurd (by decide) h⟩
     ·refine hmany w9 ?_ (Below.trans (Below.trans (x05.below' lo hC.le) bel6) (x69.below' lo (by have:=hC.le; omega)))
      rw [hbind,hpk,Zn9 hkey (by rw [List.length_map]; omega)]; rfl
     ·refine ⟨sp,rfl,nds',BoxAt.at1 hb6 (k:=8) x69 rfl,bnd.drew fun w10 x10=>⟨sp,rfl,nds',BoxAt.at1 hb6 (k:=8) (x69.trans x10) rfl,_,_,_,_,cy,ey,hb9.at0 (r:=[]) x10 rfl,newS.intro fun a11 w11 x11 hb11 hab11 _ => ?_⟩⟩
      have hs10:=x10.size
      have hs11:=x11.size
      have x611:=(x69.trans x10).trans x11
      have bel11 : Below lo w5 w11:=Below.trans bel6 (x611.below' lo (by have:=hC.le; omega))
      refine Sr0.pushNd (x:=x) (h6.ext x611) Zqa (by have:=hC.le; omega) (by omega) ⟨hNy,cy,ey,rfl,(hcy.ext x611).mono hQS,(hey.ext x611).mono hQS⟩ hb11.ldc (by show (s.ns ++ added).length ≤ 1000; omega) fun r' w12 h12 bel12 ho12 reg12=>?_
      have hs12:=bel12.size
      have hnne : ∀ ad,nds'.a = some ad → ad.block < w11.heap.size:=fun ad had=>by have:=(h6.nodes.block had).2.1; omega
      have hne7 : ∀ ad,nds'.a = some ad → a7.block ≠ ad.block:=fun ad had=>by have:=(h6.nodes.block had).2.1; omega
      have hb12 : BoxAt w12 sp (Zef K stk nds' ahd ws s.first):=(hb6.ext x611).oth ho12 fun ad had e=>h6.o2 ad had e.symm
      refine ⟨sp,rfl,?_⟩
      refine stw.intro (o:=8) hb12 (by show 9 ≤ 12; omega) fun w13 b13 hz13 hb13=>?_
      have hs13:=b13.1
      have hne7' : a7.block ≠ sp.block:=by omega
      have hrb : ∀ ad,r'.a = some ad → ad.block < w.heap.size ∨ w5.heap.size ≤ ad.block:=fun ad had=>by
       rcases reg12 ad had with h | h
       ·exact hnb6 ad h
       ·right; omega
      have hA12 : Apart eg r':=(Sl.regA reg12 hA6.swap (own6.ext x611)).swap
      have hto : ((nds'.len : Int)) = (((s.ns ++ added).map Node.key).length : Int):=by rw [List.length_map,hlen6]
      rw [hto]
      refine kJ _ w13 r' (added ++ [x]) (b13.box ((hb9.ext (x10.trans x11)).oth ho12 hne7) hne7') hb13 ?_ hrb (Below.trans (Below.trans bel11 bel12) (b13.below (by have:=hC.le; omega) hlo)) (fun b h1 h2=>?_) ?_ hA12 ?_ ?_
      ·have h13:=h12.but b13
       have e1 : s.ns ++ added ++ [x] = s.ns ++ (added ++ [x]):=List.append_assoc _ _ _
       rw [← e1]; exact h13
      ·rw [b13.2.2.2.2 b (by omega) (by omega),ho12.2 b (by omega) fun ad had e=>by rcases hnb6 ad had with h | h <;> omega,x611.block (by omega)]
       exact mid6 b h1 h2
      ·exact ((own6.ext x611).oth ho12 hA6 fun _ _ h=>h.elim).but b13 (fun h=>h.elim) fun ad had=>by have:=(own6.block had).1; omega
      ·have e2 : (s.ns ++ (added ++ [x])).map Node.key = (s.ns ++ added).map Node.key ++ [x.key]:=by rw [← List.append_assoc]; exact List.map_append
       rw [hpk,Zqw hkey (by rw [List.length_map]; omega),Option.map_map,e2]
       congr 1
       funext r
       simp
      ·rw [List.length_append,List.length_append]
       rw [List.length_singleton]
       omega
   ·have hiX : i = xs.length:=by omega
    have hpk' : putK q.N (s.ns.map Node.key) xs = some (added,es):=by
     rw [hpk,hiX,List.drop_length,putK]; simp
    rw [hpk'] at hbind
    dsimp only at hbind
    clear hpk hpk' hn
    have hs6:=bel6.size
    have hnlN : (s.ns ++ added).length = s.ns.length + added.length:=List.length_append
    have hk6 : s.ahead.length < (s.ns ++ added).length:=by omega
    have hx6 : (s.ns ++ added)[s.ahead.length]? = some (s.ns ++ added)[s.ahead.length]:=List.getElem?_eq_getElem hk6
    obtain ⟨ad8,cs8,ha8,_,_⟩:=h6.nodes.el hx6
    have hnl6' : nds'.len = (s.ns ++ added).length:=h6.nodes.len
    have heg:=own6.read (by show es.length * 24 ≤ room; unfold room; omega) (by omega)
    have hegb : ∀ ad,eg.a = some ad → w5.heap.size ≤ ad.block ∧ ad.block < w6.heap.size:=fun ad had=>⟨(own6.block had).1,(own6.block had).2.1⟩
    have h7:=h6.addQ (P:=fun b=>∃ ad,eg.a = some ad ∧ b = ad.block) (fun b ⟨ad,had,e⟩=>by have:=hegb ad had; have:=hC.le; subst e; exact ⟨by omega,by omega,by omega⟩) (fun a ha ⟨b,hb,e⟩=>by have:=hstb a ha; have:=hegb b hb; omega) (fun a ha ⟨b,hb,e⟩=>hA6 b a hb ha e.symm) (fun a ha ⟨b,hb,e⟩=>by have:=hahb a ha; have:=hegb b hb; omega)
    have heg7 : SlR edgeE w6 (fun b=>Q2 b ∨ ∃ ad,eg.a = some ad ∧ b = ad.block) eg es:=heg.mono fun b hb=>by
     rcases hb with hb | hb
     ·exact hb.elim
     ·exact .inr hb
    generalize hQ3 : (fun b=>Q2 b ∨ ∃ ad,eg.a = some ad ∧ b = ad.block) = Q3 at h7 heg7
    refine ⟨sp,rfl,nds',BoxAt.at1 hb6 (k:=8) (Ext.refl _) rfl,ad8,⟨ha8,by omega,by omega⟩,?_⟩
    rw [hal]
    have hgx : (s.ns ++ added)[s.ahead.length] = s.ns[s.ahead.length]:=List.getElem_append_left hk
    refine h7.nodes.setEl (i:=s.ahead.length) (x:={ s.ns[s.ahead.length] with edges:=es }) (o:=5) (new:=[eg.v]) hk6 ha8 (fun cs hcs=>?_) (by show 5 + 1 ≤ 6; omega) fun w7 b7 hz7 own7=>?_
    ·rw [hgx] at hcs
     obtain ⟨k1,c',e',rfl,k2,k3⟩:=hcs
     exact ⟨k1,c',eg,rfl,k2,heg7⟩
    have hset : (s.ns ++ added).set s.ahead.length { s.ns[s.ahead.length] with edges:=es } = Zby s.ns s.ahead.length es ++ added:=Zjh hk
    have own7' : OwnS nodeE 65 w7 lo Q3 nds' (Zby s.ns s.ahead.length es ++ added):=by rw [← hset]; exact own7
    have hQ8:=h7.nodes.apart ad8 ha8
    have h8 : Sr0 w7 lo sp.block stk nds' ahd ws Q3 { s with ns:=Zby s.ns s.ahead.length es ++ added }:=⟨h7.stack.but b7 hQ8 fun a ha e=>h7.a1 a ad8 ha ha8 e.symm,own7',h7.ahead.but b7 hQ8 fun a ha=>h7.a3 ad8 a ha8 ha,h7.wants.but b7 hQ8,h7.q,h7.a1,h7.a2,h7.a3,h7.o1,h7.o2,h7.o3⟩
    have hb7:=b7.box hb6 (fun e=>h6.o2 ad8 ha8 e.symm)
    have hs7:=b7.1
    have hl8 : lo ≤ ad8.block:=(h7.nodes.block ha8).1
    have bel7 : Below lo w w7:=Below.trans (Below.trans (x05.below' lo hC.le) bel6) (b7.below (by have:=hC.le; omega) hl8)
    refine ⟨sp,rfl,ahd,BoxAt.at1 hb7 (k:=9) (Ext.refl _) rfl,newS.intro fun a9 w9 x9 hb9 hab9 _ => ?_⟩
    have hs9:=x9.size
    rw [hnl] at hb9
    have hlo9 : lo ≤ w9.heap.size:=by have:=hC.le; omega
    refine Sr0.pushAh (x:=s.ns.length) (h8.ext x9) Z0g hlo9 (by omega) hb9.ldc (by show s.ahead.length ≤ 100000; omega) fun r' w10 h10 bel10 ho10=>⟨sp,rfl,?_⟩
    have hb10 : BoxAt w10 sp (Zef K stk nds' ahd ws s.first):=(hb7.ext x9).oth ho10 fun ad had e=>h0.o3 ad had e.symm
    have hs10:=bel10.size
    refine stw.intro (o:=9) hb10 (by show 10 ≤ 12; omega) fun w11 b11 _ hb11=>hok w11 _ hbind ?_ ⟨stk,nds',r',ws,Q3,hb11,hlo,h10.but b11⟩
    exact Below.trans (Below.trans (Below.trans bel7 (x9.below' lo (by have:=hC.le; omega))) bel10) (b11.below (by have:=hC.le; omega) hlo)
end
end Go.Hal
namespace Go.Hal
open Go.Proofs.Tryz
def wDev : List UInt8:=[100,101,118]
def wPins : List UInt8:=[112,105,110,115]
def pjText : List UInt8:=[112,114,111,106,101,99,116,10]
def Zgd (m : Mani) : List UInt8:=(((pjText ++ Za6 wNeeds m.deps) ++ Za6 wDev m.dev) ++ Za6 wLikes m.opt) ++ Za6 wPins m.over
def Zdc (m : Mani) : Bool:=Zo m.deps && Zo m.dev && Zo m.opt && Zo m.over
def Zf0 (m : Mani) : Bool:=Zc2 m.deps m.dev && Zc2 m.deps m.opt && Zc2 m.dev m.opt
def Zcf (m : Mani) : Bool:=Zdc m && (Zf0 m && decide ((Zgd m).length ≤ 4096))
def Zdy : List Dep → Bool
 | []=>true
 | [_]=>true
 | x :: y :: r=>!decide (cmpS y.name x.name < 0) && Zdy (y :: r)
def okD (d : Dep) : Bool:=Zba d.name && Z4 d.range && !d.range.isEmpty
def wk (l : List Dep) : Bool:=decide (l.length ≤ 16) && Zdy l && l.all okD
def may3 (a b c : List Dep) : Bool:=Zo a && Zo b && Zo c && decide ((a ++ b ++ c).map (·.name)).Nodup
theorem Zno : ∀ {l : List Dep} {p : Option ByteArray},Zcl p l = true → Zdy l = true ∧ l.all okD = true
 | [],_,_ => ⟨rfl,rfl⟩
 | [x],p,h=>by
  rw [Zcl] at h
  simp only [Bool.and_eq_true] at h
  exact ⟨rfl,by simp [okD,h.1.1.1.1,h.1.1.1.2,h.1.1.2]⟩
 | x :: y :: r,p,h=>by
  rw [Zcl] at h
  simp only [Bool.and_eq_true] at h
  obtain ⟨h1,h2⟩:=Zno h.2
  rw [Zcl] at h
  simp only [Bool.and_eq_true,Zhc] at h
  refine ⟨?_,?_⟩
  ·rw [Zdy,h1]
   have h3 : bLt x.name y.name = true:=h.2.1.2
   have h4 : ¬ cmpS y.name x.name < 0:=fun hc=>by rw [Zh1,Zj9 h3] at hc; cases hc
   simp [h4]
  ·rw [List.all_cons,h2]
   simp [okD,h.1.1.1.1,h.1.1.1.2,h.1.1.2]
theorem Ziz {l : List Dep} (h : Zo l = true) : wk l = true:=by
 unfold Zo at h
 simp only [Bool.and_eq_true] at h
 obtain ⟨h1,h2⟩:=Zno h.1
 unfold wk
 rw [h1,h2,h.2]; rfl
theorem Z0e : ∀ {l : List Dep} {p : Option ByteArray},Zdy l = true → l.all okD = true → (l.map (·.name)).Nodup → (∀ x,l.head? = some x → Zhc p x.name = true) → Zcl p l = true
 | [],_,_,_,_,_ => rfl
 | [x],p,_,h2,_,h4=>by
  rw [Zcl,Zcl,h4 x rfl]
  simp [okD] at h2
  simp [h2]
 | x :: y :: r,p,h1,h2,h3,h4=>by
  rw [Zdy] at h1
  rw [List.all_cons] at h2
  rw [Bool.and_eq_true] at h1 h2
  rw [List.map_cons,List.nodup_cons] at h3
  rw [Zcl,h4 x rfl,Z0e h1.2 h2.2 h3.2 fun z hz=>?_]
  ·have:=h2.1
   unfold okD at this
   rw [this]; rfl
  ·simp only [List.head?_cons,Option.some.injEq] at hz
   subst hz
   show bLt x.name y.name = true
   have h5 : ¬ cmpS y.name x.name < 0:=by simpa using h1.1
   have hO:=Zgb (α := ByteArray) id
   have:=hO.flip y.name x.name
   have:=hO.flip x.name y.name
   simp only [id] at *
   refine Zne (by omega) fun e=>h3.1 ?_
   rw [e]; simp
theorem Zu2 {l : List Dep} (h : wk l = true) (hn : (l.map (·.name)).Nodup) : Zo l = true:=by
 unfold wk at h
 simp only [Bool.and_eq_true] at h
 unfold Zo
 rw [Z0e h.1.2 h.2 hn fun _ _ => rfl,h.1.1]; rfl
theorem Zy1 {a b c : List Dep} (ha : wk a = true) (hb : wk b = true) (hc : wk c = true) : may3 a b c = decide ((a ++ b ++ c).map (·.name)).Nodup:=by
 unfold may3
 cases h : decide ((a ++ b ++ c).map (·.name)).Nodup
 ·rw [Bool.and_false]
 ·have hn:=of_decide_eq_true h
  rw [List.map_append,List.map_append,List.nodup_append,List.nodup_append] at hn
  rw [Zu2 ha hn.1.1,Zu2 hb hn.1.2.1,Zu2 hc hn.2.1]; rfl
theorem Zi5 {a b c : List Dep} (h : wk a = false ∨ wk b = false ∨ wk c = false) : may3 a b c = false:=by
 cases hm : may3 a b c
 ·rfl
 ·unfold may3 at hm
  simp only [Bool.and_eq_true] at hm
  rcases h with h | h | h
  ·rw [Ziz hm.1.1.1] at h; cases h
  ·rw [Ziz hm.1.1.2] at h; cases h
  ·rw [Ziz hm.1.2] at h; cases h
theorem Zpk (a b c : List Dep) : may3 a b c = (Zo a && Zo b && Zo c && (Zc2 a b && Zc2 a c && Zc2 b c)):=by
 unfold may3
 cases h : (Zo a && Zo b && Zo c)
 ·simp
 ·simp only [Bool.and_eq_true] at h
  rw [Bool.true_and,Bool.true_and,Bool.eq_iff_iff,decide_eq_true_eq,Bool.and_eq_true,Bool.and_eq_true,Ze0,Ze0,Ze0]
  have h1:=Zec h.1.1; have h2:=Zec h.1.2; have h3:=Zec h.2
  rw [List.map_append,List.map_append,List.nodup_append,List.nodup_append]
  constructor
  ·rintro ⟨⟨_,_,h4⟩,_,h5⟩
   exact ⟨⟨h4,fun x hx y hy=>h5 x (List.mem_append_left _ hx) y hy⟩,fun x hx y hy=>h5 x (List.mem_append_right _ hx) y hy⟩
  ·rintro ⟨⟨h4,h5⟩,h6⟩
   exact ⟨⟨h1,h2,h4⟩,h3,fun x hx y hy=>(List.mem_append.1 hx).elim (fun hx=>h5 x hx y hy) fun hx=>h6 x hx y hy⟩
theorem Ztv (l : List Dep) : may3 l [] [] = Zo l:=by
 rw [Zpk]
 have : Zc2 l [] = true:=by rw [Ze0]; intro x _ y hy; simp at hy
 have h2 : Zc2 ([] : List Dep) [] = true:=rfl
 have h3 : Zo [] = true:=rfl
 rw [this,h2,h3]; simp
theorem Zrt (m : Mani) : Zcf m = ((may3 m.deps m.dev m.opt && may3 m.over [] []) && decide ((Zgd m).length ≤ 4096)):=by
 rw [Ztv,Zpk]
 unfold Zcf Zdc Zf0
 cases Zo m.deps <;> cases Zo m.dev <;> cases Zo m.opt <;> cases Zo m.over <;> simp
theorem Zmw {m : Mani} (h : Zcf m = true) : Zo m.deps = true ∧ Zo m.dev = true ∧ Zo m.opt = true ∧ Zo m.over = true ∧ Zf0 m = true:=by
 unfold Zcf Zdc at h
 simp only [Bool.and_eq_true] at h
 exact ⟨h.1.1.1.1,h.1.1.1.2,h.1.1.2,h.1.2,h.2.1⟩
theorem Zg6 {m : Mani} (h : Zcf m = true) : m.deps.length + m.dev.length + m.opt.length ≤ 48:=by
 obtain ⟨h1,h2,h3,_⟩:=Zmw h
 have:=(Zk h1).1; have:=(Zk h2).1; have:=(Zk h3).1
 omega
end Go.Hal
/-
 DERIVED: THE SHELF's CONTRACTS AT THIS DUMP,IN PLAIN WORDS (tools/lay-plain.mjs out of 'YtcnoablfimcajaaGreatDoorLay4.lean',which tools/lay-shelf.mjs wrote): THE SAME DECLARATIONS UNDER THE SAME NAMES: 'import','namespace','open','def','theorem' AND NOTHING ELSE: no command of the shelf's: FOR A HAND-IN. Each laying: the table of numbers ('.._ren') and one theorem,a field a fact of the dump's own or the kernel's comparison; each contract: ONE APPLICATION.
-/
namespace Go.Proofs
open Go.Shelf
def Tryz.laySd_ren : Go.Shelf.Ren:=⟨fun | 6=>112 | 15=>98 | 14=>165 | 28=>153 | 29=>154 | 20=>211 | 21=>212 | 22=>213 | 23=>214 | 24=>215 | 25=>216 | 26=>217 | 27=>218 | 46=>249 | 47=>204 | 48=>205 | 49=>250 | 50=>251 | 57=>263 | n=>n,fun | 22=>23 | 24=>74 | 25=>165 | 3=>3 | 39=>155 | 0=>0 | 53=>212 | 55=>214 | 4=>4 | 46=>206 | 45=>205 | 50=>199 | 5=>5 | 9=>9 | 66=>252 | 70=>256 | 76=>276 | 77=>277 | n=>n,fun | n=>n⟩
theorem Tryz.laySd : Go.Proofs.SlLaysF0.n6 prog Tryz.laySd_ren:={
 mixed:=by kernel_rfl
 f6:=⟨Tryz.f112.name,by decide,func112.trans (congrArg some (by kernel_rfl))⟩
 f14:=⟨Tryz.f165.name,by decide,func165.trans (congrArg some (by kernel_rfl))⟩
 f15:=func98.trans (congrArg some (by kernel_rfl))
 f20:=⟨Tryz.f211.name,by decide,func211.trans (congrArg some (by kernel_rfl))⟩
 f21:=⟨Tryz.f212.name,by decide,func212.trans (congrArg some (by kernel_rfl))⟩
 f22:=⟨Tryz.f213.name,by decide,func213.trans (congrArg some (by kernel_rfl))⟩
 f23:=⟨Tryz.f214.name,by decide,func214.trans (congrArg some (by kernel_rfl))⟩
 f24:=⟨Tryz.f215.name,by decide,func215.trans (congrArg some (by kernel_rfl))⟩
 f25:=⟨Tryz.f216.name,by decide,func216.trans (congrArg some (by kernel_rfl))⟩
 f26:=⟨Tryz.f217.name,by decide,func217.trans (congrArg some (by kernel_rfl))⟩
 f27:=⟨Tryz.f218.name,by decide,func218.trans (congrArg some (by kernel_rfl))⟩
 f28:=func153.trans (congrArg some (by kernel_rfl))
 f29:=func154.trans (congrArg some (by kernel_rfl))
 f46:=⟨Tryz.f249.name,by decide,func249.trans (congrArg some (by kernel_rfl))⟩
 f47:=func204.trans (congrArg some (by kernel_rfl))
 f48:=func205.trans (congrArg some (by kernel_rfl))
 f49:=⟨Tryz.f250.name,by decide,func250.trans (congrArg some (by kernel_rfl))⟩
 f50:=⟨Tryz.f251.name,by decide,func251.trans (congrArg some (by kernel_rfl))⟩
 f57:=⟨Tryz.f263.name,by decide,func263.trans (congrArg some (by kernel_rfl))⟩
 t0:=underlying0
 a0:=Tryz.isAgg0
 z0:=Tryz.sizeOf0
 v0:=Tryz.zeroValue0
 t3:=underlying3
 a3:=Tryz.isAgg3
 z3:=Tryz.sizeOf3
 v3:=Tryz.zeroValue3
 t4:=underlying4
 a4:=Tryz.isAgg4
 z4:=Tryz.sizeOf4
 v4:=Tryz.zeroValue4
 t5:=underlying5
 a5:=Tryz.isAgg5
 z5:=Tryz.sizeOf5
 v5:=Tryz.zeroValue5
 t9:=underlying9
 a9:=Tryz.isAgg9
 z9:=Tryz.sizeOf9
 v9:=Tryz.zeroValue9
 t22:=underlying23
 a22:=Tryz.isAgg23
 z22:=Tryz.sizeOf23
 v22:=Tryz.zeroValue23
 t25:=underlying165
 a25:=Tryz.isAgg165
 z25:=Tryz.sizeOf165
 v25:=Tryz.zeroValue165
 t39:=underlying155
 a39:=Tryz.isAgg155
 z39:=Tryz.sizeOf155
 v39:=Tryz.zeroValue155
 t45:=underlying205
 a45:=Tryz.isAgg205
 z45:=Tryz.sizeOf205
 v45:=Tryz.zeroValue205
 t46:=underlying206
 a46:=Tryz.isAgg206
 z46:=Tryz.sizeOf206
 v46:=Tryz.zeroValue206
 t50:=underlying199
 a50:=Tryz.isAgg199
 z50:=Tryz.sizeOf199
 v50:=Tryz.zeroValue199
 t53:=underlying212
 a53:=Tryz.isAgg212
 z53:=Tryz.sizeOf212
 v53:=Tryz.zeroValue212
 t55:=underlying214
 a55:=Tryz.isAgg214
 z55:=Tryz.sizeOf214
 v55:=Tryz.zeroValue214
 t66:=underlying252
 a66:=Tryz.isAgg252
 z66:=Tryz.sizeOf252
 v66:=Tryz.zeroValue252
 t70:=underlying256
 a70:=Tryz.isAgg256
 z70:=Tryz.sizeOf256
 v70:=Tryz.zeroValue256
 t76:=underlying276
 a76:=Tryz.isAgg276
 z76:=Tryz.sizeOf276
 v76:=Tryz.zeroValue276
 t77:=underlying277
 a77:=Tryz.isAgg277
 z77:=Tryz.sizeOf277
 v77:=Tryz.zeroValue277 }
end Go.Proofs
namespace Go.Hal
open Go.Proofs.Tryz
open Go Go.RowKit Go.Proofs Go.Shelf
instance : Inhabited Sl:=⟨Sl.nil⟩
theorem Zya {a b : ByteArray × Sl} {w : World} {R : Int → World → Prop} (hR : ∀ w',Gr w w' → R (cmpS a.1 b.1) w') : SE.Zch a.1 a.2 b.1 b.2 w R:=by
 unfold SE.Zch
 refine newS.gr fun _ w1 x1 hb=>newS.gr fun _ w2 x2 hb2=>⟨_,Gr.at0 hb x2 rfl,_,Gr.at0 hb2 (Gr.refl _) rfl,Zip ⟨_,rfl,hR _ (x1.trans x2)⟩⟩
theorem Zlp : Zgv prog 110:=enters_of func110 (by kernel_rfl) rfl
theorem may1_se {a b : ByteArray} {s t : Sl} {w : World} {R : Int → World → Prop} (hR : ∀ w',Ext w w' → R (cmpS a b) w') : SE.Zch a s b t w R:=by
 unfold SE.Zch
 refine newS.intro fun _ w1 x1 hb _ _ => newS.intro fun _ w2 x2 hb2 _ _ => ⟨_,hb.at0 x2 rfl,_,hb2.at0 (Ext.refl _) rfl,Zip ⟨_,rfl,hR _ (x1.trans x2)⟩⟩
theorem Zoe {l : List Dep} {i : Nat} (hi : i < l.length) (h0 : 0 < i) : Zdy (l.drop (i - 1)) = (!decide (cmpS l[i].name (l[i - 1]'(by omega)).name < 0) && Zdy (l.drop i)):=by
 have h1 : l.drop (i - 1) = l[i - 1]'(by omega) :: l.drop i:=by
  rw [List.drop_eq_getElem_cons (by omega : i - 1 < l.length)]
  congr 2; omega
 rw [h1,List.drop_eq_getElem_cons hi,Zdy]
theorem Zm6 {l : List Dep} : ∀ {i : Nat},Zdy (l.drop i) = false → Zdy l = false:=by
 intro i
 induction i generalizing l with
 | zero=>intro h; simpa using h
 | succ i ih =>
  intro h
  cases l with
  | nil=>simp at h; exact h
  | cons x r =>
   rw [List.drop_succ_cons] at h
   have:=ih h
   cases r with
   | nil=>cases this
   | cons y r=>rw [Zdy,this,Bool.and_false]
theorem Zpi {s : Sl} {l : List Dep} {S : Nat → Prop} {w : World} {R : Bool → World → Prop} (hs : SlR depE w S s l) (hR : ∀ w',Ext w w' → R (Zdy l) w') : SE.Zae s (.func (.func 110) #[] #[]) w R:=by
 unfold SE.Zae
 have hl:=hs.len
 have hm:=hs.max
 have hmx:=Zd
 refine loop1.ghost (fun n i w'=>Ext w w' ∧ ((l = [] ∧ i = -1) ∨ (i = (n : Int) ∧ n < l.length ∧ Zdy (l.drop n) = true))) (l.length - 1) ⟨Ext.refl _,?_⟩ fun n i w1 nxt ⟨x1,hJ⟩ hn=>⟨fun hlt=>?_,fun hge=>?_⟩
 ·rw [Zb (by omega) (by omega)]
  by_cases h0 : l = []
  ·left; subst h0; rw [hl]; exact ⟨rfl,rfl⟩
  ·right
   have : 0 < l.length:=List.length_pos_iff.2 h0
   refine ⟨by omega,by omega,?_⟩
   rw [List.drop_eq_getElem_cons (by omega),List.drop_eq_nil_of_le (by omega)]; rfl
 ·rcases hJ with ⟨_,rfl⟩ | ⟨rfl,hnl,hI⟩
  ·omega
  have h0 : 0 < n:=by omega
  have ew : Za ((n : Int) - 1) = ((n - 1 : Nat) : Int):=by rw [Zb (by omega) (by omega)]; omega
  rw [ew]
  obtain ⟨ad,t,ha,_,hnm,_,hc⟩:=Zgp hs hnl
  obtain ⟨ad2,t2,ha2,_,hnm2,_,hc2⟩:=Zgp hs (n:=n - 1) (by omega)
  have hstep:=Zoe hnl h0
  refine bnd.drew fun w2 x2=>⟨ad,⟨ha,by omega,by omega⟩,_,t,hc _ (x1.trans x2),ad2,⟨ha2,by omega,by omega⟩,_,t2,hc2 _ (x1.trans x2),_,_,rfl,Zlp,SE.Zch.go (may1_se fun w3 x3=>⟨_,rfl,fun hneg=>?_,fun hpos=>?_⟩)⟩
  ·rw [decide_eq_true hneg,Bool.not_true,Bool.false_and] at hstep
   have:=hR w3 ((x1.trans x2).trans x3)
   rw [Zm6 hstep] at this; exact this
  ·rw [decide_eq_false hpos,hI] at hstep
   exact hn (n - 1) _ _ (by omega) ⟨(x1.trans x2).trans x3,.inr ⟨rfl,by omega,hstep⟩⟩
 ·have hs : Zdy l = true:=by
   rcases hJ with ⟨rfl,_⟩ | ⟨rfl,hnl,hI⟩
   ·rfl
   ·have : n = 0:=by omega
    subst this; simpa using hI
  have:=hR w1 x1
  rw [hs] at this; exact this
theorem Zuj {w : World} {lo : Nat} {S : Nat → Prop} {s : Sl} {l : List Dep} {K : Value → World → Prop} (h : OwnS depE 74 w lo S s l) (hlo : lo ≤ w.heap.size) (hlen : l.length ≤ 1000)
  (hK : ∀ w' (z : List (ByteArray × Sl)),Below lo w w' → (z.map (·.1)).Perm (l.map (·.name)) → z.Pairwise (fun x y=>cmpS x.1 y.1 ≤ 0) → (z = [] ∨ ∃ g tail,s.a = some ⟨g,0,none⟩ ∧ RowB (fun x : ByteArray × Sl=>[.string x.1,Sl.v x.2]) w' g z tail) → K (.tuple #[]) w') :
  callS prog 112 [Sl.v s,.func (.func 110) #[] #[]] w K:=by
 have hsl:=h.len
 rcases h.rowG (fun x : ByteArray × Sl=>[.string x.1,Sl.v x.2]) (fun y x=>y.1 = x.name) (fun x cs (hx : depE.rep w S x cs)=>by obtain ⟨_,t,hcs,_⟩:=hx; exact ⟨(x.name,t),hcs,rfl⟩) with ⟨rfl,rfl⟩ | ⟨g,z,tail,ha,hg,hz,hr,hrow,hc,hcm⟩
 ·refine (AnyF.slices_SortFunc_none Tryz.laySd none 0 _ w).mono fun e w' ⟨he,hw⟩=>⟨_,he,?_⟩
  subst hw
  exact hK _ [] (Below.refl _ _) (List.Perm.refl _) List.Pairwise.nil (.inl rfl)
 ·obtain ⟨a,n,c⟩:=s
  simp only at ha hsl
  subst ha
  have hzl : (z.map Prod.fst).length = l.length:=by rw [← hz]; simp
  have hnm : (z.map Prod.fst).map (·.1) = l.map (·.name):=by
   rw [← hz,List.map_map,List.map_map]
   exact List.map_congr_left fun p hp=>hr p hp
  subst hsl
  rw [← hzl]
  have hO:=Zgb (α := ByteArray × Sl) (·.1)
  refine Zhs Tryz.laySd (k:=2) (fun w=>by kernel_rfl) (fun w=>by kernel_rfl) (f:=fun x : ByteArray × Sl=>[.string x.1,Sl.v x.2]) (fun _ => rfl) (fun x v hv=>by simp [Sl.v] at hv; rcases hv with rfl | rfl <;> rfl) (fun a b=>cmpS a.1 b.1) (Zj5 hO.flip hO.trans) 110 #[] Zlp (fun w0 x y hb _ => ?_) hrow (by omega) rfl fun l' w' hp hs b hr'=>?_
  ·have h:=SE.Zch.go (k:=fun v w'=>v = .int .i64 (cmpS x.1 y.1) ∧ Gr w0 w') (Zya (a:=x) (b:=y) (w:=w0) fun w' h=>⟨rfl,h⟩)
   exact Calls.mono h fun e w' ⟨v,he,hv,hg⟩=>⟨by rw [he,hv],hg⟩
  ·refine hK w' l' (b.below hlo hg) ?_ (hs.imp fun {a b} h=>by have:=hO.flip b a; have:=hO.flip a b; omega) (.inr ⟨g,tail,rfl,hr'⟩)
   rw [← hnm]
   exact hp.map _
theorem okB {d : Dep} {t2 : Bool} {n : Int} (h2 : Zba d.name = true → t2 = Z4 d.range) (hn : (n == 0) = d.range.isEmpty) : (((!Zba d.name) || (!t2)) || (n == 0)) = !okD d:=by
 unfold okD
 rw [hn]
 cases h1 : Zba d.name
 ·simp
 ·rw [h2 h1]
  cases Z4 d.range <;> cases d.range.isEmpty <;> rfl
theorem Ztu {sa sb sc : Sl} {la lb lc : List Dep} {S : Nat → Prop} {w : World} {R : Bool → World → Prop} (hS : Old S w) (ha : SlR depE w S sa la) (hb : SlR depE w S sb lb) (hc : SlR depE w S sc lc) (hR : ∀ w',Ext w w' → R (may3 la lb lc) w') : SE.Zep sa sb sc w R:=by
 unfold SE.Zep
 have hmx:=Zd
 have e40 : depE.bytes = 40:=rfl
 refine newS.intro fun a1 w1 x1 hb1 hab1 _ => ?_
 have hs1:=x1.size
 have hwkl : ∀ {l : List Dep},wk l = true → l.length ≤ 16:=fun h=>by
  unfold wk at h
  simp only [Bool.and_eq_true,decide_eq_true_eq] at h
  exact h.1.1
 refine loop2.up (N:=3) (by decide) (fun all i w'=>Ext w w' ∧ Ext w1 w' ∧ ∃ (S' : Nat → Prop) (pre : List Dep),OwnS depE 74 w' w1.heap.size S' all pre ∧ (i = 0 → pre = []) ∧ (i = 1 → pre = la) ∧ (i = 2 → pre = la ++ lb) ∧ (i = 3 → pre = la ++ lb ++ lc) ∧ (0 < i → wk la = true) ∧ (1 < i → wk lb = true) ∧ (2 < i → wk lc = true))
  ⟨x1,Ext.refl _,None',[],(OwnS.nil _ _),fun _ => rfl,fun h=>by omega,fun h=>by omega,fun h=>by omega,fun h=>by omega,fun h=>by omega,fun h=>by omega⟩ fun all i w2 nxt hi ⟨x2,x12,S',pre,own,p0,p1,p2,p3,k0,k1,k2⟩ hn=>⟨fun hlt=>?_,fun hge=>?_⟩
 ·have hlt' : i < 3:=by
   have : ((Sl.mk (some a1) 3 3).len : Int) = 3:=rfl
   omega
  have hl3:=Zxf (i:=i) (hb1.ext x12)
  have hcase : i = 0 ∨ i = 1 ∨ i = 2:=by omega
  obtain ⟨t,l,hld,hs,q0,q1,q2,hbad,hpre⟩ : ∃ t l,ldc w2 (a1.add (i * 1)) [Sl.v t] ∧ SlR depE w S t l ∧ (i = 0 → l = la) ∧ (i = 1 → l = lb) ∧ (i = 2 → l = lc) ∧ (wk l = false → may3 la lb lc = false) ∧ pre.length ≤ 32:=by
   rcases hcase with rfl | rfl | rfl
   ·exact ⟨sa,la,hl3.1 rfl,ha,fun _ => rfl,fun h=>by omega,fun h=>by omega,fun h=>Zi5 (.inl h),by rw [p0 rfl]; simp⟩
   ·exact ⟨sb,lb,hl3.2.1 rfl,hb,fun h=>by omega,fun _ => rfl,fun h=>by omega,fun h=>Zi5 (.inr (.inl h)),by rw [p1 rfl]; have:=hwkl (k0 (by omega)); omega⟩
   ·exact ⟨sc,lc,hl3.2.2 rfl,hc,fun h=>by omega,fun h=>by omega,fun _ => rfl,fun h=>Zi5 (.inr (.inr h)),by rw [p2 rfl,List.length_append]; have:=hwkl (k0 (by omega)); have:=hwkl (k1 (by omega)); omega⟩
  have hsl:=hs.len
  refine ⟨a1,⟨rfl,by omega,hlt⟩,t,hld,bound ?_⟩
  refine gCall.intro (Zdy l) (fun _ q hq=>SE.Zae.go (Zpi (hs.ext x2) fun w' hx=>⟨_,rfl,hq _ hx⟩)) fun t2 w3 x3 ht2=>?_
  have x03:=x2.trans x3
  have hfalse : ∀ w',Ext w w' → wk l = false → R false w':=fun w' hx h=>by
   have:=hR w' hx
   rw [hbad h] at this; exact this
  refine ⟨fun h=>hfalse w3 x03 ?_,fun h=>?_⟩
  ·unfold wk
   cases h16 : decide ((16 : Int) < (t.len : Int))
   ·rw [h16] at ht2 h
    rw [ht2 rfl] at h
    have : Zdy l = false:=by simpa using h
    rw [this]; simp
   ·have : ¬ l.length ≤ 16:=by simp at h16; omega
    simp [this]
  ·have h16 : l.length ≤ 16:=by simp at h; omega
   have hd : decide ((16 : Int) < (t.len : Int)) = false:=by simp; omega
   rw [hd] at ht2 h
   rw [ht2 rfl] at h
   have hso : Zdy l = true:=by simpa using h
   refine loop1.up hs.max (fun j w'=>Ext w3 w' ∧ (l.take j).all okD = true) ⟨Ext.refl _,rfl⟩ fun j w4 nxt2 hj ⟨x4,hI⟩ hn2=>⟨fun hlt2=>?_,fun hge2=>?_⟩
   ·have hlj : j < l.length:=by omega
    obtain ⟨ad,tr,had,_,hnm,hr,hcc⟩:=Zgp hs hlj
    have x04:=x03.trans x4
    refine ⟨ad,⟨had,by omega,hlt2⟩,_,tr,hcc _ x04,newS.intro fun a5 w5 x5 hb5 hab5 _ => stw0.intro hb5 (by simp) fun w6 b6 _ hb6=>⟨_,hb6.at0 (Ext.refl _) rfl,?_⟩⟩
    have x46 : Ext w4 w6:=b6.ext x5 (by omega)
    have x06:=x04.trans x46
    refine SE.Zf4.go (scanName_se hnm fun w7 x7=>⟨_,rfl,bound ⟨tr,fun _ => hb6.at1 (k:=1) (r:=[]) x7 rfl,?_⟩⟩)
    refine gCall.intro (Z4 l[j].range) (fun _ q hq=>SE.Zgj.go (spanMay_se (hr.ext (x06.trans x7)) fun w' hx=>⟨_,rfl,hq _ hx⟩)) fun t3 w8 x8 ht3=>bound ⟨tr,fun _ => hb6.at1 (k:=1) (r:=[]) (x7.trans x8) rfl,?_⟩
    have e0 : ((tr.len : Int) == 0) = l[j].range.isEmpty:=by
     rw [hr.len]
     cases l[j].range <;> simp
     omega
    have e1:=okB (d:=l[j]) (t2:=t3) (n:=(tr.len : Int)) (fun h1=>ht3 (by rw [h1]; rfl)) e0
    rw [e1]
    have hst : (l.take (j + 1)).all okD = okD l[j]:=by rw [List.take_succ_eq_append_getElem hlj,List.all_append,hI]; simp
    refine ⟨fun hh=>hfalse w8 ((x06.trans x7).trans x8) ?_,fun hh=>hn2 hlj _ ⟨(x4.trans x46).trans (x7.trans x8),by rw [hst]; simpa using hh⟩⟩
    have hbadj : okD l[j] = false:=by simpa using hh
    unfold wk
    have : l.all okD = false:=by
     rw [List.all_eq_false]
     exact ⟨l[j],List.getElem_mem hlj,by rw [hbadj]; decide⟩
    rw [this,Bool.and_false]
   ·have hjl : j = l.length:=by omega
    rw [hjl,List.take_length] at hI
    have hwk : wk l = true:=by
     unfold wk
     rw [hso,hI,decide_eq_true h16]; rfl
    have x24:=x3.trans x4
    have x04:=x2.trans x24
    have hs4:=x04.size
    refine (own.ext x24).appAll Zvd (x12.trans x24).size (hs.ext x04) (hS.ext hs4) (fun ad had hb=>by have:=(own.block had).1; have:=hS _ hb; omega) (by rw [e40]; unfold room; omega) (by omega) fun r' w9 own9 bel9 _ _ => ?_
    refine hn hlt' _ _ ⟨x1.trans ((x12.trans x24).trans' bel9),(x12.trans x24).trans' bel9,_,pre ++ l,own9,fun h=>by omega,fun h=>?_,fun h=>?_,fun h=>?_,fun _ => ?_,fun h=>?_,fun h=>?_⟩
    ·have : i = 0:=by omega
     rw [p0 this,q0 this]; rfl
    ·have : i = 1:=by omega
     rw [p1 this,q1 this]
    ·have : i = 2:=by omega
     rw [p2 this,q2 this]
    ·rcases Nat.eq_zero_or_pos i with h0 | h0
     ·rw [← q0 h0]; exact hwk
     ·exact k0 h0
    ·rcases Nat.lt_or_ge 1 i with h0 | h0
     ·exact k1 h0
     ·have : i = 1:=by omega
      rw [← q1 this]; exact hwk
    ·have : i = 2:=by omega
     rw [← q2 this]; exact hwk
 ·have hi3 : i = 3:=by
   have : ((Sl.mk (some a1) 3 3).len : Int) = 3:=rfl
   omega
  rw [Zy1 (k0 (by omega)) (k1 (by omega)) (k2 (by omega)),← p3 hi3] at hR
  have hpl : pre.length ≤ 1000:=by
   rw [p3 hi3,List.length_append,List.length_append]
   have:=hwkl (k0 (by omega)); have:=hwkl (k1 (by omega)); have:=hwkl (k2 (by omega)); omega
  clear p0 p1 p2 p3 k0 k1 k2 hn
  refine Zuj own x12.size hpl fun w3 z b3 hzp hzs hz=>⟨rfl,?_⟩
  have x03 : Ext w w3:=x1.trans (x12.trans' b3)
  have hal:=own.len
  have hzl : z.length = pre.length:=by have:=hzp.length_eq; simpa using this
  have hone : ∀ w',Ext w w' → ∀ b,(b = true ↔ (z.map (·.1)).Nodup) → R b w':=fun w' hx b hb=>by
   have h1:=hR w' hx
   have : b = decide (pre.map (·.name)).Nodup:=by rw [Bool.eq_iff_iff,hb,decide_eq_true_eq]; exact hzp.nodup_iff
   rw [this]; exact h1
  have hread : ∀ i (hi : i < z.length),∃ ad,all.a = some ad ∧ ∀ w',Ext w3 w' → ldc w' (ad.add (i * 2)) [.string z[i].1]:=fun i hi=>by
   rcases hz with rfl | ⟨g,tail,hga,hrow⟩
   ·exact absurd hi (Nat.not_lt_zero _)
   ·exact ⟨_,hga,fun w' hx=>(RowB.ld (k:=2) (fun _ => rfl) (hrow.ext hx) hi).pre rfl⟩
  have hone1 : ∀ {i j : Nat} (hi : i < z.length) (hj : j < z.length),i < j → cmpS z[i].1 z[j].1 ≤ 0:=fun hi hj hij=>List.pairwise_iff_getElem.1 hzs _ _ hi hj hij
  refine loop1.ghost (fun m i w'=>∃ k : Nat,i = (k : Int) ∧ 1 ≤ k ∧ m = z.length - k ∧ Ext w3 w' ∧ (z.take k).Pairwise (fun x y=>bLt x.1 y.1 = true)) (z.length - 1) ⟨1,rfl,Nat.le_refl _,rfl,Ext.refl _,?_⟩ fun m i w4 nxt ⟨k,hik,hk1,hm,x4,hP⟩ hn=>⟨fun hlt=>?_,fun hge=>?_⟩
  ·cases z with
   | nil=>exact List.Pairwise.nil
   | cons x r=>simp
  ·subst hik
   have hkz : k < z.length:=by omega
   have ew : Za ((k : Int) - 1) = ((k - 1 : Nat) : Int):=by rw [Zb (by omega) (by omega)]; omega
   rw [ew]
   obtain ⟨ad,hga,hc1⟩:=hread k hkz
   obtain ⟨ad',hga',hc2⟩:=hread (k - 1) (by omega)
   refine bnd.drew fun w5 x5=>⟨ad,⟨hga,by omega,by omega⟩,_,hc1 _ (x4.trans x5),ad',⟨hga',by omega,by omega⟩,_,hc2 _ (x4.trans x5),fun he=>?_,fun hne=>?_⟩
   ·refine hone _ (x03.trans (x4.trans x5)) false ⟨(fun h=>by cases h),fun h=>?_⟩
    rw [List.nodup_iff_pairwise_ne,List.pairwise_map] at h
    exact absurd he.symm (List.pairwise_iff_getElem.1 h (k - 1) k (by omega) hkz (by omega))
   ·have hadj:=hone1 (i:=k - 1) (j:=k) (by omega) hkz (by omega)
    have hb1 : bLt (z[k - 1]'(by omega)).1 z[k].1 = true:=Zne hadj fun e=>hne e.symm
    refine hn (z.length - (k + 1)) _ _ (by omega) ⟨k + 1,by rw [Zb (by omega) (by omega)]; omega,by omega,rfl,x4.trans x5,?_⟩
    rw [List.take_succ_eq_append_getElem hkz,List.pairwise_append]
    refine ⟨hP,List.pairwise_singleton _ _,fun x hx y hy=>?_⟩
    simp only [List.mem_singleton] at hy
    subst hy
    obtain ⟨j,hj,rfl⟩:=List.mem_iff_getElem.1 hx
    rw [List.length_take] at hj
    rw [List.getElem_take]
    by_cases hjk : j = k - 1
    ·subst hjk; exact hb1
    ·have hjl : j < (z.take k).length:=by rw [List.length_take]; exact hj
     have hkl : k - 1 < (z.take k).length:=by rw [List.length_take]; omega
     have h2:=List.pairwise_iff_getElem.1 hP j (k - 1) hjl hkl (by omega)
     rw [List.getElem_take,List.getElem_take] at h2
     exact Zgw h2 hb1
  ·subst hik
   refine hone _ (x03.trans x4) true ⟨fun _ => ?_,fun _ => rfl⟩
   rw [List.take_of_length_le (by omega)] at hP
   rw [List.nodup_iff_pairwise_ne,List.pairwise_map]
   exact hP.imp fun h=>Zli h
end Go.Hal
namespace Go.Hal
open Go.Proofs.Tryz
open Go Go.RowKit Go.Proofs Go.Shelf
def BoxT (T : TypeId) (w : World) (a : Addr) (cs : List Value) : Prop:=a.off = 0 ∧ a.spot = none ∧ w.heap[a.block]? = some (.cells cs.toArray T (0,0))
theorem BoxT.box {T : TypeId} {w : World} {a : Addr} {cs : List Value} (h : BoxT T w a cs) : BoxAt w a cs:=⟨T,h⟩
theorem BoxT.ext {T : TypeId} {w w' : World} {a : Addr} {cs : List Value} (h : BoxT T w a cs) (hx : Ext w w') : BoxT T w' a cs:=⟨h.1,h.2.1,(hx.block (lt_of_block h.2.2)).trans h.2.2⟩
theorem newS.introT {w : World} {cs : List Value} {t : TypeId} {k : Addr → World → Prop} (h : ∀ a w',Ext w w' → BoxT t w' a cs → a.block = w.heap.size → w'.heap.size = w.heap.size + 1 → k a w') : newS w cs t k:=fun a w' ha hw=>by
 subst ha hw
 exact h _ _ (Ext.alloc _ _) ⟨rfl,rfl,heap_alloc_new w _⟩ rfl (by simp)
theorem stw0.introT {T : TypeId} {w : World} {a : Addr} {old cs : List Value} {k : World → Prop} (hb : BoxT T w a old) (hl : cs.length = old.length) (h : ∀ w',But a.block w w' → w'.heap.size = w.heap.size → BoxT T w' a cs → k w') : stw w a cs k:=by
 obtain ⟨ho,hs,hh⟩:=hb
 obtain ⟨b,of,sp⟩:=a
 simp only at ho hs hh
 subst ho hs
 refine ⟨_,T,hh,rfl,by simp [hl],h _ ⟨?_,rfl,rfl,rfl,fun c hc hne=>setRow_other w b c _ hne⟩ ?_ ⟨rfl,rfl,?_⟩⟩
 ·simp [World.setRow]
 ·simp [World.setRow]
 ·rw [setRow_heap w b old.toArray _ T _ hh]
  have : old.drop cs.length = []:=by rw [hl]; exact List.drop_length
  simp [Zhy,this]
theorem Bld.lt {b : Nat} {l : List UInt8} {w : World} (h : Bld b l w) : b < w.heap.size:=by
 rcases h with ⟨_,_,h,_⟩ | ⟨_,_,h,_⟩ <;> exact lt_of_block h
theorem Zow {b : Nat} {l m : List UInt8} {w0 w : World} {k : Value → World → Prop} (hB : Bld b l w) (h0 : w0.heap.size = b) (x0 : Ext w0 w) (hl : l.length + m.length ≤ 140737488355328)
  (hk : ∀ w' n,Ext w0 w' → Bld b (l ++ m) w' → (∀ T a cs,T ≠ 5 → a.block ≠ b → BoxT T w a cs → BoxT T w' a cs) → k (.tuple #[.int .i64 n,.nilIface]) w') : callS prog 113 [.pointer (some ⟨b,0,none⟩),.string (B m)] w k:=by
 have h:=Any.Builder_WriteString_k { Tryz.layJo with } bldX b b (Lib.byteCells l) (B m) w hB (by rw [Lib.byteCells_length,Zn]; exact hl) (by have:=x0.size; omega)
 refine h.mono fun e w' ⟨he,hb,hbel,hoth⟩=>⟨_,he,hk w' _ (x0.trans' (by rw [h0]; exact hbel)) (.inr ?_) fun T a cs hT ha hbx=>⟨hbx.1,hbx.2.1,hoth _ _ hbx.2.2 (fun e=>ha (Option.some.inj e)) fun c fz e=>?_⟩⟩
 ·have e : Lib.byteCells l ++ Lib.strCells (B m) = Lib.byteCells (l ++ m):=by rw [Lib.strCells_eq,Zh6]; simp [Lib.byteCells]
  rw [e] at hb; exact hb
 ·simp only [Obj.cells.injEq] at e
  exact hT e.2.1
def Zt1 : TypeId:=181
theorem Zwh {a : Addr} {w : World} {R : Sl → World → Prop} (hR : ∀ a' w',Ext w w' → BoxT Zt1 w' a' [.string (B wNeeds),.pointer (some a),.string (B wDev),.pointer (some (a.add 1)),.string (B wLikes),.pointer (some (a.add 2)),.string (B wPins),.pointer (some (a.add 3))] → w.heap.size ≤ a'.block → R ⟨some a',4,4⟩ w') : SE.Zeh (some a) w R:=by
 unfold SE.Zeh
 exact bnd.drew fun w1 x1=>⟨a,rfl,a,rfl,a,rfl,a,rfl,newS.introT fun a' w2 x2 hb hab _ => hR a' w2 (x1.trans x2) hb (by have:=x1.size; omega)⟩
def mt (m : Mani) (i : Nat) : List UInt8:=match i with
 | 0=>pjText
 | 1=>pjText ++ Za6 wNeeds m.deps
 | 2=>(pjText ++ Za6 wNeeds m.deps) ++ Za6 wDev m.dev
 | 3=>((pjText ++ Za6 wNeeds m.deps) ++ Za6 wDev m.dev) ++ Za6 wLikes m.opt
 | _ => Zgd m
theorem Zpj {m : Mani} {d e o v : Sl} {S : Nat → Prop} {w : World} {R : ByteArray → World → Prop} (ht : Tab w) (hm : Zdc m = true) (hd : SlR depE w S d m.deps) (he : SlR depE w S e m.dev) (ho : SlR depE w S o m.opt) (hv : SlR depE w S v m.over)
  (hR : ∀ w',Ext w w' → R (B (Zgd m)) w') : SE.Zet d e o v w R:=by
 unfold SE.Zet
 unfold Zdc at hm
 simp only [Bool.and_eq_true] at hm
 obtain ⟨⟨⟨h1,h2⟩,h3⟩,h4⟩:=hm
 have n1:=Zk h1; have n2:=Zk h2; have n3:=Zk h3; have n4:=Zk h4
 have l1:=Zat (word:=wNeeds) (by decide) fun d hd=>(n1.2 d hd).1
 have l2:=Zat (word:=wDev) (by decide) fun d hd=>(n2.2 d hd).1
 have l3:=Zat (word:=wLikes) (by decide) fun d hd=>(n3.2 d hd).1
 refine newS.intro fun a w1 x1 hb _ _ => ?_
 intro a1 w2 ha1 hw2
 subst ha1
 have x2 : Ext w1 w2:=hw2 ▸ Ext.alloc _ _
 have hB2 : Bld w1.heap.size [] w2:=hw2 ▸ Zsq w1
 have t1 : Tab w1:=ht.ext x1
 have hpj : (ByteArray.mk #[112,114,111,106,101,99,116,10]) = B pjText:=rfl
 rw [hpj]
 refine Ziv (m:=pjText) hB2 rfl x2 (by decide) fun w3 n3' x3 hB3=>⟨_,_,rfl,?_⟩
 refine SE.Zeh.go (Zwh (a:=a) fun ap w4 x4 hbp hapb=>⟨_,rfl,?_⟩)
 have hs13:=hB3.lt
 have hTne : Zt1 ≠ 5:=by decide
 have x14:=x3.trans x4
 have hpjl : pjText.length = 8:=rfl
 refine loop1.up (N:=4) (by decide) (fun i w'=>Ext w1 w' ∧ BoxT Zt1 w' ap [.string (B wNeeds),.pointer (some a),.string (B wDev),.pointer (some (a.add 1)),.string (B wLikes),.pointer (some (a.add 2)),.string (B wPins),.pointer (some (a.add 3))] ∧ Bld w1.heap.size (mt m i) w') ⟨x14,hbp,by simpa [mt] using hB3.ext x4⟩ fun i w5 nxt hi ⟨x5,hbp5,hB5⟩ hn=>⟨fun hlt=>?_,fun hge=>?_⟩
 ·have hlt' : i < 4:=by
   have : ((Sl.mk (some ap) 4 4).len : Int) = 4:=rfl
   omega
  obtain ⟨wd,k,t,l,hp,hl5,hs,hdm,hwd,hmt,hml⟩ : ∃ (wd : List UInt8) (k : Nat) (t : Sl) (l : List Dep),ldc w5 (ap.add (i * 2)) [.string (B wd),.pointer (some (a.add k))] ∧ (∀ w',Ext w5 w' → ldc w' (a.add k) [Sl.v t]) ∧ SlR depE w S t l ∧ Zo l = true ∧ wd.length ≤ 8 ∧ mt m (i + 1) = mt m i ++ Za6 wd l ∧ (mt m i).length ≤ 1000000:=by
   have hcase : i = 0 ∨ i = 1 ∨ i = 2 ∨ i = 3:=by omega
   rcases hcase with rfl | rfl | rfl | rfl
   ·exact ⟨wNeeds,0,d,m.deps,hbp5.box.at1 (k:=0) (Ext.refl _) rfl,fun w' hx=>hb.at1 (k:=0) (x5.trans hx) rfl,hd,h1,by decide,rfl,by simp [mt,hpjl]⟩
   ·exact ⟨wDev,1,e,m.dev,hbp5.box.at1 (k:=2) (Ext.refl _) rfl,fun w' hx=>hb.at1 (k:=1) (x5.trans hx) rfl,he,h2,by decide,rfl,by simp [mt,hpjl]; omega⟩
   ·exact ⟨wLikes,2,o,m.opt,hbp5.box.at1 (k:=4) (Ext.refl _) rfl,fun w' hx=>hb.at1 (k:=2) (x5.trans hx) rfl,ho,h3,by decide,rfl,by simp [mt,hpjl]; omega⟩
   ·exact ⟨wPins,3,v,m.over,hbp5.box.at1 (k:=6) (Ext.refl _) rfl,fun w' hx=>hb.at1 (k:=3) (x5.trans hx) rfl,hv,h4,by decide,rfl,by simp [mt,hpjl]; omega⟩
  rw [hmt] at hn
  generalize mt m i = t0 at *
  refine ⟨ap,⟨rfl,by omega,hlt⟩,_,_,hp,newS.introT fun a8 w6 x6 hb6 hab6 _ => stw0.introT hb6 rfl fun w7 b7 _ hb7=>?_⟩
  have x57 : Ext w5 w7:=b7.ext x6 (by omega)
  have x17:=x5.trans x57
  have x07:=x1.trans x17
  refine ⟨_,hb7.box.at1 (k:=1) (Ext.refl _) rfl,_,rfl,t,hl5 _ x57,?_⟩
  have hsl:=hs.len
  obtain ⟨h16,hok⟩:=Zk hdm
  refine loop1.up hs.max (fun j w'=>Ext w1 w' ∧ BoxT Zt1 w' a8 [.string (B wd),.pointer (some (a.add k))] ∧ BoxT Zt1 w' ap [.string (B wNeeds),.pointer (some a),.string (B wDev),.pointer (some (a.add 1)),.string (B wLikes),.pointer (some (a.add 2)),.string (B wPins),.pointer (some (a.add 3))] ∧ Bld w1.heap.size (t0 ++ Za6 wd (l.take j)) w') ⟨x17,hb7,hbp5.ext x57,by simpa [Za6] using hB5.ext x57⟩ fun j w8 nxt2 hj ⟨x8,hb8,hbp8,hI⟩ hn2=>⟨fun hlt2=>?_,fun hge2=>?_⟩
  ·have hlj : j < l.length:=by omega
   obtain ⟨ad,tr,had,_,hnm,hr,hc⟩:=Zgp hs hlj
   have hdj:=hok _ (List.getElem_mem hlj)
   have q1:=Zat hwd (l:=l.take j) fun d hd=>(hok d (List.mem_of_mem_take hd)).1
   rw [List.length_take,Nat.min_eq_left (by omega)] at q1
   have q2:=Zel hdj.1
   have q3:=Zfn l[j].range
   have x08:=x1.trans x8
   refine ⟨ad,⟨had,by omega,hlt2⟩,_,tr,hc _ x08,newS.intro fun a9 w9 x9 hb9 hab9 _ => stw0.intro hb9 (by simp) fun w10 b10 _ hb10=>bnd.drew fun w11 x11=>?_⟩
   have x810 : Ext w8 w10:=b10.ext x9 (by omega)
   have x811:=x810.trans x11
   refine ⟨_,hb8.box.at0 x811 rfl,?_⟩
   rw [Zdm]
   refine ⟨by rw [Zn,Zay,Zv]; simp; omega,_,hb10.at0 x11 rfl,?_⟩
   rw [ba_B l[j].name,Zfk,Zdm]
   refine ⟨by rw [Zn,Zn,Zv]; simp; omega,by rw [Zn,Zay,Zv]; simp; omega,tr,hb10.at1 x11 rfl,callX.intro (SE.Zfq.go (Zjl (ht.ext (x08.trans x811)) (hr.ext (x08.trans x811)) fun w12 x12=>⟨x12,_,rfl,?_⟩))⟩
   rw [Zfk,Zdm]
   have hln : (((((wd ++ [32]) ++ l[j].name.toList) ++ [32]) ++ Zbj l[j].range) ++ [10]).length ≤ 2030:=by simp; omega
   refine ⟨by rw [Zn,Zn,Zv]; simp; omega,by rw [Zn,Zay,Zv]; simp; omega,Zow (m:=(((((wd ++ [32]) ++ l[j].name.toList) ++ [32]) ++ Zbj l[j].range) ++ [10])) (hI.ext (x811.trans x12)) rfl (x8.trans (x811.trans x12)) (by rw [List.length_append]; omega) fun w13 n13 x13 hB13 keep=>⟨_,_,rfl,hn2 hlj _ ⟨x13,keep _ _ _ hTne (by have:=hbp5.box.lt; omega) (hb8.ext (x811.trans x12)),keep _ _ _ hTne (by omega) (hbp8.ext (x811.trans x12)),?_⟩⟩⟩
   ·rw [List.take_succ_eq_append_getElem hlj,Zg4,Zh2,← List.append_assoc]
    exact hB13
  ·have hjl : j = l.length:=by omega
   rw [hjl,List.take_length] at hI
   exact hn hlt' _ ⟨x8,hbp8,hI⟩
 ·have hi4 : i = 4:=by
   have : ((Sl.mk (some ap) 4 4).len : Int) = 4:=rfl
   omega
  subst hi4
  exact Zkc hB5 rfl x5 fun w9 x9=>⟨_,rfl,hR _ (x1.trans x9)⟩
theorem Zru {m : Mani} {d e o v : Sl} {S : Nat → Prop} {w : World} {R : Bool → World → Prop} (ht : Tab w) (hS : Old S w) (hd : SlR depE w S d m.deps) (he : SlR depE w S e m.dev) (ho : SlR depE w S o m.opt) (hv : SlR depE w S v m.over)
  (hR : ∀ w',Ext w w' → R (Zcf m) w') : SE.Zfb d e o v w R:=by
 unfold SE.Zfb
 refine newS.intro fun a w1 x1 hb _ _ => ⟨d,hb.at0 (Ext.refl _) rfl,e,hb.at1 (k:=1) (Ext.refl _) rfl,o,hb.at1 (k:=2) (Ext.refl _) rfl,?_⟩
 refine SE.Zep.go (Ztu (hS.ext x1.size) (hd.ext x1) (he.ext x1) (ho.ext x1) fun w2 x2=>⟨_,rfl,v,fun _ => hb.at1 (k:=3) (r:=[]) x2 rfl,?_⟩)
 refine gCall.intro (may3 m.over [] []) (fun _ q hq=>SE.Zep.go (Ztu (hS.ext (x1.trans x2).size) (hv.ext (x1.trans x2)) (SlR.nil trivial) (SlR.nil trivial) fun w' hx=>⟨_,rfl,hq _ hx⟩)) fun t3 w3 x3 ht3=>bound ⟨d,e,o,v,fun _ => hb.at0 (r:=[]) (x2.trans x3) rfl,?_⟩
 have x03:=(x1.trans x2).trans x3
 have e1 : (may3 m.deps m.dev m.opt && t3) = (may3 m.deps m.dev m.opt && may3 m.over [] []):=by
  cases h : may3 m.deps m.dev m.opt
  ·rfl
  ·rw [ht3 h]
 rw [e1]
 have hl : (may3 m.deps m.dev m.opt && may3 m.over [] []) = true → Zdc m = true:=fun h=>by
  rw [Ztv,Zpk] at h
  simp only [Bool.and_eq_true] at h
  unfold Zdc
  simp [h]
 refine gCall.intro (B (Zgd m)) (fun hg q hq=>SE.Zet.go (Zpj (ht.ext x03) (hl hg) (hd.ext x03) (he.ext x03) (ho.ext x03) (hv.ext x03) fun w' hx=>⟨_,rfl,hq _ hx⟩)) fun t4 w4 x4 ht4=>?_
 have e2 : ((may3 m.deps m.dev m.opt && may3 m.over [] []) && decide ((t4.size : Int) ≤ 4096)) = Zcf m:=by
  rw [Zrt]
  cases h : (may3 m.deps m.dev m.opt && may3 m.over [] [])
  ·rfl
  ·rw [ht4 h,Zn,Bool.true_and,Bool.true_and,decide_eq_decide]; omega
 rw [e2]; exact hR _ (x03.trans x4)
end Go.Hal
