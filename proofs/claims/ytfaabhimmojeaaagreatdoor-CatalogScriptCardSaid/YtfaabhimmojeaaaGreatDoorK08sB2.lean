/- Lemmas for the claim K08s: how the program's functions run, and what they answer; no condition but those that each theorem names. -/
import Derived.Laws.MakeOwn
import Derived.Test.YtfaabhimmojeaaaGreatDoorK08sB1
set_option linter.unusedVariables false
set_option linter.unusedSimpArgs false
namespace Go.Hal
open Go Go.RowKit Go.Proofs
namespace StV
abbrev El : Type := Ver × Nat
def cells (x : Ver) : List Value := x.c
def fc (x : El) : List Value := cells x.1
theorem fc_len (x : El) : (fc x).length = 3 := rfl
def CmpOk (cmp : Value) (c : Ver → Ver → Int) (g : Nat) (w0 : World) : Prop :=
  ∀ (x y : Ver) (w : World) (k : Value → World → Prop), But g w0 w → (∀ w', Ext w w' → k (.int .i64 (c x y)) w') → callV Tryz.prog cmp [.agg (cells x).toArray, .agg (cells y).toArray] w k
theorem CmpOk.but {cmp : Value} {c : Ver → Ver → Int} {g : Nat} {w0 w1 : World} (h : CmpOk cmp c g w0) (hb : But g w0 w1) : CmpOk cmp c g w1 := fun x y w k hw hk => h x y w k (hb.trans hw) hk
section
variable {cmp : Value} {c : Ver → Ver → Int} {g : Nat}
set_option maxHeartbeats 2000000 in
theorem insertion_se (hO : Ord3 c) {data : Sl} {w : World} {R : World → Prop} {A M0 B : List El} {tail : List Value} {a b : Int} (hc : CmpOk cmp c g w) (hd : data.a = some ⟨g, 0, none⟩) (hlen : data.len = (A ++ M0 ++ B).length) (hbig : data.len < 4611686018427387904)
    (hB : RowB fc w g (A ++ M0 ++ B) tail) (ha : a = (A.length : Int)) (hb : b = ((A.length + M0.length : Nat) : Int)) (hM : M0.Pairwise fun x y => x.2 < y.2)
    (hR : ∀ w' M, But g w w' → M.Perm M0 → M.Pairwise (Ah c) → RowB fc w' g (A ++ M ++ B) tail → R w') : SE.slices_insertionSortCmpFunc_apiVersion data a b cmp w R := by
  unfold SE.slices_insertionSortCmpFunc_apiVersion
  subst ha hb
  simp only [List.length_append] at hlen
  rw [wrapI_eq (by omega) (by omega)]
  by_cases h0 : M0 = []
  · subst h0
    refine ⟨fun i w' => w' = w ∧ i = (A.length : Int) + 1, fun _ _ => 0, ⟨rfl, rfl⟩, ?_⟩
    rintro i w' ⟨rfl, rfl⟩
    refine ⟨fun h => ?_, fun _ => hR _ [] ⟨Nat.le_refl _, rfl, rfl, rfl, fun _ _ _ => rfl⟩ (List.Perm.refl _) .nil hB⟩
    simp at h; omega
  have hpos : 0 < M0.length := List.length_pos_iff.2 h0
  refine ⟨fun i w' => ∃ (n : Nat) (M : List El), i = ((A.length + n : Nat) : Int) ∧ 1 ≤ n ∧ n ≤ M0.length ∧ But g w w' ∧ M.Perm (M0.take n) ∧ M.Pairwise (Ah c) ∧ RowB fc w' g (A ++ M ++ (M0.drop n ++ B)) tail, fun i _ => (A.length + M0.length) - i.toNat, ⟨1, M0.take 1, by omega, Nat.le_refl _, hpos, ⟨Nat.le_refl _, rfl, rfl, rfl, fun _ _ _ => rfl⟩, List.Perm.refl _, ?_, ?_⟩, ?_⟩
  · cases M0 with
    | nil => exact .nil
    | cons x r => exact List.pairwise_singleton _ _
  · rw [← List.append_assoc, List.append_assoc A, List.take_append_drop]; exact hB
  rintro i w1 ⟨n, M, rfl, hn1, hn2, b1, hp, hs, hB1⟩
  have hMl : M.length = n := by rw [hp.length_eq, List.length_take]; omega
  refine ⟨fun hlt => ?_, fun hge => ?_⟩
  · have hn3 : n < M0.length := by omega
    have hdrop : M0.drop n = M0[n] :: M0.drop (n + 1) := List.drop_eq_getElem_cons hn3
    have hx : ∀ y ∈ M, y.2 < M0[n].2 := fun y hy => by
      have hy' := hp.mem_iff.1 hy
      obtain ⟨j, hj, rfl⟩ := List.mem_iff_getElem.1 hy'
      rw [List.length_take] at hj
      rw [List.getElem_take]
      exact List.pairwise_iff_getElem.1 hM j n (by omega) hn3 (by omega)
    rw [hdrop] at hB1
    generalize hX : M0[n] = x at *
    refine ⟨fun j w' => ∃ (M1 M2 : List El), j = ((A.length + M1.length : Nat) : Int) ∧ M1 ++ M2 = M ∧ (∀ y ∈ M2, Ah c x y) ∧ But g w w' ∧ RowB fc w' g (A ++ M1 ++ x :: (M2 ++ (M0.drop (n + 1) ++ B))) tail, fun j _ => j.toNat, ⟨M, [], by rw [hMl], by simp, by simp, b1, by simpa using hB1⟩, ?_⟩
    rintro j w2 ⟨M1, M2, rfl, hM12, hx2, b2, hB2⟩
    refine bnd.drew fun w3 x3 => bound ?_
    have hB3 := hB2.ext x3
    have b3 : But g w w3 := b2.ext' x3
    have hl12 : M1.length + M2.length = n := by rw [← hMl, ← hM12, List.length_append]
    have fin : ∀ w' w0, But g w w' → RowB fc w' g (A ++ M1 ++ x :: (M2 ++ (M0.drop (n + 1) ++ B))) tail → (∀ y ∈ M1, Ah c y x) → w0 = w' →
        (∃ (n' : Nat) (M' : List El), wrapI (((A.length + n : Nat) : Int) + 1) = ((A.length + n' : Nat) : Int) ∧ 1 ≤ n' ∧ n' ≤ M0.length ∧ But g w w0 ∧ M'.Perm (M0.take n') ∧ M'.Pairwise (Ah c) ∧ RowB fc w0 g (A ++ M' ++ (M0.drop n' ++ B)) tail) ∧ (A.length + M0.length) - (wrapI (((A.length + n : Nat) : Int) + 1)).toNat < (A.length + M0.length) - (((A.length + n : Nat) : Int)).toNat := fun w' w0 b' hB' h1 e => by
      subst e
      rw [wrapI_eq (by omega) (by omega)]
      refine ⟨⟨n + 1, M1 ++ x :: M2, by omega, by omega, by omega, b', ?_, ?_, by simpa using hB'⟩, by omega⟩
      · rw [List.take_succ_eq_append_getElem hn3, hX]
        refine (List.perm_middle).trans ?_
        rw [hM12]
        exact (hp.cons x).trans (List.perm_append_singleton x _).symm
      · rw [← hM12] at hs
        obtain ⟨p1, p2, p3⟩ := List.pairwise_append.1 hs
        refine List.pairwise_append.2 ⟨p1, List.pairwise_cons.2 ⟨hx2, p2⟩, fun y hy z hz => ?_⟩
        rcases List.mem_cons.1 hz with rfl | hz
        · exact h1 y hy
        · exact p3 y hy z hz
    rcases List.eq_nil_or_concat M1 with rfl | ⟨M1', y, rfl⟩
    · have hf : decide ((A.length : Int) < ((A.length + ([] : List El).length : Nat) : Int)) = false := by simp
      rw [hf]
      refine ⟨⟨g, 0, none⟩, (fun h => by cases h), 0, 0, 0, (fun h => by cases h), ⟨g, 0, none⟩, (fun h => by cases h), 0, 0, 0, (fun h => by cases h), (fun h => by cases h), fun _ => ⟨(fun h => by cases h), fun _ => ?_⟩⟩
      exact fin w3 w3 b3 hB3 (by simp) rfl
    · simp only [List.concat_eq_append] at *
      have hj : decide ((A.length : Int) < ((A.length + (M1' ++ [y]).length : Nat) : Int)) = true := by simp; omega
      rw [hj]
      have hlM : (M1' ++ [y]).length = M1'.length + 1 := by simp
      have e1 : wrapI (((A.length + (M1' ++ [y]).length : Nat) : Int) - 1) = ((A.length + M1'.length : Nat) : Int) := by rw [hlM, wrapI_eq (by omega) (by omega)]; omega
      rw [e1]
      have hl2 : data.len = A.length + (n + 1 + (M0.drop (n + 1) ++ B).length) := by
        rw [hlen, List.length_append, List.length_drop]; omega
      have eB : A ++ (M1' ++ [y]) ++ x :: (M2 ++ (M0.drop (n + 1) ++ B)) = (A ++ M1') ++ y :: x :: (M2 ++ (M0.drop (n + 1) ++ B)) := by simp
      rw [eB] at hB3
      have ey : (A ++ M1').length = A.length + M1'.length := List.length_append
      have gy := hB3.ld' fc_len (get_at' ey)
      have gx := hB3.ld' fc_len (get_at1' (n := A.length + (M1' ++ [y]).length) (by rw [hlM, ey]; omega))
      have hym : y ∈ M := by rw [← hM12]; simp
      have hright := Ah.right hO (hx y hym)
      refine ⟨_, fun _ => ⟨hd, by omega, by omega⟩, _, _, _, fun _ => gx, _, fun _ => ⟨hd, by omega, by omega⟩, _, _, _, fun _ => gy, fun _ => ?_, (fun h => by cases h)⟩
      refine hc x.1 y.1 w3 _ b3 fun w4 x4 => ⟨_, rfl, fun h => ?_, fun h => ?_⟩
      · simp only [Bool.true_and, decide_eq_true_eq] at h
        refine bnd.drew fun w5 x5 => ?_
        have x35 := x4.trans x5
        have hB5 := hB3.ext x35
        have gy5 := hB5.ld' fc_len (get_at' ey)
        have gx5 := hB5.ld' fc_len (get_at1' (n := A.length + (M1' ++ [y]).length) (by rw [hlM, ey]; omega))
        refine ⟨_, ⟨hd, by omega, by omega⟩, _, _, _, gy5, _, ⟨hd, by omega, by omega⟩, _, _, _, gx5, _, ⟨hd, by omega, by omega⟩, hB5.st fc_len (i := A.length + (M1' ++ [y]).length) (x := y) (by simp only [List.length_append, List.length_cons, List.length_nil]; omega) fun w6 b6 hB6 => ⟨_, ⟨hd, by omega, by omega⟩, hB6.st fc_len (i := A.length + M1'.length) (x := x) (by simp only [List.length_set, List.length_append, List.length_cons, List.length_nil]; omega) fun w7 b7 hB7 => ?_⟩⟩
        have e2 : ((((A ++ M1') ++ y :: x :: (M2 ++ (M0.drop (n + 1) ++ B))).set (A.length + (M1' ++ [y]).length) y).set (A.length + M1'.length) x) = (A ++ M1') ++ x :: y :: (M2 ++ (M0.drop (n + 1) ++ B)) := by
          have := swap_adj (A ++ M1') (M2 ++ (M0.drop (n + 1) ++ B)) y x
          rw [ey] at this
          rw [hlM, ← Nat.add_assoc]; exact this
        rw [e2] at hB7
        refine ⟨⟨M1', y :: M2, rfl, by rw [← hM12]; simp, fun z hz => ?_, ((b3.ext' x35).trans b6).trans b7, by simpa using hB7⟩, by rw [hlM]; omega⟩
        rcases List.mem_cons.1 hz with rfl | hz
        · exact hright.1 h
        · exact hx2 z hz
      · simp only [Bool.true_and, decide_eq_false_iff_not] at h
        refine fin w4 w4 (b3.ext' x4) (by rw [eB]; exact hB3.ext x4) (fun z hz => ?_) rfl
        have hyx := hright.2 h
        rcases List.mem_append.1 hz with hz | hz
        · refine Ah.trans hO ?_ hyx
          rw [← hM12] at hs
          have := (List.pairwise_append.1 (List.pairwise_append.1 hs).1).2.2 z hz y (by simp)
          exact this
        · simp at hz; subst hz; exact hyx
  · have hn : n = M0.length := by omega
    subst hn
    rw [List.take_length] at hp
    rw [List.drop_length, List.nil_append] at hB1
    exact hR w1 M b1 hp hs hB1
set_option maxHeartbeats 1000000 in
theorem swapRange_se {data : Sl} {w : World} {R : World → Prop} {P X M Y Q : List El} {tail : List Value} {a b n : Int} (hd : data.a = some ⟨g, 0, none⟩) (hlen : data.len = (P ++ X ++ M ++ Y ++ Q).length) (hbig : data.len < 4611686018427387904)
    (hB : RowB fc w g (P ++ X ++ M ++ Y ++ Q) tail) (ha : a = (P.length : Int)) (hb : b = ((P.length + X.length + M.length : Nat) : Int)) (hn : n = (X.length : Int)) (hXY : Y.length = X.length)
    (hR : ∀ w', But g w w' → RowB fc w' g (P ++ Y ++ M ++ X ++ Q) tail → R w') : SE.slices_swapRangeCmpFunc_apiVersion data a b n cmp w R := by
  unfold SE.slices_swapRangeCmpFunc_apiVersion
  subst ha hb hn
  simp only [List.length_append] at hlen
  refine loop1.up (N := X.length) (by rw [maxLen_eq]; omega) (fun i w' => But g w w' ∧ RowB fc w' g (P ++ (Y.take i ++ X.drop i) ++ M ++ (X.take i ++ Y.drop i) ++ Q) tail) ⟨⟨Nat.le_refl _, rfl, rfl, rfl, fun _ _ _ => rfl⟩, by simpa using hB⟩ fun i w1 nxt hi ⟨b1, hB1⟩ hnx => ⟨fun hlt => ?_, fun hge => ?_⟩
  · have hi' : i < X.length := by omega
    have hiY : i < Y.length := by omega
    refine bnd.drew fun w2 x2 => ?_
    rw [wrapI_eq (x := ((P.length + X.length + M.length : Nat) : Int) + (i : Int)) (by omega) (by omega), wrapI_eq (x := (P.length : Int) + (i : Int)) (by omega) (by omega)]
    rw [show ((P.length + X.length + M.length : Nat) : Int) + (i : Int) = ((P.length + X.length + M.length + i : Nat) : Int) by omega, show (P.length : Int) + (i : Int) = ((P.length + i : Nat) : Int) by omega]
    have hB2 := hB1.ext x2
    have eL : P ++ (Y.take i ++ X.drop i) ++ M ++ (X.take i ++ Y.drop i) ++ Q = (P ++ Y.take i) ++ X[i] :: ((X.drop (i + 1) ++ M ++ X.take i) ++ Y[i] :: (Y.drop (i + 1) ++ Q)) := by
      rw [List.drop_eq_getElem_cons hi', List.drop_eq_getElem_cons hiY]; simp only [List.append_assoc, List.cons_append]
    rw [eL] at hB2
    have l1 : (P ++ Y.take i).length = P.length + i := by simp; omega
    have l2 : (X.drop (i + 1) ++ M ++ X.take i).length + 1 = X.length + M.length := by simp; omega
    have gx := hB2.ld' fc_len (get_at' l1)
    have hgy : ((P ++ Y.take i) ++ X[i] :: ((X.drop (i + 1) ++ M ++ X.take i) ++ Y[i] :: (Y.drop (i + 1) ++ Q)))[P.length + X.length + M.length + i]? = some Y[i] := by
      rw [← List.cons_append, ← List.append_assoc]
      refine get_at' ?_
      simp only [List.length_append, List.length_cons] at l1 l2 ⊢; omega
    have gy := hB2.ld' fc_len hgy
    have b2 := b1.ext' x2
    have hln : ((P ++ Y.take i) ++ X[i] :: ((X.drop (i + 1) ++ M ++ X.take i) ++ Y[i] :: (Y.drop (i + 1) ++ Q))).length = data.len := by
      rw [← eL, hlen]; simp; omega
    refine ⟨_, ⟨hd, by omega, by omega⟩, _, _, _, gy, _, ⟨hd, by omega, by omega⟩, _, _, _, gx, _, ⟨hd, by omega, by omega⟩, hB2.st fc_len (i := P.length + i) (x := Y[i]) (by rw [hln]; omega) fun w3 b3 hB3 => ⟨_, ⟨hd, by omega, by omega⟩, hB3.st fc_len (i := P.length + X.length + M.length + i) (x := X[i]) (by rw [List.length_set, hln]; omega) fun w4 b4 hB4 => hnx hi' _ ⟨(b2.trans b3).trans b4, ?_⟩⟩⟩
    have e := swap_far (P ++ Y.take i) (X.drop (i + 1) ++ M ++ X.take i) (Y.drop (i + 1) ++ Q) X[i] Y[i]
    rw [l1, show P.length + i + 1 + (X.drop (i + 1) ++ M ++ X.take i).length = P.length + X.length + M.length + i by omega] at e
    rw [e] at hB4
    have e2 : P ++ (Y.take (i + 1) ++ X.drop (i + 1)) ++ M ++ (X.take (i + 1) ++ Y.drop (i + 1)) ++ Q = (P ++ Y.take i) ++ Y[i] :: ((X.drop (i + 1) ++ M ++ X.take i) ++ X[i] :: (Y.drop (i + 1) ++ Q)) := by
      rw [List.take_succ_eq_append_getElem hi', List.take_succ_eq_append_getElem hiY]; simp only [List.append_assoc, List.cons_append, List.nil_append]
    rw [e2]; exact hB4
  · have : i = X.length := by omega
    subst this
    rw [List.take_of_length_le (by omega), List.drop_length, List.append_nil, List.take_length, List.drop_eq_nil_of_le (by omega), List.append_nil] at hB1
    exact hR w1 b1 hB1
set_option maxHeartbeats 1000000 in
theorem rotate_se {data : Sl} {w : World} {R : World → Prop} {P X Y Q : List El} {tail : List Value} {a m b : Int} (hd : data.a = some ⟨g, 0, none⟩) (hlen : data.len = (P ++ X ++ Y ++ Q).length) (hbig : data.len < 4611686018427387904)
    (hB : RowB fc w g (P ++ X ++ Y ++ Q) tail) (ha : a = (P.length : Int)) (hm : m = ((P.length + X.length : Nat) : Int)) (hb : b = ((P.length + X.length + Y.length : Nat) : Int)) (hX : 0 < X.length) (hY : 0 < Y.length)
    (hR : ∀ w', But g w w' → RowB fc w' g (P ++ Y ++ X ++ Q) tail → R w') : SE.slices_rotateCmpFunc_apiVersion data a m b cmp w R := by
  unfold SE.slices_rotateCmpFunc_apiVersion
  subst ha hb hm
  simp only [List.length_append] at hlen
  refine ⟨fun i j w' => ∃ P' X' Y' Q' : List El, i = (X'.length : Int) ∧ j = (Y'.length : Int) ∧ P'.length + X'.length = P.length + X.length ∧ 0 < X'.length ∧ 0 < Y'.length ∧ data.len = P'.length + X'.length + Y'.length + Q'.length ∧ P' ++ Y' ++ X' ++ Q' = P ++ Y ++ X ++ Q ∧ But g w w' ∧ RowB fc w' g (P' ++ X' ++ Y' ++ Q') tail,
    fun i j _ => i.toNat + j.toNat, ⟨P, X, Y, Q, by rw [wrapI_eq (by omega) (by omega)]; omega, by rw [wrapI_eq (by omega) (by omega)]; omega, rfl, hX, hY, hlen, rfl, ⟨Nat.le_refl _, rfl, rfl, rfl, fun _ _ _ => rfl⟩, hB⟩, ?_⟩
  rintro i j w1 ⟨P', X', Y', Q', rfl, rfl, hm, hX', hY', hl, hg, b1, hB1⟩
  have wi : wrapI (((P.length + X.length : Nat) : Int) - (X'.length : Int)) = (P'.length : Int) := by rw [wrapI_eq (by omega) (by omega)]; omega
  rw [wi]
  refine ⟨fun hne => ⟨fun hlt => ?_, fun hge => ?_⟩, fun heq => ?_⟩
  · have hXe : X' = X'.take Y'.length ++ X'.drop Y'.length := (List.take_append_drop _ _).symm
    have l1 : (X'.take Y'.length).length = Y'.length := by rw [List.length_take]; omega
    have l2 : (X'.drop Y'.length).length = X'.length - Y'.length := List.length_drop
    generalize X'.take Y'.length = X1 at *
    generalize X'.drop Y'.length = X2 at *
    subst hXe
    rw [List.length_append] at *
    refine SE.slices_swapRangeCmpFunc_apiVersion.go (swapRange_se (P := P') (X := X1) (M := X2) (Y := Y') (Q := Q') hd (by simp only [List.length_append]; omega) hbig (by simpa using hB1) rfl (by omega) (by omega) (by omega) fun w2 b2 hB2 => ⟨rfl, ?_⟩)
    rw [wrapI_eq (by omega) (by omega)]
    refine ⟨⟨P' ++ Y', X2, X1, Q', by omega, by omega, by rw [List.length_append]; omega, by omega, by omega, by rw [List.length_append]; omega, by rw [← hg]; simp, b1.trans b2, by simpa using hB2⟩, by show Int.toNat _ + Int.toNat _ < Int.toNat _ + Int.toNat _; omega⟩
  · have hlt : X'.length < Y'.length := by
      rcases Nat.lt_trichotomy X'.length Y'.length with h | h | h
      · exact h
      · exact absurd (by rw [h]) hne
      · omega
    have hYe : Y' = Y'.take (Y'.length - X'.length) ++ Y'.drop (Y'.length - X'.length) := (List.take_append_drop _ _).symm
    have l1 : (Y'.take (Y'.length - X'.length)).length = Y'.length - X'.length := by rw [List.length_take]; omega
    have l2 : (Y'.drop (Y'.length - X'.length)).length = X'.length := by rw [List.length_drop]; omega
    generalize hn1 : Y'.take (Y'.length - X'.length) = Y1 at *
    generalize hn2 : Y'.drop (Y'.length - X'.length) = Y2 at *
    clear hn1 hn2
    subst hYe
    rw [List.length_append] at *
    have e1 : wrapI (wrapI (((P.length + X.length : Nat) : Int) + ((Y1.length + Y2.length : Nat) : Int)) - (X'.length : Int)) = ((P'.length + X'.length + Y1.length : Nat) : Int) := by
      rw [wrapI_eq (x := ((P.length + X.length : Nat) : Int) + ((Y1.length + Y2.length : Nat) : Int)) (by omega) (by omega), wrapI_eq (by omega) (by omega)]; omega
    rw [e1]
    refine SE.slices_swapRangeCmpFunc_apiVersion.go (swapRange_se (P := P') (X := X') (M := Y1) (Y := Y2) (Q := Q') hd (by simp only [List.length_append]; omega) hbig (by simpa using hB1) rfl rfl rfl l2 fun w2 b2 hB2 => ⟨rfl, ?_⟩)
    rw [wrapI_eq (by omega) (by omega)]
    refine ⟨⟨P', Y2, Y1, X' ++ Q', by omega, by omega, by omega, by omega, by omega, by rw [List.length_append]; omega, by rw [← hg]; simp, b1.trans b2, by simpa using hB2⟩, by show Int.toNat _ + Int.toNat _ < Int.toNat _ + Int.toNat _; omega⟩
  · have heq : X'.length = Y'.length := by
      have := Classical.not_not.1 heq; omega
    refine SE.slices_swapRangeCmpFunc_apiVersion.go (swapRange_se (P := P') (X := X') (M := []) (Y := Y') (Q := Q') hd (by simp only [List.length_append, List.length_nil]; omega) hbig (by simpa using hB1) rfl (by simp only [List.length_nil]; omega) rfl heq.symm fun w2 b2 hB2 => ⟨rfl, ?_⟩)
    exact hR w2 (b1.trans b2) (by rw [← hg]; simpa using hB2)
set_option maxHeartbeats 4000000 in
theorem symMerge_se (hO : Ord3 c) {data : Sl} {tail : List Value} (hd : data.a = some ⟨g, 0, none⟩) (hbig : data.len < 4611686018427387904) :
    ∀ (N : Nat) {w : World} {R : World → Prop} {P L X Q : List El} {a m b : Int}, L.length + X.length ≤ N → CmpOk cmp c g w → data.len = (P ++ L ++ X ++ Q).length → RowB fc w g (P ++ L ++ X ++ Q) tail →
      a = (P.length : Int) → m = ((P.length + L.length : Nat) : Int) → b = ((P.length + L.length + X.length : Nat) : Int) → 0 < L.length → 0 < X.length → L.Pairwise (Ah c) → X.Pairwise (Ah c) → (∀ x ∈ L, ∀ y ∈ X, x.2 < y.2) →
      (∀ w' M, But g w w' → M.Perm (L ++ X) → M.Pairwise (Ah c) → RowB fc w' g (P ++ M ++ Q) tail → R w') → SE.slices_symMergeCmpFunc_apiVersion data a m b cmp w R
  | 0, _, _, _, L, _, _, _, _, _, h, _, _, _, _, _, _, hL, _, _, _, _, _ => by omega
  | N + 1, w, R, P, L, X, Q, _, _, _, hN, hc, hlen, hB, rfl, rfl, rfl, hL0, hX0, hL, hX, hid, hR => by
    unfold SE.slices_symMergeCmpFunc_apiVersion
    simp only [List.length_append] at hlen
    have refl : But g w w := ⟨Nat.le_refl _, rfl, rfl, rfl, fun _ _ _ => rfl⟩
    have eL : ∀ (u : Nat) (hu : u < L.length), (P ++ L ++ X ++ Q)[P.length + u]? = some L[u] := fun u hu => by
      rw [List.append_assoc, List.append_assoc, List.getElem?_append_right (by omega), List.getElem?_append_left (by omega), Nat.add_sub_cancel_left]; exact List.getElem?_eq_getElem hu
    have eX : ∀ (u : Nat) (hu : u < X.length), (P ++ L ++ X ++ Q)[P.length + L.length + u]? = some X[u] := fun u hu => by
      rw [List.append_assoc, List.getElem?_append_right (by rw [List.length_append]; omega), List.length_append, Nat.add_sub_cancel_left, List.getElem?_append_left (by omega)]; exact List.getElem?_eq_getElem hu
    have wm : wrapI (((P.length + L.length : Nat) : Int) - (P.length : Int)) = (L.length : Int) := by rw [wrapI_eq (by omega) (by omega)]; omega
    have wb : wrapI (((P.length + L.length + X.length : Nat) : Int) - ((P.length + L.length : Nat) : Int)) = (X.length : Int) := by rw [wrapI_eq (by omega) (by omega)]; omega
    rw [wm, wb]
    refine ⟨fun h1 => ?_, fun h1 => ⟨fun h2 => ?_, fun h2 => ?_⟩⟩
    · -- one thing on the left
      obtain ⟨x, rfl⟩ := List.length_eq_one_iff.1 (show L.length = 1 by omega)
      simp only [List.length_cons, List.length_nil] at *
      refine ⟨fun i j w' => ∃ p q : Nat, i = ((P.length + (0 + 1) + p : Nat) : Int) ∧ j = ((P.length + (0 + 1) + q : Nat) : Int) ∧ p ≤ q ∧ q ≤ X.length ∧ (∀ (u : Nat) (hu : u < X.length), u < p → Ah c X[u] x) ∧ (∀ (u : Nat) (hu : u < X.length), q ≤ u → Ah c x X[u]) ∧ Ext w w',
        fun i j _ => (j - i).toNat, ⟨0, X.length, by omega, by omega, by omega, by omega, fun u _ h => by omega, fun u h1 h2 => by omega, Ext.refl _⟩, ?_⟩
      rintro _ _ w1 ⟨p, q, rfl, rfl, hpq, hq, hp1, hq1, x1⟩
      refine ⟨fun hlt => bnd.drew fun w2 x2 => ?_, fun hge => ?_⟩
      · rw [half (by omega)]
        have he : (P.length + (0 + 1) + p + (P.length + (0 + 1) + q)) / 2 = P.length + (0 + 1) + (p + q) / 2 := by omega
        rw [he]
        have heX : (p + q) / 2 < X.length := by omega
        have hB2 := hB.ext (x1.trans x2)
        have gx := hB2.ld' fc_len (eL 0 (by simp))
        have gy := hB2.ld' fc_len (eX _ heX)
        have hright := Ah.right hO (hid x (by simp) _ (List.getElem_mem heX))
        refine ⟨_, ⟨hd, by omega, by omega⟩, _, _, _, gy, _, ⟨hd, by omega, by omega⟩, _, _, _, gx, hc _ x.1 w2 _ (refl.ext' (x1.trans x2)) fun w3 x3 => ⟨_, rfl, fun h => ?_, fun h => ?_⟩⟩
        · have hA := hright.1 h
          rw [wrapI_eq (by omega) (by omega)]
          refine ⟨⟨(p + q) / 2 + 1, q, by omega, rfl, by omega, hq, fun u hu hlt => ?_, hq1, x1.trans (x2.trans x3)⟩, by show Int.toNat _ < Int.toNat _; omega⟩
          rcases Nat.lt_succ_iff_lt_or_eq.1 hlt with h' | rfl
          · exact (List.pairwise_iff_getElem.1 hX u _ hu heX h').trans hO hA
          · exact hA
        · have hA := hright.2 h
          refine ⟨⟨p, (p + q) / 2, rfl, rfl, by omega, by omega, hp1, fun u hu hge => ?_, x1.trans (x2.trans x3)⟩, by show Int.toNat _ < Int.toNat _; omega⟩
          rcases Nat.lt_or_eq_of_le hge with h' | rfl
          · exact hA.trans hO (List.pairwise_iff_getElem.1 hX _ u heX hu h')
          · exact hA
      · have hpq' : p = q := by omega
        subst hpq'
        have wi : wrapI (((P.length + (0 + 1) + p : Nat) : Int) - 1) = ((P.length + p : Nat) : Int) := by rw [wrapI_eq (by omega) (by omega)]; omega
        rw [wi]
        refine ⟨fun k w' => ∃ t : Nat, k = ((P.length + t : Nat) : Int) ∧ t ≤ p ∧ But g w w' ∧ RowB fc w' g (P ++ (X.take t ++ x :: X.drop t) ++ Q) tail, fun k _ => (P.length + p) - k.toNat, ⟨0, by omega, by omega, refl.ext' x1, by simpa using hB.ext x1⟩, ?_⟩
        rintro _ w2 ⟨t, rfl, htp, b2, hB2⟩
        refine ⟨fun hlt => bnd.drew fun w3 x3 => ?_, fun hge => ?_⟩
        · have htX : t < X.length := by omega
          have e1 : wrapI (((P.length + t : Nat) : Int) + 1) = ((P.length + t + 1 : Nat) : Int) := by rw [wrapI_eq (by omega) (by omega)]; omega
          rw [e1]
          have eB : P ++ (X.take t ++ x :: X.drop t) ++ Q = (P ++ X.take t) ++ x :: X[t] :: (X.drop (t + 1) ++ Q) := by
            rw [List.drop_eq_getElem_cons htX]; simp only [List.append_assoc, List.cons_append]
          have hB3 := hB2.ext x3
          rw [eB] at hB3
          have ey : (P ++ X.take t).length = P.length + t := by rw [List.length_append, List.length_take]; omega
          have gy := hB3.ld' fc_len (get_at' ey)
          have gx := hB3.ld' fc_len (get_at1' (n := P.length + t + 1) (by omega))
          have hln : ((P ++ X.take t) ++ x :: X[t] :: (X.drop (t + 1) ++ Q)).length = data.len := by rw [← eB, hlen]; simp; omega
          refine ⟨_, ⟨hd, by omega, by omega⟩, _, _, _, gx, _, ⟨hd, by omega, by omega⟩, _, _, _, gy, _, ⟨hd, by omega, by omega⟩, hB3.st fc_len (i := P.length + t) (x := X[t]) (by rw [hln]; omega) fun w4 b4 hB4 => ⟨_, ⟨hd, by omega, by omega⟩, hB4.st fc_len (i := P.length + t + 1) (x := x) (by rw [List.length_set, hln]; omega) fun w5 b5 hB5 => ?_⟩⟩
          have e2 := swap_adj' (P ++ X.take t) (X.drop (t + 1) ++ Q) x X[t]
          rw [ey] at e2
          rw [e2] at hB5
          refine ⟨⟨t + 1, by omega, by omega, ((b2.ext' x3).trans b4).trans b5, ?_⟩, by show _ - Int.toNat _ < _ - Int.toNat _; omega⟩
          rw [List.take_succ_eq_append_getElem htX]
          simpa only [List.append_assoc, List.cons_append, List.nil_append] using hB5
        · have : t = p := by omega
          subst this
          refine hR w2 _ b2 ?_ ?_ hB2
          · refine List.perm_middle.trans ?_
            rw [List.take_append_drop]; exact List.Perm.refl _
          · refine List.pairwise_append.2 ⟨hX.sublist (List.take_sublist _ _), List.pairwise_cons.2 ⟨fun y hy => ?_, hX.sublist (List.drop_sublist _ _)⟩, fun y hy z hz => ?_⟩
            · obtain ⟨u, hu, rfl⟩ := List.mem_iff_getElem.1 hy
              rw [List.length_drop] at hu
              rw [List.getElem_drop]; exact hq1 _ (by omega) (by omega)
            · obtain ⟨u, hu, rfl⟩ := List.mem_iff_getElem.1 hy
              rw [List.length_take] at hu
              rw [List.getElem_take]
              have hyx := hp1 u (by omega) (by omega)
              rcases List.mem_cons.1 hz with rfl | hz
              · exact hyx
              · obtain ⟨v, hv, rfl⟩ := List.mem_iff_getElem.1 hz
                rw [List.length_drop] at hv
                rw [List.getElem_drop]; exact hyx.trans hO (hq1 _ (by omega) (by omega))
    · -- one thing on the right
      obtain ⟨y, rfl⟩ := List.length_eq_one_iff.1 (show X.length = 1 by omega)
      simp only [List.length_cons, List.length_nil] at *
      refine ⟨fun i j w' => ∃ p q : Nat, i = ((P.length + p : Nat) : Int) ∧ j = ((P.length + q : Nat) : Int) ∧ p ≤ q ∧ q ≤ L.length ∧ (∀ (u : Nat) (hu : u < L.length), u < p → Ah c L[u] y) ∧ (∀ (u : Nat) (hu : u < L.length), q ≤ u → Ah c y L[u]) ∧ Ext w w',
        fun i j _ => (j - i).toNat, ⟨0, L.length, by omega, by omega, by omega, by omega, fun u _ h => by omega, fun u h1 h2 => by omega, Ext.refl _⟩, ?_⟩
      rintro _ _ w1 ⟨p, q, rfl, rfl, hpq, hq, hp1, hq1, x1⟩
      refine ⟨fun hlt => bnd.drew fun w2 x2 => ?_, fun hge => ?_⟩
      · rw [half (by omega)]
        have he : (P.length + p + (P.length + q)) / 2 = P.length + (p + q) / 2 := by omega
        rw [he]
        have heX : (p + q) / 2 < L.length := by omega
        have hB2 := hB.ext (x1.trans x2)
        have gx := hB2.ld' fc_len (eX 0 (by simp))
        have gy := hB2.ld' fc_len (eL _ heX)
        have hright := Ah.right hO (hid _ (List.getElem_mem heX) y (by simp))
        refine ⟨_, ⟨hd, by omega, by omega⟩, _, _, _, gx, _, ⟨hd, by omega, by omega⟩, _, _, _, gy, hc y.1 _ w2 _ (refl.ext' (x1.trans x2)) fun w3 x3 => ⟨_, rfl, fun h => ?_, fun h => ?_⟩⟩
        · have hA := hright.2 h
          rw [wrapI_eq (by omega) (by omega)]
          refine ⟨⟨(p + q) / 2 + 1, q, by omega, rfl, by omega, hq, fun u hu hlt => ?_, hq1, x1.trans (x2.trans x3)⟩, by show Int.toNat _ < Int.toNat _; omega⟩
          rcases Nat.lt_succ_iff_lt_or_eq.1 hlt with h' | rfl
          · exact (List.pairwise_iff_getElem.1 hL u _ hu heX h').trans hO hA
          · exact hA
        · have hA := hright.1 (Classical.not_not.1 h)
          refine ⟨⟨p, (p + q) / 2, rfl, rfl, by omega, by omega, hp1, fun u hu hge => ?_, x1.trans (x2.trans x3)⟩, by show Int.toNat _ < Int.toNat _; omega⟩
          rcases Nat.lt_or_eq_of_le hge with h' | rfl
          · exact hA.trans hO (List.pairwise_iff_getElem.1 hL _ u heX hu h')
          · exact hA
      · have hpq' : p = q := by omega
        subst hpq'
        refine ⟨fun k w' => ∃ t : Nat, k = ((P.length + t : Nat) : Int) ∧ p ≤ t ∧ t ≤ L.length ∧ But g w w' ∧ RowB fc w' g (P ++ (L.take t ++ y :: L.drop t) ++ Q) tail, fun k _ => k.toNat, ⟨L.length, by omega, by omega, by omega, refl.ext' x1, by simpa using hB.ext x1⟩, ?_⟩
        rintro _ w2 ⟨t, rfl, htp, htL, b2, hB2⟩
        refine ⟨fun hlt => bnd.drew fun w3 x3 => ?_, fun hge => ?_⟩
        · obtain ⟨s, rfl⟩ : ∃ s, t = s + 1 := ⟨t - 1, by omega⟩
          have hsL : s < L.length := by omega
          have e1 : wrapI (((P.length + (s + 1) : Nat) : Int) - 1) = ((P.length + s : Nat) : Int) := by rw [wrapI_eq (by omega) (by omega)]; omega
          rw [e1]
          have eB : P ++ (L.take (s + 1) ++ y :: L.drop (s + 1)) ++ Q = (P ++ L.take s) ++ L[s] :: y :: (L.drop (s + 1) ++ Q) := by
            rw [List.take_succ_eq_append_getElem hsL]; simp only [List.append_assoc, List.cons_append, List.nil_append]
          have hB3 := hB2.ext x3
          rw [eB] at hB3
          have ey : (P ++ L.take s).length = P.length + s := by rw [List.length_append, List.length_take]; omega
          have gy := hB3.ld' fc_len (get_at' ey)
          have gx := hB3.ld' fc_len (get_at1' (n := P.length + (s + 1)) (by omega))
          have hln : ((P ++ L.take s) ++ L[s] :: y :: (L.drop (s + 1) ++ Q)).length = data.len := by rw [← eB, hlen]; simp; omega
          refine ⟨_, ⟨hd, by omega, by omega⟩, _, _, _, gy, _, ⟨hd, by omega, by omega⟩, _, _, _, gx, _, ⟨hd, by omega, by omega⟩, hB3.st fc_len (i := P.length + (s + 1)) (x := L[s]) (by rw [hln]; omega) fun w4 b4 hB4 => ⟨_, ⟨hd, by omega, by omega⟩, hB4.st fc_len (i := P.length + s) (x := y) (by rw [List.length_set, hln]; omega) fun w5 b5 hB5 => ?_⟩⟩
          have e2 := swap_adj (P ++ L.take s) (L.drop (s + 1) ++ Q) L[s] y
          rw [ey, Nat.add_assoc] at e2
          rw [e2] at hB5
          refine ⟨⟨s, by omega, by omega, by omega, ((b2.ext' x3).trans b4).trans b5, ?_⟩, by show Int.toNat _ < Int.toNat _; omega⟩
          rw [List.drop_eq_getElem_cons hsL]
          simpa only [List.append_assoc, List.cons_append, List.nil_append] using hB5
        · have : t = p := by omega
          subst this
          refine hR w2 _ b2 ?_ ?_ hB2
          · refine List.perm_middle.trans ?_
            rw [List.take_append_drop]; exact (List.perm_append_singleton y L).symm
          · refine List.pairwise_append.2 ⟨hL.sublist (List.take_sublist _ _), List.pairwise_cons.2 ⟨fun z hz => ?_, hL.sublist (List.drop_sublist _ _)⟩, fun x hx z hz => ?_⟩
            · obtain ⟨u, hu, rfl⟩ := List.mem_iff_getElem.1 hz
              rw [List.length_drop] at hu
              rw [List.getElem_drop]; exact hq1 _ (by omega) (by omega)
            · obtain ⟨u, hu, rfl⟩ := List.mem_iff_getElem.1 hx
              rw [List.length_take] at hu
              rw [List.getElem_take]
              have hyx := hp1 u (by omega) (by omega)
              rcases List.mem_cons.1 hz with rfl | hz
              · exact hyx
              · obtain ⟨v, hv, rfl⟩ := List.mem_iff_getElem.1 hz
                rw [List.length_drop] at hv
                rw [List.getElem_drop]; exact hyx.trans hO (hq1 _ (by omega) (by omega))
    · -- both sides have more
      rw [half (i := P.length) (j := P.length + L.length + X.length) (by omega)]
      have hmid : (P.length + (P.length + L.length + X.length)) / 2 = P.length + (L.length + X.length) / 2 := by omega
      rw [hmid]
      generalize hH : (L.length + X.length) / 2 = H at *
      have wn : wrapI (((P.length + H : Nat) : Int) + ((P.length + L.length : Nat) : Int)) = ((P.length + H + (P.length + L.length) : Nat) : Int) := by rw [wrapI_eq (by omega) (by omega)]; omega
      rw [wn]
      have wp : wrapI (((P.length + H + (P.length + L.length) : Nat) : Int) - 1) = ((P.length + H + (P.length + L.length) - 1 : Nat) : Int) := by rw [wrapI_eq (by omega) (by omega)]; omega
      rw [wp]
      refine join.named fun J hJ => ?_
      have main : ∀ u0 v0 : Nat, u0 = H - X.length → v0 = min L.length H → J ((P.length + u0 : Nat) : Int) ((P.length + v0 : Nat) : Int) w := fun u0 v0 hu0 hv0 => by
        subst hJ
        show loop2 _ _ _ _
        refine ⟨fun i j w' => ∃ s r : Nat, i = ((P.length + s : Nat) : Int) ∧ j = ((P.length + r : Nat) : Int) ∧ u0 ≤ s ∧ s ≤ r ∧ r ≤ v0 ∧ (∀ (u : Nat) (h1 : u < L.length) (h2 : H - 1 - u < X.length), u0 ≤ u → u < s → Ah c L[u] X[H - 1 - u]) ∧ (∀ (u : Nat) (h1 : u < L.length) (h2 : H - 1 - u < X.length), r ≤ u → u < v0 → Ah c X[H - 1 - u] L[u]) ∧ Ext w w',
          fun i j _ => (j - i).toNat, ⟨u0, v0, rfl, rfl, Nat.le_refl _, by omega, Nat.le_refl _, fun u _ _ h1 h2 => by omega, fun u _ _ h1 h2 => by omega, Ext.refl _⟩, ?_⟩
        rintro _ _ w1 ⟨s, r, rfl, rfl, hs0, hsr, hrv, hs1, hr1, x1⟩
        refine ⟨fun hlt => bnd.drew fun w2 x2 => ?_, fun hge => ?_⟩
        · rw [half (by omega)]
          have he : (P.length + s + (P.length + r)) / 2 = P.length + (s + r) / 2 := by omega
          rw [he]
          generalize hu : (s + r) / 2 = u at *
          have huL : u < L.length := by omega
          have huX : H - 1 - u < X.length := by omega
          have wpc : wrapI (((P.length + H + (P.length + L.length) - 1 : Nat) : Int) - ((P.length + u : Nat) : Int)) = ((P.length + L.length + (H - 1 - u) : Nat) : Int) := by rw [wrapI_eq (by omega) (by omega)]; omega
          rw [wpc]
          have hB2 := hB.ext (x1.trans x2)
          have gx := hB2.ld' fc_len (eX _ huX)
          have gy := hB2.ld' fc_len (eL _ huL)
          have hright := Ah.right hO (hid _ (List.getElem_mem huL) _ (List.getElem_mem huX))
          refine ⟨_, ⟨hd, by omega, by omega⟩, _, _, _, gx, _, ⟨hd, by omega, by omega⟩, _, _, _, gy, hc _ _ w2 _ (refl.ext' (x1.trans x2)) fun w3 x3 => ⟨_, rfl, fun h => ?_, fun h => ?_⟩⟩
          · have hA := hright.2 h
            rw [wrapI_eq (by omega) (by omega)]
            refine ⟨⟨u + 1, r, by omega, rfl, by omega, by omega, hrv, fun t h1 h2 h3 h4 => ?_, hr1, x1.trans (x2.trans x3)⟩, by show Int.toNat _ < Int.toNat _; omega⟩
            rcases Nat.lt_succ_iff_lt_or_eq.1 h4 with h' | rfl
            · exact ((List.pairwise_iff_getElem.1 hL t u h1 huL h').trans hO hA).trans hO (List.pairwise_iff_getElem.1 hX (H - 1 - u) (H - 1 - t) huX h2 (by omega))
            · exact hA
          · have hA := hright.1 (Classical.not_not.1 h)
            refine ⟨⟨s, u, rfl, rfl, hs0, by omega, by omega, hs1, fun t h1 h2 h3 h4 => ?_, x1.trans (x2.trans x3)⟩, by show Int.toNat _ < Int.toNat _; omega⟩
            rcases Nat.lt_or_eq_of_le h3 with h' | rfl
            · exact ((List.pairwise_iff_getElem.1 hX (H - 1 - t) (H - 1 - u) h2 huX (by omega)).trans hO hA).trans hO (List.pairwise_iff_getElem.1 hL u t huL h1 h')
            · exact hA
        · have hsr' : s = r := by omega
          subst hsr'
          have hsL : s ≤ L.length := by omega
          have hsH : s ≤ H := by omega
          have hHX : H - s ≤ X.length := by omega
          have wend : wrapI (((P.length + H + (P.length + L.length) : Nat) : Int) - ((P.length + s : Nat) : Int)) = ((P.length + L.length + (H - s) : Nat) : Int) := by rw [wrapI_eq (by omega) (by omega)]; omega
          rw [wend]
          have cr1 : ∀ x ∈ L.take s, ∀ y ∈ X.drop (H - s), Ah c x y := fun x hx y hy => by
            obtain ⟨i, hi, rfl⟩ := List.mem_iff_getElem.1 hx
            obtain ⟨j, hj, rfl⟩ := List.mem_iff_getElem.1 hy
            rw [List.length_take] at hi; rw [List.length_drop] at hj
            rw [List.getElem_take, List.getElem_drop]
            have k1 := hs1 (s - 1) (by omega) (by omega) (by omega) (by omega)
            have e : H - 1 - (s - 1) = H - s := by omega
            have k2 : Ah c L[i] X[H - s] := by
              rcases Nat.lt_or_eq_of_le (show i ≤ s - 1 by omega) with h | h
              · have := (List.pairwise_iff_getElem.1 hL i (s - 1) (by omega) (by omega) h).trans hO k1
                simpa only [e] using this
              · subst h; simpa only [e] using k1
            rcases Nat.eq_zero_or_pos j with h | h
            · subst h; exact k2
            · exact k2.trans hO (List.pairwise_iff_getElem.1 hX (H - s) (H - s + j) (by omega) (by omega) (by omega))
          have cr2 : ∀ y ∈ X.take (H - s), ∀ x ∈ L.drop s, Ah c y x := fun y hy x hx => by
            obtain ⟨i, hi, rfl⟩ := List.mem_iff_getElem.1 hx
            obtain ⟨j, hj, rfl⟩ := List.mem_iff_getElem.1 hy
            rw [List.length_drop] at hi; rw [List.length_take] at hj
            rw [List.getElem_take, List.getElem_drop]
            have k1 := hr1 s (by omega) (by omega) (Nat.le_refl _) (by omega)
            have k2 : Ah c X[j] L[s] := by
              rcases Nat.lt_or_eq_of_le (show j ≤ H - 1 - s by omega) with h | h
              · exact (List.pairwise_iff_getElem.1 hX j (H - 1 - s) (by omega) (by omega) h).trans hO k1
              · subst h; exact k1
            rcases Nat.eq_zero_or_pos i with h | h
            · subst h; exact k2
            · exact k2.trans hO (List.pairwise_iff_getElem.1 hL s (s + i) (by omega) (by omega) (by omega))
          have lt1 : (L.take s).length = s := by rw [List.length_take]; omega
          have lt2 : (X.take (H - s)).length = H - s := by rw [List.length_take]; omega
          have lt3 : (L.drop s).length = L.length - s := List.length_drop
          have lt4 : (X.drop (H - s)).length = X.length - (H - s) := List.length_drop
          have sL1 := hL.sublist (List.take_sublist s L)
          have sL2 := hL.sublist (List.drop_sublist s L)
          have sX1 := hX.sublist (List.take_sublist (H - s) X)
          have sX2 := hX.sublist (List.drop_sublist (H - s) X)
          have id1 : ∀ x ∈ L.take s, ∀ y ∈ X.take (H - s), x.2 < y.2 := fun x hx y hy => hid x (List.mem_of_mem_take hx) y (List.mem_of_mem_take hy)
          have id2 : ∀ x ∈ L.drop s, ∀ y ∈ X.drop (H - s), x.2 < y.2 := fun x hx y hy => hid x (List.mem_of_mem_drop hx) y (List.mem_of_mem_drop hy)
          have eLs : L = L.take s ++ L.drop s := (List.take_append_drop _ _).symm
          have eXs : X = X.take (H - s) ++ X.drop (H - s) := (List.take_append_drop _ _).symm
          have hLX : L.take s = [] ∨ 0 < s := by rcases Nat.eq_zero_or_pos s with h | h; · exact .inl (by rw [h]; rfl)
                                                 · exact .inr h
          have permAll : ∀ M1 M2 : List El, M1.Perm (L.take s ++ X.take (H - s)) → M2.Perm (L.drop s ++ X.drop (H - s)) → (M1 ++ M2).Perm (L ++ X) := fun M1 M2 h1 h2 => by
            refine (h1.append h2).trans ?_
            conv => rhs; rw [eLs, eXs]
            rw [List.append_assoc, List.append_assoc]
            refine List.Perm.append_left _ ?_
            rw [← List.append_assoc, ← List.append_assoc]
            exact List.Perm.append_right _ List.perm_append_comm
          have sortAll : ∀ M1 M2 : List El, M1.Perm (L.take s ++ X.take (H - s)) → M2.Perm (L.drop s ++ X.drop (H - s)) → M1.Pairwise (Ah c) → M2.Pairwise (Ah c) → (M1 ++ M2).Pairwise (Ah c) := fun M1 M2 h1 h2 s1 s2 =>
            List.pairwise_append.2 ⟨s1, s2, fun x hx y hy => by
              rcases List.mem_append.1 (h1.mem_iff.1 hx) with hx | hx <;> rcases List.mem_append.1 (h2.mem_iff.1 hy) with hy | hy
              · obtain ⟨i, hi, rfl⟩ := List.mem_iff_getElem.1 hx
                obtain ⟨j, hj, rfl⟩ := List.mem_iff_getElem.1 hy
                rw [lt1] at hi; rw [lt3] at hj
                rw [List.getElem_take, List.getElem_drop]
                exact List.pairwise_iff_getElem.1 hL i (s + j) (by omega) (by omega) (by omega)
              · exact cr1 x hx y hy
              · exact cr2 x hx y hy
              · obtain ⟨i, hi, rfl⟩ := List.mem_iff_getElem.1 hx
                obtain ⟨j, hj, rfl⟩ := List.mem_iff_getElem.1 hy
                rw [lt2] at hi; rw [lt4] at hj
                rw [List.getElem_take, List.getElem_drop]
                exact List.pairwise_iff_getElem.1 hX i (H - s + j) (by omega) (by omega) (by omega)⟩
          generalize L.take s = L1 at *
          generalize L.drop s = L2 at *
          generalize X.take (H - s) = X1 at *
          generalize X.drop (H - s) = X2 at *
          have b1 : But g w w1 := refl.ext' x1
          have hB1 := hB.ext x1
          refine join.named fun J2 hJ2 => ?_
          have k2 : ∀ w2, But g w w2 → RowB fc w2 g (P ++ L1 ++ X1 ++ (L2 ++ X2 ++ Q)) tail → J2 w2 := fun w2 b2 hB2 => by
            subst hJ2
            refine join.named fun J3 hJ3 => bound ?_
            have k3 : ∀ w3 M1, But g w w3 → M1.Perm (L1 ++ X1) → M1.Pairwise (Ah c) → RowB fc w3 g (P ++ M1 ++ (L2 ++ X2 ++ Q)) tail → J3 w3 := fun w3 M1 b3 hp1 so1 hB3 => by
              subst hJ3
              have lM : M1.length = H := by rw [hp1.length_eq, List.length_append]; omega
              refine bound ⟨fun h => ?_, fun h => ?_⟩
              · simp only [Bool.and_eq_true, decide_eq_true_eq] at h
                refine SE.slices_symMergeCmpFunc_apiVersion.go (symMerge_se hO hd hbig N (P := P ++ M1) (L := L2) (X := X2) (Q := Q) (by omega) (hc.but b3) (by simp only [List.length_append]; omega) (by simpa only [List.append_assoc] using hB3) (by rw [List.length_append]; omega) (by rw [List.length_append]; omega) (by rw [List.length_append]; omega) (by omega) (by omega) sL2 sX2 id2 fun w4 M2 b4 hp2 so2 hB4 => ⟨rfl, ?_⟩)
                exact hR w4 (M1 ++ M2) (b3.trans b4) (permAll M1 M2 hp1 hp2) (sortAll M1 M2 hp1 hp2 so1 so2) (by simpa only [List.append_assoc] using hB4)
              · simp only [Bool.and_eq_false_iff, decide_eq_false_iff_not] at h
                refine hR w3 (M1 ++ (L2 ++ X2)) b3 (permAll M1 _ hp1 (List.Perm.refl _)) (sortAll M1 _ hp1 (List.Perm.refl _) so1 ?_) (by simpa only [List.append_assoc] using hB3)
                have : L2 = [] ∨ X2 = [] := by
                  rcases h with h | h
                  · exact .inl (List.eq_nil_of_length_eq_zero (by omega))
                  · exact .inr (List.eq_nil_of_length_eq_zero (by omega))
                rcases this with rfl | rfl
                · simpa using sX2
                · simpa using sL2
            refine ⟨fun h => ?_, fun h => ?_⟩
            · simp only [Bool.and_eq_true, decide_eq_true_eq] at h
              refine SE.slices_symMergeCmpFunc_apiVersion.go (symMerge_se hO hd hbig N (P := P) (L := L1) (X := X1) (Q := L2 ++ X2 ++ Q) (by omega) (hc.but b2) (by simp only [List.length_append]; omega) (by simpa only [List.append_assoc] using hB2) rfl (by omega) (by omega) (by omega) (by omega) sL1 sX1 id1 fun w4 M1 b4 hp1 so1 hB4 => ⟨rfl, k3 w4 M1 (b2.trans b4) hp1 so1 hB4⟩)
            · simp only [Bool.and_eq_false_iff, decide_eq_false_iff_not] at h
              refine k3 w2 (L1 ++ X1) b2 (List.Perm.refl _) ?_ (by simpa only [List.append_assoc] using hB2)
              have : L1 = [] ∨ X1 = [] := by
                rcases h with h | h
                · exact .inl (List.eq_nil_of_length_eq_zero (by omega))
                · exact .inr (List.eq_nil_of_length_eq_zero (by omega))
              rcases this with rfl | rfl
              · simpa using sX1
              · simpa using sL1
          rw [eLs, eXs] at hB1
          refine bound ⟨fun h => ?_, fun h => ?_⟩
          · simp only [Bool.and_eq_true, decide_eq_true_eq] at h
            refine SE.slices_rotateCmpFunc_apiVersion.go (rotate_se (P := P ++ L1) (X := L2) (Y := X1) (Q := X2 ++ Q) hd (by simp only [List.length_append]; omega) hbig (by simpa only [List.append_assoc] using hB1) (by rw [List.length_append]; omega) (by rw [List.length_append]; omega) (by rw [List.length_append]; omega) (by omega) (by omega) fun w2 b2 hB2 => ⟨rfl, k2 w2 (b1.trans b2) (by simpa only [List.append_assoc] using hB2)⟩)
          · simp only [Bool.and_eq_false_iff, decide_eq_false_iff_not] at h
            refine k2 w1 b1 ?_
            have : L2 = [] ∨ X1 = [] := by
              rcases h with h | h
              · exact .inl (List.eq_nil_of_length_eq_zero (by omega))
              · exact .inr (List.eq_nil_of_length_eq_zero (by omega))
            rcases this with rfl | rfl
            · simpa only [List.append_assoc, List.append_nil, List.nil_append] using hB1
            · simpa only [List.append_assoc, List.append_nil, List.nil_append] using hB1
      refine ⟨fun h => ?_, fun h => ?_⟩
      · have := main (H - X.length) H rfl (by omega)
        have e : wrapI (((P.length + H + (P.length + L.length) : Nat) : Int) - ((P.length + L.length + X.length : Nat) : Int)) = ((P.length + (H - X.length) : Nat) : Int) := by rw [wrapI_eq (by omega) (by omega)]; omega
        rw [e]; exact this
      · have := main 0 L.length (by omega) (by omega)
        exact this
theorem ids {z0 : List El} (hz : z0.Pairwise fun x y => x.2 < y.2) {i n j m : Nat} (h : i + n ≤ j) : ∀ x ∈ sg z0 i n, ∀ y ∈ sg z0 j m, x.2 < y.2 := fun x hx y hy => by
  obtain ⟨a, ha, _, ha2, rfl⟩ := sg_mem hx
  obtain ⟨b, hb, hb1, _, rfl⟩ := sg_mem hy
  exact List.pairwise_iff_getElem.1 hz a b ha hb (by omega)
set_option maxHeartbeats 4000000 in
theorem stable_se (hO : Ord3 c) {data : Sl} {tail : List Value} {w : World} {R : World → Prop} {z0 : List El} {n : Int} (hd : data.a = some ⟨g, 0, none⟩) (hbig : data.len < 2305843009213693952) (hc : CmpOk cmp c g w) (hlen : data.len = z0.length) (hn : n = (z0.length : Int)) (hB : RowB fc w g z0 tail)
    (hz : z0.Pairwise fun x y => x.2 < y.2) (hR : ∀ w' M, But g w w' → M.Perm z0 → M.Pairwise (Ah c) → RowB fc w' g M tail → R w') : SE.slices_stableCmpFunc_apiVersion data n cmp w R := by
  unfold SE.slices_stableCmpFunc_apiVersion
  subst hn
  have refl : But g w w := ⟨Nat.le_refl _, rfl, rfl, rfl, fun _ _ _ => rfl⟩
  refine ⟨fun a b w' => ∃ (k : Nat) (z : List El), a = ((k * 20 : Nat) : Int) ∧ b = ((k * 20 + 20 : Nat) : Int) ∧ k * 20 ≤ z0.length ∧ z.length = z0.length ∧ z.drop (k * 20) = z0.drop (k * 20) ∧ Chunks c 20 z z0 k ∧ But g w w' ∧ RowB fc w' g z tail,
    fun a _ _ => z0.length - a.toNat, ⟨0, z0, rfl, rfl, by omega, rfl, rfl, ⟨fun i h => by omega, fun i h => by omega⟩, refl, hB⟩, ?_⟩
  rintro _ _ w1 ⟨k, z, rfl, rfl, hk, hzl, hdr, hch, b1, hB1⟩
  have la : (z.take (k * 20)).length = k * 20 := by rw [List.length_take]; omega
  refine ⟨fun hle => ?_, fun hgt => ?_⟩
  · have hsg : sg z (k * 20) 20 = sg z0 (k * 20) 20 := by unfold sg; rw [hdr]
    have hs := sg_split z (k * 20) 20
    have hsl : (sg z (k * 20) 20).length = 20 := sg_len (by omega)
    rw [hs] at hB1
    refine SE.slices_insertionSortCmpFunc_apiVersion.go (insertion_se hO (A := z.take (k * 20)) (M0 := sg z (k * 20) 20) (B := z.drop (k * 20 + 20)) (hc.but b1) hd (by rw [← hs, hzl]; exact hlen) (by omega) hB1 (by rw [la]) (by rw [la, hsl]) (by rw [hsg]; exact hz.sublist ((List.take_sublist _ _).trans (List.drop_sublist _ _))) fun w2 M b2 hp hso hB2 => ⟨rfl, ?_⟩)
    have hMl : M.length = 20 := by rw [hp.length_eq, hsl]
    rw [wrapI_eq (by omega) (by omega)]
    refine ⟨⟨k + 1, z.take (k * 20) ++ M ++ z.drop (k * 20 + 20), by omega, by omega, by omega, ?_, ?_, ?_, b1.trans b2, hB2⟩, by show _ - Int.toNat _ < _ - Int.toNat _; omega⟩
    · simp only [List.length_append, List.length_drop, la, hMl]; omega
    · rw [List.drop_left' (by rw [List.length_append, la, hMl]; omega), show k * 20 + 20 = (k + 1) * 20 by omega]
      rw [show (k + 1) * 20 = k * 20 + 20 by omega, ← List.drop_drop, hdr, List.drop_drop]
    · constructor
      · intro i hi
        rcases Nat.lt_succ_iff_lt_or_eq.1 hi with h | rfl
        · rw [sg_left (by rw [la]; omega)]
          have := hch.perm i h
          rw [hs, sg_left (by rw [la]; omega)] at this
          exact this
        · rw [sg_self la hMl, ← hsg]; exact hp
      · intro i hi
        rcases Nat.lt_succ_iff_lt_or_eq.1 hi with h | rfl
        · rw [sg_left (by rw [la]; omega)]
          have := hch.sort i h
          rw [hs, sg_left (by rw [la]; omega)] at this
          exact this
        · rw [sg_self la hMl]; exact hso
  · have hs : z = z.take (k * 20) ++ z.drop (k * 20) ++ [] := by rw [List.append_nil, List.take_append_drop]
    have hdl : (z.drop (k * 20)).length = z0.length - k * 20 := by rw [List.length_drop, hzl]
    rw [hs] at hB1
    refine SE.slices_insertionSortCmpFunc_apiVersion.go (insertion_se hO (A := z.take (k * 20)) (M0 := z.drop (k * 20)) (B := []) (hc.but b1) hd (by rw [← hs, hzl]; exact hlen) (by omega) hB1 (by rw [la]) (by rw [la, hdl]; omega) (by rw [hdr]; exact hz.sublist (List.drop_sublist _ _)) fun w2 M b2 hp hso hB2 => ⟨rfl, ?_⟩)
    have hMl : M.length = z0.length - k * 20 := by rw [hp.length_eq, hdl]
    rw [List.append_nil] at hB2
    have hch0 : ∀ j, Chunks c 20 (z.take (k * 20) ++ M) z0 j := fun j => by
      have hsg : sg z (k * 20) 20 = z.drop (k * 20) := by unfold sg; rw [List.take_of_length_le (by omega)]
      have hsg0 : sg z0 (k * 20) 20 = z0.drop (k * 20) := by unfold sg; rw [List.take_of_length_le (by rw [List.length_drop]; omega)]
      constructor
      · intro i _
        rcases Nat.lt_trichotomy i k with h | rfl | h
        · have := hch.perm i h
          rw [hs, sg_left (by rw [la]; omega)] at this
          rw [← List.append_nil (z.take (k * 20) ++ M), sg_left (by rw [la]; omega)]
          exact this
        · rw [sg_last la (by omega), hsg0, ← hdr]; exact hp
        · have : k + 1 ≤ i := h
          rw [sg_nil (by rw [List.length_append, la]; omega), sg_nil (by omega)]
      · intro i _
        rcases Nat.lt_trichotomy i k with h | rfl | h
        · have := hch.sort i h
          rw [hs, sg_left (by rw [la]; omega)] at this
          rw [← List.append_nil (z.take (k * 20) ++ M), sg_left (by rw [la]; omega)]
          exact this
        · rw [sg_last la (by omega)]; exact hso
        · have : k + 1 ≤ i := h
          rw [sg_nil (by rw [List.length_append, la]; omega)]
          exact .nil
    have hzl1 : (z.take (k * 20) ++ M).length = z0.length := by rw [List.length_append, la]; omega
    generalize z.take (k * 20) ++ M = z1 at *
    have b02 := b1.trans b2
    clear hp hso hMl
    refine ⟨fun bs w' => ∃ (s : Nat) (z : List El), bs = (s : Int) ∧ 0 < s ∧ s < 2 * z0.length + 40 ∧ z.length = z0.length ∧ (∀ j, Chunks c s z z0 j) ∧ But g w w' ∧ RowB fc w' g z tail, fun bs _ => 2 * z0.length + 40 - bs.toNat, ⟨20, z1, rfl, by omega, by omega, hzl1, hch0, b02, hB2⟩, ?_⟩
    rintro _ w3 ⟨s, z2, rfl, hs0, hsb, hzl2, hch2, b3, hB3⟩
    refine ⟨fun hlt => ?_, fun hge => ?_⟩
    · have hsn : s < z0.length := by omega
      rw [wrapI_eq (x := 2 * (s : Int)) (by omega) (by omega)]
      refine ⟨fun a b w' => ∃ (k : Nat) (z : List El), a = ((k * (2 * s) : Nat) : Int) ∧ b = ((k * (2 * s) + 2 * s : Nat) : Int) ∧ k * (2 * s) ≤ z0.length ∧ z.length = z0.length ∧ z.drop (k * (2 * s)) = z2.drop (k * (2 * s)) ∧ Chunks c (2 * s) z z0 k ∧ But g w w' ∧ RowB fc w' g z tail,
        fun a _ _ => z0.length - a.toNat, ⟨0, z2, by simp, by simp, by omega, hzl2, by simp, ⟨fun i h => by omega, fun i h => by omega⟩, b3, hB3⟩, ?_⟩
      rintro _ _ w4 ⟨k, z, rfl, rfl, hk, hzl4, hdr4, hch4, b4, hB4⟩
      generalize hK : k * (2 * s) = K at *
      have la4 : (z.take K).length = K := by rw [List.length_take]; omega
      have e2k : 2 * k * s = K := by rw [← hK, Nat.mul_comm 2 k, Nat.mul_assoc]
      have e2k1 : (2 * k + 1) * s = K + s := by rw [Nat.add_mul, e2k, Nat.one_mul]
      have p1 := (hch2 (2 * k + 2)).perm (2 * k) (by omega); have p2 := (hch2 (2 * k + 2)).perm (2 * k + 1) (by omega)
      have s1 := (hch2 (2 * k + 2)).sort (2 * k) (by omega); have s2 := (hch2 (2 * k + 2)).sort (2 * k + 1) (by omega)
      rw [e2k] at p1 s1; rw [e2k1] at p2 s2
      have g1 : sg z K s = sg z2 K s := by unfold sg; rw [hdr4]
      have g2 : sg z (K + s) s = sg z2 (K + s) s := by unfold sg; rw [← List.drop_drop, hdr4, List.drop_drop]
      rw [← g1] at p1 s1; rw [← g2] at p2 s2
      have hids : ∀ x ∈ sg z K s, ∀ y ∈ sg z (K + s) s, x.2 < y.2 := fun x hx y hy => ids hz (Nat.le_refl _) x (p1.mem_iff.1 hx) y (p2.mem_iff.1 hy)
      have wks : wrapI ((K : Int) + (s : Int)) = ((K + s : Nat) : Int) := by rw [wrapI_eq (by omega) (by omega)]; omega
      have grow : ∀ (z' M B : List El) (m : Nat), z' = z.take K ++ M ++ B → M.length = m → M.Perm (sg z K s ++ sg z (K + s) s) → M.Pairwise (Ah c) → (m = 2 * s ∨ B = []) → m ≤ 2 * s → Chunks c (2 * s) z' z0 (k + 1) := fun z' M B m hz' hm hp hso hmB hm2 => by
        have e : sg z' K (2 * s) = M := by
          subst hz'
          rcases hmB with h | h
          · exact sg_self la4 (by omega)
          · subst h; rw [List.append_nil]; exact sg_last la4 (by omega)
        have e0 : sg z0 K (2 * s) = sg z0 K s ++ sg z0 (K + s) s := by rw [show 2 * s = s + s by omega, sg_app]
        have el : ∀ i, i < k → sg z' (i * (2 * s)) (2 * s) = sg z (i * (2 * s)) (2 * s) := fun i h => by
          have hle : i * (2 * s) + 2 * s ≤ K := by
            have := Nat.mul_le_mul_right (2 * s) (show i + 1 ≤ k from h)
            rw [Nat.add_mul, hK, Nat.one_mul] at this; exact this
          have h1 : sg z (i * (2 * s)) (2 * s) = sg (z.take K) (i * (2 * s)) (2 * s) := by
            conv => lhs; rw [show z = z.take K ++ z.drop K ++ [] by rw [List.append_nil, List.take_append_drop]]
            exact sg_left (by rw [la4]; exact hle)
          rw [h1, hz', sg_left (by rw [la4]; exact hle)]
        constructor
        · intro i hi
          rcases Nat.lt_succ_iff_lt_or_eq.1 hi with h | rfl
          · rw [el i h]; exact hch4.perm i h
          · rw [hK, e, e0]; exact hp.trans (p1.append p2)
        · intro i hi
          rcases Nat.lt_succ_iff_lt_or_eq.1 hi with h | rfl
          · rw [el i h]; exact hch4.sort i h
          · rw [hK, e]; exact hso
      refine ⟨fun hle => ?_, fun hgt4 => ?_⟩
      · have hs4 : z = z.take K ++ sg z K s ++ sg z (K + s) s ++ z.drop (K + 2 * s) := by
          have := sg_split z K (2 * s)
          rw [show 2 * s = s + s by omega, sg_app] at this
          rw [show 2 * s = s + s by omega]
          simpa only [List.append_assoc] using this
        have l1 : (sg z K s).length = s := sg_len (by omega)
        have l2 : (sg z (K + s) s).length = s := sg_len (by omega)
        rw [wks]
        rw [hs4] at hB4
        refine SE.slices_symMergeCmpFunc_apiVersion.go (symMerge_se hO hd (by omega) _ (P := z.take K) (L := sg z K s) (X := sg z (K + s) s) (Q := z.drop (K + 2 * s)) (Nat.le_refl _) (hc.but b4) (by rw [← hs4, hzl4]; exact hlen) hB4 (by rw [la4]) (by rw [la4, l1]) (by rw [la4, l1, l2]; omega) (by omega) (by omega) s1 s2 hids fun w5 M b5 hp hso hB5 => ⟨rfl, ?_⟩)
        have hMl : M.length = 2 * s := by rw [hp.length_eq, List.length_append]; omega
        rw [wrapI_eq (by omega) (by omega)]
        have hK1 : (k + 1) * (2 * s) = K + 2 * s := by rw [Nat.add_mul, hK, Nat.one_mul]
        refine ⟨⟨k + 1, z.take K ++ M ++ z.drop (K + 2 * s), by omega, by omega, by omega, ?_, ?_, grow _ M _ (2 * s) rfl hMl hp hso (.inl rfl) (Nat.le_refl _), b4.trans b5, hB5⟩, by show _ - Int.toNat _ < _ - Int.toNat _; omega⟩
        · simp only [List.length_append, List.length_drop, la4, hMl]; omega
        · rw [hK1, List.drop_left' (by rw [List.length_append, la4, hMl]), ← List.drop_drop, hdr4, List.drop_drop]
      · refine join.named fun J hJ => ?_
        have kJ : ∀ w' z', But g w w' → z'.length = z0.length → Chunks c (2 * s) z' z0 (k + 1) → RowB fc w' g z' tail → J w' := fun w' z' b' hl' hch' hB' => by
          subst hJ
          have e : wrapI ((s : Int) * 2) = ((2 * s : Nat) : Int) := by rw [wrapI_eq (by omega) (by omega)]; omega
          rw [e]
          have hK1 : (k + 1) * (2 * s) = K + 2 * s := by rw [Nat.add_mul, hK, Nat.one_mul]
          refine ⟨⟨2 * s, z', rfl, by omega, by omega, hl', fun j => ⟨fun i _ => ?_, fun i _ => ?_⟩, b', hB'⟩, by show _ - Int.toNat _ < _ - Int.toNat _; omega⟩
          · by_cases h : i < k + 1
            · exact hch'.perm i h
            · have := Nat.mul_le_mul_right (2 * s) (show k + 1 ≤ i by omega)
              rw [sg_nil (by omega), sg_nil (by omega)]
          · by_cases h : i < k + 1
            · exact hch'.sort i h
            · have := Nat.mul_le_mul_right (2 * s) (show k + 1 ≤ i by omega)
              rw [sg_nil (by omega)]
              exact .nil
        rw [wks]
        have hdK : z.drop K = sg z K s ++ sg z (K + s) s := by
          rw [← sg_app]; unfold sg; rw [List.take_of_length_le (by rw [List.length_drop]; omega)]
        refine ⟨fun hlt4 => ?_, fun hge4 => ?_⟩
        · have hs4 : z = z.take K ++ sg z K s ++ sg z (K + s) s ++ [] := by
            rw [List.append_nil, List.append_assoc, ← hdK, List.take_append_drop]
          have l1 : (sg z K s).length = s := sg_len (by omega)
          have l2 : (sg z K s).length + (sg z (K + s) s).length = z0.length - K := by rw [← List.length_append, ← hdK, List.length_drop, hzl4]
          rw [hs4] at hB4
          refine SE.slices_symMergeCmpFunc_apiVersion.go (symMerge_se hO hd (by omega) _ (P := z.take K) (L := sg z K s) (X := sg z (K + s) s) (Q := []) (Nat.le_refl _) (hc.but b4) (by rw [← hs4, hzl4]; exact hlen) hB4 (by rw [la4]) (by rw [la4, l1]) (by rw [la4]; omega) (by omega) (by omega) s1 s2 hids fun w5 M b5 hp hso hB5 => ⟨rfl, ?_⟩)
          have hMl : M.length = z0.length - K := by rw [hp.length_eq, List.length_append]; exact l2
          exact kJ w5 _ (b4.trans b5) (by simp only [List.length_append, List.length_nil, la4, hMl]; omega) (grow _ M [] _ rfl hMl hp hso (.inr rfl) (by omega)) hB5
        · have e0 : sg z (K + s) s = [] := sg_nil (by omega)
          refine kJ w4 z b4 hzl4 (grow z (z.drop K) [] _ (by rw [List.append_nil, List.take_append_drop]) rfl (by rw [hdK]) ?_ (.inr rfl) (by rw [List.length_drop]; omega)) hB4
          rw [hdK, e0, List.append_nil]; exact s1
    · have e : sg z2 (0 * s) s = z2 := by rw [Nat.zero_mul]; unfold sg; rw [List.drop_zero, List.take_of_length_le (by omega)]
      have e0 : sg z0 (0 * s) s = z0 := by rw [Nat.zero_mul]; unfold sg; rw [List.drop_zero, List.take_of_length_le (by omega)]
      have p := (hch2 1).perm 0 (by omega); have so := (hch2 1).sort 0 (by omega)
      rw [e] at p so
      rw [e0] at p
      exact hR w3 z2 b3 p so hB3
theorem sortStable_se (hO : Ord3 c) {data : Sl} {tail : List Value} {w : World} {R : World → Prop} {l : List Ver} (hd : data.a = some ⟨g, 0, none⟩) (hbig : data.len < 2305843009213693952) (hc : CmpOk cmp c g w) (hlen : data.len = l.length) (hB : RowB cells w g l tail)
    (hR : ∀ w', But g w w' → RowB cells w' g (stSort c l) tail → R w') : SE.slices_SortStableFunc_apiVersionapiVersion data cmp w R := by
  unfold SE.slices_SortStableFunc_apiVersionapiVersion
  have hB' : RowB fc w g (nums 0 l) tail := by
    unfold RowB at hB ⊢
    have : (nums 0 l).map fc = l.map cells := by
      have h := congrArg (List.map cells) (nums_fst 0 l)
      rw [List.map_map] at h; exact h
    rw [this]; exact hB
  refine SE.slices_stableCmpFunc_apiVersion.go (stable_se hO hd hbig hc (by rw [nums_len]; exact hlen) (by rw [nums_len, hlen]) hB' (nums_rise 0 l) fun w2 M b2 hp hs hB2 => ⟨rfl, hR w2 b2 ?_⟩)
  have e := stSort_of hO hp hs
  unfold RowB at hB2 ⊢
  have : M.map fc = (stSort c l).map cells := by rw [← e, List.map_map]; rfl
  rw [← this]; exact hB2
theorem sortStable_nil {data : Sl} {w : World} {R : World → Prop} (h0 : data.len = 0) (hR : R w) : SE.slices_SortStableFunc_apiVersionapiVersion data cmp w R := by
  unfold SE.slices_SortStableFunc_apiVersionapiVersion
  rw [h0]
  refine SE.slices_stableCmpFunc_apiVersion.go ?_
  unfold SE.slices_stableCmpFunc_apiVersion
  refine ⟨fun a b w' => a = 0 ∧ b = 20 ∧ w' = w, fun _ _ _ => 0, ⟨rfl, rfl, rfl⟩, ?_⟩
  rintro _ _ w1 ⟨rfl, rfl, hw1⟩
  subst hw1
  refine ⟨fun h => by simp at h, fun _ => SE.slices_insertionSortCmpFunc_apiVersion.go ?_⟩
  unfold SE.slices_insertionSortCmpFunc_apiVersion
  refine ⟨fun a w' => a = 1 ∧ w' = w1, fun _ _ => 0, ⟨by decide, rfl⟩, ?_⟩
  rintro _ w2 ⟨rfl, hw2⟩
  subst hw2
  refine ⟨fun h => by simp at h, fun _ => ⟨rfl, ?_⟩⟩
  refine ⟨fun a w' => a = 20 ∧ w' = w2, fun _ _ => 0, ⟨rfl, rfl⟩, ?_⟩
  rintro _ w3 ⟨rfl, hw3⟩
  subst hw3
  exact ⟨fun h => by simp at h, fun _ => ⟨rfl, hR⟩⟩
end
end StV
end Go.Hal
namespace Go.Hal
open Go Go.RowKit Go.Proofs Go.Shelf
theorem _root_.Go.RowKit.Below.keepS {lo : Nat} {w w' : World} (h : Below lo w w') {S : Nat → Prop} (hS : ∀ b, S b → b < lo) : Keep S w w' := fun b hb _ => h.block b (hS b hb)
theorem BoxAt.below {lo : Nat} {w w' : World} {a : Addr} {cs : List Value} (hb : BoxAt w a cs) (h : Below lo w w') (hl : a.block < lo) : BoxAt w' a cs := hb.keep (S := fun b => b < lo) hl (h.keepS fun _ h => h)
theorem SlR.below {α : Type} {E : Enc α} {lo : Nat} {w w' : World} {S : Nat → Prop} {s : Sl} {l : List α} (hs : SlR E w S s l) (h : Below lo w w') (hS : ∀ b, S b → b < lo) : SlR E w' S s l := hs.keep (h.keepS hS)
theorem pinEqB (a b : Pin) : ((bEq a.name b.name) && (((a.v.ma == b.v.ma) && ((a.v.mi == b.v.mi) && ((a.v.pa == b.v.pa) && true))) && true)) = decide (a = b) := by
  rw [verEqB, Bool.and_true, Bool.eq_iff_iff, Bool.and_eq_true, bEq_iff, decide_eq_true_eq, decide_eq_true_eq]
  obtain ⟨n, v⟩ := a; obtain ⟨m, u⟩ := b
  simp
theorem idxPinV_se {s : Sl} {l : List Pin} {x : Pin} {S : Nat → Prop} {w : World} {R : Int → World → Prop} (hs : SlR pinE w S s l) (hR : ∀ w', Ext w w' → R (idxI (fun y => decide (x = y)) l) w') : SE.slices_Index_apiPinapiPin s x.name x.v.ma x.v.mi x.v.pa w R := by
  unfold SE.slices_Index_apiPinapiPin
  have hl := hs.len
  refine newS.intro fun a w0 x0 hb _ _ => ?_
  refine loop1.up hs.max (fun i w' => Ext w0 w' ∧ (l.take i).any (fun y => decide (x = y)) = false) ⟨Ext.refl _, rfl⟩ fun i w1 nxt hi ⟨x1, hI⟩ hn => ⟨fun hlt => bnd.drew fun w2 x2 => ?_, fun hge => ?_⟩
  · have hlt' : i < l.length := by omega
    obtain ⟨ad, cs, ha, _, ⟨rfl, _⟩, hc⟩ := hs.el hlt'
    refine ⟨_, _, _, _, hb.at0 (r := []) (x1.trans x2) rfl, ad, ⟨ha, by omega, hlt⟩, _, _, _, _, hc _ (x0.trans (x1.trans x2)), ?_⟩
    rw [pinEqB]
    exact ⟨fun h => by rw [← idxI_hit (p := fun y => decide (x = y)) hlt' hI h]; exact hR _ (x0.trans (x1.trans x2)), fun h => hn hlt' _ ⟨x1.trans x2, by rw [take_any_succ hlt' hI]; exact h⟩⟩
  · have : i = l.length := by omega
    rw [this, List.take_length] at hI
    rw [← idxI_none hI]; exact hR _ (x0.trans x1)
theorem conPinV_se {s : Sl} {l : List Pin} {x : Pin} {S : Nat → Prop} {w : World} {R : Bool → World → Prop} (hs : SlR pinE w S s l) (hR : ∀ w', Ext w w' → R (decide (x ∈ l)) w') : SE.slices_Contains_apiPinapiPin s x.name x.v.ma x.v.mi x.v.pa w R := by
  unfold SE.slices_Contains_apiPinapiPin
  refine newS.intro fun a w0 x0 hb _ _ => ⟨_, _, _, _, hb.ldc.pre (r := []) rfl, SE.slices_Index_apiPinapiPin.go (idxPinV_se (x := x) (hs.ext x0) fun w1 x1 => ⟨_, rfl, ?_⟩)⟩
  rw [idxI_any]
  have : l.any (fun y => decide (x = y)) = decide (x ∈ l) := by
    rw [Bool.eq_iff_iff, List.any_eq_true, decide_eq_true_eq]
    simp
  rw [this]; exact hR _ (x0.trans x1)
theorem catOrder_se {b : Bool} {w : World} {R : Int → World → Prop} (hR : R (ordB b) w) : SE.catalog_order b w R := by
  unfold SE.catalog_order
  exact ⟨fun h => by subst h; exact hR, fun h => by subst h; exact hR⟩
theorem cand1_se {v : Ver} {l : Sl} {ll : List Span} {S : Nat → Prop} {c0 : Addr} {w : World} {R : Bool → World → Prop} (hc : BoxAt w c0 [Sl.v l]) (hl : SlR spanE w S l ll) (hR : ∀ w', Ext w w' → R (!spansIn ll v) w') : SE.catalog_Catalog_Candidates_1 v.ma v.mi v.pa c0 w R := by
  unfold SE.catalog_Catalog_Candidates_1
  refine newS.intro fun a w1 x1 hb _ _ => ⟨l, hc.at0 (r := []) x1 rfl, _, _, _, hb.ldc.pre (r := []) rfl, SE.span_In.go (spanIn_se (v := v) (hl.ext x1) fun w2 x2 => ⟨_, rfl, hR _ (x1.trans x2)⟩)⟩
theorem cand2_se {a b : Ver} {n : ByteArray} {pins : Sl} {lp : List Pin} {S : Nat → Prop} {c0 c1 : Addr} {w : World} {R : Int → World → Prop} (hc0 : BoxAt w c0 [Sl.v pins]) (hc1 : BoxAt w c1 [.string n]) (hp : SlR pinE w S pins lp) (hR : ∀ w', Ext w w' → R (cC lp n a b) w') :
    SE.catalog_Catalog_Candidates_2 a.ma a.mi a.pa b.ma b.mi b.pa c0 c1 w R := by
  unfold SE.catalog_Catalog_Candidates_2
  refine newS.intro fun _ w1 x1 hb _ _ => newS.intro fun _ w2 x2 hb2 _ _ => bnd.drew fun w3 x3 => ?_
  have x13 := x2.trans x3
  have x03 := x1.trans x13
  refine ⟨pins, hc0.at0 (r := []) x03 rfl, n, hc1.at0 (r := []) x03 rfl, _, _, _, hb2.at0 (r := []) x3 rfl, pins, hc0.at0 (r := []) x03 rfl, n, hc1.at0 (r := []) x03 rfl, _, _, _, hb.at0 (r := []) x13 rfl, ?_⟩
  refine callX.intro (SE.slices_Contains_apiPinapiPin.go (conPinV_se (x := ⟨n, b⟩) (hp.ext x03) fun w4 x4 => ⟨x4, _, rfl, callX.intro (SE.catalog_order.go (catOrder_se ⟨Ext.refl _, _, rfl, ?_⟩))⟩))
  refine SE.slices_Contains_apiPinapiPin.go (conPinV_se (x := ⟨n, a⟩) (hp.ext (x03.trans x4)) fun w5 x5 => ⟨_, rfl, SE.catalog_order.go (catOrder_se ⟨_, rfl, ?_⟩)⟩)
  have e : wrapI (ordB (decide ((⟨n, b⟩ : Pin) ∈ lp)) - ordB (decide ((⟨n, a⟩ : Pin) ∈ lp))) = cC lp n a b := by
    rw [wrapI_eq] <;> unfold ordB
    · rfl
    · split <;> split <;> omega
    · split <;> split <;> omega
  rw [e]; exact hR _ (x03.trans (x4.trans x5))
theorem enters_c1 : Enters Tryz.prog 68 := enters_of Tryz.func68 (by kernel_rfl) rfl
theorem enters_c2 : Enters Tryz.prog 70 := enters_of Tryz.func70 (by kernel_rfl) rfl
set_option maxHeartbeats 1000000 in
theorem catCands_se {n : ByteArray} {l pins : Sl} {ll : List Span} {lp : List Pin} {S S1 S2 : Nat → Prop} {p : Addr} {r : Nat} {L : List Pack} {w : World} {R : Sl → World → Prop} (hC : CatL w S p r L) (hS1 : Old S1 w) (hS2 : Old S2 w) (hl : SlR spanE w S1 l ll) (hp : SlR pinE w S2 pins lp)
    (hR : ∀ t w', Ext w w' → FlatO Ver.c 24 w' w.heap.size t (cands L n ll lp) → R t w') : SE.catalog_Catalog_Candidates (some p) n l pins w R := by
  unfold SE.catalog_Catalog_Candidates
  refine newS.intro fun a w1 x1 hb _ _ => newS.intro fun a1 w2 x2 hb1 _ _ => newS.intro fun a3 w3 x3 hb3 _ _ => ?_
  have x03 := x1.trans (x2.trans x3)
  have hb' := hb.ext (x2.trans x3)
  have hb1' := hb1.ext x3
  refine ⟨n, hb'.ldc.pre (r := []) rfl, SE.catalog_Catalog_Versions.go (catVersions_se (hC.ext x03) fun t w4 x4 hF => ⟨_, rfl, ?_⟩)⟩
  have s4 := x4.size
  refine SE.slices_DeleteFunc_apiVersionapiVersion.go (deleteVer_se (d := fun v => !spansIn ll v) hF s4 (fun x _ w' k hw hk => ?_) fun t2 w5 b5 hF5 => ⟨_, rfl, ?_⟩)
  · refine ⟨_, _, rfl, enters_c1, SE.catalog_Catalog_Candidates_1.go (cand1_se (v := x) (l := l) (ll := ll) (S := S1) ?_ ?_ hk)⟩
    · exact (hb1'.ext x4).below hw hb1'.lt
    · exact (hl.ext (x03.trans x4)).below hw fun b hb => Nat.lt_of_lt_of_le (hS1 b hb) x03.size
  · have e : (versOf n L).filter (fun x => !(!spansIn ll x)) = (versOf n L).filter (spansIn ll) := by simp
    rw [e] at hF5
    have xB : Below w3.heap.size w3 w5 := Below.trans x4 b5
    have fin : ∀ w6, Below w3.heap.size w3 w6 → FlatO Ver.c 24 w6 w3.heap.size t2 (cands L n ll lp) → callS Tryz.prog 66 [Sl.v t2] w6 (fun v13 w12 => ∃ t19 : Sl, v13 = Sl.v t19 ∧ R t19 w12) := fun w6 b6 hF6 => by
      refine SE.slices_Clip_apiVersionapiVersion.go ⟨⟨by omega, by omega, by omega, by have := hF6.1; have := hF6.2.1; omega⟩, _, rfl, hR _ _ (x03.trans b6) ?_⟩
      obtain ⟨a, b, c, d, e⟩ := hF6.clip (k := 3)
      exact ⟨a, b, c, d, e.imp id fun ⟨g, tail, a, b, c⟩ => ⟨g, tail, a, Nat.le_trans x03.size b, c⟩⟩
    obtain ⟨k1, k2, k3, k4, k5⟩ := hF5
    rcases k5 with k5 | ⟨g, tail, ha, hg, hr⟩
    · refine SE.slices_SortStableFunc_apiVersionapiVersion.go (StV.sortStable_nil (by rw [k1, k5]; rfl) ⟨rfl, fin w5 xB ?_⟩)
      have : cands L n ll lp = [] := by rw [← cands_sort, k5]; rfl
      rw [this]
      rw [k5] at k1 k2
      exact ⟨k1, k2, k3, by simp, .inl rfl⟩
    · refine SE.slices_SortStableFunc_apiVersionapiVersion.go (StV.sortStable_se (cC_ord lp n) ha (by rw [k1]; unfold room at k4; omega) (fun x y w' k hw hk => ?_) k1 hr fun w6 b6 hr6 => ⟨rfl, fin w6 (Below.trans xB (b6.below (by have := xB.size; omega) hg)) ?_⟩)
      · have hwB : Below w3.heap.size w3 w' := Below.trans xB (hw.below (by have := xB.size; omega) hg)
        refine ⟨_, _, rfl, enters_c2, SE.catalog_Catalog_Candidates_2.go (cand2_se (a := x) (b := y) (n := n) (pins := pins) (lp := lp) (S := S2) ?_ ?_ ?_ hk)⟩
        · exact hb3.below hwB hb3.lt
        · exact hb'.below hwB (Nat.lt_of_lt_of_le hb'.lt (Nat.le_refl _))
        · exact (hp.ext x03).below hwB fun b hb => Nat.lt_of_lt_of_le (hS2 b hb) x03.size
      · rw [cands_sort] at hr6
        have hl2 : (cands L n ll lp).length = ((versOf n L).filter (spansIn ll)).length := by rw [← cands_sort]; exact (stSort_perm _).length_eq
        exact ⟨by rw [hl2]; exact k1, by rw [hl2]; exact k2, k3, by rw [hl2]; exact k4, .inr ⟨g, tail, ha, hg, hr6⟩⟩
end Go.Hal
namespace Go.Hal
open Go Go.RowKit Go.Proofs Go.Shelf
structure PackC where
  name : ByteArray
  v : Ver
  d : Sl
  e : Sl
  o : Sl
instance : Inhabited PackC := ⟨⟨⟨#[]⟩, ⟨0, 0, 0⟩, Sl.nil, Sl.nil, Sl.nil⟩⟩
def PackC.c (x : PackC) : List Value := [.string x.name, .int .i64 x.v.ma, .int .i64 x.v.mi, .int .i64 x.v.pa, x.d.v, x.e.v, x.o.v]
def cPC (a b : PackC) : Int := or2 (cmpS a.name b.name) (b.v.cmp a.v)
theorem cPC_ord : Ord3 cPC := (cmpS_ord PackC.name).or ((Ver.cmp_ord.comap PackC.v).swap)
theorem cmpOr2_se {s : Sl} {x y : Int} {S : Nat → Prop} {w : World} {R : Int → World → Prop} (hs : SlR intE w S s [x, y]) (hR : R (or2 x y) w) : SE.cmp_Or_int s w R :=
  cmpOr_se hs (by
    have : [x, y].foldr or2 0 = or2 x y := by
      show or2 x (or2 y 0) = _
      have : or2 y 0 = y := by unfold or2; split <;> simp_all
      rw [this]
    rw [this]; exact hR)
theorem all1_gr {a b : PackC} {w : World} {R : Int → World → Prop} (hR : ∀ w', Gr w w' → R (cPC a b) w') : SE.catalog_Catalog_All_1 a.name a.v.ma a.v.mi a.v.pa a.d a.e a.o b.name b.v.ma b.v.mi b.v.pa b.d b.e b.o w R := by
  unfold SE.catalog_Catalog_All_1
  refine newS.gr fun _ w1 x1 hb => newS.gr fun _ w2 x2 hb2 => bnd.gr fun w3 x3 => ?_
  have x13 := x2.trans x3
  refine ⟨_, Gr.at0 hb x13 rfl, _, Gr.at0 hb2 x3 rfl, _, _, _, Gr.at1 hb x13 rfl, _, _, _, Gr.at1 hb2 x3 rfl, ?_⟩
  refine callX.intro (SE.cmp_Compare_string.go (cmpStr_se ⟨Ext.refl _, _, rfl, SE.catalog_falling.go (falling_gr (a := a.v) (b := b.v) fun w4 x4 => ⟨_, rfl, ?_⟩)⟩))
  exact newS.gr fun _ w5 x5 hb5 => SE.cmp_Or_int.go (cmpOr2_se (box_ints (l := [_, _]) hb5 (by simp)) ⟨_, rfl, hR _ (x1.trans (x13.trans (x4.trans x5)))⟩)
theorem entersAll1 : Enters Tryz.prog 75 := enters_of Tryz.func75 (by kernel_rfl) rfl
theorem isAggK : ∀ w, (isAgg 48).run Tryz.prog w = .ok true w := fun w => by kernel_rfl
theorem sizeOfK : ∀ w, (Go.sizeOf 48).run Tryz.prog w = .ok 7 w := fun w => by kernel_rfl
theorem sortPack_k {w : World} {g cap : Nat} {l : List PackC} {tail : List Value} {K : Value → World → Prop} (hR : RowB PackC.c w g l tail) (hsz : l.length < 4611686018427387904)
    (hK : ∀ l' w', l'.Perm l → l'.Pairwise (fun x y => ¬ cPC y x < 0) → But g w w' → RowB PackC.c w' g l' tail → K (.tuple #[]) w') :
    callS Tryz.prog 74 [Sl.v ⟨some ⟨g, 0, none⟩, l.length, cap⟩, .func (.func 75) #[] #[]] w K := by
  refine sortFunc_k Tryz.laySk (k := 7) isAggK sizeOfK (f := PackC.c) (fun _ => rfl) (fun x v hv => by simp [PackC.c, Sl.v] at hv; rcases hv with rfl | rfl | rfl | rfl | rfl | rfl | rfl <;> rfl) cPC (swo_ltOf cPC_ord.flip cPC_ord.trans) 75 #[] entersAll1 (fun w0 x y hb _ => ?_) hR hsz rfl hK
  have h := SE.catalog_Catalog_All_1.go (k := fun v w' => v = .int .i64 (cPC x y) ∧ Gr w0 w') (all1_gr (a := x) (b := y) (w := w0) fun w' h => ⟨rfl, h⟩)
  exact Calls.mono h fun e w' ⟨v, he, hv, hg⟩ => ⟨by rw [he, hv], hg⟩
theorem apPack : ApT Tryz.prog 22 48 7 112 := apT_mk (z := .agg #[.string ⟨#[]⟩, .int .i64 0, .int .i64 0, .int .i64 0, .slice none 0 0, .slice none 0 0, .slice none 0 0]) (by kernel_rfl) (by kernel_rfl) rfl (by decide)
theorem cP_sorted_one {l L : List Pack} (hp : l.Perm L) (hL : OrdL L) (hs : l.Pairwise fun x y => ¬ cP y x < 0) : l = L := by
  have hn := hp.nodup_iff.2 hL.nodup
  rw [List.nodup_iff_pairwise_ne] at hn
  refine sorted_one (R := fun a b : Pack => cP a b < 0) (fun x y a b => ?_) ((hs.and hn).imp_of_mem fun {a b} ha hb h => ?_) hL hp
  · have := cP_ord.flip x y; omega
  · have h0 : cP a b ≠ 0 := fun e => h.2 (hL.key (hp.mem_iff.1 ha) (hp.mem_iff.1 hb) (cP_zero.1 e).1 (cP_zero.1 e).2)
    have := cP_ord.flip a b; have := cP_ord.flip b a; omega
set_option maxHeartbeats 2000000 in
theorem catAll_se {S : Nat → Prop} {p : Addr} {r : Nat} {L : List Pack} {w : World} {R : Sl → World → Prop} (hC : CatL w S p r L)
    (hR : ∀ t w', Ext w w' → SlP packP w' (fun b => w.heap.size ≤ b ∧ b < w'.heap.size) t L → R t w') : SE.catalog_Catalog_All (some p) w R := by
  unfold SE.catalog_Catalog_All
  obtain ⟨ps, hC, hp, hg⟩ := hC
  obtain ⟨m, hm, hl, hel⟩ := hC.map
  refine ⟨p, rfl, some r, hC.box.ldc, range_intro Tryz.underlying101 hm fun it w1 x1 hit hI => ⟨_, rfl, ?_⟩⟩
  obtain ⟨z0, hz1, hz2, hz3⟩ := ents hl hel
  have hw1 := hI.lt
  have hlen : ps.length ≤ 128 := by rw [← hp.length_eq]; exact hg.le
  have hEb : packP.bytes = 112 := rfl
  refine loop1.ghost (fun k out w' => ∃ (z : List (Pack × (Value × Value))) (vis : List Pack) (last : Option (Value × Value)) (Q : Nat → Prop), k = z.length ∧ IterR w' it r (z.map Prod.snd) last ∧ (∀ q ∈ z, EntR w S q.1 q.2) ∧ (vis ++ z.map Prod.fst).Perm ps ∧ Ext w w' ∧ w1.heap.size ≤ w'.heap.size ∧ OwnS packP 48 w' w1.heap.size Q out vis ∧ (∀ b, Q b → w1.heap.size ≤ b)) _
    ⟨z0, [], none, None', rfl, by rw [hz2]; exact hI, hz3, by rw [hz1]; exact List.Perm.refl _, x1, Nat.le_refl _, OwnS.zero w1, fun _ h => h.elim⟩ fun k out w2 nxt ⟨z, vis, last, Q, hk, hI2, hz, hpz, x2, hs2, own, hQ⟩ hn => ?_
  have hvl : vis.length ≤ 128 := by have := hpz.length_eq; rw [List.length_append] at this; omega
  refine next_intro hI2 (fun h0 => ?_) fun q l1 l2 w3 hq hb3 hsz3 bt3 hI3 => ?_
  · have hz0 : z = [] := List.map_eq_nil_iff.1 h0
    subst hz0
    rw [List.map_nil, List.append_nil] at hpz
    refine ⟨false, ⟨#[]⟩, 0, 0, 0, ⟨#[]⟩, 0, 0, 0, Sl.nil, Sl.nil, Sl.nil, rfl, (fun h => by cases h), fun _ => ?_⟩
    have hol := own.len
    have s1 := x1.size
    have hf : ∀ (x : Pack) cs, packP.rep w2 Q x cs → ∃ y : PackC, cs = y.c ∧ (y.name = x.name ∧ y.v = x.v ∧ packP.rep w2 Q x y.c) := fun x cs h => by
      obtain ⟨hN, d, e, o, rfl, a, b, c⟩ := h
      exact ⟨⟨x.name, x.v, d, e, o⟩, rfl, rfl, rfl, hN, d, e, o, rfl, a, b, c⟩
    rcases OwnS.rowG PackC.c (fun (y : PackC) (x : Pack) => y.name = x.name ∧ y.v = x.v ∧ packP.rep w2 Q x y.c) hf own with ⟨ho, hv⟩ | ⟨g, zz, tail, ha, hgl, hzz, hrel, hrow, hcap, hmax⟩
    · subst ho hv
      have hL0 : L = [] := by
        have := hpz.length_eq.trans hp.length_eq.symm
        exact List.eq_nil_of_length_eq_zero this.symm
      subst hL0
      refine (AnyF.slices_SortFunc_none Tryz.laySk none 0 _ w2).mono fun e w' ⟨he, hw⟩ => ⟨_, he, rfl, ?_⟩
      subst hw
      refine SE.slices_Clip_apiPackageapiPackage.go ⟨⟨by decide, by decide, by decide, by decide⟩, _, rfl, hR _ _ x2 ?_⟩
      exact SlP.nil
    · obtain ⟨oa, on, oc⟩ := out
      simp only at ha hol hcap hmax
      subst ha
      have hzl : zz.length = vis.length := by rw [← hzz, List.length_map]
      have e1 : on = (zz.map Prod.fst).length := by rw [List.length_map, hzl]; exact hol
      subst e1
      refine sortPack_k hrow (by rw [List.length_map]; omega) fun l' w3 hp3 hs3 b3 hr3 => ⟨rfl, ?_⟩
      obtain ⟨zs, hzp, rfl⟩ := perm_lift Prod.fst hp3 zz rfl
      have hrel' : ∀ p ∈ zs, p.1.name = p.2.name ∧ p.1.v = p.2.v ∧ packP.rep w2 Q p.2 p.1.c := fun p hp => hrel p (hzp.mem_iff.1 hp)
      have hperm : (zs.map Prod.snd).Perm L := ((hzp.map _).trans (by rw [hzz]; exact hpz)).trans hp.symm
      have hsorted : (zs.map Prod.snd).Pairwise fun x y => ¬ cP y x < 0 := by
        rw [List.pairwise_map] at hs3 ⊢
        refine hs3.imp_of_mem fun {a b} ha hb h => ?_
        obtain ⟨a1, a2, _⟩ := hrel' a ha; obtain ⟨b1, b2, _⟩ := hrel' b hb
        unfold cPC at h; unfold cP
        rw [← a1, ← a2, ← b1, ← b2]; exact h
      have hLe := cP_sorted_one hperm hg.ord hsorted
      have hzsl : zs.length = zz.length := hzp.length_eq
      have hQg : ¬ Q g := own.apart _ rfl
      have hread := RowB.readP (E := packP) (S := Q) (cap := zs.length) hr3 (fun _ => rfl) (fun p hp => packP.keep (hrel' p hp).2.2 (b3.keep hQg)) (Nat.le_refl _) (by rw [maxLen_eq]; omega) (by rw [hEb]; unfold room; omega)
      rw [hLe] at hread
      have x3 : Ext w w3 := x2.trans' (b3.below x2.size (by omega))
      have hlow : ∀ b, (Q b ∨ b = g) → (w.heap.size ≤ b ∧ b < w3.heap.size) := fun b hb => by
        have := b3.size
        have hgl3 := hrow.lt
        rcases hb with hb | rfl
        · have := hQ b hb; have := own.lt b hb; exact ⟨by omega, by omega⟩
        · exact ⟨by omega, by omega⟩
      refine SE.slices_Clip_apiPackageapiPackage.go ⟨⟨by omega, by omega, by omega, by show ((zz.map Prod.fst).length : Int) ≤ (oc : Int); rw [List.length_map]; omega⟩, _, rfl, hR _ _ x3 ?_⟩
      have e2 : (Sl.mk (if ((((zz.map Prod.fst).length : Nat) : Int)).toNat = 0 then (some ⟨g, 0, none⟩ : Option Addr) else (some ⟨g, 0, none⟩ : Option Addr).map (·.add (0 * 7))) (((((zz.map Prod.fst).length : Nat) : Int)).toNat - 0) (((((zz.map Prod.fst).length : Nat) : Int)).toNat - 0)) = ⟨some ⟨g, 0, none⟩, zs.length, zs.length⟩ := by
        rw [List.length_map, hzsl, Int.toNat_natCast, Nat.sub_zero]
        split <;> rfl
      rw [e2]
      exact hread.mono hlow
  · obtain ⟨z1, x, z2, hze, e1, e2⟩ := getmap (γ := Unit) hq
    subst hze
    obtain ⟨d, e, o, hkv, hN, hd, he, ho⟩ := hz (x, q) (by simp)
    simp only at hkv
    subst hkv
    have hitw : w.heap.size ≤ it := by omega
    have x3 : Ext w w3 := bt3.ext x2 hitw
    have own3 := own.but bt3 (fun h => by have := hQ _ h; omega) (fun ad ha => by have := (own.block ha).1; omega)
    refine ⟨true, x.name, x.v.ma, x.v.mi, x.v.pa, x.name, x.v.ma, x.v.mi, x.v.pa, d, e, o, rfl, fun _ => ?_, (fun h => by cases h)⟩
    refine ⟨x.name, x.v.ma, x.v.mi, x.v.pa, x.name, x.v.ma, x.v.mi, x.v.pa, d, e, o, fun w' hx => entry_run (hI3.ext hx), newS.intro fun a w4 x4 hb4 ha4 _ => stw0.intro hb4 (by simp) fun w5 b5 _ hb5 => ⟨_, _, _, _, _, _, _, hb5.ldc.pre rfl, ?_⟩⟩
    have s3 := x3.size
    have s4 := x4.size
    have x35 : Ext w3 w5 := b5.ext x4 (by omega)
    have s5 := x35.size
    have hzz : ∀ q ∈ z1 ++ z2, EntR w S q.1 q.2 := fun q hq => hz q (by
      rcases List.mem_append.1 hq with h | h
      · exact List.mem_append_left _ h
      · exact List.mem_append_right _ (.tail _ h))
    have hpp : ((vis ++ [x]) ++ (z1 ++ z2).map Prod.fst).Perm ps := by
      refine List.Perm.trans ?_ hpz
      rw [List.append_assoc, List.map_append, List.map_append, List.map_cons, List.singleton_append]
      exact List.perm_middle.symm.append_left vis
    have hlz : (z1 ++ z2).length < (z1 ++ (x, keyV x.name x.v, packVal x d e o) :: z2).length := by simp
    have hIz : ∀ w', IterR w' it r (l1 ++ l2) (some (keyV x.name x.v, packVal x d e o)) → IterR w' it r ((z1 ++ z2).map Prod.snd) (some (keyV x.name x.v, packVal x d e o)) := fun w' h => by rw [List.map_append, e1, e2]; exact h
    have x05 := x3.trans x35
    refine SE.catalog_copied.go (copied_se (p := x) (S := S) (hC.old.ext x05.size) (hd.ext x05) (he.ext x05) (ho.ext x05) fun d' e' o' w6 x6 hd' he' ho' => ⟨_, _, _, _, _, _, _, rfl, newS.intro fun a7 w7 x7 hb7 _ _ => ?_⟩)
    have x36 := x35.trans x6
    have x37 := x36.trans x7
    have s6 := x6.size; have s7 := x7.size
    have hml : (vis.length + 1) * packP.bytes ≤ room := by rw [hEb]; unfold room; omega
    have hdl : ∀ b, (w5.heap.size ≤ b ∧ b < w6.heap.size) → b < w7.heap.size := fun b hb => by omega
    refine (own3.ext x37).push (x := x) (S' := fun b => w5.heap.size ≤ b ∧ b < w6.heap.size) apPack (by omega) ⟨hN, d', e', o', rfl, hd'.ext x7, he'.ext x7, ho'.ext x7⟩ hb7.ldc hdl (fun ad ha hb => by have := (own3.block ha).2.1; omega) hml (by rw [maxLen_eq]; omega) fun t w8 own8 bel8 _ _ => ?_
    refine hn _ _ _ (by rw [hk]; exact hlz) ⟨z1 ++ z2, vis ++ [x], _, _, rfl, hIz _ (((hI3.ext x37).of (bel8.block r (by have := hm.lt; omega)) (bel8.block it (by omega)))), hzz, hpp, (x3.trans x37).trans' (Below.mono bel8 (by omega)), by have := bel8.size; omega, own8, fun b hb => ?_⟩
    rcases hb with hb | hb
    · exact hQ b hb
    · omega
end Go.Hal
namespace Go.Hal
open Go Go.RowKit Go.Proofs Go.Shelf
end Go.Hal
namespace Go.Hal
open Go Go.RowKit Go.Proofs Go.Shelf
def pinC (p : Pin) : List Value := [.string p.name, .int .i64 p.v.ma, .int .i64 p.v.mi, .int .i64 p.v.pa]
def Apart (s t : Sl) : Prop := ∀ ad ad', s.a = some ad → t.a = some ad' → ad.block ≠ ad'.block
theorem OwnS.pushA {α β : Type} {E : Enc α} {F : Enc β} {P : Program} {w : World} {t e e2 : TypeId} {lo : Nat} {s s2 : Sl} {l : List α} {l2 : List β} {x : α} {cs : List Value} {a : Addr} {k : Sl → World → Prop} (h : OwnS E e w lo None' s l) (h2 : OwnS F e2 w lo None' s2 l2) (hA : Apart s s2) (hlo : lo ≤ w.heap.size) (hT : ApT P t e E.n E.bytes)
    (hx : E.rep w None' x cs) (hc : ldc w a cs) (hb : (l.length + 1) * E.bytes ≤ room) (hm : l.length + 1 ≤ maxLen) (hk : ∀ r w', OwnS E e w' lo None' r (l ++ [x]) → OwnS F e2 w' lo None' s2 l2 → Apart r s2 → Below lo w w' → (∀ b, b < w.heap.size → (∀ ad, s.a = some ad → b ≠ ad.block) → w'.heap[b]? = w.heap[b]?) → (∀ ad, r.a = some ad → (s.a = some ad ∨ w.heap.size ≤ ad.block)) → k r w') : appS P t t s (Sl.v ⟨some a, 1, 1⟩) w k := by
  refine h.push hT hlo hx hc (fun _ h => h.elim) (fun _ _ h => h.elim) hb hm fun r w' own bel oth reg => hk r w' (own.mono (fun _ h => h.elim id id) (fun _ h => h.elim) (fun _ _ h => h.elim)) (h2.keep bel.size fun b hbl hb' => ?_) (fun ad ad' h3 h4 => ?_) bel oth reg
  · rcases hb' with hb' | ⟨ad, ha, rfl⟩
    · exact hb'.elim
    · exact oth _ hbl fun ad' h' => Ne.symm (hA _ _ h' ha)
  · rcases reg ad h3 with h5 | h5
    · exact hA _ _ h5 h4
    · have := (h2.block h4).2.1; omega
theorem Apart.swap {s t : Sl} (h : Apart s t) : Apart t s := fun a b h1 h2 => Ne.symm (h b a h2 h1)
end Go.Hal
namespace Go.Hal
open Go Go.RowKit Go.Proofs Go.Shelf
theorem pinEl {w : World} {S : Nat → Prop} {s : Sl} {l : List Pin} (h : SlR pinE w S s l) {n : Nat} (hn : n < l.length) :
    ∃ ad, s.a = some ad ∧ S ad.block ∧ Str l[n].name ∧ ∀ w', Ext w w' → ldc w' (ad.add (n * 4)) (pinC l[n]) := by
  obtain ⟨ad, cs, h1, h2, ⟨rfl, h3⟩, h4⟩ := h.el hn
  exact ⟨ad, h1, h2, h3, h4⟩
def ctxRes (L : List Pack) (over : List Dep) (env : List Pin) (p : Pin) : Option (List Pin) := ctx (getL L) over env p
def Kp (lo c d : Nat) (w w' : World) : Prop := Below lo w w' ∧ ∀ b, c ≤ b → b < d → w'.heap[b]? = w.heap[b]?
end Go.Hal
namespace Go.Hal
open Go Go.RowKit Go.Proofs
theorem SlR.cut {α : Type} {E : Enc α} {w : World} {S : Nat → Prop} {s : Sl} {l : List α} (h : SlR E w S s l) {a b : Nat} (hab : a ≤ b) (hb : b ≤ l.length) : SlR E w S (Sl.cut s a b E.n) ((l.take b).drop a) := by
  obtain ⟨h1, h2, h3, h4, h5⟩ := h
  have hl : ((l.take b).drop a).length = b - a := by rw [List.length_drop, List.length_take]; omega
  refine ⟨by rw [hl]; rfl, by rw [hl]; show b - a ≤ s.cap - a; omega, by show s.cap - a ≤ _; omega, ?_, ?_⟩
  · rw [hl]; exact Nat.le_trans (Nat.mul_le_mul_right _ (by omega)) h4
  · by_cases h0 : b - a = 0
    · exact .inl (List.eq_nil_of_length_eq_zero (by omega))
    · rcases h5 with h5 | ⟨ad, ha, hS, hr⟩
      · subst h5; simp at hb; omega
      · refine .inr ⟨ad.add (a * E.n), ?_, by rw [add_block]; exact hS, fun i x hx => ?_⟩
        · show (if s.cap = a then s.a else _) = _
          rw [if_neg (by omega), ha]; rfl
        · rw [List.getElem?_drop] at hx
          rw [List.getElem?_take] at hx
          split at hx
          · obtain ⟨cs, k1, k2⟩ := hr (a + i) x hx
            exact ⟨cs, k1, by rw [add_add, ← Nat.add_mul]; exact k2⟩
          · cases hx
theorem packEl {w : World} {S : Nat → Prop} {s : Sl} {l : List Pack} (h : SlR packE w S s l) {n : Nat} (hn : n < l.length) :
    ∃ ad d e o, s.a = some ad ∧ S ad.block ∧ Str l[n].name ∧ SlR depE w S d l[n].deps ∧ SlR depE w S e l[n].peers ∧ SlR depE w S o l[n].opt ∧ ∀ w', Ext w w' → ldc w' (ad.add (n * 7)) [.string l[n].name, .int .i64 l[n].v.ma, .int .i64 l[n].v.mi, .int .i64 l[n].v.pa, d.v, e.v, o.v] := by
  obtain ⟨ad, cs, h1, h2, ⟨h0, d, e, o, rfl, a, b, c⟩, h4⟩ := h.el hn
  exact ⟨ad, d, e, o, h1, h2, h0, a, b, c, h4⟩
structure RefR (w : World) (S : Nat → Prop) (q : Addr) (L : List Pack) : Prop where
  at_ : ∃ s, BoxAt w q [Sl.v s] ∧ SlR packE w S s L
  free : ¬ S q.block
  old : Old S w
  good : GoodL L
theorem RefR.ext {w w' : World} {S : Nat → Prop} {q : Addr} {L : List Pack} (h : RefR w S q L) (hx : Ext w w') : RefR w' S q L := by
  obtain ⟨s, a, b⟩ := h.at_
  exact ⟨⟨s, a.ext hx, b.ext hx⟩, h.free, h.old.ext hx.size, h.good⟩
theorem RefR.stay {w w' : World} {S : Nat → Prop} {q : Addr} {L : List Pack} (h : RefR w S q L) (hsz : w.heap.size ≤ w'.heap.size) (hk : ∀ b, b < w.heap.size → (S b ∨ b = q.block) → w'.heap[b]? = w.heap[b]?) : RefR w' S q L := by
  obtain ⟨s, a, b⟩ := h.at_
  exact ⟨⟨s, a.keep (S := fun b => b = q.block) rfl fun b hb hl => hk b hl (.inr hb), b.keep fun b hb hl => hk b hl (.inl hb)⟩, h.free, h.old.ext hsz, h.good⟩
theorem take_find_succ {α : Type} {p : α → Bool} {l : List α} {n : Nat} (hn : n < l.length) (h0 : (l.take n).find? p = none) : (l.take (n + 1)).find? p = if p l[n] then some l[n] else none := by
  rw [List.take_succ_eq_append_getElem hn, List.find?_append, h0]
  simp only [Option.none_or, List.find?_cons, List.find?_nil]
  cases p l[n] <;> rfl
theorem find_hit {α : Type} {p : α → Bool} {l : List α} {n : Nat} (hn : n < l.length) (h0 : (l.take n).find? p = none) (h : p l[n] = true) : l.find? p = some l[n] := by
  have e : l.find? p = (l.take (n + 1) ++ l.drop (n + 1)).find? p := by rw [List.take_append_drop]
  rw [e, List.find?_append, take_find_succ hn h0, if_pos h]; rfl
set_option maxHeartbeats 1000000 in
theorem r08Get_se {n : ByteArray} {v : Ver} {S : Nat → Prop} {q : Addr} {L : List Pack} {w : World} {R : ByteArray → Int → Int → Int → Sl → Sl → Sl → Bool → World → Prop} (hC : RefR w S q L)
    (hR : ∀ d e o w', Ext w w' → Str (getD L n v).name → SlR depE w' S d (getD L n v).deps → SlR depE w' S e (getD L n v).peers → SlR depE w' S o (getD L n v).opt →
      R (getD L n v).name (getD L n v).v.ma (getD L n v).v.mi (getD L n v).v.pa d e o (getL L n v).isSome w') : SE.halyardref08_Catalog_Get (some q) n v.ma v.mi v.pa w R := by
  unfold SE.halyardref08_Catalog_Get
  obtain ⟨s, hb, hs⟩ := hC.at_
  have hl := hs.len
  refine newS.intro fun a w1 x1 ha _ _ => newS.intro fun a1 w2 x2 ha1 hab _ => ?_
  have x02 := x1.trans x2
  have s02 := x02.size
  refine loop1.up hs.max (fun i w' => Ext w2 w' ∧ (L.take i).find? (sameKey n v) = none) ⟨Ext.refl _, rfl⟩ fun i w3 nxt hi ⟨x3, hI⟩ hn => ?_
  have x03 := x02.trans x3
  refine ⟨q, rfl, s, hb.at0 (r := []) x03 rfl, fun hlt => bnd.drew fun w4 x4 => ?_, fun hge => ?_⟩
  · have hlt' : i < L.length := by omega
    have x04 := x03.trans x4
    obtain ⟨ad, d, e, o, hsa, _, hN, hd, he, ho, hc⟩ := packEl hs hlt'
    refine ⟨q, rfl, s, hb.at0 (r := []) x04 rfl, ad, ⟨hsa, by omega, hlt⟩, _, (hc _ x04).pre rfl, bound ⟨q, fun _ => rfl, s, fun _ => hb.at0 (r := []) x04 rfl, ad, fun _ => ⟨hsa, by omega, hlt⟩, _, _, _, fun _ => (hc _ x04).mid rfl, _, _, _, fun _ => ha.at0 (r := []) (x2.trans (x3.trans x4)) rfl, ?_⟩⟩
    rw [verEqB]
    have ek : (bEq L[i].name n && decide (L[i].v = v)) = sameKey n v L[i] := by
      unfold sameKey
      rw [Bool.eq_iff_iff, Bool.and_eq_true, bEq_iff, decide_eq_true_eq, decide_eq_true_eq]
    rw [ek]
    refine ⟨fun h => ?_, fun h => hn hlt' _ ⟨x3.trans x4, by rw [take_find_succ hlt' hI, h]; rfl⟩⟩
    refine ⟨q, rfl, s, hb.at0 (r := []) x04 rfl, ad, ⟨hsa, by omega, hlt⟩, _, _, _, _, _, _, _, (hc _ x04).pre (r := []) rfl, stw0.intro (ha1.ext (x3.trans x4)) (by simp) fun w5 b5 _ hb5 => ⟨_, _, _, _, _, _, _, hb5.ldc.pre rfl, ?_⟩⟩
    have hg : getL L n v = some L[i] := find_hit hlt' hI h
    have x5 : Ext w w5 := b5.ext x04 (by have := x1.size; omega)
    have hR' := hR d e o w5 x5
    have hgd : getD L n v = L[i] := by unfold getD; rw [hg]; rfl
    rw [hgd, hg] at hR'
    exact hR' hN (hd.ext x5) (he.ext x5) (ho.ext x5)
  · have : i = L.length := by omega
    rw [this, List.take_length] at hI
    refine stw0.intro (ha1.ext x3) (by simp) fun w5 b5 _ hb5 => ⟨_, _, _, _, _, _, _, hb5.ldc.pre rfl, ?_⟩
    have hg : getL L n v = none := hI
    have x5 : Ext w w5 := b5.ext x03 (by have := x1.size; omega)
    have hR' := hR Sl.nil Sl.nil Sl.nil w5 x5
    have hgd : getD L n v = zeroP := by unfold getD; rw [hg]; rfl
    rw [hgd, hg] at hR'
    exact hR' (by unfold Str; exact Nat.zero_le _) (SlR.nil trivial) (SlR.nil trivial) (SlR.nil trivial)
theorem r08ahead_se {a b : Pack} {d1 e1 o1 d2 e2 o2 : Sl} {w : World} {R : Bool → World → Prop} (hN : Str a.name) (hR : ∀ w', Ext w w' → R (aheadP a b) w') : SE.halyardref08_ahead a.name a.v.ma a.v.mi a.v.pa d1 e1 o1 b.name b.v.ma b.v.mi b.v.pa d2 e2 o2 w R := by
  unfold SE.halyardref08_ahead
  refine newS.intro fun _ w1 x1 hb _ _ => newS.intro fun _ w2 x2 hb2 _ _ => ?_
  refine ⟨_, hb.at0 x2 rfl, _, hb2.at0 (Ext.refl _) rfl, fun hne => ⟨_, hb.at0 x2 rfl, _, hb2.at0 (Ext.refl _) rfl, SE.halyardref05_Less.go (r05less_se hN fun w3 x3 => ⟨_, rfl, ?_⟩)⟩, fun he => ⟨_, _, _, hb.at1 x2 rfl, _, _, _, hb2.at1 (Ext.refl _) rfl, SE.halyardref02_Compare.go (r02Compare_se (a := a.v) (b := b.v) fun w3 x3 => ⟨_, rfl, ?_⟩)⟩⟩
  · have e : aheadP a b = bLt a.name b.name := by
      unfold aheadP cP
      rw [Bool.eq_iff_iff, decide_eq_true_eq, or2_lt, cmpS_lt]
      constructor
      · rintro (h | ⟨h, _⟩)
        · exact h
        · exact absurd (cmpS_zero.1 h) hne
      · exact .inl
    rw [← e]; exact hR _ (x1.trans (x2.trans x3))
  · have he := Classical.not_not.1 he
    have e : aheadP a b = decide (0 < a.v.cmp b.v) := by
      unfold aheadP cP
      rw [decide_eq_decide, or2_lt, he, cmpS_zero.2 rfl]
      have := Ver.cmp_ord.flip b.v a.v
      omega
    rw [← e]; exact hR _ (x1.trans (x2.trans x3))
theorem takeWhile_of {α : Type} {p : α → Bool} {l : List α} {i : Nat} (hi : i ≤ l.length) (h : ∀ x ∈ l.take i, p x = true) (h2 : ∀ x, l[i]? = some x → p x = false) : l.takeWhile p = l.take i ∧ l.dropWhile p = l.drop i := by
  induction l generalizing i with
  | nil => simp
  | cons a r ih =>
    cases i with
    | zero =>
      have := h2 a rfl
      simp [List.takeWhile_cons, List.dropWhile_cons, this]
    | succ i =>
      have ha := h a (by simp)
      obtain ⟨k1, k2⟩ := ih (i := i) (by simpa using hi) (fun x hx => h x (by simp [hx])) (fun x hx => h2 x (by simpa using hx))
      simp [List.takeWhile_cons, List.dropWhile_cons, ha, k1, k2]
set_option maxHeartbeats 2000000 in
theorem r08Put_se {x : Pack} {d e o : Sl} {S S2 : Nat → Prop} {q : Addr} {L : List Pack} {w : World} {R : Int → World → Prop} (hC : RefR w S q L) (hN : Str x.name) (hS2 : Old S2 w) (hq : ¬ S2 q.block)
    (hd : SlR depE w S2 d x.deps) (he : SlR depE w S2 e x.peers) (ho : SlR depE w S2 o x.opt)
    (hR : ∀ w', But q.block w w' → RefR w' (fun b => (S b ∨ S2 b) ∨ (w.heap.size ≤ b ∧ b < w'.heap.size)) q (refPut L x).2 → R (refPut L x).1 w') : SE.halyardref08_Catalog_Put (some q) x.name x.v.ma x.v.mi x.v.pa d e o w R := by
  unfold SE.halyardref08_Catalog_Put
  obtain ⟨s, hb, hs⟩ := hC.at_
  have hql := hb.lt
  have hl := hs.len
  have h128 := hC.good.le
  have same : ∀ w', Ext w w' → RefR w' (fun b => (S b ∨ S2 b) ∨ (w.heap.size ≤ b ∧ b < w'.heap.size)) q L := fun w' hx =>
    ⟨⟨s, hb.ext hx, (hs.ext hx).mono fun b hb => .inl (.inl hb)⟩, fun h => by
      rcases h with (h | h) | h
      · exact hC.free h
      · exact hq h
      · omega, fun b hb => by
      have := hx.size
      rcases hb with (h | h) | h
      · have := hC.old b h; omega
      · have := hS2 b h; omega
      · exact h.2, hC.good⟩
  refine newS.intro fun a w1 x1 ha hab _ => ⟨_, _, _, _, _, _, _, ha.ldc.pre rfl, SE.halyardref05_May.go (r05May_se (p := x) hN (hd.ext x1) (he.ext x1) (ho.ext x1) fun w2 x2 => ⟨_, rfl, fun h => ?_, fun h => ?_⟩)⟩
  · have e1 : packMay x = false := by simpa using h
    have hp : refPut L x = (24, L) := by unfold refPut; rw [if_pos e1]
    rw [hp] at hR
    exact hR w2 ((x1.trans x2).but _) (same _ (x1.trans x2))
  have hmay : packMay x = true := by simpa using h
  have x02 := x1.trans x2
  refine ⟨_, ha.at0 x2 rfl, _, _, _, ha.at1 x2 rfl, SE.halyardref08_Catalog_Get.go (r08Get_se (n := x.name) (v := x.v) (hC.ext x02) fun d0 e0 o0 w3 x3 _ _ _ _ => ⟨_, _, _, _, _, _, _, _, rfl, newS.intro fun a7 w4 x4 ha7 ha7b _ => stw0.intro ha7 (by simp) fun w5 b5 _ _ => ⟨fun h => ?_, fun h => ?_⟩⟩)⟩
  all_goals
    have s1 := x1.size; have s2 := x2.size; have s3 := x3.size; have s4 := x4.size
    have x05 : Ext w w5 := b5.ext (x02.trans (x3.trans x4)) (by omega)
  · have hp : refPut L x = (11, L) := by unfold refPut; rw [if_neg (by rw [hmay]; simp), if_pos h]
    rw [hp] at hR
    exact hR w5 (x05.but _) (same _ x05)
  have hnone : (getL L x.name x.v).isSome = false := h
  refine ⟨q, rfl, s, hb.at0 (r := []) x05 rfl, fun h => ?_, fun h => ?_⟩
  · have hp : refPut L x = (26, L) := by unfold refPut; rw [if_neg (by rw [hmay]; simp), if_neg (by rw [hnone]; simp), if_pos (by omega)]
    rw [hp] at hR
    exact hR w5 (x05.but _) (same _ x05)
  have hlt : L.length < 128 := by omega
  have hp : refPut L x = (0, putAt x L) := by unfold refPut; rw [if_neg (by rw [hmay]; simp), if_neg (by rw [hnone]; simp), if_neg (by omega)]
  have hgood := refPut_good hC.good x
  rw [hp] at hR hgood
  have x25 : Ext w1 w5 := b5.ext (x2.trans (x3.trans x4)) (by omega)
  have hEb : packE.bytes = 112 := rfl
  refine loop1.up hs.max (fun i w' => Ext w5 w' ∧ ∀ y ∈ L.take i, aheadP y x = true) ⟨Ext.refl _, by simp⟩ fun i w6 nxt hi ⟨x6, hI⟩ hn => bnd.drew fun w7 x7 => ?_
  have x57 := x6.trans x7
  have x07 := x05.trans x57
  have x17 := x25.trans x57
  obtain ⟨ad, y, dy, ey, oy, hel⟩ : ∃ (ad : Addr) (y : Pack) (dy ey oy : Sl), decide ((i : Int) < (s.len : Int)) = true → s.a = some ad ∧ L[i]? = some y ∧ Str y.name ∧ ∀ w', Ext w w' → ldc w' (ad.add (i * 7)) [.string y.name, .int .i64 y.v.ma, .int .i64 y.v.mi, .int .i64 y.v.pa, dy.v, ey.v, oy.v] := by
    by_cases hlt' : i < L.length
    · obtain ⟨ad, d', e', o', hsa, _, hNy, _, _, _, hc⟩ := packEl hs hlt'
      exact ⟨ad, L[i], d', e', o', fun _ => ⟨hsa, List.getElem?_eq_getElem hlt', hNy, hc⟩⟩
    · exact ⟨q, zeroP, Sl.nil, Sl.nil, Sl.nil, fun h => by simp at h; omega⟩
  refine ⟨q, rfl, s, hb.at0 (r := []) x07 rfl, bound ⟨q, fun _ => rfl, s, fun _ => hb.at0 (r := []) x07 rfl, ad, fun h => ⟨(hel h).1, by omega, by simpa using h⟩, y.name, y.v.ma, y.v.mi, y.v.pa, dy, ey, oy, fun h => (hel h).2.2.2 w7 x07, x.name, x.v.ma, x.v.mi, x.v.pa, d, e, o, fun _ => ha.at0 (r := []) x17 rfl, gCall.named fun J hJ => ?_⟩⟩
  have key : ∀ t w8, Ext w7 w8 → (decide ((i : Int) < (s.len : Int)) = true → t = aheadP y x) → J t w8 := fun t w8 x8 ht => by
    subst hJ
    have x08 := x07.trans x8
    refine ⟨fun h => ?_, fun h => ?_⟩
    · simp only [Bool.and_eq_true] at h
      obtain ⟨k1, k2, _, _⟩ := hel h.1
      have hil : i < L.length := by have := h.1; simp at this; omega
      refine hn hil _ ⟨x57.trans x8, fun z hz => ?_⟩
      rw [List.take_succ_eq_append_getElem hil] at hz
      rcases List.mem_append.1 hz with hz | hz
      · exact hI z hz
      · simp at hz; subst hz
        rw [List.getElem?_eq_getElem hil, Option.some.injEq] at k2
        rw [k2, ← ht h.1]; exact h.2
    · have hno : ∀ z, L[i]? = some z → aheadP z x = false := fun z hz => by
        have hil := (List.getElem?_eq_some_iff.1 hz).1
        have hd1 : decide ((i : Int) < (s.len : Int)) = true := by simp; omega
        obtain ⟨_, k2, _, _⟩ := hel hd1
        rw [hz, Option.some.injEq] at k2
        rw [k2, ← ht hd1]
        rw [hd1] at h; simpa using h
      obtain ⟨ht1, ht2⟩ := takeWhile_of (p := (aheadP · x)) (l := L) (i := i) hi hI hno
      have hput : putAt x L = L.take i ++ x :: L.drop i := by unfold putAt; rw [ht1, ht2]
      have hs8 := hs.ext x08
      have hcap := hs.2.1
      have c1 := hs8.cut (a := 0) (b := i) (Nat.zero_le _) hi
      have c2 := hs8.cut (a := i) (b := L.length) hi (Nat.le_refl _)
      rw [List.drop_zero] at c1
      rw [List.take_length] at c2
      have lt1 : (L.take i).length = i := by rw [List.length_take]; omega
      have lt2 : (L.drop i).length = L.length - i := List.length_drop
      have hol : Old S w8 := hC.old.ext x08.size
      refine ⟨q, rfl, s, hb.at0 (r := []) x08 rfl, ⟨by omega, by omega⟩, ?_⟩
      refine (OwnS.zero (E := packE) (T := 48) w8).appAll apPack (Nat.le_refl _) c1 hol (fun ad h => by cases h) (by rw [hEb, lt1]; unfold room; simp; omega) (by rw [lt1, maxLen_eq]; simp; omega) fun r1 w9 own1 bel1 _ reg1 => ?_
      rw [List.nil_append] at own1
      have x9 : Ext w8 w9 := bel1
      refine ⟨_, _, _, _, _, _, _, ha.at0 (r := []) (x17.trans (x8.trans x9)) rfl, newS.intro fun a30 w10 x10 hb30 h30 _ => ?_⟩
      have x810 := x9.trans x10
      have s9 := x9.size; have s10 := x10.size
      have x010 := x08.trans x810
      have s08 := x08.size
      have hS2' : Old S2 w10 := hS2.ext x010.size
      have hr1 : ∀ ad, r1.a = some ad → w8.heap.size ≤ ad.block := fun ad h => (own1.block h).1
      refine (own1.ext x10).push (x := x) (S' := S2) apPack x810.size ⟨hN, d, e, o, rfl, hd.ext x010, he.ext x010, ho.ext x010⟩ hb30.ldc hS2' (fun ad had hb => by have := hr1 ad had; have := hS2 _ hb; omega) (by rw [hEb, lt1]; unfold room; omega) (by rw [lt1, maxLen_eq]; omega) fun r2 w11 own2 bel2 _ _ => ?_
      have x811 : Ext w8 w11 := x810.trans' bel2
      have x011 := x08.trans x811
      refine ⟨q, rfl, s, hb.at0 (r := []) x011 rfl, ⟨by omega, by omega⟩, ?_⟩
      have hr2 : ∀ ad, r2.a = some ad → w8.heap.size ≤ ad.block := fun ad h => (own2.block h).1
      have l2 : (L.take i ++ [x]).length = i + 1 := by rw [List.length_append, lt1]; rfl
      rw [hl]
      refine own2.appAll apPack x811.size (c2.ext x811) (hol.ext x811.size) (fun ad had hb => by have := hr2 ad had; have := hC.old _ hb; omega) (by rw [hEb, l2, lt2]; unfold room; omega) (by rw [l2, lt2, maxLen_eq]; omega) fun r3 w12 own3 bel3 _ _ => ?_
      have x812 : Ext w8 w12 := x811.trans' bel3
      have x012 := x08.trans x812
      have e3 : (L.take i ++ [x]) ++ L.drop i = putAt x L := by rw [hput]; simp
      rw [e3] at own3
      have hlen : (putAt x L).length = L.length + 1 := by rw [(putAt_perm x L).length_eq]; simp
      refine ⟨q, rfl, stw0.intro (hb.ext x012) (by simp) fun w13 b13 hz13 hb13 => ?_⟩
      have hrow : ∀ b, (((None' b ∨ S b) ∨ S2 b) ∨ S b) ∨ (∃ ad, r3.a = some ad ∧ b = ad.block) → (S b ∨ S2 b) ∨ (w.heap.size ≤ b ∧ b < w13.heap.size) := fun b hb => by
        rcases hb with ((( hb | hb) | hb) | hb) | ⟨ad, had, rfl⟩
        · exact hb.elim
        · exact .inl (.inl hb)
        · exact .inl (.inr hb)
        · exact .inl (.inl hb)
        · have := own3.block had; exact .inr ⟨by omega, by omega⟩
      have hrd := own3.read (by rw [hEb, hlen]; unfold room; omega) (by rw [hlen, maxLen_eq]; omega)
      refine hR w13 ((x012.but _).trans b13) ⟨⟨r3, hb13, (hrd.but b13 fun hb => ?_).mono hrow⟩, fun hb => ?_, fun b hb => ?_, hgood⟩
      · rcases hb with ((( hb | hb) | hb) | hb) | ⟨ad, had, hb⟩
        · exact hb.elim
        · exact hC.free hb
        · exact hq hb
        · exact hC.free hb
        · have := own3.block had; omega
      · rcases hb with (hb | hb) | hb
        · exact hC.free hb
        · exact hq hb
        · omega
      · have := x012.size
        rcases hb with (hb | hb) | hb
        · have := hC.old b hb; omega
        · have := hS2 b hb; omega
        · exact hb.2
  refine ⟨fun hg => SE.halyardref08_ahead.go (r08ahead_se (a := y) (b := x) (hel hg).2.2.1 fun w8 x8 => ⟨_, rfl, key _ _ x8 fun _ => rfl⟩), fun hg => key _ _ (Ext.refl _) fun h => by rw [hg] at h; cases h⟩
end Go.Hal
namespace Go.Hal
open Go Go.RowKit Go.Proofs Go.Shelf
def catOf (l : List Pack) : List Pack := l.foldl (fun L x => (refPut L x).2) []
theorem catOf_snoc (l : List Pack) (x : Pack) : catOf (l ++ [x]) = (refPut (catOf l) x).2 := by unfold catOf; rw [List.foldl_append]; rfl
theorem CatL.stay {w w' : World} {S : Nat → Prop} {p : Addr} {r : Nat} {L : List Pack} (h : CatL w S p r L) (hsz : w.heap.size ≤ w'.heap.size) (hk : ∀ b, b < w.heap.size → (S b ∨ b = p.block ∨ b = r) → w'.heap[b]? = w.heap[b]?) : CatL w' S p r L := by
  obtain ⟨ps, a, b, c⟩ := h
  exact ⟨ps, a.stay hsz hk, b, c⟩
theorem CatL.lt {w : World} {S : Nat → Prop} {p : Addr} {r : Nat} {L : List Pack} (h : CatL w S p r L) : r < w.heap.size ∧ p.block < w.heap.size ∧ (∀ b, S b → b < w.heap.size) ∧ ¬ S r ∧ ¬ S p.block ∧ p.block ≠ r := by
  obtain ⟨ps, a, _⟩ := h
  obtain ⟨m, hm, _⟩ := a.map
  exact ⟨hm.lt, a.box.lt, a.old, a.free.1, a.free.2, a.ne⟩
structure Both (w : World) (lo : Nat) (SA : Nat → Prop) (p : Addr) (r : Nat) (q : Addr) (L : List Pack) : Prop where
  cat : ∃ S, CatL w S p r L ∧ (∀ b, S b → lo ≤ b) ∧ ¬ S q.block
  ref : ∃ S, RefR w S q L ∧ (∀ b, S b → SA b ∨ lo ≤ b) ∧ ¬ S r
  le : lo ≤ r ∧ lo ≤ p.block ∧ lo ≤ q.block
  ne : q.block ≠ p.block ∧ q.block ≠ r
end Go.Hal
namespace Go.Hal
open Go Go.RowKit Go.Proofs Go.Shelf
def nP : ByteArray := ⟨#[112]⟩
def nQ : ByteArray := ⟨#[113]⟩
def v1 : Ver := ⟨1, 0, 0⟩
def allS : List Span := [⟨verAt 0, verAt 999999999⟩]
def kP : Pack := ⟨nP, v1, [], [⟨nQ, allS⟩], []⟩
def kQ : Pack := ⟨nQ, v1, [], [], []⟩
theorem FlatO.pins {w : World} {lo : Nat} {s : Sl} {l : List Pin} (h : FlatO pinC 40 w lo s l) (hs : ∀ q ∈ l, Str q.name) : SlR pinE w (fun b => lo ≤ b ∧ b < w.heap.size) s l :=
  FlatO.read (E := pinE) h (fun _ => rfl) fun _ _ x hx => ⟨rfl, hs x hx⟩
end Go.Hal
namespace Go.Hal
open Go Go.RowKit Go.Proofs Go.Shelf
def nA : ByteArray := ⟨#[97]⟩
def kA : Pack := ⟨nA, v1, [], [], []⟩
theorem knA_put : (refPut [] kA).1 = 0 := by decide +kernel
theorem knA_cat : (refPut [] kA).2 = [kA] := by decide +kernel
theorem knA_get : getL [kA] nA v1 = some kA := by decide +kernel
set_option maxRecDepth 10000 in
theorem knA_cands : cands [kA] nA allS [] = [v1] := by decide +kernel
theorem knA_g : (((((((0 : Int) == 0) && (some kA).isSome) && (bEq nA (ByteArray.mk #[97])))) && ((([v1].length : Nat) : Int) == 1)) && ((v1.ma == v1.ma) && ((v1.mi == v1.mi) && ((v1.pa == v1.pa) && true)))) = true := by decide +kernel
theorem knA_fin : ((((((((0 : Int) == 0) && (some kA).isSome) && (bEq nA (ByteArray.mk #[97])))) && ((([v1].length : Nat) : Int) == 1)) && ((v1.ma == v1.ma) && ((v1.mi == v1.mi) && ((v1.pa == v1.pa) && true)))) && ((([kA].length : Nat) : Int) == 1)) = true := by decide +kernel
theorem FlatO.vers {w : World} {lo : Nat} {s : Sl} {l : List Ver} (h : FlatO Ver.c 24 w lo s l) : SlR verE w (fun b => lo ≤ b ∧ b < w.heap.size) s l :=
  FlatO.read (E := verE) h (fun _ => rfl) fun _ _ _ _ => ⟨rfl, trivial⟩
theorem verEl {w : World} {S : Nat → Prop} {s : Sl} {l : List Ver} (h : SlR verE w S s l) {n : Nat} (hn : n < l.length) : ∃ ad, s.a = some ad ∧ n < s.len ∧ S ad.block ∧ ∀ w', Ext w w' → ldc w' (ad.add (n * 3)) l[n].c := by
  obtain ⟨ad, cs, ha, hs, ⟨rfl, _⟩, hc⟩ := h.el hn
  exact ⟨ad, ha, by rw [h.len]; exact hn, hs, hc⟩
set_option maxHeartbeats 2000000 in
theorem known08_se {w : World} {R : Bool → World → Prop} (ht : Tab w) (hR : ∀ w', Ext w w' → R true w') : SE.halyardlaw08_known w R := by
  unfold SE.halyardlaw08_known
  have strA : Str nA := by unfold Str nA; rw [maxLen_eq]; decide
  refine SE.catalog_New.go (catNew_L fun p r w1 x1 hC h1 _ => ⟨_, rfl, (fun h => by cases h), fun _ => newS.intro fun a w2 x2 ha hab _ => stw0.intro ha (by simp) fun w3 b3 _ ha3 => ?_⟩)
  have s1 := x1.size
  have x13 : Ext w1 w3 := b3.ext x2 (by omega)
  have x03 := x1.trans x13
  have ha3 : BoxAt w3 a [.int .i64 v1.ma, .int .i64 v1.mi, .int .i64 v1.pa] := ha3
  have har : a.block ≠ r := by have := hC.lt.1; omega
  refine ⟨_, _, _, ha3.ldc.pre (r := []) rfl, SE.catalog_Catalog_Put.go (catPut_L (x := kA) (S2 := None') (ht.ext x03) (hC.ext x13) strA (fun _ h => h.elim) (SlR.nil trivial) (SlR.nil trivial) (SlR.nil trivial) fun S4 w4 b4 hC4 _ _ => ⟨_, rfl, ?_⟩)⟩
  rw [knA_cat] at hC4
  rw [knA_put]
  have x04 : Ext w w4 := b4.ext x03 h1
  have ha4 := b4.box ha3 har
  refine ⟨_, _, _, ha4.ldc.pre (r := []) rfl, SE.catalog_Catalog_Get.go (catGet_se (n := nA) (v := v1) hC4 fun d e o w5 x5 _ _ _ _ => ⟨_, _, _, _, _, _, _, _, rfl, newS.intro fun a6 w6 x6 hb6 _ _ => stw0.intro hb6 (by simp) fun w7 b7 _ hb7 => ?_⟩)⟩
  have x47 : Ext w4 w7 := x5.trans (b7.ext x6 (by omega))
  refine SE.halyardref03_All.go (r03All_se fun t w8 x8 hT => ⟨_, rfl, ?_⟩)
  have s7 := x8.size
  refine SE.catalog_Catalog_Candidates.go (catCands_se (n := nA) (pins := Sl.nil) (ll := allS) (lp := []) (S1 := fun b => b < w8.heap.size) (S2 := None') (hC4.ext (x47.trans x8)) (fun _ h => h) (fun _ h => h.elim) ((hT.bound (fun h => h) (by decide)).mono fun b hb => hb.2) (SlR.nil trivial) fun t2 w9 x9 hF => ⟨_, rfl, bnd.drew fun w10 x10 => bound (bound ?_)⟩)
  rw [knA_cands] at hF
  have hV := (hF.ext x10).vers
  rw [knA_get]
  have x710 := x8.trans (x9.trans x10)
  have hnm : (getD [kA] nA v1).name = nA := by unfold getD; rw [knA_get]; rfl
  rw [hnm] at hb7
  refine ⟨nA, fun _ => (hb7.ext x710).ldc.pre rfl, bound (bound ?_)⟩
  obtain ⟨ad, hta, hl, _, hc⟩ := verEl hV (n := 0) (by simp)
  have hlen := hV.len
  refine ⟨ad, fun _ => ⟨hta, by omega, by rw [hlen]; decide⟩, _, _, _, fun _ => hc _ (Ext.refl _), _, _, _, fun _ => (ha4.ext (x47.trans x710)).ldc.pre (r := []) rfl, bound ?_⟩
  rw [hlen]
  refine ⟨fun _ => SE.catalog_Catalog_All.go (catAll_se (hC4.ext (x47.trans x710)) fun t3 w11 x11 hA => ⟨_, rfl, ?_⟩), fun h => ?_⟩
  · have hl3 := hA.1.len
    have e3 : (((t3.len : Nat) : Int) == 1) = ((([kA].length : Nat) : Int) == 1) := by rw [hl3]
    have h := hR w11 (x04.trans (x47.trans (x710.trans x11)))
    rw [← knA_fin, ← e3] at h
    exact h
  · exact absurd (knA_g.symm.trans h) (by decide)
end Go.Hal
namespace Go.Hal
open Go Go.RowKit Go.Proofs Go.Shelf
theorem versOf_le' {L : List Pack} (n : ByteArray) : (versOf n L).length ≤ L.length := by
  unfold versOf
  rw [List.length_map]
  exact List.length_filter_le _ _
theorem takeEqB {α : Type} [DecidableEq α] {a b : List α} {i : Nat} (h1 : i < a.length) (h2 : i < b.length) : decide (a.take (i + 1) = b.take (i + 1)) = (decide (a.take i = b.take i) && decide (a[i] = b[i])) := by
  rw [List.take_succ_eq_append_getElem h1, List.take_succ_eq_append_getElem h2, Bool.eq_iff_iff, Bool.and_eq_true, decide_eq_true_eq, decide_eq_true_eq, decide_eq_true_eq]
  constructor
  · intro h
    obtain ⟨e1, e2⟩ := List.append_inj h (by rw [List.length_take, List.length_take]; omega)
    exact ⟨e1, by simpa using e2⟩
  · rintro ⟨e1, e2⟩
    rw [e1, e2]
theorem versions08_se {s t : Sl} {la lb : List Ver} {S : Nat → Prop} {lo : Nat} {w : World} {R : Bool → World → Prop} (hF : FlatO Ver.c 24 w lo s la) (hlo : lo ≤ w.heap.size) (hb : SlR verE w S t lb) (hap : la ≠ [] → ∀ ad, s.a = some ad → ¬ S ad.block)
    (hR : ∀ w', Below lo w w' → R (decide (la = lb)) w') : SE.halyardlaw08_versions s t w R := by
  unfold SE.halyardlaw08_versions
  obtain ⟨h1, h2, h3, h4, h5⟩ := hF
  have hbl := hb.len
  have hfin : ∀ w', Below lo w w' → ∀ same, same = (decide (la.length = lb.length) && decide (la.take la.length = lb.take la.length)) → R same w' := fun w' hw same hs => by
    have e : (decide (la.length = lb.length) && decide (la.take la.length = lb.take la.length)) = decide (la = lb) := by
      rw [Bool.eq_iff_iff, Bool.and_eq_true, decide_eq_true_eq, decide_eq_true_eq, decide_eq_true_eq, List.take_length]
      constructor
      · rintro ⟨e1, e2⟩
        rw [e1, List.take_length] at e2; exact e2
      · rintro rfl; exact ⟨rfl, by rw [List.take_length]⟩
    rw [hs, e]; exact hR w' hw
  have hstart : ((s.len : Int) == (t.len : Int)) = (decide (la.length = lb.length) && decide (la.take 0 = lb.take 0)) := by
    rw [h1, hbl, Bool.eq_iff_iff]; simp; omega
  by_cases hne : la = []
  · subst hne
    refine loop2.up (N := 0) (Nat.zero_le _) (fun same i w' => w' = w ∧ same = _) ⟨rfl, hstart⟩ fun same i w' nxt hi ⟨hw, hs⟩ hn => ⟨fun hlt => ?_, fun _ => ?_⟩
    · rw [h1] at hlt; simp at hlt; omega
    · subst hw; exact hfin _ (Below.refl _ _) _ hs
  · obtain ⟨g, tail, ha, hg, hrow⟩ := h5.resolve_left hne
    have hgS := hap hne _ ha
    have hsl : s.len = la.length := h1
    refine loop2.up (N := la.length) (by omega) (fun same i w' => But g w w' ∧ (∃ l', RowB Ver.c w' g l' tail ∧ l'.length = la.length ∧ ∀ j, i ≤ j → l'[j]? = la[j]?) ∧ same = (decide (la.length = lb.length) && decide (la.take i = lb.take i)))
      ⟨(Ext.refl w).but g, ⟨la, hrow, rfl, fun _ _ => rfl⟩, hstart⟩ fun same i w1 nxt hi ⟨hb1, ⟨l', hr1, hl1, hj⟩, hs⟩ hn => ⟨fun hlt => bnd.drew fun w2 x2 => ?_, fun hge => ?_⟩
    · have hlt' : i < la.length := by omega
      have hr2 := hr1.ext x2
      have hb2 : But g w w2 := hb1.ext' x2
      have hbS := hb.but hb2 hgS
      have hi1 : l'[i]? = some la[i] := by rw [hj i (Nat.le_refl _), List.getElem?_eq_getElem hlt']
      have hil : i < l'.length := by omega
      have hx : ∃ (ad2 : Addr) (u : Ver), (same = true → (t.a = some ad2 ∧ (0 : Int) ≤ (i : Int) ∧ (i : Int) < (t.len : Int)) ∧ ldc w2 (ad2.add (i * 3)) u.c) ∧ (same && decide (la[i] = u)) = (decide (la.length = lb.length) && decide (la.take (i + 1) = lb.take (i + 1))) := by
        cases hsame : same with
        | false =>
          refine ⟨⟨g, 0, none⟩, la[i], (fun h => by cases h), ?_⟩
          rw [hsame] at hs
          by_cases hll : la.length = lb.length
          · have hi2 : i < lb.length := by omega
            rw [takeEqB hlt' hi2, ← Bool.and_assoc, ← hs]; rfl
          · simp [hll]
        | true =>
          rw [hsame] at hs
          have h6 := Bool.and_eq_true_iff.1 hs.symm
          have hll : la.length = lb.length := by simpa using h6.1
          have hi2 : i < lb.length := by omega
          obtain ⟨ad2, e1, e2, _, e3⟩ := verEl hbS hi2
          refine ⟨ad2, lb[i], fun _ => ⟨⟨e1, by omega, by omega⟩, e3 _ (Ext.refl _)⟩, ?_⟩
          rw [takeEqB hlt' hi2, ← Bool.and_assoc, ← hs]
      obtain ⟨ad2, u, hu, hnext⟩ := hx
      refine ⟨_, fun _ => ⟨ha, by omega, hlt⟩, _, _, _, fun _ => hr2.ld' (f := Ver.c) (k := 3) (fun _ => rfl) hi1, ad2, fun h => (hu h).1, _, _, _, fun h => (hu h).2, _, ⟨ha, by omega, hlt⟩, ?_⟩
      refine hr2.st (f := Ver.c) (k := 3) (fun _ => rfl) (i := i) hil (x := ⟨-1, 0, 0⟩) fun w3 b3 hr3 => ?_
      rw [verEqB]
      refine hn hlt' _ _ ⟨hb2.trans b3, ⟨_, hr3, by simp [hl1], fun j hij => ?_⟩, hnext⟩
      rw [List.getElem?_set_ne (by omega)]; exact hj j (by omega)
    · have : i = la.length := by omega
      subst this
      exact hfin _ (hb1.below hlo hg) _ hs
theorem r08Versions_se {n : ByteArray} {S : Nat → Prop} {q : Addr} {L : List Pack} {w : World} {R : Sl → World → Prop} (hC : RefR w S q L)
    (hR : ∀ t w', Ext w w' → SlR verE w' (fun b => w.heap.size ≤ b ∧ b < w'.heap.size) t (versOf n L) → R t w') : SE.halyardref08_Catalog_Versions (some q) n w R := by
  unfold SE.halyardref08_Catalog_Versions
  obtain ⟨s, hb, hs⟩ := hC.at_
  have hl := hs.len
  have hLl := hC.good.le
  refine loop2.up hs.max (fun out i w' => Ext w w' ∧ OwnS verE 30 w' w.heap.size None' out (versOf n (L.take i))) ⟨Ext.refl _, OwnS.zero _⟩ fun out i w1 nxt hi ⟨x1, own⟩ hn => ?_
  have hb1 := hb.ext x1
  refine ⟨q, rfl, s, hb1.ldc.pre (r := []) rfl, fun hlt => ?_, fun hge => ?_⟩
  · have hlt' : i < L.length := by omega
    obtain ⟨ad, d, e, o, hsa, _, hN, _, _, _, hc⟩ := packEl hs hlt'
    have hstep : versOf n (L.take (i + 1)) = versOf n (L.take i) ++ (if L[i].name = n then [L[i].v] else []) := by
      unfold versOf
      rw [List.take_succ_eq_append_getElem hlt', List.filter_append, List.map_append, List.filter_cons]
      by_cases h : L[i].name = n <;> simp [hasN, h]
    refine join.named fun J hJ => ⟨q, rfl, s, hb1.ldc.pre (r := []) rfl, ad, ⟨hsa, by omega, hlt⟩, L[i].name, (hc _ x1).pre rfl, fun h => ?_, fun h => ?_⟩
    · refine ⟨q, rfl, s, hb1.ldc.pre (r := []) rfl, ad, ⟨hsa, by omega, hlt⟩, _, _, _, (hc _ x1).mid (k := 1) rfl, newS.intro fun a w2 x2 hb2 ha2 _ => ?_⟩
      have s1 := x1.size
      have hvl : (versOf n (L.take i)).length ≤ 128 := Nat.le_trans (versOf_le' n) (by rw [List.length_take]; omega)
      refine (own.ext x2).push apVer (x1.trans x2).size (x := L[i].v) (S' := None') (cs := L[i].v.c) ⟨rfl, trivial⟩ (hb2.ldc.pre (r := []) rfl) (fun _ h => h.elim) (fun _ _ h => h.elim) (by have e : verE.bytes = 24 := rfl; rw [e]; unfold room; omega) (by rw [maxLen_eq]; omega) fun r w3 own3 bel _ _ => ?_
      subst hJ
      refine hn hlt' _ _ ⟨(x1.trans x2).trans' bel, ?_⟩
      rw [hstep, if_pos h]
      exact own3.flat fun h => h
    · subst hJ
      refine hn hlt' _ _ ⟨x1, ?_⟩
      rw [hstep, if_neg h, List.append_nil]; exact own
  · have : i = L.length := by omega
    rw [this, List.take_length] at own
    have hvl : (versOf n L).length ≤ 128 := Nat.le_trans (versOf_le' n) hLl
    refine hR _ _ x1 ((own.read (by have e : verE.bytes = 24 := rfl; rw [e]; unfold room; omega) (by rw [maxLen_eq]; omega)).mono fun b hb => ?_)
    rcases hb with hb | ⟨ad, ha, rfl⟩
    · exact hb.elim
    · have := own.block ha; exact ⟨this.1, this.2.1⟩
end Go.Hal
namespace Go.Hal
open Go Go.RowKit Go.Proofs Go.Shelf
def fulP (name : ByteArray) (n : Int) (k : Nat) : Pack := ⟨name, verAt (n + k), [], [], []⟩
def fulL (name : ByteArray) (n : Int) : Nat → List Pack
  | 0 => []
  | k + 1 => (refPut (fulL name n k) (fulP name n k)).2
def bareC (name : ByteArray) (v : Ver) : List Value := [.string name, .int .i64 v.ma, .int .i64 v.mi, .int .i64 v.pa, Sl.nil.v, Sl.nil.v, Sl.nil.v]
structure FulI (w0 w : World) (a p : Addr) (r : Nat) (name : ByteArray) (L : List Pack) : Prop where
  ext : Ext w0 w
  cat : ∃ S, CatL w S p r L ∧ ¬ S a.block
  box : ∃ v, BoxAt w a (bareC name v)
end Go.Hal
namespace Go.Hal
open Go Go.RowKit Go.Proofs Go.Shelf
def boolC (b : Bool) : List Value := [.bool b]
end Go.Hal
namespace Go.Hal
open Go Go.RowKit Go.Proofs Go.Shelf
theorem loop3.up {α β : Type} {a : α} {b : β} {w : World} {body : α → β → Int → World → (α → β → Int → World → Prop) → Prop} {N : Nat} (hN : N ≤ maxLen) (I : α → β → Nat → World → Prop) (h0 : I a b 0 w)
    (hs : ∀ (a : α) (b : β) (n : Nat) w' (nxt : α → β → Int → World → Prop), n ≤ N → I a b n w' → (n < N → ∀ a' b' w'', I a' b' (n + 1) w'' → nxt a' b' (wrapI ((n : Int) + 1)) w'') → body a b n w' nxt) : loop3 a b 0 w body :=
  ⟨fun a b i w' => ∃ n : Nat, i = n ∧ n ≤ N ∧ I a b n w', fun _ _ i _ => N - i.toNat, ⟨0, rfl, Nat.zero_le _, h0⟩, fun a b i w' ⟨n, hi, hn, hI⟩ => by
    subst hi
    refine hs a b n w' _ hn hI fun hlt a' b' w'' h => ?_
    rw [wrapI_add1 (n := N) (by omega) (by omega) hN]
    exact ⟨⟨n + 1, by omega, by omega, h⟩, by show N - ((n : Int) + 1).toNat < N - (n : Int).toNat; omega⟩⟩
theorem r08pinned_se {s : Sl} {l : List Pin} {n : ByteArray} {v : Ver} {S : Nat → Prop} {w : World} {R : Bool → World → Prop} (hs : SlR pinE w S s l) (hR : ∀ w', Ext w w' → R (pinB l n v) w') : SE.halyardref08_pinned s n v.ma v.mi v.pa w R := by
  unfold SE.halyardref08_pinned
  have hl := hs.len
  refine newS.intro fun a w1 x1 ha _ _ => loop1.up hs.max (fun i w' => Ext w1 w' ∧ pinB (l.take i) n v = false) ⟨Ext.refl _, rfl⟩ fun i w2 nxt hi ⟨x2, hI⟩ hn => ⟨fun hlt => bnd.drew fun w3 x3 => ?_, fun hge => ?_⟩
  · have hlt' : i < l.length := by omega
    have x13 := x2.trans x3
    obtain ⟨ad, hsa, _, _, hc⟩ := pinEl hs hlt'
    have hc3 := hc _ (x1.trans x13)
    refine ⟨ad, ⟨hsa, by omega, hlt⟩, _, hc3.pre rfl, bound ⟨ad, fun _ => ⟨hsa, by omega, hlt⟩, _, _, _, fun _ => hc3.mid (k := 1) rfl, _, _, _, fun _ => BoxAt.at0 ha x13 rfl, ?_⟩⟩
    have e : (bEq l[i].name n && ((l[i].v.ma == v.ma) && ((l[i].v.mi == v.mi) && ((l[i].v.pa == v.pa) && true)))) = decide (l[i] = ⟨n, v⟩) := by
      rw [← pinEqB l[i] ⟨n, v⟩]; simp only [Bool.and_true]
    rw [e]
    have hstep : pinB (l.take (i + 1)) n v = (pinB (l.take i) n v || decide (l[i] = ⟨n, v⟩)) := by
      rw [List.take_succ_eq_append_getElem hlt']
      unfold pinB
      rw [Bool.eq_iff_iff]
      simp only [List.mem_append, List.mem_singleton, Bool.or_eq_true, decide_eq_true_eq]
      exact or_congr Iff.rfl ⟨Eq.symm, Eq.symm⟩
    refine ⟨fun h => ?_, fun h => hn hlt' _ ⟨x13, by rw [hstep, hI, h]; rfl⟩⟩
    have : pinB l n v = true := by
      unfold pinB
      rw [decide_eq_true_eq] at h ⊢
      rw [← h]; exact List.getElem_mem hlt'
    rw [← this]; exact hR _ (x1.trans x13)
  · have : i = l.length := by omega
    rw [this, List.take_length] at hI
    rw [← hI]; exact hR _ (x1.trans x2)
set_option maxHeartbeats 2000000 in
theorem r08Cands_se {n : ByteArray} {l pins : Sl} {ll : List Span} {lp : List Pin} {S S1 S2 : Nat → Prop} {q : Addr} {L : List Pack} {w : World} {R : Sl → World → Prop} (hC : RefR w S q L) (hl : SlR spanE w S1 l ll) (hp : SlR pinE w S2 pins lp)
    (hR : ∀ t w', Ext w w' → SlR verE w' (fun b => w.heap.size ≤ b ∧ b < w'.heap.size) t (cands L n ll lp) → R t w') : SE.halyardref08_Catalog_Candidates (some q) n l pins w R := by
  unfold SE.halyardref08_Catalog_Candidates
  refine SE.halyardref08_Catalog_Versions.go (r08Versions_se hC fun t w1 x1 hT => ⟨_, rfl, ?_⟩)
  have hLl := hC.good.le
  have hvl : (versOf n L).length ≤ 128 := Nat.le_trans (versOf_le' n) hLl
  have htl := hT.len
  have eb : verE.bytes = 24 := rfl
  have hcand : cands L n ll lp = ((versOf n L).filter (spansIn ll)).filter (pinB lp n) ++ ((versOf n L).filter (spansIn ll)).filter fun v => !pinB lp n v := rfl
  generalize hV : versOf n L = V at *
  have hb1 : ∀ i, (((V.take i).filter (spansIn ll)).filter (pinB lp n)).length ≤ 128 := fun i => by
    have a := List.length_filter_le (pinB lp n) ((V.take i).filter (spansIn ll)); have b := List.length_filter_le (spansIn ll) (V.take i); have c := List.length_take_le' i V; omega
  have hb2 : ∀ i, (((V.take i).filter (spansIn ll)).filter fun v => !pinB lp n v).length ≤ 128 := fun i => by
    have a := List.length_filter_le (fun v => !pinB lp n v) ((V.take i).filter (spansIn ll)); have b := List.length_filter_le (spansIn ll) (V.take i); have c := List.length_take_le' i V; omega
  refine loop3.up (N := V.length) (by rw [maxLen_eq]; omega) (fun fi ot i w' => Ext w1 w' ∧ OwnS verE 30 w' w1.heap.size None' fi (((V.take i).filter (spansIn ll)).filter (pinB lp n)) ∧ OwnS verE 30 w' w1.heap.size None' ot (((V.take i).filter (spansIn ll)).filter fun v => !pinB lp n v) ∧ Apart fi ot)
    ⟨Ext.refl _, OwnS.nil _ _, OwnS.nil _ _, fun _ _ h => by cases h⟩ fun fi ot i w2 nxt hi ⟨x2, o1, o2, hA⟩ hn => ⟨fun hlt => ?_, fun hge => ?_⟩
  · have hlt' : i < V.length := by omega
    have x02 := x1.trans x2
    obtain ⟨ad, hta, _, _, hc⟩ := verEl hT hlt'
    have hs1 : ((V.take (i + 1)).filter (spansIn ll)).filter (pinB lp n) = ((V.take i).filter (spansIn ll)).filter (pinB lp n) ++ (if spansIn ll V[i] && pinB lp n V[i] then [V[i]] else []) := by
      rw [List.take_succ_eq_append_getElem hlt', List.filter_append, List.filter_append, List.filter_cons]
      cases h1 : spansIn ll V[i] <;> cases h2 : pinB lp n V[i] <;> simp [h2]
    have hs2 : (((V.take (i + 1)).filter (spansIn ll)).filter fun v => !pinB lp n v) = (((V.take i).filter (spansIn ll)).filter fun v => !pinB lp n v) ++ (if spansIn ll V[i] && !pinB lp n V[i] then [V[i]] else []) := by
      rw [List.take_succ_eq_append_getElem hlt', List.filter_append, List.filter_append, List.filter_cons]
      cases h1 : spansIn ll V[i] <;> cases h2 : pinB lp n V[i] <;> simp [h2]
    have g1 := hb1 i; have g2 := hb2 i
    refine join.named fun J hJ => ⟨ad, ⟨hta, by omega, hlt⟩, _, _, _, hc _ x2, SE.halyardref03_In.go (r03In_se (v := V[i]) (hl.ext x02) fun w3 x3 => ⟨_, rfl, fun h => ?_, fun h => ?_⟩)⟩
    · have h : spansIn ll V[i] = false := by simpa using h
      subst hJ
      refine hn hlt' _ _ _ ⟨x2.trans x3, ?_, ?_, hA⟩
      · rw [hs1, h]; simpa using o1.ext x3
      · rw [hs2, h]; simpa using o2.ext x3
    · have h : spansIn ll V[i] = true := by simpa using h
      have x23 := x2.trans x3
      refine ⟨ad, ⟨hta, by omega, hlt⟩, _, _, _, hc _ x23, SE.halyardref08_pinned.go (r08pinned_se (v := V[i]) (hp.ext (x02.trans x3)) fun w4 x4 => ⟨_, rfl, fun hp' => ?_, fun hp' => ?_⟩)⟩
      · have x24 := x23.trans x4
        refine ⟨ad, ⟨hta, by omega, hlt⟩, _, _, _, hc _ x24, newS.intro fun a w5 x5 hb5 _ _ => ?_⟩
        have x25 := x3.trans (x4.trans x5)
        refine OwnS.pushA (x := V[i]) (cs := V[i].c) (o1.ext x25) (o2.ext x25) hA (x2.trans x25).size apVer ⟨rfl, trivial⟩ (hb5.ldc.pre (r := []) rfl) (by rw [eb]; unfold room; omega) (by rw [maxLen_eq]; omega) fun r w6 p1 p2 pA bel _ _ => ?_
        subst hJ
        refine hn hlt' _ _ _ ⟨(x2.trans x25).trans' bel, ?_, ?_, pA⟩
        · rw [hs1, h, hp']; exact p1
        · rw [hs2, h, hp']; simpa using p2
      · have x24 := x23.trans x4
        refine ⟨ad, ⟨hta, by omega, hlt⟩, _, _, _, hc _ x24, newS.intro fun a w5 x5 hb5 _ _ => ?_⟩
        have x25 := x3.trans (x4.trans x5)
        refine OwnS.pushA (x := V[i]) (cs := V[i].c) (o2.ext x25) (o1.ext x25) hA.swap (x2.trans x25).size apVer ⟨rfl, trivial⟩ (hb5.ldc.pre (r := []) rfl) (by rw [eb]; unfold room; omega) (by rw [maxLen_eq]; omega) fun r w6 p2 p1 pA bel _ _ => ?_
        subst hJ
        refine hn hlt' _ _ _ ⟨(x2.trans x25).trans' bel, ?_, ?_, pA.swap⟩
        · rw [hs1, h, hp']; simpa using p1
        · rw [hs2, h, hp']; exact p2
  · have : i = V.length := by omega
    rw [this, List.take_length] at o1 o2
    have g1 := hb1 V.length; have g2 := hb2 V.length
    rw [List.take_length] at g1 g2
    have hr2 := o2.read (by rw [eb]; unfold room; omega) (by rw [maxLen_eq]; omega)
    have x02 := x1.trans x2
    refine o1.appAll (S' := fun b => ∃ ad, ot.a = some ad ∧ b = ad.block) apVer x2.size (hr2.mono fun b hb => hb.elim (fun h => h.elim) id) (fun b ⟨ad, h1, h2⟩ => by have := (o2.block h1).2.1; omega) (fun ad h1 ⟨ad2, h2, h3⟩ => hA _ _ h1 h2 h3) (by rw [eb]; unfold room; omega) (by rw [maxLen_eq]; omega) fun r w3 o3 bel _ _ => ?_
    have o4 := o3.flat fun h => h
    rw [← hcand] at o4
    have s1 := x1.size
    refine hR _ _ (x1.trans (x2.trans' bel)) ((o4.read (by rw [hcand, List.length_append, eb]; unfold room; omega) (by rw [hcand, List.length_append, maxLen_eq]; omega)).mono fun b hb => ?_)
    rcases hb with hb | ⟨ad, ha, rfl⟩
    · exact hb.elim
    · have := o4.block ha; exact ⟨by omega, this.2.1⟩
end Go.Hal
namespace Go.Hal
open Go Go.RowKit Go.Proofs Go.Shelf
def packT : Enc (Pack × (Nat → Prop)) where
  n := 7
  bytes := 112
  rep := fun w S x cs => packP.rep w x.2 x.1 cs ∧ ∀ b, x.2 b → S b
  len := fun h => packP.len h.1
  one := fun h v hv => packP.one h.1 v hv
  mono := fun h hs => ⟨h.1, fun b hb => hs b (h.2 b hb)⟩
  keep := fun h hk => ⟨packP.keep h.1 fun b hb hl => hk b (h.2 b hb) hl, h.2⟩
def Disj (p q : Pack × (Nat → Prop)) : Prop := ∀ b, p.2 b → ¬ q.2 b
def SepP (w : World) (S : Nat → Prop) (s : Sl) (L : List Pack) : Prop :=
  s.len = L.length ∧ (L = [] ∨ ∃ (g : Nat) (tail : List Value) (z : List (PackC × (Pack × (Nat → Prop)))), s.a = some ⟨g, 0, none⟩ ∧ S g ∧ RowB PackC.c w g (z.map Prod.fst) tail ∧ (z.map fun q => q.2.1) = L ∧
    (∀ q ∈ z, q.1.name = q.2.1.name ∧ q.1.v = q.2.1.v ∧ packP.rep w q.2.2 q.2.1 q.1.c ∧ ∀ b, q.2.2 b → S b ∧ b ≠ g) ∧ z.Pairwise fun p q => ∀ b, p.2.2 b → ¬ q.2.2 b)
set_option maxHeartbeats 2000000 in
theorem catAll_sep {S : Nat → Prop} {p : Addr} {r : Nat} {L : List Pack} {w : World} {R : Sl → World → Prop} (hC : CatL w S p r L)
    (hR : ∀ t w', Ext w w' → SepP w' (fun b => w.heap.size ≤ b ∧ b < w'.heap.size) t L → R t w') : SE.catalog_Catalog_All (some p) w R := by
  unfold SE.catalog_Catalog_All
  obtain ⟨ps, hC, hp, hg⟩ := hC
  obtain ⟨m, hm, hl, hel⟩ := hC.map
  refine ⟨p, rfl, some r, hC.box.ldc, range_intro Tryz.underlying101 hm fun it w1 x1 hit hI => ⟨_, rfl, ?_⟩⟩
  obtain ⟨z0, hz1, hz2, hz3⟩ := ents hl hel
  have hw1 := hI.lt
  have hlen : ps.length ≤ 128 := by rw [← hp.length_eq]; exact hg.le
  have hEb : packT.bytes = 112 := rfl
  refine loop1.ghost (fun k out w' => ∃ (z : List (Pack × (Value × Value))) (vis : List (Pack × (Nat → Prop))) (last : Option (Value × Value)) (Q : Nat → Prop), k = z.length ∧ IterR w' it r (z.map Prod.snd) last ∧ (∀ q ∈ z, EntR w S q.1 q.2) ∧ (vis.map Prod.fst ++ z.map Prod.fst).Perm ps ∧ Ext w w' ∧ w1.heap.size ≤ w'.heap.size ∧ OwnS packT 48 w' w1.heap.size Q out vis ∧ (∀ b, Q b → w1.heap.size ≤ b) ∧ vis.Pairwise Disj ∧ ∀ q ∈ vis, ∀ b, q.2 b → Q b) _
    ⟨z0, [], none, None', rfl, by rw [hz2]; exact hI, hz3, by rw [hz1]; exact List.Perm.refl _, x1, Nat.le_refl _, OwnS.zero w1, fun _ h => h.elim, .nil, fun _ h => by cases h⟩ fun k out w2 nxt ⟨z, vis, last, Q, hk, hI2, hz, hpz, x2, hs2, own, hQ, hdj, hvQ⟩ hn => ?_
  have hvl : vis.length ≤ 128 := by have := hpz.length_eq; rw [List.length_append, List.length_map] at this; omega
  refine next_intro hI2 (fun h0 => ?_) fun q l1 l2 w3 hq hb3 hsz3 bt3 hI3 => ?_
  · have hz0 : z = [] := List.map_eq_nil_iff.1 h0
    subst hz0
    rw [List.map_nil, List.append_nil] at hpz
    refine ⟨false, ⟨#[]⟩, 0, 0, 0, ⟨#[]⟩, 0, 0, 0, Sl.nil, Sl.nil, Sl.nil, rfl, (fun h => by cases h), fun _ => ?_⟩
    have hol := own.len
    have s1 := x1.size
    have hf : ∀ (x : Pack × (Nat → Prop)) cs, packT.rep w2 Q x cs → ∃ y : PackC, cs = y.c ∧ (y.name = x.1.name ∧ y.v = x.1.v ∧ packT.rep w2 Q x y.c) := fun x cs h => by
      obtain ⟨⟨hN, d, e, o, rfl, a, b, c⟩, hTQ⟩ := h
      exact ⟨⟨x.1.name, x.1.v, d, e, o⟩, rfl, rfl, rfl, ⟨hN, d, e, o, rfl, a, b, c⟩, hTQ⟩
    rcases OwnS.rowG PackC.c (fun (y : PackC) (x : Pack × (Nat → Prop)) => y.name = x.1.name ∧ y.v = x.1.v ∧ packT.rep w2 Q x y.c) hf own with ⟨ho, hv⟩ | ⟨g, zz, tail, ha, hgl, hzz, hrel, hrow, hcap, hmax⟩
    · subst ho hv
      have hL0 : L = [] := by
        have := hpz.length_eq.trans hp.length_eq.symm
        exact List.eq_nil_of_length_eq_zero this.symm
      subst hL0
      refine (AnyF.slices_SortFunc_none Tryz.laySk none 0 _ w2).mono fun e w' ⟨he, hw⟩ => ⟨_, he, rfl, ?_⟩
      subst hw
      refine SE.slices_Clip_apiPackageapiPackage.go ⟨⟨by decide, by decide, by decide, by decide⟩, _, rfl, hR _ _ x2 ?_⟩
      exact ⟨rfl, .inl rfl⟩
    · obtain ⟨oa, on, oc⟩ := out
      simp only at ha hol hcap hmax
      subst ha
      have hzl : zz.length = vis.length := by rw [← hzz, List.length_map]
      have e1 : on = (zz.map Prod.fst).length := by rw [List.length_map, hzl]; exact hol
      subst e1
      refine sortPack_k hrow (by rw [List.length_map]; omega) fun l' w3 hp3 hs3 b3 hr3 => ⟨rfl, ?_⟩
      obtain ⟨zs, hzp, rfl⟩ := perm_lift Prod.fst hp3 zz rfl
      have hrel' : ∀ p ∈ zs, p.1.name = p.2.1.name ∧ p.1.v = p.2.1.v ∧ packT.rep w2 Q p.2 p.1.c := fun p hp => hrel p (hzp.mem_iff.1 hp)
      have hperm : (zs.map fun q => q.2.1).Perm L := by
        have e1 : (zz.map fun q => q.2.1) = vis.map Prod.fst := by rw [← hzz, List.map_map]; rfl
        have e2 := hzp.map fun q => q.2.1
        rw [e1] at e2
        exact (e2.trans hpz).trans hp.symm
      have hsorted : (zs.map fun q => q.2.1).Pairwise fun x y => ¬ cP y x < 0 := by
        rw [List.pairwise_map] at hs3 ⊢
        refine hs3.imp_of_mem fun {a b} ha hb h => ?_
        obtain ⟨a1, a2, _⟩ := hrel' a ha; obtain ⟨b1, b2, _⟩ := hrel' b hb
        unfold cPC at h; unfold cP
        rw [← a1, ← a2, ← b1, ← b2]; exact h
      have hLe := cP_sorted_one hperm hg.ord hsorted
      have hzsl : zs.length = zz.length := hzp.length_eq
      have hQg : ¬ Q g := own.apart _ rfl
      have x3 : Ext w w3 := x2.trans' (b3.below x2.size (by omega))
      have hlow : ∀ b, (Q b ∨ b = g) → (w.heap.size ≤ b ∧ b < w3.heap.size) := fun b hb => by
        have := b3.size
        have hgl3 := hrow.lt
        rcases hb with hb | rfl
        · have := hQ b hb; have := own.lt b hb; exact ⟨by omega, by omega⟩
        · exact ⟨by omega, by omega⟩
      refine SE.slices_Clip_apiPackageapiPackage.go ⟨⟨by omega, by omega, by omega, by show ((zz.map Prod.fst).length : Int) ≤ (oc : Int); rw [List.length_map]; omega⟩, _, rfl, hR _ _ x3 ?_⟩
      have e2 : (Sl.mk (if ((((zz.map Prod.fst).length : Nat) : Int)).toNat = 0 then (some ⟨g, 0, none⟩ : Option Addr) else (some ⟨g, 0, none⟩ : Option Addr).map (·.add (0 * 7))) (((((zz.map Prod.fst).length : Nat) : Int)).toNat - 0) (((((zz.map Prod.fst).length : Nat) : Int)).toNat - 0)) = ⟨some ⟨g, 0, none⟩, zs.length, zs.length⟩ := by
        rw [List.length_map, hzsl, Int.toNat_natCast, Nat.sub_zero]
        split <;> rfl
      rw [e2]
      have hdz : zs.Pairwise fun p q => ∀ b, p.2.2 b → ¬ q.2.2 b := by
        have h1 : (zz.map Prod.snd).Pairwise Disj := by rw [hzz]; exact hdj
        rw [List.pairwise_map] at h1
        exact (hzp.pairwise_iff fun {x y} h b hb hc => h b hc hb).2 h1
      have hlt3 : g < w3.heap.size := hr3.lt
      refine ⟨by rw [← hLe, List.length_map], .inr ⟨g, tail, zs, rfl, hlow g (.inr rfl), hr3, hLe, fun q hq => ?_, hdz⟩⟩
      obtain ⟨k1, k2, k3, k4⟩ := hrel' q hq
      exact ⟨k1, k2, packP.keep k3 (b3.keep fun h => hQg (k4 g h)), fun b hb => ⟨hlow b (.inl (k4 b hb)), fun e => hQg (e ▸ k4 b hb)⟩⟩
  · obtain ⟨z1, x, z2, hze, e1, e2⟩ := getmap (γ := Unit) hq
    subst hze
    obtain ⟨d, e, o, hkv, hN, hd, he, ho⟩ := hz (x, q) (by simp)
    simp only at hkv
    subst hkv
    have hitw : w.heap.size ≤ it := by omega
    have x3 : Ext w w3 := bt3.ext x2 hitw
    have own3 := own.but bt3 (fun h => by have := hQ _ h; omega) (fun ad ha => by have := (own.block ha).1; omega)
    refine ⟨true, x.name, x.v.ma, x.v.mi, x.v.pa, x.name, x.v.ma, x.v.mi, x.v.pa, d, e, o, rfl, fun _ => ?_, (fun h => by cases h)⟩
    refine ⟨x.name, x.v.ma, x.v.mi, x.v.pa, x.name, x.v.ma, x.v.mi, x.v.pa, d, e, o, fun w' hx => entry_run (hI3.ext hx), newS.intro fun a w4 x4 hb4 ha4 _ => stw0.intro hb4 (by simp) fun w5 b5 _ hb5 => ⟨_, _, _, _, _, _, _, hb5.ldc.pre rfl, ?_⟩⟩
    have s3 := x3.size
    have s4 := x4.size
    have x35 : Ext w3 w5 := b5.ext x4 (by omega)
    have s5 := x35.size
    have hzz : ∀ q ∈ z1 ++ z2, EntR w S q.1 q.2 := fun q hq => hz q (by
      rcases List.mem_append.1 hq with h | h
      · exact List.mem_append_left _ h
      · exact List.mem_append_right _ (.tail _ h))
    have hpp : ∀ T : Nat → Prop, ((vis ++ [(x, T)]).map Prod.fst ++ (z1 ++ z2).map Prod.fst).Perm ps := fun T => by
      refine List.Perm.trans ?_ hpz
      rw [List.map_append, List.map_cons, List.map_nil, List.append_assoc, List.map_append, List.map_append, List.map_cons, List.singleton_append]
      exact List.perm_middle.symm.append_left (vis.map Prod.fst)
    have hlz : (z1 ++ z2).length < (z1 ++ (x, keyV x.name x.v, packVal x d e o) :: z2).length := by simp
    have hIz : ∀ w', IterR w' it r (l1 ++ l2) (some (keyV x.name x.v, packVal x d e o)) → IterR w' it r ((z1 ++ z2).map Prod.snd) (some (keyV x.name x.v, packVal x d e o)) := fun w' h => by rw [List.map_append, e1, e2]; exact h
    have x05 := x3.trans x35
    refine SE.catalog_copied.go (copied_se (p := x) (S := S) (hC.old.ext x05.size) (hd.ext x05) (he.ext x05) (ho.ext x05) fun d' e' o' w6 x6 hd' he' ho' => ⟨_, _, _, _, _, _, _, rfl, newS.intro fun a7 w7 x7 hb7 _ _ => ?_⟩)
    have x36 := x35.trans x6
    have x37 := x36.trans x7
    have s6 := x6.size; have s7 := x7.size
    have hml : (vis.length + 1) * packT.bytes ≤ room := by rw [hEb]; unfold room; omega
    have hdl : ∀ b, (w5.heap.size ≤ b ∧ b < w6.heap.size) → b < w7.heap.size := fun b hb => by omega
    refine (own3.ext x37).push (x := (x, fun b => w5.heap.size ≤ b ∧ b < w6.heap.size)) (S' := fun b => w5.heap.size ≤ b ∧ b < w6.heap.size) apPack (by omega) ⟨⟨hN, d', e', o', rfl, hd'.ext x7, he'.ext x7, ho'.ext x7⟩, fun _ h => h⟩ hb7.ldc hdl (fun ad ha hb => by have := (own3.block ha).2.1; omega) hml (by rw [maxLen_eq]; omega) fun t w8 own8 bel8 _ _ => ?_
    refine hn _ _ _ (by rw [hk]; exact hlz) ⟨z1 ++ z2, vis ++ [(x, fun b => w5.heap.size ≤ b ∧ b < w6.heap.size)], _, _, rfl, hIz _ (((hI3.ext x37).of (bel8.block r (by have := hm.lt; omega)) (bel8.block it (by omega)))), hzz, hpp _, (x3.trans x37).trans' (Below.mono bel8 (by omega)), by have := bel8.size; omega, own8, fun b hb => ?_, ?_, fun q hq b hb => ?_⟩
    · rcases hb with hb | hb
      · exact hQ b hb
      · omega
    · refine List.pairwise_append.2 ⟨hdj, List.pairwise_singleton _ _, fun q hq y hy b hb hc => ?_⟩
      rw [List.mem_singleton] at hy
      subst hy
      have h1 := own3.lt b (hvQ q hq b hb)
      have h2 : w5.heap.size ≤ b ∧ b < w6.heap.size := hc
      omega
    · rcases List.mem_append.1 hq with hq | hq
      · exact .inl (hvQ q hq b hb)
      · rw [List.mem_singleton] at hq
        subst hq
        exact .inr hb
end Go.Hal
namespace Go.Hal
open Go Go.RowKit Go.Proofs Go.Shelf
theorem Rest.rep {α : Type} {E : Enc α} {S T : Nat → Prop} {w w' : World} {x : α} {cs : List Value} (h : Rest S w w') (hx : E.rep w T x cs) (hn : ∀ b, T b → ¬ S b) : E.rep w' T x cs := E.keep hx (h.keep hn)
theorem slv_inj {s t : Sl} (h : s.v = t.v) : s = t := by
  obtain ⟨a, n, c⟩ := s
  obtain ⟨a', n', c'⟩ := t
  simpa [Sl.v] using h
theorem packC_of {y : PackC} {x : Pack} {d e o : Sl} (h1 : y.name = x.name) (h2 : y.v = x.v) (hc : y.c = .string x.name :: x.v.c ++ [Sl.v d, Sl.v e, Sl.v o]) : y = ⟨x.name, x.v, d, e, o⟩ := by
  obtain ⟨yn, yv, yd, ye, yo⟩ := y
  simp only at h1 h2
  subst h1 h2
  simp only [PackC.c, Ver.c, List.cons_append, List.nil_append, List.cons.injEq, true_and, and_true] at hc
  obtain ⟨a, b, c⟩ := hc
  rw [slv_inj a, slv_inj b, slv_inj c]
set_option maxHeartbeats 2000000 in
theorem packages08_se {s t : Sl} {L M : List Pack} {S T : Nat → Prop} {lo : Nat} {w : World} {R : Bool → World → Prop} (hlo : lo ≤ w.heap.size) (hS : ∀ b, S b → lo ≤ b ∧ b < w.heap.size) (hs : SepP w S s L) (hLm : L.length ≤ maxLen) (hM : SlR packE w T t M) (hTS : ∀ b, T b → ¬ S b) (hTo : Old T w)
    (hR : ∀ w', Below lo w w' → R (decide (L = M)) w') : SE.halyardlaw08_packages s t w R := by
  unfold SE.halyardlaw08_packages
  obtain ⟨h1, h5⟩ := hs
  have hbl := hM.len
  have hfin : ∀ w', Rest S w w' → ∀ same, same = (decide (L.length = M.length) && decide (L.take L.length = M.take L.length)) → R same w' := fun w' hw same hs => by
    have e : (decide (L.length = M.length) && decide (L.take L.length = M.take L.length)) = decide (L = M) := by
      rw [Bool.eq_iff_iff, Bool.and_eq_true, decide_eq_true_eq, decide_eq_true_eq, decide_eq_true_eq, List.take_length]
      constructor
      · rintro ⟨e1, e2⟩
        rw [e1, List.take_length] at e2; exact e2
      · rintro rfl; exact ⟨rfl, by rw [List.take_length]⟩
    rw [hs, e]
    exact hR w' ⟨hw.out.1, hw.out.2.1, hw.out.2.2, hw.size, fun b hb => hw.same b (by omega) fun h => by have := (hS b h).1; omega⟩
  have hstart : ((s.len : Int) == (t.len : Int)) = (decide (L.length = M.length) && decide (L.take 0 = M.take 0)) := by
    rw [h1, hbl, Bool.eq_iff_iff]; simp; omega
  rcases h5 with rfl | ⟨g, tail, z, ha, hg, hrow, hz, hrel, hdj⟩
  · refine loop2.up (N := 0) (Nat.zero_le _) (fun same i w' => w' = w ∧ same = _) ⟨rfl, hstart⟩ fun same i w' nxt hi ⟨hw, hs⟩ hn => ⟨fun hlt => ?_, fun _ => ?_⟩
    · rw [h1] at hlt; simp at hlt; omega
    · subst hw; exact hfin _ (Rest.refl _ _) _ hs
  · have hzl : z.length = L.length := by rw [← hz, List.length_map]
    refine loop2.up (N := L.length) hLm (fun same i w' => Rest S w w' ∧ (∃ l', RowB PackC.c w' g l' tail ∧ l'.length = L.length ∧ ∀ j, i ≤ j → l'[j]? = (z.map Prod.fst)[j]?) ∧ (∀ j (h : j < z.length), i ≤ j → packP.rep w' z[j].2.2 z[j].2.1 z[j].1.c) ∧ same = (decide (L.length = M.length) && decide (L.take i = M.take i)))
      ⟨Rest.refl _ _, ⟨_, hrow, by rw [List.length_map, hzl], fun _ _ => rfl⟩, fun j h _ => (hrel _ (List.getElem_mem h)).2.2.1, hstart⟩ fun same i w1 nxt hi ⟨hr1, ⟨l', hw1, hl1, hj⟩, hp1, hs⟩ hn => ⟨fun hlt => bnd.drew fun w2 x2 => ?_, fun hge => ?_⟩
    · have hlt' : i < L.length := by omega
      have hiz : i < z.length := by omega
      have hLi : z[i].2.1 = L[i] := by simp [← hz]
      have hzi := hrel _ (List.getElem_mem hiz)
      have hr2 : Rest S w w2 := hr1.trans (Rest.of_ext x2)
      have hw2 := hw1.ext x2
      have hi1 : l'[i]? = some z[i].1 := by rw [hj i (Nat.le_refl _), List.getElem?_map, List.getElem?_eq_getElem hiz]; rfl
      have hil : i < l'.length := by omega
      have hpi := packP.keep (hp1 i hiz (Nat.le_refl _)) (x2.keep _)
      have hMw := hM.keep (hr2.keep hTS)
      obtain ⟨hN, d, e, o, hc, hd, he, ho⟩ := hpi
      have hcell : z[i].1 = ⟨L[i].name, L[i].v, d, e, o⟩ := by
        rw [hLi] at hc
        exact packC_of (by rw [hzi.1, hLi]) (by rw [hzi.2.1, hLi]) hc
      rw [hLi] at hd he ho
      have hload := hw2.ld' (f := PackC.c) (k := 7) (fun _ => rfl) hi1
      rw [hcell] at hload
      have hx : ∃ (ad2 : Addr) (u : Pack) (d2 e2 o2 : Sl), (same = true → ((t.a = some ad2 ∧ (0 : Int) ≤ (i : Int) ∧ (i : Int) < (t.len : Int)) ∧ ldc w2 (ad2.add (i * 7)) [.string u.name, .int .i64 u.v.ma, .int .i64 u.v.mi, .int .i64 u.v.pa, d2.v, e2.v, o2.v]) ∧ SlR depE w2 T d2 u.deps ∧ SlR depE w2 T e2 u.peers ∧ SlR depE w2 T o2 u.opt) ∧ (same && decide (L[i] = u)) = (decide (L.length = M.length) && decide (L.take (i + 1) = M.take (i + 1))) := by
        cases hsame : same with
        | false =>
          refine ⟨⟨g, 0, none⟩, L[i], Sl.nil, Sl.nil, Sl.nil, (fun h => by cases h), ?_⟩
          rw [hsame] at hs
          by_cases hll : L.length = M.length
          · have hi2 : i < M.length := by omega
            rw [takeEqB hlt' hi2, ← Bool.and_assoc, ← hs]; rfl
          · simp [hll]
        | true =>
          rw [hsame] at hs
          have h6 := Bool.and_eq_true_iff.1 hs.symm
          have hll : L.length = M.length := by simpa using h6.1
          have hi2 : i < M.length := by omega
          obtain ⟨ad2, d2, e2, o2, k1, _, _, k2, k3, k4, k5⟩ := packEl hMw hi2
          refine ⟨ad2, M[i], d2, e2, o2, fun _ => ⟨⟨⟨k1, by omega, by omega⟩, k5 _ (Ext.refl _)⟩, k2, k3, k4⟩, ?_⟩
          rw [takeEqB hlt' hi2, ← Bool.and_assoc, ← hs]
      obtain ⟨ad2, u, d2, e2, o2, hu, hnext⟩ := hx
      refine ⟨_, fun _ => ⟨ha, by omega, hlt⟩, _, _, _, _, _, _, _, fun _ => hload, ad2, fun h => (hu h).1.1, _, _, _, _, _, _, _, fun h => (hu h).1.2, ?_⟩
      refine gCall.intro (decide (L[i] = u)) (fun hsm q hq => ?_) fun t28 w5 x5 ht28 => ?_
      · obtain ⟨_, f1, f2, f3⟩ := hu hsm
        exact SE.halyardref05_Same.go (r05Same_se (p := L[i]) (q := u) (S := fun b => z[i].2.2 b ∨ T b) (hd.dep.mono fun _ h => .inl h) (he.dep.mono fun _ h => .inl h) (ho.dep.mono fun _ h => .inl h) (f1.mono fun _ h => .inr h) (f2.mono fun _ h => .inr h) (f3.mono fun _ h => .inr h) fun w' hx => ⟨_, rfl, hq _ hx⟩)
      · have hw5 := hw2.ext x5
        have hr5 : Rest S w w5 := hr2.trans (Rest.of_ext x5)
        have hload5 := hw5.ld' (f := PackC.c) (k := 7) (fun _ => rfl) hi1
        rw [hcell] at hload5
        have hold : Old z[i].2.2 w5 := fun b hb => Nat.lt_of_lt_of_le ((hS b (hzi.2.2.2 b hb).1).2) hr5.size
        refine ⟨_, ⟨ha, by omega, hlt⟩, _, _, _, _, _, _, _, hload5, SE.halyardlaw08_over.go (over08_se (p := L[i]) (S := z[i].2.2) hold (hd.ext x5) (he.ext x5) (ho.ext x5) fun w9 hr9 => ⟨rfl, _, ⟨ha, by omega, hlt⟩, ?_⟩)⟩
        have hgi : ¬ z[i].2.2 g := fun h => (hzi.2.2.2 g h).2 rfl
        have hw9 : RowB PackC.c w9 g l' tail := hr9.box hw5 hgi
        have hrS9 : Rest S w w9 := hr5.trans (hr9.mono fun b _ hb => (hzi.2.2.2 b hb).1)
        refine hw9.st (f := PackC.c) (k := 7) (fun _ => rfl) (i := i) hil (x := ⟨⟨#[]⟩, ⟨0, 0, 0⟩, Sl.nil, Sl.nil, Sl.nil⟩) fun w10 b10 hw10 => ?_
        have hval : (same && t28) = (decide (L.length = M.length) && decide (L.take (i + 1) = M.take (i + 1))) := by
          rw [← hnext]
          cases hsame : same with
          | false => rfl
          | true => rw [ht28 hsame]
        refine hn hlt' _ _ ⟨hrS9.trans (Rest.of_but b10 hg), ⟨_, hw10, by simp [hl1], fun j hij => ?_⟩, fun j hjz hij => ?_, hval⟩
        · rw [List.getElem?_set_ne (by omega)]; exact hj j (by omega)
        · have hdis := List.pairwise_iff_getElem.1 hdj i j hiz hjz (by omega)
          have hgj : ¬ z[j].2.2 g := fun h => ((hrel _ (List.getElem_mem hjz)).2.2.2 g h).2 rfl
          have r1 := packP.keep (hp1 j hjz (by omega)) ((x2.trans x5).keep _)
          exact packP.keep (hr9.rep r1 fun b hb hc => hdis b hc hb) (b10.keep hgj)
    · have : i = L.length := by omega
      subst this
      exact hfin _ hr1 _ hs
end Go.Hal
namespace Go.Hal
open Go Go.RowKit
structure AskQ where
  name : ByteArray
  v : Ver
  range : List Span
  pins : List Pin
def askE : Enc AskQ where
  n := 6
  bytes := 88
  rep := fun w S x cs => Str x.name ∧ ∃ r p, cs = [.string x.name, .int .i64 x.v.ma, .int .i64 x.v.mi, .int .i64 x.v.pa, r.v, p.v] ∧ SlR spanE w S r x.range ∧ SlR pinE w S p x.pins
  len := fun ⟨_, _, _, h, _⟩ => by rw [h]; rfl
  one := fun ⟨_, _, _, h, _⟩ v hv => by rw [h] at hv; simp [Sl.v] at hv; rcases hv with rfl | rfl | rfl | rfl | rfl | rfl <;> rfl
  keep := fun ⟨h0, r, p, h1, h2, h3⟩ hk => ⟨h0, r, p, h1, h2.keep hk, h3.keep hk⟩
  mono := fun ⟨h0, r, p, h1, h2, h3⟩ hk => ⟨h0, r, p, h1, h2.mono hk, h3.mono hk⟩
theorem askEl {w : World} {S : Nat → Prop} {s : Sl} {l : List AskQ} (h : SlR askE w S s l) {n : Nat} (hn : n < l.length) :
    ∃ ad r p, s.a = some ad ∧ Str l[n].name ∧ SlR spanE w S r l[n].range ∧ SlR pinE w S p l[n].pins ∧ ∀ w', Ext w w' → ldc w' (ad.add (n * 6)) [.string l[n].name, .int .i64 l[n].v.ma, .int .i64 l[n].v.mi, .int .i64 l[n].v.pa, r.v, p.v] := by
  obtain ⟨ad, cs, h1, h2, h3, h4⟩ := h.get (List.getElem?_eq_getElem hn)
  obtain ⟨h0, r, p, rfl, a, b⟩ := h3
  exact ⟨ad, r, p, h1, h0, a, b, fun w' hx => h4.ext hx⟩
end Go.Hal
namespace Go.Hal
open Go Go.RowKit Go.Proofs Go.Shelf
structure Duo (w : World) (lo : Nat) (SA F : Nat → Prop) (p : Addr) (r : Nat) (q : Addr) (L L' : List Pack) : Prop where
  cat : ∃ S, CatL w S p r L ∧ (∀ b, S b → lo ≤ b ∧ ¬ F b) ∧ ¬ S q.block
  ref : ∃ S, RefR w S q L' ∧ (∀ b, S b → (SA b ∨ lo ≤ b) ∧ ¬ F b) ∧ ¬ S r
  le : lo ≤ r ∧ lo ≤ p.block ∧ lo ≤ q.block
  ne : q.block ≠ p.block ∧ q.block ≠ r
  fr : ¬ F p.block ∧ ¬ F r ∧ ¬ F q.block
  fo : ∀ b, F b → lo ≤ b ∧ b < w.heap.size
  sa : ∀ b, SA b → b < lo
section
variable {w w' : World} {lo : Nat} {SA F : Nat → Prop} {p q : Addr} {r : Nat} {L L' : List Pack}
theorem Duo.ext (h : Duo w lo SA F p r q L L') (hx : Ext w w') : Duo w' lo SA F p r q L L' := by
  obtain ⟨⟨S, a, b, c⟩, ⟨T, d, e, f⟩, g, k, m, n, o⟩ := h
  exact ⟨⟨S, a.ext hx, b, c⟩, ⟨T, d.ext hx, e, f⟩, g, k, m, fun b hb => ⟨(n b hb).1, Nat.lt_of_lt_of_le (n b hb).2 hx.size⟩, o⟩
theorem Duo.lt (h : Duo w lo SA F p r q L L') : r < w.heap.size ∧ p.block < w.heap.size ∧ q.block < w.heap.size := by
  obtain ⟨⟨S, a, _⟩, ⟨T, d, _⟩, _⟩ := h
  obtain ⟨s, hb, _⟩ := d.at_
  exact ⟨a.lt.1, a.lt.2.1, hb.lt⟩
theorem Duo.free (h : Duo w lo SA F p r q L L') (hx : Ext w w') : Duo w' lo SA (fun b => w.heap.size ≤ b ∧ b < w'.heap.size) p r q L L' := by
  have hlt := h.lt
  obtain ⟨⟨S, a, b, c⟩, ⟨T, d, e, f⟩, g, k, m, n, o⟩ := h
  refine ⟨⟨S, a.ext hx, fun x hx => ⟨(b x hx).1, fun h => by have := a.lt.2.2.1 x hx; omega⟩, c⟩, ⟨T, d.ext hx, fun x hx => ⟨(e x hx).1, fun h => by have := d.old x hx; omega⟩, f⟩, g, k, ⟨by omega, by omega, by omega⟩, fun b hb => ⟨by omega, hb.2⟩, o⟩
theorem Duo.rest (h : Duo w lo SA F p r q L L') (hr : Rest F w w') : Duo w' lo SA None' p r q L L' := by
  obtain ⟨⟨S, a, b, c⟩, ⟨T, d, e, f⟩, g, k, m, n, o⟩ := h
  refine ⟨⟨S, a.stay hr.size fun x hx hs => hr.same x hx ?_, fun x hx => ⟨(b x hx).1, fun h => h⟩, c⟩, ⟨T, d.stay hr.size fun x hx hs => hr.same x hx ?_, fun x hx => ⟨(e x hx).1, fun h => h⟩, f⟩, g, k, ⟨fun h => h, fun h => h, fun h => h⟩, fun _ h => h.elim, o⟩
  · rcases hs with hs | rfl | rfl
    · exact (b x hs).2
    · exact m.1
    · exact m.2.1
  · rcases hs with hs | rfl
    · exact (e x hs).2
    · exact m.2.2
theorem Duo.cput {x : Pack} {d e o : Sl} {S2 : Nat → Prop} {R : Int → World → Prop} (h : Duo w lo SA F p r q L L') (ht : Tab w) (hN : Str x.name) (hS2 : Old S2 w) (hd : SlR depE w S2 d x.deps) (he : SlR depE w S2 e x.peers) (ho : SlR depE w S2 o x.opt)
    (hR : ∀ w', But r w w' → Duo w' lo SA F p r q (refPut L x).2 L' → R (refPut L x).1 w') : SE.catalog_Catalog_Put (some p) x.name x.v.ma x.v.mi x.v.pa d e o w R := by
  have hlt := h.lt
  obtain ⟨⟨S, a, b, c⟩, ⟨T, hT, e', f⟩, g, k, m, n, o'⟩ := h
  refine catPut_L ht a hN hS2 hd he ho fun S' w' bt hC' hs hs' => hR w' bt ⟨⟨S', hC', fun y hy => ?_, fun hy => ?_⟩, ⟨T, hT.stay bt.1 fun y hy hs => bt.2.2.2.2 y hy ?_, e', f⟩, g, k, m, fun y hy => ⟨(n y hy).1, Nat.lt_of_lt_of_le (n y hy).2 bt.1⟩, o'⟩
  · rcases hs' y hy with hy | hy
    · exact b y hy
    · exact ⟨by omega, fun h => by have := (n y h).2; omega⟩
  · rcases hs' _ hy with hy | hy
    · exact c hy
    · omega
  · rcases hs with hs | rfl
    · rintro rfl; exact f hs
    · exact k.2
theorem Duo.rput {x : Pack} {d e o : Sl} {R : Int → World → Prop} (h : Duo w lo SA F p r q L L') (hA : Old SA w) (hN : Str x.name) (hd : SlR depE w SA d x.deps) (he : SlR depE w SA e x.peers) (ho : SlR depE w SA o x.opt)
    (hR : ∀ w', But q.block w w' → Duo w' lo SA F p r q L (refPut L' x).2 → R (refPut L' x).1 w') : SE.halyardref08_Catalog_Put (some q) x.name x.v.ma x.v.mi x.v.pa d e o w R := by
  have hlt := h.lt
  obtain ⟨⟨S, a, b, c⟩, ⟨T, hT, e', f⟩, g, k, m, n, o'⟩ := h
  have hqA : ¬ SA q.block := fun h => by have := o' _ h; omega
  refine r08Put_se hT hN hA hqA hd he ho fun w' bt hC' => hR w' bt ⟨⟨S, a.stay bt.1 fun y hy hs => bt.2.2.2.2 y hy ?_, b, c⟩, ⟨_, hC', fun y hy => ?_, fun hy => ?_⟩, g, k, m, fun y hy => ⟨(n y hy).1, Nat.lt_of_lt_of_le (n y hy).2 bt.1⟩, o'⟩
  · rcases hs with hs | rfl | rfl
    · rintro rfl; exact c hs
    · exact k.1.symm
    · exact k.2.symm
  · rcases hy with (hy | hy) | hy
    · exact e' y hy
    · exact ⟨.inl hy, fun h => by have := (n y h).1; have := o' y hy; omega⟩
    · exact ⟨.inr (by omega), fun h => by have := (n y h).2; omega⟩
  · rcases hy with (hy | hy) | hy
    · exact f hy
    · have := o' _ hy; omega
    · omega
end
end Go.Hal
namespace Go.Hal
open Go Go.RowKit Go.Proofs Go.Shelf
theorem FlatO.before {w w' : World} {lo : Nat} {s : Sl} {l : List Ver} (h : FlatO Ver.c 24 w lo s l) : l ≠ [] → ∀ ad, s.a = some ad → ¬ (w.heap.size ≤ ad.block ∧ ad.block < w'.heap.size) := by
  intro hne ad ha hb
  obtain ⟨g, tail, h1, _, h2⟩ := h.2.2.2.2.resolve_left hne
  rw [ha, Option.some.injEq] at h1
  subst h1
  have := h2.lt
  have := hb.1
  simp at this; omega
set_option maxHeartbeats 8000000 in
theorem catalogScript_se {sP sA : Sl} {lp : List Pack} {la : List AskQ} {SA : Nat → Prop} {w : World} {R : Bool → World → Prop} (ht : Tab w) (hA : Old SA w) (hP : SlR packE w SA sP lp) (hQ : SlR askE w SA sA la)
    (hR : ∀ w', Ext w w' → R true w') : SE.halyardlaw08_CatalogScript sP sA w R := by
  unfold SE.halyardlaw08_CatalogScript
  refine SE.catalog_New.go (catNew_L fun p r w1 x1 hC h1 h2 => ⟨_, rfl, newS.intro fun q w2 x2 hq hqb _ => bound ⟨fun _ => SE.halyardlaw08_known.go (known08_se (ht.ext (x1.trans x2)) fun w3 x3 => ⟨_, rfl, ?_⟩), (fun h => by cases h)⟩⟩)
  refine ⟨(fun h => by cases h), fun _ => ?_⟩
  have x03 := x1.trans (x2.trans x3)
  have s1 := x1.size
  have hcl := hC.lt
  have hD3 : Duo w3 w.heap.size SA None' p r q [] [] := ⟨⟨None', hC.ext (x2.trans x3), fun _ h => h.elim, fun h => h⟩, ⟨None', ⟨⟨Sl.nil, hq.ext x3, SlR.nil trivial⟩, fun h => h, fun _ h => h.elim, GoodL.nil⟩, fun _ h => h.elim, fun h => h⟩, ⟨h1, h2, by omega⟩, ⟨by omega, by omega⟩, ⟨fun h => h, fun h => h, fun h => h⟩, fun _ h => h.elim, hA⟩
  have hPl := hP.len
  have hQl := hQ.len
  refine loop1.up (N := max lp.length la.length) (Nat.max_le.2 ⟨hP.max, hQ.max⟩) (fun i w' => Ext w w' ∧ Duo w' w.heap.size SA None' p r q (catOf (lp.take i)) (catOf (lp.take i))) ⟨x03, hD3⟩ fun i w5 nxt hi ⟨x5, hD5⟩ hn => bound ⟨fun hor => ?_, fun hno => ?_⟩
  · have hlt : i < max lp.length la.length := by
      simp only [Bool.or_eq_true, decide_eq_true_eq] at hor
      omega
    refine join.named fun J8 hJ8 => join.named fun J83 hJ83 => ?_
    have hend : ∀ w', Ext w w' → Duo w' w.heap.size SA None' p r q (catOf (lp.take (i + 1))) (catOf (lp.take (i + 1))) → J8 w' := by
      subst hJ8
      intro w' hx hd
      exact hn hlt w' ⟨hx, hd⟩
    have hask : ∀ w', Ext w w' → Duo w' w.heap.size SA None' p r q (catOf (lp.take (i + 1))) (catOf (lp.take (i + 1))) → J83 w' := by
      subst hJ83
      intro w6 x6 hD6
      generalize catOf (lp.take (i + 1)) = L at *
      refine ⟨fun hlt2 => ?_, fun _ => hend w6 x6 hD6⟩
      have hlt2' : i < la.length := by omega
      obtain ⟨ad, rs, ps, hsa, hN, hr, hp, hc⟩ := askEl hQ hlt2'
      generalize la[i] = x at *
      obtain ⟨n, v, rng, pins⟩ := x
      simp only at hN hr hp hc
      refine ⟨ad, ⟨hsa, by omega, hlt2⟩, _, _, _, _, _, _, (hc _ x6).pre (r := []) rfl, newS.intro fun a11 w7 x7 hb7 _ _ => stw0.intro hb7 (by simp) fun w8 b8 _ hb8 => ?_⟩
      have x68 : Ext w6 w8 := b8.ext x7 (by omega)
      obtain ⟨S, hC6, _⟩ := hD6.cat
      obtain ⟨T, hT6, _⟩ := hD6.ref
      refine ⟨n, hb8.ldc.pre rfl, _, _, _, BoxAt.at1 hb8 (Ext.refl _) rfl, SE.catalog_Catalog_Get.go (catGet_se (n := n) (v := v) (hC6.ext x68) fun d e o w9 x9 _ hd he ho => ⟨_, _, _, _, _, _, _, _, rfl, newS.intro fun a19 w10 x10 hb10 ha10 _ => stw0.intro hb10 (by simp) fun w11 b11 _ hb11 => ?_⟩)⟩
      have x911 : Ext w9 w11 := b11.ext x10 (by omega)
      have x811 := x9.trans x911
      have x611 := x68.trans x811
      refine ⟨n, BoxAt.at0 hb8 x811 rfl, _, _, _, BoxAt.at1 hb8 x811 rfl, SE.halyardref08_Catalog_Get.go (r08Get_se (n := n) (v := v) (hT6.ext x611) fun d2 e2 o2 w12 x12 _ hd2 he2 ho2 => ⟨_, _, _, _, _, _, _, _, rfl, newS.intro fun a27 w13 x13 hb13 _ _ => stw0.intro hb13 (by simp) fun w14 b14 _ hb14 => bnd.drew fun w15 x15 => ?_⟩)⟩
      have x1214 : Ext w12 w14 := b14.ext x13 (by omega)
      have x1215 := x1214.trans x15
      have x1115 := x12.trans x1215
      have x915 := x911.trans x1115
      have e1 : (!((getL L n v).isSome == (getL L n v).isSome)) = false := by simp
      rw [e1]
      refine bound ⟨_, _, _, _, _, _, _, fun _ => (hb11.ext x1115).ldc.pre (r := []) rfl, _, _, _, _, _, _, _, fun _ => (hb14.ext x15).ldc.pre (r := []) rfl, fun _ => SE.halyardref05_Same.go (r05Same_se (p := getD L n v) (q := getD L n v) (S := fun b => (w8.heap.size ≤ b ∧ b < w9.heap.size) ∨ T b) ((hd.ext x915).dep.mono fun _ h => .inl h) ((he.ext x915).dep.mono fun _ h => .inl h) ((ho.ext x915).dep.mono fun _ h => .inl h) ((hd2.ext x1215).mono fun _ h => .inr h) ((he2.ext x1215).mono fun _ h => .inr h) ((ho2.ext x1215).mono fun _ h => .inr h) fun w16 x16 => ⟨_, rfl, ?_⟩), (fun h => by cases h)⟩
      have e2 : (false || (!decide (getD L n v = getD L n v))) = false := by simp
      dsimp only
      rw [e2]
      have x816 := x811.trans (x1115.trans x16)
      have x616 := x68.trans x816
      refine bound ⟨n, fun _ => BoxAt.at0 hb8 x816 rfl, n, fun _ => BoxAt.at0 hb8 x816 rfl, fun _ => callX.intro (SE.catalog_Catalog_Versions.go (catVersions_se (hC6.ext x616) fun t17 w17 x17 hF17 => ⟨x17, _, rfl, fun _ => SE.halyardref08_Catalog_Versions.go (r08Versions_se (hT6.ext (x616.trans x17)) fun t18 w18 x18 hV18 => ⟨_, rfl, fun _ => SE.halyardlaw08_versions.go (versions08_se (hF17.ext x18) (x17.trans x18).size hV18 hF17.before fun w19 bel => ⟨_, rfl, ?_⟩), (fun h => by cases h)⟩), (fun h => by cases h)⟩)), (fun h => by cases h)⟩
      have x1619 : Ext w16 w19 := (x17.trans x18).trans' bel
      have e3 : (false || (!decide (versOf n L = versOf n L))) = false := by simp
      dsimp only
      rw [e3]
      have x819 := x816.trans x1619
      have x619 := x68.trans x819
      have x019 := x6.trans x619
      refine bound ⟨n, fun _ => BoxAt.at0 hb8 x819 rfl, rs, fun _ => BoxAt.at1 hb8 x819 rfl, ps, fun _ => BoxAt.at1 hb8 x819 rfl, n, fun _ => BoxAt.at0 hb8 x819 rfl, rs, fun _ => BoxAt.at1 hb8 x819 rfl, ps, fun _ => BoxAt.at1 hb8 x819 rfl, fun _ => callX.intro (SE.catalog_Catalog_Candidates.go (catCands_se (S1 := SA) (S2 := SA) (hC6.ext x619) (hA.ext x019.size) (hA.ext x019.size) (hr.ext x019) (hp.ext x019) fun t20 w20 x20 hF20 => ⟨x20, _, rfl, fun _ => SE.halyardref08_Catalog_Candidates.go (r08Cands_se (S1 := SA) (S2 := SA) (hT6.ext (x619.trans x20)) (hr.ext (x019.trans x20)) (hp.ext (x019.trans x20)) fun t21 w21 x21 hV21 => ⟨_, rfl, fun _ => SE.halyardlaw08_versions.go (versions08_se (hF20.ext x21) (x20.trans x21).size hV21 hF20.before fun w22 bel2 => ⟨_, rfl, ?_⟩), (fun h => by cases h)⟩), (fun h => by cases h)⟩)), (fun h => by cases h)⟩
      have x1922 : Ext w19 w22 := (x20.trans x21).trans' bel2
      refine ⟨fun h => absurd h (by simp), fun _ => ?_⟩
      have x1122 : Ext w11 w22 := x1115.trans (x16.trans (x1619.trans x1922))
      have x922 := x911.trans x1122
      have x622 := x619.trans x1922
      have s8 := x68.size
      have s922 := x922.size
      refine ⟨_, _, _, _, _, _, _, (hb11.ext x1122).ldc.pre (r := []) rfl, SE.halyardlaw08_over.go (over08_se (p := getD L n v) (S := fun b => w8.heap.size ≤ b ∧ b < w9.heap.size) (fun b hb => Nat.lt_of_lt_of_le hb.2 s922) (hd.ext x922) (he.ext x922) (ho.ext x922) fun w23 hr23 => ⟨rfl, ?_⟩)⟩
      have x623 : Ext w6 w23 := hr23.ext x622 fun b hb => by omega
      exact hend w23 (x6.trans x623) (hD6.ext x623)
    refine ⟨fun hlt1 => ?_, fun hge => hask w5 x5 ?_⟩
    · have hlt1' : i < lp.length := by omega
      obtain ⟨ad, d, e, o, hsa, _, hN, hd, he, ho, hc⟩ := packEl hP hlt1'
      have hsucc : catOf (lp.take (i + 1)) = (refPut (catOf (lp.take i)) lp[i]).2 := by rw [List.take_succ_eq_append_getElem hlt1', catOf_snoc]
      rw [hsucc] at hask
      clear hend
      generalize catOf (lp.take i) = L at *
      refine ⟨ad, ⟨hsa, by omega, hlt1⟩, _, _, _, _, _, _, _, (hc _ x5).pre (r := []) rfl, SE.halyardlaw08_own.go (own08_se (p := lp[i]) (hA.ext x5.size) (hd.ext x5) (he.ext x5) (ho.ext x5) fun d' e' o' w6 x6 hd' he' ho' => ⟨_, _, _, _, _, _, _, rfl, newS.intro fun a91 w7 x7 hb7 hab _ => stw0.intro hb7 (by simp) fun w8 b8 _ hb8 => bnd.drew fun w9 x9 => ?_⟩)⟩
      have x69 : Ext w6 w9 := (b8.ext x7 (by omega)).trans x9
      have x59 := x6.trans x69
      have x09 := x5.trans x59
      have s69 := x69.size
      have s56 := x6.size
      have hb9 := hb8.ext x9
      have hD9 := hD5.free x59
      have hlt5 := hD5.lt
      have up : ∀ b, (w5.heap.size ≤ b ∧ b < w6.heap.size) → (w5.heap.size ≤ b ∧ b < w9.heap.size) := fun b hb => ⟨hb.1, by omega⟩
      have hd9 := (hd'.ext x69).mono up
      have he9 := (he'.ext x69).mono up
      have ho9 := (ho'.ext x69).mono up
      have hle := hD5.le
      have fin : ∀ w10 w11, But r w9 w10 → But q.block w10 w11 → Duo w11 w.heap.size SA (fun b => w5.heap.size ≤ b ∧ b < w9.heap.size) p r q (refPut L lp[i]).2 (refPut L lp[i]).2 →
          BoxAt w11 a91 [.string lp[i].name, .int .i64 lp[i].v.ma, .int .i64 lp[i].v.mi, .int .i64 lp[i].v.pa, d'.v, e'.v, o'.v] ∧ SE.halyardlaw08_over lp[i].name lp[i].v.ma lp[i].v.mi lp[i].v.pa d' e' o' w11 (fun w' => (Value.tuple #[] : Value) = Value.tuple #[] ∧ J83 w') := fun w10 w11 b10 b11 hD11 => by
        have x010 : Ext w w10 := b10.ext x09 hle.1
        have x011 : Ext w w11 := b11.ext x010 hle.2.2
        have s11 : w9.heap.size ≤ w11.heap.size := Nat.le_trans b10.1 b11.1
        refine ⟨b11.box (b10.box hb9 (by omega)) (by omega), ?_⟩
        have k1 := hD9.fr
        refine over08_se (S := fun b => w5.heap.size ≤ b ∧ b < w9.heap.size) (fun b hb => by omega) ((hd9.but b10 k1.2.1).but b11 k1.2.2) ((he9.but b10 k1.2.1).but b11 k1.2.2) ((ho9.but b10 k1.2.1).but b11 k1.2.2) fun w12 hr12 => ?_
        have s5 := x5.size
        exact ⟨rfl, hask w12 (hr12.ext x011 fun b hb => by omega) (hD11.rest hr12)⟩
      refine ⟨_, _, _, _, _, _, _, hb9.ldc.pre (r := []) rfl, ad, ⟨hsa, by omega, hlt1⟩, ?_, ?_⟩
      · refine SE.catalog_Catalog_Put.go (hD9.cput (x := lp[i]) (S2 := fun b => w5.heap.size ≤ b ∧ b < w9.heap.size) (ht.ext x09) hN (fun b hb => hb.2) hd9.dep he9.dep ho9.dep fun w10 b10 hD10 => ⟨_, rfl, ?_⟩)
        have x010 : Ext w w10 := b10.ext x09 hle.1
        refine ⟨_, _, _, _, _, _, _, (hc _ x010).pre (r := []) rfl, SE.halyardref08_Catalog_Put.go (hD10.rput (x := lp[i]) (hA.ext x010.size) hN (hd.ext x010) (he.ext x010) (ho.ext x010) fun w11 b11 hD11 => ⟨_, rfl, fun h => absurd rfl h, fun _ => ?_⟩)⟩
        obtain ⟨f1, f2⟩ := fin w10 w11 b10 b11 hD11
        exact ⟨_, _, _, _, _, _, _, f1.ldc.pre (r := []) rfl, SE.halyardlaw08_over.go f2⟩
      · refine ⟨_, _, _, _, _, _, _, (hc _ x09).pre (r := []) rfl, SE.catalog_Catalog_Put.go (hD9.cput (x := lp[i]) (S2 := fun b => w5.heap.size ≤ b ∧ b < w9.heap.size) (ht.ext x09) hN (fun b hb => hb.2) hd9.dep he9.dep ho9.dep fun w10 b10 hD10 => ⟨_, rfl, ?_⟩)⟩
        have x010 : Ext w w10 := b10.ext x09 hle.1
        refine SE.halyardref08_Catalog_Put.go (hD10.rput (x := lp[i]) (hA.ext x010.size) hN (hd.ext x010) (he.ext x010) (ho.ext x010) fun w11 b11 hD11 => ⟨_, rfl, fun h => absurd rfl h, fun _ => ?_⟩)
        obtain ⟨f1, f2⟩ := fin w10 w11 b10 b11 hD11
        exact ⟨_, _, _, _, _, _, _, f1.ldc.pre (r := []) rfl, SE.halyardlaw08_over.go f2⟩
    · have : lp.length ≤ i := by omega
      rw [List.take_of_length_le (by omega)]
      rw [List.take_of_length_le this] at hD5
      exact hD5
  · simp only [Bool.or_eq_false_iff, decide_eq_false_iff_not] at hno
    have : lp.length ≤ i := by omega
    rw [List.take_of_length_le this] at hD5
    generalize catOf lp = L at *
    obtain ⟨S, hC5, _⟩ := hD5.cat
    obtain ⟨T, hT5, _⟩ := hD5.ref
    obtain ⟨s, hb5, hs5⟩ := hT5.at_
    have hLl := hT5.good.le
    refine bnd.drew fun w6 x6 => ⟨s, hb5.at0 (r := []) x6 rfl, callX.intro (SE.catalog_Catalog_All.go (catAll_sep (hC5.ext x6) fun t7 w7 x7 hSep => ⟨x7, _, rfl, SE.halyardlaw08_packages.go (packages08_se (T := T) (lo := w6.heap.size) x7.size (fun b hb => hb) hSep (by rw [maxLen_eq]; omega) (hs5.ext (x6.trans x7)) (fun b hb h => ?_) (hT5.old.ext (x6.trans x7).size) fun w8 bel => ⟨_, rfl, ?_⟩)⟩))⟩
    · have := hT5.old b hb; have := x6.size; omega
    · have x68 : Ext w6 w8 := x7.trans' bel
      have x58 := x6.trans x68
      have e1 : decide (L = L) = true := by simp
      rw [e1]
      refine ⟨s, fun _ => hb5.at0 (r := []) x58 rfl, fun _ => callX.intro (SE.catalog_Catalog_All.go (catAll_sep (hC5.ext x58) fun t9 w9 x9 hSep9 => ⟨x9, _, rfl, fun _ => SE.halyardlaw08_packages.go (packages08_se (T := T) (lo := w8.heap.size) x9.size (fun b hb => hb) hSep9 (by rw [maxLen_eq]; omega) (hs5.ext (x58.trans x9)) (fun b hb h => ?_) (hT5.old.ext (x58.trans x9).size) fun w10 bel2 => ⟨_, rfl, ?_⟩), (fun h => by cases h)⟩)), (fun h => by cases h)⟩
      · have := hT5.old b hb; have := x58.size; omega
      · have x810 : Ext w8 w10 := x9.trans' bel2
        have h := hR w10 (x5.trans (x58.trans x810))
        have e2 : (true && decide (L = L)) = true := by simp
        rw [← e2] at h
        exact h
end Go.Hal
namespace Go.Hal
open Go Go.RowKit Go.ChangeShapes Go.WideShapes Go.ChangeAt Go.Proofs
theorem rdAsk {H : Type} {W : World} : Rd H Tryz.prog W askE 55 := by
  intro enc n cs x h hw
  have hl := rd_len Tryz.underlying55 h
  have hc : Tryz.prog.cellsOf 55 = 6 := by kernel_rfl
  rw [hc] at hl
  obtain ⟨y0, m0, h0, w0⟩ := rd_field Tryz.underlying55 h hw 0 9 0 1 ⟨_, rfl, rfl, rfl⟩ ceS
  obtain ⟨y1, m1, h1, w1⟩ := rd_field Tryz.underlying55 h hw 1 30 1 3 ⟨_, rfl, rfl, rfl⟩ ceV
  obtain ⟨y2, m2, h2, w2⟩ := rd_field Tryz.underlying55 h hw 2 53 4 1 ⟨_, rfl, rfl, rfl⟩ ceLs
  obtain ⟨y3, m3, h3, w3⟩ := rd_field Tryz.underlying55 h hw 3 28 5 1 ⟨_, rfl, rfl, rfl⟩ ceLp
  obtain ⟨s, e0, hs⟩ := rdStr h0
  obtain ⟨v, e1⟩ := rdVer h1 w1
  obtain ⟨r, lr, e2, hr, _⟩ := rdSpans enc m2 _ _ h2 w2
  obtain ⟨p, lp, e3, hp, _⟩ := rdPins enc m3 _ _ h3 w3
  match cs, hl with
  | [c0, c1, c2, c3, c4, c5], _ =>
    simp [Ver.c] at e0 e1 e2 e3
    exact ⟨⟨s, v, lr, lp⟩, hs, r, p, by rw [e0, e1.1, e1.2.1, e1.2.2, e2, e3], hr, hp⟩
theorem rdAsks {H : Type} {W : World} : RdS H Tryz.prog W askE 43 := rd_slice Tryz.underlying43 (by kernel_rfl) (by kernel_rfl) (by decide) rdAsk
end Go.Hal
