/- Lemmas for the claim K10c: how the program's functions run, and what they answer; no condition but those that each theorem names. -/
import Derived.Test.YtlnneokngjfbbaaGreatDoorProg
import Derived.Shelf.SlSortCmp.NoneTotal
import Derived.Ground.SlsfProg
import Derived.Shelf.Sort.Plain
import Derived.Shelf.Slices.In.SortNone
import Derived.Ground.NamesProg
import Derived.Test.YtlnneokngjfbbaaGreatDoorK10cB1
set_option linter.unusedVariables false
set_option linter.unusedSimpArgs false
namespace Go.Hal
open Go Go.RowKit Go.Proofs
namespace StW
abbrev El : Type := WantC × Nat
def cells (x : WantC) : List Value := [.string x.name, .int .i64 x.kind, x.range.v]
def fc (x : El) : List Value := cells x.1
theorem fc_len (x : El) : (fc x).length = 3 := rfl
def CmpOk (cmp : Value) (c : WantC → WantC → Int) (g : Nat) (w0 : World) : Prop :=
  ∀ (x y : WantC) (w : World) (k : Value → World → Prop), But g w0 w → (∀ w', Ext w w' → k (.int .i64 (c x y)) w') → callV Tryz.prog cmp [.agg (cells x).toArray, .agg (cells y).toArray] w k
theorem CmpOk.but {cmp : Value} {c : WantC → WantC → Int} {g : Nat} {w0 w1 : World} (h : CmpOk cmp c g w0) (hb : But g w0 w1) : CmpOk cmp c g w1 := fun x y w k hw hk => h x y w k (hb.trans hw) hk
section
variable {cmp : Value} {c : WantC → WantC → Int} {g : Nat}
set_option maxHeartbeats 2000000 in
theorem insertion_se (hO : Ord3 c) {data : Sl} {w : World} {R : World → Prop} {A M0 B : List El} {tail : List Value} {a b : Int} (hc : CmpOk cmp c g w) (hd : data.a = some ⟨g, 0, none⟩) (hlen : data.len = (A ++ M0 ++ B).length) (hbig : data.len < 4611686018427387904)
    (hB : RowB fc w g (A ++ M0 ++ B) tail) (ha : a = (A.length : Int)) (hb : b = ((A.length + M0.length : Nat) : Int)) (hM : M0.Pairwise fun x y => x.2 < y.2)
    (hR : ∀ w' M, But g w w' → M.Perm M0 → M.Pairwise (Ah c) → RowB fc w' g (A ++ M ++ B) tail → R w') : SE.slices_insertionSortCmpFunc_apiWant data a b cmp w R := by
  unfold SE.slices_insertionSortCmpFunc_apiWant
  subst ha hb
  simp only [List.length_append] at hlen
  rw [wrapI_eq (by omega) (by omega)]
  by_cases h0 : M0 = []
  · subst h0
    refine ⟨fun i w' => w' = w ∧ i = (A.length : Int) + 1, fun _ _ => 0, ⟨rfl, rfl⟩, ?_⟩
    rintro i w' ⟨rfl, rfl⟩
    refine ⟨fun h => ?_, fun _ => hR _ [] ⟨Nat.le_refl _, rfl, rfl, rfl, fun _ _ _ => rfl⟩ (List.Perm.refl _) .nil hB⟩
    simp at h; omega
  have hpos : 0 < M0.length := List.length_pos_iff.2 h0
  refine ⟨fun i w' => ∃ (n : Nat) (M : List El), i = ((A.length + n : Nat) : Int) ∧ 1 ≤ n ∧ n ≤ M0.length ∧ But g w w' ∧ M.Perm (M0.take n) ∧ M.Pairwise (Ah c) ∧ RowB fc w' g (A ++ M ++ (M0.drop n ++ B)) tail, fun i _ => (A.length + M0.length) - i.toNat, ⟨1, M0.take 1, by omega, Nat.le_refl _, hpos, ⟨Nat.le_refl _, rfl, rfl, rfl, fun _ _ _ => rfl⟩, List.Perm.refl _, ?_, ?_⟩, ?_⟩
  · cases M0 with
    | nil => exact .nil
    | cons x r => exact List.pairwise_singleton _ _
  · rw [← List.append_assoc, List.append_assoc A, List.take_append_drop]; exact hB
  rintro i w1 ⟨n, M, rfl, hn1, hn2, b1, hp, hs, hB1⟩
  have hMl : M.length = n := by rw [hp.length_eq, List.length_take]; omega
  refine ⟨fun hlt => ?_, fun hge => ?_⟩
  · have hn3 : n < M0.length := by omega
    have hdrop : M0.drop n = M0[n] :: M0.drop (n + 1) := List.drop_eq_getElem_cons hn3
    have hx : ∀ y ∈ M, y.2 < M0[n].2 := fun y hy => by
      have hy' := hp.mem_iff.1 hy
      obtain ⟨j, hj, rfl⟩ := List.mem_iff_getElem.1 hy'
      rw [List.length_take] at hj
      rw [List.getElem_take]
      exact List.pairwise_iff_getElem.1 hM j n (by omega) hn3 (by omega)
    rw [hdrop] at hB1
    generalize hX : M0[n] = x at *
    refine ⟨fun j w' => ∃ (M1 M2 : List El), j = ((A.length + M1.length : Nat) : Int) ∧ M1 ++ M2 = M ∧ (∀ y ∈ M2, Ah c x y) ∧ But g w w' ∧ RowB fc w' g (A ++ M1 ++ x :: (M2 ++ (M0.drop (n + 1) ++ B))) tail, fun j _ => j.toNat, ⟨M, [], by rw [hMl], by simp, by simp, b1, by simpa using hB1⟩, ?_⟩
    rintro j w2 ⟨M1, M2, rfl, hM12, hx2, b2, hB2⟩
    refine bnd.drew fun w3 x3 => bound ?_
    have hB3 := hB2.ext x3
    have b3 : But g w w3 := b2.ext' x3
    have hl12 : M1.length + M2.length = n := by rw [← hMl, ← hM12, List.length_append]
    have fin : ∀ w' w0, But g w w' → RowB fc w' g (A ++ M1 ++ x :: (M2 ++ (M0.drop (n + 1) ++ B))) tail → (∀ y ∈ M1, Ah c y x) → w0 = w' →
        (∃ (n' : Nat) (M' : List El), wrapI (((A.length + n : Nat) : Int) + 1) = ((A.length + n' : Nat) : Int) ∧ 1 ≤ n' ∧ n' ≤ M0.length ∧ But g w w0 ∧ M'.Perm (M0.take n') ∧ M'.Pairwise (Ah c) ∧ RowB fc w0 g (A ++ M' ++ (M0.drop n' ++ B)) tail) ∧ (A.length + M0.length) - (wrapI (((A.length + n : Nat) : Int) + 1)).toNat < (A.length + M0.length) - (((A.length + n : Nat) : Int)).toNat := fun w' w0 b' hB' h1 e => by
      subst e
      rw [wrapI_eq (by omega) (by omega)]
      refine ⟨⟨n + 1, M1 ++ x :: M2, by omega, by omega, by omega, b', ?_, ?_, by simpa using hB'⟩, by omega⟩
      · rw [List.take_succ_eq_append_getElem hn3, hX]
        refine (List.perm_middle).trans ?_
        rw [hM12]
        exact (hp.cons x).trans (List.perm_append_singleton x _).symm
      · rw [← hM12] at hs
        obtain ⟨p1, p2, p3⟩ := List.pairwise_append.1 hs
        refine List.pairwise_append.2 ⟨p1, List.pairwise_cons.2 ⟨hx2, p2⟩, fun y hy z hz => ?_⟩
        rcases List.mem_cons.1 hz with rfl | hz
        · exact h1 y hy
        · exact p3 y hy z hz
    rcases List.eq_nil_or_concat M1 with rfl | ⟨M1', y, rfl⟩
    · have hf : decide ((A.length : Int) < ((A.length + ([] : List El).length : Nat) : Int)) = false := by simp
      rw [hf]
      refine ⟨⟨g, 0, none⟩, (fun h => by cases h), ⟨#[]⟩, 0, Sl.nil, (fun h => by cases h), ⟨g, 0, none⟩, (fun h => by cases h), ⟨#[]⟩, 0, Sl.nil, (fun h => by cases h), (fun h => by cases h), fun _ => ⟨(fun h => by cases h), fun _ => ?_⟩⟩
      exact fin w3 w3 b3 hB3 (by simp) rfl
    · simp only [List.concat_eq_append] at *
      have hj : decide ((A.length : Int) < ((A.length + (M1' ++ [y]).length : Nat) : Int)) = true := by simp; omega
      rw [hj]
      have hlM : (M1' ++ [y]).length = M1'.length + 1 := by simp
      have e1 : wrapI (((A.length + (M1' ++ [y]).length : Nat) : Int) - 1) = ((A.length + M1'.length : Nat) : Int) := by rw [hlM, wrapI_eq (by omega) (by omega)]; omega
      rw [e1]
      have hl2 : data.len = A.length + (n + 1 + (M0.drop (n + 1) ++ B).length) := by
        rw [hlen, List.length_append, List.length_drop]; omega
      have eB : A ++ (M1' ++ [y]) ++ x :: (M2 ++ (M0.drop (n + 1) ++ B)) = (A ++ M1') ++ y :: x :: (M2 ++ (M0.drop (n + 1) ++ B)) := by simp
      rw [eB] at hB3
      have ey : (A ++ M1').length = A.length + M1'.length := List.length_append
      have gy := hB3.ld' fc_len (get_at' ey)
      have gx := hB3.ld' fc_len (get_at1' (n := A.length + (M1' ++ [y]).length) (by rw [hlM, ey]; omega))
      have hym : y ∈ M := by rw [← hM12]; simp
      have hright := Ah.right hO (hx y hym)
      refine ⟨_, fun _ => ⟨hd, by omega, by omega⟩, _, _, _, fun _ => gx, _, fun _ => ⟨hd, by omega, by omega⟩, _, _, _, fun _ => gy, fun _ => ?_, (fun h => by cases h)⟩
      refine hc x.1 y.1 w3 _ b3 fun w4 x4 => ⟨_, rfl, fun h => ?_, fun h => ?_⟩
      · simp only [Bool.true_and, decide_eq_true_eq] at h
        refine bnd.drew fun w5 x5 => ?_
        have x35 := x4.trans x5
        have hB5 := hB3.ext x35
        have gy5 := hB5.ld' fc_len (get_at' ey)
        have gx5 := hB5.ld' fc_len (get_at1' (n := A.length + (M1' ++ [y]).length) (by rw [hlM, ey]; omega))
        refine ⟨_, ⟨hd, by omega, by omega⟩, _, _, _, gy5, _, ⟨hd, by omega, by omega⟩, _, _, _, gx5, _, ⟨hd, by omega, by omega⟩, hB5.st fc_len (i := A.length + (M1' ++ [y]).length) (x := y) (by simp only [List.length_append, List.length_cons, List.length_nil]; omega) fun w6 b6 hB6 => ⟨_, ⟨hd, by omega, by omega⟩, hB6.st fc_len (i := A.length + M1'.length) (x := x) (by simp only [List.length_set, List.length_append, List.length_cons, List.length_nil]; omega) fun w7 b7 hB7 => ?_⟩⟩
        have e2 : ((((A ++ M1') ++ y :: x :: (M2 ++ (M0.drop (n + 1) ++ B))).set (A.length + (M1' ++ [y]).length) y).set (A.length + M1'.length) x) = (A ++ M1') ++ x :: y :: (M2 ++ (M0.drop (n + 1) ++ B)) := by
          have := swap_adj (A ++ M1') (M2 ++ (M0.drop (n + 1) ++ B)) y x
          rw [ey] at this
          rw [hlM, ← Nat.add_assoc]; exact this
        rw [e2] at hB7
        refine ⟨⟨M1', y :: M2, rfl, by rw [← hM12]; simp, fun z hz => ?_, ((b3.ext' x35).trans b6).trans b7, by simpa using hB7⟩, by rw [hlM]; omega⟩
        rcases List.mem_cons.1 hz with rfl | hz
        · exact hright.1 h
        · exact hx2 z hz
      · simp only [Bool.true_and, decide_eq_false_iff_not] at h
        refine fin w4 w4 (b3.ext' x4) (by rw [eB]; exact hB3.ext x4) (fun z hz => ?_) rfl
        have hyx := hright.2 h
        rcases List.mem_append.1 hz with hz | hz
        · refine Ah.trans hO ?_ hyx
          rw [← hM12] at hs
          have := (List.pairwise_append.1 (List.pairwise_append.1 hs).1).2.2 z hz y (by simp)
          exact this
        · simp at hz; subst hz; exact hyx
  · have hn : n = M0.length := by omega
    subst hn
    rw [List.take_length] at hp
    rw [List.drop_length, List.nil_append] at hB1
    exact hR w1 M b1 hp hs hB1
set_option maxHeartbeats 1000000 in
theorem swapRange_se {data : Sl} {w : World} {R : World → Prop} {P X M Y Q : List El} {tail : List Value} {a b n : Int} (hd : data.a = some ⟨g, 0, none⟩) (hlen : data.len = (P ++ X ++ M ++ Y ++ Q).length) (hbig : data.len < 4611686018427387904)
    (hB : RowB fc w g (P ++ X ++ M ++ Y ++ Q) tail) (ha : a = (P.length : Int)) (hb : b = ((P.length + X.length + M.length : Nat) : Int)) (hn : n = (X.length : Int)) (hXY : Y.length = X.length)
    (hR : ∀ w', But g w w' → RowB fc w' g (P ++ Y ++ M ++ X ++ Q) tail → R w') : SE.slices_swapRangeCmpFunc_apiWant data a b n cmp w R := by
  unfold SE.slices_swapRangeCmpFunc_apiWant
  subst ha hb hn
  simp only [List.length_append] at hlen
  refine loop1.up (N := X.length) (by rw [maxLen_eq]; omega) (fun i w' => But g w w' ∧ RowB fc w' g (P ++ (Y.take i ++ X.drop i) ++ M ++ (X.take i ++ Y.drop i) ++ Q) tail) ⟨⟨Nat.le_refl _, rfl, rfl, rfl, fun _ _ _ => rfl⟩, by simpa using hB⟩ fun i w1 nxt hi ⟨b1, hB1⟩ hnx => ⟨fun hlt => ?_, fun hge => ?_⟩
  · have hi' : i < X.length := by omega
    have hiY : i < Y.length := by omega
    refine bnd.drew fun w2 x2 => ?_
    rw [wrapI_eq (x := ((P.length + X.length + M.length : Nat) : Int) + (i : Int)) (by omega) (by omega), wrapI_eq (x := (P.length : Int) + (i : Int)) (by omega) (by omega)]
    rw [show ((P.length + X.length + M.length : Nat) : Int) + (i : Int) = ((P.length + X.length + M.length + i : Nat) : Int) by omega, show (P.length : Int) + (i : Int) = ((P.length + i : Nat) : Int) by omega]
    have hB2 := hB1.ext x2
    have eL : P ++ (Y.take i ++ X.drop i) ++ M ++ (X.take i ++ Y.drop i) ++ Q = (P ++ Y.take i) ++ X[i] :: ((X.drop (i + 1) ++ M ++ X.take i) ++ Y[i] :: (Y.drop (i + 1) ++ Q)) := by
      rw [List.drop_eq_getElem_cons hi', List.drop_eq_getElem_cons hiY]; simp only [List.append_assoc, List.cons_append]
    rw [eL] at hB2
    have l1 : (P ++ Y.take i).length = P.length + i := by simp; omega
    have l2 : (X.drop (i + 1) ++ M ++ X.take i).length + 1 = X.length + M.length := by simp; omega
    have gx := hB2.ld' fc_len (get_at' l1)
    have hgy : ((P ++ Y.take i) ++ X[i] :: ((X.drop (i + 1) ++ M ++ X.take i) ++ Y[i] :: (Y.drop (i + 1) ++ Q)))[P.length + X.length + M.length + i]? = some Y[i] := by
      rw [← List.cons_append, ← List.append_assoc]
      refine get_at' ?_
      simp only [List.length_append, List.length_cons] at l1 l2 ⊢; omega
    have gy := hB2.ld' fc_len hgy
    have b2 := b1.ext' x2
    have hln : ((P ++ Y.take i) ++ X[i] :: ((X.drop (i + 1) ++ M ++ X.take i) ++ Y[i] :: (Y.drop (i + 1) ++ Q))).length = data.len := by
      rw [← eL, hlen]; simp; omega
    refine ⟨_, ⟨hd, by omega, by omega⟩, _, _, _, gy, _, ⟨hd, by omega, by omega⟩, _, _, _, gx, _, ⟨hd, by omega, by omega⟩, hB2.st fc_len (i := P.length + i) (x := Y[i]) (by rw [hln]; omega) fun w3 b3 hB3 => ⟨_, ⟨hd, by omega, by omega⟩, hB3.st fc_len (i := P.length + X.length + M.length + i) (x := X[i]) (by rw [List.length_set, hln]; omega) fun w4 b4 hB4 => hnx hi' _ ⟨(b2.trans b3).trans b4, ?_⟩⟩⟩
    have e := swap_far (P ++ Y.take i) (X.drop (i + 1) ++ M ++ X.take i) (Y.drop (i + 1) ++ Q) X[i] Y[i]
    rw [l1, show P.length + i + 1 + (X.drop (i + 1) ++ M ++ X.take i).length = P.length + X.length + M.length + i by omega] at e
    rw [e] at hB4
    have e2 : P ++ (Y.take (i + 1) ++ X.drop (i + 1)) ++ M ++ (X.take (i + 1) ++ Y.drop (i + 1)) ++ Q = (P ++ Y.take i) ++ Y[i] :: ((X.drop (i + 1) ++ M ++ X.take i) ++ X[i] :: (Y.drop (i + 1) ++ Q)) := by
      rw [List.take_succ_eq_append_getElem hi', List.take_succ_eq_append_getElem hiY]; simp only [List.append_assoc, List.cons_append, List.nil_append]
    rw [e2]; exact hB4
  · have : i = X.length := by omega
    subst this
    rw [List.take_of_length_le (by omega), List.drop_length, List.append_nil, List.take_length, List.drop_eq_nil_of_le (by omega), List.append_nil] at hB1
    exact hR w1 b1 hB1
set_option maxHeartbeats 1000000 in
theorem rotate_se {data : Sl} {w : World} {R : World → Prop} {P X Y Q : List El} {tail : List Value} {a m b : Int} (hd : data.a = some ⟨g, 0, none⟩) (hlen : data.len = (P ++ X ++ Y ++ Q).length) (hbig : data.len < 4611686018427387904)
    (hB : RowB fc w g (P ++ X ++ Y ++ Q) tail) (ha : a = (P.length : Int)) (hm : m = ((P.length + X.length : Nat) : Int)) (hb : b = ((P.length + X.length + Y.length : Nat) : Int)) (hX : 0 < X.length) (hY : 0 < Y.length)
    (hR : ∀ w', But g w w' → RowB fc w' g (P ++ Y ++ X ++ Q) tail → R w') : SE.slices_rotateCmpFunc_apiWant data a m b cmp w R := by
  unfold SE.slices_rotateCmpFunc_apiWant
  subst ha hb hm
  simp only [List.length_append] at hlen
  refine ⟨fun i j w' => ∃ P' X' Y' Q' : List El, i = (X'.length : Int) ∧ j = (Y'.length : Int) ∧ P'.length + X'.length = P.length + X.length ∧ 0 < X'.length ∧ 0 < Y'.length ∧ data.len = P'.length + X'.length + Y'.length + Q'.length ∧ P' ++ Y' ++ X' ++ Q' = P ++ Y ++ X ++ Q ∧ But g w w' ∧ RowB fc w' g (P' ++ X' ++ Y' ++ Q') tail,
    fun i j _ => i.toNat + j.toNat, ⟨P, X, Y, Q, by rw [wrapI_eq (by omega) (by omega)]; omega, by rw [wrapI_eq (by omega) (by omega)]; omega, rfl, hX, hY, hlen, rfl, ⟨Nat.le_refl _, rfl, rfl, rfl, fun _ _ _ => rfl⟩, hB⟩, ?_⟩
  rintro i j w1 ⟨P', X', Y', Q', rfl, rfl, hm, hX', hY', hl, hg, b1, hB1⟩
  have wi : wrapI (((P.length + X.length : Nat) : Int) - (X'.length : Int)) = (P'.length : Int) := by rw [wrapI_eq (by omega) (by omega)]; omega
  rw [wi]
  refine ⟨fun hne => ⟨fun hlt => ?_, fun hge => ?_⟩, fun heq => ?_⟩
  · have hXe : X' = X'.take Y'.length ++ X'.drop Y'.length := (List.take_append_drop _ _).symm
    have l1 : (X'.take Y'.length).length = Y'.length := by rw [List.length_take]; omega
    have l2 : (X'.drop Y'.length).length = X'.length - Y'.length := List.length_drop
    generalize X'.take Y'.length = X1 at *
    generalize X'.drop Y'.length = X2 at *
    subst hXe
    rw [List.length_append] at *
    refine SE.slices_swapRangeCmpFunc_apiWant.go (swapRange_se (P := P') (X := X1) (M := X2) (Y := Y') (Q := Q') hd (by simp only [List.length_append]; omega) hbig (by simpa using hB1) rfl (by omega) (by omega) (by omega) fun w2 b2 hB2 => ⟨rfl, ?_⟩)
    rw [wrapI_eq (by omega) (by omega)]
    refine ⟨⟨P' ++ Y', X2, X1, Q', by omega, by omega, by rw [List.length_append]; omega, by omega, by omega, by rw [List.length_append]; omega, by rw [← hg]; simp, b1.trans b2, by simpa using hB2⟩, by show Int.toNat _ + Int.toNat _ < Int.toNat _ + Int.toNat _; omega⟩
  · have hlt : X'.length < Y'.length := by
      rcases Nat.lt_trichotomy X'.length Y'.length with h | h | h
      · exact h
      · exact absurd (by rw [h]) hne
      · omega
    have hYe : Y' = Y'.take (Y'.length - X'.length) ++ Y'.drop (Y'.length - X'.length) := (List.take_append_drop _ _).symm
    have l1 : (Y'.take (Y'.length - X'.length)).length = Y'.length - X'.length := by rw [List.length_take]; omega
    have l2 : (Y'.drop (Y'.length - X'.length)).length = X'.length := by rw [List.length_drop]; omega
    generalize hn1 : Y'.take (Y'.length - X'.length) = Y1 at *
    generalize hn2 : Y'.drop (Y'.length - X'.length) = Y2 at *
    clear hn1 hn2
    subst hYe
    rw [List.length_append] at *
    have e1 : wrapI (wrapI (((P.length + X.length : Nat) : Int) + ((Y1.length + Y2.length : Nat) : Int)) - (X'.length : Int)) = ((P'.length + X'.length + Y1.length : Nat) : Int) := by
      rw [wrapI_eq (x := ((P.length + X.length : Nat) : Int) + ((Y1.length + Y2.length : Nat) : Int)) (by omega) (by omega), wrapI_eq (by omega) (by omega)]; omega
    rw [e1]
    refine SE.slices_swapRangeCmpFunc_apiWant.go (swapRange_se (P := P') (X := X') (M := Y1) (Y := Y2) (Q := Q') hd (by simp only [List.length_append]; omega) hbig (by simpa using hB1) rfl rfl rfl l2 fun w2 b2 hB2 => ⟨rfl, ?_⟩)
    rw [wrapI_eq (by omega) (by omega)]
    refine ⟨⟨P', Y2, Y1, X' ++ Q', by omega, by omega, by omega, by omega, by omega, by rw [List.length_append]; omega, by rw [← hg]; simp, b1.trans b2, by simpa using hB2⟩, by show Int.toNat _ + Int.toNat _ < Int.toNat _ + Int.toNat _; omega⟩
  · have heq : X'.length = Y'.length := by
      have := Classical.not_not.1 heq; omega
    refine SE.slices_swapRangeCmpFunc_apiWant.go (swapRange_se (P := P') (X := X') (M := []) (Y := Y') (Q := Q') hd (by simp only [List.length_append, List.length_nil]; omega) hbig (by simpa using hB1) rfl (by simp only [List.length_nil]; omega) rfl heq.symm fun w2 b2 hB2 => ⟨rfl, ?_⟩)
    exact hR w2 (b1.trans b2) (by rw [← hg]; simpa using hB2)
set_option maxHeartbeats 4000000 in
theorem symMerge_se (hO : Ord3 c) {data : Sl} {tail : List Value} (hd : data.a = some ⟨g, 0, none⟩) (hbig : data.len < 4611686018427387904) :
    ∀ (N : Nat) {w : World} {R : World → Prop} {P L X Q : List El} {a m b : Int}, L.length + X.length ≤ N → CmpOk cmp c g w → data.len = (P ++ L ++ X ++ Q).length → RowB fc w g (P ++ L ++ X ++ Q) tail →
      a = (P.length : Int) → m = ((P.length + L.length : Nat) : Int) → b = ((P.length + L.length + X.length : Nat) : Int) → 0 < L.length → 0 < X.length → L.Pairwise (Ah c) → X.Pairwise (Ah c) → (∀ x ∈ L, ∀ y ∈ X, x.2 < y.2) →
      (∀ w' M, But g w w' → M.Perm (L ++ X) → M.Pairwise (Ah c) → RowB fc w' g (P ++ M ++ Q) tail → R w') → SE.slices_symMergeCmpFunc_apiWant data a m b cmp w R
  | 0, _, _, _, L, _, _, _, _, _, h, _, _, _, _, _, _, hL, _, _, _, _, _ => by omega
  | N + 1, w, R, P, L, X, Q, _, _, _, hN, hc, hlen, hB, rfl, rfl, rfl, hL0, hX0, hL, hX, hid, hR => by
    unfold SE.slices_symMergeCmpFunc_apiWant
    simp only [List.length_append] at hlen
    have refl : But g w w := ⟨Nat.le_refl _, rfl, rfl, rfl, fun _ _ _ => rfl⟩
    have eL : ∀ (u : Nat) (hu : u < L.length), (P ++ L ++ X ++ Q)[P.length + u]? = some L[u] := fun u hu => by
      rw [List.append_assoc, List.append_assoc, List.getElem?_append_right (by omega), List.getElem?_append_left (by omega), Nat.add_sub_cancel_left]; exact List.getElem?_eq_getElem hu
    have eX : ∀ (u : Nat) (hu : u < X.length), (P ++ L ++ X ++ Q)[P.length + L.length + u]? = some X[u] := fun u hu => by
      rw [List.append_assoc, List.getElem?_append_right (by rw [List.length_append]; omega), List.length_append, Nat.add_sub_cancel_left, List.getElem?_append_left (by omega)]; exact List.getElem?_eq_getElem hu
    have wm : wrapI (((P.length + L.length : Nat) : Int) - (P.length : Int)) = (L.length : Int) := by rw [wrapI_eq (by omega) (by omega)]; omega
    have wb : wrapI (((P.length + L.length + X.length : Nat) : Int) - ((P.length + L.length : Nat) : Int)) = (X.length : Int) := by rw [wrapI_eq (by omega) (by omega)]; omega
    rw [wm, wb]
    refine ⟨fun h1 => ?_, fun h1 => ⟨fun h2 => ?_, fun h2 => ?_⟩⟩
    · -- one thing on the left
      obtain ⟨x, rfl⟩ := List.length_eq_one_iff.1 (show L.length = 1 by omega)
      simp only [List.length_cons, List.length_nil] at *
      refine ⟨fun i j w' => ∃ p q : Nat, i = ((P.length + (0 + 1) + p : Nat) : Int) ∧ j = ((P.length + (0 + 1) + q : Nat) : Int) ∧ p ≤ q ∧ q ≤ X.length ∧ (∀ (u : Nat) (hu : u < X.length), u < p → Ah c X[u] x) ∧ (∀ (u : Nat) (hu : u < X.length), q ≤ u → Ah c x X[u]) ∧ Ext w w',
        fun i j _ => (j - i).toNat, ⟨0, X.length, by omega, by omega, by omega, by omega, fun u _ h => by omega, fun u h1 h2 => by omega, Ext.refl _⟩, ?_⟩
      rintro _ _ w1 ⟨p, q, rfl, rfl, hpq, hq, hp1, hq1, x1⟩
      refine ⟨fun hlt => bnd.drew fun w2 x2 => ?_, fun hge => ?_⟩
      · rw [half (by omega)]
        have he : (P.length + (0 + 1) + p + (P.length + (0 + 1) + q)) / 2 = P.length + (0 + 1) + (p + q) / 2 := by omega
        rw [he]
        have heX : (p + q) / 2 < X.length := by omega
        have hB2 := hB.ext (x1.trans x2)
        have gx := hB2.ld' fc_len (eL 0 (by simp))
        have gy := hB2.ld' fc_len (eX _ heX)
        have hright := Ah.right hO (hid x (by simp) _ (List.getElem_mem heX))
        refine ⟨_, ⟨hd, by omega, by omega⟩, _, _, _, gy, _, ⟨hd, by omega, by omega⟩, _, _, _, gx, hc _ x.1 w2 _ (refl.ext' (x1.trans x2)) fun w3 x3 => ⟨_, rfl, fun h => ?_, fun h => ?_⟩⟩
        · have hA := hright.1 h
          rw [wrapI_eq (by omega) (by omega)]
          refine ⟨⟨(p + q) / 2 + 1, q, by omega, rfl, by omega, hq, fun u hu hlt => ?_, hq1, x1.trans (x2.trans x3)⟩, by show Int.toNat _ < Int.toNat _; omega⟩
          rcases Nat.lt_succ_iff_lt_or_eq.1 hlt with h' | rfl
          · exact (List.pairwise_iff_getElem.1 hX u _ hu heX h').trans hO hA
          · exact hA
        · have hA := hright.2 h
          refine ⟨⟨p, (p + q) / 2, rfl, rfl, by omega, by omega, hp1, fun u hu hge => ?_, x1.trans (x2.trans x3)⟩, by show Int.toNat _ < Int.toNat _; omega⟩
          rcases Nat.lt_or_eq_of_le hge with h' | rfl
          · exact hA.trans hO (List.pairwise_iff_getElem.1 hX _ u heX hu h')
          · exact hA
      · have hpq' : p = q := by omega
        subst hpq'
        have wi : wrapI (((P.length + (0 + 1) + p : Nat) : Int) - 1) = ((P.length + p : Nat) : Int) := by rw [wrapI_eq (by omega) (by omega)]; omega
        rw [wi]
        refine ⟨fun k w' => ∃ t : Nat, k = ((P.length + t : Nat) : Int) ∧ t ≤ p ∧ But g w w' ∧ RowB fc w' g (P ++ (X.take t ++ x :: X.drop t) ++ Q) tail, fun k _ => (P.length + p) - k.toNat, ⟨0, by omega, by omega, refl.ext' x1, by simpa using hB.ext x1⟩, ?_⟩
        rintro _ w2 ⟨t, rfl, htp, b2, hB2⟩
        refine ⟨fun hlt => bnd.drew fun w3 x3 => ?_, fun hge => ?_⟩
        · have htX : t < X.length := by omega
          have e1 : wrapI (((P.length + t : Nat) : Int) + 1) = ((P.length + t + 1 : Nat) : Int) := by rw [wrapI_eq (by omega) (by omega)]; omega
          rw [e1]
          have eB : P ++ (X.take t ++ x :: X.drop t) ++ Q = (P ++ X.take t) ++ x :: X[t] :: (X.drop (t + 1) ++ Q) := by
            rw [List.drop_eq_getElem_cons htX]; simp only [List.append_assoc, List.cons_append]
          have hB3 := hB2.ext x3
          rw [eB] at hB3
          have ey : (P ++ X.take t).length = P.length + t := by rw [List.length_append, List.length_take]; omega
          have gy := hB3.ld' fc_len (get_at' ey)
          have gx := hB3.ld' fc_len (get_at1' (n := P.length + t + 1) (by omega))
          have hln : ((P ++ X.take t) ++ x :: X[t] :: (X.drop (t + 1) ++ Q)).length = data.len := by rw [← eB, hlen]; simp; omega
          refine ⟨_, ⟨hd, by omega, by omega⟩, _, _, _, gx, _, ⟨hd, by omega, by omega⟩, _, _, _, gy, _, ⟨hd, by omega, by omega⟩, hB3.st fc_len (i := P.length + t) (x := X[t]) (by rw [hln]; omega) fun w4 b4 hB4 => ⟨_, ⟨hd, by omega, by omega⟩, hB4.st fc_len (i := P.length + t + 1) (x := x) (by rw [List.length_set, hln]; omega) fun w5 b5 hB5 => ?_⟩⟩
          have e2 := swap_adj' (P ++ X.take t) (X.drop (t + 1) ++ Q) x X[t]
          rw [ey] at e2
          rw [e2] at hB5
          refine ⟨⟨t + 1, by omega, by omega, ((b2.ext' x3).trans b4).trans b5, ?_⟩, by show _ - Int.toNat _ < _ - Int.toNat _; omega⟩
          rw [List.take_succ_eq_append_getElem htX]
          simpa only [List.append_assoc, List.cons_append, List.nil_append] using hB5
        · have : t = p := by omega
          subst this
          refine hR w2 _ b2 ?_ ?_ hB2
          · refine List.perm_middle.trans ?_
            rw [List.take_append_drop]; exact List.Perm.refl _
          · refine List.pairwise_append.2 ⟨hX.sublist (List.take_sublist _ _), List.pairwise_cons.2 ⟨fun y hy => ?_, hX.sublist (List.drop_sublist _ _)⟩, fun y hy z hz => ?_⟩
            · obtain ⟨u, hu, rfl⟩ := List.mem_iff_getElem.1 hy
              rw [List.length_drop] at hu
              rw [List.getElem_drop]; exact hq1 _ (by omega) (by omega)
            · obtain ⟨u, hu, rfl⟩ := List.mem_iff_getElem.1 hy
              rw [List.length_take] at hu
              rw [List.getElem_take]
              have hyx := hp1 u (by omega) (by omega)
              rcases List.mem_cons.1 hz with rfl | hz
              · exact hyx
              · obtain ⟨v, hv, rfl⟩ := List.mem_iff_getElem.1 hz
                rw [List.length_drop] at hv
                rw [List.getElem_drop]; exact hyx.trans hO (hq1 _ (by omega) (by omega))
    · -- one thing on the right
      obtain ⟨y, rfl⟩ := List.length_eq_one_iff.1 (show X.length = 1 by omega)
      simp only [List.length_cons, List.length_nil] at *
      refine ⟨fun i j w' => ∃ p q : Nat, i = ((P.length + p : Nat) : Int) ∧ j = ((P.length + q : Nat) : Int) ∧ p ≤ q ∧ q ≤ L.length ∧ (∀ (u : Nat) (hu : u < L.length), u < p → Ah c L[u] y) ∧ (∀ (u : Nat) (hu : u < L.length), q ≤ u → Ah c y L[u]) ∧ Ext w w',
        fun i j _ => (j - i).toNat, ⟨0, L.length, by omega, by omega, by omega, by omega, fun u _ h => by omega, fun u h1 h2 => by omega, Ext.refl _⟩, ?_⟩
      rintro _ _ w1 ⟨p, q, rfl, rfl, hpq, hq, hp1, hq1, x1⟩
      refine ⟨fun hlt => bnd.drew fun w2 x2 => ?_, fun hge => ?_⟩
      · rw [half (by omega)]
        have he : (P.length + p + (P.length + q)) / 2 = P.length + (p + q) / 2 := by omega
        rw [he]
        have heX : (p + q) / 2 < L.length := by omega
        have hB2 := hB.ext (x1.trans x2)
        have gx := hB2.ld' fc_len (eX 0 (by simp))
        have gy := hB2.ld' fc_len (eL _ heX)
        have hright := Ah.right hO (hid _ (List.getElem_mem heX) y (by simp))
        refine ⟨_, ⟨hd, by omega, by omega⟩, _, _, _, gx, _, ⟨hd, by omega, by omega⟩, _, _, _, gy, hc y.1 _ w2 _ (refl.ext' (x1.trans x2)) fun w3 x3 => ⟨_, rfl, fun h => ?_, fun h => ?_⟩⟩
        · have hA := hright.2 h
          rw [wrapI_eq (by omega) (by omega)]
          refine ⟨⟨(p + q) / 2 + 1, q, by omega, rfl, by omega, hq, fun u hu hlt => ?_, hq1, x1.trans (x2.trans x3)⟩, by show Int.toNat _ < Int.toNat _; omega⟩
          rcases Nat.lt_succ_iff_lt_or_eq.1 hlt with h' | rfl
          · exact (List.pairwise_iff_getElem.1 hL u _ hu heX h').trans hO hA
          · exact hA
        · have hA := hright.1 (Classical.not_not.1 h)
          refine ⟨⟨p, (p + q) / 2, rfl, rfl, by omega, by omega, hp1, fun u hu hge => ?_, x1.trans (x2.trans x3)⟩, by show Int.toNat _ < Int.toNat _; omega⟩
          rcases Nat.lt_or_eq_of_le hge with h' | rfl
          · exact hA.trans hO (List.pairwise_iff_getElem.1 hL _ u heX hu h')
          · exact hA
      · have hpq' : p = q := by omega
        subst hpq'
        refine ⟨fun k w' => ∃ t : Nat, k = ((P.length + t : Nat) : Int) ∧ p ≤ t ∧ t ≤ L.length ∧ But g w w' ∧ RowB fc w' g (P ++ (L.take t ++ y :: L.drop t) ++ Q) tail, fun k _ => k.toNat, ⟨L.length, by omega, by omega, by omega, refl.ext' x1, by simpa using hB.ext x1⟩, ?_⟩
        rintro _ w2 ⟨t, rfl, htp, htL, b2, hB2⟩
        refine ⟨fun hlt => bnd.drew fun w3 x3 => ?_, fun hge => ?_⟩
        · obtain ⟨s, rfl⟩ : ∃ s, t = s + 1 := ⟨t - 1, by omega⟩
          have hsL : s < L.length := by omega
          have e1 : wrapI (((P.length + (s + 1) : Nat) : Int) - 1) = ((P.length + s : Nat) : Int) := by rw [wrapI_eq (by omega) (by omega)]; omega
          rw [e1]
          have eB : P ++ (L.take (s + 1) ++ y :: L.drop (s + 1)) ++ Q = (P ++ L.take s) ++ L[s] :: y :: (L.drop (s + 1) ++ Q) := by
            rw [List.take_succ_eq_append_getElem hsL]; simp only [List.append_assoc, List.cons_append, List.nil_append]
          have hB3 := hB2.ext x3
          rw [eB] at hB3
          have ey : (P ++ L.take s).length = P.length + s := by rw [List.length_append, List.length_take]; omega
          have gy := hB3.ld' fc_len (get_at' ey)
          have gx := hB3.ld' fc_len (get_at1' (n := P.length + (s + 1)) (by omega))
          have hln : ((P ++ L.take s) ++ L[s] :: y :: (L.drop (s + 1) ++ Q)).length = data.len := by rw [← eB, hlen]; simp; omega
          refine ⟨_, ⟨hd, by omega, by omega⟩, _, _, _, gy, _, ⟨hd, by omega, by omega⟩, _, _, _, gx, _, ⟨hd, by omega, by omega⟩, hB3.st fc_len (i := P.length + (s + 1)) (x := L[s]) (by rw [hln]; omega) fun w4 b4 hB4 => ⟨_, ⟨hd, by omega, by omega⟩, hB4.st fc_len (i := P.length + s) (x := y) (by rw [List.length_set, hln]; omega) fun w5 b5 hB5 => ?_⟩⟩
          have e2 := swap_adj (P ++ L.take s) (L.drop (s + 1) ++ Q) L[s] y
          rw [ey, Nat.add_assoc] at e2
          rw [e2] at hB5
          refine ⟨⟨s, by omega, by omega, by omega, ((b2.ext' x3).trans b4).trans b5, ?_⟩, by show Int.toNat _ < Int.toNat _; omega⟩
          rw [List.drop_eq_getElem_cons hsL]
          simpa only [List.append_assoc, List.cons_append, List.nil_append] using hB5
        · have : t = p := by omega
          subst this
          refine hR w2 _ b2 ?_ ?_ hB2
          · refine List.perm_middle.trans ?_
            rw [List.take_append_drop]; exact (List.perm_append_singleton y L).symm
          · refine List.pairwise_append.2 ⟨hL.sublist (List.take_sublist _ _), List.pairwise_cons.2 ⟨fun z hz => ?_, hL.sublist (List.drop_sublist _ _)⟩, fun x hx z hz => ?_⟩
            · obtain ⟨u, hu, rfl⟩ := List.mem_iff_getElem.1 hz
              rw [List.length_drop] at hu
              rw [List.getElem_drop]; exact hq1 _ (by omega) (by omega)
            · obtain ⟨u, hu, rfl⟩ := List.mem_iff_getElem.1 hx
              rw [List.length_take] at hu
              rw [List.getElem_take]
              have hyx := hp1 u (by omega) (by omega)
              rcases List.mem_cons.1 hz with rfl | hz
              · exact hyx
              · obtain ⟨v, hv, rfl⟩ := List.mem_iff_getElem.1 hz
                rw [List.length_drop] at hv
                rw [List.getElem_drop]; exact hyx.trans hO (hq1 _ (by omega) (by omega))
    · -- both sides have more
      rw [half (i := P.length) (j := P.length + L.length + X.length) (by omega)]
      have hmid : (P.length + (P.length + L.length + X.length)) / 2 = P.length + (L.length + X.length) / 2 := by omega
      rw [hmid]
      generalize hH : (L.length + X.length) / 2 = H at *
      have wn : wrapI (((P.length + H : Nat) : Int) + ((P.length + L.length : Nat) : Int)) = ((P.length + H + (P.length + L.length) : Nat) : Int) := by rw [wrapI_eq (by omega) (by omega)]; omega
      rw [wn]
      have wp : wrapI (((P.length + H + (P.length + L.length) : Nat) : Int) - 1) = ((P.length + H + (P.length + L.length) - 1 : Nat) : Int) := by rw [wrapI_eq (by omega) (by omega)]; omega
      rw [wp]
      refine join.named fun J hJ => ?_
      have main : ∀ u0 v0 : Nat, u0 = H - X.length → v0 = min L.length H → J ((P.length + u0 : Nat) : Int) ((P.length + v0 : Nat) : Int) w := fun u0 v0 hu0 hv0 => by
        subst hJ
        show loop2 _ _ _ _
        refine ⟨fun i j w' => ∃ s r : Nat, i = ((P.length + s : Nat) : Int) ∧ j = ((P.length + r : Nat) : Int) ∧ u0 ≤ s ∧ s ≤ r ∧ r ≤ v0 ∧ (∀ (u : Nat) (h1 : u < L.length) (h2 : H - 1 - u < X.length), u0 ≤ u → u < s → Ah c L[u] X[H - 1 - u]) ∧ (∀ (u : Nat) (h1 : u < L.length) (h2 : H - 1 - u < X.length), r ≤ u → u < v0 → Ah c X[H - 1 - u] L[u]) ∧ Ext w w',
          fun i j _ => (j - i).toNat, ⟨u0, v0, rfl, rfl, Nat.le_refl _, by omega, Nat.le_refl _, fun u _ _ h1 h2 => by omega, fun u _ _ h1 h2 => by omega, Ext.refl _⟩, ?_⟩
        rintro _ _ w1 ⟨s, r, rfl, rfl, hs0, hsr, hrv, hs1, hr1, x1⟩
        refine ⟨fun hlt => bnd.drew fun w2 x2 => ?_, fun hge => ?_⟩
        · rw [half (by omega)]
          have he : (P.length + s + (P.length + r)) / 2 = P.length + (s + r) / 2 := by omega
          rw [he]
          generalize hu : (s + r) / 2 = u at *
          have huL : u < L.length := by omega
          have huX : H - 1 - u < X.length := by omega
          have wpc : wrapI (((P.length + H + (P.length + L.length) - 1 : Nat) : Int) - ((P.length + u : Nat) : Int)) = ((P.length + L.length + (H - 1 - u) : Nat) : Int) := by rw [wrapI_eq (by omega) (by omega)]; omega
          rw [wpc]
          have hB2 := hB.ext (x1.trans x2)
          have gx := hB2.ld' fc_len (eX _ huX)
          have gy := hB2.ld' fc_len (eL _ huL)
          have hright := Ah.right hO (hid _ (List.getElem_mem huL) _ (List.getElem_mem huX))
          refine ⟨_, ⟨hd, by omega, by omega⟩, _, _, _, gx, _, ⟨hd, by omega, by omega⟩, _, _, _, gy, hc _ _ w2 _ (refl.ext' (x1.trans x2)) fun w3 x3 => ⟨_, rfl, fun h => ?_, fun h => ?_⟩⟩
          · have hA := hright.2 h
            rw [wrapI_eq (by omega) (by omega)]
            refine ⟨⟨u + 1, r, by omega, rfl, by omega, by omega, hrv, fun t h1 h2 h3 h4 => ?_, hr1, x1.trans (x2.trans x3)⟩, by show Int.toNat _ < Int.toNat _; omega⟩
            rcases Nat.lt_succ_iff_lt_or_eq.1 h4 with h' | rfl
            · exact ((List.pairwise_iff_getElem.1 hL t u h1 huL h').trans hO hA).trans hO (List.pairwise_iff_getElem.1 hX (H - 1 - u) (H - 1 - t) huX h2 (by omega))
            · exact hA
          · have hA := hright.1 (Classical.not_not.1 h)
            refine ⟨⟨s, u, rfl, rfl, hs0, by omega, by omega, hs1, fun t h1 h2 h3 h4 => ?_, x1.trans (x2.trans x3)⟩, by show Int.toNat _ < Int.toNat _; omega⟩
            rcases Nat.lt_or_eq_of_le h3 with h' | rfl
            · exact ((List.pairwise_iff_getElem.1 hX (H - 1 - t) (H - 1 - u) h2 huX (by omega)).trans hO hA).trans hO (List.pairwise_iff_getElem.1 hL u t huL h1 h')
            · exact hA
        · have hsr' : s = r := by omega
          subst hsr'
          have hsL : s ≤ L.length := by omega
          have hsH : s ≤ H := by omega
          have hHX : H - s ≤ X.length := by omega
          have wend : wrapI (((P.length + H + (P.length + L.length) : Nat) : Int) - ((P.length + s : Nat) : Int)) = ((P.length + L.length + (H - s) : Nat) : Int) := by rw [wrapI_eq (by omega) (by omega)]; omega
          rw [wend]
          have cr1 : ∀ x ∈ L.take s, ∀ y ∈ X.drop (H - s), Ah c x y := fun x hx y hy => by
            obtain ⟨i, hi, rfl⟩ := List.mem_iff_getElem.1 hx
            obtain ⟨j, hj, rfl⟩ := List.mem_iff_getElem.1 hy
            rw [List.length_take] at hi; rw [List.length_drop] at hj
            rw [List.getElem_take, List.getElem_drop]
            have k1 := hs1 (s - 1) (by omega) (by omega) (by omega) (by omega)
            have e : H - 1 - (s - 1) = H - s := by omega
            have k2 : Ah c L[i] X[H - s] := by
              rcases Nat.lt_or_eq_of_le (show i ≤ s - 1 by omega) with h | h
              · have := (List.pairwise_iff_getElem.1 hL i (s - 1) (by omega) (by omega) h).trans hO k1
                simpa only [e] using this
              · subst h; simpa only [e] using k1
            rcases Nat.eq_zero_or_pos j with h | h
            · subst h; exact k2
            · exact k2.trans hO (List.pairwise_iff_getElem.1 hX (H - s) (H - s + j) (by omega) (by omega) (by omega))
          have cr2 : ∀ y ∈ X.take (H - s), ∀ x ∈ L.drop s, Ah c y x := fun y hy x hx => by
            obtain ⟨i, hi, rfl⟩ := List.mem_iff_getElem.1 hx
            obtain ⟨j, hj, rfl⟩ := List.mem_iff_getElem.1 hy
            rw [List.length_drop] at hi; rw [List.length_take] at hj
            rw [List.getElem_take, List.getElem_drop]
            have k1 := hr1 s (by omega) (by omega) (Nat.le_refl _) (by omega)
            have k2 : Ah c X[j] L[s] := by
              rcases Nat.lt_or_eq_of_le (show j ≤ H - 1 - s by omega) with h | h
              · exact (List.pairwise_iff_getElem.1 hX j (H - 1 - s) (by omega) (by omega) h).trans hO k1
              · subst h; exact k1
            rcases Nat.eq_zero_or_pos i with h | h
            · subst h; exact k2
            · exact k2.trans hO (List.pairwise_iff_getElem.1 hL s (s + i) (by omega) (by omega) (by omega))
          have lt1 : (L.take s).length = s := by rw [List.length_take]; omega
          have lt2 : (X.take (H - s)).length = H - s := by rw [List.length_take]; omega
          have lt3 : (L.drop s).length = L.length - s := List.length_drop
          have lt4 : (X.drop (H - s)).length = X.length - (H - s) := List.length_drop
          have sL1 := hL.sublist (List.take_sublist s L)
          have sL2 := hL.sublist (List.drop_sublist s L)
          have sX1 := hX.sublist (List.take_sublist (H - s) X)
          have sX2 := hX.sublist (List.drop_sublist (H - s) X)
          have id1 : ∀ x ∈ L.take s, ∀ y ∈ X.take (H - s), x.2 < y.2 := fun x hx y hy => hid x (List.mem_of_mem_take hx) y (List.mem_of_mem_take hy)
          have id2 : ∀ x ∈ L.drop s, ∀ y ∈ X.drop (H - s), x.2 < y.2 := fun x hx y hy => hid x (List.mem_of_mem_drop hx) y (List.mem_of_mem_drop hy)
          have eLs : L = L.take s ++ L.drop s := (List.take_append_drop _ _).symm
          have eXs : X = X.take (H - s) ++ X.drop (H - s) := (List.take_append_drop _ _).symm
          have hLX : L.take s = [] ∨ 0 < s := by rcases Nat.eq_zero_or_pos s with h | h; · exact .inl (by rw [h]; rfl)
                                                 · exact .inr h
          have permAll : ∀ M1 M2 : List El, M1.Perm (L.take s ++ X.take (H - s)) → M2.Perm (L.drop s ++ X.drop (H - s)) → (M1 ++ M2).Perm (L ++ X) := fun M1 M2 h1 h2 => by
            refine (h1.append h2).trans ?_
            conv => rhs; rw [eLs, eXs]
            rw [List.append_assoc, List.append_assoc]
            refine List.Perm.append_left _ ?_
            rw [← List.append_assoc, ← List.append_assoc]
            exact List.Perm.append_right _ List.perm_append_comm
          have sortAll : ∀ M1 M2 : List El, M1.Perm (L.take s ++ X.take (H - s)) → M2.Perm (L.drop s ++ X.drop (H - s)) → M1.Pairwise (Ah c) → M2.Pairwise (Ah c) → (M1 ++ M2).Pairwise (Ah c) := fun M1 M2 h1 h2 s1 s2 =>
            List.pairwise_append.2 ⟨s1, s2, fun x hx y hy => by
              rcases List.mem_append.1 (h1.mem_iff.1 hx) with hx | hx <;> rcases List.mem_append.1 (h2.mem_iff.1 hy) with hy | hy
              · obtain ⟨i, hi, rfl⟩ := List.mem_iff_getElem.1 hx
                obtain ⟨j, hj, rfl⟩ := List.mem_iff_getElem.1 hy
                rw [lt1] at hi; rw [lt3] at hj
                rw [List.getElem_take, List.getElem_drop]
                exact List.pairwise_iff_getElem.1 hL i (s + j) (by omega) (by omega) (by omega)
              · exact cr1 x hx y hy
              · exact cr2 x hx y hy
              · obtain ⟨i, hi, rfl⟩ := List.mem_iff_getElem.1 hx
                obtain ⟨j, hj, rfl⟩ := List.mem_iff_getElem.1 hy
                rw [lt2] at hi; rw [lt4] at hj
                rw [List.getElem_take, List.getElem_drop]
                exact List.pairwise_iff_getElem.1 hX i (H - s + j) (by omega) (by omega) (by omega)⟩
          generalize L.take s = L1 at *
          generalize L.drop s = L2 at *
          generalize X.take (H - s) = X1 at *
          generalize X.drop (H - s) = X2 at *
          have b1 : But g w w1 := refl.ext' x1
          have hB1 := hB.ext x1
          refine join.named fun J2 hJ2 => ?_
          have k2 : ∀ w2, But g w w2 → RowB fc w2 g (P ++ L1 ++ X1 ++ (L2 ++ X2 ++ Q)) tail → J2 w2 := fun w2 b2 hB2 => by
            subst hJ2
            refine join.named fun J3 hJ3 => bound ?_
            have k3 : ∀ w3 M1, But g w w3 → M1.Perm (L1 ++ X1) → M1.Pairwise (Ah c) → RowB fc w3 g (P ++ M1 ++ (L2 ++ X2 ++ Q)) tail → J3 w3 := fun w3 M1 b3 hp1 so1 hB3 => by
              subst hJ3
              have lM : M1.length = H := by rw [hp1.length_eq, List.length_append]; omega
              refine bound ⟨fun h => ?_, fun h => ?_⟩
              · simp only [Bool.and_eq_true, decide_eq_true_eq] at h
                refine SE.slices_symMergeCmpFunc_apiWant.go (symMerge_se hO hd hbig N (P := P ++ M1) (L := L2) (X := X2) (Q := Q) (by omega) (hc.but b3) (by simp only [List.length_append]; omega) (by simpa only [List.append_assoc] using hB3) (by rw [List.length_append]; omega) (by rw [List.length_append]; omega) (by rw [List.length_append]; omega) (by omega) (by omega) sL2 sX2 id2 fun w4 M2 b4 hp2 so2 hB4 => ⟨rfl, ?_⟩)
                exact hR w4 (M1 ++ M2) (b3.trans b4) (permAll M1 M2 hp1 hp2) (sortAll M1 M2 hp1 hp2 so1 so2) (by simpa only [List.append_assoc] using hB4)
              · simp only [Bool.and_eq_false_iff, decide_eq_false_iff_not] at h
                refine hR w3 (M1 ++ (L2 ++ X2)) b3 (permAll M1 _ hp1 (List.Perm.refl _)) (sortAll M1 _ hp1 (List.Perm.refl _) so1 ?_) (by simpa only [List.append_assoc] using hB3)
                have : L2 = [] ∨ X2 = [] := by
                  rcases h with h | h
                  · exact .inl (List.eq_nil_of_length_eq_zero (by omega))
                  · exact .inr (List.eq_nil_of_length_eq_zero (by omega))
                rcases this with rfl | rfl
                · simpa using sX2
                · simpa using sL2
            refine ⟨fun h => ?_, fun h => ?_⟩
            · simp only [Bool.and_eq_true, decide_eq_true_eq] at h
              refine SE.slices_symMergeCmpFunc_apiWant.go (symMerge_se hO hd hbig N (P := P) (L := L1) (X := X1) (Q := L2 ++ X2 ++ Q) (by omega) (hc.but b2) (by simp only [List.length_append]; omega) (by simpa only [List.append_assoc] using hB2) rfl (by omega) (by omega) (by omega) (by omega) sL1 sX1 id1 fun w4 M1 b4 hp1 so1 hB4 => ⟨rfl, k3 w4 M1 (b2.trans b4) hp1 so1 hB4⟩)
            · simp only [Bool.and_eq_false_iff, decide_eq_false_iff_not] at h
              refine k3 w2 (L1 ++ X1) b2 (List.Perm.refl _) ?_ (by simpa only [List.append_assoc] using hB2)
              have : L1 = [] ∨ X1 = [] := by
                rcases h with h | h
                · exact .inl (List.eq_nil_of_length_eq_zero (by omega))
                · exact .inr (List.eq_nil_of_length_eq_zero (by omega))
              rcases this with rfl | rfl
              · simpa using sX1
              · simpa using sL1
          rw [eLs, eXs] at hB1
          refine bound ⟨fun h => ?_, fun h => ?_⟩
          · simp only [Bool.and_eq_true, decide_eq_true_eq] at h
            refine SE.slices_rotateCmpFunc_apiWant.go (rotate_se (P := P ++ L1) (X := L2) (Y := X1) (Q := X2 ++ Q) hd (by simp only [List.length_append]; omega) hbig (by simpa only [List.append_assoc] using hB1) (by rw [List.length_append]; omega) (by rw [List.length_append]; omega) (by rw [List.length_append]; omega) (by omega) (by omega) fun w2 b2 hB2 => ⟨rfl, k2 w2 (b1.trans b2) (by simpa only [List.append_assoc] using hB2)⟩)
          · simp only [Bool.and_eq_false_iff, decide_eq_false_iff_not] at h
            refine k2 w1 b1 ?_
            have : L2 = [] ∨ X1 = [] := by
              rcases h with h | h
              · exact .inl (List.eq_nil_of_length_eq_zero (by omega))
              · exact .inr (List.eq_nil_of_length_eq_zero (by omega))
            rcases this with rfl | rfl
            · simpa only [List.append_assoc, List.append_nil, List.nil_append] using hB1
            · simpa only [List.append_assoc, List.append_nil, List.nil_append] using hB1
      refine ⟨fun h => ?_, fun h => ?_⟩
      · have := main (H - X.length) H rfl (by omega)
        have e : wrapI (((P.length + H + (P.length + L.length) : Nat) : Int) - ((P.length + L.length + X.length : Nat) : Int)) = ((P.length + (H - X.length) : Nat) : Int) := by rw [wrapI_eq (by omega) (by omega)]; omega
        rw [e]; exact this
      · have := main 0 L.length (by omega) (by omega)
        exact this
theorem ids {z0 : List El} (hz : z0.Pairwise fun x y => x.2 < y.2) {i n j m : Nat} (h : i + n ≤ j) : ∀ x ∈ sg z0 i n, ∀ y ∈ sg z0 j m, x.2 < y.2 := fun x hx y hy => by
  obtain ⟨a, ha, _, ha2, rfl⟩ := sg_mem hx
  obtain ⟨b, hb, hb1, _, rfl⟩ := sg_mem hy
  exact List.pairwise_iff_getElem.1 hz a b ha hb (by omega)
set_option maxHeartbeats 4000000 in
theorem stable_se (hO : Ord3 c) {data : Sl} {tail : List Value} {w : World} {R : World → Prop} {z0 : List El} {n : Int} (hd : data.a = some ⟨g, 0, none⟩) (hbig : data.len < 2305843009213693952) (hc : CmpOk cmp c g w) (hlen : data.len = z0.length) (hn : n = (z0.length : Int)) (hB : RowB fc w g z0 tail)
    (hz : z0.Pairwise fun x y => x.2 < y.2) (hR : ∀ w' M, But g w w' → M.Perm z0 → M.Pairwise (Ah c) → RowB fc w' g M tail → R w') : SE.slices_stableCmpFunc_apiWant data n cmp w R := by
  unfold SE.slices_stableCmpFunc_apiWant
  subst hn
  have refl : But g w w := ⟨Nat.le_refl _, rfl, rfl, rfl, fun _ _ _ => rfl⟩
  refine ⟨fun a b w' => ∃ (k : Nat) (z : List El), a = ((k * 20 : Nat) : Int) ∧ b = ((k * 20 + 20 : Nat) : Int) ∧ k * 20 ≤ z0.length ∧ z.length = z0.length ∧ z.drop (k * 20) = z0.drop (k * 20) ∧ Chunks c 20 z z0 k ∧ But g w w' ∧ RowB fc w' g z tail,
    fun a _ _ => z0.length - a.toNat, ⟨0, z0, rfl, rfl, by omega, rfl, rfl, ⟨fun i h => by omega, fun i h => by omega⟩, refl, hB⟩, ?_⟩
  rintro _ _ w1 ⟨k, z, rfl, rfl, hk, hzl, hdr, hch, b1, hB1⟩
  have la : (z.take (k * 20)).length = k * 20 := by rw [List.length_take]; omega
  refine ⟨fun hle => ?_, fun hgt => ?_⟩
  · have hsg : sg z (k * 20) 20 = sg z0 (k * 20) 20 := by unfold sg; rw [hdr]
    have hs := sg_split z (k * 20) 20
    have hsl : (sg z (k * 20) 20).length = 20 := sg_len (by omega)
    rw [hs] at hB1
    refine SE.slices_insertionSortCmpFunc_apiWant.go (insertion_se hO (A := z.take (k * 20)) (M0 := sg z (k * 20) 20) (B := z.drop (k * 20 + 20)) (hc.but b1) hd (by rw [← hs, hzl]; exact hlen) (by omega) hB1 (by rw [la]) (by rw [la, hsl]) (by rw [hsg]; exact hz.sublist ((List.take_sublist _ _).trans (List.drop_sublist _ _))) fun w2 M b2 hp hso hB2 => ⟨rfl, ?_⟩)
    have hMl : M.length = 20 := by rw [hp.length_eq, hsl]
    rw [wrapI_eq (by omega) (by omega)]
    refine ⟨⟨k + 1, z.take (k * 20) ++ M ++ z.drop (k * 20 + 20), by omega, by omega, by omega, ?_, ?_, ?_, b1.trans b2, hB2⟩, by show _ - Int.toNat _ < _ - Int.toNat _; omega⟩
    · simp only [List.length_append, List.length_drop, la, hMl]; omega
    · rw [List.drop_left' (by rw [List.length_append, la, hMl]; omega), show k * 20 + 20 = (k + 1) * 20 by omega]
      rw [show (k + 1) * 20 = k * 20 + 20 by omega, ← List.drop_drop, hdr, List.drop_drop]
    · constructor
      · intro i hi
        rcases Nat.lt_succ_iff_lt_or_eq.1 hi with h | rfl
        · rw [sg_left (by rw [la]; omega)]
          have := hch.perm i h
          rw [hs, sg_left (by rw [la]; omega)] at this
          exact this
        · rw [sg_self la hMl, ← hsg]; exact hp
      · intro i hi
        rcases Nat.lt_succ_iff_lt_or_eq.1 hi with h | rfl
        · rw [sg_left (by rw [la]; omega)]
          have := hch.sort i h
          rw [hs, sg_left (by rw [la]; omega)] at this
          exact this
        · rw [sg_self la hMl]; exact hso
  · have hs : z = z.take (k * 20) ++ z.drop (k * 20) ++ [] := by rw [List.append_nil, List.take_append_drop]
    have hdl : (z.drop (k * 20)).length = z0.length - k * 20 := by rw [List.length_drop, hzl]
    rw [hs] at hB1
    refine SE.slices_insertionSortCmpFunc_apiWant.go (insertion_se hO (A := z.take (k * 20)) (M0 := z.drop (k * 20)) (B := []) (hc.but b1) hd (by rw [← hs, hzl]; exact hlen) (by omega) hB1 (by rw [la]) (by rw [la, hdl]; omega) (by rw [hdr]; exact hz.sublist (List.drop_sublist _ _)) fun w2 M b2 hp hso hB2 => ⟨rfl, ?_⟩)
    have hMl : M.length = z0.length - k * 20 := by rw [hp.length_eq, hdl]
    rw [List.append_nil] at hB2
    have hch0 : ∀ j, Chunks c 20 (z.take (k * 20) ++ M) z0 j := fun j => by
      have hsg : sg z (k * 20) 20 = z.drop (k * 20) := by unfold sg; rw [List.take_of_length_le (by omega)]
      have hsg0 : sg z0 (k * 20) 20 = z0.drop (k * 20) := by unfold sg; rw [List.take_of_length_le (by rw [List.length_drop]; omega)]
      constructor
      · intro i _
        rcases Nat.lt_trichotomy i k with h | rfl | h
        · have := hch.perm i h
          rw [hs, sg_left (by rw [la]; omega)] at this
          rw [← List.append_nil (z.take (k * 20) ++ M), sg_left (by rw [la]; omega)]
          exact this
        · rw [sg_last la (by omega), hsg0, ← hdr]; exact hp
        · have : k + 1 ≤ i := h
          rw [sg_nil (by rw [List.length_append, la]; omega), sg_nil (by omega)]
      · intro i _
        rcases Nat.lt_trichotomy i k with h | rfl | h
        · have := hch.sort i h
          rw [hs, sg_left (by rw [la]; omega)] at this
          rw [← List.append_nil (z.take (k * 20) ++ M), sg_left (by rw [la]; omega)]
          exact this
        · rw [sg_last la (by omega)]; exact hso
        · have : k + 1 ≤ i := h
          rw [sg_nil (by rw [List.length_append, la]; omega)]
          exact .nil
    have hzl1 : (z.take (k * 20) ++ M).length = z0.length := by rw [List.length_append, la]; omega
    generalize z.take (k * 20) ++ M = z1 at *
    have b02 := b1.trans b2
    clear hp hso hMl
    refine ⟨fun bs w' => ∃ (s : Nat) (z : List El), bs = (s : Int) ∧ 0 < s ∧ s < 2 * z0.length + 40 ∧ z.length = z0.length ∧ (∀ j, Chunks c s z z0 j) ∧ But g w w' ∧ RowB fc w' g z tail, fun bs _ => 2 * z0.length + 40 - bs.toNat, ⟨20, z1, rfl, by omega, by omega, hzl1, hch0, b02, hB2⟩, ?_⟩
    rintro _ w3 ⟨s, z2, rfl, hs0, hsb, hzl2, hch2, b3, hB3⟩
    refine ⟨fun hlt => ?_, fun hge => ?_⟩
    · have hsn : s < z0.length := by omega
      rw [wrapI_eq (x := 2 * (s : Int)) (by omega) (by omega)]
      refine ⟨fun a b w' => ∃ (k : Nat) (z : List El), a = ((k * (2 * s) : Nat) : Int) ∧ b = ((k * (2 * s) + 2 * s : Nat) : Int) ∧ k * (2 * s) ≤ z0.length ∧ z.length = z0.length ∧ z.drop (k * (2 * s)) = z2.drop (k * (2 * s)) ∧ Chunks c (2 * s) z z0 k ∧ But g w w' ∧ RowB fc w' g z tail,
        fun a _ _ => z0.length - a.toNat, ⟨0, z2, by simp, by simp, by omega, hzl2, by simp, ⟨fun i h => by omega, fun i h => by omega⟩, b3, hB3⟩, ?_⟩
      rintro _ _ w4 ⟨k, z, rfl, rfl, hk, hzl4, hdr4, hch4, b4, hB4⟩
      generalize hK : k * (2 * s) = K at *
      have la4 : (z.take K).length = K := by rw [List.length_take]; omega
      have e2k : 2 * k * s = K := by rw [← hK, Nat.mul_comm 2 k, Nat.mul_assoc]
      have e2k1 : (2 * k + 1) * s = K + s := by rw [Nat.add_mul, e2k, Nat.one_mul]
      have p1 := (hch2 (2 * k + 2)).perm (2 * k) (by omega); have p2 := (hch2 (2 * k + 2)).perm (2 * k + 1) (by omega)
      have s1 := (hch2 (2 * k + 2)).sort (2 * k) (by omega); have s2 := (hch2 (2 * k + 2)).sort (2 * k + 1) (by omega)
      rw [e2k] at p1 s1; rw [e2k1] at p2 s2
      have g1 : sg z K s = sg z2 K s := by unfold sg; rw [hdr4]
      have g2 : sg z (K + s) s = sg z2 (K + s) s := by unfold sg; rw [← List.drop_drop, hdr4, List.drop_drop]
      rw [← g1] at p1 s1; rw [← g2] at p2 s2
      have hids : ∀ x ∈ sg z K s, ∀ y ∈ sg z (K + s) s, x.2 < y.2 := fun x hx y hy => ids hz (Nat.le_refl _) x (p1.mem_iff.1 hx) y (p2.mem_iff.1 hy)
      have wks : wrapI ((K : Int) + (s : Int)) = ((K + s : Nat) : Int) := by rw [wrapI_eq (by omega) (by omega)]; omega
      have grow : ∀ (z' M B : List El) (m : Nat), z' = z.take K ++ M ++ B → M.length = m → M.Perm (sg z K s ++ sg z (K + s) s) → M.Pairwise (Ah c) → (m = 2 * s ∨ B = []) → m ≤ 2 * s → Chunks c (2 * s) z' z0 (k + 1) := fun z' M B m hz' hm hp hso hmB hm2 => by
        have e : sg z' K (2 * s) = M := by
          subst hz'
          rcases hmB with h | h
          · exact sg_self la4 (by omega)
          · subst h; rw [List.append_nil]; exact sg_last la4 (by omega)
        have e0 : sg z0 K (2 * s) = sg z0 K s ++ sg z0 (K + s) s := by rw [show 2 * s = s + s by omega, sg_app]
        have el : ∀ i, i < k → sg z' (i * (2 * s)) (2 * s) = sg z (i * (2 * s)) (2 * s) := fun i h => by
          have hle : i * (2 * s) + 2 * s ≤ K := by
            have := Nat.mul_le_mul_right (2 * s) (show i + 1 ≤ k from h)
            rw [Nat.add_mul, hK, Nat.one_mul] at this; exact this
          have h1 : sg z (i * (2 * s)) (2 * s) = sg (z.take K) (i * (2 * s)) (2 * s) := by
            conv => lhs; rw [show z = z.take K ++ z.drop K ++ [] by rw [List.append_nil, List.take_append_drop]]
            exact sg_left (by rw [la4]; exact hle)
          rw [h1, hz', sg_left (by rw [la4]; exact hle)]
        constructor
        · intro i hi
          rcases Nat.lt_succ_iff_lt_or_eq.1 hi with h | rfl
          · rw [el i h]; exact hch4.perm i h
          · rw [hK, e, e0]; exact hp.trans (p1.append p2)
        · intro i hi
          rcases Nat.lt_succ_iff_lt_or_eq.1 hi with h | rfl
          · rw [el i h]; exact hch4.sort i h
          · rw [hK, e]; exact hso
      refine ⟨fun hle => ?_, fun hgt4 => ?_⟩
      · have hs4 : z = z.take K ++ sg z K s ++ sg z (K + s) s ++ z.drop (K + 2 * s) := by
          have := sg_split z K (2 * s)
          rw [show 2 * s = s + s by omega, sg_app] at this
          rw [show 2 * s = s + s by omega]
          simpa only [List.append_assoc] using this
        have l1 : (sg z K s).length = s := sg_len (by omega)
        have l2 : (sg z (K + s) s).length = s := sg_len (by omega)
        rw [wks]
        rw [hs4] at hB4
        refine SE.slices_symMergeCmpFunc_apiWant.go (symMerge_se hO hd (by omega) _ (P := z.take K) (L := sg z K s) (X := sg z (K + s) s) (Q := z.drop (K + 2 * s)) (Nat.le_refl _) (hc.but b4) (by rw [← hs4, hzl4]; exact hlen) hB4 (by rw [la4]) (by rw [la4, l1]) (by rw [la4, l1, l2]; omega) (by omega) (by omega) s1 s2 hids fun w5 M b5 hp hso hB5 => ⟨rfl, ?_⟩)
        have hMl : M.length = 2 * s := by rw [hp.length_eq, List.length_append]; omega
        rw [wrapI_eq (by omega) (by omega)]
        have hK1 : (k + 1) * (2 * s) = K + 2 * s := by rw [Nat.add_mul, hK, Nat.one_mul]
        refine ⟨⟨k + 1, z.take K ++ M ++ z.drop (K + 2 * s), by omega, by omega, by omega, ?_, ?_, grow _ M _ (2 * s) rfl hMl hp hso (.inl rfl) (Nat.le_refl _), b4.trans b5, hB5⟩, by show _ - Int.toNat _ < _ - Int.toNat _; omega⟩
        · simp only [List.length_append, List.length_drop, la4, hMl]; omega
        · rw [hK1, List.drop_left' (by rw [List.length_append, la4, hMl]), ← List.drop_drop, hdr4, List.drop_drop]
      · refine join.named fun J hJ => ?_
        have kJ : ∀ w' z', But g w w' → z'.length = z0.length → Chunks c (2 * s) z' z0 (k + 1) → RowB fc w' g z' tail → J w' := fun w' z' b' hl' hch' hB' => by
          subst hJ
          have e : wrapI ((s : Int) * 2) = ((2 * s : Nat) : Int) := by rw [wrapI_eq (by omega) (by omega)]; omega
          rw [e]
          have hK1 : (k + 1) * (2 * s) = K + 2 * s := by rw [Nat.add_mul, hK, Nat.one_mul]
          refine ⟨⟨2 * s, z', rfl, by omega, by omega, hl', fun j => ⟨fun i _ => ?_, fun i _ => ?_⟩, b', hB'⟩, by show _ - Int.toNat _ < _ - Int.toNat _; omega⟩
          · by_cases h : i < k + 1
            · exact hch'.perm i h
            · have := Nat.mul_le_mul_right (2 * s) (show k + 1 ≤ i by omega)
              rw [sg_nil (by omega), sg_nil (by omega)]
          · by_cases h : i < k + 1
            · exact hch'.sort i h
            · have := Nat.mul_le_mul_right (2 * s) (show k + 1 ≤ i by omega)
              rw [sg_nil (by omega)]
              exact .nil
        rw [wks]
        have hdK : z.drop K = sg z K s ++ sg z (K + s) s := by
          rw [← sg_app]; unfold sg; rw [List.take_of_length_le (by rw [List.length_drop]; omega)]
        refine ⟨fun hlt4 => ?_, fun hge4 => ?_⟩
        · have hs4 : z = z.take K ++ sg z K s ++ sg z (K + s) s ++ [] := by
            rw [List.append_nil, List.append_assoc, ← hdK, List.take_append_drop]
          have l1 : (sg z K s).length = s := sg_len (by omega)
          have l2 : (sg z K s).length + (sg z (K + s) s).length = z0.length - K := by rw [← List.length_append, ← hdK, List.length_drop, hzl4]
          rw [hs4] at hB4
          refine SE.slices_symMergeCmpFunc_apiWant.go (symMerge_se hO hd (by omega) _ (P := z.take K) (L := sg z K s) (X := sg z (K + s) s) (Q := []) (Nat.le_refl _) (hc.but b4) (by rw [← hs4, hzl4]; exact hlen) hB4 (by rw [la4]) (by rw [la4, l1]) (by rw [la4]; omega) (by omega) (by omega) s1 s2 hids fun w5 M b5 hp hso hB5 => ⟨rfl, ?_⟩)
          have hMl : M.length = z0.length - K := by rw [hp.length_eq, List.length_append]; exact l2
          exact kJ w5 _ (b4.trans b5) (by simp only [List.length_append, List.length_nil, la4, hMl]; omega) (grow _ M [] _ rfl hMl hp hso (.inr rfl) (by omega)) hB5
        · have e0 : sg z (K + s) s = [] := sg_nil (by omega)
          refine kJ w4 z b4 hzl4 (grow z (z.drop K) [] _ (by rw [List.append_nil, List.take_append_drop]) rfl (by rw [hdK]) ?_ (.inr rfl) (by rw [List.length_drop]; omega)) hB4
          rw [hdK, e0, List.append_nil]; exact s1
    · have e : sg z2 (0 * s) s = z2 := by rw [Nat.zero_mul]; unfold sg; rw [List.drop_zero, List.take_of_length_le (by omega)]
      have e0 : sg z0 (0 * s) s = z0 := by rw [Nat.zero_mul]; unfold sg; rw [List.drop_zero, List.take_of_length_le (by omega)]
      have p := (hch2 1).perm 0 (by omega); have so := (hch2 1).sort 0 (by omega)
      rw [e] at p so
      rw [e0] at p
      exact hR w3 z2 b3 p so hB3
theorem sortStable_se (hO : Ord3 c) {data : Sl} {tail : List Value} {w : World} {R : World → Prop} {l : List WantC} (hd : data.a = some ⟨g, 0, none⟩) (hbig : data.len < 2305843009213693952) (hc : CmpOk cmp c g w) (hlen : data.len = l.length) (hB : RowB cells w g l tail)
    (hR : ∀ w', But g w w' → RowB cells w' g (stSort c l) tail → R w') : SE.slices_SortStableFunc_apiWantapiWant data cmp w R := by
  unfold SE.slices_SortStableFunc_apiWantapiWant
  have hB' : RowB fc w g (nums 0 l) tail := by
    unfold RowB at hB ⊢
    have : (nums 0 l).map fc = l.map cells := by
      have h := congrArg (List.map cells) (nums_fst 0 l)
      rw [List.map_map] at h; exact h
    rw [this]; exact hB
  refine SE.slices_stableCmpFunc_apiWant.go (stable_se hO hd hbig hc (by rw [nums_len]; exact hlen) (by rw [nums_len, hlen]) hB' (nums_rise 0 l) fun w2 M b2 hp hs hB2 => ⟨rfl, hR w2 b2 ?_⟩)
  have e := stSort_of hO hp hs
  unfold RowB at hB2 ⊢
  have : M.map fc = (stSort c l).map cells := by rw [← e, List.map_map]; rfl
  rw [← this]; exact hB2
theorem sortStable_nil {data : Sl} {w : World} {R : World → Prop} (h0 : data.len = 0) (hR : R w) : SE.slices_SortStableFunc_apiWantapiWant data cmp w R := by
  unfold SE.slices_SortStableFunc_apiWantapiWant
  rw [h0]
  refine SE.slices_stableCmpFunc_apiWant.go ?_
  unfold SE.slices_stableCmpFunc_apiWant
  refine ⟨fun a b w' => a = 0 ∧ b = 20 ∧ w' = w, fun _ _ _ => 0, ⟨rfl, rfl, rfl⟩, ?_⟩
  rintro _ _ w1 ⟨rfl, rfl, hw1⟩
  subst hw1
  refine ⟨fun h => by simp at h, fun _ => SE.slices_insertionSortCmpFunc_apiWant.go ?_⟩
  unfold SE.slices_insertionSortCmpFunc_apiWant
  refine ⟨fun a w' => a = 1 ∧ w' = w1, fun _ _ => 0, ⟨by decide, rfl⟩, ?_⟩
  rintro _ w2 ⟨rfl, hw2⟩
  subst hw2
  refine ⟨fun h => by simp at h, fun _ => ⟨rfl, ?_⟩⟩
  refine ⟨fun a w' => a = 20 ∧ w' = w2, fun _ _ => 0, ⟨rfl, rfl⟩, ?_⟩
  rintro _ w3 ⟨rfl, hw3⟩
  subst hw3
  exact ⟨fun h => by simp at h, fun _ => ⟨rfl, hR⟩⟩
end
end StW
end Go.Hal
namespace Go.Hal
open Go Go.RowKit Go.Proofs Go.Shelf
theorem may_lists {x : Pack} (h : packMay x = true) : nameMay x.name = true ∧ x.v.may = true ∧ depsMay x.deps = true ∧ depsMay x.peers = true ∧ depsMay x.opt = true := by
  unfold packMay listsMay at h
  simp only [Bool.and_eq_true] at h
  exact ⟨h.1.1.1.1.1, h.1.1.1.1.2, h.1.1.1.2, h.1.1.2, h.1.2⟩
theorem peers_names (over l : List Dep) : (peersOf over l).map (·.name) = l.map (·.name) := by unfold peersOf; rw [List.map_map]; rfl
theorem ctx_bound {L : List Pack} (hg : GoodL L) {over : List Dep} {env : List Pin} {p : Pin} {i : Nat} {out : List Pin} (h : CtxI (getL L) over env p i out) : out.length ≤ 2048 := by
  have h1 := nodup_le (m := L.flatMap fun x => x.peers.map (·.name)) h.names fun n hn => by
    obtain ⟨r, hr, rfl⟩ := List.mem_map.1 hn
    have key : ∀ r, Reach (getL L) over env p r → r.name ∈ L.flatMap fun x => x.peers.map (·.name) := fun r hr => by
      have ask : ∀ q r, Asks (getL L) over env q r → r.name ∈ L.flatMap fun x => x.peers.map (·.name) := fun q r ⟨x, d, hx, hd, hn, _⟩ => by
        refine List.mem_flatMap.2 ⟨x, (getL_some hx).1, ?_⟩
        rw [← peers_names over, hn]
        exact List.mem_map_of_mem hd
      cases hr with
      | one ha => exact ask _ _ ha
      | more _ ha => exact ask _ _ ha
    exact key r (h.reach r hr)
  have h2 : ∀ L : List Pack, (∀ x ∈ L, packMay x = true) → (L.flatMap fun x => x.peers.map (·.name)).length ≤ 16 * L.length := fun L => by
    induction L with
    | nil => intro _; simp
    | cons x r ih =>
      intro h
      have := ih fun y hy => h y (.tail _ hy)
      have := (depsMay_names (may_lists (h x (.head _))).2.2.2.1).1
      simp only [List.flatMap_cons, List.length_append, List.length_map, List.length_cons]; omega
  have h3 := h2 L hg.may
  have := hg.le
  rw [List.length_map] at h1
  omega
def pinC (p : Pin) : List Value := [.string p.name, .int .i64 p.v.ma, .int .i64 p.v.mi, .int .i64 p.v.pa]
def Apart (s t : Sl) : Prop := ∀ ad ad', s.a = some ad → t.a = some ad' → ad.block ≠ ad'.block
theorem OwnS.pushA {α β : Type} {E : Enc α} {F : Enc β} {P : Program} {w : World} {t e e2 : TypeId} {lo : Nat} {s s2 : Sl} {l : List α} {l2 : List β} {x : α} {cs : List Value} {a : Addr} {k : Sl → World → Prop} (h : OwnS E e w lo None' s l) (h2 : OwnS F e2 w lo None' s2 l2) (hA : Apart s s2) (hlo : lo ≤ w.heap.size) (hT : ApT P t e E.n E.bytes)
    (hx : E.rep w None' x cs) (hc : ldc w a cs) (hb : (l.length + 1) * E.bytes ≤ room) (hm : l.length + 1 ≤ maxLen) (hk : ∀ r w', OwnS E e w' lo None' r (l ++ [x]) → OwnS F e2 w' lo None' s2 l2 → Apart r s2 → Below lo w w' → (∀ b, b < w.heap.size → (∀ ad, s.a = some ad → b ≠ ad.block) → w'.heap[b]? = w.heap[b]?) → (∀ ad, r.a = some ad → (s.a = some ad ∨ w.heap.size ≤ ad.block)) → k r w') : appS P t t s (Sl.v ⟨some a, 1, 1⟩) w k := by
  refine h.push hT hlo hx hc (fun _ h => h.elim) (fun _ _ h => h.elim) hb hm fun r w' own bel oth reg => hk r w' (own.mono (fun _ h => h.elim id id) (fun _ h => h.elim) (fun _ _ h => h.elim)) (h2.keep bel.size fun b hbl hb' => ?_) (fun ad ad' h3 h4 => ?_) bel oth reg
  · rcases hb' with hb' | ⟨ad, ha, rfl⟩
    · exact hb'.elim
    · exact oth _ hbl fun ad' h' => Ne.symm (hA _ _ h' ha)
  · rcases reg ad h3 with h5 | h5
    · exact hA _ _ h5 h4
    · have := (h2.block h4).2.1; omega
theorem Apart.swap {s t : Sl} (h : Apart s t) : Apart t s := fun a b h1 h2 => Ne.symm (h b a h2 h1)
theorem newS.own {α : Type} {E : Enc α} {w : World} {cs : List Value} {t : TypeId} {x : α} {k : Addr → World → Prop} (hx : E.rep w None' x cs) (h : ∀ a w', Ext w w' → OwnS E t w' w.heap.size None' ⟨some a, 1, 1⟩ [x] → a.block = w.heap.size → k a w') : newS w cs t k := fun a w' ha hw => by
  subst ha hw
  have hl := E.len hx
  refine h _ _ (Ext.alloc _ _) ⟨⟨[cs], ⟨by simp [hl], .inr ⟨w.heap.size, 1, cs.toArray, rfl, Nat.le_refl _, heap_alloc_new w _, Nat.le_refl _, by rw [maxLen_eq]; omega, by simp [hl], ?_⟩⟩, rfl, fun i y hy => ?_⟩, rfl, fun _ h => h.elim, fun _ _ h => h.elim⟩ rfl
  · simp [hl, List.take_of_length_le (Nat.le_of_eq hl)]
  · cases i with
    | zero =>
      simp only [List.getElem?_cons_zero, Option.some.injEq] at hy
      subst hy
      exact ⟨cs, rfl, E.keep hx ((Ext.alloc w _).keep _)⟩
    | succ i => simp at hy
theorem apPin : ApT Tryz.prog 26 84 4 40 := apT_mk (z := .agg #[.string ⟨#[]⟩, .int .i64 0, .int .i64 0, .int .i64 0]) (by kernel_rfl) (by kernel_rfl) rfl (by decide)
theorem ctx11_se {q : Pin} {n : ByteArray} {c0 : Addr} {w : World} {R : Bool → World → Prop} (hc : BoxAt w c0 [.string n]) (hR : ∀ w', Ext w w' → R (isN n q) w') : SE.wants_Context_1_1 q.name q.v.ma q.v.mi q.v.pa c0 w R := by
  unfold SE.wants_Context_1_1
  refine newS.intro fun a w1 x1 hb _ _ => ⟨_, hb.at0 (Ext.refl _) rfl, n, hc.at0 (r := []) x1 rfl, ?_⟩
  have e : bEq q.name n = isN n q := by
    unfold isN
    rw [Bool.eq_iff_iff, bEq_iff, decide_eq_true_eq]
  rw [e]; exact hR _ x1
theorem enters_ctx11 : Enters Tryz.prog 148 := enters_of Tryz.func148 (by kernel_rfl) rfl
theorem ctx1_se {n : ByteArray} {w : World} {R : Value → World → Prop} (hR : ∀ f w', Ext w w' → (∀ l : List Pin, Tells f (fun x => .agg #[.string x.name, .int .i64 x.v.ma, .int .i64 x.v.mi, .int .i64 x.v.pa]) (isN n) l w') → R f w') : SE.wants_Context_1 n w R := by
  unfold SE.wants_Context_1
  refine newS.intro fun a w1 x1 hb _ _ => hR _ w1 x1 fun l x _ w' k hx hk => ⟨_, _, rfl, enters_ctx11, SE.wants_Context_1_1.go (ctx11_se (q := x) (n := n) (hb.ext hx) hk)⟩
theorem ctx2_gr {a b : Pin} {w : World} {R : Int → World → Prop} (hR : ∀ w', Gr w w' → R (cmpS a.name b.name) w') : SE.wants_Context_2 a.name a.v.ma a.v.mi a.v.pa b.name b.v.ma b.v.mi b.v.pa w R := by
  unfold SE.wants_Context_2
  refine newS.gr fun _ w1 x1 hb => newS.gr fun _ w2 x2 hb2 => ⟨_, Gr.at0 hb x2 rfl, _, Gr.at0 hb2 (Gr.refl _) rfl, strCmp_k ⟨_, rfl, hR _ (x1.trans x2)⟩⟩
theorem entersCtx2 : Enters Tryz.prog 152 := enters_of Tryz.func152 (by kernel_rfl) rfl
theorem isAggP : ∀ w, (isAgg 84).run Tryz.prog w = .ok true w := fun w => by kernel_rfl
theorem sizeOfP : ∀ w, (Go.sizeOf 84).run Tryz.prog w = .ok 4 w := fun w => by kernel_rfl
theorem sortPinF_k {w : World} {lo : Nat} {s : Sl} {l : List Pin} {K : Value → World → Prop} (h : FlatO pinC 40 w lo s l) (hlo : lo ≤ w.heap.size) (hn : (l.map (·.name)).Nodup)
    (hK : ∀ w', Below lo w w' → FlatO pinC 40 w' lo s (sortN l) → K (.tuple #[]) w') :
    callS Tryz.prog 72 [Sl.v s, .func (.func 152) #[] #[]] w K := by
  obtain ⟨h1, h2, h3, h4, h5⟩ := h
  obtain ⟨a, n, c⟩ := s
  simp only at h1 h2 h3 h5
  subst h1
  rcases h5 with rfl | ⟨g, tail, ha, hg, hr⟩
  · refine (AnyF.slices_SortFunc_none Tryz.laySp a c _ w).mono fun e w' ⟨he, hw⟩ => ⟨_, he, ?_⟩
    subst hw
    exact hK _ (Below.refl _ _) ⟨rfl, h2, h3, h4, .inl rfl⟩
  · subst ha
    have hO := cmpS_ord (α := Pin) (·.name)
    refine sortFunc_k Tryz.laySp (k := 4) isAggP sizeOfP (f := pinC) (fun _ => rfl) (fun x v hv => by simp [pinC] at hv; rcases hv with rfl | rfl | rfl | rfl <;> rfl) (fun a b => cmpS a.name b.name) (swo_ltOf hO.flip hO.trans) 152 #[] entersCtx2 (fun w0 x y hb _ => ?_) hr (by unfold room at h4; omega) rfl fun l' w' hp hs b hr' => ?_
    · have h := SE.wants_Context_2.go (k := fun v w' => v = .int .i64 (cmpS x.name y.name) ∧ Gr w0 w') (ctx2_gr (a := x) (b := y) (w := w0) fun w' h => ⟨rfl, h⟩)
      exact Calls.mono h fun e w' ⟨v, he, hv, hg⟩ => ⟨by rw [he, hv], hg⟩
    · have e : l' = sortN l := by
        refine Rises.one ?_ (sortN_rises hn) (hp.trans (sortN_perm l).symm)
        have hn' : (l'.map (·.name)).Nodup := (hp.map _).nodup_iff.2 hn
        rw [List.nodup_iff_pairwise_ne, List.pairwise_map] at hn'
        exact (hs.and hn').imp fun {a b} h => bLt_of (by have := hO.flip b a; have := hO.flip a b; omega) h.2
      subst e
      have hl := (sortN_perm l).length_eq
      exact hK w' (b.below hlo hg) ⟨hl.symm, by rw [hl]; exact h2, h3, by rw [hl]; exact h4, .inr ⟨g, tail, rfl, hg, hr'⟩⟩
end Go.Hal
namespace Go.Hal
open Go Go.RowKit Go.Proofs Go.Shelf
theorem pinEl {w : World} {S : Nat → Prop} {s : Sl} {l : List Pin} (h : SlR pinE w S s l) {n : Nat} (hn : n < l.length) :
    ∃ ad, s.a = some ad ∧ S ad.block ∧ Str l[n].name ∧ ∀ w', Ext w w' → ldc w' (ad.add (n * 4)) (pinC l[n]) := by
  obtain ⟨ad, cs, h1, h2, ⟨rfl, h3⟩, h4⟩ := h.el hn
  exact ⟨ad, h1, h2, h3, h4⟩
theorem OwnS.el {α : Type} {E : Enc α} {T : TypeId} {w : World} {lo : Nat} {S : Nat → Prop} {s : Sl} {l : List α} (h : OwnS E T w lo S s l) {i : Nat} {x : α} (hx : l[i]? = some x) : ∃ ad cs, s.a = some ad ∧ E.rep w S x cs ∧ ∀ w', Ext w w' → ldc w' (ad.add (i * E.n)) cs := by
  obtain ⟨css, ho, hl, hr⟩ := h.row
  obtain ⟨cs, h1, h2⟩ := hr i x hx
  rcases ho.2 with ⟨hv, hn⟩ | ⟨g, cap, cur, hv, hg, hh, hc, hcm, hcs, ht⟩
  · have := (List.getElem?_eq_some_iff.1 hx).1
    have := h.len
    omega
  · simp [Sl.v] at hv
    refine ⟨⟨g, 0, none⟩, cs, hv.1, h2, fun w' hxt => ?_⟩
    have hall : ∀ cs ∈ css, cs.length = E.n := by
      intro cs hcs
      obtain ⟨k, hk, he⟩ := List.mem_iff_getElem.1 hcs
      obtain ⟨cs', h3, h4⟩ := hr k _ (List.getElem?_eq_getElem (by omega))
      rw [List.getElem?_eq_getElem hk, he, Option.some.injEq] at h3
      rw [h3]; exact E.len h4
    have : ldc w ((⟨g, 0, none⟩ : Addr).add (i * E.n)) cs := fun j v hj => by
      rw [add_add]
      exact ho.cells (g := g) (by simp [Value.ownBlock, Sl.v, hv.1]) _ _ (flatten_get hall h1 hj)
    exact this.ext hxt
theorem tells_idx {env : List Pin} {n : ByteArray} : (idxI (isN n) env < 0 ∧ tells env n = none) ∨ ∃ k, ∃ hk : k < env.length, idxI (isN n) env = (k : Int) ∧ tells env n = some env[k].v ∧ env[k].name = n := by
  unfold idxI tells
  cases hf : env.findIdx? (isN n) with
  | none =>
    left
    refine ⟨by decide, ?_⟩
    rw [Option.map_eq_none_iff, List.find?_eq_none]
    intro x hx
    have := List.findIdx?_eq_none_iff.1 hf x hx
    simp [this]
  | some k =>
    right
    obtain ⟨hk, hp, hb⟩ := List.findIdx?_eq_some_iff_getElem.1 hf
    refine ⟨k, hk, rfl, ?_, by simpa [isN] using hp⟩
    have h0 : (env.take k).find? (isN n) = none := by
      rw [List.find?_eq_none]
      intro x hx
      obtain ⟨j, hj, rfl⟩ := List.mem_iff_getElem.1 hx
      rw [List.length_take] at hj
      rw [List.getElem_take]
      exact hb j (by omega)
    have h1 : (env.take (k + 1)).find? (isN n) = some env[k] := by
      rw [List.take_succ_eq_append_getElem hk, List.find?_append, h0]
      simp [List.find?_cons, hp]
    have h2 : env.find? (isN n) = some env[k] := by
      have e : env.find? (isN n) = (env.take (k + 1) ++ env.drop (k + 1)).find? (isN n) := by rw [List.take_append_drop]
      rw [e, List.find?_append, h1]; rfl
    rw [h2]; rfl
def ctxRes (L : List Pack) (over : List Dep) (env : List Pin) (p : Pin) : Option (List Pin) := ctx (getL L) over env p
def Kp (lo c d : Nat) (w w' : World) : Prop := Below lo w w' ∧ ∀ b, c ≤ b → b < d → w'.heap[b]? = w.heap[b]?
theorem Kp.refl (lo c d : Nat) (w : World) : Kp lo c d w w := ⟨Below.refl _ _, fun _ _ _ => rfl⟩
theorem Kp.trans {lo c d : Nat} {u v w : World} (h : Kp lo c d u v) (k : Kp lo c d v w) : Kp lo c d u w := ⟨Below.trans h.1 k.1, fun b h1 h2 => (k.2 b h1 h2).trans (h.2 b h1 h2)⟩
theorem Kp.ext {lo c d : Nat} {u v w : World} (h : Kp lo c d u v) (hx : Ext v w) (h1 : lo ≤ v.heap.size) (h2 : d ≤ v.heap.size) : Kp lo c d u w := h.trans ⟨Below.mono hx h1, fun b _ h3 => hx.block (by omega)⟩
set_option maxHeartbeats 8000000 in
theorem wantsContext_se {S S2 : Nat → Prop} {p : Addr} {r : Nat} {L : List Pack} {mD mDev mOpt mOv envS : Sl} {over : List Dep} {env : List Pin} {pn : Pin} {S3 : Nat → Prop} {w : World} {R : Sl → Bool → World → Prop}
    (hC : CatL w S p r L) (hS2 : Old S2 w) (hS3 : Old S3 w) (hO : SlR depE w S2 mOv over) (hE : SlR pinE w S3 envS env) (hpn : Str pn.name)
    (hsome : ∀ a t w', ctxRes L over env pn = some a → Ext w w' → FlatO pinC 40 w' w.heap.size t a → (∀ q ∈ a, Str q.name) → R t true w') (hnone : ∀ w', ctxRes L over env pn = none → Ext w w' → R Sl.nil false w') :
    SE.wants_Context (some p) mD mDev mOpt mOv envS pn.name pn.v.ma pn.v.mi pn.v.pa w R := by
  unfold SE.wants_Context
  have hgood := hC.good
  refine newS.intro fun a w1 x1 ha _ _ => newS.intro fun a1 w2 x2 ha1 _ _ => ⟨(fun h => by cases h), fun _ => ?_⟩
  have x02 := x1.trans x2
  have ePb : pinE.bytes = 40 := rfl
  have hEl := hE.len
  have s02 := x02.size
  have upE : ∀ w', Below w2.heap.size w2 w' → Ext w w' := fun w' hb => x02.trans' (Below.mono hb s02)
  have ha2 := ha.ext x2
  refine ⟨_, _, _, _, ha1.ldc.pre (r := []) rfl, newS.own (E := pinE) (x := pn) ⟨rfl, hpn⟩ fun a3 w4 x4 own0 h3b => ?_⟩
  refine loop3.ghost (fun n all con i w' => ∃ (out : List Pin) (k : Nat), i = (k : Int) ∧ n = env.length + 2 - k ∧ CtxI (getL L) over env pn k out ∧ ctxGo (getL L) over env pn (env.length + 2 - k) k out = ctxGo (getL L) over env pn (env.length + 2) 0 [] ∧ (∀ q ∈ pn :: out, Str q.name) ∧
      Below w2.heap.size w2 w' ∧ OwnS pinE 84 w' w2.heap.size None' all (pn :: out) ∧ OwnS pinE 84 w' w2.heap.size None' con out ∧ Apart con all) (env.length + 2)
    ⟨[], 0, rfl, rfl, CtxI.zero, rfl, by simpa using hpn, x4, own0, (OwnS.nil _ _).mono (fun _ h => h) (fun _ h => h.elim) (fun _ h => by cases h), fun _ _ h => by cases h⟩ fun n all con i w5 nxt hJ hn => ?_
  obtain ⟨out, k, rfl, rfl, hI, hgo, hStr, b5, oA, oC, hAp⟩ := hJ
  have hAl := oA.len
  have hCl := oC.len
  have hle := hI.le
  have hlen := hI.len
  have hbd := ctx_bound hgood hI
  have s5 := b5.size
  refine ⟨fun hlt => join.named fun J hJ => ?_, fun hge => ?_⟩
  · have hk : k < (pn :: out).length := by omega
    have hk' : k < out.length + 1 := hk
    have hqk : (pn :: out)[k]? = some (pn :: out)[k] := List.getElem?_eq_getElem hk
    have hqS : Str (pn :: out)[k].name := hStr _ (List.getElem_mem hk)
    generalize hq : (pn :: out)[k] = q at *
    have hf : env.length + 2 - k = (env.length + 1 - k) + 1 := by omega
    have kJ : ∀ a6 w6 d e o, Ext w5 w6 → BoxAt w6 a6 [.string (getD L q.name q.v).name, .int .i64 (getD L q.name q.v).v.ma, .int .i64 (getD L q.name q.v).v.mi, .int .i64 (getD L q.name q.v).v.pa, Sl.v d, Sl.v e, Sl.v o] →
        SlR depE w6 (fun b => b < w6.heap.size) e (getD L q.name q.v).peers → J a6 (getL L q.name q.v).isSome w6 := fun a6 w6 d e o x6 hb6 he => by
      subst hJ
      have b6 : Below w2.heap.size w2 w6 := Below.trans b5 (Below.mono x6 s5)
      have s6 := b6.size
      have s56 := x6.size
      refine ⟨fun h => ?_, fun h => ?_⟩
      · refine hnone w6 ?_ (upE _ b6)
        have hg : getL L q.name q.v = none := by
          cases hg : getL L q.name q.v with
          | none => rfl
          | some y => rw [hg] at h; simp at h
        rw [hf, ctxGo_none hqk hg] at hgo
        unfold ctxRes ctx
        rw [← hgo]; rfl
      · obtain ⟨y, hg⟩ : ∃ y, getL L q.name q.v = some y := by
          cases hg : getL L q.name q.v with
          | none => rw [hg] at h; simp at h
          | some y => exact ⟨y, rfl⟩
        have hD : getD L q.name q.v = y := by unfold getD; rw [hg]; rfl
        rw [hD] at hb6 he
        have hyL := (getL_some hg).1
        have hdm := depsMay_names (may_lists (hgood.may y hyL)).2.2.2.1
        refine ⟨_, _, _, _, _, _, _, hb6.ldc.pre (r := []) rfl, mD, mDev, mOpt, mOv, (ha2.below b6 ha2.lt).ldc.pre (r := []) rfl, ?_⟩
        have hOldB : Old (fun b => b < w6.heap.size) w6 := fun b hb => hb
        have hO6 : SlR depE w6 (fun b => b < w6.heap.size) mOv over := (hO.ext (upE _ b6)).mono fun b hb => Nat.lt_of_lt_of_le (hS2 b hb) (upE _ b6).size
        refine SE.wants_Peers.go (wantsPeers_se hOldB hO6 he fun t w7 x7 ht => ⟨_, rfl, ?_⟩)
        have b7 : Below w2.heap.size w2 w7 := Below.trans b6 (Below.mono x7 s6)
        have s7 := x7.size
        have hT := ht.dep
        have hTl := hT.len
        have hpl : (peersOf over y.peers).length ≤ 16 := by unfold peersOf; rw [List.length_map]; exact hdm.1
        have hnext : ∀ out', ctxStep env (peersOf over y.peers) out = some out' → CtxI (getL L) over env pn (k + 1) out' ∧ ctxGo (getL L) over env pn (env.length + 2 - (k + 1)) (k + 1) out' = ctxGo (getL L) over env pn (env.length + 2) 0 [] := fun out' hs => by
          refine ⟨hI.next hqk hg hs, ?_⟩
          rw [← hgo, hf, ctxGo_next hqk hg hs, show env.length + 2 - (k + 1) = env.length + 1 - k by omega]
        have hfail : ctxStep env (peersOf over y.peers) out = none → ctxRes L over env pn = none := fun hs => by
          rw [hf, ctxGo_fail hqk hg hs] at hgo
          unfold ctxRes ctx
          rw [← hgo]; rfl
        generalize hP : peersOf over y.peers = P at *
        have oA7 := oA.ext (x6.trans x7)
        have oC7 := oC.ext (x6.trans x7)
        refine loop3.ghost (fun n2 all2 con2 j w' => ∃ (o2 : List Pin) (m : Nat), j = (m : Int) ∧ n2 = P.length - m ∧ m ≤ P.length ∧ ctxStep env (P.drop m) o2 = ctxStep env P out ∧ o2.length ≤ out.length + m ∧ (∀ q ∈ pn :: o2, Str q.name) ∧
          Kp w2.heap.size w6.heap.size w7.heap.size w7 w' ∧ OwnS pinE 84 w' w2.heap.size None' all2 (pn :: o2) ∧ OwnS pinE 84 w' w2.heap.size None' con2 o2 ∧ Apart con2 all2 ∧
          (∀ ad, all2.a = some ad → ad.block < w6.heap.size ∨ w7.heap.size ≤ ad.block) ∧ ∀ ad, con2.a = some ad → ad.block < w6.heap.size ∨ w7.heap.size ≤ ad.block) P.length
          ⟨out, 0, rfl, rfl, Nat.zero_le _, rfl, by omega, hStr, Kp.refl _ _ _ _, oA7, oC7, hAp, fun ad h => .inl (by have := (oA.block h).2.1; omega), fun ad h => .inl (by have := (oC.block h).2.1; omega)⟩ fun n2 all2 con2 j w8 nxt2 hJ2 hn2 => ?_
        obtain ⟨o2, m, rfl, rfl, hm, hst, hol, hStr2, k8, oA2, oC2, hAp2, hra, hrc⟩ := hJ2
        have b8 : Below w2.heap.size w2 w8 := Below.trans b7 k8.1
        have s8 := k8.1.size
        have hT8 : SlR depE w8 (fun b => w6.heap.size ≤ b ∧ b < w7.heap.size) t P := hT.keep fun b hb _ => k8.2 b hb.1 hb.2
        refine ⟨fun hlt2 => join.named fun J2 hJ2 => ?_, fun hge2 => ?_⟩
        · have hmP : m < P.length := by omega
          obtain ⟨ad, tr, hta, _, hnm, hrr, hcc⟩ := depEl hT8 hmP
          have hdrop : P.drop m = P[m] :: P.drop (m + 1) := List.drop_eq_getElem_cons hmP
          generalize hdd : P[m] = d1 at *
          rw [hdrop] at hst
          have kJ2 : ∀ all3 con3 o3 w9, ctxStep env (P.drop (m + 1)) o3 = ctxStep env P out → o3.length ≤ out.length + (m + 1) → (∀ q ∈ pn :: o3, Str q.name) → Kp w2.heap.size w6.heap.size w7.heap.size w7 w9 → OwnS pinE 84 w9 w2.heap.size None' all3 (pn :: o3) → OwnS pinE 84 w9 w2.heap.size None' con3 o3 → Apart con3 all3 →
              (∀ ad, all3.a = some ad → ad.block < w6.heap.size ∨ w7.heap.size ≤ ad.block) → (∀ ad, con3.a = some ad → ad.block < w6.heap.size ∨ w7.heap.size ≤ ad.block) → J2 all3 con3 w9 := fun all3 con3 o3 w9 q1 q2 q3 q4 q5 q6 q7 q8 q9 => by
            subst hJ2
            show nxt2 _ _ _ _
            rw [wrapI_eq (by omega) (by omega)]
            exact hn2 _ _ _ _ _ (by omega) ⟨o3, m + 1, by omega, rfl, by omega, q1, q2, q3, q4, q5, q6, q7, q8, q9⟩
          clear hJ2
          refine ⟨ad, ⟨hta, by omega, hlt2⟩, _, tr, hcc _ (Ext.refl _), newS.intro fun a18 w9 x9 hb9 h9b _ => stw0.intro hb9 (by simp) fun w10 b10 _ hb10 => ⟨_, hb10.ldc.pre rfl, ?_⟩⟩
          have x810 : Ext w8 w10 := b10.ext x9 (by omega)
          refine SE.wants_Context_1.go (ctx1_se fun f w11 x11 hT1 => ⟨_, rfl, ?_⟩)
          have x811 := x810.trans x11
          have hE8 := hE.ext (upE _ b8)
          refine SE.slices_IndexFunc_apiPinapiPin.go (idxPin_se (p := isN d1.name) (hE8.ext x811) (hT1 env) fun w12 x12 => ⟨_, rfl, bnd.drew fun w13 x13 => bound ?_⟩)
          have x813 := x811.trans (x12.trans x13)
          have b13 : Below w2.heap.size w2 w13 := Below.trans b8 (Below.mono x813 (by omega))
          have hb13 := hb10.ext (x11.trans (x12.trans x13))
          rcases tells_idx (env := env) (n := d1.name) with ⟨hneg, htn⟩ | ⟨kk, hkk, hidx, htk, hkn⟩
          · have hdec : decide (idxI (isN d1.name) env < 0) = true := by simpa using hneg
            rw [hdec]
            refine ⟨Sl.nil, (fun h => by cases h), ⟨0, 0, none⟩, (fun h => by cases h), 0, 0, 0, (fun h => by cases h), (fun h => by cases h), fun _ => ⟨fun _ => ?_, (fun h => by cases h)⟩⟩
            refine hnone w13 (hfail ?_) (upE _ b13)
            rw [← hst]; exact ctxStep_none htn
          · rw [hidx]
            have hdec : decide ((kk : Int) < 0) = false := by simp
            rw [hdec]
            obtain ⟨ae, hea, hS3e, _, hec⟩ := pinEl hE hkk
            refine ⟨tr, fun _ => hb13.at1 (k := 1) (Ext.refl _) rfl, ae, fun _ => ⟨hea, by omega, by omega⟩, _, _, _, fun _ => (hec _ (upE _ b13)).mid (k := 1) (r := []) rfl, gCall.named fun J3 hJ3 => ⟨fun _ => ?_, (fun h => by cases h)⟩⟩
            refine SE.span_In.go (spanIn_se (v := env[kk].v) (hrr.ext x813) fun w14 x14 => ⟨_, rfl, ?_⟩)
            have x814 := x813.trans x14
            subst hJ3
            refine ⟨fun h => ?_, fun h => ?_⟩
            · have hin : spansIn d1.range env[kk].v = false := by simpa using h
              rw [ctxStep_no htk hin] at hst
              exact hnone w14 (hfail hst.symm) (upE _ (Below.trans b8 (Below.mono x814 (by omega))))
            · have hin : spansIn d1.range env[kk].v = true := by simpa using h
              have hpin : (⟨d1.name, env[kk].v⟩ : Pin) = env[kk] := by rw [← hkn]
              have hStrK : Str env[kk].name := by rw [hkn]; exact hnm
              refine ⟨_, hb13.at0 (r := [Sl.v tr]) x14 rfl, SE.wants_Context_1.go (ctx1_se fun f2 w15 x15 hT2 => ⟨_, rfl, ?_⟩)⟩
              have x815 := x814.trans x15
              have oC15 := oC2.ext x815
              have hrd : SlR pinE w15 (fun b => True) con2 o2 := ((oC15.read (by rw [ePb]; unfold room; omega) (by rw [maxLen_eq]; omega))).mono fun _ _ => trivial
              refine SE.slices_ContainsFunc_apiPinapiPin.go (conPin_se (p := isN d1.name) hrd (hT2 o2) fun w16 x16 => ⟨_, rfl, fun h2 => ?_, fun h2 => ?_⟩)
              · have hany : o2.any (isN d1.name) = false := by simpa using h2
                rw [ctxStep_new htk hin hany, hpin] at hst
                have x816 := x815.trans x16
                have b16 : Below w2.heap.size w2 w16 := Below.trans b8 (Below.mono x816 (by omega))
                refine ⟨ae, ⟨hea, by omega, by omega⟩, _, _, _, _, hec _ (upE _ b16), newS.intro fun a48 w17 x17 hb17 _ _ => ?_⟩
                have x817 := x816.trans x17
                have hs17 := x817.size
                refine OwnS.pushA (x := env[kk]) (oC2.ext x817) (oA2.ext x817) hAp2 (by omega) apPin ⟨rfl, hStrK⟩ hb17.ldc (by rw [ePb]; unfold room; omega) (by rw [maxLen_eq]; omega) fun r1 w18 oC18 oA18 hAp18 bel18 oth18 reg18 => ?_
                have hs18 := bel18.size
                have b18 : Below w2.heap.size w2 w18 := Below.trans (Below.trans b8 (Below.mono x817 (by omega))) bel18
                refine ⟨ae, ⟨hea, by omega, by omega⟩, _, _, _, _, hec _ (upE _ b18), newS.intro fun a54 w19 x19 hb19 _ _ => ?_⟩
                have hs19 := x19.size
                refine OwnS.pushA (x := env[kk]) (oA18.ext x19) (oC18.ext x19) hAp18.swap (by omega) apPin ⟨rfl, hStrK⟩ hb19.ldc (by rw [ePb, List.length_cons]; unfold room; omega) (by rw [maxLen_eq, List.length_cons]; omega) fun r2 w20 oA20 oC20 hAp20 bel20 oth20 reg20 => ?_
                have hStr3 : ∀ q ∈ pn :: (o2 ++ [env[kk]]), Str q.name := fun q hq => by
                  rcases List.mem_cons.1 hq with rfl | hq
                  · exact hStr2 _ (.head _)
                  · rcases List.mem_append.1 hq with hq | hq
                    · exact hStr2 _ (.tail _ hq)
                    · simp at hq; subst hq; exact hStrK
                have k18 : Kp w2.heap.size w6.heap.size w7.heap.size w17 w18 := ⟨bel18, fun b h1 h2 => oth18 b (by omega) fun ad had => by
                  rintro rfl
                  rcases hrc ad had with h | h <;> omega⟩
                have k20 : Kp w2.heap.size w6.heap.size w7.heap.size w19 w20 := ⟨bel20, fun b h1 h2 => oth20 b (by omega) fun ad had => by
                  rintro rfl
                  rcases hra ad had with h | h <;> omega⟩
                refine kJ2 r2 r1 (o2 ++ [env[kk]]) w20 hst (by simp; omega) hStr3 ((((k8.ext x817 (by omega) (by omega)).trans k18).ext x19 (by omega) (by omega)).trans k20) oA20 oC20 hAp20.swap (fun ad had => ?_) (fun ad had => ?_)
                · rcases reg20 ad had with h | h
                  · exact hra ad h
                  · right; omega
                · rcases reg18 ad had with h | h
                  · exact hrc ad h
                  · right; omega
              · have hany : o2.any (isN d1.name) = true := by simpa using h2
                rw [ctxStep_old htk hin hany] at hst
                have x816 := x815.trans x16
                exact kJ2 _ _ o2 w16 hst (by omega) hStr2 (k8.ext x816 (by omega) (by omega)) (oA2.ext x816) (oC2.ext x816) hAp2 hra hrc
        · have hmP : m = P.length := by omega
          subst hmP
          rw [List.drop_length, ctxStep] at hst
          obtain ⟨c1, c2⟩ := hnext o2 hst.symm
          rw [wrapI_eq (by omega) (by omega)]
          exact hn _ _ _ _ _ (by omega) ⟨o2, k + 1, by omega, rfl, c1, c2, hStr2, b8, oA2, oC2, hAp2⟩
    clear hJ
    refine bnd.drew fun w59 x59 => ?_
    obtain ⟨aq, csq, haq, ⟨hcsq, _⟩, hlq⟩ := oA.el hqk
    subst hcsq
    have hC59 : CatL w59 S p r L := (hC.ext (upE _ b5)).ext x59
    have s59 := x59.size
    refine ⟨aq, ⟨haq, by omega, by omega⟩, _, (hlq _ x59).pre rfl, aq, ⟨haq, by omega, by omega⟩, _, _, _, (hlq _ x59).mid (k := 1) (r := []) rfl, ?_, ?_⟩
    · refine SE.catalog_Catalog_Get.go (catGet_se (n := q.name) (v := q.v) hC59 fun d e o w66 x66 _ _ he _ => ⟨_, _, _, _, _, _, _, _, rfl, newS.intro fun a69 w70 x70 hb70 h70 _ => stw0.intro hb70 (by simp) fun w71 b71 _ hb71 => ?_⟩)
      have x71 : Ext w66 w71 := b71.ext x70 (by omega)
      have hs71 := x71.size
      exact kJ a69 w71 d e o (x59.trans (x66.trans x71)) hb71 ((he.dep.ext x71).mono fun b hb => by omega)
    · refine newS.intro fun a72 w73 x73 hb73 h73 _ => SE.catalog_Catalog_Get.go (catGet_se (n := q.name) (v := q.v) (hC59.ext x73) fun d e o w74 x74 _ _ he _ => ⟨_, _, _, _, _, _, _, _, rfl, stw0.intro (hb73.ext x74) (by simp) fun w75 b75 _ hb75 => ?_⟩)
      have x75 : Ext w59 w75 := b75.ext (x73.trans x74) (by omega)
      have hs75 := b75.1
      have hl73 := hb73.lt
      exact kJ a72 w75 d e o (x59.trans x75) hb75 ((he.dep.but b75 (fun hb => by omega)).mono fun b hb => by omega)
  · have hkl : k = out.length + 1 := by simp at hAl; omega
    have hres : ctxRes L over env pn = some (sortN out) := by
      have hf : env.length + 2 - k = (env.length + 1 - k) + 1 := by omega
      have hnoq : (pn :: out)[k]? = none := List.getElem?_eq_none_iff.2 (by simp; omega)
      rw [hf, ctxGo_end hnoq] at hgo
      unfold ctxRes ctx
      rw [← hgo]; rfl
    have hF : FlatO pinC 40 w5 w2.heap.size con out := FlatO.of (E := pinE) (f := pinC) (bytes := 40) (fun x cs h => h.1) oC (by unfold room; omega)
    refine sortPinF_k hF s5 hI.names fun w6 b6 hF6 => ⟨rfl, ?_⟩
    refine SE.slices_Clip_apiPinapiPin.go ⟨clip_ok (by have := hF6.1; have := hF6.2.1; omega), _, rfl, hsome (sortN out) _ w6 hres (upE _ (Below.trans b5 b6)) ?_ fun q hq => hStr q (.tail _ ((sortN_perm out).mem_iff.1 hq))⟩
    obtain ⟨a, b, c, d, e⟩ := hF6.clip (k := 4)
    exact ⟨a, b, c, d, e.imp id fun ⟨g, tail, a, b, c⟩ => ⟨g, tail, a, by omega, c⟩⟩
end Go.Hal
namespace Go.Hal
open Go Go.RowKit Go.Proofs Go.Shelf
def catOf (l : List Pack) : List Pack := l.foldl (fun L x => (refPut L x).2) []
theorem catOf_snoc (l : List Pack) (x : Pack) : catOf (l ++ [x]) = (refPut (catOf l) x).2 := by unfold catOf; rw [List.foldl_append]; rfl
theorem CatL.stay {w w' : World} {S : Nat → Prop} {p : Addr} {r : Nat} {L : List Pack} (h : CatL w S p r L) (hsz : w.heap.size ≤ w'.heap.size) (hk : ∀ b, b < w.heap.size → (S b ∨ b = p.block ∨ b = r) → w'.heap[b]? = w.heap[b]?) : CatL w' S p r L := by
  obtain ⟨ps, a, b, c⟩ := h
  exact ⟨ps, a.stay hsz hk, b, c⟩
theorem CatL.lt {w : World} {S : Nat → Prop} {p : Addr} {r : Nat} {L : List Pack} (h : CatL w S p r L) : r < w.heap.size ∧ p.block < w.heap.size ∧ (∀ b, S b → b < w.heap.size) ∧ ¬ S r ∧ ¬ S p.block ∧ p.block ≠ r := by
  obtain ⟨ps, a, _⟩ := h
  obtain ⟨m, hm, _⟩ := a.map
  exact ⟨hm.lt, a.box.lt, a.old, a.free.1, a.free.2, a.ne⟩
structure Both (w : World) (lo : Nat) (SA : Nat → Prop) (p : Addr) (r : Nat) (q : Addr) (L : List Pack) : Prop where
  cat : ∃ S, CatL w S p r L ∧ (∀ b, S b → lo ≤ b) ∧ ¬ S q.block
  ref : ∃ S, RefR w S q L ∧ (∀ b, S b → SA b ∨ lo ≤ b) ∧ ¬ S r
  le : lo ≤ r ∧ lo ≤ p.block ∧ lo ≤ q.block
  ne : q.block ≠ p.block ∧ q.block ≠ r
theorem Both.ext {w w' : World} {lo : Nat} {SA : Nat → Prop} {p : Addr} {r : Nat} {q : Addr} {L : List Pack} (h : Both w lo SA p r q L) (hx : Ext w w') : Both w' lo SA p r q L := by
  obtain ⟨⟨S, a, b, c⟩, ⟨T, d, e, f⟩, g, k⟩ := h
  exact ⟨⟨S, a.ext hx, b, c⟩, ⟨T, d.ext hx, e, f⟩, g, k⟩
theorem box_one {α : Type} {E : Enc α} {w : World} {S : Nat → Prop} {a : Addr} {cs : List Value} {x : α} (hb : BoxAt w a cs) (hx : E.rep w S x cs) (hB : E.bytes ≤ room) : SlR E w (fun b => S b ∨ b = a.block) ⟨some a, 1, 1⟩ [x] :=
  ⟨rfl, Nat.le_refl _, by show 1 ≤ maxLen; rw [maxLen_eq]; omega, by simpa using hB, .inr ⟨a, rfl, .inr rfl, fun i y hy => by
    cases i with
    | zero =>
      simp only [List.getElem?_cons_zero, Option.some.injEq] at hy
      subst hy
      exact ⟨cs, E.mono hx fun _ h => .inl h, by rw [Nat.zero_mul]; exact hb.ldc⟩
    | succ i => simp at hy⟩⟩
theorem FlatO.pins {w : World} {lo : Nat} {s : Sl} {l : List Pin} (h : FlatO pinC 40 w lo s l) (hs : ∀ q ∈ l, Str q.name) : SlR pinE w (fun b => lo ≤ b ∧ b < w.heap.size) s l :=
  FlatO.read (E := pinE) h (fun _ => rfl) fun _ _ x hx => ⟨rfl, hs x hx⟩
end Go.Hal
namespace Go.Hal
open Go Go.RowKit Go.Proofs Go.Shelf
theorem stIns_map {α β : Type} {c : β → β → Int} {d : α → α → Int} (f : α → β) {x : α} {l : List α} (h : ∀ y ∈ l, c (f x) (f y) = d x y) : (stIns d x l).map f = stIns c (f x) (l.map f) := by
  induction l with
  | nil => rfl
  | cons y r ih =>
    rw [List.map_cons, stIns, stIns, h y (.head _)]
    by_cases h1 : d x y ≤ 0
    · rw [if_pos h1, if_pos h1]; rfl
    · rw [if_neg h1, if_neg h1, List.map_cons, ih fun z hz => h z (.tail _ hz)]
theorem stSort_map {α β : Type} {c : β → β → Int} {d : α → α → Int} (f : α → β) {l : List α} (h : ∀ x ∈ l, ∀ y ∈ l, c (f x) (f y) = d x y) : (stSort d l).map f = stSort c (l.map f) := by
  induction l with
  | nil => rfl
  | cons x r ih =>
    rw [List.map_cons, stSort, stSort, ← ih fun a ha b hb => h a (.tail _ ha) b (.tail _ hb)]
    exact stIns_map f fun y hy => h x (.head _) y (.tail _ ((stSort_perm r).mem_iff.1 hy))
def wantT : Enc (Want × (Nat → Prop)) where
  n := 3
  bytes := 48
  rep := fun w S x cs => wantP.rep w x.2 x.1 cs ∧ ∀ b, x.2 b → S b
  len := fun h => wantP.len h.1
  one := fun h v hv => wantP.one h.1 v hv
  mono := fun h hs => ⟨h.1, fun b hb => hs b (h.2 b hb)⟩
  keep := fun h hk => ⟨wantP.keep h.1 fun b hb hl => hk b (h.2 b hb) hl, h.2⟩
def DisjW (p q : Want × (Nat → Prop)) : Prop := ∀ b, p.2 b → ¬ q.2 b
def SepW (w : World) (S : Nat → Prop) (s : Sl) (L : List Want) : Prop :=
  s.len = L.length ∧ s.cap = L.length ∧ (L = [] ∨ ∃ (g : Nat) (tail : List Value) (z : List (WantC × (Want × (Nat → Prop)))), s.a = some ⟨g, 0, none⟩ ∧ S g ∧ RowB StW.cells w g (z.map Prod.fst) tail ∧ (z.map fun q => q.2.1) = L ∧
    (∀ q ∈ z, q.1.name = q.2.1.name ∧ q.1.kind = q.2.1.kind ∧ wantP.rep w q.2.2 q.2.1 (StW.cells q.1) ∧ ∀ b, q.2.2 b → S b ∧ b ≠ g) ∧ z.Pairwise fun p q => ∀ b, p.2.2 b → ¬ q.2.2 b)
def AllI (w : World) (lo : Nat) (out : Sl) (M : List Want) : Prop :=
  ∃ (vis : List (Want × (Nat → Prop))) (Q : Nat → Prop), OwnS wantT 61 w lo Q out vis ∧ vis.map Prod.fst = M ∧ (∀ b, Q b → lo ≤ b) ∧ vis.Pairwise DisjW ∧ ∀ q ∈ vis, ∀ b, q.2 b → Q b
theorem AllI.ext {w w' : World} {lo : Nat} {out : Sl} {M : List Want} (h : AllI w lo out M) (hx : Ext w w') : AllI w' lo out M := by
  obtain ⟨vis, Q, a, b, c, d, e⟩ := h
  exact ⟨vis, Q, a.ext hx, b, c, d, e⟩
theorem AllI.zero (w : World) : AllI w w.heap.size Sl.nil [] := ⟨[], None', OwnS.nil _ _, rfl, fun _ h => h.elim, .nil, fun _ h => by cases h⟩
theorem AllI.push {w0 w : World} {lo : Nat} {out u : Sl} {M : List Want} {x : Want} {a : Addr} {K : Sl → World → Prop} (h : AllI w0 lo out M) (hx : Ext w0 w) (hlo : lo ≤ w0.heap.size) (hN : Str x.name) (hu : SlP spanE w (fun b => w0.heap.size ≤ b ∧ b < w.heap.size) u x.range) (hb : BoxAt w a [.string x.name, .int .i64 x.kind, u.v]) (hm : (M.length + 1) * 48 ≤ room)
    (hK : ∀ r w', Below lo w w' → AllI w' lo r (M ++ [x]) → K r w') : appS Tryz.prog 55 55 out (Sl.v ⟨some a, 1, 1⟩) w K := by
  obtain ⟨vis, Q, own, rfl, hQ, hdj, hvQ⟩ := h
  have s := hx.size
  have eb : wantT.bytes = 48 := rfl
  rw [List.length_map] at hm
  have hm2 : vis.length + 1 ≤ 9000000000000 := by unfold room at hm; omega
  refine (own.ext hx).push apWant (Nat.le_trans hlo s) (x := (x, fun b => w0.heap.size ≤ b ∧ b < w.heap.size)) (S' := fun b => w0.heap.size ≤ b ∧ b < w.heap.size) ⟨⟨hN, u, rfl, hu⟩, fun _ h => h⟩ (hb.ldc.pre (r := []) rfl) (fun b hb => hb.2) (fun ad ha hb => by have := (own.block ha).2.1; omega) (by rw [eb]; exact hm) (by rw [maxLen_eq]; omega) fun r w' own' bel _ _ => hK r w' bel ⟨_, _, own', by rw [List.map_append]; rfl, fun b hb => ?_, ?_, fun q hq b hb => ?_⟩
  · rcases hb with hb | hb
    · exact hQ b hb
    · omega
  · refine List.pairwise_append.2 ⟨hdj, List.pairwise_singleton _ _, fun q hq y hy b hb hc => ?_⟩
    rw [List.mem_singleton] at hy
    subst hy
    have h1 := own.lt b (hvQ q hq b hb)
    have h2 : w0.heap.size ≤ b ∧ b < w.heap.size := hc
    omega
  · rcases List.mem_append.1 hq with hq | hq
    · exact .inl (hvQ q hq b hb)
    · rw [List.mem_singleton] at hq
      subst hq
      exact .inr hb
def depsE : Enc (List Dep) where
  n := 1
  bytes := 24
  rep := fun w S l cs => ∃ t : Sl, cs = [t.v] ∧ SlR depE w S t l
  len := fun ⟨_, h, _⟩ => by rw [h]; rfl
  one := fun ⟨_, h, _⟩ v hv => by rw [h] at hv; simp [Sl.v] at hv; subst hv; rfl
  mono := fun ⟨t, h, hr⟩ hs => ⟨t, h, hr.mono hs⟩
  keep := fun ⟨t, h, hr⟩ hk => ⟨t, h, hr.keep hk⟩
theorem enters_all1 : Enters Tryz.prog 197 := enters_of Tryz.func197 (by kernel_rfl) rfl
def cWC (a b : WantC) : Int := cmpS a.name b.name
theorem cWC_ord : Ord3 cWC := cmpS_ord WantC.name
theorem all1_ok (g : Nat) (w : World) : StW.CmpOk (.func (.func 197) #[] #[]) cWC g w := by
  intro x y w1 k _ hk
  refine ⟨_, _, rfl, enters_all1, SE.wants_all_1.go ?_⟩
  unfold SE.wants_all_1
  exact newS.intro fun a w2 x2 ha _ _ => newS.intro fun a1 w3 x3 ha1 _ _ => ⟨x.name, BoxAt.at0 ha x3 rfl, y.name, BoxAt.at0 ha1 (Ext.refl _) rfl, strCmp_k ⟨_, rfl, hk _ (x2.trans x3)⟩⟩
end Go.Hal
namespace Go.Hal
open Go Go.RowKit Go.Proofs Go.Shelf
set_option maxHeartbeats 2000000 in
theorem allEnd {w w1 : World} {out : Sl} {M : List Want} {R : Sl → World → Prop} (hI : AllI w1 w.heap.size out M) (hx : Ext w w1) (hb : M.length * 48 ≤ room)
    (hR : ∀ t w', Ext w w' → SepW w' (fun b => w.heap.size ≤ b ∧ b < w'.heap.size) t (stSort cW M) → R t w') :
    callS Tryz.prog 196 [Sl.v out, Value.func (.func 197) #[] #[]] w1 fun v39 vw38 => v39 = (Value.tuple #[]) ∧ callS Tryz.prog 198 [Sl.v out] vw38 fun v42 vw41 => ∃ (t56 : Sl), v42 = (Sl.v t56) ∧ R t56 vw41 := by
  obtain ⟨vis, Q, own, rfl, hQ, hdj, hvQ⟩ := hI
  rw [List.length_map] at hb
  have hol := own.len
  have hsmall : vis.length ≤ 9000000000000 := by unfold room at hb; omega
  have hf : ∀ (x : Want × (Nat → Prop)) cs, wantT.rep w1 Q x cs → ∃ y : WantC, cs = StW.cells y ∧ (y.name = x.1.name ∧ y.kind = x.1.kind ∧ wantT.rep w1 Q x (StW.cells y)) := fun x cs h => by
    obtain ⟨⟨hN, s, rfl, a⟩, hTQ⟩ := h
    exact ⟨⟨x.1.name, x.1.kind, s⟩, rfl, rfl, rfl, ⟨hN, s, rfl, a⟩, hTQ⟩
  rcases OwnS.rowG StW.cells (fun (y : WantC) (x : Want × (Nat → Prop)) => y.name = x.1.name ∧ y.kind = x.1.kind ∧ wantT.rep w1 Q x (StW.cells y)) hf own with ⟨ho, hv⟩ | ⟨g, zz, tail, ha, hgl, hzz, hrel, hrow, hcap, hmax⟩
  · subst ho hv
    refine SE.slices_SortStableFunc_apiWantapiWant.go (StW.sortStable_nil rfl ⟨rfl, SE.slices_Clip_apiWantapiWant.go ⟨⟨by decide, by decide, by decide, by decide⟩, _, rfl, hR _ _ hx ?_⟩⟩)
    exact ⟨rfl, rfl, .inl rfl⟩
  · have hzl : zz.length = vis.length := by rw [← hzz, List.length_map]
    have hlen : out.len = (zz.map Prod.fst).length := by rw [List.length_map, hzl]; exact hol
    refine SE.slices_SortStableFunc_apiWantapiWant.go (StW.sortStable_se cWC_ord ha (by rw [hol]; omega) (all1_ok g w1) hlen hrow fun w2 b2 hr2 => ⟨rfl, ?_⟩)
    have hfst : (stSort (fun p q : WantC × (Want × (Nat → Prop)) => cWC p.1 q.1) zz).map Prod.fst = stSort cWC (zz.map Prod.fst) := stSort_map (c := cWC) Prod.fst fun _ _ _ _ => rfl
    have hsnd : (stSort (fun p q : WantC × (Want × (Nat → Prop)) => cWC p.1 q.1) zz).map (fun q : WantC × (Want × (Nat → Prop)) => q.2.1) = stSort cW (zz.map fun q => q.2.1) := stSort_map (c := cW) (fun q : WantC × (Want × (Nat → Prop)) => q.2.1) fun x hx y hy => by
      unfold cW cWC
      rw [(hrel x hx).1, (hrel y hy).1]
    have hM : (zz.map fun q => q.2.1) = vis.map Prod.fst := by rw [← hzz, List.map_map]; rfl
    rw [hM] at hsnd
    rw [← hfst] at hr2
    have hperm := stSort_perm (c := fun p q : WantC × (Want × (Nat → Prop)) => cWC p.1 q.1) zz
    generalize stSort (fun p q : WantC × (Want × (Nat → Prop)) => cWC p.1 q.1) zz = zs at *
    have hzsl : zs.length = zz.length := hperm.length_eq
    have hQg : ¬ Q g := own.apart _ ha
    have x2 : Ext w w2 := hx.trans' (b2.below hx.size hgl)
    have hlt2 : g < w2.heap.size := hr2.lt
    have s2 := b2.1
    refine SE.slices_Clip_apiWantapiWant.go ⟨⟨by omega, by omega, by omega, by omega⟩, _, rfl, hR _ _ x2 ?_⟩
    have hdz : zs.Pairwise fun p q => ∀ b, p.2.2 b → ¬ q.2.2 b := by
      have h1 : (zz.map Prod.snd).Pairwise DisjW := by rw [hzz]; exact hdj
      rw [List.pairwise_map] at h1
      exact (hperm.pairwise_iff fun {x y} h b hb hc => h b hc hb).2 h1
    refine ⟨?_, ?_, .inr ⟨g, tail, zs, ?_, ⟨hgl, hlt2⟩, hr2, hsnd, fun q hq => ?_, hdz⟩⟩
    · show (out.len : Int).toNat - 0 = _
      rw [stSort_len, List.length_map, hol]; simp
    · show (out.len : Int).toNat - 0 = _
      rw [stSort_len, List.length_map, hol]; simp
    · show (if _ then _ else _) = _
      split
      · exact ha
      · rw [ha, Nat.zero_mul]; rfl
    · obtain ⟨k1, k2, k3, k4⟩ := hrel q (hperm.mem_iff.1 hq)
      refine ⟨k1, k2, wantP.keep k3 (b2.keep fun h => hQg (k4 g h)), fun b hb => ⟨⟨hQ b (k4 b hb), ?_⟩, fun e => hQg (e ▸ k4 b hb)⟩⟩
      have := own.lt b (k4 b hb); omega
set_option maxHeartbeats 2000000 in
theorem wantsAll_se {mD mDev mOpt mOv must may : Sl} {ms : List (List Dep)} {ml over : List Dep} {S : Nat → Prop} {w : World} {R : Sl → World → Prop} (hS : Old S w) (hV : SlR depE w S mOv over) (hM : SlR depsE w S must ms) (hY : SlR depE w S may ml) (hb : (ms.flatten.length + ml.length) * 48 ≤ room)
    (hR : ∀ t w', Ext w w' → SepW w' (fun b => w.heap.size ≤ b ∧ b < w'.heap.size) t (wantsOf over ms.flatten ml) → R t w') : SE.wants_all mD mDev mOpt mOv must may w R := by
  unfold SE.wants_all
  have hMl := hM.len
  have hYl := hY.len
  refine newS.intro fun a w1 x1 ha _ _ => ?_
  have s1 := x1.size
  refine loop2.up hM.max (fun out i w' => Ext w1 w' ∧ AllI w' w1.heap.size out ((ms.take i).flatten.map (wantOf 1 over))) ⟨Ext.refl _, AllI.zero _⟩ fun out i w2 nxt hi ⟨x2, hI2⟩ hn => ⟨fun hlt => ?_, fun hge => ?_⟩
  · have hlt' : i < ms.length := by omega
    obtain ⟨ad, cs, hma, _, ⟨t, rfl, ht⟩, hc⟩ := hM.el hlt'
    have htl := ht.len
    have hsum : (ms.take (i + 1)).flatten = (ms.take i).flatten ++ ms[i] := by rw [List.take_succ_eq_append_getElem hlt', List.flatten_append, List.flatten_cons, List.flatten_nil, List.append_nil]
    have hsub : (ms.take i).flatten.length + ms[i].length ≤ ms.flatten.length := by
      rw [← List.length_append, ← hsum]
      have : ms.flatten = (ms.take (i + 1)).flatten ++ (ms.drop (i + 1)).flatten := by rw [← List.flatten_append, List.take_append_drop]
      rw [this, List.length_append]; omega
    refine ⟨ad, ⟨hma, by omega, hlt⟩, t, (hc _ (x1.trans x2)).pre (r := []) rfl, ?_⟩
    refine loop2.up ht.max (fun out k w' => Ext w1 w' ∧ AllI w' w1.heap.size out (((ms.take i).flatten ++ ms[i].take k).map (wantOf 1 over))) ⟨x2, by rw [List.take_zero, List.append_nil]; exact hI2⟩ fun out2 k w3 nxt2 hk ⟨x3, hI3⟩ hn2 => ⟨fun hklt => ?_, fun hkge => ?_⟩
    · have hk' : k < ms[i].length := by omega
      have x03 := x1.trans x3
      obtain ⟨ad5, u, hta, _, hN, hr, hcd⟩ := depEl ht hk'
      refine ⟨ad5, ⟨hta, by omega, hklt⟩, _, u, hcd _ x03, newS.intro fun a8 w4 x4 hb4 ha4 _ => stw0.intro hb4 (by simp) fun w5 b5 _ hb5 => bnd.drew fun w6 x6 => ?_⟩
      have x35 : Ext w3 w5 := b5.ext x4 (by omega)
      have x36 := x35.trans x6
      have x06 := x03.trans x36
      refine ⟨_, hb5.at0 x6 rfl, mD, mDev, mOpt, mOv, ha.at0 (r := []) (x3.trans x36) rfl, _, u, hb5.at0 (r := []) x6 rfl, callX.intro (SE.wants_Range.go (wantsRange_se (hS.ext x06.size) (hV.ext x06) (hr.ext x06) fun r7 w7 x7 hu => ⟨x7, _, rfl, newS.intro fun a16 w8 x8 hb8 _ _ => ?_⟩))⟩
      have x68 := x7.trans x8
      have s36 := x36.size; have s8 := x8.size; have s3 := x3.size
      refine (hI3.ext x36).push (x := wantOf 1 over ms[i][k]) x68 (by omega) hN ((hu.ext x8).mono fun b hb => ⟨hb.1, by omega⟩) hb8 ?_ fun r9 w9 bel hI9 => hn2 hk' _ _ ⟨(x3.trans (x36.trans x68)).trans' bel, ?_⟩
      · rw [List.length_map, List.length_append, List.length_take]
        have : ((ms.take i).flatten.length + min k ms[i].length + 1) * 48 ≤ (ms.flatten.length + ml.length) * 48 := Nat.mul_le_mul_right _ (by omega)
        omega
      · rw [List.take_succ_eq_append_getElem hk', ← List.append_assoc, List.map_append]
        exact hI9
    · have : k = ms[i].length := by omega
      rw [this, List.take_length, ← hsum] at hI3
      exact hn hlt' _ _ ⟨x3, hI3⟩
  · have : i = ms.length := by omega
    rw [this, List.take_length] at hI2
    refine loop2.up hY.max (fun out k w' => Ext w1 w' ∧ AllI w' w1.heap.size out (ms.flatten.map (wantOf 1 over) ++ (ml.take k).map (wantOf 2 over))) ⟨x2, by rw [List.take_zero, List.map_nil, List.append_nil]; exact hI2⟩ fun out2 k w3 nxt2 hk ⟨x3, hI3⟩ hn2 => ⟨fun hklt => ?_, fun hkge => ?_⟩
    · have hk' : k < ml.length := by omega
      have x03 := x1.trans x3
      obtain ⟨ad5, u, hta, _, hN, hr, hcd⟩ := depEl hY hk'
      refine ⟨ad5, ⟨hta, by omega, hklt⟩, _, u, hcd _ x03, newS.intro fun a8 w4 x4 hb4 ha4 _ => stw0.intro hb4 (by simp) fun w5 b5 _ hb5 => bnd.drew fun w6 x6 => ?_⟩
      have x35 : Ext w3 w5 := b5.ext x4 (by omega)
      have x36 := x35.trans x6
      have x06 := x03.trans x36
      refine ⟨_, hb5.at0 x6 rfl, mD, mDev, mOpt, mOv, ha.at0 (r := []) (x3.trans x36) rfl, _, u, hb5.at0 (r := []) x6 rfl, callX.intro (SE.wants_Range.go (wantsRange_se (hS.ext x06.size) (hV.ext x06) (hr.ext x06) fun r7 w7 x7 hu => ⟨x7, _, rfl, newS.intro fun a16 w8 x8 hb8 _ _ => ?_⟩))⟩
      have x68 := x7.trans x8
      have s36 := x36.size; have s8 := x8.size; have s3 := x3.size
      refine (hI3.ext x36).push (x := wantOf 2 over ml[k]) x68 (by omega) hN ((hu.ext x8).mono fun b hb => ⟨hb.1, by omega⟩) hb8 ?_ fun r9 w9 bel hI9 => hn2 hk' _ _ ⟨(x3.trans (x36.trans x68)).trans' bel, ?_⟩
      · rw [List.length_append, List.length_map, List.length_map, List.length_take]
        have : (ms.flatten.length + min k ml.length + 1) * 48 ≤ (ms.flatten.length + ml.length) * 48 := Nat.mul_le_mul_right _ (by omega)
        omega
      · rw [List.take_succ_eq_append_getElem hk', List.map_append, ← List.append_assoc]
        exact hI9
    · have : k = ml.length := by omega
      rw [this, List.take_length] at hI3
      refine allEnd hI3 x3 (by rw [List.length_append, List.length_map, List.length_map]; exact hb) fun t w' hx hs => hR _ _ (x1.trans hx) ?_
      obtain ⟨k1, k0, k2⟩ := hs
      refine ⟨k1, k0, k2.imp id fun ⟨g, tail, z, e1, e2, e3, e4, e5, e6⟩ => ⟨g, tail, z, e1, ⟨by omega, e2.2⟩, e3, e4, fun q hq => ?_, e6⟩⟩
      obtain ⟨f1, f2, f3, f4⟩ := e5 q hq
      exact ⟨f1, f2, f3, fun b hb => ⟨⟨by have := (f4 b hb).1.1; omega, (f4 b hb).1.2⟩, (f4 b hb).2⟩⟩
end Go.Hal
namespace Go.Hal
open Go Go.RowKit Go.Proofs Go.Shelf
theorem newS.ownS {α : Type} {E : Enc α} {w : World} {cs : List Value} {t : TypeId} {x : α} {S : Nat → Prop} {k : Addr → World → Prop} (hS : Old S w) (hx : E.rep w S x cs) (h : ∀ a w', Ext w w' → OwnS E t w' w.heap.size S ⟨some a, 1, 1⟩ [x] → a.block = w.heap.size → k a w') : newS w cs t k := fun a w' ha hw => by
  subst ha hw
  have hl := E.len hx
  refine h _ _ (Ext.alloc _ _) ⟨⟨[cs], ⟨by simp [hl], .inr ⟨w.heap.size, 1, cs.toArray, rfl, Nat.le_refl _, heap_alloc_new w _, Nat.le_refl _, by rw [maxLen_eq]; omega, by simp [hl], ?_⟩⟩, rfl, fun i y hy => ?_⟩, rfl, fun b hb => by have := hS b hb; simp; omega, fun ad ha hb => ?_⟩ rfl
  · simp [hl, List.take_of_length_le (Nat.le_of_eq hl)]
  · cases i with
    | zero =>
      simp only [List.getElem?_cons_zero, Option.some.injEq] at hy
      subst hy
      exact ⟨cs, rfl, E.keep hx ((Ext.alloc w _).keep _)⟩
    | succ i => simp at hy
  · simp only [Option.some.injEq] at ha
    subst ha
    have := hS _ hb
    simp at this
theorem apDeps : ApT Tryz.prog 176 23 1 24 := apT_mk (z := .slice none 0 0) (by kernel_rfl) (by kernel_rfl) rfl (by decide)
theorem wantsOf_se {p : Pack} {pD pP pO mD mDev mOpt mOv : Sl} {over : List Dep} {S : Nat → Prop} {w : World} {R : Sl → World → Prop} (hS : Old S w) (hD : SlR depE w S pD p.deps) (hO : SlR depE w S pO p.opt) (hV : SlR depE w S mOv over) (hb : (p.deps.length + p.opt.length) * 48 ≤ room)
    (hR : ∀ t w', Ext w w' → SepW w' (fun b => w.heap.size ≤ b ∧ b < w'.heap.size) t (wantsOf over p.deps p.opt) → R t w') : SE.wants_Of p.name p.v.ma p.v.mi p.v.pa pD pP pO mD mDev mOpt mOv w R := by
  unfold SE.wants_Of
  refine newS.intro fun a w1 x1 ha _ _ => newS.intro fun a1 w2 x2 ha1 _ _ => ?_
  have x02 := x1.trans x2
  refine ⟨mD, mDev, mOpt, mOv, BoxAt.at0 ha1 (Ext.refl _) rfl, pD, BoxAt.at1 ha x2 rfl, newS.intro fun a4 w3 x3 hb4 hab _ => ⟨pO, BoxAt.at1 ha (x2.trans x3) rfl, ?_⟩⟩
  have x03 := x02.trans x3
  have s3 := x03.size
  have hone : SlR depsE w3 (fun b => S b ∨ b = a4.block) ⟨some a4, 1, 1⟩ [p.deps] := box_one (E := depsE) hb4 ⟨pD, rfl, hD.ext x03⟩ (by decide)
  have hlt := hb4.lt
  refine SE.wants_all.go (wantsAll_se (S := fun b => S b ∨ b = a4.block) (ms := [p.deps]) (over := over) (ml := p.opt) (fun b hb => ?_) ((hV.ext x03).mono fun _ h => .inl h) hone ((hO.ext x03).mono fun _ h => .inl h) (by simpa using hb) fun t w4 x4 h4 => ⟨_, rfl, hR _ _ (x03.trans x4) ?_⟩)
  · rcases hb with hb | rfl
    · have := hS b hb; omega
    · exact hlt
  · rw [List.flatten_cons, List.flatten_nil, List.append_nil] at h4
    obtain ⟨k1, k0, k2⟩ := h4
    refine ⟨k1, k0, k2.imp id fun ⟨g, tail, z, e1, e2, e3, e4, e5, e6⟩ => ⟨g, tail, z, e1, ⟨by omega, e2.2⟩, e3, e4, fun q hq => ?_, e6⟩⟩
    obtain ⟨f1, f2, f3, f4⟩ := e5 q hq
    exact ⟨f1, f2, f3, fun b hb => ⟨⟨by have := (f4 b hb).1.1; omega, (f4 b hb).1.2⟩, (f4 b hb).2⟩⟩
theorem wantsOfRoot_se {m : Mani} {mD mDev mOpt mOv : Sl} {dev : Bool} {S : Nat → Prop} {w : World} {R : Sl → World → Prop} (hS : Old S w) (hD : SlR depE w S mD m.deps) (hE : SlR depE w S mDev m.dev) (hO : SlR depE w S mOpt m.opt) (hV : SlR depE w S mOv m.over) (hb : (m.deps.length + m.dev.length + m.opt.length) * 48 ≤ room)
    (hR : ∀ t w', Ext w w' → SepW w' (fun b => w.heap.size ≤ b ∧ b < w'.heap.size) t (wantsOf m.over (rootMust m dev) m.opt) → R t w') : SE.wants_OfRoot mD mDev mOpt mOv dev w R := by
  unfold SE.wants_OfRoot
  refine newS.intro fun a w1 x1 ha _ _ => ⟨mD, BoxAt.at0 ha (Ext.refl _) rfl, ?_⟩
  refine newS.ownS (E := depsE) (x := m.deps) (S := S) (hS.ext x1.size) ⟨mD, rfl, hD.ext x1⟩ fun a1 w2 x2 own hab => ?_
  have x02 := x1.trans x2
  have s1 := x1.size; have s2 := x2.size
  have eb : depsE.bytes = 24 := rfl
  refine join.named fun J hJ => ?_
  have key : ∀ must w3 (ms : List (List Dep)), Ext w1 w3 → SlR depsE w3 (fun b => S b ∨ (w.heap.size ≤ b ∧ b < w3.heap.size)) must ms → ms.flatten = rootMust m dev → J must w3 := by
    subst hJ
    intro must w3 ms x3 hms hfl
    have x03 := x1.trans x3
    have s3 := x03.size
    have hlen : (rootMust m dev).length ≤ m.deps.length + m.dev.length := by
      unfold rootMust
      split
      · rw [List.length_append]; exact Nat.le_refl _
      · omega
    refine ⟨mD, mDev, mOpt, mOv, BoxAt.at0 ha x3 rfl, mOpt, BoxAt.at1 ha x3 rfl, SE.wants_all.go (wantsAll_se (S := fun b => S b ∨ (w.heap.size ≤ b ∧ b < w3.heap.size)) (over := m.over) (ml := m.opt) (fun b hb => ?_) ((hV.ext x03).mono fun _ h => .inl h) hms ((hO.ext x03).mono fun _ h => .inl h) (by rw [hfl]; have : ((rootMust m dev).length + m.opt.length) * 48 ≤ (m.deps.length + m.dev.length + m.opt.length) * 48 := Nat.mul_le_mul_right _ (by omega); omega) fun t w4 x4 h4 => ⟨_, rfl, hR _ _ (x03.trans x4) ?_⟩)⟩
    · rcases hb with hb | hb
      · have := hS b hb; omega
      · exact hb.2
    · rw [hfl] at h4
      obtain ⟨k1, k0, k2⟩ := h4
      refine ⟨k1, k0, k2.imp id fun ⟨g, tail, z, e1, e2, e3, e4, e5, e6⟩ => ⟨g, tail, z, e1, ⟨by omega, e2.2⟩, e3, e4, fun q hq => ?_, e6⟩⟩
      obtain ⟨f1, f2, f3, f4⟩ := e5 q hq
      exact ⟨f1, f2, f3, fun b hb => ⟨⟨by have := (f4 b hb).1.1; omega, (f4 b hb).1.2⟩, (f4 b hb).2⟩⟩
  refine ⟨fun h => ?_, fun h => ?_⟩
  · subst h
    refine ⟨mDev, BoxAt.at1 ha x2 rfl, newS.intro fun a8 w3 x3 hb8 hab8 _ => ?_⟩
    refine (own.ext x3).push apDeps (x2.trans x3).size (x := m.dev) (S' := S) ⟨mDev, rfl, hE.ext (x02.trans x3)⟩ (hb8.ldc.pre (r := []) rfl) (hS.ext (x02.trans x3).size) (fun ad ha hb => (own.apart ad ha hb)) (by rw [eb]; unfold room; simp) (by rw [maxLen_eq]; simp) fun r w4 own4 bel _ _ => ?_
    have x14 : Ext w1 w4 := (x2.trans x3).trans' bel
    refine key _ _ [m.deps, m.dev] x14 ((own4.read (by rw [eb]; unfold room; simp) (by rw [maxLen_eq]; simp)).mono fun b hb => ?_) (by simp [rootMust])
    rcases hb with (hb | hb) | ⟨ad, ha', rfl⟩
    · exact .inl hb
    · exact .inl hb
    · have := own4.block ha'; exact .inr ⟨by omega, this.2.1⟩
  · subst h
    refine key _ _ [m.deps] x2 ((own.read (by rw [eb]; unfold room; simp) (by rw [maxLen_eq]; simp)).mono fun b hb => ?_) (by simp [rootMust])
    rcases hb with hb | ⟨ad, ha', rfl⟩
    · exact .inl hb
    · have := own.block ha'; exact .inr ⟨by omega, this.2.1⟩
end Go.Hal
namespace Go.Hal
open Go Go.RowKit Go.Proofs Go.Shelf
theorem SepW.read {w : World} {S : Nat → Prop} {s : Sl} {L : List Want} (h : SepW w S s L) (hb : L.length * 48 ≤ room) : SlR wantE w S s L := by
  obtain ⟨h1, h0, h2⟩ := h
  have hm : L.length ≤ maxLen := by rw [maxLen_eq]; unfold room at hb; omega
  refine ⟨h1, by rw [h0]; exact Nat.le_refl _, by rw [h0]; exact hm, hb, ?_⟩
  rcases h2 with rfl | ⟨g, tail, z, e1, e2, e3, e4, e5, e6⟩
  · exact .inl rfl
  · refine .inr ⟨_, e1, e2, fun i x hx => ?_⟩
    rw [← e4, List.getElem?_map] at hx
    cases hz : z[i]? with
    | none => rw [hz] at hx; cases hx
    | some q =>
      rw [hz] at hx
      simp only [Option.map_some, Option.some.injEq] at hx
      subst hx
      obtain ⟨f1, f2, ⟨f3, u, f5, f6⟩, f4⟩ := e5 q (List.mem_of_getElem? hz)
      refine ⟨StW.cells q.1, ⟨f3, u, f5, f6.1.mono fun b hb => (f4 b hb).1⟩, e3.ld' (f := StW.cells) (k := 3) (fun _ => rfl) (by rw [List.getElem?_map, hz]; rfl)⟩
end Go.Hal
namespace Go.Hal
structure Edge where
  name : ByteArray
  to : Int
  deriving DecidableEq
structure Node where
  name : ByteArray
  v : Ver
  ctx : List Pin
  edges : List Edge
  deriving DecidableEq
abbrev NKey := ByteArray × Ver × List Pin
def Node.key (n : Node) : NKey := (n.name, n.v, n.ctx)
structure Quest where
  L : List Pack
  m : Mani
  dev : Bool
  pins : List Pin
  D : Nat
  N : Nat
def rootNode : Node := ⟨⟨#[]⟩, ⟨0, 0, 0⟩, [], []⟩
def wantsK (q : Quest) (k : Nat) (n : Option NKey) : List Want :=
  if k = 0 then wantsOf q.m.over (rootMust q.m q.dev) q.m.opt else
    match n with
    | none => []
    | some n => match getL q.L n.1 n.2.1 with
      | none => []
      | some p => wantsOf q.m.over p.deps p.opt
def keyAt (ns : List Node) (k : Nat) : Option NKey := (ns.map Node.key)[k]?
def ctxAt (ns : List Node) (k : Nat) : List Pin := match keyAt ns k with
  | some x => x.2.2
  | none => []
def Quest.wants (q : Quest) (ns : List Node) (k : Nat) : List Want := wantsK q k (keyAt ns k)
def Quest.cand (q : Quest) (c : List Pin) (w : Want) : List Ver × Bool := match tells c w.name with
  | some v => (if spansIn w.range v then [v] else [], false)
  | none => (cands q.L w.name w.range q.pins, decide (w.kind = 2))
def opts (x : List Ver × Bool) : List (Option Ver) := x.1.map some ++ (if x.2 then [none] else [])
def addO (e : List Pin) (n : ByteArray) (o : Option Ver) : List Pin := match o with
  | none => e
  | some v => if e.any (isN n) then e else e ++ [⟨n, v⟩]
def targets (q : Quest) (env : List Pin) : List Pin → Option (List Node)
  | [] => some []
  | p :: r => match ctxRes q.L q.m.over env p with
    | none => none
    | some c => (targets q env r).map fun xs => ⟨p.name, p.v, c, []⟩ :: xs
def putK (N : Nat) : List NKey → List Node → Option (List Node × List Edge)
  | _, [] => some ([], [])
  | ks, x :: xs => match ks.findIdx? fun y => decide (y = x.key) with
    | some i => (putK N ks xs).map fun r => (r.1, ⟨x.name, (i : Int)⟩ :: r.2)
    | none => if ks.length = N then none else (putK N (ks ++ [x.key]) xs).map fun r => (x :: r.1, ⟨x.name, (ks.length : Int)⟩ :: r.2)
def setEdges (ns : List Node) (k : Nat) (es : List Edge) : List Node := ns.modify k fun n => { n with edges := es }
inductive Bnd where
  | graph
  | many
  | ok (ns : List Node)
def Quest.bind (q : Quest) (ns : List Node) (k : Nat) (e : List Pin) : Bnd := match targets q (sortN e) (sortN e) with
  | none => .graph
  | some xs => match putK q.N (ns.map Node.key) xs with
    | none => .many
    | some r => .ok (setEdges ns k r.2 ++ r.1)
inductive Out where
  | fail (t : Nat)
  | done (ns : List Node) (t : Nat)
  | err (e : Int)
  | out
def tryAll (D : Nat) (k : Option Ver → Nat → Out) : List (Option Ver) → Nat → Out
  | [], t => .fail t
  | o :: os, t => if t = D then .err 31 else match k o (t + 1) with
    | .fail t' => tryAll D k os t'
    | r => r
def Quest.go (q : Quest) : Nat → List Node → Nat → List Want → List Pin → Nat → Out
  | 0, _, _, _, _, _ => .out
  | f + 1, ns, k, [], e, t => match q.bind ns k e with
    | .graph => .fail t
    | .many => .err 32
    | .ok ns' => if k + 1 = ns'.length then .done ns' t else q.go f ns' (k + 1) (q.wants ns' (k + 1)) (ctxAt ns' (k + 1)) t
  | f + 1, ns, k, w :: l, e, t => tryAll q.D (fun o t => q.go f ns k l (addO e w.name o) t) (opts (q.cand (ctxAt ns k) w)) t
structure Ch where
  node : Nat
  name : ByteArray
  vs : List Ver
  none : Bool
  i : Nat
def Ch.many (c : Ch) : Nat := if c.none then c.vs.length + 1 else c.vs.length
structure St where
  stack : List Ch
  ns : List Node
  ahead : List Nat
  ws : List Want
  first : Nat
  dec : Nat
inductive Lb where
  | next
  | tri
  | back
inductive Stp where
  | go (l : Lb) (s : St)
  | done (ns : List Node) (t : Nat)
  | err (e : Int)
def Quest.ch (q : Quest) (k : Nat) (c : List Pin) (w : Want) : Ch := ⟨k, w.name, (q.cand c w).1, (q.cand c w).2, 0⟩
def addC (e : List Pin) (c : Ch) : List Pin := addO e c.name c.vs[c.i]?
def St.env (s : St) : List Pin := (s.stack.drop s.first).foldl addC (ctxAt s.ns s.ahead.length)
def bump (l : List Ch) : List Ch := l.modify (l.length - 1) fun c => { c with i := c.i + 1 }
def Quest.step (q : Quest) : Lb → St → Stp
  | .next, s => match s.ws[s.stack.length - s.first]? with
    | some w => .go .tri { s with stack := s.stack ++ [q.ch s.ahead.length (ctxAt s.ns s.ahead.length) w] }
    | none => match q.bind s.ns s.ahead.length s.env with
      | .graph => .go .back s
      | .many => .err 32
      | .ok ns' => if s.ahead.length + 1 = ns'.length then .done ns' s.dec else
          .go .next { s with ns := ns', ahead := s.ahead ++ [s.ns.length], ws := q.wants ns' (s.ahead.length + 1), first := s.stack.length }
  | .tri, s => match s.stack.getLast? with
    | none => .err (-1)
    | some c => if c.i < c.many then (if s.dec = q.D then .err 31 else .go .next { s with dec := s.dec + 1 }) else .go .back { s with stack := s.stack.dropLast }
  | .back, s => match s.stack.getLast? with
    | none => .err 30
    | some c => .go .tri { s with
        stack := bump s.stack
        ns := (match s.ahead[c.node]? with | some a => s.ns.take a | none => s.ns)
        ahead := s.ahead.take c.node
        ws := q.wants (match s.ahead[c.node]? with | some a => s.ns.take a | none => s.ns) c.node
        first := (bump s.stack).findIdx fun x => decide (x.node = c.node) }
inductive Quest.To (q : Quest) : Lb → St → Lb → St → Prop
  | refl (l : Lb) (s : St) : Quest.To q l s l s
  | step {l l1 l2 : Lb} {s s1 s2 : St} (h : q.step l s = .go l1 s1) (k : Quest.To q l1 s1 l2 s2) : Quest.To q l s l2 s2
inductive Quest.End (q : Quest) : Lb → St → Stp → Prop
  | done {l : Lb} {s : St} {ns : List Node} {t : Nat} (h : q.step l s = .done ns t) : Quest.End q l s (.done ns t)
  | err {l : Lb} {s : St} {e : Int} (h : q.step l s = .err e) : Quest.End q l s (.err e)
  | step {l l1 : Lb} {s s1 : St} {r : Stp} (h : q.step l s = .go l1 s1) (k : Quest.End q l1 s1 r) : Quest.End q l s r
def Alk (k : Nat) (a b : List Node) : Prop := a.map Node.key = b.map Node.key ∧ ∀ i, i < k → a[i]? = b[i]?
theorem Alk.symm {k : Nat} {a b : List Node} (h : Alk k a b) : Alk k b a := ⟨h.1.symm, fun i hi => (h.2 i hi).symm⟩
theorem Alk.take {k : Nat} {a b : List Node} (h : Alk k a b) (n : Nat) : Alk k (a.take n) (b.take n) := ⟨by rw [List.map_take, List.map_take, h.1], fun i hi => by
  rw [List.getElem?_take, List.getElem?_take, h.2 i hi]⟩
end Go.Hal
namespace Go.Hal
structure Rs (k : Nat) (s s' : St) : Prop where
  ahead : s'.ahead.take k = s.ahead
  nsl : s.ns.length ≤ s'.ns.length
  ns : Alk k (s'.ns.take s.ns.length) s.ns
  at_ : ∀ a, s'.ahead[k]? = some a → a = s.ns.length
  eq : s'.ahead[k]? = none → s'.ns.length = s.ns.length
structure Cor (q : Quest) (s : St) (ns : List Node) (k : Nat) (σ cs : List Ch) (l : List Want) (e : List Pin) (t : Nat) : Prop where
  hk : s.ahead.length = k
  lt : k < s.ns.length
  alk : Alk k s.ns ns
  ws : s.ws = q.wants ns k
  stack : s.stack = σ ++ cs
  first : s.first = σ.length
  left : l = (q.wants ns k).drop cs.length
  node : ∀ c ∈ cs, c.node = k
  low : ∀ c ∈ σ, c.node < k
  env : e = cs.foldl addC (ctxAt ns k)
  dec : s.dec = t
def Holds (q : Quest) (k : Nat) (lb : Lb) (s : St) (st : List Ch) : Out → Prop
  | .out => True
  | .fail t' => ∃ s', q.To lb s .back s' ∧ s'.stack = st ∧ Rs k s s' ∧ s'.dec = t'
  | .done ns' t' => q.End lb s (.done ns' t')
  | .err e => q.End lb s (.err e)
section
variable {q : Quest}
def Quest.start (q : Quest) : St := ⟨[], [rootNode], [], q.wants [rootNode] 0, 0, 0⟩
def Quest.fuel (q : Quest) : Nat := q.D + q.N + 2
def Quest.run (q : Quest) : Out := q.go q.fuel [rootNode] 0 (q.wants [rootNode] 0) [] 0
end
end Go.Hal
namespace Go.Hal
def Fine (q : Quest) (t : Nat) : Out → Prop
  | .out => False
  | .fail t' => t ≤ t' ∧ t' ≤ q.D
  | .done ns' t' => t ≤ t' ∧ t' ≤ q.D ∧ ns'.length ≤ q.N
  | .err e => e = 31 ∨ e = 32
def Quest.res (q : Quest) : Stp := match q.run with
  | .out => .err 0
  | .fail _ => .err 30
  | .done ns t => .done ns t
  | .err e => .err e
end Go.Hal
namespace Go.Hal
open Go Go.RowKit Go.Proofs Go.Shelf
def edgeE : Enc Edge := flatE 2 24 (fun x => [.string x.name, .int .i64 x.to]) (fun x => Str x.name) (fun _ => rfl) (fun _ v hv => by simp at hv; rcases hv with rfl | rfl <;> rfl)
def nodeE : Enc Node where
  n := 6
  bytes := 88
  rep := fun w S x cs => Str x.name ∧ ∃ c e : Sl, cs = [.string x.name, .int .i64 x.v.ma, .int .i64 x.v.mi, .int .i64 x.v.pa, c.v, e.v] ∧ SlR pinE w S c x.ctx ∧ SlR edgeE w S e x.edges
  len := fun ⟨_, _, _, h, _⟩ => by rw [h]; rfl
  one := fun ⟨_, _, _, h, _⟩ v hv => by rw [h] at hv; simp [Sl.v] at hv; rcases hv with rfl | rfl | rfl | rfl | rfl | rfl <;> rfl
  mono := fun ⟨h0, c, e, h, a, b⟩ hs => ⟨h0, c, e, h, a.mono hs, b.mono hs⟩
  keep := fun ⟨h0, c, e, h, a, b⟩ hk => ⟨h0, c, e, h, a.keep hk, b.keep hk⟩
def chE : Enc Ch where
  n := 5
  bytes := 64
  rep := fun w S x cs => Str x.name ∧ ∃ v : Sl, cs = [.int .i64 x.node, .string x.name, v.v, .bool x.none, .int .i64 x.i] ∧ SlR verE w S v x.vs
  len := fun ⟨_, _, h, _⟩ => by rw [h]; rfl
  one := fun ⟨_, _, h, _⟩ v hv => by rw [h] at hv; simp [Sl.v] at hv; rcases hv with rfl | rfl | rfl | rfl | rfl <;> rfl
  mono := fun ⟨h0, c, h, a⟩ hs => ⟨h0, c, h, a.mono hs⟩
  keep := fun ⟨h0, c, h, a⟩ hk => ⟨h0, c, h, a.keep hk⟩
theorem apInt : ApT Tryz.prog 68 3 1 8 := apT_mk (z := .int .i64 0) (by kernel_rfl) (by kernel_rfl) rfl (by decide)
structure K7 where
  cp : Addr
  mD : Sl
  mDev : Sl
  mOpt : Sl
  mOv : Sl
  dev : Bool
  pS : Sl
def srCells (K : K7) (stk nds ahd ws : Sl) (first : Nat) : List Value := [.pointer (some K.cp), K.mD.v, K.mDev.v, K.mOpt.v, K.mOv.v, .bool K.dev, K.pS.v, stk.v, nds.v, ahd.v, ws.v, .int .i64 first]
structure Cs (w : World) (lo : Nat) (q : Quest) (K : K7) : Prop where
  cat : ∃ S r, CatL w S K.cp r q.L ∧ (∀ b, S b → b < lo) ∧ r < lo ∧ K.cp.block < lo
  deps : SlR depE w (· < lo) K.mD q.m.deps
  dv : SlR depE w (· < lo) K.mDev q.m.dev
  opt : SlR depE w (· < lo) K.mOpt q.m.opt
  over : SlR depE w (· < lo) K.mOv q.m.over
  pins : SlR pinE w (· < lo) K.pS q.pins
  dev : K.dev = q.dev
  le : lo ≤ w.heap.size
  small : q.m.deps.length + q.m.dev.length + q.m.opt.length ≤ 48
def Off (s : Sl) (g : Nat) : Prop := ∀ ad, s.a = some ad → ad.block ≠ g
structure Sr0 (w : World) (lo : Nat) (g : Nat) (stk nds ahd ws : Sl) (Q : Nat → Prop) (s : St) : Prop where
  stack : OwnS chE 94 w lo Q stk s.stack
  nodes : OwnS nodeE 64 w lo Q nds s.ns
  ahead : OwnS intE 3 w lo Q ahd (s.ahead.map Int.ofNat)
  wants : SlR wantE w Q ws s.ws
  q : ∀ b, Q b → lo ≤ b ∧ b ≠ g
  a1 : Apart stk nds
  a2 : Apart stk ahd
  a3 : Apart nds ahd
  o1 : Off stk g
  o2 : Off nds g
  o3 : Off ahd g
section
variable {w w' : World} {lo g : Nat} {stk nds ahd ws : Sl} {Q : Nat → Prop} {s : St}
theorem Sr0.grow (h : Sr0 w lo g stk nds ahd ws Q s) (hx : Ext w w') (hlo : lo ≤ w.heap.size) (hg : g < w.heap.size) : Sr0 w' lo g stk nds ahd ws (fun b => Q b ∨ (w.heap.size ≤ b ∧ b < w'.heap.size)) s := by
  have hs := hx.size
  have key : ∀ {α : Type} {E : Enc α} {T : TypeId} {x : Sl} {l : List α}, OwnS E T w lo Q x l → OwnS E T w' lo (fun b => Q b ∨ (w.heap.size ≤ b ∧ b < w'.heap.size)) x l := fun o => (o.ext hx).mono (fun _ h => .inl h) (fun b hb => by
      rcases hb with hb | hb
      · have := o.lt b hb; omega
      · exact hb.2) (fun ad ha hb => by
      rcases hb with hb | hb
      · exact o.apart ad ha hb
      · have := (o.block ha).2.1; omega)
  exact ⟨key h.stack, key h.nodes, key h.ahead, (h.wants.ext hx).mono fun _ h => .inl h, fun b hb => by
    rcases hb with hb | hb
    · exact h.q b hb
    · exact ⟨by omega, by omega⟩, h.a1, h.a2, h.a3, h.o1, h.o2, h.o3⟩
end
def SrAt (w : World) (lo : Nat) (sp : Addr) (K : K7) (s : St) : Prop := ∃ stk nds ahd ws Q, BoxAt w sp (srCells K stk nds ahd ws s.first) ∧ lo ≤ sp.block ∧ Sr0 w lo sp.block stk nds ahd ws Q s
theorem wantsOf_len' (over a b : List Dep) : (wantsOf over a b).length = a.length + b.length := by
  unfold wantsOf
  rw [stSort_len, List.length_append, List.length_map, List.length_map]
theorem rootMust_len' (m : Mani) (dev : Bool) : (rootMust m dev).length ≤ m.deps.length + m.dev.length := by
  unfold rootMust
  split
  · rw [List.length_append]; exact Nat.le_refl _
  · omega
end Go.Hal
namespace Go.Hal
open Go Go.RowKit Go.Proofs Go.Shelf
section
variable {w : World} {lo : Nat} {sp : Addr} {K : K7} {q : Quest} {s : St}
theorem getD_small {L : List Pack} (hG : GoodL L) (n : ByteArray) (v : Ver) : (getD L n v).deps.length ≤ 16 ∧ (getD L n v).peers.length ≤ 16 ∧ (getD L n v).opt.length ≤ 16 := by
  unfold getD
  cases h : getL L n v with
  | none => exact ⟨Nat.zero_le _, Nat.zero_le _, Nat.zero_le _⟩
  | some p =>
    obtain ⟨_, _, h1, h2, h3⟩ := may_lists (hG.may p (getL_some h).1)
    exact ⟨(depsMay_names h1).1, (depsMay_names h2).1, (depsMay_names h3).1⟩
end
end Go.Hal
namespace Go.Hal
open Go Go.RowKit Go.Proofs Go.Shelf
section
variable {w : World} {lo : Nat} {sp : Addr} {K : K7} {q : Quest} {s : St}
end
end Go.Hal
namespace Go.Hal
open Go Go.RowKit Go.Proofs Go.Shelf
section
variable {α : Type} {E : Enc α} {T : TypeId} {w : World} {lo : Nat} {Q : Nat → Prop} {s : Sl} {l : List α}
theorem flat_len' {css : List (List Value)} {n : Nat} (h : ∀ cs ∈ css, cs.length = n) : css.flatten.length = css.length * n := by
  induction css with
  | nil => simp
  | cons c r ih => rw [List.flatten_cons, List.length_append, h c (.head _), ih fun x hx => h x (.tail _ hx), List.length_cons, Nat.add_mul]; omega
theorem OwnS.rowLens (h : OwnS E T w lo Q s l) {css : List (List Value)} (hl : css.length = l.length) (hr : ∀ (i : Nat) (x : α), l[i]? = some x → ∃ cs, css[i]? = some cs ∧ E.rep w Q x cs) : ∀ cs ∈ css, cs.length = E.n := fun cs hcs => by
  obtain ⟨k, hk, rfl⟩ := List.mem_iff_getElem.1 hcs
  obtain ⟨cs', h1, h2⟩ := hr k _ (List.getElem?_eq_getElem (by omega))
  rw [List.getElem?_eq_getElem hk, Option.some.injEq] at h1
  rw [h1]; exact E.len h2
theorem OwnS.take (h : OwnS E T w lo Q s l) {n : Nat} (hn : n ≤ l.length) : OwnS E T w lo Q (Sl.cut s 0 n E.n) (l.take n) := by
  obtain ⟨css, ho, hl, hr⟩ := h.row
  have hlens := h.rowLens hl hr
  have hsl := h.len
  have ha : (Sl.cut s 0 n E.n).a = s.a := by
    unfold Sl.cut
    dsimp only
    split
    · rfl
    · rw [Nat.zero_mul]; cases s.a <;> rfl
  have hv : (Sl.cut s 0 n E.n).v = .slice s.a n s.cap := by unfold Sl.v; rw [ha]; unfold Sl.cut; simp
  refine ⟨⟨css.take n, ?_, by rw [List.length_take, List.length_take, hl], fun i x hx => ?_⟩, by show n - 0 = _; rw [List.length_take]; omega, h.lt, fun ad had => h.apart ad (ha ▸ had)⟩
  · rw [hv]
    show w.ownsRow lo T E.n _ (n - 0) _
    have hfl := flat_len' (css := css.take n) (n := E.n) fun c hc => hlens c (List.mem_of_mem_take hc)
    rw [List.length_take, hl, Nat.min_eq_left hn] at hfl
    refine ⟨by simpa using hfl, ?_⟩
    rcases ho.2 with ⟨h1, h2⟩ | ⟨g, cap, cur, h1, h2, h3, h4, h5, h6, h7⟩
    · left
      simp [Sl.v] at h1
      have : n = 0 := by omega
      rw [h1.1, h1.2.2, this]; exact ⟨rfl, rfl⟩
    · right
      simp [Sl.v] at h1
      refine ⟨g, cap, cur, by rw [h1.1, h1.2]; simp, h2, h3, by omega, h5, h6, ?_⟩
      have h8 := congrArg (List.take (n * E.n)) h7
      rw [List.take_take, Nat.min_eq_left (Nat.mul_le_mul_right _ (by omega))] at h8
      rw [Nat.sub_zero, h8]
      have e : css.flatten = (css.take n).flatten ++ (css.drop n).flatten := by rw [← List.flatten_append, List.take_append_drop]
      rw [e, List.take_left' hfl]
  · rw [List.getElem?_take] at hx
    split at hx
    · obtain ⟨cs, k1, k2⟩ := hr i x hx
      rename_i hi
      exact ⟨cs, by rw [List.getElem?_take, if_pos hi]; exact k1, k2⟩
    · cases hx
end
end Go.Hal
namespace Go.Hal
structure InvS (q : Quest) (e : Nat) (s : St) : Prop where
  a : s.ahead.length < s.ns.length
  n : s.ns.length ≤ q.N
  b : ∀ i a : Nat, s.ahead[i]? = some a → i < a ∧ a ≤ s.ns.length
  m : ∀ i j a b : Nat, i ≤ j → s.ahead[i]? = some a → s.ahead[j]? = some b → a ≤ b
  st : (s.stack.map (·.node)).Pairwise (fun a b : Nat => a ≤ b)
  top : ∀ n ∈ s.stack.map (·.node), n ≤ s.ahead.length
  f : s.first + e ≤ s.stack.length
  c : ∀ x ∈ s.ns, (x.ctx.map (·.name)).Nodup ∧ x.ctx.length ≤ 2048
  v : ∀ v ∈ s.stack.map (·.vs), v.length ≤ 1000
  d : s.dec ≤ q.D
  k : s.stack.length ≤ s.dec + e
  i0 : ∀ c ∈ s.stack.dropLast, c.i ≤ 1000
  i1 : ∀ c ∈ s.stack, c.i ≤ 1000 + e
def InvL (q : Quest) : Lb → St → Prop
  | .next, s => InvS q 0 s
  | .tri, s => InvS q 1 s
  | .back, s => InvS q 0 s
def cutNs (ns : List Node) (ahead : List Nat) (k : Nat) : List Node := match ahead[k]? with
  | some a => ns.take a
  | none => ns
def backTo (q : Quest) (s : St) (k : Nat) : St := { s with stack := bump s.stack, ns := cutNs s.ns s.ahead k, ahead := s.ahead.take k, ws := q.wants (cutNs s.ns s.ahead k) k, first := (bump s.stack).findIdx fun x => decide (x.node = k) }
end Go.Hal
namespace Go.Hal
open Go Go.RowKit Go.Proofs Go.Shelf
end Go.Hal
namespace Go.Hal
open Go Go.RowKit Go.Proofs Go.Shelf
def nP : ByteArray := ⟨#[112]⟩
def nQ : ByteArray := ⟨#[113]⟩
def v1 : Ver := ⟨1, 0, 0⟩
def allS : List Span := [⟨verAt 0, verAt 999999999⟩]
def kP : Pack := ⟨nP, v1, [], [⟨nQ, allS⟩], []⟩
def kQ : Pack := ⟨nQ, v1, [], [], []⟩
end Go.Hal
namespace Go.Hal
open Go Go.RowKit Go.Proofs Go.Shelf
def nA : ByteArray := ⟨#[97]⟩
def kA : Pack := ⟨nA, v1, [], [], []⟩
theorem FlatO.vers {w : World} {lo : Nat} {s : Sl} {l : List Ver} (h : FlatO Ver.c 24 w lo s l) : SlR verE w (fun b => lo ≤ b ∧ b < w.heap.size) s l :=
  FlatO.read (E := verE) h (fun _ => rfl) fun _ _ _ _ => ⟨rfl, trivial⟩
end Go.Hal
namespace Go.Hal
open Go Go.RowKit Go.Proofs Go.Shelf
end Go.Hal
namespace Go.Hal
open Go Go.RowKit Go.Proofs Go.Shelf
section
variable {w : World} {lo : Nat} {sp : Addr} {K : K7} {q : Quest} {s : St}
end
end Go.Hal
namespace Go.Hal
open Go Go.RowKit Go.Proofs Go.Shelf
theorem clonePin_se {s : Sl} {l : List Pin} {S : Nat → Prop} {w : World} {R : Sl → World → Prop} (hS : Old S w) (hs : SlR pinE w S s l) (hR : ∀ t w', Ext w w' → OwnS pinE 84 w' w.heap.size None' t l → R t w') : SE.slices_Clone_apiPinapiPin s w R := by
  unfold SE.slices_Clone_apiPinapiPin
  refine ⟨fun h => ?_, fun h => ?_⟩
  · have : l = [] := by
      rcases hs.2.2.2.2 with h0 | ⟨ad, h1, _⟩
      · exact h0
      · rw [h] at h1; cases h1
    subst this
    exact hR _ _ (Ext.refl _) (OwnS.nil _ _)
  · intro a w1 ha hw
    subst ha
    have x1 : Ext w w1 := hw ▸ Ext.alloc _ _
    have own : OwnS pinE 84 w1 w.heap.size None' ⟨some ⟨w.heap.size, 0, none⟩, 0, 0⟩ [] := hw ▸ OwnS.empty w
    refine own.appAll apPin x1.size (hs.ext x1) (hS.ext x1.size) (fun ad ha hb => ?_) (by simpa using hs.2.2.2.1) (by simpa using hs.max) fun r w2 own2 bel _ _ => ?_
    · simp only [Option.some.injEq] at ha
      subst ha
      have := hS _ hb
      simp at this
    · exact hR r w2 (x1.trans' bel) (OwnS.flat (fun h => h) own2)
theorem verB {a b c x y z : Int} : ((a == x) && ((b == y) && ((c == z) && true))) = decide ((⟨a, b, c⟩ : Ver) = ⟨x, y, z⟩) := by
  rw [Bool.eq_iff_iff]; simp
theorem eqPins_se {s t : Sl} {a b : List Pin} {S T : Nat → Prop} {w : World} {R : Bool → World → Prop} (hs : SlR pinE w S s a) (ht : SlR pinE w T t b) (hR : ∀ w', Ext w w' → R (decide (a = b)) w') : SE.slices_Equal_apiPinapiPin s t w R := by
  unfold SE.slices_Equal_apiPinapiPin
  have h1 := hs.len
  have h2 := ht.len
  refine ⟨fun h => ?_, fun h => ?_⟩
  · have : ¬ a = b := fun e => by subst e; omega
    have h3 := hR w (Ext.refl _)
    rw [decide_eq_false this] at h3; exact h3
  have hll : a.length = b.length := by
    have := Classical.not_not.1 h
    omega
  refine loop1.up hs.max (fun i w' => Ext w w' ∧ a.take i = b.take i) ⟨Ext.refl _, rfl⟩ fun i w1 nxt hi ⟨x1, hI⟩ hn => ⟨fun hlt => bnd.drew fun w2 x2 => ?_, fun hge => ?_⟩
  · have k1 : i < a.length := by omega
    have k2 : i < b.length := by omega
    obtain ⟨ad, ha, _, _, hc⟩ := pinEl hs k1
    obtain ⟨ad2, ha2, _, _, hc2⟩ := pinEl ht k2
    refine ⟨ad, ⟨ha, by omega, hlt⟩, _, _, _, _, hc _ (x1.trans x2), ad2, ⟨ha2, by omega, by omega⟩, _, _, _, _, hc2 _ (x1.trans x2), ?_⟩
    have e : (!((bEq a[i].name b[i].name) && (((a[i].v.ma == b[i].v.ma) && ((a[i].v.mi == b[i].v.mi) && ((a[i].v.pa == b[i].v.pa) && true))) && true))) = !decide (a[i] = b[i]) := by
      congr 1
      rw [Bool.eq_iff_iff]
      generalize a[i] = x; generalize b[i] = y
      obtain ⟨n, ⟨p, q, r⟩⟩ := x
      obtain ⟨n', ⟨p', q', r'⟩⟩ := y
      simp [bEq_iff]
    rw [e]
    refine ⟨fun h => ?_, fun h => ?_⟩
    · have hne : ¬ a = b := fun e => by subst e; simp at h
      have h3 := hR w2 (x1.trans x2)
      rw [decide_eq_false hne] at h3; exact h3
    · refine hn k1 _ ⟨x1.trans x2, ?_⟩
      have he : a[i] = b[i] := by simpa using h
      rw [List.take_succ_eq_append_getElem k1, List.take_succ_eq_append_getElem k2, hI, he]
  · have : i = a.length := by omega
    subst this
    rw [List.take_length, List.take_of_length_le (by omega)] at hI
    have h3 := hR w1 x1
    rw [decide_eq_true hI] at h3; exact h3
theorem idxNode_se {s : Sl} {l : List Node} {f : Value} {p : Node → Bool} {S : Nat → Prop} {w : World} {R : Int → World → Prop} (hs : SlR nodeE w S s l)
    (hf : ∀ x ∈ l, ∀ (c e : Sl) w' (k : Value → World → Prop), Ext w w' → SlR pinE w' S c x.ctx → (∀ w'', Ext w' w'' → k (.bool (p x)) w'') → callV Tryz.prog f [.agg #[.string x.name, .int .i64 x.v.ma, .int .i64 x.v.mi, .int .i64 x.v.pa, Sl.v c, Sl.v e]] w' k)
    (hR : ∀ w', Ext w w' → R (idxI p l) w') : SE.slices_IndexFunc_apiNodeapiNode s f w R := by
  unfold SE.slices_IndexFunc_apiNodeapiNode
  have hl := hs.len
  refine loop1.up hs.max (fun i w' => Ext w w' ∧ (l.take i).any p = false) ⟨Ext.refl _, rfl⟩ fun i w1 nxt hi ⟨x1, hI⟩ hn => ⟨fun hlt => ?_, fun hge => ?_⟩
  · have hlt' : i < l.length := by omega
    obtain ⟨ad, cs, ha, _, ⟨_, c, e, rfl, hcc, _⟩, hc⟩ := hs.el hlt'
    refine ⟨ad, ⟨ha, by omega, hlt⟩, _, _, _, _, c, e, hc _ (by (repeat (first | assumption | exact Ext.refl _ | refine Ext.trans ?_ (by assumption)))), hf _ (List.getElem_mem hlt') c e _ _ x1 (hcc.ext x1) fun w2 x2 => ⟨_, rfl, fun h => ?_, fun h => ?_⟩⟩
    · rw [← idxI_hit hlt' hI h]; exact hR _ (by (repeat (first | assumption | exact Ext.refl _ | refine Ext.trans ?_ (by assumption))))
    · exact hn hlt' _ ⟨by (repeat (first | assumption | exact Ext.refl _ | refine Ext.trans ?_ (by assumption))), by rw [take_any_succ hlt' hI]; exact h⟩
  · have : i = l.length := by omega
    rw [this, List.take_length] at hI
    rw [← idxI_none hI]; exact hR _ (by (repeat (first | assumption | exact Ext.refl _ | refine Ext.trans ?_ (by assumption))))
end Go.Hal
namespace Go.Hal
open Go Go.RowKit Go.Proofs Go.Shelf
def Oth (s : Sl) (w w' : World) : Prop := w.heap.size ≤ w'.heap.size ∧ ∀ b, b < w.heap.size → (∀ ad, s.a = some ad → b ≠ ad.block) → w'.heap[b]? = w.heap[b]?
section
variable {α : Type} {E : Enc α} {T : TypeId} {w w' : World} {lo : Nat} {Q : Nat → Prop} {s x : Sl} {l : List α}
theorem SlR.oth (h : SlR E w Q x l) (ho : Oth s w w') (hQ : ∀ ad, s.a = some ad → ¬ Q ad.block) : SlR E w' Q x l :=
  h.keep fun b hb hlt => ho.2 b hlt fun ad ha e => hQ ad ha (e ▸ hb)
end
section
variable {w : World} {lo g : Nat} {stk nds ahd ws : Sl} {Q : Nat → Prop} {s : St} {P : Program}
end
end Go.Hal
namespace Go.Hal
open Go Go.RowKit Go.Proofs Go.Shelf
section
variable {w : World} {lo : Nat} {sp : Addr} {K : K7} {q : Quest} {s : St}
end
end Go.Hal
namespace Go.Hal
def wDev : List UInt8 := [100, 101, 118]
def wPins : List UInt8 := [112, 105, 110, 115]
def pjText : List UInt8 := [112, 114, 111, 106, 101, 99, 116, 10]
def maniText (m : Mani) : List UInt8 := (((pjText ++ depLines wNeeds m.deps) ++ depLines wDev m.dev) ++ depLines wLikes m.opt) ++ depLines wPins m.over
def maniLists (m : Mani) : Bool := depsMay m.deps && depsMay m.dev && depsMay m.opt && depsMay m.over
def maniApart (m : Mani) : Bool := apart2 m.deps m.dev && apart2 m.deps m.opt && apart2 m.dev m.opt
def maniMay (m : Mani) : Bool := maniLists m && (maniApart m && decide ((maniText m).length ≤ 4096))
def sortedN : List Dep → Bool
  | [] => true
  | [_] => true
  | x :: y :: r => !decide (cmpS y.name x.name < 0) && sortedN (y :: r)
def okD (d : Dep) : Bool := nameMay d.name && spansMay d.range && !d.range.isEmpty
def wk (l : List Dep) : Bool := decide (l.length ≤ 16) && sortedN l && l.all okD
def may3 (a b c : List Dep) : Bool := depsMay a && depsMay b && depsMay c && decide ((a ++ b ++ c).map (·.name)).Nodup
theorem depsGo_wk : ∀ {l : List Dep} {p : Option ByteArray}, depsGo p l = true → sortedN l = true ∧ l.all okD = true
  | [], _, _ => ⟨rfl, rfl⟩
  | [x], p, h => by
    rw [depsGo] at h
    simp only [Bool.and_eq_true] at h
    exact ⟨rfl, by simp [okD, h.1.1.1.1, h.1.1.1.2, h.1.1.2]⟩
  | x :: y :: r, p, h => by
    rw [depsGo] at h
    simp only [Bool.and_eq_true] at h
    obtain ⟨h1, h2⟩ := depsGo_wk h.2
    rw [depsGo] at h
    simp only [Bool.and_eq_true, aheadOf] at h
    refine ⟨?_, ?_⟩
    · rw [sortedN, h1]
      have h3 : bLt x.name y.name = true := h.2.1.2
      have h4 : ¬ cmpS y.name x.name < 0 := fun hc => by rw [cmpS_lt, bLt_asymm h3] at hc; cases hc
      simp [h4]
    · rw [List.all_cons, h2]
      simp [okD, h.1.1.1.1, h.1.1.1.2, h.1.1.2]
theorem depsMay_wk {l : List Dep} (h : depsMay l = true) : wk l = true := by
  unfold depsMay at h
  simp only [Bool.and_eq_true] at h
  obtain ⟨h1, h2⟩ := depsGo_wk h.1
  unfold wk
  rw [h1, h2, h.2]; rfl
theorem wk_go : ∀ {l : List Dep} {p : Option ByteArray}, sortedN l = true → l.all okD = true → (l.map (·.name)).Nodup → (∀ x, l.head? = some x → aheadOf p x.name = true) → depsGo p l = true
  | [], _, _, _, _, _ => rfl
  | [x], p, _, h2, _, h4 => by
    rw [depsGo, depsGo, h4 x rfl]
    simp [okD] at h2
    simp [h2]
  | x :: y :: r, p, h1, h2, h3, h4 => by
    rw [sortedN] at h1
    rw [List.all_cons] at h2
    rw [Bool.and_eq_true] at h1 h2
    rw [List.map_cons, List.nodup_cons] at h3
    rw [depsGo, h4 x rfl, wk_go h1.2 h2.2 h3.2 fun z hz => ?_]
    · have := h2.1
      unfold okD at this
      rw [this]; rfl
    · simp only [List.head?_cons, Option.some.injEq] at hz
      subst hz
      show bLt x.name y.name = true
      have h5 : ¬ cmpS y.name x.name < 0 := by simpa using h1.1
      have hO := cmpS_ord (α := ByteArray) id
      have := hO.flip y.name x.name
      have := hO.flip x.name y.name
      simp only [id] at *
      refine bLt_of (by omega) fun e => h3.1 ?_
      rw [e]; simp
theorem wk_may {l : List Dep} (h : wk l = true) (hn : (l.map (·.name)).Nodup) : depsMay l = true := by
  unfold wk at h
  simp only [Bool.and_eq_true] at h
  unfold depsMay
  rw [wk_go h.1.2 h.2 hn fun _ _ => rfl, h.1.1]; rfl
theorem wk_may3 {a b c : List Dep} (ha : wk a = true) (hb : wk b = true) (hc : wk c = true) : may3 a b c = decide ((a ++ b ++ c).map (·.name)).Nodup := by
  unfold may3
  cases h : decide ((a ++ b ++ c).map (·.name)).Nodup
  · rw [Bool.and_false]
  · have hn := of_decide_eq_true h
    rw [List.map_append, List.map_append, List.nodup_append, List.nodup_append] at hn
    rw [wk_may ha hn.1.1, wk_may hb hn.1.2.1, wk_may hc hn.2.1]; rfl
theorem may3_false {a b c : List Dep} (h : wk a = false ∨ wk b = false ∨ wk c = false) : may3 a b c = false := by
  cases hm : may3 a b c
  · rfl
  · unfold may3 at hm
    simp only [Bool.and_eq_true] at hm
    rcases h with h | h | h
    · rw [depsMay_wk hm.1.1.1] at h; cases h
    · rw [depsMay_wk hm.1.1.2] at h; cases h
    · rw [depsMay_wk hm.1.2] at h; cases h
theorem may3_eq (a b c : List Dep) : may3 a b c = (depsMay a && depsMay b && depsMay c && (apart2 a b && apart2 a c && apart2 b c)) := by
  unfold may3
  cases h : (depsMay a && depsMay b && depsMay c)
  · simp
  · simp only [Bool.and_eq_true] at h
    rw [Bool.true_and, Bool.true_and, Bool.eq_iff_iff, decide_eq_true_eq, Bool.and_eq_true, Bool.and_eq_true, apart2_iff, apart2_iff, apart2_iff]
    have h1 := depsMay_nodup h.1.1; have h2 := depsMay_nodup h.1.2; have h3 := depsMay_nodup h.2
    rw [List.map_append, List.map_append, List.nodup_append, List.nodup_append]
    constructor
    · rintro ⟨⟨_, _, h4⟩, _, h5⟩
      exact ⟨⟨h4, fun x hx y hy => h5 x (List.mem_append_left _ hx) y hy⟩, fun x hx y hy => h5 x (List.mem_append_right _ hx) y hy⟩
    · rintro ⟨⟨h4, h5⟩, h6⟩
      exact ⟨⟨h1, h2, h4⟩, h3, fun x hx y hy => (List.mem_append.1 hx).elim (fun hx => h5 x hx y hy) fun hx => h6 x hx y hy⟩
theorem may_one (l : List Dep) : may3 l [] [] = depsMay l := by
  rw [may3_eq]
  have : apart2 l [] = true := by rw [apart2_iff]; intro x _ y hy; simp at hy
  have h2 : apart2 ([] : List Dep) [] = true := rfl
  have h3 : depsMay [] = true := rfl
  rw [this, h2, h3]; simp
theorem maniMay_eq (m : Mani) : maniMay m = ((may3 m.deps m.dev m.opt && may3 m.over [] []) && decide ((maniText m).length ≤ 4096)) := by
  rw [may_one, may3_eq]
  unfold maniMay maniLists maniApart
  cases depsMay m.deps <;> cases depsMay m.dev <;> cases depsMay m.opt <;> cases depsMay m.over <;> simp
theorem maniMay_lists {m : Mani} (h : maniMay m = true) : depsMay m.deps = true ∧ depsMay m.dev = true ∧ depsMay m.opt = true ∧ depsMay m.over = true ∧ maniApart m = true := by
  unfold maniMay maniLists at h
  simp only [Bool.and_eq_true] at h
  exact ⟨h.1.1.1.1, h.1.1.1.2, h.1.1.2, h.1.2, h.2.1⟩
theorem maniMay_small {m : Mani} (h : maniMay m = true) : m.deps.length + m.dev.length + m.opt.length ≤ 48 := by
  obtain ⟨h1, h2, h3, _⟩ := maniMay_lists h
  have := (depsMay_names h1).1; have := (depsMay_names h2).1; have := (depsMay_names h3).1
  omega
end Go.Hal
/-
  DERIVED: THE SHELF's CONTRACTS AT THIS DUMP, IN PLAIN WORDS (tools/lay-plain.mjs out of 'YtlnneokngjfbbaaGreatDoorLay4.lean', which tools/lay-shelf.mjs wrote): THE SAME DECLARATIONS UNDER THE SAME NAMES: 'import', 'namespace', 'open', 'def', 'theorem' AND NOTHING ELSE: no command of the shelf's: FOR A HAND-IN. Each laying: the table of numbers ('.._ren') and one theorem, a field a fact of the dump's own or the kernel's comparison; each contract: ONE APPLICATION.
-/
namespace Go.Proofs
open Go.Shelf
def Tryz.laySd_ren : Go.Shelf.Ren := ⟨fun | 6 => 142 | 15 => 120 | 14 => 208 | 28 => 174 | 29 => 175 | 20 => 244 | 21 => 245 | 22 => 246 | 23 => 247 | 24 => 248 | 25 => 249 | 26 => 250 | 27 => 251 | 46 => 268 | 47 => 232 | 48 => 233 | 49 => 269 | 50 => 270 | 57 => 278 | n => n, fun | 22 => 23 | 24 => 88 | 25 => 184 | 3 => 3 | 39 => 170 | 0 => 0 | 53 => 226 | 55 => 228 | 4 => 4 | 46 => 220 | 45 => 219 | 50 => 128 | 5 => 5 | 9 => 9 | 66 => 269 | 70 => 273 | 76 => 293 | 77 => 294 | n => n, fun | n => n⟩
theorem Tryz.laySd : Go.Proofs.SlLaysF0.n6 Tryz.prog Tryz.laySd_ren := {
  mixed := by kernel_rfl
  f6 := ⟨Tryz.f142.name, by decide, Tryz.func142.trans (congrArg some (by kernel_rfl))⟩
  f14 := ⟨Tryz.f208.name, by decide, Tryz.func208.trans (congrArg some (by kernel_rfl))⟩
  f15 := Tryz.func120.trans (congrArg some (by kernel_rfl))
  f20 := ⟨Tryz.f244.name, by decide, Tryz.func244.trans (congrArg some (by kernel_rfl))⟩
  f21 := ⟨Tryz.f245.name, by decide, Tryz.func245.trans (congrArg some (by kernel_rfl))⟩
  f22 := ⟨Tryz.f246.name, by decide, Tryz.func246.trans (congrArg some (by kernel_rfl))⟩
  f23 := ⟨Tryz.f247.name, by decide, Tryz.func247.trans (congrArg some (by kernel_rfl))⟩
  f24 := ⟨Tryz.f248.name, by decide, Tryz.func248.trans (congrArg some (by kernel_rfl))⟩
  f25 := ⟨Tryz.f249.name, by decide, Tryz.func249.trans (congrArg some (by kernel_rfl))⟩
  f26 := ⟨Tryz.f250.name, by decide, Tryz.func250.trans (congrArg some (by kernel_rfl))⟩
  f27 := ⟨Tryz.f251.name, by decide, Tryz.func251.trans (congrArg some (by kernel_rfl))⟩
  f28 := Tryz.func174.trans (congrArg some (by kernel_rfl))
  f29 := Tryz.func175.trans (congrArg some (by kernel_rfl))
  f46 := ⟨Tryz.f268.name, by decide, Tryz.func268.trans (congrArg some (by kernel_rfl))⟩
  f47 := Tryz.func232.trans (congrArg some (by kernel_rfl))
  f48 := Tryz.func233.trans (congrArg some (by kernel_rfl))
  f49 := ⟨Tryz.f269.name, by decide, Tryz.func269.trans (congrArg some (by kernel_rfl))⟩
  f50 := ⟨Tryz.f270.name, by decide, Tryz.func270.trans (congrArg some (by kernel_rfl))⟩
  f57 := ⟨Tryz.f278.name, by decide, Tryz.func278.trans (congrArg some (by kernel_rfl))⟩
  t0 := Tryz.underlying0
  a0 := Tryz.isAgg0
  z0 := Tryz.sizeOf0
  v0 := Tryz.zeroValue0
  t3 := Tryz.underlying3
  a3 := Tryz.isAgg3
  z3 := Tryz.sizeOf3
  v3 := Tryz.zeroValue3
  t4 := Tryz.underlying4
  a4 := Tryz.isAgg4
  z4 := Tryz.sizeOf4
  v4 := Tryz.zeroValue4
  t5 := Tryz.underlying5
  a5 := Tryz.isAgg5
  z5 := Tryz.sizeOf5
  v5 := Tryz.zeroValue5
  t9 := Tryz.underlying9
  a9 := Tryz.isAgg9
  z9 := Tryz.sizeOf9
  v9 := Tryz.zeroValue9
  t22 := Tryz.underlying23
  a22 := Tryz.isAgg23
  z22 := Tryz.sizeOf23
  v22 := Tryz.zeroValue23
  t25 := Tryz.underlying184
  a25 := Tryz.isAgg184
  z25 := Tryz.sizeOf184
  v25 := Tryz.zeroValue184
  t39 := Tryz.underlying170
  a39 := Tryz.isAgg170
  z39 := Tryz.sizeOf170
  v39 := Tryz.zeroValue170
  t45 := Tryz.underlying219
  a45 := Tryz.isAgg219
  z45 := Tryz.sizeOf219
  v45 := Tryz.zeroValue219
  t46 := Tryz.underlying220
  a46 := Tryz.isAgg220
  z46 := Tryz.sizeOf220
  v46 := Tryz.zeroValue220
  t50 := Tryz.underlying128
  a50 := Tryz.isAgg128
  z50 := Tryz.sizeOf128
  v50 := Tryz.zeroValue128
  t53 := Tryz.underlying226
  a53 := Tryz.isAgg226
  z53 := Tryz.sizeOf226
  v53 := Tryz.zeroValue226
  t55 := Tryz.underlying228
  a55 := Tryz.isAgg228
  z55 := Tryz.sizeOf228
  v55 := Tryz.zeroValue228
  t66 := Tryz.underlying269
  a66 := Tryz.isAgg269
  z66 := Tryz.sizeOf269
  v66 := Tryz.zeroValue269
  t70 := Tryz.underlying273
  a70 := Tryz.isAgg273
  z70 := Tryz.sizeOf273
  v70 := Tryz.zeroValue273
  t76 := Tryz.underlying293
  a76 := Tryz.isAgg293
  z76 := Tryz.sizeOf293
  v76 := Tryz.zeroValue293
  t77 := Tryz.underlying294
  a77 := Tryz.isAgg294
  z77 := Tryz.sizeOf294
  v77 := Tryz.zeroValue294 }
end Go.Proofs
namespace Go.Hal
open Go Go.RowKit Go.Proofs Go.Shelf
instance : Inhabited Sl := ⟨Sl.nil⟩
theorem may1_gr {a b : ByteArray × Sl} {w : World} {R : Int → World → Prop} (hR : ∀ w', Gr w w' → R (cmpS a.1 b.1) w') : SE.manifest_may_1 a.1 a.2 b.1 b.2 w R := by
  unfold SE.manifest_may_1
  refine newS.gr fun _ w1 x1 hb => newS.gr fun _ w2 x2 hb2 => ⟨_, Gr.at0 hb x2 rfl, _, Gr.at0 hb2 (Gr.refl _) rfl, strCmp_k ⟨_, rfl, hR _ (x1.trans x2)⟩⟩
theorem entersMay1 : Enters Tryz.prog 140 := enters_of Tryz.func140 (by kernel_rfl) rfl
theorem may1_se {a b : ByteArray} {s t : Sl} {w : World} {R : Int → World → Prop} (hR : ∀ w', Ext w w' → R (cmpS a b) w') : SE.manifest_may_1 a s b t w R := by
  unfold SE.manifest_may_1
  refine newS.intro fun _ w1 x1 hb _ _ => newS.intro fun _ w2 x2 hb2 _ _ => ⟨_, hb.at0 x2 rfl, _, hb2.at0 (Ext.refl _) rfl, strCmp_k ⟨_, rfl, hR _ (x1.trans x2)⟩⟩
theorem sortedN_drop {l : List Dep} {i : Nat} (hi : i < l.length) (h0 : 0 < i) : sortedN (l.drop (i - 1)) = (!decide (cmpS l[i].name (l[i - 1]'(by omega)).name < 0) && sortedN (l.drop i)) := by
  have h1 : l.drop (i - 1) = l[i - 1]'(by omega) :: l.drop i := by
    rw [List.drop_eq_getElem_cons (by omega : i - 1 < l.length)]
    congr 2; omega
  rw [h1, List.drop_eq_getElem_cons hi, sortedN]
theorem sortedN_false {l : List Dep} : ∀ {i : Nat}, sortedN (l.drop i) = false → sortedN l = false := by
  intro i
  induction i generalizing l with
  | zero => intro h; simpa using h
  | succ i ih =>
    intro h
    cases l with
    | nil => simp at h; exact h
    | cons x r =>
      rw [List.drop_succ_cons] at h
      have := ih h
      cases r with
      | nil => cases this
      | cons y r => rw [sortedN, this, Bool.and_false]
theorem isSorted_se {s : Sl} {l : List Dep} {S : Nat → Prop} {w : World} {R : Bool → World → Prop} (hs : SlR depE w S s l) (hR : ∀ w', Ext w w' → R (sortedN l) w') : SE.slices_IsSortedFunc_apiDepapiDep s (.func (.func 140) #[] #[]) w R := by
  unfold SE.slices_IsSortedFunc_apiDepapiDep
  have hl := hs.len
  have hm := hs.max
  have hmx := maxLen_eq
  refine loop1.ghost (fun n i w' => Ext w w' ∧ ((l = [] ∧ i = -1) ∨ (i = (n : Int) ∧ n < l.length ∧ sortedN (l.drop n) = true))) (l.length - 1) ⟨Ext.refl _, ?_⟩ fun n i w1 nxt ⟨x1, hJ⟩ hn => ⟨fun hlt => ?_, fun hge => ?_⟩
  · rw [wrapI_eq (by omega) (by omega)]
    by_cases h0 : l = []
    · left; subst h0; rw [hl]; exact ⟨rfl, rfl⟩
    · right
      have : 0 < l.length := List.length_pos_iff.2 h0
      refine ⟨by omega, by omega, ?_⟩
      rw [List.drop_eq_getElem_cons (by omega), List.drop_eq_nil_of_le (by omega)]; rfl
  · rcases hJ with ⟨_, rfl⟩ | ⟨rfl, hnl, hI⟩
    · omega
    have h0 : 0 < n := by omega
    have ew : wrapI ((n : Int) - 1) = ((n - 1 : Nat) : Int) := by rw [wrapI_eq (by omega) (by omega)]; omega
    rw [ew]
    obtain ⟨ad, t, ha, _, hnm, _, hc⟩ := depEl hs hnl
    obtain ⟨ad2, t2, ha2, _, hnm2, _, hc2⟩ := depEl hs (n := n - 1) (by omega)
    have hstep := sortedN_drop hnl h0
    refine bnd.drew fun w2 x2 => ⟨ad, ⟨ha, by omega, by omega⟩, _, t, hc _ (x1.trans x2), ad2, ⟨ha2, by omega, by omega⟩, _, t2, hc2 _ (x1.trans x2), _, _, rfl, entersMay1, SE.manifest_may_1.go (may1_se fun w3 x3 => ⟨_, rfl, fun hneg => ?_, fun hpos => ?_⟩)⟩
    · rw [decide_eq_true hneg, Bool.not_true, Bool.false_and] at hstep
      have := hR w3 ((x1.trans x2).trans x3)
      rw [sortedN_false hstep] at this; exact this
    · rw [decide_eq_false hpos, hI] at hstep
      exact hn (n - 1) _ _ (by omega) ⟨(x1.trans x2).trans x3, .inr ⟨rfl, by omega, hstep⟩⟩
  · have hs : sortedN l = true := by
      rcases hJ with ⟨rfl, _⟩ | ⟨rfl, hnl, hI⟩
      · rfl
      · have : n = 0 := by omega
        subst this; simpa using hI
    have := hR w1 x1
    rw [hs] at this; exact this
theorem sortDep_k {w : World} {lo : Nat} {S : Nat → Prop} {s : Sl} {l : List Dep} {K : Value → World → Prop} (h : OwnS depE 88 w lo S s l) (hlo : lo ≤ w.heap.size) (hlen : l.length ≤ 1000)
    (hK : ∀ w' (z : List (ByteArray × Sl)), Below lo w w' → (z.map (·.1)).Perm (l.map (·.name)) → z.Pairwise (fun x y => cmpS x.1 y.1 ≤ 0) → (z = [] ∨ ∃ g tail, s.a = some ⟨g, 0, none⟩ ∧ RowB (fun x : ByteArray × Sl => [.string x.1, Sl.v x.2]) w' g z tail) → K (.tuple #[]) w') :
    callS Tryz.prog 142 [Sl.v s, .func (.func 140) #[] #[]] w K := by
  have hsl := h.len
  rcases h.rowG (fun x : ByteArray × Sl => [.string x.1, Sl.v x.2]) (fun y x => y.1 = x.name) (fun x cs (hx : depE.rep w S x cs) => by obtain ⟨_, t, hcs, _⟩ := hx; exact ⟨(x.name, t), hcs, rfl⟩) with ⟨rfl, rfl⟩ | ⟨g, z, tail, ha, hg, hz, hr, hrow, hc, hcm⟩
  · refine (AnyF.slices_SortFunc_none Tryz.laySd none 0 _ w).mono fun e w' ⟨he, hw⟩ => ⟨_, he, ?_⟩
    subst hw
    exact hK _ [] (Below.refl _ _) (List.Perm.refl _) List.Pairwise.nil (.inl rfl)
  · obtain ⟨a, n, c⟩ := s
    simp only at ha hsl
    subst ha
    have hzl : (z.map Prod.fst).length = l.length := by rw [← hz]; simp
    have hnm : (z.map Prod.fst).map (·.1) = l.map (·.name) := by
      rw [← hz, List.map_map, List.map_map]
      exact List.map_congr_left fun p hp => hr p hp
    subst hsl
    rw [← hzl]
    have hO := cmpS_ord (α := ByteArray × Sl) (·.1)
    refine sortFunc_k Tryz.laySd (k := 2) (fun w => by kernel_rfl) (fun w => by kernel_rfl) (f := fun x : ByteArray × Sl => [.string x.1, Sl.v x.2]) (fun _ => rfl) (fun x v hv => by simp [Sl.v] at hv; rcases hv with rfl | rfl <;> rfl) (fun a b => cmpS a.1 b.1) (swo_ltOf hO.flip hO.trans) 140 #[] entersMay1 (fun w0 x y hb _ => ?_) hrow (by omega) rfl fun l' w' hp hs b hr' => ?_
    · have h := SE.manifest_may_1.go (k := fun v w' => v = .int .i64 (cmpS x.1 y.1) ∧ Gr w0 w') (may1_gr (a := x) (b := y) (w := w0) fun w' h => ⟨rfl, h⟩)
      exact Calls.mono h fun e w' ⟨v, he, hv, hg⟩ => ⟨by rw [he, hv], hg⟩
    · refine hK w' l' (b.below hlo hg) ?_ (hs.imp fun {a b} h => by have := hO.flip b a; have := hO.flip a b; omega) (.inr ⟨g, tail, rfl, hr'⟩)
      rw [← hnm]
      exact hp.map _
theorem okB {d : Dep} {t2 : Bool} {n : Int} (h2 : nameMay d.name = true → t2 = spansMay d.range) (hn : (n == 0) = d.range.isEmpty) : (((!nameMay d.name) || (!t2)) || (n == 0)) = !okD d := by
  unfold okD
  rw [hn]
  cases h1 : nameMay d.name
  · simp
  · rw [h2 h1]
    cases spansMay d.range <;> cases d.range.isEmpty <;> rfl
set_option maxHeartbeats 4000000 in
theorem may3_se {sa sb sc : Sl} {la lb lc : List Dep} {S : Nat → Prop} {w : World} {R : Bool → World → Prop} (hS : Old S w) (ha : SlR depE w S sa la) (hb : SlR depE w S sb lb) (hc : SlR depE w S sc lc) (hR : ∀ w', Ext w w' → R (may3 la lb lc) w') : SE.manifest_may sa sb sc w R := by
  unfold SE.manifest_may
  have hmx := maxLen_eq
  have e40 : depE.bytes = 40 := rfl
  refine newS.intro fun a1 w1 x1 hb1 hab1 _ => ?_
  have hs1 := x1.size
  have hwkl : ∀ {l : List Dep}, wk l = true → l.length ≤ 16 := fun h => by
    unfold wk at h
    simp only [Bool.and_eq_true, decide_eq_true_eq] at h
    exact h.1.1
  refine loop2.up (N := 3) (by decide) (fun all i w' => Ext w w' ∧ Ext w1 w' ∧ ∃ (S' : Nat → Prop) (pre : List Dep), OwnS depE 88 w' w1.heap.size S' all pre ∧ (i = 0 → pre = []) ∧ (i = 1 → pre = la) ∧ (i = 2 → pre = la ++ lb) ∧ (i = 3 → pre = la ++ lb ++ lc) ∧ (0 < i → wk la = true) ∧ (1 < i → wk lb = true) ∧ (2 < i → wk lc = true))
    ⟨x1, Ext.refl _, None', [], (OwnS.nil _ _), fun _ => rfl, fun h => by omega, fun h => by omega, fun h => by omega, fun h => by omega, fun h => by omega, fun h => by omega⟩ fun all i w2 nxt hi ⟨x2, x12, S', pre, own, p0, p1, p2, p3, k0, k1, k2⟩ hn => ⟨fun hlt => ?_, fun hge => ?_⟩
  · have hlt' : i < 3 := by
      have : ((Sl.mk (some a1) 3 3).len : Int) = 3 := rfl
      omega
    have hl3 := lists3 (i := i) (hb1.ext x12)
    have hcase : i = 0 ∨ i = 1 ∨ i = 2 := by omega
    obtain ⟨t, l, hld, hs, q0, q1, q2, hbad, hpre⟩ : ∃ t l, ldc w2 (a1.add (i * 1)) [Sl.v t] ∧ SlR depE w S t l ∧ (i = 0 → l = la) ∧ (i = 1 → l = lb) ∧ (i = 2 → l = lc) ∧ (wk l = false → may3 la lb lc = false) ∧ pre.length ≤ 32 := by
      rcases hcase with rfl | rfl | rfl
      · exact ⟨sa, la, hl3.1 rfl, ha, fun _ => rfl, fun h => by omega, fun h => by omega, fun h => may3_false (.inl h), by rw [p0 rfl]; simp⟩
      · exact ⟨sb, lb, hl3.2.1 rfl, hb, fun h => by omega, fun _ => rfl, fun h => by omega, fun h => may3_false (.inr (.inl h)), by rw [p1 rfl]; have := hwkl (k0 (by omega)); omega⟩
      · exact ⟨sc, lc, hl3.2.2 rfl, hc, fun h => by omega, fun h => by omega, fun _ => rfl, fun h => may3_false (.inr (.inr h)), by rw [p2 rfl, List.length_append]; have := hwkl (k0 (by omega)); have := hwkl (k1 (by omega)); omega⟩
    have hsl := hs.len
    refine ⟨a1, ⟨rfl, by omega, hlt⟩, t, hld, bound ?_⟩
    refine gCall.intro (sortedN l) (fun _ q hq => SE.slices_IsSortedFunc_apiDepapiDep.go (isSorted_se (hs.ext x2) fun w' hx => ⟨_, rfl, hq _ hx⟩)) fun t2 w3 x3 ht2 => ?_
    have x03 := x2.trans x3
    have hfalse : ∀ w', Ext w w' → wk l = false → R false w' := fun w' hx h => by
      have := hR w' hx
      rw [hbad h] at this; exact this
    refine ⟨fun h => hfalse w3 x03 ?_, fun h => ?_⟩
    · unfold wk
      cases h16 : decide ((16 : Int) < (t.len : Int))
      · rw [h16] at ht2 h
        rw [ht2 rfl] at h
        have : sortedN l = false := by simpa using h
        rw [this]; simp
      · have : ¬ l.length ≤ 16 := by simp at h16; omega
        simp [this]
    · have h16 : l.length ≤ 16 := by simp at h; omega
      have hd : decide ((16 : Int) < (t.len : Int)) = false := by simp; omega
      rw [hd] at ht2 h
      rw [ht2 rfl] at h
      have hso : sortedN l = true := by simpa using h
      refine loop1.up hs.max (fun j w' => Ext w3 w' ∧ (l.take j).all okD = true) ⟨Ext.refl _, rfl⟩ fun j w4 nxt2 hj ⟨x4, hI⟩ hn2 => ⟨fun hlt2 => ?_, fun hge2 => ?_⟩
      · have hlj : j < l.length := by omega
        obtain ⟨ad, tr, had, _, hnm, hr, hcc⟩ := depEl hs hlj
        have x04 := x03.trans x4
        refine ⟨ad, ⟨had, by omega, hlt2⟩, _, tr, hcc _ x04, newS.intro fun a5 w5 x5 hb5 hab5 _ => stw0.intro hb5 (by simp) fun w6 b6 _ hb6 => ⟨_, hb6.at0 (Ext.refl _) rfl, ?_⟩⟩
        have x46 : Ext w4 w6 := b6.ext x5 (by omega)
        have x06 := x04.trans x46
        refine SE.scan_Name.go (scanName_se hnm fun w7 x7 => ⟨_, rfl, bound ⟨tr, fun _ => hb6.at1 (k := 1) (r := []) x7 rfl, ?_⟩⟩)
        refine gCall.intro (spansMay l[j].range) (fun _ q hq => SE.span_May.go (spanMay_se (hr.ext (x06.trans x7)) fun w' hx => ⟨_, rfl, hq _ hx⟩)) fun t3 w8 x8 ht3 => bound ⟨tr, fun _ => hb6.at1 (k := 1) (r := []) (x7.trans x8) rfl, ?_⟩
        have e0 : ((tr.len : Int) == 0) = l[j].range.isEmpty := by
          rw [hr.len]
          cases l[j].range <;> simp
          omega
        have e1 := okB (d := l[j]) (t2 := t3) (n := (tr.len : Int)) (fun h1 => ht3 (by rw [h1]; rfl)) e0
        rw [e1]
        have hst : (l.take (j + 1)).all okD = okD l[j] := by rw [List.take_succ_eq_append_getElem hlj, List.all_append, hI]; simp
        refine ⟨fun hh => hfalse w8 ((x06.trans x7).trans x8) ?_, fun hh => hn2 hlj _ ⟨(x4.trans x46).trans (x7.trans x8), by rw [hst]; simpa using hh⟩⟩
        have hbadj : okD l[j] = false := by simpa using hh
        unfold wk
        have : l.all okD = false := by
          rw [List.all_eq_false]
          exact ⟨l[j], List.getElem_mem hlj, by rw [hbadj]; decide⟩
        rw [this, Bool.and_false]
      · have hjl : j = l.length := by omega
        rw [hjl, List.take_length] at hI
        have hwk : wk l = true := by
          unfold wk
          rw [hso, hI, decide_eq_true h16]; rfl
        have x24 := x3.trans x4
        have x04 := x2.trans x24
        have hs4 := x04.size
        refine (own.ext x24).appAll apDep (x12.trans x24).size (hs.ext x04) (hS.ext hs4) (fun ad had hb => by have := (own.block had).1; have := hS _ hb; omega) (by rw [e40]; unfold room; omega) (by omega) fun r' w9 own9 bel9 _ _ => ?_
        refine hn hlt' _ _ ⟨x1.trans ((x12.trans x24).trans' bel9), (x12.trans x24).trans' bel9, _, pre ++ l, own9, fun h => by omega, fun h => ?_, fun h => ?_, fun h => ?_, fun _ => ?_, fun h => ?_, fun h => ?_⟩
        · have : i = 0 := by omega
          rw [p0 this, q0 this]; rfl
        · have : i = 1 := by omega
          rw [p1 this, q1 this]
        · have : i = 2 := by omega
          rw [p2 this, q2 this]
        · rcases Nat.eq_zero_or_pos i with h0 | h0
          · rw [← q0 h0]; exact hwk
          · exact k0 h0
        · rcases Nat.lt_or_ge 1 i with h0 | h0
          · exact k1 h0
          · have : i = 1 := by omega
            rw [← q1 this]; exact hwk
        · have : i = 2 := by omega
          rw [← q2 this]; exact hwk
  · have hi3 : i = 3 := by
      have : ((Sl.mk (some a1) 3 3).len : Int) = 3 := rfl
      omega
    rw [wk_may3 (k0 (by omega)) (k1 (by omega)) (k2 (by omega)), ← p3 hi3] at hR
    have hpl : pre.length ≤ 1000 := by
      rw [p3 hi3, List.length_append, List.length_append]
      have := hwkl (k0 (by omega)); have := hwkl (k1 (by omega)); have := hwkl (k2 (by omega)); omega
    clear p0 p1 p2 p3 k0 k1 k2 hn
    refine sortDep_k own x12.size hpl fun w3 z b3 hzp hzs hz => ⟨rfl, ?_⟩
    have x03 : Ext w w3 := x1.trans (x12.trans' b3)
    have hal := own.len
    have hzl : z.length = pre.length := by have := hzp.length_eq; simpa using this
    have hone : ∀ w', Ext w w' → ∀ b, (b = true ↔ (z.map (·.1)).Nodup) → R b w' := fun w' hx b hb => by
      have h1 := hR w' hx
      have : b = decide (pre.map (·.name)).Nodup := by rw [Bool.eq_iff_iff, hb, decide_eq_true_eq]; exact hzp.nodup_iff
      rw [this]; exact h1
    have hread : ∀ i (hi : i < z.length), ∃ ad, all.a = some ad ∧ ∀ w', Ext w3 w' → ldc w' (ad.add (i * 2)) [.string z[i].1] := fun i hi => by
      rcases hz with rfl | ⟨g, tail, hga, hrow⟩
      · exact absurd hi (Nat.not_lt_zero _)
      · exact ⟨_, hga, fun w' hx => (RowB.ld (k := 2) (fun _ => rfl) (hrow.ext hx) hi).pre rfl⟩
    have hone1 : ∀ {i j : Nat} (hi : i < z.length) (hj : j < z.length), i < j → cmpS z[i].1 z[j].1 ≤ 0 := fun hi hj hij => List.pairwise_iff_getElem.1 hzs _ _ hi hj hij
    refine loop1.ghost (fun m i w' => ∃ k : Nat, i = (k : Int) ∧ 1 ≤ k ∧ m = z.length - k ∧ Ext w3 w' ∧ (z.take k).Pairwise (fun x y => bLt x.1 y.1 = true)) (z.length - 1) ⟨1, rfl, Nat.le_refl _, rfl, Ext.refl _, ?_⟩ fun m i w4 nxt ⟨k, hik, hk1, hm, x4, hP⟩ hn => ⟨fun hlt => ?_, fun hge => ?_⟩
    · cases z with
      | nil => exact List.Pairwise.nil
      | cons x r => simp
    · subst hik
      have hkz : k < z.length := by omega
      have ew : wrapI ((k : Int) - 1) = ((k - 1 : Nat) : Int) := by rw [wrapI_eq (by omega) (by omega)]; omega
      rw [ew]
      obtain ⟨ad, hga, hc1⟩ := hread k hkz
      obtain ⟨ad', hga', hc2⟩ := hread (k - 1) (by omega)
      refine bnd.drew fun w5 x5 => ⟨ad, ⟨hga, by omega, by omega⟩, _, hc1 _ (x4.trans x5), ad', ⟨hga', by omega, by omega⟩, _, hc2 _ (x4.trans x5), fun he => ?_, fun hne => ?_⟩
      · refine hone _ (x03.trans (x4.trans x5)) false ⟨(fun h => by cases h), fun h => ?_⟩
        rw [List.nodup_iff_pairwise_ne, List.pairwise_map] at h
        exact absurd he.symm (List.pairwise_iff_getElem.1 h (k - 1) k (by omega) hkz (by omega))
      · have hadj := hone1 (i := k - 1) (j := k) (by omega) hkz (by omega)
        have hb1 : bLt (z[k - 1]'(by omega)).1 z[k].1 = true := bLt_of hadj fun e => hne e.symm
        refine hn (z.length - (k + 1)) _ _ (by omega) ⟨k + 1, by rw [wrapI_eq (by omega) (by omega)]; omega, by omega, rfl, x4.trans x5, ?_⟩
        rw [List.take_succ_eq_append_getElem hkz, List.pairwise_append]
        refine ⟨hP, List.pairwise_singleton _ _, fun x hx y hy => ?_⟩
        simp only [List.mem_singleton] at hy
        subst hy
        obtain ⟨j, hj, rfl⟩ := List.mem_iff_getElem.1 hx
        rw [List.length_take] at hj
        rw [List.getElem_take]
        by_cases hjk : j = k - 1
        · subst hjk; exact hb1
        · have hjl : j < (z.take k).length := by rw [List.length_take]; exact hj
          have hkl : k - 1 < (z.take k).length := by rw [List.length_take]; omega
          have h2 := List.pairwise_iff_getElem.1 hP j (k - 1) hjl hkl (by omega)
          rw [List.getElem_take, List.getElem_take] at h2
          exact bLt_trans h2 hb1
    · subst hik
      refine hone _ (x03.trans x4) true ⟨fun _ => ?_, fun _ => rfl⟩
      rw [List.take_of_length_le (by omega)] at hP
      rw [List.nodup_iff_pairwise_ne, List.pairwise_map]
      exact hP.imp fun h => bLt_ne h
end Go.Hal
namespace Go.Hal
open Go Go.RowKit Go.Proofs Go.Shelf
def BoxT (T : TypeId) (w : World) (a : Addr) (cs : List Value) : Prop := a.off = 0 ∧ a.spot = none ∧ w.heap[a.block]? = some (.cells cs.toArray T (0, 0))
theorem BoxT.box {T : TypeId} {w : World} {a : Addr} {cs : List Value} (h : BoxT T w a cs) : BoxAt w a cs := ⟨T, h⟩
theorem BoxT.ext {T : TypeId} {w w' : World} {a : Addr} {cs : List Value} (h : BoxT T w a cs) (hx : Ext w w') : BoxT T w' a cs := ⟨h.1, h.2.1, (hx.block (lt_of_block h.2.2)).trans h.2.2⟩
theorem newS.introT {w : World} {cs : List Value} {t : TypeId} {k : Addr → World → Prop} (h : ∀ a w', Ext w w' → BoxT t w' a cs → a.block = w.heap.size → w'.heap.size = w.heap.size + 1 → k a w') : newS w cs t k := fun a w' ha hw => by
  subst ha hw
  exact h _ _ (Ext.alloc _ _) ⟨rfl, rfl, heap_alloc_new w _⟩ rfl (by simp)
theorem stw0.introT {T : TypeId} {w : World} {a : Addr} {old cs : List Value} {k : World → Prop} (hb : BoxT T w a old) (hl : cs.length = old.length) (h : ∀ w', But a.block w w' → w'.heap.size = w.heap.size → BoxT T w' a cs → k w') : stw w a cs k := by
  obtain ⟨ho, hs, hh⟩ := hb
  obtain ⟨b, of, sp⟩ := a
  simp only at ho hs hh
  subst ho hs
  refine ⟨_, T, hh, rfl, by simp [hl], h _ ⟨?_, rfl, rfl, rfl, fun c hc hne => setRow_other w b c _ hne⟩ ?_ ⟨rfl, rfl, ?_⟩⟩
  · simp [World.setRow]
  · simp [World.setRow]
  · rw [setRow_heap w b old.toArray _ T _ hh]
    have : old.drop cs.length = [] := by rw [hl]; exact List.drop_length
    simp [splice, this]
theorem Bld.lt {b : Nat} {l : List UInt8} {w : World} (h : Bld b l w) : b < w.heap.size := by
  rcases h with ⟨_, _, h, _⟩ | ⟨_, _, h, _⟩ <;> exact lt_of_block h
theorem bldWrite_kt {b : Nat} {l m : List UInt8} {w0 w : World} {k : Value → World → Prop} (hB : Bld b l w) (h0 : w0.heap.size = b) (x0 : Ext w0 w) (hl : l.length + m.length ≤ 140737488355328)
    (hk : ∀ w' n, Ext w0 w' → Bld b (l ++ m) w' → (∀ T a cs, T ≠ 5 → a.block ≠ b → BoxT T w a cs → BoxT T w' a cs) → k (.tuple #[.int .i64 n, .nilIface]) w') : callS Tryz.prog 143 [.pointer (some ⟨b, 0, none⟩), .string (B m)] w k := by
  have h := Any.Builder_WriteString_k { Tryz.layJo with } bldX b b (Lib.byteCells l) (B m) w hB (by rw [Lib.byteCells_length, B_size]; exact hl) (by have := x0.size; omega)
  refine h.mono fun e w' ⟨he, hb, hbel, hoth⟩ => ⟨_, he, hk w' _ (x0.trans' (by rw [h0]; exact hbel)) (.inr ?_) fun T a cs hT ha hbx => ⟨hbx.1, hbx.2.1, hoth _ _ hbx.2.2 (fun e => ha (Option.some.inj e)) fun c fz e => ?_⟩⟩
  · have e : Lib.byteCells l ++ Lib.strCells (B m) = Lib.byteCells (l ++ m) := by rw [Lib.strCells_eq, B_data]; simp [Lib.byteCells]
    rw [e] at hb; exact hb
  · simp only [Obj.cells.injEq] at e
    exact hT e.2.1
def partT : TypeId := 200
theorem parts_se {a : Addr} {w : World} {R : Sl → World → Prop} (hR : ∀ a' w', Ext w w' → BoxT partT w' a' [.string (B wNeeds), .pointer (some a), .string (B wDev), .pointer (some (a.add 1)), .string (B wLikes), .pointer (some (a.add 2)), .string (B wPins), .pointer (some (a.add 3))] → w.heap.size ≤ a'.block → R ⟨some a', 4, 4⟩ w') : SE.manifest_parts (some a) w R := by
  unfold SE.manifest_parts
  exact bnd.drew fun w1 x1 => ⟨a, rfl, a, rfl, a, rfl, a, rfl, newS.introT fun a' w2 x2 hb hab _ => hR a' w2 (x1.trans x2) hb (by have := x1.size; omega)⟩
def mt (m : Mani) (i : Nat) : List UInt8 := match i with
  | 0 => pjText
  | 1 => pjText ++ depLines wNeeds m.deps
  | 2 => (pjText ++ depLines wNeeds m.deps) ++ depLines wDev m.dev
  | 3 => ((pjText ++ depLines wNeeds m.deps) ++ depLines wDev m.dev) ++ depLines wLikes m.opt
  | _ => maniText m
set_option maxHeartbeats 4000000 in
theorem maniText_se {m : Mani} {d e o v : Sl} {S : Nat → Prop} {w : World} {R : ByteArray → World → Prop} (ht : Tab w) (hm : maniLists m = true) (hd : SlR depE w S d m.deps) (he : SlR depE w S e m.dev) (ho : SlR depE w S o m.opt) (hv : SlR depE w S v m.over)
    (hR : ∀ w', Ext w w' → R (B (maniText m)) w') : SE.manifest_text d e o v w R := by
  unfold SE.manifest_text
  unfold maniLists at hm
  simp only [Bool.and_eq_true] at hm
  obtain ⟨⟨⟨h1, h2⟩, h3⟩, h4⟩ := hm
  have n1 := depsMay_names h1; have n2 := depsMay_names h2; have n3 := depsMay_names h3; have n4 := depsMay_names h4
  have l1 := depLines_len (word := wNeeds) (by decide) fun d hd => (n1.2 d hd).1
  have l2 := depLines_len (word := wDev) (by decide) fun d hd => (n2.2 d hd).1
  have l3 := depLines_len (word := wLikes) (by decide) fun d hd => (n3.2 d hd).1
  refine newS.intro fun a w1 x1 hb _ _ => ?_
  intro a1 w2 ha1 hw2
  subst ha1
  have x2 : Ext w1 w2 := hw2 ▸ Ext.alloc _ _
  have hB2 : Bld w1.heap.size [] w2 := hw2 ▸ bld_new w1
  have t1 : Tab w1 := ht.ext x1
  have hpj : (ByteArray.mk #[112, 114, 111, 106, 101, 99, 116, 10]) = B pjText := rfl
  rw [hpj]
  refine bldWrite_k (m := pjText) hB2 rfl x2 (by decide) fun w3 n3' x3 hB3 => ⟨_, _, rfl, ?_⟩
  refine SE.manifest_parts.go (parts_se (a := a) fun ap w4 x4 hbp hapb => ⟨_, rfl, ?_⟩)
  have hs13 := hB3.lt
  have hTne : partT ≠ 5 := by decide
  have x14 := x3.trans x4
  have hpjl : pjText.length = 8 := rfl
  refine loop1.up (N := 4) (by decide) (fun i w' => Ext w1 w' ∧ BoxT partT w' ap [.string (B wNeeds), .pointer (some a), .string (B wDev), .pointer (some (a.add 1)), .string (B wLikes), .pointer (some (a.add 2)), .string (B wPins), .pointer (some (a.add 3))] ∧ Bld w1.heap.size (mt m i) w') ⟨x14, hbp, by simpa [mt] using hB3.ext x4⟩ fun i w5 nxt hi ⟨x5, hbp5, hB5⟩ hn => ⟨fun hlt => ?_, fun hge => ?_⟩
  · have hlt' : i < 4 := by
      have : ((Sl.mk (some ap) 4 4).len : Int) = 4 := rfl
      omega
    obtain ⟨wd, k, t, l, hp, hl5, hs, hdm, hwd, hmt, hml⟩ : ∃ (wd : List UInt8) (k : Nat) (t : Sl) (l : List Dep), ldc w5 (ap.add (i * 2)) [.string (B wd), .pointer (some (a.add k))] ∧ (∀ w', Ext w5 w' → ldc w' (a.add k) [Sl.v t]) ∧ SlR depE w S t l ∧ depsMay l = true ∧ wd.length ≤ 8 ∧ mt m (i + 1) = mt m i ++ depLines wd l ∧ (mt m i).length ≤ 1000000 := by
      have hcase : i = 0 ∨ i = 1 ∨ i = 2 ∨ i = 3 := by omega
      rcases hcase with rfl | rfl | rfl | rfl
      · exact ⟨wNeeds, 0, d, m.deps, hbp5.box.at1 (k := 0) (Ext.refl _) rfl, fun w' hx => hb.at1 (k := 0) (x5.trans hx) rfl, hd, h1, by decide, rfl, by simp [mt, hpjl]⟩
      · exact ⟨wDev, 1, e, m.dev, hbp5.box.at1 (k := 2) (Ext.refl _) rfl, fun w' hx => hb.at1 (k := 1) (x5.trans hx) rfl, he, h2, by decide, rfl, by simp [mt, hpjl]; omega⟩
      · exact ⟨wLikes, 2, o, m.opt, hbp5.box.at1 (k := 4) (Ext.refl _) rfl, fun w' hx => hb.at1 (k := 2) (x5.trans hx) rfl, ho, h3, by decide, rfl, by simp [mt, hpjl]; omega⟩
      · exact ⟨wPins, 3, v, m.over, hbp5.box.at1 (k := 6) (Ext.refl _) rfl, fun w' hx => hb.at1 (k := 3) (x5.trans hx) rfl, hv, h4, by decide, rfl, by simp [mt, hpjl]; omega⟩
    rw [hmt] at hn
    generalize mt m i = t0 at *
    refine ⟨ap, ⟨rfl, by omega, hlt⟩, _, _, hp, newS.introT fun a8 w6 x6 hb6 hab6 _ => stw0.introT hb6 rfl fun w7 b7 _ hb7 => ?_⟩
    have x57 : Ext w5 w7 := b7.ext x6 (by omega)
    have x17 := x5.trans x57
    have x07 := x1.trans x17
    refine ⟨_, hb7.box.at1 (k := 1) (Ext.refl _) rfl, _, rfl, t, hl5 _ x57, ?_⟩
    have hsl := hs.len
    obtain ⟨h16, hok⟩ := depsMay_names hdm
    refine loop1.up hs.max (fun j w' => Ext w1 w' ∧ BoxT partT w' a8 [.string (B wd), .pointer (some (a.add k))] ∧ BoxT partT w' ap [.string (B wNeeds), .pointer (some a), .string (B wDev), .pointer (some (a.add 1)), .string (B wLikes), .pointer (some (a.add 2)), .string (B wPins), .pointer (some (a.add 3))] ∧ Bld w1.heap.size (t0 ++ depLines wd (l.take j)) w') ⟨x17, hb7, hbp5.ext x57, by simpa [depLines] using hB5.ext x57⟩ fun j w8 nxt2 hj ⟨x8, hb8, hbp8, hI⟩ hn2 => ⟨fun hlt2 => ?_, fun hge2 => ?_⟩
    · have hlj : j < l.length := by omega
      obtain ⟨ad, tr, had, _, hnm, hr, hc⟩ := depEl hs hlj
      have hdj := hok _ (List.getElem_mem hlj)
      have q1 := depLines_len hwd (l := l.take j) fun d hd => (hok d (List.mem_of_mem_take hd)).1
      rw [List.length_take, Nat.min_eq_left (by omega)] at q1
      have q2 := nameMay_len hdj.1
      have q3 := rangeText_len l[j].range
      have x08 := x1.trans x8
      refine ⟨ad, ⟨had, by omega, hlt2⟩, _, tr, hc _ x08, newS.intro fun a9 w9 x9 hb9 hab9 _ => stw0.intro hb9 (by simp) fun w10 b10 _ hb10 => bnd.drew fun w11 x11 => ?_⟩
      have x810 : Ext w8 w10 := b10.ext x9 (by omega)
      have x811 := x810.trans x11
      refine ⟨_, hb8.box.at0 x811 rfl, ?_⟩
      rw [app_lit]
      refine ⟨by rw [B_size, lit_size, maxI_eq]; simp; omega, _, hb10.at0 x11 rfl, ?_⟩
      rw [ba_B l[j].name, B_app, app_lit]
      refine ⟨by rw [B_size, B_size, maxI_eq]; simp; omega, by rw [B_size, lit_size, maxI_eq]; simp; omega, tr, hb10.at1 x11 rfl, callX.intro (SE.span_Print.go (spanPrint_se (ht.ext (x08.trans x811)) (hr.ext (x08.trans x811)) fun w12 x12 => ⟨x12, _, rfl, ?_⟩))⟩
      rw [B_app, app_lit]
      have hln : (((((wd ++ [32]) ++ l[j].name.toList) ++ [32]) ++ rangeText l[j].range) ++ [10]).length ≤ 2030 := by simp; omega
      refine ⟨by rw [B_size, B_size, maxI_eq]; simp; omega, by rw [B_size, lit_size, maxI_eq]; simp; omega, bldWrite_kt (m := (((((wd ++ [32]) ++ l[j].name.toList) ++ [32]) ++ rangeText l[j].range) ++ [10])) (hI.ext (x811.trans x12)) rfl (x8.trans (x811.trans x12)) (by rw [List.length_append]; omega) fun w13 n13 x13 hB13 keep => ⟨_, _, rfl, hn2 hlj _ ⟨x13, keep _ _ _ hTne (by have := hbp5.box.lt; omega) (hb8.ext (x811.trans x12)), keep _ _ _ hTne (by omega) (hbp8.ext (x811.trans x12)), ?_⟩⟩⟩
      · rw [List.take_succ_eq_append_getElem hlj, depLines_snoc, depLine, ← List.append_assoc]
        exact hB13
    · have hjl : j = l.length := by omega
      rw [hjl, List.take_length] at hI
      exact hn hlt' _ ⟨x8, hbp8, hI⟩
  · have hi4 : i = 4 := by
      have : ((Sl.mk (some ap) 4 4).len : Int) = 4 := rfl
      omega
    subst hi4
    exact bldString_k hB5 rfl x5 fun w9 x9 => ⟨_, rfl, hR _ (x1.trans x9)⟩
set_option maxHeartbeats 2000000 in
theorem maniMay_se {m : Mani} {d e o v : Sl} {S : Nat → Prop} {w : World} {R : Bool → World → Prop} (ht : Tab w) (hS : Old S w) (hd : SlR depE w S d m.deps) (he : SlR depE w S e m.dev) (ho : SlR depE w S o m.opt) (hv : SlR depE w S v m.over)
    (hR : ∀ w', Ext w w' → R (maniMay m) w') : SE.manifest_May d e o v w R := by
  unfold SE.manifest_May
  refine newS.intro fun a w1 x1 hb _ _ => ⟨d, hb.at0 (Ext.refl _) rfl, e, hb.at1 (k := 1) (Ext.refl _) rfl, o, hb.at1 (k := 2) (Ext.refl _) rfl, ?_⟩
  refine SE.manifest_may.go (may3_se (hS.ext x1.size) (hd.ext x1) (he.ext x1) (ho.ext x1) fun w2 x2 => ⟨_, rfl, v, fun _ => hb.at1 (k := 3) (r := []) x2 rfl, ?_⟩)
  refine gCall.intro (may3 m.over [] []) (fun _ q hq => SE.manifest_may.go (may3_se (hS.ext (x1.trans x2).size) (hv.ext (x1.trans x2)) (SlR.nil trivial) (SlR.nil trivial) fun w' hx => ⟨_, rfl, hq _ hx⟩)) fun t3 w3 x3 ht3 => bound ⟨d, e, o, v, fun _ => hb.at0 (r := []) (x2.trans x3) rfl, ?_⟩
  have x03 := (x1.trans x2).trans x3
  have e1 : (may3 m.deps m.dev m.opt && t3) = (may3 m.deps m.dev m.opt && may3 m.over [] []) := by
    cases h : may3 m.deps m.dev m.opt
    · rfl
    · rw [ht3 h]
  rw [e1]
  have hl : (may3 m.deps m.dev m.opt && may3 m.over [] []) = true → maniLists m = true := fun h => by
    rw [may_one, may3_eq] at h
    simp only [Bool.and_eq_true] at h
    unfold maniLists
    simp [h]
  refine gCall.intro (B (maniText m)) (fun hg q hq => SE.manifest_text.go (maniText_se (ht.ext x03) (hl hg) (hd.ext x03) (he.ext x03) (ho.ext x03) (hv.ext x03) fun w' hx => ⟨_, rfl, hq _ hx⟩)) fun t4 w4 x4 ht4 => ?_
  have e2 : ((may3 m.deps m.dev m.opt && may3 m.over [] []) && decide ((t4.size : Int) ≤ 4096)) = maniMay m := by
    rw [maniMay_eq]
    cases h : (may3 m.deps m.dev m.opt && may3 m.over [] [])
    · rfl
    · rw [ht4 h, B_size, Bool.true_and, Bool.true_and, decide_eq_decide]; omega
  rw [e2]; exact hR _ (x03.trans x4)
end Go.Hal
namespace Go.Hal
open Go Go.RowKit Go.Proofs Go.Shelf
def EndN (q : Quest) : Nat → Lb → St → Stp → Prop
  | 0, l, s, r => q.step l s = r ∧ ∀ l1 s1, r ≠ .go l1 s1
  | n + 1, l, s, r => ∃ l1 s1, q.step l s = .go l1 s1 ∧ EndN q n l1 s1 r
theorem End.steps {q : Quest} {l : Lb} {s : St} {r : Stp} (h : q.End l s r) : ∃ n, EndN q n l s r := by
  induction h with
  | done h => exact ⟨0, h, (fun _ _ h => by cases h)⟩
  | err h => exact ⟨0, h, (fun _ _ h => by cases h)⟩
  | step h _ ih =>
    obtain ⟨n, hn⟩ := ih
    exact ⟨n + 1, _, _, h, hn⟩
theorem EndN.fin {q : Quest} {n : Nat} {l : Lb} {s : St} {r r' : Stp} (h : EndN q n l s r) (hs : q.step l s = r') (hr : ∀ l1 s1, r' ≠ .go l1 s1) : r = r' := by
  cases n with
  | zero => rw [← hs]; exact h.1.symm
  | succ n =>
    obtain ⟨l2, s2, h1, _⟩ := h
    rw [hs] at h1
    exact absurd h1 (hr _ _)
def lbN : Lb → Nat
  | .next => 1
  | .tri => 0
  | .back => 2
def resOf (L : List Pack) (m : Mani) (dev : Bool) (pins : List Pin) (D N : Int) : Stp :=
  if maniMay m = true ∧ 1 ≤ D ∧ D ≤ 4096 ∧ 1 ≤ N ∧ N ≤ 128 then Quest.res ⟨L, m, dev, pins, D.toNat, N.toNat⟩ else .err 1
structure RunC (w0 : World) (q : Quest) (a1 a3 : Addr) (D N d3 d4 : Int) (lo : Nat) (K : K7) (w : World) : Prop where
  wl : w0.heap.size ≤ lo
  ext : Ext w0 w
  cs : Cs w lo q K
  b1 : BoxAt w a1 [.int .i64 D, .int .i64 N, .int .i64 d3, .int .i64 d4]
  l1 : a1.block < lo
  b3 : BoxAt w a3 [Sl.v Sl.nil]
  l3 : a3.block < lo
  n3 : w0.heap.size ≤ a3.block
def RunJ (w0 : World) (q : Quest) (a1 a3 : Addr) (D N d3 d4 : Int) (n l : Nat) (vs : Option Addr) (d : Int) (w : World) : Prop :=
  ∃ lo sp K lb s, l = lbN lb ∧ vs = some sp ∧ d = (s.dec : Int) ∧ RunC w0 q a1 a3 D N d3 d4 lo K w ∧ SrAt w lo sp K s ∧ InvL q lb s ∧ EndN q n lb s q.res
end Go.Hal
namespace Go.Hal
open Go Go.RowKit Go.Proofs Go.Shelf
def Stp.ns : Stp → List Node
  | .done ns _ => ns
  | _ => []
def Stp.dec : Stp → Int
  | .done _ t => (t : Int)
  | _ => 0
def Stp.code : Stp → Int
  | .err e => e
  | _ => 0
theorem nodeEl {w : World} {S : Nat → Prop} {s : Sl} {l : List Node} (h : SlR nodeE w S s l) {n : Nat} (hn : n < l.length) :
    ∃ ad c e, s.a = some ad ∧ Str l[n].name ∧ SlR pinE w S c l[n].ctx ∧ SlR edgeE w S e l[n].edges ∧ ∀ w', Ext w w' → ldc w' (ad.add (n * 6)) [.string l[n].name, .int .i64 l[n].v.ma, .int .i64 l[n].v.mi, .int .i64 l[n].v.pa, Sl.v c, Sl.v e] := by
  obtain ⟨ad, cs, h1, h2, ⟨h0, c, e, rfl, h5, h6⟩, h4⟩ := h.el hn
  exact ⟨ad, c, e, h1, h0, h5, h6, h4⟩
theorem edgeEl {w : World} {S : Nat → Prop} {s : Sl} {l : List Edge} (h : SlR edgeE w S s l) {n : Nat} (hn : n < l.length) :
    ∃ ad, s.a = some ad ∧ ∀ w', Ext w w' → ldc w' (ad.add (n * 2)) [.string l[n].name, .int .i64 l[n].to] := by
  obtain ⟨ad, cs, h1, h2, ⟨rfl, h3⟩, h4⟩ := h.el hn
  exact ⟨ad, h1, h4⟩
theorem take_step {α : Type} {a b : List α} {i : Nat} (h1 : i < a.length) (h2 : i < b.length) (hI : a.take i = b.take i) (he : a[i] = b[i]) : a.take (i + 1) = b.take (i + 1) := by
  rw [List.take_succ_eq_append_getElem h1, List.take_succ_eq_append_getElem h2, hI, he]
theorem pinNe {x y : Pin} : (!((bEq x.name y.name) && (((x.v.ma == y.v.ma) && ((x.v.mi == y.v.mi) && ((x.v.pa == y.v.pa) && true))) && true))) = !decide (x = y) := by
  congr 1
  rw [Bool.eq_iff_iff]
  obtain ⟨n, ⟨p, q, r⟩⟩ := x
  obtain ⟨n', ⟨p', q', r'⟩⟩ := y
  simp [bEq_iff]
theorem edgeNe {x y : Edge} : (!((bEq x.name y.name) && ((x.to == y.to) && true))) = !decide (x = y) := by
  congr 1
  rw [Bool.eq_iff_iff]
  obtain ⟨n, p⟩ := x
  obtain ⟨n', p'⟩ := y
  simp [bEq_iff]
end Go.Hal
namespace Go.Hal
def RiseN {α : Type} (f : α → ByteArray) (l : List α) : Prop := l.Pairwise fun a b => bLt (f a) (f b) = true
theorem riseN_snoc {α : Type} {f : α → ByteArray} {l : List α} {a x : α} (h : RiseN f (l ++ [a])) (hx : bLt (f a) (f x) = true) : RiseN f (l ++ [a] ++ [x]) := by
  unfold RiseN at *
  rw [List.pairwise_append]
  refine ⟨h, by simp, fun b hb c hc => ?_⟩
  simp only [List.mem_singleton] at hc
  subst hc
  rcases List.mem_append.1 hb with hb | hb
  · exact bLt_trans ((List.pairwise_append.1 h).2.2 b hb a (by simp)) hx
  · simp only [List.mem_singleton] at hb; subst hb; exact hx
theorem RiseN.inj {α : Type} {f : α → ByteArray} {l : List α} (h : RiseN f l) {a b : α} (ha : a ∈ l) (hb : b ∈ l) (he : f a = f b) : a = b := by
  obtain ⟨i, hi, rfl⟩ := List.mem_iff_getElem.1 ha
  obtain ⟨j, hj, rfl⟩ := List.mem_iff_getElem.1 hb
  have hp := List.pairwise_iff_getElem.1 h
  rcases Nat.lt_trichotomy i j with hij | rfl | hij
  · exact absurd he (bLt_ne (hp i j hi hj hij))
  · rfl
  · exact absurd he.symm (bLt_ne (hp j i hj hi hij))
def edgesAt (g : List Node) (k : Nat) : List Edge := match g[k]? with
  | some x => x.edges
  | none => []
def stepB (n : Nat) (out : List Nat) (e : Edge) : List Nat := if 0 ≤ e.to ∧ e.to < (n : Int) ∧ e.to.toNat ∉ out then out ++ [e.to.toNat] else out
def bfsGo (g : List Node) : Nat → Nat → List Nat → List Nat
  | 0, _, out => out
  | f + 1, i, out => match out[i]? with
    | none => out
    | some k => bfsGo g f (i + 1) ((edgesAt g k).foldl (stepB g.length) out)
def bfs (g : List Node) : List Nat := if g = [] then [] else bfsGo g (g.length + 1) 0 [0]
def Leads (g : List Node) (k j : Nat) : Prop := ∃ e ∈ edgesAt g k, e.to = (j : Int)
structure BfsI (g : List Node) (i : Nat) (out : List Nat) : Prop where
  nodup : out.Nodup
  lt : ∀ k ∈ out, k < g.length
  root : out[0]? = some 0
  from_ : ∀ k ∈ out, k = 0 ∨ ∃ p ∈ out, Leads g p k
  done : ∀ (a k : Nat), a < i → out[a]? = some k → ∀ j, j < g.length → Leads g k j → j ∈ out
theorem foldB {g : List Node} {p : Nat} : ∀ (es : List Edge) (out : List Nat), (∀ e ∈ es, e ∈ edgesAt g p) → p ∈ out → out.Nodup → (∀ k ∈ out, k < g.length) → (∀ k ∈ out, k = 0 ∨ ∃ p ∈ out, Leads g p k) →
    (es.foldl (stepB g.length) out).Nodup ∧ (∀ k ∈ es.foldl (stepB g.length) out, k < g.length) ∧ (∀ k ∈ es.foldl (stepB g.length) out, k = 0 ∨ ∃ p ∈ es.foldl (stepB g.length) out, Leads g p k) ∧ (∃ t, es.foldl (stepB g.length) out = out ++ t) ∧ ∀ e ∈ es, ∀ j : Nat, j < g.length → e.to = (j : Int) → j ∈ es.foldl (stepB g.length) out
  | [], out, _, _, h1, h2, h3 => ⟨h1, h2, h3, ⟨[], by simp⟩, fun e h => by cases h⟩
  | e :: es, out, hes, hp, h1, h2, h3 => by
    rw [List.foldl_cons]
    have he := hes e (.head _)
    have key : (stepB g.length out e).Nodup ∧ (∀ k ∈ stepB g.length out e, k < g.length) ∧ (∀ k ∈ stepB g.length out e, k = 0 ∨ ∃ p ∈ stepB g.length out e, Leads g p k) ∧ (∃ t, stepB g.length out e = out ++ t) ∧ ∀ j : Nat, j < g.length → e.to = (j : Int) → j ∈ stepB g.length out e := by
      unfold stepB
      split
      · rename_i h
        obtain ⟨q1, q2, q3⟩ := h
        refine ⟨?_, fun k hk => ?_, fun k hk => ?_, ⟨_, rfl⟩, fun j hj hej => ?_⟩
        · rw [List.nodup_append]
          refine ⟨h1, by simp, fun a ha b hb => ?_⟩
          simp only [List.mem_singleton] at hb
          subst hb
          rintro rfl; exact q3 ha
        · rcases List.mem_append.1 hk with hk | hk
          · exact h2 k hk
          · simp only [List.mem_singleton] at hk; subst hk; omega
        · rcases List.mem_append.1 hk with hk | hk
          · rcases h3 k hk with h | ⟨p', hp', hl⟩
            · exact .inl h
            · exact .inr ⟨p', List.mem_append_left _ hp', hl⟩
          · simp only [List.mem_singleton] at hk
            subst hk
            exact .inr ⟨p, List.mem_append_left _ hp, e, he, by omega⟩
        · rw [hej]; simp
      · rename_i h
        refine ⟨h1, h2, h3, ⟨[], by simp⟩, fun j hj hej => ?_⟩
        apply Classical.byContradiction
        intro hno
        exact h ⟨by omega, by omega, by rw [hej]; simpa using hno⟩
    obtain ⟨k1, k2, k3, ⟨t, k4⟩, k5⟩ := key
    obtain ⟨r1, r2, r3, ⟨t', r4⟩, r5⟩ := foldB es (stepB g.length out e) (fun e' h => hes e' (.tail _ h)) (by rw [k4]; exact List.mem_append_left _ hp) k1 k2 k3
    refine ⟨r1, r2, r3, ⟨t ++ t', by rw [r4, k4, List.append_assoc]⟩, fun e' he' j hj hej => ?_⟩
    rcases List.mem_cons.1 he' with rfl | he'
    · rw [r4]; exact List.mem_append_left _ (k5 j hj hej)
    · exact r5 e' he' j hj hej
theorem BfsI.next {g : List Node} {i k : Nat} {out : List Nat} (h : BfsI g i out) (hk : out[i]? = some k) : BfsI g (i + 1) ((edgesAt g k).foldl (stepB g.length) out) := by
  obtain ⟨r1, r2, r3, ⟨t, r4⟩, r5⟩ := foldB (g := g) (p := k) (edgesAt g k) out (fun _ h => h) (List.mem_of_getElem? hk) h.nodup h.lt h.from_
  have hil := (List.getElem?_eq_some_iff.1 hk).1
  refine ⟨r1, r2, ?_, r3, fun a k' ha hk' j hj hl => ?_⟩
  · rw [r4, List.getElem?_append_left (by have := (List.getElem?_eq_some_iff.1 h.root).1; omega)]; exact h.root
  · rw [r4, List.getElem?_append_left (by omega)] at hk'
    rcases Nat.lt_succ_iff_lt_or_eq.1 ha with ha | rfl
    · rw [r4]; exact List.mem_append_left _ (h.done a k' ha hk' j hj hl)
    · rw [hk] at hk'
      cases hk'
      obtain ⟨e, he, hto⟩ := hl
      exact r5 e he j hj hto
theorem BfsI.len {g : List Node} {i : Nat} {out : List Nat} (h : BfsI g i out) : out.length ≤ g.length := by
  have := nodup_le (m := List.range g.length) h.nodup fun k hk => List.mem_range.2 (h.lt k hk)
  simpa using this
theorem bfsGo_ok {g : List Node} : ∀ (f i : Nat) (out : List Nat), BfsI g i out → i ≤ out.length → g.length < f + i → ∃ n, (bfsGo g f i out).length ≤ n ∧ BfsI g n (bfsGo g f i out)
  | 0, i, out, h, hi, hf => by have := h.len; omega
  | f + 1, i, out, h, hi, hf => by
    unfold bfsGo
    cases hk : out[i]? with
    | none => exact ⟨i, List.getElem?_eq_none_iff.1 hk, h⟩
    | some k =>
      obtain ⟨_, _, _, ⟨t, r4⟩, _⟩ := foldB (g := g) (p := k) (edgesAt g k) out (fun _ h => h) (List.mem_of_getElem? hk) h.nodup h.lt h.from_
      have hil := (List.getElem?_eq_some_iff.1 hk).1
      exact bfsGo_ok f (i + 1) _ (h.next hk) (by rw [r4, List.length_append]; omega) (by omega)
theorem BfsI.start {g : List Node} (hg : g ≠ []) : BfsI g 0 [0] := by
  have : 0 < g.length := List.length_pos_iff.2 hg
  exact ⟨by simp, fun k hk => by simp at hk; omega, rfl, fun k hk => .inl (by simpa using hk), fun a k ha => by omega⟩
theorem bfs_ok {g : List Node} (hg : g ≠ []) : (bfs g).Nodup ∧ (∀ k ∈ bfs g, k < g.length) ∧ 0 ∈ bfs g ∧ (∀ k ∈ bfs g, k = 0 ∨ ∃ p ∈ bfs g, Leads g p k) ∧ ∀ k ∈ bfs g, ∀ j, j < g.length → Leads g k j → j ∈ bfs g := by
  unfold bfs
  rw [if_neg hg]
  obtain ⟨n, hn, h⟩ := bfsGo_ok (g.length + 1) 0 [0] (BfsI.start hg) (by simp) (by omega)
  refine ⟨h.nodup, h.lt, List.mem_of_getElem? h.root, h.from_, fun k hk j hj hl => ?_⟩
  obtain ⟨a, ha, he⟩ := List.mem_iff_getElem.1 hk
  exact h.done a k (by omega) (by rw [List.getElem?_eq_getElem ha, he]) j hj hl
def keyIx (g : List Node) (k : NKey) : Option Nat := g.findIdx? fun y => decide (y.key = k)
structure NodeOk (g : List Node) (i : Nat) (x : Node) : Prop where
  ctx : Rises x.ctx
  find : i ≠ 0 → keyIx g x.key = some i
  rise : RiseN Edge.name x.edges
  to : ∀ e ∈ x.edges, ∃ (j : Nat) (y : Node), e.to = (j : Int) ∧ 1 ≤ j ∧ g[j]? = some y ∧ y.name = e.name
structure Formed (g : List Node) : Prop where
  len : 1 ≤ g.length ∧ g.length ≤ 128
  root : ∃ x, g[0]? = some x ∧ x.key = rootNode.key
  nodes : ∀ i x, g[i]? = some x → NodeOk g i x
  reach : (bfs g).length = g.length
def edgeTo (g : List Node) (x : Node) (n : ByteArray) : Option Node := (x.edges.find? fun e => decide (e.name = n)).bind fun e => g[e.to.toNat]?
def envPins (g : List Node) (x : Node) : List Pin := x.edges.filterMap fun e => (g[e.to.toNat]?).map fun y => ⟨e.name, y.v⟩
def envGo : List Pin → List Pin → Option (List Pin)
  | out, [] => some out
  | out, x :: r => match out.find? (isN x.name) with
    | none => envGo (out ++ [x]) r
    | some y => if y = x then envGo out r else none
def envOf (g : List Node) (x : Node) : Option (List Pin) := (envGo x.ctx (envPins g x)).map sortN
structure SoundAt (L : List Pack) (over : List Dep) (g : List Node) (ws : List Want) (x : Node) : Prop where
  own : ∀ w ∈ ws, (edgeTo g x w.name = none → w.kind ≠ 1) ∧ ∀ y, edgeTo g x w.name = some y → spansIn w.range y.v = true
  ctx : ∀ p ∈ x.ctx, ∃ y, edgeTo g x p.name = some y ∧ y.v = p.v
  env : ∃ env, envOf g x = some env ∧ ∀ e ∈ x.edges, (e.name ∈ ws.map Want.name ∨ e.name ∈ x.ctx.map Pin.name) ∧ ∃ y, g[e.to.toNat]? = some y ∧ ctxRes L over env ⟨y.name, y.v⟩ = some y.ctx
structure Sol (q : Quest) (g : List Node) : Prop where
  formed : Formed g
  there : ∀ i x, g[i]? = some x → i ≠ 0 → (getL q.L x.name x.v).isSome = true
  nodes : ∀ i x, g[i]? = some x → SoundAt q.L q.m.over g (q.wants g i) x
open Classical in
noncomputable def checkOf (q : Quest) (g : List Node) : Int := if maniMay q.m = true then (if Sol q g then 0 else 33) else 1
theorem envGo_ok : ∀ (r out : List Pin), (∀ x ∈ r, ∀ y ∈ out, y.name = x.name → y = x) → (r.map (·.name)).Nodup → ∃ t, envGo out r = some (out ++ t) ∧ (∀ x ∈ t, x ∈ r) ∧ (∀ x ∈ r, x ∈ out ++ t) ∧ ((out.map (·.name)).Nodup → ((out ++ t).map (·.name)).Nodup)
  | [], out, _, _ => ⟨[], by simp [envGo], (fun x h => by cases h), (fun x h => by cases h), by simp⟩
  | x :: r, out, h, hn => by
    simp only [List.map_cons, List.nodup_cons] at hn
    unfold envGo
    cases hf : out.find? (isN x.name) with
    | none =>
      have hno : ∀ y ∈ out, y.name ≠ x.name := fun y hy => by simpa [isN] using List.find?_eq_none.1 hf y hy
      obtain ⟨t, h1, h2, h3, h4⟩ := envGo_ok r (out ++ [x]) (fun x' hx' y hy he => by
        rcases List.mem_append.1 hy with hy | hy
        · exact h x' (.tail _ hx') y hy he
        · simp only [List.mem_singleton] at hy
          subst hy
          exact absurd (List.mem_map_of_mem (f := (·.name)) hx') (by rw [← he]; exact hn.1)) hn.2
      refine ⟨x :: t, by dsimp only; rw [h1]; simp, fun y hy => ?_, fun y hy => ?_, fun hnd => ?_⟩
      · rcases List.mem_cons.1 hy with rfl | hy
        · exact .head _
        · exact .tail _ (h2 y hy)
      · rcases List.mem_cons.1 hy with rfl | hy
        · simp
        · have := h3 y hy; simpa using this
      · have := h4 (by
          rw [List.map_append, List.nodup_append]
          refine ⟨hnd, by simp, fun a ha b hb => ?_⟩
          obtain ⟨y, hy, rfl⟩ := List.mem_map.1 ha
          simp at hb; subst hb
          exact hno y hy)
        simpa using this
    | some y =>
      have h1 := List.find?_some hf
      simp only [isN, decide_eq_true_eq] at h1
      have hy := List.mem_of_find?_eq_some hf
      have hyx := h x (.head _) y hy h1
      dsimp only
      rw [if_pos hyx]
      obtain ⟨t, q1, q2, q3, q4⟩ := envGo_ok r out (fun x' hx' => h x' (.tail _ hx')) hn.2
      refine ⟨t, q1, fun z hz => .tail _ (q2 z hz), fun z hz => ?_, q4⟩
      rcases List.mem_cons.1 hz with rfl | hz
      · rw [← hyx]; exact List.mem_append_left _ hy
      · exact q3 z hz
theorem edgeTo_some {g : List Node} {x y : Node} {n : ByteArray} (h : edgeTo g x n = some y) : ∃ e ∈ x.edges, e.name = n ∧ g[e.to.toNat]? = some y := by
  unfold edgeTo at h
  obtain ⟨e, h1, h2⟩ := Option.bind_eq_some_iff.1 h
  exact ⟨e, List.mem_of_find?_eq_some h1, by simpa using List.find?_some h1, h2⟩
theorem edgeTo_of {g : List Node} {x y : Node} (hr : RiseN Edge.name x.edges) {e : Edge} (he : e ∈ x.edges) (hy : g[e.to.toNat]? = some y) : edgeTo g x e.name = some y := by
  unfold edgeTo
  cases hf : x.edges.find? fun e' => decide (e'.name = e.name) with
  | none => simpa using List.find?_eq_none.1 hf e he
  | some e' =>
    have h1 := List.find?_some hf
    simp only [decide_eq_true_eq] at h1
    have := hr.inj (List.mem_of_find?_eq_some hf) he h1
    subst this
    exact hy
end Go.Hal
namespace Go.Hal
def npin (x : Node) : Pin := ⟨x.name, x.v⟩
def cPin (a b : Pin) : Int := or2 (cmpS a.name b.name) (a.v.cmp b.v)
theorem cPin_ord : Ord3 cPin := (cmpS_ord Pin.name).or (Ver.cmp_ord.comap Pin.v)
theorem cPin_zero {a b : Pin} : cPin a b = 0 ↔ a = b := by
  obtain ⟨n, v⟩ := a
  obtain ⟨m, u⟩ := b
  show or2 (cmpS n m) (v.cmp u) = 0 ↔ _
  unfold or2
  by_cases h : cmpS n m = 0
  · rw [if_pos h, Ver.cmp_eq]
    have := cmpS_zero.1 h
    subst this
    exact ⟨fun h => by rw [h], fun h => (Pin.mk.inj h).2⟩
  · rw [if_neg h]
    exact ⟨fun h' => absurd h' h, fun h' => absurd (cmpS_zero.2 (Pin.mk.inj h').1) h⟩
def StrictL {α : Type} (c : α → α → Int) (l : List α) : Prop := l.Pairwise fun a b => c a b < 0
theorem StrictL.nodup {α : Type} {c : α → α → Int} (hc : Ord3 c) {l : List α} (h : StrictL c l) : l.Nodup := by
  rw [List.nodup_iff_pairwise_ne]
  refine h.imp fun {a b} h e => ?_
  subst e
  have := (hc.flip a a).1 h
  omega
theorem StrictL.one {α : Type} {c : α → α → Int} (hc : Ord3 c) {l m : List α} (h1 : StrictL c l) (h2 : StrictL c m) (hm : ∀ x, x ∈ l ↔ x ∈ m) : l = m :=
  sorted_one (fun x y h k => by have := (hc.flip x y).1 h; omega) h1 h2 ((List.perm_ext_iff_of_nodup (h1.nodup hc) (h2.nodup hc)).2 hm)
theorem StrictL.of {α : Type} {c : α → α → Int} (hc : Ord3 c) (h0 : ∀ {a b}, c a b = 0 → a = b) {l : List α} (hn : l.Nodup) (hs : l.Pairwise fun x y => ¬ c y x < 0) : StrictL c l := by
  rw [List.nodup_iff_pairwise_ne] at hn
  refine (hn.and hs).imp fun {a b} ⟨h1, h2⟩ => ?_
  have h3 : c a b ≠ 0 := fun h => h1 (h0 h)
  have h4 := hc.flip b a
  omega
structure AtC {α : Type} (c : α → α → Int) (l : List α) (x : α) (i : Nat) : Prop where
  le : i ≤ l.length
  lo : ∀ k (h : k < l.length), k < i → c l[k] x < 0
  hi : ∀ h : i < l.length, ¬ c l[i] x < 0
theorem AtC.ins {α : Type} {c : α → α → Int} (hc : Ord3 c) (h0 : ∀ {a b}, c a b = 0 → a = b) {l : List α} {x : α} {i : Nat} (h : AtC c l x i) (hl : StrictL c l) (hne : ∀ h : i < l.length, l[i] ≠ x) : StrictL c (l.take i ++ x :: l.drop i) := by
  have hd : ∀ y ∈ l.drop i, c x y < 0 := fun y hy => by
    obtain ⟨j, hj, rfl⟩ := List.mem_iff_getElem.1 hy
    rw [List.length_drop] at hj
    rw [List.getElem_drop]
    have hil : i < l.length := by omega
    have h1 := h.hi hil
    have h2 : c l[i] x ≠ 0 := fun e => hne hil (h0 e)
    have h3 := hc.flip x l[i]
    have h4 : c x l[i] < 0 := h3.2 (by omega)
    rcases Nat.eq_zero_or_pos j with rfl | hj0
    · exact h4
    · exact hc.lt_of h4 (Int.le_of_lt (List.pairwise_iff_getElem.1 hl i (i + j) hil (by omega) (by omega)))
  refine List.pairwise_append.2 ⟨hl.sublist (List.take_sublist _ _), List.pairwise_cons.2 ⟨hd, hl.sublist (List.drop_sublist _ _)⟩, fun a ha b hb => ?_⟩
  have ha' : c a x < 0 := by
    obtain ⟨j, hj, rfl⟩ := List.mem_iff_getElem.1 ha
    rw [List.length_take] at hj
    rw [List.getElem_take]
    exact h.lo j (by omega) (by omega)
  rcases List.mem_cons.1 hb with rfl | hb
  · exact ha'
  · exact hc.lt_of ha' (Int.le_of_lt (hd b hb))
theorem mem_ins {α : Type} {l : List α} {x y : α} {i : Nat} : y ∈ l.take i ++ x :: l.drop i ↔ y ∈ l ∨ y = x := by
  conv => rhs; rw [← List.take_append_drop i l]
  simp only [List.mem_append, List.mem_cons]
  constructor
  · rintro (h | h | h)
    · exact .inl (.inl h)
    · exact .inr h
    · exact .inl (.inr h)
  · rintro ((h | h) | h)
    · exact .inl h
    · exact .inr (.inr h)
    · exact .inr (.inl h)
def PinsAre (g : List Node) (l : List Pin) : Prop := StrictL cPin l ∧ ∀ y, y ∈ l ↔ y ∈ (g.drop 1).map npin
theorem PinsAre.one {g : List Node} {l m : List Pin} (h : PinsAre g l) (k : PinsAre g m) : l = m := h.1.one cPin_ord k.1 fun x => (h.2 x).trans (k.2 x).symm
theorem cmpI_lt {a b : Int} : cmpI a b < 0 ↔ a < b := by
  rcases cmpI_cases a b with ⟨h1, h2⟩ | ⟨h1, h2⟩ | ⟨h1, h2⟩ <;> rw [h1] <;> omega
def ReachAre (g : List Node) (l : List Int) : Prop := StrictL cmpI l ∧ ∀ y, y ∈ l ↔ ∃ k ∈ bfs g, y = (k : Int)
theorem bfs_nodup (g : List Node) : (bfs g).Nodup := by
  by_cases h : g = []
  · unfold bfs; rw [if_pos h]; exact List.nodup_nil
  · exact (bfs_ok h).1
theorem ReachAre.of_perm {g : List Node} {l : List Int} (hp : l.Perm ((bfs g).map fun k : Nat => (k : Int))) (hs : l.Pairwise (· ≤ ·)) : ReachAre g l := by
  have hn : ((bfs g).map fun k : Nat => (k : Int)).Nodup := by
    rw [List.nodup_iff_pairwise_ne, List.pairwise_map]
    have := bfs_nodup g
    rw [List.nodup_iff_pairwise_ne] at this
    exact this.imp fun {a b} h e => h (by omega)
  refine ⟨.of cmpI_ord (fun h => cmpI_eq.1 h) (hp.nodup_iff.2 hn) (hs.imp fun {a b} h => ?_), fun y => ?_⟩
  · rw [cmpI_lt]; omega
  · rw [hp.mem_iff, List.mem_map]
    exact ⟨fun ⟨k, h1, h2⟩ => ⟨k, h1, h2.symm⟩, fun ⟨k, h1, h2⟩ => ⟨k, h1, h2.symm⟩⟩
theorem ReachAre.len {g : List Node} {l : List Int} (h : ReachAre g l) : l.length = (bfs g).length := by
  have hn : ((bfs g).map fun k : Nat => (k : Int)).Nodup := by
    rw [List.nodup_iff_pairwise_ne, List.pairwise_map]
    have := bfs_nodup g
    rw [List.nodup_iff_pairwise_ne] at this
    exact this.imp fun {a b} h e => h (by omega)
  have hp : l.Perm ((bfs g).map fun k : Nat => (k : Int)) := (List.perm_ext_iff_of_nodup (h.1.nodup cmpI_ord) hn).2 fun y => by
    rw [h.2, List.mem_map]
    exact ⟨fun ⟨k, h1, h2⟩ => ⟨k, h1, h2.symm⟩, fun ⟨k, h1, h2⟩ => ⟨k, h1, h2.symm⟩⟩
  rw [hp.length_eq, List.length_map]
theorem ReachAre.filter (g : List Node) : ReachAre g (((List.range g.length).filter fun k => decide (k ∈ bfs g)).map fun k : Nat => (k : Int)) := by
  refine ⟨?_, fun y => ?_⟩
  · unfold StrictL
    rw [List.pairwise_map]
    refine (List.Pairwise.filter _ (List.pairwise_lt_range (n := g.length))).imp fun {a b} h => ?_
    rw [cmpI_lt]; omega
  · simp only [List.mem_map, List.mem_filter, List.mem_range, decide_eq_true_eq]
    constructor
    · rintro ⟨k, ⟨_, h⟩, rfl⟩; exact ⟨k, h, rfl⟩
    · rintro ⟨k, h, rfl⟩
      refine ⟨k, ⟨?_, h⟩, rfl⟩
      by_cases hg : g = []
      · unfold bfs at h; rw [if_pos hg] at h; cases h
      · exact (bfs_ok hg).2.1 k h
theorem bfsGo_end {g : List Node} {f i : Nat} {out : List Nat} (h : out[i]? = none) : bfsGo g (f + 1) i out = out := by
  unfold bfsGo; rw [h]
theorem bfsGo_next {g : List Node} {f i k : Nat} {out : List Nat} (h : out[i]? = some k) : bfsGo g (f + 1) i out = bfsGo g f (i + 1) ((edgesAt g k).foldl (stepB g.length) out) := by
  conv => lhs; unfold bfsGo
  rw [h]
theorem mem_envPins {g : List Node} {x : Node} {p : Pin} : p ∈ envPins g x ↔ ∃ e ∈ x.edges, ∃ y, g[e.to.toNat]? = some y ∧ p = ⟨e.name, y.v⟩ := by
  unfold envPins
  simp only [List.mem_filterMap, Option.map_eq_some_iff]
  constructor
  · rintro ⟨e, he, y, hy, rfl⟩; exact ⟨e, he, y, hy, rfl⟩
  · rintro ⟨e, he, y, hy, rfl⟩; exact ⟨e, he, y, hy, rfl⟩
theorem envPins_rise {g : List Node} {x : Node} (hr : RiseN Edge.name x.edges) : Rises (envPins g x) := by
  unfold envPins Rises
  rw [List.pairwise_filterMap]
  refine hr.imp fun {a b} h p hp q hq => ?_
  simp only [Option.map_eq_some_iff] at hp hq
  obtain ⟨y, _, rfl⟩ := hp
  obtain ⟨z, _, rfl⟩ := hq
  exact h
theorem envOf_full {g : List Node} {x : Node} (hc : Rises x.ctx) (hr : RiseN Edge.name x.edges) (h : ∀ p ∈ x.ctx, ∃ y, edgeTo g x p.name = some y ∧ y.v = p.v) : envOf g x = some (envPins g x) := by
  have hsub : ∀ p ∈ x.ctx, p ∈ envPins g x := fun p hp => by
    obtain ⟨y, h1, h2⟩ := h p hp
    obtain ⟨e, h3, h4, h5⟩ := edgeTo_some h1
    exact mem_envPins.2 ⟨e, h3, y, h5, by rw [h4, h2]⟩
  have hrise := envPins_rise (g := g) hr
  obtain ⟨t, h1, h2, h3, h4⟩ := envGo_ok (envPins g x) x.ctx (fun a ha b hb he => by
    have hb' := hsub b hb
    exact RiseN.inj (f := Pin.name) hrise hb' ha he) hrise.nodup
  unfold envOf
  rw [h1, Option.map_some, Option.some.injEq]
  refine (sortN_rises (h4 hc.nodup)).eq_of_mem hrise fun p => ?_
  rw [(sortN_perm _).mem_iff]
  constructor
  · intro hp
    rcases List.mem_append.1 hp with hp | hp
    · exact hsub p hp
    · exact h2 p hp
  · exact h3 p
end Go.Hal
namespace Go.Hal
open Go Go.RowKit Go.Proofs Go.Shelf
theorem newS.set {w : World} {zs cs : List Value} {t : TypeId} {k : Addr → World → Prop} (hl : cs.length = zs.length) (h : ∀ a w', Ext w w' → BoxAt w' a cs → a.block = w.heap.size → k a w') : newS w zs t fun a w1 => stw w1 a cs fun w2 => k a w2 :=
  newS.intro fun a w1 x1 ha hab hsz => stw0.intro ha (by omega) fun w2 b2 hz ha2 => h a w2 (b2.ext x1 (by omega)) (by rw [hl, List.drop_length, List.append_nil] at ha2; exact ha2) hab
theorem loop1.from1 {w : World} {body : Int → World → (Int → World → Prop) → Prop} {N : Nat} (hN : N ≤ maxLen) (I : Nat → World → Prop) (h0 : I 1 w)
    (hs : ∀ (n : Nat) w' (nxt : Int → World → Prop), 1 ≤ n → (n ≤ N ∨ n = 1) → I n w' → (n < N → ∀ w'', I (n + 1) w'' → nxt (wrapI ((n : Int) + 1)) w'') → body n w' nxt) : loop1 1 w body :=
  loop1.ghost (fun m i w' => ∃ n : Nat, i = (n : Int) ∧ 1 ≤ n ∧ (n ≤ N ∨ n = 1) ∧ m = N - n ∧ I n w') (N - 1) ⟨1, rfl, Nat.le_refl _, .inr rfl, rfl, h0⟩ fun m i w' nxt ⟨n, hi, h1, h2, hm, hI⟩ hn => by
    subst hi
    refine hs n w' nxt h1 h2 hI fun hlt w'' hI' => ?_
    refine hn (N - (n + 1)) _ w'' (by omega) ⟨n + 1, ?_, by omega, .inl hlt, rfl, hI'⟩
    rw [maxLen_eq] at hN
    rw [wrapI_eq (by omega) (by omega)]; omega
theorem wrap_pred {i N : Nat} (h1 : 1 ≤ i) (h2 : i < N) (hN : N ≤ maxLen) : wrapI ((i : Int) - 1) = ((i - 1 : Nat) : Int) := by
  rw [maxLen_eq] at hN
  rw [wrapI_eq (by omega) (by omega)]; omega
theorem rise_step {α : Type} {f : α → ByteArray} {l : List α} {i : Nat} (h1 : 1 ≤ i) (hi : i < l.length) (hI : RiseN f (l.take i)) (h : bLt (f l[i - 1]) (f l[i]) = true) : RiseN f (l.take (i + 1)) := by
  have e : l.take i = l.take (i - 1) ++ [l[i - 1]] := by
    have := List.take_succ_eq_append_getElem (l := l) (i := i - 1) (by omega)
    rwa [Nat.sub_add_cancel h1] at this
  rw [List.take_succ_eq_append_getElem hi, e]
  rw [e] at hI
  exact riseN_snoc hI h
theorem rise_not {α : Type} {f : α → ByteArray} {l : List α} {i : Nat} (h1 : 1 ≤ i) (hi : i < l.length) (h : bLt (f l[i - 1]) (f l[i]) = false) : ¬ RiseN f l := fun hr => by
  have := List.pairwise_iff_getElem.1 hr (i - 1) i (by omega) hi (by omega)
  rw [h] at this; cases this
theorem rise_one {α : Type} {f : α → ByteArray} {l : List α} : RiseN f (l.take 1) := by
  cases l with
  | nil => exact .nil
  | cons a r => exact List.pairwise_singleton _ _
theorem rises_se {s : Sl} {l : List Pin} {S : Nat → Prop} {w : World} {R : Bool → World → Prop} (hs : SlR pinE w S s l) (hR : ∀ (b : Bool) w', Ext w w' → (b = true ↔ Rises l) → R b w') : SE.graph_rises s w R := by
  unfold SE.graph_rises
  have hl := hs.len
  have hm := hs.max
  refine loop1.from1 hm (fun i w' => Ext w w' ∧ RiseN Pin.name (l.take i)) ⟨Ext.refl _, rise_one⟩ fun i w1 nxt h1 hi ⟨x1, hI⟩ hn => ⟨fun hlt => bnd.drew fun w2 x2 => ?_, fun hge => ?_⟩
  · have hlt' : i < l.length := by omega
    obtain ⟨ad, ha, _, _, hc⟩ := pinEl hs (n := i - 1) (by omega)
    obtain ⟨ad2, ha2, _, _, hc2⟩ := pinEl hs hlt'
    rw [wrap_pred h1 hlt' hm]
    refine ⟨ad, ⟨ha, by omega, by omega⟩, _, (hc _ (by (repeat (first | assumption | exact Ext.refl _ | refine Ext.trans ?_ (by assumption))))).pre rfl, ad2, ⟨ha2, by omega, hlt⟩, _, (hc2 _ (by (repeat (first | assumption | exact Ext.refl _ | refine Ext.trans ?_ (by assumption))))).pre rfl, fun h => ?_, fun h => ?_⟩
    · exact hR false w2 (by (repeat (first | assumption | exact Ext.refl _ | refine Ext.trans ?_ (by assumption)))) ⟨(fun h => by cases h), fun hr => absurd hr (rise_not h1 hlt' (by simpa using h))⟩
    · exact hn hlt' _ ⟨by (repeat (first | assumption | exact Ext.refl _ | refine Ext.trans ?_ (by assumption))), rise_step h1 hlt' hI (by simpa using h)⟩
  · rw [List.take_of_length_le (by omega)] at hI
    exact hR true w1 x1 ⟨fun _ => hI, fun _ => rfl⟩
def ToOk (g : List Node) (x : Node) : Prop := ∀ e ∈ x.edges, 0 ≤ e.to ∧ e.to < (g.length : Int)
theorem at_nat {s : Sl} {w : World} {S : Nat → Prop} {g : List Node} (hs : SlR nodeE w S s g) {t : Int} (h0 : 0 ≤ t) (h1 : t < (g.length : Int)) : ∃ (n : Nat) (hn : n < g.length), t = (n : Int) ∧ t.toNat = n ∧ g[t.toNat]? = some g[n] :=
  ⟨t.toNat, by omega, by omega, rfl, List.getElem?_eq_getElem (by omega)⟩
theorem edge_se {s : Sl} {g : List Node} {k : Nat} {x : Node} {n : ByteArray} {S : Nat → Prop} {w : World} {R : ByteArray → Int → Int → Int → Sl → Sl → Bool → World → Prop} (hs : SlR nodeE w S s g) (hk : g[k]? = some x) (hv : ToOk g x)
    (h1 : ∀ y c e w', Ext w w' → edgeTo g x n = some y → R y.name y.v.ma y.v.mi y.v.pa c e true w') (h0 : ∀ w', Ext w w' → edgeTo g x n = none → R ⟨#[]⟩ 0 0 0 Sl.nil Sl.nil false w') : SE.graph_edge s (k : Int) n w R := by
  unfold SE.graph_edge
  have hsl := hs.len
  obtain ⟨hkl, rfl⟩ := List.getElem?_eq_some_iff.1 hk
  obtain ⟨ad, c, e, ha, _, _, he, hc⟩ := nodeEl hs hkl
  have hel := he.len
  refine newS.intro fun a w1 x1 hb1 _ _ => newS.intro fun a1 w2 x2 hb2 hab _ => ?_
  have x02 := x1.trans x2
  have s1 := x1.size
  refine ⟨s, hb1.at0 (r := []) x2 rfl, ad, ⟨ha, by omega, by omega⟩, e, (hc _ x02).mid (k := 5) (r := []) rfl, ?_⟩
  refine loop1.up he.max (fun i w' => Ext w2 w' ∧ (g[k].edges.take i).find? (fun e => decide (e.name = n)) = none) ⟨Ext.refl _, rfl⟩ fun i w3 nxt hi ⟨x3, hI⟩ hn => ⟨fun hlt => ?_, fun hge => ?_⟩
  · have hlt' : i < g[k].edges.length := by omega
    obtain ⟨ae, hae, hce⟩ := edgeEl he hlt'
    refine ⟨ae, ⟨hae, by omega, hlt⟩, _, _, hce _ (by (repeat (first | assumption | exact Ext.refl _ | refine Ext.trans ?_ (by assumption)))), newS.set rfl fun a8 w4 x4 hb4 _ => ⟨_, hb4.at0 (Ext.refl _) rfl, fun hq => ?_, fun hq => ?_⟩⟩
    · obtain ⟨t0, t1⟩ := hv _ (List.getElem_mem hlt')
      obtain ⟨m, hm, e1, e2, e3⟩ := at_nat hs t0 t1
      obtain ⟨ad2, c2, g2, ha2, _, _, _, hc2⟩ := nodeEl hs hm
      have x04 : Ext w w4 := by (repeat (first | assumption | exact Ext.refl _ | refine Ext.trans ?_ (by assumption)))
      refine ⟨s, hb1.at0 (r := []) (x2.trans (x3.trans x4)) rfl, _, hb4.at1 (k := 1) (r := []) (Ext.refl _) rfl, ad2, ⟨ha2, by omega, by omega⟩, _, _, _, _, _, _, by rw [e2]; exact hc2 _ x04, ?_⟩
      refine stw0.intro (hb2.ext (x3.trans x4)) (by simp) fun w5 b5 _ hb5 => ⟨_, _, _, _, _, _, hb5.ldc.pre (r := []) rfl, h1 g[m] _ _ w5 (b5.ext x04 (by omega)) ?_⟩
      have hf := find_hit hlt' hI (decide_eq_true hq)
      unfold edgeTo
      rw [hf]; exact e3
    · refine hn hlt' _ ⟨by (repeat (first | assumption | exact Ext.refl _ | refine Ext.trans ?_ (by assumption))), ?_⟩
      rw [take_find_succ hlt' hI, decide_eq_false hq]; rfl
  · rw [List.take_of_length_le (by omega)] at hI
    have x03 : Ext w w3 := by (repeat (first | assumption | exact Ext.refl _ | refine Ext.trans ?_ (by assumption)))
    refine stw0.intro (hb2.ext x3) (by simp) fun w5 b5 _ hb5 => ⟨_, _, _, _, _, _, hb5.ldc.pre (r := []) rfl, h0 w5 (b5.ext x03 (by omega)) ?_⟩
    unfold edgeTo
    rw [hI]; rfl
def keyI (g : List Node) (k : NKey) : Int := match keyIx g k with
  | some i => i
  | none => -1
theorem find1_se {y : Node} {n : ByteArray} {v : Ver} {l : List Pin} {cy ey t : Sl} {c0 c1 c2 : Addr} {S T : Nat → Prop} {w : World} {R : Bool → World → Prop} (h0 : BoxAt w c0 [.string n]) (h1 : BoxAt w c1 v.c) (h2 : BoxAt w c2 [t.v]) (hy : SlR pinE w S cy y.ctx) (ht : SlR pinE w T t l)
    (hR : ∀ w', Ext w w' → R (decide (y.key = (n, v, l))) w') : SE.graph_Find_1 y.name y.v.ma y.v.mi y.v.pa cy ey c0 c1 c2 w R := by
  unfold SE.graph_Find_1
  have e : decide (y.key = (n, v, l)) = (bEq y.name n && decide (y.v = v) && decide (y.ctx = l)) := by
    rw [Bool.eq_iff_iff]
    simp only [Node.key, decide_eq_true_eq, Prod.mk.injEq, Bool.and_eq_true, bEq_iff]
    exact ⟨fun ⟨a, b, c⟩ => ⟨⟨a, b⟩, c⟩, fun ⟨⟨a, b⟩, c⟩ => ⟨a, b, c⟩⟩
  rw [e] at hR
  refine newS.intro fun a w1 x1 hb _ _ => ⟨_, hb.at0 (Ext.refl _) rfl, _, h0.at0 (r := []) x1 rfl, bound ⟨_, _, _, fun _ => hb.at1 (k := 1) (Ext.refl _) rfl, _, _, _, fun _ => h1.at0 (r := []) x1 rfl, bound ?_⟩⟩
  have ev : ((y.v.ma == v.ma) && ((y.v.mi == v.mi) && ((y.v.pa == v.pa) && true))) = decide (y.v = v) := verB
  rw [ev]
  refine ⟨cy, fun _ => hb.at1 (k := 4) (Ext.refl _) rfl, t, fun _ => h2.at0 (r := []) x1 rfl, ?_⟩
  refine gCall.intro (decide (y.ctx = l)) (fun _ q hq => SE.slices_Equal_apiPinapiPin.go (eqPins_se (hy.ext x1) (ht.ext x1) fun w' hx => ⟨_, rfl, hq _ hx⟩)) fun t w2 x2 ht => ?_
  have h3 := hR w2 (x1.trans x2)
  cases hg : (bEq y.name n && decide (y.v = v))
  · rw [hg] at h3; exact h3
  · rw [hg] at h3 ht
    rw [ht rfl]; exact h3
theorem entersFind1 : Enters Tryz.prog 67 := enters_of Tryz.func67 (by kernel_rfl) rfl
theorem find_se {s t : Sl} {g : List Node} {n : ByteArray} {v : Ver} {l : List Pin} {S T : Nat → Prop} {w : World} {R : Int → World → Prop} (hs : SlR nodeE w S s g) (ht : SlR pinE w T t l) (hR : ∀ w', Ext w w' → R (keyI g (n, v, l)) w') : SE.graph_Find s n v.ma v.mi v.pa t w R := by
  unfold SE.graph_Find
  refine newS.intro fun a w1 x1 hb1 _ _ => newS.intro fun a1 w2 x2 hb2 _ _ => newS.intro fun a3 w3 x3 hb3 _ _ => newS.intro fun a5 w4 x4 hb4 _ _ => ?_
  have x04 : Ext w w4 := by (repeat (first | assumption | exact Ext.refl _ | refine Ext.trans ?_ (by assumption)))
  refine ⟨s, hb1.at0 (r := []) (x2.trans (x3.trans x4)) rfl, SE.slices_IndexFunc_apiNodeapiNode.go (idxNode_se (p := fun y => decide (y.key = (n, v, l))) (hs.ext x04) (fun y _ c' e' w5 k x5 hcy hk => ⟨_, _, rfl, entersFind1, SE.graph_Find_1.go (find1_se (hb2.ext (x3.trans (x4.trans x5))) (hb3.ext (x4.trans x5)) (hb4.ext x5) hcy ((ht.ext x04).ext x5) hk)⟩) fun w6 x6 => ⟨_, rfl, ?_⟩)⟩
  exact hR w6 (x04.trans x6)
theorem env1_se {q : Pin} {n : ByteArray} {to : Int} {c0 : Addr} {w : World} {R : Bool → World → Prop} (hc : BoxAt w c0 [.string n, .int .i64 to]) (hR : ∀ w', Ext w w' → R (isN n q) w') : SE.graph_environment_1 q.name q.v.ma q.v.mi q.v.pa c0 w R := by
  unfold SE.graph_environment_1
  refine newS.intro fun a w1 x1 hb _ _ => ⟨_, hb.at0 (Ext.refl _) rfl, n, hc.at0 x1 rfl, ?_⟩
  have e : bEq q.name n = isN n q := by
    unfold isN
    rw [Bool.eq_iff_iff, bEq_iff, decide_eq_true_eq]
  rw [e]; exact hR _ x1
theorem entersEnv1 : Enters Tryz.prog 199 := enters_of Tryz.func199 (by kernel_rfl) rfl
theorem env2_gr {a b : Pin} {w : World} {R : Int → World → Prop} (hR : ∀ w', Gr w w' → R (cmpS a.name b.name) w') : SE.graph_environment_2 a.name a.v.ma a.v.mi a.v.pa b.name b.v.ma b.v.mi b.v.pa w R := by
  unfold SE.graph_environment_2
  refine newS.gr fun _ w1 x1 hb => newS.gr fun _ w2 x2 hb2 => ⟨_, Gr.at0 hb x2 rfl, _, Gr.at0 hb2 (Gr.refl _) rfl, strCmp_k ⟨_, rfl, hR _ (x1.trans x2)⟩⟩
theorem entersEnv2 : Enters Tryz.prog 200 := enters_of Tryz.func200 (by kernel_rfl) rfl
theorem sortPinE_k {w : World} {lo : Nat} {s : Sl} {l : List Pin} {K : Value → World → Prop} (h : FlatO pinC 40 w lo s l) (hlo : lo ≤ w.heap.size) (hn : (l.map (·.name)).Nodup)
    (hK : ∀ w', Below lo w w' → FlatO pinC 40 w' lo s (sortN l) → K (.tuple #[]) w') :
    callS Tryz.prog 72 [Sl.v s, .func (.func 200) #[] #[]] w K := by
  obtain ⟨h1, h2, h3, h4, h5⟩ := h
  obtain ⟨a, n, c⟩ := s
  simp only at h1 h2 h3 h5
  subst h1
  rcases h5 with rfl | ⟨g, tail, ha, hg, hr⟩
  · refine (AnyF.slices_SortFunc_none Tryz.laySp a c _ w).mono fun e w' ⟨he, hw⟩ => ⟨_, he, ?_⟩
    subst hw
    exact hK _ (Below.refl _ _) ⟨rfl, h2, h3, h4, .inl rfl⟩
  · subst ha
    have hO := cmpS_ord (α := Pin) (·.name)
    refine sortFunc_k Tryz.laySp (k := 4) isAggP sizeOfP (f := pinC) (fun _ => rfl) (fun x v hv => by simp [pinC] at hv; rcases hv with rfl | rfl | rfl | rfl <;> rfl) (fun a b => cmpS a.name b.name) (swo_ltOf hO.flip hO.trans) 200 #[] entersEnv2 (fun w0 x y hb _ => ?_) hr (by unfold room at h4; omega) rfl fun l' w' hp hs b hr' => ?_
    · have h := SE.graph_environment_2.go (k := fun v w' => v = .int .i64 (cmpS x.name y.name) ∧ Gr w0 w') (env2_gr (a := x) (b := y) (w := w0) fun w' h => ⟨rfl, h⟩)
      exact Calls.mono h fun e w' ⟨v, he, hv, hg⟩ => ⟨by rw [he, hv], hg⟩
    · have e : l' = sortN l := by
        refine Rises.one ?_ (sortN_rises hn) (hp.trans (sortN_perm l).symm)
        have hn' : (l'.map (·.name)).Nodup := (hp.map _).nodup_iff.2 hn
        rw [List.nodup_iff_pairwise_ne, List.pairwise_map] at hn'
        exact (hs.and hn').imp fun {a b} h => bLt_of (by have := hO.flip b a; have := hO.flip a b; omega) h.2
      subst e
      have hl := (sortN_perm l).length_eq
      exact hK w' (b.below hlo hg) ⟨hl.symm, by rw [hl]; exact h2, h3, by rw [hl]; exact h4, .inr ⟨g, tail, rfl, hg, hr'⟩⟩
end Go.Hal
namespace Go.Hal
open Go Go.RowKit Go.Proofs Go.MapKept
def intV (v : Value) : Prop := ∃ x : Int, v = .int .i64 x
theorem intT : KeyT Tryz.prog 127 intV (.int .i64 0) where
  und := ⟨3, 3, Tryz.underlying127, Tryz.zeroValue3, fun k ⟨x, h⟩ e w => by subst h; exact run_checkKey (d := .int .i64) (k := .int .i64 x) Tryz.underlying3 rfl e 9999, fun k ⟨x, h⟩ l hl w => by
    subst h
    rcases findNow_spec (d := .int .i64) (k := .int .i64 x) rfl l 0 (fun y hy => by obtain ⟨t, ht⟩ := hl y hy; rw [ht]; rfl) with ⟨h1, h2⟩ | ⟨j, e, h1, h2, h3⟩
    · exact .inl ⟨h2, run_findKey Tryz.underlying3 h1⟩
    · exact .inr ⟨j, e, h2, h3, run_findKey Tryz.underlying3 (by rw [Nat.zero_add] at h1; exact h1)⟩⟩
  stay := fun k ⟨x, h⟩ => by subst h; exact sameBits_self (d := .int .i64) (k := .int .i64 x) rfl _
end Go.Hal
/-
  DERIVED: THE SHELF's CONTRACTS AT THIS DUMP, IN PLAIN WORDS (tools/lay-plain.mjs out of 'YtlnneokngjfbbaaGreatDoorLay5.lean', which tools/lay-shelf.mjs wrote): THE SAME DECLARATIONS UNDER THE SAME NAMES: 'import', 'namespace', 'open', 'def', 'theorem' AND NOTHING ELSE: no command of the shelf's: FOR A HAND-IN. Each laying: the table of numbers ('.._ren') and one theorem, a field a fact of the dump's own or the kernel's comparison; each contract: ONE APPLICATION.
-/
namespace Go.Proofs
open Go.Shelf
def Tryz.laySi_ren : Go.Shelf.Ren := ⟨fun | 189 => 70 | 125 => 120 | 257 => 123 | 128 => 174 | 129 => 175 | 294 => 176 | 295 => 177 | 296 => 178 | 297 => 179 | 298 => 180 | 299 => 181 | 216 => 182 | 300 => 183 | 301 => 184 | 328 => 236 | 329 => 232 | 330 => 233 | 331 => 237 | 332 => 238 | 215 => 194 | 343 => 264 | n => n, fun | 28 => 68 | 3 => 3 | 46 => 170 | 0 => 0 | 51 => 226 | 53 => 228 | 4 => 4 | 183 => 220 | 182 => 219 | 131 => 128 | 5 => 5 | 9 => 9 | 218 => 269 | 222 => 273 | 228 => 293 | 229 => 294 | n => n, fun | n => n⟩
theorem Tryz.laySi : Go.Proofs.Lays.n189 Tryz.prog Tryz.laySi_ren := {
  mixed := by kernel_rfl
  f125 := Tryz.func120.trans (congrArg some (by kernel_rfl))
  f128 := Tryz.func174.trans (congrArg some (by kernel_rfl))
  f129 := Tryz.func175.trans (congrArg some (by kernel_rfl))
  f189 := Tryz.func70.trans (congrArg some (by kernel_rfl))
  f215 := Tryz.func194.trans (congrArg some (by kernel_rfl))
  f216 := Tryz.func182.trans (congrArg some (by kernel_rfl))
  f257 := Tryz.func123.trans (congrArg some (by kernel_rfl))
  f294 := Tryz.func176.trans (congrArg some (by kernel_rfl))
  f295 := Tryz.func177.trans (congrArg some (by kernel_rfl))
  f296 := Tryz.func178.trans (congrArg some (by kernel_rfl))
  f297 := Tryz.func179.trans (congrArg some (by kernel_rfl))
  f298 := Tryz.func180.trans (congrArg some (by kernel_rfl))
  f299 := Tryz.func181.trans (congrArg some (by kernel_rfl))
  f300 := Tryz.func183.trans (congrArg some (by kernel_rfl))
  f301 := Tryz.func184.trans (congrArg some (by kernel_rfl))
  f328 := Tryz.func236.trans (congrArg some (by kernel_rfl))
  f329 := Tryz.func232.trans (congrArg some (by kernel_rfl))
  f330 := Tryz.func233.trans (congrArg some (by kernel_rfl))
  f331 := Tryz.func237.trans (congrArg some (by kernel_rfl))
  f332 := Tryz.func238.trans (congrArg some (by kernel_rfl))
  f343 := Tryz.func264.trans (congrArg some (by kernel_rfl))
  t0 := Tryz.underlying0
  a0 := Tryz.isAgg0
  z0 := Tryz.sizeOf0
  v0 := Tryz.zeroValue0
  t3 := Tryz.underlying3
  a3 := Tryz.isAgg3
  z3 := Tryz.sizeOf3
  v3 := Tryz.zeroValue3
  t4 := Tryz.underlying4
  a4 := Tryz.isAgg4
  z4 := Tryz.sizeOf4
  v4 := Tryz.zeroValue4
  t5 := Tryz.underlying5
  a5 := Tryz.isAgg5
  z5 := Tryz.sizeOf5
  v5 := Tryz.zeroValue5
  t9 := Tryz.underlying9
  a9 := Tryz.isAgg9
  z9 := Tryz.sizeOf9
  v9 := Tryz.zeroValue9
  t28 := Tryz.underlying68
  a28 := Tryz.isAgg68
  z28 := Tryz.sizeOf68
  v28 := Tryz.zeroValue68
  t46 := Tryz.underlying170
  a46 := Tryz.isAgg170
  z46 := Tryz.sizeOf170
  v46 := Tryz.zeroValue170
  t51 := Tryz.underlying226
  a51 := Tryz.isAgg226
  z51 := Tryz.sizeOf226
  v51 := Tryz.zeroValue226
  t53 := Tryz.underlying228
  a53 := Tryz.isAgg228
  z53 := Tryz.sizeOf228
  v53 := Tryz.zeroValue228
  t131 := Tryz.underlying128
  a131 := Tryz.isAgg128
  z131 := Tryz.sizeOf128
  v131 := Tryz.zeroValue128
  t182 := Tryz.underlying219
  a182 := Tryz.isAgg219
  z182 := Tryz.sizeOf219
  v182 := Tryz.zeroValue219
  t183 := Tryz.underlying220
  a183 := Tryz.isAgg220
  z183 := Tryz.sizeOf220
  v183 := Tryz.zeroValue220
  t218 := Tryz.underlying269
  a218 := Tryz.isAgg269
  z218 := Tryz.sizeOf269
  v218 := Tryz.zeroValue269
  t222 := Tryz.underlying273
  a222 := Tryz.isAgg273
  z222 := Tryz.sizeOf273
  v222 := Tryz.zeroValue273
  t228 := Tryz.underlying293
  a228 := Tryz.isAgg293
  z228 := Tryz.sizeOf293
  v228 := Tryz.zeroValue293
  t229 := Tryz.underlying294
  a229 := Tryz.isAgg294
  z229 := Tryz.sizeOf294
  v229 := Tryz.zeroValue294 }
end Go.Proofs
namespace Go.Hal
open Go Go.RowKit Go.Proofs Go.Shelf Go.Lib Go.Sort
def intC (x : Int) : List Value := [.int .i64 x]
def sortI (l : List Int) : List Int := l.mergeSort fun x y => decide (x ≤ y)
theorem sortI_perm (l : List Int) : (sortI l).Perm l := List.mergeSort_perm l _
theorem sortI_le (l : List Int) : (sortI l).Pairwise (· ≤ ·) := by
  have := List.pairwise_mergeSort (le := fun x y : Int => decide (x ≤ y)) (fun a b c h1 h2 => by simp at *; omega) (fun a b => by simp; omega) l
  exact this.imp fun h => by simpa using h
theorem flatI (l : List Int) : (l.map intC).flatten = l.map (Value.int .i64) := by
  induction l with
  | nil => rfl
  | cons a l ih => rw [List.map_cons, List.flatten_cons, ih]; rfl
theorem holds_of_rowI {w : World} {g : Nat} {l : List Int} {tail : List Value} (h : RowB intC w g l tail) : Go.Sort.Holds (Value.int .i64) w g 0 l.toArray := by
  obtain ⟨t, _, _, hb⟩ := h
  rw [flatI] at hb
  intro j hj
  have hj' : j < l.length := by simpa using hj
  constructor
  · simp only [World.cell?, hb, Nat.zero_add]
    rw [List.getElem?_toArray, List.getElem?_append_left (by rw [List.length_map]; exact hj'), List.getElem?_map, List.getElem?_eq_getElem hj', getElem!_pos l.toArray j hj]
    rfl
  · simp [World.frozen?, hb]
theorem row_putI {w : World} {g n : Nat} {l l' : List Int} {tail : List Value} {os : Array Obj} (h : RowB intC w g l tail) (hl : l'.length = l.length) :
    But g w (grow (putRow (Value.int .i64) (Sort.ahead w n) g 0 l'.toArray) os) ∧ RowB intC (grow (putRow (Value.int .i64) (Sort.ahead w n) g 0 l'.toArray) os) g l' tail := by
  obtain ⟨t, _, _, hb⟩ := h
  have hgl : g < w.heap.size := (Array.getElem?_eq_some_iff.1 hb).1
  have hh : (grow (putRow (Value.int .i64) (Sort.ahead w n) g 0 l'.toArray) os).heap = w.heap.modify g (onCells (putCells (Value.int .i64) 0 l'.toArray)) ++ os := rfl
  refine ⟨⟨by rw [hh]; simp, rfl, rfl, rfl, fun b hbl hne => ?_⟩, ⟨t, rfl, rfl, ?_⟩⟩
  · rw [hh, Array.getElem?_append_left (by simpa using hbl), Array.getElem?_modify, if_neg (Ne.symm hne)]
  · rw [hh, Array.getElem?_append_left (by simpa using hgl), Array.getElem?_modify, if_pos rfl, hb]
    simp only [Option.map_some, onCells, Option.some.injEq, Obj.cells.injEq, and_true]
    apply Array.ext_getElem?
    intro j
    rw [flatI, flatI]
    simp only [putCells, Array.getElem?_mapIdx, List.getElem?_toArray, Nat.zero_le, true_and, Nat.zero_add, Nat.sub_zero, List.size_toArray]
    by_cases hj : j < l'.length
    · rw [List.getElem?_append_left (by rw [List.length_map, ← hl]; exact hj), List.getElem?_append_left (by rw [List.length_map]; exact hj), List.getElem?_map, List.getElem?_map, List.getElem?_eq_getElem (by rw [← hl]; exact hj), List.getElem?_eq_getElem hj]
      simp only [Option.map_some, if_pos hj]
      rw [getElem!_pos l'.toArray j (by simpa using hj)]
      rfl
    · rw [List.getElem?_append_right (by rw [List.length_map, ← hl]; omega), List.getElem?_append_right (by rw [List.length_map]; omega), List.length_map, List.length_map, hl]
      cases tail[j - l.length]? with
      | none => rfl
      | some v => simp only [Option.map_some]; rw [if_neg (by rw [← hl]; exact hj)]
theorem sortInt_k {w : World} {lo : Nat} {s : Sl} {l : List Int} {K : Value → World → Prop} (h : FlatO intC 8 w lo s l) (hlo : lo ≤ w.heap.size)
    (hK : ∀ w', Below lo w w' → FlatO intC 8 w' lo s (sortI l) → K (.tuple #[]) w') : callS Tryz.prog 70 [Sl.v s] w K := by
  obtain ⟨h1, h2, h3, h4, h5⟩ := h
  obtain ⟨a, n, c⟩ := s
  simp only at h1 h2 h3 h5
  subst h1
  have hl := (sortI_perm l).length_eq
  rcases h5 with rfl | ⟨g, tail, ha, hg, hr⟩
  · refine (Any.slices_Sort_int_none Tryz.laySi a c w).mono fun e w' ⟨he, hw⟩ => ⟨_, he, ?_⟩
    subst hw
    have e0 : sortI [] = [] := List.length_eq_zero_iff.1 hl
    exact hK _ (Below.refl _ _) ⟨by rw [e0], by rw [e0]; exact h2, h3, by rw [e0]; exact h4, .inl e0⟩
  · subst ha
    refine (Any.slices_Sort_int Tryz.laySi g 0 c l w (holds_of_rowI hr) hr.lt (by unfold room at h4; omega)).mono fun e w' ⟨he, n, os, hw⟩ => ⟨_, he, ?_⟩
    obtain ⟨k1, k2⟩ := row_putI (n := n) (os := os) hr hl
    subst hw
    exact hK _ (k1.below hlo hg) ⟨hl.symm, by rw [hl]; exact h2, h3, by rw [hl]; exact h4, .inr ⟨g, tail, rfl, hg, k2⟩⟩
end Go.Hal
