/- Lemmas for the claim K11f: how the program's functions run, and what they answer; no condition but those that each theorem names. -/
import Derived.Test.YtpdjadmnnadkfaaGreatDoorProg
import Derived.Test.YtpdjadmnnadkfaaGreatDoorK11fB1
set_option linter.unusedVariables false
set_option linter.unusedSimpArgs false
namespace Go.Hal
open Go Go.RowKit Go.Proofs Go.Shelf
theorem wantsRange_se {S : Nat → Prop} {mD mDev mOpt mOv dR : Sl} {dN : ByteArray} {over : List Dep} {dr : List Span} {w : World} {R : Sl → World → Prop} (hS : Old S w) (hO : SlR depE w S mOv over) (hd : SlR spanE w S dR dr)
    (hR : ∀ t w', Ext w w' → SlP spanE w' (fun b => w.heap.size ≤ b ∧ b < w'.heap.size) t (overOf over dN dr) → R t w') : SE.wants_Range mD mDev mOpt mOv dN dR w R := by
  unfold SE.wants_Range
  refine newS.intro fun a w1 x1 ha _ _ => newS.intro fun a1 w2 x2 ha1 _ _ => ?_
  have x02 := x1.trans x2
  have hl := hO.len
  refine ⟨mOv, ha.at1 x2 rfl, loop1.up hO.max (fun i w' => Ext w2 w' ∧ ∀ k < i, ∀ e : Dep, over[k]? = some e → ¬ e.name = dN) ⟨Ext.refl _, fun k hk => by omega⟩ fun i w3 nxt hi ⟨x3, hI⟩ hn => ⟨fun hlt => ?_, fun hge => ?_⟩⟩
  · have hlt' : i < over.length := by omega
    have x03 := x02.trans x3
    obtain ⟨ad, t, hsa, _, hnm, hr, hc⟩ := depEl hO hlt'
    refine ⟨ad, ⟨hsa, by omega, hlt⟩, _, t, hc _ x03, newS.intro fun a5 w4 x4 hb4 ha4 _ => stw0.intro hb4 (by simp) fun w5 b5 _ hb5 => ⟨_, hb5.ldc.pre rfl, dN, (ha1.ext x3).at0 (b5.ext x4 (by omega)) rfl, fun he => ?_, fun hne => ?_⟩⟩
    · have x35 : Ext w3 w5 := b5.ext x4 (by omega)
      have x05 := x03.trans x35
      refine ⟨t, hb5.at1 (k := 1) (Ext.refl _) rfl, SE.slices_Clone_apiSpanapiSpan.go (cloneSpan_se (hS.ext x05.size) (hr.ext x05) fun u w6 x6 hu => ⟨_, rfl, ?_⟩)⟩
      refine hR _ _ (x05.trans x6) ?_
      rw [overOf_hit (List.getElem?_eq_getElem hlt') he hI]
      have := x05.size
      exact hu.mono fun b hb => ⟨by omega, hb.2⟩
    · have x35 : Ext w3 w5 := b5.ext x4 (by omega)
      refine hn hlt' _ ⟨x3.trans x35, fun k hk e he => ?_⟩
      rcases Nat.lt_succ_iff_lt_or_eq.1 hk with h | rfl
      · exact hI k h e he
      · rw [List.getElem?_eq_getElem hlt', Option.some.injEq] at he
        subst he; exact hne
  · have x03 := x02.trans x3
    refine ⟨dR, (ha1.ext x3).at1 (k := 1) (Ext.refl _) rfl, SE.slices_Clone_apiSpanapiSpan.go (cloneSpan_se (hS.ext x03.size) (hd.ext x03) fun u w6 x6 hu => ⟨_, rfl, ?_⟩)⟩
    refine hR _ _ (x03.trans x6) ?_
    rw [overOf_miss fun k e he => hI k (by have := (List.getElem?_eq_some_iff.1 he).1; omega) e he]
    have := x03.size
    exact hu.mono fun b hb => ⟨by omega, hb.2⟩
theorem SlP.clip {α : Type} {E : Enc α} {w : World} {S : Nat → Prop} {s : Sl} {l : List α} {k : Nat} (h : SlP E w S s l) : SlP E w S (Sl.mk (if (s.len : Int).toNat = 0 then s.a else s.a.map (·.add (0 * k))) ((s.len : Int).toNat - 0) ((s.len : Int).toNat - 0)) l := by
  have ea : (if (s.len : Int).toNat = 0 then s.a else s.a.map (·.add (0 * k))) = s.a := by
    split
    · rfl
    · rw [Nat.zero_mul]; cases s.a <;> rfl
  rw [ea]
  obtain ⟨⟨h1, h2, h3, h4, h5⟩, h6⟩ := h
  exact ⟨⟨by simp [h1], by simp [h1], by simp [h1]; omega, h4, h5⟩, h6⟩
theorem clip_ok {s : Sl} (h : s.len ≤ s.cap) : (0 : Int) ≤ 0 ∧ 0 ≤ (s.len : Int) ∧ (s.len : Int) ≤ (s.len : Int) ∧ (s.len : Int) ≤ (s.cap : Int) := ⟨by omega, by omega, by omega, by omega⟩
theorem wantsPeers_se {S : Nat → Prop} {pN : ByteArray} {v1 v2 v3 : Int} {pD pP pO mD mDev mOpt mOv : Sl} {over peers : List Dep} {w : World} {R : Sl → World → Prop} (hS : Old S w) (hO : SlR depE w S mOv over) (hp : SlR depE w S pP peers)
    (hR : ∀ t w', Ext w w' → SlP depP w' (fun b => w.heap.size ≤ b ∧ b < w'.heap.size) t (peersOf over peers) → R t w') : SE.wants_Peers pN v1 v2 v3 pD pP pO mD mDev mOpt mOv w R := by
  unfold SE.wants_Peers
  refine newS.intro fun a w1 x1 ha _ _ => newS.intro fun a1 w2 x2 ha1 _ _ => ?_
  have x02 := x1.trans x2
  have hl := hp.len
  have h4 := hp.2.2.2.1
  have e40 : depE.bytes = 40 := rfl
  have e41 : depP.bytes = 40 := rfl
  refine ⟨pP, ha.at1 x2 rfl, loop2.up hp.max (fun out i w' => Ext w2 w' ∧ ∃ Q, OwnS depP 63 w' w2.heap.size Q out (peersOf over (peers.take i)) ∧ ∀ b, Q b → w2.heap.size ≤ b) ⟨Ext.refl _, _, OwnS.zero _, fun _ h => h.elim⟩ fun out i w3 nxt hi ⟨x3, Q, own, hQ⟩ hn => ⟨fun hlt => ?_, fun hge => ?_⟩⟩
  · have hlt' : i < peers.length := by omega
    have x03 := x02.trans x3
    obtain ⟨ad, t, hsa, _, hnm, hr, hc⟩ := depEl hp hlt'
    refine ⟨ad, ⟨hsa, by omega, hlt⟩, _, t, hc _ x03, newS.intro fun a5 w4 x4 hb4 ha4 _ => stw0.intro hb4 (by simp) fun w5 b5 _ hb5 => bnd.drew fun w6 x6 => ?_⟩
    have x35 : Ext w3 w5 := b5.ext x4 (by omega)
    have x36 := x35.trans x6
    have x06 := x03.trans x36
    refine ⟨_, hb5.at0 x6 rfl, mD, mDev, mOpt, mOv, (ha1.ext x3).at0 (r := []) x36 rfl, _, t, hb5.at0 (r := []) x6 rfl, callX.intro (SE.wants_Range.go (wantsRange_se (hS.ext x06.size) (hO.ext x06) (hr.ext x06) fun u w7 x7 hu => ⟨x7, _, rfl, newS.intro fun a7 w8 x8 hb8 ha8 _ => ?_⟩))⟩
    have x38 := x36.trans (x7.trans x8)
    have s6 := x06.size; have s36 := x36.size; have s3 := x3.size; have s8 := x8.size; have s7 := x7.size
    have hu' := (hu.ext x8).mono (S' := fun b => w6.heap.size ≤ b ∧ b < w8.heap.size) fun b hb => ⟨hb.1, by omega⟩
    have hlen : (peersOf over (peers.take i)).length = i := by simp [peersOf]; omega
    refine (own.ext x38).push apDep (x3.trans x38).size (x := ⟨peers[i].name, overOf over peers[i].name peers[i].range⟩) (S' := fun b => w6.heap.size ≤ b ∧ b < w8.heap.size) ⟨hnm, u, rfl, hu'⟩ hb8.ldc (fun b hb => hb.2) (fun ad ha hb => ?_) (by rw [hlen]; rw [e40] at h4; rw [e41]; omega) (by rw [hlen]; have := hp.max; omega) fun r w9 own9 bel _ _ => hn hlt' _ _ ⟨(x3.trans x38).trans' bel, fun b => Q b ∨ (w6.heap.size ≤ b ∧ b < w8.heap.size), ?_, fun b hb => ?_⟩
    · have := (own.block ha).2.1; omega
    · have e : peersOf over (peers.take (i + 1)) = peersOf over (peers.take i) ++ [⟨peers[i].name, overOf over peers[i].name peers[i].range⟩] := by
        unfold peersOf; rw [List.take_succ_eq_append_getElem hlt', List.map_append]; rfl
      rw [e]; exact own9
    · rcases hb with hb | hb
      · exact hQ b hb
      · omega
  · have : i = peers.length := by omega
    rw [this, List.take_length] at own
    have hl2 : (peersOf over peers).length = peers.length := by simp [peersOf]
    have hrd := own.readP (by rw [hl2, e41]; rw [e40] at h4; exact h4) (by rw [hl2]; exact hp.max)
    refine SE.slices_Clip_apiDepapiDep.go ⟨clip_ok (by have := hrd.1.1; have := hrd.1.2.1; omega), _, rfl, hR _ _ (x02.trans x3) (hrd.clip.mono fun b hb => ?_)⟩
    have := x02.size
    rcases hb with hb | ⟨ad, ha, rfl⟩
    · have := hQ b hb; have := own.lt b hb; exact ⟨by omega, by omega⟩
    · have := own.block ha; exact ⟨by omega, this.2.1⟩
end Go.Hal
namespace Go.Hal
structure WantC where
  name : ByteArray
  kind : Int
  range : Sl
end Go.Hal
namespace Go.Hal
open Go Go.RowKit Go.Proofs
namespace StW
abbrev El : Type := WantC × Nat
def cells (x : WantC) : List Value := [.string x.name, .int .i64 x.kind, x.range.v]
def fc (x : El) : List Value := cells x.1
theorem fc_len (x : El) : (fc x).length = 3 := rfl
def CmpOk (cmp : Value) (c : WantC → WantC → Int) (g : Nat) (w0 : World) : Prop :=
  ∀ (x y : WantC) (w : World) (k : Value → World → Prop), But g w0 w → (∀ w', Ext w w' → k (.int .i64 (c x y)) w') → callV Tryz.prog cmp [.agg (cells x).toArray, .agg (cells y).toArray] w k
theorem CmpOk.but {cmp : Value} {c : WantC → WantC → Int} {g : Nat} {w0 w1 : World} (h : CmpOk cmp c g w0) (hb : But g w0 w1) : CmpOk cmp c g w1 := fun x y w k hw hk => h x y w k (hb.trans hw) hk
section
variable {cmp : Value} {c : WantC → WantC → Int} {g : Nat}
set_option maxHeartbeats 2000000 in
theorem insertion_se (hO : Ord3 c) {data : Sl} {w : World} {R : World → Prop} {A M0 B : List El} {tail : List Value} {a b : Int} (hc : CmpOk cmp c g w) (hd : data.a = some ⟨g, 0, none⟩) (hlen : data.len = (A ++ M0 ++ B).length) (hbig : data.len < 4611686018427387904)
    (hB : RowB fc w g (A ++ M0 ++ B) tail) (ha : a = (A.length : Int)) (hb : b = ((A.length + M0.length : Nat) : Int)) (hM : M0.Pairwise fun x y => x.2 < y.2)
    (hR : ∀ w' M, But g w w' → M.Perm M0 → M.Pairwise (Ah c) → RowB fc w' g (A ++ M ++ B) tail → R w') : SE.slices_insertionSortCmpFunc_apiWant data a b cmp w R := by
  unfold SE.slices_insertionSortCmpFunc_apiWant
  subst ha hb
  simp only [List.length_append] at hlen
  rw [wrapI_eq (by omega) (by omega)]
  by_cases h0 : M0 = []
  · subst h0
    refine ⟨fun i w' => w' = w ∧ i = (A.length : Int) + 1, fun _ _ => 0, ⟨rfl, rfl⟩, ?_⟩
    rintro i w' ⟨rfl, rfl⟩
    refine ⟨fun h => ?_, fun _ => hR _ [] ⟨Nat.le_refl _, rfl, rfl, rfl, fun _ _ _ => rfl⟩ (List.Perm.refl _) .nil hB⟩
    simp at h; omega
  have hpos : 0 < M0.length := List.length_pos_iff.2 h0
  refine ⟨fun i w' => ∃ (n : Nat) (M : List El), i = ((A.length + n : Nat) : Int) ∧ 1 ≤ n ∧ n ≤ M0.length ∧ But g w w' ∧ M.Perm (M0.take n) ∧ M.Pairwise (Ah c) ∧ RowB fc w' g (A ++ M ++ (M0.drop n ++ B)) tail, fun i _ => (A.length + M0.length) - i.toNat, ⟨1, M0.take 1, by omega, Nat.le_refl _, hpos, ⟨Nat.le_refl _, rfl, rfl, rfl, fun _ _ _ => rfl⟩, List.Perm.refl _, ?_, ?_⟩, ?_⟩
  · cases M0 with
    | nil => exact .nil
    | cons x r => exact List.pairwise_singleton _ _
  · rw [← List.append_assoc, List.append_assoc A, List.take_append_drop]; exact hB
  rintro i w1 ⟨n, M, rfl, hn1, hn2, b1, hp, hs, hB1⟩
  have hMl : M.length = n := by rw [hp.length_eq, List.length_take]; omega
  refine ⟨fun hlt => ?_, fun hge => ?_⟩
  · have hn3 : n < M0.length := by omega
    have hdrop : M0.drop n = M0[n] :: M0.drop (n + 1) := List.drop_eq_getElem_cons hn3
    have hx : ∀ y ∈ M, y.2 < M0[n].2 := fun y hy => by
      have hy' := hp.mem_iff.1 hy
      obtain ⟨j, hj, rfl⟩ := List.mem_iff_getElem.1 hy'
      rw [List.length_take] at hj
      rw [List.getElem_take]
      exact List.pairwise_iff_getElem.1 hM j n (by omega) hn3 (by omega)
    rw [hdrop] at hB1
    generalize hX : M0[n] = x at *
    refine ⟨fun j w' => ∃ (M1 M2 : List El), j = ((A.length + M1.length : Nat) : Int) ∧ M1 ++ M2 = M ∧ (∀ y ∈ M2, Ah c x y) ∧ But g w w' ∧ RowB fc w' g (A ++ M1 ++ x :: (M2 ++ (M0.drop (n + 1) ++ B))) tail, fun j _ => j.toNat, ⟨M, [], by rw [hMl], by simp, by simp, b1, by simpa using hB1⟩, ?_⟩
    rintro j w2 ⟨M1, M2, rfl, hM12, hx2, b2, hB2⟩
    refine bnd.drew fun w3 x3 => bound ?_
    have hB3 := hB2.ext x3
    have b3 : But g w w3 := b2.ext' x3
    have hl12 : M1.length + M2.length = n := by rw [← hMl, ← hM12, List.length_append]
    have fin : ∀ w' w0, But g w w' → RowB fc w' g (A ++ M1 ++ x :: (M2 ++ (M0.drop (n + 1) ++ B))) tail → (∀ y ∈ M1, Ah c y x) → w0 = w' →
        (∃ (n' : Nat) (M' : List El), wrapI (((A.length + n : Nat) : Int) + 1) = ((A.length + n' : Nat) : Int) ∧ 1 ≤ n' ∧ n' ≤ M0.length ∧ But g w w0 ∧ M'.Perm (M0.take n') ∧ M'.Pairwise (Ah c) ∧ RowB fc w0 g (A ++ M' ++ (M0.drop n' ++ B)) tail) ∧ (A.length + M0.length) - (wrapI (((A.length + n : Nat) : Int) + 1)).toNat < (A.length + M0.length) - (((A.length + n : Nat) : Int)).toNat := fun w' w0 b' hB' h1 e => by
      subst e
      rw [wrapI_eq (by omega) (by omega)]
      refine ⟨⟨n + 1, M1 ++ x :: M2, by omega, by omega, by omega, b', ?_, ?_, by simpa using hB'⟩, by omega⟩
      · rw [List.take_succ_eq_append_getElem hn3, hX]
        refine (List.perm_middle).trans ?_
        rw [hM12]
        exact (hp.cons x).trans (List.perm_append_singleton x _).symm
      · rw [← hM12] at hs
        obtain ⟨p1, p2, p3⟩ := List.pairwise_append.1 hs
        refine List.pairwise_append.2 ⟨p1, List.pairwise_cons.2 ⟨hx2, p2⟩, fun y hy z hz => ?_⟩
        rcases List.mem_cons.1 hz with rfl | hz
        · exact h1 y hy
        · exact p3 y hy z hz
    rcases List.eq_nil_or_concat M1 with rfl | ⟨M1', y, rfl⟩
    · have hf : decide ((A.length : Int) < ((A.length + ([] : List El).length : Nat) : Int)) = false := by simp
      rw [hf]
      refine ⟨⟨g, 0, none⟩, (fun h => by cases h), ⟨#[]⟩, 0, Sl.nil, (fun h => by cases h), ⟨g, 0, none⟩, (fun h => by cases h), ⟨#[]⟩, 0, Sl.nil, (fun h => by cases h), (fun h => by cases h), fun _ => ⟨(fun h => by cases h), fun _ => ?_⟩⟩
      exact fin w3 w3 b3 hB3 (by simp) rfl
    · simp only [List.concat_eq_append] at *
      have hj : decide ((A.length : Int) < ((A.length + (M1' ++ [y]).length : Nat) : Int)) = true := by simp; omega
      rw [hj]
      have hlM : (M1' ++ [y]).length = M1'.length + 1 := by simp
      have e1 : wrapI (((A.length + (M1' ++ [y]).length : Nat) : Int) - 1) = ((A.length + M1'.length : Nat) : Int) := by rw [hlM, wrapI_eq (by omega) (by omega)]; omega
      rw [e1]
      have hl2 : data.len = A.length + (n + 1 + (M0.drop (n + 1) ++ B).length) := by
        rw [hlen, List.length_append, List.length_drop]; omega
      have eB : A ++ (M1' ++ [y]) ++ x :: (M2 ++ (M0.drop (n + 1) ++ B)) = (A ++ M1') ++ y :: x :: (M2 ++ (M0.drop (n + 1) ++ B)) := by simp
      rw [eB] at hB3
      have ey : (A ++ M1').length = A.length + M1'.length := List.length_append
      have gy := hB3.ld' fc_len (get_at' ey)
      have gx := hB3.ld' fc_len (get_at1' (n := A.length + (M1' ++ [y]).length) (by rw [hlM, ey]; omega))
      have hym : y ∈ M := by rw [← hM12]; simp
      have hright := Ah.right hO (hx y hym)
      refine ⟨_, fun _ => ⟨hd, by omega, by omega⟩, _, _, _, fun _ => gx, _, fun _ => ⟨hd, by omega, by omega⟩, _, _, _, fun _ => gy, fun _ => ?_, (fun h => by cases h)⟩
      refine hc x.1 y.1 w3 _ b3 fun w4 x4 => ⟨_, rfl, fun h => ?_, fun h => ?_⟩
      · simp only [Bool.true_and, decide_eq_true_eq] at h
        refine bnd.drew fun w5 x5 => ?_
        have x35 := x4.trans x5
        have hB5 := hB3.ext x35
        have gy5 := hB5.ld' fc_len (get_at' ey)
        have gx5 := hB5.ld' fc_len (get_at1' (n := A.length + (M1' ++ [y]).length) (by rw [hlM, ey]; omega))
        refine ⟨_, ⟨hd, by omega, by omega⟩, _, _, _, gy5, _, ⟨hd, by omega, by omega⟩, _, _, _, gx5, _, ⟨hd, by omega, by omega⟩, hB5.st fc_len (i := A.length + (M1' ++ [y]).length) (x := y) (by simp only [List.length_append, List.length_cons, List.length_nil]; omega) fun w6 b6 hB6 => ⟨_, ⟨hd, by omega, by omega⟩, hB6.st fc_len (i := A.length + M1'.length) (x := x) (by simp only [List.length_set, List.length_append, List.length_cons, List.length_nil]; omega) fun w7 b7 hB7 => ?_⟩⟩
        have e2 : ((((A ++ M1') ++ y :: x :: (M2 ++ (M0.drop (n + 1) ++ B))).set (A.length + (M1' ++ [y]).length) y).set (A.length + M1'.length) x) = (A ++ M1') ++ x :: y :: (M2 ++ (M0.drop (n + 1) ++ B)) := by
          have := swap_adj (A ++ M1') (M2 ++ (M0.drop (n + 1) ++ B)) y x
          rw [ey] at this
          rw [hlM, ← Nat.add_assoc]; exact this
        rw [e2] at hB7
        refine ⟨⟨M1', y :: M2, rfl, by rw [← hM12]; simp, fun z hz => ?_, ((b3.ext' x35).trans b6).trans b7, by simpa using hB7⟩, by rw [hlM]; omega⟩
        rcases List.mem_cons.1 hz with rfl | hz
        · exact hright.1 h
        · exact hx2 z hz
      · simp only [Bool.true_and, decide_eq_false_iff_not] at h
        refine fin w4 w4 (b3.ext' x4) (by rw [eB]; exact hB3.ext x4) (fun z hz => ?_) rfl
        have hyx := hright.2 h
        rcases List.mem_append.1 hz with hz | hz
        · refine Ah.trans hO ?_ hyx
          rw [← hM12] at hs
          have := (List.pairwise_append.1 (List.pairwise_append.1 hs).1).2.2 z hz y (by simp)
          exact this
        · simp at hz; subst hz; exact hyx
  · have hn : n = M0.length := by omega
    subst hn
    rw [List.take_length] at hp
    rw [List.drop_length, List.nil_append] at hB1
    exact hR w1 M b1 hp hs hB1
set_option maxHeartbeats 1000000 in
theorem swapRange_se {data : Sl} {w : World} {R : World → Prop} {P X M Y Q : List El} {tail : List Value} {a b n : Int} (hd : data.a = some ⟨g, 0, none⟩) (hlen : data.len = (P ++ X ++ M ++ Y ++ Q).length) (hbig : data.len < 4611686018427387904)
    (hB : RowB fc w g (P ++ X ++ M ++ Y ++ Q) tail) (ha : a = (P.length : Int)) (hb : b = ((P.length + X.length + M.length : Nat) : Int)) (hn : n = (X.length : Int)) (hXY : Y.length = X.length)
    (hR : ∀ w', But g w w' → RowB fc w' g (P ++ Y ++ M ++ X ++ Q) tail → R w') : SE.slices_swapRangeCmpFunc_apiWant data a b n cmp w R := by
  unfold SE.slices_swapRangeCmpFunc_apiWant
  subst ha hb hn
  simp only [List.length_append] at hlen
  refine loop1.up (N := X.length) (by rw [maxLen_eq]; omega) (fun i w' => But g w w' ∧ RowB fc w' g (P ++ (Y.take i ++ X.drop i) ++ M ++ (X.take i ++ Y.drop i) ++ Q) tail) ⟨⟨Nat.le_refl _, rfl, rfl, rfl, fun _ _ _ => rfl⟩, by simpa using hB⟩ fun i w1 nxt hi ⟨b1, hB1⟩ hnx => ⟨fun hlt => ?_, fun hge => ?_⟩
  · have hi' : i < X.length := by omega
    have hiY : i < Y.length := by omega
    refine bnd.drew fun w2 x2 => ?_
    rw [wrapI_eq (x := ((P.length + X.length + M.length : Nat) : Int) + (i : Int)) (by omega) (by omega), wrapI_eq (x := (P.length : Int) + (i : Int)) (by omega) (by omega)]
    rw [show ((P.length + X.length + M.length : Nat) : Int) + (i : Int) = ((P.length + X.length + M.length + i : Nat) : Int) by omega, show (P.length : Int) + (i : Int) = ((P.length + i : Nat) : Int) by omega]
    have hB2 := hB1.ext x2
    have eL : P ++ (Y.take i ++ X.drop i) ++ M ++ (X.take i ++ Y.drop i) ++ Q = (P ++ Y.take i) ++ X[i] :: ((X.drop (i + 1) ++ M ++ X.take i) ++ Y[i] :: (Y.drop (i + 1) ++ Q)) := by
      rw [List.drop_eq_getElem_cons hi', List.drop_eq_getElem_cons hiY]; simp only [List.append_assoc, List.cons_append]
    rw [eL] at hB2
    have l1 : (P ++ Y.take i).length = P.length + i := by simp; omega
    have l2 : (X.drop (i + 1) ++ M ++ X.take i).length + 1 = X.length + M.length := by simp; omega
    have gx := hB2.ld' fc_len (get_at' l1)
    have hgy : ((P ++ Y.take i) ++ X[i] :: ((X.drop (i + 1) ++ M ++ X.take i) ++ Y[i] :: (Y.drop (i + 1) ++ Q)))[P.length + X.length + M.length + i]? = some Y[i] := by
      rw [← List.cons_append, ← List.append_assoc]
      refine get_at' ?_
      simp only [List.length_append, List.length_cons] at l1 l2 ⊢; omega
    have gy := hB2.ld' fc_len hgy
    have b2 := b1.ext' x2
    have hln : ((P ++ Y.take i) ++ X[i] :: ((X.drop (i + 1) ++ M ++ X.take i) ++ Y[i] :: (Y.drop (i + 1) ++ Q))).length = data.len := by
      rw [← eL, hlen]; simp; omega
    refine ⟨_, ⟨hd, by omega, by omega⟩, _, _, _, gy, _, ⟨hd, by omega, by omega⟩, _, _, _, gx, _, ⟨hd, by omega, by omega⟩, hB2.st fc_len (i := P.length + i) (x := Y[i]) (by rw [hln]; omega) fun w3 b3 hB3 => ⟨_, ⟨hd, by omega, by omega⟩, hB3.st fc_len (i := P.length + X.length + M.length + i) (x := X[i]) (by rw [List.length_set, hln]; omega) fun w4 b4 hB4 => hnx hi' _ ⟨(b2.trans b3).trans b4, ?_⟩⟩⟩
    have e := swap_far (P ++ Y.take i) (X.drop (i + 1) ++ M ++ X.take i) (Y.drop (i + 1) ++ Q) X[i] Y[i]
    rw [l1, show P.length + i + 1 + (X.drop (i + 1) ++ M ++ X.take i).length = P.length + X.length + M.length + i by omega] at e
    rw [e] at hB4
    have e2 : P ++ (Y.take (i + 1) ++ X.drop (i + 1)) ++ M ++ (X.take (i + 1) ++ Y.drop (i + 1)) ++ Q = (P ++ Y.take i) ++ Y[i] :: ((X.drop (i + 1) ++ M ++ X.take i) ++ X[i] :: (Y.drop (i + 1) ++ Q)) := by
      rw [List.take_succ_eq_append_getElem hi', List.take_succ_eq_append_getElem hiY]; simp only [List.append_assoc, List.cons_append, List.nil_append]
    rw [e2]; exact hB4
  · have : i = X.length := by omega
    subst this
    rw [List.take_of_length_le (by omega), List.drop_length, List.append_nil, List.take_length, List.drop_eq_nil_of_le (by omega), List.append_nil] at hB1
    exact hR w1 b1 hB1
set_option maxHeartbeats 1000000 in
theorem rotate_se {data : Sl} {w : World} {R : World → Prop} {P X Y Q : List El} {tail : List Value} {a m b : Int} (hd : data.a = some ⟨g, 0, none⟩) (hlen : data.len = (P ++ X ++ Y ++ Q).length) (hbig : data.len < 4611686018427387904)
    (hB : RowB fc w g (P ++ X ++ Y ++ Q) tail) (ha : a = (P.length : Int)) (hm : m = ((P.length + X.length : Nat) : Int)) (hb : b = ((P.length + X.length + Y.length : Nat) : Int)) (hX : 0 < X.length) (hY : 0 < Y.length)
    (hR : ∀ w', But g w w' → RowB fc w' g (P ++ Y ++ X ++ Q) tail → R w') : SE.slices_rotateCmpFunc_apiWant data a m b cmp w R := by
  unfold SE.slices_rotateCmpFunc_apiWant
  subst ha hb hm
  simp only [List.length_append] at hlen
  refine ⟨fun i j w' => ∃ P' X' Y' Q' : List El, i = (X'.length : Int) ∧ j = (Y'.length : Int) ∧ P'.length + X'.length = P.length + X.length ∧ 0 < X'.length ∧ 0 < Y'.length ∧ data.len = P'.length + X'.length + Y'.length + Q'.length ∧ P' ++ Y' ++ X' ++ Q' = P ++ Y ++ X ++ Q ∧ But g w w' ∧ RowB fc w' g (P' ++ X' ++ Y' ++ Q') tail,
    fun i j _ => i.toNat + j.toNat, ⟨P, X, Y, Q, by rw [wrapI_eq (by omega) (by omega)]; omega, by rw [wrapI_eq (by omega) (by omega)]; omega, rfl, hX, hY, hlen, rfl, ⟨Nat.le_refl _, rfl, rfl, rfl, fun _ _ _ => rfl⟩, hB⟩, ?_⟩
  rintro i j w1 ⟨P', X', Y', Q', rfl, rfl, hm, hX', hY', hl, hg, b1, hB1⟩
  have wi : wrapI (((P.length + X.length : Nat) : Int) - (X'.length : Int)) = (P'.length : Int) := by rw [wrapI_eq (by omega) (by omega)]; omega
  rw [wi]
  refine ⟨fun hne => ⟨fun hlt => ?_, fun hge => ?_⟩, fun heq => ?_⟩
  · have hXe : X' = X'.take Y'.length ++ X'.drop Y'.length := (List.take_append_drop _ _).symm
    have l1 : (X'.take Y'.length).length = Y'.length := by rw [List.length_take]; omega
    have l2 : (X'.drop Y'.length).length = X'.length - Y'.length := List.length_drop
    generalize X'.take Y'.length = X1 at *
    generalize X'.drop Y'.length = X2 at *
    subst hXe
    rw [List.length_append] at *
    refine SE.slices_swapRangeCmpFunc_apiWant.go (swapRange_se (P := P') (X := X1) (M := X2) (Y := Y') (Q := Q') hd (by simp only [List.length_append]; omega) hbig (by simpa using hB1) rfl (by omega) (by omega) (by omega) fun w2 b2 hB2 => ⟨rfl, ?_⟩)
    rw [wrapI_eq (by omega) (by omega)]
    refine ⟨⟨P' ++ Y', X2, X1, Q', by omega, by omega, by rw [List.length_append]; omega, by omega, by omega, by rw [List.length_append]; omega, by rw [← hg]; simp, b1.trans b2, by simpa using hB2⟩, by show Int.toNat _ + Int.toNat _ < Int.toNat _ + Int.toNat _; omega⟩
  · have hlt : X'.length < Y'.length := by
      rcases Nat.lt_trichotomy X'.length Y'.length with h | h | h
      · exact h
      · exact absurd (by rw [h]) hne
      · omega
    have hYe : Y' = Y'.take (Y'.length - X'.length) ++ Y'.drop (Y'.length - X'.length) := (List.take_append_drop _ _).symm
    have l1 : (Y'.take (Y'.length - X'.length)).length = Y'.length - X'.length := by rw [List.length_take]; omega
    have l2 : (Y'.drop (Y'.length - X'.length)).length = X'.length := by rw [List.length_drop]; omega
    generalize hn1 : Y'.take (Y'.length - X'.length) = Y1 at *
    generalize hn2 : Y'.drop (Y'.length - X'.length) = Y2 at *
    clear hn1 hn2
    subst hYe
    rw [List.length_append] at *
    have e1 : wrapI (wrapI (((P.length + X.length : Nat) : Int) + ((Y1.length + Y2.length : Nat) : Int)) - (X'.length : Int)) = ((P'.length + X'.length + Y1.length : Nat) : Int) := by
      rw [wrapI_eq (x := ((P.length + X.length : Nat) : Int) + ((Y1.length + Y2.length : Nat) : Int)) (by omega) (by omega), wrapI_eq (by omega) (by omega)]; omega
    rw [e1]
    refine SE.slices_swapRangeCmpFunc_apiWant.go (swapRange_se (P := P') (X := X') (M := Y1) (Y := Y2) (Q := Q') hd (by simp only [List.length_append]; omega) hbig (by simpa using hB1) rfl rfl rfl l2 fun w2 b2 hB2 => ⟨rfl, ?_⟩)
    rw [wrapI_eq (by omega) (by omega)]
    refine ⟨⟨P', Y2, Y1, X' ++ Q', by omega, by omega, by omega, by omega, by omega, by rw [List.length_append]; omega, by rw [← hg]; simp, b1.trans b2, by simpa using hB2⟩, by show Int.toNat _ + Int.toNat _ < Int.toNat _ + Int.toNat _; omega⟩
  · have heq : X'.length = Y'.length := by
      have := Classical.not_not.1 heq; omega
    refine SE.slices_swapRangeCmpFunc_apiWant.go (swapRange_se (P := P') (X := X') (M := []) (Y := Y') (Q := Q') hd (by simp only [List.length_append, List.length_nil]; omega) hbig (by simpa using hB1) rfl (by simp only [List.length_nil]; omega) rfl heq.symm fun w2 b2 hB2 => ⟨rfl, ?_⟩)
    exact hR w2 (b1.trans b2) (by rw [← hg]; simpa using hB2)
set_option maxHeartbeats 4000000 in
theorem symMerge_se (hO : Ord3 c) {data : Sl} {tail : List Value} (hd : data.a = some ⟨g, 0, none⟩) (hbig : data.len < 4611686018427387904) :
    ∀ (N : Nat) {w : World} {R : World → Prop} {P L X Q : List El} {a m b : Int}, L.length + X.length ≤ N → CmpOk cmp c g w → data.len = (P ++ L ++ X ++ Q).length → RowB fc w g (P ++ L ++ X ++ Q) tail →
      a = (P.length : Int) → m = ((P.length + L.length : Nat) : Int) → b = ((P.length + L.length + X.length : Nat) : Int) → 0 < L.length → 0 < X.length → L.Pairwise (Ah c) → X.Pairwise (Ah c) → (∀ x ∈ L, ∀ y ∈ X, x.2 < y.2) →
      (∀ w' M, But g w w' → M.Perm (L ++ X) → M.Pairwise (Ah c) → RowB fc w' g (P ++ M ++ Q) tail → R w') → SE.slices_symMergeCmpFunc_apiWant data a m b cmp w R
  | 0, _, _, _, L, _, _, _, _, _, h, _, _, _, _, _, _, hL, _, _, _, _, _ => by omega
  | N + 1, w, R, P, L, X, Q, _, _, _, hN, hc, hlen, hB, rfl, rfl, rfl, hL0, hX0, hL, hX, hid, hR => by
    unfold SE.slices_symMergeCmpFunc_apiWant
    simp only [List.length_append] at hlen
    have refl : But g w w := ⟨Nat.le_refl _, rfl, rfl, rfl, fun _ _ _ => rfl⟩
    have eL : ∀ (u : Nat) (hu : u < L.length), (P ++ L ++ X ++ Q)[P.length + u]? = some L[u] := fun u hu => by
      rw [List.append_assoc, List.append_assoc, List.getElem?_append_right (by omega), List.getElem?_append_left (by omega), Nat.add_sub_cancel_left]; exact List.getElem?_eq_getElem hu
    have eX : ∀ (u : Nat) (hu : u < X.length), (P ++ L ++ X ++ Q)[P.length + L.length + u]? = some X[u] := fun u hu => by
      rw [List.append_assoc, List.getElem?_append_right (by rw [List.length_append]; omega), List.length_append, Nat.add_sub_cancel_left, List.getElem?_append_left (by omega)]; exact List.getElem?_eq_getElem hu
    have wm : wrapI (((P.length + L.length : Nat) : Int) - (P.length : Int)) = (L.length : Int) := by rw [wrapI_eq (by omega) (by omega)]; omega
    have wb : wrapI (((P.length + L.length + X.length : Nat) : Int) - ((P.length + L.length : Nat) : Int)) = (X.length : Int) := by rw [wrapI_eq (by omega) (by omega)]; omega
    rw [wm, wb]
    refine ⟨fun h1 => ?_, fun h1 => ⟨fun h2 => ?_, fun h2 => ?_⟩⟩
    · -- one thing on the left
      obtain ⟨x, rfl⟩ := List.length_eq_one_iff.1 (show L.length = 1 by omega)
      simp only [List.length_cons, List.length_nil] at *
      refine ⟨fun i j w' => ∃ p q : Nat, i = ((P.length + (0 + 1) + p : Nat) : Int) ∧ j = ((P.length + (0 + 1) + q : Nat) : Int) ∧ p ≤ q ∧ q ≤ X.length ∧ (∀ (u : Nat) (hu : u < X.length), u < p → Ah c X[u] x) ∧ (∀ (u : Nat) (hu : u < X.length), q ≤ u → Ah c x X[u]) ∧ Ext w w',
        fun i j _ => (j - i).toNat, ⟨0, X.length, by omega, by omega, by omega, by omega, fun u _ h => by omega, fun u h1 h2 => by omega, Ext.refl _⟩, ?_⟩
      rintro _ _ w1 ⟨p, q, rfl, rfl, hpq, hq, hp1, hq1, x1⟩
      refine ⟨fun hlt => bnd.drew fun w2 x2 => ?_, fun hge => ?_⟩
      · rw [half (by omega)]
        have he : (P.length + (0 + 1) + p + (P.length + (0 + 1) + q)) / 2 = P.length + (0 + 1) + (p + q) / 2 := by omega
        rw [he]
        have heX : (p + q) / 2 < X.length := by omega
        have hB2 := hB.ext (x1.trans x2)
        have gx := hB2.ld' fc_len (eL 0 (by simp))
        have gy := hB2.ld' fc_len (eX _ heX)
        have hright := Ah.right hO (hid x (by simp) _ (List.getElem_mem heX))
        refine ⟨_, ⟨hd, by omega, by omega⟩, _, _, _, gy, _, ⟨hd, by omega, by omega⟩, _, _, _, gx, hc _ x.1 w2 _ (refl.ext' (x1.trans x2)) fun w3 x3 => ⟨_, rfl, fun h => ?_, fun h => ?_⟩⟩
        · have hA := hright.1 h
          rw [wrapI_eq (by omega) (by omega)]
          refine ⟨⟨(p + q) / 2 + 1, q, by omega, rfl, by omega, hq, fun u hu hlt => ?_, hq1, x1.trans (x2.trans x3)⟩, by show Int.toNat _ < Int.toNat _; omega⟩
          rcases Nat.lt_succ_iff_lt_or_eq.1 hlt with h' | rfl
          · exact (List.pairwise_iff_getElem.1 hX u _ hu heX h').trans hO hA
          · exact hA
        · have hA := hright.2 h
          refine ⟨⟨p, (p + q) / 2, rfl, rfl, by omega, by omega, hp1, fun u hu hge => ?_, x1.trans (x2.trans x3)⟩, by show Int.toNat _ < Int.toNat _; omega⟩
          rcases Nat.lt_or_eq_of_le hge with h' | rfl
          · exact hA.trans hO (List.pairwise_iff_getElem.1 hX _ u heX hu h')
          · exact hA
      · have hpq' : p = q := by omega
        subst hpq'
        have wi : wrapI (((P.length + (0 + 1) + p : Nat) : Int) - 1) = ((P.length + p : Nat) : Int) := by rw [wrapI_eq (by omega) (by omega)]; omega
        rw [wi]
        refine ⟨fun k w' => ∃ t : Nat, k = ((P.length + t : Nat) : Int) ∧ t ≤ p ∧ But g w w' ∧ RowB fc w' g (P ++ (X.take t ++ x :: X.drop t) ++ Q) tail, fun k _ => (P.length + p) - k.toNat, ⟨0, by omega, by omega, refl.ext' x1, by simpa using hB.ext x1⟩, ?_⟩
        rintro _ w2 ⟨t, rfl, htp, b2, hB2⟩
        refine ⟨fun hlt => bnd.drew fun w3 x3 => ?_, fun hge => ?_⟩
        · have htX : t < X.length := by omega
          have e1 : wrapI (((P.length + t : Nat) : Int) + 1) = ((P.length + t + 1 : Nat) : Int) := by rw [wrapI_eq (by omega) (by omega)]; omega
          rw [e1]
          have eB : P ++ (X.take t ++ x :: X.drop t) ++ Q = (P ++ X.take t) ++ x :: X[t] :: (X.drop (t + 1) ++ Q) := by
            rw [List.drop_eq_getElem_cons htX]; simp only [List.append_assoc, List.cons_append]
          have hB3 := hB2.ext x3
          rw [eB] at hB3
          have ey : (P ++ X.take t).length = P.length + t := by rw [List.length_append, List.length_take]; omega
          have gy := hB3.ld' fc_len (get_at' ey)
          have gx := hB3.ld' fc_len (get_at1' (n := P.length + t + 1) (by omega))
          have hln : ((P ++ X.take t) ++ x :: X[t] :: (X.drop (t + 1) ++ Q)).length = data.len := by rw [← eB, hlen]; simp; omega
          refine ⟨_, ⟨hd, by omega, by omega⟩, _, _, _, gx, _, ⟨hd, by omega, by omega⟩, _, _, _, gy, _, ⟨hd, by omega, by omega⟩, hB3.st fc_len (i := P.length + t) (x := X[t]) (by rw [hln]; omega) fun w4 b4 hB4 => ⟨_, ⟨hd, by omega, by omega⟩, hB4.st fc_len (i := P.length + t + 1) (x := x) (by rw [List.length_set, hln]; omega) fun w5 b5 hB5 => ?_⟩⟩
          have e2 := swap_adj' (P ++ X.take t) (X.drop (t + 1) ++ Q) x X[t]
          rw [ey] at e2
          rw [e2] at hB5
          refine ⟨⟨t + 1, by omega, by omega, ((b2.ext' x3).trans b4).trans b5, ?_⟩, by show _ - Int.toNat _ < _ - Int.toNat _; omega⟩
          rw [List.take_succ_eq_append_getElem htX]
          simpa only [List.append_assoc, List.cons_append, List.nil_append] using hB5
        · have : t = p := by omega
          subst this
          refine hR w2 _ b2 ?_ ?_ hB2
          · refine List.perm_middle.trans ?_
            rw [List.take_append_drop]; exact List.Perm.refl _
          · refine List.pairwise_append.2 ⟨hX.sublist (List.take_sublist _ _), List.pairwise_cons.2 ⟨fun y hy => ?_, hX.sublist (List.drop_sublist _ _)⟩, fun y hy z hz => ?_⟩
            · obtain ⟨u, hu, rfl⟩ := List.mem_iff_getElem.1 hy
              rw [List.length_drop] at hu
              rw [List.getElem_drop]; exact hq1 _ (by omega) (by omega)
            · obtain ⟨u, hu, rfl⟩ := List.mem_iff_getElem.1 hy
              rw [List.length_take] at hu
              rw [List.getElem_take]
              have hyx := hp1 u (by omega) (by omega)
              rcases List.mem_cons.1 hz with rfl | hz
              · exact hyx
              · obtain ⟨v, hv, rfl⟩ := List.mem_iff_getElem.1 hz
                rw [List.length_drop] at hv
                rw [List.getElem_drop]; exact hyx.trans hO (hq1 _ (by omega) (by omega))
    · -- one thing on the right
      obtain ⟨y, rfl⟩ := List.length_eq_one_iff.1 (show X.length = 1 by omega)
      simp only [List.length_cons, List.length_nil] at *
      refine ⟨fun i j w' => ∃ p q : Nat, i = ((P.length + p : Nat) : Int) ∧ j = ((P.length + q : Nat) : Int) ∧ p ≤ q ∧ q ≤ L.length ∧ (∀ (u : Nat) (hu : u < L.length), u < p → Ah c L[u] y) ∧ (∀ (u : Nat) (hu : u < L.length), q ≤ u → Ah c y L[u]) ∧ Ext w w',
        fun i j _ => (j - i).toNat, ⟨0, L.length, by omega, by omega, by omega, by omega, fun u _ h => by omega, fun u h1 h2 => by omega, Ext.refl _⟩, ?_⟩
      rintro _ _ w1 ⟨p, q, rfl, rfl, hpq, hq, hp1, hq1, x1⟩
      refine ⟨fun hlt => bnd.drew fun w2 x2 => ?_, fun hge => ?_⟩
      · rw [half (by omega)]
        have he : (P.length + p + (P.length + q)) / 2 = P.length + (p + q) / 2 := by omega
        rw [he]
        have heX : (p + q) / 2 < L.length := by omega
        have hB2 := hB.ext (x1.trans x2)
        have gx := hB2.ld' fc_len (eX 0 (by simp))
        have gy := hB2.ld' fc_len (eL _ heX)
        have hright := Ah.right hO (hid _ (List.getElem_mem heX) y (by simp))
        refine ⟨_, ⟨hd, by omega, by omega⟩, _, _, _, gx, _, ⟨hd, by omega, by omega⟩, _, _, _, gy, hc y.1 _ w2 _ (refl.ext' (x1.trans x2)) fun w3 x3 => ⟨_, rfl, fun h => ?_, fun h => ?_⟩⟩
        · have hA := hright.2 h
          rw [wrapI_eq (by omega) (by omega)]
          refine ⟨⟨(p + q) / 2 + 1, q, by omega, rfl, by omega, hq, fun u hu hlt => ?_, hq1, x1.trans (x2.trans x3)⟩, by show Int.toNat _ < Int.toNat _; omega⟩
          rcases Nat.lt_succ_iff_lt_or_eq.1 hlt with h' | rfl
          · exact (List.pairwise_iff_getElem.1 hL u _ hu heX h').trans hO hA
          · exact hA
        · have hA := hright.1 (Classical.not_not.1 h)
          refine ⟨⟨p, (p + q) / 2, rfl, rfl, by omega, by omega, hp1, fun u hu hge => ?_, x1.trans (x2.trans x3)⟩, by show Int.toNat _ < Int.toNat _; omega⟩
          rcases Nat.lt_or_eq_of_le hge with h' | rfl
          · exact hA.trans hO (List.pairwise_iff_getElem.1 hL _ u heX hu h')
          · exact hA
      · have hpq' : p = q := by omega
        subst hpq'
        refine ⟨fun k w' => ∃ t : Nat, k = ((P.length + t : Nat) : Int) ∧ p ≤ t ∧ t ≤ L.length ∧ But g w w' ∧ RowB fc w' g (P ++ (L.take t ++ y :: L.drop t) ++ Q) tail, fun k _ => k.toNat, ⟨L.length, by omega, by omega, by omega, refl.ext' x1, by simpa using hB.ext x1⟩, ?_⟩
        rintro _ w2 ⟨t, rfl, htp, htL, b2, hB2⟩
        refine ⟨fun hlt => bnd.drew fun w3 x3 => ?_, fun hge => ?_⟩
        · obtain ⟨s, rfl⟩ : ∃ s, t = s + 1 := ⟨t - 1, by omega⟩
          have hsL : s < L.length := by omega
          have e1 : wrapI (((P.length + (s + 1) : Nat) : Int) - 1) = ((P.length + s : Nat) : Int) := by rw [wrapI_eq (by omega) (by omega)]; omega
          rw [e1]
          have eB : P ++ (L.take (s + 1) ++ y :: L.drop (s + 1)) ++ Q = (P ++ L.take s) ++ L[s] :: y :: (L.drop (s + 1) ++ Q) := by
            rw [List.take_succ_eq_append_getElem hsL]; simp only [List.append_assoc, List.cons_append, List.nil_append]
          have hB3 := hB2.ext x3
          rw [eB] at hB3
          have ey : (P ++ L.take s).length = P.length + s := by rw [List.length_append, List.length_take]; omega
          have gy := hB3.ld' fc_len (get_at' ey)
          have gx := hB3.ld' fc_len (get_at1' (n := P.length + (s + 1)) (by omega))
          have hln : ((P ++ L.take s) ++ L[s] :: y :: (L.drop (s + 1) ++ Q)).length = data.len := by rw [← eB, hlen]; simp; omega
          refine ⟨_, ⟨hd, by omega, by omega⟩, _, _, _, gy, _, ⟨hd, by omega, by omega⟩, _, _, _, gx, _, ⟨hd, by omega, by omega⟩, hB3.st fc_len (i := P.length + (s + 1)) (x := L[s]) (by rw [hln]; omega) fun w4 b4 hB4 => ⟨_, ⟨hd, by omega, by omega⟩, hB4.st fc_len (i := P.length + s) (x := y) (by rw [List.length_set, hln]; omega) fun w5 b5 hB5 => ?_⟩⟩
          have e2 := swap_adj (P ++ L.take s) (L.drop (s + 1) ++ Q) L[s] y
          rw [ey, Nat.add_assoc] at e2
          rw [e2] at hB5
          refine ⟨⟨s, by omega, by omega, by omega, ((b2.ext' x3).trans b4).trans b5, ?_⟩, by show Int.toNat _ < Int.toNat _; omega⟩
          rw [List.drop_eq_getElem_cons hsL]
          simpa only [List.append_assoc, List.cons_append, List.nil_append] using hB5
        · have : t = p := by omega
          subst this
          refine hR w2 _ b2 ?_ ?_ hB2
          · refine List.perm_middle.trans ?_
            rw [List.take_append_drop]; exact (List.perm_append_singleton y L).symm
          · refine List.pairwise_append.2 ⟨hL.sublist (List.take_sublist _ _), List.pairwise_cons.2 ⟨fun z hz => ?_, hL.sublist (List.drop_sublist _ _)⟩, fun x hx z hz => ?_⟩
            · obtain ⟨u, hu, rfl⟩ := List.mem_iff_getElem.1 hz
              rw [List.length_drop] at hu
              rw [List.getElem_drop]; exact hq1 _ (by omega) (by omega)
            · obtain ⟨u, hu, rfl⟩ := List.mem_iff_getElem.1 hx
              rw [List.length_take] at hu
              rw [List.getElem_take]
              have hyx := hp1 u (by omega) (by omega)
              rcases List.mem_cons.1 hz with rfl | hz
              · exact hyx
              · obtain ⟨v, hv, rfl⟩ := List.mem_iff_getElem.1 hz
                rw [List.length_drop] at hv
                rw [List.getElem_drop]; exact hyx.trans hO (hq1 _ (by omega) (by omega))
    · -- both sides have more
      rw [half (i := P.length) (j := P.length + L.length + X.length) (by omega)]
      have hmid : (P.length + (P.length + L.length + X.length)) / 2 = P.length + (L.length + X.length) / 2 := by omega
      rw [hmid]
      generalize hH : (L.length + X.length) / 2 = H at *
      have wn : wrapI (((P.length + H : Nat) : Int) + ((P.length + L.length : Nat) : Int)) = ((P.length + H + (P.length + L.length) : Nat) : Int) := by rw [wrapI_eq (by omega) (by omega)]; omega
      rw [wn]
      have wp : wrapI (((P.length + H + (P.length + L.length) : Nat) : Int) - 1) = ((P.length + H + (P.length + L.length) - 1 : Nat) : Int) := by rw [wrapI_eq (by omega) (by omega)]; omega
      rw [wp]
      refine join.named fun J hJ => ?_
      have main : ∀ u0 v0 : Nat, u0 = H - X.length → v0 = min L.length H → J ((P.length + u0 : Nat) : Int) ((P.length + v0 : Nat) : Int) w := fun u0 v0 hu0 hv0 => by
        subst hJ
        show loop2 _ _ _ _
        refine ⟨fun i j w' => ∃ s r : Nat, i = ((P.length + s : Nat) : Int) ∧ j = ((P.length + r : Nat) : Int) ∧ u0 ≤ s ∧ s ≤ r ∧ r ≤ v0 ∧ (∀ (u : Nat) (h1 : u < L.length) (h2 : H - 1 - u < X.length), u0 ≤ u → u < s → Ah c L[u] X[H - 1 - u]) ∧ (∀ (u : Nat) (h1 : u < L.length) (h2 : H - 1 - u < X.length), r ≤ u → u < v0 → Ah c X[H - 1 - u] L[u]) ∧ Ext w w',
          fun i j _ => (j - i).toNat, ⟨u0, v0, rfl, rfl, Nat.le_refl _, by omega, Nat.le_refl _, fun u _ _ h1 h2 => by omega, fun u _ _ h1 h2 => by omega, Ext.refl _⟩, ?_⟩
        rintro _ _ w1 ⟨s, r, rfl, rfl, hs0, hsr, hrv, hs1, hr1, x1⟩
        refine ⟨fun hlt => bnd.drew fun w2 x2 => ?_, fun hge => ?_⟩
        · rw [half (by omega)]
          have he : (P.length + s + (P.length + r)) / 2 = P.length + (s + r) / 2 := by omega
          rw [he]
          generalize hu : (s + r) / 2 = u at *
          have huL : u < L.length := by omega
          have huX : H - 1 - u < X.length := by omega
          have wpc : wrapI (((P.length + H + (P.length + L.length) - 1 : Nat) : Int) - ((P.length + u : Nat) : Int)) = ((P.length + L.length + (H - 1 - u) : Nat) : Int) := by rw [wrapI_eq (by omega) (by omega)]; omega
          rw [wpc]
          have hB2 := hB.ext (x1.trans x2)
          have gx := hB2.ld' fc_len (eX _ huX)
          have gy := hB2.ld' fc_len (eL _ huL)
          have hright := Ah.right hO (hid _ (List.getElem_mem huL) _ (List.getElem_mem huX))
          refine ⟨_, ⟨hd, by omega, by omega⟩, _, _, _, gx, _, ⟨hd, by omega, by omega⟩, _, _, _, gy, hc _ _ w2 _ (refl.ext' (x1.trans x2)) fun w3 x3 => ⟨_, rfl, fun h => ?_, fun h => ?_⟩⟩
          · have hA := hright.2 h
            rw [wrapI_eq (by omega) (by omega)]
            refine ⟨⟨u + 1, r, by omega, rfl, by omega, by omega, hrv, fun t h1 h2 h3 h4 => ?_, hr1, x1.trans (x2.trans x3)⟩, by show Int.toNat _ < Int.toNat _; omega⟩
            rcases Nat.lt_succ_iff_lt_or_eq.1 h4 with h' | rfl
            · exact ((List.pairwise_iff_getElem.1 hL t u h1 huL h').trans hO hA).trans hO (List.pairwise_iff_getElem.1 hX (H - 1 - u) (H - 1 - t) huX h2 (by omega))
            · exact hA
          · have hA := hright.1 (Classical.not_not.1 h)
            refine ⟨⟨s, u, rfl, rfl, hs0, by omega, by omega, hs1, fun t h1 h2 h3 h4 => ?_, x1.trans (x2.trans x3)⟩, by show Int.toNat _ < Int.toNat _; omega⟩
            rcases Nat.lt_or_eq_of_le h3 with h' | rfl
            · exact ((List.pairwise_iff_getElem.1 hX (H - 1 - t) (H - 1 - u) h2 huX (by omega)).trans hO hA).trans hO (List.pairwise_iff_getElem.1 hL u t huL h1 h')
            · exact hA
        · have hsr' : s = r := by omega
          subst hsr'
          have hsL : s ≤ L.length := by omega
          have hsH : s ≤ H := by omega
          have hHX : H - s ≤ X.length := by omega
          have wend : wrapI (((P.length + H + (P.length + L.length) : Nat) : Int) - ((P.length + s : Nat) : Int)) = ((P.length + L.length + (H - s) : Nat) : Int) := by rw [wrapI_eq (by omega) (by omega)]; omega
          rw [wend]
          have cr1 : ∀ x ∈ L.take s, ∀ y ∈ X.drop (H - s), Ah c x y := fun x hx y hy => by
            obtain ⟨i, hi, rfl⟩ := List.mem_iff_getElem.1 hx
            obtain ⟨j, hj, rfl⟩ := List.mem_iff_getElem.1 hy
            rw [List.length_take] at hi; rw [List.length_drop] at hj
            rw [List.getElem_take, List.getElem_drop]
            have k1 := hs1 (s - 1) (by omega) (by omega) (by omega) (by omega)
            have e : H - 1 - (s - 1) = H - s := by omega
            have k2 : Ah c L[i] X[H - s] := by
              rcases Nat.lt_or_eq_of_le (show i ≤ s - 1 by omega) with h | h
              · have := (List.pairwise_iff_getElem.1 hL i (s - 1) (by omega) (by omega) h).trans hO k1
                simpa only [e] using this
              · subst h; simpa only [e] using k1
            rcases Nat.eq_zero_or_pos j with h | h
            · subst h; exact k2
            · exact k2.trans hO (List.pairwise_iff_getElem.1 hX (H - s) (H - s + j) (by omega) (by omega) (by omega))
          have cr2 : ∀ y ∈ X.take (H - s), ∀ x ∈ L.drop s, Ah c y x := fun y hy x hx => by
            obtain ⟨i, hi, rfl⟩ := List.mem_iff_getElem.1 hx
            obtain ⟨j, hj, rfl⟩ := List.mem_iff_getElem.1 hy
            rw [List.length_drop] at hi; rw [List.length_take] at hj
            rw [List.getElem_take, List.getElem_drop]
            have k1 := hr1 s (by omega) (by omega) (Nat.le_refl _) (by omega)
            have k2 : Ah c X[j] L[s] := by
              rcases Nat.lt_or_eq_of_le (show j ≤ H - 1 - s by omega) with h | h
              · exact (List.pairwise_iff_getElem.1 hX j (H - 1 - s) (by omega) (by omega) h).trans hO k1
              · subst h; exact k1
            rcases Nat.eq_zero_or_pos i with h | h
            · subst h; exact k2
            · exact k2.trans hO (List.pairwise_iff_getElem.1 hL s (s + i) (by omega) (by omega) (by omega))
          have lt1 : (L.take s).length = s := by rw [List.length_take]; omega
          have lt2 : (X.take (H - s)).length = H - s := by rw [List.length_take]; omega
          have lt3 : (L.drop s).length = L.length - s := List.length_drop
          have lt4 : (X.drop (H - s)).length = X.length - (H - s) := List.length_drop
          have sL1 := hL.sublist (List.take_sublist s L)
          have sL2 := hL.sublist (List.drop_sublist s L)
          have sX1 := hX.sublist (List.take_sublist (H - s) X)
          have sX2 := hX.sublist (List.drop_sublist (H - s) X)
          have id1 : ∀ x ∈ L.take s, ∀ y ∈ X.take (H - s), x.2 < y.2 := fun x hx y hy => hid x (List.mem_of_mem_take hx) y (List.mem_of_mem_take hy)
          have id2 : ∀ x ∈ L.drop s, ∀ y ∈ X.drop (H - s), x.2 < y.2 := fun x hx y hy => hid x (List.mem_of_mem_drop hx) y (List.mem_of_mem_drop hy)
          have eLs : L = L.take s ++ L.drop s := (List.take_append_drop _ _).symm
          have eXs : X = X.take (H - s) ++ X.drop (H - s) := (List.take_append_drop _ _).symm
          have hLX : L.take s = [] ∨ 0 < s := by rcases Nat.eq_zero_or_pos s with h | h; · exact .inl (by rw [h]; rfl)
                                                 · exact .inr h
          have permAll : ∀ M1 M2 : List El, M1.Perm (L.take s ++ X.take (H - s)) → M2.Perm (L.drop s ++ X.drop (H - s)) → (M1 ++ M2).Perm (L ++ X) := fun M1 M2 h1 h2 => by
            refine (h1.append h2).trans ?_
            conv => rhs; rw [eLs, eXs]
            rw [List.append_assoc, List.append_assoc]
            refine List.Perm.append_left _ ?_
            rw [← List.append_assoc, ← List.append_assoc]
            exact List.Perm.append_right _ List.perm_append_comm
          have sortAll : ∀ M1 M2 : List El, M1.Perm (L.take s ++ X.take (H - s)) → M2.Perm (L.drop s ++ X.drop (H - s)) → M1.Pairwise (Ah c) → M2.Pairwise (Ah c) → (M1 ++ M2).Pairwise (Ah c) := fun M1 M2 h1 h2 s1 s2 =>
            List.pairwise_append.2 ⟨s1, s2, fun x hx y hy => by
              rcases List.mem_append.1 (h1.mem_iff.1 hx) with hx | hx <;> rcases List.mem_append.1 (h2.mem_iff.1 hy) with hy | hy
              · obtain ⟨i, hi, rfl⟩ := List.mem_iff_getElem.1 hx
                obtain ⟨j, hj, rfl⟩ := List.mem_iff_getElem.1 hy
                rw [lt1] at hi; rw [lt3] at hj
                rw [List.getElem_take, List.getElem_drop]
                exact List.pairwise_iff_getElem.1 hL i (s + j) (by omega) (by omega) (by omega)
              · exact cr1 x hx y hy
              · exact cr2 x hx y hy
              · obtain ⟨i, hi, rfl⟩ := List.mem_iff_getElem.1 hx
                obtain ⟨j, hj, rfl⟩ := List.mem_iff_getElem.1 hy
                rw [lt2] at hi; rw [lt4] at hj
                rw [List.getElem_take, List.getElem_drop]
                exact List.pairwise_iff_getElem.1 hX i (H - s + j) (by omega) (by omega) (by omega)⟩
          generalize L.take s = L1 at *
          generalize L.drop s = L2 at *
          generalize X.take (H - s) = X1 at *
          generalize X.drop (H - s) = X2 at *
          have b1 : But g w w1 := refl.ext' x1
          have hB1 := hB.ext x1
          refine join.named fun J2 hJ2 => ?_
          have k2 : ∀ w2, But g w w2 → RowB fc w2 g (P ++ L1 ++ X1 ++ (L2 ++ X2 ++ Q)) tail → J2 w2 := fun w2 b2 hB2 => by
            subst hJ2
            refine join.named fun J3 hJ3 => bound ?_
            have k3 : ∀ w3 M1, But g w w3 → M1.Perm (L1 ++ X1) → M1.Pairwise (Ah c) → RowB fc w3 g (P ++ M1 ++ (L2 ++ X2 ++ Q)) tail → J3 w3 := fun w3 M1 b3 hp1 so1 hB3 => by
              subst hJ3
              have lM : M1.length = H := by rw [hp1.length_eq, List.length_append]; omega
              refine bound ⟨fun h => ?_, fun h => ?_⟩
              · simp only [Bool.and_eq_true, decide_eq_true_eq] at h
                refine SE.slices_symMergeCmpFunc_apiWant.go (symMerge_se hO hd hbig N (P := P ++ M1) (L := L2) (X := X2) (Q := Q) (by omega) (hc.but b3) (by simp only [List.length_append]; omega) (by simpa only [List.append_assoc] using hB3) (by rw [List.length_append]; omega) (by rw [List.length_append]; omega) (by rw [List.length_append]; omega) (by omega) (by omega) sL2 sX2 id2 fun w4 M2 b4 hp2 so2 hB4 => ⟨rfl, ?_⟩)
                exact hR w4 (M1 ++ M2) (b3.trans b4) (permAll M1 M2 hp1 hp2) (sortAll M1 M2 hp1 hp2 so1 so2) (by simpa only [List.append_assoc] using hB4)
              · simp only [Bool.and_eq_false_iff, decide_eq_false_iff_not] at h
                refine hR w3 (M1 ++ (L2 ++ X2)) b3 (permAll M1 _ hp1 (List.Perm.refl _)) (sortAll M1 _ hp1 (List.Perm.refl _) so1 ?_) (by simpa only [List.append_assoc] using hB3)
                have : L2 = [] ∨ X2 = [] := by
                  rcases h with h | h
                  · exact .inl (List.eq_nil_of_length_eq_zero (by omega))
                  · exact .inr (List.eq_nil_of_length_eq_zero (by omega))
                rcases this with rfl | rfl
                · simpa using sX2
                · simpa using sL2
            refine ⟨fun h => ?_, fun h => ?_⟩
            · simp only [Bool.and_eq_true, decide_eq_true_eq] at h
              refine SE.slices_symMergeCmpFunc_apiWant.go (symMerge_se hO hd hbig N (P := P) (L := L1) (X := X1) (Q := L2 ++ X2 ++ Q) (by omega) (hc.but b2) (by simp only [List.length_append]; omega) (by simpa only [List.append_assoc] using hB2) rfl (by omega) (by omega) (by omega) (by omega) sL1 sX1 id1 fun w4 M1 b4 hp1 so1 hB4 => ⟨rfl, k3 w4 M1 (b2.trans b4) hp1 so1 hB4⟩)
            · simp only [Bool.and_eq_false_iff, decide_eq_false_iff_not] at h
              refine k3 w2 (L1 ++ X1) b2 (List.Perm.refl _) ?_ (by simpa only [List.append_assoc] using hB2)
              have : L1 = [] ∨ X1 = [] := by
                rcases h with h | h
                · exact .inl (List.eq_nil_of_length_eq_zero (by omega))
                · exact .inr (List.eq_nil_of_length_eq_zero (by omega))
              rcases this with rfl | rfl
              · simpa using sX1
              · simpa using sL1
          rw [eLs, eXs] at hB1
          refine bound ⟨fun h => ?_, fun h => ?_⟩
          · simp only [Bool.and_eq_true, decide_eq_true_eq] at h
            refine SE.slices_rotateCmpFunc_apiWant.go (rotate_se (P := P ++ L1) (X := L2) (Y := X1) (Q := X2 ++ Q) hd (by simp only [List.length_append]; omega) hbig (by simpa only [List.append_assoc] using hB1) (by rw [List.length_append]; omega) (by rw [List.length_append]; omega) (by rw [List.length_append]; omega) (by omega) (by omega) fun w2 b2 hB2 => ⟨rfl, k2 w2 (b1.trans b2) (by simpa only [List.append_assoc] using hB2)⟩)
          · simp only [Bool.and_eq_false_iff, decide_eq_false_iff_not] at h
            refine k2 w1 b1 ?_
            have : L2 = [] ∨ X1 = [] := by
              rcases h with h | h
              · exact .inl (List.eq_nil_of_length_eq_zero (by omega))
              · exact .inr (List.eq_nil_of_length_eq_zero (by omega))
            rcases this with rfl | rfl
            · simpa only [List.append_assoc, List.append_nil, List.nil_append] using hB1
            · simpa only [List.append_assoc, List.append_nil, List.nil_append] using hB1
      refine ⟨fun h => ?_, fun h => ?_⟩
      · have := main (H - X.length) H rfl (by omega)
        have e : wrapI (((P.length + H + (P.length + L.length) : Nat) : Int) - ((P.length + L.length + X.length : Nat) : Int)) = ((P.length + (H - X.length) : Nat) : Int) := by rw [wrapI_eq (by omega) (by omega)]; omega
        rw [e]; exact this
      · have := main 0 L.length (by omega) (by omega)
        exact this
theorem ids {z0 : List El} (hz : z0.Pairwise fun x y => x.2 < y.2) {i n j m : Nat} (h : i + n ≤ j) : ∀ x ∈ sg z0 i n, ∀ y ∈ sg z0 j m, x.2 < y.2 := fun x hx y hy => by
  obtain ⟨a, ha, _, ha2, rfl⟩ := sg_mem hx
  obtain ⟨b, hb, hb1, _, rfl⟩ := sg_mem hy
  exact List.pairwise_iff_getElem.1 hz a b ha hb (by omega)
set_option maxHeartbeats 4000000 in
theorem stable_se (hO : Ord3 c) {data : Sl} {tail : List Value} {w : World} {R : World → Prop} {z0 : List El} {n : Int} (hd : data.a = some ⟨g, 0, none⟩) (hbig : data.len < 2305843009213693952) (hc : CmpOk cmp c g w) (hlen : data.len = z0.length) (hn : n = (z0.length : Int)) (hB : RowB fc w g z0 tail)
    (hz : z0.Pairwise fun x y => x.2 < y.2) (hR : ∀ w' M, But g w w' → M.Perm z0 → M.Pairwise (Ah c) → RowB fc w' g M tail → R w') : SE.slices_stableCmpFunc_apiWant data n cmp w R := by
  unfold SE.slices_stableCmpFunc_apiWant
  subst hn
  have refl : But g w w := ⟨Nat.le_refl _, rfl, rfl, rfl, fun _ _ _ => rfl⟩
  refine ⟨fun a b w' => ∃ (k : Nat) (z : List El), a = ((k * 20 : Nat) : Int) ∧ b = ((k * 20 + 20 : Nat) : Int) ∧ k * 20 ≤ z0.length ∧ z.length = z0.length ∧ z.drop (k * 20) = z0.drop (k * 20) ∧ Chunks c 20 z z0 k ∧ But g w w' ∧ RowB fc w' g z tail,
    fun a _ _ => z0.length - a.toNat, ⟨0, z0, rfl, rfl, by omega, rfl, rfl, ⟨fun i h => by omega, fun i h => by omega⟩, refl, hB⟩, ?_⟩
  rintro _ _ w1 ⟨k, z, rfl, rfl, hk, hzl, hdr, hch, b1, hB1⟩
  have la : (z.take (k * 20)).length = k * 20 := by rw [List.length_take]; omega
  refine ⟨fun hle => ?_, fun hgt => ?_⟩
  · have hsg : sg z (k * 20) 20 = sg z0 (k * 20) 20 := by unfold sg; rw [hdr]
    have hs := sg_split z (k * 20) 20
    have hsl : (sg z (k * 20) 20).length = 20 := sg_len (by omega)
    rw [hs] at hB1
    refine SE.slices_insertionSortCmpFunc_apiWant.go (insertion_se hO (A := z.take (k * 20)) (M0 := sg z (k * 20) 20) (B := z.drop (k * 20 + 20)) (hc.but b1) hd (by rw [← hs, hzl]; exact hlen) (by omega) hB1 (by rw [la]) (by rw [la, hsl]) (by rw [hsg]; exact hz.sublist ((List.take_sublist _ _).trans (List.drop_sublist _ _))) fun w2 M b2 hp hso hB2 => ⟨rfl, ?_⟩)
    have hMl : M.length = 20 := by rw [hp.length_eq, hsl]
    rw [wrapI_eq (by omega) (by omega)]
    refine ⟨⟨k + 1, z.take (k * 20) ++ M ++ z.drop (k * 20 + 20), by omega, by omega, by omega, ?_, ?_, ?_, b1.trans b2, hB2⟩, by show _ - Int.toNat _ < _ - Int.toNat _; omega⟩
    · simp only [List.length_append, List.length_drop, la, hMl]; omega
    · rw [List.drop_left' (by rw [List.length_append, la, hMl]; omega), show k * 20 + 20 = (k + 1) * 20 by omega]
      rw [show (k + 1) * 20 = k * 20 + 20 by omega, ← List.drop_drop, hdr, List.drop_drop]
    · constructor
      · intro i hi
        rcases Nat.lt_succ_iff_lt_or_eq.1 hi with h | rfl
        · rw [sg_left (by rw [la]; omega)]
          have := hch.perm i h
          rw [hs, sg_left (by rw [la]; omega)] at this
          exact this
        · rw [sg_self la hMl, ← hsg]; exact hp
      · intro i hi
        rcases Nat.lt_succ_iff_lt_or_eq.1 hi with h | rfl
        · rw [sg_left (by rw [la]; omega)]
          have := hch.sort i h
          rw [hs, sg_left (by rw [la]; omega)] at this
          exact this
        · rw [sg_self la hMl]; exact hso
  · have hs : z = z.take (k * 20) ++ z.drop (k * 20) ++ [] := by rw [List.append_nil, List.take_append_drop]
    have hdl : (z.drop (k * 20)).length = z0.length - k * 20 := by rw [List.length_drop, hzl]
    rw [hs] at hB1
    refine SE.slices_insertionSortCmpFunc_apiWant.go (insertion_se hO (A := z.take (k * 20)) (M0 := z.drop (k * 20)) (B := []) (hc.but b1) hd (by rw [← hs, hzl]; exact hlen) (by omega) hB1 (by rw [la]) (by rw [la, hdl]; omega) (by rw [hdr]; exact hz.sublist (List.drop_sublist _ _)) fun w2 M b2 hp hso hB2 => ⟨rfl, ?_⟩)
    have hMl : M.length = z0.length - k * 20 := by rw [hp.length_eq, hdl]
    rw [List.append_nil] at hB2
    have hch0 : ∀ j, Chunks c 20 (z.take (k * 20) ++ M) z0 j := fun j => by
      have hsg : sg z (k * 20) 20 = z.drop (k * 20) := by unfold sg; rw [List.take_of_length_le (by omega)]
      have hsg0 : sg z0 (k * 20) 20 = z0.drop (k * 20) := by unfold sg; rw [List.take_of_length_le (by rw [List.length_drop]; omega)]
      constructor
      · intro i _
        rcases Nat.lt_trichotomy i k with h | rfl | h
        · have := hch.perm i h
          rw [hs, sg_left (by rw [la]; omega)] at this
          rw [← List.append_nil (z.take (k * 20) ++ M), sg_left (by rw [la]; omega)]
          exact this
        · rw [sg_last la (by omega), hsg0, ← hdr]; exact hp
        · have : k + 1 ≤ i := h
          rw [sg_nil (by rw [List.length_append, la]; omega), sg_nil (by omega)]
      · intro i _
        rcases Nat.lt_trichotomy i k with h | rfl | h
        · have := hch.sort i h
          rw [hs, sg_left (by rw [la]; omega)] at this
          rw [← List.append_nil (z.take (k * 20) ++ M), sg_left (by rw [la]; omega)]
          exact this
        · rw [sg_last la (by omega)]; exact hso
        · have : k + 1 ≤ i := h
          rw [sg_nil (by rw [List.length_append, la]; omega)]
          exact .nil
    have hzl1 : (z.take (k * 20) ++ M).length = z0.length := by rw [List.length_append, la]; omega
    generalize z.take (k * 20) ++ M = z1 at *
    have b02 := b1.trans b2
    clear hp hso hMl
    refine ⟨fun bs w' => ∃ (s : Nat) (z : List El), bs = (s : Int) ∧ 0 < s ∧ s < 2 * z0.length + 40 ∧ z.length = z0.length ∧ (∀ j, Chunks c s z z0 j) ∧ But g w w' ∧ RowB fc w' g z tail, fun bs _ => 2 * z0.length + 40 - bs.toNat, ⟨20, z1, rfl, by omega, by omega, hzl1, hch0, b02, hB2⟩, ?_⟩
    rintro _ w3 ⟨s, z2, rfl, hs0, hsb, hzl2, hch2, b3, hB3⟩
    refine ⟨fun hlt => ?_, fun hge => ?_⟩
    · have hsn : s < z0.length := by omega
      rw [wrapI_eq (x := 2 * (s : Int)) (by omega) (by omega)]
      refine ⟨fun a b w' => ∃ (k : Nat) (z : List El), a = ((k * (2 * s) : Nat) : Int) ∧ b = ((k * (2 * s) + 2 * s : Nat) : Int) ∧ k * (2 * s) ≤ z0.length ∧ z.length = z0.length ∧ z.drop (k * (2 * s)) = z2.drop (k * (2 * s)) ∧ Chunks c (2 * s) z z0 k ∧ But g w w' ∧ RowB fc w' g z tail,
        fun a _ _ => z0.length - a.toNat, ⟨0, z2, by simp, by simp, by omega, hzl2, by simp, ⟨fun i h => by omega, fun i h => by omega⟩, b3, hB3⟩, ?_⟩
      rintro _ _ w4 ⟨k, z, rfl, rfl, hk, hzl4, hdr4, hch4, b4, hB4⟩
      generalize hK : k * (2 * s) = K at *
      have la4 : (z.take K).length = K := by rw [List.length_take]; omega
      have e2k : 2 * k * s = K := by rw [← hK, Nat.mul_comm 2 k, Nat.mul_assoc]
      have e2k1 : (2 * k + 1) * s = K + s := by rw [Nat.add_mul, e2k, Nat.one_mul]
      have p1 := (hch2 (2 * k + 2)).perm (2 * k) (by omega); have p2 := (hch2 (2 * k + 2)).perm (2 * k + 1) (by omega)
      have s1 := (hch2 (2 * k + 2)).sort (2 * k) (by omega); have s2 := (hch2 (2 * k + 2)).sort (2 * k + 1) (by omega)
      rw [e2k] at p1 s1; rw [e2k1] at p2 s2
      have g1 : sg z K s = sg z2 K s := by unfold sg; rw [hdr4]
      have g2 : sg z (K + s) s = sg z2 (K + s) s := by unfold sg; rw [← List.drop_drop, hdr4, List.drop_drop]
      rw [← g1] at p1 s1; rw [← g2] at p2 s2
      have hids : ∀ x ∈ sg z K s, ∀ y ∈ sg z (K + s) s, x.2 < y.2 := fun x hx y hy => ids hz (Nat.le_refl _) x (p1.mem_iff.1 hx) y (p2.mem_iff.1 hy)
      have wks : wrapI ((K : Int) + (s : Int)) = ((K + s : Nat) : Int) := by rw [wrapI_eq (by omega) (by omega)]; omega
      have grow : ∀ (z' M B : List El) (m : Nat), z' = z.take K ++ M ++ B → M.length = m → M.Perm (sg z K s ++ sg z (K + s) s) → M.Pairwise (Ah c) → (m = 2 * s ∨ B = []) → m ≤ 2 * s → Chunks c (2 * s) z' z0 (k + 1) := fun z' M B m hz' hm hp hso hmB hm2 => by
        have e : sg z' K (2 * s) = M := by
          subst hz'
          rcases hmB with h | h
          · exact sg_self la4 (by omega)
          · subst h; rw [List.append_nil]; exact sg_last la4 (by omega)
        have e0 : sg z0 K (2 * s) = sg z0 K s ++ sg z0 (K + s) s := by rw [show 2 * s = s + s by omega, sg_app]
        have el : ∀ i, i < k → sg z' (i * (2 * s)) (2 * s) = sg z (i * (2 * s)) (2 * s) := fun i h => by
          have hle : i * (2 * s) + 2 * s ≤ K := by
            have := Nat.mul_le_mul_right (2 * s) (show i + 1 ≤ k from h)
            rw [Nat.add_mul, hK, Nat.one_mul] at this; exact this
          have h1 : sg z (i * (2 * s)) (2 * s) = sg (z.take K) (i * (2 * s)) (2 * s) := by
            conv => lhs; rw [show z = z.take K ++ z.drop K ++ [] by rw [List.append_nil, List.take_append_drop]]
            exact sg_left (by rw [la4]; exact hle)
          rw [h1, hz', sg_left (by rw [la4]; exact hle)]
        constructor
        · intro i hi
          rcases Nat.lt_succ_iff_lt_or_eq.1 hi with h | rfl
          · rw [el i h]; exact hch4.perm i h
          · rw [hK, e, e0]; exact hp.trans (p1.append p2)
        · intro i hi
          rcases Nat.lt_succ_iff_lt_or_eq.1 hi with h | rfl
          · rw [el i h]; exact hch4.sort i h
          · rw [hK, e]; exact hso
      refine ⟨fun hle => ?_, fun hgt4 => ?_⟩
      · have hs4 : z = z.take K ++ sg z K s ++ sg z (K + s) s ++ z.drop (K + 2 * s) := by
          have := sg_split z K (2 * s)
          rw [show 2 * s = s + s by omega, sg_app] at this
          rw [show 2 * s = s + s by omega]
          simpa only [List.append_assoc] using this
        have l1 : (sg z K s).length = s := sg_len (by omega)
        have l2 : (sg z (K + s) s).length = s := sg_len (by omega)
        rw [wks]
        rw [hs4] at hB4
        refine SE.slices_symMergeCmpFunc_apiWant.go (symMerge_se hO hd (by omega) _ (P := z.take K) (L := sg z K s) (X := sg z (K + s) s) (Q := z.drop (K + 2 * s)) (Nat.le_refl _) (hc.but b4) (by rw [← hs4, hzl4]; exact hlen) hB4 (by rw [la4]) (by rw [la4, l1]) (by rw [la4, l1, l2]; omega) (by omega) (by omega) s1 s2 hids fun w5 M b5 hp hso hB5 => ⟨rfl, ?_⟩)
        have hMl : M.length = 2 * s := by rw [hp.length_eq, List.length_append]; omega
        rw [wrapI_eq (by omega) (by omega)]
        have hK1 : (k + 1) * (2 * s) = K + 2 * s := by rw [Nat.add_mul, hK, Nat.one_mul]
        refine ⟨⟨k + 1, z.take K ++ M ++ z.drop (K + 2 * s), by omega, by omega, by omega, ?_, ?_, grow _ M _ (2 * s) rfl hMl hp hso (.inl rfl) (Nat.le_refl _), b4.trans b5, hB5⟩, by show _ - Int.toNat _ < _ - Int.toNat _; omega⟩
        · simp only [List.length_append, List.length_drop, la4, hMl]; omega
        · rw [hK1, List.drop_left' (by rw [List.length_append, la4, hMl]), ← List.drop_drop, hdr4, List.drop_drop]
      · refine join.named fun J hJ => ?_
        have kJ : ∀ w' z', But g w w' → z'.length = z0.length → Chunks c (2 * s) z' z0 (k + 1) → RowB fc w' g z' tail → J w' := fun w' z' b' hl' hch' hB' => by
          subst hJ
          have e : wrapI ((s : Int) * 2) = ((2 * s : Nat) : Int) := by rw [wrapI_eq (by omega) (by omega)]; omega
          rw [e]
          have hK1 : (k + 1) * (2 * s) = K + 2 * s := by rw [Nat.add_mul, hK, Nat.one_mul]
          refine ⟨⟨2 * s, z', rfl, by omega, by omega, hl', fun j => ⟨fun i _ => ?_, fun i _ => ?_⟩, b', hB'⟩, by show _ - Int.toNat _ < _ - Int.toNat _; omega⟩
          · by_cases h : i < k + 1
            · exact hch'.perm i h
            · have := Nat.mul_le_mul_right (2 * s) (show k + 1 ≤ i by omega)
              rw [sg_nil (by omega), sg_nil (by omega)]
          · by_cases h : i < k + 1
            · exact hch'.sort i h
            · have := Nat.mul_le_mul_right (2 * s) (show k + 1 ≤ i by omega)
              rw [sg_nil (by omega)]
              exact .nil
        rw [wks]
        have hdK : z.drop K = sg z K s ++ sg z (K + s) s := by
          rw [← sg_app]; unfold sg; rw [List.take_of_length_le (by rw [List.length_drop]; omega)]
        refine ⟨fun hlt4 => ?_, fun hge4 => ?_⟩
        · have hs4 : z = z.take K ++ sg z K s ++ sg z (K + s) s ++ [] := by
            rw [List.append_nil, List.append_assoc, ← hdK, List.take_append_drop]
          have l1 : (sg z K s).length = s := sg_len (by omega)
          have l2 : (sg z K s).length + (sg z (K + s) s).length = z0.length - K := by rw [← List.length_append, ← hdK, List.length_drop, hzl4]
          rw [hs4] at hB4
          refine SE.slices_symMergeCmpFunc_apiWant.go (symMerge_se hO hd (by omega) _ (P := z.take K) (L := sg z K s) (X := sg z (K + s) s) (Q := []) (Nat.le_refl _) (hc.but b4) (by rw [← hs4, hzl4]; exact hlen) hB4 (by rw [la4]) (by rw [la4, l1]) (by rw [la4]; omega) (by omega) (by omega) s1 s2 hids fun w5 M b5 hp hso hB5 => ⟨rfl, ?_⟩)
          have hMl : M.length = z0.length - K := by rw [hp.length_eq, List.length_append]; exact l2
          exact kJ w5 _ (b4.trans b5) (by simp only [List.length_append, List.length_nil, la4, hMl]; omega) (grow _ M [] _ rfl hMl hp hso (.inr rfl) (by omega)) hB5
        · have e0 : sg z (K + s) s = [] := sg_nil (by omega)
          refine kJ w4 z b4 hzl4 (grow z (z.drop K) [] _ (by rw [List.append_nil, List.take_append_drop]) rfl (by rw [hdK]) ?_ (.inr rfl) (by rw [List.length_drop]; omega)) hB4
          rw [hdK, e0, List.append_nil]; exact s1
    · have e : sg z2 (0 * s) s = z2 := by rw [Nat.zero_mul]; unfold sg; rw [List.drop_zero, List.take_of_length_le (by omega)]
      have e0 : sg z0 (0 * s) s = z0 := by rw [Nat.zero_mul]; unfold sg; rw [List.drop_zero, List.take_of_length_le (by omega)]
      have p := (hch2 1).perm 0 (by omega); have so := (hch2 1).sort 0 (by omega)
      rw [e] at p so
      rw [e0] at p
      exact hR w3 z2 b3 p so hB3
theorem sortStable_se (hO : Ord3 c) {data : Sl} {tail : List Value} {w : World} {R : World → Prop} {l : List WantC} (hd : data.a = some ⟨g, 0, none⟩) (hbig : data.len < 2305843009213693952) (hc : CmpOk cmp c g w) (hlen : data.len = l.length) (hB : RowB cells w g l tail)
    (hR : ∀ w', But g w w' → RowB cells w' g (stSort c l) tail → R w') : SE.slices_SortStableFunc_apiWantapiWant data cmp w R := by
  unfold SE.slices_SortStableFunc_apiWantapiWant
  have hB' : RowB fc w g (nums 0 l) tail := by
    unfold RowB at hB ⊢
    have : (nums 0 l).map fc = l.map cells := by
      have h := congrArg (List.map cells) (nums_fst 0 l)
      rw [List.map_map] at h; exact h
    rw [this]; exact hB
  refine SE.slices_stableCmpFunc_apiWant.go (stable_se hO hd hbig hc (by rw [nums_len]; exact hlen) (by rw [nums_len, hlen]) hB' (nums_rise 0 l) fun w2 M b2 hp hs hB2 => ⟨rfl, hR w2 b2 ?_⟩)
  have e := stSort_of hO hp hs
  unfold RowB at hB2 ⊢
  have : M.map fc = (stSort c l).map cells := by rw [← e, List.map_map]; rfl
  rw [← this]; exact hB2
theorem sortStable_nil {data : Sl} {w : World} {R : World → Prop} (h0 : data.len = 0) (hR : R w) : SE.slices_SortStableFunc_apiWantapiWant data cmp w R := by
  unfold SE.slices_SortStableFunc_apiWantapiWant
  rw [h0]
  refine SE.slices_stableCmpFunc_apiWant.go ?_
  unfold SE.slices_stableCmpFunc_apiWant
  refine ⟨fun a b w' => a = 0 ∧ b = 20 ∧ w' = w, fun _ _ _ => 0, ⟨rfl, rfl, rfl⟩, ?_⟩
  rintro _ _ w1 ⟨rfl, rfl, hw1⟩
  subst hw1
  refine ⟨fun h => by simp at h, fun _ => SE.slices_insertionSortCmpFunc_apiWant.go ?_⟩
  unfold SE.slices_insertionSortCmpFunc_apiWant
  refine ⟨fun a w' => a = 1 ∧ w' = w1, fun _ _ => 0, ⟨by decide, rfl⟩, ?_⟩
  rintro _ w2 ⟨rfl, hw2⟩
  subst hw2
  refine ⟨fun h => by simp at h, fun _ => ⟨rfl, ?_⟩⟩
  refine ⟨fun a w' => a = 20 ∧ w' = w2, fun _ _ => 0, ⟨rfl, rfl⟩, ?_⟩
  rintro _ w3 ⟨rfl, hw3⟩
  subst hw3
  exact ⟨fun h => by simp at h, fun _ => ⟨rfl, hR⟩⟩
end
end StW
end Go.Hal
namespace Go.Hal
open Go Go.RowKit Go.Proofs Go.Shelf
theorem may_lists {x : Pack} (h : packMay x = true) : nameMay x.name = true ∧ x.v.may = true ∧ depsMay x.deps = true ∧ depsMay x.peers = true ∧ depsMay x.opt = true := by
  unfold packMay listsMay at h
  simp only [Bool.and_eq_true] at h
  exact ⟨h.1.1.1.1.1, h.1.1.1.1.2, h.1.1.1.2, h.1.1.2, h.1.2⟩
theorem peers_names (over l : List Dep) : (peersOf over l).map (·.name) = l.map (·.name) := by unfold peersOf; rw [List.map_map]; rfl
theorem ctx_bound {L : List Pack} (hg : GoodL L) {over : List Dep} {env : List Pin} {p : Pin} {i : Nat} {out : List Pin} (h : CtxI (getL L) over env p i out) : out.length ≤ 2048 := by
  have h1 := nodup_le (m := L.flatMap fun x => x.peers.map (·.name)) h.names fun n hn => by
    obtain ⟨r, hr, rfl⟩ := List.mem_map.1 hn
    have key : ∀ r, Reach (getL L) over env p r → r.name ∈ L.flatMap fun x => x.peers.map (·.name) := fun r hr => by
      have ask : ∀ q r, Asks (getL L) over env q r → r.name ∈ L.flatMap fun x => x.peers.map (·.name) := fun q r ⟨x, d, hx, hd, hn, _⟩ => by
        refine List.mem_flatMap.2 ⟨x, (getL_some hx).1, ?_⟩
        rw [← peers_names over, hn]
        exact List.mem_map_of_mem hd
      cases hr with
      | one ha => exact ask _ _ ha
      | more _ ha => exact ask _ _ ha
    exact key r (h.reach r hr)
  have h2 : ∀ L : List Pack, (∀ x ∈ L, packMay x = true) → (L.flatMap fun x => x.peers.map (·.name)).length ≤ 16 * L.length := fun L => by
    induction L with
    | nil => intro _; simp
    | cons x r ih =>
      intro h
      have := ih fun y hy => h y (.tail _ hy)
      have := (depsMay_names (may_lists (h x (.head _))).2.2.2.1).1
      simp only [List.flatMap_cons, List.length_append, List.length_map, List.length_cons]; omega
  have h3 := h2 L hg.may
  have := hg.le
  rw [List.length_map] at h1
  omega
def pinC (p : Pin) : List Value := [.string p.name, .int .i64 p.v.ma, .int .i64 p.v.mi, .int .i64 p.v.pa]
def Apart (s t : Sl) : Prop := ∀ ad ad', s.a = some ad → t.a = some ad' → ad.block ≠ ad'.block
theorem OwnS.pushA {α β : Type} {E : Enc α} {F : Enc β} {P : Program} {w : World} {t e e2 : TypeId} {lo : Nat} {s s2 : Sl} {l : List α} {l2 : List β} {x : α} {cs : List Value} {a : Addr} {k : Sl → World → Prop} (h : OwnS E e w lo None' s l) (h2 : OwnS F e2 w lo None' s2 l2) (hA : Apart s s2) (hlo : lo ≤ w.heap.size) (hT : ApT P t e E.n E.bytes)
    (hx : E.rep w None' x cs) (hc : ldc w a cs) (hb : (l.length + 1) * E.bytes ≤ room) (hm : l.length + 1 ≤ maxLen) (hk : ∀ r w', OwnS E e w' lo None' r (l ++ [x]) → OwnS F e2 w' lo None' s2 l2 → Apart r s2 → Below lo w w' → (∀ b, b < w.heap.size → (∀ ad, s.a = some ad → b ≠ ad.block) → w'.heap[b]? = w.heap[b]?) → (∀ ad, r.a = some ad → (s.a = some ad ∨ w.heap.size ≤ ad.block)) → k r w') : appS P t t s (Sl.v ⟨some a, 1, 1⟩) w k := by
  refine h.push hT hlo hx hc (fun _ h => h.elim) (fun _ _ h => h.elim) hb hm fun r w' own bel oth reg => hk r w' (own.mono (fun _ h => h.elim id id) (fun _ h => h.elim) (fun _ _ h => h.elim)) (h2.keep bel.size fun b hbl hb' => ?_) (fun ad ad' h3 h4 => ?_) bel oth reg
  · rcases hb' with hb' | ⟨ad, ha, rfl⟩
    · exact hb'.elim
    · exact oth _ hbl fun ad' h' => Ne.symm (hA _ _ h' ha)
  · rcases reg ad h3 with h5 | h5
    · exact hA _ _ h5 h4
    · have := (h2.block h4).2.1; omega
theorem Apart.swap {s t : Sl} (h : Apart s t) : Apart t s := fun a b h1 h2 => Ne.symm (h b a h2 h1)
theorem newS.own {α : Type} {E : Enc α} {w : World} {cs : List Value} {t : TypeId} {x : α} {k : Addr → World → Prop} (hx : E.rep w None' x cs) (h : ∀ a w', Ext w w' → OwnS E t w' w.heap.size None' ⟨some a, 1, 1⟩ [x] → a.block = w.heap.size → k a w') : newS w cs t k := fun a w' ha hw => by
  subst ha hw
  have hl := E.len hx
  refine h _ _ (Ext.alloc _ _) ⟨⟨[cs], ⟨by simp [hl], .inr ⟨w.heap.size, 1, cs.toArray, rfl, Nat.le_refl _, heap_alloc_new w _, Nat.le_refl _, by rw [maxLen_eq]; omega, by simp [hl], ?_⟩⟩, rfl, fun i y hy => ?_⟩, rfl, fun _ h => h.elim, fun _ _ h => h.elim⟩ rfl
  · simp [hl, List.take_of_length_le (Nat.le_of_eq hl)]
  · cases i with
    | zero =>
      simp only [List.getElem?_cons_zero, Option.some.injEq] at hy
      subst hy
      exact ⟨cs, rfl, E.keep hx ((Ext.alloc w _).keep _)⟩
    | succ i => simp at hy
theorem apPin : ApT Tryz.prog 26 91 4 40 := apT_mk (z := .agg #[.string ⟨#[]⟩, .int .i64 0, .int .i64 0, .int .i64 0]) (by kernel_rfl) (by kernel_rfl) rfl (by decide)
theorem ctx11_se {q : Pin} {n : ByteArray} {c0 : Addr} {w : World} {R : Bool → World → Prop} (hc : BoxAt w c0 [.string n]) (hR : ∀ w', Ext w w' → R (isN n q) w') : SE.wants_Context_1_1 q.name q.v.ma q.v.mi q.v.pa c0 w R := by
  unfold SE.wants_Context_1_1
  refine newS.intro fun a w1 x1 hb _ _ => ⟨_, hb.at0 (Ext.refl _) rfl, n, hc.at0 (r := []) x1 rfl, ?_⟩
  have e : bEq q.name n = isN n q := by
    unfold isN
    rw [Bool.eq_iff_iff, bEq_iff, decide_eq_true_eq]
  rw [e]; exact hR _ x1
theorem enters_ctx11 : Enters Tryz.prog 89 := enters_of Tryz.func89 (by kernel_rfl) rfl
theorem ctx1_se {n : ByteArray} {w : World} {R : Value → World → Prop} (hR : ∀ f w', Ext w w' → (∀ l : List Pin, Tells f (fun x => .agg #[.string x.name, .int .i64 x.v.ma, .int .i64 x.v.mi, .int .i64 x.v.pa]) (isN n) l w') → R f w') : SE.wants_Context_1 n w R := by
  unfold SE.wants_Context_1
  refine newS.intro fun a w1 x1 hb _ _ => hR _ w1 x1 fun l x _ w' k hx hk => ⟨_, _, rfl, enters_ctx11, SE.wants_Context_1_1.go (ctx11_se (q := x) (n := n) (hb.ext hx) hk)⟩
theorem ctx2_gr {a b : Pin} {w : World} {R : Int → World → Prop} (hR : ∀ w', Gr w w' → R (cmpS a.name b.name) w') : SE.wants_Context_2 a.name a.v.ma a.v.mi a.v.pa b.name b.v.ma b.v.mi b.v.pa w R := by
  unfold SE.wants_Context_2
  refine newS.gr fun _ w1 x1 hb => newS.gr fun _ w2 x2 hb2 => ⟨_, Gr.at0 hb x2 rfl, _, Gr.at0 hb2 (Gr.refl _) rfl, strCmp_k ⟨_, rfl, hR _ (x1.trans x2)⟩⟩
theorem entersCtx2 : Enters Tryz.prog 93 := enters_of Tryz.func93 (by kernel_rfl) rfl
theorem isAggP : ∀ w, (isAgg 91).run Tryz.prog w = .ok true w := fun w => by kernel_rfl
theorem sizeOfP : ∀ w, (Go.sizeOf 91).run Tryz.prog w = .ok 4 w := fun w => by kernel_rfl
theorem sortPinF_k {w : World} {lo : Nat} {s : Sl} {l : List Pin} {K : Value → World → Prop} (h : FlatO pinC 40 w lo s l) (hlo : lo ≤ w.heap.size) (hn : (l.map (·.name)).Nodup)
    (hK : ∀ w', Below lo w w' → FlatO pinC 40 w' lo s (sortN l) → K (.tuple #[]) w') :
    callS Tryz.prog 47 [Sl.v s, .func (.func 93) #[] #[]] w K := by
  obtain ⟨h1, h2, h3, h4, h5⟩ := h
  obtain ⟨a, n, c⟩ := s
  simp only at h1 h2 h3 h5
  subst h1
  rcases h5 with rfl | ⟨g, tail, ha, hg, hr⟩
  · refine (AnyF.slices_SortFunc_none Tryz.laySp a c _ w).mono fun e w' ⟨he, hw⟩ => ⟨_, he, ?_⟩
    subst hw
    exact hK _ (Below.refl _ _) ⟨rfl, h2, h3, h4, .inl rfl⟩
  · subst ha
    have hO := cmpS_ord (α := Pin) (·.name)
    refine sortFunc_k Tryz.laySp (k := 4) isAggP sizeOfP (f := pinC) (fun _ => rfl) (fun x v hv => by simp [pinC] at hv; rcases hv with rfl | rfl | rfl | rfl <;> rfl) (fun a b => cmpS a.name b.name) (swo_ltOf hO.flip hO.trans) 93 #[] entersCtx2 (fun w0 x y hb _ => ?_) hr (by unfold room at h4; omega) rfl fun l' w' hp hs b hr' => ?_
    · have h := SE.wants_Context_2.go (k := fun v w' => v = .int .i64 (cmpS x.name y.name) ∧ Gr w0 w') (ctx2_gr (a := x) (b := y) (w := w0) fun w' h => ⟨rfl, h⟩)
      exact Calls.mono h fun e w' ⟨v, he, hv, hg⟩ => ⟨by rw [he, hv], hg⟩
    · have e : l' = sortN l := by
        refine Rises.one ?_ (sortN_rises hn) (hp.trans (sortN_perm l).symm)
        have hn' : (l'.map (·.name)).Nodup := (hp.map _).nodup_iff.2 hn
        rw [List.nodup_iff_pairwise_ne, List.pairwise_map] at hn'
        exact (hs.and hn').imp fun {a b} h => bLt_of (by have := hO.flip b a; have := hO.flip a b; omega) h.2
      subst e
      have hl := (sortN_perm l).length_eq
      exact hK w' (b.below hlo hg) ⟨hl.symm, by rw [hl]; exact h2, h3, by rw [hl]; exact h4, .inr ⟨g, tail, rfl, hg, hr'⟩⟩
end Go.Hal
namespace Go.Hal
open Go Go.RowKit Go.Proofs Go.Shelf
theorem pinEl {w : World} {S : Nat → Prop} {s : Sl} {l : List Pin} (h : SlR pinE w S s l) {n : Nat} (hn : n < l.length) :
    ∃ ad, s.a = some ad ∧ S ad.block ∧ Str l[n].name ∧ ∀ w', Ext w w' → ldc w' (ad.add (n * 4)) (pinC l[n]) := by
  obtain ⟨ad, cs, h1, h2, ⟨rfl, h3⟩, h4⟩ := h.el hn
  exact ⟨ad, h1, h2, h3, h4⟩
theorem OwnS.el {α : Type} {E : Enc α} {T : TypeId} {w : World} {lo : Nat} {S : Nat → Prop} {s : Sl} {l : List α} (h : OwnS E T w lo S s l) {i : Nat} {x : α} (hx : l[i]? = some x) : ∃ ad cs, s.a = some ad ∧ E.rep w S x cs ∧ ∀ w', Ext w w' → ldc w' (ad.add (i * E.n)) cs := by
  obtain ⟨css, ho, hl, hr⟩ := h.row
  obtain ⟨cs, h1, h2⟩ := hr i x hx
  rcases ho.2 with ⟨hv, hn⟩ | ⟨g, cap, cur, hv, hg, hh, hc, hcm, hcs, ht⟩
  · have := (List.getElem?_eq_some_iff.1 hx).1
    have := h.len
    omega
  · simp [Sl.v] at hv
    refine ⟨⟨g, 0, none⟩, cs, hv.1, h2, fun w' hxt => ?_⟩
    have hall : ∀ cs ∈ css, cs.length = E.n := by
      intro cs hcs
      obtain ⟨k, hk, he⟩ := List.mem_iff_getElem.1 hcs
      obtain ⟨cs', h3, h4⟩ := hr k _ (List.getElem?_eq_getElem (by omega))
      rw [List.getElem?_eq_getElem hk, he, Option.some.injEq] at h3
      rw [h3]; exact E.len h4
    have : ldc w ((⟨g, 0, none⟩ : Addr).add (i * E.n)) cs := fun j v hj => by
      rw [add_add]
      exact ho.cells (g := g) (by simp [Value.ownBlock, Sl.v, hv.1]) _ _ (flatten_get hall h1 hj)
    exact this.ext hxt
theorem tells_idx {env : List Pin} {n : ByteArray} : (idxI (isN n) env < 0 ∧ tells env n = none) ∨ ∃ k, ∃ hk : k < env.length, idxI (isN n) env = (k : Int) ∧ tells env n = some env[k].v ∧ env[k].name = n := by
  unfold idxI tells
  cases hf : env.findIdx? (isN n) with
  | none =>
    left
    refine ⟨by decide, ?_⟩
    rw [Option.map_eq_none_iff, List.find?_eq_none]
    intro x hx
    have := List.findIdx?_eq_none_iff.1 hf x hx
    simp [this]
  | some k =>
    right
    obtain ⟨hk, hp, hb⟩ := List.findIdx?_eq_some_iff_getElem.1 hf
    refine ⟨k, hk, rfl, ?_, by simpa [isN] using hp⟩
    have h0 : (env.take k).find? (isN n) = none := by
      rw [List.find?_eq_none]
      intro x hx
      obtain ⟨j, hj, rfl⟩ := List.mem_iff_getElem.1 hx
      rw [List.length_take] at hj
      rw [List.getElem_take]
      exact hb j (by omega)
    have h1 : (env.take (k + 1)).find? (isN n) = some env[k] := by
      rw [List.take_succ_eq_append_getElem hk, List.find?_append, h0]
      simp [List.find?_cons, hp]
    have h2 : env.find? (isN n) = some env[k] := by
      have e : env.find? (isN n) = (env.take (k + 1) ++ env.drop (k + 1)).find? (isN n) := by rw [List.take_append_drop]
      rw [e, List.find?_append, h1]; rfl
    rw [h2]; rfl
def ctxRes (L : List Pack) (over : List Dep) (env : List Pin) (p : Pin) : Option (List Pin) := ctx (getL L) over env p
def Kp (lo c d : Nat) (w w' : World) : Prop := Below lo w w' ∧ ∀ b, c ≤ b → b < d → w'.heap[b]? = w.heap[b]?
theorem Kp.refl (lo c d : Nat) (w : World) : Kp lo c d w w := ⟨Below.refl _ _, fun _ _ _ => rfl⟩
theorem Kp.trans {lo c d : Nat} {u v w : World} (h : Kp lo c d u v) (k : Kp lo c d v w) : Kp lo c d u w := ⟨Below.trans h.1 k.1, fun b h1 h2 => (k.2 b h1 h2).trans (h.2 b h1 h2)⟩
theorem Kp.ext {lo c d : Nat} {u v w : World} (h : Kp lo c d u v) (hx : Ext v w) (h1 : lo ≤ v.heap.size) (h2 : d ≤ v.heap.size) : Kp lo c d u w := h.trans ⟨Below.mono hx h1, fun b _ h3 => hx.block (by omega)⟩
set_option maxHeartbeats 8000000 in
theorem wantsContext_se {S S2 : Nat → Prop} {p : Addr} {r : Nat} {L : List Pack} {mD mDev mOpt mOv envS : Sl} {over : List Dep} {env : List Pin} {pn : Pin} {S3 : Nat → Prop} {w : World} {R : Sl → Bool → World → Prop}
    (hC : CatL w S p r L) (hS2 : Old S2 w) (hS3 : Old S3 w) (hO : SlR depE w S2 mOv over) (hE : SlR pinE w S3 envS env) (hpn : Str pn.name)
    (hsome : ∀ a t w', ctxRes L over env pn = some a → Ext w w' → FlatO pinC 40 w' w.heap.size t a → (∀ q ∈ a, Str q.name) → R t true w') (hnone : ∀ w', ctxRes L over env pn = none → Ext w w' → R Sl.nil false w') :
    SE.wants_Context (some p) mD mDev mOpt mOv envS pn.name pn.v.ma pn.v.mi pn.v.pa w R := by
  unfold SE.wants_Context
  have hgood := hC.good
  refine newS.intro fun a w1 x1 ha _ _ => newS.intro fun a1 w2 x2 ha1 _ _ => ⟨(fun h => by cases h), fun _ => ?_⟩
  have x02 := x1.trans x2
  have ePb : pinE.bytes = 40 := rfl
  have hEl := hE.len
  have s02 := x02.size
  have upE : ∀ w', Below w2.heap.size w2 w' → Ext w w' := fun w' hb => x02.trans' (Below.mono hb s02)
  have ha2 := ha.ext x2
  refine ⟨_, _, _, _, ha1.ldc.pre (r := []) rfl, newS.own (E := pinE) (x := pn) ⟨rfl, hpn⟩ fun a3 w4 x4 own0 h3b => ?_⟩
  refine loop3.ghost (fun n all con i w' => ∃ (out : List Pin) (k : Nat), i = (k : Int) ∧ n = env.length + 2 - k ∧ CtxI (getL L) over env pn k out ∧ ctxGo (getL L) over env pn (env.length + 2 - k) k out = ctxGo (getL L) over env pn (env.length + 2) 0 [] ∧ (∀ q ∈ pn :: out, Str q.name) ∧
      Below w2.heap.size w2 w' ∧ OwnS pinE 91 w' w2.heap.size None' all (pn :: out) ∧ OwnS pinE 91 w' w2.heap.size None' con out ∧ Apart con all) (env.length + 2)
    ⟨[], 0, rfl, rfl, CtxI.zero, rfl, by simpa using hpn, x4, own0, (OwnS.nil _ _).mono (fun _ h => h) (fun _ h => h.elim) (fun _ h => by cases h), fun _ _ h => by cases h⟩ fun n all con i w5 nxt hJ hn => ?_
  obtain ⟨out, k, rfl, rfl, hI, hgo, hStr, b5, oA, oC, hAp⟩ := hJ
  have hAl := oA.len
  have hCl := oC.len
  have hle := hI.le
  have hlen := hI.len
  have hbd := ctx_bound hgood hI
  have s5 := b5.size
  refine ⟨fun hlt => join.named fun J hJ => ?_, fun hge => ?_⟩
  · have hk : k < (pn :: out).length := by omega
    have hk' : k < out.length + 1 := hk
    have hqk : (pn :: out)[k]? = some (pn :: out)[k] := List.getElem?_eq_getElem hk
    have hqS : Str (pn :: out)[k].name := hStr _ (List.getElem_mem hk)
    generalize hq : (pn :: out)[k] = q at *
    have hf : env.length + 2 - k = (env.length + 1 - k) + 1 := by omega
    have kJ : ∀ a6 w6 d e o, Ext w5 w6 → BoxAt w6 a6 [.string (getD L q.name q.v).name, .int .i64 (getD L q.name q.v).v.ma, .int .i64 (getD L q.name q.v).v.mi, .int .i64 (getD L q.name q.v).v.pa, Sl.v d, Sl.v e, Sl.v o] →
        SlR depE w6 (fun b => b < w6.heap.size) e (getD L q.name q.v).peers → J a6 (getL L q.name q.v).isSome w6 := fun a6 w6 d e o x6 hb6 he => by
      subst hJ
      have b6 : Below w2.heap.size w2 w6 := Below.trans b5 (Below.mono x6 s5)
      have s6 := b6.size
      have s56 := x6.size
      refine ⟨fun h => ?_, fun h => ?_⟩
      · refine hnone w6 ?_ (upE _ b6)
        have hg : getL L q.name q.v = none := by
          cases hg : getL L q.name q.v with
          | none => rfl
          | some y => rw [hg] at h; simp at h
        rw [hf, ctxGo_none hqk hg] at hgo
        unfold ctxRes ctx
        rw [← hgo]; rfl
      · obtain ⟨y, hg⟩ : ∃ y, getL L q.name q.v = some y := by
          cases hg : getL L q.name q.v with
          | none => rw [hg] at h; simp at h
          | some y => exact ⟨y, rfl⟩
        have hD : getD L q.name q.v = y := by unfold getD; rw [hg]; rfl
        rw [hD] at hb6 he
        have hyL := (getL_some hg).1
        have hdm := depsMay_names (may_lists (hgood.may y hyL)).2.2.2.1
        refine ⟨_, _, _, _, _, _, _, hb6.ldc.pre (r := []) rfl, mD, mDev, mOpt, mOv, (ha2.below b6 ha2.lt).ldc.pre (r := []) rfl, ?_⟩
        have hOldB : Old (fun b => b < w6.heap.size) w6 := fun b hb => hb
        have hO6 : SlR depE w6 (fun b => b < w6.heap.size) mOv over := (hO.ext (upE _ b6)).mono fun b hb => Nat.lt_of_lt_of_le (hS2 b hb) (upE _ b6).size
        refine SE.wants_Peers.go (wantsPeers_se hOldB hO6 he fun t w7 x7 ht => ⟨_, rfl, ?_⟩)
        have b7 : Below w2.heap.size w2 w7 := Below.trans b6 (Below.mono x7 s6)
        have s7 := x7.size
        have hT := ht.dep
        have hTl := hT.len
        have hpl : (peersOf over y.peers).length ≤ 16 := by unfold peersOf; rw [List.length_map]; exact hdm.1
        have hnext : ∀ out', ctxStep env (peersOf over y.peers) out = some out' → CtxI (getL L) over env pn (k + 1) out' ∧ ctxGo (getL L) over env pn (env.length + 2 - (k + 1)) (k + 1) out' = ctxGo (getL L) over env pn (env.length + 2) 0 [] := fun out' hs => by
          refine ⟨hI.next hqk hg hs, ?_⟩
          rw [← hgo, hf, ctxGo_next hqk hg hs, show env.length + 2 - (k + 1) = env.length + 1 - k by omega]
        have hfail : ctxStep env (peersOf over y.peers) out = none → ctxRes L over env pn = none := fun hs => by
          rw [hf, ctxGo_fail hqk hg hs] at hgo
          unfold ctxRes ctx
          rw [← hgo]; rfl
        generalize hP : peersOf over y.peers = P at *
        have oA7 := oA.ext (x6.trans x7)
        have oC7 := oC.ext (x6.trans x7)
        refine loop3.ghost (fun n2 all2 con2 j w' => ∃ (o2 : List Pin) (m : Nat), j = (m : Int) ∧ n2 = P.length - m ∧ m ≤ P.length ∧ ctxStep env (P.drop m) o2 = ctxStep env P out ∧ o2.length ≤ out.length + m ∧ (∀ q ∈ pn :: o2, Str q.name) ∧
          Kp w2.heap.size w6.heap.size w7.heap.size w7 w' ∧ OwnS pinE 91 w' w2.heap.size None' all2 (pn :: o2) ∧ OwnS pinE 91 w' w2.heap.size None' con2 o2 ∧ Apart con2 all2 ∧
          (∀ ad, all2.a = some ad → ad.block < w6.heap.size ∨ w7.heap.size ≤ ad.block) ∧ ∀ ad, con2.a = some ad → ad.block < w6.heap.size ∨ w7.heap.size ≤ ad.block) P.length
          ⟨out, 0, rfl, rfl, Nat.zero_le _, rfl, by omega, hStr, Kp.refl _ _ _ _, oA7, oC7, hAp, fun ad h => .inl (by have := (oA.block h).2.1; omega), fun ad h => .inl (by have := (oC.block h).2.1; omega)⟩ fun n2 all2 con2 j w8 nxt2 hJ2 hn2 => ?_
        obtain ⟨o2, m, rfl, rfl, hm, hst, hol, hStr2, k8, oA2, oC2, hAp2, hra, hrc⟩ := hJ2
        have b8 : Below w2.heap.size w2 w8 := Below.trans b7 k8.1
        have s8 := k8.1.size
        have hT8 : SlR depE w8 (fun b => w6.heap.size ≤ b ∧ b < w7.heap.size) t P := hT.keep fun b hb _ => k8.2 b hb.1 hb.2
        refine ⟨fun hlt2 => join.named fun J2 hJ2 => ?_, fun hge2 => ?_⟩
        · have hmP : m < P.length := by omega
          obtain ⟨ad, tr, hta, _, hnm, hrr, hcc⟩ := depEl hT8 hmP
          have hdrop : P.drop m = P[m] :: P.drop (m + 1) := List.drop_eq_getElem_cons hmP
          generalize hdd : P[m] = d1 at *
          rw [hdrop] at hst
          have kJ2 : ∀ all3 con3 o3 w9, ctxStep env (P.drop (m + 1)) o3 = ctxStep env P out → o3.length ≤ out.length + (m + 1) → (∀ q ∈ pn :: o3, Str q.name) → Kp w2.heap.size w6.heap.size w7.heap.size w7 w9 → OwnS pinE 91 w9 w2.heap.size None' all3 (pn :: o3) → OwnS pinE 91 w9 w2.heap.size None' con3 o3 → Apart con3 all3 →
              (∀ ad, all3.a = some ad → ad.block < w6.heap.size ∨ w7.heap.size ≤ ad.block) → (∀ ad, con3.a = some ad → ad.block < w6.heap.size ∨ w7.heap.size ≤ ad.block) → J2 all3 con3 w9 := fun all3 con3 o3 w9 q1 q2 q3 q4 q5 q6 q7 q8 q9 => by
            subst hJ2
            show nxt2 _ _ _ _
            rw [wrapI_eq (by omega) (by omega)]
            exact hn2 _ _ _ _ _ (by omega) ⟨o3, m + 1, by omega, rfl, by omega, q1, q2, q3, q4, q5, q6, q7, q8, q9⟩
          clear hJ2
          refine ⟨ad, ⟨hta, by omega, hlt2⟩, _, tr, hcc _ (Ext.refl _), newS.intro fun a18 w9 x9 hb9 h9b _ => stw0.intro hb9 (by simp) fun w10 b10 _ hb10 => ⟨_, hb10.ldc.pre rfl, ?_⟩⟩
          have x810 : Ext w8 w10 := b10.ext x9 (by omega)
          refine SE.wants_Context_1.go (ctx1_se fun f w11 x11 hT1 => ⟨_, rfl, ?_⟩)
          have x811 := x810.trans x11
          have hE8 := hE.ext (upE _ b8)
          refine SE.slices_IndexFunc_apiPinapiPin.go (idxPin_se (p := isN d1.name) (hE8.ext x811) (hT1 env) fun w12 x12 => ⟨_, rfl, bnd.drew fun w13 x13 => bound ?_⟩)
          have x813 := x811.trans (x12.trans x13)
          have b13 : Below w2.heap.size w2 w13 := Below.trans b8 (Below.mono x813 (by omega))
          have hb13 := hb10.ext (x11.trans (x12.trans x13))
          rcases tells_idx (env := env) (n := d1.name) with ⟨hneg, htn⟩ | ⟨kk, hkk, hidx, htk, hkn⟩
          · have hdec : decide (idxI (isN d1.name) env < 0) = true := by simpa using hneg
            rw [hdec]
            refine ⟨Sl.nil, (fun h => by cases h), ⟨0, 0, none⟩, (fun h => by cases h), 0, 0, 0, (fun h => by cases h), (fun h => by cases h), fun _ => ⟨fun _ => ?_, (fun h => by cases h)⟩⟩
            refine hnone w13 (hfail ?_) (upE _ b13)
            rw [← hst]; exact ctxStep_none htn
          · rw [hidx]
            have hdec : decide ((kk : Int) < 0) = false := by simp
            rw [hdec]
            obtain ⟨ae, hea, hS3e, _, hec⟩ := pinEl hE hkk
            refine ⟨tr, fun _ => hb13.at1 (k := 1) (Ext.refl _) rfl, ae, fun _ => ⟨hea, by omega, by omega⟩, _, _, _, fun _ => (hec _ (upE _ b13)).mid (k := 1) (r := []) rfl, gCall.named fun J3 hJ3 => ⟨fun _ => ?_, (fun h => by cases h)⟩⟩
            refine SE.span_In.go (spanIn_se (v := env[kk].v) (hrr.ext x813) fun w14 x14 => ⟨_, rfl, ?_⟩)
            have x814 := x813.trans x14
            subst hJ3
            refine ⟨fun h => ?_, fun h => ?_⟩
            · have hin : spansIn d1.range env[kk].v = false := by simpa using h
              rw [ctxStep_no htk hin] at hst
              exact hnone w14 (hfail hst.symm) (upE _ (Below.trans b8 (Below.mono x814 (by omega))))
            · have hin : spansIn d1.range env[kk].v = true := by simpa using h
              have hpin : (⟨d1.name, env[kk].v⟩ : Pin) = env[kk] := by rw [← hkn]
              have hStrK : Str env[kk].name := by rw [hkn]; exact hnm
              refine ⟨_, hb13.at0 (r := [Sl.v tr]) x14 rfl, SE.wants_Context_1.go (ctx1_se fun f2 w15 x15 hT2 => ⟨_, rfl, ?_⟩)⟩
              have x815 := x814.trans x15
              have oC15 := oC2.ext x815
              have hrd : SlR pinE w15 (fun b => True) con2 o2 := ((oC15.read (by rw [ePb]; unfold room; omega) (by rw [maxLen_eq]; omega))).mono fun _ _ => trivial
              refine SE.slices_ContainsFunc_apiPinapiPin.go (conPin_se (p := isN d1.name) hrd (hT2 o2) fun w16 x16 => ⟨_, rfl, fun h2 => ?_, fun h2 => ?_⟩)
              · have hany : o2.any (isN d1.name) = false := by simpa using h2
                rw [ctxStep_new htk hin hany, hpin] at hst
                have x816 := x815.trans x16
                have b16 : Below w2.heap.size w2 w16 := Below.trans b8 (Below.mono x816 (by omega))
                refine ⟨ae, ⟨hea, by omega, by omega⟩, _, _, _, _, hec _ (upE _ b16), newS.intro fun a48 w17 x17 hb17 _ _ => ?_⟩
                have x817 := x816.trans x17
                have hs17 := x817.size
                refine OwnS.pushA (x := env[kk]) (oC2.ext x817) (oA2.ext x817) hAp2 (by omega) apPin ⟨rfl, hStrK⟩ hb17.ldc (by rw [ePb]; unfold room; omega) (by rw [maxLen_eq]; omega) fun r1 w18 oC18 oA18 hAp18 bel18 oth18 reg18 => ?_
                have hs18 := bel18.size
                have b18 : Below w2.heap.size w2 w18 := Below.trans (Below.trans b8 (Below.mono x817 (by omega))) bel18
                refine ⟨ae, ⟨hea, by omega, by omega⟩, _, _, _, _, hec _ (upE _ b18), newS.intro fun a54 w19 x19 hb19 _ _ => ?_⟩
                have hs19 := x19.size
                refine OwnS.pushA (x := env[kk]) (oA18.ext x19) (oC18.ext x19) hAp18.swap (by omega) apPin ⟨rfl, hStrK⟩ hb19.ldc (by rw [ePb, List.length_cons]; unfold room; omega) (by rw [maxLen_eq, List.length_cons]; omega) fun r2 w20 oA20 oC20 hAp20 bel20 oth20 reg20 => ?_
                have hStr3 : ∀ q ∈ pn :: (o2 ++ [env[kk]]), Str q.name := fun q hq => by
                  rcases List.mem_cons.1 hq with rfl | hq
                  · exact hStr2 _ (.head _)
                  · rcases List.mem_append.1 hq with hq | hq
                    · exact hStr2 _ (.tail _ hq)
                    · simp at hq; subst hq; exact hStrK
                have k18 : Kp w2.heap.size w6.heap.size w7.heap.size w17 w18 := ⟨bel18, fun b h1 h2 => oth18 b (by omega) fun ad had => by
                  rintro rfl
                  rcases hrc ad had with h | h <;> omega⟩
                have k20 : Kp w2.heap.size w6.heap.size w7.heap.size w19 w20 := ⟨bel20, fun b h1 h2 => oth20 b (by omega) fun ad had => by
                  rintro rfl
                  rcases hra ad had with h | h <;> omega⟩
                refine kJ2 r2 r1 (o2 ++ [env[kk]]) w20 hst (by simp; omega) hStr3 ((((k8.ext x817 (by omega) (by omega)).trans k18).ext x19 (by omega) (by omega)).trans k20) oA20 oC20 hAp20.swap (fun ad had => ?_) (fun ad had => ?_)
                · rcases reg20 ad had with h | h
                  · exact hra ad h
                  · right; omega
                · rcases reg18 ad had with h | h
                  · exact hrc ad h
                  · right; omega
              · have hany : o2.any (isN d1.name) = true := by simpa using h2
                rw [ctxStep_old htk hin hany] at hst
                have x816 := x815.trans x16
                exact kJ2 _ _ o2 w16 hst (by omega) hStr2 (k8.ext x816 (by omega) (by omega)) (oA2.ext x816) (oC2.ext x816) hAp2 hra hrc
        · have hmP : m = P.length := by omega
          subst hmP
          rw [List.drop_length, ctxStep] at hst
          obtain ⟨c1, c2⟩ := hnext o2 hst.symm
          rw [wrapI_eq (by omega) (by omega)]
          exact hn _ _ _ _ _ (by omega) ⟨o2, k + 1, by omega, rfl, c1, c2, hStr2, b8, oA2, oC2, hAp2⟩
    clear hJ
    refine bnd.drew fun w59 x59 => ?_
    obtain ⟨aq, csq, haq, ⟨hcsq, _⟩, hlq⟩ := oA.el hqk
    subst hcsq
    have hC59 : CatL w59 S p r L := (hC.ext (upE _ b5)).ext x59
    have s59 := x59.size
    refine ⟨aq, ⟨haq, by omega, by omega⟩, _, (hlq _ x59).pre rfl, aq, ⟨haq, by omega, by omega⟩, _, _, _, (hlq _ x59).mid (k := 1) (r := []) rfl, ?_, ?_⟩
    · refine SE.catalog_Catalog_Get.go (catGet_se (n := q.name) (v := q.v) hC59 fun d e o w66 x66 _ _ he _ => ⟨_, _, _, _, _, _, _, _, rfl, newS.intro fun a69 w70 x70 hb70 h70 _ => stw0.intro hb70 (by simp) fun w71 b71 _ hb71 => ?_⟩)
      have x71 : Ext w66 w71 := b71.ext x70 (by omega)
      have hs71 := x71.size
      exact kJ a69 w71 d e o (x59.trans (x66.trans x71)) hb71 ((he.dep.ext x71).mono fun b hb => by omega)
    · refine newS.intro fun a72 w73 x73 hb73 h73 _ => SE.catalog_Catalog_Get.go (catGet_se (n := q.name) (v := q.v) (hC59.ext x73) fun d e o w74 x74 _ _ he _ => ⟨_, _, _, _, _, _, _, _, rfl, stw0.intro (hb73.ext x74) (by simp) fun w75 b75 _ hb75 => ?_⟩)
      have x75 : Ext w59 w75 := b75.ext (x73.trans x74) (by omega)
      have hs75 := b75.1
      have hl73 := hb73.lt
      exact kJ a72 w75 d e o (x59.trans x75) hb75 ((he.dep.but b75 (fun hb => by omega)).mono fun b hb => by omega)
  · have hkl : k = out.length + 1 := by simp at hAl; omega
    have hres : ctxRes L over env pn = some (sortN out) := by
      have hf : env.length + 2 - k = (env.length + 1 - k) + 1 := by omega
      have hnoq : (pn :: out)[k]? = none := List.getElem?_eq_none_iff.2 (by simp; omega)
      rw [hf, ctxGo_end hnoq] at hgo
      unfold ctxRes ctx
      rw [← hgo]; rfl
    have hF : FlatO pinC 40 w5 w2.heap.size con out := FlatO.of (E := pinE) (f := pinC) (bytes := 40) (fun x cs h => h.1) oC (by unfold room; omega)
    refine sortPinF_k hF s5 hI.names fun w6 b6 hF6 => ⟨rfl, ?_⟩
    refine SE.slices_Clip_apiPinapiPin.go ⟨clip_ok (by have := hF6.1; have := hF6.2.1; omega), _, rfl, hsome (sortN out) _ w6 hres (upE _ (Below.trans b5 b6)) ?_ fun q hq => hStr q (.tail _ ((sortN_perm out).mem_iff.1 hq))⟩
    obtain ⟨a, b, c, d, e⟩ := hF6.clip (k := 4)
    exact ⟨a, b, c, d, e.imp id fun ⟨g, tail, a, b, c⟩ => ⟨g, tail, a, by omega, c⟩⟩
end Go.Hal
namespace Go.Hal
open Go Go.RowKit Go.Proofs Go.Shelf
def catOf (l : List Pack) : List Pack := l.foldl (fun L x => (refPut L x).2) []
theorem catOf_snoc (l : List Pack) (x : Pack) : catOf (l ++ [x]) = (refPut (catOf l) x).2 := by unfold catOf; rw [List.foldl_append]; rfl
theorem CatL.stay {w w' : World} {S : Nat → Prop} {p : Addr} {r : Nat} {L : List Pack} (h : CatL w S p r L) (hsz : w.heap.size ≤ w'.heap.size) (hk : ∀ b, b < w.heap.size → (S b ∨ b = p.block ∨ b = r) → w'.heap[b]? = w.heap[b]?) : CatL w' S p r L := by
  obtain ⟨ps, a, b, c⟩ := h
  exact ⟨ps, a.stay hsz hk, b, c⟩
theorem CatL.lt {w : World} {S : Nat → Prop} {p : Addr} {r : Nat} {L : List Pack} (h : CatL w S p r L) : r < w.heap.size ∧ p.block < w.heap.size ∧ (∀ b, S b → b < w.heap.size) ∧ ¬ S r ∧ ¬ S p.block ∧ p.block ≠ r := by
  obtain ⟨ps, a, _⟩ := h
  obtain ⟨m, hm, _⟩ := a.map
  exact ⟨hm.lt, a.box.lt, a.old, a.free.1, a.free.2, a.ne⟩
structure Both (w : World) (lo : Nat) (SA : Nat → Prop) (p : Addr) (r : Nat) (q : Addr) (L : List Pack) : Prop where
  cat : ∃ S, CatL w S p r L ∧ (∀ b, S b → lo ≤ b) ∧ ¬ S q.block
  ref : ∃ S, RefR w S q L ∧ (∀ b, S b → SA b ∨ lo ≤ b) ∧ ¬ S r
  le : lo ≤ r ∧ lo ≤ p.block ∧ lo ≤ q.block
  ne : q.block ≠ p.block ∧ q.block ≠ r
theorem box_one {α : Type} {E : Enc α} {w : World} {S : Nat → Prop} {a : Addr} {cs : List Value} {x : α} (hb : BoxAt w a cs) (hx : E.rep w S x cs) (hB : E.bytes ≤ room) : SlR E w (fun b => S b ∨ b = a.block) ⟨some a, 1, 1⟩ [x] :=
  ⟨rfl, Nat.le_refl _, by show 1 ≤ maxLen; rw [maxLen_eq]; omega, by simpa using hB, .inr ⟨a, rfl, .inr rfl, fun i y hy => by
    cases i with
    | zero =>
      simp only [List.getElem?_cons_zero, Option.some.injEq] at hy
      subst hy
      exact ⟨cs, E.mono hx fun _ h => .inl h, by rw [Nat.zero_mul]; exact hb.ldc⟩
    | succ i => simp at hy⟩⟩
theorem FlatO.pins {w : World} {lo : Nat} {s : Sl} {l : List Pin} (h : FlatO pinC 40 w lo s l) (hs : ∀ q ∈ l, Str q.name) : SlR pinE w (fun b => lo ≤ b ∧ b < w.heap.size) s l :=
  FlatO.read (E := pinE) h (fun _ => rfl) fun _ _ x hx => ⟨rfl, hs x hx⟩
end Go.Hal
namespace Go.Hal
open Go Go.RowKit Go.Proofs Go.Shelf
theorem stIns_map {α β : Type} {c : β → β → Int} {d : α → α → Int} (f : α → β) {x : α} {l : List α} (h : ∀ y ∈ l, c (f x) (f y) = d x y) : (stIns d x l).map f = stIns c (f x) (l.map f) := by
  induction l with
  | nil => rfl
  | cons y r ih =>
    rw [List.map_cons, stIns, stIns, h y (.head _)]
    by_cases h1 : d x y ≤ 0
    · rw [if_pos h1, if_pos h1]; rfl
    · rw [if_neg h1, if_neg h1, List.map_cons, ih fun z hz => h z (.tail _ hz)]
theorem stSort_map {α β : Type} {c : β → β → Int} {d : α → α → Int} (f : α → β) {l : List α} (h : ∀ x ∈ l, ∀ y ∈ l, c (f x) (f y) = d x y) : (stSort d l).map f = stSort c (l.map f) := by
  induction l with
  | nil => rfl
  | cons x r ih =>
    rw [List.map_cons, stSort, stSort, ← ih fun a ha b hb => h a (.tail _ ha) b (.tail _ hb)]
    exact stIns_map f fun y hy => h x (.head _) y (.tail _ ((stSort_perm r).mem_iff.1 hy))
def wantT : Enc (Want × (Nat → Prop)) where
  n := 3
  bytes := 48
  rep := fun w S x cs => wantP.rep w x.2 x.1 cs ∧ ∀ b, x.2 b → S b
  len := fun h => wantP.len h.1
  one := fun h v hv => wantP.one h.1 v hv
  mono := fun h hs => ⟨h.1, fun b hb => hs b (h.2 b hb)⟩
  keep := fun h hk => ⟨wantP.keep h.1 fun b hb hl => hk b (h.2 b hb) hl, h.2⟩
def DisjW (p q : Want × (Nat → Prop)) : Prop := ∀ b, p.2 b → ¬ q.2 b
def SepW (w : World) (S : Nat → Prop) (s : Sl) (L : List Want) : Prop :=
  s.len = L.length ∧ s.cap = L.length ∧ (L = [] ∨ ∃ (g : Nat) (tail : List Value) (z : List (WantC × (Want × (Nat → Prop)))), s.a = some ⟨g, 0, none⟩ ∧ S g ∧ RowB StW.cells w g (z.map Prod.fst) tail ∧ (z.map fun q => q.2.1) = L ∧
    (∀ q ∈ z, q.1.name = q.2.1.name ∧ q.1.kind = q.2.1.kind ∧ wantP.rep w q.2.2 q.2.1 (StW.cells q.1) ∧ ∀ b, q.2.2 b → S b ∧ b ≠ g) ∧ z.Pairwise fun p q => ∀ b, p.2.2 b → ¬ q.2.2 b)
def AllI (w : World) (lo : Nat) (out : Sl) (M : List Want) : Prop :=
  ∃ (vis : List (Want × (Nat → Prop))) (Q : Nat → Prop), OwnS wantT 52 w lo Q out vis ∧ vis.map Prod.fst = M ∧ (∀ b, Q b → lo ≤ b) ∧ vis.Pairwise DisjW ∧ ∀ q ∈ vis, ∀ b, q.2 b → Q b
theorem AllI.ext {w w' : World} {lo : Nat} {out : Sl} {M : List Want} (h : AllI w lo out M) (hx : Ext w w') : AllI w' lo out M := by
  obtain ⟨vis, Q, a, b, c, d, e⟩ := h
  exact ⟨vis, Q, a.ext hx, b, c, d, e⟩
theorem AllI.zero (w : World) : AllI w w.heap.size Sl.nil [] := ⟨[], None', OwnS.nil _ _, rfl, fun _ h => h.elim, .nil, fun _ h => by cases h⟩
theorem AllI.push {w0 w : World} {lo : Nat} {out u : Sl} {M : List Want} {x : Want} {a : Addr} {K : Sl → World → Prop} (h : AllI w0 lo out M) (hx : Ext w0 w) (hlo : lo ≤ w0.heap.size) (hN : Str x.name) (hu : SlP spanE w (fun b => w0.heap.size ≤ b ∧ b < w.heap.size) u x.range) (hb : BoxAt w a [.string x.name, .int .i64 x.kind, u.v]) (hm : (M.length + 1) * 48 ≤ room)
    (hK : ∀ r w', Below lo w w' → AllI w' lo r (M ++ [x]) → K r w') : appS Tryz.prog 46 46 out (Sl.v ⟨some a, 1, 1⟩) w K := by
  obtain ⟨vis, Q, own, rfl, hQ, hdj, hvQ⟩ := h
  have s := hx.size
  have eb : wantT.bytes = 48 := rfl
  rw [List.length_map] at hm
  have hm2 : vis.length + 1 ≤ 9000000000000 := by unfold room at hm; omega
  refine (own.ext hx).push apWant (Nat.le_trans hlo s) (x := (x, fun b => w0.heap.size ≤ b ∧ b < w.heap.size)) (S' := fun b => w0.heap.size ≤ b ∧ b < w.heap.size) ⟨⟨hN, u, rfl, hu⟩, fun _ h => h⟩ (hb.ldc.pre (r := []) rfl) (fun b hb => hb.2) (fun ad ha hb => by have := (own.block ha).2.1; omega) (by rw [eb]; exact hm) (by rw [maxLen_eq]; omega) fun r w' own' bel _ _ => hK r w' bel ⟨_, _, own', by rw [List.map_append]; rfl, fun b hb => ?_, ?_, fun q hq b hb => ?_⟩
  · rcases hb with hb | hb
    · exact hQ b hb
    · omega
  · refine List.pairwise_append.2 ⟨hdj, List.pairwise_singleton _ _, fun q hq y hy b hb hc => ?_⟩
    rw [List.mem_singleton] at hy
    subst hy
    have h1 := own.lt b (hvQ q hq b hb)
    have h2 : w0.heap.size ≤ b ∧ b < w.heap.size := hc
    omega
  · rcases List.mem_append.1 hq with hq | hq
    · exact .inl (hvQ q hq b hb)
    · rw [List.mem_singleton] at hq
      subst hq
      exact .inr hb
def depsE : Enc (List Dep) where
  n := 1
  bytes := 24
  rep := fun w S l cs => ∃ t : Sl, cs = [t.v] ∧ SlR depE w S t l
  len := fun ⟨_, h, _⟩ => by rw [h]; rfl
  one := fun ⟨_, h, _⟩ v hv => by rw [h] at hv; simp [Sl.v] at hv; subst hv; rfl
  mono := fun ⟨t, h, hr⟩ hs => ⟨t, h, hr.mono hs⟩
  keep := fun ⟨t, h, hr⟩ hk => ⟨t, h, hr.keep hk⟩
theorem enters_all1 : Enters Tryz.prog 159 := enters_of Tryz.func159 (by kernel_rfl) rfl
def cWC (a b : WantC) : Int := cmpS a.name b.name
theorem cWC_ord : Ord3 cWC := cmpS_ord WantC.name
theorem all1_ok (g : Nat) (w : World) : StW.CmpOk (.func (.func 159) #[] #[]) cWC g w := by
  intro x y w1 k _ hk
  refine ⟨_, _, rfl, enters_all1, SE.wants_all_1.go ?_⟩
  unfold SE.wants_all_1
  exact newS.intro fun a w2 x2 ha _ _ => newS.intro fun a1 w3 x3 ha1 _ _ => ⟨x.name, BoxAt.at0 ha x3 rfl, y.name, BoxAt.at0 ha1 (Ext.refl _) rfl, strCmp_k ⟨_, rfl, hk _ (x2.trans x3)⟩⟩
end Go.Hal
namespace Go.Hal
open Go Go.RowKit Go.Proofs Go.Shelf
set_option maxHeartbeats 2000000 in
theorem allEnd {w w1 : World} {out : Sl} {M : List Want} {R : Sl → World → Prop} (hI : AllI w1 w.heap.size out M) (hx : Ext w w1) (hb : M.length * 48 ≤ room)
    (hR : ∀ t w', Ext w w' → SepW w' (fun b => w.heap.size ≤ b ∧ b < w'.heap.size) t (stSort cW M) → R t w') :
    callS Tryz.prog 158 [Sl.v out, Value.func (.func 159) #[] #[]] w1 fun v39 vw38 => v39 = (Value.tuple #[]) ∧ callS Tryz.prog 160 [Sl.v out] vw38 fun v42 vw41 => ∃ (t56 : Sl), v42 = (Sl.v t56) ∧ R t56 vw41 := by
  obtain ⟨vis, Q, own, rfl, hQ, hdj, hvQ⟩ := hI
  rw [List.length_map] at hb
  have hol := own.len
  have hsmall : vis.length ≤ 9000000000000 := by unfold room at hb; omega
  have hf : ∀ (x : Want × (Nat → Prop)) cs, wantT.rep w1 Q x cs → ∃ y : WantC, cs = StW.cells y ∧ (y.name = x.1.name ∧ y.kind = x.1.kind ∧ wantT.rep w1 Q x (StW.cells y)) := fun x cs h => by
    obtain ⟨⟨hN, s, rfl, a⟩, hTQ⟩ := h
    exact ⟨⟨x.1.name, x.1.kind, s⟩, rfl, rfl, rfl, ⟨hN, s, rfl, a⟩, hTQ⟩
  rcases OwnS.rowG StW.cells (fun (y : WantC) (x : Want × (Nat → Prop)) => y.name = x.1.name ∧ y.kind = x.1.kind ∧ wantT.rep w1 Q x (StW.cells y)) hf own with ⟨ho, hv⟩ | ⟨g, zz, tail, ha, hgl, hzz, hrel, hrow, hcap, hmax⟩
  · subst ho hv
    refine SE.slices_SortStableFunc_apiWantapiWant.go (StW.sortStable_nil rfl ⟨rfl, SE.slices_Clip_apiWantapiWant.go ⟨⟨by decide, by decide, by decide, by decide⟩, _, rfl, hR _ _ hx ?_⟩⟩)
    exact ⟨rfl, rfl, .inl rfl⟩
  · have hzl : zz.length = vis.length := by rw [← hzz, List.length_map]
    have hlen : out.len = (zz.map Prod.fst).length := by rw [List.length_map, hzl]; exact hol
    refine SE.slices_SortStableFunc_apiWantapiWant.go (StW.sortStable_se cWC_ord ha (by rw [hol]; omega) (all1_ok g w1) hlen hrow fun w2 b2 hr2 => ⟨rfl, ?_⟩)
    have hfst : (stSort (fun p q : WantC × (Want × (Nat → Prop)) => cWC p.1 q.1) zz).map Prod.fst = stSort cWC (zz.map Prod.fst) := stSort_map (c := cWC) Prod.fst fun _ _ _ _ => rfl
    have hsnd : (stSort (fun p q : WantC × (Want × (Nat → Prop)) => cWC p.1 q.1) zz).map (fun q : WantC × (Want × (Nat → Prop)) => q.2.1) = stSort cW (zz.map fun q => q.2.1) := stSort_map (c := cW) (fun q : WantC × (Want × (Nat → Prop)) => q.2.1) fun x hx y hy => by
      unfold cW cWC
      rw [(hrel x hx).1, (hrel y hy).1]
    have hM : (zz.map fun q => q.2.1) = vis.map Prod.fst := by rw [← hzz, List.map_map]; rfl
    rw [hM] at hsnd
    rw [← hfst] at hr2
    have hperm := stSort_perm (c := fun p q : WantC × (Want × (Nat → Prop)) => cWC p.1 q.1) zz
    generalize stSort (fun p q : WantC × (Want × (Nat → Prop)) => cWC p.1 q.1) zz = zs at *
    have hzsl : zs.length = zz.length := hperm.length_eq
    have hQg : ¬ Q g := own.apart _ ha
    have x2 : Ext w w2 := hx.trans' (b2.below hx.size hgl)
    have hlt2 : g < w2.heap.size := hr2.lt
    have s2 := b2.1
    refine SE.slices_Clip_apiWantapiWant.go ⟨⟨by omega, by omega, by omega, by omega⟩, _, rfl, hR _ _ x2 ?_⟩
    have hdz : zs.Pairwise fun p q => ∀ b, p.2.2 b → ¬ q.2.2 b := by
      have h1 : (zz.map Prod.snd).Pairwise DisjW := by rw [hzz]; exact hdj
      rw [List.pairwise_map] at h1
      exact (hperm.pairwise_iff fun {x y} h b hb hc => h b hc hb).2 h1
    refine ⟨?_, ?_, .inr ⟨g, tail, zs, ?_, ⟨hgl, hlt2⟩, hr2, hsnd, fun q hq => ?_, hdz⟩⟩
    · show (out.len : Int).toNat - 0 = _
      rw [stSort_len, List.length_map, hol]; simp
    · show (out.len : Int).toNat - 0 = _
      rw [stSort_len, List.length_map, hol]; simp
    · show (if _ then _ else _) = _
      split
      · exact ha
      · rw [ha, Nat.zero_mul]; rfl
    · obtain ⟨k1, k2, k3, k4⟩ := hrel q (hperm.mem_iff.1 hq)
      refine ⟨k1, k2, wantP.keep k3 (b2.keep fun h => hQg (k4 g h)), fun b hb => ⟨⟨hQ b (k4 b hb), ?_⟩, fun e => hQg (e ▸ k4 b hb)⟩⟩
      have := own.lt b (k4 b hb); omega
set_option maxHeartbeats 2000000 in
theorem wantsAll_se {mD mDev mOpt mOv must may : Sl} {ms : List (List Dep)} {ml over : List Dep} {S : Nat → Prop} {w : World} {R : Sl → World → Prop} (hS : Old S w) (hV : SlR depE w S mOv over) (hM : SlR depsE w S must ms) (hY : SlR depE w S may ml) (hb : (ms.flatten.length + ml.length) * 48 ≤ room)
    (hR : ∀ t w', Ext w w' → SepW w' (fun b => w.heap.size ≤ b ∧ b < w'.heap.size) t (wantsOf over ms.flatten ml) → R t w') : SE.wants_all mD mDev mOpt mOv must may w R := by
  unfold SE.wants_all
  have hMl := hM.len
  have hYl := hY.len
  refine newS.intro fun a w1 x1 ha _ _ => ?_
  have s1 := x1.size
  refine loop2.up hM.max (fun out i w' => Ext w1 w' ∧ AllI w' w1.heap.size out ((ms.take i).flatten.map (wantOf 1 over))) ⟨Ext.refl _, AllI.zero _⟩ fun out i w2 nxt hi ⟨x2, hI2⟩ hn => ⟨fun hlt => ?_, fun hge => ?_⟩
  · have hlt' : i < ms.length := by omega
    obtain ⟨ad, cs, hma, _, ⟨t, rfl, ht⟩, hc⟩ := hM.el hlt'
    have htl := ht.len
    have hsum : (ms.take (i + 1)).flatten = (ms.take i).flatten ++ ms[i] := by rw [List.take_succ_eq_append_getElem hlt', List.flatten_append, List.flatten_cons, List.flatten_nil, List.append_nil]
    have hsub : (ms.take i).flatten.length + ms[i].length ≤ ms.flatten.length := by
      rw [← List.length_append, ← hsum]
      have : ms.flatten = (ms.take (i + 1)).flatten ++ (ms.drop (i + 1)).flatten := by rw [← List.flatten_append, List.take_append_drop]
      rw [this, List.length_append]; omega
    refine ⟨ad, ⟨hma, by omega, hlt⟩, t, (hc _ (x1.trans x2)).pre (r := []) rfl, ?_⟩
    refine loop2.up ht.max (fun out k w' => Ext w1 w' ∧ AllI w' w1.heap.size out (((ms.take i).flatten ++ ms[i].take k).map (wantOf 1 over))) ⟨x2, by rw [List.take_zero, List.append_nil]; exact hI2⟩ fun out2 k w3 nxt2 hk ⟨x3, hI3⟩ hn2 => ⟨fun hklt => ?_, fun hkge => ?_⟩
    · have hk' : k < ms[i].length := by omega
      have x03 := x1.trans x3
      obtain ⟨ad5, u, hta, _, hN, hr, hcd⟩ := depEl ht hk'
      refine ⟨ad5, ⟨hta, by omega, hklt⟩, _, u, hcd _ x03, newS.intro fun a8 w4 x4 hb4 ha4 _ => stw0.intro hb4 (by simp) fun w5 b5 _ hb5 => bnd.drew fun w6 x6 => ?_⟩
      have x35 : Ext w3 w5 := b5.ext x4 (by omega)
      have x36 := x35.trans x6
      have x06 := x03.trans x36
      refine ⟨_, hb5.at0 x6 rfl, mD, mDev, mOpt, mOv, ha.at0 (r := []) (x3.trans x36) rfl, _, u, hb5.at0 (r := []) x6 rfl, callX.intro (SE.wants_Range.go (wantsRange_se (hS.ext x06.size) (hV.ext x06) (hr.ext x06) fun r7 w7 x7 hu => ⟨x7, _, rfl, newS.intro fun a16 w8 x8 hb8 _ _ => ?_⟩))⟩
      have x68 := x7.trans x8
      have s36 := x36.size; have s8 := x8.size; have s3 := x3.size
      refine (hI3.ext x36).push (x := wantOf 1 over ms[i][k]) x68 (by omega) hN ((hu.ext x8).mono fun b hb => ⟨hb.1, by omega⟩) hb8 ?_ fun r9 w9 bel hI9 => hn2 hk' _ _ ⟨(x3.trans (x36.trans x68)).trans' bel, ?_⟩
      · rw [List.length_map, List.length_append, List.length_take]
        have : ((ms.take i).flatten.length + min k ms[i].length + 1) * 48 ≤ (ms.flatten.length + ml.length) * 48 := Nat.mul_le_mul_right _ (by omega)
        omega
      · rw [List.take_succ_eq_append_getElem hk', ← List.append_assoc, List.map_append]
        exact hI9
    · have : k = ms[i].length := by omega
      rw [this, List.take_length, ← hsum] at hI3
      exact hn hlt' _ _ ⟨x3, hI3⟩
  · have : i = ms.length := by omega
    rw [this, List.take_length] at hI2
    refine loop2.up hY.max (fun out k w' => Ext w1 w' ∧ AllI w' w1.heap.size out (ms.flatten.map (wantOf 1 over) ++ (ml.take k).map (wantOf 2 over))) ⟨x2, by rw [List.take_zero, List.map_nil, List.append_nil]; exact hI2⟩ fun out2 k w3 nxt2 hk ⟨x3, hI3⟩ hn2 => ⟨fun hklt => ?_, fun hkge => ?_⟩
    · have hk' : k < ml.length := by omega
      have x03 := x1.trans x3
      obtain ⟨ad5, u, hta, _, hN, hr, hcd⟩ := depEl hY hk'
      refine ⟨ad5, ⟨hta, by omega, hklt⟩, _, u, hcd _ x03, newS.intro fun a8 w4 x4 hb4 ha4 _ => stw0.intro hb4 (by simp) fun w5 b5 _ hb5 => bnd.drew fun w6 x6 => ?_⟩
      have x35 : Ext w3 w5 := b5.ext x4 (by omega)
      have x36 := x35.trans x6
      have x06 := x03.trans x36
      refine ⟨_, hb5.at0 x6 rfl, mD, mDev, mOpt, mOv, ha.at0 (r := []) (x3.trans x36) rfl, _, u, hb5.at0 (r := []) x6 rfl, callX.intro (SE.wants_Range.go (wantsRange_se (hS.ext x06.size) (hV.ext x06) (hr.ext x06) fun r7 w7 x7 hu => ⟨x7, _, rfl, newS.intro fun a16 w8 x8 hb8 _ _ => ?_⟩))⟩
      have x68 := x7.trans x8
      have s36 := x36.size; have s8 := x8.size; have s3 := x3.size
      refine (hI3.ext x36).push (x := wantOf 2 over ml[k]) x68 (by omega) hN ((hu.ext x8).mono fun b hb => ⟨hb.1, by omega⟩) hb8 ?_ fun r9 w9 bel hI9 => hn2 hk' _ _ ⟨(x3.trans (x36.trans x68)).trans' bel, ?_⟩
      · rw [List.length_append, List.length_map, List.length_map, List.length_take]
        have : (ms.flatten.length + min k ml.length + 1) * 48 ≤ (ms.flatten.length + ml.length) * 48 := Nat.mul_le_mul_right _ (by omega)
        omega
      · rw [List.take_succ_eq_append_getElem hk', List.map_append, ← List.append_assoc]
        exact hI9
    · have : k = ml.length := by omega
      rw [this, List.take_length] at hI3
      refine allEnd hI3 x3 (by rw [List.length_append, List.length_map, List.length_map]; exact hb) fun t w' hx hs => hR _ _ (x1.trans hx) ?_
      obtain ⟨k1, k0, k2⟩ := hs
      refine ⟨k1, k0, k2.imp id fun ⟨g, tail, z, e1, e2, e3, e4, e5, e6⟩ => ⟨g, tail, z, e1, ⟨by omega, e2.2⟩, e3, e4, fun q hq => ?_, e6⟩⟩
      obtain ⟨f1, f2, f3, f4⟩ := e5 q hq
      exact ⟨f1, f2, f3, fun b hb => ⟨⟨by have := (f4 b hb).1.1; omega, (f4 b hb).1.2⟩, (f4 b hb).2⟩⟩
end Go.Hal
namespace Go.Hal
open Go Go.RowKit Go.Proofs Go.Shelf
theorem newS.ownS {α : Type} {E : Enc α} {w : World} {cs : List Value} {t : TypeId} {x : α} {S : Nat → Prop} {k : Addr → World → Prop} (hS : Old S w) (hx : E.rep w S x cs) (h : ∀ a w', Ext w w' → OwnS E t w' w.heap.size S ⟨some a, 1, 1⟩ [x] → a.block = w.heap.size → k a w') : newS w cs t k := fun a w' ha hw => by
  subst ha hw
  have hl := E.len hx
  refine h _ _ (Ext.alloc _ _) ⟨⟨[cs], ⟨by simp [hl], .inr ⟨w.heap.size, 1, cs.toArray, rfl, Nat.le_refl _, heap_alloc_new w _, Nat.le_refl _, by rw [maxLen_eq]; omega, by simp [hl], ?_⟩⟩, rfl, fun i y hy => ?_⟩, rfl, fun b hb => by have := hS b hb; simp; omega, fun ad ha hb => ?_⟩ rfl
  · simp [hl, List.take_of_length_le (Nat.le_of_eq hl)]
  · cases i with
    | zero =>
      simp only [List.getElem?_cons_zero, Option.some.injEq] at hy
      subst hy
      exact ⟨cs, rfl, E.keep hx ((Ext.alloc w _).keep _)⟩
    | succ i => simp at hy
  · simp only [Option.some.injEq] at ha
    subst ha
    have := hS _ hb
    simp at this
theorem apDeps : ApT Tryz.prog 128 23 1 24 := apT_mk (z := .slice none 0 0) (by kernel_rfl) (by kernel_rfl) rfl (by decide)
theorem wantsOf_se {p : Pack} {pD pP pO mD mDev mOpt mOv : Sl} {over : List Dep} {S : Nat → Prop} {w : World} {R : Sl → World → Prop} (hS : Old S w) (hD : SlR depE w S pD p.deps) (hO : SlR depE w S pO p.opt) (hV : SlR depE w S mOv over) (hb : (p.deps.length + p.opt.length) * 48 ≤ room)
    (hR : ∀ t w', Ext w w' → SepW w' (fun b => w.heap.size ≤ b ∧ b < w'.heap.size) t (wantsOf over p.deps p.opt) → R t w') : SE.wants_Of p.name p.v.ma p.v.mi p.v.pa pD pP pO mD mDev mOpt mOv w R := by
  unfold SE.wants_Of
  refine newS.intro fun a w1 x1 ha _ _ => newS.intro fun a1 w2 x2 ha1 _ _ => ?_
  have x02 := x1.trans x2
  refine ⟨mD, mDev, mOpt, mOv, BoxAt.at0 ha1 (Ext.refl _) rfl, pD, BoxAt.at1 ha x2 rfl, newS.intro fun a4 w3 x3 hb4 hab _ => ⟨pO, BoxAt.at1 ha (x2.trans x3) rfl, ?_⟩⟩
  have x03 := x02.trans x3
  have s3 := x03.size
  have hone : SlR depsE w3 (fun b => S b ∨ b = a4.block) ⟨some a4, 1, 1⟩ [p.deps] := box_one (E := depsE) hb4 ⟨pD, rfl, hD.ext x03⟩ (by decide)
  have hlt := hb4.lt
  refine SE.wants_all.go (wantsAll_se (S := fun b => S b ∨ b = a4.block) (ms := [p.deps]) (over := over) (ml := p.opt) (fun b hb => ?_) ((hV.ext x03).mono fun _ h => .inl h) hone ((hO.ext x03).mono fun _ h => .inl h) (by simpa using hb) fun t w4 x4 h4 => ⟨_, rfl, hR _ _ (x03.trans x4) ?_⟩)
  · rcases hb with hb | rfl
    · have := hS b hb; omega
    · exact hlt
  · rw [List.flatten_cons, List.flatten_nil, List.append_nil] at h4
    obtain ⟨k1, k0, k2⟩ := h4
    refine ⟨k1, k0, k2.imp id fun ⟨g, tail, z, e1, e2, e3, e4, e5, e6⟩ => ⟨g, tail, z, e1, ⟨by omega, e2.2⟩, e3, e4, fun q hq => ?_, e6⟩⟩
    obtain ⟨f1, f2, f3, f4⟩ := e5 q hq
    exact ⟨f1, f2, f3, fun b hb => ⟨⟨by have := (f4 b hb).1.1; omega, (f4 b hb).1.2⟩, (f4 b hb).2⟩⟩
theorem wantsOfRoot_se {m : Mani} {mD mDev mOpt mOv : Sl} {dev : Bool} {S : Nat → Prop} {w : World} {R : Sl → World → Prop} (hS : Old S w) (hD : SlR depE w S mD m.deps) (hE : SlR depE w S mDev m.dev) (hO : SlR depE w S mOpt m.opt) (hV : SlR depE w S mOv m.over) (hb : (m.deps.length + m.dev.length + m.opt.length) * 48 ≤ room)
    (hR : ∀ t w', Ext w w' → SepW w' (fun b => w.heap.size ≤ b ∧ b < w'.heap.size) t (wantsOf m.over (rootMust m dev) m.opt) → R t w') : SE.wants_OfRoot mD mDev mOpt mOv dev w R := by
  unfold SE.wants_OfRoot
  refine newS.intro fun a w1 x1 ha _ _ => ⟨mD, BoxAt.at0 ha (Ext.refl _) rfl, ?_⟩
  refine newS.ownS (E := depsE) (x := m.deps) (S := S) (hS.ext x1.size) ⟨mD, rfl, hD.ext x1⟩ fun a1 w2 x2 own hab => ?_
  have x02 := x1.trans x2
  have s1 := x1.size; have s2 := x2.size
  have eb : depsE.bytes = 24 := rfl
  refine join.named fun J hJ => ?_
  have key : ∀ must w3 (ms : List (List Dep)), Ext w1 w3 → SlR depsE w3 (fun b => S b ∨ (w.heap.size ≤ b ∧ b < w3.heap.size)) must ms → ms.flatten = rootMust m dev → J must w3 := by
    subst hJ
    intro must w3 ms x3 hms hfl
    have x03 := x1.trans x3
    have s3 := x03.size
    have hlen : (rootMust m dev).length ≤ m.deps.length + m.dev.length := by
      unfold rootMust
      split
      · rw [List.length_append]; exact Nat.le_refl _
      · omega
    refine ⟨mD, mDev, mOpt, mOv, BoxAt.at0 ha x3 rfl, mOpt, BoxAt.at1 ha x3 rfl, SE.wants_all.go (wantsAll_se (S := fun b => S b ∨ (w.heap.size ≤ b ∧ b < w3.heap.size)) (over := m.over) (ml := m.opt) (fun b hb => ?_) ((hV.ext x03).mono fun _ h => .inl h) hms ((hO.ext x03).mono fun _ h => .inl h) (by rw [hfl]; have : ((rootMust m dev).length + m.opt.length) * 48 ≤ (m.deps.length + m.dev.length + m.opt.length) * 48 := Nat.mul_le_mul_right _ (by omega); omega) fun t w4 x4 h4 => ⟨_, rfl, hR _ _ (x03.trans x4) ?_⟩)⟩
    · rcases hb with hb | hb
      · have := hS b hb; omega
      · exact hb.2
    · rw [hfl] at h4
      obtain ⟨k1, k0, k2⟩ := h4
      refine ⟨k1, k0, k2.imp id fun ⟨g, tail, z, e1, e2, e3, e4, e5, e6⟩ => ⟨g, tail, z, e1, ⟨by omega, e2.2⟩, e3, e4, fun q hq => ?_, e6⟩⟩
      obtain ⟨f1, f2, f3, f4⟩ := e5 q hq
      exact ⟨f1, f2, f3, fun b hb => ⟨⟨by have := (f4 b hb).1.1; omega, (f4 b hb).1.2⟩, (f4 b hb).2⟩⟩
  refine ⟨fun h => ?_, fun h => ?_⟩
  · subst h
    refine ⟨mDev, BoxAt.at1 ha x2 rfl, newS.intro fun a8 w3 x3 hb8 hab8 _ => ?_⟩
    refine (own.ext x3).push apDeps (x2.trans x3).size (x := m.dev) (S' := S) ⟨mDev, rfl, hE.ext (x02.trans x3)⟩ (hb8.ldc.pre (r := []) rfl) (hS.ext (x02.trans x3).size) (fun ad ha hb => (own.apart ad ha hb)) (by rw [eb]; unfold room; simp) (by rw [maxLen_eq]; simp) fun r w4 own4 bel _ _ => ?_
    have x14 : Ext w1 w4 := (x2.trans x3).trans' bel
    refine key _ _ [m.deps, m.dev] x14 ((own4.read (by rw [eb]; unfold room; simp) (by rw [maxLen_eq]; simp)).mono fun b hb => ?_) (by simp [rootMust])
    rcases hb with (hb | hb) | ⟨ad, ha', rfl⟩
    · exact .inl hb
    · exact .inl hb
    · have := own4.block ha'; exact .inr ⟨by omega, this.2.1⟩
  · subst h
    refine key _ _ [m.deps] x2 ((own.read (by rw [eb]; unfold room; simp) (by rw [maxLen_eq]; simp)).mono fun b hb => ?_) (by simp [rootMust])
    rcases hb with hb | ⟨ad, ha', rfl⟩
    · exact .inl hb
    · have := own.block ha'; exact .inr ⟨by omega, this.2.1⟩
end Go.Hal
namespace Go.Hal
open Go Go.RowKit Go.Proofs Go.Shelf
theorem SepW.read {w : World} {S : Nat → Prop} {s : Sl} {L : List Want} (h : SepW w S s L) (hb : L.length * 48 ≤ room) : SlR wantE w S s L := by
  obtain ⟨h1, h0, h2⟩ := h
  have hm : L.length ≤ maxLen := by rw [maxLen_eq]; unfold room at hb; omega
  refine ⟨h1, by rw [h0]; exact Nat.le_refl _, by rw [h0]; exact hm, hb, ?_⟩
  rcases h2 with rfl | ⟨g, tail, z, e1, e2, e3, e4, e5, e6⟩
  · exact .inl rfl
  · refine .inr ⟨_, e1, e2, fun i x hx => ?_⟩
    rw [← e4, List.getElem?_map] at hx
    cases hz : z[i]? with
    | none => rw [hz] at hx; cases hx
    | some q =>
      rw [hz] at hx
      simp only [Option.map_some, Option.some.injEq] at hx
      subst hx
      obtain ⟨f1, f2, ⟨f3, u, f5, f6⟩, f4⟩ := e5 q (List.mem_of_getElem? hz)
      refine ⟨StW.cells q.1, ⟨f3, u, f5, f6.1.mono fun b hb => (f4 b hb).1⟩, e3.ld' (f := StW.cells) (k := 3) (fun _ => rfl) (by rw [List.getElem?_map, hz]; rfl)⟩
end Go.Hal
namespace Go.Hal
structure Edge where
  name : ByteArray
  to : Int
  deriving DecidableEq
structure Node where
  name : ByteArray
  v : Ver
  ctx : List Pin
  edges : List Edge
  deriving DecidableEq
abbrev NKey := ByteArray × Ver × List Pin
def Node.key (n : Node) : NKey := (n.name, n.v, n.ctx)
structure Quest where
  L : List Pack
  m : Mani
  dev : Bool
  pins : List Pin
  D : Nat
  N : Nat
def rootNode : Node := ⟨⟨#[]⟩, ⟨0, 0, 0⟩, [], []⟩
def wantsK (q : Quest) (k : Nat) (n : Option NKey) : List Want :=
  if k = 0 then wantsOf q.m.over (rootMust q.m q.dev) q.m.opt else
    match n with
    | none => []
    | some n => match getL q.L n.1 n.2.1 with
      | none => []
      | some p => wantsOf q.m.over p.deps p.opt
def keyAt (ns : List Node) (k : Nat) : Option NKey := (ns.map Node.key)[k]?
def ctxAt (ns : List Node) (k : Nat) : List Pin := match keyAt ns k with
  | some x => x.2.2
  | none => []
def Quest.wants (q : Quest) (ns : List Node) (k : Nat) : List Want := wantsK q k (keyAt ns k)
def Quest.cand (q : Quest) (c : List Pin) (w : Want) : List Ver × Bool := match tells c w.name with
  | some v => (if spansIn w.range v then [v] else [], false)
  | none => (cands q.L w.name w.range q.pins, decide (w.kind = 2))
def opts (x : List Ver × Bool) : List (Option Ver) := x.1.map some ++ (if x.2 then [none] else [])
def addO (e : List Pin) (n : ByteArray) (o : Option Ver) : List Pin := match o with
  | none => e
  | some v => if e.any (isN n) then e else e ++ [⟨n, v⟩]
def targets (q : Quest) (env : List Pin) : List Pin → Option (List Node)
  | [] => some []
  | p :: r => match ctxRes q.L q.m.over env p with
    | none => none
    | some c => (targets q env r).map fun xs => ⟨p.name, p.v, c, []⟩ :: xs
def putK (N : Nat) : List NKey → List Node → Option (List Node × List Edge)
  | _, [] => some ([], [])
  | ks, x :: xs => match ks.findIdx? fun y => decide (y = x.key) with
    | some i => (putK N ks xs).map fun r => (r.1, ⟨x.name, (i : Int)⟩ :: r.2)
    | none => if ks.length = N then none else (putK N (ks ++ [x.key]) xs).map fun r => (x :: r.1, ⟨x.name, (ks.length : Int)⟩ :: r.2)
def setEdges (ns : List Node) (k : Nat) (es : List Edge) : List Node := ns.modify k fun n => { n with edges := es }
inductive Bnd where
  | graph
  | many
  | ok (ns : List Node)
def Quest.bind (q : Quest) (ns : List Node) (k : Nat) (e : List Pin) : Bnd := match targets q (sortN e) (sortN e) with
  | none => .graph
  | some xs => match putK q.N (ns.map Node.key) xs with
    | none => .many
    | some r => .ok (setEdges ns k r.2 ++ r.1)
inductive Out where
  | fail (t : Nat)
  | done (ns : List Node) (t : Nat)
  | err (e : Int)
  | out
def tryAll (D : Nat) (k : Option Ver → Nat → Out) : List (Option Ver) → Nat → Out
  | [], t => .fail t
  | o :: os, t => if t = D then .err 31 else match k o (t + 1) with
    | .fail t' => tryAll D k os t'
    | r => r
def Quest.go (q : Quest) : Nat → List Node → Nat → List Want → List Pin → Nat → Out
  | 0, _, _, _, _, _ => .out
  | f + 1, ns, k, [], e, t => match q.bind ns k e with
    | .graph => .fail t
    | .many => .err 32
    | .ok ns' => if k + 1 = ns'.length then .done ns' t else q.go f ns' (k + 1) (q.wants ns' (k + 1)) (ctxAt ns' (k + 1)) t
  | f + 1, ns, k, w :: l, e, t => tryAll q.D (fun o t => q.go f ns k l (addO e w.name o) t) (opts (q.cand (ctxAt ns k) w)) t
structure Ch where
  node : Nat
  name : ByteArray
  vs : List Ver
  none : Bool
  i : Nat
def Ch.many (c : Ch) : Nat := if c.none then c.vs.length + 1 else c.vs.length
structure St where
  stack : List Ch
  ns : List Node
  ahead : List Nat
  ws : List Want
  first : Nat
  dec : Nat
inductive Lb where
  | next
  | tri
  | back
inductive Stp where
  | go (l : Lb) (s : St)
  | done (ns : List Node) (t : Nat)
  | err (e : Int)
def Quest.ch (q : Quest) (k : Nat) (c : List Pin) (w : Want) : Ch := ⟨k, w.name, (q.cand c w).1, (q.cand c w).2, 0⟩
def addC (e : List Pin) (c : Ch) : List Pin := addO e c.name c.vs[c.i]?
def St.env (s : St) : List Pin := (s.stack.drop s.first).foldl addC (ctxAt s.ns s.ahead.length)
def bump (l : List Ch) : List Ch := l.modify (l.length - 1) fun c => { c with i := c.i + 1 }
def Quest.step (q : Quest) : Lb → St → Stp
  | .next, s => match s.ws[s.stack.length - s.first]? with
    | some w => .go .tri { s with stack := s.stack ++ [q.ch s.ahead.length (ctxAt s.ns s.ahead.length) w] }
    | none => match q.bind s.ns s.ahead.length s.env with
      | .graph => .go .back s
      | .many => .err 32
      | .ok ns' => if s.ahead.length + 1 = ns'.length then .done ns' s.dec else
          .go .next { s with ns := ns', ahead := s.ahead ++ [s.ns.length], ws := q.wants ns' (s.ahead.length + 1), first := s.stack.length }
  | .tri, s => match s.stack.getLast? with
    | none => .err (-1)
    | some c => if c.i < c.many then (if s.dec = q.D then .err 31 else .go .next { s with dec := s.dec + 1 }) else .go .back { s with stack := s.stack.dropLast }
  | .back, s => match s.stack.getLast? with
    | none => .err 30
    | some c => .go .tri { s with
        stack := bump s.stack
        ns := (match s.ahead[c.node]? with | some a => s.ns.take a | none => s.ns)
        ahead := s.ahead.take c.node
        ws := q.wants (match s.ahead[c.node]? with | some a => s.ns.take a | none => s.ns) c.node
        first := (bump s.stack).findIdx fun x => decide (x.node = c.node) }
inductive Quest.To (q : Quest) : Lb → St → Lb → St → Prop
  | refl (l : Lb) (s : St) : Quest.To q l s l s
  | step {l l1 l2 : Lb} {s s1 s2 : St} (h : q.step l s = .go l1 s1) (k : Quest.To q l1 s1 l2 s2) : Quest.To q l s l2 s2
inductive Quest.End (q : Quest) : Lb → St → Stp → Prop
  | done {l : Lb} {s : St} {ns : List Node} {t : Nat} (h : q.step l s = .done ns t) : Quest.End q l s (.done ns t)
  | err {l : Lb} {s : St} {e : Int} (h : q.step l s = .err e) : Quest.End q l s (.err e)
  | step {l l1 : Lb} {s s1 : St} {r : Stp} (h : q.step l s = .go l1 s1) (k : Quest.End q l1 s1 r) : Quest.End q l s r
theorem Quest.To.trans {q : Quest} {a b c : Lb} {x y z : St} (h : q.To a x b y) (k : q.To b y c z) : q.To a x c z := by
  induction h with
  | refl => exact k
  | step h _ ih => exact .step h (ih k)
theorem Quest.To.ends {q : Quest} {a b : Lb} {x y : St} {r : Stp} (h : q.To a x b y) (k : q.End b y r) : q.End a x r := by
  induction h with
  | refl => exact k
  | step h _ ih => exact .step h (ih k)
def Alk (k : Nat) (a b : List Node) : Prop := a.map Node.key = b.map Node.key ∧ ∀ i, i < k → a[i]? = b[i]?
theorem Alk.refl (k : Nat) (a : List Node) : Alk k a a := ⟨rfl, fun _ _ => rfl⟩
theorem Alk.len {k : Nat} {a b : List Node} (h : Alk k a b) : a.length = b.length := by
  have := congrArg List.length h.1
  simpa using this
theorem Alk.symm {k : Nat} {a b : List Node} (h : Alk k a b) : Alk k b a := ⟨h.1.symm, fun i hi => (h.2 i hi).symm⟩
theorem Alk.trans {k : Nat} {a b c : List Node} (h : Alk k a b) (g : Alk k b c) : Alk k a c := ⟨h.1.trans g.1, fun i hi => (h.2 i hi).trans (g.2 i hi)⟩
theorem Alk.mono {k j : Nat} {a b : List Node} (h : Alk k a b) (hj : j ≤ k) : Alk j a b := ⟨h.1, fun i hi => h.2 i (by omega)⟩
theorem Alk.take {k : Nat} {a b : List Node} (h : Alk k a b) (n : Nat) : Alk k (a.take n) (b.take n) := ⟨by rw [List.map_take, List.map_take, h.1], fun i hi => by
  rw [List.getElem?_take, List.getElem?_take, h.2 i hi]⟩
theorem Alk.keyAt {k : Nat} {a b : List Node} (h : Alk k a b) (i : Nat) : Hal.keyAt a i = Hal.keyAt b i := by unfold Hal.keyAt; rw [h.1]
theorem Alk.ctxAt {k : Nat} {a b : List Node} (h : Alk k a b) (i : Nat) : Hal.ctxAt a i = Hal.ctxAt b i := by unfold Hal.ctxAt; rw [h.keyAt]
theorem Alk.wants {q : Quest} {k : Nat} {a b : List Node} (h : Alk k a b) (i : Nat) : q.wants a i = q.wants b i := by unfold Quest.wants; rw [h.keyAt]
theorem setEdges_key (ns : List Node) (k : Nat) (es : List Edge) : (setEdges ns k es).map Node.key = ns.map Node.key := by
  unfold setEdges
  apply List.ext_getElem?
  intro i
  rw [List.getElem?_map, List.getElem?_map, List.getElem?_modify]
  cases ns[i]? with
  | none => rfl
  | some n => by_cases h : k = i <;> simp [h, Node.key]
theorem setEdges_len (ns : List Node) (k : Nat) (es : List Edge) : (setEdges ns k es).length = ns.length := by unfold setEdges; rw [List.length_modify]
theorem setEdges_below {ns : List Node} {k i : Nat} {es : List Edge} (h : i ≠ k) : (setEdges ns k es)[i]? = ns[i]? := by
  unfold setEdges
  rw [List.getElem?_modify]
  cases ns[i]? with
  | none => rfl
  | some n => simp [Ne.symm h]
theorem Alk.bind {q : Quest} {k : Nat} {a b : List Node} {e : List Pin} (h : Alk k a b) (hk : k < a.length) :
    (q.bind a k e = .graph ∧ q.bind b k e = .graph) ∨ (q.bind a k e = .many ∧ q.bind b k e = .many) ∨ ∃ a' b', q.bind a k e = .ok a' ∧ q.bind b k e = .ok b' ∧ Alk (k + 1) a' b' ∧ Alk k (a'.take a.length) a ∧ a.length ≤ a'.length := by
  unfold Quest.bind
  cases targets q (sortN e) (sortN e) with
  | none => exact .inl ⟨rfl, rfl⟩
  | some xs =>
    rw [h.1]
    dsimp only
    cases putK q.N (b.map Node.key) xs with
    | none => exact .inr (.inl ⟨rfl, rfl⟩)
    | some r =>
      refine .inr (.inr ⟨_, _, rfl, rfl, ⟨?_, fun i hi => ?_⟩, ⟨?_, fun i hi => ?_⟩, ?_⟩)
      · rw [List.map_append, List.map_append, setEdges_key, setEdges_key, h.1]
      · have hl := h.len
        rw [List.getElem?_append_left (by rw [setEdges_len]; omega), List.getElem?_append_left (by rw [setEdges_len]; omega)]
        by_cases hik : i = k
        · subst hik
          unfold setEdges
          rw [List.getElem?_modify, List.getElem?_modify]
          have hkey := congrArg (·[i]?) h.1
          simp only [List.getElem?_map] at hkey
          rw [List.getElem?_eq_getElem hk, List.getElem?_eq_getElem (by omega)] at hkey ⊢
          simp only [Option.map_some, Option.some.injEq, Node.key, Prod.mk.injEq] at hkey
          simp [hkey.1, hkey.2.1, hkey.2.2]
        · rw [setEdges_below hik, setEdges_below hik]
          exact h.2 i (by omega)
      · rw [List.take_left' (setEdges_len _ _ _), setEdges_key]
      · rw [List.take_left' (setEdges_len _ _ _), setEdges_below (by omega)]
      · rw [List.length_append, setEdges_len]; omega
end Go.Hal
namespace Go.Hal
structure Rs (k : Nat) (s s' : St) : Prop where
  ahead : s'.ahead.take k = s.ahead
  nsl : s.ns.length ≤ s'.ns.length
  ns : Alk k (s'.ns.take s.ns.length) s.ns
  at_ : ∀ a, s'.ahead[k]? = some a → a = s.ns.length
  eq : s'.ahead[k]? = none → s'.ns.length = s.ns.length
theorem Rs.refl {k : Nat} {s : St} (h : s.ahead.length = k) : Rs k s s :=
  ⟨List.take_of_length_le (by omega), Nat.le_refl _, by rw [List.take_length]; exact .refl _ _, fun a ha => (by rw [List.getElem?_eq_none (by omega)] at ha; cases ha), fun _ => rfl⟩
structure Cor (q : Quest) (s : St) (ns : List Node) (k : Nat) (σ cs : List Ch) (l : List Want) (e : List Pin) (t : Nat) : Prop where
  hk : s.ahead.length = k
  lt : k < s.ns.length
  alk : Alk k s.ns ns
  ws : s.ws = q.wants ns k
  stack : s.stack = σ ++ cs
  first : s.first = σ.length
  left : l = (q.wants ns k).drop cs.length
  node : ∀ c ∈ cs, c.node = k
  low : ∀ c ∈ σ, c.node < k
  env : e = cs.foldl addC (ctxAt ns k)
  dec : s.dec = t
def Holds (q : Quest) (k : Nat) (lb : Lb) (s : St) (st : List Ch) : Out → Prop
  | .out => True
  | .fail t' => ∃ s', q.To lb s .back s' ∧ s'.stack = st ∧ Rs k s s' ∧ s'.dec = t'
  | .done ns' t' => q.End lb s (.done ns' t')
  | .err e => q.End lb s (.err e)
theorem findIdx_at {p : Ch → Bool} {a b : List Ch} {c : Ch} (ha : ∀ x ∈ a, p x = false) (hc : p c = true) : (a ++ c :: b).findIdx p = a.length := by
  induction a with
  | nil => simp [List.findIdx_cons, hc]
  | cons x r ih =>
    rw [List.cons_append, List.findIdx_cons, ha x (.head _), ih fun y hy => ha y (.tail _ hy)]
    rfl
theorem bump_last (a : List Ch) (c : Ch) : bump (a ++ [c]) = a ++ [{ c with i := c.i + 1 }] := by
  unfold bump
  rw [List.length_append, List.length_singleton, Nat.add_sub_cancel, List.modify_eq_take_drop]
  simp
theorem opts_get (x : List Ver × Bool) (i : Nat) : (opts x)[i]? = if i < (if x.2 then x.1.length + 1 else x.1.length) then some x.1[i]? else none := by
  unfold opts
  rw [List.getElem?_append, List.length_map]
  by_cases h : i < x.1.length
  · rw [if_pos h, List.getElem?_map, List.getElem?_eq_getElem h, if_pos (by split <;> omega)]; rfl
  · rw [if_neg h]
    cases hx : x.2 with
    | false => simp [h]
    | true =>
      by_cases h2 : i = x.1.length
      · subst h2; simp
      · have : i - x.1.length ≠ 0 := by omega
        rw [if_pos rfl, if_pos rfl, if_neg (by omega)]
        rw [List.getElem?_eq_none (by simp; omega)]
theorem Rs.trans_same {k : Nat} {s s1 s' : St} (h1 : s1.ahead = s.ahead) (h2 : Alk k s1.ns s.ns) (h : Rs k s1 s') : Rs k s s' := by
  have hl := h2.len
  exact ⟨h.ahead.trans h1, by rw [← hl]; exact h.nsl, by rw [← hl]; exact h.ns.trans h2, fun a ha => by rw [← hl]; exact h.at_ a ha, fun ha => by rw [← hl]; exact h.eq ha⟩
section
variable {q : Quest}
theorem step_next (s : St) : q.step .next s = (match s.ws[s.stack.length - s.first]? with
    | some w => .go .tri { s with stack := s.stack ++ [q.ch s.ahead.length (ctxAt s.ns s.ahead.length) w] }
    | none => match q.bind s.ns s.ahead.length s.env with
      | .graph => .go .back s
      | .many => .err 32
      | .ok ns' => if s.ahead.length + 1 = ns'.length then .done ns' s.dec else
          .go .next { s with ns := ns', ahead := s.ahead ++ [s.ns.length], ws := q.wants ns' (s.ahead.length + 1), first := s.stack.length }) := rfl
theorem step_none {s : St} (h : s.stack = []) : q.step .back s = .err 30 := by
  show (match s.stack.getLast? with
    | none => Stp.err 30
    | some c => _) = _
  rw [h]; rfl
theorem step_try {s : St} {a : List Ch} {c : Ch} (h : s.stack = a ++ [c]) : q.step .tri s = if c.i < c.many then (if s.dec = q.D then .err 31 else .go .next { s with dec := s.dec + 1 }) else .go .back { s with stack := a } := by
  show (match s.stack.getLast? with
    | none => Stp.err (-1)
    | some c => if c.i < c.many then (if s.dec = q.D then .err 31 else .go .next { s with dec := s.dec + 1 }) else .go .back { s with stack := s.stack.dropLast }) = _
  rw [h, List.getLast?_append, List.dropLast_concat]; rfl
theorem step_back {s : St} {a : List Ch} {c : Ch} (h : s.stack = a ++ [c]) : q.step .back s = .go .tri { s with
        stack := a ++ [{ c with i := c.i + 1 }]
        ns := (match s.ahead[c.node]? with | some a => s.ns.take a | none => s.ns)
        ahead := s.ahead.take c.node
        ws := q.wants (match s.ahead[c.node]? with | some a => s.ns.take a | none => s.ns) c.node
        first := (a ++ [{ c with i := c.i + 1 }]).findIdx fun x : Ch => decide (x.node = c.node) } := by
  show (match s.stack.getLast? with
    | none => Stp.err 30
    | some c => .go .tri { s with
        stack := bump s.stack
        ns := (match s.ahead[c.node]? with | some a => s.ns.take a | none => s.ns)
        ahead := s.ahead.take c.node
        ws := q.wants (match s.ahead[c.node]? with | some a => s.ns.take a | none => s.ns) c.node
        first := (bump s.stack).findIdx fun x : Ch => decide (x.node = c.node) }) = _
  rw [h, List.getLast?_append, bump_last]; rfl
theorem sim_try {f : Nat} {ns : List Node} {k : Nat} {σ cs : List Ch} {w : Want} {l : List Want} {e : List Pin}
    (ih : ∀ (s : St) (cs : List Ch) (e : List Pin) (t : Nat), Cor q s ns k σ cs l e t → Holds q k .next s s.stack (q.go f ns k l e t))
    (hl : w :: l = (q.wants ns k).drop cs.length) (hn : ∀ c ∈ cs, c.node = k) (hlow : ∀ c ∈ σ, c.node < k) (he : e = cs.foldl addC (ctxAt ns k)) :
    ∀ (os : List (Option Ver)) (i t : Nat) (s : St), (opts (q.cand (ctxAt ns k) w)).drop i = os → s.ahead.length = k → k < s.ns.length → Alk k s.ns ns → s.ws = q.wants ns k → s.stack = σ ++ cs ++ [{ q.ch k (ctxAt ns k) w with i := i }] → s.first = σ.length → s.dec = t →
      Holds q k .tri s (σ ++ cs) (tryAll q.D (fun o t => q.go f ns k l (addO e w.name o) t) os t)
  | [], i, t, s, ho, hk, hlt, ha, hws, hst, hf, hd => by
    refine ⟨{ s with stack := s.stack.dropLast }, .step (s1 := { s with stack := s.stack.dropLast }) ?_ (.refl _ _), by rw [hst]; simp, ⟨List.take_of_length_le (by simp; omega), Nat.le_refl _, by rw [List.take_length]; exact .refl _ _, fun a h => (by rw [List.getElem?_eq_none (by simp; omega)] at h; cases h), fun _ => rfl⟩, hd⟩
    have h1 := opts_get (q.cand (ctxAt ns k) w) i
    have h2 : (opts (q.cand (ctxAt ns k) w))[i]? = none := by
      have := congrArg (·[0]?) ho
      simpa using this
    rw [h2] at h1
    have h3 : ¬ i < Ch.many { q.ch k (ctxAt ns k) w with i := i } := fun h => by
      rw [if_pos (show i < (if (q.cand (ctxAt ns k) w).2 then (q.cand (ctxAt ns k) w).1.length + 1 else (q.cand (ctxAt ns k) w).1.length) from h)] at h1
      cases h1
    rw [step_try hst, if_neg h3, hst, List.dropLast_concat]
  | o :: os, i, t, s, ho, hk, hlt, ha, hws, hst, hf, hd => by
    have h1 := opts_get (q.cand (ctxAt ns k) w) i
    have h2 : (opts (q.cand (ctxAt ns k) w))[i]? = some o := by
      have := congrArg (·[0]?) ho
      simpa using this
    have hos : (opts (q.cand (ctxAt ns k) w)).drop (i + 1) = os := by
      have := congrArg List.tail ho
      simpa using this
    rw [h2] at h1
    have h3 : i < Ch.many { q.ch k (ctxAt ns k) w with i := i } := by
      by_cases h : i < (if (q.cand (ctxAt ns k) w).2 then (q.cand (ctxAt ns k) w).1.length + 1 else (q.cand (ctxAt ns k) w).1.length)
      · exact h
      · rw [if_neg h] at h1; cases h1
    rw [if_pos (show i < (if (q.cand (ctxAt ns k) w).2 then (q.cand (ctxAt ns k) w).1.length + 1 else (q.cand (ctxAt ns k) w).1.length) from h3)] at h1
    have ho2 : o = (q.cand (ctxAt ns k) w).1[i]? := by simpa using h1
    rw [tryAll]
    by_cases hD : t = q.D
    · rw [if_pos hD]
      exact .err (by rw [step_try hst, if_pos h3, if_pos (hd.trans hD)])
    · rw [if_neg hD]
      have hstep : q.step .tri s = .go .next { s with dec := s.dec + 1 } := by
        rw [step_try hst, if_pos h3, if_neg (by rw [hd]; exact hD)]
      have cor : Cor q { s with dec := s.dec + 1 } ns k σ (cs ++ [{ q.ch k (ctxAt ns k) w with i := i }]) l (addO e w.name o) (t + 1) := by
        refine ⟨hk, hlt, ha, hws, by rw [← List.append_assoc]; exact hst, hf, ?_, fun c hc => ?_, hlow, ?_, by simp [hd]⟩
        · have := congrArg List.tail hl
          simpa using this
        · rcases List.mem_append.1 hc with hc | hc
          · exact hn c hc
          · rw [List.mem_singleton] at hc; subst hc; rfl
        · rw [List.foldl_append, ← he, ho2]; rfl
      have hih := ih _ _ _ _ cor
      revert hih
      cases q.go f ns k l (addO e w.name o) (t + 1) with
      | out => exact fun _ => trivial
      | done ns' t' => exact fun h => .step hstep h
      | err e' => exact fun h => .step hstep h
      | fail t' =>
        rintro ⟨s3, hto, hs3, hrs, hd3⟩
        show Holds q k .tri s (σ ++ cs) (tryAll q.D _ os t')
        have hs3' : s3.stack = σ ++ cs ++ [{ q.ch k (ctxAt ns k) w with i := i }] := hs3.trans hst
        have hns4 : Alk k (match s3.ahead[k]? with | some a => s3.ns.take a | none => s3.ns) s.ns := by
          cases h : s3.ahead[k]? with
          | none =>
            have h4 := hrs.ns
            rw [← hrs.eq h, List.take_length] at h4
            exact h4
          | some a =>
            have h4 := hrs.at_ a h
            subst h4
            exact hrs.ns
        generalize hN : (match s3.ahead[k]? with | some a => s3.ns.take a | none => s3.ns) = N at hns4
        have hst4 : q.step .back s3 = .go .tri { s3 with stack := σ ++ cs ++ [{ q.ch k (ctxAt ns k) w with i := i + 1 }], ns := N, ahead := s.ahead, ws := q.wants ns k, first := σ.length } := by
          rw [step_back hs3']
          have hnode : (q.ch k (ctxAt ns k) w).node = k := rfl
          dsimp only
          rw [hnode, hN, (hns4.trans ha).wants, hrs.ahead]
          have hfi : ∀ c : Ch, c.node = k → (σ ++ cs ++ [c]).findIdx (fun x : Ch => decide (x.node = k)) = σ.length := fun c hc => by
            rw [List.append_assoc]
            have hp : ∀ x ∈ σ, (fun x : Ch => decide (x.node = k)) x = false := fun x hx => by have := hlow x hx; simp; omega
            cases cs with
            | nil => exact findIdx_at hp (by simp [hc])
            | cons c r => exact findIdx_at hp (by simpa using hn c (.head _))
          rw [hfi _ rfl]
        have hrec := sim_try ih hl hn hlow he os (i + 1) t' { s3 with stack := σ ++ cs ++ [{ q.ch k (ctxAt ns k) w with i := i + 1 }], ns := N, ahead := s.ahead, ws := q.wants ns k, first := σ.length } hos hk (by rw [show ({ s3 with stack := _, ns := N, ahead := s.ahead, ws := q.wants ns k, first := σ.length } : St).ns = N from rfl, hns4.len]; exact hlt) (hns4.trans ha) rfl rfl rfl hd3
        have way : q.To .tri s .tri { s3 with stack := σ ++ cs ++ [{ q.ch k (ctxAt ns k) w with i := i + 1 }], ns := N, ahead := s.ahead, ws := q.wants ns k, first := σ.length } := .step hstep (hto.trans (.step hst4 (.refl _ _)))
        revert hrec
        cases tryAll q.D (fun o t => q.go f ns k l (addO e w.name o) t) os t' with
        | out => exact fun _ => trivial
        | done ns' t' => exact fun h => way.ends h
        | err e' => exact fun h => way.ends h
        | fail t' =>
          rintro ⟨s5, h5, h6, h7, h8⟩
          exact ⟨s5, way.trans h5, h6, Rs.trans_same (s1 := { s3 with stack := σ ++ cs ++ [{ q.ch k (ctxAt ns k) w with i := i + 1 }], ns := N, ahead := s.ahead, ws := q.wants ns k, first := σ.length }) rfl hns4 h7, h8⟩
theorem alk_all {k : Nat} {a b : List Node} (h : Alk k a b) (hl : a.length ≤ k) : a = b := by
  apply List.ext_getElem?
  intro i
  rcases Nat.lt_or_ge i k with hi | hi
  · exact h.2 i hi
  · rw [List.getElem?_eq_none (by omega), List.getElem?_eq_none (by have := h.len; omega)]
theorem sim : ∀ (f : Nat) (s : St) (ns : List Node) (k : Nat) (σ cs : List Ch) (l : List Want) (e : List Pin) (t : Nat), Cor q s ns k σ cs l e t → Holds q k .next s s.stack (q.go f ns k l e t)
  | 0, _, _, _, _, _, _, _, _, _ => by rw [Quest.go]; trivial
  | f + 1, s, ns, k, σ, cs, [], e, t, h => by
    have hidx : s.stack.length - s.first = cs.length := by rw [h.stack, h.first, List.length_append]; omega
    have hw : s.ws[s.stack.length - s.first]? = none := by
      rw [hidx, h.ws]
      have := congrArg (·[0]?) h.left
      simpa using this.symm
    have henv : s.env = e := by
      unfold St.env
      rw [h.stack, h.first, List.drop_left' rfl, h.hk, h.alk.ctxAt, ← h.env]
    have hst := step_next (q := q) s
    rw [hw, henv, h.hk] at hst
    dsimp only at hst
    rw [Quest.go]
    rcases h.alk.bind (e := e) h.lt with ⟨b1, b2⟩ | ⟨b1, b2⟩ | ⟨a', b', b1, b2, halk, htk, hle⟩
    · rw [b2]; rw [b1] at hst
      exact ⟨s, .step hst (.refl _ _), rfl, Rs.refl h.hk, h.dec⟩
    · rw [b2]; rw [b1] at hst
      exact .err hst
    · rw [b2]; rw [b1] at hst
      dsimp only at hst ⊢
      have hlen := halk.len
      have hlt := h.lt
      rw [← hlen]
      by_cases hd : k + 1 = a'.length
      · rw [if_pos hd] at hst ⊢
        obtain rfl := alk_all halk (by omega)
        rw [h.dec] at hst
        exact .done hst
      · rw [if_neg hd] at hst ⊢
        have cor : Cor q { s with ns := a', ahead := s.ahead ++ [s.ns.length], ws := q.wants a' (k + 1), first := s.stack.length } b' (k + 1) s.stack [] (q.wants b' (k + 1)) (ctxAt b' (k + 1)) t := by
          refine ⟨by simp [h.hk], by show k + 1 < a'.length; omega, halk, (by show q.wants a' (k + 1) = _; exact halk.wants _), by simp, rfl, by simp, fun c hc => (by cases hc), fun c hc => ?_, rfl, h.dec⟩
          rw [h.stack] at hc
          rcases List.mem_append.1 hc with hc | hc
          · have := h.low c hc; omega
          · rw [h.node c hc]; omega
        have hih := sim f _ _ _ _ _ _ _ _ cor
        revert hih
        cases q.go f b' (k + 1) (q.wants b' (k + 1)) (ctxAt b' (k + 1)) t with
        | out => exact fun _ => trivial
        | done ns' t' => exact fun g => .step hst g
        | err e' => exact fun g => .step hst g
        | fail t' =>
          rintro ⟨s', g1, g2, g3, g4⟩
          have hk := h.hk
          refine ⟨s', .step hst g1, g2, ?_, g4⟩
          have h5 : s'.ahead.take (k + 1) = s.ahead ++ [s.ns.length] := g3.ahead
          have h6 : s'.ahead[k]? = some s.ns.length := by
            have := congrArg (·[k]?) h5
            simp only [List.getElem?_take] at this
            rw [if_pos (by omega), List.getElem?_append_right (by omega)] at this
            simpa [hk] using this
          have h7 : a'.length ≤ s'.ns.length := g3.nsl
          have h8 : Alk (k + 1) (s'.ns.take a'.length) a' := g3.ns
          refine ⟨?_, by omega, ?_, fun a ha => ?_, fun ha => ?_⟩
          · have := congrArg (List.take k) h5
            rw [List.take_take, Nat.min_eq_left (by omega), List.take_left' hk] at this
            exact this
          · have h9 := (h8.take s.ns.length).mono (j := k) (by omega)
            rw [List.take_take, Nat.min_eq_left hle] at h9
            exact h9.trans htk
          · rw [h6] at ha; simpa using ha.symm
          · rw [h6] at ha; cases ha
  | f + 1, s, ns, k, σ, cs, w :: l, e, t, h => by
    have hidx : s.stack.length - s.first = cs.length := by rw [h.stack, h.first, List.length_append]; omega
    have hw : s.ws[s.stack.length - s.first]? = some w := by
      rw [hidx, h.ws]
      have := congrArg (·[0]?) h.left
      simpa using this.symm
    have hst : q.step .next s = .go .tri { s with stack := s.stack ++ [q.ch k (ctxAt ns k) w] } := by
      rw [step_next, hw, h.hk, h.alk.ctxAt]
    rw [Quest.go]
    have hr := sim_try (q := q) (f := f) (ns := ns) (k := k) (σ := σ) (cs := cs) (w := w) (l := l) (e := e) (fun s cs e t hc => sim f s ns k σ cs l e t hc) h.left h.node h.low h.env (opts (q.cand (ctxAt ns k) w)) 0 t { s with stack := s.stack ++ [q.ch k (ctxAt ns k) w] } rfl h.hk h.lt h.alk h.ws (by show s.stack ++ _ = _; rw [h.stack]; rfl) h.first h.dec
    revert hr
    cases tryAll q.D (fun o t => q.go f ns k l (addO e w.name o) t) (opts (q.cand (ctxAt ns k) w)) t with
    | out => exact fun _ => trivial
    | done ns' t' => exact fun g => .step hst g
    | err e' => exact fun g => .step hst g
    | fail t' =>
      rintro ⟨s', g1, g2, g3, g4⟩
      exact ⟨s', .step hst g1, g2.trans h.stack.symm, ⟨g3.ahead, g3.nsl, g3.ns, g3.at_, g3.eq⟩, g4⟩
def Quest.start (q : Quest) : St := ⟨[], [rootNode], [], q.wants [rootNode] 0, 0, 0⟩
def Quest.fuel (q : Quest) : Nat := q.D + q.N + 2
def Quest.run (q : Quest) : Out := q.go q.fuel [rootNode] 0 (q.wants [rootNode] 0) [] 0
theorem run_end : match q.run with
    | .out => True
    | .fail _ => q.End .next q.start (.err 30)
    | .done ns t => q.End .next q.start (.done ns t)
    | .err e => q.End .next q.start (.err e) := by
  have h := sim q.fuel q.start [rootNode] 0 [] [] (q.wants [rootNode] 0) [] 0 ⟨rfl, Nat.one_pos, .refl _ _, rfl, rfl, rfl, rfl, fun c h => (by cases h), fun c h => (by cases h), rfl, rfl⟩
  unfold Quest.run
  revert h
  cases q.go q.fuel [rootNode] 0 (q.wants [rootNode] 0) [] 0 with
  | out => exact fun _ => trivial
  | done ns t => exact fun h => h
  | err e => exact fun h => h
  | fail t =>
    rintro ⟨s', h1, h2, _, _⟩
    exact h1.ends (.err (step_none h2))
end
end Go.Hal
namespace Go.Hal
theorem putK_len {N : Nat} : ∀ {xs : List Node} {ks : List NKey} {r : List Node × List Edge}, putK N ks xs = some r → ks.length ≤ N → ks.length + r.1.length ≤ N
  | [], ks, r, h, hl => by
    rw [putK] at h
    cases h; simpa using hl
  | x :: xs, ks, r, h, hl => by
    rw [putK] at h
    cases hf : ks.findIdx? fun y => decide (y = x.key) with
    | some i =>
      rw [hf] at h
      obtain ⟨r', h1, h2⟩ := Option.map_eq_some_iff.1 h
      subst h2
      have := putK_len h1 hl
      exact this
    | none =>
      rw [hf] at h
      dsimp only at h
      by_cases hN : ks.length = N
      · rw [if_pos hN] at h; cases h
      · rw [if_neg hN] at h
        obtain ⟨r', h1, h2⟩ := Option.map_eq_some_iff.1 h
        subst h2
        have := putK_len h1 (by simp; omega)
        simp at this ⊢
        omega
theorem bind_len {q : Quest} {ns ns' : List Node} {k : Nat} {e : List Pin} (h : q.bind ns k e = .ok ns') (hl : ns.length ≤ q.N) : ns.length ≤ ns'.length ∧ ns'.length ≤ q.N := by
  unfold Quest.bind at h
  cases h1 : targets q (sortN e) (sortN e) with
  | none => rw [h1] at h; cases h
  | some xs =>
    rw [h1] at h
    dsimp only at h
    cases h2 : putK q.N (ns.map Node.key) xs with
    | none => rw [h2] at h; cases h
    | some r =>
      rw [h2] at h
      cases h
      have := putK_len h2 (by simpa using hl)
      rw [List.length_append, setEdges_len]
      simp at this
      omega
def Fine (q : Quest) (t : Nat) : Out → Prop
  | .out => False
  | .fail t' => t ≤ t' ∧ t' ≤ q.D
  | .done ns' t' => t ≤ t' ∧ t' ≤ q.D ∧ ns'.length ≤ q.N
  | .err e => e = 31 ∨ e = 32
theorem Fine.mono {q : Quest} {t t2 : Nat} {o : Out} (h : Fine q t2 o) (ht : t ≤ t2) : Fine q t o := by
  cases o with
  | out => exact h
  | fail t' => exact ⟨Nat.le_trans ht h.1, h.2⟩
  | done ns' t' => exact ⟨Nat.le_trans ht h.1, h.2⟩
  | err e => exact h
theorem try_fine {q : Quest} {k : Option Ver → Nat → Out} {m : Nat} (hk : ∀ o t, m < t → t ≤ q.D → Fine q t (k o t)) : ∀ (os : List (Option Ver)) (t : Nat), m ≤ t → t ≤ q.D → Fine q t (tryAll q.D k os t)
  | [], t, _, ht => ⟨Nat.le_refl _, ht⟩
  | o :: os, t, hm, ht => by
    rw [tryAll]
    by_cases hD : t = q.D
    · rw [if_pos hD]; exact .inl rfl
    · rw [if_neg hD]
      have h := hk o (t + 1) (by omega) (by omega)
      revert h
      cases k o (t + 1) with
      | out => exact fun h => h.elim
      | done ns' t' => exact fun h => Fine.mono (o := .done ns' t') h (Nat.le_succ _)
      | err e => exact fun h => h
      | fail t' => exact fun h => (try_fine hk os t' (by have := h.1; omega) h.2).mono (by have := h.1; omega)
theorem go_fine {q : Quest} : ∀ (f : Nat) (ns : List Node) (k : Nat) (l : List Want) (e : List Pin) (t : Nat), t ≤ q.D → k < ns.length → ns.length ≤ q.N → (q.D - t) + (q.N - k) + 1 ≤ f → Fine q t (q.go f ns k l e t)
  | 0, _, _, _, _, _, _, _, _, hf => by omega
  | f + 1, ns, k, [], e, t, ht, hk, hN, hf => by
    rw [Quest.go]
    cases h : q.bind ns k e with
    | graph => exact ⟨Nat.le_refl _, ht⟩
    | many => exact .inr rfl
    | ok ns' =>
      obtain ⟨h1, h2⟩ := bind_len h hN
      dsimp only
      split
      · exact ⟨Nat.le_refl _, ht, h2⟩
      · exact go_fine f ns' (k + 1) _ _ t ht (by omega) h2 (by omega)
  | f + 1, ns, k, w :: l, e, t, ht, hk, hN, hf => by
    rw [Quest.go]
    exact try_fine (m := t) (fun o t2 h1 h2 => go_fine f ns k l _ t2 h2 hk hN (by omega)) _ t (Nat.le_refl _) ht
theorem run_fine {q : Quest} (hN : 1 ≤ q.N) : Fine q 0 q.run := go_fine _ _ _ _ _ _ (Nat.zero_le _) Nat.one_pos hN (by unfold Quest.fuel; omega)
def Quest.res (q : Quest) : Stp := match q.run with
  | .out => .err 0
  | .fail _ => .err 30
  | .done ns t => .done ns t
  | .err e => .err e
theorem run_end' {q : Quest} (hN : 1 ≤ q.N) : q.End .next q.start q.res := by
  have h1 := run_fine hN
  have h2 := run_end (q := q)
  unfold Quest.res
  revert h1 h2
  cases q.run with
  | out => exact fun h => h.elim
  | fail t => exact fun _ h => h
  | done ns t => exact fun _ h => h
  | err e => exact fun _ h => h
end Go.Hal
namespace Go.Hal
open Go Go.RowKit Go.Proofs Go.Shelf
def edgeE : Enc Edge := flatE 2 24 (fun x => [.string x.name, .int .i64 x.to]) (fun x => Str x.name) (fun _ => rfl) (fun _ v hv => by simp at hv; rcases hv with rfl | rfl <;> rfl)
def nodeE : Enc Node where
  n := 6
  bytes := 88
  rep := fun w S x cs => Str x.name ∧ ∃ c e : Sl, cs = [.string x.name, .int .i64 x.v.ma, .int .i64 x.v.mi, .int .i64 x.v.pa, c.v, e.v] ∧ SlR pinE w S c x.ctx ∧ SlR edgeE w S e x.edges
  len := fun ⟨_, _, _, h, _⟩ => by rw [h]; rfl
  one := fun ⟨_, _, _, h, _⟩ v hv => by rw [h] at hv; simp [Sl.v] at hv; rcases hv with rfl | rfl | rfl | rfl | rfl | rfl <;> rfl
  mono := fun ⟨h0, c, e, h, a, b⟩ hs => ⟨h0, c, e, h, a.mono hs, b.mono hs⟩
  keep := fun ⟨h0, c, e, h, a, b⟩ hk => ⟨h0, c, e, h, a.keep hk, b.keep hk⟩
def chE : Enc Ch where
  n := 5
  bytes := 64
  rep := fun w S x cs => Str x.name ∧ ∃ v : Sl, cs = [.int .i64 x.node, .string x.name, v.v, .bool x.none, .int .i64 x.i] ∧ SlR verE w S v x.vs
  len := fun ⟨_, _, h, _⟩ => by rw [h]; rfl
  one := fun ⟨_, _, h, _⟩ v hv => by rw [h] at hv; simp [Sl.v] at hv; rcases hv with rfl | rfl | rfl | rfl | rfl <;> rfl
  mono := fun ⟨h0, c, h, a⟩ hs => ⟨h0, c, h, a.mono hs⟩
  keep := fun ⟨h0, c, h, a⟩ hk => ⟨h0, c, h, a.keep hk⟩
theorem apCh : ApT Tryz.prog 73 78 5 64 := apT_mk (z := .agg #[.int .i64 0, .string ⟨#[]⟩, .slice none 0 0, .bool false, .int .i64 0]) (by kernel_rfl) (by kernel_rfl) rfl (by decide)
theorem apNode : ApT Tryz.prog 41 55 6 88 := apT_mk (z := .agg #[.string ⟨#[]⟩, .int .i64 0, .int .i64 0, .int .i64 0, .slice none 0 0, .slice none 0 0]) (by kernel_rfl) (by kernel_rfl) rfl (by decide)
theorem apEdge : ApT Tryz.prog 53 115 2 24 := apT_mk (z := .agg #[.string ⟨#[]⟩, .int .i64 0]) (by kernel_rfl) (by kernel_rfl) rfl (by decide)
theorem apInt : ApT Tryz.prog 74 3 1 8 := apT_mk (z := .int .i64 0) (by kernel_rfl) (by kernel_rfl) rfl (by decide)
structure K7 where
  cp : Addr
  mD : Sl
  mDev : Sl
  mOpt : Sl
  mOv : Sl
  dev : Bool
  pS : Sl
def srCells (K : K7) (stk nds ahd ws : Sl) (first : Nat) : List Value := [.pointer (some K.cp), K.mD.v, K.mDev.v, K.mOpt.v, K.mOv.v, .bool K.dev, K.pS.v, stk.v, nds.v, ahd.v, ws.v, .int .i64 first]
structure Cs (w : World) (lo : Nat) (q : Quest) (K : K7) : Prop where
  cat : ∃ S r, CatL w S K.cp r q.L ∧ (∀ b, S b → b < lo) ∧ r < lo ∧ K.cp.block < lo
  deps : SlR depE w (· < lo) K.mD q.m.deps
  dv : SlR depE w (· < lo) K.mDev q.m.dev
  opt : SlR depE w (· < lo) K.mOpt q.m.opt
  over : SlR depE w (· < lo) K.mOv q.m.over
  pins : SlR pinE w (· < lo) K.pS q.pins
  dev : K.dev = q.dev
  le : lo ≤ w.heap.size
  small : q.m.deps.length + q.m.dev.length + q.m.opt.length ≤ 48
theorem Cs.below {w w' : World} {lo : Nat} {q : Quest} {K : K7} (h : Cs w lo q K) (hb : Below lo w w') : Cs w' lo q K := by
  obtain ⟨S, r, a, b, c, d⟩ := h.cat
  have s := hb.size
  have hlt : ∀ x, (S x ∨ x = K.cp.block ∨ x = r) → x < lo := fun x hh => by
    rcases hh with hh | rfl | rfl
    · exact b x hh
    · exact d
    · exact c
  exact ⟨⟨S, r, a.stay s fun x hx hh => hb.block x (hlt x hh), b, c, d⟩, h.deps.below hb fun _ h => h, h.dv.below hb fun _ h => h, h.opt.below hb fun _ h => h, h.over.below hb fun _ h => h, h.pins.below hb fun _ h => h, h.dev, Nat.le_trans h.le s, h.small⟩
theorem Cs.old {w : World} {lo : Nat} {q : Quest} {K : K7} (h : Cs w lo q K) : Old (· < lo) w := fun b hb => Nat.lt_of_lt_of_le hb h.le
def Off (s : Sl) (g : Nat) : Prop := ∀ ad, s.a = some ad → ad.block ≠ g
structure Sr0 (w : World) (lo : Nat) (g : Nat) (stk nds ahd ws : Sl) (Q : Nat → Prop) (s : St) : Prop where
  stack : OwnS chE 78 w lo Q stk s.stack
  nodes : OwnS nodeE 55 w lo Q nds s.ns
  ahead : OwnS intE 3 w lo Q ahd (s.ahead.map Int.ofNat)
  wants : SlR wantE w Q ws s.ws
  q : ∀ b, Q b → lo ≤ b ∧ b ≠ g
  a1 : Apart stk nds
  a2 : Apart stk ahd
  a3 : Apart nds ahd
  o1 : Off stk g
  o2 : Off nds g
  o3 : Off ahd g
section
variable {w w' : World} {lo g : Nat} {stk nds ahd ws : Sl} {Q : Nat → Prop} {s : St}
theorem Sr0.but (h : Sr0 w lo g stk nds ahd ws Q s) (hb : But g w w') : Sr0 w' lo g stk nds ahd ws Q s := by
  have hg : ¬ Q g := fun h0 => (h.q g h0).2 rfl
  exact ⟨h.stack.but hb hg fun ad ha => (h.o1 ad ha).symm, h.nodes.but hb hg fun ad ha => (h.o2 ad ha).symm, h.ahead.but hb hg fun ad ha => (h.o3 ad ha).symm, h.wants.but hb hg, h.q, h.a1, h.a2, h.a3, h.o1, h.o2, h.o3⟩
theorem Sr0.ext (h : Sr0 w lo g stk nds ahd ws Q s) (hx : Ext w w') : Sr0 w' lo g stk nds ahd ws Q s :=
  ⟨h.stack.ext hx, h.nodes.ext hx, h.ahead.ext hx, h.wants.ext hx, h.q, h.a1, h.a2, h.a3, h.o1, h.o2, h.o3⟩
theorem Sr0.grow (h : Sr0 w lo g stk nds ahd ws Q s) (hx : Ext w w') (hlo : lo ≤ w.heap.size) (hg : g < w.heap.size) : Sr0 w' lo g stk nds ahd ws (fun b => Q b ∨ (w.heap.size ≤ b ∧ b < w'.heap.size)) s := by
  have hs := hx.size
  have key : ∀ {α : Type} {E : Enc α} {T : TypeId} {x : Sl} {l : List α}, OwnS E T w lo Q x l → OwnS E T w' lo (fun b => Q b ∨ (w.heap.size ≤ b ∧ b < w'.heap.size)) x l := fun o => (o.ext hx).mono (fun _ h => .inl h) (fun b hb => by
      rcases hb with hb | hb
      · have := o.lt b hb; omega
      · exact hb.2) (fun ad ha hb => by
      rcases hb with hb | hb
      · exact o.apart ad ha hb
      · have := (o.block ha).2.1; omega)
  exact ⟨key h.stack, key h.nodes, key h.ahead, (h.wants.ext hx).mono fun _ h => .inl h, fun b hb => by
    rcases hb with hb | hb
    · exact h.q b hb
    · exact ⟨by omega, by omega⟩, h.a1, h.a2, h.a3, h.o1, h.o2, h.o3⟩
end
def SrAt (w : World) (lo : Nat) (sp : Addr) (K : K7) (s : St) : Prop := ∃ stk nds ahd ws Q, BoxAt w sp (srCells K stk nds ahd ws s.first) ∧ lo ≤ sp.block ∧ Sr0 w lo sp.block stk nds ahd ws Q s
theorem _root_.Go.Hal.Ext.below' {w w' : World} (h : Ext w w') (lo : Nat) (hl : lo ≤ w.heap.size) : Below lo w w' := Below.mono h hl
theorem lo_lt {w : World} {a : Addr} {cs : List Value} (h : BoxAt w a cs) : a.block < w.heap.size := h.lt
theorem wantsOf_len' (over a b : List Dep) : (wantsOf over a b).length = a.length + b.length := by
  unfold wantsOf
  rw [stSort_len, List.length_append, List.length_map, List.length_map]
theorem rootMust_len' (m : Mani) (dev : Bool) : (rootMust m dev).length ≤ m.deps.length + m.dev.length := by
  unfold rootMust
  split
  · rw [List.length_append]; exact Nat.le_refl _
  · omega
theorem flatVers {w : World} {lo : Nat} {s : Sl} {l : List Ver} (h : FlatO Ver.c 24 w lo s l) : SlR verE w (fun b => lo ≤ b ∧ b < w.heap.size) s l := FlatO.read (E := verE) h (fun _ => rfl) fun _ _ x _ => ⟨rfl, trivial⟩
theorem chMany_se {c : Ch} {v : Sl} {S : Nat → Prop} {w : World} {R : Int → World → Prop} (hv : SlR verE w S v c.vs) (hl : c.vs.length ≤ 1000) (hR : ∀ w', Ext w w' → R (c.many : Int) w') : SE.resolve_choice_many c.node c.name v c.none c.i w R := by
  unfold SE.resolve_choice_many
  have hvl := hv.len
  refine newS.intro fun a w1 x1 ha _ _ => ⟨c.none, BoxAt.at1 ha (k := 3) (Ext.refl _) rfl, fun h => ?_, fun h => ?_⟩
  · refine ⟨v, BoxAt.at1 ha (k := 2) (Ext.refl _) rfl, ?_⟩
    have e : wrapI ((v.len : Int) + 1) = (c.many : Int) := by
      rw [wrapI_eq (by omega) (by omega)]
      unfold Ch.many
      rw [if_pos h]; omega
    rw [e]; exact hR _ x1
  · refine ⟨v, BoxAt.at1 ha (k := 2) (Ext.refl _) rfl, ?_⟩
    have e : (v.len : Int) = (c.many : Int) := by
      unfold Ch.many
      rw [if_neg (by rw [h]; decide)]; omega
    rw [e]; exact hR _ x1
theorem rsTold_se {s : Sl} {l : List Pin} {n : ByteArray} {S : Nat → Prop} {w : World} {R : Int → Int → Int → Bool → World → Prop} (hs : SlR pinE w S s l)
    (hsome : ∀ v w', tells l n = some v → Ext w w' → R v.ma v.mi v.pa true w') (hnone : ∀ w', tells l n = none → Ext w w' → R 0 0 0 false w') : SE.resolve_told s n w R := by
  unfold SE.resolve_told
  have hl := hs.len
  refine newS.intro fun a w1 x1 ha hab _ => ?_
  refine loop1.up hs.max (fun i w' => Ext w1 w' ∧ (l.take i).find? (isN n) = none) ⟨Ext.refl _, rfl⟩ fun i w2 nxt hi ⟨x2, hI⟩ hn => ⟨fun hlt => ?_, fun hge => ?_⟩
  · have hlt' : i < l.length := by omega
    have x02 := x1.trans x2
    obtain ⟨ad, hsa, _, hN, hc⟩ := pinEl hs hlt'
    refine ⟨ad, ⟨hsa, by omega, hlt⟩, _, _, _, _, hc _ x02, newS.intro fun a3 w3 x3 hb3 ha3 _ => stw0.intro hb3 (by simp) fun w4 b4 _ hb4 => ?_⟩
    have x24 : Ext w2 w4 := b4.ext x3 (by omega)
    have x14 := x2.trans x24
    refine ⟨_, hb4.at0 (Ext.refl _) rfl, fun he => ?_, fun he => ?_⟩
    · refine ⟨_, _, _, BoxAt.at1 hb4 (k := 1) (Ext.refl _) rfl, stw0.intro (ha.ext x14) (by simp) fun w5 b5 _ hb5 => ⟨_, _, _, hb5.at0 (r := []) (Ext.refl _) rfl, ?_⟩⟩
      have hf := find_hit (p := isN n) hlt' hI (by simp [isN, he])
      exact hsome l[i].v w5 (by unfold tells; rw [hf]; rfl) (b5.ext (x1.trans x14) (by omega))
    · refine hn hlt' _ ⟨x14, ?_⟩
      rw [take_find_succ hlt' hI, if_neg (by simp [isN, he])]
  · have : i = l.length := by omega
    rw [this, List.take_length] at hI
    refine stw0.intro (ha.ext x2) (by simp) fun w3 b3 _ hb3 => ⟨_, _, _, hb3.at0 (r := []) (Ext.refl _) rfl, hnone w3 (by unfold tells; rw [hI]; rfl) (b3.ext (x1.trans x2) (by omega))⟩
end Go.Hal
namespace Go.Hal
open Go Go.RowKit Go.Proofs Go.Shelf
section
variable {w : World} {lo : Nat} {sp : Addr} {K : K7} {q : Quest} {s : St}
theorem Sr0.setWs {stk nds ahd ws t : Sl} {Q : Nat → Prop} {l : List Want} {k : World → Prop} (hb : BoxAt w sp (srCells K stk nds ahd ws s.first)) (hlo : lo ≤ sp.block) (h0 : Sr0 w lo sp.block stk nds ahd ws Q s) (ht : SlR wantE w Q t l)
    (hk : ∀ w', But sp.block w w' → BoxAt w' sp (srCells K stk nds ahd t s.first) → Sr0 w' lo sp.block stk nds ahd t Q { s with ws := l } → k w') : stw w (sp.add 10) [t.v] k :=
  stw.intro (o := 10) hb (by show 11 ≤ 12; omega) fun w' b _ hb' => hk w' b hb'
    (have h := h0.but b
    ⟨h.stack, h.nodes, h.ahead, ht.but b fun h1 => (h0.q _ h1).2 rfl, h.q, h.a1, h.a2, h.a3, h.o1, h.o2, h.o3⟩)
theorem Sr0.setFirst {stk nds ahd ws : Sl} {Q : Nat → Prop} {n : Nat} {k : World → Prop} (hb : BoxAt w sp (srCells K stk nds ahd ws s.first)) (hlo : lo ≤ sp.block) (h0 : Sr0 w lo sp.block stk nds ahd ws Q s)
    (hk : ∀ w', But sp.block w w' → SrAt w' lo sp K { s with first := n } → k w') : stw w (sp.add 11) [.int .i64 n] k :=
  stw.intro (o := 11) hb (by show 12 ≤ 12; omega) fun w' b _ hb' => hk w' b ⟨stk, nds, ahd, ws, Q, hb', hlo,
    have h := h0.but b
    ⟨h.stack, h.nodes, h.ahead, h.wants, h.q, h.a1, h.a2, h.a3, h.o1, h.o2, h.o3⟩⟩
theorem getD_small {L : List Pack} (hG : GoodL L) (n : ByteArray) (v : Ver) : (getD L n v).deps.length ≤ 16 ∧ (getD L n v).peers.length ≤ 16 ∧ (getD L n v).opt.length ≤ 16 := by
  unfold getD
  cases h : getL L n v with
  | none => exact ⟨Nat.zero_le _, Nat.zero_le _, Nat.zero_le _⟩
  | some p =>
    obtain ⟨_, _, h1, h2, h3⟩ := may_lists (hG.may p (getL_some h).1)
    exact ⟨(depsMay_names h1).1, (depsMay_names h2).1, (depsMay_names h3).1⟩
theorem wants_getD {ns : List Node} {k : Nat} {x : Node} (hk : k ≠ 0) (hx : ns[k]? = some x) : q.wants ns k = wantsOf q.m.over (getD q.L x.name x.v).deps (getD q.L x.name x.v).opt := by
  unfold Quest.wants wantsK keyAt
  rw [if_neg hk, List.getElem?_map, hx]
  show (match getL q.L x.name x.v with | none => [] | some p => wantsOf q.m.over p.deps p.opt) = _
  unfold getD
  cases getL q.L x.name x.v with
  | none => rfl
  | some p => rfl
set_option maxHeartbeats 2000000 in
theorem want_se' {k : Nat} {stk nds ahd ws : Sl} {Q : Nat → Prop} {R : World → Prop} (hC : Cs w lo q K) (hb : BoxAt w sp (srCells K stk nds ahd ws s.first)) (hlo : lo ≤ sp.block) (h0 : Sr0 w lo sp.block stk nds ahd ws Q s) (hk : k < s.ns.length)
    (hR : ∀ w' ws' Q', But sp.block w w' → BoxAt w' sp (srCells K stk nds ahd ws' s.first) → Sr0 w' lo sp.block stk nds ahd ws' Q' { s with ws := q.wants s.ns k } → R w') : SE.resolve_search_want (some sp) (k : Int) w R := by
  unfold SE.resolve_search_want
  have hsm := hC.small
  refine ⟨fun hk0 => bnd.drew fun w1 x1 => ⟨sp, rfl, K.mD, K.mDev, K.mOpt, K.mOv, BoxAt.at1 hb (k := 1) x1 rfl, sp, rfl, K.dev, BoxAt.at1 hb (k := 5) x1 rfl, ?_⟩, fun hk0 => ?_⟩
  · have hk0' : k = 0 := by omega
    subst hk0'
    have hC1 := hC.below (x1.below' lo hC.le)
    refine SE.wants_OfRoot.go (wantsOfRoot_se (m := q.m) hC1.old hC1.deps hC1.dv hC1.opt hC1.over (by unfold room; omega) fun t w2 x2 hsep => ⟨_, rfl, sp, rfl, ?_⟩)
    have x02 := x1.trans x2
    have hg := lo_lt hb
    have hrd := hsep.read (by rw [wantsOf_len']; have := rootMust_len' q.m K.dev; unfold room; omega)
    have h2 := h0.grow x02 hC.le hg
    have s1 := x1.size
    refine Sr0.setWs (l := q.wants s.ns 0) (hb.ext x02) hlo h2 ?_ fun w3 b3 hb3 h3 => hR w3 _ _ ((x02.but _).trans b3) hb3 h3
    rw [hC.dev] at hrd
    exact hrd.mono fun b hb => .inr ⟨by omega, hb.2⟩
  · have hk0' : k ≠ 0 := by omega
    have hx : s.ns[k]? = some s.ns[k] := List.getElem?_eq_getElem hk
    obtain ⟨ad, cs, hna, ⟨hN, c, e, rfl, _, _⟩, hc⟩ := h0.nodes.el hx
    have hnl := h0.nodes.len
    obtain ⟨S, r, hcat, hS, hr, hcp⟩ := hC.cat
    have hG := hcat.good
    obtain ⟨g1, g2, g3⟩ := getD_small hG s.ns[k].name s.ns[k].v
    have hg := lo_lt hb
    refine join.named fun J hJ => bnd.drew fun w1 x1 => ?_
    refine ⟨sp, rfl, _, BoxAt.at0 hb x1 rfl, sp, rfl, nds, BoxAt.at1 hb (k := 8) x1 rfl, ad, ⟨hna, by omega, by omega⟩, s.ns[k].name, (hc _ x1).pre rfl, sp, rfl, nds, BoxAt.at1 hb (k := 8) x1 rfl, ad, ⟨hna, by omega, by omega⟩, s.ns[k].v.ma, s.ns[k].v.mi, s.ns[k].v.pa, (hc _ x1).mid (k := 1) rfl, ?_⟩
    have key : ∀ (a : Addr) (d e o : Sl) (wm w3 : World), Ext w wm → Ext wm w3 → BoxAt w3 a [.string (getD q.L s.ns[k].name s.ns[k].v).name, .int .i64 (getD q.L s.ns[k].name s.ns[k].v).v.ma, .int .i64 (getD q.L s.ns[k].name s.ns[k].v).v.mi, .int .i64 (getD q.L s.ns[k].name s.ns[k].v).v.pa, d.v, e.v, o.v] →
        SlR depE w3 (fun b => b < w3.heap.size) d (getD q.L s.ns[k].name s.ns[k].v).deps → SlR depE w3 (fun b => b < w3.heap.size) o (getD q.L s.ns[k].name s.ns[k].v).opt → J a w3 := by
      subst hJ
      intro a d e o wm w3 xm x3 hba hd ho
      have x03 := xm.trans x3
      refine bnd.drew fun w4 x4 => ?_
      have x04 := x03.trans x4
      have hC4 := hC.below (x04.below' lo hC.le)
      refine ⟨_, _, _, _, d, e, o, hba.at0 (r := []) x4 rfl, sp, rfl, K.mD, K.mDev, K.mOpt, K.mOv, BoxAt.at1 hb (k := 1) x04 rfl, ?_⟩
      have s4 := x4.size
      refine SE.wants_Of.go (wantsOf_se (p := getD q.L s.ns[k].name s.ns[k].v) (S := fun b => b < w4.heap.size) (fun b h => h) ((hd.ext x4).mono fun b h => by omega) ((ho.ext x4).mono fun b h => by omega) (hC4.over.mono fun b h => by have := hC4.le; omega) (by unfold room; omega) fun t w5 x5 hsep => ⟨_, rfl, sp, rfl, ?_⟩)
      have x05 := x04.trans x5
      have hrd := hsep.read (by rw [wantsOf_len']; unfold room; omega)
      have h5 := h0.grow x05 hC.le hg
      have s04 := x04.size
      refine Sr0.setWs (l := q.wants s.ns k) (hb.ext x05) hlo h5 ?_ fun w6 b6 hb6 h6 => hR w6 _ _ ((x05.but _).trans b6) hb6 h6
      rw [wants_getD hk0' hx]
      exact hrd.mono fun b hb => .inr ⟨by omega, hb.2⟩
    refine ⟨SE.catalog_Catalog_Get.go (catGet_se (n := s.ns[k].name) (v := s.ns[k].v) (hcat.ext x1) fun d e o w3 x3 _ hd he ho => ⟨_, _, _, _, _, _, _, _, rfl, newS.intro fun a w4 x4 hb4 hab _ => stw0.intro hb4 (by simp) fun w5 b5 _ hb5 => ?_⟩), newS.intro fun a w3 x3 hb3 hab _ => SE.catalog_Catalog_Get.go (catGet_se (n := s.ns[k].name) (v := s.ns[k].v) ((hcat.ext x1).ext x3) fun d e o w4 x4 _ hd he ho => ⟨_, _, _, _, _, _, _, _, rfl, stw0.intro (hb3.ext x4) (by simp) fun w5 b5 _ hb5 => ?_⟩)⟩
    · have x35 : Ext w3 w5 := b5.ext x4 (by omega)
      have s5 := x35.size
      exact key a d e o w3 w5 (x1.trans x3) x35 hb5 ((hd.dep.ext x35).mono fun b h => by omega) ((ho.dep.ext x35).mono fun b h => by omega)
    · have x15 : Ext w1 w5 := b5.ext (x3.trans x4) (by omega)
      have hna : ∀ b, (w3.heap.size ≤ b ∧ b < w4.heap.size) → b ≠ a.block := fun b h => by omega
      have s5 := b5.1
      exact key a d e o w1 w5 x1 x15 hb5 ((hd.dep.but b5 fun h => hna _ h rfl).mono fun b h => by omega) ((ho.dep.but b5 fun h => hna _ h rfl).mono fun b h => by omega)
theorem want_se {k : Nat} {R : World → Prop} (hC : Cs w lo q K) (h : SrAt w lo sp K s) (hk : k < s.ns.length) (hR : ∀ w', Below lo w w' → SrAt w' lo sp K { s with ws := q.wants s.ns k } → R w') : SE.resolve_search_want (some sp) (k : Int) w R := by
  obtain ⟨stk, nds, ahd, ws, Q, hb, hlo, h0⟩ := h
  exact want_se' hC hb hlo h0 hk fun w' ws' Q' b hb' h' => hR w' (b.below hC.le hlo) ⟨stk, nds, ahd, ws', Q', hb', hlo, h'⟩
theorem begin_se {R : World → Prop} (hC : Cs w lo q K) (h : SrAt w lo sp K s) (hk : s.ahead.length < s.ns.length) (hR : ∀ w', Below lo w w' → SrAt w' lo sp K { s with first := s.stack.length, ws := q.wants s.ns s.ahead.length } → R w') : SE.resolve_search_begin (some sp) w R := by
  unfold SE.resolve_search_begin
  obtain ⟨stk, nds, ahd, ws, Q, hb, hlo, h0⟩ := h
  have hsl := h0.stack.len
  have hal := h0.ahead.len
  rw [List.length_map] at hal
  refine ⟨sp, rfl, ahd, BoxAt.at1 hb (k := 9) (Ext.refl _) rfl, sp, rfl, stk, BoxAt.at1 hb (k := 7) (Ext.refl _) rfl, sp, rfl, ?_⟩
  rw [hsl, hal]
  refine Sr0.setFirst (n := s.stack.length) hb hlo h0 fun w1 b1 h1 => ?_
  have bel := b1.below hC.le hlo
  exact SE.resolve_search_want.go (want_se (hC.below bel) h1 hk fun w2 bel2 h2 => ⟨rfl, hR w2 (bel.trans bel2) h2⟩)
end
end Go.Hal
namespace Go.Hal
open Go Go.RowKit Go.Proofs Go.Shelf
section
variable {w : World} {lo : Nat} {sp : Addr} {K : K7} {q : Quest} {s : St}
theorem ctxAt_el {ns : List Node} {k : Nat} {x : Node} (h : ns[k]? = some x) : ctxAt ns k = x.ctx := by
  unfold ctxAt keyAt
  rw [List.getElem?_map, h]; rfl
set_option maxHeartbeats 2000000 in
theorem choice_se {wt : Want} {rs : Sl} {SR : Nat → Prop} {R : Int → ByteArray → Sl → Bool → Int → World → Prop} (hC : Cs w lo q K) (h : SrAt w lo sp K s) (hk : s.ahead.length < s.ns.length) (hN : Str wt.name) (hSR : Old SR w) (hr : SlR spanE w SR rs wt.range)
    (hR : ∀ v w', Ext w w' → SlR verE w' (fun b => w.heap.size ≤ b ∧ b < w'.heap.size) v (q.ch s.ahead.length (ctxAt s.ns s.ahead.length) wt).vs → R (s.ahead.length : Int) wt.name v (q.ch s.ahead.length (ctxAt s.ns s.ahead.length) wt).none 0 w') : SE.resolve_search_choice (some sp) wt.name wt.kind rs w R := by
  unfold SE.resolve_search_choice
  obtain ⟨stk, nds, ahd, ws, Q, hb, hlo, h0⟩ := h
  have hal := h0.ahead.len
  rw [List.length_map] at hal
  have hnl := h0.nodes.len
  have hx : s.ns[s.ahead.length]? = some s.ns[s.ahead.length] := List.getElem?_eq_getElem hk
  obtain ⟨ad, cs, hna, ⟨hNx, c, e, rfl, hctx, _⟩, hcx⟩ := h0.nodes.el hx
  have hcA := ctxAt_el hx
  obtain ⟨S, r, hcat, hS, hrl, hcp⟩ := hC.cat
  have hch : q.ch s.ahead.length (ctxAt s.ns s.ahead.length) wt = ⟨s.ahead.length, wt.name, (q.cand (ctxAt s.ns s.ahead.length) wt).1, (q.cand (ctxAt s.ns s.ahead.length) wt).2, 0⟩ := rfl
  rw [hch] at hR
  dsimp only at hR
  rw [hcA] at hR
  refine newS.intro fun a w1 x1 ha hab _ => newS.intro fun a1 w2 x2 ha1 ha1b _ => ?_
  have x02 := x1.trans x2
  have s1 := x1.size; have s2 := x2.size
  refine ⟨sp, rfl, ahd, BoxAt.at1 hb (k := 9) x02 rfl, wt.name, BoxAt.at0 ha x2 rfl, newS.intro fun a4 w3 x3 hb4 ha4b _ => stw0.intro hb4 (by simp) fun w4 b4 _ hb5 => ?_⟩
  have s3 := x3.size
  have x24 : Ext w2 w4 := b4.ext x3 (by omega)
  have x04 := x02.trans x24
  have x14 := x2.trans x24
  rw [hal] at hb5 ⊢
  have hl4 : a4.block < w4.heap.size := hb5.lt
  have hl1 : a1.block < w4.heap.size := by have := ha1.lt; omega
  have hne : a1.block ≠ a4.block := by have := ha1.lt; omega
  have fin : ∀ (w8 : World) (v : Sl) (nb : Bool) (l : List Ver), Ext w2 w8 → w4.heap.size ≤ w8.heap.size → BoxAt w8 a4 [.int .i64 (s.ahead.length : Int), .string wt.name, v.v, .bool nb, .int .i64 0] → SlR verE w8 (fun b => w4.heap.size ≤ b ∧ b < w8.heap.size) v l → q.cand s.ns[s.ahead.length].ctx wt = (l, nb) →
      ∃ (t40_node : Int) (t40_name : ByteArray) (t40_versions : Sl) (t40_none : Bool) (t40_at : Int), (ldc w8 a4 [(Value.int .i64 t40_node), (Value.string t40_name), (Sl.v t40_versions), (Value.bool t40_none), (Value.int .i64 t40_at)]) ∧ stw w8 a1 [(Value.int .i64 t40_node), (Value.string t40_name), (Sl.v t40_versions), (Value.bool t40_none), (Value.int .i64 t40_at)] fun vw10 =>
        ∃ (r_node : Int) (r_name : ByteArray) (r_versions : Sl) (r_none : Bool) (r_at : Int), ldc vw10 a1 [(Value.int .i64 r_node), (Value.string r_name), (Sl.v r_versions), (Value.bool r_none), (Value.int .i64 r_at)] ∧ R r_node r_name r_versions r_none r_at vw10 := fun w8 v nb l x28 hs8 hb8 hv hcd => by
    refine ⟨_, _, v, _, _, hb8.ldc.pre (r := []) rfl, stw0.intro (ha1.ext x28) (by simp) fun w9 b9 _ hb9 => ⟨_, _, v, _, _, hb9.at0 (r := []) (Ext.refl _) rfl, ?_⟩⟩
    have h2 := hR v w9 (b9.ext (x02.trans x28) (by omega))
    rw [hcd] at h2
    have s9 := b9.1
    exact h2 ((hv.but b9 fun h => by omega).mono fun b h => ⟨by omega, by omega⟩)
  refine join.named fun J hJ => bnd.drew fun w5 x5 => ?_
  have x05 := x04.trans x5
  have x25 := x24.trans x5
  have s5 := x5.size
  have key : ∀ (a6 : Addr) (v : Ver) (is : Bool) (w7 : World), Ext w5 w7 → BoxAt w7 a6 [.int .i64 v.ma, .int .i64 v.mi, .int .i64 v.pa] → (is = true → tells s.ns[s.ahead.length].ctx wt.name = some v) → (is = false → tells s.ns[s.ahead.length].ctx wt.name = none) → J a6 is w7 := by
    subst hJ
    intro a6 v is w7 x57 hb6 ht1 ht2
    have x07 := x05.trans x57
    have x47 := x5.trans x57
    have x27 := x24.trans x47
    have x17 := x2.trans x27
    have hb7 := hb5.ext x47
    have s7 := x57.size
    refine ⟨fun his => ?_, fun his => ?_⟩
    · have hcand : q.cand s.ns[s.ahead.length].ctx wt = (if spansIn wt.range v then [v] else [], false) := by unfold Quest.cand; rw [ht1 his]
      refine join.named fun J2 hJ2 => ⟨rs, BoxAt.at1 ha (k := 2) x17 rfl, v.ma, v.mi, v.pa, hb6.at0 (r := []) (Ext.refl _) rfl, SE.span_In.go (spanIn_se (hr.ext x07) fun w8 x8 => ⟨_, rfl, fun hin => ?_, fun hin => ?_⟩)⟩
      · refine ⟨v.ma, v.mi, v.pa, hb6.at0 (r := []) x8 rfl, newS.intro fun a9 w9 x9 hb9 ha9 _ => ?_⟩
        have x79 := x8.trans x9
        refine stw.intro (o := 2) (hb7.ext x79) (by simp) fun w10 b10 _ hb10 => ?_
        have s8 := x8.size; have s9 := x9.size
        have x210 : Ext w2 w10 := b10.ext (x27.trans x79) (by omega)
        subst hJ2
        have hne9 : a9.block ≠ a4.block := by omega
        have h1 := (box_one (E := verE) (S := fun _ => False) hb9 ⟨rfl, trivial⟩ (by decide)).but b10 (fun h => by
          rcases h with h | h
          · exact h
          · exact hne9 h.symm)
        have hl9 := hb9.lt
        have s10 := b10.1
        refine fin w10 ⟨some a9, 1, 1⟩ false [v] x210 (by omega) hb10 (h1.mono fun b hb => ?_) (by rw [hcand, if_pos hin])
        rcases hb with hb | rfl
        · exact hb.elim
        · exact ⟨by omega, by omega⟩
      · subst hJ2
        exact fin w8 Sl.nil false [] (x27.trans x8) (by have := x8.size; omega) (hb7.ext x8) (SlR.nil trivial) (by rw [hcand, if_neg (by rw [hin]; decide)])
    · have hcand : q.cand s.ns[s.ahead.length].ctx wt = (cands q.L wt.name wt.range q.pins, decide (wt.kind = 2)) := by unfold Quest.cand; rw [ht2 his]
      refine bnd.drew fun w8 x8 => ?_
      have x78 := x8
      have x08 := x07.trans x8
      have x18 := x17.trans x8
      have hC8 := hC.below (x08.below' lo hC.le)
      refine ⟨sp, rfl, _, BoxAt.at0 hb x08 rfl, wt.name, BoxAt.at0 ha x18 rfl, rs, BoxAt.at1 ha (k := 2) x18 rfl, sp, rfl, K.pS, BoxAt.at1 hb (k := 6) x08 rfl, ?_⟩
      refine SE.catalog_Catalog_Candidates.go (catCands_se (hcat.ext x08) (hSR.ext x08.size) hC8.old (hr.ext x08) hC8.pins fun t w9 x9 hF => ⟨_, rfl, ?_⟩)
      have x89 := x9
      have s8 := x8.size; have s9 := x9.size
      refine stw.intro (o := 2) ((hb7.ext x8).ext x9) (by simp) fun w10 b10 _ hb10 => ?_
      have x210 : Ext w2 w10 := b10.ext ((x27.trans x8).trans x9) (by omega)
      refine ⟨wt.kind, BoxAt.at1 ha (k := 1) (x2.trans x210) rfl, stw.intro (o := 3) hb10 (by simp) fun w11 b11 _ hb11 => ?_⟩
      have x211 : Ext w2 w11 := b11.ext x210 (by omega)
      have e2 : (wt.kind == 2) = decide (wt.kind = 2) := by rw [Bool.eq_iff_iff]; simp
      rw [e2] at hb11
      have s10 := b10.1; have s11 := b11.1
      have hv := (((flatVers hF).but b10 (fun h => by omega)).but b11 (fun h => by omega))
      exact fin w11 t (decide (wt.kind = 2)) _ x211 (by omega) hb11 (hv.mono fun b h => ⟨by omega, by omega⟩) hcand
  have hcS : SlR pinE w5 (fun b => Q b) c s.ns[s.ahead.length].ctx := hctx.ext x05
  have nds8 : ldc w5 (sp.add 8) [nds.v] := BoxAt.at1 hb (k := 8) x05 rfl
  refine ⟨sp, rfl, nds, nds8, ad, ⟨hna, by omega, by omega⟩, c, (hcx _ x05).mid (k := 4) rfl, wt.name, BoxAt.at0 ha (x2.trans x25) rfl, ?_⟩
  refine ⟨SE.resolve_told.go (rsTold_se hcS (fun v w6 ht x6 => ⟨_, _, _, _, rfl, newS.intro fun a7 w7 x7 hb7 hab7 _ => stw0.intro hb7 (by simp) fun w8 b8 _ hb8 => ?_⟩) fun w6 ht x6 => ⟨_, _, _, _, rfl, newS.intro fun a7 w7 x7 hb7 hab7 _ => stw0.intro hb7 (by simp) fun w8 b8 _ hb8 => ?_⟩),
    newS.intro fun a7 w7 x7 hb7 hab7 _ => SE.resolve_told.go (rsTold_se (hcS.ext x7) (fun v w6 ht x6 => ⟨_, _, _, _, rfl, stw0.intro (hb7.ext x6) (by simp) fun w8 b8 _ hb8 => ?_⟩) fun w6 ht x6 => ⟨_, _, _, _, rfl, stw0.intro (hb7.ext x6) (by simp) fun w8 b8 _ hb8 => ?_⟩)⟩
  · exact key a7 v true w8 (x6.trans (b8.ext x7 (by omega))) hb8 (fun _ => ht) (fun h => by cases h)
  · exact key a7 ⟨0, 0, 0⟩ false w8 (x6.trans (b8.ext x7 (by omega))) hb8 (fun h => by cases h) fun _ => ht
  · exact key a7 v true w8 (b8.ext (x7.trans x6) (by omega)) hb8 (fun _ => ht) (fun h => by cases h)
  · exact key a7 ⟨0, 0, 0⟩ false w8 (b8.ext (x7.trans x6) (by omega)) hb8 (fun h => by cases h) fun _ => ht
end
end Go.Hal
namespace Go.Hal
open Go Go.RowKit Go.Proofs Go.Shelf
section
variable {α : Type} {E : Enc α} {T : TypeId} {w : World} {lo : Nat} {Q : Nat → Prop} {s : Sl} {l : List α}
theorem flat_len' {css : List (List Value)} {n : Nat} (h : ∀ cs ∈ css, cs.length = n) : css.flatten.length = css.length * n := by
  induction css with
  | nil => simp
  | cons c r ih => rw [List.flatten_cons, List.length_append, h c (.head _), ih fun x hx => h x (.tail _ hx), List.length_cons, Nat.add_mul]; omega
theorem OwnS.rowLens (h : OwnS E T w lo Q s l) {css : List (List Value)} (hl : css.length = l.length) (hr : ∀ (i : Nat) (x : α), l[i]? = some x → ∃ cs, css[i]? = some cs ∧ E.rep w Q x cs) : ∀ cs ∈ css, cs.length = E.n := fun cs hcs => by
  obtain ⟨k, hk, rfl⟩ := List.mem_iff_getElem.1 hcs
  obtain ⟨cs', h1, h2⟩ := hr k _ (List.getElem?_eq_getElem (by omega))
  rw [List.getElem?_eq_getElem hk, Option.some.injEq] at h1
  rw [h1]; exact E.len h2
theorem OwnS.take (h : OwnS E T w lo Q s l) {n : Nat} (hn : n ≤ l.length) : OwnS E T w lo Q (Sl.cut s 0 n E.n) (l.take n) := by
  obtain ⟨css, ho, hl, hr⟩ := h.row
  have hlens := h.rowLens hl hr
  have hsl := h.len
  have ha : (Sl.cut s 0 n E.n).a = s.a := by
    unfold Sl.cut
    dsimp only
    split
    · rfl
    · rw [Nat.zero_mul]; cases s.a <;> rfl
  have hv : (Sl.cut s 0 n E.n).v = .slice s.a n s.cap := by unfold Sl.v; rw [ha]; unfold Sl.cut; simp
  refine ⟨⟨css.take n, ?_, by rw [List.length_take, List.length_take, hl], fun i x hx => ?_⟩, by show n - 0 = _; rw [List.length_take]; omega, h.lt, fun ad had => h.apart ad (ha ▸ had)⟩
  · rw [hv]
    show w.ownsRow lo T E.n _ (n - 0) _
    have hfl := flat_len' (css := css.take n) (n := E.n) fun c hc => hlens c (List.mem_of_mem_take hc)
    rw [List.length_take, hl, Nat.min_eq_left hn] at hfl
    refine ⟨by simpa using hfl, ?_⟩
    rcases ho.2 with ⟨h1, h2⟩ | ⟨g, cap, cur, h1, h2, h3, h4, h5, h6, h7⟩
    · left
      simp [Sl.v] at h1
      have : n = 0 := by omega
      rw [h1.1, h1.2.2, this]; exact ⟨rfl, rfl⟩
    · right
      simp [Sl.v] at h1
      refine ⟨g, cap, cur, by rw [h1.1, h1.2]; simp, h2, h3, by omega, h5, h6, ?_⟩
      have h8 := congrArg (List.take (n * E.n)) h7
      rw [List.take_take, Nat.min_eq_left (Nat.mul_le_mul_right _ (by omega))] at h8
      rw [Nat.sub_zero, h8]
      have e : css.flatten = (css.take n).flatten ++ (css.drop n).flatten := by rw [← List.flatten_append, List.take_append_drop]
      rw [e, List.take_left' hfl]
  · rw [List.getElem?_take] at hx
    split at hx
    · obtain ⟨cs, k1, k2⟩ := hr i x hx
      rename_i hi
      exact ⟨cs, by rw [List.getElem?_take, if_pos hi]; exact k1, k2⟩
    · cases hx
theorem OwnS.setEl (h : OwnS E T w lo Q s l) {i : Nat} (hi : i < l.length) {ad : Addr} (ha : s.a = some ad) {x : α} {o : Nat} {new : List Value} (hx : ∀ cs, E.rep w Q l[i] cs → E.rep w Q x (cs.take o ++ new ++ cs.drop (o + new.length))) (ho : o + new.length ≤ E.n) {K : World → Prop}
    (hK : ∀ w', But ad.block w w' → w'.heap.size = w.heap.size → OwnS E T w' lo Q s (l.set i x) → K w') : stw w ((ad.add (i * E.n)).add o) new K := by
  obtain ⟨css, hrow, hl, hr⟩ := h.row
  have hlens := h.rowLens hl hr
  have hsl := h.len
  rcases hrow.2 with ⟨hv, _⟩ | ⟨g, cap, cur, hv, hg, hh, hc, hcm, hcs, ht⟩
  · simp [Sl.v] at hv; rw [hv.1] at ha; cases ha
  · have had : ad = ⟨g, 0, none⟩ := by simp [Sl.v] at hv; rw [hv.1] at ha; exact (Option.some.inj ha).symm
    subst had
    have hic : i < css.length := by omega
    have hmul : (i + 1) * E.n ≤ l.length * E.n := Nat.mul_le_mul_right _ hi
    have hmul2 : s.len * E.n ≤ cap * E.n := Nat.mul_le_mul_right _ hc
    rw [Nat.add_mul] at hmul
    rw [hsl] at hmul2
    have hfit : i * E.n + o + new.length ≤ cur.size := by omega
    rw [add_add, add_plain]
    have hci := hlens css[i] (List.getElem_mem hic)
    have hA := flat_len' (css := css.take i) (n := E.n) fun c hc => hlens c (List.mem_of_mem_take hc)
    rw [List.length_take, Nat.min_eq_left (by omega)] at hA
    have e1 : css.flatten = (css.take i).flatten ++ (css[i] ++ (css.drop (i + 1)).flatten) := by
      conv => lhs; rw [← List.take_append_drop i css, List.flatten_append, List.drop_eq_getElem_cons hic, List.flatten_cons]
    have e2 : (css.set i (css[i].take o ++ new ++ css[i].drop (o + new.length))).flatten = (css.take i).flatten ++ ((css[i].take o ++ new ++ css[i].drop (o + new.length)) ++ (css.drop (i + 1)).flatten) := by
      rw [List.set_eq_take_append_cons_drop, if_pos hic, List.flatten_append, List.flatten_cons]
    have hcur : cur.toList = css.flatten ++ cur.toList.drop (s.len * E.n) := by
      rw [← ht, List.take_append_drop]
    have hnew : (splice cur (i * E.n + o) new).toList = (css.set i (css[i].take o ++ new ++ css[i].drop (o + new.length))).flatten ++ cur.toList.drop (s.len * E.n) := by
      have key : ∀ (A B C D N : List Value), A.length = i * E.n → B.length = E.n → N.length = new.length → (A ++ (B ++ C) ++ D).take (i * E.n + o) ++ N ++ (A ++ (B ++ C) ++ D).drop (i * E.n + o + N.length) = A ++ (B.take o ++ N ++ B.drop (o + N.length) ++ C) ++ D := by
        intro A B C D N hA hB hN
        rw [List.append_assoc A, ← hA, List.take_length_add_append]
        have t1 : ((B ++ C) ++ D).take o = B.take o := by rw [List.append_assoc, List.take_append_of_le_length (by omega)]
        have t2 : (A ++ ((B ++ C) ++ D)).drop (A.length + o + N.length) = B.drop (o + N.length) ++ (C ++ D) := by
          rw [Nat.add_assoc, List.drop_length_add_append, List.append_assoc, List.drop_append_of_le_length (by omega)]
        rw [t1, t2]
        simp [List.append_assoc]
      unfold splice
      generalize cur.toList.drop (s.len * E.n) = D at hcur ⊢
      rw [List.toList_toArray, hcur, e1, e2]
      exact key (css.take i).flatten css[i] (css.drop (i + 1)).flatten D new hA hci rfl
    refine ⟨cur, T, hh, rfl, by simpa using hfit, ?_⟩
    have hb : But g w (w.setRow g (splice cur (i * E.n + o) new)) := ⟨by simp [World.setRow], rfl, rfl, rfl, fun c hc hne => setRow_other w g c _ hne⟩
    have hQg : ¬ Q g := h.apart _ ha
    refine hK _ hb (by simp [World.setRow]) ⟨⟨css.set i (css[i].take o ++ new ++ css[i].drop (o + new.length)), ⟨?_, .inr ⟨g, cap, _, hv, hg, setRow_heap w g cur _ T _ hh, hc, hcm, ?_, ?_⟩⟩, by rw [List.length_set, List.length_set, hl], fun j y hy => ?_⟩, by rw [List.length_set]; exact h.len, fun b hb' => Nat.lt_of_lt_of_le (h.lt b hb') hb.1, h.apart⟩
    · rw [flat_len' (n := E.n), List.length_set, hl, hsl]
      intro c hc
      rcases List.mem_or_eq_of_mem_set hc with hc | rfl
      · exact hlens c hc
      · simp only [List.length_append, List.length_take, List.length_drop, hci]; omega
    · have h8 := congrArg List.length hnew
      have h9 := congrArg List.length hcur
      rw [List.length_append] at h9 h8
      have e3 : (css.set i (css[i].take o ++ new ++ css[i].drop (o + new.length))).flatten.length = css.flatten.length := by
        rw [e1, e2]
        simp only [List.length_append, List.length_take, List.length_drop, hci]; omega
      rw [e3, ← h9] at h8
      rw [← Array.length_toList (xs := splice cur (i * E.n + o) new), h8, Array.length_toList]
      exact hcs
    · rw [hnew]
      refine List.take_left' ?_
      rw [e2]
      have := flat_len' hlens
      rw [e1] at this
      simp only [List.length_append, List.length_take, List.length_drop, hci] at this ⊢
      rw [hl] at this
      rw [hsl]; omega
    · rw [List.getElem?_set] at hy
      split at hy
      · rename_i hij
        subst hij
        simp only [Option.some.injEq] at hy
        subst hy
        obtain ⟨cs, k1, k2⟩ := hr i _ (List.getElem?_eq_getElem hi)
        rw [List.getElem?_eq_getElem hic, Option.some.injEq] at k1
        subst k1
        exact ⟨_, by rw [List.getElem?_set_self hic], E.keep (hx _ k2) (hb.keep hQg)⟩
      · rename_i hij
        obtain ⟨cs, k1, k2⟩ := hr j y hy
        exact ⟨cs, by rw [List.getElem?_set_ne hij]; exact k1, E.keep k2 (hb.keep hQg)⟩
end
end Go.Hal
namespace Go.Hal
structure InvS (q : Quest) (e : Nat) (s : St) : Prop where
  a : s.ahead.length < s.ns.length
  n : s.ns.length ≤ q.N
  b : ∀ i a : Nat, s.ahead[i]? = some a → i < a ∧ a ≤ s.ns.length
  m : ∀ i j a b : Nat, i ≤ j → s.ahead[i]? = some a → s.ahead[j]? = some b → a ≤ b
  st : (s.stack.map (·.node)).Pairwise (fun a b : Nat => a ≤ b)
  top : ∀ n ∈ s.stack.map (·.node), n ≤ s.ahead.length
  f : s.first + e ≤ s.stack.length
  c : ∀ x ∈ s.ns, (x.ctx.map (·.name)).Nodup ∧ x.ctx.length ≤ 2048
  v : ∀ v ∈ s.stack.map (·.vs), v.length ≤ 1000
  d : s.dec ≤ q.D
  k : s.stack.length ≤ s.dec + e
  i0 : ∀ c ∈ s.stack.dropLast, c.i ≤ 1000
  i1 : ∀ c ∈ s.stack, c.i ≤ 1000 + e
def InvL (q : Quest) : Lb → St → Prop
  | .next, s => InvS q 0 s
  | .tri, s => InvS q 1 s
  | .back, s => InvS q 0 s
theorem ctxRes_fine {L : List Pack} (hg : GoodL L) {over : List Dep} {env : List Pin} {p : Pin} {c : List Pin} (h : ctxRes L over env p = some c) : (c.map (·.name)).Nodup ∧ c.length ≤ 2048 := by
  refine ⟨(ctx_some h).1.nodup, ?_⟩
  unfold ctxRes ctx at h
  obtain ⟨o, h1, rfl⟩ := Option.map_eq_some_iff.1 h
  rw [(sortN_perm o).length_eq]
  exact ctx_bound hg (ctxGo_some _ _ _ _ CtxI.zero h1)
theorem targets_mem {q : Quest} {env : List Pin} : ∀ {ps : List Pin} {xs : List Node}, targets q env ps = some xs → ∀ x ∈ xs, ∃ p ∈ ps, x.name = p.name ∧ x.v = p.v ∧ ctxRes q.L q.m.over env p = some x.ctx ∧ x.edges = []
  | [], xs, h, x, hx => by
    rw [targets] at h; cases h; cases hx
  | p :: r, xs, h, x, hx => by
    rw [targets] at h
    cases h1 : ctxRes q.L q.m.over env p with
    | none => rw [h1] at h; cases h
    | some c =>
      rw [h1] at h
      obtain ⟨ys, h2, rfl⟩ := Option.map_eq_some_iff.1 h
      rcases List.mem_cons.1 hx with rfl | hx
      · exact ⟨p, .head _, rfl, rfl, h1, rfl⟩
      · obtain ⟨p', hp, k⟩ := targets_mem h2 x hx
        exact ⟨p', .tail _ hp, k⟩
theorem putK_mem {N : Nat} : ∀ {xs : List Node} {ks : List NKey} {r : List Node × List Edge}, putK N ks xs = some r → ∀ x ∈ r.1, x ∈ xs
  | [], ks, r, h, x, hx => by rw [putK] at h; cases h; cases hx
  | y :: ys, ks, r, h, x, hx => by
    rw [putK] at h
    cases hf : ks.findIdx? fun z => decide (z = y.key) with
    | some i =>
      rw [hf] at h
      obtain ⟨r', h1, rfl⟩ := Option.map_eq_some_iff.1 h
      exact .tail _ (putK_mem h1 x hx)
    | none =>
      rw [hf] at h
      dsimp only at h
      by_cases hN : ks.length = N
      · rw [if_pos hN] at h; cases h
      · rw [if_neg hN] at h
        obtain ⟨r', h1, rfl⟩ := Option.map_eq_some_iff.1 h
        rcases List.mem_cons.1 hx with rfl | hx
        · exact .head _
        · exact .tail _ (putK_mem h1 x hx)
theorem setEdges_mem {ns : List Node} {k : Nat} {es : List Edge} {x : Node} (hx : x ∈ setEdges ns k es) : ∃ y ∈ ns, y.ctx = x.ctx := by
  have h : x.key ∈ (setEdges ns k es).map Node.key := List.mem_map_of_mem hx
  rw [setEdges_key] at h
  obtain ⟨y, hy, e⟩ := List.mem_map.1 h
  exact ⟨y, hy, congrArg (·.2.2) e⟩
theorem bump_map {β : Type} (f : Ch → β) (hf : ∀ c i, f { c with i := i } = f c) (l : List Ch) : (bump l).map f = l.map f := by
  unfold bump
  apply List.ext_getElem?
  intro i
  rw [List.getElem?_map, List.getElem?_map, List.getElem?_modify]
  cases l[i]? with
  | none => rfl
  | some c => by_cases h : l.length - 1 = i <;> simp [h, hf]
theorem bump_len (l : List Ch) : (bump l).length = l.length := by unfold bump; rw [List.length_modify]
theorem cand_len {q : Quest} {c : List Pin} {w : Want} (hC : ∀ n r p, (cands q.L n r p).length ≤ 1000) : (q.cand c w).1.length ≤ 1000 := by
  unfold Quest.cand
  split
  · dsimp only
    split <;> simp
  · exact hC _ _ _
def cutNs (ns : List Node) (ahead : List Nat) (k : Nat) : List Node := match ahead[k]? with
  | some a => ns.take a
  | none => ns
def backTo (q : Quest) (s : St) (k : Nat) : St := { s with stack := bump s.stack, ns := cutNs s.ns s.ahead k, ahead := s.ahead.take k, ws := q.wants (cutNs s.ns s.ahead k) k, first := (bump s.stack).findIdx fun x => decide (x.node = k) }
theorem step_back_eq (q : Quest) (s : St) : q.step .back s = match s.stack.getLast? with
    | none => .err 30
    | some c => .go .tri (backTo q s c.node) := rfl
theorem InvL.step {q : Quest} (hG : GoodL q.L) (hC : ∀ n r p, (cands q.L n r p).length ≤ 1000) {l l' : Lb} {s s' : St} (h : InvL q l s) (hs : q.step l s = .go l' s') : InvL q l' s' := by
  cases l with
  | next =>
    have h : InvS q 0 s := h
    rw [Quest.step] at hs
    cases hw : s.ws[s.stack.length - s.first]? with
    | some w =>
      rw [hw] at hs
      cases hs
      have hk := h.k
      exact ⟨h.a, h.n, h.b, h.m, by
        rw [List.map_append, List.pairwise_append]
        exact ⟨h.st, List.pairwise_singleton _ _, fun x hx y hy => by
          simp only [List.map_cons, List.map_nil, List.mem_singleton] at hy
          subst hy
          exact h.top x hx⟩, fun n hn => by
        rw [List.map_append, List.mem_append] at hn
        rcases hn with hn | hn
        · exact h.top n hn
        · simp only [List.map_cons, List.map_nil, List.mem_singleton] at hn
          subst hn
          exact Nat.le_refl _, by
        show s.first + 1 ≤ (s.stack ++ _).length
        have := h.f
        rw [List.length_append, List.length_singleton]; omega, h.c, fun v hv => by
        rw [List.map_append, List.mem_append] at hv
        rcases hv with hv | hv
        · exact h.v v hv
        · simp only [List.map_cons, List.map_nil, List.mem_singleton] at hv
          subst hv
          exact cand_len hC, h.d, by
        show (s.stack ++ _).length ≤ s.dec + 1
        have hk0 : s.stack.length ≤ s.dec + 0 := h.k
        rw [List.length_append, List.length_singleton]; omega, fun c hc => by
        replace hc : c ∈ (s.stack ++ [_]).dropLast := hc
        rw [List.dropLast_concat] at hc
        exact h.i1 c hc, fun c hc => by
        rcases List.mem_append.1 hc with hc | hc
        · exact Nat.le_succ_of_le (h.i1 c hc)
        · simp only [List.mem_singleton] at hc
          subst hc
          exact Nat.zero_le _⟩
    | none =>
      rw [hw] at hs
      dsimp only at hs
      cases hb : q.bind s.ns s.ahead.length s.env with
      | graph => rw [hb] at hs; cases hs; exact h
      | many => rw [hb] at hs; cases hs
      | ok ns' =>
        rw [hb] at hs
        dsimp only at hs
        split at hs
        · cases hs
        · rename_i hne
          cases hs
          obtain ⟨h1, h2⟩ := bind_len hb h.n
          have ha := h.a
          have hctx : ∀ x ∈ ns', (x.ctx.map (·.name)).Nodup ∧ x.ctx.length ≤ 2048 := by
            unfold Quest.bind at hb
            cases ht : targets q (sortN s.env) (sortN s.env) with
            | none => rw [ht] at hb; cases hb
            | some xs =>
              rw [ht] at hb
              dsimp only at hb
              cases hp : putK q.N (s.ns.map Node.key) xs with
              | none => rw [hp] at hb; cases hb
              | some r =>
                rw [hp] at hb
                cases hb
                intro x hx
                rcases List.mem_append.1 hx with hx | hx
                · obtain ⟨y, hy, e⟩ := setEdges_mem hx
                  rw [← e]; exact h.c y hy
                · obtain ⟨p, _, _, _, hc, _⟩ := targets_mem ht x (putK_mem hp x hx)
                  exact ctxRes_fine hG hc
          refine ⟨by show (s.ahead ++ [s.ns.length]).length < ns'.length; rw [List.length_append, List.length_singleton]; omega, h2, fun i a hi => ?_, fun i j a b hij hi hj => ?_, h.st, fun n hn => ?_, Nat.le_refl _, hctx, h.v, h.d, h.k, h.i0, h.i1⟩
          · show i < a ∧ a ≤ ns'.length
            replace hi : (s.ahead ++ [s.ns.length])[i]? = some a := hi
            rw [List.getElem?_append] at hi
            split at hi
            · have := h.b i a hi
              exact ⟨this.1, by omega⟩
            · rw [List.getElem?_singleton] at hi
              split at hi
              · cases hi
                exact ⟨by omega, h1⟩
              · cases hi
          · replace hi : (s.ahead ++ [s.ns.length])[i]? = some a := hi
            replace hj : (s.ahead ++ [s.ns.length])[j]? = some b := hj
            rw [List.getElem?_append] at hi hj
            split at hj
            · rw [if_pos (by omega)] at hi
              exact h.m i j a b hij hi hj
            · rw [List.getElem?_singleton] at hj
              split at hj
              · cases hj
                split at hi
                · exact (h.b i a hi).2
                · rw [List.getElem?_singleton] at hi
                  split at hi
                  · cases hi; exact Nat.le_refl _
                  · cases hi
              · cases hj
          · have := h.top n hn
            show n ≤ (s.ahead ++ [s.ns.length]).length
            rw [List.length_append]; omega
  | tri =>
    have h : InvS q 1 s := h
    rw [Quest.step] at hs
    cases hl : s.stack.getLast? with
    | none => rw [hl] at hs; cases hs
    | some c =>
      rw [hl] at hs
      dsimp only at hs
      have hk := h.k
      have hd := h.d
      split at hs
      · rename_i hlt
        split at hs
        · cases hs
        · rename_i hne
          cases hs
          exact ⟨h.a, h.n, h.b, h.m, h.st, h.top, by have := h.f; show s.first + 0 ≤ s.stack.length; omega, h.c, h.v, by show s.dec + 1 ≤ q.D; omega, by show s.stack.length ≤ s.dec + 1 + 0; omega, h.i0, fun x hx => by
            obtain ⟨pre, hpre⟩ := List.getLast?_eq_some_iff.1 hl
            have h0 := h.i0
            rw [hpre, List.dropLast_concat] at h0
            replace hx : x ∈ s.stack := hx
            rw [hpre] at hx
            rcases List.mem_append.1 hx with hx | hx
            · exact h0 x hx
            · simp only [List.mem_singleton] at hx
              subst hx
              have h2 := h.v x.vs (List.mem_map_of_mem (by rw [hpre]; simp))
              unfold Ch.many at *
              split at hlt <;> omega⟩
      · cases hs
        have hsub : List.Sublist s.stack.dropLast s.stack := List.dropLast_sublist _
        have hlen : s.stack.dropLast.length = s.stack.length - 1 := List.length_dropLast
        refine ⟨h.a, h.n, h.b, h.m, h.st.sublist (hsub.map _), fun n hn => h.top n ((hsub.map _).subset hn), ?_, h.c, fun v hv => h.v v ((hsub.map _).subset hv), hd, ?_, fun c hc => h.i0 c (List.dropLast_subset _ hc), h.i0⟩
        · have := h.f
          show s.first + 0 ≤ s.stack.dropLast.length
          omega
        · have := h.f
          show s.stack.dropLast.length ≤ s.dec + 0
          omega
  | back =>
    have h : InvS q 0 s := h
    rw [step_back_eq] at hs
    cases hl : s.stack.getLast? with
    | none => rw [hl] at hs; cases hs
    | some c =>
      rw [hl] at hs
      dsimp only at hs
      cases hs
      obtain ⟨pre, hpre⟩ : ∃ pre, s.stack = pre ++ [c] := List.getLast?_eq_some_iff.1 hl
      have hcn : c.node ≤ s.ahead.length := h.top _ (by rw [hpre]; simp)
      have hble : ∀ n ∈ s.stack.map (·.node), n ≤ c.node := fun n hn => by
        have hst := h.st
        rw [hpre, List.map_append, List.pairwise_append] at hst
        rw [hpre, List.map_append, List.mem_append] at hn
        rcases hn with hn | hn
        · exact hst.2.2 n hn _ (by simp)
        · simp at hn; omega
      have hal : (s.ahead.take c.node).length = c.node := by rw [List.length_take]; omega
      have ha := h.a
      have hn := h.n
      have key : ∀ ns2, cutNs s.ns s.ahead c.node = ns2 → c.node < ns2.length ∧ ns2.length ≤ s.ns.length ∧ (∀ i a, i < c.node → s.ahead[i]? = some a → a ≤ ns2.length) ∧ ∀ x ∈ ns2, x ∈ s.ns := fun ns2 e => by
        unfold cutNs at e
        cases hx : s.ahead[c.node]? with
        | some a =>
          rw [hx] at e
          dsimp only at e
          have h1 := h.b _ a hx
          subst e
          refine ⟨by rw [List.length_take]; omega, by rw [List.length_take]; omega, fun i b hi hb => ?_, fun x hx => List.mem_of_mem_take hx⟩
          have := h.m i c.node b a (by omega) hb hx
          rw [List.length_take]; omega
        | none =>
          rw [hx] at e
          dsimp only at e
          subst e
          have := List.getElem?_eq_none_iff.1 hx
          exact ⟨by omega, Nat.le_refl _, fun i b _ hb => (h.b i b hb).2, fun x hx => hx⟩
      obtain ⟨k1, k2, k3, k4⟩ := key _ rfl
      have hbn : (bump s.stack).map (·.node) = s.stack.map (·.node) := bump_map _ (fun _ _ => rfl) _
      have hbv : (bump s.stack).map (·.vs) = s.stack.map (·.vs) := bump_map _ (fun _ _ => rfl) _
      have hbl := bump_len s.stack
      have hk := h.k
      refine ⟨by show (s.ahead.take c.node).length < (cutNs s.ns s.ahead c.node).length; omega, by show (cutNs s.ns s.ahead c.node).length ≤ q.N; omega, fun i a hi => ?_, fun i j a b hij hi hj => ?_, by show ((bump s.stack).map (·.node)).Pairwise _; rw [hbn]; exact h.st, fun n hn => ?_, ?_, fun x hx => h.c x (k4 x hx), fun v hv => h.v v (by rw [← hbv]; exact hv), h.d, by show (bump s.stack).length ≤ s.dec + 1; omega, fun x hx => by
        replace hx : x ∈ (bump s.stack).dropLast := hx
        rw [hpre, bump_last, List.dropLast_concat] at hx
        exact h.i1 x (by rw [hpre]; simp [hx]), fun x hx => by
        replace hx : x ∈ bump s.stack := hx
        rw [hpre, bump_last] at hx
        rcases List.mem_append.1 hx with hx | hx
        · exact Nat.le_succ_of_le (h.i1 x (by rw [hpre]; simp [hx]))
        · simp only [List.mem_singleton] at hx
          subst hx
          exact Nat.succ_le_succ (h.i1 c (by rw [hpre]; simp))⟩
      · replace hi : (s.ahead.take c.node)[i]? = some a := hi
        rw [List.getElem?_take] at hi
        split at hi
        · rename_i hlt
          exact ⟨(h.b i a hi).1, k3 i a hlt hi⟩
        · cases hi
      · replace hi : (s.ahead.take c.node)[i]? = some a := hi
        replace hj : (s.ahead.take c.node)[j]? = some b := hj
        rw [List.getElem?_take] at hi hj
        split at hj
        · rw [if_pos (by omega)] at hi
          exact h.m i j a b hij hi hj
        · cases hj
      · show n ≤ (s.ahead.take c.node).length
        rw [hal]
        exact hble n (by rw [← hbn]; exact hn)
      · show (bump s.stack).findIdx _ + 1 ≤ (bump s.stack).length
        rw [hpre, bump_last]
        have : (pre ++ [{ c with i := c.i + 1 }]).findIdx (fun x : Ch => decide (x.node = c.node)) < (pre ++ [{ c with i := c.i + 1 }]).length := List.findIdx_lt_length_of_exists ⟨{ c with i := c.i + 1 }, by simp, by simp⟩
        omega
theorem InvL.start {q : Quest} (hN : 1 ≤ q.N) : InvL q .next q.start :=
  ⟨Nat.one_pos, hN, fun i a h => (by simp [Quest.start] at h), fun i j a b _ h => (by simp [Quest.start] at h), List.Pairwise.nil, (fun _ h => by cases h), Nat.zero_le _, fun x hx => (by
    have e : x = rootNode := List.mem_singleton.1 hx
    subst e
    exact ⟨List.nodup_nil, Nat.zero_le _⟩), (fun _ h => by cases h), Nat.zero_le _, Nat.zero_le _, (fun _ h => by cases h), (fun _ h => by cases h)⟩
end Go.Hal
namespace Go.Hal
open Go Go.RowKit Go.Proofs Go.Shelf
end Go.Hal
namespace Go.Hal
open Go Go.RowKit Go.Proofs Go.Shelf
def nP : ByteArray := ⟨#[112]⟩
def nQ : ByteArray := ⟨#[113]⟩
def v1 : Ver := ⟨1, 0, 0⟩
def allS : List Span := [⟨verAt 0, verAt 999999999⟩]
def kP : Pack := ⟨nP, v1, [], [⟨nQ, allS⟩], []⟩
def kQ : Pack := ⟨nQ, v1, [], [], []⟩
end Go.Hal
namespace Go.Hal
open Go Go.RowKit Go.Proofs Go.Shelf
def nA : ByteArray := ⟨#[97]⟩
def kA : Pack := ⟨nA, v1, [], [], []⟩
theorem FlatO.vers {w : World} {lo : Nat} {s : Sl} {l : List Ver} (h : FlatO Ver.c 24 w lo s l) : SlR verE w (fun b => lo ≤ b ∧ b < w.heap.size) s l :=
  FlatO.read (E := verE) h (fun _ => rfl) fun _ _ _ _ => ⟨rfl, trivial⟩
end Go.Hal
namespace Go.Hal
open Go Go.RowKit Go.Proofs Go.Shelf
theorem cands_len (L : List Pack) (n : ByteArray) (l : List Span) (pins : List Pin) : (cands L n l pins).length = ((versOf n L).filter (spansIn l)).length := by
  rw [← cands_sort]; exact (stSort_perm _).length_eq
theorem versOf_le {L : List Pack} (n : ByteArray) : (versOf n L).length ≤ L.length := by
  unfold versOf
  rw [List.length_map]
  exact List.length_filter_le _ _
theorem cands_le {L : List Pack} (h : GoodL L) (n : ByteArray) (l : List Span) (pins : List Pin) : (cands L n l pins).length ≤ 128 := by
  rw [cands_len]
  have h1 := List.length_filter_le (spansIn l) (versOf n L)
  have h2 := versOf_le (L := L) n
  have h3 := h.le
  omega
end Go.Hal
namespace Go.Hal
open Go Go.RowKit Go.Proofs Go.Shelf
theorem back1_se {x : Ch} {v : Sl} {n : Int} {c0 p : Addr} {w : World} {R : Bool → World → Prop} (hc : BoxAt w c0 [.pointer (some p)]) (hp : ldc w p [.int .i64 n]) (hR : ∀ w', Ext w w' → R (decide ((x.node : Int) = n)) w') : SE.resolve_search_back_1 (x.node : Int) x.name v x.none (x.i : Int) c0 w R := by
  unfold SE.resolve_search_back_1
  refine newS.intro fun a w1 x1 hb _ _ => bnd.drew fun w2 x2 => ⟨_, hb.at0 x2 rfl, _, hc.at0 (r := []) (x1.trans x2) rfl, p, rfl, n, hp.keep (S := fun _ => True) trivial ((x1.trans x2).keep _), ?_⟩
  have e : ((x.node : Int) == n) = decide ((x.node : Int) = n) := by rw [Bool.eq_iff_iff]; simp
  rw [e]; exact hR _ (x1.trans x2)
theorem entersBack1 : Enters Tryz.prog 55 := enters_of Tryz.func55 (by kernel_rfl) rfl
theorem idxCh_se {s : Sl} {l : List Ch} {f : Value} {p : Ch → Bool} {S : Nat → Prop} {w : World} {R : Int → World → Prop} (hs : SlR chE w S s l)
    (hf : ∀ x ∈ l, ∀ v w' (k : Value → World → Prop), Ext w w' → (∀ w'', Ext w' w'' → k (.bool (p x)) w'') → callV Tryz.prog f [.agg #[.int .i64 (x.node : Int), .string x.name, Sl.v v, .bool x.none, .int .i64 (x.i : Int)]] w' k)
    (hR : ∀ w', Ext w w' → R (idxI p l) w') : SE.slices_IndexFunc_resolvechoiceresolvechoice s f w R := by
  unfold SE.slices_IndexFunc_resolvechoiceresolvechoice
  have hl := hs.len
  refine loop1.up hs.max (fun i w' => Ext w w' ∧ (l.take i).any p = false) ⟨Ext.refl _, rfl⟩ fun i w1 nxt hi ⟨x1, hI⟩ hn => ⟨fun hlt => ?_, fun hge => ?_⟩
  · have hlt' : i < l.length := by omega
    obtain ⟨ad, cs, ha, _, ⟨_, v, rfl, _⟩, hc⟩ := hs.el hlt'
    refine ⟨ad, ⟨ha, by omega, hlt⟩, _, _, v, _, _, hc _ (by (repeat (first | assumption | exact Ext.refl _ | refine Ext.trans ?_ (by assumption)))), hf _ (List.getElem_mem hlt') _ _ _ x1 fun w2 x2 => ⟨_, rfl, fun h => ?_, fun h => ?_⟩⟩
    · rw [← idxI_hit hlt' hI h]; exact hR _ (by (repeat (first | assumption | exact Ext.refl _ | refine Ext.trans ?_ (by assumption))))
    · exact hn hlt' _ ⟨by (repeat (first | assumption | exact Ext.refl _ | refine Ext.trans ?_ (by assumption))), by rw [take_any_succ hlt' hI]; exact h⟩
  · have : i = l.length := by omega
    rw [this, List.take_length] at hI
    rw [← idxI_none hI]; exact hR _ (by (repeat (first | assumption | exact Ext.refl _ | refine Ext.trans ?_ (by assumption))))
theorem idxI_findIdx {α : Type} {p : α → Bool} {l : List α} (h : ∃ x ∈ l, p x = true) : idxI p l = ((l.findIdx p : Nat) : Int) := by
  unfold idxI
  rw [List.findIdx?_eq_some_of_exists h]
section
variable {w : World} {lo : Nat} {sp : Addr} {K : K7} {q : Quest} {s : St}
theorem Sr0.but2 {w' : World} {g gg : Nat} {stk nds ahd ws : Sl} {Q : Nat → Prop} (h : Sr0 w lo gg stk nds ahd ws Q s) {ad : Addr} (ha : stk.a = some ad) (hb : But ad.block w w') {l : List Ch} (ho : OwnS chE 78 w' lo Q stk l) : Sr0 w' lo gg stk nds ahd ws Q { s with stack := l } := by
  have hQ : ¬ Q ad.block := h.stack.apart ad ha
  exact ⟨ho, h.nodes.but hb hQ fun b hb => h.a1 ad b ha hb, h.ahead.but hb hQ fun b hb => h.a2 ad b ha hb, h.wants.but hb hQ, h.q, h.a1, h.a2, h.a3, h.o1, h.o2, h.o3⟩
theorem Sr0.setRows {stk nds ahd ws nds' ahd' : Sl} {Q : Nat → Prop} {l1 : List Node} {l2 : List Nat} (h : Sr0 w lo sp.block stk nds ahd ws Q s) (e1 : nds'.a = nds.a) (e2 : ahd'.a = ahd.a) (h1 : OwnS nodeE 55 w lo Q nds' l1) (h2 : OwnS intE 3 w lo Q ahd' (l2.map Int.ofNat)) : Sr0 w lo sp.block stk nds' ahd' ws Q { s with ns := l1, ahead := l2 } :=
  ⟨h.stack, h1, h2, h.wants, h.q, fun a b ha hb => h.a1 a b ha (e1 ▸ hb), fun a b ha hb => h.a2 a b ha (e2 ▸ hb), fun a b ha hb => h.a3 a b (e1 ▸ ha) (e2 ▸ hb), h.o1, fun a ha => h.o2 a (e1 ▸ ha), fun a ha => h.o3 a (e2 ▸ ha)⟩
theorem cut_a {s : Sl} {n sz : Nat} : (Sl.cut s 0 n sz).a = s.a := by
  unfold Sl.cut
  dsimp only
  split
  · rfl
  · rw [Nat.zero_mul]; cases s.a <;> rfl
set_option maxHeartbeats 4000000 in
theorem back_se {c : Ch} {R : World → Prop} (hC : Cs w lo q K) (h : SrAt w lo sp K s) (hI : InvS q 0 s) (hl : s.stack.getLast? = some c) (hN : q.N ≤ 128) (hD : q.D ≤ 4096)
    (hR : ∀ w', Below lo w w' → SrAt w' lo sp K (backTo q s c.node) → R w') : SE.resolve_search_back (some sp) w R := by
  unfold SE.resolve_search_back
  obtain ⟨stk, nds, ahd, ws, Q, hb, hlo, h0⟩ := h
  obtain ⟨pre, hpre⟩ : ∃ pre, s.stack = pre ++ [c] := List.getLast?_eq_some_iff.1 hl
  have hsl := h0.stack.len
  have hal := h0.ahead.len
  have hnl := h0.nodes.len
  rw [List.length_map] at hal
  have hpl : s.stack.length = pre.length + 1 := by rw [hpre, List.length_append, List.length_singleton]
  have hcn : c.node ≤ s.ahead.length := hI.top _ (by rw [hpre]; simp)
  have hi1 : c.i ≤ 1000 := hI.i1 c (by rw [hpre]; simp)
  have hmx := maxLen_eq
  have hx : s.stack[pre.length]? = some c := by rw [hpre]; simp
  have hpn : pre.length < s.stack.length := by omega
  have hgl : s.stack[pre.length] = c := by rw [List.getElem?_eq_getElem hpn, Option.some.injEq] at hx; exact hx
  obtain ⟨ad, cs, hna, ⟨hNx, v, rfl, hv⟩, hcx⟩ := h0.stack.el hx
  have hg := lo_lt hb
  have hsk : s.stack.length ≤ 4096 := by have := hI.k; have := hI.d; omega
  have hw1 : wrapI ((stk.len : Int) - 1) = (pre.length : Int) := by rw [hsl, hpl, wrapI_eq (by omega) (by omega)]; omega
  refine bnd.drew fun w1 x1 => ⟨sp, rfl, stk, BoxAt.at1 hb (k := 7) x1 rfl, sp, rfl, stk, BoxAt.at1 hb (k := 7) x1 rfl, ad, ⟨hna, by rw [hw1]; omega, by rw [hw1]; omega⟩, newS.intro fun a w2 x2 ha hab _ => stw0.intro ha (by simp) fun w3 b3 hz3 ha3 => ?_⟩
  have s1 := x1.size; have s2 := x2.size
  have x13 : Ext w1 w3 := b3.ext x2 (by omega)
  have x03 := x1.trans x13
  have s3 := x03.size
  simp only [List.length_singleton, List.drop_one, List.tail_cons, List.append_nil] at ha3
  have eN : (wrapI ((stk.len : Int) - 1)).toNat * 5 = pre.length * chE.n := by rw [hw1]; rfl
  rw [eN] at ha3
  refine ⟨_, ha3.at0 (r := []) (Ext.refl _) rfl, _, rfl, (c.i : Int), (hcx _ x03).mid (k := 4) (r := []) rfl, _, rfl, ?_⟩
  have h3 := h0.ext x03
  have e1 : wrapI ((c.i : Int) + 1) = ((c.i + 1 : Nat) : Int) := by rw [wrapI_eq (by omega) (by omega)]; omega
  rw [e1]
  refine h3.stack.setEl (i := pre.length) (x := { c with i := c.i + 1 }) (o := 4) (new := [.int .i64 ((c.i + 1 : Nat) : Int)]) hpn hna (fun cs hcs => ?_) (by show 4 + 1 ≤ 5; omega) fun w4 b4 hz4 own4 => ?_
  · rw [hgl] at hcs
    obtain ⟨k1, v', rfl, k2⟩ := hcs
    exact ⟨k1, v', rfl, k2⟩
  have hset : s.stack.set pre.length { c with i := c.i + 1 } = bump s.stack := by rw [hpre, bump_last]; simp
  rw [hset] at own4
  have hab4 : ad.block < w.heap.size := (h0.stack.block hna).2.1
  have h4 : Sr0 w4 lo sp.block stk nds ahd ws Q { s with stack := bump s.stack } := Sr0.but2 (g := 0) h3 hna b4 own4
  have hbl := bump_len s.stack
  have hne : a.block ≠ ad.block := by omega
  have ha4 := b4.box ha3 hne
  have hb4 : BoxAt w4 sp (srCells K stk nds ahd ws s.first) := b4.box (hb.ext x03) (fun e => h0.o1 ad hna e.symm)
  have bel4 : Below lo w w4 := (x03.below' lo hC.le).trans (b4.below (by have := hC.le; omega) (h0.stack.block hna).1)
  have node4 : ∀ w', Ext w4 w' → ldc w' (ad.add (pre.length * chE.n)) [.int .i64 (c.node : Int)] := fun w' hx => by
    have hy : (bump s.stack)[pre.length]? = some { c with i := c.i + 1 } := by rw [hpre, bump_last]; simp
    obtain ⟨ad', cs', hna', ⟨_, v', rfl, _⟩, hcx'⟩ := own4.el hy
    rw [hna, Option.some.injEq] at hna'
    subst hna'
    exact (hcx' _ hx).pre rfl
  have hI' : InvS q 1 (backTo q s c.node) := InvL.step (l := .back) (l' := .tri) hC.cat.choose_spec.choose_spec.1.good (fun n r p => Nat.le_trans (cands_le hC.cat.choose_spec.choose_spec.1.good n r p) (by omega)) hI (by rw [step_back_eq, hl])
  have hkn : c.node < (cutNs s.ns s.ahead c.node).length := by
    have h1 := hI'.a
    have h2 : (backTo q s c.node).ahead.length = c.node := by
      show (s.ahead.take c.node).length = _
      rw [List.length_take]; omega
    rw [h2] at h1; exact h1
  refine join.named fun J hJ => bnd.drew fun w5 x5 => ?_
  have x5s := x5.size
  have key : ∀ (w7 : World) (nds' ahd' : Sl), But sp.block w5 w7 → nds'.a = nds.a → ahd'.a = ahd.a → BoxAt w7 sp (srCells K stk nds' ahd' ws s.first) → OwnS nodeE 55 w7 lo Q nds' (cutNs s.ns s.ahead c.node) → OwnS intE 3 w7 lo Q ahd' ((s.ahead.take c.node).map Int.ofNat) → J w7 := by
    subst hJ
    intro w7 nds' ahd' b7 en ea hb7 hn7 ha7
    have bel7 : Below lo w w7 := (bel4.trans (x5.below' lo (Nat.le_trans hC.le bel4.size))).trans (b7.below (by have := hC.le; have := bel4.size; omega) hlo)
    have s7 := b7.1
    have h7 : Sr0 w7 lo sp.block stk nds' ahd' ws Q { s with stack := bump s.stack, ns := cutNs s.ns s.ahead c.node, ahead := s.ahead.take c.node } := Sr0.setRows (sp := sp) ((h4.ext x5).but b7) en ea hn7 ha7
    have hsa : SrAt w7 lo sp K { s with stack := bump s.stack, ns := cutNs s.ns s.ahead c.node, ahead := s.ahead.take c.node } := ⟨stk, nds', ahd', ws, Q, hb7, hlo, h7⟩
    have hne2 : a.block ≠ sp.block := by omega
    have ha7' := b7.box (ha4.ext x5) hne2
    have hne3 : ad.block ≠ sp.block := h0.o1 ad hna
    have node7 : ldc w7 (ad.add (pre.length * chE.n)) [.int .i64 (c.node : Int)] := (node4 _ x5).keep (S := fun b => b ≠ sp.block) (by rw [add_block]; exact hne3) fun b hb hlt => b7.2.2.2.2 b hlt hb
    refine ⟨_, ha7'.at0 (r := []) (Ext.refl _) rfl, _, rfl, (c.node : Int), node7, ?_⟩
    refine SE.resolve_search_want.go (want_se' (s := { s with stack := bump s.stack, ns := cutNs s.ns s.ahead c.node, ahead := s.ahead.take c.node }) (k := c.node) (hC.below bel7) hb7 hlo h7 hkn fun w8 ws8 Q8 b8 hb8 h8 => ⟨rfl, ?_⟩)
    have bel8 : Below lo w w8 := bel7.trans (b8.below (by have := hC.le; have := bel7.size; omega) hlo)
    have ha8 := b8.box ha7' hne2
    have node8 : ldc w8 (ad.add (pre.length * chE.n)) [.int .i64 (c.node : Int)] := node7.keep (S := fun b => b ≠ sp.block) (by rw [add_block]; exact hne3) fun b hb hlt => b8.2.2.2.2 b hlt hb
    have hrd := h8.stack.read (by show (bump s.stack).length * 64 ≤ room; unfold room; omega) (by show (bump s.stack).length ≤ maxLen; omega)
    have hlen8 : stk.len = (bump s.stack).length := h8.stack.len
    refine ⟨sp, rfl, stk, BoxAt.at1 hb8 (k := 7) (Ext.refl _) rfl, SE.slices_IndexFunc_resolvechoiceresolvechoice.go (idxCh_se (p := fun x => decide (x.node = c.node)) hrd (fun x _ v w' k hx hk => ⟨_, _, rfl, entersBack1, ?_⟩) fun w9 x9 => ⟨_, rfl, sp, rfl, ?_⟩)⟩
    · refine SE.resolve_search_back_1.go (back1_se (x := x) (v := v) (n := (c.node : Int)) (p := ad.add (pre.length * chE.n)) (ha8.ext hx) (node8.keep (S := fun _ => True) trivial (hx.keep _)) fun w'' hx'' => ?_)
      have e : decide ((x.node : Int) = (c.node : Int)) = decide (x.node = c.node) := by rw [Bool.eq_iff_iff]; simp; omega
      rw [e]; exact hk _ hx''
    · have hex : ∃ x ∈ bump s.stack, decide (x.node = c.node) = true := ⟨{ c with i := c.i + 1 }, by rw [hpre, bump_last]; simp, by simp⟩
      rw [idxI_findIdx hex]
      refine Sr0.setFirst (s := { s with stack := bump s.stack, ns := cutNs s.ns s.ahead c.node, ahead := s.ahead.take c.node, ws := q.wants (cutNs s.ns s.ahead c.node) c.node }) (n := (bump s.stack).findIdx fun x : Ch => decide (x.node = c.node)) (hb8.ext x9) hlo (h8.ext x9) fun w10 b10 h10 => hR w10 ((bel8.trans (x9.below' lo (Nat.le_trans hC.le bel8.size))).trans (b10.below (by have := hC.le; have := bel8.size; have := x9.size; omega) hlo)) h10
  have ndL := h4.nodes.read (by show s.ns.length * 88 ≤ room; have := hI.n; unfold room; omega) (by show s.ns.length ≤ maxLen; have := hI.n; omega)
  have ahL := h4.ahead.read (by show (s.ahead.map Int.ofNat).length * 8 ≤ room; rw [List.length_map]; have := hI.n; have := hI.a; unfold room; omega) (by show (s.ahead.map Int.ofNat).length ≤ maxLen; rw [List.length_map]; have := hI.n; have := hI.a; omega)
  have ncap : s.ns.length ≤ nds.cap := ndL.2.1
  have acap : (s.ahead.map Int.ofNat).length ≤ ahd.cap := ahL.2.1
  rw [List.length_map] at acap
  have ha5 := ha4.ext x5
  refine ⟨_, ha5.at0 (r := []) (Ext.refl _) rfl, _, rfl, (c.node : Int), node4 _ x5, sp, rfl, ahd, BoxAt.at1 hb4 (k := 9) x5 rfl, fun hlt => ?_, fun hge => ?_⟩
  · have hlt' : c.node < s.ahead.length := by omega
    have hax : (s.ahead.map Int.ofNat)[c.node]? = some (Int.ofNat s.ahead[c.node]) := by rw [List.getElem?_map, List.getElem?_eq_getElem hlt']; rfl
    obtain ⟨aa, cs2, haa, hcs2, hcx2⟩ := h4.ahead.el hax
    have hb6 := hI.b c.node _ (List.getElem?_eq_getElem hlt')
    have hcs2' : cs2 = [.int .i64 (Int.ofNat s.ahead[c.node])] := hcs2.1
    subst hcs2'
    have ecut : cutNs s.ns s.ahead c.node = s.ns.take s.ahead[c.node] := by unfold cutNs; rw [List.getElem?_eq_getElem hlt']
    generalize s.ahead[c.node] = m at *
    refine bnd.drew fun w6 x6 => ⟨sp, rfl, nds, BoxAt.at1 hb4 (k := 8) (x5.trans x6) rfl, sp, rfl, ahd, BoxAt.at1 hb4 (k := 9) (x5.trans x6) rfl, _, ha5.at0 (r := []) x6 rfl, _, rfl, (c.node : Int), node4 _ (x5.trans x6), aa, ⟨haa, by omega, by omega⟩, (m : Int), hcx2 _ (x5.trans x6), ⟨by omega, by omega⟩, sp, rfl, ?_⟩
    have x6s := x6.size
    have em : ((m : Int)).toNat = m := Int.toNat_natCast m
    rw [em]
    refine stw.intro (o := 8) ((hb4.ext x5).ext x6) (by show 9 ≤ 12; omega) fun w7 b7 hz7 hb7 => bnd.drew fun w8 x8 => ?_
    have x8s := x8.size
    have hne2 : a.block ≠ sp.block := by omega
    have hne3 : ad.block ≠ sp.block := h0.o1 ad hna
    have b58 : But sp.block w5 w8 := ((x6.but _).trans b7).trans (x8.but _)
    have ha8 := b58.box ha5 hne2
    have node8 : ldc w8 (ad.add (pre.length * chE.n)) [.int .i64 (c.node : Int)] := (node4 _ x5).keep (S := fun b => b ≠ sp.block) (by rw [add_block]; exact hne3) fun b hb hlt => b58.2.2.2.2 b hlt hb
    have h8 := (h4.ext x5).but b58
    refine ⟨sp, rfl, ahd, BoxAt.at1 hb7 (k := 9) x8 rfl, _, ha8.at0 (r := []) (Ext.refl _) rfl, _, rfl, (c.node : Int), node8, ⟨by omega, by omega⟩, sp, rfl, ?_⟩
    have en : ((c.node : Int)).toNat = c.node := Int.toNat_natCast _
    rw [en]
    refine stw.intro (o := 9) (hb7.ext x8) (by show 10 ≤ 12; omega) fun w9 b9 hz9 hb9 => ?_
    have b59 : But sp.block w5 w9 := b58.trans b9
    have h9 := (h4.ext x5).but b59
    refine key w9 (Sl.cut nds 0 m 6) (Sl.cut ahd 0 c.node 1) b59 cut_a cut_a hb9 ?_ ?_
    · rw [ecut]
      exact OwnS.take (E := nodeE) h9.nodes hb6.2
    · rw [List.map_take]
      exact OwnS.take (E := intE) h9.ahead (by rw [List.length_map]; omega)
  · have ecut : cutNs s.ns s.ahead c.node = s.ns := by unfold cutNs; rw [List.getElem?_eq_none (by omega)]
    have etk : s.ahead.take c.node = s.ahead := List.take_of_length_le (by omega)
    exact key w5 nds ahd ((Ext.refl w5).but _) rfl rfl (hb4.ext x5) (by rw [ecut]; exact (h4.ext x5).nodes) (by rw [etk]; exact (h4.ext x5).ahead)
end
end Go.Hal
namespace Go.Hal
open Go Go.RowKit Go.Proofs Go.Shelf
theorem clonePin_se {s : Sl} {l : List Pin} {S : Nat → Prop} {w : World} {R : Sl → World → Prop} (hS : Old S w) (hs : SlR pinE w S s l) (hR : ∀ t w', Ext w w' → OwnS pinE 91 w' w.heap.size None' t l → R t w') : SE.slices_Clone_apiPinapiPin s w R := by
  unfold SE.slices_Clone_apiPinapiPin
  refine ⟨fun h => ?_, fun h => ?_⟩
  · have : l = [] := by
      rcases hs.2.2.2.2 with h0 | ⟨ad, h1, _⟩
      · exact h0
      · rw [h] at h1; cases h1
    subst this
    exact hR _ _ (Ext.refl _) (OwnS.nil _ _)
  · intro a w1 ha hw
    subst ha
    have x1 : Ext w w1 := hw ▸ Ext.alloc _ _
    have own : OwnS pinE 91 w1 w.heap.size None' ⟨some ⟨w.heap.size, 0, none⟩, 0, 0⟩ [] := hw ▸ OwnS.empty w
    refine own.appAll apPin x1.size (hs.ext x1) (hS.ext x1.size) (fun ad ha hb => ?_) (by simpa using hs.2.2.2.1) (by simpa using hs.max) fun r w2 own2 bel _ _ => ?_
    · simp only [Option.some.injEq] at ha
      subst ha
      have := hS _ hb
      simp at this
    · exact hR r w2 (x1.trans' bel) (OwnS.flat (fun h => h) own2)
theorem bind1_gr {a b : Pin} {w : World} {R : Int → World → Prop} (hR : ∀ w', Gr w w' → R (cmpS a.name b.name) w') : SE.resolve_search_bind_1 a.name a.v.ma a.v.mi a.v.pa b.name b.v.ma b.v.mi b.v.pa w R := by
  unfold SE.resolve_search_bind_1
  refine newS.gr fun _ w1 x1 hb => newS.gr fun _ w2 x2 hb2 => ⟨_, Gr.at0 hb x2 rfl, _, Gr.at0 hb2 (Gr.refl _) rfl, strCmp_k ⟨_, rfl, hR _ (x1.trans x2)⟩⟩
theorem entersBind1 : Enters Tryz.prog 48 := enters_of Tryz.func48 (by kernel_rfl) rfl
theorem sortPinB_k {w : World} {lo : Nat} {s : Sl} {l : List Pin} {K : Value → World → Prop} (h : FlatO pinC 40 w lo s l) (hlo : lo ≤ w.heap.size) (hn : (l.map (·.name)).Nodup)
    (hK : ∀ w', Below lo w w' → FlatO pinC 40 w' lo s (sortN l) → K (.tuple #[]) w') :
    callS Tryz.prog 47 [Sl.v s, .func (.func 48) #[] #[]] w K := by
  obtain ⟨h1, h2, h3, h4, h5⟩ := h
  obtain ⟨a, n, c⟩ := s
  simp only at h1 h2 h3 h5
  subst h1
  rcases h5 with rfl | ⟨g, tail, ha, hg, hr⟩
  · refine (AnyF.slices_SortFunc_none Tryz.laySp a c _ w).mono fun e w' ⟨he, hw⟩ => ⟨_, he, ?_⟩
    subst hw
    exact hK _ (Below.refl _ _) ⟨rfl, h2, h3, h4, .inl rfl⟩
  · subst ha
    have hO := cmpS_ord (α := Pin) (·.name)
    refine sortFunc_k Tryz.laySp (k := 4) isAggP sizeOfP (f := pinC) (fun _ => rfl) (fun x v hv => by simp [pinC] at hv; rcases hv with rfl | rfl | rfl | rfl <;> rfl) (fun a b => cmpS a.name b.name) (swo_ltOf hO.flip hO.trans) 48 #[] entersBind1 (fun w0 x y hb _ => ?_) hr (by unfold room at h4; omega) rfl fun l' w' hp hs b hr' => ?_
    · have h := SE.resolve_search_bind_1.go (k := fun v w' => v = .int .i64 (cmpS x.name y.name) ∧ Gr w0 w') (bind1_gr (a := x) (b := y) (w := w0) fun w' h => ⟨rfl, h⟩)
      exact Calls.mono h fun e w' ⟨v, he, hv, hg⟩ => ⟨by rw [he, hv], hg⟩
    · have e : l' = sortN l := by
        refine Rises.one ?_ (sortN_rises hn) (hp.trans (sortN_perm l).symm)
        have hn' : (l'.map (·.name)).Nodup := (hp.map _).nodup_iff.2 hn
        rw [List.nodup_iff_pairwise_ne, List.pairwise_map] at hn'
        exact (hs.and hn').imp fun {a b} h => bLt_of (by have := hO.flip b a; have := hO.flip a b; omega) h.2
      subst e
      have hl := (sortN_perm l).length_eq
      exact hK w' (b.below hlo hg) ⟨hl.symm, by rw [hl]; exact h2, h3, by rw [hl]; exact h4, .inr ⟨g, tail, rfl, hg, hr'⟩⟩
theorem verB {a b c x y z : Int} : ((a == x) && ((b == y) && ((c == z) && true))) = decide ((⟨a, b, c⟩ : Ver) = ⟨x, y, z⟩) := by
  rw [Bool.eq_iff_iff]; simp
theorem eqPins_se {s t : Sl} {a b : List Pin} {S T : Nat → Prop} {w : World} {R : Bool → World → Prop} (hs : SlR pinE w S s a) (ht : SlR pinE w T t b) (hR : ∀ w', Ext w w' → R (decide (a = b)) w') : SE.slices_Equal_apiPinapiPin s t w R := by
  unfold SE.slices_Equal_apiPinapiPin
  have h1 := hs.len
  have h2 := ht.len
  refine ⟨fun h => ?_, fun h => ?_⟩
  · have : ¬ a = b := fun e => by subst e; omega
    have h3 := hR w (Ext.refl _)
    rw [decide_eq_false this] at h3; exact h3
  have hll : a.length = b.length := by
    have := Classical.not_not.1 h
    omega
  refine loop1.up hs.max (fun i w' => Ext w w' ∧ a.take i = b.take i) ⟨Ext.refl _, rfl⟩ fun i w1 nxt hi ⟨x1, hI⟩ hn => ⟨fun hlt => bnd.drew fun w2 x2 => ?_, fun hge => ?_⟩
  · have k1 : i < a.length := by omega
    have k2 : i < b.length := by omega
    obtain ⟨ad, ha, _, _, hc⟩ := pinEl hs k1
    obtain ⟨ad2, ha2, _, _, hc2⟩ := pinEl ht k2
    refine ⟨ad, ⟨ha, by omega, hlt⟩, _, _, _, _, hc _ (x1.trans x2), ad2, ⟨ha2, by omega, by omega⟩, _, _, _, _, hc2 _ (x1.trans x2), ?_⟩
    have e : (!((bEq a[i].name b[i].name) && (((a[i].v.ma == b[i].v.ma) && ((a[i].v.mi == b[i].v.mi) && ((a[i].v.pa == b[i].v.pa) && true))) && true))) = !decide (a[i] = b[i]) := by
      congr 1
      rw [Bool.eq_iff_iff]
      generalize a[i] = x; generalize b[i] = y
      obtain ⟨n, ⟨p, q, r⟩⟩ := x
      obtain ⟨n', ⟨p', q', r'⟩⟩ := y
      simp [bEq_iff]
    rw [e]
    refine ⟨fun h => ?_, fun h => ?_⟩
    · have hne : ¬ a = b := fun e => by subst e; simp at h
      have h3 := hR w2 (x1.trans x2)
      rw [decide_eq_false hne] at h3; exact h3
    · refine hn k1 _ ⟨x1.trans x2, ?_⟩
      have he : a[i] = b[i] := by simpa using h
      rw [List.take_succ_eq_append_getElem k1, List.take_succ_eq_append_getElem k2, hI, he]
  · have : i = a.length := by omega
    subst this
    rw [List.take_length, List.take_of_length_le (by omega)] at hI
    have h3 := hR w1 x1
    rw [decide_eq_true hI] at h3; exact h3
theorem bind2_se {x y : Node} {cx ex cy ey : Sl} {S T : Nat → Prop} {c0 : Addr} {w : World} {R : Bool → World → Prop} (hc : BoxAt w c0 [.string x.name, .int .i64 x.v.ma, .int .i64 x.v.mi, .int .i64 x.v.pa, cx.v, ex.v]) (hx : SlR pinE w S cx x.ctx) (hy : SlR pinE w T cy y.ctx) (hR : ∀ w', Ext w w' → R (decide (y.key = x.key)) w') :
    SE.resolve_search_bind_2 y.name y.v.ma y.v.mi y.v.pa cy ey c0 w R := by
  unfold SE.resolve_search_bind_2
  have e : decide (y.key = x.key) = (bEq x.name y.name && decide (x.v = y.v) && decide (x.ctx = y.ctx)) := by
    rw [Bool.eq_iff_iff]
    simp only [Node.key, decide_eq_true_eq, Prod.mk.injEq, Bool.and_eq_true, bEq_iff]
    exact ⟨fun ⟨a, b, c⟩ => ⟨⟨a.symm, b.symm⟩, c.symm⟩, fun ⟨⟨a, b⟩, c⟩ => ⟨a.symm, b.symm, c.symm⟩⟩
  rw [e] at hR
  refine newS.intro fun a w1 x1 hb _ _ => ⟨_, hc.at0 x1 rfl, _, hb.at0 (Ext.refl _) rfl, bound ⟨_, _, _, fun _ => hc.at1 (k := 1) x1 rfl, _, _, _, fun _ => hb.at1 (k := 1) (Ext.refl _) rfl, bound ?_⟩⟩
  have ev : ((x.v.ma == y.v.ma) && ((x.v.mi == y.v.mi) && ((x.v.pa == y.v.pa) && true))) = decide (x.v = y.v) := verB
  rw [ev]
  refine ⟨cx, fun _ => hc.at1 (k := 4) x1 rfl, cy, fun _ => hb.at1 (k := 4) (Ext.refl _) rfl, ?_⟩
  refine gCall.intro (decide (x.ctx = y.ctx)) (fun _ q hq => SE.slices_Equal_apiPinapiPin.go (eqPins_se (hx.ext x1) (hy.ext x1) fun w' hx => ⟨_, rfl, hq _ hx⟩)) fun t w2 x2 ht => ?_
  have h3 := hR w2 (x1.trans x2)
  cases hg : (bEq x.name y.name && decide (x.v = y.v))
  · rw [hg] at h3; exact h3
  · rw [hg] at h3 ht
    rw [ht rfl]; exact h3
theorem entersBind2 : Enters Tryz.prog 52 := enters_of Tryz.func52 (by kernel_rfl) rfl
theorem idxNode_se {s : Sl} {l : List Node} {f : Value} {p : Node → Bool} {S : Nat → Prop} {w : World} {R : Int → World → Prop} (hs : SlR nodeE w S s l)
    (hf : ∀ x ∈ l, ∀ (c e : Sl) w' (k : Value → World → Prop), Ext w w' → SlR pinE w' S c x.ctx → (∀ w'', Ext w' w'' → k (.bool (p x)) w'') → callV Tryz.prog f [.agg #[.string x.name, .int .i64 x.v.ma, .int .i64 x.v.mi, .int .i64 x.v.pa, Sl.v c, Sl.v e]] w' k)
    (hR : ∀ w', Ext w w' → R (idxI p l) w') : SE.slices_IndexFunc_apiNodeapiNode s f w R := by
  unfold SE.slices_IndexFunc_apiNodeapiNode
  have hl := hs.len
  refine loop1.up hs.max (fun i w' => Ext w w' ∧ (l.take i).any p = false) ⟨Ext.refl _, rfl⟩ fun i w1 nxt hi ⟨x1, hI⟩ hn => ⟨fun hlt => ?_, fun hge => ?_⟩
  · have hlt' : i < l.length := by omega
    obtain ⟨ad, cs, ha, _, ⟨_, c, e, rfl, hcc, _⟩, hc⟩ := hs.el hlt'
    refine ⟨ad, ⟨ha, by omega, hlt⟩, _, _, _, _, c, e, hc _ (by (repeat (first | assumption | exact Ext.refl _ | refine Ext.trans ?_ (by assumption)))), hf _ (List.getElem_mem hlt') c e _ _ x1 (hcc.ext x1) fun w2 x2 => ⟨_, rfl, fun h => ?_, fun h => ?_⟩⟩
    · rw [← idxI_hit hlt' hI h]; exact hR _ (by (repeat (first | assumption | exact Ext.refl _ | refine Ext.trans ?_ (by assumption))))
    · exact hn hlt' _ ⟨by (repeat (first | assumption | exact Ext.refl _ | refine Ext.trans ?_ (by assumption))), by rw [take_any_succ hlt' hI]; exact h⟩
  · have : i = l.length := by omega
    rw [this, List.take_length] at hI
    rw [← idxI_none hI]; exact hR _ (by (repeat (first | assumption | exact Ext.refl _ | refine Ext.trans ?_ (by assumption))))
end Go.Hal
