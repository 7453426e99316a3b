/- Lemmas for the claim K08f: how the program's functions run, and what they answer; no condition but those that each theorem names. -/
import Derived.Test.YtfaabhimmojeaaaGreatDoorK08fB1
set_option linter.unusedVariables false
set_option linter.unusedSimpArgs false
namespace Go.Hal
open Go Go.RowKit Go.Proofs Go.Shelf

/-! ### the plain law: room for 128 -/
def fulP (name : ByteArray) (n : Int) (k : Nat) : Pack := ⟨name, verAt (n + k), [], [], []⟩
def fulL (name : ByteArray) (n : Int) : Nat → List Pack
  | 0 => []
  | k + 1 => (refPut (fulL name n k) (fulP name n k)).2
theorem may_bare (name : ByteArray) (v : Ver) : packMay ⟨name, v, [], [], []⟩ = (nameMay name && v.may) := by
  unfold packMay listsMay
  cases hn : nameMay name with
  | false => rfl
  | true =>
    have h1 := nameMay_len hn; have h2 := verText_len v
    have h3 : (packText ⟨name, v, [], [], []⟩).length ≤ 4096 := by
      simp [packText, headText, depLines]; omega
    have h4 : apart3 ⟨name, v, [], [], []⟩ = true := rfl
    have h5 : depsMay [] = true := rfl
    simp [h3, h4, h5]
theorem may_none : packMay zeroP = false := by decide +kernel
theorem fulP_may {name : ByteArray} (hm : nameMay name = true) (n : Int) (k : Nat) : packMay (fulP name n k) = true := by
  unfold fulP
  rw [may_bare, hm, verAt_may]; rfl
theorem fulP_inj {name : ByteArray} {n : Int} {j k : Nat} (h0 : 0 ≤ n) (h1 : n ≤ 998999999) (hj : j < 130) (hk : k < 130) (h : (fulP name n j).v = (fulP name n k).v) : j = k := by
  have a1 : atOk (n + j) = true := by simp [atOk]; omega
  have a2 : atOk (n + k) = true := by simp [atOk]; omega
  have e := congrArg Ver.rank h
  simp only [fulP] at e
  rw [verAt_rank a1, verAt_rank a2] at e
  omega
theorem ful_get {name : ByteArray} {n : Int} {k : Nat} {L : List Pack} (h0 : 0 ≤ n) (h1 : n ≤ 998999999) (hk : k < 130) (hL : ∀ x ∈ L, ∃ j, j < 130 ∧ j ≠ k ∧ x = fulP name n j) : getL L (fulP name n k).name (fulP name n k).v = none := by
  cases hg : getL L (fulP name n k).name (fulP name n k).v with
  | none => rfl
  | some x =>
    obtain ⟨hx, _, hv⟩ := getL_some hg
    obtain ⟨j, hj, hjk, rfl⟩ := hL x hx
    exact absurd (fulP_inj h0 h1 hj hk hv) hjk
theorem ful_inv {name : ByteArray} {n : Int} (hm : nameMay name = true) (h0 : 0 ≤ n) (h1 : n ≤ 998999999) : ∀ k, k ≤ 128 → (fulL name n k).length = k ∧ (∀ x, x ∈ fulL name n k ↔ ∃ j, j < k ∧ x = fulP name n j)
  | 0, _ => ⟨rfl, fun x => by simp [fulL]⟩
  | k + 1, hk => by
    obtain ⟨a, b⟩ := ful_inv hm h0 h1 k (by omega)
    have hg : getL (fulL name n k) (fulP name n k).name (fulP name n k).v = none := ful_get h0 h1 (by omega) fun x hx => by
      obtain ⟨j, hj, e⟩ := (b x).1 hx
      exact ⟨j, by omega, by omega, e⟩
    have e : fulL name n (k + 1) = putAt (fulP name n k) (fulL name n k) := by
      rw [fulL, refPut, fulP_may hm, hg, a]
      rw [if_neg (by decide), if_neg (by decide), if_neg (by omega)]
    have hp := putAt_perm (fulP name n k) (fulL name n k)
    rw [e]
    refine ⟨by rw [hp.length_eq, List.length_append, a]; rfl, fun x => ?_⟩
    rw [hp.mem_iff, List.mem_append, b, List.mem_singleton]
    constructor
    · rintro (⟨j, hj, e⟩ | e)
      · exact ⟨j, by omega, e⟩
      · exact ⟨k, by omega, e⟩
    · rintro ⟨j, hj, e'⟩
      by_cases h : j = k
      · subst h; exact .inr e'
      · exact .inl ⟨j, by omega, e'⟩
theorem ful_ok {name : ByteArray} {n : Int} (hm : nameMay name = true) (h0 : 0 ≤ n) (h1 : n ≤ 998999999) {k : Nat} (hk : k < 128) : (refPut (fulL name n k) (fulP name n k)).1 = 0 := by
  obtain ⟨a, b⟩ := ful_inv hm h0 h1 k (by omega)
  have hg : getL (fulL name n k) (fulP name n k).name (fulP name n k).v = none := ful_get h0 h1 (by omega) fun x hx => by
    obtain ⟨j, hj, e⟩ := (b x).1 hx
    exact ⟨j, by omega, by omega, e⟩
  rw [refPut, fulP_may hm, hg, a]
  rw [if_neg (by decide), if_neg (by decide), if_neg (by omega)]
theorem ful_more {name : ByteArray} {n : Int} (hm : nameMay name = true) (h0 : 0 ≤ n) (h1 : n ≤ 998999999) {k : Nat} (hk : 128 ≤ k) (hk2 : k < 130) : refPut (fulL name n 128) (fulP name n k) = (26, fulL name n 128) := by
  obtain ⟨a, b⟩ := ful_inv hm h0 h1 128 (by omega)
  have hg : getL (fulL name n 128) (fulP name n k).name (fulP name n k).v = none := ful_get h0 h1 (by omega) fun x hx => by
    obtain ⟨j, hj, e⟩ := (b x).1 hx
    exact ⟨j, by omega, by omega, e⟩
  rw [refPut, fulP_may hm, hg, a]
  rw [if_neg (by decide), if_neg (by decide), if_pos (by omega)]
theorem ful_stop {name : ByteArray} {n : Int} (hm : nameMay name = true) (h0 : 0 ≤ n) (h1 : n ≤ 998999999) {k : Nat} (hk : 128 ≤ k) (hk2 : k ≤ 130) : fulL name n k = fulL name n 128 := by
  have e1 : fulL name n 129 = fulL name n 128 := by rw [fulL, ful_more hm h0 h1 (by omega) (by omega)]
  have e2 : fulL name n 130 = fulL name n 128 := by rw [fulL, e1, ful_more hm h0 h1 (by omega) (by omega)]
  obtain rfl | rfl | rfl : k = 128 ∨ k = 129 ∨ k = 130 := by omega
  · rfl
  · exact e1
  · exact e2
theorem ful_err {name : ByteArray} {n : Int} (hm : nameMay name = true) (h0 : 0 ≤ n) (h1 : n ≤ 998999999) {k : Nat} (hk : 128 ≤ k) (hk2 : k < 130) : (refPut (fulL name n k) (fulP name n k)).1 = 26 := by
  rw [ful_stop hm h0 h1 hk (by omega), ful_more hm h0 h1 hk hk2]
theorem ful_there {name : ByteArray} {n : Int} (hm : nameMay name = true) (h0 : 0 ≤ n) (h1 : n ≤ 998999999) : refPut (fulL name n 128) (fulP name n 0) = (11, fulL name n 128) := by
  obtain ⟨a, b⟩ := ful_inv hm h0 h1 128 (by omega)
  have hin : fulP name n 0 ∈ fulL name n 128 := (b _).2 ⟨0, by omega, rfl⟩
  have hs : (getL (fulL name n 128) (fulP name n 0).name (fulP name n 0).v).isSome = true := by
    cases hg : getL (fulL name n 128) (fulP name n 0).name (fulP name n 0).v with
    | none => exact absurd (by simp [sameKey]) (List.find?_eq_none.1 hg _ hin)
    | some x => rfl
  rw [refPut, fulP_may hm, hs, if_neg (by decide), if_pos rfl]
theorem put_zero (L : List Pack) : refPut L zeroP = (24, L) := by rw [refPut, may_none, if_pos rfl]
theorem put_bad {x : Pack} (h : packMay x = false) (L : List Pack) : refPut L x = (24, L) := by rw [refPut, h, if_pos rfl]
theorem ful_vers {name : ByteArray} {n : Int} (hm : nameMay name = true) (h0 : 0 ≤ n) (h1 : n ≤ 998999999) : (versOf name (fulL name n 128)).length = 128 := by
  obtain ⟨a, b⟩ := ful_inv hm h0 h1 128 (by omega)
  unfold versOf
  rw [List.length_map, List.filter_eq_self.2, a]
  intro x hx
  obtain ⟨j, _, rfl⟩ := (b x).1 hx
  simp [hasN, fulP]
def bareC (name : ByteArray) (v : Ver) : List Value := [.string name, .int .i64 v.ma, .int .i64 v.mi, .int .i64 v.pa, Sl.nil.v, Sl.nil.v, Sl.nil.v]
/-- What stands while the packages are put. -/
structure FulI (w0 w : World) (a p : Addr) (r : Nat) (name : ByteArray) (L : List Pack) : Prop where
  ext : Ext w0 w
  cat : ∃ S, CatL w S p r L ∧ ¬ S a.block
  box : ∃ v, BoxAt w a (bareC name v)
theorem FulI.ext' {w0 w w' : World} {a p : Addr} {r : Nat} {name : ByteArray} {L : List Pack} (h : FulI w0 w a p r name L) (hx : Ext w w') : FulI w0 w' a p r name L := by
  obtain ⟨h1, ⟨S, h2, h3⟩, v, h4⟩ := h
  exact ⟨h1.trans hx, ⟨S, h2.ext hx, h3⟩, v, h4.ext hx⟩
/-- One package's version is set: the box turns, the catalog stays. -/
theorem FulI.set {w0 w : World} {a p : Addr} {r : Nat} {name : ByteArray} {L : List Pack} {v : Ver} {k : World → Prop} (h : FulI w0 w a p r name L) (ha : w0.heap.size ≤ a.block) (hp : a.block ≠ p.block) (hr : a.block ≠ r)
    (hk : ∀ w', FulI w0 w' a p r name L → BoxAt w' a (bareC name v) → k w') : stw w (a.add 1) [.int .i64 v.ma, .int .i64 v.mi, .int .i64 v.pa] k := by
  obtain ⟨h1, ⟨S, h2, h3⟩, u, h4⟩ := h
  refine stw.intro (o := 1) h4 (by simp [bareC]) fun w' b _ hb => ?_
  have hb : BoxAt w' a (bareC name v) := hb
  refine hk w' ⟨b.ext h1 ha, ⟨S, h2.stay b.1 fun c hc hs => b.2.2.2.2 c hc ?_, h3⟩, v, hb⟩ hb
  rintro rfl
  rcases hs with hs | hs | hs
  · exact h3 hs
  · exact hp hs
  · exact hr hs
theorem FulI.put {w0 w : World} {a p : Addr} {r : Nat} {name : ByteArray} {L : List Pack} {x : Pack} {k : Int → World → Prop} (ht : Tab w0) (h : FulI w0 w a p r name L) (hx : x.deps = [] ∧ x.peers = [] ∧ x.opt = []) (hs : Str x.name) (hw : w0.heap.size ≤ r) (hr : a.block ≠ r)
    (hk : ∀ w', FulI w0 w' a p r name (refPut L x).2 → k (refPut L x).1 w') : SE.catalog_Catalog_Put (some p) x.name x.v.ma x.v.mi x.v.pa Sl.nil Sl.nil Sl.nil w k := by
  obtain ⟨h1, ⟨S, h2, h3⟩, u, h4⟩ := h
  refine catPut_L (S2 := None') (ht.ext h1) h2 hs (fun _ h => h.elim) (by rw [hx.1]; exact SlR.nil trivial) (by rw [hx.2.1]; exact SlR.nil trivial) (by rw [hx.2.2]; exact SlR.nil trivial) fun S' w' b hC _ hS => hk w' ⟨b.ext h1 hw, ⟨S', hC, fun h => ?_⟩, u, b.box h4 hr⟩
  rcases hS _ h with h | h
  · exact h3 h
  · have := h4.lt; omega
set_option maxHeartbeats 4000000 in
theorem catalogFull_se {name : ByteArray} {n : Int} {w : World} {R : Bool → World → Prop} (ht : Tab w) (hN : Str name) (hR : ∀ w', Ext w w' → R true w') : SE.halyardlaw08_CatalogFull name n w R := by
  unfold SE.halyardlaw08_CatalogFull
  refine SE.catalog_New.go (catNew_L fun p r w1 x1 hC h1 h2 => ⟨_, rfl, bound ⟨fun _ => SE.halyardlaw08_known.go (known08_se (ht.ext x1) fun w2 x2 => ⟨_, rfl, ?_⟩), (fun h => by cases h)⟩⟩)
  refine ⟨(fun h => by cases h), fun _ => newS.intro fun a w3 x3 ha hab _ => stw0.intro ha (by simp) fun w4 b4 _ ha4 => ?_⟩
  have ha4 : BoxAt w4 a (bareC name ⟨0, 0, 0⟩) := ha4
  have s1 := x1.size; have s2 := x2.size; have s3 := x3.size
  have x24 : Ext w2 w4 := b4.ext x3 (by omega)
  have hlt := hC.lt
  have hI4 : FulI w w4 a p r name [] := ⟨x1.trans (x2.trans x24), ⟨None', hC.ext (x2.trans x24), fun h => h⟩, _, ha4⟩
  have har : a.block ≠ r := by omega
  have hap : a.block ≠ p.block := by omega
  have haw : w.heap.size ≤ a.block := by omega
  refine ⟨_, _, _, _, _, _, _, ha4.ldc.pre (r := []) rfl, SE.halyardref05_May.go (r05May_se (p := ⟨name, ⟨0, 0, 0⟩, [], [], []⟩) hN (SlR.nil trivial) (SlR.nil trivial) (SlR.nil (S := None') trivial) fun w5 x5 => ⟨_, rfl, fun hm => ?_, fun hm => ?_⟩)⟩
  · have hm : packMay ⟨name, ⟨0, 0, 0⟩, [], [], []⟩ = false := by simpa using hm
    refine ⟨_, _, _, _, _, _, _, (ha4.ext x5).ldc.pre (r := []) rfl, SE.catalog_Catalog_Put.go ((hI4.ext' x5).put (x := ⟨name, ⟨0, 0, 0⟩, [], [], []⟩) ht ⟨rfl, rfl, rfl⟩ hN h1 har fun w6 h6 => ⟨_, rfl, bound ?_⟩)⟩
    rw [put_bad hm] at h6 ⊢
    obtain ⟨y6, ⟨S, hC6, _⟩, _⟩ := h6
    refine ⟨fun _ => SE.catalog_Catalog_All.go (catAll_se hC6 fun t3 w7 x7 hA => ⟨_, rfl, ?_⟩), (fun h => by cases h)⟩
    have hl3 := hA.1.len
    have e3 : (((t3.len : Nat) : Int) == 0) = true := by rw [hl3]; rfl
    have h := hR w7 (y6.trans x7)
    rw [← e3] at h
    exact h
  · have hm : nameMay name = true := by
      have : packMay ⟨name, ⟨0, 0, 0⟩, [], [], []⟩ = true := by simpa using hm
      rw [may_bare] at this
      exact (Bool.and_eq_true_iff.1 this).1
    refine join.named fun J hJ => ?_
    have key : ∀ n : Int, 0 ≤ n → n ≤ 998999999 → J n w5 := by
      subst hJ
      intro n h0 hn
      refine loop1.up (N := 130) (by rw [maxLen_eq]; decide) (fun i w' => FulI w w' a p r name (fulL name n i)) (hI4.ext' x5) fun i w6 nxt hi hI hn' => ⟨fun hlt => ?_, fun hge => ?_⟩
      · have hlt' : i < 130 := by omega
        have hw : wrapI (n + (i : Int)) = n + i := wrapI_eq (by omega) (by omega)
        rw [hw]
        refine SE.halyardref02_At.go (r02At_se fun w7 x7 => ⟨_, _, _, _, rfl, newS.intro fun a8 w8 x8 hb8 _ _ => stw0.intro hb8 (by simp) fun w9 b9 _ hb9 => ⟨_, _, _, hb9.ldc.pre (r := []) rfl, ?_⟩⟩)
        have x69 : Ext w6 w9 := x7.trans (b9.ext x8 (by omega))
        refine (hI.ext' x69).set haw hap har fun w10 h10 hb10 => join.named fun J2 hJ2 => ?_
        have key2 : J2 (refPut (fulL name n i) (fulP name n i)).1 w10 := by
          subst hJ2
          refine ⟨_, _, _, _, _, _, _, hb10.ldc.pre (r := []) rfl, SE.catalog_Catalog_Put.go (h10.put (x := fulP name n i) ht ⟨rfl, rfl, rfl⟩ hN h1 har fun w11 h11 => ⟨_, rfl, fun h => absurd rfl h, fun _ => hn' hlt' _ h11⟩)⟩
        refine ⟨fun h => ?_, fun h => ?_⟩
        · rw [ful_err hm h0 hn (by omega) hlt'] at key2; exact key2
        · rw [ful_ok hm h0 hn (by omega)] at key2; exact key2
      · have : i = 130 := by omega
        subst this
        rw [ful_stop hm h0 hn (by omega) (by omega)] at hI
        refine SE.halyardref02_At.go (r02At_se fun w7 x7 => ⟨_, _, _, _, rfl, newS.intro fun a8 w8 x8 hb8 _ _ => stw0.intro hb8 (by simp) fun w9 b9 _ hb9 => ⟨_, _, _, hb9.ldc.pre (r := []) rfl, ?_⟩⟩)
        have x69 : Ext w6 w9 := x7.trans (b9.ext x8 (by omega))
        refine (hI.ext' x69).set haw hap har fun w10 h10 hb10 => ?_
        have e0 : fulP name n 0 = ⟨name, verAt n, [], [], []⟩ := by unfold fulP; rw [show n + ((0 : Nat) : Int) = n by omega]
        have hthere := ful_there hm h0 hn
        rw [e0] at hthere
        refine ⟨_, _, _, _, _, _, _, hb10.ldc.pre (r := []) rfl, SE.catalog_Catalog_Put.go (h10.put (x := ⟨name, verAt n, [], [], []⟩) ht ⟨rfl, rfl, rfl⟩ hN h1 har fun w11 h11 => ⟨_, rfl, bound ?_⟩)⟩
        rw [hthere] at h11 ⊢
        refine gCall.skip fun J3 hJ3 => SE.catalog_Catalog_Put.go (h11.put (x := zeroP) ht ⟨rfl, rfl, rfl⟩ (by unfold Str zeroP; exact Nat.zero_le _) h1 har fun w12 h12 => ⟨_, rfl, ?_⟩)
        subst hJ3
        rw [put_zero] at h12 ⊢
        refine bound ⟨fun _ => ?_, (fun h => by cases h)⟩
        obtain ⟨y12, ⟨S, hC12, _⟩, _⟩ := h12
        refine SE.catalog_Catalog_All.go (catAll_se hC12 fun t3 w13 x13 hA => ⟨_, rfl, ?_⟩)
        have hl3 := hA.1.len
        have e3 : (((t3.len : Nat) : Int) == 128) = true := by rw [hl3, (ful_inv hm h0 hn 128 (by omega)).1]; rfl
        refine bound ?_
        rw [e3]
        refine ⟨fun _ => ?_, (fun h => by cases h)⟩
        refine SE.catalog_Catalog_Versions.go (catVersions_se (hC12.ext x13) fun t4 w14 x14 hF => ⟨_, rfl, ?_⟩)
        have e4 : (((t4.len : Nat) : Int) == 128) = true := by rw [hF.1, ful_vers hm h0 hn]; rfl
        have h := hR w14 (y12.trans (x13.trans x14))
        rw [← e4] at h
        exact h
    have hb : (Int.tmod n 999000000).natAbs < 999000000 := by
      rw [Int.natAbs_tmod]
      exact Nat.mod_lt _ (by decide)
    refine ⟨fun h => ?_, fun h => ?_⟩
    · rw [wrapI_eq (by omega) (by omega)]
      exact key _ (by omega) (by omega)
    · exact key _ (by omega) (by omega)
end Go.Hal

