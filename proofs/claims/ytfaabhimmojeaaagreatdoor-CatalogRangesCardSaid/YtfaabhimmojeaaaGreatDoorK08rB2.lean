/- Lemmas for the claim K08r: how the program's functions run, and what they answer; no condition but those that each theorem names. -/
import Derived.Test.YtfaabhimmojeaaaGreatDoorK08rB1
set_option linter.unusedVariables false
set_option linter.unusedSimpArgs false
namespace Go.Hal
open Go Go.RowKit Go.Proofs Go.Shelf
def rkC (x : Rk) : List Value := [.int .i64 x.1, .int .i64 x.2]
theorem rkFlat_eq (l : List Rk) : rkFlat l = (l.map rkC).flatten := rfl
theorem rkFlat_len (l : List Rk) : (rkFlat l).length = l.length * 2 := by rw [rkFlat_eq, flat_len rkC (k := 2) fun _ => rfl]
theorem rkFlat_set (l : List Rk) : ∀ {i : Nat} (hi : i < l.length) (v : Int), (rkFlat l).set (i * 2 + 1) (.int .i64 v) = rkFlat (l.set i (l[i].1, v)) := by
  induction l with
  | nil => intro i hi; simp at hi
  | cons x r ih =>
    intro i hi v
    cases i with
    | zero => rfl
    | succ i =>
      have e : (i + 1) * 2 + 1 = (i * 2 + 1) + 1 + 1 := by omega
      have hi' : i < r.length := by simpa using hi
      have h := ih hi' v
      show ([Value.int .i64 x.1, .int .i64 x.2] ++ rkFlat r).set _ _ = [Value.int .i64 x.1, .int .i64 x.2] ++ rkFlat (r.set i (r[i].1, v))
      rw [e, ← h]; rfl
section
variable {T : TypeId} {w : World} {lo : Nat} {S : Nat → Prop} {s : Sl} {l : List Rk}
theorem OwnS.rkRow (h : OwnS rkE T w lo S s l) : w.ownsRow lo T 2 s.v s.len (rkFlat l) := by
  obtain ⟨css, ho, hl, hr⟩ := h.row
  have e : css = l.map rkC := by
    apply List.ext_getElem (by simp [hl])
    intro i h1 h2
    obtain ⟨cs, k1, k2⟩ := hr i (l[i]'(by simpa using h2)) (List.getElem?_eq_getElem (by simpa using h2))
    rw [List.getElem?_eq_getElem h1, Option.some.injEq] at k1
    rw [k1, List.getElem_map]; exact k2.1
  rw [e] at ho; exact ho
theorem OwnS.rkMk {v : Value} (h : w.ownsRow lo T 2 v l.length (rkFlat l)) : ∃ s : Sl, v = s.v ∧ OwnS rkE T w lo None' s l := by
  have h1 : ∃ s : Sl, v = s.v ∧ s.len = l.length := by
    rcases h.2 with ⟨hv, hn⟩ | ⟨g, cap, cur, hv, _⟩
    · exact ⟨Sl.nil, hv, hn.symm⟩
    · exact ⟨⟨some ⟨g, 0, none⟩, l.length, cap⟩, hv, rfl⟩
  obtain ⟨s, rfl, hs⟩ := h1
  refine ⟨s, rfl, ⟨l.map rkC, by rw [hs]; exact h, by simp, fun i x hx => ⟨rkC x, by rw [List.getElem?_map, hx]; rfl, rfl, trivial⟩⟩, hs, fun _ h => h.elim, fun _ _ h => h.elim⟩
theorem OwnS.setHi {i : Nat} {v : Int} {ad : Addr} {K : World → Prop} (h : OwnS rkE T w lo None' s l) (hi : i < l.length) (ha : s.a = some ad) (hK : ∀ w', But ad.block w w' → OwnS rkE T w' lo None' s (l.set i (l[i].1, v)) → K w') : stw w ((ad.add (i * 2)).add 1) [.int .i64 v] K := by
  have ho := h.rkRow
  have hl := h.len
  rcases ho.2 with ⟨hv, _⟩ | ⟨g, cap, cur, hv, hg, hh, hc, hcm, hcs, ht⟩
  · simp [Sl.v] at hv; rw [hv.1] at ha; cases ha
  · have had : ad = ⟨g, 0, none⟩ := by simp [Sl.v] at hv; rw [hv.1] at ha; exact (Option.some.inj ha).symm
    subst had
    have hfit : i * 2 + 1 + 1 ≤ cur.size := by omega
    rw [add_add, add_plain]
    refine ⟨cur, T, hh, rfl, by simpa using hfit, hK _ ⟨by simp [World.setRow], rfl, rfl, rfl, fun c hc hne => setRow_other w g c _ hne⟩ ?_⟩
    have hsp : (splice cur (i * 2 + 1) [.int .i64 v]).toList = cur.toList.set (i * 2 + 1) (.int .i64 v) := by
      unfold splice
      rw [List.set_eq_take_append_cons_drop, if_pos (by rw [Array.length_toList (xs := cur)]; omega)]
      simp
    have hrow : (w.setRow g (splice cur (i * 2 + 1) [.int .i64 v])).ownsRow lo T 2 s.v (l.set i (l[i].1, v)).length (rkFlat (l.set i (l[i].1, v))) := by
      refine ⟨rkFlat_len _, .inr ⟨g, cap, _, by rw [hv, List.length_set, hl], hg, setRow_heap w g cur _ T _ hh, by rw [List.length_set, ← hl]; exact hc, hcm, ?_, ?_⟩⟩
      · rw [← Array.length_toList, hsp, List.length_set, Array.length_toList (xs := cur)]; exact hcs
      · rw [hsp, List.take_set, List.length_set, ← hl, ht, rkFlat_set l hi]
    obtain ⟨s', e, own⟩ := OwnS.rkMk hrow
    have : s' = s := by
      obtain ⟨a, n, c⟩ := s
      obtain ⟨a', n', c'⟩ := s'
      simpa [Sl.v, eq_comm] using e
    subst this
    exact own
end
set_option maxHeartbeats 1000000 in
theorem spans_se {s : Sl} {l : List Rk} {S : Nat → Prop} {w : World} {R : Sl → World → Prop} (hs : SlR rkE w S s l) (hl : l.length ≤ 64) (hR : ∀ t w', Ext w w' → SlR spanE w' (fun b => w.heap.size ≤ b ∧ b < w'.heap.size) t (spansOf l) → R t w') : SE.span_spans s w R := by
  unfold SE.span_spans
  have hsl := hs.len
  have eb : spanE.bytes = 48 := rfl
  refine loop2.up hs.max (fun out i w' => Ext w w' ∧ OwnS spanE 83 w' w.heap.size None' out (spansOf (l.take i))) ⟨Ext.refl _, OwnS.zero _⟩ fun out i w1 nxt hi ⟨x1, own⟩ hn => ⟨fun hlt => ?_, fun hge => ?_⟩
  · have hlt' : i < l.length := by omega
    obtain ⟨ad, hsa, _, hc⟩ := rkEl hs hlt'
    refine ⟨ad, ⟨hsa, by omega, hlt⟩, _, _, hc _ x1, newS.intro fun a w2 x2 hb2 ha2 _ => stw0.intro hb2 (by simp) fun w3 b3 _ hb3 => ?_⟩
    have x13 : Ext w1 w3 := b3.ext x2 (by omega)
    refine ⟨_, hb3.at0 (Ext.refl _) rfl, SE.vers_At.go (versAt_se fun w4 x4 => ⟨_, _, _, _, rfl, newS.intro fun a5 w5 x5 hb5 ha5 _ => stw0.intro hb5 (by simp) fun w6 b6 _ hb6 => ?_⟩)⟩
    have x46 : Ext w4 w6 := b6.ext x5 (by omega)
    have x36 := x4.trans x46
    refine ⟨_, BoxAt.at1 hb3 (k := 1) x36 rfl, SE.vers_At.go (versAt_se fun w7 x7 => ⟨_, _, _, _, rfl, newS.intro fun a8 w8 x8 hb8 ha8 _ => stw0.intro hb8 (by simp) fun w9 b9 _ hb9 => ?_⟩)⟩
    have x79 : Ext w7 w9 := b9.ext x8 (by omega)
    have x69 := x7.trans x79
    refine ⟨_, _, _, hb6.at0 (r := []) x69 rfl, _, _, _, hb9.at0 (r := []) (Ext.refl _) rfl, newS.intro fun a10 w10 x10 hb10 _ _ => ?_⟩
    have x110 := x13.trans (x36.trans (x69.trans x10))
    have hlen : (spansOf (l.take i)).length = i := by unfold spansOf; rw [List.length_map, List.length_take]; omega
    refine (own.ext x110).push apSpan (x1.trans x110).size (x := ⟨verAt l[i].1, verAt l[i].2⟩) (S' := None') (cs := (verAt l[i].1).c ++ (verAt l[i].2).c) ⟨rfl, trivial⟩ (hb10.ldc.pre (r := []) rfl) (fun _ h => h.elim) (fun _ _ h => h.elim) (by rw [hlen, eb]; unfold room; omega) (by rw [hlen, maxLen_eq]; omega) fun r w11 own11 bel _ _ => hn hlt' _ _ ⟨(x1.trans x110).trans' bel, ?_⟩
    have e : spansOf (l.take (i + 1)) = spansOf (l.take i) ++ [⟨verAt l[i].1, verAt l[i].2⟩] := by
      unfold spansOf
      rw [List.take_succ_eq_append_getElem hlt', List.map_append]; rfl
    rw [e]
    exact own11.mono (fun _ h => h.elim id id) (fun _ h => h.elim) (fun _ _ h => h.elim)
  · have : i = l.length := by omega
    rw [this, List.take_length] at own
    have hlen : (spansOf l).length = l.length := by unfold spansOf; rw [List.length_map]
    refine hR _ _ x1 ((own.read (by rw [hlen, eb]; unfold room; omega) (by rw [hlen, maxLen_eq]; omega)).mono fun b hb => ?_)
    rcases hb with hb | ⟨ad, ha, rfl⟩
    · exact hb.elim
    · have := own.block ha; exact ⟨this.1, this.2.1⟩
theorem goMax_eq (a b : Int) : goMax a b = max a b := by unfold goMax; split <;> omega
theorem goMin_eq (a b : Int) : goMin a b = min a b := by unfold goMin; split <;> omega
theorem metL_step {a b : List Rk} {i k : Nat} (hi : i < a.length) (hk : k < b.length) : metL (a.drop i) (b.drop k) = one a[i] b[k] ++ (if a[i].2 < b[k].2 then metL (a.drop (i + 1)) (b.drop k) else metL (a.drop i) (b.drop (k + 1))) := by
  conv => lhs; rw [List.drop_eq_getElem_cons hi, List.drop_eq_getElem_cons hk, metL]
  rw [← List.drop_eq_getElem_cons hi, ← List.drop_eq_getElem_cons hk]
set_option maxHeartbeats 2000000 in
theorem met_se {s t : Sl} {la lb : List Rk} {S : Nat → Prop} {w : World} {R : Sl → World → Prop} (hs : SlR rkE w S s la) (ht : SlR rkE w S t lb) (hb : la.length + lb.length ≤ 1000000) (hR : ∀ r w', Ext w w' → OwnS rkE 157 w' w.heap.size None' r (metL la lb) → R r w') : SE.span_met s t w R := by
  unfold SE.span_met
  have hsl := hs.len
  have htl := ht.len
  have eb : rkE.bytes = 16 := rfl
  have hml := metL_len la lb
  refine loop3.ghost (fun n out i k w' => ∃ (i' k' : Nat) (done : List Rk), i = (i' : Int) ∧ k = (k' : Int) ∧ i' ≤ la.length ∧ k' ≤ lb.length ∧ n = (la.length - i') + (lb.length - k') ∧ Ext w w' ∧ OwnS rkE 157 w' w.heap.size None' out done ∧ done ++ metL (la.drop i') (lb.drop k') = metL la lb) (la.length + lb.length)
    ⟨0, 0, [], rfl, rfl, Nat.zero_le _, Nat.zero_le _, by omega, Ext.refl _, OwnS.zero _, rfl⟩ ?_
  rintro n out i k w1 nxt ⟨i', k', done, rfl, rfl, hi, hk, hn, x1, own, hd⟩ hnx
  refine ⟨fun hlt => ?_, fun hge => ?_⟩
  · have hi1 : i' < la.length := by omega
    refine loop3.ghost (fun m out2 i2 k2 w' => ∃ (k' : Nat) (done : List Rk), i2 = (i' : Int) ∧ k2 = (k' : Int) ∧ k' ≤ lb.length ∧ m = (la.length - i') + (lb.length - k') ∧ m ≤ n ∧ Ext w w' ∧ OwnS rkE 157 w' w.heap.size None' out2 done ∧ done ++ metL (la.drop i') (lb.drop k') = metL la lb) n
      ⟨k', done, rfl, rfl, hk, hn, Nat.le_refl _, x1, own, hd⟩ ?_
    rintro m out2 i2 k2 w2 nxt2 ⟨k', done, rfl, rfl, hk, hm, hmn, x2, own2, hd2⟩ hnx2
    refine ⟨fun hklt => bnd.drew fun w3 x3 => ?_, fun hkge => ?_⟩
    · have hk1 : k' < lb.length := by omega
      have x23 := x2.trans x3
      obtain ⟨ad, hsa, _, hc⟩ := rkEl hs hi1
      obtain ⟨ad2, hta, _, hc2⟩ := rkEl ht hk1
      have c1 := hc _ x23
      have c2 := hc2 _ x23
      refine ⟨ad, ⟨hsa, by omega, hlt⟩, _, c1.pre rfl, ad2, ⟨hta, by omega, hklt⟩, _, c2.pre rfl, ad, ⟨hsa, by omega, hlt⟩, _, c1.mid (k := 1) rfl, ad2, ⟨hta, by omega, hklt⟩, _, c2.mid (k := 1) rfl, ?_⟩
      rw [goMax_eq, goMin_eq]
      rw [metL_step hi1 hk1, ← List.append_assoc] at hd2
      refine join.named fun J hJ => ?_
      have key : ∀ out4 w4, Ext w w4 → OwnS rkE 157 w4 w.heap.size None' out4 (done ++ one la[i'] lb[k']) → J out4 w4 := by
        subst hJ
        intro out4 w4 x4 own4
        refine bnd.drew fun w5 x5 => ?_
        have x05 := x4.trans x5
        refine ⟨ad, ⟨hsa, by omega, hlt⟩, _, (hc _ x05).mid (k := 1) rfl, ad2, ⟨hta, by omega, hklt⟩, _, (hc2 _ x05).mid (k := 1) rfl, fun hl => ?_, fun hl => ?_⟩
        · rw [if_pos hl] at hd2
          rw [wrapI_eq (by omega) (by omega)]
          exact hnx (m - 1) _ _ _ _ (by omega) ⟨i' + 1, k', _, by omega, rfl, by omega, hk, by omega, x05, own4.ext x5, hd2⟩
        · rw [if_neg hl] at hd2
          rw [wrapI_eq (by omega) (by omega)]
          exact hnx2 (m - 1) _ _ _ _ (by omega) ⟨k' + 1, _, rfl, by omega, by omega, by omega, by omega, x05, own4.ext x5, hd2⟩
      refine ⟨fun hl => newS.intro fun a w4 x4 hb4 _ _ => ?_, fun hl => ?_⟩
      · have e1 : one la[i'] lb[k'] = [(max la[i'].1 lb[k'].1, min la[i'].2 lb[k'].2)] := by unfold one; rw [if_pos hl]
        have hdl : done.length + 1 ≤ (metL la lb).length := by rw [← hd2, e1]; simp
        have x34 := x3.trans x4
        refine (own2.ext x34).push apRk (x2.trans x34).size (x := (max la[i'].1 lb[k'].1, min la[i'].2 lb[k'].2)) (S' := None') (cs := [.int .i64 (max la[i'].1 lb[k'].1), .int .i64 (min la[i'].2 lb[k'].2)]) ⟨rfl, trivial⟩ (hb4.ldc.pre (r := []) rfl) (fun _ h => h.elim) (fun _ _ h => h.elim) (by rw [eb]; unfold room; omega) (by rw [maxLen_eq]; omega) fun r w5 own5 bel _ _ => key _ _ ?_ ?_
        · exact (x2.trans x34).trans' bel
        · rw [e1]
          exact own5.mono (fun _ h => h.elim id id) (fun _ h => h.elim) (fun _ _ h => h.elim)
      · have e1 : one la[i'] lb[k'] = [] := by unfold one; rw [if_neg hl]
        refine key _ _ x23 ?_
        rw [e1, List.append_nil]
        exact own2.ext x3
    · have : k' = lb.length := by omega
      rw [this, List.drop_length, metL_nil, List.append_nil] at hd2
      subst hd2
      exact hR _ _ x2 own2
  · have : i' = la.length := by omega
    rw [this, List.drop_length] at hd
    rw [metL, List.append_nil] at hd
    subst hd
    exact hR _ _ x1 own
end Go.Hal
namespace Go.Hal
open Go Go.RowKit Go.Proofs Go.Shelf
theorem rkFlat_get {l : List Rk} {j : Nat} (h : j < l.length) : (rkFlat l)[j * 2]? = some (.int .i64 l[j].1) ∧ (rkFlat l)[j * 2 + 1]? = some (.int .i64 l[j].2) := by
  have hall : ∀ cs ∈ l.map rkC, cs.length = 2 := fun cs hc => by obtain ⟨x, _, rfl⟩ := List.mem_map.1 hc; rfl
  have hi : (l.map rkC)[j]? = some (rkC l[j]) := by rw [List.getElem?_map, List.getElem?_eq_getElem h]; rfl
  exact ⟨flatten_get hall hi (j := 0) rfl, flatten_get hall hi (j := 1) rfl⟩
theorem OwnS.lower {α : Type} {E : Enc α} {T : TypeId} {w : World} {lo lo' : Nat} {S : Nat → Prop} {s : Sl} {l : List α} (h : OwnS E T w lo S s l) (hl : lo' ≤ lo) : OwnS E T w lo' S s l := by
  obtain ⟨css, ho, k1, k2⟩ := h.row
  refine ⟨⟨css, ⟨ho.1, ho.2.imp id fun ⟨g, cap, cur, hv, hg, r⟩ => ⟨g, cap, cur, hv, Nat.le_trans hl hg, r⟩⟩, k1, k2⟩, h.len, h.lt, h.apart⟩
theorem collect_se {s : Sl} {l : List Rk} {T : TypeId} {lo : Nat} {S : Nat → Prop} {a : Addr} {w : World} {R : Sl → World → Prop} (h : OwnS rkE T w lo S s l) (ha : BoxAt w a [s.v]) (hl : l.length ≤ 1000000)
    (hR : ∀ t w', Ext w w' → OwnS rkE 157 w' w.heap.size None' t l → R t w') : SE.slices_Collect_spanranks (.func (.func 170) #[] #[.pointer (some a)]) w R := by
  unfold SE.slices_Collect_spanranks
  have hI : RkS w.heap.size w s.v l := by
    have ho := h.rkRow
    rcases ho.2 with ⟨hv, hn⟩ | ⟨g, cap, cur, hv, hg, hh, hc, hcm, hcs, ht⟩
    · exact .inl ⟨hv, List.eq_nil_of_length_eq_zero (by rw [← h.len]; exact hn)⟩
    · refine .inr ⟨g, 0, cap, by rw [hv, h.len], lt_of_block hh, fun j hj => ?_⟩
      have hcell := ho.cells (g := g) (by rw [hv]; rfl)
      obtain ⟨k1, k2⟩ := rkFlat_get hj
      have c1 := hcell _ _ k1
      have c2 := hcell _ _ k2
      rw [add_plain] at c1 c2
      rw [Nat.zero_add]
      exact ⟨c1, c2⟩
  have hbox : w.cell? ⟨a.block, 0, none⟩ = some s.v := by
    obtain ⟨t, _, _, hb⟩ := ha
    simp [World.cell?, hb]
  have hae : a = ⟨a.block, 0, none⟩ := by
    obtain ⟨t, h1, h2, _⟩ := ha
    obtain ⟨b, o, sp⟩ := a
    simp only at h1 h2
    subst h1 h2; rfl
  have hcall := callsIn_wide.1 (rkAppendSeq_in Fence.wide 3 trivial trivial rfl (Nat.le_refl _) a.block s.v l hl w ha.lt hbox hI)
  rw [← hae] at hcall
  refine Calls.mono hcall fun e w' ⟨v, he, hrow, hb⟩ => ⟨v, he, ?_⟩
  obtain ⟨t, rfl, own⟩ := OwnS.rkMk hrow
  exact ⟨t, rfl, hR t w' hb own⟩
abbrev Rk0 : Type := { x : Rk // 0 ≤ x.1 ∧ x.1 ≤ 999999999 }
instance : Inhabited Rk0 := ⟨⟨(0, 0), by decide⟩⟩
theorem enters_joined1 : Enters Tryz.prog 127 := enters_of Tryz.func127 (by kernel_rfl) rfl
theorem isAggR : ∀ w, (isAgg 157).run Tryz.prog w = .ok true w := fun w => by kernel_rfl
theorem sizeOfR : ∀ w, (Go.sizeOf 157).run Tryz.prog w = .ok 2 w := fun w => by kernel_rfl
theorem joined1_gr {a b : Rk0} {w : World} {R : Int → World → Prop} (hR : ∀ w', Gr w w' → R (a.1.1 - b.1.1) w') : SE.span_joined_1 a.1.1 a.1.2 b.1.1 b.1.2 w R := by
  unfold SE.span_joined_1
  have ha := a.2; have hb := b.2
  refine newS.gr fun _ w1 x1 hb1 => newS.gr fun _ w2 x2 hb2 => ⟨_, Gr.at0 hb1 x2 rfl, _, Gr.at0 hb2 (Gr.refl _) rfl, ?_⟩
  rw [wrapI_eq (by omega) (by omega)]
  exact hR _ (x1.trans x2)
theorem lift_rk : ∀ {l : List Rk}, rkIn l → ∃ la : List Rk0, la.map Subtype.val = l
  | [], _ => ⟨[], rfl⟩
  | x :: r, h => by
    obtain ⟨la, e⟩ := lift_rk (l := r) fun y hy => h y (.tail _ hy)
    have hx := h x (.head _)
    exact ⟨⟨x, hx.1, hx.2.1⟩ :: la, by rw [List.map_cons, e]⟩
def rkF (x : Rk0) : List Value := rkC x.1
theorem rkF_map {la : List Rk0} : la.map rkF = (la.map Subtype.val).map rkC := by rw [List.map_map]; rfl
theorem sortRk_k {w : World} {lo : Nat} {s : Sl} {l : List Rk} {K : Value → World → Prop} (h : OwnS rkE 157 w lo None' s l) (hlo : lo ≤ w.heap.size) (hin : rkIn l) (hl : l.length ≤ 1000000)
    (hK : ∀ l' w', l'.Perm l → rises l' → Below lo w w' → SlR rkE w' (fun b => lo ≤ b ∧ b < w'.heap.size) s l' → K (.tuple #[]) w') :
    callS Tryz.prog 169 [Sl.v s, .func (.func 127) #[] #[]] w K := by
  have eb : rkE.bytes = 16 := rfl
  have hF : FlatO rkC 16 w lo s l := FlatO.of (E := rkE) (fun x cs h => h.1) h (by unfold room; omega)
  obtain ⟨h1, h2, h3, h4, h5⟩ := hF
  obtain ⟨a, n, c⟩ := s
  simp only at h1 h2 h3 h5
  subst h1
  rcases h5 with rfl | ⟨g, tail, ha, hg, hr⟩
  · refine (AnyF.slices_SortFunc_none Tryz.laySr a c _ w).mono fun e w' ⟨he, hw⟩ => ⟨_, he, ?_⟩
    subst hw
    exact hK [] _ (List.Perm.refl _) .nil (Below.refl _ _) ⟨rfl, h2, h3, by simp, .inl rfl⟩
  · subst ha
    obtain ⟨la, rfl⟩ := lift_rk hin
    have hr0 : RowB rkF w g la tail := by
      unfold RowB at hr ⊢
      rw [rkF_map]; exact hr
    rw [List.length_map] at *
    refine sortFunc_k Tryz.laySr (k := 2) isAggR sizeOfR (f := rkF) (fun _ => rfl) (fun x v hv => by simp [rkF, rkC] at hv; rcases hv with rfl | rfl <;> rfl) (fun a b => a.1.1 - b.1.1) (swo_ltOf (fun x y => by omega) (fun x y z => by omega)) 127 #[] enters_joined1 (fun w0 x y hb _ => ?_) hr0 (by omega) rfl fun l' w' hp hs b hr' => ?_
    · have h := SE.span_joined_1.go (k := fun v w' => v = .int .i64 (x.1.1 - y.1.1) ∧ Gr w0 w') (joined1_gr (a := x) (b := y) (w := w0) fun w' h => ⟨rfl, h⟩)
      exact Calls.mono h fun e w' ⟨v, he, hv, hg⟩ => ⟨by rw [he, hv], hg⟩
    · have hr2 : RowB rkC w' g (l'.map Subtype.val) tail := by
        unfold RowB at hr' ⊢
        rw [← rkF_map]; exact hr'
      have hpl := hp.length_eq
      have hF2 : FlatO rkC rkE.bytes w' lo ⟨some ⟨g, 0, none⟩, la.length, c⟩ (l'.map Subtype.val) := ⟨by simp [hpl], by simp [hpl]; exact h2, h3, by rw [List.length_map, hpl]; exact h4, .inr ⟨g, tail, rfl, hg, hr2⟩⟩
      refine hK (l'.map Subtype.val) w' (hp.map _) ?_ (b.below hlo hg) (hF2.read (fun _ => rfl) fun w S x _ => ⟨rfl, trivial⟩)
      unfold rises
      rw [List.pairwise_map]
      exact hs.imp fun {x y} h => by omega
theorem sorted_se {s : Sl} {l : List Rk} {T : TypeId} {lo : Nat} {S : Nat → Prop} {a : Addr} {w : World} {R : Sl → World → Prop} (h : OwnS rkE T w lo S s l) (ha : BoxAt w a [s.v]) (hin : rkIn l) (hl : l.length ≤ 1000000)
    (hR : ∀ t w' m, Ext w w' → m.Perm l → rises m → SlR rkE w' (fun b => w.heap.size ≤ b ∧ b < w'.heap.size) t m → R t w') : SE.slices_SortedFunc_spanranks (.func (.func 170) #[] #[.pointer (some a)]) (.func (.func 127) #[] #[]) w R := by
  unfold SE.slices_SortedFunc_spanranks
  refine SE.slices_Collect_spanranks.go (collect_se h ha hl fun t w1 x1 own => ⟨_, rfl, sortRk_k own x1.size hin hl fun m w2 hp hs bel hr => ⟨rfl, hR t w2 m (x1.trans' bel) hp hs hr⟩⟩)
def JoinI (m : List Rk) (n : Nat) (done : List Rk) : Prop := (n = 0 ∧ done = []) ∨ ∃ d y, done = d ++ [y] ∧ joinL m = d ++ joinGo y (m.drop n)
theorem joinI_first {m : List Rk} {n : Nat} (hn : n < m.length) (h0 : n = 0) : JoinI m (n + 1) [m[n]] := by
  subst h0
  refine .inr ⟨[], m[0], rfl, ?_⟩
  cases m with
  | nil => simp at hn
  | cons y r => rfl
theorem joinI_step {m : List Rk} {n : Nat} {d : List Rk} {y : Rk} (hn : n < m.length) (h : joinL m = d ++ joinGo y (m.drop n)) :
    (m[n].1 ≤ y.2 + 1 → JoinI m (n + 1) (d ++ [(y.1, max y.2 m[n].2)])) ∧ (¬ m[n].1 ≤ y.2 + 1 → JoinI m (n + 1) (d ++ [y] ++ [m[n]])) := by
  rw [List.drop_eq_getElem_cons hn, joinGo] at h
  refine ⟨fun hl => .inr ⟨d, _, rfl, ?_⟩, fun hl => .inr ⟨d ++ [y], m[n], rfl, ?_⟩⟩
  · rw [if_pos hl] at h; exact h
  · rw [if_neg hl] at h; rw [h, List.append_assoc]; rfl
set_option maxHeartbeats 2000000 in
theorem joined_se {s : Sl} {l : List Rk} {T : TypeId} {lo : Nat} {S : Nat → Prop} {w : World} {R : Sl → World → Prop} (h : OwnS rkE T w lo S s l) (hin : rkIn l) (hl : l.length ≤ 1000000)
    (hR : ∀ t w' m, Ext w w' → m.Perm l → rises m → OwnS rkE 157 w' w.heap.size None' t (joinL m) → R t w') : SE.span_joined s w R := by
  unfold SE.span_joined
  have eb : rkE.bytes = 16 := rfl
  refine SE.slices_Values_spanranksspanranks.go ?_
  unfold SE.slices_Values_spanranksspanranks
  refine newS.intro fun a w1 x1 ha _ _ => ⟨_, rfl, SE.slices_SortedFunc_spanranks.go (sorted_se (h.ext x1) ha hin hl fun t w2 m x2 hp hs hm => ⟨_, rfl, ?_⟩)⟩
  have x02 := x1.trans x2
  have hml := hm.len
  have hmx : m.length ≤ 1000000 := by rw [hp.length_eq]; exact hl
  have hmi : rkIn m := fun x hx => hin x (hp.mem_iff.1 hx)
  refine loop2.up hm.max (fun out i w' => Ext w2 w' ∧ ∃ done, OwnS rkE 157 w' w2.heap.size None' out done ∧ JoinI m i done ∧ done.length ≤ i ∧ rkIn done) ⟨Ext.refl _, [], OwnS.zero _, .inl ⟨rfl, rfl⟩, Nat.le_refl _, fun x hx => by cases hx⟩ fun out i w3 nxt hi ⟨x3, done, own, hJ, hdl, hdi⟩ hn => ⟨fun hlt => ?_, fun hge => ?_⟩
  · have hlt' : i < m.length := by omega
    obtain ⟨ad, hma, _, hc⟩ := rkEl hm hlt'
    have hxi := hmi _ (List.getElem_mem hlt')
    refine join.named fun J hJ2 => ⟨ad, ⟨hma, by omega, hlt⟩, m[i].1, m[i].2, hc _ x3, newS.intro fun a4 w4 x4 hb4 ha4 _ => stw0.intro hb4 (by simp) fun w5 b5 _ hb5 => bnd.drew fun w6 x6 => ?_⟩
    have x35 : Ext w3 w5 := b5.ext x4 (by omega)
    have x36 := x35.trans x6
    have x26 := x3.trans x36
    have own6 := own.ext x36
    have hol := own.len
    have step : ∀ out7 w7 done7, Ext w2 w7 → OwnS rkE 157 w7 w2.heap.size None' out7 done7 → JoinI m (i + 1) done7 → done7.length ≤ i + 1 → rkIn done7 → J out7 w7 := by
      subst hJ2
      intro out7 w7 done7 x7 own7 hJ7 hl7 hi7
      exact hn hlt' _ _ ⟨x7, done7, own7, hJ7, hl7, hi7⟩
    have push : JoinI m (i + 1) (done ++ [m[i]]) → ∃ (t45_lo : Int) (t45_hi : Int), (ldc w6 a4 [(Value.int .i64 t45_lo), (Value.int .i64 t45_hi)]) ∧ newS w6 [(Value.int .i64 t45_lo), (Value.int .i64 t45_hi)] 157 fun a23 vw24 => appS Tryz.prog 130 130 out (Sl.v (Sl.mk (some a23) 1 1)) vw24 fun t47 vw25 => J t47 vw25 := fun hJ' => by
      refine ⟨m[i].1, m[i].2, hb5.at0 (r := []) x6 rfl, newS.intro fun a7 w7 x7 hb7 _ _ => ?_⟩
      refine (own6.ext x7).push apRk (x26.trans x7).size (x := m[i]) (S' := None') (cs := [.int .i64 m[i].1, .int .i64 m[i].2]) ⟨rfl, trivial⟩ (hb7.ldc.pre (r := []) rfl) (fun _ h => h.elim) (fun _ _ h => h.elim) (by rw [eb]; unfold room; omega) (by rw [maxLen_eq]; omega) fun r w8 own8 bel _ _ => step _ _ _ ((x26.trans x7).trans' bel) (own8.mono (fun _ h => h.elim id id) (fun _ h => h.elim) (fun _ _ h => h.elim)) hJ' (by simp; omega) fun x hx => ?_
      rcases List.mem_append.1 hx with hx | hx
      · exact hdi x hx
      · rw [List.mem_singleton] at hx; subst hx; exact hxi
    rcases hJ with ⟨h0, rfl⟩ | ⟨d, y, rfl, hd⟩
    · have e0 : wrapI ((out.len : Int) - 1) = -1 := by rw [hol]; decide
      rw [e0]
      have eb0 : decide ((0 : Int) ≤ -1) = false := by decide
      rw [eb0]
      refine bound ⟨m[i].1, (fun h => by cases h), ⟨0, 0, none⟩, (fun h => by cases h), 0, (fun h => by cases h), fun h => by simp at h, fun _ => push ?_⟩
      exact joinI_first hlt' h0
    · have hlen : (d ++ [y]).length = d.length + 1 := by simp
      have e0 : wrapI ((out.len : Int) - 1) = (d.length : Int) := by rw [hol, hlen, wrapI_eq (by omega) (by omega)]; omega
      rw [e0]
      have eb0 : decide ((0 : Int) ≤ (d.length : Int)) = true := by rw [decide_eq_true_eq]; omega
      rw [eb0]
      have hrd := own6.read (by rw [hlen, eb]; unfold room; omega) (by rw [hlen, maxLen_eq]; omega)
      have hdn : d.length < (d ++ [y]).length := by omega
      obtain ⟨ad2, hoa, _, hc2⟩ := rkEl hrd hdn
      have hy : (d ++ [y])[d.length] = y := by simp
      have hyi := hdi y (by simp)
      rw [hy] at hc2
      have c2 := hc2 _ (Ext.refl _)
      have hw1 : wrapI (y.2 + 1) = y.2 + 1 := wrapI_eq (by omega) (by omega)
      have hol' : (d.length : Int) < (out.len : Int) := by rw [hol, hlen]; omega
      obtain ⟨j1, j2⟩ := joinI_step hlt' hd
      refine bound ⟨m[i].1, fun _ => hb5.at0 x6 rfl, ad2, fun _ => ⟨hoa, by omega, hol'⟩, y.2, fun _ => c2.mid (k := 1) rfl, fun hle => ?_, fun hle => push ?_⟩
      · rw [hw1, Bool.true_and, decide_eq_true_eq] at hle
        refine bnd.drew fun w7 x7 => ⟨ad2, ⟨hoa, by omega, hol'⟩, y.2, (hc2 _ x7).mid (k := 1) rfl, m[i].2, BoxAt.at1 hb5 (k := 1) (x6.trans x7) rfl, ad2, ⟨hoa, by omega, hol'⟩, ?_⟩
        rw [goMax_eq]
        have x27 := x26.trans x7
        refine (own6.ext x7).setHi (i := d.length) hdn hoa fun w8 b8 own8 => step _ _ _ ?_ own8 ?_ ?_ ?_
        · have := (own.block hoa).1
          exact b8.ext x27 this
        · have e : (d ++ [y]).set d.length ((d ++ [y])[d.length].1, max y.2 m[i].2) = d ++ [(y.1, max y.2 m[i].2)] := by
            rw [hy, List.set_append_right _ _ (Nat.le_refl _)]; simp
          rw [e]; exact j1 hle
        · rw [List.length_set]; omega
        · intro x hx
          rcases List.mem_or_eq_of_mem_set hx with hx | rfl
          · exact hdi x hx
          · rw [hy]; simp only; omega
      · refine j2 fun h => ?_
        rw [hw1, Bool.true_and, decide_eq_false_iff_not] at hle
        exact hle h
  · have : i = m.length := by omega
    subst this
    have hd : done = joinL m := by
      rcases hJ with ⟨h0, rfl⟩ | ⟨d, y, rfl, hd⟩
      · rw [List.eq_nil_of_length_eq_zero h0]; rfl
      · rw [hd, List.drop_length]; rfl
    subst hd
    refine hR _ _ m (x02.trans x3) hp hs (OwnS.lower own x02.size)
end Go.Hal
namespace Go.Hal
open Go Go.RowKit Go.Proofs Go.Shelf
theorem fit_se {s : Sl} {l : List Rk} {S : Nat → Prop} {w : World} {R : Sl → Int → World → Prop} (hs : SlR rkE w S s l) (h0 : R Sl.nil 26 w)
    (hR : l.length ≤ 64 → ∀ t w', Ext w w' → SlR spanE w' (fun b => w.heap.size ≤ b ∧ b < w'.heap.size) t (spansOf l) → R t 0 w') : SE.span_fit s w R := by
  unfold SE.span_fit
  have hl := hs.len
  exact ⟨fun _ => h0, fun h => SE.span_spans.go (spans_se hs (by omega) fun t w' hx ht => ⟨t, rfl, hR (by omega) t w' hx ht⟩)⟩
theorem numsOf_len (l : List Span) : (numsOf l).length = l.length := by unfold numsOf; rw [List.length_map]
theorem meet_se {s t : Sl} {a b : List Span} {S T : Nat → Prop} {w : World} {R : Sl → Int → World → Prop} (hs : SlR spanE w S s a) (ht : SlR spanE w T t b) (h0 : ∀ e w', Ext w w' → ¬ e = 0 → R Sl.nil e w')
    (hR : spansMay a = true → spansMay b = true → (metL (numsOf a) (numsOf b)).length ≤ 64 → ∀ t w', Ext w w' → SlR spanE w' (fun b => w.heap.size ≤ b ∧ b < w'.heap.size) t (spansOf (metL (numsOf a) (numsOf b))) → R t 0 w') : SE.span_Meet s t w R := by
  unfold SE.span_Meet
  have eb : rkE.bytes = 16 := rfl
  refine SE.span_May.go (spanMay_se hs fun w1 x1 => ⟨_, rfl, ?_⟩)
  cases ha : spansMay a with
  | false =>
    refine bound ⟨(fun h => by cases h), fun _ => ⟨fun _ => h0 _ _ x1 (by decide), (fun h => by cases h)⟩⟩
  | true =>
    refine bound ⟨fun _ => SE.span_May.go (spanMay_se (ht.ext x1) fun w2 x2 => ⟨_, rfl, ?_⟩), (fun h => by cases h)⟩
    have x02 := x1.trans x2
    cases hb : spansMay b with
    | false => exact ⟨fun _ => h0 _ _ x02 (by decide), (fun h => by cases h)⟩
    | true =>
      have ka := spansMay_len ha
      have kb := spansMay_len hb
      refine ⟨(fun h => by cases h), fun _ => SE.span_numbers.go (numbers_se (hs.ext x02) fun t3 w3 x3 own3 => ⟨_, rfl, SE.span_numbers.go (numbers_se (ht.ext (x02.trans x3)) fun t4 w4 x4 own4 => ⟨_, rfl, ?_⟩)⟩)⟩
      have hr3 := (own3.ext x4).read (by rw [numsOf_len, eb]; unfold room; omega) (by rw [numsOf_len, maxLen_eq]; omega)
      have hr4 := own4.read (by rw [numsOf_len, eb]; unfold room; omega) (by rw [numsOf_len, maxLen_eq]; omega)
      have hml := metL_len (numsOf a) (numsOf b)
      rw [numsOf_len, numsOf_len] at hml
      refine SE.span_met.go (met_se (S := fun b => b = b) (hr3.mono fun _ _ => rfl) (hr4.mono fun _ _ => rfl) (by rw [numsOf_len, numsOf_len]; omega) fun t5 w5 x5 own5 => ⟨_, rfl, ?_⟩)
      have hr5 := own5.read (by rw [eb]; unfold room; omega) (by rw [maxLen_eq]; omega)
      have x05 := x02.trans (x3.trans (x4.trans x5))
      refine SE.span_fit.go (fit_se hr5 ⟨_, _, rfl, h0 _ _ x05 (by decide)⟩ fun hl t6 w6 x6 h6 => ⟨_, _, rfl, hR (by first | rfl | assumption) (by first | rfl | assumption) hl t6 w6 (x05.trans x6) (h6.mono fun b hb => ⟨by have := x05.size; omega, hb.2⟩)⟩)
theorem join_se {s t : Sl} {a b : List Span} {S T : Nat → Prop} {w : World} {R : Sl → Int → World → Prop} (hs : SlR spanE w S s a) (ht : SlR spanE w T t b) (h0 : ∀ e w', Ext w w' → ¬ e = 0 → R Sl.nil e w')
    (hR : spansMay a = true → spansMay b = true → ∀ m : List Rk, m.Perm (numsOf a ++ numsOf b) → rises m → (joinL m).length ≤ 64 → ∀ t w', Ext w w' → SlR spanE w' (fun b => w.heap.size ≤ b ∧ b < w'.heap.size) t (spansOf (joinL m)) → R t 0 w') : SE.span_Join s t w R := by
  unfold SE.span_Join
  have eb : rkE.bytes = 16 := rfl
  refine SE.span_May.go (spanMay_se hs fun w1 x1 => ⟨_, rfl, ?_⟩)
  cases ha : spansMay a with
  | false =>
    refine bound ⟨(fun h => by cases h), fun _ => ⟨fun _ => h0 _ _ x1 (by decide), (fun h => by cases h)⟩⟩
  | true =>
    refine bound ⟨fun _ => SE.span_May.go (spanMay_se (ht.ext x1) fun w2 x2 => ⟨_, rfl, ?_⟩), (fun h => by cases h)⟩
    have x02 := x1.trans x2
    cases hb : spansMay b with
    | false => exact ⟨fun _ => h0 _ _ x02 (by decide), (fun h => by cases h)⟩
    | true =>
      have ka := spansMay_len ha
      have kb := spansMay_len hb
      refine ⟨(fun h => by cases h), fun _ => SE.span_numbers.go (numbers_se (hs.ext x02) fun t3 w3 x3 own3 => ⟨_, rfl, SE.span_numbers.go (numbers_se (ht.ext (x02.trans x3)) fun t4 w4 x4 own4 => ⟨_, rfl, ?_⟩)⟩)⟩
      have hr4 := own4.read (by rw [numsOf_len, eb]; unfold room; omega) (by rw [numsOf_len, maxLen_eq]; omega)
      have x24 := x3.trans x4
      refine (own3.ext x4).appAll apRk x24.size (hr4.mono (S' := fun b => w3.heap.size ≤ b ∧ b < w4.heap.size) fun b hb => ?_) (fun b hb => hb.2) (fun ad ha hb => ?_) (by rw [numsOf_len, numsOf_len, eb]; unfold room; omega) (by rw [numsOf_len, numsOf_len, maxLen_eq]; omega) fun t5 w5 own5 bel5 _ _ => ?_
      · rcases hb with hb | ⟨ad, ha, rfl⟩
        · exact hb.elim
        · have := own4.block ha; exact ⟨this.1, this.2.1⟩
      · have := (own3.block ha).2.1; omega
      have x25 : Ext w2 w5 := x24.trans' bel5
      have hlen : (numsOf a ++ numsOf b).length = a.length + b.length := by rw [List.length_append, numsOf_len, numsOf_len]
      refine SE.span_joined.go (joined_se own5 (fun x hx => ?_) (by rw [hlen]; omega) fun t6 w6 m x6 hp hri own6 => ⟨_, rfl, ?_⟩)
      · rcases List.mem_append.1 hx with h | h
        · exact nums_in a x h
        · exact nums_in b x h
      have hjl : (joinL m).length ≤ 128 := by
        have hm : m.length ≤ 128 := by rw [hp.length_eq, hlen]; omega
        cases m with
        | nil => simp [joinL]
        | cons y r => have := joinGo_len r y; simp only [List.length_cons] at hm; show (joinGo y r).length ≤ 128; omega
      have hr6 := own6.read (by rw [eb]; unfold room; omega) (by rw [maxLen_eq]; omega)
      have x06 := x02.trans (x25.trans x6)
      refine SE.span_fit.go (fit_se hr6 ⟨_, _, rfl, h0 _ _ x06 (by decide)⟩ fun hl t7 w7 x7 h7 => ⟨_, _, rfl, hR (by first | rfl | assumption) (by first | rfl | assumption) m hp hri hl t7 w7 (x06.trans x7) (h7.mono fun b hb => ⟨by have := x06.size; omega, hb.2⟩)⟩)
theorem not_mem_take {α : Type} {l : List α} (h : l.Nodup) {k : Nat} (hk : k < l.length) : l[k] ∉ l.take k := fun hm => by
  obtain ⟨j, hj, e⟩ := List.mem_iff_getElem.1 hm
  rw [List.length_take] at hj
  rw [List.getElem_take] at e
  have := (List.pairwise_iff_getElem.1 h) j k (by omega) hk (by omega)
  exact this e
theorem mem_take_succ {α : Type} [DecidableEq α] {l : List α} {k : Nat} (hk : k < l.length) {x : α} : x ∈ l.take (k + 1) ↔ x ∈ l.take k ∨ x = l[k] := by
  rw [List.take_succ_eq_append_getElem hk, List.mem_append, List.mem_singleton]
set_option maxHeartbeats 4000000 in
theorem catalogRanges_se {sP xr xp so : Sl} {n : ByteArray} {v : Ver} {lp : List Pack} {rng other : List Span} {pins : List Pin} {SA : Nat → Prop} {w : World} {R : Bool → World → Prop} (ht : Tab w) (hA : Old SA w) (hP : SlR packE w SA sP lp) (hr : SlR spanE w SA xr rng) (ho : SlR spanE w SA so other)
    (hR : ∀ w', Ext w w' → R true w') : SE.halyardlaw08_CatalogRanges sP n v.ma v.mi v.pa xr xp so w R := by
  unfold SE.halyardlaw08_CatalogRanges
  refine newS.intro fun a w1 x1 ha hab _ => SE.catalog_New.go (catNew_L fun p r w2 x2 hC h1 h2 => ⟨_, rfl, bound ⟨fun _ => SE.halyardlaw08_known.go (known08_se (ht.ext (x1.trans x2)) fun w3 x3 => ⟨_, rfl, ?_⟩), (fun h => by cases h)⟩⟩)
  refine ⟨(fun h => by cases h), fun _ => puts_se (wb := w1) (ht.ext x1) (hA.ext x1.size) (hP.ext x1) (x2.trans x3) h1 (hC.ext x3) fun S w4 x4 hC4 => ?_⟩
  have x04 := x1.trans x4
  generalize hL : catOf lp = L at *
  have hG := hC4.good
  have ha4 := ha.ext x4
  have nez : ∀ e : Int, ¬ e = 0 → (!(e == 0)) = true := fun e h => by simp [h]
  refine ⟨xr, BoxAt.at1 ha4 (k := 4) (Ext.refl _) rfl, SE.span_Meet.go (meet_se (hr.ext x04) (ho.ext x04) (fun e w5 x5 he => ⟨_, _, rfl, xr, BoxAt.at1 ha4 (k := 4) x5 rfl, ?_⟩) fun hma hmb hml t5 w5 x5 h5 => ⟨_, _, rfl, xr, BoxAt.at1 ha4 (k := 4) x5 rfl, ?_⟩)⟩
  · have x05 := x04.trans x5
    refine SE.span_Join.go (join_se (hr.ext x05) (ho.ext x05) (fun f w6 x6 hf => ⟨_, _, rfl, ?_⟩) fun _ _ m _ _ _ t6 w6 x6 _ => ⟨_, _, rfl, ?_⟩)
    · rw [nez e he]
      exact bound ⟨fun _ => hR _ (x05.trans x6), (fun h => by cases h)⟩
    · rw [nez e he]
      exact bound ⟨fun _ => hR _ (x05.trans x6), (fun h => by cases h)⟩
  have x05 := x04.trans x5
  refine SE.span_Join.go (join_se (hr.ext x05) (ho.ext x05) (fun f w6 x6 hf => ⟨_, _, rfl, ?_⟩) fun _ _ m hp hri hjl t6 w6 x6 h6 => ⟨_, _, rfl, ?_⟩)
  · rw [nez f hf]
    exact bound ⟨fun _ => hR _ (x05.trans x6), (fun h => by cases h)⟩
  have x46 := x5.trans x6
  have x06 := x04.trans x46
  refine bound ⟨(fun h => by cases h), fun _ => ?_⟩
  refine ⟨n, ha4.at0 x46 rfl, xr, BoxAt.at1 ha4 (k := 4) x46 rfl, SE.catalog_Catalog_Candidates.go (catCands_se (S1 := SA) (S2 := SA) (hC4.ext x46) (hA.ext x06.size) (hA.ext x06.size) (hr.ext x06) (SlR.nil trivial) fun t7 w7 x7 hF7 => ⟨_, rfl, ?_⟩)⟩
  have x47 := x46.trans x7
  have x07 := x06.trans x7
  refine ⟨n, ha4.at0 x47 rfl, SE.catalog_Catalog_Candidates.go (catCands_se (S1 := SA) (S2 := SA) (hC4.ext x47) (hA.ext x07.size) (hA.ext x07.size) (ho.ext x07) (SlR.nil trivial) fun t8 w8 x8 hF8 => ⟨_, rfl, ?_⟩)⟩
  have x48 := x47.trans x8
  have x08 := x07.trans x8
  refine ⟨n, ha4.at0 x48 rfl, SE.catalog_Catalog_Candidates.go (catCands_se (S1 := fun b => w4.heap.size ≤ b ∧ b < w5.heap.size) (S2 := SA) (hC4.ext x48) (fun b hb => by have := (x6.trans (x7.trans x8)).size; omega) (hA.ext x08.size) (h5.ext (x6.trans (x7.trans x8))) (SlR.nil trivial) fun t9 w9 x9 hF9 => ⟨_, rfl, ?_⟩)⟩
  have x49 := x48.trans x9
  have x09 := x08.trans x9
  refine ⟨n, ha4.at0 x49 rfl, SE.catalog_Catalog_Candidates.go (catCands_se (S1 := fun b => w5.heap.size ≤ b ∧ b < w6.heap.size) (S2 := SA) (hC4.ext x49) (fun b hb => by have := (x7.trans (x8.trans x9)).size; omega) (hA.ext x09.size) (h6.ext (x7.trans (x8.trans x9))) (SlR.nil trivial) fun t10 w10 x10 hF10 => ⟨_, rfl, ?_⟩)⟩
  have x010 := x09.trans x10
  have vnd := versOf_nodup hG.ord n
  have vle := versOf_le (L := L) n
  have hGl := hG.le
  have eM : (versOf n L).filter (spansIn (spansOf (metL (numsOf rng) (numsOf other)))) = ((versOf n L).filter (spansIn rng)).filter fun u => decide (u ∈ (versOf n L).filter (spansIn other)) := by
    rw [← both_eq]
    exact filter_eq_of fun u _ => met_in hma hmb hml u
  have eJ : ((versOf n L).filter (spansIn (spansOf (joinL m)))).length + ((versOf n L).filter (spansIn (spansOf (metL (numsOf rng) (numsOf other))))).length = ((versOf n L).filter (spansIn rng)).length + ((versOf n L).filter (spansIn other)).length := by
    rw [← count_or (spansIn rng) (spansIn other)]
    rw [filter_eq_of fun u _ => join_in hma hmb hp hri hjl u, filter_eq_of fun u _ => met_in hma hmb hml u]
  have lA : ((versOf n L).filter (spansIn rng)).length ≤ 128 := Nat.le_trans (List.length_filter_le _ _) (by omega)
  have lB : ((versOf n L).filter (spansIn other)).length ≤ 128 := Nat.le_trans (List.length_filter_le _ _) (by omega)
  have bnd' : ((versOf n L).filter (spansIn other)).Nodup := vnd.filter _
  rw [cands_nil] at hF7 hF8 hF9 hF10
  generalize hVm : (versOf n L).filter (spansIn (spansOf (metL (numsOf rng) (numsOf other)))) = M at *
  generalize hVj : (versOf n L).filter (spansIn (spansOf (joinL m))) = Jn at *
  generalize hVa : (versOf n L).filter (spansIn rng) = A at *
  generalize hVb : (versOf n L).filter (spansIn other) = B at *
  have hA7 := (hF7.ext (x8.trans (x9.trans x10))).vers
  have hB8 := (hF8.ext (x9.trans x10)).vers
  have hM9 := (hF9.ext x10).vers
  have lenA := hA7.len; have lenB := hB8.len; have lenM := hM9.len; have lenJ := hF10.vers.len
  have lMA : M.length ≤ A.length := by rw [eM]; exact List.length_filter_le _ _
  refine loop2.up (N := A.length) (by rw [maxLen_eq]; omega) (fun both i w' => Ext w10 w' ∧ both = ((((A.take i).filter fun u => decide (u ∈ B)).length : Nat) : Int)) ⟨Ext.refl _, rfl⟩ fun both i w11 nxt hi ⟨x11, hbo⟩ hn => ⟨fun hlt => ?_, fun hge => ?_⟩
  · have hia : i < A.length := by omega
    obtain ⟨adA, hAa, _, _, hAc⟩ := verEl hA7 hia
    have hsucc := filter_take_succ (p := fun u => decide (u ∈ B)) hia
    have htl : ((A.take i).filter fun u => decide (u ∈ B)).length ≤ i := Nat.le_trans (List.length_filter_le _ _) (by rw [List.length_take]; omega)
    refine loop2.up (N := B.length) (by rw [maxLen_eq]; omega) (fun both k w' => Ext w10 w' ∧ both = ((((A.take i).filter fun u => decide (u ∈ B)).length + (if A[i] ∈ B.take k then 1 else 0) : Nat) : Int)) ⟨x11, by rw [List.take_zero]; simpa using hbo⟩ fun both2 k w12 nxt2 hk ⟨x12, hbo2⟩ hn2 => ⟨fun hklt => ?_, fun hkge => ?_⟩
    · have hkb : k < B.length := by omega
      obtain ⟨adB, hBa, _, _, hBc⟩ := verEl hB8 hkb
      refine join.named fun J hJ => bnd.drew fun w13 x13 => ?_
      have x1013 := x12.trans x13
      refine ⟨adA, ⟨hAa, by omega, hlt⟩, _, _, _, hAc _ x1013, adB, ⟨hBa, by omega, hklt⟩, _, _, _, hBc _ x1013, ?_⟩
      rw [verEqB]
      refine ⟨fun he => ?_, fun he => ?_⟩
      · rw [decide_eq_true_eq] at he
        have hnt : A[i] ∉ B.take k := by rw [he]; exact not_mem_take bnd' hkb
        rw [if_neg hnt, Nat.add_zero] at hbo2
        have hin : decide (A[i] ∈ B) = true := by rw [decide_eq_true_eq, he]; exact List.getElem_mem hkb
        have hat := filter_at (p := fun u => decide (u ∈ B)) hia hin
        rw [← eM] at hat
        have hbl := (List.getElem?_eq_some_iff.1 hat).1
        have hbe := (List.getElem?_eq_some_iff.1 hat).2
        obtain ⟨adM, hMa, _, _, hMc⟩ := verEl hM9 hbl
        refine bnd.drew fun w14 x14 => ?_
        have x1014 := x1013.trans x14
        rw [hbo2]
        have eb0 : decide ((t9.len : Int) ≤ (((List.filter (fun u => decide (u ∈ B)) (List.take i A)).length : Nat) : Int)) = false := by rw [decide_eq_false_iff_not]; omega
        rw [eb0]
        refine bound ⟨adM, fun _ => ⟨hMa, by omega, by omega⟩, _, _, _, fun _ => hMc _ x1014, adA, fun _ => ⟨hAa, by omega, hlt⟩, _, _, _, fun _ => hAc _ x1014, ?_⟩
        rw [verEqB, hbe]
        refine ⟨fun h => by simp at h, fun _ => ?_⟩
        have ew : wrapI ((((List.filter (fun u => decide (u ∈ B)) (List.take i A)).length : Nat) : Int) + 1) = (((List.filter (fun u => decide (u ∈ B)) (List.take i A)).length : Nat) : Int) + 1 := wrapI_eq (by omega) (by omega)
        rw [ew]
        subst hJ
        refine hn2 hkb _ _ ⟨x1014, ?_⟩
        rw [if_pos ((mem_take_succ hkb).2 (.inr he))]
        omega
      · rw [decide_eq_false_iff_not] at he
        subst hJ
        refine hn2 hkb _ _ ⟨x1013, ?_⟩
        rw [hbo2]
        by_cases h : A[i] ∈ B.take k
        · rw [if_pos h, if_pos ((mem_take_succ hkb).2 (.inl h))]
        · rw [if_neg h, if_neg (fun h' => ((mem_take_succ hkb).1 h').elim h he)]
    · have hkk : k = B.length := by omega
      rw [hkk, List.take_length] at hbo2
      refine hn hia _ _ ⟨x12, ?_⟩
      rw [hbo2, hsucc]
      by_cases h : A[i] ∈ B
      · rw [if_pos h, if_pos (by simpa using h)]
      · rw [if_neg h, if_neg (by simpa using h)]
  · have hii : i = A.length := by omega
    rw [hii, List.take_length, ← eM] at hbo
    have e1 : (both == (t9.len : Int)) = true := by rw [hbo, lenM]; simp
    have e2 : ((t10.len : Int) == wrapI (wrapI ((t7.len : Int) + (t8.len : Int)) - both)) = true := by
      rw [wrapI_eq (x := (t7.len : Int) + (t8.len : Int)) (by omega) (by omega), wrapI_eq (by omega) (by omega), beq_iff_eq]
      omega
    rw [e1]
    refine bound ?_
    rw [e2]
    exact hR _ (x010.trans x11)
end Go.Hal
namespace Go.Hal
open Go Go.RowKit
structure AskQ where
  name : ByteArray
  v : Ver
  range : List Span
  pins : List Pin
def askE : Enc AskQ where
  n := 6
  bytes := 88
  rep := fun w S x cs => Str x.name ∧ ∃ r p, cs = [.string x.name, .int .i64 x.v.ma, .int .i64 x.v.mi, .int .i64 x.v.pa, r.v, p.v] ∧ SlR spanE w S r x.range ∧ SlR pinE w S p x.pins
  len := fun ⟨_, _, _, h, _⟩ => by rw [h]; rfl
  one := fun ⟨_, _, _, h, _⟩ v hv => by rw [h] at hv; simp [Sl.v] at hv; rcases hv with rfl | rfl | rfl | rfl | rfl | rfl <;> rfl
  keep := fun ⟨h0, r, p, h1, h2, h3⟩ hk => ⟨h0, r, p, h1, h2.keep hk, h3.keep hk⟩
  mono := fun ⟨h0, r, p, h1, h2, h3⟩ hk => ⟨h0, r, p, h1, h2.mono hk, h3.mono hk⟩
end Go.Hal
namespace Go.Hal
open Go Go.RowKit Go.ChangeShapes Go.WideShapes Go.ChangeAt Go.Proofs
theorem rdAsk {H : Type} {W : World} : Rd H Tryz.prog W askE 55 := by
  intro enc n cs x h hw
  have hl := rd_len Tryz.underlying55 h
  have hc : Tryz.prog.cellsOf 55 = 6 := by kernel_rfl
  rw [hc] at hl
  obtain ⟨y0, m0, h0, w0⟩ := rd_field Tryz.underlying55 h hw 0 9 0 1 ⟨_, rfl, rfl, rfl⟩ ceS
  obtain ⟨y1, m1, h1, w1⟩ := rd_field Tryz.underlying55 h hw 1 30 1 3 ⟨_, rfl, rfl, rfl⟩ ceV
  obtain ⟨y2, m2, h2, w2⟩ := rd_field Tryz.underlying55 h hw 2 53 4 1 ⟨_, rfl, rfl, rfl⟩ ceLs
  obtain ⟨y3, m3, h3, w3⟩ := rd_field Tryz.underlying55 h hw 3 28 5 1 ⟨_, rfl, rfl, rfl⟩ ceLp
  obtain ⟨s, e0, hs⟩ := rdStr h0
  obtain ⟨v, e1⟩ := rdVer h1 w1
  obtain ⟨r, lr, e2, hr, _⟩ := rdSpans enc m2 _ _ h2 w2
  obtain ⟨p, lp, e3, hp, _⟩ := rdPins enc m3 _ _ h3 w3
  match cs, hl with
  | [c0, c1, c2, c3, c4, c5], _ =>
    simp [Ver.c] at e0 e1 e2 e3
    exact ⟨⟨s, v, lr, lp⟩, hs, r, p, by rw [e0, e1.1, e1.2.1, e1.2.2, e2, e3], hr, hp⟩
end Go.Hal
