/- Lemmas for the claim K11f: how the program's functions run, and what they answer; no condition but those that each theorem names. -/
import Derived.MapKept
import Derived.Test.YtpdjadmnnadkfaaGreatDoorProg
import Derived.WideKeyRuns
import Derived.Shelf.SlSortCmp.NoneTotal
import Derived.Ground.SlsfProg
import Derived.Laws.CopyRow
import Derived.Test.YtpdjadmnnadkfaaGreatDoorK11fB0
set_option linter.unusedVariables false
set_option linter.unusedSimpArgs false
namespace Go.Hal
open Go Go.RowKit Go.Proofs Go.Shelf
theorem r05less_se {a b : ByteArray} {w : World} {R : Bool → World → Prop} (ha : Str a) (hR : ∀ w', Ext w w' → R (bLt a b) w') : SE.halyardref05_Less a b w R := by
  unfold SE.halyardref05_Less
  exact SE.halyardref05_less.go (less_se _ _ _ _ ha fun w' hx => ⟨_, rfl, hR _ hx⟩)
theorem prev_idx {i n : Nat} (h0 : 0 < i) (hi : i ≤ n) (hn : n ≤ maxLen) : wrapI ((i : Int) - 1) = ((i - 1 : Nat) : Int) := by
  rw [wrapI_eq (by omega) (by rw [maxLen_eq] at hn; omega)]; omega
theorem r05List_se {s : Sl} {l : List Dep} {S : Nat → Prop} {w : World} {R : Bool → World → Prop} (hs : SlR depE w S s l) (hR : ∀ w', Ext w w' → R (depsMay l) w') : SE.halyardref05_List s w R := by
  unfold SE.halyardref05_List
  have hl := hs.len
  refine loop1.up hs.max (fun i w' => Ext w w' ∧ depsGo none (l.take i) = true) ⟨Ext.refl _, rfl⟩ fun i w1 nxt hi ⟨x1, hI⟩ hn => ⟨fun hlt => bnd.drew fun w2 x2 => ?_, fun hge => ?_⟩
  · have hlt' : i < l.length := by omega
    obtain ⟨ad, t, ha, _, hnm, hr, hc⟩ := depEl hs hlt'
    have hst := deps_step hlt' hI
    have had : s.a = some ad ∧ (0 : Int) ≤ (i : Int) ∧ (i : Int) < (s.len : Int) := ⟨ha, by omega, hlt⟩
    refine ⟨ad, had, _, (hc _ (by (repeat (first | assumption | exact Ext.refl _ | refine Ext.trans ?_ (by assumption))))).pre rfl, SE.halyardref04_Name.go (r04Name_se hnm fun w3 x3 => ⟨_, rfl, bound ?_⟩)⟩
    refine ⟨ad, fun _ => had, t, fun _ => (hc _ (by (repeat (first | assumption | exact Ext.refl _ | refine Ext.trans ?_ (by assumption))))).mid rfl, gCall.intro (spansMay l[i].range) (fun _ q hq => SE.halyardref03_May.go (r03May_se (hr.ext (by (repeat (first | assumption | exact Ext.refl _ | refine Ext.trans ?_ (by assumption))))) fun w' hx => ⟨_, rfl, hq _ hx⟩)) fun t2 w4 x4 ht2 => bound ?_⟩
    refine ⟨ad, fun _ => had, t, fun _ => (hc _ (by (repeat (first | assumption | exact Ext.refl _ | refine Ext.trans ?_ (by assumption))))).mid rfl, bound (bound ?_)⟩
    have hlast : ∀ h0 : 0 < i, lastN none (l.take i) = some (l[i - 1]'(by omega)).name := fun h0 => by
      have := lastN_take (l := l) (n := i - 1) (by omega)
      rw [← this]; congr 2; omega
    have hd : ∃ (ad15 : Addr) (u : ByteArray), (decide ((0 : Int) < (i : Int)) = true → (s.a = some ad15 ∧ (0 : Int) ≤ wrapI ((i : Int) - 1) ∧ wrapI ((i : Int) - 1) < (s.len : Int)) ∧ ldc w4 (ad15.add ((wrapI ((i : Int) - 1)).toNat * 2)) [.string u] ∧ lastN none (l.take i) = some u ∧ Str u) := by
      by_cases h0 : 0 < i
      · have ew := prev_idx h0 hi hs.max
        obtain ⟨ad', t', ha', _, hn', _, hc'⟩ := depEl hs (n := i - 1) (by omega)
        exact ⟨ad', _, fun _ => ⟨by rw [ew]; exact ⟨ha', by omega, by omega⟩, by rw [ew]; exact (hc' _ (by (repeat (first | assumption | exact Ext.refl _ | refine Ext.trans ?_ (by assumption))))).pre rfl, hlast h0, hn'⟩⟩
      · exact ⟨ad, ⟨#[]⟩, fun h => by simp at h; omega⟩
    obtain ⟨ad15, u, hu⟩ := hd
    have hg : ∀ {b : Bool}, (!b && decide ((0 : Int) < (i : Int))) = true → decide ((0 : Int) < (i : Int)) = true := fun h => by simp only [Bool.and_eq_true] at h; exact h.2
    refine ⟨ad15, fun hb => (hu (hg hb)).1, u, fun hb => (hu (hg hb)).2.1, ad, fun _ => had, _, fun _ => (hc _ (by (repeat (first | assumption | exact Ext.refl _ | refine Ext.trans ?_ (by assumption))))).pre rfl, ?_⟩
    refine gCall.intro (bLt u l[i].name) (fun hb q hq => SE.halyardref05_less.go (less_se _ _ _ _ (hu (hg hb)).2.2.2 fun w' hx => ⟨_, rfl, hq _ hx⟩)) fun t3 w5 x5 ht3 => ?_
    have e : ((((!nameMay l[i].name) || (!t2)) || ((t.len : Int) == 0)) || (decide ((0 : Int) < (i : Int)) && (!t3))) = !depsGo none (l.take (i + 1)) := by
      rw [hst, dpOk]
      have e0 : ((t.len : Int) == 0) = l[i].range.isEmpty := by
        rw [hr.len]
        cases l[i].range <;> simp
        omega
      rw [e0] at ht3 ⊢
      cases h1 : nameMay l[i].name
      · simp
      · rw [h1] at ht2 ht3
        rw [ht2 rfl] at ht3 ⊢
        cases h2 : spansMay l[i].range
        · simp
        · rw [h2] at ht3
          cases h3 : l[i].range.isEmpty
          · rw [h3] at ht3
            by_cases h0 : 0 < i
            · have hb : decide ((0 : Int) < (i : Int)) = true := by simpa using h0
              rw [hb] at ht3 ⊢
              rw [ht3 rfl, (hu hb).2.2.1]
              simp [aheadOf]
            · have hb : decide ((0 : Int) < (i : Int)) = false := by simp; omega
              have hi0 : i = 0 := by omega
              subst hi0
              simp [lastN, aheadOf]
          · simp
    rw [e]
    refine ⟨fun h => ?_, fun h => hn hlt' _ ⟨by (repeat (first | assumption | exact Ext.refl _ | refine Ext.trans ?_ (by assumption))), by simpa using h⟩⟩
    rw [← depsMay_false (i := i + 1) (by simpa using h)]; exact hR _ (by (repeat (first | assumption | exact Ext.refl _ | refine Ext.trans ?_ (by assumption))))
  · have : i = l.length := by omega
    rw [this, List.take_length] at hI
    have e : decide ((s.len : Int) ≤ 16) = depsMay l := by
      unfold depsMay
      rw [hI, Bool.true_and, decide_eq_decide]; omega
    rw [e]; exact hR _ (by (repeat (first | assumption | exact Ext.refl _ | refine Ext.trans ?_ (by assumption))))
theorem any_take_succ {α : Type} {p : α → Bool} {l : List α} {n : Nat} (hn : n < l.length) : (l.take (n + 1)).any p = ((l.take n).any p || p l[n]) := by
  rw [List.take_succ_eq_append_getElem hn, List.any_append]; simp
theorem r05Apart_se {s t : Sl} {a b : List Dep} {S : Nat → Prop} {w : World} {R : Bool → World → Prop} (hs : SlR depE w S s a) (ht : SlR depE w S t b) (hR : ∀ w', Ext w w' → R (apart2 a b) w') : SE.halyardref05_Apart s t w R := by
  unfold SE.halyardref05_Apart
  have hl := hs.len
  have hl2 := ht.len
  refine loop1.up hs.max (fun i w' => Ext w w' ∧ (a.take i).any (fun x => b.any fun y => decide (x.name = y.name)) = false) ⟨Ext.refl _, rfl⟩ fun i w1 nxt hi ⟨x1, hI⟩ hn => ⟨fun hlt => ?_, fun hge => ?_⟩
  · have hlt' : i < a.length := by omega
    obtain ⟨ad, _, ha, _, _, _, hc⟩ := depEl hs hlt'
    refine loop1.up ht.max (fun k w' => Ext w w' ∧ (b.take k).any (fun y => decide (a[i].name = y.name)) = false) ⟨x1, rfl⟩ fun k w2 nxt2 hk ⟨x2, hJ⟩ hn2 => ⟨fun hlt2 => bnd.drew fun w3 x3 => ?_, fun hge2 => ?_⟩
    · have hlt2' : k < b.length := by omega
      obtain ⟨ad2, _, ha2, _, _, _, hc2⟩ := depEl ht hlt2'
      refine ⟨ad, ⟨ha, by omega, hlt⟩, _, (hc _ (by (repeat (first | assumption | exact Ext.refl _ | refine Ext.trans ?_ (by assumption))))).pre rfl, ad2, ⟨ha2, by omega, hlt2⟩, _, (hc2 _ (by (repeat (first | assumption | exact Ext.refl _ | refine Ext.trans ?_ (by assumption))))).pre rfl, fun h => ?_, fun h => hn2 hlt2' _ ⟨by (repeat (first | assumption | exact Ext.refl _ | refine Ext.trans ?_ (by assumption))), ?_⟩⟩
      · have : apart2 a b = false := by
          unfold apart2
          have : (a.any fun x => b.any fun y => decide (x.name = y.name)) = true := List.any_eq_true.2 ⟨_, List.getElem_mem hlt', List.any_eq_true.2 ⟨_, List.getElem_mem hlt2', by simpa using h⟩⟩
          rw [this]; rfl
        rw [← this]; exact hR _ (by (repeat (first | assumption | exact Ext.refl _ | refine Ext.trans ?_ (by assumption))))
      · rw [any_take_succ hlt2', hJ]; simpa using h
    · have : k = b.length := by omega
      rw [this, List.take_length] at hJ
      exact hn hlt' _ ⟨x2, by rw [any_take_succ hlt', hI, hJ]; rfl⟩
  · have : i = a.length := by omega
    rw [this, List.take_length] at hI
    have e : apart2 a b = true := by unfold apart2; rw [hI]; rfl
    rw [← e]; exact hR _ (by (repeat (first | assumption | exact Ext.refl _ | refine Ext.trans ?_ (by assumption))))
theorem r05Lines_se {wd : List UInt8} {s : Sl} {l : List Dep} {S : Nat → Prop} {w : World} {R : ByteArray → World → Prop} (hw : wd.length ≤ 8) (hm : depsMay l = true) (hs : SlR depE w S s l) (hR : ∀ w', Ext w w' → R (B (depLines wd l)) w') : SE.halyardref05_Lines (B wd) s w R := by
  unfold SE.halyardref05_Lines
  have hl := hs.len
  obtain ⟨h16, hok⟩ := depsMay_names hm
  refine loop2.up hs.max (fun out i w' => Ext w w' ∧ out = B (depLines wd (l.take i))) ⟨Ext.refl _, rfl⟩ fun out i w1 nxt hi ⟨x1, hI⟩ hn => ⟨fun hlt => bnd.drew fun w2 x2 => ?_, fun hge => ?_⟩
  · have hlt' : i < l.length := by omega
    obtain ⟨ad, t, ha, _, hnm, hr, hc⟩ := depEl hs hlt'
    have had : s.a = some ad ∧ (0 : Int) ≤ (i : Int) ∧ (i : Int) < (s.len : Int) := ⟨ha, by omega, hlt⟩
    have hd := hok _ (List.getElem_mem hlt')
    have h1 := depLines_len hw (l := l.take i) fun d hd => (hok d (List.mem_of_mem_take hd)).1
    rw [List.length_take, Nat.min_eq_left (by omega)] at h1
    have h2 := nameMay_len hd.1
    have h3 := rangeText_len l[i].range
    subst hI
    have hs' : (l[i].name).size = (l[i].name).toList.length := (toList_len _).symm
    rw [B_app, app_lit]
    refine ⟨by rw [B_size, B_size, maxI_eq]; omega, by rw [B_size, lit_size, maxI_eq]; simp; omega, ad, had, _, (hc _ (by (repeat (first | assumption | exact Ext.refl _ | refine Ext.trans ?_ (by assumption))))).pre rfl, ?_⟩
    rw [ba_B l[i].name, B_app, app_lit]
    refine ⟨by rw [B_size, B_size, maxI_eq]; simp; omega, by rw [B_size, lit_size, maxI_eq]; simp; omega, ad, had, t, (hc _ (by (repeat (first | assumption | exact Ext.refl _ | refine Ext.trans ?_ (by assumption))))).mid rfl, callX.intro (SE.halyardref03_Print.go (r03Print_se (hr.ext (by (repeat (first | assumption | exact Ext.refl _ | refine Ext.trans ?_ (by assumption))))) fun w3 x3 => ⟨x3, _, rfl, ?_⟩))⟩
    rw [B_app, app_lit]
    refine ⟨by rw [B_size, B_size, maxI_eq]; simp; omega, by rw [B_size, lit_size, maxI_eq]; simp; omega, hn hlt' _ _ ⟨by (repeat (first | assumption | exact Ext.refl _ | refine Ext.trans ?_ (by assumption))), ?_⟩⟩
    rw [List.take_succ_eq_append_getElem hlt', depLines_snoc, depLine]
    congr 1
    simp
  · have : i = l.length := by omega
    rw [this, List.take_length] at hI
    rw [hI]; exact hR _ (by (repeat (first | assumption | exact Ext.refl _ | refine Ext.trans ?_ (by assumption))))
theorem headText_len {n : ByteArray} (h : nameMay n = true) (v : Ver) : (headText n v).length ≤ 40 := by
  have := nameMay_len h; have := verText_len v
  simp only [headText, List.length_append, List.length_cons, List.length_nil]; omega
end Go.Hal
namespace Go.Hal
open Go Go.RowKit Go.Proofs Go.Shelf
end Go.Hal
namespace Go.Hal
open Go Go.RowKit Go.MapKept
structure KeyT (P : Program) (mt : TypeId) (K : Value → Prop) (zero : Value) : Prop where
  und : ∃ kt et, P.underlying mt = some (.map kt et) ∧ (∀ w, (zeroValue et).run P w = .ok zero w) ∧
    (∀ k, K k → ∀ e w, (Instr.checkKey e 10000 kt k).run P w = .ok () w) ∧
    (∀ k, K k → ∀ l : List MapEntry, (∀ x ∈ l, K x.key) → ∀ w, ((∀ x ∈ l, x.key ≠ k) ∧ (Instr.findKey kt k l).run P w = .ok none w) ∨ ∃ (j : Nat) (e : MapEntry), l[j]? = some e ∧ e.key = k ∧ (Instr.findKey kt k l).run P w = .ok (some (j, e.val)) w)
  stay : ∀ k, K k → Instr.sameBits 10000 k k = true
def MapR (K : Value → Prop) (w : World) (r : Nat) (m : List (Value × Value)) : Prop :=
  ∃ es clock, w.heap[r]? = some (.map es clock) ∧ Stamped es clock ∧ es.toList.map (fun e => (e.key, e.val)) = m ∧ ∀ x ∈ es.toList, K x.key
section
variable {P : Program} {mt : TypeId} {K : Value → Prop} {zero : Value} {w w' : World} {r : Nat} {m : List (Value × Value)}
theorem MapR.lt (h : MapR K w r m) : r < w.heap.size := by
  obtain ⟨es, clock, hb, _⟩ := h
  exact (Array.getElem?_eq_some_iff.1 hb).1
theorem MapR.of (h : MapR K w r m) (he : w'.heap[r]? = w.heap[r]?) : MapR K w' r m := by
  obtain ⟨es, clock, hb, h2⟩ := h
  exact ⟨es, clock, he.trans hb, h2⟩
theorem MapR.ext (h : MapR K w r m) (hx : Ext w w') : MapR K w' r m := h.of (hx.block h.lt)
theorem MapR.keys (h : MapR K w r m) : (m.map (·.1)).Nodup ∧ ∀ p ∈ m, K p.1 := by
  obtain ⟨es, clock, _, hs, rfl, hk⟩ := h
  refine ⟨?_, fun p hp => ?_⟩
  · rw [List.map_map]; exact hs.2.2
  · obtain ⟨e, he, rfl⟩ := List.mem_map.1 hp
    exact hk e he
theorem makeMap_intro {k : Value → World → Prop} (h : ∀ r w', Ext w w' → r = w.heap.size → MapR K w' r [] → k (.map (some r)) w') : semS P (Instr.makeMap mt none) w k :=
  ⟨_, _, rfl, h _ _ (Ext.alloc _ _) rfl ⟨#[], 0, heap_alloc_new w _, stamped_empty 0, rfl, by simp⟩⟩
theorem lookup_run (T : KeyT P mt K zero) (h : MapR K w r m) {k : Value} (hk : K k) :
    ((∀ p ∈ m, p.1 ≠ k) ∧ ∀ ok, (Instr.lookup mt (.map (some r)) k ok).run P w = .ok (if ok then .tuple #[zero, .bool false] else zero) w) ∨
    ∃ v, (k, v) ∈ m ∧ ∀ ok, (Instr.lookup mt (.map (some r)) k ok).run P w = .ok (if ok then .tuple #[v, .bool true] else v) w := by
  obtain ⟨kt, et, hu, hz, hc, hf⟩ := T.und
  obtain ⟨es, clock, hb, hs, rfl, hks⟩ := h
  rcases hf k hk es.toList hks w with ⟨hn, hr⟩ | ⟨j, e, hj, he, hr⟩
  · refine .inl ⟨fun p hp => ?_, fun ok => ?_⟩
    · obtain ⟨e, he, rfl⟩ := List.mem_map.1 hp
      exact hn e he
    · cases ok <;> simp [Instr.lookup, Sem.run_bind, run_underlying hu, Result.andThen, Go.MapKept.run_getObj_map hb, hc k hk, hr, hz]
  · refine .inr ⟨e.val, List.mem_map.2 ⟨e, List.mem_of_getElem? hj, by rw [he]⟩, fun ok => ?_⟩
    cases ok <;> simp [Instr.lookup, Sem.run_bind, run_underlying hu, Result.andThen, Go.MapKept.run_getObj_map hb, hc k hk, hr]
theorem update_new (T : KeyT P mt K zero) (h : MapR K w r m) {k v : Value} (hk : K k) (hn : ∀ p ∈ m, p.1 ≠ k) {c : World → Prop} (hc' : ∀ w', But r w w' → w'.heap.size = w.heap.size → MapR K w' r (m ++ [(k, v)]) → c w') : semU P (Instr.mapUpdate mt (.map (some r)) k v) w c := by
  obtain ⟨kt, et, hu, hz, hc, hf⟩ := T.und
  obtain ⟨es, clock, hb, hs, rfl, hks⟩ := h
  have hne : ∀ x ∈ es.toList, x.key ≠ k := fun x hx => hn _ (List.mem_map.2 ⟨x, hx, rfl⟩)
  rcases hf k hk es.toList hks w with ⟨_, hr⟩ | ⟨j, e, hj, he, hr⟩
  · refine ⟨{ w with heap := w.heap.setIfInBounds r (.map (es.push { key := k, val := v, born := clock }) (clock + 1)) }, ?_, hc' _ ⟨?_, rfl, rfl, rfl, ?_⟩ ?_ ?_⟩
    · simp [Instr.mapUpdate, Sem.run_bind, run_underlying hu, Result.andThen, Go.MapKept.run_getObj_map hb, hc k hk, hr, run_setObj_map _ hb]
    · simp
    · intro b hbl hne'
      exact (heap_set hb).2 b hne'
    · simp
    · exact ⟨_, _, (heap_set hb).1, stamped_push hs hne, by simp, fun x hx => by
        simp only [Array.toList_push, List.mem_append, List.mem_singleton] at hx
        rcases hx with hx | rfl
        · exact hks x hx
        · exact hk⟩
  · exact absurd he (hne e (List.mem_of_getElem? hj))
theorem update_old (T : KeyT P mt K zero) (h : MapR K w r m) {k v u : Value} (hk : K k) (hm : (k, u) ∈ m) {c : World → Prop} (hc' : ∀ w' m', But r w w' → w'.heap.size = w.heap.size → MapR K w' r m' → (k, v) ∈ m' → m'.map (·.1) = m.map (·.1) → c w') : semU P (Instr.mapUpdate mt (.map (some r)) k v) w c := by
  obtain ⟨kt, et, hu, hz, hc, hf⟩ := T.und
  obtain ⟨es, clock, hb, hs, rfl, hks⟩ := h
  rcases hf k hk es.toList hks w with ⟨hn, _⟩ | ⟨j, e, hj, he, hr⟩
  · obtain ⟨e, he, h1⟩ := List.mem_map.1 hm
    exact absurd (congrArg Prod.fst h1) (hn e he)
  · have hje : es[j]? = some e := by simpa using hj
    have hsame : ∀ e', es[j]? = some e' → e'.key = k := fun e' h => by rw [hje] at h; cases h; exact he
    have hst : (Instr.keyThatStays (((es[j]?).map (·.key)).getD k) k).run P w = .ok k w := by
      rw [hje]
      simp only [Option.map_some, Option.getD_some, he]
      simp [Instr.keyThatStays, T.stay k hk]
    refine ⟨{ w with heap := w.heap.setIfInBounds r (.map (es.modify j fun e => { e with key := k, val := v }) clock) }, ?_, hc' _ ((es.modify j fun e => { e with key := k, val := v }).toList.map fun e => (e.key, e.val)) ⟨?_, rfl, rfl, rfl, ?_⟩ ?_ ?_ ?_ ?_⟩
    · simp only [Instr.mapUpdate, Sem.run_bind, run_underlying hu, Result.andThen, Go.MapKept.run_getObj_map hb, hc k hk, hr]
      rw [hst]
      simp [run_setObj_map _ hb]
    · simp
    · intro b hbl hne'
      exact (heap_set hb).2 b hne'
    · simp
    · refine ⟨_, _, (heap_set hb).1, stamped_modify hs j _ (fun _ _ => rfl) (fun e' _ h => (hsame e' h).symm), rfl, fun x hx => ?_⟩
      have hkeys := modify_keys (es := es) j (fun e => { e with key := k, val := v }) (fun e' h => (hsame e' h).symm)
      have : x.key ∈ (es.modify j fun e => { e with key := k, val := v }).toList.map (·.key) := List.mem_map.2 ⟨x, hx, rfl⟩
      rw [hkeys] at this
      obtain ⟨y, hy, hxy⟩ := List.mem_map.1 this
      rw [← hxy]; exact hks y hy
    · have hjl : j < es.size := (Array.getElem?_eq_some_iff.1 hje).1
      refine List.mem_map.2 ⟨{ e with key := k, val := v }, ?_, rfl⟩
      refine List.mem_of_getElem? (i := j) ?_
      simp [Array.getElem?_modify, hje]
    · rw [List.map_map, List.map_map]
      exact modify_keys (es := es) j (fun e => { e with key := k, val := v }) (fun e' h => (hsame e' h).symm)
theorem len_run {kt et : TypeId} (hu : P.underlying mt = some (.map kt et)) (h : MapR K w r m) : (Builtin.len_ #[mt] 3 #[.map (some r)]).run P w = .ok (.int .i64 m.length) w := by
  obtain ⟨es, clock, hb, hs, rfl, hks⟩ := h
  simp [Builtin.len_, Sem.run_bind, run_underlying hu, Result.andThen, Go.MapKept.run_getObj_map hb, goInt]
def IterR (w : World) (it r : Nat) (left : List (Value × Value)) (last : Option (Value × Value)) : Prop :=
  ∃ es clock seen, w.heap[r]? = some (.map es clock) ∧ Stamped es clock ∧ w.heap[it]? = some (.mapIter (some r) clock seen clock) ∧
    (es.toList.filter fun e => !seen.contains e.born).map (fun e => (e.key, e.val)) = left ∧
    (∀ p, last = some p → ∃ st, seen.back? = some st ∧ ∃ e, es.find? (·.born == st) = some e ∧ (e.key, e.val) = p)
theorem IterR.of {it : Nat} {left : List (Value × Value)} {last : Option (Value × Value)} (h : IterR w it r left last) (h1 : w'.heap[r]? = w.heap[r]?) (h2 : w'.heap[it]? = w.heap[it]?) : IterR w' it r left last := by
  obtain ⟨es, clock, seen, a, b, c, d⟩ := h
  exact ⟨es, clock, seen, h1.trans a, b, h2.trans c, d⟩
theorem IterR.lt {it : Nat} {left : List (Value × Value)} {last : Option (Value × Value)} (h : IterR w it r left last) : r < w.heap.size ∧ it < w.heap.size := by
  obtain ⟨es, clock, seen, a, b, c, d⟩ := h
  exact ⟨(Array.getElem?_eq_some_iff.1 a).1, (Array.getElem?_eq_some_iff.1 c).1⟩
theorem IterR.ext {it : Nat} {left : List (Value × Value)} {last : Option (Value × Value)} (h : IterR w it r left last) (hx : Ext w w') : IterR w' it r left last := h.of (hx.block h.lt.1) (hx.block h.lt.2)
theorem range_intro {kt et : TypeId} (hu : P.underlying mt = some (.map kt et)) (h : MapR K w r m) {k : Value → World → Prop} (hk : ∀ it w', Ext w w' → it = w.heap.size → IterR w' it r m none → k (.pointer (some ⟨it, 0, none⟩)) w') : semS P (Instr.range mt (.map (some r))) w k := by
  obtain ⟨es, clock, hb, hs, rfl, hks⟩ := h
  refine ⟨_, w.alloc (.mapIter (some r) clock #[] clock), ?_, hk _ _ (Ext.alloc _ _) rfl ⟨es, clock, #[], ?_, hs, heap_alloc_new w _, ?_, fun p h => by cases h⟩⟩
  · simp [Instr.range, Sem.run_bind, run_underlying hu, Result.andThen, Go.MapKept.run_getObj_map hb]
  · rw [(heap_alloc w _).2 r (Array.getElem?_eq_some_iff.1 hb).1]; exact hb
  · congr 1
    apply List.filter_eq_self.2
    intro x hx; simp
theorem entry_run {it : Nat} {left : List (Value × Value)} {p : Value × Value} (h : IterR w it r left (some p)) : (Instr.entry (.pointer (some ⟨it, 0, none⟩))).run P w = .ok (.tuple #[p.1, p.2]) w := by
  obtain ⟨es, clock, seen, hb, hs, hi, hl, hp⟩ := h
  obtain ⟨st, h1, e, h2, rfl⟩ := hp p rfl
  have hi' : (getObj it).run P w = .ok (.mapIter (some r) clock seen clock) w := by simp [getObj, Sem.run, hi]
  simp [Instr.entry, Sem.run_bind, Result.andThen, hi', h1, Go.MapKept.run_getObj_map hb, h2]
theorem filter_one {α β : Type} [BEq β] [LawfulBEq β] (f : α → β) {l : List α} (hn : (l.map f).Nodup) {i : Nat} (hi : i < l.length) : (l.filter fun e => f e != f l[i]) = l.take i ++ l.drop (i + 1) := by
  have hsp : l = l.take i ++ l[i] :: l.drop (i + 1) := by rw [← List.drop_eq_getElem_cons hi, List.take_append_drop]
  have hn' := hn
  rw [hsp, List.map_append, List.map_cons, List.nodup_append] at hn'
  obtain ⟨h1, h2, h3⟩ := hn'
  rw [List.nodup_cons] at h2
  generalize l[i] = x at *
  conv => lhs; rw [hsp]
  rw [List.filter_append, List.filter_cons, if_neg (by simp)]
  congr 1
  · apply List.filter_eq_self.2
    intro y hy
    have := h3 (f y) (List.mem_map_of_mem hy) (f x) (by simp)
    simpa using this
  · apply List.filter_eq_self.2
    intro y hy
    have : f y ≠ f x := fun e => h2.1 (e ▸ List.mem_map_of_mem hy)
    simpa using this
theorem inj_of_nodup {α β : Type} (f : α → β) {l : List α} (hn : (l.map f).Nodup) {x y : α} (hx : x ∈ l) (hy : y ∈ l) (h : f x = f y) : x = y := by
  induction l with
  | nil => cases hx
  | cons a r ih =>
    rw [List.map_cons, List.nodup_cons] at hn
    rcases List.mem_cons.1 hx with hx1 | hx1 <;> rcases List.mem_cons.1 hy with hy1 | hy1
    · rw [hx1, hy1]
    · subst hx1; exact absurd (h ▸ List.mem_map_of_mem hy1) hn.1
    · subst hy1; exact absurd (h ▸ List.mem_map_of_mem hx1) hn.1
    · exact ih hn.2 hx1 hy1
theorem cut_lt (n t : Nat) (h : 0 < n) : (Question.mapNext n).cut t < n := Nat.mod_lt _ h
theorem next_intro {it : Nat} {left : List (Value × Value)} {last : Option (Value × Value)} (h : IterR w it r left last) {k : Value → World → Prop}
    (h0 : left = [] → k (.tuple #[.bool false]) w)
    (h1 : ∀ (p : Value × Value) (l1 l2 : List (Value × Value)) w', left = l1 ++ p :: l2 → (∀ b, b < w.heap.size → b ≠ it → w'.heap[b]? = w.heap[b]?) → w'.heap.size = w.heap.size → But it w w' → IterR w' it r (l1 ++ l2) (some p) → k (.tuple #[.bool true, p.1, p.2]) w') :
    semS P (Instr.next (.pointer (some ⟨it, 0, none⟩)) false 0) w k := by
  obtain ⟨es, clock, seen, hb, hs, hi, hl, hp⟩ := h
  have hi' : ∀ w1 : World, w1.heap = w.heap → (getObj it).run P w1 = .ok (.mapIter (some r) clock seen clock) w1 := fun w1 h => by simp [getObj, Sem.run, h, hi]
  have hg : ∀ w1 : World, w1.heap = w.heap → (getObj r).run P w1 = .ok (.map es clock) w1 := fun w1 h => by simp [getObj, Sem.run, h, hb]
  have hcond : (!seen.isEmpty && !es.isEmpty && es.all (fun e => decide (e.born ≥ clock))) = false := by
    cases he : es.isEmpty
    · have hne : es.toList ≠ [] := by
        intro h0
        have : es = #[] := by rw [← Array.toArray_toList (xs := es), h0]
        rw [this] at he; cases he
      obtain ⟨x, t, hx⟩ := List.exists_cons_of_ne_nil hne
      have hxb := hs.1 x (by rw [hx]; simp)
      have : es.all (fun e => decide (e.born ≥ clock)) = false := by
        rw [Bool.eq_false_iff]
        intro hall
        rw [Array.all_eq_true'] at hall
        have := hall x (by rw [← Array.mem_toList_iff, hx]; simp)
        simp at this; omega
      rw [this]; simp
    · simp
  have hmem : ∀ x ∈ es.filter (fun e => !seen.contains e.born), x.born < clock := fun x hx => hs.1 x (by
    rw [Array.mem_filter] at hx
    exact Array.mem_toList_iff.2 hx.1)
  have hold : (es.filter (fun e => !seen.contains e.born)).filter (fun e => decide (e.born < clock)) = es.filter (fun e => !seen.contains e.born) := by
    rw [Array.filter_eq_self]
    intro x hx
    simpa using hmem x hx
  have hnew : (es.filter (fun e => !seen.contains e.born)).filter (fun e => decide (e.born ≥ clock)) = #[] := by
    rw [Array.filter_eq_empty_iff]
    intro x hx
    have := hmem x hx
    simp; omega
  have hL : (es.filter (fun e => !seen.contains e.born)).toList.map (fun e => (e.key, e.val)) = left := by rw [← hl, Array.toList_filter]
  unfold semS
  simp only [Instr.next, Sem.run_bind, Result.andThen, hi' w rfl, hg w rfl, hcond, hold, hnew]
  generalize hLe : es.filter (fun e => !seen.contains e.born) = L at *
  simp only [Bool.false_eq_true, if_false, Array.append_empty]
  by_cases hE : L = #[]
  · have hl0 : left = [] := by rw [← hL, hE]; rfl
    refine ⟨_, _, ?_, h0 hl0⟩
    rw [hE]
    simp [Sem.run_bind, Question.forced, Result.andThen]
  · have hE' : L.isEmpty = false := by simpa using hE
    have hpos : 0 < L.size := by
      rcases Nat.eq_zero_or_pos L.size with h | h
      · exact absurd (Array.eq_empty_of_size_eq_zero h) hE
      · exact h
    rw [hE', if_neg (by simp), Array.empty_append, Array.size_map]
    obtain ⟨i, w1, hr, hlt, hw⟩ : ∃ i w1, (choose (.mapNext L.size)).run P w = .ok i w1 ∧ i < L.size ∧ (w1 = w ∨ w1 = w.drew) := by
      rw [run_choose_drew]
      by_cases hf : (Question.mapNext L.size).forced = true
      · exact ⟨0, w, by rw [if_pos hf], hpos, .inl rfl⟩
      · exact ⟨_, _, by rw [if_neg hf], cut_lt _ _ hpos, .inr rfl⟩
    have hget : (Array.map some L)[i]? = some (some L[i]) := by simp [hlt]
    have hheap : w1.heap = w.heap := by rcases hw with rfl | rfl <;> rfl
    have hset : (setObj it (.mapIter (some r) clock (seen.push L[i].born) clock)).run P w1 = .ok () { w1 with heap := w1.heap.setIfInBounds it (.mapIter (some r) clock (seen.push L[i].born) clock) } := by
      simp [setObj, Sem.run, hheap, hi]
    have hso := heap_set (w := w1) (r := it) (o' := .mapIter (some r) clock (seen.push L[i].born) clock) (by rw [hheap]; exact hi)
    have hbut : ∀ b, b < w.heap.size → b ≠ it → (w1.heap.setIfInBounds it (.mapIter (some r) clock (seen.push L[i].born) clock))[b]? = w.heap[b]? := fun b _ hne => by rw [hso.2 b hne, hheap]
    have hsz : (w1.heap.setIfInBounds it (.mapIter (some r) clock (seen.push L[i].born) clock)).size = w.heap.size := by simp [hheap]
    have hsp : L.toList = L.toList.take i ++ L[i] :: L.toList.drop (i + 1) := by
      have h1 : i < L.toList.length := by simpa using hlt
      have h2 := List.drop_eq_getElem_cons h1
      simp only [Array.getElem_toList] at h2
      rw [← h2, List.take_append_drop]
    have hrne : r ≠ it := by
      rintro rfl
      rw [hb] at hi; cases hi
    have hLs : L.toList = es.toList.filter fun e => !seen.contains e.born := by rw [← hLe, Array.toList_filter]
    have hnod : (L.toList.map (·.born)).Nodup := by rw [hLs]; exact (List.filter_sublist.map _).nodup hs.2.1
    refine ⟨_, { w1 with heap := w1.heap.setIfInBounds it (.mapIter (some r) clock (seen.push L[i].born) clock) }, ?_, h1 (L[i].key, L[i].val) ((L.toList.take i).map fun e => (e.key, e.val)) ((L.toList.drop (i + 1)).map fun e => (e.key, e.val)) _ ?_ hbut hsz ⟨by show w.heap.size ≤ _; rw [hsz]; exact Nat.le_refl _, ?_, ?_, ?_, hbut⟩ ⟨es, clock, seen.push L[i].born, ?_, hs, hso.1, ?_, ?_⟩⟩
    · simp only [Sem.run_bind, hr, Result.andThen, hget, hset]
      rfl
    · rw [← hL]
      conv => lhs; rw [hsp]
      simp
    · rcases hw with rfl | rfl <;> rfl
    · rcases hw with rfl | rfl <;> rfl
    · rcases hw with rfl | rfl <;> rfl
    · show (w1.heap.setIfInBounds it _)[r]? = _
      rw [hso.2 r hrne, hheap]; exact hb
    · rw [← List.map_append]
      congr 1
      have e1 : (es.toList.filter fun e => !(seen.push L[i].born).contains e.born) = L.toList.filter fun e => e.born != L[i].born := by
        rw [hLs, List.filter_filter]
        apply List.filter_congr
        intro x _
        rw [Array.contains_push]
        have : (L[i].born == x.born) = (x.born == L[i].born) := by rw [Bool.eq_iff_iff, beq_iff_eq, beq_iff_eq]; exact eq_comm
        simp only [bne, Bool.not_or]
        rw [Bool.and_comm]
        try rfl
        try rw [this]
      rw [e1]
      have := filter_one MapEntry.born hnod (i := i) (by rw [Array.length_toList]; exact hlt)
      simpa using this
    · rintro p h
      cases h
      refine ⟨L[i].born, by simp, ?_⟩
      have hin : L[i] ∈ es.toList := by
        have : L[i] ∈ L.toList := by simp
        rw [hLs] at this
        exact (List.mem_filter.1 this).1
      have hsome : (es.toList.find? fun x => x.born == L[i].born).isSome := List.find?_isSome.2 ⟨_, hin, by simp⟩
      obtain ⟨e, he⟩ := Option.isSome_iff_exists.1 hsome
      refine ⟨e, by rw [← Array.find?_toList]; exact he, ?_⟩
      have h2 := List.find?_some he
      have h3 := List.mem_of_find?_eq_some he
      rw [inj_of_nodup (fun e : MapEntry => e.born) hs.2.1 h3 hin (by simpa using h2)]
end
end Go.Hal
namespace Go.Hal
open Go Go.RowKit Go.Proofs Go.MapKept
def strV (v : Value) : Prop := ∃ s, v = .string s
theorem strT : KeyT Tryz.prog 129 strV (.int .i64 0) where
  und := ⟨9, 3, Tryz.underlying129, Tryz.zeroValue3, fun k ⟨s, h⟩ e w => by subst h; exact run_checkKey (d := .string) (k := .string s) Tryz.underlying9 trivial e 9999, fun k ⟨s, h⟩ l hl w => by
    subst h
    rcases findNow_spec (d := .string) (k := .string s) trivial l 0 (fun x hx => by obtain ⟨t, ht⟩ := hl x hx; rw [ht]; trivial) with ⟨h1, h2⟩ | ⟨j, e, h1, h2, h3⟩
    · exact .inl ⟨h2, run_findKey Tryz.underlying9 h1⟩
    · exact .inr ⟨j, e, h2, h3, run_findKey Tryz.underlying9 (by rw [Nat.zero_add] at h1; exact h1)⟩⟩
  stay := fun k ⟨s, h⟩ => by subst h; exact sameBits_self (d := .string) (k := .string s) trivial _
def keyV (n : ByteArray) (v : Ver) : Value := .agg #[.string n, .int .i64 v.ma, .int .i64 v.mi, .int .i64 v.pa]
def isKeyV (x : Value) : Prop := ∃ n v, x = keyV n v
theorem keyV_inj {n m : ByteArray} {v u : Ver} : keyV n v = keyV m u ↔ n = m ∧ v = u := by
  unfold keyV
  obtain ⟨a, b, c⟩ := v; obtain ⟨a', b', c'⟩ := u
  simp
theorem eqKey (n m : ByteArray) (v u : Ver) (w : World) : (Op.equal 66 (keyV n v) (keyV m u)).run Tryz.prog w = .ok (decide (n = m ∧ v = u)) w := by
  have h : (Op.equalIn (9997 + 3) 66 (keyV n v) (keyV m u)).run Tryz.prog w = .ok ((bEq n m) && (((v.ma == u.ma) && ((v.mi == u.mi) && ((v.pa == u.pa) && true))) && true)) w :=
    (eqS (by kernel_rfl) (by kernel_rfl) (fs := [⟨ "name", 9, 0, false, "", "halyard/catalog", 0⟩, ⟨ "version", 37, 1, false, "", "halyard/catalog", 16⟩]) (by kernel_rfl) (eqF_cons (x := (Value.string n)) (y := (Value.string m)) rfl (by kernel_rfl) (by kernel_rfl) (run_equalIn_string w _ 9 n m (by kernel_rfl)) (eqF_cons (x := (Value.agg #[(Value.int .i64 v.ma), (Value.int .i64 v.mi), (Value.int .i64 v.pa)])) (y := (Value.agg #[(Value.int .i64 u.ma), (Value.int .i64 u.mi), (Value.int .i64 u.pa)])) rfl (by kernel_rfl) (by kernel_rfl) (eqS (by kernel_rfl) (by kernel_rfl) (fs := [⟨ "Major", 3, 0, false, "", "", 0⟩, ⟨ "Minor", 3, 1, false, "", "", 8⟩, ⟨ "Patch", 3, 2, false, "", "", 16⟩]) (by kernel_rfl) (eqF_cons (x := (Value.int .i64 v.ma)) (y := (Value.int .i64 u.ma)) rfl (by kernel_rfl) (by kernel_rfl) (run_equalIn_int w _ 3 .i64 .i64 v.ma u.ma (by kernel_rfl)) (eqF_cons (x := (Value.int .i64 v.mi)) (y := (Value.int .i64 u.mi)) rfl (by kernel_rfl) (by kernel_rfl) (run_equalIn_int w _ 3 .i64 .i64 v.mi u.mi (by kernel_rfl)) (eqF_cons (x := (Value.int .i64 v.pa)) (y := (Value.int .i64 u.pa)) rfl (by kernel_rfl) (by kernel_rfl) (run_equalIn_int w _ 3 .i64 .i64 v.pa u.pa (by kernel_rfl)) eqF_nil)))) eqF_nil)))
  have e : ((bEq n m) && (((v.ma == u.ma) && ((v.mi == u.mi) && ((v.pa == u.pa) && true))) && true)) = decide (n = m ∧ v = u) := by
    rw [verEqB, Bool.and_true, Bool.eq_iff_iff, Bool.and_eq_true, bEq_iff, decide_eq_true_eq, decide_eq_true_eq]
  rw [e] at h
  exact h
theorem askKey (n : ByteArray) (v : Ver) (w : World) : ∀ (l : List MapEntry) (i : Nat), (∀ x ∈ l, isKeyV x.key) → ((∀ x ∈ l, x.key ≠ keyV n v) ∧ (Instr.findAsking 66 (keyV n v) l i).run Tryz.prog w = .ok none w) ∨
    ∃ (j : Nat) (e : MapEntry), l[j]? = some e ∧ e.key = keyV n v ∧ (Instr.findAsking 66 (keyV n v) l i).run Tryz.prog w = .ok (some (i + j, e.val)) w
  | [], i, _ => .inl ⟨by simp, by simp [Instr.findAsking]⟩
  | e :: es, i, h => by
    obtain ⟨m, u, hk⟩ := h e (.head _)
    have hq := eqKey n m v u w
    rw [← hk] at hq
    by_cases he : n = m ∧ v = u
    · refine .inr ⟨0, e, rfl, by rw [hk]; exact keyV_inj.2 ⟨he.1.symm, he.2.symm⟩, ?_⟩
      simp only [Instr.findAsking, Sem.run_bind, hq, Result.andThen, decide_eq_true he]
      rfl
    · have hne : e.key ≠ keyV n v := fun q => by
        rw [hk] at q
        have := keyV_inj.1 q
        exact he ⟨this.1.symm, this.2.symm⟩
      have hrun : (Instr.findAsking 66 (keyV n v) (e :: es) i).run Tryz.prog w = (Instr.findAsking 66 (keyV n v) es (i + 1)).run Tryz.prog w := by
        simp only [Instr.findAsking, Sem.run_bind, hq, Result.andThen, decide_eq_false he]
        rfl
      rcases askKey n v w es (i + 1) (fun x hx => h x (.tail _ hx)) with ⟨h1, h2⟩ | ⟨j, e', h1, h2, h3⟩
      · exact .inl ⟨fun x hx => by
          cases hx with
          | head => exact hne
          | tail _ hx => exact h1 x hx, by rw [hrun]; exact h2⟩
      · exact .inr ⟨j + 1, e', by simpa using h1, h2, by rw [hrun, h3, show i + 1 + j = i + (j + 1) by omega]⟩
def packZ : Value := .agg #[.string ⟨#[]⟩, .int .i64 0, .int .i64 0, .int .i64 0, .slice none 0 0, .slice none 0 0, .slice none 0 0]
theorem chkVer (v : Ver) (e : Bool) (w : World) : (Instr.checkKey e 9999 37 (.agg #[.int .i64 v.ma, .int .i64 v.mi, .int .i64 v.pa])).run Tryz.prog w = .ok () w := by
  have hi : ∀ x : Int, (Instr.checkKey e 9998 3 (.int .i64 x)).run Tryz.prog w = .ok () w := fun x => run_checkKey (d := .int .i64) (k := .int .i64 x) Tryz.underlying3 rfl e 9997
  rw [Instr.checkKey]
  simp only [Sem.run_bind, run_underlying Tryz.underlying37, Result.andThen]
  simp [Sem.run_bind, Result.andThen, part, run_underlying Tryz.underlying3, hi]
theorem chkKey (n : ByteArray) (v : Ver) (e : Bool) (w : World) : (Instr.checkKey e 10000 66 (keyV n v)).run Tryz.prog w = .ok () w := by
  have hs : (Instr.checkKey e 9999 9 (.string n)).run Tryz.prog w = .ok () w := run_checkKey (d := .string) (k := .string n) Tryz.underlying9 trivial e 9998
  unfold keyV
  rw [Instr.checkKey]
  simp only [Sem.run_bind, run_underlying Tryz.underlying66, Result.andThen]
  simp [Sem.run_bind, Result.andThen, part, run_underlying Tryz.underlying9, run_underlying Tryz.underlying37, hs, chkVer v e w]
theorem keyT : KeyT Tryz.prog 57 isKeyV packZ where
  und := ⟨66, 39, Tryz.underlying57, Tryz.zeroValue39, fun k ⟨n, v, h⟩ e w => by subst h; exact chkKey n v e w, fun k ⟨n, v, h⟩ l hl w => by
    subst h
    have hfn : ∀ l : List MapEntry, (Instr.findKey 66 (keyV n v) l).run Tryz.prog w = (Instr.findAsking 66 (keyV n v) l 0).run Tryz.prog w := by
      intro l
      cases l with
      | nil => simp [Instr.findKey, Instr.findNow, Instr.findAsking, run_underlying Tryz.underlying66, Sem.run_bind, Result.andThen]
      | cons e es => simp [Instr.findKey, Instr.findNow, Instr.sameNow, run_underlying Tryz.underlying66, Sem.run_bind, Result.andThen]
    rw [hfn]
    rcases askKey n v w l 0 hl with h | ⟨j, e, h1, h2, h3⟩
    · exact .inl h
    · exact .inr ⟨j, e, h1, h2, by rw [Nat.zero_add] at h3; exact h3⟩⟩
  stay := fun k ⟨n, v, h⟩ => by subst h; simp [keyV, Instr.sameBits, Go.MapKept.bytes_beq]
end Go.Hal
namespace Go.Hal
open Go Go.RowKit Go.Proofs Go.Shelf
theorem packList_se {s : Sl} {l : List Dep} {S : Nat → Prop} {w : World} {R : Bool → World → Prop} (hs : SlR depE w S s l) (hR : ∀ w', Ext w w' → R (depsMay l) w') : SE.pack_list s w R := by
  unfold SE.pack_list
  have hl := hs.len
  refine loop1.up hs.max (fun i w' => Ext w w' ∧ depsGo none (l.take i) = true) ⟨Ext.refl _, rfl⟩ fun i w0 nxt hi ⟨x0, hI⟩ hn => ⟨fun hlt => ?_, fun hge => ?_⟩
  · have hlt' : i < l.length := by omega
    obtain ⟨ad, t, ha, _, hnm, hr, hc⟩ := depEl hs hlt'
    have hst := deps_step hlt' hI
    refine ⟨ad, ⟨ha, by omega, hlt⟩, _, t, hc _ (by (repeat (first | assumption | exact Ext.refl _ | refine Ext.trans ?_ (by assumption)))), newS.intro fun a w1 x1 hb hba _ => stw0.intro hb (by simp) fun w2' b2 _ hb2 => bnd.drew fun w2 x2 => ?_⟩
    have x2' : Ext w0 w2' := b2.ext x1 (by omega)
    refine ⟨_, hb2.at0 (by (repeat (first | assumption | exact Ext.refl _ | refine Ext.trans ?_ (by assumption)))) rfl, SE.scan_Name.go (scanName_se hnm fun w3 x3 => ⟨_, rfl, bound ?_⟩)⟩
    refine ⟨t, fun _ => hb2.at1 (by (repeat (first | assumption | exact Ext.refl _ | refine Ext.trans ?_ (by assumption)))) rfl, gCall.intro (spansMay l[i].range) (fun _ q hq => SE.span_May.go (spanMay_se (hr.ext (by (repeat (first | assumption | exact Ext.refl _ | refine Ext.trans ?_ (by assumption))))) fun w' hx => ⟨_, rfl, hq _ hx⟩)) fun t2 w4 x4 ht2 => bound ?_⟩
    refine ⟨t, fun _ => hb2.at1 (by (repeat (first | assumption | exact Ext.refl _ | refine Ext.trans ?_ (by assumption)))) rfl, bound (bound ?_)⟩
    have hlast : ∀ h0 : 0 < i, lastN none (l.take i) = some (l[i - 1]'(by omega)).name := fun h0 => by
      have := lastN_take (l := l) (n := i - 1) (by omega)
      rw [← this]; congr 2; omega
    have hd : ∃ (ad15 : Addr) (u : ByteArray), (decide ((0 : Int) < (i : Int)) = true → (s.a = some ad15 ∧ (0 : Int) ≤ wrapI ((i : Int) - 1) ∧ wrapI ((i : Int) - 1) < (s.len : Int)) ∧ ldc w4 (ad15.add ((wrapI ((i : Int) - 1)).toNat * 2)) [.string u] ∧ lastN none (l.take i) = some u) := by
      by_cases h0 : 0 < i
      · have ew := prev_idx h0 hi hs.max
        obtain ⟨ad', t', ha', _, hn', _, hc'⟩ := depEl hs (n := i - 1) (by omega)
        exact ⟨ad', _, fun _ => ⟨by rw [ew]; exact ⟨ha', by omega, by omega⟩, by rw [ew]; exact (hc' _ (by (repeat (first | assumption | exact Ext.refl _ | refine Ext.trans ?_ (by assumption))))).pre rfl, hlast h0⟩⟩
      · exact ⟨ad, ⟨#[]⟩, fun h => by simp at h; omega⟩
    obtain ⟨ad15, u, hu⟩ := hd
    have hg : ∀ {b : Bool}, (!b && decide ((0 : Int) < (i : Int))) = true → decide ((0 : Int) < (i : Int)) = true := fun h => by simp only [Bool.and_eq_true] at h; exact h.2
    refine ⟨ad15, fun hb => (hu (hg hb)).1, u, fun hb => (hu (hg hb)).2.1, _, fun _ => hb2.at0 (by (repeat (first | assumption | exact Ext.refl _ | refine Ext.trans ?_ (by assumption)))) rfl, ?_⟩
    have e : ((((!nameMay l[i].name) || (!t2)) || ((t.len : Int) == 0)) || (decide ((0 : Int) < (i : Int)) && (!bLt u l[i].name))) = !depsGo none (l.take (i + 1)) := by
      rw [hst, dpOk]
      have e0 : ((t.len : Int) == 0) = l[i].range.isEmpty := by
        rw [hr.len]
        cases l[i].range <;> simp
        omega
      rw [e0]
      cases h1 : nameMay l[i].name
      · simp
      · rw [h1] at ht2
        rw [ht2 rfl]
        cases h2 : spansMay l[i].range
        · simp
        · cases h3 : l[i].range.isEmpty
          · by_cases h0 : 0 < i
            · have hb : decide ((0 : Int) < (i : Int)) = true := by simpa using h0
              rw [hb, (hu hb).2.2]
              simp [aheadOf]
            · have hb : decide ((0 : Int) < (i : Int)) = false := by simp; omega
              have hi0 : i = 0 := by omega
              subst hi0
              simp [lastN, aheadOf]
          · simp
    rw [e]
    refine ⟨fun h => ?_, fun h => hn hlt' _ ⟨by (repeat (first | assumption | exact Ext.refl _ | refine Ext.trans ?_ (by assumption))), by simpa using h⟩⟩
    rw [← depsMay_false (i := i + 1) (by simpa using h)]; exact hR _ (by (repeat (first | assumption | exact Ext.refl _ | refine Ext.trans ?_ (by assumption))))
  · have : i = l.length := by omega
    rw [this, List.take_length] at hI
    have e : decide ((s.len : Int) ≤ 16) = depsMay l := by
      unfold depsMay
      rw [hI, Bool.true_and, decide_eq_decide]; omega
    rw [e]; exact hR _ (by (repeat (first | assumption | exact Ext.refl _ | refine Ext.trans ?_ (by assumption))))
def ones (ns : List ByteArray) : List (Value × Value) := ns.map fun n => (.string n, .int .i64 1)
theorem MapR.one {K : Value → Prop} {w : World} {r : Nat} {m : List (Value × Value)} (h : MapR K w r m) {k u v : Value} (h1 : (k, u) ∈ m) (h2 : (k, v) ∈ m) : u = v := by
  have := inj_of_nodup Prod.fst h.keys.1 h1 h2 rfl
  exact congrArg Prod.snd this
theorem count_se {s : Sl} {l : List Dep} {ns : List ByteArray} {S : Nat → Prop} {w0 w : World} {r : Nat} {R : Bool → World → Prop} {k : World → Prop} (hs : SlR depE w0 S s l) (x0 : Ext w0 w) (hr : w0.heap.size ≤ r) (hm : MapR strV w r (ones ns)) (hns : ns.Nodup)
    (hf : ∀ w', Ext w0 w' → ¬ (ns ++ l.map (·.name)).Nodup → R false w') (hk : ∀ w', Ext w0 w' → (ns ++ l.map (·.name)).Nodup → MapR strV w' r (ones (ns ++ l.map (·.name))) → k w') :
    loop1 0 w fun t17 vw2 nxt3 => ((t17 < (s.len : Int) → ∃ (ad4 : Addr), (s.a = some ad4 ∧ (0 : Int) ≤ t17 ∧ t17 < (s.len : Int)) ∧ ∃ (t20_Name : ByteArray) (t20_Range : Sl), (ldc vw2 (ad4.add (t17.toNat * 2)) [(Value.string t20_Name), (Sl.v t20_Range)]) ∧ newS vw2 [(Value.string (ByteArray.mk #[])), (Sl.v Sl.nil)] 63 fun a vw7 => stw vw7 a [(Value.string t20_Name), (Sl.v t20_Range)] fun vw8 => ∃ (t23 : ByteArray), (ldc vw8 a [(Value.string t23)]) ∧ semS Tryz.prog (Instr.lookup 129 (Value.map (some r)) (Value.string t23) false) vw8 fun v11 vw10 => ∃ (t24 : Int), v11 = (.int .i64 t24) ∧ semU Tryz.prog (Instr.mapUpdate 129 (Value.map (some r)) (Value.string t23) (.int .i64 (wrapI (t24 + 1)))) vw10 fun vw12 => ∃ (t28 : ByteArray), (ldc vw12 a [(Value.string t28)]) ∧ semS Tryz.prog (Instr.lookup 129 (Value.map (some r)) (Value.string t28) false) vw12 fun v15 vw14 => ∃ (t29 : Int), v15 = (.int .i64 t29) ∧ ((1 < t29 → R false vw14) ∧ (¬ (1 < t29) → nxt3 (wrapI (t17 + 1)) vw14))) ∧ (¬ (t17 < (s.len : Int)) → k vw2)) := by
  have hl := hs.len
  refine loop1.up hs.max (fun i w' => Ext w0 w' ∧ (ns ++ (l.take i).map (·.name)).Nodup ∧ MapR strV w' r (ones (ns ++ (l.take i).map (·.name)))) ⟨x0, by simpa using hns, by simpa using hm⟩ fun i w1 nxt hi ⟨x1, hI, hM⟩ hn => ⟨fun hlt => ?_, fun hge => ?_⟩
  · have hlt' : i < l.length := by omega
    obtain ⟨ad, t, ha, _, hnm, hrg, hc⟩ := depEl hs hlt'
    refine ⟨ad, ⟨ha, by omega, hlt⟩, _, t, hc _ (by (repeat (first | assumption | exact Ext.refl _ | refine Ext.trans ?_ (by assumption)))), newS.intro fun a w2 x2 hb hba _ => stw0.intro hb (by simp) fun w3 b3 _ hb3 => ⟨_, hb3.ldc.pre rfl, ?_⟩⟩
    have x3 : Ext w1 w3 := b3.ext x2 (by omega)
    have x03 : Ext w0 w3 := x1.trans x3
    have hM3 := hM.ext x3
    have hmr := hM.lt
    have hsz2 := x2.size
    have hnames : (l.take (i + 1)).map (·.name) = (l.take i).map (·.name) ++ [l[i].name] := by rw [List.take_succ_eq_append_getElem hlt', List.map_append]; rfl
    rcases lookup_run strT hM3 (k := .string l[i].name) ⟨_, rfl⟩ with ⟨hnot, hrun⟩ | ⟨v, hin, hrun⟩
    · refine ⟨_, _, hrun false, 0, rfl, ?_⟩
      refine update_new strT hM3 ⟨_, rfl⟩ hnot fun w4 b4 hs4 hM4 => ?_
      have hb4 : BoxAt w4 a [.string l[i].name, Sl.v t] := b4.box hb3 (by omega)
      have hx4 : Ext w0 w4 := b4.ext x03 hr
      have hM4' : MapR strV w4 r (ones (ns ++ (l.take (i + 1)).map (·.name))) := by
        rw [hnames, ← List.append_assoc, ones, List.map_append]
        exact hM4
      refine ⟨_, hb4.ldc.pre rfl, ?_⟩
      have hin4 : (Value.string l[i].name, Value.int .i64 1) ∈ ones (ns ++ (l.take (i + 1)).map (·.name)) := by
        rw [hnames, ones]; simp
      rcases lookup_run strT hM4' (k := .string l[i].name) ⟨_, rfl⟩ with ⟨hnot', _⟩ | ⟨v', hin', hrun'⟩
      · exact absurd rfl (hnot' _ hin4)
      · have hv : v' = .int .i64 1 := hM4'.one hin' hin4
        subst hv
        refine ⟨_, _, hrun' false, 1, rfl, fun h => absurd h (by decide), fun _ => hn hlt' _ ⟨hx4, ?_, hM4'⟩⟩
        rw [hnames, ← List.append_assoc, List.nodup_append]
        refine ⟨hI, by simp, fun x hx y hy => ?_⟩
        simp only [List.mem_singleton] at hy
        subst hy
        intro e
        subst e
        exact hnot (.string l[i].name, .int .i64 1) (List.mem_map.2 ⟨_, hx, rfl⟩) rfl
    · obtain ⟨n, hn1, hn2⟩ := List.mem_map.1 hin
      simp only [Prod.mk.injEq, Value.string.injEq] at hn2
      obtain ⟨hn2, hv⟩ := hn2
      subst hv
      refine ⟨_, _, hrun false, 1, rfl, ?_⟩
      refine update_old strT hM3 ⟨_, rfl⟩ hin fun w4 m' b4 hs4 hM4 hin4 _ => ?_
      have hb4 : BoxAt w4 a [.string l[i].name, Sl.v t] := b4.box hb3 (by omega)
      have hx4 : Ext w0 w4 := b4.ext x03 hr
      refine ⟨_, hb4.ldc.pre rfl, ?_⟩
      rcases lookup_run strT hM4 (k := .string l[i].name) ⟨_, rfl⟩ with ⟨hnot', _⟩ | ⟨v', hin', hrun'⟩
      · exact absurd rfl (hnot' _ hin4)
      · have hv : v' = .int .i64 2 := hM4.one hin' hin4
        subst hv
        refine ⟨_, _, hrun' false, 2, rfl, fun _ => hf _ hx4 ?_, fun h => absurd (by decide) h⟩
        intro hnd
        have hsplit : l.map (·.name) = (l.take i).map (·.name) ++ (l[i].name :: (l.drop (i + 1)).map (·.name)) := by
          conv => lhs; rw [← List.take_append_drop i l, List.drop_eq_getElem_cons hlt', List.map_append, List.map_cons]
        rw [hsplit, ← List.append_assoc, List.nodup_append] at hnd
        exact hnd.2.2 n hn1 l[i].name (by simp) hn2
  · have : i = l.length := by omega
    rw [this, List.take_length] at hI hM
    exact hk _ x1 hI hM
theorem lists3 {w : World} {a : Addr} {d e o : Sl} {i : Nat} (hb : BoxAt w a [Sl.v d, Sl.v e, Sl.v o]) : (i = 0 → ldc w (a.add (i * 1)) [Sl.v d]) ∧ (i = 1 → ldc w (a.add (i * 1)) [Sl.v e]) ∧ (i = 2 → ldc w (a.add (i * 1)) [Sl.v o]) :=
  ⟨fun h => by subst h; exact hb.ldc.mid rfl, fun h => by subst h; exact hb.ldc.mid rfl, fun h => by subst h; exact hb.ldc.mid rfl⟩
set_option maxHeartbeats 1000000 in
theorem packApart_se {a : Addr} {d e o : Sl} {ld le lo : List Dep} {S : Nat → Prop} {w : World} {R : Bool → World → Prop} (hb : BoxAt w a [Sl.v d, Sl.v e, Sl.v o]) (hd : SlR depE w S d ld) (he : SlR depE w S e le) (ho : SlR depE w S o lo)
    (hR : ∀ w', Ext w w' → R (decide ((ld ++ le ++ lo).map (·.name)).Nodup) w') : SE.pack_apart (Sl.mk (some a) 3 3) w R := by
  unfold SE.pack_apart
  refine makeMap_intro (K := strV) fun r w1 x1 hr1 hm1 => ⟨some r, rfl, ?_⟩
  have hbad : ∀ w', Ext w w' → ∀ l2, ¬ l2.Nodup → (∃ t, (ld ++ le ++ lo).map (·.name) = l2 ++ t) → R false w' := fun w' hx l2 hn ⟨t, ht⟩ => by
    have : decide ((ld ++ le ++ lo).map (·.name)).Nodup = false := decide_eq_false fun h => hn (by rw [ht, List.nodup_append] at h; exact h.1)
    rw [← this]; exact hR _ hx
  refine loop1.up (N := 3) (by decide) (fun i w' => Ext w w' ∧ ∃ ns : List ByteArray, ns.Nodup ∧ MapR strV w' r (ones ns) ∧ (i = 0 → ns = []) ∧ (i = 1 → ns = ld.map (·.name)) ∧ (i = 2 → ns = (ld ++ le).map (·.name)) ∧ (i = 3 → ns = (ld ++ le ++ lo).map (·.name)))
    ⟨x1, [], List.nodup_nil, hm1, fun _ => rfl, fun h => by omega, fun h => by omega, fun h => by omega⟩ fun i w2 nxt hi ⟨x2, ns, hnd, hM, h0, h1, h2, h3⟩ hn => ⟨fun hlt => ?_, fun hge => ?_⟩
  · have hlt' : i < 3 := by
      have : ((Sl.mk (some a) 3 3).len : Int) = 3 := rfl
      omega
    have hl3 := lists3 (i := i) (hb.ext x2)
    have hr : w.heap.size ≤ r := by omega
    have hcase : i = 0 ∨ i = 1 ∨ i = 2 := by omega
    rcases hcase with rfl | rfl | rfl
    · refine ⟨a, ⟨rfl, by omega, hlt⟩, d, hl3.1 rfl, count_se hd x2 hr hM hnd (fun w' hx hbn => ?_) fun w' hx hnd' hM' => hn (by omega) _ ⟨hx, _, hnd', hM', fun h => by omega, fun _ => ?_, fun h => by omega, fun h => by omega⟩⟩
      · exact hbad _ hx _ hbn ⟨(le ++ lo).map (·.name), by rw [h0 rfl]; simp⟩
      · rw [h0 rfl]; simp
    · refine ⟨a, ⟨rfl, by omega, hlt⟩, e, hl3.2.1 rfl, count_se he x2 hr hM hnd (fun w' hx hbn => ?_) fun w' hx hnd' hM' => hn (by omega) _ ⟨hx, _, hnd', hM', fun h => by omega, fun h => by omega, fun h => ?_, fun h => by omega⟩⟩
      · exact hbad _ hx _ hbn ⟨lo.map (·.name), by rw [h1 rfl]; simp⟩
      · rw [h1 rfl]; simp
    · refine ⟨a, ⟨rfl, by omega, hlt⟩, o, hl3.2.2 rfl, count_se ho x2 hr hM hnd (fun w' hx hbn => ?_) fun w' hx hnd' hM' => hn (by omega) _ ⟨hx, _, hnd', hM', fun h => by omega, fun h => by omega, fun h => by omega, fun h => ?_⟩⟩
      · exact hbad _ hx _ hbn ⟨[], by rw [h2 rfl]; simp⟩
      · rw [h2 rfl]; simp
  · have : i = 3 := by
      have : ((Sl.mk (some a) 3 3).len : Int) = 3 := rfl
      omega
    have : decide ((ld ++ le ++ lo).map (·.name)).Nodup = true := decide_eq_true (by rw [← h3 this]; exact hnd)
    rw [← this]; exact hR _ x2
end Go.Hal
namespace Go.Hal
open Go Go.RowKit Go.Proofs Go.Shelf
def Bld (b : Nat) (l : List UInt8) (w : World) : Prop := Lib.IsBuilderF 133 5 b b (Lib.byteCells l) w
theorem rowF_ext {w w' : World} {base : Nat} {e : TypeId} {size : Nat} {v : Value} {n : Nat} {xs : List Value} (h : w.ownsRowF base e size v n xs) (hx : Ext w w') : w'.ownsRowF base e size v n xs := by
  obtain ⟨h1, h2⟩ := h
  refine ⟨h1, ?_⟩
  rcases h2 with h2 | ⟨g, cap, cur, fz, a, b, c, d⟩
  · exact .inl h2
  · exact .inr ⟨g, cap, cur, fz, a, b, (hx.block (Array.getElem?_eq_some_iff.1 c).1).trans c, d⟩
theorem bldAt_ext {w w' : World} {T e : TypeId} {B b : Nat} {p : Value} {bs : List Value} (h : Lib.BuilderAtF T e B b p bs w) (hx : Ext w w') : Lib.BuilderAtF T e B b p bs w' := by
  obtain ⟨h1, v, h2, h3, h4⟩ := h
  exact ⟨h1, v, (hx.block (Array.getElem?_eq_some_iff.1 h2).1).trans h2, rowF_ext h3 hx, h4⟩
theorem Bld.ext {b : Nat} {l : List UInt8} {w w' : World} (h : Bld b l w) (hx : Ext w w') : Bld b l w' := h.imp (fun h => bldAt_ext h hx) (fun h => bldAt_ext h hx)
theorem bld_new (w : World) : Bld w.heap.size [] (w.alloc (.cells [Value.pointer none, Sl.v Sl.nil].toArray 133)) :=
  .inl ⟨Nat.le_refl _, _, heap_alloc_new w _, ⟨rfl, .inl ⟨rfl, rfl⟩⟩, by simp [Value.ownBlock, Sl.v, Sl.nil]⟩
theorem bldX : Builder.Extra Tryz.prog Tryz.layJo_ren := { sizeBuilder := by kernel_rfl, liesBuilder := by kernel_rfl, t5 := Tryz.underlying5, a5 := Tryz.isAgg5, z5 := Tryz.sizeOf5, v5 := Tryz.zeroValue5, infoByte := by kernel_rfl, cellsByte := by kernel_rfl, sizeByte := by kernel_rfl, neB5 := by decide }
theorem bldWrite_k {b : Nat} {l m : List UInt8} {w0 w : World} {k : Value → World → Prop} (hB : Bld b l w) (h0 : w0.heap.size = b) (x0 : Ext w0 w) (hl : l.length + m.length ≤ 140737488355328)
    (hk : ∀ w' n, Ext w0 w' → Bld b (l ++ m) w' → k (.tuple #[.int .i64 n, .nilIface]) w') : callS Tryz.prog 69 [.pointer (some ⟨b, 0, none⟩), .string (B m)] w k := by
  have h := Any.Builder_WriteString_k { Tryz.layJo with } bldX b b (Lib.byteCells l) (B m) w hB (by rw [Lib.byteCells_length, B_size]; exact hl) (by have := x0.size; omega)
  refine h.mono fun e w' ⟨he, hb, hbel, _⟩ => ⟨_, he, hk w' _ (x0.trans' (by rw [h0]; exact hbel)) (.inr ?_)⟩
  have e : Lib.byteCells l ++ Lib.strCells (B m) = Lib.byteCells (l ++ m) := by rw [Lib.strCells_eq, B_data]; simp [Lib.byteCells]
  rw [e] at hb; exact hb
theorem bldString_k {b : Nat} {l : List UInt8} {w0 w : World} {k : Value → World → Prop} (hB : Bld b l w) (h0 : w0.heap.size = b) (x0 : Ext w0 w) (hk : ∀ w', Ext w0 w' → k (.string (B l)) w') : callS Tryz.prog 72 [.pointer (some ⟨b, 0, none⟩)] w k := by
  have h := Any.Builder_String_any_k { Tryz.layJo with } bldX b b l w hB (by have := x0.size; omega)
  exact h.mono fun e w' ⟨he, _, hbel, _⟩ => ⟨_, he, hk w' (x0.trans' (by rw [h0]; exact hbel))⟩
theorem packLines_se {wd t0 : List UInt8} {s : Sl} {l : List Dep} {S : Nat → Prop} {b : Nat} {w0 w : World} {R : World → Prop} (ht : Tab w0) (hw : wd.length ≤ 8) (hm : depsMay l = true) (h0 : w0.heap.size = b) (x0 : Ext w0 w) (hB : Bld b t0 w) (hs : SlR depE w0 S s l) (hlen : t0.length ≤ 1000000)
    (hR : ∀ w', Ext w0 w' → Bld b (t0 ++ depLines wd l) w' → R w') : SE.pack_lines (some ⟨b, 0, none⟩) (B wd) s w R := by
  unfold SE.pack_lines
  have hl := hs.len
  obtain ⟨h16, hok⟩ := depsMay_names hm
  refine loop1.up hs.max (fun i w' => Ext w0 w' ∧ Bld b (t0 ++ depLines wd (l.take i)) w') ⟨x0, by simpa [depLines] using hB⟩ fun i w1 nxt hi ⟨x1, hI⟩ hn => ⟨fun hlt => ?_, fun hge => ?_⟩
  · have hlt' : i < l.length := by omega
    obtain ⟨ad, t, ha, _, hnm, hr, hc⟩ := depEl hs hlt'
    have hd := hok _ (List.getElem_mem hlt')
    have h1 := depLines_len hw (l := l.take i) fun d hd => (hok d (List.mem_of_mem_take hd)).1
    rw [List.length_take, Nat.min_eq_left (by omega)] at h1
    have h2 := nameMay_len hd.1
    have h3 := rangeText_len l[i].range
    refine ⟨ad, ⟨ha, by omega, hlt⟩, _, t, hc _ (by (repeat (first | assumption | exact Ext.refl _ | refine Ext.trans ?_ (by assumption)))), newS.intro fun a w2 x2 hb hba _ => stw0.intro hb (by simp) fun w3' b3 _ hb3 => bnd.drew fun w3 x3 => ?_⟩
    have x3' : Ext w1 w3' := b3.ext x2 (by omega)
    have x13 : Ext w1 w3 := x3'.trans x3
    rw [app_lit]
    refine ⟨by rw [B_size, lit_size, maxI_eq]; simp; omega, _, hb3.at0 (by (repeat (first | assumption | exact Ext.refl _ | refine Ext.trans ?_ (by assumption)))) rfl, ?_⟩
    rw [ba_B l[i].name, B_app, app_lit]
    refine ⟨by rw [B_size, B_size, maxI_eq]; simp; omega, by rw [B_size, lit_size, maxI_eq]; simp; omega, t, hb3.at1 (by (repeat (first | assumption | exact Ext.refl _ | refine Ext.trans ?_ (by assumption)))) rfl, callX.intro (SE.span_Print.go (spanPrint_se (ht.ext (x1.trans x13)) (hr.ext (x1.trans x13)) fun w4 x4 => ⟨x4, _, rfl, ?_⟩))⟩
    rw [B_app, app_lit]
    have hln : (((((wd ++ [32]) ++ l[i].name.toList) ++ [32]) ++ rangeText l[i].range) ++ [10]).length ≤ 2030 := by simp; omega
    refine ⟨by rw [B_size, B_size, maxI_eq]; simp; omega, by rw [B_size, lit_size, maxI_eq]; simp; omega, bldWrite_k (m := (((((wd ++ [32]) ++ l[i].name.toList) ++ [32]) ++ rangeText l[i].range) ++ [10])) (hI.ext (x13.trans x4)) h0 (x1.trans (x13.trans x4)) (by rw [List.length_append]; omega) fun w5 n x5 hB5 => ⟨_, _, rfl, hn hlt' _ ⟨x5, ?_⟩⟩⟩
    rw [List.take_succ_eq_append_getElem hlt', depLines_snoc, depLine, ← List.append_assoc]
    exact hB5
  · have : i = l.length := by omega
    rw [this, List.take_length] at hI
    exact hR _ x1 hI
set_option maxHeartbeats 1000000 in
theorem packText_se {p : Pack} {d e o : Sl} {S : Nat → Prop} {w : World} {R : ByteArray → World → Prop} (ht : Tab w) (hm : listsMay p = true) (hd : SlR depE w S d p.deps) (he : SlR depE w S e p.peers) (ho : SlR depE w S o p.opt)
    (hR : ∀ w', Ext w w' → R (B (packText p)) w') : SE.pack_text p.name p.v.ma p.v.mi p.v.pa d e o w R := by
  unfold SE.pack_text
  unfold listsMay at hm
  simp only [Bool.and_eq_true] at hm
  obtain ⟨⟨⟨⟨hn, hv⟩, h1⟩, h2⟩, h3⟩ := hm
  have n1 := depsMay_names h1; have n2 := depsMay_names h2; have n3 := depsMay_names h3
  have l1 := depLines_len (word := wNeeds) (by decide) fun d hd => (n1.2 d hd).1
  have l2 := depLines_len (word := wBeside) (by decide) fun d hd => (n2.2 d hd).1
  have l3 := depLines_len (word := wLikes) (by decide) fun d hd => (n3.2 d hd).1
  have hnl := nameMay_len hn
  have hnv := verText_len p.v
  refine newS.intro fun _ w1 x1 hb _ _ => ?_
  intro a1 w2 ha1 hw2
  subst ha1
  have x2 : Ext w1 w2 := hw2 ▸ Ext.alloc _ _
  have hB2 : Bld w1.heap.size [] w2 := hw2 ▸ bld_new w1
  refine bnd.drew fun w3 x3 => ?_
  have x13 : Ext w1 w3 := x2.trans x3
  have t1 : Tab w1 := ht.ext x1
  refine ⟨_, hb.at0 x13 rfl, ?_⟩
  rw [ba_B p.name]
  simp only [lit_app, app_lit]
  refine ⟨by rw [lit_size, B_size, maxI_eq]; simp; omega, by rw [B_size, lit_size, maxI_eq]; simp; omega, ?_⟩
  refine ⟨_, _, _, hb.at1 x13 rfl, callX.intro (SE.vers_Print.go (versPrint_se (v := p.v) (t1.ext x13) fun w4 x4 => ⟨x4, _, rfl, ?_⟩))⟩
  simp only [B_app, app_lit]
  have hh := headText_len hn p.v
  refine ⟨by rw [B_size, B_size, maxI_eq]; simp; omega, by rw [B_size, lit_size, maxI_eq]; simp; omega, bldWrite_k (m := headText p.name p.v) (hB2.ext (x3.trans x4)) rfl (x13.trans x4) (by simp; omega) fun w5 n5 x5 hB5 => ⟨_, _, rfl, ?_⟩⟩
  rw [List.nil_append] at hB5
  refine ⟨d, hb.at1 x5 rfl, SE.pack_lines.go (word := B wNeeds) (packLines_se t1 (by decide) h1 rfl x5 hB5 (hd.ext x1) (by omega) fun w6 x6 hB6 => ⟨rfl, ?_⟩)⟩
  refine ⟨e, hb.at1 x6 rfl, SE.pack_lines.go (word := B wBeside) (packLines_se t1 (by decide) h2 rfl x6 hB6 (he.ext x1) (by simp; omega) fun w7 x7 hB7 => ⟨rfl, ?_⟩)⟩
  refine ⟨o, hb.at1 x7 rfl, SE.pack_lines.go (word := B wLikes) (packLines_se t1 (by decide) h3 rfl x7 hB7 (ho.ext x1) (by simp; omega) fun w8 x8 hB8 => ⟨rfl, ?_⟩)⟩
  exact bldString_k hB8 rfl x8 fun w9 x9 => ⟨_, rfl, hR _ (x1.trans x9)⟩
set_option maxHeartbeats 2000000 in
theorem packMay_se {p : Pack} {d e o : Sl} {S : Nat → Prop} {w : World} {R : Bool → World → Prop} (ht : Tab w) (hN : Str p.name) (hd : SlR depE w S d p.deps) (he : SlR depE w S e p.peers) (ho : SlR depE w S o p.opt)
    (hR : ∀ w', Ext w w' → R (packMay p) w') : SE.pack_May p.name p.v.ma p.v.mi p.v.pa d e o w R := by
  unfold SE.pack_May
  refine newS.intro fun _ w1 x1 hb _ _ => ?_
  refine ⟨_, (by first | exact (BoxAt.at0 (by assumption) (by (repeat (first | assumption | exact Ext.refl _ | refine Ext.trans ?_ (by assumption)))) rfl) | exact (BoxAt.at1 (by assumption) (by (repeat (first | assumption | exact Ext.refl _ | refine Ext.trans ?_ (by assumption)))) rfl)), ?_⟩
  refine SE.scan_Name.go (scanName_se hN fun w2 x2 => ⟨_, rfl, ?_⟩)
  refine ⟨p.v.ma, p.v.mi, p.v.pa, fun _ => hb.at1 (by (repeat (first | assumption | exact Ext.refl _ | refine Ext.trans ?_ (by assumption)))) rfl, gCall.intro p.v.may (fun _ q hq => SE.vers_May.go (versMay_se (v := p.v) fun w' hx => ⟨_, rfl, hq _ hx⟩)) fun t1 w3 x3 ht1 => bound ?_⟩
  refine ⟨d, fun _ => hb.at1 (by (repeat (first | assumption | exact Ext.refl _ | refine Ext.trans ?_ (by assumption)))) rfl, gCall.intro (depsMay p.deps) (fun _ q hq => SE.pack_list.go (packList_se (hd.ext (by (repeat (first | assumption | exact Ext.refl _ | refine Ext.trans ?_ (by assumption))))) fun w' hx => ⟨_, rfl, hq _ hx⟩)) fun t2 w4 x4 ht2 => bound ?_⟩
  refine ⟨e, fun _ => hb.at1 (by (repeat (first | assumption | exact Ext.refl _ | refine Ext.trans ?_ (by assumption)))) rfl, gCall.intro (depsMay p.peers) (fun _ q hq => SE.pack_list.go (packList_se (he.ext (by (repeat (first | assumption | exact Ext.refl _ | refine Ext.trans ?_ (by assumption))))) fun w' hx => ⟨_, rfl, hq _ hx⟩)) fun t3 w5 x5 ht3 => bound ?_⟩
  refine ⟨o, fun _ => hb.at1 (by (repeat (first | assumption | exact Ext.refl _ | refine Ext.trans ?_ (by assumption)))) rfl, gCall.intro (depsMay p.opt) (fun _ q hq => SE.pack_list.go (packList_se (ho.ext (by (repeat (first | assumption | exact Ext.refl _ | refine Ext.trans ?_ (by assumption))))) fun w' hx => ⟨_, rfl, hq _ hx⟩)) fun t4 w6 x6 ht4 => ?_⟩
  have e1 : ((((nameMay p.name && t1) && t2) && t3) && t4) = listsMay p := by
    unfold listsMay
    cases h1 : nameMay p.name
    · simp
    rw [h1] at ht1 ht2 ht3 ht4
    rw [ht1 rfl] at ht2 ht3 ht4 ⊢
    cases h2 : p.v.may
    · simp
    rw [h2] at ht2 ht3 ht4
    rw [ht2 rfl] at ht3 ht4 ⊢
    cases h3 : depsMay p.deps
    · simp
    rw [h3] at ht3 ht4
    rw [ht3 rfl] at ht4 ⊢
    cases h4 : depsMay p.peers
    · simp
    rw [h4] at ht4
    rw [ht4 rfl]
  rw [e1]
  refine bound ⟨d, fun _ => hb.at1 (by (repeat (first | assumption | exact Ext.refl _ | refine Ext.trans ?_ (by assumption)))) rfl, e, fun _ => hb.at1 (by (repeat (first | assumption | exact Ext.refl _ | refine Ext.trans ?_ (by assumption)))) rfl, o, fun _ => hb.at1 (by (repeat (first | assumption | exact Ext.refl _ | refine Ext.trans ?_ (by assumption)))) rfl, ?_⟩
  cases hm : listsMay p
  · have : packMay p = false := by unfold packMay; rw [hm]; rfl
    rw [this] at hR
    refine ⟨fun h => by (cases h), fun _ => ⟨fun h => by (cases h), fun _ => bound ?_⟩⟩
    refine ⟨p.name, p.v.ma, p.v.mi, p.v.pa, d, e, o, fun h => by (cases h), ⟨fun h => by (cases h), fun _ => hR _ (by (repeat (first | assumption | exact Ext.refl _ | refine Ext.trans ?_ (by assumption))))⟩⟩
  · refine ⟨fun _ => newS.intro fun a w7 x7 hb7 _ _ => ⟨fun _ => SE.pack_apart.go (packApart_se hb7 (hd.ext (by (repeat (first | assumption | exact Ext.refl _ | refine Ext.trans ?_ (by assumption))))) (he.ext (by (repeat (first | assumption | exact Ext.refl _ | refine Ext.trans ?_ (by assumption))))) (ho.ext (by (repeat (first | assumption | exact Ext.refl _ | refine Ext.trans ?_ (by assumption))))) fun w8 x8 => ⟨_, rfl, bound ?_⟩), fun h => by (cases h)⟩, fun h => by (cases h)⟩
    rw [apart3_eq hm]
    refine ⟨p.name, p.v.ma, p.v.mi, p.v.pa, d, e, o, fun _ => hb.at0 (by (repeat (first | assumption | exact Ext.refl _ | refine Ext.trans ?_ (by assumption)))) rfl, gCall.intro (B (packText p)) (fun _ q hq => SE.pack_text.go (packText_se (ht.ext (by (repeat (first | assumption | exact Ext.refl _ | refine Ext.trans ?_ (by assumption))))) hm (hd.ext (by (repeat (first | assumption | exact Ext.refl _ | refine Ext.trans ?_ (by assumption))))) (he.ext (by (repeat (first | assumption | exact Ext.refl _ | refine Ext.trans ?_ (by assumption))))) (ho.ext (by (repeat (first | assumption | exact Ext.refl _ | refine Ext.trans ?_ (by assumption))))) fun w' hx => ⟨_, rfl, hq _ hx⟩)) fun t7 w10 x10 ht7 => ?_⟩
    have e3 : ((true && apart3 p) && decide ((t7.size : Int) ≤ 4096)) = packMay p := by
      unfold packMay
      rw [hm, Bool.true_and, Bool.true_and]
      cases h1 : apart3 p
      · rfl
      rw [ht7 (by rw [h1]; rfl), B_size, Bool.true_and, Bool.true_and, decide_eq_decide]; omega
    rw [e3]; exact hR _ (by (repeat (first | assumption | exact Ext.refl _ | refine Ext.trans ?_ (by assumption))))
end Go.Hal
namespace Go.Hal
open Go Go.RowKit Go.Proofs Go.Shelf
theorem OwnS.flat {α : Type} {E : Enc α} {T : TypeId} {w : World} {lo : Nat} {S : Nat → Prop} {s : Sl} {l : List α} (hf : ∀ {w S S' x cs}, E.rep w S x cs → E.rep w S' x cs) (h : OwnS E T w lo S s l) : OwnS E T w lo None' s l := by
  obtain ⟨css, ho, hl, hr⟩ := h.row
  exact ⟨⟨css, ho, hl, fun i x hx => let ⟨cs, a, b⟩ := hr i x hx; ⟨cs, a, hf b⟩⟩, h.len, fun _ h => h.elim, fun _ _ h => h.elim⟩
theorem OwnS.empty {α : Type} {E : Enc α} {T : TypeId} (w : World) : OwnS E T (w.alloc (.cells #[] T)) w.heap.size None' ⟨some ⟨w.heap.size, 0, none⟩, 0, 0⟩ ([] : List α) :=
  ⟨⟨[], ⟨by simp, .inr ⟨w.heap.size, 0, #[], rfl, Nat.le_refl _, heap_alloc_new w _, Nat.le_refl _, Nat.zero_le _, by simp, by simp⟩⟩, rfl, fun i x h => by simp at h⟩, rfl, fun _ h => h.elim, fun _ _ h => h.elim⟩
theorem apSpan : ApT Tryz.prog 50 61 6 48 := apT_mk (z := .agg #[.int .i64 0, .int .i64 0, .int .i64 0, .int .i64 0, .int .i64 0, .int .i64 0]) (by kernel_rfl) (by kernel_rfl) rfl (by decide)
theorem cloneSpan_se {s : Sl} {l : List Span} {S : Nat → Prop} {w : World} {R : Sl → World → Prop} (hS : Old S w) (hs : SlR spanE w S s l) (hR : ∀ t w', Ext w w' → SlP spanE w' (fun b => w.heap.size ≤ b ∧ b < w'.heap.size) t l → R t w') : SE.slices_Clone_apiSpanapiSpan s w R := by
  unfold SE.slices_Clone_apiSpanapiSpan
  refine ⟨fun h => ?_, fun h => ?_⟩
  · have : l = [] := by
      rcases hs.2.2.2.2 with h0 | ⟨ad, h1, _⟩
      · exact h0
      · rw [h] at h1; cases h1
    subst this
    exact hR _ _ (Ext.refl _) SlP.nil
  · intro a w1 ha hw
    subst ha
    have x1 : Ext w w1 := hw ▸ Ext.alloc _ _
    have own : OwnS spanE 61 w1 w.heap.size None' ⟨some ⟨w.heap.size, 0, none⟩, 0, 0⟩ [] := hw ▸ OwnS.empty w
    refine own.appAll apSpan x1.size (hs.ext x1) (hS.ext x1.size) (fun ad ha hb => ?_) (by simpa using hs.2.2.2.1) (by simpa using hs.max) fun r w2 own2 bel _ _ => ?_
    · simp only [Option.some.injEq] at ha
      subst ha
      have := hS _ hb
      simp at this
    · rw [List.nil_append] at own2
      have own3 := own2.flat fun h => h
      exact hR _ _ (x1.trans' bel) ((own3.readP hs.2.2.2.1 hs.max).mono fun b hb => by
        rcases hb with hb | ⟨ad, ha, rfl⟩
        · exact hb.elim
        · have := own3.block ha; exact ⟨this.1, this.2.1⟩)
theorem catOwn_se {s : Sl} {l : List Dep} {S : Nat → Prop} {w : World} {R : Sl → World → Prop} (hS : Old S w) (hs : SlR depE w S s l) (hR : ∀ t w', Ext w w' → SlP depP w' (fun b => w.heap.size ≤ b ∧ b < w'.heap.size) t l → R t w') : SE.catalog_own s w R := by
  unfold SE.catalog_own
  have hl := hs.len
  refine loop2.up hs.max (fun out i w' => Ext w w' ∧ ∃ Q, OwnS depP 63 w' w.heap.size Q out (l.take i) ∧ ∀ b, Q b → w.heap.size ≤ b) ⟨Ext.refl _, _, OwnS.zero _, fun _ h => h.elim⟩ fun out i w0 nxt hi ⟨x0, Q, own, hQ⟩ hn => ⟨fun hlt => ?_, fun hge => ?_⟩
  · have hlt' : i < l.length := by omega
    obtain ⟨ad, t, ha, _, hnm, hr, hc⟩ := depEl hs hlt'
    refine ⟨ad, ⟨ha, by omega, hlt⟩, _, t, hc _ (by (repeat (first | assumption | exact Ext.refl _ | refine Ext.trans ?_ (by assumption)))), newS.intro fun a w1 x1 hb hba _ => stw0.intro hb (by simp) fun w2' b2 _ hb2 => bnd.drew fun w2 x2 => ?_⟩
    have x2' : Ext w0 w2' := b2.ext x1 (by omega)
    have x02 : Ext w0 w2 := x2'.trans x2
    refine ⟨_, hb2.at0 (by (repeat (first | assumption | exact Ext.refl _ | refine Ext.trans ?_ (by assumption)))) rfl, t, hb2.at1 (by (repeat (first | assumption | exact Ext.refl _ | refine Ext.trans ?_ (by assumption)))) rfl, callX.intro (SE.slices_Clone_apiSpanapiSpan.go (cloneSpan_se (hS.ext (x0.trans x02).size) (hr.ext (x0.trans x02)) fun u w3 x3 hu => ⟨x3, _, rfl, ?_⟩))⟩
    refine newS.intro fun a7 w4 x4 hb7 ha7 hsz => ?_
    have x04 : Ext w0 w4 := x02.trans (x3.trans x4)
    have s2 := (x0.trans x02).size
    have s02 := x02.size
    have s4 := x4.size
    have hu' := (hu.ext x4).mono (S' := fun b => w2.heap.size ≤ b ∧ b < w4.heap.size) fun b hb => ⟨hb.1, by omega⟩
    have hlen : (l.take i).length = i := by rw [List.length_take]; omega
    have h4 := hs.2.2.2.1
    have e40 : depE.bytes = 40 := rfl
    have e41 : depP.bytes = 40 := rfl
    refine (own.ext x04).push apDep (x0.trans x04).size (x := l[i]) (S' := fun b => w2.heap.size ≤ b ∧ b < w4.heap.size) ⟨hnm, u, rfl, hu'⟩ hb7.ldc (fun b hb => hb.2) (fun ad ha hb => ?_) (by rw [hlen]; rw [e40] at h4; rw [e41]; omega) (by rw [hlen]; have := hs.max; omega) fun r w5 own5 bel _ _ => hn hlt' _ _ ⟨(x0.trans x04).trans' bel, _, by rw [List.take_succ_eq_append_getElem hlt']; exact own5, fun b hb => ?_⟩
    · have := (own.block ha).2.1
      omega
    · rcases hb with hb | hb
      · exact hQ b hb
      · omega
  · have : i = l.length := by omega
    rw [this, List.take_length] at own
    refine hR _ _ x0 ((own.readP hs.2.2.2.1 hs.max).mono fun b hb => ?_)
    rcases hb with hb | ⟨ad, ha, rfl⟩
    · exact ⟨hQ b hb, own.lt b hb⟩
    · have := own.block ha
      exact ⟨this.1, this.2.1⟩
end Go.Hal
namespace Go.Hal
open Go Go.RowKit Go.Proofs Go.Shelf
theorem But.size {g : Nat} {w w' : World} (h : But g w w') : w.heap.size ≤ w'.heap.size := h.1
theorem SlR.but {α : Type} {E : Enc α} {g : Nat} {w w' : World} {S : Nat → Prop} {s : Sl} {l : List α} (h : SlR E w S s l) (hb : But g w w') (hn : ¬ S g) : SlR E w' S s l := h.keep (hb.keep hn)
set_option maxHeartbeats 1000000 in
theorem copied_se {p : Pack} {d e o : Sl} {S : Nat → Prop} {w : World} {R : ByteArray → Int → Int → Int → Sl → Sl → Sl → World → Prop} (hS : Old S w) (hd : SlR depE w S d p.deps) (he : SlR depE w S e p.peers) (ho : SlR depE w S o p.opt)
    (hR : ∀ d' e' o' w', Ext w w' → SlP depP w' (fun b => w.heap.size ≤ b ∧ b < w'.heap.size) d' p.deps → SlP depP w' (fun b => w.heap.size ≤ b ∧ b < w'.heap.size) e' p.peers → SlP depP w' (fun b => w.heap.size ≤ b ∧ b < w'.heap.size) o' p.opt → R p.name p.v.ma p.v.mi p.v.pa d' e' o' w') :
    SE.catalog_copied p.name p.v.ma p.v.mi p.v.pa d e o w R := by
  unfold SE.catalog_copied
  refine newS.intro fun a w1 x1 hb ha _ => newS.intro fun a1 w2 x2 hb1 ha1 hs2 => bnd.drew fun w3 x3 => ?_
  have x03 : Ext w w3 := x1.trans (x2.trans x3)
  have s1 := x1.size; have s2 := x2.size; have s3 := x3.size
  refine ⟨d, hb.at1 (x2.trans x3) rfl, e, hb.at1 (x2.trans x3) rfl, o, hb.at1 (x2.trans x3) rfl, ?_⟩
  refine callX.intro (SE.catalog_own.go (catOwn_se (hS.ext x03.size) (hd.ext x03) fun d' w4 x4 hd' => ⟨x4, _, rfl, ?_⟩))
  refine callX.intro (SE.catalog_own.go (catOwn_se (hS.ext (x03.trans x4).size) (he.ext (x03.trans x4)) fun e' w5 x5 he' => ⟨x5, _, rfl, ?_⟩))
  refine SE.catalog_own.go (catOwn_se (hS.ext (x03.trans (x4.trans x5)).size) (ho.ext (x03.trans (x4.trans x5))) fun o' w6 x6 ho' => ⟨_, rfl, ?_⟩)
  have s4 := x4.size; have s5 := x5.size; have s6 := x6.size
  have x06 : Ext w w6 := x03.trans (x4.trans (x5.trans x6))
  have k1 : a.block < w3.heap.size := by have := hb.lt; omega
  have k2 : a1.block < w3.heap.size := by have := hb1.lt; omega
  have hD := (hd'.ext (x5.trans x6)).mono (S' := fun b => w3.heap.size ≤ b ∧ b < w6.heap.size) fun b hb => ⟨hb.1, by omega⟩
  have hE := (he'.ext x6).mono (S' := fun b => w3.heap.size ≤ b ∧ b < w6.heap.size) fun b hb => ⟨by omega, by omega⟩
  have hO := ho'.mono (S' := fun b => w3.heap.size ≤ b ∧ b < w6.heap.size) fun b hb => ⟨by omega, by omega⟩
  have hb6 : BoxAt w6 a _ := hb.ext (x2.trans (x3.trans (x4.trans (x5.trans x6))))
  have hb61 : BoxAt w6 a1 _ := hb1.ext (x3.trans (x4.trans (x5.trans x6)))
  refine stw.intro hb6 (by simp) fun w7 b7 _ hb7 => stw.intro hb7 (by simp) fun w8 b8 _ hb8 => stw.intro hb8 (by simp) fun w9 b9 _ hb9 => ⟨_, _, _, _, _, _, _, hb9.ldc.pre rfl, ?_⟩
  have hne : a1.block ≠ a.block := by have := hb.lt; omega
  refine stw0.intro (b9.box (b8.box (b7.box hb61 hne) hne) hne) (by simp) fun w10 b10 _ hb10 => ⟨_, _, _, _, _, _, _, hb10.ldc.pre rfl, ?_⟩
  have n1 : ¬ (w3.heap.size ≤ a.block ∧ a.block < w6.heap.size) := by omega
  have n2 : ¬ (w3.heap.size ≤ a1.block ∧ a1.block < w6.heap.size) := by omega
  have z7 := b7.size; have z8 := b8.size; have z9 := b9.size; have z10 := b10.size
  have up : ∀ b, (w3.heap.size ≤ b ∧ b < w6.heap.size) → (w.heap.size ≤ b ∧ b < w10.heap.size) := fun b hb => ⟨by omega, by omega⟩
  refine hR d' e' o' w10 ?_ (((((hD.but b7 n1).but b8 n1).but b9 n1).but b10 n2).mono up) (((((hE.but b7 n1).but b8 n1).but b9 n1).but b10 n2).mono up) (((((hO.but b7 n1).but b8 n1).but b9 n1).but b10 n2).mono up)
  exact b10.ext (b9.ext (b8.ext (b7.ext x06 (by omega)) (by omega)) (by omega)) (by omega)
end Go.Hal
namespace Go.Hal
open Go Go.RowKit Go.Proofs Go.Shelf
section
variable {P : Program} {mt : TypeId} {K : Value → Prop} {zero : Value} {w : World} {r : Nat} {m : List (Value × Value)}
theorem lookup_no (T : KeyT P mt K zero) (h : MapR K w r m) {k : Value} (hk : K k) (hn : ∀ p ∈ m, p.1 ≠ k) : stabS P (Instr.lookup mt (.map (some r)) k true) w (.tuple #[zero, .bool false]) := fun w' hx => by
  rcases lookup_run T (h.ext hx) hk with ⟨_, hr⟩ | ⟨v, hin, _⟩
  · exact hr true
  · exact absurd rfl (hn _ hin)
theorem lookup_yes (T : KeyT P mt K zero) (h : MapR K w r m) {k v : Value} (hk : K k) (hin : (k, v) ∈ m) : stabS P (Instr.lookup mt (.map (some r)) k true) w (.tuple #[v, .bool true]) := fun w' hx => by
  rcases lookup_run T (h.ext hx) hk with ⟨hn, _⟩ | ⟨u, hu, hr⟩
  · exact absurd rfl (hn _ hin)
  · rw [(h.ext hx).one hin hu]; exact hr true
theorem len_stab {kt et : TypeId} (hu : P.underlying mt = some (.map kt et)) (h : MapR K w r m) : stabS P (Builtin.len_ #[mt] 3 #[.map (some r)]) w (.int .i64 m.length) := fun w' hx => len_run hu (h.ext hx)
end
def packVal (x : Pack) (d e o : Sl) : Value := .agg #[.string x.name, .int .i64 x.v.ma, .int .i64 x.v.mi, .int .i64 x.v.pa, d.v, e.v, o.v]
def EntR (w : World) (S : Nat → Prop) (x : Pack) (kv : Value × Value) : Prop := ∃ d e o, kv = (keyV x.name x.v, packVal x d e o) ∧ Str x.name ∧ SlR depE w S d x.deps ∧ SlR depE w S e x.peers ∧ SlR depE w S o x.opt
structure CatR (w : World) (S : Nat → Prop) (p : Addr) (r : Nat) (ps : List Pack) : Prop where
  box : BoxAt w p [.map (some r)]
  map : ∃ m, MapR isKeyV w r m ∧ m.length = ps.length ∧ ∀ (i : Nat) (x : Pack), ps[i]? = some x → ∃ kv, m[i]? = some kv ∧ EntR w S x kv
  old : Old S w
  free : ¬ S r ∧ ¬ S p.block
  ne : p.block ≠ r
theorem EntR.mono {w : World} {S S' : Nat → Prop} {x : Pack} {kv : Value × Value} (h : EntR w S x kv) (hs : ∀ b, S b → S' b) : EntR w S' x kv := by
  obtain ⟨d, e, o, h1, h2, h3, h4, h5⟩ := h
  exact ⟨d, e, o, h1, h2, h3.mono hs, h4.mono hs, h5.mono hs⟩
theorem EntR.keep {w w' : World} {S : Nat → Prop} {x : Pack} {kv : Value × Value} (h : EntR w S x kv) (hk : Keep S w w') : EntR w' S x kv := by
  obtain ⟨d, e, o, h1, h2, h3, h4, h5⟩ := h
  exact ⟨d, e, o, h1, h2, h3.keep hk, h4.keep hk, h5.keep hk⟩
theorem CatR.ext {w w' : World} {S : Nat → Prop} {p : Addr} {r : Nat} {ps : List Pack} (h : CatR w S p r ps) (hx : Ext w w') : CatR w' S p r ps := by
  obtain ⟨m, h1, h2, h3⟩ := h.map
  exact ⟨h.box.ext hx, ⟨m, h1.ext hx, h2, fun i x hi => let ⟨kv, a, b⟩ := h3 i x hi; ⟨kv, a, b.keep (hx.keep S)⟩⟩, h.old.ext hx.size, h.free, h.ne⟩
theorem CatR.stay {w w' : World} {S : Nat → Prop} {p : Addr} {r : Nat} {ps : List Pack} (h : CatR w S p r ps) (hsz : w.heap.size ≤ w'.heap.size) (hk : ∀ b, b < w.heap.size → (S b ∨ b = p.block ∨ b = r) → w'.heap[b]? = w.heap[b]?) : CatR w' S p r ps := by
  obtain ⟨m, h1, h2, h3⟩ := h.map
  refine ⟨h.box.keep (S := fun b => b = p.block) rfl fun b hb hl => hk b hl (.inr (.inl hb)), ⟨m, h1.of (hk r h1.lt (.inr (.inr rfl))), h2, fun i x hi => let ⟨kv, a, b⟩ := h3 i x hi; ⟨kv, a, b.keep fun c hc hl => hk c hl (.inl hc)⟩⟩, h.old.ext hsz, h.free, h.ne⟩
def sameKey (n : ByteArray) (v : Ver) (x : Pack) : Bool := decide (x.name = n ∧ x.v = v)
theorem CatR.find {w : World} {S : Nat → Prop} {p : Addr} {r : Nat} {ps : List Pack} (h : CatR w S p r ps) (n : ByteArray) (v : Ver) :
    ∃ m, MapR isKeyV w r m ∧ m.length = ps.length ∧ ((ps.find? (sameKey n v) = none ∧ ∀ kv ∈ m, kv.1 ≠ keyV n v) ∨ ∃ x d e o, ps.find? (sameKey n v) = some x ∧ (keyV n v, packVal x d e o) ∈ m ∧ Str x.name ∧ SlR depE w S d x.deps ∧ SlR depE w S e x.peers ∧ SlR depE w S o x.opt) := by
  obtain ⟨m, h1, h2, h3⟩ := h.map
  refine ⟨m, h1, h2, ?_⟩
  cases hf : ps.find? (sameKey n v) with
  | none =>
    refine .inl ⟨rfl, fun kv hkv => ?_⟩
    obtain ⟨i, hi, he⟩ := List.mem_iff_getElem.1 hkv
    have hip : i < ps.length := by omega
    obtain ⟨kv', ha, d, e, o, hb, _⟩ := h3 i _ (List.getElem?_eq_getElem hip)
    rw [List.getElem?_eq_getElem hi, he, Option.some.injEq] at ha
    subst ha
    subst hb
    intro hk
    have := List.find?_eq_none.1 hf _ (List.getElem_mem hip)
    have hk' := keyV_inj.1 hk
    exact this (by simp [sameKey, hk'.1, hk'.2])
  | some x =>
    have hx := List.find?_some hf
    simp only [sameKey, decide_eq_true_eq] at hx
    obtain ⟨i, hi, he⟩ := List.mem_iff_getElem.1 (List.mem_of_find?_eq_some hf)
    obtain ⟨kv, ha, d, e, o, hb, hr⟩ := h3 i _ (List.getElem?_eq_getElem hi)
    rw [he] at hb hr
    subst hb
    exact .inr ⟨x, d, e, o, rfl, by rw [← hx.1, ← hx.2]; exact List.mem_of_getElem? ha, hr⟩
theorem catNew_se {w : World} {R : Option Addr → World → Prop} (hR : ∀ p r w', Ext w w' → CatR w' None' p r [] → w.heap.size ≤ r → w.heap.size ≤ p.block → R (some p) w') : SE.catalog_New w R := by
  unfold SE.catalog_New
  refine makeMap_intro (K := isKeyV) fun r w1 x1 hr1 hm => ⟨some r, rfl, newS.intro fun a w2 x2 hb ha _ => hR a r w2 (x1.trans x2) ⟨hb, ⟨[], hm.ext x2, rfl, fun i x h => by simp at h⟩, fun _ h => h.elim, ⟨fun h => h, fun h => h⟩, ?_⟩ (by omega) ?_⟩
  · have := hm.lt; omega
  · have := x1.size; omega
end Go.Hal
namespace Go.Hal
open Go Go.RowKit Go.Proofs Go.Shelf
def putRes (ps : List Pack) (x : Pack) : Int × List Pack :=
  if packMay x = false then (24, ps) else if (ps.find? (sameKey x.name x.v)).isSome then (11, ps) else if 128 ≤ ps.length then (26, ps) else (0, ps ++ [x])
theorem CatR.add {w : World} {S : Nat → Prop} {p : Addr} {r : Nat} {ps : List Pack} {x : Pack} {d e o : Sl} {B : Nat} (h : CatR w S p r ps) (hn : ps.find? (sameKey x.name x.v) = none) (hN : Str x.name) (hB : r < B ∧ p.block < B)
    (hd : SlR depE w (fun b => B ≤ b ∧ b < w.heap.size) d x.deps) (he : SlR depE w (fun b => B ≤ b ∧ b < w.heap.size) e x.peers) (ho : SlR depE w (fun b => B ≤ b ∧ b < w.heap.size) o x.opt) {c : World → Prop}
    (hc : ∀ w', But r w w' → CatR w' (fun b => S b ∨ (B ≤ b ∧ b < w.heap.size)) p r (ps ++ [x]) → c w') : semU Tryz.prog (Instr.mapUpdate 57 (.map (some r)) (keyV x.name x.v) (packVal x d e o)) w c := by
  obtain ⟨m, hm, hl, hf⟩ := h.find x.name x.v
  have hno : ∀ kv ∈ m, kv.1 ≠ keyV x.name x.v := by
    rcases hf with ⟨_, h⟩ | ⟨y, _, _, _, hy, _⟩
    · exact h
    · rw [hn] at hy; cases hy
  obtain ⟨m', hm', hl', hel⟩ := h.map
  have hmm : m' = m := by
    obtain ⟨es, cl, a, _, rfl, _⟩ := hm
    obtain ⟨es', cl', a', _, rfl, _⟩ := hm'
    rw [a] at a'; cases a'; rfl
  subst hmm
  refine update_new keyT hm ⟨_, _, rfl⟩ hno fun w' hb hsz hm2 => hc w' hb ?_
  have hS : ¬ (S r ∨ (B ≤ r ∧ r < w.heap.size)) := fun hh => by
    rcases hh with hh | hh
    · exact h.free.1 hh
    · omega
  refine ⟨hb.box h.box h.ne, ⟨_, hm2, by simp [hl], fun i y hi => ?_⟩, fun b hb' => ?_, ⟨hS, fun hh => ?_⟩, h.ne⟩
  · rw [List.getElem?_append] at hi
    split at hi
    · rename_i hil
      obtain ⟨kv, a, b⟩ := hel i y hi
      exact ⟨kv, by rw [List.getElem?_append_left (by omega)]; exact a, (b.mono fun _ h => .inl h).keep (hb.keep hS)⟩
    · rename_i hil
      have hi0 : i - ps.length = 0 := by
        rcases Nat.eq_zero_or_pos (i - ps.length) with h0 | h0
        · exact h0
        · rw [List.getElem?_eq_none (by simp; omega)] at hi; cases hi
      rw [hi0] at hi
      simp only [List.getElem?_cons_zero, Option.some.injEq] at hi
      subst hi
      have : EntR w (fun b => S b ∨ (B ≤ b ∧ b < w.heap.size)) x (keyV x.name x.v, packVal x d e o) := ⟨d, e, o, rfl, hN, hd.mono fun _ h => .inr h, he.mono fun _ h => .inr h, ho.mono fun _ h => .inr h⟩
      exact ⟨_, by rw [List.getElem?_append_right (by omega), hl, hi0]; rfl, this.keep (hb.keep hS)⟩
  · have := hb.size
    rcases hb' with hb' | hb'
    · have := h.old b hb'; omega
    · omega
  · rcases hh with hh | hh
    · exact h.free.2 hh
    · omega
set_option maxHeartbeats 2000000 in
theorem catPut_se {x : Pack} {d e o : Sl} {S S2 : Nat → Prop} {p : Addr} {r : Nat} {ps : List Pack} {w : World} {R : Int → World → Prop} (ht : Tab w) (hC : CatR w S p r ps) (hN : Str x.name) (hS2 : Old S2 w)
    (hd : SlR depE w S2 d x.deps) (he : SlR depE w S2 e x.peers) (ho : SlR depE w S2 o x.opt)
    (hR : ∀ S' w', But r w w' → CatR w' S' p r (putRes ps x).2 → (∀ b, S b → S' b) → (∀ b, S' b → S b ∨ w.heap.size ≤ b) → R (putRes ps x).1 w') : SE.catalog_Catalog_Put (some p) x.name x.v.ma x.v.mi x.v.pa d e o w R := by
  unfold SE.catalog_Catalog_Put
  have hrl : r < w.heap.size := by obtain ⟨m, hm, _⟩ := hC.map; exact hm.lt
  have hpl := hC.box.lt
  refine newS.intro fun a w1 x1 hb _ _ => ⟨_, _, _, _, _, _, _, hb.ldc.pre rfl, SE.pack_May.go (packMay_se (p := x) (ht.ext x1) hN (hd.ext x1) (he.ext x1) (ho.ext x1) fun w2 x2 => ⟨_, rfl, fun h => ?_, fun h => ?_⟩)⟩
  · have e : packMay x = false := by simpa using h
    have hp : putRes ps x = (24, ps) := by unfold putRes; rw [if_pos e]
    have := hR S w2 ((x1.trans x2).but r) (by rw [hp]; exact hC.ext (x1.trans x2)) (fun _ h => h) (fun _ h => .inl h)
    rw [hp] at this; exact this
  have hmay : packMay x = true := by simpa using h
  have x02 := x1.trans x2
  refine ⟨_, hb.at0 x2 rfl, _, _, _, hb.at1 x2 rfl, newS.intro fun a4 w3 x3 hb4 _ _ => stw0.intro hb4 (by simp) fun w4 b4 _ hb4 => bnd.drew fun w5 x5 => ?_⟩
  have s1 := x1.size; have s2 := x2.size; have s3 := x3.size
  have x24 : Ext w2 w4 := b4.ext x3 (by omega)
  have x25 : Ext w2 w5 := x24.trans x5
  have x05 : Ext w w5 := x02.trans x25
  have hC5 := hC.ext x05
  refine ⟨p, rfl, some r, hC5.box.ldc, _, _, _, _, hb4.at0 x5 rfl, ?_⟩
  obtain ⟨m, hm, hl, hf⟩ := hC5.find x.name x.v
  rcases hf with ⟨hnone, hno⟩ | ⟨y, dy, ey, oy, hsome, hin, _, _, _, _⟩
  · refine ⟨_, _, _, _, Sl.nil, Sl.nil, Sl.nil, false, lookup_no keyT hm ⟨_, _, rfl⟩ hno, newS.intro fun a12 w6 x6 hb12 _ _ => stw0.intro hb12 (by simp) fun w7 b7 _ hb12 => ⟨fun h => by (cases h), fun _ => ?_⟩⟩
    have x57 : Ext w5 w7 := b7.ext x6 (by omega)
    have hC7 := hC5.ext x57
    refine ⟨p, rfl, some r, hC7.box.ldc, _, len_stab Tryz.underlying57 (hm.ext x57), fun h => ?_, fun h => bnd.drew fun w8 x8 => ?_⟩
    · have hp : putRes ps x = (26, ps) := by unfold putRes; rw [if_neg (by rw [hmay]; simp), if_neg (by rw [hnone]; simp), if_pos (by omega)]
      have := hR S w7 ((x05.trans x57).but r) (by rw [hp]; exact hC7) (fun _ h => h) (fun _ h => .inl h)
      rw [hp] at this; exact this
    · have hp : putRes ps x = (0, ps ++ [x]) := by unfold putRes; rw [if_neg (by rw [hmay]; simp), if_neg (by rw [hnone]; simp), if_neg (by omega)]
      rw [hp] at hR
      have x58 : Ext w5 w8 := x57.trans x8
      have x08 : Ext w w8 := x05.trans x58
      have hC8 := hC5.ext x58
      refine ⟨p, rfl, some r, hC8.box.ldc, _, _, _, _, hb4.at0 (x5.trans x58) rfl, _, _, _, _, _, _, _, hb.at0 (x2.trans (x25.trans x58)) rfl, ?_⟩
      refine callX.intro (SE.catalog_copied.go (copied_se (p := x) (hS2.ext x08.size) (hd.ext x08) (he.ext x08) (ho.ext x08) fun d' e' o' w9 x9 hd' he' ho' => ⟨x9, _, _, _, _, d', e', o', rfl, ?_⟩))
      have s8 := x08.size
      refine (hC8.ext x9).add hnone hN ⟨by omega, by omega⟩ hd'.dep he'.dep ho'.dep fun w10 b10 hC10 => ?_
      refine hR _ w10 (((x08.trans x9).but r).trans b10) hC10 (fun _ h => .inl h) fun b hb => ?_
      rcases hb with hb | hb
      · exact .inl hb
      · right; omega
  · refine ⟨_, _, _, _, dy, ey, oy, true, lookup_yes keyT hm ⟨_, _, rfl⟩ hin, newS.intro fun a12 w6 x6 hb12 _ _ => stw0.intro hb12 (by simp) fun w7 b7 _ hb12 => ⟨fun _ => ?_, fun h => by (cases h)⟩⟩
    have x57 : Ext w5 w7 := b7.ext x6 (by omega)
    have hp : putRes ps x = (11, ps) := by unfold putRes; rw [if_neg (by rw [hmay]; simp), if_pos (by rw [hsome]; rfl)]
    have := hR S w7 ((x05.trans x57).but r) (by rw [hp]; exact hC5.ext x57) (fun _ h => h) (fun _ h => .inl h)
    rw [hp] at this; exact this
end Go.Hal
namespace Go.Hal
theorem Ord3.comap {α β : Type} {c : β → β → Int} (h : Ord3 c) (f : α → β) : Ord3 (fun a b => c (f a) (f b)) := ⟨fun x y => h.flip _ _, fun x y z => h.trans _ _ _⟩
theorem Ord3.swap {α : Type} {c : α → α → Int} (h : Ord3 c) : Ord3 (fun a b => c b a) := ⟨fun x y => h.flip _ _, fun x y z h1 h2 => h.trans _ _ _ h2 h1⟩
theorem Ord3.or {α : Type} {c d : α → α → Int} (h : Ord3 c) (k : Ord3 d) : Ord3 (fun a b => or2 (c a b) (d a b)) where
  flip := fun x y => by
    have h1 := h.flip x y; have h2 := h.flip y x; have h3 := k.flip x y
    have h0 := h.zero (x := x) (y := y)
    unfold or2
    by_cases hc : c x y = 0
    · simp only [hc, h0.1 hc, if_true]; exact h3
    · have : ¬ c y x = 0 := fun e => hc (h0.2 e)
      simp only [hc, this, if_false]; exact h1
  trans := fun x y z h1 h2 => by
    unfold or2 at *
    have z1 := h.zero (x := x) (y := y); have z2 := h.zero (x := y) (y := z)
    by_cases a : c x y = 0 <;> by_cases b : c y z = 0
    · simp only [a, if_true] at h1; simp only [b, if_true] at h2
      have e1 := h.trans x y z (by omega) (by omega)
      have e2 := h.trans z y x (by rw [z2.1 b]; omega) (by rw [z1.1 a]; omega)
      have f1 := h.flip z x; have f2 := h.flip x z
      have : c x z = 0 := by omega
      simp only [this, if_true]; exact k.trans x y z h1 h2
    · simp only [b, if_false] at h2
      have := h.lt_of' (x := x) (y := y) (z := z) (by omega) (by omega)
      split <;> omega
    · simp only [a, if_false] at h1
      have := h.lt_of (x := x) (y := y) (z := z) (by omega) (by omega)
      split <;> omega
    · simp only [a, if_false] at h1
      simp only [b, if_false] at h2
      have := h.lt_of (x := x) (y := y) (z := z) (by omega) (by omega)
      split <;> omega
theorem cmpI_ord : Ord3 cmpI := ⟨fun x y => by unfold cmpI; split <;> split <;> omega, fun x y z => by simp only [cmpI_le]; omega⟩
theorem Ver.cmp_ord : Ord3 Ver.cmp := (cmpI_ord.comap Ver.ma).or ((cmpI_ord.comap Ver.mi).or (cmpI_ord.comap Ver.pa))
theorem or2_lt {a b : Int} : or2 a b < 0 ↔ a < 0 ∨ (a = 0 ∧ b < 0) := by unfold or2; split <;> omega
def cP (a b : Pack) : Int := or2 (cmpS a.name b.name) (b.v.cmp a.v)
theorem cP_ord : Ord3 cP := (cmpS_ord Pack.name).or ((Ver.cmp_ord.comap Pack.v).swap)
theorem cP_zero {a b : Pack} : cP a b = 0 ↔ a.name = b.name ∧ a.v = b.v := by
  unfold cP or2
  by_cases h : cmpS a.name b.name = 0
  · have e := cmpS_zero.1 h
    rw [if_pos h, Ver.cmp_eq]; simp [e, eq_comm]
  · have : ¬ a.name = b.name := fun e => h (cmpS_zero.2 e)
    simp [h, this]
def OrdL (L : List Pack) : Prop := L.Pairwise fun a b => cP a b < 0
def aheadP (a b : Pack) : Bool := decide (cP a b < 0)
def putAt (x : Pack) (L : List Pack) : List Pack := L.takeWhile (aheadP · x) ++ x :: L.dropWhile (aheadP · x)
theorem putAt_perm (x : Pack) (L : List Pack) : (putAt x L).Perm (L ++ [x]) := by
  unfold putAt
  refine List.perm_middle.trans ?_
  rw [List.takeWhile_append_dropWhile]
  exact (List.perm_append_singleton x L).symm
theorem mem_takeWhile {α : Type} {p : α → Bool} {l : List α} {x : α} (h : x ∈ l.takeWhile p) : p x = true := by
  induction l with
  | nil => cases h
  | cons a r ih =>
    rw [List.takeWhile_cons] at h
    split at h
    · rename_i hp
      rcases List.mem_cons.1 h with rfl | h
      · exact hp
      · exact ih h
    · cases h
theorem putAt_ord {x : Pack} {L : List Pack} (h : OrdL L) (hn : ∀ y ∈ L, cP y x ≠ 0) : OrdL (putAt x L) := by
  unfold putAt OrdL at *
  have hsub1 : (L.takeWhile (aheadP · x)).Sublist L := List.takeWhile_sublist _
  have hsub2 : (L.dropWhile (aheadP · x)).Sublist L := List.dropWhile_sublist _
  have hd : ∀ y ∈ L.dropWhile (aheadP · x), cP x y < 0 := by
    intro y hy
    cases hD : L.dropWhile (aheadP · x) with
    | nil => rw [hD] at hy; cases hy
    | cons a r =>
      have ha : aheadP a x = false := by
        have := List.head?_dropWhile_not (aheadP · x) L
        rw [hD] at this
        simpa using this
      have hax : cP x a < 0 := by
        have h1 : ¬ cP a x < 0 := by simpa [aheadP] using ha
        have h2 := hn a (hsub2.subset (by rw [hD]; exact .head _))
        exact (cP_ord.flip x a).2 (by omega)
      rw [hD] at hy hsub2
      rcases List.mem_cons.1 hy with rfl | hy
      · exact hax
      · exact cP_ord.lt_of hax (Int.le_of_lt ((List.pairwise_cons.1 (h.sublist hsub2)).1 y hy))
  refine List.pairwise_append.2 ⟨h.sublist hsub1, List.pairwise_cons.2 ⟨hd, h.sublist hsub2⟩, fun a ha b hb => ?_⟩
  have hax : cP a x < 0 := by simpa [aheadP] using mem_takeWhile ha
  rcases List.mem_cons.1 hb with rfl | hb
  · exact hax
  · exact cP_ord.lt_of hax (Int.le_of_lt (hd b hb))
theorem OrdL.key {L : List Pack} (h : OrdL L) {a b : Pack} (ha : a ∈ L) (hb : b ∈ L) (hn : a.name = b.name) (hv : a.v = b.v) : a = b := by
  induction L with
  | nil => cases ha
  | cons x r ih =>
    obtain ⟨h1, h2⟩ := List.pairwise_cons.1 h
    rcases List.mem_cons.1 ha with e | ha' <;> rcases List.mem_cons.1 hb with e' | hb'
    · rw [e, e']
    · subst e; have := h1 b hb'; rw [cP_zero.2 ⟨hn, hv⟩] at this; omega
    · subst e'; have := h1 a ha'; rw [cP_zero.2 ⟨hn.symm, hv.symm⟩] at this; omega
    · exact ih h2 ha' hb'
def getL (L : List Pack) (n : ByteArray) (v : Ver) : Option Pack := L.find? (sameKey n v)
theorem getL_some {L : List Pack} {n : ByteArray} {v : Ver} {x : Pack} (h : getL L n v = some x) : x ∈ L ∧ x.name = n ∧ x.v = v := by
  have h1 := List.find?_some h
  simp only [sameKey, decide_eq_true_eq] at h1
  exact ⟨List.mem_of_find?_eq_some h, h1⟩
theorem getL_of {L : List Pack} (h : OrdL L) {x : Pack} (hx : x ∈ L) : getL L x.name x.v = some x := by
  cases hg : getL L x.name x.v with
  | none => exact absurd (by simp [sameKey]) (List.find?_eq_none.1 hg x hx)
  | some y =>
    obtain ⟨a, b, c⟩ := getL_some hg
    rw [h.key a hx b c]
theorem getL_perm {L ps : List Pack} (h : OrdL L) (hp : L.Perm ps) (n : ByteArray) (v : Ver) : ps.find? (sameKey n v) = getL L n v := by
  cases hg : getL L n v with
  | none =>
    rw [List.find?_eq_none]
    intro x hx
    exact List.find?_eq_none.1 hg x (hp.mem_iff.2 hx)
  | some x =>
    obtain ⟨a, b, c⟩ := getL_some hg
    cases hf : ps.find? (sameKey n v) with
    | none => exact absurd (by simp [sameKey, b, c]) (List.find?_eq_none.1 hf x (hp.mem_iff.1 a))
    | some y =>
      have h1 := List.find?_some hf
      simp only [sameKey, decide_eq_true_eq] at h1
      rw [h.key (hp.mem_iff.2 (List.mem_of_find?_eq_some hf)) a (h1.1.trans b.symm) (h1.2.trans c.symm)]
structure GoodL (L : List Pack) : Prop where
  ord : OrdL L
  le : L.length ≤ 128
  may : ∀ x ∈ L, packMay x = true
theorem GoodL.nil : GoodL [] := ⟨.nil, by simp, by simp⟩
def refPut (L : List Pack) (x : Pack) : Int × List Pack :=
  if packMay x = false then (24, L) else if (getL L x.name x.v).isSome then (11, L) else if 128 ≤ L.length then (26, L) else (0, putAt x L)
theorem refPut_good {L : List Pack} (h : GoodL L) (x : Pack) : GoodL (refPut L x).2 := by
  unfold refPut
  split
  · exact h
  · rename_i hm
    split
    · exact h
    · rename_i hs
      split
      · exact h
      · rename_i hl
        have hp := putAt_perm x L
        refine ⟨putAt_ord h.ord fun y hy e => hs ?_, by show (putAt x L).length ≤ 128; rw [hp.length_eq]; simp; omega, fun y hy => ?_⟩
        · obtain ⟨h1, h2⟩ := cP_zero.1 e
          rw [← h1, ← h2, getL_of h.ord hy]; rfl
        · rcases List.mem_append.1 (hp.mem_iff.1 hy) with hy | hy
          · exact h.may y hy
          · simp at hy; subst hy; simpa using hm
theorem put_same {L ps : List Pack} (h : GoodL L) (hp : L.Perm ps) (x : Pack) : (putRes ps x).1 = (refPut L x).1 ∧ (refPut L x).2.Perm (putRes ps x).2 := by
  unfold putRes refPut
  rw [getL_perm h.ord hp, hp.length_eq]
  split
  · exact ⟨rfl, hp⟩
  · split
    · exact ⟨rfl, hp⟩
    · split
      · exact ⟨rfl, hp⟩
      · exact ⟨rfl, (putAt_perm x L).trans (hp.append_right _)⟩
def hasN (n : ByteArray) (x : Pack) : Bool := decide (x.name = n)
def versOf (n : ByteArray) (L : List Pack) : List Ver := (L.filter (hasN n)).map (·.v)
theorem versOf_falls {L : List Pack} (h : OrdL L) (n : ByteArray) : (versOf n L).Pairwise fun a b => b.cmp a < 0 := by
  unfold versOf
  rw [List.pairwise_map]
  have h1 : (L.filter (hasN n)).Pairwise fun a b => cP a b < 0 := h.sublist List.filter_sublist
  refine h1.imp_of_mem fun {a b} ha hb hc => ?_
  have ha := (List.mem_filter.1 ha).2; have hb := (List.mem_filter.1 hb).2
  simp only [hasN, decide_eq_true_eq] at ha hb
  unfold cP at hc
  rw [or2_lt, ha, hb, cmpS_zero.2 rfl] at hc
  omega
theorem falls_one {l m : List Ver} (h1 : l.Pairwise fun a b => ¬ a.cmp b < 0) (h2 : m.Pairwise fun a b => b.cmp a < 0) (hp : l.Perm m) : l = m := by
  have hn : m.Nodup := by
    rw [List.nodup_iff_pairwise_ne]
    refine h2.imp fun {a b} h e => ?_
    subst e
    have := Ver.cmp_eq.2 (rfl : a = a); omega
  have hn' := hp.nodup_iff.2 hn
  rw [List.nodup_iff_pairwise_ne] at hn'
  refine sorted_one (R := fun a b : Ver => b.cmp a < 0) (fun x y a b => ?_) ((h1.and hn').imp fun {a b} h => ?_) h2 hp
  · have := Ver.cmp_ord.flip x y; have := Ver.cmp_ord.flip y x; omega
  · have h0 : a.cmp b ≠ 0 := fun e => h.2 (Ver.cmp_eq.1 e)
    exact (Ver.cmp_ord.flip b a).2 (by omega)
theorem versOf_perm {L ps : List Pack} (hp : L.Perm ps) (n : ByteArray) : (versOf n L).Perm ((ps.filter (hasN n)).map (·.v)) := (hp.filter _).map _
def pinB (pins : List Pin) (n : ByteArray) (v : Ver) : Bool := decide ((⟨n, v⟩ : Pin) ∈ pins)
def cands (L : List Pack) (n : ByteArray) (l : List Span) (pins : List Pin) : List Ver :=
  let all := (versOf n L).filter (spansIn l)
  all.filter (pinB pins n) ++ all.filter fun v => !pinB pins n v
def ordB (b : Bool) : Int := if b then 1 else 0
def cC (pins : List Pin) (n : ByteArray) (a b : Ver) : Int := ordB (pinB pins n b) - ordB (pinB pins n a)
theorem cC_ord (pins : List Pin) (n : ByteArray) : Ord3 (cC pins n) := ⟨fun x y => by unfold cC; omega, fun x y z => by unfold cC; omega⟩
theorem stIns_split {α : Type} (p : α → Bool) (x : α) (l m : List α) (hl : ∀ y ∈ l, p y = true) (hm : ∀ y ∈ m, p y = false) :
    stIns (fun a b => ordB (p b) - ordB (p a)) x (l ++ m) = if p x then x :: (l ++ m) else l ++ x :: m := by
  induction l with
  | nil =>
    rw [List.nil_append]
    cases m with
    | nil => simp [stIns]
    | cons y r =>
      have hy := hm y (.head _)
      unfold stIns
      rw [hy]
      have : ordB false - ordB (p x) ≤ 0 := by unfold ordB; cases p x <;> decide
      rw [if_pos this]; simp
  | cons y r ih =>
    have hy := hl y (.head _)
    rw [List.cons_append, stIns, hy]
    cases hx : p x
    · have : ¬ (ordB true - ordB false ≤ 0) := by decide
      rw [if_neg this, ih fun z hz => hl z (.tail _ hz), hx]; simp
    · have : ordB true - ordB true ≤ 0 := by decide
      rw [if_pos this]; simp
theorem stSort_split {α : Type} (p : α → Bool) (l : List α) : stSort (fun a b => ordB (p b) - ordB (p a)) l = l.filter p ++ l.filter fun x => !p x := by
  induction l with
  | nil => rfl
  | cons x r ih =>
    rw [stSort, ih, stIns_split p x _ _ (fun y hy => (List.mem_filter.1 hy).2) (fun y hy => by simpa using (List.mem_filter.1 hy).2)]
    cases h : p x <;> simp [List.filter_cons, h]
theorem cands_sort (L : List Pack) (n : ByteArray) (l : List Span) (pins : List Pin) : stSort (cC pins n) ((versOf n L).filter (spansIn l)) = cands L n l pins := stSort_split (pinB pins n) _
end Go.Hal
namespace Go.Hal
open Go Go.RowKit Go.Proofs Go.Shelf Go.Lib Go.Sort
section
variable {α : Type} [Inhabited α]
theorem flat_get {k : Nat} (f : α → List Value) (hk : ∀ x, (f x).length = k) : ∀ (l : List α) (j : Nat), j < l.length * k → ((l.map f).flatten)[j]? = some ((f (l.toArray[j / k]!))[j % k]!)
  | [], j, h => by simp at h
  | a :: l, j, h => by
    have hk0 : 0 < k := by rcases Nat.eq_zero_or_pos k with h0 | h0; · rw [h0] at h; simp at h
                           · exact h0
    rw [List.map_cons, List.flatten_cons]
    by_cases hj : j < k
    · rw [List.getElem?_append_left (by rw [hk]; exact hj), Nat.div_eq_of_lt hj, Nat.mod_eq_of_lt hj, List.getElem?_eq_getElem (by rw [hk]; exact hj)]
      have : (f a)[j]! = (f a)[j]'(by rw [hk]; exact hj) := getElem!_pos _ _ (by rw [hk]; exact hj)
      simp [this]
    · rw [List.getElem?_append_right (by rw [hk]; omega), hk]
      have h1 : j - k < l.length * k := by rw [List.length_cons, Nat.add_mul] at h; omega
      rw [flat_get f hk l (j - k) h1]
      have h2 : j / k = (j - k) / k + 1 := by rw [Nat.div_eq_sub_div hk0 (by omega)]
      have h3 : j % k = (j - k) % k := Nat.mod_eq_sub_mod (by omega)
      rw [h2, h3]
      simp
theorem holds_of_row {k : Nat} {f : α → List Value} (hk : ∀ x, (f x).length = k) {w : World} {g : Nat} {l : List α} {tail : List Value} (h : RowB f w g l tail) : HoldsK f k w g 0 l.toArray := by
  obtain ⟨t, _, _, hb⟩ := h
  intro j hj
  have hj' : j < l.length * k := by simpa using hj
  rw [get_flatK _ _ _ _ (by simpa using hj')]
  have hg := flat_get f hk l j hj'
  have hlt : j < ((l.map f).flatten).length := by rw [flat_len f hk]; exact hj'
  constructor
  · simp only [World.cell?, hb, Nat.zero_add]
    rw [List.getElem?_toArray]
    rw [List.getElem?_append_left hlt, hg]; rfl
  · simp [World.frozen?, hb]
theorem permIn_list {d d' : Array α} (h : PermIn 0 d.size d d') : d'.toList.Perm d.toList := by
  obtain ⟨h1, _, h3⟩ := h
  have e1 : d'.extract 0 d.size = d' := by rw [← h1]; simp
  have e2 : d.extract 0 d.size = d := by simp
  rw [e1, e2] at h3; exact h3
theorem sortedIn_list {lt : α → α → Bool} {d d' : Array α} (hs : d'.size = d.size) (h : SortedIn lt 0 d.size d') : d'.toList.Pairwise fun x y => lt y x = false := by
  rw [List.pairwise_iff_getElem]
  intro i j hi hj hij
  have hj' : j < d.size := by rw [← hs]; simpa using hj
  have := h i j (Nat.zero_le _) hij hj'
  rw [getElem!_pos _ _ (by omega), getElem!_pos _ _ (by omega)] at this
  simpa using this
theorem row_put {k : Nat} {f : α → List Value} (hk : ∀ x, (f x).length = k) {w : World} {g n : Nat} {l l' : List α} {tail : List Value} {os : Array Obj} (h : RowB f w g l tail) (hl : l'.length = l.length) :
    But g w (sortWorldK f k w g 0 n l'.toArray os) ∧ RowB f (sortWorldK f k w g 0 n l'.toArray os) g l' tail ∧ w.drawn ≤ (sortWorldK f k w g 0 n l'.toArray os).drawn := by
  obtain ⟨t, _, _, hb⟩ := h
  have hgl : g < w.heap.size := (Array.getElem?_eq_some_iff.1 hb).1
  have hh : (sortWorldK f k w g 0 n l'.toArray os).heap = w.heap.modify g (onCells (putCells id 0 (flatK f k l'.toArray))) ++ os := rfl
  refine ⟨⟨by rw [hh]; simp, rfl, rfl, rfl, fun b hbl hne => ?_⟩, ⟨t, rfl, rfl, ?_⟩, ?_⟩
  · rw [hh, Array.getElem?_append_left (by simpa using hbl), Array.getElem?_modify, if_neg (Ne.symm hne)]
  · rw [hh, Array.getElem?_append_left (by simpa using hgl), Array.getElem?_modify, if_pos rfl, hb]
    simp only [Option.map_some, onCells, Option.some.injEq, Obj.cells.injEq, and_true]
    apply Array.ext_getElem?
    intro j
    simp only [putCells, Array.getElem?_mapIdx, List.getElem?_toArray, Nat.zero_le, true_and, Nat.zero_add, Nat.sub_zero, size_flatK, List.size_toArray, id]
    have e1 := flat_len f hk l; have e2 := flat_len f hk l'
    by_cases hj : j < l'.length * k
    · rw [List.getElem?_append_left (by rw [e1, ← hl]; exact hj), List.getElem?_append_left (by rw [e2]; exact hj), List.getElem?_eq_getElem (by rw [e1, ← hl]; exact hj)]
      simp only [Option.map_some, if_pos hj]
      rw [get_flatK _ _ _ _ (by simpa using hj), flat_get f hk l' j hj]
    · rw [List.getElem?_append_right (by rw [e1, ← hl]; omega), List.getElem?_append_right (by rw [e2]; omega), e1, e2, hl]
      cases tail[j - l.length * k]? with
      | none => rfl
      | some v => simp only [Option.map_some]; rw [if_neg (by rw [← hl]; exact hj)]
  · show w.drawn ≤ w.drawn + n
    omega
theorem sortFunc_k {P : Program} {ρ : Ren} (L : SlLaysF0.n6 P ρ) {k : Nat} (aE : ∀ w, (isAgg (ρ.t 24)).run P w = .ok true w) (zE : ∀ w, (Go.sizeOf (ρ.t 24)).run P w = .ok k w) {f : α → List Value} (hk : ∀ x, (f x).length = k) (h1 : ∀ x, ∀ v ∈ f x, v.oneCell' = true)
    (cf : α → α → Int) (hO : SWO (ltOf cf)) (gf : Nat) (cb : Array Value) (eg : ∀ args w, (callFunc gf args).run P w = .ok (.enter gf args) w) {w : World} {g cap : Nat} {l : List α} {tail : List Value}
    (hcmp : ∀ w0 x y, But g w w0 → w.drawn ≤ w0.drawn → Calls P gf (#[.agg (f x).toArray, .agg (f y).toArray] ++ cb) w0 fun e w' => e = .returned (.int .i64 (cf x y)) ∧ ∃ q os', w' = grow (w0.drewN q) os')
    (hR : RowB f w g l tail) (hsz : l.length < 4611686018427387904) {K : Value → World → Prop} {F : Nat} (hF : ρ.f 6 = F)
    (hK : ∀ l' w', l'.Perm l → l'.Pairwise (fun x y => ¬ cf y x < 0) → But g w w' → RowB f w' g l' tail → K (.tuple #[]) w') : callS P F [Sl.v ⟨some ⟨g, 0, none⟩, l.length, cap⟩, .func (.func gf) #[] cb] w K := by
  subst hF
  have hgl : g < w.heap.size := by obtain ⟨t, _, _, hb⟩ := hR; exact (Array.getElem?_eq_some_iff.1 hb).1
  have hC : CmpLays P gf cb f k cf g 0 l.toArray.size w := fun m os dk hs x y => by
    have := row_put hk (n := m) (os := os) (l' := dk.toList) hR (by simpa using hs)
    exact hcmp _ x y this.1 this.2.2
  have h := AnyQ.slices_SortFunc L k aE zE f hk h1 cf hO gf cb g 0 cap l.toArray w eg hC (holds_of_row hk hR) hgl (by simpa using hsz)
  refine h.mono fun e w' ⟨he, d', n, os, hp, hs, hw⟩ => ⟨_, he, ?_⟩
  have hps := permIn_list hp
  have hlen : d'.toList.length = l.length := by simpa using hp.1
  have hput := row_put hk (n := n) (os := os) (l' := d'.toList) hR hlen
  rw [Array.toArray_toList, ← hw] at hput
  exact hK d'.toList w' (by simpa using hps) ((sortedIn_list hp.1 hs).imp fun h => by simpa [ltOf] using h) hput.1 hput.2.1
omit [Inhabited α] in
theorem swo_ltOf {cf : α → α → Int} (flip : ∀ x y, cf x y < 0 ↔ 0 < cf y x) (trans : ∀ x y z, cf x y ≤ 0 → cf y z ≤ 0 → cf x z ≤ 0) : SWO (ltOf cf) where
  irrefl x := by
    have := flip x x
    simp only [ltOf, decide_eq_false_iff_not]; omega
  trans x y z h1 h2 := by
    simp only [ltOf, decide_eq_true_eq] at *
    have a := flip x y; have b := flip y z; have c := flip x z; have d := flip z x; have e := flip z y; have f := flip y x
    have g := trans x y z (by omega) (by omega)
    by_cases h0 : cf x z = 0
    · have k := trans z x y (by omega) (by omega)
      omega
    · omega
  ntrans x y z h1 h2 := by
    simp only [ltOf, decide_eq_false_iff_not] at *
    have a := flip x y; have b := flip y z; have c := flip x z; have d := flip z x; have e := flip z y; have f := flip y x
    have := trans z y x (by omega) (by omega)
    omega
end
end Go.Hal
namespace Go.Hal
open Go Go.RowKit Go.Proofs Go.Shelf Go.Sort
def Gr (w w' : World) : Prop := ∃ q os, w' = grow (w.drewN q) os
theorem Gr.refl (w : World) : Gr w w := ⟨0, #[], by simp [World.drewN]⟩
theorem Gr.trans {a b c : World} (h : Gr a b) (k : Gr b c) : Gr a c := by
  obtain ⟨q, os, rfl⟩ := h
  obtain ⟨r, os', rfl⟩ := k
  refine ⟨q + r, os ++ os', ?_⟩
  simp [grow, World.drewN, Array.append_assoc, Nat.add_assoc]
theorem Gr.alloc (w : World) (o : Obj) : Gr w (w.alloc o) := ⟨0, #[o], by simp [alloc_eq_grow, World.drewN]⟩
theorem Gr.drew (w : World) : Gr w w.drew := ⟨1, #[], (grow_empty (w.drewN 1)).symm⟩
theorem Gr.ext {w w' : World} (h : Gr w w') : Ext w w' := by
  obtain ⟨q, os, rfl⟩ := h
  exact ⟨rfl, rfl, rfl, by simp [grow, World.drewN], fun k hk => by simp only [grow, World.drewN]; rw [Array.getElem?_append_left hk]⟩
theorem newS.gr {w : World} {cs : List Value} {t : TypeId} {k : Addr → World → Prop} (h : ∀ a w', Gr w w' → BoxAt w' a cs → k a w') : newS w cs t k := fun a w' ha hw => by
  subst ha hw
  exact h _ _ (Gr.alloc _ _) ⟨t, rfl, rfl, heap_alloc_new w _⟩
theorem bnd.gr {w : World} {k : World → Prop} (h : ∀ w', Gr w w' → k w') : bnd w.drew k := fun _ e => h _ (e ▸ Gr.drew w)
theorem Gr.at0 {w w' : World} {a : Addr} {cs cs' r : List Value} (h : BoxAt w a cs) (hx : Gr w w') (hp : cs = cs' ++ r) : Go.Hal.ldc w' a cs' := h.at0 hx.ext hp
theorem Gr.at1 {w w' : World} {a : Addr} {k : Nat} {cs cs' r : List Value} (h : BoxAt w a cs) (hx : Gr w w') (hp : cs.drop k = cs' ++ r) : Go.Hal.ldc w' (a.add k) cs' := h.at1 hx.ext hp
theorem versCompare_gr {a b : Ver} {w : World} {R : Int → World → Prop} (hR : ∀ w', Gr w w' → R (a.cmp b) w') : SE.vers_Compare a.ma a.mi a.pa b.ma b.mi b.pa w R := by
  unfold SE.vers_Compare
  refine newS.gr fun _ w1 x1 hb => newS.gr fun _ w2 x2 hb2 => bnd.gr fun w3 x3 => ?_
  have x13 := x2.trans x3
  refine ⟨_, Gr.at0 hb x13 rfl, _, Gr.at0 hb2 x3 rfl, ?_⟩
  refine ⟨_, Gr.at1 hb x13 rfl, _, Gr.at1 hb2 x3 rfl, ?_⟩
  refine ⟨_, Gr.at1 hb x13 rfl, _, Gr.at1 hb2 x3 rfl, ?_⟩
  refine callX.intro (SE.cmp_Compare_int.go (cmpInt_se ⟨Ext.refl _, _, rfl, callX.intro (SE.cmp_Compare_int.go (cmpInt_se ⟨Ext.refl _, _, rfl, SE.cmp_Compare_int.go (cmpInt_se ⟨_, rfl, ?_⟩)⟩))⟩))
  refine newS.gr fun a16 w4 x4 hb4 => SE.cmp_Or_int.go (cmpOr3_se (box_ints (l := [_, _, _]) hb4 (by simp)) ⟨_, rfl, ?_⟩)
  exact hR _ (x1.trans (x13.trans x4))
theorem falling_gr {a b : Ver} {w : World} {R : Int → World → Prop} (hR : ∀ w', Gr w w' → R (b.cmp a) w') : SE.catalog_falling a.ma a.mi a.pa b.ma b.mi b.pa w R := by
  unfold SE.catalog_falling
  refine newS.gr fun _ w1 x1 hb => newS.gr fun _ w2 x2 hb2 => ?_
  refine ⟨_, _, _, Gr.at0 hb2 (Gr.refl _) rfl, _, _, _, Gr.at0 hb x2 rfl, SE.vers_Compare.go (versCompare_gr (a := b) (b := a) fun w3 x3 => ⟨_, rfl, hR _ (x1.trans (x2.trans x3))⟩)⟩
theorem cmpL (x : List UInt8) : ∀ y : List UInt8, Lib.compareBytes x y = if Op.bytesLess x y = true then -1 else if x = y then 0 else 1 := by
  induction x with
  | nil => intro y; cases y <;> simp [Lib.compareBytes, Op.bytesLess]
  | cons u x ih =>
    intro y
    cases y with
    | nil => simp [Lib.compareBytes, Op.bytesLess]
    | cons v y =>
      rw [bl_cons]
      simp only [Lib.compareBytes]
      by_cases h1 : u < v
      · simp [h1]
      · by_cases h2 : v < u
        · have hne : ¬ u = v := fun e => by subst e; exact h1 h2
          simp [h1, h2, hne]
        · have he : u = v := UInt8.le_antisymm (UInt8.not_lt.1 h2) (UInt8.not_lt.1 h1)
          subst he
          simp [ih y]
theorem cmpB (a b : ByteArray) : Lib.compareBytes a.data.toList b.data.toList = cmpS a b := by
  rw [cmpL]
  have e1 : Op.bytesLess a.data.toList b.data.toList = bLt a b := by rw [← toList_data, ← toList_data]; rfl
  rw [e1, cmpS]
  cases h : bLt a b
  · simp only [Bool.false_eq_true, if_false]
    by_cases he : a = b
    · subst he; simp [bEq_iff.2 rfl]
    · have h2 : ¬ a.data.toList = b.data.toList := fun e => he (ba_ext e)
      have h3 : bEq a b = false := by rw [Bool.eq_false_iff]; exact fun e => he (bEq_iff.1 e)
      simp [h2, h3]
  · simp
theorem strCmp_k {a b : ByteArray} {w : World} {k : Value → World → Prop} (hk : k (.int .i64 (cmpS a b)) w) : callS Tryz.prog 49 [.string a, .string b] w k :=
  (Any.strings_Compare Tryz.layCo a b w).mono fun e w' ⟨he, hw⟩ => ⟨_, he, by rw [hw, cmpB]; exact hk⟩
end Go.Hal
/-
  DERIVED: THE SHELF's CONTRACTS AT THIS DUMP, IN PLAIN WORDS (tools/lay-plain.mjs out of 'YtpdjadmnnadkfaaGreatDoorLay2.lean', which tools/lay-shelf.mjs wrote): THE SAME DECLARATIONS UNDER THE SAME NAMES: 'import', 'namespace', 'open', 'def', 'theorem' AND NOTHING ELSE: no command of the shelf's: FOR A HAND-IN. Each laying: the table of numbers ('.._ren') and one theorem, a field a fact of the dump's own or the kernel's comparison; each contract: ONE APPLICATION.
-/
namespace Go.Proofs
open Go.Shelf
def Tryz.laySv_ren : Go.Shelf.Ren := ⟨fun | 6 => 59 | 15 => 86 | 14 => 96 | 28 => 128 | 29 => 129 | 20 => 101 | 21 => 133 | 22 => 134 | 23 => 135 | 24 => 136 | 25 => 137 | 26 => 138 | 27 => 139 | 46 => 166 | 47 => 162 | 48 => 163 | 49 => 167 | 50 => 168 | 57 => 180 | n => n, fun | 22 => 48 | 24 => 37 | 25 => 92 | 3 => 3 | 39 => 157 | 0 => 0 | 53 => 197 | 55 => 199 | 4 => 4 | 46 => 191 | 45 => 190 | 50 => 164 | 5 => 5 | 9 => 9 | 66 => 218 | 70 => 222 | 76 => 231 | 77 => 232 | n => n, fun | n => n⟩
theorem Tryz.laySv : Go.Proofs.SlLaysF0.n6 Tryz.prog Tryz.laySv_ren := {
  mixed := by kernel_rfl
  f6 := ⟨Tryz.f59.name, by decide, Tryz.func59.trans (congrArg some (by kernel_rfl))⟩
  f14 := ⟨Tryz.f96.name, by decide, Tryz.func96.trans (congrArg some (by kernel_rfl))⟩
  f15 := Tryz.func86.trans (congrArg some (by kernel_rfl))
  f20 := ⟨Tryz.f101.name, by decide, Tryz.func101.trans (congrArg some (by kernel_rfl))⟩
  f21 := ⟨Tryz.f133.name, by decide, Tryz.func133.trans (congrArg some (by kernel_rfl))⟩
  f22 := ⟨Tryz.f134.name, by decide, Tryz.func134.trans (congrArg some (by kernel_rfl))⟩
  f23 := ⟨Tryz.f135.name, by decide, Tryz.func135.trans (congrArg some (by kernel_rfl))⟩
  f24 := ⟨Tryz.f136.name, by decide, Tryz.func136.trans (congrArg some (by kernel_rfl))⟩
  f25 := ⟨Tryz.f137.name, by decide, Tryz.func137.trans (congrArg some (by kernel_rfl))⟩
  f26 := ⟨Tryz.f138.name, by decide, Tryz.func138.trans (congrArg some (by kernel_rfl))⟩
  f27 := ⟨Tryz.f139.name, by decide, Tryz.func139.trans (congrArg some (by kernel_rfl))⟩
  f28 := Tryz.func128.trans (congrArg some (by kernel_rfl))
  f29 := Tryz.func129.trans (congrArg some (by kernel_rfl))
  f46 := ⟨Tryz.f166.name, by decide, Tryz.func166.trans (congrArg some (by kernel_rfl))⟩
  f47 := Tryz.func162.trans (congrArg some (by kernel_rfl))
  f48 := Tryz.func163.trans (congrArg some (by kernel_rfl))
  f49 := ⟨Tryz.f167.name, by decide, Tryz.func167.trans (congrArg some (by kernel_rfl))⟩
  f50 := ⟨Tryz.f168.name, by decide, Tryz.func168.trans (congrArg some (by kernel_rfl))⟩
  f57 := ⟨Tryz.f180.name, by decide, Tryz.func180.trans (congrArg some (by kernel_rfl))⟩
  t0 := Tryz.underlying0
  a0 := Tryz.isAgg0
  z0 := Tryz.sizeOf0
  v0 := Tryz.zeroValue0
  t3 := Tryz.underlying3
  a3 := Tryz.isAgg3
  z3 := Tryz.sizeOf3
  v3 := Tryz.zeroValue3
  t4 := Tryz.underlying4
  a4 := Tryz.isAgg4
  z4 := Tryz.sizeOf4
  v4 := Tryz.zeroValue4
  t5 := Tryz.underlying5
  a5 := Tryz.isAgg5
  z5 := Tryz.sizeOf5
  v5 := Tryz.zeroValue5
  t9 := Tryz.underlying9
  a9 := Tryz.isAgg9
  z9 := Tryz.sizeOf9
  v9 := Tryz.zeroValue9
  t22 := Tryz.underlying48
  a22 := Tryz.isAgg48
  z22 := Tryz.sizeOf48
  v22 := Tryz.zeroValue48
  t25 := Tryz.underlying92
  a25 := Tryz.isAgg92
  z25 := Tryz.sizeOf92
  v25 := Tryz.zeroValue92
  t39 := Tryz.underlying157
  a39 := Tryz.isAgg157
  z39 := Tryz.sizeOf157
  v39 := Tryz.zeroValue157
  t45 := Tryz.underlying190
  a45 := Tryz.isAgg190
  z45 := Tryz.sizeOf190
  v45 := Tryz.zeroValue190
  t46 := Tryz.underlying191
  a46 := Tryz.isAgg191
  z46 := Tryz.sizeOf191
  v46 := Tryz.zeroValue191
  t50 := Tryz.underlying164
  a50 := Tryz.isAgg164
  z50 := Tryz.sizeOf164
  v50 := Tryz.zeroValue164
  t53 := Tryz.underlying197
  a53 := Tryz.isAgg197
  z53 := Tryz.sizeOf197
  v53 := Tryz.zeroValue197
  t55 := Tryz.underlying199
  a55 := Tryz.isAgg199
  z55 := Tryz.sizeOf199
  v55 := Tryz.zeroValue199
  t66 := Tryz.underlying218
  a66 := Tryz.isAgg218
  z66 := Tryz.sizeOf218
  v66 := Tryz.zeroValue218
  t70 := Tryz.underlying222
  a70 := Tryz.isAgg222
  z70 := Tryz.sizeOf222
  v70 := Tryz.zeroValue222
  t76 := Tryz.underlying231
  a76 := Tryz.isAgg231
  z76 := Tryz.sizeOf231
  v76 := Tryz.zeroValue231
  t77 := Tryz.underlying232
  a77 := Tryz.isAgg232
  z77 := Tryz.sizeOf232
  v77 := Tryz.zeroValue232 }
def Tryz.laySp_ren : Go.Shelf.Ren := ⟨fun | 6 => 47 | 15 => 86 | 14 => 85 | 28 => 128 | 29 => 129 | 20 => 120 | 21 => 121 | 22 => 122 | 23 => 123 | 24 => 124 | 25 => 125 | 26 => 126 | 27 => 127 | 46 => 161 | 47 => 162 | 48 => 163 | 49 => 164 | 50 => 165 | 57 => 179 | n => n, fun | 22 => 26 | 24 => 91 | 25 => 108 | 3 => 3 | 39 => 157 | 0 => 0 | 53 => 197 | 55 => 199 | 4 => 4 | 46 => 191 | 45 => 190 | 50 => 164 | 5 => 5 | 9 => 9 | 66 => 218 | 70 => 222 | 76 => 231 | 77 => 232 | n => n, fun | n => n⟩
theorem Tryz.laySp : Go.Proofs.SlLaysF0.n6 Tryz.prog Tryz.laySp_ren := {
  mixed := by kernel_rfl
  f6 := ⟨Tryz.f47.name, by decide, Tryz.func47.trans (congrArg some (by kernel_rfl))⟩
  f14 := ⟨Tryz.f85.name, by decide, Tryz.func85.trans (congrArg some (by kernel_rfl))⟩
  f15 := Tryz.func86.trans (congrArg some (by kernel_rfl))
  f20 := ⟨Tryz.f120.name, by decide, Tryz.func120.trans (congrArg some (by kernel_rfl))⟩
  f21 := ⟨Tryz.f121.name, by decide, Tryz.func121.trans (congrArg some (by kernel_rfl))⟩
  f22 := ⟨Tryz.f122.name, by decide, Tryz.func122.trans (congrArg some (by kernel_rfl))⟩
  f23 := ⟨Tryz.f123.name, by decide, Tryz.func123.trans (congrArg some (by kernel_rfl))⟩
  f24 := ⟨Tryz.f124.name, by decide, Tryz.func124.trans (congrArg some (by kernel_rfl))⟩
  f25 := ⟨Tryz.f125.name, by decide, Tryz.func125.trans (congrArg some (by kernel_rfl))⟩
  f26 := ⟨Tryz.f126.name, by decide, Tryz.func126.trans (congrArg some (by kernel_rfl))⟩
  f27 := ⟨Tryz.f127.name, by decide, Tryz.func127.trans (congrArg some (by kernel_rfl))⟩
  f28 := Tryz.func128.trans (congrArg some (by kernel_rfl))
  f29 := Tryz.func129.trans (congrArg some (by kernel_rfl))
  f46 := ⟨Tryz.f161.name, by decide, Tryz.func161.trans (congrArg some (by kernel_rfl))⟩
  f47 := Tryz.func162.trans (congrArg some (by kernel_rfl))
  f48 := Tryz.func163.trans (congrArg some (by kernel_rfl))
  f49 := ⟨Tryz.f164.name, by decide, Tryz.func164.trans (congrArg some (by kernel_rfl))⟩
  f50 := ⟨Tryz.f165.name, by decide, Tryz.func165.trans (congrArg some (by kernel_rfl))⟩
  f57 := ⟨Tryz.f179.name, by decide, Tryz.func179.trans (congrArg some (by kernel_rfl))⟩
  t0 := Tryz.underlying0
  a0 := Tryz.isAgg0
  z0 := Tryz.sizeOf0
  v0 := Tryz.zeroValue0
  t3 := Tryz.underlying3
  a3 := Tryz.isAgg3
  z3 := Tryz.sizeOf3
  v3 := Tryz.zeroValue3
  t4 := Tryz.underlying4
  a4 := Tryz.isAgg4
  z4 := Tryz.sizeOf4
  v4 := Tryz.zeroValue4
  t5 := Tryz.underlying5
  a5 := Tryz.isAgg5
  z5 := Tryz.sizeOf5
  v5 := Tryz.zeroValue5
  t9 := Tryz.underlying9
  a9 := Tryz.isAgg9
  z9 := Tryz.sizeOf9
  v9 := Tryz.zeroValue9
  t22 := Tryz.underlying26
  a22 := Tryz.isAgg26
  z22 := Tryz.sizeOf26
  v22 := Tryz.zeroValue26
  t25 := Tryz.underlying108
  a25 := Tryz.isAgg108
  z25 := Tryz.sizeOf108
  v25 := Tryz.zeroValue108
  t39 := Tryz.underlying157
  a39 := Tryz.isAgg157
  z39 := Tryz.sizeOf157
  v39 := Tryz.zeroValue157
  t45 := Tryz.underlying190
  a45 := Tryz.isAgg190
  z45 := Tryz.sizeOf190
  v45 := Tryz.zeroValue190
  t46 := Tryz.underlying191
  a46 := Tryz.isAgg191
  z46 := Tryz.sizeOf191
  v46 := Tryz.zeroValue191
  t50 := Tryz.underlying164
  a50 := Tryz.isAgg164
  z50 := Tryz.sizeOf164
  v50 := Tryz.zeroValue164
  t53 := Tryz.underlying197
  a53 := Tryz.isAgg197
  z53 := Tryz.sizeOf197
  v53 := Tryz.zeroValue197
  t55 := Tryz.underlying199
  a55 := Tryz.isAgg199
  z55 := Tryz.sizeOf199
  v55 := Tryz.zeroValue199
  t66 := Tryz.underlying218
  a66 := Tryz.isAgg218
  z66 := Tryz.sizeOf218
  v66 := Tryz.zeroValue218
  t70 := Tryz.underlying222
  a70 := Tryz.isAgg222
  z70 := Tryz.sizeOf222
  v70 := Tryz.zeroValue222
  t76 := Tryz.underlying231
  a76 := Tryz.isAgg231
  z76 := Tryz.sizeOf231
  v76 := Tryz.zeroValue231
  t77 := Tryz.underlying232
  a77 := Tryz.isAgg232
  z77 := Tryz.sizeOf232
  v77 := Tryz.zeroValue232 }
end Go.Proofs
namespace Go.Hal
open Go Go.RowKit Go.Proofs Go.Shelf
def CatL (w : World) (S : Nat → Prop) (p : Addr) (r : Nat) (L : List Pack) : Prop := ∃ ps, CatR w S p r ps ∧ L.Perm ps ∧ GoodL L
theorem CatL.ext {w w' : World} {S : Nat → Prop} {p : Addr} {r : Nat} {L : List Pack} (h : CatL w S p r L) (hx : Ext w w') : CatL w' S p r L := by
  obtain ⟨ps, a, b, c⟩ := h
  exact ⟨ps, a.ext hx, b, c⟩
theorem CatL.good {w : World} {S : Nat → Prop} {p : Addr} {r : Nat} {L : List Pack} (h : CatL w S p r L) : GoodL L := by obtain ⟨_, _, _, c⟩ := h; exact c
theorem catNew_L {w : World} {R : Option Addr → World → Prop} (hR : ∀ p r w', Ext w w' → CatL w' None' p r [] → w.heap.size ≤ r → w.heap.size ≤ p.block → R (some p) w') : SE.catalog_New w R :=
  catNew_se fun p r w' hx hC h1 h2 => hR p r w' hx ⟨[], hC, List.Perm.refl _, GoodL.nil⟩ h1 h2
theorem catPut_L {x : Pack} {d e o : Sl} {S S2 : Nat → Prop} {p : Addr} {r : Nat} {L : List Pack} {w : World} {R : Int → World → Prop} (ht : Tab w) (hC : CatL w S p r L) (hN : Str x.name) (hS2 : Old S2 w)
    (hd : SlR depE w S2 d x.deps) (he : SlR depE w S2 e x.peers) (ho : SlR depE w S2 o x.opt)
    (hR : ∀ S' w', But r w w' → CatL w' S' p r (refPut L x).2 → (∀ b, S b → S' b) → (∀ b, S' b → S b ∨ w.heap.size ≤ b) → R (refPut L x).1 w') : SE.catalog_Catalog_Put (some p) x.name x.v.ma x.v.mi x.v.pa d e o w R := by
  obtain ⟨ps, h1, h2, h3⟩ := hC
  obtain ⟨e1, e2⟩ := put_same h3 h2 x
  refine catPut_se ht h1 hN hS2 hd he ho fun S' w' b hC' hs hs' => ?_
  rw [e1]
  exact hR S' w' b ⟨_, hC', e2, refPut_good h3 x⟩ hs hs'
def zeroP : Pack := ⟨⟨#[]⟩, ⟨0, 0, 0⟩, [], [], []⟩
def getD (L : List Pack) (n : ByteArray) (v : Ver) : Pack := (getL L n v).getD zeroP
theorem catGet_se {n : ByteArray} {v : Ver} {S : Nat → Prop} {p : Addr} {r : Nat} {L : List Pack} {w : World} {R : ByteArray → Int → Int → Int → Sl → Sl → Sl → Bool → World → Prop} (hC : CatL w S p r L)
    (hR : ∀ d e o w', Ext w w' → Str (getD L n v).name → SlP depP w' (fun b => w.heap.size ≤ b ∧ b < w'.heap.size) d (getD L n v).deps → SlP depP w' (fun b => w.heap.size ≤ b ∧ b < w'.heap.size) e (getD L n v).peers → SlP depP w' (fun b => w.heap.size ≤ b ∧ b < w'.heap.size) o (getD L n v).opt →
      R (getD L n v).name (getD L n v).v.ma (getD L n v).v.mi (getD L n v).v.pa d e o (getL L n v).isSome w') : SE.catalog_Catalog_Get (some p) n v.ma v.mi v.pa w R := by
  unfold SE.catalog_Catalog_Get
  obtain ⟨ps, hC, hp, hg⟩ := hC
  refine newS.intro fun a w1 x1 hb _ _ => newS.intro fun a1 w2 x2 hb1 ha1 _ => bnd.drew fun w3 x3 => ?_
  have x03 : Ext w w3 := x1.trans (x2.trans x3)
  have hC3 := hC.ext x03
  refine ⟨p, rfl, some r, hC3.box.ldc, v.ma, v.mi, v.pa, hb.at0 (x2.trans x3) rfl, ?_⟩
  obtain ⟨m, hm, hl, hf⟩ := hC3.find n v
  rw [getL_perm hg.ord hp] at hf
  have key : ∃ (d e o : Sl), stabS Tryz.prog (Instr.lookup 57 (.map (some r)) (keyV n v) true) w3 (.tuple #[packVal (getD L n v) d e o, .bool (getL L n v).isSome]) ∧ Str (getD L n v).name ∧ SlR depE w3 S d (getD L n v).deps ∧ SlR depE w3 S e (getD L n v).peers ∧ SlR depE w3 S o (getD L n v).opt := by
    rcases hf with ⟨hnone, hno⟩ | ⟨y, dy, ey, oy, hsome, hin, hN, h1, h2, h3⟩
    · unfold getD
      rw [hnone]
      exact ⟨Sl.nil, Sl.nil, Sl.nil, lookup_no keyT hm ⟨_, _, rfl⟩ hno, by unfold Str; exact Nat.zero_le _, SlR.nil trivial, SlR.nil trivial, SlR.nil trivial⟩
    · unfold getD
      rw [hsome]
      exact ⟨dy, ey, oy, lookup_yes keyT hm ⟨_, _, rfl⟩ hin, hN, h1, h2, h3⟩
  obtain ⟨d, e, o, hst, hN, hd, he, ho⟩ := key
  generalize hY : getD L n v = y at *
  refine ⟨y.name, y.v.ma, y.v.mi, y.v.pa, d, e, o, (getL L n v).isSome, hst, newS.intro fun a6 w4 x4 hb6 ha6 _ => stw0.intro hb6 (by simp) fun w5 b5 _ hb5 => ?_⟩
  have s3 := x03.size; have s4 := x4.size; have s2 := x2.size; have s1 := x1.size; have s33 := x3.size
  have x35 : Ext w3 w5 := b5.ext x4 (by omega)
  refine ⟨_, _, _, _, _, _, _, hb5.ldc.pre rfl, SE.catalog_copied.go (copied_se (p := y) (S := S) ((hC3.old).ext x35.size) (hd.ext x35) (he.ext x35) (ho.ext x35) fun d' e' o' w6 x6 hd' he' ho' => ⟨_, _, _, _, _, _, _, rfl, ?_⟩)⟩
  have x36 := x35.trans x6
  have s5 := x35.size; have s6 := x6.size
  have hb1' := hb1.ext (x3.trans x36)
  refine stw0.intro hb1' (by simp) fun w7 b7 _ hb7 => ⟨_, _, _, _, _, _, _, hb7.ldc.pre rfl, ?_⟩
  have hl1 := hb1.lt
  have n1 : ¬ (w5.heap.size ≤ a1.block ∧ a1.block < w6.heap.size) := by omega
  have s7 := b7.size
  have up : ∀ b, (w5.heap.size ≤ b ∧ b < w6.heap.size) → (w.heap.size ≤ b ∧ b < w7.heap.size) := fun b hb => ⟨by omega, by omega⟩
  exact hR d' e' o' w7 (b7.ext (x03.trans x36) (by omega)) hN ((hd'.but b7 n1).mono up) ((he'.but b7 n1).mono up) ((ho'.but b7 n1).mono up)
theorem apVer : ApT Tryz.prog 48 37 3 24 := apT_mk (z := .agg #[.int .i64 0, .int .i64 0, .int .i64 0]) (by kernel_rfl) (by kernel_rfl) rfl (by decide)
theorem entersFalling : Enters Tryz.prog 60 := enters_of Tryz.func60 (by kernel_rfl) rfl
theorem isAggV : ∀ w, (isAgg 37).run Tryz.prog w = .ok true w := fun w => by kernel_rfl
theorem sizeOfV : ∀ w, (Go.sizeOf 37).run Tryz.prog w = .ok 3 w := fun w => by kernel_rfl
instance : Inhabited Ver := ⟨⟨0, 0, 0⟩⟩
instance : Inhabited Pin := ⟨⟨⟨#[]⟩, ⟨0, 0, 0⟩⟩⟩
theorem sortVer_k {w : World} {g cap : Nat} {l : List Ver} {tail : List Value} {K : Value → World → Prop} (hR : RowB Ver.c w g l tail) (hsz : l.length < 4611686018427387904)
    (hK : ∀ l' w', l'.Perm l → l'.Pairwise (fun x y => ¬ x.cmp y < 0) → But g w w' → RowB Ver.c w' g l' tail → K (.tuple #[]) w') :
    callS Tryz.prog 59 [Sl.v ⟨some ⟨g, 0, none⟩, l.length, cap⟩, .func (.func 60) #[] #[]] w K := by
  have hO := Ver.cmp_ord.swap
  refine sortFunc_k Tryz.laySv (k := 3) isAggV sizeOfV (f := Ver.c) (fun _ => rfl) (fun x v hv => by simp [Ver.c] at hv; rcases hv with rfl | rfl | rfl <;> rfl) (fun a b => b.cmp a) (swo_ltOf hO.flip hO.trans) 60 #[] entersFalling (fun w0 x y hb _ => ?_) hR hsz rfl hK
  have h := SE.catalog_falling.go (k := fun v w' => v = .int .i64 (y.cmp x) ∧ Gr w0 w') (falling_gr (a := x) (b := y) (w := w0) fun w' h => ⟨rfl, h⟩)
  exact Calls.mono h fun e w' ⟨v, he, hv, hg⟩ => ⟨by rw [he, hv], hg⟩
end Go.Hal
namespace Go.Hal
open Go Go.RowKit Go.Proofs Go.Shelf
def FlatO {α : Type} (f : α → List Value) (bytes : Nat) (w : World) (lo : Nat) (s : Sl) (l : List α) : Prop :=
  s.len = l.length ∧ l.length ≤ s.cap ∧ s.cap ≤ maxLen ∧ l.length * bytes ≤ room ∧ (l = [] ∨ ∃ g tail, s.a = some ⟨g, 0, none⟩ ∧ lo ≤ g ∧ RowB f w g l tail)
section
variable {α : Type} {f : α → List Value} {bytes : Nat} {w w' : World} {lo : Nat} {s : Sl} {l : List α}
theorem FlatO.read {E : Enc α} (h : FlatO f E.bytes w lo s l) (hk : ∀ x, (f x).length = E.n) (hE : ∀ w S, ∀ x ∈ l, E.rep w S x (f x)) : SlR E w (fun b => lo ≤ b ∧ b < w.heap.size) s l := by
  obtain ⟨h1, h2, h3, h4, h5⟩ := h
  refine ⟨h1, h2, h3, h4, ?_⟩
  rcases h5 with h5 | ⟨g, tail, ha, hg, hr⟩
  · exact .inl h5
  · exact .inr ⟨_, ha, ⟨hg, hr.lt⟩, fun i x hx => ⟨f x, hE _ _ x (List.mem_of_getElem? hx), hr.ld' hk hx⟩⟩
theorem FlatO.ext (h : FlatO f bytes w lo s l) (hx : Ext w w') : FlatO f bytes w' lo s l := by
  obtain ⟨h1, h2, h3, h4, h5⟩ := h
  exact ⟨h1, h2, h3, h4, h5.imp id fun ⟨g, tail, a, b, c⟩ => ⟨g, tail, a, b, c.ext hx⟩⟩
theorem FlatO.of {E : Enc α} {T : TypeId} {S : Nat → Prop} (hE : ∀ x cs, E.rep w S x cs → cs = f x) (h : OwnS E T w lo S s l) (hb : l.length * bytes ≤ room) : FlatO f bytes w lo s l := by
  rcases OwnS.rowG f (fun y x => y = x) (fun x cs hr => ⟨x, hE x cs hr, rfl⟩) h with ⟨rfl, rfl⟩ | ⟨g, z, tail, ha, hg, hz, hr, hR, hc, hm⟩
  · exact ⟨rfl, Nat.le_refl _, Nat.zero_le _, hb, .inl rfl⟩
  · have e : z.map Prod.fst = l := by
      rw [← hz]
      exact List.map_congr_left fun p hp => hr p hp
    rw [e] at hR
    exact ⟨h.len, hc, hm, hb, .inr ⟨g, tail, ha, hg, hR⟩⟩
theorem FlatO.clip {k : Nat} (h : FlatO f bytes w lo s l) : FlatO f bytes w lo (Sl.mk (if (s.len : Int).toNat = 0 then s.a else s.a.map (·.add (0 * k))) ((s.len : Int).toNat - 0) ((s.len : Int).toNat - 0)) l := by
  obtain ⟨h1, h2, h3, h4, h5⟩ := h
  refine ⟨by simp [h1], by simp [h1], by simp [h1]; omega, h4, h5.imp id fun ⟨g, tail, a, b, c⟩ => ⟨g, tail, ?_, b, c⟩⟩
  show (if _ then _ else _) = _
  split
  · exact a
  · rw [a, Nat.zero_mul]; rfl
end
theorem sortVerF_k {w : World} {lo : Nat} {s : Sl} {l : List Ver} {K : Value → World → Prop} (h : FlatO Ver.c 24 w lo s l) (hlo : lo ≤ w.heap.size)
    (hK : ∀ l' w', l'.Perm l → l'.Pairwise (fun x y => ¬ x.cmp y < 0) → Below lo w w' → FlatO Ver.c 24 w' lo s l' → K (.tuple #[]) w') :
    callS Tryz.prog 59 [Sl.v s, .func (.func 60) #[] #[]] w K := by
  obtain ⟨h1, h2, h3, h4, h5⟩ := h
  obtain ⟨a, n, c⟩ := s
  simp only at h1 h2 h3 h5
  subst h1
  rcases h5 with rfl | ⟨g, tail, ha, hg, hr⟩
  · refine (AnyF.slices_SortFunc_none Tryz.laySv a c _ w).mono fun e w' ⟨he, hw⟩ => ⟨_, he, ?_⟩
    subst hw
    exact hK [] _ (List.Perm.refl _) .nil (Below.refl _ _) ⟨rfl, h2, h3, h4, .inl rfl⟩
  · subst ha
    refine sortVer_k hr (by unfold room at h4; omega) fun l' w' hp hs b hr' => hK l' w' hp hs (b.below hlo hg) ⟨hp.length_eq.symm, by rw [hp.length_eq]; exact h2, h3, by rw [hp.length_eq]; exact h4, .inr ⟨g, tail, rfl, hg, hr'⟩⟩
theorem getmap {α β γ : Type} {z : List (α × β)} {l1 l2 : List β} {p : β} (h : z.map Prod.snd = l1 ++ p :: l2) : ∃ z1 x z2, z = z1 ++ (x, p) :: z2 ∧ z1.map Prod.snd = l1 ∧ z2.map Prod.snd = l2 := by
  obtain ⟨z1, z2', rfl, e1, e2⟩ := List.map_eq_append_iff.1 h
  obtain ⟨q, z2, rfl, e3, e4⟩ := List.map_eq_cons_iff.1 e2
  exact ⟨z1, q.1, z2, by rw [← e3], e1, e4⟩
theorem ents {w : World} {S : Nat → Prop} : ∀ {ps : List Pack} {m : List (Value × Value)}, m.length = ps.length → (∀ (i : Nat) (x : Pack), ps[i]? = some x → ∃ kv, m[i]? = some kv ∧ EntR w S x kv) → ∃ z : List (Pack × (Value × Value)), z.map Prod.fst = ps ∧ z.map Prod.snd = m ∧ ∀ q ∈ z, EntR w S q.1 q.2
  | [], [], _, _ => ⟨[], rfl, rfl, by simp⟩
  | [], _ :: _, h, _ => by cases h
  | _ :: _, [], h, _ => by cases h
  | x :: ps, kv :: m, h, hel => by
    obtain ⟨kv', h1, h2⟩ := hel 0 x rfl
    simp only [List.getElem?_cons_zero, Option.some.injEq] at h1
    subst h1
    obtain ⟨z, k1, k2, k3⟩ := ents (w := w) (S := S) (ps := ps) (m := m) (by simpa using h) fun i y hy => hel (i + 1) y hy
    refine ⟨(x, kv) :: z, by simp [k1], by simp [k2], fun q hq => ?_⟩
    rcases List.mem_cons.1 hq with rfl | hq
    · exact h2
    · exact k3 q hq
set_option maxHeartbeats 2000000 in
theorem catVersions_se {n : ByteArray} {S : Nat → Prop} {p : Addr} {r : Nat} {L : List Pack} {w : World} {R : Sl → World → Prop} (hC : CatL w S p r L)
    (hR : ∀ t w', Ext w w' → FlatO Ver.c 24 w' w.heap.size t (versOf n L) → R t w') : SE.catalog_Catalog_Versions (some p) n w R := by
  unfold SE.catalog_Catalog_Versions
  obtain ⟨ps, hC, hp, hg⟩ := hC
  obtain ⟨m, hm, hl, hel⟩ := hC.map
  refine ⟨p, rfl, some r, hC.box.ldc, range_intro Tryz.underlying57 hm fun it w1 x1 hit hI => ⟨_, rfl, ?_⟩⟩
  obtain ⟨z0, hz1, hz2, hz3⟩ := ents hl hel
  have hw1 := hI.lt
  have hlen : ps.length ≤ 128 := by rw [← hp.length_eq]; exact hg.le
  refine loop1.ghost (fun k out w' => ∃ (z : List (Pack × (Value × Value))) (vis : List Pack) (last : Option (Value × Value)), k = z.length ∧ IterR w' it r (z.map Prod.snd) last ∧ (∀ q ∈ z, EntR w S q.1 q.2) ∧ (vis ++ z.map Prod.fst).Perm ps ∧ Ext w w' ∧ w1.heap.size ≤ w'.heap.size ∧ OwnS verE 37 w' w1.heap.size None' out ((vis.filter (hasN n)).map (·.v))) _
    ⟨z0, [], none, rfl, by rw [hz2]; exact hI, hz3, by rw [hz1]; exact List.Perm.refl _, x1, Nat.le_refl _, OwnS.zero w1⟩ fun k out w2 nxt ⟨z, vis, last, hk, hI2, hz, hpz, x2, hs2, own⟩ hn => ?_
  have hvl : vis.length ≤ 128 := by have := hpz.length_eq; rw [List.length_append] at this; omega
  refine next_intro hI2 (fun h0 => ?_) fun q l1 l2 w3 hq hb3 hsz3 bt3 hI3 => ?_
  · have hz0 : z = [] := List.map_eq_nil_iff.1 h0
    subst hz0
    rw [List.map_nil, List.append_nil] at hpz
    refine ⟨false, ⟨#[]⟩, 0, 0, 0, ⟨#[]⟩, 0, 0, 0, Sl.nil, Sl.nil, Sl.nil, rfl, (fun h => by cases h), fun _ => ?_⟩
    have hvp := (((hpz.filter (hasN n)).map (·.v)).trans (versOf_perm hp n).symm)
    have hfl : ((vis.filter (hasN n)).map (·.v)).length * 24 ≤ room := by
      have := List.length_filter_le (hasN n) vis
      rw [List.length_map]; unfold room; omega
    refine sortVerF_k (FlatO.of (E := verE) (f := Ver.c) (bytes := 24) (fun x cs h => h.1) own hfl) hs2 fun l' w3 hp3 hs3 bel3 hF => ⟨rfl, ?_⟩
    have e := falls_one hs3 (versOf_falls hg.ord n) (hp3.trans hvp)
    subst e
    refine SE.slices_Clip_apiVersionapiVersion.go ⟨⟨by omega, by omega, by omega, by have := hF.1; have := hF.2.1; omega⟩, _, rfl, hR _ _ (x2.trans' ?_) ?_⟩
    · exact Below.mono bel3 (by have := x1.size; omega)
    · have := hF.clip (k := 3)
      obtain ⟨a, b, c, d, e⟩ := this
      exact ⟨a, b, c, d, e.imp id fun ⟨g, tail, a, b, c⟩ => ⟨g, tail, a, Nat.le_trans x1.size b, c⟩⟩
  · obtain ⟨z1, x, z2, hze, e1, e2⟩ := getmap (γ := Unit) hq
    subst hze
    obtain ⟨d, e, o, hkv, hN, hd, he, ho⟩ := hz (x, q) (by simp)
    simp only at hkv
    subst hkv
    have hitw : w.heap.size ≤ it := by omega
    have x3 : Ext w w3 := bt3.ext x2 hitw
    have own3 := own.but bt3 (fun h => h) (fun ad ha => by have := (own.block ha).1; omega)
    refine ⟨true, x.name, x.v.ma, x.v.mi, x.v.pa, x.name, x.v.ma, x.v.mi, x.v.pa, d, e, o, rfl, fun _ => ?_, (fun h => by cases h)⟩
    refine ⟨x.name, x.v.ma, x.v.mi, x.v.pa, x.name, x.v.ma, x.v.mi, x.v.pa, d, e, o, fun w' hx => entry_run (hI3.ext hx), newS.intro fun a w4 x4 hb4 ha4 _ => stw0.intro hb4 (by simp) fun w5 b5 _ hb5 => ⟨x.name, hb5.ldc.pre rfl, fun hnm => ?_, fun hnm => ?_⟩⟩
    all_goals
      have s3 := x3.size
      have s4 := x4.size
      have x35 : Ext w3 w5 := b5.ext x4 (by omega)
      have s5 := x35.size
      have hzz : ∀ q ∈ z1 ++ z2, EntR w S q.1 q.2 := fun q hq => hz q (by
        rcases List.mem_append.1 hq with h | h
        · exact List.mem_append_left _ h
        · exact List.mem_append_right _ (.tail _ h))
      have hpp : ((vis ++ [x]) ++ (z1 ++ z2).map Prod.fst).Perm ps := by
        refine List.Perm.trans ?_ hpz
        rw [List.append_assoc, List.map_append, List.map_append, List.map_cons, List.singleton_append]
        exact List.perm_middle.symm.append_left vis
      have hlz : (z1 ++ z2).length < (z1 ++ (x, keyV x.name x.v, packVal x d e o) :: z2).length := by simp
      have hIz : ∀ w', IterR w' it r (l1 ++ l2) (some (keyV x.name x.v, packVal x d e o)) → IterR w' it r ((z1 ++ z2).map Prod.snd) (some (keyV x.name x.v, packVal x d e o)) := fun w' h => by rw [List.map_append, e1, e2]; exact h
    · refine ⟨_, _, _, hb5.at1 (k := 1) (Ext.refl _) rfl, newS.intro fun a6 w6 x6 hb6 _ _ => ?_⟩
      have x36 := x35.trans x6
      have s6 := x6.size
      have hfl : (((vis.filter (hasN n)).map (·.v)).length + 1) * verE.bytes ≤ room := by
        have := List.length_filter_le (hasN n) vis
        have hb : verE.bytes = 24 := rfl
        rw [List.length_map, hb]; unfold room; omega
      refine (own3.ext x36).push (x := x.v) (S' := None') apVer (by omega) ⟨rfl, trivial⟩ hb6.ldc (fun _ h => h.elim) (fun _ _ h => h.elim) hfl (by rw [maxLen_eq]; unfold room at hfl; have hb : verE.bytes = 24 := rfl; rw [hb] at hfl; omega) fun t w7 own7 bel7 _ _ => ?_
      refine hn _ _ _ (by rw [hk]; exact hlz) ⟨z1 ++ z2, vis ++ [x], _, rfl, hIz _ (((hI3.ext x36).of (bel7.block r (by have := hm.lt; omega)) (bel7.block it (by omega)))), hzz, hpp, (x3.trans x36).trans' (Below.mono bel7 (by omega)), by have := bel7.size; omega, ?_⟩
      rw [List.filter_append, List.map_append]
      have : hasN n x = true := by simp [hasN, hnm]
      simp only [List.filter_cons, this, if_true, List.filter_nil, List.map_cons, List.map_nil]
      exact own7.mono (fun _ h => h.elim id id) (fun _ h => h.elim) (fun _ _ h => h.elim)
    · refine hn _ _ _ (by rw [hk]; exact hlz) ⟨z1 ++ z2, vis ++ [x], _, rfl, hIz _ (hI3.ext x35), hzz, hpp, x3.trans x35, by omega, ?_⟩
      rw [List.filter_append, List.map_append]
      have : hasN n x = false := by simp [hasN, hnm]
      simp only [List.filter_cons, this, List.filter_nil, List.map_nil, List.append_nil, Bool.false_eq_true, if_false]
      exact own3.ext x35
end Go.Hal
namespace Go.Hal
open Go Go.RowKit Go.Proofs
theorem idxVer_se {s : Sl} {l : List Ver} {f : Value} {p : Ver → Bool} {S : Nat → Prop} {w : World} {R : Int → World → Prop} (hs : SlR verE w S s l) (hf : Tells f (fun x => .agg #[.int .i64 x.ma, .int .i64 x.mi, .int .i64 x.pa]) p l w)
    (hR : ∀ w', Ext w w' → R (idxI p l) w') : SE.slices_IndexFunc_apiVersionapiVersion s f w R := by
  unfold SE.slices_IndexFunc_apiVersionapiVersion
  have hl := hs.len
  refine loop1.up hs.max (fun i w' => Ext w w' ∧ (l.take i).any p = false) ⟨Ext.refl _, rfl⟩ fun i w1 nxt hi ⟨x1, hI⟩ hn => ⟨fun hlt => ?_, fun hge => ?_⟩
  · have hlt' : i < l.length := by omega
    obtain ⟨ad, cs, ha, _, ⟨rfl, _⟩, hc⟩ := hs.el hlt'
    refine ⟨ad, ⟨ha, by omega, hlt⟩, _, _, _, hc _ (by (repeat (first | assumption | exact Ext.refl _ | refine Ext.trans ?_ (by assumption)))), hf _ (List.getElem_mem hlt') _ _ x1 fun w2 x2 => ⟨_, rfl, fun h => ?_, fun h => ?_⟩⟩
    · rw [← idxI_hit hlt' hI h]; exact hR _ (by (repeat (first | assumption | exact Ext.refl _ | refine Ext.trans ?_ (by assumption))))
    · exact hn hlt' _ ⟨by (repeat (first | assumption | exact Ext.refl _ | refine Ext.trans ?_ (by assumption))), by rw [take_any_succ hlt' hI]; exact h⟩
  · have : i = l.length := by omega
    rw [this, List.take_length] at hI
    rw [← idxI_none hI]; exact hR _ (by (repeat (first | assumption | exact Ext.refl _ | refine Ext.trans ?_ (by assumption))))
end Go.Hal
namespace Go.Hal
open Go Go.RowKit Go.Proofs
theorem zero_len (z : Array Value) (n : Nat) : (Builtin.zeroCells z n).toList.length = n * z.size := by rw [Array.length_toList, size_zeroCells]
theorem zero_one {z : Array Value} (hz : ∀ v ∈ z, v.oneCell' = true) (n : Nat) : ∀ v ∈ (Builtin.zeroCells z n).toList, v.oneCell' = true := fun v hv => by
  simp only [Builtin.zeroCells, Array.toList_map, Array.toList_range, List.mem_map, List.mem_range] at hv
  obtain ⟨i, hi, rfl⟩ := hv
  have hpos : 0 < z.size := by
    rcases Nat.eq_zero_or_pos z.size with h | h
    · rw [h] at hi; simp at hi
    · exact h
  have hlt : i % z.size < z.size := Nat.mod_lt _ hpos
  have e : z[i % z.size]! = z[i % z.size] := getElem!_pos z _ hlt
  rw [e]; exact hz _ (Array.getElem_mem hlt)
theorem clear_row {P : Program} {t e ty : TypeId} {z : Value} {n k : Nat} (ht : P.underlying t = some (.slice e)) (hv : ∀ w, (zeroValue e).run P w = .ok z w) (hz : z.cells.size = k) (h1 : ∀ v ∈ z.cells, v.oneCell' = true) {w : World} {g o c : Nat} {front back : List Value} (ho : front.length = o) (hn : n * k ≤ back.length) (hB : BoxAt w ⟨g, 0, none⟩ (front ++ back))
    {K : Value → World → Prop} (hK : ∀ w' back', But g w w' → BoxAt w' ⟨g, 0, none⟩ (front ++ back') → K (.tuple #[]) w') : semS P (Builtin.clear_ #[t] ty #[.slice (some ⟨g, o, none⟩) n c]) w K := by
  obtain ⟨T, _, _, hb⟩ := hB
  simp only at hb
  have hgl := (Array.getElem?_eq_some_iff.1 hb).1
  cases n with
  | zero =>
    refine ⟨_, w, ?_, hK w back ⟨Nat.le_refl _, rfl, rfl, rfl, fun _ _ _ => rfl⟩ ⟨T, rfl, rfl, hb⟩⟩
    simp [Builtin.clear_, run_underlying ht, Sem.run_bind, Result.andThen]
  | succ n =>
    have hlz : (Builtin.zeroCells z.cells (n + 1)).toList.length = (n + 1) * k := by rw [zero_len, hz]
    have hst := run_storeCells_at (P := P) g o T (Builtin.zeroCells z.cells (n + 1)).toList 0 (front ++ back).toArray w hb (by rw [hlz, List.size_toArray, List.length_append]; omega) (zero_one h1 _)
    generalize hA : (List.take (o + 0) (front ++ back).toArray.toList ++ (Builtin.zeroCells z.cells (n + 1)).toList ++ List.drop (o + 0 + (Builtin.zeroCells z.cells (n + 1)).toList.length) (front ++ back).toArray.toList).toArray = A at hst
    refine ⟨.tuple #[], w.setRow g A, ?_, hK (w.setRow g A) ((Builtin.zeroCells z.cells (n + 1)).toList ++ back.drop ((n + 1) * k)) ⟨by simp [World.setRow], rfl, rfl, rfl, fun b hbl hne => setRow_other w g b _ hne⟩ ⟨T, rfl, rfl, ?_⟩⟩
    · simp [Builtin.clear_, run_underlying ht, hv, Sem.run_bind, Result.andThen, hst]
    · rw [setRow_heap w g (front ++ back).toArray A T _ hb, ← hA]
      simp only [Nat.add_zero, hlz, Option.some.injEq, Obj.cells.injEq, and_true]
      rw [← ho, List.take_left]
      simp [List.drop_append]
theorem idxI_cases {α : Type} {p : α → Bool} {l : List α} (h : idxI p l ≠ -1) : ∃ n, ∃ hn : n < l.length, idxI p l = (n : Int) ∧ (l.take n).any p = false ∧ p l[n] = true := by
  unfold idxI at *
  cases hf : l.findIdx? p with
  | none => rw [hf] at h; exact absurd rfl h
  | some n =>
    obtain ⟨hn, hp, hb⟩ := List.findIdx?_eq_some_iff_getElem.1 hf
    refine ⟨n, hn, rfl, ?_, hp⟩
    rw [List.any_eq_false]
    intro x hx
    obtain ⟨k, hk, rfl⟩ := List.mem_iff_getElem.1 hx
    rw [List.length_take] at hk
    rw [List.getElem_take]
    exact hb k (by omega)
theorem filter_of_any {α : Type} {p : α → Bool} {l : List α} (h : l.any p = false) : l.filter (fun x => !p x) = l := by
  rw [List.filter_eq_self]
  intro x hx
  have := List.any_eq_false.1 h x hx
  simpa using this
theorem zeroV : ∀ w, (zeroValue 37).run Tryz.prog w = .ok (.agg #[.int .i64 0, .int .i64 0, .int .i64 0]) w := fun w => by kernel_rfl
set_option maxHeartbeats 2000000 in
theorem deleteVer_se {s : Sl} {l : List Ver} {d : Ver → Bool} {f : Value} {lo : Nat} {w : World} {R : Sl → World → Prop} (h : FlatO Ver.c 24 w lo s l) (hlo : lo ≤ w.heap.size)
    (hf : ∀ x ∈ l, ∀ w' (k : Value → World → Prop), Below lo w w' → (∀ w'', Ext w' w'' → k (.bool (d x)) w'') → callV Tryz.prog f [.agg #[.int .i64 x.ma, .int .i64 x.mi, .int .i64 x.pa]] w' k)
    (hR : ∀ t w', Below lo w w' → FlatO Ver.c 24 w' lo t (l.filter fun x => !d x) → R t w') : SE.slices_DeleteFunc_apiVersionapiVersion s f w R := by
  unfold SE.slices_DeleteFunc_apiVersionapiVersion
  have hs := h.read (E := verE) (fun _ => rfl) (fun _ _ _ _ => ⟨rfl, trivial⟩)
  refine SE.slices_IndexFunc_apiVersionapiVersion.go (idxVer_se (p := d) hs (fun x hx w' k hx' hk => hf x hx w' k (Below.mono hx' hlo) hk) fun w1 x1 => ⟨_, rfl, fun h1 => ?_, fun h1 => ?_⟩)
  · have : l.any d = false := by
      rw [← idxI_any, h1]; decide
    exact hR s w1 (Below.mono x1 hlo) (by rw [filter_of_any this]; exact h.ext x1)
  obtain ⟨n, hn, e, ht, hp⟩ := idxI_cases h1
  rw [e]
  obtain ⟨k1, k2, k3, k4, k5⟩ := h
  obtain ⟨g, tail, ha, hg, hr⟩ : ∃ g tail, s.a = some ⟨g, 0, none⟩ ∧ lo ≤ g ∧ RowB Ver.c w g l tail := by
    rcases k5 with k5 | k5
    · subst k5; simp at hn
    · exact k5
  have hk : ∀ x : Ver, x.c.length = 3 := fun _ => rfl
  have hfk : (l.take (n + 1)).filter (fun x => !d x) = l.take n := by
    rw [List.take_succ_eq_append_getElem hn, List.filter_append, filter_of_any ht]
    simp [hp]
  rw [wrapI_eq (by omega) (by unfold room at k4; omega)]
  refine ⟨fun i j w' => ∃ (i' j' : Nat) (z : List Ver), i = (i' : Int) ∧ j = (j' : Int) ∧ i' < j' ∧ j' ≤ l.length ∧ z.length = l.length ∧ i' = ((l.take j').filter fun x => !d x).length ∧ z.take i' = (l.take j').filter (fun x => !d x) ∧ z.drop j' = l.drop j' ∧ Below lo w w' ∧ RowB Ver.c w' g z tail,
    fun _ j _ => l.length - j.toNat, ⟨n, n + 1, l, rfl, by omega, by omega, by omega, rfl, by rw [hfk, List.length_take]; omega, by rw [hfk], rfl, Below.mono x1 hlo, hr.ext x1⟩, ?_⟩
  rintro _ _ w2 ⟨i, j, z, rfl, rfl, hij, hj, hzl, hi, hzt, hzd, b2, hr2⟩
  refine ⟨fun hlt => join.named fun J hJ => ?_, fun hge => ?_⟩
  · have hjl : j < l.length := by omega
    have ej : wrapI ((j : Int) + 1) = ((j + 1 : Nat) : Int) := by rw [wrapI_eq (by omega) (by unfold room at k4; omega)]; omega
    have hzd1 : z.drop (j + 1) = l.drop (j + 1) := by rw [← List.drop_drop, hzd, List.drop_drop]
    have hft : (l.take (j + 1)).filter (fun x => !d x) = (l.take j).filter (fun x => !d x) ++ [l[j]].filter (fun x => !d x) := by
      rw [List.take_succ_eq_append_getElem hjl, List.filter_append]
    have kJ : ∀ (i' : Nat) (w' : World) (z' : List Ver), i' < j + 1 → z'.length = l.length → z'.take i' = (l.take (j + 1)).filter (fun x => !d x) → z'.drop (j + 1) = l.drop (j + 1) → Below lo w w' → RowB Ver.c w' g z' tail → J (i' : Int) w' := fun i' w' z' q1 q2 q3 q4 q5 q6 => by
      subst hJ
      show _ ∧ _
      rw [ej]
      exact ⟨⟨i', j + 1, z', rfl, rfl, q1, by omega, q2, by rw [← q3, List.length_take]; omega, q3, q4, q5, q6⟩, by show _ - Int.toNat _ < _ - Int.toNat _; omega⟩
    clear hJ
    have hzj : z[j]? = some l[j] := by
      have h1 : z[j]? = (z.drop j)[0]? := by rw [List.getElem?_drop, Nat.add_zero]
      rw [h1, hzd, List.getElem?_drop, Nat.add_zero]
      exact List.getElem?_eq_getElem hjl
    refine ⟨_, ⟨ha, by omega, by omega⟩, _, _, _, hr2.ld' hk hzj, newS.intro fun a w3 x3 hb3 ha3 _ => stw0.intro hb3 (by simp) fun w4 b4 _ hb4 => ⟨_, _, _, hb4.ldc.pre rfl, ?_⟩⟩
    have x24 : Ext w2 w4 := b4.ext x3 (by omega)
    have s2 := b2.size
    have hm : l[j] ∈ l := List.getElem_mem hjl
    refine hf _ hm w4 _ (Below.trans b2 (Below.mono x24 (by omega))) fun w5 x5 => ⟨_, rfl, fun hd => ?_, fun hd => ?_⟩
    all_goals
      have x25 := x24.trans x5
      have s5 := x25.size
      have b5 : Below lo w w5 := Below.trans b2 (Below.mono x25 (by omega))
      have hr5 := hr2.ext x25
    · have hd' : d l[j] = false := by simpa using hd
      refine ⟨_, _, _, (hb4.ext x5).ldc.pre rfl, _, ⟨ha, by omega, by omega⟩, hr5.st hk (i := i) (x := l[j]) (by omega) fun w6 b6 hr6 => ?_⟩
      have ei : wrapI ((i : Int) + 1) = ((i + 1 : Nat) : Int) := by rw [wrapI_eq (by omega) (by unfold room at k4; omega)]; omega
      rw [ei]
      refine kJ (i + 1) w6 _ (by omega) (by rw [List.length_set, hzl]) ?_ (by rw [List.drop_set_of_lt (by omega), hzd1]) (Below.trans b5 (b6.below (by omega) hg)) hr6
      rw [hft, ← hzt, List.take_succ_eq_append_getElem (by rw [List.length_set]; omega), List.take_set_of_le (Nat.le_refl _), List.getElem_set_self]
      simp [hd']
    · have hd' : d l[j] = true := by simpa using hd
      refine kJ i w5 z (by omega) hzl ?_ hzd1 b5 hr5
      rw [hft, ← hzt]; simp [hd']
  · have hjl : j = l.length := by omega
    subst hjl
    rw [List.take_length] at hzt hi
    have hil : i < l.length := hij
    have e1 : (Sl.cut s (i : Int).toNat s.len 3).v = .slice (some ⟨g, i * 3, none⟩) (l.length - i) (s.cap - i) := by
      unfold Sl.cut Sl.v
      rw [Int.toNat_natCast, if_neg (by omega), ha, k1]
      simp only [Option.map_some, add_plain]
    rw [e1]
    refine ⟨⟨by omega, by omega⟩, ?_⟩
    have hsp : (z.map Ver.c).flatten ++ tail = ((z.take i).map Ver.c).flatten ++ (((z.drop i).map Ver.c).flatten ++ tail) := by
      conv => lhs; rw [← List.take_append_drop i z]
      rw [List.map_append, List.flatten_append, List.append_assoc]
    unfold RowB at hr2
    rw [hsp] at hr2
    refine clear_row (k := 3) Tryz.underlying48 zeroV rfl (fun v hv => by simp [Value.cells] at hv; rcases hv with rfl | rfl | rfl <;> rfl) (by rw [flat_len _ hk, List.length_take]; omega) (by rw [List.length_append, flat_len _ hk, List.length_drop]; omega) hr2 fun w3 back b3 hb3 => ⟨⟨by omega, by omega⟩, ?_⟩
    have s2 := b2.size
    refine hR _ w3 (Below.trans b2 (b3.below (by omega) hg)) ?_
    have hfl : (l.filter fun x => !d x).length ≤ l.length := List.length_filter_le _ _
    refine ⟨by unfold Sl.cut; simp; exact hi, by unfold Sl.cut; show _ ≤ s.cap - 0; omega, by unfold Sl.cut; show s.cap - 0 ≤ _; omega, ?_, .inr ⟨g, back, ?_, hg, ?_⟩⟩
    · have := Nat.mul_le_mul_right 24 hfl; omega
    · show (if _ then _ else _) = _
      split
      · exact ha
      · rw [ha, Nat.zero_mul]; rfl
    · rw [← hzt]; exact hb3
end Go.Hal
namespace Go.Hal
open Go Go.RowKit Go.Proofs
theorem idxPin_se {s : Sl} {l : List Pin} {f : Value} {p : Pin → Bool} {S : Nat → Prop} {w : World} {R : Int → World → Prop} (hs : SlR pinE w S s l) (hf : Tells f (fun x => .agg #[.string x.name, .int .i64 x.v.ma, .int .i64 x.v.mi, .int .i64 x.v.pa]) p l w)
    (hR : ∀ w', Ext w w' → R (idxI p l) w') : SE.slices_IndexFunc_apiPinapiPin s f w R := by
  unfold SE.slices_IndexFunc_apiPinapiPin
  have hl := hs.len
  refine loop1.up hs.max (fun i w' => Ext w w' ∧ (l.take i).any p = false) ⟨Ext.refl _, rfl⟩ fun i w1 nxt hi ⟨x1, hI⟩ hn => ⟨fun hlt => ?_, fun hge => ?_⟩
  · have hlt' : i < l.length := by omega
    obtain ⟨ad, cs, ha, _, ⟨rfl, _⟩, hc⟩ := hs.el hlt'
    refine ⟨ad, ⟨ha, by omega, hlt⟩, _, _, _, _, hc _ (by (repeat (first | assumption | exact Ext.refl _ | refine Ext.trans ?_ (by assumption)))), hf _ (List.getElem_mem hlt') _ _ x1 fun w2 x2 => ⟨_, rfl, fun h => ?_, fun h => ?_⟩⟩
    · rw [← idxI_hit hlt' hI h]; exact hR _ (by (repeat (first | assumption | exact Ext.refl _ | refine Ext.trans ?_ (by assumption))))
    · exact hn hlt' _ ⟨by (repeat (first | assumption | exact Ext.refl _ | refine Ext.trans ?_ (by assumption))), by rw [take_any_succ hlt' hI]; exact h⟩
  · have : i = l.length := by omega
    rw [this, List.take_length] at hI
    rw [← idxI_none hI]; exact hR _ (by (repeat (first | assumption | exact Ext.refl _ | refine Ext.trans ?_ (by assumption))))
theorem conPin_se {s : Sl} {l : List Pin} {f : Value} {p : Pin → Bool} {S : Nat → Prop} {w : World} {R : Bool → World → Prop} (hs : SlR pinE w S s l) (hf : Tells f (fun x => .agg #[.string x.name, .int .i64 x.v.ma, .int .i64 x.v.mi, .int .i64 x.v.pa]) p l w)
    (hR : ∀ w', Ext w w' → R (l.any p) w') : SE.slices_ContainsFunc_apiPinapiPin s f w R := by
  unfold SE.slices_ContainsFunc_apiPinapiPin
  exact SE.slices_IndexFunc_apiPinapiPin.go (idxPin_se hs hf fun w' hx => ⟨_, rfl, by rw [idxI_any]; exact hR _ hx⟩)
end Go.Hal
namespace Go.Hal
open Go Go.RowKit Go.Proofs
namespace StV
abbrev El : Type := Ver × Nat
def cells (x : Ver) : List Value := x.c
def fc (x : El) : List Value := cells x.1
theorem fc_len (x : El) : (fc x).length = 3 := rfl
def CmpOk (cmp : Value) (c : Ver → Ver → Int) (g : Nat) (w0 : World) : Prop :=
  ∀ (x y : Ver) (w : World) (k : Value → World → Prop), But g w0 w → (∀ w', Ext w w' → k (.int .i64 (c x y)) w') → callV Tryz.prog cmp [.agg (cells x).toArray, .agg (cells y).toArray] w k
theorem CmpOk.but {cmp : Value} {c : Ver → Ver → Int} {g : Nat} {w0 w1 : World} (h : CmpOk cmp c g w0) (hb : But g w0 w1) : CmpOk cmp c g w1 := fun x y w k hw hk => h x y w k (hb.trans hw) hk
section
variable {cmp : Value} {c : Ver → Ver → Int} {g : Nat}
set_option maxHeartbeats 2000000 in
theorem insertion_se (hO : Ord3 c) {data : Sl} {w : World} {R : World → Prop} {A M0 B : List El} {tail : List Value} {a b : Int} (hc : CmpOk cmp c g w) (hd : data.a = some ⟨g, 0, none⟩) (hlen : data.len = (A ++ M0 ++ B).length) (hbig : data.len < 4611686018427387904)
    (hB : RowB fc w g (A ++ M0 ++ B) tail) (ha : a = (A.length : Int)) (hb : b = ((A.length + M0.length : Nat) : Int)) (hM : M0.Pairwise fun x y => x.2 < y.2)
    (hR : ∀ w' M, But g w w' → M.Perm M0 → M.Pairwise (Ah c) → RowB fc w' g (A ++ M ++ B) tail → R w') : SE.slices_insertionSortCmpFunc_apiVersion data a b cmp w R := by
  unfold SE.slices_insertionSortCmpFunc_apiVersion
  subst ha hb
  simp only [List.length_append] at hlen
  rw [wrapI_eq (by omega) (by omega)]
  by_cases h0 : M0 = []
  · subst h0
    refine ⟨fun i w' => w' = w ∧ i = (A.length : Int) + 1, fun _ _ => 0, ⟨rfl, rfl⟩, ?_⟩
    rintro i w' ⟨rfl, rfl⟩
    refine ⟨fun h => ?_, fun _ => hR _ [] ⟨Nat.le_refl _, rfl, rfl, rfl, fun _ _ _ => rfl⟩ (List.Perm.refl _) .nil hB⟩
    simp at h; omega
  have hpos : 0 < M0.length := List.length_pos_iff.2 h0
  refine ⟨fun i w' => ∃ (n : Nat) (M : List El), i = ((A.length + n : Nat) : Int) ∧ 1 ≤ n ∧ n ≤ M0.length ∧ But g w w' ∧ M.Perm (M0.take n) ∧ M.Pairwise (Ah c) ∧ RowB fc w' g (A ++ M ++ (M0.drop n ++ B)) tail, fun i _ => (A.length + M0.length) - i.toNat, ⟨1, M0.take 1, by omega, Nat.le_refl _, hpos, ⟨Nat.le_refl _, rfl, rfl, rfl, fun _ _ _ => rfl⟩, List.Perm.refl _, ?_, ?_⟩, ?_⟩
  · cases M0 with
    | nil => exact .nil
    | cons x r => exact List.pairwise_singleton _ _
  · rw [← List.append_assoc, List.append_assoc A, List.take_append_drop]; exact hB
  rintro i w1 ⟨n, M, rfl, hn1, hn2, b1, hp, hs, hB1⟩
  have hMl : M.length = n := by rw [hp.length_eq, List.length_take]; omega
  refine ⟨fun hlt => ?_, fun hge => ?_⟩
  · have hn3 : n < M0.length := by omega
    have hdrop : M0.drop n = M0[n] :: M0.drop (n + 1) := List.drop_eq_getElem_cons hn3
    have hx : ∀ y ∈ M, y.2 < M0[n].2 := fun y hy => by
      have hy' := hp.mem_iff.1 hy
      obtain ⟨j, hj, rfl⟩ := List.mem_iff_getElem.1 hy'
      rw [List.length_take] at hj
      rw [List.getElem_take]
      exact List.pairwise_iff_getElem.1 hM j n (by omega) hn3 (by omega)
    rw [hdrop] at hB1
    generalize hX : M0[n] = x at *
    refine ⟨fun j w' => ∃ (M1 M2 : List El), j = ((A.length + M1.length : Nat) : Int) ∧ M1 ++ M2 = M ∧ (∀ y ∈ M2, Ah c x y) ∧ But g w w' ∧ RowB fc w' g (A ++ M1 ++ x :: (M2 ++ (M0.drop (n + 1) ++ B))) tail, fun j _ => j.toNat, ⟨M, [], by rw [hMl], by simp, by simp, b1, by simpa using hB1⟩, ?_⟩
    rintro j w2 ⟨M1, M2, rfl, hM12, hx2, b2, hB2⟩
    refine bnd.drew fun w3 x3 => bound ?_
    have hB3 := hB2.ext x3
    have b3 : But g w w3 := b2.ext' x3
    have hl12 : M1.length + M2.length = n := by rw [← hMl, ← hM12, List.length_append]
    have fin : ∀ w' w0, But g w w' → RowB fc w' g (A ++ M1 ++ x :: (M2 ++ (M0.drop (n + 1) ++ B))) tail → (∀ y ∈ M1, Ah c y x) → w0 = w' →
        (∃ (n' : Nat) (M' : List El), wrapI (((A.length + n : Nat) : Int) + 1) = ((A.length + n' : Nat) : Int) ∧ 1 ≤ n' ∧ n' ≤ M0.length ∧ But g w w0 ∧ M'.Perm (M0.take n') ∧ M'.Pairwise (Ah c) ∧ RowB fc w0 g (A ++ M' ++ (M0.drop n' ++ B)) tail) ∧ (A.length + M0.length) - (wrapI (((A.length + n : Nat) : Int) + 1)).toNat < (A.length + M0.length) - (((A.length + n : Nat) : Int)).toNat := fun w' w0 b' hB' h1 e => by
      subst e
      rw [wrapI_eq (by omega) (by omega)]
      refine ⟨⟨n + 1, M1 ++ x :: M2, by omega, by omega, by omega, b', ?_, ?_, by simpa using hB'⟩, by omega⟩
      · rw [List.take_succ_eq_append_getElem hn3, hX]
        refine (List.perm_middle).trans ?_
        rw [hM12]
        exact (hp.cons x).trans (List.perm_append_singleton x _).symm
      · rw [← hM12] at hs
        obtain ⟨p1, p2, p3⟩ := List.pairwise_append.1 hs
        refine List.pairwise_append.2 ⟨p1, List.pairwise_cons.2 ⟨hx2, p2⟩, fun y hy z hz => ?_⟩
        rcases List.mem_cons.1 hz with rfl | hz
        · exact h1 y hy
        · exact p3 y hy z hz
    rcases List.eq_nil_or_concat M1 with rfl | ⟨M1', y, rfl⟩
    · have hf : decide ((A.length : Int) < ((A.length + ([] : List El).length : Nat) : Int)) = false := by simp
      rw [hf]
      refine ⟨⟨g, 0, none⟩, (fun h => by cases h), 0, 0, 0, (fun h => by cases h), ⟨g, 0, none⟩, (fun h => by cases h), 0, 0, 0, (fun h => by cases h), (fun h => by cases h), fun _ => ⟨(fun h => by cases h), fun _ => ?_⟩⟩
      exact fin w3 w3 b3 hB3 (by simp) rfl
    · simp only [List.concat_eq_append] at *
      have hj : decide ((A.length : Int) < ((A.length + (M1' ++ [y]).length : Nat) : Int)) = true := by simp; omega
      rw [hj]
      have hlM : (M1' ++ [y]).length = M1'.length + 1 := by simp
      have e1 : wrapI (((A.length + (M1' ++ [y]).length : Nat) : Int) - 1) = ((A.length + M1'.length : Nat) : Int) := by rw [hlM, wrapI_eq (by omega) (by omega)]; omega
      rw [e1]
      have hl2 : data.len = A.length + (n + 1 + (M0.drop (n + 1) ++ B).length) := by
        rw [hlen, List.length_append, List.length_drop]; omega
      have eB : A ++ (M1' ++ [y]) ++ x :: (M2 ++ (M0.drop (n + 1) ++ B)) = (A ++ M1') ++ y :: x :: (M2 ++ (M0.drop (n + 1) ++ B)) := by simp
      rw [eB] at hB3
      have ey : (A ++ M1').length = A.length + M1'.length := List.length_append
      have gy := hB3.ld' fc_len (get_at' ey)
      have gx := hB3.ld' fc_len (get_at1' (n := A.length + (M1' ++ [y]).length) (by rw [hlM, ey]; omega))
      have hym : y ∈ M := by rw [← hM12]; simp
      have hright := Ah.right hO (hx y hym)
      refine ⟨_, fun _ => ⟨hd, by omega, by omega⟩, _, _, _, fun _ => gx, _, fun _ => ⟨hd, by omega, by omega⟩, _, _, _, fun _ => gy, fun _ => ?_, (fun h => by cases h)⟩
      refine hc x.1 y.1 w3 _ b3 fun w4 x4 => ⟨_, rfl, fun h => ?_, fun h => ?_⟩
      · simp only [Bool.true_and, decide_eq_true_eq] at h
        refine bnd.drew fun w5 x5 => ?_
        have x35 := x4.trans x5
        have hB5 := hB3.ext x35
        have gy5 := hB5.ld' fc_len (get_at' ey)
        have gx5 := hB5.ld' fc_len (get_at1' (n := A.length + (M1' ++ [y]).length) (by rw [hlM, ey]; omega))
        refine ⟨_, ⟨hd, by omega, by omega⟩, _, _, _, gy5, _, ⟨hd, by omega, by omega⟩, _, _, _, gx5, _, ⟨hd, by omega, by omega⟩, hB5.st fc_len (i := A.length + (M1' ++ [y]).length) (x := y) (by simp only [List.length_append, List.length_cons, List.length_nil]; omega) fun w6 b6 hB6 => ⟨_, ⟨hd, by omega, by omega⟩, hB6.st fc_len (i := A.length + M1'.length) (x := x) (by simp only [List.length_set, List.length_append, List.length_cons, List.length_nil]; omega) fun w7 b7 hB7 => ?_⟩⟩
        have e2 : ((((A ++ M1') ++ y :: x :: (M2 ++ (M0.drop (n + 1) ++ B))).set (A.length + (M1' ++ [y]).length) y).set (A.length + M1'.length) x) = (A ++ M1') ++ x :: y :: (M2 ++ (M0.drop (n + 1) ++ B)) := by
          have := swap_adj (A ++ M1') (M2 ++ (M0.drop (n + 1) ++ B)) y x
          rw [ey] at this
          rw [hlM, ← Nat.add_assoc]; exact this
        rw [e2] at hB7
        refine ⟨⟨M1', y :: M2, rfl, by rw [← hM12]; simp, fun z hz => ?_, ((b3.ext' x35).trans b6).trans b7, by simpa using hB7⟩, by rw [hlM]; omega⟩
        rcases List.mem_cons.1 hz with rfl | hz
        · exact hright.1 h
        · exact hx2 z hz
      · simp only [Bool.true_and, decide_eq_false_iff_not] at h
        refine fin w4 w4 (b3.ext' x4) (by rw [eB]; exact hB3.ext x4) (fun z hz => ?_) rfl
        have hyx := hright.2 h
        rcases List.mem_append.1 hz with hz | hz
        · refine Ah.trans hO ?_ hyx
          rw [← hM12] at hs
          have := (List.pairwise_append.1 (List.pairwise_append.1 hs).1).2.2 z hz y (by simp)
          exact this
        · simp at hz; subst hz; exact hyx
  · have hn : n = M0.length := by omega
    subst hn
    rw [List.take_length] at hp
    rw [List.drop_length, List.nil_append] at hB1
    exact hR w1 M b1 hp hs hB1
set_option maxHeartbeats 1000000 in
theorem swapRange_se {data : Sl} {w : World} {R : World → Prop} {P X M Y Q : List El} {tail : List Value} {a b n : Int} (hd : data.a = some ⟨g, 0, none⟩) (hlen : data.len = (P ++ X ++ M ++ Y ++ Q).length) (hbig : data.len < 4611686018427387904)
    (hB : RowB fc w g (P ++ X ++ M ++ Y ++ Q) tail) (ha : a = (P.length : Int)) (hb : b = ((P.length + X.length + M.length : Nat) : Int)) (hn : n = (X.length : Int)) (hXY : Y.length = X.length)
    (hR : ∀ w', But g w w' → RowB fc w' g (P ++ Y ++ M ++ X ++ Q) tail → R w') : SE.slices_swapRangeCmpFunc_apiVersion data a b n cmp w R := by
  unfold SE.slices_swapRangeCmpFunc_apiVersion
  subst ha hb hn
  simp only [List.length_append] at hlen
  refine loop1.up (N := X.length) (by rw [maxLen_eq]; omega) (fun i w' => But g w w' ∧ RowB fc w' g (P ++ (Y.take i ++ X.drop i) ++ M ++ (X.take i ++ Y.drop i) ++ Q) tail) ⟨⟨Nat.le_refl _, rfl, rfl, rfl, fun _ _ _ => rfl⟩, by simpa using hB⟩ fun i w1 nxt hi ⟨b1, hB1⟩ hnx => ⟨fun hlt => ?_, fun hge => ?_⟩
  · have hi' : i < X.length := by omega
    have hiY : i < Y.length := by omega
    refine bnd.drew fun w2 x2 => ?_
    rw [wrapI_eq (x := ((P.length + X.length + M.length : Nat) : Int) + (i : Int)) (by omega) (by omega), wrapI_eq (x := (P.length : Int) + (i : Int)) (by omega) (by omega)]
    rw [show ((P.length + X.length + M.length : Nat) : Int) + (i : Int) = ((P.length + X.length + M.length + i : Nat) : Int) by omega, show (P.length : Int) + (i : Int) = ((P.length + i : Nat) : Int) by omega]
    have hB2 := hB1.ext x2
    have eL : P ++ (Y.take i ++ X.drop i) ++ M ++ (X.take i ++ Y.drop i) ++ Q = (P ++ Y.take i) ++ X[i] :: ((X.drop (i + 1) ++ M ++ X.take i) ++ Y[i] :: (Y.drop (i + 1) ++ Q)) := by
      rw [List.drop_eq_getElem_cons hi', List.drop_eq_getElem_cons hiY]; simp only [List.append_assoc, List.cons_append]
    rw [eL] at hB2
    have l1 : (P ++ Y.take i).length = P.length + i := by simp; omega
    have l2 : (X.drop (i + 1) ++ M ++ X.take i).length + 1 = X.length + M.length := by simp; omega
    have gx := hB2.ld' fc_len (get_at' l1)
    have hgy : ((P ++ Y.take i) ++ X[i] :: ((X.drop (i + 1) ++ M ++ X.take i) ++ Y[i] :: (Y.drop (i + 1) ++ Q)))[P.length + X.length + M.length + i]? = some Y[i] := by
      rw [← List.cons_append, ← List.append_assoc]
      refine get_at' ?_
      simp only [List.length_append, List.length_cons] at l1 l2 ⊢; omega
    have gy := hB2.ld' fc_len hgy
    have b2 := b1.ext' x2
    have hln : ((P ++ Y.take i) ++ X[i] :: ((X.drop (i + 1) ++ M ++ X.take i) ++ Y[i] :: (Y.drop (i + 1) ++ Q))).length = data.len := by
      rw [← eL, hlen]; simp; omega
    refine ⟨_, ⟨hd, by omega, by omega⟩, _, _, _, gy, _, ⟨hd, by omega, by omega⟩, _, _, _, gx, _, ⟨hd, by omega, by omega⟩, hB2.st fc_len (i := P.length + i) (x := Y[i]) (by rw [hln]; omega) fun w3 b3 hB3 => ⟨_, ⟨hd, by omega, by omega⟩, hB3.st fc_len (i := P.length + X.length + M.length + i) (x := X[i]) (by rw [List.length_set, hln]; omega) fun w4 b4 hB4 => hnx hi' _ ⟨(b2.trans b3).trans b4, ?_⟩⟩⟩
    have e := swap_far (P ++ Y.take i) (X.drop (i + 1) ++ M ++ X.take i) (Y.drop (i + 1) ++ Q) X[i] Y[i]
    rw [l1, show P.length + i + 1 + (X.drop (i + 1) ++ M ++ X.take i).length = P.length + X.length + M.length + i by omega] at e
    rw [e] at hB4
    have e2 : P ++ (Y.take (i + 1) ++ X.drop (i + 1)) ++ M ++ (X.take (i + 1) ++ Y.drop (i + 1)) ++ Q = (P ++ Y.take i) ++ Y[i] :: ((X.drop (i + 1) ++ M ++ X.take i) ++ X[i] :: (Y.drop (i + 1) ++ Q)) := by
      rw [List.take_succ_eq_append_getElem hi', List.take_succ_eq_append_getElem hiY]; simp only [List.append_assoc, List.cons_append, List.nil_append]
    rw [e2]; exact hB4
  · have : i = X.length := by omega
    subst this
    rw [List.take_of_length_le (by omega), List.drop_length, List.append_nil, List.take_length, List.drop_eq_nil_of_le (by omega), List.append_nil] at hB1
    exact hR w1 b1 hB1
set_option maxHeartbeats 1000000 in
theorem rotate_se {data : Sl} {w : World} {R : World → Prop} {P X Y Q : List El} {tail : List Value} {a m b : Int} (hd : data.a = some ⟨g, 0, none⟩) (hlen : data.len = (P ++ X ++ Y ++ Q).length) (hbig : data.len < 4611686018427387904)
    (hB : RowB fc w g (P ++ X ++ Y ++ Q) tail) (ha : a = (P.length : Int)) (hm : m = ((P.length + X.length : Nat) : Int)) (hb : b = ((P.length + X.length + Y.length : Nat) : Int)) (hX : 0 < X.length) (hY : 0 < Y.length)
    (hR : ∀ w', But g w w' → RowB fc w' g (P ++ Y ++ X ++ Q) tail → R w') : SE.slices_rotateCmpFunc_apiVersion data a m b cmp w R := by
  unfold SE.slices_rotateCmpFunc_apiVersion
  subst ha hb hm
  simp only [List.length_append] at hlen
  refine ⟨fun i j w' => ∃ P' X' Y' Q' : List El, i = (X'.length : Int) ∧ j = (Y'.length : Int) ∧ P'.length + X'.length = P.length + X.length ∧ 0 < X'.length ∧ 0 < Y'.length ∧ data.len = P'.length + X'.length + Y'.length + Q'.length ∧ P' ++ Y' ++ X' ++ Q' = P ++ Y ++ X ++ Q ∧ But g w w' ∧ RowB fc w' g (P' ++ X' ++ Y' ++ Q') tail,
    fun i j _ => i.toNat + j.toNat, ⟨P, X, Y, Q, by rw [wrapI_eq (by omega) (by omega)]; omega, by rw [wrapI_eq (by omega) (by omega)]; omega, rfl, hX, hY, hlen, rfl, ⟨Nat.le_refl _, rfl, rfl, rfl, fun _ _ _ => rfl⟩, hB⟩, ?_⟩
  rintro i j w1 ⟨P', X', Y', Q', rfl, rfl, hm, hX', hY', hl, hg, b1, hB1⟩
  have wi : wrapI (((P.length + X.length : Nat) : Int) - (X'.length : Int)) = (P'.length : Int) := by rw [wrapI_eq (by omega) (by omega)]; omega
  rw [wi]
  refine ⟨fun hne => ⟨fun hlt => ?_, fun hge => ?_⟩, fun heq => ?_⟩
  · have hXe : X' = X'.take Y'.length ++ X'.drop Y'.length := (List.take_append_drop _ _).symm
    have l1 : (X'.take Y'.length).length = Y'.length := by rw [List.length_take]; omega
    have l2 : (X'.drop Y'.length).length = X'.length - Y'.length := List.length_drop
    generalize X'.take Y'.length = X1 at *
    generalize X'.drop Y'.length = X2 at *
    subst hXe
    rw [List.length_append] at *
    refine SE.slices_swapRangeCmpFunc_apiVersion.go (swapRange_se (P := P') (X := X1) (M := X2) (Y := Y') (Q := Q') hd (by simp only [List.length_append]; omega) hbig (by simpa using hB1) rfl (by omega) (by omega) (by omega) fun w2 b2 hB2 => ⟨rfl, ?_⟩)
    rw [wrapI_eq (by omega) (by omega)]
    refine ⟨⟨P' ++ Y', X2, X1, Q', by omega, by omega, by rw [List.length_append]; omega, by omega, by omega, by rw [List.length_append]; omega, by rw [← hg]; simp, b1.trans b2, by simpa using hB2⟩, by show Int.toNat _ + Int.toNat _ < Int.toNat _ + Int.toNat _; omega⟩
  · have hlt : X'.length < Y'.length := by
      rcases Nat.lt_trichotomy X'.length Y'.length with h | h | h
      · exact h
      · exact absurd (by rw [h]) hne
      · omega
    have hYe : Y' = Y'.take (Y'.length - X'.length) ++ Y'.drop (Y'.length - X'.length) := (List.take_append_drop _ _).symm
    have l1 : (Y'.take (Y'.length - X'.length)).length = Y'.length - X'.length := by rw [List.length_take]; omega
    have l2 : (Y'.drop (Y'.length - X'.length)).length = X'.length := by rw [List.length_drop]; omega
    generalize hn1 : Y'.take (Y'.length - X'.length) = Y1 at *
    generalize hn2 : Y'.drop (Y'.length - X'.length) = Y2 at *
    clear hn1 hn2
    subst hYe
    rw [List.length_append] at *
    have e1 : wrapI (wrapI (((P.length + X.length : Nat) : Int) + ((Y1.length + Y2.length : Nat) : Int)) - (X'.length : Int)) = ((P'.length + X'.length + Y1.length : Nat) : Int) := by
      rw [wrapI_eq (x := ((P.length + X.length : Nat) : Int) + ((Y1.length + Y2.length : Nat) : Int)) (by omega) (by omega), wrapI_eq (by omega) (by omega)]; omega
    rw [e1]
    refine SE.slices_swapRangeCmpFunc_apiVersion.go (swapRange_se (P := P') (X := X') (M := Y1) (Y := Y2) (Q := Q') hd (by simp only [List.length_append]; omega) hbig (by simpa using hB1) rfl rfl rfl l2 fun w2 b2 hB2 => ⟨rfl, ?_⟩)
    rw [wrapI_eq (by omega) (by omega)]
    refine ⟨⟨P', Y2, Y1, X' ++ Q', by omega, by omega, by omega, by omega, by omega, by rw [List.length_append]; omega, by rw [← hg]; simp, b1.trans b2, by simpa using hB2⟩, by show Int.toNat _ + Int.toNat _ < Int.toNat _ + Int.toNat _; omega⟩
  · have heq : X'.length = Y'.length := by
      have := Classical.not_not.1 heq; omega
    refine SE.slices_swapRangeCmpFunc_apiVersion.go (swapRange_se (P := P') (X := X') (M := []) (Y := Y') (Q := Q') hd (by simp only [List.length_append, List.length_nil]; omega) hbig (by simpa using hB1) rfl (by simp only [List.length_nil]; omega) rfl heq.symm fun w2 b2 hB2 => ⟨rfl, ?_⟩)
    exact hR w2 (b1.trans b2) (by rw [← hg]; simpa using hB2)
set_option maxHeartbeats 4000000 in
theorem symMerge_se (hO : Ord3 c) {data : Sl} {tail : List Value} (hd : data.a = some ⟨g, 0, none⟩) (hbig : data.len < 4611686018427387904) :
    ∀ (N : Nat) {w : World} {R : World → Prop} {P L X Q : List El} {a m b : Int}, L.length + X.length ≤ N → CmpOk cmp c g w → data.len = (P ++ L ++ X ++ Q).length → RowB fc w g (P ++ L ++ X ++ Q) tail →
      a = (P.length : Int) → m = ((P.length + L.length : Nat) : Int) → b = ((P.length + L.length + X.length : Nat) : Int) → 0 < L.length → 0 < X.length → L.Pairwise (Ah c) → X.Pairwise (Ah c) → (∀ x ∈ L, ∀ y ∈ X, x.2 < y.2) →
      (∀ w' M, But g w w' → M.Perm (L ++ X) → M.Pairwise (Ah c) → RowB fc w' g (P ++ M ++ Q) tail → R w') → SE.slices_symMergeCmpFunc_apiVersion data a m b cmp w R
  | 0, _, _, _, L, _, _, _, _, _, h, _, _, _, _, _, _, hL, _, _, _, _, _ => by omega
  | N + 1, w, R, P, L, X, Q, _, _, _, hN, hc, hlen, hB, rfl, rfl, rfl, hL0, hX0, hL, hX, hid, hR => by
    unfold SE.slices_symMergeCmpFunc_apiVersion
    simp only [List.length_append] at hlen
    have refl : But g w w := ⟨Nat.le_refl _, rfl, rfl, rfl, fun _ _ _ => rfl⟩
    have eL : ∀ (u : Nat) (hu : u < L.length), (P ++ L ++ X ++ Q)[P.length + u]? = some L[u] := fun u hu => by
      rw [List.append_assoc, List.append_assoc, List.getElem?_append_right (by omega), List.getElem?_append_left (by omega), Nat.add_sub_cancel_left]; exact List.getElem?_eq_getElem hu
    have eX : ∀ (u : Nat) (hu : u < X.length), (P ++ L ++ X ++ Q)[P.length + L.length + u]? = some X[u] := fun u hu => by
      rw [List.append_assoc, List.getElem?_append_right (by rw [List.length_append]; omega), List.length_append, Nat.add_sub_cancel_left, List.getElem?_append_left (by omega)]; exact List.getElem?_eq_getElem hu
    have wm : wrapI (((P.length + L.length : Nat) : Int) - (P.length : Int)) = (L.length : Int) := by rw [wrapI_eq (by omega) (by omega)]; omega
    have wb : wrapI (((P.length + L.length + X.length : Nat) : Int) - ((P.length + L.length : Nat) : Int)) = (X.length : Int) := by rw [wrapI_eq (by omega) (by omega)]; omega
    rw [wm, wb]
    refine ⟨fun h1 => ?_, fun h1 => ⟨fun h2 => ?_, fun h2 => ?_⟩⟩
    · -- one thing on the left
      obtain ⟨x, rfl⟩ := List.length_eq_one_iff.1 (show L.length = 1 by omega)
      simp only [List.length_cons, List.length_nil] at *
      refine ⟨fun i j w' => ∃ p q : Nat, i = ((P.length + (0 + 1) + p : Nat) : Int) ∧ j = ((P.length + (0 + 1) + q : Nat) : Int) ∧ p ≤ q ∧ q ≤ X.length ∧ (∀ (u : Nat) (hu : u < X.length), u < p → Ah c X[u] x) ∧ (∀ (u : Nat) (hu : u < X.length), q ≤ u → Ah c x X[u]) ∧ Ext w w',
        fun i j _ => (j - i).toNat, ⟨0, X.length, by omega, by omega, by omega, by omega, fun u _ h => by omega, fun u h1 h2 => by omega, Ext.refl _⟩, ?_⟩
      rintro _ _ w1 ⟨p, q, rfl, rfl, hpq, hq, hp1, hq1, x1⟩
      refine ⟨fun hlt => bnd.drew fun w2 x2 => ?_, fun hge => ?_⟩
      · rw [half (by omega)]
        have he : (P.length + (0 + 1) + p + (P.length + (0 + 1) + q)) / 2 = P.length + (0 + 1) + (p + q) / 2 := by omega
        rw [he]
        have heX : (p + q) / 2 < X.length := by omega
        have hB2 := hB.ext (x1.trans x2)
        have gx := hB2.ld' fc_len (eL 0 (by simp))
        have gy := hB2.ld' fc_len (eX _ heX)
        have hright := Ah.right hO (hid x (by simp) _ (List.getElem_mem heX))
        refine ⟨_, ⟨hd, by omega, by omega⟩, _, _, _, gy, _, ⟨hd, by omega, by omega⟩, _, _, _, gx, hc _ x.1 w2 _ (refl.ext' (x1.trans x2)) fun w3 x3 => ⟨_, rfl, fun h => ?_, fun h => ?_⟩⟩
        · have hA := hright.1 h
          rw [wrapI_eq (by omega) (by omega)]
          refine ⟨⟨(p + q) / 2 + 1, q, by omega, rfl, by omega, hq, fun u hu hlt => ?_, hq1, x1.trans (x2.trans x3)⟩, by show Int.toNat _ < Int.toNat _; omega⟩
          rcases Nat.lt_succ_iff_lt_or_eq.1 hlt with h' | rfl
          · exact (List.pairwise_iff_getElem.1 hX u _ hu heX h').trans hO hA
          · exact hA
        · have hA := hright.2 h
          refine ⟨⟨p, (p + q) / 2, rfl, rfl, by omega, by omega, hp1, fun u hu hge => ?_, x1.trans (x2.trans x3)⟩, by show Int.toNat _ < Int.toNat _; omega⟩
          rcases Nat.lt_or_eq_of_le hge with h' | rfl
          · exact hA.trans hO (List.pairwise_iff_getElem.1 hX _ u heX hu h')
          · exact hA
      · have hpq' : p = q := by omega
        subst hpq'
        have wi : wrapI (((P.length + (0 + 1) + p : Nat) : Int) - 1) = ((P.length + p : Nat) : Int) := by rw [wrapI_eq (by omega) (by omega)]; omega
        rw [wi]
        refine ⟨fun k w' => ∃ t : Nat, k = ((P.length + t : Nat) : Int) ∧ t ≤ p ∧ But g w w' ∧ RowB fc w' g (P ++ (X.take t ++ x :: X.drop t) ++ Q) tail, fun k _ => (P.length + p) - k.toNat, ⟨0, by omega, by omega, refl.ext' x1, by simpa using hB.ext x1⟩, ?_⟩
        rintro _ w2 ⟨t, rfl, htp, b2, hB2⟩
        refine ⟨fun hlt => bnd.drew fun w3 x3 => ?_, fun hge => ?_⟩
        · have htX : t < X.length := by omega
          have e1 : wrapI (((P.length + t : Nat) : Int) + 1) = ((P.length + t + 1 : Nat) : Int) := by rw [wrapI_eq (by omega) (by omega)]; omega
          rw [e1]
          have eB : P ++ (X.take t ++ x :: X.drop t) ++ Q = (P ++ X.take t) ++ x :: X[t] :: (X.drop (t + 1) ++ Q) := by
            rw [List.drop_eq_getElem_cons htX]; simp only [List.append_assoc, List.cons_append]
          have hB3 := hB2.ext x3
          rw [eB] at hB3
          have ey : (P ++ X.take t).length = P.length + t := by rw [List.length_append, List.length_take]; omega
          have gy := hB3.ld' fc_len (get_at' ey)
          have gx := hB3.ld' fc_len (get_at1' (n := P.length + t + 1) (by omega))
          have hln : ((P ++ X.take t) ++ x :: X[t] :: (X.drop (t + 1) ++ Q)).length = data.len := by rw [← eB, hlen]; simp; omega
          refine ⟨_, ⟨hd, by omega, by omega⟩, _, _, _, gx, _, ⟨hd, by omega, by omega⟩, _, _, _, gy, _, ⟨hd, by omega, by omega⟩, hB3.st fc_len (i := P.length + t) (x := X[t]) (by rw [hln]; omega) fun w4 b4 hB4 => ⟨_, ⟨hd, by omega, by omega⟩, hB4.st fc_len (i := P.length + t + 1) (x := x) (by rw [List.length_set, hln]; omega) fun w5 b5 hB5 => ?_⟩⟩
          have e2 := swap_adj' (P ++ X.take t) (X.drop (t + 1) ++ Q) x X[t]
          rw [ey] at e2
          rw [e2] at hB5
          refine ⟨⟨t + 1, by omega, by omega, ((b2.ext' x3).trans b4).trans b5, ?_⟩, by show _ - Int.toNat _ < _ - Int.toNat _; omega⟩
          rw [List.take_succ_eq_append_getElem htX]
          simpa only [List.append_assoc, List.cons_append, List.nil_append] using hB5
        · have : t = p := by omega
          subst this
          refine hR w2 _ b2 ?_ ?_ hB2
          · refine List.perm_middle.trans ?_
            rw [List.take_append_drop]; exact List.Perm.refl _
          · refine List.pairwise_append.2 ⟨hX.sublist (List.take_sublist _ _), List.pairwise_cons.2 ⟨fun y hy => ?_, hX.sublist (List.drop_sublist _ _)⟩, fun y hy z hz => ?_⟩
            · obtain ⟨u, hu, rfl⟩ := List.mem_iff_getElem.1 hy
              rw [List.length_drop] at hu
              rw [List.getElem_drop]; exact hq1 _ (by omega) (by omega)
            · obtain ⟨u, hu, rfl⟩ := List.mem_iff_getElem.1 hy
              rw [List.length_take] at hu
              rw [List.getElem_take]
              have hyx := hp1 u (by omega) (by omega)
              rcases List.mem_cons.1 hz with rfl | hz
              · exact hyx
              · obtain ⟨v, hv, rfl⟩ := List.mem_iff_getElem.1 hz
                rw [List.length_drop] at hv
                rw [List.getElem_drop]; exact hyx.trans hO (hq1 _ (by omega) (by omega))
    · -- one thing on the right
      obtain ⟨y, rfl⟩ := List.length_eq_one_iff.1 (show X.length = 1 by omega)
      simp only [List.length_cons, List.length_nil] at *
      refine ⟨fun i j w' => ∃ p q : Nat, i = ((P.length + p : Nat) : Int) ∧ j = ((P.length + q : Nat) : Int) ∧ p ≤ q ∧ q ≤ L.length ∧ (∀ (u : Nat) (hu : u < L.length), u < p → Ah c L[u] y) ∧ (∀ (u : Nat) (hu : u < L.length), q ≤ u → Ah c y L[u]) ∧ Ext w w',
        fun i j _ => (j - i).toNat, ⟨0, L.length, by omega, by omega, by omega, by omega, fun u _ h => by omega, fun u h1 h2 => by omega, Ext.refl _⟩, ?_⟩
      rintro _ _ w1 ⟨p, q, rfl, rfl, hpq, hq, hp1, hq1, x1⟩
      refine ⟨fun hlt => bnd.drew fun w2 x2 => ?_, fun hge => ?_⟩
      · rw [half (by omega)]
        have he : (P.length + p + (P.length + q)) / 2 = P.length + (p + q) / 2 := by omega
        rw [he]
        have heX : (p + q) / 2 < L.length := by omega
        have hB2 := hB.ext (x1.trans x2)
        have gx := hB2.ld' fc_len (eX 0 (by simp))
        have gy := hB2.ld' fc_len (eL _ heX)
        have hright := Ah.right hO (hid _ (List.getElem_mem heX) y (by simp))
        refine ⟨_, ⟨hd, by omega, by omega⟩, _, _, _, gx, _, ⟨hd, by omega, by omega⟩, _, _, _, gy, hc y.1 _ w2 _ (refl.ext' (x1.trans x2)) fun w3 x3 => ⟨_, rfl, fun h => ?_, fun h => ?_⟩⟩
        · have hA := hright.2 h
          rw [wrapI_eq (by omega) (by omega)]
          refine ⟨⟨(p + q) / 2 + 1, q, by omega, rfl, by omega, hq, fun u hu hlt => ?_, hq1, x1.trans (x2.trans x3)⟩, by show Int.toNat _ < Int.toNat _; omega⟩
          rcases Nat.lt_succ_iff_lt_or_eq.1 hlt with h' | rfl
          · exact (List.pairwise_iff_getElem.1 hL u _ hu heX h').trans hO hA
          · exact hA
        · have hA := hright.1 (Classical.not_not.1 h)
          refine ⟨⟨p, (p + q) / 2, rfl, rfl, by omega, by omega, hp1, fun u hu hge => ?_, x1.trans (x2.trans x3)⟩, by show Int.toNat _ < Int.toNat _; omega⟩
          rcases Nat.lt_or_eq_of_le hge with h' | rfl
          · exact hA.trans hO (List.pairwise_iff_getElem.1 hL _ u heX hu h')
          · exact hA
      · have hpq' : p = q := by omega
        subst hpq'
        refine ⟨fun k w' => ∃ t : Nat, k = ((P.length + t : Nat) : Int) ∧ p ≤ t ∧ t ≤ L.length ∧ But g w w' ∧ RowB fc w' g (P ++ (L.take t ++ y :: L.drop t) ++ Q) tail, fun k _ => k.toNat, ⟨L.length, by omega, by omega, by omega, refl.ext' x1, by simpa using hB.ext x1⟩, ?_⟩
        rintro _ w2 ⟨t, rfl, htp, htL, b2, hB2⟩
        refine ⟨fun hlt => bnd.drew fun w3 x3 => ?_, fun hge => ?_⟩
        · obtain ⟨s, rfl⟩ : ∃ s, t = s + 1 := ⟨t - 1, by omega⟩
          have hsL : s < L.length := by omega
          have e1 : wrapI (((P.length + (s + 1) : Nat) : Int) - 1) = ((P.length + s : Nat) : Int) := by rw [wrapI_eq (by omega) (by omega)]; omega
          rw [e1]
          have eB : P ++ (L.take (s + 1) ++ y :: L.drop (s + 1)) ++ Q = (P ++ L.take s) ++ L[s] :: y :: (L.drop (s + 1) ++ Q) := by
            rw [List.take_succ_eq_append_getElem hsL]; simp only [List.append_assoc, List.cons_append, List.nil_append]
          have hB3 := hB2.ext x3
          rw [eB] at hB3
          have ey : (P ++ L.take s).length = P.length + s := by rw [List.length_append, List.length_take]; omega
          have gy := hB3.ld' fc_len (get_at' ey)
          have gx := hB3.ld' fc_len (get_at1' (n := P.length + (s + 1)) (by omega))
          have hln : ((P ++ L.take s) ++ L[s] :: y :: (L.drop (s + 1) ++ Q)).length = data.len := by rw [← eB, hlen]; simp; omega
          refine ⟨_, ⟨hd, by omega, by omega⟩, _, _, _, gy, _, ⟨hd, by omega, by omega⟩, _, _, _, gx, _, ⟨hd, by omega, by omega⟩, hB3.st fc_len (i := P.length + (s + 1)) (x := L[s]) (by rw [hln]; omega) fun w4 b4 hB4 => ⟨_, ⟨hd, by omega, by omega⟩, hB4.st fc_len (i := P.length + s) (x := y) (by rw [List.length_set, hln]; omega) fun w5 b5 hB5 => ?_⟩⟩
          have e2 := swap_adj (P ++ L.take s) (L.drop (s + 1) ++ Q) L[s] y
          rw [ey, Nat.add_assoc] at e2
          rw [e2] at hB5
          refine ⟨⟨s, by omega, by omega, by omega, ((b2.ext' x3).trans b4).trans b5, ?_⟩, by show Int.toNat _ < Int.toNat _; omega⟩
          rw [List.drop_eq_getElem_cons hsL]
          simpa only [List.append_assoc, List.cons_append, List.nil_append] using hB5
        · have : t = p := by omega
          subst this
          refine hR w2 _ b2 ?_ ?_ hB2
          · refine List.perm_middle.trans ?_
            rw [List.take_append_drop]; exact (List.perm_append_singleton y L).symm
          · refine List.pairwise_append.2 ⟨hL.sublist (List.take_sublist _ _), List.pairwise_cons.2 ⟨fun z hz => ?_, hL.sublist (List.drop_sublist _ _)⟩, fun x hx z hz => ?_⟩
            · obtain ⟨u, hu, rfl⟩ := List.mem_iff_getElem.1 hz
              rw [List.length_drop] at hu
              rw [List.getElem_drop]; exact hq1 _ (by omega) (by omega)
            · obtain ⟨u, hu, rfl⟩ := List.mem_iff_getElem.1 hx
              rw [List.length_take] at hu
              rw [List.getElem_take]
              have hyx := hp1 u (by omega) (by omega)
              rcases List.mem_cons.1 hz with rfl | hz
              · exact hyx
              · obtain ⟨v, hv, rfl⟩ := List.mem_iff_getElem.1 hz
                rw [List.length_drop] at hv
                rw [List.getElem_drop]; exact hyx.trans hO (hq1 _ (by omega) (by omega))
    · -- both sides have more
      rw [half (i := P.length) (j := P.length + L.length + X.length) (by omega)]
      have hmid : (P.length + (P.length + L.length + X.length)) / 2 = P.length + (L.length + X.length) / 2 := by omega
      rw [hmid]
      generalize hH : (L.length + X.length) / 2 = H at *
      have wn : wrapI (((P.length + H : Nat) : Int) + ((P.length + L.length : Nat) : Int)) = ((P.length + H + (P.length + L.length) : Nat) : Int) := by rw [wrapI_eq (by omega) (by omega)]; omega
      rw [wn]
      have wp : wrapI (((P.length + H + (P.length + L.length) : Nat) : Int) - 1) = ((P.length + H + (P.length + L.length) - 1 : Nat) : Int) := by rw [wrapI_eq (by omega) (by omega)]; omega
      rw [wp]
      refine join.named fun J hJ => ?_
      have main : ∀ u0 v0 : Nat, u0 = H - X.length → v0 = min L.length H → J ((P.length + u0 : Nat) : Int) ((P.length + v0 : Nat) : Int) w := fun u0 v0 hu0 hv0 => by
        subst hJ
        show loop2 _ _ _ _
        refine ⟨fun i j w' => ∃ s r : Nat, i = ((P.length + s : Nat) : Int) ∧ j = ((P.length + r : Nat) : Int) ∧ u0 ≤ s ∧ s ≤ r ∧ r ≤ v0 ∧ (∀ (u : Nat) (h1 : u < L.length) (h2 : H - 1 - u < X.length), u0 ≤ u → u < s → Ah c L[u] X[H - 1 - u]) ∧ (∀ (u : Nat) (h1 : u < L.length) (h2 : H - 1 - u < X.length), r ≤ u → u < v0 → Ah c X[H - 1 - u] L[u]) ∧ Ext w w',
          fun i j _ => (j - i).toNat, ⟨u0, v0, rfl, rfl, Nat.le_refl _, by omega, Nat.le_refl _, fun u _ _ h1 h2 => by omega, fun u _ _ h1 h2 => by omega, Ext.refl _⟩, ?_⟩
        rintro _ _ w1 ⟨s, r, rfl, rfl, hs0, hsr, hrv, hs1, hr1, x1⟩
        refine ⟨fun hlt => bnd.drew fun w2 x2 => ?_, fun hge => ?_⟩
        · rw [half (by omega)]
          have he : (P.length + s + (P.length + r)) / 2 = P.length + (s + r) / 2 := by omega
          rw [he]
          generalize hu : (s + r) / 2 = u at *
          have huL : u < L.length := by omega
          have huX : H - 1 - u < X.length := by omega
          have wpc : wrapI (((P.length + H + (P.length + L.length) - 1 : Nat) : Int) - ((P.length + u : Nat) : Int)) = ((P.length + L.length + (H - 1 - u) : Nat) : Int) := by rw [wrapI_eq (by omega) (by omega)]; omega
          rw [wpc]
          have hB2 := hB.ext (x1.trans x2)
          have gx := hB2.ld' fc_len (eX _ huX)
          have gy := hB2.ld' fc_len (eL _ huL)
          have hright := Ah.right hO (hid _ (List.getElem_mem huL) _ (List.getElem_mem huX))
          refine ⟨_, ⟨hd, by omega, by omega⟩, _, _, _, gx, _, ⟨hd, by omega, by omega⟩, _, _, _, gy, hc _ _ w2 _ (refl.ext' (x1.trans x2)) fun w3 x3 => ⟨_, rfl, fun h => ?_, fun h => ?_⟩⟩
          · have hA := hright.2 h
            rw [wrapI_eq (by omega) (by omega)]
            refine ⟨⟨u + 1, r, by omega, rfl, by omega, by omega, hrv, fun t h1 h2 h3 h4 => ?_, hr1, x1.trans (x2.trans x3)⟩, by show Int.toNat _ < Int.toNat _; omega⟩
            rcases Nat.lt_succ_iff_lt_or_eq.1 h4 with h' | rfl
            · exact ((List.pairwise_iff_getElem.1 hL t u h1 huL h').trans hO hA).trans hO (List.pairwise_iff_getElem.1 hX (H - 1 - u) (H - 1 - t) huX h2 (by omega))
            · exact hA
          · have hA := hright.1 (Classical.not_not.1 h)
            refine ⟨⟨s, u, rfl, rfl, hs0, by omega, by omega, hs1, fun t h1 h2 h3 h4 => ?_, x1.trans (x2.trans x3)⟩, by show Int.toNat _ < Int.toNat _; omega⟩
            rcases Nat.lt_or_eq_of_le h3 with h' | rfl
            · exact ((List.pairwise_iff_getElem.1 hX (H - 1 - t) (H - 1 - u) h2 huX (by omega)).trans hO hA).trans hO (List.pairwise_iff_getElem.1 hL u t huL h1 h')
            · exact hA
        · have hsr' : s = r := by omega
          subst hsr'
          have hsL : s ≤ L.length := by omega
          have hsH : s ≤ H := by omega
          have hHX : H - s ≤ X.length := by omega
          have wend : wrapI (((P.length + H + (P.length + L.length) : Nat) : Int) - ((P.length + s : Nat) : Int)) = ((P.length + L.length + (H - s) : Nat) : Int) := by rw [wrapI_eq (by omega) (by omega)]; omega
          rw [wend]
          have cr1 : ∀ x ∈ L.take s, ∀ y ∈ X.drop (H - s), Ah c x y := fun x hx y hy => by
            obtain ⟨i, hi, rfl⟩ := List.mem_iff_getElem.1 hx
            obtain ⟨j, hj, rfl⟩ := List.mem_iff_getElem.1 hy
            rw [List.length_take] at hi; rw [List.length_drop] at hj
            rw [List.getElem_take, List.getElem_drop]
            have k1 := hs1 (s - 1) (by omega) (by omega) (by omega) (by omega)
            have e : H - 1 - (s - 1) = H - s := by omega
            have k2 : Ah c L[i] X[H - s] := by
              rcases Nat.lt_or_eq_of_le (show i ≤ s - 1 by omega) with h | h
              · have := (List.pairwise_iff_getElem.1 hL i (s - 1) (by omega) (by omega) h).trans hO k1
                simpa only [e] using this
              · subst h; simpa only [e] using k1
            rcases Nat.eq_zero_or_pos j with h | h
            · subst h; exact k2
            · exact k2.trans hO (List.pairwise_iff_getElem.1 hX (H - s) (H - s + j) (by omega) (by omega) (by omega))
          have cr2 : ∀ y ∈ X.take (H - s), ∀ x ∈ L.drop s, Ah c y x := fun y hy x hx => by
            obtain ⟨i, hi, rfl⟩ := List.mem_iff_getElem.1 hx
            obtain ⟨j, hj, rfl⟩ := List.mem_iff_getElem.1 hy
            rw [List.length_drop] at hi; rw [List.length_take] at hj
            rw [List.getElem_take, List.getElem_drop]
            have k1 := hr1 s (by omega) (by omega) (Nat.le_refl _) (by omega)
            have k2 : Ah c X[j] L[s] := by
              rcases Nat.lt_or_eq_of_le (show j ≤ H - 1 - s by omega) with h | h
              · exact (List.pairwise_iff_getElem.1 hX j (H - 1 - s) (by omega) (by omega) h).trans hO k1
              · subst h; exact k1
            rcases Nat.eq_zero_or_pos i with h | h
            · subst h; exact k2
            · exact k2.trans hO (List.pairwise_iff_getElem.1 hL s (s + i) (by omega) (by omega) (by omega))
          have lt1 : (L.take s).length = s := by rw [List.length_take]; omega
          have lt2 : (X.take (H - s)).length = H - s := by rw [List.length_take]; omega
          have lt3 : (L.drop s).length = L.length - s := List.length_drop
          have lt4 : (X.drop (H - s)).length = X.length - (H - s) := List.length_drop
          have sL1 := hL.sublist (List.take_sublist s L)
          have sL2 := hL.sublist (List.drop_sublist s L)
          have sX1 := hX.sublist (List.take_sublist (H - s) X)
          have sX2 := hX.sublist (List.drop_sublist (H - s) X)
          have id1 : ∀ x ∈ L.take s, ∀ y ∈ X.take (H - s), x.2 < y.2 := fun x hx y hy => hid x (List.mem_of_mem_take hx) y (List.mem_of_mem_take hy)
          have id2 : ∀ x ∈ L.drop s, ∀ y ∈ X.drop (H - s), x.2 < y.2 := fun x hx y hy => hid x (List.mem_of_mem_drop hx) y (List.mem_of_mem_drop hy)
          have eLs : L = L.take s ++ L.drop s := (List.take_append_drop _ _).symm
          have eXs : X = X.take (H - s) ++ X.drop (H - s) := (List.take_append_drop _ _).symm
          have hLX : L.take s = [] ∨ 0 < s := by rcases Nat.eq_zero_or_pos s with h | h; · exact .inl (by rw [h]; rfl)
                                                 · exact .inr h
          have permAll : ∀ M1 M2 : List El, M1.Perm (L.take s ++ X.take (H - s)) → M2.Perm (L.drop s ++ X.drop (H - s)) → (M1 ++ M2).Perm (L ++ X) := fun M1 M2 h1 h2 => by
            refine (h1.append h2).trans ?_
            conv => rhs; rw [eLs, eXs]
            rw [List.append_assoc, List.append_assoc]
            refine List.Perm.append_left _ ?_
            rw [← List.append_assoc, ← List.append_assoc]
            exact List.Perm.append_right _ List.perm_append_comm
          have sortAll : ∀ M1 M2 : List El, M1.Perm (L.take s ++ X.take (H - s)) → M2.Perm (L.drop s ++ X.drop (H - s)) → M1.Pairwise (Ah c) → M2.Pairwise (Ah c) → (M1 ++ M2).Pairwise (Ah c) := fun M1 M2 h1 h2 s1 s2 =>
            List.pairwise_append.2 ⟨s1, s2, fun x hx y hy => by
              rcases List.mem_append.1 (h1.mem_iff.1 hx) with hx | hx <;> rcases List.mem_append.1 (h2.mem_iff.1 hy) with hy | hy
              · obtain ⟨i, hi, rfl⟩ := List.mem_iff_getElem.1 hx
                obtain ⟨j, hj, rfl⟩ := List.mem_iff_getElem.1 hy
                rw [lt1] at hi; rw [lt3] at hj
                rw [List.getElem_take, List.getElem_drop]
                exact List.pairwise_iff_getElem.1 hL i (s + j) (by omega) (by omega) (by omega)
              · exact cr1 x hx y hy
              · exact cr2 x hx y hy
              · obtain ⟨i, hi, rfl⟩ := List.mem_iff_getElem.1 hx
                obtain ⟨j, hj, rfl⟩ := List.mem_iff_getElem.1 hy
                rw [lt2] at hi; rw [lt4] at hj
                rw [List.getElem_take, List.getElem_drop]
                exact List.pairwise_iff_getElem.1 hX i (H - s + j) (by omega) (by omega) (by omega)⟩
          generalize L.take s = L1 at *
          generalize L.drop s = L2 at *
          generalize X.take (H - s) = X1 at *
          generalize X.drop (H - s) = X2 at *
          have b1 : But g w w1 := refl.ext' x1
          have hB1 := hB.ext x1
          refine join.named fun J2 hJ2 => ?_
          have k2 : ∀ w2, But g w w2 → RowB fc w2 g (P ++ L1 ++ X1 ++ (L2 ++ X2 ++ Q)) tail → J2 w2 := fun w2 b2 hB2 => by
            subst hJ2
            refine join.named fun J3 hJ3 => bound ?_
            have k3 : ∀ w3 M1, But g w w3 → M1.Perm (L1 ++ X1) → M1.Pairwise (Ah c) → RowB fc w3 g (P ++ M1 ++ (L2 ++ X2 ++ Q)) tail → J3 w3 := fun w3 M1 b3 hp1 so1 hB3 => by
              subst hJ3
              have lM : M1.length = H := by rw [hp1.length_eq, List.length_append]; omega
              refine bound ⟨fun h => ?_, fun h => ?_⟩
              · simp only [Bool.and_eq_true, decide_eq_true_eq] at h
                refine SE.slices_symMergeCmpFunc_apiVersion.go (symMerge_se hO hd hbig N (P := P ++ M1) (L := L2) (X := X2) (Q := Q) (by omega) (hc.but b3) (by simp only [List.length_append]; omega) (by simpa only [List.append_assoc] using hB3) (by rw [List.length_append]; omega) (by rw [List.length_append]; omega) (by rw [List.length_append]; omega) (by omega) (by omega) sL2 sX2 id2 fun w4 M2 b4 hp2 so2 hB4 => ⟨rfl, ?_⟩)
                exact hR w4 (M1 ++ M2) (b3.trans b4) (permAll M1 M2 hp1 hp2) (sortAll M1 M2 hp1 hp2 so1 so2) (by simpa only [List.append_assoc] using hB4)
              · simp only [Bool.and_eq_false_iff, decide_eq_false_iff_not] at h
                refine hR w3 (M1 ++ (L2 ++ X2)) b3 (permAll M1 _ hp1 (List.Perm.refl _)) (sortAll M1 _ hp1 (List.Perm.refl _) so1 ?_) (by simpa only [List.append_assoc] using hB3)
                have : L2 = [] ∨ X2 = [] := by
                  rcases h with h | h
                  · exact .inl (List.eq_nil_of_length_eq_zero (by omega))
                  · exact .inr (List.eq_nil_of_length_eq_zero (by omega))
                rcases this with rfl | rfl
                · simpa using sX2
                · simpa using sL2
            refine ⟨fun h => ?_, fun h => ?_⟩
            · simp only [Bool.and_eq_true, decide_eq_true_eq] at h
              refine SE.slices_symMergeCmpFunc_apiVersion.go (symMerge_se hO hd hbig N (P := P) (L := L1) (X := X1) (Q := L2 ++ X2 ++ Q) (by omega) (hc.but b2) (by simp only [List.length_append]; omega) (by simpa only [List.append_assoc] using hB2) rfl (by omega) (by omega) (by omega) (by omega) sL1 sX1 id1 fun w4 M1 b4 hp1 so1 hB4 => ⟨rfl, k3 w4 M1 (b2.trans b4) hp1 so1 hB4⟩)
            · simp only [Bool.and_eq_false_iff, decide_eq_false_iff_not] at h
              refine k3 w2 (L1 ++ X1) b2 (List.Perm.refl _) ?_ (by simpa only [List.append_assoc] using hB2)
              have : L1 = [] ∨ X1 = [] := by
                rcases h with h | h
                · exact .inl (List.eq_nil_of_length_eq_zero (by omega))
                · exact .inr (List.eq_nil_of_length_eq_zero (by omega))
              rcases this with rfl | rfl
              · simpa using sX1
              · simpa using sL1
          rw [eLs, eXs] at hB1
          refine bound ⟨fun h => ?_, fun h => ?_⟩
          · simp only [Bool.and_eq_true, decide_eq_true_eq] at h
            refine SE.slices_rotateCmpFunc_apiVersion.go (rotate_se (P := P ++ L1) (X := L2) (Y := X1) (Q := X2 ++ Q) hd (by simp only [List.length_append]; omega) hbig (by simpa only [List.append_assoc] using hB1) (by rw [List.length_append]; omega) (by rw [List.length_append]; omega) (by rw [List.length_append]; omega) (by omega) (by omega) fun w2 b2 hB2 => ⟨rfl, k2 w2 (b1.trans b2) (by simpa only [List.append_assoc] using hB2)⟩)
          · simp only [Bool.and_eq_false_iff, decide_eq_false_iff_not] at h
            refine k2 w1 b1 ?_
            have : L2 = [] ∨ X1 = [] := by
              rcases h with h | h
              · exact .inl (List.eq_nil_of_length_eq_zero (by omega))
              · exact .inr (List.eq_nil_of_length_eq_zero (by omega))
            rcases this with rfl | rfl
            · simpa only [List.append_assoc, List.append_nil, List.nil_append] using hB1
            · simpa only [List.append_assoc, List.append_nil, List.nil_append] using hB1
      refine ⟨fun h => ?_, fun h => ?_⟩
      · have := main (H - X.length) H rfl (by omega)
        have e : wrapI (((P.length + H + (P.length + L.length) : Nat) : Int) - ((P.length + L.length + X.length : Nat) : Int)) = ((P.length + (H - X.length) : Nat) : Int) := by rw [wrapI_eq (by omega) (by omega)]; omega
        rw [e]; exact this
      · have := main 0 L.length (by omega) (by omega)
        exact this
theorem ids {z0 : List El} (hz : z0.Pairwise fun x y => x.2 < y.2) {i n j m : Nat} (h : i + n ≤ j) : ∀ x ∈ sg z0 i n, ∀ y ∈ sg z0 j m, x.2 < y.2 := fun x hx y hy => by
  obtain ⟨a, ha, _, ha2, rfl⟩ := sg_mem hx
  obtain ⟨b, hb, hb1, _, rfl⟩ := sg_mem hy
  exact List.pairwise_iff_getElem.1 hz a b ha hb (by omega)
set_option maxHeartbeats 4000000 in
theorem stable_se (hO : Ord3 c) {data : Sl} {tail : List Value} {w : World} {R : World → Prop} {z0 : List El} {n : Int} (hd : data.a = some ⟨g, 0, none⟩) (hbig : data.len < 2305843009213693952) (hc : CmpOk cmp c g w) (hlen : data.len = z0.length) (hn : n = (z0.length : Int)) (hB : RowB fc w g z0 tail)
    (hz : z0.Pairwise fun x y => x.2 < y.2) (hR : ∀ w' M, But g w w' → M.Perm z0 → M.Pairwise (Ah c) → RowB fc w' g M tail → R w') : SE.slices_stableCmpFunc_apiVersion data n cmp w R := by
  unfold SE.slices_stableCmpFunc_apiVersion
  subst hn
  have refl : But g w w := ⟨Nat.le_refl _, rfl, rfl, rfl, fun _ _ _ => rfl⟩
  refine ⟨fun a b w' => ∃ (k : Nat) (z : List El), a = ((k * 20 : Nat) : Int) ∧ b = ((k * 20 + 20 : Nat) : Int) ∧ k * 20 ≤ z0.length ∧ z.length = z0.length ∧ z.drop (k * 20) = z0.drop (k * 20) ∧ Chunks c 20 z z0 k ∧ But g w w' ∧ RowB fc w' g z tail,
    fun a _ _ => z0.length - a.toNat, ⟨0, z0, rfl, rfl, by omega, rfl, rfl, ⟨fun i h => by omega, fun i h => by omega⟩, refl, hB⟩, ?_⟩
  rintro _ _ w1 ⟨k, z, rfl, rfl, hk, hzl, hdr, hch, b1, hB1⟩
  have la : (z.take (k * 20)).length = k * 20 := by rw [List.length_take]; omega
  refine ⟨fun hle => ?_, fun hgt => ?_⟩
  · have hsg : sg z (k * 20) 20 = sg z0 (k * 20) 20 := by unfold sg; rw [hdr]
    have hs := sg_split z (k * 20) 20
    have hsl : (sg z (k * 20) 20).length = 20 := sg_len (by omega)
    rw [hs] at hB1
    refine SE.slices_insertionSortCmpFunc_apiVersion.go (insertion_se hO (A := z.take (k * 20)) (M0 := sg z (k * 20) 20) (B := z.drop (k * 20 + 20)) (hc.but b1) hd (by rw [← hs, hzl]; exact hlen) (by omega) hB1 (by rw [la]) (by rw [la, hsl]) (by rw [hsg]; exact hz.sublist ((List.take_sublist _ _).trans (List.drop_sublist _ _))) fun w2 M b2 hp hso hB2 => ⟨rfl, ?_⟩)
    have hMl : M.length = 20 := by rw [hp.length_eq, hsl]
    rw [wrapI_eq (by omega) (by omega)]
    refine ⟨⟨k + 1, z.take (k * 20) ++ M ++ z.drop (k * 20 + 20), by omega, by omega, by omega, ?_, ?_, ?_, b1.trans b2, hB2⟩, by show _ - Int.toNat _ < _ - Int.toNat _; omega⟩
    · simp only [List.length_append, List.length_drop, la, hMl]; omega
    · rw [List.drop_left' (by rw [List.length_append, la, hMl]; omega), show k * 20 + 20 = (k + 1) * 20 by omega]
      rw [show (k + 1) * 20 = k * 20 + 20 by omega, ← List.drop_drop, hdr, List.drop_drop]
    · constructor
      · intro i hi
        rcases Nat.lt_succ_iff_lt_or_eq.1 hi with h | rfl
        · rw [sg_left (by rw [la]; omega)]
          have := hch.perm i h
          rw [hs, sg_left (by rw [la]; omega)] at this
          exact this
        · rw [sg_self la hMl, ← hsg]; exact hp
      · intro i hi
        rcases Nat.lt_succ_iff_lt_or_eq.1 hi with h | rfl
        · rw [sg_left (by rw [la]; omega)]
          have := hch.sort i h
          rw [hs, sg_left (by rw [la]; omega)] at this
          exact this
        · rw [sg_self la hMl]; exact hso
  · have hs : z = z.take (k * 20) ++ z.drop (k * 20) ++ [] := by rw [List.append_nil, List.take_append_drop]
    have hdl : (z.drop (k * 20)).length = z0.length - k * 20 := by rw [List.length_drop, hzl]
    rw [hs] at hB1
    refine SE.slices_insertionSortCmpFunc_apiVersion.go (insertion_se hO (A := z.take (k * 20)) (M0 := z.drop (k * 20)) (B := []) (hc.but b1) hd (by rw [← hs, hzl]; exact hlen) (by omega) hB1 (by rw [la]) (by rw [la, hdl]; omega) (by rw [hdr]; exact hz.sublist (List.drop_sublist _ _)) fun w2 M b2 hp hso hB2 => ⟨rfl, ?_⟩)
    have hMl : M.length = z0.length - k * 20 := by rw [hp.length_eq, hdl]
    rw [List.append_nil] at hB2
    have hch0 : ∀ j, Chunks c 20 (z.take (k * 20) ++ M) z0 j := fun j => by
      have hsg : sg z (k * 20) 20 = z.drop (k * 20) := by unfold sg; rw [List.take_of_length_le (by omega)]
      have hsg0 : sg z0 (k * 20) 20 = z0.drop (k * 20) := by unfold sg; rw [List.take_of_length_le (by rw [List.length_drop]; omega)]
      constructor
      · intro i _
        rcases Nat.lt_trichotomy i k with h | rfl | h
        · have := hch.perm i h
          rw [hs, sg_left (by rw [la]; omega)] at this
          rw [← List.append_nil (z.take (k * 20) ++ M), sg_left (by rw [la]; omega)]
          exact this
        · rw [sg_last la (by omega), hsg0, ← hdr]; exact hp
        · have : k + 1 ≤ i := h
          rw [sg_nil (by rw [List.length_append, la]; omega), sg_nil (by omega)]
      · intro i _
        rcases Nat.lt_trichotomy i k with h | rfl | h
        · have := hch.sort i h
          rw [hs, sg_left (by rw [la]; omega)] at this
          rw [← List.append_nil (z.take (k * 20) ++ M), sg_left (by rw [la]; omega)]
          exact this
        · rw [sg_last la (by omega)]; exact hso
        · have : k + 1 ≤ i := h
          rw [sg_nil (by rw [List.length_append, la]; omega)]
          exact .nil
    have hzl1 : (z.take (k * 20) ++ M).length = z0.length := by rw [List.length_append, la]; omega
    generalize z.take (k * 20) ++ M = z1 at *
    have b02 := b1.trans b2
    clear hp hso hMl
    refine ⟨fun bs w' => ∃ (s : Nat) (z : List El), bs = (s : Int) ∧ 0 < s ∧ s < 2 * z0.length + 40 ∧ z.length = z0.length ∧ (∀ j, Chunks c s z z0 j) ∧ But g w w' ∧ RowB fc w' g z tail, fun bs _ => 2 * z0.length + 40 - bs.toNat, ⟨20, z1, rfl, by omega, by omega, hzl1, hch0, b02, hB2⟩, ?_⟩
    rintro _ w3 ⟨s, z2, rfl, hs0, hsb, hzl2, hch2, b3, hB3⟩
    refine ⟨fun hlt => ?_, fun hge => ?_⟩
    · have hsn : s < z0.length := by omega
      rw [wrapI_eq (x := 2 * (s : Int)) (by omega) (by omega)]
      refine ⟨fun a b w' => ∃ (k : Nat) (z : List El), a = ((k * (2 * s) : Nat) : Int) ∧ b = ((k * (2 * s) + 2 * s : Nat) : Int) ∧ k * (2 * s) ≤ z0.length ∧ z.length = z0.length ∧ z.drop (k * (2 * s)) = z2.drop (k * (2 * s)) ∧ Chunks c (2 * s) z z0 k ∧ But g w w' ∧ RowB fc w' g z tail,
        fun a _ _ => z0.length - a.toNat, ⟨0, z2, by simp, by simp, by omega, hzl2, by simp, ⟨fun i h => by omega, fun i h => by omega⟩, b3, hB3⟩, ?_⟩
      rintro _ _ w4 ⟨k, z, rfl, rfl, hk, hzl4, hdr4, hch4, b4, hB4⟩
      generalize hK : k * (2 * s) = K at *
      have la4 : (z.take K).length = K := by rw [List.length_take]; omega
      have e2k : 2 * k * s = K := by rw [← hK, Nat.mul_comm 2 k, Nat.mul_assoc]
      have e2k1 : (2 * k + 1) * s = K + s := by rw [Nat.add_mul, e2k, Nat.one_mul]
      have p1 := (hch2 (2 * k + 2)).perm (2 * k) (by omega); have p2 := (hch2 (2 * k + 2)).perm (2 * k + 1) (by omega)
      have s1 := (hch2 (2 * k + 2)).sort (2 * k) (by omega); have s2 := (hch2 (2 * k + 2)).sort (2 * k + 1) (by omega)
      rw [e2k] at p1 s1; rw [e2k1] at p2 s2
      have g1 : sg z K s = sg z2 K s := by unfold sg; rw [hdr4]
      have g2 : sg z (K + s) s = sg z2 (K + s) s := by unfold sg; rw [← List.drop_drop, hdr4, List.drop_drop]
      rw [← g1] at p1 s1; rw [← g2] at p2 s2
      have hids : ∀ x ∈ sg z K s, ∀ y ∈ sg z (K + s) s, x.2 < y.2 := fun x hx y hy => ids hz (Nat.le_refl _) x (p1.mem_iff.1 hx) y (p2.mem_iff.1 hy)
      have wks : wrapI ((K : Int) + (s : Int)) = ((K + s : Nat) : Int) := by rw [wrapI_eq (by omega) (by omega)]; omega
      have grow : ∀ (z' M B : List El) (m : Nat), z' = z.take K ++ M ++ B → M.length = m → M.Perm (sg z K s ++ sg z (K + s) s) → M.Pairwise (Ah c) → (m = 2 * s ∨ B = []) → m ≤ 2 * s → Chunks c (2 * s) z' z0 (k + 1) := fun z' M B m hz' hm hp hso hmB hm2 => by
        have e : sg z' K (2 * s) = M := by
          subst hz'
          rcases hmB with h | h
          · exact sg_self la4 (by omega)
          · subst h; rw [List.append_nil]; exact sg_last la4 (by omega)
        have e0 : sg z0 K (2 * s) = sg z0 K s ++ sg z0 (K + s) s := by rw [show 2 * s = s + s by omega, sg_app]
        have el : ∀ i, i < k → sg z' (i * (2 * s)) (2 * s) = sg z (i * (2 * s)) (2 * s) := fun i h => by
          have hle : i * (2 * s) + 2 * s ≤ K := by
            have := Nat.mul_le_mul_right (2 * s) (show i + 1 ≤ k from h)
            rw [Nat.add_mul, hK, Nat.one_mul] at this; exact this
          have h1 : sg z (i * (2 * s)) (2 * s) = sg (z.take K) (i * (2 * s)) (2 * s) := by
            conv => lhs; rw [show z = z.take K ++ z.drop K ++ [] by rw [List.append_nil, List.take_append_drop]]
            exact sg_left (by rw [la4]; exact hle)
          rw [h1, hz', sg_left (by rw [la4]; exact hle)]
        constructor
        · intro i hi
          rcases Nat.lt_succ_iff_lt_or_eq.1 hi with h | rfl
          · rw [el i h]; exact hch4.perm i h
          · rw [hK, e, e0]; exact hp.trans (p1.append p2)
        · intro i hi
          rcases Nat.lt_succ_iff_lt_or_eq.1 hi with h | rfl
          · rw [el i h]; exact hch4.sort i h
          · rw [hK, e]; exact hso
      refine ⟨fun hle => ?_, fun hgt4 => ?_⟩
      · have hs4 : z = z.take K ++ sg z K s ++ sg z (K + s) s ++ z.drop (K + 2 * s) := by
          have := sg_split z K (2 * s)
          rw [show 2 * s = s + s by omega, sg_app] at this
          rw [show 2 * s = s + s by omega]
          simpa only [List.append_assoc] using this
        have l1 : (sg z K s).length = s := sg_len (by omega)
        have l2 : (sg z (K + s) s).length = s := sg_len (by omega)
        rw [wks]
        rw [hs4] at hB4
        refine SE.slices_symMergeCmpFunc_apiVersion.go (symMerge_se hO hd (by omega) _ (P := z.take K) (L := sg z K s) (X := sg z (K + s) s) (Q := z.drop (K + 2 * s)) (Nat.le_refl _) (hc.but b4) (by rw [← hs4, hzl4]; exact hlen) hB4 (by rw [la4]) (by rw [la4, l1]) (by rw [la4, l1, l2]; omega) (by omega) (by omega) s1 s2 hids fun w5 M b5 hp hso hB5 => ⟨rfl, ?_⟩)
        have hMl : M.length = 2 * s := by rw [hp.length_eq, List.length_append]; omega
        rw [wrapI_eq (by omega) (by omega)]
        have hK1 : (k + 1) * (2 * s) = K + 2 * s := by rw [Nat.add_mul, hK, Nat.one_mul]
        refine ⟨⟨k + 1, z.take K ++ M ++ z.drop (K + 2 * s), by omega, by omega, by omega, ?_, ?_, grow _ M _ (2 * s) rfl hMl hp hso (.inl rfl) (Nat.le_refl _), b4.trans b5, hB5⟩, by show _ - Int.toNat _ < _ - Int.toNat _; omega⟩
        · simp only [List.length_append, List.length_drop, la4, hMl]; omega
        · rw [hK1, List.drop_left' (by rw [List.length_append, la4, hMl]), ← List.drop_drop, hdr4, List.drop_drop]
      · refine join.named fun J hJ => ?_
        have kJ : ∀ w' z', But g w w' → z'.length = z0.length → Chunks c (2 * s) z' z0 (k + 1) → RowB fc w' g z' tail → J w' := fun w' z' b' hl' hch' hB' => by
          subst hJ
          have e : wrapI ((s : Int) * 2) = ((2 * s : Nat) : Int) := by rw [wrapI_eq (by omega) (by omega)]; omega
          rw [e]
          have hK1 : (k + 1) * (2 * s) = K + 2 * s := by rw [Nat.add_mul, hK, Nat.one_mul]
          refine ⟨⟨2 * s, z', rfl, by omega, by omega, hl', fun j => ⟨fun i _ => ?_, fun i _ => ?_⟩, b', hB'⟩, by show _ - Int.toNat _ < _ - Int.toNat _; omega⟩
          · by_cases h : i < k + 1
            · exact hch'.perm i h
            · have := Nat.mul_le_mul_right (2 * s) (show k + 1 ≤ i by omega)
              rw [sg_nil (by omega), sg_nil (by omega)]
          · by_cases h : i < k + 1
            · exact hch'.sort i h
            · have := Nat.mul_le_mul_right (2 * s) (show k + 1 ≤ i by omega)
              rw [sg_nil (by omega)]
              exact .nil
        rw [wks]
        have hdK : z.drop K = sg z K s ++ sg z (K + s) s := by
          rw [← sg_app]; unfold sg; rw [List.take_of_length_le (by rw [List.length_drop]; omega)]
        refine ⟨fun hlt4 => ?_, fun hge4 => ?_⟩
        · have hs4 : z = z.take K ++ sg z K s ++ sg z (K + s) s ++ [] := by
            rw [List.append_nil, List.append_assoc, ← hdK, List.take_append_drop]
          have l1 : (sg z K s).length = s := sg_len (by omega)
          have l2 : (sg z K s).length + (sg z (K + s) s).length = z0.length - K := by rw [← List.length_append, ← hdK, List.length_drop, hzl4]
          rw [hs4] at hB4
          refine SE.slices_symMergeCmpFunc_apiVersion.go (symMerge_se hO hd (by omega) _ (P := z.take K) (L := sg z K s) (X := sg z (K + s) s) (Q := []) (Nat.le_refl _) (hc.but b4) (by rw [← hs4, hzl4]; exact hlen) hB4 (by rw [la4]) (by rw [la4, l1]) (by rw [la4]; omega) (by omega) (by omega) s1 s2 hids fun w5 M b5 hp hso hB5 => ⟨rfl, ?_⟩)
          have hMl : M.length = z0.length - K := by rw [hp.length_eq, List.length_append]; exact l2
          exact kJ w5 _ (b4.trans b5) (by simp only [List.length_append, List.length_nil, la4, hMl]; omega) (grow _ M [] _ rfl hMl hp hso (.inr rfl) (by omega)) hB5
        · have e0 : sg z (K + s) s = [] := sg_nil (by omega)
          refine kJ w4 z b4 hzl4 (grow z (z.drop K) [] _ (by rw [List.append_nil, List.take_append_drop]) rfl (by rw [hdK]) ?_ (.inr rfl) (by rw [List.length_drop]; omega)) hB4
          rw [hdK, e0, List.append_nil]; exact s1
    · have e : sg z2 (0 * s) s = z2 := by rw [Nat.zero_mul]; unfold sg; rw [List.drop_zero, List.take_of_length_le (by omega)]
      have e0 : sg z0 (0 * s) s = z0 := by rw [Nat.zero_mul]; unfold sg; rw [List.drop_zero, List.take_of_length_le (by omega)]
      have p := (hch2 1).perm 0 (by omega); have so := (hch2 1).sort 0 (by omega)
      rw [e] at p so
      rw [e0] at p
      exact hR w3 z2 b3 p so hB3
theorem sortStable_se (hO : Ord3 c) {data : Sl} {tail : List Value} {w : World} {R : World → Prop} {l : List Ver} (hd : data.a = some ⟨g, 0, none⟩) (hbig : data.len < 2305843009213693952) (hc : CmpOk cmp c g w) (hlen : data.len = l.length) (hB : RowB cells w g l tail)
    (hR : ∀ w', But g w w' → RowB cells w' g (stSort c l) tail → R w') : SE.slices_SortStableFunc_apiVersionapiVersion data cmp w R := by
  unfold SE.slices_SortStableFunc_apiVersionapiVersion
  have hB' : RowB fc w g (nums 0 l) tail := by
    unfold RowB at hB ⊢
    have : (nums 0 l).map fc = l.map cells := by
      have h := congrArg (List.map cells) (nums_fst 0 l)
      rw [List.map_map] at h; exact h
    rw [this]; exact hB
  refine SE.slices_stableCmpFunc_apiVersion.go (stable_se hO hd hbig hc (by rw [nums_len]; exact hlen) (by rw [nums_len, hlen]) hB' (nums_rise 0 l) fun w2 M b2 hp hs hB2 => ⟨rfl, hR w2 b2 ?_⟩)
  have e := stSort_of hO hp hs
  unfold RowB at hB2 ⊢
  have : M.map fc = (stSort c l).map cells := by rw [← e, List.map_map]; rfl
  rw [← this]; exact hB2
theorem sortStable_nil {data : Sl} {w : World} {R : World → Prop} (h0 : data.len = 0) (hR : R w) : SE.slices_SortStableFunc_apiVersionapiVersion data cmp w R := by
  unfold SE.slices_SortStableFunc_apiVersionapiVersion
  rw [h0]
  refine SE.slices_stableCmpFunc_apiVersion.go ?_
  unfold SE.slices_stableCmpFunc_apiVersion
  refine ⟨fun a b w' => a = 0 ∧ b = 20 ∧ w' = w, fun _ _ _ => 0, ⟨rfl, rfl, rfl⟩, ?_⟩
  rintro _ _ w1 ⟨rfl, rfl, hw1⟩
  subst hw1
  refine ⟨fun h => by simp at h, fun _ => SE.slices_insertionSortCmpFunc_apiVersion.go ?_⟩
  unfold SE.slices_insertionSortCmpFunc_apiVersion
  refine ⟨fun a w' => a = 1 ∧ w' = w1, fun _ _ => 0, ⟨by decide, rfl⟩, ?_⟩
  rintro _ w2 ⟨rfl, hw2⟩
  subst hw2
  refine ⟨fun h => by simp at h, fun _ => ⟨rfl, ?_⟩⟩
  refine ⟨fun a w' => a = 20 ∧ w' = w2, fun _ _ => 0, ⟨rfl, rfl⟩, ?_⟩
  rintro _ w3 ⟨rfl, hw3⟩
  subst hw3
  exact ⟨fun h => by simp at h, fun _ => ⟨rfl, hR⟩⟩
end
end StV
end Go.Hal
namespace Go.Hal
open Go Go.RowKit Go.Proofs Go.Shelf
theorem _root_.Go.RowKit.Below.keepS {lo : Nat} {w w' : World} (h : Below lo w w') {S : Nat → Prop} (hS : ∀ b, S b → b < lo) : Keep S w w' := fun b hb _ => h.block b (hS b hb)
theorem BoxAt.below {lo : Nat} {w w' : World} {a : Addr} {cs : List Value} (hb : BoxAt w a cs) (h : Below lo w w') (hl : a.block < lo) : BoxAt w' a cs := hb.keep (S := fun b => b < lo) hl (h.keepS fun _ h => h)
theorem SlR.below {α : Type} {E : Enc α} {lo : Nat} {w w' : World} {S : Nat → Prop} {s : Sl} {l : List α} (hs : SlR E w S s l) (h : Below lo w w') (hS : ∀ b, S b → b < lo) : SlR E w' S s l := hs.keep (h.keepS hS)
theorem pinEqB (a b : Pin) : ((bEq a.name b.name) && (((a.v.ma == b.v.ma) && ((a.v.mi == b.v.mi) && ((a.v.pa == b.v.pa) && true))) && true)) = decide (a = b) := by
  rw [verEqB, Bool.and_true, Bool.eq_iff_iff, Bool.and_eq_true, bEq_iff, decide_eq_true_eq, decide_eq_true_eq]
  obtain ⟨n, v⟩ := a; obtain ⟨m, u⟩ := b
  simp
theorem idxPinV_se {s : Sl} {l : List Pin} {x : Pin} {S : Nat → Prop} {w : World} {R : Int → World → Prop} (hs : SlR pinE w S s l) (hR : ∀ w', Ext w w' → R (idxI (fun y => decide (x = y)) l) w') : SE.slices_Index_apiPinapiPin s x.name x.v.ma x.v.mi x.v.pa w R := by
  unfold SE.slices_Index_apiPinapiPin
  have hl := hs.len
  refine newS.intro fun a w0 x0 hb _ _ => ?_
  refine loop1.up hs.max (fun i w' => Ext w0 w' ∧ (l.take i).any (fun y => decide (x = y)) = false) ⟨Ext.refl _, rfl⟩ fun i w1 nxt hi ⟨x1, hI⟩ hn => ⟨fun hlt => bnd.drew fun w2 x2 => ?_, fun hge => ?_⟩
  · have hlt' : i < l.length := by omega
    obtain ⟨ad, cs, ha, _, ⟨rfl, _⟩, hc⟩ := hs.el hlt'
    refine ⟨_, _, _, _, hb.at0 (r := []) (x1.trans x2) rfl, ad, ⟨ha, by omega, hlt⟩, _, _, _, _, hc _ (x0.trans (x1.trans x2)), ?_⟩
    rw [pinEqB]
    exact ⟨fun h => by rw [← idxI_hit (p := fun y => decide (x = y)) hlt' hI h]; exact hR _ (x0.trans (x1.trans x2)), fun h => hn hlt' _ ⟨x1.trans x2, by rw [take_any_succ hlt' hI]; exact h⟩⟩
  · have : i = l.length := by omega
    rw [this, List.take_length] at hI
    rw [← idxI_none hI]; exact hR _ (x0.trans x1)
theorem conPinV_se {s : Sl} {l : List Pin} {x : Pin} {S : Nat → Prop} {w : World} {R : Bool → World → Prop} (hs : SlR pinE w S s l) (hR : ∀ w', Ext w w' → R (decide (x ∈ l)) w') : SE.slices_Contains_apiPinapiPin s x.name x.v.ma x.v.mi x.v.pa w R := by
  unfold SE.slices_Contains_apiPinapiPin
  refine newS.intro fun a w0 x0 hb _ _ => ⟨_, _, _, _, hb.ldc.pre (r := []) rfl, SE.slices_Index_apiPinapiPin.go (idxPinV_se (x := x) (hs.ext x0) fun w1 x1 => ⟨_, rfl, ?_⟩)⟩
  rw [idxI_any]
  have : l.any (fun y => decide (x = y)) = decide (x ∈ l) := by
    rw [Bool.eq_iff_iff, List.any_eq_true, decide_eq_true_eq]
    simp
  rw [this]; exact hR _ (x0.trans x1)
theorem catOrder_se {b : Bool} {w : World} {R : Int → World → Prop} (hR : R (ordB b) w) : SE.catalog_order b w R := by
  unfold SE.catalog_order
  exact ⟨fun h => by subst h; exact hR, fun h => by subst h; exact hR⟩
theorem cand1_se {v : Ver} {l : Sl} {ll : List Span} {S : Nat → Prop} {c0 : Addr} {w : World} {R : Bool → World → Prop} (hc : BoxAt w c0 [Sl.v l]) (hl : SlR spanE w S l ll) (hR : ∀ w', Ext w w' → R (!spansIn ll v) w') : SE.catalog_Catalog_Candidates_1 v.ma v.mi v.pa c0 w R := by
  unfold SE.catalog_Catalog_Candidates_1
  refine newS.intro fun a w1 x1 hb _ _ => ⟨l, hc.at0 (r := []) x1 rfl, _, _, _, hb.ldc.pre (r := []) rfl, SE.span_In.go (spanIn_se (v := v) (hl.ext x1) fun w2 x2 => ⟨_, rfl, hR _ (x1.trans x2)⟩)⟩
theorem cand2_se {a b : Ver} {n : ByteArray} {pins : Sl} {lp : List Pin} {S : Nat → Prop} {c0 c1 : Addr} {w : World} {R : Int → World → Prop} (hc0 : BoxAt w c0 [Sl.v pins]) (hc1 : BoxAt w c1 [.string n]) (hp : SlR pinE w S pins lp) (hR : ∀ w', Ext w w' → R (cC lp n a b) w') :
    SE.catalog_Catalog_Candidates_2 a.ma a.mi a.pa b.ma b.mi b.pa c0 c1 w R := by
  unfold SE.catalog_Catalog_Candidates_2
  refine newS.intro fun _ w1 x1 hb _ _ => newS.intro fun _ w2 x2 hb2 _ _ => bnd.drew fun w3 x3 => ?_
  have x13 := x2.trans x3
  have x03 := x1.trans x13
  refine ⟨pins, hc0.at0 (r := []) x03 rfl, n, hc1.at0 (r := []) x03 rfl, _, _, _, hb2.at0 (r := []) x3 rfl, pins, hc0.at0 (r := []) x03 rfl, n, hc1.at0 (r := []) x03 rfl, _, _, _, hb.at0 (r := []) x13 rfl, ?_⟩
  refine callX.intro (SE.slices_Contains_apiPinapiPin.go (conPinV_se (x := ⟨n, b⟩) (hp.ext x03) fun w4 x4 => ⟨x4, _, rfl, callX.intro (SE.catalog_order.go (catOrder_se ⟨Ext.refl _, _, rfl, ?_⟩))⟩))
  refine SE.slices_Contains_apiPinapiPin.go (conPinV_se (x := ⟨n, a⟩) (hp.ext (x03.trans x4)) fun w5 x5 => ⟨_, rfl, SE.catalog_order.go (catOrder_se ⟨_, rfl, ?_⟩)⟩)
  have e : wrapI (ordB (decide ((⟨n, b⟩ : Pin) ∈ lp)) - ordB (decide ((⟨n, a⟩ : Pin) ∈ lp))) = cC lp n a b := by
    rw [wrapI_eq] <;> unfold ordB
    · rfl
    · split <;> split <;> omega
    · split <;> split <;> omega
  rw [e]; exact hR _ (x03.trans (x4.trans x5))
theorem enters_c1 : Enters Tryz.prog 25 := enters_of Tryz.func25 (by kernel_rfl) rfl
theorem enters_c2 : Enters Tryz.prog 28 := enters_of Tryz.func28 (by kernel_rfl) rfl
set_option maxHeartbeats 1000000 in
theorem catCands_se {n : ByteArray} {l pins : Sl} {ll : List Span} {lp : List Pin} {S S1 S2 : Nat → Prop} {p : Addr} {r : Nat} {L : List Pack} {w : World} {R : Sl → World → Prop} (hC : CatL w S p r L) (hS1 : Old S1 w) (hS2 : Old S2 w) (hl : SlR spanE w S1 l ll) (hp : SlR pinE w S2 pins lp)
    (hR : ∀ t w', Ext w w' → FlatO Ver.c 24 w' w.heap.size t (cands L n ll lp) → R t w') : SE.catalog_Catalog_Candidates (some p) n l pins w R := by
  unfold SE.catalog_Catalog_Candidates
  refine newS.intro fun a w1 x1 hb _ _ => newS.intro fun a1 w2 x2 hb1 _ _ => newS.intro fun a3 w3 x3 hb3 _ _ => ?_
  have x03 := x1.trans (x2.trans x3)
  have hb' := hb.ext (x2.trans x3)
  have hb1' := hb1.ext x3
  refine ⟨n, hb'.ldc.pre (r := []) rfl, SE.catalog_Catalog_Versions.go (catVersions_se (hC.ext x03) fun t w4 x4 hF => ⟨_, rfl, ?_⟩)⟩
  have s4 := x4.size
  refine SE.slices_DeleteFunc_apiVersionapiVersion.go (deleteVer_se (d := fun v => !spansIn ll v) hF s4 (fun x _ w' k hw hk => ?_) fun t2 w5 b5 hF5 => ⟨_, rfl, ?_⟩)
  · refine ⟨_, _, rfl, enters_c1, SE.catalog_Catalog_Candidates_1.go (cand1_se (v := x) (l := l) (ll := ll) (S := S1) ?_ ?_ hk)⟩
    · exact (hb1'.ext x4).below hw hb1'.lt
    · exact (hl.ext (x03.trans x4)).below hw fun b hb => Nat.lt_of_lt_of_le (hS1 b hb) x03.size
  · have e : (versOf n L).filter (fun x => !(!spansIn ll x)) = (versOf n L).filter (spansIn ll) := by simp
    rw [e] at hF5
    have xB : Below w3.heap.size w3 w5 := Below.trans x4 b5
    have fin : ∀ w6, Below w3.heap.size w3 w6 → FlatO Ver.c 24 w6 w3.heap.size t2 (cands L n ll lp) → callS Tryz.prog 31 [Sl.v t2] w6 (fun v13 w12 => ∃ t19 : Sl, v13 = Sl.v t19 ∧ R t19 w12) := fun w6 b6 hF6 => by
      refine SE.slices_Clip_apiVersionapiVersion.go ⟨⟨by omega, by omega, by omega, by have := hF6.1; have := hF6.2.1; omega⟩, _, rfl, hR _ _ (x03.trans b6) ?_⟩
      obtain ⟨a, b, c, d, e⟩ := hF6.clip (k := 3)
      exact ⟨a, b, c, d, e.imp id fun ⟨g, tail, a, b, c⟩ => ⟨g, tail, a, Nat.le_trans x03.size b, c⟩⟩
    obtain ⟨k1, k2, k3, k4, k5⟩ := hF5
    rcases k5 with k5 | ⟨g, tail, ha, hg, hr⟩
    · refine SE.slices_SortStableFunc_apiVersionapiVersion.go (StV.sortStable_nil (by rw [k1, k5]; rfl) ⟨rfl, fin w5 xB ?_⟩)
      have : cands L n ll lp = [] := by rw [← cands_sort, k5]; rfl
      rw [this]
      rw [k5] at k1 k2
      exact ⟨k1, k2, k3, by simp, .inl rfl⟩
    · refine SE.slices_SortStableFunc_apiVersionapiVersion.go (StV.sortStable_se (cC_ord lp n) ha (by rw [k1]; unfold room at k4; omega) (fun x y w' k hw hk => ?_) k1 hr fun w6 b6 hr6 => ⟨rfl, fin w6 (Below.trans xB (b6.below (by have := xB.size; omega) hg)) ?_⟩)
      · have hwB : Below w3.heap.size w3 w' := Below.trans xB (hw.below (by have := xB.size; omega) hg)
        refine ⟨_, _, rfl, enters_c2, SE.catalog_Catalog_Candidates_2.go (cand2_se (a := x) (b := y) (n := n) (pins := pins) (lp := lp) (S := S2) ?_ ?_ ?_ hk)⟩
        · exact hb3.below hwB hb3.lt
        · exact hb'.below hwB (Nat.lt_of_lt_of_le hb'.lt (Nat.le_refl _))
        · exact (hp.ext x03).below hwB fun b hb => Nat.lt_of_lt_of_le (hS2 b hb) x03.size
      · rw [cands_sort] at hr6
        have hl2 : (cands L n ll lp).length = ((versOf n L).filter (spansIn ll)).length := by rw [← cands_sort]; exact (stSort_perm _).length_eq
        exact ⟨by rw [hl2]; exact k1, by rw [hl2]; exact k2, k3, by rw [hl2]; exact k4, .inr ⟨g, tail, ha, hg, hr6⟩⟩
end Go.Hal
namespace Go.Hal
open Go Go.RowKit Go.Proofs Go.Shelf
structure PackC where
  name : ByteArray
  v : Ver
  d : Sl
  e : Sl
  o : Sl
instance : Inhabited PackC := ⟨⟨⟨#[]⟩, ⟨0, 0, 0⟩, Sl.nil, Sl.nil, Sl.nil⟩⟩
def PackC.c (x : PackC) : List Value := [.string x.name, .int .i64 x.v.ma, .int .i64 x.v.mi, .int .i64 x.v.pa, x.d.v, x.e.v, x.o.v]
def cPC (a b : PackC) : Int := or2 (cmpS a.name b.name) (b.v.cmp a.v)
end Go.Hal
namespace Go.Hal
open Go Go.RowKit Go.Proofs
theorem SlR.cut {α : Type} {E : Enc α} {w : World} {S : Nat → Prop} {s : Sl} {l : List α} (h : SlR E w S s l) {a b : Nat} (hab : a ≤ b) (hb : b ≤ l.length) : SlR E w S (Sl.cut s a b E.n) ((l.take b).drop a) := by
  obtain ⟨h1, h2, h3, h4, h5⟩ := h
  have hl : ((l.take b).drop a).length = b - a := by rw [List.length_drop, List.length_take]; omega
  refine ⟨by rw [hl]; rfl, by rw [hl]; show b - a ≤ s.cap - a; omega, by show s.cap - a ≤ _; omega, ?_, ?_⟩
  · rw [hl]; exact Nat.le_trans (Nat.mul_le_mul_right _ (by omega)) h4
  · by_cases h0 : b - a = 0
    · exact .inl (List.eq_nil_of_length_eq_zero (by omega))
    · rcases h5 with h5 | ⟨ad, ha, hS, hr⟩
      · subst h5; simp at hb; omega
      · refine .inr ⟨ad.add (a * E.n), ?_, by rw [add_block]; exact hS, fun i x hx => ?_⟩
        · show (if s.cap = a then s.a else _) = _
          rw [if_neg (by omega), ha]; rfl
        · rw [List.getElem?_drop] at hx
          rw [List.getElem?_take] at hx
          split at hx
          · obtain ⟨cs, k1, k2⟩ := hr (a + i) x hx
            exact ⟨cs, k1, by rw [add_add, ← Nat.add_mul]; exact k2⟩
          · cases hx
theorem packEl {w : World} {S : Nat → Prop} {s : Sl} {l : List Pack} (h : SlR packE w S s l) {n : Nat} (hn : n < l.length) :
    ∃ ad d e o, s.a = some ad ∧ S ad.block ∧ Str l[n].name ∧ SlR depE w S d l[n].deps ∧ SlR depE w S e l[n].peers ∧ SlR depE w S o l[n].opt ∧ ∀ w', Ext w w' → ldc w' (ad.add (n * 7)) [.string l[n].name, .int .i64 l[n].v.ma, .int .i64 l[n].v.mi, .int .i64 l[n].v.pa, d.v, e.v, o.v] := by
  obtain ⟨ad, cs, h1, h2, ⟨h0, d, e, o, rfl, a, b, c⟩, h4⟩ := h.el hn
  exact ⟨ad, d, e, o, h1, h2, h0, a, b, c, h4⟩
structure RefR (w : World) (S : Nat → Prop) (q : Addr) (L : List Pack) : Prop where
  at_ : ∃ s, BoxAt w q [Sl.v s] ∧ SlR packE w S s L
  free : ¬ S q.block
  old : Old S w
  good : GoodL L
theorem take_find_succ {α : Type} {p : α → Bool} {l : List α} {n : Nat} (hn : n < l.length) (h0 : (l.take n).find? p = none) : (l.take (n + 1)).find? p = if p l[n] then some l[n] else none := by
  rw [List.take_succ_eq_append_getElem hn, List.find?_append, h0]
  simp only [Option.none_or, List.find?_cons, List.find?_nil]
  cases p l[n] <;> rfl
theorem find_hit {α : Type} {p : α → Bool} {l : List α} {n : Nat} (hn : n < l.length) (h0 : (l.take n).find? p = none) (h : p l[n] = true) : l.find? p = some l[n] := by
  have e : l.find? p = (l.take (n + 1) ++ l.drop (n + 1)).find? p := by rw [List.take_append_drop]
  rw [e, List.find?_append, take_find_succ hn h0, if_pos h]; rfl
end Go.Hal
namespace Go.Hal
open Go Go.RowKit Go.Proofs Go.Shelf
def cW (a b : Want) : Int := cmpS a.name b.name
theorem cW_ord : Ord3 cW := cmpS_ord Want.name
def wantOf (kind : Int) (over : List Dep) (d : Dep) : Want := ⟨d.name, kind, overOf over d.name d.range⟩
theorem wantEl {w : World} {S : Nat → Prop} {s : Sl} {l : List Want} (h : SlR wantE w S s l) {n : Nat} (hn : n < l.length) :
    ∃ ad t, s.a = some ad ∧ S ad.block ∧ Str l[n].name ∧ SlR spanE w S t l[n].range ∧ ∀ w', Ext w w' → ldc w' (ad.add (n * 3)) [.string l[n].name, .int .i64 l[n].kind, t.v] := by
  obtain ⟨ad, cs, h1, h2, ⟨h0, t, rfl, h5⟩, h4⟩ := h.el hn
  exact ⟨ad, t, h1, h2, h0, h5, h4⟩
theorem apWant : ApT Tryz.prog 46 52 3 48 := apT_mk (z := .agg #[.string ⟨#[]⟩, .int .i64 0, .slice none 0 0]) (by kernel_rfl) (by kernel_rfl) rfl (by decide)
set_option maxHeartbeats 1000000 in
theorem r09placed_se {l rs : Sl} {L : List Want} {x : Want} {S : Nat → Prop} {w : World} {R : Sl → World → Prop} (hS : Old S w) (hl : SlR wantE w S l L) (hs : L.Pairwise fun a b => cW a b ≤ 0) (hN : Str x.name) (hx : SlR spanE w S rs x.range) (hb : (L.length + 1) * 48 ≤ room)
    (hR : ∀ t w', Ext w w' → SlR wantE w' (fun b => S b ∨ (w.heap.size ≤ b ∧ b < w'.heap.size)) t (placeL cW x L) → R t w') : SE.halyardref09_placed l x.name x.kind rs w R := by
  unfold SE.halyardref09_placed
  have hll := hl.len
  have hcap : l.len ≤ l.cap := by rw [hll]; exact hl.2.1
  have hmax := hl.max
  have h48 : L.length + 1 ≤ 9000000000000 := by unfold room at hb; omega
  have eb : wantE.bytes = 48 := rfl
  refine newS.intro fun a w1 x1 ha hab _ => ?_
  refine loop1.ghost (fun n i w' => i = (n : Int) ∧ n ≤ L.length ∧ Ext w1 w' ∧ ∀ k (h : k < L.length), n ≤ k → cW x L[k] < 0) L.length ⟨by omega, Nat.le_refl _, Ext.refl _, fun k h hk => by omega⟩ fun n i w2 nxt ⟨hi, hn, x2, hgt⟩ hnx => bnd.drew fun w3 x3 => ?_
  subst hi
  have x13 := x2.trans x3
  have x03 := x1.trans x13
  have done : ∀ w4, Ext w1 w4 → (∀ h : 0 < n, ¬ cW x L[n - 1] < 0) → ((0 : Int) ≤ (n : Int) ∧ (n : Int) ≤ (l.cap : Int)) ∧ appS Tryz.prog 46 46 Sl.nil (Sl.v (Sl.cut l 0 (n : Int).toNat 3)) w4 fun t28 vw6 => ∃ (t30_Name : ByteArray) (t30_Kind : Int) (t30_Range : Sl), (ldc vw6 a [(Value.string t30_Name), (Value.int .i64 t30_Kind), (Sl.v t30_Range)]) ∧ newS vw6 [(Value.string t30_Name), (Value.int .i64 t30_Kind), (Sl.v t30_Range)] 52 fun a8 vw9 => appS Tryz.prog 46 46 t28 (Sl.v (Sl.mk (some a8) 1 1)) vw9 fun t32 vw10 => ((0 : Int) ≤ (n : Int) ∧ (n : Int) ≤ (l.len : Int)) ∧ appS Tryz.prog 46 46 t32 (Sl.v (Sl.cut l (n : Int).toNat l.len 3)) vw10 fun t37 vw12 => R t37 vw12 := fun w4 x4 hle => by
    refine ⟨by omega, ?_⟩
    have x04 := x1.trans x4
    have hS4 := hS.ext x04.size
    have hc1 : SlR wantE w4 S (Sl.cut l 0 n 3) ((L.take n).drop 0) := (hl.ext x04).cut (Nat.zero_le _) hn
    rw [List.drop_zero] at hc1
    have hc2 : SlR wantE w S (Sl.cut l n l.len 3) ((L.take l.len).drop n) := hl.cut (by omega) (by omega)
    rw [hll, List.take_length] at hc2
    have htl : (L.take n).length = n := by rw [List.length_take]; omega
    have hdl : (L.drop n).length = L.length - n := List.length_drop
    rw [Int.toNat_natCast]
    refine (OwnS.zero (E := wantE) (T := 52) w4).appAll apWant (Nat.le_refl _) hc1 hS4 (fun ad ha => by cases ha) (by rw [htl, eb]; simp; omega) (by rw [htl]; simp; omega) fun r1 w5 o1 bel1 _ reg1 => ?_
    have x45 : Ext w4 w5 := (Ext.refl w4).trans' bel1
    rw [List.nil_append] at o1
    refine ⟨_, _, _, (ha.ext (x4.trans x45)).ldc.pre (r := []) rfl, newS.intro fun a8 w6 x6 hb8 ha8 _ => ?_⟩
    have x46 := x45.trans x6
    have fresh : ∀ {s : Sl} {l' : List Want} {Q : Nat → Prop} {w' : World}, OwnS wantE 52 w' w4.heap.size Q s l' → ∀ ad, s.a = some ad → ¬ S ad.block := fun o ad h hSb => by
      have := (o.block h).1; have := hS4 _ hSb; omega
    refine (o1.ext x6).push apWant (x46.size) (x := x) (S' := S) ⟨hN, rs, rfl, hx.ext (x04.trans x46)⟩ (hb8.ldc.pre (r := []) rfl) (hS4.ext x46.size) (fresh o1) (by rw [htl, eb]; omega) (by rw [htl, maxLen_eq]; omega) fun r2 w7 o2 bel2 _ _ => ?_
    have x47 : Ext w4 w7 := x46.trans' bel2
    rw [hll]
    refine ⟨by omega, o2.appAll apWant x47.size (hc2.ext (x04.trans x47)) (hS4.ext x47.size) (fresh o2) (by rw [List.length_append, htl, hdl, eb]; simp; omega) (by rw [List.length_append, htl, hdl, maxLen_eq]; simp; omega) fun r3 w8 o3 bel3 _ _ => ?_⟩
    have hpl : (L.take n ++ [x]) ++ L.drop n = placeL cW x L := by
      rw [List.append_assoc, List.singleton_append, ← place_split (c := cW) (x := x) (A := L.take n) (B := L.drop n) (fun y hy => ?_) (fun y hy => ?_), List.take_append_drop]
      · obtain ⟨k, hk, rfl⟩ := List.mem_iff_getElem.1 hy
        rw [htl] at hk
        rw [List.getElem_take]
        have h0 : 0 < n := by omega
        intro hlt
        rcases Nat.lt_or_ge k (n - 1) with h | h
        · have h1 := List.pairwise_iff_getElem.1 hs k (n - 1) (by omega) (by omega) h
          exact hle h0 (cW_ord.lt_of hlt h1)
        · have : k = n - 1 := by omega
          subst this
          exact hle h0 hlt
      · obtain ⟨k, hk, rfl⟩ := List.mem_iff_getElem.1 hy
        rw [hdl] at hk
        rw [List.getElem_drop]
        exact hgt (n + k) (by omega) (by omega)
    rw [hpl] at o3
    have hlen : (placeL cW x L).length = L.length + 1 := by rw [← hpl]; simp; omega
    have s04 := x04.size
    refine hR _ _ ((x04.trans x47).trans' (Below.mono bel3 x04.size)) ((o3.read (by rw [hlen, eb]; omega) (by rw [hlen, maxLen_eq]; omega)).mono fun b hb => ?_)
    rcases hb with ((((hb | hb) | hb) | hb)) | ⟨ad, ha, rfl⟩
    · exact hb.elim
    · exact .inl hb
    · exact .inl hb
    · exact .inl hb
    · have := o3.block ha; exact .inr ⟨by omega, this.2.1⟩
  rcases Nat.eq_zero_or_pos n with h0 | h0
  · subst h0
    have e : decide ((0 : Int) < ((0 : Nat) : Int)) = false := rfl
    rw [e]
    refine bound ⟨⟨#[]⟩, (fun h => by cases h), ⟨0, 0, none⟩, (fun h => by cases h), ⟨#[]⟩, (fun h => by cases h), (fun h => by cases h), fun _ => ⟨(fun h => by cases h), fun _ => done w3 x13 fun h => absurd h (Nat.lt_irrefl 0)⟩⟩
  · have e : decide ((0 : Int) < (n : Int)) = true := by rw [decide_eq_true_eq]; omega
    have hw : wrapI ((n : Int) - 1) = ((n - 1 : Nat) : Int) := by rw [wrapI_eq (by omega) (by omega)]; omega
    have hn1 : n - 1 < L.length := by omega
    obtain ⟨ad, t, hla, _, hNk, _, hc⟩ := wantEl hl hn1
    rw [e, hw]
    refine bound ⟨x.name, fun _ => BoxAt.at0 ha x13 rfl, ad, fun _ => ⟨hla, by omega, by omega⟩, L[n - 1].name, fun _ => (hc _ x03).pre rfl, ?_⟩
    refine gCall.intro (bLt x.name L[n - 1].name) (fun _ q hq => SE.halyardref05_Less.go (r05less_se hN fun w' hx => ⟨_, rfl, hq _ hx⟩)) fun t20 w4 x4 ht => ?_
    have ht := ht rfl
    subst ht
    refine ⟨fun h => hnx (n - 1) _ _ (by omega) ⟨rfl, by omega, x13.trans x4, fun k hk hkn => ?_⟩, fun h => done w4 (x13.trans x4) fun _ hlt => ?_⟩
    · rcases Nat.lt_or_ge k n with h1 | h1
      · have : k = n - 1 := by omega
        subst this
        exact cmpS_lt.2 (by simpa using h)
      · exact hgt k hk h1
    · have := cmpS_lt.1 hlt
      rw [this] at h; simp at h
theorem stSort_len {α : Type} {c : α → α → Int} (l : List α) : (stSort c l).length = l.length := (stSort_perm l).length_eq
set_option maxHeartbeats 1000000 in
theorem r09added_se {l ds mD mDev mOpt mOv : Sl} {M : List Want} {deps over : List Dep} {kind : Int} {S S0 : Nat → Prop} {w : World} {R : Sl → World → Prop} (hS : Old S w) (hS0 : ∀ b, S0 b → S b) (hl : SlR wantE w S l (stSort cW M)) (hd : SlR depE w S0 ds deps) (hO : SlR depE w S0 mOv over) (hb : (M.length + deps.length) * 48 ≤ room)
    (hR : ∀ t w', Ext w w' → SlR wantE w' (fun b => S b ∨ (w.heap.size ≤ b ∧ b < w'.heap.size)) t (stSort cW (M ++ deps.map (wantOf kind over))) → R t w') : SE.halyardref09_added l ds kind mD mDev mOpt mOv w R := by
  unfold SE.halyardref09_added
  have hdl := hd.len
  refine newS.intro fun a w1 x1 ha hab _ => ?_
  refine loop2.up hd.max (fun l1 i w' => Ext w1 w' ∧ SlR wantE w' (fun b => S b ∨ (w.heap.size ≤ b ∧ b < w'.heap.size)) l1 (stSort cW (M ++ (deps.take i).map (wantOf kind over)))) ⟨Ext.refl _, by rw [List.take_zero, List.map_nil, List.append_nil]; exact (hl.ext x1).mono fun _ h => .inl h⟩ fun l1 i w2 nxt hi ⟨x2, hl2⟩ hn => ⟨fun hlt => bnd.drew fun w3 x3 => ?_, fun hge => ?_⟩
  · have hlt' : i < deps.length := by omega
    have x13 := x2.trans x3
    have x03 := x1.trans x13
    obtain ⟨ad, t, hda, _, hN, hr, hc⟩ := depEl hd hlt'
    have hcd := hc _ x03
    refine ⟨ad, ⟨hda, by omega, hlt⟩, deps[i].name, hcd.pre rfl, mD, mDev, mOpt, mOv, BoxAt.at0 ha x13 rfl, ad, ⟨hda, by omega, hlt⟩, deps[i].name, t, hcd.pre (r := []) rfl, ?_⟩
    refine callX.intro (SE.halyardref09_Range.go (refRange_se (S := S0) (hO.ext x03) (hr.ext x03) fun u w4 x4 hu => ⟨x4, _, rfl, ?_⟩))
    have x24 := x3.trans x4
    have x14 := x13.trans x4
    have s2 := (x1.trans x2).size; have s24 := x24.size; have s4 := (x1.trans x14).size
    have hold : Old (fun b => S b ∨ (w.heap.size ≤ b ∧ b < w2.heap.size)) w4 := fun b hb => by
      rcases hb with hb | hb
      · have := hS b hb; omega
      · omega
    have hsort := stSort_sorted' cW_ord (M ++ (deps.take i).map (wantOf kind over))
    have hlen : (stSort cW (M ++ (deps.take i).map (wantOf kind over))).length = M.length + i := by
      rw [stSort_len, List.length_append, List.length_map, List.length_take]; omega
    refine SE.halyardref09_placed.go (r09placed_se (x := wantOf kind over deps[i]) hold (hl2.ext x24) hsort hN (hu.mono fun b hb => .inl (hS0 b hb)) (by rw [hlen]; have : (M.length + i + 1) * 48 ≤ (M.length + deps.length) * 48 := Nat.mul_le_mul_right _ (by omega); omega) fun t5 w5 x5 ht5 => ⟨_, rfl, hn hlt' _ _ ⟨x14.trans x5, ?_⟩⟩)
    rw [← stSort_snoc cW_ord] at ht5
    rw [List.take_succ_eq_append_getElem hlt', List.map_append, ← List.append_assoc]
    have s5 := x5.size
    refine ht5.mono fun b hb => ?_
    rcases hb with (hb | hb) | hb
    · exact .inl hb
    · exact .inr ⟨hb.1, by omega⟩
    · exact .inr ⟨by omega, hb.2⟩
  · have : i = deps.length := by omega
    rw [this, List.take_length] at hl2
    exact hR _ _ (x1.trans x2) hl2
end Go.Hal
namespace Go.Hal
open Go Go.RowKit Go.Proofs Go.Shelf
def wantsOf (over a b : List Dep) : List Want := stSort cW (a.map (wantOf 1 over) ++ b.map (wantOf 2 over))
def rootMust (m : Mani) (dev : Bool) : List Dep := if dev then m.deps ++ m.dev else m.deps
theorem r09OfRoot_se {m : Mani} {mD mDev mOpt mOv : Sl} {dev : Bool} {S : Nat → Prop} {w : World} {R : Sl → World → Prop} (hS : Old S w) (hD : SlR depE w S mD m.deps) (hE : SlR depE w S mDev m.dev) (hO : SlR depE w S mOpt m.opt) (hV : SlR depE w S mOv m.over) (hb : (m.deps.length + m.dev.length + m.opt.length) * 48 ≤ room)
    (hR : ∀ t w', Ext w w' → SlR wantE w' (fun b => S b ∨ (w.heap.size ≤ b ∧ b < w'.heap.size)) t (wantsOf m.over (rootMust m dev) m.opt) → R t w') : SE.halyardref09_OfRoot mD mDev mOpt mOv dev w R := by
  unfold SE.halyardref09_OfRoot
  refine newS.intro fun a w1 x1 ha _ _ => ?_
  refine ⟨mD, BoxAt.at0 ha (Ext.refl _) rfl, mD, mDev, mOpt, mOv, BoxAt.at0 ha (Ext.refl _) rfl, ?_⟩
  refine SE.halyardref09_added.go (r09added_se (M := []) (S0 := S) (hS.ext x1.size) (fun _ h => h) (SlR.nil trivial) (hD.ext x1) (hV.ext x1) (by rw [List.length_nil]; have : (0 + m.deps.length) * 48 ≤ (m.deps.length + m.dev.length + m.opt.length) * 48 := Nat.mul_le_mul_right _ (by omega); omega) fun t4 w4 x4 h4 => ⟨_, rfl, ?_⟩)
  rw [List.nil_append] at h4
  have s1 := x1.size; have s4 := x4.size
  have x04 := x1.trans x4
  refine join.named fun J hJ => ?_
  have key : ∀ t5 w5, Ext w4 w5 → SlR wantE w5 (fun b => S b ∨ (w1.heap.size ≤ b ∧ b < w5.heap.size)) t5 (stSort cW ((rootMust m dev).map (wantOf 1 m.over))) → (rootMust m dev).length ≤ m.deps.length + m.dev.length → J t5 w5 := by
    subst hJ
    intro t5 w5 x5 h5 hlen
    have x15 := x4.trans x5
    have s5 := x5.size
    refine ⟨mOpt, BoxAt.at1 ha x15 rfl, mD, mDev, mOpt, mOv, BoxAt.at0 ha x15 rfl, ?_⟩
    refine SE.halyardref09_added.go (r09added_se (S0 := S) (fun b hb => ?_) (fun _ h => .inl h) h5 (hO.ext (x1.trans x15)) (hV.ext (x1.trans x15)) (by rw [List.length_map]; have : ((rootMust m dev).length + m.opt.length) * 48 ≤ (m.deps.length + m.dev.length + m.opt.length) * 48 := Nat.mul_le_mul_right _ (by omega); omega) fun t6 w6 x6 h6 => ⟨_, rfl, hR _ _ (x1.trans (x15.trans x6)) (h6.mono fun b hb => ?_)⟩)
    · rcases hb with hb | hb
      · have := hS b hb; omega
      · exact hb.2
    · have s6 := x6.size
      rcases hb with (hb | hb) | hb
      · exact .inl hb
      · exact .inr ⟨by omega, by omega⟩
      · exact .inr ⟨by omega, hb.2⟩
  refine ⟨fun h => ?_, fun h => ?_⟩
  · subst h
    refine ⟨mDev, BoxAt.at1 ha x4 rfl, mD, mDev, mOpt, mOv, BoxAt.at0 ha x4 rfl, ?_⟩
    refine SE.halyardref09_added.go (r09added_se (S0 := S) (fun b hb => ?_) (fun _ h => .inl h) h4 (hE.ext x04) (hV.ext x04) (by rw [List.length_map]; have : (m.deps.length + m.dev.length) * 48 ≤ (m.deps.length + m.dev.length + m.opt.length) * 48 := Nat.mul_le_mul_right _ (by omega); omega) fun t5 w5 x5 h5 => ⟨_, rfl, key _ _ x5 ?_ ?_⟩)
    · rcases hb with hb | hb
      · have := hS b hb; omega
      · exact hb.2
    · have s5 := x5.size
      rw [← List.map_append] at h5
      refine (h5 : SlR _ _ _ _ (stSort cW ((rootMust m true).map (wantOf 1 m.over)))).mono fun b hb => ?_
      rcases hb with (hb | hb) | hb
      · exact .inl hb
      · exact .inr ⟨by omega, by omega⟩
      · exact .inr ⟨by omega, hb.2⟩
    · show (m.deps ++ m.dev).length ≤ _
      rw [List.length_append]; exact Nat.le_refl _
  · subst h
    exact key _ _ (Ext.refl _) h4 (by show m.deps.length ≤ _; omega)
end Go.Hal
