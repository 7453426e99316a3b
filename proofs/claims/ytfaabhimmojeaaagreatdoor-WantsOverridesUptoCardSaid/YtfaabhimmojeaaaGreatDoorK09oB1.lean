/- Lemmas for the claim K09o: how the program's functions run, and what they answer; no condition but those that each theorem names. -/
import Derived.Shelf.SlSortCmp.NoneTotal
import Derived.Ground.SlsfProg
import Derived.Test.YtfaabhimmojeaaaGreatDoorProg
import Derived.Laws.CopyRow
import Derived.Deep.AppendSrc
import Derived.Test.YtfaabhimmojeaaaGreatDoorK09oB0
set_option linter.unusedVariables false
set_option linter.unusedSimpArgs false
namespace Go.Hal
open Go Go.RowKit Go.Proofs Go.Shelf
def Bld (b : Nat) (l : List UInt8) (w : World) : Prop := Lib.IsBuilderF 182 5 b b (Lib.byteCells l) w
theorem rowF_ext {w w' : World} {base : Nat} {e : TypeId} {size : Nat} {v : Value} {n : Nat} {xs : List Value} (h : w.ownsRowF base e size v n xs) (hx : Ext w w') : w'.ownsRowF base e size v n xs := by
  obtain ⟨h1, h2⟩ := h
  refine ⟨h1, ?_⟩
  rcases h2 with h2 | ⟨g, cap, cur, fz, a, b, c, d⟩
  · exact .inl h2
  · exact .inr ⟨g, cap, cur, fz, a, b, (hx.block (Array.getElem?_eq_some_iff.1 c).1).trans c, d⟩
theorem bldAt_ext {w w' : World} {T e : TypeId} {B b : Nat} {p : Value} {bs : List Value} (h : Lib.BuilderAtF T e B b p bs w) (hx : Ext w w') : Lib.BuilderAtF T e B b p bs w' := by
  obtain ⟨h1, v, h2, h3, h4⟩ := h
  exact ⟨h1, v, (hx.block (Array.getElem?_eq_some_iff.1 h2).1).trans h2, rowF_ext h3 hx, h4⟩
theorem Bld.ext {b : Nat} {l : List UInt8} {w w' : World} (h : Bld b l w) (hx : Ext w w') : Bld b l w' := h.imp (fun h => bldAt_ext h hx) (fun h => bldAt_ext h hx)
theorem bld_new (w : World) : Bld w.heap.size [] (w.alloc (.cells [Value.pointer none, Sl.v Sl.nil].toArray 182)) :=
  .inl ⟨Nat.le_refl _, _, heap_alloc_new w _, ⟨rfl, .inl ⟨rfl, rfl⟩⟩, by simp [Value.ownBlock, Sl.v, Sl.nil]⟩
theorem bldX : Builder.Extra Tryz.prog Tryz.layJo_ren := { sizeBuilder := by kernel_rfl, liesBuilder := by kernel_rfl, t5 := Tryz.underlying5, a5 := Tryz.isAgg5, z5 := Tryz.sizeOf5, v5 := Tryz.zeroValue5, infoByte := by kernel_rfl, cellsByte := by kernel_rfl, sizeByte := by kernel_rfl, neB5 := by decide }
theorem bldWrite_k {b : Nat} {l m : List UInt8} {w0 w : World} {k : Value → World → Prop} (hB : Bld b l w) (h0 : w0.heap.size = b) (x0 : Ext w0 w) (hl : l.length + m.length ≤ 140737488355328)
    (hk : ∀ w' n, Ext w0 w' → Bld b (l ++ m) w' → k (.tuple #[.int .i64 n, .nilIface]) w') : callS Tryz.prog 143 [.pointer (some ⟨b, 0, none⟩), .string (B m)] w k := by
  have h := Any.Builder_WriteString_k { Tryz.layJo with } bldX b b (Lib.byteCells l) (B m) w hB (by rw [Lib.byteCells_length, B_size]; exact hl) (by have := x0.size; omega)
  refine h.mono fun e w' ⟨he, hb, hbel, _⟩ => ⟨_, he, hk w' _ (x0.trans' (by rw [h0]; exact hbel)) (.inr ?_)⟩
  have e : Lib.byteCells l ++ Lib.strCells (B m) = Lib.byteCells (l ++ m) := by rw [Lib.strCells_eq, B_data]; simp [Lib.byteCells]
  rw [e] at hb; exact hb
theorem bldString_k {b : Nat} {l : List UInt8} {w0 w : World} {k : Value → World → Prop} (hB : Bld b l w) (h0 : w0.heap.size = b) (x0 : Ext w0 w) (hk : ∀ w', Ext w0 w' → k (.string (B l)) w') : callS Tryz.prog 146 [.pointer (some ⟨b, 0, none⟩)] w k := by
  have h := Any.Builder_String_any_k { Tryz.layJo with } bldX b b l w hB (by have := x0.size; omega)
  exact h.mono fun e w' ⟨he, _, hbel, _⟩ => ⟨_, he, hk w' (x0.trans' (by rw [h0]; exact hbel))⟩
theorem packLines_se {wd t0 : List UInt8} {s : Sl} {l : List Dep} {S : Nat → Prop} {b : Nat} {w0 w : World} {R : World → Prop} (ht : Tab w0) (hw : wd.length ≤ 8) (hm : depsMay l = true) (h0 : w0.heap.size = b) (x0 : Ext w0 w) (hB : Bld b t0 w) (hs : SlR depE w0 S s l) (hlen : t0.length ≤ 1000000)
    (hR : ∀ w', Ext w0 w' → Bld b (t0 ++ depLines wd l) w' → R w') : SE.pack_lines (some ⟨b, 0, none⟩) (B wd) s w R := by
  unfold SE.pack_lines
  have hl := hs.len
  obtain ⟨h16, hok⟩ := depsMay_names hm
  refine loop1.up hs.max (fun i w' => Ext w0 w' ∧ Bld b (t0 ++ depLines wd (l.take i)) w') ⟨x0, by simpa [depLines] using hB⟩ fun i w1 nxt hi ⟨x1, hI⟩ hn => ⟨fun hlt => ?_, fun hge => ?_⟩
  · have hlt' : i < l.length := by omega
    obtain ⟨ad, t, ha, _, hnm, hr, hc⟩ := depEl hs hlt'
    have hd := hok _ (List.getElem_mem hlt')
    have h1 := depLines_len hw (l := l.take i) fun d hd => (hok d (List.mem_of_mem_take hd)).1
    rw [List.length_take, Nat.min_eq_left (by omega)] at h1
    have h2 := nameMay_len hd.1
    have h3 := rangeText_len l[i].range
    refine ⟨ad, ⟨ha, by omega, hlt⟩, _, t, hc _ (by (repeat (first | assumption | exact Ext.refl _ | refine Ext.trans ?_ (by assumption)))), newS.intro fun a w2 x2 hb hba _ => stw0.intro hb (by simp) fun w3' b3 _ hb3 => bnd.drew fun w3 x3 => ?_⟩
    have x3' : Ext w1 w3' := b3.ext x2 (by omega)
    have x13 : Ext w1 w3 := x3'.trans x3
    rw [app_lit]
    refine ⟨by rw [B_size, lit_size, maxI_eq]; simp; omega, _, hb3.at0 (by (repeat (first | assumption | exact Ext.refl _ | refine Ext.trans ?_ (by assumption)))) rfl, ?_⟩
    rw [ba_B l[i].name, B_app, app_lit]
    refine ⟨by rw [B_size, B_size, maxI_eq]; simp; omega, by rw [B_size, lit_size, maxI_eq]; simp; omega, t, hb3.at1 (by (repeat (first | assumption | exact Ext.refl _ | refine Ext.trans ?_ (by assumption)))) rfl, callX.intro (SE.span_Print.go (spanPrint_se (ht.ext (x1.trans x13)) (hr.ext (x1.trans x13)) fun w4 x4 => ⟨x4, _, rfl, ?_⟩))⟩
    rw [B_app, app_lit]
    have hln : (((((wd ++ [32]) ++ l[i].name.toList) ++ [32]) ++ rangeText l[i].range) ++ [10]).length ≤ 2030 := by simp; omega
    refine ⟨by rw [B_size, B_size, maxI_eq]; simp; omega, by rw [B_size, lit_size, maxI_eq]; simp; omega, bldWrite_k (m := (((((wd ++ [32]) ++ l[i].name.toList) ++ [32]) ++ rangeText l[i].range) ++ [10])) (hI.ext (x13.trans x4)) h0 (x1.trans (x13.trans x4)) (by rw [List.length_append]; omega) fun w5 n x5 hB5 => ⟨_, _, rfl, hn hlt' _ ⟨x5, ?_⟩⟩⟩
    rw [List.take_succ_eq_append_getElem hlt', depLines_snoc, depLine, ← List.append_assoc]
    exact hB5
  · have : i = l.length := by omega
    rw [this, List.take_length] at hI
    exact hR _ x1 hI
set_option maxHeartbeats 1000000 in
theorem packText_se {p : Pack} {d e o : Sl} {S : Nat → Prop} {w : World} {R : ByteArray → World → Prop} (ht : Tab w) (hm : listsMay p = true) (hd : SlR depE w S d p.deps) (he : SlR depE w S e p.peers) (ho : SlR depE w S o p.opt)
    (hR : ∀ w', Ext w w' → R (B (packText p)) w') : SE.pack_text p.name p.v.ma p.v.mi p.v.pa d e o w R := by
  unfold SE.pack_text
  unfold listsMay at hm
  simp only [Bool.and_eq_true] at hm
  obtain ⟨⟨⟨⟨hn, hv⟩, h1⟩, h2⟩, h3⟩ := hm
  have n1 := depsMay_names h1; have n2 := depsMay_names h2; have n3 := depsMay_names h3
  have l1 := depLines_len (word := wNeeds) (by decide) fun d hd => (n1.2 d hd).1
  have l2 := depLines_len (word := wBeside) (by decide) fun d hd => (n2.2 d hd).1
  have l3 := depLines_len (word := wLikes) (by decide) fun d hd => (n3.2 d hd).1
  have hnl := nameMay_len hn
  have hnv := verText_len p.v
  refine newS.intro fun _ w1 x1 hb _ _ => ?_
  intro a1 w2 ha1 hw2
  subst ha1
  have x2 : Ext w1 w2 := hw2 ▸ Ext.alloc _ _
  have hB2 : Bld w1.heap.size [] w2 := hw2 ▸ bld_new w1
  refine bnd.drew fun w3 x3 => ?_
  have x13 : Ext w1 w3 := x2.trans x3
  have t1 : Tab w1 := ht.ext x1
  refine ⟨_, hb.at0 x13 rfl, ?_⟩
  rw [ba_B p.name]
  simp only [lit_app, app_lit]
  refine ⟨by rw [lit_size, B_size, maxI_eq]; simp; omega, by rw [B_size, lit_size, maxI_eq]; simp; omega, ?_⟩
  refine ⟨_, _, _, hb.at1 x13 rfl, callX.intro (SE.vers_Print.go (versPrint_se (v := p.v) (t1.ext x13) fun w4 x4 => ⟨x4, _, rfl, ?_⟩))⟩
  simp only [B_app, app_lit]
  have hh := headText_len hn p.v
  refine ⟨by rw [B_size, B_size, maxI_eq]; simp; omega, by rw [B_size, lit_size, maxI_eq]; simp; omega, bldWrite_k (m := headText p.name p.v) (hB2.ext (x3.trans x4)) rfl (x13.trans x4) (by simp; omega) fun w5 n5 x5 hB5 => ⟨_, _, rfl, ?_⟩⟩
  rw [List.nil_append] at hB5
  refine ⟨d, hb.at1 x5 rfl, SE.pack_lines.go (word := B wNeeds) (packLines_se t1 (by decide) h1 rfl x5 hB5 (hd.ext x1) (by omega) fun w6 x6 hB6 => ⟨rfl, ?_⟩)⟩
  refine ⟨e, hb.at1 x6 rfl, SE.pack_lines.go (word := B wBeside) (packLines_se t1 (by decide) h2 rfl x6 hB6 (he.ext x1) (by simp; omega) fun w7 x7 hB7 => ⟨rfl, ?_⟩)⟩
  refine ⟨o, hb.at1 x7 rfl, SE.pack_lines.go (word := B wLikes) (packLines_se t1 (by decide) h3 rfl x7 hB7 (ho.ext x1) (by simp; omega) fun w8 x8 hB8 => ⟨rfl, ?_⟩)⟩
  exact bldString_k hB8 rfl x8 fun w9 x9 => ⟨_, rfl, hR _ (x1.trans x9)⟩
set_option maxHeartbeats 2000000 in
theorem packMay_se {p : Pack} {d e o : Sl} {S : Nat → Prop} {w : World} {R : Bool → World → Prop} (ht : Tab w) (hN : Str p.name) (hd : SlR depE w S d p.deps) (he : SlR depE w S e p.peers) (ho : SlR depE w S o p.opt)
    (hR : ∀ w', Ext w w' → R (packMay p) w') : SE.pack_May p.name p.v.ma p.v.mi p.v.pa d e o w R := by
  unfold SE.pack_May
  refine newS.intro fun _ w1 x1 hb _ _ => ?_
  refine ⟨_, (by first | exact (BoxAt.at0 (by assumption) (by (repeat (first | assumption | exact Ext.refl _ | refine Ext.trans ?_ (by assumption)))) rfl) | exact (BoxAt.at1 (by assumption) (by (repeat (first | assumption | exact Ext.refl _ | refine Ext.trans ?_ (by assumption)))) rfl)), ?_⟩
  refine SE.scan_Name.go (scanName_se hN fun w2 x2 => ⟨_, rfl, ?_⟩)
  refine ⟨p.v.ma, p.v.mi, p.v.pa, fun _ => hb.at1 (by (repeat (first | assumption | exact Ext.refl _ | refine Ext.trans ?_ (by assumption)))) rfl, gCall.intro p.v.may (fun _ q hq => SE.vers_May.go (versMay_se (v := p.v) fun w' hx => ⟨_, rfl, hq _ hx⟩)) fun t1 w3 x3 ht1 => bound ?_⟩
  refine ⟨d, fun _ => hb.at1 (by (repeat (first | assumption | exact Ext.refl _ | refine Ext.trans ?_ (by assumption)))) rfl, gCall.intro (depsMay p.deps) (fun _ q hq => SE.pack_list.go (packList_se (hd.ext (by (repeat (first | assumption | exact Ext.refl _ | refine Ext.trans ?_ (by assumption))))) fun w' hx => ⟨_, rfl, hq _ hx⟩)) fun t2 w4 x4 ht2 => bound ?_⟩
  refine ⟨e, fun _ => hb.at1 (by (repeat (first | assumption | exact Ext.refl _ | refine Ext.trans ?_ (by assumption)))) rfl, gCall.intro (depsMay p.peers) (fun _ q hq => SE.pack_list.go (packList_se (he.ext (by (repeat (first | assumption | exact Ext.refl _ | refine Ext.trans ?_ (by assumption))))) fun w' hx => ⟨_, rfl, hq _ hx⟩)) fun t3 w5 x5 ht3 => bound ?_⟩
  refine ⟨o, fun _ => hb.at1 (by (repeat (first | assumption | exact Ext.refl _ | refine Ext.trans ?_ (by assumption)))) rfl, gCall.intro (depsMay p.opt) (fun _ q hq => SE.pack_list.go (packList_se (ho.ext (by (repeat (first | assumption | exact Ext.refl _ | refine Ext.trans ?_ (by assumption))))) fun w' hx => ⟨_, rfl, hq _ hx⟩)) fun t4 w6 x6 ht4 => ?_⟩
  have e1 : ((((nameMay p.name && t1) && t2) && t3) && t4) = listsMay p := by
    unfold listsMay
    cases h1 : nameMay p.name
    · simp
    rw [h1] at ht1 ht2 ht3 ht4
    rw [ht1 rfl] at ht2 ht3 ht4 ⊢
    cases h2 : p.v.may
    · simp
    rw [h2] at ht2 ht3 ht4
    rw [ht2 rfl] at ht3 ht4 ⊢
    cases h3 : depsMay p.deps
    · simp
    rw [h3] at ht3 ht4
    rw [ht3 rfl] at ht4 ⊢
    cases h4 : depsMay p.peers
    · simp
    rw [h4] at ht4
    rw [ht4 rfl]
  rw [e1]
  refine bound ⟨d, fun _ => hb.at1 (by (repeat (first | assumption | exact Ext.refl _ | refine Ext.trans ?_ (by assumption)))) rfl, e, fun _ => hb.at1 (by (repeat (first | assumption | exact Ext.refl _ | refine Ext.trans ?_ (by assumption)))) rfl, o, fun _ => hb.at1 (by (repeat (first | assumption | exact Ext.refl _ | refine Ext.trans ?_ (by assumption)))) rfl, ?_⟩
  cases hm : listsMay p
  · have : packMay p = false := by unfold packMay; rw [hm]; rfl
    rw [this] at hR
    refine ⟨fun h => by (cases h), fun _ => ⟨fun h => by (cases h), fun _ => bound ?_⟩⟩
    refine ⟨p.name, p.v.ma, p.v.mi, p.v.pa, d, e, o, fun h => by (cases h), ⟨fun h => by (cases h), fun _ => hR _ (by (repeat (first | assumption | exact Ext.refl _ | refine Ext.trans ?_ (by assumption))))⟩⟩
  · refine ⟨fun _ => newS.intro fun a w7 x7 hb7 _ _ => ⟨fun _ => SE.pack_apart.go (packApart_se hb7 (hd.ext (by (repeat (first | assumption | exact Ext.refl _ | refine Ext.trans ?_ (by assumption))))) (he.ext (by (repeat (first | assumption | exact Ext.refl _ | refine Ext.trans ?_ (by assumption))))) (ho.ext (by (repeat (first | assumption | exact Ext.refl _ | refine Ext.trans ?_ (by assumption))))) fun w8 x8 => ⟨_, rfl, bound ?_⟩), fun h => by (cases h)⟩, fun h => by (cases h)⟩
    rw [apart3_eq hm]
    refine ⟨p.name, p.v.ma, p.v.mi, p.v.pa, d, e, o, fun _ => hb.at0 (by (repeat (first | assumption | exact Ext.refl _ | refine Ext.trans ?_ (by assumption)))) rfl, gCall.intro (B (packText p)) (fun _ q hq => SE.pack_text.go (packText_se (ht.ext (by (repeat (first | assumption | exact Ext.refl _ | refine Ext.trans ?_ (by assumption))))) hm (hd.ext (by (repeat (first | assumption | exact Ext.refl _ | refine Ext.trans ?_ (by assumption))))) (he.ext (by (repeat (first | assumption | exact Ext.refl _ | refine Ext.trans ?_ (by assumption))))) (ho.ext (by (repeat (first | assumption | exact Ext.refl _ | refine Ext.trans ?_ (by assumption))))) fun w' hx => ⟨_, rfl, hq _ hx⟩)) fun t7 w10 x10 ht7 => ?_⟩
    have e3 : ((true && apart3 p) && decide ((t7.size : Int) ≤ 4096)) = packMay p := by
      unfold packMay
      rw [hm, Bool.true_and, Bool.true_and]
      cases h1 : apart3 p
      · rfl
      rw [ht7 (by rw [h1]; rfl), B_size, Bool.true_and, Bool.true_and, decide_eq_decide]; omega
    rw [e3]; exact hR _ (by (repeat (first | assumption | exact Ext.refl _ | refine Ext.trans ?_ (by assumption))))
end Go.Hal
namespace Go.Hal
open Go Go.RowKit Go.Proofs Go.Shelf
theorem OwnS.flat {α : Type} {E : Enc α} {T : TypeId} {w : World} {lo : Nat} {S : Nat → Prop} {s : Sl} {l : List α} (hf : ∀ {w S S' x cs}, E.rep w S x cs → E.rep w S' x cs) (h : OwnS E T w lo S s l) : OwnS E T w lo None' s l := by
  obtain ⟨css, ho, hl, hr⟩ := h.row
  exact ⟨⟨css, ho, hl, fun i x hx => let ⟨cs, a, b⟩ := hr i x hx; ⟨cs, a, hf b⟩⟩, h.len, fun _ h => h.elim, fun _ _ h => h.elim⟩
theorem OwnS.empty {α : Type} {E : Enc α} {T : TypeId} (w : World) : OwnS E T (w.alloc (.cells #[] T)) w.heap.size None' ⟨some ⟨w.heap.size, 0, none⟩, 0, 0⟩ ([] : List α) :=
  ⟨⟨[], ⟨by simp, .inr ⟨w.heap.size, 0, #[], rfl, Nat.le_refl _, heap_alloc_new w _, Nat.le_refl _, Nat.zero_le _, by simp, by simp⟩⟩, rfl, fun i x h => by simp at h⟩, rfl, fun _ h => h.elim, fun _ _ h => h.elim⟩
theorem apSpan : ApT Tryz.prog 53 83 6 48 := apT_mk (z := .agg #[.int .i64 0, .int .i64 0, .int .i64 0, .int .i64 0, .int .i64 0, .int .i64 0]) (by kernel_rfl) (by kernel_rfl) rfl (by decide)
theorem cloneSpan_se {s : Sl} {l : List Span} {S : Nat → Prop} {w : World} {R : Sl → World → Prop} (hS : Old S w) (hs : SlR spanE w S s l) (hR : ∀ t w', Ext w w' → SlP spanE w' (fun b => w.heap.size ≤ b ∧ b < w'.heap.size) t l → R t w') : SE.slices_Clone_apiSpanapiSpan s w R := by
  unfold SE.slices_Clone_apiSpanapiSpan
  refine ⟨fun h => ?_, fun h => ?_⟩
  · have : l = [] := by
      rcases hs.2.2.2.2 with h0 | ⟨ad, h1, _⟩
      · exact h0
      · rw [h] at h1; cases h1
    subst this
    exact hR _ _ (Ext.refl _) SlP.nil
  · intro a w1 ha hw
    subst ha
    have x1 : Ext w w1 := hw ▸ Ext.alloc _ _
    have own : OwnS spanE 83 w1 w.heap.size None' ⟨some ⟨w.heap.size, 0, none⟩, 0, 0⟩ [] := hw ▸ OwnS.empty w
    refine own.appAll apSpan x1.size (hs.ext x1) (hS.ext x1.size) (fun ad ha hb => ?_) (by simpa using hs.2.2.2.1) (by simpa using hs.max) fun r w2 own2 bel _ _ => ?_
    · simp only [Option.some.injEq] at ha
      subst ha
      have := hS _ hb
      simp at this
    · rw [List.nil_append] at own2
      have own3 := own2.flat fun h => h
      exact hR _ _ (x1.trans' bel) ((own3.readP hs.2.2.2.1 hs.max).mono fun b hb => by
        rcases hb with hb | ⟨ad, ha, rfl⟩
        · exact hb.elim
        · have := own3.block ha; exact ⟨this.1, this.2.1⟩)
theorem SlR.bound {α : Type} {E : Enc α} {w : World} {S : Nat → Prop} {s : Sl} {l : List α} (hf : ∀ {w S S' x cs}, E.rep w S x cs → E.rep w S' x cs) (hn : 0 < E.n) (h : SlR E w S s l) : SlR E w (fun b => S b ∧ b < w.heap.size) s l := by
  refine ⟨h.1, h.2.1, h.2.2.1, h.2.2.2.1, ?_⟩
  rcases h.2.2.2.2 with h0 | ⟨ad, h1, h2, h3⟩
  · exact .inl h0
  · cases l with
    | nil => exact .inl rfl
    | cons x r =>
      refine .inr ⟨ad, h1, ⟨h2, ?_⟩, fun i y hy => let ⟨cs, a, b⟩ := h3 i y hy; ⟨cs, hf a, b⟩⟩
      obtain ⟨cs, a, b⟩ := h3 0 x rfl
      have hl := E.len a
      have hc := b 0 cs[0] (List.getElem?_eq_getElem (by omega))
      have := World.block_lt_of_cell? w _ hc
      rw [add_block, add_block] at this
      exact this
theorem catOwn_se {s : Sl} {l : List Dep} {S : Nat → Prop} {w : World} {R : Sl → World → Prop} (hS : Old S w) (hs : SlR depE w S s l) (hR : ∀ t w', Ext w w' → SlP depP w' (fun b => w.heap.size ≤ b ∧ b < w'.heap.size) t l → R t w') : SE.catalog_own s w R := by
  unfold SE.catalog_own
  have hl := hs.len
  refine loop2.up hs.max (fun out i w' => Ext w w' ∧ ∃ Q, OwnS depP 81 w' w.heap.size Q out (l.take i) ∧ ∀ b, Q b → w.heap.size ≤ b) ⟨Ext.refl _, _, OwnS.zero _, fun _ h => h.elim⟩ fun out i w0 nxt hi ⟨x0, Q, own, hQ⟩ hn => ⟨fun hlt => ?_, fun hge => ?_⟩
  · have hlt' : i < l.length := by omega
    obtain ⟨ad, t, ha, _, hnm, hr, hc⟩ := depEl hs hlt'
    refine ⟨ad, ⟨ha, by omega, hlt⟩, _, t, hc _ (by (repeat (first | assumption | exact Ext.refl _ | refine Ext.trans ?_ (by assumption)))), newS.intro fun a w1 x1 hb hba _ => stw0.intro hb (by simp) fun w2' b2 _ hb2 => bnd.drew fun w2 x2 => ?_⟩
    have x2' : Ext w0 w2' := b2.ext x1 (by omega)
    have x02 : Ext w0 w2 := x2'.trans x2
    refine ⟨_, hb2.at0 (by (repeat (first | assumption | exact Ext.refl _ | refine Ext.trans ?_ (by assumption)))) rfl, t, hb2.at1 (by (repeat (first | assumption | exact Ext.refl _ | refine Ext.trans ?_ (by assumption)))) rfl, callX.intro (SE.slices_Clone_apiSpanapiSpan.go (cloneSpan_se (hS.ext (x0.trans x02).size) (hr.ext (x0.trans x02)) fun u w3 x3 hu => ⟨x3, _, rfl, ?_⟩))⟩
    refine newS.intro fun a7 w4 x4 hb7 ha7 hsz => ?_
    have x04 : Ext w0 w4 := x02.trans (x3.trans x4)
    have s2 := (x0.trans x02).size
    have s02 := x02.size
    have s4 := x4.size
    have hu' := (hu.ext x4).mono (S' := fun b => w2.heap.size ≤ b ∧ b < w4.heap.size) fun b hb => ⟨hb.1, by omega⟩
    have hlen : (l.take i).length = i := by rw [List.length_take]; omega
    have h4 := hs.2.2.2.1
    have e40 : depE.bytes = 40 := rfl
    have e41 : depP.bytes = 40 := rfl
    refine (own.ext x04).push apDep (x0.trans x04).size (x := l[i]) (S' := fun b => w2.heap.size ≤ b ∧ b < w4.heap.size) ⟨hnm, u, rfl, hu'⟩ hb7.ldc (fun b hb => hb.2) (fun ad ha hb => ?_) (by rw [hlen]; rw [e40] at h4; rw [e41]; omega) (by rw [hlen]; have := hs.max; omega) fun r w5 own5 bel _ _ => hn hlt' _ _ ⟨(x0.trans x04).trans' bel, _, by rw [List.take_succ_eq_append_getElem hlt']; exact own5, fun b hb => ?_⟩
    · have := (own.block ha).2.1
      omega
    · rcases hb with hb | hb
      · exact hQ b hb
      · omega
  · have : i = l.length := by omega
    rw [this, List.take_length] at own
    refine hR _ _ x0 ((own.readP hs.2.2.2.1 hs.max).mono fun b hb => ?_)
    rcases hb with hb | ⟨ad, ha, rfl⟩
    · exact ⟨hQ b hb, own.lt b hb⟩
    · have := own.block ha
      exact ⟨this.1, this.2.1⟩
end Go.Hal
namespace Go.Hal
open Go Go.RowKit Go.Proofs Go.Shelf
theorem But.size {g : Nat} {w w' : World} (h : But g w w') : w.heap.size ≤ w'.heap.size := h.1
theorem SlR.but {α : Type} {E : Enc α} {g : Nat} {w w' : World} {S : Nat → Prop} {s : Sl} {l : List α} (h : SlR E w S s l) (hb : But g w w') (hn : ¬ S g) : SlR E w' S s l := h.keep (hb.keep hn)
set_option maxHeartbeats 1000000 in
theorem copied_se {p : Pack} {d e o : Sl} {S : Nat → Prop} {w : World} {R : ByteArray → Int → Int → Int → Sl → Sl → Sl → World → Prop} (hS : Old S w) (hd : SlR depE w S d p.deps) (he : SlR depE w S e p.peers) (ho : SlR depE w S o p.opt)
    (hR : ∀ d' e' o' w', Ext w w' → SlP depP w' (fun b => w.heap.size ≤ b ∧ b < w'.heap.size) d' p.deps → SlP depP w' (fun b => w.heap.size ≤ b ∧ b < w'.heap.size) e' p.peers → SlP depP w' (fun b => w.heap.size ≤ b ∧ b < w'.heap.size) o' p.opt → R p.name p.v.ma p.v.mi p.v.pa d' e' o' w') :
    SE.catalog_copied p.name p.v.ma p.v.mi p.v.pa d e o w R := by
  unfold SE.catalog_copied
  refine newS.intro fun a w1 x1 hb ha _ => newS.intro fun a1 w2 x2 hb1 ha1 hs2 => bnd.drew fun w3 x3 => ?_
  have x03 : Ext w w3 := x1.trans (x2.trans x3)
  have s1 := x1.size; have s2 := x2.size; have s3 := x3.size
  refine ⟨d, hb.at1 (x2.trans x3) rfl, e, hb.at1 (x2.trans x3) rfl, o, hb.at1 (x2.trans x3) rfl, ?_⟩
  refine callX.intro (SE.catalog_own.go (catOwn_se (hS.ext x03.size) (hd.ext x03) fun d' w4 x4 hd' => ⟨x4, _, rfl, ?_⟩))
  refine callX.intro (SE.catalog_own.go (catOwn_se (hS.ext (x03.trans x4).size) (he.ext (x03.trans x4)) fun e' w5 x5 he' => ⟨x5, _, rfl, ?_⟩))
  refine SE.catalog_own.go (catOwn_se (hS.ext (x03.trans (x4.trans x5)).size) (ho.ext (x03.trans (x4.trans x5))) fun o' w6 x6 ho' => ⟨_, rfl, ?_⟩)
  have s4 := x4.size; have s5 := x5.size; have s6 := x6.size
  have x06 : Ext w w6 := x03.trans (x4.trans (x5.trans x6))
  have k1 : a.block < w3.heap.size := by have := hb.lt; omega
  have k2 : a1.block < w3.heap.size := by have := hb1.lt; omega
  have hD := (hd'.ext (x5.trans x6)).mono (S' := fun b => w3.heap.size ≤ b ∧ b < w6.heap.size) fun b hb => ⟨hb.1, by omega⟩
  have hE := (he'.ext x6).mono (S' := fun b => w3.heap.size ≤ b ∧ b < w6.heap.size) fun b hb => ⟨by omega, by omega⟩
  have hO := ho'.mono (S' := fun b => w3.heap.size ≤ b ∧ b < w6.heap.size) fun b hb => ⟨by omega, by omega⟩
  have hb6 : BoxAt w6 a _ := hb.ext (x2.trans (x3.trans (x4.trans (x5.trans x6))))
  have hb61 : BoxAt w6 a1 _ := hb1.ext (x3.trans (x4.trans (x5.trans x6)))
  refine stw.intro hb6 (by simp) fun w7 b7 _ hb7 => stw.intro hb7 (by simp) fun w8 b8 _ hb8 => stw.intro hb8 (by simp) fun w9 b9 _ hb9 => ⟨_, _, _, _, _, _, _, hb9.ldc.pre rfl, ?_⟩
  have hne : a1.block ≠ a.block := by have := hb.lt; omega
  refine stw0.intro (b9.box (b8.box (b7.box hb61 hne) hne) hne) (by simp) fun w10 b10 _ hb10 => ⟨_, _, _, _, _, _, _, hb10.ldc.pre rfl, ?_⟩
  have n1 : ¬ (w3.heap.size ≤ a.block ∧ a.block < w6.heap.size) := by omega
  have n2 : ¬ (w3.heap.size ≤ a1.block ∧ a1.block < w6.heap.size) := by omega
  have z7 := b7.size; have z8 := b8.size; have z9 := b9.size; have z10 := b10.size
  have up : ∀ b, (w3.heap.size ≤ b ∧ b < w6.heap.size) → (w.heap.size ≤ b ∧ b < w10.heap.size) := fun b hb => ⟨by omega, by omega⟩
  refine hR d' e' o' w10 ?_ (((((hD.but b7 n1).but b8 n1).but b9 n1).but b10 n2).mono up) (((((hE.but b7 n1).but b8 n1).but b9 n1).but b10 n2).mono up) (((((hO.but b7 n1).but b8 n1).but b9 n1).but b10 n2).mono up)
  exact b10.ext (b9.ext (b8.ext (b7.ext x06 (by omega)) (by omega)) (by omega)) (by omega)
end Go.Hal
namespace Go.Hal
open Go Go.RowKit Go.Proofs Go.Shelf
section
variable {P : Program} {mt : TypeId} {K : Value → Prop} {zero : Value} {w : World} {r : Nat} {m : List (Value × Value)}
theorem lookup_no (T : KeyT P mt K zero) (h : MapR K w r m) {k : Value} (hk : K k) (hn : ∀ p ∈ m, p.1 ≠ k) : stabS P (Instr.lookup mt (.map (some r)) k true) w (.tuple #[zero, .bool false]) := fun w' hx => by
  rcases lookup_run T (h.ext hx) hk with ⟨_, hr⟩ | ⟨v, hin, _⟩
  · exact hr true
  · exact absurd rfl (hn _ hin)
theorem lookup_yes (T : KeyT P mt K zero) (h : MapR K w r m) {k v : Value} (hk : K k) (hin : (k, v) ∈ m) : stabS P (Instr.lookup mt (.map (some r)) k true) w (.tuple #[v, .bool true]) := fun w' hx => by
  rcases lookup_run T (h.ext hx) hk with ⟨hn, _⟩ | ⟨u, hu, hr⟩
  · exact absurd rfl (hn _ hin)
  · rw [(h.ext hx).one hin hu]; exact hr true
theorem len_stab {kt et : TypeId} (hu : P.underlying mt = some (.map kt et)) (h : MapR K w r m) : stabS P (Builtin.len_ #[mt] 3 #[.map (some r)]) w (.int .i64 m.length) := fun w' hx => len_run hu (h.ext hx)
end
def packVal (x : Pack) (d e o : Sl) : Value := .agg #[.string x.name, .int .i64 x.v.ma, .int .i64 x.v.mi, .int .i64 x.v.pa, d.v, e.v, o.v]
def EntR (w : World) (S : Nat → Prop) (x : Pack) (kv : Value × Value) : Prop := ∃ d e o, kv = (keyV x.name x.v, packVal x d e o) ∧ Str x.name ∧ SlR depE w S d x.deps ∧ SlR depE w S e x.peers ∧ SlR depE w S o x.opt
structure CatR (w : World) (S : Nat → Prop) (p : Addr) (r : Nat) (ps : List Pack) : Prop where
  box : BoxAt w p [.map (some r)]
  map : ∃ m, MapR isKeyV w r m ∧ m.length = ps.length ∧ ∀ (i : Nat) (x : Pack), ps[i]? = some x → ∃ kv, m[i]? = some kv ∧ EntR w S x kv
  old : Old S w
  free : ¬ S r ∧ ¬ S p.block
  ne : p.block ≠ r
theorem EntR.mono {w : World} {S S' : Nat → Prop} {x : Pack} {kv : Value × Value} (h : EntR w S x kv) (hs : ∀ b, S b → S' b) : EntR w S' x kv := by
  obtain ⟨d, e, o, h1, h2, h3, h4, h5⟩ := h
  exact ⟨d, e, o, h1, h2, h3.mono hs, h4.mono hs, h5.mono hs⟩
theorem EntR.keep {w w' : World} {S : Nat → Prop} {x : Pack} {kv : Value × Value} (h : EntR w S x kv) (hk : Keep S w w') : EntR w' S x kv := by
  obtain ⟨d, e, o, h1, h2, h3, h4, h5⟩ := h
  exact ⟨d, e, o, h1, h2, h3.keep hk, h4.keep hk, h5.keep hk⟩
theorem CatR.ext {w w' : World} {S : Nat → Prop} {p : Addr} {r : Nat} {ps : List Pack} (h : CatR w S p r ps) (hx : Ext w w') : CatR w' S p r ps := by
  obtain ⟨m, h1, h2, h3⟩ := h.map
  exact ⟨h.box.ext hx, ⟨m, h1.ext hx, h2, fun i x hi => let ⟨kv, a, b⟩ := h3 i x hi; ⟨kv, a, b.keep (hx.keep S)⟩⟩, h.old.ext hx.size, h.free, h.ne⟩
theorem CatR.stay {w w' : World} {S : Nat → Prop} {p : Addr} {r : Nat} {ps : List Pack} (h : CatR w S p r ps) (hsz : w.heap.size ≤ w'.heap.size) (hk : ∀ b, b < w.heap.size → (S b ∨ b = p.block ∨ b = r) → w'.heap[b]? = w.heap[b]?) : CatR w' S p r ps := by
  obtain ⟨m, h1, h2, h3⟩ := h.map
  refine ⟨h.box.keep (S := fun b => b = p.block) rfl fun b hb hl => hk b hl (.inr (.inl hb)), ⟨m, h1.of (hk r h1.lt (.inr (.inr rfl))), h2, fun i x hi => let ⟨kv, a, b⟩ := h3 i x hi; ⟨kv, a, b.keep fun c hc hl => hk c hl (.inl hc)⟩⟩, h.old.ext hsz, h.free, h.ne⟩
def sameKey (n : ByteArray) (v : Ver) (x : Pack) : Bool := decide (x.name = n ∧ x.v = v)
theorem CatR.find {w : World} {S : Nat → Prop} {p : Addr} {r : Nat} {ps : List Pack} (h : CatR w S p r ps) (n : ByteArray) (v : Ver) :
    ∃ m, MapR isKeyV w r m ∧ m.length = ps.length ∧ ((ps.find? (sameKey n v) = none ∧ ∀ kv ∈ m, kv.1 ≠ keyV n v) ∨ ∃ x d e o, ps.find? (sameKey n v) = some x ∧ (keyV n v, packVal x d e o) ∈ m ∧ Str x.name ∧ SlR depE w S d x.deps ∧ SlR depE w S e x.peers ∧ SlR depE w S o x.opt) := by
  obtain ⟨m, h1, h2, h3⟩ := h.map
  refine ⟨m, h1, h2, ?_⟩
  cases hf : ps.find? (sameKey n v) with
  | none =>
    refine .inl ⟨rfl, fun kv hkv => ?_⟩
    obtain ⟨i, hi, he⟩ := List.mem_iff_getElem.1 hkv
    have hip : i < ps.length := by omega
    obtain ⟨kv', ha, d, e, o, hb, _⟩ := h3 i _ (List.getElem?_eq_getElem hip)
    rw [List.getElem?_eq_getElem hi, he, Option.some.injEq] at ha
    subst ha
    subst hb
    intro hk
    have := List.find?_eq_none.1 hf _ (List.getElem_mem hip)
    have hk' := keyV_inj.1 hk
    exact this (by simp [sameKey, hk'.1, hk'.2])
  | some x =>
    have hx := List.find?_some hf
    simp only [sameKey, decide_eq_true_eq] at hx
    obtain ⟨i, hi, he⟩ := List.mem_iff_getElem.1 (List.mem_of_find?_eq_some hf)
    obtain ⟨kv, ha, d, e, o, hb, hr⟩ := h3 i _ (List.getElem?_eq_getElem hi)
    rw [he] at hb hr
    subst hb
    exact .inr ⟨x, d, e, o, rfl, by rw [← hx.1, ← hx.2]; exact List.mem_of_getElem? ha, hr⟩
theorem catNew_se {w : World} {R : Option Addr → World → Prop} (hR : ∀ p r w', Ext w w' → CatR w' None' p r [] → w.heap.size ≤ r → w.heap.size ≤ p.block → R (some p) w') : SE.catalog_New w R := by
  unfold SE.catalog_New
  refine makeMap_intro (K := isKeyV) fun r w1 x1 hr1 hm => ⟨some r, rfl, newS.intro fun a w2 x2 hb ha _ => hR a r w2 (x1.trans x2) ⟨hb, ⟨[], hm.ext x2, rfl, fun i x h => by simp at h⟩, fun _ h => h.elim, ⟨fun h => h, fun h => h⟩, ?_⟩ (by omega) ?_⟩
  · have := hm.lt; omega
  · have := x1.size; omega
end Go.Hal
namespace Go.Hal
open Go Go.RowKit Go.Proofs Go.Shelf
def putRes (ps : List Pack) (x : Pack) : Int × List Pack :=
  if packMay x = false then (24, ps) else if (ps.find? (sameKey x.name x.v)).isSome then (11, ps) else if 128 ≤ ps.length then (26, ps) else (0, ps ++ [x])
theorem CatR.add {w : World} {S : Nat → Prop} {p : Addr} {r : Nat} {ps : List Pack} {x : Pack} {d e o : Sl} {B : Nat} (h : CatR w S p r ps) (hn : ps.find? (sameKey x.name x.v) = none) (hN : Str x.name) (hB : r < B ∧ p.block < B)
    (hd : SlR depE w (fun b => B ≤ b ∧ b < w.heap.size) d x.deps) (he : SlR depE w (fun b => B ≤ b ∧ b < w.heap.size) e x.peers) (ho : SlR depE w (fun b => B ≤ b ∧ b < w.heap.size) o x.opt) {c : World → Prop}
    (hc : ∀ w', But r w w' → CatR w' (fun b => S b ∨ (B ≤ b ∧ b < w.heap.size)) p r (ps ++ [x]) → c w') : semU Tryz.prog (Instr.mapUpdate 101 (.map (some r)) (keyV x.name x.v) (packVal x d e o)) w c := by
  obtain ⟨m, hm, hl, hf⟩ := h.find x.name x.v
  have hno : ∀ kv ∈ m, kv.1 ≠ keyV x.name x.v := by
    rcases hf with ⟨_, h⟩ | ⟨y, _, _, _, hy, _⟩
    · exact h
    · rw [hn] at hy; cases hy
  obtain ⟨m', hm', hl', hel⟩ := h.map
  have hmm : m' = m := by
    obtain ⟨es, cl, a, _, rfl, _⟩ := hm
    obtain ⟨es', cl', a', _, rfl, _⟩ := hm'
    rw [a] at a'; cases a'; rfl
  subst hmm
  refine update_new keyT hm ⟨_, _, rfl⟩ hno fun w' hb hsz hm2 => hc w' hb ?_
  have hS : ¬ (S r ∨ (B ≤ r ∧ r < w.heap.size)) := fun hh => by
    rcases hh with hh | hh
    · exact h.free.1 hh
    · omega
  refine ⟨hb.box h.box h.ne, ⟨_, hm2, by simp [hl], fun i y hi => ?_⟩, fun b hb' => ?_, ⟨hS, fun hh => ?_⟩, h.ne⟩
  · rw [List.getElem?_append] at hi
    split at hi
    · rename_i hil
      obtain ⟨kv, a, b⟩ := hel i y hi
      exact ⟨kv, by rw [List.getElem?_append_left (by omega)]; exact a, (b.mono fun _ h => .inl h).keep (hb.keep hS)⟩
    · rename_i hil
      have hi0 : i - ps.length = 0 := by
        rcases Nat.eq_zero_or_pos (i - ps.length) with h0 | h0
        · exact h0
        · rw [List.getElem?_eq_none (by simp; omega)] at hi; cases hi
      rw [hi0] at hi
      simp only [List.getElem?_cons_zero, Option.some.injEq] at hi
      subst hi
      have : EntR w (fun b => S b ∨ (B ≤ b ∧ b < w.heap.size)) x (keyV x.name x.v, packVal x d e o) := ⟨d, e, o, rfl, hN, hd.mono fun _ h => .inr h, he.mono fun _ h => .inr h, ho.mono fun _ h => .inr h⟩
      exact ⟨_, by rw [List.getElem?_append_right (by omega), hl, hi0]; rfl, this.keep (hb.keep hS)⟩
  · have := hb.size
    rcases hb' with hb' | hb'
    · have := h.old b hb'; omega
    · omega
  · rcases hh with hh | hh
    · exact h.free.2 hh
    · omega
set_option maxHeartbeats 2000000 in
theorem catPut_se {x : Pack} {d e o : Sl} {S S2 : Nat → Prop} {p : Addr} {r : Nat} {ps : List Pack} {w : World} {R : Int → World → Prop} (ht : Tab w) (hC : CatR w S p r ps) (hN : Str x.name) (hS2 : Old S2 w)
    (hd : SlR depE w S2 d x.deps) (he : SlR depE w S2 e x.peers) (ho : SlR depE w S2 o x.opt)
    (hR : ∀ S' w', But r w w' → CatR w' S' p r (putRes ps x).2 → (∀ b, S b → S' b) → (∀ b, S' b → S b ∨ w.heap.size ≤ b) → R (putRes ps x).1 w') : SE.catalog_Catalog_Put (some p) x.name x.v.ma x.v.mi x.v.pa d e o w R := by
  unfold SE.catalog_Catalog_Put
  have hrl : r < w.heap.size := by obtain ⟨m, hm, _⟩ := hC.map; exact hm.lt
  have hpl := hC.box.lt
  refine newS.intro fun a w1 x1 hb _ _ => ⟨_, _, _, _, _, _, _, hb.ldc.pre rfl, SE.pack_May.go (packMay_se (p := x) (ht.ext x1) hN (hd.ext x1) (he.ext x1) (ho.ext x1) fun w2 x2 => ⟨_, rfl, fun h => ?_, fun h => ?_⟩)⟩
  · have e : packMay x = false := by simpa using h
    have hp : putRes ps x = (24, ps) := by unfold putRes; rw [if_pos e]
    have := hR S w2 ((x1.trans x2).but r) (by rw [hp]; exact hC.ext (x1.trans x2)) (fun _ h => h) (fun _ h => .inl h)
    rw [hp] at this; exact this
  have hmay : packMay x = true := by simpa using h
  have x02 := x1.trans x2
  refine ⟨_, hb.at0 x2 rfl, _, _, _, hb.at1 x2 rfl, newS.intro fun a4 w3 x3 hb4 _ _ => stw0.intro hb4 (by simp) fun w4 b4 _ hb4 => bnd.drew fun w5 x5 => ?_⟩
  have s1 := x1.size; have s2 := x2.size; have s3 := x3.size
  have x24 : Ext w2 w4 := b4.ext x3 (by omega)
  have x25 : Ext w2 w5 := x24.trans x5
  have x05 : Ext w w5 := x02.trans x25
  have hC5 := hC.ext x05
  refine ⟨p, rfl, some r, hC5.box.ldc, _, _, _, _, hb4.at0 x5 rfl, ?_⟩
  obtain ⟨m, hm, hl, hf⟩ := hC5.find x.name x.v
  rcases hf with ⟨hnone, hno⟩ | ⟨y, dy, ey, oy, hsome, hin, _, _, _, _⟩
  · refine ⟨_, _, _, _, Sl.nil, Sl.nil, Sl.nil, false, lookup_no keyT hm ⟨_, _, rfl⟩ hno, newS.intro fun a12 w6 x6 hb12 _ _ => stw0.intro hb12 (by simp) fun w7 b7 _ hb12 => ⟨fun h => by (cases h), fun _ => ?_⟩⟩
    have x57 : Ext w5 w7 := b7.ext x6 (by omega)
    have hC7 := hC5.ext x57
    refine ⟨p, rfl, some r, hC7.box.ldc, _, len_stab Tryz.underlying101 (hm.ext x57), fun h => ?_, fun h => bnd.drew fun w8 x8 => ?_⟩
    · have hp : putRes ps x = (26, ps) := by unfold putRes; rw [if_neg (by rw [hmay]; simp), if_neg (by rw [hnone]; simp), if_pos (by omega)]
      have := hR S w7 ((x05.trans x57).but r) (by rw [hp]; exact hC7) (fun _ h => h) (fun _ h => .inl h)
      rw [hp] at this; exact this
    · have hp : putRes ps x = (0, ps ++ [x]) := by unfold putRes; rw [if_neg (by rw [hmay]; simp), if_neg (by rw [hnone]; simp), if_neg (by omega)]
      rw [hp] at hR
      have x58 : Ext w5 w8 := x57.trans x8
      have x08 : Ext w w8 := x05.trans x58
      have hC8 := hC5.ext x58
      refine ⟨p, rfl, some r, hC8.box.ldc, _, _, _, _, hb4.at0 (x5.trans x58) rfl, _, _, _, _, _, _, _, hb.at0 (x2.trans (x25.trans x58)) rfl, ?_⟩
      refine callX.intro (SE.catalog_copied.go (copied_se (p := x) (hS2.ext x08.size) (hd.ext x08) (he.ext x08) (ho.ext x08) fun d' e' o' w9 x9 hd' he' ho' => ⟨x9, _, _, _, _, d', e', o', rfl, ?_⟩))
      have s8 := x08.size
      refine (hC8.ext x9).add hnone hN ⟨by omega, by omega⟩ hd'.dep he'.dep ho'.dep fun w10 b10 hC10 => ?_
      refine hR _ w10 (((x08.trans x9).but r).trans b10) hC10 (fun _ h => .inl h) fun b hb => ?_
      rcases hb with hb | hb
      · exact .inl hb
      · right; omega
  · refine ⟨_, _, _, _, dy, ey, oy, true, lookup_yes keyT hm ⟨_, _, rfl⟩ hin, newS.intro fun a12 w6 x6 hb12 _ _ => stw0.intro hb12 (by simp) fun w7 b7 _ hb12 => ⟨fun _ => ?_, fun h => by (cases h)⟩⟩
    have x57 : Ext w5 w7 := b7.ext x6 (by omega)
    have hp : putRes ps x = (11, ps) := by unfold putRes; rw [if_neg (by rw [hmay]; simp), if_pos (by rw [hsome]; rfl)]
    have := hR S w7 ((x05.trans x57).but r) (by rw [hp]; exact hC5.ext x57) (fun _ h => h) (fun _ h => .inl h)
    rw [hp] at this; exact this
end Go.Hal
namespace Go.Hal
theorem Ord3.comap {α β : Type} {c : β → β → Int} (h : Ord3 c) (f : α → β) : Ord3 (fun a b => c (f a) (f b)) := ⟨fun x y => h.flip _ _, fun x y z => h.trans _ _ _⟩
theorem Ord3.swap {α : Type} {c : α → α → Int} (h : Ord3 c) : Ord3 (fun a b => c b a) := ⟨fun x y => h.flip _ _, fun x y z h1 h2 => h.trans _ _ _ h2 h1⟩
theorem Ord3.or {α : Type} {c d : α → α → Int} (h : Ord3 c) (k : Ord3 d) : Ord3 (fun a b => or2 (c a b) (d a b)) where
  flip := fun x y => by
    have h1 := h.flip x y; have h2 := h.flip y x; have h3 := k.flip x y
    have h0 := h.zero (x := x) (y := y)
    unfold or2
    by_cases hc : c x y = 0
    · simp only [hc, h0.1 hc, if_true]; exact h3
    · have : ¬ c y x = 0 := fun e => hc (h0.2 e)
      simp only [hc, this, if_false]; exact h1
  trans := fun x y z h1 h2 => by
    unfold or2 at *
    have z1 := h.zero (x := x) (y := y); have z2 := h.zero (x := y) (y := z)
    by_cases a : c x y = 0 <;> by_cases b : c y z = 0
    · simp only [a, if_true] at h1; simp only [b, if_true] at h2
      have e1 := h.trans x y z (by omega) (by omega)
      have e2 := h.trans z y x (by rw [z2.1 b]; omega) (by rw [z1.1 a]; omega)
      have f1 := h.flip z x; have f2 := h.flip x z
      have : c x z = 0 := by omega
      simp only [this, if_true]; exact k.trans x y z h1 h2
    · simp only [b, if_false] at h2
      have := h.lt_of' (x := x) (y := y) (z := z) (by omega) (by omega)
      split <;> omega
    · simp only [a, if_false] at h1
      have := h.lt_of (x := x) (y := y) (z := z) (by omega) (by omega)
      split <;> omega
    · simp only [a, if_false] at h1
      simp only [b, if_false] at h2
      have := h.lt_of (x := x) (y := y) (z := z) (by omega) (by omega)
      split <;> omega
theorem cmpI_ord : Ord3 cmpI := ⟨fun x y => by unfold cmpI; split <;> split <;> omega, fun x y z => by simp only [cmpI_le]; omega⟩
theorem Ver.cmp_ord : Ord3 Ver.cmp := (cmpI_ord.comap Ver.ma).or ((cmpI_ord.comap Ver.mi).or (cmpI_ord.comap Ver.pa))
def cP (a b : Pack) : Int := or2 (cmpS a.name b.name) (b.v.cmp a.v)
theorem cP_ord : Ord3 cP := (cmpS_ord Pack.name).or ((Ver.cmp_ord.comap Pack.v).swap)
theorem cP_zero {a b : Pack} : cP a b = 0 ↔ a.name = b.name ∧ a.v = b.v := by
  unfold cP or2
  by_cases h : cmpS a.name b.name = 0
  · have e := cmpS_zero.1 h
    rw [if_pos h, Ver.cmp_eq]; simp [e, eq_comm]
  · have : ¬ a.name = b.name := fun e => h (cmpS_zero.2 e)
    simp [h, this]
def OrdL (L : List Pack) : Prop := L.Pairwise fun a b => cP a b < 0
def aheadP (a b : Pack) : Bool := decide (cP a b < 0)
def putAt (x : Pack) (L : List Pack) : List Pack := L.takeWhile (aheadP · x) ++ x :: L.dropWhile (aheadP · x)
theorem putAt_perm (x : Pack) (L : List Pack) : (putAt x L).Perm (L ++ [x]) := by
  unfold putAt
  refine List.perm_middle.trans ?_
  rw [List.takeWhile_append_dropWhile]
  exact (List.perm_append_singleton x L).symm
theorem mem_takeWhile {α : Type} {p : α → Bool} {l : List α} {x : α} (h : x ∈ l.takeWhile p) : p x = true := by
  induction l with
  | nil => cases h
  | cons a r ih =>
    rw [List.takeWhile_cons] at h
    split at h
    · rename_i hp
      rcases List.mem_cons.1 h with rfl | h
      · exact hp
      · exact ih h
    · cases h
theorem putAt_ord {x : Pack} {L : List Pack} (h : OrdL L) (hn : ∀ y ∈ L, cP y x ≠ 0) : OrdL (putAt x L) := by
  unfold putAt OrdL at *
  have hsub1 : (L.takeWhile (aheadP · x)).Sublist L := List.takeWhile_sublist _
  have hsub2 : (L.dropWhile (aheadP · x)).Sublist L := List.dropWhile_sublist _
  have hd : ∀ y ∈ L.dropWhile (aheadP · x), cP x y < 0 := by
    intro y hy
    cases hD : L.dropWhile (aheadP · x) with
    | nil => rw [hD] at hy; cases hy
    | cons a r =>
      have ha : aheadP a x = false := by
        have := List.head?_dropWhile_not (aheadP · x) L
        rw [hD] at this
        simpa using this
      have hax : cP x a < 0 := by
        have h1 : ¬ cP a x < 0 := by simpa [aheadP] using ha
        have h2 := hn a (hsub2.subset (by rw [hD]; exact .head _))
        exact (cP_ord.flip x a).2 (by omega)
      rw [hD] at hy hsub2
      rcases List.mem_cons.1 hy with rfl | hy
      · exact hax
      · exact cP_ord.lt_of hax (Int.le_of_lt ((List.pairwise_cons.1 (h.sublist hsub2)).1 y hy))
  refine List.pairwise_append.2 ⟨h.sublist hsub1, List.pairwise_cons.2 ⟨hd, h.sublist hsub2⟩, fun a ha b hb => ?_⟩
  have hax : cP a x < 0 := by simpa [aheadP] using mem_takeWhile ha
  rcases List.mem_cons.1 hb with rfl | hb
  · exact hax
  · exact cP_ord.lt_of hax (Int.le_of_lt (hd b hb))
theorem OrdL.key {L : List Pack} (h : OrdL L) {a b : Pack} (ha : a ∈ L) (hb : b ∈ L) (hn : a.name = b.name) (hv : a.v = b.v) : a = b := by
  induction L with
  | nil => cases ha
  | cons x r ih =>
    obtain ⟨h1, h2⟩ := List.pairwise_cons.1 h
    rcases List.mem_cons.1 ha with e | ha' <;> rcases List.mem_cons.1 hb with e' | hb'
    · rw [e, e']
    · subst e; have := h1 b hb'; rw [cP_zero.2 ⟨hn, hv⟩] at this; omega
    · subst e'; have := h1 a ha'; rw [cP_zero.2 ⟨hn.symm, hv.symm⟩] at this; omega
    · exact ih h2 ha' hb'
def getL (L : List Pack) (n : ByteArray) (v : Ver) : Option Pack := L.find? (sameKey n v)
theorem getL_some {L : List Pack} {n : ByteArray} {v : Ver} {x : Pack} (h : getL L n v = some x) : x ∈ L ∧ x.name = n ∧ x.v = v := by
  have h1 := List.find?_some h
  simp only [sameKey, decide_eq_true_eq] at h1
  exact ⟨List.mem_of_find?_eq_some h, h1⟩
theorem getL_of {L : List Pack} (h : OrdL L) {x : Pack} (hx : x ∈ L) : getL L x.name x.v = some x := by
  cases hg : getL L x.name x.v with
  | none => exact absurd (by simp [sameKey]) (List.find?_eq_none.1 hg x hx)
  | some y =>
    obtain ⟨a, b, c⟩ := getL_some hg
    rw [h.key a hx b c]
theorem getL_perm {L ps : List Pack} (h : OrdL L) (hp : L.Perm ps) (n : ByteArray) (v : Ver) : ps.find? (sameKey n v) = getL L n v := by
  cases hg : getL L n v with
  | none =>
    rw [List.find?_eq_none]
    intro x hx
    exact List.find?_eq_none.1 hg x (hp.mem_iff.2 hx)
  | some x =>
    obtain ⟨a, b, c⟩ := getL_some hg
    cases hf : ps.find? (sameKey n v) with
    | none => exact absurd (by simp [sameKey, b, c]) (List.find?_eq_none.1 hf x (hp.mem_iff.1 a))
    | some y =>
      have h1 := List.find?_some hf
      simp only [sameKey, decide_eq_true_eq] at h1
      rw [h.key (hp.mem_iff.2 (List.mem_of_find?_eq_some hf)) a (h1.1.trans b.symm) (h1.2.trans c.symm)]
structure GoodL (L : List Pack) : Prop where
  ord : OrdL L
  le : L.length ≤ 128
  may : ∀ x ∈ L, packMay x = true
theorem GoodL.nil : GoodL [] := ⟨.nil, by simp, by simp⟩
def refPut (L : List Pack) (x : Pack) : Int × List Pack :=
  if packMay x = false then (24, L) else if (getL L x.name x.v).isSome then (11, L) else if 128 ≤ L.length then (26, L) else (0, putAt x L)
theorem refPut_good {L : List Pack} (h : GoodL L) (x : Pack) : GoodL (refPut L x).2 := by
  unfold refPut
  split
  · exact h
  · rename_i hm
    split
    · exact h
    · rename_i hs
      split
      · exact h
      · rename_i hl
        have hp := putAt_perm x L
        refine ⟨putAt_ord h.ord fun y hy e => hs ?_, by show (putAt x L).length ≤ 128; rw [hp.length_eq]; simp; omega, fun y hy => ?_⟩
        · obtain ⟨h1, h2⟩ := cP_zero.1 e
          rw [← h1, ← h2, getL_of h.ord hy]; rfl
        · rcases List.mem_append.1 (hp.mem_iff.1 hy) with hy | hy
          · exact h.may y hy
          · simp at hy; subst hy; simpa using hm
theorem put_same {L ps : List Pack} (h : GoodL L) (hp : L.Perm ps) (x : Pack) : (putRes ps x).1 = (refPut L x).1 ∧ (refPut L x).2.Perm (putRes ps x).2 := by
  unfold putRes refPut
  rw [getL_perm h.ord hp, hp.length_eq]
  split
  · exact ⟨rfl, hp⟩
  · split
    · exact ⟨rfl, hp⟩
    · split
      · exact ⟨rfl, hp⟩
      · exact ⟨rfl, (putAt_perm x L).trans (hp.append_right _)⟩
def hasN (n : ByteArray) (x : Pack) : Bool := decide (x.name = n)
def versOf (n : ByteArray) (L : List Pack) : List Ver := (L.filter (hasN n)).map (·.v)
def pinB (pins : List Pin) (n : ByteArray) (v : Ver) : Bool := decide ((⟨n, v⟩ : Pin) ∈ pins)
def cands (L : List Pack) (n : ByteArray) (l : List Span) (pins : List Pin) : List Ver :=
  let all := (versOf n L).filter (spansIn l)
  all.filter (pinB pins n) ++ all.filter fun v => !pinB pins n v
def ordB (b : Bool) : Int := if b then 1 else 0
def cC (pins : List Pin) (n : ByteArray) (a b : Ver) : Int := ordB (pinB pins n b) - ordB (pinB pins n a)
end Go.Hal
namespace Go.Hal
open Go Go.RowKit Go.Proofs Go.Shelf Go.Lib Go.Sort
section
variable {α : Type} [Inhabited α]
theorem flat_get {k : Nat} (f : α → List Value) (hk : ∀ x, (f x).length = k) : ∀ (l : List α) (j : Nat), j < l.length * k → ((l.map f).flatten)[j]? = some ((f (l.toArray[j / k]!))[j % k]!)
  | [], j, h => by simp at h
  | a :: l, j, h => by
    have hk0 : 0 < k := by rcases Nat.eq_zero_or_pos k with h0 | h0; · rw [h0] at h; simp at h
                           · exact h0
    rw [List.map_cons, List.flatten_cons]
    by_cases hj : j < k
    · rw [List.getElem?_append_left (by rw [hk]; exact hj), Nat.div_eq_of_lt hj, Nat.mod_eq_of_lt hj, List.getElem?_eq_getElem (by rw [hk]; exact hj)]
      have : (f a)[j]! = (f a)[j]'(by rw [hk]; exact hj) := getElem!_pos _ _ (by rw [hk]; exact hj)
      simp [this]
    · rw [List.getElem?_append_right (by rw [hk]; omega), hk]
      have h1 : j - k < l.length * k := by rw [List.length_cons, Nat.add_mul] at h; omega
      rw [flat_get f hk l (j - k) h1]
      have h2 : j / k = (j - k) / k + 1 := by rw [Nat.div_eq_sub_div hk0 (by omega)]
      have h3 : j % k = (j - k) % k := Nat.mod_eq_sub_mod (by omega)
      rw [h2, h3]
      simp
theorem holds_of_row {k : Nat} {f : α → List Value} (hk : ∀ x, (f x).length = k) {w : World} {g : Nat} {l : List α} {tail : List Value} (h : RowB f w g l tail) : HoldsK f k w g 0 l.toArray := by
  obtain ⟨t, _, _, hb⟩ := h
  intro j hj
  have hj' : j < l.length * k := by simpa using hj
  rw [get_flatK _ _ _ _ (by simpa using hj')]
  have hg := flat_get f hk l j hj'
  have hlt : j < ((l.map f).flatten).length := by rw [flat_len f hk]; exact hj'
  constructor
  · simp only [World.cell?, hb, Nat.zero_add]
    rw [List.getElem?_toArray]
    rw [List.getElem?_append_left hlt, hg]; rfl
  · simp [World.frozen?, hb]
theorem permIn_list {d d' : Array α} (h : PermIn 0 d.size d d') : d'.toList.Perm d.toList := by
  obtain ⟨h1, _, h3⟩ := h
  have e1 : d'.extract 0 d.size = d' := by rw [← h1]; simp
  have e2 : d.extract 0 d.size = d := by simp
  rw [e1, e2] at h3; exact h3
theorem sortedIn_list {lt : α → α → Bool} {d d' : Array α} (hs : d'.size = d.size) (h : SortedIn lt 0 d.size d') : d'.toList.Pairwise fun x y => lt y x = false := by
  rw [List.pairwise_iff_getElem]
  intro i j hi hj hij
  have hj' : j < d.size := by rw [← hs]; simpa using hj
  have := h i j (Nat.zero_le _) hij hj'
  rw [getElem!_pos _ _ (by omega), getElem!_pos _ _ (by omega)] at this
  simpa using this
theorem row_put {k : Nat} {f : α → List Value} (hk : ∀ x, (f x).length = k) {w : World} {g n : Nat} {l l' : List α} {tail : List Value} {os : Array Obj} (h : RowB f w g l tail) (hl : l'.length = l.length) :
    But g w (sortWorldK f k w g 0 n l'.toArray os) ∧ RowB f (sortWorldK f k w g 0 n l'.toArray os) g l' tail ∧ w.drawn ≤ (sortWorldK f k w g 0 n l'.toArray os).drawn := by
  obtain ⟨t, _, _, hb⟩ := h
  have hgl : g < w.heap.size := (Array.getElem?_eq_some_iff.1 hb).1
  have hh : (sortWorldK f k w g 0 n l'.toArray os).heap = w.heap.modify g (onCells (putCells id 0 (flatK f k l'.toArray))) ++ os := rfl
  refine ⟨⟨by rw [hh]; simp, rfl, rfl, rfl, fun b hbl hne => ?_⟩, ⟨t, rfl, rfl, ?_⟩, ?_⟩
  · rw [hh, Array.getElem?_append_left (by simpa using hbl), Array.getElem?_modify, if_neg (Ne.symm hne)]
  · rw [hh, Array.getElem?_append_left (by simpa using hgl), Array.getElem?_modify, if_pos rfl, hb]
    simp only [Option.map_some, onCells, Option.some.injEq, Obj.cells.injEq, and_true]
    apply Array.ext_getElem?
    intro j
    simp only [putCells, Array.getElem?_mapIdx, List.getElem?_toArray, Nat.zero_le, true_and, Nat.zero_add, Nat.sub_zero, size_flatK, List.size_toArray, id]
    have e1 := flat_len f hk l; have e2 := flat_len f hk l'
    by_cases hj : j < l'.length * k
    · rw [List.getElem?_append_left (by rw [e1, ← hl]; exact hj), List.getElem?_append_left (by rw [e2]; exact hj), List.getElem?_eq_getElem (by rw [e1, ← hl]; exact hj)]
      simp only [Option.map_some, if_pos hj]
      rw [get_flatK _ _ _ _ (by simpa using hj), flat_get f hk l' j hj]
    · rw [List.getElem?_append_right (by rw [e1, ← hl]; omega), List.getElem?_append_right (by rw [e2]; omega), e1, e2, hl]
      cases tail[j - l.length * k]? with
      | none => rfl
      | some v => simp only [Option.map_some]; rw [if_neg (by rw [← hl]; exact hj)]
  · show w.drawn ≤ w.drawn + n
    omega
theorem sortFunc_k {P : Program} {ρ : Ren} (L : SlLaysF0.n6 P ρ) {k : Nat} (aE : ∀ w, (isAgg (ρ.t 24)).run P w = .ok true w) (zE : ∀ w, (Go.sizeOf (ρ.t 24)).run P w = .ok k w) {f : α → List Value} (hk : ∀ x, (f x).length = k) (h1 : ∀ x, ∀ v ∈ f x, v.oneCell' = true)
    (cf : α → α → Int) (hO : SWO (ltOf cf)) (gf : Nat) (cb : Array Value) (eg : ∀ args w, (callFunc gf args).run P w = .ok (.enter gf args) w) {w : World} {g cap : Nat} {l : List α} {tail : List Value}
    (hcmp : ∀ w0 x y, But g w w0 → w.drawn ≤ w0.drawn → Calls P gf (#[.agg (f x).toArray, .agg (f y).toArray] ++ cb) w0 fun e w' => e = .returned (.int .i64 (cf x y)) ∧ ∃ q os', w' = grow (w0.drewN q) os')
    (hR : RowB f w g l tail) (hsz : l.length < 4611686018427387904) {K : Value → World → Prop} {F : Nat} (hF : ρ.f 6 = F)
    (hK : ∀ l' w', l'.Perm l → l'.Pairwise (fun x y => ¬ cf y x < 0) → But g w w' → RowB f w' g l' tail → K (.tuple #[]) w') : callS P F [Sl.v ⟨some ⟨g, 0, none⟩, l.length, cap⟩, .func (.func gf) #[] cb] w K := by
  subst hF
  have hgl : g < w.heap.size := by obtain ⟨t, _, _, hb⟩ := hR; exact (Array.getElem?_eq_some_iff.1 hb).1
  have hC : CmpLays P gf cb f k cf g 0 l.toArray.size w := fun m os dk hs x y => by
    have := row_put hk (n := m) (os := os) (l' := dk.toList) hR (by simpa using hs)
    exact hcmp _ x y this.1 this.2.2
  have h := AnyQ.slices_SortFunc L k aE zE f hk h1 cf hO gf cb g 0 cap l.toArray w eg hC (holds_of_row hk hR) hgl (by simpa using hsz)
  refine h.mono fun e w' ⟨he, d', n, os, hp, hs, hw⟩ => ⟨_, he, ?_⟩
  have hps := permIn_list hp
  have hlen : d'.toList.length = l.length := by simpa using hp.1
  have hput := row_put hk (n := n) (os := os) (l' := d'.toList) hR hlen
  rw [Array.toArray_toList, ← hw] at hput
  exact hK d'.toList w' (by simpa using hps) ((sortedIn_list hp.1 hs).imp fun h => by simpa [ltOf] using h) hput.1 hput.2.1
omit [Inhabited α] in
theorem swo_ltOf {cf : α → α → Int} (flip : ∀ x y, cf x y < 0 ↔ 0 < cf y x) (trans : ∀ x y z, cf x y ≤ 0 → cf y z ≤ 0 → cf x z ≤ 0) : SWO (ltOf cf) where
  irrefl x := by
    have := flip x x
    simp only [ltOf, decide_eq_false_iff_not]; omega
  trans x y z h1 h2 := by
    simp only [ltOf, decide_eq_true_eq] at *
    have a := flip x y; have b := flip y z; have c := flip x z; have d := flip z x; have e := flip z y; have f := flip y x
    have g := trans x y z (by omega) (by omega)
    by_cases h0 : cf x z = 0
    · have k := trans z x y (by omega) (by omega)
      omega
    · omega
  ntrans x y z h1 h2 := by
    simp only [ltOf, decide_eq_false_iff_not] at *
    have a := flip x y; have b := flip y z; have c := flip x z; have d := flip z x; have e := flip z y; have f := flip y x
    have := trans z y x (by omega) (by omega)
    omega
end
end Go.Hal
namespace Go.Hal
open Go Go.RowKit Go.Proofs Go.Shelf Go.Sort
def Gr (w w' : World) : Prop := ∃ q os, w' = grow (w.drewN q) os
theorem Gr.refl (w : World) : Gr w w := ⟨0, #[], by simp [World.drewN]⟩
theorem Gr.trans {a b c : World} (h : Gr a b) (k : Gr b c) : Gr a c := by
  obtain ⟨q, os, rfl⟩ := h
  obtain ⟨r, os', rfl⟩ := k
  refine ⟨q + r, os ++ os', ?_⟩
  simp [grow, World.drewN, Array.append_assoc, Nat.add_assoc]
theorem Gr.alloc (w : World) (o : Obj) : Gr w (w.alloc o) := ⟨0, #[o], by simp [alloc_eq_grow, World.drewN]⟩
theorem Gr.ext {w w' : World} (h : Gr w w') : Ext w w' := by
  obtain ⟨q, os, rfl⟩ := h
  exact ⟨rfl, rfl, rfl, by simp [grow, World.drewN], fun k hk => by simp only [grow, World.drewN]; rw [Array.getElem?_append_left hk]⟩
theorem newS.gr {w : World} {cs : List Value} {t : TypeId} {k : Addr → World → Prop} (h : ∀ a w', Gr w w' → BoxAt w' a cs → k a w') : newS w cs t k := fun a w' ha hw => by
  subst ha hw
  exact h _ _ (Gr.alloc _ _) ⟨t, rfl, rfl, heap_alloc_new w _⟩
theorem Gr.at0 {w w' : World} {a : Addr} {cs cs' r : List Value} (h : BoxAt w a cs) (hx : Gr w w') (hp : cs = cs' ++ r) : Go.Hal.ldc w' a cs' := h.at0 hx.ext hp
theorem cmpL (x : List UInt8) : ∀ y : List UInt8, Lib.compareBytes x y = if Op.bytesLess x y = true then -1 else if x = y then 0 else 1 := by
  induction x with
  | nil => intro y; cases y <;> simp [Lib.compareBytes, Op.bytesLess]
  | cons u x ih =>
    intro y
    cases y with
    | nil => simp [Lib.compareBytes, Op.bytesLess]
    | cons v y =>
      rw [bl_cons]
      simp only [Lib.compareBytes]
      by_cases h1 : u < v
      · simp [h1]
      · by_cases h2 : v < u
        · have hne : ¬ u = v := fun e => by subst e; exact h1 h2
          simp [h1, h2, hne]
        · have he : u = v := UInt8.le_antisymm (UInt8.not_lt.1 h2) (UInt8.not_lt.1 h1)
          subst he
          simp [ih y]
theorem cmpB (a b : ByteArray) : Lib.compareBytes a.data.toList b.data.toList = cmpS a b := by
  rw [cmpL]
  have e1 : Op.bytesLess a.data.toList b.data.toList = bLt a b := by rw [← toList_data, ← toList_data]; rfl
  rw [e1, cmpS]
  cases h : bLt a b
  · simp only [Bool.false_eq_true, if_false]
    by_cases he : a = b
    · subst he; simp [bEq_iff.2 rfl]
    · have h2 : ¬ a.data.toList = b.data.toList := fun e => he (ba_ext e)
      have h3 : bEq a b = false := by rw [Bool.eq_false_iff]; exact fun e => he (bEq_iff.1 e)
      simp [h2, h3]
  · simp
theorem strCmp_k {a b : ByteArray} {w : World} {k : Value → World → Prop} (hk : k (.int .i64 (cmpS a b)) w) : callS Tryz.prog 57 [.string a, .string b] w k :=
  (Any.strings_Compare Tryz.layCo a b w).mono fun e w' ⟨he, hw⟩ => ⟨_, he, by rw [hw, cmpB]; exact hk⟩
end Go.Hal
/-
  DERIVED: THE SHELF's CONTRACTS AT THIS DUMP, IN PLAIN WORDS (tools/lay-plain.mjs out of 'YtfaabhimmojeaaaGreatDoorLay2.lean', which tools/lay-shelf.mjs wrote): THE SAME DECLARATIONS UNDER THE SAME NAMES: 'import', 'namespace', 'open', 'def', 'theorem' AND NOTHING ELSE: no command of the shelf's: FOR A HAND-IN. Each laying: the table of numbers ('.._ren') and one theorem, a field a fact of the dump's own or the kernel's comparison; each contract: ONE APPLICATION.
-/
namespace Go.Proofs
open Go.Shelf
def Tryz.laySv_ren : Go.Shelf.Ren := ⟨fun | 6 => 64 | 15 => 102 | 14 => 109 | 28 => 138 | 29 => 139 | 20 => 147 | 21 => 148 | 22 => 149 | 23 => 150 | 24 => 151 | 25 => 152 | 26 => 153 | 27 => 154 | 46 => 187 | 47 => 173 | 48 => 174 | 49 => 188 | 50 => 189 | 57 => 206 | n => n, fun | 22 => 60 | 24 => 30 | 25 => 68 | 3 => 3 | 39 => 139 | 0 => 0 | 53 => 174 | 55 => 176 | 4 => 4 | 46 => 168 | 45 => 167 | 50 => 147 | 5 => 5 | 9 => 9 | 66 => 205 | 70 => 209 | 76 => 227 | 77 => 228 | n => n, fun | n => n⟩
theorem Tryz.laySv : Go.Proofs.SlLaysF0.n6 Tryz.prog Tryz.laySv_ren := {
  mixed := by kernel_rfl
  f6 := ⟨Tryz.f64.name, by decide, Tryz.func64.trans (congrArg some (by kernel_rfl))⟩
  f14 := ⟨Tryz.f109.name, by decide, Tryz.func109.trans (congrArg some (by kernel_rfl))⟩
  f15 := Tryz.func102.trans (congrArg some (by kernel_rfl))
  f20 := ⟨Tryz.f147.name, by decide, Tryz.func147.trans (congrArg some (by kernel_rfl))⟩
  f21 := ⟨Tryz.f148.name, by decide, Tryz.func148.trans (congrArg some (by kernel_rfl))⟩
  f22 := ⟨Tryz.f149.name, by decide, Tryz.func149.trans (congrArg some (by kernel_rfl))⟩
  f23 := ⟨Tryz.f150.name, by decide, Tryz.func150.trans (congrArg some (by kernel_rfl))⟩
  f24 := ⟨Tryz.f151.name, by decide, Tryz.func151.trans (congrArg some (by kernel_rfl))⟩
  f25 := ⟨Tryz.f152.name, by decide, Tryz.func152.trans (congrArg some (by kernel_rfl))⟩
  f26 := ⟨Tryz.f153.name, by decide, Tryz.func153.trans (congrArg some (by kernel_rfl))⟩
  f27 := ⟨Tryz.f154.name, by decide, Tryz.func154.trans (congrArg some (by kernel_rfl))⟩
  f28 := Tryz.func138.trans (congrArg some (by kernel_rfl))
  f29 := Tryz.func139.trans (congrArg some (by kernel_rfl))
  f46 := ⟨Tryz.f187.name, by decide, Tryz.func187.trans (congrArg some (by kernel_rfl))⟩
  f47 := Tryz.func173.trans (congrArg some (by kernel_rfl))
  f48 := Tryz.func174.trans (congrArg some (by kernel_rfl))
  f49 := ⟨Tryz.f188.name, by decide, Tryz.func188.trans (congrArg some (by kernel_rfl))⟩
  f50 := ⟨Tryz.f189.name, by decide, Tryz.func189.trans (congrArg some (by kernel_rfl))⟩
  f57 := ⟨Tryz.f206.name, by decide, Tryz.func206.trans (congrArg some (by kernel_rfl))⟩
  t0 := Tryz.underlying0
  a0 := Tryz.isAgg0
  z0 := Tryz.sizeOf0
  v0 := Tryz.zeroValue0
  t3 := Tryz.underlying3
  a3 := Tryz.isAgg3
  z3 := Tryz.sizeOf3
  v3 := Tryz.zeroValue3
  t4 := Tryz.underlying4
  a4 := Tryz.isAgg4
  z4 := Tryz.sizeOf4
  v4 := Tryz.zeroValue4
  t5 := Tryz.underlying5
  a5 := Tryz.isAgg5
  z5 := Tryz.sizeOf5
  v5 := Tryz.zeroValue5
  t9 := Tryz.underlying9
  a9 := Tryz.isAgg9
  z9 := Tryz.sizeOf9
  v9 := Tryz.zeroValue9
  t22 := Tryz.underlying60
  a22 := Tryz.isAgg60
  z22 := Tryz.sizeOf60
  v22 := Tryz.zeroValue60
  t25 := Tryz.underlying68
  a25 := Tryz.isAgg68
  z25 := Tryz.sizeOf68
  v25 := Tryz.zeroValue68
  t39 := Tryz.underlying139
  a39 := Tryz.isAgg139
  z39 := Tryz.sizeOf139
  v39 := Tryz.zeroValue139
  t45 := Tryz.underlying167
  a45 := Tryz.isAgg167
  z45 := Tryz.sizeOf167
  v45 := Tryz.zeroValue167
  t46 := Tryz.underlying168
  a46 := Tryz.isAgg168
  z46 := Tryz.sizeOf168
  v46 := Tryz.zeroValue168
  t50 := Tryz.underlying147
  a50 := Tryz.isAgg147
  z50 := Tryz.sizeOf147
  v50 := Tryz.zeroValue147
  t53 := Tryz.underlying174
  a53 := Tryz.isAgg174
  z53 := Tryz.sizeOf174
  v53 := Tryz.zeroValue174
  t55 := Tryz.underlying176
  a55 := Tryz.isAgg176
  z55 := Tryz.sizeOf176
  v55 := Tryz.zeroValue176
  t66 := Tryz.underlying205
  a66 := Tryz.isAgg205
  z66 := Tryz.sizeOf205
  v66 := Tryz.zeroValue205
  t70 := Tryz.underlying209
  a70 := Tryz.isAgg209
  z70 := Tryz.sizeOf209
  v70 := Tryz.zeroValue209
  t76 := Tryz.underlying227
  a76 := Tryz.isAgg227
  z76 := Tryz.sizeOf227
  v76 := Tryz.zeroValue227
  t77 := Tryz.underlying228
  a77 := Tryz.isAgg228
  z77 := Tryz.sizeOf228
  v77 := Tryz.zeroValue228 }
def Tryz.laySp_ren : Go.Shelf.Ren := ⟨fun | 6 => 55 | 15 => 102 | 14 => 101 | 28 => 138 | 29 => 139 | 20 => 130 | 21 => 131 | 22 => 132 | 23 => 133 | 24 => 134 | 25 => 135 | 26 => 136 | 27 => 137 | 46 => 172 | 47 => 173 | 48 => 174 | 49 => 175 | 50 => 176 | 57 => 198 | n => n, fun | 22 => 28 | 24 => 32 | 25 => 99 | 3 => 3 | 39 => 139 | 0 => 0 | 53 => 174 | 55 => 176 | 4 => 4 | 46 => 168 | 45 => 167 | 50 => 147 | 5 => 5 | 9 => 9 | 66 => 205 | 70 => 209 | 76 => 227 | 77 => 228 | n => n, fun | n => n⟩
theorem Tryz.laySp : Go.Proofs.SlLaysF0.n6 Tryz.prog Tryz.laySp_ren := {
  mixed := by kernel_rfl
  f6 := ⟨Tryz.f55.name, by decide, Tryz.func55.trans (congrArg some (by kernel_rfl))⟩
  f14 := ⟨Tryz.f101.name, by decide, Tryz.func101.trans (congrArg some (by kernel_rfl))⟩
  f15 := Tryz.func102.trans (congrArg some (by kernel_rfl))
  f20 := ⟨Tryz.f130.name, by decide, Tryz.func130.trans (congrArg some (by kernel_rfl))⟩
  f21 := ⟨Tryz.f131.name, by decide, Tryz.func131.trans (congrArg some (by kernel_rfl))⟩
  f22 := ⟨Tryz.f132.name, by decide, Tryz.func132.trans (congrArg some (by kernel_rfl))⟩
  f23 := ⟨Tryz.f133.name, by decide, Tryz.func133.trans (congrArg some (by kernel_rfl))⟩
  f24 := ⟨Tryz.f134.name, by decide, Tryz.func134.trans (congrArg some (by kernel_rfl))⟩
  f25 := ⟨Tryz.f135.name, by decide, Tryz.func135.trans (congrArg some (by kernel_rfl))⟩
  f26 := ⟨Tryz.f136.name, by decide, Tryz.func136.trans (congrArg some (by kernel_rfl))⟩
  f27 := ⟨Tryz.f137.name, by decide, Tryz.func137.trans (congrArg some (by kernel_rfl))⟩
  f28 := Tryz.func138.trans (congrArg some (by kernel_rfl))
  f29 := Tryz.func139.trans (congrArg some (by kernel_rfl))
  f46 := ⟨Tryz.f172.name, by decide, Tryz.func172.trans (congrArg some (by kernel_rfl))⟩
  f47 := Tryz.func173.trans (congrArg some (by kernel_rfl))
  f48 := Tryz.func174.trans (congrArg some (by kernel_rfl))
  f49 := ⟨Tryz.f175.name, by decide, Tryz.func175.trans (congrArg some (by kernel_rfl))⟩
  f50 := ⟨Tryz.f176.name, by decide, Tryz.func176.trans (congrArg some (by kernel_rfl))⟩
  f57 := ⟨Tryz.f198.name, by decide, Tryz.func198.trans (congrArg some (by kernel_rfl))⟩
  t0 := Tryz.underlying0
  a0 := Tryz.isAgg0
  z0 := Tryz.sizeOf0
  v0 := Tryz.zeroValue0
  t3 := Tryz.underlying3
  a3 := Tryz.isAgg3
  z3 := Tryz.sizeOf3
  v3 := Tryz.zeroValue3
  t4 := Tryz.underlying4
  a4 := Tryz.isAgg4
  z4 := Tryz.sizeOf4
  v4 := Tryz.zeroValue4
  t5 := Tryz.underlying5
  a5 := Tryz.isAgg5
  z5 := Tryz.sizeOf5
  v5 := Tryz.zeroValue5
  t9 := Tryz.underlying9
  a9 := Tryz.isAgg9
  z9 := Tryz.sizeOf9
  v9 := Tryz.zeroValue9
  t22 := Tryz.underlying28
  a22 := Tryz.isAgg28
  z22 := Tryz.sizeOf28
  v22 := Tryz.zeroValue28
  t25 := Tryz.underlying99
  a25 := Tryz.isAgg99
  z25 := Tryz.sizeOf99
  v25 := Tryz.zeroValue99
  t39 := Tryz.underlying139
  a39 := Tryz.isAgg139
  z39 := Tryz.sizeOf139
  v39 := Tryz.zeroValue139
  t45 := Tryz.underlying167
  a45 := Tryz.isAgg167
  z45 := Tryz.sizeOf167
  v45 := Tryz.zeroValue167
  t46 := Tryz.underlying168
  a46 := Tryz.isAgg168
  z46 := Tryz.sizeOf168
  v46 := Tryz.zeroValue168
  t50 := Tryz.underlying147
  a50 := Tryz.isAgg147
  z50 := Tryz.sizeOf147
  v50 := Tryz.zeroValue147
  t53 := Tryz.underlying174
  a53 := Tryz.isAgg174
  z53 := Tryz.sizeOf174
  v53 := Tryz.zeroValue174
  t55 := Tryz.underlying176
  a55 := Tryz.isAgg176
  z55 := Tryz.sizeOf176
  v55 := Tryz.zeroValue176
  t66 := Tryz.underlying205
  a66 := Tryz.isAgg205
  z66 := Tryz.sizeOf205
  v66 := Tryz.zeroValue205
  t70 := Tryz.underlying209
  a70 := Tryz.isAgg209
  z70 := Tryz.sizeOf209
  v70 := Tryz.zeroValue209
  t76 := Tryz.underlying227
  a76 := Tryz.isAgg227
  z76 := Tryz.sizeOf227
  v76 := Tryz.zeroValue227
  t77 := Tryz.underlying228
  a77 := Tryz.isAgg228
  z77 := Tryz.sizeOf228
  v77 := Tryz.zeroValue228 }
def Tryz.laySk_ren : Go.Shelf.Ren := ⟨fun | 6 => 74 | 15 => 102 | 14 => 113 | 28 => 138 | 29 => 139 | 20 => 156 | 21 => 157 | 22 => 158 | 23 => 159 | 24 => 160 | 25 => 161 | 26 => 162 | 27 => 163 | 46 => 191 | 47 => 173 | 48 => 174 | 49 => 192 | 50 => 193 | 57 => 208 | n => n, fun | 22 => 22 | 24 => 48 | 25 => 116 | 3 => 3 | 39 => 139 | 0 => 0 | 53 => 174 | 55 => 176 | 4 => 4 | 46 => 168 | 45 => 167 | 50 => 147 | 5 => 5 | 9 => 9 | 66 => 205 | 70 => 209 | 76 => 227 | 77 => 228 | n => n, fun | n => n⟩
theorem Tryz.laySk : Go.Proofs.SlLaysF0.n6 Tryz.prog Tryz.laySk_ren := {
  mixed := by kernel_rfl
  f6 := ⟨Tryz.f74.name, by decide, Tryz.func74.trans (congrArg some (by kernel_rfl))⟩
  f14 := ⟨Tryz.f113.name, by decide, Tryz.func113.trans (congrArg some (by kernel_rfl))⟩
  f15 := Tryz.func102.trans (congrArg some (by kernel_rfl))
  f20 := ⟨Tryz.f156.name, by decide, Tryz.func156.trans (congrArg some (by kernel_rfl))⟩
  f21 := ⟨Tryz.f157.name, by decide, Tryz.func157.trans (congrArg some (by kernel_rfl))⟩
  f22 := ⟨Tryz.f158.name, by decide, Tryz.func158.trans (congrArg some (by kernel_rfl))⟩
  f23 := ⟨Tryz.f159.name, by decide, Tryz.func159.trans (congrArg some (by kernel_rfl))⟩
  f24 := ⟨Tryz.f160.name, by decide, Tryz.func160.trans (congrArg some (by kernel_rfl))⟩
  f25 := ⟨Tryz.f161.name, by decide, Tryz.func161.trans (congrArg some (by kernel_rfl))⟩
  f26 := ⟨Tryz.f162.name, by decide, Tryz.func162.trans (congrArg some (by kernel_rfl))⟩
  f27 := ⟨Tryz.f163.name, by decide, Tryz.func163.trans (congrArg some (by kernel_rfl))⟩
  f28 := Tryz.func138.trans (congrArg some (by kernel_rfl))
  f29 := Tryz.func139.trans (congrArg some (by kernel_rfl))
  f46 := ⟨Tryz.f191.name, by decide, Tryz.func191.trans (congrArg some (by kernel_rfl))⟩
  f47 := Tryz.func173.trans (congrArg some (by kernel_rfl))
  f48 := Tryz.func174.trans (congrArg some (by kernel_rfl))
  f49 := ⟨Tryz.f192.name, by decide, Tryz.func192.trans (congrArg some (by kernel_rfl))⟩
  f50 := ⟨Tryz.f193.name, by decide, Tryz.func193.trans (congrArg some (by kernel_rfl))⟩
  f57 := ⟨Tryz.f208.name, by decide, Tryz.func208.trans (congrArg some (by kernel_rfl))⟩
  t0 := Tryz.underlying0
  a0 := Tryz.isAgg0
  z0 := Tryz.sizeOf0
  v0 := Tryz.zeroValue0
  t3 := Tryz.underlying3
  a3 := Tryz.isAgg3
  z3 := Tryz.sizeOf3
  v3 := Tryz.zeroValue3
  t4 := Tryz.underlying4
  a4 := Tryz.isAgg4
  z4 := Tryz.sizeOf4
  v4 := Tryz.zeroValue4
  t5 := Tryz.underlying5
  a5 := Tryz.isAgg5
  z5 := Tryz.sizeOf5
  v5 := Tryz.zeroValue5
  t9 := Tryz.underlying9
  a9 := Tryz.isAgg9
  z9 := Tryz.sizeOf9
  v9 := Tryz.zeroValue9
  t22 := Tryz.underlying22
  a22 := Tryz.isAgg22
  z22 := Tryz.sizeOf22
  v22 := Tryz.zeroValue22
  t25 := Tryz.underlying116
  a25 := Tryz.isAgg116
  z25 := Tryz.sizeOf116
  v25 := Tryz.zeroValue116
  t39 := Tryz.underlying139
  a39 := Tryz.isAgg139
  z39 := Tryz.sizeOf139
  v39 := Tryz.zeroValue139
  t45 := Tryz.underlying167
  a45 := Tryz.isAgg167
  z45 := Tryz.sizeOf167
  v45 := Tryz.zeroValue167
  t46 := Tryz.underlying168
  a46 := Tryz.isAgg168
  z46 := Tryz.sizeOf168
  v46 := Tryz.zeroValue168
  t50 := Tryz.underlying147
  a50 := Tryz.isAgg147
  z50 := Tryz.sizeOf147
  v50 := Tryz.zeroValue147
  t53 := Tryz.underlying174
  a53 := Tryz.isAgg174
  z53 := Tryz.sizeOf174
  v53 := Tryz.zeroValue174
  t55 := Tryz.underlying176
  a55 := Tryz.isAgg176
  z55 := Tryz.sizeOf176
  v55 := Tryz.zeroValue176
  t66 := Tryz.underlying205
  a66 := Tryz.isAgg205
  z66 := Tryz.sizeOf205
  v66 := Tryz.zeroValue205
  t70 := Tryz.underlying209
  a70 := Tryz.isAgg209
  z70 := Tryz.sizeOf209
  v70 := Tryz.zeroValue209
  t76 := Tryz.underlying227
  a76 := Tryz.isAgg227
  z76 := Tryz.sizeOf227
  v76 := Tryz.zeroValue227
  t77 := Tryz.underlying228
  a77 := Tryz.isAgg228
  z77 := Tryz.sizeOf228
  v77 := Tryz.zeroValue228 }
end Go.Proofs
namespace Go.Hal
open Go Go.RowKit Go.Proofs Go.Shelf
def CatL (w : World) (S : Nat → Prop) (p : Addr) (r : Nat) (L : List Pack) : Prop := ∃ ps, CatR w S p r ps ∧ L.Perm ps ∧ GoodL L
theorem CatL.ext {w w' : World} {S : Nat → Prop} {p : Addr} {r : Nat} {L : List Pack} (h : CatL w S p r L) (hx : Ext w w') : CatL w' S p r L := by
  obtain ⟨ps, a, b, c⟩ := h
  exact ⟨ps, a.ext hx, b, c⟩
theorem CatL.good {w : World} {S : Nat → Prop} {p : Addr} {r : Nat} {L : List Pack} (h : CatL w S p r L) : GoodL L := by obtain ⟨_, _, _, c⟩ := h; exact c
theorem catNew_L {w : World} {R : Option Addr → World → Prop} (hR : ∀ p r w', Ext w w' → CatL w' None' p r [] → w.heap.size ≤ r → w.heap.size ≤ p.block → R (some p) w') : SE.catalog_New w R :=
  catNew_se fun p r w' hx hC h1 h2 => hR p r w' hx ⟨[], hC, List.Perm.refl _, GoodL.nil⟩ h1 h2
theorem catPut_L {x : Pack} {d e o : Sl} {S S2 : Nat → Prop} {p : Addr} {r : Nat} {L : List Pack} {w : World} {R : Int → World → Prop} (ht : Tab w) (hC : CatL w S p r L) (hN : Str x.name) (hS2 : Old S2 w)
    (hd : SlR depE w S2 d x.deps) (he : SlR depE w S2 e x.peers) (ho : SlR depE w S2 o x.opt)
    (hR : ∀ S' w', But r w w' → CatL w' S' p r (refPut L x).2 → (∀ b, S b → S' b) → (∀ b, S' b → S b ∨ w.heap.size ≤ b) → R (refPut L x).1 w') : SE.catalog_Catalog_Put (some p) x.name x.v.ma x.v.mi x.v.pa d e o w R := by
  obtain ⟨ps, h1, h2, h3⟩ := hC
  obtain ⟨e1, e2⟩ := put_same h3 h2 x
  refine catPut_se ht h1 hN hS2 hd he ho fun S' w' b hC' hs hs' => ?_
  rw [e1]
  exact hR S' w' b ⟨_, hC', e2, refPut_good h3 x⟩ hs hs'
def zeroP : Pack := ⟨⟨#[]⟩, ⟨0, 0, 0⟩, [], [], []⟩
def getD (L : List Pack) (n : ByteArray) (v : Ver) : Pack := (getL L n v).getD zeroP
theorem catGet_se {n : ByteArray} {v : Ver} {S : Nat → Prop} {p : Addr} {r : Nat} {L : List Pack} {w : World} {R : ByteArray → Int → Int → Int → Sl → Sl → Sl → Bool → World → Prop} (hC : CatL w S p r L)
    (hR : ∀ d e o w', Ext w w' → Str (getD L n v).name → SlP depP w' (fun b => w.heap.size ≤ b ∧ b < w'.heap.size) d (getD L n v).deps → SlP depP w' (fun b => w.heap.size ≤ b ∧ b < w'.heap.size) e (getD L n v).peers → SlP depP w' (fun b => w.heap.size ≤ b ∧ b < w'.heap.size) o (getD L n v).opt →
      R (getD L n v).name (getD L n v).v.ma (getD L n v).v.mi (getD L n v).v.pa d e o (getL L n v).isSome w') : SE.catalog_Catalog_Get (some p) n v.ma v.mi v.pa w R := by
  unfold SE.catalog_Catalog_Get
  obtain ⟨ps, hC, hp, hg⟩ := hC
  refine newS.intro fun a w1 x1 hb _ _ => newS.intro fun a1 w2 x2 hb1 ha1 _ => bnd.drew fun w3 x3 => ?_
  have x03 : Ext w w3 := x1.trans (x2.trans x3)
  have hC3 := hC.ext x03
  refine ⟨p, rfl, some r, hC3.box.ldc, v.ma, v.mi, v.pa, hb.at0 (x2.trans x3) rfl, ?_⟩
  obtain ⟨m, hm, hl, hf⟩ := hC3.find n v
  rw [getL_perm hg.ord hp] at hf
  have key : ∃ (d e o : Sl), stabS Tryz.prog (Instr.lookup 101 (.map (some r)) (keyV n v) true) w3 (.tuple #[packVal (getD L n v) d e o, .bool (getL L n v).isSome]) ∧ Str (getD L n v).name ∧ SlR depE w3 S d (getD L n v).deps ∧ SlR depE w3 S e (getD L n v).peers ∧ SlR depE w3 S o (getD L n v).opt := by
    rcases hf with ⟨hnone, hno⟩ | ⟨y, dy, ey, oy, hsome, hin, hN, h1, h2, h3⟩
    · unfold getD
      rw [hnone]
      exact ⟨Sl.nil, Sl.nil, Sl.nil, lookup_no keyT hm ⟨_, _, rfl⟩ hno, by unfold Str; exact Nat.zero_le _, SlR.nil trivial, SlR.nil trivial, SlR.nil trivial⟩
    · unfold getD
      rw [hsome]
      exact ⟨dy, ey, oy, lookup_yes keyT hm ⟨_, _, rfl⟩ hin, hN, h1, h2, h3⟩
  obtain ⟨d, e, o, hst, hN, hd, he, ho⟩ := key
  generalize hY : getD L n v = y at *
  refine ⟨y.name, y.v.ma, y.v.mi, y.v.pa, d, e, o, (getL L n v).isSome, hst, newS.intro fun a6 w4 x4 hb6 ha6 _ => stw0.intro hb6 (by simp) fun w5 b5 _ hb5 => ?_⟩
  have s3 := x03.size; have s4 := x4.size; have s2 := x2.size; have s1 := x1.size; have s33 := x3.size
  have x35 : Ext w3 w5 := b5.ext x4 (by omega)
  refine ⟨_, _, _, _, _, _, _, hb5.ldc.pre rfl, SE.catalog_copied.go (copied_se (p := y) (S := S) ((hC3.old).ext x35.size) (hd.ext x35) (he.ext x35) (ho.ext x35) fun d' e' o' w6 x6 hd' he' ho' => ⟨_, _, _, _, _, _, _, rfl, ?_⟩)⟩
  have x36 := x35.trans x6
  have s5 := x35.size; have s6 := x6.size
  have hb1' := hb1.ext (x3.trans x36)
  refine stw0.intro hb1' (by simp) fun w7 b7 _ hb7 => ⟨_, _, _, _, _, _, _, hb7.ldc.pre rfl, ?_⟩
  have hl1 := hb1.lt
  have n1 : ¬ (w5.heap.size ≤ a1.block ∧ a1.block < w6.heap.size) := by omega
  have s7 := b7.size
  have up : ∀ b, (w5.heap.size ≤ b ∧ b < w6.heap.size) → (w.heap.size ≤ b ∧ b < w7.heap.size) := fun b hb => ⟨by omega, by omega⟩
  exact hR d' e' o' w7 (b7.ext (x03.trans x36) (by omega)) hN ((hd'.but b7 n1).mono up) ((he'.but b7 n1).mono up) ((ho'.but b7 n1).mono up)
instance : Inhabited Ver := ⟨⟨0, 0, 0⟩⟩
instance : Inhabited Pin := ⟨⟨⟨#[]⟩, ⟨0, 0, 0⟩⟩⟩
end Go.Hal
namespace Go.Hal
open Go Go.RowKit Go.Proofs Go.Shelf
def FlatO {α : Type} (f : α → List Value) (bytes : Nat) (w : World) (lo : Nat) (s : Sl) (l : List α) : Prop :=
  s.len = l.length ∧ l.length ≤ s.cap ∧ s.cap ≤ maxLen ∧ l.length * bytes ≤ room ∧ (l = [] ∨ ∃ g tail, s.a = some ⟨g, 0, none⟩ ∧ lo ≤ g ∧ RowB f w g l tail)
section
variable {α : Type} {f : α → List Value} {bytes : Nat} {w w' : World} {lo : Nat} {s : Sl} {l : List α}
theorem FlatO.read {E : Enc α} (h : FlatO f E.bytes w lo s l) (hk : ∀ x, (f x).length = E.n) (hE : ∀ w S, ∀ x ∈ l, E.rep w S x (f x)) : SlR E w (fun b => lo ≤ b ∧ b < w.heap.size) s l := by
  obtain ⟨h1, h2, h3, h4, h5⟩ := h
  refine ⟨h1, h2, h3, h4, ?_⟩
  rcases h5 with h5 | ⟨g, tail, ha, hg, hr⟩
  · exact .inl h5
  · exact .inr ⟨_, ha, ⟨hg, hr.lt⟩, fun i x hx => ⟨f x, hE _ _ x (List.mem_of_getElem? hx), hr.ld' hk hx⟩⟩
theorem FlatO.ext (h : FlatO f bytes w lo s l) (hx : Ext w w') : FlatO f bytes w' lo s l := by
  obtain ⟨h1, h2, h3, h4, h5⟩ := h
  exact ⟨h1, h2, h3, h4, h5.imp id fun ⟨g, tail, a, b, c⟩ => ⟨g, tail, a, b, c.ext hx⟩⟩
theorem FlatO.of {E : Enc α} {T : TypeId} {S : Nat → Prop} (hE : ∀ x cs, E.rep w S x cs → cs = f x) (h : OwnS E T w lo S s l) (hb : l.length * bytes ≤ room) : FlatO f bytes w lo s l := by
  rcases OwnS.rowG f (fun y x => y = x) (fun x cs hr => ⟨x, hE x cs hr, rfl⟩) h with ⟨rfl, rfl⟩ | ⟨g, z, tail, ha, hg, hz, hr, hR, hc, hm⟩
  · exact ⟨rfl, Nat.le_refl _, Nat.zero_le _, hb, .inl rfl⟩
  · have e : z.map Prod.fst = l := by
      rw [← hz]
      exact List.map_congr_left fun p hp => hr p hp
    rw [e] at hR
    exact ⟨h.len, hc, hm, hb, .inr ⟨g, tail, ha, hg, hR⟩⟩
theorem FlatO.clip {k : Nat} (h : FlatO f bytes w lo s l) : FlatO f bytes w lo (Sl.mk (if (s.len : Int).toNat = 0 then s.a else s.a.map (·.add (0 * k))) ((s.len : Int).toNat - 0) ((s.len : Int).toNat - 0)) l := by
  obtain ⟨h1, h2, h3, h4, h5⟩ := h
  refine ⟨by simp [h1], by simp [h1], by simp [h1]; omega, h4, h5.imp id fun ⟨g, tail, a, b, c⟩ => ⟨g, tail, ?_, b, c⟩⟩
  show (if _ then _ else _) = _
  split
  · exact a
  · rw [a, Nat.zero_mul]; rfl
end
end Go.Hal
namespace Go.Hal
open Go Go.RowKit Go.Proofs
end Go.Hal
namespace Go.Hal
open Go Go.RowKit Go.Proofs
end Go.Hal
namespace Go.Hal
open Go Go.RowKit Go.Proofs
theorem idxPin_se {s : Sl} {l : List Pin} {f : Value} {p : Pin → Bool} {S : Nat → Prop} {w : World} {R : Int → World → Prop} (hs : SlR pinE w S s l) (hf : Tells f (fun x => .agg #[.string x.name, .int .i64 x.v.ma, .int .i64 x.v.mi, .int .i64 x.v.pa]) p l w)
    (hR : ∀ w', Ext w w' → R (idxI p l) w') : SE.slices_IndexFunc_apiPinapiPin s f w R := by
  unfold SE.slices_IndexFunc_apiPinapiPin
  have hl := hs.len
  refine loop1.up hs.max (fun i w' => Ext w w' ∧ (l.take i).any p = false) ⟨Ext.refl _, rfl⟩ fun i w1 nxt hi ⟨x1, hI⟩ hn => ⟨fun hlt => ?_, fun hge => ?_⟩
  · have hlt' : i < l.length := by omega
    obtain ⟨ad, cs, ha, _, ⟨rfl, _⟩, hc⟩ := hs.el hlt'
    refine ⟨ad, ⟨ha, by omega, hlt⟩, _, _, _, _, hc _ (by (repeat (first | assumption | exact Ext.refl _ | refine Ext.trans ?_ (by assumption)))), hf _ (List.getElem_mem hlt') _ _ x1 fun w2 x2 => ⟨_, rfl, fun h => ?_, fun h => ?_⟩⟩
    · rw [← idxI_hit hlt' hI h]; exact hR _ (by (repeat (first | assumption | exact Ext.refl _ | refine Ext.trans ?_ (by assumption))))
    · exact hn hlt' _ ⟨by (repeat (first | assumption | exact Ext.refl _ | refine Ext.trans ?_ (by assumption))), by rw [take_any_succ hlt' hI]; exact h⟩
  · have : i = l.length := by omega
    rw [this, List.take_length] at hI
    rw [← idxI_none hI]; exact hR _ (by (repeat (first | assumption | exact Ext.refl _ | refine Ext.trans ?_ (by assumption))))
theorem conPin_se {s : Sl} {l : List Pin} {f : Value} {p : Pin → Bool} {S : Nat → Prop} {w : World} {R : Bool → World → Prop} (hs : SlR pinE w S s l) (hf : Tells f (fun x => .agg #[.string x.name, .int .i64 x.v.ma, .int .i64 x.v.mi, .int .i64 x.v.pa]) p l w)
    (hR : ∀ w', Ext w w' → R (l.any p) w') : SE.slices_ContainsFunc_apiPinapiPin s f w R := by
  unfold SE.slices_ContainsFunc_apiPinapiPin
  exact SE.slices_IndexFunc_apiPinapiPin.go (idxPin_se hs hf fun w' hx => ⟨_, rfl, by rw [idxI_any]; exact hR _ hx⟩)
end Go.Hal
namespace Go.Hal
open Go Go.RowKit Go.Proofs
namespace StV
abbrev El : Type := Ver × Nat
def cells (x : Ver) : List Value := x.c
def fc (x : El) : List Value := cells x.1
def CmpOk (cmp : Value) (c : Ver → Ver → Int) (g : Nat) (w0 : World) : Prop :=
  ∀ (x y : Ver) (w : World) (k : Value → World → Prop), But g w0 w → (∀ w', Ext w w' → k (.int .i64 (c x y)) w') → callV Tryz.prog cmp [.agg (cells x).toArray, .agg (cells y).toArray] w k
section
variable {cmp : Value} {c : Ver → Ver → Int} {g : Nat}
end
end StV
end Go.Hal
namespace Go.Hal
open Go Go.RowKit Go.Proofs Go.Shelf
theorem _root_.Go.RowKit.Below.keepS {lo : Nat} {w w' : World} (h : Below lo w w') {S : Nat → Prop} (hS : ∀ b, S b → b < lo) : Keep S w w' := fun b hb _ => h.block b (hS b hb)
theorem BoxAt.below {lo : Nat} {w w' : World} {a : Addr} {cs : List Value} (hb : BoxAt w a cs) (h : Below lo w w') (hl : a.block < lo) : BoxAt w' a cs := hb.keep (S := fun b => b < lo) hl (h.keepS fun _ h => h)
end Go.Hal
namespace Go.Hal
open Go Go.RowKit Go.Proofs Go.Shelf
structure PackC where
  name : ByteArray
  v : Ver
  d : Sl
  e : Sl
  o : Sl
instance : Inhabited PackC := ⟨⟨⟨#[]⟩, ⟨0, 0, 0⟩, Sl.nil, Sl.nil, Sl.nil⟩⟩
def PackC.c (x : PackC) : List Value := [.string x.name, .int .i64 x.v.ma, .int .i64 x.v.mi, .int .i64 x.v.pa, x.d.v, x.e.v, x.o.v]
def cPC (a b : PackC) : Int := or2 (cmpS a.name b.name) (b.v.cmp a.v)
end Go.Hal
namespace Go.Hal
open Go Go.RowKit Go.Proofs
structure RefR (w : World) (S : Nat → Prop) (q : Addr) (L : List Pack) : Prop where
  at_ : ∃ s, BoxAt w q [Sl.v s] ∧ SlR packE w S s L
  free : ¬ S q.block
  old : Old S w
  good : GoodL L
theorem RefR.stay {w w' : World} {S : Nat → Prop} {q : Addr} {L : List Pack} (h : RefR w S q L) (hsz : w.heap.size ≤ w'.heap.size) (hk : ∀ b, b < w.heap.size → (S b ∨ b = q.block) → w'.heap[b]? = w.heap[b]?) : RefR w' S q L := by
  obtain ⟨s, a, b⟩ := h.at_
  exact ⟨⟨s, a.keep (S := fun b => b = q.block) rfl fun b hb hl => hk b hl (.inr hb), b.keep fun b hb hl => hk b hl (.inl hb)⟩, h.free, h.old.ext hsz, h.good⟩
end Go.Hal
namespace Go.Hal
open Go Go.RowKit Go.Proofs Go.Shelf
def cW (a b : Want) : Int := cmpS a.name b.name
def wantOf (kind : Int) (over : List Dep) (d : Dep) : Want := ⟨d.name, kind, overOf over d.name d.range⟩
theorem wantEl {w : World} {S : Nat → Prop} {s : Sl} {l : List Want} (h : SlR wantE w S s l) {n : Nat} (hn : n < l.length) :
    ∃ ad t, s.a = some ad ∧ S ad.block ∧ Str l[n].name ∧ SlR spanE w S t l[n].range ∧ ∀ w', Ext w w' → ldc w' (ad.add (n * 3)) [.string l[n].name, .int .i64 l[n].kind, t.v] := by
  obtain ⟨ad, cs, h1, h2, ⟨h0, t, rfl, h5⟩, h4⟩ := h.el hn
  exact ⟨ad, t, h1, h2, h0, h5, h4⟩
theorem apWant : ApT Tryz.prog 75 88 3 48 := apT_mk (z := .agg #[.string ⟨#[]⟩, .int .i64 0, .slice none 0 0]) (by kernel_rfl) (by kernel_rfl) rfl (by decide)
theorem stSort_len {α : Type} {c : α → α → Int} (l : List α) : (stSort c l).length = l.length := (stSort_perm l).length_eq
end Go.Hal
namespace Go.Hal
open Go Go.RowKit Go.Proofs Go.Shelf
def wantsOf (over a b : List Dep) : List Want := stSort cW (a.map (wantOf 1 over) ++ b.map (wantOf 2 over))
def rootMust (m : Mani) (dev : Bool) : List Dep := if dev then m.deps ++ m.dev else m.deps
end Go.Hal
namespace Go.Hal
open Go Go.RowKit Go.Proofs Go.Shelf
theorem wantsRange_se {S : Nat → Prop} {mD mDev mOpt mOv dR : Sl} {dN : ByteArray} {over : List Dep} {dr : List Span} {w : World} {R : Sl → World → Prop} (hS : Old S w) (hO : SlR depE w S mOv over) (hd : SlR spanE w S dR dr)
    (hR : ∀ t w', Ext w w' → SlP spanE w' (fun b => w.heap.size ≤ b ∧ b < w'.heap.size) t (overOf over dN dr) → R t w') : SE.wants_Range mD mDev mOpt mOv dN dR w R := by
  unfold SE.wants_Range
  refine newS.intro fun a w1 x1 ha _ _ => newS.intro fun a1 w2 x2 ha1 _ _ => ?_
  have x02 := x1.trans x2
  have hl := hO.len
  refine ⟨mOv, ha.at1 x2 rfl, loop1.up hO.max (fun i w' => Ext w2 w' ∧ ∀ k < i, ∀ e : Dep, over[k]? = some e → ¬ e.name = dN) ⟨Ext.refl _, fun k hk => by omega⟩ fun i w3 nxt hi ⟨x3, hI⟩ hn => ⟨fun hlt => ?_, fun hge => ?_⟩⟩
  · have hlt' : i < over.length := by omega
    have x03 := x02.trans x3
    obtain ⟨ad, t, hsa, _, hnm, hr, hc⟩ := depEl hO hlt'
    refine ⟨ad, ⟨hsa, by omega, hlt⟩, _, t, hc _ x03, newS.intro fun a5 w4 x4 hb4 ha4 _ => stw0.intro hb4 (by simp) fun w5 b5 _ hb5 => ⟨_, hb5.ldc.pre rfl, dN, (ha1.ext x3).at0 (b5.ext x4 (by omega)) rfl, fun he => ?_, fun hne => ?_⟩⟩
    · have x35 : Ext w3 w5 := b5.ext x4 (by omega)
      have x05 := x03.trans x35
      refine ⟨t, hb5.at1 (k := 1) (Ext.refl _) rfl, SE.slices_Clone_apiSpanapiSpan.go (cloneSpan_se (hS.ext x05.size) (hr.ext x05) fun u w6 x6 hu => ⟨_, rfl, ?_⟩)⟩
      refine hR _ _ (x05.trans x6) ?_
      rw [overOf_hit (List.getElem?_eq_getElem hlt') he hI]
      have := x05.size
      exact hu.mono fun b hb => ⟨by omega, hb.2⟩
    · have x35 : Ext w3 w5 := b5.ext x4 (by omega)
      refine hn hlt' _ ⟨x3.trans x35, fun k hk e he => ?_⟩
      rcases Nat.lt_succ_iff_lt_or_eq.1 hk with h | rfl
      · exact hI k h e he
      · rw [List.getElem?_eq_getElem hlt', Option.some.injEq] at he
        subst he; exact hne
  · have x03 := x02.trans x3
    refine ⟨dR, (ha1.ext x3).at1 (k := 1) (Ext.refl _) rfl, SE.slices_Clone_apiSpanapiSpan.go (cloneSpan_se (hS.ext x03.size) (hd.ext x03) fun u w6 x6 hu => ⟨_, rfl, ?_⟩)⟩
    refine hR _ _ (x03.trans x6) ?_
    rw [overOf_miss fun k e he => hI k (by have := (List.getElem?_eq_some_iff.1 he).1; omega) e he]
    have := x03.size
    exact hu.mono fun b hb => ⟨by omega, hb.2⟩
theorem SlP.clip {α : Type} {E : Enc α} {w : World} {S : Nat → Prop} {s : Sl} {l : List α} {k : Nat} (h : SlP E w S s l) : SlP E w S (Sl.mk (if (s.len : Int).toNat = 0 then s.a else s.a.map (·.add (0 * k))) ((s.len : Int).toNat - 0) ((s.len : Int).toNat - 0)) l := by
  have ea : (if (s.len : Int).toNat = 0 then s.a else s.a.map (·.add (0 * k))) = s.a := by
    split
    · rfl
    · rw [Nat.zero_mul]; cases s.a <;> rfl
  rw [ea]
  obtain ⟨⟨h1, h2, h3, h4, h5⟩, h6⟩ := h
  exact ⟨⟨by simp [h1], by simp [h1], by simp [h1]; omega, h4, h5⟩, h6⟩
theorem clip_ok {s : Sl} (h : s.len ≤ s.cap) : (0 : Int) ≤ 0 ∧ 0 ≤ (s.len : Int) ∧ (s.len : Int) ≤ (s.len : Int) ∧ (s.len : Int) ≤ (s.cap : Int) := ⟨by omega, by omega, by omega, by omega⟩
theorem wantsPeers_se {S : Nat → Prop} {pN : ByteArray} {v1 v2 v3 : Int} {pD pP pO mD mDev mOpt mOv : Sl} {over peers : List Dep} {w : World} {R : Sl → World → Prop} (hS : Old S w) (hO : SlR depE w S mOv over) (hp : SlR depE w S pP peers)
    (hR : ∀ t w', Ext w w' → SlP depP w' (fun b => w.heap.size ≤ b ∧ b < w'.heap.size) t (peersOf over peers) → R t w') : SE.wants_Peers pN v1 v2 v3 pD pP pO mD mDev mOpt mOv w R := by
  unfold SE.wants_Peers
  refine newS.intro fun a w1 x1 ha _ _ => newS.intro fun a1 w2 x2 ha1 _ _ => ?_
  have x02 := x1.trans x2
  have hl := hp.len
  have h4 := hp.2.2.2.1
  have e40 : depE.bytes = 40 := rfl
  have e41 : depP.bytes = 40 := rfl
  refine ⟨pP, ha.at1 x2 rfl, loop2.up hp.max (fun out i w' => Ext w2 w' ∧ ∃ Q, OwnS depP 81 w' w2.heap.size Q out (peersOf over (peers.take i)) ∧ ∀ b, Q b → w2.heap.size ≤ b) ⟨Ext.refl _, _, OwnS.zero _, fun _ h => h.elim⟩ fun out i w3 nxt hi ⟨x3, Q, own, hQ⟩ hn => ⟨fun hlt => ?_, fun hge => ?_⟩⟩
  · have hlt' : i < peers.length := by omega
    have x03 := x02.trans x3
    obtain ⟨ad, t, hsa, _, hnm, hr, hc⟩ := depEl hp hlt'
    refine ⟨ad, ⟨hsa, by omega, hlt⟩, _, t, hc _ x03, newS.intro fun a5 w4 x4 hb4 ha4 _ => stw0.intro hb4 (by simp) fun w5 b5 _ hb5 => bnd.drew fun w6 x6 => ?_⟩
    have x35 : Ext w3 w5 := b5.ext x4 (by omega)
    have x36 := x35.trans x6
    have x06 := x03.trans x36
    refine ⟨_, hb5.at0 x6 rfl, mD, mDev, mOpt, mOv, (ha1.ext x3).at0 (r := []) x36 rfl, _, t, hb5.at0 (r := []) x6 rfl, callX.intro (SE.wants_Range.go (wantsRange_se (hS.ext x06.size) (hO.ext x06) (hr.ext x06) fun u w7 x7 hu => ⟨x7, _, rfl, newS.intro fun a7 w8 x8 hb8 ha8 _ => ?_⟩))⟩
    have x38 := x36.trans (x7.trans x8)
    have s6 := x06.size; have s36 := x36.size; have s3 := x3.size; have s8 := x8.size; have s7 := x7.size
    have hu' := (hu.ext x8).mono (S' := fun b => w6.heap.size ≤ b ∧ b < w8.heap.size) fun b hb => ⟨hb.1, by omega⟩
    have hlen : (peersOf over (peers.take i)).length = i := by simp [peersOf]; omega
    refine (own.ext x38).push apDep (x3.trans x38).size (x := ⟨peers[i].name, overOf over peers[i].name peers[i].range⟩) (S' := fun b => w6.heap.size ≤ b ∧ b < w8.heap.size) ⟨hnm, u, rfl, hu'⟩ hb8.ldc (fun b hb => hb.2) (fun ad ha hb => ?_) (by rw [hlen]; rw [e40] at h4; rw [e41]; omega) (by rw [hlen]; have := hp.max; omega) fun r w9 own9 bel _ _ => hn hlt' _ _ ⟨(x3.trans x38).trans' bel, fun b => Q b ∨ (w6.heap.size ≤ b ∧ b < w8.heap.size), ?_, fun b hb => ?_⟩
    · have := (own.block ha).2.1; omega
    · have e : peersOf over (peers.take (i + 1)) = peersOf over (peers.take i) ++ [⟨peers[i].name, overOf over peers[i].name peers[i].range⟩] := by
        unfold peersOf; rw [List.take_succ_eq_append_getElem hlt', List.map_append]; rfl
      rw [e]; exact own9
    · rcases hb with hb | hb
      · exact hQ b hb
      · omega
  · have : i = peers.length := by omega
    rw [this, List.take_length] at own
    have hl2 : (peersOf over peers).length = peers.length := by simp [peersOf]
    have hrd := own.readP (by rw [hl2, e41]; rw [e40] at h4; exact h4) (by rw [hl2]; exact hp.max)
    refine SE.slices_Clip_apiDepapiDep.go ⟨clip_ok (by have := hrd.1.1; have := hrd.1.2.1; omega), _, rfl, hR _ _ (x02.trans x3) (hrd.clip.mono fun b hb => ?_)⟩
    have := x02.size
    rcases hb with hb | ⟨ad, ha, rfl⟩
    · have := hQ b hb; have := own.lt b hb; exact ⟨by omega, by omega⟩
    · have := own.block ha; exact ⟨by omega, this.2.1⟩
end Go.Hal
namespace Go.Hal
structure WantC where
  name : ByteArray
  kind : Int
  range : Sl
end Go.Hal
namespace Go.Hal
open Go Go.RowKit Go.Proofs
namespace StW
abbrev El : Type := WantC × Nat
def cells (x : WantC) : List Value := [.string x.name, .int .i64 x.kind, x.range.v]
def fc (x : El) : List Value := cells x.1
theorem fc_len (x : El) : (fc x).length = 3 := rfl
def CmpOk (cmp : Value) (c : WantC → WantC → Int) (g : Nat) (w0 : World) : Prop :=
  ∀ (x y : WantC) (w : World) (k : Value → World → Prop), But g w0 w → (∀ w', Ext w w' → k (.int .i64 (c x y)) w') → callV Tryz.prog cmp [.agg (cells x).toArray, .agg (cells y).toArray] w k
theorem CmpOk.but {cmp : Value} {c : WantC → WantC → Int} {g : Nat} {w0 w1 : World} (h : CmpOk cmp c g w0) (hb : But g w0 w1) : CmpOk cmp c g w1 := fun x y w k hw hk => h x y w k (hb.trans hw) hk
section
variable {cmp : Value} {c : WantC → WantC → Int} {g : Nat}
set_option maxHeartbeats 2000000 in
theorem insertion_se (hO : Ord3 c) {data : Sl} {w : World} {R : World → Prop} {A M0 B : List El} {tail : List Value} {a b : Int} (hc : CmpOk cmp c g w) (hd : data.a = some ⟨g, 0, none⟩) (hlen : data.len = (A ++ M0 ++ B).length) (hbig : data.len < 4611686018427387904)
    (hB : RowB fc w g (A ++ M0 ++ B) tail) (ha : a = (A.length : Int)) (hb : b = ((A.length + M0.length : Nat) : Int)) (hM : M0.Pairwise fun x y => x.2 < y.2)
    (hR : ∀ w' M, But g w w' → M.Perm M0 → M.Pairwise (Ah c) → RowB fc w' g (A ++ M ++ B) tail → R w') : SE.slices_insertionSortCmpFunc_apiWant data a b cmp w R := by
  unfold SE.slices_insertionSortCmpFunc_apiWant
  subst ha hb
  simp only [List.length_append] at hlen
  rw [wrapI_eq (by omega) (by omega)]
  by_cases h0 : M0 = []
  · subst h0
    refine ⟨fun i w' => w' = w ∧ i = (A.length : Int) + 1, fun _ _ => 0, ⟨rfl, rfl⟩, ?_⟩
    rintro i w' ⟨rfl, rfl⟩
    refine ⟨fun h => ?_, fun _ => hR _ [] ⟨Nat.le_refl _, rfl, rfl, rfl, fun _ _ _ => rfl⟩ (List.Perm.refl _) .nil hB⟩
    simp at h; omega
  have hpos : 0 < M0.length := List.length_pos_iff.2 h0
  refine ⟨fun i w' => ∃ (n : Nat) (M : List El), i = ((A.length + n : Nat) : Int) ∧ 1 ≤ n ∧ n ≤ M0.length ∧ But g w w' ∧ M.Perm (M0.take n) ∧ M.Pairwise (Ah c) ∧ RowB fc w' g (A ++ M ++ (M0.drop n ++ B)) tail, fun i _ => (A.length + M0.length) - i.toNat, ⟨1, M0.take 1, by omega, Nat.le_refl _, hpos, ⟨Nat.le_refl _, rfl, rfl, rfl, fun _ _ _ => rfl⟩, List.Perm.refl _, ?_, ?_⟩, ?_⟩
  · cases M0 with
    | nil => exact .nil
    | cons x r => exact List.pairwise_singleton _ _
  · rw [← List.append_assoc, List.append_assoc A, List.take_append_drop]; exact hB
  rintro i w1 ⟨n, M, rfl, hn1, hn2, b1, hp, hs, hB1⟩
  have hMl : M.length = n := by rw [hp.length_eq, List.length_take]; omega
  refine ⟨fun hlt => ?_, fun hge => ?_⟩
  · have hn3 : n < M0.length := by omega
    have hdrop : M0.drop n = M0[n] :: M0.drop (n + 1) := List.drop_eq_getElem_cons hn3
    have hx : ∀ y ∈ M, y.2 < M0[n].2 := fun y hy => by
      have hy' := hp.mem_iff.1 hy
      obtain ⟨j, hj, rfl⟩ := List.mem_iff_getElem.1 hy'
      rw [List.length_take] at hj
      rw [List.getElem_take]
      exact List.pairwise_iff_getElem.1 hM j n (by omega) hn3 (by omega)
    rw [hdrop] at hB1
    generalize hX : M0[n] = x at *
    refine ⟨fun j w' => ∃ (M1 M2 : List El), j = ((A.length + M1.length : Nat) : Int) ∧ M1 ++ M2 = M ∧ (∀ y ∈ M2, Ah c x y) ∧ But g w w' ∧ RowB fc w' g (A ++ M1 ++ x :: (M2 ++ (M0.drop (n + 1) ++ B))) tail, fun j _ => j.toNat, ⟨M, [], by rw [hMl], by simp, by simp, b1, by simpa using hB1⟩, ?_⟩
    rintro j w2 ⟨M1, M2, rfl, hM12, hx2, b2, hB2⟩
    refine bnd.drew fun w3 x3 => bound ?_
    have hB3 := hB2.ext x3
    have b3 : But g w w3 := b2.ext' x3
    have hl12 : M1.length + M2.length = n := by rw [← hMl, ← hM12, List.length_append]
    have fin : ∀ w' w0, But g w w' → RowB fc w' g (A ++ M1 ++ x :: (M2 ++ (M0.drop (n + 1) ++ B))) tail → (∀ y ∈ M1, Ah c y x) → w0 = w' →
        (∃ (n' : Nat) (M' : List El), wrapI (((A.length + n : Nat) : Int) + 1) = ((A.length + n' : Nat) : Int) ∧ 1 ≤ n' ∧ n' ≤ M0.length ∧ But g w w0 ∧ M'.Perm (M0.take n') ∧ M'.Pairwise (Ah c) ∧ RowB fc w0 g (A ++ M' ++ (M0.drop n' ++ B)) tail) ∧ (A.length + M0.length) - (wrapI (((A.length + n : Nat) : Int) + 1)).toNat < (A.length + M0.length) - (((A.length + n : Nat) : Int)).toNat := fun w' w0 b' hB' h1 e => by
      subst e
      rw [wrapI_eq (by omega) (by omega)]
      refine ⟨⟨n + 1, M1 ++ x :: M2, by omega, by omega, by omega, b', ?_, ?_, by simpa using hB'⟩, by omega⟩
      · rw [List.take_succ_eq_append_getElem hn3, hX]
        refine (List.perm_middle).trans ?_
        rw [hM12]
        exact (hp.cons x).trans (List.perm_append_singleton x _).symm
      · rw [← hM12] at hs
        obtain ⟨p1, p2, p3⟩ := List.pairwise_append.1 hs
        refine List.pairwise_append.2 ⟨p1, List.pairwise_cons.2 ⟨hx2, p2⟩, fun y hy z hz => ?_⟩
        rcases List.mem_cons.1 hz with rfl | hz
        · exact h1 y hy
        · exact p3 y hy z hz
    rcases List.eq_nil_or_concat M1 with rfl | ⟨M1', y, rfl⟩
    · have hf : decide ((A.length : Int) < ((A.length + ([] : List El).length : Nat) : Int)) = false := by simp
      rw [hf]
      refine ⟨⟨g, 0, none⟩, (fun h => by cases h), ⟨#[]⟩, 0, Sl.nil, (fun h => by cases h), ⟨g, 0, none⟩, (fun h => by cases h), ⟨#[]⟩, 0, Sl.nil, (fun h => by cases h), (fun h => by cases h), fun _ => ⟨(fun h => by cases h), fun _ => ?_⟩⟩
      exact fin w3 w3 b3 hB3 (by simp) rfl
    · simp only [List.concat_eq_append] at *
      have hj : decide ((A.length : Int) < ((A.length + (M1' ++ [y]).length : Nat) : Int)) = true := by simp; omega
      rw [hj]
      have hlM : (M1' ++ [y]).length = M1'.length + 1 := by simp
      have e1 : wrapI (((A.length + (M1' ++ [y]).length : Nat) : Int) - 1) = ((A.length + M1'.length : Nat) : Int) := by rw [hlM, wrapI_eq (by omega) (by omega)]; omega
      rw [e1]
      have hl2 : data.len = A.length + (n + 1 + (M0.drop (n + 1) ++ B).length) := by
        rw [hlen, List.length_append, List.length_drop]; omega
      have eB : A ++ (M1' ++ [y]) ++ x :: (M2 ++ (M0.drop (n + 1) ++ B)) = (A ++ M1') ++ y :: x :: (M2 ++ (M0.drop (n + 1) ++ B)) := by simp
      rw [eB] at hB3
      have ey : (A ++ M1').length = A.length + M1'.length := List.length_append
      have gy := hB3.ld' fc_len (get_at' ey)
      have gx := hB3.ld' fc_len (get_at1' (n := A.length + (M1' ++ [y]).length) (by rw [hlM, ey]; omega))
      have hym : y ∈ M := by rw [← hM12]; simp
      have hright := Ah.right hO (hx y hym)
      refine ⟨_, fun _ => ⟨hd, by omega, by omega⟩, _, _, _, fun _ => gx, _, fun _ => ⟨hd, by omega, by omega⟩, _, _, _, fun _ => gy, fun _ => ?_, (fun h => by cases h)⟩
      refine hc x.1 y.1 w3 _ b3 fun w4 x4 => ⟨_, rfl, fun h => ?_, fun h => ?_⟩
      · simp only [Bool.true_and, decide_eq_true_eq] at h
        refine bnd.drew fun w5 x5 => ?_
        have x35 := x4.trans x5
        have hB5 := hB3.ext x35
        have gy5 := hB5.ld' fc_len (get_at' ey)
        have gx5 := hB5.ld' fc_len (get_at1' (n := A.length + (M1' ++ [y]).length) (by rw [hlM, ey]; omega))
        refine ⟨_, ⟨hd, by omega, by omega⟩, _, _, _, gy5, _, ⟨hd, by omega, by omega⟩, _, _, _, gx5, _, ⟨hd, by omega, by omega⟩, hB5.st fc_len (i := A.length + (M1' ++ [y]).length) (x := y) (by simp only [List.length_append, List.length_cons, List.length_nil]; omega) fun w6 b6 hB6 => ⟨_, ⟨hd, by omega, by omega⟩, hB6.st fc_len (i := A.length + M1'.length) (x := x) (by simp only [List.length_set, List.length_append, List.length_cons, List.length_nil]; omega) fun w7 b7 hB7 => ?_⟩⟩
        have e2 : ((((A ++ M1') ++ y :: x :: (M2 ++ (M0.drop (n + 1) ++ B))).set (A.length + (M1' ++ [y]).length) y).set (A.length + M1'.length) x) = (A ++ M1') ++ x :: y :: (M2 ++ (M0.drop (n + 1) ++ B)) := by
          have := swap_adj (A ++ M1') (M2 ++ (M0.drop (n + 1) ++ B)) y x
          rw [ey] at this
          rw [hlM, ← Nat.add_assoc]; exact this
        rw [e2] at hB7
        refine ⟨⟨M1', y :: M2, rfl, by rw [← hM12]; simp, fun z hz => ?_, ((b3.ext' x35).trans b6).trans b7, by simpa using hB7⟩, by rw [hlM]; omega⟩
        rcases List.mem_cons.1 hz with rfl | hz
        · exact hright.1 h
        · exact hx2 z hz
      · simp only [Bool.true_and, decide_eq_false_iff_not] at h
        refine fin w4 w4 (b3.ext' x4) (by rw [eB]; exact hB3.ext x4) (fun z hz => ?_) rfl
        have hyx := hright.2 h
        rcases List.mem_append.1 hz with hz | hz
        · refine Ah.trans hO ?_ hyx
          rw [← hM12] at hs
          have := (List.pairwise_append.1 (List.pairwise_append.1 hs).1).2.2 z hz y (by simp)
          exact this
        · simp at hz; subst hz; exact hyx
  · have hn : n = M0.length := by omega
    subst hn
    rw [List.take_length] at hp
    rw [List.drop_length, List.nil_append] at hB1
    exact hR w1 M b1 hp hs hB1
set_option maxHeartbeats 1000000 in
theorem swapRange_se {data : Sl} {w : World} {R : World → Prop} {P X M Y Q : List El} {tail : List Value} {a b n : Int} (hd : data.a = some ⟨g, 0, none⟩) (hlen : data.len = (P ++ X ++ M ++ Y ++ Q).length) (hbig : data.len < 4611686018427387904)
    (hB : RowB fc w g (P ++ X ++ M ++ Y ++ Q) tail) (ha : a = (P.length : Int)) (hb : b = ((P.length + X.length + M.length : Nat) : Int)) (hn : n = (X.length : Int)) (hXY : Y.length = X.length)
    (hR : ∀ w', But g w w' → RowB fc w' g (P ++ Y ++ M ++ X ++ Q) tail → R w') : SE.slices_swapRangeCmpFunc_apiWant data a b n cmp w R := by
  unfold SE.slices_swapRangeCmpFunc_apiWant
  subst ha hb hn
  simp only [List.length_append] at hlen
  refine loop1.up (N := X.length) (by rw [maxLen_eq]; omega) (fun i w' => But g w w' ∧ RowB fc w' g (P ++ (Y.take i ++ X.drop i) ++ M ++ (X.take i ++ Y.drop i) ++ Q) tail) ⟨⟨Nat.le_refl _, rfl, rfl, rfl, fun _ _ _ => rfl⟩, by simpa using hB⟩ fun i w1 nxt hi ⟨b1, hB1⟩ hnx => ⟨fun hlt => ?_, fun hge => ?_⟩
  · have hi' : i < X.length := by omega
    have hiY : i < Y.length := by omega
    refine bnd.drew fun w2 x2 => ?_
    rw [wrapI_eq (x := ((P.length + X.length + M.length : Nat) : Int) + (i : Int)) (by omega) (by omega), wrapI_eq (x := (P.length : Int) + (i : Int)) (by omega) (by omega)]
    rw [show ((P.length + X.length + M.length : Nat) : Int) + (i : Int) = ((P.length + X.length + M.length + i : Nat) : Int) by omega, show (P.length : Int) + (i : Int) = ((P.length + i : Nat) : Int) by omega]
    have hB2 := hB1.ext x2
    have eL : P ++ (Y.take i ++ X.drop i) ++ M ++ (X.take i ++ Y.drop i) ++ Q = (P ++ Y.take i) ++ X[i] :: ((X.drop (i + 1) ++ M ++ X.take i) ++ Y[i] :: (Y.drop (i + 1) ++ Q)) := by
      rw [List.drop_eq_getElem_cons hi', List.drop_eq_getElem_cons hiY]; simp only [List.append_assoc, List.cons_append]
    rw [eL] at hB2
    have l1 : (P ++ Y.take i).length = P.length + i := by simp; omega
    have l2 : (X.drop (i + 1) ++ M ++ X.take i).length + 1 = X.length + M.length := by simp; omega
    have gx := hB2.ld' fc_len (get_at' l1)
    have hgy : ((P ++ Y.take i) ++ X[i] :: ((X.drop (i + 1) ++ M ++ X.take i) ++ Y[i] :: (Y.drop (i + 1) ++ Q)))[P.length + X.length + M.length + i]? = some Y[i] := by
      rw [← List.cons_append, ← List.append_assoc]
      refine get_at' ?_
      simp only [List.length_append, List.length_cons] at l1 l2 ⊢; omega
    have gy := hB2.ld' fc_len hgy
    have b2 := b1.ext' x2
    have hln : ((P ++ Y.take i) ++ X[i] :: ((X.drop (i + 1) ++ M ++ X.take i) ++ Y[i] :: (Y.drop (i + 1) ++ Q))).length = data.len := by
      rw [← eL, hlen]; simp; omega
    refine ⟨_, ⟨hd, by omega, by omega⟩, _, _, _, gy, _, ⟨hd, by omega, by omega⟩, _, _, _, gx, _, ⟨hd, by omega, by omega⟩, hB2.st fc_len (i := P.length + i) (x := Y[i]) (by rw [hln]; omega) fun w3 b3 hB3 => ⟨_, ⟨hd, by omega, by omega⟩, hB3.st fc_len (i := P.length + X.length + M.length + i) (x := X[i]) (by rw [List.length_set, hln]; omega) fun w4 b4 hB4 => hnx hi' _ ⟨(b2.trans b3).trans b4, ?_⟩⟩⟩
    have e := swap_far (P ++ Y.take i) (X.drop (i + 1) ++ M ++ X.take i) (Y.drop (i + 1) ++ Q) X[i] Y[i]
    rw [l1, show P.length + i + 1 + (X.drop (i + 1) ++ M ++ X.take i).length = P.length + X.length + M.length + i by omega] at e
    rw [e] at hB4
    have e2 : P ++ (Y.take (i + 1) ++ X.drop (i + 1)) ++ M ++ (X.take (i + 1) ++ Y.drop (i + 1)) ++ Q = (P ++ Y.take i) ++ Y[i] :: ((X.drop (i + 1) ++ M ++ X.take i) ++ X[i] :: (Y.drop (i + 1) ++ Q)) := by
      rw [List.take_succ_eq_append_getElem hi', List.take_succ_eq_append_getElem hiY]; simp only [List.append_assoc, List.cons_append, List.nil_append]
    rw [e2]; exact hB4
  · have : i = X.length := by omega
    subst this
    rw [List.take_of_length_le (by omega), List.drop_length, List.append_nil, List.take_length, List.drop_eq_nil_of_le (by omega), List.append_nil] at hB1
    exact hR w1 b1 hB1
set_option maxHeartbeats 1000000 in
theorem rotate_se {data : Sl} {w : World} {R : World → Prop} {P X Y Q : List El} {tail : List Value} {a m b : Int} (hd : data.a = some ⟨g, 0, none⟩) (hlen : data.len = (P ++ X ++ Y ++ Q).length) (hbig : data.len < 4611686018427387904)
    (hB : RowB fc w g (P ++ X ++ Y ++ Q) tail) (ha : a = (P.length : Int)) (hm : m = ((P.length + X.length : Nat) : Int)) (hb : b = ((P.length + X.length + Y.length : Nat) : Int)) (hX : 0 < X.length) (hY : 0 < Y.length)
    (hR : ∀ w', But g w w' → RowB fc w' g (P ++ Y ++ X ++ Q) tail → R w') : SE.slices_rotateCmpFunc_apiWant data a m b cmp w R := by
  unfold SE.slices_rotateCmpFunc_apiWant
  subst ha hb hm
  simp only [List.length_append] at hlen
  refine ⟨fun i j w' => ∃ P' X' Y' Q' : List El, i = (X'.length : Int) ∧ j = (Y'.length : Int) ∧ P'.length + X'.length = P.length + X.length ∧ 0 < X'.length ∧ 0 < Y'.length ∧ data.len = P'.length + X'.length + Y'.length + Q'.length ∧ P' ++ Y' ++ X' ++ Q' = P ++ Y ++ X ++ Q ∧ But g w w' ∧ RowB fc w' g (P' ++ X' ++ Y' ++ Q') tail,
    fun i j _ => i.toNat + j.toNat, ⟨P, X, Y, Q, by rw [wrapI_eq (by omega) (by omega)]; omega, by rw [wrapI_eq (by omega) (by omega)]; omega, rfl, hX, hY, hlen, rfl, ⟨Nat.le_refl _, rfl, rfl, rfl, fun _ _ _ => rfl⟩, hB⟩, ?_⟩
  rintro i j w1 ⟨P', X', Y', Q', rfl, rfl, hm, hX', hY', hl, hg, b1, hB1⟩
  have wi : wrapI (((P.length + X.length : Nat) : Int) - (X'.length : Int)) = (P'.length : Int) := by rw [wrapI_eq (by omega) (by omega)]; omega
  rw [wi]
  refine ⟨fun hne => ⟨fun hlt => ?_, fun hge => ?_⟩, fun heq => ?_⟩
  · have hXe : X' = X'.take Y'.length ++ X'.drop Y'.length := (List.take_append_drop _ _).symm
    have l1 : (X'.take Y'.length).length = Y'.length := by rw [List.length_take]; omega
    have l2 : (X'.drop Y'.length).length = X'.length - Y'.length := List.length_drop
    generalize X'.take Y'.length = X1 at *
    generalize X'.drop Y'.length = X2 at *
    subst hXe
    rw [List.length_append] at *
    refine SE.slices_swapRangeCmpFunc_apiWant.go (swapRange_se (P := P') (X := X1) (M := X2) (Y := Y') (Q := Q') hd (by simp only [List.length_append]; omega) hbig (by simpa using hB1) rfl (by omega) (by omega) (by omega) fun w2 b2 hB2 => ⟨rfl, ?_⟩)
    rw [wrapI_eq (by omega) (by omega)]
    refine ⟨⟨P' ++ Y', X2, X1, Q', by omega, by omega, by rw [List.length_append]; omega, by omega, by omega, by rw [List.length_append]; omega, by rw [← hg]; simp, b1.trans b2, by simpa using hB2⟩, by show Int.toNat _ + Int.toNat _ < Int.toNat _ + Int.toNat _; omega⟩
  · have hlt : X'.length < Y'.length := by
      rcases Nat.lt_trichotomy X'.length Y'.length with h | h | h
      · exact h
      · exact absurd (by rw [h]) hne
      · omega
    have hYe : Y' = Y'.take (Y'.length - X'.length) ++ Y'.drop (Y'.length - X'.length) := (List.take_append_drop _ _).symm
    have l1 : (Y'.take (Y'.length - X'.length)).length = Y'.length - X'.length := by rw [List.length_take]; omega
    have l2 : (Y'.drop (Y'.length - X'.length)).length = X'.length := by rw [List.length_drop]; omega
    generalize hn1 : Y'.take (Y'.length - X'.length) = Y1 at *
    generalize hn2 : Y'.drop (Y'.length - X'.length) = Y2 at *
    clear hn1 hn2
    subst hYe
    rw [List.length_append] at *
    have e1 : wrapI (wrapI (((P.length + X.length : Nat) : Int) + ((Y1.length + Y2.length : Nat) : Int)) - (X'.length : Int)) = ((P'.length + X'.length + Y1.length : Nat) : Int) := by
      rw [wrapI_eq (x := ((P.length + X.length : Nat) : Int) + ((Y1.length + Y2.length : Nat) : Int)) (by omega) (by omega), wrapI_eq (by omega) (by omega)]; omega
    rw [e1]
    refine SE.slices_swapRangeCmpFunc_apiWant.go (swapRange_se (P := P') (X := X') (M := Y1) (Y := Y2) (Q := Q') hd (by simp only [List.length_append]; omega) hbig (by simpa using hB1) rfl rfl rfl l2 fun w2 b2 hB2 => ⟨rfl, ?_⟩)
    rw [wrapI_eq (by omega) (by omega)]
    refine ⟨⟨P', Y2, Y1, X' ++ Q', by omega, by omega, by omega, by omega, by omega, by rw [List.length_append]; omega, by rw [← hg]; simp, b1.trans b2, by simpa using hB2⟩, by show Int.toNat _ + Int.toNat _ < Int.toNat _ + Int.toNat _; omega⟩
  · have heq : X'.length = Y'.length := by
      have := Classical.not_not.1 heq; omega
    refine SE.slices_swapRangeCmpFunc_apiWant.go (swapRange_se (P := P') (X := X') (M := []) (Y := Y') (Q := Q') hd (by simp only [List.length_append, List.length_nil]; omega) hbig (by simpa using hB1) rfl (by simp only [List.length_nil]; omega) rfl heq.symm fun w2 b2 hB2 => ⟨rfl, ?_⟩)
    exact hR w2 (b1.trans b2) (by rw [← hg]; simpa using hB2)
set_option maxHeartbeats 4000000 in
theorem symMerge_se (hO : Ord3 c) {data : Sl} {tail : List Value} (hd : data.a = some ⟨g, 0, none⟩) (hbig : data.len < 4611686018427387904) :
    ∀ (N : Nat) {w : World} {R : World → Prop} {P L X Q : List El} {a m b : Int}, L.length + X.length ≤ N → CmpOk cmp c g w → data.len = (P ++ L ++ X ++ Q).length → RowB fc w g (P ++ L ++ X ++ Q) tail →
      a = (P.length : Int) → m = ((P.length + L.length : Nat) : Int) → b = ((P.length + L.length + X.length : Nat) : Int) → 0 < L.length → 0 < X.length → L.Pairwise (Ah c) → X.Pairwise (Ah c) → (∀ x ∈ L, ∀ y ∈ X, x.2 < y.2) →
      (∀ w' M, But g w w' → M.Perm (L ++ X) → M.Pairwise (Ah c) → RowB fc w' g (P ++ M ++ Q) tail → R w') → SE.slices_symMergeCmpFunc_apiWant data a m b cmp w R
  | 0, _, _, _, L, _, _, _, _, _, h, _, _, _, _, _, _, hL, _, _, _, _, _ => by omega
  | N + 1, w, R, P, L, X, Q, _, _, _, hN, hc, hlen, hB, rfl, rfl, rfl, hL0, hX0, hL, hX, hid, hR => by
    unfold SE.slices_symMergeCmpFunc_apiWant
    simp only [List.length_append] at hlen
    have refl : But g w w := ⟨Nat.le_refl _, rfl, rfl, rfl, fun _ _ _ => rfl⟩
    have eL : ∀ (u : Nat) (hu : u < L.length), (P ++ L ++ X ++ Q)[P.length + u]? = some L[u] := fun u hu => by
      rw [List.append_assoc, List.append_assoc, List.getElem?_append_right (by omega), List.getElem?_append_left (by omega), Nat.add_sub_cancel_left]; exact List.getElem?_eq_getElem hu
    have eX : ∀ (u : Nat) (hu : u < X.length), (P ++ L ++ X ++ Q)[P.length + L.length + u]? = some X[u] := fun u hu => by
      rw [List.append_assoc, List.getElem?_append_right (by rw [List.length_append]; omega), List.length_append, Nat.add_sub_cancel_left, List.getElem?_append_left (by omega)]; exact List.getElem?_eq_getElem hu
    have wm : wrapI (((P.length + L.length : Nat) : Int) - (P.length : Int)) = (L.length : Int) := by rw [wrapI_eq (by omega) (by omega)]; omega
    have wb : wrapI (((P.length + L.length + X.length : Nat) : Int) - ((P.length + L.length : Nat) : Int)) = (X.length : Int) := by rw [wrapI_eq (by omega) (by omega)]; omega
    rw [wm, wb]
    refine ⟨fun h1 => ?_, fun h1 => ⟨fun h2 => ?_, fun h2 => ?_⟩⟩
    · -- one thing on the left
      obtain ⟨x, rfl⟩ := List.length_eq_one_iff.1 (show L.length = 1 by omega)
      simp only [List.length_cons, List.length_nil] at *
      refine ⟨fun i j w' => ∃ p q : Nat, i = ((P.length + (0 + 1) + p : Nat) : Int) ∧ j = ((P.length + (0 + 1) + q : Nat) : Int) ∧ p ≤ q ∧ q ≤ X.length ∧ (∀ (u : Nat) (hu : u < X.length), u < p → Ah c X[u] x) ∧ (∀ (u : Nat) (hu : u < X.length), q ≤ u → Ah c x X[u]) ∧ Ext w w',
        fun i j _ => (j - i).toNat, ⟨0, X.length, by omega, by omega, by omega, by omega, fun u _ h => by omega, fun u h1 h2 => by omega, Ext.refl _⟩, ?_⟩
      rintro _ _ w1 ⟨p, q, rfl, rfl, hpq, hq, hp1, hq1, x1⟩
      refine ⟨fun hlt => bnd.drew fun w2 x2 => ?_, fun hge => ?_⟩
      · rw [half (by omega)]
        have he : (P.length + (0 + 1) + p + (P.length + (0 + 1) + q)) / 2 = P.length + (0 + 1) + (p + q) / 2 := by omega
        rw [he]
        have heX : (p + q) / 2 < X.length := by omega
        have hB2 := hB.ext (x1.trans x2)
        have gx := hB2.ld' fc_len (eL 0 (by simp))
        have gy := hB2.ld' fc_len (eX _ heX)
        have hright := Ah.right hO (hid x (by simp) _ (List.getElem_mem heX))
        refine ⟨_, ⟨hd, by omega, by omega⟩, _, _, _, gy, _, ⟨hd, by omega, by omega⟩, _, _, _, gx, hc _ x.1 w2 _ (refl.ext' (x1.trans x2)) fun w3 x3 => ⟨_, rfl, fun h => ?_, fun h => ?_⟩⟩
        · have hA := hright.1 h
          rw [wrapI_eq (by omega) (by omega)]
          refine ⟨⟨(p + q) / 2 + 1, q, by omega, rfl, by omega, hq, fun u hu hlt => ?_, hq1, x1.trans (x2.trans x3)⟩, by show Int.toNat _ < Int.toNat _; omega⟩
          rcases Nat.lt_succ_iff_lt_or_eq.1 hlt with h' | rfl
          · exact (List.pairwise_iff_getElem.1 hX u _ hu heX h').trans hO hA
          · exact hA
        · have hA := hright.2 h
          refine ⟨⟨p, (p + q) / 2, rfl, rfl, by omega, by omega, hp1, fun u hu hge => ?_, x1.trans (x2.trans x3)⟩, by show Int.toNat _ < Int.toNat _; omega⟩
          rcases Nat.lt_or_eq_of_le hge with h' | rfl
          · exact hA.trans hO (List.pairwise_iff_getElem.1 hX _ u heX hu h')
          · exact hA
      · have hpq' : p = q := by omega
        subst hpq'
        have wi : wrapI (((P.length + (0 + 1) + p : Nat) : Int) - 1) = ((P.length + p : Nat) : Int) := by rw [wrapI_eq (by omega) (by omega)]; omega
        rw [wi]
        refine ⟨fun k w' => ∃ t : Nat, k = ((P.length + t : Nat) : Int) ∧ t ≤ p ∧ But g w w' ∧ RowB fc w' g (P ++ (X.take t ++ x :: X.drop t) ++ Q) tail, fun k _ => (P.length + p) - k.toNat, ⟨0, by omega, by omega, refl.ext' x1, by simpa using hB.ext x1⟩, ?_⟩
        rintro _ w2 ⟨t, rfl, htp, b2, hB2⟩
        refine ⟨fun hlt => bnd.drew fun w3 x3 => ?_, fun hge => ?_⟩
        · have htX : t < X.length := by omega
          have e1 : wrapI (((P.length + t : Nat) : Int) + 1) = ((P.length + t + 1 : Nat) : Int) := by rw [wrapI_eq (by omega) (by omega)]; omega
          rw [e1]
          have eB : P ++ (X.take t ++ x :: X.drop t) ++ Q = (P ++ X.take t) ++ x :: X[t] :: (X.drop (t + 1) ++ Q) := by
            rw [List.drop_eq_getElem_cons htX]; simp only [List.append_assoc, List.cons_append]
          have hB3 := hB2.ext x3
          rw [eB] at hB3
          have ey : (P ++ X.take t).length = P.length + t := by rw [List.length_append, List.length_take]; omega
          have gy := hB3.ld' fc_len (get_at' ey)
          have gx := hB3.ld' fc_len (get_at1' (n := P.length + t + 1) (by omega))
          have hln : ((P ++ X.take t) ++ x :: X[t] :: (X.drop (t + 1) ++ Q)).length = data.len := by rw [← eB, hlen]; simp; omega
          refine ⟨_, ⟨hd, by omega, by omega⟩, _, _, _, gx, _, ⟨hd, by omega, by omega⟩, _, _, _, gy, _, ⟨hd, by omega, by omega⟩, hB3.st fc_len (i := P.length + t) (x := X[t]) (by rw [hln]; omega) fun w4 b4 hB4 => ⟨_, ⟨hd, by omega, by omega⟩, hB4.st fc_len (i := P.length + t + 1) (x := x) (by rw [List.length_set, hln]; omega) fun w5 b5 hB5 => ?_⟩⟩
          have e2 := swap_adj' (P ++ X.take t) (X.drop (t + 1) ++ Q) x X[t]
          rw [ey] at e2
          rw [e2] at hB5
          refine ⟨⟨t + 1, by omega, by omega, ((b2.ext' x3).trans b4).trans b5, ?_⟩, by show _ - Int.toNat _ < _ - Int.toNat _; omega⟩
          rw [List.take_succ_eq_append_getElem htX]
          simpa only [List.append_assoc, List.cons_append, List.nil_append] using hB5
        · have : t = p := by omega
          subst this
          refine hR w2 _ b2 ?_ ?_ hB2
          · refine List.perm_middle.trans ?_
            rw [List.take_append_drop]; exact List.Perm.refl _
          · refine List.pairwise_append.2 ⟨hX.sublist (List.take_sublist _ _), List.pairwise_cons.2 ⟨fun y hy => ?_, hX.sublist (List.drop_sublist _ _)⟩, fun y hy z hz => ?_⟩
            · obtain ⟨u, hu, rfl⟩ := List.mem_iff_getElem.1 hy
              rw [List.length_drop] at hu
              rw [List.getElem_drop]; exact hq1 _ (by omega) (by omega)
            · obtain ⟨u, hu, rfl⟩ := List.mem_iff_getElem.1 hy
              rw [List.length_take] at hu
              rw [List.getElem_take]
              have hyx := hp1 u (by omega) (by omega)
              rcases List.mem_cons.1 hz with rfl | hz
              · exact hyx
              · obtain ⟨v, hv, rfl⟩ := List.mem_iff_getElem.1 hz
                rw [List.length_drop] at hv
                rw [List.getElem_drop]; exact hyx.trans hO (hq1 _ (by omega) (by omega))
    · -- one thing on the right
      obtain ⟨y, rfl⟩ := List.length_eq_one_iff.1 (show X.length = 1 by omega)
      simp only [List.length_cons, List.length_nil] at *
      refine ⟨fun i j w' => ∃ p q : Nat, i = ((P.length + p : Nat) : Int) ∧ j = ((P.length + q : Nat) : Int) ∧ p ≤ q ∧ q ≤ L.length ∧ (∀ (u : Nat) (hu : u < L.length), u < p → Ah c L[u] y) ∧ (∀ (u : Nat) (hu : u < L.length), q ≤ u → Ah c y L[u]) ∧ Ext w w',
        fun i j _ => (j - i).toNat, ⟨0, L.length, by omega, by omega, by omega, by omega, fun u _ h => by omega, fun u h1 h2 => by omega, Ext.refl _⟩, ?_⟩
      rintro _ _ w1 ⟨p, q, rfl, rfl, hpq, hq, hp1, hq1, x1⟩
      refine ⟨fun hlt => bnd.drew fun w2 x2 => ?_, fun hge => ?_⟩
      · rw [half (by omega)]
        have he : (P.length + p + (P.length + q)) / 2 = P.length + (p + q) / 2 := by omega
        rw [he]
        have heX : (p + q) / 2 < L.length := by omega
        have hB2 := hB.ext (x1.trans x2)
        have gx := hB2.ld' fc_len (eX 0 (by simp))
        have gy := hB2.ld' fc_len (eL _ heX)
        have hright := Ah.right hO (hid _ (List.getElem_mem heX) y (by simp))
        refine ⟨_, ⟨hd, by omega, by omega⟩, _, _, _, gx, _, ⟨hd, by omega, by omega⟩, _, _, _, gy, hc y.1 _ w2 _ (refl.ext' (x1.trans x2)) fun w3 x3 => ⟨_, rfl, fun h => ?_, fun h => ?_⟩⟩
        · have hA := hright.2 h
          rw [wrapI_eq (by omega) (by omega)]
          refine ⟨⟨(p + q) / 2 + 1, q, by omega, rfl, by omega, hq, fun u hu hlt => ?_, hq1, x1.trans (x2.trans x3)⟩, by show Int.toNat _ < Int.toNat _; omega⟩
          rcases Nat.lt_succ_iff_lt_or_eq.1 hlt with h' | rfl
          · exact (List.pairwise_iff_getElem.1 hL u _ hu heX h').trans hO hA
          · exact hA
        · have hA := hright.1 (Classical.not_not.1 h)
          refine ⟨⟨p, (p + q) / 2, rfl, rfl, by omega, by omega, hp1, fun u hu hge => ?_, x1.trans (x2.trans x3)⟩, by show Int.toNat _ < Int.toNat _; omega⟩
          rcases Nat.lt_or_eq_of_le hge with h' | rfl
          · exact hA.trans hO (List.pairwise_iff_getElem.1 hL _ u heX hu h')
          · exact hA
      · have hpq' : p = q := by omega
        subst hpq'
        refine ⟨fun k w' => ∃ t : Nat, k = ((P.length + t : Nat) : Int) ∧ p ≤ t ∧ t ≤ L.length ∧ But g w w' ∧ RowB fc w' g (P ++ (L.take t ++ y :: L.drop t) ++ Q) tail, fun k _ => k.toNat, ⟨L.length, by omega, by omega, by omega, refl.ext' x1, by simpa using hB.ext x1⟩, ?_⟩
        rintro _ w2 ⟨t, rfl, htp, htL, b2, hB2⟩
        refine ⟨fun hlt => bnd.drew fun w3 x3 => ?_, fun hge => ?_⟩
        · obtain ⟨s, rfl⟩ : ∃ s, t = s + 1 := ⟨t - 1, by omega⟩
          have hsL : s < L.length := by omega
          have e1 : wrapI (((P.length + (s + 1) : Nat) : Int) - 1) = ((P.length + s : Nat) : Int) := by rw [wrapI_eq (by omega) (by omega)]; omega
          rw [e1]
          have eB : P ++ (L.take (s + 1) ++ y :: L.drop (s + 1)) ++ Q = (P ++ L.take s) ++ L[s] :: y :: (L.drop (s + 1) ++ Q) := by
            rw [List.take_succ_eq_append_getElem hsL]; simp only [List.append_assoc, List.cons_append, List.nil_append]
          have hB3 := hB2.ext x3
          rw [eB] at hB3
          have ey : (P ++ L.take s).length = P.length + s := by rw [List.length_append, List.length_take]; omega
          have gy := hB3.ld' fc_len (get_at' ey)
          have gx := hB3.ld' fc_len (get_at1' (n := P.length + (s + 1)) (by omega))
          have hln : ((P ++ L.take s) ++ L[s] :: y :: (L.drop (s + 1) ++ Q)).length = data.len := by rw [← eB, hlen]; simp; omega
          refine ⟨_, ⟨hd, by omega, by omega⟩, _, _, _, gy, _, ⟨hd, by omega, by omega⟩, _, _, _, gx, _, ⟨hd, by omega, by omega⟩, hB3.st fc_len (i := P.length + (s + 1)) (x := L[s]) (by rw [hln]; omega) fun w4 b4 hB4 => ⟨_, ⟨hd, by omega, by omega⟩, hB4.st fc_len (i := P.length + s) (x := y) (by rw [List.length_set, hln]; omega) fun w5 b5 hB5 => ?_⟩⟩
          have e2 := swap_adj (P ++ L.take s) (L.drop (s + 1) ++ Q) L[s] y
          rw [ey, Nat.add_assoc] at e2
          rw [e2] at hB5
          refine ⟨⟨s, by omega, by omega, by omega, ((b2.ext' x3).trans b4).trans b5, ?_⟩, by show Int.toNat _ < Int.toNat _; omega⟩
          rw [List.drop_eq_getElem_cons hsL]
          simpa only [List.append_assoc, List.cons_append, List.nil_append] using hB5
        · have : t = p := by omega
          subst this
          refine hR w2 _ b2 ?_ ?_ hB2
          · refine List.perm_middle.trans ?_
            rw [List.take_append_drop]; exact (List.perm_append_singleton y L).symm
          · refine List.pairwise_append.2 ⟨hL.sublist (List.take_sublist _ _), List.pairwise_cons.2 ⟨fun z hz => ?_, hL.sublist (List.drop_sublist _ _)⟩, fun x hx z hz => ?_⟩
            · obtain ⟨u, hu, rfl⟩ := List.mem_iff_getElem.1 hz
              rw [List.length_drop] at hu
              rw [List.getElem_drop]; exact hq1 _ (by omega) (by omega)
            · obtain ⟨u, hu, rfl⟩ := List.mem_iff_getElem.1 hx
              rw [List.length_take] at hu
              rw [List.getElem_take]
              have hyx := hp1 u (by omega) (by omega)
              rcases List.mem_cons.1 hz with rfl | hz
              · exact hyx
              · obtain ⟨v, hv, rfl⟩ := List.mem_iff_getElem.1 hz
                rw [List.length_drop] at hv
                rw [List.getElem_drop]; exact hyx.trans hO (hq1 _ (by omega) (by omega))
    · -- both sides have more
      rw [half (i := P.length) (j := P.length + L.length + X.length) (by omega)]
      have hmid : (P.length + (P.length + L.length + X.length)) / 2 = P.length + (L.length + X.length) / 2 := by omega
      rw [hmid]
      generalize hH : (L.length + X.length) / 2 = H at *
      have wn : wrapI (((P.length + H : Nat) : Int) + ((P.length + L.length : Nat) : Int)) = ((P.length + H + (P.length + L.length) : Nat) : Int) := by rw [wrapI_eq (by omega) (by omega)]; omega
      rw [wn]
      have wp : wrapI (((P.length + H + (P.length + L.length) : Nat) : Int) - 1) = ((P.length + H + (P.length + L.length) - 1 : Nat) : Int) := by rw [wrapI_eq (by omega) (by omega)]; omega
      rw [wp]
      refine join.named fun J hJ => ?_
      have main : ∀ u0 v0 : Nat, u0 = H - X.length → v0 = min L.length H → J ((P.length + u0 : Nat) : Int) ((P.length + v0 : Nat) : Int) w := fun u0 v0 hu0 hv0 => by
        subst hJ
        show loop2 _ _ _ _
        refine ⟨fun i j w' => ∃ s r : Nat, i = ((P.length + s : Nat) : Int) ∧ j = ((P.length + r : Nat) : Int) ∧ u0 ≤ s ∧ s ≤ r ∧ r ≤ v0 ∧ (∀ (u : Nat) (h1 : u < L.length) (h2 : H - 1 - u < X.length), u0 ≤ u → u < s → Ah c L[u] X[H - 1 - u]) ∧ (∀ (u : Nat) (h1 : u < L.length) (h2 : H - 1 - u < X.length), r ≤ u → u < v0 → Ah c X[H - 1 - u] L[u]) ∧ Ext w w',
          fun i j _ => (j - i).toNat, ⟨u0, v0, rfl, rfl, Nat.le_refl _, by omega, Nat.le_refl _, fun u _ _ h1 h2 => by omega, fun u _ _ h1 h2 => by omega, Ext.refl _⟩, ?_⟩
        rintro _ _ w1 ⟨s, r, rfl, rfl, hs0, hsr, hrv, hs1, hr1, x1⟩
        refine ⟨fun hlt => bnd.drew fun w2 x2 => ?_, fun hge => ?_⟩
        · rw [half (by omega)]
          have he : (P.length + s + (P.length + r)) / 2 = P.length + (s + r) / 2 := by omega
          rw [he]
          generalize hu : (s + r) / 2 = u at *
          have huL : u < L.length := by omega
          have huX : H - 1 - u < X.length := by omega
          have wpc : wrapI (((P.length + H + (P.length + L.length) - 1 : Nat) : Int) - ((P.length + u : Nat) : Int)) = ((P.length + L.length + (H - 1 - u) : Nat) : Int) := by rw [wrapI_eq (by omega) (by omega)]; omega
          rw [wpc]
          have hB2 := hB.ext (x1.trans x2)
          have gx := hB2.ld' fc_len (eX _ huX)
          have gy := hB2.ld' fc_len (eL _ huL)
          have hright := Ah.right hO (hid _ (List.getElem_mem huL) _ (List.getElem_mem huX))
          refine ⟨_, ⟨hd, by omega, by omega⟩, _, _, _, gx, _, ⟨hd, by omega, by omega⟩, _, _, _, gy, hc _ _ w2 _ (refl.ext' (x1.trans x2)) fun w3 x3 => ⟨_, rfl, fun h => ?_, fun h => ?_⟩⟩
          · have hA := hright.2 h
            rw [wrapI_eq (by omega) (by omega)]
            refine ⟨⟨u + 1, r, by omega, rfl, by omega, by omega, hrv, fun t h1 h2 h3 h4 => ?_, hr1, x1.trans (x2.trans x3)⟩, by show Int.toNat _ < Int.toNat _; omega⟩
            rcases Nat.lt_succ_iff_lt_or_eq.1 h4 with h' | rfl
            · exact ((List.pairwise_iff_getElem.1 hL t u h1 huL h').trans hO hA).trans hO (List.pairwise_iff_getElem.1 hX (H - 1 - u) (H - 1 - t) huX h2 (by omega))
            · exact hA
          · have hA := hright.1 (Classical.not_not.1 h)
            refine ⟨⟨s, u, rfl, rfl, hs0, by omega, by omega, hs1, fun t h1 h2 h3 h4 => ?_, x1.trans (x2.trans x3)⟩, by show Int.toNat _ < Int.toNat _; omega⟩
            rcases Nat.lt_or_eq_of_le h3 with h' | rfl
            · exact ((List.pairwise_iff_getElem.1 hX (H - 1 - t) (H - 1 - u) h2 huX (by omega)).trans hO hA).trans hO (List.pairwise_iff_getElem.1 hL u t huL h1 h')
            · exact hA
        · have hsr' : s = r := by omega
          subst hsr'
          have hsL : s ≤ L.length := by omega
          have hsH : s ≤ H := by omega
          have hHX : H - s ≤ X.length := by omega
          have wend : wrapI (((P.length + H + (P.length + L.length) : Nat) : Int) - ((P.length + s : Nat) : Int)) = ((P.length + L.length + (H - s) : Nat) : Int) := by rw [wrapI_eq (by omega) (by omega)]; omega
          rw [wend]
          have cr1 : ∀ x ∈ L.take s, ∀ y ∈ X.drop (H - s), Ah c x y := fun x hx y hy => by
            obtain ⟨i, hi, rfl⟩ := List.mem_iff_getElem.1 hx
            obtain ⟨j, hj, rfl⟩ := List.mem_iff_getElem.1 hy
            rw [List.length_take] at hi; rw [List.length_drop] at hj
            rw [List.getElem_take, List.getElem_drop]
            have k1 := hs1 (s - 1) (by omega) (by omega) (by omega) (by omega)
            have e : H - 1 - (s - 1) = H - s := by omega
            have k2 : Ah c L[i] X[H - s] := by
              rcases Nat.lt_or_eq_of_le (show i ≤ s - 1 by omega) with h | h
              · have := (List.pairwise_iff_getElem.1 hL i (s - 1) (by omega) (by omega) h).trans hO k1
                simpa only [e] using this
              · subst h; simpa only [e] using k1
            rcases Nat.eq_zero_or_pos j with h | h
            · subst h; exact k2
            · exact k2.trans hO (List.pairwise_iff_getElem.1 hX (H - s) (H - s + j) (by omega) (by omega) (by omega))
          have cr2 : ∀ y ∈ X.take (H - s), ∀ x ∈ L.drop s, Ah c y x := fun y hy x hx => by
            obtain ⟨i, hi, rfl⟩ := List.mem_iff_getElem.1 hx
            obtain ⟨j, hj, rfl⟩ := List.mem_iff_getElem.1 hy
            rw [List.length_drop] at hi; rw [List.length_take] at hj
            rw [List.getElem_take, List.getElem_drop]
            have k1 := hr1 s (by omega) (by omega) (Nat.le_refl _) (by omega)
            have k2 : Ah c X[j] L[s] := by
              rcases Nat.lt_or_eq_of_le (show j ≤ H - 1 - s by omega) with h | h
              · exact (List.pairwise_iff_getElem.1 hX j (H - 1 - s) (by omega) (by omega) h).trans hO k1
              · subst h; exact k1
            rcases Nat.eq_zero_or_pos i with h | h
            · subst h; exact k2
            · exact k2.trans hO (List.pairwise_iff_getElem.1 hL s (s + i) (by omega) (by omega) (by omega))
          have lt1 : (L.take s).length = s := by rw [List.length_take]; omega
          have lt2 : (X.take (H - s)).length = H - s := by rw [List.length_take]; omega
          have lt3 : (L.drop s).length = L.length - s := List.length_drop
          have lt4 : (X.drop (H - s)).length = X.length - (H - s) := List.length_drop
          have sL1 := hL.sublist (List.take_sublist s L)
          have sL2 := hL.sublist (List.drop_sublist s L)
          have sX1 := hX.sublist (List.take_sublist (H - s) X)
          have sX2 := hX.sublist (List.drop_sublist (H - s) X)
          have id1 : ∀ x ∈ L.take s, ∀ y ∈ X.take (H - s), x.2 < y.2 := fun x hx y hy => hid x (List.mem_of_mem_take hx) y (List.mem_of_mem_take hy)
          have id2 : ∀ x ∈ L.drop s, ∀ y ∈ X.drop (H - s), x.2 < y.2 := fun x hx y hy => hid x (List.mem_of_mem_drop hx) y (List.mem_of_mem_drop hy)
          have eLs : L = L.take s ++ L.drop s := (List.take_append_drop _ _).symm
          have eXs : X = X.take (H - s) ++ X.drop (H - s) := (List.take_append_drop _ _).symm
          have hLX : L.take s = [] ∨ 0 < s := by rcases Nat.eq_zero_or_pos s with h | h; · exact .inl (by rw [h]; rfl)
                                                 · exact .inr h
          have permAll : ∀ M1 M2 : List El, M1.Perm (L.take s ++ X.take (H - s)) → M2.Perm (L.drop s ++ X.drop (H - s)) → (M1 ++ M2).Perm (L ++ X) := fun M1 M2 h1 h2 => by
            refine (h1.append h2).trans ?_
            conv => rhs; rw [eLs, eXs]
            rw [List.append_assoc, List.append_assoc]
            refine List.Perm.append_left _ ?_
            rw [← List.append_assoc, ← List.append_assoc]
            exact List.Perm.append_right _ List.perm_append_comm
          have sortAll : ∀ M1 M2 : List El, M1.Perm (L.take s ++ X.take (H - s)) → M2.Perm (L.drop s ++ X.drop (H - s)) → M1.Pairwise (Ah c) → M2.Pairwise (Ah c) → (M1 ++ M2).Pairwise (Ah c) := fun M1 M2 h1 h2 s1 s2 =>
            List.pairwise_append.2 ⟨s1, s2, fun x hx y hy => by
              rcases List.mem_append.1 (h1.mem_iff.1 hx) with hx | hx <;> rcases List.mem_append.1 (h2.mem_iff.1 hy) with hy | hy
              · obtain ⟨i, hi, rfl⟩ := List.mem_iff_getElem.1 hx
                obtain ⟨j, hj, rfl⟩ := List.mem_iff_getElem.1 hy
                rw [lt1] at hi; rw [lt3] at hj
                rw [List.getElem_take, List.getElem_drop]
                exact List.pairwise_iff_getElem.1 hL i (s + j) (by omega) (by omega) (by omega)
              · exact cr1 x hx y hy
              · exact cr2 x hx y hy
              · obtain ⟨i, hi, rfl⟩ := List.mem_iff_getElem.1 hx
                obtain ⟨j, hj, rfl⟩ := List.mem_iff_getElem.1 hy
                rw [lt2] at hi; rw [lt4] at hj
                rw [List.getElem_take, List.getElem_drop]
                exact List.pairwise_iff_getElem.1 hX i (H - s + j) (by omega) (by omega) (by omega)⟩
          generalize L.take s = L1 at *
          generalize L.drop s = L2 at *
          generalize X.take (H - s) = X1 at *
          generalize X.drop (H - s) = X2 at *
          have b1 : But g w w1 := refl.ext' x1
          have hB1 := hB.ext x1
          refine join.named fun J2 hJ2 => ?_
          have k2 : ∀ w2, But g w w2 → RowB fc w2 g (P ++ L1 ++ X1 ++ (L2 ++ X2 ++ Q)) tail → J2 w2 := fun w2 b2 hB2 => by
            subst hJ2
            refine join.named fun J3 hJ3 => bound ?_
            have k3 : ∀ w3 M1, But g w w3 → M1.Perm (L1 ++ X1) → M1.Pairwise (Ah c) → RowB fc w3 g (P ++ M1 ++ (L2 ++ X2 ++ Q)) tail → J3 w3 := fun w3 M1 b3 hp1 so1 hB3 => by
              subst hJ3
              have lM : M1.length = H := by rw [hp1.length_eq, List.length_append]; omega
              refine bound ⟨fun h => ?_, fun h => ?_⟩
              · simp only [Bool.and_eq_true, decide_eq_true_eq] at h
                refine SE.slices_symMergeCmpFunc_apiWant.go (symMerge_se hO hd hbig N (P := P ++ M1) (L := L2) (X := X2) (Q := Q) (by omega) (hc.but b3) (by simp only [List.length_append]; omega) (by simpa only [List.append_assoc] using hB3) (by rw [List.length_append]; omega) (by rw [List.length_append]; omega) (by rw [List.length_append]; omega) (by omega) (by omega) sL2 sX2 id2 fun w4 M2 b4 hp2 so2 hB4 => ⟨rfl, ?_⟩)
                exact hR w4 (M1 ++ M2) (b3.trans b4) (permAll M1 M2 hp1 hp2) (sortAll M1 M2 hp1 hp2 so1 so2) (by simpa only [List.append_assoc] using hB4)
              · simp only [Bool.and_eq_false_iff, decide_eq_false_iff_not] at h
                refine hR w3 (M1 ++ (L2 ++ X2)) b3 (permAll M1 _ hp1 (List.Perm.refl _)) (sortAll M1 _ hp1 (List.Perm.refl _) so1 ?_) (by simpa only [List.append_assoc] using hB3)
                have : L2 = [] ∨ X2 = [] := by
                  rcases h with h | h
                  · exact .inl (List.eq_nil_of_length_eq_zero (by omega))
                  · exact .inr (List.eq_nil_of_length_eq_zero (by omega))
                rcases this with rfl | rfl
                · simpa using sX2
                · simpa using sL2
            refine ⟨fun h => ?_, fun h => ?_⟩
            · simp only [Bool.and_eq_true, decide_eq_true_eq] at h
              refine SE.slices_symMergeCmpFunc_apiWant.go (symMerge_se hO hd hbig N (P := P) (L := L1) (X := X1) (Q := L2 ++ X2 ++ Q) (by omega) (hc.but b2) (by simp only [List.length_append]; omega) (by simpa only [List.append_assoc] using hB2) rfl (by omega) (by omega) (by omega) (by omega) sL1 sX1 id1 fun w4 M1 b4 hp1 so1 hB4 => ⟨rfl, k3 w4 M1 (b2.trans b4) hp1 so1 hB4⟩)
            · simp only [Bool.and_eq_false_iff, decide_eq_false_iff_not] at h
              refine k3 w2 (L1 ++ X1) b2 (List.Perm.refl _) ?_ (by simpa only [List.append_assoc] using hB2)
              have : L1 = [] ∨ X1 = [] := by
                rcases h with h | h
                · exact .inl (List.eq_nil_of_length_eq_zero (by omega))
                · exact .inr (List.eq_nil_of_length_eq_zero (by omega))
              rcases this with rfl | rfl
              · simpa using sX1
              · simpa using sL1
          rw [eLs, eXs] at hB1
          refine bound ⟨fun h => ?_, fun h => ?_⟩
          · simp only [Bool.and_eq_true, decide_eq_true_eq] at h
            refine SE.slices_rotateCmpFunc_apiWant.go (rotate_se (P := P ++ L1) (X := L2) (Y := X1) (Q := X2 ++ Q) hd (by simp only [List.length_append]; omega) hbig (by simpa only [List.append_assoc] using hB1) (by rw [List.length_append]; omega) (by rw [List.length_append]; omega) (by rw [List.length_append]; omega) (by omega) (by omega) fun w2 b2 hB2 => ⟨rfl, k2 w2 (b1.trans b2) (by simpa only [List.append_assoc] using hB2)⟩)
          · simp only [Bool.and_eq_false_iff, decide_eq_false_iff_not] at h
            refine k2 w1 b1 ?_
            have : L2 = [] ∨ X1 = [] := by
              rcases h with h | h
              · exact .inl (List.eq_nil_of_length_eq_zero (by omega))
              · exact .inr (List.eq_nil_of_length_eq_zero (by omega))
            rcases this with rfl | rfl
            · simpa only [List.append_assoc, List.append_nil, List.nil_append] using hB1
            · simpa only [List.append_assoc, List.append_nil, List.nil_append] using hB1
      refine ⟨fun h => ?_, fun h => ?_⟩
      · have := main (H - X.length) H rfl (by omega)
        have e : wrapI (((P.length + H + (P.length + L.length) : Nat) : Int) - ((P.length + L.length + X.length : Nat) : Int)) = ((P.length + (H - X.length) : Nat) : Int) := by rw [wrapI_eq (by omega) (by omega)]; omega
        rw [e]; exact this
      · have := main 0 L.length (by omega) (by omega)
        exact this
theorem ids {z0 : List El} (hz : z0.Pairwise fun x y => x.2 < y.2) {i n j m : Nat} (h : i + n ≤ j) : ∀ x ∈ sg z0 i n, ∀ y ∈ sg z0 j m, x.2 < y.2 := fun x hx y hy => by
  obtain ⟨a, ha, _, ha2, rfl⟩ := sg_mem hx
  obtain ⟨b, hb, hb1, _, rfl⟩ := sg_mem hy
  exact List.pairwise_iff_getElem.1 hz a b ha hb (by omega)
set_option maxHeartbeats 4000000 in
theorem stable_se (hO : Ord3 c) {data : Sl} {tail : List Value} {w : World} {R : World → Prop} {z0 : List El} {n : Int} (hd : data.a = some ⟨g, 0, none⟩) (hbig : data.len < 2305843009213693952) (hc : CmpOk cmp c g w) (hlen : data.len = z0.length) (hn : n = (z0.length : Int)) (hB : RowB fc w g z0 tail)
    (hz : z0.Pairwise fun x y => x.2 < y.2) (hR : ∀ w' M, But g w w' → M.Perm z0 → M.Pairwise (Ah c) → RowB fc w' g M tail → R w') : SE.slices_stableCmpFunc_apiWant data n cmp w R := by
  unfold SE.slices_stableCmpFunc_apiWant
  subst hn
  have refl : But g w w := ⟨Nat.le_refl _, rfl, rfl, rfl, fun _ _ _ => rfl⟩
  refine ⟨fun a b w' => ∃ (k : Nat) (z : List El), a = ((k * 20 : Nat) : Int) ∧ b = ((k * 20 + 20 : Nat) : Int) ∧ k * 20 ≤ z0.length ∧ z.length = z0.length ∧ z.drop (k * 20) = z0.drop (k * 20) ∧ Chunks c 20 z z0 k ∧ But g w w' ∧ RowB fc w' g z tail,
    fun a _ _ => z0.length - a.toNat, ⟨0, z0, rfl, rfl, by omega, rfl, rfl, ⟨fun i h => by omega, fun i h => by omega⟩, refl, hB⟩, ?_⟩
  rintro _ _ w1 ⟨k, z, rfl, rfl, hk, hzl, hdr, hch, b1, hB1⟩
  have la : (z.take (k * 20)).length = k * 20 := by rw [List.length_take]; omega
  refine ⟨fun hle => ?_, fun hgt => ?_⟩
  · have hsg : sg z (k * 20) 20 = sg z0 (k * 20) 20 := by unfold sg; rw [hdr]
    have hs := sg_split z (k * 20) 20
    have hsl : (sg z (k * 20) 20).length = 20 := sg_len (by omega)
    rw [hs] at hB1
    refine SE.slices_insertionSortCmpFunc_apiWant.go (insertion_se hO (A := z.take (k * 20)) (M0 := sg z (k * 20) 20) (B := z.drop (k * 20 + 20)) (hc.but b1) hd (by rw [← hs, hzl]; exact hlen) (by omega) hB1 (by rw [la]) (by rw [la, hsl]) (by rw [hsg]; exact hz.sublist ((List.take_sublist _ _).trans (List.drop_sublist _ _))) fun w2 M b2 hp hso hB2 => ⟨rfl, ?_⟩)
    have hMl : M.length = 20 := by rw [hp.length_eq, hsl]
    rw [wrapI_eq (by omega) (by omega)]
    refine ⟨⟨k + 1, z.take (k * 20) ++ M ++ z.drop (k * 20 + 20), by omega, by omega, by omega, ?_, ?_, ?_, b1.trans b2, hB2⟩, by show _ - Int.toNat _ < _ - Int.toNat _; omega⟩
    · simp only [List.length_append, List.length_drop, la, hMl]; omega
    · rw [List.drop_left' (by rw [List.length_append, la, hMl]; omega), show k * 20 + 20 = (k + 1) * 20 by omega]
      rw [show (k + 1) * 20 = k * 20 + 20 by omega, ← List.drop_drop, hdr, List.drop_drop]
    · constructor
      · intro i hi
        rcases Nat.lt_succ_iff_lt_or_eq.1 hi with h | rfl
        · rw [sg_left (by rw [la]; omega)]
          have := hch.perm i h
          rw [hs, sg_left (by rw [la]; omega)] at this
          exact this
        · rw [sg_self la hMl, ← hsg]; exact hp
      · intro i hi
        rcases Nat.lt_succ_iff_lt_or_eq.1 hi with h | rfl
        · rw [sg_left (by rw [la]; omega)]
          have := hch.sort i h
          rw [hs, sg_left (by rw [la]; omega)] at this
          exact this
        · rw [sg_self la hMl]; exact hso
  · have hs : z = z.take (k * 20) ++ z.drop (k * 20) ++ [] := by rw [List.append_nil, List.take_append_drop]
    have hdl : (z.drop (k * 20)).length = z0.length - k * 20 := by rw [List.length_drop, hzl]
    rw [hs] at hB1
    refine SE.slices_insertionSortCmpFunc_apiWant.go (insertion_se hO (A := z.take (k * 20)) (M0 := z.drop (k * 20)) (B := []) (hc.but b1) hd (by rw [← hs, hzl]; exact hlen) (by omega) hB1 (by rw [la]) (by rw [la, hdl]; omega) (by rw [hdr]; exact hz.sublist (List.drop_sublist _ _)) fun w2 M b2 hp hso hB2 => ⟨rfl, ?_⟩)
    have hMl : M.length = z0.length - k * 20 := by rw [hp.length_eq, hdl]
    rw [List.append_nil] at hB2
    have hch0 : ∀ j, Chunks c 20 (z.take (k * 20) ++ M) z0 j := fun j => by
      have hsg : sg z (k * 20) 20 = z.drop (k * 20) := by unfold sg; rw [List.take_of_length_le (by omega)]
      have hsg0 : sg z0 (k * 20) 20 = z0.drop (k * 20) := by unfold sg; rw [List.take_of_length_le (by rw [List.length_drop]; omega)]
      constructor
      · intro i _
        rcases Nat.lt_trichotomy i k with h | rfl | h
        · have := hch.perm i h
          rw [hs, sg_left (by rw [la]; omega)] at this
          rw [← List.append_nil (z.take (k * 20) ++ M), sg_left (by rw [la]; omega)]
          exact this
        · rw [sg_last la (by omega), hsg0, ← hdr]; exact hp
        · have : k + 1 ≤ i := h
          rw [sg_nil (by rw [List.length_append, la]; omega), sg_nil (by omega)]
      · intro i _
        rcases Nat.lt_trichotomy i k with h | rfl | h
        · have := hch.sort i h
          rw [hs, sg_left (by rw [la]; omega)] at this
          rw [← List.append_nil (z.take (k * 20) ++ M), sg_left (by rw [la]; omega)]
          exact this
        · rw [sg_last la (by omega)]; exact hso
        · have : k + 1 ≤ i := h
          rw [sg_nil (by rw [List.length_append, la]; omega)]
          exact .nil
    have hzl1 : (z.take (k * 20) ++ M).length = z0.length := by rw [List.length_append, la]; omega
    generalize z.take (k * 20) ++ M = z1 at *
    have b02 := b1.trans b2
    clear hp hso hMl
    refine ⟨fun bs w' => ∃ (s : Nat) (z : List El), bs = (s : Int) ∧ 0 < s ∧ s < 2 * z0.length + 40 ∧ z.length = z0.length ∧ (∀ j, Chunks c s z z0 j) ∧ But g w w' ∧ RowB fc w' g z tail, fun bs _ => 2 * z0.length + 40 - bs.toNat, ⟨20, z1, rfl, by omega, by omega, hzl1, hch0, b02, hB2⟩, ?_⟩
    rintro _ w3 ⟨s, z2, rfl, hs0, hsb, hzl2, hch2, b3, hB3⟩
    refine ⟨fun hlt => ?_, fun hge => ?_⟩
    · have hsn : s < z0.length := by omega
      rw [wrapI_eq (x := 2 * (s : Int)) (by omega) (by omega)]
      refine ⟨fun a b w' => ∃ (k : Nat) (z : List El), a = ((k * (2 * s) : Nat) : Int) ∧ b = ((k * (2 * s) + 2 * s : Nat) : Int) ∧ k * (2 * s) ≤ z0.length ∧ z.length = z0.length ∧ z.drop (k * (2 * s)) = z2.drop (k * (2 * s)) ∧ Chunks c (2 * s) z z0 k ∧ But g w w' ∧ RowB fc w' g z tail,
        fun a _ _ => z0.length - a.toNat, ⟨0, z2, by simp, by simp, by omega, hzl2, by simp, ⟨fun i h => by omega, fun i h => by omega⟩, b3, hB3⟩, ?_⟩
      rintro _ _ w4 ⟨k, z, rfl, rfl, hk, hzl4, hdr4, hch4, b4, hB4⟩
      generalize hK : k * (2 * s) = K at *
      have la4 : (z.take K).length = K := by rw [List.length_take]; omega
      have e2k : 2 * k * s = K := by rw [← hK, Nat.mul_comm 2 k, Nat.mul_assoc]
      have e2k1 : (2 * k + 1) * s = K + s := by rw [Nat.add_mul, e2k, Nat.one_mul]
      have p1 := (hch2 (2 * k + 2)).perm (2 * k) (by omega); have p2 := (hch2 (2 * k + 2)).perm (2 * k + 1) (by omega)
      have s1 := (hch2 (2 * k + 2)).sort (2 * k) (by omega); have s2 := (hch2 (2 * k + 2)).sort (2 * k + 1) (by omega)
      rw [e2k] at p1 s1; rw [e2k1] at p2 s2
      have g1 : sg z K s = sg z2 K s := by unfold sg; rw [hdr4]
      have g2 : sg z (K + s) s = sg z2 (K + s) s := by unfold sg; rw [← List.drop_drop, hdr4, List.drop_drop]
      rw [← g1] at p1 s1; rw [← g2] at p2 s2
      have hids : ∀ x ∈ sg z K s, ∀ y ∈ sg z (K + s) s, x.2 < y.2 := fun x hx y hy => ids hz (Nat.le_refl _) x (p1.mem_iff.1 hx) y (p2.mem_iff.1 hy)
      have wks : wrapI ((K : Int) + (s : Int)) = ((K + s : Nat) : Int) := by rw [wrapI_eq (by omega) (by omega)]; omega
      have grow : ∀ (z' M B : List El) (m : Nat), z' = z.take K ++ M ++ B → M.length = m → M.Perm (sg z K s ++ sg z (K + s) s) → M.Pairwise (Ah c) → (m = 2 * s ∨ B = []) → m ≤ 2 * s → Chunks c (2 * s) z' z0 (k + 1) := fun z' M B m hz' hm hp hso hmB hm2 => by
        have e : sg z' K (2 * s) = M := by
          subst hz'
          rcases hmB with h | h
          · exact sg_self la4 (by omega)
          · subst h; rw [List.append_nil]; exact sg_last la4 (by omega)
        have e0 : sg z0 K (2 * s) = sg z0 K s ++ sg z0 (K + s) s := by rw [show 2 * s = s + s by omega, sg_app]
        have el : ∀ i, i < k → sg z' (i * (2 * s)) (2 * s) = sg z (i * (2 * s)) (2 * s) := fun i h => by
          have hle : i * (2 * s) + 2 * s ≤ K := by
            have := Nat.mul_le_mul_right (2 * s) (show i + 1 ≤ k from h)
            rw [Nat.add_mul, hK, Nat.one_mul] at this; exact this
          have h1 : sg z (i * (2 * s)) (2 * s) = sg (z.take K) (i * (2 * s)) (2 * s) := by
            conv => lhs; rw [show z = z.take K ++ z.drop K ++ [] by rw [List.append_nil, List.take_append_drop]]
            exact sg_left (by rw [la4]; exact hle)
          rw [h1, hz', sg_left (by rw [la4]; exact hle)]
        constructor
        · intro i hi
          rcases Nat.lt_succ_iff_lt_or_eq.1 hi with h | rfl
          · rw [el i h]; exact hch4.perm i h
          · rw [hK, e, e0]; exact hp.trans (p1.append p2)
        · intro i hi
          rcases Nat.lt_succ_iff_lt_or_eq.1 hi with h | rfl
          · rw [el i h]; exact hch4.sort i h
          · rw [hK, e]; exact hso
      refine ⟨fun hle => ?_, fun hgt4 => ?_⟩
      · have hs4 : z = z.take K ++ sg z K s ++ sg z (K + s) s ++ z.drop (K + 2 * s) := by
          have := sg_split z K (2 * s)
          rw [show 2 * s = s + s by omega, sg_app] at this
          rw [show 2 * s = s + s by omega]
          simpa only [List.append_assoc] using this
        have l1 : (sg z K s).length = s := sg_len (by omega)
        have l2 : (sg z (K + s) s).length = s := sg_len (by omega)
        rw [wks]
        rw [hs4] at hB4
        refine SE.slices_symMergeCmpFunc_apiWant.go (symMerge_se hO hd (by omega) _ (P := z.take K) (L := sg z K s) (X := sg z (K + s) s) (Q := z.drop (K + 2 * s)) (Nat.le_refl _) (hc.but b4) (by rw [← hs4, hzl4]; exact hlen) hB4 (by rw [la4]) (by rw [la4, l1]) (by rw [la4, l1, l2]; omega) (by omega) (by omega) s1 s2 hids fun w5 M b5 hp hso hB5 => ⟨rfl, ?_⟩)
        have hMl : M.length = 2 * s := by rw [hp.length_eq, List.length_append]; omega
        rw [wrapI_eq (by omega) (by omega)]
        have hK1 : (k + 1) * (2 * s) = K + 2 * s := by rw [Nat.add_mul, hK, Nat.one_mul]
        refine ⟨⟨k + 1, z.take K ++ M ++ z.drop (K + 2 * s), by omega, by omega, by omega, ?_, ?_, grow _ M _ (2 * s) rfl hMl hp hso (.inl rfl) (Nat.le_refl _), b4.trans b5, hB5⟩, by show _ - Int.toNat _ < _ - Int.toNat _; omega⟩
        · simp only [List.length_append, List.length_drop, la4, hMl]; omega
        · rw [hK1, List.drop_left' (by rw [List.length_append, la4, hMl]), ← List.drop_drop, hdr4, List.drop_drop]
      · refine join.named fun J hJ => ?_
        have kJ : ∀ w' z', But g w w' → z'.length = z0.length → Chunks c (2 * s) z' z0 (k + 1) → RowB fc w' g z' tail → J w' := fun w' z' b' hl' hch' hB' => by
          subst hJ
          have e : wrapI ((s : Int) * 2) = ((2 * s : Nat) : Int) := by rw [wrapI_eq (by omega) (by omega)]; omega
          rw [e]
          have hK1 : (k + 1) * (2 * s) = K + 2 * s := by rw [Nat.add_mul, hK, Nat.one_mul]
          refine ⟨⟨2 * s, z', rfl, by omega, by omega, hl', fun j => ⟨fun i _ => ?_, fun i _ => ?_⟩, b', hB'⟩, by show _ - Int.toNat _ < _ - Int.toNat _; omega⟩
          · by_cases h : i < k + 1
            · exact hch'.perm i h
            · have := Nat.mul_le_mul_right (2 * s) (show k + 1 ≤ i by omega)
              rw [sg_nil (by omega), sg_nil (by omega)]
          · by_cases h : i < k + 1
            · exact hch'.sort i h
            · have := Nat.mul_le_mul_right (2 * s) (show k + 1 ≤ i by omega)
              rw [sg_nil (by omega)]
              exact .nil
        rw [wks]
        have hdK : z.drop K = sg z K s ++ sg z (K + s) s := by
          rw [← sg_app]; unfold sg; rw [List.take_of_length_le (by rw [List.length_drop]; omega)]
        refine ⟨fun hlt4 => ?_, fun hge4 => ?_⟩
        · have hs4 : z = z.take K ++ sg z K s ++ sg z (K + s) s ++ [] := by
            rw [List.append_nil, List.append_assoc, ← hdK, List.take_append_drop]
          have l1 : (sg z K s).length = s := sg_len (by omega)
          have l2 : (sg z K s).length + (sg z (K + s) s).length = z0.length - K := by rw [← List.length_append, ← hdK, List.length_drop, hzl4]
          rw [hs4] at hB4
          refine SE.slices_symMergeCmpFunc_apiWant.go (symMerge_se hO hd (by omega) _ (P := z.take K) (L := sg z K s) (X := sg z (K + s) s) (Q := []) (Nat.le_refl _) (hc.but b4) (by rw [← hs4, hzl4]; exact hlen) hB4 (by rw [la4]) (by rw [la4, l1]) (by rw [la4]; omega) (by omega) (by omega) s1 s2 hids fun w5 M b5 hp hso hB5 => ⟨rfl, ?_⟩)
          have hMl : M.length = z0.length - K := by rw [hp.length_eq, List.length_append]; exact l2
          exact kJ w5 _ (b4.trans b5) (by simp only [List.length_append, List.length_nil, la4, hMl]; omega) (grow _ M [] _ rfl hMl hp hso (.inr rfl) (by omega)) hB5
        · have e0 : sg z (K + s) s = [] := sg_nil (by omega)
          refine kJ w4 z b4 hzl4 (grow z (z.drop K) [] _ (by rw [List.append_nil, List.take_append_drop]) rfl (by rw [hdK]) ?_ (.inr rfl) (by rw [List.length_drop]; omega)) hB4
          rw [hdK, e0, List.append_nil]; exact s1
    · have e : sg z2 (0 * s) s = z2 := by rw [Nat.zero_mul]; unfold sg; rw [List.drop_zero, List.take_of_length_le (by omega)]
      have e0 : sg z0 (0 * s) s = z0 := by rw [Nat.zero_mul]; unfold sg; rw [List.drop_zero, List.take_of_length_le (by omega)]
      have p := (hch2 1).perm 0 (by omega); have so := (hch2 1).sort 0 (by omega)
      rw [e] at p so
      rw [e0] at p
      exact hR w3 z2 b3 p so hB3
theorem sortStable_se (hO : Ord3 c) {data : Sl} {tail : List Value} {w : World} {R : World → Prop} {l : List WantC} (hd : data.a = some ⟨g, 0, none⟩) (hbig : data.len < 2305843009213693952) (hc : CmpOk cmp c g w) (hlen : data.len = l.length) (hB : RowB cells w g l tail)
    (hR : ∀ w', But g w w' → RowB cells w' g (stSort c l) tail → R w') : SE.slices_SortStableFunc_apiWantapiWant data cmp w R := by
  unfold SE.slices_SortStableFunc_apiWantapiWant
  have hB' : RowB fc w g (nums 0 l) tail := by
    unfold RowB at hB ⊢
    have : (nums 0 l).map fc = l.map cells := by
      have h := congrArg (List.map cells) (nums_fst 0 l)
      rw [List.map_map] at h; exact h
    rw [this]; exact hB
  refine SE.slices_stableCmpFunc_apiWant.go (stable_se hO hd hbig hc (by rw [nums_len]; exact hlen) (by rw [nums_len, hlen]) hB' (nums_rise 0 l) fun w2 M b2 hp hs hB2 => ⟨rfl, hR w2 b2 ?_⟩)
  have e := stSort_of hO hp hs
  unfold RowB at hB2 ⊢
  have : M.map fc = (stSort c l).map cells := by rw [← e, List.map_map]; rfl
  rw [← this]; exact hB2
theorem sortStable_nil {data : Sl} {w : World} {R : World → Prop} (h0 : data.len = 0) (hR : R w) : SE.slices_SortStableFunc_apiWantapiWant data cmp w R := by
  unfold SE.slices_SortStableFunc_apiWantapiWant
  rw [h0]
  refine SE.slices_stableCmpFunc_apiWant.go ?_
  unfold SE.slices_stableCmpFunc_apiWant
  refine ⟨fun a b w' => a = 0 ∧ b = 20 ∧ w' = w, fun _ _ _ => 0, ⟨rfl, rfl, rfl⟩, ?_⟩
  rintro _ _ w1 ⟨rfl, rfl, hw1⟩
  subst hw1
  refine ⟨fun h => by simp at h, fun _ => SE.slices_insertionSortCmpFunc_apiWant.go ?_⟩
  unfold SE.slices_insertionSortCmpFunc_apiWant
  refine ⟨fun a w' => a = 1 ∧ w' = w1, fun _ _ => 0, ⟨by decide, rfl⟩, ?_⟩
  rintro _ w2 ⟨rfl, hw2⟩
  subst hw2
  refine ⟨fun h => by simp at h, fun _ => ⟨rfl, ?_⟩⟩
  refine ⟨fun a w' => a = 20 ∧ w' = w2, fun _ _ => 0, ⟨rfl, rfl⟩, ?_⟩
  rintro _ w3 ⟨rfl, hw3⟩
  subst hw3
  exact ⟨fun h => by simp at h, fun _ => ⟨rfl, hR⟩⟩
end
end StW
end Go.Hal
namespace Go.Hal
open Go Go.RowKit Go.Proofs Go.Shelf
theorem may_lists {x : Pack} (h : packMay x = true) : nameMay x.name = true ∧ x.v.may = true ∧ depsMay x.deps = true ∧ depsMay x.peers = true ∧ depsMay x.opt = true := by
  unfold packMay listsMay at h
  simp only [Bool.and_eq_true] at h
  exact ⟨h.1.1.1.1.1, h.1.1.1.1.2, h.1.1.1.2, h.1.1.2, h.1.2⟩
theorem peers_names (over l : List Dep) : (peersOf over l).map (·.name) = l.map (·.name) := by unfold peersOf; rw [List.map_map]; rfl
theorem ctx_bound {L : List Pack} (hg : GoodL L) {over : List Dep} {env : List Pin} {p : Pin} {i : Nat} {out : List Pin} (h : CtxI (getL L) over env p i out) : out.length ≤ 2048 := by
  have h1 := nodup_le (m := L.flatMap fun x => x.peers.map (·.name)) h.names fun n hn => by
    obtain ⟨r, hr, rfl⟩ := List.mem_map.1 hn
    have key : ∀ r, Reach (getL L) over env p r → r.name ∈ L.flatMap fun x => x.peers.map (·.name) := fun r hr => by
      have ask : ∀ q r, Asks (getL L) over env q r → r.name ∈ L.flatMap fun x => x.peers.map (·.name) := fun q r ⟨x, d, hx, hd, hn, _⟩ => by
        refine List.mem_flatMap.2 ⟨x, (getL_some hx).1, ?_⟩
        rw [← peers_names over, hn]
        exact List.mem_map_of_mem hd
      cases hr with
      | one ha => exact ask _ _ ha
      | more _ ha => exact ask _ _ ha
    exact key r (h.reach r hr)
  have h2 : ∀ L : List Pack, (∀ x ∈ L, packMay x = true) → (L.flatMap fun x => x.peers.map (·.name)).length ≤ 16 * L.length := fun L => by
    induction L with
    | nil => intro _; simp
    | cons x r ih =>
      intro h
      have := ih fun y hy => h y (.tail _ hy)
      have := (depsMay_names (may_lists (h x (.head _))).2.2.2.1).1
      simp only [List.flatMap_cons, List.length_append, List.length_map, List.length_cons]; omega
  have h3 := h2 L hg.may
  have := hg.le
  rw [List.length_map] at h1
  omega
def pinC (p : Pin) : List Value := [.string p.name, .int .i64 p.v.ma, .int .i64 p.v.mi, .int .i64 p.v.pa]
def Apart (s t : Sl) : Prop := ∀ ad ad', s.a = some ad → t.a = some ad' → ad.block ≠ ad'.block
theorem OwnS.pushA {α β : Type} {E : Enc α} {F : Enc β} {P : Program} {w : World} {t e e2 : TypeId} {lo : Nat} {s s2 : Sl} {l : List α} {l2 : List β} {x : α} {cs : List Value} {a : Addr} {k : Sl → World → Prop} (h : OwnS E e w lo None' s l) (h2 : OwnS F e2 w lo None' s2 l2) (hA : Apart s s2) (hlo : lo ≤ w.heap.size) (hT : ApT P t e E.n E.bytes)
    (hx : E.rep w None' x cs) (hc : ldc w a cs) (hb : (l.length + 1) * E.bytes ≤ room) (hm : l.length + 1 ≤ maxLen) (hk : ∀ r w', OwnS E e w' lo None' r (l ++ [x]) → OwnS F e2 w' lo None' s2 l2 → Apart r s2 → Below lo w w' → (∀ b, b < w.heap.size → (∀ ad, s.a = some ad → b ≠ ad.block) → w'.heap[b]? = w.heap[b]?) → (∀ ad, r.a = some ad → (s.a = some ad ∨ w.heap.size ≤ ad.block)) → k r w') : appS P t t s (Sl.v ⟨some a, 1, 1⟩) w k := by
  refine h.push hT hlo hx hc (fun _ h => h.elim) (fun _ _ h => h.elim) hb hm fun r w' own bel oth reg => hk r w' (own.mono (fun _ h => h.elim id id) (fun _ h => h.elim) (fun _ _ h => h.elim)) (h2.keep bel.size fun b hbl hb' => ?_) (fun ad ad' h3 h4 => ?_) bel oth reg
  · rcases hb' with hb' | ⟨ad, ha, rfl⟩
    · exact hb'.elim
    · exact oth _ hbl fun ad' h' => Ne.symm (hA _ _ h' ha)
  · rcases reg ad h3 with h5 | h5
    · exact hA _ _ h5 h4
    · have := (h2.block h4).2.1; omega
theorem Apart.swap {s t : Sl} (h : Apart s t) : Apart t s := fun a b h1 h2 => Ne.symm (h b a h2 h1)
theorem newS.own {α : Type} {E : Enc α} {w : World} {cs : List Value} {t : TypeId} {x : α} {k : Addr → World → Prop} (hx : E.rep w None' x cs) (h : ∀ a w', Ext w w' → OwnS E t w' w.heap.size None' ⟨some a, 1, 1⟩ [x] → a.block = w.heap.size → k a w') : newS w cs t k := fun a w' ha hw => by
  subst ha hw
  have hl := E.len hx
  refine h _ _ (Ext.alloc _ _) ⟨⟨[cs], ⟨by simp [hl], .inr ⟨w.heap.size, 1, cs.toArray, rfl, Nat.le_refl _, heap_alloc_new w _, Nat.le_refl _, by rw [maxLen_eq]; omega, by simp [hl], ?_⟩⟩, rfl, fun i y hy => ?_⟩, rfl, fun _ h => h.elim, fun _ _ h => h.elim⟩ rfl
  · simp [hl, List.take_of_length_le (Nat.le_of_eq hl)]
  · cases i with
    | zero =>
      simp only [List.getElem?_cons_zero, Option.some.injEq] at hy
      subst hy
      exact ⟨cs, rfl, E.keep hx ((Ext.alloc w _).keep _)⟩
    | succ i => simp at hy
theorem apPin : ApT Tryz.prog 28 32 4 40 := apT_mk (z := .agg #[.string ⟨#[]⟩, .int .i64 0, .int .i64 0, .int .i64 0]) (by kernel_rfl) (by kernel_rfl) rfl (by decide)
theorem ctx11_se {q : Pin} {n : ByteArray} {c0 : Addr} {w : World} {R : Bool → World → Prop} (hc : BoxAt w c0 [.string n]) (hR : ∀ w', Ext w w' → R (isN n q) w') : SE.wants_Context_1_1 q.name q.v.ma q.v.mi q.v.pa c0 w R := by
  unfold SE.wants_Context_1_1
  refine newS.intro fun a w1 x1 hb _ _ => ⟨_, hb.at0 (Ext.refl _) rfl, n, hc.at0 (r := []) x1 rfl, ?_⟩
  have e : bEq q.name n = isN n q := by
    unfold isN
    rw [Bool.eq_iff_iff, bEq_iff, decide_eq_true_eq]
  rw [e]; exact hR _ x1
theorem enters_ctx11 : Enters Tryz.prog 51 := enters_of Tryz.func51 (by kernel_rfl) rfl
theorem ctx1_se {n : ByteArray} {w : World} {R : Value → World → Prop} (hR : ∀ f w', Ext w w' → (∀ l : List Pin, Tells f (fun x => .agg #[.string x.name, .int .i64 x.v.ma, .int .i64 x.v.mi, .int .i64 x.v.pa]) (isN n) l w') → R f w') : SE.wants_Context_1 n w R := by
  unfold SE.wants_Context_1
  refine newS.intro fun a w1 x1 hb _ _ => hR _ w1 x1 fun l x _ w' k hx hk => ⟨_, _, rfl, enters_ctx11, SE.wants_Context_1_1.go (ctx11_se (q := x) (n := n) (hb.ext hx) hk)⟩
theorem ctx2_gr {a b : Pin} {w : World} {R : Int → World → Prop} (hR : ∀ w', Gr w w' → R (cmpS a.name b.name) w') : SE.wants_Context_2 a.name a.v.ma a.v.mi a.v.pa b.name b.v.ma b.v.mi b.v.pa w R := by
  unfold SE.wants_Context_2
  refine newS.gr fun _ w1 x1 hb => newS.gr fun _ w2 x2 hb2 => ⟨_, Gr.at0 hb x2 rfl, _, Gr.at0 hb2 (Gr.refl _) rfl, strCmp_k ⟨_, rfl, hR _ (x1.trans x2)⟩⟩
theorem entersCtx2 : Enters Tryz.prog 56 := enters_of Tryz.func56 (by kernel_rfl) rfl
theorem isAggP : ∀ w, (isAgg 32).run Tryz.prog w = .ok true w := fun w => by kernel_rfl
theorem sizeOfP : ∀ w, (Go.sizeOf 32).run Tryz.prog w = .ok 4 w := fun w => by kernel_rfl
theorem sortPinF_k {w : World} {lo : Nat} {s : Sl} {l : List Pin} {K : Value → World → Prop} (h : FlatO pinC 40 w lo s l) (hlo : lo ≤ w.heap.size) (hn : (l.map (·.name)).Nodup)
    (hK : ∀ w', Below lo w w' → FlatO pinC 40 w' lo s (sortN l) → K (.tuple #[]) w') :
    callS Tryz.prog 55 [Sl.v s, .func (.func 56) #[] #[]] w K := by
  obtain ⟨h1, h2, h3, h4, h5⟩ := h
  obtain ⟨a, n, c⟩ := s
  simp only at h1 h2 h3 h5
  subst h1
  rcases h5 with rfl | ⟨g, tail, ha, hg, hr⟩
  · refine (AnyF.slices_SortFunc_none Tryz.laySp a c _ w).mono fun e w' ⟨he, hw⟩ => ⟨_, he, ?_⟩
    subst hw
    exact hK _ (Below.refl _ _) ⟨rfl, h2, h3, h4, .inl rfl⟩
  · subst ha
    have hO := cmpS_ord (α := Pin) (·.name)
    refine sortFunc_k Tryz.laySp (k := 4) isAggP sizeOfP (f := pinC) (fun _ => rfl) (fun x v hv => by simp [pinC] at hv; rcases hv with rfl | rfl | rfl | rfl <;> rfl) (fun a b => cmpS a.name b.name) (swo_ltOf hO.flip hO.trans) 56 #[] entersCtx2 (fun w0 x y hb _ => ?_) hr (by unfold room at h4; omega) rfl fun l' w' hp hs b hr' => ?_
    · have h := SE.wants_Context_2.go (k := fun v w' => v = .int .i64 (cmpS x.name y.name) ∧ Gr w0 w') (ctx2_gr (a := x) (b := y) (w := w0) fun w' h => ⟨rfl, h⟩)
      exact Calls.mono h fun e w' ⟨v, he, hv, hg⟩ => ⟨by rw [he, hv], hg⟩
    · have e : l' = sortN l := by
        refine Rises.one ?_ (sortN_rises hn) (hp.trans (sortN_perm l).symm)
        have hn' : (l'.map (·.name)).Nodup := (hp.map _).nodup_iff.2 hn
        rw [List.nodup_iff_pairwise_ne, List.pairwise_map] at hn'
        exact (hs.and hn').imp fun {a b} h => bLt_of (by have := hO.flip b a; have := hO.flip a b; omega) h.2
      subst e
      have hl := (sortN_perm l).length_eq
      exact hK w' (b.below hlo hg) ⟨hl.symm, by rw [hl]; exact h2, h3, by rw [hl]; exact h4, .inr ⟨g, tail, rfl, hg, hr'⟩⟩
end Go.Hal
namespace Go.Hal
open Go Go.RowKit Go.Proofs Go.Shelf
theorem pinEl {w : World} {S : Nat → Prop} {s : Sl} {l : List Pin} (h : SlR pinE w S s l) {n : Nat} (hn : n < l.length) :
    ∃ ad, s.a = some ad ∧ S ad.block ∧ Str l[n].name ∧ ∀ w', Ext w w' → ldc w' (ad.add (n * 4)) (pinC l[n]) := by
  obtain ⟨ad, cs, h1, h2, ⟨rfl, h3⟩, h4⟩ := h.el hn
  exact ⟨ad, h1, h2, h3, h4⟩
theorem OwnS.el {α : Type} {E : Enc α} {T : TypeId} {w : World} {lo : Nat} {S : Nat → Prop} {s : Sl} {l : List α} (h : OwnS E T w lo S s l) {i : Nat} {x : α} (hx : l[i]? = some x) : ∃ ad cs, s.a = some ad ∧ E.rep w S x cs ∧ ∀ w', Ext w w' → ldc w' (ad.add (i * E.n)) cs := by
  obtain ⟨css, ho, hl, hr⟩ := h.row
  obtain ⟨cs, h1, h2⟩ := hr i x hx
  rcases ho.2 with ⟨hv, hn⟩ | ⟨g, cap, cur, hv, hg, hh, hc, hcm, hcs, ht⟩
  · have := (List.getElem?_eq_some_iff.1 hx).1
    have := h.len
    omega
  · simp [Sl.v] at hv
    refine ⟨⟨g, 0, none⟩, cs, hv.1, h2, fun w' hxt => ?_⟩
    have hall : ∀ cs ∈ css, cs.length = E.n := by
      intro cs hcs
      obtain ⟨k, hk, he⟩ := List.mem_iff_getElem.1 hcs
      obtain ⟨cs', h3, h4⟩ := hr k _ (List.getElem?_eq_getElem (by omega))
      rw [List.getElem?_eq_getElem hk, he, Option.some.injEq] at h3
      rw [h3]; exact E.len h4
    have : ldc w ((⟨g, 0, none⟩ : Addr).add (i * E.n)) cs := fun j v hj => by
      rw [add_add]
      exact ho.cells (g := g) (by simp [Value.ownBlock, Sl.v, hv.1]) _ _ (flatten_get hall h1 hj)
    exact this.ext hxt
theorem tells_idx {env : List Pin} {n : ByteArray} : (idxI (isN n) env < 0 ∧ tells env n = none) ∨ ∃ k, ∃ hk : k < env.length, idxI (isN n) env = (k : Int) ∧ tells env n = some env[k].v ∧ env[k].name = n := by
  unfold idxI tells
  cases hf : env.findIdx? (isN n) with
  | none =>
    left
    refine ⟨by decide, ?_⟩
    rw [Option.map_eq_none_iff, List.find?_eq_none]
    intro x hx
    have := List.findIdx?_eq_none_iff.1 hf x hx
    simp [this]
  | some k =>
    right
    obtain ⟨hk, hp, hb⟩ := List.findIdx?_eq_some_iff_getElem.1 hf
    refine ⟨k, hk, rfl, ?_, by simpa [isN] using hp⟩
    have h0 : (env.take k).find? (isN n) = none := by
      rw [List.find?_eq_none]
      intro x hx
      obtain ⟨j, hj, rfl⟩ := List.mem_iff_getElem.1 hx
      rw [List.length_take] at hj
      rw [List.getElem_take]
      exact hb j (by omega)
    have h1 : (env.take (k + 1)).find? (isN n) = some env[k] := by
      rw [List.take_succ_eq_append_getElem hk, List.find?_append, h0]
      simp [List.find?_cons, hp]
    have h2 : env.find? (isN n) = some env[k] := by
      have e : env.find? (isN n) = (env.take (k + 1) ++ env.drop (k + 1)).find? (isN n) := by rw [List.take_append_drop]
      rw [e, List.find?_append, h1]; rfl
    rw [h2]; rfl
def ctxRes (L : List Pack) (over : List Dep) (env : List Pin) (p : Pin) : Option (List Pin) := ctx (getL L) over env p
def Kp (lo c d : Nat) (w w' : World) : Prop := Below lo w w' ∧ ∀ b, c ≤ b → b < d → w'.heap[b]? = w.heap[b]?
theorem Kp.refl (lo c d : Nat) (w : World) : Kp lo c d w w := ⟨Below.refl _ _, fun _ _ _ => rfl⟩
theorem Kp.trans {lo c d : Nat} {u v w : World} (h : Kp lo c d u v) (k : Kp lo c d v w) : Kp lo c d u w := ⟨Below.trans h.1 k.1, fun b h1 h2 => (k.2 b h1 h2).trans (h.2 b h1 h2)⟩
theorem Kp.ext {lo c d : Nat} {u v w : World} (h : Kp lo c d u v) (hx : Ext v w) (h1 : lo ≤ v.heap.size) (h2 : d ≤ v.heap.size) : Kp lo c d u w := h.trans ⟨Below.mono hx h1, fun b _ h3 => hx.block (by omega)⟩
set_option maxHeartbeats 8000000 in
theorem wantsContext_se {S S2 : Nat → Prop} {p : Addr} {r : Nat} {L : List Pack} {mD mDev mOpt mOv envS : Sl} {over : List Dep} {env : List Pin} {pn : Pin} {S3 : Nat → Prop} {w : World} {R : Sl → Bool → World → Prop}
    (hC : CatL w S p r L) (hS2 : Old S2 w) (hS3 : Old S3 w) (hO : SlR depE w S2 mOv over) (hE : SlR pinE w S3 envS env) (hpn : Str pn.name)
    (hsome : ∀ a t w', ctxRes L over env pn = some a → Ext w w' → FlatO pinC 40 w' w.heap.size t a → (∀ q ∈ a, Str q.name) → R t true w') (hnone : ∀ w', ctxRes L over env pn = none → Ext w w' → R Sl.nil false w') :
    SE.wants_Context (some p) mD mDev mOpt mOv envS pn.name pn.v.ma pn.v.mi pn.v.pa w R := by
  unfold SE.wants_Context
  have hgood := hC.good
  refine newS.intro fun a w1 x1 ha _ _ => newS.intro fun a1 w2 x2 ha1 _ _ => ⟨(fun h => by cases h), fun _ => ?_⟩
  have x02 := x1.trans x2
  have ePb : pinE.bytes = 40 := rfl
  have hEl := hE.len
  have s02 := x02.size
  have upE : ∀ w', Below w2.heap.size w2 w' → Ext w w' := fun w' hb => x02.trans' (Below.mono hb s02)
  have ha2 := ha.ext x2
  refine ⟨_, _, _, _, ha1.ldc.pre (r := []) rfl, newS.own (E := pinE) (x := pn) ⟨rfl, hpn⟩ fun a3 w4 x4 own0 h3b => ?_⟩
  refine loop3.ghost (fun n all con i w' => ∃ (out : List Pin) (k : Nat), i = (k : Int) ∧ n = env.length + 2 - k ∧ CtxI (getL L) over env pn k out ∧ ctxGo (getL L) over env pn (env.length + 2 - k) k out = ctxGo (getL L) over env pn (env.length + 2) 0 [] ∧ (∀ q ∈ pn :: out, Str q.name) ∧
      Below w2.heap.size w2 w' ∧ OwnS pinE 32 w' w2.heap.size None' all (pn :: out) ∧ OwnS pinE 32 w' w2.heap.size None' con out ∧ Apart con all) (env.length + 2)
    ⟨[], 0, rfl, rfl, CtxI.zero, rfl, by simpa using hpn, x4, own0, (OwnS.nil _ _).mono (fun _ h => h) (fun _ h => h.elim) (fun _ h => by cases h), fun _ _ h => by cases h⟩ fun n all con i w5 nxt hJ hn => ?_
  obtain ⟨out, k, rfl, rfl, hI, hgo, hStr, b5, oA, oC, hAp⟩ := hJ
  have hAl := oA.len
  have hCl := oC.len
  have hle := hI.le
  have hlen := hI.len
  have hbd := ctx_bound hgood hI
  have s5 := b5.size
  refine ⟨fun hlt => join.named fun J hJ => ?_, fun hge => ?_⟩
  · have hk : k < (pn :: out).length := by omega
    have hk' : k < out.length + 1 := hk
    have hqk : (pn :: out)[k]? = some (pn :: out)[k] := List.getElem?_eq_getElem hk
    have hqS : Str (pn :: out)[k].name := hStr _ (List.getElem_mem hk)
    generalize hq : (pn :: out)[k] = q at *
    have hf : env.length + 2 - k = (env.length + 1 - k) + 1 := by omega
    have kJ : ∀ a6 w6 d e o, Ext w5 w6 → BoxAt w6 a6 [.string (getD L q.name q.v).name, .int .i64 (getD L q.name q.v).v.ma, .int .i64 (getD L q.name q.v).v.mi, .int .i64 (getD L q.name q.v).v.pa, Sl.v d, Sl.v e, Sl.v o] →
        SlR depE w6 (fun b => b < w6.heap.size) e (getD L q.name q.v).peers → J a6 (getL L q.name q.v).isSome w6 := fun a6 w6 d e o x6 hb6 he => by
      subst hJ
      have b6 : Below w2.heap.size w2 w6 := Below.trans b5 (Below.mono x6 s5)
      have s6 := b6.size
      have s56 := x6.size
      refine ⟨fun h => ?_, fun h => ?_⟩
      · refine hnone w6 ?_ (upE _ b6)
        have hg : getL L q.name q.v = none := by
          cases hg : getL L q.name q.v with
          | none => rfl
          | some y => rw [hg] at h; simp at h
        rw [hf, ctxGo_none hqk hg] at hgo
        unfold ctxRes ctx
        rw [← hgo]; rfl
      · obtain ⟨y, hg⟩ : ∃ y, getL L q.name q.v = some y := by
          cases hg : getL L q.name q.v with
          | none => rw [hg] at h; simp at h
          | some y => exact ⟨y, rfl⟩
        have hD : getD L q.name q.v = y := by unfold getD; rw [hg]; rfl
        rw [hD] at hb6 he
        have hyL := (getL_some hg).1
        have hdm := depsMay_names (may_lists (hgood.may y hyL)).2.2.2.1
        refine ⟨_, _, _, _, _, _, _, hb6.ldc.pre (r := []) rfl, mD, mDev, mOpt, mOv, (ha2.below b6 ha2.lt).ldc.pre (r := []) rfl, ?_⟩
        have hOldB : Old (fun b => b < w6.heap.size) w6 := fun b hb => hb
        have hO6 : SlR depE w6 (fun b => b < w6.heap.size) mOv over := (hO.ext (upE _ b6)).mono fun b hb => Nat.lt_of_lt_of_le (hS2 b hb) (upE _ b6).size
        refine SE.wants_Peers.go (wantsPeers_se hOldB hO6 he fun t w7 x7 ht => ⟨_, rfl, ?_⟩)
        have b7 : Below w2.heap.size w2 w7 := Below.trans b6 (Below.mono x7 s6)
        have s7 := x7.size
        have hT := ht.dep
        have hTl := hT.len
        have hpl : (peersOf over y.peers).length ≤ 16 := by unfold peersOf; rw [List.length_map]; exact hdm.1
        have hnext : ∀ out', ctxStep env (peersOf over y.peers) out = some out' → CtxI (getL L) over env pn (k + 1) out' ∧ ctxGo (getL L) over env pn (env.length + 2 - (k + 1)) (k + 1) out' = ctxGo (getL L) over env pn (env.length + 2) 0 [] := fun out' hs => by
          refine ⟨hI.next hqk hg hs, ?_⟩
          rw [← hgo, hf, ctxGo_next hqk hg hs, show env.length + 2 - (k + 1) = env.length + 1 - k by omega]
        have hfail : ctxStep env (peersOf over y.peers) out = none → ctxRes L over env pn = none := fun hs => by
          rw [hf, ctxGo_fail hqk hg hs] at hgo
          unfold ctxRes ctx
          rw [← hgo]; rfl
        generalize hP : peersOf over y.peers = P at *
        have oA7 := oA.ext (x6.trans x7)
        have oC7 := oC.ext (x6.trans x7)
        refine loop3.ghost (fun n2 all2 con2 j w' => ∃ (o2 : List Pin) (m : Nat), j = (m : Int) ∧ n2 = P.length - m ∧ m ≤ P.length ∧ ctxStep env (P.drop m) o2 = ctxStep env P out ∧ o2.length ≤ out.length + m ∧ (∀ q ∈ pn :: o2, Str q.name) ∧
          Kp w2.heap.size w6.heap.size w7.heap.size w7 w' ∧ OwnS pinE 32 w' w2.heap.size None' all2 (pn :: o2) ∧ OwnS pinE 32 w' w2.heap.size None' con2 o2 ∧ Apart con2 all2 ∧
          (∀ ad, all2.a = some ad → ad.block < w6.heap.size ∨ w7.heap.size ≤ ad.block) ∧ ∀ ad, con2.a = some ad → ad.block < w6.heap.size ∨ w7.heap.size ≤ ad.block) P.length
          ⟨out, 0, rfl, rfl, Nat.zero_le _, rfl, by omega, hStr, Kp.refl _ _ _ _, oA7, oC7, hAp, fun ad h => .inl (by have := (oA.block h).2.1; omega), fun ad h => .inl (by have := (oC.block h).2.1; omega)⟩ fun n2 all2 con2 j w8 nxt2 hJ2 hn2 => ?_
        obtain ⟨o2, m, rfl, rfl, hm, hst, hol, hStr2, k8, oA2, oC2, hAp2, hra, hrc⟩ := hJ2
        have b8 : Below w2.heap.size w2 w8 := Below.trans b7 k8.1
        have s8 := k8.1.size
        have hT8 : SlR depE w8 (fun b => w6.heap.size ≤ b ∧ b < w7.heap.size) t P := hT.keep fun b hb _ => k8.2 b hb.1 hb.2
        refine ⟨fun hlt2 => join.named fun J2 hJ2 => ?_, fun hge2 => ?_⟩
        · have hmP : m < P.length := by omega
          obtain ⟨ad, tr, hta, _, hnm, hrr, hcc⟩ := depEl hT8 hmP
          have hdrop : P.drop m = P[m] :: P.drop (m + 1) := List.drop_eq_getElem_cons hmP
          generalize hdd : P[m] = d1 at *
          rw [hdrop] at hst
          have kJ2 : ∀ all3 con3 o3 w9, ctxStep env (P.drop (m + 1)) o3 = ctxStep env P out → o3.length ≤ out.length + (m + 1) → (∀ q ∈ pn :: o3, Str q.name) → Kp w2.heap.size w6.heap.size w7.heap.size w7 w9 → OwnS pinE 32 w9 w2.heap.size None' all3 (pn :: o3) → OwnS pinE 32 w9 w2.heap.size None' con3 o3 → Apart con3 all3 →
              (∀ ad, all3.a = some ad → ad.block < w6.heap.size ∨ w7.heap.size ≤ ad.block) → (∀ ad, con3.a = some ad → ad.block < w6.heap.size ∨ w7.heap.size ≤ ad.block) → J2 all3 con3 w9 := fun all3 con3 o3 w9 q1 q2 q3 q4 q5 q6 q7 q8 q9 => by
            subst hJ2
            show nxt2 _ _ _ _
            rw [wrapI_eq (by omega) (by omega)]
            exact hn2 _ _ _ _ _ (by omega) ⟨o3, m + 1, by omega, rfl, by omega, q1, q2, q3, q4, q5, q6, q7, q8, q9⟩
          clear hJ2
          refine ⟨ad, ⟨hta, by omega, hlt2⟩, _, tr, hcc _ (Ext.refl _), newS.intro fun a18 w9 x9 hb9 h9b _ => stw0.intro hb9 (by simp) fun w10 b10 _ hb10 => ⟨_, hb10.ldc.pre rfl, ?_⟩⟩
          have x810 : Ext w8 w10 := b10.ext x9 (by omega)
          refine SE.wants_Context_1.go (ctx1_se fun f w11 x11 hT1 => ⟨_, rfl, ?_⟩)
          have x811 := x810.trans x11
          have hE8 := hE.ext (upE _ b8)
          refine SE.slices_IndexFunc_apiPinapiPin.go (idxPin_se (p := isN d1.name) (hE8.ext x811) (hT1 env) fun w12 x12 => ⟨_, rfl, bnd.drew fun w13 x13 => bound ?_⟩)
          have x813 := x811.trans (x12.trans x13)
          have b13 : Below w2.heap.size w2 w13 := Below.trans b8 (Below.mono x813 (by omega))
          have hb13 := hb10.ext (x11.trans (x12.trans x13))
          rcases tells_idx (env := env) (n := d1.name) with ⟨hneg, htn⟩ | ⟨kk, hkk, hidx, htk, hkn⟩
          · have hdec : decide (idxI (isN d1.name) env < 0) = true := by simpa using hneg
            rw [hdec]
            refine ⟨Sl.nil, (fun h => by cases h), ⟨0, 0, none⟩, (fun h => by cases h), 0, 0, 0, (fun h => by cases h), (fun h => by cases h), fun _ => ⟨fun _ => ?_, (fun h => by cases h)⟩⟩
            refine hnone w13 (hfail ?_) (upE _ b13)
            rw [← hst]; exact ctxStep_none htn
          · rw [hidx]
            have hdec : decide ((kk : Int) < 0) = false := by simp
            rw [hdec]
            obtain ⟨ae, hea, hS3e, _, hec⟩ := pinEl hE hkk
            refine ⟨tr, fun _ => hb13.at1 (k := 1) (Ext.refl _) rfl, ae, fun _ => ⟨hea, by omega, by omega⟩, _, _, _, fun _ => (hec _ (upE _ b13)).mid (k := 1) (r := []) rfl, gCall.named fun J3 hJ3 => ⟨fun _ => ?_, (fun h => by cases h)⟩⟩
            refine SE.span_In.go (spanIn_se (v := env[kk].v) (hrr.ext x813) fun w14 x14 => ⟨_, rfl, ?_⟩)
            have x814 := x813.trans x14
            subst hJ3
            refine ⟨fun h => ?_, fun h => ?_⟩
            · have hin : spansIn d1.range env[kk].v = false := by simpa using h
              rw [ctxStep_no htk hin] at hst
              exact hnone w14 (hfail hst.symm) (upE _ (Below.trans b8 (Below.mono x814 (by omega))))
            · have hin : spansIn d1.range env[kk].v = true := by simpa using h
              have hpin : (⟨d1.name, env[kk].v⟩ : Pin) = env[kk] := by rw [← hkn]
              have hStrK : Str env[kk].name := by rw [hkn]; exact hnm
              refine ⟨_, hb13.at0 (r := [Sl.v tr]) x14 rfl, SE.wants_Context_1.go (ctx1_se fun f2 w15 x15 hT2 => ⟨_, rfl, ?_⟩)⟩
              have x815 := x814.trans x15
              have oC15 := oC2.ext x815
              have hrd : SlR pinE w15 (fun b => True) con2 o2 := ((oC15.read (by rw [ePb]; unfold room; omega) (by rw [maxLen_eq]; omega))).mono fun _ _ => trivial
              refine SE.slices_ContainsFunc_apiPinapiPin.go (conPin_se (p := isN d1.name) hrd (hT2 o2) fun w16 x16 => ⟨_, rfl, fun h2 => ?_, fun h2 => ?_⟩)
              · have hany : o2.any (isN d1.name) = false := by simpa using h2
                rw [ctxStep_new htk hin hany, hpin] at hst
                have x816 := x815.trans x16
                have b16 : Below w2.heap.size w2 w16 := Below.trans b8 (Below.mono x816 (by omega))
                refine ⟨ae, ⟨hea, by omega, by omega⟩, _, _, _, _, hec _ (upE _ b16), newS.intro fun a48 w17 x17 hb17 _ _ => ?_⟩
                have x817 := x816.trans x17
                have hs17 := x817.size
                refine OwnS.pushA (x := env[kk]) (oC2.ext x817) (oA2.ext x817) hAp2 (by omega) apPin ⟨rfl, hStrK⟩ hb17.ldc (by rw [ePb]; unfold room; omega) (by rw [maxLen_eq]; omega) fun r1 w18 oC18 oA18 hAp18 bel18 oth18 reg18 => ?_
                have hs18 := bel18.size
                have b18 : Below w2.heap.size w2 w18 := Below.trans (Below.trans b8 (Below.mono x817 (by omega))) bel18
                refine ⟨ae, ⟨hea, by omega, by omega⟩, _, _, _, _, hec _ (upE _ b18), newS.intro fun a54 w19 x19 hb19 _ _ => ?_⟩
                have hs19 := x19.size
                refine OwnS.pushA (x := env[kk]) (oA18.ext x19) (oC18.ext x19) hAp18.swap (by omega) apPin ⟨rfl, hStrK⟩ hb19.ldc (by rw [ePb, List.length_cons]; unfold room; omega) (by rw [maxLen_eq, List.length_cons]; omega) fun r2 w20 oA20 oC20 hAp20 bel20 oth20 reg20 => ?_
                have hStr3 : ∀ q ∈ pn :: (o2 ++ [env[kk]]), Str q.name := fun q hq => by
                  rcases List.mem_cons.1 hq with rfl | hq
                  · exact hStr2 _ (.head _)
                  · rcases List.mem_append.1 hq with hq | hq
                    · exact hStr2 _ (.tail _ hq)
                    · simp at hq; subst hq; exact hStrK
                have k18 : Kp w2.heap.size w6.heap.size w7.heap.size w17 w18 := ⟨bel18, fun b h1 h2 => oth18 b (by omega) fun ad had => by
                  rintro rfl
                  rcases hrc ad had with h | h <;> omega⟩
                have k20 : Kp w2.heap.size w6.heap.size w7.heap.size w19 w20 := ⟨bel20, fun b h1 h2 => oth20 b (by omega) fun ad had => by
                  rintro rfl
                  rcases hra ad had with h | h <;> omega⟩
                refine kJ2 r2 r1 (o2 ++ [env[kk]]) w20 hst (by simp; omega) hStr3 ((((k8.ext x817 (by omega) (by omega)).trans k18).ext x19 (by omega) (by omega)).trans k20) oA20 oC20 hAp20.swap (fun ad had => ?_) (fun ad had => ?_)
                · rcases reg20 ad had with h | h
                  · exact hra ad h
                  · right; omega
                · rcases reg18 ad had with h | h
                  · exact hrc ad h
                  · right; omega
              · have hany : o2.any (isN d1.name) = true := by simpa using h2
                rw [ctxStep_old htk hin hany] at hst
                have x816 := x815.trans x16
                exact kJ2 _ _ o2 w16 hst (by omega) hStr2 (k8.ext x816 (by omega) (by omega)) (oA2.ext x816) (oC2.ext x816) hAp2 hra hrc
        · have hmP : m = P.length := by omega
          subst hmP
          rw [List.drop_length, ctxStep] at hst
          obtain ⟨c1, c2⟩ := hnext o2 hst.symm
          rw [wrapI_eq (by omega) (by omega)]
          exact hn _ _ _ _ _ (by omega) ⟨o2, k + 1, by omega, rfl, c1, c2, hStr2, b8, oA2, oC2, hAp2⟩
    clear hJ
    refine bnd.drew fun w59 x59 => ?_
    obtain ⟨aq, csq, haq, ⟨hcsq, _⟩, hlq⟩ := oA.el hqk
    subst hcsq
    have hC59 : CatL w59 S p r L := (hC.ext (upE _ b5)).ext x59
    have s59 := x59.size
    refine ⟨aq, ⟨haq, by omega, by omega⟩, _, (hlq _ x59).pre rfl, aq, ⟨haq, by omega, by omega⟩, _, _, _, (hlq _ x59).mid (k := 1) (r := []) rfl, ?_, ?_⟩
    · refine SE.catalog_Catalog_Get.go (catGet_se (n := q.name) (v := q.v) hC59 fun d e o w66 x66 _ _ he _ => ⟨_, _, _, _, _, _, _, _, rfl, newS.intro fun a69 w70 x70 hb70 h70 _ => stw0.intro hb70 (by simp) fun w71 b71 _ hb71 => ?_⟩)
      have x71 : Ext w66 w71 := b71.ext x70 (by omega)
      have hs71 := x71.size
      exact kJ a69 w71 d e o (x59.trans (x66.trans x71)) hb71 ((he.dep.ext x71).mono fun b hb => by omega)
    · refine newS.intro fun a72 w73 x73 hb73 h73 _ => SE.catalog_Catalog_Get.go (catGet_se (n := q.name) (v := q.v) (hC59.ext x73) fun d e o w74 x74 _ _ he _ => ⟨_, _, _, _, _, _, _, _, rfl, stw0.intro (hb73.ext x74) (by simp) fun w75 b75 _ hb75 => ?_⟩)
      have x75 : Ext w59 w75 := b75.ext (x73.trans x74) (by omega)
      have hs75 := b75.1
      have hl73 := hb73.lt
      exact kJ a72 w75 d e o (x59.trans x75) hb75 ((he.dep.but b75 (fun hb => by omega)).mono fun b hb => by omega)
  · have hkl : k = out.length + 1 := by simp at hAl; omega
    have hres : ctxRes L over env pn = some (sortN out) := by
      have hf : env.length + 2 - k = (env.length + 1 - k) + 1 := by omega
      have hnoq : (pn :: out)[k]? = none := List.getElem?_eq_none_iff.2 (by simp; omega)
      rw [hf, ctxGo_end hnoq] at hgo
      unfold ctxRes ctx
      rw [← hgo]; rfl
    have hF : FlatO pinC 40 w5 w2.heap.size con out := FlatO.of (E := pinE) (f := pinC) (bytes := 40) (fun x cs h => h.1) oC (by unfold room; omega)
    refine sortPinF_k hF s5 hI.names fun w6 b6 hF6 => ⟨rfl, ?_⟩
    refine SE.slices_Clip_apiPinapiPin.go ⟨clip_ok (by have := hF6.1; have := hF6.2.1; omega), _, rfl, hsome (sortN out) _ w6 hres (upE _ (Below.trans b5 b6)) ?_ fun q hq => hStr q (.tail _ ((sortN_perm out).mem_iff.1 hq))⟩
    obtain ⟨a, b, c, d, e⟩ := hF6.clip (k := 4)
    exact ⟨a, b, c, d, e.imp id fun ⟨g, tail, a, b, c⟩ => ⟨g, tail, a, by omega, c⟩⟩
end Go.Hal
namespace Go.Hal
open Go Go.RowKit Go.Proofs Go.Shelf
def catOf (l : List Pack) : List Pack := l.foldl (fun L x => (refPut L x).2) []
theorem CatL.stay {w w' : World} {S : Nat → Prop} {p : Addr} {r : Nat} {L : List Pack} (h : CatL w S p r L) (hsz : w.heap.size ≤ w'.heap.size) (hk : ∀ b, b < w.heap.size → (S b ∨ b = p.block ∨ b = r) → w'.heap[b]? = w.heap[b]?) : CatL w' S p r L := by
  obtain ⟨ps, a, b, c⟩ := h
  exact ⟨ps, a.stay hsz hk, b, c⟩
structure Both (w : World) (lo : Nat) (SA : Nat → Prop) (p : Addr) (r : Nat) (q : Addr) (L : List Pack) : Prop where
  cat : ∃ S, CatL w S p r L ∧ (∀ b, S b → lo ≤ b) ∧ ¬ S q.block
  ref : ∃ S, RefR w S q L ∧ (∀ b, S b → SA b ∨ lo ≤ b) ∧ ¬ S r
  le : lo ≤ r ∧ lo ≤ p.block ∧ lo ≤ q.block
  ne : q.block ≠ p.block ∧ q.block ≠ r
end Go.Hal
namespace Go.Hal
open Go Go.RowKit Go.Proofs Go.Shelf
def nP : ByteArray := ⟨#[112]⟩
def nQ : ByteArray := ⟨#[113]⟩
def v1 : Ver := ⟨1, 0, 0⟩
def allS : List Span := [⟨verAt 0, verAt 999999999⟩]
def kP : Pack := ⟨nP, v1, [], [⟨nQ, allS⟩], []⟩
def kQ : Pack := ⟨nQ, v1, [], [], []⟩
set_option maxRecDepth 10000 in
theorem kn_some : ctxRes (refPut (refPut [] kP).2 kQ).2 [] [⟨nQ, v1⟩] ⟨nP, v1⟩ = some [⟨nQ, v1⟩] := by decide +kernel
set_option maxRecDepth 10000 in
theorem kn_none : ctxRes (refPut (refPut [] kP).2 kQ).2 [] [] ⟨nP, v1⟩ = none := by decide +kernel
theorem box_one {α : Type} {E : Enc α} {w : World} {S : Nat → Prop} {a : Addr} {cs : List Value} {x : α} (hb : BoxAt w a cs) (hx : E.rep w S x cs) (hB : E.bytes ≤ room) : SlR E w (fun b => S b ∨ b = a.block) ⟨some a, 1, 1⟩ [x] :=
  ⟨rfl, Nat.le_refl _, by show 1 ≤ maxLen; rw [maxLen_eq]; omega, by simpa using hB, .inr ⟨a, rfl, .inr rfl, fun i y hy => by
    cases i with
    | zero =>
      simp only [List.getElem?_cons_zero, Option.some.injEq] at hy
      subst hy
      exact ⟨cs, E.mono hx fun _ h => .inl h, by rw [Nat.zero_mul]; exact hb.ldc⟩
    | succ i => simp at hy⟩⟩
theorem FlatO.pins {w : World} {lo : Nat} {s : Sl} {l : List Pin} (h : FlatO pinC 40 w lo s l) (hs : ∀ q ∈ l, Str q.name) : SlR pinE w (fun b => lo ≤ b ∧ b < w.heap.size) s l :=
  FlatO.read (E := pinE) h (fun _ => rfl) fun _ _ x hx => ⟨rfl, hs x hx⟩
set_option maxHeartbeats 2000000 in
theorem known09_se {w : World} {R : Bool → World → Prop} (ht : Tab w) (hR : ∀ w', Ext w w' → R true w') : SE.halyardlaw09_known w R := by
  unfold SE.halyardlaw09_known
  have strP : Str nP := by unfold Str nP; rw [maxLen_eq]; decide
  have strQ : Str nQ := by unfold Str nQ; rw [maxLen_eq]; decide
  refine newS.intro fun a w1 x1 ha hab _ => stw0.intro ha (by simp) fun w2 b2 _ ha2 => ?_
  have x2 : Ext w w2 := b2.ext x1 (by omega)
  have ha2 : BoxAt w2 a [.int .i64 v1.ma, .int .i64 v1.mi, .int .i64 v1.pa] := ha2
  refine SE.catalog_New.go (catNew_L fun p r w3 x3 hC h1 h2 => ⟨_, rfl, (fun h => by cases h), fun _ => bnd.drew fun w4 x4 => ⟨_, _, _, (ha2.ext x3).at0 (r := []) x4 rfl, ?_⟩⟩)
  have x24 := x3.trans x4
  refine callX.intro (SE.halyardref03_All.go (r03All_se fun t w5 x5 hT => ⟨x5, _, rfl, newS.intro fun a7 w6 x6 hb6 hb6b _ => ?_⟩))
  have x26 := x24.trans (x5.trans x6)
  have x06 := x2.trans x26
  have s6 := x06.size
  have hT6 := hT.ext x6
  have hlt6 := hb6.lt
  have hpe : SlR depE w6 (fun b => b < w6.heap.size) ⟨some a7, 1, 1⟩ [⟨nQ, allS⟩] := by
    have hb : SlR spanE w6 (fun b => b < w6.heap.size) t allS := ((hT6.bound (fun h => h) (by decide))).mono fun b hb => hb.2
    exact (box_one (E := depE) (S := fun b => b < w6.heap.size) (x := ⟨nQ, allS⟩) hb6 ⟨strQ, t, rfl, hb⟩ (by decide)).mono fun b hb => by
      rcases hb with hb | rfl
      · exact hb
      · exact hlt6
  refine SE.catalog_Catalog_Put.go (catPut_L (x := kP) (S2 := fun b => b < w6.heap.size) (ht.ext x06) (hC.ext (x4.trans (x5.trans x6))) strP (fun b hb => hb) (SlR.nil trivial) hpe (SlR.nil trivial) fun S7 w7 b7 hC7 _ _ => ⟨_, rfl, ?_⟩)
  have s2 := x2.size; have s3 := x3.size
  have x27 : Ext w2 w7 := b7.ext x26 (by omega)
  have ha7 := ha2.ext x27
  refine ⟨_, _, _, ha7.ldc.pre (r := []) rfl, SE.catalog_Catalog_Put.go (catPut_L (x := kQ) (S2 := None') (ht.ext (x2.trans x27)) hC7 strQ (fun _ h => h.elim) (SlR.nil trivial) (SlR.nil trivial) (SlR.nil trivial) fun S8 w8 b8 hC8 _ _ => ⟨_, rfl, ?_⟩)⟩
  have x28 : Ext w2 w8 := b8.ext x27 (by omega)
  refine ⟨_, _, _, (ha2.ext x28).ldc.pre (r := []) rfl, newS.intro fun a17 w9 x9 hb9 _ _ => stw0.intro hb9 (by simp) fun w10 b10 _ hb10 => ?_⟩
  have x810 : Ext w8 w10 := b10.ext x9 (by omega)
  refine ⟨_, _, _, (ha2.ext (x28.trans x810)).ldc.pre (r := []) rfl, newS.intro fun a21 w11 x11 hb11 _ _ => stw0.intro hb11 (by simp) fun w12 b12 _ hb12 => ?_⟩
  have x1012 : Ext w10 w12 := b12.ext x11 (by omega)
  have hb12 : BoxAt w12 a21 (pinC ⟨nQ, v1⟩) := hb12
  have hb10 : BoxAt w10 a17 (pinC ⟨nP, v1⟩) := hb10
  refine ⟨_, _, _, _, hb12.ldc.pre (r := []) rfl, newS.intro fun a25 w13 x13 hb13 _ _ => ?_⟩
  have hb13 : BoxAt w13 a25 (pinC ⟨nQ, v1⟩) := hb13
  have x813 := x810.trans (x1012.trans x13)
  have hC13 := hC8.ext x813
  have henv : SlR pinE w13 (fun b => b < w13.heap.size) ⟨some a25, 1, 1⟩ [⟨nQ, v1⟩] := (box_one (E := pinE) (S := fun b => b < w13.heap.size) (x := ⟨nQ, v1⟩) hb13 ⟨rfl, strQ⟩ (by decide)).mono fun b hb => by
    rcases hb with hb | rfl
    · exact hb
    · exact hb13.lt
  refine ⟨_, _, _, _, (hb10.ext (x1012.trans x13)).ldc.pre (r := []) rfl, SE.wants_Context.go (wantsContext_se (S2 := None') (S3 := fun b => b < w13.heap.size) (over := []) (env := [⟨nQ, v1⟩]) (pn := ⟨nP, v1⟩) hC13 (fun _ h => h.elim) (fun b hb => hb) (SlR.nil trivial) henv strP (fun b t1 w14 hres x14 hF hS => ?_) fun w14 hres _ => ?_)⟩
  · rw [kn_some, Option.some.injEq] at hres
    subst hres
    refine ⟨_, _, rfl, _, _, _, _, (hb10.ext (x1012.trans (x13.trans x14))).ldc.pre (r := []) rfl, SE.wants_Context.go (wantsContext_se (S2 := None') (S3 := None') (over := []) (env := []) (pn := ⟨nP, v1⟩) (hC13.ext x14) (fun _ h => h.elim) (fun _ h => h.elim) (SlR.nil trivial) (SlR.nil trivial) strP (fun b t1 w15 hres _ _ _ => ?_) fun w15 hres x15 => ?_)⟩
    · rw [kn_none] at hres; cases hres
    · refine ⟨_, _, rfl, bnd.drew fun w16 x16 => bound ?_⟩
      have hP := (hF.pins hS).ext (x15.trans x16)
      have hl := hP.len
      have hl1 : ((t1.len : Int) == 1) = true := by rw [hl]; rfl
      rw [hl1]
      obtain ⟨ad, hta, _, _, hc⟩ := pinEl hP (n := 0) (by simp)
      refine ⟨ad, fun _ => ⟨hta, by omega, by rw [hl]; decide⟩, _, _, _, _, fun _ => hc _ (Ext.refl _), _, _, _, _, fun _ => (hb12.ext (x13.trans (x14.trans (x15.trans x16)))).ldc.pre (r := []) rfl, bound (bound ?_)⟩
      have hfin : ((((true && true) && ((bEq nQ nQ) && (((v1.ma == v1.ma) && ((v1.mi == v1.mi) && ((v1.pa == v1.pa) && true))) && true))) && (!false)) && ((Sl.nil.len : Int) == 0)) = true := by decide +kernel
      have := hR w16 (x2.trans (x28.trans (x813.trans (x14.trans (x15.trans x16)))))
      rw [← hfin] at this
      exact this
  · rw [kn_some] at hres; cases hres
end Go.Hal
namespace Go.Hal
open Go Go.RowKit Go.Proofs Go.Shelf
theorem stIns_map {α β : Type} {c : β → β → Int} {d : α → α → Int} (f : α → β) {x : α} {l : List α} (h : ∀ y ∈ l, c (f x) (f y) = d x y) : (stIns d x l).map f = stIns c (f x) (l.map f) := by
  induction l with
  | nil => rfl
  | cons y r ih =>
    rw [List.map_cons, stIns, stIns, h y (.head _)]
    by_cases h1 : d x y ≤ 0
    · rw [if_pos h1, if_pos h1]; rfl
    · rw [if_neg h1, if_neg h1, List.map_cons, ih fun z hz => h z (.tail _ hz)]
theorem stSort_map {α β : Type} {c : β → β → Int} {d : α → α → Int} (f : α → β) {l : List α} (h : ∀ x ∈ l, ∀ y ∈ l, c (f x) (f y) = d x y) : (stSort d l).map f = stSort c (l.map f) := by
  induction l with
  | nil => rfl
  | cons x r ih =>
    rw [List.map_cons, stSort, stSort, ← ih fun a ha b hb => h a (.tail _ ha) b (.tail _ hb)]
    exact stIns_map f fun y hy => h x (.head _) y (.tail _ ((stSort_perm r).mem_iff.1 hy))
def wantT : Enc (Want × (Nat → Prop)) where
  n := 3
  bytes := 48
  rep := fun w S x cs => wantP.rep w x.2 x.1 cs ∧ ∀ b, x.2 b → S b
  len := fun h => wantP.len h.1
  one := fun h v hv => wantP.one h.1 v hv
  mono := fun h hs => ⟨h.1, fun b hb => hs b (h.2 b hb)⟩
  keep := fun h hk => ⟨wantP.keep h.1 fun b hb hl => hk b (h.2 b hb) hl, h.2⟩
def DisjW (p q : Want × (Nat → Prop)) : Prop := ∀ b, p.2 b → ¬ q.2 b
def SepW (w : World) (S : Nat → Prop) (s : Sl) (L : List Want) : Prop :=
  s.len = L.length ∧ s.cap = L.length ∧ (L = [] ∨ ∃ (g : Nat) (tail : List Value) (z : List (WantC × (Want × (Nat → Prop)))), s.a = some ⟨g, 0, none⟩ ∧ S g ∧ RowB StW.cells w g (z.map Prod.fst) tail ∧ (z.map fun q => q.2.1) = L ∧
    (∀ q ∈ z, q.1.name = q.2.1.name ∧ q.1.kind = q.2.1.kind ∧ wantP.rep w q.2.2 q.2.1 (StW.cells q.1) ∧ ∀ b, q.2.2 b → S b ∧ b ≠ g) ∧ z.Pairwise fun p q => ∀ b, p.2.2 b → ¬ q.2.2 b)
def AllI (w : World) (lo : Nat) (out : Sl) (M : List Want) : Prop :=
  ∃ (vis : List (Want × (Nat → Prop))) (Q : Nat → Prop), OwnS wantT 88 w lo Q out vis ∧ vis.map Prod.fst = M ∧ (∀ b, Q b → lo ≤ b) ∧ vis.Pairwise DisjW ∧ ∀ q ∈ vis, ∀ b, q.2 b → Q b
theorem AllI.ext {w w' : World} {lo : Nat} {out : Sl} {M : List Want} (h : AllI w lo out M) (hx : Ext w w') : AllI w' lo out M := by
  obtain ⟨vis, Q, a, b, c, d, e⟩ := h
  exact ⟨vis, Q, a.ext hx, b, c, d, e⟩
theorem AllI.zero (w : World) : AllI w w.heap.size Sl.nil [] := ⟨[], None', OwnS.nil _ _, rfl, fun _ h => h.elim, .nil, fun _ h => by cases h⟩
theorem AllI.push {w0 w : World} {lo : Nat} {out u : Sl} {M : List Want} {x : Want} {a : Addr} {K : Sl → World → Prop} (h : AllI w0 lo out M) (hx : Ext w0 w) (hlo : lo ≤ w0.heap.size) (hN : Str x.name) (hu : SlP spanE w (fun b => w0.heap.size ≤ b ∧ b < w.heap.size) u x.range) (hb : BoxAt w a [.string x.name, .int .i64 x.kind, u.v]) (hm : (M.length + 1) * 48 ≤ room)
    (hK : ∀ r w', Below lo w w' → AllI w' lo r (M ++ [x]) → K r w') : appS Tryz.prog 75 75 out (Sl.v ⟨some a, 1, 1⟩) w K := by
  obtain ⟨vis, Q, own, rfl, hQ, hdj, hvQ⟩ := h
  have s := hx.size
  have eb : wantT.bytes = 48 := rfl
  rw [List.length_map] at hm
  have hm2 : vis.length + 1 ≤ 9000000000000 := by unfold room at hm; omega
  refine (own.ext hx).push apWant (Nat.le_trans hlo s) (x := (x, fun b => w0.heap.size ≤ b ∧ b < w.heap.size)) (S' := fun b => w0.heap.size ≤ b ∧ b < w.heap.size) ⟨⟨hN, u, rfl, hu⟩, fun _ h => h⟩ (hb.ldc.pre (r := []) rfl) (fun b hb => hb.2) (fun ad ha hb => by have := (own.block ha).2.1; omega) (by rw [eb]; exact hm) (by rw [maxLen_eq]; omega) fun r w' own' bel _ _ => hK r w' bel ⟨_, _, own', by rw [List.map_append]; rfl, fun b hb => ?_, ?_, fun q hq b hb => ?_⟩
  · rcases hb with hb | hb
    · exact hQ b hb
    · omega
  · refine List.pairwise_append.2 ⟨hdj, List.pairwise_singleton _ _, fun q hq y hy b hb hc => ?_⟩
    rw [List.mem_singleton] at hy
    subst hy
    have h1 := own.lt b (hvQ q hq b hb)
    have h2 : w0.heap.size ≤ b ∧ b < w.heap.size := hc
    omega
  · rcases List.mem_append.1 hq with hq | hq
    · exact .inl (hvQ q hq b hb)
    · rw [List.mem_singleton] at hq
      subst hq
      exact .inr hb
def depsE : Enc (List Dep) where
  n := 1
  bytes := 24
  rep := fun w S l cs => ∃ t : Sl, cs = [t.v] ∧ SlR depE w S t l
  len := fun ⟨_, h, _⟩ => by rw [h]; rfl
  one := fun ⟨_, h, _⟩ v hv => by rw [h] at hv; simp [Sl.v] at hv; subst hv; rfl
  mono := fun ⟨t, h, hr⟩ hs => ⟨t, h, hr.mono hs⟩
  keep := fun ⟨t, h, hr⟩ hk => ⟨t, h, hr.keep hk⟩
theorem enters_all1 : Enters Tryz.prog 120 := enters_of Tryz.func120 (by kernel_rfl) rfl
def cWC (a b : WantC) : Int := cmpS a.name b.name
theorem cWC_ord : Ord3 cWC := cmpS_ord WantC.name
theorem all1_ok (g : Nat) (w : World) : StW.CmpOk (.func (.func 120) #[] #[]) cWC g w := by
  intro x y w1 k _ hk
  refine ⟨_, _, rfl, enters_all1, SE.wants_all_1.go ?_⟩
  unfold SE.wants_all_1
  exact newS.intro fun a w2 x2 ha _ _ => newS.intro fun a1 w3 x3 ha1 _ _ => ⟨x.name, BoxAt.at0 ha x3 rfl, y.name, BoxAt.at0 ha1 (Ext.refl _) rfl, strCmp_k ⟨_, rfl, hk _ (x2.trans x3)⟩⟩
end Go.Hal
namespace Go.Hal
open Go Go.RowKit Go.Proofs Go.Shelf
set_option maxHeartbeats 2000000 in
theorem allEnd {w w1 : World} {out : Sl} {M : List Want} {R : Sl → World → Prop} (hI : AllI w1 w.heap.size out M) (hx : Ext w w1) (hb : M.length * 48 ≤ room)
    (hR : ∀ t w', Ext w w' → SepW w' (fun b => w.heap.size ≤ b ∧ b < w'.heap.size) t (stSort cW M) → R t w') :
    callS Tryz.prog 119 [Sl.v out, Value.func (.func 120) #[] #[]] w1 fun v39 vw38 => v39 = (Value.tuple #[]) ∧ callS Tryz.prog 121 [Sl.v out] vw38 fun v42 vw41 => ∃ (t56 : Sl), v42 = (Sl.v t56) ∧ R t56 vw41 := by
  obtain ⟨vis, Q, own, rfl, hQ, hdj, hvQ⟩ := hI
  rw [List.length_map] at hb
  have hol := own.len
  have hsmall : vis.length ≤ 9000000000000 := by unfold room at hb; omega
  have hf : ∀ (x : Want × (Nat → Prop)) cs, wantT.rep w1 Q x cs → ∃ y : WantC, cs = StW.cells y ∧ (y.name = x.1.name ∧ y.kind = x.1.kind ∧ wantT.rep w1 Q x (StW.cells y)) := fun x cs h => by
    obtain ⟨⟨hN, s, rfl, a⟩, hTQ⟩ := h
    exact ⟨⟨x.1.name, x.1.kind, s⟩, rfl, rfl, rfl, ⟨hN, s, rfl, a⟩, hTQ⟩
  rcases OwnS.rowG StW.cells (fun (y : WantC) (x : Want × (Nat → Prop)) => y.name = x.1.name ∧ y.kind = x.1.kind ∧ wantT.rep w1 Q x (StW.cells y)) hf own with ⟨ho, hv⟩ | ⟨g, zz, tail, ha, hgl, hzz, hrel, hrow, hcap, hmax⟩
  · subst ho hv
    refine SE.slices_SortStableFunc_apiWantapiWant.go (StW.sortStable_nil rfl ⟨rfl, SE.slices_Clip_apiWantapiWant.go ⟨⟨by decide, by decide, by decide, by decide⟩, _, rfl, hR _ _ hx ?_⟩⟩)
    exact ⟨rfl, rfl, .inl rfl⟩
  · have hzl : zz.length = vis.length := by rw [← hzz, List.length_map]
    have hlen : out.len = (zz.map Prod.fst).length := by rw [List.length_map, hzl]; exact hol
    refine SE.slices_SortStableFunc_apiWantapiWant.go (StW.sortStable_se cWC_ord ha (by rw [hol]; omega) (all1_ok g w1) hlen hrow fun w2 b2 hr2 => ⟨rfl, ?_⟩)
    have hfst : (stSort (fun p q : WantC × (Want × (Nat → Prop)) => cWC p.1 q.1) zz).map Prod.fst = stSort cWC (zz.map Prod.fst) := stSort_map (c := cWC) Prod.fst fun _ _ _ _ => rfl
    have hsnd : (stSort (fun p q : WantC × (Want × (Nat → Prop)) => cWC p.1 q.1) zz).map (fun q : WantC × (Want × (Nat → Prop)) => q.2.1) = stSort cW (zz.map fun q => q.2.1) := stSort_map (c := cW) (fun q : WantC × (Want × (Nat → Prop)) => q.2.1) fun x hx y hy => by
      unfold cW cWC
      rw [(hrel x hx).1, (hrel y hy).1]
    have hM : (zz.map fun q => q.2.1) = vis.map Prod.fst := by rw [← hzz, List.map_map]; rfl
    rw [hM] at hsnd
    rw [← hfst] at hr2
    have hperm := stSort_perm (c := fun p q : WantC × (Want × (Nat → Prop)) => cWC p.1 q.1) zz
    generalize stSort (fun p q : WantC × (Want × (Nat → Prop)) => cWC p.1 q.1) zz = zs at *
    have hzsl : zs.length = zz.length := hperm.length_eq
    have hQg : ¬ Q g := own.apart _ ha
    have x2 : Ext w w2 := hx.trans' (b2.below hx.size hgl)
    have hlt2 : g < w2.heap.size := hr2.lt
    have s2 := b2.1
    refine SE.slices_Clip_apiWantapiWant.go ⟨⟨by omega, by omega, by omega, by omega⟩, _, rfl, hR _ _ x2 ?_⟩
    have hdz : zs.Pairwise fun p q => ∀ b, p.2.2 b → ¬ q.2.2 b := by
      have h1 : (zz.map Prod.snd).Pairwise DisjW := by rw [hzz]; exact hdj
      rw [List.pairwise_map] at h1
      exact (hperm.pairwise_iff fun {x y} h b hb hc => h b hc hb).2 h1
    refine ⟨?_, ?_, .inr ⟨g, tail, zs, ?_, ⟨hgl, hlt2⟩, hr2, hsnd, fun q hq => ?_, hdz⟩⟩
    · show (out.len : Int).toNat - 0 = _
      rw [stSort_len, List.length_map, hol]; simp
    · show (out.len : Int).toNat - 0 = _
      rw [stSort_len, List.length_map, hol]; simp
    · show (if _ then _ else _) = _
      split
      · exact ha
      · rw [ha, Nat.zero_mul]; rfl
    · obtain ⟨k1, k2, k3, k4⟩ := hrel q (hperm.mem_iff.1 hq)
      refine ⟨k1, k2, wantP.keep k3 (b2.keep fun h => hQg (k4 g h)), fun b hb => ⟨⟨hQ b (k4 b hb), ?_⟩, fun e => hQg (e ▸ k4 b hb)⟩⟩
      have := own.lt b (k4 b hb); omega
set_option maxHeartbeats 2000000 in
theorem wantsAll_se {mD mDev mOpt mOv must may : Sl} {ms : List (List Dep)} {ml over : List Dep} {S : Nat → Prop} {w : World} {R : Sl → World → Prop} (hS : Old S w) (hV : SlR depE w S mOv over) (hM : SlR depsE w S must ms) (hY : SlR depE w S may ml) (hb : (ms.flatten.length + ml.length) * 48 ≤ room)
    (hR : ∀ t w', Ext w w' → SepW w' (fun b => w.heap.size ≤ b ∧ b < w'.heap.size) t (wantsOf over ms.flatten ml) → R t w') : SE.wants_all mD mDev mOpt mOv must may w R := by
  unfold SE.wants_all
  have hMl := hM.len
  have hYl := hY.len
  refine newS.intro fun a w1 x1 ha _ _ => ?_
  have s1 := x1.size
  refine loop2.up hM.max (fun out i w' => Ext w1 w' ∧ AllI w' w1.heap.size out ((ms.take i).flatten.map (wantOf 1 over))) ⟨Ext.refl _, AllI.zero _⟩ fun out i w2 nxt hi ⟨x2, hI2⟩ hn => ⟨fun hlt => ?_, fun hge => ?_⟩
  · have hlt' : i < ms.length := by omega
    obtain ⟨ad, cs, hma, _, ⟨t, rfl, ht⟩, hc⟩ := hM.el hlt'
    have htl := ht.len
    have hsum : (ms.take (i + 1)).flatten = (ms.take i).flatten ++ ms[i] := by rw [List.take_succ_eq_append_getElem hlt', List.flatten_append, List.flatten_cons, List.flatten_nil, List.append_nil]
    have hsub : (ms.take i).flatten.length + ms[i].length ≤ ms.flatten.length := by
      rw [← List.length_append, ← hsum]
      have : ms.flatten = (ms.take (i + 1)).flatten ++ (ms.drop (i + 1)).flatten := by rw [← List.flatten_append, List.take_append_drop]
      rw [this, List.length_append]; omega
    refine ⟨ad, ⟨hma, by omega, hlt⟩, t, (hc _ (x1.trans x2)).pre (r := []) rfl, ?_⟩
    refine loop2.up ht.max (fun out k w' => Ext w1 w' ∧ AllI w' w1.heap.size out (((ms.take i).flatten ++ ms[i].take k).map (wantOf 1 over))) ⟨x2, by rw [List.take_zero, List.append_nil]; exact hI2⟩ fun out2 k w3 nxt2 hk ⟨x3, hI3⟩ hn2 => ⟨fun hklt => ?_, fun hkge => ?_⟩
    · have hk' : k < ms[i].length := by omega
      have x03 := x1.trans x3
      obtain ⟨ad5, u, hta, _, hN, hr, hcd⟩ := depEl ht hk'
      refine ⟨ad5, ⟨hta, by omega, hklt⟩, _, u, hcd _ x03, newS.intro fun a8 w4 x4 hb4 ha4 _ => stw0.intro hb4 (by simp) fun w5 b5 _ hb5 => bnd.drew fun w6 x6 => ?_⟩
      have x35 : Ext w3 w5 := b5.ext x4 (by omega)
      have x36 := x35.trans x6
      have x06 := x03.trans x36
      refine ⟨_, hb5.at0 x6 rfl, mD, mDev, mOpt, mOv, ha.at0 (r := []) (x3.trans x36) rfl, _, u, hb5.at0 (r := []) x6 rfl, callX.intro (SE.wants_Range.go (wantsRange_se (hS.ext x06.size) (hV.ext x06) (hr.ext x06) fun r7 w7 x7 hu => ⟨x7, _, rfl, newS.intro fun a16 w8 x8 hb8 _ _ => ?_⟩))⟩
      have x68 := x7.trans x8
      have s36 := x36.size; have s8 := x8.size; have s3 := x3.size
      refine (hI3.ext x36).push (x := wantOf 1 over ms[i][k]) x68 (by omega) hN ((hu.ext x8).mono fun b hb => ⟨hb.1, by omega⟩) hb8 ?_ fun r9 w9 bel hI9 => hn2 hk' _ _ ⟨(x3.trans (x36.trans x68)).trans' bel, ?_⟩
      · rw [List.length_map, List.length_append, List.length_take]
        have : ((ms.take i).flatten.length + min k ms[i].length + 1) * 48 ≤ (ms.flatten.length + ml.length) * 48 := Nat.mul_le_mul_right _ (by omega)
        omega
      · rw [List.take_succ_eq_append_getElem hk', ← List.append_assoc, List.map_append]
        exact hI9
    · have : k = ms[i].length := by omega
      rw [this, List.take_length, ← hsum] at hI3
      exact hn hlt' _ _ ⟨x3, hI3⟩
  · have : i = ms.length := by omega
    rw [this, List.take_length] at hI2
    refine loop2.up hY.max (fun out k w' => Ext w1 w' ∧ AllI w' w1.heap.size out (ms.flatten.map (wantOf 1 over) ++ (ml.take k).map (wantOf 2 over))) ⟨x2, by rw [List.take_zero, List.map_nil, List.append_nil]; exact hI2⟩ fun out2 k w3 nxt2 hk ⟨x3, hI3⟩ hn2 => ⟨fun hklt => ?_, fun hkge => ?_⟩
    · have hk' : k < ml.length := by omega
      have x03 := x1.trans x3
      obtain ⟨ad5, u, hta, _, hN, hr, hcd⟩ := depEl hY hk'
      refine ⟨ad5, ⟨hta, by omega, hklt⟩, _, u, hcd _ x03, newS.intro fun a8 w4 x4 hb4 ha4 _ => stw0.intro hb4 (by simp) fun w5 b5 _ hb5 => bnd.drew fun w6 x6 => ?_⟩
      have x35 : Ext w3 w5 := b5.ext x4 (by omega)
      have x36 := x35.trans x6
      have x06 := x03.trans x36
      refine ⟨_, hb5.at0 x6 rfl, mD, mDev, mOpt, mOv, ha.at0 (r := []) (x3.trans x36) rfl, _, u, hb5.at0 (r := []) x6 rfl, callX.intro (SE.wants_Range.go (wantsRange_se (hS.ext x06.size) (hV.ext x06) (hr.ext x06) fun r7 w7 x7 hu => ⟨x7, _, rfl, newS.intro fun a16 w8 x8 hb8 _ _ => ?_⟩))⟩
      have x68 := x7.trans x8
      have s36 := x36.size; have s8 := x8.size; have s3 := x3.size
      refine (hI3.ext x36).push (x := wantOf 2 over ml[k]) x68 (by omega) hN ((hu.ext x8).mono fun b hb => ⟨hb.1, by omega⟩) hb8 ?_ fun r9 w9 bel hI9 => hn2 hk' _ _ ⟨(x3.trans (x36.trans x68)).trans' bel, ?_⟩
      · rw [List.length_append, List.length_map, List.length_map, List.length_take]
        have : (ms.flatten.length + min k ml.length + 1) * 48 ≤ (ms.flatten.length + ml.length) * 48 := Nat.mul_le_mul_right _ (by omega)
        omega
      · rw [List.take_succ_eq_append_getElem hk', List.map_append, ← List.append_assoc]
        exact hI9
    · have : k = ml.length := by omega
      rw [this, List.take_length] at hI3
      refine allEnd hI3 x3 (by rw [List.length_append, List.length_map, List.length_map]; exact hb) fun t w' hx hs => hR _ _ (x1.trans hx) ?_
      obtain ⟨k1, k0, k2⟩ := hs
      refine ⟨k1, k0, k2.imp id fun ⟨g, tail, z, e1, e2, e3, e4, e5, e6⟩ => ⟨g, tail, z, e1, ⟨by omega, e2.2⟩, e3, e4, fun q hq => ?_, e6⟩⟩
      obtain ⟨f1, f2, f3, f4⟩ := e5 q hq
      exact ⟨f1, f2, f3, fun b hb => ⟨⟨by have := (f4 b hb).1.1; omega, (f4 b hb).1.2⟩, (f4 b hb).2⟩⟩
end Go.Hal
namespace Go.Hal
open Go Go.RowKit Go.Proofs Go.Shelf
theorem newS.ownS {α : Type} {E : Enc α} {w : World} {cs : List Value} {t : TypeId} {x : α} {S : Nat → Prop} {k : Addr → World → Prop} (hS : Old S w) (hx : E.rep w S x cs) (h : ∀ a w', Ext w w' → OwnS E t w' w.heap.size S ⟨some a, 1, 1⟩ [x] → a.block = w.heap.size → k a w') : newS w cs t k := fun a w' ha hw => by
  subst ha hw
  have hl := E.len hx
  refine h _ _ (Ext.alloc _ _) ⟨⟨[cs], ⟨by simp [hl], .inr ⟨w.heap.size, 1, cs.toArray, rfl, Nat.le_refl _, heap_alloc_new w _, Nat.le_refl _, by rw [maxLen_eq]; omega, by simp [hl], ?_⟩⟩, rfl, fun i y hy => ?_⟩, rfl, fun b hb => by have := hS b hb; simp; omega, fun ad ha hb => ?_⟩ rfl
  · simp [hl, List.take_of_length_le (Nat.le_of_eq hl)]
  · cases i with
    | zero =>
      simp only [List.getElem?_cons_zero, Option.some.injEq] at hy
      subst hy
      exact ⟨cs, rfl, E.keep hx ((Ext.alloc w _).keep _)⟩
    | succ i => simp at hy
  · simp only [Option.some.injEq] at ha
    subst ha
    have := hS _ hb
    simp at this
theorem apDeps : ApT Tryz.prog 126 23 1 24 := apT_mk (z := .slice none 0 0) (by kernel_rfl) (by kernel_rfl) rfl (by decide)
theorem wantsOf_se {p : Pack} {pD pP pO mD mDev mOpt mOv : Sl} {over : List Dep} {S : Nat → Prop} {w : World} {R : Sl → World → Prop} (hS : Old S w) (hD : SlR depE w S pD p.deps) (hO : SlR depE w S pO p.opt) (hV : SlR depE w S mOv over) (hb : (p.deps.length + p.opt.length) * 48 ≤ room)
    (hR : ∀ t w', Ext w w' → SepW w' (fun b => w.heap.size ≤ b ∧ b < w'.heap.size) t (wantsOf over p.deps p.opt) → R t w') : SE.wants_Of p.name p.v.ma p.v.mi p.v.pa pD pP pO mD mDev mOpt mOv w R := by
  unfold SE.wants_Of
  refine newS.intro fun a w1 x1 ha _ _ => newS.intro fun a1 w2 x2 ha1 _ _ => ?_
  have x02 := x1.trans x2
  refine ⟨mD, mDev, mOpt, mOv, BoxAt.at0 ha1 (Ext.refl _) rfl, pD, BoxAt.at1 ha x2 rfl, newS.intro fun a4 w3 x3 hb4 hab _ => ⟨pO, BoxAt.at1 ha (x2.trans x3) rfl, ?_⟩⟩
  have x03 := x02.trans x3
  have s3 := x03.size
  have hone : SlR depsE w3 (fun b => S b ∨ b = a4.block) ⟨some a4, 1, 1⟩ [p.deps] := box_one (E := depsE) hb4 ⟨pD, rfl, hD.ext x03⟩ (by decide)
  have hlt := hb4.lt
  refine SE.wants_all.go (wantsAll_se (S := fun b => S b ∨ b = a4.block) (ms := [p.deps]) (over := over) (ml := p.opt) (fun b hb => ?_) ((hV.ext x03).mono fun _ h => .inl h) hone ((hO.ext x03).mono fun _ h => .inl h) (by simpa using hb) fun t w4 x4 h4 => ⟨_, rfl, hR _ _ (x03.trans x4) ?_⟩)
  · rcases hb with hb | rfl
    · have := hS b hb; omega
    · exact hlt
  · rw [List.flatten_cons, List.flatten_nil, List.append_nil] at h4
    obtain ⟨k1, k0, k2⟩ := h4
    refine ⟨k1, k0, k2.imp id fun ⟨g, tail, z, e1, e2, e3, e4, e5, e6⟩ => ⟨g, tail, z, e1, ⟨by omega, e2.2⟩, e3, e4, fun q hq => ?_, e6⟩⟩
    obtain ⟨f1, f2, f3, f4⟩ := e5 q hq
    exact ⟨f1, f2, f3, fun b hb => ⟨⟨by have := (f4 b hb).1.1; omega, (f4 b hb).1.2⟩, (f4 b hb).2⟩⟩
theorem wantsOfRoot_se {m : Mani} {mD mDev mOpt mOv : Sl} {dev : Bool} {S : Nat → Prop} {w : World} {R : Sl → World → Prop} (hS : Old S w) (hD : SlR depE w S mD m.deps) (hE : SlR depE w S mDev m.dev) (hO : SlR depE w S mOpt m.opt) (hV : SlR depE w S mOv m.over) (hb : (m.deps.length + m.dev.length + m.opt.length) * 48 ≤ room)
    (hR : ∀ t w', Ext w w' → SepW w' (fun b => w.heap.size ≤ b ∧ b < w'.heap.size) t (wantsOf m.over (rootMust m dev) m.opt) → R t w') : SE.wants_OfRoot mD mDev mOpt mOv dev w R := by
  unfold SE.wants_OfRoot
  refine newS.intro fun a w1 x1 ha _ _ => ⟨mD, BoxAt.at0 ha (Ext.refl _) rfl, ?_⟩
  refine newS.ownS (E := depsE) (x := m.deps) (S := S) (hS.ext x1.size) ⟨mD, rfl, hD.ext x1⟩ fun a1 w2 x2 own hab => ?_
  have x02 := x1.trans x2
  have s1 := x1.size; have s2 := x2.size
  have eb : depsE.bytes = 24 := rfl
  refine join.named fun J hJ => ?_
  have key : ∀ must w3 (ms : List (List Dep)), Ext w1 w3 → SlR depsE w3 (fun b => S b ∨ (w.heap.size ≤ b ∧ b < w3.heap.size)) must ms → ms.flatten = rootMust m dev → J must w3 := by
    subst hJ
    intro must w3 ms x3 hms hfl
    have x03 := x1.trans x3
    have s3 := x03.size
    have hlen : (rootMust m dev).length ≤ m.deps.length + m.dev.length := by
      unfold rootMust
      split
      · rw [List.length_append]; exact Nat.le_refl _
      · omega
    refine ⟨mD, mDev, mOpt, mOv, BoxAt.at0 ha x3 rfl, mOpt, BoxAt.at1 ha x3 rfl, SE.wants_all.go (wantsAll_se (S := fun b => S b ∨ (w.heap.size ≤ b ∧ b < w3.heap.size)) (over := m.over) (ml := m.opt) (fun b hb => ?_) ((hV.ext x03).mono fun _ h => .inl h) hms ((hO.ext x03).mono fun _ h => .inl h) (by rw [hfl]; have : ((rootMust m dev).length + m.opt.length) * 48 ≤ (m.deps.length + m.dev.length + m.opt.length) * 48 := Nat.mul_le_mul_right _ (by omega); omega) fun t w4 x4 h4 => ⟨_, rfl, hR _ _ (x03.trans x4) ?_⟩)⟩
    · rcases hb with hb | hb
      · have := hS b hb; omega
      · exact hb.2
    · rw [hfl] at h4
      obtain ⟨k1, k0, k2⟩ := h4
      refine ⟨k1, k0, k2.imp id fun ⟨g, tail, z, e1, e2, e3, e4, e5, e6⟩ => ⟨g, tail, z, e1, ⟨by omega, e2.2⟩, e3, e4, fun q hq => ?_, e6⟩⟩
      obtain ⟨f1, f2, f3, f4⟩ := e5 q hq
      exact ⟨f1, f2, f3, fun b hb => ⟨⟨by have := (f4 b hb).1.1; omega, (f4 b hb).1.2⟩, (f4 b hb).2⟩⟩
  refine ⟨fun h => ?_, fun h => ?_⟩
  · subst h
    refine ⟨mDev, BoxAt.at1 ha x2 rfl, newS.intro fun a8 w3 x3 hb8 hab8 _ => ?_⟩
    refine (own.ext x3).push apDeps (x2.trans x3).size (x := m.dev) (S' := S) ⟨mDev, rfl, hE.ext (x02.trans x3)⟩ (hb8.ldc.pre (r := []) rfl) (hS.ext (x02.trans x3).size) (fun ad ha hb => (own.apart ad ha hb)) (by rw [eb]; unfold room; simp) (by rw [maxLen_eq]; simp) fun r w4 own4 bel _ _ => ?_
    have x14 : Ext w1 w4 := (x2.trans x3).trans' bel
    refine key _ _ [m.deps, m.dev] x14 ((own4.read (by rw [eb]; unfold room; simp) (by rw [maxLen_eq]; simp)).mono fun b hb => ?_) (by simp [rootMust])
    rcases hb with (hb | hb) | ⟨ad, ha', rfl⟩
    · exact .inl hb
    · exact .inl hb
    · have := own4.block ha'; exact .inr ⟨by omega, this.2.1⟩
  · subst h
    refine key _ _ [m.deps] x2 ((own.read (by rw [eb]; unfold room; simp) (by rw [maxLen_eq]; simp)).mono fun b hb => ?_) (by simp [rootMust])
    rcases hb with hb | ⟨ad, ha', rfl⟩
    · exact .inl hb
    · have := own.block ha'; exact .inr ⟨by omega, this.2.1⟩
end Go.Hal
namespace Go.Hal
open Go Go.RowKit Go.Proofs Go.Shelf
end Go.Hal
namespace Go.Hal
open Go Go.RowKit Go.Proofs Go.Shelf
structure Rest (S : Nat → Prop) (w w' : World) : Prop where
  size : w.heap.size ≤ w'.heap.size
  out : w'.os = w.os ∧ w'.tape = w.tape ∧ w'.output = w.output
  same : ∀ b, b < w.heap.size → ¬ S b → w'.heap[b]? = w.heap[b]?
section
variable {S T : Nat → Prop} {w w' w2 : World}
end
def Alike (v v' : Value) : Prop := v' = v ∨ (∃ s s', v = .string s ∧ v' = .string s') ∨ ∃ n n', v = .int .i64 n ∧ v' = .int .i64 n'
theorem Alike.int {n : Int} {v : Value} (h : Alike (.int .i64 n) v) (m : Int) : Alike v (.int .i64 m) := by
  rcases h with rfl | ⟨_, _, h, _⟩ | ⟨_, n', _, rfl⟩
  · exact .inr (.inr ⟨_, _, rfl, rfl⟩)
  · cases h
  · exact .inr (.inr ⟨_, _, rfl, rfl⟩)
structure Wrote (S : Nat → Prop) (w w' : World) : Prop where
  rest : Rest S w w'
  alike : ∀ (b : Nat) (cur : Array Value) (t : TypeId), w.heap[b]? = some (.cells cur t (0, 0)) → ∃ (cur' : Array Value) (t' : TypeId), w'.heap[b]? = some (.cells cur' t' (0, 0)) ∧ cur'.size = cur.size ∧ ∀ (j : Nat) v, cur[j]? = some v → ∃ v', cur'[j]? = some v' ∧ Alike v v'
end Go.Hal
namespace Go.Hal
open Go Go.RowKit Go.Proofs Go.Shelf
end Go.Hal
namespace Go.Hal
open Go Go.RowKit Go.Proofs Go.Shelf
def nA : ByteArray := ⟨#[97]⟩
def kA : Pack := ⟨nA, v1, [], [], []⟩
theorem FlatO.vers {w : World} {lo : Nat} {s : Sl} {l : List Ver} (h : FlatO Ver.c 24 w lo s l) : SlR verE w (fun b => lo ≤ b ∧ b < w.heap.size) s l :=
  FlatO.read (E := verE) h (fun _ => rfl) fun _ _ _ _ => ⟨rfl, trivial⟩
end Go.Hal
namespace Go.Hal
open Go Go.RowKit Go.Proofs Go.Shelf
end Go.Hal
namespace Go.Hal
open Go Go.RowKit Go.Proofs Go.Shelf
end Go.Hal
namespace Go.Hal
open Go Go.RowKit Go.Proofs Go.Shelf
end Go.Hal
namespace Go.Hal
open Go Go.RowKit Go.Proofs Go.Shelf
theorem wantsOf_len (over a b : List Dep) : (wantsOf over a b).length = a.length + b.length := by
  unfold wantsOf
  rw [stSort_len, List.length_append, List.length_map, List.length_map]
theorem rootMust_len (m : Mani) (dev : Bool) : (rootMust m dev).length ≤ m.deps.length + m.dev.length := by
  unfold rootMust
  split
  · rw [List.length_append]; exact Nat.le_refl _
  · omega
theorem decT {α : Type} [DecidableEq α] (x : α) : decide (x = x) = true := decide_eq_true rfl
end Go.Hal
namespace Go.Hal
open Go Go.RowKit
theorem cellAt {w : World} {g : Nat} {cur : Array Value} {t : TypeId} (hg : w.heap[g]? = some (.cells cur t (0, 0))) (j : Nat) : w.cell? ⟨g, j, none⟩ = cur[j]? := by simp [World.cell?, hg]
theorem SlR.appFull {α : Type} {E : Enc α} {P : Program} {t e : TypeId} {w : World} {S S' : Nat → Prop} {s x : Sl} {l m : List α} {k : Sl → World → Prop} (hs : SlR E w S s l) (hcap : s.cap = l.length) (hT : ApT P t e E.n E.bytes) (hx : SlR E w S' x m) (hb : (l.length + m.length) * E.bytes ≤ room) (hm : l.length + m.length ≤ maxLen)
    (hk : ∀ r w', Below w.heap.size w w' → SlR E w' (fun b => S b ∨ S' b ∨ (w.heap.size ≤ b ∧ b < w'.heap.size)) r (l ++ m) → k r w') : appS P t t s (Sl.v x) w k := by
  intro ty
  obtain ⟨ht, i, z, hi, hz, hsz, hby, hzs, hn0⟩ := hT
  have hsl := hs.len
  have hxl := hx.len
  by_cases hm0 : m = []
  · subst hm0
    have hxl0 : x.len = 0 := hxl
    have hrun : (Builtin.append_ #[t, t] ty #[s.v, x.v]).run P w = .ok s.v w := by
      obtain ⟨sa, sn, sc⟩ := s
      obtain ⟨xa, xn, xc⟩ := x
      simp only at hsl hcap hxl0
      subst hxl0
      have h1 : (Builtin.firstCells i.size 0 (.slice xa 0 xc)).run P w = .ok #[] w := by
        cases xa with
        | none => exact run_firstCells_none w i.size 0 0 xc
        | some a => exact run_firstCells_some w i.size 0 a 0 xc [] (by simp) (fun j v h => by simp at h)
      have h2 : sn + 0 ≤ sc := by omega
      cases sa with
      | none => simp [Sl.v, Builtin.append_, run_underlying ht, sizeOf, typeInfo, hi, Builtin.lenOf, h1, h2]; omega
      | some a => simp [Sl.v, Builtin.append_, run_underlying ht, sizeOf, typeInfo, hi, Builtin.lenOf, h1, h2, storeCells]; omega
    refine ⟨_, w, hrun, s, rfl, hk s w (Below.refl _ _) ?_⟩
    rw [List.append_nil]
    exact hs.mono fun _ h => .inl h
  · obtain ⟨adx, hxa, hxS, hxr⟩ := hx.2.2.2.2.resolve_left hm0
    obtain ⟨css2, hl2, hr2, hc2, hf2⟩ := rows_of m adx hxr
    have hxv : x.v = .slice (some adx) m.length x.cap := by unfold Sl.v; rw [hxa, hxl]
    have hpos : 0 < m.length := List.length_pos_iff.2 hm0
    have hold : ∃ css : List (List Value), css.length = l.length ∧ (∀ (i : Nat) (y : α), l[i]? = some y → ∃ cs, css[i]? = some cs ∧ E.rep w S y cs) ∧ css.flatten.length = l.length * E.n ∧ (Builtin.firstCells i.size l.length (.slice s.a l.length s.cap)).run P w.drew = .ok css.flatten.toArray w.drew := by
      by_cases hl0 : l = []
      · subst hl0
        refine ⟨[], rfl, fun i y h => by simp at h, by simp, ?_⟩
        cases s.a with
        | none => exact run_firstCells_none w.drew i.size 0 0 s.cap
        | some a => exact run_firstCells_some w.drew i.size 0 a 0 s.cap [] (by simp) (fun j v h => by simp at h)
      · obtain ⟨ad, ha, haS, har⟩ := hs.2.2.2.2.resolve_left hl0
        obtain ⟨css, h1, h2, h3, h4⟩ := rows_of l ad har
        refine ⟨css, h1, h2, h4, ?_⟩
        rw [ha]
        exact run_firstCells_some w.drew i.size l.length ad l.length s.cap _ (by rw [hsz]; exact h4) (fun j v h => by simpa using h3 j v h)
    obtain ⟨css, hl1, hr1, hf1, hfc⟩ := hold
    have hsv : s.v = .slice s.a l.length s.cap := by unfold Sl.v; rw [hsl]
    have hrun := run_append_grow_src (P := P) w t t ty e i z ht hi hz s.a l.length s.cap css.flatten hfc (.slice (some adx) m.length x.cap) m.length css2.flatten (Src.ofSlice w ht adx m.length x.cap css2.flatten (by rw [hsz]; exact hf2) (fun j u hj => hc2 j u hj) (rows_all hl2 hr2)) (by omega) (by rw [maxLen_eq] at hm; omega) (cap_fits (by omega) (by rw [hby]; exact hb))
    have hcl := grownCap_ge w (l.length + m.length) s.cap e
    have hcm := grownCap_le_maxLen w (l.length + m.length) s.cap e hm
    rw [hsv, hxv]
    generalize hG : grownCap w (l.length + m.length) s.cap e = G at *
    generalize hW : w.drew.alloc (.cells ((css.flatten ++ css2.flatten).toArray ++ Builtin.zeroCells z.cells (G - (l.length + m.length))) e) = w' at *
    have hx1 : Ext w w' := by rw [← hW]; exact (Ext.drew w).trans (Ext.alloc _ _)
    have hnew : w'.heap[w.heap.size]? = some (.cells ((css.flatten ++ css2.flatten).toArray ++ Builtin.zeroCells z.cells (G - (l.length + m.length))) e (0, 0)) := by rw [← hW]; exact heap_alloc_new w.drew _
    have hlt := lt_of_block hnew
    refine ⟨_, w', hrun, ⟨some ⟨w.heap.size, 0, none⟩, l.length + m.length, G⟩, rfl, hk _ w' hx1 ?_⟩
    refine ⟨by simp, by simpa using hcl, hcm, by simpa using hb, .inr ⟨_, rfl, .inr (.inr ⟨Nat.le_refl _, hlt⟩), fun j y hj => ?_⟩⟩
    have hall : ∀ c ∈ css ++ css2, c.length = E.n := by
      intro c hc
      rcases List.mem_append.1 hc with hc | hc
      · obtain ⟨k, hk, he⟩ := List.mem_iff_getElem.1 hc
        obtain ⟨c', h3, h4⟩ := hr1 k _ (List.getElem?_eq_getElem (by omega))
        rw [List.getElem?_eq_getElem hk, he, Option.some.injEq] at h3
        rw [h3]; exact E.len h4
      · obtain ⟨k, hk, he⟩ := List.mem_iff_getElem.1 hc
        obtain ⟨c', h3, h4⟩ := hr2 k _ (List.getElem?_eq_getElem (by omega))
        rw [List.getElem?_eq_getElem hk, he, Option.some.injEq] at h3
        rw [h3]; exact E.len h4
    have hcell : ∀ cs, (css ++ css2)[j]? = some cs → ldc w' ((⟨w.heap.size, 0, none⟩ : Addr).add (j * E.n)) cs := fun cs hc q v hv => by
      have h1 := flatten_get hall hc hv
      rw [add_add, add_plain, cellAt hnew]
      rw [Array.getElem?_append_left (by
        have := (List.getElem?_eq_some_iff.1 h1).1
        simpa [List.flatten_append] using this)]
      rw [List.getElem?_toArray]
      simpa [List.flatten_append] using h1
    rw [List.getElem?_append] at hj
    split at hj
    · obtain ⟨cs, h1, h2⟩ := hr1 j y hj
      exact ⟨cs, E.keep (E.mono h2 fun _ h => .inl h) (hx1.keep _), hcell cs (by rw [List.getElem?_append_left (by omega)]; exact h1)⟩
    · obtain ⟨cs, h1, h2⟩ := hr2 (j - l.length) y hj
      exact ⟨cs, E.keep (E.mono h2 fun _ h => .inr (.inl h)) (hx1.keep _), hcell cs (by rw [List.getElem?_append_right (by omega), hl1]; exact h1)⟩
end Go.Hal
namespace Go.Hal
open Go Go.RowKit Go.Proofs Go.Shelf
theorem SepW.read {w : World} {S : Nat → Prop} {s : Sl} {L : List Want} (h : SepW w S s L) (hb : L.length * 48 ≤ room) : SlR wantE w S s L := by
  obtain ⟨h1, h0, h2⟩ := h
  have hm : L.length ≤ maxLen := by rw [maxLen_eq]; unfold room at hb; omega
  refine ⟨h1, by rw [h0]; exact Nat.le_refl _, by rw [h0]; exact hm, hb, ?_⟩
  rcases h2 with rfl | ⟨g, tail, z, e1, e2, e3, e4, e5, e6⟩
  · exact .inl rfl
  · refine .inr ⟨_, e1, e2, fun i x hx => ?_⟩
    rw [← e4, List.getElem?_map] at hx
    cases hz : z[i]? with
    | none => rw [hz] at hx; cases hx
    | some q =>
      rw [hz] at hx
      simp only [Option.map_some, Option.some.injEq] at hx
      subst hx
      obtain ⟨f1, f2, ⟨f3, u, f5, f6⟩, f4⟩ := e5 q (List.mem_of_getElem? hz)
      refine ⟨StW.cells q.1, ⟨f3, u, f5, f6.1.mono fun b hb => (f4 b hb).1⟩, e3.ld' (f := StW.cells) (k := 3) (fun _ => rfl) (by rw [List.getElem?_map, hz]; rfl)⟩
def reW (over : List Dep) (x : Want) : Want := ⟨x.name, x.kind, overOf over x.name x.range⟩
theorem wantsOf_re (over a b : List Dep) : wantsOf over a b = (wantsOf [] a b).map (reW over) := by
  unfold wantsOf
  rw [stSort_map (c := cW) (d := cW) (reW over) fun x _ y _ => rfl, List.map_append, List.map_map, List.map_map]
  rfl
theorem overOf_drop {over : List Dep} {n : ByteArray} {r : List Span} {i : Nat} (h : i < over.length) : overOf (over.drop i) n r = if over[i].name = n then over[i].range else overOf (over.drop (i + 1)) n r := by
  rw [List.drop_eq_getElem_cons h]; rfl
set_option maxHeartbeats 4000000 in
theorem wantsOverrides_se {p : Pack} {m : Mani} {pD pP pO mD mDev mOpt mOv : Sl} {dev : Bool} {S : Nat → Prop} {w : World} {R : Bool → World → Prop} (ht : Tab w) (hS : Old S w) (hD : SlR depE w S pD p.deps) (hP : SlR depE w S pP p.peers) (hO : SlR depE w S pO p.opt)
    (hmD : SlR depE w S mD m.deps) (hmE : SlR depE w S mDev m.dev) (hmO : SlR depE w S mOpt m.opt) (hV : SlR depE w S mOv m.over) (hb : (p.deps.length + p.opt.length + (m.deps.length + m.dev.length + m.opt.length)) * 48 ≤ room)
    (hR : ∀ w', Ext w w' → R true w') : SE.halyardlaw09_WantsOverrides p.name p.v.ma p.v.mi p.v.pa pD pP pO mD mDev mOpt mOv dev w R := by
  have hb1 : (p.deps.length + p.opt.length) * 48 ≤ room := by omega
  have hb2 : (m.deps.length + m.dev.length + m.opt.length) * 48 ≤ room := by omega
  have hrl := rootMust_len m dev
  unfold SE.halyardlaw09_WantsOverrides
  refine newS.intro fun a w1 x1 ha _ _ => newS.intro fun a1 w2 x2 ha1 _ _ => ?_
  have x02 := x1.trans x2
  refine ⟨mD, mDev, mOpt, mOv, BoxAt.at0 ha1 (Ext.refl _) rfl, newS.intro fun a3 w3 x3 hb3 hab3 _ => stw0.intro hb3 (by simp) fun w4 b4 _ hb4 => ?_⟩
  refine stw.intro (o := 3) hb4 (by simp) fun w5 b5 _ hb5 => ?_
  have x24 : Ext w2 w4 := b4.ext x3 (by omega)
  have x25 : Ext w2 w5 := b5.ext x24 (by omega)
  have x05 := x02.trans x25
  refine SE.halyardlaw09_known.go (known09_se (ht.ext x05) fun w6 x56 => ⟨_, rfl, (fun h => by cases h), fun _ => ?_⟩)
  have x26 := x25.trans x56
  have x06 := x02.trans x26
  have hb6 := hb5.ext x56
  refine ⟨p.name, p.v.ma, p.v.mi, p.v.pa, pD, pP, pO, BoxAt.at0 ha (x2.trans x26) rfl, mD, mDev, mOpt, mOv, BoxAt.at0 ha1 x26 rfl, ?_⟩
  refine SE.wants_Of.go (wantsOf_se (hS.ext x06.size) (hD.ext x06) (hO.ext x06) (hV.ext x06) hb1 fun t7 w7 x67 h7 => ⟨_, rfl, ?_⟩)
  have x07 := x06.trans x67
  refine ⟨p.name, p.v.ma, p.v.mi, p.v.pa, pD, pP, pO, BoxAt.at0 ha (x2.trans (x26.trans x67)) rfl, mD, mDev, mOpt, Sl.nil, BoxAt.at0 hb6 x67 rfl, ?_⟩
  refine SE.wants_Of.go (wantsOf_se (over := []) (hS.ext x07.size) (hD.ext x07) (hO.ext x07) (SlR.nil trivial) hb1 fun t8 w8 x78 h8 => ⟨_, rfl, ?_⟩)
  have x68 := x67.trans x78
  have x08 := x07.trans x78
  refine ⟨mD, mDev, mOpt, mOv, BoxAt.at0 ha1 (x26.trans x68) rfl, ?_⟩
  refine SE.wants_OfRoot.go (wantsOfRoot_se (hS.ext x08.size) (hmD.ext x08) (hmE.ext x08) (hmO.ext x08) (hV.ext x08) hb2 fun t9 w9 x89 h9 => ⟨_, rfl, ?_⟩)
  have eb : wantE.bytes = 48 := rfl
  have l7 : (wantsOf m.over p.deps p.opt).length * 48 ≤ room := by rw [wantsOf_len]; exact hb1
  have l8 : (wantsOf [] p.deps p.opt).length * 48 ≤ room := by rw [wantsOf_len]; exact hb1
  have l9 : (wantsOf m.over (rootMust m dev) m.opt).length * 48 ≤ room := by rw [wantsOf_len]; omega
  have l11 : (wantsOf [] (rootMust m dev) m.opt).length * 48 ≤ room := by rw [wantsOf_len]; omega
  have sum1 : ((wantsOf m.over p.deps p.opt).length + (wantsOf m.over (rootMust m dev) m.opt).length) * 48 ≤ room := by rw [wantsOf_len, wantsOf_len]; omega
  have sum2 : ((wantsOf [] p.deps p.opt).length + (wantsOf [] (rootMust m dev) m.opt).length) * 48 ≤ room := by rw [wantsOf_len, wantsOf_len]; omega
  have x79 := x78.trans x89
  refine SlR.appFull (((h7.read l7).ext x79).mono (S' := fun _ => True) fun _ _ => trivial) (by have := h7.2.1; exact this) apWant ((h9.read l9).mono (S' := fun _ => True) fun _ _ => trivial) sum1 (by rw [maxLen_eq]; unfold room at sum1; omega) fun t10 w10 bel10 h10 => ?_
  have x910 : Ext w9 w10 := (Ext.refl w9).trans' bel10
  have x610 := x68.trans (x89.trans x910)
  have x010 := x06.trans x610
  refine ⟨mD, mDev, mOpt, Sl.nil, BoxAt.at0 hb6 x610 rfl, ?_⟩
  refine SE.wants_OfRoot.go (wantsOfRoot_se (m := ⟨m.deps, m.dev, m.opt, []⟩) (hS.ext x010.size) (hmD.ext x010) (hmE.ext x010) (hmO.ext x010) (SlR.nil trivial) hb2 fun t11 w11 x1011 h11 => ⟨_, rfl, ?_⟩)
  have h11 : SepW w11 (fun b => w10.heap.size ≤ b ∧ b < w11.heap.size) t11 (wantsOf [] (rootMust m dev) m.opt) := h11
  have x811 := x89.trans (x910.trans x1011)
  refine SlR.appFull (((h8.read l8).ext x811).mono (S' := fun _ => True) fun _ _ => trivial) (by have := h8.2.1; exact this) apWant ((h11.read l11).mono (S' := fun _ => True) fun _ _ => trivial) sum2 (by rw [maxLen_eq]; unfold room at sum2; omega) fun t12 w12 bel12 h12 => ?_
  have x1112 : Ext w11 w12 := (Ext.refl w11).trans' bel12
  have x1012 := x1011.trans x1112
  have x612 := x610.trans x1012
  have x212 := x26.trans x612
  have x012 := x06.trans x612
  have hA := h10.ext x1012
  generalize hAe : wantsOf m.over p.deps p.opt ++ wantsOf m.over (rootMust m dev) m.opt = A at *
  generalize hBe : wantsOf [] p.deps p.opt ++ wantsOf [] (rootMust m dev) m.opt = B at *
  have hAB : A = B.map (reW m.over) := by rw [← hAe, ← hBe, List.map_append, ← wantsOf_re, ← wantsOf_re]
  have hlAB : A.length = B.length := by rw [hAB, List.length_map]
  have hAl := hA.len; have hBl := h12.len
  refine ⟨fun h => absurd (by omega) h, fun _ => ?_⟩
  refine loop1.up hA.max (fun i w' => Ext w12 w') (Ext.refl _) fun i w13 nxt hi x1213 hn => ⟨fun hlt => bnd.drew fun w14 x1314 => ?_, fun hge => hR _ (x012.trans x1213)⟩
  have hia : i < A.length := by omega
  have hib : i < B.length := by omega
  have hel : A[i] = reW m.over B[i] := by simp [hAB]
  have x1214 := x1213.trans x1314
  obtain ⟨adA, tA, hA1, _, hAN, hAr, hAc⟩ := wantEl hA hia
  obtain ⟨adB, tB, hB1, _, hBN, hBr, hBc⟩ := wantEl h12 hib
  have cA := hAc _ x1214
  have cB := hBc _ x1214
  rw [hel] at cA hAr
  have cA : ldc w14 (adA.add (i * 3)) [.string B[i].name, .int .i64 B[i].kind, tA.v] := cA
  refine ⟨adA, ⟨hA1, by omega, hlt⟩, B[i].name, cA.pre rfl, adB, ⟨hB1, by omega, by omega⟩, B[i].name, cB.pre rfl, ?_⟩
  have eb1 : (!bEq B[i].name B[i].name) = false := by rw [bEq_iff.2 rfl]; rfl
  rw [eb1]
  refine bound ⟨adA, fun _ => ⟨hA1, by omega, hlt⟩, B[i].kind, fun _ => cA.mid (k := 1) rfl, adB, fun _ => ⟨hB1, by omega, by omega⟩, B[i].kind, fun _ => cB.mid (k := 1) rfl, fun h => by simp at h, fun _ => ?_⟩
  have x214 := x212.trans x1214
  have x014 := x02.trans x214
  have hvl := hV.len
  have hvm := hV.max
  refine ⟨adB, ⟨hB1, by omega, by omega⟩, tB, cB.mid (k := 2) rfl, mOv, BoxAt.at1 ha1 (k := 3) x214 rfl, ?_⟩
  have hw0 : wrapI ((mOv.len : Int) - 1) = ((m.over.length : Nat) : Int) - 1 := by rw [wrapI_eq (by omega) (by rw [maxLen_eq] at hvm; omega)]; omega
  rw [hw0]
  refine loop2.ghost (fun n want vk w' => vk = (n : Int) - 1 ∧ n ≤ m.over.length ∧ Ext w14 w' ∧ SlR spanE w' (fun b => b = b) want (overOf (m.over.drop n) B[i].name B[i].range)) m.over.length ⟨rfl, Nat.le_refl _, Ext.refl _, by rw [List.drop_length]; exact (hBr.ext x1214).mono fun _ _ => rfl⟩ fun n want vk w15 nxt2 ⟨hvk, hnl, x1415, hwant⟩ hn2 => ?_
  subst hvk
  refine ⟨fun h0 => ?_, fun h0 => ?_⟩
  · obtain ⟨k, rfl⟩ : ∃ k, n = k + 1 := ⟨n - 1, by omega⟩
    have hk : k < m.over.length := by omega
    have ek : ((k + 1 : Nat) : Int) - 1 = (k : Int) := by omega
    rw [ek]
    refine join.named fun J hJ => bnd.drew fun w16 x1516 => ?_
    have x1416 := x1415.trans x1516
    have x216 := x214.trans x1416
    have x016 := x02.trans x216
    obtain ⟨adV, tV, hV1, _, _, hVr, hVc⟩ := depEl hV hk
    have cV := hVc _ x016
    have key : ∀ want', SlR spanE w16 (fun b => b = b) want' (overOf (m.over.drop k) B[i].name B[i].range) → J want' w16 := fun want' hw' => by
      subst hJ
      have ew : wrapI ((k : Int) - 1) = (k : Int) - 1 := wrapI_eq (by omega) (by rw [maxLen_eq] at hvm; omega)
      show nxt2 want' (wrapI ((k : Int) - 1)) w16
      rw [ew]
      exact hn2 k _ _ _ (by omega) ⟨rfl, by omega, x1416, hw'⟩
    refine ⟨mOv, BoxAt.at1 ha1 (k := 3) x216 rfl, adV, ⟨hV1, by omega, by omega⟩, m.over[k].name, cV.pre rfl, adA, ⟨hA1, by omega, hlt⟩, B[i].name, (cA.ext x1416).pre rfl, fun he => ?_, fun he => ?_⟩
    · refine ⟨mOv, BoxAt.at1 ha1 (k := 3) x216 rfl, adV, ⟨hV1, by omega, by omega⟩, tV, cV.mid (k := 1) rfl, key _ ?_⟩
      rw [overOf_drop hk, if_pos he]
      exact (hVr.ext x016).mono fun _ _ => rfl
    · refine key _ ?_
      rw [overOf_drop hk, if_neg he]
      exact hwant.ext x1516
  · have hn0 : n = 0 := by omega
    subst hn0
    rw [List.drop_zero] at hwant
    refine ⟨adA, ⟨hA1, by omega, hlt⟩, tA, (cA.ext x1415).mid (k := 2) rfl, ?_⟩
    refine SE.halyardref05_Spans.go (r05Spans_se (S := fun b => b = b) ((hAr.ext (x1214.trans x1415)).mono fun _ _ => rfl) hwant fun w16 x1516 => ⟨_, rfl, ?_⟩)
    have er : (reW m.over B[i]).range = overOf m.over B[i].name B[i].range := rfl
    rw [er, decT]
    exact ⟨(fun h => by cases h), fun _ => hn hia _ (x1214.trans (x1415.trans x1516))⟩
end Go.Hal
