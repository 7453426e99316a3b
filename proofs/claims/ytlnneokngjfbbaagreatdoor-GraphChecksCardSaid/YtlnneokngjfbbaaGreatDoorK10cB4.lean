/- Lemmas for the claim K10c: how the program's functions run, and what they answer; no condition but those that each theorem names. -/
import Derived.Test.YtlnneokngjfbbaaGreatDoorK10cB3
set_option linter.unusedVariables false
set_option linter.unusedSimpArgs false
namespace Go.Hal
open Go Go.RowKit Go.Proofs Go.Shelf
theorem toOf_none {g : List Node} {x : Node} {i : Nat} (hN : NodeOk g i x) {n : ByteArray} (h : edgeTo g x n = none) : toOf x n = -1 := by
  unfold toOf
  cases hf : x.edges.find? fun e => decide (e.name = n) with
  | none => rfl
  | some e =>
    exfalso
    unfold edgeTo at h
    rw [hf] at h
    obtain ⟨j, y, h1, _, h3, _⟩ := hN.to e (List.mem_of_find?_eq_some hf)
    have h4 : g[e.to.toNat]? = none := h
    rw [h1, Int.toNat_natCast, h3] at h4
    cases h4
theorem ctx_small {g : List Node} {x : Node} (hrc : Rises x.ctx) (hI : CtxOk g x x.ctx) : x.ctx.length ≤ x.edges.length := by
  have := nodup_le hrc.nodup (m := x.edges.map Edge.name) fun n hn => by
    obtain ⟨q, hq, rfl⟩ := List.mem_map.1 hn
    obtain ⟨y, hy, _⟩ := hI q hq
    obtain ⟨ed, h1, h2, _⟩ := edgeTo_some hy
    exact List.mem_map.2 ⟨ed, h1, h2⟩
  simpa using this
set_option maxHeartbeats 16000000 in
theorem r10sound_se {s c e o : Sl} {g : List Node} {ws : List Want} {i0 : Nat} {x : Node} {S T SC SM : Nat → Prop} {p : Addr} {L : List Pack} {m : Mani} {mD mDev mOpt mOv : Sl} {w : World} {R : Bool → World → Prop}
    (hs : SlR nodeE w S s g) (hcx : SlR pinE w S c x.ctx) (he : SlR edgeE w S e x.edges) (hNo : NodeOk g i0 x) (ho : SlR wantE w T o ws) (hC : RefR w SC p L) (hSM : Old SM w) (hO : SlR depE w SM mOv m.over) (hb : x.edges.length ≤ 1000)
    (hR : ∀ (b : Bool) w', Ext w w' → (b = true ↔ SoundAt L m.over g ws x) → R b w') : SE.halyardref10_sound s x.name x.v.ma x.v.mi x.v.pa c e o (some p) mD mDev mOpt mOv w R := by
  unfold SE.halyardref10_sound
  have hsl := hs.len
  have hol := ho.len
  have hcl := hcx.len
  have hel := he.len
  have hbad : ∀ w', Ext w w' → ¬ SoundAt L m.over g ws x → R false w' := fun w' hx h => hR false w' hx ⟨(fun h => by cases h), fun hf => absurd hf h⟩
  refine newS.intro fun a w1 x1 hb1 _ _ => newS.intro fun a1 w2 x2 hb2 _ _ => newS.intro fun a3 w3 x3 hb3 _ _ => ?_
  have x03 := x1.trans (x2.trans x3)
  have g1 : ∀ w', Ext w3 w' → ldc w' a [s.v] := fun w' hx => (hb1.ext (x2.trans (x3.trans hx))).ldc.pre (r := []) rfl
  have g2 : ∀ w', Ext w3 w' → BoxAt w' a1 [.string x.name, .int .i64 x.v.ma, .int .i64 x.v.mi, .int .i64 x.v.pa, c.v, e.v] := fun w' hx => hb2.ext (x3.trans hx)
  have g3 : ∀ w', Ext w3 w' → BoxAt w' a3 [mD.v, mDev.v, mOpt.v, mOv.v] := fun w' hx => hb3.ext hx
  refine loop1.up ho.max (fun i w' => Ext w3 w' ∧ OwnOk g x (ws.take i)) ⟨Ext.refl _, fun _ h => by cases h⟩ fun i w5 nxt hi ⟨x5, hI⟩ hn => ⟨fun hlt => join.named fun J hJ => bnd.drew fun w6 x6 => ?_, fun hge => ?_⟩
  · have hlt' : i < ws.length := by omega
    obtain ⟨aw, t, haw, _, hwn, hwr, hcw⟩ := wantEl ho hlt'
    have hmem : ws[i] ∈ ws := List.getElem_mem hlt'
    have hbadW : ∀ w', Ext w w' → ¬ ((edgeTo g x ws[i].name = none → ws[i].kind ≠ 1) ∧ ∀ y, edgeTo g x ws[i].name = some y → spansIn ws[i].range y.v = true) → R false w' := fun w' hx h => hbad w' hx fun hs => h (hs.own _ hmem)
    have hstep := ownOk_step hlt' hI
    have fin : ∀ w', Ext w3 w' → ((edgeTo g x ws[i].name = none → ws[i].kind ≠ 1) ∧ ∀ y, edgeTo g x ws[i].name = some y → spansIn ws[i].range y.v = true) → J w' := fun w' hx h => by
      subst hJ
      exact hn hlt' w' ⟨hx, hstep h⟩
    clear hJ hn hstep
    have x36 := x5.trans x6
    have x06 := x03.trans x36
    generalize ws[i] = wt at *
    refine ⟨_, _, _, _, c, e, (g2 _ x36).ldc.pre (r := []) rfl, aw, ⟨haw, by omega, hlt⟩, _, (hcw _ x06).pre rfl, SE.halyardref10_edge.go (r10edge_se (he.ext x06) fun w7 x7 => ⟨_, rfl, bound ⟨aw, fun _ => ⟨haw, by omega, hlt⟩, wt.kind, fun _ => (hcw _ (x06.trans x7)).mid (k := 1) rfl, ?_⟩⟩)⟩
    have x37 := x36.trans x7
    have x07 := x06.trans x7
    cases hy : edgeTo g x wt.name with
    | none =>
      rw [toOf_none hNo hy]
      rw [hy] at fin hbadW
      refine ⟨fun hq => hbadW w7 x07 fun h => ?_, fun hq => ⟨fun _ => fin w7 x37 ⟨fun _ h => ?_, fun y h => by cases h⟩, fun h => absurd (by decide) h⟩⟩
      · have h1 := h.1 rfl
        simp at hq; exact h1 hq
      · rw [h] at hq; simp at hq
    | some y =>
      rw [hy] at fin hbadW
      obtain ⟨j, hj, hj1, hjy⟩ := toOf_edgeTo hNo hy
      obtain ⟨hjl, hjz⟩ := List.getElem?_eq_some_iff.1 hjy
      obtain ⟨ad5, c5, e5, had5, _, _, _, hcn5⟩ := nodeEl hs hjl
      rw [hjz] at hcn5
      rw [hj]
      refine ⟨fun hq => ?_, fun _ => ⟨fun h => by omega, fun _ => bnd.drew fun w8 x8 => ?_⟩⟩
      · rw [decide_eq_false (by omega : ¬ (j : Int) < 0)] at hq; cases hq
      have x38 := x37.trans x8
      have x08 := x07.trans x8
      refine ⟨aw, ⟨haw, by omega, hlt⟩, t, (hcw _ x08).mid (k := 2) (r := []) rfl, s, g1 _ x38, ad5, ⟨had5, by omega, by omega⟩, y.v.ma, y.v.mi, y.v.pa, by rw [Int.toNat_natCast]; exact (hcn5 _ x08).mid (k := 1) rfl, ?_⟩
      refine SE.halyardref03_In.go (r03In_se (hwr.ext x08) fun w9 x9 => ⟨_, rfl, fun hq => hbadW w9 (x08.trans x9) fun h => ?_, fun hq => fin w9 (x38.trans x9) ⟨(fun h => by cases h), fun z hz => ?_⟩⟩)
      · rw [h.2 y rfl] at hq; cases hq
      · cases hz; simpa using hq
  rw [List.take_of_length_le (by omega)] at hI
  clear hn
  refine loop1.up hcx.max (fun i w' => Ext w3 w' ∧ CtxOk g x (x.ctx.take i)) ⟨x5, fun _ h => by cases h⟩ fun i w6 nxt hi6 ⟨x6, hI6⟩ hn => ⟨c, (g2 _ x6).at1 (k := 4) (Ext.refl _) rfl, fun hlt => bnd.drew fun w7 x7 => ?_, fun hge6 => ?_⟩
  · have hlt' : i < x.ctx.length := by omega
    obtain ⟨ap, hap, _, _, hcp⟩ := pinEl hcx hlt'
    have hmem : x.ctx[i] ∈ x.ctx := List.getElem_mem hlt'
    have hbadP : ∀ w', Ext w w' → ¬ (∃ y, edgeTo g x x.ctx[i].name = some y ∧ y.v = x.ctx[i].v) → R false w' := fun w' hx h => hbad w' hx fun hs => h (hs.ctx _ hmem)
    have hstep := ctxOk_step hlt' hI6
    have fin : ∀ w', Ext w3 w' → (∃ y, edgeTo g x x.ctx[i].name = some y ∧ y.v = x.ctx[i].v) → nxt (wrapI ((i : Int) + 1)) w' := fun w' hx h => hn hlt' w' ⟨hx, hstep h⟩
    clear hn hstep
    have x37 := x6.trans x7
    have x07 := x03.trans x37
    generalize x.ctx[i] = pn at *
    refine ⟨_, _, _, _, c, e, (g2 _ x37).ldc.pre (r := []) rfl, c, (g2 _ x37).at1 (k := 4) (Ext.refl _) rfl, ap, ⟨hap, by omega, hlt⟩, _, (hcp _ x07).pre rfl, SE.halyardref10_edge.go (r10edge_se (he.ext x07) fun w8 x8 => ⟨_, rfl, bnd.drew fun w9 x9 => bound ?_⟩)⟩
    have x39 := x37.trans (x8.trans x9)
    have x09 := x03.trans x39
    cases hy : edgeTo g x pn.name with
    | none =>
      rw [toOf_none hNo hy]
      refine ⟨s, (fun h => by cases h), ap, (fun h => by cases h), 0, 0, 0, (fun h => by cases h), c, (fun h => by cases h), ap, (fun h => by cases h), 0, 0, 0, (fun h => by cases h), fun _ => hbadP w9 x09 fun ⟨z, hz, _⟩ => ?_, fun hq => by cases hq⟩
      rw [hy] at hz; cases hz
    | some y =>
      obtain ⟨j, hj, hj1, hjy⟩ := toOf_edgeTo hNo hy
      obtain ⟨hjl, hjz⟩ := List.getElem?_eq_some_iff.1 hjy
      obtain ⟨ad5, c5, e5, had5, _, _, _, hcn5⟩ := nodeEl hs hjl
      rw [hjz] at hcn5
      rw [hj, decide_eq_false (by omega : ¬ (j : Int) < 0)]
      refine ⟨s, fun _ => g1 _ x39, ad5, fun _ => ⟨had5, by omega, by omega⟩, y.v.ma, y.v.mi, y.v.pa, fun _ => by rw [Int.toNat_natCast]; exact (hcn5 _ x09).mid (k := 1) rfl, c, fun _ => (g2 _ x39).at1 (k := 4) (Ext.refl _) rfl, ap, fun _ => ⟨hap, by omega, hlt⟩, pn.v.ma, pn.v.mi, pn.v.pa, fun _ => (hcp _ x09).mid (k := 1) (r := []) rfl, ?_⟩
      have ev : ((y.v.ma == pn.v.ma) && ((y.v.mi == pn.v.mi) && ((y.v.pa == pn.v.pa) && true))) = decide (y.v = pn.v) := verB
      rw [ev, Bool.false_or]
      refine ⟨fun hq => hbadP w9 x09 fun ⟨z, hz, hzv⟩ => ?_, fun hq => fin w9 x39 ⟨y, hy, by simpa using hq⟩⟩
      rw [hy] at hz; cases hz
      rw [decide_eq_true hzv] at hq; cases hq
  rw [List.take_of_length_le (by omega)] at hI6
  clear hn
  have hcb := ctx_small hNo.ctx hI6
  have henv := envOf_full (g := g) hNo.ctx hNo.rise hI6
  have x06 := x03.trans x6
  refine ⟨s, g1 _ x6, _, _, _, _, c, e, (g2 _ x6).ldc.pre (r := []) rfl, SE.halyardref10_Env.go (r10Env_se (hs.ext x06) (hcx.ext x06) (he.ext x06) hNo hI6 (by omega) (by omega) fun et w7 x7 het => ⟨et, true, rfl, (fun h => by cases h), fun _ => ?_⟩)⟩
  have x37 := x6.trans x7
  have x07 := x06.trans x7
  refine loop1.up he.max (fun i w' => Ext w7 w' ∧ ∀ ed ∈ x.edges.take i, EdgeOk L m.over g ws x (envPins g x) ed) ⟨Ext.refl _, fun _ h => by cases h⟩ fun i w8 nxt hi8 ⟨x8, hI8⟩ hn => ⟨e, (g2 _ (x37.trans x8)).at1 (k := 5) (r := []) (Ext.refl _) rfl, fun hlt => ?_, fun hge8 => ?_⟩
  · have hlt' : i < x.edges.length := by omega
    obtain ⟨ae, hae, hce⟩ := edgeEl he hlt'
    have hmem : x.edges[i] ∈ x.edges := List.getElem_mem hlt'
    have hbadE : ∀ w', Ext w w' → ¬ EdgeOk L m.over g ws x (envPins g x) x.edges[i] → R false w' := fun w' hx h => hbad w' hx fun hs => by
      obtain ⟨env', h1, h2⟩ := hs.env
      rw [henv] at h1
      cases h1
      exact h (h2 _ hmem)
    have fin : ∀ w', Ext w7 w' → EdgeOk L m.over g ws x (envPins g x) x.edges[i] → nxt (wrapI ((i : Int) + 1)) w' := fun w' hx h => hn hlt' w' ⟨hx, fun ed hed => by
      rw [List.take_succ_eq_append_getElem hlt'] at hed
      rcases List.mem_append.1 hed with hed | hed
      · exact hI8 ed hed
      · rw [List.mem_singleton] at hed; subst hed; exact h⟩
    clear hn
    obtain ⟨j, y, e1, e2, e3, e4⟩ := hNo.to _ hmem
    obtain ⟨hjl, hgj⟩ := List.getElem?_eq_some_iff.1 e3
    obtain ⟨ad5, c5, g5, ha5, hyn, hyc, _, hc5⟩ := nodeEl hs hjl
    rw [hgj] at hyn hyc hc5
    have etn : x.edges[i].to.toNat = j := by omega
    generalize x.edges[i] = ed at *
    have x38 := x37.trans x8
    have x08 := x07.trans x8
    refine loop2.up ho.max (fun asked k w' => Ext w7 w' ∧ (asked = true ↔ ed.name ∈ (ws.take k).map Want.name)) ⟨x8, ⟨(fun h => by cases h), (fun h => by cases h)⟩⟩ fun asked k w9 nxt2 hk ⟨x9, hA⟩ hn2 => ⟨fun hlt2 => bnd.drew fun w10 x10 => ?_, fun hge2 => ?_⟩
    · have hk' : k < ws.length := by omega
      obtain ⟨aw, t, haw, _, _, _, hcw⟩ := wantEl ho hk'
      have x7a := x9.trans x10
      have x0a := x07.trans x7a
      refine ⟨aw, fun _ => ⟨haw, by omega, hlt2⟩, ws[k].name, fun _ => (hcw _ x0a).pre rfl, e, fun _ => (g2 _ (x37.trans x7a)).at1 (k := 5) (r := []) (Ext.refl _) rfl, ae, fun _ => ⟨hae, by omega, hlt⟩, ed.name, fun _ => (hce _ x0a).pre rfl, hn2 hk' _ w10 ⟨x7a, ?_⟩⟩
      rw [List.take_succ_eq_append_getElem hk', List.map_append, List.mem_append, Bool.or_eq_true, hA, bEq_iff]
      simp [eq_comm]
    rw [List.take_of_length_le (by omega)] at hA
    clear hn2
    refine loop2.up hcx.max (fun asked2 k w' => Ext w7 w' ∧ (asked2 = true ↔ ed.name ∈ ws.map Want.name ∨ ed.name ∈ (x.ctx.take k).map Pin.name)) ⟨x9, by rw [hA]; simp⟩ fun asked2 k w10 nxt2 hk2 ⟨x10, hA2⟩ hn2 => ⟨c, (g2 _ (x37.trans x10)).at1 (k := 4) (Ext.refl _) rfl, fun hlt2 => bnd.drew fun w11 x11 => ?_, fun hge3 => bnd.drew fun w11 x11 => ?_⟩
    · have hk' : k < x.ctx.length := by omega
      obtain ⟨ap, hap, _, _, hcp⟩ := pinEl hcx hk'
      have x7b := x10.trans x11
      have x0b := x07.trans x7b
      refine ⟨c, fun _ => (g2 _ (x37.trans x7b)).at1 (k := 4) (Ext.refl _) rfl, ap, fun _ => ⟨hap, by omega, hlt2⟩, x.ctx[k].name, fun _ => (hcp _ x0b).pre rfl, e, fun _ => (g2 _ (x37.trans x7b)).at1 (k := 5) (r := []) (Ext.refl _) rfl, ae, fun _ => ⟨hae, by omega, hlt⟩, ed.name, fun _ => (hce _ x0b).pre rfl, hn2 hk' _ w11 ⟨x7b, ?_⟩⟩
      rw [List.take_succ_eq_append_getElem hk', List.map_append, List.mem_append, Bool.or_eq_true, hA2, bEq_iff, or_assoc]
      simp [eq_comm]
    rw [List.take_of_length_le (by omega)] at hA2
    clear hn2
    have x7b := x10.trans x11
    have x3b := x37.trans x7b
    have x0b := x07.trans x7b
    refine ⟨s, g1 _ x3b, e, (g2 _ x3b).at1 (k := 5) (r := []) (Ext.refl _) rfl, ae, ⟨hae, by omega, hlt⟩, _, (hce _ x0b).mid (k := 1) (r := []) rfl, ad5, ⟨ha5, by omega, by omega⟩, y.name, y.v.ma, y.v.mi, y.v.pa, c5, g5, by rw [etn]; exact hc5 _ x0b, newS.set rfl fun a89 w12 x12 hb12 _ => ?_⟩
    have x7c := x7b.trans x12
    have x0c := x07.trans x7c
    refine ⟨mD, mDev, mOpt, mOv, (g3 _ (x37.trans x7c)).ldc.pre (r := []) rfl, _, hb12.at0 (Ext.refl _) rfl, _, _, _, hb12.at1 (k := 1) (Ext.refl _) rfl, ?_⟩
    have hmid : ∀ (t175 : Sl) (ok : Bool) w13 (l : List Pin), Ext w12 w13 → SlR pinE w13 (fun b => w12.heap.size ≤ b ∧ b < w13.heap.size) t175 l → (ok = true → ctxRes L m.over (envPins g x) ⟨y.name, y.v⟩ = some l) → (ok = false → ctxRes L m.over (envPins g x) ⟨y.name, y.v⟩ = none) →
        ∃ (t180 : Sl), (ldc w13 (a89.add 4) [(Sl.v t180)]) ∧ callS Tryz.prog 122 [(Sl.v t175), (Sl.v t180)] w13 fun v100 vw99 => ∃ (t181 : Bool), v100 = (Value.bool t181) ∧ bnd (!asked2) fun (b102 : Bool) => bnd (b102 || (!ok)) fun (b103 : Bool) => (((b103 || (!t181)) = true → R false vw99) ∧ ((b103 || (!t181)) = false → nxt (wrapI ((i : Int) + 1)) vw99)) := by
      intro t175 ok w13 l x13 hl1 hok1 hok0
      have x7d := x7c.trans x13
      have x0d := x07.trans x7d
      refine ⟨c5, hb12.at1 (k := 4) x13 rfl, SE.halyardref10_pins.go (r10pins_se hl1 (hyc.ext x0d) fun w14 x14 => ⟨_, rfl, bound (bound ⟨fun hq => hbadE w14 (x0d.trans x14) fun hE => ?_, fun hq => fin w14 (x7d.trans x14) ?_⟩)⟩)⟩
      · obtain ⟨h1, z, hz, hzc⟩ := hE
        rw [etn, e3] at hz
        cases hz
        have ha : asked2 = true := hA2.2 h1
        have hk : ok = true := by
          cases ok with
          | true => rfl
          | false => rw [hok0 rfl] at hzc; cases hzc
        rw [hok1 hk] at hzc
        rw [ha, hk, decide_eq_true (Option.some.inj hzc)] at hq
        cases hq
      · simp only [Bool.or_eq_false_iff, Bool.not_eq_false', decide_eq_true_eq] at hq
        obtain ⟨⟨h1, h2⟩, h3⟩ := hq
        exact ⟨hA2.1 h1, y, by rw [etn, e3], by rw [hok1 h2, h3]⟩
    refine SE.halyardref09_Context.go (r09Context_se (SM := SM) (SE3 := fun b => w6.heap.size ≤ b ∧ b < w7.heap.size) (pn := ⟨y.name, y.v⟩) (over := m.over) (hC.ext x0c) (hSM.ext x0c.size) (fun b hb => by have := x7c.size; omega) (hO.ext x0c) (het.ext x7c) hyn (fun l t w13 hl x13 hfl => ⟨t, true, rfl, hmid t true w13 l x13 hfl (fun _ => hl) (fun h => by cases h)⟩) fun w13 hl x13 => ⟨_, false, rfl, hmid _ false w13 [] x13 (SlR.nil trivial) (fun h => by cases h) fun _ => hl⟩)
  · rw [List.take_of_length_le (by omega)] at hI8
    exact hR true w8 (x07.trans x8) ⟨fun _ => ⟨hI, hI6, envPins g x, henv, hI8⟩, fun _ => rfl⟩
set_option maxHeartbeats 16000000 in
theorem r10Check_se {s : Sl} {q : Quest} {g : List Node} {S SC SM : Nat → Prop} {p : Addr} {mD mDev mOpt mOv : Sl} {w : World} {R : Int → World → Prop}
    (hS : Old S w) (hs : SlR nodeE w S s g) (hC : RefR w SC p q.L) (hSM : Old SM w) (hD : SlR depE w SM mD q.m.deps) (hE : SlR depE w SM mDev q.m.dev) (hP : SlR depE w SM mOpt q.m.opt) (hO : SlR depE w SM mOv q.m.over)
    (hR : ∀ w', Ext w w' → R (checkOf q g) w') : SE.halyardref10_Check s (some p) mD mDev mOpt mOv q.dev w R := by
  unfold SE.halyardref10_Check
  have hsl := hs.len
  refine newS.intro fun a w1 x1 hb1 hab1 _ => newS.intro fun a1 w2 x2 hb2 hab2 _ => ⟨mD, mDev, mOpt, mOv, hb2.ldc.pre (r := []) rfl, ?_⟩
  have x02 := x1.trans x2
  have KA : ∀ w', Ext w2 w' → BoxAt w' a [s.v] ∧ BoxAt w' a1 [mD.v, mDev.v, mOpt.v, mOv.v] := fun w' hx => ⟨hb1.ext (x2.trans hx), hb2.ext hx⟩
  refine SE.halyardref06_May.go (r06May_se (m := q.m) (hD.ext x02) (hE.ext x02) (hP.ext x02) (hO.ext x02) fun w3 x3 => ⟨_, rfl, fun hq => ?_, fun hq => ?_⟩)
  · have := hR w3 (x02.trans x3)
    have hm : maniMay q.m = false := by simpa using hq
    unfold checkOf at this
    rw [if_neg (by rw [hm]; decide)] at this
    exact this
  have hm : maniMay q.m = true := by simpa using hq
  have hsmall := maniMay_small hm
  have good : Sol q g → ∀ w', Ext w w' → R 0 w' := fun hs w' hx => by
    have := hR w' hx
    unfold checkOf at this
    rw [if_pos hm, if_pos hs] at this
    exact this
  have bad : ¬ Sol q g → ∀ w', Ext w w' → R 33 w' := fun hs w' hx => by
    have := hR w' hx
    unfold checkOf at this
    rw [if_pos hm, if_neg hs] at this
    exact this
  clear hR hq
  have x03 := x02.trans x3
  refine ⟨s, (KA _ x3).1.ldc.pre (r := []) rfl, SE.halyardref10_formed.go (r10formed_se (hs.ext x03) fun b w4 x4 hf => ⟨b, rfl, fun hb => ?_, fun hb => ?_⟩)⟩
  · refine bad (fun h => ?_) w4 (x03.trans x4)
    rw [hf.2 h.formed] at hb; cases hb
  have hF : Formed g := hf.1 (by simpa using hb)
  have x04 := x03.trans x4
  have x24 := x3.trans x4
  refine loop1.up hs.max (fun i w' => Ext w2 w' ∧ ∀ j x, g[j]? = some x → j < i → (j ≠ 0 → (getL q.L x.name x.v).isSome = true) ∧ SoundAt q.L q.m.over g (q.wants g j) x) ⟨x24, fun j x _ h => by omega⟩ fun i w5 nxt hi ⟨x5, hI⟩ hn => ⟨s, (KA _ x5).1.ldc.pre (r := []) rfl, fun hlt => ?_, fun hge => ?_⟩
  · have hlt' : i < g.length := by omega
    have hgi : g[i]? = some g[i] := List.getElem?_eq_getElem hlt'
    have hno := hF.nodes i _ hgi
    have hedg := node_edges hno
    have hgl := hF.len
    obtain ⟨ad, c, e, ha, hnm, hcx, he, hcn⟩ := nodeEl hs hlt'
    have x05 := x02.trans x5
    have fin : ∀ w', Ext w2 w' → (i ≠ 0 → (getL q.L g[i].name g[i].v).isSome = true) → SoundAt q.L q.m.over g (q.wants g i) g[i] → nxt (wrapI ((i : Int) + 1)) w' := fun w' hx h1 h2 => hn hlt' w' ⟨hx, fun j x hj hji => by
      rcases Nat.lt_succ_iff_lt_or_eq.1 hji with h | h
      · exact hI j x hj h
      · subst h
        rw [hgi] at hj; cases hj
        exact ⟨h1, h2⟩⟩
    clear hn
    refine ⟨mD, mDev, mOpt, mOv, (KA _ x5).2.ldc.pre (r := []) rfl, ?_⟩
    refine SE.halyardref09_OfRoot.go (r09OfRoot_se (m := q.m) (hSM.ext x05.size) (hD.ext x05) (hE.ext x05) (hP.ext x05) (hO.ext x05) (by unfold room; omega) fun t34 w7 x7 hrt => ⟨_, rfl, join.named fun J hJ => ?_⟩)
    have x27 := x5.trans x7
    have x07 := x02.trans x27
    have hJ' : ∀ (T : Nat → Prop) own w', Ext w2 w' → SlR wantE w' T own (q.wants g i) → (i ≠ 0 → (getL q.L g[i].name g[i].v).isSome = true) → J own w' := by
      subst hJ
      intro T own w8 x8 hown hthere
      refine bnd.drew fun w9 x9 => ?_
      have x29 := x8.trans x9
      have x09 := x02.trans x29
      refine ⟨s, (KA _ x29).1.ldc.pre (r := []) rfl, s, (KA _ x29).1.ldc.pre (r := []) rfl, ad, ⟨ha, by omega, hlt⟩, _, _, _, _, c, e, hcn _ x09, mD, mDev, mOpt, mOv, (KA _ x29).2.ldc.pre (r := []) rfl, ?_⟩
      refine SE.halyardref10_sound.go (r10sound_se (ws := q.wants g i) (m := q.m) (L := q.L) (hs.ext x09) (hcx.ext x09) (he.ext x09) hno (hown.ext x9) (hC.ext x09) (hSM.ext x09.size) (hO.ext x09) (by omega) fun b w10 x10 hb => ⟨b, rfl, fun hq => ?_, fun hq => fin w10 (x29.trans x10) hthere (hb.1 (by simpa using hq))⟩)
      refine bad (fun h => ?_) w10 (x09.trans x10)
      rw [hb.2 (h.nodes i _ hgi)] at hq; cases hq
    clear hJ fin
    refine ⟨fun h0 => join.named fun J2 hJ2 => bnd.drew fun w8 x8 => ?_, fun h0 => ?_⟩
    · have hi0 : i ≠ 0 := by omega
      have x28 := x27.trans x8
      have x08 := x02.trans x28
      have fin2 : ∀ (pa : Addr) (d e' o : Sl) w', Ext w8 w' → BoxAt w' pa [.string (getD q.L g[i].name g[i].v).name, .int .i64 (getD q.L g[i].name g[i].v).v.ma, .int .i64 (getD q.L g[i].name g[i].v).v.mi, .int .i64 (getD q.L g[i].name g[i].v).v.pa, d.v, e'.v, o.v] → SlR depE w' SC d (getD q.L g[i].name g[i].v).deps → SlR depE w' SC o (getD q.L g[i].name g[i].v).opt →
          J2 pa (getL q.L g[i].name g[i].v).isSome w' := by
        subst hJ2
        intro pa d e' o w9 x9 hbp hd hoo
        have x29 := x28.trans x9
        have x09 := x02.trans x29
        cases hget : getL q.L g[i].name g[i].v with
        | none =>
          refine ⟨fun _ => bad (fun h => ?_) w9 x09, (fun h => by cases h)⟩
          have := h.there i _ hgi hi0
          rw [hget] at this; cases this
        | some pk =>
          have hDD : getD q.L g[i].name g[i].v = pk := by unfold getD; rw [hget]; rfl
          obtain ⟨q1, q2, q3⟩ := getD_small hC.good g[i].name g[i].v
          rw [hDD] at hbp hd hoo q1 q2 q3
          refine ⟨(fun h => by cases h), fun _ => ?_⟩
          refine ⟨_, _, _, _, d, e', o, hbp.ldc.pre (r := []) rfl, mD, mDev, mOpt, mOv, (KA _ x29).2.ldc.pre (r := []) rfl, ?_⟩
          refine SE.halyardref09_Of.go (r09Of_se (p := pk) (S := fun b => b < w9.heap.size) (fun b h => h) (hd.mono fun b h => by have := hC.old b h; have := x09.size; omega) (hoo.mono fun b h => by have := hC.old b h; have := x09.size; omega) ((hO.ext x09).mono fun b h => (hSM.ext x09.size) b h) (by unfold room; omega) fun t50 w10 x10 hrt2 => ⟨_, rfl, ?_⟩)
          have hw : q.wants g i = wantsOf q.m.over pk.deps pk.opt := wants_at hi0 hgi hget
          rw [← hw] at hrt2
          exact hJ' _ t50 w10 (x29.trans x10) hrt2 fun _ => by rw [hget]; rfl
      clear hJ2
      refine ⟨s, (KA _ x28).1.ldc.pre (r := []) rfl, ad, ⟨ha, by omega, hlt⟩, _, (hcn _ x08).pre rfl, s, (KA _ x28).1.ldc.pre (r := []) rfl, ad, ⟨ha, by omega, hlt⟩, g[i].v.ma, g[i].v.mi, g[i].v.pa, (hcn _ x08).mid (k := 1) rfl, ?_, ?_⟩
      · refine SE.halyardref08_Catalog_Get.go (r08Get_se (n := g[i].name) (v := g[i].v) (hC.ext x08) fun d e' o w9 x9 _ hd _ hoo => ⟨_, _, _, _, d, e', o, _, rfl, newS.set rfl fun a43 w10 x10 hb10 _ => fin2 a43 d e' o w10 (x9.trans x10) hb10 (hd.ext x10) (hoo.ext x10)⟩)
      · refine newS.intro fun a46 w9 x9 hb9 hab9 _ => ?_
        refine SE.halyardref08_Catalog_Get.go (r08Get_se (n := g[i].name) (v := g[i].v) (hC.ext (x08.trans x9)) fun d e' o w10 x10 _ hd _ hoo => ⟨_, _, _, _, d, e', o, _, rfl, stw0.intro (hb9.ext x10) (by simp) fun w11 b11 _ hb11 => ?_⟩)
        have x11 : Ext w8 w11 := b11.ext (x9.trans x10) (by omega)
        have hnot : ¬ SC a46.block := fun h => by have := hC.old _ h; have := x08.size; omega
        refine fin2 a46 d e' o w11 x11 hb11 (hd.but b11 hnot) (hoo.but b11 hnot)
    · have hi0 : i = 0 := by omega
      have hw : q.wants g i = wantsOf q.m.over (rootMust q.m q.dev) q.m.opt := by subst hi0; rfl
      rw [← hw] at hrt
      exact hJ' _ t34 w7 x27 hrt fun h => absurd hi0 h
  · refine good ⟨hF, fun j x hj h0 => ?_, fun j x hj => ?_⟩ w5 (x02.trans x5)
    · have := (List.getElem?_eq_some_iff.1 hj).1
      exact (hI j x hj (by omega)).1 h0
    · have := (List.getElem?_eq_some_iff.1 hj).1
      exact (hI j x hj (by omega)).2
end Go.Hal
namespace Go.Hal
open Go Go.RowKit Go.Proofs Go.Shelf
set_option maxHeartbeats 4000000 in
theorem graphChecks_se {gS sP mD mDev mOpt mOv : Sl} {g : List Node} {lp : List Pack} {m : Mani} {dev : Bool} {SA : Nat → Prop} {w : World} {R : Bool → World → Prop} (ht : Tab w) (hA : Old SA w) (hg : SlR nodeE w SA gS g) (hP : SlR packE w SA sP lp)
    (hd : SlR depE w SA mD m.deps) (he : SlR depE w SA mDev m.dev) (ho : SlR depE w SA mOpt m.opt) (hv : SlR depE w SA mOv m.over) (hR : ∀ w', Ext w w' → R true w') : SE.halyardlaw10_GraphChecks gS sP mD mDev mOpt mOv dev w R := by
  unfold SE.halyardlaw10_GraphChecks
  refine newS.intro fun a w1 x1 ha _ _ => newS.intro fun a1 w2 x2 ha1 _ _ => ⟨_, _, _, _, _, _, ha1.ldc.pre (r := []) rfl, ?_⟩
  have x02 := x1.trans x2
  refine SE.halyardlaw10_World_catalogs.go (catalogs10_se (ht.ext x02) (hA.ext x02.size) (hP.ext x02) fun p r q w3 x3 hB => ⟨_, _, _, rfl, (fun h => by cases h), fun _ => bnd.drew fun w4 x4 => ?_⟩)
  have x24 := x3.trans x4
  have x04 := x02.trans x24
  obtain ⟨⟨SC, hcat, _, _⟩, ⟨SR, href, _, _⟩, _, _⟩ := hB.ext x4
  refine ⟨gS, (ha.ext (x2.trans x24)).ldc.pre (r := []) rfl, mD, mDev, mOpt, mOv, ha1.at1 (k := 1) x24 rfl, dev, ha1.at1 (k := 5) (r := []) x24 rfl, gS, (ha.ext (x2.trans x24)).ldc.pre (r := []) rfl, mD, mDev, mOpt, mOv, ha1.at1 (k := 1) x24 rfl, dev, ha1.at1 (k := 5) (r := []) x24 rfl, ?_⟩
  refine callX.intro (SE.graph_Check.go (check_se (q := ⟨catOf lp, m, dev, [], 0, 0⟩) (ht.ext x04) (hA.ext x04.size) (hg.ext x04) hcat (hA.ext x04.size) (hd.ext x04) (he.ext x04) (ho.ext x04) (hv.ext x04) fun w5 x5 => ⟨x5, _, rfl, ?_⟩))
  have x05 := x04.trans x5
  refine SE.halyardref10_Check.go (r10Check_se (q := ⟨catOf lp, m, dev, [], 0, 0⟩) (hA.ext x05.size) (hg.ext x05) (href.ext x5) (hA.ext x05.size) (hd.ext x05) (he.ext x05) (ho.ext x05) (hv.ext x05) fun w6 x6 => ⟨_, rfl, bound ?_⟩)
  generalize checkOf _ g = k
  have e1 : (k == k) = true := by simp
  rw [e1]
  refine gCall.intro true (fun _ q hq => SE.halyardlaw10_lives.go (lives10_se (ht.ext (x05.trans x6)) fun w7 x7 => ⟨_, rfl, hq w7 x7⟩)) fun t7 w7 x7 ht7 => ?_
  rw [ht7 rfl]
  exact hR w7 ((x05.trans x6).trans x7)
end Go.Hal
namespace Go.Hal
open Go Go.RowKit Go.ChangeShapes Go.WideShapes Go.ChangeAt Go.Proofs
section
variable {H : Type} {W : World}
theorem ceE : Tryz.prog.cellsOf 81 = 2 := by kernel_rfl
theorem ceN : Tryz.prog.cellsOf 64 = 6 := by kernel_rfl
theorem ceG : Tryz.prog.cellsOf 38 = 1 := by kernel_rfl
theorem ceLe : Tryz.prog.cellsOf 62 = 1 := by kernel_rfl
theorem ceLn : Tryz.prog.cellsOf 36 = 1 := by kernel_rfl
theorem rdEdge : Rd H Tryz.prog W edgeE 81 := by
  intro enc n cs x h hw
  have hl := rd_len Tryz.underlying81 h
  rw [ceE] at hl
  obtain ⟨y0, m0, h0, w0⟩ := rd_field Tryz.underlying81 h hw 0 9 0 1 ⟨_, rfl, rfl, rfl⟩ ceS
  obtain ⟨y1, m1, h1, w1⟩ := rd_field Tryz.underlying81 h hw 1 3 1 1 ⟨_, rfl, rfl, rfl⟩ ceI
  obtain ⟨s, e0, hs⟩ := rdStr h0
  obtain ⟨k, e1⟩ := rdI h1
  match cs, hl with
  | [a, b], _ =>
    simp at e0 e1
    exact ⟨⟨s, k⟩, by rw [e0, e1], hs⟩
theorem rdEdges : RdS H Tryz.prog W edgeE 62 := rd_slice Tryz.underlying62 ceE (by kernel_rfl) (by decide) rdEdge
theorem rdNode : Rd H Tryz.prog W nodeE 64 := by
  intro enc n cs x h hw
  have hl := rd_len Tryz.underlying64 h
  rw [ceN] at hl
  obtain ⟨y0, m0, h0, w0⟩ := rd_field Tryz.underlying64 h hw 0 9 0 1 ⟨_, rfl, rfl, rfl⟩ ceS
  obtain ⟨y1, m1, h1, w1⟩ := rd_field Tryz.underlying64 h hw 1 45 1 3 ⟨_, rfl, rfl, rfl⟩ ceV
  obtain ⟨y2, m2, h2, w2⟩ := rd_field Tryz.underlying64 h hw 2 26 4 1 ⟨_, rfl, rfl, rfl⟩ ceLp
  obtain ⟨y3, m3, h3, w3⟩ := rd_field Tryz.underlying64 h hw 3 62 5 1 ⟨_, rfl, rfl, rfl⟩ ceLe
  obtain ⟨s, e0, hs⟩ := rdStr h0
  obtain ⟨v, e1⟩ := rdVer h1 w1
  obtain ⟨c, lc, e2, hc, _⟩ := rdPins enc m2 _ _ h2 w2
  obtain ⟨e, le, e3, he, _⟩ := rdEdges enc m3 _ _ h3 w3
  match cs, hl with
  | [c0, c1, c2, c3, c4, c5], _ =>
    simp [Ver.c] at e0 e1 e2 e3
    exact ⟨⟨s, v, lc, le⟩, hs, c, e, by rw [e0, e1.1, e1.2.1, e1.2.2, e2, e3], hc, he⟩
theorem rdNodes : RdS H Tryz.prog W nodeE 36 := rd_slice Tryz.underlying36 ceN (by kernel_rfl) (by decide) rdNode
theorem rdGraph {enc : TypeId × Value → H} {n : Nat} {cs : List Value} {x : DataW H × List MemPlace} (h : Tr enc Tryz.prog W n 38 cs x) (hw : small (x.1.weights Tryz.prog 38)) :
    ∃ (s : Sl) (g : List Node), cs = [s.v] ∧ SlR nodeE W (Here W) s g := by
  have hl := rd_len Tryz.underlying38 h
  rw [ceG] at hl
  obtain ⟨y0, m0, h0, w0⟩ := rd_field Tryz.underlying38 h hw 0 36 0 1 ⟨_, rfl, rfl, rfl⟩ ceLn
  obtain ⟨s, l, e0, hs, _⟩ := rdNodes enc m0 _ _ h0 w0
  match cs, hl with
  | [c0], _ =>
    simp at e0
    exact ⟨s, l, by rw [e0], hs⟩
end
end Go.Hal
namespace Go.Hal
open Go Go.RowKit Go.ChangeShapes Go.WideShapes Go.ChangeAt Go.Proofs Go.Proofs.YtlnneokngjfbbaaGreatDoor
section
variable {H : Type} {enc : TypeId × Value → H} {P : Program} {W : World}
end
section
variable {H : Type} {W : World} {enc : TypeId × Value → H}
theorem rdBool {n : Nat} {cs : List Value} {x : DataW H × List MemPlace} (h : Tr enc Tryz.prog W n 4 cs x) : ∃ b, cs = [.bool b] := by
  obtain ⟨b, h1, _⟩ := DataW.trod_bool Tryz.underlying4 h
  exact ⟨b, h1⟩
end
end Go.Hal
namespace Go.Hal
open Go Go.RowKit Go.ChangeShapes Go.WideShapes Go.ChangeAt Go.Proofs
section
variable {H : Type} {W : World} {enc : TypeId × Value → H}
theorem rdMani {n : Nat} {cs : List Value} {x : DataW H × List MemPlace} (h1 : Tr enc Tryz.prog W n 25 cs x) (w1 : small (x.1.weights Tryz.prog 25)) :
    ∃ (m : Mani) (a b c d : Sl), cs = [a.v, b.v, c.v, d.v] ∧ SlR depE W (Here W) a m.deps ∧ SlR depE W (Here W) b m.dev ∧ SlR depE W (Here W) c m.opt ∧ SlR depE W (Here W) d m.over := by
  have hl := rd_len Tryz.underlying25 h1
  have hc : Tryz.prog.cellsOf 25 = 4 := by kernel_rfl
  rw [hc] at hl
  obtain ⟨z0, k0, g0, v0⟩ := rd_field Tryz.underlying25 h1 w1 0 23 0 1 ⟨_, rfl, rfl, rfl⟩ ceLd
  obtain ⟨z1, k1, g1, v1⟩ := rd_field Tryz.underlying25 h1 w1 1 23 1 1 ⟨_, rfl, rfl, rfl⟩ ceLd
  obtain ⟨z2, k2, g2, v2⟩ := rd_field Tryz.underlying25 h1 w1 2 23 2 1 ⟨_, rfl, rfl, rfl⟩ ceLd
  obtain ⟨z3, k3, g3, v3⟩ := rd_field Tryz.underlying25 h1 w1 3 23 3 1 ⟨_, rfl, rfl, rfl⟩ ceLd
  obtain ⟨b, lb, f0, hb, _⟩ := rdDeps enc k0 _ _ g0 v0
  obtain ⟨c, lc, f1, hc', _⟩ := rdDeps enc k1 _ _ g1 v1
  obtain ⟨d, ld, f2, hd, _⟩ := rdDeps enc k2 _ _ g2 v2
  obtain ⟨e, le, f3, he, _⟩ := rdDeps enc k3 _ _ g3 v3
  match cs, hl with
  | [c1, c2, c3, c4], _ =>
    simp at f0 f1 f2 f3
    exact ⟨⟨lb, lc, ld, le⟩, b, c, d, e, by rw [f0, f1, f2, f3], hb, hc', hd, he⟩
end
end Go.Hal
namespace Go.Hal
open Go Go.RowKit Go.ChangeShapes Go.WideShapes Go.ChangeAt Go.Proofs
theorem rdWorld10 {H : Type} {W : World} {enc : TypeId × Value → H} {n : Nat} {cs : List Value} {x : DataW H × List MemPlace} (h : Tr enc Tryz.prog W n 74 cs x) (hw : small (x.1.weights Tryz.prog 74)) :
    ∃ (sP mD mE mO mV : Sl) (dev : Bool) (lp : List Pack) (m : Mani), cs = [sP.v, mD.v, mE.v, mO.v, mV.v, .bool dev] ∧ SlR packE W (Here W) sP lp ∧
      SlR depE W (Here W) mD m.deps ∧ SlR depE W (Here W) mE m.dev ∧ SlR depE W (Here W) mO m.opt ∧ SlR depE W (Here W) mV m.over := by
  have hl := rd_len Tryz.underlying74 h
  have hc : Tryz.prog.cellsOf 74 = 6 := by kernel_rfl
  rw [hc] at hl
  obtain ⟨y0, m0, h0, w0⟩ := rd_field Tryz.underlying74 h hw 0 22 0 1 ⟨_, rfl, rfl, rfl⟩ ceLk
  obtain ⟨y1, m1, h1, w1⟩ := rd_field Tryz.underlying74 h hw 1 25 1 4 ⟨_, rfl, rfl, rfl⟩ (by kernel_rfl)
  obtain ⟨y2, m2, h2, w2⟩ := rd_field Tryz.underlying74 h hw 2 4 5 1 ⟨_, rfl, rfl, rfl⟩ (by kernel_rfl)
  obtain ⟨a, lp, e0, hp, _⟩ := rdPacks enc m0 _ _ h0 w0
  obtain ⟨m, mD, mE, mO, mV, e1, q1, q2, q3, q4⟩ := rdMani h1 w1
  obtain ⟨dev, e2⟩ := rdBool h2
  match cs, hl with
  | [c0, c1, c2, c3, c4, c5], _ =>
    simp at e0 e1 e2
    exact ⟨a, mD, mE, mO, mV, dev, lp, m, by rw [e0, e1.1, e1.2.1, e1.2.2.1, e1.2.2.2, e2], hp, q1, q2, q3, q4⟩
end Go.Hal
