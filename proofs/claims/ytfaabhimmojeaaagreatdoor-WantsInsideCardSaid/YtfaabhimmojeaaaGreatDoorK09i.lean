/- WantsInside, P9: a context that stands, stands in itself, and is the same there; so does the context of each of its names, and it is a part of it; what else an environment tells does not matter. For every input. The card's conditions: the package-level tables hold what the program's text lays. -/
import Derived.Test.YtfaabhimmojeaaaGreatDoorK09iB1
set_option linter.unusedVariables false
set_option linter.unusedSimpArgs false
namespace Go.Proofs.YtfaabhimmojeaaaGreatDoor
open Go Go.RowKit Go.ChangeShapes Go.WideShapes Go.ChangeAt Go.Hal

theorem wi_params : Tryz.f3.params.toList = [27, 28, 32, 28] := by rw [Tryz.params3]
theorem rd_world {H : Type} {W : World} {enc : TypeId × Value → H} {n : Nat} {cs : List Value} {x : DataW H × List MemPlace} (h : Tr enc Tryz.prog W n 27 cs x) (hw : small (x.1.weights Tryz.prog 27)) :
    ∃ (a b c d e : Sl) (lp : List Pack) (lb lc ld le : List Dep), cs = [a.v, b.v, c.v, d.v, e.v] ∧ SlR packE W (Here W) a lp ∧ SlR depE W (Here W) b lb ∧ SlR depE W (Here W) c lc ∧ SlR depE W (Here W) d ld ∧ SlR depE W (Here W) e le := by
  have hl := rd_len Tryz.underlying27 h
  have hc : Tryz.prog.cellsOf 27 = 5 := by kernel_rfl
  rw [hc] at hl
  obtain ⟨y0, m0, h0, w0⟩ := rd_field Tryz.underlying27 h hw 0 22 0 1 ⟨_, rfl, rfl, rfl⟩ ceLk
  obtain ⟨y1, m1, h1, w1⟩ := rd_field Tryz.underlying27 h hw 1 25 1 4 ⟨_, rfl, rfl, rfl⟩ (by kernel_rfl)
  obtain ⟨a, lp, e0, hp, _⟩ := rdPacks enc m0 _ _ h0 w0
  obtain ⟨z0, k0, g0, v0⟩ := rd_field Tryz.underlying25 h1 w1 0 23 0 1 ⟨_, rfl, rfl, rfl⟩ ceLd
  obtain ⟨z1, k1, g1, v1⟩ := rd_field Tryz.underlying25 h1 w1 1 23 1 1 ⟨_, rfl, rfl, rfl⟩ ceLd
  obtain ⟨z2, k2, g2, v2⟩ := rd_field Tryz.underlying25 h1 w1 2 23 2 1 ⟨_, rfl, rfl, rfl⟩ ceLd
  obtain ⟨z3, k3, g3, v3⟩ := rd_field Tryz.underlying25 h1 w1 3 23 3 1 ⟨_, rfl, rfl, rfl⟩ ceLd
  obtain ⟨b, lb, f0, hb, _⟩ := rdDeps enc k0 _ _ g0 v0
  obtain ⟨c, lc, f1, hc', _⟩ := rdDeps enc k1 _ _ g1 v1
  obtain ⟨d, ld, f2, hd, _⟩ := rdDeps enc k2 _ _ g2 v2
  obtain ⟨e, le, f3, he, _⟩ := rdDeps enc k3 _ _ g3 v3
  match cs, hl with
  | [c0, c1, c2, c3, c4], _ =>
    simp at e0 f0 f1 f2 f3
    exact ⟨a, b, c, d, e, lp, lb, lc, ld, le, by rw [e0, f0, f1, f2, f3], hp, hb, hc', hd, he⟩
theorem agg_list {cs : Array Value} {l : List Value} (h : (Value.agg cs).cells.toList = l) : cs = l.toArray := by
  have : cs.toList = l := h
  rw [← this]
theorem one_cell {v : Value} {s : Sl} (h : v.cells.toList = [s.v]) (hv : ∃ a n c, v = .slice a n c) : v = s.v := by
  obtain ⟨a, n, c, rfl⟩ := hv
  simpa [Value.cells] using h
theorem SlR.strs {W : World} {S : Nat → Prop} {s : Sl} {l : List Pin} (h : SlR pinE W S s l) : ∀ q ∈ l, Str q.name := fun q hq => by
  obtain ⟨n, hn, rfl⟩ := List.mem_iff_getElem.1 hq
  obtain ⟨_, _, _, h3, _⟩ := pinEl h hn
  exact h3
set_option maxRecDepth 100000 in
theorem wantsInside_contract (H : Type) (enc : TypeId × Value → H) (W : World) (base : Nat) (args : Array Value) (ds gs : List (DataW H)) (before : List MemPlace)
    (hval : ∀ (j : Nat) t v, Tryz.f3.params[j]? = some t → args[j]? = some v → Value.okWide Tryz.prog W .any base t v)
    (hW : DataW.Whole enc Tryz.prog Tryz.f3.params.toList Rows.wantsInsideSpec.vars false W args.toList ds gs before)
    (hz : (DataW.weightsEach Tryz.prog (Tryz.f3.params.toList ++ (OpenSpec.ofChange Rows.wantsInsideSpec).bare.plain.varTypes Tryz.prog) (ds ++ gs)).all (· ≤ reachBytes) = true) (hL : laidMetH Tryz.prog laidAll W) :
    Calls Tryz.prog 3 args W fun e W' => ∃ v, e = .returned v ∧ Rows.wantsInsideSpec.post enc Tryz.prog Tryz.f3 false true false false W args v W' := by
  have hW' := hW
  obtain ⟨p, q, hA0, hV, rfl, _, _⟩ := hW
  have hA : DataW.TrodAll enc Tryz.prog W 0 (fun _ => true) true Tryz.f3.params.toList args.toList ds p := hA0
  have hz : small (DataW.weightsEach Tryz.prog (Tryz.f3.params.toList ++ (OpenSpec.ofChange Rows.wantsInsideSpec).bare.plain.varTypes Tryz.prog) (ds ++ gs)) := hz
  rw [wi_params] at hA hz
  have hval' : ∀ (j : Nat) t v, [27, 28, 32, 28][j]? = some t → args.toList[j]? = some v → Value.okWide Tryz.prog W .any base t v := fun j t v h1 h2 => hval j t v (by rw [← Array.getElem?_toList, wi_params]; exact h1) (by rw [← Array.getElem?_toList]; exact h2)
  obtain ⟨v0, vs0, d0, ds0, p0, q0, hargs, rfl, rfl, h0, r0⟩ := trodAll_cons hA
  obtain ⟨v1, vs1, d1, ds1, p1, q1, rfl, rfl, rfl, h1, r1⟩ := trodAll_cons r0
  obtain ⟨v2, vs2, d2, ds2, p2, q2, rfl, rfl, rfl, h2, r2⟩ := trodAll_cons r1
  obtain ⟨v3, vs3, d3, ds3, p3, q3, rfl, rfl, rfl, h3, r3⟩ := trodAll_cons r2
  obtain ⟨rfl, rfl, rfl⟩ := trodAll_nil r3
  rw [hargs] at hval'
  obtain ⟨n0, h0⟩ := rd_val h0
  obtain ⟨n1, h1⟩ := rd_val h1
  obtain ⟨n2, h2⟩ := rd_val h2
  obtain ⟨n3, h3⟩ := rd_val h3
  obtain ⟨c0, rfl, _⟩ := okWide_struct Tryz.underlying27 (hval' 0 _ _ rfl rfl)
  obtain ⟨c2, rfl, _⟩ := okWide_struct Tryz.underlying32 (hval' 2 _ _ rfl rfl)
  obtain ⟨sP, mD, mDev, mOpt, mOv, lp, lb, lc, ld, over, e0, hP, _, _, _, hO⟩ := rd_world h0 (weightsEach_get hz (i := 0) rfl rfl)
  obtain ⟨eS, env, e1, hE, _⟩ := rdPins enc n1 _ _ h1 (weightsEach_get hz (i := 1) rfl rfl)
  obtain ⟨pn, e2, hpn⟩ := rdPin enc n2 _ _ h2 (weightsEach_get hz (i := 2) rfl rfl)
  obtain ⟨mS, more, e3, hM, hMb⟩ := rdPins enc n3 _ _ h3 (weightsEach_get hz (i := 3) rfl rfl)
  have a0 := agg_list e0
  have a2 := agg_list e2
  have a1 := one_cell e1 (okWide_slice Tryz.underlying28 (hval' 1 _ _ rfl rfl))
  have a3 := one_cell e3 (okWide_slice Tryz.underlying28 (hval' 3 _ _ rfl rfl))
  obtain rfl : args = #[.agg c0, v1, .agg c2, v3] := by rw [← Array.toArray_toList (xs := args), hargs]
  subst a0 a1 a2 a3
  have hMb' : more.length * 40 ≤ 140737488355328 := by
    have e : pinE.bytes = 40 := rfl
    rw [e] at hMb; unfold reachBytes at hMb; omega
  have walk := SE.halyardlaw09_WantsInside.sound sP mD mDev mOpt mOv eS pn.name pn.v.ma pn.v.mi pn.v.pa mS W (fun b W' => b = true ∧ Ext W W') (wantsInside_se (SA := Here W) (tab_of hL) (Here.old W) hP hO hE hpn hM hMb' (SlR.strs hM) fun w' hx => ⟨rfl, hx⟩)
  refine Calls.mono walk fun e W' ⟨v, he, b, hv, hb, hx⟩ => ?_
  subst hb
  exact ⟨v, he, by rw [hv]; exact law_post laidOut (by rw [wi_params]; decide +kernel) (bt := 4) (by kernel_rfl) Tryz.underlying4 rfl hW' (fun hl => by rw [wi_params] at hl; rfl) hx⟩
set_option maxRecDepth 100000 in
theorem wantsInside_lifted (os : Os) (started : os.Started) (H : Type) (enc : TypeId × Value → H) (F : Stop.Interp) :
    ReturnsInHanded {} Tryz.checked os 3 .any ((OpenSpec.ofChange Rows.wantsInsideSpec).preRow enc Tryz.prog Tryz.f3 Rows.wantsInsideRow.domain false Rows.wantsInsideRow.laid) (((OpenSpec.ofChange Rows.wantsInsideSpec).at F).post enc Tryz.prog Tryz.f3 false true false false) := by
  have hx : DataW.whole enc Tryz.prog ((laidWorld os).forCall (fun _ _ => 0) ⟨#[], #[.agg #[.slice none 0 0, .slice none 0 0, .slice none 0 0, .slice none 0 0, .slice none 0 0], .slice none 0 0, .agg #[.string ⟨#[]⟩, .int .i64 0, .int .i64 0, .int .i64 0], .slice none 0 0], []⟩).memory Tryz.f3.params.toList Rows.wantsInsideSpec.vars false [Value.agg #[.slice none 0 0, .slice none 0 0, .slice none 0 0, .slice none 0 0, .slice none 0 0], .slice none 0 0, .agg #[.string ⟨#[]⟩, .int .i64 0, .int .i64 0, .int .i64 0], .slice none 0 0] 8 =
      some ([.agg [.nil, .agg [.nil, .nil, .nil, .nil]], .nil, .agg [.lit (.string []), .agg [.lit (.int .i64 0), .lit (.int .i64 0), .lit (.int .i64 0)]], .nil], [], []) := by kernel_rfl
  refine returnsInHanded_of_row (C := Tryz.checked) (s := OpenSpec.ofChange Rows.wantsInsideSpec) own started (by kernel_rfl) Tryz.func3
    (witness_row_at (enc := enc) (C := Tryz.checked) false (laidWorld os) #[.agg #[.slice none 0 0, .slice none 0 0, .slice none 0 0, .slice none 0 0, .slice none 0 0], .slice none 0 0, .agg #[.string ⟨#[]⟩, .int .i64 0, .int .i64 0, .int .i64 0], .slice none 0 0] rfl (laid_vars os _) (laid_rest os _) (by kernel_rfl)
      (OpenSpec.preRow_of_cond 8 hx (by kernel_rfl) (fun k hk => by cases hk) (by kernel_rfl) (laid_met os _))) ?_
  intro W base args ds gs before hval hW _ _ hz hL _ _
  exact wantsInside_contract H enc W base args ds gs before hval hW hz hL
theorem wantsInside_said : Rows.WantsInsideSaid :=
  OpenClaim.holds_of_cond 3 Tryz.f3 rfl rfl rfl rfl rfl rfl rfl ⟨rfl, rfl, rfl, rfl, rfl⟩ rfl rfl rfl rfl rfl (by kernel_rfl) Tryz.func3 (by kernel_rfl)
    (of_decide_eq_true (by kernel_rfl)) (by unfold Func.isWrapper; first | (rw [if_pos (by decide +kernel)]; kernel_rfl) | (rw [if_neg (by decide +kernel)]; exact ⟨rfl, rfl⟩))
    (fun os started H enc _ F => by rw [OpenClaim.pre_eq_preRow]; exact wantsInside_lifted os started H enc F)
theorem wantsInside_plain (f : FuncId) (fn : Func) (hf : Tryz.pinned.checked.prog.funcNamed "halyard/halyardlaw09.WantsInside" = some f) (hfn : Tryz.pinned.checked.prog.funcs[f]? = some fn) :
    false = Tryz.pinned.checked.prog.looks [] ∧ ∀ (j : Nat) t, fn.params[j]? = some t → Tryz.pinned.checked.prog.wantsStandIn t = false := by
  obtain rfl : f = 3 := Option.some.inj ((show Tryz.prog.funcNamed "halyard/halyardlaw09.WantsInside" = some 3 by kernel_rfl).symm.trans hf) |>.symm
  obtain rfl : fn = Tryz.f3 := (Option.some.inj (Tryz.func3.symm.trans hfn)).symm
  refine ⟨by kernel_rfl, fun j t ht => ?_⟩
  have hm : t ∈ Tryz.f3.params.toList := by rw [← Array.getElem?_toList] at ht; exact List.mem_of_getElem? ht
  have hall : (Tryz.f3.params.toList.all fun t => !Tryz.prog.wantsStandIn t) = true := by kernel_rfl
  have := List.all_eq_true.1 hall t hm
  exact (show Tryz.prog.wantsStandIn t = false by simpa using this)
theorem wantsInside_card : Rows.WantsInsideCardSaid :=
  Claim7.holds_tied_plain_at .later [] _ _ _ _ wantsInside_said (fun _ h => by cases h) (by kernel_rfl) (fun _ h => by cases h) wantsInside_row_tie rfl ⟨rfl, rfl⟩ (by kernel_rfl) rfl wantsInside_plain (by kernel_rfl)
#print axioms wantsInside_card
end Go.Proofs.YtfaabhimmojeaaaGreatDoor
