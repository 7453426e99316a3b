/- CatalogRanges: a version is a candidate by two ranges just if it is one by what they have in common, and by one of them at least just if by both together. For every input. The card's conditions: the package-level tables hold what the program's text lays. -/
import Derived.Test.YtfaabhimmojeaaaGreatDoorK08rB2
set_option linter.unusedVariables false
set_option linter.unusedSimpArgs false
namespace Go.Proofs.YtfaabhimmojeaaaGreatDoor
open Go Go.RowKit Go.ChangeShapes Go.WideShapes Go.ChangeAt Go.Hal
theorem catalogRanges_params : Tryz.f10.params.toList = [22, 55, 53] := by rw [Tryz.params10]
set_option maxRecDepth 100000 in
theorem catalogRanges_contract (H : Type) (enc : TypeId × Value → H) (W : World) (base : Nat) (args : Array Value) (ds gs : List (DataW H)) (before : List MemPlace)
    (hval : ∀ (j : Nat) t v, Tryz.f10.params[j]? = some t → args[j]? = some v → Value.okWide Tryz.prog W .any base t v)
    (hW : DataW.Whole enc Tryz.prog Tryz.f10.params.toList Rows.catalogRangesSpec.vars false W args.toList ds gs before)
    (hz : (DataW.weightsEach Tryz.prog (Tryz.f10.params.toList ++ (OpenSpec.ofChange Rows.catalogRangesSpec).bare.plain.varTypes Tryz.prog) (ds ++ gs)).all (· ≤ reachBytes) = true) (hL : laidMetH Tryz.prog laidAll W) :
    Calls Tryz.prog 10 args W fun e W' => ∃ v, e = .returned v ∧ Rows.catalogRangesSpec.post enc Tryz.prog Tryz.f10 false true false false W args v W' := by
  have hW' := hW
  obtain ⟨p, q, hA0, hV, rfl, _, _⟩ := hW
  have hA : DataW.TrodAll enc Tryz.prog W 0 (fun _ => true) true Tryz.f10.params.toList args.toList ds p := hA0
  have hz : small (DataW.weightsEach Tryz.prog (Tryz.f10.params.toList ++ (OpenSpec.ofChange Rows.catalogRangesSpec).bare.plain.varTypes Tryz.prog) (ds ++ gs)) := hz
  rw [catalogRanges_params] at hA hz
  have hval' : ∀ (j : Nat) t v, [22, 55, 53][j]? = some t → args.toList[j]? = some v → Value.okWide Tryz.prog W .any base t v := fun j t v h1 h2 => hval j t v (by rw [← Array.getElem?_toList, catalogRanges_params]; exact h1) (by rw [← Array.getElem?_toList]; exact h2)
  obtain ⟨v0, vs0, d0, ds0, p0, q0, hargs, rfl, rfl, h0, r0⟩ := trodAll_cons hA
  obtain ⟨v1, vs1, d1, ds1, p1, q1, rfl, rfl, rfl, h1, r1⟩ := trodAll_cons r0
  obtain ⟨v2, vs2, d2, ds2, p2, q2, rfl, rfl, rfl, h2, r2⟩ := trodAll_cons r1
  obtain ⟨rfl, rfl, rfl⟩ := trodAll_nil r2
  rw [hargs] at hval'
  obtain ⟨n0, h0⟩ := rd_val h0
  obtain ⟨n1, h1⟩ := rd_val h1
  obtain ⟨n2, h2⟩ := rd_val h2
  have w0 := weightsEach_get hz (i := 0) rfl rfl
  have w1 := weightsEach_get hz (i := 1) rfl rfl
  have w2 := weightsEach_get hz (i := 2) rfl rfl
  obtain ⟨c1, rfl, _⟩ := okWide_struct Tryz.underlying55 (hval' 1 _ _ rfl rfl)
  obtain ⟨sP, lp, e0, hP, _⟩ := rdPacks enc n0 _ _ h0 w0
  obtain ⟨x, hxs, xr, xp, e1, hr, hp⟩ := rdAsk enc n1 _ _ h1 w1
  obtain ⟨so, lo, e2, hso, _⟩ := rdSpans enc n2 _ _ h2 w2
  have a0 := slice_cell e0 (okWide_slice Tryz.underlying22 (hval' 0 _ _ rfl rfl))
  have a1 := agg_list e1
  have a2 := slice_cell e2 (okWide_slice Tryz.underlying53 (hval' 2 _ _ rfl rfl))
  obtain rfl : args = #[v0, .agg c1, v2] := by rw [← Array.toArray_toList (xs := args), hargs]
  subst a0 a1 a2
  have walk := SE.halyardlaw08_CatalogRanges.sound sP x.name x.v.ma x.v.mi x.v.pa xr xp so W (fun b W' => b = true ∧ Ext W W') (catalogRanges_se (pins := x.pins) (tab_of hL) (Here.old W) hP hr hso fun w' hx => ⟨rfl, hx⟩)
  refine Calls.mono walk fun e W' ⟨v, he, b, hv, hb, hx⟩ => ?_
  subst hb
  exact ⟨v, he, by rw [hv]; exact law_post laidOut (by rw [catalogRanges_params]; decide +kernel) (bt := 4) (by kernel_rfl) Tryz.underlying4 rfl hW' (fun hl => by rw [catalogRanges_params] at hl; rfl) hx⟩
set_option maxRecDepth 100000 in
theorem catalogRanges_lifted (os : Os) (started : os.Started) (H : Type) (enc : TypeId × Value → H) (F : Stop.Interp) :
    ReturnsInHanded {} Tryz.checked os 10 .any ((OpenSpec.ofChange Rows.catalogRangesSpec).preRow enc Tryz.prog Tryz.f10 Rows.catalogRangesRow.domain false Rows.catalogRangesRow.laid) (((OpenSpec.ofChange Rows.catalogRangesSpec).at F).post enc Tryz.prog Tryz.f10 false true false false) := by
  have hx : DataW.whole enc Tryz.prog ((laidWorld os).forCall (fun _ _ => 0) ⟨#[], #[.slice none 0 0, .agg #[.string ⟨#[]⟩, .int .i64 0, .int .i64 0, .int .i64 0, .slice none 0 0, .slice none 0 0], .slice none 0 0], []⟩).memory Tryz.f10.params.toList Rows.catalogRangesSpec.vars false [.slice none 0 0, .agg #[.string ⟨#[]⟩, .int .i64 0, .int .i64 0, .int .i64 0, .slice none 0 0, .slice none 0 0], .slice none 0 0] 8 =
      some ([.nil, .agg [.lit (.string []), .agg [.lit (.int .i64 0), .lit (.int .i64 0), .lit (.int .i64 0)], .nil, .nil], .nil], [], []) := by kernel_rfl
  refine returnsInHanded_of_row (C := Tryz.checked) (s := OpenSpec.ofChange Rows.catalogRangesSpec) own started (by kernel_rfl) Tryz.func10
    (witness_row_at (enc := enc) (C := Tryz.checked) false (laidWorld os) #[.slice none 0 0, .agg #[.string ⟨#[]⟩, .int .i64 0, .int .i64 0, .int .i64 0, .slice none 0 0, .slice none 0 0], .slice none 0 0] rfl (laid_vars os _) (laid_rest os _) (by kernel_rfl)
      (OpenSpec.preRow_of_cond 8 hx (by kernel_rfl) (fun k hk => by cases hk) (by kernel_rfl) (laid_met os _))) ?_
  intro W base args ds gs before hval hW _ _ hz hL _ _
  exact catalogRanges_contract H enc W base args ds gs before hval hW hz hL
theorem catalogRanges_said : Rows.CatalogRangesSaid :=
  OpenClaim.holds_of_cond 10 Tryz.f10 rfl rfl rfl rfl rfl rfl rfl ⟨rfl, rfl, rfl, rfl, rfl⟩ rfl rfl rfl rfl rfl (by kernel_rfl) Tryz.func10 (by kernel_rfl)
    (of_decide_eq_true (by kernel_rfl)) (by unfold Func.isWrapper; first | (rw [if_pos (by decide +kernel)]; kernel_rfl) | (rw [if_neg (by decide +kernel)]; exact ⟨rfl, rfl⟩))
    (fun os started H enc _ F => by rw [OpenClaim.pre_eq_preRow]; exact catalogRanges_lifted os started H enc F)
theorem catalogRanges_plain (f : FuncId) (fn : Func) (hf : Tryz.pinned.checked.prog.funcNamed "halyard/halyardlaw08.CatalogRanges" = some f) (hfn : Tryz.pinned.checked.prog.funcs[f]? = some fn) :
    false = Tryz.pinned.checked.prog.looks [] ∧ ∀ (j : Nat) t, fn.params[j]? = some t → Tryz.pinned.checked.prog.wantsStandIn t = false := by
  obtain rfl : f = 10 := Option.some.inj ((show Tryz.prog.funcNamed "halyard/halyardlaw08.CatalogRanges" = some 10 by kernel_rfl).symm.trans hf) |>.symm
  obtain rfl : fn = Tryz.f10 := (Option.some.inj (Tryz.func10.symm.trans hfn)).symm
  refine ⟨by kernel_rfl, fun j t ht => ?_⟩
  have hm : t ∈ Tryz.f10.params.toList := by rw [← Array.getElem?_toList] at ht; exact List.mem_of_getElem? ht
  have hall : (Tryz.f10.params.toList.all fun t => !Tryz.prog.wantsStandIn t) = true := by kernel_rfl
  have := List.all_eq_true.1 hall t hm
  exact (show Tryz.prog.wantsStandIn t = false by simpa using this)
theorem catalogRanges_card : Rows.CatalogRangesCardSaid :=
  Claim7.holds_tied_plain_at .later [] _ _ _ _ catalogRanges_said (fun _ h => by cases h) (by kernel_rfl) (fun _ h => by cases h) catalogRanges_row_tie rfl ⟨rfl, rfl⟩ (by kernel_rfl) rfl catalogRanges_plain (by kernel_rfl)
#print axioms catalogRanges_card
end Go.Proofs.YtfaabhimmojeaaaGreatDoor
