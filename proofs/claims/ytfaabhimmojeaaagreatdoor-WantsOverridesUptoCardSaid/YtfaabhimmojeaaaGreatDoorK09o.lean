/- WantsOverrides: an override changes the range of what has its name, and nothing else. Where what it reads is of bulk at most 1048576 (the first form is false for lists too long for any machine). The card's conditions: the package-level tables hold what the program's text lays. -/
import Derived.Test.YtfaabhimmojeaaaGreatDoorK09oB1
set_option linter.unusedVariables false
set_option linter.unusedSimpArgs false
namespace Go.Proofs.YtfaabhimmojeaaaGreatDoor
open Go Go.RowKit Go.ChangeShapes Go.WideShapes Go.ChangeAt Go.Hal
theorem wantsOverrides_params : Tryz.f9.params.toList = [48, 25, 4] := by rw [Tryz.params9]
set_option maxRecDepth 100000 in
theorem wantsOverrides_contract (H : Type) (enc : TypeId × Value → H) (W : World) (base : Nat) (args : Array Value) (ds gs : List (DataW H)) (before : List MemPlace)
    (hval : ∀ (j : Nat) t v, Tryz.f9.params[j]? = some t → args[j]? = some v → Value.okWide Tryz.prog W .any base t v)
    (hW : DataW.Whole enc Tryz.prog Tryz.f9.params.toList Rows.wantsOverridesSpec.vars false W args.toList ds gs before)
    (hz : (DataW.weightsEach Tryz.prog (Tryz.f9.params.toList ++ (OpenSpec.ofChange Rows.wantsOverridesSpec).bare.plain.varTypes Tryz.prog) (ds ++ gs)).all (· ≤ reachBytes) = true) (hk : Rows.uptoSmall H (ds ++ gs) = true) (hL : laidMetH Tryz.prog laidAll W) :
    Calls Tryz.prog 9 args W fun e W' => ∃ v, e = .returned v ∧ Rows.wantsOverridesSpec.post enc Tryz.prog Tryz.f9 false true false false W args v W' := by
  have hW' := hW
  obtain ⟨p, q, hA0, hV, rfl, _, _⟩ := hW
  have hA : DataW.TrodAll enc Tryz.prog W 0 (fun _ => true) true Tryz.f9.params.toList args.toList ds p := hA0
  have hz : small (DataW.weightsEach Tryz.prog (Tryz.f9.params.toList ++ (OpenSpec.ofChange Rows.wantsOverridesSpec).bare.plain.varTypes Tryz.prog) (ds ++ gs)) := hz
  rw [wantsOverrides_params] at hA hz
  have hval' : ∀ (j : Nat) t v, [48, 25, 4][j]? = some t → args.toList[j]? = some v → Value.okWide Tryz.prog W .any base t v := fun j t v h1 h2 => hval j t v (by rw [← Array.getElem?_toList, wantsOverrides_params]; exact h1) (by rw [← Array.getElem?_toList]; exact h2)
  obtain ⟨v0, vs0, d0, ds0, p0, q0, hargs, rfl, rfl, h0, r0⟩ := trodAll_cons hA
  obtain ⟨v1, vs1, d1, ds1, p1, q1, rfl, rfl, rfl, h1, r1⟩ := trodAll_cons r0
  obtain ⟨v2, vs2, d2, ds2, p2, q2, rfl, rfl, rfl, h2, r2⟩ := trodAll_cons r1
  obtain ⟨rfl, rfl, rfl⟩ := trodAll_nil r2
  rw [hargs] at hval'
  obtain ⟨n0, h0⟩ := rd_val h0
  obtain ⟨n1, h1⟩ := rd_val h1
  obtain ⟨n2, h2⟩ := rd_val h2
  have w0 := weightsEach_get hz (i := 0) rfl rfl
  have w1 := weightsEach_get hz (i := 1) rfl rfl
  have w2 := weightsEach_get hz (i := 2) rfl rfl
  obtain ⟨c0, rfl, _⟩ := okWide_struct Tryz.underlying48 (hval' 0 _ _ rfl rfl)
  obtain ⟨c1, rfl, _⟩ := okWide_struct Tryz.underlying25 (hval' 1 _ _ rfl rfl)
  obtain ⟨x, xd, xe, xo, e0, hxs, hd, he, ho, k0, k1, k2⟩ := rdPackB h0 w0
  obtain ⟨m, mD, mE, mO, mV, e1, hmD, hmE, hmO, hmV, k3, k4, k5⟩ := rdManiB h1 w1
  obtain ⟨dev, e2⟩ := rdBool h2
  dsimp only at k0 k1 k2 k3 k4 k5
  have hk := bulkUp hk
  simp only [List.cons_append, Rows.uptoBulkAll] at hk
  have a0 := agg_list e0
  have a1 := agg_list e1
  have a2 := bool_cell e2 (okWide_bool Tryz.underlying4 (hval' 2 _ _ rfl rfl))
  obtain rfl : args = #[.agg c0, .agg c1, v2] := by rw [← Array.toArray_toList (xs := args), hargs]
  subst a0 a1 a2
  have walk := SE.halyardlaw09_WantsOverrides.sound x.name x.v.ma x.v.mi x.v.pa xd xe xo mD mE mO mV dev W (fun b W' => b = true ∧ Ext W W') (wantsOverrides_se (m := m) (tab_of hL) (Here.old W) hd he ho hmD hmE hmO hmV (by unfold room; omega) fun w' hx => ⟨rfl, hx⟩)
  refine Calls.mono walk fun e W' ⟨v, he, b, hv, hb, hx⟩ => ?_
  subst hb
  exact ⟨v, he, by rw [hv]; exact law_post laidOut (by rw [wantsOverrides_params]; decide +kernel) (bt := 4) (by kernel_rfl) Tryz.underlying4 rfl hW' (fun hl => by rw [wantsOverrides_params] at hl; rfl) hx⟩
set_option maxRecDepth 100000 in
theorem wantsOverrides_lifted (os : Os) (started : os.Started) (H : Type) (enc : TypeId × Value → H) (F : Stop.Interp) :
    ReturnsInHanded {} Tryz.checked os 9 .any ((Rows.OpenSpec.upto Rows.wantsOverridesSpec).preRow enc Tryz.prog Tryz.f9 Rows.wantsOverridesUptoRow.domain false Rows.wantsOverridesUptoRow.laid) (((Rows.OpenSpec.upto Rows.wantsOverridesSpec).at F).post enc Tryz.prog Tryz.f9 false true false false) := by
  have hx : DataW.whole enc Tryz.prog ((laidWorld os).forCall (fun _ _ => 0) ⟨#[], #[.agg #[.string ⟨#[]⟩, .int .i64 0, .int .i64 0, .int .i64 0, .slice none 0 0, .slice none 0 0, .slice none 0 0], .agg #[.slice none 0 0, .slice none 0 0, .slice none 0 0, .slice none 0 0], .bool false], []⟩).memory Tryz.f9.params.toList Rows.wantsOverridesSpec.vars false [.agg #[.string ⟨#[]⟩, .int .i64 0, .int .i64 0, .int .i64 0, .slice none 0 0, .slice none 0 0, .slice none 0 0], .agg #[.slice none 0 0, .slice none 0 0, .slice none 0 0, .slice none 0 0], .bool false] 8 =
      some ([.agg [.lit (.string []), .agg [.lit (.int .i64 0), .lit (.int .i64 0), .lit (.int .i64 0)], .nil, .nil, .nil], .agg [.nil, .nil, .nil, .nil], .lit (.bool false)], [], []) := by kernel_rfl
  refine returnsInHanded_of_row (C := Tryz.checked) (s := Rows.OpenSpec.upto Rows.wantsOverridesSpec) own started (by kernel_rfl) Tryz.func9
    (witness_row_at (enc := enc) (C := Tryz.checked) false (laidWorld os) #[.agg #[.string ⟨#[]⟩, .int .i64 0, .int .i64 0, .int .i64 0, .slice none 0 0, .slice none 0 0, .slice none 0 0], .agg #[.slice none 0 0, .slice none 0 0, .slice none 0 0, .slice none 0 0], .bool false] rfl (laid_vars os _) (laid_rest os _) (by kernel_rfl)
      (OpenSpec.preRow_of_cond 8 hx (by kernel_rfl) (fun k hk => by cases hk; kernel_rfl) (by kernel_rfl) (laid_met os _))) ?_
  intro W base args ds gs before hval hW _ hcond hz hL _ _
  exact wantsOverrides_contract H enc W base args ds gs before hval hW hz (hcond _ rfl) hL
theorem wantsOverridesUpto_said : Rows.WantsOverridesUptoSaid :=
  OpenClaim.holds_of_cond 9 Tryz.f9 rfl rfl rfl rfl rfl rfl rfl ⟨rfl, rfl, rfl, rfl, rfl⟩ rfl rfl rfl rfl rfl (by kernel_rfl) Tryz.func9 (by kernel_rfl)
    (of_decide_eq_true (by kernel_rfl)) (by unfold Func.isWrapper; first | (rw [if_pos (by decide +kernel)]; kernel_rfl) | (rw [if_neg (by decide +kernel)]; exact ⟨rfl, rfl⟩))
    (fun os started H enc _ F => by rw [OpenClaim.pre_eq_preRow]; exact wantsOverrides_lifted os started H enc F)
theorem wantsOverrides_plain (f : FuncId) (fn : Func) (hf : Tryz.pinned.checked.prog.funcNamed "halyard/halyardlaw09.WantsOverrides" = some f) (hfn : Tryz.pinned.checked.prog.funcs[f]? = some fn) :
    false = Tryz.pinned.checked.prog.looks [] ∧ ∀ (j : Nat) t, fn.params[j]? = some t → Tryz.pinned.checked.prog.wantsStandIn t = false := by
  obtain rfl : f = 9 := Option.some.inj ((show Tryz.prog.funcNamed "halyard/halyardlaw09.WantsOverrides" = some 9 by kernel_rfl).symm.trans hf) |>.symm
  obtain rfl : fn = Tryz.f9 := (Option.some.inj (Tryz.func9.symm.trans hfn)).symm
  refine ⟨by kernel_rfl, fun j t ht => ?_⟩
  have hm : t ∈ Tryz.f9.params.toList := by rw [← Array.getElem?_toList] at ht; exact List.mem_of_getElem? ht
  have hall : (Tryz.f9.params.toList.all fun t => !Tryz.prog.wantsStandIn t) = true := by kernel_rfl
  have := List.all_eq_true.1 hall t hm
  exact (show Tryz.prog.wantsStandIn t = false by simpa using this)
theorem wantsOverridesUpto_card : Rows.WantsOverridesUptoCardSaid :=
  Claim7.holds_tied_plain_at .later [] _ _ _ _ wantsOverridesUpto_said (fun _ h => by cases h) (by kernel_rfl) (fun _ h => by cases h) wantsOverridesUpto_row_tie rfl ⟨rfl, rfl⟩ (by kernel_rfl) rfl wantsOverrides_plain (by kernel_rfl)
#print axioms wantsOverridesUpto_card
end Go.Proofs.YtfaabhimmojeaaaGreatDoor
