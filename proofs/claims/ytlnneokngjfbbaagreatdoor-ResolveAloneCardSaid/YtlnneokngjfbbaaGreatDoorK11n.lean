/- ResolveAlone: packages that nobody can come to change nothing: one more package of a name that no package and no manifest has. For every input. The card's conditions: the package-level tables hold what the program's text lays. -/
import Derived.Test.YtlnneokngjfbbaaGreatDoorK11nB3
set_option linter.unusedVariables false
set_option linter.unusedSimpArgs false
namespace Go.Proofs.YtlnneokngjfbbaaGreatDoor
open Go Go.RowKit Go.ChangeShapes Go.WideShapes Go.ChangeAt Go.Hal
theorem resolveAlone_params : Tryz.f4.params.toList = [30, 47] := by rw [Tryz.params4]
set_option maxRecDepth 100000 in
theorem resolveAlone_contract (H : Type) (enc : TypeId × Value → H) (W : World) (base : Nat) (args : Array Value) (ds gs : List (DataW H)) (before : List MemPlace)
    (hval : ∀ (j : Nat) t v, Tryz.f4.params[j]? = some t → args[j]? = some v → Value.okWide Tryz.prog W .any base t v)
    (hW : DataW.Whole enc Tryz.prog Tryz.f4.params.toList Rows.resolveAloneSpec.vars false W args.toList ds gs before)
    (hz : (DataW.weightsEach Tryz.prog (Tryz.f4.params.toList ++ (OpenSpec.ofChange Rows.resolveAloneSpec).bare.plain.varTypes Tryz.prog) (ds ++ gs)).all (· ≤ reachBytes) = true) (hL : laidMetH Tryz.prog laidAll W) :
    Calls Tryz.prog 4 args W fun e W' => ∃ v, e = .returned v ∧ Rows.resolveAloneSpec.post enc Tryz.prog Tryz.f4 false true false false W args v W' := by
  have hW' := hW
  obtain ⟨p, q, hA0, hV, rfl, _, _⟩ := hW
  have hA : DataW.TrodAll enc Tryz.prog W 0 (fun _ => true) true Tryz.f4.params.toList args.toList ds p := hA0
  have hz : small (DataW.weightsEach Tryz.prog (Tryz.f4.params.toList ++ (OpenSpec.ofChange Rows.resolveAloneSpec).bare.plain.varTypes Tryz.prog) (ds ++ gs)) := hz
  rw [resolveAlone_params] at hA hz
  have hval' : ∀ (j : Nat) t v, [30, 47][j]? = some t → args.toList[j]? = some v → Value.okWide Tryz.prog W .any base t v := fun j t v h1 h2 => hval j t v (by rw [← Array.getElem?_toList, resolveAlone_params]; exact h1) (by rw [← Array.getElem?_toList]; exact h2)
  obtain ⟨v0, vs0, d0, ds0, p0, q0, hargs, rfl, rfl, h0, r0⟩ := trodAll_cons hA
  obtain ⟨v1, vs1, d1, ds1, p1, q1, rfl, rfl, rfl, h1, r1⟩ := trodAll_cons r0
  obtain ⟨rfl, rfl, rfl⟩ := trodAll_nil r1
  rw [hargs] at hval'
  obtain ⟨n0, h0⟩ := rd_val h0
  obtain ⟨n1, h1⟩ := rd_val h1
  have w0 := weightsEach_get hz (i := 0) rfl rfl
  have w1 := weightsEach_get hz (i := 1) rfl rfl
  obtain ⟨c0, rfl, _⟩ := okWide_struct Tryz.underlying30 (hval' 0 _ _ rfl rfl)
  obtain ⟨c1, rfl, _⟩ := okWide_struct Tryz.underlying47 (hval' 1 _ _ rfl rfl)
  obtain ⟨sP, mD, mE, mO, mV, pS, dev, D, N, d3, d4, lp, m, pins, e0, hP, hD, hE, hO, hV, hp⟩ := rdWorld11 h0 w0
  obtain ⟨x, xd, xe, xo, e1, hxs, hxd, hxe, hxo, _, _, _⟩ := rdPackB h1 w1
  have a0 := agg_list e0
  have a1 := agg_list e1
  obtain rfl : args = #[.agg c0, .agg c1] := by rw [← Array.toArray_toList (xs := args), hargs]
  subst a0 a1
  have walk := SE.halyardlaw11_ResolveAlone.go (k := fun v W' => ∃ b, v = Value.bool b ∧ b = true ∧ Ext W W') (resolveAlone_se (x := x) (m := m) (dev := dev) (D := D) (N := N) (d3 := d3) (d4 := d4) (pe := xe) (tab_of hL) (Here.old W) hP hD hE hO hV hp hxd hxo fun w' hx => ⟨true, rfl, rfl, hx⟩)
  refine Calls.mono walk fun e W' ⟨v, he, b, hv, hb, hx⟩ => ?_
  subst hb
  exact ⟨v, he, by rw [hv]; exact law_post laidOut (by rw [resolveAlone_params]; decide +kernel) (bt := 4) (by kernel_rfl) Tryz.underlying4 rfl hW' (fun hl => by rw [resolveAlone_params] at hl; rfl) hx⟩
set_option maxRecDepth 100000 in
theorem resolveAlone_lifted (os : Os) (started : os.Started) (H : Type) (enc : TypeId × Value → H) (F : Stop.Interp) :
    ReturnsInHanded {} Tryz.checked os 4 .any ((OpenSpec.ofChange Rows.resolveAloneSpec).preRow enc Tryz.prog Tryz.f4 Rows.resolveAloneRow.domain false Rows.resolveAloneRow.laid) (((OpenSpec.ofChange Rows.resolveAloneSpec).at F).post enc Tryz.prog Tryz.f4 false true false false) := by
  have hx : DataW.whole enc Tryz.prog ((laidWorld os).forCall (fun _ _ => 0) ⟨#[], #[.agg #[.slice none 0 0, .slice none 0 0, .slice none 0 0, .slice none 0 0, .slice none 0 0, .bool false, .slice none 0 0, .int .i64 0, .int .i64 0, .int .i64 0, .int .i64 0], .agg #[.string ⟨#[]⟩, .int .i64 0, .int .i64 0, .int .i64 0, .slice none 0 0, .slice none 0 0, .slice none 0 0]], []⟩).memory Tryz.f4.params.toList Rows.resolveAloneSpec.vars false [.agg #[.slice none 0 0, .slice none 0 0, .slice none 0 0, .slice none 0 0, .slice none 0 0, .bool false, .slice none 0 0, .int .i64 0, .int .i64 0, .int .i64 0, .int .i64 0], .agg #[.string ⟨#[]⟩, .int .i64 0, .int .i64 0, .int .i64 0, .slice none 0 0, .slice none 0 0, .slice none 0 0]] 8 =
      some ([.agg [.nil, .agg [.nil, .nil, .nil, .nil], .lit (.bool false), .nil, .agg [.lit (.int .i64 0), .lit (.int .i64 0), .lit (.int .i64 0), .lit (.int .i64 0)]], .agg [.lit (.string []), .agg [.lit (.int .i64 0), .lit (.int .i64 0), .lit (.int .i64 0)], .nil, .nil, .nil]], [], []) := by kernel_rfl
  refine returnsInHanded_of_row (C := Tryz.checked) (s := OpenSpec.ofChange Rows.resolveAloneSpec) own started (by kernel_rfl) Tryz.func4
    (witness_row_at (enc := enc) (C := Tryz.checked) false (laidWorld os) #[.agg #[.slice none 0 0, .slice none 0 0, .slice none 0 0, .slice none 0 0, .slice none 0 0, .bool false, .slice none 0 0, .int .i64 0, .int .i64 0, .int .i64 0, .int .i64 0], .agg #[.string ⟨#[]⟩, .int .i64 0, .int .i64 0, .int .i64 0, .slice none 0 0, .slice none 0 0, .slice none 0 0]] rfl (laid_vars os _) (laid_rest os _) (by kernel_rfl)
      (OpenSpec.preRow_of_cond 8 hx (by kernel_rfl) (fun k hk => by cases hk) (by kernel_rfl) (laid_met os _))) ?_
  intro W base args ds gs before hval hW _ _ hz hL _ _
  exact resolveAlone_contract H enc W base args ds gs before hval hW hz hL
set_option maxHeartbeats 4000000 in
theorem resolveAlone_closed : joinedFacts Tryz.pinned.checked.prog 4 Tryz.f4 (OpenSpec.ofChange Rows.resolveAloneSpec).bare Rows.resolveAloneRow = true := by
  unfold joinedFacts
  repeat' with_reducible refine and_tt ?_ ?_
  all_goals (as_aux_lemma => kernel_rfl)
theorem resolveAlone_said : Rows.ResolveAloneSaid :=
  OpenClaim.holds_of_cond 4 Tryz.f4 rfl rfl rfl rfl rfl rfl rfl ⟨rfl, rfl, rfl, rfl, rfl⟩ rfl rfl rfl rfl rfl (by kernel_rfl) Tryz.func4 resolveAlone_closed
    (of_decide_eq_true (by kernel_rfl)) (by unfold Func.isWrapper; first | (rw [if_pos (by decide +kernel)]; kernel_rfl) | (rw [if_neg (by decide +kernel)]; exact ⟨rfl, rfl⟩))
    (fun os started H enc _ F => by rw [OpenClaim.pre_eq_preRow]; exact resolveAlone_lifted os started H enc F)
theorem resolveAlone_plain (f : FuncId) (fn : Func) (hf : Tryz.pinned.checked.prog.funcNamed "halyard/halyardlaw11.ResolveAlone" = some f) (hfn : Tryz.pinned.checked.prog.funcs[f]? = some fn) :
    false = Tryz.pinned.checked.prog.looks [] ∧ ∀ (j : Nat) t, fn.params[j]? = some t → Tryz.pinned.checked.prog.wantsStandIn t = false := by
  obtain rfl : f = 4 := Option.some.inj ((show Tryz.prog.funcNamed "halyard/halyardlaw11.ResolveAlone" = some 4 by kernel_rfl).symm.trans hf) |>.symm
  obtain rfl : fn = Tryz.f4 := (Option.some.inj (Tryz.func4.symm.trans hfn)).symm
  refine ⟨by kernel_rfl, fun j t ht => ?_⟩
  have hm : t ∈ Tryz.f4.params.toList := by rw [← Array.getElem?_toList] at ht; exact List.mem_of_getElem? ht
  have hall : (Tryz.f4.params.toList.all fun t => !Tryz.prog.wantsStandIn t) = true := by kernel_rfl
  have := List.all_eq_true.1 hall t hm
  exact (show Tryz.prog.wantsStandIn t = false by simpa using this)
theorem resolveAlone_card : Rows.ResolveAloneCardSaid :=
  Claim7.holds_tied_plain_at .later [] _ _ _ _ resolveAlone_said (fun _ h => by cases h) (by kernel_rfl) (fun _ h => by cases h) resolveAlone_row_tie rfl ⟨rfl, rfl⟩ (by kernel_rfl) rfl resolveAlone_plain (by kernel_rfl)
#print axioms resolveAlone_card
end Go.Proofs.YtlnneokngjfbbaaGreatDoor
