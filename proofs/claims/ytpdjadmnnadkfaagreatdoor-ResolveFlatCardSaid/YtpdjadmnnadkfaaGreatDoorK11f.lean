/- ResolveFlat: where packages want nothing themselves, each of the project's wants gets its first candidate, in one decision each. For every input. The card's conditions: the package-level tables hold what the program's text lays. -/
import Derived.Test.YtpdjadmnnadkfaaGreatDoorK11fB3
set_option linter.unusedVariables false
set_option linter.unusedSimpArgs false
namespace Go.Proofs.YtpdjadmnnadkfaaGreatDoor
open Go Go.RowKit Go.ChangeShapes Go.WideShapes Go.ChangeAt Go.Hal
set_option maxRecDepth 100000 in
theorem resolveFlat_contract (H : Type) (enc : TypeId × Value → H) (W : World) (base : Nat) (args : Array Value) (ds gs : List (DataW H)) (before : List MemPlace)
    (hval : ∀ (j : Nat) t v, Tryz.f3.params[j]? = some t → args[j]? = some v → Value.okWide Tryz.prog W .any base t v)
    (hW : DataW.Whole enc Tryz.prog Tryz.f3.params.toList Rows.resolveFlatSpec.vars false W args.toList ds gs before)
    (hz : (DataW.weightsEach Tryz.prog (Tryz.f3.params.toList ++ (OpenSpec.ofChange Rows.resolveFlatSpec).bare.plain.varTypes Tryz.prog) (ds ++ gs)).all (· ≤ reachBytes) = true) (hL : laidMetH Tryz.prog laidAll W) :
    Calls Tryz.prog 3 args W fun e W' => ∃ v, e = .returned v ∧ Rows.resolveFlatSpec.post enc Tryz.prog Tryz.f3 false true false false W args v W' := by
  have hW' := hW
  obtain ⟨p, q, hA0, hV, rfl, _, _⟩ := hW
  have hA : DataW.TrodAll enc Tryz.prog W 0 (fun _ => true) true Tryz.f3.params.toList args.toList ds p := hA0
  have hz : small (DataW.weightsEach Tryz.prog (Tryz.f3.params.toList ++ (OpenSpec.ofChange Rows.resolveFlatSpec).bare.plain.varTypes Tryz.prog) (ds ++ gs)) := hz
  rw [resolveFlat_params] at hA hz
  have hval' : ∀ (j : Nat) t v, [30][j]? = some t → args.toList[j]? = some v → Value.okWide Tryz.prog W .any base t v := fun j t v h1 h2 => hval j t v (by rw [← Array.getElem?_toList, resolveFlat_params]; exact h1) (by rw [← Array.getElem?_toList]; exact h2)
  obtain ⟨v0, vs0, d0, ds0, p0, q0, hargs, rfl, rfl, h0, r0⟩ := trodAll_cons hA
  obtain ⟨rfl, rfl, rfl⟩ := trodAll_nil r0
  rw [hargs] at hval'
  obtain ⟨n0, h0⟩ := rd_val h0
  have w0 := weightsEach_get hz (i := 0) rfl rfl
  obtain ⟨c0, rfl, _⟩ := okWide_struct Tryz.underlying30 (hval' 0 _ _ rfl rfl)
  obtain ⟨sP, mD, mE, mO, mV, pS, dev, D, N, d3, d4, lp, m, pins, e0, hP, hD, hE, hO, hV, hp⟩ := rdWorld11 h0 w0
  have a0 := agg_list e0
  obtain rfl : args = #[.agg c0] := by rw [← Array.toArray_toList (xs := args), hargs]
  subst a0
  have walk := SE.halyardlaw11_ResolveFlat.go (k := fun v W' => ∃ b, v = Value.bool b ∧ b = true ∧ Ext W W') (resolveFlat_se (m := m) (dev := dev) (D := D) (N := N) (d3 := d3) (d4 := d4) (tab_of hL) (Here.old W) hP hD hE hO hV hp fun w' hx => ⟨true, rfl, rfl, hx⟩)
  refine Calls.mono walk fun e W' ⟨v, he, b, hv, hb, hx⟩ => ?_
  subst hb
  exact ⟨v, he, by rw [hv]; exact law_post laidOut (by rw [resolveFlat_params]; decide +kernel) (bt := 4) (by kernel_rfl) Tryz.underlying4 rfl hW' (fun hl => by rw [resolveFlat_params] at hl; rfl) hx⟩
set_option maxRecDepth 100000 in
theorem resolveFlat_lifted (os : Os) (started : os.Started) (H : Type) (enc : TypeId × Value → H) (F : Stop.Interp) :
    ReturnsInHanded {} Tryz.checked os 3 .any ((OpenSpec.ofChange Rows.resolveFlatSpec).preRow enc Tryz.prog Tryz.f3 Rows.resolveFlatRow.domain false Rows.resolveFlatRow.laid) (((OpenSpec.ofChange Rows.resolveFlatSpec).at F).post enc Tryz.prog Tryz.f3 false true false false) := by
  have hx : DataW.whole enc Tryz.prog ((laidWorld os).forCall (fun _ _ => 0) ⟨#[], #[.agg #[.slice none 0 0, .slice none 0 0, .slice none 0 0, .slice none 0 0, .slice none 0 0, .bool false, .slice none 0 0, .int .i64 0, .int .i64 0, .int .i64 0, .int .i64 0]], []⟩).memory Tryz.f3.params.toList Rows.resolveFlatSpec.vars false [.agg #[.slice none 0 0, .slice none 0 0, .slice none 0 0, .slice none 0 0, .slice none 0 0, .bool false, .slice none 0 0, .int .i64 0, .int .i64 0, .int .i64 0, .int .i64 0]] 8 =
      some ([.agg [.nil, .agg [.nil, .nil, .nil, .nil], .lit (.bool false), .nil, .agg [.lit (.int .i64 0), .lit (.int .i64 0), .lit (.int .i64 0), .lit (.int .i64 0)]]], [], []) := by kernel_rfl
  refine returnsInHanded_of_row (C := Tryz.checked) (s := OpenSpec.ofChange Rows.resolveFlatSpec) own started (by kernel_rfl) Tryz.func3
    (witness_row_at (enc := enc) (C := Tryz.checked) false (laidWorld os) #[.agg #[.slice none 0 0, .slice none 0 0, .slice none 0 0, .slice none 0 0, .slice none 0 0, .bool false, .slice none 0 0, .int .i64 0, .int .i64 0, .int .i64 0, .int .i64 0]] rfl (laid_vars os _) (laid_rest os _) (by kernel_rfl)
      (OpenSpec.preRow_of_cond 8 hx (by kernel_rfl) (fun k hk => by cases hk) (by kernel_rfl) (laid_met os _))) ?_
  intro W base args ds gs before hval hW _ _ hz hL _ _
  exact resolveFlat_contract H enc W base args ds gs before hval hW hz hL
theorem resolveFlat_said : Rows.ResolveFlatSaid :=
  OpenClaim.holds_of_cond 3 Tryz.f3 rfl rfl rfl rfl rfl rfl rfl ⟨rfl, rfl, rfl, rfl, rfl⟩ rfl rfl rfl rfl rfl (by kernel_rfl) Tryz.func3 resolveFlat_closed
    (of_decide_eq_true (by kernel_rfl)) (by unfold Func.isWrapper; first | (rw [if_pos (by decide +kernel)]; kernel_rfl) | (rw [if_neg (by decide +kernel)]; exact ⟨rfl, rfl⟩))
    (fun os started H enc _ F => by rw [OpenClaim.pre_eq_preRow]; exact resolveFlat_lifted os started H enc F)
theorem resolveFlat_card : Rows.ResolveFlatCardSaid :=
  Claim7.holds_tied_plain_at .later [] _ _ _ _ resolveFlat_said (fun _ h => by cases h) resolveFlat_wf (fun _ h => by cases h) resolveFlat_row_tie rfl ⟨rfl, rfl⟩ resolveFlat_main rfl resolveFlat_plain resolveFlat_goes
#print axioms resolveFlat_card
end Go.Proofs.YtpdjadmnnadkfaaGreatDoor
