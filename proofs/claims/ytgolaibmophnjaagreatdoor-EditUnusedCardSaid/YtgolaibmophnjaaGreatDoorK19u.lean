/- EditUnused, P19.1: what a command does not use is not looked at. For every input. The card's conditions: the package-level tables hold what the program's text lays, the other variables what their types say. -/
import Derived.Test.YtgolaibmophnjaaGreatDoorK19uB7
set_option linter.unusedVariables false
set_option linter.unusedSimpArgs false
namespace Go.Proofs.YtgolaibmophnjaaGreatDoor
open Go.Proofs.Tryz
open Go Go.RowKit Go.ChangeShapes Go.WideShapes Go.ChangeAt Go.Hal
set_option maxRecDepth 100000 in
theorem editUnused_contract (H : Type) (enc : TypeId × Value → H) (W : World) (base : Nat) (args : Array Value) (ds gs : List (DataW H)) (before : List MemPlace)
    (hval : ∀ (j : Nat) t v, Tryz.f4.params[j]? = some t → args[j]? = some v → Value.okWide prog W .any base t v)
    (hW : DataW.Whole enc prog Tryz.f4.params.toList Rows.editUnusedSpec.vars false W args.toList ds gs before)
    (hz : (DataW.weightsEach prog (Tryz.f4.params.toList ++ (OpenSpec.ofChange Rows.editUnusedSpec).bare.plain.varTypes prog) (ds ++ gs)).all (· ≤ reachBytes) = true) (hL : laidMetH prog L0 W) (hsh : W.ShapedOpen prog) :
    Calls prog 4 args W fun e W' => ∃ v, e = .returned v ∧ Rows.editUnusedSpec.post enc prog Tryz.f4 false true false false W args v W' := by
  have hW' := hW
  obtain ⟨p, q, hA0, hV, rfl, _, _⟩ := hW
  have hA : DataW.TrodAll enc prog W 0 (fun _ => true) true Tryz.f4.params.toList args.toList ds p := hA0
  have hz : small (DataW.weightsEach prog (Tryz.f4.params.toList ++ (OpenSpec.ofChange Rows.editUnusedSpec).bare.plain.varTypes prog) (ds ++ gs)) := hz
  rw [Ob] at hA hz
  have hval' : ∀ (j : Nat) t v, [27, 25][j]? = some t → args.toList[j]? = some v → Value.okWide prog W .any base t v := fun j t v h1 h2 => hval j t v (by rw [← Array.getElem?_toList, Ob]; exact h1) (by rw [← Array.getElem?_toList]; exact h2)
  obtain ⟨v0, vs0, d0, ds0, p0, q0, hargs, rfl, rfl, h0, r0⟩ := trodAll_cons hA
  obtain ⟨v1, vs1, d1, ds1, p1, q1, rfl, rfl, rfl, h1, r1⟩ := trodAll_cons r0
  obtain ⟨rfl, rfl, rfl⟩ := trodAll_nil r1
  rw [hargs] at hval'
  obtain ⟨n0, h0⟩ := WG h0
  obtain ⟨n1, h1⟩ := WG h1
  have w0 := Py hz (i := 0) rfl rfl
  have w1 := Py hz (i := 1) rfl rfl
  obtain ⟨c0, rfl, _⟩ := okWide_struct underlying27 (hval' 0 _ _ rfl rfl)
  obtain ⟨sP, sS, D, N, Di, P, lp, ls, e0, hP, hS⟩ := Ziy h0 w0
  obtain ⟨sM, lm, e1, hM, _⟩ := WF enc n1 _ _ h1 w1
  have a0 := YG e0
  have a1 := Zkg e1 (okWide_slice underlying25 (hval' 1 _ _ rfl rfl))
  obtain rfl : args = #[.agg c0, v1] := by rw [← Array.toArray_toList (xs := args), hargs]
  subst a0 a1
  have walk := SE.KJ.V (k := fun v W' => ∃ b, v = Value.bool b ∧ b = true ∧ AI W W') (Za6 (D := D) (N := N) (Di := Di) (P := P) (Zdl hL hsh) (Ļ.tm W) hP hS hM fun w' hx => ⟨true, rfl, rfl, hx⟩)
  refine Calls.O walk fun e W' ⟨v, he, b, hv, hb, hx⟩ => ?_
  subst hb
  exact ⟨v, he, by rw [hv]; exact Ze5 Ze0 (by rw [Ob]; decide +kernel) (bt := 4) (by kernel_rfl) underlying4 rfl hW' (fun hl => by rw [Ob] at hl; rfl) hx⟩
set_option maxRecDepth 100000 in
theorem editUnused_lifted (os : Os) (started : os.Started) (H : Type) (enc : TypeId × Value → H) (F : Stop.Interp) :
    ReturnsInHanded {} Tryz.checked os 4 .any ((OpenSpec.ofChange Rows.editUnusedSpec).preRow enc prog Tryz.f4 Rows.editUnusedRow.domain false Rows.editUnusedRow.laid) (((OpenSpec.ofChange Rows.editUnusedSpec).at F).post enc prog Tryz.f4 false true false false) := by
  have hx : DataW.whole enc prog ((L3 os).forCall (fun _ _ => 0) ⟨#[], #[.agg #[.slice none 0 0, .int .i64 0, .int .i64 0, .int .i64 0, .int .i64 0, .slice none 0 0], .slice none 0 0], []⟩).memory Tryz.f4.params.toList Rows.editUnusedSpec.vars false [.agg #[.slice none 0 0, .int .i64 0, .int .i64 0, .int .i64 0, .int .i64 0, .slice none 0 0], .slice none 0 0] 8 =
      some ([.agg [.nil, .agg [.lit (.int .i64 0), .lit (.int .i64 0), .lit (.int .i64 0), .lit (.int .i64 0)], .nil], .nil], [], []) := by kernel_rfl
  refine returnsInHanded_of_row (C := Tryz.checked) (s := OpenSpec.ofChange Rows.editUnusedSpec) uy started (by kernel_rfl) func4
    (witness_row_at (enc := enc) (C := Tryz.checked) false (L3 os) #[.agg #[.slice none 0 0, .int .i64 0, .int .i64 0, .int .i64 0, .int .i64 0, .slice none 0 0], .slice none 0 0] rfl (Ze3 os _) (Ze2 os _) (by kernel_rfl)
      (OpenSpec.preRow_of_cond 8 hx (by kernel_rfl) (fun k hk => by cases hk) (by kernel_rfl) (Ze1 os _))) ?_
  intro W base args ds gs before hval hW _ _ hz hL hsh _
  exact editUnused_contract H enc W base args ds gs before hval hW hz hL hsh
theorem editUnused_said : Rows.EditUnusedSaid :=
  OpenClaim.holds_of_cond 4 Tryz.f4 rfl rfl rfl rfl rfl rfl rfl ⟨rfl, rfl, rfl, rfl, rfl⟩ rfl rfl rfl rfl rfl (by kernel_rfl) func4 Za2
    (of_decide_eq_true (by kernel_rfl)) (by unfold Func.isWrapper; first | (rw [if_pos (by decide +kernel)]; kernel_rfl) | (rw [if_neg (by decide +kernel)]; exact ⟨rfl, rfl⟩))
    (fun os started H enc _ F => by rw [OpenClaim.pre_eq_preRow]; exact editUnused_lifted os started H enc F)
theorem editUnused_card : Rows.EditUnusedCardSaid :=
  Claim7.holds_tied_plain_at .later [] _ _ _ _ editUnused_said (fun _ h => by cases h) Za7 (fun _ h => by cases h) editUnused_row_tie rfl ⟨rfl, rfl⟩ Za4 rfl Za5 Za3
#print axioms editUnused_card
end Go.Proofs.YtgolaibmophnjaaGreatDoor
