/- EditAgain, P19.3: behind an install another one, a dedupe, an update of all, a prune where nothing is wanted by Dev leave graph and tree. For every input. The card's conditions: the package-level tables hold what the program's text lays, the other variables what their types say. -/
import Derived.Test.YtgolaibmophnjaaGreatDoorK19aB7
set_option linter.unusedVariables false
set_option linter.unusedSimpArgs false
namespace Go.Proofs.YtgolaibmophnjaaGreatDoor
open Go.Proofs.Tryz
open Go Go.RowKit Go.ChangeShapes Go.WideShapes Go.ChangeAt Go.Hal
set_option maxRecDepth 100000 in
theorem editAgain_contract (H : Type) (enc : TypeId × Value → H) (W : World) (base : Nat) (args : Array Value) (ds gs : List (DataW H)) (before : List MemPlace)
    (hval : ∀ (j : Nat) t v, Tryz.f5.params[j]? = some t → args[j]? = some v → Value.okWide prog W .any base t v)
    (hW : DataW.Whole enc prog Tryz.f5.params.toList Rows.editAgainSpec.vars false W args.toList ds gs before)
    (hz : (DataW.weightsEach prog (Tryz.f5.params.toList ++ (OpenSpec.ofChange Rows.editAgainSpec).bare.plain.varTypes prog) (ds ++ gs)).all (· ≤ reachBytes) = true) (hL : laidMetH prog KT W) (hsh : W.ShapedOpen prog) :
    Calls prog 5 args W fun e W' => ∃ v, e = .returned v ∧ Rows.editAgainSpec.post enc prog Tryz.f5 false true false false W args v W' := by
  have hW' := hW
  obtain ⟨p, q, hA0, hV, rfl, _, _⟩ := hW
  have hA : DataW.TrodAll enc prog W 0 (fun _ => true) true Tryz.f5.params.toList args.toList ds p := hA0
  have hz : small (DataW.weightsEach prog (Tryz.f5.params.toList ++ (OpenSpec.ofChange Rows.editAgainSpec).bare.plain.varTypes prog) (ds ++ gs)) := hz
  rw [ND] at hA hz
  have hval' : ∀ (j : Nat) t v, [27][j]? = some t → args.toList[j]? = some v → Value.okWide prog W .any base t v := fun j t v h1 h2 => hval j t v (by rw [← Array.getElem?_toList, ND]; exact h1) (by rw [← Array.getElem?_toList]; exact h2)
  obtain ⟨v0, vs0, d0, ds0, p0, q0, hargs, rfl, rfl, h0, r0⟩ := trodAll_cons hA
  obtain ⟨rfl, rfl, rfl⟩ := trodAll_nil r0
  rw [hargs] at hval'
  obtain ⟨n0, h0⟩ := Zjn h0
  have w0 := SG hz (i := 0) rfl rfl
  obtain ⟨c0, rfl, _⟩ := okWide_struct underlying27 (hval' 0 _ _ rfl rfl)
  obtain ⟨sP, sS, D, N, Di, P, lp, ls, e0, hP, hS⟩ := Zjm h0 w0
  have a0 := YD e0
  obtain rfl : args = #[.agg c0] := by rw [← Array.toArray_toList (xs := args), hargs]
  subst a0
  have walk := SE.K6.V (k := fun v W' => ∃ b, v = Value.bool b ∧ b = true ∧ AI W W') (Zbc (D := D) (N := N) (Di := Di) (P := P) (Zdu hL hsh) (į.tf W) hP hS fun w' hx => ⟨true, rfl, rfl, hx⟩)
  refine Calls.O walk fun e W' ⟨v, he, b, hv, hb, hx⟩ => ?_
  subst hb
  exact ⟨v, he, by rw [hv]; exact Zfl Zff (by rw [ND]; decide +kernel) (bt := 4) (by kernel_rfl) underlying4 rfl hW' (fun hl => by rw [ND] at hl; rfl) hx⟩
set_option maxRecDepth 100000 in
theorem editAgain_lifted (os : Os) (started : os.Started) (H : Type) (enc : TypeId × Value → H) (F : Stop.Interp) :
    ReturnsInHanded {} Tryz.checked os 5 .any ((OpenSpec.ofChange Rows.editAgainSpec).preRow enc prog Tryz.f5 Rows.editAgainRow.domain false Rows.editAgainRow.laid) (((OpenSpec.ofChange Rows.editAgainSpec).at F).post enc prog Tryz.f5 false true false false) := by
  have hx : DataW.whole enc prog ((KU os).forCall (fun _ _ => 0) ⟨#[], #[.agg #[.slice none 0 0, .int .i64 0, .int .i64 0, .int .i64 0, .int .i64 0, .slice none 0 0]], []⟩).memory Tryz.f5.params.toList Rows.editAgainSpec.vars false [.agg #[.slice none 0 0, .int .i64 0, .int .i64 0, .int .i64 0, .int .i64 0, .slice none 0 0]] 8 =
      some ([.agg [.nil, .agg [.lit (.int .i64 0), .lit (.int .i64 0), .lit (.int .i64 0), .lit (.int .i64 0)], .nil]], [], []) := by kernel_rfl
  refine returnsInHanded_of_row (C := Tryz.checked) (s := OpenSpec.ofChange Rows.editAgainSpec) ux started (by kernel_rfl) func5
    (witness_row_at (enc := enc) (C := Tryz.checked) false (KU os) #[.agg #[.slice none 0 0, .int .i64 0, .int .i64 0, .int .i64 0, .int .i64 0, .slice none 0 0]] rfl (Zfi os _) (Zfh os _) (by kernel_rfl)
      (OpenSpec.preRow_of_cond 8 hx (by kernel_rfl) (fun k hk => by cases hk) (by kernel_rfl) (Zfg os _))) ?_
  intro W base args ds gs before hval hW _ _ hz hL hsh _
  exact editAgain_contract H enc W base args ds gs before hval hW hz hL hsh
theorem editAgain_said : Rows.EditAgainSaid :=
  OpenClaim.holds_of_cond 5 Tryz.f5 rfl rfl rfl rfl rfl rfl rfl ⟨rfl, rfl, rfl, rfl, rfl⟩ rfl rfl rfl rfl rfl (by kernel_rfl) func5 Za8
    (of_decide_eq_true (by kernel_rfl)) (by unfold Func.isWrapper; first | (rw [if_pos (by decide +kernel)]; kernel_rfl) | (rw [if_neg (by decide +kernel)]; exact ⟨rfl, rfl⟩))
    (fun os started H enc _ F => by rw [OpenClaim.pre_eq_preRow]; exact editAgain_lifted os started H enc F)
theorem editAgain_card : Rows.EditAgainCardSaid :=
  Claim7.holds_tied_plain_at .later [] _ _ _ _ editAgain_said (fun _ h => by cases h) Zbd (fun _ h => by cases h) editAgain_row_tie rfl ⟨rfl, rfl⟩ Zba rfl Zbb Za9
#print axioms editAgain_card
end Go.Proofs.YtgolaibmophnjaaGreatDoor
