/- EditBack, P19.1: a name that is added and taken away again leaves the manifest, an override laid and lifted, too. For every input. The card's conditions: the package-level tables hold what the program's text lays, the other variables what their types say. -/
import Derived.Test.YtkndmcejjebjfaaGreatDoorK19bB6
set_option linter.unusedVariables false
set_option linter.unusedSimpArgs false
namespace Go.Proofs.YtkndmcejjebjfaaGreatDoor
open Go.Proofs.Tryz
open Go Go.RowKit Go.ChangeShapes Go.WideShapes Go.ChangeAt Go.Hal
set_option maxRecDepth 100000 in
theorem editBack_contract (H : Type) (enc : TypeId × Value → H) (W : World) (base : Nat) (args : Array Value) (ds gs : List (DataW H)) (before : List MemPlace)
    (hval : ∀ (j : Nat) t v, Tryz.f3.params[j]? = some t → args[j]? = some v → Value.okWide prog W .any base t v)
    (hW : DataW.Whole enc prog Tryz.f3.params.toList Rows.editBackSpec.vars false W args.toList ds gs before)
    (hz : (DataW.weightsEach prog (Tryz.f3.params.toList ++ (OpenSpec.ofChange Rows.editBackSpec).bare.plain.varTypes prog) (ds ++ gs)).all (· ≤ reachBytes) = true) (hL : laidMetH prog K8 W) (hsh : W.ShapedOpen prog) :
    Calls prog 3 args W fun e W' => ∃ v, e = .returned v ∧ Rows.editBackSpec.post enc prog Tryz.f3 false true false false W args v W' := by
  have hW' := hW
  obtain ⟨p, q, hA0, hV, rfl, _, _⟩ := hW
  have hA : DataW.TrodAll enc prog W 0 (fun _ => true) true Tryz.f3.params.toList args.toList ds p := hA0
  have hz : small (DataW.weightsEach prog (Tryz.f3.params.toList ++ (OpenSpec.ofChange Rows.editBackSpec).bare.plain.varTypes prog) (ds ++ gs)) := hz
  rw [Nm] at hA hz
  have hval' : ∀ (j : Nat) t v, [27, 29][j]? = some t → args.toList[j]? = some v → Value.okWide prog W .any base t v := fun j t v h1 h2 => hval j t v (by rw [← Array.getElem?_toList, Nm]; exact h1) (by rw [← Array.getElem?_toList]; exact h2)
  obtain ⟨v0, vs0, d0, ds0, p0, q0, hargs, rfl, rfl, h0, r0⟩ := trodAll_cons hA
  obtain ⟨v1, vs1, d1, ds1, p1, q1, rfl, rfl, rfl, h1, r1⟩ := trodAll_cons r0
  obtain ⟨rfl, rfl, rfl⟩ := trodAll_nil r1
  rw [hargs] at hval'
  obtain ⟨n0, h0⟩ := V9 h0
  obtain ⟨n1, h1⟩ := V9 h1
  have w0 := O5 hz (i := 0) rfl rfl
  have w1 := O5 hz (i := 1) rfl rfl
  obtain ⟨c0, rfl, _⟩ := okWide_struct underlying27 (hval' 0 _ _ rfl rfl)
  obtain ⟨c1, rfl, _⟩ := okWide_struct underlying29 (hval' 1 _ _ rfl rfl)
  obtain ⟨sP, sS, D, N, Di, P, lp, ls, e0, hP, hS⟩ := Zha h0 w0
  obtain ⟨x, e1, hx⟩ := V8 enc n1 _ _ h1 w1
  have a0 := Sr e0
  have a1 := Sr e1
  obtain rfl : args = #[.agg c0, .agg c1] := by rw [← Array.toArray_toList (xs := args), hargs]
  subst a0 a1
  have walk := SE.Kl.go (k := fun v W' => ∃ b, v = Value.bool b ∧ b = true ∧ Ext W W') (Z5 (D := D) (N := N) (Di := Di) (P := P) (Zbw hL hsh) (Here.old W) hP hS hx.1 fun w' hx => ⟨true, rfl, rfl, hx⟩)
  refine Calls.mono walk fun e W' ⟨v, he, b, hv, hb, hx⟩ => ?_
  subst hb
  exact ⟨v, he, by rw [hv]; exact Zdj Zdd (by rw [Nm]; decide +kernel) (bt := 4) (by kernel_rfl) underlying4 rfl hW' (fun hl => by rw [Nm] at hl; rfl) hx⟩
set_option maxRecDepth 100000 in
theorem editBack_lifted (os : Os) (started : os.Started) (H : Type) (enc : TypeId × Value → H) (F : Stop.Interp) :
    ReturnsInHanded {} Tryz.checked os 3 .any ((OpenSpec.ofChange Rows.editBackSpec).preRow enc prog Tryz.f3 Rows.editBackRow.domain false Rows.editBackRow.laid) (((OpenSpec.ofChange Rows.editBackSpec).at F).post enc prog Tryz.f3 false true false false) := by
  have hx : DataW.whole enc prog ((K9 os).forCall (fun _ _ => 0) ⟨#[], #[.agg #[.slice none 0 0, .int .i64 0, .int .i64 0, .int .i64 0, .int .i64 0, .slice none 0 0], .agg #[.int .i64 0, .string ⟨#[]⟩, .string ⟨#[]⟩, .int .i64 0, .string ⟨#[]⟩, .int .i64 0]], []⟩).memory Tryz.f3.params.toList Rows.editBackSpec.vars false [.agg #[.slice none 0 0, .int .i64 0, .int .i64 0, .int .i64 0, .int .i64 0, .slice none 0 0], .agg #[.int .i64 0, .string ⟨#[]⟩, .string ⟨#[]⟩, .int .i64 0, .string ⟨#[]⟩, .int .i64 0]] 8 =
      some ([.agg [.nil, .agg [.lit (.int .i64 0), .lit (.int .i64 0), .lit (.int .i64 0), .lit (.int .i64 0)], .nil], .agg [.lit (.int .i64 0), .lit (.string []), .lit (.string []), .lit (.int .i64 0), .lit (.string []), .lit (.int .i64 0)]], [], []) := by kernel_rfl
  refine returnsInHanded_of_row (C := Tryz.checked) (s := OpenSpec.ofChange Rows.editBackSpec) own started (by kernel_rfl) func3
    (witness_row_at (enc := enc) (C := Tryz.checked) false (K9 os) #[.agg #[.slice none 0 0, .int .i64 0, .int .i64 0, .int .i64 0, .int .i64 0, .slice none 0 0], .agg #[.int .i64 0, .string ⟨#[]⟩, .string ⟨#[]⟩, .int .i64 0, .string ⟨#[]⟩, .int .i64 0]] rfl (Zdg os _) (Zdf os _) (by kernel_rfl)
      (OpenSpec.preRow_of_cond 8 hx (by kernel_rfl) (fun k hk => by cases hk) (by kernel_rfl) (Zde os _))) ?_
  intro W base args ds gs before hval hW _ _ hz hL hsh _
  exact editBack_contract H enc W base args ds gs before hval hW hz hL hsh
theorem editBack_said : Rows.EditBackSaid :=
  OpenClaim.holds_of_cond 3 Tryz.f3 rfl rfl rfl rfl rfl rfl rfl ⟨rfl, rfl, rfl, rfl, rfl⟩ rfl rfl rfl rfl rfl (by kernel_rfl) func3 Z1
    (of_decide_eq_true (by kernel_rfl)) (by unfold Func.isWrapper; first | (rw [if_pos (by decide +kernel)]; kernel_rfl) | (rw [if_neg (by decide +kernel)]; exact ⟨rfl, rfl⟩))
    (fun os started H enc _ F => by rw [OpenClaim.pre_eq_preRow]; exact editBack_lifted os started H enc F)
theorem editBack_card : Rows.EditBackCardSaid :=
  Claim7.holds_tied_plain_at .later [] _ _ _ _ editBack_said (fun _ h => by cases h) Z6 (fun _ h => by cases h) editBack_row_tie rfl ⟨rfl, rfl⟩ Z3 rfl Z4 Z2
#print axioms editBack_card
end Go.Proofs.YtkndmcejjebjfaaGreatDoor
