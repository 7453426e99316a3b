/- PlainPlaces, P21.2: the model places a graph just as the document does, with an old tree or Zfi; Zfi a catalog ErrArg. Where what it reads is of bulk at most 1048576 (the first form is false for lists too long for any machine). The card's conditions: the package-level tables hold what the program's text lays, the other variables what their types say. -/
import Derived.Test.YtfilbiaaeecoaaaGreatDoorK21pB6
set_option linter.unusedVariables false
set_option linter.unusedSimpArgs false
namespace Go.Proofs.YtfilbiaaeecoaaaGreatDoor
open Go.Proofs.Tryz
open Go Go.RowKit Go.ChangeShapes Go.WideShapes Go.ChangeAt Go.Hal
set_option maxRecDepth 100000 in
theorem plainPlaces_contract (H : Type) (enc : TypeId × Value → H) (W : World) (base : Nat) (args : Array Value) (ds gs : List (DataW H)) (before : List MemPlace)
    (hval : ∀ (j : Nat) t v, Tryz.f3.params[j]? = some t → args[j]? = some v → Value.okWide prog W .any base t v)
    (hW : DataW.Whole enc prog Tryz.f3.params.toList Rows.plainPlacesSpec.vars false W args.toList ds gs before)
    (hz : (DataW.weightsEach prog (Tryz.f3.params.toList ++ (OpenSpec.ofChange Rows.plainPlacesSpec).bare.plain.varTypes prog) (ds ++ gs)).all (· ≤ reachBytes) = true) (hk : Rows.uptoSmall H (ds ++ gs) = true) (hL : laidMetH prog Zpi W) (hsh : W.ShapedOpen prog) :
    Calls prog 3 args W fun e W' => ∃ v, e = .returned v ∧ Rows.plainPlacesSpec.post enc prog Tryz.f3 false true false false W args v W' := by
  have hW' := hW
  obtain ⟨p, q, hA0, hV, rfl, _, _⟩ := hW
  have hA : DataW.TrodAll enc prog W 0 (fun _ => true) true Tryz.f3.params.toList args.toList ds p := hA0
  have hz : small (DataW.weightsEach prog (Tryz.f3.params.toList ++ (OpenSpec.ofChange Rows.plainPlacesSpec).bare.plain.varTypes prog) (ds ++ gs)) := hz
  rw [Zex] at hA hz
  have hval' : ∀ (j : Nat) t v, [32][j]? = some t → args.toList[j]? = some v → Value.okWide prog W .any base t v := fun j t v h1 h2 => hval j t v (by rw [← Array.getElem?_toList, Zex]; exact h1) (by rw [← Array.getElem?_toList]; exact h2)
  obtain ⟨v0, vs0, d0, ds0, p0, q0, hargs, rfl, rfl, h0, r0⟩ := trodAll_cons hA
  obtain ⟨rfl, rfl, rfl⟩ := trodAll_nil r0
  rw [hargs] at hval'
  obtain ⟨n0, h0⟩ := rd_val h0
  have w0 := Zgc hz (i := 0) rfl rfl
  obtain ⟨c0, rfl, _⟩ := okWide_struct underlying32 (hval' 0 _ _ rfl rfl)
  obtain ⟨gS, sP, so, lk, l1, l2, D, M, g, lp, T, e0, hg, hP, hT, kg, kt⟩ := Zzd h0 w0
  dsimp only at kg kt
  have hk := Z9r hk
  simp only [List.cons_append, Rows.uptoBulkAll] at hk
  have a0 := Z3j e0
  obtain rfl : args = #[.agg c0] := by rw [← Array.toArray_toList (xs := args), hargs]
  subst a0
  have walk := SE.Zbw.go (k := fun v W' => ∃ b, v = Value.bool b ∧ b = true ∧ Ext W W') (Zqm (lk := lk) (l1 := l1) (l2 := l2) (D := D) (M := M) (g := g) (T := T) (gl_of hL hsh) (Here.old W) hg hP hT (fun d hd => by have := kt d hd; omega) (by omega) fun w' hx => ⟨true, rfl, rfl, hx⟩)
  refine Calls.mono walk fun e W' ⟨v, he, b, hv, hb, hx⟩ => ?_
  subst hb
  exact ⟨v, he, by rw [hv]; exact Z4p Z7y (by rw [Zex]; decide +kernel) (bt := 4) (by kernel_rfl) underlying4 rfl hW' (fun hl => by rw [Zex] at hl; rfl) hx⟩
set_option maxRecDepth 100000 in
theorem plainPlaces_lifted (os : Os) (started : os.Started) (H : Type) (enc : TypeId × Value → H) (F : Stop.Interp) :
    ReturnsInHanded {} Tryz.checked os 3 .any ((Rows.OpenSpec.upto Rows.plainPlacesSpec).preRow enc prog Tryz.f3 Rows.plainPlacesUptoRow.domain false Rows.plainPlacesUptoRow.laid) (((Rows.OpenSpec.upto Rows.plainPlacesSpec).at F).post enc prog Tryz.f3 false true false false) := by
  have hx : DataW.whole enc prog ((Zkj os).forCall (fun _ _ => 0) ⟨#[], #[.agg #[.slice none 0 0, .slice none 0 0, .int .i64 0, .int .i64 0, .int .i64 0, .int .i64 0, .slice none 0 0, .bool false]], []⟩).memory Tryz.f3.params.toList Rows.plainPlacesSpec.vars false [.agg #[.slice none 0 0, .slice none 0 0, .int .i64 0, .int .i64 0, .int .i64 0, .int .i64 0, .slice none 0 0, .bool false]] 8 =
      some ([.agg [.agg [.nil], .nil, .agg [.lit (.int .i64 0), .lit (.int .i64 0), .lit (.int .i64 0), .lit (.int .i64 0)], .agg [.nil], .lit (.bool false)]], [], []) := by kernel_rfl
  refine returnsInHanded_of_row (C := Tryz.checked) (s := Rows.OpenSpec.upto Rows.plainPlacesSpec) own started (by kernel_rfl) func3
    (witness_row_at (enc := enc) (C := Tryz.checked) false (Zkj os) #[.agg #[.slice none 0 0, .slice none 0 0, .int .i64 0, .int .i64 0, .int .i64 0, .int .i64 0, .slice none 0 0, .bool false]] rfl (Z1g os _) (Z1f os _) (by kernel_rfl)
      (OpenSpec.preRow_of_cond 8 hx (by kernel_rfl) (fun k hk => by cases hk; kernel_rfl) (by kernel_rfl) (Z4o os _))) ?_
  intro W base args ds gs before hval hW _ hcond hz hL hsh _
  exact plainPlaces_contract H enc W base args ds gs before hval hW hz (hcond _ rfl) hL hsh
theorem plainPlacesUpto_said : Rows.PlainPlacesUptoSaid :=
  OpenClaim.holds_of_cond 3 Tryz.f3 rfl rfl rfl rfl rfl rfl rfl ⟨rfl, rfl, rfl, rfl, rfl⟩ rfl rfl rfl rfl rfl (by kernel_rfl) func3 Zj9
    (of_decide_eq_true (by kernel_rfl)) (by unfold Func.isWrapper; first | (rw [if_pos (by decide +kernel)]; kernel_rfl) | (rw [if_neg (by decide +kernel)]; exact ⟨rfl, rfl⟩))
    (fun os started H enc _ F => by rw [OpenClaim.pre_eq_preRow]; exact plainPlaces_lifted os started H enc F)
theorem plainPlacesUpto_card : Rows.PlainPlacesUptoCardSaid :=
  Claim7.holds_tied_plain_at .later [] _ _ _ _ plainPlacesUpto_said (fun _ h => by cases h) Zmn (fun _ h => by cases h) plainPlacesUpto_row_tie rfl ⟨rfl, rfl⟩ Zlj rfl Znn Zli
#print axioms plainPlacesUpto_card
end Go.Proofs.YtfilbiaaeecoaaaGreatDoor
