/- Lemmas for the claim K08t: how the program's functions run, and what they answer; no condition but those that each theorem names. -/
import Derived.Test.YtfaabhimmojeaaaGreatDoorProg
import Derived.Test.YtfaabhimmojeaaaGreatDoorK08tA0
set_option linter.unusedVariables false
set_option linter.unusedSimpArgs false
namespace Go.Hal.SE
open Go Go.RowKit Go.Hal Go.Proofs
set_option maxRecDepth 100000
namespace Eq0
theorem eqv_30 (d : Nat) (a0 : Int) (a1 : Int) (a2 : Int) (b0 : Int) (b1 : Int) (b2 : Int) (w : World) : (Op.equalIn (d + 2) 30 (.agg #[(Value.int .i64 a0), (Value.int .i64 a1), (Value.int .i64 a2)]) (.agg #[(Value.int .i64 b0), (Value.int .i64 b1), (Value.int .i64 b2)])).run Tryz.prog w = .ok ((a0 == b0) && ((a1 == b1) && ((a2 == b2) && true))) w :=
  (eqS (by kernel_rfl) (by kernel_rfl) (fs := [⟨ "Major", 3, 0, false, "", "", 0⟩, ⟨ "Minor", 3, 1, false, "", "", 8⟩, ⟨ "Patch", 3, 2, false, "", "", 16⟩]) (by kernel_rfl) (eqF_cons (x := (Value.int .i64 a0)) (y := (Value.int .i64 b0)) rfl (by kernel_rfl) (by kernel_rfl) (run_equalIn_int w _ 3 .i64 .i64 a0 b0 (by kernel_rfl)) (eqF_cons (x := (Value.int .i64 a1)) (y := (Value.int .i64 b1)) rfl (by kernel_rfl) (by kernel_rfl) (run_equalIn_int w _ 3 .i64 .i64 a1 b1 (by kernel_rfl)) (eqF_cons (x := (Value.int .i64 a2)) (y := (Value.int .i64 b2)) rfl (by kernel_rfl) (by kernel_rfl) (run_equalIn_int w _ 3 .i64 .i64 a2 b2 (by kernel_rfl)) eqF_nil))))
theorem eqv_32 (d : Nat) (a0 : ByteArray) (a1 : Int) (a2 : Int) (a3 : Int) (b0 : ByteArray) (b1 : Int) (b2 : Int) (b3 : Int) (w : World) : (Op.equalIn (d + 3) 32 (.agg #[(Value.string a0), (Value.int .i64 a1), (Value.int .i64 a2), (Value.int .i64 a3)]) (.agg #[(Value.string b0), (Value.int .i64 b1), (Value.int .i64 b2), (Value.int .i64 b3)])).run Tryz.prog w = .ok ((bEq a0 b0) && (((a1 == b1) && ((a2 == b2) && ((a3 == b3) && true))) && true)) w :=
  (eqS (by kernel_rfl) (by kernel_rfl) (fs := [⟨ "Name", 9, 0, false, "", "", 0⟩, ⟨ "Version", 30, 1, false, "", "", 16⟩]) (by kernel_rfl) (eqF_cons (x := (Value.string a0)) (y := (Value.string b0)) rfl (by kernel_rfl) (by kernel_rfl) (run_equalIn_string w _ 9 a0 b0 (by kernel_rfl)) (eqF_cons (x := (Value.agg #[(Value.int .i64 a1), (Value.int .i64 a2), (Value.int .i64 a3)])) (y := (Value.agg #[(Value.int .i64 b1), (Value.int .i64 b2), (Value.int .i64 b3)])) rfl (by kernel_rfl) (by kernel_rfl) (eqS (by kernel_rfl) (by kernel_rfl) (fs := [⟨ "Major", 3, 0, false, "", "", 0⟩, ⟨ "Minor", 3, 1, false, "", "", 8⟩, ⟨ "Patch", 3, 2, false, "", "", 16⟩]) (by kernel_rfl) (eqF_cons (x := (Value.int .i64 a1)) (y := (Value.int .i64 b1)) rfl (by kernel_rfl) (by kernel_rfl) (run_equalIn_int w _ 3 .i64 .i64 a1 b1 (by kernel_rfl)) (eqF_cons (x := (Value.int .i64 a2)) (y := (Value.int .i64 b2)) rfl (by kernel_rfl) (by kernel_rfl) (run_equalIn_int w _ 3 .i64 .i64 a2 b2 (by kernel_rfl)) (eqF_cons (x := (Value.int .i64 a3)) (y := (Value.int .i64 b3)) rfl (by kernel_rfl) (by kernel_rfl) (run_equalIn_int w _ 3 .i64 .i64 a3 b3 (by kernel_rfl)) eqF_nil)))) eqF_nil)))
end Eq0
open Eq0
/-- halyard/halyardlaw08.CatalogTries -/
def halyardlaw08_CatalogTries (l : Sl) (x_Name : ByteArray) (x_Version_Major : Int) (x_Version_Minor : Int) (x_Version_Patch : Int) (x_Range : Sl) (x_Pins : Sl) (w : World) (R : Bool → World → Prop) : Prop :=
  newS w [(Value.string x_Name), (Value.int .i64 x_Version_Major), (Value.int .i64 x_Version_Minor), (Value.int .i64 x_Version_Patch), (Sl.v x_Range), (Sl.v x_Pins)] 55 fun a vw => callS Tryz.prog 16 [] vw fun v vw1 => ∃ (t16 : Option Addr), v = (Value.pointer t16) ∧ bnd (Option.isNone t16) fun (b : Bool) => gCall (!b) (fun (t20 : Bool) (vw2 : World) => (((b || (!t20)) = true → R false vw2) ∧ ((b || (!t20)) = false → loop1 0 vw2 fun i vw5 nxt => ((i < (l.len : Int) → ∃ (ad : Addr), (l.a = some ad ∧ (0 : Int) ≤ i ∧ i < (l.len : Int)) ∧ ∃ (t33_Name : ByteArray) (t33_Version_Major : Int) (t33_Version_Minor : Int) (t33_Version_Patch : Int) (t33_Deps : Sl) (t33_Peers : Sl) (t33_Optional : Sl), (ldc vw5 (ad.add (i.toNat * 7)) [(Value.string t33_Name), (Value.int .i64 t33_Version_Major), (Value.int .i64 t33_Version_Minor), (Value.int .i64 t33_Version_Patch), (Sl.v t33_Deps), (Sl.v t33_Peers), (Sl.v t33_Optional)]) ∧ callS Tryz.prog 19 [(Value.pointer t16), (Value.agg #[(Value.string t33_Name), (Value.int .i64 t33_Version_Major), (Value.int .i64 t33_Version_Minor), (Value.int .i64 t33_Version_Patch), (Sl.v t33_Deps), (Sl.v t33_Peers), (Sl.v t33_Optional)])] vw5 fun v7 vw6 => ∃ (t34 : Int), v7 = (Value.int .i64 t34) ∧ nxt (wrapI (i + 1)) vw6) ∧ (¬ (i < (l.len : Int)) → ∃ (t37 : ByteArray), (ldc vw5 a [(Value.string t37)]) ∧ ∃ (t39 : Sl), (ldc vw5 (a.add 4) [(Sl.v t39)]) ∧ ∃ (t41 : Sl), (ldc vw5 (a.add 5) [(Sl.v t41)]) ∧ callS Tryz.prog 28 [(Value.pointer t16), (Value.string t37), (Sl.v t39), (Sl.v t41)] vw5 fun v13 vw12 => ∃ (t42 : Sl), v13 = (Sl.v t42) ∧ semS Tryz.prog (Instr.makeSlice 66 (Value.int .i64 (t42.len : Int)) (Value.int .i64 (t42.len : Int))) vw12 fun v16 vw15 => ∃ (t45 : Sl), v16 = (Sl.v t45) ∧ loop1 0 vw15 fun i17 vw18 nxt19 => ((i17 < (t42.len : Int) → join (fun (is : Bool) (vw20 : World) => bnd vw20.drew fun (vw21 : World) => bnd (!is) fun (b22 : Bool) => ∃ (t67 : Sl), grd (!b22) (ldc vw21 (a.add 4) [(Sl.v t67)]) ∧ ∃ (ad24 : Addr), grd (!b22) (t42.a = some ad24 ∧ (0 : Int) ≤ i17 ∧ i17 < (t42.len : Int)) ∧ ∃ (t71_Major : Int) (t71_Minor : Int) (t71_Patch : Int), grd (!b22) (ldc vw21 (ad24.add (i17.toNat * 3)) [(Value.int .i64 t71_Major), (Value.int .i64 t71_Minor), (Value.int .i64 t71_Patch)]) ∧ gCall (!b22) (fun (t72 : Bool) (vw27 : World) => (((b22 || (!t72)) = true → R false vw27) ∧ ((b22 || (!t72)) = false → loop1 0 vw27 fun vk vw32 nxt33 => ∃ (t77 : Sl), (ldc vw32 (a.add 5) [(Sl.v t77)]) ∧ ((vk < (t77.len : Int) → bnd vw32.drew fun (vw35 : World) => ∃ (ad36 : Addr), (t45.a = some ad36 ∧ (0 : Int) ≤ i17 ∧ i17 < (t45.len : Int)) ∧ ∃ (t87 : Bool), (ldc vw35 (ad36.add (i17.toNat * 1)) [(Value.bool t87)]) ∧ ∃ (t90 : Sl), grd (!t87) (ldc vw35 (a.add 5) [(Sl.v t90)]) ∧ ∃ (ad40 : Addr), grd (!t87) (t90.a = some ad40 ∧ (0 : Int) ≤ vk ∧ vk < (t90.len : Int)) ∧ ∃ (t93_Name : ByteArray) (t93_Version_Major : Int) (t93_Version_Minor : Int) (t93_Version_Patch : Int), grd (!t87) (ldc vw35 (ad40.add (vk.toNat * 4)) [(Value.string t93_Name), (Value.int .i64 t93_Version_Major), (Value.int .i64 t93_Version_Minor), (Value.int .i64 t93_Version_Patch)]) ∧ ∃ (t95 : ByteArray), grd (!t87) (ldc vw35 a [(Value.string t95)]) ∧ ∃ (ad44 : Addr), grd (!t87) (t42.a = some ad44 ∧ (0 : Int) ≤ i17 ∧ i17 < (t42.len : Int)) ∧ ∃ (t99_Major : Int) (t99_Minor : Int) (t99_Patch : Int), grd (!t87) (ldc vw35 (ad44.add (i17.toNat * 3)) [(Value.int .i64 t99_Major), (Value.int .i64 t99_Minor), (Value.int .i64 t99_Patch)]) ∧ ∃ (ad47 : Addr), (t45.a = some ad47 ∧ (0 : Int) ≤ i17 ∧ i17 < (t45.len : Int)) ∧ stw vw35 (ad47.add (i17.toNat * 1)) [(Value.bool (t87 || ((bEq t93_Name t95) && (((t93_Version_Major == t99_Major) && ((t93_Version_Minor == t99_Minor) && ((t93_Version_Patch == t99_Patch) && true))) && true))))] fun vw49 => nxt33 (wrapI (vk + 1)) vw49) ∧ (¬ (vk < (t77.len : Int)) → bnd vw32.drew fun (vw50 : World) => bnd (decide (0 < i17)) fun (b51 : Bool) => ∃ (ad52 : Addr), grd b51 (t45.a = some ad52 ∧ (0 : Int) ≤ i17 ∧ i17 < (t45.len : Int)) ∧ ∃ (t110 : Bool), grd b51 (ldc vw50 (ad52.add (i17.toNat * 1)) [(Value.bool t110)]) ∧ ∃ (ad55 : Addr), grd (b51 && t110) (t45.a = some ad55 ∧ (0 : Int) ≤ (wrapI (i17 - 1)) ∧ (wrapI (i17 - 1)) < (t45.len : Int)) ∧ ∃ (t116 : Bool), grd (b51 && t110) (ldc vw50 (ad55.add ((wrapI (i17 - 1)).toNat * 1)) [(Value.bool t116)]) ∧ bnd (t110 && (!t116)) fun (b58 : Bool) => ∃ (ad59 : Addr), grd (b51 && (!b58)) (t45.a = some ad59 ∧ (0 : Int) ≤ i17 ∧ i17 < (t45.len : Int)) ∧ ∃ (t123 : Bool), grd (b51 && (!b58)) (ldc vw50 (ad59.add (i17.toNat * 1)) [(Value.bool t123)]) ∧ ∃ (ad62 : Addr), grd (b51 && (!b58)) (t45.a = some ad62 ∧ (0 : Int) ≤ (wrapI (i17 - 1)) ∧ (wrapI (i17 - 1)) < (t45.len : Int)) ∧ ∃ (t128 : Bool), grd (b51 && (!b58)) (ldc vw50 (ad62.add ((wrapI (i17 - 1)).toNat * 1)) [(Value.bool t128)]) ∧ bnd (t123 == t128) fun (b65 : Bool) => ∃ (ad66 : Addr), grd ((b51 && (!b58)) && b65) (t42.a = some ad66 ∧ (0 : Int) ≤ (wrapI (i17 - 1)) ∧ (wrapI (i17 - 1)) < (t42.len : Int)) ∧ ∃ (t135_Major : Int) (t135_Minor : Int) (t135_Patch : Int), grd ((b51 && (!b58)) && b65) (ldc vw50 (ad66.add ((wrapI (i17 - 1)).toNat * 3)) [(Value.int .i64 t135_Major), (Value.int .i64 t135_Minor), (Value.int .i64 t135_Patch)]) ∧ ∃ (ad69 : Addr), grd ((b51 && (!b58)) && b65) (t42.a = some ad69 ∧ (0 : Int) ≤ i17 ∧ i17 < (t42.len : Int)) ∧ ∃ (t139_Major : Int) (t139_Minor : Int) (t139_Patch : Int), grd ((b51 && (!b58)) && b65) (ldc vw50 (ad69.add (i17.toNat * 3)) [(Value.int .i64 t139_Major), (Value.int .i64 t139_Minor), (Value.int .i64 t139_Patch)]) ∧ gCall ((b51 && (!b58)) && b65) (fun (t140 : Int) (vw72 : World) => (((b51 && (b58 || (b65 && (decide (t140 ≤ 0))))) = true → R false vw72) ∧ ((b51 && (b58 || (b65 && (decide (t140 ≤ 0))))) = false → nxt19 (wrapI (i17 + 1)) vw72))) (fun q => callS Tryz.prog 33 [(Value.agg #[(Value.int .i64 t135_Major), (Value.int .i64 t135_Minor), (Value.int .i64 t135_Patch)]), (Value.agg #[(Value.int .i64 t139_Major), (Value.int .i64 t139_Minor), (Value.int .i64 t139_Patch)])] vw50 fun v73 vw72 => ∃ (t140 : Int), v73 = (Value.int .i64 t140) ∧ q t140 vw72) (fun q => q 0 vw50)))))) (fun q => callS Tryz.prog 32 [(Sl.v t67), (Value.agg #[(Value.int .i64 t71_Major), (Value.int .i64 t71_Minor), (Value.int .i64 t71_Patch)])] vw21 fun v28 vw27 => ∃ (t72 : Bool), v28 = (Value.bool t72) ∧ q t72 vw27) (fun q => q false vw21)) fun vJ77 => bnd vw18.drew fun (vw79 : World) => ∃ (t55 : ByteArray), (ldc vw79 a [(Value.string t55)]) ∧ ∃ (ad81 : Addr), (t42.a = some ad81 ∧ (0 : Int) ≤ i17 ∧ i17 < (t42.len : Int)) ∧ ∃ (t59_Major : Int) (t59_Minor : Int) (t59_Patch : Int), (ldc vw79 (ad81.add (i17.toNat * 3)) [(Value.int .i64 t59_Major), (Value.int .i64 t59_Minor), (Value.int .i64 t59_Patch)]) ∧ ((callS Tryz.prog 22 [(Value.pointer t16), (Value.string t55), (Value.agg #[(Value.int .i64 t59_Major), (Value.int .i64 t59_Minor), (Value.int .i64 t59_Patch)])] vw79 fun v85 vw84 => ∃ (t60_Name : ByteArray) (t60_Version_Major : Int) (t60_Version_Minor : Int) (t60_Version_Patch : Int) (t60_Deps : Sl) (t60_Peers : Sl) (t60_Optional : Sl) (t60b : Bool), v85 = (Value.tuple #[(Value.agg #[(Value.string t60_Name), (Value.int .i64 t60_Version_Major), (Value.int .i64 t60_Version_Minor), (Value.int .i64 t60_Version_Patch), (Sl.v t60_Deps), (Sl.v t60_Peers), (Sl.v t60_Optional)]), (Value.bool t60b)]) ∧ newS vw84 [(Value.string (ByteArray.mk #[])), (Value.int .i64 0), (Value.int .i64 0), (Value.int .i64 0), (Sl.v Sl.nil), (Sl.v Sl.nil), (Sl.v Sl.nil)] 48 fun a87 vw88 => stw vw88 a87 [(Value.string t60_Name), (Value.int .i64 t60_Version_Major), (Value.int .i64 t60_Version_Minor), (Value.int .i64 t60_Version_Patch), (Sl.v t60_Deps), (Sl.v t60_Peers), (Sl.v t60_Optional)] fun vw89 => vJ77 t60b vw89) ∧ (newS vw79 [(Value.string (ByteArray.mk #[])), (Value.int .i64 0), (Value.int .i64 0), (Value.int .i64 0), (Sl.v Sl.nil), (Sl.v Sl.nil), (Sl.v Sl.nil)] 48 fun a90 vw91 => callS Tryz.prog 22 [(Value.pointer t16), (Value.string t55), (Value.agg #[(Value.int .i64 t59_Major), (Value.int .i64 t59_Minor), (Value.int .i64 t59_Patch)])] vw91 fun v101 vw92 => ∃ (t60_Name93 : ByteArray) (t60_Version_Major94 : Int) (t60_Version_Minor95 : Int) (t60_Version_Patch96 : Int) (t60_Deps97 : Sl) (t60_Peers98 : Sl) (t60_Optional99 : Sl) (t60b100 : Bool), v101 = (Value.tuple #[(Value.agg #[(Value.string t60_Name93), (Value.int .i64 t60_Version_Major94), (Value.int .i64 t60_Version_Minor95), (Value.int .i64 t60_Version_Patch96), (Sl.v t60_Deps97), (Sl.v t60_Peers98), (Sl.v t60_Optional99)]), (Value.bool t60b100)]) ∧ stw vw92 a90 [(Value.string t60_Name93), (Value.int .i64 t60_Version_Major94), (Value.int .i64 t60_Version_Minor95), (Value.int .i64 t60_Version_Patch96), (Sl.v t60_Deps97), (Sl.v t60_Peers98), (Sl.v t60_Optional99)] fun vw103 => vJ77 t60b100 vw103))) ∧ (¬ (i17 < (t42.len : Int)) → ∃ (t147 : ByteArray), (ldc vw18 a [(Value.string t147)]) ∧ callS Tryz.prog 26 [(Value.pointer t16), (Value.string t147)] vw18 fun v106 vw105 => ∃ (t148 : Sl), v106 = (Sl.v t148) ∧ loop2 0 0 vw105 fun n i108 vw109 nxt110 => ((i108 < (t148.len : Int) → join (fun (n111 : Int) (vw112 : World) => nxt110 n111 (wrapI (i108 + 1)) vw112) fun vJ113 => bnd vw109.drew fun (vw115 : World) => ∃ (t156 : Sl), (ldc vw115 (a.add 4) [(Sl.v t156)]) ∧ ∃ (ad117 : Addr), (t148.a = some ad117 ∧ (0 : Int) ≤ i108 ∧ i108 < (t148.len : Int)) ∧ ∃ (t160_Major : Int) (t160_Minor : Int) (t160_Patch : Int), (ldc vw115 (ad117.add (i108.toNat * 3)) [(Value.int .i64 t160_Major), (Value.int .i64 t160_Minor), (Value.int .i64 t160_Patch)]) ∧ callS Tryz.prog 32 [(Sl.v t156), (Value.agg #[(Value.int .i64 t160_Major), (Value.int .i64 t160_Minor), (Value.int .i64 t160_Patch)])] vw115 fun v121 vw120 => ∃ (t161 : Bool), v121 = (Value.bool t161) ∧ ((t161 = true → vJ113 (wrapI (n + 1)) vw120) ∧ (t161 = false → vJ113 n vw120))) ∧ (¬ (i108 < (t148.len : Int)) → R (n == (t42.len : Int)) vw109))))))))) (fun q => callS Tryz.prog 17 [] vw1 fun v3 vw2 => ∃ (t20 : Bool), v3 = (Value.bool t20) ∧ q t20 vw2) (fun q => q false vw1)
set_option maxHeartbeats 8000000 in
theorem halyardlaw08_CatalogTries.sound (l : Sl) (x_Name : ByteArray) (x_Version_Major : Int) (x_Version_Minor : Int) (x_Version_Patch : Int) (x_Range : Sl) (x_Pins : Sl) (w : World) (R : Bool → World → Prop) (h : halyardlaw08_CatalogTries l x_Name x_Version_Major x_Version_Minor x_Version_Patch x_Range x_Pins w R) : callS Tryz.prog 5 [(Sl.v l), (Value.agg #[(Value.string x_Name), (Value.int .i64 x_Version_Major), (Value.int .i64 x_Version_Minor), (Value.int .i64 x_Version_Patch), (Sl.v x_Range), (Sl.v x_Pins)])] w (fun v w' => ∃ (r0 : Bool), v = (Value.bool r0) ∧ R r0 w') := by
  unfold halyardlaw08_CatalogTries at h
  refine calls_of_vc 168 rfl Tryz.func5 rfl (by kernel_rfl) (by simp) ?_
  refine Vc.seq ?_
  refine Vc.region ?_
  refine vcL_eff rfl (opVC_new rfl (fun a => Value.pointer (some a)) (by kernel_rfl) (newS.mono h fun a vw hx h => ?_)) 
  refine vcL_pure rfl rfl (Value.bool false) (fun w => by kernel_rfl) ?_
  refine vcL_nil ?_
  refine Vc.seq ?_
  refine Vc.region ?_
  refine vcL_eff rfl (opVC_call rfl (by kernel_rfl) (callS.mono h fun v vw1 h => ?_)) 
  obtain ⟨t16, rfl, h⟩ := h
  refine vcL_pure rfl rfl (Value.pointer t16) (fun w => by kernel_rfl) ?_
  refine vcL_nil ?_
  refine Vc.seq ?_
  refine Vc.seq ?_
  refine Vc.region ?_
  refine vcL_pure rfl rfl (Value.pointer t16) (fun w => by kernel_rfl) ?_
  refine vcL_pure rfl rfl (Value.bool (Option.isNone t16)) (fun w => by cases t16 <;> kernel_rfl) ?_
  obtain ⟨b, hb⟩ : ∃ y, y = (Option.isNone t16) := ⟨_, rfl⟩
  have h := h b hb
  refine vcL_pure rfl rfl (Value.bool b) (fun w => by rw [hb]; kernel_rfl) ?_
  obtain ⟨vJ, hJ, h⟩ := gCall_elim h
  refine vcL_effJ (σ := Bool) (!b) (wanted_g (d := 19) rfl (by kernel_rfl) b (by kernel_rfl) (!b) (eqF b)) rfl (fun s w => vJ s w) (fun s => (Value.bool s)) ?_ (fun hg => opVC_call rfl (by simp only [Bool.and_eq_true, Bool.not_eq_true'] at hg; obtain rfl := hg; kernel_rfl) (callS.mono (h.1 hg) fun v3 vw2 hq => ?_)) (fun hg => ⟨false, h.2 hg⟩)
  · intro t20 vw2 h
    subst hJ
    refine vcL_guardP (!b) (wanted_g (d := 19) rfl (by kernel_rfl) b (by kernel_rfl) (!b) (eqF b)) rfl (Value.bool (!t20)) (fun hg w => by simp only [Bool.and_eq_true, Bool.not_eq_true'] at hg; obtain rfl := hg; kernel_rfl) ?_
    refine vcL_pure rfl rfl (Value.bool (b || (!t20))) (fun w => by cases b <;> kernel_rfl) ?_
    refine vcL_nil ?_
    refine Vc.cond (b || (!t20)) (by kernel_rfl) (fun hb => ?_) (fun hb => ?_)
    · have h := h.1 (hb)
      refine Vc.seq ?_
      refine Vc.region ?_
      refine vcL_pure rfl rfl (Value.bool false) (fun w => by kernel_rfl) ?_
      refine vcL_nil ?_
      refine Vc.ret ?_
      refine outs_ret ?_
      refine done_mk (Value.bool false) (res1 (resC_tmp (by kernel_rfl))) ?_
      exact ⟨false, rfl, h⟩
    · have h := h.2 (hb)
      refine Vc.skip ?_
      refine Vc.seq ?_
      refine Vc.seq ?_
      refine Vc.region ?_
      refine vcL_pure rfl rfl (Value.int .i64 0) (fun w => by kernel_rfl) ?_
      refine vcL_nil ?_
      refine Vc.block ?_
      obtain ⟨vI129, mu130, h, hr131⟩ := h
      refine Vc.loopJ (σ := Int) [6] [23, 24, 25, 26, 27, 28, 29, 30, 31, 32, 33, 34] (fun s => [(6, (Value.int .i64 s))]) (fun s w => vI129 s w) (fun s w => mu130 s w) 0 h (fun _ => rfl) (by kernel_rfl) ?_
      intro i vw5 j h
      have h := hr131 i vw5 h
      refine Vc.seq ?_
      refine Vc.seq ?_
      refine Vc.region ?_
      refine vcL_purs 4 [(26, (Value.bool (decide (i < (l.len : Int))))), (25, (Value.int .i64 (l.len : Int))), (24, (Sl.v l)), (23, (Value.int .i64 i))] (by kernel_rfl) ?_
      refine vcL_nil ?_
      refine Vc.cond (decide (i < (l.len : Int))) (by kernel_rfl) (fun hb => ?_) (fun hb => ?_)
      · have h := h.1 (of_decide_eq_true hb)
        refine Vc.skip ?_
        refine Vc.seq ?_
        refine Vc.block ?_
        refine Vc.region ?_
        refine vcL_purs 3 [(31, (Value.int .i64 i)), (30, (Sl.v l)), (29, (Value.pointer t16))] (by kernel_rfl) ?_
        obtain ⟨ad, hi, h⟩ := h
        refine vcL_pure rfl rfl (Value.pointer (some (ad.add (i.toNat * 7)))) (fun w => by exact exec_indexAt (s := l) (el := 48) rfl (by kernel_rfl) (by kernel_rfl) (by kernel_rfl) (fun w => by kernel_rfl) (hi).1 (hi).2.1 (hi).2.2 w) ?_
        obtain ⟨t33_Name, t33_Version_Major, t33_Version_Minor, t33_Version_Patch, t33_Deps, t33_Peers, t33_Optional, hc, h⟩ := h
        refine vcL_val rfl rfl (Value.agg #[(Value.string t33_Name), (Value.int .i64 t33_Version_Major), (Value.int .i64 t33_Version_Minor), (Value.int .i64 t33_Version_Patch), (Sl.v t33_Deps), (Sl.v t33_Peers), (Sl.v t33_Optional)]) (exec_load rfl (by kernel_rfl) (run_loadN (fun w => by kernel_rfl) (fun w => by kernel_rfl) ((hc)))) ?_
        refine vcL_eff rfl (opVC_call rfl (by kernel_rfl) (callS.mono h fun v7 vw6 h => ?_)) 
        obtain ⟨t34, rfl, h⟩ := h
        refine vcL_nil ?_
        refine Vc.region ?_
        refine vcL_purs 3 [(6, (Value.int .i64 (wrapI (i + 1)))), (28, (Value.int .i64 (wrapI (i + 1)))), (27, (Value.int .i64 i))] (by kernel_rfl) ?_
        refine vcL_nil ?_
        exact ⟨(wrapI (i + 1)), 26, ⟨rfl, by kernel_rfl, by kernel_rfl, by kernel_rfl⟩, h⟩
      · have h := h.2 (of_decide_eq_false hb)
        refine Vc.exit ?_
        refine outOf_hit ?_
        refine Vc.seq ?_
        refine Vc.region ?_
        refine vcL_purs 2 [(36, (Value.pointer (some a))), (35, (Value.pointer t16))] (by kernel_rfl) ?_
        obtain ⟨t37, hc9, h⟩ := h
        refine vcL_val rfl rfl (Value.string t37) (exec_load rfl (by kernel_rfl) (run_load1 (fun w => by kernel_rfl) ((hc9)))) ?_
        refine vcL_pure rfl rfl (Value.pointer (some (a.add 4))) (fun w => by kernel_rfl) ?_
        obtain ⟨t39, hc10, h⟩ := h
        refine vcL_val rfl rfl (Sl.v t39) (exec_load rfl (by kernel_rfl) (run_load1 (fun w => by kernel_rfl) ((hc10)))) ?_
        refine vcL_pure rfl rfl (Value.pointer (some (a.add 5))) (fun w => by kernel_rfl) ?_
        obtain ⟨t41, hc11, h⟩ := h
        refine vcL_val rfl rfl (Sl.v t41) (exec_load rfl (by kernel_rfl) (run_load1 (fun w => by kernel_rfl) ((hc11)))) ?_
        refine vcL_eff rfl (opVC_call rfl (by kernel_rfl) (callS.mono h fun v13 vw12 h => ?_)) 
        obtain ⟨t42, rfl, h⟩ := h
        refine vcL_pure rfl rfl (Sl.v t42) (fun w => by kernel_rfl) ?_
        refine vcL_nil ?_
        refine Vc.seq ?_
        refine Vc.region ?_
        refine vcL_purs 2 [(44, (Value.int .i64 (t42.len : Int))), (43, (Sl.v t42))] (by kernel_rfl) ?_
        refine vcL_eff rfl (opVC_sem rfl (c := Instr.makeSlice 66 (Value.int .i64 (t42.len : Int)) (Value.int .i64 (t42.len : Int))) (by kernel_rfl) (semS.mono h fun v16 vw15 h => ?_)) 
        obtain ⟨t45, rfl, h⟩ := h
        refine vcL_pure rfl rfl (Sl.v t45) (fun w => by kernel_rfl) ?_
        refine vcL_nil ?_
        refine Vc.seq ?_
        refine Vc.seq ?_
        refine Vc.region ?_
        refine vcL_pure rfl rfl (Value.int .i64 0) (fun w => by kernel_rfl) ?_
        refine vcL_nil ?_
        refine Vc.block ?_
        obtain ⟨vI126, mu127, h, hr128⟩ := h
        refine Vc.loopJ (σ := Int) [9] [4, 10, 11, 12, 46, 47, 48, 49, 50, 51, 52, 53, 54, 55, 56, 57, 58, 59, 60, 61, 62, 63, 64, 65, 66, 67, 68, 69, 70, 71, 72, 73, 74, 75, 76, 77, 78, 79, 80, 81, 82, 83, 84, 85, 86, 87, 88, 89, 90, 91, 92, 93, 94, 95, 96, 97, 98, 99, 100, 101, 102, 103, 104, 105, 106, 107, 108, 109, 110, 111, 112, 113, 114, 115, 116, 117, 118, 119, 120, 121, 122, 123, 124, 125, 126, 127, 128, 129, 130, 131, 132, 133, 134, 135, 136, 137, 138, 139, 140, 141, 142, 143, 144] (fun s => [(9, (Value.int .i64 s))]) (fun s w => vI126 s w) (fun s w => mu127 s w) 0 h (fun _ => rfl) (by kernel_rfl) ?_
        intro i17 vw18 j h
        have h := hr128 i17 vw18 h
        refine Vc.seq ?_
        refine Vc.seq ?_
        refine Vc.region ?_
        refine vcL_purs 4 [(49, (Value.bool (decide (i17 < (t42.len : Int))))), (48, (Value.int .i64 (t42.len : Int))), (47, (Sl.v t42)), (46, (Value.int .i64 i17))] (by kernel_rfl) ?_
        refine vcL_nil ?_
        refine Vc.cond (decide (i17 < (t42.len : Int))) (by kernel_rfl) (fun hb => ?_) (fun hb => ?_)
        · have h := h.1 (of_decide_eq_true hb)
          refine Vc.skip ?_
          refine Vc.seq ?_
          refine Vc.block ?_
          obtain ⟨vJ77, hJ78, h⟩ := join_elim h
          refine Vc.seqJ (σ := Bool) [11] [10, 52, 53, 54, 55, 56, 57, 58, 59, 60, 61, 62] (fun s => [(11, (Value.bool s))]) (fun s w => vJ77 s w) (fun _ => rfl) ?_ ?_
          · obtain ⟨vw79, hvw79⟩ : ∃ y, y = vw18.drew := ⟨_, rfl⟩
            have h := h vw79 hvw79
            refine Vc.draw (by kernel_rfl) (fun i => !(memN [7, 12] i)) (.pur 0 (.pur 1 (.val 2 (.pur 3 (.pur 4 (.pur 5 (.val 6 (.eff 7 (.pur 8 (.pur 9 (.pur 10 (.eff 11 (.eff 12 (.pur 13 .fin) .stop) .stop)))) (.eff 11 (.eff 7 (.pur 8 (.pur 9 (.pur 10 (.eff 12 (.pur 13 .fin) .stop)))) .stop) .stop))))))))) (by kernel_rfl) ?_
            rw [← hvw79]
            clear hvw79
            refine vcS_pure rfl rfl rfl (Value.pointer t16) (fun w => by kernel_rfl) ?_
            refine vcS_pure rfl rfl rfl (Value.pointer (some a)) (fun w => by kernel_rfl) ?_
            obtain ⟨t55, hc80, h⟩ := h
            refine vcS_val rfl rfl rfl (Value.string t55) (fun w' hx => exec_load rfl (by kernel_rfl) (run_load1 (fun w => by kernel_rfl) ((hc80).ext hx))) ?_
            refine vcS_pure rfl rfl rfl (Sl.v t42) (fun w => by kernel_rfl) ?_
            refine vcS_pure rfl rfl rfl (Value.int .i64 i17) (fun w => by kernel_rfl) ?_
            obtain ⟨ad81, hi82, h⟩ := h
            refine vcS_pure rfl rfl rfl (Value.pointer (some (ad81.add (i17.toNat * 3)))) (fun w => by exact exec_indexAt (s := t42) (el := 30) rfl (by kernel_rfl) (by kernel_rfl) (by kernel_rfl) (fun w => by kernel_rfl) (hi82).1 (hi82).2.1 (hi82).2.2 w) ?_
            obtain ⟨t59_Major, t59_Minor, t59_Patch, hc83, h⟩ := h
            refine vcS_val rfl rfl rfl (Value.agg #[(Value.int .i64 t59_Major), (Value.int .i64 t59_Minor), (Value.int .i64 t59_Patch)]) (fun w' hx => exec_load rfl (by kernel_rfl) (run_loadN (fun w => by kernel_rfl) (fun w => by kernel_rfl) ((hc83).ext hx))) ?_
            have h0 := h
            have h := h.1
            refine vcS_eff rfl rfl (opVC_call rfl (by kernel_rfl) (callS.mono h fun v85 vw84 h => ?_)) ?_
            · obtain ⟨t60_Name, t60_Version_Major, t60_Version_Minor, t60_Version_Patch, t60_Deps, t60_Peers, t60_Optional, t60b, rfl, h⟩ := h
              refine ⟨fun hb => absurd hb (by decide), ?_⟩
              refine vcS_pure rfl rfl rfl (Value.tuple #[(Value.agg #[(Value.string t60_Name), (Value.int .i64 t60_Version_Major), (Value.int .i64 t60_Version_Minor), (Value.int .i64 t60_Version_Patch), (Sl.v t60_Deps), (Sl.v t60_Peers), (Sl.v t60_Optional)]), (Value.bool t60b)]) (fun w => by kernel_rfl) ?_
              refine vcS_pure rfl rfl rfl (Value.agg #[(Value.string t60_Name), (Value.int .i64 t60_Version_Major), (Value.int .i64 t60_Version_Minor), (Value.int .i64 t60_Version_Patch), (Sl.v t60_Deps), (Sl.v t60_Peers), (Sl.v t60_Optional)]) (fun w => by kernel_rfl) ?_
              refine vcS_pure rfl rfl rfl (Value.bool t60b) (fun w => by kernel_rfl) ?_
              refine vcS_eff rfl rfl (opVC_new rfl (fun a => Value.pointer (some a)) (by kernel_rfl) (newS.mono h fun a87 vw88 hx h => ?_)) vcS_stop
              refine ⟨fun _ => hx, ?_⟩
              refine vcS_eff rfl rfl (opVC_store rfl rfl (a := a87) (by kernel_rfl) (v := (Value.agg #[(Value.string t60_Name), (Value.int .i64 t60_Version_Major), (Value.int .i64 t60_Version_Minor), (Value.int .i64 t60_Version_Patch), (Sl.v t60_Deps), (Sl.v t60_Peers), (Sl.v t60_Optional)])) (by kernel_rfl) [(Value.string t60_Name), (Value.int .i64 t60_Version_Major), (Value.int .i64 t60_Version_Minor), (Value.int .i64 t60_Version_Patch), (Sl.v t60_Deps), (Sl.v t60_Peers), (Sl.v t60_Optional)] (by kernel_rfl) (fun w => by kernel_rfl) (by kernel_rfl) (stw.mono h fun vw89 h => ?_)) vcS_stop
              refine ⟨fun hb => absurd hb (by decide), ?_⟩
              refine vcS_pure rfl rfl rfl (Value.bool t60b) (fun w => by kernel_rfl) ?_
              refine vcS_fin ?_
              exact ⟨t60b, 13, ⟨rfl, by kernel_rfl, by kernel_rfl, by kernel_rfl⟩, h⟩
            have h := h0
            have h0 := h
            have h := h.2
            refine vcS_eff rfl rfl (opVC_new rfl (fun a => Value.pointer (some a)) (by kernel_rfl) (newS.mono h fun a90 vw91 hx h => ?_)) ?_
            · refine ⟨fun _ => hx, ?_⟩
              refine vcS_eff rfl rfl (opVC_call rfl (by kernel_rfl) (callS.mono h fun v101 vw92 h => ?_)) vcS_stop
              obtain ⟨t60_Name93, t60_Version_Major94, t60_Version_Minor95, t60_Version_Patch96, t60_Deps97, t60_Peers98, t60_Optional99, t60b100, rfl, h⟩ := h
              refine ⟨fun hb => absurd hb (by decide), ?_⟩
              refine vcS_pure rfl rfl rfl (Value.tuple #[(Value.agg #[(Value.string t60_Name93), (Value.int .i64 t60_Version_Major94), (Value.int .i64 t60_Version_Minor95), (Value.int .i64 t60_Version_Patch96), (Sl.v t60_Deps97), (Sl.v t60_Peers98), (Sl.v t60_Optional99)]), (Value.bool t60b100)]) (fun w => by kernel_rfl) ?_
              refine vcS_pure rfl rfl rfl (Value.agg #[(Value.string t60_Name93), (Value.int .i64 t60_Version_Major94), (Value.int .i64 t60_Version_Minor95), (Value.int .i64 t60_Version_Patch96), (Sl.v t60_Deps97), (Sl.v t60_Peers98), (Sl.v t60_Optional99)]) (fun w => by kernel_rfl) ?_
              refine vcS_pure rfl rfl rfl (Value.bool t60b100) (fun w => by kernel_rfl) ?_
              refine vcS_eff rfl rfl (opVC_store rfl rfl (a := a90) (by kernel_rfl) (v := (Value.agg #[(Value.string t60_Name93), (Value.int .i64 t60_Version_Major94), (Value.int .i64 t60_Version_Minor95), (Value.int .i64 t60_Version_Patch96), (Sl.v t60_Deps97), (Sl.v t60_Peers98), (Sl.v t60_Optional99)])) (by kernel_rfl) [(Value.string t60_Name93), (Value.int .i64 t60_Version_Major94), (Value.int .i64 t60_Version_Minor95), (Value.int .i64 t60_Version_Patch96), (Sl.v t60_Deps97), (Sl.v t60_Peers98), (Sl.v t60_Optional99)] (by kernel_rfl) (fun w => by kernel_rfl) (by kernel_rfl) (stw.mono h fun vw103 h => ?_)) vcS_stop
              refine ⟨fun hb => absurd hb (by decide), ?_⟩
              refine vcS_pure rfl rfl rfl (Value.bool t60b100) (fun w => by kernel_rfl) ?_
              refine vcS_fin ?_
              exact ⟨t60b100, 13, ⟨rfl, by kernel_rfl, by kernel_rfl, by kernel_rfl⟩, h⟩
            have h := h0
            exact vcS_stop
          · intro is vw20 j h
            subst hJ78
            refine Vc.seq ?_
            refine Vc.seq ?_
            obtain ⟨vw21, hvw21⟩ : ∃ y, y = vw20.drew := ⟨_, rfl⟩
            have h := h vw21 hvw21
            refine Vc.draw (by kernel_rfl) (fun i => !(memN [9] i)) (.pur 0 (.pur 1 (.pur 2 (.pur 3 (.val 4 (.pur 5 (.pur 6 (.pur 7 (.val 8 (.eff 9 (.pur 10 (.pur 11 .fin)) .stop)))))))))) (by kernel_rfl) ?_
            rw [← hvw21]
            clear hvw21
            refine vcS_pure rfl rfl rfl (Value.bool is) (fun w => by kernel_rfl) ?_
            refine vcS_pure rfl rfl rfl (Value.bool (!is)) (fun w => by kernel_rfl) ?_
            obtain ⟨b22, hb22⟩ : ∃ y, y = (!is) := ⟨_, rfl⟩
            have h := h b22 hb22
            refine vcS_pure rfl rfl rfl (Value.bool b22) (fun w => by rw [hb22]; kernel_rfl) ?_
            refine vcS_guard rfl (!b22) (wanted_g (d := 65) rfl (by kernel_rfl) b22 (by kernel_rfl) (!b22) (eqF b22)) rfl (Value.pointer (some (a.add 4))) (fun hg w => by simp only [Bool.and_eq_true, Bool.not_eq_true'] at hg; obtain rfl := hg; kernel_rfl) ?_
            obtain ⟨t67, hc23, h⟩ := h
            refine vcS_valG rfl (!b22) (wanted_g (d := 65) rfl (by kernel_rfl) b22 (by kernel_rfl) (!b22) (eqF b22)) rfl (Sl.v t67) (fun hg w' hx => by simp only [Bool.and_eq_true, Bool.not_eq_true'] at hg; obtain rfl := hg; exact exec_load rfl (by kernel_rfl) (run_load1 (fun w => by kernel_rfl) ((hc23 rfl).ext hx))) ?_
            refine vcS_guard rfl (!b22) (wanted_g (d := 65) rfl (by kernel_rfl) b22 (by kernel_rfl) (!b22) (eqF b22)) rfl (Sl.v t42) (fun hg w => by simp only [Bool.and_eq_true, Bool.not_eq_true'] at hg; obtain rfl := hg; kernel_rfl) ?_
            refine vcS_guard rfl (!b22) (wanted_g (d := 65) rfl (by kernel_rfl) b22 (by kernel_rfl) (!b22) (eqF b22)) rfl (Value.int .i64 i17) (fun hg w => by simp only [Bool.and_eq_true, Bool.not_eq_true'] at hg; obtain rfl := hg; kernel_rfl) ?_
            obtain ⟨ad24, hi25, h⟩ := h
            refine vcS_guard rfl (!b22) (wanted_g (d := 65) rfl (by kernel_rfl) b22 (by kernel_rfl) (!b22) (eqF b22)) rfl (Value.pointer (some (ad24.add (i17.toNat * 3)))) (fun hg w => by simp only [Bool.and_eq_true, Bool.not_eq_true'] at hg; obtain rfl := hg; exact exec_indexAt (s := t42) (el := 30) rfl (by kernel_rfl) (by kernel_rfl) (by kernel_rfl) (fun w => by kernel_rfl) (hi25 rfl).1 (hi25 rfl).2.1 (hi25 rfl).2.2 w) ?_
            obtain ⟨t71_Major, t71_Minor, t71_Patch, hc26, h⟩ := h
            refine vcS_valG rfl (!b22) (wanted_g (d := 65) rfl (by kernel_rfl) b22 (by kernel_rfl) (!b22) (eqF b22)) rfl (Value.agg #[(Value.int .i64 t71_Major), (Value.int .i64 t71_Minor), (Value.int .i64 t71_Patch)]) (fun hg w' hx => by simp only [Bool.and_eq_true, Bool.not_eq_true'] at hg; obtain rfl := hg; exact exec_load rfl (by kernel_rfl) (run_loadN (fun w => by kernel_rfl) (fun w => by kernel_rfl) ((hc26 rfl).ext hx))) ?_
            obtain ⟨vJ30, hJ31, h⟩ := gCall_elim h
            refine vcS_effJ (σ := Bool) rfl (!b22) (wanted_g (d := 65) rfl (by kernel_rfl) b22 (by kernel_rfl) (!b22) (eqF b22)) rfl (fun s w => vJ30 s w) (fun s => (Value.bool s)) ?_ (fun hg => opVC_call rfl (by simp only [Bool.and_eq_true, Bool.not_eq_true'] at hg; obtain rfl := hg; kernel_rfl) (callS.mono (h.1 hg) fun v28 vw27 hq => ?_)) (fun hg => ⟨false, h.2 hg⟩) vcS_stop
            · intro t72 vw27 h
              subst hJ31
              refine vcS_guard rfl (!b22) (wanted_g (d := 65) rfl (by kernel_rfl) b22 (by kernel_rfl) (!b22) (eqF b22)) rfl (Value.bool (!t72)) (fun hg w => by simp only [Bool.and_eq_true, Bool.not_eq_true'] at hg; obtain rfl := hg; kernel_rfl) ?_
              refine vcS_pure rfl rfl rfl (Value.bool (b22 || (!t72))) (fun w => by cases b22 <;> kernel_rfl) ?_
              refine vcS_fin ?_
              refine Vc.cond (b22 || (!t72)) (by kernel_rfl) (fun hb => ?_) (fun hb => ?_)
              · have h := h.1 (hb)
                refine Vc.seq ?_
                refine Vc.region ?_
                refine vcL_pure rfl rfl (Value.bool false) (fun w => by kernel_rfl) ?_
                refine vcL_nil ?_
                refine Vc.ret ?_
                refine outOf_ret ?_
                refine outOf_ret ?_
                refine outs_ret ?_
                refine done_mk (Value.bool false) (res1 (resC_tmp (by kernel_rfl))) ?_
                exact ⟨false, rfl, h⟩
              · have h := h.2 (hb)
                refine Vc.skip ?_
                refine Vc.seq ?_
                refine Vc.seq ?_
                refine Vc.region ?_
                refine vcL_pure rfl rfl (Value.int .i64 0) (fun w => by kernel_rfl) ?_
                refine vcL_nil ?_
                refine Vc.block ?_
                obtain ⟨vI, mu, h, hr⟩ := h
                refine Vc.loopJ (σ := Int) [12] [75, 76, 77, 78, 79, 80, 81, 82, 83, 84, 85, 86, 87, 88, 89, 90, 91, 92, 93, 94, 95, 96, 97, 98, 99, 100, 101, 102, 103] (fun s => [(12, (Value.int .i64 s))]) (fun s w => vI s w) (fun s w => mu s w) 0 h (fun _ => rfl) (by kernel_rfl) ?_
                intro vk vw32 j h
                have h := hr vk vw32 h
                refine Vc.seq ?_
                refine Vc.seq ?_
                refine Vc.region ?_
                refine vcL_purs 2 [(76, (Value.pointer (some (a.add 5)))), (75, (Value.int .i64 vk))] (by kernel_rfl) ?_
                obtain ⟨t77, hc34, h⟩ := h
                refine vcL_val rfl rfl (Sl.v t77) (exec_load rfl (by kernel_rfl) (run_load1 (fun w => by kernel_rfl) ((hc34)))) ?_
                refine vcL_purs 2 [(79, (Value.bool (decide (vk < (t77.len : Int))))), (78, (Value.int .i64 (t77.len : Int)))] (by kernel_rfl) ?_
                refine vcL_nil ?_
                refine Vc.cond (decide (vk < (t77.len : Int))) (by kernel_rfl) (fun hb => ?_) (fun hb => ?_)
                · have h := h.1 (of_decide_eq_true hb)
                  refine Vc.skip ?_
                  refine Vc.seq ?_
                  refine Vc.block ?_
                  obtain ⟨vw35, hvw35⟩ : ∃ y, y = vw32.drew := ⟨_, rfl⟩
                  have h := h vw35 hvw35
                  refine Vc.draw (by kernel_rfl) (fun i => !(memN [22] i)) (.pur 0 (.pur 1 (.pur 2 (.pur 3 (.pur 4 (.val 5 (.pur 6 (.pur 7 (.val 8 (.pur 9 (.pur 10 (.val 11 (.pur 12 (.val 13 (.pur 14 (.pur 15 (.pur 16 (.val 17 (.pur 18 (.pur 19 (.pur 20 (.pur 21 (.eff 22 .fin .stop))))))))))))))))))))))) (by kernel_rfl) ?_
                  rw [← hvw35]
                  clear hvw35
                  refine vcS_pure rfl rfl rfl (Sl.v t45) (fun w => by kernel_rfl) ?_
                  refine vcS_pure rfl rfl rfl (Value.int .i64 i17) (fun w => by kernel_rfl) ?_
                  refine vcS_pure rfl rfl rfl (Sl.v t45) (fun w => by kernel_rfl) ?_
                  refine vcS_pure rfl rfl rfl (Value.int .i64 i17) (fun w => by kernel_rfl) ?_
                  obtain ⟨ad36, hi37, h⟩ := h
                  refine vcS_pure rfl rfl rfl (Value.pointer (some (ad36.add (i17.toNat * 1)))) (fun w => by exact exec_indexAt (s := t45) (el := 4) rfl (by kernel_rfl) (by kernel_rfl) (by kernel_rfl) (fun w => by kernel_rfl) (hi37).1 (hi37).2.1 (hi37).2.2 w) ?_
                  obtain ⟨t87, hc38, h⟩ := h
                  refine vcS_val rfl rfl rfl (Value.bool t87) (fun w' hx => exec_load rfl (by kernel_rfl) (run_load1 (fun w => by kernel_rfl) ((hc38).ext hx))) ?_
                  refine vcS_pure rfl rfl rfl (Value.bool t87) (fun w => by kernel_rfl) ?_
                  refine vcS_guard rfl (!t87) (wanted_g (d := 88) rfl (by kernel_rfl) t87 (by kernel_rfl) (!t87) (eqF t87)) rfl (Value.pointer (some (a.add 5))) (fun hg w => by simp only [Bool.and_eq_true, Bool.not_eq_true'] at hg; obtain rfl := hg; kernel_rfl) ?_
                  obtain ⟨t90, hc39, h⟩ := h
                  refine vcS_valG rfl (!t87) (wanted_g (d := 88) rfl (by kernel_rfl) t87 (by kernel_rfl) (!t87) (eqF t87)) rfl (Sl.v t90) (fun hg w' hx => by simp only [Bool.and_eq_true, Bool.not_eq_true'] at hg; obtain rfl := hg; exact exec_load rfl (by kernel_rfl) (run_load1 (fun w => by kernel_rfl) ((hc39 rfl).ext hx))) ?_
                  refine vcS_guard rfl (!t87) (wanted_g (d := 88) rfl (by kernel_rfl) t87 (by kernel_rfl) (!t87) (eqF t87)) rfl (Value.int .i64 vk) (fun hg w => by simp only [Bool.and_eq_true, Bool.not_eq_true'] at hg; obtain rfl := hg; kernel_rfl) ?_
                  obtain ⟨ad40, hi41, h⟩ := h
                  refine vcS_guard rfl (!t87) (wanted_g (d := 88) rfl (by kernel_rfl) t87 (by kernel_rfl) (!t87) (eqF t87)) rfl (Value.pointer (some (ad40.add (vk.toNat * 4)))) (fun hg w => by simp only [Bool.and_eq_true, Bool.not_eq_true'] at hg; obtain rfl := hg; exact exec_indexAt (s := t90) (el := 32) rfl (by kernel_rfl) (by kernel_rfl) (by kernel_rfl) (fun w => by kernel_rfl) (hi41 rfl).1 (hi41 rfl).2.1 (hi41 rfl).2.2 w) ?_
                  obtain ⟨t93_Name, t93_Version_Major, t93_Version_Minor, t93_Version_Patch, hc42, h⟩ := h
                  refine vcS_valG rfl (!t87) (wanted_g (d := 88) rfl (by kernel_rfl) t87 (by kernel_rfl) (!t87) (eqF t87)) rfl (Value.agg #[(Value.string t93_Name), (Value.int .i64 t93_Version_Major), (Value.int .i64 t93_Version_Minor), (Value.int .i64 t93_Version_Patch)]) (fun hg w' hx => by simp only [Bool.and_eq_true, Bool.not_eq_true'] at hg; obtain rfl := hg; exact exec_load rfl (by kernel_rfl) (run_loadN (fun w => by kernel_rfl) (fun w => by kernel_rfl) ((hc42 rfl).ext hx))) ?_
                  refine vcS_guard rfl (!t87) (wanted_g (d := 88) rfl (by kernel_rfl) t87 (by kernel_rfl) (!t87) (eqF t87)) rfl (Value.pointer (some a)) (fun hg w => by simp only [Bool.and_eq_true, Bool.not_eq_true'] at hg; obtain rfl := hg; kernel_rfl) ?_
                  obtain ⟨t95, hc43, h⟩ := h
                  refine vcS_valG rfl (!t87) (wanted_g (d := 88) rfl (by kernel_rfl) t87 (by kernel_rfl) (!t87) (eqF t87)) rfl (Value.string t95) (fun hg w' hx => by simp only [Bool.and_eq_true, Bool.not_eq_true'] at hg; obtain rfl := hg; exact exec_load rfl (by kernel_rfl) (run_load1 (fun w => by kernel_rfl) ((hc43 rfl).ext hx))) ?_
                  refine vcS_guard rfl (!t87) (wanted_g (d := 88) rfl (by kernel_rfl) t87 (by kernel_rfl) (!t87) (eqF t87)) rfl (Sl.v t42) (fun hg w => by simp only [Bool.and_eq_true, Bool.not_eq_true'] at hg; obtain rfl := hg; kernel_rfl) ?_
                  refine vcS_guard rfl (!t87) (wanted_g (d := 88) rfl (by kernel_rfl) t87 (by kernel_rfl) (!t87) (eqF t87)) rfl (Value.int .i64 i17) (fun hg w => by simp only [Bool.and_eq_true, Bool.not_eq_true'] at hg; obtain rfl := hg; kernel_rfl) ?_
                  obtain ⟨ad44, hi45, h⟩ := h
                  refine vcS_guard rfl (!t87) (wanted_g (d := 88) rfl (by kernel_rfl) t87 (by kernel_rfl) (!t87) (eqF t87)) rfl (Value.pointer (some (ad44.add (i17.toNat * 3)))) (fun hg w => by simp only [Bool.and_eq_true, Bool.not_eq_true'] at hg; obtain rfl := hg; exact exec_indexAt (s := t42) (el := 30) rfl (by kernel_rfl) (by kernel_rfl) (by kernel_rfl) (fun w => by kernel_rfl) (hi45 rfl).1 (hi45 rfl).2.1 (hi45 rfl).2.2 w) ?_
                  obtain ⟨t99_Major, t99_Minor, t99_Patch, hc46, h⟩ := h
                  refine vcS_valG rfl (!t87) (wanted_g (d := 88) rfl (by kernel_rfl) t87 (by kernel_rfl) (!t87) (eqF t87)) rfl (Value.agg #[(Value.int .i64 t99_Major), (Value.int .i64 t99_Minor), (Value.int .i64 t99_Patch)]) (fun hg w' hx => by simp only [Bool.and_eq_true, Bool.not_eq_true'] at hg; obtain rfl := hg; exact exec_load rfl (by kernel_rfl) (run_loadN (fun w => by kernel_rfl) (fun w => by kernel_rfl) ((hc46 rfl).ext hx))) ?_
                  refine vcS_guard rfl (!t87) (wanted_g (d := 88) rfl (by kernel_rfl) t87 (by kernel_rfl) (!t87) (eqF t87)) rfl (Value.agg #[(Value.string t95), (Value.int .i64 t99_Major), (Value.int .i64 t99_Minor), (Value.int .i64 t99_Patch)]) (fun hg w => by simp only [Bool.and_eq_true, Bool.not_eq_true'] at hg; obtain rfl := hg; kernel_rfl) ?_
                  refine vcS_guard rfl (!t87) (wanted_g (d := 88) rfl (by kernel_rfl) t87 (by kernel_rfl) (!t87) (eqF t87)) rfl (Value.bool ((bEq t93_Name t95) && (((t93_Version_Major == t99_Major) && ((t93_Version_Minor == t99_Minor) && ((t93_Version_Patch == t99_Patch) && true))) && true))) (fun hg w => by simp only [Bool.and_eq_true, Bool.not_eq_true'] at hg; obtain rfl := hg; exact exec_struct_eq rfl (by kernel_rfl) (by kernel_rfl) (by kernel_rfl) (eqv_32 9997 t93_Name t93_Version_Major t93_Version_Minor t93_Version_Patch t95 t99_Major t99_Minor t99_Patch w)) ?_
                  refine vcS_pure rfl rfl rfl (Value.bool (t87 || ((bEq t93_Name t95) && (((t93_Version_Major == t99_Major) && ((t93_Version_Minor == t99_Minor) && ((t93_Version_Patch == t99_Patch) && true))) && true)))) (fun w => by cases t87 <;> kernel_rfl) ?_
                  obtain ⟨ad47, hi48, h⟩ := h
                  refine vcS_pure rfl rfl rfl (Value.pointer (some (ad47.add (i17.toNat * 1)))) (fun w => by exact exec_indexAt (s := t45) (el := 4) rfl (by kernel_rfl) (by kernel_rfl) (by kernel_rfl) (fun w => by kernel_rfl) (hi48).1 (hi48).2.1 (hi48).2.2 w) ?_
                  refine vcS_eff rfl rfl (opVC_store rfl rfl (a := (ad47.add (i17.toNat * 1))) (by kernel_rfl) (v := (Value.bool (t87 || ((bEq t93_Name t95) && (((t93_Version_Major == t99_Major) && ((t93_Version_Minor == t99_Minor) && ((t93_Version_Patch == t99_Patch) && true))) && true))))) (by kernel_rfl) [(Value.bool (t87 || ((bEq t93_Name t95) && (((t93_Version_Major == t99_Major) && ((t93_Version_Minor == t99_Minor) && ((t93_Version_Patch == t99_Patch) && true))) && true))))] (by kernel_rfl) (fun w => by kernel_rfl) (by kernel_rfl) (stw.mono h fun vw49 h => ?_)) vcS_stop
                  refine ⟨fun hb => absurd hb (by decide), ?_⟩
                  refine vcS_fin ?_
                  refine Vc.region ?_
                  refine vcL_purs 3 [(12, (Value.int .i64 (wrapI (vk + 1)))), (81, (Value.int .i64 (wrapI (vk + 1)))), (80, (Value.int .i64 vk))] (by kernel_rfl) ?_
                  refine vcL_nil ?_
                  exact ⟨(wrapI (vk + 1)), 60, ⟨rfl, by kernel_rfl, by kernel_rfl, by kernel_rfl⟩, h⟩
                · have h := h.2 (of_decide_eq_false hb)
                  refine Vc.exit ?_
                  refine outOf_hit ?_
                  refine Vc.seq ?_
                  obtain ⟨vw50, hvw50⟩ : ∃ y, y = vw32.drew := ⟨_, rfl⟩
                  have h := h vw50 hvw50
                  refine Vc.draw (by kernel_rfl) (fun i => !(memN [36] i)) (.pur 0 (.pur 1 (.pur 2 (.pur 3 (.pur 4 (.pur 5 (.val 6 (.pur 7 (.pur 8 (.pur 9 (.pur 10 (.pur 11 (.val 12 (.pur 13 (.pur 14 (.pur 15 (.pur 16 (.pur 17 (.pur 18 (.val 19 (.pur 20 (.pur 21 (.pur 22 (.pur 23 (.val 24 (.pur 25 (.pur 26 (.pur 27 (.pur 28 (.pur 29 (.pur 30 (.val 31 (.pur 32 (.pur 33 (.pur 34 (.val 35 (.eff 36 (.pur 37 (.pur 38 (.pur 39 (.pur 40 .fin)))) .stop))))))))))))))))))))))))))))))))))))) (by kernel_rfl) ?_
                  rw [← hvw50]
                  clear hvw50
                  refine vcS_pure rfl rfl rfl (Value.int .i64 i17) (fun w => by kernel_rfl) ?_
                  refine vcS_pure rfl rfl rfl (Value.bool (decide (0 < i17))) (fun w => by kernel_rfl) ?_
                  obtain ⟨b51, hb51⟩ : ∃ y, y = (decide (0 < i17)) := ⟨_, rfl⟩
                  have h := h b51 hb51
                  refine vcS_pure rfl rfl rfl (Value.bool b51) (fun w => by rw [hb51]; kernel_rfl) ?_
                  refine vcS_guard rfl b51 (wanted_g (d := 106) rfl (by kernel_rfl) b51 (by kernel_rfl) b51 (eqT b51)) rfl (Sl.v t45) (fun hg w => by subst hg; kernel_rfl) ?_
                  refine vcS_guard rfl b51 (wanted_g (d := 106) rfl (by kernel_rfl) b51 (by kernel_rfl) b51 (eqT b51)) rfl (Value.int .i64 i17) (fun hg w => by subst hg; kernel_rfl) ?_
                  obtain ⟨ad52, hi53, h⟩ := h
                  refine vcS_guard rfl b51 (wanted_g (d := 106) rfl (by kernel_rfl) b51 (by kernel_rfl) b51 (eqT b51)) rfl (Value.pointer (some (ad52.add (i17.toNat * 1)))) (fun hg w => by subst hg; exact exec_indexAt (s := t45) (el := 4) rfl (by kernel_rfl) (by kernel_rfl) (by kernel_rfl) (fun w => by kernel_rfl) (hi53 rfl).1 (hi53 rfl).2.1 (hi53 rfl).2.2 w) ?_
                  obtain ⟨t110, hc54, h⟩ := h
                  refine vcS_valG rfl b51 (wanted_g (d := 106) rfl (by kernel_rfl) b51 (by kernel_rfl) b51 (eqT b51)) rfl (Value.bool t110) (fun hg w' hx => by subst hg; exact exec_load rfl (by kernel_rfl) (run_load1 (fun w => by kernel_rfl) ((hc54 rfl).ext hx))) ?_
                  refine vcS_guard rfl b51 (wanted_g (d := 106) rfl (by kernel_rfl) b51 (by kernel_rfl) b51 (eqT b51)) rfl (Value.bool t110) (fun hg w => by subst hg; kernel_rfl) ?_
                  refine vcS_guard rfl (b51 && t110) (wanted_gg (d := 111) rfl (by kernel_rfl) b51 t110 (by kernel_rfl) (b51 && t110) (eqTT b51 t110)) rfl (Sl.v t45) (fun hg w => by simp only [Bool.and_eq_true, Bool.not_eq_true'] at hg; obtain ⟨rfl, rfl⟩ := hg; kernel_rfl) ?_
                  refine vcS_guard rfl (b51 && t110) (wanted_gg (d := 111) rfl (by kernel_rfl) b51 t110 (by kernel_rfl) (b51 && t110) (eqTT b51 t110)) rfl (Value.int .i64 i17) (fun hg w => by simp only [Bool.and_eq_true, Bool.not_eq_true'] at hg; obtain ⟨rfl, rfl⟩ := hg; kernel_rfl) ?_
                  refine vcS_guard rfl (b51 && t110) (wanted_gg (d := 111) rfl (by kernel_rfl) b51 t110 (by kernel_rfl) (b51 && t110) (eqTT b51 t110)) rfl (Value.int .i64 (wrapI (i17 - 1))) (fun hg w => by simp only [Bool.and_eq_true, Bool.not_eq_true'] at hg; obtain ⟨rfl, rfl⟩ := hg; kernel_rfl) ?_
                  obtain ⟨ad55, hi56, h⟩ := h
                  refine vcS_guard rfl (b51 && t110) (wanted_gg (d := 111) rfl (by kernel_rfl) b51 t110 (by kernel_rfl) (b51 && t110) (eqTT b51 t110)) rfl (Value.pointer (some (ad55.add ((wrapI (i17 - 1)).toNat * 1)))) (fun hg w => by simp only [Bool.and_eq_true, Bool.not_eq_true'] at hg; obtain ⟨rfl, rfl⟩ := hg; exact exec_indexAt (s := t45) (el := 4) rfl (by kernel_rfl) (by kernel_rfl) (by kernel_rfl) (fun w => by kernel_rfl) (hi56 rfl).1 (hi56 rfl).2.1 (hi56 rfl).2.2 w) ?_
                  obtain ⟨t116, hc57, h⟩ := h
                  refine vcS_valG rfl (b51 && t110) (wanted_gg (d := 111) rfl (by kernel_rfl) b51 t110 (by kernel_rfl) (b51 && t110) (eqTT b51 t110)) rfl (Value.bool t116) (fun hg w' hx => by simp only [Bool.and_eq_true, Bool.not_eq_true'] at hg; obtain ⟨rfl, rfl⟩ := hg; exact exec_load rfl (by kernel_rfl) (run_load1 (fun w => by kernel_rfl) ((hc57 rfl).ext hx))) ?_
                  refine vcS_guard rfl (b51 && t110) (wanted_gg (d := 111) rfl (by kernel_rfl) b51 t110 (by kernel_rfl) (b51 && t110) (eqTT b51 t110)) rfl (Value.bool (!t116)) (fun hg w => by simp only [Bool.and_eq_true, Bool.not_eq_true'] at hg; obtain ⟨rfl, rfl⟩ := hg; kernel_rfl) ?_
                  refine vcS_guard rfl b51 (wanted_g (d := 106) rfl (by kernel_rfl) b51 (by kernel_rfl) b51 (eqT b51)) rfl (Value.bool (t110 && (!t116))) (fun hg w => by subst hg; cases t110 <;> kernel_rfl) ?_
                  obtain ⟨b58, hb58⟩ : ∃ y, y = (t110 && (!t116)) := ⟨_, rfl⟩
                  have h := h b58 hb58
                  refine vcS_guard rfl b51 (wanted_g (d := 106) rfl (by kernel_rfl) b51 (by kernel_rfl) b51 (eqT b51)) rfl (Value.bool b58) (fun hg w => by subst hg; rw [hb58]; kernel_rfl) ?_
                  refine vcS_guard rfl (b51 && (!b58)) (wanted_gg (d := 119) rfl (by kernel_rfl) b51 b58 (by kernel_rfl) (b51 && (!b58)) (eqFF b51 b58)) rfl (Sl.v t45) (fun hg w => by simp only [Bool.and_eq_true, Bool.not_eq_true'] at hg; obtain ⟨rfl, rfl⟩ := hg; kernel_rfl) ?_
                  refine vcS_guard rfl (b51 && (!b58)) (wanted_gg (d := 119) rfl (by kernel_rfl) b51 b58 (by kernel_rfl) (b51 && (!b58)) (eqFF b51 b58)) rfl (Value.int .i64 i17) (fun hg w => by simp only [Bool.and_eq_true, Bool.not_eq_true'] at hg; obtain ⟨rfl, rfl⟩ := hg; kernel_rfl) ?_
                  obtain ⟨ad59, hi60, h⟩ := h
                  refine vcS_guard rfl (b51 && (!b58)) (wanted_gg (d := 119) rfl (by kernel_rfl) b51 b58 (by kernel_rfl) (b51 && (!b58)) (eqFF b51 b58)) rfl (Value.pointer (some (ad59.add (i17.toNat * 1)))) (fun hg w => by simp only [Bool.and_eq_true, Bool.not_eq_true'] at hg; obtain ⟨rfl, rfl⟩ := hg; exact exec_indexAt (s := t45) (el := 4) rfl (by kernel_rfl) (by kernel_rfl) (by kernel_rfl) (fun w => by kernel_rfl) (hi60 rfl).1 (hi60 rfl).2.1 (hi60 rfl).2.2 w) ?_
                  obtain ⟨t123, hc61, h⟩ := h
                  refine vcS_valG rfl (b51 && (!b58)) (wanted_gg (d := 119) rfl (by kernel_rfl) b51 b58 (by kernel_rfl) (b51 && (!b58)) (eqFF b51 b58)) rfl (Value.bool t123) (fun hg w' hx => by simp only [Bool.and_eq_true, Bool.not_eq_true'] at hg; obtain ⟨rfl, rfl⟩ := hg; exact exec_load rfl (by kernel_rfl) (run_load1 (fun w => by kernel_rfl) ((hc61 rfl).ext hx))) ?_
                  refine vcS_guard rfl (b51 && (!b58)) (wanted_gg (d := 119) rfl (by kernel_rfl) b51 b58 (by kernel_rfl) (b51 && (!b58)) (eqFF b51 b58)) rfl (Sl.v t45) (fun hg w => by simp only [Bool.and_eq_true, Bool.not_eq_true'] at hg; obtain ⟨rfl, rfl⟩ := hg; kernel_rfl) ?_
                  refine vcS_guard rfl (b51 && (!b58)) (wanted_gg (d := 119) rfl (by kernel_rfl) b51 b58 (by kernel_rfl) (b51 && (!b58)) (eqFF b51 b58)) rfl (Value.int .i64 i17) (fun hg w => by simp only [Bool.and_eq_true, Bool.not_eq_true'] at hg; obtain ⟨rfl, rfl⟩ := hg; kernel_rfl) ?_
                  refine vcS_guard rfl (b51 && (!b58)) (wanted_gg (d := 119) rfl (by kernel_rfl) b51 b58 (by kernel_rfl) (b51 && (!b58)) (eqFF b51 b58)) rfl (Value.int .i64 (wrapI (i17 - 1))) (fun hg w => by simp only [Bool.and_eq_true, Bool.not_eq_true'] at hg; obtain ⟨rfl, rfl⟩ := hg; kernel_rfl) ?_
                  obtain ⟨ad62, hi63, h⟩ := h
                  refine vcS_guard rfl (b51 && (!b58)) (wanted_gg (d := 119) rfl (by kernel_rfl) b51 b58 (by kernel_rfl) (b51 && (!b58)) (eqFF b51 b58)) rfl (Value.pointer (some (ad62.add ((wrapI (i17 - 1)).toNat * 1)))) (fun hg w => by simp only [Bool.and_eq_true, Bool.not_eq_true'] at hg; obtain ⟨rfl, rfl⟩ := hg; exact exec_indexAt (s := t45) (el := 4) rfl (by kernel_rfl) (by kernel_rfl) (by kernel_rfl) (fun w => by kernel_rfl) (hi63 rfl).1 (hi63 rfl).2.1 (hi63 rfl).2.2 w) ?_
                  obtain ⟨t128, hc64, h⟩ := h
                  refine vcS_valG rfl (b51 && (!b58)) (wanted_gg (d := 119) rfl (by kernel_rfl) b51 b58 (by kernel_rfl) (b51 && (!b58)) (eqFF b51 b58)) rfl (Value.bool t128) (fun hg w' hx => by simp only [Bool.and_eq_true, Bool.not_eq_true'] at hg; obtain ⟨rfl, rfl⟩ := hg; exact exec_load rfl (by kernel_rfl) (run_load1 (fun w => by kernel_rfl) ((hc64 rfl).ext hx))) ?_
                  refine vcS_guard rfl (b51 && (!b58)) (wanted_gg (d := 119) rfl (by kernel_rfl) b51 b58 (by kernel_rfl) (b51 && (!b58)) (eqFF b51 b58)) rfl (Value.bool (t123 == t128)) (fun hg w => by simp only [Bool.and_eq_true, Bool.not_eq_true'] at hg; obtain ⟨rfl, rfl⟩ := hg; kernel_rfl) ?_
                  obtain ⟨b65, hb65⟩ : ∃ y, y = (t123 == t128) := ⟨_, rfl⟩
                  have h := h b65 hb65
                  refine vcS_guard rfl (b51 && (!b58)) (wanted_gg (d := 119) rfl (by kernel_rfl) b51 b58 (by kernel_rfl) (b51 && (!b58)) (eqFF b51 b58)) rfl (Value.bool b65) (fun hg w => by simp only [Bool.and_eq_true, Bool.not_eq_true'] at hg; obtain ⟨rfl, rfl⟩ := hg; rw [hb65]; kernel_rfl) ?_
                  refine vcS_guard rfl ((b51 && (!b58)) && b65) (wanted_gg (d := 130) rfl (by kernel_rfl) (b51 && (!b58)) b65 (by kernel_rfl) ((b51 && (!b58)) && b65) (eqTT (b51 && (!b58)) b65)) rfl (Sl.v t42) (fun hg w => by simp only [Bool.and_eq_true, Bool.not_eq_true'] at hg; obtain ⟨⟨rfl, rfl⟩, rfl⟩ := hg; kernel_rfl) ?_
                  refine vcS_guard rfl ((b51 && (!b58)) && b65) (wanted_gg (d := 130) rfl (by kernel_rfl) (b51 && (!b58)) b65 (by kernel_rfl) ((b51 && (!b58)) && b65) (eqTT (b51 && (!b58)) b65)) rfl (Value.int .i64 i17) (fun hg w => by simp only [Bool.and_eq_true, Bool.not_eq_true'] at hg; obtain ⟨⟨rfl, rfl⟩, rfl⟩ := hg; kernel_rfl) ?_
                  refine vcS_guard rfl ((b51 && (!b58)) && b65) (wanted_gg (d := 130) rfl (by kernel_rfl) (b51 && (!b58)) b65 (by kernel_rfl) ((b51 && (!b58)) && b65) (eqTT (b51 && (!b58)) b65)) rfl (Value.int .i64 (wrapI (i17 - 1))) (fun hg w => by simp only [Bool.and_eq_true, Bool.not_eq_true'] at hg; obtain ⟨⟨rfl, rfl⟩, rfl⟩ := hg; kernel_rfl) ?_
                  obtain ⟨ad66, hi67, h⟩ := h
                  refine vcS_guard rfl ((b51 && (!b58)) && b65) (wanted_gg (d := 130) rfl (by kernel_rfl) (b51 && (!b58)) b65 (by kernel_rfl) ((b51 && (!b58)) && b65) (eqTT (b51 && (!b58)) b65)) rfl (Value.pointer (some (ad66.add ((wrapI (i17 - 1)).toNat * 3)))) (fun hg w => by simp only [Bool.and_eq_true, Bool.not_eq_true'] at hg; obtain ⟨⟨rfl, rfl⟩, rfl⟩ := hg; exact exec_indexAt (s := t42) (el := 30) rfl (by kernel_rfl) (by kernel_rfl) (by kernel_rfl) (fun w => by kernel_rfl) (hi67 rfl).1 (hi67 rfl).2.1 (hi67 rfl).2.2 w) ?_
                  obtain ⟨t135_Major, t135_Minor, t135_Patch, hc68, h⟩ := h
                  refine vcS_valG rfl ((b51 && (!b58)) && b65) (wanted_gg (d := 130) rfl (by kernel_rfl) (b51 && (!b58)) b65 (by kernel_rfl) ((b51 && (!b58)) && b65) (eqTT (b51 && (!b58)) b65)) rfl (Value.agg #[(Value.int .i64 t135_Major), (Value.int .i64 t135_Minor), (Value.int .i64 t135_Patch)]) (fun hg w' hx => by simp only [Bool.and_eq_true, Bool.not_eq_true'] at hg; obtain ⟨⟨rfl, rfl⟩, rfl⟩ := hg; exact exec_load rfl (by kernel_rfl) (run_loadN (fun w => by kernel_rfl) (fun w => by kernel_rfl) ((hc68 rfl).ext hx))) ?_
                  refine vcS_guard rfl ((b51 && (!b58)) && b65) (wanted_gg (d := 130) rfl (by kernel_rfl) (b51 && (!b58)) b65 (by kernel_rfl) ((b51 && (!b58)) && b65) (eqTT (b51 && (!b58)) b65)) rfl (Sl.v t42) (fun hg w => by simp only [Bool.and_eq_true, Bool.not_eq_true'] at hg; obtain ⟨⟨rfl, rfl⟩, rfl⟩ := hg; kernel_rfl) ?_
                  refine vcS_guard rfl ((b51 && (!b58)) && b65) (wanted_gg (d := 130) rfl (by kernel_rfl) (b51 && (!b58)) b65 (by kernel_rfl) ((b51 && (!b58)) && b65) (eqTT (b51 && (!b58)) b65)) rfl (Value.int .i64 i17) (fun hg w => by simp only [Bool.and_eq_true, Bool.not_eq_true'] at hg; obtain ⟨⟨rfl, rfl⟩, rfl⟩ := hg; kernel_rfl) ?_
                  obtain ⟨ad69, hi70, h⟩ := h
                  refine vcS_guard rfl ((b51 && (!b58)) && b65) (wanted_gg (d := 130) rfl (by kernel_rfl) (b51 && (!b58)) b65 (by kernel_rfl) ((b51 && (!b58)) && b65) (eqTT (b51 && (!b58)) b65)) rfl (Value.pointer (some (ad69.add (i17.toNat * 3)))) (fun hg w => by simp only [Bool.and_eq_true, Bool.not_eq_true'] at hg; obtain ⟨⟨rfl, rfl⟩, rfl⟩ := hg; exact exec_indexAt (s := t42) (el := 30) rfl (by kernel_rfl) (by kernel_rfl) (by kernel_rfl) (fun w => by kernel_rfl) (hi70 rfl).1 (hi70 rfl).2.1 (hi70 rfl).2.2 w) ?_
                  obtain ⟨t139_Major, t139_Minor, t139_Patch, hc71, h⟩ := h
                  refine vcS_valG rfl ((b51 && (!b58)) && b65) (wanted_gg (d := 130) rfl (by kernel_rfl) (b51 && (!b58)) b65 (by kernel_rfl) ((b51 && (!b58)) && b65) (eqTT (b51 && (!b58)) b65)) rfl (Value.agg #[(Value.int .i64 t139_Major), (Value.int .i64 t139_Minor), (Value.int .i64 t139_Patch)]) (fun hg w' hx => by simp only [Bool.and_eq_true, Bool.not_eq_true'] at hg; obtain ⟨⟨rfl, rfl⟩, rfl⟩ := hg; exact exec_load rfl (by kernel_rfl) (run_loadN (fun w => by kernel_rfl) (fun w => by kernel_rfl) ((hc71 rfl).ext hx))) ?_
                  obtain ⟨vJ75, hJ76, h⟩ := gCall_elim h
                  refine vcS_effJ (σ := Int) rfl ((b51 && (!b58)) && b65) (wanted_gg (d := 130) rfl (by kernel_rfl) (b51 && (!b58)) b65 (by kernel_rfl) ((b51 && (!b58)) && b65) (eqTT (b51 && (!b58)) b65)) rfl (fun s w => vJ75 s w) (fun s => (Value.int .i64 s)) ?_ (fun hg => opVC_call rfl (by simp only [Bool.and_eq_true, Bool.not_eq_true'] at hg; obtain ⟨⟨rfl, rfl⟩, rfl⟩ := hg; kernel_rfl) (callS.mono (h.1 hg) fun v73 vw72 hq => ?_)) (fun hg => ⟨0, h.2 hg⟩) vcS_stop
                  · intro t140 vw72 h
                    subst hJ76
                    refine vcS_guard rfl ((b51 && (!b58)) && b65) (wanted_gg (d := 130) rfl (by kernel_rfl) (b51 && (!b58)) b65 (by kernel_rfl) ((b51 && (!b58)) && b65) (eqTT (b51 && (!b58)) b65)) rfl (Value.bool (decide (t140 ≤ 0))) (fun hg w => by simp only [Bool.and_eq_true, Bool.not_eq_true'] at hg; obtain ⟨⟨rfl, rfl⟩, rfl⟩ := hg; kernel_rfl) ?_
                    refine vcS_guard rfl (b51 && (!b58)) (wanted_gg (d := 119) rfl (by kernel_rfl) b51 b58 (by kernel_rfl) (b51 && (!b58)) (eqFF b51 b58)) rfl (Value.bool (b65 && (decide (t140 ≤ 0)))) (fun hg w => by simp only [Bool.and_eq_true, Bool.not_eq_true'] at hg; obtain ⟨rfl, rfl⟩ := hg; cases b65 <;> kernel_rfl) ?_
                    refine vcS_guard rfl b51 (wanted_g (d := 106) rfl (by kernel_rfl) b51 (by kernel_rfl) b51 (eqT b51)) rfl (Value.bool (b58 || (b65 && (decide (t140 ≤ 0))))) (fun hg w => by subst hg; cases b58 <;> kernel_rfl) ?_
                    refine vcS_pure rfl rfl rfl (Value.bool (b51 && (b58 || (b65 && (decide (t140 ≤ 0)))))) (fun w => by cases b51 <;> kernel_rfl) ?_
                    refine vcS_fin ?_
                    refine Vc.cond (b51 && (b58 || (b65 && (decide (t140 ≤ 0))))) (by kernel_rfl) (fun hb => ?_) (fun hb => ?_)
                    · have h := h.1 (hb)
                      refine Vc.seq ?_
                      refine Vc.region ?_
                      refine vcL_pure rfl rfl (Value.bool false) (fun w => by kernel_rfl) ?_
                      refine vcL_nil ?_
                      refine Vc.ret ?_
                      refine outOf_ret ?_
                      refine outOf_ret ?_
                      refine outs_ret ?_
                      refine done_mk (Value.bool false) (res1 (resC_tmp (by kernel_rfl))) ?_
                      exact ⟨false, rfl, h⟩
                    · have h := h.2 (hb)
                      refine Vc.skip ?_
                      refine Vc.region ?_
                      refine vcL_purs 3 [(9, (Value.int .i64 (wrapI (i17 + 1)))), (51, (Value.int .i64 (wrapI (i17 + 1)))), (50, (Value.int .i64 i17))] (by kernel_rfl) ?_
                      refine vcL_nil ?_
                      exact ⟨(wrapI (i17 + 1)), 213, ⟨rfl, by kernel_rfl, by kernel_rfl, by kernel_rfl⟩, h⟩
                  · obtain ⟨t140, rfl, hq⟩ := hq
                    exact ⟨fun hb => absurd hb (by decide), t140, rfl, hq⟩
            · obtain ⟨t72, rfl, hq⟩ := hq
              exact ⟨fun hb => absurd hb (by decide), t72, rfl, hq⟩
        · have h := h.2 (of_decide_eq_false hb)
          refine Vc.exit ?_
          refine outOf_hit ?_
          refine Vc.seq ?_
          refine Vc.region ?_
          refine vcL_purs 2 [(146, (Value.pointer (some a))), (145, (Value.pointer t16))] (by kernel_rfl) ?_
          obtain ⟨t147, hc104, h⟩ := h
          refine vcL_val rfl rfl (Value.string t147) (exec_load rfl (by kernel_rfl) (run_load1 (fun w => by kernel_rfl) ((hc104)))) ?_
          refine vcL_eff rfl (opVC_call rfl (by kernel_rfl) (callS.mono h fun v106 vw105 h => ?_)) 
          obtain ⟨t148, rfl, h⟩ := h
          refine vcL_pure rfl rfl (Sl.v t148) (fun w => by kernel_rfl) ?_
          refine vcL_nil ?_
          refine Vc.seq ?_
          refine Vc.region ?_
          refine vcL_pure rfl rfl (Value.int .i64 0) (fun w => by kernel_rfl) ?_
          refine vcL_nil ?_
          refine Vc.seq ?_
          refine Vc.seq ?_
          refine Vc.region ?_
          refine vcL_pure rfl rfl (Value.int .i64 0) (fun w => by kernel_rfl) ?_
          refine vcL_nil ?_
          refine Vc.block ?_
          obtain ⟨vI123, mu124, h, hr125⟩ := h
          refine Vc.loopJ (σ := Int × Int) [14, 15] [149, 150, 151, 152, 153, 154, 155, 156, 157, 158, 159, 160, 161, 162, 163] (fun s => [(14, (Value.int .i64 s.1)), (15, (Value.int .i64 s.2))]) (fun s w => vI123 s.1 s.2 w) (fun s w => mu124 s.1 s.2 w) (0, 0) h (fun _ => rfl) (by kernel_rfl) ?_
          rintro ⟨n, i108⟩ vw109 j h
          have h := hr125 n i108 vw109 h
          refine Vc.seq ?_
          refine Vc.seq ?_
          refine Vc.region ?_
          refine vcL_purs 4 [(152, (Value.bool (decide (i108 < (t148.len : Int))))), (151, (Value.int .i64 (t148.len : Int))), (150, (Sl.v t148)), (149, (Value.int .i64 i108))] (by kernel_rfl) ?_
          refine vcL_nil ?_
          refine Vc.cond (decide (i108 < (t148.len : Int))) (by kernel_rfl) (fun hb => ?_) (fun hb => ?_)
          · have h := h.1 (of_decide_eq_true hb)
            refine Vc.skip ?_
            obtain ⟨vJ113, hJ114, h⟩ := join_elim h
            refine Vc.seqJ (σ := Int) [14] [155, 156, 157, 158, 159, 160, 161, 162, 163] (fun s => [(14, (Value.int .i64 s))]) (fun s w => vJ113 s w) (fun _ => rfl) ?_ ?_
            · refine Vc.block ?_
              refine Vc.seq ?_
              obtain ⟨vw115, hvw115⟩ : ∃ y, y = vw109.drew := ⟨_, rfl⟩
              have h := h vw115 hvw115
              refine Vc.draw (by kernel_rfl) (fun i => !(memN [6] i)) (.pur 0 (.val 1 (.pur 2 (.pur 3 (.pur 4 (.val 5 (.eff 6 .fin .stop))))))) (by kernel_rfl) ?_
              rw [← hvw115]
              clear hvw115
              refine vcS_pure rfl rfl rfl (Value.pointer (some (a.add 4))) (fun w => by kernel_rfl) ?_
              obtain ⟨t156, hc116, h⟩ := h
              refine vcS_val rfl rfl rfl (Sl.v t156) (fun w' hx => exec_load rfl (by kernel_rfl) (run_load1 (fun w => by kernel_rfl) ((hc116).ext hx))) ?_
              refine vcS_pure rfl rfl rfl (Sl.v t148) (fun w => by kernel_rfl) ?_
              refine vcS_pure rfl rfl rfl (Value.int .i64 i108) (fun w => by kernel_rfl) ?_
              obtain ⟨ad117, hi118, h⟩ := h
              refine vcS_pure rfl rfl rfl (Value.pointer (some (ad117.add (i108.toNat * 3)))) (fun w => by exact exec_indexAt (s := t148) (el := 30) rfl (by kernel_rfl) (by kernel_rfl) (by kernel_rfl) (fun w => by kernel_rfl) (hi118).1 (hi118).2.1 (hi118).2.2 w) ?_
              obtain ⟨t160_Major, t160_Minor, t160_Patch, hc119, h⟩ := h
              refine vcS_val rfl rfl rfl (Value.agg #[(Value.int .i64 t160_Major), (Value.int .i64 t160_Minor), (Value.int .i64 t160_Patch)]) (fun w' hx => exec_load rfl (by kernel_rfl) (run_loadN (fun w => by kernel_rfl) (fun w => by kernel_rfl) ((hc119).ext hx))) ?_
              refine vcS_eff rfl rfl (opVC_call rfl (by kernel_rfl) (callS.mono h fun v121 vw120 h => ?_)) vcS_stop
              obtain ⟨t161, rfl, h⟩ := h
              refine ⟨fun hb => absurd hb (by decide), ?_⟩
              refine vcS_fin ?_
              refine Vc.cond t161 (by kernel_rfl) (fun hb => ?_) (fun hb => ?_)
              · have h := h.1 (hb)
                refine Vc.region ?_
                refine vcL_purs 3 [(14, (Value.int .i64 (wrapI (n + 1)))), (163, (Value.int .i64 (wrapI (n + 1)))), (162, (Value.int .i64 n))] (by kernel_rfl) ?_
                refine vcL_nil ?_
                exact ⟨(wrapI (n + 1)), 10, ⟨rfl, by kernel_rfl, by kernel_rfl, by kernel_rfl⟩, h⟩
              · have h := h.2 (hb)
                refine Vc.skip ?_
                exact ⟨n, 7, ⟨rfl, by kernel_rfl, by kernel_rfl, by kernel_rfl⟩, h⟩
            · intro n111 vw112 j h
              subst hJ114
              refine Vc.region ?_
              refine vcL_purs 3 [(15, (Value.int .i64 (wrapI (i108 + 1)))), (154, (Value.int .i64 (wrapI (i108 + 1)))), (153, (Value.int .i64 i108))] (by kernel_rfl) ?_
              refine vcL_nil ?_
              exact ⟨(n111, (wrapI (i108 + 1))), 34, ⟨rfl, by kernel_rfl, by kernel_rfl, by kernel_rfl⟩, h⟩
          · have h := h.2 (of_decide_eq_false hb)
            refine Vc.exit ?_
            refine outOf_hit ?_
            refine Vc.seq ?_
            refine Vc.region ?_
            refine vcL_purs 5 [(4, (Value.bool (n == (t42.len : Int)))), (167, (Value.bool (n == (t42.len : Int)))), (166, (Value.int .i64 (t42.len : Int))), (165, (Sl.v t42)), (164, (Value.int .i64 n))] (by kernel_rfl) ?_
            refine vcL_nil ?_
            refine Vc.ret ?_
            refine outs_ret ?_
            refine done_mk (Value.bool (n == (t42.len : Int))) (res1 (resC_tmp (by kernel_rfl))) ?_
            exact ⟨(n == (t42.len : Int)), rfl, h⟩
  · obtain ⟨t20, rfl, hq⟩ := hq
    exact ⟨t20, rfl, hq⟩
theorem halyardlaw08_CatalogTries.go {l : Sl} {x_Name : ByteArray} {x_Version_Major : Int} {x_Version_Minor : Int} {x_Version_Patch : Int} {x_Range : Sl} {x_Pins : Sl} {w : World} {k : Value → World → Prop} (h : halyardlaw08_CatalogTries l x_Name x_Version_Major x_Version_Minor x_Version_Patch x_Range x_Pins w fun r0 w' => k (Value.bool r0) w') : callS Tryz.prog 5 [(Sl.v l), (Value.agg #[(Value.string x_Name), (Value.int .i64 x_Version_Major), (Value.int .i64 x_Version_Minor), (Value.int .i64 x_Version_Patch), (Sl.v x_Range), (Sl.v x_Pins)])] w k := (halyardlaw08_CatalogTries.sound l x_Name x_Version_Major x_Version_Minor x_Version_Patch x_Range x_Pins w _ h).mono (by rintro _ _ ⟨r0, rfl, h⟩; exact h)

/-- halyard/catalog.New -/
def catalog_New (w : World) (R : Option Addr → World → Prop) : Prop :=
  semS Tryz.prog (Instr.makeMap 101 none) w fun v vw => ∃ (t1 : Option Nat), v = (Value.map t1) ∧ newS vw [(Value.map t1)] 103 fun a vw1 => R (some a) vw1
set_option maxHeartbeats 8000000 in
theorem catalog_New.sound (w : World) (R : Option Addr → World → Prop) (h : catalog_New w R) : callS Tryz.prog 16 [] w (fun v w' => ∃ (r0 : Option Addr), v = (Value.pointer r0) ∧ R r0 w') := by
  unfold catalog_New at h
  refine calls_of_vc 4 rfl Tryz.func16 rfl (by kernel_rfl) (by simp) ?_
  refine Vc.seq ?_
  refine Vc.region ?_
  refine vcL_pure rfl rfl (Value.pointer none) (fun w => by kernel_rfl) ?_
  refine vcL_nil ?_
  refine Vc.seq ?_
  refine Vc.region ?_
  refine vcL_eff rfl (opVC_sem rfl (c := Instr.makeMap 101 none) (by kernel_rfl) (semS.mono h fun v vw h => ?_)) 
  obtain ⟨t1, rfl, h⟩ := h
  refine vcL_pure rfl rfl (Value.agg #[(Value.map t1)]) (fun w => by kernel_rfl) ?_
  refine vcL_eff rfl (opVC_new rfl (fun a => Value.pointer (some a)) (by kernel_rfl) (newS.mono h fun a vw1 hx h => ?_)) 
  refine vcL_pure rfl rfl (Value.pointer (some a)) (fun w => by kernel_rfl) ?_
  refine vcL_nil ?_
  refine Vc.ret ?_
  refine outs_ret ?_
  refine done_mk (Value.pointer (some a)) (res1 (resC_tmp (by kernel_rfl))) ?_
  exact ⟨(some a), rfl, h⟩
theorem catalog_New.go {w : World} {k : Value → World → Prop} (h : catalog_New w fun r0 w' => k (Value.pointer r0) w') : callS Tryz.prog 16 [] w k := (catalog_New.sound w _ h).mono (by rintro _ _ ⟨r0, rfl, h⟩; exact h)

/-- halyard/halyardlaw08.known -/
def halyardlaw08_known (w : World) (R : Bool → World → Prop) : Prop :=
  callS Tryz.prog 16 [] w fun v vw => ∃ (t7 : Option Addr), v = (Value.pointer t7) ∧ ((t7 = none → R false vw) ∧ (¬ (t7 = none) → newS vw [(Value.int .i64 0), (Value.int .i64 0), (Value.int .i64 0)] 30 fun a vw1 => stw vw1 a [(Value.int .i64 1), (Value.int .i64 0), (Value.int .i64 0)] fun vw2 => ∃ (t12_Major : Int) (t12_Minor : Int) (t12_Patch : Int), (ldc vw2 a [(Value.int .i64 t12_Major), (Value.int .i64 t12_Minor), (Value.int .i64 t12_Patch)]) ∧ callS Tryz.prog 19 [(Value.pointer t7), (Value.agg #[(Value.string (ByteArray.mk #[97])), (Value.int .i64 t12_Major), (Value.int .i64 t12_Minor), (Value.int .i64 t12_Patch), (Sl.v Sl.nil), (Sl.v Sl.nil), (Sl.v Sl.nil)])] vw2 fun v4 vw3 => ∃ (t14 : Int), v4 = (Value.int .i64 t14) ∧ ∃ (t17_Major : Int) (t17_Minor : Int) (t17_Patch : Int), (ldc vw3 a [(Value.int .i64 t17_Major), (Value.int .i64 t17_Minor), (Value.int .i64 t17_Patch)]) ∧ callS Tryz.prog 22 [(Value.pointer t7), (Value.string (ByteArray.mk #[97])), (Value.agg #[(Value.int .i64 t17_Major), (Value.int .i64 t17_Minor), (Value.int .i64 t17_Patch)])] vw3 fun v8 vw7 => ∃ (t18_Name : ByteArray) (t18_Version_Major : Int) (t18_Version_Minor : Int) (t18_Version_Patch : Int) (t18_Deps : Sl) (t18_Peers : Sl) (t18_Optional : Sl) (t18b : Bool), v8 = (Value.tuple #[(Value.agg #[(Value.string t18_Name), (Value.int .i64 t18_Version_Major), (Value.int .i64 t18_Version_Minor), (Value.int .i64 t18_Version_Patch), (Sl.v t18_Deps), (Sl.v t18_Peers), (Sl.v t18_Optional)]), (Value.bool t18b)]) ∧ newS vw7 [(Value.string (ByteArray.mk #[])), (Value.int .i64 0), (Value.int .i64 0), (Value.int .i64 0), (Sl.v Sl.nil), (Sl.v Sl.nil), (Sl.v Sl.nil)] 48 fun a10 vw11 => stw vw11 a10 [(Value.string t18_Name), (Value.int .i64 t18_Version_Major), (Value.int .i64 t18_Version_Minor), (Value.int .i64 t18_Version_Patch), (Sl.v t18_Deps), (Sl.v t18_Peers), (Sl.v t18_Optional)] fun vw12 => callS Tryz.prog 49 [] vw12 fun v14 vw13 => ∃ (t22 : Sl), v14 = (Sl.v t22) ∧ callS Tryz.prog 28 [(Value.pointer t7), (Value.string (ByteArray.mk #[97])), (Sl.v t22), (Sl.v Sl.nil)] vw13 fun v17 vw16 => ∃ (t23 : Sl), v17 = (Sl.v t23) ∧ bnd vw16.drew fun (vw19 : World) => bnd (t14 == 0) fun (b : Bool) => bnd (b && t18b) fun (b20 : Bool) => ∃ (t31 : ByteArray), grd b20 (ldc vw19 a10 [(Value.string t31)]) ∧ bnd (b20 && (bEq t31 (ByteArray.mk #[97]))) fun (b22 : Bool) => bnd (b22 && ((t23.len : Int) == 1)) fun (b23 : Bool) => ∃ (ad : Addr), grd b23 (t23.a = some ad ∧ (0 : Int) ≤ 0 ∧ 0 < (t23.len : Int)) ∧ ∃ (t42_Major : Int) (t42_Minor : Int) (t42_Patch : Int), grd b23 (ldc vw19 (ad.add ((0 : Int).toNat * 3)) [(Value.int .i64 t42_Major), (Value.int .i64 t42_Minor), (Value.int .i64 t42_Patch)]) ∧ ∃ (t43_Major : Int) (t43_Minor : Int) (t43_Patch : Int), grd b23 (ldc vw19 a [(Value.int .i64 t43_Major), (Value.int .i64 t43_Minor), (Value.int .i64 t43_Patch)]) ∧ bnd (b23 && ((t42_Major == t43_Major) && ((t42_Minor == t43_Minor) && ((t42_Patch == t43_Patch) && true)))) fun (b26 : Bool) => gCall b26 (fun (t48 : Sl) (vw27 : World) => R (b26 && ((t48.len : Int) == 1)) vw27) (fun q => callS Tryz.prog 31 [(Value.pointer t7)] vw19 fun v28 vw27 => ∃ (t48 : Sl), v28 = (Sl.v t48) ∧ q t48 vw27) (fun q => q Sl.nil vw19)))
set_option maxHeartbeats 8000000 in
theorem halyardlaw08_known.sound (w : World) (R : Bool → World → Prop) (h : halyardlaw08_known w R) : callS Tryz.prog 17 [] w (fun v w' => ∃ (r0 : Bool), v = (Value.bool r0) ∧ R r0 w') := by
  unfold halyardlaw08_known at h
  refine calls_of_vc 52 rfl Tryz.func17 rfl (by kernel_rfl) (by simp) ?_
  refine Vc.seq ?_
  refine Vc.region ?_
  refine vcL_pure rfl rfl (Value.bool false) (fun w => by kernel_rfl) ?_
  refine vcL_nil ?_
  refine Vc.seq ?_
  refine Vc.region ?_
  refine vcL_eff rfl (opVC_call rfl (by kernel_rfl) (callS.mono h fun v vw h => ?_)) 
  obtain ⟨t7, rfl, h⟩ := h
  refine vcL_pure rfl rfl (Value.pointer t7) (fun w => by kernel_rfl) ?_
  refine vcL_nil ?_
  refine Vc.seq ?_
  refine Vc.seq ?_
  refine Vc.region ?_
  refine vcL_pure rfl rfl (Value.pointer t7) (fun w => by kernel_rfl) ?_
  refine vcL_pure rfl rfl (Value.bool (Option.isNone t7)) (fun w => by cases t7 <;> kernel_rfl) ?_
  refine vcL_nil ?_
  refine Vc.cond (Option.isNone t7) (by kernel_rfl) (fun hb => ?_) (fun hb => ?_)
  · have h := h.1 (Option.isNone_iff_eq_none.1 hb)
    refine Vc.seq ?_
    refine Vc.region ?_
    refine vcL_pure rfl rfl (Value.bool false) (fun w => by kernel_rfl) ?_
    refine vcL_nil ?_
    refine Vc.ret ?_
    refine outs_ret ?_
    refine done_mk (Value.bool false) (res1 (resC_tmp (by kernel_rfl))) ?_
    exact ⟨false, rfl, h⟩
  · have h := h.2 (isNone_false hb)
    refine Vc.skip ?_
    refine Vc.seq ?_
    refine Vc.region ?_
    refine vcL_pure rfl rfl (Value.agg #[(Value.int .i64 1), (Value.int .i64 0), (Value.int .i64 0)]) (fun w => by kernel_rfl) ?_
    refine vcL_eff rfl (opVC_new rfl (fun a => Value.pointer (some a)) (by kernel_rfl) (newS.mono h fun a vw1 hx h => ?_)) 
    refine vcL_eff rfl (opVC_store rfl rfl (a := a) (by kernel_rfl) (v := (Value.agg #[(Value.int .i64 1), (Value.int .i64 0), (Value.int .i64 0)])) (by kernel_rfl) [(Value.int .i64 1), (Value.int .i64 0), (Value.int .i64 0)] (by kernel_rfl) (fun w => by kernel_rfl) (by kernel_rfl) (stw.mono h fun vw2 h => ?_)) 
    refine vcL_nil ?_
    refine Vc.seq ?_
    refine Vc.region ?_
    refine vcL_pure rfl rfl (Value.pointer t7) (fun w => by kernel_rfl) ?_
    obtain ⟨t12_Major, t12_Minor, t12_Patch, hc, h⟩ := h
    refine vcL_val rfl rfl (Value.agg #[(Value.int .i64 t12_Major), (Value.int .i64 t12_Minor), (Value.int .i64 t12_Patch)]) (exec_load rfl (by kernel_rfl) (run_loadN (fun w => by kernel_rfl) (fun w => by kernel_rfl) ((hc)))) ?_
    refine vcL_pure rfl rfl (Value.agg #[(Value.string (ByteArray.mk #[97])), (Value.int .i64 t12_Major), (Value.int .i64 t12_Minor), (Value.int .i64 t12_Patch), (Sl.v Sl.nil), (Sl.v Sl.nil), (Sl.v Sl.nil)]) (fun w => by kernel_rfl) ?_
    refine vcL_eff rfl (opVC_call rfl (by kernel_rfl) (callS.mono h fun v4 vw3 h => ?_)) 
    obtain ⟨t14, rfl, h⟩ := h
    refine vcL_pure rfl rfl (Value.int .i64 t14) (fun w => by kernel_rfl) ?_
    refine vcL_nil ?_
    refine Vc.seq ?_
    refine Vc.region ?_
    refine vcL_pure rfl rfl (Value.pointer t7) (fun w => by kernel_rfl) ?_
    obtain ⟨t17_Major, t17_Minor, t17_Patch, hc6, h⟩ := h
    refine vcL_val rfl rfl (Value.agg #[(Value.int .i64 t17_Major), (Value.int .i64 t17_Minor), (Value.int .i64 t17_Patch)]) (exec_load rfl (by kernel_rfl) (run_loadN (fun w => by kernel_rfl) (fun w => by kernel_rfl) ((hc6)))) ?_
    refine vcL_eff rfl (opVC_call rfl (by kernel_rfl) (callS.mono h fun v8 vw7 h => ?_)) 
    obtain ⟨t18_Name, t18_Version_Major, t18_Version_Minor, t18_Version_Patch, t18_Deps, t18_Peers, t18_Optional, t18b, rfl, h⟩ := h
    refine vcL_purs 3 [(20, (Value.bool t18b)), (19, (Value.agg #[(Value.string t18_Name), (Value.int .i64 t18_Version_Major), (Value.int .i64 t18_Version_Minor), (Value.int .i64 t18_Version_Patch), (Sl.v t18_Deps), (Sl.v t18_Peers), (Sl.v t18_Optional)])), (15, (Value.tuple #[(Value.agg #[(Value.string t18_Name), (Value.int .i64 t18_Version_Major), (Value.int .i64 t18_Version_Minor), (Value.int .i64 t18_Version_Patch), (Sl.v t18_Deps), (Sl.v t18_Peers), (Sl.v t18_Optional)]), (Value.bool t18b)]))] (by kernel_rfl) ?_
    refine vcL_eff rfl (opVC_new rfl (fun a => Value.pointer (some a)) (by kernel_rfl) (newS.mono h fun a10 vw11 hx h => ?_)) 
    refine vcL_eff rfl (opVC_store rfl rfl (a := a10) (by kernel_rfl) (v := (Value.agg #[(Value.string t18_Name), (Value.int .i64 t18_Version_Major), (Value.int .i64 t18_Version_Minor), (Value.int .i64 t18_Version_Patch), (Sl.v t18_Deps), (Sl.v t18_Peers), (Sl.v t18_Optional)])) (by kernel_rfl) [(Value.string t18_Name), (Value.int .i64 t18_Version_Major), (Value.int .i64 t18_Version_Minor), (Value.int .i64 t18_Version_Patch), (Sl.v t18_Deps), (Sl.v t18_Peers), (Sl.v t18_Optional)] (by kernel_rfl) (fun w => by kernel_rfl) (by kernel_rfl) (stw.mono h fun vw12 h => ?_)) 
    refine vcL_pure rfl rfl (Value.bool t18b) (fun w => by kernel_rfl) ?_
    refine vcL_nil ?_
    refine Vc.seq ?_
    refine Vc.region ?_
    refine vcL_pure rfl rfl (Value.pointer t7) (fun w => by kernel_rfl) ?_
    refine vcL_eff rfl (opVC_call rfl (by kernel_rfl) (callS.mono h fun v14 vw13 h => ?_)) 
    obtain ⟨t22, rfl, h⟩ := h
    refine vcL_eff rfl (opVC_call rfl (by kernel_rfl) (callS.mono h fun v17 vw16 h => ?_)) 
    obtain ⟨t23, rfl, h⟩ := h
    refine vcL_pure rfl rfl (Sl.v t23) (fun w => by kernel_rfl) ?_
    refine vcL_nil ?_
    refine Vc.seq ?_
    obtain ⟨vw19, hvw19⟩ : ∃ y, y = vw16.drew := ⟨_, rfl⟩
    have h := h vw19 hvw19
    refine Vc.draw (by kernel_rfl) (fun i => !(memN [24] i)) (.pur 0 (.pur 1 (.pur 2 (.pur 3 (.pur 4 (.pur 5 (.pur 6 (.val 7 (.pur 8 (.pur 9 (.pur 10 (.pur 11 (.pur 12 (.pur 13 (.pur 14 (.pur 15 (.pur 16 (.pur 17 (.val 18 (.val 19 (.pur 20 (.pur 21 (.pur 22 (.pur 23 (.eff 24 (.pur 25 (.pur 26 (.pur 27 (.pur 28 .fin)))) .stop))))))))))))))))))))))))) (by kernel_rfl) ?_
    rw [← hvw19]
    clear hvw19
    refine vcS_pure rfl rfl rfl (Value.int .i64 t14) (fun w => by kernel_rfl) ?_
    refine vcS_pure rfl rfl rfl (Value.bool (t14 == 0)) (fun w => by kernel_rfl) ?_
    obtain ⟨b, hb⟩ : ∃ y, y = (t14 == 0) := ⟨_, rfl⟩
    have h := h b hb
    refine vcS_pure rfl rfl rfl (Value.bool b) (fun w => by rw [hb]; kernel_rfl) ?_
    refine vcS_guard rfl b (wanted_g (d := 26) rfl (by kernel_rfl) b (by kernel_rfl) b (eqT b)) rfl (Value.bool t18b) (fun hg w => by subst hg; kernel_rfl) ?_
    refine vcS_pure rfl rfl rfl (Value.bool (b && t18b)) (fun w => by cases b <;> kernel_rfl) ?_
    obtain ⟨b20, hb20⟩ : ∃ y, y = (b && t18b) := ⟨_, rfl⟩
    have h := h b20 hb20
    refine vcS_pure rfl rfl rfl (Value.bool b20) (fun w => by rw [hb20]; kernel_rfl) ?_
    refine vcS_guard rfl b20 (wanted_g (d := 29) rfl (by kernel_rfl) b20 (by kernel_rfl) b20 (eqT b20)) rfl (Value.pointer (some a10)) (fun hg w => by subst hg; kernel_rfl) ?_
    obtain ⟨t31, hc21, h⟩ := h
    refine vcS_valG rfl b20 (wanted_g (d := 29) rfl (by kernel_rfl) b20 (by kernel_rfl) b20 (eqT b20)) rfl (Value.string t31) (fun hg w' hx => by subst hg; exact exec_load rfl (by kernel_rfl) (run_load1 (fun w => by kernel_rfl) ((hc21 rfl).ext hx))) ?_
    refine vcS_guard rfl b20 (wanted_g (d := 29) rfl (by kernel_rfl) b20 (by kernel_rfl) b20 (eqT b20)) rfl (Value.bool (bEq t31 (ByteArray.mk #[97]))) (fun hg w => by subst hg; kernel_rfl) ?_
    refine vcS_pure rfl rfl rfl (Value.bool (b20 && (bEq t31 (ByteArray.mk #[97])))) (fun w => by cases b20 <;> kernel_rfl) ?_
    obtain ⟨b22, hb22⟩ : ∃ y, y = (b20 && (bEq t31 (ByteArray.mk #[97]))) := ⟨_, rfl⟩
    have h := h b22 hb22
    refine vcS_pure rfl rfl rfl (Value.bool b22) (fun w => by rw [hb22]; kernel_rfl) ?_
    refine vcS_guard rfl b22 (wanted_g (d := 34) rfl (by kernel_rfl) b22 (by kernel_rfl) b22 (eqT b22)) rfl (Sl.v t23) (fun hg w => by subst hg; kernel_rfl) ?_
    refine vcS_guard rfl b22 (wanted_g (d := 34) rfl (by kernel_rfl) b22 (by kernel_rfl) b22 (eqT b22)) rfl (Value.int .i64 (t23.len : Int)) (fun hg w => by subst hg; kernel_rfl) ?_
    refine vcS_guard rfl b22 (wanted_g (d := 34) rfl (by kernel_rfl) b22 (by kernel_rfl) b22 (eqT b22)) rfl (Value.bool ((t23.len : Int) == 1)) (fun hg w => by subst hg; kernel_rfl) ?_
    refine vcS_pure rfl rfl rfl (Value.bool (b22 && ((t23.len : Int) == 1))) (fun w => by cases b22 <;> kernel_rfl) ?_
    obtain ⟨b23, hb23⟩ : ∃ y, y = (b22 && ((t23.len : Int) == 1)) := ⟨_, rfl⟩
    have h := h b23 hb23
    refine vcS_pure rfl rfl rfl (Value.bool b23) (fun w => by rw [hb23]; kernel_rfl) ?_
    refine vcS_guard rfl b23 (wanted_g (d := 39) rfl (by kernel_rfl) b23 (by kernel_rfl) b23 (eqT b23)) rfl (Sl.v t23) (fun hg w => by subst hg; kernel_rfl) ?_
    obtain ⟨ad, hi, h⟩ := h
    refine vcS_guard rfl b23 (wanted_g (d := 39) rfl (by kernel_rfl) b23 (by kernel_rfl) b23 (eqT b23)) rfl (Value.pointer (some (ad.add ((0 : Int).toNat * 3)))) (fun hg w => by subst hg; exact exec_indexAt (s := t23) (el := 30) rfl (by kernel_rfl) (by kernel_rfl) (by kernel_rfl) (fun w => by kernel_rfl) (hi rfl).1 (hi rfl).2.1 (hi rfl).2.2 w) ?_
    obtain ⟨t42_Major, t42_Minor, t42_Patch, hc24, h⟩ := h
    refine vcS_valG rfl b23 (wanted_g (d := 39) rfl (by kernel_rfl) b23 (by kernel_rfl) b23 (eqT b23)) rfl (Value.agg #[(Value.int .i64 t42_Major), (Value.int .i64 t42_Minor), (Value.int .i64 t42_Patch)]) (fun hg w' hx => by subst hg; exact exec_load rfl (by kernel_rfl) (run_loadN (fun w => by kernel_rfl) (fun w => by kernel_rfl) ((hc24 rfl).ext hx))) ?_
    obtain ⟨t43_Major, t43_Minor, t43_Patch, hc25, h⟩ := h
    refine vcS_valG rfl b23 (wanted_g (d := 39) rfl (by kernel_rfl) b23 (by kernel_rfl) b23 (eqT b23)) rfl (Value.agg #[(Value.int .i64 t43_Major), (Value.int .i64 t43_Minor), (Value.int .i64 t43_Patch)]) (fun hg w' hx => by subst hg; exact exec_load rfl (by kernel_rfl) (run_loadN (fun w => by kernel_rfl) (fun w => by kernel_rfl) ((hc25 rfl).ext hx))) ?_
    refine vcS_guard rfl b23 (wanted_g (d := 39) rfl (by kernel_rfl) b23 (by kernel_rfl) b23 (eqT b23)) rfl (Value.bool ((t42_Major == t43_Major) && ((t42_Minor == t43_Minor) && ((t42_Patch == t43_Patch) && true)))) (fun hg w => by subst hg; exact exec_struct_eq rfl (by kernel_rfl) (by kernel_rfl) (by kernel_rfl) (eqv_30 9998 t42_Major t42_Minor t42_Patch t43_Major t43_Minor t43_Patch w)) ?_
    refine vcS_pure rfl rfl rfl (Value.bool (b23 && ((t42_Major == t43_Major) && ((t42_Minor == t43_Minor) && ((t42_Patch == t43_Patch) && true))))) (fun w => by cases b23 <;> kernel_rfl) ?_
    obtain ⟨b26, hb26⟩ : ∃ y, y = (b23 && ((t42_Major == t43_Major) && ((t42_Minor == t43_Minor) && ((t42_Patch == t43_Patch) && true)))) := ⟨_, rfl⟩
    have h := h b26 hb26
    refine vcS_pure rfl rfl rfl (Value.bool b26) (fun w => by rw [hb26]; kernel_rfl) ?_
    refine vcS_guard rfl b26 (wanted_g (d := 46) rfl (by kernel_rfl) b26 (by kernel_rfl) b26 (eqT b26)) rfl (Value.pointer t7) (fun hg w => by subst hg; kernel_rfl) ?_
    obtain ⟨vJ, hJ, h⟩ := gCall_elim h
    refine vcS_effJ (σ := Sl) rfl b26 (wanted_g (d := 46) rfl (by kernel_rfl) b26 (by kernel_rfl) b26 (eqT b26)) rfl (fun s w => vJ s w) (fun s => (Sl.v s)) ?_ (fun hg => opVC_call rfl (by subst hg; kernel_rfl) (callS.mono (h.1 hg) fun v28 vw27 hq => ?_)) (fun hg => ⟨Sl.nil, h.2 hg⟩) vcS_stop
    · intro t48 vw27 h
      subst hJ
      refine vcS_guard rfl b26 (wanted_g (d := 46) rfl (by kernel_rfl) b26 (by kernel_rfl) b26 (eqT b26)) rfl (Value.int .i64 (t48.len : Int)) (fun hg w => by subst hg; kernel_rfl) ?_
      refine vcS_guard rfl b26 (wanted_g (d := 46) rfl (by kernel_rfl) b26 (by kernel_rfl) b26 (eqT b26)) rfl (Value.bool ((t48.len : Int) == 1)) (fun hg w => by subst hg; kernel_rfl) ?_
      refine vcS_pure rfl rfl rfl (Value.bool (b26 && ((t48.len : Int) == 1))) (fun w => by cases b26 <;> kernel_rfl) ?_
      refine vcS_pure rfl rfl rfl (Value.bool (b26 && ((t48.len : Int) == 1))) (fun w => by kernel_rfl) ?_
      refine vcS_fin ?_
      refine Vc.ret ?_
      refine outs_ret ?_
      refine done_mk (Value.bool (b26 && ((t48.len : Int) == 1))) (res1 (resC_tmp (by kernel_rfl))) ?_
      exact ⟨(b26 && ((t48.len : Int) == 1)), rfl, h⟩
    · obtain ⟨t48, rfl, hq⟩ := hq
      exact ⟨fun hb => absurd hb (by decide), t48, rfl, hq⟩
theorem halyardlaw08_known.go {w : World} {k : Value → World → Prop} (h : halyardlaw08_known w fun r0 w' => k (Value.bool r0) w') : callS Tryz.prog 17 [] w k := (halyardlaw08_known.sound w _ h).mono (by rintro _ _ ⟨r0, rfl, h⟩; exact h)

/-- (*halyard/catalog.Catalog).Put -/
def catalog_Catalog_Put (c : Option Addr) (p_Name : ByteArray) (p_Version_Major : Int) (p_Version_Minor : Int) (p_Version_Patch : Int) (p_Deps : Sl) (p_Peers : Sl) (p_Optional : Sl) (w : World) (R : Int → World → Prop) : Prop :=
  newS w [(Value.string p_Name), (Value.int .i64 p_Version_Major), (Value.int .i64 p_Version_Minor), (Value.int .i64 p_Version_Patch), (Sl.v p_Deps), (Sl.v p_Peers), (Sl.v p_Optional)] 48 fun a vw => ∃ (t8_Name : ByteArray) (t8_Version_Major : Int) (t8_Version_Minor : Int) (t8_Version_Patch : Int) (t8_Deps : Sl) (t8_Peers : Sl) (t8_Optional : Sl), (ldc vw a [(Value.string t8_Name), (Value.int .i64 t8_Version_Major), (Value.int .i64 t8_Version_Minor), (Value.int .i64 t8_Version_Patch), (Sl.v t8_Deps), (Sl.v t8_Peers), (Sl.v t8_Optional)]) ∧ callS Tryz.prog 61 [(Value.agg #[(Value.string t8_Name), (Value.int .i64 t8_Version_Major), (Value.int .i64 t8_Version_Minor), (Value.int .i64 t8_Version_Patch), (Sl.v t8_Deps), (Sl.v t8_Peers), (Sl.v t8_Optional)])] vw fun v vw1 => ∃ (t9 : Bool), v = (Value.bool t9) ∧ (((!t9) = true → R 24 vw1) ∧ ((!t9) = false → ∃ (t12 : ByteArray), (ldc vw1 a [(Value.string t12)]) ∧ ∃ (t14_Major : Int) (t14_Minor : Int) (t14_Patch : Int), (ldc vw1 (a.add 1) [(Value.int .i64 t14_Major), (Value.int .i64 t14_Minor), (Value.int .i64 t14_Patch)]) ∧ newS vw1 [(Value.string (ByteArray.mk #[])), (Value.int .i64 0), (Value.int .i64 0), (Value.int .i64 0)] 106 fun a4 vw5 => stw vw5 a4 [(Value.string t12), (Value.int .i64 t14_Major), (Value.int .i64 t14_Minor), (Value.int .i64 t14_Patch)] fun vw6 => bnd vw6.drew fun (vw7 : World) => ∃ (p : Addr), (c = some p) ∧ ∃ (t20 : Option Nat), (ldc vw7 p [(Value.map t20)]) ∧ ∃ (t21_name : ByteArray) (t21_version_Major : Int) (t21_version_Minor : Int) (t21_version_Patch : Int), (ldc vw7 a4 [(Value.string t21_name), (Value.int .i64 t21_version_Major), (Value.int .i64 t21_version_Minor), (Value.int .i64 t21_version_Patch)]) ∧ ∃ (t22_Name : ByteArray) (t22_Version_Major : Int) (t22_Version_Minor : Int) (t22_Version_Patch : Int) (t22_Deps : Sl) (t22_Peers : Sl) (t22_Optional : Sl) (t22b : Bool), (stabS Tryz.prog (Instr.lookup 101 (Value.map t20) (Value.agg #[(Value.string t21_name), (Value.int .i64 t21_version_Major), (Value.int .i64 t21_version_Minor), (Value.int .i64 t21_version_Patch)]) true) vw7 (Value.tuple #[(Value.agg #[(Value.string t22_Name), (Value.int .i64 t22_Version_Major), (Value.int .i64 t22_Version_Minor), (Value.int .i64 t22_Version_Patch), (Sl.v t22_Deps), (Sl.v t22_Peers), (Sl.v t22_Optional)]), (Value.bool t22b)])) ∧ newS vw7 [(Value.string (ByteArray.mk #[])), (Value.int .i64 0), (Value.int .i64 0), (Value.int .i64 0), (Sl.v Sl.nil), (Sl.v Sl.nil), (Sl.v Sl.nil)] 48 fun a12 vw13 => stw vw13 a12 [(Value.string t22_Name), (Value.int .i64 t22_Version_Major), (Value.int .i64 t22_Version_Minor), (Value.int .i64 t22_Version_Patch), (Sl.v t22_Deps), (Sl.v t22_Peers), (Sl.v t22_Optional)] fun vw14 => ((t22b = true → R 11 vw14) ∧ (t22b = false → ∃ (p15 : Addr), (c = some p15) ∧ ∃ (t29 : Option Nat), (ldc vw14 p15 [(Value.map t29)]) ∧ ∃ (t30 : Int), (stabS Tryz.prog (Builtin.len_ #[101] 3 #[(Value.map t29)]) vw14 (Value.int .i64 t30)) ∧ ((128 ≤ t30 → R 26 vw14) ∧ (¬ (128 ≤ t30) → bnd vw14.drew fun (vw19 : World) => ∃ (p20 : Addr), (c = some p20) ∧ ∃ (t35 : Option Nat), (ldc vw19 p20 [(Value.map t35)]) ∧ ∃ (t36_name : ByteArray) (t36_version_Major : Int) (t36_version_Minor : Int) (t36_version_Patch : Int), (ldc vw19 a4 [(Value.string t36_name), (Value.int .i64 t36_version_Major), (Value.int .i64 t36_version_Minor), (Value.int .i64 t36_version_Patch)]) ∧ ∃ (t37_Name : ByteArray) (t37_Version_Major : Int) (t37_Version_Minor : Int) (t37_Version_Patch : Int) (t37_Deps : Sl) (t37_Peers : Sl) (t37_Optional : Sl), (ldc vw19 a [(Value.string t37_Name), (Value.int .i64 t37_Version_Major), (Value.int .i64 t37_Version_Minor), (Value.int .i64 t37_Version_Patch), (Sl.v t37_Deps), (Sl.v t37_Peers), (Sl.v t37_Optional)]) ∧ callX Tryz.prog 62 [(Value.agg #[(Value.string t37_Name), (Value.int .i64 t37_Version_Major), (Value.int .i64 t37_Version_Minor), (Value.int .i64 t37_Version_Patch), (Sl.v t37_Deps), (Sl.v t37_Peers), (Sl.v t37_Optional)])] vw19 fun v26 vw25 => ∃ (t38_Name : ByteArray) (t38_Version_Major : Int) (t38_Version_Minor : Int) (t38_Version_Patch : Int) (t38_Deps : Sl) (t38_Peers : Sl) (t38_Optional : Sl), v26 = (Value.agg #[(Value.string t38_Name), (Value.int .i64 t38_Version_Major), (Value.int .i64 t38_Version_Minor), (Value.int .i64 t38_Version_Patch), (Sl.v t38_Deps), (Sl.v t38_Peers), (Sl.v t38_Optional)]) ∧ semU Tryz.prog (Instr.mapUpdate 101 (Value.map t35) (Value.agg #[(Value.string t36_name), (Value.int .i64 t36_version_Major), (Value.int .i64 t36_version_Minor), (Value.int .i64 t36_version_Patch)]) (Value.agg #[(Value.string t38_Name), (Value.int .i64 t38_Version_Major), (Value.int .i64 t38_Version_Minor), (Value.int .i64 t38_Version_Patch), (Sl.v t38_Deps), (Sl.v t38_Peers), (Sl.v t38_Optional)])) vw25 fun vw28 => R 0 vw28))))))
set_option maxHeartbeats 8000000 in
theorem catalog_Catalog_Put.sound (c : Option Addr) (p_Name : ByteArray) (p_Version_Major : Int) (p_Version_Minor : Int) (p_Version_Patch : Int) (p_Deps : Sl) (p_Peers : Sl) (p_Optional : Sl) (w : World) (R : Int → World → Prop) (h : catalog_Catalog_Put c p_Name p_Version_Major p_Version_Minor p_Version_Patch p_Deps p_Peers p_Optional w R) : callS Tryz.prog 19 [(Value.pointer c), (Value.agg #[(Value.string p_Name), (Value.int .i64 p_Version_Major), (Value.int .i64 p_Version_Minor), (Value.int .i64 p_Version_Patch), (Sl.v p_Deps), (Sl.v p_Peers), (Sl.v p_Optional)])] w (fun v w' => ∃ (r0 : Int), v = (Value.int .i64 r0) ∧ R r0 w') := by
  unfold catalog_Catalog_Put at h
  refine calls_of_vc 39 rfl Tryz.func19 rfl (by kernel_rfl) (by simp) ?_
  refine Vc.seq ?_
  refine Vc.region ?_
  refine vcL_eff rfl (opVC_new rfl (fun a => Value.pointer (some a)) (by kernel_rfl) (newS.mono h fun a vw hx h => ?_)) 
  refine vcL_pure rfl rfl (Value.int .i64 0) (fun w => by kernel_rfl) ?_
  refine vcL_nil ?_
  refine Vc.seq ?_
  refine Vc.seq ?_
  refine Vc.region ?_
  obtain ⟨t8_Name, t8_Version_Major, t8_Version_Minor, t8_Version_Patch, t8_Deps, t8_Peers, t8_Optional, hc, h⟩ := h
  refine vcL_val rfl rfl (Value.agg #[(Value.string t8_Name), (Value.int .i64 t8_Version_Major), (Value.int .i64 t8_Version_Minor), (Value.int .i64 t8_Version_Patch), (Sl.v t8_Deps), (Sl.v t8_Peers), (Sl.v t8_Optional)]) (exec_load rfl (by kernel_rfl) (run_loadN (fun w => by kernel_rfl) (fun w => by kernel_rfl) ((hc)))) ?_
  refine vcL_eff rfl (opVC_call rfl (by kernel_rfl) (callS.mono h fun v vw1 h => ?_)) 
  obtain ⟨t9, rfl, h⟩ := h
  refine vcL_pure rfl rfl (Value.bool (!t9)) (fun w => by kernel_rfl) ?_
  refine vcL_nil ?_
  refine Vc.cond (!t9) (by kernel_rfl) (fun hb => ?_) (fun hb => ?_)
  · have h := h.1 (hb)
    refine Vc.seq ?_
    refine Vc.region ?_
    refine vcL_pure rfl rfl (Value.int .i64 24) (fun w => by kernel_rfl) ?_
    refine vcL_nil ?_
    refine Vc.ret ?_
    refine outs_ret ?_
    refine done_mk (Value.int .i64 24) (res1 (resC_tmp (by kernel_rfl))) ?_
    exact ⟨24, rfl, h⟩
  · have h := h.2 (hb)
    refine Vc.skip ?_
    refine Vc.seq ?_
    refine Vc.region ?_
    refine vcL_pure rfl rfl (Value.pointer (some a)) (fun w => by kernel_rfl) ?_
    obtain ⟨t12, hc2, h⟩ := h
    refine vcL_val rfl rfl (Value.string t12) (exec_load rfl (by kernel_rfl) (run_load1 (fun w => by kernel_rfl) ((hc2)))) ?_
    refine vcL_pure rfl rfl (Value.pointer (some (a.add 1))) (fun w => by kernel_rfl) ?_
    obtain ⟨t14_Major, t14_Minor, t14_Patch, hc3, h⟩ := h
    refine vcL_val rfl rfl (Value.agg #[(Value.int .i64 t14_Major), (Value.int .i64 t14_Minor), (Value.int .i64 t14_Patch)]) (exec_load rfl (by kernel_rfl) (run_loadN (fun w => by kernel_rfl) (fun w => by kernel_rfl) ((hc3)))) ?_
    refine vcL_pure rfl rfl (Value.agg #[(Value.string t12), (Value.int .i64 t14_Major), (Value.int .i64 t14_Minor), (Value.int .i64 t14_Patch)]) (fun w => by kernel_rfl) ?_
    refine vcL_eff rfl (opVC_new rfl (fun a => Value.pointer (some a)) (by kernel_rfl) (newS.mono h fun a4 vw5 hx h => ?_)) 
    refine vcL_eff rfl (opVC_store rfl rfl (a := a4) (by kernel_rfl) (v := (Value.agg #[(Value.string t12), (Value.int .i64 t14_Major), (Value.int .i64 t14_Minor), (Value.int .i64 t14_Patch)])) (by kernel_rfl) [(Value.string t12), (Value.int .i64 t14_Major), (Value.int .i64 t14_Minor), (Value.int .i64 t14_Patch)] (by kernel_rfl) (fun w => by kernel_rfl) (by kernel_rfl) (stw.mono h fun vw6 h => ?_)) 
    refine vcL_nil ?_
    refine Vc.seq ?_
    refine Vc.seq ?_
    obtain ⟨vw7, hvw7⟩ : ∃ y, y = vw6.drew := ⟨_, rfl⟩
    have h := h vw7 hvw7
    refine Vc.draw (by kernel_rfl) (fun i => !(memN [10] i)) (.pur 0 (.pur 1 (.pur 2 (.val 3 (.val 4 (.val 5 (.pur 6 (.pur 7 (.pur 8 (.eff 9 (.eff 10 (.pur 11 .fin) .stop) .stop)))))))))) (by kernel_rfl) ?_
    rw [← hvw7]
    clear hvw7
    refine vcS_pure rfl rfl rfl (Value.pointer c) (fun w => by kernel_rfl) ?_
    obtain ⟨p, hp, h⟩ := h
    refine vcS_pure rfl rfl rfl (Value.pointer (some p)) (fun w => by exact exec_nilCheck rfl (by kernel_rfl) (hp) w) ?_
    refine vcS_pure rfl rfl rfl (Value.pointer (some p)) (fun w => by kernel_rfl) ?_
    obtain ⟨t20, hc8, h⟩ := h
    refine vcS_val rfl rfl rfl (Value.map t20) (fun w' hx => exec_load rfl (by kernel_rfl) (run_load1 (fun w => by kernel_rfl) ((hc8).ext hx))) ?_
    obtain ⟨t21_name, t21_version_Major, t21_version_Minor, t21_version_Patch, hc9, h⟩ := h
    refine vcS_val rfl rfl rfl (Value.agg #[(Value.string t21_name), (Value.int .i64 t21_version_Major), (Value.int .i64 t21_version_Minor), (Value.int .i64 t21_version_Patch)]) (fun w' hx => exec_load rfl (by kernel_rfl) (run_loadN (fun w => by kernel_rfl) (fun w => by kernel_rfl) ((hc9).ext hx))) ?_
    obtain ⟨t22_Name, t22_Version_Major, t22_Version_Minor, t22_Version_Patch, t22_Deps, t22_Peers, t22_Optional, t22b, hl, h⟩ := h
    refine vcS_val rfl rfl rfl (Value.tuple #[(Value.agg #[(Value.string t22_Name), (Value.int .i64 t22_Version_Major), (Value.int .i64 t22_Version_Minor), (Value.int .i64 t22_Version_Patch), (Sl.v t22_Deps), (Sl.v t22_Peers), (Sl.v t22_Optional)]), (Value.bool t22b)]) (fun w' hx => exec_sem (c := Instr.lookup 101 (Value.map t20) (Value.agg #[(Value.string t21_name), (Value.int .i64 t21_version_Major), (Value.int .i64 t21_version_Minor), (Value.int .i64 t21_version_Patch)]) true) (by kernel_rfl) ((hl) _ hx)) ?_
    refine vcS_pure rfl rfl rfl (Value.tuple #[(Value.agg #[(Value.string t22_Name), (Value.int .i64 t22_Version_Major), (Value.int .i64 t22_Version_Minor), (Value.int .i64 t22_Version_Patch), (Sl.v t22_Deps), (Sl.v t22_Peers), (Sl.v t22_Optional)]), (Value.bool t22b)]) (fun w => by kernel_rfl) ?_
    refine vcS_pure rfl rfl rfl (Value.agg #[(Value.string t22_Name), (Value.int .i64 t22_Version_Major), (Value.int .i64 t22_Version_Minor), (Value.int .i64 t22_Version_Patch), (Sl.v t22_Deps), (Sl.v t22_Peers), (Sl.v t22_Optional)]) (fun w => by kernel_rfl) ?_
    refine vcS_pure rfl rfl rfl (Value.bool t22b) (fun w => by kernel_rfl) ?_
    refine vcS_eff rfl rfl (opVC_new rfl (fun a => Value.pointer (some a)) (by kernel_rfl) (newS.mono h fun a12 vw13 hx h => ?_)) vcS_stop
    refine ⟨fun _ => hx, ?_⟩
    refine vcS_eff rfl rfl (opVC_store rfl rfl (a := a12) (by kernel_rfl) (v := (Value.agg #[(Value.string t22_Name), (Value.int .i64 t22_Version_Major), (Value.int .i64 t22_Version_Minor), (Value.int .i64 t22_Version_Patch), (Sl.v t22_Deps), (Sl.v t22_Peers), (Sl.v t22_Optional)])) (by kernel_rfl) [(Value.string t22_Name), (Value.int .i64 t22_Version_Major), (Value.int .i64 t22_Version_Minor), (Value.int .i64 t22_Version_Patch), (Sl.v t22_Deps), (Sl.v t22_Peers), (Sl.v t22_Optional)] (by kernel_rfl) (fun w => by kernel_rfl) (by kernel_rfl) (stw.mono h fun vw14 h => ?_)) vcS_stop
    refine ⟨fun hb => absurd hb (by decide), ?_⟩
    refine vcS_pure rfl rfl rfl (Value.bool t22b) (fun w => by kernel_rfl) ?_
    refine vcS_fin ?_
    refine Vc.seq ?_
    refine Vc.region ?_
    refine vcL_pure rfl rfl (Value.bool t22b) (fun w => by kernel_rfl) ?_
    refine vcL_nil ?_
    refine Vc.cond t22b (by kernel_rfl) (fun hb => ?_) (fun hb => ?_)
    · have h := h.1 (hb)
      refine Vc.seq ?_
      refine Vc.region ?_
      refine vcL_pure rfl rfl (Value.int .i64 11) (fun w => by kernel_rfl) ?_
      refine vcL_nil ?_
      refine Vc.ret ?_
      refine outs_ret ?_
      refine done_mk (Value.int .i64 11) (res1 (resC_tmp (by kernel_rfl))) ?_
      exact ⟨11, rfl, h⟩
    · have h := h.2 (hb)
      refine Vc.skip ?_
      refine Vc.seq ?_
      refine Vc.seq ?_
      refine Vc.region ?_
      refine vcL_pure rfl rfl (Value.pointer c) (fun w => by kernel_rfl) ?_
      obtain ⟨p15, hp16, h⟩ := h
      refine vcL_pure rfl rfl (Value.pointer (some p15)) (fun w => by exact exec_nilCheck rfl (by kernel_rfl) (hp16) w) ?_
      refine vcL_pure rfl rfl (Value.pointer (some p15)) (fun w => by kernel_rfl) ?_
      obtain ⟨t29, hc17, h⟩ := h
      refine vcL_val rfl rfl (Value.map t29) (exec_load rfl (by kernel_rfl) (run_load1 (fun w => by kernel_rfl) ((hc17)))) ?_
      obtain ⟨t30, hl18, h⟩ := h
      refine vcL_val rfl rfl (Value.int .i64 t30) (exec_sem (c := Builtin.len_ #[101] 3 #[(Value.map t29)]) (by kernel_rfl) ((hl18) _ (Ext.refl _))) ?_
      refine vcL_pure rfl rfl (Value.bool (decide (128 ≤ t30))) (fun w => by kernel_rfl) ?_
      refine vcL_nil ?_
      refine Vc.cond (decide (128 ≤ t30)) (by kernel_rfl) (fun hb => ?_) (fun hb => ?_)
      · have h := h.1 (of_decide_eq_true hb)
        refine Vc.seq ?_
        refine Vc.region ?_
        refine vcL_pure rfl rfl (Value.int .i64 26) (fun w => by kernel_rfl) ?_
        refine vcL_nil ?_
        refine Vc.ret ?_
        refine outs_ret ?_
        refine done_mk (Value.int .i64 26) (res1 (resC_tmp (by kernel_rfl))) ?_
        exact ⟨26, rfl, h⟩
      · have h := h.2 (of_decide_eq_false hb)
        refine Vc.skip ?_
        refine Vc.seq ?_
        obtain ⟨vw19, hvw19⟩ : ∃ y, y = vw14.drew := ⟨_, rfl⟩
        have h := h vw19 hvw19
        refine Vc.draw (by kernel_rfl) (fun i => !(memN [7] i)) (.pur 0 (.pur 1 (.pur 2 (.val 3 (.val 4 (.val 5 (.eff 6 (.eff 7 .fin .stop) .stop))))))) (by kernel_rfl) ?_
        rw [← hvw19]
        clear hvw19
        refine vcS_pure rfl rfl rfl (Value.pointer c) (fun w => by kernel_rfl) ?_
        obtain ⟨p20, hp21, h⟩ := h
        refine vcS_pure rfl rfl rfl (Value.pointer (some p20)) (fun w => by exact exec_nilCheck rfl (by kernel_rfl) (hp21) w) ?_
        refine vcS_pure rfl rfl rfl (Value.pointer (some p20)) (fun w => by kernel_rfl) ?_
        obtain ⟨t35, hc22, h⟩ := h
        refine vcS_val rfl rfl rfl (Value.map t35) (fun w' hx => exec_load rfl (by kernel_rfl) (run_load1 (fun w => by kernel_rfl) ((hc22).ext hx))) ?_
        obtain ⟨t36_name, t36_version_Major, t36_version_Minor, t36_version_Patch, hc23, h⟩ := h
        refine vcS_val rfl rfl rfl (Value.agg #[(Value.string t36_name), (Value.int .i64 t36_version_Major), (Value.int .i64 t36_version_Minor), (Value.int .i64 t36_version_Patch)]) (fun w' hx => exec_load rfl (by kernel_rfl) (run_loadN (fun w => by kernel_rfl) (fun w => by kernel_rfl) ((hc23).ext hx))) ?_
        obtain ⟨t37_Name, t37_Version_Major, t37_Version_Minor, t37_Version_Patch, t37_Deps, t37_Peers, t37_Optional, hc24, h⟩ := h
        refine vcS_val rfl rfl rfl (Value.agg #[(Value.string t37_Name), (Value.int .i64 t37_Version_Major), (Value.int .i64 t37_Version_Minor), (Value.int .i64 t37_Version_Patch), (Sl.v t37_Deps), (Sl.v t37_Peers), (Sl.v t37_Optional)]) (fun w' hx => exec_load rfl (by kernel_rfl) (run_loadN (fun w => by kernel_rfl) (fun w => by kernel_rfl) ((hc24).ext hx))) ?_
        refine vcS_eff rfl rfl (opVC_call rfl (by kernel_rfl) (callS.mono h fun v26 vw25 h => ?_)) vcS_stop
        obtain ⟨hx27, h⟩ := h
        obtain ⟨t38_Name, t38_Version_Major, t38_Version_Minor, t38_Version_Patch, t38_Deps, t38_Peers, t38_Optional, rfl, h⟩ := h
        refine ⟨fun _ => hx27, ?_⟩
        refine vcS_eff rfl rfl (opVC_semU rfl (c := Instr.mapUpdate 101 (Value.map t35) (Value.agg #[(Value.string t36_name), (Value.int .i64 t36_version_Major), (Value.int .i64 t36_version_Minor), (Value.int .i64 t36_version_Patch)]) (Value.agg #[(Value.string t38_Name), (Value.int .i64 t38_Version_Major), (Value.int .i64 t38_Version_Minor), (Value.int .i64 t38_Version_Patch), (Sl.v t38_Deps), (Sl.v t38_Peers), (Sl.v t38_Optional)])) (by kernel_rfl) (semU.mono h fun vw28 h => ?_)) vcS_stop
        refine ⟨fun hb => absurd hb (by decide), ?_⟩
        refine vcS_fin ?_
        refine Vc.seq ?_
        refine Vc.region ?_
        refine vcL_pure rfl rfl (Value.int .i64 0) (fun w => by kernel_rfl) ?_
        refine vcL_nil ?_
        refine Vc.ret ?_
        refine outs_ret ?_
        refine done_mk (Value.int .i64 0) (res1 (resC_tmp (by kernel_rfl))) ?_
        exact ⟨0, rfl, h⟩
theorem catalog_Catalog_Put.go {c : Option Addr} {p_Name : ByteArray} {p_Version_Major : Int} {p_Version_Minor : Int} {p_Version_Patch : Int} {p_Deps : Sl} {p_Peers : Sl} {p_Optional : Sl} {w : World} {k : Value → World → Prop} (h : catalog_Catalog_Put c p_Name p_Version_Major p_Version_Minor p_Version_Patch p_Deps p_Peers p_Optional w fun r0 w' => k (Value.int .i64 r0) w') : callS Tryz.prog 19 [(Value.pointer c), (Value.agg #[(Value.string p_Name), (Value.int .i64 p_Version_Major), (Value.int .i64 p_Version_Minor), (Value.int .i64 p_Version_Patch), (Sl.v p_Deps), (Sl.v p_Peers), (Sl.v p_Optional)])] w k := (catalog_Catalog_Put.sound c p_Name p_Version_Major p_Version_Minor p_Version_Patch p_Deps p_Peers p_Optional w _ h).mono (by rintro _ _ ⟨r0, rfl, h⟩; exact h)

/-- (*halyard/catalog.Catalog).Get -/
def catalog_Catalog_Get (c : Option Addr) (name : ByteArray) (v_Major : Int) (v_Minor : Int) (v_Patch : Int) (w : World) (R : ByteArray → Int → Int → Int → Sl → Sl → Sl → Bool → World → Prop) : Prop :=
  newS w [(Value.int .i64 v_Major), (Value.int .i64 v_Minor), (Value.int .i64 v_Patch)] 30 fun a vw => newS vw [(Value.string (ByteArray.mk #[])), (Value.int .i64 0), (Value.int .i64 0), (Value.int .i64 0), (Sl.v Sl.nil), (Sl.v Sl.nil), (Sl.v Sl.nil)] 48 fun a1 vw2 => bnd vw2.drew fun (vw3 : World) => ∃ (p : Addr), (c = some p) ∧ ∃ (t14 : Option Nat), (ldc vw3 p [(Value.map t14)]) ∧ ∃ (t16_Major : Int) (t16_Minor : Int) (t16_Patch : Int), (ldc vw3 a [(Value.int .i64 t16_Major), (Value.int .i64 t16_Minor), (Value.int .i64 t16_Patch)]) ∧ ∃ (t18_Name : ByteArray) (t18_Version_Major : Int) (t18_Version_Minor : Int) (t18_Version_Patch : Int) (t18_Deps : Sl) (t18_Peers : Sl) (t18_Optional : Sl) (t18b : Bool), (stabS Tryz.prog (Instr.lookup 101 (Value.map t14) (Value.agg #[(Value.string name), (Value.int .i64 t16_Major), (Value.int .i64 t16_Minor), (Value.int .i64 t16_Patch)]) true) vw3 (Value.tuple #[(Value.agg #[(Value.string t18_Name), (Value.int .i64 t18_Version_Major), (Value.int .i64 t18_Version_Minor), (Value.int .i64 t18_Version_Patch), (Sl.v t18_Deps), (Sl.v t18_Peers), (Sl.v t18_Optional)]), (Value.bool t18b)])) ∧ newS vw3 [(Value.string (ByteArray.mk #[])), (Value.int .i64 0), (Value.int .i64 0), (Value.int .i64 0), (Sl.v Sl.nil), (Sl.v Sl.nil), (Sl.v Sl.nil)] 48 fun a6 vw7 => stw vw7 a6 [(Value.string t18_Name), (Value.int .i64 t18_Version_Major), (Value.int .i64 t18_Version_Minor), (Value.int .i64 t18_Version_Patch), (Sl.v t18_Deps), (Sl.v t18_Peers), (Sl.v t18_Optional)] fun vw8 => ∃ (t21_Name : ByteArray) (t21_Version_Major : Int) (t21_Version_Minor : Int) (t21_Version_Patch : Int) (t21_Deps : Sl) (t21_Peers : Sl) (t21_Optional : Sl), (ldc vw8 a6 [(Value.string t21_Name), (Value.int .i64 t21_Version_Major), (Value.int .i64 t21_Version_Minor), (Value.int .i64 t21_Version_Patch), (Sl.v t21_Deps), (Sl.v t21_Peers), (Sl.v t21_Optional)]) ∧ callS Tryz.prog 62 [(Value.agg #[(Value.string t21_Name), (Value.int .i64 t21_Version_Major), (Value.int .i64 t21_Version_Minor), (Value.int .i64 t21_Version_Patch), (Sl.v t21_Deps), (Sl.v t21_Peers), (Sl.v t21_Optional)])] vw8 fun v11 vw10 => ∃ (t22_Name : ByteArray) (t22_Version_Major : Int) (t22_Version_Minor : Int) (t22_Version_Patch : Int) (t22_Deps : Sl) (t22_Peers : Sl) (t22_Optional : Sl), v11 = (Value.agg #[(Value.string t22_Name), (Value.int .i64 t22_Version_Major), (Value.int .i64 t22_Version_Minor), (Value.int .i64 t22_Version_Patch), (Sl.v t22_Deps), (Sl.v t22_Peers), (Sl.v t22_Optional)]) ∧ stw vw10 a1 [(Value.string t22_Name), (Value.int .i64 t22_Version_Major), (Value.int .i64 t22_Version_Minor), (Value.int .i64 t22_Version_Patch), (Sl.v t22_Deps), (Sl.v t22_Peers), (Sl.v t22_Optional)] fun vw12 => ∃ (r_Name : ByteArray) (r_Version_Major : Int) (r_Version_Minor : Int) (r_Version_Patch : Int) (r_Deps : Sl) (r_Peers : Sl) (r_Optional : Sl), ldc vw12 a1 [(Value.string r_Name), (Value.int .i64 r_Version_Major), (Value.int .i64 r_Version_Minor), (Value.int .i64 r_Version_Patch), (Sl.v r_Deps), (Sl.v r_Peers), (Sl.v r_Optional)] ∧ R r_Name r_Version_Major r_Version_Minor r_Version_Patch r_Deps r_Peers r_Optional t18b vw12
set_option maxHeartbeats 8000000 in
theorem catalog_Catalog_Get.sound (c : Option Addr) (name : ByteArray) (v_Major : Int) (v_Minor : Int) (v_Patch : Int) (w : World) (R : ByteArray → Int → Int → Int → Sl → Sl → Sl → Bool → World → Prop) (h : catalog_Catalog_Get c name v_Major v_Minor v_Patch w R) : callS Tryz.prog 22 [(Value.pointer c), (Value.string name), (Value.agg #[(Value.int .i64 v_Major), (Value.int .i64 v_Minor), (Value.int .i64 v_Patch)])] w (fun v w' => ∃ (r0 : ByteArray) (r1 : Int) (r2 : Int) (r3 : Int) (r4 : Sl) (r5 : Sl) (r6 : Sl) (r7 : Bool), v = (Value.tuple #[(Value.agg #[(Value.string r0), (Value.int .i64 r1), (Value.int .i64 r2), (Value.int .i64 r3), (Sl.v r4), (Sl.v r5), (Sl.v r6)]), (Value.bool r7)]) ∧ R r0 r1 r2 r3 r4 r5 r6 r7 w') := by
  unfold catalog_Catalog_Get at h
  refine calls_of_vc 24 rfl Tryz.func22 rfl (by kernel_rfl) (by simp) ?_
  refine Vc.seq ?_
  refine Vc.region ?_
  refine vcL_eff rfl (opVC_new rfl (fun a => Value.pointer (some a)) (by kernel_rfl) (newS.mono h fun a vw hx h => ?_)) 
  refine vcL_eff rfl (opVC_new rfl (fun a => Value.pointer (some a)) (by kernel_rfl) (newS.mono h fun a1 vw2 hx h => ?_)) 
  refine vcL_pure rfl rfl (Value.bool false) (fun w => by kernel_rfl) ?_
  refine vcL_nil ?_
  refine Vc.seq ?_
  obtain ⟨vw3, hvw3⟩ : ∃ y, y = vw2.drew := ⟨_, rfl⟩
  have h := h vw3 hvw3
  refine Vc.draw (by kernel_rfl) (fun i => !(memN [12] i)) (.pur 0 (.pur 1 (.pur 2 (.val 3 (.pur 4 (.val 5 (.pur 6 (.val 7 (.pur 8 (.pur 9 (.pur 10 (.eff 11 (.eff 12 (.pur 13 .fin) .stop) .stop)))))))))))) (by kernel_rfl) ?_
  rw [← hvw3]
  clear hvw3
  refine vcS_pure rfl rfl rfl (Value.pointer c) (fun w => by kernel_rfl) ?_
  obtain ⟨p, hp, h⟩ := h
  refine vcS_pure rfl rfl rfl (Value.pointer (some p)) (fun w => by exact exec_nilCheck rfl (by kernel_rfl) (hp) w) ?_
  refine vcS_pure rfl rfl rfl (Value.pointer (some p)) (fun w => by kernel_rfl) ?_
  obtain ⟨t14, hc, h⟩ := h
  refine vcS_val rfl rfl rfl (Value.map t14) (fun w' hx => exec_load rfl (by kernel_rfl) (run_load1 (fun w => by kernel_rfl) ((hc).ext hx))) ?_
  refine vcS_pure rfl rfl rfl (Value.string name) (fun w => by kernel_rfl) ?_
  obtain ⟨t16_Major, t16_Minor, t16_Patch, hc4, h⟩ := h
  refine vcS_val rfl rfl rfl (Value.agg #[(Value.int .i64 t16_Major), (Value.int .i64 t16_Minor), (Value.int .i64 t16_Patch)]) (fun w' hx => exec_load rfl (by kernel_rfl) (run_loadN (fun w => by kernel_rfl) (fun w => by kernel_rfl) ((hc4).ext hx))) ?_
  refine vcS_pure rfl rfl rfl (Value.agg #[(Value.string name), (Value.int .i64 t16_Major), (Value.int .i64 t16_Minor), (Value.int .i64 t16_Patch)]) (fun w => by kernel_rfl) ?_
  obtain ⟨t18_Name, t18_Version_Major, t18_Version_Minor, t18_Version_Patch, t18_Deps, t18_Peers, t18_Optional, t18b, hl, h⟩ := h
  refine vcS_val rfl rfl rfl (Value.tuple #[(Value.agg #[(Value.string t18_Name), (Value.int .i64 t18_Version_Major), (Value.int .i64 t18_Version_Minor), (Value.int .i64 t18_Version_Patch), (Sl.v t18_Deps), (Sl.v t18_Peers), (Sl.v t18_Optional)]), (Value.bool t18b)]) (fun w' hx => exec_sem (c := Instr.lookup 101 (Value.map t14) (Value.agg #[(Value.string name), (Value.int .i64 t16_Major), (Value.int .i64 t16_Minor), (Value.int .i64 t16_Patch)]) true) (by kernel_rfl) ((hl) _ hx)) ?_
  refine vcS_pure rfl rfl rfl (Value.tuple #[(Value.agg #[(Value.string t18_Name), (Value.int .i64 t18_Version_Major), (Value.int .i64 t18_Version_Minor), (Value.int .i64 t18_Version_Patch), (Sl.v t18_Deps), (Sl.v t18_Peers), (Sl.v t18_Optional)]), (Value.bool t18b)]) (fun w => by kernel_rfl) ?_
  refine vcS_pure rfl rfl rfl (Value.agg #[(Value.string t18_Name), (Value.int .i64 t18_Version_Major), (Value.int .i64 t18_Version_Minor), (Value.int .i64 t18_Version_Patch), (Sl.v t18_Deps), (Sl.v t18_Peers), (Sl.v t18_Optional)]) (fun w => by kernel_rfl) ?_
  refine vcS_pure rfl rfl rfl (Value.bool t18b) (fun w => by kernel_rfl) ?_
  refine vcS_eff rfl rfl (opVC_new rfl (fun a => Value.pointer (some a)) (by kernel_rfl) (newS.mono h fun a6 vw7 hx h => ?_)) vcS_stop
  refine ⟨fun _ => hx, ?_⟩
  refine vcS_eff rfl rfl (opVC_store rfl rfl (a := a6) (by kernel_rfl) (v := (Value.agg #[(Value.string t18_Name), (Value.int .i64 t18_Version_Major), (Value.int .i64 t18_Version_Minor), (Value.int .i64 t18_Version_Patch), (Sl.v t18_Deps), (Sl.v t18_Peers), (Sl.v t18_Optional)])) (by kernel_rfl) [(Value.string t18_Name), (Value.int .i64 t18_Version_Major), (Value.int .i64 t18_Version_Minor), (Value.int .i64 t18_Version_Patch), (Sl.v t18_Deps), (Sl.v t18_Peers), (Sl.v t18_Optional)] (by kernel_rfl) (fun w => by kernel_rfl) (by kernel_rfl) (stw.mono h fun vw8 h => ?_)) vcS_stop
  refine ⟨fun hb => absurd hb (by decide), ?_⟩
  refine vcS_pure rfl rfl rfl (Value.bool t18b) (fun w => by kernel_rfl) ?_
  refine vcS_fin ?_
  refine Vc.seq ?_
  refine Vc.region ?_
  obtain ⟨t21_Name, t21_Version_Major, t21_Version_Minor, t21_Version_Patch, t21_Deps, t21_Peers, t21_Optional, hc9, h⟩ := h
  refine vcL_val rfl rfl (Value.agg #[(Value.string t21_Name), (Value.int .i64 t21_Version_Major), (Value.int .i64 t21_Version_Minor), (Value.int .i64 t21_Version_Patch), (Sl.v t21_Deps), (Sl.v t21_Peers), (Sl.v t21_Optional)]) (exec_load rfl (by kernel_rfl) (run_loadN (fun w => by kernel_rfl) (fun w => by kernel_rfl) ((hc9)))) ?_
  refine vcL_eff rfl (opVC_call rfl (by kernel_rfl) (callS.mono h fun v11 vw10 h => ?_)) 
  obtain ⟨t22_Name, t22_Version_Major, t22_Version_Minor, t22_Version_Patch, t22_Deps, t22_Peers, t22_Optional, rfl, h⟩ := h
  refine vcL_pure rfl rfl (Value.bool t18b) (fun w => by kernel_rfl) ?_
  refine vcL_eff rfl (opVC_store rfl rfl (a := a1) (by kernel_rfl) (v := (Value.agg #[(Value.string t22_Name), (Value.int .i64 t22_Version_Major), (Value.int .i64 t22_Version_Minor), (Value.int .i64 t22_Version_Patch), (Sl.v t22_Deps), (Sl.v t22_Peers), (Sl.v t22_Optional)])) (by kernel_rfl) [(Value.string t22_Name), (Value.int .i64 t22_Version_Major), (Value.int .i64 t22_Version_Minor), (Value.int .i64 t22_Version_Patch), (Sl.v t22_Deps), (Sl.v t22_Peers), (Sl.v t22_Optional)] (by kernel_rfl) (fun w => by kernel_rfl) (by kernel_rfl) (stw.mono h fun vw12 h => ?_)) 
  refine vcL_pure rfl rfl (Value.bool t18b) (fun w => by kernel_rfl) ?_
  refine vcL_nil ?_
  refine Vc.ret ?_
  refine outs_ret ?_
  obtain ⟨r_Name, r_Version_Major, r_Version_Minor, r_Version_Patch, r_Deps, r_Peers, r_Optional, hc13, h⟩ := h
  refine done_mk (Value.tuple #[(Value.agg #[(Value.string r_Name), (Value.int .i64 r_Version_Major), (Value.int .i64 r_Version_Minor), (Value.int .i64 r_Version_Patch), (Sl.v r_Deps), (Sl.v r_Peers), (Sl.v r_Optional)]), (Value.bool t18b)]) (res2 (resC_cell (by kernel_rfl) (run_loadN (fun w => by kernel_rfl) (fun w => by kernel_rfl) hc13)) (resC_tmp (by kernel_rfl))) ?_
  exact ⟨r_Name, r_Version_Major, r_Version_Minor, r_Version_Patch, r_Deps, r_Peers, r_Optional, t18b, rfl, h⟩
theorem catalog_Catalog_Get.go {c : Option Addr} {name : ByteArray} {v_Major : Int} {v_Minor : Int} {v_Patch : Int} {w : World} {k : Value → World → Prop} (h : catalog_Catalog_Get c name v_Major v_Minor v_Patch w fun r0 r1 r2 r3 r4 r5 r6 r7 w' => k (Value.tuple #[(Value.agg #[(Value.string r0), (Value.int .i64 r1), (Value.int .i64 r2), (Value.int .i64 r3), (Sl.v r4), (Sl.v r5), (Sl.v r6)]), (Value.bool r7)]) w') : callS Tryz.prog 22 [(Value.pointer c), (Value.string name), (Value.agg #[(Value.int .i64 v_Major), (Value.int .i64 v_Minor), (Value.int .i64 v_Patch)])] w k := (catalog_Catalog_Get.sound c name v_Major v_Minor v_Patch w _ h).mono (by rintro _ _ ⟨r0, r1, r2, r3, r4, r5, r6, r7, rfl, h⟩; exact h)

/-- (*halyard/catalog.Catalog).Versions -/
def catalog_Catalog_Versions (c : Option Addr) (name : ByteArray) (w : World) (R : Sl → World → Prop) : Prop :=
  ∃ (p : Addr), (c = some p) ∧ ∃ (t10 : Option Nat), (ldc w p [(Value.map t10)]) ∧ semS Tryz.prog (Instr.range 101 (Value.map t10)) w fun v vw => ∃ (it : Addr), v = (Value.pointer (some it)) ∧ loop1 Sl.nil vw fun out vw1 nxt => semS Tryz.prog (Instr.next (Value.pointer (some it)) false 0) vw1 fun v3 vw2 => ∃ (ok : Bool) (key_name : ByteArray) (key_version_Major : Int) (key_version_Minor : Int) (key_version_Patch : Int) (val_Name : ByteArray) (val_Version_Major : Int) (val_Version_Minor : Int) (val_Version_Patch : Int) (val_Deps : Sl) (val_Peers : Sl) (val_Optional : Sl), v3 = nextV ok (Value.agg #[(Value.string key_name), (Value.int .i64 key_version_Major), (Value.int .i64 key_version_Minor), (Value.int .i64 key_version_Patch)]) (Value.agg #[(Value.string val_Name), (Value.int .i64 val_Version_Major), (Value.int .i64 val_Version_Minor), (Value.int .i64 val_Version_Patch), (Sl.v val_Deps), (Sl.v val_Peers), (Sl.v val_Optional)]) ∧ ((ok = true → ∃ (key_name4 : ByteArray) (key_version_Major5 : Int) (key_version_Minor6 : Int) (key_version_Patch7 : Int) (val_Name8 : ByteArray) (val_Version_Major9 : Int) (val_Version_Minor10 : Int) (val_Version_Patch11 : Int) (val_Deps12 : Sl) (val_Peers13 : Sl) (val_Optional14 : Sl), (stabS Tryz.prog (Instr.entry (Value.pointer (some it))) vw2 (Value.tuple #[(Value.agg #[(Value.string key_name4), (Value.int .i64 key_version_Major5), (Value.int .i64 key_version_Minor6), (Value.int .i64 key_version_Patch7)]), (Value.agg #[(Value.string val_Name8), (Value.int .i64 val_Version_Major9), (Value.int .i64 val_Version_Minor10), (Value.int .i64 val_Version_Patch11), (Sl.v val_Deps12), (Sl.v val_Peers13), (Sl.v val_Optional14)])])) ∧ newS vw2 [(Value.string (ByteArray.mk #[])), (Value.int .i64 0), (Value.int .i64 0), (Value.int .i64 0)] 106 fun a vw15 => stw vw15 a [(Value.string key_name4), (Value.int .i64 key_version_Major5), (Value.int .i64 key_version_Minor6), (Value.int .i64 key_version_Patch7)] fun vw16 => ∃ (t17 : ByteArray), (ldc vw16 a [(Value.string t17)]) ∧ ((t17 = name → ∃ (t22_Major : Int) (t22_Minor : Int) (t22_Patch : Int), (ldc vw16 (a.add 1) [(Value.int .i64 t22_Major), (Value.int .i64 t22_Minor), (Value.int .i64 t22_Patch)]) ∧ newS vw16 [(Value.int .i64 t22_Major), (Value.int .i64 t22_Minor), (Value.int .i64 t22_Patch)] 30 fun a19 vw20 => appS Tryz.prog 60 60 out (Sl.v (Sl.mk (some a19) 1 1)) vw20 fun t24 vw21 => nxt t24 vw21) ∧ (¬ (t17 = name) → nxt out vw16))) ∧ (ok = false → callS Tryz.prog 64 [(Sl.v out), (Value.func (.func 65) #[] #[])] vw2 fun v23 vw22 => v23 = (Value.tuple #[]) ∧ callS Tryz.prog 66 [(Sl.v out)] vw22 fun v25 vw24 => ∃ (t28 : Sl), v25 = (Sl.v t28) ∧ R t28 vw24))
set_option maxHeartbeats 8000000 in
theorem catalog_Catalog_Versions.sound (c : Option Addr) (name : ByteArray) (w : World) (R : Sl → World → Prop) (h : catalog_Catalog_Versions c name w R) : callS Tryz.prog 26 [(Value.pointer c), (Value.string name)] w (fun v w' => ∃ (r0 : Sl), v = (Sl.v r0) ∧ R r0 w') := by
  unfold catalog_Catalog_Versions at h
  refine calls_of_vc 29 rfl Tryz.func26 rfl (by kernel_rfl) (by simp) ?_
  refine Vc.seq ?_
  refine Vc.region ?_
  refine vcL_pure rfl rfl (Sl.v Sl.nil) (fun w => by kernel_rfl) ?_
  refine vcL_nil ?_
  refine Vc.seq ?_
  refine Vc.region ?_
  refine vcL_pure rfl rfl (Sl.v Sl.nil) (fun w => by kernel_rfl) ?_
  refine vcL_nil ?_
  refine Vc.seq ?_
  refine Vc.seq ?_
  refine Vc.region ?_
  refine vcL_pure rfl rfl (Value.pointer c) (fun w => by kernel_rfl) ?_
  obtain ⟨p, hp, h⟩ := h
  refine vcL_pure rfl rfl (Value.pointer (some p)) (fun w => by exact exec_nilCheck rfl (by kernel_rfl) (hp) w) ?_
  refine vcL_pure rfl rfl (Value.pointer (some p)) (fun w => by kernel_rfl) ?_
  obtain ⟨t10, hc, h⟩ := h
  refine vcL_val rfl rfl (Value.map t10) (exec_load rfl (by kernel_rfl) (run_load1 (fun w => by kernel_rfl) ((hc)))) ?_
  refine vcL_eff rfl (opVC_sem rfl (c := Instr.range 101 (Value.map t10)) (by kernel_rfl) (semS.mono h fun v vw h => ?_)) 
  obtain ⟨it, rfl, h⟩ := h
  refine vcL_nil ?_
  refine Vc.block ?_
  obtain ⟨vI, mu, h, hr⟩ := h
  refine Vc.loopJ (σ := Sl) [5] [6, 12, 13, 14, 15, 16, 17, 18, 19, 20, 21, 22, 23, 24] (fun s => [(5, (Sl.v s))]) (fun s w => vI s w) (fun s w => mu s w) Sl.nil h (fun _ => rfl) (by kernel_rfl) ?_
  intro out vw1 j h
  have h := hr out vw1 h
  refine Vc.seq ?_
  refine Vc.region ?_
  refine vcL_eff rfl (opVC_sem rfl (c := Instr.next (Value.pointer (some it)) false 0) (by kernel_rfl) (semS.mono h fun v3 vw2 h => ?_)) 
  obtain ⟨ok, key_name, key_version_Major, key_version_Minor, key_version_Patch, val_Name, val_Version_Major, val_Version_Minor, val_Version_Patch, val_Deps, val_Peers, val_Optional, rfl, h⟩ := h
  refine vcL_pure rfl rfl (Value.bool ok) (fun w => by cases ok <;> kernel_rfl) ?_
  refine vcL_nil ?_
  refine Vc.seq ?_
  refine Vc.cond ok (by kernel_rfl) (fun hb => ?_) (fun hb => ?_)
  · have hq := h.1 (hb)
    clear h
    subst hb
    have h := hq
    clear hq
    refine Vc.skip ?_
    refine Vc.block ?_
    refine Vc.seq ?_
    refine Vc.region ?_
    obtain ⟨key_name4, key_version_Major5, key_version_Minor6, key_version_Patch7, val_Name8, val_Version_Major9, val_Version_Minor10, val_Version_Patch11, val_Deps12, val_Peers13, val_Optional14, hl, h⟩ := h
    refine vcL_val rfl rfl (Value.tuple #[(Value.agg #[(Value.string key_name4), (Value.int .i64 key_version_Major5), (Value.int .i64 key_version_Minor6), (Value.int .i64 key_version_Patch7)]), (Value.agg #[(Value.string val_Name8), (Value.int .i64 val_Version_Major9), (Value.int .i64 val_Version_Minor10), (Value.int .i64 val_Version_Patch11), (Sl.v val_Deps12), (Sl.v val_Peers13), (Sl.v val_Optional14)])]) (exec_sem (c := Instr.entry (Value.pointer (some it))) (by kernel_rfl) ((hl) _ (Ext.refl _))) ?_
    refine vcL_pure rfl rfl (Value.agg #[(Value.string key_name4), (Value.int .i64 key_version_Major5), (Value.int .i64 key_version_Minor6), (Value.int .i64 key_version_Patch7)]) (fun w => by kernel_rfl) ?_
    refine vcL_eff rfl (opVC_new rfl (fun a => Value.pointer (some a)) (by kernel_rfl) (newS.mono h fun a vw15 hx h => ?_)) 
    refine vcL_eff rfl (opVC_store rfl rfl (a := a) (by kernel_rfl) (v := (Value.agg #[(Value.string key_name4), (Value.int .i64 key_version_Major5), (Value.int .i64 key_version_Minor6), (Value.int .i64 key_version_Patch7)])) (by kernel_rfl) [(Value.string key_name4), (Value.int .i64 key_version_Major5), (Value.int .i64 key_version_Minor6), (Value.int .i64 key_version_Patch7)] (by kernel_rfl) (fun w => by kernel_rfl) (by kernel_rfl) (stw.mono h fun vw16 h => ?_)) 
    refine vcL_nil ?_
    refine Vc.seq ?_
    refine Vc.region ?_
    refine vcL_pure rfl rfl (Value.pointer (some a)) (fun w => by kernel_rfl) ?_
    obtain ⟨t17, hc17, h⟩ := h
    refine vcL_val rfl rfl (Value.string t17) (exec_load rfl (by kernel_rfl) (run_load1 (fun w => by kernel_rfl) ((hc17)))) ?_
    refine vcL_purs 2 [(19, (Value.bool (bEq t17 name))), (18, (Value.string name))] (by kernel_rfl) ?_
    refine vcL_nil ?_
    refine Vc.cond (bEq t17 name) (by kernel_rfl) (fun hb => ?_) (fun hb => ?_)
    · have h := h.1 (bEq_iff.1 hb)
      refine Vc.region ?_
      refine vcL_purs 2 [(21, (Value.pointer (some (a.add 1)))), (20, (Sl.v out))] (by kernel_rfl) ?_
      obtain ⟨t22_Major, t22_Minor, t22_Patch, hc18, h⟩ := h
      refine vcL_val rfl rfl (Value.agg #[(Value.int .i64 t22_Major), (Value.int .i64 t22_Minor), (Value.int .i64 t22_Patch)]) (exec_load rfl (by kernel_rfl) (run_loadN (fun w => by kernel_rfl) (fun w => by kernel_rfl) ((hc18)))) ?_
      refine vcL_eff rfl (opVC_new rfl (fun a => Value.slice (some a) 1 1) (by kernel_rfl) (newS.mono h fun a19 vw20 hx h => ?_)) 
      refine vcL_eff rfl (opVC_sem rfl (c := Builtin.append_ #[60, 60] 60 #[(Sl.v out), (Sl.v (Sl.mk (some a19) 1 1))]) (by kernel_rfl) (appS.elim (ty := 60) h fun t24 vw21 h => ?_)) 
      refine vcL_pure rfl rfl (Sl.v t24) (fun w => by kernel_rfl) ?_
      refine vcL_nil ?_
      exact ⟨t24, 30, ⟨rfl, by kernel_rfl, by kernel_rfl, by kernel_rfl⟩, h⟩
    · have h := h.2 (bEq_false.1 hb)
      refine Vc.skip ?_
      exact ⟨out, 24, ⟨rfl, by kernel_rfl, by kernel_rfl, by kernel_rfl⟩, h⟩
  · have hq := h.2 (hb)
    clear h
    subst hb
    have h := hq
    clear hq
    refine Vc.exit ?_
    refine outOf_hit ?_
    refine Vc.seq ?_
    refine Vc.region ?_
    refine vcL_pure rfl rfl (Sl.v out) (fun w => by kernel_rfl) ?_
    refine vcL_eff rfl (opVC_call rfl (by kernel_rfl) (callS.mono h fun v23 vw22 h => ?_)) 
    obtain ⟨rfl, h⟩ := h
    refine vcL_nil ?_
    refine Vc.seq ?_
    refine Vc.region ?_
    refine vcL_pure rfl rfl (Sl.v out) (fun w => by kernel_rfl) ?_
    refine vcL_eff rfl (opVC_call rfl (by kernel_rfl) (callS.mono h fun v25 vw24 h => ?_)) 
    obtain ⟨t28, rfl, h⟩ := h
    refine vcL_pure rfl rfl (Sl.v t28) (fun w => by kernel_rfl) ?_
    refine vcL_nil ?_
    refine Vc.ret ?_
    refine outs_ret ?_
    refine done_mk (Sl.v t28) (res1 (resC_tmp (by kernel_rfl))) ?_
    exact ⟨t28, rfl, h⟩
theorem catalog_Catalog_Versions.go {c : Option Addr} {name : ByteArray} {w : World} {k : Value → World → Prop} (h : catalog_Catalog_Versions c name w fun r0 w' => k (Sl.v r0) w') : callS Tryz.prog 26 [(Value.pointer c), (Value.string name)] w k := (catalog_Catalog_Versions.sound c name w _ h).mono (by rintro _ _ ⟨r0, rfl, h⟩; exact h)

/-- (*halyard/catalog.Catalog).Candidates -/
def catalog_Catalog_Candidates (c : Option Addr) (name : ByteArray) (l : Sl) (pins : Sl) (w : World) (R : Sl → World → Prop) : Prop :=
  newS w [(Value.string name)] 9 fun a vw => newS vw [(Sl.v l)] 53 fun a1 vw2 => newS vw2 [(Sl.v pins)] 28 fun a3 vw4 => ∃ (t11 : ByteArray), (ldc vw4 a [(Value.string t11)]) ∧ callS Tryz.prog 26 [(Value.pointer c), (Value.string t11)] vw4 fun v vw5 => ∃ (t12 : Sl), v = (Sl.v t12) ∧ callS Tryz.prog 67 [(Sl.v t12), (Value.func (.func 68) #[] #[(Value.pointer (some a1))])] vw5 fun v7 vw6 => ∃ (t14 : Sl), v7 = (Sl.v t14) ∧ callS Tryz.prog 69 [(Sl.v t14), (Value.func (.func 70) #[] #[(Value.pointer (some a3)), (Value.pointer (some a))])] vw6 fun v10 vw9 => v10 = (Value.tuple #[]) ∧ callS Tryz.prog 66 [(Sl.v t14)] vw9 fun v13 vw12 => ∃ (t19 : Sl), v13 = (Sl.v t19) ∧ R t19 vw12
set_option maxHeartbeats 8000000 in
theorem catalog_Catalog_Candidates.sound (c : Option Addr) (name : ByteArray) (l : Sl) (pins : Sl) (w : World) (R : Sl → World → Prop) (h : catalog_Catalog_Candidates c name l pins w R) : callS Tryz.prog 28 [(Value.pointer c), (Value.string name), (Sl.v l), (Sl.v pins)] w (fun v w' => ∃ (r0 : Sl), v = (Sl.v r0) ∧ R r0 w') := by
  unfold catalog_Catalog_Candidates at h
  refine calls_of_vc 20 rfl Tryz.func28 rfl (by kernel_rfl) (by simp) ?_
  refine Vc.seq ?_
  refine Vc.region ?_
  refine vcL_eff rfl (opVC_new rfl (fun a => Value.pointer (some a)) (by kernel_rfl) (newS.mono h fun a vw hx h => ?_)) 
  refine vcL_eff rfl (opVC_new rfl (fun a => Value.pointer (some a)) (by kernel_rfl) (newS.mono h fun a1 vw2 hx h => ?_)) 
  refine vcL_eff rfl (opVC_new rfl (fun a => Value.pointer (some a)) (by kernel_rfl) (newS.mono h fun a3 vw4 hx h => ?_)) 
  refine vcL_pure rfl rfl (Sl.v Sl.nil) (fun w => by kernel_rfl) ?_
  refine vcL_nil ?_
  refine Vc.seq ?_
  refine Vc.region ?_
  refine vcL_pure rfl rfl (Value.pointer c) (fun w => by kernel_rfl) ?_
  obtain ⟨t11, hc, h⟩ := h
  refine vcL_val rfl rfl (Value.string t11) (exec_load rfl (by kernel_rfl) (run_load1 (fun w => by kernel_rfl) ((hc)))) ?_
  refine vcL_eff rfl (opVC_call rfl (by kernel_rfl) (callS.mono h fun v vw5 h => ?_)) 
  obtain ⟨t12, rfl, h⟩ := h
  refine vcL_pure rfl rfl (Value.func (.func 68) #[] #[(Value.pointer (some a1))]) (fun w => by kernel_rfl) ?_
  refine vcL_eff rfl (opVC_call rfl (by kernel_rfl) (callS.mono h fun v7 vw6 h => ?_)) 
  obtain ⟨t14, rfl, h⟩ := h
  refine vcL_pure rfl rfl (Sl.v t14) (fun w => by kernel_rfl) ?_
  refine vcL_nil ?_
  refine Vc.seq ?_
  refine Vc.region ?_
  refine vcL_purs 2 [(16, (Value.func (.func 70) #[] #[(Value.pointer (some a3)), (Value.pointer (some a))])), (15, (Sl.v t14))] (by kernel_rfl) ?_
  refine vcL_eff rfl (opVC_call rfl (by kernel_rfl) (callS.mono h fun v10 vw9 h => ?_)) 
  obtain ⟨rfl, h⟩ := h
  refine vcL_nil ?_
  refine Vc.seq ?_
  refine Vc.region ?_
  refine vcL_pure rfl rfl (Sl.v t14) (fun w => by kernel_rfl) ?_
  refine vcL_eff rfl (opVC_call rfl (by kernel_rfl) (callS.mono h fun v13 vw12 h => ?_)) 
  obtain ⟨t19, rfl, h⟩ := h
  refine vcL_pure rfl rfl (Sl.v t19) (fun w => by kernel_rfl) ?_
  refine vcL_nil ?_
  refine Vc.ret ?_
  refine outs_ret ?_
  refine done_mk (Sl.v t19) (res1 (resC_tmp (by kernel_rfl))) ?_
  exact ⟨t19, rfl, h⟩
theorem catalog_Catalog_Candidates.go {c : Option Addr} {name : ByteArray} {l : Sl} {pins : Sl} {w : World} {k : Value → World → Prop} (h : catalog_Catalog_Candidates c name l pins w fun r0 w' => k (Sl.v r0) w') : callS Tryz.prog 28 [(Value.pointer c), (Value.string name), (Sl.v l), (Sl.v pins)] w k := (catalog_Catalog_Candidates.sound c name l pins w _ h).mono (by rintro _ _ ⟨r0, rfl, h⟩; exact h)

/-- (*halyard/catalog.Catalog).All -/
def catalog_Catalog_All (c : Option Addr) (w : World) (R : Sl → World → Prop) : Prop :=
  ∃ (p : Addr), (c = some p) ∧ ∃ (t9 : Option Nat), (ldc w p [(Value.map t9)]) ∧ semS Tryz.prog (Instr.range 101 (Value.map t9)) w fun v vw => ∃ (it : Addr), v = (Value.pointer (some it)) ∧ loop1 Sl.nil vw fun out vw1 nxt => semS Tryz.prog (Instr.next (Value.pointer (some it)) false 0) vw1 fun v3 vw2 => ∃ (ok : Bool) (key_name : ByteArray) (key_version_Major : Int) (key_version_Minor : Int) (key_version_Patch : Int) (val_Name : ByteArray) (val_Version_Major : Int) (val_Version_Minor : Int) (val_Version_Patch : Int) (val_Deps : Sl) (val_Peers : Sl) (val_Optional : Sl), v3 = nextV ok (Value.agg #[(Value.string key_name), (Value.int .i64 key_version_Major), (Value.int .i64 key_version_Minor), (Value.int .i64 key_version_Patch)]) (Value.agg #[(Value.string val_Name), (Value.int .i64 val_Version_Major), (Value.int .i64 val_Version_Minor), (Value.int .i64 val_Version_Patch), (Sl.v val_Deps), (Sl.v val_Peers), (Sl.v val_Optional)]) ∧ ((ok = true → ∃ (key_name4 : ByteArray) (key_version_Major5 : Int) (key_version_Minor6 : Int) (key_version_Patch7 : Int) (val_Name8 : ByteArray) (val_Version_Major9 : Int) (val_Version_Minor10 : Int) (val_Version_Patch11 : Int) (val_Deps12 : Sl) (val_Peers13 : Sl) (val_Optional14 : Sl), (stabS Tryz.prog (Instr.entry (Value.pointer (some it))) vw2 (Value.tuple #[(Value.agg #[(Value.string key_name4), (Value.int .i64 key_version_Major5), (Value.int .i64 key_version_Minor6), (Value.int .i64 key_version_Patch7)]), (Value.agg #[(Value.string val_Name8), (Value.int .i64 val_Version_Major9), (Value.int .i64 val_Version_Minor10), (Value.int .i64 val_Version_Patch11), (Sl.v val_Deps12), (Sl.v val_Peers13), (Sl.v val_Optional14)])])) ∧ newS vw2 [(Value.string (ByteArray.mk #[])), (Value.int .i64 0), (Value.int .i64 0), (Value.int .i64 0), (Sl.v Sl.nil), (Sl.v Sl.nil), (Sl.v Sl.nil)] 48 fun a vw15 => stw vw15 a [(Value.string val_Name8), (Value.int .i64 val_Version_Major9), (Value.int .i64 val_Version_Minor10), (Value.int .i64 val_Version_Patch11), (Sl.v val_Deps12), (Sl.v val_Peers13), (Sl.v val_Optional14)] fun vw16 => ∃ (t16_Name : ByteArray) (t16_Version_Major : Int) (t16_Version_Minor : Int) (t16_Version_Patch : Int) (t16_Deps : Sl) (t16_Peers : Sl) (t16_Optional : Sl), (ldc vw16 a [(Value.string t16_Name), (Value.int .i64 t16_Version_Major), (Value.int .i64 t16_Version_Minor), (Value.int .i64 t16_Version_Patch), (Sl.v t16_Deps), (Sl.v t16_Peers), (Sl.v t16_Optional)]) ∧ callS Tryz.prog 62 [(Value.agg #[(Value.string t16_Name), (Value.int .i64 t16_Version_Major), (Value.int .i64 t16_Version_Minor), (Value.int .i64 t16_Version_Patch), (Sl.v t16_Deps), (Sl.v t16_Peers), (Sl.v t16_Optional)])] vw16 fun v19 vw18 => ∃ (t17_Name : ByteArray) (t17_Version_Major : Int) (t17_Version_Minor : Int) (t17_Version_Patch : Int) (t17_Deps : Sl) (t17_Peers : Sl) (t17_Optional : Sl), v19 = (Value.agg #[(Value.string t17_Name), (Value.int .i64 t17_Version_Major), (Value.int .i64 t17_Version_Minor), (Value.int .i64 t17_Version_Patch), (Sl.v t17_Deps), (Sl.v t17_Peers), (Sl.v t17_Optional)]) ∧ newS vw18 [(Value.string t17_Name), (Value.int .i64 t17_Version_Major), (Value.int .i64 t17_Version_Minor), (Value.int .i64 t17_Version_Patch), (Sl.v t17_Deps), (Sl.v t17_Peers), (Sl.v t17_Optional)] 48 fun a20 vw21 => appS Tryz.prog 22 22 out (Sl.v (Sl.mk (some a20) 1 1)) vw21 fun t19 vw22 => nxt t19 vw22) ∧ (ok = false → callS Tryz.prog 74 [(Sl.v out), (Value.func (.func 75) #[] #[])] vw2 fun v24 vw23 => v24 = (Value.tuple #[]) ∧ callS Tryz.prog 78 [(Sl.v out)] vw23 fun v27 vw26 => ∃ (t23 : Sl), v27 = (Sl.v t23) ∧ R t23 vw26))
set_option maxHeartbeats 8000000 in
theorem catalog_Catalog_All.sound (c : Option Addr) (w : World) (R : Sl → World → Prop) (h : catalog_Catalog_All c w R) : callS Tryz.prog 31 [(Value.pointer c)] w (fun v w' => ∃ (r0 : Sl), v = (Sl.v r0) ∧ R r0 w') := by
  unfold catalog_Catalog_All at h
  refine calls_of_vc 24 rfl Tryz.func31 rfl (by kernel_rfl) (by simp) ?_
  refine Vc.seq ?_
  refine Vc.region ?_
  refine vcL_pure rfl rfl (Sl.v Sl.nil) (fun w => by kernel_rfl) ?_
  refine vcL_nil ?_
  refine Vc.seq ?_
  refine Vc.region ?_
  refine vcL_pure rfl rfl (Sl.v Sl.nil) (fun w => by kernel_rfl) ?_
  refine vcL_nil ?_
  refine Vc.seq ?_
  refine Vc.seq ?_
  refine Vc.region ?_
  refine vcL_pure rfl rfl (Value.pointer c) (fun w => by kernel_rfl) ?_
  obtain ⟨p, hp, h⟩ := h
  refine vcL_pure rfl rfl (Value.pointer (some p)) (fun w => by exact exec_nilCheck rfl (by kernel_rfl) (hp) w) ?_
  refine vcL_pure rfl rfl (Value.pointer (some p)) (fun w => by kernel_rfl) ?_
  obtain ⟨t9, hc, h⟩ := h
  refine vcL_val rfl rfl (Value.map t9) (exec_load rfl (by kernel_rfl) (run_load1 (fun w => by kernel_rfl) ((hc)))) ?_
  refine vcL_eff rfl (opVC_sem rfl (c := Instr.range 101 (Value.map t9)) (by kernel_rfl) (semS.mono h fun v vw h => ?_)) 
  obtain ⟨it, rfl, h⟩ := h
  refine vcL_nil ?_
  refine Vc.block ?_
  obtain ⟨vI, mu, h, hr⟩ := h
  refine Vc.loopJ (σ := Sl) [3] [5, 11, 12, 13, 14, 15, 16, 17, 18, 19] (fun s => [(3, (Sl.v s))]) (fun s w => vI s w) (fun s w => mu s w) Sl.nil h (fun _ => rfl) (by kernel_rfl) ?_
  intro out vw1 j h
  have h := hr out vw1 h
  refine Vc.seq ?_
  refine Vc.region ?_
  refine vcL_eff rfl (opVC_sem rfl (c := Instr.next (Value.pointer (some it)) false 0) (by kernel_rfl) (semS.mono h fun v3 vw2 h => ?_)) 
  obtain ⟨ok, key_name, key_version_Major, key_version_Minor, key_version_Patch, val_Name, val_Version_Major, val_Version_Minor, val_Version_Patch, val_Deps, val_Peers, val_Optional, rfl, h⟩ := h
  refine vcL_pure rfl rfl (Value.bool ok) (fun w => by cases ok <;> kernel_rfl) ?_
  refine vcL_nil ?_
  refine Vc.seq ?_
  refine Vc.cond ok (by kernel_rfl) (fun hb => ?_) (fun hb => ?_)
  · have hq := h.1 (hb)
    clear h
    subst hb
    have h := hq
    clear hq
    refine Vc.skip ?_
    refine Vc.block ?_
    refine Vc.seq ?_
    refine Vc.region ?_
    obtain ⟨key_name4, key_version_Major5, key_version_Minor6, key_version_Patch7, val_Name8, val_Version_Major9, val_Version_Minor10, val_Version_Patch11, val_Deps12, val_Peers13, val_Optional14, hl, h⟩ := h
    refine vcL_val rfl rfl (Value.tuple #[(Value.agg #[(Value.string key_name4), (Value.int .i64 key_version_Major5), (Value.int .i64 key_version_Minor6), (Value.int .i64 key_version_Patch7)]), (Value.agg #[(Value.string val_Name8), (Value.int .i64 val_Version_Major9), (Value.int .i64 val_Version_Minor10), (Value.int .i64 val_Version_Patch11), (Sl.v val_Deps12), (Sl.v val_Peers13), (Sl.v val_Optional14)])]) (exec_sem (c := Instr.entry (Value.pointer (some it))) (by kernel_rfl) ((hl) _ (Ext.refl _))) ?_
    refine vcL_pure rfl rfl (Value.agg #[(Value.string val_Name8), (Value.int .i64 val_Version_Major9), (Value.int .i64 val_Version_Minor10), (Value.int .i64 val_Version_Patch11), (Sl.v val_Deps12), (Sl.v val_Peers13), (Sl.v val_Optional14)]) (fun w => by kernel_rfl) ?_
    refine vcL_eff rfl (opVC_new rfl (fun a => Value.pointer (some a)) (by kernel_rfl) (newS.mono h fun a vw15 hx h => ?_)) 
    refine vcL_eff rfl (opVC_store rfl rfl (a := a) (by kernel_rfl) (v := (Value.agg #[(Value.string val_Name8), (Value.int .i64 val_Version_Major9), (Value.int .i64 val_Version_Minor10), (Value.int .i64 val_Version_Patch11), (Sl.v val_Deps12), (Sl.v val_Peers13), (Sl.v val_Optional14)])) (by kernel_rfl) [(Value.string val_Name8), (Value.int .i64 val_Version_Major9), (Value.int .i64 val_Version_Minor10), (Value.int .i64 val_Version_Patch11), (Sl.v val_Deps12), (Sl.v val_Peers13), (Sl.v val_Optional14)] (by kernel_rfl) (fun w => by kernel_rfl) (by kernel_rfl) (stw.mono h fun vw16 h => ?_)) 
    refine vcL_nil ?_
    refine Vc.region ?_
    refine vcL_pure rfl rfl (Sl.v out) (fun w => by kernel_rfl) ?_
    obtain ⟨t16_Name, t16_Version_Major, t16_Version_Minor, t16_Version_Patch, t16_Deps, t16_Peers, t16_Optional, hc17, h⟩ := h
    refine vcL_val rfl rfl (Value.agg #[(Value.string t16_Name), (Value.int .i64 t16_Version_Major), (Value.int .i64 t16_Version_Minor), (Value.int .i64 t16_Version_Patch), (Sl.v t16_Deps), (Sl.v t16_Peers), (Sl.v t16_Optional)]) (exec_load rfl (by kernel_rfl) (run_loadN (fun w => by kernel_rfl) (fun w => by kernel_rfl) ((hc17)))) ?_
    refine vcL_eff rfl (opVC_call rfl (by kernel_rfl) (callS.mono h fun v19 vw18 h => ?_)) 
    obtain ⟨t17_Name, t17_Version_Major, t17_Version_Minor, t17_Version_Patch, t17_Deps, t17_Peers, t17_Optional, rfl, h⟩ := h
    refine vcL_eff rfl (opVC_new rfl (fun a => Value.slice (some a) 1 1) (by kernel_rfl) (newS.mono h fun a20 vw21 hx h => ?_)) 
    refine vcL_eff rfl (opVC_sem rfl (c := Builtin.append_ #[22, 22] 22 #[(Sl.v out), (Sl.v (Sl.mk (some a20) 1 1))]) (by kernel_rfl) (appS.elim (ty := 22) h fun t19 vw22 h => ?_)) 
    refine vcL_pure rfl rfl (Sl.v t19) (fun w => by kernel_rfl) ?_
    refine vcL_nil ?_
    exact ⟨t19, 22, ⟨rfl, by kernel_rfl, by kernel_rfl, by kernel_rfl⟩, h⟩
  · have hq := h.2 (hb)
    clear h
    subst hb
    have h := hq
    clear hq
    refine Vc.exit ?_
    refine outOf_hit ?_
    refine Vc.seq ?_
    refine Vc.region ?_
    refine vcL_pure rfl rfl (Sl.v out) (fun w => by kernel_rfl) ?_
    refine vcL_eff rfl (opVC_call rfl (by kernel_rfl) (callS.mono h fun v24 vw23 h => ?_)) 
    obtain ⟨rfl, h⟩ := h
    refine vcL_nil ?_
    refine Vc.seq ?_
    refine Vc.region ?_
    refine vcL_pure rfl rfl (Sl.v out) (fun w => by kernel_rfl) ?_
    refine vcL_eff rfl (opVC_call rfl (by kernel_rfl) (callS.mono h fun v27 vw26 h => ?_)) 
    obtain ⟨t23, rfl, h⟩ := h
    refine vcL_pure rfl rfl (Sl.v t23) (fun w => by kernel_rfl) ?_
    refine vcL_nil ?_
    refine Vc.ret ?_
    refine outs_ret ?_
    refine done_mk (Sl.v t23) (res1 (resC_tmp (by kernel_rfl))) ?_
    exact ⟨t23, rfl, h⟩
theorem catalog_Catalog_All.go {c : Option Addr} {w : World} {k : Value → World → Prop} (h : catalog_Catalog_All c w fun r0 w' => k (Sl.v r0) w') : callS Tryz.prog 31 [(Value.pointer c)] w k := (catalog_Catalog_All.sound c w _ h).mono (by rintro _ _ ⟨r0, rfl, h⟩; exact h)

/-- halyard/halyardref03.In -/
def halyardref03_In (l : Sl) (v_Major : Int) (v_Minor : Int) (v_Patch : Int) (w : World) (R : Bool → World → Prop) : Prop :=
  newS w [(Value.int .i64 v_Major), (Value.int .i64 v_Minor), (Value.int .i64 v_Patch)] 30 fun a vw => callS Tryz.prog 79 [(Sl.v l)] vw fun v vw1 => ∃ (t6 : Bool), v = (Value.bool t6) ∧ ∃ (t8_Major : Int) (t8_Minor : Int) (t8_Patch : Int), grd t6 (ldc vw1 a [(Value.int .i64 t8_Major), (Value.int .i64 t8_Minor), (Value.int .i64 t8_Patch)]) ∧ gCall t6 (fun (t9 : Bool) (vw2 : World) => bnd (t6 && t9) fun (b : Bool) => ∃ (t13_Major : Int) (t13_Minor : Int) (t13_Patch : Int), grd b (ldc vw2 a [(Value.int .i64 t13_Major), (Value.int .i64 t13_Minor), (Value.int .i64 t13_Patch)]) ∧ gCall b (fun (t14 : Int) (vw6 : World) => gCall b (fun (t15 : Bool) (vw11 : World) => R (b && t15) vw11) (fun q => callS Tryz.prog 81 [(Sl.v l), (Value.int .i64 t14)] vw6 fun v12 vw11 => ∃ (t15 : Bool), v12 = (Value.bool t15) ∧ q t15 vw11) (fun q => q false vw6)) (fun q => callS Tryz.prog 82 [(Value.agg #[(Value.int .i64 t13_Major), (Value.int .i64 t13_Minor), (Value.int .i64 t13_Patch)])] vw2 fun v7 vw6 => ∃ (t14 : Int), v7 = (Value.int .i64 t14) ∧ q t14 vw6) (fun q => q 0 vw2)) (fun q => callS Tryz.prog 80 [(Value.agg #[(Value.int .i64 t8_Major), (Value.int .i64 t8_Minor), (Value.int .i64 t8_Patch)])] vw1 fun v3 vw2 => ∃ (t9 : Bool), v3 = (Value.bool t9) ∧ q t9 vw2) (fun q => q false vw1)
set_option maxHeartbeats 8000000 in
theorem halyardref03_In.sound (l : Sl) (v_Major : Int) (v_Minor : Int) (v_Patch : Int) (w : World) (R : Bool → World → Prop) (h : halyardref03_In l v_Major v_Minor v_Patch w R) : callS Tryz.prog 32 [(Sl.v l), (Value.agg #[(Value.int .i64 v_Major), (Value.int .i64 v_Minor), (Value.int .i64 v_Patch)])] w (fun v w' => ∃ (r0 : Bool), v = (Value.bool r0) ∧ R r0 w') := by
  unfold halyardref03_In at h
  refine calls_of_vc 17 rfl Tryz.func32 rfl (by kernel_rfl) (by simp) ?_
  refine Vc.seq ?_
  refine Vc.region ?_
  refine vcL_eff rfl (opVC_new rfl (fun a => Value.pointer (some a)) (by kernel_rfl) (newS.mono h fun a vw hx h => ?_)) 
  refine vcL_pure rfl rfl (Value.bool false) (fun w => by kernel_rfl) ?_
  refine vcL_nil ?_
  refine Vc.seq ?_
  refine Vc.region ?_
  refine vcL_pure rfl rfl (Sl.v l) (fun w => by kernel_rfl) ?_
  refine vcL_eff rfl (opVC_call rfl (by kernel_rfl) (callS.mono h fun v vw1 h => ?_)) 
  obtain ⟨t6, rfl, h⟩ := h
  refine vcL_pure rfl rfl (Value.bool t6) (fun w => by kernel_rfl) ?_
  obtain ⟨t8_Major, t8_Minor, t8_Patch, hc, h⟩ := h
  refine vcL_guard t6 (wanted_g (d := 7) rfl (by kernel_rfl) t6 (by kernel_rfl) t6 (eqT t6)) rfl (Value.agg #[(Value.int .i64 t8_Major), (Value.int .i64 t8_Minor), (Value.int .i64 t8_Patch)]) (fun hg => by subst hg; exact exec_load rfl (by kernel_rfl) (run_loadN (fun w => by kernel_rfl) (fun w => by kernel_rfl) ((hc rfl)))) ?_
  obtain ⟨vJ, hJ, h⟩ := gCall_elim h
  refine vcL_effJ (σ := Bool) t6 (wanted_g (d := 7) rfl (by kernel_rfl) t6 (by kernel_rfl) t6 (eqT t6)) rfl (fun s w => vJ s w) (fun s => (Value.bool s)) ?_ (fun hg => opVC_call rfl (by subst hg; kernel_rfl) (callS.mono (h.1 hg) fun v3 vw2 hq => ?_)) (fun hg => ⟨false, h.2 hg⟩)
  · intro t9 vw2 h
    subst hJ
    refine vcL_pure rfl rfl (Value.bool (t6 && t9)) (fun w => by cases t6 <;> kernel_rfl) ?_
    obtain ⟨b, hb⟩ : ∃ y, y = (t6 && t9) := ⟨_, rfl⟩
    have h := h b hb
    refine vcL_pure rfl rfl (Value.bool b) (fun w => by rw [hb]; kernel_rfl) ?_
    refine vcL_guardP b (wanted_g (d := 11) rfl (by kernel_rfl) b (by kernel_rfl) b (eqT b)) rfl (Sl.v l) (fun hg w => by subst hg; kernel_rfl) ?_
    obtain ⟨t13_Major, t13_Minor, t13_Patch, hc5, h⟩ := h
    refine vcL_guard b (wanted_g (d := 11) rfl (by kernel_rfl) b (by kernel_rfl) b (eqT b)) rfl (Value.agg #[(Value.int .i64 t13_Major), (Value.int .i64 t13_Minor), (Value.int .i64 t13_Patch)]) (fun hg => by subst hg; exact exec_load rfl (by kernel_rfl) (run_loadN (fun w => by kernel_rfl) (fun w => by kernel_rfl) ((hc5 rfl)))) ?_
    obtain ⟨vJ9, hJ10, h⟩ := gCall_elim h
    refine vcL_effJ (σ := Int) b (wanted_g (d := 11) rfl (by kernel_rfl) b (by kernel_rfl) b (eqT b)) rfl (fun s w => vJ9 s w) (fun s => (Value.int .i64 s)) ?_ (fun hg => opVC_call rfl (by subst hg; kernel_rfl) (callS.mono (h.1 hg) fun v7 vw6 hq => ?_)) (fun hg => ⟨0, h.2 hg⟩)
    · intro t14 vw6 h
      subst hJ10
      obtain ⟨vJ14, hJ15, h⟩ := gCall_elim h
      refine vcL_effJ (σ := Bool) b (wanted_g (d := 11) rfl (by kernel_rfl) b (by kernel_rfl) b (eqT b)) rfl (fun s w => vJ14 s w) (fun s => (Value.bool s)) ?_ (fun hg => opVC_call rfl (by subst hg; kernel_rfl) (callS.mono (h.1 hg) fun v12 vw11 hq => ?_)) (fun hg => ⟨false, h.2 hg⟩)
      · intro t15 vw11 h
        subst hJ15
        refine vcL_pure rfl rfl (Value.bool (b && t15)) (fun w => by cases b <;> kernel_rfl) ?_
        refine vcL_pure rfl rfl (Value.bool (b && t15)) (fun w => by kernel_rfl) ?_
        refine vcL_nil ?_
        refine Vc.ret ?_
        refine outs_ret ?_
        refine done_mk (Value.bool (b && t15)) (res1 (resC_tmp (by kernel_rfl))) ?_
        exact ⟨(b && t15), rfl, h⟩
      · obtain ⟨t15, rfl, hq⟩ := hq
        exact ⟨t15, rfl, hq⟩
    · obtain ⟨t14, rfl, hq⟩ := hq
      exact ⟨t14, rfl, hq⟩
  · obtain ⟨t9, rfl, hq⟩ := hq
    exact ⟨t9, rfl, hq⟩
theorem halyardref03_In.go {l : Sl} {v_Major : Int} {v_Minor : Int} {v_Patch : Int} {w : World} {k : Value → World → Prop} (h : halyardref03_In l v_Major v_Minor v_Patch w fun r0 w' => k (Value.bool r0) w') : callS Tryz.prog 32 [(Sl.v l), (Value.agg #[(Value.int .i64 v_Major), (Value.int .i64 v_Minor), (Value.int .i64 v_Patch)])] w k := (halyardref03_In.sound l v_Major v_Minor v_Patch w _ h).mono (by rintro _ _ ⟨r0, rfl, h⟩; exact h)

/-- halyard/halyardref02.Compare -/
def halyardref02_Compare (a_Major : Int) (a_Minor : Int) (a_Patch : Int) (b_Major : Int) (b_Minor : Int) (b_Patch : Int) (w : World) (R : Int → World → Prop) : Prop :=
  newS w [(Value.int .i64 a_Major), (Value.int .i64 a_Minor), (Value.int .i64 a_Patch)] 30 fun a vw => newS vw [(Value.int .i64 b_Major), (Value.int .i64 b_Minor), (Value.int .i64 b_Patch)] 30 fun a1 vw2 => ∃ (t9 : Int), (ldc vw2 a [(Value.int .i64 t9)]) ∧ ∃ (t11 : Int), (ldc vw2 (a.add 1) [(Value.int .i64 t11)]) ∧ ∃ (t13 : Int), (ldc vw2 (a.add 2) [(Value.int .i64 t13)]) ∧ newS vw2 [(Value.int .i64 t9), (Value.int .i64 t11), (Value.int .i64 t13)] 3 fun a5 vw6 => ∃ (t16 : Int), (ldc vw6 a1 [(Value.int .i64 t16)]) ∧ ∃ (t18 : Int), (ldc vw6 (a1.add 1) [(Value.int .i64 t18)]) ∧ ∃ (t20 : Int), (ldc vw6 (a1.add 2) [(Value.int .i64 t20)]) ∧ newS vw6 [(Value.int .i64 t16), (Value.int .i64 t18), (Value.int .i64 t20)] 3 fun a10 vw11 => loop1 0 vw11 fun i vw12 nxt => ((i < 3 → bnd vw12.drew fun (vw13 : World) => ∃ (ad : Addr), ((Sl.mk (some a5) 3 3).a = some ad ∧ (0 : Int) ≤ i ∧ i < ((Sl.mk (some a5) 3 3).len : Int)) ∧ ∃ (t29 : Int), (ldc vw13 (ad.add (i.toNat * 1)) [(Value.int .i64 t29)]) ∧ ∃ (ad15 : Addr), ((Sl.mk (some a10) 3 3).a = some ad15 ∧ (0 : Int) ≤ i ∧ i < ((Sl.mk (some a10) 3 3).len : Int)) ∧ ∃ (t33 : Int), (ldc vw13 (ad15.add (i.toNat * 1)) [(Value.int .i64 t33)]) ∧ ((t29 < t33 → R (-1) vw13) ∧ (¬ (t29 < t33) → bnd vw13.drew fun (vw18 : World) => ∃ (ad19 : Addr), ((Sl.mk (some a5) 3 3).a = some ad19 ∧ (0 : Int) ≤ i ∧ i < ((Sl.mk (some a5) 3 3).len : Int)) ∧ ∃ (t38 : Int), (ldc vw18 (ad19.add (i.toNat * 1)) [(Value.int .i64 t38)]) ∧ ∃ (ad22 : Addr), ((Sl.mk (some a10) 3 3).a = some ad22 ∧ (0 : Int) ≤ i ∧ i < ((Sl.mk (some a10) 3 3).len : Int)) ∧ ∃ (t42 : Int), (ldc vw18 (ad22.add (i.toNat * 1)) [(Value.int .i64 t42)]) ∧ ((t42 < t38 → R 1 vw18) ∧ (¬ (t42 < t38) → nxt (wrapI (i + 1)) vw18))))) ∧ (¬ (i < 3) → R 0 vw12))
set_option maxHeartbeats 8000000 in
theorem halyardref02_Compare.sound (a_Major : Int) (a_Minor : Int) (a_Patch : Int) (b_Major : Int) (b_Minor : Int) (b_Patch : Int) (w : World) (R : Int → World → Prop) (h : halyardref02_Compare a_Major a_Minor a_Patch b_Major b_Minor b_Patch w R) : callS Tryz.prog 33 [(Value.agg #[(Value.int .i64 a_Major), (Value.int .i64 a_Minor), (Value.int .i64 a_Patch)]), (Value.agg #[(Value.int .i64 b_Major), (Value.int .i64 b_Minor), (Value.int .i64 b_Patch)])] w (fun v w' => ∃ (r0 : Int), v = (Value.int .i64 r0) ∧ R r0 w') := by
  unfold halyardref02_Compare at h
  refine calls_of_vc 44 rfl Tryz.func33 rfl (by kernel_rfl) (by simp) ?_
  refine Vc.seq ?_
  refine Vc.region ?_
  refine vcL_eff rfl (opVC_new rfl (fun a => Value.pointer (some a)) (by kernel_rfl) (newS.mono h fun a vw hx h => ?_)) 
  refine vcL_eff rfl (opVC_new rfl (fun a => Value.pointer (some a)) (by kernel_rfl) (newS.mono h fun a1 vw2 hx h => ?_)) 
  refine vcL_pure rfl rfl (Value.int .i64 0) (fun w => by kernel_rfl) ?_
  refine vcL_nil ?_
  refine Vc.seq ?_
  refine Vc.region ?_
  refine vcL_pure rfl rfl (Value.pointer (some a)) (fun w => by kernel_rfl) ?_
  obtain ⟨t9, hc, h⟩ := h
  refine vcL_val rfl rfl (Value.int .i64 t9) (exec_load rfl (by kernel_rfl) (run_load1 (fun w => by kernel_rfl) ((hc)))) ?_
  refine vcL_pure rfl rfl (Value.pointer (some (a.add 1))) (fun w => by kernel_rfl) ?_
  obtain ⟨t11, hc3, h⟩ := h
  refine vcL_val rfl rfl (Value.int .i64 t11) (exec_load rfl (by kernel_rfl) (run_load1 (fun w => by kernel_rfl) ((hc3)))) ?_
  refine vcL_pure rfl rfl (Value.pointer (some (a.add 2))) (fun w => by kernel_rfl) ?_
  obtain ⟨t13, hc4, h⟩ := h
  refine vcL_val rfl rfl (Value.int .i64 t13) (exec_load rfl (by kernel_rfl) (run_load1 (fun w => by kernel_rfl) ((hc4)))) ?_
  refine vcL_eff rfl (opVC_new rfl (fun a => Value.slice (some a) 3 3) (by kernel_rfl) (newS.mono h fun a5 vw6 hx h => ?_)) 
  refine vcL_pure rfl rfl (Sl.v (Sl.mk (some a5) 3 3)) (fun w => by kernel_rfl) ?_
  refine vcL_nil ?_
  refine Vc.seq ?_
  refine Vc.region ?_
  refine vcL_pure rfl rfl (Value.pointer (some a1)) (fun w => by kernel_rfl) ?_
  obtain ⟨t16, hc7, h⟩ := h
  refine vcL_val rfl rfl (Value.int .i64 t16) (exec_load rfl (by kernel_rfl) (run_load1 (fun w => by kernel_rfl) ((hc7)))) ?_
  refine vcL_pure rfl rfl (Value.pointer (some (a1.add 1))) (fun w => by kernel_rfl) ?_
  obtain ⟨t18, hc8, h⟩ := h
  refine vcL_val rfl rfl (Value.int .i64 t18) (exec_load rfl (by kernel_rfl) (run_load1 (fun w => by kernel_rfl) ((hc8)))) ?_
  refine vcL_pure rfl rfl (Value.pointer (some (a1.add 2))) (fun w => by kernel_rfl) ?_
  obtain ⟨t20, hc9, h⟩ := h
  refine vcL_val rfl rfl (Value.int .i64 t20) (exec_load rfl (by kernel_rfl) (run_load1 (fun w => by kernel_rfl) ((hc9)))) ?_
  refine vcL_eff rfl (opVC_new rfl (fun a => Value.slice (some a) 3 3) (by kernel_rfl) (newS.mono h fun a10 vw11 hx h => ?_)) 
  refine vcL_pure rfl rfl (Sl.v (Sl.mk (some a10) 3 3)) (fun w => by kernel_rfl) ?_
  refine vcL_nil ?_
  refine Vc.seq ?_
  refine Vc.seq ?_
  refine Vc.region ?_
  refine vcL_pure rfl rfl (Value.int .i64 0) (fun w => by kernel_rfl) ?_
  refine vcL_nil ?_
  refine Vc.block ?_
  obtain ⟨vI, mu, h, hr⟩ := h
  refine Vc.loopJ (σ := Int) [7] [4, 22, 23, 24, 25, 26, 27, 28, 29, 30, 31, 32, 33, 34, 35, 36, 37, 38, 39, 40, 41, 42, 43] (fun s => [(7, (Value.int .i64 s))]) (fun s w => vI s w) (fun s w => mu s w) 0 h (fun _ => rfl) (by kernel_rfl) ?_
  intro i vw12 j h
  have h := hr i vw12 h
  refine Vc.seq ?_
  refine Vc.seq ?_
  refine Vc.region ?_
  refine vcL_purs 2 [(23, (Value.bool (decide (i < 3)))), (22, (Value.int .i64 i))] (by kernel_rfl) ?_
  refine vcL_nil ?_
  refine Vc.cond (decide (i < 3)) (by kernel_rfl) (fun hb => ?_) (fun hb => ?_)
  · have h := h.1 (of_decide_eq_true hb)
    refine Vc.skip ?_
    refine Vc.seq ?_
    refine Vc.block ?_
    refine Vc.seq ?_
    refine Vc.seq ?_
    obtain ⟨vw13, hvw13⟩ : ∃ y, y = vw12.drew := ⟨_, rfl⟩
    have h := h vw13 hvw13
    refine Vc.draw (by kernel_rfl) (fun i => !(memN [] i)) (.pur 0 (.pur 1 (.pur 2 (.val 3 (.pur 4 (.pur 5 (.pur 6 (.val 7 (.pur 8 .fin))))))))) (by kernel_rfl) ?_
    rw [← hvw13]
    clear hvw13
    refine vcS_pure rfl rfl rfl (Sl.v (Sl.mk (some a5) 3 3)) (fun w => by kernel_rfl) ?_
    refine vcS_pure rfl rfl rfl (Value.int .i64 i) (fun w => by kernel_rfl) ?_
    obtain ⟨ad, hi, h⟩ := h
    refine vcS_pure rfl rfl rfl (Value.pointer (some (ad.add (i.toNat * 1)))) (fun w => by exact exec_indexAt (s := (Sl.mk (some a5) 3 3)) (el := 3) rfl (by kernel_rfl) (by kernel_rfl) (by kernel_rfl) (fun w => by kernel_rfl) (hi).1 (hi).2.1 (hi).2.2 w) ?_
    obtain ⟨t29, hc14, h⟩ := h
    refine vcS_val rfl rfl rfl (Value.int .i64 t29) (fun w' hx => exec_load rfl (by kernel_rfl) (run_load1 (fun w => by kernel_rfl) ((hc14).ext hx))) ?_
    refine vcS_pure rfl rfl rfl (Sl.v (Sl.mk (some a10) 3 3)) (fun w => by kernel_rfl) ?_
    refine vcS_pure rfl rfl rfl (Value.int .i64 i) (fun w => by kernel_rfl) ?_
    obtain ⟨ad15, hi16, h⟩ := h
    refine vcS_pure rfl rfl rfl (Value.pointer (some (ad15.add (i.toNat * 1)))) (fun w => by exact exec_indexAt (s := (Sl.mk (some a10) 3 3)) (el := 3) rfl (by kernel_rfl) (by kernel_rfl) (by kernel_rfl) (fun w => by kernel_rfl) (hi16).1 (hi16).2.1 (hi16).2.2 w) ?_
    obtain ⟨t33, hc17, h⟩ := h
    refine vcS_val rfl rfl rfl (Value.int .i64 t33) (fun w' hx => exec_load rfl (by kernel_rfl) (run_load1 (fun w => by kernel_rfl) ((hc17).ext hx))) ?_
    refine vcS_pure rfl rfl rfl (Value.bool (decide (t29 < t33))) (fun w => by kernel_rfl) ?_
    refine vcS_fin ?_
    refine Vc.cond (decide (t29 < t33)) (by kernel_rfl) (fun hb => ?_) (fun hb => ?_)
    · have h := h.1 (of_decide_eq_true hb)
      refine Vc.seq ?_
      refine Vc.region ?_
      refine vcL_pure rfl rfl (Value.int .i64 (-1)) (fun w => by kernel_rfl) ?_
      refine vcL_nil ?_
      refine Vc.ret ?_
      refine outOf_ret ?_
      refine outOf_ret ?_
      refine outs_ret ?_
      refine done_mk (Value.int .i64 (-1)) (res1 (resC_tmp (by kernel_rfl))) ?_
      exact ⟨(-1), rfl, h⟩
    · have h := h.2 (of_decide_eq_false hb)
      refine Vc.skip ?_
      refine Vc.seq ?_
      obtain ⟨vw18, hvw18⟩ : ∃ y, y = vw13.drew := ⟨_, rfl⟩
      have h := h vw18 hvw18
      refine Vc.draw (by kernel_rfl) (fun i => !(memN [] i)) (.pur 0 (.pur 1 (.pur 2 (.val 3 (.pur 4 (.pur 5 (.pur 6 (.val 7 (.pur 8 .fin))))))))) (by kernel_rfl) ?_
      rw [← hvw18]
      clear hvw18
      refine vcS_pure rfl rfl rfl (Sl.v (Sl.mk (some a5) 3 3)) (fun w => by kernel_rfl) ?_
      refine vcS_pure rfl rfl rfl (Value.int .i64 i) (fun w => by kernel_rfl) ?_
      obtain ⟨ad19, hi20, h⟩ := h
      refine vcS_pure rfl rfl rfl (Value.pointer (some (ad19.add (i.toNat * 1)))) (fun w => by exact exec_indexAt (s := (Sl.mk (some a5) 3 3)) (el := 3) rfl (by kernel_rfl) (by kernel_rfl) (by kernel_rfl) (fun w => by kernel_rfl) (hi20).1 (hi20).2.1 (hi20).2.2 w) ?_
      obtain ⟨t38, hc21, h⟩ := h
      refine vcS_val rfl rfl rfl (Value.int .i64 t38) (fun w' hx => exec_load rfl (by kernel_rfl) (run_load1 (fun w => by kernel_rfl) ((hc21).ext hx))) ?_
      refine vcS_pure rfl rfl rfl (Sl.v (Sl.mk (some a10) 3 3)) (fun w => by kernel_rfl) ?_
      refine vcS_pure rfl rfl rfl (Value.int .i64 i) (fun w => by kernel_rfl) ?_
      obtain ⟨ad22, hi23, h⟩ := h
      refine vcS_pure rfl rfl rfl (Value.pointer (some (ad22.add (i.toNat * 1)))) (fun w => by exact exec_indexAt (s := (Sl.mk (some a10) 3 3)) (el := 3) rfl (by kernel_rfl) (by kernel_rfl) (by kernel_rfl) (fun w => by kernel_rfl) (hi23).1 (hi23).2.1 (hi23).2.2 w) ?_
      obtain ⟨t42, hc24, h⟩ := h
      refine vcS_val rfl rfl rfl (Value.int .i64 t42) (fun w' hx => exec_load rfl (by kernel_rfl) (run_load1 (fun w => by kernel_rfl) ((hc24).ext hx))) ?_
      refine vcS_pure rfl rfl rfl (Value.bool (decide (t42 < t38))) (fun w => by kernel_rfl) ?_
      refine vcS_fin ?_
      refine Vc.cond (decide (t42 < t38)) (by kernel_rfl) (fun hb => ?_) (fun hb => ?_)
      · have h := h.1 (of_decide_eq_true hb)
        refine Vc.seq ?_
        refine Vc.region ?_
        refine vcL_pure rfl rfl (Value.int .i64 1) (fun w => by kernel_rfl) ?_
        refine vcL_nil ?_
        refine Vc.ret ?_
        refine outOf_ret ?_
        refine outOf_ret ?_
        refine outs_ret ?_
        refine done_mk (Value.int .i64 1) (res1 (resC_tmp (by kernel_rfl))) ?_
        exact ⟨1, rfl, h⟩
      · have h := h.2 (of_decide_eq_false hb)
        refine Vc.skip ?_
        refine Vc.region ?_
        refine vcL_purs 3 [(7, (Value.int .i64 (wrapI (i + 1)))), (25, (Value.int .i64 (wrapI (i + 1)))), (24, (Value.int .i64 i))] (by kernel_rfl) ?_
        refine vcL_nil ?_
        exact ⟨(wrapI (i + 1)), 47, ⟨rfl, by kernel_rfl, by kernel_rfl, by kernel_rfl⟩, h⟩
  · have h := h.2 (of_decide_eq_false hb)
    refine Vc.exit ?_
    refine outOf_hit ?_
    refine Vc.seq ?_
    refine Vc.region ?_
    refine vcL_pure rfl rfl (Value.int .i64 0) (fun w => by kernel_rfl) ?_
    refine vcL_nil ?_
    refine Vc.ret ?_
    refine outs_ret ?_
    refine done_mk (Value.int .i64 0) (res1 (resC_tmp (by kernel_rfl))) ?_
    exact ⟨0, rfl, h⟩
theorem halyardref02_Compare.go {a_Major : Int} {a_Minor : Int} {a_Patch : Int} {b_Major : Int} {b_Minor : Int} {b_Patch : Int} {w : World} {k : Value → World → Prop} (h : halyardref02_Compare a_Major a_Minor a_Patch b_Major b_Minor b_Patch w fun r0 w' => k (Value.int .i64 r0) w') : callS Tryz.prog 33 [(Value.agg #[(Value.int .i64 a_Major), (Value.int .i64 a_Minor), (Value.int .i64 a_Patch)]), (Value.agg #[(Value.int .i64 b_Major), (Value.int .i64 b_Minor), (Value.int .i64 b_Patch)])] w k := (halyardref02_Compare.sound a_Major a_Minor a_Patch b_Major b_Minor b_Patch w _ h).mono (by rintro _ _ ⟨r0, rfl, h⟩; exact h)

/-- halyard/halyardref02.At -/
def halyardref02_At (n : Int) (w : World) (R : Int → Int → Int → Bool → World → Prop) : Prop :=
  newS w [(Value.int .i64 0), (Value.int .i64 0), (Value.int .i64 0)] 30 fun a vw => bnd (decide (n < 0)) fun (b : Bool) => (((b || (decide (999999999 < n))) = true → stw vw a [(Value.int .i64 0), (Value.int .i64 0), (Value.int .i64 0)] fun vw1 => ∃ (r_Major : Int) (r_Minor : Int) (r_Patch : Int), ldc vw1 a [(Value.int .i64 r_Major), (Value.int .i64 r_Minor), (Value.int .i64 r_Patch)] ∧ R r_Major r_Minor r_Patch false vw1) ∧ ((b || (decide (999999999 < n))) = false → stw vw a [(Value.int .i64 (wrapI (n.tdiv 1000000))), (Value.int .i64 (Int.tmod (wrapI (n.tdiv 1000)) 1000)), (Value.int .i64 (Int.tmod n 1000))] fun vw2 => ∃ (r_Major3 : Int) (r_Minor4 : Int) (r_Patch5 : Int), ldc vw2 a [(Value.int .i64 r_Major3), (Value.int .i64 r_Minor4), (Value.int .i64 r_Patch5)] ∧ R r_Major3 r_Minor4 r_Patch5 true vw2))
set_option maxHeartbeats 8000000 in
theorem halyardref02_At.sound (n : Int) (w : World) (R : Int → Int → Int → Bool → World → Prop) (h : halyardref02_At n w R) : callS Tryz.prog 35 [(Value.int .i64 n)] w (fun v w' => ∃ (r0 : Int) (r1 : Int) (r2 : Int) (r3 : Bool), v = (Value.tuple #[(Value.agg #[(Value.int .i64 r0), (Value.int .i64 r1), (Value.int .i64 r2)]), (Value.bool r3)]) ∧ R r0 r1 r2 r3 w') := by
  unfold halyardref02_At at h
  refine calls_of_vc 19 rfl Tryz.func35 rfl (by kernel_rfl) (by simp) ?_
  refine Vc.seq ?_
  refine Vc.region ?_
  refine vcL_eff rfl (opVC_new rfl (fun a => Value.pointer (some a)) (by kernel_rfl) (newS.mono h fun a vw hx h => ?_)) 
  refine vcL_pure rfl rfl (Value.bool false) (fun w => by kernel_rfl) ?_
  refine vcL_nil ?_
  refine Vc.seq ?_
  refine Vc.seq ?_
  refine Vc.region ?_
  refine vcL_purs 2 [(5, (Value.bool (decide (n < 0)))), (4, (Value.int .i64 n))] (by kernel_rfl) ?_
  obtain ⟨b, hb⟩ : ∃ y, y = (decide (n < 0)) := ⟨_, rfl⟩
  have h := h b hb
  refine vcL_pure rfl rfl (Value.bool b) (fun w => by rw [hb]; kernel_rfl) ?_
  refine vcL_guardP (!b) (wanted_g (d := 6) rfl (by kernel_rfl) b (by kernel_rfl) (!b) (eqF b)) rfl (Value.int .i64 n) (fun hg w => by simp only [Bool.and_eq_true, Bool.not_eq_true'] at hg; obtain rfl := hg; kernel_rfl) ?_
  refine vcL_guardP (!b) (wanted_g (d := 6) rfl (by kernel_rfl) b (by kernel_rfl) (!b) (eqF b)) rfl (Value.bool (decide (999999999 < n))) (fun hg w => by simp only [Bool.and_eq_true, Bool.not_eq_true'] at hg; obtain rfl := hg; kernel_rfl) ?_
  refine vcL_pure rfl rfl (Value.bool (b || (decide (999999999 < n)))) (fun w => by cases b <;> kernel_rfl) ?_
  refine vcL_nil ?_
  refine Vc.cond (b || (decide (999999999 < n))) (by kernel_rfl) (fun hb => ?_) (fun hb => ?_)
  · have h := h.1 (hb)
    refine Vc.seq ?_
    refine Vc.region ?_
    refine vcL_pure rfl rfl (Value.agg #[(Value.int .i64 0), (Value.int .i64 0), (Value.int .i64 0)]) (fun w => by kernel_rfl) ?_
    refine vcL_eff rfl (opVC_store rfl rfl (a := a) (by kernel_rfl) (v := (Value.agg #[(Value.int .i64 0), (Value.int .i64 0), (Value.int .i64 0)])) (by kernel_rfl) [(Value.int .i64 0), (Value.int .i64 0), (Value.int .i64 0)] (by kernel_rfl) (fun w => by kernel_rfl) (by kernel_rfl) (stw.mono h fun vw1 h => ?_)) 
    refine vcL_pure rfl rfl (Value.bool false) (fun w => by kernel_rfl) ?_
    refine vcL_nil ?_
    refine Vc.ret ?_
    refine outs_ret ?_
    obtain ⟨r_Major, r_Minor, r_Patch, hc, h⟩ := h
    refine done_mk (Value.tuple #[(Value.agg #[(Value.int .i64 r_Major), (Value.int .i64 r_Minor), (Value.int .i64 r_Patch)]), (Value.bool false)]) (res2 (resC_cell (by kernel_rfl) (run_loadN (fun w => by kernel_rfl) (fun w => by kernel_rfl) hc)) (resC_tmp (by kernel_rfl))) ?_
    exact ⟨r_Major, r_Minor, r_Patch, false, rfl, h⟩
  · have h := h.2 (hb)
    refine Vc.skip ?_
    refine Vc.seq ?_
    refine Vc.region ?_
    refine vcL_purs 8 [(18, (Value.agg #[(Value.int .i64 (wrapI (n.tdiv 1000000))), (Value.int .i64 (Int.tmod (wrapI (n.tdiv 1000)) 1000)), (Value.int .i64 (Int.tmod n 1000))])), (17, (Value.int .i64 (Int.tmod n 1000))), (16, (Value.int .i64 n)), (15, (Value.int .i64 (Int.tmod (wrapI (n.tdiv 1000)) 1000))), (14, (Value.int .i64 (wrapI (n.tdiv 1000)))), (13, (Value.int .i64 n)), (12, (Value.int .i64 (wrapI (n.tdiv 1000000)))), (11, (Value.int .i64 n))] (by kernel_rfl) ?_
    refine vcL_eff rfl (opVC_store rfl rfl (a := a) (by kernel_rfl) (v := (Value.agg #[(Value.int .i64 (wrapI (n.tdiv 1000000))), (Value.int .i64 (Int.tmod (wrapI (n.tdiv 1000)) 1000)), (Value.int .i64 (Int.tmod n 1000))])) (by kernel_rfl) [(Value.int .i64 (wrapI (n.tdiv 1000000))), (Value.int .i64 (Int.tmod (wrapI (n.tdiv 1000)) 1000)), (Value.int .i64 (Int.tmod n 1000))] (by kernel_rfl) (fun w => by kernel_rfl) (by kernel_rfl) (stw.mono h fun vw2 h => ?_)) 
    refine vcL_pure rfl rfl (Value.bool true) (fun w => by kernel_rfl) ?_
    refine vcL_nil ?_
    refine Vc.ret ?_
    refine outs_ret ?_
    obtain ⟨r_Major3, r_Minor4, r_Patch5, hc6, h⟩ := h
    refine done_mk (Value.tuple #[(Value.agg #[(Value.int .i64 r_Major3), (Value.int .i64 r_Minor4), (Value.int .i64 r_Patch5)]), (Value.bool true)]) (res2 (resC_cell (by kernel_rfl) (run_loadN (fun w => by kernel_rfl) (fun w => by kernel_rfl) hc6)) (resC_tmp (by kernel_rfl))) ?_
    exact ⟨r_Major3, r_Minor4, r_Patch5, true, rfl, h⟩
theorem halyardref02_At.go {n : Int} {w : World} {k : Value → World → Prop} (h : halyardref02_At n w fun r0 r1 r2 r3 w' => k (Value.tuple #[(Value.agg #[(Value.int .i64 r0), (Value.int .i64 r1), (Value.int .i64 r2)]), (Value.bool r3)]) w') : callS Tryz.prog 35 [(Value.int .i64 n)] w k := (halyardref02_At.sound n w _ h).mono (by rintro _ _ ⟨r0, r1, r2, r3, rfl, h⟩; exact h)

/-- halyard/halyardref03.All -/
def halyardref03_All (w : World) (R : Sl → World → Prop) : Prop :=
  callS Tryz.prog 96 [(Value.int .i64 0)] w fun v vw => ∃ (t1_Major : Int) (t1_Minor : Int) (t1_Patch : Int), v = (Value.agg #[(Value.int .i64 t1_Major), (Value.int .i64 t1_Minor), (Value.int .i64 t1_Patch)]) ∧ callS Tryz.prog 96 [(Value.int .i64 999999999)] vw fun v2 vw1 => ∃ (t2_Major : Int) (t2_Minor : Int) (t2_Patch : Int), v2 = (Value.agg #[(Value.int .i64 t2_Major), (Value.int .i64 t2_Minor), (Value.int .i64 t2_Patch)]) ∧ newS vw1 [(Value.int .i64 t1_Major), (Value.int .i64 t1_Minor), (Value.int .i64 t1_Patch), (Value.int .i64 t2_Major), (Value.int .i64 t2_Minor), (Value.int .i64 t2_Patch)] 83 fun a vw4 => R (Sl.mk (some a) 1 1) vw4
set_option maxHeartbeats 8000000 in
theorem halyardref03_All.sound (w : World) (R : Sl → World → Prop) (h : halyardref03_All w R) : callS Tryz.prog 49 [] w (fun v w' => ∃ (r0 : Sl), v = (Sl.v r0) ∧ R r0 w') := by
  unfold halyardref03_All at h
  refine calls_of_vc 5 rfl Tryz.func49 rfl (by kernel_rfl) (by simp) ?_
  refine Vc.seq ?_
  refine Vc.region ?_
  refine vcL_pure rfl rfl (Sl.v Sl.nil) (fun w => by kernel_rfl) ?_
  refine vcL_nil ?_
  refine Vc.seq ?_
  refine Vc.region ?_
  refine vcL_eff rfl (opVC_call rfl (by kernel_rfl) (callS.mono h fun v vw h => ?_)) 
  obtain ⟨t1_Major, t1_Minor, t1_Patch, rfl, h⟩ := h
  refine vcL_eff rfl (opVC_call rfl (by kernel_rfl) (callS.mono h fun v2 vw1 h => ?_)) 
  obtain ⟨t2_Major, t2_Minor, t2_Patch, rfl, h⟩ := h
  refine vcL_pure rfl rfl (Value.agg #[(Value.int .i64 t1_Major), (Value.int .i64 t1_Minor), (Value.int .i64 t1_Patch), (Value.int .i64 t2_Major), (Value.int .i64 t2_Minor), (Value.int .i64 t2_Patch)]) (fun w => by kernel_rfl) ?_
  refine vcL_eff rfl (opVC_new rfl (fun a => Value.slice (some a) 1 1) (by kernel_rfl) (newS.mono h fun a vw4 hx h => ?_)) 
  refine vcL_pure rfl rfl (Sl.v (Sl.mk (some a) 1 1)) (fun w => by kernel_rfl) ?_
  refine vcL_nil ?_
  refine Vc.ret ?_
  refine outs_ret ?_
  refine done_mk (Sl.v (Sl.mk (some a) 1 1)) (res1 (resC_tmp (by kernel_rfl))) ?_
  exact ⟨(Sl.mk (some a) 1 1), rfl, h⟩
theorem halyardref03_All.go {w : World} {k : Value → World → Prop} (h : halyardref03_All w fun r0 w' => k (Sl.v r0) w') : callS Tryz.prog 49 [] w k := (halyardref03_All.sound w _ h).mono (by rintro _ _ ⟨r0, rfl, h⟩; exact h)

/-- halyard/span.In -/
def span_In (l : Sl) (v_Major : Int) (v_Minor : Int) (v_Patch : Int) (w : World) (R : Bool → World → Prop) : Prop :=
  newS w [(Value.int .i64 v_Major), (Value.int .i64 v_Minor), (Value.int .i64 v_Patch)] 30 fun a vw => callS Tryz.prog 91 [(Sl.v l)] vw fun v vw1 => ∃ (t6 : Bool), v = (Value.bool t6) ∧ ∃ (t8_Major : Int) (t8_Minor : Int) (t8_Patch : Int), grd t6 (ldc vw1 a [(Value.int .i64 t8_Major), (Value.int .i64 t8_Minor), (Value.int .i64 t8_Patch)]) ∧ gCall t6 (fun (t9 : Bool) (vw2 : World) => bnd (t6 && t9) fun (b : Bool) => gCall b (fun (t14 : Bool) (vw5 : World) => R (b && t14) vw5) (fun q => callS Tryz.prog 98 [(Sl.v l), (Value.func (.func 99) #[] #[(Value.pointer (some a))])] vw2 fun v6 vw5 => ∃ (t14 : Bool), v6 = (Value.bool t14) ∧ q t14 vw5) (fun q => q false vw2)) (fun q => callS Tryz.prog 97 [(Value.agg #[(Value.int .i64 t8_Major), (Value.int .i64 t8_Minor), (Value.int .i64 t8_Patch)])] vw1 fun v3 vw2 => ∃ (t9 : Bool), v3 = (Value.bool t9) ∧ q t9 vw2) (fun q => q false vw1)
set_option maxHeartbeats 8000000 in
theorem span_In.sound (l : Sl) (v_Major : Int) (v_Minor : Int) (v_Patch : Int) (w : World) (R : Bool → World → Prop) (h : span_In l v_Major v_Minor v_Patch w R) : callS Tryz.prog 53 [(Sl.v l), (Value.agg #[(Value.int .i64 v_Major), (Value.int .i64 v_Minor), (Value.int .i64 v_Patch)])] w (fun v w' => ∃ (r0 : Bool), v = (Value.bool r0) ∧ R r0 w') := by
  unfold span_In at h
  refine calls_of_vc 16 rfl Tryz.func53 rfl (by kernel_rfl) (by simp) ?_
  refine Vc.seq ?_
  refine Vc.region ?_
  refine vcL_eff rfl (opVC_new rfl (fun a => Value.pointer (some a)) (by kernel_rfl) (newS.mono h fun a vw hx h => ?_)) 
  refine vcL_pure rfl rfl (Value.bool false) (fun w => by kernel_rfl) ?_
  refine vcL_nil ?_
  refine Vc.seq ?_
  refine Vc.region ?_
  refine vcL_pure rfl rfl (Sl.v l) (fun w => by kernel_rfl) ?_
  refine vcL_eff rfl (opVC_call rfl (by kernel_rfl) (callS.mono h fun v vw1 h => ?_)) 
  obtain ⟨t6, rfl, h⟩ := h
  refine vcL_pure rfl rfl (Value.bool t6) (fun w => by kernel_rfl) ?_
  obtain ⟨t8_Major, t8_Minor, t8_Patch, hc, h⟩ := h
  refine vcL_guard t6 (wanted_g (d := 7) rfl (by kernel_rfl) t6 (by kernel_rfl) t6 (eqT t6)) rfl (Value.agg #[(Value.int .i64 t8_Major), (Value.int .i64 t8_Minor), (Value.int .i64 t8_Patch)]) (fun hg => by subst hg; exact exec_load rfl (by kernel_rfl) (run_loadN (fun w => by kernel_rfl) (fun w => by kernel_rfl) ((hc rfl)))) ?_
  obtain ⟨vJ, hJ, h⟩ := gCall_elim h
  refine vcL_effJ (σ := Bool) t6 (wanted_g (d := 7) rfl (by kernel_rfl) t6 (by kernel_rfl) t6 (eqT t6)) rfl (fun s w => vJ s w) (fun s => (Value.bool s)) ?_ (fun hg => opVC_call rfl (by subst hg; kernel_rfl) (callS.mono (h.1 hg) fun v3 vw2 hq => ?_)) (fun hg => ⟨false, h.2 hg⟩)
  · intro t9 vw2 h
    subst hJ
    refine vcL_pure rfl rfl (Value.bool (t6 && t9)) (fun w => by cases t6 <;> kernel_rfl) ?_
    obtain ⟨b, hb⟩ : ∃ y, y = (t6 && t9) := ⟨_, rfl⟩
    have h := h b hb
    refine vcL_pure rfl rfl (Value.bool b) (fun w => by rw [hb]; kernel_rfl) ?_
    refine vcL_guardP b (wanted_g (d := 11) rfl (by kernel_rfl) b (by kernel_rfl) b (eqT b)) rfl (Sl.v l) (fun hg w => by subst hg; kernel_rfl) ?_
    refine vcL_guardP b (wanted_g (d := 11) rfl (by kernel_rfl) b (by kernel_rfl) b (eqT b)) rfl (Value.func (.func 99) #[] #[(Value.pointer (some a))]) (fun hg w => by subst hg; kernel_rfl) ?_
    obtain ⟨vJ8, hJ9, h⟩ := gCall_elim h
    refine vcL_effJ (σ := Bool) b (wanted_g (d := 11) rfl (by kernel_rfl) b (by kernel_rfl) b (eqT b)) rfl (fun s w => vJ8 s w) (fun s => (Value.bool s)) ?_ (fun hg => opVC_call rfl (by subst hg; kernel_rfl) (callS.mono (h.1 hg) fun v6 vw5 hq => ?_)) (fun hg => ⟨false, h.2 hg⟩)
    · intro t14 vw5 h
      subst hJ9
      refine vcL_pure rfl rfl (Value.bool (b && t14)) (fun w => by cases b <;> kernel_rfl) ?_
      refine vcL_pure rfl rfl (Value.bool (b && t14)) (fun w => by kernel_rfl) ?_
      refine vcL_nil ?_
      refine Vc.ret ?_
      refine outs_ret ?_
      refine done_mk (Value.bool (b && t14)) (res1 (resC_tmp (by kernel_rfl))) ?_
      exact ⟨(b && t14), rfl, h⟩
    · obtain ⟨t14, rfl, hq⟩ := hq
      exact ⟨t14, rfl, hq⟩
  · obtain ⟨t9, rfl, hq⟩ := hq
    exact ⟨t9, rfl, hq⟩
theorem span_In.go {l : Sl} {v_Major : Int} {v_Minor : Int} {v_Patch : Int} {w : World} {k : Value → World → Prop} (h : span_In l v_Major v_Minor v_Patch w fun r0 w' => k (Value.bool r0) w') : callS Tryz.prog 53 [(Sl.v l), (Value.agg #[(Value.int .i64 v_Major), (Value.int .i64 v_Minor), (Value.int .i64 v_Patch)])] w k := (span_In.sound l v_Major v_Minor v_Patch w _ h).mono (by rintro _ _ ⟨r0, rfl, h⟩; exact h)

/-- halyard/pack.May -/
def pack_May (p_Name : ByteArray) (p_Version_Major : Int) (p_Version_Minor : Int) (p_Version_Patch : Int) (p_Deps : Sl) (p_Peers : Sl) (p_Optional : Sl) (w : World) (R : Bool → World → Prop) : Prop :=
  newS w [(Value.string p_Name), (Value.int .i64 p_Version_Major), (Value.int .i64 p_Version_Minor), (Value.int .i64 p_Version_Patch), (Sl.v p_Deps), (Sl.v p_Peers), (Sl.v p_Optional)] 48 fun a vw => ∃ (t4 : ByteArray), (ldc vw a [(Value.string t4)]) ∧ callS Tryz.prog 104 [(Value.string t4)] vw fun v vw1 => ∃ (t5 : Bool), v = (Value.bool t5) ∧ ∃ (t8_Major : Int) (t8_Minor : Int) (t8_Patch : Int), grd t5 (ldc vw1 (a.add 1) [(Value.int .i64 t8_Major), (Value.int .i64 t8_Minor), (Value.int .i64 t8_Patch)]) ∧ gCall t5 (fun (t9 : Bool) (vw3 : World) => bnd (t5 && t9) fun (b : Bool) => ∃ (t13 : Sl), grd b (ldc vw3 (a.add 4) [(Sl.v t13)]) ∧ gCall b (fun (t14 : Bool) (vw7 : World) => bnd (b && t14) fun (b12 : Bool) => ∃ (t18 : Sl), grd b12 (ldc vw7 (a.add 5) [(Sl.v t18)]) ∧ gCall b12 (fun (t19 : Bool) (vw14 : World) => bnd (b12 && t19) fun (b19 : Bool) => ∃ (t23 : Sl), grd b19 (ldc vw14 (a.add 6) [(Sl.v t23)]) ∧ gCall b19 (fun (t24 : Bool) (vw21 : World) => bnd (b19 && t24) fun (b26 : Bool) => ∃ (t28 : Sl), grd b26 (ldc vw21 (a.add 4) [(Sl.v t28)]) ∧ ∃ (t30 : Sl), grd b26 (ldc vw21 (a.add 5) [(Sl.v t30)]) ∧ ∃ (t32 : Sl), grd b26 (ldc vw21 (a.add 6) [(Sl.v t32)]) ∧ gCall b26 (fun (a30 : Addr) (vw31 : World) => gCall b26 (fun (t34 : Bool) (vw34 : World) => bnd (b26 && t34) fun (b39 : Bool) => ∃ (t37_Name : ByteArray) (t37_Version_Major : Int) (t37_Version_Minor : Int) (t37_Version_Patch : Int) (t37_Deps : Sl) (t37_Peers : Sl) (t37_Optional : Sl), grd b39 (ldc vw34 a [(Value.string t37_Name), (Value.int .i64 t37_Version_Major), (Value.int .i64 t37_Version_Minor), (Value.int .i64 t37_Version_Patch), (Sl.v t37_Deps), (Sl.v t37_Peers), (Sl.v t37_Optional)]) ∧ gCall b39 (fun (t38 : ByteArray) (vw41 : World) => R (b39 && (decide ((t38.size : Int) ≤ 4096))) vw41) (fun q => callS Tryz.prog 107 [(Value.agg #[(Value.string t37_Name), (Value.int .i64 t37_Version_Major), (Value.int .i64 t37_Version_Minor), (Value.int .i64 t37_Version_Patch), (Sl.v t37_Deps), (Sl.v t37_Peers), (Sl.v t37_Optional)])] vw34 fun v42 vw41 => ∃ (t38 : ByteArray), v42 = (Value.string t38) ∧ q t38 vw41) (fun q => q (ByteArray.mk #[]) vw34)) (fun q => callS Tryz.prog 106 [(Sl.v (Sl.mk (some a30) 3 3))] vw31 fun v35 vw34 => ∃ (t34 : Bool), v35 = (Value.bool t34) ∧ q t34 vw34) (fun q => q false vw31)) (fun q => newS vw21 [(Sl.v t28), (Sl.v t30), (Sl.v t32)] 23 q) (fun q => q ⟨0, 0, none⟩ vw21)) (fun q => callS Tryz.prog 105 [(Sl.v t23)] vw14 fun v22 vw21 => ∃ (t24 : Bool), v22 = (Value.bool t24) ∧ q t24 vw21) (fun q => q false vw14)) (fun q => callS Tryz.prog 105 [(Sl.v t18)] vw7 fun v15 vw14 => ∃ (t19 : Bool), v15 = (Value.bool t19) ∧ q t19 vw14) (fun q => q false vw7)) (fun q => callS Tryz.prog 105 [(Sl.v t13)] vw3 fun v8 vw7 => ∃ (t14 : Bool), v8 = (Value.bool t14) ∧ q t14 vw7) (fun q => q false vw3)) (fun q => callS Tryz.prog 97 [(Value.agg #[(Value.int .i64 t8_Major), (Value.int .i64 t8_Minor), (Value.int .i64 t8_Patch)])] vw1 fun v4 vw3 => ∃ (t9 : Bool), v4 = (Value.bool t9) ∧ q t9 vw3) (fun q => q false vw1)
set_option maxHeartbeats 8000000 in
theorem pack_May.sound (p_Name : ByteArray) (p_Version_Major : Int) (p_Version_Minor : Int) (p_Version_Patch : Int) (p_Deps : Sl) (p_Peers : Sl) (p_Optional : Sl) (w : World) (R : Bool → World → Prop) (h : pack_May p_Name p_Version_Major p_Version_Minor p_Version_Patch p_Deps p_Peers p_Optional w R) : callS Tryz.prog 61 [(Value.agg #[(Value.string p_Name), (Value.int .i64 p_Version_Major), (Value.int .i64 p_Version_Minor), (Value.int .i64 p_Version_Patch), (Sl.v p_Deps), (Sl.v p_Peers), (Sl.v p_Optional)])] w (fun v w' => ∃ (r0 : Bool), v = (Value.bool r0) ∧ R r0 w') := by
  unfold pack_May at h
  refine calls_of_vc 42 rfl Tryz.func61 rfl (by kernel_rfl) (by simp) ?_
  refine Vc.seq ?_
  refine Vc.region ?_
  refine vcL_eff rfl (opVC_new rfl (fun a => Value.pointer (some a)) (by kernel_rfl) (newS.mono h fun a vw hx h => ?_)) 
  refine vcL_pure rfl rfl (Value.bool false) (fun w => by kernel_rfl) ?_
  refine vcL_nil ?_
  refine Vc.seq ?_
  refine Vc.region ?_
  refine vcL_pure rfl rfl (Value.pointer (some a)) (fun w => by kernel_rfl) ?_
  obtain ⟨t4, hc, h⟩ := h
  refine vcL_val rfl rfl (Value.string t4) (exec_load rfl (by kernel_rfl) (run_load1 (fun w => by kernel_rfl) ((hc)))) ?_
  refine vcL_eff rfl (opVC_call rfl (by kernel_rfl) (callS.mono h fun v vw1 h => ?_)) 
  obtain ⟨t5, rfl, h⟩ := h
  refine vcL_pure rfl rfl (Value.bool t5) (fun w => by kernel_rfl) ?_
  refine vcL_guardP t5 (wanted_g (d := 6) rfl (by kernel_rfl) t5 (by kernel_rfl) t5 (eqT t5)) rfl (Value.pointer (some (a.add 1))) (fun hg w => by subst hg; kernel_rfl) ?_
  obtain ⟨t8_Major, t8_Minor, t8_Patch, hc2, h⟩ := h
  refine vcL_guard t5 (wanted_g (d := 6) rfl (by kernel_rfl) t5 (by kernel_rfl) t5 (eqT t5)) rfl (Value.agg #[(Value.int .i64 t8_Major), (Value.int .i64 t8_Minor), (Value.int .i64 t8_Patch)]) (fun hg => by subst hg; exact exec_load rfl (by kernel_rfl) (run_loadN (fun w => by kernel_rfl) (fun w => by kernel_rfl) ((hc2 rfl)))) ?_
  obtain ⟨vJ, hJ, h⟩ := gCall_elim h
  refine vcL_effJ (σ := Bool) t5 (wanted_g (d := 6) rfl (by kernel_rfl) t5 (by kernel_rfl) t5 (eqT t5)) rfl (fun s w => vJ s w) (fun s => (Value.bool s)) ?_ (fun hg => opVC_call rfl (by subst hg; kernel_rfl) (callS.mono (h.1 hg) fun v4 vw3 hq => ?_)) (fun hg => ⟨false, h.2 hg⟩)
  · intro t9 vw3 h
    subst hJ
    refine vcL_pure rfl rfl (Value.bool (t5 && t9)) (fun w => by cases t5 <;> kernel_rfl) ?_
    obtain ⟨b, hb⟩ : ∃ y, y = (t5 && t9) := ⟨_, rfl⟩
    have h := h b hb
    refine vcL_pure rfl rfl (Value.bool b) (fun w => by rw [hb]; kernel_rfl) ?_
    refine vcL_guardP b (wanted_g (d := 11) rfl (by kernel_rfl) b (by kernel_rfl) b (eqT b)) rfl (Value.pointer (some (a.add 4))) (fun hg w => by subst hg; kernel_rfl) ?_
    obtain ⟨t13, hc6, h⟩ := h
    refine vcL_guard b (wanted_g (d := 11) rfl (by kernel_rfl) b (by kernel_rfl) b (eqT b)) rfl (Sl.v t13) (fun hg => by subst hg; exact exec_load rfl (by kernel_rfl) (run_load1 (fun w => by kernel_rfl) ((hc6 rfl)))) ?_
    obtain ⟨vJ10, hJ11, h⟩ := gCall_elim h
    refine vcL_effJ (σ := Bool) b (wanted_g (d := 11) rfl (by kernel_rfl) b (by kernel_rfl) b (eqT b)) rfl (fun s w => vJ10 s w) (fun s => (Value.bool s)) ?_ (fun hg => opVC_call rfl (by subst hg; kernel_rfl) (callS.mono (h.1 hg) fun v8 vw7 hq => ?_)) (fun hg => ⟨false, h.2 hg⟩)
    · intro t14 vw7 h
      subst hJ11
      refine vcL_pure rfl rfl (Value.bool (b && t14)) (fun w => by cases b <;> kernel_rfl) ?_
      obtain ⟨b12, hb12⟩ : ∃ y, y = (b && t14) := ⟨_, rfl⟩
      have h := h b12 hb12
      refine vcL_pure rfl rfl (Value.bool b12) (fun w => by rw [hb12]; kernel_rfl) ?_
      refine vcL_guardP b12 (wanted_g (d := 16) rfl (by kernel_rfl) b12 (by kernel_rfl) b12 (eqT b12)) rfl (Value.pointer (some (a.add 5))) (fun hg w => by subst hg; kernel_rfl) ?_
      obtain ⟨t18, hc13, h⟩ := h
      refine vcL_guard b12 (wanted_g (d := 16) rfl (by kernel_rfl) b12 (by kernel_rfl) b12 (eqT b12)) rfl (Sl.v t18) (fun hg => by subst hg; exact exec_load rfl (by kernel_rfl) (run_load1 (fun w => by kernel_rfl) ((hc13 rfl)))) ?_
      obtain ⟨vJ17, hJ18, h⟩ := gCall_elim h
      refine vcL_effJ (σ := Bool) b12 (wanted_g (d := 16) rfl (by kernel_rfl) b12 (by kernel_rfl) b12 (eqT b12)) rfl (fun s w => vJ17 s w) (fun s => (Value.bool s)) ?_ (fun hg => opVC_call rfl (by subst hg; kernel_rfl) (callS.mono (h.1 hg) fun v15 vw14 hq => ?_)) (fun hg => ⟨false, h.2 hg⟩)
      · intro t19 vw14 h
        subst hJ18
        refine vcL_pure rfl rfl (Value.bool (b12 && t19)) (fun w => by cases b12 <;> kernel_rfl) ?_
        obtain ⟨b19, hb19⟩ : ∃ y, y = (b12 && t19) := ⟨_, rfl⟩
        have h := h b19 hb19
        refine vcL_pure rfl rfl (Value.bool b19) (fun w => by rw [hb19]; kernel_rfl) ?_
        refine vcL_guardP b19 (wanted_g (d := 21) rfl (by kernel_rfl) b19 (by kernel_rfl) b19 (eqT b19)) rfl (Value.pointer (some (a.add 6))) (fun hg w => by subst hg; kernel_rfl) ?_
        obtain ⟨t23, hc20, h⟩ := h
        refine vcL_guard b19 (wanted_g (d := 21) rfl (by kernel_rfl) b19 (by kernel_rfl) b19 (eqT b19)) rfl (Sl.v t23) (fun hg => by subst hg; exact exec_load rfl (by kernel_rfl) (run_load1 (fun w => by kernel_rfl) ((hc20 rfl)))) ?_
        obtain ⟨vJ24, hJ25, h⟩ := gCall_elim h
        refine vcL_effJ (σ := Bool) b19 (wanted_g (d := 21) rfl (by kernel_rfl) b19 (by kernel_rfl) b19 (eqT b19)) rfl (fun s w => vJ24 s w) (fun s => (Value.bool s)) ?_ (fun hg => opVC_call rfl (by subst hg; kernel_rfl) (callS.mono (h.1 hg) fun v22 vw21 hq => ?_)) (fun hg => ⟨false, h.2 hg⟩)
        · intro t24 vw21 h
          subst hJ25
          refine vcL_pure rfl rfl (Value.bool (b19 && t24)) (fun w => by cases b19 <;> kernel_rfl) ?_
          obtain ⟨b26, hb26⟩ : ∃ y, y = (b19 && t24) := ⟨_, rfl⟩
          have h := h b26 hb26
          refine vcL_pure rfl rfl (Value.bool b26) (fun w => by rw [hb26]; kernel_rfl) ?_
          refine vcL_guardP b26 (wanted_g (d := 26) rfl (by kernel_rfl) b26 (by kernel_rfl) b26 (eqT b26)) rfl (Value.pointer (some (a.add 4))) (fun hg w => by subst hg; kernel_rfl) ?_
          obtain ⟨t28, hc27, h⟩ := h
          refine vcL_guard b26 (wanted_g (d := 26) rfl (by kernel_rfl) b26 (by kernel_rfl) b26 (eqT b26)) rfl (Sl.v t28) (fun hg => by subst hg; exact exec_load rfl (by kernel_rfl) (run_load1 (fun w => by kernel_rfl) ((hc27 rfl)))) ?_
          refine vcL_guardP b26 (wanted_g (d := 26) rfl (by kernel_rfl) b26 (by kernel_rfl) b26 (eqT b26)) rfl (Value.pointer (some (a.add 5))) (fun hg w => by subst hg; kernel_rfl) ?_
          obtain ⟨t30, hc28, h⟩ := h
          refine vcL_guard b26 (wanted_g (d := 26) rfl (by kernel_rfl) b26 (by kernel_rfl) b26 (eqT b26)) rfl (Sl.v t30) (fun hg => by subst hg; exact exec_load rfl (by kernel_rfl) (run_load1 (fun w => by kernel_rfl) ((hc28 rfl)))) ?_
          refine vcL_guardP b26 (wanted_g (d := 26) rfl (by kernel_rfl) b26 (by kernel_rfl) b26 (eqT b26)) rfl (Value.pointer (some (a.add 6))) (fun hg w => by subst hg; kernel_rfl) ?_
          obtain ⟨t32, hc29, h⟩ := h
          refine vcL_guard b26 (wanted_g (d := 26) rfl (by kernel_rfl) b26 (by kernel_rfl) b26 (eqT b26)) rfl (Sl.v t32) (fun hg => by subst hg; exact exec_load rfl (by kernel_rfl) (run_load1 (fun w => by kernel_rfl) ((hc29 rfl)))) ?_
          obtain ⟨vJ32, hJ33, h⟩ := gCall_elim h
          refine vcL_effJ (σ := Addr) b26 (wanted_g (d := 26) rfl (by kernel_rfl) b26 (by kernel_rfl) b26 (eqT b26)) rfl (fun s w => vJ32 s w) (fun a => Value.slice (some a) 3 3) ?_ (fun hg => opVC_new rfl (fun a => Value.slice (some a) 3 3) (by subst hg; kernel_rfl) (newS.mono (h.1 hg) fun a w' hx hq => ?_)) (fun hg => ⟨⟨0, 0, none⟩, h.2 hg⟩)
          · intro a30 vw31 h
            subst hJ33
            obtain ⟨vJ37, hJ38, h⟩ := gCall_elim h
            refine vcL_effJ (σ := Bool) b26 (wanted_g (d := 26) rfl (by kernel_rfl) b26 (by kernel_rfl) b26 (eqT b26)) rfl (fun s w => vJ37 s w) (fun s => (Value.bool s)) ?_ (fun hg => opVC_call rfl (by subst hg; kernel_rfl) (callS.mono (h.1 hg) fun v35 vw34 hq => ?_)) (fun hg => ⟨false, h.2 hg⟩)
            · intro t34 vw34 h
              subst hJ38
              refine vcL_pure rfl rfl (Value.bool (b26 && t34)) (fun w => by cases b26 <;> kernel_rfl) ?_
              obtain ⟨b39, hb39⟩ : ∃ y, y = (b26 && t34) := ⟨_, rfl⟩
              have h := h b39 hb39
              refine vcL_pure rfl rfl (Value.bool b39) (fun w => by rw [hb39]; kernel_rfl) ?_
              obtain ⟨t37_Name, t37_Version_Major, t37_Version_Minor, t37_Version_Patch, t37_Deps, t37_Peers, t37_Optional, hc40, h⟩ := h
              refine vcL_guard b39 (wanted_g (d := 36) rfl (by kernel_rfl) b39 (by kernel_rfl) b39 (eqT b39)) rfl (Value.agg #[(Value.string t37_Name), (Value.int .i64 t37_Version_Major), (Value.int .i64 t37_Version_Minor), (Value.int .i64 t37_Version_Patch), (Sl.v t37_Deps), (Sl.v t37_Peers), (Sl.v t37_Optional)]) (fun hg => by subst hg; exact exec_load rfl (by kernel_rfl) (run_loadN (fun w => by kernel_rfl) (fun w => by kernel_rfl) ((hc40 rfl)))) ?_
              obtain ⟨vJ44, hJ45, h⟩ := gCall_elim h
              refine vcL_effJ (σ := ByteArray) b39 (wanted_g (d := 36) rfl (by kernel_rfl) b39 (by kernel_rfl) b39 (eqT b39)) rfl (fun s w => vJ44 s w) (fun s => (Value.string s)) ?_ (fun hg => opVC_call rfl (by subst hg; kernel_rfl) (callS.mono (h.1 hg) fun v42 vw41 hq => ?_)) (fun hg => ⟨(ByteArray.mk #[]), h.2 hg⟩)
              · intro t38 vw41 h
                subst hJ45
                refine vcL_guardP b39 (wanted_g (d := 36) rfl (by kernel_rfl) b39 (by kernel_rfl) b39 (eqT b39)) rfl (Value.int .i64 (t38.size : Int)) (fun hg w => by subst hg; kernel_rfl) ?_
                refine vcL_guardP b39 (wanted_g (d := 36) rfl (by kernel_rfl) b39 (by kernel_rfl) b39 (eqT b39)) rfl (Value.bool (decide ((t38.size : Int) ≤ 4096))) (fun hg w => by subst hg; kernel_rfl) ?_
                refine vcL_pure rfl rfl (Value.bool (b39 && (decide ((t38.size : Int) ≤ 4096)))) (fun w => by cases b39 <;> kernel_rfl) ?_
                refine vcL_pure rfl rfl (Value.bool (b39 && (decide ((t38.size : Int) ≤ 4096)))) (fun w => by kernel_rfl) ?_
                refine vcL_nil ?_
                refine Vc.ret ?_
                refine outs_ret ?_
                refine done_mk (Value.bool (b39 && (decide ((t38.size : Int) ≤ 4096)))) (res1 (resC_tmp (by kernel_rfl))) ?_
                exact ⟨(b39 && (decide ((t38.size : Int) ≤ 4096))), rfl, h⟩
              · obtain ⟨t38, rfl, hq⟩ := hq
                exact ⟨t38, rfl, hq⟩
            · obtain ⟨t34, rfl, hq⟩ := hq
              exact ⟨t34, rfl, hq⟩
          · exact ⟨a, rfl, hq⟩
        · obtain ⟨t24, rfl, hq⟩ := hq
          exact ⟨t24, rfl, hq⟩
      · obtain ⟨t19, rfl, hq⟩ := hq
        exact ⟨t19, rfl, hq⟩
    · obtain ⟨t14, rfl, hq⟩ := hq
      exact ⟨t14, rfl, hq⟩
  · obtain ⟨t9, rfl, hq⟩ := hq
    exact ⟨t9, rfl, hq⟩
theorem pack_May.go {p_Name : ByteArray} {p_Version_Major : Int} {p_Version_Minor : Int} {p_Version_Patch : Int} {p_Deps : Sl} {p_Peers : Sl} {p_Optional : Sl} {w : World} {k : Value → World → Prop} (h : pack_May p_Name p_Version_Major p_Version_Minor p_Version_Patch p_Deps p_Peers p_Optional w fun r0 w' => k (Value.bool r0) w') : callS Tryz.prog 61 [(Value.agg #[(Value.string p_Name), (Value.int .i64 p_Version_Major), (Value.int .i64 p_Version_Minor), (Value.int .i64 p_Version_Patch), (Sl.v p_Deps), (Sl.v p_Peers), (Sl.v p_Optional)])] w k := (pack_May.sound p_Name p_Version_Major p_Version_Minor p_Version_Patch p_Deps p_Peers p_Optional w _ h).mono (by rintro _ _ ⟨r0, rfl, h⟩; exact h)

/-- halyard/catalog.copied -/
def catalog_copied (p_Name : ByteArray) (p_Version_Major : Int) (p_Version_Minor : Int) (p_Version_Patch : Int) (p_Deps : Sl) (p_Peers : Sl) (p_Optional : Sl) (w : World) (R : ByteArray → Int → Int → Int → Sl → Sl → Sl → World → Prop) : Prop :=
  newS w [(Value.string p_Name), (Value.int .i64 p_Version_Major), (Value.int .i64 p_Version_Minor), (Value.int .i64 p_Version_Patch), (Sl.v p_Deps), (Sl.v p_Peers), (Sl.v p_Optional)] 48 fun a vw => newS vw [(Value.string (ByteArray.mk #[])), (Value.int .i64 0), (Value.int .i64 0), (Value.int .i64 0), (Sl.v Sl.nil), (Sl.v Sl.nil), (Sl.v Sl.nil)] 48 fun a1 vw2 => bnd vw2.drew fun (vw3 : World) => ∃ (t4 : Sl), (ldc vw3 (a.add 4) [(Sl.v t4)]) ∧ ∃ (t7 : Sl), (ldc vw3 (a.add 5) [(Sl.v t7)]) ∧ ∃ (t10 : Sl), (ldc vw3 (a.add 6) [(Sl.v t10)]) ∧ callX Tryz.prog 108 [(Sl.v t4)] vw3 fun v vw6 => ∃ (t5 : Sl), v = (Sl.v t5) ∧ callX Tryz.prog 108 [(Sl.v t7)] vw6 fun v8 vw7 => ∃ (t8 : Sl), v8 = (Sl.v t8) ∧ callS Tryz.prog 108 [(Sl.v t10)] vw7 fun v11 vw10 => ∃ (t11 : Sl), v11 = (Sl.v t11) ∧ stw vw10 (a.add 4) [(Sl.v t5)] fun vw13 => stw vw13 (a.add 5) [(Sl.v t8)] fun vw14 => stw vw14 (a.add 6) [(Sl.v t11)] fun vw15 => ∃ (t15_Name : ByteArray) (t15_Version_Major : Int) (t15_Version_Minor : Int) (t15_Version_Patch : Int) (t15_Deps : Sl) (t15_Peers : Sl) (t15_Optional : Sl), (ldc vw15 a [(Value.string t15_Name), (Value.int .i64 t15_Version_Major), (Value.int .i64 t15_Version_Minor), (Value.int .i64 t15_Version_Patch), (Sl.v t15_Deps), (Sl.v t15_Peers), (Sl.v t15_Optional)]) ∧ stw vw15 a1 [(Value.string t15_Name), (Value.int .i64 t15_Version_Major), (Value.int .i64 t15_Version_Minor), (Value.int .i64 t15_Version_Patch), (Sl.v t15_Deps), (Sl.v t15_Peers), (Sl.v t15_Optional)] fun vw17 => ∃ (r_Name : ByteArray) (r_Version_Major : Int) (r_Version_Minor : Int) (r_Version_Patch : Int) (r_Deps : Sl) (r_Peers : Sl) (r_Optional : Sl), ldc vw17 a1 [(Value.string r_Name), (Value.int .i64 r_Version_Major), (Value.int .i64 r_Version_Minor), (Value.int .i64 r_Version_Patch), (Sl.v r_Deps), (Sl.v r_Peers), (Sl.v r_Optional)] ∧ R r_Name r_Version_Major r_Version_Minor r_Version_Patch r_Deps r_Peers r_Optional vw17
set_option maxHeartbeats 8000000 in
theorem catalog_copied.sound (p_Name : ByteArray) (p_Version_Major : Int) (p_Version_Minor : Int) (p_Version_Patch : Int) (p_Deps : Sl) (p_Peers : Sl) (p_Optional : Sl) (w : World) (R : ByteArray → Int → Int → Int → Sl → Sl → Sl → World → Prop) (h : catalog_copied p_Name p_Version_Major p_Version_Minor p_Version_Patch p_Deps p_Peers p_Optional w R) : callS Tryz.prog 62 [(Value.agg #[(Value.string p_Name), (Value.int .i64 p_Version_Major), (Value.int .i64 p_Version_Minor), (Value.int .i64 p_Version_Patch), (Sl.v p_Deps), (Sl.v p_Peers), (Sl.v p_Optional)])] w (fun v w' => ∃ (r0 : ByteArray) (r1 : Int) (r2 : Int) (r3 : Int) (r4 : Sl) (r5 : Sl) (r6 : Sl), v = (Value.agg #[(Value.string r0), (Value.int .i64 r1), (Value.int .i64 r2), (Value.int .i64 r3), (Sl.v r4), (Sl.v r5), (Sl.v r6)]) ∧ R r0 r1 r2 r3 r4 r5 r6 w') := by
  unfold catalog_copied at h
  refine calls_of_vc 16 rfl Tryz.func62 rfl (by kernel_rfl) (by simp) ?_
  refine Vc.seq ?_
  refine Vc.region ?_
  refine vcL_eff rfl (opVC_new rfl (fun a => Value.pointer (some a)) (by kernel_rfl) (newS.mono h fun a vw hx h => ?_)) 
  refine vcL_eff rfl (opVC_new rfl (fun a => Value.pointer (some a)) (by kernel_rfl) (newS.mono h fun a1 vw2 hx h => ?_)) 
  refine vcL_nil ?_
  refine Vc.seq ?_
  obtain ⟨vw3, hvw3⟩ : ∃ y, y = vw2.drew := ⟨_, rfl⟩
  have h := h vw3 hvw3
  refine Vc.draw (by kernel_rfl) (fun i => !(memN [8, 10, 12, 14] i)) (.pur 0 (.val 1 (.pur 3 (.val 4 (.pur 6 (.val 7 (.eff 2 (.pur 9 (.eff 5 (.eff 8 (.eff 10 (.pur 11 (.eff 12 (.pur 13 (.eff 14 .fin .stop)) .stop)) .stop) .stop) .stop)) .stop))))))) (by kernel_rfl) ?_
  rw [← hvw3]
  clear hvw3
  refine vcS_pure rfl rfl rfl (Value.pointer (some (a.add 4))) (fun w => by kernel_rfl) ?_
  obtain ⟨t4, hc, h⟩ := h
  refine vcS_val rfl rfl rfl (Sl.v t4) (fun w' hx => exec_load rfl (by kernel_rfl) (run_load1 (fun w => by kernel_rfl) ((hc).ext hx))) ?_
  refine vcS_pure rfl rfl rfl (Value.pointer (some (a.add 5))) (fun w => by kernel_rfl) ?_
  obtain ⟨t7, hc4, h⟩ := h
  refine vcS_val rfl rfl rfl (Sl.v t7) (fun w' hx => exec_load rfl (by kernel_rfl) (run_load1 (fun w => by kernel_rfl) ((hc4).ext hx))) ?_
  refine vcS_pure rfl rfl rfl (Value.pointer (some (a.add 6))) (fun w => by kernel_rfl) ?_
  obtain ⟨t10, hc5, h⟩ := h
  refine vcS_val rfl rfl rfl (Sl.v t10) (fun w' hx => exec_load rfl (by kernel_rfl) (run_load1 (fun w => by kernel_rfl) ((hc5).ext hx))) ?_
  refine vcS_eff rfl rfl (opVC_call rfl (by kernel_rfl) (callS.mono h fun v vw6 h => ?_)) vcS_stop
  obtain ⟨hx, h⟩ := h
  obtain ⟨t5, rfl, h⟩ := h
  refine ⟨fun _ => hx, ?_⟩
  refine vcS_pure rfl rfl rfl (Value.pointer (some (a.add 4))) (fun w => by kernel_rfl) ?_
  refine vcS_eff rfl rfl (opVC_call rfl (by kernel_rfl) (callS.mono h fun v8 vw7 h => ?_)) vcS_stop
  obtain ⟨hx9, h⟩ := h
  obtain ⟨t8, rfl, h⟩ := h
  refine ⟨fun _ => hx9, ?_⟩
  refine vcS_eff rfl rfl (opVC_call rfl (by kernel_rfl) (callS.mono h fun v11 vw10 h => ?_)) vcS_stop
  obtain ⟨t11, rfl, h⟩ := h
  refine ⟨fun hb => absurd hb (by decide), ?_⟩
  refine vcS_eff rfl rfl (opVC_store rfl rfl (a := (a.add 4)) (by kernel_rfl) (v := (Sl.v t5)) (by kernel_rfl) [(Sl.v t5)] (by kernel_rfl) (fun w => by kernel_rfl) (by kernel_rfl) (stw.mono h fun vw13 h => ?_)) vcS_stop
  refine ⟨fun hb => absurd hb (by decide), ?_⟩
  refine vcS_pure rfl rfl rfl (Value.pointer (some (a.add 5))) (fun w => by kernel_rfl) ?_
  refine vcS_eff rfl rfl (opVC_store rfl rfl (a := (a.add 5)) (by kernel_rfl) (v := (Sl.v t8)) (by kernel_rfl) [(Sl.v t8)] (by kernel_rfl) (fun w => by kernel_rfl) (by kernel_rfl) (stw.mono h fun vw14 h => ?_)) vcS_stop
  refine ⟨fun hb => absurd hb (by decide), ?_⟩
  refine vcS_pure rfl rfl rfl (Value.pointer (some (a.add 6))) (fun w => by kernel_rfl) ?_
  refine vcS_eff rfl rfl (opVC_store rfl rfl (a := (a.add 6)) (by kernel_rfl) (v := (Sl.v t11)) (by kernel_rfl) [(Sl.v t11)] (by kernel_rfl) (fun w => by kernel_rfl) (by kernel_rfl) (stw.mono h fun vw15 h => ?_)) vcS_stop
  refine ⟨fun hb => absurd hb (by decide), ?_⟩
  refine vcS_fin ?_
  refine Vc.seq ?_
  refine Vc.region ?_
  obtain ⟨t15_Name, t15_Version_Major, t15_Version_Minor, t15_Version_Patch, t15_Deps, t15_Peers, t15_Optional, hc16, h⟩ := h
  refine vcL_val rfl rfl (Value.agg #[(Value.string t15_Name), (Value.int .i64 t15_Version_Major), (Value.int .i64 t15_Version_Minor), (Value.int .i64 t15_Version_Patch), (Sl.v t15_Deps), (Sl.v t15_Peers), (Sl.v t15_Optional)]) (exec_load rfl (by kernel_rfl) (run_loadN (fun w => by kernel_rfl) (fun w => by kernel_rfl) ((hc16)))) ?_
  refine vcL_eff rfl (opVC_store rfl rfl (a := a1) (by kernel_rfl) (v := (Value.agg #[(Value.string t15_Name), (Value.int .i64 t15_Version_Major), (Value.int .i64 t15_Version_Minor), (Value.int .i64 t15_Version_Patch), (Sl.v t15_Deps), (Sl.v t15_Peers), (Sl.v t15_Optional)])) (by kernel_rfl) [(Value.string t15_Name), (Value.int .i64 t15_Version_Major), (Value.int .i64 t15_Version_Minor), (Value.int .i64 t15_Version_Patch), (Sl.v t15_Deps), (Sl.v t15_Peers), (Sl.v t15_Optional)] (by kernel_rfl) (fun w => by kernel_rfl) (by kernel_rfl) (stw.mono h fun vw17 h => ?_)) 
  refine vcL_nil ?_
  refine Vc.ret ?_
  refine outs_ret ?_
  obtain ⟨r_Name, r_Version_Major, r_Version_Minor, r_Version_Patch, r_Deps, r_Peers, r_Optional, hc18, h⟩ := h
  refine done_mk (Value.agg #[(Value.string r_Name), (Value.int .i64 r_Version_Major), (Value.int .i64 r_Version_Minor), (Value.int .i64 r_Version_Patch), (Sl.v r_Deps), (Sl.v r_Peers), (Sl.v r_Optional)]) (res1 (resC_cell (by kernel_rfl) (run_loadN (fun w => by kernel_rfl) (fun w => by kernel_rfl) hc18))) ?_
  exact ⟨r_Name, r_Version_Major, r_Version_Minor, r_Version_Patch, r_Deps, r_Peers, r_Optional, rfl, h⟩
theorem catalog_copied.go {p_Name : ByteArray} {p_Version_Major : Int} {p_Version_Minor : Int} {p_Version_Patch : Int} {p_Deps : Sl} {p_Peers : Sl} {p_Optional : Sl} {w : World} {k : Value → World → Prop} (h : catalog_copied p_Name p_Version_Major p_Version_Minor p_Version_Patch p_Deps p_Peers p_Optional w fun r0 r1 r2 r3 r4 r5 r6 w' => k (Value.agg #[(Value.string r0), (Value.int .i64 r1), (Value.int .i64 r2), (Value.int .i64 r3), (Sl.v r4), (Sl.v r5), (Sl.v r6)]) w') : callS Tryz.prog 62 [(Value.agg #[(Value.string p_Name), (Value.int .i64 p_Version_Major), (Value.int .i64 p_Version_Minor), (Value.int .i64 p_Version_Patch), (Sl.v p_Deps), (Sl.v p_Peers), (Sl.v p_Optional)])] w k := (catalog_copied.sound p_Name p_Version_Major p_Version_Minor p_Version_Patch p_Deps p_Peers p_Optional w _ h).mono (by rintro _ _ ⟨r0, r1, r2, r3, r4, r5, r6, rfl, h⟩; exact h)

/-- halyard/catalog.falling -/
def catalog_falling (a_Major : Int) (a_Minor : Int) (a_Patch : Int) (b_Major : Int) (b_Minor : Int) (b_Patch : Int) (w : World) (R : Int → World → Prop) : Prop :=
  newS w [(Value.int .i64 a_Major), (Value.int .i64 a_Minor), (Value.int .i64 a_Patch)] 30 fun a vw => newS vw [(Value.int .i64 b_Major), (Value.int .i64 b_Minor), (Value.int .i64 b_Patch)] 30 fun a1 vw2 => ∃ (t5_Major : Int) (t5_Minor : Int) (t5_Patch : Int), (ldc vw2 a1 [(Value.int .i64 t5_Major), (Value.int .i64 t5_Minor), (Value.int .i64 t5_Patch)]) ∧ ∃ (t6_Major : Int) (t6_Minor : Int) (t6_Patch : Int), (ldc vw2 a [(Value.int .i64 t6_Major), (Value.int .i64 t6_Minor), (Value.int .i64 t6_Patch)]) ∧ callS Tryz.prog 100 [(Value.agg #[(Value.int .i64 t5_Major), (Value.int .i64 t5_Minor), (Value.int .i64 t5_Patch)]), (Value.agg #[(Value.int .i64 t6_Major), (Value.int .i64 t6_Minor), (Value.int .i64 t6_Patch)])] vw2 fun v vw4 => ∃ (t7 : Int), v = (Value.int .i64 t7) ∧ R t7 vw4
set_option maxHeartbeats 8000000 in
theorem catalog_falling.sound (a_Major : Int) (a_Minor : Int) (a_Patch : Int) (b_Major : Int) (b_Minor : Int) (b_Patch : Int) (w : World) (R : Int → World → Prop) (h : catalog_falling a_Major a_Minor a_Patch b_Major b_Minor b_Patch w R) : callS Tryz.prog 65 [(Value.agg #[(Value.int .i64 a_Major), (Value.int .i64 a_Minor), (Value.int .i64 a_Patch)]), (Value.agg #[(Value.int .i64 b_Major), (Value.int .i64 b_Minor), (Value.int .i64 b_Patch)])] w (fun v w' => ∃ (r0 : Int), v = (Value.int .i64 r0) ∧ R r0 w') := by
  unfold catalog_falling at h
  refine calls_of_vc 8 rfl Tryz.func65 rfl (by kernel_rfl) (by simp) ?_
  refine Vc.seq ?_
  refine Vc.region ?_
  refine vcL_eff rfl (opVC_new rfl (fun a => Value.pointer (some a)) (by kernel_rfl) (newS.mono h fun a vw hx h => ?_)) 
  refine vcL_eff rfl (opVC_new rfl (fun a => Value.pointer (some a)) (by kernel_rfl) (newS.mono h fun a1 vw2 hx h => ?_)) 
  refine vcL_pure rfl rfl (Value.int .i64 0) (fun w => by kernel_rfl) ?_
  refine vcL_nil ?_
  refine Vc.seq ?_
  refine Vc.region ?_
  obtain ⟨t5_Major, t5_Minor, t5_Patch, hc, h⟩ := h
  refine vcL_val rfl rfl (Value.agg #[(Value.int .i64 t5_Major), (Value.int .i64 t5_Minor), (Value.int .i64 t5_Patch)]) (exec_load rfl (by kernel_rfl) (run_loadN (fun w => by kernel_rfl) (fun w => by kernel_rfl) ((hc)))) ?_
  obtain ⟨t6_Major, t6_Minor, t6_Patch, hc3, h⟩ := h
  refine vcL_val rfl rfl (Value.agg #[(Value.int .i64 t6_Major), (Value.int .i64 t6_Minor), (Value.int .i64 t6_Patch)]) (exec_load rfl (by kernel_rfl) (run_loadN (fun w => by kernel_rfl) (fun w => by kernel_rfl) ((hc3)))) ?_
  refine vcL_eff rfl (opVC_call rfl (by kernel_rfl) (callS.mono h fun v vw4 h => ?_)) 
  obtain ⟨t7, rfl, h⟩ := h
  refine vcL_pure rfl rfl (Value.int .i64 t7) (fun w => by kernel_rfl) ?_
  refine vcL_nil ?_
  refine Vc.ret ?_
  refine outs_ret ?_
  refine done_mk (Value.int .i64 t7) (res1 (resC_tmp (by kernel_rfl))) ?_
  exact ⟨t7, rfl, h⟩
theorem catalog_falling.go {a_Major : Int} {a_Minor : Int} {a_Patch : Int} {b_Major : Int} {b_Minor : Int} {b_Patch : Int} {w : World} {k : Value → World → Prop} (h : catalog_falling a_Major a_Minor a_Patch b_Major b_Minor b_Patch w fun r0 w' => k (Value.int .i64 r0) w') : callS Tryz.prog 65 [(Value.agg #[(Value.int .i64 a_Major), (Value.int .i64 a_Minor), (Value.int .i64 a_Patch)]), (Value.agg #[(Value.int .i64 b_Major), (Value.int .i64 b_Minor), (Value.int .i64 b_Patch)])] w k := (catalog_falling.sound a_Major a_Minor a_Patch b_Major b_Minor b_Patch w _ h).mono (by rintro _ _ ⟨r0, rfl, h⟩; exact h)

/-- slices.Clip[[]halyard/api.Version,halyard/api.Version] -/
def slices_Clip_apiVersionapiVersion (vs : Sl) (w : World) (R : Sl → World → Prop) : Prop :=
  ((0 : Int) ≤ 0 ∧ 0 ≤ (vs.len : Int) ∧ (vs.len : Int) ≤ (vs.len : Int) ∧ (vs.len : Int) ≤ (vs.cap : Int)) ∧ R (Sl.mk (if (vs.len : Int).toNat = 0 then vs.a else vs.a.map (·.add (0 * 3))) ((vs.len : Int).toNat - 0) ((vs.len : Int).toNat - 0)) w
set_option maxHeartbeats 8000000 in
theorem slices_Clip_apiVersionapiVersion.sound (vs : Sl) (w : World) (R : Sl → World → Prop) (h : slices_Clip_apiVersionapiVersion vs w R) : callS Tryz.prog 66 [(Sl.v vs)] w (fun v w' => ∃ (r0 : Sl), v = (Sl.v r0) ∧ R r0 w') := by
  unfold slices_Clip_apiVersionapiVersion at h
  refine calls_of_vc 9 rfl Tryz.func66 rfl (by kernel_rfl) (by simp) ?_
  refine Vc.seq ?_
  refine Vc.region ?_
  refine vcL_pure rfl rfl (Sl.v Sl.nil) (fun w => by kernel_rfl) ?_
  refine vcL_nil ?_
  refine Vc.seq ?_
  refine Vc.region ?_
  refine vcL_purs 5 [(7, (Value.int .i64 (vs.len : Int))), (6, (Sl.v vs)), (5, (Value.int .i64 (vs.len : Int))), (4, (Sl.v vs)), (3, (Sl.v vs))] (by kernel_rfl) ?_
  obtain ⟨hi, h⟩ := h
  refine vcL_pure rfl rfl (Sl.v (Sl.mk (if (vs.len : Int).toNat = 0 then vs.a else vs.a.map (·.add (0 * 3))) ((vs.len : Int).toNat - 0) ((vs.len : Int).toNat - 0))) (fun w => by exact exec_slSlHM (s := vs) (el := 30) (k2 := .i64) (k3 := .i64) rfl (by kernel_rfl) (by kernel_rfl) (by kernel_rfl) (by kernel_rfl) (fun w => by kernel_rfl) (hi) w) ?_
  refine vcL_pure rfl rfl (Sl.v (Sl.mk (if (vs.len : Int).toNat = 0 then vs.a else vs.a.map (·.add (0 * 3))) ((vs.len : Int).toNat - 0) ((vs.len : Int).toNat - 0))) (fun w => by kernel_rfl) ?_
  refine vcL_nil ?_
  refine Vc.ret ?_
  refine outs_ret ?_
  refine done_mk (Sl.v (Sl.mk (if (vs.len : Int).toNat = 0 then vs.a else vs.a.map (·.add (0 * 3))) ((vs.len : Int).toNat - 0) ((vs.len : Int).toNat - 0))) (res1 (resC_tmp (by kernel_rfl))) ?_
  exact ⟨(Sl.mk (if (vs.len : Int).toNat = 0 then vs.a else vs.a.map (·.add (0 * 3))) ((vs.len : Int).toNat - 0) ((vs.len : Int).toNat - 0)), rfl, h⟩
theorem slices_Clip_apiVersionapiVersion.go {vs : Sl} {w : World} {k : Value → World → Prop} (h : slices_Clip_apiVersionapiVersion vs w fun r0 w' => k (Sl.v r0) w') : callS Tryz.prog 66 [(Sl.v vs)] w k := (slices_Clip_apiVersionapiVersion.sound vs w _ h).mono (by rintro _ _ ⟨r0, rfl, h⟩; exact h)

/-- slices.DeleteFunc[[]halyard/api.Version,halyard/api.Version] -/
def slices_DeleteFunc_apiVersionapiVersion (vs : Sl) (del : Value) (w : World) (R : Sl → World → Prop) : Prop :=
  callS Tryz.prog 110 [(Sl.v vs), del] w fun v vw => ∃ (t10 : Int), v = (Value.int .i64 t10) ∧ ((t10 = (-1) → R vs vw) ∧ (¬ (t10 = (-1)) → loop2 t10 (wrapI (t10 + 1)) vw fun i vj vw1 nxt => ((vj < (vs.len : Int) → join (fun (i2 : Int) (vw3 : World) => nxt i2 (wrapI (vj + 1)) vw3) fun vJ => ∃ (ad : Addr), (vs.a = some ad ∧ (0 : Int) ≤ vj ∧ vj < (vs.len : Int)) ∧ ∃ (t25_Major : Int) (t25_Minor : Int) (t25_Patch : Int), (ldc vw1 (ad.add (vj.toNat * 3)) [(Value.int .i64 t25_Major), (Value.int .i64 t25_Minor), (Value.int .i64 t25_Patch)]) ∧ newS vw1 [(Value.int .i64 0), (Value.int .i64 0), (Value.int .i64 0)] 30 fun a vw4 => stw vw4 a [(Value.int .i64 t25_Major), (Value.int .i64 t25_Minor), (Value.int .i64 t25_Patch)] fun vw5 => ∃ (t27_Major : Int) (t27_Minor : Int) (t27_Patch : Int), (ldc vw5 a [(Value.int .i64 t27_Major), (Value.int .i64 t27_Minor), (Value.int .i64 t27_Patch)]) ∧ callV Tryz.prog del [(Value.agg #[(Value.int .i64 t27_Major), (Value.int .i64 t27_Minor), (Value.int .i64 t27_Patch)])] vw5 fun v8 vw7 => ∃ (t28 : Bool), v8 = (Value.bool t28) ∧ (((!t28) = true → ∃ (t32_Major : Int) (t32_Minor : Int) (t32_Patch : Int), (ldc vw7 a [(Value.int .i64 t32_Major), (Value.int .i64 t32_Minor), (Value.int .i64 t32_Patch)]) ∧ ∃ (ad11 : Addr), (vs.a = some ad11 ∧ (0 : Int) ≤ i ∧ i < (vs.len : Int)) ∧ stw vw7 (ad11.add (i.toNat * 3)) [(Value.int .i64 t32_Major), (Value.int .i64 t32_Minor), (Value.int .i64 t32_Patch)] fun vw13 => vJ (wrapI (i + 1)) vw13) ∧ ((!t28) = false → vJ i vw7))) ∧ (¬ (vj < (vs.len : Int)) → ((0 : Int) ≤ i ∧ i ≤ (vs.len : Int)) ∧ semS Tryz.prog (Builtin.clear_ #[60] 0 #[(Sl.v (Sl.cut vs i.toNat vs.len 3))]) vw1 fun v16 vw15 => ((0 : Int) ≤ i ∧ i ≤ (vs.cap : Int)) ∧ R (Sl.cut vs 0 i.toNat 3) vw15))))
set_option maxHeartbeats 8000000 in
theorem slices_DeleteFunc_apiVersionapiVersion.sound (vs : Sl) (del : Value) (w : World) (R : Sl → World → Prop) (h : slices_DeleteFunc_apiVersionapiVersion vs del w R) : callS Tryz.prog 67 [(Sl.v vs), del] w (fun v w' => ∃ (r0 : Sl), v = (Sl.v r0) ∧ R r0 w') := by
  unfold slices_DeleteFunc_apiVersionapiVersion at h
  refine calls_of_vc 42 rfl Tryz.func67 rfl (by kernel_rfl) (by simp) ?_
  refine Vc.seq ?_
  refine Vc.region ?_
  refine vcL_pure rfl rfl (Sl.v Sl.nil) (fun w => by kernel_rfl) ?_
  refine vcL_nil ?_
  refine Vc.seq ?_
  refine Vc.region ?_
  refine vcL_purs 2 [(9, del), (8, (Sl.v vs))] (by kernel_rfl) ?_
  refine vcL_eff rfl (opVC_call rfl (by kernel_rfl) (callS.mono h fun v vw h => ?_)) 
  obtain ⟨t10, rfl, h⟩ := h
  refine vcL_pure rfl rfl (Value.int .i64 t10) (fun w => by kernel_rfl) ?_
  refine vcL_nil ?_
  refine Vc.seq ?_
  refine Vc.seq ?_
  refine Vc.region ?_
  refine vcL_purs 2 [(12, (Value.bool (t10 == (-1)))), (11, (Value.int .i64 t10))] (by kernel_rfl) ?_
  refine vcL_nil ?_
  refine Vc.cond (t10 == (-1)) (by kernel_rfl) (fun hb => ?_) (fun hb => ?_)
  · have h := h.1 (eq_of_beq hb)
    refine Vc.seq ?_
    refine Vc.region ?_
    refine vcL_purs 2 [(4, (Sl.v vs)), (13, (Sl.v vs))] (by kernel_rfl) ?_
    refine vcL_nil ?_
    refine Vc.ret ?_
    refine outs_ret ?_
    refine done_mk (Sl.v vs) (res1 (resC_tmp (by kernel_rfl))) ?_
    exact ⟨vs, rfl, h⟩
  · have h := h.2 (ne_of_beq_false hb)
    refine Vc.skip ?_
    refine Vc.seq ?_
    refine Vc.seq ?_
    refine Vc.region ?_
    refine vcL_purs 3 [(6, (Value.int .i64 (wrapI (t10 + 1)))), (15, (Value.int .i64 (wrapI (t10 + 1)))), (14, (Value.int .i64 t10))] (by kernel_rfl) ?_
    refine vcL_nil ?_
    refine Vc.block ?_
    obtain ⟨vI, mu, h, hr⟩ := h
    refine Vc.loopJ (σ := Int × Int) [5, 6] [7, 16, 17, 18, 19, 20, 21, 22, 23, 24, 25, 26, 27, 28, 29, 30, 31, 32, 33, 34, 35] (fun s => [(5, (Value.int .i64 s.1)), (6, (Value.int .i64 s.2))]) (fun s w => vI s.1 s.2 w) (fun s w => mu s.1 s.2 w) (t10, (wrapI (t10 + 1))) h (fun _ => rfl) (by kernel_rfl) ?_
    rintro ⟨i, vj⟩ vw1 j h
    have h := hr i vj vw1 h
    refine Vc.seq ?_
    refine Vc.seq ?_
    refine Vc.region ?_
    refine vcL_purs 4 [(19, (Value.bool (decide (vj < (vs.len : Int))))), (18, (Value.int .i64 (vs.len : Int))), (17, (Sl.v vs)), (16, (Value.int .i64 vj))] (by kernel_rfl) ?_
    refine vcL_nil ?_
    refine Vc.cond (decide (vj < (vs.len : Int))) (by kernel_rfl) (fun hb => ?_) (fun hb => ?_)
    · have h := h.1 (of_decide_eq_true hb)
      refine Vc.skip ?_
      obtain ⟨vJ, hJ, h⟩ := join_elim h
      refine Vc.seqJ (σ := Int) [5] [7, 22, 23, 24, 25, 26, 27, 28, 29, 30, 31, 32, 33, 34, 35] (fun s => [(5, (Value.int .i64 s))]) (fun s w => vJ s w) (fun _ => rfl) ?_ ?_
      · refine Vc.block ?_
        refine Vc.seq ?_
        refine Vc.region ?_
        refine vcL_purs 2 [(23, (Value.int .i64 vj)), (22, (Sl.v vs))] (by kernel_rfl) ?_
        obtain ⟨ad, hi, h⟩ := h
        refine vcL_pure rfl rfl (Value.pointer (some (ad.add (vj.toNat * 3)))) (fun w => by exact exec_indexAt (s := vs) (el := 30) rfl (by kernel_rfl) (by kernel_rfl) (by kernel_rfl) (fun w => by kernel_rfl) (hi).1 (hi).2.1 (hi).2.2 w) ?_
        obtain ⟨t25_Major, t25_Minor, t25_Patch, hc, h⟩ := h
        refine vcL_val rfl rfl (Value.agg #[(Value.int .i64 t25_Major), (Value.int .i64 t25_Minor), (Value.int .i64 t25_Patch)]) (exec_load rfl (by kernel_rfl) (run_loadN (fun w => by kernel_rfl) (fun w => by kernel_rfl) ((hc)))) ?_
        refine vcL_eff rfl (opVC_new rfl (fun a => Value.pointer (some a)) (by kernel_rfl) (newS.mono h fun a vw4 hx h => ?_)) 
        refine vcL_eff rfl (opVC_store rfl rfl (a := a) (by kernel_rfl) (v := (Value.agg #[(Value.int .i64 t25_Major), (Value.int .i64 t25_Minor), (Value.int .i64 t25_Patch)])) (by kernel_rfl) [(Value.int .i64 t25_Major), (Value.int .i64 t25_Minor), (Value.int .i64 t25_Patch)] (by kernel_rfl) (fun w => by kernel_rfl) (by kernel_rfl) (stw.mono h fun vw5 h => ?_)) 
        refine vcL_nil ?_
        refine Vc.seq ?_
        refine Vc.region ?_
        refine vcL_pure rfl rfl del (fun w => by kernel_rfl) ?_
        obtain ⟨t27_Major, t27_Minor, t27_Patch, hc6, h⟩ := h
        refine vcL_val rfl rfl (Value.agg #[(Value.int .i64 t27_Major), (Value.int .i64 t27_Minor), (Value.int .i64 t27_Patch)]) (exec_load rfl (by kernel_rfl) (run_loadN (fun w => by kernel_rfl) (fun w => by kernel_rfl) ((hc6)))) ?_
        refine vcL_eff rfl (opVC_callV rfl rfl (fv := del) (by kernel_rfl) (args := [(Value.agg #[(Value.int .i64 t27_Major), (Value.int .i64 t27_Minor), (Value.int .i64 t27_Patch)])]) (by kernel_rfl) (callV.mono h fun v8 vw7 h => ?_)) 
        obtain ⟨t28, rfl, h⟩ := h
        refine vcL_pure rfl rfl (Value.bool (!t28)) (fun w => by kernel_rfl) ?_
        refine vcL_nil ?_
        refine Vc.cond (!t28) (by kernel_rfl) (fun hb => ?_) (fun hb => ?_)
        · have h := h.1 (hb)
          refine Vc.seq ?_
          refine Vc.region ?_
          refine vcL_purs 2 [(31, (Value.int .i64 i)), (30, (Sl.v vs))] (by kernel_rfl) ?_
          obtain ⟨t32_Major, t32_Minor, t32_Patch, hc10, h⟩ := h
          refine vcL_val rfl rfl (Value.agg #[(Value.int .i64 t32_Major), (Value.int .i64 t32_Minor), (Value.int .i64 t32_Patch)]) (exec_load rfl (by kernel_rfl) (run_loadN (fun w => by kernel_rfl) (fun w => by kernel_rfl) ((hc10)))) ?_
          obtain ⟨ad11, hi12, h⟩ := h
          refine vcL_pure rfl rfl (Value.pointer (some (ad11.add (i.toNat * 3)))) (fun w => by exact exec_indexAt (s := vs) (el := 30) rfl (by kernel_rfl) (by kernel_rfl) (by kernel_rfl) (fun w => by kernel_rfl) (hi12).1 (hi12).2.1 (hi12).2.2 w) ?_
          refine vcL_eff rfl (opVC_store rfl rfl (a := (ad11.add (i.toNat * 3))) (by kernel_rfl) (v := (Value.agg #[(Value.int .i64 t32_Major), (Value.int .i64 t32_Minor), (Value.int .i64 t32_Patch)])) (by kernel_rfl) [(Value.int .i64 t32_Major), (Value.int .i64 t32_Minor), (Value.int .i64 t32_Patch)] (by kernel_rfl) (fun w => by kernel_rfl) (by kernel_rfl) (stw.mono h fun vw13 h => ?_)) 
          refine vcL_nil ?_
          refine Vc.region ?_
          refine vcL_purs 3 [(5, (Value.int .i64 (wrapI (i + 1)))), (35, (Value.int .i64 (wrapI (i + 1)))), (34, (Value.int .i64 i))] (by kernel_rfl) ?_
          refine vcL_nil ?_
          exact ⟨(wrapI (i + 1)), 16, ⟨rfl, by kernel_rfl, by kernel_rfl, by kernel_rfl⟩, h⟩
        · have h := h.2 (hb)
          refine Vc.skip ?_
          exact ⟨i, 9, ⟨rfl, by kernel_rfl, by kernel_rfl, by kernel_rfl⟩, h⟩
      · intro i2 vw3 j h
        subst hJ
        refine Vc.region ?_
        refine vcL_purs 3 [(6, (Value.int .i64 (wrapI (vj + 1)))), (21, (Value.int .i64 (wrapI (vj + 1)))), (20, (Value.int .i64 vj))] (by kernel_rfl) ?_
        refine vcL_nil ?_
        exact ⟨(i2, (wrapI (vj + 1))), 46, ⟨rfl, by kernel_rfl, by kernel_rfl, by kernel_rfl⟩, h⟩
    · have h := h.2 (of_decide_eq_false hb)
      refine Vc.exit ?_
      refine outOf_hit ?_
      refine Vc.seq ?_
      refine Vc.region ?_
      refine vcL_purs 2 [(37, (Value.int .i64 i)), (36, (Sl.v vs))] (by kernel_rfl) ?_
      obtain ⟨hi14, h⟩ := h
      refine vcL_pure rfl rfl (Sl.v (Sl.cut vs i.toNat vs.len 3)) (fun w => by exact exec_slSlL (s := vs) (el := 30) (k1 := .i64) rfl (by kernel_rfl) (by kernel_rfl) (by kernel_rfl) (fun w => by kernel_rfl) (hi14) w) ?_
      refine vcL_eff rfl (opVC_sem0 rfl (c := Builtin.clear_ #[60] 0 #[(Sl.v (Sl.cut vs i.toNat vs.len 3))]) (by kernel_rfl) (semS.mono h fun v16 vw15 h => ?_)) 
      refine vcL_nil ?_
      refine Vc.seq ?_
      refine Vc.region ?_
      refine vcL_purs 2 [(40, (Value.int .i64 i)), (39, (Sl.v vs))] (by kernel_rfl) ?_
      obtain ⟨hi17, h⟩ := h
      refine vcL_pure rfl rfl (Sl.v (Sl.cut vs 0 i.toNat 3)) (fun w => by exact exec_slSlH (s := vs) (el := 30) (k2 := .i64) rfl (by kernel_rfl) (by kernel_rfl) (by kernel_rfl) (fun w => by kernel_rfl) (hi17) w) ?_
      refine vcL_pure rfl rfl (Sl.v (Sl.cut vs 0 i.toNat 3)) (fun w => by kernel_rfl) ?_
      refine vcL_nil ?_
      refine Vc.ret ?_
      refine outs_ret ?_
      refine done_mk (Sl.v (Sl.cut vs 0 i.toNat 3)) (res1 (resC_tmp (by kernel_rfl))) ?_
      exact ⟨(Sl.cut vs 0 i.toNat 3), rfl, h⟩
theorem slices_DeleteFunc_apiVersionapiVersion.go {vs : Sl} {del : Value} {w : World} {k : Value → World → Prop} (h : slices_DeleteFunc_apiVersionapiVersion vs del w fun r0 w' => k (Sl.v r0) w') : callS Tryz.prog 67 [(Sl.v vs), del] w k := (slices_DeleteFunc_apiVersionapiVersion.sound vs del w _ h).mono (by rintro _ _ ⟨r0, rfl, h⟩; exact h)

/-- (*halyard/catalog.Catalog).Candidates$1 -/
def catalog_Catalog_Candidates_1 (v_Major : Int) (v_Minor : Int) (v_Patch : Int) (c0 : Addr) (w : World) (R : Bool → World → Prop) : Prop :=
  newS w [(Value.int .i64 v_Major), (Value.int .i64 v_Minor), (Value.int .i64 v_Patch)] 30 fun a vw => ∃ (t4 : Sl), (ldc vw c0 [(Sl.v t4)]) ∧ ∃ (t5_Major : Int) (t5_Minor : Int) (t5_Patch : Int), (ldc vw a [(Value.int .i64 t5_Major), (Value.int .i64 t5_Minor), (Value.int .i64 t5_Patch)]) ∧ callS Tryz.prog 53 [(Sl.v t4), (Value.agg #[(Value.int .i64 t5_Major), (Value.int .i64 t5_Minor), (Value.int .i64 t5_Patch)])] vw fun v vw2 => ∃ (t6 : Bool), v = (Value.bool t6) ∧ R (!t6) vw2
set_option maxHeartbeats 8000000 in
theorem catalog_Catalog_Candidates_1.sound (v_Major : Int) (v_Minor : Int) (v_Patch : Int) (c0 : Addr) (w : World) (R : Bool → World → Prop) (h : catalog_Catalog_Candidates_1 v_Major v_Minor v_Patch c0 w R) : callS Tryz.prog 68 [(Value.agg #[(Value.int .i64 v_Major), (Value.int .i64 v_Minor), (Value.int .i64 v_Patch)]), (Value.pointer (some c0))] w (fun v w' => ∃ (r0 : Bool), v = (Value.bool r0) ∧ R r0 w') := by
  unfold catalog_Catalog_Candidates_1 at h
  refine calls_of_vc 8 rfl Tryz.func68 rfl (by kernel_rfl) (by simp) ?_
  refine Vc.seq ?_
  refine Vc.region ?_
  refine vcL_eff rfl (opVC_new rfl (fun a => Value.pointer (some a)) (by kernel_rfl) (newS.mono h fun a vw hx h => ?_)) 
  refine vcL_pure rfl rfl (Value.bool false) (fun w => by kernel_rfl) ?_
  refine vcL_nil ?_
  refine Vc.seq ?_
  refine Vc.region ?_
  obtain ⟨t4, hc, h⟩ := h
  refine vcL_val rfl rfl (Sl.v t4) (exec_load rfl (by kernel_rfl) (run_load1 (fun w => by kernel_rfl) ((hc)))) ?_
  obtain ⟨t5_Major, t5_Minor, t5_Patch, hc1, h⟩ := h
  refine vcL_val rfl rfl (Value.agg #[(Value.int .i64 t5_Major), (Value.int .i64 t5_Minor), (Value.int .i64 t5_Patch)]) (exec_load rfl (by kernel_rfl) (run_loadN (fun w => by kernel_rfl) (fun w => by kernel_rfl) ((hc1)))) ?_
  refine vcL_eff rfl (opVC_call rfl (by kernel_rfl) (callS.mono h fun v vw2 h => ?_)) 
  obtain ⟨t6, rfl, h⟩ := h
  refine vcL_purs 2 [(3, (Value.bool (!t6))), (7, (Value.bool (!t6)))] (by kernel_rfl) ?_
  refine vcL_nil ?_
  refine Vc.ret ?_
  refine outs_ret ?_
  refine done_mk (Value.bool (!t6)) (res1 (resC_tmp (by kernel_rfl))) ?_
  exact ⟨(!t6), rfl, h⟩
theorem catalog_Catalog_Candidates_1.go {v_Major : Int} {v_Minor : Int} {v_Patch : Int} {c0 : Addr} {w : World} {k : Value → World → Prop} (h : catalog_Catalog_Candidates_1 v_Major v_Minor v_Patch c0 w fun r0 w' => k (Value.bool r0) w') : callS Tryz.prog 68 [(Value.agg #[(Value.int .i64 v_Major), (Value.int .i64 v_Minor), (Value.int .i64 v_Patch)]), (Value.pointer (some c0))] w k := (catalog_Catalog_Candidates_1.sound v_Major v_Minor v_Patch c0 w _ h).mono (by rintro _ _ ⟨r0, rfl, h⟩; exact h)

/-- slices.SortStableFunc[[]halyard/api.Version,halyard/api.Version] -/
def slices_SortStableFunc_apiVersionapiVersion (x : Sl) (cmp : Value) (w : World) (R : World → Prop) : Prop :=
  callS Tryz.prog 111 [(Sl.v x), (Value.int .i64 (x.len : Int)), cmp] w fun v vw => v = (Value.tuple #[]) ∧ R vw
set_option maxHeartbeats 8000000 in
theorem slices_SortStableFunc_apiVersionapiVersion.sound (x : Sl) (cmp : Value) (w : World) (R : World → Prop) (h : slices_SortStableFunc_apiVersionapiVersion x cmp w R) : callS Tryz.prog 69 [(Sl.v x), cmp] w (fun v w' => v = (Value.tuple #[]) ∧ R w') := by
  unfold slices_SortStableFunc_apiVersionapiVersion at h
  refine calls_of_vc 9 rfl Tryz.func69 rfl (by kernel_rfl) (by simp) ?_
  refine Vc.region ?_
  refine vcL_purs 4 [(7, cmp), (6, (Value.int .i64 (x.len : Int))), (5, (Sl.v x)), (4, (Sl.v x))] (by kernel_rfl) ?_
  refine vcL_eff rfl (opVC_call rfl (by kernel_rfl) (callS.mono h fun v vw h => ?_)) 
  obtain ⟨rfl, h⟩ := h
  refine vcL_nil ?_
  refine done_mk (Value.tuple #[]) (res0 ) ?_
  exact ⟨rfl, h⟩
theorem slices_SortStableFunc_apiVersionapiVersion.go {x : Sl} {cmp : Value} {w : World} {k : Value → World → Prop} (h : slices_SortStableFunc_apiVersionapiVersion x cmp w fun  w' => k (Value.tuple #[]) w') : callS Tryz.prog 69 [(Sl.v x), cmp] w k := (slices_SortStableFunc_apiVersionapiVersion.sound x cmp w _ h).mono (by rintro _ _ ⟨rfl, h⟩; exact h)

/-- (*halyard/catalog.Catalog).Candidates$2 -/
def catalog_Catalog_Candidates_2 (a_Major : Int) (a_Minor : Int) (a_Patch : Int) (b_Major : Int) (b_Minor : Int) (b_Patch : Int) (c0 : Addr) (c1 : Addr) (w : World) (R : Int → World → Prop) : Prop :=
  newS w [(Value.int .i64 a_Major), (Value.int .i64 a_Minor), (Value.int .i64 a_Patch)] 30 fun a vw => newS vw [(Value.int .i64 b_Major), (Value.int .i64 b_Minor), (Value.int .i64 b_Patch)] 30 fun a1 vw2 => bnd vw2.drew fun (vw3 : World) => ∃ (t7 : Sl), (ldc vw3 c0 [(Sl.v t7)]) ∧ ∃ (t8 : ByteArray), (ldc vw3 c1 [(Value.string t8)]) ∧ ∃ (t9_Major : Int) (t9_Minor : Int) (t9_Patch : Int), (ldc vw3 a1 [(Value.int .i64 t9_Major), (Value.int .i64 t9_Minor), (Value.int .i64 t9_Patch)]) ∧ ∃ (t13 : Sl), (ldc vw3 c0 [(Sl.v t13)]) ∧ ∃ (t14 : ByteArray), (ldc vw3 c1 [(Value.string t14)]) ∧ ∃ (t15_Major : Int) (t15_Minor : Int) (t15_Patch : Int), (ldc vw3 a [(Value.int .i64 t15_Major), (Value.int .i64 t15_Minor), (Value.int .i64 t15_Patch)]) ∧ callX Tryz.prog 72 [(Sl.v t7), (Value.agg #[(Value.string t8), (Value.int .i64 t9_Major), (Value.int .i64 t9_Minor), (Value.int .i64 t9_Patch)])] vw3 fun v vw9 => ∃ (t11 : Bool), v = (Value.bool t11) ∧ callX Tryz.prog 71 [(Value.bool t11)] vw9 fun v11 vw10 => ∃ (t12 : Int), v11 = (Value.int .i64 t12) ∧ callS Tryz.prog 72 [(Sl.v t13), (Value.agg #[(Value.string t14), (Value.int .i64 t15_Major), (Value.int .i64 t15_Minor), (Value.int .i64 t15_Patch)])] vw10 fun v14 vw13 => ∃ (t17 : Bool), v14 = (Value.bool t17) ∧ callS Tryz.prog 71 [(Value.bool t17)] vw13 fun v17 vw16 => ∃ (t18 : Int), v17 = (Value.int .i64 t18) ∧ R (wrapI (t12 - t18)) vw16
set_option maxHeartbeats 8000000 in
theorem catalog_Catalog_Candidates_2.sound (a_Major : Int) (a_Minor : Int) (a_Patch : Int) (b_Major : Int) (b_Minor : Int) (b_Patch : Int) (c0 : Addr) (c1 : Addr) (w : World) (R : Int → World → Prop) (h : catalog_Catalog_Candidates_2 a_Major a_Minor a_Patch b_Major b_Minor b_Patch c0 c1 w R) : callS Tryz.prog 70 [(Value.agg #[(Value.int .i64 a_Major), (Value.int .i64 a_Minor), (Value.int .i64 a_Patch)]), (Value.agg #[(Value.int .i64 b_Major), (Value.int .i64 b_Minor), (Value.int .i64 b_Patch)]), (Value.pointer (some c0)), (Value.pointer (some c1))] w (fun v w' => ∃ (r0 : Int), v = (Value.int .i64 r0) ∧ R r0 w') := by
  unfold catalog_Catalog_Candidates_2 at h
  refine calls_of_vc 20 rfl Tryz.func70 rfl (by kernel_rfl) (by simp) ?_
  refine Vc.seq ?_
  refine Vc.region ?_
  refine vcL_eff rfl (opVC_new rfl (fun a => Value.pointer (some a)) (by kernel_rfl) (newS.mono h fun a vw hx h => ?_)) 
  refine vcL_eff rfl (opVC_new rfl (fun a => Value.pointer (some a)) (by kernel_rfl) (newS.mono h fun a1 vw2 hx h => ?_)) 
  refine vcL_pure rfl rfl (Value.int .i64 0) (fun w => by kernel_rfl) ?_
  refine vcL_nil ?_
  refine Vc.seq ?_
  obtain ⟨vw3, hvw3⟩ : ∃ y, y = vw2.drew := ⟨_, rfl⟩
  have h := h vw3 hvw3
  refine Vc.draw (by kernel_rfl) (fun i => !(memN [10, 11] i)) (.val 0 (.val 1 (.val 2 (.pur 3 (.val 6 (.val 7 (.val 8 (.pur 9 (.eff 4 (.eff 5 (.eff 10 (.eff 11 (.pur 12 (.pur 13 .fin)) .stop) .stop) .stop) .stop))))))))) (by kernel_rfl) ?_
  rw [← hvw3]
  clear hvw3
  obtain ⟨t7, hc, h⟩ := h
  refine vcS_val rfl rfl rfl (Sl.v t7) (fun w' hx => exec_load rfl (by kernel_rfl) (run_load1 (fun w => by kernel_rfl) ((hc).ext hx))) ?_
  obtain ⟨t8, hc4, h⟩ := h
  refine vcS_val rfl rfl rfl (Value.string t8) (fun w' hx => exec_load rfl (by kernel_rfl) (run_load1 (fun w => by kernel_rfl) ((hc4).ext hx))) ?_
  obtain ⟨t9_Major, t9_Minor, t9_Patch, hc5, h⟩ := h
  refine vcS_val rfl rfl rfl (Value.agg #[(Value.int .i64 t9_Major), (Value.int .i64 t9_Minor), (Value.int .i64 t9_Patch)]) (fun w' hx => exec_load rfl (by kernel_rfl) (run_loadN (fun w => by kernel_rfl) (fun w => by kernel_rfl) ((hc5).ext hx))) ?_
  refine vcS_pure rfl rfl rfl (Value.agg #[(Value.string t8), (Value.int .i64 t9_Major), (Value.int .i64 t9_Minor), (Value.int .i64 t9_Patch)]) (fun w => by kernel_rfl) ?_
  obtain ⟨t13, hc6, h⟩ := h
  refine vcS_val rfl rfl rfl (Sl.v t13) (fun w' hx => exec_load rfl (by kernel_rfl) (run_load1 (fun w => by kernel_rfl) ((hc6).ext hx))) ?_
  obtain ⟨t14, hc7, h⟩ := h
  refine vcS_val rfl rfl rfl (Value.string t14) (fun w' hx => exec_load rfl (by kernel_rfl) (run_load1 (fun w => by kernel_rfl) ((hc7).ext hx))) ?_
  obtain ⟨t15_Major, t15_Minor, t15_Patch, hc8, h⟩ := h
  refine vcS_val rfl rfl rfl (Value.agg #[(Value.int .i64 t15_Major), (Value.int .i64 t15_Minor), (Value.int .i64 t15_Patch)]) (fun w' hx => exec_load rfl (by kernel_rfl) (run_loadN (fun w => by kernel_rfl) (fun w => by kernel_rfl) ((hc8).ext hx))) ?_
  refine vcS_pure rfl rfl rfl (Value.agg #[(Value.string t14), (Value.int .i64 t15_Major), (Value.int .i64 t15_Minor), (Value.int .i64 t15_Patch)]) (fun w => by kernel_rfl) ?_
  refine vcS_eff rfl rfl (opVC_call rfl (by kernel_rfl) (callS.mono h fun v vw9 h => ?_)) vcS_stop
  obtain ⟨hx, h⟩ := h
  obtain ⟨t11, rfl, h⟩ := h
  refine ⟨fun _ => hx, ?_⟩
  refine vcS_eff rfl rfl (opVC_call rfl (by kernel_rfl) (callS.mono h fun v11 vw10 h => ?_)) vcS_stop
  obtain ⟨hx12, h⟩ := h
  obtain ⟨t12, rfl, h⟩ := h
  refine ⟨fun _ => hx12, ?_⟩
  refine vcS_eff rfl rfl (opVC_call rfl (by kernel_rfl) (callS.mono h fun v14 vw13 h => ?_)) vcS_stop
  obtain ⟨t17, rfl, h⟩ := h
  refine ⟨fun hb => absurd hb (by decide), ?_⟩
  refine vcS_eff rfl rfl (opVC_call rfl (by kernel_rfl) (callS.mono h fun v17 vw16 h => ?_)) vcS_stop
  obtain ⟨t18, rfl, h⟩ := h
  refine ⟨fun hb => absurd hb (by decide), ?_⟩
  refine vcS_pure rfl rfl rfl (Value.int .i64 (wrapI (t12 - t18))) (fun w => by kernel_rfl) ?_
  refine vcS_pure rfl rfl rfl (Value.int .i64 (wrapI (t12 - t18))) (fun w => by kernel_rfl) ?_
  refine vcS_fin ?_
  refine Vc.ret ?_
  refine outs_ret ?_
  refine done_mk (Value.int .i64 (wrapI (t12 - t18))) (res1 (resC_tmp (by kernel_rfl))) ?_
  exact ⟨(wrapI (t12 - t18)), rfl, h⟩
theorem catalog_Catalog_Candidates_2.go {a_Major : Int} {a_Minor : Int} {a_Patch : Int} {b_Major : Int} {b_Minor : Int} {b_Patch : Int} {c0 : Addr} {c1 : Addr} {w : World} {k : Value → World → Prop} (h : catalog_Catalog_Candidates_2 a_Major a_Minor a_Patch b_Major b_Minor b_Patch c0 c1 w fun r0 w' => k (Value.int .i64 r0) w') : callS Tryz.prog 70 [(Value.agg #[(Value.int .i64 a_Major), (Value.int .i64 a_Minor), (Value.int .i64 a_Patch)]), (Value.agg #[(Value.int .i64 b_Major), (Value.int .i64 b_Minor), (Value.int .i64 b_Patch)]), (Value.pointer (some c0)), (Value.pointer (some c1))] w k := (catalog_Catalog_Candidates_2.sound a_Major a_Minor a_Patch b_Major b_Minor b_Patch c0 c1 w _ h).mono (by rintro _ _ ⟨r0, rfl, h⟩; exact h)

/-- halyard/catalog.order -/
def catalog_order (is : Bool) (w : World) (R : Int → World → Prop) : Prop :=
  ((is = true → R 1 w) ∧ (is = false → R 0 w))
set_option maxHeartbeats 8000000 in
theorem catalog_order.sound (is : Bool) (w : World) (R : Int → World → Prop) (h : catalog_order is w R) : callS Tryz.prog 71 [(Value.bool is)] w (fun v w' => ∃ (r0 : Int), v = (Value.int .i64 r0) ∧ R r0 w') := by
  unfold catalog_order at h
  refine calls_of_vc 4 rfl Tryz.func71 rfl (by kernel_rfl) (by simp) ?_
  refine Vc.seq ?_
  refine Vc.region ?_
  refine vcL_pure rfl rfl (Value.int .i64 0) (fun w => by kernel_rfl) ?_
  refine vcL_nil ?_
  refine Vc.seq ?_
  refine Vc.seq ?_
  refine Vc.region ?_
  refine vcL_pure rfl rfl (Value.bool is) (fun w => by kernel_rfl) ?_
  refine vcL_nil ?_
  refine Vc.cond is (by kernel_rfl) (fun hb => ?_) (fun hb => ?_)
  · have h := h.1 (hb)
    refine Vc.seq ?_
    refine Vc.region ?_
    refine vcL_pure rfl rfl (Value.int .i64 1) (fun w => by kernel_rfl) ?_
    refine vcL_nil ?_
    refine Vc.ret ?_
    refine outs_ret ?_
    refine done_mk (Value.int .i64 1) (res1 (resC_tmp (by kernel_rfl))) ?_
    exact ⟨1, rfl, h⟩
  · have h := h.2 (hb)
    refine Vc.skip ?_
    refine Vc.seq ?_
    refine Vc.region ?_
    refine vcL_pure rfl rfl (Value.int .i64 0) (fun w => by kernel_rfl) ?_
    refine vcL_nil ?_
    refine Vc.ret ?_
    refine outs_ret ?_
    refine done_mk (Value.int .i64 0) (res1 (resC_tmp (by kernel_rfl))) ?_
    exact ⟨0, rfl, h⟩
theorem catalog_order.go {is : Bool} {w : World} {k : Value → World → Prop} (h : catalog_order is w fun r0 w' => k (Value.int .i64 r0) w') : callS Tryz.prog 71 [(Value.bool is)] w k := (catalog_order.sound is w _ h).mono (by rintro _ _ ⟨r0, rfl, h⟩; exact h)

/-- slices.Contains[[]halyard/api.Pin,halyard/api.Pin] -/
def slices_Contains_apiPinapiPin (vs : Sl) (v_Name : ByteArray) (v_Version_Major : Int) (v_Version_Minor : Int) (v_Version_Patch : Int) (w : World) (R : Bool → World → Prop) : Prop :=
  newS w [(Value.string v_Name), (Value.int .i64 v_Version_Major), (Value.int .i64 v_Version_Minor), (Value.int .i64 v_Version_Patch)] 32 fun a vw => ∃ (t6_Name : ByteArray) (t6_Version_Major : Int) (t6_Version_Minor : Int) (t6_Version_Patch : Int), (ldc vw a [(Value.string t6_Name), (Value.int .i64 t6_Version_Major), (Value.int .i64 t6_Version_Minor), (Value.int .i64 t6_Version_Patch)]) ∧ callS Tryz.prog 112 [(Sl.v vs), (Value.agg #[(Value.string t6_Name), (Value.int .i64 t6_Version_Major), (Value.int .i64 t6_Version_Minor), (Value.int .i64 t6_Version_Patch)])] vw fun v vw1 => ∃ (t7 : Int), v = (Value.int .i64 t7) ∧ R (decide (0 ≤ t7)) vw1
set_option maxHeartbeats 8000000 in
theorem slices_Contains_apiPinapiPin.sound (vs : Sl) (v_Name : ByteArray) (v_Version_Major : Int) (v_Version_Minor : Int) (v_Version_Patch : Int) (w : World) (R : Bool → World → Prop) (h : slices_Contains_apiPinapiPin vs v_Name v_Version_Major v_Version_Minor v_Version_Patch w R) : callS Tryz.prog 72 [(Sl.v vs), (Value.agg #[(Value.string v_Name), (Value.int .i64 v_Version_Major), (Value.int .i64 v_Version_Minor), (Value.int .i64 v_Version_Patch)])] w (fun v w' => ∃ (r0 : Bool), v = (Value.bool r0) ∧ R r0 w') := by
  unfold slices_Contains_apiPinapiPin at h
  refine calls_of_vc 9 rfl Tryz.func72 rfl (by kernel_rfl) (by simp) ?_
  refine Vc.seq ?_
  refine Vc.region ?_
  refine vcL_eff rfl (opVC_new rfl (fun a => Value.pointer (some a)) (by kernel_rfl) (newS.mono h fun a vw hx h => ?_)) 
  refine vcL_pure rfl rfl (Value.bool false) (fun w => by kernel_rfl) ?_
  refine vcL_nil ?_
  refine Vc.seq ?_
  refine Vc.region ?_
  refine vcL_pure rfl rfl (Sl.v vs) (fun w => by kernel_rfl) ?_
  obtain ⟨t6_Name, t6_Version_Major, t6_Version_Minor, t6_Version_Patch, hc, h⟩ := h
  refine vcL_val rfl rfl (Value.agg #[(Value.string t6_Name), (Value.int .i64 t6_Version_Major), (Value.int .i64 t6_Version_Minor), (Value.int .i64 t6_Version_Patch)]) (exec_load rfl (by kernel_rfl) (run_loadN (fun w => by kernel_rfl) (fun w => by kernel_rfl) ((hc)))) ?_
  refine vcL_eff rfl (opVC_call rfl (by kernel_rfl) (callS.mono h fun v vw1 h => ?_)) 
  obtain ⟨t7, rfl, h⟩ := h
  refine vcL_purs 2 [(4, (Value.bool (decide (0 ≤ t7)))), (8, (Value.bool (decide (0 ≤ t7))))] (by kernel_rfl) ?_
  refine vcL_nil ?_
  refine Vc.ret ?_
  refine outs_ret ?_
  refine done_mk (Value.bool (decide (0 ≤ t7))) (res1 (resC_tmp (by kernel_rfl))) ?_
  exact ⟨(decide (0 ≤ t7)), rfl, h⟩
theorem slices_Contains_apiPinapiPin.go {vs : Sl} {v_Name : ByteArray} {v_Version_Major : Int} {v_Version_Minor : Int} {v_Version_Patch : Int} {w : World} {k : Value → World → Prop} (h : slices_Contains_apiPinapiPin vs v_Name v_Version_Major v_Version_Minor v_Version_Patch w fun r0 w' => k (Value.bool r0) w') : callS Tryz.prog 72 [(Sl.v vs), (Value.agg #[(Value.string v_Name), (Value.int .i64 v_Version_Major), (Value.int .i64 v_Version_Minor), (Value.int .i64 v_Version_Patch)])] w k := (slices_Contains_apiPinapiPin.sound vs v_Name v_Version_Major v_Version_Minor v_Version_Patch w _ h).mono (by rintro _ _ ⟨r0, rfl, h⟩; exact h)

/-- (*halyard/catalog.Catalog).All$1 -/
def catalog_Catalog_All_1 (a_Name : ByteArray) (a_Version_Major : Int) (a_Version_Minor : Int) (a_Version_Patch : Int) (a_Deps : Sl) (a_Peers : Sl) (a_Optional : Sl) (b_Name : ByteArray) (b_Version_Major : Int) (b_Version_Minor : Int) (b_Version_Patch : Int) (b_Deps : Sl) (b_Peers : Sl) (b_Optional : Sl) (w : World) (R : Int → World → Prop) : Prop :=
  newS w [(Value.string a_Name), (Value.int .i64 a_Version_Major), (Value.int .i64 a_Version_Minor), (Value.int .i64 a_Version_Patch), (Sl.v a_Deps), (Sl.v a_Peers), (Sl.v a_Optional)] 48 fun a vw => newS vw [(Value.string b_Name), (Value.int .i64 b_Version_Major), (Value.int .i64 b_Version_Minor), (Value.int .i64 b_Version_Patch), (Sl.v b_Deps), (Sl.v b_Peers), (Sl.v b_Optional)] 48 fun a1 vw2 => bnd vw2.drew fun (vw3 : World) => ∃ (t6 : ByteArray), (ldc vw3 a [(Value.string t6)]) ∧ ∃ (t8 : ByteArray), (ldc vw3 a1 [(Value.string t8)]) ∧ ∃ (t11_Major : Int) (t11_Minor : Int) (t11_Patch : Int), (ldc vw3 (a.add 1) [(Value.int .i64 t11_Major), (Value.int .i64 t11_Minor), (Value.int .i64 t11_Patch)]) ∧ ∃ (t13_Major : Int) (t13_Minor : Int) (t13_Patch : Int), (ldc vw3 (a1.add 1) [(Value.int .i64 t13_Major), (Value.int .i64 t13_Minor), (Value.int .i64 t13_Patch)]) ∧ callX Tryz.prog 77 [(Value.string t6), (Value.string t8)] vw3 fun v vw7 => ∃ (t9 : Int), v = (Value.int .i64 t9) ∧ callS Tryz.prog 65 [(Value.agg #[(Value.int .i64 t11_Major), (Value.int .i64 t11_Minor), (Value.int .i64 t11_Patch)]), (Value.agg #[(Value.int .i64 t13_Major), (Value.int .i64 t13_Minor), (Value.int .i64 t13_Patch)])] vw7 fun v9 vw8 => ∃ (t14 : Int), v9 = (Value.int .i64 t14) ∧ newS vw8 [(Value.int .i64 t9), (Value.int .i64 t14)] 3 fun a11 vw12 => callS Tryz.prog 76 [(Sl.v (Sl.mk (some a11) 2 2))] vw12 fun v14 vw13 => ∃ (t16 : Int), v14 = (Value.int .i64 t16) ∧ R t16 vw13
set_option maxHeartbeats 8000000 in
theorem catalog_Catalog_All_1.sound (a_Name : ByteArray) (a_Version_Major : Int) (a_Version_Minor : Int) (a_Version_Patch : Int) (a_Deps : Sl) (a_Peers : Sl) (a_Optional : Sl) (b_Name : ByteArray) (b_Version_Major : Int) (b_Version_Minor : Int) (b_Version_Patch : Int) (b_Deps : Sl) (b_Peers : Sl) (b_Optional : Sl) (w : World) (R : Int → World → Prop) (h : catalog_Catalog_All_1 a_Name a_Version_Major a_Version_Minor a_Version_Patch a_Deps a_Peers a_Optional b_Name b_Version_Major b_Version_Minor b_Version_Patch b_Deps b_Peers b_Optional w R) : callS Tryz.prog 75 [(Value.agg #[(Value.string a_Name), (Value.int .i64 a_Version_Major), (Value.int .i64 a_Version_Minor), (Value.int .i64 a_Version_Patch), (Sl.v a_Deps), (Sl.v a_Peers), (Sl.v a_Optional)]), (Value.agg #[(Value.string b_Name), (Value.int .i64 b_Version_Major), (Value.int .i64 b_Version_Minor), (Value.int .i64 b_Version_Patch), (Sl.v b_Deps), (Sl.v b_Peers), (Sl.v b_Optional)])] w (fun v w' => ∃ (r0 : Int), v = (Value.int .i64 r0) ∧ R r0 w') := by
  unfold catalog_Catalog_All_1 at h
  refine calls_of_vc 17 rfl Tryz.func75 rfl (by kernel_rfl) (by simp) ?_
  refine Vc.seq ?_
  refine Vc.region ?_
  refine vcL_eff rfl (opVC_new rfl (fun a => Value.pointer (some a)) (by kernel_rfl) (newS.mono h fun a vw hx h => ?_)) 
  refine vcL_eff rfl (opVC_new rfl (fun a => Value.pointer (some a)) (by kernel_rfl) (newS.mono h fun a1 vw2 hx h => ?_)) 
  refine vcL_pure rfl rfl (Value.int .i64 0) (fun w => by kernel_rfl) ?_
  refine vcL_nil ?_
  refine Vc.seq ?_
  obtain ⟨vw3, hvw3⟩ : ∃ y, y = vw2.drew := ⟨_, rfl⟩
  have h := h vw3 hvw3
  refine Vc.draw (by kernel_rfl) (fun i => !(memN [9, 10, 11] i)) (.pur 0 (.val 1 (.pur 2 (.val 3 (.pur 5 (.val 6 (.pur 7 (.val 8 (.eff 4 (.eff 9 (.eff 10 (.eff 11 (.pur 12 .fin) .stop) .stop) .stop) .stop))))))))) (by kernel_rfl) ?_
  rw [← hvw3]
  clear hvw3
  refine vcS_pure rfl rfl rfl (Value.pointer (some a)) (fun w => by kernel_rfl) ?_
  obtain ⟨t6, hc, h⟩ := h
  refine vcS_val rfl rfl rfl (Value.string t6) (fun w' hx => exec_load rfl (by kernel_rfl) (run_load1 (fun w => by kernel_rfl) ((hc).ext hx))) ?_
  refine vcS_pure rfl rfl rfl (Value.pointer (some a1)) (fun w => by kernel_rfl) ?_
  obtain ⟨t8, hc4, h⟩ := h
  refine vcS_val rfl rfl rfl (Value.string t8) (fun w' hx => exec_load rfl (by kernel_rfl) (run_load1 (fun w => by kernel_rfl) ((hc4).ext hx))) ?_
  refine vcS_pure rfl rfl rfl (Value.pointer (some (a.add 1))) (fun w => by kernel_rfl) ?_
  obtain ⟨t11_Major, t11_Minor, t11_Patch, hc5, h⟩ := h
  refine vcS_val rfl rfl rfl (Value.agg #[(Value.int .i64 t11_Major), (Value.int .i64 t11_Minor), (Value.int .i64 t11_Patch)]) (fun w' hx => exec_load rfl (by kernel_rfl) (run_loadN (fun w => by kernel_rfl) (fun w => by kernel_rfl) ((hc5).ext hx))) ?_
  refine vcS_pure rfl rfl rfl (Value.pointer (some (a1.add 1))) (fun w => by kernel_rfl) ?_
  obtain ⟨t13_Major, t13_Minor, t13_Patch, hc6, h⟩ := h
  refine vcS_val rfl rfl rfl (Value.agg #[(Value.int .i64 t13_Major), (Value.int .i64 t13_Minor), (Value.int .i64 t13_Patch)]) (fun w' hx => exec_load rfl (by kernel_rfl) (run_loadN (fun w => by kernel_rfl) (fun w => by kernel_rfl) ((hc6).ext hx))) ?_
  refine vcS_eff rfl rfl (opVC_call rfl (by kernel_rfl) (callS.mono h fun v vw7 h => ?_)) vcS_stop
  obtain ⟨hx, h⟩ := h
  obtain ⟨t9, rfl, h⟩ := h
  refine ⟨fun _ => hx, ?_⟩
  refine vcS_eff rfl rfl (opVC_call rfl (by kernel_rfl) (callS.mono h fun v9 vw8 h => ?_)) vcS_stop
  obtain ⟨t14, rfl, h⟩ := h
  refine ⟨fun hb => absurd hb (by decide), ?_⟩
  refine vcS_eff rfl rfl (opVC_new rfl (fun a => Value.slice (some a) 2 2) (by kernel_rfl) (newS.mono h fun a11 vw12 hx h => ?_)) vcS_stop
  refine ⟨fun hb => absurd hb (by decide), ?_⟩
  refine vcS_eff rfl rfl (opVC_call rfl (by kernel_rfl) (callS.mono h fun v14 vw13 h => ?_)) vcS_stop
  obtain ⟨t16, rfl, h⟩ := h
  refine ⟨fun hb => absurd hb (by decide), ?_⟩
  refine vcS_pure rfl rfl rfl (Value.int .i64 t16) (fun w => by kernel_rfl) ?_
  refine vcS_fin ?_
  refine Vc.ret ?_
  refine outs_ret ?_
  refine done_mk (Value.int .i64 t16) (res1 (resC_tmp (by kernel_rfl))) ?_
  exact ⟨t16, rfl, h⟩
theorem catalog_Catalog_All_1.go {a_Name : ByteArray} {a_Version_Major : Int} {a_Version_Minor : Int} {a_Version_Patch : Int} {a_Deps : Sl} {a_Peers : Sl} {a_Optional : Sl} {b_Name : ByteArray} {b_Version_Major : Int} {b_Version_Minor : Int} {b_Version_Patch : Int} {b_Deps : Sl} {b_Peers : Sl} {b_Optional : Sl} {w : World} {k : Value → World → Prop} (h : catalog_Catalog_All_1 a_Name a_Version_Major a_Version_Minor a_Version_Patch a_Deps a_Peers a_Optional b_Name b_Version_Major b_Version_Minor b_Version_Patch b_Deps b_Peers b_Optional w fun r0 w' => k (Value.int .i64 r0) w') : callS Tryz.prog 75 [(Value.agg #[(Value.string a_Name), (Value.int .i64 a_Version_Major), (Value.int .i64 a_Version_Minor), (Value.int .i64 a_Version_Patch), (Sl.v a_Deps), (Sl.v a_Peers), (Sl.v a_Optional)]), (Value.agg #[(Value.string b_Name), (Value.int .i64 b_Version_Major), (Value.int .i64 b_Version_Minor), (Value.int .i64 b_Version_Patch), (Sl.v b_Deps), (Sl.v b_Peers), (Sl.v b_Optional)])] w k := (catalog_Catalog_All_1.sound a_Name a_Version_Major a_Version_Minor a_Version_Patch a_Deps a_Peers a_Optional b_Name b_Version_Major b_Version_Minor b_Version_Patch b_Deps b_Peers b_Optional w _ h).mono (by rintro _ _ ⟨r0, rfl, h⟩; exact h)

/-- cmp.Or[int] -/
def cmp_Or_int (vals : Sl) (w : World) (R : Int → World → Prop) : Prop :=
  loop1 0 w fun t8 vw nxt => ((t8 < (vals.len : Int) → ∃ (ad : Addr), (vals.a = some ad ∧ (0 : Int) ≤ t8 ∧ t8 < (vals.len : Int)) ∧ ∃ (t11 : Int), (ldc vw (ad.add (t8.toNat * 1)) [(Value.int .i64 t11)]) ∧ ((¬ t11 = 0 → R t11 vw) ∧ (¬ (¬ t11 = 0) → nxt (wrapI (t8 + 1)) vw))) ∧ (¬ (t8 < (vals.len : Int)) → R 0 vw))
set_option maxHeartbeats 8000000 in
theorem cmp_Or_int.sound (vals : Sl) (w : World) (R : Int → World → Prop) (h : cmp_Or_int vals w R) : callS Tryz.prog 76 [(Sl.v vals)] w (fun v w' => ∃ (r0 : Int), v = (Value.int .i64 r0) ∧ R r0 w') := by
  unfold cmp_Or_int at h
  refine calls_of_vc 18 rfl Tryz.func76 rfl (by kernel_rfl) (by simp) ?_
  refine Vc.seq ?_
  refine Vc.region ?_
  refine vcL_pure rfl rfl (Value.int .i64 0) (fun w => by kernel_rfl) ?_
  refine vcL_nil ?_
  refine Vc.seq ?_
  refine Vc.region ?_
  refine vcL_pure rfl rfl (Value.int .i64 0) (fun w => by kernel_rfl) ?_
  refine vcL_nil ?_
  refine Vc.seq ?_
  refine Vc.seq ?_
  refine Vc.region ?_
  refine vcL_purs 3 [(8, (Value.int .i64 0)), (7, (Value.int .i64 (vals.len : Int))), (6, (Sl.v vals))] (by kernel_rfl) ?_
  refine vcL_nil ?_
  refine Vc.block ?_
  obtain ⟨vI, mu, h, hr⟩ := h
  refine Vc.loopJ (σ := Int) [8] [2, 5, 9, 10, 11, 12, 13, 14, 15, 16] (fun s => [(8, (Value.int .i64 s))]) (fun s w => vI s w) (fun s w => mu s w) 0 h (fun _ => rfl) (by kernel_rfl) ?_
  intro t8 vw j h
  have h := hr t8 vw h
  refine Vc.seq ?_
  refine Vc.region ?_
  refine vcL_pure rfl rfl (Value.bool (decide (t8 < (vals.len : Int)))) (fun w => by kernel_rfl) ?_
  refine vcL_nil ?_
  refine Vc.seq ?_
  refine Vc.cond (decide (t8 < (vals.len : Int))) (by kernel_rfl) (fun hb => ?_) (fun hb => ?_)
  · have h := h.1 (of_decide_eq_true hb)
    refine Vc.skip ?_
    refine Vc.seq ?_
    refine Vc.block ?_
    refine Vc.seq ?_
    refine Vc.region ?_
    obtain ⟨ad, hi, h⟩ := h
    refine vcL_pure rfl rfl (Value.pointer (some (ad.add (t8.toNat * 1)))) (fun w => by exact exec_indexAt (s := vals) (el := 3) rfl (by kernel_rfl) (by kernel_rfl) (by kernel_rfl) (fun w => by kernel_rfl) (hi).1 (hi).2.1 (hi).2.2 w) ?_
    obtain ⟨t11, hc, h⟩ := h
    refine vcL_val rfl rfl (Value.int .i64 t11) (exec_load rfl (by kernel_rfl) (run_load1 (fun w => by kernel_rfl) ((hc)))) ?_
    refine vcL_pure rfl rfl (Value.int .i64 t11) (fun w => by kernel_rfl) ?_
    refine vcL_nil ?_
    refine Vc.seq ?_
    refine Vc.region ?_
    refine vcL_purs 3 [(14, (Value.bool (!(t11 == 0)))), (13, (Value.int .i64 0)), (12, (Value.int .i64 t11))] (by kernel_rfl) ?_
    refine vcL_nil ?_
    refine Vc.cond (!(t11 == 0)) (by kernel_rfl) (fun hb => ?_) (fun hb => ?_)
    · have h := h.1 (ne_of_nbeq hb)
      refine Vc.seq ?_
      refine Vc.region ?_
      refine vcL_purs 2 [(2, (Value.int .i64 t11)), (15, (Value.int .i64 t11))] (by kernel_rfl) ?_
      refine vcL_nil ?_
      refine Vc.ret ?_
      refine outOf_ret ?_
      refine outOf_ret ?_
      refine outs_ret ?_
      refine done_mk (Value.int .i64 t11) (res1 (resC_tmp (by kernel_rfl))) ?_
      exact ⟨t11, rfl, h⟩
    · have h := h.2 (nne_of_nbeq hb)
      refine Vc.skip ?_
      refine Vc.region ?_
      refine vcL_purs 2 [(8, (Value.int .i64 (wrapI (t8 + 1)))), (16, (Value.int .i64 (wrapI (t8 + 1))))] (by kernel_rfl) ?_
      refine vcL_nil ?_
      exact ⟨(wrapI (t8 + 1)), 20, ⟨rfl, by kernel_rfl, by kernel_rfl, by kernel_rfl⟩, h⟩
  · have h := h.2 (of_decide_eq_false hb)
    refine Vc.exit ?_
    refine outOf_hit ?_
    refine Vc.seq ?_
    refine Vc.region ?_
    refine vcL_purs 2 [(2, (Value.int .i64 0)), (17, (Value.int .i64 0))] (by kernel_rfl) ?_
    refine vcL_nil ?_
    refine Vc.ret ?_
    refine outs_ret ?_
    refine done_mk (Value.int .i64 0) (res1 (resC_tmp (by kernel_rfl))) ?_
    exact ⟨0, rfl, h⟩
theorem cmp_Or_int.go {vals : Sl} {w : World} {k : Value → World → Prop} (h : cmp_Or_int vals w fun r0 w' => k (Value.int .i64 r0) w') : callS Tryz.prog 76 [(Sl.v vals)] w k := (cmp_Or_int.sound vals w _ h).mono (by rintro _ _ ⟨r0, rfl, h⟩; exact h)

/-- cmp.Compare[string] -/
def cmp_Compare_string (x : ByteArray) (y : ByteArray) (w : World) (R : Int → World → Prop) : Prop :=
  callS Tryz.prog 114 [(Value.string x)] w fun v vw => ∃ (t8 : Bool), v = (Value.bool t8) ∧ callS Tryz.prog 114 [(Value.string y)] vw fun v2 vw1 => ∃ (t10 : Bool), v2 = (Value.bool t10) ∧ ((t8 = true → ((t10 = true → R 0 vw1) ∧ (t10 = false → R (-1) vw1))) ∧ (t8 = false → ((t10 = true → R 1 vw1) ∧ (t10 = false → (((bLt x y) = true → R (-1) vw1) ∧ ((bLt x y) = false → (((!(bLt x y || bEq x y)) = true → R 1 vw1) ∧ ((!(bLt x y || bEq x y)) = false → R 0 vw1))))))))
set_option maxHeartbeats 8000000 in
theorem cmp_Compare_string.sound (x : ByteArray) (y : ByteArray) (w : World) (R : Int → World → Prop) (h : cmp_Compare_string x y w R) : callS Tryz.prog 77 [(Value.string x), (Value.string y)] w (fun v w' => ∃ (r0 : Int), v = (Value.int .i64 r0) ∧ R r0 w') := by
  unfold cmp_Compare_string at h
  refine calls_of_vc 20 rfl Tryz.func77 rfl (by kernel_rfl) (by simp) ?_
  refine Vc.seq ?_
  refine Vc.region ?_
  refine vcL_pure rfl rfl (Value.int .i64 0) (fun w => by kernel_rfl) ?_
  refine vcL_nil ?_
  refine Vc.seq ?_
  refine Vc.region ?_
  refine vcL_pure rfl rfl (Value.string x) (fun w => by kernel_rfl) ?_
  refine vcL_eff rfl (opVC_call rfl (by kernel_rfl) (callS.mono h fun v vw h => ?_)) 
  obtain ⟨t8, rfl, h⟩ := h
  refine vcL_pure rfl rfl (Value.bool t8) (fun w => by kernel_rfl) ?_
  refine vcL_nil ?_
  refine Vc.seq ?_
  refine Vc.region ?_
  refine vcL_pure rfl rfl (Value.string y) (fun w => by kernel_rfl) ?_
  refine vcL_eff rfl (opVC_call rfl (by kernel_rfl) (callS.mono h fun v2 vw1 h => ?_)) 
  obtain ⟨t10, rfl, h⟩ := h
  refine vcL_pure rfl rfl (Value.bool t10) (fun w => by kernel_rfl) ?_
  refine vcL_nil ?_
  refine Vc.seq ?_
  refine Vc.seq ?_
  refine Vc.region ?_
  refine vcL_pure rfl rfl (Value.bool t8) (fun w => by kernel_rfl) ?_
  refine vcL_nil ?_
  refine Vc.cond t8 (by kernel_rfl) (fun hb => ?_) (fun hb => ?_)
  · have h := h.1 (hb)
    refine Vc.seq ?_
    refine Vc.seq ?_
    refine Vc.region ?_
    refine vcL_pure rfl rfl (Value.bool t10) (fun w => by kernel_rfl) ?_
    refine vcL_nil ?_
    refine Vc.cond t10 (by kernel_rfl) (fun hb => ?_) (fun hb => ?_)
    · have h := h.1 (hb)
      refine Vc.seq ?_
      refine Vc.region ?_
      refine vcL_pure rfl rfl (Value.int .i64 0) (fun w => by kernel_rfl) ?_
      refine vcL_nil ?_
      refine Vc.ret ?_
      refine outs_ret ?_
      refine done_mk (Value.int .i64 0) (res1 (resC_tmp (by kernel_rfl))) ?_
      exact ⟨0, rfl, h⟩
    · have h := h.2 (hb)
      refine Vc.skip ?_
      refine Vc.seq ?_
      refine Vc.region ?_
      refine vcL_pure rfl rfl (Value.int .i64 (-1)) (fun w => by kernel_rfl) ?_
      refine vcL_nil ?_
      refine Vc.ret ?_
      refine outs_ret ?_
      refine done_mk (Value.int .i64 (-1)) (res1 (resC_tmp (by kernel_rfl))) ?_
      exact ⟨(-1), rfl, h⟩
  · have h := h.2 (hb)
    refine Vc.skip ?_
    refine Vc.seq ?_
    refine Vc.seq ?_
    refine Vc.region ?_
    refine vcL_pure rfl rfl (Value.bool t10) (fun w => by kernel_rfl) ?_
    refine vcL_nil ?_
    refine Vc.cond t10 (by kernel_rfl) (fun hb => ?_) (fun hb => ?_)
    · have h := h.1 (hb)
      refine Vc.seq ?_
      refine Vc.region ?_
      refine vcL_pure rfl rfl (Value.int .i64 1) (fun w => by kernel_rfl) ?_
      refine vcL_nil ?_
      refine Vc.ret ?_
      refine outs_ret ?_
      refine done_mk (Value.int .i64 1) (res1 (resC_tmp (by kernel_rfl))) ?_
      exact ⟨1, rfl, h⟩
    · have h := h.2 (hb)
      refine Vc.skip ?_
      refine Vc.seq ?_
      refine Vc.seq ?_
      refine Vc.region ?_
      refine vcL_purs 3 [(16, (Value.bool (bLt x y))), (15, (Value.string y)), (14, (Value.string x))] (by kernel_rfl) ?_
      refine vcL_nil ?_
      refine Vc.cond (bLt x y) (by kernel_rfl) (fun hb => ?_) (fun hb => ?_)
      · have h := h.1 (hb)
        refine Vc.seq ?_
        refine Vc.region ?_
        refine vcL_pure rfl rfl (Value.int .i64 (-1)) (fun w => by kernel_rfl) ?_
        refine vcL_nil ?_
        refine Vc.ret ?_
        refine outs_ret ?_
        refine done_mk (Value.int .i64 (-1)) (res1 (resC_tmp (by kernel_rfl))) ?_
        exact ⟨(-1), rfl, h⟩
      · have h := h.2 (hb)
        refine Vc.skip ?_
        refine Vc.seq ?_
        refine Vc.seq ?_
        refine Vc.region ?_
        refine vcL_purs 3 [(19, (Value.bool (!(bLt x y || bEq x y)))), (18, (Value.string y)), (17, (Value.string x))] (by kernel_rfl) ?_
        refine vcL_nil ?_
        refine Vc.cond (!(bLt x y || bEq x y)) (by kernel_rfl) (fun hb => ?_) (fun hb => ?_)
        · have h := h.1 (hb)
          refine Vc.seq ?_
          refine Vc.region ?_
          refine vcL_pure rfl rfl (Value.int .i64 1) (fun w => by kernel_rfl) ?_
          refine vcL_nil ?_
          refine Vc.ret ?_
          refine outs_ret ?_
          refine done_mk (Value.int .i64 1) (res1 (resC_tmp (by kernel_rfl))) ?_
          exact ⟨1, rfl, h⟩
        · have h := h.2 (hb)
          refine Vc.skip ?_
          refine Vc.seq ?_
          refine Vc.region ?_
          refine vcL_pure rfl rfl (Value.int .i64 0) (fun w => by kernel_rfl) ?_
          refine vcL_nil ?_
          refine Vc.ret ?_
          refine outs_ret ?_
          refine done_mk (Value.int .i64 0) (res1 (resC_tmp (by kernel_rfl))) ?_
          exact ⟨0, rfl, h⟩
theorem cmp_Compare_string.go {x : ByteArray} {y : ByteArray} {w : World} {k : Value → World → Prop} (h : cmp_Compare_string x y w fun r0 w' => k (Value.int .i64 r0) w') : callS Tryz.prog 77 [(Value.string x), (Value.string y)] w k := (cmp_Compare_string.sound x y w _ h).mono (by rintro _ _ ⟨r0, rfl, h⟩; exact h)

/-- slices.Clip[[]halyard/api.Package,halyard/api.Package] -/
def slices_Clip_apiPackageapiPackage (vs : Sl) (w : World) (R : Sl → World → Prop) : Prop :=
  ((0 : Int) ≤ 0 ∧ 0 ≤ (vs.len : Int) ∧ (vs.len : Int) ≤ (vs.len : Int) ∧ (vs.len : Int) ≤ (vs.cap : Int)) ∧ R (Sl.mk (if (vs.len : Int).toNat = 0 then vs.a else vs.a.map (·.add (0 * 7))) ((vs.len : Int).toNat - 0) ((vs.len : Int).toNat - 0)) w
set_option maxHeartbeats 8000000 in
theorem slices_Clip_apiPackageapiPackage.sound (vs : Sl) (w : World) (R : Sl → World → Prop) (h : slices_Clip_apiPackageapiPackage vs w R) : callS Tryz.prog 78 [(Sl.v vs)] w (fun v w' => ∃ (r0 : Sl), v = (Sl.v r0) ∧ R r0 w') := by
  unfold slices_Clip_apiPackageapiPackage at h
  refine calls_of_vc 9 rfl Tryz.func78 rfl (by kernel_rfl) (by simp) ?_
  refine Vc.seq ?_
  refine Vc.region ?_
  refine vcL_pure rfl rfl (Sl.v Sl.nil) (fun w => by kernel_rfl) ?_
  refine vcL_nil ?_
  refine Vc.seq ?_
  refine Vc.region ?_
  refine vcL_purs 5 [(7, (Value.int .i64 (vs.len : Int))), (6, (Sl.v vs)), (5, (Value.int .i64 (vs.len : Int))), (4, (Sl.v vs)), (3, (Sl.v vs))] (by kernel_rfl) ?_
  obtain ⟨hi, h⟩ := h
  refine vcL_pure rfl rfl (Sl.v (Sl.mk (if (vs.len : Int).toNat = 0 then vs.a else vs.a.map (·.add (0 * 7))) ((vs.len : Int).toNat - 0) ((vs.len : Int).toNat - 0))) (fun w => by exact exec_slSlHM (s := vs) (el := 48) (k2 := .i64) (k3 := .i64) rfl (by kernel_rfl) (by kernel_rfl) (by kernel_rfl) (by kernel_rfl) (fun w => by kernel_rfl) (hi) w) ?_
  refine vcL_pure rfl rfl (Sl.v (Sl.mk (if (vs.len : Int).toNat = 0 then vs.a else vs.a.map (·.add (0 * 7))) ((vs.len : Int).toNat - 0) ((vs.len : Int).toNat - 0))) (fun w => by kernel_rfl) ?_
  refine vcL_nil ?_
  refine Vc.ret ?_
  refine outs_ret ?_
  refine done_mk (Sl.v (Sl.mk (if (vs.len : Int).toNat = 0 then vs.a else vs.a.map (·.add (0 * 7))) ((vs.len : Int).toNat - 0) ((vs.len : Int).toNat - 0))) (res1 (resC_tmp (by kernel_rfl))) ?_
  exact ⟨(Sl.mk (if (vs.len : Int).toNat = 0 then vs.a else vs.a.map (·.add (0 * 7))) ((vs.len : Int).toNat - 0) ((vs.len : Int).toNat - 0)), rfl, h⟩
theorem slices_Clip_apiPackageapiPackage.go {vs : Sl} {w : World} {k : Value → World → Prop} (h : slices_Clip_apiPackageapiPackage vs w fun r0 w' => k (Sl.v r0) w') : callS Tryz.prog 78 [(Sl.v vs)] w k := (slices_Clip_apiPackageapiPackage.sound vs w _ h).mono (by rintro _ _ ⟨r0, rfl, h⟩; exact h)

end Go.Hal.SE
