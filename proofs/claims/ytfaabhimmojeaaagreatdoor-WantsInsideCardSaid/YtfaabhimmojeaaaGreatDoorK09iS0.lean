/- Lemmas for the claim K09i: how the program's functions run, and what they answer; no condition but those that each theorem names. -/
import Derived.Test.YtfaabhimmojeaaaGreatDoorProg
import Derived.Test.YtfaabhimmojeaaaGreatDoorK09iA0
set_option linter.unusedVariables false
set_option linter.unusedSimpArgs false
namespace Go.Hal.SE
open Go Go.RowKit Go.Hal Go.Proofs
set_option maxRecDepth 100000
namespace Eq0
theorem eqv_30 (d : Nat) (a0 : Int) (a1 : Int) (a2 : Int) (b0 : Int) (b1 : Int) (b2 : Int) (w : World) : (Op.equalIn (d + 2) 30 (.agg #[(Value.int .i64 a0), (Value.int .i64 a1), (Value.int .i64 a2)]) (.agg #[(Value.int .i64 b0), (Value.int .i64 b1), (Value.int .i64 b2)])).run Tryz.prog w = .ok ((a0 == b0) && ((a1 == b1) && ((a2 == b2) && true))) w :=
  (eqS (by kernel_rfl) (by kernel_rfl) (fs := [⟨ "Major", 3, 0, false, "", "", 0⟩, ⟨ "Minor", 3, 1, false, "", "", 8⟩, ⟨ "Patch", 3, 2, false, "", "", 16⟩]) (by kernel_rfl) (eqF_cons (x := (Value.int .i64 a0)) (y := (Value.int .i64 b0)) rfl (by kernel_rfl) (by kernel_rfl) (run_equalIn_int w _ 3 .i64 .i64 a0 b0 (by kernel_rfl)) (eqF_cons (x := (Value.int .i64 a1)) (y := (Value.int .i64 b1)) rfl (by kernel_rfl) (by kernel_rfl) (run_equalIn_int w _ 3 .i64 .i64 a1 b1 (by kernel_rfl)) (eqF_cons (x := (Value.int .i64 a2)) (y := (Value.int .i64 b2)) rfl (by kernel_rfl) (by kernel_rfl) (run_equalIn_int w _ 3 .i64 .i64 a2 b2 (by kernel_rfl)) eqF_nil))))
theorem eqv_32 (d : Nat) (a0 : ByteArray) (a1 : Int) (a2 : Int) (a3 : Int) (b0 : ByteArray) (b1 : Int) (b2 : Int) (b3 : Int) (w : World) : (Op.equalIn (d + 3) 32 (.agg #[(Value.string a0), (Value.int .i64 a1), (Value.int .i64 a2), (Value.int .i64 a3)]) (.agg #[(Value.string b0), (Value.int .i64 b1), (Value.int .i64 b2), (Value.int .i64 b3)])).run Tryz.prog w = .ok ((bEq a0 b0) && (((a1 == b1) && ((a2 == b2) && ((a3 == b3) && true))) && true)) w :=
  (eqS (by kernel_rfl) (by kernel_rfl) (fs := [⟨ "Name", 9, 0, false, "", "", 0⟩, ⟨ "Version", 30, 1, false, "", "", 16⟩]) (by kernel_rfl) (eqF_cons (x := (Value.string a0)) (y := (Value.string b0)) rfl (by kernel_rfl) (by kernel_rfl) (run_equalIn_string w _ 9 a0 b0 (by kernel_rfl)) (eqF_cons (x := (Value.agg #[(Value.int .i64 a1), (Value.int .i64 a2), (Value.int .i64 a3)])) (y := (Value.agg #[(Value.int .i64 b1), (Value.int .i64 b2), (Value.int .i64 b3)])) rfl (by kernel_rfl) (by kernel_rfl) (eqS (by kernel_rfl) (by kernel_rfl) (fs := [⟨ "Major", 3, 0, false, "", "", 0⟩, ⟨ "Minor", 3, 1, false, "", "", 8⟩, ⟨ "Patch", 3, 2, false, "", "", 16⟩]) (by kernel_rfl) (eqF_cons (x := (Value.int .i64 a1)) (y := (Value.int .i64 b1)) rfl (by kernel_rfl) (by kernel_rfl) (run_equalIn_int w _ 3 .i64 .i64 a1 b1 (by kernel_rfl)) (eqF_cons (x := (Value.int .i64 a2)) (y := (Value.int .i64 b2)) rfl (by kernel_rfl) (by kernel_rfl) (run_equalIn_int w _ 3 .i64 .i64 a2 b2 (by kernel_rfl)) (eqF_cons (x := (Value.int .i64 a3)) (y := (Value.int .i64 b3)) rfl (by kernel_rfl) (by kernel_rfl) (run_equalIn_int w _ 3 .i64 .i64 a3 b3 (by kernel_rfl)) eqF_nil)))) eqF_nil)))
end Eq0
open Eq0
/-- halyard/halyardlaw09.WantsInside -/
def halyardlaw09_WantsInside (w_Packs : Sl) (w_Manifest_Deps : Sl) (w_Manifest_Dev : Sl) (w_Manifest_Optional : Sl) (w_Manifest_Overrides : Sl) (env : Sl) (p_Name : ByteArray) (p_Version_Major : Int) (p_Version_Minor : Int) (p_Version_Patch : Int) (more : Sl) (w : World) (R : Bool → World → Prop) : Prop :=
  newS w [(Sl.v w_Packs), (Sl.v w_Manifest_Deps), (Sl.v w_Manifest_Dev), (Sl.v w_Manifest_Optional), (Sl.v w_Manifest_Overrides)] 27 fun a vw => newS vw [(Value.string p_Name), (Value.int .i64 p_Version_Major), (Value.int .i64 p_Version_Minor), (Value.int .i64 p_Version_Patch)] 32 fun a1 vw2 => ∃ (t25_Packs : Sl) (t25_Manifest_Deps : Sl) (t25_Manifest_Dev : Sl) (t25_Manifest_Optional : Sl) (t25_Manifest_Overrides : Sl), (ldc vw2 a [(Sl.v t25_Packs), (Sl.v t25_Manifest_Deps), (Sl.v t25_Manifest_Dev), (Sl.v t25_Manifest_Optional), (Sl.v t25_Manifest_Overrides)]) ∧ callS Tryz.prog 11 [(Value.agg #[(Sl.v t25_Packs), (Sl.v t25_Manifest_Deps), (Sl.v t25_Manifest_Dev), (Sl.v t25_Manifest_Optional), (Sl.v t25_Manifest_Overrides)])] vw2 fun v vw3 => ∃ (t26 : Option Addr) (t26b : Option Addr), v = (Value.tuple #[(Value.pointer t26), (Value.pointer t26b)]) ∧ bnd (Option.isNone t26) fun (b : Bool) => gCall (!b) (fun (t32 : Bool) (vw4 : World) => (((b || (!t32)) = true → R false vw4) ∧ ((b || (!t32)) = false → ∃ (t38_Deps : Sl) (t38_Dev : Sl) (t38_Optional : Sl) (t38_Overrides : Sl), (ldc vw4 (a.add 1) [(Sl.v t38_Deps), (Sl.v t38_Dev), (Sl.v t38_Optional), (Sl.v t38_Overrides)]) ∧ ∃ (t40_Name : ByteArray) (t40_Version_Major : Int) (t40_Version_Minor : Int) (t40_Version_Patch : Int), (ldc vw4 a1 [(Value.string t40_Name), (Value.int .i64 t40_Version_Major), (Value.int .i64 t40_Version_Minor), (Value.int .i64 t40_Version_Patch)]) ∧ callS Tryz.prog 13 [(Value.pointer t26), (Value.agg #[(Sl.v t38_Deps), (Sl.v t38_Dev), (Sl.v t38_Optional), (Sl.v t38_Overrides)]), (Sl.v env), (Value.agg #[(Value.string t40_Name), (Value.int .i64 t40_Version_Major), (Value.int .i64 t40_Version_Minor), (Value.int .i64 t40_Version_Patch)])] vw4 fun v10 vw9 => ∃ (t41 : Sl) (t41b : Bool), v10 = (Value.tuple #[(Sl.v t41), (Value.bool t41b)]) ∧ (((!t41b) = true → R ((t41.len : Int) == 0) vw9) ∧ ((!t41b) = false → ∃ (t52_Deps : Sl) (t52_Dev : Sl) (t52_Optional : Sl) (t52_Overrides : Sl), (ldc vw9 (a.add 1) [(Sl.v t52_Deps), (Sl.v t52_Dev), (Sl.v t52_Optional), (Sl.v t52_Overrides)]) ∧ ∃ (t54_Name : ByteArray) (t54_Version_Major : Int) (t54_Version_Minor : Int) (t54_Version_Patch : Int), (ldc vw9 a1 [(Value.string t54_Name), (Value.int .i64 t54_Version_Major), (Value.int .i64 t54_Version_Minor), (Value.int .i64 t54_Version_Patch)]) ∧ callS Tryz.prog 13 [(Value.pointer t26), (Value.agg #[(Sl.v t52_Deps), (Sl.v t52_Dev), (Sl.v t52_Optional), (Sl.v t52_Overrides)]), (Sl.v t41), (Value.agg #[(Value.string t54_Name), (Value.int .i64 t54_Version_Major), (Value.int .i64 t54_Version_Minor), (Value.int .i64 t54_Version_Patch)])] vw9 fun v15 vw14 => ∃ (t55 : Sl) (t55b : Bool), v15 = (Value.tuple #[(Sl.v t55), (Value.bool t55b)]) ∧ bnd (!t55b) fun (b17 : Bool) => gCall (!b17) (fun (t63 : Bool) (vw18 : World) => (((b17 || (!t63)) = true → R false vw18) ∧ ((b17 || (!t63)) = false → appS Tryz.prog 28 28 Sl.nil (Sl.v t41) vw18 fun t68 vw23 => appS Tryz.prog 28 28 t68 (Sl.v more) vw23 fun t71 vw24 => ∃ (t75_Deps : Sl) (t75_Dev : Sl) (t75_Optional : Sl) (t75_Overrides : Sl), (ldc vw24 (a.add 1) [(Sl.v t75_Deps), (Sl.v t75_Dev), (Sl.v t75_Optional), (Sl.v t75_Overrides)]) ∧ ∃ (t77_Name : ByteArray) (t77_Version_Major : Int) (t77_Version_Minor : Int) (t77_Version_Patch : Int), (ldc vw24 a1 [(Value.string t77_Name), (Value.int .i64 t77_Version_Major), (Value.int .i64 t77_Version_Minor), (Value.int .i64 t77_Version_Patch)]) ∧ callS Tryz.prog 13 [(Value.pointer t26), (Value.agg #[(Sl.v t75_Deps), (Sl.v t75_Dev), (Sl.v t75_Optional), (Sl.v t75_Overrides)]), (Sl.v t71), (Value.agg #[(Value.string t77_Name), (Value.int .i64 t77_Version_Major), (Value.int .i64 t77_Version_Minor), (Value.int .i64 t77_Version_Patch)])] vw24 fun v28 vw27 => ∃ (t78 : Sl) (t78b : Bool), v28 = (Value.tuple #[(Sl.v t78), (Value.bool t78b)]) ∧ bnd (!t78b) fun (b30 : Bool) => gCall (!b30) (fun (t86 : Bool) (vw31 : World) => (((b30 || (!t86)) = true → R false vw31) ∧ ((b30 || (!t86)) = false → loop1 0 vw31 fun i vw36 nxt => ((i < (t41.len : Int) → bnd vw36.drew fun (vw37 : World) => bnd (decide (0 < i)) fun (b38 : Bool) => ∃ (ad : Addr), grd b38 (t41.a = some ad ∧ (0 : Int) ≤ (wrapI (i - 1)) ∧ (wrapI (i - 1)) < (t41.len : Int)) ∧ ∃ (t103 : ByteArray), grd b38 (ldc vw37 (ad.add ((wrapI (i - 1)).toNat * 4)) [(Value.string t103)]) ∧ ∃ (ad40 : Addr), grd b38 (t41.a = some ad40 ∧ (0 : Int) ≤ i ∧ i < (t41.len : Int)) ∧ ∃ (t108 : ByteArray), grd b38 (ldc vw37 (ad40.add (i.toNat * 4)) [(Value.string t108)]) ∧ gCall b38 (fun (t109 : Bool) (vw43 : World) => (((b38 && (!t109)) = true → R false vw43) ∧ ((b38 && (!t109)) = false → bnd vw43.drew fun (vw48 : World) => ∃ (t115_Deps : Sl) (t115_Dev : Sl) (t115_Optional : Sl) (t115_Overrides : Sl), (ldc vw48 (a.add 1) [(Sl.v t115_Deps), (Sl.v t115_Dev), (Sl.v t115_Optional), (Sl.v t115_Overrides)]) ∧ ∃ (ad50 : Addr), (t41.a = some ad50 ∧ (0 : Int) ≤ i ∧ i < (t41.len : Int)) ∧ ∃ (t120_Name : ByteArray) (t120_Version_Major : Int) (t120_Version_Minor : Int) (t120_Version_Patch : Int), (ldc vw48 (ad50.add (i.toNat * 4)) [(Value.string t120_Name), (Value.int .i64 t120_Version_Major), (Value.int .i64 t120_Version_Minor), (Value.int .i64 t120_Version_Patch)]) ∧ callS Tryz.prog 13 [(Value.pointer t26), (Value.agg #[(Sl.v t115_Deps), (Sl.v t115_Dev), (Sl.v t115_Optional), (Sl.v t115_Overrides)]), (Sl.v t41), (Value.agg #[(Value.string t120_Name), (Value.int .i64 t120_Version_Major), (Value.int .i64 t120_Version_Minor), (Value.int .i64 t120_Version_Patch)])] vw48 fun v54 vw53 => ∃ (t121 : Sl) (t121b : Bool), v54 = (Value.tuple #[(Sl.v t121), (Value.bool t121b)]) ∧ (((!t121b) = true → R false vw53) ∧ ((!t121b) = false → loop1 0 vw53 fun vk vw56 nxt57 => ((vk < (t121.len : Int) → loop2 false 0 vw56 fun vin vj vw58 nxt59 => ((vj < (t41.len : Int) → bnd vw58.drew fun (vw60 : World) => ∃ (ad61 : Addr), grd (!vin) (t41.a = some ad61 ∧ (0 : Int) ≤ vj ∧ vj < (t41.len : Int)) ∧ ∃ (t143_Name : ByteArray) (t143_Version_Major : Int) (t143_Version_Minor : Int) (t143_Version_Patch : Int), grd (!vin) (ldc vw60 (ad61.add (vj.toNat * 4)) [(Value.string t143_Name), (Value.int .i64 t143_Version_Major), (Value.int .i64 t143_Version_Minor), (Value.int .i64 t143_Version_Patch)]) ∧ ∃ (ad64 : Addr), grd (!vin) (t121.a = some ad64 ∧ (0 : Int) ≤ vk ∧ vk < (t121.len : Int)) ∧ ∃ (t147_Name : ByteArray) (t147_Version_Major : Int) (t147_Version_Minor : Int) (t147_Version_Patch : Int), grd (!vin) (ldc vw60 (ad64.add (vk.toNat * 4)) [(Value.string t147_Name), (Value.int .i64 t147_Version_Major), (Value.int .i64 t147_Version_Minor), (Value.int .i64 t147_Version_Patch)]) ∧ nxt59 (vin || ((bEq t143_Name t147_Name) && (((t143_Version_Major == t147_Version_Major) && ((t143_Version_Minor == t147_Version_Minor) && ((t143_Version_Patch == t147_Version_Patch) && true))) && true))) (wrapI (vj + 1)) vw60) ∧ (¬ (vj < (t41.len : Int)) → (((!vin) = true → R false vw58) ∧ ((!vin) = false → nxt57 (wrapI (vk + 1)) vw58))))) ∧ (¬ (vk < (t121.len : Int)) → nxt (wrapI (i + 1)) vw56))))))) (fun q => callS Tryz.prog 15 [(Value.string t103), (Value.string t108)] vw37 fun v44 vw43 => ∃ (t109 : Bool), v44 = (Value.bool t109) ∧ q t109 vw43) (fun q => q false vw37)) ∧ (¬ (i < (t41.len : Int)) → R true vw36))))) (fun q => callS Tryz.prog 14 [(Sl.v t41), (Sl.v t78)] vw27 fun v32 vw31 => ∃ (t86 : Bool), v32 = (Value.bool t86) ∧ q t86 vw31) (fun q => q false vw27)))) (fun q => callS Tryz.prog 14 [(Sl.v t41), (Sl.v t55)] vw14 fun v19 vw18 => ∃ (t63 : Bool), v19 = (Value.bool t63) ∧ q t63 vw18) (fun q => q false vw14)))))) (fun q => callS Tryz.prog 12 [] vw3 fun v5 vw4 => ∃ (t32 : Bool), v5 = (Value.bool t32) ∧ q t32 vw4) (fun q => q false vw3)
set_option maxHeartbeats 8000000 in
theorem halyardlaw09_WantsInside.sound (w_Packs : Sl) (w_Manifest_Deps : Sl) (w_Manifest_Dev : Sl) (w_Manifest_Optional : Sl) (w_Manifest_Overrides : Sl) (env : Sl) (p_Name : ByteArray) (p_Version_Major : Int) (p_Version_Minor : Int) (p_Version_Patch : Int) (more : Sl) (w : World) (R : Bool → World → Prop) (h : halyardlaw09_WantsInside w_Packs w_Manifest_Deps w_Manifest_Dev w_Manifest_Optional w_Manifest_Overrides env p_Name p_Version_Major p_Version_Minor p_Version_Patch more w R) : callS Tryz.prog 3 [(Value.agg #[(Sl.v w_Packs), (Sl.v w_Manifest_Deps), (Sl.v w_Manifest_Dev), (Sl.v w_Manifest_Optional), (Sl.v w_Manifest_Overrides)]), (Sl.v env), (Value.agg #[(Value.string p_Name), (Value.int .i64 p_Version_Major), (Value.int .i64 p_Version_Minor), (Value.int .i64 p_Version_Patch)]), (Sl.v more)] w (fun v w' => ∃ (r0 : Bool), v = (Value.bool r0) ∧ R r0 w') := by
  unfold halyardlaw09_WantsInside at h
  refine calls_of_vc 152 rfl Tryz.func3 rfl (by kernel_rfl) (by simp) ?_
  refine Vc.seq ?_
  refine Vc.region ?_
  refine vcL_eff rfl (opVC_new rfl (fun a => Value.pointer (some a)) (by kernel_rfl) (newS.mono h fun a vw hx h => ?_)) 
  refine vcL_eff rfl (opVC_new rfl (fun a => Value.pointer (some a)) (by kernel_rfl) (newS.mono h fun a1 vw2 hx h => ?_)) 
  refine vcL_pure rfl rfl (Value.bool false) (fun w => by kernel_rfl) ?_
  refine vcL_nil ?_
  refine Vc.seq ?_
  refine Vc.region ?_
  obtain ⟨t25_Packs, t25_Manifest_Deps, t25_Manifest_Dev, t25_Manifest_Optional, t25_Manifest_Overrides, hc, h⟩ := h
  refine vcL_val rfl rfl (Value.agg #[(Sl.v t25_Packs), (Sl.v t25_Manifest_Deps), (Sl.v t25_Manifest_Dev), (Sl.v t25_Manifest_Optional), (Sl.v t25_Manifest_Overrides)]) (exec_load rfl (by kernel_rfl) (run_loadN (fun w => by kernel_rfl) (fun w => by kernel_rfl) ((hc)))) ?_
  refine vcL_eff rfl (opVC_call rfl (by kernel_rfl) (callS.mono h fun v vw3 h => ?_)) 
  obtain ⟨t26, t26b, rfl, h⟩ := h
  refine vcL_purs 5 [(10, (Value.pointer t26b)), (9, (Value.pointer t26)), (28, (Value.pointer t26b)), (27, (Value.pointer t26)), (24, (Value.tuple #[(Value.pointer t26), (Value.pointer t26b)]))] (by kernel_rfl) ?_
  refine vcL_nil ?_
  refine Vc.seq ?_
  refine Vc.seq ?_
  refine Vc.region ?_
  refine vcL_pure rfl rfl (Value.pointer t26) (fun w => by kernel_rfl) ?_
  refine vcL_pure rfl rfl (Value.bool (Option.isNone t26)) (fun w => by cases t26 <;> kernel_rfl) ?_
  obtain ⟨b, hb⟩ : ∃ y, y = (Option.isNone t26) := ⟨_, rfl⟩
  have h := h b hb
  refine vcL_pure rfl rfl (Value.bool b) (fun w => by rw [hb]; kernel_rfl) ?_
  obtain ⟨vJ, hJ, h⟩ := gCall_elim h
  refine vcL_effJ (σ := Bool) (!b) (wanted_g (d := 31) rfl (by kernel_rfl) b (by kernel_rfl) (!b) (eqF b)) rfl (fun s w => vJ s w) (fun s => (Value.bool s)) ?_ (fun hg => opVC_call rfl (by simp only [Bool.and_eq_true, Bool.not_eq_true'] at hg; obtain rfl := hg; kernel_rfl) (callS.mono (h.1 hg) fun v5 vw4 hq => ?_)) (fun hg => ⟨false, h.2 hg⟩)
  · intro t32 vw4 h
    subst hJ
    refine vcL_guardP (!b) (wanted_g (d := 31) rfl (by kernel_rfl) b (by kernel_rfl) (!b) (eqF b)) rfl (Value.bool (!t32)) (fun hg w => by simp only [Bool.and_eq_true, Bool.not_eq_true'] at hg; obtain rfl := hg; kernel_rfl) ?_
    refine vcL_pure rfl rfl (Value.bool (b || (!t32))) (fun w => by cases b <;> kernel_rfl) ?_
    refine vcL_nil ?_
    refine Vc.cond (b || (!t32)) (by kernel_rfl) (fun hb => ?_) (fun hb => ?_)
    · have h := h.1 (hb)
      refine Vc.seq ?_
      refine Vc.region ?_
      refine vcL_pure rfl rfl (Value.bool false) (fun w => by kernel_rfl) ?_
      refine vcL_nil ?_
      refine Vc.ret ?_
      refine outs_ret ?_
      refine done_mk (Value.bool false) (res1 (resC_tmp (by kernel_rfl))) ?_
      exact ⟨false, rfl, h⟩
    · have h := h.2 (hb)
      refine Vc.skip ?_
      refine Vc.seq ?_
      refine Vc.region ?_
      refine vcL_purs 2 [(37, (Value.pointer (some (a.add 1)))), (36, (Value.pointer t26))] (by kernel_rfl) ?_
      obtain ⟨t38_Deps, t38_Dev, t38_Optional, t38_Overrides, hc7, h⟩ := h
      refine vcL_val rfl rfl (Value.agg #[(Sl.v t38_Deps), (Sl.v t38_Dev), (Sl.v t38_Optional), (Sl.v t38_Overrides)]) (exec_load rfl (by kernel_rfl) (run_loadN (fun w => by kernel_rfl) (fun w => by kernel_rfl) ((hc7)))) ?_
      refine vcL_pure rfl rfl (Sl.v env) (fun w => by kernel_rfl) ?_
      obtain ⟨t40_Name, t40_Version_Major, t40_Version_Minor, t40_Version_Patch, hc8, h⟩ := h
      refine vcL_val rfl rfl (Value.agg #[(Value.string t40_Name), (Value.int .i64 t40_Version_Major), (Value.int .i64 t40_Version_Minor), (Value.int .i64 t40_Version_Patch)]) (exec_load rfl (by kernel_rfl) (run_loadN (fun w => by kernel_rfl) (fun w => by kernel_rfl) ((hc8)))) ?_
      refine vcL_eff rfl (opVC_call rfl (by kernel_rfl) (callS.mono h fun v10 vw9 h => ?_)) 
      obtain ⟨t41, t41b, rfl, h⟩ := h
      refine vcL_purs 5 [(12, (Value.bool t41b)), (11, (Sl.v t41)), (43, (Value.bool t41b)), (42, (Sl.v t41)), (35, (Value.tuple #[(Sl.v t41), (Value.bool t41b)]))] (by kernel_rfl) ?_
      refine vcL_nil ?_
      refine Vc.seq ?_
      refine Vc.seq ?_
      refine Vc.region ?_
      refine vcL_purs 2 [(45, (Value.bool (!t41b))), (44, (Value.bool t41b))] (by kernel_rfl) ?_
      refine vcL_nil ?_
      refine Vc.cond (!t41b) (by kernel_rfl) (fun hb => ?_) (fun hb => ?_)
      · have h := h.1 (hb)
        refine Vc.seq ?_
        refine Vc.region ?_
        refine vcL_purs 4 [(8, (Value.bool ((t41.len : Int) == 0))), (48, (Value.bool ((t41.len : Int) == 0))), (47, (Value.int .i64 (t41.len : Int))), (46, (Sl.v t41))] (by kernel_rfl) ?_
        refine vcL_nil ?_
        refine Vc.ret ?_
        refine outs_ret ?_
        refine done_mk (Value.bool ((t41.len : Int) == 0)) (res1 (resC_tmp (by kernel_rfl))) ?_
        exact ⟨((t41.len : Int) == 0), rfl, h⟩
      · have h := h.2 (hb)
        refine Vc.skip ?_
        refine Vc.seq ?_
        refine Vc.region ?_
        refine vcL_purs 2 [(51, (Value.pointer (some (a.add 1)))), (50, (Value.pointer t26))] (by kernel_rfl) ?_
        obtain ⟨t52_Deps, t52_Dev, t52_Optional, t52_Overrides, hc12, h⟩ := h
        refine vcL_val rfl rfl (Value.agg #[(Sl.v t52_Deps), (Sl.v t52_Dev), (Sl.v t52_Optional), (Sl.v t52_Overrides)]) (exec_load rfl (by kernel_rfl) (run_loadN (fun w => by kernel_rfl) (fun w => by kernel_rfl) ((hc12)))) ?_
        refine vcL_pure rfl rfl (Sl.v t41) (fun w => by kernel_rfl) ?_
        obtain ⟨t54_Name, t54_Version_Major, t54_Version_Minor, t54_Version_Patch, hc13, h⟩ := h
        refine vcL_val rfl rfl (Value.agg #[(Value.string t54_Name), (Value.int .i64 t54_Version_Major), (Value.int .i64 t54_Version_Minor), (Value.int .i64 t54_Version_Patch)]) (exec_load rfl (by kernel_rfl) (run_loadN (fun w => by kernel_rfl) (fun w => by kernel_rfl) ((hc13)))) ?_
        refine vcL_eff rfl (opVC_call rfl (by kernel_rfl) (callS.mono h fun v15 vw14 h => ?_)) 
        obtain ⟨t55, t55b, rfl, h⟩ := h
        refine vcL_purs 5 [(14, (Value.bool t55b)), (13, (Sl.v t55)), (57, (Value.bool t55b)), (56, (Sl.v t55)), (49, (Value.tuple #[(Sl.v t55), (Value.bool t55b)]))] (by kernel_rfl) ?_
        refine vcL_nil ?_
        refine Vc.seq ?_
        refine Vc.seq ?_
        refine Vc.region ?_
        refine vcL_purs 2 [(59, (Value.bool (!t55b))), (58, (Value.bool t55b))] (by kernel_rfl) ?_
        obtain ⟨b17, hb17⟩ : ∃ y, y = (!t55b) := ⟨_, rfl⟩
        have h := h b17 hb17
        refine vcL_pure rfl rfl (Value.bool b17) (fun w => by rw [hb17]; kernel_rfl) ?_
        refine vcL_guardP (!b17) (wanted_g (d := 60) rfl (by kernel_rfl) b17 (by kernel_rfl) (!b17) (eqF b17)) rfl (Sl.v t41) (fun hg w => by simp only [Bool.and_eq_true, Bool.not_eq_true'] at hg; obtain rfl := hg; kernel_rfl) ?_
        refine vcL_guardP (!b17) (wanted_g (d := 60) rfl (by kernel_rfl) b17 (by kernel_rfl) (!b17) (eqF b17)) rfl (Sl.v t55) (fun hg w => by simp only [Bool.and_eq_true, Bool.not_eq_true'] at hg; obtain rfl := hg; kernel_rfl) ?_
        obtain ⟨vJ21, hJ22, h⟩ := gCall_elim h
        refine vcL_effJ (σ := Bool) (!b17) (wanted_g (d := 60) rfl (by kernel_rfl) b17 (by kernel_rfl) (!b17) (eqF b17)) rfl (fun s w => vJ21 s w) (fun s => (Value.bool s)) ?_ (fun hg => opVC_call rfl (by simp only [Bool.and_eq_true, Bool.not_eq_true'] at hg; obtain rfl := hg; kernel_rfl) (callS.mono (h.1 hg) fun v19 vw18 hq => ?_)) (fun hg => ⟨false, h.2 hg⟩)
        · intro t63 vw18 h
          subst hJ22
          refine vcL_guardP (!b17) (wanted_g (d := 60) rfl (by kernel_rfl) b17 (by kernel_rfl) (!b17) (eqF b17)) rfl (Value.bool (!t63)) (fun hg w => by simp only [Bool.and_eq_true, Bool.not_eq_true'] at hg; obtain rfl := hg; kernel_rfl) ?_
          refine vcL_pure rfl rfl (Value.bool (b17 || (!t63))) (fun w => by cases b17 <;> kernel_rfl) ?_
          refine vcL_nil ?_
          refine Vc.cond (b17 || (!t63)) (by kernel_rfl) (fun hb => ?_) (fun hb => ?_)
          · have h := h.1 (hb)
            refine Vc.seq ?_
            refine Vc.region ?_
            refine vcL_pure rfl rfl (Value.bool false) (fun w => by kernel_rfl) ?_
            refine vcL_nil ?_
            refine Vc.ret ?_
            refine outs_ret ?_
            refine done_mk (Value.bool false) (res1 (resC_tmp (by kernel_rfl))) ?_
            exact ⟨false, rfl, h⟩
          · have h := h.2 (hb)
            refine Vc.skip ?_
            refine Vc.seq ?_
            refine Vc.region ?_
            refine vcL_pure rfl rfl (Sl.v Sl.nil) (fun w => by kernel_rfl) ?_
            refine vcL_nil ?_
            refine Vc.seq ?_
            refine Vc.region ?_
            refine vcL_purs 2 [(67, (Sl.v t41)), (66, (Sl.v Sl.nil))] (by kernel_rfl) ?_
            refine vcL_eff rfl (opVC_sem rfl (c := Builtin.append_ #[28, 28] 28 #[(Sl.v Sl.nil), (Sl.v t41)]) (by kernel_rfl) (appS.elim (ty := 28) h fun t68 vw23 h => ?_)) 
            refine vcL_pure rfl rfl (Sl.v t68) (fun w => by kernel_rfl) ?_
            refine vcL_nil ?_
            refine Vc.seq ?_
            refine Vc.region ?_
            refine vcL_purs 2 [(70, (Sl.v more)), (69, (Sl.v t68))] (by kernel_rfl) ?_
            refine vcL_eff rfl (opVC_sem rfl (c := Builtin.append_ #[28, 28] 28 #[(Sl.v t68), (Sl.v more)]) (by kernel_rfl) (appS.elim (ty := 28) h fun t71 vw24 h => ?_)) 
            refine vcL_pure rfl rfl (Sl.v t71) (fun w => by kernel_rfl) ?_
            refine vcL_nil ?_
            refine Vc.seq ?_
            refine Vc.region ?_
            refine vcL_purs 2 [(74, (Value.pointer (some (a.add 1)))), (73, (Value.pointer t26))] (by kernel_rfl) ?_
            obtain ⟨t75_Deps, t75_Dev, t75_Optional, t75_Overrides, hc25, h⟩ := h
            refine vcL_val rfl rfl (Value.agg #[(Sl.v t75_Deps), (Sl.v t75_Dev), (Sl.v t75_Optional), (Sl.v t75_Overrides)]) (exec_load rfl (by kernel_rfl) (run_loadN (fun w => by kernel_rfl) (fun w => by kernel_rfl) ((hc25)))) ?_
            refine vcL_pure rfl rfl (Sl.v t71) (fun w => by kernel_rfl) ?_
            obtain ⟨t77_Name, t77_Version_Major, t77_Version_Minor, t77_Version_Patch, hc26, h⟩ := h
            refine vcL_val rfl rfl (Value.agg #[(Value.string t77_Name), (Value.int .i64 t77_Version_Major), (Value.int .i64 t77_Version_Minor), (Value.int .i64 t77_Version_Patch)]) (exec_load rfl (by kernel_rfl) (run_loadN (fun w => by kernel_rfl) (fun w => by kernel_rfl) ((hc26)))) ?_
            refine vcL_eff rfl (opVC_call rfl (by kernel_rfl) (callS.mono h fun v28 vw27 h => ?_)) 
            obtain ⟨t78, t78b, rfl, h⟩ := h
            refine vcL_purs 5 [(17, (Value.bool t78b)), (16, (Sl.v t78)), (80, (Value.bool t78b)), (79, (Sl.v t78)), (72, (Value.tuple #[(Sl.v t78), (Value.bool t78b)]))] (by kernel_rfl) ?_
            refine vcL_nil ?_
            refine Vc.seq ?_
            refine Vc.seq ?_
            refine Vc.region ?_
            refine vcL_purs 2 [(82, (Value.bool (!t78b))), (81, (Value.bool t78b))] (by kernel_rfl) ?_
            obtain ⟨b30, hb30⟩ : ∃ y, y = (!t78b) := ⟨_, rfl⟩
            have h := h b30 hb30
            refine vcL_pure rfl rfl (Value.bool b30) (fun w => by rw [hb30]; kernel_rfl) ?_
            refine vcL_guardP (!b30) (wanted_g (d := 83) rfl (by kernel_rfl) b30 (by kernel_rfl) (!b30) (eqF b30)) rfl (Sl.v t41) (fun hg w => by simp only [Bool.and_eq_true, Bool.not_eq_true'] at hg; obtain rfl := hg; kernel_rfl) ?_
            refine vcL_guardP (!b30) (wanted_g (d := 83) rfl (by kernel_rfl) b30 (by kernel_rfl) (!b30) (eqF b30)) rfl (Sl.v t78) (fun hg w => by simp only [Bool.and_eq_true, Bool.not_eq_true'] at hg; obtain rfl := hg; kernel_rfl) ?_
            obtain ⟨vJ34, hJ35, h⟩ := gCall_elim h
            refine vcL_effJ (σ := Bool) (!b30) (wanted_g (d := 83) rfl (by kernel_rfl) b30 (by kernel_rfl) (!b30) (eqF b30)) rfl (fun s w => vJ34 s w) (fun s => (Value.bool s)) ?_ (fun hg => opVC_call rfl (by simp only [Bool.and_eq_true, Bool.not_eq_true'] at hg; obtain rfl := hg; kernel_rfl) (callS.mono (h.1 hg) fun v32 vw31 hq => ?_)) (fun hg => ⟨false, h.2 hg⟩)
            · intro t86 vw31 h
              subst hJ35
              refine vcL_guardP (!b30) (wanted_g (d := 83) rfl (by kernel_rfl) b30 (by kernel_rfl) (!b30) (eqF b30)) rfl (Value.bool (!t86)) (fun hg w => by simp only [Bool.and_eq_true, Bool.not_eq_true'] at hg; obtain rfl := hg; kernel_rfl) ?_
              refine vcL_pure rfl rfl (Value.bool (b30 || (!t86))) (fun w => by cases b30 <;> kernel_rfl) ?_
              refine vcL_nil ?_
              refine Vc.cond (b30 || (!t86)) (by kernel_rfl) (fun hb => ?_) (fun hb => ?_)
              · have h := h.1 (hb)
                refine Vc.seq ?_
                refine Vc.region ?_
                refine vcL_pure rfl rfl (Value.bool false) (fun w => by kernel_rfl) ?_
                refine vcL_nil ?_
                refine Vc.ret ?_
                refine outs_ret ?_
                refine done_mk (Value.bool false) (res1 (resC_tmp (by kernel_rfl))) ?_
                exact ⟨false, rfl, h⟩
              · have h := h.2 (hb)
                refine Vc.skip ?_
                refine Vc.seq ?_
                refine Vc.seq ?_
                refine Vc.region ?_
                refine vcL_pure rfl rfl (Value.int .i64 0) (fun w => by kernel_rfl) ?_
                refine vcL_nil ?_
                refine Vc.block ?_
                obtain ⟨vI70, mu71, h, hr72⟩ := h
                refine Vc.loopJ (σ := Int) [18] [8, 19, 20, 21, 22, 23, 89, 90, 91, 92, 93, 94, 95, 96, 97, 98, 99, 100, 101, 102, 103, 104, 105, 106, 107, 108, 109, 110, 111, 112, 113, 114, 115, 116, 117, 118, 119, 120, 121, 122, 123, 124, 125, 126, 127, 128, 129, 130, 131, 132, 133, 134, 135, 136, 137, 138, 139, 140, 141, 142, 143, 144, 145, 146, 147, 148, 149, 150, 151] (fun s => [(18, (Value.int .i64 s))]) (fun s w => vI70 s w) (fun s w => mu71 s w) 0 h (fun _ => rfl) (by kernel_rfl) ?_
                intro i vw36 j h
                have h := hr72 i vw36 h
                refine Vc.seq ?_
                refine Vc.seq ?_
                refine Vc.region ?_
                refine vcL_purs 4 [(92, (Value.bool (decide (i < (t41.len : Int))))), (91, (Value.int .i64 (t41.len : Int))), (90, (Sl.v t41)), (89, (Value.int .i64 i))] (by kernel_rfl) ?_
                refine vcL_nil ?_
                refine Vc.cond (decide (i < (t41.len : Int))) (by kernel_rfl) (fun hb => ?_) (fun hb => ?_)
                · have h := h.1 (of_decide_eq_true hb)
                  refine Vc.skip ?_
                  refine Vc.seq ?_
                  refine Vc.block ?_
                  refine Vc.seq ?_
                  refine Vc.seq ?_
                  obtain ⟨vw37, hvw37⟩ : ∃ y, y = vw36.drew := ⟨_, rfl⟩
                  have h := h vw37 hvw37
                  refine Vc.draw (by kernel_rfl) (fun i => !(memN [14] i)) (.pur 0 (.pur 1 (.pur 2 (.pur 3 (.pur 4 (.pur 5 (.pur 6 (.pur 7 (.val 8 (.pur 9 (.pur 10 (.pur 11 (.pur 12 (.val 13 (.eff 14 (.pur 15 (.pur 16 .fin)) .stop))))))))))))))) (by kernel_rfl) ?_
                  rw [← hvw37]
                  clear hvw37
                  refine vcS_pure rfl rfl rfl (Value.int .i64 i) (fun w => by kernel_rfl) ?_
                  refine vcS_pure rfl rfl rfl (Value.bool (decide (0 < i))) (fun w => by kernel_rfl) ?_
                  obtain ⟨b38, hb38⟩ : ∃ y, y = (decide (0 < i)) := ⟨_, rfl⟩
                  have h := h b38 hb38
                  refine vcS_pure rfl rfl rfl (Value.bool b38) (fun w => by rw [hb38]; kernel_rfl) ?_
                  refine vcS_guard rfl b38 (wanted_g (d := 97) rfl (by kernel_rfl) b38 (by kernel_rfl) b38 (eqT b38)) rfl (Sl.v t41) (fun hg w => by subst hg; kernel_rfl) ?_
                  refine vcS_guard rfl b38 (wanted_g (d := 97) rfl (by kernel_rfl) b38 (by kernel_rfl) b38 (eqT b38)) rfl (Value.int .i64 i) (fun hg w => by subst hg; kernel_rfl) ?_
                  refine vcS_guard rfl b38 (wanted_g (d := 97) rfl (by kernel_rfl) b38 (by kernel_rfl) b38 (eqT b38)) rfl (Value.int .i64 (wrapI (i - 1))) (fun hg w => by subst hg; kernel_rfl) ?_
                  obtain ⟨ad, hi, h⟩ := h
                  refine vcS_guard rfl b38 (wanted_g (d := 97) rfl (by kernel_rfl) b38 (by kernel_rfl) b38 (eqT b38)) rfl (Value.pointer (some (ad.add ((wrapI (i - 1)).toNat * 4)))) (fun hg w => by subst hg; exact exec_indexAt (s := t41) (el := 32) rfl (by kernel_rfl) (by kernel_rfl) (by kernel_rfl) (fun w => by kernel_rfl) (hi rfl).1 (hi rfl).2.1 (hi rfl).2.2 w) ?_
                  refine vcS_guard rfl b38 (wanted_g (d := 97) rfl (by kernel_rfl) b38 (by kernel_rfl) b38 (eqT b38)) rfl (Value.pointer (some (ad.add ((wrapI (i - 1)).toNat * 4)))) (fun hg w => by subst hg; kernel_rfl) ?_
                  obtain ⟨t103, hc39, h⟩ := h
                  refine vcS_valG rfl b38 (wanted_g (d := 97) rfl (by kernel_rfl) b38 (by kernel_rfl) b38 (eqT b38)) rfl (Value.string t103) (fun hg w' hx => by subst hg; exact exec_load rfl (by kernel_rfl) (run_load1 (fun w => by kernel_rfl) ((hc39 rfl).ext hx))) ?_
                  refine vcS_guard rfl b38 (wanted_g (d := 97) rfl (by kernel_rfl) b38 (by kernel_rfl) b38 (eqT b38)) rfl (Sl.v t41) (fun hg w => by subst hg; kernel_rfl) ?_
                  refine vcS_guard rfl b38 (wanted_g (d := 97) rfl (by kernel_rfl) b38 (by kernel_rfl) b38 (eqT b38)) rfl (Value.int .i64 i) (fun hg w => by subst hg; kernel_rfl) ?_
                  obtain ⟨ad40, hi41, h⟩ := h
                  refine vcS_guard rfl b38 (wanted_g (d := 97) rfl (by kernel_rfl) b38 (by kernel_rfl) b38 (eqT b38)) rfl (Value.pointer (some (ad40.add (i.toNat * 4)))) (fun hg w => by subst hg; exact exec_indexAt (s := t41) (el := 32) rfl (by kernel_rfl) (by kernel_rfl) (by kernel_rfl) (fun w => by kernel_rfl) (hi41 rfl).1 (hi41 rfl).2.1 (hi41 rfl).2.2 w) ?_
                  refine vcS_guard rfl b38 (wanted_g (d := 97) rfl (by kernel_rfl) b38 (by kernel_rfl) b38 (eqT b38)) rfl (Value.pointer (some (ad40.add (i.toNat * 4)))) (fun hg w => by subst hg; kernel_rfl) ?_
                  obtain ⟨t108, hc42, h⟩ := h
                  refine vcS_valG rfl b38 (wanted_g (d := 97) rfl (by kernel_rfl) b38 (by kernel_rfl) b38 (eqT b38)) rfl (Value.string t108) (fun hg w' hx => by subst hg; exact exec_load rfl (by kernel_rfl) (run_load1 (fun w => by kernel_rfl) ((hc42 rfl).ext hx))) ?_
                  obtain ⟨vJ46, hJ47, h⟩ := gCall_elim h
                  refine vcS_effJ (σ := Bool) rfl b38 (wanted_g (d := 97) rfl (by kernel_rfl) b38 (by kernel_rfl) b38 (eqT b38)) rfl (fun s w => vJ46 s w) (fun s => (Value.bool s)) ?_ (fun hg => opVC_call rfl (by subst hg; kernel_rfl) (callS.mono (h.1 hg) fun v44 vw43 hq => ?_)) (fun hg => ⟨false, h.2 hg⟩) vcS_stop
                  · intro t109 vw43 h
                    subst hJ47
                    refine vcS_guard rfl b38 (wanted_g (d := 97) rfl (by kernel_rfl) b38 (by kernel_rfl) b38 (eqT b38)) rfl (Value.bool (!t109)) (fun hg w => by subst hg; kernel_rfl) ?_
                    refine vcS_pure rfl rfl rfl (Value.bool (b38 && (!t109))) (fun w => by cases b38 <;> kernel_rfl) ?_
                    refine vcS_fin ?_
                    refine Vc.cond (b38 && (!t109)) (by kernel_rfl) (fun hb => ?_) (fun hb => ?_)
                    · have h := h.1 (hb)
                      refine Vc.seq ?_
                      refine Vc.region ?_
                      refine vcL_pure rfl rfl (Value.bool false) (fun w => by kernel_rfl) ?_
                      refine vcL_nil ?_
                      refine Vc.ret ?_
                      refine outOf_ret ?_
                      refine outOf_ret ?_
                      refine outs_ret ?_
                      refine done_mk (Value.bool false) (res1 (resC_tmp (by kernel_rfl))) ?_
                      exact ⟨false, rfl, h⟩
                    · have h := h.2 (hb)
                      refine Vc.skip ?_
                      refine Vc.seq ?_
                      obtain ⟨vw48, hvw48⟩ : ∃ y, y = vw43.drew := ⟨_, rfl⟩
                      have h := h vw48 hvw48
                      refine Vc.draw (by kernel_rfl) (fun i => !(memN [8] i)) (.pur 0 (.pur 1 (.val 2 (.pur 3 (.pur 4 (.pur 5 (.pur 6 (.val 7 (.eff 8 (.pur 9 (.pur 10 (.pur 11 (.pur 12 (.pur 13 .fin))))) .stop))))))))) (by kernel_rfl) ?_
                      rw [← hvw48]
                      clear hvw48
                      refine vcS_pure rfl rfl rfl (Value.pointer t26) (fun w => by kernel_rfl) ?_
                      refine vcS_pure rfl rfl rfl (Value.pointer (some (a.add 1))) (fun w => by kernel_rfl) ?_
                      obtain ⟨t115_Deps, t115_Dev, t115_Optional, t115_Overrides, hc49, h⟩ := h
                      refine vcS_val rfl rfl rfl (Value.agg #[(Sl.v t115_Deps), (Sl.v t115_Dev), (Sl.v t115_Optional), (Sl.v t115_Overrides)]) (fun w' hx => exec_load rfl (by kernel_rfl) (run_loadN (fun w => by kernel_rfl) (fun w => by kernel_rfl) ((hc49).ext hx))) ?_
                      refine vcS_pure rfl rfl rfl (Sl.v t41) (fun w => by kernel_rfl) ?_
                      refine vcS_pure rfl rfl rfl (Sl.v t41) (fun w => by kernel_rfl) ?_
                      refine vcS_pure rfl rfl rfl (Value.int .i64 i) (fun w => by kernel_rfl) ?_
                      obtain ⟨ad50, hi51, h⟩ := h
                      refine vcS_pure rfl rfl rfl (Value.pointer (some (ad50.add (i.toNat * 4)))) (fun w => by exact exec_indexAt (s := t41) (el := 32) rfl (by kernel_rfl) (by kernel_rfl) (by kernel_rfl) (fun w => by kernel_rfl) (hi51).1 (hi51).2.1 (hi51).2.2 w) ?_
                      obtain ⟨t120_Name, t120_Version_Major, t120_Version_Minor, t120_Version_Patch, hc52, h⟩ := h
                      refine vcS_val rfl rfl rfl (Value.agg #[(Value.string t120_Name), (Value.int .i64 t120_Version_Major), (Value.int .i64 t120_Version_Minor), (Value.int .i64 t120_Version_Patch)]) (fun w' hx => exec_load rfl (by kernel_rfl) (run_loadN (fun w => by kernel_rfl) (fun w => by kernel_rfl) ((hc52).ext hx))) ?_
                      refine vcS_eff rfl rfl (opVC_call rfl (by kernel_rfl) (callS.mono h fun v54 vw53 h => ?_)) vcS_stop
                      obtain ⟨t121, t121b, rfl, h⟩ := h
                      refine ⟨fun hb => absurd hb (by decide), ?_⟩
                      refine vcS_pure rfl rfl rfl (Value.tuple #[(Sl.v t121), (Value.bool t121b)]) (fun w => by kernel_rfl) ?_
                      refine vcS_pure rfl rfl rfl (Sl.v t121) (fun w => by kernel_rfl) ?_
                      refine vcS_pure rfl rfl rfl (Value.bool t121b) (fun w => by kernel_rfl) ?_
                      refine vcS_pure rfl rfl rfl (Sl.v t121) (fun w => by kernel_rfl) ?_
                      refine vcS_pure rfl rfl rfl (Value.bool t121b) (fun w => by kernel_rfl) ?_
                      refine vcS_fin ?_
                      refine Vc.seq ?_
                      refine Vc.seq ?_
                      refine Vc.region ?_
                      refine vcL_purs 2 [(125, (Value.bool (!t121b))), (124, (Value.bool t121b))] (by kernel_rfl) ?_
                      refine vcL_nil ?_
                      refine Vc.cond (!t121b) (by kernel_rfl) (fun hb => ?_) (fun hb => ?_)
                      · have h := h.1 (hb)
                        refine Vc.seq ?_
                        refine Vc.region ?_
                        refine vcL_pure rfl rfl (Value.bool false) (fun w => by kernel_rfl) ?_
                        refine vcL_nil ?_
                        refine Vc.ret ?_
                        refine outOf_ret ?_
                        refine outOf_ret ?_
                        refine outs_ret ?_
                        refine done_mk (Value.bool false) (res1 (resC_tmp (by kernel_rfl))) ?_
                        exact ⟨false, rfl, h⟩
                      · have h := h.2 (hb)
                        refine Vc.skip ?_
                        refine Vc.seq ?_
                        refine Vc.region ?_
                        refine vcL_pure rfl rfl (Value.int .i64 0) (fun w => by kernel_rfl) ?_
                        refine vcL_nil ?_
                        refine Vc.block ?_
                        obtain ⟨vI67, mu68, h, hr69⟩ := h
                        refine Vc.loopJ (σ := Int) [21] [8, 22, 23, 126, 127, 128, 129, 130, 131, 132, 133, 134, 135, 136, 137, 138, 139, 140, 141, 142, 143, 144, 145, 146, 147, 148, 149, 150, 151] (fun s => [(21, (Value.int .i64 s))]) (fun s w => vI67 s w) (fun s w => mu68 s w) 0 h (fun _ => rfl) (by kernel_rfl) ?_
                        intro vk vw56 j h
                        have h := hr69 vk vw56 h
                        refine Vc.seq ?_
                        refine Vc.seq ?_
                        refine Vc.region ?_
                        refine vcL_purs 4 [(129, (Value.bool (decide (vk < (t121.len : Int))))), (128, (Value.int .i64 (t121.len : Int))), (127, (Sl.v t121)), (126, (Value.int .i64 vk))] (by kernel_rfl) ?_
                        refine vcL_nil ?_
                        refine Vc.cond (decide (vk < (t121.len : Int))) (by kernel_rfl) (fun hb => ?_) (fun hb => ?_)
                        · have h := h.1 (of_decide_eq_true hb)
                          refine Vc.skip ?_
                          refine Vc.seq ?_
                          refine Vc.block ?_
                          refine Vc.seq ?_
                          refine Vc.region ?_
                          refine vcL_pure rfl rfl (Value.bool false) (fun w => by kernel_rfl) ?_
                          refine vcL_nil ?_
                          refine Vc.seq ?_
                          refine Vc.seq ?_
                          refine Vc.region ?_
                          refine vcL_pure rfl rfl (Value.int .i64 0) (fun w => by kernel_rfl) ?_
                          refine vcL_nil ?_
                          refine Vc.block ?_
                          obtain ⟨vI, mu, h, hr⟩ := h
                          refine Vc.loopJ (σ := Bool × Int) [22, 23] [132, 133, 134, 135, 136, 137, 138, 139, 140, 141, 142, 143, 144, 145, 146, 147, 148, 149] (fun s => [(22, (Value.bool s.1)), (23, (Value.int .i64 s.2))]) (fun s w => vI s.1 s.2 w) (fun s w => mu s.1 s.2 w) (false, 0) h (fun _ => rfl) (by kernel_rfl) ?_
                          rintro ⟨vin, vj⟩ vw58 j h
                          have h := hr vin vj vw58 h
                          refine Vc.seq ?_
                          refine Vc.seq ?_
                          refine Vc.region ?_
                          refine vcL_purs 4 [(135, (Value.bool (decide (vj < (t41.len : Int))))), (134, (Value.int .i64 (t41.len : Int))), (133, (Sl.v t41)), (132, (Value.int .i64 vj))] (by kernel_rfl) ?_
                          refine vcL_nil ?_
                          refine Vc.cond (decide (vj < (t41.len : Int))) (by kernel_rfl) (fun hb => ?_) (fun hb => ?_)
                          · have h := h.1 (of_decide_eq_true hb)
                            refine Vc.skip ?_
                            refine Vc.seq ?_
                            refine Vc.block ?_
                            obtain ⟨vw60, hvw60⟩ : ∃ y, y = vw58.drew := ⟨_, rfl⟩
                            have h := h vw60 hvw60
                            refine Vc.draw (by kernel_rfl) (fun i => !(memN [] i)) (.pur 0 (.pur 1 (.pur 2 (.pur 3 (.pur 4 (.val 5 (.pur 6 (.pur 7 (.pur 8 (.val 9 (.pur 10 (.pur 11 (.pur 12 .fin))))))))))))) (by kernel_rfl) ?_
                            rw [← hvw60]
                            clear hvw60
                            refine vcS_pure rfl rfl rfl (Value.bool vin) (fun w => by kernel_rfl) ?_
                            refine vcS_pure rfl rfl rfl (Value.bool vin) (fun w => by kernel_rfl) ?_
                            refine vcS_guard rfl (!vin) (wanted_g (d := 139) rfl (by kernel_rfl) vin (by kernel_rfl) (!vin) (eqF vin)) rfl (Sl.v t41) (fun hg w => by simp only [Bool.and_eq_true, Bool.not_eq_true'] at hg; obtain rfl := hg; kernel_rfl) ?_
                            refine vcS_guard rfl (!vin) (wanted_g (d := 139) rfl (by kernel_rfl) vin (by kernel_rfl) (!vin) (eqF vin)) rfl (Value.int .i64 vj) (fun hg w => by simp only [Bool.and_eq_true, Bool.not_eq_true'] at hg; obtain rfl := hg; kernel_rfl) ?_
                            obtain ⟨ad61, hi62, h⟩ := h
                            refine vcS_guard rfl (!vin) (wanted_g (d := 139) rfl (by kernel_rfl) vin (by kernel_rfl) (!vin) (eqF vin)) rfl (Value.pointer (some (ad61.add (vj.toNat * 4)))) (fun hg w => by simp only [Bool.and_eq_true, Bool.not_eq_true'] at hg; obtain rfl := hg; exact exec_indexAt (s := t41) (el := 32) rfl (by kernel_rfl) (by kernel_rfl) (by kernel_rfl) (fun w => by kernel_rfl) (hi62 rfl).1 (hi62 rfl).2.1 (hi62 rfl).2.2 w) ?_
                            obtain ⟨t143_Name, t143_Version_Major, t143_Version_Minor, t143_Version_Patch, hc63, h⟩ := h
                            refine vcS_valG rfl (!vin) (wanted_g (d := 139) rfl (by kernel_rfl) vin (by kernel_rfl) (!vin) (eqF vin)) rfl (Value.agg #[(Value.string t143_Name), (Value.int .i64 t143_Version_Major), (Value.int .i64 t143_Version_Minor), (Value.int .i64 t143_Version_Patch)]) (fun hg w' hx => by simp only [Bool.and_eq_true, Bool.not_eq_true'] at hg; obtain rfl := hg; exact exec_load rfl (by kernel_rfl) (run_loadN (fun w => by kernel_rfl) (fun w => by kernel_rfl) ((hc63 rfl).ext hx))) ?_
                            refine vcS_guard rfl (!vin) (wanted_g (d := 139) rfl (by kernel_rfl) vin (by kernel_rfl) (!vin) (eqF vin)) rfl (Sl.v t121) (fun hg w => by simp only [Bool.and_eq_true, Bool.not_eq_true'] at hg; obtain rfl := hg; kernel_rfl) ?_
                            refine vcS_guard rfl (!vin) (wanted_g (d := 139) rfl (by kernel_rfl) vin (by kernel_rfl) (!vin) (eqF vin)) rfl (Value.int .i64 vk) (fun hg w => by simp only [Bool.and_eq_true, Bool.not_eq_true'] at hg; obtain rfl := hg; kernel_rfl) ?_
                            obtain ⟨ad64, hi65, h⟩ := h
                            refine vcS_guard rfl (!vin) (wanted_g (d := 139) rfl (by kernel_rfl) vin (by kernel_rfl) (!vin) (eqF vin)) rfl (Value.pointer (some (ad64.add (vk.toNat * 4)))) (fun hg w => by simp only [Bool.and_eq_true, Bool.not_eq_true'] at hg; obtain rfl := hg; exact exec_indexAt (s := t121) (el := 32) rfl (by kernel_rfl) (by kernel_rfl) (by kernel_rfl) (fun w => by kernel_rfl) (hi65 rfl).1 (hi65 rfl).2.1 (hi65 rfl).2.2 w) ?_
                            obtain ⟨t147_Name, t147_Version_Major, t147_Version_Minor, t147_Version_Patch, hc66, h⟩ := h
                            refine vcS_valG rfl (!vin) (wanted_g (d := 139) rfl (by kernel_rfl) vin (by kernel_rfl) (!vin) (eqF vin)) rfl (Value.agg #[(Value.string t147_Name), (Value.int .i64 t147_Version_Major), (Value.int .i64 t147_Version_Minor), (Value.int .i64 t147_Version_Patch)]) (fun hg w' hx => by simp only [Bool.and_eq_true, Bool.not_eq_true'] at hg; obtain rfl := hg; exact exec_load rfl (by kernel_rfl) (run_loadN (fun w => by kernel_rfl) (fun w => by kernel_rfl) ((hc66 rfl).ext hx))) ?_
                            refine vcS_guard rfl (!vin) (wanted_g (d := 139) rfl (by kernel_rfl) vin (by kernel_rfl) (!vin) (eqF vin)) rfl (Value.bool ((bEq t143_Name t147_Name) && (((t143_Version_Major == t147_Version_Major) && ((t143_Version_Minor == t147_Version_Minor) && ((t143_Version_Patch == t147_Version_Patch) && true))) && true))) (fun hg w => by simp only [Bool.and_eq_true, Bool.not_eq_true'] at hg; obtain rfl := hg; exact exec_struct_eq rfl (by kernel_rfl) (by kernel_rfl) (by kernel_rfl) (eqv_32 9997 t143_Name t143_Version_Major t143_Version_Minor t143_Version_Patch t147_Name t147_Version_Major t147_Version_Minor t147_Version_Patch w)) ?_
                            refine vcS_pure rfl rfl rfl (Value.bool (vin || ((bEq t143_Name t147_Name) && (((t143_Version_Major == t147_Version_Major) && ((t143_Version_Minor == t147_Version_Minor) && ((t143_Version_Patch == t147_Version_Patch) && true))) && true)))) (fun w => by cases vin <;> kernel_rfl) ?_
                            refine vcS_pure rfl rfl rfl (Value.bool (vin || ((bEq t143_Name t147_Name) && (((t143_Version_Major == t147_Version_Major) && ((t143_Version_Minor == t147_Version_Minor) && ((t143_Version_Patch == t147_Version_Patch) && true))) && true)))) (fun w => by kernel_rfl) ?_
                            refine vcS_fin ?_
                            refine Vc.region ?_
                            refine vcL_purs 3 [(23, (Value.int .i64 (wrapI (vj + 1)))), (137, (Value.int .i64 (wrapI (vj + 1)))), (136, (Value.int .i64 vj))] (by kernel_rfl) ?_
                            refine vcL_nil ?_
                            exact ⟨((vin || ((bEq t143_Name t147_Name) && (((t143_Version_Major == t147_Version_Major) && ((t143_Version_Minor == t147_Version_Minor) && ((t143_Version_Patch == t147_Version_Patch) && true))) && true))), (wrapI (vj + 1))), 40, ⟨rfl, by kernel_rfl, by kernel_rfl, by kernel_rfl⟩, h⟩
                          · have h := h.2 (of_decide_eq_false hb)
                            refine Vc.exit ?_
                            refine outOf_hit ?_
                            refine Vc.seq ?_
                            refine Vc.region ?_
                            refine vcL_purs 2 [(151, (Value.bool (!vin))), (150, (Value.bool vin))] (by kernel_rfl) ?_
                            refine vcL_nil ?_
                            refine Vc.cond (!vin) (by kernel_rfl) (fun hb => ?_) (fun hb => ?_)
                            · have h := h.1 (hb)
                              refine Vc.seq ?_
                              refine Vc.region ?_
                              refine vcL_pure rfl rfl (Value.bool false) (fun w => by kernel_rfl) ?_
                              refine vcL_nil ?_
                              refine Vc.ret ?_
                              refine outOf_ret ?_
                              refine outOf_ret ?_
                              refine outOf_ret ?_
                              refine outOf_ret ?_
                              refine outs_ret ?_
                              refine done_mk (Value.bool false) (res1 (resC_tmp (by kernel_rfl))) ?_
                              exact ⟨false, rfl, h⟩
                            · have h := h.2 (hb)
                              refine Vc.skip ?_
                              refine Vc.region ?_
                              refine vcL_purs 3 [(21, (Value.int .i64 (wrapI (vk + 1)))), (131, (Value.int .i64 (wrapI (vk + 1)))), (130, (Value.int .i64 vk))] (by kernel_rfl) ?_
                              refine vcL_nil ?_
                              exact ⟨(wrapI (vk + 1)), 65, ⟨rfl, by kernel_rfl, by kernel_rfl, by kernel_rfl⟩, h⟩
                        · have h := h.2 (of_decide_eq_false hb)
                          refine Vc.exit ?_
                          refine outOf_hit ?_
                          refine Vc.region ?_
                          refine vcL_purs 3 [(18, (Value.int .i64 (wrapI (i + 1)))), (94, (Value.int .i64 (wrapI (i + 1)))), (93, (Value.int .i64 i))] (by kernel_rfl) ?_
                          refine vcL_nil ?_
                          exact ⟨(wrapI (i + 1)), 145, ⟨rfl, by kernel_rfl, by kernel_rfl, by kernel_rfl⟩, h⟩
                  · obtain ⟨t109, rfl, hq⟩ := hq
                    exact ⟨fun hb => absurd hb (by decide), t109, rfl, hq⟩
                · have h := h.2 (of_decide_eq_false hb)
                  refine Vc.exit ?_
                  refine outOf_hit ?_
                  refine Vc.seq ?_
                  refine Vc.region ?_
                  refine vcL_pure rfl rfl (Value.bool true) (fun w => by kernel_rfl) ?_
                  refine vcL_nil ?_
                  refine Vc.ret ?_
                  refine outs_ret ?_
                  refine done_mk (Value.bool true) (res1 (resC_tmp (by kernel_rfl))) ?_
                  exact ⟨true, rfl, h⟩
            · obtain ⟨t86, rfl, hq⟩ := hq
              exact ⟨t86, rfl, hq⟩
        · obtain ⟨t63, rfl, hq⟩ := hq
          exact ⟨t63, rfl, hq⟩
  · obtain ⟨t32, rfl, hq⟩ := hq
    exact ⟨t32, rfl, hq⟩
theorem halyardlaw09_WantsInside.go {w_Packs : Sl} {w_Manifest_Deps : Sl} {w_Manifest_Dev : Sl} {w_Manifest_Optional : Sl} {w_Manifest_Overrides : Sl} {env : Sl} {p_Name : ByteArray} {p_Version_Major : Int} {p_Version_Minor : Int} {p_Version_Patch : Int} {more : Sl} {w : World} {k : Value → World → Prop} (h : halyardlaw09_WantsInside w_Packs w_Manifest_Deps w_Manifest_Dev w_Manifest_Optional w_Manifest_Overrides env p_Name p_Version_Major p_Version_Minor p_Version_Patch more w fun r0 w' => k (Value.bool r0) w') : callS Tryz.prog 3 [(Value.agg #[(Sl.v w_Packs), (Sl.v w_Manifest_Deps), (Sl.v w_Manifest_Dev), (Sl.v w_Manifest_Optional), (Sl.v w_Manifest_Overrides)]), (Sl.v env), (Value.agg #[(Value.string p_Name), (Value.int .i64 p_Version_Major), (Value.int .i64 p_Version_Minor), (Value.int .i64 p_Version_Patch)]), (Sl.v more)] w k := (halyardlaw09_WantsInside.sound w_Packs w_Manifest_Deps w_Manifest_Dev w_Manifest_Optional w_Manifest_Overrides env p_Name p_Version_Major p_Version_Minor p_Version_Patch more w _ h).mono (by rintro _ _ ⟨r0, rfl, h⟩; exact h)

/-- (halyard/halyardlaw09.World).both -/
def halyardlaw09_World_both (w_Packs : Sl) (w_Manifest_Deps : Sl) (w_Manifest_Dev : Sl) (w_Manifest_Optional : Sl) (w_Manifest_Overrides : Sl) (w : World) (R : Option Addr → Option Addr → World → Prop) : Prop :=
  newS w [(Sl.v w_Packs), (Sl.v w_Manifest_Deps), (Sl.v w_Manifest_Dev), (Sl.v w_Manifest_Optional), (Sl.v w_Manifest_Overrides)] 27 fun a vw => callS Tryz.prog 16 [] vw fun v vw1 => ∃ (t7 : Option Addr), v = (Value.pointer t7) ∧ newS vw1 [(Sl.v Sl.nil)] 46 fun a2 vw3 => loop1 0 vw3 fun i vw4 nxt => ∃ (t12 : Sl), (ldc vw4 a [(Sl.v t12)]) ∧ bnd (decide (i < (t12.len : Int))) fun (b : Bool) => (((b && (!(Option.isNone t7))) = true → ∃ (t23 : Sl), (ldc vw4 a [(Sl.v t23)]) ∧ ∃ (ad : Addr), (t23.a = some ad ∧ (0 : Int) ≤ i ∧ i < (t23.len : Int)) ∧ ∃ (t26_Name : ByteArray) (t26_Version_Major : Int) (t26_Version_Minor : Int) (t26_Version_Patch : Int) (t26_Deps : Sl) (t26_Peers : Sl) (t26_Optional : Sl), (ldc vw4 (ad.add (i.toNat * 7)) [(Value.string t26_Name), (Value.int .i64 t26_Version_Major), (Value.int .i64 t26_Version_Minor), (Value.int .i64 t26_Version_Patch), (Sl.v t26_Deps), (Sl.v t26_Peers), (Sl.v t26_Optional)]) ∧ callS Tryz.prog 19 [(Value.pointer t7), (Value.agg #[(Value.string t26_Name), (Value.int .i64 t26_Version_Major), (Value.int .i64 t26_Version_Minor), (Value.int .i64 t26_Version_Patch), (Sl.v t26_Deps), (Sl.v t26_Peers), (Sl.v t26_Optional)])] vw4 fun v8 vw7 => ∃ (t27 : Int), v8 = (Value.int .i64 t27) ∧ ∃ (t30 : Sl), (ldc vw7 a [(Sl.v t30)]) ∧ ∃ (ad11 : Addr), (t30.a = some ad11 ∧ (0 : Int) ≤ i ∧ i < (t30.len : Int)) ∧ ∃ (t33_Name : ByteArray) (t33_Version_Major : Int) (t33_Version_Minor : Int) (t33_Version_Patch : Int) (t33_Deps : Sl) (t33_Peers : Sl) (t33_Optional : Sl), (ldc vw7 (ad11.add (i.toNat * 7)) [(Value.string t33_Name), (Value.int .i64 t33_Version_Major), (Value.int .i64 t33_Version_Minor), (Value.int .i64 t33_Version_Patch), (Sl.v t33_Deps), (Sl.v t33_Peers), (Sl.v t33_Optional)]) ∧ callS Tryz.prog 20 [(Value.pointer (some a2)), (Value.agg #[(Value.string t33_Name), (Value.int .i64 t33_Version_Major), (Value.int .i64 t33_Version_Minor), (Value.int .i64 t33_Version_Patch), (Sl.v t33_Deps), (Sl.v t33_Peers), (Sl.v t33_Optional)])] vw7 fun v15 vw14 => ∃ (t34 : Int), v15 = (Value.int .i64 t34) ∧ nxt (wrapI (i + 1)) vw14) ∧ ((b && (!(Option.isNone t7))) = false → R t7 (some a2) vw4))
set_option maxHeartbeats 8000000 in
theorem halyardlaw09_World_both.sound (w_Packs : Sl) (w_Manifest_Deps : Sl) (w_Manifest_Dev : Sl) (w_Manifest_Optional : Sl) (w_Manifest_Overrides : Sl) (w : World) (R : Option Addr → Option Addr → World → Prop) (h : halyardlaw09_World_both w_Packs w_Manifest_Deps w_Manifest_Dev w_Manifest_Optional w_Manifest_Overrides w R) : callS Tryz.prog 11 [(Value.agg #[(Sl.v w_Packs), (Sl.v w_Manifest_Deps), (Sl.v w_Manifest_Dev), (Sl.v w_Manifest_Optional), (Sl.v w_Manifest_Overrides)])] w (fun v w' => ∃ (r0 : Option Addr) (r1 : Option Addr), v = (Value.tuple #[(Value.pointer r0), (Value.pointer r1)]) ∧ R r0 r1 w') := by
  unfold halyardlaw09_World_both at h
  refine calls_of_vc 37 rfl Tryz.func11 rfl (by kernel_rfl) (by simp) ?_
  refine Vc.seq ?_
  refine Vc.region ?_
  refine vcL_eff rfl (opVC_new rfl (fun a => Value.pointer (some a)) (by kernel_rfl) (newS.mono h fun a vw hx h => ?_)) 
  refine vcL_purs 2 [(3, (Value.pointer none)), (2, (Value.pointer none))] (by kernel_rfl) ?_
  refine vcL_nil ?_
  refine Vc.seq ?_
  refine Vc.region ?_
  refine vcL_eff rfl (opVC_call rfl (by kernel_rfl) (callS.mono h fun v vw1 h => ?_)) 
  obtain ⟨t7, rfl, h⟩ := h
  refine vcL_pure rfl rfl (Value.pointer t7) (fun w => by kernel_rfl) ?_
  refine vcL_nil ?_
  refine Vc.seq ?_
  refine Vc.region ?_
  refine vcL_pure rfl rfl (Value.agg #[(Sl.v Sl.nil)]) (fun w => by kernel_rfl) ?_
  refine vcL_eff rfl (opVC_new rfl (fun a => Value.pointer (some a)) (by kernel_rfl) (newS.mono h fun a2 vw3 hx h => ?_)) 
  refine vcL_pure rfl rfl (Value.pointer (some a2)) (fun w => by kernel_rfl) ?_
  refine vcL_nil ?_
  refine Vc.seq ?_
  refine Vc.seq ?_
  refine Vc.region ?_
  refine vcL_pure rfl rfl (Value.int .i64 0) (fun w => by kernel_rfl) ?_
  refine vcL_nil ?_
  refine Vc.block ?_
  obtain ⟨vI, mu, h, hr⟩ := h
  refine Vc.loopJ (σ := Int) [6] [10, 11, 12, 13, 14, 15, 16, 17, 18, 19, 20, 21, 22, 23, 24, 25, 26, 27, 28, 29, 30, 31, 32, 33, 34] (fun s => [(6, (Value.int .i64 s))]) (fun s w => vI s w) (fun s w => mu s w) 0 h (fun _ => rfl) (by kernel_rfl) ?_
  intro i vw4 j h
  have h := hr i vw4 h
  refine Vc.seq ?_
  refine Vc.seq ?_
  refine Vc.region ?_
  refine vcL_purs 2 [(11, (Value.pointer (some a))), (10, (Value.int .i64 i))] (by kernel_rfl) ?_
  obtain ⟨t12, hc, h⟩ := h
  refine vcL_val rfl rfl (Sl.v t12) (exec_load rfl (by kernel_rfl) (run_load1 (fun w => by kernel_rfl) ((hc)))) ?_
  refine vcL_purs 2 [(14, (Value.bool (decide (i < (t12.len : Int))))), (13, (Value.int .i64 (t12.len : Int)))] (by kernel_rfl) ?_
  obtain ⟨b, hb⟩ : ∃ y, y = (decide (i < (t12.len : Int))) := ⟨_, rfl⟩
  have h := h b hb
  refine vcL_pure rfl rfl (Value.bool b) (fun w => by rw [hb]; kernel_rfl) ?_
  refine vcL_guardP b (wanted_g (d := 15) rfl (by kernel_rfl) b (by kernel_rfl) b (eqT b)) rfl (Value.pointer t7) (fun hg w => by subst hg; kernel_rfl) ?_
  refine vcL_guardP b (wanted_g (d := 15) rfl (by kernel_rfl) b (by kernel_rfl) b (eqT b)) rfl (Value.bool (!(Option.isNone t7))) (fun hg w => by subst hg; cases t7 <;> kernel_rfl) ?_
  refine vcL_pure rfl rfl (Value.bool (b && (!(Option.isNone t7)))) (fun w => by cases b <;> kernel_rfl) ?_
  refine vcL_nil ?_
  refine Vc.cond (b && (!(Option.isNone t7))) (by kernel_rfl) (fun hb => ?_) (fun hb => ?_)
  · have h := h.1 (hb)
    refine Vc.skip ?_
    refine Vc.seq ?_
    refine Vc.block ?_
    refine Vc.seq ?_
    refine Vc.region ?_
    refine vcL_purs 2 [(22, (Value.pointer (some a))), (21, (Value.pointer t7))] (by kernel_rfl) ?_
    obtain ⟨t23, hc5, h⟩ := h
    refine vcL_val rfl rfl (Sl.v t23) (exec_load rfl (by kernel_rfl) (run_load1 (fun w => by kernel_rfl) ((hc5)))) ?_
    refine vcL_pure rfl rfl (Value.int .i64 i) (fun w => by kernel_rfl) ?_
    obtain ⟨ad, hi, h⟩ := h
    refine vcL_pure rfl rfl (Value.pointer (some (ad.add (i.toNat * 7)))) (fun w => by exact exec_indexAt (s := t23) (el := 48) rfl (by kernel_rfl) (by kernel_rfl) (by kernel_rfl) (fun w => by kernel_rfl) (hi).1 (hi).2.1 (hi).2.2 w) ?_
    obtain ⟨t26_Name, t26_Version_Major, t26_Version_Minor, t26_Version_Patch, t26_Deps, t26_Peers, t26_Optional, hc6, h⟩ := h
    refine vcL_val rfl rfl (Value.agg #[(Value.string t26_Name), (Value.int .i64 t26_Version_Major), (Value.int .i64 t26_Version_Minor), (Value.int .i64 t26_Version_Patch), (Sl.v t26_Deps), (Sl.v t26_Peers), (Sl.v t26_Optional)]) (exec_load rfl (by kernel_rfl) (run_loadN (fun w => by kernel_rfl) (fun w => by kernel_rfl) ((hc6)))) ?_
    refine vcL_eff rfl (opVC_call rfl (by kernel_rfl) (callS.mono h fun v8 vw7 h => ?_)) 
    obtain ⟨t27, rfl, h⟩ := h
    refine vcL_nil ?_
    refine Vc.region ?_
    refine vcL_purs 2 [(29, (Value.pointer (some a))), (28, (Value.pointer (some a2)))] (by kernel_rfl) ?_
    obtain ⟨t30, hc10, h⟩ := h
    refine vcL_val rfl rfl (Sl.v t30) (exec_load rfl (by kernel_rfl) (run_load1 (fun w => by kernel_rfl) ((hc10)))) ?_
    refine vcL_pure rfl rfl (Value.int .i64 i) (fun w => by kernel_rfl) ?_
    obtain ⟨ad11, hi12, h⟩ := h
    refine vcL_pure rfl rfl (Value.pointer (some (ad11.add (i.toNat * 7)))) (fun w => by exact exec_indexAt (s := t30) (el := 48) rfl (by kernel_rfl) (by kernel_rfl) (by kernel_rfl) (fun w => by kernel_rfl) (hi12).1 (hi12).2.1 (hi12).2.2 w) ?_
    obtain ⟨t33_Name, t33_Version_Major, t33_Version_Minor, t33_Version_Patch, t33_Deps, t33_Peers, t33_Optional, hc13, h⟩ := h
    refine vcL_val rfl rfl (Value.agg #[(Value.string t33_Name), (Value.int .i64 t33_Version_Major), (Value.int .i64 t33_Version_Minor), (Value.int .i64 t33_Version_Patch), (Sl.v t33_Deps), (Sl.v t33_Peers), (Sl.v t33_Optional)]) (exec_load rfl (by kernel_rfl) (run_loadN (fun w => by kernel_rfl) (fun w => by kernel_rfl) ((hc13)))) ?_
    refine vcL_eff rfl (opVC_call rfl (by kernel_rfl) (callS.mono h fun v15 vw14 h => ?_)) 
    obtain ⟨t34, rfl, h⟩ := h
    refine vcL_nil ?_
    refine Vc.region ?_
    refine vcL_purs 3 [(6, (Value.int .i64 (wrapI (i + 1)))), (20, (Value.int .i64 (wrapI (i + 1)))), (19, (Value.int .i64 i))] (by kernel_rfl) ?_
    refine vcL_nil ?_
    exact ⟨(wrapI (i + 1)), 52, ⟨rfl, by kernel_rfl, by kernel_rfl, by kernel_rfl⟩, h⟩
  · have h := h.2 (hb)
    refine Vc.exit ?_
    refine outOf_hit ?_
    refine Vc.seq ?_
    refine Vc.region ?_
    refine vcL_purs 4 [(3, (Value.pointer (some a2))), (2, (Value.pointer t7)), (36, (Value.pointer (some a2))), (35, (Value.pointer t7))] (by kernel_rfl) ?_
    refine vcL_nil ?_
    refine Vc.ret ?_
    refine outs_ret ?_
    refine done_mk (Value.tuple #[(Value.pointer t7), (Value.pointer (some a2))]) (res2 (resC_tmp (by kernel_rfl)) (resC_tmp (by kernel_rfl))) ?_
    exact ⟨t7, (some a2), rfl, h⟩
theorem halyardlaw09_World_both.go {w_Packs : Sl} {w_Manifest_Deps : Sl} {w_Manifest_Dev : Sl} {w_Manifest_Optional : Sl} {w_Manifest_Overrides : Sl} {w : World} {k : Value → World → Prop} (h : halyardlaw09_World_both w_Packs w_Manifest_Deps w_Manifest_Dev w_Manifest_Optional w_Manifest_Overrides w fun r0 r1 w' => k (Value.tuple #[(Value.pointer r0), (Value.pointer r1)]) w') : callS Tryz.prog 11 [(Value.agg #[(Sl.v w_Packs), (Sl.v w_Manifest_Deps), (Sl.v w_Manifest_Dev), (Sl.v w_Manifest_Optional), (Sl.v w_Manifest_Overrides)])] w k := (halyardlaw09_World_both.sound w_Packs w_Manifest_Deps w_Manifest_Dev w_Manifest_Optional w_Manifest_Overrides w _ h).mono (by rintro _ _ ⟨r0, r1, rfl, h⟩; exact h)

/-- halyard/halyardlaw09.known -/
def halyardlaw09_known (w : World) (R : Bool → World → Prop) : Prop :=
  newS w [(Value.int .i64 0), (Value.int .i64 0), (Value.int .i64 0)] 30 fun a vw => stw vw a [(Value.int .i64 1), (Value.int .i64 0), (Value.int .i64 0)] fun vw1 => callS Tryz.prog 16 [] vw1 fun v vw2 => ∃ (t10 : Option Addr), v = (Value.pointer t10) ∧ ((t10 = none → R false vw2) ∧ (¬ (t10 = none) → bnd vw2.drew fun (vw3 : World) => ∃ (t14_Major : Int) (t14_Minor : Int) (t14_Patch : Int), (ldc vw3 a [(Value.int .i64 t14_Major), (Value.int .i64 t14_Minor), (Value.int .i64 t14_Patch)]) ∧ callX Tryz.prog 49 [] vw3 fun v5 vw4 => ∃ (t15 : Sl), v5 = (Sl.v t15) ∧ newS vw4 [(Value.string (ByteArray.mk #[113])), (Sl.v t15)] 81 fun a7 vw8 => callS Tryz.prog 19 [(Value.pointer t10), (Value.agg #[(Value.string (ByteArray.mk #[112])), (Value.int .i64 t14_Major), (Value.int .i64 t14_Minor), (Value.int .i64 t14_Patch), (Sl.v Sl.nil), (Sl.v (Sl.mk (some a7) 1 1)), (Sl.v Sl.nil)])] vw8 fun v10 vw9 => ∃ (t19 : Int), v10 = (Value.int .i64 t19) ∧ ∃ (t21_Major : Int) (t21_Minor : Int) (t21_Patch : Int), (ldc vw9 a [(Value.int .i64 t21_Major), (Value.int .i64 t21_Minor), (Value.int .i64 t21_Patch)]) ∧ callS Tryz.prog 19 [(Value.pointer t10), (Value.agg #[(Value.string (ByteArray.mk #[113])), (Value.int .i64 t21_Major), (Value.int .i64 t21_Minor), (Value.int .i64 t21_Patch), (Sl.v Sl.nil), (Sl.v Sl.nil), (Sl.v Sl.nil)])] vw9 fun v14 vw13 => ∃ (t23 : Int), v14 = (Value.int .i64 t23) ∧ ∃ (t24_Major : Int) (t24_Minor : Int) (t24_Patch : Int), (ldc vw13 a [(Value.int .i64 t24_Major), (Value.int .i64 t24_Minor), (Value.int .i64 t24_Patch)]) ∧ newS vw13 [(Value.string (ByteArray.mk #[])), (Value.int .i64 0), (Value.int .i64 0), (Value.int .i64 0)] 32 fun a17 vw18 => stw vw18 a17 [(Value.string (ByteArray.mk #[112])), (Value.int .i64 t24_Major), (Value.int .i64 t24_Minor), (Value.int .i64 t24_Patch)] fun vw19 => ∃ (t26_Major : Int) (t26_Minor : Int) (t26_Patch : Int), (ldc vw19 a [(Value.int .i64 t26_Major), (Value.int .i64 t26_Minor), (Value.int .i64 t26_Patch)]) ∧ newS vw19 [(Value.string (ByteArray.mk #[])), (Value.int .i64 0), (Value.int .i64 0), (Value.int .i64 0)] 32 fun a21 vw22 => stw vw22 a21 [(Value.string (ByteArray.mk #[113])), (Value.int .i64 t26_Major), (Value.int .i64 t26_Minor), (Value.int .i64 t26_Patch)] fun vw23 => ∃ (t31_Name : ByteArray) (t31_Version_Major : Int) (t31_Version_Minor : Int) (t31_Version_Patch : Int), (ldc vw23 a21 [(Value.string t31_Name), (Value.int .i64 t31_Version_Major), (Value.int .i64 t31_Version_Minor), (Value.int .i64 t31_Version_Patch)]) ∧ newS vw23 [(Value.string t31_Name), (Value.int .i64 t31_Version_Major), (Value.int .i64 t31_Version_Minor), (Value.int .i64 t31_Version_Patch)] 32 fun a25 vw26 => ∃ (t33_Name : ByteArray) (t33_Version_Major : Int) (t33_Version_Minor : Int) (t33_Version_Patch : Int), (ldc vw26 a17 [(Value.string t33_Name), (Value.int .i64 t33_Version_Major), (Value.int .i64 t33_Version_Minor), (Value.int .i64 t33_Version_Patch)]) ∧ callS Tryz.prog 13 [(Value.pointer t10), (Value.agg #[(Sl.v Sl.nil), (Sl.v Sl.nil), (Sl.v Sl.nil), (Sl.v Sl.nil)]), (Sl.v (Sl.mk (some a25) 1 1)), (Value.agg #[(Value.string t33_Name), (Value.int .i64 t33_Version_Major), (Value.int .i64 t33_Version_Minor), (Value.int .i64 t33_Version_Patch)])] vw26 fun v29 vw28 => ∃ (t34 : Sl) (t34b : Bool), v29 = (Value.tuple #[(Sl.v t34), (Value.bool t34b)]) ∧ ∃ (t40_Name : ByteArray) (t40_Version_Major : Int) (t40_Version_Minor : Int) (t40_Version_Patch : Int), (ldc vw28 a17 [(Value.string t40_Name), (Value.int .i64 t40_Version_Major), (Value.int .i64 t40_Version_Minor), (Value.int .i64 t40_Version_Patch)]) ∧ callS Tryz.prog 13 [(Value.pointer t10), (Value.agg #[(Sl.v Sl.nil), (Sl.v Sl.nil), (Sl.v Sl.nil), (Sl.v Sl.nil)]), (Sl.v Sl.nil), (Value.agg #[(Value.string t40_Name), (Value.int .i64 t40_Version_Major), (Value.int .i64 t40_Version_Minor), (Value.int .i64 t40_Version_Patch)])] vw28 fun v33 vw32 => ∃ (t41 : Sl) (t41b : Bool), v33 = (Value.tuple #[(Sl.v t41), (Value.bool t41b)]) ∧ bnd vw32.drew fun (vw35 : World) => bnd (t34b && ((t34.len : Int) == 1)) fun (b : Bool) => ∃ (ad : Addr), grd b (t34.a = some ad ∧ (0 : Int) ≤ 0 ∧ 0 < (t34.len : Int)) ∧ ∃ (t53_Name : ByteArray) (t53_Version_Major : Int) (t53_Version_Minor : Int) (t53_Version_Patch : Int), grd b (ldc vw35 (ad.add ((0 : Int).toNat * 4)) [(Value.string t53_Name), (Value.int .i64 t53_Version_Major), (Value.int .i64 t53_Version_Minor), (Value.int .i64 t53_Version_Patch)]) ∧ ∃ (t54_Name : ByteArray) (t54_Version_Major : Int) (t54_Version_Minor : Int) (t54_Version_Patch : Int), grd b (ldc vw35 a21 [(Value.string t54_Name), (Value.int .i64 t54_Version_Major), (Value.int .i64 t54_Version_Minor), (Value.int .i64 t54_Version_Patch)]) ∧ bnd (b && ((bEq t53_Name t54_Name) && (((t53_Version_Major == t54_Version_Major) && ((t53_Version_Minor == t54_Version_Minor) && ((t53_Version_Patch == t54_Version_Patch) && true))) && true))) fun (b38 : Bool) => bnd (b38 && (!t41b)) fun (b39 : Bool) => R (b39 && ((t41.len : Int) == 0)) vw35))
set_option maxHeartbeats 8000000 in
theorem halyardlaw09_known.sound (w : World) (R : Bool → World → Prop) (h : halyardlaw09_known w R) : callS Tryz.prog 12 [] w (fun v w' => ∃ (r0 : Bool), v = (Value.bool r0) ∧ R r0 w') := by
  unfold halyardlaw09_known at h
  refine calls_of_vc 66 rfl Tryz.func12 rfl (by kernel_rfl) (by simp) ?_
  refine Vc.seq ?_
  refine Vc.region ?_
  refine vcL_pure rfl rfl (Value.bool false) (fun w => by kernel_rfl) ?_
  refine vcL_nil ?_
  refine Vc.seq ?_
  refine Vc.region ?_
  refine vcL_pure rfl rfl (Value.agg #[(Value.int .i64 1), (Value.int .i64 0), (Value.int .i64 0)]) (fun w => by kernel_rfl) ?_
  refine vcL_eff rfl (opVC_new rfl (fun a => Value.pointer (some a)) (by kernel_rfl) (newS.mono h fun a vw hx h => ?_)) 
  refine vcL_eff rfl (opVC_store rfl rfl (a := a) (by kernel_rfl) (v := (Value.agg #[(Value.int .i64 1), (Value.int .i64 0), (Value.int .i64 0)])) (by kernel_rfl) [(Value.int .i64 1), (Value.int .i64 0), (Value.int .i64 0)] (by kernel_rfl) (fun w => by kernel_rfl) (by kernel_rfl) (stw.mono h fun vw1 h => ?_)) 
  refine vcL_nil ?_
  refine Vc.seq ?_
  refine Vc.region ?_
  refine vcL_eff rfl (opVC_call rfl (by kernel_rfl) (callS.mono h fun v vw2 h => ?_)) 
  obtain ⟨t10, rfl, h⟩ := h
  refine vcL_pure rfl rfl (Value.pointer t10) (fun w => by kernel_rfl) ?_
  refine vcL_nil ?_
  refine Vc.seq ?_
  refine Vc.seq ?_
  refine Vc.region ?_
  refine vcL_pure rfl rfl (Value.pointer t10) (fun w => by kernel_rfl) ?_
  refine vcL_pure rfl rfl (Value.bool (Option.isNone t10)) (fun w => by cases t10 <;> kernel_rfl) ?_
  refine vcL_nil ?_
  refine Vc.cond (Option.isNone t10) (by kernel_rfl) (fun hb => ?_) (fun hb => ?_)
  · have h := h.1 (Option.isNone_iff_eq_none.1 hb)
    refine Vc.seq ?_
    refine Vc.region ?_
    refine vcL_pure rfl rfl (Value.bool false) (fun w => by kernel_rfl) ?_
    refine vcL_nil ?_
    refine Vc.ret ?_
    refine outs_ret ?_
    refine done_mk (Value.bool false) (res1 (resC_tmp (by kernel_rfl))) ?_
    exact ⟨false, rfl, h⟩
  · have h := h.2 (isNone_false hb)
    refine Vc.skip ?_
    refine Vc.seq ?_
    obtain ⟨vw3, hvw3⟩ : ∃ y, y = vw2.drew := ⟨_, rfl⟩
    have h := h vw3 hvw3
    refine Vc.draw (by kernel_rfl) (fun i => !(memN [6] i)) (.pur 0 (.val 1 (.eff 2 (.pur 3 (.eff 4 (.pur 5 (.eff 6 .fin .stop)) .stop)) .stop))) (by kernel_rfl) ?_
    rw [← hvw3]
    clear hvw3
    refine vcS_pure rfl rfl rfl (Value.pointer t10) (fun w => by kernel_rfl) ?_
    obtain ⟨t14_Major, t14_Minor, t14_Patch, hc, h⟩ := h
    refine vcS_val rfl rfl rfl (Value.agg #[(Value.int .i64 t14_Major), (Value.int .i64 t14_Minor), (Value.int .i64 t14_Patch)]) (fun w' hx => exec_load rfl (by kernel_rfl) (run_loadN (fun w => by kernel_rfl) (fun w => by kernel_rfl) ((hc).ext hx))) ?_
    refine vcS_eff rfl rfl (opVC_call rfl (by kernel_rfl) (callS.mono h fun v5 vw4 h => ?_)) vcS_stop
    obtain ⟨hx6, h⟩ := h
    obtain ⟨t15, rfl, h⟩ := h
    refine ⟨fun _ => hx6, ?_⟩
    refine vcS_pure rfl rfl rfl (Value.agg #[(Value.string (ByteArray.mk #[113])), (Sl.v t15)]) (fun w => by kernel_rfl) ?_
    refine vcS_eff rfl rfl (opVC_new rfl (fun a => Value.slice (some a) 1 1) (by kernel_rfl) (newS.mono h fun a7 vw8 hx h => ?_)) vcS_stop
    refine ⟨fun _ => hx, ?_⟩
    refine vcS_pure rfl rfl rfl (Value.agg #[(Value.string (ByteArray.mk #[112])), (Value.int .i64 t14_Major), (Value.int .i64 t14_Minor), (Value.int .i64 t14_Patch), (Sl.v Sl.nil), (Sl.v (Sl.mk (some a7) 1 1)), (Sl.v Sl.nil)]) (fun w => by kernel_rfl) ?_
    refine vcS_eff rfl rfl (opVC_call rfl (by kernel_rfl) (callS.mono h fun v10 vw9 h => ?_)) vcS_stop
    obtain ⟨t19, rfl, h⟩ := h
    refine ⟨fun hb => absurd hb (by decide), ?_⟩
    refine vcS_fin ?_
    refine Vc.seq ?_
    refine Vc.region ?_
    refine vcL_pure rfl rfl (Value.pointer t10) (fun w => by kernel_rfl) ?_
    obtain ⟨t21_Major, t21_Minor, t21_Patch, hc12, h⟩ := h
    refine vcL_val rfl rfl (Value.agg #[(Value.int .i64 t21_Major), (Value.int .i64 t21_Minor), (Value.int .i64 t21_Patch)]) (exec_load rfl (by kernel_rfl) (run_loadN (fun w => by kernel_rfl) (fun w => by kernel_rfl) ((hc12)))) ?_
    refine vcL_pure rfl rfl (Value.agg #[(Value.string (ByteArray.mk #[113])), (Value.int .i64 t21_Major), (Value.int .i64 t21_Minor), (Value.int .i64 t21_Patch), (Sl.v Sl.nil), (Sl.v Sl.nil), (Sl.v Sl.nil)]) (fun w => by kernel_rfl) ?_
    refine vcL_eff rfl (opVC_call rfl (by kernel_rfl) (callS.mono h fun v14 vw13 h => ?_)) 
    obtain ⟨t23, rfl, h⟩ := h
    refine vcL_nil ?_
    refine Vc.seq ?_
    refine Vc.region ?_
    obtain ⟨t24_Major, t24_Minor, t24_Patch, hc16, h⟩ := h
    refine vcL_val rfl rfl (Value.agg #[(Value.int .i64 t24_Major), (Value.int .i64 t24_Minor), (Value.int .i64 t24_Patch)]) (exec_load rfl (by kernel_rfl) (run_loadN (fun w => by kernel_rfl) (fun w => by kernel_rfl) ((hc16)))) ?_
    refine vcL_pure rfl rfl (Value.agg #[(Value.string (ByteArray.mk #[112])), (Value.int .i64 t24_Major), (Value.int .i64 t24_Minor), (Value.int .i64 t24_Patch)]) (fun w => by kernel_rfl) ?_
    refine vcL_eff rfl (opVC_new rfl (fun a => Value.pointer (some a)) (by kernel_rfl) (newS.mono h fun a17 vw18 hx h => ?_)) 
    refine vcL_eff rfl (opVC_store rfl rfl (a := a17) (by kernel_rfl) (v := (Value.agg #[(Value.string (ByteArray.mk #[112])), (Value.int .i64 t24_Major), (Value.int .i64 t24_Minor), (Value.int .i64 t24_Patch)])) (by kernel_rfl) [(Value.string (ByteArray.mk #[112])), (Value.int .i64 t24_Major), (Value.int .i64 t24_Minor), (Value.int .i64 t24_Patch)] (by kernel_rfl) (fun w => by kernel_rfl) (by kernel_rfl) (stw.mono h fun vw19 h => ?_)) 
    refine vcL_nil ?_
    refine Vc.seq ?_
    refine Vc.region ?_
    obtain ⟨t26_Major, t26_Minor, t26_Patch, hc20, h⟩ := h
    refine vcL_val rfl rfl (Value.agg #[(Value.int .i64 t26_Major), (Value.int .i64 t26_Minor), (Value.int .i64 t26_Patch)]) (exec_load rfl (by kernel_rfl) (run_loadN (fun w => by kernel_rfl) (fun w => by kernel_rfl) ((hc20)))) ?_
    refine vcL_pure rfl rfl (Value.agg #[(Value.string (ByteArray.mk #[113])), (Value.int .i64 t26_Major), (Value.int .i64 t26_Minor), (Value.int .i64 t26_Patch)]) (fun w => by kernel_rfl) ?_
    refine vcL_eff rfl (opVC_new rfl (fun a => Value.pointer (some a)) (by kernel_rfl) (newS.mono h fun a21 vw22 hx h => ?_)) 
    refine vcL_eff rfl (opVC_store rfl rfl (a := a21) (by kernel_rfl) (v := (Value.agg #[(Value.string (ByteArray.mk #[113])), (Value.int .i64 t26_Major), (Value.int .i64 t26_Minor), (Value.int .i64 t26_Patch)])) (by kernel_rfl) [(Value.string (ByteArray.mk #[113])), (Value.int .i64 t26_Major), (Value.int .i64 t26_Minor), (Value.int .i64 t26_Patch)] (by kernel_rfl) (fun w => by kernel_rfl) (by kernel_rfl) (stw.mono h fun vw23 h => ?_)) 
    refine vcL_nil ?_
    refine Vc.seq ?_
    refine Vc.region ?_
    refine vcL_purs 2 [(30, (Value.agg #[(Sl.v Sl.nil), (Sl.v Sl.nil), (Sl.v Sl.nil), (Sl.v Sl.nil)])), (29, (Value.pointer t10))] (by kernel_rfl) ?_
    obtain ⟨t31_Name, t31_Version_Major, t31_Version_Minor, t31_Version_Patch, hc24, h⟩ := h
    refine vcL_val rfl rfl (Value.agg #[(Value.string t31_Name), (Value.int .i64 t31_Version_Major), (Value.int .i64 t31_Version_Minor), (Value.int .i64 t31_Version_Patch)]) (exec_load rfl (by kernel_rfl) (run_loadN (fun w => by kernel_rfl) (fun w => by kernel_rfl) ((hc24)))) ?_
    refine vcL_eff rfl (opVC_new rfl (fun a => Value.slice (some a) 1 1) (by kernel_rfl) (newS.mono h fun a25 vw26 hx h => ?_)) 
    obtain ⟨t33_Name, t33_Version_Major, t33_Version_Minor, t33_Version_Patch, hc27, h⟩ := h
    refine vcL_val rfl rfl (Value.agg #[(Value.string t33_Name), (Value.int .i64 t33_Version_Major), (Value.int .i64 t33_Version_Minor), (Value.int .i64 t33_Version_Patch)]) (exec_load rfl (by kernel_rfl) (run_loadN (fun w => by kernel_rfl) (fun w => by kernel_rfl) ((hc27)))) ?_
    refine vcL_eff rfl (opVC_call rfl (by kernel_rfl) (callS.mono h fun v29 vw28 h => ?_)) 
    obtain ⟨t34, t34b, rfl, h⟩ := h
    refine vcL_purs 5 [(6, (Value.bool t34b)), (5, (Sl.v t34)), (36, (Value.bool t34b)), (35, (Sl.v t34)), (28, (Value.tuple #[(Sl.v t34), (Value.bool t34b)]))] (by kernel_rfl) ?_
    refine vcL_nil ?_
    refine Vc.seq ?_
    refine Vc.region ?_
    refine vcL_purs 2 [(39, (Value.agg #[(Sl.v Sl.nil), (Sl.v Sl.nil), (Sl.v Sl.nil), (Sl.v Sl.nil)])), (38, (Value.pointer t10))] (by kernel_rfl) ?_
    obtain ⟨t40_Name, t40_Version_Major, t40_Version_Minor, t40_Version_Patch, hc31, h⟩ := h
    refine vcL_val rfl rfl (Value.agg #[(Value.string t40_Name), (Value.int .i64 t40_Version_Major), (Value.int .i64 t40_Version_Minor), (Value.int .i64 t40_Version_Patch)]) (exec_load rfl (by kernel_rfl) (run_loadN (fun w => by kernel_rfl) (fun w => by kernel_rfl) ((hc31)))) ?_
    refine vcL_eff rfl (opVC_call rfl (by kernel_rfl) (callS.mono h fun v33 vw32 h => ?_)) 
    obtain ⟨t41, t41b, rfl, h⟩ := h
    refine vcL_purs 5 [(8, (Value.bool t41b)), (7, (Sl.v t41)), (43, (Value.bool t41b)), (42, (Sl.v t41)), (37, (Value.tuple #[(Sl.v t41), (Value.bool t41b)]))] (by kernel_rfl) ?_
    refine vcL_nil ?_
    refine Vc.seq ?_
    obtain ⟨vw35, hvw35⟩ : ∃ y, y = vw32.drew := ⟨_, rfl⟩
    have h := h vw35 hvw35
    refine Vc.draw (by kernel_rfl) (fun i => !(memN [] i)) (.pur 0 (.pur 1 (.pur 2 (.pur 3 (.pur 4 (.pur 5 (.pur 6 (.pur 7 (.pur 8 (.val 9 (.val 10 (.pur 11 (.pur 12 (.pur 13 (.pur 14 (.pur 15 (.pur 16 (.pur 17 (.pur 18 (.pur 19 (.pur 20 (.pur 21 (.pur 22 .fin))))))))))))))))))))))) (by kernel_rfl) ?_
    rw [← hvw35]
    clear hvw35
    refine vcS_pure rfl rfl rfl (Value.bool t34b) (fun w => by kernel_rfl) ?_
    refine vcS_pure rfl rfl rfl (Value.bool t34b) (fun w => by kernel_rfl) ?_
    refine vcS_guard rfl t34b (wanted_g (d := 45) rfl (by kernel_rfl) t34b (by kernel_rfl) t34b (eqT t34b)) rfl (Sl.v t34) (fun hg w => by subst hg; kernel_rfl) ?_
    refine vcS_guard rfl t34b (wanted_g (d := 45) rfl (by kernel_rfl) t34b (by kernel_rfl) t34b (eqT t34b)) rfl (Value.int .i64 (t34.len : Int)) (fun hg w => by subst hg; kernel_rfl) ?_
    refine vcS_guard rfl t34b (wanted_g (d := 45) rfl (by kernel_rfl) t34b (by kernel_rfl) t34b (eqT t34b)) rfl (Value.bool ((t34.len : Int) == 1)) (fun hg w => by subst hg; kernel_rfl) ?_
    refine vcS_pure rfl rfl rfl (Value.bool (t34b && ((t34.len : Int) == 1))) (fun w => by cases t34b <;> kernel_rfl) ?_
    obtain ⟨b, hb⟩ : ∃ y, y = (t34b && ((t34.len : Int) == 1)) := ⟨_, rfl⟩
    have h := h b hb
    refine vcS_pure rfl rfl rfl (Value.bool b) (fun w => by rw [hb]; kernel_rfl) ?_
    refine vcS_guard rfl b (wanted_g (d := 50) rfl (by kernel_rfl) b (by kernel_rfl) b (eqT b)) rfl (Sl.v t34) (fun hg w => by subst hg; kernel_rfl) ?_
    obtain ⟨ad, hi, h⟩ := h
    refine vcS_guard rfl b (wanted_g (d := 50) rfl (by kernel_rfl) b (by kernel_rfl) b (eqT b)) rfl (Value.pointer (some (ad.add ((0 : Int).toNat * 4)))) (fun hg w => by subst hg; exact exec_indexAt (s := t34) (el := 32) rfl (by kernel_rfl) (by kernel_rfl) (by kernel_rfl) (fun w => by kernel_rfl) (hi rfl).1 (hi rfl).2.1 (hi rfl).2.2 w) ?_
    obtain ⟨t53_Name, t53_Version_Major, t53_Version_Minor, t53_Version_Patch, hc36, h⟩ := h
    refine vcS_valG rfl b (wanted_g (d := 50) rfl (by kernel_rfl) b (by kernel_rfl) b (eqT b)) rfl (Value.agg #[(Value.string t53_Name), (Value.int .i64 t53_Version_Major), (Value.int .i64 t53_Version_Minor), (Value.int .i64 t53_Version_Patch)]) (fun hg w' hx => by subst hg; exact exec_load rfl (by kernel_rfl) (run_loadN (fun w => by kernel_rfl) (fun w => by kernel_rfl) ((hc36 rfl).ext hx))) ?_
    obtain ⟨t54_Name, t54_Version_Major, t54_Version_Minor, t54_Version_Patch, hc37, h⟩ := h
    refine vcS_valG rfl b (wanted_g (d := 50) rfl (by kernel_rfl) b (by kernel_rfl) b (eqT b)) rfl (Value.agg #[(Value.string t54_Name), (Value.int .i64 t54_Version_Major), (Value.int .i64 t54_Version_Minor), (Value.int .i64 t54_Version_Patch)]) (fun hg w' hx => by subst hg; exact exec_load rfl (by kernel_rfl) (run_loadN (fun w => by kernel_rfl) (fun w => by kernel_rfl) ((hc37 rfl).ext hx))) ?_
    refine vcS_guard rfl b (wanted_g (d := 50) rfl (by kernel_rfl) b (by kernel_rfl) b (eqT b)) rfl (Value.bool ((bEq t53_Name t54_Name) && (((t53_Version_Major == t54_Version_Major) && ((t53_Version_Minor == t54_Version_Minor) && ((t53_Version_Patch == t54_Version_Patch) && true))) && true))) (fun hg w => by subst hg; exact exec_struct_eq rfl (by kernel_rfl) (by kernel_rfl) (by kernel_rfl) (eqv_32 9997 t53_Name t53_Version_Major t53_Version_Minor t53_Version_Patch t54_Name t54_Version_Major t54_Version_Minor t54_Version_Patch w)) ?_
    refine vcS_pure rfl rfl rfl (Value.bool (b && ((bEq t53_Name t54_Name) && (((t53_Version_Major == t54_Version_Major) && ((t53_Version_Minor == t54_Version_Minor) && ((t53_Version_Patch == t54_Version_Patch) && true))) && true)))) (fun w => by cases b <;> kernel_rfl) ?_
    obtain ⟨b38, hb38⟩ : ∃ y, y = (b && ((bEq t53_Name t54_Name) && (((t53_Version_Major == t54_Version_Major) && ((t53_Version_Minor == t54_Version_Minor) && ((t53_Version_Patch == t54_Version_Patch) && true))) && true))) := ⟨_, rfl⟩
    have h := h b38 hb38
    refine vcS_pure rfl rfl rfl (Value.bool b38) (fun w => by rw [hb38]; kernel_rfl) ?_
    refine vcS_guard rfl b38 (wanted_g (d := 57) rfl (by kernel_rfl) b38 (by kernel_rfl) b38 (eqT b38)) rfl (Value.bool t41b) (fun hg w => by subst hg; kernel_rfl) ?_
    refine vcS_guard rfl b38 (wanted_g (d := 57) rfl (by kernel_rfl) b38 (by kernel_rfl) b38 (eqT b38)) rfl (Value.bool (!t41b)) (fun hg w => by subst hg; kernel_rfl) ?_
    refine vcS_pure rfl rfl rfl (Value.bool (b38 && (!t41b))) (fun w => by cases b38 <;> kernel_rfl) ?_
    obtain ⟨b39, hb39⟩ : ∃ y, y = (b38 && (!t41b)) := ⟨_, rfl⟩
    have h := h b39 hb39
    refine vcS_pure rfl rfl rfl (Value.bool b39) (fun w => by rw [hb39]; kernel_rfl) ?_
    refine vcS_guard rfl b39 (wanted_g (d := 61) rfl (by kernel_rfl) b39 (by kernel_rfl) b39 (eqT b39)) rfl (Sl.v t41) (fun hg w => by subst hg; kernel_rfl) ?_
    refine vcS_guard rfl b39 (wanted_g (d := 61) rfl (by kernel_rfl) b39 (by kernel_rfl) b39 (eqT b39)) rfl (Value.int .i64 (t41.len : Int)) (fun hg w => by subst hg; kernel_rfl) ?_
    refine vcS_guard rfl b39 (wanted_g (d := 61) rfl (by kernel_rfl) b39 (by kernel_rfl) b39 (eqT b39)) rfl (Value.bool ((t41.len : Int) == 0)) (fun hg w => by subst hg; kernel_rfl) ?_
    refine vcS_pure rfl rfl rfl (Value.bool (b39 && ((t41.len : Int) == 0))) (fun w => by cases b39 <;> kernel_rfl) ?_
    refine vcS_pure rfl rfl rfl (Value.bool (b39 && ((t41.len : Int) == 0))) (fun w => by kernel_rfl) ?_
    refine vcS_fin ?_
    refine Vc.ret ?_
    refine outs_ret ?_
    refine done_mk (Value.bool (b39 && ((t41.len : Int) == 0))) (res1 (resC_tmp (by kernel_rfl))) ?_
    exact ⟨(b39 && ((t41.len : Int) == 0)), rfl, h⟩
theorem halyardlaw09_known.go {w : World} {k : Value → World → Prop} (h : halyardlaw09_known w fun r0 w' => k (Value.bool r0) w') : callS Tryz.prog 12 [] w k := (halyardlaw09_known.sound w _ h).mono (by rintro _ _ ⟨r0, rfl, h⟩; exact h)

/-- halyard/wants.Context -/
def wants_Context (c : Option Addr) (m_Deps : Sl) (m_Dev : Sl) (m_Optional : Sl) (m_Overrides : Sl) (env : Sl) (p_Name : ByteArray) (p_Version_Major : Int) (p_Version_Minor : Int) (p_Version_Patch : Int) (w : World) (R : Sl → Bool → World → Prop) : Prop :=
  newS w [(Sl.v m_Deps), (Sl.v m_Dev), (Sl.v m_Optional), (Sl.v m_Overrides)] 25 fun a vw => newS vw [(Value.string p_Name), (Value.int .i64 p_Version_Major), (Value.int .i64 p_Version_Minor), (Value.int .i64 p_Version_Patch)] 32 fun a1 vw2 => ((c = none → R Sl.nil false vw2) ∧ (¬ (c = none) → ∃ (t21_Name : ByteArray) (t21_Version_Major : Int) (t21_Version_Minor : Int) (t21_Version_Patch : Int), (ldc vw2 a1 [(Value.string t21_Name), (Value.int .i64 t21_Version_Major), (Value.int .i64 t21_Version_Minor), (Value.int .i64 t21_Version_Patch)]) ∧ newS vw2 [(Value.string t21_Name), (Value.int .i64 t21_Version_Major), (Value.int .i64 t21_Version_Minor), (Value.int .i64 t21_Version_Patch)] 32 fun a3 vw4 => loop3 (Sl.mk (some a3) 1 1) Sl.nil 0 vw4 fun all context i vw5 nxt => ((i < (all.len : Int) → join (fun (x : Addr) (there : Bool) (vw6 : World) => (((!there) = true → R Sl.nil false vw6) ∧ ((!there) = false → ∃ (t46_Name : ByteArray) (t46_Version_Major : Int) (t46_Version_Minor : Int) (t46_Version_Patch : Int) (t46_Deps : Sl) (t46_Peers : Sl) (t46_Optional : Sl), (ldc vw6 x [(Value.string t46_Name), (Value.int .i64 t46_Version_Major), (Value.int .i64 t46_Version_Minor), (Value.int .i64 t46_Version_Patch), (Sl.v t46_Deps), (Sl.v t46_Peers), (Sl.v t46_Optional)]) ∧ ∃ (t47_Deps : Sl) (t47_Dev : Sl) (t47_Optional : Sl) (t47_Overrides : Sl), (ldc vw6 a [(Sl.v t47_Deps), (Sl.v t47_Dev), (Sl.v t47_Optional), (Sl.v t47_Overrides)]) ∧ callS Tryz.prog 41 [(Value.agg #[(Value.string t46_Name), (Value.int .i64 t46_Version_Major), (Value.int .i64 t46_Version_Minor), (Value.int .i64 t46_Version_Patch), (Sl.v t46_Deps), (Sl.v t46_Peers), (Sl.v t46_Optional)]), (Value.agg #[(Sl.v t47_Deps), (Sl.v t47_Dev), (Sl.v t47_Optional), (Sl.v t47_Overrides)])] vw6 fun v vw9 => ∃ (t48 : Sl), v = (Sl.v t48) ∧ loop3 all context 0 vw9 fun all10 context11 t50 vw12 nxt13 => ((t50 < (t48.len : Int) → join (fun (all14 : Sl) (context15 : Sl) (vw16 : World) => nxt13 all14 context15 (wrapI (t50 + 1)) vw16) fun vJ => ∃ (ad : Addr), (t48.a = some ad ∧ (0 : Int) ≤ t50 ∧ t50 < (t48.len : Int)) ∧ ∃ (t53_Name : ByteArray) (t53_Range : Sl), (ldc vw12 (ad.add (t50.toNat * 2)) [(Value.string t53_Name), (Sl.v t53_Range)]) ∧ newS vw12 [(Value.string (ByteArray.mk #[])), (Sl.v Sl.nil)] 81 fun a18 vw19 => stw vw19 a18 [(Value.string t53_Name), (Sl.v t53_Range)] fun vw20 => ∃ (t57 : ByteArray), (ldc vw20 a18 [(Value.string t57)]) ∧ callS Tryz.prog 50 [(Value.string t57)] vw20 fun v23 vw22 => ∃ (t58 : Value), v23 = t58 ∧ callS Tryz.prog 52 [(Sl.v env), t58] vw22 fun v26 vw25 => ∃ (t59 : Int), v26 = (Value.int .i64 t59) ∧ bnd vw25.drew fun (vw28 : World) => bnd (decide (t59 < 0)) fun (b : Bool) => ∃ (t64 : Sl), grd (!b) (ldc vw28 (a18.add 1) [(Sl.v t64)]) ∧ ∃ (ad30 : Addr), grd (!b) (env.a = some ad30 ∧ (0 : Int) ≤ t59 ∧ t59 < (env.len : Int)) ∧ ∃ (t69_Major : Int) (t69_Minor : Int) (t69_Patch : Int), grd (!b) (ldc vw28 ((ad30.add (t59.toNat * 4)).add 1) [(Value.int .i64 t69_Major), (Value.int .i64 t69_Minor), (Value.int .i64 t69_Patch)]) ∧ gCall (!b) (fun (t70 : Bool) (vw33 : World) => (((b || (!t70)) = true → R Sl.nil false vw33) ∧ ((b || (!t70)) = false → ∃ (t76 : ByteArray), (ldc vw33 a18 [(Value.string t76)]) ∧ callS Tryz.prog 50 [(Value.string t76)] vw33 fun v40 vw39 => ∃ (t77 : Value), v40 = t77 ∧ callS Tryz.prog 54 [(Sl.v context11), t77] vw39 fun v43 vw42 => ∃ (t78 : Bool), v43 = (Value.bool t78) ∧ (((!t78) = true → ∃ (ad45 : Addr), (env.a = some ad45 ∧ (0 : Int) ≤ t59 ∧ t59 < (env.len : Int)) ∧ ∃ (t84_Name : ByteArray) (t84_Version_Major : Int) (t84_Version_Minor : Int) (t84_Version_Patch : Int), (ldc vw42 (ad45.add (t59.toNat * 4)) [(Value.string t84_Name), (Value.int .i64 t84_Version_Major), (Value.int .i64 t84_Version_Minor), (Value.int .i64 t84_Version_Patch)]) ∧ newS vw42 [(Value.string t84_Name), (Value.int .i64 t84_Version_Major), (Value.int .i64 t84_Version_Minor), (Value.int .i64 t84_Version_Patch)] 32 fun a48 vw49 => appS Tryz.prog 28 28 context11 (Sl.v (Sl.mk (some a48) 1 1)) vw49 fun t86 vw50 => ∃ (ad51 : Addr), (env.a = some ad51 ∧ (0 : Int) ≤ t59 ∧ t59 < (env.len : Int)) ∧ ∃ (t91_Name : ByteArray) (t91_Version_Major : Int) (t91_Version_Minor : Int) (t91_Version_Patch : Int), (ldc vw50 (ad51.add (t59.toNat * 4)) [(Value.string t91_Name), (Value.int .i64 t91_Version_Major), (Value.int .i64 t91_Version_Minor), (Value.int .i64 t91_Version_Patch)]) ∧ newS vw50 [(Value.string t91_Name), (Value.int .i64 t91_Version_Major), (Value.int .i64 t91_Version_Minor), (Value.int .i64 t91_Version_Patch)] 32 fun a54 vw55 => appS Tryz.prog 28 28 all10 (Sl.v (Sl.mk (some a54) 1 1)) vw55 fun t93 vw56 => vJ t93 t86 vw56) ∧ ((!t78) = false → vJ all10 context11 vw42))))) (fun q => callS Tryz.prog 53 [(Sl.v t64), (Value.agg #[(Value.int .i64 t69_Major), (Value.int .i64 t69_Minor), (Value.int .i64 t69_Patch)])] vw28 fun v34 vw33 => ∃ (t70 : Bool), v34 = (Value.bool t70) ∧ q t70 vw33) (fun q => q false vw28)) ∧ (¬ (t50 < (t48.len : Int)) → nxt all10 context11 (wrapI (i + 1)) vw12))))) fun vJ57 => bnd vw5.drew fun (vw59 : World) => ∃ (ad60 : Addr), (all.a = some ad60 ∧ (0 : Int) ≤ i ∧ i < (all.len : Int)) ∧ ∃ (t35 : ByteArray), (ldc vw59 (ad60.add (i.toNat * 4)) [(Value.string t35)]) ∧ ∃ (ad63 : Addr), (all.a = some ad63 ∧ (0 : Int) ≤ i ∧ i < (all.len : Int)) ∧ ∃ (t40_Major : Int) (t40_Minor : Int) (t40_Patch : Int), (ldc vw59 ((ad63.add (i.toNat * 4)).add 1) [(Value.int .i64 t40_Major), (Value.int .i64 t40_Minor), (Value.int .i64 t40_Patch)]) ∧ ((callS Tryz.prog 22 [(Value.pointer c), (Value.string t35), (Value.agg #[(Value.int .i64 t40_Major), (Value.int .i64 t40_Minor), (Value.int .i64 t40_Patch)])] vw59 fun v67 vw66 => ∃ (t41_Name : ByteArray) (t41_Version_Major : Int) (t41_Version_Minor : Int) (t41_Version_Patch : Int) (t41_Deps : Sl) (t41_Peers : Sl) (t41_Optional : Sl) (t41b : Bool), v67 = (Value.tuple #[(Value.agg #[(Value.string t41_Name), (Value.int .i64 t41_Version_Major), (Value.int .i64 t41_Version_Minor), (Value.int .i64 t41_Version_Patch), (Sl.v t41_Deps), (Sl.v t41_Peers), (Sl.v t41_Optional)]), (Value.bool t41b)]) ∧ newS vw66 [(Value.string (ByteArray.mk #[])), (Value.int .i64 0), (Value.int .i64 0), (Value.int .i64 0), (Sl.v Sl.nil), (Sl.v Sl.nil), (Sl.v Sl.nil)] 48 fun a69 vw70 => stw vw70 a69 [(Value.string t41_Name), (Value.int .i64 t41_Version_Major), (Value.int .i64 t41_Version_Minor), (Value.int .i64 t41_Version_Patch), (Sl.v t41_Deps), (Sl.v t41_Peers), (Sl.v t41_Optional)] fun vw71 => vJ57 a69 t41b vw71) ∧ (newS vw59 [(Value.string (ByteArray.mk #[])), (Value.int .i64 0), (Value.int .i64 0), (Value.int .i64 0), (Sl.v Sl.nil), (Sl.v Sl.nil), (Sl.v Sl.nil)] 48 fun a72 vw73 => callS Tryz.prog 22 [(Value.pointer c), (Value.string t35), (Value.agg #[(Value.int .i64 t40_Major), (Value.int .i64 t40_Minor), (Value.int .i64 t40_Patch)])] vw73 fun v83 vw74 => ∃ (t41_Name75 : ByteArray) (t41_Version_Major76 : Int) (t41_Version_Minor77 : Int) (t41_Version_Patch78 : Int) (t41_Deps79 : Sl) (t41_Peers80 : Sl) (t41_Optional81 : Sl) (t41b82 : Bool), v83 = (Value.tuple #[(Value.agg #[(Value.string t41_Name75), (Value.int .i64 t41_Version_Major76), (Value.int .i64 t41_Version_Minor77), (Value.int .i64 t41_Version_Patch78), (Sl.v t41_Deps79), (Sl.v t41_Peers80), (Sl.v t41_Optional81)]), (Value.bool t41b82)]) ∧ stw vw74 a72 [(Value.string t41_Name75), (Value.int .i64 t41_Version_Major76), (Value.int .i64 t41_Version_Minor77), (Value.int .i64 t41_Version_Patch78), (Sl.v t41_Deps79), (Sl.v t41_Peers80), (Sl.v t41_Optional81)] fun vw85 => vJ57 a72 t41b82 vw85))) ∧ (¬ (i < (all.len : Int)) → callS Tryz.prog 55 [(Sl.v context), (Value.func (.func 56) #[] #[])] vw5 fun v87 vw86 => v87 = (Value.tuple #[]) ∧ callS Tryz.prog 58 [(Sl.v context)] vw86 fun v90 vw89 => ∃ (t98 : Sl), v90 = (Sl.v t98) ∧ R t98 true vw89))))
set_option maxHeartbeats 8000000 in
theorem wants_Context.sound (c : Option Addr) (m_Deps : Sl) (m_Dev : Sl) (m_Optional : Sl) (m_Overrides : Sl) (env : Sl) (p_Name : ByteArray) (p_Version_Major : Int) (p_Version_Minor : Int) (p_Version_Patch : Int) (w : World) (R : Sl → Bool → World → Prop) (h : wants_Context c m_Deps m_Dev m_Optional m_Overrides env p_Name p_Version_Major p_Version_Minor p_Version_Patch w R) : callS Tryz.prog 13 [(Value.pointer c), (Value.agg #[(Sl.v m_Deps), (Sl.v m_Dev), (Sl.v m_Optional), (Sl.v m_Overrides)]), (Sl.v env), (Value.agg #[(Value.string p_Name), (Value.int .i64 p_Version_Major), (Value.int .i64 p_Version_Minor), (Value.int .i64 p_Version_Patch)])] w (fun v w' => ∃ (r0 : Sl) (r1 : Bool), v = (Value.tuple #[(Sl.v r0), (Value.bool r1)]) ∧ R r0 r1 w') := by
  unfold wants_Context at h
  refine calls_of_vc 99 rfl Tryz.func13 rfl (by kernel_rfl) (by simp) ?_
  refine Vc.seq ?_
  refine Vc.region ?_
  refine vcL_eff rfl (opVC_new rfl (fun a => Value.pointer (some a)) (by kernel_rfl) (newS.mono h fun a vw hx h => ?_)) 
  refine vcL_eff rfl (opVC_new rfl (fun a => Value.pointer (some a)) (by kernel_rfl) (newS.mono h fun a1 vw2 hx h => ?_)) 
  refine vcL_purs 2 [(9, (Value.bool false)), (8, (Sl.v Sl.nil))] (by kernel_rfl) ?_
  refine vcL_nil ?_
  refine Vc.seq ?_
  refine Vc.seq ?_
  refine Vc.region ?_
  refine vcL_pure rfl rfl (Value.pointer c) (fun w => by kernel_rfl) ?_
  refine vcL_pure rfl rfl (Value.bool (Option.isNone c)) (fun w => by cases c <;> kernel_rfl) ?_
  refine vcL_nil ?_
  refine Vc.cond (Option.isNone c) (by kernel_rfl) (fun hb => ?_) (fun hb => ?_)
  · have h := h.1 (Option.isNone_iff_eq_none.1 hb)
    refine Vc.seq ?_
    refine Vc.region ?_
    refine vcL_purs 2 [(9, (Value.bool false)), (8, (Sl.v Sl.nil))] (by kernel_rfl) ?_
    refine vcL_nil ?_
    refine Vc.ret ?_
    refine outs_ret ?_
    refine done_mk (Value.tuple #[(Sl.v Sl.nil), (Value.bool false)]) (res2 (resC_tmp (by kernel_rfl)) (resC_tmp (by kernel_rfl))) ?_
    exact ⟨Sl.nil, false, rfl, h⟩
  · have h := h.2 (isNone_false hb)
    refine Vc.skip ?_
    refine Vc.seq ?_
    refine Vc.region ?_
    refine vcL_pure rfl rfl (Value.func (.func 50) #[] #[]) (fun w => by kernel_rfl) ?_
    refine vcL_nil ?_
    refine Vc.seq ?_
    refine Vc.region ?_
    obtain ⟨t21_Name, t21_Version_Major, t21_Version_Minor, t21_Version_Patch, hc, h⟩ := h
    refine vcL_val rfl rfl (Value.agg #[(Value.string t21_Name), (Value.int .i64 t21_Version_Major), (Value.int .i64 t21_Version_Minor), (Value.int .i64 t21_Version_Patch)]) (exec_load rfl (by kernel_rfl) (run_loadN (fun w => by kernel_rfl) (fun w => by kernel_rfl) ((hc)))) ?_
    refine vcL_eff rfl (opVC_new rfl (fun a => Value.slice (some a) 1 1) (by kernel_rfl) (newS.mono h fun a3 vw4 hx h => ?_)) 
    refine vcL_pure rfl rfl (Sl.v (Sl.mk (some a3) 1 1)) (fun w => by kernel_rfl) ?_
    refine vcL_nil ?_
    refine Vc.seq ?_
    refine Vc.region ?_
    refine vcL_pure rfl rfl (Sl.v Sl.nil) (fun w => by kernel_rfl) ?_
    refine vcL_nil ?_
    refine Vc.seq ?_
    refine Vc.seq ?_
    refine Vc.region ?_
    refine vcL_pure rfl rfl (Value.int .i64 0) (fun w => by kernel_rfl) ?_
    refine vcL_nil ?_
    refine Vc.block ?_
    obtain ⟨vI92, mu93, h, hr94⟩ := h
    refine Vc.loopJ (σ := Sl × Sl × Int) [11, 12, 13] [8, 9, 14, 15, 17, 18, 23, 24, 25, 26, 27, 28, 29, 30, 31, 32, 33, 34, 35, 36, 37, 38, 39, 40, 41, 42, 43, 44, 45, 46, 47, 48, 49, 50, 51, 52, 53, 54, 55, 56, 57, 58, 59, 60, 61, 62, 63, 64, 65, 66, 67, 68, 69, 70, 71, 72, 73, 74, 75, 76, 77, 78, 79, 80, 81, 82, 83, 84, 85, 86, 87, 88, 89, 90, 91, 92, 93, 94] (fun s => [(11, (Sl.v s.1)), (12, (Sl.v s.2.1)), (13, (Value.int .i64 s.2.2))]) (fun s w => vI92 s.1 s.2.1 s.2.2 w) (fun s w => mu93 s.1 s.2.1 s.2.2 w) ((Sl.mk (some a3) 1 1), Sl.nil, 0) h (fun _ => rfl) (by kernel_rfl) ?_
    rintro ⟨all, context, i⟩ vw5 j h
    have h := hr94 all context i vw5 h
    refine Vc.seq ?_
    refine Vc.seq ?_
    refine Vc.region ?_
    refine vcL_purs 4 [(26, (Value.bool (decide (i < (all.len : Int))))), (25, (Value.int .i64 (all.len : Int))), (24, (Sl.v all)), (23, (Value.int .i64 i))] (by kernel_rfl) ?_
    refine vcL_nil ?_
    refine Vc.cond (decide (i < (all.len : Int))) (by kernel_rfl) (fun hb => ?_) (fun hb => ?_)
    · have h := h.1 (of_decide_eq_true hb)
      refine Vc.skip ?_
      refine Vc.seq ?_
      refine Vc.block ?_
      obtain ⟨vJ57, hJ58, h⟩ := join_elim h
      refine Vc.seqJ (σ := Addr × Bool) [14, 15] [29, 30, 31, 32, 33, 34, 35, 36, 37, 38, 39, 40, 41, 42, 43] (fun s => [(14, (Value.pointer (some s.1))), (15, (Value.bool s.2))]) (fun s w => vJ57 s.1 s.2 w) (fun _ => rfl) ?_ ?_
      · obtain ⟨vw59, hvw59⟩ : ∃ y, y = vw5.drew := ⟨_, rfl⟩
        have h := h vw59 hvw59
        refine Vc.draw (by kernel_rfl) (fun i => !(memN [11, 16] i)) (.pur 0 (.pur 1 (.pur 2 (.pur 3 (.pur 4 (.val 5 (.pur 6 (.pur 7 (.pur 8 (.pur 9 (.val 10 (.eff 11 (.pur 12 (.pur 13 (.pur 14 (.eff 15 (.eff 16 (.pur 17 .fin) .stop) .stop)))) (.eff 15 (.eff 11 (.pur 12 (.pur 13 (.pur 14 (.eff 16 (.pur 17 .fin) .stop)))) .stop) .stop))))))))))))) (by kernel_rfl) ?_
        rw [← hvw59]
        clear hvw59
        refine vcS_pure rfl rfl rfl (Value.pointer c) (fun w => by kernel_rfl) ?_
        refine vcS_pure rfl rfl rfl (Sl.v all) (fun w => by kernel_rfl) ?_
        refine vcS_pure rfl rfl rfl (Value.int .i64 i) (fun w => by kernel_rfl) ?_
        obtain ⟨ad60, hi61, h⟩ := h
        refine vcS_pure rfl rfl rfl (Value.pointer (some (ad60.add (i.toNat * 4)))) (fun w => by exact exec_indexAt (s := all) (el := 32) rfl (by kernel_rfl) (by kernel_rfl) (by kernel_rfl) (fun w => by kernel_rfl) (hi61).1 (hi61).2.1 (hi61).2.2 w) ?_
        refine vcS_pure rfl rfl rfl (Value.pointer (some (ad60.add (i.toNat * 4)))) (fun w => by kernel_rfl) ?_
        obtain ⟨t35, hc62, h⟩ := h
        refine vcS_val rfl rfl rfl (Value.string t35) (fun w' hx => exec_load rfl (by kernel_rfl) (run_load1 (fun w => by kernel_rfl) ((hc62).ext hx))) ?_
        refine vcS_pure rfl rfl rfl (Sl.v all) (fun w => by kernel_rfl) ?_
        refine vcS_pure rfl rfl rfl (Value.int .i64 i) (fun w => by kernel_rfl) ?_
        obtain ⟨ad63, hi64, h⟩ := h
        refine vcS_pure rfl rfl rfl (Value.pointer (some (ad63.add (i.toNat * 4)))) (fun w => by exact exec_indexAt (s := all) (el := 32) rfl (by kernel_rfl) (by kernel_rfl) (by kernel_rfl) (fun w => by kernel_rfl) (hi64).1 (hi64).2.1 (hi64).2.2 w) ?_
        refine vcS_pure rfl rfl rfl (Value.pointer (some ((ad63.add (i.toNat * 4)).add 1))) (fun w => by kernel_rfl) ?_
        obtain ⟨t40_Major, t40_Minor, t40_Patch, hc65, h⟩ := h
        refine vcS_val rfl rfl rfl (Value.agg #[(Value.int .i64 t40_Major), (Value.int .i64 t40_Minor), (Value.int .i64 t40_Patch)]) (fun w' hx => exec_load rfl (by kernel_rfl) (run_loadN (fun w => by kernel_rfl) (fun w => by kernel_rfl) ((hc65).ext hx))) ?_
        have h0 := h
        have h := h.1
        refine vcS_eff rfl rfl (opVC_call rfl (by kernel_rfl) (callS.mono h fun v67 vw66 h => ?_)) ?_
        · obtain ⟨t41_Name, t41_Version_Major, t41_Version_Minor, t41_Version_Patch, t41_Deps, t41_Peers, t41_Optional, t41b, rfl, h⟩ := h
          refine ⟨fun hb => absurd hb (by decide), ?_⟩
          refine vcS_pure rfl rfl rfl (Value.tuple #[(Value.agg #[(Value.string t41_Name), (Value.int .i64 t41_Version_Major), (Value.int .i64 t41_Version_Minor), (Value.int .i64 t41_Version_Patch), (Sl.v t41_Deps), (Sl.v t41_Peers), (Sl.v t41_Optional)]), (Value.bool t41b)]) (fun w => by kernel_rfl) ?_
          refine vcS_pure rfl rfl rfl (Value.agg #[(Value.string t41_Name), (Value.int .i64 t41_Version_Major), (Value.int .i64 t41_Version_Minor), (Value.int .i64 t41_Version_Patch), (Sl.v t41_Deps), (Sl.v t41_Peers), (Sl.v t41_Optional)]) (fun w => by kernel_rfl) ?_
          refine vcS_pure rfl rfl rfl (Value.bool t41b) (fun w => by kernel_rfl) ?_
          refine vcS_eff rfl rfl (opVC_new rfl (fun a => Value.pointer (some a)) (by kernel_rfl) (newS.mono h fun a69 vw70 hx h => ?_)) vcS_stop
          refine ⟨fun _ => hx, ?_⟩
          refine vcS_eff rfl rfl (opVC_store rfl rfl (a := a69) (by kernel_rfl) (v := (Value.agg #[(Value.string t41_Name), (Value.int .i64 t41_Version_Major), (Value.int .i64 t41_Version_Minor), (Value.int .i64 t41_Version_Patch), (Sl.v t41_Deps), (Sl.v t41_Peers), (Sl.v t41_Optional)])) (by kernel_rfl) [(Value.string t41_Name), (Value.int .i64 t41_Version_Major), (Value.int .i64 t41_Version_Minor), (Value.int .i64 t41_Version_Patch), (Sl.v t41_Deps), (Sl.v t41_Peers), (Sl.v t41_Optional)] (by kernel_rfl) (fun w => by kernel_rfl) (by kernel_rfl) (stw.mono h fun vw71 h => ?_)) vcS_stop
          refine ⟨fun hb => absurd hb (by decide), ?_⟩
          refine vcS_pure rfl rfl rfl (Value.bool t41b) (fun w => by kernel_rfl) ?_
          refine vcS_fin ?_
          exact ⟨(a69, t41b), 17, ⟨rfl, by kernel_rfl, by kernel_rfl, by kernel_rfl⟩, h⟩
        have h := h0
        have h0 := h
        have h := h.2
        refine vcS_eff rfl rfl (opVC_new rfl (fun a => Value.pointer (some a)) (by kernel_rfl) (newS.mono h fun a72 vw73 hx h => ?_)) ?_
        · refine ⟨fun _ => hx, ?_⟩
          refine vcS_eff rfl rfl (opVC_call rfl (by kernel_rfl) (callS.mono h fun v83 vw74 h => ?_)) vcS_stop
          obtain ⟨t41_Name75, t41_Version_Major76, t41_Version_Minor77, t41_Version_Patch78, t41_Deps79, t41_Peers80, t41_Optional81, t41b82, rfl, h⟩ := h
          refine ⟨fun hb => absurd hb (by decide), ?_⟩
          refine vcS_pure rfl rfl rfl (Value.tuple #[(Value.agg #[(Value.string t41_Name75), (Value.int .i64 t41_Version_Major76), (Value.int .i64 t41_Version_Minor77), (Value.int .i64 t41_Version_Patch78), (Sl.v t41_Deps79), (Sl.v t41_Peers80), (Sl.v t41_Optional81)]), (Value.bool t41b82)]) (fun w => by kernel_rfl) ?_
          refine vcS_pure rfl rfl rfl (Value.agg #[(Value.string t41_Name75), (Value.int .i64 t41_Version_Major76), (Value.int .i64 t41_Version_Minor77), (Value.int .i64 t41_Version_Patch78), (Sl.v t41_Deps79), (Sl.v t41_Peers80), (Sl.v t41_Optional81)]) (fun w => by kernel_rfl) ?_
          refine vcS_pure rfl rfl rfl (Value.bool t41b82) (fun w => by kernel_rfl) ?_
          refine vcS_eff rfl rfl (opVC_store rfl rfl (a := a72) (by kernel_rfl) (v := (Value.agg #[(Value.string t41_Name75), (Value.int .i64 t41_Version_Major76), (Value.int .i64 t41_Version_Minor77), (Value.int .i64 t41_Version_Patch78), (Sl.v t41_Deps79), (Sl.v t41_Peers80), (Sl.v t41_Optional81)])) (by kernel_rfl) [(Value.string t41_Name75), (Value.int .i64 t41_Version_Major76), (Value.int .i64 t41_Version_Minor77), (Value.int .i64 t41_Version_Patch78), (Sl.v t41_Deps79), (Sl.v t41_Peers80), (Sl.v t41_Optional81)] (by kernel_rfl) (fun w => by kernel_rfl) (by kernel_rfl) (stw.mono h fun vw85 h => ?_)) vcS_stop
          refine ⟨fun hb => absurd hb (by decide), ?_⟩
          refine vcS_pure rfl rfl rfl (Value.bool t41b82) (fun w => by kernel_rfl) ?_
          refine vcS_fin ?_
          exact ⟨(a72, t41b82), 17, ⟨rfl, by kernel_rfl, by kernel_rfl, by kernel_rfl⟩, h⟩
        have h := h0
        exact vcS_stop
      · rintro ⟨x, there⟩ vw6 j h
        subst hJ58
        refine Vc.seq ?_
        refine Vc.seq ?_
        refine Vc.region ?_
        refine vcL_purs 2 [(45, (Value.bool (!there))), (44, (Value.bool there))] (by kernel_rfl) ?_
        refine vcL_nil ?_
        refine Vc.cond (!there) (by kernel_rfl) (fun hb => ?_) (fun hb => ?_)
        · have h := h.1 (hb)
          refine Vc.seq ?_
          refine Vc.region ?_
          refine vcL_purs 2 [(9, (Value.bool false)), (8, (Sl.v Sl.nil))] (by kernel_rfl) ?_
          refine vcL_nil ?_
          refine Vc.ret ?_
          refine outOf_ret ?_
          refine outOf_ret ?_
          refine outs_ret ?_
          refine done_mk (Value.tuple #[(Sl.v Sl.nil), (Value.bool false)]) (res2 (resC_tmp (by kernel_rfl)) (resC_tmp (by kernel_rfl))) ?_
          exact ⟨Sl.nil, false, rfl, h⟩
        · have h := h.2 (hb)
          refine Vc.skip ?_
          refine Vc.seq ?_
          refine Vc.region ?_
          obtain ⟨t46_Name, t46_Version_Major, t46_Version_Minor, t46_Version_Patch, t46_Deps, t46_Peers, t46_Optional, hc7, h⟩ := h
          refine vcL_val rfl rfl (Value.agg #[(Value.string t46_Name), (Value.int .i64 t46_Version_Major), (Value.int .i64 t46_Version_Minor), (Value.int .i64 t46_Version_Patch), (Sl.v t46_Deps), (Sl.v t46_Peers), (Sl.v t46_Optional)]) (exec_load rfl (by kernel_rfl) (run_loadN (fun w => by kernel_rfl) (fun w => by kernel_rfl) ((hc7)))) ?_
          obtain ⟨t47_Deps, t47_Dev, t47_Optional, t47_Overrides, hc8, h⟩ := h
          refine vcL_val rfl rfl (Value.agg #[(Sl.v t47_Deps), (Sl.v t47_Dev), (Sl.v t47_Optional), (Sl.v t47_Overrides)]) (exec_load rfl (by kernel_rfl) (run_loadN (fun w => by kernel_rfl) (fun w => by kernel_rfl) ((hc8)))) ?_
          refine vcL_eff rfl (opVC_call rfl (by kernel_rfl) (callS.mono h fun v vw9 h => ?_)) 
          obtain ⟨t48, rfl, h⟩ := h
          refine vcL_purs 2 [(50, (Value.int .i64 0)), (49, (Value.int .i64 (t48.len : Int)))] (by kernel_rfl) ?_
          refine vcL_nil ?_
          refine Vc.block ?_
          obtain ⟨vI, mu, h, hr⟩ := h
          refine Vc.loopJ (σ := Sl × Sl × Int) [11, 12, 50] [8, 9, 17, 18, 51, 52, 53, 54, 55, 56, 57, 58, 59, 60, 61, 62, 63, 64, 65, 66, 67, 68, 69, 70, 71, 72, 73, 74, 75, 76, 77, 78, 79, 80, 81, 82, 83, 84, 85, 86, 87, 88, 89, 90, 91, 92, 93, 94] (fun s => [(11, (Sl.v s.1)), (12, (Sl.v s.2.1)), (50, (Value.int .i64 s.2.2))]) (fun s w => vI s.1 s.2.1 s.2.2 w) (fun s w => mu s.1 s.2.1 s.2.2 w) (all, context, 0) h (fun _ => rfl) (by kernel_rfl) ?_
          rintro ⟨all10, context11, t50⟩ vw12 j h
          have h := hr all10 context11 t50 vw12 h
          refine Vc.seq ?_
          refine Vc.region ?_
          refine vcL_pure rfl rfl (Value.bool (decide (t50 < (t48.len : Int)))) (fun w => by kernel_rfl) ?_
          refine vcL_nil ?_
          refine Vc.seq ?_
          refine Vc.cond (decide (t50 < (t48.len : Int))) (by kernel_rfl) (fun hb => ?_) (fun hb => ?_)
          · have h := h.1 (of_decide_eq_true hb)
            refine Vc.skip ?_
            obtain ⟨vJ, hJ, h⟩ := join_elim h
            refine Vc.seqJ (σ := Sl × Sl) [11, 12] [8, 9, 17, 18, 52, 53, 54, 55, 56, 57, 58, 59, 60, 61, 62, 63, 64, 65, 66, 67, 68, 69, 70, 71, 72, 73, 74, 75, 76, 77, 78, 79, 80, 81, 82, 83, 84, 85, 86, 87, 88, 89, 90, 91, 92, 93] (fun s => [(11, (Sl.v s.1)), (12, (Sl.v s.2))]) (fun s w => vJ s.1 s.2 w) (fun _ => rfl) ?_ ?_
            · refine Vc.block ?_
              refine Vc.seq ?_
              refine Vc.region ?_
              obtain ⟨ad, hi, h⟩ := h
              refine vcL_pure rfl rfl (Value.pointer (some (ad.add (t50.toNat * 2)))) (fun w => by exact exec_indexAt (s := t48) (el := 81) rfl (by kernel_rfl) (by kernel_rfl) (by kernel_rfl) (fun w => by kernel_rfl) (hi).1 (hi).2.1 (hi).2.2 w) ?_
              obtain ⟨t53_Name, t53_Range, hc17, h⟩ := h
              refine vcL_val rfl rfl (Value.agg #[(Value.string t53_Name), (Sl.v t53_Range)]) (exec_load rfl (by kernel_rfl) (run_loadN (fun w => by kernel_rfl) (fun w => by kernel_rfl) ((hc17)))) ?_
              refine vcL_eff rfl (opVC_new rfl (fun a => Value.pointer (some a)) (by kernel_rfl) (newS.mono h fun a18 vw19 hx h => ?_)) 
              refine vcL_eff rfl (opVC_store rfl rfl (a := a18) (by kernel_rfl) (v := (Value.agg #[(Value.string t53_Name), (Sl.v t53_Range)])) (by kernel_rfl) [(Value.string t53_Name), (Sl.v t53_Range)] (by kernel_rfl) (fun w => by kernel_rfl) (by kernel_rfl) (stw.mono h fun vw20 h => ?_)) 
              refine vcL_nil ?_
              refine Vc.seq ?_
              refine Vc.region ?_
              refine vcL_purs 3 [(56, (Value.pointer (some a18))), (55, (Value.func (.func 50) #[] #[])), (54, (Sl.v env))] (by kernel_rfl) ?_
              obtain ⟨t57, hc21, h⟩ := h
              refine vcL_val rfl rfl (Value.string t57) (exec_load rfl (by kernel_rfl) (run_load1 (fun w => by kernel_rfl) ((hc21)))) ?_
              refine vcL_eff rfl (opVC_call rfl (by kernel_rfl) (callS.mono h fun v23 vw22 h => ?_)) 
              obtain ⟨t58, rfl, h⟩ := h
              refine vcL_eff rfl (opVC_call rfl (by kernel_rfl) (callS.mono h fun v26 vw25 h => ?_)) 
              obtain ⟨t59, rfl, h⟩ := h
              refine vcL_pure rfl rfl (Value.int .i64 t59) (fun w => by kernel_rfl) ?_
              refine vcL_nil ?_
              refine Vc.seq ?_
              refine Vc.seq ?_
              obtain ⟨vw28, hvw28⟩ : ∃ y, y = vw25.drew := ⟨_, rfl⟩
              have h := h vw28 hvw28
              refine Vc.draw (by kernel_rfl) (fun i => !(memN [10] i)) (.pur 0 (.pur 1 (.pur 2 (.pur 3 (.val 4 (.pur 5 (.pur 6 (.pur 7 (.pur 8 (.val 9 (.eff 10 (.pur 11 (.pur 12 .fin)) .stop))))))))))) (by kernel_rfl) ?_
              rw [← hvw28]
              clear hvw28
              refine vcS_pure rfl rfl rfl (Value.int .i64 t59) (fun w => by kernel_rfl) ?_
              refine vcS_pure rfl rfl rfl (Value.bool (decide (t59 < 0))) (fun w => by kernel_rfl) ?_
              obtain ⟨b, hb⟩ : ∃ y, y = (decide (t59 < 0)) := ⟨_, rfl⟩
              have h := h b hb
              refine vcS_pure rfl rfl rfl (Value.bool b) (fun w => by rw [hb]; kernel_rfl) ?_
              refine vcS_guard rfl (!b) (wanted_g (d := 62) rfl (by kernel_rfl) b (by kernel_rfl) (!b) (eqF b)) rfl (Value.pointer (some (a18.add 1))) (fun hg w => by simp only [Bool.and_eq_true, Bool.not_eq_true'] at hg; obtain rfl := hg; kernel_rfl) ?_
              obtain ⟨t64, hc29, h⟩ := h
              refine vcS_valG rfl (!b) (wanted_g (d := 62) rfl (by kernel_rfl) b (by kernel_rfl) (!b) (eqF b)) rfl (Sl.v t64) (fun hg w' hx => by simp only [Bool.and_eq_true, Bool.not_eq_true'] at hg; obtain rfl := hg; exact exec_load rfl (by kernel_rfl) (run_load1 (fun w => by kernel_rfl) ((hc29 rfl).ext hx))) ?_
              refine vcS_guard rfl (!b) (wanted_g (d := 62) rfl (by kernel_rfl) b (by kernel_rfl) (!b) (eqF b)) rfl (Sl.v env) (fun hg w => by simp only [Bool.and_eq_true, Bool.not_eq_true'] at hg; obtain rfl := hg; kernel_rfl) ?_
              refine vcS_guard rfl (!b) (wanted_g (d := 62) rfl (by kernel_rfl) b (by kernel_rfl) (!b) (eqF b)) rfl (Value.int .i64 t59) (fun hg w => by simp only [Bool.and_eq_true, Bool.not_eq_true'] at hg; obtain rfl := hg; kernel_rfl) ?_
              obtain ⟨ad30, hi31, h⟩ := h
              refine vcS_guard rfl (!b) (wanted_g (d := 62) rfl (by kernel_rfl) b (by kernel_rfl) (!b) (eqF b)) rfl (Value.pointer (some (ad30.add (t59.toNat * 4)))) (fun hg w => by simp only [Bool.and_eq_true, Bool.not_eq_true'] at hg; obtain rfl := hg; exact exec_indexAt (s := env) (el := 32) rfl (by kernel_rfl) (by kernel_rfl) (by kernel_rfl) (fun w => by kernel_rfl) (hi31 rfl).1 (hi31 rfl).2.1 (hi31 rfl).2.2 w) ?_
              refine vcS_guard rfl (!b) (wanted_g (d := 62) rfl (by kernel_rfl) b (by kernel_rfl) (!b) (eqF b)) rfl (Value.pointer (some ((ad30.add (t59.toNat * 4)).add 1))) (fun hg w => by simp only [Bool.and_eq_true, Bool.not_eq_true'] at hg; obtain rfl := hg; kernel_rfl) ?_
              obtain ⟨t69_Major, t69_Minor, t69_Patch, hc32, h⟩ := h
              refine vcS_valG rfl (!b) (wanted_g (d := 62) rfl (by kernel_rfl) b (by kernel_rfl) (!b) (eqF b)) rfl (Value.agg #[(Value.int .i64 t69_Major), (Value.int .i64 t69_Minor), (Value.int .i64 t69_Patch)]) (fun hg w' hx => by simp only [Bool.and_eq_true, Bool.not_eq_true'] at hg; obtain rfl := hg; exact exec_load rfl (by kernel_rfl) (run_loadN (fun w => by kernel_rfl) (fun w => by kernel_rfl) ((hc32 rfl).ext hx))) ?_
              obtain ⟨vJ36, hJ37, h⟩ := gCall_elim h
              refine vcS_effJ (σ := Bool) rfl (!b) (wanted_g (d := 62) rfl (by kernel_rfl) b (by kernel_rfl) (!b) (eqF b)) rfl (fun s w => vJ36 s w) (fun s => (Value.bool s)) ?_ (fun hg => opVC_call rfl (by simp only [Bool.and_eq_true, Bool.not_eq_true'] at hg; obtain rfl := hg; kernel_rfl) (callS.mono (h.1 hg) fun v34 vw33 hq => ?_)) (fun hg => ⟨false, h.2 hg⟩) vcS_stop
              · intro t70 vw33 h
                subst hJ37
                refine vcS_guard rfl (!b) (wanted_g (d := 62) rfl (by kernel_rfl) b (by kernel_rfl) (!b) (eqF b)) rfl (Value.bool (!t70)) (fun hg w => by simp only [Bool.and_eq_true, Bool.not_eq_true'] at hg; obtain rfl := hg; kernel_rfl) ?_
                refine vcS_pure rfl rfl rfl (Value.bool (b || (!t70))) (fun w => by cases b <;> kernel_rfl) ?_
                refine vcS_fin ?_
                refine Vc.cond (b || (!t70)) (by kernel_rfl) (fun hb => ?_) (fun hb => ?_)
                · have h := h.1 (hb)
                  refine Vc.seq ?_
                  refine Vc.region ?_
                  refine vcL_purs 2 [(9, (Value.bool false)), (8, (Sl.v Sl.nil))] (by kernel_rfl) ?_
                  refine vcL_nil ?_
                  refine Vc.ret ?_
                  refine outOf_ret ?_
                  refine outOf_ret ?_
                  refine outOf_ret ?_
                  refine outOf_ret ?_
                  refine outs_ret ?_
                  refine done_mk (Value.tuple #[(Sl.v Sl.nil), (Value.bool false)]) (res2 (resC_tmp (by kernel_rfl)) (resC_tmp (by kernel_rfl))) ?_
                  exact ⟨Sl.nil, false, rfl, h⟩
                · have h := h.2 (hb)
                  refine Vc.skip ?_
                  refine Vc.seq ?_
                  refine Vc.region ?_
                  refine vcL_purs 3 [(75, (Value.pointer (some a18))), (74, (Value.func (.func 50) #[] #[])), (73, (Sl.v context11))] (by kernel_rfl) ?_
                  obtain ⟨t76, hc38, h⟩ := h
                  refine vcL_val rfl rfl (Value.string t76) (exec_load rfl (by kernel_rfl) (run_load1 (fun w => by kernel_rfl) ((hc38)))) ?_
                  refine vcL_eff rfl (opVC_call rfl (by kernel_rfl) (callS.mono h fun v40 vw39 h => ?_)) 
                  obtain ⟨t77, rfl, h⟩ := h
                  refine vcL_eff rfl (opVC_call rfl (by kernel_rfl) (callS.mono h fun v43 vw42 h => ?_)) 
                  obtain ⟨t78, rfl, h⟩ := h
                  refine vcL_pure rfl rfl (Value.bool (!t78)) (fun w => by kernel_rfl) ?_
                  refine vcL_nil ?_
                  refine Vc.cond (!t78) (by kernel_rfl) (fun hb => ?_) (fun hb => ?_)
                  · have h := h.1 (hb)
                    refine Vc.seq ?_
                    refine Vc.region ?_
                    refine vcL_purs 3 [(82, (Value.int .i64 t59)), (81, (Sl.v env)), (80, (Sl.v context11))] (by kernel_rfl) ?_
                    obtain ⟨ad45, hi46, h⟩ := h
                    refine vcL_pure rfl rfl (Value.pointer (some (ad45.add (t59.toNat * 4)))) (fun w => by exact exec_indexAt (s := env) (el := 32) rfl (by kernel_rfl) (by kernel_rfl) (by kernel_rfl) (fun w => by kernel_rfl) (hi46).1 (hi46).2.1 (hi46).2.2 w) ?_
                    obtain ⟨t84_Name, t84_Version_Major, t84_Version_Minor, t84_Version_Patch, hc47, h⟩ := h
                    refine vcL_val rfl rfl (Value.agg #[(Value.string t84_Name), (Value.int .i64 t84_Version_Major), (Value.int .i64 t84_Version_Minor), (Value.int .i64 t84_Version_Patch)]) (exec_load rfl (by kernel_rfl) (run_loadN (fun w => by kernel_rfl) (fun w => by kernel_rfl) ((hc47)))) ?_
                    refine vcL_eff rfl (opVC_new rfl (fun a => Value.slice (some a) 1 1) (by kernel_rfl) (newS.mono h fun a48 vw49 hx h => ?_)) 
                    refine vcL_eff rfl (opVC_sem rfl (c := Builtin.append_ #[28, 28] 28 #[(Sl.v context11), (Sl.v (Sl.mk (some a48) 1 1))]) (by kernel_rfl) (appS.elim (ty := 28) h fun t86 vw50 h => ?_)) 
                    refine vcL_pure rfl rfl (Sl.v t86) (fun w => by kernel_rfl) ?_
                    refine vcL_nil ?_
                    refine Vc.region ?_
                    refine vcL_purs 3 [(89, (Value.int .i64 t59)), (88, (Sl.v env)), (87, (Sl.v all10))] (by kernel_rfl) ?_
                    obtain ⟨ad51, hi52, h⟩ := h
                    refine vcL_pure rfl rfl (Value.pointer (some (ad51.add (t59.toNat * 4)))) (fun w => by exact exec_indexAt (s := env) (el := 32) rfl (by kernel_rfl) (by kernel_rfl) (by kernel_rfl) (fun w => by kernel_rfl) (hi52).1 (hi52).2.1 (hi52).2.2 w) ?_
                    obtain ⟨t91_Name, t91_Version_Major, t91_Version_Minor, t91_Version_Patch, hc53, h⟩ := h
                    refine vcL_val rfl rfl (Value.agg #[(Value.string t91_Name), (Value.int .i64 t91_Version_Major), (Value.int .i64 t91_Version_Minor), (Value.int .i64 t91_Version_Patch)]) (exec_load rfl (by kernel_rfl) (run_loadN (fun w => by kernel_rfl) (fun w => by kernel_rfl) ((hc53)))) ?_
                    refine vcL_eff rfl (opVC_new rfl (fun a => Value.slice (some a) 1 1) (by kernel_rfl) (newS.mono h fun a54 vw55 hx h => ?_)) 
                    refine vcL_eff rfl (opVC_sem rfl (c := Builtin.append_ #[28, 28] 28 #[(Sl.v all10), (Sl.v (Sl.mk (some a54) 1 1))]) (by kernel_rfl) (appS.elim (ty := 28) h fun t93 vw56 h => ?_)) 
                    refine vcL_pure rfl rfl (Sl.v t93) (fun w => by kernel_rfl) ?_
                    refine vcL_nil ?_
                    exact ⟨(t93, t86), 46, ⟨rfl, by kernel_rfl, by kernel_rfl, by kernel_rfl⟩, h⟩
                  · have h := h.2 (hb)
                    refine Vc.skip ?_
                    exact ⟨(all10, context11), 30, ⟨rfl, by kernel_rfl, by kernel_rfl, by kernel_rfl⟩, h⟩
              · obtain ⟨t70, rfl, hq⟩ := hq
                exact ⟨fun hb => absurd hb (by decide), t70, rfl, hq⟩
            · rintro ⟨all14, context15⟩ vw16 j h
              subst hJ
              refine Vc.region ?_
              refine vcL_purs 2 [(50, (Value.int .i64 (wrapI (t50 + 1)))), (94, (Value.int .i64 (wrapI (t50 + 1))))] (by kernel_rfl) ?_
              refine vcL_nil ?_
              exact ⟨(all14, context15, (wrapI (t50 + 1))), 102, ⟨rfl, by kernel_rfl, by kernel_rfl, by kernel_rfl⟩, h⟩
          · have h := h.2 (of_decide_eq_false hb)
            refine Vc.exit ?_
            refine outOf_hit ?_
            refine Vc.region ?_
            refine vcL_purs 3 [(13, (Value.int .i64 (wrapI (i + 1)))), (28, (Value.int .i64 (wrapI (i + 1)))), (27, (Value.int .i64 i))] (by kernel_rfl) ?_
            refine vcL_nil ?_
            exact ⟨(all10, context11, (wrapI (i + 1))), 164, ⟨rfl, by kernel_rfl, by kernel_rfl, by kernel_rfl⟩, h⟩
    · have h := h.2 (of_decide_eq_false hb)
      refine Vc.exit ?_
      refine outOf_hit ?_
      refine Vc.seq ?_
      refine Vc.region ?_
      refine vcL_pure rfl rfl (Sl.v context) (fun w => by kernel_rfl) ?_
      refine vcL_eff rfl (opVC_call rfl (by kernel_rfl) (callS.mono h fun v87 vw86 h => ?_)) 
      obtain ⟨rfl, h⟩ := h
      refine vcL_nil ?_
      refine Vc.seq ?_
      refine Vc.region ?_
      refine vcL_pure rfl rfl (Sl.v context) (fun w => by kernel_rfl) ?_
      refine vcL_eff rfl (opVC_call rfl (by kernel_rfl) (callS.mono h fun v90 vw89 h => ?_)) 
      obtain ⟨t98, rfl, h⟩ := h
      refine vcL_purs 2 [(9, (Value.bool true)), (8, (Sl.v t98))] (by kernel_rfl) ?_
      refine vcL_nil ?_
      refine Vc.ret ?_
      refine outs_ret ?_
      refine done_mk (Value.tuple #[(Sl.v t98), (Value.bool true)]) (res2 (resC_tmp (by kernel_rfl)) (resC_tmp (by kernel_rfl))) ?_
      exact ⟨t98, true, rfl, h⟩
theorem wants_Context.go {c : Option Addr} {m_Deps : Sl} {m_Dev : Sl} {m_Optional : Sl} {m_Overrides : Sl} {env : Sl} {p_Name : ByteArray} {p_Version_Major : Int} {p_Version_Minor : Int} {p_Version_Patch : Int} {w : World} {k : Value → World → Prop} (h : wants_Context c m_Deps m_Dev m_Optional m_Overrides env p_Name p_Version_Major p_Version_Minor p_Version_Patch w fun r0 r1 w' => k (Value.tuple #[(Sl.v r0), (Value.bool r1)]) w') : callS Tryz.prog 13 [(Value.pointer c), (Value.agg #[(Sl.v m_Deps), (Sl.v m_Dev), (Sl.v m_Optional), (Sl.v m_Overrides)]), (Sl.v env), (Value.agg #[(Value.string p_Name), (Value.int .i64 p_Version_Major), (Value.int .i64 p_Version_Minor), (Value.int .i64 p_Version_Patch)])] w k := (wants_Context.sound c m_Deps m_Dev m_Optional m_Overrides env p_Name p_Version_Major p_Version_Minor p_Version_Patch w _ h).mono (by rintro _ _ ⟨r0, r1, rfl, h⟩; exact h)

/-- halyard/halyardlaw09.pins -/
def halyardlaw09_pins (a : Sl) (b : Sl) (w : World) (R : Bool → World → Prop) : Prop :=
  loop2 ((a.len : Int) == (b.len : Int)) 0 w fun same i vw nxt => ((i < (a.len : Int) → bnd vw.drew fun (vw1 : World) => ∃ (ad : Addr), grd same (a.a = some ad ∧ (0 : Int) ≤ i ∧ i < (a.len : Int)) ∧ ∃ (t23_Name : ByteArray) (t23_Version_Major : Int) (t23_Version_Minor : Int) (t23_Version_Patch : Int), grd same (ldc vw1 (ad.add (i.toNat * 4)) [(Value.string t23_Name), (Value.int .i64 t23_Version_Major), (Value.int .i64 t23_Version_Minor), (Value.int .i64 t23_Version_Patch)]) ∧ ∃ (ad2 : Addr), grd same (b.a = some ad2 ∧ (0 : Int) ≤ i ∧ i < (b.len : Int)) ∧ ∃ (t27_Name : ByteArray) (t27_Version_Major : Int) (t27_Version_Minor : Int) (t27_Version_Patch : Int), grd same (ldc vw1 (ad2.add (i.toNat * 4)) [(Value.string t27_Name), (Value.int .i64 t27_Version_Major), (Value.int .i64 t27_Version_Minor), (Value.int .i64 t27_Version_Patch)]) ∧ nxt (same && ((bEq t23_Name t27_Name) && (((t23_Version_Major == t27_Version_Major) && ((t23_Version_Minor == t27_Version_Minor) && ((t23_Version_Patch == t27_Version_Patch) && true))) && true))) (wrapI (i + 1)) vw1) ∧ (¬ (i < (a.len : Int)) → R same vw))
set_option maxHeartbeats 8000000 in
theorem halyardlaw09_pins.sound (a : Sl) (b : Sl) (w : World) (R : Bool → World → Prop) (h : halyardlaw09_pins a b w R) : callS Tryz.prog 14 [(Sl.v a), (Sl.v b)] w (fun v w' => ∃ (r0 : Bool), v = (Value.bool r0) ∧ R r0 w') := by
  unfold halyardlaw09_pins at h
  refine calls_of_vc 31 rfl Tryz.func14 rfl (by kernel_rfl) (by simp) ?_
  refine Vc.seq ?_
  refine Vc.region ?_
  refine vcL_pure rfl rfl (Value.bool false) (fun w => by kernel_rfl) ?_
  refine vcL_nil ?_
  refine Vc.seq ?_
  refine Vc.region ?_
  refine vcL_purs 6 [(5, (Value.bool ((a.len : Int) == (b.len : Int)))), (11, (Value.bool ((a.len : Int) == (b.len : Int)))), (10, (Value.int .i64 (b.len : Int))), (9, (Sl.v b)), (8, (Value.int .i64 (a.len : Int))), (7, (Sl.v a))] (by kernel_rfl) ?_
  refine vcL_nil ?_
  refine Vc.seq ?_
  refine Vc.seq ?_
  refine Vc.region ?_
  refine vcL_pure rfl rfl (Value.int .i64 0) (fun w => by kernel_rfl) ?_
  refine vcL_nil ?_
  refine Vc.block ?_
  obtain ⟨vI, mu, h, hr⟩ := h
  refine Vc.loopJ (σ := Bool × Int) [5, 6] [12, 13, 14, 15, 16, 17, 18, 19, 20, 21, 22, 23, 24, 25, 26, 27, 28, 29] (fun s => [(5, (Value.bool s.1)), (6, (Value.int .i64 s.2))]) (fun s w => vI s.1 s.2 w) (fun s w => mu s.1 s.2 w) (((a.len : Int) == (b.len : Int)), 0) h (fun _ => rfl) (by kernel_rfl) ?_
  rintro ⟨same, i⟩ vw j h
  have h := hr same i vw h
  refine Vc.seq ?_
  refine Vc.seq ?_
  refine Vc.region ?_
  refine vcL_purs 4 [(15, (Value.bool (decide (i < (a.len : Int))))), (14, (Value.int .i64 (a.len : Int))), (13, (Sl.v a)), (12, (Value.int .i64 i))] (by kernel_rfl) ?_
  refine vcL_nil ?_
  refine Vc.cond (decide (i < (a.len : Int))) (by kernel_rfl) (fun hb => ?_) (fun hb => ?_)
  · have h := h.1 (of_decide_eq_true hb)
    refine Vc.skip ?_
    refine Vc.seq ?_
    refine Vc.block ?_
    obtain ⟨vw1, hvw1⟩ : ∃ y, y = vw.drew := ⟨_, rfl⟩
    have h := h vw1 hvw1
    refine Vc.draw (by kernel_rfl) (fun i => !(memN [] i)) (.pur 0 (.pur 1 (.pur 2 (.pur 3 (.pur 4 (.val 5 (.pur 6 (.pur 7 (.pur 8 (.val 9 (.pur 10 (.pur 11 (.pur 12 .fin))))))))))))) (by kernel_rfl) ?_
    rw [← hvw1]
    clear hvw1
    refine vcS_pure rfl rfl rfl (Value.bool same) (fun w => by kernel_rfl) ?_
    refine vcS_pure rfl rfl rfl (Value.bool same) (fun w => by kernel_rfl) ?_
    refine vcS_guard rfl same (wanted_g (d := 19) rfl (by kernel_rfl) same (by kernel_rfl) same (eqT same)) rfl (Sl.v a) (fun hg w => by subst hg; kernel_rfl) ?_
    refine vcS_guard rfl same (wanted_g (d := 19) rfl (by kernel_rfl) same (by kernel_rfl) same (eqT same)) rfl (Value.int .i64 i) (fun hg w => by subst hg; kernel_rfl) ?_
    obtain ⟨ad, hi, h⟩ := h
    refine vcS_guard rfl same (wanted_g (d := 19) rfl (by kernel_rfl) same (by kernel_rfl) same (eqT same)) rfl (Value.pointer (some (ad.add (i.toNat * 4)))) (fun hg w => by subst hg; exact exec_indexAt (s := a) (el := 32) rfl (by kernel_rfl) (by kernel_rfl) (by kernel_rfl) (fun w => by kernel_rfl) (hi rfl).1 (hi rfl).2.1 (hi rfl).2.2 w) ?_
    obtain ⟨t23_Name, t23_Version_Major, t23_Version_Minor, t23_Version_Patch, hc, h⟩ := h
    refine vcS_valG rfl same (wanted_g (d := 19) rfl (by kernel_rfl) same (by kernel_rfl) same (eqT same)) rfl (Value.agg #[(Value.string t23_Name), (Value.int .i64 t23_Version_Major), (Value.int .i64 t23_Version_Minor), (Value.int .i64 t23_Version_Patch)]) (fun hg w' hx => by subst hg; exact exec_load rfl (by kernel_rfl) (run_loadN (fun w => by kernel_rfl) (fun w => by kernel_rfl) ((hc rfl).ext hx))) ?_
    refine vcS_guard rfl same (wanted_g (d := 19) rfl (by kernel_rfl) same (by kernel_rfl) same (eqT same)) rfl (Sl.v b) (fun hg w => by subst hg; kernel_rfl) ?_
    refine vcS_guard rfl same (wanted_g (d := 19) rfl (by kernel_rfl) same (by kernel_rfl) same (eqT same)) rfl (Value.int .i64 i) (fun hg w => by subst hg; kernel_rfl) ?_
    obtain ⟨ad2, hi3, h⟩ := h
    refine vcS_guard rfl same (wanted_g (d := 19) rfl (by kernel_rfl) same (by kernel_rfl) same (eqT same)) rfl (Value.pointer (some (ad2.add (i.toNat * 4)))) (fun hg w => by subst hg; exact exec_indexAt (s := b) (el := 32) rfl (by kernel_rfl) (by kernel_rfl) (by kernel_rfl) (fun w => by kernel_rfl) (hi3 rfl).1 (hi3 rfl).2.1 (hi3 rfl).2.2 w) ?_
    obtain ⟨t27_Name, t27_Version_Major, t27_Version_Minor, t27_Version_Patch, hc4, h⟩ := h
    refine vcS_valG rfl same (wanted_g (d := 19) rfl (by kernel_rfl) same (by kernel_rfl) same (eqT same)) rfl (Value.agg #[(Value.string t27_Name), (Value.int .i64 t27_Version_Major), (Value.int .i64 t27_Version_Minor), (Value.int .i64 t27_Version_Patch)]) (fun hg w' hx => by subst hg; exact exec_load rfl (by kernel_rfl) (run_loadN (fun w => by kernel_rfl) (fun w => by kernel_rfl) ((hc4 rfl).ext hx))) ?_
    refine vcS_guard rfl same (wanted_g (d := 19) rfl (by kernel_rfl) same (by kernel_rfl) same (eqT same)) rfl (Value.bool ((bEq t23_Name t27_Name) && (((t23_Version_Major == t27_Version_Major) && ((t23_Version_Minor == t27_Version_Minor) && ((t23_Version_Patch == t27_Version_Patch) && true))) && true))) (fun hg w => by subst hg; exact exec_struct_eq rfl (by kernel_rfl) (by kernel_rfl) (by kernel_rfl) (eqv_32 9997 t23_Name t23_Version_Major t23_Version_Minor t23_Version_Patch t27_Name t27_Version_Major t27_Version_Minor t27_Version_Patch w)) ?_
    refine vcS_pure rfl rfl rfl (Value.bool (same && ((bEq t23_Name t27_Name) && (((t23_Version_Major == t27_Version_Major) && ((t23_Version_Minor == t27_Version_Minor) && ((t23_Version_Patch == t27_Version_Patch) && true))) && true)))) (fun w => by cases same <;> kernel_rfl) ?_
    refine vcS_pure rfl rfl rfl (Value.bool (same && ((bEq t23_Name t27_Name) && (((t23_Version_Major == t27_Version_Major) && ((t23_Version_Minor == t27_Version_Minor) && ((t23_Version_Patch == t27_Version_Patch) && true))) && true)))) (fun w => by kernel_rfl) ?_
    refine vcS_fin ?_
    refine Vc.region ?_
    refine vcL_purs 3 [(6, (Value.int .i64 (wrapI (i + 1)))), (17, (Value.int .i64 (wrapI (i + 1)))), (16, (Value.int .i64 i))] (by kernel_rfl) ?_
    refine vcL_nil ?_
    exact ⟨((same && ((bEq t23_Name t27_Name) && (((t23_Version_Major == t27_Version_Major) && ((t23_Version_Minor == t27_Version_Minor) && ((t23_Version_Patch == t27_Version_Patch) && true))) && true))), (wrapI (i + 1))), 40, ⟨rfl, by kernel_rfl, by kernel_rfl, by kernel_rfl⟩, h⟩
  · have h := h.2 (of_decide_eq_false hb)
    refine Vc.exit ?_
    refine outOf_hit ?_
    refine Vc.seq ?_
    refine Vc.region ?_
    refine vcL_purs 2 [(4, (Value.bool same)), (30, (Value.bool same))] (by kernel_rfl) ?_
    refine vcL_nil ?_
    refine Vc.ret ?_
    refine outs_ret ?_
    refine done_mk (Value.bool same) (res1 (resC_tmp (by kernel_rfl))) ?_
    exact ⟨same, rfl, h⟩
theorem halyardlaw09_pins.go {a : Sl} {b : Sl} {w : World} {k : Value → World → Prop} (h : halyardlaw09_pins a b w fun r0 w' => k (Value.bool r0) w') : callS Tryz.prog 14 [(Sl.v a), (Sl.v b)] w k := (halyardlaw09_pins.sound a b w _ h).mono (by rintro _ _ ⟨r0, rfl, h⟩; exact h)

/-- halyard/halyardref05.Less -/
def halyardref05_Less (a : ByteArray) (b : ByteArray) (w : World) (R : Bool → World → Prop) : Prop :=
  callS Tryz.prog 59 [(Value.string a), (Value.string b)] w fun v vw => ∃ (t7 : Bool), v = (Value.bool t7) ∧ R t7 vw
set_option maxHeartbeats 8000000 in
theorem halyardref05_Less.sound (a : ByteArray) (b : ByteArray) (w : World) (R : Bool → World → Prop) (h : halyardref05_Less a b w R) : callS Tryz.prog 15 [(Value.string a), (Value.string b)] w (fun v w' => ∃ (r0 : Bool), v = (Value.bool r0) ∧ R r0 w') := by
  unfold halyardref05_Less at h
  refine calls_of_vc 8 rfl Tryz.func15 rfl (by kernel_rfl) (by simp) ?_
  refine Vc.seq ?_
  refine Vc.region ?_
  refine vcL_pure rfl rfl (Value.bool false) (fun w => by kernel_rfl) ?_
  refine vcL_nil ?_
  refine Vc.seq ?_
  refine Vc.region ?_
  refine vcL_purs 2 [(6, (Value.string b)), (5, (Value.string a))] (by kernel_rfl) ?_
  refine vcL_eff rfl (opVC_call rfl (by kernel_rfl) (callS.mono h fun v vw h => ?_)) 
  obtain ⟨t7, rfl, h⟩ := h
  refine vcL_pure rfl rfl (Value.bool t7) (fun w => by kernel_rfl) ?_
  refine vcL_nil ?_
  refine Vc.ret ?_
  refine outs_ret ?_
  refine done_mk (Value.bool t7) (res1 (resC_tmp (by kernel_rfl))) ?_
  exact ⟨t7, rfl, h⟩
theorem halyardref05_Less.go {a : ByteArray} {b : ByteArray} {w : World} {k : Value → World → Prop} (h : halyardref05_Less a b w fun r0 w' => k (Value.bool r0) w') : callS Tryz.prog 15 [(Value.string a), (Value.string b)] w k := (halyardref05_Less.sound a b w _ h).mono (by rintro _ _ ⟨r0, rfl, h⟩; exact h)

/-- halyard/catalog.New -/
def catalog_New (w : World) (R : Option Addr → World → Prop) : Prop :=
  semS Tryz.prog (Instr.makeMap 101 none) w fun v vw => ∃ (t1 : Option Nat), v = (Value.map t1) ∧ newS vw [(Value.map t1)] 103 fun a vw1 => R (some a) vw1
set_option maxHeartbeats 8000000 in
theorem catalog_New.sound (w : World) (R : Option Addr → World → Prop) (h : catalog_New w R) : callS Tryz.prog 16 [] w (fun v w' => ∃ (r0 : Option Addr), v = (Value.pointer r0) ∧ R r0 w') := by
  unfold catalog_New at h
  refine calls_of_vc 4 rfl Tryz.func16 rfl (by kernel_rfl) (by simp) ?_
  refine Vc.seq ?_
  refine Vc.region ?_
  refine vcL_pure rfl rfl (Value.pointer none) (fun w => by kernel_rfl) ?_
  refine vcL_nil ?_
  refine Vc.seq ?_
  refine Vc.region ?_
  refine vcL_eff rfl (opVC_sem rfl (c := Instr.makeMap 101 none) (by kernel_rfl) (semS.mono h fun v vw h => ?_)) 
  obtain ⟨t1, rfl, h⟩ := h
  refine vcL_pure rfl rfl (Value.agg #[(Value.map t1)]) (fun w => by kernel_rfl) ?_
  refine vcL_eff rfl (opVC_new rfl (fun a => Value.pointer (some a)) (by kernel_rfl) (newS.mono h fun a vw1 hx h => ?_)) 
  refine vcL_pure rfl rfl (Value.pointer (some a)) (fun w => by kernel_rfl) ?_
  refine vcL_nil ?_
  refine Vc.ret ?_
  refine outs_ret ?_
  refine done_mk (Value.pointer (some a)) (res1 (resC_tmp (by kernel_rfl))) ?_
  exact ⟨(some a), rfl, h⟩
theorem catalog_New.go {w : World} {k : Value → World → Prop} (h : catalog_New w fun r0 w' => k (Value.pointer r0) w') : callS Tryz.prog 16 [] w k := (catalog_New.sound w _ h).mono (by rintro _ _ ⟨r0, rfl, h⟩; exact h)

/-- (*halyard/catalog.Catalog).Put -/
def catalog_Catalog_Put (c : Option Addr) (p_Name : ByteArray) (p_Version_Major : Int) (p_Version_Minor : Int) (p_Version_Patch : Int) (p_Deps : Sl) (p_Peers : Sl) (p_Optional : Sl) (w : World) (R : Int → World → Prop) : Prop :=
  newS w [(Value.string p_Name), (Value.int .i64 p_Version_Major), (Value.int .i64 p_Version_Minor), (Value.int .i64 p_Version_Patch), (Sl.v p_Deps), (Sl.v p_Peers), (Sl.v p_Optional)] 48 fun a vw => ∃ (t8_Name : ByteArray) (t8_Version_Major : Int) (t8_Version_Minor : Int) (t8_Version_Patch : Int) (t8_Deps : Sl) (t8_Peers : Sl) (t8_Optional : Sl), (ldc vw a [(Value.string t8_Name), (Value.int .i64 t8_Version_Major), (Value.int .i64 t8_Version_Minor), (Value.int .i64 t8_Version_Patch), (Sl.v t8_Deps), (Sl.v t8_Peers), (Sl.v t8_Optional)]) ∧ callS Tryz.prog 61 [(Value.agg #[(Value.string t8_Name), (Value.int .i64 t8_Version_Major), (Value.int .i64 t8_Version_Minor), (Value.int .i64 t8_Version_Patch), (Sl.v t8_Deps), (Sl.v t8_Peers), (Sl.v t8_Optional)])] vw fun v vw1 => ∃ (t9 : Bool), v = (Value.bool t9) ∧ (((!t9) = true → R 24 vw1) ∧ ((!t9) = false → ∃ (t12 : ByteArray), (ldc vw1 a [(Value.string t12)]) ∧ ∃ (t14_Major : Int) (t14_Minor : Int) (t14_Patch : Int), (ldc vw1 (a.add 1) [(Value.int .i64 t14_Major), (Value.int .i64 t14_Minor), (Value.int .i64 t14_Patch)]) ∧ newS vw1 [(Value.string (ByteArray.mk #[])), (Value.int .i64 0), (Value.int .i64 0), (Value.int .i64 0)] 106 fun a4 vw5 => stw vw5 a4 [(Value.string t12), (Value.int .i64 t14_Major), (Value.int .i64 t14_Minor), (Value.int .i64 t14_Patch)] fun vw6 => bnd vw6.drew fun (vw7 : World) => ∃ (p : Addr), (c = some p) ∧ ∃ (t20 : Option Nat), (ldc vw7 p [(Value.map t20)]) ∧ ∃ (t21_name : ByteArray) (t21_version_Major : Int) (t21_version_Minor : Int) (t21_version_Patch : Int), (ldc vw7 a4 [(Value.string t21_name), (Value.int .i64 t21_version_Major), (Value.int .i64 t21_version_Minor), (Value.int .i64 t21_version_Patch)]) ∧ ∃ (t22_Name : ByteArray) (t22_Version_Major : Int) (t22_Version_Minor : Int) (t22_Version_Patch : Int) (t22_Deps : Sl) (t22_Peers : Sl) (t22_Optional : Sl) (t22b : Bool), (stabS Tryz.prog (Instr.lookup 101 (Value.map t20) (Value.agg #[(Value.string t21_name), (Value.int .i64 t21_version_Major), (Value.int .i64 t21_version_Minor), (Value.int .i64 t21_version_Patch)]) true) vw7 (Value.tuple #[(Value.agg #[(Value.string t22_Name), (Value.int .i64 t22_Version_Major), (Value.int .i64 t22_Version_Minor), (Value.int .i64 t22_Version_Patch), (Sl.v t22_Deps), (Sl.v t22_Peers), (Sl.v t22_Optional)]), (Value.bool t22b)])) ∧ newS vw7 [(Value.string (ByteArray.mk #[])), (Value.int .i64 0), (Value.int .i64 0), (Value.int .i64 0), (Sl.v Sl.nil), (Sl.v Sl.nil), (Sl.v Sl.nil)] 48 fun a12 vw13 => stw vw13 a12 [(Value.string t22_Name), (Value.int .i64 t22_Version_Major), (Value.int .i64 t22_Version_Minor), (Value.int .i64 t22_Version_Patch), (Sl.v t22_Deps), (Sl.v t22_Peers), (Sl.v t22_Optional)] fun vw14 => ((t22b = true → R 11 vw14) ∧ (t22b = false → ∃ (p15 : Addr), (c = some p15) ∧ ∃ (t29 : Option Nat), (ldc vw14 p15 [(Value.map t29)]) ∧ ∃ (t30 : Int), (stabS Tryz.prog (Builtin.len_ #[101] 3 #[(Value.map t29)]) vw14 (Value.int .i64 t30)) ∧ ((128 ≤ t30 → R 26 vw14) ∧ (¬ (128 ≤ t30) → bnd vw14.drew fun (vw19 : World) => ∃ (p20 : Addr), (c = some p20) ∧ ∃ (t35 : Option Nat), (ldc vw19 p20 [(Value.map t35)]) ∧ ∃ (t36_name : ByteArray) (t36_version_Major : Int) (t36_version_Minor : Int) (t36_version_Patch : Int), (ldc vw19 a4 [(Value.string t36_name), (Value.int .i64 t36_version_Major), (Value.int .i64 t36_version_Minor), (Value.int .i64 t36_version_Patch)]) ∧ ∃ (t37_Name : ByteArray) (t37_Version_Major : Int) (t37_Version_Minor : Int) (t37_Version_Patch : Int) (t37_Deps : Sl) (t37_Peers : Sl) (t37_Optional : Sl), (ldc vw19 a [(Value.string t37_Name), (Value.int .i64 t37_Version_Major), (Value.int .i64 t37_Version_Minor), (Value.int .i64 t37_Version_Patch), (Sl.v t37_Deps), (Sl.v t37_Peers), (Sl.v t37_Optional)]) ∧ callX Tryz.prog 62 [(Value.agg #[(Value.string t37_Name), (Value.int .i64 t37_Version_Major), (Value.int .i64 t37_Version_Minor), (Value.int .i64 t37_Version_Patch), (Sl.v t37_Deps), (Sl.v t37_Peers), (Sl.v t37_Optional)])] vw19 fun v26 vw25 => ∃ (t38_Name : ByteArray) (t38_Version_Major : Int) (t38_Version_Minor : Int) (t38_Version_Patch : Int) (t38_Deps : Sl) (t38_Peers : Sl) (t38_Optional : Sl), v26 = (Value.agg #[(Value.string t38_Name), (Value.int .i64 t38_Version_Major), (Value.int .i64 t38_Version_Minor), (Value.int .i64 t38_Version_Patch), (Sl.v t38_Deps), (Sl.v t38_Peers), (Sl.v t38_Optional)]) ∧ semU Tryz.prog (Instr.mapUpdate 101 (Value.map t35) (Value.agg #[(Value.string t36_name), (Value.int .i64 t36_version_Major), (Value.int .i64 t36_version_Minor), (Value.int .i64 t36_version_Patch)]) (Value.agg #[(Value.string t38_Name), (Value.int .i64 t38_Version_Major), (Value.int .i64 t38_Version_Minor), (Value.int .i64 t38_Version_Patch), (Sl.v t38_Deps), (Sl.v t38_Peers), (Sl.v t38_Optional)])) vw25 fun vw28 => R 0 vw28))))))
set_option maxHeartbeats 8000000 in
theorem catalog_Catalog_Put.sound (c : Option Addr) (p_Name : ByteArray) (p_Version_Major : Int) (p_Version_Minor : Int) (p_Version_Patch : Int) (p_Deps : Sl) (p_Peers : Sl) (p_Optional : Sl) (w : World) (R : Int → World → Prop) (h : catalog_Catalog_Put c p_Name p_Version_Major p_Version_Minor p_Version_Patch p_Deps p_Peers p_Optional w R) : callS Tryz.prog 19 [(Value.pointer c), (Value.agg #[(Value.string p_Name), (Value.int .i64 p_Version_Major), (Value.int .i64 p_Version_Minor), (Value.int .i64 p_Version_Patch), (Sl.v p_Deps), (Sl.v p_Peers), (Sl.v p_Optional)])] w (fun v w' => ∃ (r0 : Int), v = (Value.int .i64 r0) ∧ R r0 w') := by
  unfold catalog_Catalog_Put at h
  refine calls_of_vc 39 rfl Tryz.func19 rfl (by kernel_rfl) (by simp) ?_
  refine Vc.seq ?_
  refine Vc.region ?_
  refine vcL_eff rfl (opVC_new rfl (fun a => Value.pointer (some a)) (by kernel_rfl) (newS.mono h fun a vw hx h => ?_)) 
  refine vcL_pure rfl rfl (Value.int .i64 0) (fun w => by kernel_rfl) ?_
  refine vcL_nil ?_
  refine Vc.seq ?_
  refine Vc.seq ?_
  refine Vc.region ?_
  obtain ⟨t8_Name, t8_Version_Major, t8_Version_Minor, t8_Version_Patch, t8_Deps, t8_Peers, t8_Optional, hc, h⟩ := h
  refine vcL_val rfl rfl (Value.agg #[(Value.string t8_Name), (Value.int .i64 t8_Version_Major), (Value.int .i64 t8_Version_Minor), (Value.int .i64 t8_Version_Patch), (Sl.v t8_Deps), (Sl.v t8_Peers), (Sl.v t8_Optional)]) (exec_load rfl (by kernel_rfl) (run_loadN (fun w => by kernel_rfl) (fun w => by kernel_rfl) ((hc)))) ?_
  refine vcL_eff rfl (opVC_call rfl (by kernel_rfl) (callS.mono h fun v vw1 h => ?_)) 
  obtain ⟨t9, rfl, h⟩ := h
  refine vcL_pure rfl rfl (Value.bool (!t9)) (fun w => by kernel_rfl) ?_
  refine vcL_nil ?_
  refine Vc.cond (!t9) (by kernel_rfl) (fun hb => ?_) (fun hb => ?_)
  · have h := h.1 (hb)
    refine Vc.seq ?_
    refine Vc.region ?_
    refine vcL_pure rfl rfl (Value.int .i64 24) (fun w => by kernel_rfl) ?_
    refine vcL_nil ?_
    refine Vc.ret ?_
    refine outs_ret ?_
    refine done_mk (Value.int .i64 24) (res1 (resC_tmp (by kernel_rfl))) ?_
    exact ⟨24, rfl, h⟩
  · have h := h.2 (hb)
    refine Vc.skip ?_
    refine Vc.seq ?_
    refine Vc.region ?_
    refine vcL_pure rfl rfl (Value.pointer (some a)) (fun w => by kernel_rfl) ?_
    obtain ⟨t12, hc2, h⟩ := h
    refine vcL_val rfl rfl (Value.string t12) (exec_load rfl (by kernel_rfl) (run_load1 (fun w => by kernel_rfl) ((hc2)))) ?_
    refine vcL_pure rfl rfl (Value.pointer (some (a.add 1))) (fun w => by kernel_rfl) ?_
    obtain ⟨t14_Major, t14_Minor, t14_Patch, hc3, h⟩ := h
    refine vcL_val rfl rfl (Value.agg #[(Value.int .i64 t14_Major), (Value.int .i64 t14_Minor), (Value.int .i64 t14_Patch)]) (exec_load rfl (by kernel_rfl) (run_loadN (fun w => by kernel_rfl) (fun w => by kernel_rfl) ((hc3)))) ?_
    refine vcL_pure rfl rfl (Value.agg #[(Value.string t12), (Value.int .i64 t14_Major), (Value.int .i64 t14_Minor), (Value.int .i64 t14_Patch)]) (fun w => by kernel_rfl) ?_
    refine vcL_eff rfl (opVC_new rfl (fun a => Value.pointer (some a)) (by kernel_rfl) (newS.mono h fun a4 vw5 hx h => ?_)) 
    refine vcL_eff rfl (opVC_store rfl rfl (a := a4) (by kernel_rfl) (v := (Value.agg #[(Value.string t12), (Value.int .i64 t14_Major), (Value.int .i64 t14_Minor), (Value.int .i64 t14_Patch)])) (by kernel_rfl) [(Value.string t12), (Value.int .i64 t14_Major), (Value.int .i64 t14_Minor), (Value.int .i64 t14_Patch)] (by kernel_rfl) (fun w => by kernel_rfl) (by kernel_rfl) (stw.mono h fun vw6 h => ?_)) 
    refine vcL_nil ?_
    refine Vc.seq ?_
    refine Vc.seq ?_
    obtain ⟨vw7, hvw7⟩ : ∃ y, y = vw6.drew := ⟨_, rfl⟩
    have h := h vw7 hvw7
    refine Vc.draw (by kernel_rfl) (fun i => !(memN [10] i)) (.pur 0 (.pur 1 (.pur 2 (.val 3 (.val 4 (.val 5 (.pur 6 (.pur 7 (.pur 8 (.eff 9 (.eff 10 (.pur 11 .fin) .stop) .stop)))))))))) (by kernel_rfl) ?_
    rw [← hvw7]
    clear hvw7
    refine vcS_pure rfl rfl rfl (Value.pointer c) (fun w => by kernel_rfl) ?_
    obtain ⟨p, hp, h⟩ := h
    refine vcS_pure rfl rfl rfl (Value.pointer (some p)) (fun w => by exact exec_nilCheck rfl (by kernel_rfl) (hp) w) ?_
    refine vcS_pure rfl rfl rfl (Value.pointer (some p)) (fun w => by kernel_rfl) ?_
    obtain ⟨t20, hc8, h⟩ := h
    refine vcS_val rfl rfl rfl (Value.map t20) (fun w' hx => exec_load rfl (by kernel_rfl) (run_load1 (fun w => by kernel_rfl) ((hc8).ext hx))) ?_
    obtain ⟨t21_name, t21_version_Major, t21_version_Minor, t21_version_Patch, hc9, h⟩ := h
    refine vcS_val rfl rfl rfl (Value.agg #[(Value.string t21_name), (Value.int .i64 t21_version_Major), (Value.int .i64 t21_version_Minor), (Value.int .i64 t21_version_Patch)]) (fun w' hx => exec_load rfl (by kernel_rfl) (run_loadN (fun w => by kernel_rfl) (fun w => by kernel_rfl) ((hc9).ext hx))) ?_
    obtain ⟨t22_Name, t22_Version_Major, t22_Version_Minor, t22_Version_Patch, t22_Deps, t22_Peers, t22_Optional, t22b, hl, h⟩ := h
    refine vcS_val rfl rfl rfl (Value.tuple #[(Value.agg #[(Value.string t22_Name), (Value.int .i64 t22_Version_Major), (Value.int .i64 t22_Version_Minor), (Value.int .i64 t22_Version_Patch), (Sl.v t22_Deps), (Sl.v t22_Peers), (Sl.v t22_Optional)]), (Value.bool t22b)]) (fun w' hx => exec_sem (c := Instr.lookup 101 (Value.map t20) (Value.agg #[(Value.string t21_name), (Value.int .i64 t21_version_Major), (Value.int .i64 t21_version_Minor), (Value.int .i64 t21_version_Patch)]) true) (by kernel_rfl) ((hl) _ hx)) ?_
    refine vcS_pure rfl rfl rfl (Value.tuple #[(Value.agg #[(Value.string t22_Name), (Value.int .i64 t22_Version_Major), (Value.int .i64 t22_Version_Minor), (Value.int .i64 t22_Version_Patch), (Sl.v t22_Deps), (Sl.v t22_Peers), (Sl.v t22_Optional)]), (Value.bool t22b)]) (fun w => by kernel_rfl) ?_
    refine vcS_pure rfl rfl rfl (Value.agg #[(Value.string t22_Name), (Value.int .i64 t22_Version_Major), (Value.int .i64 t22_Version_Minor), (Value.int .i64 t22_Version_Patch), (Sl.v t22_Deps), (Sl.v t22_Peers), (Sl.v t22_Optional)]) (fun w => by kernel_rfl) ?_
    refine vcS_pure rfl rfl rfl (Value.bool t22b) (fun w => by kernel_rfl) ?_
    refine vcS_eff rfl rfl (opVC_new rfl (fun a => Value.pointer (some a)) (by kernel_rfl) (newS.mono h fun a12 vw13 hx h => ?_)) vcS_stop
    refine ⟨fun _ => hx, ?_⟩
    refine vcS_eff rfl rfl (opVC_store rfl rfl (a := a12) (by kernel_rfl) (v := (Value.agg #[(Value.string t22_Name), (Value.int .i64 t22_Version_Major), (Value.int .i64 t22_Version_Minor), (Value.int .i64 t22_Version_Patch), (Sl.v t22_Deps), (Sl.v t22_Peers), (Sl.v t22_Optional)])) (by kernel_rfl) [(Value.string t22_Name), (Value.int .i64 t22_Version_Major), (Value.int .i64 t22_Version_Minor), (Value.int .i64 t22_Version_Patch), (Sl.v t22_Deps), (Sl.v t22_Peers), (Sl.v t22_Optional)] (by kernel_rfl) (fun w => by kernel_rfl) (by kernel_rfl) (stw.mono h fun vw14 h => ?_)) vcS_stop
    refine ⟨fun hb => absurd hb (by decide), ?_⟩
    refine vcS_pure rfl rfl rfl (Value.bool t22b) (fun w => by kernel_rfl) ?_
    refine vcS_fin ?_
    refine Vc.seq ?_
    refine Vc.region ?_
    refine vcL_pure rfl rfl (Value.bool t22b) (fun w => by kernel_rfl) ?_
    refine vcL_nil ?_
    refine Vc.cond t22b (by kernel_rfl) (fun hb => ?_) (fun hb => ?_)
    · have h := h.1 (hb)
      refine Vc.seq ?_
      refine Vc.region ?_
      refine vcL_pure rfl rfl (Value.int .i64 11) (fun w => by kernel_rfl) ?_
      refine vcL_nil ?_
      refine Vc.ret ?_
      refine outs_ret ?_
      refine done_mk (Value.int .i64 11) (res1 (resC_tmp (by kernel_rfl))) ?_
      exact ⟨11, rfl, h⟩
    · have h := h.2 (hb)
      refine Vc.skip ?_
      refine Vc.seq ?_
      refine Vc.seq ?_
      refine Vc.region ?_
      refine vcL_pure rfl rfl (Value.pointer c) (fun w => by kernel_rfl) ?_
      obtain ⟨p15, hp16, h⟩ := h
      refine vcL_pure rfl rfl (Value.pointer (some p15)) (fun w => by exact exec_nilCheck rfl (by kernel_rfl) (hp16) w) ?_
      refine vcL_pure rfl rfl (Value.pointer (some p15)) (fun w => by kernel_rfl) ?_
      obtain ⟨t29, hc17, h⟩ := h
      refine vcL_val rfl rfl (Value.map t29) (exec_load rfl (by kernel_rfl) (run_load1 (fun w => by kernel_rfl) ((hc17)))) ?_
      obtain ⟨t30, hl18, h⟩ := h
      refine vcL_val rfl rfl (Value.int .i64 t30) (exec_sem (c := Builtin.len_ #[101] 3 #[(Value.map t29)]) (by kernel_rfl) ((hl18) _ (Ext.refl _))) ?_
      refine vcL_pure rfl rfl (Value.bool (decide (128 ≤ t30))) (fun w => by kernel_rfl) ?_
      refine vcL_nil ?_
      refine Vc.cond (decide (128 ≤ t30)) (by kernel_rfl) (fun hb => ?_) (fun hb => ?_)
      · have h := h.1 (of_decide_eq_true hb)
        refine Vc.seq ?_
        refine Vc.region ?_
        refine vcL_pure rfl rfl (Value.int .i64 26) (fun w => by kernel_rfl) ?_
        refine vcL_nil ?_
        refine Vc.ret ?_
        refine outs_ret ?_
        refine done_mk (Value.int .i64 26) (res1 (resC_tmp (by kernel_rfl))) ?_
        exact ⟨26, rfl, h⟩
      · have h := h.2 (of_decide_eq_false hb)
        refine Vc.skip ?_
        refine Vc.seq ?_
        obtain ⟨vw19, hvw19⟩ : ∃ y, y = vw14.drew := ⟨_, rfl⟩
        have h := h vw19 hvw19
        refine Vc.draw (by kernel_rfl) (fun i => !(memN [7] i)) (.pur 0 (.pur 1 (.pur 2 (.val 3 (.val 4 (.val 5 (.eff 6 (.eff 7 .fin .stop) .stop))))))) (by kernel_rfl) ?_
        rw [← hvw19]
        clear hvw19
        refine vcS_pure rfl rfl rfl (Value.pointer c) (fun w => by kernel_rfl) ?_
        obtain ⟨p20, hp21, h⟩ := h
        refine vcS_pure rfl rfl rfl (Value.pointer (some p20)) (fun w => by exact exec_nilCheck rfl (by kernel_rfl) (hp21) w) ?_
        refine vcS_pure rfl rfl rfl (Value.pointer (some p20)) (fun w => by kernel_rfl) ?_
        obtain ⟨t35, hc22, h⟩ := h
        refine vcS_val rfl rfl rfl (Value.map t35) (fun w' hx => exec_load rfl (by kernel_rfl) (run_load1 (fun w => by kernel_rfl) ((hc22).ext hx))) ?_
        obtain ⟨t36_name, t36_version_Major, t36_version_Minor, t36_version_Patch, hc23, h⟩ := h
        refine vcS_val rfl rfl rfl (Value.agg #[(Value.string t36_name), (Value.int .i64 t36_version_Major), (Value.int .i64 t36_version_Minor), (Value.int .i64 t36_version_Patch)]) (fun w' hx => exec_load rfl (by kernel_rfl) (run_loadN (fun w => by kernel_rfl) (fun w => by kernel_rfl) ((hc23).ext hx))) ?_
        obtain ⟨t37_Name, t37_Version_Major, t37_Version_Minor, t37_Version_Patch, t37_Deps, t37_Peers, t37_Optional, hc24, h⟩ := h
        refine vcS_val rfl rfl rfl (Value.agg #[(Value.string t37_Name), (Value.int .i64 t37_Version_Major), (Value.int .i64 t37_Version_Minor), (Value.int .i64 t37_Version_Patch), (Sl.v t37_Deps), (Sl.v t37_Peers), (Sl.v t37_Optional)]) (fun w' hx => exec_load rfl (by kernel_rfl) (run_loadN (fun w => by kernel_rfl) (fun w => by kernel_rfl) ((hc24).ext hx))) ?_
        refine vcS_eff rfl rfl (opVC_call rfl (by kernel_rfl) (callS.mono h fun v26 vw25 h => ?_)) vcS_stop
        obtain ⟨hx27, h⟩ := h
        obtain ⟨t38_Name, t38_Version_Major, t38_Version_Minor, t38_Version_Patch, t38_Deps, t38_Peers, t38_Optional, rfl, h⟩ := h
        refine ⟨fun _ => hx27, ?_⟩
        refine vcS_eff rfl rfl (opVC_semU rfl (c := Instr.mapUpdate 101 (Value.map t35) (Value.agg #[(Value.string t36_name), (Value.int .i64 t36_version_Major), (Value.int .i64 t36_version_Minor), (Value.int .i64 t36_version_Patch)]) (Value.agg #[(Value.string t38_Name), (Value.int .i64 t38_Version_Major), (Value.int .i64 t38_Version_Minor), (Value.int .i64 t38_Version_Patch), (Sl.v t38_Deps), (Sl.v t38_Peers), (Sl.v t38_Optional)])) (by kernel_rfl) (semU.mono h fun vw28 h => ?_)) vcS_stop
        refine ⟨fun hb => absurd hb (by decide), ?_⟩
        refine vcS_fin ?_
        refine Vc.seq ?_
        refine Vc.region ?_
        refine vcL_pure rfl rfl (Value.int .i64 0) (fun w => by kernel_rfl) ?_
        refine vcL_nil ?_
        refine Vc.ret ?_
        refine outs_ret ?_
        refine done_mk (Value.int .i64 0) (res1 (resC_tmp (by kernel_rfl))) ?_
        exact ⟨0, rfl, h⟩
theorem catalog_Catalog_Put.go {c : Option Addr} {p_Name : ByteArray} {p_Version_Major : Int} {p_Version_Minor : Int} {p_Version_Patch : Int} {p_Deps : Sl} {p_Peers : Sl} {p_Optional : Sl} {w : World} {k : Value → World → Prop} (h : catalog_Catalog_Put c p_Name p_Version_Major p_Version_Minor p_Version_Patch p_Deps p_Peers p_Optional w fun r0 w' => k (Value.int .i64 r0) w') : callS Tryz.prog 19 [(Value.pointer c), (Value.agg #[(Value.string p_Name), (Value.int .i64 p_Version_Major), (Value.int .i64 p_Version_Minor), (Value.int .i64 p_Version_Patch), (Sl.v p_Deps), (Sl.v p_Peers), (Sl.v p_Optional)])] w k := (catalog_Catalog_Put.sound c p_Name p_Version_Major p_Version_Minor p_Version_Patch p_Deps p_Peers p_Optional w _ h).mono (by rintro _ _ ⟨r0, rfl, h⟩; exact h)

/-- (*halyard/halyardref08.Catalog).Put -/
def halyardref08_Catalog_Put (c : Option Addr) (p_Name : ByteArray) (p_Version_Major : Int) (p_Version_Minor : Int) (p_Version_Patch : Int) (p_Deps : Sl) (p_Peers : Sl) (p_Optional : Sl) (w : World) (R : Int → World → Prop) : Prop :=
  newS w [(Value.string p_Name), (Value.int .i64 p_Version_Major), (Value.int .i64 p_Version_Minor), (Value.int .i64 p_Version_Patch), (Sl.v p_Deps), (Sl.v p_Peers), (Sl.v p_Optional)] 48 fun a vw => ∃ (t9_Name : ByteArray) (t9_Version_Major : Int) (t9_Version_Minor : Int) (t9_Version_Patch : Int) (t9_Deps : Sl) (t9_Peers : Sl) (t9_Optional : Sl), (ldc vw a [(Value.string t9_Name), (Value.int .i64 t9_Version_Major), (Value.int .i64 t9_Version_Minor), (Value.int .i64 t9_Version_Patch), (Sl.v t9_Deps), (Sl.v t9_Peers), (Sl.v t9_Optional)]) ∧ callS Tryz.prog 34 [(Value.agg #[(Value.string t9_Name), (Value.int .i64 t9_Version_Major), (Value.int .i64 t9_Version_Minor), (Value.int .i64 t9_Version_Patch), (Sl.v t9_Deps), (Sl.v t9_Peers), (Sl.v t9_Optional)])] vw fun v vw1 => ∃ (t10 : Bool), v = (Value.bool t10) ∧ (((!t10) = true → R 24 vw1) ∧ ((!t10) = false → ∃ (t15 : ByteArray), (ldc vw1 a [(Value.string t15)]) ∧ ∃ (t17_Major : Int) (t17_Minor : Int) (t17_Patch : Int), (ldc vw1 (a.add 1) [(Value.int .i64 t17_Major), (Value.int .i64 t17_Minor), (Value.int .i64 t17_Patch)]) ∧ callS Tryz.prog 23 [(Value.pointer c), (Value.string t15), (Value.agg #[(Value.int .i64 t17_Major), (Value.int .i64 t17_Minor), (Value.int .i64 t17_Patch)])] vw1 fun v5 vw4 => ∃ (t18_Name : ByteArray) (t18_Version_Major : Int) (t18_Version_Minor : Int) (t18_Version_Patch : Int) (t18_Deps : Sl) (t18_Peers : Sl) (t18_Optional : Sl) (t18b : Bool), v5 = (Value.tuple #[(Value.agg #[(Value.string t18_Name), (Value.int .i64 t18_Version_Major), (Value.int .i64 t18_Version_Minor), (Value.int .i64 t18_Version_Patch), (Sl.v t18_Deps), (Sl.v t18_Peers), (Sl.v t18_Optional)]), (Value.bool t18b)]) ∧ newS vw4 [(Value.string (ByteArray.mk #[])), (Value.int .i64 0), (Value.int .i64 0), (Value.int .i64 0), (Sl.v Sl.nil), (Sl.v Sl.nil), (Sl.v Sl.nil)] 48 fun a7 vw8 => stw vw8 a7 [(Value.string t18_Name), (Value.int .i64 t18_Version_Major), (Value.int .i64 t18_Version_Minor), (Value.int .i64 t18_Version_Patch), (Sl.v t18_Deps), (Sl.v t18_Peers), (Sl.v t18_Optional)] fun vw9 => ((t18b = true → R 11 vw9) ∧ (t18b = false → ∃ (p : Addr), (c = some p) ∧ ∃ (t25 : Sl), (ldc vw9 p [(Sl.v t25)]) ∧ ((128 ≤ (t25.len : Int) → R 26 vw9) ∧ (¬ (128 ≤ (t25.len : Int)) → loop1 0 vw9 fun i vw11 nxt => bnd vw11.drew fun (vw12 : World) => ∃ (p13 : Addr), (c = some p13) ∧ ∃ (t32 : Sl), (ldc vw12 p13 [(Sl.v t32)]) ∧ bnd (decide (i < (t32.len : Int))) fun (b : Bool) => ∃ (p16 : Addr), grd b (c = some p16) ∧ ∃ (t39 : Sl), grd b (ldc vw12 p16 [(Sl.v t39)]) ∧ ∃ (ad : Addr), grd b (t39.a = some ad ∧ (0 : Int) ≤ i ∧ i < (t39.len : Int)) ∧ ∃ (t42_Name : ByteArray) (t42_Version_Major : Int) (t42_Version_Minor : Int) (t42_Version_Patch : Int) (t42_Deps : Sl) (t42_Peers : Sl) (t42_Optional : Sl), grd b (ldc vw12 (ad.add (i.toNat * 7)) [(Value.string t42_Name), (Value.int .i64 t42_Version_Major), (Value.int .i64 t42_Version_Minor), (Value.int .i64 t42_Version_Patch), (Sl.v t42_Deps), (Sl.v t42_Peers), (Sl.v t42_Optional)]) ∧ ∃ (t43_Name : ByteArray) (t43_Version_Major : Int) (t43_Version_Minor : Int) (t43_Version_Patch : Int) (t43_Deps : Sl) (t43_Peers : Sl) (t43_Optional : Sl), grd b (ldc vw12 a [(Value.string t43_Name), (Value.int .i64 t43_Version_Major), (Value.int .i64 t43_Version_Minor), (Value.int .i64 t43_Version_Patch), (Sl.v t43_Deps), (Sl.v t43_Peers), (Sl.v t43_Optional)]) ∧ gCall b (fun (t44 : Bool) (vw21 : World) => (((b && t44) = true → nxt (wrapI (i + 1)) vw21) ∧ ((b && t44) = false → ∃ (p24 : Addr), (c = some p24) ∧ ∃ (t52 : Sl), (ldc vw21 p24 [(Sl.v t52)]) ∧ ((0 : Int) ≤ i ∧ i ≤ (t52.cap : Int)) ∧ appS Tryz.prog 22 22 Sl.nil (Sl.v (Sl.cut t52 0 i.toNat 7)) vw21 fun t55 vw28 => ∃ (t57_Name : ByteArray) (t57_Version_Major : Int) (t57_Version_Minor : Int) (t57_Version_Patch : Int) (t57_Deps : Sl) (t57_Peers : Sl) (t57_Optional : Sl), (ldc vw28 a [(Value.string t57_Name), (Value.int .i64 t57_Version_Major), (Value.int .i64 t57_Version_Minor), (Value.int .i64 t57_Version_Patch), (Sl.v t57_Deps), (Sl.v t57_Peers), (Sl.v t57_Optional)]) ∧ newS vw28 [(Value.string t57_Name), (Value.int .i64 t57_Version_Major), (Value.int .i64 t57_Version_Minor), (Value.int .i64 t57_Version_Patch), (Sl.v t57_Deps), (Sl.v t57_Peers), (Sl.v t57_Optional)] 48 fun a30 vw31 => appS Tryz.prog 22 22 t55 (Sl.v (Sl.mk (some a30) 1 1)) vw31 fun t59 vw32 => ∃ (p33 : Addr), (c = some p33) ∧ ∃ (t64 : Sl), (ldc vw32 p33 [(Sl.v t64)]) ∧ ((0 : Int) ≤ i ∧ i ≤ (t64.len : Int)) ∧ appS Tryz.prog 22 22 t59 (Sl.v (Sl.cut t64 i.toNat t64.len 7)) vw32 fun t67 vw37 => ∃ (p38 : Addr), (c = some p38) ∧ stw vw37 p38 [(Sl.v t67)] fun vw40 => R 0 vw40))) (fun q => callS Tryz.prog 63 [(Value.agg #[(Value.string t42_Name), (Value.int .i64 t42_Version_Major), (Value.int .i64 t42_Version_Minor), (Value.int .i64 t42_Version_Patch), (Sl.v t42_Deps), (Sl.v t42_Peers), (Sl.v t42_Optional)]), (Value.agg #[(Value.string t43_Name), (Value.int .i64 t43_Version_Major), (Value.int .i64 t43_Version_Minor), (Value.int .i64 t43_Version_Patch), (Sl.v t43_Deps), (Sl.v t43_Peers), (Sl.v t43_Optional)])] vw12 fun v22 vw21 => ∃ (t44 : Bool), v22 = (Value.bool t44) ∧ q t44 vw21) (fun q => q false vw12)))))))
set_option maxHeartbeats 8000000 in
theorem halyardref08_Catalog_Put.sound (c : Option Addr) (p_Name : ByteArray) (p_Version_Major : Int) (p_Version_Minor : Int) (p_Version_Patch : Int) (p_Deps : Sl) (p_Peers : Sl) (p_Optional : Sl) (w : World) (R : Int → World → Prop) (h : halyardref08_Catalog_Put c p_Name p_Version_Major p_Version_Minor p_Version_Patch p_Deps p_Peers p_Optional w R) : callS Tryz.prog 20 [(Value.pointer c), (Value.agg #[(Value.string p_Name), (Value.int .i64 p_Version_Major), (Value.int .i64 p_Version_Minor), (Value.int .i64 p_Version_Patch), (Sl.v p_Deps), (Sl.v p_Peers), (Sl.v p_Optional)])] w (fun v w' => ∃ (r0 : Int), v = (Value.int .i64 r0) ∧ R r0 w') := by
  unfold halyardref08_Catalog_Put at h
  refine calls_of_vc 72 rfl Tryz.func20 rfl (by kernel_rfl) (by simp) ?_
  refine Vc.seq ?_
  refine Vc.region ?_
  refine vcL_eff rfl (opVC_new rfl (fun a => Value.pointer (some a)) (by kernel_rfl) (newS.mono h fun a vw hx h => ?_)) 
  refine vcL_pure rfl rfl (Value.int .i64 0) (fun w => by kernel_rfl) ?_
  refine vcL_nil ?_
  refine Vc.seq ?_
  refine Vc.seq ?_
  refine Vc.region ?_
  obtain ⟨t9_Name, t9_Version_Major, t9_Version_Minor, t9_Version_Patch, t9_Deps, t9_Peers, t9_Optional, hc, h⟩ := h
  refine vcL_val rfl rfl (Value.agg #[(Value.string t9_Name), (Value.int .i64 t9_Version_Major), (Value.int .i64 t9_Version_Minor), (Value.int .i64 t9_Version_Patch), (Sl.v t9_Deps), (Sl.v t9_Peers), (Sl.v t9_Optional)]) (exec_load rfl (by kernel_rfl) (run_loadN (fun w => by kernel_rfl) (fun w => by kernel_rfl) ((hc)))) ?_
  refine vcL_eff rfl (opVC_call rfl (by kernel_rfl) (callS.mono h fun v vw1 h => ?_)) 
  obtain ⟨t10, rfl, h⟩ := h
  refine vcL_pure rfl rfl (Value.bool (!t10)) (fun w => by kernel_rfl) ?_
  refine vcL_nil ?_
  refine Vc.cond (!t10) (by kernel_rfl) (fun hb => ?_) (fun hb => ?_)
  · have h := h.1 (hb)
    refine Vc.seq ?_
    refine Vc.region ?_
    refine vcL_pure rfl rfl (Value.int .i64 24) (fun w => by kernel_rfl) ?_
    refine vcL_nil ?_
    refine Vc.ret ?_
    refine outs_ret ?_
    refine done_mk (Value.int .i64 24) (res1 (resC_tmp (by kernel_rfl))) ?_
    exact ⟨24, rfl, h⟩
  · have h := h.2 (hb)
    refine Vc.skip ?_
    refine Vc.seq ?_
    refine Vc.region ?_
    refine vcL_purs 2 [(14, (Value.pointer (some a))), (13, (Value.pointer c))] (by kernel_rfl) ?_
    obtain ⟨t15, hc2, h⟩ := h
    refine vcL_val rfl rfl (Value.string t15) (exec_load rfl (by kernel_rfl) (run_load1 (fun w => by kernel_rfl) ((hc2)))) ?_
    refine vcL_pure rfl rfl (Value.pointer (some (a.add 1))) (fun w => by kernel_rfl) ?_
    obtain ⟨t17_Major, t17_Minor, t17_Patch, hc3, h⟩ := h
    refine vcL_val rfl rfl (Value.agg #[(Value.int .i64 t17_Major), (Value.int .i64 t17_Minor), (Value.int .i64 t17_Patch)]) (exec_load rfl (by kernel_rfl) (run_loadN (fun w => by kernel_rfl) (fun w => by kernel_rfl) ((hc3)))) ?_
    refine vcL_eff rfl (opVC_call rfl (by kernel_rfl) (callS.mono h fun v5 vw4 h => ?_)) 
    obtain ⟨t18_Name, t18_Version_Major, t18_Version_Minor, t18_Version_Patch, t18_Deps, t18_Peers, t18_Optional, t18b, rfl, h⟩ := h
    refine vcL_purs 3 [(20, (Value.bool t18b)), (19, (Value.agg #[(Value.string t18_Name), (Value.int .i64 t18_Version_Major), (Value.int .i64 t18_Version_Minor), (Value.int .i64 t18_Version_Patch), (Sl.v t18_Deps), (Sl.v t18_Peers), (Sl.v t18_Optional)])), (12, (Value.tuple #[(Value.agg #[(Value.string t18_Name), (Value.int .i64 t18_Version_Major), (Value.int .i64 t18_Version_Minor), (Value.int .i64 t18_Version_Patch), (Sl.v t18_Deps), (Sl.v t18_Peers), (Sl.v t18_Optional)]), (Value.bool t18b)]))] (by kernel_rfl) ?_
    refine vcL_eff rfl (opVC_new rfl (fun a => Value.pointer (some a)) (by kernel_rfl) (newS.mono h fun a7 vw8 hx h => ?_)) 
    refine vcL_eff rfl (opVC_store rfl rfl (a := a7) (by kernel_rfl) (v := (Value.agg #[(Value.string t18_Name), (Value.int .i64 t18_Version_Major), (Value.int .i64 t18_Version_Minor), (Value.int .i64 t18_Version_Patch), (Sl.v t18_Deps), (Sl.v t18_Peers), (Sl.v t18_Optional)])) (by kernel_rfl) [(Value.string t18_Name), (Value.int .i64 t18_Version_Major), (Value.int .i64 t18_Version_Minor), (Value.int .i64 t18_Version_Patch), (Sl.v t18_Deps), (Sl.v t18_Peers), (Sl.v t18_Optional)] (by kernel_rfl) (fun w => by kernel_rfl) (by kernel_rfl) (stw.mono h fun vw9 h => ?_)) 
    refine vcL_pure rfl rfl (Value.bool t18b) (fun w => by kernel_rfl) ?_
    refine vcL_nil ?_
    refine Vc.seq ?_
    refine Vc.seq ?_
    refine Vc.region ?_
    refine vcL_pure rfl rfl (Value.bool t18b) (fun w => by kernel_rfl) ?_
    refine vcL_nil ?_
    refine Vc.cond t18b (by kernel_rfl) (fun hb => ?_) (fun hb => ?_)
    · have h := h.1 (hb)
      refine Vc.seq ?_
      refine Vc.region ?_
      refine vcL_pure rfl rfl (Value.int .i64 11) (fun w => by kernel_rfl) ?_
      refine vcL_nil ?_
      refine Vc.ret ?_
      refine outs_ret ?_
      refine done_mk (Value.int .i64 11) (res1 (resC_tmp (by kernel_rfl))) ?_
      exact ⟨11, rfl, h⟩
    · have h := h.2 (hb)
      refine Vc.skip ?_
      refine Vc.seq ?_
      refine Vc.seq ?_
      refine Vc.region ?_
      refine vcL_pure rfl rfl (Value.pointer c) (fun w => by kernel_rfl) ?_
      obtain ⟨p, hp, h⟩ := h
      refine vcL_pure rfl rfl (Value.pointer (some p)) (fun w => by exact exec_nilCheck rfl (by kernel_rfl) (hp) w) ?_
      refine vcL_pure rfl rfl (Value.pointer (some p)) (fun w => by kernel_rfl) ?_
      obtain ⟨t25, hc10, h⟩ := h
      refine vcL_val rfl rfl (Sl.v t25) (exec_load rfl (by kernel_rfl) (run_load1 (fun w => by kernel_rfl) ((hc10)))) ?_
      refine vcL_purs 2 [(27, (Value.bool (decide (128 ≤ (t25.len : Int))))), (26, (Value.int .i64 (t25.len : Int)))] (by kernel_rfl) ?_
      refine vcL_nil ?_
      refine Vc.cond (decide (128 ≤ (t25.len : Int))) (by kernel_rfl) (fun hb => ?_) (fun hb => ?_)
      · have h := h.1 (of_decide_eq_true hb)
        refine Vc.seq ?_
        refine Vc.region ?_
        refine vcL_pure rfl rfl (Value.int .i64 26) (fun w => by kernel_rfl) ?_
        refine vcL_nil ?_
        refine Vc.ret ?_
        refine outs_ret ?_
        refine done_mk (Value.int .i64 26) (res1 (resC_tmp (by kernel_rfl))) ?_
        exact ⟨26, rfl, h⟩
      · have h := h.2 (of_decide_eq_false hb)
        refine Vc.skip ?_
        refine Vc.seq ?_
        refine Vc.region ?_
        refine vcL_pure rfl rfl (Value.int .i64 0) (fun w => by kernel_rfl) ?_
        refine vcL_nil ?_
        refine Vc.seq ?_
        refine Vc.block ?_
        obtain ⟨vI, mu, h, hr⟩ := h
        refine Vc.loopJ (σ := Int) [7] [28, 29, 30, 31, 32, 33, 34, 35, 36, 37, 38, 39, 40, 41, 42, 43, 44, 45, 46, 47] (fun s => [(7, (Value.int .i64 s))]) (fun s w => vI s w) (fun s w => mu s w) 0 h (fun _ => rfl) (by kernel_rfl) ?_
        intro i vw11 j h
        have h := hr i vw11 h
        refine Vc.seq ?_
        refine Vc.seq ?_
        obtain ⟨vw12, hvw12⟩ : ∃ y, y = vw11.drew := ⟨_, rfl⟩
        have h := h vw12 hvw12
        refine Vc.draw (by kernel_rfl) (fun i => !(memN [16] i)) (.pur 0 (.pur 1 (.pur 2 (.pur 3 (.val 4 (.pur 5 (.pur 6 (.pur 7 (.pur 8 (.pur 9 (.pur 10 (.val 11 (.pur 12 (.pur 13 (.val 14 (.val 15 (.eff 16 (.pur 17 .fin) .stop))))))))))))))))) (by kernel_rfl) ?_
        rw [← hvw12]
        clear hvw12
        refine vcS_pure rfl rfl rfl (Value.int .i64 i) (fun w => by kernel_rfl) ?_
        refine vcS_pure rfl rfl rfl (Value.pointer c) (fun w => by kernel_rfl) ?_
        obtain ⟨p13, hp14, h⟩ := h
        refine vcS_pure rfl rfl rfl (Value.pointer (some p13)) (fun w => by exact exec_nilCheck rfl (by kernel_rfl) (hp14) w) ?_
        refine vcS_pure rfl rfl rfl (Value.pointer (some p13)) (fun w => by kernel_rfl) ?_
        obtain ⟨t32, hc15, h⟩ := h
        refine vcS_val rfl rfl rfl (Sl.v t32) (fun w' hx => exec_load rfl (by kernel_rfl) (run_load1 (fun w => by kernel_rfl) ((hc15).ext hx))) ?_
        refine vcS_pure rfl rfl rfl (Value.int .i64 (t32.len : Int)) (fun w => by kernel_rfl) ?_
        refine vcS_pure rfl rfl rfl (Value.bool (decide (i < (t32.len : Int)))) (fun w => by kernel_rfl) ?_
        obtain ⟨b, hb⟩ : ∃ y, y = (decide (i < (t32.len : Int))) := ⟨_, rfl⟩
        have h := h b hb
        refine vcS_pure rfl rfl rfl (Value.bool b) (fun w => by rw [hb]; kernel_rfl) ?_
        refine vcS_guard rfl b (wanted_g (d := 35) rfl (by kernel_rfl) b (by kernel_rfl) b (eqT b)) rfl (Value.pointer c) (fun hg w => by subst hg; kernel_rfl) ?_
        obtain ⟨p16, hp17, h⟩ := h
        refine vcS_guard rfl b (wanted_g (d := 35) rfl (by kernel_rfl) b (by kernel_rfl) b (eqT b)) rfl (Value.pointer (some p16)) (fun hg w => by subst hg; exact exec_nilCheck rfl (by kernel_rfl) (hp17 rfl) w) ?_
        refine vcS_guard rfl b (wanted_g (d := 35) rfl (by kernel_rfl) b (by kernel_rfl) b (eqT b)) rfl (Value.pointer (some p16)) (fun hg w => by subst hg; kernel_rfl) ?_
        obtain ⟨t39, hc18, h⟩ := h
        refine vcS_valG rfl b (wanted_g (d := 35) rfl (by kernel_rfl) b (by kernel_rfl) b (eqT b)) rfl (Sl.v t39) (fun hg w' hx => by subst hg; exact exec_load rfl (by kernel_rfl) (run_load1 (fun w => by kernel_rfl) ((hc18 rfl).ext hx))) ?_
        refine vcS_guard rfl b (wanted_g (d := 35) rfl (by kernel_rfl) b (by kernel_rfl) b (eqT b)) rfl (Value.int .i64 i) (fun hg w => by subst hg; kernel_rfl) ?_
        obtain ⟨ad, hi, h⟩ := h
        refine vcS_guard rfl b (wanted_g (d := 35) rfl (by kernel_rfl) b (by kernel_rfl) b (eqT b)) rfl (Value.pointer (some (ad.add (i.toNat * 7)))) (fun hg w => by subst hg; exact exec_indexAt (s := t39) (el := 48) rfl (by kernel_rfl) (by kernel_rfl) (by kernel_rfl) (fun w => by kernel_rfl) (hi rfl).1 (hi rfl).2.1 (hi rfl).2.2 w) ?_
        obtain ⟨t42_Name, t42_Version_Major, t42_Version_Minor, t42_Version_Patch, t42_Deps, t42_Peers, t42_Optional, hc19, h⟩ := h
        refine vcS_valG rfl b (wanted_g (d := 35) rfl (by kernel_rfl) b (by kernel_rfl) b (eqT b)) rfl (Value.agg #[(Value.string t42_Name), (Value.int .i64 t42_Version_Major), (Value.int .i64 t42_Version_Minor), (Value.int .i64 t42_Version_Patch), (Sl.v t42_Deps), (Sl.v t42_Peers), (Sl.v t42_Optional)]) (fun hg w' hx => by subst hg; exact exec_load rfl (by kernel_rfl) (run_loadN (fun w => by kernel_rfl) (fun w => by kernel_rfl) ((hc19 rfl).ext hx))) ?_
        obtain ⟨t43_Name, t43_Version_Major, t43_Version_Minor, t43_Version_Patch, t43_Deps, t43_Peers, t43_Optional, hc20, h⟩ := h
        refine vcS_valG rfl b (wanted_g (d := 35) rfl (by kernel_rfl) b (by kernel_rfl) b (eqT b)) rfl (Value.agg #[(Value.string t43_Name), (Value.int .i64 t43_Version_Major), (Value.int .i64 t43_Version_Minor), (Value.int .i64 t43_Version_Patch), (Sl.v t43_Deps), (Sl.v t43_Peers), (Sl.v t43_Optional)]) (fun hg w' hx => by subst hg; exact exec_load rfl (by kernel_rfl) (run_loadN (fun w => by kernel_rfl) (fun w => by kernel_rfl) ((hc20 rfl).ext hx))) ?_
        obtain ⟨vJ, hJ, h⟩ := gCall_elim h
        refine vcS_effJ (σ := Bool) rfl b (wanted_g (d := 35) rfl (by kernel_rfl) b (by kernel_rfl) b (eqT b)) rfl (fun s w => vJ s w) (fun s => (Value.bool s)) ?_ (fun hg => opVC_call rfl (by subst hg; kernel_rfl) (callS.mono (h.1 hg) fun v22 vw21 hq => ?_)) (fun hg => ⟨false, h.2 hg⟩) vcS_stop
        · intro t44 vw21 h
          subst hJ
          refine vcS_pure rfl rfl rfl (Value.bool (b && t44)) (fun w => by cases b <;> kernel_rfl) ?_
          refine vcS_fin ?_
          refine Vc.cond (b && t44) (by kernel_rfl) (fun hb => ?_) (fun hb => ?_)
          · have h := h.1 (hb)
            refine Vc.skip ?_
            refine Vc.block ?_
            refine Vc.region ?_
            refine vcL_purs 3 [(7, (Value.int .i64 (wrapI (i + 1)))), (47, (Value.int .i64 (wrapI (i + 1)))), (46, (Value.int .i64 i))] (by kernel_rfl) ?_
            refine vcL_nil ?_
            exact ⟨(wrapI (i + 1)), 42, ⟨rfl, by kernel_rfl, by kernel_rfl, by kernel_rfl⟩, h⟩
          · have h := h.2 (hb)
            refine Vc.exit ?_
            refine outOf_hit ?_
            refine Vc.seq ?_
            refine Vc.region ?_
            refine vcL_pure rfl rfl (Sl.v Sl.nil) (fun w => by kernel_rfl) ?_
            refine vcL_nil ?_
            refine Vc.seq ?_
            refine Vc.region ?_
            refine vcL_purs 2 [(49, (Value.pointer c)), (48, (Sl.v Sl.nil))] (by kernel_rfl) ?_
            obtain ⟨p24, hp25, h⟩ := h
            refine vcL_pure rfl rfl (Value.pointer (some p24)) (fun w => by exact exec_nilCheck rfl (by kernel_rfl) (hp25) w) ?_
            refine vcL_pure rfl rfl (Value.pointer (some p24)) (fun w => by kernel_rfl) ?_
            obtain ⟨t52, hc26, h⟩ := h
            refine vcL_val rfl rfl (Sl.v t52) (exec_load rfl (by kernel_rfl) (run_load1 (fun w => by kernel_rfl) ((hc26)))) ?_
            refine vcL_pure rfl rfl (Value.int .i64 i) (fun w => by kernel_rfl) ?_
            obtain ⟨hi27, h⟩ := h
            refine vcL_pure rfl rfl (Sl.v (Sl.cut t52 0 i.toNat 7)) (fun w => by exact exec_slSlH (s := t52) (el := 48) (k2 := .i64) rfl (by kernel_rfl) (by kernel_rfl) (by kernel_rfl) (fun w => by kernel_rfl) (hi27) w) ?_
            refine vcL_eff rfl (opVC_sem rfl (c := Builtin.append_ #[22, 22] 22 #[(Sl.v Sl.nil), (Sl.v (Sl.cut t52 0 i.toNat 7))]) (by kernel_rfl) (appS.elim (ty := 22) h fun t55 vw28 h => ?_)) 
            refine vcL_pure rfl rfl (Sl.v t55) (fun w => by kernel_rfl) ?_
            refine vcL_nil ?_
            refine Vc.seq ?_
            refine Vc.region ?_
            refine vcL_pure rfl rfl (Sl.v t55) (fun w => by kernel_rfl) ?_
            obtain ⟨t57_Name, t57_Version_Major, t57_Version_Minor, t57_Version_Patch, t57_Deps, t57_Peers, t57_Optional, hc29, h⟩ := h
            refine vcL_val rfl rfl (Value.agg #[(Value.string t57_Name), (Value.int .i64 t57_Version_Major), (Value.int .i64 t57_Version_Minor), (Value.int .i64 t57_Version_Patch), (Sl.v t57_Deps), (Sl.v t57_Peers), (Sl.v t57_Optional)]) (exec_load rfl (by kernel_rfl) (run_loadN (fun w => by kernel_rfl) (fun w => by kernel_rfl) ((hc29)))) ?_
            refine vcL_eff rfl (opVC_new rfl (fun a => Value.slice (some a) 1 1) (by kernel_rfl) (newS.mono h fun a30 vw31 hx h => ?_)) 
            refine vcL_eff rfl (opVC_sem rfl (c := Builtin.append_ #[22, 22] 22 #[(Sl.v t55), (Sl.v (Sl.mk (some a30) 1 1))]) (by kernel_rfl) (appS.elim (ty := 22) h fun t59 vw32 h => ?_)) 
            refine vcL_pure rfl rfl (Sl.v t59) (fun w => by kernel_rfl) ?_
            refine vcL_nil ?_
            refine Vc.seq ?_
            refine Vc.region ?_
            refine vcL_purs 2 [(61, (Value.pointer c)), (60, (Sl.v t59))] (by kernel_rfl) ?_
            obtain ⟨p33, hp34, h⟩ := h
            refine vcL_pure rfl rfl (Value.pointer (some p33)) (fun w => by exact exec_nilCheck rfl (by kernel_rfl) (hp34) w) ?_
            refine vcL_pure rfl rfl (Value.pointer (some p33)) (fun w => by kernel_rfl) ?_
            obtain ⟨t64, hc35, h⟩ := h
            refine vcL_val rfl rfl (Sl.v t64) (exec_load rfl (by kernel_rfl) (run_load1 (fun w => by kernel_rfl) ((hc35)))) ?_
            refine vcL_pure rfl rfl (Value.int .i64 i) (fun w => by kernel_rfl) ?_
            obtain ⟨hi36, h⟩ := h
            refine vcL_pure rfl rfl (Sl.v (Sl.cut t64 i.toNat t64.len 7)) (fun w => by exact exec_slSlL (s := t64) (el := 48) (k1 := .i64) rfl (by kernel_rfl) (by kernel_rfl) (by kernel_rfl) (fun w => by kernel_rfl) (hi36) w) ?_
            refine vcL_eff rfl (opVC_sem rfl (c := Builtin.append_ #[22, 22] 22 #[(Sl.v t59), (Sl.v (Sl.cut t64 i.toNat t64.len 7))]) (by kernel_rfl) (appS.elim (ty := 22) h fun t67 vw37 h => ?_)) 
            refine vcL_pure rfl rfl (Sl.v t67) (fun w => by kernel_rfl) ?_
            refine vcL_nil ?_
            refine Vc.seq ?_
            refine Vc.region ?_
            refine vcL_purs 2 [(69, (Sl.v t67)), (68, (Value.pointer c))] (by kernel_rfl) ?_
            obtain ⟨p38, hp39, h⟩ := h
            refine vcL_pure rfl rfl (Value.pointer (some p38)) (fun w => by exact exec_nilCheck rfl (by kernel_rfl) (hp39) w) ?_
            refine vcL_pure rfl rfl (Value.pointer (some p38)) (fun w => by kernel_rfl) ?_
            refine vcL_eff rfl (opVC_store rfl rfl (a := p38) (by kernel_rfl) (v := (Sl.v t67)) (by kernel_rfl) [(Sl.v t67)] (by kernel_rfl) (fun w => by kernel_rfl) (by kernel_rfl) (stw.mono h fun vw40 h => ?_)) 
            refine vcL_nil ?_
            refine Vc.seq ?_
            refine Vc.region ?_
            refine vcL_pure rfl rfl (Value.int .i64 0) (fun w => by kernel_rfl) ?_
            refine vcL_nil ?_
            refine Vc.ret ?_
            refine outs_ret ?_
            refine done_mk (Value.int .i64 0) (res1 (resC_tmp (by kernel_rfl))) ?_
            exact ⟨0, rfl, h⟩
        · obtain ⟨t44, rfl, hq⟩ := hq
          exact ⟨fun hb => absurd hb (by decide), t44, rfl, hq⟩
theorem halyardref08_Catalog_Put.go {c : Option Addr} {p_Name : ByteArray} {p_Version_Major : Int} {p_Version_Minor : Int} {p_Version_Patch : Int} {p_Deps : Sl} {p_Peers : Sl} {p_Optional : Sl} {w : World} {k : Value → World → Prop} (h : halyardref08_Catalog_Put c p_Name p_Version_Major p_Version_Minor p_Version_Patch p_Deps p_Peers p_Optional w fun r0 w' => k (Value.int .i64 r0) w') : callS Tryz.prog 20 [(Value.pointer c), (Value.agg #[(Value.string p_Name), (Value.int .i64 p_Version_Major), (Value.int .i64 p_Version_Minor), (Value.int .i64 p_Version_Patch), (Sl.v p_Deps), (Sl.v p_Peers), (Sl.v p_Optional)])] w k := (halyardref08_Catalog_Put.sound c p_Name p_Version_Major p_Version_Minor p_Version_Patch p_Deps p_Peers p_Optional w _ h).mono (by rintro _ _ ⟨r0, rfl, h⟩; exact h)

/-- (*halyard/catalog.Catalog).Get -/
def catalog_Catalog_Get (c : Option Addr) (name : ByteArray) (v_Major : Int) (v_Minor : Int) (v_Patch : Int) (w : World) (R : ByteArray → Int → Int → Int → Sl → Sl → Sl → Bool → World → Prop) : Prop :=
  newS w [(Value.int .i64 v_Major), (Value.int .i64 v_Minor), (Value.int .i64 v_Patch)] 30 fun a vw => newS vw [(Value.string (ByteArray.mk #[])), (Value.int .i64 0), (Value.int .i64 0), (Value.int .i64 0), (Sl.v Sl.nil), (Sl.v Sl.nil), (Sl.v Sl.nil)] 48 fun a1 vw2 => bnd vw2.drew fun (vw3 : World) => ∃ (p : Addr), (c = some p) ∧ ∃ (t14 : Option Nat), (ldc vw3 p [(Value.map t14)]) ∧ ∃ (t16_Major : Int) (t16_Minor : Int) (t16_Patch : Int), (ldc vw3 a [(Value.int .i64 t16_Major), (Value.int .i64 t16_Minor), (Value.int .i64 t16_Patch)]) ∧ ∃ (t18_Name : ByteArray) (t18_Version_Major : Int) (t18_Version_Minor : Int) (t18_Version_Patch : Int) (t18_Deps : Sl) (t18_Peers : Sl) (t18_Optional : Sl) (t18b : Bool), (stabS Tryz.prog (Instr.lookup 101 (Value.map t14) (Value.agg #[(Value.string name), (Value.int .i64 t16_Major), (Value.int .i64 t16_Minor), (Value.int .i64 t16_Patch)]) true) vw3 (Value.tuple #[(Value.agg #[(Value.string t18_Name), (Value.int .i64 t18_Version_Major), (Value.int .i64 t18_Version_Minor), (Value.int .i64 t18_Version_Patch), (Sl.v t18_Deps), (Sl.v t18_Peers), (Sl.v t18_Optional)]), (Value.bool t18b)])) ∧ newS vw3 [(Value.string (ByteArray.mk #[])), (Value.int .i64 0), (Value.int .i64 0), (Value.int .i64 0), (Sl.v Sl.nil), (Sl.v Sl.nil), (Sl.v Sl.nil)] 48 fun a6 vw7 => stw vw7 a6 [(Value.string t18_Name), (Value.int .i64 t18_Version_Major), (Value.int .i64 t18_Version_Minor), (Value.int .i64 t18_Version_Patch), (Sl.v t18_Deps), (Sl.v t18_Peers), (Sl.v t18_Optional)] fun vw8 => ∃ (t21_Name : ByteArray) (t21_Version_Major : Int) (t21_Version_Minor : Int) (t21_Version_Patch : Int) (t21_Deps : Sl) (t21_Peers : Sl) (t21_Optional : Sl), (ldc vw8 a6 [(Value.string t21_Name), (Value.int .i64 t21_Version_Major), (Value.int .i64 t21_Version_Minor), (Value.int .i64 t21_Version_Patch), (Sl.v t21_Deps), (Sl.v t21_Peers), (Sl.v t21_Optional)]) ∧ callS Tryz.prog 62 [(Value.agg #[(Value.string t21_Name), (Value.int .i64 t21_Version_Major), (Value.int .i64 t21_Version_Minor), (Value.int .i64 t21_Version_Patch), (Sl.v t21_Deps), (Sl.v t21_Peers), (Sl.v t21_Optional)])] vw8 fun v11 vw10 => ∃ (t22_Name : ByteArray) (t22_Version_Major : Int) (t22_Version_Minor : Int) (t22_Version_Patch : Int) (t22_Deps : Sl) (t22_Peers : Sl) (t22_Optional : Sl), v11 = (Value.agg #[(Value.string t22_Name), (Value.int .i64 t22_Version_Major), (Value.int .i64 t22_Version_Minor), (Value.int .i64 t22_Version_Patch), (Sl.v t22_Deps), (Sl.v t22_Peers), (Sl.v t22_Optional)]) ∧ stw vw10 a1 [(Value.string t22_Name), (Value.int .i64 t22_Version_Major), (Value.int .i64 t22_Version_Minor), (Value.int .i64 t22_Version_Patch), (Sl.v t22_Deps), (Sl.v t22_Peers), (Sl.v t22_Optional)] fun vw12 => ∃ (r_Name : ByteArray) (r_Version_Major : Int) (r_Version_Minor : Int) (r_Version_Patch : Int) (r_Deps : Sl) (r_Peers : Sl) (r_Optional : Sl), ldc vw12 a1 [(Value.string r_Name), (Value.int .i64 r_Version_Major), (Value.int .i64 r_Version_Minor), (Value.int .i64 r_Version_Patch), (Sl.v r_Deps), (Sl.v r_Peers), (Sl.v r_Optional)] ∧ R r_Name r_Version_Major r_Version_Minor r_Version_Patch r_Deps r_Peers r_Optional t18b vw12
set_option maxHeartbeats 8000000 in
theorem catalog_Catalog_Get.sound (c : Option Addr) (name : ByteArray) (v_Major : Int) (v_Minor : Int) (v_Patch : Int) (w : World) (R : ByteArray → Int → Int → Int → Sl → Sl → Sl → Bool → World → Prop) (h : catalog_Catalog_Get c name v_Major v_Minor v_Patch w R) : callS Tryz.prog 22 [(Value.pointer c), (Value.string name), (Value.agg #[(Value.int .i64 v_Major), (Value.int .i64 v_Minor), (Value.int .i64 v_Patch)])] w (fun v w' => ∃ (r0 : ByteArray) (r1 : Int) (r2 : Int) (r3 : Int) (r4 : Sl) (r5 : Sl) (r6 : Sl) (r7 : Bool), v = (Value.tuple #[(Value.agg #[(Value.string r0), (Value.int .i64 r1), (Value.int .i64 r2), (Value.int .i64 r3), (Sl.v r4), (Sl.v r5), (Sl.v r6)]), (Value.bool r7)]) ∧ R r0 r1 r2 r3 r4 r5 r6 r7 w') := by
  unfold catalog_Catalog_Get at h
  refine calls_of_vc 24 rfl Tryz.func22 rfl (by kernel_rfl) (by simp) ?_
  refine Vc.seq ?_
  refine Vc.region ?_
  refine vcL_eff rfl (opVC_new rfl (fun a => Value.pointer (some a)) (by kernel_rfl) (newS.mono h fun a vw hx h => ?_)) 
  refine vcL_eff rfl (opVC_new rfl (fun a => Value.pointer (some a)) (by kernel_rfl) (newS.mono h fun a1 vw2 hx h => ?_)) 
  refine vcL_pure rfl rfl (Value.bool false) (fun w => by kernel_rfl) ?_
  refine vcL_nil ?_
  refine Vc.seq ?_
  obtain ⟨vw3, hvw3⟩ : ∃ y, y = vw2.drew := ⟨_, rfl⟩
  have h := h vw3 hvw3
  refine Vc.draw (by kernel_rfl) (fun i => !(memN [12] i)) (.pur 0 (.pur 1 (.pur 2 (.val 3 (.pur 4 (.val 5 (.pur 6 (.val 7 (.pur 8 (.pur 9 (.pur 10 (.eff 11 (.eff 12 (.pur 13 .fin) .stop) .stop)))))))))))) (by kernel_rfl) ?_
  rw [← hvw3]
  clear hvw3
  refine vcS_pure rfl rfl rfl (Value.pointer c) (fun w => by kernel_rfl) ?_
  obtain ⟨p, hp, h⟩ := h
  refine vcS_pure rfl rfl rfl (Value.pointer (some p)) (fun w => by exact exec_nilCheck rfl (by kernel_rfl) (hp) w) ?_
  refine vcS_pure rfl rfl rfl (Value.pointer (some p)) (fun w => by kernel_rfl) ?_
  obtain ⟨t14, hc, h⟩ := h
  refine vcS_val rfl rfl rfl (Value.map t14) (fun w' hx => exec_load rfl (by kernel_rfl) (run_load1 (fun w => by kernel_rfl) ((hc).ext hx))) ?_
  refine vcS_pure rfl rfl rfl (Value.string name) (fun w => by kernel_rfl) ?_
  obtain ⟨t16_Major, t16_Minor, t16_Patch, hc4, h⟩ := h
  refine vcS_val rfl rfl rfl (Value.agg #[(Value.int .i64 t16_Major), (Value.int .i64 t16_Minor), (Value.int .i64 t16_Patch)]) (fun w' hx => exec_load rfl (by kernel_rfl) (run_loadN (fun w => by kernel_rfl) (fun w => by kernel_rfl) ((hc4).ext hx))) ?_
  refine vcS_pure rfl rfl rfl (Value.agg #[(Value.string name), (Value.int .i64 t16_Major), (Value.int .i64 t16_Minor), (Value.int .i64 t16_Patch)]) (fun w => by kernel_rfl) ?_
  obtain ⟨t18_Name, t18_Version_Major, t18_Version_Minor, t18_Version_Patch, t18_Deps, t18_Peers, t18_Optional, t18b, hl, h⟩ := h
  refine vcS_val rfl rfl rfl (Value.tuple #[(Value.agg #[(Value.string t18_Name), (Value.int .i64 t18_Version_Major), (Value.int .i64 t18_Version_Minor), (Value.int .i64 t18_Version_Patch), (Sl.v t18_Deps), (Sl.v t18_Peers), (Sl.v t18_Optional)]), (Value.bool t18b)]) (fun w' hx => exec_sem (c := Instr.lookup 101 (Value.map t14) (Value.agg #[(Value.string name), (Value.int .i64 t16_Major), (Value.int .i64 t16_Minor), (Value.int .i64 t16_Patch)]) true) (by kernel_rfl) ((hl) _ hx)) ?_
  refine vcS_pure rfl rfl rfl (Value.tuple #[(Value.agg #[(Value.string t18_Name), (Value.int .i64 t18_Version_Major), (Value.int .i64 t18_Version_Minor), (Value.int .i64 t18_Version_Patch), (Sl.v t18_Deps), (Sl.v t18_Peers), (Sl.v t18_Optional)]), (Value.bool t18b)]) (fun w => by kernel_rfl) ?_
  refine vcS_pure rfl rfl rfl (Value.agg #[(Value.string t18_Name), (Value.int .i64 t18_Version_Major), (Value.int .i64 t18_Version_Minor), (Value.int .i64 t18_Version_Patch), (Sl.v t18_Deps), (Sl.v t18_Peers), (Sl.v t18_Optional)]) (fun w => by kernel_rfl) ?_
  refine vcS_pure rfl rfl rfl (Value.bool t18b) (fun w => by kernel_rfl) ?_
  refine vcS_eff rfl rfl (opVC_new rfl (fun a => Value.pointer (some a)) (by kernel_rfl) (newS.mono h fun a6 vw7 hx h => ?_)) vcS_stop
  refine ⟨fun _ => hx, ?_⟩
  refine vcS_eff rfl rfl (opVC_store rfl rfl (a := a6) (by kernel_rfl) (v := (Value.agg #[(Value.string t18_Name), (Value.int .i64 t18_Version_Major), (Value.int .i64 t18_Version_Minor), (Value.int .i64 t18_Version_Patch), (Sl.v t18_Deps), (Sl.v t18_Peers), (Sl.v t18_Optional)])) (by kernel_rfl) [(Value.string t18_Name), (Value.int .i64 t18_Version_Major), (Value.int .i64 t18_Version_Minor), (Value.int .i64 t18_Version_Patch), (Sl.v t18_Deps), (Sl.v t18_Peers), (Sl.v t18_Optional)] (by kernel_rfl) (fun w => by kernel_rfl) (by kernel_rfl) (stw.mono h fun vw8 h => ?_)) vcS_stop
  refine ⟨fun hb => absurd hb (by decide), ?_⟩
  refine vcS_pure rfl rfl rfl (Value.bool t18b) (fun w => by kernel_rfl) ?_
  refine vcS_fin ?_
  refine Vc.seq ?_
  refine Vc.region ?_
  obtain ⟨t21_Name, t21_Version_Major, t21_Version_Minor, t21_Version_Patch, t21_Deps, t21_Peers, t21_Optional, hc9, h⟩ := h
  refine vcL_val rfl rfl (Value.agg #[(Value.string t21_Name), (Value.int .i64 t21_Version_Major), (Value.int .i64 t21_Version_Minor), (Value.int .i64 t21_Version_Patch), (Sl.v t21_Deps), (Sl.v t21_Peers), (Sl.v t21_Optional)]) (exec_load rfl (by kernel_rfl) (run_loadN (fun w => by kernel_rfl) (fun w => by kernel_rfl) ((hc9)))) ?_
  refine vcL_eff rfl (opVC_call rfl (by kernel_rfl) (callS.mono h fun v11 vw10 h => ?_)) 
  obtain ⟨t22_Name, t22_Version_Major, t22_Version_Minor, t22_Version_Patch, t22_Deps, t22_Peers, t22_Optional, rfl, h⟩ := h
  refine vcL_pure rfl rfl (Value.bool t18b) (fun w => by kernel_rfl) ?_
  refine vcL_eff rfl (opVC_store rfl rfl (a := a1) (by kernel_rfl) (v := (Value.agg #[(Value.string t22_Name), (Value.int .i64 t22_Version_Major), (Value.int .i64 t22_Version_Minor), (Value.int .i64 t22_Version_Patch), (Sl.v t22_Deps), (Sl.v t22_Peers), (Sl.v t22_Optional)])) (by kernel_rfl) [(Value.string t22_Name), (Value.int .i64 t22_Version_Major), (Value.int .i64 t22_Version_Minor), (Value.int .i64 t22_Version_Patch), (Sl.v t22_Deps), (Sl.v t22_Peers), (Sl.v t22_Optional)] (by kernel_rfl) (fun w => by kernel_rfl) (by kernel_rfl) (stw.mono h fun vw12 h => ?_)) 
  refine vcL_pure rfl rfl (Value.bool t18b) (fun w => by kernel_rfl) ?_
  refine vcL_nil ?_
  refine Vc.ret ?_
  refine outs_ret ?_
  obtain ⟨r_Name, r_Version_Major, r_Version_Minor, r_Version_Patch, r_Deps, r_Peers, r_Optional, hc13, h⟩ := h
  refine done_mk (Value.tuple #[(Value.agg #[(Value.string r_Name), (Value.int .i64 r_Version_Major), (Value.int .i64 r_Version_Minor), (Value.int .i64 r_Version_Patch), (Sl.v r_Deps), (Sl.v r_Peers), (Sl.v r_Optional)]), (Value.bool t18b)]) (res2 (resC_cell (by kernel_rfl) (run_loadN (fun w => by kernel_rfl) (fun w => by kernel_rfl) hc13)) (resC_tmp (by kernel_rfl))) ?_
  exact ⟨r_Name, r_Version_Major, r_Version_Minor, r_Version_Patch, r_Deps, r_Peers, r_Optional, t18b, rfl, h⟩
theorem catalog_Catalog_Get.go {c : Option Addr} {name : ByteArray} {v_Major : Int} {v_Minor : Int} {v_Patch : Int} {w : World} {k : Value → World → Prop} (h : catalog_Catalog_Get c name v_Major v_Minor v_Patch w fun r0 r1 r2 r3 r4 r5 r6 r7 w' => k (Value.tuple #[(Value.agg #[(Value.string r0), (Value.int .i64 r1), (Value.int .i64 r2), (Value.int .i64 r3), (Sl.v r4), (Sl.v r5), (Sl.v r6)]), (Value.bool r7)]) w') : callS Tryz.prog 22 [(Value.pointer c), (Value.string name), (Value.agg #[(Value.int .i64 v_Major), (Value.int .i64 v_Minor), (Value.int .i64 v_Patch)])] w k := (catalog_Catalog_Get.sound c name v_Major v_Minor v_Patch w _ h).mono (by rintro _ _ ⟨r0, r1, r2, r3, r4, r5, r6, r7, rfl, h⟩; exact h)

/-- (*halyard/halyardref08.Catalog).Get -/
def halyardref08_Catalog_Get (c : Option Addr) (name : ByteArray) (v_Major : Int) (v_Minor : Int) (v_Patch : Int) (w : World) (R : ByteArray → Int → Int → Int → Sl → Sl → Sl → Bool → World → Prop) : Prop :=
  newS w [(Value.int .i64 v_Major), (Value.int .i64 v_Minor), (Value.int .i64 v_Patch)] 30 fun a vw => newS vw [(Value.string (ByteArray.mk #[])), (Value.int .i64 0), (Value.int .i64 0), (Value.int .i64 0), (Sl.v Sl.nil), (Sl.v Sl.nil), (Sl.v Sl.nil)] 48 fun a1 vw2 => loop1 0 vw2 fun i vw3 nxt => ∃ (p : Addr), (c = some p) ∧ ∃ (t13 : Sl), (ldc vw3 p [(Sl.v t13)]) ∧ ((i < (t13.len : Int) → bnd vw3.drew fun (vw4 : World) => ∃ (p5 : Addr), (c = some p5) ∧ ∃ (t21 : Sl), (ldc vw4 p5 [(Sl.v t21)]) ∧ ∃ (ad : Addr), (t21.a = some ad ∧ (0 : Int) ≤ i ∧ i < (t21.len : Int)) ∧ ∃ (t25 : ByteArray), (ldc vw4 (ad.add (i.toNat * 7)) [(Value.string t25)]) ∧ bnd (bEq t25 name) fun (b : Bool) => ∃ (p9 : Addr), grd b (c = some p9) ∧ ∃ (t32 : Sl), grd b (ldc vw4 p9 [(Sl.v t32)]) ∧ ∃ (ad12 : Addr), grd b (t32.a = some ad12 ∧ (0 : Int) ≤ i ∧ i < (t32.len : Int)) ∧ ∃ (t36_Major : Int) (t36_Minor : Int) (t36_Patch : Int), grd b (ldc vw4 ((ad12.add (i.toNat * 7)).add 1) [(Value.int .i64 t36_Major), (Value.int .i64 t36_Minor), (Value.int .i64 t36_Patch)]) ∧ ∃ (t37_Major : Int) (t37_Minor : Int) (t37_Patch : Int), grd b (ldc vw4 a [(Value.int .i64 t37_Major), (Value.int .i64 t37_Minor), (Value.int .i64 t37_Patch)]) ∧ (((b && ((t36_Major == t37_Major) && ((t36_Minor == t37_Minor) && ((t36_Patch == t37_Patch) && true)))) = true → ∃ (p16 : Addr), (c = some p16) ∧ ∃ (t43 : Sl), (ldc vw4 p16 [(Sl.v t43)]) ∧ ∃ (ad19 : Addr), (t43.a = some ad19 ∧ (0 : Int) ≤ i ∧ i < (t43.len : Int)) ∧ ∃ (t46_Name : ByteArray) (t46_Version_Major : Int) (t46_Version_Minor : Int) (t46_Version_Patch : Int) (t46_Deps : Sl) (t46_Peers : Sl) (t46_Optional : Sl), (ldc vw4 (ad19.add (i.toNat * 7)) [(Value.string t46_Name), (Value.int .i64 t46_Version_Major), (Value.int .i64 t46_Version_Minor), (Value.int .i64 t46_Version_Patch), (Sl.v t46_Deps), (Sl.v t46_Peers), (Sl.v t46_Optional)]) ∧ stw vw4 a1 [(Value.string t46_Name), (Value.int .i64 t46_Version_Major), (Value.int .i64 t46_Version_Minor), (Value.int .i64 t46_Version_Patch), (Sl.v t46_Deps), (Sl.v t46_Peers), (Sl.v t46_Optional)] fun vw22 => ∃ (r_Name : ByteArray) (r_Version_Major : Int) (r_Version_Minor : Int) (r_Version_Patch : Int) (r_Deps : Sl) (r_Peers : Sl) (r_Optional : Sl), ldc vw22 a1 [(Value.string r_Name), (Value.int .i64 r_Version_Major), (Value.int .i64 r_Version_Minor), (Value.int .i64 r_Version_Patch), (Sl.v r_Deps), (Sl.v r_Peers), (Sl.v r_Optional)] ∧ R r_Name r_Version_Major r_Version_Minor r_Version_Patch r_Deps r_Peers r_Optional true vw22) ∧ ((b && ((t36_Major == t37_Major) && ((t36_Minor == t37_Minor) && ((t36_Patch == t37_Patch) && true)))) = false → nxt (wrapI (i + 1)) vw4))) ∧ (¬ (i < (t13.len : Int)) → stw vw3 a1 [(Value.string (ByteArray.mk #[])), (Value.int .i64 0), (Value.int .i64 0), (Value.int .i64 0), (Sl.v Sl.nil), (Sl.v Sl.nil), (Sl.v Sl.nil)] fun vw24 => ∃ (r_Name25 : ByteArray) (r_Version_Major26 : Int) (r_Version_Minor27 : Int) (r_Version_Patch28 : Int) (r_Deps29 : Sl) (r_Peers30 : Sl) (r_Optional31 : Sl), ldc vw24 a1 [(Value.string r_Name25), (Value.int .i64 r_Version_Major26), (Value.int .i64 r_Version_Minor27), (Value.int .i64 r_Version_Patch28), (Sl.v r_Deps29), (Sl.v r_Peers30), (Sl.v r_Optional31)] ∧ R r_Name25 r_Version_Major26 r_Version_Minor27 r_Version_Patch28 r_Deps29 r_Peers30 r_Optional31 false vw24))
set_option maxHeartbeats 8000000 in
theorem halyardref08_Catalog_Get.sound (c : Option Addr) (name : ByteArray) (v_Major : Int) (v_Minor : Int) (v_Patch : Int) (w : World) (R : ByteArray → Int → Int → Int → Sl → Sl → Sl → Bool → World → Prop) (h : halyardref08_Catalog_Get c name v_Major v_Minor v_Patch w R) : callS Tryz.prog 23 [(Value.pointer c), (Value.string name), (Value.agg #[(Value.int .i64 v_Major), (Value.int .i64 v_Minor), (Value.int .i64 v_Patch)])] w (fun v w' => ∃ (r0 : ByteArray) (r1 : Int) (r2 : Int) (r3 : Int) (r4 : Sl) (r5 : Sl) (r6 : Sl) (r7 : Bool), v = (Value.tuple #[(Value.agg #[(Value.string r0), (Value.int .i64 r1), (Value.int .i64 r2), (Value.int .i64 r3), (Sl.v r4), (Sl.v r5), (Sl.v r6)]), (Value.bool r7)]) ∧ R r0 r1 r2 r3 r4 r5 r6 r7 w') := by
  unfold halyardref08_Catalog_Get at h
  refine calls_of_vc 48 rfl Tryz.func23 rfl (by kernel_rfl) (by simp) ?_
  refine Vc.seq ?_
  refine Vc.region ?_
  refine vcL_eff rfl (opVC_new rfl (fun a => Value.pointer (some a)) (by kernel_rfl) (newS.mono h fun a vw hx h => ?_)) 
  refine vcL_eff rfl (opVC_new rfl (fun a => Value.pointer (some a)) (by kernel_rfl) (newS.mono h fun a1 vw2 hx h => ?_)) 
  refine vcL_pure rfl rfl (Value.bool false) (fun w => by kernel_rfl) ?_
  refine vcL_nil ?_
  refine Vc.seq ?_
  refine Vc.seq ?_
  refine Vc.region ?_
  refine vcL_pure rfl rfl (Value.int .i64 0) (fun w => by kernel_rfl) ?_
  refine vcL_nil ?_
  refine Vc.block ?_
  obtain ⟨vI, mu, h, hr⟩ := h
  refine Vc.loopJ (σ := Int) [8] [7, 9, 10, 11, 12, 13, 14, 15, 16, 17, 18, 19, 20, 21, 22, 23, 24, 25, 26, 27, 28, 29, 30, 31, 32, 33, 34, 35, 36, 37, 38, 39, 40, 41, 42, 43, 44, 45, 46] (fun s => [(8, (Value.int .i64 s))]) (fun s w => vI s w) (fun s w => mu s w) 0 h (fun _ => rfl) (by kernel_rfl) ?_
  intro i vw3 j h
  have h := hr i vw3 h
  refine Vc.seq ?_
  refine Vc.seq ?_
  refine Vc.region ?_
  refine vcL_purs 2 [(10, (Value.pointer c)), (9, (Value.int .i64 i))] (by kernel_rfl) ?_
  obtain ⟨p, hp, h⟩ := h
  refine vcL_pure rfl rfl (Value.pointer (some p)) (fun w => by exact exec_nilCheck rfl (by kernel_rfl) (hp) w) ?_
  refine vcL_pure rfl rfl (Value.pointer (some p)) (fun w => by kernel_rfl) ?_
  obtain ⟨t13, hc, h⟩ := h
  refine vcL_val rfl rfl (Sl.v t13) (exec_load rfl (by kernel_rfl) (run_load1 (fun w => by kernel_rfl) ((hc)))) ?_
  refine vcL_purs 2 [(15, (Value.bool (decide (i < (t13.len : Int))))), (14, (Value.int .i64 (t13.len : Int)))] (by kernel_rfl) ?_
  refine vcL_nil ?_
  refine Vc.cond (decide (i < (t13.len : Int))) (by kernel_rfl) (fun hb => ?_) (fun hb => ?_)
  · have h := h.1 (of_decide_eq_true hb)
    refine Vc.skip ?_
    refine Vc.seq ?_
    refine Vc.block ?_
    refine Vc.seq ?_
    obtain ⟨vw4, hvw4⟩ : ∃ y, y = vw3.drew := ⟨_, rfl⟩
    have h := h vw4 hvw4
    refine Vc.draw (by kernel_rfl) (fun i => !(memN [] i)) (.pur 0 (.pur 1 (.pur 2 (.val 3 (.pur 4 (.pur 5 (.pur 6 (.val 7 (.pur 8 (.pur 9 (.pur 10 (.pur 11 (.pur 12 (.pur 13 (.val 14 (.pur 15 (.pur 16 (.pur 17 (.val 18 (.val 19 (.pur 20 (.pur 21 .fin)))))))))))))))))))))) (by kernel_rfl) ?_
    rw [← hvw4]
    clear hvw4
    refine vcS_pure rfl rfl rfl (Value.pointer c) (fun w => by kernel_rfl) ?_
    obtain ⟨p5, hp6, h⟩ := h
    refine vcS_pure rfl rfl rfl (Value.pointer (some p5)) (fun w => by exact exec_nilCheck rfl (by kernel_rfl) (hp6) w) ?_
    refine vcS_pure rfl rfl rfl (Value.pointer (some p5)) (fun w => by kernel_rfl) ?_
    obtain ⟨t21, hc7, h⟩ := h
    refine vcS_val rfl rfl rfl (Sl.v t21) (fun w' hx => exec_load rfl (by kernel_rfl) (run_load1 (fun w => by kernel_rfl) ((hc7).ext hx))) ?_
    refine vcS_pure rfl rfl rfl (Value.int .i64 i) (fun w => by kernel_rfl) ?_
    obtain ⟨ad, hi, h⟩ := h
    refine vcS_pure rfl rfl rfl (Value.pointer (some (ad.add (i.toNat * 7)))) (fun w => by exact exec_indexAt (s := t21) (el := 48) rfl (by kernel_rfl) (by kernel_rfl) (by kernel_rfl) (fun w => by kernel_rfl) (hi).1 (hi).2.1 (hi).2.2 w) ?_
    refine vcS_pure rfl rfl rfl (Value.pointer (some (ad.add (i.toNat * 7)))) (fun w => by kernel_rfl) ?_
    obtain ⟨t25, hc8, h⟩ := h
    refine vcS_val rfl rfl rfl (Value.string t25) (fun w' hx => exec_load rfl (by kernel_rfl) (run_load1 (fun w => by kernel_rfl) ((hc8).ext hx))) ?_
    refine vcS_pure rfl rfl rfl (Value.string name) (fun w => by kernel_rfl) ?_
    refine vcS_pure rfl rfl rfl (Value.bool (bEq t25 name)) (fun w => by kernel_rfl) ?_
    obtain ⟨b, hb⟩ : ∃ y, y = (bEq t25 name) := ⟨_, rfl⟩
    have h := h b hb
    refine vcS_pure rfl rfl rfl (Value.bool b) (fun w => by rw [hb]; kernel_rfl) ?_
    refine vcS_guard rfl b (wanted_g (d := 28) rfl (by kernel_rfl) b (by kernel_rfl) b (eqT b)) rfl (Value.pointer c) (fun hg w => by subst hg; kernel_rfl) ?_
    obtain ⟨p9, hp10, h⟩ := h
    refine vcS_guard rfl b (wanted_g (d := 28) rfl (by kernel_rfl) b (by kernel_rfl) b (eqT b)) rfl (Value.pointer (some p9)) (fun hg w => by subst hg; exact exec_nilCheck rfl (by kernel_rfl) (hp10 rfl) w) ?_
    refine vcS_guard rfl b (wanted_g (d := 28) rfl (by kernel_rfl) b (by kernel_rfl) b (eqT b)) rfl (Value.pointer (some p9)) (fun hg w => by subst hg; kernel_rfl) ?_
    obtain ⟨t32, hc11, h⟩ := h
    refine vcS_valG rfl b (wanted_g (d := 28) rfl (by kernel_rfl) b (by kernel_rfl) b (eqT b)) rfl (Sl.v t32) (fun hg w' hx => by subst hg; exact exec_load rfl (by kernel_rfl) (run_load1 (fun w => by kernel_rfl) ((hc11 rfl).ext hx))) ?_
    refine vcS_guard rfl b (wanted_g (d := 28) rfl (by kernel_rfl) b (by kernel_rfl) b (eqT b)) rfl (Value.int .i64 i) (fun hg w => by subst hg; kernel_rfl) ?_
    obtain ⟨ad12, hi13, h⟩ := h
    refine vcS_guard rfl b (wanted_g (d := 28) rfl (by kernel_rfl) b (by kernel_rfl) b (eqT b)) rfl (Value.pointer (some (ad12.add (i.toNat * 7)))) (fun hg w => by subst hg; exact exec_indexAt (s := t32) (el := 48) rfl (by kernel_rfl) (by kernel_rfl) (by kernel_rfl) (fun w => by kernel_rfl) (hi13 rfl).1 (hi13 rfl).2.1 (hi13 rfl).2.2 w) ?_
    refine vcS_guard rfl b (wanted_g (d := 28) rfl (by kernel_rfl) b (by kernel_rfl) b (eqT b)) rfl (Value.pointer (some ((ad12.add (i.toNat * 7)).add 1))) (fun hg w => by subst hg; kernel_rfl) ?_
    obtain ⟨t36_Major, t36_Minor, t36_Patch, hc14, h⟩ := h
    refine vcS_valG rfl b (wanted_g (d := 28) rfl (by kernel_rfl) b (by kernel_rfl) b (eqT b)) rfl (Value.agg #[(Value.int .i64 t36_Major), (Value.int .i64 t36_Minor), (Value.int .i64 t36_Patch)]) (fun hg w' hx => by subst hg; exact exec_load rfl (by kernel_rfl) (run_loadN (fun w => by kernel_rfl) (fun w => by kernel_rfl) ((hc14 rfl).ext hx))) ?_
    obtain ⟨t37_Major, t37_Minor, t37_Patch, hc15, h⟩ := h
    refine vcS_valG rfl b (wanted_g (d := 28) rfl (by kernel_rfl) b (by kernel_rfl) b (eqT b)) rfl (Value.agg #[(Value.int .i64 t37_Major), (Value.int .i64 t37_Minor), (Value.int .i64 t37_Patch)]) (fun hg w' hx => by subst hg; exact exec_load rfl (by kernel_rfl) (run_loadN (fun w => by kernel_rfl) (fun w => by kernel_rfl) ((hc15 rfl).ext hx))) ?_
    refine vcS_guard rfl b (wanted_g (d := 28) rfl (by kernel_rfl) b (by kernel_rfl) b (eqT b)) rfl (Value.bool ((t36_Major == t37_Major) && ((t36_Minor == t37_Minor) && ((t36_Patch == t37_Patch) && true)))) (fun hg w => by subst hg; exact exec_struct_eq rfl (by kernel_rfl) (by kernel_rfl) (by kernel_rfl) (eqv_30 9998 t36_Major t36_Minor t36_Patch t37_Major t37_Minor t37_Patch w)) ?_
    refine vcS_pure rfl rfl rfl (Value.bool (b && ((t36_Major == t37_Major) && ((t36_Minor == t37_Minor) && ((t36_Patch == t37_Patch) && true))))) (fun w => by cases b <;> kernel_rfl) ?_
    refine vcS_fin ?_
    refine Vc.cond (b && ((t36_Major == t37_Major) && ((t36_Minor == t37_Minor) && ((t36_Patch == t37_Patch) && true)))) (by kernel_rfl) (fun hb => ?_) (fun hb => ?_)
    · have h := h.1 (hb)
      refine Vc.seq ?_
      refine Vc.region ?_
      refine vcL_pure rfl rfl (Value.pointer c) (fun w => by kernel_rfl) ?_
      obtain ⟨p16, hp17, h⟩ := h
      refine vcL_pure rfl rfl (Value.pointer (some p16)) (fun w => by exact exec_nilCheck rfl (by kernel_rfl) (hp17) w) ?_
      refine vcL_pure rfl rfl (Value.pointer (some p16)) (fun w => by kernel_rfl) ?_
      obtain ⟨t43, hc18, h⟩ := h
      refine vcL_val rfl rfl (Sl.v t43) (exec_load rfl (by kernel_rfl) (run_load1 (fun w => by kernel_rfl) ((hc18)))) ?_
      refine vcL_pure rfl rfl (Value.int .i64 i) (fun w => by kernel_rfl) ?_
      obtain ⟨ad19, hi20, h⟩ := h
      refine vcL_pure rfl rfl (Value.pointer (some (ad19.add (i.toNat * 7)))) (fun w => by exact exec_indexAt (s := t43) (el := 48) rfl (by kernel_rfl) (by kernel_rfl) (by kernel_rfl) (fun w => by kernel_rfl) (hi20).1 (hi20).2.1 (hi20).2.2 w) ?_
      obtain ⟨t46_Name, t46_Version_Major, t46_Version_Minor, t46_Version_Patch, t46_Deps, t46_Peers, t46_Optional, hc21, h⟩ := h
      refine vcL_val rfl rfl (Value.agg #[(Value.string t46_Name), (Value.int .i64 t46_Version_Major), (Value.int .i64 t46_Version_Minor), (Value.int .i64 t46_Version_Patch), (Sl.v t46_Deps), (Sl.v t46_Peers), (Sl.v t46_Optional)]) (exec_load rfl (by kernel_rfl) (run_loadN (fun w => by kernel_rfl) (fun w => by kernel_rfl) ((hc21)))) ?_
      refine vcL_eff rfl (opVC_store rfl rfl (a := a1) (by kernel_rfl) (v := (Value.agg #[(Value.string t46_Name), (Value.int .i64 t46_Version_Major), (Value.int .i64 t46_Version_Minor), (Value.int .i64 t46_Version_Patch), (Sl.v t46_Deps), (Sl.v t46_Peers), (Sl.v t46_Optional)])) (by kernel_rfl) [(Value.string t46_Name), (Value.int .i64 t46_Version_Major), (Value.int .i64 t46_Version_Minor), (Value.int .i64 t46_Version_Patch), (Sl.v t46_Deps), (Sl.v t46_Peers), (Sl.v t46_Optional)] (by kernel_rfl) (fun w => by kernel_rfl) (by kernel_rfl) (stw.mono h fun vw22 h => ?_)) 
      refine vcL_pure rfl rfl (Value.bool true) (fun w => by kernel_rfl) ?_
      refine vcL_nil ?_
      refine Vc.ret ?_
      refine outOf_ret ?_
      refine outOf_ret ?_
      refine outs_ret ?_
      obtain ⟨r_Name, r_Version_Major, r_Version_Minor, r_Version_Patch, r_Deps, r_Peers, r_Optional, hc23, h⟩ := h
      refine done_mk (Value.tuple #[(Value.agg #[(Value.string r_Name), (Value.int .i64 r_Version_Major), (Value.int .i64 r_Version_Minor), (Value.int .i64 r_Version_Patch), (Sl.v r_Deps), (Sl.v r_Peers), (Sl.v r_Optional)]), (Value.bool true)]) (res2 (resC_cell (by kernel_rfl) (run_loadN (fun w => by kernel_rfl) (fun w => by kernel_rfl) hc23)) (resC_tmp (by kernel_rfl))) ?_
      exact ⟨r_Name, r_Version_Major, r_Version_Minor, r_Version_Patch, r_Deps, r_Peers, r_Optional, true, rfl, h⟩
    · have h := h.2 (hb)
      refine Vc.skip ?_
      refine Vc.region ?_
      refine vcL_purs 3 [(8, (Value.int .i64 (wrapI (i + 1)))), (17, (Value.int .i64 (wrapI (i + 1)))), (16, (Value.int .i64 i))] (by kernel_rfl) ?_
      refine vcL_nil ?_
      exact ⟨(wrapI (i + 1)), 72, ⟨rfl, by kernel_rfl, by kernel_rfl, by kernel_rfl⟩, h⟩
  · have h := h.2 (of_decide_eq_false hb)
    refine Vc.exit ?_
    refine outOf_hit ?_
    refine Vc.seq ?_
    refine Vc.region ?_
    refine vcL_pure rfl rfl (Value.agg #[(Value.string (ByteArray.mk #[])), (Value.int .i64 0), (Value.int .i64 0), (Value.int .i64 0), (Sl.v Sl.nil), (Sl.v Sl.nil), (Sl.v Sl.nil)]) (fun w => by kernel_rfl) ?_
    refine vcL_eff rfl (opVC_store rfl rfl (a := a1) (by kernel_rfl) (v := (Value.agg #[(Value.string (ByteArray.mk #[])), (Value.int .i64 0), (Value.int .i64 0), (Value.int .i64 0), (Sl.v Sl.nil), (Sl.v Sl.nil), (Sl.v Sl.nil)])) (by kernel_rfl) [(Value.string (ByteArray.mk #[])), (Value.int .i64 0), (Value.int .i64 0), (Value.int .i64 0), (Sl.v Sl.nil), (Sl.v Sl.nil), (Sl.v Sl.nil)] (by kernel_rfl) (fun w => by kernel_rfl) (by kernel_rfl) (stw.mono h fun vw24 h => ?_)) 
    refine vcL_pure rfl rfl (Value.bool false) (fun w => by kernel_rfl) ?_
    refine vcL_nil ?_
    refine Vc.ret ?_
    refine outs_ret ?_
    obtain ⟨r_Name25, r_Version_Major26, r_Version_Minor27, r_Version_Patch28, r_Deps29, r_Peers30, r_Optional31, hc32, h⟩ := h
    refine done_mk (Value.tuple #[(Value.agg #[(Value.string r_Name25), (Value.int .i64 r_Version_Major26), (Value.int .i64 r_Version_Minor27), (Value.int .i64 r_Version_Patch28), (Sl.v r_Deps29), (Sl.v r_Peers30), (Sl.v r_Optional31)]), (Value.bool false)]) (res2 (resC_cell (by kernel_rfl) (run_loadN (fun w => by kernel_rfl) (fun w => by kernel_rfl) hc32)) (resC_tmp (by kernel_rfl))) ?_
    exact ⟨r_Name25, r_Version_Major26, r_Version_Minor27, r_Version_Patch28, r_Deps29, r_Peers30, r_Optional31, false, rfl, h⟩
theorem halyardref08_Catalog_Get.go {c : Option Addr} {name : ByteArray} {v_Major : Int} {v_Minor : Int} {v_Patch : Int} {w : World} {k : Value → World → Prop} (h : halyardref08_Catalog_Get c name v_Major v_Minor v_Patch w fun r0 r1 r2 r3 r4 r5 r6 r7 w' => k (Value.tuple #[(Value.agg #[(Value.string r0), (Value.int .i64 r1), (Value.int .i64 r2), (Value.int .i64 r3), (Sl.v r4), (Sl.v r5), (Sl.v r6)]), (Value.bool r7)]) w') : callS Tryz.prog 23 [(Value.pointer c), (Value.string name), (Value.agg #[(Value.int .i64 v_Major), (Value.int .i64 v_Minor), (Value.int .i64 v_Patch)])] w k := (halyardref08_Catalog_Get.sound c name v_Major v_Minor v_Patch w _ h).mono (by rintro _ _ ⟨r0, r1, r2, r3, r4, r5, r6, r7, rfl, h⟩; exact h)

/-- halyard/halyardref02.Compare -/
def halyardref02_Compare (a_Major : Int) (a_Minor : Int) (a_Patch : Int) (b_Major : Int) (b_Minor : Int) (b_Patch : Int) (w : World) (R : Int → World → Prop) : Prop :=
  newS w [(Value.int .i64 a_Major), (Value.int .i64 a_Minor), (Value.int .i64 a_Patch)] 30 fun a vw => newS vw [(Value.int .i64 b_Major), (Value.int .i64 b_Minor), (Value.int .i64 b_Patch)] 30 fun a1 vw2 => ∃ (t9 : Int), (ldc vw2 a [(Value.int .i64 t9)]) ∧ ∃ (t11 : Int), (ldc vw2 (a.add 1) [(Value.int .i64 t11)]) ∧ ∃ (t13 : Int), (ldc vw2 (a.add 2) [(Value.int .i64 t13)]) ∧ newS vw2 [(Value.int .i64 t9), (Value.int .i64 t11), (Value.int .i64 t13)] 3 fun a5 vw6 => ∃ (t16 : Int), (ldc vw6 a1 [(Value.int .i64 t16)]) ∧ ∃ (t18 : Int), (ldc vw6 (a1.add 1) [(Value.int .i64 t18)]) ∧ ∃ (t20 : Int), (ldc vw6 (a1.add 2) [(Value.int .i64 t20)]) ∧ newS vw6 [(Value.int .i64 t16), (Value.int .i64 t18), (Value.int .i64 t20)] 3 fun a10 vw11 => loop1 0 vw11 fun i vw12 nxt => ((i < 3 → bnd vw12.drew fun (vw13 : World) => ∃ (ad : Addr), ((Sl.mk (some a5) 3 3).a = some ad ∧ (0 : Int) ≤ i ∧ i < ((Sl.mk (some a5) 3 3).len : Int)) ∧ ∃ (t29 : Int), (ldc vw13 (ad.add (i.toNat * 1)) [(Value.int .i64 t29)]) ∧ ∃ (ad15 : Addr), ((Sl.mk (some a10) 3 3).a = some ad15 ∧ (0 : Int) ≤ i ∧ i < ((Sl.mk (some a10) 3 3).len : Int)) ∧ ∃ (t33 : Int), (ldc vw13 (ad15.add (i.toNat * 1)) [(Value.int .i64 t33)]) ∧ ((t29 < t33 → R (-1) vw13) ∧ (¬ (t29 < t33) → bnd vw13.drew fun (vw18 : World) => ∃ (ad19 : Addr), ((Sl.mk (some a5) 3 3).a = some ad19 ∧ (0 : Int) ≤ i ∧ i < ((Sl.mk (some a5) 3 3).len : Int)) ∧ ∃ (t38 : Int), (ldc vw18 (ad19.add (i.toNat * 1)) [(Value.int .i64 t38)]) ∧ ∃ (ad22 : Addr), ((Sl.mk (some a10) 3 3).a = some ad22 ∧ (0 : Int) ≤ i ∧ i < ((Sl.mk (some a10) 3 3).len : Int)) ∧ ∃ (t42 : Int), (ldc vw18 (ad22.add (i.toNat * 1)) [(Value.int .i64 t42)]) ∧ ((t42 < t38 → R 1 vw18) ∧ (¬ (t42 < t38) → nxt (wrapI (i + 1)) vw18))))) ∧ (¬ (i < 3) → R 0 vw12))
set_option maxHeartbeats 8000000 in
theorem halyardref02_Compare.sound (a_Major : Int) (a_Minor : Int) (a_Patch : Int) (b_Major : Int) (b_Minor : Int) (b_Patch : Int) (w : World) (R : Int → World → Prop) (h : halyardref02_Compare a_Major a_Minor a_Patch b_Major b_Minor b_Patch w R) : callS Tryz.prog 33 [(Value.agg #[(Value.int .i64 a_Major), (Value.int .i64 a_Minor), (Value.int .i64 a_Patch)]), (Value.agg #[(Value.int .i64 b_Major), (Value.int .i64 b_Minor), (Value.int .i64 b_Patch)])] w (fun v w' => ∃ (r0 : Int), v = (Value.int .i64 r0) ∧ R r0 w') := by
  unfold halyardref02_Compare at h
  refine calls_of_vc 44 rfl Tryz.func33 rfl (by kernel_rfl) (by simp) ?_
  refine Vc.seq ?_
  refine Vc.region ?_
  refine vcL_eff rfl (opVC_new rfl (fun a => Value.pointer (some a)) (by kernel_rfl) (newS.mono h fun a vw hx h => ?_)) 
  refine vcL_eff rfl (opVC_new rfl (fun a => Value.pointer (some a)) (by kernel_rfl) (newS.mono h fun a1 vw2 hx h => ?_)) 
  refine vcL_pure rfl rfl (Value.int .i64 0) (fun w => by kernel_rfl) ?_
  refine vcL_nil ?_
  refine Vc.seq ?_
  refine Vc.region ?_
  refine vcL_pure rfl rfl (Value.pointer (some a)) (fun w => by kernel_rfl) ?_
  obtain ⟨t9, hc, h⟩ := h
  refine vcL_val rfl rfl (Value.int .i64 t9) (exec_load rfl (by kernel_rfl) (run_load1 (fun w => by kernel_rfl) ((hc)))) ?_
  refine vcL_pure rfl rfl (Value.pointer (some (a.add 1))) (fun w => by kernel_rfl) ?_
  obtain ⟨t11, hc3, h⟩ := h
  refine vcL_val rfl rfl (Value.int .i64 t11) (exec_load rfl (by kernel_rfl) (run_load1 (fun w => by kernel_rfl) ((hc3)))) ?_
  refine vcL_pure rfl rfl (Value.pointer (some (a.add 2))) (fun w => by kernel_rfl) ?_
  obtain ⟨t13, hc4, h⟩ := h
  refine vcL_val rfl rfl (Value.int .i64 t13) (exec_load rfl (by kernel_rfl) (run_load1 (fun w => by kernel_rfl) ((hc4)))) ?_
  refine vcL_eff rfl (opVC_new rfl (fun a => Value.slice (some a) 3 3) (by kernel_rfl) (newS.mono h fun a5 vw6 hx h => ?_)) 
  refine vcL_pure rfl rfl (Sl.v (Sl.mk (some a5) 3 3)) (fun w => by kernel_rfl) ?_
  refine vcL_nil ?_
  refine Vc.seq ?_
  refine Vc.region ?_
  refine vcL_pure rfl rfl (Value.pointer (some a1)) (fun w => by kernel_rfl) ?_
  obtain ⟨t16, hc7, h⟩ := h
  refine vcL_val rfl rfl (Value.int .i64 t16) (exec_load rfl (by kernel_rfl) (run_load1 (fun w => by kernel_rfl) ((hc7)))) ?_
  refine vcL_pure rfl rfl (Value.pointer (some (a1.add 1))) (fun w => by kernel_rfl) ?_
  obtain ⟨t18, hc8, h⟩ := h
  refine vcL_val rfl rfl (Value.int .i64 t18) (exec_load rfl (by kernel_rfl) (run_load1 (fun w => by kernel_rfl) ((hc8)))) ?_
  refine vcL_pure rfl rfl (Value.pointer (some (a1.add 2))) (fun w => by kernel_rfl) ?_
  obtain ⟨t20, hc9, h⟩ := h
  refine vcL_val rfl rfl (Value.int .i64 t20) (exec_load rfl (by kernel_rfl) (run_load1 (fun w => by kernel_rfl) ((hc9)))) ?_
  refine vcL_eff rfl (opVC_new rfl (fun a => Value.slice (some a) 3 3) (by kernel_rfl) (newS.mono h fun a10 vw11 hx h => ?_)) 
  refine vcL_pure rfl rfl (Sl.v (Sl.mk (some a10) 3 3)) (fun w => by kernel_rfl) ?_
  refine vcL_nil ?_
  refine Vc.seq ?_
  refine Vc.seq ?_
  refine Vc.region ?_
  refine vcL_pure rfl rfl (Value.int .i64 0) (fun w => by kernel_rfl) ?_
  refine vcL_nil ?_
  refine Vc.block ?_
  obtain ⟨vI, mu, h, hr⟩ := h
  refine Vc.loopJ (σ := Int) [7] [4, 22, 23, 24, 25, 26, 27, 28, 29, 30, 31, 32, 33, 34, 35, 36, 37, 38, 39, 40, 41, 42, 43] (fun s => [(7, (Value.int .i64 s))]) (fun s w => vI s w) (fun s w => mu s w) 0 h (fun _ => rfl) (by kernel_rfl) ?_
  intro i vw12 j h
  have h := hr i vw12 h
  refine Vc.seq ?_
  refine Vc.seq ?_
  refine Vc.region ?_
  refine vcL_purs 2 [(23, (Value.bool (decide (i < 3)))), (22, (Value.int .i64 i))] (by kernel_rfl) ?_
  refine vcL_nil ?_
  refine Vc.cond (decide (i < 3)) (by kernel_rfl) (fun hb => ?_) (fun hb => ?_)
  · have h := h.1 (of_decide_eq_true hb)
    refine Vc.skip ?_
    refine Vc.seq ?_
    refine Vc.block ?_
    refine Vc.seq ?_
    refine Vc.seq ?_
    obtain ⟨vw13, hvw13⟩ : ∃ y, y = vw12.drew := ⟨_, rfl⟩
    have h := h vw13 hvw13
    refine Vc.draw (by kernel_rfl) (fun i => !(memN [] i)) (.pur 0 (.pur 1 (.pur 2 (.val 3 (.pur 4 (.pur 5 (.pur 6 (.val 7 (.pur 8 .fin))))))))) (by kernel_rfl) ?_
    rw [← hvw13]
    clear hvw13
    refine vcS_pure rfl rfl rfl (Sl.v (Sl.mk (some a5) 3 3)) (fun w => by kernel_rfl) ?_
    refine vcS_pure rfl rfl rfl (Value.int .i64 i) (fun w => by kernel_rfl) ?_
    obtain ⟨ad, hi, h⟩ := h
    refine vcS_pure rfl rfl rfl (Value.pointer (some (ad.add (i.toNat * 1)))) (fun w => by exact exec_indexAt (s := (Sl.mk (some a5) 3 3)) (el := 3) rfl (by kernel_rfl) (by kernel_rfl) (by kernel_rfl) (fun w => by kernel_rfl) (hi).1 (hi).2.1 (hi).2.2 w) ?_
    obtain ⟨t29, hc14, h⟩ := h
    refine vcS_val rfl rfl rfl (Value.int .i64 t29) (fun w' hx => exec_load rfl (by kernel_rfl) (run_load1 (fun w => by kernel_rfl) ((hc14).ext hx))) ?_
    refine vcS_pure rfl rfl rfl (Sl.v (Sl.mk (some a10) 3 3)) (fun w => by kernel_rfl) ?_
    refine vcS_pure rfl rfl rfl (Value.int .i64 i) (fun w => by kernel_rfl) ?_
    obtain ⟨ad15, hi16, h⟩ := h
    refine vcS_pure rfl rfl rfl (Value.pointer (some (ad15.add (i.toNat * 1)))) (fun w => by exact exec_indexAt (s := (Sl.mk (some a10) 3 3)) (el := 3) rfl (by kernel_rfl) (by kernel_rfl) (by kernel_rfl) (fun w => by kernel_rfl) (hi16).1 (hi16).2.1 (hi16).2.2 w) ?_
    obtain ⟨t33, hc17, h⟩ := h
    refine vcS_val rfl rfl rfl (Value.int .i64 t33) (fun w' hx => exec_load rfl (by kernel_rfl) (run_load1 (fun w => by kernel_rfl) ((hc17).ext hx))) ?_
    refine vcS_pure rfl rfl rfl (Value.bool (decide (t29 < t33))) (fun w => by kernel_rfl) ?_
    refine vcS_fin ?_
    refine Vc.cond (decide (t29 < t33)) (by kernel_rfl) (fun hb => ?_) (fun hb => ?_)
    · have h := h.1 (of_decide_eq_true hb)
      refine Vc.seq ?_
      refine Vc.region ?_
      refine vcL_pure rfl rfl (Value.int .i64 (-1)) (fun w => by kernel_rfl) ?_
      refine vcL_nil ?_
      refine Vc.ret ?_
      refine outOf_ret ?_
      refine outOf_ret ?_
      refine outs_ret ?_
      refine done_mk (Value.int .i64 (-1)) (res1 (resC_tmp (by kernel_rfl))) ?_
      exact ⟨(-1), rfl, h⟩
    · have h := h.2 (of_decide_eq_false hb)
      refine Vc.skip ?_
      refine Vc.seq ?_
      obtain ⟨vw18, hvw18⟩ : ∃ y, y = vw13.drew := ⟨_, rfl⟩
      have h := h vw18 hvw18
      refine Vc.draw (by kernel_rfl) (fun i => !(memN [] i)) (.pur 0 (.pur 1 (.pur 2 (.val 3 (.pur 4 (.pur 5 (.pur 6 (.val 7 (.pur 8 .fin))))))))) (by kernel_rfl) ?_
      rw [← hvw18]
      clear hvw18
      refine vcS_pure rfl rfl rfl (Sl.v (Sl.mk (some a5) 3 3)) (fun w => by kernel_rfl) ?_
      refine vcS_pure rfl rfl rfl (Value.int .i64 i) (fun w => by kernel_rfl) ?_
      obtain ⟨ad19, hi20, h⟩ := h
      refine vcS_pure rfl rfl rfl (Value.pointer (some (ad19.add (i.toNat * 1)))) (fun w => by exact exec_indexAt (s := (Sl.mk (some a5) 3 3)) (el := 3) rfl (by kernel_rfl) (by kernel_rfl) (by kernel_rfl) (fun w => by kernel_rfl) (hi20).1 (hi20).2.1 (hi20).2.2 w) ?_
      obtain ⟨t38, hc21, h⟩ := h
      refine vcS_val rfl rfl rfl (Value.int .i64 t38) (fun w' hx => exec_load rfl (by kernel_rfl) (run_load1 (fun w => by kernel_rfl) ((hc21).ext hx))) ?_
      refine vcS_pure rfl rfl rfl (Sl.v (Sl.mk (some a10) 3 3)) (fun w => by kernel_rfl) ?_
      refine vcS_pure rfl rfl rfl (Value.int .i64 i) (fun w => by kernel_rfl) ?_
      obtain ⟨ad22, hi23, h⟩ := h
      refine vcS_pure rfl rfl rfl (Value.pointer (some (ad22.add (i.toNat * 1)))) (fun w => by exact exec_indexAt (s := (Sl.mk (some a10) 3 3)) (el := 3) rfl (by kernel_rfl) (by kernel_rfl) (by kernel_rfl) (fun w => by kernel_rfl) (hi23).1 (hi23).2.1 (hi23).2.2 w) ?_
      obtain ⟨t42, hc24, h⟩ := h
      refine vcS_val rfl rfl rfl (Value.int .i64 t42) (fun w' hx => exec_load rfl (by kernel_rfl) (run_load1 (fun w => by kernel_rfl) ((hc24).ext hx))) ?_
      refine vcS_pure rfl rfl rfl (Value.bool (decide (t42 < t38))) (fun w => by kernel_rfl) ?_
      refine vcS_fin ?_
      refine Vc.cond (decide (t42 < t38)) (by kernel_rfl) (fun hb => ?_) (fun hb => ?_)
      · have h := h.1 (of_decide_eq_true hb)
        refine Vc.seq ?_
        refine Vc.region ?_
        refine vcL_pure rfl rfl (Value.int .i64 1) (fun w => by kernel_rfl) ?_
        refine vcL_nil ?_
        refine Vc.ret ?_
        refine outOf_ret ?_
        refine outOf_ret ?_
        refine outs_ret ?_
        refine done_mk (Value.int .i64 1) (res1 (resC_tmp (by kernel_rfl))) ?_
        exact ⟨1, rfl, h⟩
      · have h := h.2 (of_decide_eq_false hb)
        refine Vc.skip ?_
        refine Vc.region ?_
        refine vcL_purs 3 [(7, (Value.int .i64 (wrapI (i + 1)))), (25, (Value.int .i64 (wrapI (i + 1)))), (24, (Value.int .i64 i))] (by kernel_rfl) ?_
        refine vcL_nil ?_
        exact ⟨(wrapI (i + 1)), 47, ⟨rfl, by kernel_rfl, by kernel_rfl, by kernel_rfl⟩, h⟩
  · have h := h.2 (of_decide_eq_false hb)
    refine Vc.exit ?_
    refine outOf_hit ?_
    refine Vc.seq ?_
    refine Vc.region ?_
    refine vcL_pure rfl rfl (Value.int .i64 0) (fun w => by kernel_rfl) ?_
    refine vcL_nil ?_
    refine Vc.ret ?_
    refine outs_ret ?_
    refine done_mk (Value.int .i64 0) (res1 (resC_tmp (by kernel_rfl))) ?_
    exact ⟨0, rfl, h⟩
theorem halyardref02_Compare.go {a_Major : Int} {a_Minor : Int} {a_Patch : Int} {b_Major : Int} {b_Minor : Int} {b_Patch : Int} {w : World} {k : Value → World → Prop} (h : halyardref02_Compare a_Major a_Minor a_Patch b_Major b_Minor b_Patch w fun r0 w' => k (Value.int .i64 r0) w') : callS Tryz.prog 33 [(Value.agg #[(Value.int .i64 a_Major), (Value.int .i64 a_Minor), (Value.int .i64 a_Patch)]), (Value.agg #[(Value.int .i64 b_Major), (Value.int .i64 b_Minor), (Value.int .i64 b_Patch)])] w k := (halyardref02_Compare.sound a_Major a_Minor a_Patch b_Major b_Minor b_Patch w _ h).mono (by rintro _ _ ⟨r0, rfl, h⟩; exact h)

/-- halyard/halyardref05.May -/
def halyardref05_May (p_Name : ByteArray) (p_Version_Major : Int) (p_Version_Minor : Int) (p_Version_Patch : Int) (p_Deps : Sl) (p_Peers : Sl) (p_Optional : Sl) (w : World) (R : Bool → World → Prop) : Prop :=
  newS w [(Value.string p_Name), (Value.int .i64 p_Version_Major), (Value.int .i64 p_Version_Minor), (Value.int .i64 p_Version_Patch), (Sl.v p_Deps), (Sl.v p_Peers), (Sl.v p_Optional)] 48 fun a vw => ∃ (t5 : ByteArray), (ldc vw a [(Value.string t5)]) ∧ callS Tryz.prog 83 [(Value.string t5)] vw fun v vw1 => ∃ (t6 : Bool), v = (Value.bool t6) ∧ bnd (!t6) fun (b : Bool) => ∃ (t10_Major : Int) (t10_Minor : Int) (t10_Patch : Int), grd (!b) (ldc vw1 (a.add 1) [(Value.int .i64 t10_Major), (Value.int .i64 t10_Minor), (Value.int .i64 t10_Patch)]) ∧ gCall (!b) (fun (t11 : Bool) (vw3 : World) => bnd (b || (!t11)) fun (b6 : Bool) => ∃ (t16 : Sl), grd (!b6) (ldc vw3 (a.add 4) [(Sl.v t16)]) ∧ gCall (!b6) (fun (t17 : Bool) (vw8 : World) => bnd (b6 || (!t17)) fun (b13 : Bool) => ∃ (t22 : Sl), grd (!b13) (ldc vw8 (a.add 5) [(Sl.v t22)]) ∧ gCall (!b13) (fun (t23 : Bool) (vw15 : World) => bnd (b13 || (!t23)) fun (b20 : Bool) => ∃ (t28 : Sl), grd (!b20) (ldc vw15 (a.add 6) [(Sl.v t28)]) ∧ gCall (!b20) (fun (t29 : Bool) (vw22 : World) => (((b20 || (!t29)) = true → R false vw22) ∧ ((b20 || (!t29)) = false → ∃ (t33 : Sl), (ldc vw22 (a.add 4) [(Sl.v t33)]) ∧ ∃ (t35 : Sl), (ldc vw22 (a.add 5) [(Sl.v t35)]) ∧ callS Tryz.prog 85 [(Sl.v t33), (Sl.v t35)] vw22 fun v30 vw29 => ∃ (t36 : Bool), v30 = (Value.bool t36) ∧ ∃ (t39 : Sl), grd t36 (ldc vw29 (a.add 4) [(Sl.v t39)]) ∧ ∃ (t41 : Sl), grd t36 (ldc vw29 (a.add 6) [(Sl.v t41)]) ∧ gCall t36 (fun (t42 : Bool) (vw34 : World) => bnd (t36 && t42) fun (b39 : Bool) => ∃ (t46 : Sl), grd b39 (ldc vw34 (a.add 5) [(Sl.v t46)]) ∧ ∃ (t48 : Sl), grd b39 (ldc vw34 (a.add 6) [(Sl.v t48)]) ∧ gCall b39 (fun (t49 : Bool) (vw42 : World) => bnd (b39 && t49) fun (b47 : Bool) => ∃ (t53_Name : ByteArray) (t53_Version_Major : Int) (t53_Version_Minor : Int) (t53_Version_Patch : Int) (t53_Deps : Sl) (t53_Peers : Sl) (t53_Optional : Sl), grd b47 (ldc vw42 a [(Value.string t53_Name), (Value.int .i64 t53_Version_Major), (Value.int .i64 t53_Version_Minor), (Value.int .i64 t53_Version_Patch), (Sl.v t53_Deps), (Sl.v t53_Peers), (Sl.v t53_Optional)]) ∧ gCall b47 (fun (t54 : ByteArray) (vw49 : World) => R (b47 && (decide ((t54.size : Int) ≤ 4096))) vw49) (fun q => callS Tryz.prog 86 [(Value.agg #[(Value.string t53_Name), (Value.int .i64 t53_Version_Major), (Value.int .i64 t53_Version_Minor), (Value.int .i64 t53_Version_Patch), (Sl.v t53_Deps), (Sl.v t53_Peers), (Sl.v t53_Optional)])] vw42 fun v50 vw49 => ∃ (t54 : ByteArray), v50 = (Value.string t54) ∧ q t54 vw49) (fun q => q (ByteArray.mk #[]) vw42)) (fun q => callS Tryz.prog 85 [(Sl.v t46), (Sl.v t48)] vw34 fun v43 vw42 => ∃ (t49 : Bool), v43 = (Value.bool t49) ∧ q t49 vw42) (fun q => q false vw34)) (fun q => callS Tryz.prog 85 [(Sl.v t39), (Sl.v t41)] vw29 fun v35 vw34 => ∃ (t42 : Bool), v35 = (Value.bool t42) ∧ q t42 vw34) (fun q => q false vw29)))) (fun q => callS Tryz.prog 84 [(Sl.v t28)] vw15 fun v23 vw22 => ∃ (t29 : Bool), v23 = (Value.bool t29) ∧ q t29 vw22) (fun q => q false vw15)) (fun q => callS Tryz.prog 84 [(Sl.v t22)] vw8 fun v16 vw15 => ∃ (t23 : Bool), v16 = (Value.bool t23) ∧ q t23 vw15) (fun q => q false vw8)) (fun q => callS Tryz.prog 84 [(Sl.v t16)] vw3 fun v9 vw8 => ∃ (t17 : Bool), v9 = (Value.bool t17) ∧ q t17 vw8) (fun q => q false vw3)) (fun q => callS Tryz.prog 80 [(Value.agg #[(Value.int .i64 t10_Major), (Value.int .i64 t10_Minor), (Value.int .i64 t10_Patch)])] vw1 fun v4 vw3 => ∃ (t11 : Bool), v4 = (Value.bool t11) ∧ q t11 vw3) (fun q => q false vw1)
set_option maxHeartbeats 8000000 in
theorem halyardref05_May.sound (p_Name : ByteArray) (p_Version_Major : Int) (p_Version_Minor : Int) (p_Version_Patch : Int) (p_Deps : Sl) (p_Peers : Sl) (p_Optional : Sl) (w : World) (R : Bool → World → Prop) (h : halyardref05_May p_Name p_Version_Major p_Version_Minor p_Version_Patch p_Deps p_Peers p_Optional w R) : callS Tryz.prog 34 [(Value.agg #[(Value.string p_Name), (Value.int .i64 p_Version_Major), (Value.int .i64 p_Version_Minor), (Value.int .i64 p_Version_Patch), (Sl.v p_Deps), (Sl.v p_Peers), (Sl.v p_Optional)])] w (fun v w' => ∃ (r0 : Bool), v = (Value.bool r0) ∧ R r0 w') := by
  unfold halyardref05_May at h
  refine calls_of_vc 58 rfl Tryz.func34 rfl (by kernel_rfl) (by simp) ?_
  refine Vc.seq ?_
  refine Vc.region ?_
  refine vcL_eff rfl (opVC_new rfl (fun a => Value.pointer (some a)) (by kernel_rfl) (newS.mono h fun a vw hx h => ?_)) 
  refine vcL_pure rfl rfl (Value.bool false) (fun w => by kernel_rfl) ?_
  refine vcL_nil ?_
  refine Vc.seq ?_
  refine Vc.seq ?_
  refine Vc.region ?_
  refine vcL_pure rfl rfl (Value.pointer (some a)) (fun w => by kernel_rfl) ?_
  obtain ⟨t5, hc, h⟩ := h
  refine vcL_val rfl rfl (Value.string t5) (exec_load rfl (by kernel_rfl) (run_load1 (fun w => by kernel_rfl) ((hc)))) ?_
  refine vcL_eff rfl (opVC_call rfl (by kernel_rfl) (callS.mono h fun v vw1 h => ?_)) 
  obtain ⟨t6, rfl, h⟩ := h
  refine vcL_pure rfl rfl (Value.bool (!t6)) (fun w => by kernel_rfl) ?_
  obtain ⟨b, hb⟩ : ∃ y, y = (!t6) := ⟨_, rfl⟩
  have h := h b hb
  refine vcL_pure rfl rfl (Value.bool b) (fun w => by rw [hb]; kernel_rfl) ?_
  refine vcL_guardP (!b) (wanted_g (d := 8) rfl (by kernel_rfl) b (by kernel_rfl) (!b) (eqF b)) rfl (Value.pointer (some (a.add 1))) (fun hg w => by simp only [Bool.and_eq_true, Bool.not_eq_true'] at hg; obtain rfl := hg; kernel_rfl) ?_
  obtain ⟨t10_Major, t10_Minor, t10_Patch, hc2, h⟩ := h
  refine vcL_guard (!b) (wanted_g (d := 8) rfl (by kernel_rfl) b (by kernel_rfl) (!b) (eqF b)) rfl (Value.agg #[(Value.int .i64 t10_Major), (Value.int .i64 t10_Minor), (Value.int .i64 t10_Patch)]) (fun hg => by simp only [Bool.and_eq_true, Bool.not_eq_true'] at hg; obtain rfl := hg; exact exec_load rfl (by kernel_rfl) (run_loadN (fun w => by kernel_rfl) (fun w => by kernel_rfl) ((hc2 rfl)))) ?_
  obtain ⟨vJ, hJ, h⟩ := gCall_elim h
  refine vcL_effJ (σ := Bool) (!b) (wanted_g (d := 8) rfl (by kernel_rfl) b (by kernel_rfl) (!b) (eqF b)) rfl (fun s w => vJ s w) (fun s => (Value.bool s)) ?_ (fun hg => opVC_call rfl (by simp only [Bool.and_eq_true, Bool.not_eq_true'] at hg; obtain rfl := hg; kernel_rfl) (callS.mono (h.1 hg) fun v4 vw3 hq => ?_)) (fun hg => ⟨false, h.2 hg⟩)
  · intro t11 vw3 h
    subst hJ
    refine vcL_guardP (!b) (wanted_g (d := 8) rfl (by kernel_rfl) b (by kernel_rfl) (!b) (eqF b)) rfl (Value.bool (!t11)) (fun hg w => by simp only [Bool.and_eq_true, Bool.not_eq_true'] at hg; obtain rfl := hg; kernel_rfl) ?_
    refine vcL_pure rfl rfl (Value.bool (b || (!t11))) (fun w => by cases b <;> kernel_rfl) ?_
    obtain ⟨b6, hb6⟩ : ∃ y, y = (b || (!t11)) := ⟨_, rfl⟩
    have h := h b6 hb6
    refine vcL_pure rfl rfl (Value.bool b6) (fun w => by rw [hb6]; kernel_rfl) ?_
    refine vcL_guardP (!b6) (wanted_g (d := 14) rfl (by kernel_rfl) b6 (by kernel_rfl) (!b6) (eqF b6)) rfl (Value.pointer (some (a.add 4))) (fun hg w => by simp only [Bool.and_eq_true, Bool.not_eq_true'] at hg; obtain rfl := hg; kernel_rfl) ?_
    obtain ⟨t16, hc7, h⟩ := h
    refine vcL_guard (!b6) (wanted_g (d := 14) rfl (by kernel_rfl) b6 (by kernel_rfl) (!b6) (eqF b6)) rfl (Sl.v t16) (fun hg => by simp only [Bool.and_eq_true, Bool.not_eq_true'] at hg; obtain rfl := hg; exact exec_load rfl (by kernel_rfl) (run_load1 (fun w => by kernel_rfl) ((hc7 rfl)))) ?_
    obtain ⟨vJ11, hJ12, h⟩ := gCall_elim h
    refine vcL_effJ (σ := Bool) (!b6) (wanted_g (d := 14) rfl (by kernel_rfl) b6 (by kernel_rfl) (!b6) (eqF b6)) rfl (fun s w => vJ11 s w) (fun s => (Value.bool s)) ?_ (fun hg => opVC_call rfl (by simp only [Bool.and_eq_true, Bool.not_eq_true'] at hg; obtain rfl := hg; kernel_rfl) (callS.mono (h.1 hg) fun v9 vw8 hq => ?_)) (fun hg => ⟨false, h.2 hg⟩)
    · intro t17 vw8 h
      subst hJ12
      refine vcL_guardP (!b6) (wanted_g (d := 14) rfl (by kernel_rfl) b6 (by kernel_rfl) (!b6) (eqF b6)) rfl (Value.bool (!t17)) (fun hg w => by simp only [Bool.and_eq_true, Bool.not_eq_true'] at hg; obtain rfl := hg; kernel_rfl) ?_
      refine vcL_pure rfl rfl (Value.bool (b6 || (!t17))) (fun w => by cases b6 <;> kernel_rfl) ?_
      obtain ⟨b13, hb13⟩ : ∃ y, y = (b6 || (!t17)) := ⟨_, rfl⟩
      have h := h b13 hb13
      refine vcL_pure rfl rfl (Value.bool b13) (fun w => by rw [hb13]; kernel_rfl) ?_
      refine vcL_guardP (!b13) (wanted_g (d := 20) rfl (by kernel_rfl) b13 (by kernel_rfl) (!b13) (eqF b13)) rfl (Value.pointer (some (a.add 5))) (fun hg w => by simp only [Bool.and_eq_true, Bool.not_eq_true'] at hg; obtain rfl := hg; kernel_rfl) ?_
      obtain ⟨t22, hc14, h⟩ := h
      refine vcL_guard (!b13) (wanted_g (d := 20) rfl (by kernel_rfl) b13 (by kernel_rfl) (!b13) (eqF b13)) rfl (Sl.v t22) (fun hg => by simp only [Bool.and_eq_true, Bool.not_eq_true'] at hg; obtain rfl := hg; exact exec_load rfl (by kernel_rfl) (run_load1 (fun w => by kernel_rfl) ((hc14 rfl)))) ?_
      obtain ⟨vJ18, hJ19, h⟩ := gCall_elim h
      refine vcL_effJ (σ := Bool) (!b13) (wanted_g (d := 20) rfl (by kernel_rfl) b13 (by kernel_rfl) (!b13) (eqF b13)) rfl (fun s w => vJ18 s w) (fun s => (Value.bool s)) ?_ (fun hg => opVC_call rfl (by simp only [Bool.and_eq_true, Bool.not_eq_true'] at hg; obtain rfl := hg; kernel_rfl) (callS.mono (h.1 hg) fun v16 vw15 hq => ?_)) (fun hg => ⟨false, h.2 hg⟩)
      · intro t23 vw15 h
        subst hJ19
        refine vcL_guardP (!b13) (wanted_g (d := 20) rfl (by kernel_rfl) b13 (by kernel_rfl) (!b13) (eqF b13)) rfl (Value.bool (!t23)) (fun hg w => by simp only [Bool.and_eq_true, Bool.not_eq_true'] at hg; obtain rfl := hg; kernel_rfl) ?_
        refine vcL_pure rfl rfl (Value.bool (b13 || (!t23))) (fun w => by cases b13 <;> kernel_rfl) ?_
        obtain ⟨b20, hb20⟩ : ∃ y, y = (b13 || (!t23)) := ⟨_, rfl⟩
        have h := h b20 hb20
        refine vcL_pure rfl rfl (Value.bool b20) (fun w => by rw [hb20]; kernel_rfl) ?_
        refine vcL_guardP (!b20) (wanted_g (d := 26) rfl (by kernel_rfl) b20 (by kernel_rfl) (!b20) (eqF b20)) rfl (Value.pointer (some (a.add 6))) (fun hg w => by simp only [Bool.and_eq_true, Bool.not_eq_true'] at hg; obtain rfl := hg; kernel_rfl) ?_
        obtain ⟨t28, hc21, h⟩ := h
        refine vcL_guard (!b20) (wanted_g (d := 26) rfl (by kernel_rfl) b20 (by kernel_rfl) (!b20) (eqF b20)) rfl (Sl.v t28) (fun hg => by simp only [Bool.and_eq_true, Bool.not_eq_true'] at hg; obtain rfl := hg; exact exec_load rfl (by kernel_rfl) (run_load1 (fun w => by kernel_rfl) ((hc21 rfl)))) ?_
        obtain ⟨vJ25, hJ26, h⟩ := gCall_elim h
        refine vcL_effJ (σ := Bool) (!b20) (wanted_g (d := 26) rfl (by kernel_rfl) b20 (by kernel_rfl) (!b20) (eqF b20)) rfl (fun s w => vJ25 s w) (fun s => (Value.bool s)) ?_ (fun hg => opVC_call rfl (by simp only [Bool.and_eq_true, Bool.not_eq_true'] at hg; obtain rfl := hg; kernel_rfl) (callS.mono (h.1 hg) fun v23 vw22 hq => ?_)) (fun hg => ⟨false, h.2 hg⟩)
        · intro t29 vw22 h
          subst hJ26
          refine vcL_guardP (!b20) (wanted_g (d := 26) rfl (by kernel_rfl) b20 (by kernel_rfl) (!b20) (eqF b20)) rfl (Value.bool (!t29)) (fun hg w => by simp only [Bool.and_eq_true, Bool.not_eq_true'] at hg; obtain rfl := hg; kernel_rfl) ?_
          refine vcL_pure rfl rfl (Value.bool (b20 || (!t29))) (fun w => by cases b20 <;> kernel_rfl) ?_
          refine vcL_nil ?_
          refine Vc.cond (b20 || (!t29)) (by kernel_rfl) (fun hb => ?_) (fun hb => ?_)
          · have h := h.1 (hb)
            refine Vc.seq ?_
            refine Vc.region ?_
            refine vcL_pure rfl rfl (Value.bool false) (fun w => by kernel_rfl) ?_
            refine vcL_nil ?_
            refine Vc.ret ?_
            refine outs_ret ?_
            refine done_mk (Value.bool false) (res1 (resC_tmp (by kernel_rfl))) ?_
            exact ⟨false, rfl, h⟩
          · have h := h.2 (hb)
            refine Vc.skip ?_
            refine Vc.seq ?_
            refine Vc.region ?_
            refine vcL_pure rfl rfl (Value.pointer (some (a.add 4))) (fun w => by kernel_rfl) ?_
            obtain ⟨t33, hc27, h⟩ := h
            refine vcL_val rfl rfl (Sl.v t33) (exec_load rfl (by kernel_rfl) (run_load1 (fun w => by kernel_rfl) ((hc27)))) ?_
            refine vcL_pure rfl rfl (Value.pointer (some (a.add 5))) (fun w => by kernel_rfl) ?_
            obtain ⟨t35, hc28, h⟩ := h
            refine vcL_val rfl rfl (Sl.v t35) (exec_load rfl (by kernel_rfl) (run_load1 (fun w => by kernel_rfl) ((hc28)))) ?_
            refine vcL_eff rfl (opVC_call rfl (by kernel_rfl) (callS.mono h fun v30 vw29 h => ?_)) 
            obtain ⟨t36, rfl, h⟩ := h
            refine vcL_pure rfl rfl (Value.bool t36) (fun w => by kernel_rfl) ?_
            refine vcL_guardP t36 (wanted_g (d := 37) rfl (by kernel_rfl) t36 (by kernel_rfl) t36 (eqT t36)) rfl (Value.pointer (some (a.add 4))) (fun hg w => by subst hg; kernel_rfl) ?_
            obtain ⟨t39, hc32, h⟩ := h
            refine vcL_guard t36 (wanted_g (d := 37) rfl (by kernel_rfl) t36 (by kernel_rfl) t36 (eqT t36)) rfl (Sl.v t39) (fun hg => by subst hg; exact exec_load rfl (by kernel_rfl) (run_load1 (fun w => by kernel_rfl) ((hc32 rfl)))) ?_
            refine vcL_guardP t36 (wanted_g (d := 37) rfl (by kernel_rfl) t36 (by kernel_rfl) t36 (eqT t36)) rfl (Value.pointer (some (a.add 6))) (fun hg w => by subst hg; kernel_rfl) ?_
            obtain ⟨t41, hc33, h⟩ := h
            refine vcL_guard t36 (wanted_g (d := 37) rfl (by kernel_rfl) t36 (by kernel_rfl) t36 (eqT t36)) rfl (Sl.v t41) (fun hg => by subst hg; exact exec_load rfl (by kernel_rfl) (run_load1 (fun w => by kernel_rfl) ((hc33 rfl)))) ?_
            obtain ⟨vJ37, hJ38, h⟩ := gCall_elim h
            refine vcL_effJ (σ := Bool) t36 (wanted_g (d := 37) rfl (by kernel_rfl) t36 (by kernel_rfl) t36 (eqT t36)) rfl (fun s w => vJ37 s w) (fun s => (Value.bool s)) ?_ (fun hg => opVC_call rfl (by subst hg; kernel_rfl) (callS.mono (h.1 hg) fun v35 vw34 hq => ?_)) (fun hg => ⟨false, h.2 hg⟩)
            · intro t42 vw34 h
              subst hJ38
              refine vcL_pure rfl rfl (Value.bool (t36 && t42)) (fun w => by cases t36 <;> kernel_rfl) ?_
              obtain ⟨b39, hb39⟩ : ∃ y, y = (t36 && t42) := ⟨_, rfl⟩
              have h := h b39 hb39
              refine vcL_pure rfl rfl (Value.bool b39) (fun w => by rw [hb39]; kernel_rfl) ?_
              refine vcL_guardP b39 (wanted_g (d := 44) rfl (by kernel_rfl) b39 (by kernel_rfl) b39 (eqT b39)) rfl (Value.pointer (some (a.add 5))) (fun hg w => by subst hg; kernel_rfl) ?_
              obtain ⟨t46, hc40, h⟩ := h
              refine vcL_guard b39 (wanted_g (d := 44) rfl (by kernel_rfl) b39 (by kernel_rfl) b39 (eqT b39)) rfl (Sl.v t46) (fun hg => by subst hg; exact exec_load rfl (by kernel_rfl) (run_load1 (fun w => by kernel_rfl) ((hc40 rfl)))) ?_
              refine vcL_guardP b39 (wanted_g (d := 44) rfl (by kernel_rfl) b39 (by kernel_rfl) b39 (eqT b39)) rfl (Value.pointer (some (a.add 6))) (fun hg w => by subst hg; kernel_rfl) ?_
              obtain ⟨t48, hc41, h⟩ := h
              refine vcL_guard b39 (wanted_g (d := 44) rfl (by kernel_rfl) b39 (by kernel_rfl) b39 (eqT b39)) rfl (Sl.v t48) (fun hg => by subst hg; exact exec_load rfl (by kernel_rfl) (run_load1 (fun w => by kernel_rfl) ((hc41 rfl)))) ?_
              obtain ⟨vJ45, hJ46, h⟩ := gCall_elim h
              refine vcL_effJ (σ := Bool) b39 (wanted_g (d := 44) rfl (by kernel_rfl) b39 (by kernel_rfl) b39 (eqT b39)) rfl (fun s w => vJ45 s w) (fun s => (Value.bool s)) ?_ (fun hg => opVC_call rfl (by subst hg; kernel_rfl) (callS.mono (h.1 hg) fun v43 vw42 hq => ?_)) (fun hg => ⟨false, h.2 hg⟩)
              · intro t49 vw42 h
                subst hJ46
                refine vcL_pure rfl rfl (Value.bool (b39 && t49)) (fun w => by cases b39 <;> kernel_rfl) ?_
                refine vcL_pure rfl rfl (Value.bool (b39 && t49)) (fun w => by kernel_rfl) ?_
                refine vcL_nil ?_
                refine Vc.seq ?_
                refine Vc.region ?_
                refine vcL_pure rfl rfl (Value.bool (b39 && t49)) (fun w => by kernel_rfl) ?_
                obtain ⟨b47, hb47⟩ : ∃ y, y = (b39 && t49) := ⟨_, rfl⟩
                have h := h b47 hb47
                refine vcL_pure rfl rfl (Value.bool b47) (fun w => by rw [hb47]; kernel_rfl) ?_
                obtain ⟨t53_Name, t53_Version_Major, t53_Version_Minor, t53_Version_Patch, t53_Deps, t53_Peers, t53_Optional, hc48, h⟩ := h
                refine vcL_guard b47 (wanted_g (d := 52) rfl (by kernel_rfl) b47 (by kernel_rfl) b47 (eqT b47)) rfl (Value.agg #[(Value.string t53_Name), (Value.int .i64 t53_Version_Major), (Value.int .i64 t53_Version_Minor), (Value.int .i64 t53_Version_Patch), (Sl.v t53_Deps), (Sl.v t53_Peers), (Sl.v t53_Optional)]) (fun hg => by subst hg; exact exec_load rfl (by kernel_rfl) (run_loadN (fun w => by kernel_rfl) (fun w => by kernel_rfl) ((hc48 rfl)))) ?_
                obtain ⟨vJ52, hJ53, h⟩ := gCall_elim h
                refine vcL_effJ (σ := ByteArray) b47 (wanted_g (d := 52) rfl (by kernel_rfl) b47 (by kernel_rfl) b47 (eqT b47)) rfl (fun s w => vJ52 s w) (fun s => (Value.string s)) ?_ (fun hg => opVC_call rfl (by subst hg; kernel_rfl) (callS.mono (h.1 hg) fun v50 vw49 hq => ?_)) (fun hg => ⟨(ByteArray.mk #[]), h.2 hg⟩)
                · intro t54 vw49 h
                  subst hJ53
                  refine vcL_guardP b47 (wanted_g (d := 52) rfl (by kernel_rfl) b47 (by kernel_rfl) b47 (eqT b47)) rfl (Value.int .i64 (t54.size : Int)) (fun hg w => by subst hg; kernel_rfl) ?_
                  refine vcL_guardP b47 (wanted_g (d := 52) rfl (by kernel_rfl) b47 (by kernel_rfl) b47 (eqT b47)) rfl (Value.bool (decide ((t54.size : Int) ≤ 4096))) (fun hg w => by subst hg; kernel_rfl) ?_
                  refine vcL_pure rfl rfl (Value.bool (b47 && (decide ((t54.size : Int) ≤ 4096)))) (fun w => by cases b47 <;> kernel_rfl) ?_
                  refine vcL_pure rfl rfl (Value.bool (b47 && (decide ((t54.size : Int) ≤ 4096)))) (fun w => by kernel_rfl) ?_
                  refine vcL_nil ?_
                  refine Vc.ret ?_
                  refine outs_ret ?_
                  refine done_mk (Value.bool (b47 && (decide ((t54.size : Int) ≤ 4096)))) (res1 (resC_tmp (by kernel_rfl))) ?_
                  exact ⟨(b47 && (decide ((t54.size : Int) ≤ 4096))), rfl, h⟩
                · obtain ⟨t54, rfl, hq⟩ := hq
                  exact ⟨t54, rfl, hq⟩
              · obtain ⟨t49, rfl, hq⟩ := hq
                exact ⟨t49, rfl, hq⟩
            · obtain ⟨t42, rfl, hq⟩ := hq
              exact ⟨t42, rfl, hq⟩
        · obtain ⟨t29, rfl, hq⟩ := hq
          exact ⟨t29, rfl, hq⟩
      · obtain ⟨t23, rfl, hq⟩ := hq
        exact ⟨t23, rfl, hq⟩
    · obtain ⟨t17, rfl, hq⟩ := hq
      exact ⟨t17, rfl, hq⟩
  · obtain ⟨t11, rfl, hq⟩ := hq
    exact ⟨t11, rfl, hq⟩
theorem halyardref05_May.go {p_Name : ByteArray} {p_Version_Major : Int} {p_Version_Minor : Int} {p_Version_Patch : Int} {p_Deps : Sl} {p_Peers : Sl} {p_Optional : Sl} {w : World} {k : Value → World → Prop} (h : halyardref05_May p_Name p_Version_Major p_Version_Minor p_Version_Patch p_Deps p_Peers p_Optional w fun r0 w' => k (Value.bool r0) w') : callS Tryz.prog 34 [(Value.agg #[(Value.string p_Name), (Value.int .i64 p_Version_Major), (Value.int .i64 p_Version_Minor), (Value.int .i64 p_Version_Patch), (Sl.v p_Deps), (Sl.v p_Peers), (Sl.v p_Optional)])] w k := (halyardref05_May.sound p_Name p_Version_Major p_Version_Minor p_Version_Patch p_Deps p_Peers p_Optional w _ h).mono (by rintro _ _ ⟨r0, rfl, h⟩; exact h)

/-- halyard/halyardref02.At -/
def halyardref02_At (n : Int) (w : World) (R : Int → Int → Int → Bool → World → Prop) : Prop :=
  newS w [(Value.int .i64 0), (Value.int .i64 0), (Value.int .i64 0)] 30 fun a vw => bnd (decide (n < 0)) fun (b : Bool) => (((b || (decide (999999999 < n))) = true → stw vw a [(Value.int .i64 0), (Value.int .i64 0), (Value.int .i64 0)] fun vw1 => ∃ (r_Major : Int) (r_Minor : Int) (r_Patch : Int), ldc vw1 a [(Value.int .i64 r_Major), (Value.int .i64 r_Minor), (Value.int .i64 r_Patch)] ∧ R r_Major r_Minor r_Patch false vw1) ∧ ((b || (decide (999999999 < n))) = false → stw vw a [(Value.int .i64 (wrapI (n.tdiv 1000000))), (Value.int .i64 (Int.tmod (wrapI (n.tdiv 1000)) 1000)), (Value.int .i64 (Int.tmod n 1000))] fun vw2 => ∃ (r_Major3 : Int) (r_Minor4 : Int) (r_Patch5 : Int), ldc vw2 a [(Value.int .i64 r_Major3), (Value.int .i64 r_Minor4), (Value.int .i64 r_Patch5)] ∧ R r_Major3 r_Minor4 r_Patch5 true vw2))
set_option maxHeartbeats 8000000 in
theorem halyardref02_At.sound (n : Int) (w : World) (R : Int → Int → Int → Bool → World → Prop) (h : halyardref02_At n w R) : callS Tryz.prog 35 [(Value.int .i64 n)] w (fun v w' => ∃ (r0 : Int) (r1 : Int) (r2 : Int) (r3 : Bool), v = (Value.tuple #[(Value.agg #[(Value.int .i64 r0), (Value.int .i64 r1), (Value.int .i64 r2)]), (Value.bool r3)]) ∧ R r0 r1 r2 r3 w') := by
  unfold halyardref02_At at h
  refine calls_of_vc 19 rfl Tryz.func35 rfl (by kernel_rfl) (by simp) ?_
  refine Vc.seq ?_
  refine Vc.region ?_
  refine vcL_eff rfl (opVC_new rfl (fun a => Value.pointer (some a)) (by kernel_rfl) (newS.mono h fun a vw hx h => ?_)) 
  refine vcL_pure rfl rfl (Value.bool false) (fun w => by kernel_rfl) ?_
  refine vcL_nil ?_
  refine Vc.seq ?_
  refine Vc.seq ?_
  refine Vc.region ?_
  refine vcL_purs 2 [(5, (Value.bool (decide (n < 0)))), (4, (Value.int .i64 n))] (by kernel_rfl) ?_
  obtain ⟨b, hb⟩ : ∃ y, y = (decide (n < 0)) := ⟨_, rfl⟩
  have h := h b hb
  refine vcL_pure rfl rfl (Value.bool b) (fun w => by rw [hb]; kernel_rfl) ?_
  refine vcL_guardP (!b) (wanted_g (d := 6) rfl (by kernel_rfl) b (by kernel_rfl) (!b) (eqF b)) rfl (Value.int .i64 n) (fun hg w => by simp only [Bool.and_eq_true, Bool.not_eq_true'] at hg; obtain rfl := hg; kernel_rfl) ?_
  refine vcL_guardP (!b) (wanted_g (d := 6) rfl (by kernel_rfl) b (by kernel_rfl) (!b) (eqF b)) rfl (Value.bool (decide (999999999 < n))) (fun hg w => by simp only [Bool.and_eq_true, Bool.not_eq_true'] at hg; obtain rfl := hg; kernel_rfl) ?_
  refine vcL_pure rfl rfl (Value.bool (b || (decide (999999999 < n)))) (fun w => by cases b <;> kernel_rfl) ?_
  refine vcL_nil ?_
  refine Vc.cond (b || (decide (999999999 < n))) (by kernel_rfl) (fun hb => ?_) (fun hb => ?_)
  · have h := h.1 (hb)
    refine Vc.seq ?_
    refine Vc.region ?_
    refine vcL_pure rfl rfl (Value.agg #[(Value.int .i64 0), (Value.int .i64 0), (Value.int .i64 0)]) (fun w => by kernel_rfl) ?_
    refine vcL_eff rfl (opVC_store rfl rfl (a := a) (by kernel_rfl) (v := (Value.agg #[(Value.int .i64 0), (Value.int .i64 0), (Value.int .i64 0)])) (by kernel_rfl) [(Value.int .i64 0), (Value.int .i64 0), (Value.int .i64 0)] (by kernel_rfl) (fun w => by kernel_rfl) (by kernel_rfl) (stw.mono h fun vw1 h => ?_)) 
    refine vcL_pure rfl rfl (Value.bool false) (fun w => by kernel_rfl) ?_
    refine vcL_nil ?_
    refine Vc.ret ?_
    refine outs_ret ?_
    obtain ⟨r_Major, r_Minor, r_Patch, hc, h⟩ := h
    refine done_mk (Value.tuple #[(Value.agg #[(Value.int .i64 r_Major), (Value.int .i64 r_Minor), (Value.int .i64 r_Patch)]), (Value.bool false)]) (res2 (resC_cell (by kernel_rfl) (run_loadN (fun w => by kernel_rfl) (fun w => by kernel_rfl) hc)) (resC_tmp (by kernel_rfl))) ?_
    exact ⟨r_Major, r_Minor, r_Patch, false, rfl, h⟩
  · have h := h.2 (hb)
    refine Vc.skip ?_
    refine Vc.seq ?_
    refine Vc.region ?_
    refine vcL_purs 8 [(18, (Value.agg #[(Value.int .i64 (wrapI (n.tdiv 1000000))), (Value.int .i64 (Int.tmod (wrapI (n.tdiv 1000)) 1000)), (Value.int .i64 (Int.tmod n 1000))])), (17, (Value.int .i64 (Int.tmod n 1000))), (16, (Value.int .i64 n)), (15, (Value.int .i64 (Int.tmod (wrapI (n.tdiv 1000)) 1000))), (14, (Value.int .i64 (wrapI (n.tdiv 1000)))), (13, (Value.int .i64 n)), (12, (Value.int .i64 (wrapI (n.tdiv 1000000)))), (11, (Value.int .i64 n))] (by kernel_rfl) ?_
    refine vcL_eff rfl (opVC_store rfl rfl (a := a) (by kernel_rfl) (v := (Value.agg #[(Value.int .i64 (wrapI (n.tdiv 1000000))), (Value.int .i64 (Int.tmod (wrapI (n.tdiv 1000)) 1000)), (Value.int .i64 (Int.tmod n 1000))])) (by kernel_rfl) [(Value.int .i64 (wrapI (n.tdiv 1000000))), (Value.int .i64 (Int.tmod (wrapI (n.tdiv 1000)) 1000)), (Value.int .i64 (Int.tmod n 1000))] (by kernel_rfl) (fun w => by kernel_rfl) (by kernel_rfl) (stw.mono h fun vw2 h => ?_)) 
    refine vcL_pure rfl rfl (Value.bool true) (fun w => by kernel_rfl) ?_
    refine vcL_nil ?_
    refine Vc.ret ?_
    refine outs_ret ?_
    obtain ⟨r_Major3, r_Minor4, r_Patch5, hc6, h⟩ := h
    refine done_mk (Value.tuple #[(Value.agg #[(Value.int .i64 r_Major3), (Value.int .i64 r_Minor4), (Value.int .i64 r_Patch5)]), (Value.bool true)]) (res2 (resC_cell (by kernel_rfl) (run_loadN (fun w => by kernel_rfl) (fun w => by kernel_rfl) hc6)) (resC_tmp (by kernel_rfl))) ?_
    exact ⟨r_Major3, r_Minor4, r_Patch5, true, rfl, h⟩
theorem halyardref02_At.go {n : Int} {w : World} {k : Value → World → Prop} (h : halyardref02_At n w fun r0 r1 r2 r3 w' => k (Value.tuple #[(Value.agg #[(Value.int .i64 r0), (Value.int .i64 r1), (Value.int .i64 r2)]), (Value.bool r3)]) w') : callS Tryz.prog 35 [(Value.int .i64 n)] w k := (halyardref02_At.sound n w _ h).mono (by rintro _ _ ⟨r0, r1, r2, r3, rfl, h⟩; exact h)

end Go.Hal.SE
