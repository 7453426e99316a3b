/- Lemmas for the claim K09o: how the program's functions run, and what they answer; no condition but those that each theorem names. -/
import Derived.Test.YtfaabhimmojeaaaGreatDoorProg
import Derived.Test.YtfaabhimmojeaaaGreatDoorK09oA0
set_option linter.unusedVariables false
set_option linter.unusedSimpArgs false
namespace Go.Hal.SE
open Go Go.RowKit Go.Hal Go.Proofs
set_option maxRecDepth 100000
namespace Eq0
theorem eqv_32 (d : Nat) (a0 : ByteArray) (a1 : Int) (a2 : Int) (a3 : Int) (b0 : ByteArray) (b1 : Int) (b2 : Int) (b3 : Int) (w : World) : (Op.equalIn (d + 3) 32 (.agg #[(Value.string a0), (Value.int .i64 a1), (Value.int .i64 a2), (Value.int .i64 a3)]) (.agg #[(Value.string b0), (Value.int .i64 b1), (Value.int .i64 b2), (Value.int .i64 b3)])).run Tryz.prog w = .ok ((bEq a0 b0) && (((a1 == b1) && ((a2 == b2) && ((a3 == b3) && true))) && true)) w :=
 (eqS (by kernel_rfl) (by kernel_rfl) (fs := [⟨ "Name", 9, 0, false, "", "", 0⟩, ⟨ "Version", 30, 1, false, "", "", 16⟩]) (by kernel_rfl) (eqF_cons (x := (Value.string a0)) (y := (Value.string b0)) rfl (by kernel_rfl) (by kernel_rfl) (run_equalIn_string w _ 9 a0 b0 (by kernel_rfl)) (eqF_cons (x := (Value.agg #[(Value.int .i64 a1), (Value.int .i64 a2), (Value.int .i64 a3)])) (y := (Value.agg #[(Value.int .i64 b1), (Value.int .i64 b2), (Value.int .i64 b3)])) rfl (by kernel_rfl) (by kernel_rfl) (eqS (by kernel_rfl) (by kernel_rfl) (fs := [⟨ "Major", 3, 0, false, "", "", 0⟩, ⟨ "Minor", 3, 1, false, "", "", 8⟩, ⟨ "Patch", 3, 2, false, "", "", 16⟩]) (by kernel_rfl) (eqF_cons (x := (Value.int .i64 a1)) (y := (Value.int .i64 b1)) rfl (by kernel_rfl) (by kernel_rfl) (run_equalIn_int w _ 3 .i64 .i64 a1 b1 (by kernel_rfl)) (eqF_cons (x := (Value.int .i64 a2)) (y := (Value.int .i64 b2)) rfl (by kernel_rfl) (by kernel_rfl) (run_equalIn_int w _ 3 .i64 .i64 a2 b2 (by kernel_rfl)) (eqF_cons (x := (Value.int .i64 a3)) (y := (Value.int .i64 b3)) rfl (by kernel_rfl) (by kernel_rfl) (run_equalIn_int w _ 3 .i64 .i64 a3 b3 (by kernel_rfl)) eqF_nil)))) eqF_nil)))
theorem eqv_83 (d : Nat) (a0 : Int) (a1 : Int) (a2 : Int) (a3 : Int) (a4 : Int) (a5 : Int) (b0 : Int) (b1 : Int) (b2 : Int) (b3 : Int) (b4 : Int) (b5 : Int) (w : World) : (Op.equalIn (d + 3) 83 (.agg #[(Value.int .i64 a0), (Value.int .i64 a1), (Value.int .i64 a2), (Value.int .i64 a3), (Value.int .i64 a4), (Value.int .i64 a5)]) (.agg #[(Value.int .i64 b0), (Value.int .i64 b1), (Value.int .i64 b2), (Value.int .i64 b3), (Value.int .i64 b4), (Value.int .i64 b5)])).run Tryz.prog w = .ok (((a0 == b0) && ((a1 == b1) && ((a2 == b2) && true))) && (((a3 == b3) && ((a4 == b4) && ((a5 == b5) && true))) && true)) w :=
 (eqS (by kernel_rfl) (by kernel_rfl) (fs := [⟨ "Lo", 30, 0, false, "", "", 0⟩, ⟨ "Hi", 30, 3, false, "", "", 24⟩]) (by kernel_rfl) (eqF_cons (x := (Value.agg #[(Value.int .i64 a0), (Value.int .i64 a1), (Value.int .i64 a2)])) (y := (Value.agg #[(Value.int .i64 b0), (Value.int .i64 b1), (Value.int .i64 b2)])) rfl (by kernel_rfl) (by kernel_rfl) (eqS (by kernel_rfl) (by kernel_rfl) (fs := [⟨ "Major", 3, 0, false, "", "", 0⟩, ⟨ "Minor", 3, 1, false, "", "", 8⟩, ⟨ "Patch", 3, 2, false, "", "", 16⟩]) (by kernel_rfl) (eqF_cons (x := (Value.int .i64 a0)) (y := (Value.int .i64 b0)) rfl (by kernel_rfl) (by kernel_rfl) (run_equalIn_int w _ 3 .i64 .i64 a0 b0 (by kernel_rfl)) (eqF_cons (x := (Value.int .i64 a1)) (y := (Value.int .i64 b1)) rfl (by kernel_rfl) (by kernel_rfl) (run_equalIn_int w _ 3 .i64 .i64 a1 b1 (by kernel_rfl)) (eqF_cons (x := (Value.int .i64 a2)) (y := (Value.int .i64 b2)) rfl (by kernel_rfl) (by kernel_rfl) (run_equalIn_int w _ 3 .i64 .i64 a2 b2 (by kernel_rfl)) eqF_nil)))) (eqF_cons (x := (Value.agg #[(Value.int .i64 a3), (Value.int .i64 a4), (Value.int .i64 a5)])) (y := (Value.agg #[(Value.int .i64 b3), (Value.int .i64 b4), (Value.int .i64 b5)])) rfl (by kernel_rfl) (by kernel_rfl) (eqS (by kernel_rfl) (by kernel_rfl) (fs := [⟨ "Major", 3, 0, false, "", "", 0⟩, ⟨ "Minor", 3, 1, false, "", "", 8⟩, ⟨ "Patch", 3, 2, false, "", "", 16⟩]) (by kernel_rfl) (eqF_cons (x := (Value.int .i64 a3)) (y := (Value.int .i64 b3)) rfl (by kernel_rfl) (by kernel_rfl) (run_equalIn_int w _ 3 .i64 .i64 a3 b3 (by kernel_rfl)) (eqF_cons (x := (Value.int .i64 a4)) (y := (Value.int .i64 b4)) rfl (by kernel_rfl) (by kernel_rfl) (run_equalIn_int w _ 3 .i64 .i64 a4 b4 (by kernel_rfl)) (eqF_cons (x := (Value.int .i64 a5)) (y := (Value.int .i64 b5)) rfl (by kernel_rfl) (by kernel_rfl) (run_equalIn_int w _ 3 .i64 .i64 a5 b5 (by kernel_rfl)) eqF_nil)))) eqF_nil)))
end Eq0
open Eq0
def halyardlaw09_WantsOverrides (zz4 : ByteArray) (zz5 : Int) (zz6 : Int) (zz7 : Int) (zz8 : Sl) (zza : Sl) (zz9 : Sl) (zz0 : Sl) (zz1 : Sl) (zz2 : Sl) (zz3 : Sl) (dev : Bool) (w : World) (R : Bool → World → Prop) : Prop :=
 newS w [(Value.string zz4), (Value.int .i64 zz5), (Value.int .i64 zz6), (Value.int .i64 zz7), (Sl.v zz8), (Sl.v zza), (Sl.v zz9)] 48 fun a vw=>newS vw [(Sl.v zz0), (Sl.v zz1), (Sl.v zz2), (Sl.v zz3)] 25 fun a1 vw2=>∃ (zz3h : Sl) (zz3i : Sl) (zz3k : Sl) (zz3l : Sl), (ldc vw2 a1 [(Sl.v zz3h), (Sl.v zz3i), (Sl.v zz3k), (Sl.v zz3l)]) ∧ newS vw2 [(Sl.v Sl.nil), (Sl.v Sl.nil), (Sl.v Sl.nil), (Sl.v Sl.nil)] 25 fun a3 vw4=>stw vw4 a3 [(Sl.v zz3h), (Sl.v zz3i), (Sl.v zz3k), (Sl.v zz3l)] fun vw5=>stw vw5 (a3.add 3) [(Sl.v Sl.nil)] fun vw6=>callS Tryz.prog 12 [] vw6 fun v vw7=>∃ (t15 : Bool), v = (Value.bool t15) ∧ (((!t15) = true → R false vw7) ∧ ((!t15) = false → ∃ (zz4g : ByteArray) (zz4j : Int) (zz4k : Int) (zz4l : Int) (zz4f : Sl) (zz4i : Sl) (zz4h : Sl), (ldc vw7 a [(Value.string zz4g), (Value.int .i64 zz4j), (Value.int .i64 zz4k), (Value.int .i64 zz4l), (Sl.v zz4f), (Sl.v zz4i), (Sl.v zz4h)]) ∧ ∃ (zze : Sl) (zz1e : Sl) (zzf : Sl) (zz1f : Sl), (ldc vw7 a1 [(Sl.v zze), (Sl.v zz1e), (Sl.v zzf), (Sl.v zz1f)]) ∧ callS Tryz.prog 37 [(Value.agg #[(Value.string zz4g), (Value.int .i64 zz4j), (Value.int .i64 zz4k), (Value.int .i64 zz4l), (Sl.v zz4f), (Sl.v zz4i), (Sl.v zz4h)]), (Value.agg #[(Sl.v zze), (Sl.v zz1e), (Sl.v zzf), (Sl.v zz1f)])] vw7 fun v11 vw10=>∃ (t19 : Sl), v11 = (Sl.v t19) ∧ ∃ (zz4s : ByteArray) (zz4v : Int) (zz4w : Int) (zz4x : Int) (zz4r : Sl) (zz4u : Sl) (zz4t : Sl), (ldc vw10 a [(Value.string zz4s), (Value.int .i64 zz4v), (Value.int .i64 zz4w), (Value.int .i64 zz4x), (Sl.v zz4r), (Sl.v zz4u), (Sl.v zz4t)]) ∧ ∃ (zz1g : Sl) (zz4y : Sl) (zz1i : Sl) (zz4z : Sl), (ldc vw10 a3 [(Sl.v zz1g), (Sl.v zz4y), (Sl.v zz1i), (Sl.v zz4z)]) ∧ callS Tryz.prog 37 [(Value.agg #[(Value.string zz4s), (Value.int .i64 zz4v), (Value.int .i64 zz4w), (Value.int .i64 zz4x), (Sl.v zz4r), (Sl.v zz4u), (Sl.v zz4t)]), (Value.agg #[(Sl.v zz1g), (Sl.v zz4y), (Sl.v zz1i), (Sl.v zz4z)])] vw10 fun v16 vw15=>∃ (t22 : Sl), v16 = (Sl.v t22) ∧ ∃ (zz51 : Sl) (zz52 : Sl) (zz53 : Sl) (zz54 : Sl), (ldc vw15 a1 [(Sl.v zz51), (Sl.v zz52), (Sl.v zz53), (Sl.v zz54)]) ∧ callS Tryz.prog 39 [(Value.agg #[(Sl.v zz51), (Sl.v zz52), (Sl.v zz53), (Sl.v zz54)]), (Value.bool dev)] vw15 fun v20 vw19=>∃ (t26 : Sl), v20 = (Sl.v t26) ∧ appS Tryz.prog 75 75 t19 (Sl.v t26) vw19 fun t27 vw22=>∃ (zz1m : Sl) (zz1n : Sl) (zz1o : Sl) (zz1p : Sl), (ldc vw22 a3 [(Sl.v zz1m), (Sl.v zz1n), (Sl.v zz1o), (Sl.v zz1p)]) ∧ callS Tryz.prog 39 [(Value.agg #[(Sl.v zz1m), (Sl.v zz1n), (Sl.v zz1o), (Sl.v zz1p)]), (Value.bool dev)] vw22 fun v25 vw24=>∃ (t31 : Sl), v25 = (Sl.v t31) ∧ appS Tryz.prog 75 75 t22 (Sl.v t31) vw24 fun t32 vw27=>((¬ (t27.len : Int) = (t32.len : Int) → R false vw27) ∧ (¬ (¬ (t27.len : Int) = (t32.len : Int)) → loop1 0 vw27 fun i vw28 nxt=>((i < (t27.len : Int) → bnd vw28.drew fun (vw29 : World)=>∃ (ad : Addr), (t27.a = some ad ∧ (0 : Int) ≤ i ∧ i < (t27.len : Int)) ∧ ∃ (t48 : ByteArray), (ldc vw29 (ad.add (i.toNat * 3)) [(Value.string t48)]) ∧ ∃ (ad31 : Addr), (t32.a = some ad31 ∧ (0 : Int) ≤ i ∧ i < (t32.len : Int)) ∧ ∃ (t53 : ByteArray), (ldc vw29 (ad31.add (i.toNat * 3)) [(Value.string t53)]) ∧ bnd (!bEq t48 t53) fun (b : Bool)=>∃ (ad34 : Addr), grd (!b) (t27.a = some ad34 ∧ (0 : Int) ≤ i ∧ i < (t27.len : Int)) ∧ ∃ (t60 : Int), grd (!b) (ldc vw29 ((ad34.add (i.toNat * 3)).add 1) [(Value.int .i64 t60)]) ∧ ∃ (ad37 : Addr), grd (!b) (t32.a = some ad37 ∧ (0 : Int) ≤ i ∧ i < (t32.len : Int)) ∧ ∃ (t65 : Int), grd (!b) (ldc vw29 ((ad37.add (i.toNat * 3)).add 1) [(Value.int .i64 t65)]) ∧ (((b || (!(t60 == t65))) = true → R false vw29) ∧ ((b || (!(t60 == t65))) = false → ∃ (ad40 : Addr), (t32.a = some ad40 ∧ (0 : Int) ≤ i ∧ i < (t32.len : Int)) ∧ ∃ (t72 : Sl), (ldc vw29 ((ad40.add (i.toNat * 3)).add 2) [(Sl.v t72)]) ∧ ∃ (t74 : Sl), (ldc vw29 (a1.add 3) [(Sl.v t74)]) ∧ loop2 t72 (wrapI ((t74.len : Int) - 1)) vw29 fun want vk vw44 nxt45=>((0 ≤ vk → join (fun (want46 : Sl) (vw47 : World)=>nxt45 want46 (wrapI (vk - 1)) vw47) fun vJ=>bnd vw44.drew fun (vw48 : World)=>∃ (t82 : Sl), (ldc vw48 (a1.add 3) [(Sl.v t82)]) ∧ ∃ (ad50 : Addr), (t82.a = some ad50 ∧ (0 : Int) ≤ vk ∧ vk < (t82.len : Int)) ∧ ∃ (t86 : ByteArray), (ldc vw48 (ad50.add (vk.toNat * 2)) [(Value.string t86)]) ∧ ∃ (ad53 : Addr), (t27.a = some ad53 ∧ (0 : Int) ≤ i ∧ i < (t27.len : Int)) ∧ ∃ (t91 : ByteArray), (ldc vw48 (ad53.add (i.toNat * 3)) [(Value.string t91)]) ∧ ((t86 = t91 → ∃ (t94 : Sl), (ldc vw48 (a1.add 3) [(Sl.v t94)]) ∧ ∃ (ad57 : Addr), (t94.a = some ad57 ∧ (0 : Int) ≤ vk ∧ vk < (t94.len : Int)) ∧ ∃ (t98 : Sl), (ldc vw48 ((ad57.add (vk.toNat * 2)).add 1) [(Sl.v t98)]) ∧ vJ t98 vw48) ∧ (¬ (t86 = t91) → vJ want vw48))) ∧ (¬ (0 ≤ vk) → ∃ (ad60 : Addr), (t27.a = some ad60 ∧ (0 : Int) ≤ i ∧ i < (t27.len : Int)) ∧ ∃ (t103 : Sl), (ldc vw44 ((ad60.add (i.toNat * 3)).add 2) [(Sl.v t103)]) ∧ callS Tryz.prog 45 [(Sl.v t103), (Sl.v want)] vw44 fun v64 vw63=>∃ (t105 : Bool), v64 = (Value.bool t105) ∧ (((!t105) = true → R false vw63) ∧ ((!t105) = false → nxt (wrapI (i + 1)) vw63))))))) ∧ (¬ (i < (t27.len : Int)) → R true vw28))))))
set_option maxHeartbeats 8000000 in
theorem halyardlaw09_WantsOverrides.sound (zz4 : ByteArray) (zz5 : Int) (zz6 : Int) (zz7 : Int) (zz8 : Sl) (zza : Sl) (zz9 : Sl) (zz0 : Sl) (zz1 : Sl) (zz2 : Sl) (zz3 : Sl) (dev : Bool) (w : World) (R : Bool → World → Prop) (h : halyardlaw09_WantsOverrides zz4 zz5 zz6 zz7 zz8 zza zz9 zz0 zz1 zz2 zz3 dev w R) : callS Tryz.prog 9 [(Value.agg #[(Value.string zz4), (Value.int .i64 zz5), (Value.int .i64 zz6), (Value.int .i64 zz7), (Sl.v zz8), (Sl.v zza), (Sl.v zz9)]), (Value.agg #[(Sl.v zz0), (Sl.v zz1), (Sl.v zz2), (Sl.v zz3)]), (Value.bool dev)] w (fun v w'=>∃ (r0 : Bool), v = (Value.bool r0) ∧ R r0 w') := by
 unfold halyardlaw09_WantsOverrides at h
 refine calls_of_vc 107 rfl Tryz.func9 rfl (by kernel_rfl) (by simp) ?_
 refine Vc.seq ?_
 refine Vc.region ?_
 refine vcL_eff rfl (opVC_new rfl (fun a=>Value.pointer (some a)) (by kernel_rfl) (newS.mono h fun a vw hx h=>?_))
 refine vcL_eff rfl (opVC_new rfl (fun a=>Value.pointer (some a)) (by kernel_rfl) (newS.mono h fun a1 vw2 hx h=>?_))
 refine vcL_pure rfl rfl (Value.bool false) (fun w=>by kernel_rfl) ?_
 refine vcL_nil ?_
 refine Vc.seq ?_
 refine Vc.region ?_
 obtain ⟨zz3h, zz3i, zz3k, zz3l, hc, h⟩ := h
 refine vcL_val rfl rfl (Value.agg #[(Sl.v zz3h), (Sl.v zz3i), (Sl.v zz3k), (Sl.v zz3l)]) (exec_load rfl (by kernel_rfl) (run_loadN (fun w=>by kernel_rfl) (fun w=>by kernel_rfl) ((hc)))) ?_
 refine vcL_eff rfl (opVC_new rfl (fun a=>Value.pointer (some a)) (by kernel_rfl) (newS.mono h fun a3 vw4 hx h=>?_))
 refine vcL_eff rfl (opVC_store rfl rfl (a := a3) (by kernel_rfl) (v := (Value.agg #[(Sl.v zz3h), (Sl.v zz3i), (Sl.v zz3k), (Sl.v zz3l)])) (by kernel_rfl) [(Sl.v zz3h), (Sl.v zz3i), (Sl.v zz3k), (Sl.v zz3l)] (by kernel_rfl) (fun w=>by kernel_rfl) (by kernel_rfl) (stw.mono h fun vw5 h=>?_))
 refine vcL_nil ?_
 refine Vc.seq ?_
 refine Vc.region ?_
 refine vcL_pure rfl rfl (Value.pointer (some (a3.add 3))) (fun w=>by kernel_rfl) ?_
 refine vcL_eff rfl (opVC_store rfl rfl (a := (a3.add 3)) (by kernel_rfl) (v := (Sl.v Sl.nil)) (by kernel_rfl) [(Sl.v Sl.nil)] (by kernel_rfl) (fun w=>by kernel_rfl) (by kernel_rfl) (stw.mono h fun vw6 h=>?_))
 refine vcL_nil ?_
 refine Vc.seq ?_
 refine Vc.seq ?_
 refine Vc.region ?_
 refine vcL_eff rfl (opVC_call rfl (by kernel_rfl) (callS.mono h fun v vw7 h=>?_))
 obtain ⟨t15, rfl, h⟩ := h
 refine vcL_pure rfl rfl (Value.bool (!t15)) (fun w=>by kernel_rfl) ?_
 refine vcL_nil ?_
 refine Vc.cond (!t15) (by kernel_rfl) (fun hb=>?_) (fun hb=>?_)
 ·have h := h.1 (hb)
  refine Vc.seq ?_
  refine Vc.region ?_
  refine vcL_pure rfl rfl (Value.bool false) (fun w=>by kernel_rfl) ?_
  refine vcL_nil ?_
  refine Vc.ret ?_
  refine outs_ret ?_
  refine done_mk (Value.bool false) (res1 (resC_tmp (by kernel_rfl))) ?_
  exact ⟨false, rfl, h⟩
 ·have h := h.2 (hb)
  refine Vc.skip ?_
  refine Vc.seq ?_
  refine Vc.region ?_
  obtain ⟨zz4g, zz4j, zz4k, zz4l, zz4f, zz4i, zz4h, hc8, h⟩ := h
  refine vcL_val rfl rfl (Value.agg #[(Value.string zz4g), (Value.int .i64 zz4j), (Value.int .i64 zz4k), (Value.int .i64 zz4l), (Sl.v zz4f), (Sl.v zz4i), (Sl.v zz4h)]) (exec_load rfl (by kernel_rfl) (run_loadN (fun w=>by kernel_rfl) (fun w=>by kernel_rfl) ((hc8)))) ?_
  obtain ⟨zze, zz1e, zzf, zz1f, hc9, h⟩ := h
  refine vcL_val rfl rfl (Value.agg #[(Sl.v zze), (Sl.v zz1e), (Sl.v zzf), (Sl.v zz1f)]) (exec_load rfl (by kernel_rfl) (run_loadN (fun w=>by kernel_rfl) (fun w=>by kernel_rfl) ((hc9)))) ?_
  refine vcL_eff rfl (opVC_call rfl (by kernel_rfl) (callS.mono h fun v11 vw10 h=>?_))
  obtain ⟨t19, rfl, h⟩ := h
  refine vcL_pure rfl rfl (Sl.v t19) (fun w=>by kernel_rfl) ?_
  refine vcL_nil ?_
  refine Vc.seq ?_
  refine Vc.region ?_
  obtain ⟨zz4s, zz4v, zz4w, zz4x, zz4r, zz4u, zz4t, hc13, h⟩ := h
  refine vcL_val rfl rfl (Value.agg #[(Value.string zz4s), (Value.int .i64 zz4v), (Value.int .i64 zz4w), (Value.int .i64 zz4x), (Sl.v zz4r), (Sl.v zz4u), (Sl.v zz4t)]) (exec_load rfl (by kernel_rfl) (run_loadN (fun w=>by kernel_rfl) (fun w=>by kernel_rfl) ((hc13)))) ?_
  obtain ⟨zz1g, zz4y, zz1i, zz4z, hc14, h⟩ := h
  refine vcL_val rfl rfl (Value.agg #[(Sl.v zz1g), (Sl.v zz4y), (Sl.v zz1i), (Sl.v zz4z)]) (exec_load rfl (by kernel_rfl) (run_loadN (fun w=>by kernel_rfl) (fun w=>by kernel_rfl) ((hc14)))) ?_
  refine vcL_eff rfl (opVC_call rfl (by kernel_rfl) (callS.mono h fun v16 vw15 h=>?_))
  obtain ⟨t22, rfl, h⟩ := h
  refine vcL_pure rfl rfl (Sl.v t22) (fun w=>by kernel_rfl) ?_
  refine vcL_nil ?_
  refine Vc.seq ?_
  refine Vc.region ?_
  refine vcL_pure rfl rfl (Sl.v t19) (fun w=>by kernel_rfl) ?_
  obtain ⟨zz51, zz52, zz53, zz54, hc18, h⟩ := h
  refine vcL_val rfl rfl (Value.agg #[(Sl.v zz51), (Sl.v zz52), (Sl.v zz53), (Sl.v zz54)]) (exec_load rfl (by kernel_rfl) (run_loadN (fun w=>by kernel_rfl) (fun w=>by kernel_rfl) ((hc18)))) ?_
  refine vcL_pure rfl rfl (Value.bool dev) (fun w=>by kernel_rfl) ?_
  refine vcL_eff rfl (opVC_call rfl (by kernel_rfl) (callS.mono h fun v20 vw19 h=>?_))
  obtain ⟨t26, rfl, h⟩ := h
  refine vcL_eff rfl (opVC_sem rfl (c := Builtin.append_ #[75, 75] 75 #[(Sl.v t19), (Sl.v t26)]) (by kernel_rfl) (appS.elim (ty := 75) h fun t27 vw22 h=>?_))
  refine vcL_pure rfl rfl (Sl.v t27) (fun w=>by kernel_rfl) ?_
  refine vcL_nil ?_
  refine Vc.seq ?_
  refine Vc.region ?_
  refine vcL_pure rfl rfl (Sl.v t22) (fun w=>by kernel_rfl) ?_
  obtain ⟨zz1m, zz1n, zz1o, zz1p, hc23, h⟩ := h
  refine vcL_val rfl rfl (Value.agg #[(Sl.v zz1m), (Sl.v zz1n), (Sl.v zz1o), (Sl.v zz1p)]) (exec_load rfl (by kernel_rfl) (run_loadN (fun w=>by kernel_rfl) (fun w=>by kernel_rfl) ((hc23)))) ?_
  refine vcL_pure rfl rfl (Value.bool dev) (fun w=>by kernel_rfl) ?_
  refine vcL_eff rfl (opVC_call rfl (by kernel_rfl) (callS.mono h fun v25 vw24 h=>?_))
  obtain ⟨t31, rfl, h⟩ := h
  refine vcL_eff rfl (opVC_sem rfl (c := Builtin.append_ #[75, 75] 75 #[(Sl.v t22), (Sl.v t31)]) (by kernel_rfl) (appS.elim (ty := 75) h fun t32 vw27 h=>?_))
  refine vcL_pure rfl rfl (Sl.v t32) (fun w=>by kernel_rfl) ?_
  refine vcL_nil ?_
  refine Vc.seq ?_
  refine Vc.seq ?_
  refine Vc.region ?_
  refine vcL_purs 5 [(37, (Value.bool (!((t27.len : Int) == (t32.len : Int))))), (36, (Value.int .i64 (t32.len : Int))), (35, (Sl.v t32)), (34, (Value.int .i64 (t27.len : Int))), (33, (Sl.v t27))] (by kernel_rfl) ?_
  refine vcL_nil ?_
  refine Vc.cond (!((t27.len : Int) == (t32.len : Int))) (by kernel_rfl) (fun hb=>?_) (fun hb=>?_)
  ·have h := h.1 (ne_of_nbeq hb)
   refine Vc.seq ?_
   refine Vc.region ?_
   refine vcL_pure rfl rfl (Value.bool false) (fun w=>by kernel_rfl) ?_
   refine vcL_nil ?_
   refine Vc.ret ?_
   refine outs_ret ?_
   refine done_mk (Value.bool false) (res1 (resC_tmp (by kernel_rfl))) ?_
   exact ⟨false, rfl, h⟩
  ·have h := h.2 (nne_of_nbeq hb)
   refine Vc.skip ?_
   refine Vc.seq ?_
   refine Vc.seq ?_
   refine Vc.region ?_
   refine vcL_pure rfl rfl (Value.int .i64 0) (fun w=>by kernel_rfl) ?_
   refine vcL_nil ?_
   refine Vc.block ?_
   obtain ⟨vI66, mu67, h, hr68⟩ := h
   refine Vc.loopJ (σ := Int) [10] [6, 11, 12, 38, 39, 40, 41, 42, 43, 44, 45, 46, 47, 48, 49, 50, 51, 52, 53, 54, 55, 56, 57, 58, 59, 60, 61, 62, 63, 64, 65, 66, 67, 68, 69, 70, 71, 72, 73, 74, 75, 76, 77, 78, 79, 80, 81, 82, 83, 84, 85, 86, 87, 88, 89, 90, 91, 92, 93, 94, 95, 96, 97, 98, 99, 100, 101, 102, 103, 104, 105, 106] (fun s=>[(10, (Value.int .i64 s))]) (fun s w=>vI66 s w) (fun s w=>mu67 s w) 0 h (fun _ => rfl) (by kernel_rfl) ?_
   intro i vw28 j h
   have h := hr68 i vw28 h
   refine Vc.seq ?_
   refine Vc.seq ?_
   refine Vc.region ?_
   refine vcL_purs 4 [(41, (Value.bool (decide (i < (t27.len : Int))))), (40, (Value.int .i64 (t27.len : Int))), (39, (Sl.v t27)), (38, (Value.int .i64 i))] (by kernel_rfl) ?_
   refine vcL_nil ?_
   refine Vc.cond (decide (i < (t27.len : Int))) (by kernel_rfl) (fun hb=>?_) (fun hb=>?_)
   ·have h := h.1 (of_decide_eq_true hb)
    refine Vc.skip ?_
    refine Vc.seq ?_
    refine Vc.block ?_
    refine Vc.seq ?_
    refine Vc.seq ?_
    obtain ⟨vw29, hvw29⟩ : ∃ y, y = vw28.drew := ⟨_, rfl⟩
    have h := h vw29 hvw29
    refine Vc.draw (by kernel_rfl) (fun i=>!(memN [] i)) (.pur 0 (.pur 1 (.pur 2 (.pur 3 (.val 4 (.pur 5 (.pur 6 (.pur 7 (.pur 8 (.val 9 (.pur 10 (.pur 11 (.pur 12 (.pur 13 (.pur 14 (.pur 15 (.val 16 (.pur 17 (.pur 18 (.pur 19 (.pur 20 (.val 21 (.pur 22 (.pur 23 .fin)))))))))))))))))))))))) (by kernel_rfl) ?_
    rw [← hvw29]
    clear hvw29
    refine vcS_pure rfl rfl rfl (Sl.v t27) (fun w=>by kernel_rfl) ?_
    refine vcS_pure rfl rfl rfl (Value.int .i64 i) (fun w=>by kernel_rfl) ?_
    obtain ⟨ad, hi, h⟩ := h
    refine vcS_pure rfl rfl rfl (Value.pointer (some (ad.add (i.toNat * 3)))) (fun w=>by exact exec_indexAt (s := t27) (el := 88) rfl (by kernel_rfl) (by kernel_rfl) (by kernel_rfl) (fun w=>by kernel_rfl) (hi).1 (hi).2.1 (hi).2.2 w) ?_
    refine vcS_pure rfl rfl rfl (Value.pointer (some (ad.add (i.toNat * 3)))) (fun w=>by kernel_rfl) ?_
    obtain ⟨t48, hc30, h⟩ := h
    refine vcS_val rfl rfl rfl (Value.string t48) (fun w' hx=>exec_load rfl (by kernel_rfl) (run_load1 (fun w=>by kernel_rfl) ((hc30).ext hx))) ?_
    refine vcS_pure rfl rfl rfl (Sl.v t32) (fun w=>by kernel_rfl) ?_
    refine vcS_pure rfl rfl rfl (Value.int .i64 i) (fun w=>by kernel_rfl) ?_
    obtain ⟨ad31, hi32, h⟩ := h
    refine vcS_pure rfl rfl rfl (Value.pointer (some (ad31.add (i.toNat * 3)))) (fun w=>by exact exec_indexAt (s := t32) (el := 88) rfl (by kernel_rfl) (by kernel_rfl) (by kernel_rfl) (fun w=>by kernel_rfl) (hi32).1 (hi32).2.1 (hi32).2.2 w) ?_
    refine vcS_pure rfl rfl rfl (Value.pointer (some (ad31.add (i.toNat * 3)))) (fun w=>by kernel_rfl) ?_
    obtain ⟨t53, hc33, h⟩ := h
    refine vcS_val rfl rfl rfl (Value.string t53) (fun w' hx=>exec_load rfl (by kernel_rfl) (run_load1 (fun w=>by kernel_rfl) ((hc33).ext hx))) ?_
    refine vcS_pure rfl rfl rfl (Value.bool (!bEq t48 t53)) (fun w=>by kernel_rfl) ?_
    obtain ⟨b, hb⟩ : ∃ y, y = (!bEq t48 t53) := ⟨_, rfl⟩
    have h := h b hb
    refine vcS_pure rfl rfl rfl (Value.bool b) (fun w=>by rw [hb]; kernel_rfl) ?_
    refine vcS_guard rfl (!b) (wanted_g (d := 55) rfl (by kernel_rfl) b (by kernel_rfl) (!b) (eqF b)) rfl (Sl.v t27) (fun hg w=>by simp only [Bool.and_eq_true, Bool.not_eq_true'] at hg; obtain rfl := hg; kernel_rfl) ?_
    refine vcS_guard rfl (!b) (wanted_g (d := 55) rfl (by kernel_rfl) b (by kernel_rfl) (!b) (eqF b)) rfl (Value.int .i64 i) (fun hg w=>by simp only [Bool.and_eq_true, Bool.not_eq_true'] at hg; obtain rfl := hg; kernel_rfl) ?_
    obtain ⟨ad34, hi35, h⟩ := h
    refine vcS_guard rfl (!b) (wanted_g (d := 55) rfl (by kernel_rfl) b (by kernel_rfl) (!b) (eqF b)) rfl (Value.pointer (some (ad34.add (i.toNat * 3)))) (fun hg w=>by simp only [Bool.and_eq_true, Bool.not_eq_true'] at hg; obtain rfl := hg; exact exec_indexAt (s := t27) (el := 88) rfl (by kernel_rfl) (by kernel_rfl) (by kernel_rfl) (fun w=>by kernel_rfl) (hi35 rfl).1 (hi35 rfl).2.1 (hi35 rfl).2.2 w) ?_
    refine vcS_guard rfl (!b) (wanted_g (d := 55) rfl (by kernel_rfl) b (by kernel_rfl) (!b) (eqF b)) rfl (Value.pointer (some ((ad34.add (i.toNat * 3)).add 1))) (fun hg w=>by simp only [Bool.and_eq_true, Bool.not_eq_true'] at hg; obtain rfl := hg; kernel_rfl) ?_
    obtain ⟨t60, hc36, h⟩ := h
    refine vcS_valG rfl (!b) (wanted_g (d := 55) rfl (by kernel_rfl) b (by kernel_rfl) (!b) (eqF b)) rfl (Value.int .i64 t60) (fun hg w' hx=>by simp only [Bool.and_eq_true, Bool.not_eq_true'] at hg; obtain rfl := hg; exact exec_load rfl (by kernel_rfl) (run_load1 (fun w=>by kernel_rfl) ((hc36 rfl).ext hx))) ?_
    refine vcS_guard rfl (!b) (wanted_g (d := 55) rfl (by kernel_rfl) b (by kernel_rfl) (!b) (eqF b)) rfl (Sl.v t32) (fun hg w=>by simp only [Bool.and_eq_true, Bool.not_eq_true'] at hg; obtain rfl := hg; kernel_rfl) ?_
    refine vcS_guard rfl (!b) (wanted_g (d := 55) rfl (by kernel_rfl) b (by kernel_rfl) (!b) (eqF b)) rfl (Value.int .i64 i) (fun hg w=>by simp only [Bool.and_eq_true, Bool.not_eq_true'] at hg; obtain rfl := hg; kernel_rfl) ?_
    obtain ⟨ad37, hi38, h⟩ := h
    refine vcS_guard rfl (!b) (wanted_g (d := 55) rfl (by kernel_rfl) b (by kernel_rfl) (!b) (eqF b)) rfl (Value.pointer (some (ad37.add (i.toNat * 3)))) (fun hg w=>by simp only [Bool.and_eq_true, Bool.not_eq_true'] at hg; obtain rfl := hg; exact exec_indexAt (s := t32) (el := 88) rfl (by kernel_rfl) (by kernel_rfl) (by kernel_rfl) (fun w=>by kernel_rfl) (hi38 rfl).1 (hi38 rfl).2.1 (hi38 rfl).2.2 w) ?_
    refine vcS_guard rfl (!b) (wanted_g (d := 55) rfl (by kernel_rfl) b (by kernel_rfl) (!b) (eqF b)) rfl (Value.pointer (some ((ad37.add (i.toNat * 3)).add 1))) (fun hg w=>by simp only [Bool.and_eq_true, Bool.not_eq_true'] at hg; obtain rfl := hg; kernel_rfl) ?_
    obtain ⟨t65, hc39, h⟩ := h
    refine vcS_valG rfl (!b) (wanted_g (d := 55) rfl (by kernel_rfl) b (by kernel_rfl) (!b) (eqF b)) rfl (Value.int .i64 t65) (fun hg w' hx=>by simp only [Bool.and_eq_true, Bool.not_eq_true'] at hg; obtain rfl := hg; exact exec_load rfl (by kernel_rfl) (run_load1 (fun w=>by kernel_rfl) ((hc39 rfl).ext hx))) ?_
    refine vcS_guard rfl (!b) (wanted_g (d := 55) rfl (by kernel_rfl) b (by kernel_rfl) (!b) (eqF b)) rfl (Value.bool (!(t60 == t65))) (fun hg w=>by simp only [Bool.and_eq_true, Bool.not_eq_true'] at hg; obtain rfl := hg; kernel_rfl) ?_
    refine vcS_pure rfl rfl rfl (Value.bool (b || (!(t60 == t65)))) (fun w=>by cases b <;> kernel_rfl) ?_
    refine vcS_fin ?_
    refine Vc.cond (b || (!(t60 == t65))) (by kernel_rfl) (fun hb=>?_) (fun hb=>?_)
    ·have h := h.1 (hb)
     refine Vc.seq ?_
     refine Vc.region ?_
     refine vcL_pure rfl rfl (Value.bool false) (fun w=>by kernel_rfl) ?_
     refine vcL_nil ?_
     refine Vc.ret ?_
     refine outOf_ret ?_
     refine outOf_ret ?_
     refine outs_ret ?_
     refine done_mk (Value.bool false) (res1 (resC_tmp (by kernel_rfl))) ?_
     exact ⟨false, rfl, h⟩
    ·have h := h.2 (hb)
     refine Vc.skip ?_
     refine Vc.seq ?_
     refine Vc.region ?_
     refine vcL_purs 2 [(69, (Value.int .i64 i)), (68, (Sl.v t32))] (by kernel_rfl) ?_
     obtain ⟨ad40, hi41, h⟩ := h
     refine vcL_pure rfl rfl (Value.pointer (some (ad40.add (i.toNat * 3)))) (fun w=>by exact exec_indexAt (s := t32) (el := 88) rfl (by kernel_rfl) (by kernel_rfl) (by kernel_rfl) (fun w=>by kernel_rfl) (hi41).1 (hi41).2.1 (hi41).2.2 w) ?_
     refine vcL_pure rfl rfl (Value.pointer (some ((ad40.add (i.toNat * 3)).add 2))) (fun w=>by kernel_rfl) ?_
     obtain ⟨t72, hc42, h⟩ := h
     refine vcL_val rfl rfl (Sl.v t72) (exec_load rfl (by kernel_rfl) (run_load1 (fun w=>by kernel_rfl) ((hc42)))) ?_
     refine vcL_pure rfl rfl (Sl.v t72) (fun w=>by kernel_rfl) ?_
     refine vcL_nil ?_
     refine Vc.seq ?_
     refine Vc.seq ?_
     refine Vc.region ?_
     refine vcL_pure rfl rfl (Value.pointer (some (a1.add 3))) (fun w=>by kernel_rfl) ?_
     obtain ⟨t74, hc43, h⟩ := h
     refine vcL_val rfl rfl (Sl.v t74) (exec_load rfl (by kernel_rfl) (run_load1 (fun w=>by kernel_rfl) ((hc43)))) ?_
     refine vcL_purs 3 [(12, (Value.int .i64 (wrapI ((t74.len : Int) - 1)))), (76, (Value.int .i64 (wrapI ((t74.len : Int) - 1)))), (75, (Value.int .i64 (t74.len : Int)))] (by kernel_rfl) ?_
     refine vcL_nil ?_
     refine Vc.block ?_
     obtain ⟨vI, mu, h, hr⟩ := h
     refine Vc.loopJ (σ := Sl × Int) [11, 12] [77, 78, 79, 80, 81, 82, 83, 84, 85, 86, 87, 88, 89, 90, 91, 92, 93, 94, 95, 96, 97, 98] (fun s=>[(11, (Sl.v s.1)), (12, (Value.int .i64 s.2))]) (fun s w=>vI s.1 s.2 w) (fun s w=>mu s.1 s.2 w) (t72, (wrapI ((t74.len : Int) - 1))) h (fun _ => rfl) (by kernel_rfl) ?_
     rintro ⟨want, vk⟩ vw44 j h
     have h := hr want vk vw44 h
     refine Vc.seq ?_
     refine Vc.seq ?_
     refine Vc.region ?_
     refine vcL_purs 2 [(78, (Value.bool (decide (0 ≤ vk)))), (77, (Value.int .i64 vk))] (by kernel_rfl) ?_
     refine vcL_nil ?_
     refine Vc.cond (decide (0 ≤ vk)) (by kernel_rfl) (fun hb=>?_) (fun hb=>?_)
     ·have h := h.1 (of_decide_eq_true hb)
      refine Vc.skip ?_
      obtain ⟨vJ, hJ, h⟩ := join_elim h
      refine Vc.seqJ (σ := Sl) [11] [81, 82, 83, 84, 85, 86, 87, 88, 89, 90, 91, 92, 93, 94, 95, 96, 97, 98] (fun s=>[(11, (Sl.v s))]) (fun s w=>vJ s w) (fun _ => rfl) ?_ ?_
      ·refine Vc.block ?_
       refine Vc.seq ?_
       obtain ⟨vw48, hvw48⟩ : ∃ y, y = vw44.drew := ⟨_, rfl⟩
       have h := h vw48 hvw48
       refine Vc.draw (by kernel_rfl) (fun i=>!(memN [] i)) (.pur 0 (.val 1 (.pur 2 (.pur 3 (.pur 4 (.val 5 (.pur 6 (.pur 7 (.pur 8 (.pur 9 (.val 10 (.pur 11 .fin)))))))))))) (by kernel_rfl) ?_
       rw [← hvw48]
       clear hvw48
       refine vcS_pure rfl rfl rfl (Value.pointer (some (a1.add 3))) (fun w=>by kernel_rfl) ?_
       obtain ⟨t82, hc49, h⟩ := h
       refine vcS_val rfl rfl rfl (Sl.v t82) (fun w' hx=>exec_load rfl (by kernel_rfl) (run_load1 (fun w=>by kernel_rfl) ((hc49).ext hx))) ?_
       refine vcS_pure rfl rfl rfl (Value.int .i64 vk) (fun w=>by kernel_rfl) ?_
       obtain ⟨ad50, hi51, h⟩ := h
       refine vcS_pure rfl rfl rfl (Value.pointer (some (ad50.add (vk.toNat * 2)))) (fun w=>by exact exec_indexAt (s := t82) (el := 81) rfl (by kernel_rfl) (by kernel_rfl) (by kernel_rfl) (fun w=>by kernel_rfl) (hi51).1 (hi51).2.1 (hi51).2.2 w) ?_
       refine vcS_pure rfl rfl rfl (Value.pointer (some (ad50.add (vk.toNat * 2)))) (fun w=>by kernel_rfl) ?_
       obtain ⟨t86, hc52, h⟩ := h
       refine vcS_val rfl rfl rfl (Value.string t86) (fun w' hx=>exec_load rfl (by kernel_rfl) (run_load1 (fun w=>by kernel_rfl) ((hc52).ext hx))) ?_
       refine vcS_pure rfl rfl rfl (Sl.v t27) (fun w=>by kernel_rfl) ?_
       refine vcS_pure rfl rfl rfl (Value.int .i64 i) (fun w=>by kernel_rfl) ?_
       obtain ⟨ad53, hi54, h⟩ := h
       refine vcS_pure rfl rfl rfl (Value.pointer (some (ad53.add (i.toNat * 3)))) (fun w=>by exact exec_indexAt (s := t27) (el := 88) rfl (by kernel_rfl) (by kernel_rfl) (by kernel_rfl) (fun w=>by kernel_rfl) (hi54).1 (hi54).2.1 (hi54).2.2 w) ?_
       refine vcS_pure rfl rfl rfl (Value.pointer (some (ad53.add (i.toNat * 3)))) (fun w=>by kernel_rfl) ?_
       obtain ⟨t91, hc55, h⟩ := h
       refine vcS_val rfl rfl rfl (Value.string t91) (fun w' hx=>exec_load rfl (by kernel_rfl) (run_load1 (fun w=>by kernel_rfl) ((hc55).ext hx))) ?_
       refine vcS_pure rfl rfl rfl (Value.bool (bEq t86 t91)) (fun w=>by kernel_rfl) ?_
       refine vcS_fin ?_
       refine Vc.cond (bEq t86 t91) (by kernel_rfl) (fun hb=>?_) (fun hb=>?_)
       ·have h := h.1 (bEq_iff.1 hb)
        refine Vc.region ?_
        refine vcL_pure rfl rfl (Value.pointer (some (a1.add 3))) (fun w=>by kernel_rfl) ?_
        obtain ⟨t94, hc56, h⟩ := h
        refine vcL_val rfl rfl (Sl.v t94) (exec_load rfl (by kernel_rfl) (run_load1 (fun w=>by kernel_rfl) ((hc56)))) ?_
        refine vcL_pure rfl rfl (Value.int .i64 vk) (fun w=>by kernel_rfl) ?_
        obtain ⟨ad57, hi58, h⟩ := h
        refine vcL_pure rfl rfl (Value.pointer (some (ad57.add (vk.toNat * 2)))) (fun w=>by exact exec_indexAt (s := t94) (el := 81) rfl (by kernel_rfl) (by kernel_rfl) (by kernel_rfl) (fun w=>by kernel_rfl) (hi58).1 (hi58).2.1 (hi58).2.2 w) ?_
        refine vcL_pure rfl rfl (Value.pointer (some ((ad57.add (vk.toNat * 2)).add 1))) (fun w=>by kernel_rfl) ?_
        obtain ⟨t98, hc59, h⟩ := h
        refine vcL_val rfl rfl (Sl.v t98) (exec_load rfl (by kernel_rfl) (run_load1 (fun w=>by kernel_rfl) ((hc59)))) ?_
        refine vcL_pure rfl rfl (Sl.v t98) (fun w=>by kernel_rfl) ?_
        refine vcL_nil ?_
        exact ⟨t98, 19, ⟨rfl, by kernel_rfl, by kernel_rfl, by kernel_rfl⟩, h⟩
       ·have h := h.2 (bEq_false.1 hb)
        refine Vc.skip ?_
        exact ⟨want, 12, ⟨rfl, by kernel_rfl, by kernel_rfl, by kernel_rfl⟩, h⟩
      ·intro want46 vw47 j h
       subst hJ
       refine Vc.region ?_
       refine vcL_purs 3 [(12, (Value.int .i64 (wrapI (vk - 1)))), (80, (Value.int .i64 (wrapI (vk - 1)))), (79, (Value.int .i64 vk))] (by kernel_rfl) ?_
       refine vcL_nil ?_
       exact ⟨(want46, (wrapI (vk - 1))), 48, ⟨rfl, by kernel_rfl, by kernel_rfl, by kernel_rfl⟩, h⟩
     ·have h := h.2 (of_decide_eq_false hb)
      refine Vc.exit ?_
      refine outOf_hit ?_
      refine Vc.seq ?_
      refine Vc.region ?_
      refine vcL_purs 2 [(100, (Value.int .i64 i)), (99, (Sl.v t27))] (by kernel_rfl) ?_
      obtain ⟨ad60, hi61, h⟩ := h
      refine vcL_pure rfl rfl (Value.pointer (some (ad60.add (i.toNat * 3)))) (fun w=>by exact exec_indexAt (s := t27) (el := 88) rfl (by kernel_rfl) (by kernel_rfl) (by kernel_rfl) (fun w=>by kernel_rfl) (hi61).1 (hi61).2.1 (hi61).2.2 w) ?_
      refine vcL_pure rfl rfl (Value.pointer (some ((ad60.add (i.toNat * 3)).add 2))) (fun w=>by kernel_rfl) ?_
      obtain ⟨t103, hc62, h⟩ := h
      refine vcL_val rfl rfl (Sl.v t103) (exec_load rfl (by kernel_rfl) (run_load1 (fun w=>by kernel_rfl) ((hc62)))) ?_
      refine vcL_pure rfl rfl (Sl.v want) (fun w=>by kernel_rfl) ?_
      refine vcL_eff rfl (opVC_call rfl (by kernel_rfl) (callS.mono h fun v64 vw63 h=>?_))
      obtain ⟨t105, rfl, h⟩ := h
      refine vcL_pure rfl rfl (Value.bool (!t105)) (fun w=>by kernel_rfl) ?_
      refine vcL_nil ?_
      refine Vc.cond (!t105) (by kernel_rfl) (fun hb=>?_) (fun hb=>?_)
      ·have h := h.1 (hb)
       refine Vc.seq ?_
       refine Vc.region ?_
       refine vcL_pure rfl rfl (Value.bool false) (fun w=>by kernel_rfl) ?_
       refine vcL_nil ?_
       refine Vc.ret ?_
       refine outOf_ret ?_
       refine outOf_ret ?_
       refine outs_ret ?_
       refine done_mk (Value.bool false) (res1 (resC_tmp (by kernel_rfl))) ?_
       exact ⟨false, rfl, h⟩
      ·have h := h.2 (hb)
       refine Vc.skip ?_
       refine Vc.region ?_
       refine vcL_purs 3 [(10, (Value.int .i64 (wrapI (i + 1)))), (43, (Value.int .i64 (wrapI (i + 1)))), (42, (Value.int .i64 i))] (by kernel_rfl) ?_
       refine vcL_nil ?_
       exact ⟨(wrapI (i + 1)), 149, ⟨rfl, by kernel_rfl, by kernel_rfl, by kernel_rfl⟩, h⟩
   ·have h := h.2 (of_decide_eq_false hb)
    refine Vc.exit ?_
    refine outOf_hit ?_
    refine Vc.seq ?_
    refine Vc.region ?_
    refine vcL_pure rfl rfl (Value.bool true) (fun w=>by kernel_rfl) ?_
    refine vcL_nil ?_
    refine Vc.ret ?_
    refine outs_ret ?_
    refine done_mk (Value.bool true) (res1 (resC_tmp (by kernel_rfl))) ?_
    exact ⟨true, rfl, h⟩
theorem halyardlaw09_WantsOverrides.go {zz4 : ByteArray} {zz5 : Int} {zz6 : Int} {zz7 : Int} {zz8 : Sl} {zza : Sl} {zz9 : Sl} {zz0 : Sl} {zz1 : Sl} {zz2 : Sl} {zz3 : Sl} {dev : Bool} {w : World} {k : Value → World → Prop} (h : halyardlaw09_WantsOverrides zz4 zz5 zz6 zz7 zz8 zza zz9 zz0 zz1 zz2 zz3 dev w fun r0 w'=>k (Value.bool r0) w') : callS Tryz.prog 9 [(Value.agg #[(Value.string zz4), (Value.int .i64 zz5), (Value.int .i64 zz6), (Value.int .i64 zz7), (Sl.v zz8), (Sl.v zza), (Sl.v zz9)]), (Value.agg #[(Sl.v zz0), (Sl.v zz1), (Sl.v zz2), (Sl.v zz3)]), (Value.bool dev)] w k := (halyardlaw09_WantsOverrides.sound zz4 zz5 zz6 zz7 zz8 zza zz9 zz0 zz1 zz2 zz3 dev w _ h).mono (by rintro _ _ ⟨r0, rfl, h⟩; exact h)
def halyardlaw09_known (w : World) (R : Bool → World → Prop) : Prop :=
 newS w [(Value.int .i64 0), (Value.int .i64 0), (Value.int .i64 0)] 30 fun a vw=>stw vw a [(Value.int .i64 1), (Value.int .i64 0), (Value.int .i64 0)] fun vw1=>callS Tryz.prog 16 [] vw1 fun v vw2=>∃ (t10 : Option Addr), v = (Value.pointer t10) ∧ ((t10 = none → R false vw2) ∧ (¬ (t10 = none) → bnd vw2.drew fun (vw3 : World)=>∃ (zzv : Int) (zzw : Int) (zzx : Int), (ldc vw3 a [(Value.int .i64 zzv), (Value.int .i64 zzw), (Value.int .i64 zzx)]) ∧ callX Tryz.prog 49 [] vw3 fun v5 vw4=>∃ (t15 : Sl), v5 = (Sl.v t15) ∧ newS vw4 [(Value.string (ByteArray.mk #[113])), (Sl.v t15)] 81 fun a7 vw8=>callS Tryz.prog 19 [(Value.pointer t10), (Value.agg #[(Value.string (ByteArray.mk #[112])), (Value.int .i64 zzv), (Value.int .i64 zzw), (Value.int .i64 zzx), (Sl.v Sl.nil), (Sl.v (Sl.mk (some a7) 1 1)), (Sl.v Sl.nil)])] vw8 fun v10 vw9=>∃ (t19 : Int), v10 = (Value.int .i64 t19) ∧ ∃ (zz41 : Int) (zz42 : Int) (zz43 : Int), (ldc vw9 a [(Value.int .i64 zz41), (Value.int .i64 zz42), (Value.int .i64 zz43)]) ∧ callS Tryz.prog 19 [(Value.pointer t10), (Value.agg #[(Value.string (ByteArray.mk #[113])), (Value.int .i64 zz41), (Value.int .i64 zz42), (Value.int .i64 zz43), (Sl.v Sl.nil), (Sl.v Sl.nil), (Sl.v Sl.nil)])] vw9 fun v14 vw13=>∃ (t23 : Int), v14 = (Value.int .i64 t23) ∧ ∃ (zz34 : Int) (zz35 : Int) (zz36 : Int), (ldc vw13 a [(Value.int .i64 zz34), (Value.int .i64 zz35), (Value.int .i64 zz36)]) ∧ newS vw13 [(Value.string (ByteArray.mk #[])), (Value.int .i64 0), (Value.int .i64 0), (Value.int .i64 0)] 32 fun a17 vw18=>stw vw18 a17 [(Value.string (ByteArray.mk #[112])), (Value.int .i64 zz34), (Value.int .i64 zz35), (Value.int .i64 zz36)] fun vw19=>∃ (zz37 : Int) (zz38 : Int) (zz39 : Int), (ldc vw19 a [(Value.int .i64 zz37), (Value.int .i64 zz38), (Value.int .i64 zz39)]) ∧ newS vw19 [(Value.string (ByteArray.mk #[])), (Value.int .i64 0), (Value.int .i64 0), (Value.int .i64 0)] 32 fun a21 vw22=>stw vw22 a21 [(Value.string (ByteArray.mk #[113])), (Value.int .i64 zz37), (Value.int .i64 zz38), (Value.int .i64 zz39)] fun vw23=>∃ (zz5a : ByteArray) (zz5b : Int) (zz5c : Int) (zz5d : Int), (ldc vw23 a21 [(Value.string zz5a), (Value.int .i64 zz5b), (Value.int .i64 zz5c), (Value.int .i64 zz5d)]) ∧ newS vw23 [(Value.string zz5a), (Value.int .i64 zz5b), (Value.int .i64 zz5c), (Value.int .i64 zz5d)] 32 fun a25 vw26=>∃ (zz5e : ByteArray) (zz5f : Int) (zz5g : Int) (zz5h : Int), (ldc vw26 a17 [(Value.string zz5e), (Value.int .i64 zz5f), (Value.int .i64 zz5g), (Value.int .i64 zz5h)]) ∧ callS Tryz.prog 13 [(Value.pointer t10), (Value.agg #[(Sl.v Sl.nil), (Sl.v Sl.nil), (Sl.v Sl.nil), (Sl.v Sl.nil)]), (Sl.v (Sl.mk (some a25) 1 1)), (Value.agg #[(Value.string zz5e), (Value.int .i64 zz5f), (Value.int .i64 zz5g), (Value.int .i64 zz5h)])] vw26 fun v29 vw28=>∃ (t34 : Sl) (t34b : Bool), v29 = (Value.tuple #[(Sl.v t34), (Value.bool t34b)]) ∧ ∃ (zz5p : ByteArray) (zz5q : Int) (zz5r : Int) (zz5s : Int), (ldc vw28 a17 [(Value.string zz5p), (Value.int .i64 zz5q), (Value.int .i64 zz5r), (Value.int .i64 zz5s)]) ∧ callS Tryz.prog 13 [(Value.pointer t10), (Value.agg #[(Sl.v Sl.nil), (Sl.v Sl.nil), (Sl.v Sl.nil), (Sl.v Sl.nil)]), (Sl.v Sl.nil), (Value.agg #[(Value.string zz5p), (Value.int .i64 zz5q), (Value.int .i64 zz5r), (Value.int .i64 zz5s)])] vw28 fun v33 vw32=>∃ (t41 : Sl) (t41b : Bool), v33 = (Value.tuple #[(Sl.v t41), (Value.bool t41b)]) ∧ bnd vw32.drew fun (vw35 : World)=>bnd (t34b && ((t34.len : Int) == 1)) fun (b : Bool)=>∃ (ad : Addr), grd b (t34.a = some ad ∧ (0 : Int) ≤ 0 ∧ 0 < (t34.len : Int)) ∧ ∃ (zzn : ByteArray) (zz2x : Int) (zz2y : Int) (zz2z : Int), grd b (ldc vw35 (ad.add ((0 : Int).toNat * 4)) [(Value.string zzn), (Value.int .i64 zz2x), (Value.int .i64 zz2y), (Value.int .i64 zz2z)]) ∧ ∃ (zz30 : ByteArray) (zz31 : Int) (zz32 : Int) (zz33 : Int), grd b (ldc vw35 a21 [(Value.string zz30), (Value.int .i64 zz31), (Value.int .i64 zz32), (Value.int .i64 zz33)]) ∧ bnd (b && ((bEq zzn zz30) && (((zz2x == zz31) && ((zz2y == zz32) && ((zz2z == zz33) && true))) && true))) fun (b38 : Bool)=>bnd (b38 && (!t41b)) fun (b39 : Bool)=>R (b39 && ((t41.len : Int) == 0)) vw35))
set_option maxHeartbeats 8000000 in
theorem halyardlaw09_known.sound (w : World) (R : Bool → World → Prop) (h : halyardlaw09_known w R) : callS Tryz.prog 12 [] w (fun v w'=>∃ (r0 : Bool), v = (Value.bool r0) ∧ R r0 w') := by
 unfold halyardlaw09_known at h
 refine calls_of_vc 66 rfl Tryz.func12 rfl (by kernel_rfl) (by simp) ?_
 refine Vc.seq ?_
 refine Vc.region ?_
 refine vcL_pure rfl rfl (Value.bool false) (fun w=>by kernel_rfl) ?_
 refine vcL_nil ?_
 refine Vc.seq ?_
 refine Vc.region ?_
 refine vcL_pure rfl rfl (Value.agg #[(Value.int .i64 1), (Value.int .i64 0), (Value.int .i64 0)]) (fun w=>by kernel_rfl) ?_
 refine vcL_eff rfl (opVC_new rfl (fun a=>Value.pointer (some a)) (by kernel_rfl) (newS.mono h fun a vw hx h=>?_))
 refine vcL_eff rfl (opVC_store rfl rfl (a := a) (by kernel_rfl) (v := (Value.agg #[(Value.int .i64 1), (Value.int .i64 0), (Value.int .i64 0)])) (by kernel_rfl) [(Value.int .i64 1), (Value.int .i64 0), (Value.int .i64 0)] (by kernel_rfl) (fun w=>by kernel_rfl) (by kernel_rfl) (stw.mono h fun vw1 h=>?_))
 refine vcL_nil ?_
 refine Vc.seq ?_
 refine Vc.region ?_
 refine vcL_eff rfl (opVC_call rfl (by kernel_rfl) (callS.mono h fun v vw2 h=>?_))
 obtain ⟨t10, rfl, h⟩ := h
 refine vcL_pure rfl rfl (Value.pointer t10) (fun w=>by kernel_rfl) ?_
 refine vcL_nil ?_
 refine Vc.seq ?_
 refine Vc.seq ?_
 refine Vc.region ?_
 refine vcL_pure rfl rfl (Value.pointer t10) (fun w=>by kernel_rfl) ?_
 refine vcL_pure rfl rfl (Value.bool (Option.isNone t10)) (fun w=>by cases t10 <;> kernel_rfl) ?_
 refine vcL_nil ?_
 refine Vc.cond (Option.isNone t10) (by kernel_rfl) (fun hb=>?_) (fun hb=>?_)
 ·have h := h.1 (Option.isNone_iff_eq_none.1 hb)
  refine Vc.seq ?_
  refine Vc.region ?_
  refine vcL_pure rfl rfl (Value.bool false) (fun w=>by kernel_rfl) ?_
  refine vcL_nil ?_
  refine Vc.ret ?_
  refine outs_ret ?_
  refine done_mk (Value.bool false) (res1 (resC_tmp (by kernel_rfl))) ?_
  exact ⟨false, rfl, h⟩
 ·have h := h.2 (isNone_false hb)
  refine Vc.skip ?_
  refine Vc.seq ?_
  obtain ⟨vw3, hvw3⟩ : ∃ y, y = vw2.drew := ⟨_, rfl⟩
  have h := h vw3 hvw3
  refine Vc.draw (by kernel_rfl) (fun i=>!(memN [6] i)) (.pur 0 (.val 1 (.eff 2 (.pur 3 (.eff 4 (.pur 5 (.eff 6 .fin .stop)) .stop)) .stop))) (by kernel_rfl) ?_
  rw [← hvw3]
  clear hvw3
  refine vcS_pure rfl rfl rfl (Value.pointer t10) (fun w=>by kernel_rfl) ?_
  obtain ⟨zzv, zzw, zzx, hc, h⟩ := h
  refine vcS_val rfl rfl rfl (Value.agg #[(Value.int .i64 zzv), (Value.int .i64 zzw), (Value.int .i64 zzx)]) (fun w' hx=>exec_load rfl (by kernel_rfl) (run_loadN (fun w=>by kernel_rfl) (fun w=>by kernel_rfl) ((hc).ext hx))) ?_
  refine vcS_eff rfl rfl (opVC_call rfl (by kernel_rfl) (callS.mono h fun v5 vw4 h=>?_)) vcS_stop
  obtain ⟨hx6, h⟩ := h
  obtain ⟨t15, rfl, h⟩ := h
  refine ⟨fun _ => hx6, ?_⟩
  refine vcS_pure rfl rfl rfl (Value.agg #[(Value.string (ByteArray.mk #[113])), (Sl.v t15)]) (fun w=>by kernel_rfl) ?_
  refine vcS_eff rfl rfl (opVC_new rfl (fun a=>Value.slice (some a) 1 1) (by kernel_rfl) (newS.mono h fun a7 vw8 hx h=>?_)) vcS_stop
  refine ⟨fun _ => hx, ?_⟩
  refine vcS_pure rfl rfl rfl (Value.agg #[(Value.string (ByteArray.mk #[112])), (Value.int .i64 zzv), (Value.int .i64 zzw), (Value.int .i64 zzx), (Sl.v Sl.nil), (Sl.v (Sl.mk (some a7) 1 1)), (Sl.v Sl.nil)]) (fun w=>by kernel_rfl) ?_
  refine vcS_eff rfl rfl (opVC_call rfl (by kernel_rfl) (callS.mono h fun v10 vw9 h=>?_)) vcS_stop
  obtain ⟨t19, rfl, h⟩ := h
  refine ⟨fun hb=>absurd hb (by decide), ?_⟩
  refine vcS_fin ?_
  refine Vc.seq ?_
  refine Vc.region ?_
  refine vcL_pure rfl rfl (Value.pointer t10) (fun w=>by kernel_rfl) ?_
  obtain ⟨zz41, zz42, zz43, hc12, h⟩ := h
  refine vcL_val rfl rfl (Value.agg #[(Value.int .i64 zz41), (Value.int .i64 zz42), (Value.int .i64 zz43)]) (exec_load rfl (by kernel_rfl) (run_loadN (fun w=>by kernel_rfl) (fun w=>by kernel_rfl) ((hc12)))) ?_
  refine vcL_pure rfl rfl (Value.agg #[(Value.string (ByteArray.mk #[113])), (Value.int .i64 zz41), (Value.int .i64 zz42), (Value.int .i64 zz43), (Sl.v Sl.nil), (Sl.v Sl.nil), (Sl.v Sl.nil)]) (fun w=>by kernel_rfl) ?_
  refine vcL_eff rfl (opVC_call rfl (by kernel_rfl) (callS.mono h fun v14 vw13 h=>?_))
  obtain ⟨t23, rfl, h⟩ := h
  refine vcL_nil ?_
  refine Vc.seq ?_
  refine Vc.region ?_
  obtain ⟨zz34, zz35, zz36, hc16, h⟩ := h
  refine vcL_val rfl rfl (Value.agg #[(Value.int .i64 zz34), (Value.int .i64 zz35), (Value.int .i64 zz36)]) (exec_load rfl (by kernel_rfl) (run_loadN (fun w=>by kernel_rfl) (fun w=>by kernel_rfl) ((hc16)))) ?_
  refine vcL_pure rfl rfl (Value.agg #[(Value.string (ByteArray.mk #[112])), (Value.int .i64 zz34), (Value.int .i64 zz35), (Value.int .i64 zz36)]) (fun w=>by kernel_rfl) ?_
  refine vcL_eff rfl (opVC_new rfl (fun a=>Value.pointer (some a)) (by kernel_rfl) (newS.mono h fun a17 vw18 hx h=>?_))
  refine vcL_eff rfl (opVC_store rfl rfl (a := a17) (by kernel_rfl) (v := (Value.agg #[(Value.string (ByteArray.mk #[112])), (Value.int .i64 zz34), (Value.int .i64 zz35), (Value.int .i64 zz36)])) (by kernel_rfl) [(Value.string (ByteArray.mk #[112])), (Value.int .i64 zz34), (Value.int .i64 zz35), (Value.int .i64 zz36)] (by kernel_rfl) (fun w=>by kernel_rfl) (by kernel_rfl) (stw.mono h fun vw19 h=>?_))
  refine vcL_nil ?_
  refine Vc.seq ?_
  refine Vc.region ?_
  obtain ⟨zz37, zz38, zz39, hc20, h⟩ := h
  refine vcL_val rfl rfl (Value.agg #[(Value.int .i64 zz37), (Value.int .i64 zz38), (Value.int .i64 zz39)]) (exec_load rfl (by kernel_rfl) (run_loadN (fun w=>by kernel_rfl) (fun w=>by kernel_rfl) ((hc20)))) ?_
  refine vcL_pure rfl rfl (Value.agg #[(Value.string (ByteArray.mk #[113])), (Value.int .i64 zz37), (Value.int .i64 zz38), (Value.int .i64 zz39)]) (fun w=>by kernel_rfl) ?_
  refine vcL_eff rfl (opVC_new rfl (fun a=>Value.pointer (some a)) (by kernel_rfl) (newS.mono h fun a21 vw22 hx h=>?_))
  refine vcL_eff rfl (opVC_store rfl rfl (a := a21) (by kernel_rfl) (v := (Value.agg #[(Value.string (ByteArray.mk #[113])), (Value.int .i64 zz37), (Value.int .i64 zz38), (Value.int .i64 zz39)])) (by kernel_rfl) [(Value.string (ByteArray.mk #[113])), (Value.int .i64 zz37), (Value.int .i64 zz38), (Value.int .i64 zz39)] (by kernel_rfl) (fun w=>by kernel_rfl) (by kernel_rfl) (stw.mono h fun vw23 h=>?_))
  refine vcL_nil ?_
  refine Vc.seq ?_
  refine Vc.region ?_
  refine vcL_purs 2 [(30, (Value.agg #[(Sl.v Sl.nil), (Sl.v Sl.nil), (Sl.v Sl.nil), (Sl.v Sl.nil)])), (29, (Value.pointer t10))] (by kernel_rfl) ?_
  obtain ⟨zz5a, zz5b, zz5c, zz5d, hc24, h⟩ := h
  refine vcL_val rfl rfl (Value.agg #[(Value.string zz5a), (Value.int .i64 zz5b), (Value.int .i64 zz5c), (Value.int .i64 zz5d)]) (exec_load rfl (by kernel_rfl) (run_loadN (fun w=>by kernel_rfl) (fun w=>by kernel_rfl) ((hc24)))) ?_
  refine vcL_eff rfl (opVC_new rfl (fun a=>Value.slice (some a) 1 1) (by kernel_rfl) (newS.mono h fun a25 vw26 hx h=>?_))
  obtain ⟨zz5e, zz5f, zz5g, zz5h, hc27, h⟩ := h
  refine vcL_val rfl rfl (Value.agg #[(Value.string zz5e), (Value.int .i64 zz5f), (Value.int .i64 zz5g), (Value.int .i64 zz5h)]) (exec_load rfl (by kernel_rfl) (run_loadN (fun w=>by kernel_rfl) (fun w=>by kernel_rfl) ((hc27)))) ?_
  refine vcL_eff rfl (opVC_call rfl (by kernel_rfl) (callS.mono h fun v29 vw28 h=>?_))
  obtain ⟨t34, t34b, rfl, h⟩ := h
  refine vcL_purs 5 [(6, (Value.bool t34b)), (5, (Sl.v t34)), (36, (Value.bool t34b)), (35, (Sl.v t34)), (28, (Value.tuple #[(Sl.v t34), (Value.bool t34b)]))] (by kernel_rfl) ?_
  refine vcL_nil ?_
  refine Vc.seq ?_
  refine Vc.region ?_
  refine vcL_purs 2 [(39, (Value.agg #[(Sl.v Sl.nil), (Sl.v Sl.nil), (Sl.v Sl.nil), (Sl.v Sl.nil)])), (38, (Value.pointer t10))] (by kernel_rfl) ?_
  obtain ⟨zz5p, zz5q, zz5r, zz5s, hc31, h⟩ := h
  refine vcL_val rfl rfl (Value.agg #[(Value.string zz5p), (Value.int .i64 zz5q), (Value.int .i64 zz5r), (Value.int .i64 zz5s)]) (exec_load rfl (by kernel_rfl) (run_loadN (fun w=>by kernel_rfl) (fun w=>by kernel_rfl) ((hc31)))) ?_
  refine vcL_eff rfl (opVC_call rfl (by kernel_rfl) (callS.mono h fun v33 vw32 h=>?_))
  obtain ⟨t41, t41b, rfl, h⟩ := h
  refine vcL_purs 5 [(8, (Value.bool t41b)), (7, (Sl.v t41)), (43, (Value.bool t41b)), (42, (Sl.v t41)), (37, (Value.tuple #[(Sl.v t41), (Value.bool t41b)]))] (by kernel_rfl) ?_
  refine vcL_nil ?_
  refine Vc.seq ?_
  obtain ⟨vw35, hvw35⟩ : ∃ y, y = vw32.drew := ⟨_, rfl⟩
  have h := h vw35 hvw35
  refine Vc.draw (by kernel_rfl) (fun i=>!(memN [] i)) (.pur 0 (.pur 1 (.pur 2 (.pur 3 (.pur 4 (.pur 5 (.pur 6 (.pur 7 (.pur 8 (.val 9 (.val 10 (.pur 11 (.pur 12 (.pur 13 (.pur 14 (.pur 15 (.pur 16 (.pur 17 (.pur 18 (.pur 19 (.pur 20 (.pur 21 (.pur 22 .fin))))))))))))))))))))))) (by kernel_rfl) ?_
  rw [← hvw35]
  clear hvw35
  refine vcS_pure rfl rfl rfl (Value.bool t34b) (fun w=>by kernel_rfl) ?_
  refine vcS_pure rfl rfl rfl (Value.bool t34b) (fun w=>by kernel_rfl) ?_
  refine vcS_guard rfl t34b (wanted_g (d := 45) rfl (by kernel_rfl) t34b (by kernel_rfl) t34b (eqT t34b)) rfl (Sl.v t34) (fun hg w=>by subst hg; kernel_rfl) ?_
  refine vcS_guard rfl t34b (wanted_g (d := 45) rfl (by kernel_rfl) t34b (by kernel_rfl) t34b (eqT t34b)) rfl (Value.int .i64 (t34.len : Int)) (fun hg w=>by subst hg; kernel_rfl) ?_
  refine vcS_guard rfl t34b (wanted_g (d := 45) rfl (by kernel_rfl) t34b (by kernel_rfl) t34b (eqT t34b)) rfl (Value.bool ((t34.len : Int) == 1)) (fun hg w=>by subst hg; kernel_rfl) ?_
  refine vcS_pure rfl rfl rfl (Value.bool (t34b && ((t34.len : Int) == 1))) (fun w=>by cases t34b <;> kernel_rfl) ?_
  obtain ⟨b, hb⟩ : ∃ y, y = (t34b && ((t34.len : Int) == 1)) := ⟨_, rfl⟩
  have h := h b hb
  refine vcS_pure rfl rfl rfl (Value.bool b) (fun w=>by rw [hb]; kernel_rfl) ?_
  refine vcS_guard rfl b (wanted_g (d := 50) rfl (by kernel_rfl) b (by kernel_rfl) b (eqT b)) rfl (Sl.v t34) (fun hg w=>by subst hg; kernel_rfl) ?_
  obtain ⟨ad, hi, h⟩ := h
  refine vcS_guard rfl b (wanted_g (d := 50) rfl (by kernel_rfl) b (by kernel_rfl) b (eqT b)) rfl (Value.pointer (some (ad.add ((0 : Int).toNat * 4)))) (fun hg w=>by subst hg; exact exec_indexAt (s := t34) (el := 32) rfl (by kernel_rfl) (by kernel_rfl) (by kernel_rfl) (fun w=>by kernel_rfl) (hi rfl).1 (hi rfl).2.1 (hi rfl).2.2 w) ?_
  obtain ⟨zzn, zz2x, zz2y, zz2z, hc36, h⟩ := h
  refine vcS_valG rfl b (wanted_g (d := 50) rfl (by kernel_rfl) b (by kernel_rfl) b (eqT b)) rfl (Value.agg #[(Value.string zzn), (Value.int .i64 zz2x), (Value.int .i64 zz2y), (Value.int .i64 zz2z)]) (fun hg w' hx=>by subst hg; exact exec_load rfl (by kernel_rfl) (run_loadN (fun w=>by kernel_rfl) (fun w=>by kernel_rfl) ((hc36 rfl).ext hx))) ?_
  obtain ⟨zz30, zz31, zz32, zz33, hc37, h⟩ := h
  refine vcS_valG rfl b (wanted_g (d := 50) rfl (by kernel_rfl) b (by kernel_rfl) b (eqT b)) rfl (Value.agg #[(Value.string zz30), (Value.int .i64 zz31), (Value.int .i64 zz32), (Value.int .i64 zz33)]) (fun hg w' hx=>by subst hg; exact exec_load rfl (by kernel_rfl) (run_loadN (fun w=>by kernel_rfl) (fun w=>by kernel_rfl) ((hc37 rfl).ext hx))) ?_
  refine vcS_guard rfl b (wanted_g (d := 50) rfl (by kernel_rfl) b (by kernel_rfl) b (eqT b)) rfl (Value.bool ((bEq zzn zz30) && (((zz2x == zz31) && ((zz2y == zz32) && ((zz2z == zz33) && true))) && true))) (fun hg w=>by subst hg; exact exec_struct_eq rfl (by kernel_rfl) (by kernel_rfl) (by kernel_rfl) (eqv_32 9997 zzn zz2x zz2y zz2z zz30 zz31 zz32 zz33 w)) ?_
  refine vcS_pure rfl rfl rfl (Value.bool (b && ((bEq zzn zz30) && (((zz2x == zz31) && ((zz2y == zz32) && ((zz2z == zz33) && true))) && true)))) (fun w=>by cases b <;> kernel_rfl) ?_
  obtain ⟨b38, hb38⟩ : ∃ y, y = (b && ((bEq zzn zz30) && (((zz2x == zz31) && ((zz2y == zz32) && ((zz2z == zz33) && true))) && true))) := ⟨_, rfl⟩
  have h := h b38 hb38
  refine vcS_pure rfl rfl rfl (Value.bool b38) (fun w=>by rw [hb38]; kernel_rfl) ?_
  refine vcS_guard rfl b38 (wanted_g (d := 57) rfl (by kernel_rfl) b38 (by kernel_rfl) b38 (eqT b38)) rfl (Value.bool t41b) (fun hg w=>by subst hg; kernel_rfl) ?_
  refine vcS_guard rfl b38 (wanted_g (d := 57) rfl (by kernel_rfl) b38 (by kernel_rfl) b38 (eqT b38)) rfl (Value.bool (!t41b)) (fun hg w=>by subst hg; kernel_rfl) ?_
  refine vcS_pure rfl rfl rfl (Value.bool (b38 && (!t41b))) (fun w=>by cases b38 <;> kernel_rfl) ?_
  obtain ⟨b39, hb39⟩ : ∃ y, y = (b38 && (!t41b)) := ⟨_, rfl⟩
  have h := h b39 hb39
  refine vcS_pure rfl rfl rfl (Value.bool b39) (fun w=>by rw [hb39]; kernel_rfl) ?_
  refine vcS_guard rfl b39 (wanted_g (d := 61) rfl (by kernel_rfl) b39 (by kernel_rfl) b39 (eqT b39)) rfl (Sl.v t41) (fun hg w=>by subst hg; kernel_rfl) ?_
  refine vcS_guard rfl b39 (wanted_g (d := 61) rfl (by kernel_rfl) b39 (by kernel_rfl) b39 (eqT b39)) rfl (Value.int .i64 (t41.len : Int)) (fun hg w=>by subst hg; kernel_rfl) ?_
  refine vcS_guard rfl b39 (wanted_g (d := 61) rfl (by kernel_rfl) b39 (by kernel_rfl) b39 (eqT b39)) rfl (Value.bool ((t41.len : Int) == 0)) (fun hg w=>by subst hg; kernel_rfl) ?_
  refine vcS_pure rfl rfl rfl (Value.bool (b39 && ((t41.len : Int) == 0))) (fun w=>by cases b39 <;> kernel_rfl) ?_
  refine vcS_pure rfl rfl rfl (Value.bool (b39 && ((t41.len : Int) == 0))) (fun w=>by kernel_rfl) ?_
  refine vcS_fin ?_
  refine Vc.ret ?_
  refine outs_ret ?_
  refine done_mk (Value.bool (b39 && ((t41.len : Int) == 0))) (res1 (resC_tmp (by kernel_rfl))) ?_
  exact ⟨(b39 && ((t41.len : Int) == 0)), rfl, h⟩
theorem halyardlaw09_known.go {w : World} {k : Value → World → Prop} (h : halyardlaw09_known w fun r0 w'=>k (Value.bool r0) w') : callS Tryz.prog 12 [] w k := (halyardlaw09_known.sound w _ h).mono (by rintro _ _ ⟨r0, rfl, h⟩; exact h)
def wants_Context (c : Option Addr) (zz0 : Sl) (zz1 : Sl) (zz2 : Sl) (zz3 : Sl) (env : Sl) (zz4 : ByteArray) (zz5 : Int) (zz6 : Int) (zz7 : Int) (w : World) (R : Sl → Bool → World → Prop) : Prop :=
 newS w [(Sl.v zz0), (Sl.v zz1), (Sl.v zz2), (Sl.v zz3)] 25 fun a vw=>newS vw [(Value.string zz4), (Value.int .i64 zz5), (Value.int .i64 zz6), (Value.int .i64 zz7)] 32 fun a1 vw2=>((c = none → R Sl.nil false vw2) ∧ (¬ (c = none) → ∃ (zz1h : ByteArray) (zz1j : Int) (zz1k : Int) (zz1l : Int), (ldc vw2 a1 [(Value.string zz1h), (Value.int .i64 zz1j), (Value.int .i64 zz1k), (Value.int .i64 zz1l)]) ∧ newS vw2 [(Value.string zz1h), (Value.int .i64 zz1j), (Value.int .i64 zz1k), (Value.int .i64 zz1l)] 32 fun a3 vw4=>loop3 (Sl.mk (some a3) 1 1) Sl.nil 0 vw4 fun all context i vw5 nxt=>((i < (all.len : Int) → join (fun (x : Addr) (there : Bool) (vw6 : World)=>(((!there) = true → R Sl.nil false vw6) ∧ ((!there) = false → ∃ (zz5u : ByteArray) (zz5x : Int) (zz5y : Int) (zz5z : Int) (zz1x : Sl) (zz5w : Sl) (zz1y : Sl), (ldc vw6 x [(Value.string zz5u), (Value.int .i64 zz5x), (Value.int .i64 zz5y), (Value.int .i64 zz5z), (Sl.v zz1x), (Sl.v zz5w), (Sl.v zz1y)]) ∧ ∃ (zz60 : Sl) (zz61 : Sl) (zz63 : Sl) (zz64 : Sl), (ldc vw6 a [(Sl.v zz60), (Sl.v zz61), (Sl.v zz63), (Sl.v zz64)]) ∧ callS Tryz.prog 41 [(Value.agg #[(Value.string zz5u), (Value.int .i64 zz5x), (Value.int .i64 zz5y), (Value.int .i64 zz5z), (Sl.v zz1x), (Sl.v zz5w), (Sl.v zz1y)]), (Value.agg #[(Sl.v zz60), (Sl.v zz61), (Sl.v zz63), (Sl.v zz64)])] vw6 fun v vw9=>∃ (t48 : Sl), v = (Sl.v t48) ∧ loop3 all context 0 vw9 fun all10 context11 t50 vw12 nxt13=>((t50 < (t48.len : Int) → join (fun (all14 : Sl) (context15 : Sl) (vw16 : World)=>nxt13 all14 context15 (wrapI (t50 + 1)) vw16) fun vJ=>∃ (ad : Addr), (t48.a = some ad ∧ (0 : Int) ≤ t50 ∧ t50 < (t48.len : Int)) ∧ ∃ (zzn : ByteArray) (zz3x : Sl), (ldc vw12 (ad.add (t50.toNat * 2)) [(Value.string zzn), (Sl.v zz3x)]) ∧ newS vw12 [(Value.string (ByteArray.mk #[])), (Sl.v Sl.nil)] 81 fun a18 vw19=>stw vw19 a18 [(Value.string zzn), (Sl.v zz3x)] fun vw20=>∃ (t57 : ByteArray), (ldc vw20 a18 [(Value.string t57)]) ∧ callS Tryz.prog 50 [(Value.string t57)] vw20 fun v23 vw22=>∃ (t58 : Value), v23 = t58 ∧ callS Tryz.prog 52 [(Sl.v env), t58] vw22 fun v26 vw25=>∃ (t59 : Int), v26 = (Value.int .i64 t59) ∧ bnd vw25.drew fun (vw28 : World)=>bnd (decide (t59 < 0)) fun (b : Bool)=>∃ (t64 : Sl), grd (!b) (ldc vw28 (a18.add 1) [(Sl.v t64)]) ∧ ∃ (ad30 : Addr), grd (!b) (env.a = some ad30 ∧ (0 : Int) ≤ t59 ∧ t59 < (env.len : Int)) ∧ ∃ (zz6a : Int) (zz6b : Int) (zz6c : Int), grd (!b) (ldc vw28 ((ad30.add (t59.toNat * 4)).add 1) [(Value.int .i64 zz6a), (Value.int .i64 zz6b), (Value.int .i64 zz6c)]) ∧ gCall (!b) (fun (t70 : Bool) (vw33 : World)=>(((b || (!t70)) = true → R Sl.nil false vw33) ∧ ((b || (!t70)) = false → ∃ (t76 : ByteArray), (ldc vw33 a18 [(Value.string t76)]) ∧ callS Tryz.prog 50 [(Value.string t76)] vw33 fun v40 vw39=>∃ (t77 : Value), v40 = t77 ∧ callS Tryz.prog 54 [(Sl.v context11), t77] vw39 fun v43 vw42=>∃ (t78 : Bool), v43 = (Value.bool t78) ∧ (((!t78) = true → ∃ (ad45 : Addr), (env.a = some ad45 ∧ (0 : Int) ≤ t59 ∧ t59 < (env.len : Int)) ∧ ∃ (zz6d : ByteArray) (zz6e : Int) (zz6f : Int) (zz6g : Int), (ldc vw42 (ad45.add (t59.toNat * 4)) [(Value.string zz6d), (Value.int .i64 zz6e), (Value.int .i64 zz6f), (Value.int .i64 zz6g)]) ∧ newS vw42 [(Value.string zz6d), (Value.int .i64 zz6e), (Value.int .i64 zz6f), (Value.int .i64 zz6g)] 32 fun a48 vw49=>appS Tryz.prog 28 28 context11 (Sl.v (Sl.mk (some a48) 1 1)) vw49 fun t86 vw50=>∃ (ad51 : Addr), (env.a = some ad51 ∧ (0 : Int) ≤ t59 ∧ t59 < (env.len : Int)) ∧ ∃ (zz6o : ByteArray) (zz6p : Int) (zz6q : Int) (zz6r : Int), (ldc vw50 (ad51.add (t59.toNat * 4)) [(Value.string zz6o), (Value.int .i64 zz6p), (Value.int .i64 zz6q), (Value.int .i64 zz6r)]) ∧ newS vw50 [(Value.string zz6o), (Value.int .i64 zz6p), (Value.int .i64 zz6q), (Value.int .i64 zz6r)] 32 fun a54 vw55=>appS Tryz.prog 28 28 all10 (Sl.v (Sl.mk (some a54) 1 1)) vw55 fun t93 vw56=>vJ t93 t86 vw56) ∧ ((!t78) = false → vJ all10 context11 vw42))))) (fun q=>callS Tryz.prog 53 [(Sl.v t64), (Value.agg #[(Value.int .i64 zz6a), (Value.int .i64 zz6b), (Value.int .i64 zz6c)])] vw28 fun v34 vw33=>∃ (t70 : Bool), v34 = (Value.bool t70) ∧ q t70 vw33) (fun q=>q false vw28)) ∧ (¬ (t50 < (t48.len : Int)) → nxt all10 context11 (wrapI (i + 1)) vw12))))) fun vJ57=>bnd vw5.drew fun (vw59 : World)=>∃ (ad60 : Addr), (all.a = some ad60 ∧ (0 : Int) ≤ i ∧ i < (all.len : Int)) ∧ ∃ (t35 : ByteArray), (ldc vw59 (ad60.add (i.toNat * 4)) [(Value.string t35)]) ∧ ∃ (ad63 : Addr), (all.a = some ad63 ∧ (0 : Int) ≤ i ∧ i < (all.len : Int)) ∧ ∃ (zz4a : Int) (zz4b : Int) (zz4c : Int), (ldc vw59 ((ad63.add (i.toNat * 4)).add 1) [(Value.int .i64 zz4a), (Value.int .i64 zz4b), (Value.int .i64 zz4c)]) ∧ ((callS Tryz.prog 22 [(Value.pointer c), (Value.string t35), (Value.agg #[(Value.int .i64 zz4a), (Value.int .i64 zz4b), (Value.int .i64 zz4c)])] vw59 fun v67 vw66=>∃ (zzh : ByteArray) (zzk : Int) (zzl : Int) (zzm : Int) (zzg : Sl) (zzj : Sl) (zzi : Sl) (t41b : Bool), v67 = (Value.tuple #[(Value.agg #[(Value.string zzh), (Value.int .i64 zzk), (Value.int .i64 zzl), (Value.int .i64 zzm), (Sl.v zzg), (Sl.v zzj), (Sl.v zzi)]), (Value.bool t41b)]) ∧ newS vw66 [(Value.string (ByteArray.mk #[])), (Value.int .i64 0), (Value.int .i64 0), (Value.int .i64 0), (Sl.v Sl.nil), (Sl.v Sl.nil), (Sl.v Sl.nil)] 48 fun a69 vw70=>stw vw70 a69 [(Value.string zzh), (Value.int .i64 zzk), (Value.int .i64 zzl), (Value.int .i64 zzm), (Sl.v zzg), (Sl.v zzj), (Sl.v zzi)] fun vw71=>vJ57 a69 t41b vw71) ∧ (newS vw59 [(Value.string (ByteArray.mk #[])), (Value.int .i64 0), (Value.int .i64 0), (Value.int .i64 0), (Sl.v Sl.nil), (Sl.v Sl.nil), (Sl.v Sl.nil)] 48 fun a72 vw73=>callS Tryz.prog 22 [(Value.pointer c), (Value.string t35), (Value.agg #[(Value.int .i64 zz4a), (Value.int .i64 zz4b), (Value.int .i64 zz4c)])] vw73 fun v83 vw74=>∃ (zz3b : ByteArray) (zz3e : Int) (zz3f : Int) (zz3g : Int) (zz3a : Sl) (zz3d : Sl) (zz3c : Sl) (t41b82 : Bool), v83 = (Value.tuple #[(Value.agg #[(Value.string zz3b), (Value.int .i64 zz3e), (Value.int .i64 zz3f), (Value.int .i64 zz3g), (Sl.v zz3a), (Sl.v zz3d), (Sl.v zz3c)]), (Value.bool t41b82)]) ∧ stw vw74 a72 [(Value.string zz3b), (Value.int .i64 zz3e), (Value.int .i64 zz3f), (Value.int .i64 zz3g), (Sl.v zz3a), (Sl.v zz3d), (Sl.v zz3c)] fun vw85=>vJ57 a72 t41b82 vw85))) ∧ (¬ (i < (all.len : Int)) → callS Tryz.prog 55 [(Sl.v context), (Value.func (.func 56) #[] #[])] vw5 fun v87 vw86=>v87 = (Value.tuple #[]) ∧ callS Tryz.prog 58 [(Sl.v context)] vw86 fun v90 vw89=>∃ (t98 : Sl), v90 = (Sl.v t98) ∧ R t98 true vw89))))
set_option maxHeartbeats 8000000 in
theorem wants_Context.sound (c : Option Addr) (zz0 : Sl) (zz1 : Sl) (zz2 : Sl) (zz3 : Sl) (env : Sl) (zz4 : ByteArray) (zz5 : Int) (zz6 : Int) (zz7 : Int) (w : World) (R : Sl → Bool → World → Prop) (h : wants_Context c zz0 zz1 zz2 zz3 env zz4 zz5 zz6 zz7 w R) : callS Tryz.prog 13 [(Value.pointer c), (Value.agg #[(Sl.v zz0), (Sl.v zz1), (Sl.v zz2), (Sl.v zz3)]), (Sl.v env), (Value.agg #[(Value.string zz4), (Value.int .i64 zz5), (Value.int .i64 zz6), (Value.int .i64 zz7)])] w (fun v w'=>∃ (r0 : Sl) (r1 : Bool), v = (Value.tuple #[(Sl.v r0), (Value.bool r1)]) ∧ R r0 r1 w') := by
 unfold wants_Context at h
 refine calls_of_vc 99 rfl Tryz.func13 rfl (by kernel_rfl) (by simp) ?_
 refine Vc.seq ?_
 refine Vc.region ?_
 refine vcL_eff rfl (opVC_new rfl (fun a=>Value.pointer (some a)) (by kernel_rfl) (newS.mono h fun a vw hx h=>?_))
 refine vcL_eff rfl (opVC_new rfl (fun a=>Value.pointer (some a)) (by kernel_rfl) (newS.mono h fun a1 vw2 hx h=>?_))
 refine vcL_purs 2 [(9, (Value.bool false)), (8, (Sl.v Sl.nil))] (by kernel_rfl) ?_
 refine vcL_nil ?_
 refine Vc.seq ?_
 refine Vc.seq ?_
 refine Vc.region ?_
 refine vcL_pure rfl rfl (Value.pointer c) (fun w=>by kernel_rfl) ?_
 refine vcL_pure rfl rfl (Value.bool (Option.isNone c)) (fun w=>by cases c <;> kernel_rfl) ?_
 refine vcL_nil ?_
 refine Vc.cond (Option.isNone c) (by kernel_rfl) (fun hb=>?_) (fun hb=>?_)
 ·have h := h.1 (Option.isNone_iff_eq_none.1 hb)
  refine Vc.seq ?_
  refine Vc.region ?_
  refine vcL_purs 2 [(9, (Value.bool false)), (8, (Sl.v Sl.nil))] (by kernel_rfl) ?_
  refine vcL_nil ?_
  refine Vc.ret ?_
  refine outs_ret ?_
  refine done_mk (Value.tuple #[(Sl.v Sl.nil), (Value.bool false)]) (res2 (resC_tmp (by kernel_rfl)) (resC_tmp (by kernel_rfl))) ?_
  exact ⟨Sl.nil, false, rfl, h⟩
 ·have h := h.2 (isNone_false hb)
  refine Vc.skip ?_
  refine Vc.seq ?_
  refine Vc.region ?_
  refine vcL_pure rfl rfl (Value.func (.func 50) #[] #[]) (fun w=>by kernel_rfl) ?_
  refine vcL_nil ?_
  refine Vc.seq ?_
  refine Vc.region ?_
  obtain ⟨zz1h, zz1j, zz1k, zz1l, hc, h⟩ := h
  refine vcL_val rfl rfl (Value.agg #[(Value.string zz1h), (Value.int .i64 zz1j), (Value.int .i64 zz1k), (Value.int .i64 zz1l)]) (exec_load rfl (by kernel_rfl) (run_loadN (fun w=>by kernel_rfl) (fun w=>by kernel_rfl) ((hc)))) ?_
  refine vcL_eff rfl (opVC_new rfl (fun a=>Value.slice (some a) 1 1) (by kernel_rfl) (newS.mono h fun a3 vw4 hx h=>?_))
  refine vcL_pure rfl rfl (Sl.v (Sl.mk (some a3) 1 1)) (fun w=>by kernel_rfl) ?_
  refine vcL_nil ?_
  refine Vc.seq ?_
  refine Vc.region ?_
  refine vcL_pure rfl rfl (Sl.v Sl.nil) (fun w=>by kernel_rfl) ?_
  refine vcL_nil ?_
  refine Vc.seq ?_
  refine Vc.seq ?_
  refine Vc.region ?_
  refine vcL_pure rfl rfl (Value.int .i64 0) (fun w=>by kernel_rfl) ?_
  refine vcL_nil ?_
  refine Vc.block ?_
  obtain ⟨vI92, mu93, h, hr94⟩ := h
  refine Vc.loopJ (σ := Sl × Sl × Int) [11, 12, 13] [8, 9, 14, 15, 17, 18, 23, 24, 25, 26, 27, 28, 29, 30, 31, 32, 33, 34, 35, 36, 37, 38, 39, 40, 41, 42, 43, 44, 45, 46, 47, 48, 49, 50, 51, 52, 53, 54, 55, 56, 57, 58, 59, 60, 61, 62, 63, 64, 65, 66, 67, 68, 69, 70, 71, 72, 73, 74, 75, 76, 77, 78, 79, 80, 81, 82, 83, 84, 85, 86, 87, 88, 89, 90, 91, 92, 93, 94] (fun s=>[(11, (Sl.v s.1)), (12, (Sl.v s.2.1)), (13, (Value.int .i64 s.2.2))]) (fun s w=>vI92 s.1 s.2.1 s.2.2 w) (fun s w=>mu93 s.1 s.2.1 s.2.2 w) ((Sl.mk (some a3) 1 1), Sl.nil, 0) h (fun _ => rfl) (by kernel_rfl) ?_
  rintro ⟨all, context, i⟩ vw5 j h
  have h := hr94 all context i vw5 h
  refine Vc.seq ?_
  refine Vc.seq ?_
  refine Vc.region ?_
  refine vcL_purs 4 [(26, (Value.bool (decide (i < (all.len : Int))))), (25, (Value.int .i64 (all.len : Int))), (24, (Sl.v all)), (23, (Value.int .i64 i))] (by kernel_rfl) ?_
  refine vcL_nil ?_
  refine Vc.cond (decide (i < (all.len : Int))) (by kernel_rfl) (fun hb=>?_) (fun hb=>?_)
  ·have h := h.1 (of_decide_eq_true hb)
   refine Vc.skip ?_
   refine Vc.seq ?_
   refine Vc.block ?_
   obtain ⟨vJ57, hJ58, h⟩ := join_elim h
   refine Vc.seqJ (σ := Addr × Bool) [14, 15] [29, 30, 31, 32, 33, 34, 35, 36, 37, 38, 39, 40, 41, 42, 43] (fun s=>[(14, (Value.pointer (some s.1))), (15, (Value.bool s.2))]) (fun s w=>vJ57 s.1 s.2 w) (fun _ => rfl) ?_ ?_
   ·obtain ⟨vw59, hvw59⟩ : ∃ y, y = vw5.drew := ⟨_, rfl⟩
    have h := h vw59 hvw59
    refine Vc.draw (by kernel_rfl) (fun i=>!(memN [11, 16] i)) (.pur 0 (.pur 1 (.pur 2 (.pur 3 (.pur 4 (.val 5 (.pur 6 (.pur 7 (.pur 8 (.pur 9 (.val 10 (.eff 11 (.pur 12 (.pur 13 (.pur 14 (.eff 15 (.eff 16 (.pur 17 .fin) .stop) .stop)))) (.eff 15 (.eff 11 (.pur 12 (.pur 13 (.pur 14 (.eff 16 (.pur 17 .fin) .stop)))) .stop) .stop))))))))))))) (by kernel_rfl) ?_
    rw [← hvw59]
    clear hvw59
    refine vcS_pure rfl rfl rfl (Value.pointer c) (fun w=>by kernel_rfl) ?_
    refine vcS_pure rfl rfl rfl (Sl.v all) (fun w=>by kernel_rfl) ?_
    refine vcS_pure rfl rfl rfl (Value.int .i64 i) (fun w=>by kernel_rfl) ?_
    obtain ⟨ad60, hi61, h⟩ := h
    refine vcS_pure rfl rfl rfl (Value.pointer (some (ad60.add (i.toNat * 4)))) (fun w=>by exact exec_indexAt (s := all) (el := 32) rfl (by kernel_rfl) (by kernel_rfl) (by kernel_rfl) (fun w=>by kernel_rfl) (hi61).1 (hi61).2.1 (hi61).2.2 w) ?_
    refine vcS_pure rfl rfl rfl (Value.pointer (some (ad60.add (i.toNat * 4)))) (fun w=>by kernel_rfl) ?_
    obtain ⟨t35, hc62, h⟩ := h
    refine vcS_val rfl rfl rfl (Value.string t35) (fun w' hx=>exec_load rfl (by kernel_rfl) (run_load1 (fun w=>by kernel_rfl) ((hc62).ext hx))) ?_
    refine vcS_pure rfl rfl rfl (Sl.v all) (fun w=>by kernel_rfl) ?_
    refine vcS_pure rfl rfl rfl (Value.int .i64 i) (fun w=>by kernel_rfl) ?_
    obtain ⟨ad63, hi64, h⟩ := h
    refine vcS_pure rfl rfl rfl (Value.pointer (some (ad63.add (i.toNat * 4)))) (fun w=>by exact exec_indexAt (s := all) (el := 32) rfl (by kernel_rfl) (by kernel_rfl) (by kernel_rfl) (fun w=>by kernel_rfl) (hi64).1 (hi64).2.1 (hi64).2.2 w) ?_
    refine vcS_pure rfl rfl rfl (Value.pointer (some ((ad63.add (i.toNat * 4)).add 1))) (fun w=>by kernel_rfl) ?_
    obtain ⟨zz4a, zz4b, zz4c, hc65, h⟩ := h
    refine vcS_val rfl rfl rfl (Value.agg #[(Value.int .i64 zz4a), (Value.int .i64 zz4b), (Value.int .i64 zz4c)]) (fun w' hx=>exec_load rfl (by kernel_rfl) (run_loadN (fun w=>by kernel_rfl) (fun w=>by kernel_rfl) ((hc65).ext hx))) ?_
    have h0 := h
    have h := h.1
    refine vcS_eff rfl rfl (opVC_call rfl (by kernel_rfl) (callS.mono h fun v67 vw66 h=>?_)) ?_
    ·obtain ⟨zzh, zzk, zzl, zzm, zzg, zzj, zzi, t41b, rfl, h⟩ := h
     refine ⟨fun hb=>absurd hb (by decide), ?_⟩
     refine vcS_pure rfl rfl rfl (Value.tuple #[(Value.agg #[(Value.string zzh), (Value.int .i64 zzk), (Value.int .i64 zzl), (Value.int .i64 zzm), (Sl.v zzg), (Sl.v zzj), (Sl.v zzi)]), (Value.bool t41b)]) (fun w=>by kernel_rfl) ?_
     refine vcS_pure rfl rfl rfl (Value.agg #[(Value.string zzh), (Value.int .i64 zzk), (Value.int .i64 zzl), (Value.int .i64 zzm), (Sl.v zzg), (Sl.v zzj), (Sl.v zzi)]) (fun w=>by kernel_rfl) ?_
     refine vcS_pure rfl rfl rfl (Value.bool t41b) (fun w=>by kernel_rfl) ?_
     refine vcS_eff rfl rfl (opVC_new rfl (fun a=>Value.pointer (some a)) (by kernel_rfl) (newS.mono h fun a69 vw70 hx h=>?_)) vcS_stop
     refine ⟨fun _ => hx, ?_⟩
     refine vcS_eff rfl rfl (opVC_store rfl rfl (a := a69) (by kernel_rfl) (v := (Value.agg #[(Value.string zzh), (Value.int .i64 zzk), (Value.int .i64 zzl), (Value.int .i64 zzm), (Sl.v zzg), (Sl.v zzj), (Sl.v zzi)])) (by kernel_rfl) [(Value.string zzh), (Value.int .i64 zzk), (Value.int .i64 zzl), (Value.int .i64 zzm), (Sl.v zzg), (Sl.v zzj), (Sl.v zzi)] (by kernel_rfl) (fun w=>by kernel_rfl) (by kernel_rfl) (stw.mono h fun vw71 h=>?_)) vcS_stop
     refine ⟨fun hb=>absurd hb (by decide), ?_⟩
     refine vcS_pure rfl rfl rfl (Value.bool t41b) (fun w=>by kernel_rfl) ?_
     refine vcS_fin ?_
     exact ⟨(a69, t41b), 17, ⟨rfl, by kernel_rfl, by kernel_rfl, by kernel_rfl⟩, h⟩
    have h := h0
    have h0 := h
    have h := h.2
    refine vcS_eff rfl rfl (opVC_new rfl (fun a=>Value.pointer (some a)) (by kernel_rfl) (newS.mono h fun a72 vw73 hx h=>?_)) ?_
    ·refine ⟨fun _ => hx, ?_⟩
     refine vcS_eff rfl rfl (opVC_call rfl (by kernel_rfl) (callS.mono h fun v83 vw74 h=>?_)) vcS_stop
     obtain ⟨zz3b, zz3e, zz3f, zz3g, zz3a, zz3d, zz3c, t41b82, rfl, h⟩ := h
     refine ⟨fun hb=>absurd hb (by decide), ?_⟩
     refine vcS_pure rfl rfl rfl (Value.tuple #[(Value.agg #[(Value.string zz3b), (Value.int .i64 zz3e), (Value.int .i64 zz3f), (Value.int .i64 zz3g), (Sl.v zz3a), (Sl.v zz3d), (Sl.v zz3c)]), (Value.bool t41b82)]) (fun w=>by kernel_rfl) ?_
     refine vcS_pure rfl rfl rfl (Value.agg #[(Value.string zz3b), (Value.int .i64 zz3e), (Value.int .i64 zz3f), (Value.int .i64 zz3g), (Sl.v zz3a), (Sl.v zz3d), (Sl.v zz3c)]) (fun w=>by kernel_rfl) ?_
     refine vcS_pure rfl rfl rfl (Value.bool t41b82) (fun w=>by kernel_rfl) ?_
     refine vcS_eff rfl rfl (opVC_store rfl rfl (a := a72) (by kernel_rfl) (v := (Value.agg #[(Value.string zz3b), (Value.int .i64 zz3e), (Value.int .i64 zz3f), (Value.int .i64 zz3g), (Sl.v zz3a), (Sl.v zz3d), (Sl.v zz3c)])) (by kernel_rfl) [(Value.string zz3b), (Value.int .i64 zz3e), (Value.int .i64 zz3f), (Value.int .i64 zz3g), (Sl.v zz3a), (Sl.v zz3d), (Sl.v zz3c)] (by kernel_rfl) (fun w=>by kernel_rfl) (by kernel_rfl) (stw.mono h fun vw85 h=>?_)) vcS_stop
     refine ⟨fun hb=>absurd hb (by decide), ?_⟩
     refine vcS_pure rfl rfl rfl (Value.bool t41b82) (fun w=>by kernel_rfl) ?_
     refine vcS_fin ?_
     exact ⟨(a72, t41b82), 17, ⟨rfl, by kernel_rfl, by kernel_rfl, by kernel_rfl⟩, h⟩
    have h := h0
    exact vcS_stop
   ·rintro ⟨x, there⟩ vw6 j h
    subst hJ58
    refine Vc.seq ?_
    refine Vc.seq ?_
    refine Vc.region ?_
    refine vcL_purs 2 [(45, (Value.bool (!there))), (44, (Value.bool there))] (by kernel_rfl) ?_
    refine vcL_nil ?_
    refine Vc.cond (!there) (by kernel_rfl) (fun hb=>?_) (fun hb=>?_)
    ·have h := h.1 (hb)
     refine Vc.seq ?_
     refine Vc.region ?_
     refine vcL_purs 2 [(9, (Value.bool false)), (8, (Sl.v Sl.nil))] (by kernel_rfl) ?_
     refine vcL_nil ?_
     refine Vc.ret ?_
     refine outOf_ret ?_
     refine outOf_ret ?_
     refine outs_ret ?_
     refine done_mk (Value.tuple #[(Sl.v Sl.nil), (Value.bool false)]) (res2 (resC_tmp (by kernel_rfl)) (resC_tmp (by kernel_rfl))) ?_
     exact ⟨Sl.nil, false, rfl, h⟩
    ·have h := h.2 (hb)
     refine Vc.skip ?_
     refine Vc.seq ?_
     refine Vc.region ?_
     obtain ⟨zz5u, zz5x, zz5y, zz5z, zz1x, zz5w, zz1y, hc7, h⟩ := h
     refine vcL_val rfl rfl (Value.agg #[(Value.string zz5u), (Value.int .i64 zz5x), (Value.int .i64 zz5y), (Value.int .i64 zz5z), (Sl.v zz1x), (Sl.v zz5w), (Sl.v zz1y)]) (exec_load rfl (by kernel_rfl) (run_loadN (fun w=>by kernel_rfl) (fun w=>by kernel_rfl) ((hc7)))) ?_
     obtain ⟨zz60, zz61, zz63, zz64, hc8, h⟩ := h
     refine vcL_val rfl rfl (Value.agg #[(Sl.v zz60), (Sl.v zz61), (Sl.v zz63), (Sl.v zz64)]) (exec_load rfl (by kernel_rfl) (run_loadN (fun w=>by kernel_rfl) (fun w=>by kernel_rfl) ((hc8)))) ?_
     refine vcL_eff rfl (opVC_call rfl (by kernel_rfl) (callS.mono h fun v vw9 h=>?_))
     obtain ⟨t48, rfl, h⟩ := h
     refine vcL_purs 2 [(50, (Value.int .i64 0)), (49, (Value.int .i64 (t48.len : Int)))] (by kernel_rfl) ?_
     refine vcL_nil ?_
     refine Vc.block ?_
     obtain ⟨vI, mu, h, hr⟩ := h
     refine Vc.loopJ (σ := Sl × Sl × Int) [11, 12, 50] [8, 9, 17, 18, 51, 52, 53, 54, 55, 56, 57, 58, 59, 60, 61, 62, 63, 64, 65, 66, 67, 68, 69, 70, 71, 72, 73, 74, 75, 76, 77, 78, 79, 80, 81, 82, 83, 84, 85, 86, 87, 88, 89, 90, 91, 92, 93, 94] (fun s=>[(11, (Sl.v s.1)), (12, (Sl.v s.2.1)), (50, (Value.int .i64 s.2.2))]) (fun s w=>vI s.1 s.2.1 s.2.2 w) (fun s w=>mu s.1 s.2.1 s.2.2 w) (all, context, 0) h (fun _ => rfl) (by kernel_rfl) ?_
     rintro ⟨all10, context11, t50⟩ vw12 j h
     have h := hr all10 context11 t50 vw12 h
     refine Vc.seq ?_
     refine Vc.region ?_
     refine vcL_pure rfl rfl (Value.bool (decide (t50 < (t48.len : Int)))) (fun w=>by kernel_rfl) ?_
     refine vcL_nil ?_
     refine Vc.seq ?_
     refine Vc.cond (decide (t50 < (t48.len : Int))) (by kernel_rfl) (fun hb=>?_) (fun hb=>?_)
     ·have h := h.1 (of_decide_eq_true hb)
      refine Vc.skip ?_
      obtain ⟨vJ, hJ, h⟩ := join_elim h
      refine Vc.seqJ (σ := Sl × Sl) [11, 12] [8, 9, 17, 18, 52, 53, 54, 55, 56, 57, 58, 59, 60, 61, 62, 63, 64, 65, 66, 67, 68, 69, 70, 71, 72, 73, 74, 75, 76, 77, 78, 79, 80, 81, 82, 83, 84, 85, 86, 87, 88, 89, 90, 91, 92, 93] (fun s=>[(11, (Sl.v s.1)), (12, (Sl.v s.2))]) (fun s w=>vJ s.1 s.2 w) (fun _ => rfl) ?_ ?_
      ·refine Vc.block ?_
       refine Vc.seq ?_
       refine Vc.region ?_
       obtain ⟨ad, hi, h⟩ := h
       refine vcL_pure rfl rfl (Value.pointer (some (ad.add (t50.toNat * 2)))) (fun w=>by exact exec_indexAt (s := t48) (el := 81) rfl (by kernel_rfl) (by kernel_rfl) (by kernel_rfl) (fun w=>by kernel_rfl) (hi).1 (hi).2.1 (hi).2.2 w) ?_
       obtain ⟨zzn, zz3x, hc17, h⟩ := h
       refine vcL_val rfl rfl (Value.agg #[(Value.string zzn), (Sl.v zz3x)]) (exec_load rfl (by kernel_rfl) (run_loadN (fun w=>by kernel_rfl) (fun w=>by kernel_rfl) ((hc17)))) ?_
       refine vcL_eff rfl (opVC_new rfl (fun a=>Value.pointer (some a)) (by kernel_rfl) (newS.mono h fun a18 vw19 hx h=>?_))
       refine vcL_eff rfl (opVC_store rfl rfl (a := a18) (by kernel_rfl) (v := (Value.agg #[(Value.string zzn), (Sl.v zz3x)])) (by kernel_rfl) [(Value.string zzn), (Sl.v zz3x)] (by kernel_rfl) (fun w=>by kernel_rfl) (by kernel_rfl) (stw.mono h fun vw20 h=>?_))
       refine vcL_nil ?_
       refine Vc.seq ?_
       refine Vc.region ?_
       refine vcL_purs 3 [(56, (Value.pointer (some a18))), (55, (Value.func (.func 50) #[] #[])), (54, (Sl.v env))] (by kernel_rfl) ?_
       obtain ⟨t57, hc21, h⟩ := h
       refine vcL_val rfl rfl (Value.string t57) (exec_load rfl (by kernel_rfl) (run_load1 (fun w=>by kernel_rfl) ((hc21)))) ?_
       refine vcL_eff rfl (opVC_call rfl (by kernel_rfl) (callS.mono h fun v23 vw22 h=>?_))
       obtain ⟨t58, rfl, h⟩ := h
       refine vcL_eff rfl (opVC_call rfl (by kernel_rfl) (callS.mono h fun v26 vw25 h=>?_))
       obtain ⟨t59, rfl, h⟩ := h
       refine vcL_pure rfl rfl (Value.int .i64 t59) (fun w=>by kernel_rfl) ?_
       refine vcL_nil ?_
       refine Vc.seq ?_
       refine Vc.seq ?_
       obtain ⟨vw28, hvw28⟩ : ∃ y, y = vw25.drew := ⟨_, rfl⟩
       have h := h vw28 hvw28
       refine Vc.draw (by kernel_rfl) (fun i=>!(memN [10] i)) (.pur 0 (.pur 1 (.pur 2 (.pur 3 (.val 4 (.pur 5 (.pur 6 (.pur 7 (.pur 8 (.val 9 (.eff 10 (.pur 11 (.pur 12 .fin)) .stop))))))))))) (by kernel_rfl) ?_
       rw [← hvw28]
       clear hvw28
       refine vcS_pure rfl rfl rfl (Value.int .i64 t59) (fun w=>by kernel_rfl) ?_
       refine vcS_pure rfl rfl rfl (Value.bool (decide (t59 < 0))) (fun w=>by kernel_rfl) ?_
       obtain ⟨b, hb⟩ : ∃ y, y = (decide (t59 < 0)) := ⟨_, rfl⟩
       have h := h b hb
       refine vcS_pure rfl rfl rfl (Value.bool b) (fun w=>by rw [hb]; kernel_rfl) ?_
       refine vcS_guard rfl (!b) (wanted_g (d := 62) rfl (by kernel_rfl) b (by kernel_rfl) (!b) (eqF b)) rfl (Value.pointer (some (a18.add 1))) (fun hg w=>by simp only [Bool.and_eq_true, Bool.not_eq_true'] at hg; obtain rfl := hg; kernel_rfl) ?_
       obtain ⟨t64, hc29, h⟩ := h
       refine vcS_valG rfl (!b) (wanted_g (d := 62) rfl (by kernel_rfl) b (by kernel_rfl) (!b) (eqF b)) rfl (Sl.v t64) (fun hg w' hx=>by simp only [Bool.and_eq_true, Bool.not_eq_true'] at hg; obtain rfl := hg; exact exec_load rfl (by kernel_rfl) (run_load1 (fun w=>by kernel_rfl) ((hc29 rfl).ext hx))) ?_
       refine vcS_guard rfl (!b) (wanted_g (d := 62) rfl (by kernel_rfl) b (by kernel_rfl) (!b) (eqF b)) rfl (Sl.v env) (fun hg w=>by simp only [Bool.and_eq_true, Bool.not_eq_true'] at hg; obtain rfl := hg; kernel_rfl) ?_
       refine vcS_guard rfl (!b) (wanted_g (d := 62) rfl (by kernel_rfl) b (by kernel_rfl) (!b) (eqF b)) rfl (Value.int .i64 t59) (fun hg w=>by simp only [Bool.and_eq_true, Bool.not_eq_true'] at hg; obtain rfl := hg; kernel_rfl) ?_
       obtain ⟨ad30, hi31, h⟩ := h
       refine vcS_guard rfl (!b) (wanted_g (d := 62) rfl (by kernel_rfl) b (by kernel_rfl) (!b) (eqF b)) rfl (Value.pointer (some (ad30.add (t59.toNat * 4)))) (fun hg w=>by simp only [Bool.and_eq_true, Bool.not_eq_true'] at hg; obtain rfl := hg; exact exec_indexAt (s := env) (el := 32) rfl (by kernel_rfl) (by kernel_rfl) (by kernel_rfl) (fun w=>by kernel_rfl) (hi31 rfl).1 (hi31 rfl).2.1 (hi31 rfl).2.2 w) ?_
       refine vcS_guard rfl (!b) (wanted_g (d := 62) rfl (by kernel_rfl) b (by kernel_rfl) (!b) (eqF b)) rfl (Value.pointer (some ((ad30.add (t59.toNat * 4)).add 1))) (fun hg w=>by simp only [Bool.and_eq_true, Bool.not_eq_true'] at hg; obtain rfl := hg; kernel_rfl) ?_
       obtain ⟨zz6a, zz6b, zz6c, hc32, h⟩ := h
       refine vcS_valG rfl (!b) (wanted_g (d := 62) rfl (by kernel_rfl) b (by kernel_rfl) (!b) (eqF b)) rfl (Value.agg #[(Value.int .i64 zz6a), (Value.int .i64 zz6b), (Value.int .i64 zz6c)]) (fun hg w' hx=>by simp only [Bool.and_eq_true, Bool.not_eq_true'] at hg; obtain rfl := hg; exact exec_load rfl (by kernel_rfl) (run_loadN (fun w=>by kernel_rfl) (fun w=>by kernel_rfl) ((hc32 rfl).ext hx))) ?_
       obtain ⟨vJ36, hJ37, h⟩ := gCall_elim h
       refine vcS_effJ (σ := Bool) rfl (!b) (wanted_g (d := 62) rfl (by kernel_rfl) b (by kernel_rfl) (!b) (eqF b)) rfl (fun s w=>vJ36 s w) (fun s=>(Value.bool s)) ?_ (fun hg=>opVC_call rfl (by simp only [Bool.and_eq_true, Bool.not_eq_true'] at hg; obtain rfl := hg; kernel_rfl) (callS.mono (h.1 hg) fun v34 vw33 hq=>?_)) (fun hg=>⟨false, h.2 hg⟩) vcS_stop
       ·intro t70 vw33 h
        subst hJ37
        refine vcS_guard rfl (!b) (wanted_g (d := 62) rfl (by kernel_rfl) b (by kernel_rfl) (!b) (eqF b)) rfl (Value.bool (!t70)) (fun hg w=>by simp only [Bool.and_eq_true, Bool.not_eq_true'] at hg; obtain rfl := hg; kernel_rfl) ?_
        refine vcS_pure rfl rfl rfl (Value.bool (b || (!t70))) (fun w=>by cases b <;> kernel_rfl) ?_
        refine vcS_fin ?_
        refine Vc.cond (b || (!t70)) (by kernel_rfl) (fun hb=>?_) (fun hb=>?_)
        ·have h := h.1 (hb)
         refine Vc.seq ?_
         refine Vc.region ?_
         refine vcL_purs 2 [(9, (Value.bool false)), (8, (Sl.v Sl.nil))] (by kernel_rfl) ?_
         refine vcL_nil ?_
         refine Vc.ret ?_
         refine outOf_ret ?_
         refine outOf_ret ?_
         refine outOf_ret ?_
         refine outOf_ret ?_
         refine outs_ret ?_
         refine done_mk (Value.tuple #[(Sl.v Sl.nil), (Value.bool false)]) (res2 (resC_tmp (by kernel_rfl)) (resC_tmp (by kernel_rfl))) ?_
         exact ⟨Sl.nil, false, rfl, h⟩
        ·have h := h.2 (hb)
         refine Vc.skip ?_
         refine Vc.seq ?_
         refine Vc.region ?_
         refine vcL_purs 3 [(75, (Value.pointer (some a18))), (74, (Value.func (.func 50) #[] #[])), (73, (Sl.v context11))] (by kernel_rfl) ?_
         obtain ⟨t76, hc38, h⟩ := h
         refine vcL_val rfl rfl (Value.string t76) (exec_load rfl (by kernel_rfl) (run_load1 (fun w=>by kernel_rfl) ((hc38)))) ?_
         refine vcL_eff rfl (opVC_call rfl (by kernel_rfl) (callS.mono h fun v40 vw39 h=>?_))
         obtain ⟨t77, rfl, h⟩ := h
         refine vcL_eff rfl (opVC_call rfl (by kernel_rfl) (callS.mono h fun v43 vw42 h=>?_))
         obtain ⟨t78, rfl, h⟩ := h
         refine vcL_pure rfl rfl (Value.bool (!t78)) (fun w=>by kernel_rfl) ?_
         refine vcL_nil ?_
         refine Vc.cond (!t78) (by kernel_rfl) (fun hb=>?_) (fun hb=>?_)
         ·have h := h.1 (hb)
          refine Vc.seq ?_
          refine Vc.region ?_
          refine vcL_purs 3 [(82, (Value.int .i64 t59)), (81, (Sl.v env)), (80, (Sl.v context11))] (by kernel_rfl) ?_
          obtain ⟨ad45, hi46, h⟩ := h
          refine vcL_pure rfl rfl (Value.pointer (some (ad45.add (t59.toNat * 4)))) (fun w=>by exact exec_indexAt (s := env) (el := 32) rfl (by kernel_rfl) (by kernel_rfl) (by kernel_rfl) (fun w=>by kernel_rfl) (hi46).1 (hi46).2.1 (hi46).2.2 w) ?_
          obtain ⟨zz6d, zz6e, zz6f, zz6g, hc47, h⟩ := h
          refine vcL_val rfl rfl (Value.agg #[(Value.string zz6d), (Value.int .i64 zz6e), (Value.int .i64 zz6f), (Value.int .i64 zz6g)]) (exec_load rfl (by kernel_rfl) (run_loadN (fun w=>by kernel_rfl) (fun w=>by kernel_rfl) ((hc47)))) ?_
          refine vcL_eff rfl (opVC_new rfl (fun a=>Value.slice (some a) 1 1) (by kernel_rfl) (newS.mono h fun a48 vw49 hx h=>?_))
          refine vcL_eff rfl (opVC_sem rfl (c := Builtin.append_ #[28, 28] 28 #[(Sl.v context11), (Sl.v (Sl.mk (some a48) 1 1))]) (by kernel_rfl) (appS.elim (ty := 28) h fun t86 vw50 h=>?_))
          refine vcL_pure rfl rfl (Sl.v t86) (fun w=>by kernel_rfl) ?_
          refine vcL_nil ?_
          refine Vc.region ?_
          refine vcL_purs 3 [(89, (Value.int .i64 t59)), (88, (Sl.v env)), (87, (Sl.v all10))] (by kernel_rfl) ?_
          obtain ⟨ad51, hi52, h⟩ := h
          refine vcL_pure rfl rfl (Value.pointer (some (ad51.add (t59.toNat * 4)))) (fun w=>by exact exec_indexAt (s := env) (el := 32) rfl (by kernel_rfl) (by kernel_rfl) (by kernel_rfl) (fun w=>by kernel_rfl) (hi52).1 (hi52).2.1 (hi52).2.2 w) ?_
          obtain ⟨zz6o, zz6p, zz6q, zz6r, hc53, h⟩ := h
          refine vcL_val rfl rfl (Value.agg #[(Value.string zz6o), (Value.int .i64 zz6p), (Value.int .i64 zz6q), (Value.int .i64 zz6r)]) (exec_load rfl (by kernel_rfl) (run_loadN (fun w=>by kernel_rfl) (fun w=>by kernel_rfl) ((hc53)))) ?_
          refine vcL_eff rfl (opVC_new rfl (fun a=>Value.slice (some a) 1 1) (by kernel_rfl) (newS.mono h fun a54 vw55 hx h=>?_))
          refine vcL_eff rfl (opVC_sem rfl (c := Builtin.append_ #[28, 28] 28 #[(Sl.v all10), (Sl.v (Sl.mk (some a54) 1 1))]) (by kernel_rfl) (appS.elim (ty := 28) h fun t93 vw56 h=>?_))
          refine vcL_pure rfl rfl (Sl.v t93) (fun w=>by kernel_rfl) ?_
          refine vcL_nil ?_
          exact ⟨(t93, t86), 46, ⟨rfl, by kernel_rfl, by kernel_rfl, by kernel_rfl⟩, h⟩
         ·have h := h.2 (hb)
          refine Vc.skip ?_
          exact ⟨(all10, context11), 30, ⟨rfl, by kernel_rfl, by kernel_rfl, by kernel_rfl⟩, h⟩
       ·obtain ⟨t70, rfl, hq⟩ := hq
        exact ⟨fun hb=>absurd hb (by decide), t70, rfl, hq⟩
      ·rintro ⟨all14, context15⟩ vw16 j h
       subst hJ
       refine Vc.region ?_
       refine vcL_purs 2 [(50, (Value.int .i64 (wrapI (t50 + 1)))), (94, (Value.int .i64 (wrapI (t50 + 1))))] (by kernel_rfl) ?_
       refine vcL_nil ?_
       exact ⟨(all14, context15, (wrapI (t50 + 1))), 102, ⟨rfl, by kernel_rfl, by kernel_rfl, by kernel_rfl⟩, h⟩
     ·have h := h.2 (of_decide_eq_false hb)
      refine Vc.exit ?_
      refine outOf_hit ?_
      refine Vc.region ?_
      refine vcL_purs 3 [(13, (Value.int .i64 (wrapI (i + 1)))), (28, (Value.int .i64 (wrapI (i + 1)))), (27, (Value.int .i64 i))] (by kernel_rfl) ?_
      refine vcL_nil ?_
      exact ⟨(all10, context11, (wrapI (i + 1))), 164, ⟨rfl, by kernel_rfl, by kernel_rfl, by kernel_rfl⟩, h⟩
  ·have h := h.2 (of_decide_eq_false hb)
   refine Vc.exit ?_
   refine outOf_hit ?_
   refine Vc.seq ?_
   refine Vc.region ?_
   refine vcL_pure rfl rfl (Sl.v context) (fun w=>by kernel_rfl) ?_
   refine vcL_eff rfl (opVC_call rfl (by kernel_rfl) (callS.mono h fun v87 vw86 h=>?_))
   obtain ⟨rfl, h⟩ := h
   refine vcL_nil ?_
   refine Vc.seq ?_
   refine Vc.region ?_
   refine vcL_pure rfl rfl (Sl.v context) (fun w=>by kernel_rfl) ?_
   refine vcL_eff rfl (opVC_call rfl (by kernel_rfl) (callS.mono h fun v90 vw89 h=>?_))
   obtain ⟨t98, rfl, h⟩ := h
   refine vcL_purs 2 [(9, (Value.bool true)), (8, (Sl.v t98))] (by kernel_rfl) ?_
   refine vcL_nil ?_
   refine Vc.ret ?_
   refine outs_ret ?_
   refine done_mk (Value.tuple #[(Sl.v t98), (Value.bool true)]) (res2 (resC_tmp (by kernel_rfl)) (resC_tmp (by kernel_rfl))) ?_
   exact ⟨t98, true, rfl, h⟩
theorem wants_Context.go {c : Option Addr} {zz0 : Sl} {zz1 : Sl} {zz2 : Sl} {zz3 : Sl} {env : Sl} {zz4 : ByteArray} {zz5 : Int} {zz6 : Int} {zz7 : Int} {w : World} {k : Value → World → Prop} (h : wants_Context c zz0 zz1 zz2 zz3 env zz4 zz5 zz6 zz7 w fun r0 r1 w'=>k (Value.tuple #[(Sl.v r0), (Value.bool r1)]) w') : callS Tryz.prog 13 [(Value.pointer c), (Value.agg #[(Sl.v zz0), (Sl.v zz1), (Sl.v zz2), (Sl.v zz3)]), (Sl.v env), (Value.agg #[(Value.string zz4), (Value.int .i64 zz5), (Value.int .i64 zz6), (Value.int .i64 zz7)])] w k := (wants_Context.sound c zz0 zz1 zz2 zz3 env zz4 zz5 zz6 zz7 w _ h).mono (by rintro _ _ ⟨r0, r1, rfl, h⟩; exact h)
def catalog_New (w : World) (R : Option Addr → World → Prop) : Prop :=
 semS Tryz.prog (Instr.makeMap 101 none) w fun v vw=>∃ (t1 : Option Nat), v = (Value.map t1) ∧ newS vw [(Value.map t1)] 103 fun a vw1=>R (some a) vw1
set_option maxHeartbeats 8000000 in
theorem catalog_New.sound (w : World) (R : Option Addr → World → Prop) (h : catalog_New w R) : callS Tryz.prog 16 [] w (fun v w'=>∃ (r0 : Option Addr), v = (Value.pointer r0) ∧ R r0 w') := by
 unfold catalog_New at h
 refine calls_of_vc 4 rfl Tryz.func16 rfl (by kernel_rfl) (by simp) ?_
 refine Vc.seq ?_
 refine Vc.region ?_
 refine vcL_pure rfl rfl (Value.pointer none) (fun w=>by kernel_rfl) ?_
 refine vcL_nil ?_
 refine Vc.seq ?_
 refine Vc.region ?_
 refine vcL_eff rfl (opVC_sem rfl (c := Instr.makeMap 101 none) (by kernel_rfl) (semS.mono h fun v vw h=>?_))
 obtain ⟨t1, rfl, h⟩ := h
 refine vcL_pure rfl rfl (Value.agg #[(Value.map t1)]) (fun w=>by kernel_rfl) ?_
 refine vcL_eff rfl (opVC_new rfl (fun a=>Value.pointer (some a)) (by kernel_rfl) (newS.mono h fun a vw1 hx h=>?_))
 refine vcL_pure rfl rfl (Value.pointer (some a)) (fun w=>by kernel_rfl) ?_
 refine vcL_nil ?_
 refine Vc.ret ?_
 refine outs_ret ?_
 refine done_mk (Value.pointer (some a)) (res1 (resC_tmp (by kernel_rfl))) ?_
 exact ⟨(some a), rfl, h⟩
theorem catalog_New.go {w : World} {k : Value → World → Prop} (h : catalog_New w fun r0 w'=>k (Value.pointer r0) w') : callS Tryz.prog 16 [] w k := (catalog_New.sound w _ h).mono (by rintro _ _ ⟨r0, rfl, h⟩; exact h)
def catalog_Catalog_Put (c : Option Addr) (zz4 : ByteArray) (zz5 : Int) (zz6 : Int) (zz7 : Int) (zz8 : Sl) (zza : Sl) (zz9 : Sl) (w : World) (R : Int → World → Prop) : Prop :=
 newS w [(Value.string zz4), (Value.int .i64 zz5), (Value.int .i64 zz6), (Value.int .i64 zz7), (Sl.v zz8), (Sl.v zza), (Sl.v zz9)] 48 fun a vw=>∃ (zz6i : ByteArray) (zz6l : Int) (zz6m : Int) (zz6n : Int) (zz6h : Sl) (zz6k : Sl) (zz6j : Sl), (ldc vw a [(Value.string zz6i), (Value.int .i64 zz6l), (Value.int .i64 zz6m), (Value.int .i64 zz6n), (Sl.v zz6h), (Sl.v zz6k), (Sl.v zz6j)]) ∧ callS Tryz.prog 61 [(Value.agg #[(Value.string zz6i), (Value.int .i64 zz6l), (Value.int .i64 zz6m), (Value.int .i64 zz6n), (Sl.v zz6h), (Sl.v zz6k), (Sl.v zz6j)])] vw fun v vw1=>∃ (t9 : Bool), v = (Value.bool t9) ∧ (((!t9) = true → R 24 vw1) ∧ ((!t9) = false → ∃ (t12 : ByteArray), (ldc vw1 a [(Value.string t12)]) ∧ ∃ (zzv : Int) (zzw : Int) (zzx : Int), (ldc vw1 (a.add 1) [(Value.int .i64 zzv), (Value.int .i64 zzw), (Value.int .i64 zzx)]) ∧ newS vw1 [(Value.string (ByteArray.mk #[])), (Value.int .i64 0), (Value.int .i64 0), (Value.int .i64 0)] 106 fun a4 vw5=>stw vw5 a4 [(Value.string t12), (Value.int .i64 zzv), (Value.int .i64 zzw), (Value.int .i64 zzx)] fun vw6=>bnd vw6.drew fun (vw7 : World)=>∃ (p : Addr), (c = some p) ∧ ∃ (t20 : Option Nat), (ldc vw7 p [(Value.map t20)]) ∧ ∃ (t21_name : ByteArray) (zz44 : Int) (zz45 : Int) (zz46 : Int), (ldc vw7 a4 [(Value.string t21_name), (Value.int .i64 zz44), (Value.int .i64 zz45), (Value.int .i64 zz46)]) ∧ ∃ (zzp : ByteArray) (zzs : Int) (zzt : Int) (zzu : Int) (zzo : Sl) (zzr : Sl) (zzq : Sl) (t22b : Bool), (stabS Tryz.prog (Instr.lookup 101 (Value.map t20) (Value.agg #[(Value.string t21_name), (Value.int .i64 zz44), (Value.int .i64 zz45), (Value.int .i64 zz46)]) true) vw7 (Value.tuple #[(Value.agg #[(Value.string zzp), (Value.int .i64 zzs), (Value.int .i64 zzt), (Value.int .i64 zzu), (Sl.v zzo), (Sl.v zzr), (Sl.v zzq)]), (Value.bool t22b)])) ∧ newS vw7 [(Value.string (ByteArray.mk #[])), (Value.int .i64 0), (Value.int .i64 0), (Value.int .i64 0), (Sl.v Sl.nil), (Sl.v Sl.nil), (Sl.v Sl.nil)] 48 fun a12 vw13=>stw vw13 a12 [(Value.string zzp), (Value.int .i64 zzs), (Value.int .i64 zzt), (Value.int .i64 zzu), (Sl.v zzo), (Sl.v zzr), (Sl.v zzq)] fun vw14=>((t22b = true → R 11 vw14) ∧ (t22b = false → ∃ (p15 : Addr), (c = some p15) ∧ ∃ (t29 : Option Nat), (ldc vw14 p15 [(Value.map t29)]) ∧ ∃ (t30 : Int), (stabS Tryz.prog (Builtin.len_ #[101] 3 #[(Value.map t29)]) vw14 (Value.int .i64 t30)) ∧ ((128 ≤ t30 → R 26 vw14) ∧ (¬ (128 ≤ t30) → bnd vw14.drew fun (vw19 : World)=>∃ (p20 : Addr), (c = some p20) ∧ ∃ (t35 : Option Nat), (ldc vw19 p20 [(Value.map t35)]) ∧ ∃ (t36_name : ByteArray) (zz47 : Int) (zz48 : Int) (zz49 : Int), (ldc vw19 a4 [(Value.string t36_name), (Value.int .i64 zz47), (Value.int .i64 zz48), (Value.int .i64 zz49)]) ∧ ∃ (zz1r : ByteArray) (zz1u : Int) (zz1v : Int) (zz1w : Int) (zz1q : Sl) (zz1t : Sl) (zz1s : Sl), (ldc vw19 a [(Value.string zz1r), (Value.int .i64 zz1u), (Value.int .i64 zz1v), (Value.int .i64 zz1w), (Sl.v zz1q), (Sl.v zz1t), (Sl.v zz1s)]) ∧ callX Tryz.prog 62 [(Value.agg #[(Value.string zz1r), (Value.int .i64 zz1u), (Value.int .i64 zz1v), (Value.int .i64 zz1w), (Sl.v zz1q), (Sl.v zz1t), (Sl.v zz1s)])] vw19 fun v26 vw25=>∃ (zz5j : ByteArray) (zz5m : Int) (zz5n : Int) (zz5o : Int) (zz5i : Sl) (zz5l : Sl) (zz5k : Sl), v26 = (Value.agg #[(Value.string zz5j), (Value.int .i64 zz5m), (Value.int .i64 zz5n), (Value.int .i64 zz5o), (Sl.v zz5i), (Sl.v zz5l), (Sl.v zz5k)]) ∧ semU Tryz.prog (Instr.mapUpdate 101 (Value.map t35) (Value.agg #[(Value.string t36_name), (Value.int .i64 zz47), (Value.int .i64 zz48), (Value.int .i64 zz49)]) (Value.agg #[(Value.string zz5j), (Value.int .i64 zz5m), (Value.int .i64 zz5n), (Value.int .i64 zz5o), (Sl.v zz5i), (Sl.v zz5l), (Sl.v zz5k)])) vw25 fun vw28=>R 0 vw28))))))
set_option maxHeartbeats 8000000 in
theorem catalog_Catalog_Put.sound (c : Option Addr) (zz4 : ByteArray) (zz5 : Int) (zz6 : Int) (zz7 : Int) (zz8 : Sl) (zza : Sl) (zz9 : Sl) (w : World) (R : Int → World → Prop) (h : catalog_Catalog_Put c zz4 zz5 zz6 zz7 zz8 zza zz9 w R) : callS Tryz.prog 19 [(Value.pointer c), (Value.agg #[(Value.string zz4), (Value.int .i64 zz5), (Value.int .i64 zz6), (Value.int .i64 zz7), (Sl.v zz8), (Sl.v zza), (Sl.v zz9)])] w (fun v w'=>∃ (r0 : Int), v = (Value.int .i64 r0) ∧ R r0 w') := by
 unfold catalog_Catalog_Put at h
 refine calls_of_vc 39 rfl Tryz.func19 rfl (by kernel_rfl) (by simp) ?_
 refine Vc.seq ?_
 refine Vc.region ?_
 refine vcL_eff rfl (opVC_new rfl (fun a=>Value.pointer (some a)) (by kernel_rfl) (newS.mono h fun a vw hx h=>?_))
 refine vcL_pure rfl rfl (Value.int .i64 0) (fun w=>by kernel_rfl) ?_
 refine vcL_nil ?_
 refine Vc.seq ?_
 refine Vc.seq ?_
 refine Vc.region ?_
 obtain ⟨zz6i, zz6l, zz6m, zz6n, zz6h, zz6k, zz6j, hc, h⟩ := h
 refine vcL_val rfl rfl (Value.agg #[(Value.string zz6i), (Value.int .i64 zz6l), (Value.int .i64 zz6m), (Value.int .i64 zz6n), (Sl.v zz6h), (Sl.v zz6k), (Sl.v zz6j)]) (exec_load rfl (by kernel_rfl) (run_loadN (fun w=>by kernel_rfl) (fun w=>by kernel_rfl) ((hc)))) ?_
 refine vcL_eff rfl (opVC_call rfl (by kernel_rfl) (callS.mono h fun v vw1 h=>?_))
 obtain ⟨t9, rfl, h⟩ := h
 refine vcL_pure rfl rfl (Value.bool (!t9)) (fun w=>by kernel_rfl) ?_
 refine vcL_nil ?_
 refine Vc.cond (!t9) (by kernel_rfl) (fun hb=>?_) (fun hb=>?_)
 ·have h := h.1 (hb)
  refine Vc.seq ?_
  refine Vc.region ?_
  refine vcL_pure rfl rfl (Value.int .i64 24) (fun w=>by kernel_rfl) ?_
  refine vcL_nil ?_
  refine Vc.ret ?_
  refine outs_ret ?_
  refine done_mk (Value.int .i64 24) (res1 (resC_tmp (by kernel_rfl))) ?_
  exact ⟨24, rfl, h⟩
 ·have h := h.2 (hb)
  refine Vc.skip ?_
  refine Vc.seq ?_
  refine Vc.region ?_
  refine vcL_pure rfl rfl (Value.pointer (some a)) (fun w=>by kernel_rfl) ?_
  obtain ⟨t12, hc2, h⟩ := h
  refine vcL_val rfl rfl (Value.string t12) (exec_load rfl (by kernel_rfl) (run_load1 (fun w=>by kernel_rfl) ((hc2)))) ?_
  refine vcL_pure rfl rfl (Value.pointer (some (a.add 1))) (fun w=>by kernel_rfl) ?_
  obtain ⟨zzv, zzw, zzx, hc3, h⟩ := h
  refine vcL_val rfl rfl (Value.agg #[(Value.int .i64 zzv), (Value.int .i64 zzw), (Value.int .i64 zzx)]) (exec_load rfl (by kernel_rfl) (run_loadN (fun w=>by kernel_rfl) (fun w=>by kernel_rfl) ((hc3)))) ?_
  refine vcL_pure rfl rfl (Value.agg #[(Value.string t12), (Value.int .i64 zzv), (Value.int .i64 zzw), (Value.int .i64 zzx)]) (fun w=>by kernel_rfl) ?_
  refine vcL_eff rfl (opVC_new rfl (fun a=>Value.pointer (some a)) (by kernel_rfl) (newS.mono h fun a4 vw5 hx h=>?_))
  refine vcL_eff rfl (opVC_store rfl rfl (a := a4) (by kernel_rfl) (v := (Value.agg #[(Value.string t12), (Value.int .i64 zzv), (Value.int .i64 zzw), (Value.int .i64 zzx)])) (by kernel_rfl) [(Value.string t12), (Value.int .i64 zzv), (Value.int .i64 zzw), (Value.int .i64 zzx)] (by kernel_rfl) (fun w=>by kernel_rfl) (by kernel_rfl) (stw.mono h fun vw6 h=>?_))
  refine vcL_nil ?_
  refine Vc.seq ?_
  refine Vc.seq ?_
  obtain ⟨vw7, hvw7⟩ : ∃ y, y = vw6.drew := ⟨_, rfl⟩
  have h := h vw7 hvw7
  refine Vc.draw (by kernel_rfl) (fun i=>!(memN [10] i)) (.pur 0 (.pur 1 (.pur 2 (.val 3 (.val 4 (.val 5 (.pur 6 (.pur 7 (.pur 8 (.eff 9 (.eff 10 (.pur 11 .fin) .stop) .stop)))))))))) (by kernel_rfl) ?_
  rw [← hvw7]
  clear hvw7
  refine vcS_pure rfl rfl rfl (Value.pointer c) (fun w=>by kernel_rfl) ?_
  obtain ⟨p, hp, h⟩ := h
  refine vcS_pure rfl rfl rfl (Value.pointer (some p)) (fun w=>by exact exec_nilCheck rfl (by kernel_rfl) (hp) w) ?_
  refine vcS_pure rfl rfl rfl (Value.pointer (some p)) (fun w=>by kernel_rfl) ?_
  obtain ⟨t20, hc8, h⟩ := h
  refine vcS_val rfl rfl rfl (Value.map t20) (fun w' hx=>exec_load rfl (by kernel_rfl) (run_load1 (fun w=>by kernel_rfl) ((hc8).ext hx))) ?_
  obtain ⟨t21_name, zz44, zz45, zz46, hc9, h⟩ := h
  refine vcS_val rfl rfl rfl (Value.agg #[(Value.string t21_name), (Value.int .i64 zz44), (Value.int .i64 zz45), (Value.int .i64 zz46)]) (fun w' hx=>exec_load rfl (by kernel_rfl) (run_loadN (fun w=>by kernel_rfl) (fun w=>by kernel_rfl) ((hc9).ext hx))) ?_
  obtain ⟨zzp, zzs, zzt, zzu, zzo, zzr, zzq, t22b, hl, h⟩ := h
  refine vcS_val rfl rfl rfl (Value.tuple #[(Value.agg #[(Value.string zzp), (Value.int .i64 zzs), (Value.int .i64 zzt), (Value.int .i64 zzu), (Sl.v zzo), (Sl.v zzr), (Sl.v zzq)]), (Value.bool t22b)]) (fun w' hx=>exec_sem (c := Instr.lookup 101 (Value.map t20) (Value.agg #[(Value.string t21_name), (Value.int .i64 zz44), (Value.int .i64 zz45), (Value.int .i64 zz46)]) true) (by kernel_rfl) ((hl) _ hx)) ?_
  refine vcS_pure rfl rfl rfl (Value.tuple #[(Value.agg #[(Value.string zzp), (Value.int .i64 zzs), (Value.int .i64 zzt), (Value.int .i64 zzu), (Sl.v zzo), (Sl.v zzr), (Sl.v zzq)]), (Value.bool t22b)]) (fun w=>by kernel_rfl) ?_
  refine vcS_pure rfl rfl rfl (Value.agg #[(Value.string zzp), (Value.int .i64 zzs), (Value.int .i64 zzt), (Value.int .i64 zzu), (Sl.v zzo), (Sl.v zzr), (Sl.v zzq)]) (fun w=>by kernel_rfl) ?_
  refine vcS_pure rfl rfl rfl (Value.bool t22b) (fun w=>by kernel_rfl) ?_
  refine vcS_eff rfl rfl (opVC_new rfl (fun a=>Value.pointer (some a)) (by kernel_rfl) (newS.mono h fun a12 vw13 hx h=>?_)) vcS_stop
  refine ⟨fun _ => hx, ?_⟩
  refine vcS_eff rfl rfl (opVC_store rfl rfl (a := a12) (by kernel_rfl) (v := (Value.agg #[(Value.string zzp), (Value.int .i64 zzs), (Value.int .i64 zzt), (Value.int .i64 zzu), (Sl.v zzo), (Sl.v zzr), (Sl.v zzq)])) (by kernel_rfl) [(Value.string zzp), (Value.int .i64 zzs), (Value.int .i64 zzt), (Value.int .i64 zzu), (Sl.v zzo), (Sl.v zzr), (Sl.v zzq)] (by kernel_rfl) (fun w=>by kernel_rfl) (by kernel_rfl) (stw.mono h fun vw14 h=>?_)) vcS_stop
  refine ⟨fun hb=>absurd hb (by decide), ?_⟩
  refine vcS_pure rfl rfl rfl (Value.bool t22b) (fun w=>by kernel_rfl) ?_
  refine vcS_fin ?_
  refine Vc.seq ?_
  refine Vc.region ?_
  refine vcL_pure rfl rfl (Value.bool t22b) (fun w=>by kernel_rfl) ?_
  refine vcL_nil ?_
  refine Vc.cond t22b (by kernel_rfl) (fun hb=>?_) (fun hb=>?_)
  ·have h := h.1 (hb)
   refine Vc.seq ?_
   refine Vc.region ?_
   refine vcL_pure rfl rfl (Value.int .i64 11) (fun w=>by kernel_rfl) ?_
   refine vcL_nil ?_
   refine Vc.ret ?_
   refine outs_ret ?_
   refine done_mk (Value.int .i64 11) (res1 (resC_tmp (by kernel_rfl))) ?_
   exact ⟨11, rfl, h⟩
  ·have h := h.2 (hb)
   refine Vc.skip ?_
   refine Vc.seq ?_
   refine Vc.seq ?_
   refine Vc.region ?_
   refine vcL_pure rfl rfl (Value.pointer c) (fun w=>by kernel_rfl) ?_
   obtain ⟨p15, hp16, h⟩ := h
   refine vcL_pure rfl rfl (Value.pointer (some p15)) (fun w=>by exact exec_nilCheck rfl (by kernel_rfl) (hp16) w) ?_
   refine vcL_pure rfl rfl (Value.pointer (some p15)) (fun w=>by kernel_rfl) ?_
   obtain ⟨t29, hc17, h⟩ := h
   refine vcL_val rfl rfl (Value.map t29) (exec_load rfl (by kernel_rfl) (run_load1 (fun w=>by kernel_rfl) ((hc17)))) ?_
   obtain ⟨t30, hl18, h⟩ := h
   refine vcL_val rfl rfl (Value.int .i64 t30) (exec_sem (c := Builtin.len_ #[101] 3 #[(Value.map t29)]) (by kernel_rfl) ((hl18) _ (Ext.refl _))) ?_
   refine vcL_pure rfl rfl (Value.bool (decide (128 ≤ t30))) (fun w=>by kernel_rfl) ?_
   refine vcL_nil ?_
   refine Vc.cond (decide (128 ≤ t30)) (by kernel_rfl) (fun hb=>?_) (fun hb=>?_)
   ·have h := h.1 (of_decide_eq_true hb)
    refine Vc.seq ?_
    refine Vc.region ?_
    refine vcL_pure rfl rfl (Value.int .i64 26) (fun w=>by kernel_rfl) ?_
    refine vcL_nil ?_
    refine Vc.ret ?_
    refine outs_ret ?_
    refine done_mk (Value.int .i64 26) (res1 (resC_tmp (by kernel_rfl))) ?_
    exact ⟨26, rfl, h⟩
   ·have h := h.2 (of_decide_eq_false hb)
    refine Vc.skip ?_
    refine Vc.seq ?_
    obtain ⟨vw19, hvw19⟩ : ∃ y, y = vw14.drew := ⟨_, rfl⟩
    have h := h vw19 hvw19
    refine Vc.draw (by kernel_rfl) (fun i=>!(memN [7] i)) (.pur 0 (.pur 1 (.pur 2 (.val 3 (.val 4 (.val 5 (.eff 6 (.eff 7 .fin .stop) .stop))))))) (by kernel_rfl) ?_
    rw [← hvw19]
    clear hvw19
    refine vcS_pure rfl rfl rfl (Value.pointer c) (fun w=>by kernel_rfl) ?_
    obtain ⟨p20, hp21, h⟩ := h
    refine vcS_pure rfl rfl rfl (Value.pointer (some p20)) (fun w=>by exact exec_nilCheck rfl (by kernel_rfl) (hp21) w) ?_
    refine vcS_pure rfl rfl rfl (Value.pointer (some p20)) (fun w=>by kernel_rfl) ?_
    obtain ⟨t35, hc22, h⟩ := h
    refine vcS_val rfl rfl rfl (Value.map t35) (fun w' hx=>exec_load rfl (by kernel_rfl) (run_load1 (fun w=>by kernel_rfl) ((hc22).ext hx))) ?_
    obtain ⟨t36_name, zz47, zz48, zz49, hc23, h⟩ := h
    refine vcS_val rfl rfl rfl (Value.agg #[(Value.string t36_name), (Value.int .i64 zz47), (Value.int .i64 zz48), (Value.int .i64 zz49)]) (fun w' hx=>exec_load rfl (by kernel_rfl) (run_loadN (fun w=>by kernel_rfl) (fun w=>by kernel_rfl) ((hc23).ext hx))) ?_
    obtain ⟨zz1r, zz1u, zz1v, zz1w, zz1q, zz1t, zz1s, hc24, h⟩ := h
    refine vcS_val rfl rfl rfl (Value.agg #[(Value.string zz1r), (Value.int .i64 zz1u), (Value.int .i64 zz1v), (Value.int .i64 zz1w), (Sl.v zz1q), (Sl.v zz1t), (Sl.v zz1s)]) (fun w' hx=>exec_load rfl (by kernel_rfl) (run_loadN (fun w=>by kernel_rfl) (fun w=>by kernel_rfl) ((hc24).ext hx))) ?_
    refine vcS_eff rfl rfl (opVC_call rfl (by kernel_rfl) (callS.mono h fun v26 vw25 h=>?_)) vcS_stop
    obtain ⟨hx27, h⟩ := h
    obtain ⟨zz5j, zz5m, zz5n, zz5o, zz5i, zz5l, zz5k, rfl, h⟩ := h
    refine ⟨fun _ => hx27, ?_⟩
    refine vcS_eff rfl rfl (opVC_semU rfl (c := Instr.mapUpdate 101 (Value.map t35) (Value.agg #[(Value.string t36_name), (Value.int .i64 zz47), (Value.int .i64 zz48), (Value.int .i64 zz49)]) (Value.agg #[(Value.string zz5j), (Value.int .i64 zz5m), (Value.int .i64 zz5n), (Value.int .i64 zz5o), (Sl.v zz5i), (Sl.v zz5l), (Sl.v zz5k)])) (by kernel_rfl) (semU.mono h fun vw28 h=>?_)) vcS_stop
    refine ⟨fun hb=>absurd hb (by decide), ?_⟩
    refine vcS_fin ?_
    refine Vc.seq ?_
    refine Vc.region ?_
    refine vcL_pure rfl rfl (Value.int .i64 0) (fun w=>by kernel_rfl) ?_
    refine vcL_nil ?_
    refine Vc.ret ?_
    refine outs_ret ?_
    refine done_mk (Value.int .i64 0) (res1 (resC_tmp (by kernel_rfl))) ?_
    exact ⟨0, rfl, h⟩
theorem catalog_Catalog_Put.go {c : Option Addr} {zz4 : ByteArray} {zz5 : Int} {zz6 : Int} {zz7 : Int} {zz8 : Sl} {zza : Sl} {zz9 : Sl} {w : World} {k : Value → World → Prop} (h : catalog_Catalog_Put c zz4 zz5 zz6 zz7 zz8 zza zz9 w fun r0 w'=>k (Value.int .i64 r0) w') : callS Tryz.prog 19 [(Value.pointer c), (Value.agg #[(Value.string zz4), (Value.int .i64 zz5), (Value.int .i64 zz6), (Value.int .i64 zz7), (Sl.v zz8), (Sl.v zza), (Sl.v zz9)])] w k := (catalog_Catalog_Put.sound c zz4 zz5 zz6 zz7 zz8 zza zz9 w _ h).mono (by rintro _ _ ⟨r0, rfl, h⟩; exact h)
def catalog_Catalog_Get (c : Option Addr) (name : ByteArray) (zzb : Int) (zzc : Int) (zzd : Int) (w : World) (R : ByteArray → Int → Int → Int → Sl → Sl → Sl → Bool → World → Prop) : Prop :=
 newS w [(Value.int .i64 zzb), (Value.int .i64 zzc), (Value.int .i64 zzd)] 30 fun a vw=>newS vw [(Value.string (ByteArray.mk #[])), (Value.int .i64 0), (Value.int .i64 0), (Value.int .i64 0), (Sl.v Sl.nil), (Sl.v Sl.nil), (Sl.v Sl.nil)] 48 fun a1 vw2=>bnd vw2.drew fun (vw3 : World)=>∃ (p : Addr), (c = some p) ∧ ∃ (t14 : Option Nat), (ldc vw3 p [(Value.map t14)]) ∧ ∃ (zz3q : Int) (zz3r : Int) (zz3s : Int), (ldc vw3 a [(Value.int .i64 zz3q), (Value.int .i64 zz3r), (Value.int .i64 zz3s)]) ∧ ∃ (zz2g : ByteArray) (zz2i : Int) (zz2j : Int) (zz2k : Int) (zze : Sl) (zz2h : Sl) (zzf : Sl) (t18b : Bool), (stabS Tryz.prog (Instr.lookup 101 (Value.map t14) (Value.agg #[(Value.string name), (Value.int .i64 zz3q), (Value.int .i64 zz3r), (Value.int .i64 zz3s)]) true) vw3 (Value.tuple #[(Value.agg #[(Value.string zz2g), (Value.int .i64 zz2i), (Value.int .i64 zz2j), (Value.int .i64 zz2k), (Sl.v zze), (Sl.v zz2h), (Sl.v zzf)]), (Value.bool t18b)])) ∧ newS vw3 [(Value.string (ByteArray.mk #[])), (Value.int .i64 0), (Value.int .i64 0), (Value.int .i64 0), (Sl.v Sl.nil), (Sl.v Sl.nil), (Sl.v Sl.nil)] 48 fun a6 vw7=>stw vw7 a6 [(Value.string zz2g), (Value.int .i64 zz2i), (Value.int .i64 zz2j), (Value.int .i64 zz2k), (Sl.v zze), (Sl.v zz2h), (Sl.v zzf)] fun vw8=>∃ (zz1h : ByteArray) (zz1j : Int) (zz1k : Int) (zz1l : Int) (zz1g : Sl) (zz50 : Sl) (zz1i : Sl), (ldc vw8 a6 [(Value.string zz1h), (Value.int .i64 zz1j), (Value.int .i64 zz1k), (Value.int .i64 zz1l), (Sl.v zz1g), (Sl.v zz50), (Sl.v zz1i)]) ∧ callS Tryz.prog 62 [(Value.agg #[(Value.string zz1h), (Value.int .i64 zz1j), (Value.int .i64 zz1k), (Value.int .i64 zz1l), (Sl.v zz1g), (Sl.v zz50), (Sl.v zz1i)])] vw8 fun v11 vw10=>∃ (zzp : ByteArray) (zzs : Int) (zzt : Int) (zzu : Int) (zzo : Sl) (zzr : Sl) (zzq : Sl), v11 = (Value.agg #[(Value.string zzp), (Value.int .i64 zzs), (Value.int .i64 zzt), (Value.int .i64 zzu), (Sl.v zzo), (Sl.v zzr), (Sl.v zzq)]) ∧ stw vw10 a1 [(Value.string zzp), (Value.int .i64 zzs), (Value.int .i64 zzt), (Value.int .i64 zzu), (Sl.v zzo), (Sl.v zzr), (Sl.v zzq)] fun vw12=>∃ (zz15 : ByteArray) (zz19 : Int) (zz1a : Int) (zz1b : Int) (zz12 : Sl) (zz18 : Sl) (zz16 : Sl), ldc vw12 a1 [(Value.string zz15), (Value.int .i64 zz19), (Value.int .i64 zz1a), (Value.int .i64 zz1b), (Sl.v zz12), (Sl.v zz18), (Sl.v zz16)] ∧ R zz15 zz19 zz1a zz1b zz12 zz18 zz16 t18b vw12
set_option maxHeartbeats 8000000 in
theorem catalog_Catalog_Get.sound (c : Option Addr) (name : ByteArray) (zzb : Int) (zzc : Int) (zzd : Int) (w : World) (R : ByteArray → Int → Int → Int → Sl → Sl → Sl → Bool → World → Prop) (h : catalog_Catalog_Get c name zzb zzc zzd w R) : callS Tryz.prog 22 [(Value.pointer c), (Value.string name), (Value.agg #[(Value.int .i64 zzb), (Value.int .i64 zzc), (Value.int .i64 zzd)])] w (fun v w'=>∃ (r0 : ByteArray) (r1 : Int) (r2 : Int) (r3 : Int) (r4 : Sl) (r5 : Sl) (r6 : Sl) (r7 : Bool), v = (Value.tuple #[(Value.agg #[(Value.string r0), (Value.int .i64 r1), (Value.int .i64 r2), (Value.int .i64 r3), (Sl.v r4), (Sl.v r5), (Sl.v r6)]), (Value.bool r7)]) ∧ R r0 r1 r2 r3 r4 r5 r6 r7 w') := by
 unfold catalog_Catalog_Get at h
 refine calls_of_vc 24 rfl Tryz.func22 rfl (by kernel_rfl) (by simp) ?_
 refine Vc.seq ?_
 refine Vc.region ?_
 refine vcL_eff rfl (opVC_new rfl (fun a=>Value.pointer (some a)) (by kernel_rfl) (newS.mono h fun a vw hx h=>?_))
 refine vcL_eff rfl (opVC_new rfl (fun a=>Value.pointer (some a)) (by kernel_rfl) (newS.mono h fun a1 vw2 hx h=>?_))
 refine vcL_pure rfl rfl (Value.bool false) (fun w=>by kernel_rfl) ?_
 refine vcL_nil ?_
 refine Vc.seq ?_
 obtain ⟨vw3, hvw3⟩ : ∃ y, y = vw2.drew := ⟨_, rfl⟩
 have h := h vw3 hvw3
 refine Vc.draw (by kernel_rfl) (fun i=>!(memN [12] i)) (.pur 0 (.pur 1 (.pur 2 (.val 3 (.pur 4 (.val 5 (.pur 6 (.val 7 (.pur 8 (.pur 9 (.pur 10 (.eff 11 (.eff 12 (.pur 13 .fin) .stop) .stop)))))))))))) (by kernel_rfl) ?_
 rw [← hvw3]
 clear hvw3
 refine vcS_pure rfl rfl rfl (Value.pointer c) (fun w=>by kernel_rfl) ?_
 obtain ⟨p, hp, h⟩ := h
 refine vcS_pure rfl rfl rfl (Value.pointer (some p)) (fun w=>by exact exec_nilCheck rfl (by kernel_rfl) (hp) w) ?_
 refine vcS_pure rfl rfl rfl (Value.pointer (some p)) (fun w=>by kernel_rfl) ?_
 obtain ⟨t14, hc, h⟩ := h
 refine vcS_val rfl rfl rfl (Value.map t14) (fun w' hx=>exec_load rfl (by kernel_rfl) (run_load1 (fun w=>by kernel_rfl) ((hc).ext hx))) ?_
 refine vcS_pure rfl rfl rfl (Value.string name) (fun w=>by kernel_rfl) ?_
 obtain ⟨zz3q, zz3r, zz3s, hc4, h⟩ := h
 refine vcS_val rfl rfl rfl (Value.agg #[(Value.int .i64 zz3q), (Value.int .i64 zz3r), (Value.int .i64 zz3s)]) (fun w' hx=>exec_load rfl (by kernel_rfl) (run_loadN (fun w=>by kernel_rfl) (fun w=>by kernel_rfl) ((hc4).ext hx))) ?_
 refine vcS_pure rfl rfl rfl (Value.agg #[(Value.string name), (Value.int .i64 zz3q), (Value.int .i64 zz3r), (Value.int .i64 zz3s)]) (fun w=>by kernel_rfl) ?_
 obtain ⟨zz2g, zz2i, zz2j, zz2k, zze, zz2h, zzf, t18b, hl, h⟩ := h
 refine vcS_val rfl rfl rfl (Value.tuple #[(Value.agg #[(Value.string zz2g), (Value.int .i64 zz2i), (Value.int .i64 zz2j), (Value.int .i64 zz2k), (Sl.v zze), (Sl.v zz2h), (Sl.v zzf)]), (Value.bool t18b)]) (fun w' hx=>exec_sem (c := Instr.lookup 101 (Value.map t14) (Value.agg #[(Value.string name), (Value.int .i64 zz3q), (Value.int .i64 zz3r), (Value.int .i64 zz3s)]) true) (by kernel_rfl) ((hl) _ hx)) ?_
 refine vcS_pure rfl rfl rfl (Value.tuple #[(Value.agg #[(Value.string zz2g), (Value.int .i64 zz2i), (Value.int .i64 zz2j), (Value.int .i64 zz2k), (Sl.v zze), (Sl.v zz2h), (Sl.v zzf)]), (Value.bool t18b)]) (fun w=>by kernel_rfl) ?_
 refine vcS_pure rfl rfl rfl (Value.agg #[(Value.string zz2g), (Value.int .i64 zz2i), (Value.int .i64 zz2j), (Value.int .i64 zz2k), (Sl.v zze), (Sl.v zz2h), (Sl.v zzf)]) (fun w=>by kernel_rfl) ?_
 refine vcS_pure rfl rfl rfl (Value.bool t18b) (fun w=>by kernel_rfl) ?_
 refine vcS_eff rfl rfl (opVC_new rfl (fun a=>Value.pointer (some a)) (by kernel_rfl) (newS.mono h fun a6 vw7 hx h=>?_)) vcS_stop
 refine ⟨fun _ => hx, ?_⟩
 refine vcS_eff rfl rfl (opVC_store rfl rfl (a := a6) (by kernel_rfl) (v := (Value.agg #[(Value.string zz2g), (Value.int .i64 zz2i), (Value.int .i64 zz2j), (Value.int .i64 zz2k), (Sl.v zze), (Sl.v zz2h), (Sl.v zzf)])) (by kernel_rfl) [(Value.string zz2g), (Value.int .i64 zz2i), (Value.int .i64 zz2j), (Value.int .i64 zz2k), (Sl.v zze), (Sl.v zz2h), (Sl.v zzf)] (by kernel_rfl) (fun w=>by kernel_rfl) (by kernel_rfl) (stw.mono h fun vw8 h=>?_)) vcS_stop
 refine ⟨fun hb=>absurd hb (by decide), ?_⟩
 refine vcS_pure rfl rfl rfl (Value.bool t18b) (fun w=>by kernel_rfl) ?_
 refine vcS_fin ?_
 refine Vc.seq ?_
 refine Vc.region ?_
 obtain ⟨zz1h, zz1j, zz1k, zz1l, zz1g, zz50, zz1i, hc9, h⟩ := h
 refine vcL_val rfl rfl (Value.agg #[(Value.string zz1h), (Value.int .i64 zz1j), (Value.int .i64 zz1k), (Value.int .i64 zz1l), (Sl.v zz1g), (Sl.v zz50), (Sl.v zz1i)]) (exec_load rfl (by kernel_rfl) (run_loadN (fun w=>by kernel_rfl) (fun w=>by kernel_rfl) ((hc9)))) ?_
 refine vcL_eff rfl (opVC_call rfl (by kernel_rfl) (callS.mono h fun v11 vw10 h=>?_))
 obtain ⟨zzp, zzs, zzt, zzu, zzo, zzr, zzq, rfl, h⟩ := h
 refine vcL_pure rfl rfl (Value.bool t18b) (fun w=>by kernel_rfl) ?_
 refine vcL_eff rfl (opVC_store rfl rfl (a := a1) (by kernel_rfl) (v := (Value.agg #[(Value.string zzp), (Value.int .i64 zzs), (Value.int .i64 zzt), (Value.int .i64 zzu), (Sl.v zzo), (Sl.v zzr), (Sl.v zzq)])) (by kernel_rfl) [(Value.string zzp), (Value.int .i64 zzs), (Value.int .i64 zzt), (Value.int .i64 zzu), (Sl.v zzo), (Sl.v zzr), (Sl.v zzq)] (by kernel_rfl) (fun w=>by kernel_rfl) (by kernel_rfl) (stw.mono h fun vw12 h=>?_))
 refine vcL_pure rfl rfl (Value.bool t18b) (fun w=>by kernel_rfl) ?_
 refine vcL_nil ?_
 refine Vc.ret ?_
 refine outs_ret ?_
 obtain ⟨zz15, zz19, zz1a, zz1b, zz12, zz18, zz16, hc13, h⟩ := h
 refine done_mk (Value.tuple #[(Value.agg #[(Value.string zz15), (Value.int .i64 zz19), (Value.int .i64 zz1a), (Value.int .i64 zz1b), (Sl.v zz12), (Sl.v zz18), (Sl.v zz16)]), (Value.bool t18b)]) (res2 (resC_cell (by kernel_rfl) (run_loadN (fun w=>by kernel_rfl) (fun w=>by kernel_rfl) hc13)) (resC_tmp (by kernel_rfl))) ?_
 exact ⟨zz15, zz19, zz1a, zz1b, zz12, zz18, zz16, t18b, rfl, h⟩
theorem catalog_Catalog_Get.go {c : Option Addr} {name : ByteArray} {zzb : Int} {zzc : Int} {zzd : Int} {w : World} {k : Value → World → Prop} (h : catalog_Catalog_Get c name zzb zzc zzd w fun r0 r1 r2 r3 r4 r5 r6 r7 w'=>k (Value.tuple #[(Value.agg #[(Value.string r0), (Value.int .i64 r1), (Value.int .i64 r2), (Value.int .i64 r3), (Sl.v r4), (Sl.v r5), (Sl.v r6)]), (Value.bool r7)]) w') : callS Tryz.prog 22 [(Value.pointer c), (Value.string name), (Value.agg #[(Value.int .i64 zzb), (Value.int .i64 zzc), (Value.int .i64 zzd)])] w k := (catalog_Catalog_Get.sound c name zzb zzc zzd w _ h).mono (by rintro _ _ ⟨r0, r1, r2, r3, r4, r5, r6, r7, rfl, h⟩; exact h)
def halyardref02_At (n : Int) (w : World) (R : Int → Int → Int → Bool → World → Prop) : Prop :=
 newS w [(Value.int .i64 0), (Value.int .i64 0), (Value.int .i64 0)] 30 fun a vw=>bnd (decide (n < 0)) fun (b : Bool)=>(((b || (decide (999999999 < n))) = true → stw vw a [(Value.int .i64 0), (Value.int .i64 0), (Value.int .i64 0)] fun vw1=>∃ (zz13 : Int) (zz14 : Int) (zz17 : Int), ldc vw1 a [(Value.int .i64 zz13), (Value.int .i64 zz14), (Value.int .i64 zz17)] ∧ R zz13 zz14 zz17 false vw1) ∧ ((b || (decide (999999999 < n))) = false → stw vw a [(Value.int .i64 (wrapI (n.tdiv 1000000))), (Value.int .i64 (Int.tmod (wrapI (n.tdiv 1000)) 1000)), (Value.int .i64 (Int.tmod n 1000))] fun vw2=>∃ (zz3y : Int) (zz3z : Int) (zz40 : Int), ldc vw2 a [(Value.int .i64 zz3y), (Value.int .i64 zz3z), (Value.int .i64 zz40)] ∧ R zz3y zz3z zz40 true vw2))
set_option maxHeartbeats 8000000 in
theorem halyardref02_At.sound (n : Int) (w : World) (R : Int → Int → Int → Bool → World → Prop) (h : halyardref02_At n w R) : callS Tryz.prog 35 [(Value.int .i64 n)] w (fun v w'=>∃ (r0 : Int) (r1 : Int) (r2 : Int) (r3 : Bool), v = (Value.tuple #[(Value.agg #[(Value.int .i64 r0), (Value.int .i64 r1), (Value.int .i64 r2)]), (Value.bool r3)]) ∧ R r0 r1 r2 r3 w') := by
 unfold halyardref02_At at h
 refine calls_of_vc 19 rfl Tryz.func35 rfl (by kernel_rfl) (by simp) ?_
 refine Vc.seq ?_
 refine Vc.region ?_
 refine vcL_eff rfl (opVC_new rfl (fun a=>Value.pointer (some a)) (by kernel_rfl) (newS.mono h fun a vw hx h=>?_))
 refine vcL_pure rfl rfl (Value.bool false) (fun w=>by kernel_rfl) ?_
 refine vcL_nil ?_
 refine Vc.seq ?_
 refine Vc.seq ?_
 refine Vc.region ?_
 refine vcL_purs 2 [(5, (Value.bool (decide (n < 0)))), (4, (Value.int .i64 n))] (by kernel_rfl) ?_
 obtain ⟨b, hb⟩ : ∃ y, y = (decide (n < 0)) := ⟨_, rfl⟩
 have h := h b hb
 refine vcL_pure rfl rfl (Value.bool b) (fun w=>by rw [hb]; kernel_rfl) ?_
 refine vcL_guardP (!b) (wanted_g (d := 6) rfl (by kernel_rfl) b (by kernel_rfl) (!b) (eqF b)) rfl (Value.int .i64 n) (fun hg w=>by simp only [Bool.and_eq_true, Bool.not_eq_true'] at hg; obtain rfl := hg; kernel_rfl) ?_
 refine vcL_guardP (!b) (wanted_g (d := 6) rfl (by kernel_rfl) b (by kernel_rfl) (!b) (eqF b)) rfl (Value.bool (decide (999999999 < n))) (fun hg w=>by simp only [Bool.and_eq_true, Bool.not_eq_true'] at hg; obtain rfl := hg; kernel_rfl) ?_
 refine vcL_pure rfl rfl (Value.bool (b || (decide (999999999 < n)))) (fun w=>by cases b <;> kernel_rfl) ?_
 refine vcL_nil ?_
 refine Vc.cond (b || (decide (999999999 < n))) (by kernel_rfl) (fun hb=>?_) (fun hb=>?_)
 ·have h := h.1 (hb)
  refine Vc.seq ?_
  refine Vc.region ?_
  refine vcL_pure rfl rfl (Value.agg #[(Value.int .i64 0), (Value.int .i64 0), (Value.int .i64 0)]) (fun w=>by kernel_rfl) ?_
  refine vcL_eff rfl (opVC_store rfl rfl (a := a) (by kernel_rfl) (v := (Value.agg #[(Value.int .i64 0), (Value.int .i64 0), (Value.int .i64 0)])) (by kernel_rfl) [(Value.int .i64 0), (Value.int .i64 0), (Value.int .i64 0)] (by kernel_rfl) (fun w=>by kernel_rfl) (by kernel_rfl) (stw.mono h fun vw1 h=>?_))
  refine vcL_pure rfl rfl (Value.bool false) (fun w=>by kernel_rfl) ?_
  refine vcL_nil ?_
  refine Vc.ret ?_
  refine outs_ret ?_
  obtain ⟨zz13, zz14, zz17, hc, h⟩ := h
  refine done_mk (Value.tuple #[(Value.agg #[(Value.int .i64 zz13), (Value.int .i64 zz14), (Value.int .i64 zz17)]), (Value.bool false)]) (res2 (resC_cell (by kernel_rfl) (run_loadN (fun w=>by kernel_rfl) (fun w=>by kernel_rfl) hc)) (resC_tmp (by kernel_rfl))) ?_
  exact ⟨zz13, zz14, zz17, false, rfl, h⟩
 ·have h := h.2 (hb)
  refine Vc.skip ?_
  refine Vc.seq ?_
  refine Vc.region ?_
  refine vcL_purs 8 [(18, (Value.agg #[(Value.int .i64 (wrapI (n.tdiv 1000000))), (Value.int .i64 (Int.tmod (wrapI (n.tdiv 1000)) 1000)), (Value.int .i64 (Int.tmod n 1000))])), (17, (Value.int .i64 (Int.tmod n 1000))), (16, (Value.int .i64 n)), (15, (Value.int .i64 (Int.tmod (wrapI (n.tdiv 1000)) 1000))), (14, (Value.int .i64 (wrapI (n.tdiv 1000)))), (13, (Value.int .i64 n)), (12, (Value.int .i64 (wrapI (n.tdiv 1000000)))), (11, (Value.int .i64 n))] (by kernel_rfl) ?_
  refine vcL_eff rfl (opVC_store rfl rfl (a := a) (by kernel_rfl) (v := (Value.agg #[(Value.int .i64 (wrapI (n.tdiv 1000000))), (Value.int .i64 (Int.tmod (wrapI (n.tdiv 1000)) 1000)), (Value.int .i64 (Int.tmod n 1000))])) (by kernel_rfl) [(Value.int .i64 (wrapI (n.tdiv 1000000))), (Value.int .i64 (Int.tmod (wrapI (n.tdiv 1000)) 1000)), (Value.int .i64 (Int.tmod n 1000))] (by kernel_rfl) (fun w=>by kernel_rfl) (by kernel_rfl) (stw.mono h fun vw2 h=>?_))
  refine vcL_pure rfl rfl (Value.bool true) (fun w=>by kernel_rfl) ?_
  refine vcL_nil ?_
  refine Vc.ret ?_
  refine outs_ret ?_
  obtain ⟨zz3y, zz3z, zz40, hc6, h⟩ := h
  refine done_mk (Value.tuple #[(Value.agg #[(Value.int .i64 zz3y), (Value.int .i64 zz3z), (Value.int .i64 zz40)]), (Value.bool true)]) (res2 (resC_cell (by kernel_rfl) (run_loadN (fun w=>by kernel_rfl) (fun w=>by kernel_rfl) hc6)) (resC_tmp (by kernel_rfl))) ?_
  exact ⟨zz3y, zz3z, zz40, true, rfl, h⟩
theorem halyardref02_At.go {n : Int} {w : World} {k : Value → World → Prop} (h : halyardref02_At n w fun r0 r1 r2 r3 w'=>k (Value.tuple #[(Value.agg #[(Value.int .i64 r0), (Value.int .i64 r1), (Value.int .i64 r2)]), (Value.bool r3)]) w') : callS Tryz.prog 35 [(Value.int .i64 n)] w k := (halyardref02_At.sound n w _ h).mono (by rintro _ _ ⟨r0, r1, r2, r3, rfl, h⟩; exact h)
def wants_Of (zz4 : ByteArray) (zz5 : Int) (zz6 : Int) (zz7 : Int) (zz8 : Sl) (zza : Sl) (zz9 : Sl) (zz0 : Sl) (zz1 : Sl) (zz2 : Sl) (zz3 : Sl) (w : World) (R : Sl → World → Prop) : Prop :=
 newS w [(Value.string zz4), (Value.int .i64 zz5), (Value.int .i64 zz6), (Value.int .i64 zz7), (Sl.v zz8), (Sl.v zza), (Sl.v zz9)] 48 fun a vw=>newS vw [(Sl.v zz0), (Sl.v zz1), (Sl.v zz2), (Sl.v zz3)] 25 fun a1 vw2=>∃ (zz66 : Sl) (zz67 : Sl) (zz68 : Sl) (zz69 : Sl), (ldc vw2 a1 [(Sl.v zz66), (Sl.v zz67), (Sl.v zz68), (Sl.v zz69)]) ∧ ∃ (t7 : Sl), (ldc vw2 (a.add 4) [(Sl.v t7)]) ∧ newS vw2 [(Sl.v t7)] 23 fun a4 vw5=>∃ (t10 : Sl), (ldc vw5 (a.add 6) [(Sl.v t10)]) ∧ callS Tryz.prog 87 [(Value.agg #[(Sl.v zz66), (Sl.v zz67), (Sl.v zz68), (Sl.v zz69)]), (Sl.v (Sl.mk (some a4) 1 1)), (Sl.v t10)] vw5 fun v vw7=>∃ (t11 : Sl), v = (Sl.v t11) ∧ R t11 vw7
set_option maxHeartbeats 8000000 in
theorem wants_Of.sound (zz4 : ByteArray) (zz5 : Int) (zz6 : Int) (zz7 : Int) (zz8 : Sl) (zza : Sl) (zz9 : Sl) (zz0 : Sl) (zz1 : Sl) (zz2 : Sl) (zz3 : Sl) (w : World) (R : Sl → World → Prop) (h : wants_Of zz4 zz5 zz6 zz7 zz8 zza zz9 zz0 zz1 zz2 zz3 w R) : callS Tryz.prog 37 [(Value.agg #[(Value.string zz4), (Value.int .i64 zz5), (Value.int .i64 zz6), (Value.int .i64 zz7), (Sl.v zz8), (Sl.v zza), (Sl.v zz9)]), (Value.agg #[(Sl.v zz0), (Sl.v zz1), (Sl.v zz2), (Sl.v zz3)])] w (fun v w'=>∃ (r0 : Sl), v = (Sl.v r0) ∧ R r0 w') := by
 unfold wants_Of at h
 refine calls_of_vc 12 rfl Tryz.func37 rfl (by kernel_rfl) (by simp) ?_
 refine Vc.seq ?_
 refine Vc.region ?_
 refine vcL_eff rfl (opVC_new rfl (fun a=>Value.pointer (some a)) (by kernel_rfl) (newS.mono h fun a vw hx h=>?_))
 refine vcL_eff rfl (opVC_new rfl (fun a=>Value.pointer (some a)) (by kernel_rfl) (newS.mono h fun a1 vw2 hx h=>?_))
 refine vcL_pure rfl rfl (Sl.v Sl.nil) (fun w=>by kernel_rfl) ?_
 refine vcL_nil ?_
 refine Vc.seq ?_
 refine Vc.region ?_
 obtain ⟨zz66, zz67, zz68, zz69, hc, h⟩ := h
 refine vcL_val rfl rfl (Value.agg #[(Sl.v zz66), (Sl.v zz67), (Sl.v zz68), (Sl.v zz69)]) (exec_load rfl (by kernel_rfl) (run_loadN (fun w=>by kernel_rfl) (fun w=>by kernel_rfl) ((hc)))) ?_
 refine vcL_pure rfl rfl (Value.pointer (some (a.add 4))) (fun w=>by kernel_rfl) ?_
 obtain ⟨t7, hc3, h⟩ := h
 refine vcL_val rfl rfl (Sl.v t7) (exec_load rfl (by kernel_rfl) (run_load1 (fun w=>by kernel_rfl) ((hc3)))) ?_
 refine vcL_eff rfl (opVC_new rfl (fun a=>Value.slice (some a) 1 1) (by kernel_rfl) (newS.mono h fun a4 vw5 hx h=>?_))
 refine vcL_pure rfl rfl (Value.pointer (some (a.add 6))) (fun w=>by kernel_rfl) ?_
 obtain ⟨t10, hc6, h⟩ := h
 refine vcL_val rfl rfl (Sl.v t10) (exec_load rfl (by kernel_rfl) (run_load1 (fun w=>by kernel_rfl) ((hc6)))) ?_
 refine vcL_eff rfl (opVC_call rfl (by kernel_rfl) (callS.mono h fun v vw7 h=>?_))
 obtain ⟨t11, rfl, h⟩ := h
 refine vcL_pure rfl rfl (Sl.v t11) (fun w=>by kernel_rfl) ?_
 refine vcL_nil ?_
 refine Vc.ret ?_
 refine outs_ret ?_
 refine done_mk (Sl.v t11) (res1 (resC_tmp (by kernel_rfl))) ?_
 exact ⟨t11, rfl, h⟩
theorem wants_Of.go {zz4 : ByteArray} {zz5 : Int} {zz6 : Int} {zz7 : Int} {zz8 : Sl} {zza : Sl} {zz9 : Sl} {zz0 : Sl} {zz1 : Sl} {zz2 : Sl} {zz3 : Sl} {w : World} {k : Value → World → Prop} (h : wants_Of zz4 zz5 zz6 zz7 zz8 zza zz9 zz0 zz1 zz2 zz3 w fun r0 w'=>k (Sl.v r0) w') : callS Tryz.prog 37 [(Value.agg #[(Value.string zz4), (Value.int .i64 zz5), (Value.int .i64 zz6), (Value.int .i64 zz7), (Sl.v zz8), (Sl.v zza), (Sl.v zz9)]), (Value.agg #[(Sl.v zz0), (Sl.v zz1), (Sl.v zz2), (Sl.v zz3)])] w k := (wants_Of.sound zz4 zz5 zz6 zz7 zz8 zza zz9 zz0 zz1 zz2 zz3 w _ h).mono (by rintro _ _ ⟨r0, rfl, h⟩; exact h)
def wants_OfRoot (zz0 : Sl) (zz1 : Sl) (zz2 : Sl) (zz3 : Sl) (dev : Bool) (w : World) (R : Sl → World → Prop) : Prop :=
 newS w [(Sl.v zz0), (Sl.v zz1), (Sl.v zz2), (Sl.v zz3)] 25 fun a vw=>∃ (t7 : Sl), (ldc vw a [(Sl.v t7)]) ∧ newS vw [(Sl.v t7)] 23 fun a1 vw2=>join (fun (must : Sl) (vw3 : World)=>∃ (zz1c : Sl) (zz4d : Sl) (zz1d : Sl) (zz4e : Sl), (ldc vw3 a [(Sl.v zz1c), (Sl.v zz4d), (Sl.v zz1d), (Sl.v zz4e)]) ∧ ∃ (t18 : Sl), (ldc vw3 (a.add 2) [(Sl.v t18)]) ∧ callS Tryz.prog 87 [(Value.agg #[(Sl.v zz1c), (Sl.v zz4d), (Sl.v zz1d), (Sl.v zz4e)]), (Sl.v must), (Sl.v t18)] vw3 fun v vw6=>∃ (t19 : Sl), v = (Sl.v t19) ∧ R t19 vw6) fun vJ=>((dev = true → ∃ (t12 : Sl), (ldc vw2 (a.add 1) [(Sl.v t12)]) ∧ newS vw2 [(Sl.v t12)] 23 fun a8 vw9=>appS Tryz.prog 126 126 (Sl.mk (some a1) 1 1) (Sl.v (Sl.mk (some a8) 1 1)) vw9 fun t14 vw10=>vJ t14 vw10) ∧ (dev = false → vJ (Sl.mk (some a1) 1 1) vw2))
set_option maxHeartbeats 8000000 in
theorem wants_OfRoot.sound (zz0 : Sl) (zz1 : Sl) (zz2 : Sl) (zz3 : Sl) (dev : Bool) (w : World) (R : Sl → World → Prop) (h : wants_OfRoot zz0 zz1 zz2 zz3 dev w R) : callS Tryz.prog 39 [(Value.agg #[(Sl.v zz0), (Sl.v zz1), (Sl.v zz2), (Sl.v zz3)]), (Value.bool dev)] w (fun v w'=>∃ (r0 : Sl), v = (Sl.v r0) ∧ R r0 w') := by
 unfold wants_OfRoot at h
 refine calls_of_vc 20 rfl Tryz.func39 rfl (by kernel_rfl) (by simp) ?_
 refine Vc.seq ?_
 refine Vc.region ?_
 refine vcL_eff rfl (opVC_new rfl (fun a=>Value.pointer (some a)) (by kernel_rfl) (newS.mono h fun a vw hx h=>?_))
 refine vcL_pure rfl rfl (Sl.v Sl.nil) (fun w=>by kernel_rfl) ?_
 refine vcL_nil ?_
 refine Vc.seq ?_
 refine Vc.region ?_
 refine vcL_pure rfl rfl (Value.pointer (some a)) (fun w=>by kernel_rfl) ?_
 obtain ⟨t7, hc, h⟩ := h
 refine vcL_val rfl rfl (Sl.v t7) (exec_load rfl (by kernel_rfl) (run_load1 (fun w=>by kernel_rfl) ((hc)))) ?_
 refine vcL_eff rfl (opVC_new rfl (fun a=>Value.slice (some a) 1 1) (by kernel_rfl) (newS.mono h fun a1 vw2 hx h=>?_))
 refine vcL_pure rfl rfl (Sl.v (Sl.mk (some a1) 1 1)) (fun w=>by kernel_rfl) ?_
 refine vcL_nil ?_
 obtain ⟨vJ, hJ, h⟩ := join_elim h
 refine Vc.seqJ (σ := Sl) [5] [9, 10, 11, 12, 13, 14] (fun s=>[(5, (Sl.v s))]) (fun s w=>vJ s w) (fun _ => rfl) ?_ ?_
 ·refine Vc.seq ?_
  refine Vc.region ?_
  refine vcL_pure rfl rfl (Value.bool dev) (fun w=>by kernel_rfl) ?_
  refine vcL_nil ?_
  refine Vc.cond dev (by kernel_rfl) (fun hb=>?_) (fun hb=>?_)
  ·have h := h.1 (hb)
   refine Vc.region ?_
   refine vcL_purs 2 [(11, (Value.pointer (some (a.add 1)))), (10, (Sl.v (Sl.mk (some a1) 1 1)))] (by kernel_rfl) ?_
   obtain ⟨t12, hc7, h⟩ := h
   refine vcL_val rfl rfl (Sl.v t12) (exec_load rfl (by kernel_rfl) (run_load1 (fun w=>by kernel_rfl) ((hc7)))) ?_
   refine vcL_eff rfl (opVC_new rfl (fun a=>Value.slice (some a) 1 1) (by kernel_rfl) (newS.mono h fun a8 vw9 hx h=>?_))
   refine vcL_eff rfl (opVC_sem rfl (c := Builtin.append_ #[126, 126] 126 #[(Sl.v (Sl.mk (some a1) 1 1)), (Sl.v (Sl.mk (some a8) 1 1))]) (by kernel_rfl) (appS.elim (ty := 126) h fun t14 vw10 h=>?_))
   refine vcL_pure rfl rfl (Sl.v t14) (fun w=>by kernel_rfl) ?_
   refine vcL_nil ?_
   exact ⟨t14, 7, ⟨rfl, by kernel_rfl, by kernel_rfl, by kernel_rfl⟩, h⟩
  ·have h := h.2 (hb)
   refine Vc.skip ?_
   exact ⟨(Sl.mk (some a1) 1 1), 1, ⟨rfl, by kernel_rfl, by kernel_rfl, by kernel_rfl⟩, h⟩
 ·intro must vw3 j h
  subst hJ
  refine Vc.seq ?_
  refine Vc.region ?_
  obtain ⟨zz1c, zz4d, zz1d, zz4e, hc4, h⟩ := h
  refine vcL_val rfl rfl (Value.agg #[(Sl.v zz1c), (Sl.v zz4d), (Sl.v zz1d), (Sl.v zz4e)]) (exec_load rfl (by kernel_rfl) (run_loadN (fun w=>by kernel_rfl) (fun w=>by kernel_rfl) ((hc4)))) ?_
  refine vcL_purs 2 [(17, (Value.pointer (some (a.add 2)))), (16, (Sl.v must))] (by kernel_rfl) ?_
  obtain ⟨t18, hc5, h⟩ := h
  refine vcL_val rfl rfl (Sl.v t18) (exec_load rfl (by kernel_rfl) (run_load1 (fun w=>by kernel_rfl) ((hc5)))) ?_
  refine vcL_eff rfl (opVC_call rfl (by kernel_rfl) (callS.mono h fun v vw6 h=>?_))
  obtain ⟨t19, rfl, h⟩ := h
  refine vcL_pure rfl rfl (Sl.v t19) (fun w=>by kernel_rfl) ?_
  refine vcL_nil ?_
  refine Vc.ret ?_
  refine outs_ret ?_
  refine done_mk (Sl.v t19) (res1 (resC_tmp (by kernel_rfl))) ?_
  exact ⟨t19, rfl, h⟩
theorem wants_OfRoot.go {zz0 : Sl} {zz1 : Sl} {zz2 : Sl} {zz3 : Sl} {dev : Bool} {w : World} {k : Value → World → Prop} (h : wants_OfRoot zz0 zz1 zz2 zz3 dev w fun r0 w'=>k (Sl.v r0) w') : callS Tryz.prog 39 [(Value.agg #[(Sl.v zz0), (Sl.v zz1), (Sl.v zz2), (Sl.v zz3)]), (Value.bool dev)] w k := (wants_OfRoot.sound zz0 zz1 zz2 zz3 dev w _ h).mono (by rintro _ _ ⟨r0, rfl, h⟩; exact h)
def wants_Peers (zz4 : ByteArray) (zz5 : Int) (zz6 : Int) (zz7 : Int) (zz8 : Sl) (zza : Sl) (zz9 : Sl) (zz0 : Sl) (zz1 : Sl) (zz2 : Sl) (zz3 : Sl) (w : World) (R : Sl → World → Prop) : Prop :=
 newS w [(Value.string zz4), (Value.int .i64 zz5), (Value.int .i64 zz6), (Value.int .i64 zz7), (Sl.v zz8), (Sl.v zza), (Sl.v zz9)] 48 fun a vw=>newS vw [(Sl.v zz0), (Sl.v zz1), (Sl.v zz2), (Sl.v zz3)] 25 fun a1 vw2=>∃ (t9 : Sl), (ldc vw2 (a.add 5) [(Sl.v t9)]) ∧ loop2 Sl.nil 0 vw2 fun out t11 vw3 nxt=>((t11 < (t9.len : Int) → ∃ (ad : Addr), (t9.a = some ad ∧ (0 : Int) ≤ t11 ∧ t11 < (t9.len : Int)) ∧ ∃ (zz3n : ByteArray) (zz3o : Sl), (ldc vw3 (ad.add (t11.toNat * 2)) [(Value.string zz3n), (Sl.v zz3o)]) ∧ newS vw3 [(Value.string (ByteArray.mk #[])), (Sl.v Sl.nil)] 81 fun a5 vw6=>stw vw6 a5 [(Value.string zz3n), (Sl.v zz3o)] fun vw7=>bnd vw7.drew fun (vw8 : World)=>∃ (t17 : ByteArray), (ldc vw8 a5 [(Value.string t17)]) ∧ ∃ (zze : Sl) (zz1e : Sl) (zzf : Sl) (zz1f : Sl), (ldc vw8 a1 [(Sl.v zze), (Sl.v zz1e), (Sl.v zzf), (Sl.v zz1f)]) ∧ ∃ (zz4m : ByteArray) (zz4n : Sl), (ldc vw8 a5 [(Value.string zz4m), (Sl.v zz4n)]) ∧ callX Tryz.prog 44 [(Value.agg #[(Sl.v zze), (Sl.v zz1e), (Sl.v zzf), (Sl.v zz1f)]), (Value.agg #[(Value.string zz4m), (Sl.v zz4n)])] vw8 fun v vw12=>∃ (t20 : Sl), v = (Sl.v t20) ∧ newS vw12 [(Value.string t17), (Sl.v t20)] 81 fun a13 vw14=>appS Tryz.prog 23 23 out (Sl.v (Sl.mk (some a13) 1 1)) vw14 fun t23 vw15=>nxt t23 (wrapI (t11 + 1)) vw15) ∧ (¬ (t11 < (t9.len : Int)) → callS Tryz.prog 89 [(Sl.v out)] vw3 fun v17 vw16=>∃ (t26 : Sl), v17 = (Sl.v t26) ∧ R t26 vw16))
set_option maxHeartbeats 8000000 in
theorem wants_Peers.sound (zz4 : ByteArray) (zz5 : Int) (zz6 : Int) (zz7 : Int) (zz8 : Sl) (zza : Sl) (zz9 : Sl) (zz0 : Sl) (zz1 : Sl) (zz2 : Sl) (zz3 : Sl) (w : World) (R : Sl → World → Prop) (h : wants_Peers zz4 zz5 zz6 zz7 zz8 zza zz9 zz0 zz1 zz2 zz3 w R) : callS Tryz.prog 41 [(Value.agg #[(Value.string zz4), (Value.int .i64 zz5), (Value.int .i64 zz6), (Value.int .i64 zz7), (Sl.v zz8), (Sl.v zza), (Sl.v zz9)]), (Value.agg #[(Sl.v zz0), (Sl.v zz1), (Sl.v zz2), (Sl.v zz3)])] w (fun v w'=>∃ (r0 : Sl), v = (Sl.v r0) ∧ R r0 w') := by
 unfold wants_Peers at h
 refine calls_of_vc 27 rfl Tryz.func41 rfl (by kernel_rfl) (by simp) ?_
 refine Vc.seq ?_
 refine Vc.region ?_
 refine vcL_eff rfl (opVC_new rfl (fun a=>Value.pointer (some a)) (by kernel_rfl) (newS.mono h fun a vw hx h=>?_))
 refine vcL_eff rfl (opVC_new rfl (fun a=>Value.pointer (some a)) (by kernel_rfl) (newS.mono h fun a1 vw2 hx h=>?_))
 refine vcL_pure rfl rfl (Sl.v Sl.nil) (fun w=>by kernel_rfl) ?_
 refine vcL_nil ?_
 refine Vc.seq ?_
 refine Vc.region ?_
 refine vcL_pure rfl rfl (Sl.v Sl.nil) (fun w=>by kernel_rfl) ?_
 refine vcL_nil ?_
 refine Vc.seq ?_
 refine Vc.seq ?_
 refine Vc.region ?_
 refine vcL_pure rfl rfl (Value.pointer (some (a.add 5))) (fun w=>by kernel_rfl) ?_
 obtain ⟨t9, hc, h⟩ := h
 refine vcL_val rfl rfl (Sl.v t9) (exec_load rfl (by kernel_rfl) (run_load1 (fun w=>by kernel_rfl) ((hc)))) ?_
 refine vcL_purs 2 [(11, (Value.int .i64 0)), (10, (Value.int .i64 (t9.len : Int)))] (by kernel_rfl) ?_
 refine vcL_nil ?_
 refine Vc.block ?_
 obtain ⟨vI, mu, h, hr⟩ := h
 refine Vc.loopJ (σ := Sl × Int) [5, 11] [7, 12, 13, 14, 15, 16, 17, 18, 19, 20, 21, 22, 23, 24] (fun s=>[(5, (Sl.v s.1)), (11, (Value.int .i64 s.2))]) (fun s w=>vI s.1 s.2 w) (fun s w=>mu s.1 s.2 w) (Sl.nil, 0) h (fun _ => rfl) (by kernel_rfl) ?_
 rintro ⟨out, t11⟩ vw3 j h
 have h := hr out t11 vw3 h
 refine Vc.seq ?_
 refine Vc.region ?_
 refine vcL_pure rfl rfl (Value.bool (decide (t11 < (t9.len : Int)))) (fun w=>by kernel_rfl) ?_
 refine vcL_nil ?_
 refine Vc.seq ?_
 refine Vc.cond (decide (t11 < (t9.len : Int))) (by kernel_rfl) (fun hb=>?_) (fun hb=>?_)
 ·have h := h.1 (of_decide_eq_true hb)
  refine Vc.skip ?_
  refine Vc.seq ?_
  refine Vc.block ?_
  refine Vc.seq ?_
  refine Vc.region ?_
  obtain ⟨ad, hi, h⟩ := h
  refine vcL_pure rfl rfl (Value.pointer (some (ad.add (t11.toNat * 2)))) (fun w=>by exact exec_indexAt (s := t9) (el := 81) rfl (by kernel_rfl) (by kernel_rfl) (by kernel_rfl) (fun w=>by kernel_rfl) (hi).1 (hi).2.1 (hi).2.2 w) ?_
  obtain ⟨zz3n, zz3o, hc4, h⟩ := h
  refine vcL_val rfl rfl (Value.agg #[(Value.string zz3n), (Sl.v zz3o)]) (exec_load rfl (by kernel_rfl) (run_loadN (fun w=>by kernel_rfl) (fun w=>by kernel_rfl) ((hc4)))) ?_
  refine vcL_eff rfl (opVC_new rfl (fun a=>Value.pointer (some a)) (by kernel_rfl) (newS.mono h fun a5 vw6 hx h=>?_))
  refine vcL_eff rfl (opVC_store rfl rfl (a := a5) (by kernel_rfl) (v := (Value.agg #[(Value.string zz3n), (Sl.v zz3o)])) (by kernel_rfl) [(Value.string zz3n), (Sl.v zz3o)] (by kernel_rfl) (fun w=>by kernel_rfl) (by kernel_rfl) (stw.mono h fun vw7 h=>?_))
  refine vcL_nil ?_
  obtain ⟨vw8, hvw8⟩ : ∃ y, y = vw7.drew := ⟨_, rfl⟩
  have h := h vw8 hvw8
  refine Vc.draw (by kernel_rfl) (fun i=>!(memN [7, 8] i)) (.pur 0 (.pur 1 (.val 2 (.val 3 (.val 4 (.eff 5 (.pur 6 (.eff 7 (.eff 8 (.pur 9 .fin) .stop) .stop)) .stop)))))) (by kernel_rfl) ?_
  rw [← hvw8]
  clear hvw8
  refine vcS_pure rfl rfl rfl (Sl.v out) (fun w=>by kernel_rfl) ?_
  refine vcS_pure rfl rfl rfl (Value.pointer (some a5)) (fun w=>by kernel_rfl) ?_
  obtain ⟨t17, hc9, h⟩ := h
  refine vcS_val rfl rfl rfl (Value.string t17) (fun w' hx=>exec_load rfl (by kernel_rfl) (run_load1 (fun w=>by kernel_rfl) ((hc9).ext hx))) ?_
  obtain ⟨zze, zz1e, zzf, zz1f, hc10, h⟩ := h
  refine vcS_val rfl rfl rfl (Value.agg #[(Sl.v zze), (Sl.v zz1e), (Sl.v zzf), (Sl.v zz1f)]) (fun w' hx=>exec_load rfl (by kernel_rfl) (run_loadN (fun w=>by kernel_rfl) (fun w=>by kernel_rfl) ((hc10).ext hx))) ?_
  obtain ⟨zz4m, zz4n, hc11, h⟩ := h
  refine vcS_val rfl rfl rfl (Value.agg #[(Value.string zz4m), (Sl.v zz4n)]) (fun w' hx=>exec_load rfl (by kernel_rfl) (run_loadN (fun w=>by kernel_rfl) (fun w=>by kernel_rfl) ((hc11).ext hx))) ?_
  refine vcS_eff rfl rfl (opVC_call rfl (by kernel_rfl) (callS.mono h fun v vw12 h=>?_)) vcS_stop
  obtain ⟨hx, h⟩ := h
  obtain ⟨t20, rfl, h⟩ := h
  refine ⟨fun _ => hx, ?_⟩
  refine vcS_pure rfl rfl rfl (Value.agg #[(Value.string t17), (Sl.v t20)]) (fun w=>by kernel_rfl) ?_
  refine vcS_eff rfl rfl (opVC_new rfl (fun a=>Value.slice (some a) 1 1) (by kernel_rfl) (newS.mono h fun a13 vw14 hx h=>?_)) vcS_stop
  refine ⟨fun hb=>absurd hb (by decide), ?_⟩
  refine vcS_eff rfl rfl (opVC_sem rfl (c := Builtin.append_ #[23, 23] 23 #[(Sl.v out), (Sl.v (Sl.mk (some a13) 1 1))]) (by kernel_rfl) (appS.elim (ty := 23) h fun t23 vw15 h=>?_)) vcS_stop
  refine ⟨fun hb=>absurd hb (by decide), ?_⟩
  refine vcS_pure rfl rfl rfl (Sl.v t23) (fun w=>by kernel_rfl) ?_
  refine vcS_fin ?_
  refine Vc.region ?_
  refine vcL_purs 2 [(11, (Value.int .i64 (wrapI (t11 + 1)))), (24, (Value.int .i64 (wrapI (t11 + 1))))] (by kernel_rfl) ?_
  refine vcL_nil ?_
  exact ⟨(t23, (wrapI (t11 + 1))), 32, ⟨rfl, by kernel_rfl, by kernel_rfl, by kernel_rfl⟩, h⟩
 ·have h := h.2 (of_decide_eq_false hb)
  refine Vc.exit ?_
  refine outOf_hit ?_
  refine Vc.seq ?_
  refine Vc.region ?_
  refine vcL_pure rfl rfl (Sl.v out) (fun w=>by kernel_rfl) ?_
  refine vcL_eff rfl (opVC_call rfl (by kernel_rfl) (callS.mono h fun v17 vw16 h=>?_))
  obtain ⟨t26, rfl, h⟩ := h
  refine vcL_pure rfl rfl (Sl.v t26) (fun w=>by kernel_rfl) ?_
  refine vcL_nil ?_
  refine Vc.ret ?_
  refine outs_ret ?_
  refine done_mk (Sl.v t26) (res1 (resC_tmp (by kernel_rfl))) ?_
  exact ⟨t26, rfl, h⟩
theorem wants_Peers.go {zz4 : ByteArray} {zz5 : Int} {zz6 : Int} {zz7 : Int} {zz8 : Sl} {zza : Sl} {zz9 : Sl} {zz0 : Sl} {zz1 : Sl} {zz2 : Sl} {zz3 : Sl} {w : World} {k : Value → World → Prop} (h : wants_Peers zz4 zz5 zz6 zz7 zz8 zza zz9 zz0 zz1 zz2 zz3 w fun r0 w'=>k (Sl.v r0) w') : callS Tryz.prog 41 [(Value.agg #[(Value.string zz4), (Value.int .i64 zz5), (Value.int .i64 zz6), (Value.int .i64 zz7), (Sl.v zz8), (Sl.v zza), (Sl.v zz9)]), (Value.agg #[(Sl.v zz0), (Sl.v zz1), (Sl.v zz2), (Sl.v zz3)])] w k := (wants_Peers.sound zz4 zz5 zz6 zz7 zz8 zza zz9 zz0 zz1 zz2 zz3 w _ h).mono (by rintro _ _ ⟨r0, rfl, h⟩; exact h)
def wants_Range (zz0 : Sl) (zz1 : Sl) (zz2 : Sl) (zz3 : Sl) (zz2a : ByteArray) (zz2b : Sl) (w : World) (R : Sl → World → Prop) : Prop :=
 newS w [(Sl.v zz0), (Sl.v zz1), (Sl.v zz2), (Sl.v zz3)] 25 fun a vw=>newS vw [(Value.string zz2a), (Sl.v zz2b)] 81 fun a1 vw2=>∃ (t8 : Sl), (ldc vw2 (a.add 3) [(Sl.v t8)]) ∧ loop1 0 vw2 fun t10 vw3 nxt=>((t10 < (t8.len : Int) → ∃ (ad : Addr), (t8.a = some ad ∧ (0 : Int) ≤ t10 ∧ t10 < (t8.len : Int)) ∧ ∃ (zz3j : ByteArray) (zz3m : Sl), (ldc vw3 (ad.add (t10.toNat * 2)) [(Value.string zz3j), (Sl.v zz3m)]) ∧ newS vw3 [(Value.string (ByteArray.mk #[])), (Sl.v Sl.nil)] 81 fun a5 vw6=>stw vw6 a5 [(Value.string zz3j), (Sl.v zz3m)] fun vw7=>∃ (t15 : ByteArray), (ldc vw7 a5 [(Value.string t15)]) ∧ ∃ (t17 : ByteArray), (ldc vw7 a1 [(Value.string t17)]) ∧ ((t15 = t17 → ∃ (t20 : Sl), (ldc vw7 (a5.add 1) [(Sl.v t20)]) ∧ callS Tryz.prog 90 [(Sl.v t20)] vw7 fun v vw11=>∃ (t21 : Sl), v = (Sl.v t21) ∧ R t21 vw11) ∧ (¬ (t15 = t17) → nxt (wrapI (t10 + 1)) vw7))) ∧ (¬ (t10 < (t8.len : Int)) → ∃ (t24 : Sl), (ldc vw3 (a1.add 1) [(Sl.v t24)]) ∧ callS Tryz.prog 90 [(Sl.v t24)] vw3 fun v14 vw13=>∃ (t25 : Sl), v14 = (Sl.v t25) ∧ R t25 vw13))
set_option maxHeartbeats 8000000 in
theorem wants_Range.sound (zz0 : Sl) (zz1 : Sl) (zz2 : Sl) (zz3 : Sl) (zz2a : ByteArray) (zz2b : Sl) (w : World) (R : Sl → World → Prop) (h : wants_Range zz0 zz1 zz2 zz3 zz2a zz2b w R) : callS Tryz.prog 44 [(Value.agg #[(Sl.v zz0), (Sl.v zz1), (Sl.v zz2), (Sl.v zz3)]), (Value.agg #[(Value.string zz2a), (Sl.v zz2b)])] w (fun v w'=>∃ (r0 : Sl), v = (Sl.v r0) ∧ R r0 w') := by
 unfold wants_Range at h
 refine calls_of_vc 26 rfl Tryz.func44 rfl (by kernel_rfl) (by simp) ?_
 refine Vc.seq ?_
 refine Vc.region ?_
 refine vcL_eff rfl (opVC_new rfl (fun a=>Value.pointer (some a)) (by kernel_rfl) (newS.mono h fun a vw hx h=>?_))
 refine vcL_eff rfl (opVC_new rfl (fun a=>Value.pointer (some a)) (by kernel_rfl) (newS.mono h fun a1 vw2 hx h=>?_))
 refine vcL_pure rfl rfl (Sl.v Sl.nil) (fun w=>by kernel_rfl) ?_
 refine vcL_nil ?_
 refine Vc.seq ?_
 refine Vc.seq ?_
 refine Vc.region ?_
 refine vcL_pure rfl rfl (Value.pointer (some (a.add 3))) (fun w=>by kernel_rfl) ?_
 obtain ⟨t8, hc, h⟩ := h
 refine vcL_val rfl rfl (Sl.v t8) (exec_load rfl (by kernel_rfl) (run_load1 (fun w=>by kernel_rfl) ((hc)))) ?_
 refine vcL_purs 2 [(10, (Value.int .i64 0)), (9, (Value.int .i64 (t8.len : Int)))] (by kernel_rfl) ?_
 refine vcL_nil ?_
 refine Vc.block ?_
 obtain ⟨vI, mu, h, hr⟩ := h
 refine Vc.loopJ (σ := Int) [10] [4, 6, 11, 12, 13, 14, 15, 16, 17, 18, 19, 20, 21, 22] (fun s=>[(10, (Value.int .i64 s))]) (fun s w=>vI s w) (fun s w=>mu s w) 0 h (fun _ => rfl) (by kernel_rfl) ?_
 intro t10 vw3 j h
 have h := hr t10 vw3 h
 refine Vc.seq ?_
 refine Vc.region ?_
 refine vcL_pure rfl rfl (Value.bool (decide (t10 < (t8.len : Int)))) (fun w=>by kernel_rfl) ?_
 refine vcL_nil ?_
 refine Vc.seq ?_
 refine Vc.cond (decide (t10 < (t8.len : Int))) (by kernel_rfl) (fun hb=>?_) (fun hb=>?_)
 ·have h := h.1 (of_decide_eq_true hb)
  refine Vc.skip ?_
  refine Vc.seq ?_
  refine Vc.block ?_
  refine Vc.seq ?_
  refine Vc.region ?_
  obtain ⟨ad, hi, h⟩ := h
  refine vcL_pure rfl rfl (Value.pointer (some (ad.add (t10.toNat * 2)))) (fun w=>by exact exec_indexAt (s := t8) (el := 81) rfl (by kernel_rfl) (by kernel_rfl) (by kernel_rfl) (fun w=>by kernel_rfl) (hi).1 (hi).2.1 (hi).2.2 w) ?_
  obtain ⟨zz3j, zz3m, hc4, h⟩ := h
  refine vcL_val rfl rfl (Value.agg #[(Value.string zz3j), (Sl.v zz3m)]) (exec_load rfl (by kernel_rfl) (run_loadN (fun w=>by kernel_rfl) (fun w=>by kernel_rfl) ((hc4)))) ?_
  refine vcL_eff rfl (opVC_new rfl (fun a=>Value.pointer (some a)) (by kernel_rfl) (newS.mono h fun a5 vw6 hx h=>?_))
  refine vcL_eff rfl (opVC_store rfl rfl (a := a5) (by kernel_rfl) (v := (Value.agg #[(Value.string zz3j), (Sl.v zz3m)])) (by kernel_rfl) [(Value.string zz3j), (Sl.v zz3m)] (by kernel_rfl) (fun w=>by kernel_rfl) (by kernel_rfl) (stw.mono h fun vw7 h=>?_))
  refine vcL_nil ?_
  refine Vc.seq ?_
  refine Vc.region ?_
  refine vcL_pure rfl rfl (Value.pointer (some a5)) (fun w=>by kernel_rfl) ?_
  obtain ⟨t15, hc8, h⟩ := h
  refine vcL_val rfl rfl (Value.string t15) (exec_load rfl (by kernel_rfl) (run_load1 (fun w=>by kernel_rfl) ((hc8)))) ?_
  refine vcL_pure rfl rfl (Value.pointer (some a1)) (fun w=>by kernel_rfl) ?_
  obtain ⟨t17, hc9, h⟩ := h
  refine vcL_val rfl rfl (Value.string t17) (exec_load rfl (by kernel_rfl) (run_load1 (fun w=>by kernel_rfl) ((hc9)))) ?_
  refine vcL_pure rfl rfl (Value.bool (bEq t15 t17)) (fun w=>by kernel_rfl) ?_
  refine vcL_nil ?_
  refine Vc.cond (bEq t15 t17) (by kernel_rfl) (fun hb=>?_) (fun hb=>?_)
  ·have h := h.1 (bEq_iff.1 hb)
   refine Vc.seq ?_
   refine Vc.region ?_
   refine vcL_pure rfl rfl (Value.pointer (some (a5.add 1))) (fun w=>by kernel_rfl) ?_
   obtain ⟨t20, hc10, h⟩ := h
   refine vcL_val rfl rfl (Sl.v t20) (exec_load rfl (by kernel_rfl) (run_load1 (fun w=>by kernel_rfl) ((hc10)))) ?_
   refine vcL_eff rfl (opVC_call rfl (by kernel_rfl) (callS.mono h fun v vw11 h=>?_))
   obtain ⟨t21, rfl, h⟩ := h
   refine vcL_pure rfl rfl (Sl.v t21) (fun w=>by kernel_rfl) ?_
   refine vcL_nil ?_
   refine Vc.ret ?_
   refine outOf_ret ?_
   refine outOf_ret ?_
   refine outs_ret ?_
   refine done_mk (Sl.v t21) (res1 (resC_tmp (by kernel_rfl))) ?_
   exact ⟨t21, rfl, h⟩
  ·have h := h.2 (bEq_false.1 hb)
   refine Vc.skip ?_
   refine Vc.region ?_
   refine vcL_purs 2 [(10, (Value.int .i64 (wrapI (t10 + 1)))), (22, (Value.int .i64 (wrapI (t10 + 1))))] (by kernel_rfl) ?_
   refine vcL_nil ?_
   exact ⟨(wrapI (t10 + 1)), 26, ⟨rfl, by kernel_rfl, by kernel_rfl, by kernel_rfl⟩, h⟩
 ·have h := h.2 (of_decide_eq_false hb)
  refine Vc.exit ?_
  refine outOf_hit ?_
  refine Vc.seq ?_
  refine Vc.region ?_
  refine vcL_pure rfl rfl (Value.pointer (some (a1.add 1))) (fun w=>by kernel_rfl) ?_
  obtain ⟨t24, hc12, h⟩ := h
  refine vcL_val rfl rfl (Sl.v t24) (exec_load rfl (by kernel_rfl) (run_load1 (fun w=>by kernel_rfl) ((hc12)))) ?_
  refine vcL_eff rfl (opVC_call rfl (by kernel_rfl) (callS.mono h fun v14 vw13 h=>?_))
  obtain ⟨t25, rfl, h⟩ := h
  refine vcL_pure rfl rfl (Sl.v t25) (fun w=>by kernel_rfl) ?_
  refine vcL_nil ?_
  refine Vc.ret ?_
  refine outs_ret ?_
  refine done_mk (Sl.v t25) (res1 (resC_tmp (by kernel_rfl))) ?_
  exact ⟨t25, rfl, h⟩
theorem wants_Range.go {zz0 : Sl} {zz1 : Sl} {zz2 : Sl} {zz3 : Sl} {zz2a : ByteArray} {zz2b : Sl} {w : World} {k : Value → World → Prop} (h : wants_Range zz0 zz1 zz2 zz3 zz2a zz2b w fun r0 w'=>k (Sl.v r0) w') : callS Tryz.prog 44 [(Value.agg #[(Sl.v zz0), (Sl.v zz1), (Sl.v zz2), (Sl.v zz3)]), (Value.agg #[(Value.string zz2a), (Sl.v zz2b)])] w k := (wants_Range.sound zz0 zz1 zz2 zz3 zz2a zz2b w _ h).mono (by rintro _ _ ⟨r0, rfl, h⟩; exact h)
def halyardref05_Spans (a : Sl) (b : Sl) (w : World) (R : Bool → World → Prop) : Prop :=
 ((¬ (a.len : Int) = (b.len : Int) → R false w) ∧ (¬ (¬ (a.len : Int) = (b.len : Int)) → loop1 0 w fun i vw nxt=>((i < (a.len : Int) → bnd vw.drew fun (vw1 : World)=>∃ (ad : Addr), (a.a = some ad ∧ (0 : Int) ≤ i ∧ i < (a.len : Int)) ∧ ∃ (zz2o : Int) (zz2p : Int) (zz2q : Int) (zz2l : Int) (zz2m : Int) (zz2n : Int), (ldc vw1 (ad.add (i.toNat * 6)) [(Value.int .i64 zz2o), (Value.int .i64 zz2p), (Value.int .i64 zz2q), (Value.int .i64 zz2l), (Value.int .i64 zz2m), (Value.int .i64 zz2n)]) ∧ ∃ (ad2 : Addr), (b.a = some ad2 ∧ (0 : Int) ≤ i ∧ i < (b.len : Int)) ∧ ∃ (zz2u : Int) (zz2v : Int) (zz2w : Int) (zz2r : Int) (zz2s : Int) (zz2t : Int), (ldc vw1 (ad2.add (i.toNat * 6)) [(Value.int .i64 zz2u), (Value.int .i64 zz2v), (Value.int .i64 zz2w), (Value.int .i64 zz2r), (Value.int .i64 zz2s), (Value.int .i64 zz2t)]) ∧ (((!(((zz2o == zz2u) && ((zz2p == zz2v) && ((zz2q == zz2w) && true))) && (((zz2l == zz2r) && ((zz2m == zz2s) && ((zz2n == zz2t) && true))) && true))) = true → R false vw1) ∧ ((!(((zz2o == zz2u) && ((zz2p == zz2v) && ((zz2q == zz2w) && true))) && (((zz2l == zz2r) && ((zz2m == zz2s) && ((zz2n == zz2t) && true))) && true))) = false → nxt (wrapI (i + 1)) vw1))) ∧ (¬ (i < (a.len : Int)) → R true vw))))
set_option maxHeartbeats 8000000 in
theorem halyardref05_Spans.sound (a : Sl) (b : Sl) (w : World) (R : Bool → World → Prop) (h : halyardref05_Spans a b w R) : callS Tryz.prog 45 [(Sl.v a), (Sl.v b)] w (fun v w'=>∃ (r0 : Bool), v = (Value.bool r0) ∧ R r0 w') := by
 unfold halyardref05_Spans at h
 refine calls_of_vc 26 rfl Tryz.func45 rfl (by kernel_rfl) (by simp) ?_
 refine Vc.seq ?_
 refine Vc.region ?_
 refine vcL_pure rfl rfl (Value.bool false) (fun w=>by kernel_rfl) ?_
 refine vcL_nil ?_
 refine Vc.seq ?_
 refine Vc.seq ?_
 refine Vc.region ?_
 refine vcL_purs 5 [(10, (Value.bool (!((a.len : Int) == (b.len : Int))))), (9, (Value.int .i64 (b.len : Int))), (8, (Sl.v b)), (7, (Value.int .i64 (a.len : Int))), (6, (Sl.v a))] (by kernel_rfl) ?_
 refine vcL_nil ?_
 refine Vc.cond (!((a.len : Int) == (b.len : Int))) (by kernel_rfl) (fun hb=>?_) (fun hb=>?_)
 ·have h := h.1 (ne_of_nbeq hb)
  refine Vc.seq ?_
  refine Vc.region ?_
  refine vcL_pure rfl rfl (Value.bool false) (fun w=>by kernel_rfl) ?_
  refine vcL_nil ?_
  refine Vc.ret ?_
  refine outs_ret ?_
  refine done_mk (Value.bool false) (res1 (resC_tmp (by kernel_rfl))) ?_
  exact ⟨false, rfl, h⟩
 ·have h := h.2 (nne_of_nbeq hb)
  refine Vc.skip ?_
  refine Vc.seq ?_
  refine Vc.seq ?_
  refine Vc.region ?_
  refine vcL_pure rfl rfl (Value.int .i64 0) (fun w=>by kernel_rfl) ?_
  refine vcL_nil ?_
  refine Vc.block ?_
  obtain ⟨vI, mu, h, hr⟩ := h
  refine Vc.loopJ (σ := Int) [5] [4, 11, 12, 13, 14, 15, 16, 17, 18, 19, 20, 21, 22, 23, 24, 25] (fun s=>[(5, (Value.int .i64 s))]) (fun s w=>vI s w) (fun s w=>mu s w) 0 h (fun _ => rfl) (by kernel_rfl) ?_
  intro i vw j h
  have h := hr i vw h
  refine Vc.seq ?_
  refine Vc.seq ?_
  refine Vc.region ?_
  refine vcL_purs 4 [(14, (Value.bool (decide (i < (a.len : Int))))), (13, (Value.int .i64 (a.len : Int))), (12, (Sl.v a)), (11, (Value.int .i64 i))] (by kernel_rfl) ?_
  refine vcL_nil ?_
  refine Vc.cond (decide (i < (a.len : Int))) (by kernel_rfl) (fun hb=>?_) (fun hb=>?_)
  ·have h := h.1 (of_decide_eq_true hb)
   refine Vc.skip ?_
   refine Vc.seq ?_
   refine Vc.block ?_
   refine Vc.seq ?_
   obtain ⟨vw1, hvw1⟩ : ∃ y, y = vw.drew := ⟨_, rfl⟩
   have h := h vw1 hvw1
   refine Vc.draw (by kernel_rfl) (fun i=>!(memN [] i)) (.pur 0 (.pur 1 (.pur 2 (.val 3 (.pur 4 (.pur 5 (.pur 6 (.val 7 (.pur 8 .fin))))))))) (by kernel_rfl) ?_
   rw [← hvw1]
   clear hvw1
   refine vcS_pure rfl rfl rfl (Sl.v a) (fun w=>by kernel_rfl) ?_
   refine vcS_pure rfl rfl rfl (Value.int .i64 i) (fun w=>by kernel_rfl) ?_
   obtain ⟨ad, hi, h⟩ := h
   refine vcS_pure rfl rfl rfl (Value.pointer (some (ad.add (i.toNat * 6)))) (fun w=>by exact exec_indexAt (s := a) (el := 83) rfl (by kernel_rfl) (by kernel_rfl) (by kernel_rfl) (fun w=>by kernel_rfl) (hi).1 (hi).2.1 (hi).2.2 w) ?_
   obtain ⟨zz2o, zz2p, zz2q, zz2l, zz2m, zz2n, hc, h⟩ := h
   refine vcS_val rfl rfl rfl (Value.agg #[(Value.int .i64 zz2o), (Value.int .i64 zz2p), (Value.int .i64 zz2q), (Value.int .i64 zz2l), (Value.int .i64 zz2m), (Value.int .i64 zz2n)]) (fun w' hx=>exec_load rfl (by kernel_rfl) (run_loadN (fun w=>by kernel_rfl) (fun w=>by kernel_rfl) ((hc).ext hx))) ?_
   refine vcS_pure rfl rfl rfl (Sl.v b) (fun w=>by kernel_rfl) ?_
   refine vcS_pure rfl rfl rfl (Value.int .i64 i) (fun w=>by kernel_rfl) ?_
   obtain ⟨ad2, hi3, h⟩ := h
   refine vcS_pure rfl rfl rfl (Value.pointer (some (ad2.add (i.toNat * 6)))) (fun w=>by exact exec_indexAt (s := b) (el := 83) rfl (by kernel_rfl) (by kernel_rfl) (by kernel_rfl) (fun w=>by kernel_rfl) (hi3).1 (hi3).2.1 (hi3).2.2 w) ?_
   obtain ⟨zz2u, zz2v, zz2w, zz2r, zz2s, zz2t, hc4, h⟩ := h
   refine vcS_val rfl rfl rfl (Value.agg #[(Value.int .i64 zz2u), (Value.int .i64 zz2v), (Value.int .i64 zz2w), (Value.int .i64 zz2r), (Value.int .i64 zz2s), (Value.int .i64 zz2t)]) (fun w' hx=>exec_load rfl (by kernel_rfl) (run_loadN (fun w=>by kernel_rfl) (fun w=>by kernel_rfl) ((hc4).ext hx))) ?_
   refine vcS_pure rfl rfl rfl (Value.bool (!(((zz2o == zz2u) && ((zz2p == zz2v) && ((zz2q == zz2w) && true))) && (((zz2l == zz2r) && ((zz2m == zz2s) && ((zz2n == zz2t) && true))) && true)))) (fun w=>by exact exec_struct_neq rfl (by kernel_rfl) (by kernel_rfl) (by kernel_rfl) (eqv_83 9997 zz2o zz2p zz2q zz2l zz2m zz2n zz2u zz2v zz2w zz2r zz2s zz2t w)) ?_
   refine vcS_fin ?_
   refine Vc.cond (!(((zz2o == zz2u) && ((zz2p == zz2v) && ((zz2q == zz2w) && true))) && (((zz2l == zz2r) && ((zz2m == zz2s) && ((zz2n == zz2t) && true))) && true))) (by kernel_rfl) (fun hb=>?_) (fun hb=>?_)
   ·have h := h.1 (hb)
    refine Vc.seq ?_
    refine Vc.region ?_
    refine vcL_pure rfl rfl (Value.bool false) (fun w=>by kernel_rfl) ?_
    refine vcL_nil ?_
    refine Vc.ret ?_
    refine outOf_ret ?_
    refine outOf_ret ?_
    refine outs_ret ?_
    refine done_mk (Value.bool false) (res1 (resC_tmp (by kernel_rfl))) ?_
    exact ⟨false, rfl, h⟩
   ·have h := h.2 (hb)
    refine Vc.skip ?_
    refine Vc.region ?_
    refine vcL_purs 3 [(5, (Value.int .i64 (wrapI (i + 1)))), (16, (Value.int .i64 (wrapI (i + 1)))), (15, (Value.int .i64 i))] (by kernel_rfl) ?_
    refine vcL_nil ?_
    exact ⟨(wrapI (i + 1)), 33, ⟨rfl, by kernel_rfl, by kernel_rfl, by kernel_rfl⟩, h⟩
  ·have h := h.2 (of_decide_eq_false hb)
   refine Vc.exit ?_
   refine outOf_hit ?_
   refine Vc.seq ?_
   refine Vc.region ?_
   refine vcL_pure rfl rfl (Value.bool true) (fun w=>by kernel_rfl) ?_
   refine vcL_nil ?_
   refine Vc.ret ?_
   refine outs_ret ?_
   refine done_mk (Value.bool true) (res1 (resC_tmp (by kernel_rfl))) ?_
   exact ⟨true, rfl, h⟩
theorem halyardref05_Spans.go {a : Sl} {b : Sl} {w : World} {k : Value → World → Prop} (h : halyardref05_Spans a b w fun r0 w'=>k (Value.bool r0) w') : callS Tryz.prog 45 [(Sl.v a), (Sl.v b)] w k := (halyardref05_Spans.sound a b w _ h).mono (by rintro _ _ ⟨r0, rfl, h⟩; exact h)
def halyardref03_All (w : World) (R : Sl → World → Prop) : Prop :=
 callS Tryz.prog 96 [(Value.int .i64 0)] w fun v vw=>∃ (zz4o : Int) (zz4p : Int) (zz4q : Int), v = (Value.agg #[(Value.int .i64 zz4o), (Value.int .i64 zz4p), (Value.int .i64 zz4q)]) ∧ callS Tryz.prog 96 [(Value.int .i64 999999999)] vw fun v2 vw1=>∃ (zz55 : Int) (zz56 : Int) (zz57 : Int), v2 = (Value.agg #[(Value.int .i64 zz55), (Value.int .i64 zz56), (Value.int .i64 zz57)]) ∧ newS vw1 [(Value.int .i64 zz4o), (Value.int .i64 zz4p), (Value.int .i64 zz4q), (Value.int .i64 zz55), (Value.int .i64 zz56), (Value.int .i64 zz57)] 83 fun a vw4=>R (Sl.mk (some a) 1 1) vw4
set_option maxHeartbeats 8000000 in
theorem halyardref03_All.sound (w : World) (R : Sl → World → Prop) (h : halyardref03_All w R) : callS Tryz.prog 49 [] w (fun v w'=>∃ (r0 : Sl), v = (Sl.v r0) ∧ R r0 w') := by
 unfold halyardref03_All at h
 refine calls_of_vc 5 rfl Tryz.func49 rfl (by kernel_rfl) (by simp) ?_
 refine Vc.seq ?_
 refine Vc.region ?_
 refine vcL_pure rfl rfl (Sl.v Sl.nil) (fun w=>by kernel_rfl) ?_
 refine vcL_nil ?_
 refine Vc.seq ?_
 refine Vc.region ?_
 refine vcL_eff rfl (opVC_call rfl (by kernel_rfl) (callS.mono h fun v vw h=>?_))
 obtain ⟨zz4o, zz4p, zz4q, rfl, h⟩ := h
 refine vcL_eff rfl (opVC_call rfl (by kernel_rfl) (callS.mono h fun v2 vw1 h=>?_))
 obtain ⟨zz55, zz56, zz57, rfl, h⟩ := h
 refine vcL_pure rfl rfl (Value.agg #[(Value.int .i64 zz4o), (Value.int .i64 zz4p), (Value.int .i64 zz4q), (Value.int .i64 zz55), (Value.int .i64 zz56), (Value.int .i64 zz57)]) (fun w=>by kernel_rfl) ?_
 refine vcL_eff rfl (opVC_new rfl (fun a=>Value.slice (some a) 1 1) (by kernel_rfl) (newS.mono h fun a vw4 hx h=>?_))
 refine vcL_pure rfl rfl (Sl.v (Sl.mk (some a) 1 1)) (fun w=>by kernel_rfl) ?_
 refine vcL_nil ?_
 refine Vc.ret ?_
 refine outs_ret ?_
 refine done_mk (Sl.v (Sl.mk (some a) 1 1)) (res1 (resC_tmp (by kernel_rfl))) ?_
 exact ⟨(Sl.mk (some a) 1 1), rfl, h⟩
theorem halyardref03_All.go {w : World} {k : Value → World → Prop} (h : halyardref03_All w fun r0 w'=>k (Sl.v r0) w') : callS Tryz.prog 49 [] w k := (halyardref03_All.sound w _ h).mono (by rintro _ _ ⟨r0, rfl, h⟩; exact h)
def wants_Context_1 (name : ByteArray) (w : World) (R : Value → World → Prop) : Prop :=
 newS w [(Value.string name)] 9 fun a vw=>R (Value.func (.func 51) #[] #[(Value.pointer (some a))]) vw
set_option maxHeartbeats 8000000 in
theorem wants_Context_1.sound (name : ByteArray) (w : World) (R : Value → World → Prop) (h : wants_Context_1 name w R) : callS Tryz.prog 50 [(Value.string name)] w (fun v w'=>∃ (r0 : Value), v = r0 ∧ R r0 w') := by
 unfold wants_Context_1 at h
 refine calls_of_vc 4 rfl Tryz.func50 rfl (by kernel_rfl) (by simp) ?_
 refine Vc.seq ?_
 refine Vc.region ?_
 refine vcL_eff rfl (opVC_new rfl (fun a=>Value.pointer (some a)) (by kernel_rfl) (newS.mono h fun a vw hx h=>?_))
 refine vcL_pure rfl rfl Value.nilFunc (fun w=>by kernel_rfl) ?_
 refine vcL_nil ?_
 refine Vc.seq ?_
 refine Vc.region ?_
 refine vcL_purs 2 [(2, (Value.func (.func 51) #[] #[(Value.pointer (some a))])), (3, (Value.func (.func 51) #[] #[(Value.pointer (some a))]))] (by kernel_rfl) ?_
 refine vcL_nil ?_
 refine Vc.ret ?_
 refine outs_ret ?_
 refine done_mk (Value.func (.func 51) #[] #[(Value.pointer (some a))]) (res1 (resC_tmp (by kernel_rfl))) ?_
 exact ⟨(Value.func (.func 51) #[] #[(Value.pointer (some a))]), rfl, h⟩
theorem wants_Context_1.go {name : ByteArray} {w : World} {k : Value → World → Prop} (h : wants_Context_1 name w fun r0 w'=>k r0 w') : callS Tryz.prog 50 [(Value.string name)] w k := (wants_Context_1.sound name w _ h).mono (by rintro _ _ ⟨r0, rfl, h⟩; exact h)
def wants_Context_1_1 (zz2c : ByteArray) (zz2d : Int) (zz2e : Int) (zz2f : Int) (c0 : Addr) (w : World) (R : Bool → World → Prop) : Prop :=
 newS w [(Value.string zz2c), (Value.int .i64 zz2d), (Value.int .i64 zz2e), (Value.int .i64 zz2f)] 32 fun a vw=>∃ (t5 : ByteArray), (ldc vw a [(Value.string t5)]) ∧ ∃ (t6 : ByteArray), (ldc vw c0 [(Value.string t6)]) ∧ R (bEq t5 t6) vw
set_option maxHeartbeats 8000000 in
theorem wants_Context_1_1.sound (zz2c : ByteArray) (zz2d : Int) (zz2e : Int) (zz2f : Int) (c0 : Addr) (w : World) (R : Bool → World → Prop) (h : wants_Context_1_1 zz2c zz2d zz2e zz2f c0 w R) : callS Tryz.prog 51 [(Value.agg #[(Value.string zz2c), (Value.int .i64 zz2d), (Value.int .i64 zz2e), (Value.int .i64 zz2f)]), (Value.pointer (some c0))] w (fun v w'=>∃ (r0 : Bool), v = (Value.bool r0) ∧ R r0 w') := by
 unfold wants_Context_1_1 at h
 refine calls_of_vc 8 rfl Tryz.func51 rfl (by kernel_rfl) (by simp) ?_
 refine Vc.seq ?_
 refine Vc.region ?_
 refine vcL_eff rfl (opVC_new rfl (fun a=>Value.pointer (some a)) (by kernel_rfl) (newS.mono h fun a vw hx h=>?_))
 refine vcL_pure rfl rfl (Value.bool false) (fun w=>by kernel_rfl) ?_
 refine vcL_nil ?_
 refine Vc.seq ?_
 refine Vc.region ?_
 refine vcL_pure rfl rfl (Value.pointer (some a)) (fun w=>by kernel_rfl) ?_
 obtain ⟨t5, hc, h⟩ := h
 refine vcL_val rfl rfl (Value.string t5) (exec_load rfl (by kernel_rfl) (run_load1 (fun w=>by kernel_rfl) ((hc)))) ?_
 obtain ⟨t6, hc1, h⟩ := h
 refine vcL_val rfl rfl (Value.string t6) (exec_load rfl (by kernel_rfl) (run_load1 (fun w=>by kernel_rfl) ((hc1)))) ?_
 refine vcL_purs 2 [(3, (Value.bool (bEq t5 t6))), (7, (Value.bool (bEq t5 t6)))] (by kernel_rfl) ?_
 refine vcL_nil ?_
 refine Vc.ret ?_
 refine outs_ret ?_
 refine done_mk (Value.bool (bEq t5 t6)) (res1 (resC_tmp (by kernel_rfl))) ?_
 exact ⟨(bEq t5 t6), rfl, h⟩
theorem wants_Context_1_1.go {zz2c : ByteArray} {zz2d : Int} {zz2e : Int} {zz2f : Int} {c0 : Addr} {w : World} {k : Value → World → Prop} (h : wants_Context_1_1 zz2c zz2d zz2e zz2f c0 w fun r0 w'=>k (Value.bool r0) w') : callS Tryz.prog 51 [(Value.agg #[(Value.string zz2c), (Value.int .i64 zz2d), (Value.int .i64 zz2e), (Value.int .i64 zz2f)]), (Value.pointer (some c0))] w k := (wants_Context_1_1.sound zz2c zz2d zz2e zz2f c0 w _ h).mono (by rintro _ _ ⟨r0, rfl, h⟩; exact h)
def slices_IndexFunc_apiPinapiPin (vs : Sl) (f : Value) (w : World) (R : Int → World → Prop) : Prop :=
 loop1 0 w fun t8 vw nxt=>((t8 < (vs.len : Int) → ∃ (ad : Addr), (vs.a = some ad ∧ (0 : Int) ≤ t8 ∧ t8 < (vs.len : Int)) ∧ ∃ (zzy : ByteArray) (zzz : Int) (zz10 : Int) (zz11 : Int), (ldc vw (ad.add (t8.toNat * 4)) [(Value.string zzy), (Value.int .i64 zzz), (Value.int .i64 zz10), (Value.int .i64 zz11)]) ∧ callV Tryz.prog f [(Value.agg #[(Value.string zzy), (Value.int .i64 zzz), (Value.int .i64 zz10), (Value.int .i64 zz11)])] vw fun v vw1=>∃ (t16 : Bool), v = (Value.bool t16) ∧ ((t16 = true → R t8 vw1) ∧ (t16 = false → nxt (wrapI (t8 + 1)) vw1))) ∧ (¬ (t8 < (vs.len : Int)) → R (-1) vw))
set_option maxHeartbeats 8000000 in
theorem slices_IndexFunc_apiPinapiPin.sound (vs : Sl) (f : Value) (w : World) (R : Int → World → Prop) (h : slices_IndexFunc_apiPinapiPin vs f w R) : callS Tryz.prog 52 [(Sl.v vs), f] w (fun v w'=>∃ (r0 : Int), v = (Value.int .i64 r0) ∧ R r0 w') := by
 unfold slices_IndexFunc_apiPinapiPin at h
 refine calls_of_vc 19 rfl Tryz.func52 rfl (by kernel_rfl) (by simp) ?_
 refine Vc.seq ?_
 refine Vc.region ?_
 refine vcL_pure rfl rfl (Value.int .i64 0) (fun w=>by kernel_rfl) ?_
 refine vcL_nil ?_
 refine Vc.seq ?_
 refine Vc.seq ?_
 refine Vc.region ?_
 refine vcL_purs 3 [(8, (Value.int .i64 0)), (7, (Value.int .i64 (vs.len : Int))), (6, (Sl.v vs))] (by kernel_rfl) ?_
 refine vcL_nil ?_
 refine Vc.block ?_
 obtain ⟨vI, mu, h, hr⟩ := h
 refine Vc.loopJ (σ := Int) [8] [4, 5, 9, 10, 11, 12, 13, 14, 15, 16, 17, 18] (fun s=>[(8, (Value.int .i64 s))]) (fun s w=>vI s w) (fun s w=>mu s w) 0 h (fun _ => rfl) (by kernel_rfl) ?_
 intro t8 vw j h
 have h := hr t8 vw h
 refine Vc.seq ?_
 refine Vc.region ?_
 refine vcL_pure rfl rfl (Value.bool (decide (t8 < (vs.len : Int)))) (fun w=>by kernel_rfl) ?_
 refine vcL_nil ?_
 refine Vc.seq ?_
 refine Vc.cond (decide (t8 < (vs.len : Int))) (by kernel_rfl) (fun hb=>?_) (fun hb=>?_)
 ·have h := h.1 (of_decide_eq_true hb)
  refine Vc.skip ?_
  refine Vc.seq ?_
  refine Vc.block ?_
  refine Vc.seq ?_
  refine Vc.region ?_
  refine vcL_purs 2 [(5, (Value.int .i64 t8)), (10, (Value.int .i64 t8))] (by kernel_rfl) ?_
  refine vcL_nil ?_
  refine Vc.seq ?_
  refine Vc.region ?_
  refine vcL_purs 3 [(13, (Value.int .i64 t8)), (12, (Sl.v vs)), (11, f)] (by kernel_rfl) ?_
  obtain ⟨ad, hi, h⟩ := h
  refine vcL_pure rfl rfl (Value.pointer (some (ad.add (t8.toNat * 4)))) (fun w=>by exact exec_indexAt (s := vs) (el := 32) rfl (by kernel_rfl) (by kernel_rfl) (by kernel_rfl) (fun w=>by kernel_rfl) (hi).1 (hi).2.1 (hi).2.2 w) ?_
  obtain ⟨zzy, zzz, zz10, zz11, hc, h⟩ := h
  refine vcL_val rfl rfl (Value.agg #[(Value.string zzy), (Value.int .i64 zzz), (Value.int .i64 zz10), (Value.int .i64 zz11)]) (exec_load rfl (by kernel_rfl) (run_loadN (fun w=>by kernel_rfl) (fun w=>by kernel_rfl) ((hc)))) ?_
  refine vcL_eff rfl (opVC_callV rfl rfl (fv := f) (by kernel_rfl) (args := [(Value.agg #[(Value.string zzy), (Value.int .i64 zzz), (Value.int .i64 zz10), (Value.int .i64 zz11)])]) (by kernel_rfl) (callV.mono h fun v vw1 h=>?_))
  obtain ⟨t16, rfl, h⟩ := h
  refine vcL_nil ?_
  refine Vc.cond t16 (by kernel_rfl) (fun hb=>?_) (fun hb=>?_)
  ·have h := h.1 (hb)
   refine Vc.seq ?_
   refine Vc.region ?_
   refine vcL_purs 2 [(4, (Value.int .i64 t8)), (17, (Value.int .i64 t8))] (by kernel_rfl) ?_
   refine vcL_nil ?_
   refine Vc.ret ?_
   refine outOf_ret ?_
   refine outOf_ret ?_
   refine outs_ret ?_
   refine done_mk (Value.int .i64 t8) (res1 (resC_tmp (by kernel_rfl))) ?_
   exact ⟨t8, rfl, h⟩
  ·have h := h.2 (hb)
   refine Vc.skip ?_
   refine Vc.region ?_
   refine vcL_purs 2 [(8, (Value.int .i64 (wrapI (t8 + 1)))), (18, (Value.int .i64 (wrapI (t8 + 1))))] (by kernel_rfl) ?_
   refine vcL_nil ?_
   exact ⟨(wrapI (t8 + 1)), 24, ⟨rfl, by kernel_rfl, by kernel_rfl, by kernel_rfl⟩, h⟩
 ·have h := h.2 (of_decide_eq_false hb)
  refine Vc.exit ?_
  refine outOf_hit ?_
  refine Vc.seq ?_
  refine Vc.region ?_
  refine vcL_pure rfl rfl (Value.int .i64 (-1)) (fun w=>by kernel_rfl) ?_
  refine vcL_nil ?_
  refine Vc.ret ?_
  refine outs_ret ?_
  refine done_mk (Value.int .i64 (-1)) (res1 (resC_tmp (by kernel_rfl))) ?_
  exact ⟨(-1), rfl, h⟩
theorem slices_IndexFunc_apiPinapiPin.go {vs : Sl} {f : Value} {w : World} {k : Value → World → Prop} (h : slices_IndexFunc_apiPinapiPin vs f w fun r0 w'=>k (Value.int .i64 r0) w') : callS Tryz.prog 52 [(Sl.v vs), f] w k := (slices_IndexFunc_apiPinapiPin.sound vs f w _ h).mono (by rintro _ _ ⟨r0, rfl, h⟩; exact h)
def span_In (l : Sl) (zzb : Int) (zzc : Int) (zzd : Int) (w : World) (R : Bool → World → Prop) : Prop :=
 newS w [(Value.int .i64 zzb), (Value.int .i64 zzc), (Value.int .i64 zzd)] 30 fun a vw=>callS Tryz.prog 91 [(Sl.v l)] vw fun v vw1=>∃ (t6 : Bool), v = (Value.bool t6) ∧ ∃ (zz1z : Int) (zz20 : Int) (zz21 : Int), grd t6 (ldc vw1 a [(Value.int .i64 zz1z), (Value.int .i64 zz20), (Value.int .i64 zz21)]) ∧ gCall t6 (fun (t9 : Bool) (vw2 : World)=>bnd (t6 && t9) fun (b : Bool)=>gCall b (fun (t14 : Bool) (vw5 : World)=>R (b && t14) vw5) (fun q=>callS Tryz.prog 98 [(Sl.v l), (Value.func (.func 99) #[] #[(Value.pointer (some a))])] vw2 fun v6 vw5=>∃ (t14 : Bool), v6 = (Value.bool t14) ∧ q t14 vw5) (fun q=>q false vw2)) (fun q=>callS Tryz.prog 97 [(Value.agg #[(Value.int .i64 zz1z), (Value.int .i64 zz20), (Value.int .i64 zz21)])] vw1 fun v3 vw2=>∃ (t9 : Bool), v3 = (Value.bool t9) ∧ q t9 vw2) (fun q=>q false vw1)
set_option maxHeartbeats 8000000 in
theorem span_In.sound (l : Sl) (zzb : Int) (zzc : Int) (zzd : Int) (w : World) (R : Bool → World → Prop) (h : span_In l zzb zzc zzd w R) : callS Tryz.prog 53 [(Sl.v l), (Value.agg #[(Value.int .i64 zzb), (Value.int .i64 zzc), (Value.int .i64 zzd)])] w (fun v w'=>∃ (r0 : Bool), v = (Value.bool r0) ∧ R r0 w') := by
 unfold span_In at h
 refine calls_of_vc 16 rfl Tryz.func53 rfl (by kernel_rfl) (by simp) ?_
 refine Vc.seq ?_
 refine Vc.region ?_
 refine vcL_eff rfl (opVC_new rfl (fun a=>Value.pointer (some a)) (by kernel_rfl) (newS.mono h fun a vw hx h=>?_))
 refine vcL_pure rfl rfl (Value.bool false) (fun w=>by kernel_rfl) ?_
 refine vcL_nil ?_
 refine Vc.seq ?_
 refine Vc.region ?_
 refine vcL_pure rfl rfl (Sl.v l) (fun w=>by kernel_rfl) ?_
 refine vcL_eff rfl (opVC_call rfl (by kernel_rfl) (callS.mono h fun v vw1 h=>?_))
 obtain ⟨t6, rfl, h⟩ := h
 refine vcL_pure rfl rfl (Value.bool t6) (fun w=>by kernel_rfl) ?_
 obtain ⟨zz1z, zz20, zz21, hc, h⟩ := h
 refine vcL_guard t6 (wanted_g (d := 7) rfl (by kernel_rfl) t6 (by kernel_rfl) t6 (eqT t6)) rfl (Value.agg #[(Value.int .i64 zz1z), (Value.int .i64 zz20), (Value.int .i64 zz21)]) (fun hg=>by subst hg; exact exec_load rfl (by kernel_rfl) (run_loadN (fun w=>by kernel_rfl) (fun w=>by kernel_rfl) ((hc rfl)))) ?_
 obtain ⟨vJ, hJ, h⟩ := gCall_elim h
 refine vcL_effJ (σ := Bool) t6 (wanted_g (d := 7) rfl (by kernel_rfl) t6 (by kernel_rfl) t6 (eqT t6)) rfl (fun s w=>vJ s w) (fun s=>(Value.bool s)) ?_ (fun hg=>opVC_call rfl (by subst hg; kernel_rfl) (callS.mono (h.1 hg) fun v3 vw2 hq=>?_)) (fun hg=>⟨false, h.2 hg⟩)
 ·intro t9 vw2 h
  subst hJ
  refine vcL_pure rfl rfl (Value.bool (t6 && t9)) (fun w=>by cases t6 <;> kernel_rfl) ?_
  obtain ⟨b, hb⟩ : ∃ y, y = (t6 && t9) := ⟨_, rfl⟩
  have h := h b hb
  refine vcL_pure rfl rfl (Value.bool b) (fun w=>by rw [hb]; kernel_rfl) ?_
  refine vcL_guardP b (wanted_g (d := 11) rfl (by kernel_rfl) b (by kernel_rfl) b (eqT b)) rfl (Sl.v l) (fun hg w=>by subst hg; kernel_rfl) ?_
  refine vcL_guardP b (wanted_g (d := 11) rfl (by kernel_rfl) b (by kernel_rfl) b (eqT b)) rfl (Value.func (.func 99) #[] #[(Value.pointer (some a))]) (fun hg w=>by subst hg; kernel_rfl) ?_
  obtain ⟨vJ8, hJ9, h⟩ := gCall_elim h
  refine vcL_effJ (σ := Bool) b (wanted_g (d := 11) rfl (by kernel_rfl) b (by kernel_rfl) b (eqT b)) rfl (fun s w=>vJ8 s w) (fun s=>(Value.bool s)) ?_ (fun hg=>opVC_call rfl (by subst hg; kernel_rfl) (callS.mono (h.1 hg) fun v6 vw5 hq=>?_)) (fun hg=>⟨false, h.2 hg⟩)
  ·intro t14 vw5 h
   subst hJ9
   refine vcL_pure rfl rfl (Value.bool (b && t14)) (fun w=>by cases b <;> kernel_rfl) ?_
   refine vcL_pure rfl rfl (Value.bool (b && t14)) (fun w=>by kernel_rfl) ?_
   refine vcL_nil ?_
   refine Vc.ret ?_
   refine outs_ret ?_
   refine done_mk (Value.bool (b && t14)) (res1 (resC_tmp (by kernel_rfl))) ?_
   exact ⟨(b && t14), rfl, h⟩
  ·obtain ⟨t14, rfl, hq⟩ := hq
   exact ⟨t14, rfl, hq⟩
 ·obtain ⟨t9, rfl, hq⟩ := hq
  exact ⟨t9, rfl, hq⟩
theorem span_In.go {l : Sl} {zzb : Int} {zzc : Int} {zzd : Int} {w : World} {k : Value → World → Prop} (h : span_In l zzb zzc zzd w fun r0 w'=>k (Value.bool r0) w') : callS Tryz.prog 53 [(Sl.v l), (Value.agg #[(Value.int .i64 zzb), (Value.int .i64 zzc), (Value.int .i64 zzd)])] w k := (span_In.sound l zzb zzc zzd w _ h).mono (by rintro _ _ ⟨r0, rfl, h⟩; exact h)
def slices_ContainsFunc_apiPinapiPin (vs : Sl) (f : Value) (w : World) (R : Bool → World → Prop) : Prop :=
 callS Tryz.prog 52 [(Sl.v vs), f] w fun v vw=>∃ (t7 : Int), v = (Value.int .i64 t7) ∧ R (decide (0 ≤ t7)) vw
set_option maxHeartbeats 8000000 in
theorem slices_ContainsFunc_apiPinapiPin.sound (vs : Sl) (f : Value) (w : World) (R : Bool → World → Prop) (h : slices_ContainsFunc_apiPinapiPin vs f w R) : callS Tryz.prog 54 [(Sl.v vs), f] w (fun v w'=>∃ (r0 : Bool), v = (Value.bool r0) ∧ R r0 w') := by
 unfold slices_ContainsFunc_apiPinapiPin at h
 refine calls_of_vc 9 rfl Tryz.func54 rfl (by kernel_rfl) (by simp) ?_
 refine Vc.seq ?_
 refine Vc.region ?_
 refine vcL_pure rfl rfl (Value.bool false) (fun w=>by kernel_rfl) ?_
 refine vcL_nil ?_
 refine Vc.seq ?_
 refine Vc.region ?_
 refine vcL_purs 2 [(6, f), (5, (Sl.v vs))] (by kernel_rfl) ?_
 refine vcL_eff rfl (opVC_call rfl (by kernel_rfl) (callS.mono h fun v vw h=>?_))
 obtain ⟨t7, rfl, h⟩ := h
 refine vcL_purs 2 [(4, (Value.bool (decide (0 ≤ t7)))), (8, (Value.bool (decide (0 ≤ t7))))] (by kernel_rfl) ?_
 refine vcL_nil ?_
 refine Vc.ret ?_
 refine outs_ret ?_
 refine done_mk (Value.bool (decide (0 ≤ t7))) (res1 (resC_tmp (by kernel_rfl))) ?_
 exact ⟨(decide (0 ≤ t7)), rfl, h⟩
theorem slices_ContainsFunc_apiPinapiPin.go {vs : Sl} {f : Value} {w : World} {k : Value → World → Prop} (h : slices_ContainsFunc_apiPinapiPin vs f w fun r0 w'=>k (Value.bool r0) w') : callS Tryz.prog 54 [(Sl.v vs), f] w k := (slices_ContainsFunc_apiPinapiPin.sound vs f w _ h).mono (by rintro _ _ ⟨r0, rfl, h⟩; exact h)
def wants_Context_2 (zz22 : ByteArray) (zz23 : Int) (zz24 : Int) (zz25 : Int) (zz26 : ByteArray) (zz27 : Int) (zz28 : Int) (zz29 : Int) (w : World) (R : Int → World → Prop) : Prop :=
 newS w [(Value.string zz22), (Value.int .i64 zz23), (Value.int .i64 zz24), (Value.int .i64 zz25)] 32 fun a vw=>newS vw [(Value.string zz26), (Value.int .i64 zz27), (Value.int .i64 zz28), (Value.int .i64 zz29)] 32 fun a1 vw2=>∃ (t6 : ByteArray), (ldc vw2 a [(Value.string t6)]) ∧ ∃ (t8 : ByteArray), (ldc vw2 a1 [(Value.string t8)]) ∧ callS Tryz.prog 57 [(Value.string t6), (Value.string t8)] vw2 fun v vw4=>∃ (t9 : Int), v = (Value.int .i64 t9) ∧ R t9 vw4
set_option maxHeartbeats 8000000 in
theorem wants_Context_2.sound (zz22 : ByteArray) (zz23 : Int) (zz24 : Int) (zz25 : Int) (zz26 : ByteArray) (zz27 : Int) (zz28 : Int) (zz29 : Int) (w : World) (R : Int → World → Prop) (h : wants_Context_2 zz22 zz23 zz24 zz25 zz26 zz27 zz28 zz29 w R) : callS Tryz.prog 56 [(Value.agg #[(Value.string zz22), (Value.int .i64 zz23), (Value.int .i64 zz24), (Value.int .i64 zz25)]), (Value.agg #[(Value.string zz26), (Value.int .i64 zz27), (Value.int .i64 zz28), (Value.int .i64 zz29)])] w (fun v w'=>∃ (r0 : Int), v = (Value.int .i64 r0) ∧ R r0 w') := by
 unfold wants_Context_2 at h
 refine calls_of_vc 10 rfl Tryz.func56 rfl (by kernel_rfl) (by simp) ?_
 refine Vc.seq ?_
 refine Vc.region ?_
 refine vcL_eff rfl (opVC_new rfl (fun a=>Value.pointer (some a)) (by kernel_rfl) (newS.mono h fun a vw hx h=>?_))
 refine vcL_eff rfl (opVC_new rfl (fun a=>Value.pointer (some a)) (by kernel_rfl) (newS.mono h fun a1 vw2 hx h=>?_))
 refine vcL_pure rfl rfl (Value.int .i64 0) (fun w=>by kernel_rfl) ?_
 refine vcL_nil ?_
 refine Vc.seq ?_
 refine Vc.region ?_
 refine vcL_pure rfl rfl (Value.pointer (some a)) (fun w=>by kernel_rfl) ?_
 obtain ⟨t6, hc, h⟩ := h
 refine vcL_val rfl rfl (Value.string t6) (exec_load rfl (by kernel_rfl) (run_load1 (fun w=>by kernel_rfl) ((hc)))) ?_
 refine vcL_pure rfl rfl (Value.pointer (some a1)) (fun w=>by kernel_rfl) ?_
 obtain ⟨t8, hc3, h⟩ := h
 refine vcL_val rfl rfl (Value.string t8) (exec_load rfl (by kernel_rfl) (run_load1 (fun w=>by kernel_rfl) ((hc3)))) ?_
 refine vcL_eff rfl (opVC_call rfl (by kernel_rfl) (callS.mono h fun v vw4 h=>?_))
 obtain ⟨t9, rfl, h⟩ := h
 refine vcL_pure rfl rfl (Value.int .i64 t9) (fun w=>by kernel_rfl) ?_
 refine vcL_nil ?_
 refine Vc.ret ?_
 refine outs_ret ?_
 refine done_mk (Value.int .i64 t9) (res1 (resC_tmp (by kernel_rfl))) ?_
 exact ⟨t9, rfl, h⟩
theorem wants_Context_2.go {zz22 : ByteArray} {zz23 : Int} {zz24 : Int} {zz25 : Int} {zz26 : ByteArray} {zz27 : Int} {zz28 : Int} {zz29 : Int} {w : World} {k : Value → World → Prop} (h : wants_Context_2 zz22 zz23 zz24 zz25 zz26 zz27 zz28 zz29 w fun r0 w'=>k (Value.int .i64 r0) w') : callS Tryz.prog 56 [(Value.agg #[(Value.string zz22), (Value.int .i64 zz23), (Value.int .i64 zz24), (Value.int .i64 zz25)]), (Value.agg #[(Value.string zz26), (Value.int .i64 zz27), (Value.int .i64 zz28), (Value.int .i64 zz29)])] w k := (wants_Context_2.sound zz22 zz23 zz24 zz25 zz26 zz27 zz28 zz29 w _ h).mono (by rintro _ _ ⟨r0, rfl, h⟩; exact h)
def slices_Clip_apiPinapiPin (vs : Sl) (w : World) (R : Sl → World → Prop) : Prop :=
 ((0 : Int) ≤ 0 ∧ 0 ≤ (vs.len : Int) ∧ (vs.len : Int) ≤ (vs.len : Int) ∧ (vs.len : Int) ≤ (vs.cap : Int)) ∧ R (Sl.mk (if (vs.len : Int).toNat = 0 then vs.a else vs.a.map (·.add (0 * 4))) ((vs.len : Int).toNat - 0) ((vs.len : Int).toNat - 0)) w
set_option maxHeartbeats 8000000 in
theorem slices_Clip_apiPinapiPin.sound (vs : Sl) (w : World) (R : Sl → World → Prop) (h : slices_Clip_apiPinapiPin vs w R) : callS Tryz.prog 58 [(Sl.v vs)] w (fun v w'=>∃ (r0 : Sl), v = (Sl.v r0) ∧ R r0 w') := by
 unfold slices_Clip_apiPinapiPin at h
 refine calls_of_vc 9 rfl Tryz.func58 rfl (by kernel_rfl) (by simp) ?_
 refine Vc.seq ?_
 refine Vc.region ?_
 refine vcL_pure rfl rfl (Sl.v Sl.nil) (fun w=>by kernel_rfl) ?_
 refine vcL_nil ?_
 refine Vc.seq ?_
 refine Vc.region ?_
 refine vcL_purs 5 [(7, (Value.int .i64 (vs.len : Int))), (6, (Sl.v vs)), (5, (Value.int .i64 (vs.len : Int))), (4, (Sl.v vs)), (3, (Sl.v vs))] (by kernel_rfl) ?_
 obtain ⟨hi, h⟩ := h
 refine vcL_pure rfl rfl (Sl.v (Sl.mk (if (vs.len : Int).toNat = 0 then vs.a else vs.a.map (·.add (0 * 4))) ((vs.len : Int).toNat - 0) ((vs.len : Int).toNat - 0))) (fun w=>by exact exec_slSlHM (s := vs) (el := 32) (k2 := .i64) (k3 := .i64) rfl (by kernel_rfl) (by kernel_rfl) (by kernel_rfl) (by kernel_rfl) (fun w=>by kernel_rfl) (hi) w) ?_
 refine vcL_pure rfl rfl (Sl.v (Sl.mk (if (vs.len : Int).toNat = 0 then vs.a else vs.a.map (·.add (0 * 4))) ((vs.len : Int).toNat - 0) ((vs.len : Int).toNat - 0))) (fun w=>by kernel_rfl) ?_
 refine vcL_nil ?_
 refine Vc.ret ?_
 refine outs_ret ?_
 refine done_mk (Sl.v (Sl.mk (if (vs.len : Int).toNat = 0 then vs.a else vs.a.map (·.add (0 * 4))) ((vs.len : Int).toNat - 0) ((vs.len : Int).toNat - 0))) (res1 (resC_tmp (by kernel_rfl))) ?_
 exact ⟨(Sl.mk (if (vs.len : Int).toNat = 0 then vs.a else vs.a.map (·.add (0 * 4))) ((vs.len : Int).toNat - 0) ((vs.len : Int).toNat - 0)), rfl, h⟩
theorem slices_Clip_apiPinapiPin.go {vs : Sl} {w : World} {k : Value → World → Prop} (h : slices_Clip_apiPinapiPin vs w fun r0 w'=>k (Sl.v r0) w') : callS Tryz.prog 58 [(Sl.v vs)] w k := (slices_Clip_apiPinapiPin.sound vs w _ h).mono (by rintro _ _ ⟨r0, rfl, h⟩; exact h)
def pack_May (zz4 : ByteArray) (zz5 : Int) (zz6 : Int) (zz7 : Int) (zz8 : Sl) (zza : Sl) (zz9 : Sl) (w : World) (R : Bool → World → Prop) : Prop :=
 newS w [(Value.string zz4), (Value.int .i64 zz5), (Value.int .i64 zz6), (Value.int .i64 zz7), (Sl.v zz8), (Sl.v zza), (Sl.v zz9)] 48 fun a vw=>∃ (t4 : ByteArray), (ldc vw a [(Value.string t4)]) ∧ callS Tryz.prog 104 [(Value.string t4)] vw fun v vw1=>∃ (t5 : Bool), v = (Value.bool t5) ∧ ∃ (zz1z : Int) (zz20 : Int) (zz21 : Int), grd t5 (ldc vw1 (a.add 1) [(Value.int .i64 zz1z), (Value.int .i64 zz20), (Value.int .i64 zz21)]) ∧ gCall t5 (fun (t9 : Bool) (vw3 : World)=>bnd (t5 && t9) fun (b : Bool)=>∃ (t13 : Sl), grd b (ldc vw3 (a.add 4) [(Sl.v t13)]) ∧ gCall b (fun (t14 : Bool) (vw7 : World)=>bnd (b && t14) fun (b12 : Bool)=>∃ (t18 : Sl), grd b12 (ldc vw7 (a.add 5) [(Sl.v t18)]) ∧ gCall b12 (fun (t19 : Bool) (vw14 : World)=>bnd (b12 && t19) fun (b19 : Bool)=>∃ (t23 : Sl), grd b19 (ldc vw14 (a.add 6) [(Sl.v t23)]) ∧ gCall b19 (fun (t24 : Bool) (vw21 : World)=>bnd (b19 && t24) fun (b26 : Bool)=>∃ (t28 : Sl), grd b26 (ldc vw21 (a.add 4) [(Sl.v t28)]) ∧ ∃ (t30 : Sl), grd b26 (ldc vw21 (a.add 5) [(Sl.v t30)]) ∧ ∃ (t32 : Sl), grd b26 (ldc vw21 (a.add 6) [(Sl.v t32)]) ∧ gCall b26 (fun (a30 : Addr) (vw31 : World)=>gCall b26 (fun (t34 : Bool) (vw34 : World)=>bnd (b26 && t34) fun (b39 : Bool)=>∃ (zz1r : ByteArray) (zz1u : Int) (zz1v : Int) (zz1w : Int) (zz1q : Sl) (zz1t : Sl) (zz1s : Sl), grd b39 (ldc vw34 a [(Value.string zz1r), (Value.int .i64 zz1u), (Value.int .i64 zz1v), (Value.int .i64 zz1w), (Sl.v zz1q), (Sl.v zz1t), (Sl.v zz1s)]) ∧ gCall b39 (fun (t38 : ByteArray) (vw41 : World)=>R (b39 && (decide ((t38.size : Int) ≤ 4096))) vw41) (fun q=>callS Tryz.prog 107 [(Value.agg #[(Value.string zz1r), (Value.int .i64 zz1u), (Value.int .i64 zz1v), (Value.int .i64 zz1w), (Sl.v zz1q), (Sl.v zz1t), (Sl.v zz1s)])] vw34 fun v42 vw41=>∃ (t38 : ByteArray), v42 = (Value.string t38) ∧ q t38 vw41) (fun q=>q (ByteArray.mk #[]) vw34)) (fun q=>callS Tryz.prog 106 [(Sl.v (Sl.mk (some a30) 3 3))] vw31 fun v35 vw34=>∃ (t34 : Bool), v35 = (Value.bool t34) ∧ q t34 vw34) (fun q=>q false vw31)) (fun q=>newS vw21 [(Sl.v t28), (Sl.v t30), (Sl.v t32)] 23 q) (fun q=>q ⟨0, 0, none⟩ vw21)) (fun q=>callS Tryz.prog 105 [(Sl.v t23)] vw14 fun v22 vw21=>∃ (t24 : Bool), v22 = (Value.bool t24) ∧ q t24 vw21) (fun q=>q false vw14)) (fun q=>callS Tryz.prog 105 [(Sl.v t18)] vw7 fun v15 vw14=>∃ (t19 : Bool), v15 = (Value.bool t19) ∧ q t19 vw14) (fun q=>q false vw7)) (fun q=>callS Tryz.prog 105 [(Sl.v t13)] vw3 fun v8 vw7=>∃ (t14 : Bool), v8 = (Value.bool t14) ∧ q t14 vw7) (fun q=>q false vw3)) (fun q=>callS Tryz.prog 97 [(Value.agg #[(Value.int .i64 zz1z), (Value.int .i64 zz20), (Value.int .i64 zz21)])] vw1 fun v4 vw3=>∃ (t9 : Bool), v4 = (Value.bool t9) ∧ q t9 vw3) (fun q=>q false vw1)
set_option maxHeartbeats 8000000 in
theorem pack_May.sound (zz4 : ByteArray) (zz5 : Int) (zz6 : Int) (zz7 : Int) (zz8 : Sl) (zza : Sl) (zz9 : Sl) (w : World) (R : Bool → World → Prop) (h : pack_May zz4 zz5 zz6 zz7 zz8 zza zz9 w R) : callS Tryz.prog 61 [(Value.agg #[(Value.string zz4), (Value.int .i64 zz5), (Value.int .i64 zz6), (Value.int .i64 zz7), (Sl.v zz8), (Sl.v zza), (Sl.v zz9)])] w (fun v w'=>∃ (r0 : Bool), v = (Value.bool r0) ∧ R r0 w') := by
 unfold pack_May at h
 refine calls_of_vc 42 rfl Tryz.func61 rfl (by kernel_rfl) (by simp) ?_
 refine Vc.seq ?_
 refine Vc.region ?_
 refine vcL_eff rfl (opVC_new rfl (fun a=>Value.pointer (some a)) (by kernel_rfl) (newS.mono h fun a vw hx h=>?_))
 refine vcL_pure rfl rfl (Value.bool false) (fun w=>by kernel_rfl) ?_
 refine vcL_nil ?_
 refine Vc.seq ?_
 refine Vc.region ?_
 refine vcL_pure rfl rfl (Value.pointer (some a)) (fun w=>by kernel_rfl) ?_
 obtain ⟨t4, hc, h⟩ := h
 refine vcL_val rfl rfl (Value.string t4) (exec_load rfl (by kernel_rfl) (run_load1 (fun w=>by kernel_rfl) ((hc)))) ?_
 refine vcL_eff rfl (opVC_call rfl (by kernel_rfl) (callS.mono h fun v vw1 h=>?_))
 obtain ⟨t5, rfl, h⟩ := h
 refine vcL_pure rfl rfl (Value.bool t5) (fun w=>by kernel_rfl) ?_
 refine vcL_guardP t5 (wanted_g (d := 6) rfl (by kernel_rfl) t5 (by kernel_rfl) t5 (eqT t5)) rfl (Value.pointer (some (a.add 1))) (fun hg w=>by subst hg; kernel_rfl) ?_
 obtain ⟨zz1z, zz20, zz21, hc2, h⟩ := h
 refine vcL_guard t5 (wanted_g (d := 6) rfl (by kernel_rfl) t5 (by kernel_rfl) t5 (eqT t5)) rfl (Value.agg #[(Value.int .i64 zz1z), (Value.int .i64 zz20), (Value.int .i64 zz21)]) (fun hg=>by subst hg; exact exec_load rfl (by kernel_rfl) (run_loadN (fun w=>by kernel_rfl) (fun w=>by kernel_rfl) ((hc2 rfl)))) ?_
 obtain ⟨vJ, hJ, h⟩ := gCall_elim h
 refine vcL_effJ (σ := Bool) t5 (wanted_g (d := 6) rfl (by kernel_rfl) t5 (by kernel_rfl) t5 (eqT t5)) rfl (fun s w=>vJ s w) (fun s=>(Value.bool s)) ?_ (fun hg=>opVC_call rfl (by subst hg; kernel_rfl) (callS.mono (h.1 hg) fun v4 vw3 hq=>?_)) (fun hg=>⟨false, h.2 hg⟩)
 ·intro t9 vw3 h
  subst hJ
  refine vcL_pure rfl rfl (Value.bool (t5 && t9)) (fun w=>by cases t5 <;> kernel_rfl) ?_
  obtain ⟨b, hb⟩ : ∃ y, y = (t5 && t9) := ⟨_, rfl⟩
  have h := h b hb
  refine vcL_pure rfl rfl (Value.bool b) (fun w=>by rw [hb]; kernel_rfl) ?_
  refine vcL_guardP b (wanted_g (d := 11) rfl (by kernel_rfl) b (by kernel_rfl) b (eqT b)) rfl (Value.pointer (some (a.add 4))) (fun hg w=>by subst hg; kernel_rfl) ?_
  obtain ⟨t13, hc6, h⟩ := h
  refine vcL_guard b (wanted_g (d := 11) rfl (by kernel_rfl) b (by kernel_rfl) b (eqT b)) rfl (Sl.v t13) (fun hg=>by subst hg; exact exec_load rfl (by kernel_rfl) (run_load1 (fun w=>by kernel_rfl) ((hc6 rfl)))) ?_
  obtain ⟨vJ10, hJ11, h⟩ := gCall_elim h
  refine vcL_effJ (σ := Bool) b (wanted_g (d := 11) rfl (by kernel_rfl) b (by kernel_rfl) b (eqT b)) rfl (fun s w=>vJ10 s w) (fun s=>(Value.bool s)) ?_ (fun hg=>opVC_call rfl (by subst hg; kernel_rfl) (callS.mono (h.1 hg) fun v8 vw7 hq=>?_)) (fun hg=>⟨false, h.2 hg⟩)
  ·intro t14 vw7 h
   subst hJ11
   refine vcL_pure rfl rfl (Value.bool (b && t14)) (fun w=>by cases b <;> kernel_rfl) ?_
   obtain ⟨b12, hb12⟩ : ∃ y, y = (b && t14) := ⟨_, rfl⟩
   have h := h b12 hb12
   refine vcL_pure rfl rfl (Value.bool b12) (fun w=>by rw [hb12]; kernel_rfl) ?_
   refine vcL_guardP b12 (wanted_g (d := 16) rfl (by kernel_rfl) b12 (by kernel_rfl) b12 (eqT b12)) rfl (Value.pointer (some (a.add 5))) (fun hg w=>by subst hg; kernel_rfl) ?_
   obtain ⟨t18, hc13, h⟩ := h
   refine vcL_guard b12 (wanted_g (d := 16) rfl (by kernel_rfl) b12 (by kernel_rfl) b12 (eqT b12)) rfl (Sl.v t18) (fun hg=>by subst hg; exact exec_load rfl (by kernel_rfl) (run_load1 (fun w=>by kernel_rfl) ((hc13 rfl)))) ?_
   obtain ⟨vJ17, hJ18, h⟩ := gCall_elim h
   refine vcL_effJ (σ := Bool) b12 (wanted_g (d := 16) rfl (by kernel_rfl) b12 (by kernel_rfl) b12 (eqT b12)) rfl (fun s w=>vJ17 s w) (fun s=>(Value.bool s)) ?_ (fun hg=>opVC_call rfl (by subst hg; kernel_rfl) (callS.mono (h.1 hg) fun v15 vw14 hq=>?_)) (fun hg=>⟨false, h.2 hg⟩)
   ·intro t19 vw14 h
    subst hJ18
    refine vcL_pure rfl rfl (Value.bool (b12 && t19)) (fun w=>by cases b12 <;> kernel_rfl) ?_
    obtain ⟨b19, hb19⟩ : ∃ y, y = (b12 && t19) := ⟨_, rfl⟩
    have h := h b19 hb19
    refine vcL_pure rfl rfl (Value.bool b19) (fun w=>by rw [hb19]; kernel_rfl) ?_
    refine vcL_guardP b19 (wanted_g (d := 21) rfl (by kernel_rfl) b19 (by kernel_rfl) b19 (eqT b19)) rfl (Value.pointer (some (a.add 6))) (fun hg w=>by subst hg; kernel_rfl) ?_
    obtain ⟨t23, hc20, h⟩ := h
    refine vcL_guard b19 (wanted_g (d := 21) rfl (by kernel_rfl) b19 (by kernel_rfl) b19 (eqT b19)) rfl (Sl.v t23) (fun hg=>by subst hg; exact exec_load rfl (by kernel_rfl) (run_load1 (fun w=>by kernel_rfl) ((hc20 rfl)))) ?_
    obtain ⟨vJ24, hJ25, h⟩ := gCall_elim h
    refine vcL_effJ (σ := Bool) b19 (wanted_g (d := 21) rfl (by kernel_rfl) b19 (by kernel_rfl) b19 (eqT b19)) rfl (fun s w=>vJ24 s w) (fun s=>(Value.bool s)) ?_ (fun hg=>opVC_call rfl (by subst hg; kernel_rfl) (callS.mono (h.1 hg) fun v22 vw21 hq=>?_)) (fun hg=>⟨false, h.2 hg⟩)
    ·intro t24 vw21 h
     subst hJ25
     refine vcL_pure rfl rfl (Value.bool (b19 && t24)) (fun w=>by cases b19 <;> kernel_rfl) ?_
     obtain ⟨b26, hb26⟩ : ∃ y, y = (b19 && t24) := ⟨_, rfl⟩
     have h := h b26 hb26
     refine vcL_pure rfl rfl (Value.bool b26) (fun w=>by rw [hb26]; kernel_rfl) ?_
     refine vcL_guardP b26 (wanted_g (d := 26) rfl (by kernel_rfl) b26 (by kernel_rfl) b26 (eqT b26)) rfl (Value.pointer (some (a.add 4))) (fun hg w=>by subst hg; kernel_rfl) ?_
     obtain ⟨t28, hc27, h⟩ := h
     refine vcL_guard b26 (wanted_g (d := 26) rfl (by kernel_rfl) b26 (by kernel_rfl) b26 (eqT b26)) rfl (Sl.v t28) (fun hg=>by subst hg; exact exec_load rfl (by kernel_rfl) (run_load1 (fun w=>by kernel_rfl) ((hc27 rfl)))) ?_
     refine vcL_guardP b26 (wanted_g (d := 26) rfl (by kernel_rfl) b26 (by kernel_rfl) b26 (eqT b26)) rfl (Value.pointer (some (a.add 5))) (fun hg w=>by subst hg; kernel_rfl) ?_
     obtain ⟨t30, hc28, h⟩ := h
     refine vcL_guard b26 (wanted_g (d := 26) rfl (by kernel_rfl) b26 (by kernel_rfl) b26 (eqT b26)) rfl (Sl.v t30) (fun hg=>by subst hg; exact exec_load rfl (by kernel_rfl) (run_load1 (fun w=>by kernel_rfl) ((hc28 rfl)))) ?_
     refine vcL_guardP b26 (wanted_g (d := 26) rfl (by kernel_rfl) b26 (by kernel_rfl) b26 (eqT b26)) rfl (Value.pointer (some (a.add 6))) (fun hg w=>by subst hg; kernel_rfl) ?_
     obtain ⟨t32, hc29, h⟩ := h
     refine vcL_guard b26 (wanted_g (d := 26) rfl (by kernel_rfl) b26 (by kernel_rfl) b26 (eqT b26)) rfl (Sl.v t32) (fun hg=>by subst hg; exact exec_load rfl (by kernel_rfl) (run_load1 (fun w=>by kernel_rfl) ((hc29 rfl)))) ?_
     obtain ⟨vJ32, hJ33, h⟩ := gCall_elim h
     refine vcL_effJ (σ := Addr) b26 (wanted_g (d := 26) rfl (by kernel_rfl) b26 (by kernel_rfl) b26 (eqT b26)) rfl (fun s w=>vJ32 s w) (fun a=>Value.slice (some a) 3 3) ?_ (fun hg=>opVC_new rfl (fun a=>Value.slice (some a) 3 3) (by subst hg; kernel_rfl) (newS.mono (h.1 hg) fun a w' hx hq=>?_)) (fun hg=>⟨⟨0, 0, none⟩, h.2 hg⟩)
     ·intro a30 vw31 h
      subst hJ33
      obtain ⟨vJ37, hJ38, h⟩ := gCall_elim h
      refine vcL_effJ (σ := Bool) b26 (wanted_g (d := 26) rfl (by kernel_rfl) b26 (by kernel_rfl) b26 (eqT b26)) rfl (fun s w=>vJ37 s w) (fun s=>(Value.bool s)) ?_ (fun hg=>opVC_call rfl (by subst hg; kernel_rfl) (callS.mono (h.1 hg) fun v35 vw34 hq=>?_)) (fun hg=>⟨false, h.2 hg⟩)
      ·intro t34 vw34 h
       subst hJ38
       refine vcL_pure rfl rfl (Value.bool (b26 && t34)) (fun w=>by cases b26 <;> kernel_rfl) ?_
       obtain ⟨b39, hb39⟩ : ∃ y, y = (b26 && t34) := ⟨_, rfl⟩
       have h := h b39 hb39
       refine vcL_pure rfl rfl (Value.bool b39) (fun w=>by rw [hb39]; kernel_rfl) ?_
       obtain ⟨zz1r, zz1u, zz1v, zz1w, zz1q, zz1t, zz1s, hc40, h⟩ := h
       refine vcL_guard b39 (wanted_g (d := 36) rfl (by kernel_rfl) b39 (by kernel_rfl) b39 (eqT b39)) rfl (Value.agg #[(Value.string zz1r), (Value.int .i64 zz1u), (Value.int .i64 zz1v), (Value.int .i64 zz1w), (Sl.v zz1q), (Sl.v zz1t), (Sl.v zz1s)]) (fun hg=>by subst hg; exact exec_load rfl (by kernel_rfl) (run_loadN (fun w=>by kernel_rfl) (fun w=>by kernel_rfl) ((hc40 rfl)))) ?_
       obtain ⟨vJ44, hJ45, h⟩ := gCall_elim h
       refine vcL_effJ (σ := ByteArray) b39 (wanted_g (d := 36) rfl (by kernel_rfl) b39 (by kernel_rfl) b39 (eqT b39)) rfl (fun s w=>vJ44 s w) (fun s=>(Value.string s)) ?_ (fun hg=>opVC_call rfl (by subst hg; kernel_rfl) (callS.mono (h.1 hg) fun v42 vw41 hq=>?_)) (fun hg=>⟨(ByteArray.mk #[]), h.2 hg⟩)
       ·intro t38 vw41 h
        subst hJ45
        refine vcL_guardP b39 (wanted_g (d := 36) rfl (by kernel_rfl) b39 (by kernel_rfl) b39 (eqT b39)) rfl (Value.int .i64 (t38.size : Int)) (fun hg w=>by subst hg; kernel_rfl) ?_
        refine vcL_guardP b39 (wanted_g (d := 36) rfl (by kernel_rfl) b39 (by kernel_rfl) b39 (eqT b39)) rfl (Value.bool (decide ((t38.size : Int) ≤ 4096))) (fun hg w=>by subst hg; kernel_rfl) ?_
        refine vcL_pure rfl rfl (Value.bool (b39 && (decide ((t38.size : Int) ≤ 4096)))) (fun w=>by cases b39 <;> kernel_rfl) ?_
        refine vcL_pure rfl rfl (Value.bool (b39 && (decide ((t38.size : Int) ≤ 4096)))) (fun w=>by kernel_rfl) ?_
        refine vcL_nil ?_
        refine Vc.ret ?_
        refine outs_ret ?_
        refine done_mk (Value.bool (b39 && (decide ((t38.size : Int) ≤ 4096)))) (res1 (resC_tmp (by kernel_rfl))) ?_
        exact ⟨(b39 && (decide ((t38.size : Int) ≤ 4096))), rfl, h⟩
       ·obtain ⟨t38, rfl, hq⟩ := hq
        exact ⟨t38, rfl, hq⟩
      ·obtain ⟨t34, rfl, hq⟩ := hq
       exact ⟨t34, rfl, hq⟩
     ·exact ⟨a, rfl, hq⟩
    ·obtain ⟨t24, rfl, hq⟩ := hq
     exact ⟨t24, rfl, hq⟩
   ·obtain ⟨t19, rfl, hq⟩ := hq
    exact ⟨t19, rfl, hq⟩
  ·obtain ⟨t14, rfl, hq⟩ := hq
   exact ⟨t14, rfl, hq⟩
 ·obtain ⟨t9, rfl, hq⟩ := hq
  exact ⟨t9, rfl, hq⟩
theorem pack_May.go {zz4 : ByteArray} {zz5 : Int} {zz6 : Int} {zz7 : Int} {zz8 : Sl} {zza : Sl} {zz9 : Sl} {w : World} {k : Value → World → Prop} (h : pack_May zz4 zz5 zz6 zz7 zz8 zza zz9 w fun r0 w'=>k (Value.bool r0) w') : callS Tryz.prog 61 [(Value.agg #[(Value.string zz4), (Value.int .i64 zz5), (Value.int .i64 zz6), (Value.int .i64 zz7), (Sl.v zz8), (Sl.v zza), (Sl.v zz9)])] w k := (pack_May.sound zz4 zz5 zz6 zz7 zz8 zza zz9 w _ h).mono (by rintro _ _ ⟨r0, rfl, h⟩; exact h)
def catalog_copied (zz4 : ByteArray) (zz5 : Int) (zz6 : Int) (zz7 : Int) (zz8 : Sl) (zza : Sl) (zz9 : Sl) (w : World) (R : ByteArray → Int → Int → Int → Sl → Sl → Sl → World → Prop) : Prop :=
 newS w [(Value.string zz4), (Value.int .i64 zz5), (Value.int .i64 zz6), (Value.int .i64 zz7), (Sl.v zz8), (Sl.v zza), (Sl.v zz9)] 48 fun a vw=>newS vw [(Value.string (ByteArray.mk #[])), (Value.int .i64 0), (Value.int .i64 0), (Value.int .i64 0), (Sl.v Sl.nil), (Sl.v Sl.nil), (Sl.v Sl.nil)] 48 fun a1 vw2=>bnd vw2.drew fun (vw3 : World)=>∃ (t4 : Sl), (ldc vw3 (a.add 4) [(Sl.v t4)]) ∧ ∃ (t7 : Sl), (ldc vw3 (a.add 5) [(Sl.v t7)]) ∧ ∃ (t10 : Sl), (ldc vw3 (a.add 6) [(Sl.v t10)]) ∧ callX Tryz.prog 108 [(Sl.v t4)] vw3 fun v vw6=>∃ (t5 : Sl), v = (Sl.v t5) ∧ callX Tryz.prog 108 [(Sl.v t7)] vw6 fun v8 vw7=>∃ (t8 : Sl), v8 = (Sl.v t8) ∧ callS Tryz.prog 108 [(Sl.v t10)] vw7 fun v11 vw10=>∃ (t11 : Sl), v11 = (Sl.v t11) ∧ stw vw10 (a.add 4) [(Sl.v t5)] fun vw13=>stw vw13 (a.add 5) [(Sl.v t8)] fun vw14=>stw vw14 (a.add 6) [(Sl.v t11)] fun vw15=>∃ (zzy : ByteArray) (zzz : Int) (zz10 : Int) (zz11 : Int) (zz1c : Sl) (zz3p : Sl) (zz1d : Sl), (ldc vw15 a [(Value.string zzy), (Value.int .i64 zzz), (Value.int .i64 zz10), (Value.int .i64 zz11), (Sl.v zz1c), (Sl.v zz3p), (Sl.v zz1d)]) ∧ stw vw15 a1 [(Value.string zzy), (Value.int .i64 zzz), (Value.int .i64 zz10), (Value.int .i64 zz11), (Sl.v zz1c), (Sl.v zz3p), (Sl.v zz1d)] fun vw17=>∃ (zz15 : ByteArray) (zz19 : Int) (zz1a : Int) (zz1b : Int) (zz12 : Sl) (zz18 : Sl) (zz16 : Sl), ldc vw17 a1 [(Value.string zz15), (Value.int .i64 zz19), (Value.int .i64 zz1a), (Value.int .i64 zz1b), (Sl.v zz12), (Sl.v zz18), (Sl.v zz16)] ∧ R zz15 zz19 zz1a zz1b zz12 zz18 zz16 vw17
set_option maxHeartbeats 8000000 in
theorem catalog_copied.sound (zz4 : ByteArray) (zz5 : Int) (zz6 : Int) (zz7 : Int) (zz8 : Sl) (zza : Sl) (zz9 : Sl) (w : World) (R : ByteArray → Int → Int → Int → Sl → Sl → Sl → World → Prop) (h : catalog_copied zz4 zz5 zz6 zz7 zz8 zza zz9 w R) : callS Tryz.prog 62 [(Value.agg #[(Value.string zz4), (Value.int .i64 zz5), (Value.int .i64 zz6), (Value.int .i64 zz7), (Sl.v zz8), (Sl.v zza), (Sl.v zz9)])] w (fun v w'=>∃ (r0 : ByteArray) (r1 : Int) (r2 : Int) (r3 : Int) (r4 : Sl) (r5 : Sl) (r6 : Sl), v = (Value.agg #[(Value.string r0), (Value.int .i64 r1), (Value.int .i64 r2), (Value.int .i64 r3), (Sl.v r4), (Sl.v r5), (Sl.v r6)]) ∧ R r0 r1 r2 r3 r4 r5 r6 w') := by
 unfold catalog_copied at h
 refine calls_of_vc 16 rfl Tryz.func62 rfl (by kernel_rfl) (by simp) ?_
 refine Vc.seq ?_
 refine Vc.region ?_
 refine vcL_eff rfl (opVC_new rfl (fun a=>Value.pointer (some a)) (by kernel_rfl) (newS.mono h fun a vw hx h=>?_))
 refine vcL_eff rfl (opVC_new rfl (fun a=>Value.pointer (some a)) (by kernel_rfl) (newS.mono h fun a1 vw2 hx h=>?_))
 refine vcL_nil ?_
 refine Vc.seq ?_
 obtain ⟨vw3, hvw3⟩ : ∃ y, y = vw2.drew := ⟨_, rfl⟩
 have h := h vw3 hvw3
 refine Vc.draw (by kernel_rfl) (fun i=>!(memN [8, 10, 12, 14] i)) (.pur 0 (.val 1 (.pur 3 (.val 4 (.pur 6 (.val 7 (.eff 2 (.pur 9 (.eff 5 (.eff 8 (.eff 10 (.pur 11 (.eff 12 (.pur 13 (.eff 14 .fin .stop)) .stop)) .stop) .stop) .stop)) .stop))))))) (by kernel_rfl) ?_
 rw [← hvw3]
 clear hvw3
 refine vcS_pure rfl rfl rfl (Value.pointer (some (a.add 4))) (fun w=>by kernel_rfl) ?_
 obtain ⟨t4, hc, h⟩ := h
 refine vcS_val rfl rfl rfl (Sl.v t4) (fun w' hx=>exec_load rfl (by kernel_rfl) (run_load1 (fun w=>by kernel_rfl) ((hc).ext hx))) ?_
 refine vcS_pure rfl rfl rfl (Value.pointer (some (a.add 5))) (fun w=>by kernel_rfl) ?_
 obtain ⟨t7, hc4, h⟩ := h
 refine vcS_val rfl rfl rfl (Sl.v t7) (fun w' hx=>exec_load rfl (by kernel_rfl) (run_load1 (fun w=>by kernel_rfl) ((hc4).ext hx))) ?_
 refine vcS_pure rfl rfl rfl (Value.pointer (some (a.add 6))) (fun w=>by kernel_rfl) ?_
 obtain ⟨t10, hc5, h⟩ := h
 refine vcS_val rfl rfl rfl (Sl.v t10) (fun w' hx=>exec_load rfl (by kernel_rfl) (run_load1 (fun w=>by kernel_rfl) ((hc5).ext hx))) ?_
 refine vcS_eff rfl rfl (opVC_call rfl (by kernel_rfl) (callS.mono h fun v vw6 h=>?_)) vcS_stop
 obtain ⟨hx, h⟩ := h
 obtain ⟨t5, rfl, h⟩ := h
 refine ⟨fun _ => hx, ?_⟩
 refine vcS_pure rfl rfl rfl (Value.pointer (some (a.add 4))) (fun w=>by kernel_rfl) ?_
 refine vcS_eff rfl rfl (opVC_call rfl (by kernel_rfl) (callS.mono h fun v8 vw7 h=>?_)) vcS_stop
 obtain ⟨hx9, h⟩ := h
 obtain ⟨t8, rfl, h⟩ := h
 refine ⟨fun _ => hx9, ?_⟩
 refine vcS_eff rfl rfl (opVC_call rfl (by kernel_rfl) (callS.mono h fun v11 vw10 h=>?_)) vcS_stop
 obtain ⟨t11, rfl, h⟩ := h
 refine ⟨fun hb=>absurd hb (by decide), ?_⟩
 refine vcS_eff rfl rfl (opVC_store rfl rfl (a := (a.add 4)) (by kernel_rfl) (v := (Sl.v t5)) (by kernel_rfl) [(Sl.v t5)] (by kernel_rfl) (fun w=>by kernel_rfl) (by kernel_rfl) (stw.mono h fun vw13 h=>?_)) vcS_stop
 refine ⟨fun hb=>absurd hb (by decide), ?_⟩
 refine vcS_pure rfl rfl rfl (Value.pointer (some (a.add 5))) (fun w=>by kernel_rfl) ?_
 refine vcS_eff rfl rfl (opVC_store rfl rfl (a := (a.add 5)) (by kernel_rfl) (v := (Sl.v t8)) (by kernel_rfl) [(Sl.v t8)] (by kernel_rfl) (fun w=>by kernel_rfl) (by kernel_rfl) (stw.mono h fun vw14 h=>?_)) vcS_stop
 refine ⟨fun hb=>absurd hb (by decide), ?_⟩
 refine vcS_pure rfl rfl rfl (Value.pointer (some (a.add 6))) (fun w=>by kernel_rfl) ?_
 refine vcS_eff rfl rfl (opVC_store rfl rfl (a := (a.add 6)) (by kernel_rfl) (v := (Sl.v t11)) (by kernel_rfl) [(Sl.v t11)] (by kernel_rfl) (fun w=>by kernel_rfl) (by kernel_rfl) (stw.mono h fun vw15 h=>?_)) vcS_stop
 refine ⟨fun hb=>absurd hb (by decide), ?_⟩
 refine vcS_fin ?_
 refine Vc.seq ?_
 refine Vc.region ?_
 obtain ⟨zzy, zzz, zz10, zz11, zz1c, zz3p, zz1d, hc16, h⟩ := h
 refine vcL_val rfl rfl (Value.agg #[(Value.string zzy), (Value.int .i64 zzz), (Value.int .i64 zz10), (Value.int .i64 zz11), (Sl.v zz1c), (Sl.v zz3p), (Sl.v zz1d)]) (exec_load rfl (by kernel_rfl) (run_loadN (fun w=>by kernel_rfl) (fun w=>by kernel_rfl) ((hc16)))) ?_
 refine vcL_eff rfl (opVC_store rfl rfl (a := a1) (by kernel_rfl) (v := (Value.agg #[(Value.string zzy), (Value.int .i64 zzz), (Value.int .i64 zz10), (Value.int .i64 zz11), (Sl.v zz1c), (Sl.v zz3p), (Sl.v zz1d)])) (by kernel_rfl) [(Value.string zzy), (Value.int .i64 zzz), (Value.int .i64 zz10), (Value.int .i64 zz11), (Sl.v zz1c), (Sl.v zz3p), (Sl.v zz1d)] (by kernel_rfl) (fun w=>by kernel_rfl) (by kernel_rfl) (stw.mono h fun vw17 h=>?_))
 refine vcL_nil ?_
 refine Vc.ret ?_
 refine outs_ret ?_
 obtain ⟨zz15, zz19, zz1a, zz1b, zz12, zz18, zz16, hc18, h⟩ := h
 refine done_mk (Value.agg #[(Value.string zz15), (Value.int .i64 zz19), (Value.int .i64 zz1a), (Value.int .i64 zz1b), (Sl.v zz12), (Sl.v zz18), (Sl.v zz16)]) (res1 (resC_cell (by kernel_rfl) (run_loadN (fun w=>by kernel_rfl) (fun w=>by kernel_rfl) hc18))) ?_
 exact ⟨zz15, zz19, zz1a, zz1b, zz12, zz18, zz16, rfl, h⟩
theorem catalog_copied.go {zz4 : ByteArray} {zz5 : Int} {zz6 : Int} {zz7 : Int} {zz8 : Sl} {zza : Sl} {zz9 : Sl} {w : World} {k : Value → World → Prop} (h : catalog_copied zz4 zz5 zz6 zz7 zz8 zza zz9 w fun r0 r1 r2 r3 r4 r5 r6 w'=>k (Value.agg #[(Value.string r0), (Value.int .i64 r1), (Value.int .i64 r2), (Value.int .i64 r3), (Sl.v r4), (Sl.v r5), (Sl.v r6)]) w') : callS Tryz.prog 62 [(Value.agg #[(Value.string zz4), (Value.int .i64 zz5), (Value.int .i64 zz6), (Value.int .i64 zz7), (Sl.v zz8), (Sl.v zza), (Sl.v zz9)])] w k := (catalog_copied.sound zz4 zz5 zz6 zz7 zz8 zza zz9 w _ h).mono (by rintro _ _ ⟨r0, r1, r2, r3, r4, r5, r6, rfl, h⟩; exact h)
def cmp_Or_int (vals : Sl) (w : World) (R : Int → World → Prop) : Prop :=
 loop1 0 w fun t8 vw nxt=>((t8 < (vals.len : Int) → ∃ (ad : Addr), (vals.a = some ad ∧ (0 : Int) ≤ t8 ∧ t8 < (vals.len : Int)) ∧ ∃ (t11 : Int), (ldc vw (ad.add (t8.toNat * 1)) [(Value.int .i64 t11)]) ∧ ((¬ t11 = 0 → R t11 vw) ∧ (¬ (¬ t11 = 0) → nxt (wrapI (t8 + 1)) vw))) ∧ (¬ (t8 < (vals.len : Int)) → R 0 vw))
set_option maxHeartbeats 8000000 in
theorem cmp_Or_int.sound (vals : Sl) (w : World) (R : Int → World → Prop) (h : cmp_Or_int vals w R) : callS Tryz.prog 76 [(Sl.v vals)] w (fun v w'=>∃ (r0 : Int), v = (Value.int .i64 r0) ∧ R r0 w') := by
 unfold cmp_Or_int at h
 refine calls_of_vc 18 rfl Tryz.func76 rfl (by kernel_rfl) (by simp) ?_
 refine Vc.seq ?_
 refine Vc.region ?_
 refine vcL_pure rfl rfl (Value.int .i64 0) (fun w=>by kernel_rfl) ?_
 refine vcL_nil ?_
 refine Vc.seq ?_
 refine Vc.region ?_
 refine vcL_pure rfl rfl (Value.int .i64 0) (fun w=>by kernel_rfl) ?_
 refine vcL_nil ?_
 refine Vc.seq ?_
 refine Vc.seq ?_
 refine Vc.region ?_
 refine vcL_purs 3 [(8, (Value.int .i64 0)), (7, (Value.int .i64 (vals.len : Int))), (6, (Sl.v vals))] (by kernel_rfl) ?_
 refine vcL_nil ?_
 refine Vc.block ?_
 obtain ⟨vI, mu, h, hr⟩ := h
 refine Vc.loopJ (σ := Int) [8] [2, 5, 9, 10, 11, 12, 13, 14, 15, 16] (fun s=>[(8, (Value.int .i64 s))]) (fun s w=>vI s w) (fun s w=>mu s w) 0 h (fun _ => rfl) (by kernel_rfl) ?_
 intro t8 vw j h
 have h := hr t8 vw h
 refine Vc.seq ?_
 refine Vc.region ?_
 refine vcL_pure rfl rfl (Value.bool (decide (t8 < (vals.len : Int)))) (fun w=>by kernel_rfl) ?_
 refine vcL_nil ?_
 refine Vc.seq ?_
 refine Vc.cond (decide (t8 < (vals.len : Int))) (by kernel_rfl) (fun hb=>?_) (fun hb=>?_)
 ·have h := h.1 (of_decide_eq_true hb)
  refine Vc.skip ?_
  refine Vc.seq ?_
  refine Vc.block ?_
  refine Vc.seq ?_
  refine Vc.region ?_
  obtain ⟨ad, hi, h⟩ := h
  refine vcL_pure rfl rfl (Value.pointer (some (ad.add (t8.toNat * 1)))) (fun w=>by exact exec_indexAt (s := vals) (el := 3) rfl (by kernel_rfl) (by kernel_rfl) (by kernel_rfl) (fun w=>by kernel_rfl) (hi).1 (hi).2.1 (hi).2.2 w) ?_
  obtain ⟨t11, hc, h⟩ := h
  refine vcL_val rfl rfl (Value.int .i64 t11) (exec_load rfl (by kernel_rfl) (run_load1 (fun w=>by kernel_rfl) ((hc)))) ?_
  refine vcL_pure rfl rfl (Value.int .i64 t11) (fun w=>by kernel_rfl) ?_
  refine vcL_nil ?_
  refine Vc.seq ?_
  refine Vc.region ?_
  refine vcL_purs 3 [(14, (Value.bool (!(t11 == 0)))), (13, (Value.int .i64 0)), (12, (Value.int .i64 t11))] (by kernel_rfl) ?_
  refine vcL_nil ?_
  refine Vc.cond (!(t11 == 0)) (by kernel_rfl) (fun hb=>?_) (fun hb=>?_)
  ·have h := h.1 (ne_of_nbeq hb)
   refine Vc.seq ?_
   refine Vc.region ?_
   refine vcL_purs 2 [(2, (Value.int .i64 t11)), (15, (Value.int .i64 t11))] (by kernel_rfl) ?_
   refine vcL_nil ?_
   refine Vc.ret ?_
   refine outOf_ret ?_
   refine outOf_ret ?_
   refine outs_ret ?_
   refine done_mk (Value.int .i64 t11) (res1 (resC_tmp (by kernel_rfl))) ?_
   exact ⟨t11, rfl, h⟩
  ·have h := h.2 (nne_of_nbeq hb)
   refine Vc.skip ?_
   refine Vc.region ?_
   refine vcL_purs 2 [(8, (Value.int .i64 (wrapI (t8 + 1)))), (16, (Value.int .i64 (wrapI (t8 + 1))))] (by kernel_rfl) ?_
   refine vcL_nil ?_
   exact ⟨(wrapI (t8 + 1)), 20, ⟨rfl, by kernel_rfl, by kernel_rfl, by kernel_rfl⟩, h⟩
 ·have h := h.2 (of_decide_eq_false hb)
  refine Vc.exit ?_
  refine outOf_hit ?_
  refine Vc.seq ?_
  refine Vc.region ?_
  refine vcL_purs 2 [(2, (Value.int .i64 0)), (17, (Value.int .i64 0))] (by kernel_rfl) ?_
  refine vcL_nil ?_
  refine Vc.ret ?_
  refine outs_ret ?_
  refine done_mk (Value.int .i64 0) (res1 (resC_tmp (by kernel_rfl))) ?_
  exact ⟨0, rfl, h⟩
theorem cmp_Or_int.go {vals : Sl} {w : World} {k : Value → World → Prop} (h : cmp_Or_int vals w fun r0 w'=>k (Value.int .i64 r0) w') : callS Tryz.prog 76 [(Sl.v vals)] w k := (cmp_Or_int.sound vals w _ h).mono (by rintro _ _ ⟨r0, rfl, h⟩; exact h)
def halyardref02_May (zzb : Int) (zzc : Int) (zzd : Int) (w : World) (R : Bool → World → Prop) : Prop :=
 newS w [(Value.int .i64 zzb), (Value.int .i64 zzc), (Value.int .i64 zzd)] 30 fun a vw=>∃ (t4 : Int), (ldc vw a [(Value.int .i64 t4)]) ∧ callS Tryz.prog 115 [(Value.int .i64 t4)] vw fun v vw1=>∃ (t5 : Bool), v = (Value.bool t5) ∧ ∃ (t8 : Int), grd t5 (ldc vw1 (a.add 1) [(Value.int .i64 t8)]) ∧ gCall t5 (fun (t9 : Bool) (vw3 : World)=>bnd (t5 && t9) fun (b : Bool)=>∃ (t13 : Int), grd b (ldc vw3 (a.add 2) [(Value.int .i64 t13)]) ∧ gCall b (fun (t14 : Bool) (vw7 : World)=>R (b && t14) vw7) (fun q=>callS Tryz.prog 115 [(Value.int .i64 t13)] vw3 fun v8 vw7=>∃ (t14 : Bool), v8 = (Value.bool t14) ∧ q t14 vw7) (fun q=>q false vw3)) (fun q=>callS Tryz.prog 115 [(Value.int .i64 t8)] vw1 fun v4 vw3=>∃ (t9 : Bool), v4 = (Value.bool t9) ∧ q t9 vw3) (fun q=>q false vw1)
set_option maxHeartbeats 8000000 in
theorem halyardref02_May.sound (zzb : Int) (zzc : Int) (zzd : Int) (w : World) (R : Bool → World → Prop) (h : halyardref02_May zzb zzc zzd w R) : callS Tryz.prog 80 [(Value.agg #[(Value.int .i64 zzb), (Value.int .i64 zzc), (Value.int .i64 zzd)])] w (fun v w'=>∃ (r0 : Bool), v = (Value.bool r0) ∧ R r0 w') := by
 unfold halyardref02_May at h
 refine calls_of_vc 16 rfl Tryz.func80 rfl (by kernel_rfl) (by simp) ?_
 refine Vc.seq ?_
 refine Vc.region ?_
 refine vcL_eff rfl (opVC_new rfl (fun a=>Value.pointer (some a)) (by kernel_rfl) (newS.mono h fun a vw hx h=>?_))
 refine vcL_pure rfl rfl (Value.bool false) (fun w=>by kernel_rfl) ?_
 refine vcL_nil ?_
 refine Vc.seq ?_
 refine Vc.region ?_
 refine vcL_pure rfl rfl (Value.pointer (some a)) (fun w=>by kernel_rfl) ?_
 obtain ⟨t4, hc, h⟩ := h
 refine vcL_val rfl rfl (Value.int .i64 t4) (exec_load rfl (by kernel_rfl) (run_load1 (fun w=>by kernel_rfl) ((hc)))) ?_
 refine vcL_eff rfl (opVC_call rfl (by kernel_rfl) (callS.mono h fun v vw1 h=>?_))
 obtain ⟨t5, rfl, h⟩ := h
 refine vcL_pure rfl rfl (Value.bool t5) (fun w=>by kernel_rfl) ?_
 refine vcL_guardP t5 (wanted_g (d := 6) rfl (by kernel_rfl) t5 (by kernel_rfl) t5 (eqT t5)) rfl (Value.pointer (some (a.add 1))) (fun hg w=>by subst hg; kernel_rfl) ?_
 obtain ⟨t8, hc2, h⟩ := h
 refine vcL_guard t5 (wanted_g (d := 6) rfl (by kernel_rfl) t5 (by kernel_rfl) t5 (eqT t5)) rfl (Value.int .i64 t8) (fun hg=>by subst hg; exact exec_load rfl (by kernel_rfl) (run_load1 (fun w=>by kernel_rfl) ((hc2 rfl)))) ?_
 obtain ⟨vJ, hJ, h⟩ := gCall_elim h
 refine vcL_effJ (σ := Bool) t5 (wanted_g (d := 6) rfl (by kernel_rfl) t5 (by kernel_rfl) t5 (eqT t5)) rfl (fun s w=>vJ s w) (fun s=>(Value.bool s)) ?_ (fun hg=>opVC_call rfl (by subst hg; kernel_rfl) (callS.mono (h.1 hg) fun v4 vw3 hq=>?_)) (fun hg=>⟨false, h.2 hg⟩)
 ·intro t9 vw3 h
  subst hJ
  refine vcL_pure rfl rfl (Value.bool (t5 && t9)) (fun w=>by cases t5 <;> kernel_rfl) ?_
  obtain ⟨b, hb⟩ : ∃ y, y = (t5 && t9) := ⟨_, rfl⟩
  have h := h b hb
  refine vcL_pure rfl rfl (Value.bool b) (fun w=>by rw [hb]; kernel_rfl) ?_
  refine vcL_guardP b (wanted_g (d := 11) rfl (by kernel_rfl) b (by kernel_rfl) b (eqT b)) rfl (Value.pointer (some (a.add 2))) (fun hg w=>by subst hg; kernel_rfl) ?_
  obtain ⟨t13, hc6, h⟩ := h
  refine vcL_guard b (wanted_g (d := 11) rfl (by kernel_rfl) b (by kernel_rfl) b (eqT b)) rfl (Value.int .i64 t13) (fun hg=>by subst hg; exact exec_load rfl (by kernel_rfl) (run_load1 (fun w=>by kernel_rfl) ((hc6 rfl)))) ?_
  obtain ⟨vJ10, hJ11, h⟩ := gCall_elim h
  refine vcL_effJ (σ := Bool) b (wanted_g (d := 11) rfl (by kernel_rfl) b (by kernel_rfl) b (eqT b)) rfl (fun s w=>vJ10 s w) (fun s=>(Value.bool s)) ?_ (fun hg=>opVC_call rfl (by subst hg; kernel_rfl) (callS.mono (h.1 hg) fun v8 vw7 hq=>?_)) (fun hg=>⟨false, h.2 hg⟩)
  ·intro t14 vw7 h
   subst hJ11
   refine vcL_pure rfl rfl (Value.bool (b && t14)) (fun w=>by cases b <;> kernel_rfl) ?_
   refine vcL_pure rfl rfl (Value.bool (b && t14)) (fun w=>by kernel_rfl) ?_
   refine vcL_nil ?_
   refine Vc.ret ?_
   refine outs_ret ?_
   refine done_mk (Value.bool (b && t14)) (res1 (resC_tmp (by kernel_rfl))) ?_
   exact ⟨(b && t14), rfl, h⟩
  ·obtain ⟨t14, rfl, hq⟩ := hq
   exact ⟨t14, rfl, hq⟩
 ·obtain ⟨t9, rfl, hq⟩ := hq
  exact ⟨t9, rfl, hq⟩
theorem halyardref02_May.go {zzb : Int} {zzc : Int} {zzd : Int} {w : World} {k : Value → World → Prop} (h : halyardref02_May zzb zzc zzd w fun r0 w'=>k (Value.bool r0) w') : callS Tryz.prog 80 [(Value.agg #[(Value.int .i64 zzb), (Value.int .i64 zzc), (Value.int .i64 zzd)])] w k := (halyardref02_May.sound zzb zzc zzd w _ h).mono (by rintro _ _ ⟨r0, rfl, h⟩; exact h)
def wants_all (zz0 : Sl) (zz1 : Sl) (zz2 : Sl) (zz3 : Sl) (must : Sl) (may : Sl) (w : World) (R : Sl → World → Prop) : Prop :=
 newS w [(Sl.v zz0), (Sl.v zz1), (Sl.v zz2), (Sl.v zz3)] 25 fun a vw=>loop2 Sl.nil 0 vw fun out t16 vw1 nxt=>((t16 < (must.len : Int) → ∃ (ad : Addr), (must.a = some ad ∧ (0 : Int) ≤ t16 ∧ t16 < (must.len : Int)) ∧ ∃ (t19 : Sl), (ldc vw1 (ad.add (t16.toNat * 1)) [(Sl.v t19)]) ∧ loop2 out 0 vw1 fun out2 t22 vw3 nxt4=>((t22 < (t19.len : Int) → ∃ (ad5 : Addr), (t19.a = some ad5 ∧ (0 : Int) ≤ t22 ∧ t22 < (t19.len : Int)) ∧ ∃ (zz3t : ByteArray) (zz3u : Sl), (ldc vw3 (ad5.add (t22.toNat * 2)) [(Value.string zz3t), (Sl.v zz3u)]) ∧ newS vw3 [(Value.string (ByteArray.mk #[])), (Sl.v Sl.nil)] 81 fun a8 vw9=>stw vw9 a8 [(Value.string zz3t), (Sl.v zz3u)] fun vw10=>bnd vw10.drew fun (vw11 : World)=>∃ (t28 : ByteArray), (ldc vw11 a8 [(Value.string t28)]) ∧ ∃ (zz1m : Sl) (zz1n : Sl) (zz1o : Sl) (zz1p : Sl), (ldc vw11 a [(Sl.v zz1m), (Sl.v zz1n), (Sl.v zz1o), (Sl.v zz1p)]) ∧ ∃ (zz58 : ByteArray) (zz59 : Sl), (ldc vw11 a8 [(Value.string zz58), (Sl.v zz59)]) ∧ callX Tryz.prog 44 [(Value.agg #[(Sl.v zz1m), (Sl.v zz1n), (Sl.v zz1o), (Sl.v zz1p)]), (Value.agg #[(Value.string zz58), (Sl.v zz59)])] vw11 fun v vw15=>∃ (t31 : Sl), v = (Sl.v t31) ∧ newS vw15 [(Value.string t28), (Value.int .i64 1), (Sl.v t31)] 88 fun a16 vw17=>appS Tryz.prog 75 75 out2 (Sl.v (Sl.mk (some a16) 1 1)) vw17 fun t34 vw18=>nxt4 t34 (wrapI (t22 + 1)) vw18) ∧ (¬ (t22 < (t19.len : Int)) → nxt out2 (wrapI (t16 + 1)) vw3))) ∧ (¬ (t16 < (must.len : Int)) → loop2 out 0 vw1 fun out19 t39 vw20 nxt21=>((t39 < (may.len : Int) → ∃ (ad22 : Addr), (may.a = some ad22 ∧ (0 : Int) ≤ t39 ∧ t39 < (may.len : Int)) ∧ ∃ (zz3v : ByteArray) (zz3w : Sl), (ldc vw20 (ad22.add (t39.toNat * 2)) [(Value.string zz3v), (Sl.v zz3w)]) ∧ newS vw20 [(Value.string (ByteArray.mk #[])), (Sl.v Sl.nil)] 81 fun a25 vw26=>stw vw26 a25 [(Value.string zz3v), (Sl.v zz3w)] fun vw27=>bnd vw27.drew fun (vw28 : World)=>∃ (t45 : ByteArray), (ldc vw28 a25 [(Value.string t45)]) ∧ ∃ (zz1x : Sl) (zz5t : Sl) (zz1y : Sl) (zz5v : Sl), (ldc vw28 a [(Sl.v zz1x), (Sl.v zz5t), (Sl.v zz1y), (Sl.v zz5v)]) ∧ ∃ (zz62 : ByteArray) (zz65 : Sl), (ldc vw28 a25 [(Value.string zz62), (Sl.v zz65)]) ∧ callX Tryz.prog 44 [(Value.agg #[(Sl.v zz1x), (Sl.v zz5t), (Sl.v zz1y), (Sl.v zz5v)]), (Value.agg #[(Value.string zz62), (Sl.v zz65)])] vw28 fun v33 vw32=>∃ (t48 : Sl), v33 = (Sl.v t48) ∧ newS vw32 [(Value.string t45), (Value.int .i64 2), (Sl.v t48)] 88 fun a35 vw36=>appS Tryz.prog 75 75 out19 (Sl.v (Sl.mk (some a35) 1 1)) vw36 fun t51 vw37=>nxt21 t51 (wrapI (t39 + 1)) vw37) ∧ (¬ (t39 < (may.len : Int)) → callS Tryz.prog 119 [(Sl.v out19), (Value.func (.func 120) #[] #[])] vw20 fun v39 vw38=>v39 = (Value.tuple #[]) ∧ callS Tryz.prog 121 [(Sl.v out19)] vw38 fun v42 vw41=>∃ (t56 : Sl), v42 = (Sl.v t56) ∧ R t56 vw41))))
set_option maxHeartbeats 8000000 in
theorem wants_all.sound (zz0 : Sl) (zz1 : Sl) (zz2 : Sl) (zz3 : Sl) (must : Sl) (may : Sl) (w : World) (R : Sl → World → Prop) (h : wants_all zz0 zz1 zz2 zz3 must may w R) : callS Tryz.prog 87 [(Value.agg #[(Sl.v zz0), (Sl.v zz1), (Sl.v zz2), (Sl.v zz3)]), (Sl.v must), (Sl.v may)] w (fun v w'=>∃ (r0 : Sl), v = (Sl.v r0) ∧ R r0 w') := by
 unfold wants_all at h
 refine calls_of_vc 57 rfl Tryz.func87 rfl (by kernel_rfl) (by simp) ?_
 refine Vc.seq ?_
 refine Vc.region ?_
 refine vcL_eff rfl (opVC_new rfl (fun a=>Value.pointer (some a)) (by kernel_rfl) (newS.mono h fun a vw hx h=>?_))
 refine vcL_pure rfl rfl (Sl.v Sl.nil) (fun w=>by kernel_rfl) ?_
 refine vcL_nil ?_
 refine Vc.seq ?_
 refine Vc.region ?_
 refine vcL_pure rfl rfl (Sl.v Sl.nil) (fun w=>by kernel_rfl) ?_
 refine vcL_nil ?_
 refine Vc.seq ?_
 refine Vc.seq ?_
 refine Vc.region ?_
 refine vcL_purs 3 [(16, (Value.int .i64 0)), (15, (Value.int .i64 (must.len : Int))), (14, (Sl.v must))] (by kernel_rfl) ?_
 refine vcL_nil ?_
 refine Vc.block ?_
 obtain ⟨vI47, mu48, h, hr49⟩ := h
 refine Vc.loopJ (σ := Sl × Int) [7, 16] [9, 11, 17, 18, 19, 20, 21, 22, 23, 24, 25, 26, 27, 28, 29, 30, 31, 32, 33, 34, 35, 36] (fun s=>[(7, (Sl.v s.1)), (16, (Value.int .i64 s.2))]) (fun s w=>vI47 s.1 s.2 w) (fun s w=>mu48 s.1 s.2 w) (Sl.nil, 0) h (fun _ => rfl) (by kernel_rfl) ?_
 rintro ⟨out, t16⟩ vw1 j h
 have h := hr49 out t16 vw1 h
 refine Vc.seq ?_
 refine Vc.region ?_
 refine vcL_pure rfl rfl (Value.bool (decide (t16 < (must.len : Int)))) (fun w=>by kernel_rfl) ?_
 refine vcL_nil ?_
 refine Vc.seq ?_
 refine Vc.cond (decide (t16 < (must.len : Int))) (by kernel_rfl) (fun hb=>?_) (fun hb=>?_)
 ·have h := h.1 (of_decide_eq_true hb)
  refine Vc.skip ?_
  refine Vc.seq ?_
  refine Vc.block ?_
  refine Vc.seq ?_
  refine Vc.region ?_
  obtain ⟨ad, hi, h⟩ := h
  refine vcL_pure rfl rfl (Value.pointer (some (ad.add (t16.toNat * 1)))) (fun w=>by exact exec_indexAt (s := must) (el := 23) rfl (by kernel_rfl) (by kernel_rfl) (by kernel_rfl) (fun w=>by kernel_rfl) (hi).1 (hi).2.1 (hi).2.2 w) ?_
  obtain ⟨t19, hc, h⟩ := h
  refine vcL_val rfl rfl (Sl.v t19) (exec_load rfl (by kernel_rfl) (run_load1 (fun w=>by kernel_rfl) ((hc)))) ?_
  refine vcL_pure rfl rfl (Sl.v t19) (fun w=>by kernel_rfl) ?_
  refine vcL_nil ?_
  refine Vc.seq ?_
  refine Vc.region ?_
  refine vcL_purs 3 [(22, (Value.int .i64 0)), (21, (Value.int .i64 (t19.len : Int))), (20, (Sl.v t19))] (by kernel_rfl) ?_
  refine vcL_nil ?_
  refine Vc.block ?_
  obtain ⟨vI, mu, h, hr⟩ := h
  refine Vc.loopJ (σ := Sl × Int) [7, 22] [11, 23, 24, 25, 26, 27, 28, 29, 30, 31, 32, 33, 34, 35] (fun s=>[(7, (Sl.v s.1)), (22, (Value.int .i64 s.2))]) (fun s w=>vI s.1 s.2 w) (fun s w=>mu s.1 s.2 w) (out, 0) h (fun _ => rfl) (by kernel_rfl) ?_
  rintro ⟨out2, t22⟩ vw3 j h
  have h := hr out2 t22 vw3 h
  refine Vc.seq ?_
  refine Vc.region ?_
  refine vcL_pure rfl rfl (Value.bool (decide (t22 < (t19.len : Int)))) (fun w=>by kernel_rfl) ?_
  refine vcL_nil ?_
  refine Vc.seq ?_
  refine Vc.cond (decide (t22 < (t19.len : Int))) (by kernel_rfl) (fun hb=>?_) (fun hb=>?_)
  ·have h := h.1 (of_decide_eq_true hb)
   refine Vc.skip ?_
   refine Vc.seq ?_
   refine Vc.block ?_
   refine Vc.seq ?_
   refine Vc.region ?_
   obtain ⟨ad5, hi6, h⟩ := h
   refine vcL_pure rfl rfl (Value.pointer (some (ad5.add (t22.toNat * 2)))) (fun w=>by exact exec_indexAt (s := t19) (el := 81) rfl (by kernel_rfl) (by kernel_rfl) (by kernel_rfl) (fun w=>by kernel_rfl) (hi6).1 (hi6).2.1 (hi6).2.2 w) ?_
   obtain ⟨zz3t, zz3u, hc7, h⟩ := h
   refine vcL_val rfl rfl (Value.agg #[(Value.string zz3t), (Sl.v zz3u)]) (exec_load rfl (by kernel_rfl) (run_loadN (fun w=>by kernel_rfl) (fun w=>by kernel_rfl) ((hc7)))) ?_
   refine vcL_eff rfl (opVC_new rfl (fun a=>Value.pointer (some a)) (by kernel_rfl) (newS.mono h fun a8 vw9 hx h=>?_))
   refine vcL_eff rfl (opVC_store rfl rfl (a := a8) (by kernel_rfl) (v := (Value.agg #[(Value.string zz3t), (Sl.v zz3u)])) (by kernel_rfl) [(Value.string zz3t), (Sl.v zz3u)] (by kernel_rfl) (fun w=>by kernel_rfl) (by kernel_rfl) (stw.mono h fun vw10 h=>?_))
   refine vcL_nil ?_
   obtain ⟨vw11, hvw11⟩ : ∃ y, y = vw10.drew := ⟨_, rfl⟩
   have h := h vw11 hvw11
   refine Vc.draw (by kernel_rfl) (fun i=>!(memN [7, 8] i)) (.pur 0 (.pur 1 (.val 2 (.val 3 (.val 4 (.eff 5 (.pur 6 (.eff 7 (.eff 8 (.pur 9 .fin) .stop) .stop)) .stop)))))) (by kernel_rfl) ?_
   rw [← hvw11]
   clear hvw11
   refine vcS_pure rfl rfl rfl (Sl.v out2) (fun w=>by kernel_rfl) ?_
   refine vcS_pure rfl rfl rfl (Value.pointer (some a8)) (fun w=>by kernel_rfl) ?_
   obtain ⟨t28, hc12, h⟩ := h
   refine vcS_val rfl rfl rfl (Value.string t28) (fun w' hx=>exec_load rfl (by kernel_rfl) (run_load1 (fun w=>by kernel_rfl) ((hc12).ext hx))) ?_
   obtain ⟨zz1m, zz1n, zz1o, zz1p, hc13, h⟩ := h
   refine vcS_val rfl rfl rfl (Value.agg #[(Sl.v zz1m), (Sl.v zz1n), (Sl.v zz1o), (Sl.v zz1p)]) (fun w' hx=>exec_load rfl (by kernel_rfl) (run_loadN (fun w=>by kernel_rfl) (fun w=>by kernel_rfl) ((hc13).ext hx))) ?_
   obtain ⟨zz58, zz59, hc14, h⟩ := h
   refine vcS_val rfl rfl rfl (Value.agg #[(Value.string zz58), (Sl.v zz59)]) (fun w' hx=>exec_load rfl (by kernel_rfl) (run_loadN (fun w=>by kernel_rfl) (fun w=>by kernel_rfl) ((hc14).ext hx))) ?_
   refine vcS_eff rfl rfl (opVC_call rfl (by kernel_rfl) (callS.mono h fun v vw15 h=>?_)) vcS_stop
   obtain ⟨hx, h⟩ := h
   obtain ⟨t31, rfl, h⟩ := h
   refine ⟨fun _ => hx, ?_⟩
   refine vcS_pure rfl rfl rfl (Value.agg #[(Value.string t28), (Value.int .i64 1), (Sl.v t31)]) (fun w=>by kernel_rfl) ?_
   refine vcS_eff rfl rfl (opVC_new rfl (fun a=>Value.slice (some a) 1 1) (by kernel_rfl) (newS.mono h fun a16 vw17 hx h=>?_)) vcS_stop
   refine ⟨fun hb=>absurd hb (by decide), ?_⟩
   refine vcS_eff rfl rfl (opVC_sem rfl (c := Builtin.append_ #[75, 75] 75 #[(Sl.v out2), (Sl.v (Sl.mk (some a16) 1 1))]) (by kernel_rfl) (appS.elim (ty := 75) h fun t34 vw18 h=>?_)) vcS_stop
   refine ⟨fun hb=>absurd hb (by decide), ?_⟩
   refine vcS_pure rfl rfl rfl (Sl.v t34) (fun w=>by kernel_rfl) ?_
   refine vcS_fin ?_
   refine Vc.region ?_
   refine vcL_purs 2 [(22, (Value.int .i64 (wrapI (t22 + 1)))), (35, (Value.int .i64 (wrapI (t22 + 1))))] (by kernel_rfl) ?_
   refine vcL_nil ?_
   exact ⟨(t34, (wrapI (t22 + 1))), 32, ⟨rfl, by kernel_rfl, by kernel_rfl, by kernel_rfl⟩, h⟩
  ·have h := h.2 (of_decide_eq_false hb)
   refine Vc.exit ?_
   refine outOf_hit ?_
   refine Vc.region ?_
   refine vcL_purs 2 [(16, (Value.int .i64 (wrapI (t16 + 1)))), (36, (Value.int .i64 (wrapI (t16 + 1))))] (by kernel_rfl) ?_
   refine vcL_nil ?_
   exact ⟨(out2, (wrapI (t16 + 1))), 50, ⟨rfl, by kernel_rfl, by kernel_rfl, by kernel_rfl⟩, h⟩
 ·have h := h.2 (of_decide_eq_false hb)
  refine Vc.exit ?_
  refine outOf_hit ?_
  refine Vc.seq ?_
  refine Vc.seq ?_
  refine Vc.region ?_
  refine vcL_purs 3 [(39, (Value.int .i64 0)), (38, (Value.int .i64 (may.len : Int))), (37, (Sl.v may))] (by kernel_rfl) ?_
  refine vcL_nil ?_
  refine Vc.block ?_
  obtain ⟨vI44, mu45, h, hr46⟩ := h
  refine Vc.loopJ (σ := Sl × Int) [7, 39] [13, 40, 41, 42, 43, 44, 45, 46, 47, 48, 49, 50, 51, 52] (fun s=>[(7, (Sl.v s.1)), (39, (Value.int .i64 s.2))]) (fun s w=>vI44 s.1 s.2 w) (fun s w=>mu45 s.1 s.2 w) (out, 0) h (fun _ => rfl) (by kernel_rfl) ?_
  rintro ⟨out19, t39⟩ vw20 j h
  have h := hr46 out19 t39 vw20 h
  refine Vc.seq ?_
  refine Vc.region ?_
  refine vcL_pure rfl rfl (Value.bool (decide (t39 < (may.len : Int)))) (fun w=>by kernel_rfl) ?_
  refine vcL_nil ?_
  refine Vc.seq ?_
  refine Vc.cond (decide (t39 < (may.len : Int))) (by kernel_rfl) (fun hb=>?_) (fun hb=>?_)
  ·have h := h.1 (of_decide_eq_true hb)
   refine Vc.skip ?_
   refine Vc.seq ?_
   refine Vc.block ?_
   refine Vc.seq ?_
   refine Vc.region ?_
   obtain ⟨ad22, hi23, h⟩ := h
   refine vcL_pure rfl rfl (Value.pointer (some (ad22.add (t39.toNat * 2)))) (fun w=>by exact exec_indexAt (s := may) (el := 81) rfl (by kernel_rfl) (by kernel_rfl) (by kernel_rfl) (fun w=>by kernel_rfl) (hi23).1 (hi23).2.1 (hi23).2.2 w) ?_
   obtain ⟨zz3v, zz3w, hc24, h⟩ := h
   refine vcL_val rfl rfl (Value.agg #[(Value.string zz3v), (Sl.v zz3w)]) (exec_load rfl (by kernel_rfl) (run_loadN (fun w=>by kernel_rfl) (fun w=>by kernel_rfl) ((hc24)))) ?_
   refine vcL_eff rfl (opVC_new rfl (fun a=>Value.pointer (some a)) (by kernel_rfl) (newS.mono h fun a25 vw26 hx h=>?_))
   refine vcL_eff rfl (opVC_store rfl rfl (a := a25) (by kernel_rfl) (v := (Value.agg #[(Value.string zz3v), (Sl.v zz3w)])) (by kernel_rfl) [(Value.string zz3v), (Sl.v zz3w)] (by kernel_rfl) (fun w=>by kernel_rfl) (by kernel_rfl) (stw.mono h fun vw27 h=>?_))
   refine vcL_nil ?_
   obtain ⟨vw28, hvw28⟩ : ∃ y, y = vw27.drew := ⟨_, rfl⟩
   have h := h vw28 hvw28
   refine Vc.draw (by kernel_rfl) (fun i=>!(memN [7, 8] i)) (.pur 0 (.pur 1 (.val 2 (.val 3 (.val 4 (.eff 5 (.pur 6 (.eff 7 (.eff 8 (.pur 9 .fin) .stop) .stop)) .stop)))))) (by kernel_rfl) ?_
   rw [← hvw28]
   clear hvw28
   refine vcS_pure rfl rfl rfl (Sl.v out19) (fun w=>by kernel_rfl) ?_
   refine vcS_pure rfl rfl rfl (Value.pointer (some a25)) (fun w=>by kernel_rfl) ?_
   obtain ⟨t45, hc29, h⟩ := h
   refine vcS_val rfl rfl rfl (Value.string t45) (fun w' hx=>exec_load rfl (by kernel_rfl) (run_load1 (fun w=>by kernel_rfl) ((hc29).ext hx))) ?_
   obtain ⟨zz1x, zz5t, zz1y, zz5v, hc30, h⟩ := h
   refine vcS_val rfl rfl rfl (Value.agg #[(Sl.v zz1x), (Sl.v zz5t), (Sl.v zz1y), (Sl.v zz5v)]) (fun w' hx=>exec_load rfl (by kernel_rfl) (run_loadN (fun w=>by kernel_rfl) (fun w=>by kernel_rfl) ((hc30).ext hx))) ?_
   obtain ⟨zz62, zz65, hc31, h⟩ := h
   refine vcS_val rfl rfl rfl (Value.agg #[(Value.string zz62), (Sl.v zz65)]) (fun w' hx=>exec_load rfl (by kernel_rfl) (run_loadN (fun w=>by kernel_rfl) (fun w=>by kernel_rfl) ((hc31).ext hx))) ?_
   refine vcS_eff rfl rfl (opVC_call rfl (by kernel_rfl) (callS.mono h fun v33 vw32 h=>?_)) vcS_stop
   obtain ⟨hx34, h⟩ := h
   obtain ⟨t48, rfl, h⟩ := h
   refine ⟨fun _ => hx34, ?_⟩
   refine vcS_pure rfl rfl rfl (Value.agg #[(Value.string t45), (Value.int .i64 2), (Sl.v t48)]) (fun w=>by kernel_rfl) ?_
   refine vcS_eff rfl rfl (opVC_new rfl (fun a=>Value.slice (some a) 1 1) (by kernel_rfl) (newS.mono h fun a35 vw36 hx h=>?_)) vcS_stop
   refine ⟨fun hb=>absurd hb (by decide), ?_⟩
   refine vcS_eff rfl rfl (opVC_sem rfl (c := Builtin.append_ #[75, 75] 75 #[(Sl.v out19), (Sl.v (Sl.mk (some a35) 1 1))]) (by kernel_rfl) (appS.elim (ty := 75) h fun t51 vw37 h=>?_)) vcS_stop
   refine ⟨fun hb=>absurd hb (by decide), ?_⟩
   refine vcS_pure rfl rfl rfl (Sl.v t51) (fun w=>by kernel_rfl) ?_
   refine vcS_fin ?_
   refine Vc.region ?_
   refine vcL_purs 2 [(39, (Value.int .i64 (wrapI (t39 + 1)))), (52, (Value.int .i64 (wrapI (t39 + 1))))] (by kernel_rfl) ?_
   refine vcL_nil ?_
   exact ⟨(t51, (wrapI (t39 + 1))), 32, ⟨rfl, by kernel_rfl, by kernel_rfl, by kernel_rfl⟩, h⟩
  ·have h := h.2 (of_decide_eq_false hb)
   refine Vc.exit ?_
   refine outOf_hit ?_
   refine Vc.seq ?_
   refine Vc.region ?_
   refine vcL_pure rfl rfl (Sl.v out19) (fun w=>by kernel_rfl) ?_
   refine vcL_eff rfl (opVC_call rfl (by kernel_rfl) (callS.mono h fun v39 vw38 h=>?_))
   obtain ⟨rfl, h⟩ := h
   refine vcL_nil ?_
   refine Vc.seq ?_
   refine Vc.region ?_
   refine vcL_pure rfl rfl (Sl.v out19) (fun w=>by kernel_rfl) ?_
   refine vcL_eff rfl (opVC_call rfl (by kernel_rfl) (callS.mono h fun v42 vw41 h=>?_))
   obtain ⟨t56, rfl, h⟩ := h
   refine vcL_pure rfl rfl (Sl.v t56) (fun w=>by kernel_rfl) ?_
   refine vcL_nil ?_
   refine Vc.ret ?_
   refine outs_ret ?_
   refine done_mk (Sl.v t56) (res1 (resC_tmp (by kernel_rfl))) ?_
   exact ⟨t56, rfl, h⟩
theorem wants_all.go {zz0 : Sl} {zz1 : Sl} {zz2 : Sl} {zz3 : Sl} {must : Sl} {may : Sl} {w : World} {k : Value → World → Prop} (h : wants_all zz0 zz1 zz2 zz3 must may w fun r0 w'=>k (Sl.v r0) w') : callS Tryz.prog 87 [(Value.agg #[(Sl.v zz0), (Sl.v zz1), (Sl.v zz2), (Sl.v zz3)]), (Sl.v must), (Sl.v may)] w k := (wants_all.sound zz0 zz1 zz2 zz3 must may w _ h).mono (by rintro _ _ ⟨r0, rfl, h⟩; exact h)
def slices_Clip_apiDepapiDep (vs : Sl) (w : World) (R : Sl → World → Prop) : Prop :=
 ((0 : Int) ≤ 0 ∧ 0 ≤ (vs.len : Int) ∧ (vs.len : Int) ≤ (vs.len : Int) ∧ (vs.len : Int) ≤ (vs.cap : Int)) ∧ R (Sl.mk (if (vs.len : Int).toNat = 0 then vs.a else vs.a.map (·.add (0 * 2))) ((vs.len : Int).toNat - 0) ((vs.len : Int).toNat - 0)) w
set_option maxHeartbeats 8000000 in
theorem slices_Clip_apiDepapiDep.sound (vs : Sl) (w : World) (R : Sl → World → Prop) (h : slices_Clip_apiDepapiDep vs w R) : callS Tryz.prog 89 [(Sl.v vs)] w (fun v w'=>∃ (r0 : Sl), v = (Sl.v r0) ∧ R r0 w') := by
 unfold slices_Clip_apiDepapiDep at h
 refine calls_of_vc 9 rfl Tryz.func89 rfl (by kernel_rfl) (by simp) ?_
 refine Vc.seq ?_
 refine Vc.region ?_
 refine vcL_pure rfl rfl (Sl.v Sl.nil) (fun w=>by kernel_rfl) ?_
 refine vcL_nil ?_
 refine Vc.seq ?_
 refine Vc.region ?_
 refine vcL_purs 5 [(7, (Value.int .i64 (vs.len : Int))), (6, (Sl.v vs)), (5, (Value.int .i64 (vs.len : Int))), (4, (Sl.v vs)), (3, (Sl.v vs))] (by kernel_rfl) ?_
 obtain ⟨hi, h⟩ := h
 refine vcL_pure rfl rfl (Sl.v (Sl.mk (if (vs.len : Int).toNat = 0 then vs.a else vs.a.map (·.add (0 * 2))) ((vs.len : Int).toNat - 0) ((vs.len : Int).toNat - 0))) (fun w=>by exact exec_slSlHM (s := vs) (el := 81) (k2 := .i64) (k3 := .i64) rfl (by kernel_rfl) (by kernel_rfl) (by kernel_rfl) (by kernel_rfl) (fun w=>by kernel_rfl) (hi) w) ?_
 refine vcL_pure rfl rfl (Sl.v (Sl.mk (if (vs.len : Int).toNat = 0 then vs.a else vs.a.map (·.add (0 * 2))) ((vs.len : Int).toNat - 0) ((vs.len : Int).toNat - 0))) (fun w=>by kernel_rfl) ?_
 refine vcL_nil ?_
 refine Vc.ret ?_
 refine outs_ret ?_
 refine done_mk (Sl.v (Sl.mk (if (vs.len : Int).toNat = 0 then vs.a else vs.a.map (·.add (0 * 2))) ((vs.len : Int).toNat - 0) ((vs.len : Int).toNat - 0))) (res1 (resC_tmp (by kernel_rfl))) ?_
 exact ⟨(Sl.mk (if (vs.len : Int).toNat = 0 then vs.a else vs.a.map (·.add (0 * 2))) ((vs.len : Int).toNat - 0) ((vs.len : Int).toNat - 0)), rfl, h⟩
theorem slices_Clip_apiDepapiDep.go {vs : Sl} {w : World} {k : Value → World → Prop} (h : slices_Clip_apiDepapiDep vs w fun r0 w'=>k (Sl.v r0) w') : callS Tryz.prog 89 [(Sl.v vs)] w k := (slices_Clip_apiDepapiDep.sound vs w _ h).mono (by rintro _ _ ⟨r0, rfl, h⟩; exact h)
def slices_Clone_apiSpanapiSpan (vs : Sl) (w : World) (R : Sl → World → Prop) : Prop :=
 ((vs.a = none → R Sl.nil w) ∧ (¬ (vs.a = none) → newS w [] 83 fun a vw=>appS Tryz.prog 53 53 (Sl.mk (some a) 0 0) (Sl.v vs) vw fun t7 vw1=>R t7 vw1))
set_option maxHeartbeats 8000000 in
theorem slices_Clone_apiSpanapiSpan.sound (vs : Sl) (w : World) (R : Sl → World → Prop) (h : slices_Clone_apiSpanapiSpan vs w R) : callS Tryz.prog 90 [(Sl.v vs)] w (fun v w'=>∃ (r0 : Sl), v = (Sl.v r0) ∧ R r0 w') := by
 unfold slices_Clone_apiSpanapiSpan at h
 refine calls_of_vc 8 rfl Tryz.func90 rfl (by kernel_rfl) (by simp) ?_
 refine Vc.seq ?_
 refine Vc.region ?_
 refine vcL_pure rfl rfl (Sl.v Sl.nil) (fun w=>by kernel_rfl) ?_
 refine vcL_nil ?_
 refine Vc.seq ?_
 refine Vc.seq ?_
 refine Vc.region ?_
 refine vcL_pure rfl rfl (Sl.v vs) (fun w=>by kernel_rfl) ?_
 refine vcL_pure rfl rfl (Value.bool (Option.isNone vs.a)) (fun w=>by cases vs with | mk a_ n_ c_=>cases a_ <;> kernel_rfl) ?_
 refine vcL_nil ?_
 refine Vc.cond (Option.isNone vs.a) (by kernel_rfl) (fun hb=>?_) (fun hb=>?_)
 ·have h := h.1 (Option.isNone_iff_eq_none.1 hb)
  refine Vc.seq ?_
  refine Vc.region ?_
  refine vcL_pure rfl rfl (Sl.v Sl.nil) (fun w=>by kernel_rfl) ?_
  refine vcL_nil ?_
  refine Vc.ret ?_
  refine outs_ret ?_
  refine done_mk (Sl.v Sl.nil) (res1 (resC_tmp (by kernel_rfl))) ?_
  exact ⟨Sl.nil, rfl, h⟩
 ·have h := h.2 (isNone_false hb)
  refine Vc.skip ?_
  refine Vc.seq ?_
  refine Vc.region ?_
  refine vcL_eff rfl (opVC_new rfl (fun a=>Value.slice (some a) 0 0) (by kernel_rfl) (newS.mono h fun a vw hx h=>?_))
  refine vcL_pure rfl rfl (Sl.v vs) (fun w=>by kernel_rfl) ?_
  refine vcL_eff rfl (opVC_sem rfl (c := Builtin.append_ #[53, 53] 53 #[(Sl.v (Sl.mk (some a) 0 0)), (Sl.v vs)]) (by kernel_rfl) (appS.elim (ty := 53) h fun t7 vw1 h=>?_))
  refine vcL_pure rfl rfl (Sl.v t7) (fun w=>by kernel_rfl) ?_
  refine vcL_nil ?_
  refine Vc.ret ?_
  refine outs_ret ?_
  refine done_mk (Sl.v t7) (res1 (resC_tmp (by kernel_rfl))) ?_
  exact ⟨t7, rfl, h⟩
theorem slices_Clone_apiSpanapiSpan.go {vs : Sl} {w : World} {k : Value → World → Prop} (h : slices_Clone_apiSpanapiSpan vs w fun r0 w'=>k (Sl.v r0) w') : callS Tryz.prog 90 [(Sl.v vs)] w k := (slices_Clone_apiSpanapiSpan.sound vs w _ h).mono (by rintro _ _ ⟨r0, rfl, h⟩; exact h)
end Go.Hal.SE
