/- Lemmas for the claim K09t: how the program's functions run, and what they answer; no condition but those that each theorem names. -/
import Derived.Test.YtfaabhimmojeaaaGreatDoorProg
import Derived.Test.YtfaabhimmojeaaaGreatDoorK09tA0
set_option linter.unusedVariables false
set_option linter.unusedSimpArgs false
namespace Go.Hal.SE
open Go Go.RowKit Go.Hal Go.Proofs
set_option maxRecDepth 100000
namespace Eq0
theorem eqv_32 (d : Nat) (a0 : ByteArray) (a1 : Int) (a2 : Int) (a3 : Int) (b0 : ByteArray) (b1 : Int) (b2 : Int) (b3 : Int) (w : World) : (Op.equalIn (d + 3) 32 (.agg #[(Value.string a0), (Value.int .i64 a1), (Value.int .i64 a2), (Value.int .i64 a3)]) (.agg #[(Value.string b0), (Value.int .i64 b1), (Value.int .i64 b2), (Value.int .i64 b3)])).run Tryz.prog w = .ok ((bEq a0 b0) && (((a1 == b1) && ((a2 == b2) && ((a3 == b3) && true))) && true)) w :=
 (eqS (by kernel_rfl) (by kernel_rfl) (fs := [⟨ "Name", 9, 0, false, "", "", 0⟩, ⟨ "Version", 30, 1, false, "", "", 16⟩]) (by kernel_rfl) (eqF_cons (x := (Value.string a0)) (y := (Value.string b0)) rfl (by kernel_rfl) (by kernel_rfl) (run_equalIn_string w _ 9 a0 b0 (by kernel_rfl)) (eqF_cons (x := (Value.agg #[(Value.int .i64 a1), (Value.int .i64 a2), (Value.int .i64 a3)])) (y := (Value.agg #[(Value.int .i64 b1), (Value.int .i64 b2), (Value.int .i64 b3)])) rfl (by kernel_rfl) (by kernel_rfl) (eqS (by kernel_rfl) (by kernel_rfl) (fs := [⟨ "Major", 3, 0, false, "", "", 0⟩, ⟨ "Minor", 3, 1, false, "", "", 8⟩, ⟨ "Patch", 3, 2, false, "", "", 16⟩]) (by kernel_rfl) (eqF_cons (x := (Value.int .i64 a1)) (y := (Value.int .i64 b1)) rfl (by kernel_rfl) (by kernel_rfl) (run_equalIn_int w _ 3 .i64 .i64 a1 b1 (by kernel_rfl)) (eqF_cons (x := (Value.int .i64 a2)) (y := (Value.int .i64 b2)) rfl (by kernel_rfl) (by kernel_rfl) (run_equalIn_int w _ 3 .i64 .i64 a2 b2 (by kernel_rfl)) (eqF_cons (x := (Value.int .i64 a3)) (y := (Value.int .i64 b3)) rfl (by kernel_rfl) (by kernel_rfl) (run_equalIn_int w _ 3 .i64 .i64 a3 b3 (by kernel_rfl)) eqF_nil)))) eqF_nil)))
theorem eqv_83 (d : Nat) (a0 : Int) (a1 : Int) (a2 : Int) (a3 : Int) (a4 : Int) (a5 : Int) (b0 : Int) (b1 : Int) (b2 : Int) (b3 : Int) (b4 : Int) (b5 : Int) (w : World) : (Op.equalIn (d + 3) 83 (.agg #[(Value.int .i64 a0), (Value.int .i64 a1), (Value.int .i64 a2), (Value.int .i64 a3), (Value.int .i64 a4), (Value.int .i64 a5)]) (.agg #[(Value.int .i64 b0), (Value.int .i64 b1), (Value.int .i64 b2), (Value.int .i64 b3), (Value.int .i64 b4), (Value.int .i64 b5)])).run Tryz.prog w = .ok (((a0 == b0) && ((a1 == b1) && ((a2 == b2) && true))) && (((a3 == b3) && ((a4 == b4) && ((a5 == b5) && true))) && true)) w :=
 (eqS (by kernel_rfl) (by kernel_rfl) (fs := [⟨ "Lo", 30, 0, false, "", "", 0⟩, ⟨ "Hi", 30, 3, false, "", "", 24⟩]) (by kernel_rfl) (eqF_cons (x := (Value.agg #[(Value.int .i64 a0), (Value.int .i64 a1), (Value.int .i64 a2)])) (y := (Value.agg #[(Value.int .i64 b0), (Value.int .i64 b1), (Value.int .i64 b2)])) rfl (by kernel_rfl) (by kernel_rfl) (eqS (by kernel_rfl) (by kernel_rfl) (fs := [⟨ "Major", 3, 0, false, "", "", 0⟩, ⟨ "Minor", 3, 1, false, "", "", 8⟩, ⟨ "Patch", 3, 2, false, "", "", 16⟩]) (by kernel_rfl) (eqF_cons (x := (Value.int .i64 a0)) (y := (Value.int .i64 b0)) rfl (by kernel_rfl) (by kernel_rfl) (run_equalIn_int w _ 3 .i64 .i64 a0 b0 (by kernel_rfl)) (eqF_cons (x := (Value.int .i64 a1)) (y := (Value.int .i64 b1)) rfl (by kernel_rfl) (by kernel_rfl) (run_equalIn_int w _ 3 .i64 .i64 a1 b1 (by kernel_rfl)) (eqF_cons (x := (Value.int .i64 a2)) (y := (Value.int .i64 b2)) rfl (by kernel_rfl) (by kernel_rfl) (run_equalIn_int w _ 3 .i64 .i64 a2 b2 (by kernel_rfl)) eqF_nil)))) (eqF_cons (x := (Value.agg #[(Value.int .i64 a3), (Value.int .i64 a4), (Value.int .i64 a5)])) (y := (Value.agg #[(Value.int .i64 b3), (Value.int .i64 b4), (Value.int .i64 b5)])) rfl (by kernel_rfl) (by kernel_rfl) (eqS (by kernel_rfl) (by kernel_rfl) (fs := [⟨ "Major", 3, 0, false, "", "", 0⟩, ⟨ "Minor", 3, 1, false, "", "", 8⟩, ⟨ "Patch", 3, 2, false, "", "", 16⟩]) (by kernel_rfl) (eqF_cons (x := (Value.int .i64 a3)) (y := (Value.int .i64 b3)) rfl (by kernel_rfl) (by kernel_rfl) (run_equalIn_int w _ 3 .i64 .i64 a3 b3 (by kernel_rfl)) (eqF_cons (x := (Value.int .i64 a4)) (y := (Value.int .i64 b4)) rfl (by kernel_rfl) (by kernel_rfl) (run_equalIn_int w _ 3 .i64 .i64 a4 b4 (by kernel_rfl)) (eqF_cons (x := (Value.int .i64 a5)) (y := (Value.int .i64 b5)) rfl (by kernel_rfl) (by kernel_rfl) (run_equalIn_int w _ 3 .i64 .i64 a5 b5 (by kernel_rfl)) eqF_nil)))) eqF_nil)))
end Eq0
open Eq0
def halyardlaw09_WantsTold (zz4 : ByteArray) (zz5 : Int) (zz6 : Int) (zz7 : Int) (zz8 : Sl) (zza : Sl) (zz9 : Sl) (zz0 : Sl) (zz1 : Sl) (zz2 : Sl) (zz3 : Sl) (dev : Bool) (w : World) (R : Bool → World → Prop) : Prop :=
 newS w [(Value.string zz4), (Value.int .i64 zz5), (Value.int .i64 zz6), (Value.int .i64 zz7), (Sl.v zz8), (Sl.v zza), (Sl.v zz9)] 48 fun a vw=>newS vw [(Sl.v zz0), (Sl.v zz1), (Sl.v zz2), (Sl.v zz3)] 25 fun a1 vw2=>loop1 0 vw2 fun round vw3 nxt=>((round < 2 → bnd vw3.drew fun (vw4 : World)=>∃ (zz13 : ByteArray) (zz15 : Int) (zz16 : Int) (zz17 : Int) (zzf : Sl) (zz14 : Sl) (zzg : Sl), (ldc vw4 a [(Value.string zz13), (Value.int .i64 zz15), (Value.int .i64 zz16), (Value.int .i64 zz17), (Sl.v zzf), (Sl.v zz14), (Sl.v zzg)]) ∧ ∃ (zz1b : Sl) (zz1c : Sl) (zz1d : Sl) (zz1e : Sl), (ldc vw4 a1 [(Sl.v zz1b), (Sl.v zz1c), (Sl.v zz1d), (Sl.v zz1e)]) ∧ ∃ (zzq : ByteArray) (zzs : Int) (zzt : Int) (zzu : Int) (zzp : Sl) (zz1f : Sl) (zzr : Sl), (ldc vw4 a [(Value.string zzq), (Value.int .i64 zzs), (Value.int .i64 zzt), (Value.int .i64 zzu), (Sl.v zzp), (Sl.v zz1f), (Sl.v zzr)]) ∧ ∃ (zzd : Sl) (zz46 : Sl) (zze : Sl) (zz47 : Sl), (ldc vw4 a1 [(Sl.v zzd), (Sl.v zz46), (Sl.v zze), (Sl.v zz47)]) ∧ callX Tryz.prog 37 [(Value.agg #[(Value.string zz13), (Value.int .i64 zz15), (Value.int .i64 zz16), (Value.int .i64 zz17), (Sl.v zzf), (Sl.v zz14), (Sl.v zzg)]), (Value.agg #[(Sl.v zz1b), (Sl.v zz1c), (Sl.v zz1d), (Sl.v zz1e)])] vw4 fun v vw8=>∃ (t20 : Sl), v = (Sl.v t20) ∧ callS Tryz.prog 38 [(Value.agg #[(Value.string zzq), (Value.int .i64 zzs), (Value.int .i64 zzt), (Value.int .i64 zzu), (Sl.v zzp), (Sl.v zz1f), (Sl.v zzr)]), (Value.agg #[(Sl.v zzd), (Sl.v zz46), (Sl.v zze), (Sl.v zz47)])] vw8 fun v10 vw9=>∃ (t23 : Sl), v10 = (Sl.v t23) ∧ callS Tryz.prog 36 [(Sl.v t20), (Sl.v t23)] vw9 fun v13 vw12=>∃ (t24 : Bool), v13 = (Value.bool t24) ∧ bnd (!t24) fun (b : Bool)=>∃ (zz4a : Sl) (zz4b : Sl) (zz4c : Sl) (zz4d : Sl), grd (!b) (ldc vw12 a1 [(Sl.v zz4a), (Sl.v zz4b), (Sl.v zz4c), (Sl.v zz4d)]) ∧ ∃ (zz4h : Sl) (zz4i : Sl) (zz4j : Sl) (zz4k : Sl), grd (!b) (ldc vw12 a1 [(Sl.v zz4h), (Sl.v zz4i), (Sl.v zz4j), (Sl.v zz4k)]) ∧ gCall (!b) (fun (t29 : Sl) (vw17 : World)=>gCall (!b) (fun (t32 : Sl) (vw20 : World)=>gCall (!b) (fun (t33 : Bool) (vw25 : World)=>(((b || (!t33)) = true → R false vw25) ∧ ((b || (!t33)) = false → ∃ (zz4u : ByteArray) (zz4x : Int) (zz4y : Int) (zz4z : Int) (zz4t : Sl) (zz4w : Sl) (zz4v : Sl), (ldc vw25 a [(Value.string zz4u), (Value.int .i64 zz4x), (Value.int .i64 zz4y), (Value.int .i64 zz4z), (Sl.v zz4t), (Sl.v zz4w), (Sl.v zz4v)]) ∧ ∃ (zz1g : Sl) (zz50 : Sl) (zz1h : Sl) (zz52 : Sl), (ldc vw25 a1 [(Sl.v zz1g), (Sl.v zz50), (Sl.v zz1h), (Sl.v zz52)]) ∧ callS Tryz.prog 41 [(Value.agg #[(Value.string zz4u), (Value.int .i64 zz4x), (Value.int .i64 zz4y), (Value.int .i64 zz4z), (Sl.v zz4t), (Sl.v zz4w), (Sl.v zz4v)]), (Value.agg #[(Sl.v zz1g), (Sl.v zz50), (Sl.v zz1h), (Sl.v zz52)])] vw25 fun v33 vw32=>∃ (t38 : Sl), v33 = (Sl.v t38) ∧ ∃ (zz1i : ByteArray) (zz1j : Int) (zz1k : Int) (zz1l : Int) (zz5e : Sl) (zz5g : Sl) (zz5f : Sl), (ldc vw32 a [(Value.string zz1i), (Value.int .i64 zz1j), (Value.int .i64 zz1k), (Value.int .i64 zz1l), (Sl.v zz5e), (Sl.v zz5g), (Sl.v zz5f)]) ∧ ∃ (zzb : Sl) (zz5h : Sl) (zzc : Sl) (zz5i : Sl), (ldc vw32 a1 [(Sl.v zzb), (Sl.v zz5h), (Sl.v zzc), (Sl.v zz5i)]) ∧ callS Tryz.prog 43 [(Value.agg #[(Value.string zz1i), (Value.int .i64 zz1j), (Value.int .i64 zz1k), (Value.int .i64 zz1l), (Sl.v zz5e), (Sl.v zz5g), (Sl.v zz5f)]), (Value.agg #[(Sl.v zzb), (Sl.v zz5h), (Sl.v zzc), (Sl.v zz5i)])] vw32 fun v38 vw37=>∃ (t42 : Sl), v38 = (Sl.v t42) ∧ callS Tryz.prog 42 [(Sl.v t38), (Sl.v t42)] vw37 fun v41 vw40=>∃ (t43 : Bool), v41 = (Value.bool t43) ∧ (((!t43) = true → R false vw40) ∧ ((!t43) = false → loop1 0 vw40 fun i vw43 nxt44=>((i < (t38.len : Int) → loop1 0 vw43 fun vk vw45 nxt46=>∃ (ad : Addr), (t38.a = some ad ∧ (0 : Int) ≤ i ∧ i < (t38.len : Int)) ∧ ∃ (t56 : Sl), (ldc vw45 ((ad.add (i.toNat * 2)).add 1) [(Sl.v t56)]) ∧ ((vk < (t56.len : Int) → ∃ (ad48 : Addr), (t38.a = some ad48 ∧ (0 : Int) ≤ i ∧ i < (t38.len : Int)) ∧ ∃ (t65 : Sl), (ldc vw45 ((ad48.add (i.toNat * 2)).add 1) [(Sl.v t65)]) ∧ ∃ (ad51 : Addr), (t65.a = some ad51 ∧ (0 : Int) ≤ vk ∧ vk < (t65.len : Int)) ∧ stw vw45 (ad51.add (vk.toNat * 6)) [(Value.int .i64 (-1)), (Value.int .i64 0), (Value.int .i64 0), (Value.int .i64 0), (Value.int .i64 0), (Value.int .i64 0)] fun vw53=>nxt46 (wrapI (vk + 1)) vw53) ∧ (¬ (vk < (t56.len : Int)) → nxt44 (wrapI (i + 1)) vw45))) ∧ (¬ (i < (t38.len : Int)) → loop1 0 vw43 fun i54 vw55 nxt56=>∃ (t72 : Sl), (ldc vw55 a1 [(Sl.v t72)]) ∧ ((i54 < (t72.len : Int) → bnd vw55.drew fun (vw58 : World)=>∃ (zz61 : Sl) (zz62 : Sl) (zz63 : Sl) (zz64 : Sl), (ldc vw58 a1 [(Sl.v zz61), (Sl.v zz62), (Sl.v zz63), (Sl.v zz64)]) ∧ ∃ (t79 : Sl), (ldc vw58 a1 [(Sl.v t79)]) ∧ ∃ (ad61 : Addr), (t79.a = some ad61 ∧ (0 : Int) ≤ i54 ∧ i54 < (t79.len : Int)) ∧ ∃ (zz69 : ByteArray) (zz6a : Sl), (ldc vw58 (ad61.add (i54.toNat * 2)) [(Value.string zz69), (Sl.v zz6a)]) ∧ callS Tryz.prog 44 [(Value.agg #[(Sl.v zz61), (Sl.v zz62), (Sl.v zz63), (Sl.v zz64)]), (Value.agg #[(Value.string zz69), (Sl.v zz6a)])] vw58 fun v65 vw64=>∃ (t83 : Sl), v65 = (Sl.v t83) ∧ bnd vw64.drew fun (vw67 : World)=>∃ (zz6f : Sl) (zz6g : Sl) (zz6h : Sl) (zz6i : Sl), (ldc vw67 a1 [(Sl.v zz6f), (Sl.v zz6g), (Sl.v zz6h), (Sl.v zz6i)]) ∧ ∃ (t87 : Sl), (ldc vw67 a1 [(Sl.v t87)]) ∧ ∃ (ad70 : Addr), (t87.a = some ad70 ∧ (0 : Int) ≤ i54 ∧ i54 < (t87.len : Int)) ∧ ∃ (zz6q : ByteArray) (zz6r : Sl), (ldc vw67 (ad70.add (i54.toNat * 2)) [(Value.string zz6q), (Sl.v zz6r)]) ∧ callS Tryz.prog 46 [(Value.agg #[(Sl.v zz6f), (Sl.v zz6g), (Sl.v zz6h), (Sl.v zz6i)]), (Value.agg #[(Value.string zz6q), (Sl.v zz6r)])] vw67 fun v74 vw73=>∃ (t91 : Sl), v74 = (Sl.v t91) ∧ callS Tryz.prog 45 [(Sl.v t83), (Sl.v t91)] vw73 fun v77 vw76=>∃ (t92 : Bool), v77 = (Value.bool t92) ∧ (((!t92) = true → R false vw76) ∧ ((!t92) = false → loop1 0 vw76 fun vk79 vw80 nxt81=>((vk79 < (t83.len : Int) → ∃ (ad82 : Addr), (t83.a = some ad82 ∧ (0 : Int) ≤ vk79 ∧ vk79 < (t83.len : Int)) ∧ stw vw80 (ad82.add (vk79.toNat * 6)) [(Value.int .i64 0), (Value.int .i64 0), (Value.int .i64 0), (Value.int .i64 0), (Value.int .i64 0), (Value.int .i64 0)] fun vw84=>nxt81 (wrapI (vk79 + 1)) vw84) ∧ (¬ (vk79 < (t83.len : Int)) → nxt56 (wrapI (i54 + 1)) vw80))))) ∧ (¬ (i54 < (t72.len : Int)) → nxt (wrapI (round + 1)) vw55))))))))) (fun q=>callS Tryz.prog 36 [(Sl.v t29), (Sl.v t32)] vw20 fun v26 vw25=>∃ (t33 : Bool), v26 = (Value.bool t33) ∧ q t33 vw25) (fun q=>q false vw20)) (fun q=>callS Tryz.prog 40 [(Value.agg #[(Sl.v zz4h), (Sl.v zz4i), (Sl.v zz4j), (Sl.v zz4k)]), (Value.bool dev)] vw17 fun v21 vw20=>∃ (t32 : Sl), v21 = (Sl.v t32) ∧ q t32 vw20) (fun q=>q Sl.nil vw17)) (fun q=>callX Tryz.prog 39 [(Value.agg #[(Sl.v zz4a), (Sl.v zz4b), (Sl.v zz4c), (Sl.v zz4d)]), (Value.bool dev)] vw12 fun v18 vw17=>∃ (t29 : Sl), v18 = (Sl.v t29) ∧ q t29 vw17) (fun q=>q Sl.nil vw12)) ∧ (¬ (round < 2) → callS Tryz.prog 12 [] vw3 fun v95 vw94=>∃ (t104 : Bool), v95 = (Value.bool t104) ∧ R t104 vw94))
set_option maxHeartbeats 8000000 in
theorem halyardlaw09_WantsTold.sound (zz4 : ByteArray) (zz5 : Int) (zz6 : Int) (zz7 : Int) (zz8 : Sl) (zza : Sl) (zz9 : Sl) (zz0 : Sl) (zz1 : Sl) (zz2 : Sl) (zz3 : Sl) (dev : Bool) (w : World) (R : Bool → World → Prop) (h : halyardlaw09_WantsTold zz4 zz5 zz6 zz7 zz8 zza zz9 zz0 zz1 zz2 zz3 dev w R) : callS Tryz.prog 8 [(Value.agg #[(Value.string zz4), (Value.int .i64 zz5), (Value.int .i64 zz6), (Value.int .i64 zz7), (Sl.v zz8), (Sl.v zza), (Sl.v zz9)]), (Value.agg #[(Sl.v zz0), (Sl.v zz1), (Sl.v zz2), (Sl.v zz3)]), (Value.bool dev)] w (fun v w'=>∃ (r0 : Bool), v = (Value.bool r0) ∧ R r0 w') := by
 unfold halyardlaw09_WantsTold at h
 refine calls_of_vc 105 rfl Tryz.func8 rfl (by kernel_rfl) (by simp) ?_
 refine Vc.seq ?_
 refine Vc.region ?_
 refine vcL_eff rfl (opVC_new rfl (fun a=>Value.pointer (some a)) (by kernel_rfl) (newS.mono h fun a vw hx h=>?_))
 refine vcL_eff rfl (opVC_new rfl (fun a=>Value.pointer (some a)) (by kernel_rfl) (newS.mono h fun a1 vw2 hx h=>?_))
 refine vcL_pure rfl rfl (Value.bool false) (fun w=>by kernel_rfl) ?_
 refine vcL_nil ?_
 refine Vc.seq ?_
 refine Vc.seq ?_
 refine Vc.region ?_
 refine vcL_pure rfl rfl (Value.int .i64 0) (fun w=>by kernel_rfl) ?_
 refine vcL_nil ?_
 refine Vc.block ?_
 obtain ⟨vI97, mu98, h, hr99⟩ := h
 refine Vc.loopJ (σ := Int) [7] [6, 8, 9, 10, 11, 12, 13, 14, 15, 16, 17, 18, 19, 20, 21, 22, 23, 24, 25, 26, 27, 28, 29, 30, 31, 32, 33, 34, 35, 36, 37, 38, 39, 40, 41, 42, 43, 44, 45, 46, 47, 48, 49, 50, 51, 52, 53, 54, 55, 56, 57, 58, 59, 60, 61, 62, 63, 64, 65, 66, 67, 68, 69, 70, 71, 72, 73, 74, 75, 76, 77, 78, 79, 80, 81, 82, 83, 84, 85, 86, 87, 88, 89, 90, 91, 92, 93, 94, 95, 96, 97, 98, 99, 100, 101, 102, 103] (fun s=>[(7, (Value.int .i64 s))]) (fun s w=>vI97 s w) (fun s w=>mu98 s w) 0 h (fun _ => rfl) (by kernel_rfl) ?_
 intro round vw3 j h
 have h := hr99 round vw3 h
 refine Vc.seq ?_
 refine Vc.seq ?_
 refine Vc.region ?_
 refine vcL_purs 2 [(15, (Value.bool (decide (round < 2)))), (14, (Value.int .i64 round))] (by kernel_rfl) ?_
 refine vcL_nil ?_
 refine Vc.cond (decide (round < 2)) (by kernel_rfl) (fun hb=>?_) (fun hb=>?_)
 ·have h := h.1 (of_decide_eq_true hb)
  refine Vc.skip ?_
  refine Vc.seq ?_
  refine Vc.block ?_
  refine Vc.seq ?_
  refine Vc.seq ?_
  obtain ⟨vw4, hvw4⟩ : ∃ y, y = vw3.drew := ⟨_, rfl⟩
  have h := h vw4 hvw4
  refine Vc.draw (by kernel_rfl) (fun i=>!(memN [5, 6, 14, 15] i)) (.val 0 (.val 1 (.val 3 (.val 4 (.eff 2 (.eff 5 (.eff 6 (.pur 7 (.pur 8 (.val 9 (.pur 10 (.val 12 (.pur 13 (.eff 11 (.eff 14 (.eff 15 (.pur 16 (.pur 17 .fin)) .stop) .stop) .stop))))))) .stop) .stop) .stop))))) (by kernel_rfl) ?_
  rw [← hvw4]
  clear hvw4
  obtain ⟨zz13, zz15, zz16, zz17, zzf, zz14, zzg, hc, h⟩ := h
  refine vcS_val rfl rfl rfl (Value.agg #[(Value.string zz13), (Value.int .i64 zz15), (Value.int .i64 zz16), (Value.int .i64 zz17), (Sl.v zzf), (Sl.v zz14), (Sl.v zzg)]) (fun w' hx=>exec_load rfl (by kernel_rfl) (run_loadN (fun w=>by kernel_rfl) (fun w=>by kernel_rfl) ((hc).ext hx))) ?_
  obtain ⟨zz1b, zz1c, zz1d, zz1e, hc5, h⟩ := h
  refine vcS_val rfl rfl rfl (Value.agg #[(Sl.v zz1b), (Sl.v zz1c), (Sl.v zz1d), (Sl.v zz1e)]) (fun w' hx=>exec_load rfl (by kernel_rfl) (run_loadN (fun w=>by kernel_rfl) (fun w=>by kernel_rfl) ((hc5).ext hx))) ?_
  obtain ⟨zzq, zzs, zzt, zzu, zzp, zz1f, zzr, hc6, h⟩ := h
  refine vcS_val rfl rfl rfl (Value.agg #[(Value.string zzq), (Value.int .i64 zzs), (Value.int .i64 zzt), (Value.int .i64 zzu), (Sl.v zzp), (Sl.v zz1f), (Sl.v zzr)]) (fun w' hx=>exec_load rfl (by kernel_rfl) (run_loadN (fun w=>by kernel_rfl) (fun w=>by kernel_rfl) ((hc6).ext hx))) ?_
  obtain ⟨zzd, zz46, zze, zz47, hc7, h⟩ := h
  refine vcS_val rfl rfl rfl (Value.agg #[(Sl.v zzd), (Sl.v zz46), (Sl.v zze), (Sl.v zz47)]) (fun w' hx=>exec_load rfl (by kernel_rfl) (run_loadN (fun w=>by kernel_rfl) (fun w=>by kernel_rfl) ((hc7).ext hx))) ?_
  refine vcS_eff rfl rfl (opVC_call rfl (by kernel_rfl) (callS.mono h fun v vw8 h=>?_)) vcS_stop
  obtain ⟨hx, h⟩ := h
  obtain ⟨t20, rfl, h⟩ := h
  refine ⟨fun _ => hx, ?_⟩
  refine vcS_eff rfl rfl (opVC_call rfl (by kernel_rfl) (callS.mono h fun v10 vw9 h=>?_)) vcS_stop
  obtain ⟨t23, rfl, h⟩ := h
  refine ⟨fun hb=>absurd hb (by decide), ?_⟩
  refine vcS_eff rfl rfl (opVC_call rfl (by kernel_rfl) (callS.mono h fun v13 vw12 h=>?_)) vcS_stop
  obtain ⟨t24, rfl, h⟩ := h
  refine ⟨fun hb=>absurd hb (by decide), ?_⟩
  refine vcS_pure rfl rfl rfl (Value.bool (!t24)) (fun w=>by kernel_rfl) ?_
  obtain ⟨b, hb⟩ : ∃ y, y = (!t24) := ⟨_, rfl⟩
  have h := h b hb
  refine vcS_pure rfl rfl rfl (Value.bool b) (fun w=>by rw [hb]; kernel_rfl) ?_
  obtain ⟨zz4a, zz4b, zz4c, zz4d, hc15, h⟩ := h
  refine vcS_valG rfl (!b) (wanted_g (d := 26) rfl (by kernel_rfl) b (by kernel_rfl) (!b) (eqF b)) rfl (Value.agg #[(Sl.v zz4a), (Sl.v zz4b), (Sl.v zz4c), (Sl.v zz4d)]) (fun hg w' hx=>by simp only [Bool.and_eq_true, Bool.not_eq_true'] at hg; obtain rfl := hg; exact exec_load rfl (by kernel_rfl) (run_loadN (fun w=>by kernel_rfl) (fun w=>by kernel_rfl) ((hc15 rfl).ext hx))) ?_
  refine vcS_guard rfl (!b) (wanted_g (d := 26) rfl (by kernel_rfl) b (by kernel_rfl) (!b) (eqF b)) rfl (Value.bool dev) (fun hg w=>by simp only [Bool.and_eq_true, Bool.not_eq_true'] at hg; obtain rfl := hg; kernel_rfl) ?_
  obtain ⟨zz4h, zz4i, zz4j, zz4k, hc16, h⟩ := h
  refine vcS_valG rfl (!b) (wanted_g (d := 26) rfl (by kernel_rfl) b (by kernel_rfl) (!b) (eqF b)) rfl (Value.agg #[(Sl.v zz4h), (Sl.v zz4i), (Sl.v zz4j), (Sl.v zz4k)]) (fun hg w' hx=>by simp only [Bool.and_eq_true, Bool.not_eq_true'] at hg; obtain rfl := hg; exact exec_load rfl (by kernel_rfl) (run_loadN (fun w=>by kernel_rfl) (fun w=>by kernel_rfl) ((hc16 rfl).ext hx))) ?_
  refine vcS_guard rfl (!b) (wanted_g (d := 26) rfl (by kernel_rfl) b (by kernel_rfl) (!b) (eqF b)) rfl (Value.bool dev) (fun hg w=>by simp only [Bool.and_eq_true, Bool.not_eq_true'] at hg; obtain rfl := hg; kernel_rfl) ?_
  obtain ⟨vJ, hJ, h⟩ := gCall_elim h
  refine vcS_effJ (σ := Sl) rfl (!b) (wanted_g (d := 26) rfl (by kernel_rfl) b (by kernel_rfl) (!b) (eqF b)) rfl (fun s w=>vJ s w) (fun s=>(Sl.v s)) ?_ (fun hg=>opVC_call rfl (by simp only [Bool.and_eq_true, Bool.not_eq_true'] at hg; obtain rfl := hg; kernel_rfl) (callS.mono (h.1 hg) fun v18 vw17 hq=>?_)) (fun hg=>⟨Sl.nil, h.2 hg⟩) vcS_stop
  ·intro t29 vw17 h
   subst hJ
   obtain ⟨vJ23, hJ24, h⟩ := gCall_elim h
   refine vcS_effJ (σ := Sl) rfl (!b) (wanted_g (d := 26) rfl (by kernel_rfl) b (by kernel_rfl) (!b) (eqF b)) rfl (fun s w=>vJ23 s w) (fun s=>(Sl.v s)) ?_ (fun hg=>opVC_call rfl (by simp only [Bool.and_eq_true, Bool.not_eq_true'] at hg; obtain rfl := hg; kernel_rfl) (callS.mono (h.1 hg) fun v21 vw20 hq=>?_)) (fun hg=>⟨Sl.nil, h.2 hg⟩) vcS_stop
   ·intro t32 vw20 h
    subst hJ24
    obtain ⟨vJ28, hJ29, h⟩ := gCall_elim h
    refine vcS_effJ (σ := Bool) rfl (!b) (wanted_g (d := 26) rfl (by kernel_rfl) b (by kernel_rfl) (!b) (eqF b)) rfl (fun s w=>vJ28 s w) (fun s=>(Value.bool s)) ?_ (fun hg=>opVC_call rfl (by simp only [Bool.and_eq_true, Bool.not_eq_true'] at hg; obtain rfl := hg; kernel_rfl) (callS.mono (h.1 hg) fun v26 vw25 hq=>?_)) (fun hg=>⟨false, h.2 hg⟩) vcS_stop
    ·intro t33 vw25 h
     subst hJ29
     refine vcS_guard rfl (!b) (wanted_g (d := 26) rfl (by kernel_rfl) b (by kernel_rfl) (!b) (eqF b)) rfl (Value.bool (!t33)) (fun hg w=>by simp only [Bool.and_eq_true, Bool.not_eq_true'] at hg; obtain rfl := hg; kernel_rfl) ?_
     refine vcS_pure rfl rfl rfl (Value.bool (b || (!t33))) (fun w=>by cases b <;> kernel_rfl) ?_
     refine vcS_fin ?_
     refine Vc.cond (b || (!t33)) (by kernel_rfl) (fun hb=>?_) (fun hb=>?_)
     ·have h := h.1 (hb)
      refine Vc.seq ?_
      refine Vc.region ?_
      refine vcL_pure rfl rfl (Value.bool false) (fun w=>by kernel_rfl) ?_
      refine vcL_nil ?_
      refine Vc.ret ?_
      refine outOf_ret ?_
      refine outOf_ret ?_
      refine outs_ret ?_
      refine done_mk (Value.bool false) (res1 (resC_tmp (by kernel_rfl))) ?_
      exact ⟨false, rfl, h⟩
     ·have h := h.2 (hb)
      refine Vc.skip ?_
      refine Vc.seq ?_
      refine Vc.region ?_
      obtain ⟨zz4u, zz4x, zz4y, zz4z, zz4t, zz4w, zz4v, hc30, h⟩ := h
      refine vcL_val rfl rfl (Value.agg #[(Value.string zz4u), (Value.int .i64 zz4x), (Value.int .i64 zz4y), (Value.int .i64 zz4z), (Sl.v zz4t), (Sl.v zz4w), (Sl.v zz4v)]) (exec_load rfl (by kernel_rfl) (run_loadN (fun w=>by kernel_rfl) (fun w=>by kernel_rfl) ((hc30)))) ?_
      obtain ⟨zz1g, zz50, zz1h, zz52, hc31, h⟩ := h
      refine vcL_val rfl rfl (Value.agg #[(Sl.v zz1g), (Sl.v zz50), (Sl.v zz1h), (Sl.v zz52)]) (exec_load rfl (by kernel_rfl) (run_loadN (fun w=>by kernel_rfl) (fun w=>by kernel_rfl) ((hc31)))) ?_
      refine vcL_eff rfl (opVC_call rfl (by kernel_rfl) (callS.mono h fun v33 vw32 h=>?_))
      obtain ⟨t38, rfl, h⟩ := h
      refine vcL_pure rfl rfl (Sl.v t38) (fun w=>by kernel_rfl) ?_
      refine vcL_nil ?_
      refine Vc.seq ?_
      refine Vc.seq ?_
      refine Vc.region ?_
      refine vcL_pure rfl rfl (Sl.v t38) (fun w=>by kernel_rfl) ?_
      obtain ⟨zz1i, zz1j, zz1k, zz1l, zz5e, zz5g, zz5f, hc35, h⟩ := h
      refine vcL_val rfl rfl (Value.agg #[(Value.string zz1i), (Value.int .i64 zz1j), (Value.int .i64 zz1k), (Value.int .i64 zz1l), (Sl.v zz5e), (Sl.v zz5g), (Sl.v zz5f)]) (exec_load rfl (by kernel_rfl) (run_loadN (fun w=>by kernel_rfl) (fun w=>by kernel_rfl) ((hc35)))) ?_
      obtain ⟨zzb, zz5h, zzc, zz5i, hc36, h⟩ := h
      refine vcL_val rfl rfl (Value.agg #[(Sl.v zzb), (Sl.v zz5h), (Sl.v zzc), (Sl.v zz5i)]) (exec_load rfl (by kernel_rfl) (run_loadN (fun w=>by kernel_rfl) (fun w=>by kernel_rfl) ((hc36)))) ?_
      refine vcL_eff rfl (opVC_call rfl (by kernel_rfl) (callS.mono h fun v38 vw37 h=>?_))
      obtain ⟨t42, rfl, h⟩ := h
      refine vcL_eff rfl (opVC_call rfl (by kernel_rfl) (callS.mono h fun v41 vw40 h=>?_))
      obtain ⟨t43, rfl, h⟩ := h
      refine vcL_pure rfl rfl (Value.bool (!t43)) (fun w=>by kernel_rfl) ?_
      refine vcL_nil ?_
      refine Vc.cond (!t43) (by kernel_rfl) (fun hb=>?_) (fun hb=>?_)
      ·have h := h.1 (hb)
       refine Vc.seq ?_
       refine Vc.region ?_
       refine vcL_pure rfl rfl (Value.bool false) (fun w=>by kernel_rfl) ?_
       refine vcL_nil ?_
       refine Vc.ret ?_
       refine outOf_ret ?_
       refine outOf_ret ?_
       refine outs_ret ?_
       refine done_mk (Value.bool false) (res1 (resC_tmp (by kernel_rfl))) ?_
       exact ⟨false, rfl, h⟩
      ·have h := h.2 (hb)
       refine Vc.skip ?_
       refine Vc.seq ?_
       refine Vc.seq ?_
       refine Vc.region ?_
       refine vcL_pure rfl rfl (Value.int .i64 0) (fun w=>by kernel_rfl) ?_
       refine vcL_nil ?_
       refine Vc.block ?_
       obtain ⟨vI91, mu92, h, hr93⟩ := h
       refine Vc.loopJ (σ := Int) [9] [10, 45, 46, 47, 48, 49, 50, 51, 52, 53, 54, 55, 56, 57, 58, 59, 60, 61, 62, 63, 64, 65, 66, 67, 68, 69] (fun s=>[(9, (Value.int .i64 s))]) (fun s w=>vI91 s w) (fun s w=>mu92 s w) 0 h (fun _ => rfl) (by kernel_rfl) ?_
       intro i vw43 j h
       have h := hr93 i vw43 h
       refine Vc.seq ?_
       refine Vc.seq ?_
       refine Vc.region ?_
       refine vcL_purs 4 [(48, (Value.bool (decide (i < (t38.len : Int))))), (47, (Value.int .i64 (t38.len : Int))), (46, (Sl.v t38)), (45, (Value.int .i64 i))] (by kernel_rfl) ?_
       refine vcL_nil ?_
       refine Vc.cond (decide (i < (t38.len : Int))) (by kernel_rfl) (fun hb=>?_) (fun hb=>?_)
       ·have h := h.1 (of_decide_eq_true hb)
        refine Vc.skip ?_
        refine Vc.seq ?_
        refine Vc.block ?_
        refine Vc.seq ?_
        refine Vc.region ?_
        refine vcL_pure rfl rfl (Value.int .i64 0) (fun w=>by kernel_rfl) ?_
        refine vcL_nil ?_
        refine Vc.block ?_
        obtain ⟨vI, mu, h, hr⟩ := h
        refine Vc.loopJ (σ := Int) [10] [51, 52, 53, 54, 55, 56, 57, 58, 59, 60, 61, 62, 63, 64, 65, 66, 67, 68, 69] (fun s=>[(10, (Value.int .i64 s))]) (fun s w=>vI s w) (fun s w=>mu s w) 0 h (fun _ => rfl) (by kernel_rfl) ?_
        intro vk vw45 j h
        have h := hr vk vw45 h
        refine Vc.seq ?_
        refine Vc.seq ?_
        refine Vc.region ?_
        refine vcL_purs 3 [(53, (Value.int .i64 i)), (52, (Sl.v t38)), (51, (Value.int .i64 vk))] (by kernel_rfl) ?_
        obtain ⟨ad, hi, h⟩ := h
        refine vcL_pure rfl rfl (Value.pointer (some (ad.add (i.toNat * 2)))) (fun w=>by exact exec_indexAt (s := t38) (el := 81) rfl (by kernel_rfl) (by kernel_rfl) (by kernel_rfl) (fun w=>by kernel_rfl) (hi).1 (hi).2.1 (hi).2.2 w) ?_
        refine vcL_pure rfl rfl (Value.pointer (some ((ad.add (i.toNat * 2)).add 1))) (fun w=>by kernel_rfl) ?_
        obtain ⟨t56, hc47, h⟩ := h
        refine vcL_val rfl rfl (Sl.v t56) (exec_load rfl (by kernel_rfl) (run_load1 (fun w=>by kernel_rfl) ((hc47)))) ?_
        refine vcL_purs 2 [(58, (Value.bool (decide (vk < (t56.len : Int))))), (57, (Value.int .i64 (t56.len : Int)))] (by kernel_rfl) ?_
        refine vcL_nil ?_
        refine Vc.cond (decide (vk < (t56.len : Int))) (by kernel_rfl) (fun hb=>?_) (fun hb=>?_)
        ·have h := h.1 (of_decide_eq_true hb)
         refine Vc.skip ?_
         refine Vc.seq ?_
         refine Vc.block ?_
         refine Vc.region ?_
         refine vcL_purs 2 [(62, (Value.int .i64 i)), (61, (Sl.v t38))] (by kernel_rfl) ?_
         obtain ⟨ad48, hi49, h⟩ := h
         refine vcL_pure rfl rfl (Value.pointer (some (ad48.add (i.toNat * 2)))) (fun w=>by exact exec_indexAt (s := t38) (el := 81) rfl (by kernel_rfl) (by kernel_rfl) (by kernel_rfl) (fun w=>by kernel_rfl) (hi49).1 (hi49).2.1 (hi49).2.2 w) ?_
         refine vcL_pure rfl rfl (Value.pointer (some ((ad48.add (i.toNat * 2)).add 1))) (fun w=>by kernel_rfl) ?_
         obtain ⟨t65, hc50, h⟩ := h
         refine vcL_val rfl rfl (Sl.v t65) (exec_load rfl (by kernel_rfl) (run_load1 (fun w=>by kernel_rfl) ((hc50)))) ?_
         refine vcL_purs 3 [(68, (Value.agg #[(Value.int .i64 (-1)), (Value.int .i64 0), (Value.int .i64 0), (Value.int .i64 0), (Value.int .i64 0), (Value.int .i64 0)])), (67, (Value.agg #[(Value.int .i64 (-1)), (Value.int .i64 0), (Value.int .i64 0)])), (66, (Value.int .i64 vk))] (by kernel_rfl) ?_
         obtain ⟨ad51, hi52, h⟩ := h
         refine vcL_pure rfl rfl (Value.pointer (some (ad51.add (vk.toNat * 6)))) (fun w=>by exact exec_indexAt (s := t65) (el := 83) rfl (by kernel_rfl) (by kernel_rfl) (by kernel_rfl) (fun w=>by kernel_rfl) (hi52).1 (hi52).2.1 (hi52).2.2 w) ?_
         refine vcL_eff rfl (opVC_store rfl rfl (a := (ad51.add (vk.toNat * 6))) (by kernel_rfl) (v := (Value.agg #[(Value.int .i64 (-1)), (Value.int .i64 0), (Value.int .i64 0), (Value.int .i64 0), (Value.int .i64 0), (Value.int .i64 0)])) (by kernel_rfl) [(Value.int .i64 (-1)), (Value.int .i64 0), (Value.int .i64 0), (Value.int .i64 0), (Value.int .i64 0), (Value.int .i64 0)] (by kernel_rfl) (fun w=>by kernel_rfl) (by kernel_rfl) (stw.mono h fun vw53 h=>?_))
         refine vcL_nil ?_
         refine Vc.region ?_
         refine vcL_purs 3 [(10, (Value.int .i64 (wrapI (vk + 1)))), (60, (Value.int .i64 (wrapI (vk + 1)))), (59, (Value.int .i64 vk))] (by kernel_rfl) ?_
         refine vcL_nil ?_
         exact ⟨(wrapI (vk + 1)), 40, ⟨rfl, by kernel_rfl, by kernel_rfl, by kernel_rfl⟩, h⟩
        ·have h := h.2 (of_decide_eq_false hb)
         refine Vc.exit ?_
         refine outOf_hit ?_
         refine Vc.region ?_
         refine vcL_purs 3 [(9, (Value.int .i64 (wrapI (i + 1)))), (50, (Value.int .i64 (wrapI (i + 1)))), (49, (Value.int .i64 i))] (by kernel_rfl) ?_
         refine vcL_nil ?_
         exact ⟨(wrapI (i + 1)), 63, ⟨rfl, by kernel_rfl, by kernel_rfl, by kernel_rfl⟩, h⟩
       ·have h := h.2 (of_decide_eq_false hb)
        refine Vc.exit ?_
        refine outOf_hit ?_
        refine Vc.seq ?_
        refine Vc.region ?_
        refine vcL_pure rfl rfl (Value.int .i64 0) (fun w=>by kernel_rfl) ?_
        refine vcL_nil ?_
        refine Vc.block ?_
        obtain ⟨vI88, mu89, h, hr90⟩ := h
        refine Vc.loopJ (σ := Int) [11] [6, 12, 13, 70, 71, 72, 73, 74, 75, 76, 77, 78, 79, 80, 81, 82, 83, 84, 85, 86, 87, 88, 89, 90, 91, 92, 93, 94, 95, 96, 97, 98, 99, 100, 101, 102, 103] (fun s=>[(11, (Value.int .i64 s))]) (fun s w=>vI88 s w) (fun s w=>mu89 s w) 0 h (fun _ => rfl) (by kernel_rfl) ?_
        intro i54 vw55 j h
        have h := hr90 i54 vw55 h
        refine Vc.seq ?_
        refine Vc.seq ?_
        refine Vc.region ?_
        refine vcL_purs 2 [(71, (Value.pointer (some a1))), (70, (Value.int .i64 i54))] (by kernel_rfl) ?_
        obtain ⟨t72, hc57, h⟩ := h
        refine vcL_val rfl rfl (Sl.v t72) (exec_load rfl (by kernel_rfl) (run_load1 (fun w=>by kernel_rfl) ((hc57)))) ?_
        refine vcL_purs 2 [(74, (Value.bool (decide (i54 < (t72.len : Int))))), (73, (Value.int .i64 (t72.len : Int)))] (by kernel_rfl) ?_
        refine vcL_nil ?_
        refine Vc.cond (decide (i54 < (t72.len : Int))) (by kernel_rfl) (fun hb=>?_) (fun hb=>?_)
        ·have h := h.1 (of_decide_eq_true hb)
         refine Vc.skip ?_
         refine Vc.seq ?_
         refine Vc.block ?_
         refine Vc.seq ?_
         obtain ⟨vw58, hvw58⟩ : ∃ y, y = vw55.drew := ⟨_, rfl⟩
         have h := h vw58 hvw58
         refine Vc.draw (by kernel_rfl) (fun i=>!(memN [6] i)) (.val 0 (.pur 1 (.val 2 (.pur 3 (.pur 4 (.val 5 (.eff 6 (.pur 7 .fin) .stop))))))) (by kernel_rfl) ?_
         rw [← hvw58]
         clear hvw58
         obtain ⟨zz61, zz62, zz63, zz64, hc59, h⟩ := h
         refine vcS_val rfl rfl rfl (Value.agg #[(Sl.v zz61), (Sl.v zz62), (Sl.v zz63), (Sl.v zz64)]) (fun w' hx=>exec_load rfl (by kernel_rfl) (run_loadN (fun w=>by kernel_rfl) (fun w=>by kernel_rfl) ((hc59).ext hx))) ?_
         refine vcS_pure rfl rfl rfl (Value.pointer (some a1)) (fun w=>by kernel_rfl) ?_
         obtain ⟨t79, hc60, h⟩ := h
         refine vcS_val rfl rfl rfl (Sl.v t79) (fun w' hx=>exec_load rfl (by kernel_rfl) (run_load1 (fun w=>by kernel_rfl) ((hc60).ext hx))) ?_
         refine vcS_pure rfl rfl rfl (Value.int .i64 i54) (fun w=>by kernel_rfl) ?_
         obtain ⟨ad61, hi62, h⟩ := h
         refine vcS_pure rfl rfl rfl (Value.pointer (some (ad61.add (i54.toNat * 2)))) (fun w=>by exact exec_indexAt (s := t79) (el := 81) rfl (by kernel_rfl) (by kernel_rfl) (by kernel_rfl) (fun w=>by kernel_rfl) (hi62).1 (hi62).2.1 (hi62).2.2 w) ?_
         obtain ⟨zz69, zz6a, hc63, h⟩ := h
         refine vcS_val rfl rfl rfl (Value.agg #[(Value.string zz69), (Sl.v zz6a)]) (fun w' hx=>exec_load rfl (by kernel_rfl) (run_loadN (fun w=>by kernel_rfl) (fun w=>by kernel_rfl) ((hc63).ext hx))) ?_
         refine vcS_eff rfl rfl (opVC_call rfl (by kernel_rfl) (callS.mono h fun v65 vw64 h=>?_)) vcS_stop
         obtain ⟨t83, rfl, h⟩ := h
         refine ⟨fun hb=>absurd hb (by decide), ?_⟩
         refine vcS_pure rfl rfl rfl (Sl.v t83) (fun w=>by kernel_rfl) ?_
         refine vcS_fin ?_
         refine Vc.seq ?_
         refine Vc.seq ?_
         obtain ⟨vw67, hvw67⟩ : ∃ y, y = vw64.drew := ⟨_, rfl⟩
         have h := h vw67 hvw67
         refine Vc.draw (by kernel_rfl) (fun i=>!(memN [7, 8] i)) (.pur 0 (.val 1 (.pur 2 (.val 3 (.pur 4 (.pur 5 (.val 6 (.eff 7 (.eff 8 (.pur 9 .fin) .stop) .stop)))))))) (by kernel_rfl) ?_
         rw [← hvw67]
         clear hvw67
         refine vcS_pure rfl rfl rfl (Sl.v t83) (fun w=>by kernel_rfl) ?_
         obtain ⟨zz6f, zz6g, zz6h, zz6i, hc68, h⟩ := h
         refine vcS_val rfl rfl rfl (Value.agg #[(Sl.v zz6f), (Sl.v zz6g), (Sl.v zz6h), (Sl.v zz6i)]) (fun w' hx=>exec_load rfl (by kernel_rfl) (run_loadN (fun w=>by kernel_rfl) (fun w=>by kernel_rfl) ((hc68).ext hx))) ?_
         refine vcS_pure rfl rfl rfl (Value.pointer (some a1)) (fun w=>by kernel_rfl) ?_
         obtain ⟨t87, hc69, h⟩ := h
         refine vcS_val rfl rfl rfl (Sl.v t87) (fun w' hx=>exec_load rfl (by kernel_rfl) (run_load1 (fun w=>by kernel_rfl) ((hc69).ext hx))) ?_
         refine vcS_pure rfl rfl rfl (Value.int .i64 i54) (fun w=>by kernel_rfl) ?_
         obtain ⟨ad70, hi71, h⟩ := h
         refine vcS_pure rfl rfl rfl (Value.pointer (some (ad70.add (i54.toNat * 2)))) (fun w=>by exact exec_indexAt (s := t87) (el := 81) rfl (by kernel_rfl) (by kernel_rfl) (by kernel_rfl) (fun w=>by kernel_rfl) (hi71).1 (hi71).2.1 (hi71).2.2 w) ?_
         obtain ⟨zz6q, zz6r, hc72, h⟩ := h
         refine vcS_val rfl rfl rfl (Value.agg #[(Value.string zz6q), (Sl.v zz6r)]) (fun w' hx=>exec_load rfl (by kernel_rfl) (run_loadN (fun w=>by kernel_rfl) (fun w=>by kernel_rfl) ((hc72).ext hx))) ?_
         refine vcS_eff rfl rfl (opVC_call rfl (by kernel_rfl) (callS.mono h fun v74 vw73 h=>?_)) vcS_stop
         obtain ⟨t91, rfl, h⟩ := h
         refine ⟨fun hb=>absurd hb (by decide), ?_⟩
         refine vcS_eff rfl rfl (opVC_call rfl (by kernel_rfl) (callS.mono h fun v77 vw76 h=>?_)) vcS_stop
         obtain ⟨t92, rfl, h⟩ := h
         refine ⟨fun hb=>absurd hb (by decide), ?_⟩
         refine vcS_pure rfl rfl rfl (Value.bool (!t92)) (fun w=>by kernel_rfl) ?_
         refine vcS_fin ?_
         refine Vc.cond (!t92) (by kernel_rfl) (fun hb=>?_) (fun hb=>?_)
         ·have h := h.1 (hb)
          refine Vc.seq ?_
          refine Vc.region ?_
          refine vcL_pure rfl rfl (Value.bool false) (fun w=>by kernel_rfl) ?_
          refine vcL_nil ?_
          refine Vc.ret ?_
          refine outOf_ret ?_
          refine outOf_ret ?_
          refine outOf_ret ?_
          refine outOf_ret ?_
          refine outs_ret ?_
          refine done_mk (Value.bool false) (res1 (resC_tmp (by kernel_rfl))) ?_
          exact ⟨false, rfl, h⟩
         ·have h := h.2 (hb)
          refine Vc.skip ?_
          refine Vc.seq ?_
          refine Vc.region ?_
          refine vcL_pure rfl rfl (Value.int .i64 0) (fun w=>by kernel_rfl) ?_
          refine vcL_nil ?_
          refine Vc.block ?_
          obtain ⟨vI85, mu86, h, hr87⟩ := h
          refine Vc.loopJ (σ := Int) [13] [94, 95, 96, 97, 98, 99, 100, 101, 102, 103] (fun s=>[(13, (Value.int .i64 s))]) (fun s w=>vI85 s w) (fun s w=>mu86 s w) 0 h (fun _ => rfl) (by kernel_rfl) ?_
          intro vk79 vw80 j h
          have h := hr87 vk79 vw80 h
          refine Vc.seq ?_
          refine Vc.seq ?_
          refine Vc.region ?_
          refine vcL_purs 4 [(97, (Value.bool (decide (vk79 < (t83.len : Int))))), (96, (Value.int .i64 (t83.len : Int))), (95, (Sl.v t83)), (94, (Value.int .i64 vk79))] (by kernel_rfl) ?_
          refine vcL_nil ?_
          refine Vc.cond (decide (vk79 < (t83.len : Int))) (by kernel_rfl) (fun hb=>?_) (fun hb=>?_)
          ·have h := h.1 (of_decide_eq_true hb)
           refine Vc.skip ?_
           refine Vc.seq ?_
           refine Vc.block ?_
           refine Vc.region ?_
           refine vcL_purs 3 [(102, (Value.agg #[(Value.int .i64 0), (Value.int .i64 0), (Value.int .i64 0), (Value.int .i64 0), (Value.int .i64 0), (Value.int .i64 0)])), (101, (Value.int .i64 vk79)), (100, (Sl.v t83))] (by kernel_rfl) ?_
           obtain ⟨ad82, hi83, h⟩ := h
           refine vcL_pure rfl rfl (Value.pointer (some (ad82.add (vk79.toNat * 6)))) (fun w=>by exact exec_indexAt (s := t83) (el := 83) rfl (by kernel_rfl) (by kernel_rfl) (by kernel_rfl) (fun w=>by kernel_rfl) (hi83).1 (hi83).2.1 (hi83).2.2 w) ?_
           refine vcL_eff rfl (opVC_store rfl rfl (a := (ad82.add (vk79.toNat * 6))) (by kernel_rfl) (v := (Value.agg #[(Value.int .i64 0), (Value.int .i64 0), (Value.int .i64 0), (Value.int .i64 0), (Value.int .i64 0), (Value.int .i64 0)])) (by kernel_rfl) [(Value.int .i64 0), (Value.int .i64 0), (Value.int .i64 0), (Value.int .i64 0), (Value.int .i64 0), (Value.int .i64 0)] (by kernel_rfl) (fun w=>by kernel_rfl) (by kernel_rfl) (stw.mono h fun vw84 h=>?_))
           refine vcL_nil ?_
           refine Vc.region ?_
           refine vcL_purs 3 [(13, (Value.int .i64 (wrapI (vk79 + 1)))), (99, (Value.int .i64 (wrapI (vk79 + 1)))), (98, (Value.int .i64 vk79))] (by kernel_rfl) ?_
           refine vcL_nil ?_
           exact ⟨(wrapI (vk79 + 1)), 22, ⟨rfl, by kernel_rfl, by kernel_rfl, by kernel_rfl⟩, h⟩
          ·have h := h.2 (of_decide_eq_false hb)
           refine Vc.exit ?_
           refine outOf_hit ?_
           refine Vc.region ?_
           refine vcL_purs 3 [(11, (Value.int .i64 (wrapI (i54 + 1)))), (76, (Value.int .i64 (wrapI (i54 + 1)))), (75, (Value.int .i64 i54))] (by kernel_rfl) ?_
           refine vcL_nil ?_
           exact ⟨(wrapI (i54 + 1)), 80, ⟨rfl, by kernel_rfl, by kernel_rfl, by kernel_rfl⟩, h⟩
        ·have h := h.2 (of_decide_eq_false hb)
         refine Vc.exit ?_
         refine outOf_hit ?_
         refine Vc.region ?_
         refine vcL_purs 3 [(7, (Value.int .i64 (wrapI (round + 1)))), (17, (Value.int .i64 (wrapI (round + 1)))), (16, (Value.int .i64 round))] (by kernel_rfl) ?_
         refine vcL_nil ?_
         exact ⟨(wrapI (round + 1)), 207, ⟨rfl, by kernel_rfl, by kernel_rfl, by kernel_rfl⟩, h⟩
    ·obtain ⟨t33, rfl, hq⟩ := hq
     exact ⟨fun hb=>absurd hb (by decide), t33, rfl, hq⟩
   ·obtain ⟨t32, rfl, hq⟩ := hq
    exact ⟨fun hb=>absurd hb (by decide), t32, rfl, hq⟩
  ·obtain ⟨hx, hq⟩ := hq
   obtain ⟨t29, rfl, hq⟩ := hq
   exact ⟨fun _ => hx, t29, rfl, hq⟩
 ·have h := h.2 (of_decide_eq_false hb)
  refine Vc.exit ?_
  refine outOf_hit ?_
  refine Vc.seq ?_
  refine Vc.region ?_
  refine vcL_eff rfl (opVC_call rfl (by kernel_rfl) (callS.mono h fun v95 vw94 h=>?_))
  obtain ⟨t104, rfl, h⟩ := h
  refine vcL_pure rfl rfl (Value.bool t104) (fun w=>by kernel_rfl) ?_
  refine vcL_nil ?_
  refine Vc.ret ?_
  refine outs_ret ?_
  refine done_mk (Value.bool t104) (res1 (resC_tmp (by kernel_rfl))) ?_
  exact ⟨t104, rfl, h⟩
theorem halyardlaw09_WantsTold.go {zz4 : ByteArray} {zz5 : Int} {zz6 : Int} {zz7 : Int} {zz8 : Sl} {zza : Sl} {zz9 : Sl} {zz0 : Sl} {zz1 : Sl} {zz2 : Sl} {zz3 : Sl} {dev : Bool} {w : World} {k : Value → World → Prop} (h : halyardlaw09_WantsTold zz4 zz5 zz6 zz7 zz8 zza zz9 zz0 zz1 zz2 zz3 dev w fun r0 w'=>k (Value.bool r0) w') : callS Tryz.prog 8 [(Value.agg #[(Value.string zz4), (Value.int .i64 zz5), (Value.int .i64 zz6), (Value.int .i64 zz7), (Sl.v zz8), (Sl.v zza), (Sl.v zz9)]), (Value.agg #[(Sl.v zz0), (Sl.v zz1), (Sl.v zz2), (Sl.v zz3)]), (Value.bool dev)] w k := (halyardlaw09_WantsTold.sound zz4 zz5 zz6 zz7 zz8 zza zz9 zz0 zz1 zz2 zz3 dev w _ h).mono (by rintro _ _ ⟨r0, rfl, h⟩; exact h)
def halyardlaw09_known (w : World) (R : Bool → World → Prop) : Prop :=
 newS w [(Value.int .i64 0), (Value.int .i64 0), (Value.int .i64 0)] 30 fun a vw=>stw vw a [(Value.int .i64 1), (Value.int .i64 0), (Value.int .i64 0)] fun vw1=>callS Tryz.prog 16 [] vw1 fun v vw2=>∃ (t10 : Option Addr), v = (Value.pointer t10) ∧ ((t10 = none → R false vw2) ∧ (¬ (t10 = none) → bnd vw2.drew fun (vw3 : World)=>∃ (zz10 : Int) (zz11 : Int) (zz12 : Int), (ldc vw3 a [(Value.int .i64 zz10), (Value.int .i64 zz11), (Value.int .i64 zz12)]) ∧ callX Tryz.prog 49 [] vw3 fun v5 vw4=>∃ (t15 : Sl), v5 = (Sl.v t15) ∧ newS vw4 [(Value.string (ByteArray.mk #[113])), (Sl.v t15)] 81 fun a7 vw8=>callS Tryz.prog 19 [(Value.pointer t10), (Value.agg #[(Value.string (ByteArray.mk #[112])), (Value.int .i64 zz10), (Value.int .i64 zz11), (Value.int .i64 zz12), (Sl.v Sl.nil), (Sl.v (Sl.mk (some a7) 1 1)), (Sl.v Sl.nil)])] vw8 fun v10 vw9=>∃ (t19 : Int), v10 = (Value.int .i64 t19) ∧ ∃ (zz39 : Int) (zz3a : Int) (zz3b : Int), (ldc vw9 a [(Value.int .i64 zz39), (Value.int .i64 zz3a), (Value.int .i64 zz3b)]) ∧ callS Tryz.prog 19 [(Value.pointer t10), (Value.agg #[(Value.string (ByteArray.mk #[113])), (Value.int .i64 zz39), (Value.int .i64 zz3a), (Value.int .i64 zz3b), (Sl.v Sl.nil), (Sl.v Sl.nil), (Sl.v Sl.nil)])] vw9 fun v14 vw13=>∃ (t23 : Int), v14 = (Value.int .i64 t23) ∧ ∃ (zz2e : Int) (zz2f : Int) (zz2g : Int), (ldc vw13 a [(Value.int .i64 zz2e), (Value.int .i64 zz2f), (Value.int .i64 zz2g)]) ∧ newS vw13 [(Value.string (ByteArray.mk #[])), (Value.int .i64 0), (Value.int .i64 0), (Value.int .i64 0)] 32 fun a17 vw18=>stw vw18 a17 [(Value.string (ByteArray.mk #[112])), (Value.int .i64 zz2e), (Value.int .i64 zz2f), (Value.int .i64 zz2g)] fun vw19=>∃ (zz2h : Int) (zz2i : Int) (zz2j : Int), (ldc vw19 a [(Value.int .i64 zz2h), (Value.int .i64 zz2i), (Value.int .i64 zz2j)]) ∧ newS vw19 [(Value.string (ByteArray.mk #[])), (Value.int .i64 0), (Value.int .i64 0), (Value.int .i64 0)] 32 fun a21 vw22=>stw vw22 a21 [(Value.string (ByteArray.mk #[113])), (Value.int .i64 zz2h), (Value.int .i64 zz2i), (Value.int .i64 zz2j)] fun vw23=>∃ (zz4l : ByteArray) (zz4m : Int) (zz4n : Int) (zz4o : Int), (ldc vw23 a21 [(Value.string zz4l), (Value.int .i64 zz4m), (Value.int .i64 zz4n), (Value.int .i64 zz4o)]) ∧ newS vw23 [(Value.string zz4l), (Value.int .i64 zz4m), (Value.int .i64 zz4n), (Value.int .i64 zz4o)] 32 fun a25 vw26=>∃ (zz4p : ByteArray) (zz4q : Int) (zz4r : Int) (zz4s : Int), (ldc vw26 a17 [(Value.string zz4p), (Value.int .i64 zz4q), (Value.int .i64 zz4r), (Value.int .i64 zz4s)]) ∧ callS Tryz.prog 13 [(Value.pointer t10), (Value.agg #[(Sl.v Sl.nil), (Sl.v Sl.nil), (Sl.v Sl.nil), (Sl.v Sl.nil)]), (Sl.v (Sl.mk (some a25) 1 1)), (Value.agg #[(Value.string zz4p), (Value.int .i64 zz4q), (Value.int .i64 zz4r), (Value.int .i64 zz4s)])] vw26 fun v29 vw28=>∃ (t34 : Sl) (t34b : Bool), v29 = (Value.tuple #[(Sl.v t34), (Value.bool t34b)]) ∧ ∃ (zz1i : ByteArray) (zz1j : Int) (zz1k : Int) (zz1l : Int), (ldc vw28 a17 [(Value.string zz1i), (Value.int .i64 zz1j), (Value.int .i64 zz1k), (Value.int .i64 zz1l)]) ∧ callS Tryz.prog 13 [(Value.pointer t10), (Value.agg #[(Sl.v Sl.nil), (Sl.v Sl.nil), (Sl.v Sl.nil), (Sl.v Sl.nil)]), (Sl.v Sl.nil), (Value.agg #[(Value.string zz1i), (Value.int .i64 zz1j), (Value.int .i64 zz1k), (Value.int .i64 zz1l)])] vw28 fun v33 vw32=>∃ (t41 : Sl) (t41b : Bool), v33 = (Value.tuple #[(Sl.v t41), (Value.bool t41b)]) ∧ bnd vw32.drew fun (vw35 : World)=>bnd (t34b && ((t34.len : Int) == 1)) fun (b : Bool)=>∃ (ad : Addr), grd b (t34.a = some ad ∧ (0 : Int) ≤ 0 ∧ 0 < (t34.len : Int)) ∧ ∃ (zzo : ByteArray) (zz24 : Int) (zz25 : Int) (zz26 : Int), grd b (ldc vw35 (ad.add ((0 : Int).toNat * 4)) [(Value.string zzo), (Value.int .i64 zz24), (Value.int .i64 zz25), (Value.int .i64 zz26)]) ∧ ∃ (zz27 : ByteArray) (zz28 : Int) (zz29 : Int) (zz2a : Int), grd b (ldc vw35 a21 [(Value.string zz27), (Value.int .i64 zz28), (Value.int .i64 zz29), (Value.int .i64 zz2a)]) ∧ bnd (b && ((bEq zzo zz27) && (((zz24 == zz28) && ((zz25 == zz29) && ((zz26 == zz2a) && true))) && true))) fun (b38 : Bool)=>bnd (b38 && (!t41b)) fun (b39 : Bool)=>R (b39 && ((t41.len : Int) == 0)) vw35))
set_option maxHeartbeats 8000000 in
theorem halyardlaw09_known.sound (w : World) (R : Bool → World → Prop) (h : halyardlaw09_known w R) : callS Tryz.prog 12 [] w (fun v w'=>∃ (r0 : Bool), v = (Value.bool r0) ∧ R r0 w') := by
 unfold halyardlaw09_known at h
 refine calls_of_vc 66 rfl Tryz.func12 rfl (by kernel_rfl) (by simp) ?_
 refine Vc.seq ?_
 refine Vc.region ?_
 refine vcL_pure rfl rfl (Value.bool false) (fun w=>by kernel_rfl) ?_
 refine vcL_nil ?_
 refine Vc.seq ?_
 refine Vc.region ?_
 refine vcL_pure rfl rfl (Value.agg #[(Value.int .i64 1), (Value.int .i64 0), (Value.int .i64 0)]) (fun w=>by kernel_rfl) ?_
 refine vcL_eff rfl (opVC_new rfl (fun a=>Value.pointer (some a)) (by kernel_rfl) (newS.mono h fun a vw hx h=>?_))
 refine vcL_eff rfl (opVC_store rfl rfl (a := a) (by kernel_rfl) (v := (Value.agg #[(Value.int .i64 1), (Value.int .i64 0), (Value.int .i64 0)])) (by kernel_rfl) [(Value.int .i64 1), (Value.int .i64 0), (Value.int .i64 0)] (by kernel_rfl) (fun w=>by kernel_rfl) (by kernel_rfl) (stw.mono h fun vw1 h=>?_))
 refine vcL_nil ?_
 refine Vc.seq ?_
 refine Vc.region ?_
 refine vcL_eff rfl (opVC_call rfl (by kernel_rfl) (callS.mono h fun v vw2 h=>?_))
 obtain ⟨t10, rfl, h⟩ := h
 refine vcL_pure rfl rfl (Value.pointer t10) (fun w=>by kernel_rfl) ?_
 refine vcL_nil ?_
 refine Vc.seq ?_
 refine Vc.seq ?_
 refine Vc.region ?_
 refine vcL_pure rfl rfl (Value.pointer t10) (fun w=>by kernel_rfl) ?_
 refine vcL_pure rfl rfl (Value.bool (Option.isNone t10)) (fun w=>by cases t10 <;> kernel_rfl) ?_
 refine vcL_nil ?_
 refine Vc.cond (Option.isNone t10) (by kernel_rfl) (fun hb=>?_) (fun hb=>?_)
 ·have h := h.1 (Option.isNone_iff_eq_none.1 hb)
  refine Vc.seq ?_
  refine Vc.region ?_
  refine vcL_pure rfl rfl (Value.bool false) (fun w=>by kernel_rfl) ?_
  refine vcL_nil ?_
  refine Vc.ret ?_
  refine outs_ret ?_
  refine done_mk (Value.bool false) (res1 (resC_tmp (by kernel_rfl))) ?_
  exact ⟨false, rfl, h⟩
 ·have h := h.2 (isNone_false hb)
  refine Vc.skip ?_
  refine Vc.seq ?_
  obtain ⟨vw3, hvw3⟩ : ∃ y, y = vw2.drew := ⟨_, rfl⟩
  have h := h vw3 hvw3
  refine Vc.draw (by kernel_rfl) (fun i=>!(memN [6] i)) (.pur 0 (.val 1 (.eff 2 (.pur 3 (.eff 4 (.pur 5 (.eff 6 .fin .stop)) .stop)) .stop))) (by kernel_rfl) ?_
  rw [← hvw3]
  clear hvw3
  refine vcS_pure rfl rfl rfl (Value.pointer t10) (fun w=>by kernel_rfl) ?_
  obtain ⟨zz10, zz11, zz12, hc, h⟩ := h
  refine vcS_val rfl rfl rfl (Value.agg #[(Value.int .i64 zz10), (Value.int .i64 zz11), (Value.int .i64 zz12)]) (fun w' hx=>exec_load rfl (by kernel_rfl) (run_loadN (fun w=>by kernel_rfl) (fun w=>by kernel_rfl) ((hc).ext hx))) ?_
  refine vcS_eff rfl rfl (opVC_call rfl (by kernel_rfl) (callS.mono h fun v5 vw4 h=>?_)) vcS_stop
  obtain ⟨hx6, h⟩ := h
  obtain ⟨t15, rfl, h⟩ := h
  refine ⟨fun _ => hx6, ?_⟩
  refine vcS_pure rfl rfl rfl (Value.agg #[(Value.string (ByteArray.mk #[113])), (Sl.v t15)]) (fun w=>by kernel_rfl) ?_
  refine vcS_eff rfl rfl (opVC_new rfl (fun a=>Value.slice (some a) 1 1) (by kernel_rfl) (newS.mono h fun a7 vw8 hx h=>?_)) vcS_stop
  refine ⟨fun _ => hx, ?_⟩
  refine vcS_pure rfl rfl rfl (Value.agg #[(Value.string (ByteArray.mk #[112])), (Value.int .i64 zz10), (Value.int .i64 zz11), (Value.int .i64 zz12), (Sl.v Sl.nil), (Sl.v (Sl.mk (some a7) 1 1)), (Sl.v Sl.nil)]) (fun w=>by kernel_rfl) ?_
  refine vcS_eff rfl rfl (opVC_call rfl (by kernel_rfl) (callS.mono h fun v10 vw9 h=>?_)) vcS_stop
  obtain ⟨t19, rfl, h⟩ := h
  refine ⟨fun hb=>absurd hb (by decide), ?_⟩
  refine vcS_fin ?_
  refine Vc.seq ?_
  refine Vc.region ?_
  refine vcL_pure rfl rfl (Value.pointer t10) (fun w=>by kernel_rfl) ?_
  obtain ⟨zz39, zz3a, zz3b, hc12, h⟩ := h
  refine vcL_val rfl rfl (Value.agg #[(Value.int .i64 zz39), (Value.int .i64 zz3a), (Value.int .i64 zz3b)]) (exec_load rfl (by kernel_rfl) (run_loadN (fun w=>by kernel_rfl) (fun w=>by kernel_rfl) ((hc12)))) ?_
  refine vcL_pure rfl rfl (Value.agg #[(Value.string (ByteArray.mk #[113])), (Value.int .i64 zz39), (Value.int .i64 zz3a), (Value.int .i64 zz3b), (Sl.v Sl.nil), (Sl.v Sl.nil), (Sl.v Sl.nil)]) (fun w=>by kernel_rfl) ?_
  refine vcL_eff rfl (opVC_call rfl (by kernel_rfl) (callS.mono h fun v14 vw13 h=>?_))
  obtain ⟨t23, rfl, h⟩ := h
  refine vcL_nil ?_
  refine Vc.seq ?_
  refine Vc.region ?_
  obtain ⟨zz2e, zz2f, zz2g, hc16, h⟩ := h
  refine vcL_val rfl rfl (Value.agg #[(Value.int .i64 zz2e), (Value.int .i64 zz2f), (Value.int .i64 zz2g)]) (exec_load rfl (by kernel_rfl) (run_loadN (fun w=>by kernel_rfl) (fun w=>by kernel_rfl) ((hc16)))) ?_
  refine vcL_pure rfl rfl (Value.agg #[(Value.string (ByteArray.mk #[112])), (Value.int .i64 zz2e), (Value.int .i64 zz2f), (Value.int .i64 zz2g)]) (fun w=>by kernel_rfl) ?_
  refine vcL_eff rfl (opVC_new rfl (fun a=>Value.pointer (some a)) (by kernel_rfl) (newS.mono h fun a17 vw18 hx h=>?_))
  refine vcL_eff rfl (opVC_store rfl rfl (a := a17) (by kernel_rfl) (v := (Value.agg #[(Value.string (ByteArray.mk #[112])), (Value.int .i64 zz2e), (Value.int .i64 zz2f), (Value.int .i64 zz2g)])) (by kernel_rfl) [(Value.string (ByteArray.mk #[112])), (Value.int .i64 zz2e), (Value.int .i64 zz2f), (Value.int .i64 zz2g)] (by kernel_rfl) (fun w=>by kernel_rfl) (by kernel_rfl) (stw.mono h fun vw19 h=>?_))
  refine vcL_nil ?_
  refine Vc.seq ?_
  refine Vc.region ?_
  obtain ⟨zz2h, zz2i, zz2j, hc20, h⟩ := h
  refine vcL_val rfl rfl (Value.agg #[(Value.int .i64 zz2h), (Value.int .i64 zz2i), (Value.int .i64 zz2j)]) (exec_load rfl (by kernel_rfl) (run_loadN (fun w=>by kernel_rfl) (fun w=>by kernel_rfl) ((hc20)))) ?_
  refine vcL_pure rfl rfl (Value.agg #[(Value.string (ByteArray.mk #[113])), (Value.int .i64 zz2h), (Value.int .i64 zz2i), (Value.int .i64 zz2j)]) (fun w=>by kernel_rfl) ?_
  refine vcL_eff rfl (opVC_new rfl (fun a=>Value.pointer (some a)) (by kernel_rfl) (newS.mono h fun a21 vw22 hx h=>?_))
  refine vcL_eff rfl (opVC_store rfl rfl (a := a21) (by kernel_rfl) (v := (Value.agg #[(Value.string (ByteArray.mk #[113])), (Value.int .i64 zz2h), (Value.int .i64 zz2i), (Value.int .i64 zz2j)])) (by kernel_rfl) [(Value.string (ByteArray.mk #[113])), (Value.int .i64 zz2h), (Value.int .i64 zz2i), (Value.int .i64 zz2j)] (by kernel_rfl) (fun w=>by kernel_rfl) (by kernel_rfl) (stw.mono h fun vw23 h=>?_))
  refine vcL_nil ?_
  refine Vc.seq ?_
  refine Vc.region ?_
  refine vcL_purs 2 [(30, (Value.agg #[(Sl.v Sl.nil), (Sl.v Sl.nil), (Sl.v Sl.nil), (Sl.v Sl.nil)])), (29, (Value.pointer t10))] (by kernel_rfl) ?_
  obtain ⟨zz4l, zz4m, zz4n, zz4o, hc24, h⟩ := h
  refine vcL_val rfl rfl (Value.agg #[(Value.string zz4l), (Value.int .i64 zz4m), (Value.int .i64 zz4n), (Value.int .i64 zz4o)]) (exec_load rfl (by kernel_rfl) (run_loadN (fun w=>by kernel_rfl) (fun w=>by kernel_rfl) ((hc24)))) ?_
  refine vcL_eff rfl (opVC_new rfl (fun a=>Value.slice (some a) 1 1) (by kernel_rfl) (newS.mono h fun a25 vw26 hx h=>?_))
  obtain ⟨zz4p, zz4q, zz4r, zz4s, hc27, h⟩ := h
  refine vcL_val rfl rfl (Value.agg #[(Value.string zz4p), (Value.int .i64 zz4q), (Value.int .i64 zz4r), (Value.int .i64 zz4s)]) (exec_load rfl (by kernel_rfl) (run_loadN (fun w=>by kernel_rfl) (fun w=>by kernel_rfl) ((hc27)))) ?_
  refine vcL_eff rfl (opVC_call rfl (by kernel_rfl) (callS.mono h fun v29 vw28 h=>?_))
  obtain ⟨t34, t34b, rfl, h⟩ := h
  refine vcL_purs 5 [(6, (Value.bool t34b)), (5, (Sl.v t34)), (36, (Value.bool t34b)), (35, (Sl.v t34)), (28, (Value.tuple #[(Sl.v t34), (Value.bool t34b)]))] (by kernel_rfl) ?_
  refine vcL_nil ?_
  refine Vc.seq ?_
  refine Vc.region ?_
  refine vcL_purs 2 [(39, (Value.agg #[(Sl.v Sl.nil), (Sl.v Sl.nil), (Sl.v Sl.nil), (Sl.v Sl.nil)])), (38, (Value.pointer t10))] (by kernel_rfl) ?_
  obtain ⟨zz1i, zz1j, zz1k, zz1l, hc31, h⟩ := h
  refine vcL_val rfl rfl (Value.agg #[(Value.string zz1i), (Value.int .i64 zz1j), (Value.int .i64 zz1k), (Value.int .i64 zz1l)]) (exec_load rfl (by kernel_rfl) (run_loadN (fun w=>by kernel_rfl) (fun w=>by kernel_rfl) ((hc31)))) ?_
  refine vcL_eff rfl (opVC_call rfl (by kernel_rfl) (callS.mono h fun v33 vw32 h=>?_))
  obtain ⟨t41, t41b, rfl, h⟩ := h
  refine vcL_purs 5 [(8, (Value.bool t41b)), (7, (Sl.v t41)), (43, (Value.bool t41b)), (42, (Sl.v t41)), (37, (Value.tuple #[(Sl.v t41), (Value.bool t41b)]))] (by kernel_rfl) ?_
  refine vcL_nil ?_
  refine Vc.seq ?_
  obtain ⟨vw35, hvw35⟩ : ∃ y, y = vw32.drew := ⟨_, rfl⟩
  have h := h vw35 hvw35
  refine Vc.draw (by kernel_rfl) (fun i=>!(memN [] i)) (.pur 0 (.pur 1 (.pur 2 (.pur 3 (.pur 4 (.pur 5 (.pur 6 (.pur 7 (.pur 8 (.val 9 (.val 10 (.pur 11 (.pur 12 (.pur 13 (.pur 14 (.pur 15 (.pur 16 (.pur 17 (.pur 18 (.pur 19 (.pur 20 (.pur 21 (.pur 22 .fin))))))))))))))))))))))) (by kernel_rfl) ?_
  rw [← hvw35]
  clear hvw35
  refine vcS_pure rfl rfl rfl (Value.bool t34b) (fun w=>by kernel_rfl) ?_
  refine vcS_pure rfl rfl rfl (Value.bool t34b) (fun w=>by kernel_rfl) ?_
  refine vcS_guard rfl t34b (wanted_g (d := 45) rfl (by kernel_rfl) t34b (by kernel_rfl) t34b (eqT t34b)) rfl (Sl.v t34) (fun hg w=>by subst hg; kernel_rfl) ?_
  refine vcS_guard rfl t34b (wanted_g (d := 45) rfl (by kernel_rfl) t34b (by kernel_rfl) t34b (eqT t34b)) rfl (Value.int .i64 (t34.len : Int)) (fun hg w=>by subst hg; kernel_rfl) ?_
  refine vcS_guard rfl t34b (wanted_g (d := 45) rfl (by kernel_rfl) t34b (by kernel_rfl) t34b (eqT t34b)) rfl (Value.bool ((t34.len : Int) == 1)) (fun hg w=>by subst hg; kernel_rfl) ?_
  refine vcS_pure rfl rfl rfl (Value.bool (t34b && ((t34.len : Int) == 1))) (fun w=>by cases t34b <;> kernel_rfl) ?_
  obtain ⟨b, hb⟩ : ∃ y, y = (t34b && ((t34.len : Int) == 1)) := ⟨_, rfl⟩
  have h := h b hb
  refine vcS_pure rfl rfl rfl (Value.bool b) (fun w=>by rw [hb]; kernel_rfl) ?_
  refine vcS_guard rfl b (wanted_g (d := 50) rfl (by kernel_rfl) b (by kernel_rfl) b (eqT b)) rfl (Sl.v t34) (fun hg w=>by subst hg; kernel_rfl) ?_
  obtain ⟨ad, hi, h⟩ := h
  refine vcS_guard rfl b (wanted_g (d := 50) rfl (by kernel_rfl) b (by kernel_rfl) b (eqT b)) rfl (Value.pointer (some (ad.add ((0 : Int).toNat * 4)))) (fun hg w=>by subst hg; exact exec_indexAt (s := t34) (el := 32) rfl (by kernel_rfl) (by kernel_rfl) (by kernel_rfl) (fun w=>by kernel_rfl) (hi rfl).1 (hi rfl).2.1 (hi rfl).2.2 w) ?_
  obtain ⟨zzo, zz24, zz25, zz26, hc36, h⟩ := h
  refine vcS_valG rfl b (wanted_g (d := 50) rfl (by kernel_rfl) b (by kernel_rfl) b (eqT b)) rfl (Value.agg #[(Value.string zzo), (Value.int .i64 zz24), (Value.int .i64 zz25), (Value.int .i64 zz26)]) (fun hg w' hx=>by subst hg; exact exec_load rfl (by kernel_rfl) (run_loadN (fun w=>by kernel_rfl) (fun w=>by kernel_rfl) ((hc36 rfl).ext hx))) ?_
  obtain ⟨zz27, zz28, zz29, zz2a, hc37, h⟩ := h
  refine vcS_valG rfl b (wanted_g (d := 50) rfl (by kernel_rfl) b (by kernel_rfl) b (eqT b)) rfl (Value.agg #[(Value.string zz27), (Value.int .i64 zz28), (Value.int .i64 zz29), (Value.int .i64 zz2a)]) (fun hg w' hx=>by subst hg; exact exec_load rfl (by kernel_rfl) (run_loadN (fun w=>by kernel_rfl) (fun w=>by kernel_rfl) ((hc37 rfl).ext hx))) ?_
  refine vcS_guard rfl b (wanted_g (d := 50) rfl (by kernel_rfl) b (by kernel_rfl) b (eqT b)) rfl (Value.bool ((bEq zzo zz27) && (((zz24 == zz28) && ((zz25 == zz29) && ((zz26 == zz2a) && true))) && true))) (fun hg w=>by subst hg; exact exec_struct_eq rfl (by kernel_rfl) (by kernel_rfl) (by kernel_rfl) (eqv_32 9997 zzo zz24 zz25 zz26 zz27 zz28 zz29 zz2a w)) ?_
  refine vcS_pure rfl rfl rfl (Value.bool (b && ((bEq zzo zz27) && (((zz24 == zz28) && ((zz25 == zz29) && ((zz26 == zz2a) && true))) && true)))) (fun w=>by cases b <;> kernel_rfl) ?_
  obtain ⟨b38, hb38⟩ : ∃ y, y = (b && ((bEq zzo zz27) && (((zz24 == zz28) && ((zz25 == zz29) && ((zz26 == zz2a) && true))) && true))) := ⟨_, rfl⟩
  have h := h b38 hb38
  refine vcS_pure rfl rfl rfl (Value.bool b38) (fun w=>by rw [hb38]; kernel_rfl) ?_
  refine vcS_guard rfl b38 (wanted_g (d := 57) rfl (by kernel_rfl) b38 (by kernel_rfl) b38 (eqT b38)) rfl (Value.bool t41b) (fun hg w=>by subst hg; kernel_rfl) ?_
  refine vcS_guard rfl b38 (wanted_g (d := 57) rfl (by kernel_rfl) b38 (by kernel_rfl) b38 (eqT b38)) rfl (Value.bool (!t41b)) (fun hg w=>by subst hg; kernel_rfl) ?_
  refine vcS_pure rfl rfl rfl (Value.bool (b38 && (!t41b))) (fun w=>by cases b38 <;> kernel_rfl) ?_
  obtain ⟨b39, hb39⟩ : ∃ y, y = (b38 && (!t41b)) := ⟨_, rfl⟩
  have h := h b39 hb39
  refine vcS_pure rfl rfl rfl (Value.bool b39) (fun w=>by rw [hb39]; kernel_rfl) ?_
  refine vcS_guard rfl b39 (wanted_g (d := 61) rfl (by kernel_rfl) b39 (by kernel_rfl) b39 (eqT b39)) rfl (Sl.v t41) (fun hg w=>by subst hg; kernel_rfl) ?_
  refine vcS_guard rfl b39 (wanted_g (d := 61) rfl (by kernel_rfl) b39 (by kernel_rfl) b39 (eqT b39)) rfl (Value.int .i64 (t41.len : Int)) (fun hg w=>by subst hg; kernel_rfl) ?_
  refine vcS_guard rfl b39 (wanted_g (d := 61) rfl (by kernel_rfl) b39 (by kernel_rfl) b39 (eqT b39)) rfl (Value.bool ((t41.len : Int) == 0)) (fun hg w=>by subst hg; kernel_rfl) ?_
  refine vcS_pure rfl rfl rfl (Value.bool (b39 && ((t41.len : Int) == 0))) (fun w=>by cases b39 <;> kernel_rfl) ?_
  refine vcS_pure rfl rfl rfl (Value.bool (b39 && ((t41.len : Int) == 0))) (fun w=>by kernel_rfl) ?_
  refine vcS_fin ?_
  refine Vc.ret ?_
  refine outs_ret ?_
  refine done_mk (Value.bool (b39 && ((t41.len : Int) == 0))) (res1 (resC_tmp (by kernel_rfl))) ?_
  exact ⟨(b39 && ((t41.len : Int) == 0)), rfl, h⟩
theorem halyardlaw09_known.go {w : World} {k : Value → World → Prop} (h : halyardlaw09_known w fun r0 w'=>k (Value.bool r0) w') : callS Tryz.prog 12 [] w k := (halyardlaw09_known.sound w _ h).mono (by rintro _ _ ⟨r0, rfl, h⟩; exact h)
def wants_Context (c : Option Addr) (zz0 : Sl) (zz1 : Sl) (zz2 : Sl) (zz3 : Sl) (env : Sl) (zz4 : ByteArray) (zz5 : Int) (zz6 : Int) (zz7 : Int) (w : World) (R : Sl → Bool → World → Prop) : Prop :=
 newS w [(Sl.v zz0), (Sl.v zz1), (Sl.v zz2), (Sl.v zz3)] 25 fun a vw=>newS vw [(Value.string zz4), (Value.int .i64 zz5), (Value.int .i64 zz6), (Value.int .i64 zz7)] 32 fun a1 vw2=>((c = none → R Sl.nil false vw2) ∧ (¬ (c = none) → ∃ (zzq : ByteArray) (zzs : Int) (zzt : Int) (zzu : Int), (ldc vw2 a1 [(Value.string zzq), (Value.int .i64 zzs), (Value.int .i64 zzt), (Value.int .i64 zzu)]) ∧ newS vw2 [(Value.string zzq), (Value.int .i64 zzs), (Value.int .i64 zzt), (Value.int .i64 zzu)] 32 fun a3 vw4=>loop3 (Sl.mk (some a3) 1 1) Sl.nil 0 vw4 fun all context i vw5 nxt=>((i < (all.len : Int) → join (fun (x : Addr) (there : Bool) (vw6 : World)=>(((!there) = true → R Sl.nil false vw6) ∧ ((!there) = false → ∃ (zz5k : ByteArray) (zz5n : Int) (zz5o : Int) (zz5p : Int) (zz5j : Sl) (zz5m : Sl) (zz5l : Sl), (ldc vw6 x [(Value.string zz5k), (Value.int .i64 zz5n), (Value.int .i64 zz5o), (Value.int .i64 zz5p), (Sl.v zz5j), (Sl.v zz5m), (Sl.v zz5l)]) ∧ ∃ (zz5q : Sl) (zz5r : Sl) (zz5s : Sl) (zz5t : Sl), (ldc vw6 a [(Sl.v zz5q), (Sl.v zz5r), (Sl.v zz5s), (Sl.v zz5t)]) ∧ callS Tryz.prog 41 [(Value.agg #[(Value.string zz5k), (Value.int .i64 zz5n), (Value.int .i64 zz5o), (Value.int .i64 zz5p), (Sl.v zz5j), (Sl.v zz5m), (Sl.v zz5l)]), (Value.agg #[(Sl.v zz5q), (Sl.v zz5r), (Sl.v zz5s), (Sl.v zz5t)])] vw6 fun v vw9=>∃ (t48 : Sl), v = (Sl.v t48) ∧ loop3 all context 0 vw9 fun all10 context11 t50 vw12 nxt13=>((t50 < (t48.len : Int) → join (fun (all14 : Sl) (context15 : Sl) (vw16 : World)=>nxt13 all14 context15 (wrapI (t50 + 1)) vw16) fun vJ=>∃ (ad : Addr), (t48.a = some ad ∧ (0 : Int) ≤ t50 ∧ t50 < (t48.len : Int)) ∧ ∃ (zzo : ByteArray) (zz2y : Sl), (ldc vw12 (ad.add (t50.toNat * 2)) [(Value.string zzo), (Sl.v zz2y)]) ∧ newS vw12 [(Value.string (ByteArray.mk #[])), (Sl.v Sl.nil)] 81 fun a18 vw19=>stw vw19 a18 [(Value.string zzo), (Sl.v zz2y)] fun vw20=>∃ (t57 : ByteArray), (ldc vw20 a18 [(Value.string t57)]) ∧ callS Tryz.prog 50 [(Value.string t57)] vw20 fun v23 vw22=>∃ (t58 : Value), v23 = t58 ∧ callS Tryz.prog 52 [(Sl.v env), t58] vw22 fun v26 vw25=>∃ (t59 : Int), v26 = (Value.int .i64 t59) ∧ bnd vw25.drew fun (vw28 : World)=>bnd (decide (t59 < 0)) fun (b : Bool)=>∃ (t64 : Sl), grd (!b) (ldc vw28 (a18.add 1) [(Sl.v t64)]) ∧ ∃ (ad30 : Addr), grd (!b) (env.a = some ad30 ∧ (0 : Int) ≤ t59 ∧ t59 < (env.len : Int)) ∧ ∃ (zz5y : Int) (zz5z : Int) (zz60 : Int), grd (!b) (ldc vw28 ((ad30.add (t59.toNat * 4)).add 1) [(Value.int .i64 zz5y), (Value.int .i64 zz5z), (Value.int .i64 zz60)]) ∧ gCall (!b) (fun (t70 : Bool) (vw33 : World)=>(((b || (!t70)) = true → R Sl.nil false vw33) ∧ ((b || (!t70)) = false → ∃ (t76 : ByteArray), (ldc vw33 a18 [(Value.string t76)]) ∧ callS Tryz.prog 50 [(Value.string t76)] vw33 fun v40 vw39=>∃ (t77 : Value), v40 = t77 ∧ callS Tryz.prog 54 [(Sl.v context11), t77] vw39 fun v43 vw42=>∃ (t78 : Bool), v43 = (Value.bool t78) ∧ (((!t78) = true → ∃ (ad45 : Addr), (env.a = some ad45 ∧ (0 : Int) ≤ t59 ∧ t59 < (env.len : Int)) ∧ ∃ (zz6b : ByteArray) (zz6c : Int) (zz6d : Int) (zz6e : Int), (ldc vw42 (ad45.add (t59.toNat * 4)) [(Value.string zz6b), (Value.int .i64 zz6c), (Value.int .i64 zz6d), (Value.int .i64 zz6e)]) ∧ newS vw42 [(Value.string zz6b), (Value.int .i64 zz6c), (Value.int .i64 zz6d), (Value.int .i64 zz6e)] 32 fun a48 vw49=>appS Tryz.prog 28 28 context11 (Sl.v (Sl.mk (some a48) 1 1)) vw49 fun t86 vw50=>∃ (ad51 : Addr), (env.a = some ad51 ∧ (0 : Int) ≤ t59 ∧ t59 < (env.len : Int)) ∧ ∃ (zz6s : ByteArray) (zz6t : Int) (zz6u : Int) (zz6v : Int), (ldc vw50 (ad51.add (t59.toNat * 4)) [(Value.string zz6s), (Value.int .i64 zz6t), (Value.int .i64 zz6u), (Value.int .i64 zz6v)]) ∧ newS vw50 [(Value.string zz6s), (Value.int .i64 zz6t), (Value.int .i64 zz6u), (Value.int .i64 zz6v)] 32 fun a54 vw55=>appS Tryz.prog 28 28 all10 (Sl.v (Sl.mk (some a54) 1 1)) vw55 fun t93 vw56=>vJ t93 t86 vw56) ∧ ((!t78) = false → vJ all10 context11 vw42))))) (fun q=>callS Tryz.prog 53 [(Sl.v t64), (Value.agg #[(Value.int .i64 zz5y), (Value.int .i64 zz5z), (Value.int .i64 zz60)])] vw28 fun v34 vw33=>∃ (t70 : Bool), v34 = (Value.bool t70) ∧ q t70 vw33) (fun q=>q false vw28)) ∧ (¬ (t50 < (t48.len : Int)) → nxt all10 context11 (wrapI (i + 1)) vw12))))) fun vJ57=>bnd vw5.drew fun (vw59 : World)=>∃ (ad60 : Addr), (all.a = some ad60 ∧ (0 : Int) ≤ i ∧ i < (all.len : Int)) ∧ ∃ (t35 : ByteArray), (ldc vw59 (ad60.add (i.toNat * 4)) [(Value.string t35)]) ∧ ∃ (ad63 : Addr), (all.a = some ad63 ∧ (0 : Int) ≤ i ∧ i < (all.len : Int)) ∧ ∃ (zz3i : Int) (zz3j : Int) (zz3k : Int), (ldc vw59 ((ad63.add (i.toNat * 4)).add 1) [(Value.int .i64 zz3i), (Value.int .i64 zz3j), (Value.int .i64 zz3k)]) ∧ ((callS Tryz.prog 22 [(Value.pointer c), (Value.string t35), (Value.agg #[(Value.int .i64 zz3i), (Value.int .i64 zz3j), (Value.int .i64 zz3k)])] vw59 fun v67 vw66=>∃ (zzj : ByteArray) (zzl : Int) (zzm : Int) (zzn : Int) (zzb : Sl) (zzk : Sl) (zzc : Sl) (t41b : Bool), v67 = (Value.tuple #[(Value.agg #[(Value.string zzj), (Value.int .i64 zzl), (Value.int .i64 zzm), (Value.int .i64 zzn), (Sl.v zzb), (Sl.v zzk), (Sl.v zzc)]), (Value.bool t41b)]) ∧ newS vw66 [(Value.string (ByteArray.mk #[])), (Value.int .i64 0), (Value.int .i64 0), (Value.int .i64 0), (Sl.v Sl.nil), (Sl.v Sl.nil), (Sl.v Sl.nil)] 48 fun a69 vw70=>stw vw70 a69 [(Value.string zzj), (Value.int .i64 zzl), (Value.int .i64 zzm), (Value.int .i64 zzn), (Sl.v zzb), (Sl.v zzk), (Sl.v zzc)] fun vw71=>vJ57 a69 t41b vw71) ∧ (newS vw59 [(Value.string (ByteArray.mk #[])), (Value.int .i64 0), (Value.int .i64 0), (Value.int .i64 0), (Sl.v Sl.nil), (Sl.v Sl.nil), (Sl.v Sl.nil)] 48 fun a72 vw73=>callS Tryz.prog 22 [(Value.pointer c), (Value.string t35), (Value.agg #[(Value.int .i64 zz3i), (Value.int .i64 zz3j), (Value.int .i64 zz3k)])] vw73 fun v83 vw74=>∃ (zz2l : ByteArray) (zz2o : Int) (zz2p : Int) (zz2q : Int) (zz2k : Sl) (zz2n : Sl) (zz2m : Sl) (t41b82 : Bool), v83 = (Value.tuple #[(Value.agg #[(Value.string zz2l), (Value.int .i64 zz2o), (Value.int .i64 zz2p), (Value.int .i64 zz2q), (Sl.v zz2k), (Sl.v zz2n), (Sl.v zz2m)]), (Value.bool t41b82)]) ∧ stw vw74 a72 [(Value.string zz2l), (Value.int .i64 zz2o), (Value.int .i64 zz2p), (Value.int .i64 zz2q), (Sl.v zz2k), (Sl.v zz2n), (Sl.v zz2m)] fun vw85=>vJ57 a72 t41b82 vw85))) ∧ (¬ (i < (all.len : Int)) → callS Tryz.prog 55 [(Sl.v context), (Value.func (.func 56) #[] #[])] vw5 fun v87 vw86=>v87 = (Value.tuple #[]) ∧ callS Tryz.prog 58 [(Sl.v context)] vw86 fun v90 vw89=>∃ (t98 : Sl), v90 = (Sl.v t98) ∧ R t98 true vw89))))
set_option maxHeartbeats 8000000 in
theorem wants_Context.sound (c : Option Addr) (zz0 : Sl) (zz1 : Sl) (zz2 : Sl) (zz3 : Sl) (env : Sl) (zz4 : ByteArray) (zz5 : Int) (zz6 : Int) (zz7 : Int) (w : World) (R : Sl → Bool → World → Prop) (h : wants_Context c zz0 zz1 zz2 zz3 env zz4 zz5 zz6 zz7 w R) : callS Tryz.prog 13 [(Value.pointer c), (Value.agg #[(Sl.v zz0), (Sl.v zz1), (Sl.v zz2), (Sl.v zz3)]), (Sl.v env), (Value.agg #[(Value.string zz4), (Value.int .i64 zz5), (Value.int .i64 zz6), (Value.int .i64 zz7)])] w (fun v w'=>∃ (r0 : Sl) (r1 : Bool), v = (Value.tuple #[(Sl.v r0), (Value.bool r1)]) ∧ R r0 r1 w') := by
 unfold wants_Context at h
 refine calls_of_vc 99 rfl Tryz.func13 rfl (by kernel_rfl) (by simp) ?_
 refine Vc.seq ?_
 refine Vc.region ?_
 refine vcL_eff rfl (opVC_new rfl (fun a=>Value.pointer (some a)) (by kernel_rfl) (newS.mono h fun a vw hx h=>?_))
 refine vcL_eff rfl (opVC_new rfl (fun a=>Value.pointer (some a)) (by kernel_rfl) (newS.mono h fun a1 vw2 hx h=>?_))
 refine vcL_purs 2 [(9, (Value.bool false)), (8, (Sl.v Sl.nil))] (by kernel_rfl) ?_
 refine vcL_nil ?_
 refine Vc.seq ?_
 refine Vc.seq ?_
 refine Vc.region ?_
 refine vcL_pure rfl rfl (Value.pointer c) (fun w=>by kernel_rfl) ?_
 refine vcL_pure rfl rfl (Value.bool (Option.isNone c)) (fun w=>by cases c <;> kernel_rfl) ?_
 refine vcL_nil ?_
 refine Vc.cond (Option.isNone c) (by kernel_rfl) (fun hb=>?_) (fun hb=>?_)
 ·have h := h.1 (Option.isNone_iff_eq_none.1 hb)
  refine Vc.seq ?_
  refine Vc.region ?_
  refine vcL_purs 2 [(9, (Value.bool false)), (8, (Sl.v Sl.nil))] (by kernel_rfl) ?_
  refine vcL_nil ?_
  refine Vc.ret ?_
  refine outs_ret ?_
  refine done_mk (Value.tuple #[(Sl.v Sl.nil), (Value.bool false)]) (res2 (resC_tmp (by kernel_rfl)) (resC_tmp (by kernel_rfl))) ?_
  exact ⟨Sl.nil, false, rfl, h⟩
 ·have h := h.2 (isNone_false hb)
  refine Vc.skip ?_
  refine Vc.seq ?_
  refine Vc.region ?_
  refine vcL_pure rfl rfl (Value.func (.func 50) #[] #[]) (fun w=>by kernel_rfl) ?_
  refine vcL_nil ?_
  refine Vc.seq ?_
  refine Vc.region ?_
  obtain ⟨zzq, zzs, zzt, zzu, hc, h⟩ := h
  refine vcL_val rfl rfl (Value.agg #[(Value.string zzq), (Value.int .i64 zzs), (Value.int .i64 zzt), (Value.int .i64 zzu)]) (exec_load rfl (by kernel_rfl) (run_loadN (fun w=>by kernel_rfl) (fun w=>by kernel_rfl) ((hc)))) ?_
  refine vcL_eff rfl (opVC_new rfl (fun a=>Value.slice (some a) 1 1) (by kernel_rfl) (newS.mono h fun a3 vw4 hx h=>?_))
  refine vcL_pure rfl rfl (Sl.v (Sl.mk (some a3) 1 1)) (fun w=>by kernel_rfl) ?_
  refine vcL_nil ?_
  refine Vc.seq ?_
  refine Vc.region ?_
  refine vcL_pure rfl rfl (Sl.v Sl.nil) (fun w=>by kernel_rfl) ?_
  refine vcL_nil ?_
  refine Vc.seq ?_
  refine Vc.seq ?_
  refine Vc.region ?_
  refine vcL_pure rfl rfl (Value.int .i64 0) (fun w=>by kernel_rfl) ?_
  refine vcL_nil ?_
  refine Vc.block ?_
  obtain ⟨vI92, mu93, h, hr94⟩ := h
  refine Vc.loopJ (σ := Sl × Sl × Int) [11, 12, 13] [8, 9, 14, 15, 17, 18, 23, 24, 25, 26, 27, 28, 29, 30, 31, 32, 33, 34, 35, 36, 37, 38, 39, 40, 41, 42, 43, 44, 45, 46, 47, 48, 49, 50, 51, 52, 53, 54, 55, 56, 57, 58, 59, 60, 61, 62, 63, 64, 65, 66, 67, 68, 69, 70, 71, 72, 73, 74, 75, 76, 77, 78, 79, 80, 81, 82, 83, 84, 85, 86, 87, 88, 89, 90, 91, 92, 93, 94] (fun s=>[(11, (Sl.v s.1)), (12, (Sl.v s.2.1)), (13, (Value.int .i64 s.2.2))]) (fun s w=>vI92 s.1 s.2.1 s.2.2 w) (fun s w=>mu93 s.1 s.2.1 s.2.2 w) ((Sl.mk (some a3) 1 1), Sl.nil, 0) h (fun _ => rfl) (by kernel_rfl) ?_
  rintro ⟨all, context, i⟩ vw5 j h
  have h := hr94 all context i vw5 h
  refine Vc.seq ?_
  refine Vc.seq ?_
  refine Vc.region ?_
  refine vcL_purs 4 [(26, (Value.bool (decide (i < (all.len : Int))))), (25, (Value.int .i64 (all.len : Int))), (24, (Sl.v all)), (23, (Value.int .i64 i))] (by kernel_rfl) ?_
  refine vcL_nil ?_
  refine Vc.cond (decide (i < (all.len : Int))) (by kernel_rfl) (fun hb=>?_) (fun hb=>?_)
  ·have h := h.1 (of_decide_eq_true hb)
   refine Vc.skip ?_
   refine Vc.seq ?_
   refine Vc.block ?_
   obtain ⟨vJ57, hJ58, h⟩ := join_elim h
   refine Vc.seqJ (σ := Addr × Bool) [14, 15] [29, 30, 31, 32, 33, 34, 35, 36, 37, 38, 39, 40, 41, 42, 43] (fun s=>[(14, (Value.pointer (some s.1))), (15, (Value.bool s.2))]) (fun s w=>vJ57 s.1 s.2 w) (fun _ => rfl) ?_ ?_
   ·obtain ⟨vw59, hvw59⟩ : ∃ y, y = vw5.drew := ⟨_, rfl⟩
    have h := h vw59 hvw59
    refine Vc.draw (by kernel_rfl) (fun i=>!(memN [11, 16] i)) (.pur 0 (.pur 1 (.pur 2 (.pur 3 (.pur 4 (.val 5 (.pur 6 (.pur 7 (.pur 8 (.pur 9 (.val 10 (.eff 11 (.pur 12 (.pur 13 (.pur 14 (.eff 15 (.eff 16 (.pur 17 .fin) .stop) .stop)))) (.eff 15 (.eff 11 (.pur 12 (.pur 13 (.pur 14 (.eff 16 (.pur 17 .fin) .stop)))) .stop) .stop))))))))))))) (by kernel_rfl) ?_
    rw [← hvw59]
    clear hvw59
    refine vcS_pure rfl rfl rfl (Value.pointer c) (fun w=>by kernel_rfl) ?_
    refine vcS_pure rfl rfl rfl (Sl.v all) (fun w=>by kernel_rfl) ?_
    refine vcS_pure rfl rfl rfl (Value.int .i64 i) (fun w=>by kernel_rfl) ?_
    obtain ⟨ad60, hi61, h⟩ := h
    refine vcS_pure rfl rfl rfl (Value.pointer (some (ad60.add (i.toNat * 4)))) (fun w=>by exact exec_indexAt (s := all) (el := 32) rfl (by kernel_rfl) (by kernel_rfl) (by kernel_rfl) (fun w=>by kernel_rfl) (hi61).1 (hi61).2.1 (hi61).2.2 w) ?_
    refine vcS_pure rfl rfl rfl (Value.pointer (some (ad60.add (i.toNat * 4)))) (fun w=>by kernel_rfl) ?_
    obtain ⟨t35, hc62, h⟩ := h
    refine vcS_val rfl rfl rfl (Value.string t35) (fun w' hx=>exec_load rfl (by kernel_rfl) (run_load1 (fun w=>by kernel_rfl) ((hc62).ext hx))) ?_
    refine vcS_pure rfl rfl rfl (Sl.v all) (fun w=>by kernel_rfl) ?_
    refine vcS_pure rfl rfl rfl (Value.int .i64 i) (fun w=>by kernel_rfl) ?_
    obtain ⟨ad63, hi64, h⟩ := h
    refine vcS_pure rfl rfl rfl (Value.pointer (some (ad63.add (i.toNat * 4)))) (fun w=>by exact exec_indexAt (s := all) (el := 32) rfl (by kernel_rfl) (by kernel_rfl) (by kernel_rfl) (fun w=>by kernel_rfl) (hi64).1 (hi64).2.1 (hi64).2.2 w) ?_
    refine vcS_pure rfl rfl rfl (Value.pointer (some ((ad63.add (i.toNat * 4)).add 1))) (fun w=>by kernel_rfl) ?_
    obtain ⟨zz3i, zz3j, zz3k, hc65, h⟩ := h
    refine vcS_val rfl rfl rfl (Value.agg #[(Value.int .i64 zz3i), (Value.int .i64 zz3j), (Value.int .i64 zz3k)]) (fun w' hx=>exec_load rfl (by kernel_rfl) (run_loadN (fun w=>by kernel_rfl) (fun w=>by kernel_rfl) ((hc65).ext hx))) ?_
    have h0 := h
    have h := h.1
    refine vcS_eff rfl rfl (opVC_call rfl (by kernel_rfl) (callS.mono h fun v67 vw66 h=>?_)) ?_
    ·obtain ⟨zzj, zzl, zzm, zzn, zzb, zzk, zzc, t41b, rfl, h⟩ := h
     refine ⟨fun hb=>absurd hb (by decide), ?_⟩
     refine vcS_pure rfl rfl rfl (Value.tuple #[(Value.agg #[(Value.string zzj), (Value.int .i64 zzl), (Value.int .i64 zzm), (Value.int .i64 zzn), (Sl.v zzb), (Sl.v zzk), (Sl.v zzc)]), (Value.bool t41b)]) (fun w=>by kernel_rfl) ?_
     refine vcS_pure rfl rfl rfl (Value.agg #[(Value.string zzj), (Value.int .i64 zzl), (Value.int .i64 zzm), (Value.int .i64 zzn), (Sl.v zzb), (Sl.v zzk), (Sl.v zzc)]) (fun w=>by kernel_rfl) ?_
     refine vcS_pure rfl rfl rfl (Value.bool t41b) (fun w=>by kernel_rfl) ?_
     refine vcS_eff rfl rfl (opVC_new rfl (fun a=>Value.pointer (some a)) (by kernel_rfl) (newS.mono h fun a69 vw70 hx h=>?_)) vcS_stop
     refine ⟨fun _ => hx, ?_⟩
     refine vcS_eff rfl rfl (opVC_store rfl rfl (a := a69) (by kernel_rfl) (v := (Value.agg #[(Value.string zzj), (Value.int .i64 zzl), (Value.int .i64 zzm), (Value.int .i64 zzn), (Sl.v zzb), (Sl.v zzk), (Sl.v zzc)])) (by kernel_rfl) [(Value.string zzj), (Value.int .i64 zzl), (Value.int .i64 zzm), (Value.int .i64 zzn), (Sl.v zzb), (Sl.v zzk), (Sl.v zzc)] (by kernel_rfl) (fun w=>by kernel_rfl) (by kernel_rfl) (stw.mono h fun vw71 h=>?_)) vcS_stop
     refine ⟨fun hb=>absurd hb (by decide), ?_⟩
     refine vcS_pure rfl rfl rfl (Value.bool t41b) (fun w=>by kernel_rfl) ?_
     refine vcS_fin ?_
     exact ⟨(a69, t41b), 17, ⟨rfl, by kernel_rfl, by kernel_rfl, by kernel_rfl⟩, h⟩
    have h := h0
    have h0 := h
    have h := h.2
    refine vcS_eff rfl rfl (opVC_new rfl (fun a=>Value.pointer (some a)) (by kernel_rfl) (newS.mono h fun a72 vw73 hx h=>?_)) ?_
    ·refine ⟨fun _ => hx, ?_⟩
     refine vcS_eff rfl rfl (opVC_call rfl (by kernel_rfl) (callS.mono h fun v83 vw74 h=>?_)) vcS_stop
     obtain ⟨zz2l, zz2o, zz2p, zz2q, zz2k, zz2n, zz2m, t41b82, rfl, h⟩ := h
     refine ⟨fun hb=>absurd hb (by decide), ?_⟩
     refine vcS_pure rfl rfl rfl (Value.tuple #[(Value.agg #[(Value.string zz2l), (Value.int .i64 zz2o), (Value.int .i64 zz2p), (Value.int .i64 zz2q), (Sl.v zz2k), (Sl.v zz2n), (Sl.v zz2m)]), (Value.bool t41b82)]) (fun w=>by kernel_rfl) ?_
     refine vcS_pure rfl rfl rfl (Value.agg #[(Value.string zz2l), (Value.int .i64 zz2o), (Value.int .i64 zz2p), (Value.int .i64 zz2q), (Sl.v zz2k), (Sl.v zz2n), (Sl.v zz2m)]) (fun w=>by kernel_rfl) ?_
     refine vcS_pure rfl rfl rfl (Value.bool t41b82) (fun w=>by kernel_rfl) ?_
     refine vcS_eff rfl rfl (opVC_store rfl rfl (a := a72) (by kernel_rfl) (v := (Value.agg #[(Value.string zz2l), (Value.int .i64 zz2o), (Value.int .i64 zz2p), (Value.int .i64 zz2q), (Sl.v zz2k), (Sl.v zz2n), (Sl.v zz2m)])) (by kernel_rfl) [(Value.string zz2l), (Value.int .i64 zz2o), (Value.int .i64 zz2p), (Value.int .i64 zz2q), (Sl.v zz2k), (Sl.v zz2n), (Sl.v zz2m)] (by kernel_rfl) (fun w=>by kernel_rfl) (by kernel_rfl) (stw.mono h fun vw85 h=>?_)) vcS_stop
     refine ⟨fun hb=>absurd hb (by decide), ?_⟩
     refine vcS_pure rfl rfl rfl (Value.bool t41b82) (fun w=>by kernel_rfl) ?_
     refine vcS_fin ?_
     exact ⟨(a72, t41b82), 17, ⟨rfl, by kernel_rfl, by kernel_rfl, by kernel_rfl⟩, h⟩
    have h := h0
    exact vcS_stop
   ·rintro ⟨x, there⟩ vw6 j h
    subst hJ58
    refine Vc.seq ?_
    refine Vc.seq ?_
    refine Vc.region ?_
    refine vcL_purs 2 [(45, (Value.bool (!there))), (44, (Value.bool there))] (by kernel_rfl) ?_
    refine vcL_nil ?_
    refine Vc.cond (!there) (by kernel_rfl) (fun hb=>?_) (fun hb=>?_)
    ·have h := h.1 (hb)
     refine Vc.seq ?_
     refine Vc.region ?_
     refine vcL_purs 2 [(9, (Value.bool false)), (8, (Sl.v Sl.nil))] (by kernel_rfl) ?_
     refine vcL_nil ?_
     refine Vc.ret ?_
     refine outOf_ret ?_
     refine outOf_ret ?_
     refine outs_ret ?_
     refine done_mk (Value.tuple #[(Sl.v Sl.nil), (Value.bool false)]) (res2 (resC_tmp (by kernel_rfl)) (resC_tmp (by kernel_rfl))) ?_
     exact ⟨Sl.nil, false, rfl, h⟩
    ·have h := h.2 (hb)
     refine Vc.skip ?_
     refine Vc.seq ?_
     refine Vc.region ?_
     obtain ⟨zz5k, zz5n, zz5o, zz5p, zz5j, zz5m, zz5l, hc7, h⟩ := h
     refine vcL_val rfl rfl (Value.agg #[(Value.string zz5k), (Value.int .i64 zz5n), (Value.int .i64 zz5o), (Value.int .i64 zz5p), (Sl.v zz5j), (Sl.v zz5m), (Sl.v zz5l)]) (exec_load rfl (by kernel_rfl) (run_loadN (fun w=>by kernel_rfl) (fun w=>by kernel_rfl) ((hc7)))) ?_
     obtain ⟨zz5q, zz5r, zz5s, zz5t, hc8, h⟩ := h
     refine vcL_val rfl rfl (Value.agg #[(Sl.v zz5q), (Sl.v zz5r), (Sl.v zz5s), (Sl.v zz5t)]) (exec_load rfl (by kernel_rfl) (run_loadN (fun w=>by kernel_rfl) (fun w=>by kernel_rfl) ((hc8)))) ?_
     refine vcL_eff rfl (opVC_call rfl (by kernel_rfl) (callS.mono h fun v vw9 h=>?_))
     obtain ⟨t48, rfl, h⟩ := h
     refine vcL_purs 2 [(50, (Value.int .i64 0)), (49, (Value.int .i64 (t48.len : Int)))] (by kernel_rfl) ?_
     refine vcL_nil ?_
     refine Vc.block ?_
     obtain ⟨vI, mu, h, hr⟩ := h
     refine Vc.loopJ (σ := Sl × Sl × Int) [11, 12, 50] [8, 9, 17, 18, 51, 52, 53, 54, 55, 56, 57, 58, 59, 60, 61, 62, 63, 64, 65, 66, 67, 68, 69, 70, 71, 72, 73, 74, 75, 76, 77, 78, 79, 80, 81, 82, 83, 84, 85, 86, 87, 88, 89, 90, 91, 92, 93, 94] (fun s=>[(11, (Sl.v s.1)), (12, (Sl.v s.2.1)), (50, (Value.int .i64 s.2.2))]) (fun s w=>vI s.1 s.2.1 s.2.2 w) (fun s w=>mu s.1 s.2.1 s.2.2 w) (all, context, 0) h (fun _ => rfl) (by kernel_rfl) ?_
     rintro ⟨all10, context11, t50⟩ vw12 j h
     have h := hr all10 context11 t50 vw12 h
     refine Vc.seq ?_
     refine Vc.region ?_
     refine vcL_pure rfl rfl (Value.bool (decide (t50 < (t48.len : Int)))) (fun w=>by kernel_rfl) ?_
     refine vcL_nil ?_
     refine Vc.seq ?_
     refine Vc.cond (decide (t50 < (t48.len : Int))) (by kernel_rfl) (fun hb=>?_) (fun hb=>?_)
     ·have h := h.1 (of_decide_eq_true hb)
      refine Vc.skip ?_
      obtain ⟨vJ, hJ, h⟩ := join_elim h
      refine Vc.seqJ (σ := Sl × Sl) [11, 12] [8, 9, 17, 18, 52, 53, 54, 55, 56, 57, 58, 59, 60, 61, 62, 63, 64, 65, 66, 67, 68, 69, 70, 71, 72, 73, 74, 75, 76, 77, 78, 79, 80, 81, 82, 83, 84, 85, 86, 87, 88, 89, 90, 91, 92, 93] (fun s=>[(11, (Sl.v s.1)), (12, (Sl.v s.2))]) (fun s w=>vJ s.1 s.2 w) (fun _ => rfl) ?_ ?_
      ·refine Vc.block ?_
       refine Vc.seq ?_
       refine Vc.region ?_
       obtain ⟨ad, hi, h⟩ := h
       refine vcL_pure rfl rfl (Value.pointer (some (ad.add (t50.toNat * 2)))) (fun w=>by exact exec_indexAt (s := t48) (el := 81) rfl (by kernel_rfl) (by kernel_rfl) (by kernel_rfl) (fun w=>by kernel_rfl) (hi).1 (hi).2.1 (hi).2.2 w) ?_
       obtain ⟨zzo, zz2y, hc17, h⟩ := h
       refine vcL_val rfl rfl (Value.agg #[(Value.string zzo), (Sl.v zz2y)]) (exec_load rfl (by kernel_rfl) (run_loadN (fun w=>by kernel_rfl) (fun w=>by kernel_rfl) ((hc17)))) ?_
       refine vcL_eff rfl (opVC_new rfl (fun a=>Value.pointer (some a)) (by kernel_rfl) (newS.mono h fun a18 vw19 hx h=>?_))
       refine vcL_eff rfl (opVC_store rfl rfl (a := a18) (by kernel_rfl) (v := (Value.agg #[(Value.string zzo), (Sl.v zz2y)])) (by kernel_rfl) [(Value.string zzo), (Sl.v zz2y)] (by kernel_rfl) (fun w=>by kernel_rfl) (by kernel_rfl) (stw.mono h fun vw20 h=>?_))
       refine vcL_nil ?_
       refine Vc.seq ?_
       refine Vc.region ?_
       refine vcL_purs 3 [(56, (Value.pointer (some a18))), (55, (Value.func (.func 50) #[] #[])), (54, (Sl.v env))] (by kernel_rfl) ?_
       obtain ⟨t57, hc21, h⟩ := h
       refine vcL_val rfl rfl (Value.string t57) (exec_load rfl (by kernel_rfl) (run_load1 (fun w=>by kernel_rfl) ((hc21)))) ?_
       refine vcL_eff rfl (opVC_call rfl (by kernel_rfl) (callS.mono h fun v23 vw22 h=>?_))
       obtain ⟨t58, rfl, h⟩ := h
       refine vcL_eff rfl (opVC_call rfl (by kernel_rfl) (callS.mono h fun v26 vw25 h=>?_))
       obtain ⟨t59, rfl, h⟩ := h
       refine vcL_pure rfl rfl (Value.int .i64 t59) (fun w=>by kernel_rfl) ?_
       refine vcL_nil ?_
       refine Vc.seq ?_
       refine Vc.seq ?_
       obtain ⟨vw28, hvw28⟩ : ∃ y, y = vw25.drew := ⟨_, rfl⟩
       have h := h vw28 hvw28
       refine Vc.draw (by kernel_rfl) (fun i=>!(memN [10] i)) (.pur 0 (.pur 1 (.pur 2 (.pur 3 (.val 4 (.pur 5 (.pur 6 (.pur 7 (.pur 8 (.val 9 (.eff 10 (.pur 11 (.pur 12 .fin)) .stop))))))))))) (by kernel_rfl) ?_
       rw [← hvw28]
       clear hvw28
       refine vcS_pure rfl rfl rfl (Value.int .i64 t59) (fun w=>by kernel_rfl) ?_
       refine vcS_pure rfl rfl rfl (Value.bool (decide (t59 < 0))) (fun w=>by kernel_rfl) ?_
       obtain ⟨b, hb⟩ : ∃ y, y = (decide (t59 < 0)) := ⟨_, rfl⟩
       have h := h b hb
       refine vcS_pure rfl rfl rfl (Value.bool b) (fun w=>by rw [hb]; kernel_rfl) ?_
       refine vcS_guard rfl (!b) (wanted_g (d := 62) rfl (by kernel_rfl) b (by kernel_rfl) (!b) (eqF b)) rfl (Value.pointer (some (a18.add 1))) (fun hg w=>by simp only [Bool.and_eq_true, Bool.not_eq_true'] at hg; obtain rfl := hg; kernel_rfl) ?_
       obtain ⟨t64, hc29, h⟩ := h
       refine vcS_valG rfl (!b) (wanted_g (d := 62) rfl (by kernel_rfl) b (by kernel_rfl) (!b) (eqF b)) rfl (Sl.v t64) (fun hg w' hx=>by simp only [Bool.and_eq_true, Bool.not_eq_true'] at hg; obtain rfl := hg; exact exec_load rfl (by kernel_rfl) (run_load1 (fun w=>by kernel_rfl) ((hc29 rfl).ext hx))) ?_
       refine vcS_guard rfl (!b) (wanted_g (d := 62) rfl (by kernel_rfl) b (by kernel_rfl) (!b) (eqF b)) rfl (Sl.v env) (fun hg w=>by simp only [Bool.and_eq_true, Bool.not_eq_true'] at hg; obtain rfl := hg; kernel_rfl) ?_
       refine vcS_guard rfl (!b) (wanted_g (d := 62) rfl (by kernel_rfl) b (by kernel_rfl) (!b) (eqF b)) rfl (Value.int .i64 t59) (fun hg w=>by simp only [Bool.and_eq_true, Bool.not_eq_true'] at hg; obtain rfl := hg; kernel_rfl) ?_
       obtain ⟨ad30, hi31, h⟩ := h
       refine vcS_guard rfl (!b) (wanted_g (d := 62) rfl (by kernel_rfl) b (by kernel_rfl) (!b) (eqF b)) rfl (Value.pointer (some (ad30.add (t59.toNat * 4)))) (fun hg w=>by simp only [Bool.and_eq_true, Bool.not_eq_true'] at hg; obtain rfl := hg; exact exec_indexAt (s := env) (el := 32) rfl (by kernel_rfl) (by kernel_rfl) (by kernel_rfl) (fun w=>by kernel_rfl) (hi31 rfl).1 (hi31 rfl).2.1 (hi31 rfl).2.2 w) ?_
       refine vcS_guard rfl (!b) (wanted_g (d := 62) rfl (by kernel_rfl) b (by kernel_rfl) (!b) (eqF b)) rfl (Value.pointer (some ((ad30.add (t59.toNat * 4)).add 1))) (fun hg w=>by simp only [Bool.and_eq_true, Bool.not_eq_true'] at hg; obtain rfl := hg; kernel_rfl) ?_
       obtain ⟨zz5y, zz5z, zz60, hc32, h⟩ := h
       refine vcS_valG rfl (!b) (wanted_g (d := 62) rfl (by kernel_rfl) b (by kernel_rfl) (!b) (eqF b)) rfl (Value.agg #[(Value.int .i64 zz5y), (Value.int .i64 zz5z), (Value.int .i64 zz60)]) (fun hg w' hx=>by simp only [Bool.and_eq_true, Bool.not_eq_true'] at hg; obtain rfl := hg; exact exec_load rfl (by kernel_rfl) (run_loadN (fun w=>by kernel_rfl) (fun w=>by kernel_rfl) ((hc32 rfl).ext hx))) ?_
       obtain ⟨vJ36, hJ37, h⟩ := gCall_elim h
       refine vcS_effJ (σ := Bool) rfl (!b) (wanted_g (d := 62) rfl (by kernel_rfl) b (by kernel_rfl) (!b) (eqF b)) rfl (fun s w=>vJ36 s w) (fun s=>(Value.bool s)) ?_ (fun hg=>opVC_call rfl (by simp only [Bool.and_eq_true, Bool.not_eq_true'] at hg; obtain rfl := hg; kernel_rfl) (callS.mono (h.1 hg) fun v34 vw33 hq=>?_)) (fun hg=>⟨false, h.2 hg⟩) vcS_stop
       ·intro t70 vw33 h
        subst hJ37
        refine vcS_guard rfl (!b) (wanted_g (d := 62) rfl (by kernel_rfl) b (by kernel_rfl) (!b) (eqF b)) rfl (Value.bool (!t70)) (fun hg w=>by simp only [Bool.and_eq_true, Bool.not_eq_true'] at hg; obtain rfl := hg; kernel_rfl) ?_
        refine vcS_pure rfl rfl rfl (Value.bool (b || (!t70))) (fun w=>by cases b <;> kernel_rfl) ?_
        refine vcS_fin ?_
        refine Vc.cond (b || (!t70)) (by kernel_rfl) (fun hb=>?_) (fun hb=>?_)
        ·have h := h.1 (hb)
         refine Vc.seq ?_
         refine Vc.region ?_
         refine vcL_purs 2 [(9, (Value.bool false)), (8, (Sl.v Sl.nil))] (by kernel_rfl) ?_
         refine vcL_nil ?_
         refine Vc.ret ?_
         refine outOf_ret ?_
         refine outOf_ret ?_
         refine outOf_ret ?_
         refine outOf_ret ?_
         refine outs_ret ?_
         refine done_mk (Value.tuple #[(Sl.v Sl.nil), (Value.bool false)]) (res2 (resC_tmp (by kernel_rfl)) (resC_tmp (by kernel_rfl))) ?_
         exact ⟨Sl.nil, false, rfl, h⟩
        ·have h := h.2 (hb)
         refine Vc.skip ?_
         refine Vc.seq ?_
         refine Vc.region ?_
         refine vcL_purs 3 [(75, (Value.pointer (some a18))), (74, (Value.func (.func 50) #[] #[])), (73, (Sl.v context11))] (by kernel_rfl) ?_
         obtain ⟨t76, hc38, h⟩ := h
         refine vcL_val rfl rfl (Value.string t76) (exec_load rfl (by kernel_rfl) (run_load1 (fun w=>by kernel_rfl) ((hc38)))) ?_
         refine vcL_eff rfl (opVC_call rfl (by kernel_rfl) (callS.mono h fun v40 vw39 h=>?_))
         obtain ⟨t77, rfl, h⟩ := h
         refine vcL_eff rfl (opVC_call rfl (by kernel_rfl) (callS.mono h fun v43 vw42 h=>?_))
         obtain ⟨t78, rfl, h⟩ := h
         refine vcL_pure rfl rfl (Value.bool (!t78)) (fun w=>by kernel_rfl) ?_
         refine vcL_nil ?_
         refine Vc.cond (!t78) (by kernel_rfl) (fun hb=>?_) (fun hb=>?_)
         ·have h := h.1 (hb)
          refine Vc.seq ?_
          refine Vc.region ?_
          refine vcL_purs 3 [(82, (Value.int .i64 t59)), (81, (Sl.v env)), (80, (Sl.v context11))] (by kernel_rfl) ?_
          obtain ⟨ad45, hi46, h⟩ := h
          refine vcL_pure rfl rfl (Value.pointer (some (ad45.add (t59.toNat * 4)))) (fun w=>by exact exec_indexAt (s := env) (el := 32) rfl (by kernel_rfl) (by kernel_rfl) (by kernel_rfl) (fun w=>by kernel_rfl) (hi46).1 (hi46).2.1 (hi46).2.2 w) ?_
          obtain ⟨zz6b, zz6c, zz6d, zz6e, hc47, h⟩ := h
          refine vcL_val rfl rfl (Value.agg #[(Value.string zz6b), (Value.int .i64 zz6c), (Value.int .i64 zz6d), (Value.int .i64 zz6e)]) (exec_load rfl (by kernel_rfl) (run_loadN (fun w=>by kernel_rfl) (fun w=>by kernel_rfl) ((hc47)))) ?_
          refine vcL_eff rfl (opVC_new rfl (fun a=>Value.slice (some a) 1 1) (by kernel_rfl) (newS.mono h fun a48 vw49 hx h=>?_))
          refine vcL_eff rfl (opVC_sem rfl (c := Builtin.append_ #[28, 28] 28 #[(Sl.v context11), (Sl.v (Sl.mk (some a48) 1 1))]) (by kernel_rfl) (appS.elim (ty := 28) h fun t86 vw50 h=>?_))
          refine vcL_pure rfl rfl (Sl.v t86) (fun w=>by kernel_rfl) ?_
          refine vcL_nil ?_
          refine Vc.region ?_
          refine vcL_purs 3 [(89, (Value.int .i64 t59)), (88, (Sl.v env)), (87, (Sl.v all10))] (by kernel_rfl) ?_
          obtain ⟨ad51, hi52, h⟩ := h
          refine vcL_pure rfl rfl (Value.pointer (some (ad51.add (t59.toNat * 4)))) (fun w=>by exact exec_indexAt (s := env) (el := 32) rfl (by kernel_rfl) (by kernel_rfl) (by kernel_rfl) (fun w=>by kernel_rfl) (hi52).1 (hi52).2.1 (hi52).2.2 w) ?_
          obtain ⟨zz6s, zz6t, zz6u, zz6v, hc53, h⟩ := h
          refine vcL_val rfl rfl (Value.agg #[(Value.string zz6s), (Value.int .i64 zz6t), (Value.int .i64 zz6u), (Value.int .i64 zz6v)]) (exec_load rfl (by kernel_rfl) (run_loadN (fun w=>by kernel_rfl) (fun w=>by kernel_rfl) ((hc53)))) ?_
          refine vcL_eff rfl (opVC_new rfl (fun a=>Value.slice (some a) 1 1) (by kernel_rfl) (newS.mono h fun a54 vw55 hx h=>?_))
          refine vcL_eff rfl (opVC_sem rfl (c := Builtin.append_ #[28, 28] 28 #[(Sl.v all10), (Sl.v (Sl.mk (some a54) 1 1))]) (by kernel_rfl) (appS.elim (ty := 28) h fun t93 vw56 h=>?_))
          refine vcL_pure rfl rfl (Sl.v t93) (fun w=>by kernel_rfl) ?_
          refine vcL_nil ?_
          exact ⟨(t93, t86), 46, ⟨rfl, by kernel_rfl, by kernel_rfl, by kernel_rfl⟩, h⟩
         ·have h := h.2 (hb)
          refine Vc.skip ?_
          exact ⟨(all10, context11), 30, ⟨rfl, by kernel_rfl, by kernel_rfl, by kernel_rfl⟩, h⟩
       ·obtain ⟨t70, rfl, hq⟩ := hq
        exact ⟨fun hb=>absurd hb (by decide), t70, rfl, hq⟩
      ·rintro ⟨all14, context15⟩ vw16 j h
       subst hJ
       refine Vc.region ?_
       refine vcL_purs 2 [(50, (Value.int .i64 (wrapI (t50 + 1)))), (94, (Value.int .i64 (wrapI (t50 + 1))))] (by kernel_rfl) ?_
       refine vcL_nil ?_
       exact ⟨(all14, context15, (wrapI (t50 + 1))), 102, ⟨rfl, by kernel_rfl, by kernel_rfl, by kernel_rfl⟩, h⟩
     ·have h := h.2 (of_decide_eq_false hb)
      refine Vc.exit ?_
      refine outOf_hit ?_
      refine Vc.region ?_
      refine vcL_purs 3 [(13, (Value.int .i64 (wrapI (i + 1)))), (28, (Value.int .i64 (wrapI (i + 1)))), (27, (Value.int .i64 i))] (by kernel_rfl) ?_
      refine vcL_nil ?_
      exact ⟨(all10, context11, (wrapI (i + 1))), 164, ⟨rfl, by kernel_rfl, by kernel_rfl, by kernel_rfl⟩, h⟩
  ·have h := h.2 (of_decide_eq_false hb)
   refine Vc.exit ?_
   refine outOf_hit ?_
   refine Vc.seq ?_
   refine Vc.region ?_
   refine vcL_pure rfl rfl (Sl.v context) (fun w=>by kernel_rfl) ?_
   refine vcL_eff rfl (opVC_call rfl (by kernel_rfl) (callS.mono h fun v87 vw86 h=>?_))
   obtain ⟨rfl, h⟩ := h
   refine vcL_nil ?_
   refine Vc.seq ?_
   refine Vc.region ?_
   refine vcL_pure rfl rfl (Sl.v context) (fun w=>by kernel_rfl) ?_
   refine vcL_eff rfl (opVC_call rfl (by kernel_rfl) (callS.mono h fun v90 vw89 h=>?_))
   obtain ⟨t98, rfl, h⟩ := h
   refine vcL_purs 2 [(9, (Value.bool true)), (8, (Sl.v t98))] (by kernel_rfl) ?_
   refine vcL_nil ?_
   refine Vc.ret ?_
   refine outs_ret ?_
   refine done_mk (Value.tuple #[(Sl.v t98), (Value.bool true)]) (res2 (resC_tmp (by kernel_rfl)) (resC_tmp (by kernel_rfl))) ?_
   exact ⟨t98, true, rfl, h⟩
theorem wants_Context.go {c : Option Addr} {zz0 : Sl} {zz1 : Sl} {zz2 : Sl} {zz3 : Sl} {env : Sl} {zz4 : ByteArray} {zz5 : Int} {zz6 : Int} {zz7 : Int} {w : World} {k : Value → World → Prop} (h : wants_Context c zz0 zz1 zz2 zz3 env zz4 zz5 zz6 zz7 w fun r0 r1 w'=>k (Value.tuple #[(Sl.v r0), (Value.bool r1)]) w') : callS Tryz.prog 13 [(Value.pointer c), (Value.agg #[(Sl.v zz0), (Sl.v zz1), (Sl.v zz2), (Sl.v zz3)]), (Sl.v env), (Value.agg #[(Value.string zz4), (Value.int .i64 zz5), (Value.int .i64 zz6), (Value.int .i64 zz7)])] w k := (wants_Context.sound c zz0 zz1 zz2 zz3 env zz4 zz5 zz6 zz7 w _ h).mono (by rintro _ _ ⟨r0, r1, rfl, h⟩; exact h)
def halyardref05_Less (a : ByteArray) (b : ByteArray) (w : World) (R : Bool → World → Prop) : Prop :=
 callS Tryz.prog 59 [(Value.string a), (Value.string b)] w fun v vw=>∃ (t7 : Bool), v = (Value.bool t7) ∧ R t7 vw
set_option maxHeartbeats 8000000 in
theorem halyardref05_Less.sound (a : ByteArray) (b : ByteArray) (w : World) (R : Bool → World → Prop) (h : halyardref05_Less a b w R) : callS Tryz.prog 15 [(Value.string a), (Value.string b)] w (fun v w'=>∃ (r0 : Bool), v = (Value.bool r0) ∧ R r0 w') := by
 unfold halyardref05_Less at h
 refine calls_of_vc 8 rfl Tryz.func15 rfl (by kernel_rfl) (by simp) ?_
 refine Vc.seq ?_
 refine Vc.region ?_
 refine vcL_pure rfl rfl (Value.bool false) (fun w=>by kernel_rfl) ?_
 refine vcL_nil ?_
 refine Vc.seq ?_
 refine Vc.region ?_
 refine vcL_purs 2 [(6, (Value.string b)), (5, (Value.string a))] (by kernel_rfl) ?_
 refine vcL_eff rfl (opVC_call rfl (by kernel_rfl) (callS.mono h fun v vw h=>?_))
 obtain ⟨t7, rfl, h⟩ := h
 refine vcL_pure rfl rfl (Value.bool t7) (fun w=>by kernel_rfl) ?_
 refine vcL_nil ?_
 refine Vc.ret ?_
 refine outs_ret ?_
 refine done_mk (Value.bool t7) (res1 (resC_tmp (by kernel_rfl))) ?_
 exact ⟨t7, rfl, h⟩
theorem halyardref05_Less.go {a : ByteArray} {b : ByteArray} {w : World} {k : Value → World → Prop} (h : halyardref05_Less a b w fun r0 w'=>k (Value.bool r0) w') : callS Tryz.prog 15 [(Value.string a), (Value.string b)] w k := (halyardref05_Less.sound a b w _ h).mono (by rintro _ _ ⟨r0, rfl, h⟩; exact h)
def catalog_New (w : World) (R : Option Addr → World → Prop) : Prop :=
 semS Tryz.prog (Instr.makeMap 101 none) w fun v vw=>∃ (t1 : Option Nat), v = (Value.map t1) ∧ newS vw [(Value.map t1)] 103 fun a vw1=>R (some a) vw1
set_option maxHeartbeats 8000000 in
theorem catalog_New.sound (w : World) (R : Option Addr → World → Prop) (h : catalog_New w R) : callS Tryz.prog 16 [] w (fun v w'=>∃ (r0 : Option Addr), v = (Value.pointer r0) ∧ R r0 w') := by
 unfold catalog_New at h
 refine calls_of_vc 4 rfl Tryz.func16 rfl (by kernel_rfl) (by simp) ?_
 refine Vc.seq ?_
 refine Vc.region ?_
 refine vcL_pure rfl rfl (Value.pointer none) (fun w=>by kernel_rfl) ?_
 refine vcL_nil ?_
 refine Vc.seq ?_
 refine Vc.region ?_
 refine vcL_eff rfl (opVC_sem rfl (c := Instr.makeMap 101 none) (by kernel_rfl) (semS.mono h fun v vw h=>?_))
 obtain ⟨t1, rfl, h⟩ := h
 refine vcL_pure rfl rfl (Value.agg #[(Value.map t1)]) (fun w=>by kernel_rfl) ?_
 refine vcL_eff rfl (opVC_new rfl (fun a=>Value.pointer (some a)) (by kernel_rfl) (newS.mono h fun a vw1 hx h=>?_))
 refine vcL_pure rfl rfl (Value.pointer (some a)) (fun w=>by kernel_rfl) ?_
 refine vcL_nil ?_
 refine Vc.ret ?_
 refine outs_ret ?_
 refine done_mk (Value.pointer (some a)) (res1 (resC_tmp (by kernel_rfl))) ?_
 exact ⟨(some a), rfl, h⟩
theorem catalog_New.go {w : World} {k : Value → World → Prop} (h : catalog_New w fun r0 w'=>k (Value.pointer r0) w') : callS Tryz.prog 16 [] w k := (catalog_New.sound w _ h).mono (by rintro _ _ ⟨r0, rfl, h⟩; exact h)
def catalog_Catalog_Put (c : Option Addr) (zz4 : ByteArray) (zz5 : Int) (zz6 : Int) (zz7 : Int) (zz8 : Sl) (zza : Sl) (zz9 : Sl) (w : World) (R : Int → World → Prop) : Prop :=
 newS w [(Value.string zz4), (Value.int .i64 zz5), (Value.int .i64 zz6), (Value.int .i64 zz7), (Sl.v zz8), (Sl.v zza), (Sl.v zz9)] 48 fun a vw=>∃ (zz6k : ByteArray) (zz6n : Int) (zz6o : Int) (zz6p : Int) (zz1m : Sl) (zz6m : Sl) (zz1n : Sl), (ldc vw a [(Value.string zz6k), (Value.int .i64 zz6n), (Value.int .i64 zz6o), (Value.int .i64 zz6p), (Sl.v zz1m), (Sl.v zz6m), (Sl.v zz1n)]) ∧ callS Tryz.prog 61 [(Value.agg #[(Value.string zz6k), (Value.int .i64 zz6n), (Value.int .i64 zz6o), (Value.int .i64 zz6p), (Sl.v zz1m), (Sl.v zz6m), (Sl.v zz1n)])] vw fun v vw1=>∃ (t9 : Bool), v = (Value.bool t9) ∧ (((!t9) = true → R 24 vw1) ∧ ((!t9) = false → ∃ (t12 : ByteArray), (ldc vw1 a [(Value.string t12)]) ∧ ∃ (zz10 : Int) (zz11 : Int) (zz12 : Int), (ldc vw1 (a.add 1) [(Value.int .i64 zz10), (Value.int .i64 zz11), (Value.int .i64 zz12)]) ∧ newS vw1 [(Value.string (ByteArray.mk #[])), (Value.int .i64 0), (Value.int .i64 0), (Value.int .i64 0)] 106 fun a4 vw5=>stw vw5 a4 [(Value.string t12), (Value.int .i64 zz10), (Value.int .i64 zz11), (Value.int .i64 zz12)] fun vw6=>bnd vw6.drew fun (vw7 : World)=>∃ (p : Addr), (c = some p) ∧ ∃ (t20 : Option Nat), (ldc vw7 p [(Value.map t20)]) ∧ ∃ (t21_name : ByteArray) (zz3c : Int) (zz3d : Int) (zz3e : Int), (ldc vw7 a4 [(Value.string t21_name), (Value.int .i64 zz3c), (Value.int .i64 zz3d), (Value.int .i64 zz3e)]) ∧ ∃ (zzv : ByteArray) (zzx : Int) (zzy : Int) (zzz : Int) (zzd : Sl) (zzw : Sl) (zze : Sl) (t22b : Bool), (stabS Tryz.prog (Instr.lookup 101 (Value.map t20) (Value.agg #[(Value.string t21_name), (Value.int .i64 zz3c), (Value.int .i64 zz3d), (Value.int .i64 zz3e)]) true) vw7 (Value.tuple #[(Value.agg #[(Value.string zzv), (Value.int .i64 zzx), (Value.int .i64 zzy), (Value.int .i64 zzz), (Sl.v zzd), (Sl.v zzw), (Sl.v zze)]), (Value.bool t22b)])) ∧ newS vw7 [(Value.string (ByteArray.mk #[])), (Value.int .i64 0), (Value.int .i64 0), (Value.int .i64 0), (Sl.v Sl.nil), (Sl.v Sl.nil), (Sl.v Sl.nil)] 48 fun a12 vw13=>stw vw13 a12 [(Value.string zzv), (Value.int .i64 zzx), (Value.int .i64 zzy), (Value.int .i64 zzz), (Sl.v zzd), (Sl.v zzw), (Sl.v zze)] fun vw14=>((t22b = true → R 11 vw14) ∧ (t22b = false → ∃ (p15 : Addr), (c = some p15) ∧ ∃ (t29 : Option Nat), (ldc vw14 p15 [(Value.map t29)]) ∧ ∃ (t30 : Int), (stabS Tryz.prog (Builtin.len_ #[101] 3 #[(Value.map t29)]) vw14 (Value.int .i64 t30)) ∧ ((128 ≤ t30 → R 26 vw14) ∧ (¬ (128 ≤ t30) → bnd vw14.drew fun (vw19 : World)=>∃ (p20 : Addr), (c = some p20) ∧ ∃ (t35 : Option Nat), (ldc vw19 p20 [(Value.map t35)]) ∧ ∃ (t36_name : ByteArray) (zz3f : Int) (zz3g : Int) (zz3h : Int), (ldc vw19 a4 [(Value.string t36_name), (Value.int .i64 zz3f), (Value.int .i64 zz3g), (Value.int .i64 zz3h)]) ∧ ∃ (zz51 : ByteArray) (zz54 : Int) (zz55 : Int) (zz56 : Int) (zz1g : Sl) (zz53 : Sl) (zz1h : Sl), (ldc vw19 a [(Value.string zz51), (Value.int .i64 zz54), (Value.int .i64 zz55), (Value.int .i64 zz56), (Sl.v zz1g), (Sl.v zz53), (Sl.v zz1h)]) ∧ callX Tryz.prog 62 [(Value.agg #[(Value.string zz51), (Value.int .i64 zz54), (Value.int .i64 zz55), (Value.int .i64 zz56), (Sl.v zz1g), (Sl.v zz53), (Sl.v zz1h)])] vw19 fun v26 vw25=>∃ (zz58 : ByteArray) (zz5b : Int) (zz5c : Int) (zz5d : Int) (zz57 : Sl) (zz5a : Sl) (zz59 : Sl), v26 = (Value.agg #[(Value.string zz58), (Value.int .i64 zz5b), (Value.int .i64 zz5c), (Value.int .i64 zz5d), (Sl.v zz57), (Sl.v zz5a), (Sl.v zz59)]) ∧ semU Tryz.prog (Instr.mapUpdate 101 (Value.map t35) (Value.agg #[(Value.string t36_name), (Value.int .i64 zz3f), (Value.int .i64 zz3g), (Value.int .i64 zz3h)]) (Value.agg #[(Value.string zz58), (Value.int .i64 zz5b), (Value.int .i64 zz5c), (Value.int .i64 zz5d), (Sl.v zz57), (Sl.v zz5a), (Sl.v zz59)])) vw25 fun vw28=>R 0 vw28))))))
set_option maxHeartbeats 8000000 in
theorem catalog_Catalog_Put.sound (c : Option Addr) (zz4 : ByteArray) (zz5 : Int) (zz6 : Int) (zz7 : Int) (zz8 : Sl) (zza : Sl) (zz9 : Sl) (w : World) (R : Int → World → Prop) (h : catalog_Catalog_Put c zz4 zz5 zz6 zz7 zz8 zza zz9 w R) : callS Tryz.prog 19 [(Value.pointer c), (Value.agg #[(Value.string zz4), (Value.int .i64 zz5), (Value.int .i64 zz6), (Value.int .i64 zz7), (Sl.v zz8), (Sl.v zza), (Sl.v zz9)])] w (fun v w'=>∃ (r0 : Int), v = (Value.int .i64 r0) ∧ R r0 w') := by
 unfold catalog_Catalog_Put at h
 refine calls_of_vc 39 rfl Tryz.func19 rfl (by kernel_rfl) (by simp) ?_
 refine Vc.seq ?_
 refine Vc.region ?_
 refine vcL_eff rfl (opVC_new rfl (fun a=>Value.pointer (some a)) (by kernel_rfl) (newS.mono h fun a vw hx h=>?_))
 refine vcL_pure rfl rfl (Value.int .i64 0) (fun w=>by kernel_rfl) ?_
 refine vcL_nil ?_
 refine Vc.seq ?_
 refine Vc.seq ?_
 refine Vc.region ?_
 obtain ⟨zz6k, zz6n, zz6o, zz6p, zz1m, zz6m, zz1n, hc, h⟩ := h
 refine vcL_val rfl rfl (Value.agg #[(Value.string zz6k), (Value.int .i64 zz6n), (Value.int .i64 zz6o), (Value.int .i64 zz6p), (Sl.v zz1m), (Sl.v zz6m), (Sl.v zz1n)]) (exec_load rfl (by kernel_rfl) (run_loadN (fun w=>by kernel_rfl) (fun w=>by kernel_rfl) ((hc)))) ?_
 refine vcL_eff rfl (opVC_call rfl (by kernel_rfl) (callS.mono h fun v vw1 h=>?_))
 obtain ⟨t9, rfl, h⟩ := h
 refine vcL_pure rfl rfl (Value.bool (!t9)) (fun w=>by kernel_rfl) ?_
 refine vcL_nil ?_
 refine Vc.cond (!t9) (by kernel_rfl) (fun hb=>?_) (fun hb=>?_)
 ·have h := h.1 (hb)
  refine Vc.seq ?_
  refine Vc.region ?_
  refine vcL_pure rfl rfl (Value.int .i64 24) (fun w=>by kernel_rfl) ?_
  refine vcL_nil ?_
  refine Vc.ret ?_
  refine outs_ret ?_
  refine done_mk (Value.int .i64 24) (res1 (resC_tmp (by kernel_rfl))) ?_
  exact ⟨24, rfl, h⟩
 ·have h := h.2 (hb)
  refine Vc.skip ?_
  refine Vc.seq ?_
  refine Vc.region ?_
  refine vcL_pure rfl rfl (Value.pointer (some a)) (fun w=>by kernel_rfl) ?_
  obtain ⟨t12, hc2, h⟩ := h
  refine vcL_val rfl rfl (Value.string t12) (exec_load rfl (by kernel_rfl) (run_load1 (fun w=>by kernel_rfl) ((hc2)))) ?_
  refine vcL_pure rfl rfl (Value.pointer (some (a.add 1))) (fun w=>by kernel_rfl) ?_
  obtain ⟨zz10, zz11, zz12, hc3, h⟩ := h
  refine vcL_val rfl rfl (Value.agg #[(Value.int .i64 zz10), (Value.int .i64 zz11), (Value.int .i64 zz12)]) (exec_load rfl (by kernel_rfl) (run_loadN (fun w=>by kernel_rfl) (fun w=>by kernel_rfl) ((hc3)))) ?_
  refine vcL_pure rfl rfl (Value.agg #[(Value.string t12), (Value.int .i64 zz10), (Value.int .i64 zz11), (Value.int .i64 zz12)]) (fun w=>by kernel_rfl) ?_
  refine vcL_eff rfl (opVC_new rfl (fun a=>Value.pointer (some a)) (by kernel_rfl) (newS.mono h fun a4 vw5 hx h=>?_))
  refine vcL_eff rfl (opVC_store rfl rfl (a := a4) (by kernel_rfl) (v := (Value.agg #[(Value.string t12), (Value.int .i64 zz10), (Value.int .i64 zz11), (Value.int .i64 zz12)])) (by kernel_rfl) [(Value.string t12), (Value.int .i64 zz10), (Value.int .i64 zz11), (Value.int .i64 zz12)] (by kernel_rfl) (fun w=>by kernel_rfl) (by kernel_rfl) (stw.mono h fun vw6 h=>?_))
  refine vcL_nil ?_
  refine Vc.seq ?_
  refine Vc.seq ?_
  obtain ⟨vw7, hvw7⟩ : ∃ y, y = vw6.drew := ⟨_, rfl⟩
  have h := h vw7 hvw7
  refine Vc.draw (by kernel_rfl) (fun i=>!(memN [10] i)) (.pur 0 (.pur 1 (.pur 2 (.val 3 (.val 4 (.val 5 (.pur 6 (.pur 7 (.pur 8 (.eff 9 (.eff 10 (.pur 11 .fin) .stop) .stop)))))))))) (by kernel_rfl) ?_
  rw [← hvw7]
  clear hvw7
  refine vcS_pure rfl rfl rfl (Value.pointer c) (fun w=>by kernel_rfl) ?_
  obtain ⟨p, hp, h⟩ := h
  refine vcS_pure rfl rfl rfl (Value.pointer (some p)) (fun w=>by exact exec_nilCheck rfl (by kernel_rfl) (hp) w) ?_
  refine vcS_pure rfl rfl rfl (Value.pointer (some p)) (fun w=>by kernel_rfl) ?_
  obtain ⟨t20, hc8, h⟩ := h
  refine vcS_val rfl rfl rfl (Value.map t20) (fun w' hx=>exec_load rfl (by kernel_rfl) (run_load1 (fun w=>by kernel_rfl) ((hc8).ext hx))) ?_
  obtain ⟨t21_name, zz3c, zz3d, zz3e, hc9, h⟩ := h
  refine vcS_val rfl rfl rfl (Value.agg #[(Value.string t21_name), (Value.int .i64 zz3c), (Value.int .i64 zz3d), (Value.int .i64 zz3e)]) (fun w' hx=>exec_load rfl (by kernel_rfl) (run_loadN (fun w=>by kernel_rfl) (fun w=>by kernel_rfl) ((hc9).ext hx))) ?_
  obtain ⟨zzv, zzx, zzy, zzz, zzd, zzw, zze, t22b, hl, h⟩ := h
  refine vcS_val rfl rfl rfl (Value.tuple #[(Value.agg #[(Value.string zzv), (Value.int .i64 zzx), (Value.int .i64 zzy), (Value.int .i64 zzz), (Sl.v zzd), (Sl.v zzw), (Sl.v zze)]), (Value.bool t22b)]) (fun w' hx=>exec_sem (c := Instr.lookup 101 (Value.map t20) (Value.agg #[(Value.string t21_name), (Value.int .i64 zz3c), (Value.int .i64 zz3d), (Value.int .i64 zz3e)]) true) (by kernel_rfl) ((hl) _ hx)) ?_
  refine vcS_pure rfl rfl rfl (Value.tuple #[(Value.agg #[(Value.string zzv), (Value.int .i64 zzx), (Value.int .i64 zzy), (Value.int .i64 zzz), (Sl.v zzd), (Sl.v zzw), (Sl.v zze)]), (Value.bool t22b)]) (fun w=>by kernel_rfl) ?_
  refine vcS_pure rfl rfl rfl (Value.agg #[(Value.string zzv), (Value.int .i64 zzx), (Value.int .i64 zzy), (Value.int .i64 zzz), (Sl.v zzd), (Sl.v zzw), (Sl.v zze)]) (fun w=>by kernel_rfl) ?_
  refine vcS_pure rfl rfl rfl (Value.bool t22b) (fun w=>by kernel_rfl) ?_
  refine vcS_eff rfl rfl (opVC_new rfl (fun a=>Value.pointer (some a)) (by kernel_rfl) (newS.mono h fun a12 vw13 hx h=>?_)) vcS_stop
  refine ⟨fun _ => hx, ?_⟩
  refine vcS_eff rfl rfl (opVC_store rfl rfl (a := a12) (by kernel_rfl) (v := (Value.agg #[(Value.string zzv), (Value.int .i64 zzx), (Value.int .i64 zzy), (Value.int .i64 zzz), (Sl.v zzd), (Sl.v zzw), (Sl.v zze)])) (by kernel_rfl) [(Value.string zzv), (Value.int .i64 zzx), (Value.int .i64 zzy), (Value.int .i64 zzz), (Sl.v zzd), (Sl.v zzw), (Sl.v zze)] (by kernel_rfl) (fun w=>by kernel_rfl) (by kernel_rfl) (stw.mono h fun vw14 h=>?_)) vcS_stop
  refine ⟨fun hb=>absurd hb (by decide), ?_⟩
  refine vcS_pure rfl rfl rfl (Value.bool t22b) (fun w=>by kernel_rfl) ?_
  refine vcS_fin ?_
  refine Vc.seq ?_
  refine Vc.region ?_
  refine vcL_pure rfl rfl (Value.bool t22b) (fun w=>by kernel_rfl) ?_
  refine vcL_nil ?_
  refine Vc.cond t22b (by kernel_rfl) (fun hb=>?_) (fun hb=>?_)
  ·have h := h.1 (hb)
   refine Vc.seq ?_
   refine Vc.region ?_
   refine vcL_pure rfl rfl (Value.int .i64 11) (fun w=>by kernel_rfl) ?_
   refine vcL_nil ?_
   refine Vc.ret ?_
   refine outs_ret ?_
   refine done_mk (Value.int .i64 11) (res1 (resC_tmp (by kernel_rfl))) ?_
   exact ⟨11, rfl, h⟩
  ·have h := h.2 (hb)
   refine Vc.skip ?_
   refine Vc.seq ?_
   refine Vc.seq ?_
   refine Vc.region ?_
   refine vcL_pure rfl rfl (Value.pointer c) (fun w=>by kernel_rfl) ?_
   obtain ⟨p15, hp16, h⟩ := h
   refine vcL_pure rfl rfl (Value.pointer (some p15)) (fun w=>by exact exec_nilCheck rfl (by kernel_rfl) (hp16) w) ?_
   refine vcL_pure rfl rfl (Value.pointer (some p15)) (fun w=>by kernel_rfl) ?_
   obtain ⟨t29, hc17, h⟩ := h
   refine vcL_val rfl rfl (Value.map t29) (exec_load rfl (by kernel_rfl) (run_load1 (fun w=>by kernel_rfl) ((hc17)))) ?_
   obtain ⟨t30, hl18, h⟩ := h
   refine vcL_val rfl rfl (Value.int .i64 t30) (exec_sem (c := Builtin.len_ #[101] 3 #[(Value.map t29)]) (by kernel_rfl) ((hl18) _ (Ext.refl _))) ?_
   refine vcL_pure rfl rfl (Value.bool (decide (128 ≤ t30))) (fun w=>by kernel_rfl) ?_
   refine vcL_nil ?_
   refine Vc.cond (decide (128 ≤ t30)) (by kernel_rfl) (fun hb=>?_) (fun hb=>?_)
   ·have h := h.1 (of_decide_eq_true hb)
    refine Vc.seq ?_
    refine Vc.region ?_
    refine vcL_pure rfl rfl (Value.int .i64 26) (fun w=>by kernel_rfl) ?_
    refine vcL_nil ?_
    refine Vc.ret ?_
    refine outs_ret ?_
    refine done_mk (Value.int .i64 26) (res1 (resC_tmp (by kernel_rfl))) ?_
    exact ⟨26, rfl, h⟩
   ·have h := h.2 (of_decide_eq_false hb)
    refine Vc.skip ?_
    refine Vc.seq ?_
    obtain ⟨vw19, hvw19⟩ : ∃ y, y = vw14.drew := ⟨_, rfl⟩
    have h := h vw19 hvw19
    refine Vc.draw (by kernel_rfl) (fun i=>!(memN [7] i)) (.pur 0 (.pur 1 (.pur 2 (.val 3 (.val 4 (.val 5 (.eff 6 (.eff 7 .fin .stop) .stop))))))) (by kernel_rfl) ?_
    rw [← hvw19]
    clear hvw19
    refine vcS_pure rfl rfl rfl (Value.pointer c) (fun w=>by kernel_rfl) ?_
    obtain ⟨p20, hp21, h⟩ := h
    refine vcS_pure rfl rfl rfl (Value.pointer (some p20)) (fun w=>by exact exec_nilCheck rfl (by kernel_rfl) (hp21) w) ?_
    refine vcS_pure rfl rfl rfl (Value.pointer (some p20)) (fun w=>by kernel_rfl) ?_
    obtain ⟨t35, hc22, h⟩ := h
    refine vcS_val rfl rfl rfl (Value.map t35) (fun w' hx=>exec_load rfl (by kernel_rfl) (run_load1 (fun w=>by kernel_rfl) ((hc22).ext hx))) ?_
    obtain ⟨t36_name, zz3f, zz3g, zz3h, hc23, h⟩ := h
    refine vcS_val rfl rfl rfl (Value.agg #[(Value.string t36_name), (Value.int .i64 zz3f), (Value.int .i64 zz3g), (Value.int .i64 zz3h)]) (fun w' hx=>exec_load rfl (by kernel_rfl) (run_loadN (fun w=>by kernel_rfl) (fun w=>by kernel_rfl) ((hc23).ext hx))) ?_
    obtain ⟨zz51, zz54, zz55, zz56, zz1g, zz53, zz1h, hc24, h⟩ := h
    refine vcS_val rfl rfl rfl (Value.agg #[(Value.string zz51), (Value.int .i64 zz54), (Value.int .i64 zz55), (Value.int .i64 zz56), (Sl.v zz1g), (Sl.v zz53), (Sl.v zz1h)]) (fun w' hx=>exec_load rfl (by kernel_rfl) (run_loadN (fun w=>by kernel_rfl) (fun w=>by kernel_rfl) ((hc24).ext hx))) ?_
    refine vcS_eff rfl rfl (opVC_call rfl (by kernel_rfl) (callS.mono h fun v26 vw25 h=>?_)) vcS_stop
    obtain ⟨hx27, h⟩ := h
    obtain ⟨zz58, zz5b, zz5c, zz5d, zz57, zz5a, zz59, rfl, h⟩ := h
    refine ⟨fun _ => hx27, ?_⟩
    refine vcS_eff rfl rfl (opVC_semU rfl (c := Instr.mapUpdate 101 (Value.map t35) (Value.agg #[(Value.string t36_name), (Value.int .i64 zz3f), (Value.int .i64 zz3g), (Value.int .i64 zz3h)]) (Value.agg #[(Value.string zz58), (Value.int .i64 zz5b), (Value.int .i64 zz5c), (Value.int .i64 zz5d), (Sl.v zz57), (Sl.v zz5a), (Sl.v zz59)])) (by kernel_rfl) (semU.mono h fun vw28 h=>?_)) vcS_stop
    refine ⟨fun hb=>absurd hb (by decide), ?_⟩
    refine vcS_fin ?_
    refine Vc.seq ?_
    refine Vc.region ?_
    refine vcL_pure rfl rfl (Value.int .i64 0) (fun w=>by kernel_rfl) ?_
    refine vcL_nil ?_
    refine Vc.ret ?_
    refine outs_ret ?_
    refine done_mk (Value.int .i64 0) (res1 (resC_tmp (by kernel_rfl))) ?_
    exact ⟨0, rfl, h⟩
theorem catalog_Catalog_Put.go {c : Option Addr} {zz4 : ByteArray} {zz5 : Int} {zz6 : Int} {zz7 : Int} {zz8 : Sl} {zza : Sl} {zz9 : Sl} {w : World} {k : Value → World → Prop} (h : catalog_Catalog_Put c zz4 zz5 zz6 zz7 zz8 zza zz9 w fun r0 w'=>k (Value.int .i64 r0) w') : callS Tryz.prog 19 [(Value.pointer c), (Value.agg #[(Value.string zz4), (Value.int .i64 zz5), (Value.int .i64 zz6), (Value.int .i64 zz7), (Sl.v zz8), (Sl.v zza), (Sl.v zz9)])] w k := (catalog_Catalog_Put.sound c zz4 zz5 zz6 zz7 zz8 zza zz9 w _ h).mono (by rintro _ _ ⟨r0, rfl, h⟩; exact h)
def catalog_Catalog_Get (c : Option Addr) (name : ByteArray) (zz2b : Int) (zz2c : Int) (zz2d : Int) (w : World) (R : ByteArray → Int → Int → Int → Sl → Sl → Sl → Bool → World → Prop) : Prop :=
 newS w [(Value.int .i64 zz2b), (Value.int .i64 zz2c), (Value.int .i64 zz2d)] 30 fun a vw=>newS vw [(Value.string (ByteArray.mk #[])), (Value.int .i64 0), (Value.int .i64 0), (Value.int .i64 0), (Sl.v Sl.nil), (Sl.v Sl.nil), (Sl.v Sl.nil)] 48 fun a1 vw2=>bnd vw2.drew fun (vw3 : World)=>∃ (p : Addr), (c = some p) ∧ ∃ (t14 : Option Nat), (ldc vw3 p [(Value.map t14)]) ∧ ∃ (zz2v : Int) (zz2w : Int) (zz2x : Int), (ldc vw3 a [(Value.int .i64 zz2v), (Value.int .i64 zz2w), (Value.int .i64 zz2x)]) ∧ ∃ (zz13 : ByteArray) (zz15 : Int) (zz16 : Int) (zz17 : Int) (zzf : Sl) (zz14 : Sl) (zzg : Sl) (t18b : Bool), (stabS Tryz.prog (Instr.lookup 101 (Value.map t14) (Value.agg #[(Value.string name), (Value.int .i64 zz2v), (Value.int .i64 zz2w), (Value.int .i64 zz2x)]) true) vw3 (Value.tuple #[(Value.agg #[(Value.string zz13), (Value.int .i64 zz15), (Value.int .i64 zz16), (Value.int .i64 zz17), (Sl.v zzf), (Sl.v zz14), (Sl.v zzg)]), (Value.bool t18b)])) ∧ newS vw3 [(Value.string (ByteArray.mk #[])), (Value.int .i64 0), (Value.int .i64 0), (Value.int .i64 0), (Sl.v Sl.nil), (Sl.v Sl.nil), (Sl.v Sl.nil)] 48 fun a6 vw7=>stw vw7 a6 [(Value.string zz13), (Value.int .i64 zz15), (Value.int .i64 zz16), (Value.int .i64 zz17), (Sl.v zzf), (Sl.v zz14), (Sl.v zzg)] fun vw8=>∃ (zzq : ByteArray) (zzs : Int) (zzt : Int) (zzu : Int) (zzp : Sl) (zz1f : Sl) (zzr : Sl), (ldc vw8 a6 [(Value.string zzq), (Value.int .i64 zzs), (Value.int .i64 zzt), (Value.int .i64 zzu), (Sl.v zzp), (Sl.v zz1f), (Sl.v zzr)]) ∧ callS Tryz.prog 62 [(Value.agg #[(Value.string zzq), (Value.int .i64 zzs), (Value.int .i64 zzt), (Value.int .i64 zzu), (Sl.v zzp), (Sl.v zz1f), (Sl.v zzr)])] vw8 fun v11 vw10=>∃ (zzv : ByteArray) (zzx : Int) (zzy : Int) (zzz : Int) (zzd : Sl) (zzw : Sl) (zze : Sl), v11 = (Value.agg #[(Value.string zzv), (Value.int .i64 zzx), (Value.int .i64 zzy), (Value.int .i64 zzz), (Sl.v zzd), (Sl.v zzw), (Sl.v zze)]) ∧ stw vw10 a1 [(Value.string zzv), (Value.int .i64 zzx), (Value.int .i64 zzy), (Value.int .i64 zzz), (Sl.v zzd), (Sl.v zzw), (Sl.v zze)] fun vw12=>∃ (zz32 : ByteArray) (zz36 : Int) (zz37 : Int) (zz38 : Int) (zz2z : Sl) (zz35 : Sl) (zz33 : Sl), ldc vw12 a1 [(Value.string zz32), (Value.int .i64 zz36), (Value.int .i64 zz37), (Value.int .i64 zz38), (Sl.v zz2z), (Sl.v zz35), (Sl.v zz33)] ∧ R zz32 zz36 zz37 zz38 zz2z zz35 zz33 t18b vw12
set_option maxHeartbeats 8000000 in
theorem catalog_Catalog_Get.sound (c : Option Addr) (name : ByteArray) (zz2b : Int) (zz2c : Int) (zz2d : Int) (w : World) (R : ByteArray → Int → Int → Int → Sl → Sl → Sl → Bool → World → Prop) (h : catalog_Catalog_Get c name zz2b zz2c zz2d w R) : callS Tryz.prog 22 [(Value.pointer c), (Value.string name), (Value.agg #[(Value.int .i64 zz2b), (Value.int .i64 zz2c), (Value.int .i64 zz2d)])] w (fun v w'=>∃ (r0 : ByteArray) (r1 : Int) (r2 : Int) (r3 : Int) (r4 : Sl) (r5 : Sl) (r6 : Sl) (r7 : Bool), v = (Value.tuple #[(Value.agg #[(Value.string r0), (Value.int .i64 r1), (Value.int .i64 r2), (Value.int .i64 r3), (Sl.v r4), (Sl.v r5), (Sl.v r6)]), (Value.bool r7)]) ∧ R r0 r1 r2 r3 r4 r5 r6 r7 w') := by
 unfold catalog_Catalog_Get at h
 refine calls_of_vc 24 rfl Tryz.func22 rfl (by kernel_rfl) (by simp) ?_
 refine Vc.seq ?_
 refine Vc.region ?_
 refine vcL_eff rfl (opVC_new rfl (fun a=>Value.pointer (some a)) (by kernel_rfl) (newS.mono h fun a vw hx h=>?_))
 refine vcL_eff rfl (opVC_new rfl (fun a=>Value.pointer (some a)) (by kernel_rfl) (newS.mono h fun a1 vw2 hx h=>?_))
 refine vcL_pure rfl rfl (Value.bool false) (fun w=>by kernel_rfl) ?_
 refine vcL_nil ?_
 refine Vc.seq ?_
 obtain ⟨vw3, hvw3⟩ : ∃ y, y = vw2.drew := ⟨_, rfl⟩
 have h := h vw3 hvw3
 refine Vc.draw (by kernel_rfl) (fun i=>!(memN [12] i)) (.pur 0 (.pur 1 (.pur 2 (.val 3 (.pur 4 (.val 5 (.pur 6 (.val 7 (.pur 8 (.pur 9 (.pur 10 (.eff 11 (.eff 12 (.pur 13 .fin) .stop) .stop)))))))))))) (by kernel_rfl) ?_
 rw [← hvw3]
 clear hvw3
 refine vcS_pure rfl rfl rfl (Value.pointer c) (fun w=>by kernel_rfl) ?_
 obtain ⟨p, hp, h⟩ := h
 refine vcS_pure rfl rfl rfl (Value.pointer (some p)) (fun w=>by exact exec_nilCheck rfl (by kernel_rfl) (hp) w) ?_
 refine vcS_pure rfl rfl rfl (Value.pointer (some p)) (fun w=>by kernel_rfl) ?_
 obtain ⟨t14, hc, h⟩ := h
 refine vcS_val rfl rfl rfl (Value.map t14) (fun w' hx=>exec_load rfl (by kernel_rfl) (run_load1 (fun w=>by kernel_rfl) ((hc).ext hx))) ?_
 refine vcS_pure rfl rfl rfl (Value.string name) (fun w=>by kernel_rfl) ?_
 obtain ⟨zz2v, zz2w, zz2x, hc4, h⟩ := h
 refine vcS_val rfl rfl rfl (Value.agg #[(Value.int .i64 zz2v), (Value.int .i64 zz2w), (Value.int .i64 zz2x)]) (fun w' hx=>exec_load rfl (by kernel_rfl) (run_loadN (fun w=>by kernel_rfl) (fun w=>by kernel_rfl) ((hc4).ext hx))) ?_
 refine vcS_pure rfl rfl rfl (Value.agg #[(Value.string name), (Value.int .i64 zz2v), (Value.int .i64 zz2w), (Value.int .i64 zz2x)]) (fun w=>by kernel_rfl) ?_
 obtain ⟨zz13, zz15, zz16, zz17, zzf, zz14, zzg, t18b, hl, h⟩ := h
 refine vcS_val rfl rfl rfl (Value.tuple #[(Value.agg #[(Value.string zz13), (Value.int .i64 zz15), (Value.int .i64 zz16), (Value.int .i64 zz17), (Sl.v zzf), (Sl.v zz14), (Sl.v zzg)]), (Value.bool t18b)]) (fun w' hx=>exec_sem (c := Instr.lookup 101 (Value.map t14) (Value.agg #[(Value.string name), (Value.int .i64 zz2v), (Value.int .i64 zz2w), (Value.int .i64 zz2x)]) true) (by kernel_rfl) ((hl) _ hx)) ?_
 refine vcS_pure rfl rfl rfl (Value.tuple #[(Value.agg #[(Value.string zz13), (Value.int .i64 zz15), (Value.int .i64 zz16), (Value.int .i64 zz17), (Sl.v zzf), (Sl.v zz14), (Sl.v zzg)]), (Value.bool t18b)]) (fun w=>by kernel_rfl) ?_
 refine vcS_pure rfl rfl rfl (Value.agg #[(Value.string zz13), (Value.int .i64 zz15), (Value.int .i64 zz16), (Value.int .i64 zz17), (Sl.v zzf), (Sl.v zz14), (Sl.v zzg)]) (fun w=>by kernel_rfl) ?_
 refine vcS_pure rfl rfl rfl (Value.bool t18b) (fun w=>by kernel_rfl) ?_
 refine vcS_eff rfl rfl (opVC_new rfl (fun a=>Value.pointer (some a)) (by kernel_rfl) (newS.mono h fun a6 vw7 hx h=>?_)) vcS_stop
 refine ⟨fun _ => hx, ?_⟩
 refine vcS_eff rfl rfl (opVC_store rfl rfl (a := a6) (by kernel_rfl) (v := (Value.agg #[(Value.string zz13), (Value.int .i64 zz15), (Value.int .i64 zz16), (Value.int .i64 zz17), (Sl.v zzf), (Sl.v zz14), (Sl.v zzg)])) (by kernel_rfl) [(Value.string zz13), (Value.int .i64 zz15), (Value.int .i64 zz16), (Value.int .i64 zz17), (Sl.v zzf), (Sl.v zz14), (Sl.v zzg)] (by kernel_rfl) (fun w=>by kernel_rfl) (by kernel_rfl) (stw.mono h fun vw8 h=>?_)) vcS_stop
 refine ⟨fun hb=>absurd hb (by decide), ?_⟩
 refine vcS_pure rfl rfl rfl (Value.bool t18b) (fun w=>by kernel_rfl) ?_
 refine vcS_fin ?_
 refine Vc.seq ?_
 refine Vc.region ?_
 obtain ⟨zzq, zzs, zzt, zzu, zzp, zz1f, zzr, hc9, h⟩ := h
 refine vcL_val rfl rfl (Value.agg #[(Value.string zzq), (Value.int .i64 zzs), (Value.int .i64 zzt), (Value.int .i64 zzu), (Sl.v zzp), (Sl.v zz1f), (Sl.v zzr)]) (exec_load rfl (by kernel_rfl) (run_loadN (fun w=>by kernel_rfl) (fun w=>by kernel_rfl) ((hc9)))) ?_
 refine vcL_eff rfl (opVC_call rfl (by kernel_rfl) (callS.mono h fun v11 vw10 h=>?_))
 obtain ⟨zzv, zzx, zzy, zzz, zzd, zzw, zze, rfl, h⟩ := h
 refine vcL_pure rfl rfl (Value.bool t18b) (fun w=>by kernel_rfl) ?_
 refine vcL_eff rfl (opVC_store rfl rfl (a := a1) (by kernel_rfl) (v := (Value.agg #[(Value.string zzv), (Value.int .i64 zzx), (Value.int .i64 zzy), (Value.int .i64 zzz), (Sl.v zzd), (Sl.v zzw), (Sl.v zze)])) (by kernel_rfl) [(Value.string zzv), (Value.int .i64 zzx), (Value.int .i64 zzy), (Value.int .i64 zzz), (Sl.v zzd), (Sl.v zzw), (Sl.v zze)] (by kernel_rfl) (fun w=>by kernel_rfl) (by kernel_rfl) (stw.mono h fun vw12 h=>?_))
 refine vcL_pure rfl rfl (Value.bool t18b) (fun w=>by kernel_rfl) ?_
 refine vcL_nil ?_
 refine Vc.ret ?_
 refine outs_ret ?_
 obtain ⟨zz32, zz36, zz37, zz38, zz2z, zz35, zz33, hc13, h⟩ := h
 refine done_mk (Value.tuple #[(Value.agg #[(Value.string zz32), (Value.int .i64 zz36), (Value.int .i64 zz37), (Value.int .i64 zz38), (Sl.v zz2z), (Sl.v zz35), (Sl.v zz33)]), (Value.bool t18b)]) (res2 (resC_cell (by kernel_rfl) (run_loadN (fun w=>by kernel_rfl) (fun w=>by kernel_rfl) hc13)) (resC_tmp (by kernel_rfl))) ?_
 exact ⟨zz32, zz36, zz37, zz38, zz2z, zz35, zz33, t18b, rfl, h⟩
theorem catalog_Catalog_Get.go {c : Option Addr} {name : ByteArray} {zz2b : Int} {zz2c : Int} {zz2d : Int} {w : World} {k : Value → World → Prop} (h : catalog_Catalog_Get c name zz2b zz2c zz2d w fun r0 r1 r2 r3 r4 r5 r6 r7 w'=>k (Value.tuple #[(Value.agg #[(Value.string r0), (Value.int .i64 r1), (Value.int .i64 r2), (Value.int .i64 r3), (Sl.v r4), (Sl.v r5), (Sl.v r6)]), (Value.bool r7)]) w') : callS Tryz.prog 22 [(Value.pointer c), (Value.string name), (Value.agg #[(Value.int .i64 zz2b), (Value.int .i64 zz2c), (Value.int .i64 zz2d)])] w k := (catalog_Catalog_Get.sound c name zz2b zz2c zz2d w _ h).mono (by rintro _ _ ⟨r0, r1, r2, r3, r4, r5, r6, r7, rfl, h⟩; exact h)
def halyardref02_At (n : Int) (w : World) (R : Int → Int → Int → Bool → World → Prop) : Prop :=
 newS w [(Value.int .i64 0), (Value.int .i64 0), (Value.int .i64 0)] 30 fun a vw=>bnd (decide (n < 0)) fun (b : Bool)=>(((b || (decide (999999999 < n))) = true → stw vw a [(Value.int .i64 0), (Value.int .i64 0), (Value.int .i64 0)] fun vw1=>∃ (zz18 : Int) (zz19 : Int) (zz1a : Int), ldc vw1 a [(Value.int .i64 zz18), (Value.int .i64 zz19), (Value.int .i64 zz1a)] ∧ R zz18 zz19 zz1a false vw1) ∧ ((b || (decide (999999999 < n))) = false → stw vw a [(Value.int .i64 (wrapI (n.tdiv 1000000))), (Value.int .i64 (Int.tmod (wrapI (n.tdiv 1000)) 1000)), (Value.int .i64 (Int.tmod n 1000))] fun vw2=>∃ (zz30 : Int) (zz31 : Int) (zz34 : Int), ldc vw2 a [(Value.int .i64 zz30), (Value.int .i64 zz31), (Value.int .i64 zz34)] ∧ R zz30 zz31 zz34 true vw2))
set_option maxHeartbeats 8000000 in
theorem halyardref02_At.sound (n : Int) (w : World) (R : Int → Int → Int → Bool → World → Prop) (h : halyardref02_At n w R) : callS Tryz.prog 35 [(Value.int .i64 n)] w (fun v w'=>∃ (r0 : Int) (r1 : Int) (r2 : Int) (r3 : Bool), v = (Value.tuple #[(Value.agg #[(Value.int .i64 r0), (Value.int .i64 r1), (Value.int .i64 r2)]), (Value.bool r3)]) ∧ R r0 r1 r2 r3 w') := by
 unfold halyardref02_At at h
 refine calls_of_vc 19 rfl Tryz.func35 rfl (by kernel_rfl) (by simp) ?_
 refine Vc.seq ?_
 refine Vc.region ?_
 refine vcL_eff rfl (opVC_new rfl (fun a=>Value.pointer (some a)) (by kernel_rfl) (newS.mono h fun a vw hx h=>?_))
 refine vcL_pure rfl rfl (Value.bool false) (fun w=>by kernel_rfl) ?_
 refine vcL_nil ?_
 refine Vc.seq ?_
 refine Vc.seq ?_
 refine Vc.region ?_
 refine vcL_purs 2 [(5, (Value.bool (decide (n < 0)))), (4, (Value.int .i64 n))] (by kernel_rfl) ?_
 obtain ⟨b, hb⟩ : ∃ y, y = (decide (n < 0)) := ⟨_, rfl⟩
 have h := h b hb
 refine vcL_pure rfl rfl (Value.bool b) (fun w=>by rw [hb]; kernel_rfl) ?_
 refine vcL_guardP (!b) (wanted_g (d := 6) rfl (by kernel_rfl) b (by kernel_rfl) (!b) (eqF b)) rfl (Value.int .i64 n) (fun hg w=>by simp only [Bool.and_eq_true, Bool.not_eq_true'] at hg; obtain rfl := hg; kernel_rfl) ?_
 refine vcL_guardP (!b) (wanted_g (d := 6) rfl (by kernel_rfl) b (by kernel_rfl) (!b) (eqF b)) rfl (Value.bool (decide (999999999 < n))) (fun hg w=>by simp only [Bool.and_eq_true, Bool.not_eq_true'] at hg; obtain rfl := hg; kernel_rfl) ?_
 refine vcL_pure rfl rfl (Value.bool (b || (decide (999999999 < n)))) (fun w=>by cases b <;> kernel_rfl) ?_
 refine vcL_nil ?_
 refine Vc.cond (b || (decide (999999999 < n))) (by kernel_rfl) (fun hb=>?_) (fun hb=>?_)
 ·have h := h.1 (hb)
  refine Vc.seq ?_
  refine Vc.region ?_
  refine vcL_pure rfl rfl (Value.agg #[(Value.int .i64 0), (Value.int .i64 0), (Value.int .i64 0)]) (fun w=>by kernel_rfl) ?_
  refine vcL_eff rfl (opVC_store rfl rfl (a := a) (by kernel_rfl) (v := (Value.agg #[(Value.int .i64 0), (Value.int .i64 0), (Value.int .i64 0)])) (by kernel_rfl) [(Value.int .i64 0), (Value.int .i64 0), (Value.int .i64 0)] (by kernel_rfl) (fun w=>by kernel_rfl) (by kernel_rfl) (stw.mono h fun vw1 h=>?_))
  refine vcL_pure rfl rfl (Value.bool false) (fun w=>by kernel_rfl) ?_
  refine vcL_nil ?_
  refine Vc.ret ?_
  refine outs_ret ?_
  obtain ⟨zz18, zz19, zz1a, hc, h⟩ := h
  refine done_mk (Value.tuple #[(Value.agg #[(Value.int .i64 zz18), (Value.int .i64 zz19), (Value.int .i64 zz1a)]), (Value.bool false)]) (res2 (resC_cell (by kernel_rfl) (run_loadN (fun w=>by kernel_rfl) (fun w=>by kernel_rfl) hc)) (resC_tmp (by kernel_rfl))) ?_
  exact ⟨zz18, zz19, zz1a, false, rfl, h⟩
 ·have h := h.2 (hb)
  refine Vc.skip ?_
  refine Vc.seq ?_
  refine Vc.region ?_
  refine vcL_purs 8 [(18, (Value.agg #[(Value.int .i64 (wrapI (n.tdiv 1000000))), (Value.int .i64 (Int.tmod (wrapI (n.tdiv 1000)) 1000)), (Value.int .i64 (Int.tmod n 1000))])), (17, (Value.int .i64 (Int.tmod n 1000))), (16, (Value.int .i64 n)), (15, (Value.int .i64 (Int.tmod (wrapI (n.tdiv 1000)) 1000))), (14, (Value.int .i64 (wrapI (n.tdiv 1000)))), (13, (Value.int .i64 n)), (12, (Value.int .i64 (wrapI (n.tdiv 1000000)))), (11, (Value.int .i64 n))] (by kernel_rfl) ?_
  refine vcL_eff rfl (opVC_store rfl rfl (a := a) (by kernel_rfl) (v := (Value.agg #[(Value.int .i64 (wrapI (n.tdiv 1000000))), (Value.int .i64 (Int.tmod (wrapI (n.tdiv 1000)) 1000)), (Value.int .i64 (Int.tmod n 1000))])) (by kernel_rfl) [(Value.int .i64 (wrapI (n.tdiv 1000000))), (Value.int .i64 (Int.tmod (wrapI (n.tdiv 1000)) 1000)), (Value.int .i64 (Int.tmod n 1000))] (by kernel_rfl) (fun w=>by kernel_rfl) (by kernel_rfl) (stw.mono h fun vw2 h=>?_))
  refine vcL_pure rfl rfl (Value.bool true) (fun w=>by kernel_rfl) ?_
  refine vcL_nil ?_
  refine Vc.ret ?_
  refine outs_ret ?_
  obtain ⟨zz30, zz31, zz34, hc6, h⟩ := h
  refine done_mk (Value.tuple #[(Value.agg #[(Value.int .i64 zz30), (Value.int .i64 zz31), (Value.int .i64 zz34)]), (Value.bool true)]) (res2 (resC_cell (by kernel_rfl) (run_loadN (fun w=>by kernel_rfl) (fun w=>by kernel_rfl) hc6)) (resC_tmp (by kernel_rfl))) ?_
  exact ⟨zz30, zz31, zz34, true, rfl, h⟩
theorem halyardref02_At.go {n : Int} {w : World} {k : Value → World → Prop} (h : halyardref02_At n w fun r0 r1 r2 r3 w'=>k (Value.tuple #[(Value.agg #[(Value.int .i64 r0), (Value.int .i64 r1), (Value.int .i64 r2)]), (Value.bool r3)]) w') : callS Tryz.prog 35 [(Value.int .i64 n)] w k := (halyardref02_At.sound n w _ h).mono (by rintro _ _ ⟨r0, r1, r2, r3, rfl, h⟩; exact h)
def halyardlaw09_lists (a : Sl) (b : Sl) (w : World) (R : Bool → World → Prop) : Prop :=
 loop2 ((a.len : Int) == (b.len : Int)) 0 w fun same i vw nxt=>((i < (a.len : Int) → bnd vw.drew fun (vw1 : World)=>∃ (ad : Addr), grd same (a.a = some ad ∧ (0 : Int) ≤ i ∧ i < (a.len : Int)) ∧ ∃ (t25 : ByteArray), grd same (ldc vw1 (ad.add (i.toNat * 3)) [(Value.string t25)]) ∧ ∃ (ad2 : Addr), grd same (b.a = some ad2 ∧ (0 : Int) ≤ i ∧ i < (b.len : Int)) ∧ ∃ (t30 : ByteArray), grd same (ldc vw1 (ad2.add (i.toNat * 3)) [(Value.string t30)]) ∧ bnd (same && (bEq t25 t30)) fun (b5 : Bool)=>∃ (ad6 : Addr), grd b5 (a.a = some ad6 ∧ (0 : Int) ≤ i ∧ i < (a.len : Int)) ∧ ∃ (t38 : Int), grd b5 (ldc vw1 ((ad6.add (i.toNat * 3)).add 1) [(Value.int .i64 t38)]) ∧ ∃ (ad9 : Addr), grd b5 (b.a = some ad9 ∧ (0 : Int) ≤ i ∧ i < (b.len : Int)) ∧ ∃ (t43 : Int), grd b5 (ldc vw1 ((ad9.add (i.toNat * 3)).add 1) [(Value.int .i64 t43)]) ∧ bnd (b5 && (t38 == t43)) fun (b12 : Bool)=>∃ (ad13 : Addr), grd b12 (a.a = some ad13 ∧ (0 : Int) ≤ i ∧ i < (a.len : Int)) ∧ ∃ (t51 : Sl), grd b12 (ldc vw1 ((ad13.add (i.toNat * 3)).add 2) [(Sl.v t51)]) ∧ ∃ (ad16 : Addr), grd b12 (b.a = some ad16 ∧ (0 : Int) ≤ i ∧ i < (b.len : Int)) ∧ ∃ (t56 : Sl), grd b12 (ldc vw1 ((ad16.add (i.toNat * 3)).add 2) [(Sl.v t56)]) ∧ gCall b12 (fun (t57 : Bool) (vw19 : World)=>loop1 0 vw19 fun vk vw20 nxt21=>∃ (ad22 : Addr), (a.a = some ad22 ∧ (0 : Int) ≤ i ∧ i < (a.len : Int)) ∧ ∃ (t64 : Sl), (ldc vw20 ((ad22.add (i.toNat * 3)).add 2) [(Sl.v t64)]) ∧ ((vk < (t64.len : Int) → ∃ (ad25 : Addr), (a.a = some ad25 ∧ (0 : Int) ≤ i ∧ i < (a.len : Int)) ∧ ∃ (t73 : Sl), (ldc vw20 ((ad25.add (i.toNat * 3)).add 2) [(Sl.v t73)]) ∧ ∃ (ad28 : Addr), (t73.a = some ad28 ∧ (0 : Int) ≤ vk ∧ vk < (t73.len : Int)) ∧ stw vw20 (ad28.add (vk.toNat * 6)) [(Value.int .i64 (-1)), (Value.int .i64 0), (Value.int .i64 0), (Value.int .i64 0), (Value.int .i64 0), (Value.int .i64 0)] fun vw30=>nxt21 (wrapI (vk + 1)) vw30) ∧ (¬ (vk < (t64.len : Int)) → ∃ (ad31 : Addr), (a.a = some ad31 ∧ (0 : Int) ≤ i ∧ i < (a.len : Int)) ∧ stw vw20 (ad31.add (i.toNat * 3)) [(Value.string (ByteArray.mk #[63]))] fun vw33=>nxt (b12 && t57) (wrapI (i + 1)) vw33))) (fun q=>callS Tryz.prog 45 [(Sl.v t51), (Sl.v t56)] vw1 fun v vw19=>∃ (t57 : Bool), v = (Value.bool t57) ∧ q t57 vw19) (fun q=>q false vw1)) ∧ (¬ (i < (a.len : Int)) → R same vw))
set_option maxHeartbeats 8000000 in
theorem halyardlaw09_lists.sound (a : Sl) (b : Sl) (w : World) (R : Bool → World → Prop) (h : halyardlaw09_lists a b w R) : callS Tryz.prog 36 [(Sl.v a), (Sl.v b)] w (fun v w'=>∃ (r0 : Bool), v = (Value.bool r0) ∧ R r0 w') := by
 unfold halyardlaw09_lists at h
 refine calls_of_vc 83 rfl Tryz.func36 rfl (by kernel_rfl) (by simp) ?_
 refine Vc.seq ?_
 refine Vc.region ?_
 refine vcL_pure rfl rfl (Value.bool false) (fun w=>by kernel_rfl) ?_
 refine vcL_nil ?_
 refine Vc.seq ?_
 refine Vc.region ?_
 refine vcL_purs 6 [(5, (Value.bool ((a.len : Int) == (b.len : Int)))), (12, (Value.bool ((a.len : Int) == (b.len : Int)))), (11, (Value.int .i64 (b.len : Int))), (10, (Sl.v b)), (9, (Value.int .i64 (a.len : Int))), (8, (Sl.v a))] (by kernel_rfl) ?_
 refine vcL_nil ?_
 refine Vc.seq ?_
 refine Vc.seq ?_
 refine Vc.region ?_
 refine vcL_pure rfl rfl (Value.int .i64 0) (fun w=>by kernel_rfl) ?_
 refine vcL_nil ?_
 refine Vc.block ?_
 obtain ⟨vI34, mu35, h, hr36⟩ := h
 refine Vc.loopJ (σ := Bool × Int) [5, 6] [7, 13, 14, 15, 16, 17, 18, 19, 20, 21, 22, 23, 24, 25, 26, 27, 28, 29, 30, 31, 32, 33, 34, 35, 36, 37, 38, 39, 40, 41, 42, 43, 44, 45, 46, 47, 48, 49, 50, 51, 52, 53, 54, 55, 56, 57, 58, 59, 60, 61, 62, 63, 64, 65, 66, 67, 68, 69, 70, 71, 72, 73, 74, 75, 76, 77, 78, 79, 80, 81] (fun s=>[(5, (Value.bool s.1)), (6, (Value.int .i64 s.2))]) (fun s w=>vI34 s.1 s.2 w) (fun s w=>mu35 s.1 s.2 w) (((a.len : Int) == (b.len : Int)), 0) h (fun _ => rfl) (by kernel_rfl) ?_
 rintro ⟨same, i⟩ vw j h
 have h := hr36 same i vw h
 refine Vc.seq ?_
 refine Vc.seq ?_
 refine Vc.region ?_
 refine vcL_purs 4 [(16, (Value.bool (decide (i < (a.len : Int))))), (15, (Value.int .i64 (a.len : Int))), (14, (Sl.v a)), (13, (Value.int .i64 i))] (by kernel_rfl) ?_
 refine vcL_nil ?_
 refine Vc.cond (decide (i < (a.len : Int))) (by kernel_rfl) (fun hb=>?_) (fun hb=>?_)
 ·have h := h.1 (of_decide_eq_true hb)
  refine Vc.skip ?_
  refine Vc.seq ?_
  refine Vc.block ?_
  refine Vc.seq ?_
  obtain ⟨vw1, hvw1⟩ : ∃ y, y = vw.drew := ⟨_, rfl⟩
  have h := h vw1 hvw1
  refine Vc.draw (by kernel_rfl) (fun i=>!(memN [38] i)) (.pur 0 (.pur 1 (.pur 2 (.pur 3 (.pur 4 (.pur 5 (.val 6 (.pur 7 (.pur 8 (.pur 9 (.pur 10 (.val 11 (.pur 12 (.pur 13 (.pur 14 (.pur 15 (.pur 16 (.pur 17 (.pur 18 (.val 19 (.pur 20 (.pur 21 (.pur 22 (.pur 23 (.val 24 (.pur 25 (.pur 26 (.pur 27 (.pur 28 (.pur 29 (.pur 30 (.pur 31 (.val 32 (.pur 33 (.pur 34 (.pur 35 (.pur 36 (.val 37 (.eff 38 (.pur 39 (.pur 40 .fin)) .stop))))))))))))))))))))))))))))))))))))))) (by kernel_rfl) ?_
  rw [← hvw1]
  clear hvw1
  refine vcS_pure rfl rfl rfl (Value.bool same) (fun w=>by kernel_rfl) ?_
  refine vcS_pure rfl rfl rfl (Value.bool same) (fun w=>by kernel_rfl) ?_
  refine vcS_guard rfl same (wanted_g (d := 20) rfl (by kernel_rfl) same (by kernel_rfl) same (eqT same)) rfl (Sl.v a) (fun hg w=>by subst hg; kernel_rfl) ?_
  refine vcS_guard rfl same (wanted_g (d := 20) rfl (by kernel_rfl) same (by kernel_rfl) same (eqT same)) rfl (Value.int .i64 i) (fun hg w=>by subst hg; kernel_rfl) ?_
  obtain ⟨ad, hi, h⟩ := h
  refine vcS_guard rfl same (wanted_g (d := 20) rfl (by kernel_rfl) same (by kernel_rfl) same (eqT same)) rfl (Value.pointer (some (ad.add (i.toNat * 3)))) (fun hg w=>by subst hg; exact exec_indexAt (s := a) (el := 88) rfl (by kernel_rfl) (by kernel_rfl) (by kernel_rfl) (fun w=>by kernel_rfl) (hi rfl).1 (hi rfl).2.1 (hi rfl).2.2 w) ?_
  refine vcS_guard rfl same (wanted_g (d := 20) rfl (by kernel_rfl) same (by kernel_rfl) same (eqT same)) rfl (Value.pointer (some (ad.add (i.toNat * 3)))) (fun hg w=>by subst hg; kernel_rfl) ?_
  obtain ⟨t25, hc, h⟩ := h
  refine vcS_valG rfl same (wanted_g (d := 20) rfl (by kernel_rfl) same (by kernel_rfl) same (eqT same)) rfl (Value.string t25) (fun hg w' hx=>by subst hg; exact exec_load rfl (by kernel_rfl) (run_load1 (fun w=>by kernel_rfl) ((hc rfl).ext hx))) ?_
  refine vcS_guard rfl same (wanted_g (d := 20) rfl (by kernel_rfl) same (by kernel_rfl) same (eqT same)) rfl (Sl.v b) (fun hg w=>by subst hg; kernel_rfl) ?_
  refine vcS_guard rfl same (wanted_g (d := 20) rfl (by kernel_rfl) same (by kernel_rfl) same (eqT same)) rfl (Value.int .i64 i) (fun hg w=>by subst hg; kernel_rfl) ?_
  obtain ⟨ad2, hi3, h⟩ := h
  refine vcS_guard rfl same (wanted_g (d := 20) rfl (by kernel_rfl) same (by kernel_rfl) same (eqT same)) rfl (Value.pointer (some (ad2.add (i.toNat * 3)))) (fun hg w=>by subst hg; exact exec_indexAt (s := b) (el := 88) rfl (by kernel_rfl) (by kernel_rfl) (by kernel_rfl) (fun w=>by kernel_rfl) (hi3 rfl).1 (hi3 rfl).2.1 (hi3 rfl).2.2 w) ?_
  refine vcS_guard rfl same (wanted_g (d := 20) rfl (by kernel_rfl) same (by kernel_rfl) same (eqT same)) rfl (Value.pointer (some (ad2.add (i.toNat * 3)))) (fun hg w=>by subst hg; kernel_rfl) ?_
  obtain ⟨t30, hc4, h⟩ := h
  refine vcS_valG rfl same (wanted_g (d := 20) rfl (by kernel_rfl) same (by kernel_rfl) same (eqT same)) rfl (Value.string t30) (fun hg w' hx=>by subst hg; exact exec_load rfl (by kernel_rfl) (run_load1 (fun w=>by kernel_rfl) ((hc4 rfl).ext hx))) ?_
  refine vcS_guard rfl same (wanted_g (d := 20) rfl (by kernel_rfl) same (by kernel_rfl) same (eqT same)) rfl (Value.bool (bEq t25 t30)) (fun hg w=>by subst hg; kernel_rfl) ?_
  refine vcS_pure rfl rfl rfl (Value.bool (same && (bEq t25 t30))) (fun w=>by cases same <;> kernel_rfl) ?_
  obtain ⟨b5, hb5⟩ : ∃ y, y = (same && (bEq t25 t30)) := ⟨_, rfl⟩
  have h := h b5 hb5
  refine vcS_pure rfl rfl rfl (Value.bool b5) (fun w=>by rw [hb5]; kernel_rfl) ?_
  refine vcS_guard rfl b5 (wanted_g (d := 33) rfl (by kernel_rfl) b5 (by kernel_rfl) b5 (eqT b5)) rfl (Sl.v a) (fun hg w=>by subst hg; kernel_rfl) ?_
  refine vcS_guard rfl b5 (wanted_g (d := 33) rfl (by kernel_rfl) b5 (by kernel_rfl) b5 (eqT b5)) rfl (Value.int .i64 i) (fun hg w=>by subst hg; kernel_rfl) ?_
  obtain ⟨ad6, hi7, h⟩ := h
  refine vcS_guard rfl b5 (wanted_g (d := 33) rfl (by kernel_rfl) b5 (by kernel_rfl) b5 (eqT b5)) rfl (Value.pointer (some (ad6.add (i.toNat * 3)))) (fun hg w=>by subst hg; exact exec_indexAt (s := a) (el := 88) rfl (by kernel_rfl) (by kernel_rfl) (by kernel_rfl) (fun w=>by kernel_rfl) (hi7 rfl).1 (hi7 rfl).2.1 (hi7 rfl).2.2 w) ?_
  refine vcS_guard rfl b5 (wanted_g (d := 33) rfl (by kernel_rfl) b5 (by kernel_rfl) b5 (eqT b5)) rfl (Value.pointer (some ((ad6.add (i.toNat * 3)).add 1))) (fun hg w=>by subst hg; kernel_rfl) ?_
  obtain ⟨t38, hc8, h⟩ := h
  refine vcS_valG rfl b5 (wanted_g (d := 33) rfl (by kernel_rfl) b5 (by kernel_rfl) b5 (eqT b5)) rfl (Value.int .i64 t38) (fun hg w' hx=>by subst hg; exact exec_load rfl (by kernel_rfl) (run_load1 (fun w=>by kernel_rfl) ((hc8 rfl).ext hx))) ?_
  refine vcS_guard rfl b5 (wanted_g (d := 33) rfl (by kernel_rfl) b5 (by kernel_rfl) b5 (eqT b5)) rfl (Sl.v b) (fun hg w=>by subst hg; kernel_rfl) ?_
  refine vcS_guard rfl b5 (wanted_g (d := 33) rfl (by kernel_rfl) b5 (by kernel_rfl) b5 (eqT b5)) rfl (Value.int .i64 i) (fun hg w=>by subst hg; kernel_rfl) ?_
  obtain ⟨ad9, hi10, h⟩ := h
  refine vcS_guard rfl b5 (wanted_g (d := 33) rfl (by kernel_rfl) b5 (by kernel_rfl) b5 (eqT b5)) rfl (Value.pointer (some (ad9.add (i.toNat * 3)))) (fun hg w=>by subst hg; exact exec_indexAt (s := b) (el := 88) rfl (by kernel_rfl) (by kernel_rfl) (by kernel_rfl) (fun w=>by kernel_rfl) (hi10 rfl).1 (hi10 rfl).2.1 (hi10 rfl).2.2 w) ?_
  refine vcS_guard rfl b5 (wanted_g (d := 33) rfl (by kernel_rfl) b5 (by kernel_rfl) b5 (eqT b5)) rfl (Value.pointer (some ((ad9.add (i.toNat * 3)).add 1))) (fun hg w=>by subst hg; kernel_rfl) ?_
  obtain ⟨t43, hc11, h⟩ := h
  refine vcS_valG rfl b5 (wanted_g (d := 33) rfl (by kernel_rfl) b5 (by kernel_rfl) b5 (eqT b5)) rfl (Value.int .i64 t43) (fun hg w' hx=>by subst hg; exact exec_load rfl (by kernel_rfl) (run_load1 (fun w=>by kernel_rfl) ((hc11 rfl).ext hx))) ?_
  refine vcS_guard rfl b5 (wanted_g (d := 33) rfl (by kernel_rfl) b5 (by kernel_rfl) b5 (eqT b5)) rfl (Value.bool (t38 == t43)) (fun hg w=>by subst hg; kernel_rfl) ?_
  refine vcS_pure rfl rfl rfl (Value.bool (b5 && (t38 == t43))) (fun w=>by cases b5 <;> kernel_rfl) ?_
  obtain ⟨b12, hb12⟩ : ∃ y, y = (b5 && (t38 == t43)) := ⟨_, rfl⟩
  have h := h b12 hb12
  refine vcS_pure rfl rfl rfl (Value.bool b12) (fun w=>by rw [hb12]; kernel_rfl) ?_
  refine vcS_guard rfl b12 (wanted_g (d := 46) rfl (by kernel_rfl) b12 (by kernel_rfl) b12 (eqT b12)) rfl (Sl.v a) (fun hg w=>by subst hg; kernel_rfl) ?_
  refine vcS_guard rfl b12 (wanted_g (d := 46) rfl (by kernel_rfl) b12 (by kernel_rfl) b12 (eqT b12)) rfl (Value.int .i64 i) (fun hg w=>by subst hg; kernel_rfl) ?_
  obtain ⟨ad13, hi14, h⟩ := h
  refine vcS_guard rfl b12 (wanted_g (d := 46) rfl (by kernel_rfl) b12 (by kernel_rfl) b12 (eqT b12)) rfl (Value.pointer (some (ad13.add (i.toNat * 3)))) (fun hg w=>by subst hg; exact exec_indexAt (s := a) (el := 88) rfl (by kernel_rfl) (by kernel_rfl) (by kernel_rfl) (fun w=>by kernel_rfl) (hi14 rfl).1 (hi14 rfl).2.1 (hi14 rfl).2.2 w) ?_
  refine vcS_guard rfl b12 (wanted_g (d := 46) rfl (by kernel_rfl) b12 (by kernel_rfl) b12 (eqT b12)) rfl (Value.pointer (some ((ad13.add (i.toNat * 3)).add 2))) (fun hg w=>by subst hg; kernel_rfl) ?_
  obtain ⟨t51, hc15, h⟩ := h
  refine vcS_valG rfl b12 (wanted_g (d := 46) rfl (by kernel_rfl) b12 (by kernel_rfl) b12 (eqT b12)) rfl (Sl.v t51) (fun hg w' hx=>by subst hg; exact exec_load rfl (by kernel_rfl) (run_load1 (fun w=>by kernel_rfl) ((hc15 rfl).ext hx))) ?_
  refine vcS_guard rfl b12 (wanted_g (d := 46) rfl (by kernel_rfl) b12 (by kernel_rfl) b12 (eqT b12)) rfl (Sl.v b) (fun hg w=>by subst hg; kernel_rfl) ?_
  refine vcS_guard rfl b12 (wanted_g (d := 46) rfl (by kernel_rfl) b12 (by kernel_rfl) b12 (eqT b12)) rfl (Value.int .i64 i) (fun hg w=>by subst hg; kernel_rfl) ?_
  obtain ⟨ad16, hi17, h⟩ := h
  refine vcS_guard rfl b12 (wanted_g (d := 46) rfl (by kernel_rfl) b12 (by kernel_rfl) b12 (eqT b12)) rfl (Value.pointer (some (ad16.add (i.toNat * 3)))) (fun hg w=>by subst hg; exact exec_indexAt (s := b) (el := 88) rfl (by kernel_rfl) (by kernel_rfl) (by kernel_rfl) (fun w=>by kernel_rfl) (hi17 rfl).1 (hi17 rfl).2.1 (hi17 rfl).2.2 w) ?_
  refine vcS_guard rfl b12 (wanted_g (d := 46) rfl (by kernel_rfl) b12 (by kernel_rfl) b12 (eqT b12)) rfl (Value.pointer (some ((ad16.add (i.toNat * 3)).add 2))) (fun hg w=>by subst hg; kernel_rfl) ?_
  obtain ⟨t56, hc18, h⟩ := h
  refine vcS_valG rfl b12 (wanted_g (d := 46) rfl (by kernel_rfl) b12 (by kernel_rfl) b12 (eqT b12)) rfl (Sl.v t56) (fun hg w' hx=>by subst hg; exact exec_load rfl (by kernel_rfl) (run_load1 (fun w=>by kernel_rfl) ((hc18 rfl).ext hx))) ?_
  obtain ⟨vJ, hJ, h⟩ := gCall_elim h
  refine vcS_effJ (σ := Bool) rfl b12 (wanted_g (d := 46) rfl (by kernel_rfl) b12 (by kernel_rfl) b12 (eqT b12)) rfl (fun s w=>vJ s w) (fun s=>(Value.bool s)) ?_ (fun hg=>opVC_call rfl (by subst hg; kernel_rfl) (callS.mono (h.1 hg) fun v vw19 hq=>?_)) (fun hg=>⟨false, h.2 hg⟩) vcS_stop
  ·intro t57 vw19 h
   subst hJ
   refine vcS_pure rfl rfl rfl (Value.bool (b12 && t57)) (fun w=>by cases b12 <;> kernel_rfl) ?_
   refine vcS_pure rfl rfl rfl (Value.bool (b12 && t57)) (fun w=>by kernel_rfl) ?_
   refine vcS_fin ?_
   refine Vc.seq ?_
   refine Vc.seq ?_
   refine Vc.region ?_
   refine vcL_pure rfl rfl (Value.int .i64 0) (fun w=>by kernel_rfl) ?_
   refine vcL_nil ?_
   refine Vc.block ?_
   obtain ⟨vI, mu, h, hr⟩ := h
   refine Vc.loopJ (σ := Int) [7] [59, 60, 61, 62, 63, 64, 65, 66, 67, 68, 69, 70, 71, 72, 73, 74, 75, 76, 77] (fun s=>[(7, (Value.int .i64 s))]) (fun s w=>vI s w) (fun s w=>mu s w) 0 h (fun _ => rfl) (by kernel_rfl) ?_
   intro vk vw20 j h
   have h := hr vk vw20 h
   refine Vc.seq ?_
   refine Vc.seq ?_
   refine Vc.region ?_
   refine vcL_purs 3 [(61, (Value.int .i64 i)), (60, (Sl.v a)), (59, (Value.int .i64 vk))] (by kernel_rfl) ?_
   obtain ⟨ad22, hi23, h⟩ := h
   refine vcL_pure rfl rfl (Value.pointer (some (ad22.add (i.toNat * 3)))) (fun w=>by exact exec_indexAt (s := a) (el := 88) rfl (by kernel_rfl) (by kernel_rfl) (by kernel_rfl) (fun w=>by kernel_rfl) (hi23).1 (hi23).2.1 (hi23).2.2 w) ?_
   refine vcL_pure rfl rfl (Value.pointer (some ((ad22.add (i.toNat * 3)).add 2))) (fun w=>by kernel_rfl) ?_
   obtain ⟨t64, hc24, h⟩ := h
   refine vcL_val rfl rfl (Sl.v t64) (exec_load rfl (by kernel_rfl) (run_load1 (fun w=>by kernel_rfl) ((hc24)))) ?_
   refine vcL_purs 2 [(66, (Value.bool (decide (vk < (t64.len : Int))))), (65, (Value.int .i64 (t64.len : Int)))] (by kernel_rfl) ?_
   refine vcL_nil ?_
   refine Vc.cond (decide (vk < (t64.len : Int))) (by kernel_rfl) (fun hb=>?_) (fun hb=>?_)
   ·have h := h.1 (of_decide_eq_true hb)
    refine Vc.skip ?_
    refine Vc.seq ?_
    refine Vc.block ?_
    refine Vc.region ?_
    refine vcL_purs 2 [(70, (Value.int .i64 i)), (69, (Sl.v a))] (by kernel_rfl) ?_
    obtain ⟨ad25, hi26, h⟩ := h
    refine vcL_pure rfl rfl (Value.pointer (some (ad25.add (i.toNat * 3)))) (fun w=>by exact exec_indexAt (s := a) (el := 88) rfl (by kernel_rfl) (by kernel_rfl) (by kernel_rfl) (fun w=>by kernel_rfl) (hi26).1 (hi26).2.1 (hi26).2.2 w) ?_
    refine vcL_pure rfl rfl (Value.pointer (some ((ad25.add (i.toNat * 3)).add 2))) (fun w=>by kernel_rfl) ?_
    obtain ⟨t73, hc27, h⟩ := h
    refine vcL_val rfl rfl (Sl.v t73) (exec_load rfl (by kernel_rfl) (run_load1 (fun w=>by kernel_rfl) ((hc27)))) ?_
    refine vcL_purs 3 [(76, (Value.agg #[(Value.int .i64 (-1)), (Value.int .i64 0), (Value.int .i64 0), (Value.int .i64 0), (Value.int .i64 0), (Value.int .i64 0)])), (75, (Value.agg #[(Value.int .i64 (-1)), (Value.int .i64 0), (Value.int .i64 0)])), (74, (Value.int .i64 vk))] (by kernel_rfl) ?_
    obtain ⟨ad28, hi29, h⟩ := h
    refine vcL_pure rfl rfl (Value.pointer (some (ad28.add (vk.toNat * 6)))) (fun w=>by exact exec_indexAt (s := t73) (el := 83) rfl (by kernel_rfl) (by kernel_rfl) (by kernel_rfl) (fun w=>by kernel_rfl) (hi29).1 (hi29).2.1 (hi29).2.2 w) ?_
    refine vcL_eff rfl (opVC_store rfl rfl (a := (ad28.add (vk.toNat * 6))) (by kernel_rfl) (v := (Value.agg #[(Value.int .i64 (-1)), (Value.int .i64 0), (Value.int .i64 0), (Value.int .i64 0), (Value.int .i64 0), (Value.int .i64 0)])) (by kernel_rfl) [(Value.int .i64 (-1)), (Value.int .i64 0), (Value.int .i64 0), (Value.int .i64 0), (Value.int .i64 0), (Value.int .i64 0)] (by kernel_rfl) (fun w=>by kernel_rfl) (by kernel_rfl) (stw.mono h fun vw30 h=>?_))
    refine vcL_nil ?_
    refine Vc.region ?_
    refine vcL_purs 3 [(7, (Value.int .i64 (wrapI (vk + 1)))), (68, (Value.int .i64 (wrapI (vk + 1)))), (67, (Value.int .i64 vk))] (by kernel_rfl) ?_
    refine vcL_nil ?_
    exact ⟨(wrapI (vk + 1)), 40, ⟨rfl, by kernel_rfl, by kernel_rfl, by kernel_rfl⟩, h⟩
   ·have h := h.2 (of_decide_eq_false hb)
    refine Vc.exit ?_
    refine outOf_hit ?_
    refine Vc.region ?_
    refine vcL_purs 2 [(79, (Value.int .i64 i)), (78, (Sl.v a))] (by kernel_rfl) ?_
    obtain ⟨ad31, hi32, h⟩ := h
    refine vcL_pure rfl rfl (Value.pointer (some (ad31.add (i.toNat * 3)))) (fun w=>by exact exec_indexAt (s := a) (el := 88) rfl (by kernel_rfl) (by kernel_rfl) (by kernel_rfl) (fun w=>by kernel_rfl) (hi32).1 (hi32).2.1 (hi32).2.2 w) ?_
    refine vcL_pure rfl rfl (Value.pointer (some (ad31.add (i.toNat * 3)))) (fun w=>by kernel_rfl) ?_
    refine vcL_eff rfl (opVC_store rfl rfl (a := (ad31.add (i.toNat * 3))) (by kernel_rfl) (v := (Value.string (ByteArray.mk #[63]))) (by kernel_rfl) [(Value.string (ByteArray.mk #[63]))] (by kernel_rfl) (fun w=>by kernel_rfl) (by kernel_rfl) (stw.mono h fun vw33 h=>?_))
    refine vcL_nil ?_
    refine Vc.region ?_
    refine vcL_purs 3 [(6, (Value.int .i64 (wrapI (i + 1)))), (18, (Value.int .i64 (wrapI (i + 1)))), (17, (Value.int .i64 i))] (by kernel_rfl) ?_
    refine vcL_nil ?_
    exact ⟨((b12 && t57), (wrapI (i + 1))), 153, ⟨rfl, by kernel_rfl, by kernel_rfl, by kernel_rfl⟩, h⟩
  ·obtain ⟨t57, rfl, hq⟩ := hq
   exact ⟨fun hb=>absurd hb (by decide), t57, rfl, hq⟩
 ·have h := h.2 (of_decide_eq_false hb)
  refine Vc.exit ?_
  refine outOf_hit ?_
  refine Vc.seq ?_
  refine Vc.region ?_
  refine vcL_purs 2 [(4, (Value.bool same)), (82, (Value.bool same))] (by kernel_rfl) ?_
  refine vcL_nil ?_
  refine Vc.ret ?_
  refine outs_ret ?_
  refine done_mk (Value.bool same) (res1 (resC_tmp (by kernel_rfl))) ?_
  exact ⟨same, rfl, h⟩
theorem halyardlaw09_lists.go {a : Sl} {b : Sl} {w : World} {k : Value → World → Prop} (h : halyardlaw09_lists a b w fun r0 w'=>k (Value.bool r0) w') : callS Tryz.prog 36 [(Sl.v a), (Sl.v b)] w k := (halyardlaw09_lists.sound a b w _ h).mono (by rintro _ _ ⟨r0, rfl, h⟩; exact h)
def wants_Of (zz4 : ByteArray) (zz5 : Int) (zz6 : Int) (zz7 : Int) (zz8 : Sl) (zza : Sl) (zz9 : Sl) (zz0 : Sl) (zz1 : Sl) (zz2 : Sl) (zz3 : Sl) (w : World) (R : Sl → World → Prop) : Prop :=
 newS w [(Value.string zz4), (Value.int .i64 zz5), (Value.int .i64 zz6), (Value.int .i64 zz7), (Sl.v zz8), (Sl.v zza), (Sl.v zz9)] 48 fun a vw=>newS vw [(Sl.v zz0), (Sl.v zz1), (Sl.v zz2), (Sl.v zz3)] 25 fun a1 vw2=>∃ (zz5u : Sl) (zz5v : Sl) (zz5w : Sl) (zz5x : Sl), (ldc vw2 a1 [(Sl.v zz5u), (Sl.v zz5v), (Sl.v zz5w), (Sl.v zz5x)]) ∧ ∃ (t7 : Sl), (ldc vw2 (a.add 4) [(Sl.v t7)]) ∧ newS vw2 [(Sl.v t7)] 23 fun a4 vw5=>∃ (t10 : Sl), (ldc vw5 (a.add 6) [(Sl.v t10)]) ∧ callS Tryz.prog 87 [(Value.agg #[(Sl.v zz5u), (Sl.v zz5v), (Sl.v zz5w), (Sl.v zz5x)]), (Sl.v (Sl.mk (some a4) 1 1)), (Sl.v t10)] vw5 fun v vw7=>∃ (t11 : Sl), v = (Sl.v t11) ∧ R t11 vw7
set_option maxHeartbeats 8000000 in
theorem wants_Of.sound (zz4 : ByteArray) (zz5 : Int) (zz6 : Int) (zz7 : Int) (zz8 : Sl) (zza : Sl) (zz9 : Sl) (zz0 : Sl) (zz1 : Sl) (zz2 : Sl) (zz3 : Sl) (w : World) (R : Sl → World → Prop) (h : wants_Of zz4 zz5 zz6 zz7 zz8 zza zz9 zz0 zz1 zz2 zz3 w R) : callS Tryz.prog 37 [(Value.agg #[(Value.string zz4), (Value.int .i64 zz5), (Value.int .i64 zz6), (Value.int .i64 zz7), (Sl.v zz8), (Sl.v zza), (Sl.v zz9)]), (Value.agg #[(Sl.v zz0), (Sl.v zz1), (Sl.v zz2), (Sl.v zz3)])] w (fun v w'=>∃ (r0 : Sl), v = (Sl.v r0) ∧ R r0 w') := by
 unfold wants_Of at h
 refine calls_of_vc 12 rfl Tryz.func37 rfl (by kernel_rfl) (by simp) ?_
 refine Vc.seq ?_
 refine Vc.region ?_
 refine vcL_eff rfl (opVC_new rfl (fun a=>Value.pointer (some a)) (by kernel_rfl) (newS.mono h fun a vw hx h=>?_))
 refine vcL_eff rfl (opVC_new rfl (fun a=>Value.pointer (some a)) (by kernel_rfl) (newS.mono h fun a1 vw2 hx h=>?_))
 refine vcL_pure rfl rfl (Sl.v Sl.nil) (fun w=>by kernel_rfl) ?_
 refine vcL_nil ?_
 refine Vc.seq ?_
 refine Vc.region ?_
 obtain ⟨zz5u, zz5v, zz5w, zz5x, hc, h⟩ := h
 refine vcL_val rfl rfl (Value.agg #[(Sl.v zz5u), (Sl.v zz5v), (Sl.v zz5w), (Sl.v zz5x)]) (exec_load rfl (by kernel_rfl) (run_loadN (fun w=>by kernel_rfl) (fun w=>by kernel_rfl) ((hc)))) ?_
 refine vcL_pure rfl rfl (Value.pointer (some (a.add 4))) (fun w=>by kernel_rfl) ?_
 obtain ⟨t7, hc3, h⟩ := h
 refine vcL_val rfl rfl (Sl.v t7) (exec_load rfl (by kernel_rfl) (run_load1 (fun w=>by kernel_rfl) ((hc3)))) ?_
 refine vcL_eff rfl (opVC_new rfl (fun a=>Value.slice (some a) 1 1) (by kernel_rfl) (newS.mono h fun a4 vw5 hx h=>?_))
 refine vcL_pure rfl rfl (Value.pointer (some (a.add 6))) (fun w=>by kernel_rfl) ?_
 obtain ⟨t10, hc6, h⟩ := h
 refine vcL_val rfl rfl (Sl.v t10) (exec_load rfl (by kernel_rfl) (run_load1 (fun w=>by kernel_rfl) ((hc6)))) ?_
 refine vcL_eff rfl (opVC_call rfl (by kernel_rfl) (callS.mono h fun v vw7 h=>?_))
 obtain ⟨t11, rfl, h⟩ := h
 refine vcL_pure rfl rfl (Sl.v t11) (fun w=>by kernel_rfl) ?_
 refine vcL_nil ?_
 refine Vc.ret ?_
 refine outs_ret ?_
 refine done_mk (Sl.v t11) (res1 (resC_tmp (by kernel_rfl))) ?_
 exact ⟨t11, rfl, h⟩
theorem wants_Of.go {zz4 : ByteArray} {zz5 : Int} {zz6 : Int} {zz7 : Int} {zz8 : Sl} {zza : Sl} {zz9 : Sl} {zz0 : Sl} {zz1 : Sl} {zz2 : Sl} {zz3 : Sl} {w : World} {k : Value → World → Prop} (h : wants_Of zz4 zz5 zz6 zz7 zz8 zza zz9 zz0 zz1 zz2 zz3 w fun r0 w'=>k (Sl.v r0) w') : callS Tryz.prog 37 [(Value.agg #[(Value.string zz4), (Value.int .i64 zz5), (Value.int .i64 zz6), (Value.int .i64 zz7), (Sl.v zz8), (Sl.v zza), (Sl.v zz9)]), (Value.agg #[(Sl.v zz0), (Sl.v zz1), (Sl.v zz2), (Sl.v zz3)])] w k := (wants_Of.sound zz4 zz5 zz6 zz7 zz8 zza zz9 zz0 zz1 zz2 zz3 w _ h).mono (by rintro _ _ ⟨r0, rfl, h⟩; exact h)
def halyardref09_Of (zz4 : ByteArray) (zz5 : Int) (zz6 : Int) (zz7 : Int) (zz8 : Sl) (zza : Sl) (zz9 : Sl) (zz0 : Sl) (zz1 : Sl) (zz2 : Sl) (zz3 : Sl) (w : World) (R : Sl → World → Prop) : Prop :=
 newS w [(Value.string zz4), (Value.int .i64 zz5), (Value.int .i64 zz6), (Value.int .i64 zz7), (Sl.v zz8), (Sl.v zza), (Sl.v zz9)] 48 fun a vw=>newS vw [(Sl.v zz0), (Sl.v zz1), (Sl.v zz2), (Sl.v zz3)] 25 fun a1 vw2=>bnd vw2.drew fun (vw3 : World)=>∃ (t6 : Sl), (ldc vw3 (a.add 4) [(Sl.v t6)]) ∧ ∃ (zz65 : Sl) (zz66 : Sl) (zz67 : Sl) (zz68 : Sl), (ldc vw3 a1 [(Sl.v zz65), (Sl.v zz66), (Sl.v zz67), (Sl.v zz68)]) ∧ ∃ (t10 : Sl), (ldc vw3 (a.add 6) [(Sl.v t10)]) ∧ ∃ (zz3l : Sl) (zz3m : Sl) (zz3n : Sl) (zz3o : Sl), (ldc vw3 a1 [(Sl.v zz3l), (Sl.v zz3m), (Sl.v zz3n), (Sl.v zz3o)]) ∧ callX Tryz.prog 88 [(Sl.v Sl.nil), (Sl.v t6), (Value.int .i64 1), (Value.agg #[(Sl.v zz65), (Sl.v zz66), (Sl.v zz67), (Sl.v zz68)])] vw3 fun v vw7=>∃ (t8 : Sl), v = (Sl.v t8) ∧ callS Tryz.prog 88 [(Sl.v t8), (Sl.v t10), (Value.int .i64 2), (Value.agg #[(Sl.v zz3l), (Sl.v zz3m), (Sl.v zz3n), (Sl.v zz3o)])] vw7 fun v9 vw8=>∃ (t12 : Sl), v9 = (Sl.v t12) ∧ R t12 vw8
set_option maxHeartbeats 8000000 in
theorem halyardref09_Of.sound (zz4 : ByteArray) (zz5 : Int) (zz6 : Int) (zz7 : Int) (zz8 : Sl) (zza : Sl) (zz9 : Sl) (zz0 : Sl) (zz1 : Sl) (zz2 : Sl) (zz3 : Sl) (w : World) (R : Sl → World → Prop) (h : halyardref09_Of zz4 zz5 zz6 zz7 zz8 zza zz9 zz0 zz1 zz2 zz3 w R) : callS Tryz.prog 38 [(Value.agg #[(Value.string zz4), (Value.int .i64 zz5), (Value.int .i64 zz6), (Value.int .i64 zz7), (Sl.v zz8), (Sl.v zza), (Sl.v zz9)]), (Value.agg #[(Sl.v zz0), (Sl.v zz1), (Sl.v zz2), (Sl.v zz3)])] w (fun v w'=>∃ (r0 : Sl), v = (Sl.v r0) ∧ R r0 w') := by
 unfold halyardref09_Of at h
 refine calls_of_vc 13 rfl Tryz.func38 rfl (by kernel_rfl) (by simp) ?_
 refine Vc.seq ?_
 refine Vc.region ?_
 refine vcL_eff rfl (opVC_new rfl (fun a=>Value.pointer (some a)) (by kernel_rfl) (newS.mono h fun a vw hx h=>?_))
 refine vcL_eff rfl (opVC_new rfl (fun a=>Value.pointer (some a)) (by kernel_rfl) (newS.mono h fun a1 vw2 hx h=>?_))
 refine vcL_pure rfl rfl (Sl.v Sl.nil) (fun w=>by kernel_rfl) ?_
 refine vcL_nil ?_
 refine Vc.seq ?_
 obtain ⟨vw3, hvw3⟩ : ∃ y, y = vw2.drew := ⟨_, rfl⟩
 have h := h vw3 hvw3
 refine Vc.draw (by kernel_rfl) (fun i=>!(memN [7] i)) (.pur 0 (.val 1 (.val 2 (.pur 4 (.val 5 (.val 6 (.eff 3 (.eff 7 (.pur 8 .fin) .stop) .stop))))))) (by kernel_rfl) ?_
 rw [← hvw3]
 clear hvw3
 refine vcS_pure rfl rfl rfl (Value.pointer (some (a.add 4))) (fun w=>by kernel_rfl) ?_
 obtain ⟨t6, hc, h⟩ := h
 refine vcS_val rfl rfl rfl (Sl.v t6) (fun w' hx=>exec_load rfl (by kernel_rfl) (run_load1 (fun w=>by kernel_rfl) ((hc).ext hx))) ?_
 obtain ⟨zz65, zz66, zz67, zz68, hc4, h⟩ := h
 refine vcS_val rfl rfl rfl (Value.agg #[(Sl.v zz65), (Sl.v zz66), (Sl.v zz67), (Sl.v zz68)]) (fun w' hx=>exec_load rfl (by kernel_rfl) (run_loadN (fun w=>by kernel_rfl) (fun w=>by kernel_rfl) ((hc4).ext hx))) ?_
 refine vcS_pure rfl rfl rfl (Value.pointer (some (a.add 6))) (fun w=>by kernel_rfl) ?_
 obtain ⟨t10, hc5, h⟩ := h
 refine vcS_val rfl rfl rfl (Sl.v t10) (fun w' hx=>exec_load rfl (by kernel_rfl) (run_load1 (fun w=>by kernel_rfl) ((hc5).ext hx))) ?_
 obtain ⟨zz3l, zz3m, zz3n, zz3o, hc6, h⟩ := h
 refine vcS_val rfl rfl rfl (Value.agg #[(Sl.v zz3l), (Sl.v zz3m), (Sl.v zz3n), (Sl.v zz3o)]) (fun w' hx=>exec_load rfl (by kernel_rfl) (run_loadN (fun w=>by kernel_rfl) (fun w=>by kernel_rfl) ((hc6).ext hx))) ?_
 refine vcS_eff rfl rfl (opVC_call rfl (by kernel_rfl) (callS.mono h fun v vw7 h=>?_)) vcS_stop
 obtain ⟨hx, h⟩ := h
 obtain ⟨t8, rfl, h⟩ := h
 refine ⟨fun _ => hx, ?_⟩
 refine vcS_eff rfl rfl (opVC_call rfl (by kernel_rfl) (callS.mono h fun v9 vw8 h=>?_)) vcS_stop
 obtain ⟨t12, rfl, h⟩ := h
 refine ⟨fun hb=>absurd hb (by decide), ?_⟩
 refine vcS_pure rfl rfl rfl (Sl.v t12) (fun w=>by kernel_rfl) ?_
 refine vcS_fin ?_
 refine Vc.ret ?_
 refine outs_ret ?_
 refine done_mk (Sl.v t12) (res1 (resC_tmp (by kernel_rfl))) ?_
 exact ⟨t12, rfl, h⟩
theorem halyardref09_Of.go {zz4 : ByteArray} {zz5 : Int} {zz6 : Int} {zz7 : Int} {zz8 : Sl} {zza : Sl} {zz9 : Sl} {zz0 : Sl} {zz1 : Sl} {zz2 : Sl} {zz3 : Sl} {w : World} {k : Value → World → Prop} (h : halyardref09_Of zz4 zz5 zz6 zz7 zz8 zza zz9 zz0 zz1 zz2 zz3 w fun r0 w'=>k (Sl.v r0) w') : callS Tryz.prog 38 [(Value.agg #[(Value.string zz4), (Value.int .i64 zz5), (Value.int .i64 zz6), (Value.int .i64 zz7), (Sl.v zz8), (Sl.v zza), (Sl.v zz9)]), (Value.agg #[(Sl.v zz0), (Sl.v zz1), (Sl.v zz2), (Sl.v zz3)])] w k := (halyardref09_Of.sound zz4 zz5 zz6 zz7 zz8 zza zz9 zz0 zz1 zz2 zz3 w _ h).mono (by rintro _ _ ⟨r0, rfl, h⟩; exact h)
def wants_OfRoot (zz0 : Sl) (zz1 : Sl) (zz2 : Sl) (zz3 : Sl) (dev : Bool) (w : World) (R : Sl → World → Prop) : Prop :=
 newS w [(Sl.v zz0), (Sl.v zz1), (Sl.v zz2), (Sl.v zz3)] 25 fun a vw=>∃ (t7 : Sl), (ldc vw a [(Sl.v t7)]) ∧ newS vw [(Sl.v t7)] 23 fun a1 vw2=>join (fun (must : Sl) (vw3 : World)=>∃ (zz3t : Sl) (zz3u : Sl) (zz3v : Sl) (zz3w : Sl), (ldc vw3 a [(Sl.v zz3t), (Sl.v zz3u), (Sl.v zz3v), (Sl.v zz3w)]) ∧ ∃ (t18 : Sl), (ldc vw3 (a.add 2) [(Sl.v t18)]) ∧ callS Tryz.prog 87 [(Value.agg #[(Sl.v zz3t), (Sl.v zz3u), (Sl.v zz3v), (Sl.v zz3w)]), (Sl.v must), (Sl.v t18)] vw3 fun v vw6=>∃ (t19 : Sl), v = (Sl.v t19) ∧ R t19 vw6) fun vJ=>((dev = true → ∃ (t12 : Sl), (ldc vw2 (a.add 1) [(Sl.v t12)]) ∧ newS vw2 [(Sl.v t12)] 23 fun a8 vw9=>appS Tryz.prog 126 126 (Sl.mk (some a1) 1 1) (Sl.v (Sl.mk (some a8) 1 1)) vw9 fun t14 vw10=>vJ t14 vw10) ∧ (dev = false → vJ (Sl.mk (some a1) 1 1) vw2))
set_option maxHeartbeats 8000000 in
theorem wants_OfRoot.sound (zz0 : Sl) (zz1 : Sl) (zz2 : Sl) (zz3 : Sl) (dev : Bool) (w : World) (R : Sl → World → Prop) (h : wants_OfRoot zz0 zz1 zz2 zz3 dev w R) : callS Tryz.prog 39 [(Value.agg #[(Sl.v zz0), (Sl.v zz1), (Sl.v zz2), (Sl.v zz3)]), (Value.bool dev)] w (fun v w'=>∃ (r0 : Sl), v = (Sl.v r0) ∧ R r0 w') := by
 unfold wants_OfRoot at h
 refine calls_of_vc 20 rfl Tryz.func39 rfl (by kernel_rfl) (by simp) ?_
 refine Vc.seq ?_
 refine Vc.region ?_
 refine vcL_eff rfl (opVC_new rfl (fun a=>Value.pointer (some a)) (by kernel_rfl) (newS.mono h fun a vw hx h=>?_))
 refine vcL_pure rfl rfl (Sl.v Sl.nil) (fun w=>by kernel_rfl) ?_
 refine vcL_nil ?_
 refine Vc.seq ?_
 refine Vc.region ?_
 refine vcL_pure rfl rfl (Value.pointer (some a)) (fun w=>by kernel_rfl) ?_
 obtain ⟨t7, hc, h⟩ := h
 refine vcL_val rfl rfl (Sl.v t7) (exec_load rfl (by kernel_rfl) (run_load1 (fun w=>by kernel_rfl) ((hc)))) ?_
 refine vcL_eff rfl (opVC_new rfl (fun a=>Value.slice (some a) 1 1) (by kernel_rfl) (newS.mono h fun a1 vw2 hx h=>?_))
 refine vcL_pure rfl rfl (Sl.v (Sl.mk (some a1) 1 1)) (fun w=>by kernel_rfl) ?_
 refine vcL_nil ?_
 obtain ⟨vJ, hJ, h⟩ := join_elim h
 refine Vc.seqJ (σ := Sl) [5] [9, 10, 11, 12, 13, 14] (fun s=>[(5, (Sl.v s))]) (fun s w=>vJ s w) (fun _ => rfl) ?_ ?_
 ·refine Vc.seq ?_
  refine Vc.region ?_
  refine vcL_pure rfl rfl (Value.bool dev) (fun w=>by kernel_rfl) ?_
  refine vcL_nil ?_
  refine Vc.cond dev (by kernel_rfl) (fun hb=>?_) (fun hb=>?_)
  ·have h := h.1 (hb)
   refine Vc.region ?_
   refine vcL_purs 2 [(11, (Value.pointer (some (a.add 1)))), (10, (Sl.v (Sl.mk (some a1) 1 1)))] (by kernel_rfl) ?_
   obtain ⟨t12, hc7, h⟩ := h
   refine vcL_val rfl rfl (Sl.v t12) (exec_load rfl (by kernel_rfl) (run_load1 (fun w=>by kernel_rfl) ((hc7)))) ?_
   refine vcL_eff rfl (opVC_new rfl (fun a=>Value.slice (some a) 1 1) (by kernel_rfl) (newS.mono h fun a8 vw9 hx h=>?_))
   refine vcL_eff rfl (opVC_sem rfl (c := Builtin.append_ #[126, 126] 126 #[(Sl.v (Sl.mk (some a1) 1 1)), (Sl.v (Sl.mk (some a8) 1 1))]) (by kernel_rfl) (appS.elim (ty := 126) h fun t14 vw10 h=>?_))
   refine vcL_pure rfl rfl (Sl.v t14) (fun w=>by kernel_rfl) ?_
   refine vcL_nil ?_
   exact ⟨t14, 7, ⟨rfl, by kernel_rfl, by kernel_rfl, by kernel_rfl⟩, h⟩
  ·have h := h.2 (hb)
   refine Vc.skip ?_
   exact ⟨(Sl.mk (some a1) 1 1), 1, ⟨rfl, by kernel_rfl, by kernel_rfl, by kernel_rfl⟩, h⟩
 ·intro must vw3 j h
  subst hJ
  refine Vc.seq ?_
  refine Vc.region ?_
  obtain ⟨zz3t, zz3u, zz3v, zz3w, hc4, h⟩ := h
  refine vcL_val rfl rfl (Value.agg #[(Sl.v zz3t), (Sl.v zz3u), (Sl.v zz3v), (Sl.v zz3w)]) (exec_load rfl (by kernel_rfl) (run_loadN (fun w=>by kernel_rfl) (fun w=>by kernel_rfl) ((hc4)))) ?_
  refine vcL_purs 2 [(17, (Value.pointer (some (a.add 2)))), (16, (Sl.v must))] (by kernel_rfl) ?_
  obtain ⟨t18, hc5, h⟩ := h
  refine vcL_val rfl rfl (Sl.v t18) (exec_load rfl (by kernel_rfl) (run_load1 (fun w=>by kernel_rfl) ((hc5)))) ?_
  refine vcL_eff rfl (opVC_call rfl (by kernel_rfl) (callS.mono h fun v vw6 h=>?_))
  obtain ⟨t19, rfl, h⟩ := h
  refine vcL_pure rfl rfl (Sl.v t19) (fun w=>by kernel_rfl) ?_
  refine vcL_nil ?_
  refine Vc.ret ?_
  refine outs_ret ?_
  refine done_mk (Sl.v t19) (res1 (resC_tmp (by kernel_rfl))) ?_
  exact ⟨t19, rfl, h⟩
theorem wants_OfRoot.go {zz0 : Sl} {zz1 : Sl} {zz2 : Sl} {zz3 : Sl} {dev : Bool} {w : World} {k : Value → World → Prop} (h : wants_OfRoot zz0 zz1 zz2 zz3 dev w fun r0 w'=>k (Sl.v r0) w') : callS Tryz.prog 39 [(Value.agg #[(Sl.v zz0), (Sl.v zz1), (Sl.v zz2), (Sl.v zz3)]), (Value.bool dev)] w k := (wants_OfRoot.sound zz0 zz1 zz2 zz3 dev w _ h).mono (by rintro _ _ ⟨r0, rfl, h⟩; exact h)
def halyardref09_OfRoot (zz0 : Sl) (zz1 : Sl) (zz2 : Sl) (zz3 : Sl) (dev : Bool) (w : World) (R : Sl → World → Prop) : Prop :=
 newS w [(Sl.v zz0), (Sl.v zz1), (Sl.v zz2), (Sl.v zz3)] 25 fun a vw=>∃ (t7 : Sl), (ldc vw a [(Sl.v t7)]) ∧ ∃ (zz1m : Sl) (zz6j : Sl) (zz1n : Sl) (zz6l : Sl), (ldc vw a [(Sl.v zz1m), (Sl.v zz6j), (Sl.v zz1n), (Sl.v zz6l)]) ∧ callS Tryz.prog 88 [(Sl.v Sl.nil), (Sl.v t7), (Value.int .i64 1), (Value.agg #[(Sl.v zz1m), (Sl.v zz6j), (Sl.v zz1n), (Sl.v zz6l)])] vw fun v vw2=>∃ (t9 : Sl), v = (Sl.v t9) ∧ join (fun (l : Sl) (vw3 : World)=>∃ (t18 : Sl), (ldc vw3 (a.add 2) [(Sl.v t18)]) ∧ ∃ (zz1b : Sl) (zz1c : Sl) (zz1d : Sl) (zz1e : Sl), (ldc vw3 a [(Sl.v zz1b), (Sl.v zz1c), (Sl.v zz1d), (Sl.v zz1e)]) ∧ callS Tryz.prog 88 [(Sl.v l), (Sl.v t18), (Value.int .i64 2), (Value.agg #[(Sl.v zz1b), (Sl.v zz1c), (Sl.v zz1d), (Sl.v zz1e)])] vw3 fun v7 vw6=>∃ (t20 : Sl), v7 = (Sl.v t20) ∧ R t20 vw6) fun vJ=>((dev = true → ∃ (t13 : Sl), (ldc vw2 (a.add 1) [(Sl.v t13)]) ∧ ∃ (zz3p : Sl) (zz3q : Sl) (zz3r : Sl) (zz3s : Sl), (ldc vw2 a [(Sl.v zz3p), (Sl.v zz3q), (Sl.v zz3r), (Sl.v zz3s)]) ∧ callS Tryz.prog 88 [(Sl.v t9), (Sl.v t13), (Value.int .i64 1), (Value.agg #[(Sl.v zz3p), (Sl.v zz3q), (Sl.v zz3r), (Sl.v zz3s)])] vw2 fun v12 vw11=>∃ (t15 : Sl), v12 = (Sl.v t15) ∧ vJ t15 vw11) ∧ (dev = false → vJ t9 vw2))
set_option maxHeartbeats 8000000 in
theorem halyardref09_OfRoot.sound (zz0 : Sl) (zz1 : Sl) (zz2 : Sl) (zz3 : Sl) (dev : Bool) (w : World) (R : Sl → World → Prop) (h : halyardref09_OfRoot zz0 zz1 zz2 zz3 dev w R) : callS Tryz.prog 40 [(Value.agg #[(Sl.v zz0), (Sl.v zz1), (Sl.v zz2), (Sl.v zz3)]), (Value.bool dev)] w (fun v w'=>∃ (r0 : Sl), v = (Sl.v r0) ∧ R r0 w') := by
 unfold halyardref09_OfRoot at h
 refine calls_of_vc 21 rfl Tryz.func40 rfl (by kernel_rfl) (by simp) ?_
 refine Vc.seq ?_
 refine Vc.region ?_
 refine vcL_eff rfl (opVC_new rfl (fun a=>Value.pointer (some a)) (by kernel_rfl) (newS.mono h fun a vw hx h=>?_))
 refine vcL_pure rfl rfl (Sl.v Sl.nil) (fun w=>by kernel_rfl) ?_
 refine vcL_nil ?_
 refine Vc.seq ?_
 refine Vc.region ?_
 refine vcL_pure rfl rfl (Value.pointer (some a)) (fun w=>by kernel_rfl) ?_
 obtain ⟨t7, hc, h⟩ := h
 refine vcL_val rfl rfl (Sl.v t7) (exec_load rfl (by kernel_rfl) (run_load1 (fun w=>by kernel_rfl) ((hc)))) ?_
 obtain ⟨zz1m, zz6j, zz1n, zz6l, hc1, h⟩ := h
 refine vcL_val rfl rfl (Value.agg #[(Sl.v zz1m), (Sl.v zz6j), (Sl.v zz1n), (Sl.v zz6l)]) (exec_load rfl (by kernel_rfl) (run_loadN (fun w=>by kernel_rfl) (fun w=>by kernel_rfl) ((hc1)))) ?_
 refine vcL_eff rfl (opVC_call rfl (by kernel_rfl) (callS.mono h fun v vw2 h=>?_))
 obtain ⟨t9, rfl, h⟩ := h
 refine vcL_pure rfl rfl (Sl.v t9) (fun w=>by kernel_rfl) ?_
 refine vcL_nil ?_
 obtain ⟨vJ, hJ, h⟩ := join_elim h
 refine Vc.seqJ (σ := Sl) [5] [10, 11, 12, 13, 14, 15] (fun s=>[(5, (Sl.v s))]) (fun s w=>vJ s w) (fun _ => rfl) ?_ ?_
 ·refine Vc.seq ?_
  refine Vc.region ?_
  refine vcL_pure rfl rfl (Value.bool dev) (fun w=>by kernel_rfl) ?_
  refine vcL_nil ?_
  refine Vc.cond dev (by kernel_rfl) (fun hb=>?_) (fun hb=>?_)
  ·have h := h.1 (hb)
   refine Vc.region ?_
   refine vcL_purs 2 [(12, (Value.pointer (some (a.add 1)))), (11, (Sl.v t9))] (by kernel_rfl) ?_
   obtain ⟨t13, hc9, h⟩ := h
   refine vcL_val rfl rfl (Sl.v t13) (exec_load rfl (by kernel_rfl) (run_load1 (fun w=>by kernel_rfl) ((hc9)))) ?_
   obtain ⟨zz3p, zz3q, zz3r, zz3s, hc10, h⟩ := h
   refine vcL_val rfl rfl (Value.agg #[(Sl.v zz3p), (Sl.v zz3q), (Sl.v zz3r), (Sl.v zz3s)]) (exec_load rfl (by kernel_rfl) (run_loadN (fun w=>by kernel_rfl) (fun w=>by kernel_rfl) ((hc10)))) ?_
   refine vcL_eff rfl (opVC_call rfl (by kernel_rfl) (callS.mono h fun v12 vw11 h=>?_))
   obtain ⟨t15, rfl, h⟩ := h
   refine vcL_pure rfl rfl (Sl.v t15) (fun w=>by kernel_rfl) ?_
   refine vcL_nil ?_
   exact ⟨t15, 7, ⟨rfl, by kernel_rfl, by kernel_rfl, by kernel_rfl⟩, h⟩
  ·have h := h.2 (hb)
   refine Vc.skip ?_
   exact ⟨t9, 1, ⟨rfl, by kernel_rfl, by kernel_rfl, by kernel_rfl⟩, h⟩
 ·intro l vw3 j h
  subst hJ
  refine Vc.seq ?_
  refine Vc.region ?_
  refine vcL_purs 2 [(17, (Value.pointer (some (a.add 2)))), (16, (Sl.v l))] (by kernel_rfl) ?_
  obtain ⟨t18, hc4, h⟩ := h
  refine vcL_val rfl rfl (Sl.v t18) (exec_load rfl (by kernel_rfl) (run_load1 (fun w=>by kernel_rfl) ((hc4)))) ?_
  obtain ⟨zz1b, zz1c, zz1d, zz1e, hc5, h⟩ := h
  refine vcL_val rfl rfl (Value.agg #[(Sl.v zz1b), (Sl.v zz1c), (Sl.v zz1d), (Sl.v zz1e)]) (exec_load rfl (by kernel_rfl) (run_loadN (fun w=>by kernel_rfl) (fun w=>by kernel_rfl) ((hc5)))) ?_
  refine vcL_eff rfl (opVC_call rfl (by kernel_rfl) (callS.mono h fun v7 vw6 h=>?_))
  obtain ⟨t20, rfl, h⟩ := h
  refine vcL_pure rfl rfl (Sl.v t20) (fun w=>by kernel_rfl) ?_
  refine vcL_nil ?_
  refine Vc.ret ?_
  refine outs_ret ?_
  refine done_mk (Sl.v t20) (res1 (resC_tmp (by kernel_rfl))) ?_
  exact ⟨t20, rfl, h⟩
theorem halyardref09_OfRoot.go {zz0 : Sl} {zz1 : Sl} {zz2 : Sl} {zz3 : Sl} {dev : Bool} {w : World} {k : Value → World → Prop} (h : halyardref09_OfRoot zz0 zz1 zz2 zz3 dev w fun r0 w'=>k (Sl.v r0) w') : callS Tryz.prog 40 [(Value.agg #[(Sl.v zz0), (Sl.v zz1), (Sl.v zz2), (Sl.v zz3)]), (Value.bool dev)] w k := (halyardref09_OfRoot.sound zz0 zz1 zz2 zz3 dev w _ h).mono (by rintro _ _ ⟨r0, rfl, h⟩; exact h)
def wants_Peers (zz4 : ByteArray) (zz5 : Int) (zz6 : Int) (zz7 : Int) (zz8 : Sl) (zza : Sl) (zz9 : Sl) (zz0 : Sl) (zz1 : Sl) (zz2 : Sl) (zz3 : Sl) (w : World) (R : Sl → World → Prop) : Prop :=
 newS w [(Value.string zz4), (Value.int .i64 zz5), (Value.int .i64 zz6), (Value.int .i64 zz7), (Sl.v zz8), (Sl.v zza), (Sl.v zz9)] 48 fun a vw=>newS vw [(Sl.v zz0), (Sl.v zz1), (Sl.v zz2), (Sl.v zz3)] 25 fun a1 vw2=>∃ (t9 : Sl), (ldc vw2 (a.add 5) [(Sl.v t9)]) ∧ loop2 Sl.nil 0 vw2 fun out t11 vw3 nxt=>((t11 < (t9.len : Int) → ∃ (ad : Addr), (t9.a = some ad ∧ (0 : Int) ≤ t11 ∧ t11 < (t9.len : Int)) ∧ ∃ (zz2t : ByteArray) (zz2u : Sl), (ldc vw3 (ad.add (t11.toNat * 2)) [(Value.string zz2t), (Sl.v zz2u)]) ∧ newS vw3 [(Value.string (ByteArray.mk #[])), (Sl.v Sl.nil)] 81 fun a5 vw6=>stw vw6 a5 [(Value.string zz2t), (Sl.v zz2u)] fun vw7=>bnd vw7.drew fun (vw8 : World)=>∃ (t17 : ByteArray), (ldc vw8 a5 [(Value.string t17)]) ∧ ∃ (zzf : Sl) (zz3x : Sl) (zzg : Sl) (zz3y : Sl), (ldc vw8 a1 [(Sl.v zzf), (Sl.v zz3x), (Sl.v zzg), (Sl.v zz3y)]) ∧ ∃ (zz3z : ByteArray) (zz40 : Sl), (ldc vw8 a5 [(Value.string zz3z), (Sl.v zz40)]) ∧ callX Tryz.prog 44 [(Value.agg #[(Sl.v zzf), (Sl.v zz3x), (Sl.v zzg), (Sl.v zz3y)]), (Value.agg #[(Value.string zz3z), (Sl.v zz40)])] vw8 fun v vw12=>∃ (t20 : Sl), v = (Sl.v t20) ∧ newS vw12 [(Value.string t17), (Sl.v t20)] 81 fun a13 vw14=>appS Tryz.prog 23 23 out (Sl.v (Sl.mk (some a13) 1 1)) vw14 fun t23 vw15=>nxt t23 (wrapI (t11 + 1)) vw15) ∧ (¬ (t11 < (t9.len : Int)) → callS Tryz.prog 89 [(Sl.v out)] vw3 fun v17 vw16=>∃ (t26 : Sl), v17 = (Sl.v t26) ∧ R t26 vw16))
set_option maxHeartbeats 8000000 in
theorem wants_Peers.sound (zz4 : ByteArray) (zz5 : Int) (zz6 : Int) (zz7 : Int) (zz8 : Sl) (zza : Sl) (zz9 : Sl) (zz0 : Sl) (zz1 : Sl) (zz2 : Sl) (zz3 : Sl) (w : World) (R : Sl → World → Prop) (h : wants_Peers zz4 zz5 zz6 zz7 zz8 zza zz9 zz0 zz1 zz2 zz3 w R) : callS Tryz.prog 41 [(Value.agg #[(Value.string zz4), (Value.int .i64 zz5), (Value.int .i64 zz6), (Value.int .i64 zz7), (Sl.v zz8), (Sl.v zza), (Sl.v zz9)]), (Value.agg #[(Sl.v zz0), (Sl.v zz1), (Sl.v zz2), (Sl.v zz3)])] w (fun v w'=>∃ (r0 : Sl), v = (Sl.v r0) ∧ R r0 w') := by
 unfold wants_Peers at h
 refine calls_of_vc 27 rfl Tryz.func41 rfl (by kernel_rfl) (by simp) ?_
 refine Vc.seq ?_
 refine Vc.region ?_
 refine vcL_eff rfl (opVC_new rfl (fun a=>Value.pointer (some a)) (by kernel_rfl) (newS.mono h fun a vw hx h=>?_))
 refine vcL_eff rfl (opVC_new rfl (fun a=>Value.pointer (some a)) (by kernel_rfl) (newS.mono h fun a1 vw2 hx h=>?_))
 refine vcL_pure rfl rfl (Sl.v Sl.nil) (fun w=>by kernel_rfl) ?_
 refine vcL_nil ?_
 refine Vc.seq ?_
 refine Vc.region ?_
 refine vcL_pure rfl rfl (Sl.v Sl.nil) (fun w=>by kernel_rfl) ?_
 refine vcL_nil ?_
 refine Vc.seq ?_
 refine Vc.seq ?_
 refine Vc.region ?_
 refine vcL_pure rfl rfl (Value.pointer (some (a.add 5))) (fun w=>by kernel_rfl) ?_
 obtain ⟨t9, hc, h⟩ := h
 refine vcL_val rfl rfl (Sl.v t9) (exec_load rfl (by kernel_rfl) (run_load1 (fun w=>by kernel_rfl) ((hc)))) ?_
 refine vcL_purs 2 [(11, (Value.int .i64 0)), (10, (Value.int .i64 (t9.len : Int)))] (by kernel_rfl) ?_
 refine vcL_nil ?_
 refine Vc.block ?_
 obtain ⟨vI, mu, h, hr⟩ := h
 refine Vc.loopJ (σ := Sl × Int) [5, 11] [7, 12, 13, 14, 15, 16, 17, 18, 19, 20, 21, 22, 23, 24] (fun s=>[(5, (Sl.v s.1)), (11, (Value.int .i64 s.2))]) (fun s w=>vI s.1 s.2 w) (fun s w=>mu s.1 s.2 w) (Sl.nil, 0) h (fun _ => rfl) (by kernel_rfl) ?_
 rintro ⟨out, t11⟩ vw3 j h
 have h := hr out t11 vw3 h
 refine Vc.seq ?_
 refine Vc.region ?_
 refine vcL_pure rfl rfl (Value.bool (decide (t11 < (t9.len : Int)))) (fun w=>by kernel_rfl) ?_
 refine vcL_nil ?_
 refine Vc.seq ?_
 refine Vc.cond (decide (t11 < (t9.len : Int))) (by kernel_rfl) (fun hb=>?_) (fun hb=>?_)
 ·have h := h.1 (of_decide_eq_true hb)
  refine Vc.skip ?_
  refine Vc.seq ?_
  refine Vc.block ?_
  refine Vc.seq ?_
  refine Vc.region ?_
  obtain ⟨ad, hi, h⟩ := h
  refine vcL_pure rfl rfl (Value.pointer (some (ad.add (t11.toNat * 2)))) (fun w=>by exact exec_indexAt (s := t9) (el := 81) rfl (by kernel_rfl) (by kernel_rfl) (by kernel_rfl) (fun w=>by kernel_rfl) (hi).1 (hi).2.1 (hi).2.2 w) ?_
  obtain ⟨zz2t, zz2u, hc4, h⟩ := h
  refine vcL_val rfl rfl (Value.agg #[(Value.string zz2t), (Sl.v zz2u)]) (exec_load rfl (by kernel_rfl) (run_loadN (fun w=>by kernel_rfl) (fun w=>by kernel_rfl) ((hc4)))) ?_
  refine vcL_eff rfl (opVC_new rfl (fun a=>Value.pointer (some a)) (by kernel_rfl) (newS.mono h fun a5 vw6 hx h=>?_))
  refine vcL_eff rfl (opVC_store rfl rfl (a := a5) (by kernel_rfl) (v := (Value.agg #[(Value.string zz2t), (Sl.v zz2u)])) (by kernel_rfl) [(Value.string zz2t), (Sl.v zz2u)] (by kernel_rfl) (fun w=>by kernel_rfl) (by kernel_rfl) (stw.mono h fun vw7 h=>?_))
  refine vcL_nil ?_
  obtain ⟨vw8, hvw8⟩ : ∃ y, y = vw7.drew := ⟨_, rfl⟩
  have h := h vw8 hvw8
  refine Vc.draw (by kernel_rfl) (fun i=>!(memN [7, 8] i)) (.pur 0 (.pur 1 (.val 2 (.val 3 (.val 4 (.eff 5 (.pur 6 (.eff 7 (.eff 8 (.pur 9 .fin) .stop) .stop)) .stop)))))) (by kernel_rfl) ?_
  rw [← hvw8]
  clear hvw8
  refine vcS_pure rfl rfl rfl (Sl.v out) (fun w=>by kernel_rfl) ?_
  refine vcS_pure rfl rfl rfl (Value.pointer (some a5)) (fun w=>by kernel_rfl) ?_
  obtain ⟨t17, hc9, h⟩ := h
  refine vcS_val rfl rfl rfl (Value.string t17) (fun w' hx=>exec_load rfl (by kernel_rfl) (run_load1 (fun w=>by kernel_rfl) ((hc9).ext hx))) ?_
  obtain ⟨zzf, zz3x, zzg, zz3y, hc10, h⟩ := h
  refine vcS_val rfl rfl rfl (Value.agg #[(Sl.v zzf), (Sl.v zz3x), (Sl.v zzg), (Sl.v zz3y)]) (fun w' hx=>exec_load rfl (by kernel_rfl) (run_loadN (fun w=>by kernel_rfl) (fun w=>by kernel_rfl) ((hc10).ext hx))) ?_
  obtain ⟨zz3z, zz40, hc11, h⟩ := h
  refine vcS_val rfl rfl rfl (Value.agg #[(Value.string zz3z), (Sl.v zz40)]) (fun w' hx=>exec_load rfl (by kernel_rfl) (run_loadN (fun w=>by kernel_rfl) (fun w=>by kernel_rfl) ((hc11).ext hx))) ?_
  refine vcS_eff rfl rfl (opVC_call rfl (by kernel_rfl) (callS.mono h fun v vw12 h=>?_)) vcS_stop
  obtain ⟨hx, h⟩ := h
  obtain ⟨t20, rfl, h⟩ := h
  refine ⟨fun _ => hx, ?_⟩
  refine vcS_pure rfl rfl rfl (Value.agg #[(Value.string t17), (Sl.v t20)]) (fun w=>by kernel_rfl) ?_
  refine vcS_eff rfl rfl (opVC_new rfl (fun a=>Value.slice (some a) 1 1) (by kernel_rfl) (newS.mono h fun a13 vw14 hx h=>?_)) vcS_stop
  refine ⟨fun hb=>absurd hb (by decide), ?_⟩
  refine vcS_eff rfl rfl (opVC_sem rfl (c := Builtin.append_ #[23, 23] 23 #[(Sl.v out), (Sl.v (Sl.mk (some a13) 1 1))]) (by kernel_rfl) (appS.elim (ty := 23) h fun t23 vw15 h=>?_)) vcS_stop
  refine ⟨fun hb=>absurd hb (by decide), ?_⟩
  refine vcS_pure rfl rfl rfl (Sl.v t23) (fun w=>by kernel_rfl) ?_
  refine vcS_fin ?_
  refine Vc.region ?_
  refine vcL_purs 2 [(11, (Value.int .i64 (wrapI (t11 + 1)))), (24, (Value.int .i64 (wrapI (t11 + 1))))] (by kernel_rfl) ?_
  refine vcL_nil ?_
  exact ⟨(t23, (wrapI (t11 + 1))), 32, ⟨rfl, by kernel_rfl, by kernel_rfl, by kernel_rfl⟩, h⟩
 ·have h := h.2 (of_decide_eq_false hb)
  refine Vc.exit ?_
  refine outOf_hit ?_
  refine Vc.seq ?_
  refine Vc.region ?_
  refine vcL_pure rfl rfl (Sl.v out) (fun w=>by kernel_rfl) ?_
  refine vcL_eff rfl (opVC_call rfl (by kernel_rfl) (callS.mono h fun v17 vw16 h=>?_))
  obtain ⟨t26, rfl, h⟩ := h
  refine vcL_pure rfl rfl (Sl.v t26) (fun w=>by kernel_rfl) ?_
  refine vcL_nil ?_
  refine Vc.ret ?_
  refine outs_ret ?_
  refine done_mk (Sl.v t26) (res1 (resC_tmp (by kernel_rfl))) ?_
  exact ⟨t26, rfl, h⟩
theorem wants_Peers.go {zz4 : ByteArray} {zz5 : Int} {zz6 : Int} {zz7 : Int} {zz8 : Sl} {zza : Sl} {zz9 : Sl} {zz0 : Sl} {zz1 : Sl} {zz2 : Sl} {zz3 : Sl} {w : World} {k : Value → World → Prop} (h : wants_Peers zz4 zz5 zz6 zz7 zz8 zza zz9 zz0 zz1 zz2 zz3 w fun r0 w'=>k (Sl.v r0) w') : callS Tryz.prog 41 [(Value.agg #[(Value.string zz4), (Value.int .i64 zz5), (Value.int .i64 zz6), (Value.int .i64 zz7), (Sl.v zz8), (Sl.v zza), (Sl.v zz9)]), (Value.agg #[(Sl.v zz0), (Sl.v zz1), (Sl.v zz2), (Sl.v zz3)])] w k := (wants_Peers.sound zz4 zz5 zz6 zz7 zz8 zza zz9 zz0 zz1 zz2 zz3 w _ h).mono (by rintro _ _ ⟨r0, rfl, h⟩; exact h)
def halyardref05_Deps (a : Sl) (b : Sl) (w : World) (R : Bool → World → Prop) : Prop :=
 ((¬ (a.len : Int) = (b.len : Int) → R false w) ∧ (¬ (¬ (a.len : Int) = (b.len : Int)) → loop1 0 w fun i vw nxt=>((i < (a.len : Int) → bnd vw.drew fun (vw1 : World)=>∃ (ad : Addr), (a.a = some ad ∧ (0 : Int) ≤ i ∧ i < (a.len : Int)) ∧ ∃ (t21 : ByteArray), (ldc vw1 (ad.add (i.toNat * 2)) [(Value.string t21)]) ∧ ∃ (ad2 : Addr), (b.a = some ad2 ∧ (0 : Int) ≤ i ∧ i < (b.len : Int)) ∧ ∃ (t26 : ByteArray), (ldc vw1 (ad2.add (i.toNat * 2)) [(Value.string t26)]) ∧ bnd (!bEq t21 t26) fun (b5 : Bool)=>∃ (ad6 : Addr), grd (!b5) (a.a = some ad6 ∧ (0 : Int) ≤ i ∧ i < (a.len : Int)) ∧ ∃ (t33 : Sl), grd (!b5) (ldc vw1 ((ad6.add (i.toNat * 2)).add 1) [(Sl.v t33)]) ∧ ∃ (ad9 : Addr), grd (!b5) (b.a = some ad9 ∧ (0 : Int) ≤ i ∧ i < (b.len : Int)) ∧ ∃ (t38 : Sl), grd (!b5) (ldc vw1 ((ad9.add (i.toNat * 2)).add 1) [(Sl.v t38)]) ∧ gCall (!b5) (fun (t39 : Bool) (vw12 : World)=>(((b5 || (!t39)) = true → R false vw12) ∧ ((b5 || (!t39)) = false → nxt (wrapI (i + 1)) vw12))) (fun q=>callS Tryz.prog 45 [(Sl.v t33), (Sl.v t38)] vw1 fun v vw12=>∃ (t39 : Bool), v = (Value.bool t39) ∧ q t39 vw12) (fun q=>q false vw1)) ∧ (¬ (i < (a.len : Int)) → R true vw))))
set_option maxHeartbeats 8000000 in
theorem halyardref05_Deps.sound (a : Sl) (b : Sl) (w : World) (R : Bool → World → Prop) (h : halyardref05_Deps a b w R) : callS Tryz.prog 42 [(Sl.v a), (Sl.v b)] w (fun v w'=>∃ (r0 : Bool), v = (Value.bool r0) ∧ R r0 w') := by
 unfold halyardref05_Deps at h
 refine calls_of_vc 42 rfl Tryz.func42 rfl (by kernel_rfl) (by simp) ?_
 refine Vc.seq ?_
 refine Vc.region ?_
 refine vcL_pure rfl rfl (Value.bool false) (fun w=>by kernel_rfl) ?_
 refine vcL_nil ?_
 refine Vc.seq ?_
 refine Vc.seq ?_
 refine Vc.region ?_
 refine vcL_purs 5 [(10, (Value.bool (!((a.len : Int) == (b.len : Int))))), (9, (Value.int .i64 (b.len : Int))), (8, (Sl.v b)), (7, (Value.int .i64 (a.len : Int))), (6, (Sl.v a))] (by kernel_rfl) ?_
 refine vcL_nil ?_
 refine Vc.cond (!((a.len : Int) == (b.len : Int))) (by kernel_rfl) (fun hb=>?_) (fun hb=>?_)
 ·have h := h.1 (ne_of_nbeq hb)
  refine Vc.seq ?_
  refine Vc.region ?_
  refine vcL_pure rfl rfl (Value.bool false) (fun w=>by kernel_rfl) ?_
  refine vcL_nil ?_
  refine Vc.ret ?_
  refine outs_ret ?_
  refine done_mk (Value.bool false) (res1 (resC_tmp (by kernel_rfl))) ?_
  exact ⟨false, rfl, h⟩
 ·have h := h.2 (nne_of_nbeq hb)
  refine Vc.skip ?_
  refine Vc.seq ?_
  refine Vc.seq ?_
  refine Vc.region ?_
  refine vcL_pure rfl rfl (Value.int .i64 0) (fun w=>by kernel_rfl) ?_
  refine vcL_nil ?_
  refine Vc.block ?_
  obtain ⟨vI, mu, h, hr⟩ := h
  refine Vc.loopJ (σ := Int) [5] [4, 11, 12, 13, 14, 15, 16, 17, 18, 19, 20, 21, 22, 23, 24, 25, 26, 27, 28, 29, 30, 31, 32, 33, 34, 35, 36, 37, 38, 39, 40, 41] (fun s=>[(5, (Value.int .i64 s))]) (fun s w=>vI s w) (fun s w=>mu s w) 0 h (fun _ => rfl) (by kernel_rfl) ?_
  intro i vw j h
  have h := hr i vw h
  refine Vc.seq ?_
  refine Vc.seq ?_
  refine Vc.region ?_
  refine vcL_purs 4 [(14, (Value.bool (decide (i < (a.len : Int))))), (13, (Value.int .i64 (a.len : Int))), (12, (Sl.v a)), (11, (Value.int .i64 i))] (by kernel_rfl) ?_
  refine vcL_nil ?_
  refine Vc.cond (decide (i < (a.len : Int))) (by kernel_rfl) (fun hb=>?_) (fun hb=>?_)
  ·have h := h.1 (of_decide_eq_true hb)
   refine Vc.skip ?_
   refine Vc.seq ?_
   refine Vc.block ?_
   refine Vc.seq ?_
   obtain ⟨vw1, hvw1⟩ : ∃ y, y = vw.drew := ⟨_, rfl⟩
   have h := h vw1 hvw1
   refine Vc.draw (by kernel_rfl) (fun i=>!(memN [22] i)) (.pur 0 (.pur 1 (.pur 2 (.pur 3 (.val 4 (.pur 5 (.pur 6 (.pur 7 (.pur 8 (.val 9 (.pur 10 (.pur 11 (.pur 12 (.pur 13 (.pur 14 (.pur 15 (.val 16 (.pur 17 (.pur 18 (.pur 19 (.pur 20 (.val 21 (.eff 22 (.pur 23 (.pur 24 .fin)) .stop))))))))))))))))))))))) (by kernel_rfl) ?_
   rw [← hvw1]
   clear hvw1
   refine vcS_pure rfl rfl rfl (Sl.v a) (fun w=>by kernel_rfl) ?_
   refine vcS_pure rfl rfl rfl (Value.int .i64 i) (fun w=>by kernel_rfl) ?_
   obtain ⟨ad, hi, h⟩ := h
   refine vcS_pure rfl rfl rfl (Value.pointer (some (ad.add (i.toNat * 2)))) (fun w=>by exact exec_indexAt (s := a) (el := 81) rfl (by kernel_rfl) (by kernel_rfl) (by kernel_rfl) (fun w=>by kernel_rfl) (hi).1 (hi).2.1 (hi).2.2 w) ?_
   refine vcS_pure rfl rfl rfl (Value.pointer (some (ad.add (i.toNat * 2)))) (fun w=>by kernel_rfl) ?_
   obtain ⟨t21, hc, h⟩ := h
   refine vcS_val rfl rfl rfl (Value.string t21) (fun w' hx=>exec_load rfl (by kernel_rfl) (run_load1 (fun w=>by kernel_rfl) ((hc).ext hx))) ?_
   refine vcS_pure rfl rfl rfl (Sl.v b) (fun w=>by kernel_rfl) ?_
   refine vcS_pure rfl rfl rfl (Value.int .i64 i) (fun w=>by kernel_rfl) ?_
   obtain ⟨ad2, hi3, h⟩ := h
   refine vcS_pure rfl rfl rfl (Value.pointer (some (ad2.add (i.toNat * 2)))) (fun w=>by exact exec_indexAt (s := b) (el := 81) rfl (by kernel_rfl) (by kernel_rfl) (by kernel_rfl) (fun w=>by kernel_rfl) (hi3).1 (hi3).2.1 (hi3).2.2 w) ?_
   refine vcS_pure rfl rfl rfl (Value.pointer (some (ad2.add (i.toNat * 2)))) (fun w=>by kernel_rfl) ?_
   obtain ⟨t26, hc4, h⟩ := h
   refine vcS_val rfl rfl rfl (Value.string t26) (fun w' hx=>exec_load rfl (by kernel_rfl) (run_load1 (fun w=>by kernel_rfl) ((hc4).ext hx))) ?_
   refine vcS_pure rfl rfl rfl (Value.bool (!bEq t21 t26)) (fun w=>by kernel_rfl) ?_
   obtain ⟨b5, hb5⟩ : ∃ y, y = (!bEq t21 t26) := ⟨_, rfl⟩
   have h := h b5 hb5
   refine vcS_pure rfl rfl rfl (Value.bool b5) (fun w=>by rw [hb5]; kernel_rfl) ?_
   refine vcS_guard rfl (!b5) (wanted_g (d := 28) rfl (by kernel_rfl) b5 (by kernel_rfl) (!b5) (eqF b5)) rfl (Sl.v a) (fun hg w=>by simp only [Bool.and_eq_true, Bool.not_eq_true'] at hg; obtain rfl := hg; kernel_rfl) ?_
   refine vcS_guard rfl (!b5) (wanted_g (d := 28) rfl (by kernel_rfl) b5 (by kernel_rfl) (!b5) (eqF b5)) rfl (Value.int .i64 i) (fun hg w=>by simp only [Bool.and_eq_true, Bool.not_eq_true'] at hg; obtain rfl := hg; kernel_rfl) ?_
   obtain ⟨ad6, hi7, h⟩ := h
   refine vcS_guard rfl (!b5) (wanted_g (d := 28) rfl (by kernel_rfl) b5 (by kernel_rfl) (!b5) (eqF b5)) rfl (Value.pointer (some (ad6.add (i.toNat * 2)))) (fun hg w=>by simp only [Bool.and_eq_true, Bool.not_eq_true'] at hg; obtain rfl := hg; exact exec_indexAt (s := a) (el := 81) rfl (by kernel_rfl) (by kernel_rfl) (by kernel_rfl) (fun w=>by kernel_rfl) (hi7 rfl).1 (hi7 rfl).2.1 (hi7 rfl).2.2 w) ?_
   refine vcS_guard rfl (!b5) (wanted_g (d := 28) rfl (by kernel_rfl) b5 (by kernel_rfl) (!b5) (eqF b5)) rfl (Value.pointer (some ((ad6.add (i.toNat * 2)).add 1))) (fun hg w=>by simp only [Bool.and_eq_true, Bool.not_eq_true'] at hg; obtain rfl := hg; kernel_rfl) ?_
   obtain ⟨t33, hc8, h⟩ := h
   refine vcS_valG rfl (!b5) (wanted_g (d := 28) rfl (by kernel_rfl) b5 (by kernel_rfl) (!b5) (eqF b5)) rfl (Sl.v t33) (fun hg w' hx=>by simp only [Bool.and_eq_true, Bool.not_eq_true'] at hg; obtain rfl := hg; exact exec_load rfl (by kernel_rfl) (run_load1 (fun w=>by kernel_rfl) ((hc8 rfl).ext hx))) ?_
   refine vcS_guard rfl (!b5) (wanted_g (d := 28) rfl (by kernel_rfl) b5 (by kernel_rfl) (!b5) (eqF b5)) rfl (Sl.v b) (fun hg w=>by simp only [Bool.and_eq_true, Bool.not_eq_true'] at hg; obtain rfl := hg; kernel_rfl) ?_
   refine vcS_guard rfl (!b5) (wanted_g (d := 28) rfl (by kernel_rfl) b5 (by kernel_rfl) (!b5) (eqF b5)) rfl (Value.int .i64 i) (fun hg w=>by simp only [Bool.and_eq_true, Bool.not_eq_true'] at hg; obtain rfl := hg; kernel_rfl) ?_
   obtain ⟨ad9, hi10, h⟩ := h
   refine vcS_guard rfl (!b5) (wanted_g (d := 28) rfl (by kernel_rfl) b5 (by kernel_rfl) (!b5) (eqF b5)) rfl (Value.pointer (some (ad9.add (i.toNat * 2)))) (fun hg w=>by simp only [Bool.and_eq_true, Bool.not_eq_true'] at hg; obtain rfl := hg; exact exec_indexAt (s := b) (el := 81) rfl (by kernel_rfl) (by kernel_rfl) (by kernel_rfl) (fun w=>by kernel_rfl) (hi10 rfl).1 (hi10 rfl).2.1 (hi10 rfl).2.2 w) ?_
   refine vcS_guard rfl (!b5) (wanted_g (d := 28) rfl (by kernel_rfl) b5 (by kernel_rfl) (!b5) (eqF b5)) rfl (Value.pointer (some ((ad9.add (i.toNat * 2)).add 1))) (fun hg w=>by simp only [Bool.and_eq_true, Bool.not_eq_true'] at hg; obtain rfl := hg; kernel_rfl) ?_
   obtain ⟨t38, hc11, h⟩ := h
   refine vcS_valG rfl (!b5) (wanted_g (d := 28) rfl (by kernel_rfl) b5 (by kernel_rfl) (!b5) (eqF b5)) rfl (Sl.v t38) (fun hg w' hx=>by simp only [Bool.and_eq_true, Bool.not_eq_true'] at hg; obtain rfl := hg; exact exec_load rfl (by kernel_rfl) (run_load1 (fun w=>by kernel_rfl) ((hc11 rfl).ext hx))) ?_
   obtain ⟨vJ, hJ, h⟩ := gCall_elim h
   refine vcS_effJ (σ := Bool) rfl (!b5) (wanted_g (d := 28) rfl (by kernel_rfl) b5 (by kernel_rfl) (!b5) (eqF b5)) rfl (fun s w=>vJ s w) (fun s=>(Value.bool s)) ?_ (fun hg=>opVC_call rfl (by simp only [Bool.and_eq_true, Bool.not_eq_true'] at hg; obtain rfl := hg; kernel_rfl) (callS.mono (h.1 hg) fun v vw12 hq=>?_)) (fun hg=>⟨false, h.2 hg⟩) vcS_stop
   ·intro t39 vw12 h
    subst hJ
    refine vcS_guard rfl (!b5) (wanted_g (d := 28) rfl (by kernel_rfl) b5 (by kernel_rfl) (!b5) (eqF b5)) rfl (Value.bool (!t39)) (fun hg w=>by simp only [Bool.and_eq_true, Bool.not_eq_true'] at hg; obtain rfl := hg; kernel_rfl) ?_
    refine vcS_pure rfl rfl rfl (Value.bool (b5 || (!t39))) (fun w=>by cases b5 <;> kernel_rfl) ?_
    refine vcS_fin ?_
    refine Vc.cond (b5 || (!t39)) (by kernel_rfl) (fun hb=>?_) (fun hb=>?_)
    ·have h := h.1 (hb)
     refine Vc.seq ?_
     refine Vc.region ?_
     refine vcL_pure rfl rfl (Value.bool false) (fun w=>by kernel_rfl) ?_
     refine vcL_nil ?_
     refine Vc.ret ?_
     refine outOf_ret ?_
     refine outOf_ret ?_
     refine outs_ret ?_
     refine done_mk (Value.bool false) (res1 (resC_tmp (by kernel_rfl))) ?_
     exact ⟨false, rfl, h⟩
    ·have h := h.2 (hb)
     refine Vc.skip ?_
     refine Vc.region ?_
     refine vcL_purs 3 [(5, (Value.int .i64 (wrapI (i + 1)))), (16, (Value.int .i64 (wrapI (i + 1)))), (15, (Value.int .i64 i))] (by kernel_rfl) ?_
     refine vcL_nil ?_
     exact ⟨(wrapI (i + 1)), 65, ⟨rfl, by kernel_rfl, by kernel_rfl, by kernel_rfl⟩, h⟩
   ·obtain ⟨t39, rfl, hq⟩ := hq
    exact ⟨fun hb=>absurd hb (by decide), t39, rfl, hq⟩
  ·have h := h.2 (of_decide_eq_false hb)
   refine Vc.exit ?_
   refine outOf_hit ?_
   refine Vc.seq ?_
   refine Vc.region ?_
   refine vcL_pure rfl rfl (Value.bool true) (fun w=>by kernel_rfl) ?_
   refine vcL_nil ?_
   refine Vc.ret ?_
   refine outs_ret ?_
   refine done_mk (Value.bool true) (res1 (resC_tmp (by kernel_rfl))) ?_
   exact ⟨true, rfl, h⟩
theorem halyardref05_Deps.go {a : Sl} {b : Sl} {w : World} {k : Value → World → Prop} (h : halyardref05_Deps a b w fun r0 w'=>k (Value.bool r0) w') : callS Tryz.prog 42 [(Sl.v a), (Sl.v b)] w k := (halyardref05_Deps.sound a b w _ h).mono (by rintro _ _ ⟨r0, rfl, h⟩; exact h)
def halyardref09_Peers (zz4 : ByteArray) (zz5 : Int) (zz6 : Int) (zz7 : Int) (zz8 : Sl) (zza : Sl) (zz9 : Sl) (zz0 : Sl) (zz1 : Sl) (zz2 : Sl) (zz3 : Sl) (w : World) (R : Sl → World → Prop) : Prop :=
 newS w [(Value.string zz4), (Value.int .i64 zz5), (Value.int .i64 zz6), (Value.int .i64 zz7), (Sl.v zz8), (Sl.v zza), (Sl.v zz9)] 48 fun a vw=>newS vw [(Sl.v zz0), (Sl.v zz1), (Sl.v zz2), (Sl.v zz3)] 25 fun a1 vw2=>loop2 Sl.nil 0 vw2 fun out i vw3 nxt=>∃ (t9 : Sl), (ldc vw3 (a.add 5) [(Sl.v t9)]) ∧ ((i < (t9.len : Int) → bnd vw3.drew fun (vw4 : World)=>∃ (t16 : Sl), (ldc vw4 (a.add 5) [(Sl.v t16)]) ∧ ∃ (ad : Addr), (t16.a = some ad ∧ (0 : Int) ≤ i ∧ i < (t16.len : Int)) ∧ ∃ (t20 : ByteArray), (ldc vw4 (ad.add (i.toNat * 2)) [(Value.string t20)]) ∧ ∃ (zzp : Sl) (zz44 : Sl) (zzr : Sl) (zz45 : Sl), (ldc vw4 a1 [(Sl.v zzp), (Sl.v zz44), (Sl.v zzr), (Sl.v zz45)]) ∧ ∃ (t23 : Sl), (ldc vw4 (a.add 5) [(Sl.v t23)]) ∧ ∃ (ad9 : Addr), (t23.a = some ad9 ∧ (0 : Int) ≤ i ∧ i < (t23.len : Int)) ∧ ∃ (zz48 : ByteArray) (zz49 : Sl), (ldc vw4 (ad9.add (i.toNat * 2)) [(Value.string zz48), (Sl.v zz49)]) ∧ callX Tryz.prog 46 [(Value.agg #[(Sl.v zzp), (Sl.v zz44), (Sl.v zzr), (Sl.v zz45)]), (Value.agg #[(Value.string zz48), (Sl.v zz49)])] vw4 fun v vw12=>∃ (t27 : Sl), v = (Sl.v t27) ∧ newS vw12 [(Value.string t20), (Sl.v t27)] 81 fun a13 vw14=>appS Tryz.prog 23 23 out (Sl.v (Sl.mk (some a13) 1 1)) vw14 fun t30 vw15=>nxt t30 (wrapI (i + 1)) vw15) ∧ (¬ (i < (t9.len : Int)) → R out vw3))
set_option maxHeartbeats 8000000 in
theorem halyardref09_Peers.sound (zz4 : ByteArray) (zz5 : Int) (zz6 : Int) (zz7 : Int) (zz8 : Sl) (zza : Sl) (zz9 : Sl) (zz0 : Sl) (zz1 : Sl) (zz2 : Sl) (zz3 : Sl) (w : World) (R : Sl → World → Prop) (h : halyardref09_Peers zz4 zz5 zz6 zz7 zz8 zza zz9 zz0 zz1 zz2 zz3 w R) : callS Tryz.prog 43 [(Value.agg #[(Value.string zz4), (Value.int .i64 zz5), (Value.int .i64 zz6), (Value.int .i64 zz7), (Sl.v zz8), (Sl.v zza), (Sl.v zz9)]), (Value.agg #[(Sl.v zz0), (Sl.v zz1), (Sl.v zz2), (Sl.v zz3)])] w (fun v w'=>∃ (r0 : Sl), v = (Sl.v r0) ∧ R r0 w') := by
 unfold halyardref09_Peers at h
 refine calls_of_vc 32 rfl Tryz.func43 rfl (by kernel_rfl) (by simp) ?_
 refine Vc.seq ?_
 refine Vc.region ?_
 refine vcL_eff rfl (opVC_new rfl (fun a=>Value.pointer (some a)) (by kernel_rfl) (newS.mono h fun a vw hx h=>?_))
 refine vcL_eff rfl (opVC_new rfl (fun a=>Value.pointer (some a)) (by kernel_rfl) (newS.mono h fun a1 vw2 hx h=>?_))
 refine vcL_pure rfl rfl (Sl.v Sl.nil) (fun w=>by kernel_rfl) ?_
 refine vcL_nil ?_
 refine Vc.seq ?_
 refine Vc.region ?_
 refine vcL_pure rfl rfl (Sl.v Sl.nil) (fun w=>by kernel_rfl) ?_
 refine vcL_nil ?_
 refine Vc.seq ?_
 refine Vc.seq ?_
 refine Vc.region ?_
 refine vcL_pure rfl rfl (Value.int .i64 0) (fun w=>by kernel_rfl) ?_
 refine vcL_nil ?_
 refine Vc.block ?_
 obtain ⟨vI, mu, h, hr⟩ := h
 refine Vc.loopJ (σ := Sl × Int) [5, 6] [7, 8, 9, 10, 11, 12, 13, 14, 15, 16, 17, 18, 19, 20, 21, 22, 23, 24, 25, 26, 27, 28, 29, 30] (fun s=>[(5, (Sl.v s.1)), (6, (Value.int .i64 s.2))]) (fun s w=>vI s.1 s.2 w) (fun s w=>mu s.1 s.2 w) (Sl.nil, 0) h (fun _ => rfl) (by kernel_rfl) ?_
 rintro ⟨out, i⟩ vw3 j h
 have h := hr out i vw3 h
 refine Vc.seq ?_
 refine Vc.seq ?_
 refine Vc.region ?_
 refine vcL_purs 2 [(8, (Value.pointer (some (a.add 5)))), (7, (Value.int .i64 i))] (by kernel_rfl) ?_
 obtain ⟨t9, hc, h⟩ := h
 refine vcL_val rfl rfl (Sl.v t9) (exec_load rfl (by kernel_rfl) (run_load1 (fun w=>by kernel_rfl) ((hc)))) ?_
 refine vcL_purs 2 [(11, (Value.bool (decide (i < (t9.len : Int))))), (10, (Value.int .i64 (t9.len : Int)))] (by kernel_rfl) ?_
 refine vcL_nil ?_
 refine Vc.cond (decide (i < (t9.len : Int))) (by kernel_rfl) (fun hb=>?_) (fun hb=>?_)
 ·have h := h.1 (of_decide_eq_true hb)
  refine Vc.skip ?_
  refine Vc.seq ?_
  refine Vc.block ?_
  obtain ⟨vw4, hvw4⟩ : ∃ y, y = vw3.drew := ⟨_, rfl⟩
  have h := h vw4 hvw4
  refine Vc.draw (by kernel_rfl) (fun i=>!(memN [15, 16] i)) (.pur 0 (.pur 1 (.val 2 (.pur 3 (.pur 4 (.pur 5 (.val 6 (.val 7 (.pur 8 (.val 9 (.pur 10 (.pur 11 (.val 12 (.eff 13 (.pur 14 (.eff 15 (.eff 16 (.pur 17 .fin) .stop) .stop)) .stop)))))))))))))) (by kernel_rfl) ?_
  rw [← hvw4]
  clear hvw4
  refine vcS_pure rfl rfl rfl (Sl.v out) (fun w=>by kernel_rfl) ?_
  refine vcS_pure rfl rfl rfl (Value.pointer (some (a.add 5))) (fun w=>by kernel_rfl) ?_
  obtain ⟨t16, hc5, h⟩ := h
  refine vcS_val rfl rfl rfl (Sl.v t16) (fun w' hx=>exec_load rfl (by kernel_rfl) (run_load1 (fun w=>by kernel_rfl) ((hc5).ext hx))) ?_
  refine vcS_pure rfl rfl rfl (Value.int .i64 i) (fun w=>by kernel_rfl) ?_
  obtain ⟨ad, hi, h⟩ := h
  refine vcS_pure rfl rfl rfl (Value.pointer (some (ad.add (i.toNat * 2)))) (fun w=>by exact exec_indexAt (s := t16) (el := 81) rfl (by kernel_rfl) (by kernel_rfl) (by kernel_rfl) (fun w=>by kernel_rfl) (hi).1 (hi).2.1 (hi).2.2 w) ?_
  refine vcS_pure rfl rfl rfl (Value.pointer (some (ad.add (i.toNat * 2)))) (fun w=>by kernel_rfl) ?_
  obtain ⟨t20, hc6, h⟩ := h
  refine vcS_val rfl rfl rfl (Value.string t20) (fun w' hx=>exec_load rfl (by kernel_rfl) (run_load1 (fun w=>by kernel_rfl) ((hc6).ext hx))) ?_
  obtain ⟨zzp, zz44, zzr, zz45, hc7, h⟩ := h
  refine vcS_val rfl rfl rfl (Value.agg #[(Sl.v zzp), (Sl.v zz44), (Sl.v zzr), (Sl.v zz45)]) (fun w' hx=>exec_load rfl (by kernel_rfl) (run_loadN (fun w=>by kernel_rfl) (fun w=>by kernel_rfl) ((hc7).ext hx))) ?_
  refine vcS_pure rfl rfl rfl (Value.pointer (some (a.add 5))) (fun w=>by kernel_rfl) ?_
  obtain ⟨t23, hc8, h⟩ := h
  refine vcS_val rfl rfl rfl (Sl.v t23) (fun w' hx=>exec_load rfl (by kernel_rfl) (run_load1 (fun w=>by kernel_rfl) ((hc8).ext hx))) ?_
  refine vcS_pure rfl rfl rfl (Value.int .i64 i) (fun w=>by kernel_rfl) ?_
  obtain ⟨ad9, hi10, h⟩ := h
  refine vcS_pure rfl rfl rfl (Value.pointer (some (ad9.add (i.toNat * 2)))) (fun w=>by exact exec_indexAt (s := t23) (el := 81) rfl (by kernel_rfl) (by kernel_rfl) (by kernel_rfl) (fun w=>by kernel_rfl) (hi10).1 (hi10).2.1 (hi10).2.2 w) ?_
  obtain ⟨zz48, zz49, hc11, h⟩ := h
  refine vcS_val rfl rfl rfl (Value.agg #[(Value.string zz48), (Sl.v zz49)]) (fun w' hx=>exec_load rfl (by kernel_rfl) (run_loadN (fun w=>by kernel_rfl) (fun w=>by kernel_rfl) ((hc11).ext hx))) ?_
  refine vcS_eff rfl rfl (opVC_call rfl (by kernel_rfl) (callS.mono h fun v vw12 h=>?_)) vcS_stop
  obtain ⟨hx, h⟩ := h
  obtain ⟨t27, rfl, h⟩ := h
  refine ⟨fun _ => hx, ?_⟩
  refine vcS_pure rfl rfl rfl (Value.agg #[(Value.string t20), (Sl.v t27)]) (fun w=>by kernel_rfl) ?_
  refine vcS_eff rfl rfl (opVC_new rfl (fun a=>Value.slice (some a) 1 1) (by kernel_rfl) (newS.mono h fun a13 vw14 hx h=>?_)) vcS_stop
  refine ⟨fun hb=>absurd hb (by decide), ?_⟩
  refine vcS_eff rfl rfl (opVC_sem rfl (c := Builtin.append_ #[23, 23] 23 #[(Sl.v out), (Sl.v (Sl.mk (some a13) 1 1))]) (by kernel_rfl) (appS.elim (ty := 23) h fun t30 vw15 h=>?_)) vcS_stop
  refine ⟨fun hb=>absurd hb (by decide), ?_⟩
  refine vcS_pure rfl rfl rfl (Sl.v t30) (fun w=>by kernel_rfl) ?_
  refine vcS_fin ?_
  refine Vc.region ?_
  refine vcL_purs 3 [(6, (Value.int .i64 (wrapI (i + 1)))), (13, (Value.int .i64 (wrapI (i + 1)))), (12, (Value.int .i64 i))] (by kernel_rfl) ?_
  refine vcL_nil ?_
  exact ⟨(t30, (wrapI (i + 1))), 52, ⟨rfl, by kernel_rfl, by kernel_rfl, by kernel_rfl⟩, h⟩
 ·have h := h.2 (of_decide_eq_false hb)
  refine Vc.exit ?_
  refine outOf_hit ?_
  refine Vc.seq ?_
  refine Vc.region ?_
  refine vcL_purs 2 [(4, (Sl.v out)), (31, (Sl.v out))] (by kernel_rfl) ?_
  refine vcL_nil ?_
  refine Vc.ret ?_
  refine outs_ret ?_
  refine done_mk (Sl.v out) (res1 (resC_tmp (by kernel_rfl))) ?_
  exact ⟨out, rfl, h⟩
theorem halyardref09_Peers.go {zz4 : ByteArray} {zz5 : Int} {zz6 : Int} {zz7 : Int} {zz8 : Sl} {zza : Sl} {zz9 : Sl} {zz0 : Sl} {zz1 : Sl} {zz2 : Sl} {zz3 : Sl} {w : World} {k : Value → World → Prop} (h : halyardref09_Peers zz4 zz5 zz6 zz7 zz8 zza zz9 zz0 zz1 zz2 zz3 w fun r0 w'=>k (Sl.v r0) w') : callS Tryz.prog 43 [(Value.agg #[(Value.string zz4), (Value.int .i64 zz5), (Value.int .i64 zz6), (Value.int .i64 zz7), (Sl.v zz8), (Sl.v zza), (Sl.v zz9)]), (Value.agg #[(Sl.v zz0), (Sl.v zz1), (Sl.v zz2), (Sl.v zz3)])] w k := (halyardref09_Peers.sound zz4 zz5 zz6 zz7 zz8 zza zz9 zz0 zz1 zz2 zz3 w _ h).mono (by rintro _ _ ⟨r0, rfl, h⟩; exact h)
def wants_Range (zz0 : Sl) (zz1 : Sl) (zz2 : Sl) (zz3 : Sl) (zzh : ByteArray) (zzi : Sl) (w : World) (R : Sl → World → Prop) : Prop :=
 newS w [(Sl.v zz0), (Sl.v zz1), (Sl.v zz2), (Sl.v zz3)] 25 fun a vw=>newS vw [(Value.string zzh), (Sl.v zzi)] 81 fun a1 vw2=>∃ (t8 : Sl), (ldc vw2 (a.add 3) [(Sl.v t8)]) ∧ loop1 0 vw2 fun t10 vw3 nxt=>((t10 < (t8.len : Int) → ∃ (ad : Addr), (t8.a = some ad ∧ (0 : Int) ≤ t10 ∧ t10 < (t8.len : Int)) ∧ ∃ (zz2r : ByteArray) (zz2s : Sl), (ldc vw3 (ad.add (t10.toNat * 2)) [(Value.string zz2r), (Sl.v zz2s)]) ∧ newS vw3 [(Value.string (ByteArray.mk #[])), (Sl.v Sl.nil)] 81 fun a5 vw6=>stw vw6 a5 [(Value.string zz2r), (Sl.v zz2s)] fun vw7=>∃ (t15 : ByteArray), (ldc vw7 a5 [(Value.string t15)]) ∧ ∃ (t17 : ByteArray), (ldc vw7 a1 [(Value.string t17)]) ∧ ((t15 = t17 → ∃ (t20 : Sl), (ldc vw7 (a5.add 1) [(Sl.v t20)]) ∧ callS Tryz.prog 90 [(Sl.v t20)] vw7 fun v vw11=>∃ (t21 : Sl), v = (Sl.v t21) ∧ R t21 vw11) ∧ (¬ (t15 = t17) → nxt (wrapI (t10 + 1)) vw7))) ∧ (¬ (t10 < (t8.len : Int)) → ∃ (t24 : Sl), (ldc vw3 (a1.add 1) [(Sl.v t24)]) ∧ callS Tryz.prog 90 [(Sl.v t24)] vw3 fun v14 vw13=>∃ (t25 : Sl), v14 = (Sl.v t25) ∧ R t25 vw13))
set_option maxHeartbeats 8000000 in
theorem wants_Range.sound (zz0 : Sl) (zz1 : Sl) (zz2 : Sl) (zz3 : Sl) (zzh : ByteArray) (zzi : Sl) (w : World) (R : Sl → World → Prop) (h : wants_Range zz0 zz1 zz2 zz3 zzh zzi w R) : callS Tryz.prog 44 [(Value.agg #[(Sl.v zz0), (Sl.v zz1), (Sl.v zz2), (Sl.v zz3)]), (Value.agg #[(Value.string zzh), (Sl.v zzi)])] w (fun v w'=>∃ (r0 : Sl), v = (Sl.v r0) ∧ R r0 w') := by
 unfold wants_Range at h
 refine calls_of_vc 26 rfl Tryz.func44 rfl (by kernel_rfl) (by simp) ?_
 refine Vc.seq ?_
 refine Vc.region ?_
 refine vcL_eff rfl (opVC_new rfl (fun a=>Value.pointer (some a)) (by kernel_rfl) (newS.mono h fun a vw hx h=>?_))
 refine vcL_eff rfl (opVC_new rfl (fun a=>Value.pointer (some a)) (by kernel_rfl) (newS.mono h fun a1 vw2 hx h=>?_))
 refine vcL_pure rfl rfl (Sl.v Sl.nil) (fun w=>by kernel_rfl) ?_
 refine vcL_nil ?_
 refine Vc.seq ?_
 refine Vc.seq ?_
 refine Vc.region ?_
 refine vcL_pure rfl rfl (Value.pointer (some (a.add 3))) (fun w=>by kernel_rfl) ?_
 obtain ⟨t8, hc, h⟩ := h
 refine vcL_val rfl rfl (Sl.v t8) (exec_load rfl (by kernel_rfl) (run_load1 (fun w=>by kernel_rfl) ((hc)))) ?_
 refine vcL_purs 2 [(10, (Value.int .i64 0)), (9, (Value.int .i64 (t8.len : Int)))] (by kernel_rfl) ?_
 refine vcL_nil ?_
 refine Vc.block ?_
 obtain ⟨vI, mu, h, hr⟩ := h
 refine Vc.loopJ (σ := Int) [10] [4, 6, 11, 12, 13, 14, 15, 16, 17, 18, 19, 20, 21, 22] (fun s=>[(10, (Value.int .i64 s))]) (fun s w=>vI s w) (fun s w=>mu s w) 0 h (fun _ => rfl) (by kernel_rfl) ?_
 intro t10 vw3 j h
 have h := hr t10 vw3 h
 refine Vc.seq ?_
 refine Vc.region ?_
 refine vcL_pure rfl rfl (Value.bool (decide (t10 < (t8.len : Int)))) (fun w=>by kernel_rfl) ?_
 refine vcL_nil ?_
 refine Vc.seq ?_
 refine Vc.cond (decide (t10 < (t8.len : Int))) (by kernel_rfl) (fun hb=>?_) (fun hb=>?_)
 ·have h := h.1 (of_decide_eq_true hb)
  refine Vc.skip ?_
  refine Vc.seq ?_
  refine Vc.block ?_
  refine Vc.seq ?_
  refine Vc.region ?_
  obtain ⟨ad, hi, h⟩ := h
  refine vcL_pure rfl rfl (Value.pointer (some (ad.add (t10.toNat * 2)))) (fun w=>by exact exec_indexAt (s := t8) (el := 81) rfl (by kernel_rfl) (by kernel_rfl) (by kernel_rfl) (fun w=>by kernel_rfl) (hi).1 (hi).2.1 (hi).2.2 w) ?_
  obtain ⟨zz2r, zz2s, hc4, h⟩ := h
  refine vcL_val rfl rfl (Value.agg #[(Value.string zz2r), (Sl.v zz2s)]) (exec_load rfl (by kernel_rfl) (run_loadN (fun w=>by kernel_rfl) (fun w=>by kernel_rfl) ((hc4)))) ?_
  refine vcL_eff rfl (opVC_new rfl (fun a=>Value.pointer (some a)) (by kernel_rfl) (newS.mono h fun a5 vw6 hx h=>?_))
  refine vcL_eff rfl (opVC_store rfl rfl (a := a5) (by kernel_rfl) (v := (Value.agg #[(Value.string zz2r), (Sl.v zz2s)])) (by kernel_rfl) [(Value.string zz2r), (Sl.v zz2s)] (by kernel_rfl) (fun w=>by kernel_rfl) (by kernel_rfl) (stw.mono h fun vw7 h=>?_))
  refine vcL_nil ?_
  refine Vc.seq ?_
  refine Vc.region ?_
  refine vcL_pure rfl rfl (Value.pointer (some a5)) (fun w=>by kernel_rfl) ?_
  obtain ⟨t15, hc8, h⟩ := h
  refine vcL_val rfl rfl (Value.string t15) (exec_load rfl (by kernel_rfl) (run_load1 (fun w=>by kernel_rfl) ((hc8)))) ?_
  refine vcL_pure rfl rfl (Value.pointer (some a1)) (fun w=>by kernel_rfl) ?_
  obtain ⟨t17, hc9, h⟩ := h
  refine vcL_val rfl rfl (Value.string t17) (exec_load rfl (by kernel_rfl) (run_load1 (fun w=>by kernel_rfl) ((hc9)))) ?_
  refine vcL_pure rfl rfl (Value.bool (bEq t15 t17)) (fun w=>by kernel_rfl) ?_
  refine vcL_nil ?_
  refine Vc.cond (bEq t15 t17) (by kernel_rfl) (fun hb=>?_) (fun hb=>?_)
  ·have h := h.1 (bEq_iff.1 hb)
   refine Vc.seq ?_
   refine Vc.region ?_
   refine vcL_pure rfl rfl (Value.pointer (some (a5.add 1))) (fun w=>by kernel_rfl) ?_
   obtain ⟨t20, hc10, h⟩ := h
   refine vcL_val rfl rfl (Sl.v t20) (exec_load rfl (by kernel_rfl) (run_load1 (fun w=>by kernel_rfl) ((hc10)))) ?_
   refine vcL_eff rfl (opVC_call rfl (by kernel_rfl) (callS.mono h fun v vw11 h=>?_))
   obtain ⟨t21, rfl, h⟩ := h
   refine vcL_pure rfl rfl (Sl.v t21) (fun w=>by kernel_rfl) ?_
   refine vcL_nil ?_
   refine Vc.ret ?_
   refine outOf_ret ?_
   refine outOf_ret ?_
   refine outs_ret ?_
   refine done_mk (Sl.v t21) (res1 (resC_tmp (by kernel_rfl))) ?_
   exact ⟨t21, rfl, h⟩
  ·have h := h.2 (bEq_false.1 hb)
   refine Vc.skip ?_
   refine Vc.region ?_
   refine vcL_purs 2 [(10, (Value.int .i64 (wrapI (t10 + 1)))), (22, (Value.int .i64 (wrapI (t10 + 1))))] (by kernel_rfl) ?_
   refine vcL_nil ?_
   exact ⟨(wrapI (t10 + 1)), 26, ⟨rfl, by kernel_rfl, by kernel_rfl, by kernel_rfl⟩, h⟩
 ·have h := h.2 (of_decide_eq_false hb)
  refine Vc.exit ?_
  refine outOf_hit ?_
  refine Vc.seq ?_
  refine Vc.region ?_
  refine vcL_pure rfl rfl (Value.pointer (some (a1.add 1))) (fun w=>by kernel_rfl) ?_
  obtain ⟨t24, hc12, h⟩ := h
  refine vcL_val rfl rfl (Sl.v t24) (exec_load rfl (by kernel_rfl) (run_load1 (fun w=>by kernel_rfl) ((hc12)))) ?_
  refine vcL_eff rfl (opVC_call rfl (by kernel_rfl) (callS.mono h fun v14 vw13 h=>?_))
  obtain ⟨t25, rfl, h⟩ := h
  refine vcL_pure rfl rfl (Sl.v t25) (fun w=>by kernel_rfl) ?_
  refine vcL_nil ?_
  refine Vc.ret ?_
  refine outs_ret ?_
  refine done_mk (Sl.v t25) (res1 (resC_tmp (by kernel_rfl))) ?_
  exact ⟨t25, rfl, h⟩
theorem wants_Range.go {zz0 : Sl} {zz1 : Sl} {zz2 : Sl} {zz3 : Sl} {zzh : ByteArray} {zzi : Sl} {w : World} {k : Value → World → Prop} (h : wants_Range zz0 zz1 zz2 zz3 zzh zzi w fun r0 w'=>k (Sl.v r0) w') : callS Tryz.prog 44 [(Value.agg #[(Sl.v zz0), (Sl.v zz1), (Sl.v zz2), (Sl.v zz3)]), (Value.agg #[(Value.string zzh), (Sl.v zzi)])] w k := (wants_Range.sound zz0 zz1 zz2 zz3 zzh zzi w _ h).mono (by rintro _ _ ⟨r0, rfl, h⟩; exact h)
def halyardref05_Spans (a : Sl) (b : Sl) (w : World) (R : Bool → World → Prop) : Prop :=
 ((¬ (a.len : Int) = (b.len : Int) → R false w) ∧ (¬ (¬ (a.len : Int) = (b.len : Int)) → loop1 0 w fun i vw nxt=>((i < (a.len : Int) → bnd vw.drew fun (vw1 : World)=>∃ (ad : Addr), (a.a = some ad ∧ (0 : Int) ≤ i ∧ i < (a.len : Int)) ∧ ∃ (zz1v : Int) (zz1w : Int) (zz1x : Int) (zz1s : Int) (zz1t : Int) (zz1u : Int), (ldc vw1 (ad.add (i.toNat * 6)) [(Value.int .i64 zz1v), (Value.int .i64 zz1w), (Value.int .i64 zz1x), (Value.int .i64 zz1s), (Value.int .i64 zz1t), (Value.int .i64 zz1u)]) ∧ ∃ (ad2 : Addr), (b.a = some ad2 ∧ (0 : Int) ≤ i ∧ i < (b.len : Int)) ∧ ∃ (zz21 : Int) (zz22 : Int) (zz23 : Int) (zz1y : Int) (zz1z : Int) (zz20 : Int), (ldc vw1 (ad2.add (i.toNat * 6)) [(Value.int .i64 zz21), (Value.int .i64 zz22), (Value.int .i64 zz23), (Value.int .i64 zz1y), (Value.int .i64 zz1z), (Value.int .i64 zz20)]) ∧ (((!(((zz1v == zz21) && ((zz1w == zz22) && ((zz1x == zz23) && true))) && (((zz1s == zz1y) && ((zz1t == zz1z) && ((zz1u == zz20) && true))) && true))) = true → R false vw1) ∧ ((!(((zz1v == zz21) && ((zz1w == zz22) && ((zz1x == zz23) && true))) && (((zz1s == zz1y) && ((zz1t == zz1z) && ((zz1u == zz20) && true))) && true))) = false → nxt (wrapI (i + 1)) vw1))) ∧ (¬ (i < (a.len : Int)) → R true vw))))
set_option maxHeartbeats 8000000 in
theorem halyardref05_Spans.sound (a : Sl) (b : Sl) (w : World) (R : Bool → World → Prop) (h : halyardref05_Spans a b w R) : callS Tryz.prog 45 [(Sl.v a), (Sl.v b)] w (fun v w'=>∃ (r0 : Bool), v = (Value.bool r0) ∧ R r0 w') := by
 unfold halyardref05_Spans at h
 refine calls_of_vc 26 rfl Tryz.func45 rfl (by kernel_rfl) (by simp) ?_
 refine Vc.seq ?_
 refine Vc.region ?_
 refine vcL_pure rfl rfl (Value.bool false) (fun w=>by kernel_rfl) ?_
 refine vcL_nil ?_
 refine Vc.seq ?_
 refine Vc.seq ?_
 refine Vc.region ?_
 refine vcL_purs 5 [(10, (Value.bool (!((a.len : Int) == (b.len : Int))))), (9, (Value.int .i64 (b.len : Int))), (8, (Sl.v b)), (7, (Value.int .i64 (a.len : Int))), (6, (Sl.v a))] (by kernel_rfl) ?_
 refine vcL_nil ?_
 refine Vc.cond (!((a.len : Int) == (b.len : Int))) (by kernel_rfl) (fun hb=>?_) (fun hb=>?_)
 ·have h := h.1 (ne_of_nbeq hb)
  refine Vc.seq ?_
  refine Vc.region ?_
  refine vcL_pure rfl rfl (Value.bool false) (fun w=>by kernel_rfl) ?_
  refine vcL_nil ?_
  refine Vc.ret ?_
  refine outs_ret ?_
  refine done_mk (Value.bool false) (res1 (resC_tmp (by kernel_rfl))) ?_
  exact ⟨false, rfl, h⟩
 ·have h := h.2 (nne_of_nbeq hb)
  refine Vc.skip ?_
  refine Vc.seq ?_
  refine Vc.seq ?_
  refine Vc.region ?_
  refine vcL_pure rfl rfl (Value.int .i64 0) (fun w=>by kernel_rfl) ?_
  refine vcL_nil ?_
  refine Vc.block ?_
  obtain ⟨vI, mu, h, hr⟩ := h
  refine Vc.loopJ (σ := Int) [5] [4, 11, 12, 13, 14, 15, 16, 17, 18, 19, 20, 21, 22, 23, 24, 25] (fun s=>[(5, (Value.int .i64 s))]) (fun s w=>vI s w) (fun s w=>mu s w) 0 h (fun _ => rfl) (by kernel_rfl) ?_
  intro i vw j h
  have h := hr i vw h
  refine Vc.seq ?_
  refine Vc.seq ?_
  refine Vc.region ?_
  refine vcL_purs 4 [(14, (Value.bool (decide (i < (a.len : Int))))), (13, (Value.int .i64 (a.len : Int))), (12, (Sl.v a)), (11, (Value.int .i64 i))] (by kernel_rfl) ?_
  refine vcL_nil ?_
  refine Vc.cond (decide (i < (a.len : Int))) (by kernel_rfl) (fun hb=>?_) (fun hb=>?_)
  ·have h := h.1 (of_decide_eq_true hb)
   refine Vc.skip ?_
   refine Vc.seq ?_
   refine Vc.block ?_
   refine Vc.seq ?_
   obtain ⟨vw1, hvw1⟩ : ∃ y, y = vw.drew := ⟨_, rfl⟩
   have h := h vw1 hvw1
   refine Vc.draw (by kernel_rfl) (fun i=>!(memN [] i)) (.pur 0 (.pur 1 (.pur 2 (.val 3 (.pur 4 (.pur 5 (.pur 6 (.val 7 (.pur 8 .fin))))))))) (by kernel_rfl) ?_
   rw [← hvw1]
   clear hvw1
   refine vcS_pure rfl rfl rfl (Sl.v a) (fun w=>by kernel_rfl) ?_
   refine vcS_pure rfl rfl rfl (Value.int .i64 i) (fun w=>by kernel_rfl) ?_
   obtain ⟨ad, hi, h⟩ := h
   refine vcS_pure rfl rfl rfl (Value.pointer (some (ad.add (i.toNat * 6)))) (fun w=>by exact exec_indexAt (s := a) (el := 83) rfl (by kernel_rfl) (by kernel_rfl) (by kernel_rfl) (fun w=>by kernel_rfl) (hi).1 (hi).2.1 (hi).2.2 w) ?_
   obtain ⟨zz1v, zz1w, zz1x, zz1s, zz1t, zz1u, hc, h⟩ := h
   refine vcS_val rfl rfl rfl (Value.agg #[(Value.int .i64 zz1v), (Value.int .i64 zz1w), (Value.int .i64 zz1x), (Value.int .i64 zz1s), (Value.int .i64 zz1t), (Value.int .i64 zz1u)]) (fun w' hx=>exec_load rfl (by kernel_rfl) (run_loadN (fun w=>by kernel_rfl) (fun w=>by kernel_rfl) ((hc).ext hx))) ?_
   refine vcS_pure rfl rfl rfl (Sl.v b) (fun w=>by kernel_rfl) ?_
   refine vcS_pure rfl rfl rfl (Value.int .i64 i) (fun w=>by kernel_rfl) ?_
   obtain ⟨ad2, hi3, h⟩ := h
   refine vcS_pure rfl rfl rfl (Value.pointer (some (ad2.add (i.toNat * 6)))) (fun w=>by exact exec_indexAt (s := b) (el := 83) rfl (by kernel_rfl) (by kernel_rfl) (by kernel_rfl) (fun w=>by kernel_rfl) (hi3).1 (hi3).2.1 (hi3).2.2 w) ?_
   obtain ⟨zz21, zz22, zz23, zz1y, zz1z, zz20, hc4, h⟩ := h
   refine vcS_val rfl rfl rfl (Value.agg #[(Value.int .i64 zz21), (Value.int .i64 zz22), (Value.int .i64 zz23), (Value.int .i64 zz1y), (Value.int .i64 zz1z), (Value.int .i64 zz20)]) (fun w' hx=>exec_load rfl (by kernel_rfl) (run_loadN (fun w=>by kernel_rfl) (fun w=>by kernel_rfl) ((hc4).ext hx))) ?_
   refine vcS_pure rfl rfl rfl (Value.bool (!(((zz1v == zz21) && ((zz1w == zz22) && ((zz1x == zz23) && true))) && (((zz1s == zz1y) && ((zz1t == zz1z) && ((zz1u == zz20) && true))) && true)))) (fun w=>by exact exec_struct_neq rfl (by kernel_rfl) (by kernel_rfl) (by kernel_rfl) (eqv_83 9997 zz1v zz1w zz1x zz1s zz1t zz1u zz21 zz22 zz23 zz1y zz1z zz20 w)) ?_
   refine vcS_fin ?_
   refine Vc.cond (!(((zz1v == zz21) && ((zz1w == zz22) && ((zz1x == zz23) && true))) && (((zz1s == zz1y) && ((zz1t == zz1z) && ((zz1u == zz20) && true))) && true))) (by kernel_rfl) (fun hb=>?_) (fun hb=>?_)
   ·have h := h.1 (hb)
    refine Vc.seq ?_
    refine Vc.region ?_
    refine vcL_pure rfl rfl (Value.bool false) (fun w=>by kernel_rfl) ?_
    refine vcL_nil ?_
    refine Vc.ret ?_
    refine outOf_ret ?_
    refine outOf_ret ?_
    refine outs_ret ?_
    refine done_mk (Value.bool false) (res1 (resC_tmp (by kernel_rfl))) ?_
    exact ⟨false, rfl, h⟩
   ·have h := h.2 (hb)
    refine Vc.skip ?_
    refine Vc.region ?_
    refine vcL_purs 3 [(5, (Value.int .i64 (wrapI (i + 1)))), (16, (Value.int .i64 (wrapI (i + 1)))), (15, (Value.int .i64 i))] (by kernel_rfl) ?_
    refine vcL_nil ?_
    exact ⟨(wrapI (i + 1)), 33, ⟨rfl, by kernel_rfl, by kernel_rfl, by kernel_rfl⟩, h⟩
  ·have h := h.2 (of_decide_eq_false hb)
   refine Vc.exit ?_
   refine outOf_hit ?_
   refine Vc.seq ?_
   refine Vc.region ?_
   refine vcL_pure rfl rfl (Value.bool true) (fun w=>by kernel_rfl) ?_
   refine vcL_nil ?_
   refine Vc.ret ?_
   refine outs_ret ?_
   refine done_mk (Value.bool true) (res1 (resC_tmp (by kernel_rfl))) ?_
   exact ⟨true, rfl, h⟩
theorem halyardref05_Spans.go {a : Sl} {b : Sl} {w : World} {k : Value → World → Prop} (h : halyardref05_Spans a b w fun r0 w'=>k (Value.bool r0) w') : callS Tryz.prog 45 [(Sl.v a), (Sl.v b)] w k := (halyardref05_Spans.sound a b w _ h).mono (by rintro _ _ ⟨r0, rfl, h⟩; exact h)
def halyardref09_Range (zz0 : Sl) (zz1 : Sl) (zz2 : Sl) (zz3 : Sl) (zzh : ByteArray) (zzi : Sl) (w : World) (R : Sl → World → Prop) : Prop :=
 newS w [(Sl.v zz0), (Sl.v zz1), (Sl.v zz2), (Sl.v zz3)] 25 fun a vw=>newS vw [(Value.string zzh), (Sl.v zzi)] 81 fun a1 vw2=>loop1 0 vw2 fun i vw3 nxt=>∃ (t8 : Sl), (ldc vw3 (a.add 3) [(Sl.v t8)]) ∧ ((i < (t8.len : Int) → bnd vw3.drew fun (vw4 : World)=>∃ (t14 : Sl), (ldc vw4 (a.add 3) [(Sl.v t14)]) ∧ ∃ (ad : Addr), (t14.a = some ad ∧ (0 : Int) ≤ i ∧ i < (t14.len : Int)) ∧ ∃ (t18 : ByteArray), (ldc vw4 (ad.add (i.toNat * 2)) [(Value.string t18)]) ∧ ∃ (t20 : ByteArray), (ldc vw4 a1 [(Value.string t20)]) ∧ ((t18 = t20 → ∃ (t23 : Sl), (ldc vw4 (a.add 3) [(Sl.v t23)]) ∧ ∃ (ad9 : Addr), (t23.a = some ad9 ∧ (0 : Int) ≤ i ∧ i < (t23.len : Int)) ∧ ∃ (t27 : Sl), (ldc vw4 ((ad9.add (i.toNat * 2)).add 1) [(Sl.v t27)]) ∧ R t27 vw4) ∧ (¬ (t18 = t20) → nxt (wrapI (i + 1)) vw4))) ∧ (¬ (i < (t8.len : Int)) → ∃ (t29 : Sl), (ldc vw3 (a1.add 1) [(Sl.v t29)]) ∧ R t29 vw3))
set_option maxHeartbeats 8000000 in
theorem halyardref09_Range.sound (zz0 : Sl) (zz1 : Sl) (zz2 : Sl) (zz3 : Sl) (zzh : ByteArray) (zzi : Sl) (w : World) (R : Sl → World → Prop) (h : halyardref09_Range zz0 zz1 zz2 zz3 zzh zzi w R) : callS Tryz.prog 46 [(Value.agg #[(Sl.v zz0), (Sl.v zz1), (Sl.v zz2), (Sl.v zz3)]), (Value.agg #[(Value.string zzh), (Sl.v zzi)])] w (fun v w'=>∃ (r0 : Sl), v = (Sl.v r0) ∧ R r0 w') := by
 unfold halyardref09_Range at h
 refine calls_of_vc 30 rfl Tryz.func46 rfl (by kernel_rfl) (by simp) ?_
 refine Vc.seq ?_
 refine Vc.region ?_
 refine vcL_eff rfl (opVC_new rfl (fun a=>Value.pointer (some a)) (by kernel_rfl) (newS.mono h fun a vw hx h=>?_))
 refine vcL_eff rfl (opVC_new rfl (fun a=>Value.pointer (some a)) (by kernel_rfl) (newS.mono h fun a1 vw2 hx h=>?_))
 refine vcL_pure rfl rfl (Sl.v Sl.nil) (fun w=>by kernel_rfl) ?_
 refine vcL_nil ?_
 refine Vc.seq ?_
 refine Vc.seq ?_
 refine Vc.region ?_
 refine vcL_pure rfl rfl (Value.int .i64 0) (fun w=>by kernel_rfl) ?_
 refine vcL_nil ?_
 refine Vc.block ?_
 obtain ⟨vI, mu, h, hr⟩ := h
 refine Vc.loopJ (σ := Int) [5] [4, 6, 7, 8, 9, 10, 11, 12, 13, 14, 15, 16, 17, 18, 19, 20, 21, 22, 23, 24, 25, 26, 27] (fun s=>[(5, (Value.int .i64 s))]) (fun s w=>vI s w) (fun s w=>mu s w) 0 h (fun _ => rfl) (by kernel_rfl) ?_
 intro i vw3 j h
 have h := hr i vw3 h
 refine Vc.seq ?_
 refine Vc.seq ?_
 refine Vc.region ?_
 refine vcL_purs 2 [(7, (Value.pointer (some (a.add 3)))), (6, (Value.int .i64 i))] (by kernel_rfl) ?_
 obtain ⟨t8, hc, h⟩ := h
 refine vcL_val rfl rfl (Sl.v t8) (exec_load rfl (by kernel_rfl) (run_load1 (fun w=>by kernel_rfl) ((hc)))) ?_
 refine vcL_purs 2 [(10, (Value.bool (decide (i < (t8.len : Int))))), (9, (Value.int .i64 (t8.len : Int)))] (by kernel_rfl) ?_
 refine vcL_nil ?_
 refine Vc.cond (decide (i < (t8.len : Int))) (by kernel_rfl) (fun hb=>?_) (fun hb=>?_)
 ·have h := h.1 (of_decide_eq_true hb)
  refine Vc.skip ?_
  refine Vc.seq ?_
  refine Vc.block ?_
  refine Vc.seq ?_
  obtain ⟨vw4, hvw4⟩ : ∃ y, y = vw3.drew := ⟨_, rfl⟩
  have h := h vw4 hvw4
  refine Vc.draw (by kernel_rfl) (fun i=>!(memN [] i)) (.pur 0 (.val 1 (.pur 2 (.pur 3 (.pur 4 (.val 5 (.pur 6 (.val 7 (.pur 8 .fin))))))))) (by kernel_rfl) ?_
  rw [← hvw4]
  clear hvw4
  refine vcS_pure rfl rfl rfl (Value.pointer (some (a.add 3))) (fun w=>by kernel_rfl) ?_
  obtain ⟨t14, hc5, h⟩ := h
  refine vcS_val rfl rfl rfl (Sl.v t14) (fun w' hx=>exec_load rfl (by kernel_rfl) (run_load1 (fun w=>by kernel_rfl) ((hc5).ext hx))) ?_
  refine vcS_pure rfl rfl rfl (Value.int .i64 i) (fun w=>by kernel_rfl) ?_
  obtain ⟨ad, hi, h⟩ := h
  refine vcS_pure rfl rfl rfl (Value.pointer (some (ad.add (i.toNat * 2)))) (fun w=>by exact exec_indexAt (s := t14) (el := 81) rfl (by kernel_rfl) (by kernel_rfl) (by kernel_rfl) (fun w=>by kernel_rfl) (hi).1 (hi).2.1 (hi).2.2 w) ?_
  refine vcS_pure rfl rfl rfl (Value.pointer (some (ad.add (i.toNat * 2)))) (fun w=>by kernel_rfl) ?_
  obtain ⟨t18, hc6, h⟩ := h
  refine vcS_val rfl rfl rfl (Value.string t18) (fun w' hx=>exec_load rfl (by kernel_rfl) (run_load1 (fun w=>by kernel_rfl) ((hc6).ext hx))) ?_
  refine vcS_pure rfl rfl rfl (Value.pointer (some a1)) (fun w=>by kernel_rfl) ?_
  obtain ⟨t20, hc7, h⟩ := h
  refine vcS_val rfl rfl rfl (Value.string t20) (fun w' hx=>exec_load rfl (by kernel_rfl) (run_load1 (fun w=>by kernel_rfl) ((hc7).ext hx))) ?_
  refine vcS_pure rfl rfl rfl (Value.bool (bEq t18 t20)) (fun w=>by kernel_rfl) ?_
  refine vcS_fin ?_
  refine Vc.cond (bEq t18 t20) (by kernel_rfl) (fun hb=>?_) (fun hb=>?_)
  ·have h := h.1 (bEq_iff.1 hb)
   refine Vc.seq ?_
   refine Vc.region ?_
   refine vcL_pure rfl rfl (Value.pointer (some (a.add 3))) (fun w=>by kernel_rfl) ?_
   obtain ⟨t23, hc8, h⟩ := h
   refine vcL_val rfl rfl (Sl.v t23) (exec_load rfl (by kernel_rfl) (run_load1 (fun w=>by kernel_rfl) ((hc8)))) ?_
   refine vcL_pure rfl rfl (Value.int .i64 i) (fun w=>by kernel_rfl) ?_
   obtain ⟨ad9, hi10, h⟩ := h
   refine vcL_pure rfl rfl (Value.pointer (some (ad9.add (i.toNat * 2)))) (fun w=>by exact exec_indexAt (s := t23) (el := 81) rfl (by kernel_rfl) (by kernel_rfl) (by kernel_rfl) (fun w=>by kernel_rfl) (hi10).1 (hi10).2.1 (hi10).2.2 w) ?_
   refine vcL_pure rfl rfl (Value.pointer (some ((ad9.add (i.toNat * 2)).add 1))) (fun w=>by kernel_rfl) ?_
   obtain ⟨t27, hc11, h⟩ := h
   refine vcL_val rfl rfl (Sl.v t27) (exec_load rfl (by kernel_rfl) (run_load1 (fun w=>by kernel_rfl) ((hc11)))) ?_
   refine vcL_pure rfl rfl (Sl.v t27) (fun w=>by kernel_rfl) ?_
   refine vcL_nil ?_
   refine Vc.ret ?_
   refine outOf_ret ?_
   refine outOf_ret ?_
   refine outs_ret ?_
   refine done_mk (Sl.v t27) (res1 (resC_tmp (by kernel_rfl))) ?_
   exact ⟨t27, rfl, h⟩
  ·have h := h.2 (bEq_false.1 hb)
   refine Vc.skip ?_
   refine Vc.region ?_
   refine vcL_purs 3 [(5, (Value.int .i64 (wrapI (i + 1)))), (12, (Value.int .i64 (wrapI (i + 1)))), (11, (Value.int .i64 i))] (by kernel_rfl) ?_
   refine vcL_nil ?_
   exact ⟨(wrapI (i + 1)), 41, ⟨rfl, by kernel_rfl, by kernel_rfl, by kernel_rfl⟩, h⟩
 ·have h := h.2 (of_decide_eq_false hb)
  refine Vc.exit ?_
  refine outOf_hit ?_
  refine Vc.seq ?_
  refine Vc.region ?_
  refine vcL_pure rfl rfl (Value.pointer (some (a1.add 1))) (fun w=>by kernel_rfl) ?_
  obtain ⟨t29, hc12, h⟩ := h
  refine vcL_val rfl rfl (Sl.v t29) (exec_load rfl (by kernel_rfl) (run_load1 (fun w=>by kernel_rfl) ((hc12)))) ?_
  refine vcL_pure rfl rfl (Sl.v t29) (fun w=>by kernel_rfl) ?_
  refine vcL_nil ?_
  refine Vc.ret ?_
  refine outs_ret ?_
  refine done_mk (Sl.v t29) (res1 (resC_tmp (by kernel_rfl))) ?_
  exact ⟨t29, rfl, h⟩
theorem halyardref09_Range.go {zz0 : Sl} {zz1 : Sl} {zz2 : Sl} {zz3 : Sl} {zzh : ByteArray} {zzi : Sl} {w : World} {k : Value → World → Prop} (h : halyardref09_Range zz0 zz1 zz2 zz3 zzh zzi w fun r0 w'=>k (Sl.v r0) w') : callS Tryz.prog 46 [(Value.agg #[(Sl.v zz0), (Sl.v zz1), (Sl.v zz2), (Sl.v zz3)]), (Value.agg #[(Value.string zzh), (Sl.v zzi)])] w k := (halyardref09_Range.sound zz0 zz1 zz2 zz3 zzh zzi w _ h).mono (by rintro _ _ ⟨r0, rfl, h⟩; exact h)
def halyardref03_All (w : World) (R : Sl → World → Prop) : Prop :=
 callS Tryz.prog 96 [(Value.int .i64 0)] w fun v vw=>∃ (zz41 : Int) (zz42 : Int) (zz43 : Int), v = (Value.agg #[(Value.int .i64 zz41), (Value.int .i64 zz42), (Value.int .i64 zz43)]) ∧ callS Tryz.prog 96 [(Value.int .i64 999999999)] vw fun v2 vw1=>∃ (zz4e : Int) (zz4f : Int) (zz4g : Int), v2 = (Value.agg #[(Value.int .i64 zz4e), (Value.int .i64 zz4f), (Value.int .i64 zz4g)]) ∧ newS vw1 [(Value.int .i64 zz41), (Value.int .i64 zz42), (Value.int .i64 zz43), (Value.int .i64 zz4e), (Value.int .i64 zz4f), (Value.int .i64 zz4g)] 83 fun a vw4=>R (Sl.mk (some a) 1 1) vw4
set_option maxHeartbeats 8000000 in
theorem halyardref03_All.sound (w : World) (R : Sl → World → Prop) (h : halyardref03_All w R) : callS Tryz.prog 49 [] w (fun v w'=>∃ (r0 : Sl), v = (Sl.v r0) ∧ R r0 w') := by
 unfold halyardref03_All at h
 refine calls_of_vc 5 rfl Tryz.func49 rfl (by kernel_rfl) (by simp) ?_
 refine Vc.seq ?_
 refine Vc.region ?_
 refine vcL_pure rfl rfl (Sl.v Sl.nil) (fun w=>by kernel_rfl) ?_
 refine vcL_nil ?_
 refine Vc.seq ?_
 refine Vc.region ?_
 refine vcL_eff rfl (opVC_call rfl (by kernel_rfl) (callS.mono h fun v vw h=>?_))
 obtain ⟨zz41, zz42, zz43, rfl, h⟩ := h
 refine vcL_eff rfl (opVC_call rfl (by kernel_rfl) (callS.mono h fun v2 vw1 h=>?_))
 obtain ⟨zz4e, zz4f, zz4g, rfl, h⟩ := h
 refine vcL_pure rfl rfl (Value.agg #[(Value.int .i64 zz41), (Value.int .i64 zz42), (Value.int .i64 zz43), (Value.int .i64 zz4e), (Value.int .i64 zz4f), (Value.int .i64 zz4g)]) (fun w=>by kernel_rfl) ?_
 refine vcL_eff rfl (opVC_new rfl (fun a=>Value.slice (some a) 1 1) (by kernel_rfl) (newS.mono h fun a vw4 hx h=>?_))
 refine vcL_pure rfl rfl (Sl.v (Sl.mk (some a) 1 1)) (fun w=>by kernel_rfl) ?_
 refine vcL_nil ?_
 refine Vc.ret ?_
 refine outs_ret ?_
 refine done_mk (Sl.v (Sl.mk (some a) 1 1)) (res1 (resC_tmp (by kernel_rfl))) ?_
 exact ⟨(Sl.mk (some a) 1 1), rfl, h⟩
theorem halyardref03_All.go {w : World} {k : Value → World → Prop} (h : halyardref03_All w fun r0 w'=>k (Sl.v r0) w') : callS Tryz.prog 49 [] w k := (halyardref03_All.sound w _ h).mono (by rintro _ _ ⟨r0, rfl, h⟩; exact h)
def wants_Context_1 (name : ByteArray) (w : World) (R : Value → World → Prop) : Prop :=
 newS w [(Value.string name)] 9 fun a vw=>R (Value.func (.func 51) #[] #[(Value.pointer (some a))]) vw
set_option maxHeartbeats 8000000 in
theorem wants_Context_1.sound (name : ByteArray) (w : World) (R : Value → World → Prop) (h : wants_Context_1 name w R) : callS Tryz.prog 50 [(Value.string name)] w (fun v w'=>∃ (r0 : Value), v = r0 ∧ R r0 w') := by
 unfold wants_Context_1 at h
 refine calls_of_vc 4 rfl Tryz.func50 rfl (by kernel_rfl) (by simp) ?_
 refine Vc.seq ?_
 refine Vc.region ?_
 refine vcL_eff rfl (opVC_new rfl (fun a=>Value.pointer (some a)) (by kernel_rfl) (newS.mono h fun a vw hx h=>?_))
 refine vcL_pure rfl rfl Value.nilFunc (fun w=>by kernel_rfl) ?_
 refine vcL_nil ?_
 refine Vc.seq ?_
 refine Vc.region ?_
 refine vcL_purs 2 [(2, (Value.func (.func 51) #[] #[(Value.pointer (some a))])), (3, (Value.func (.func 51) #[] #[(Value.pointer (some a))]))] (by kernel_rfl) ?_
 refine vcL_nil ?_
 refine Vc.ret ?_
 refine outs_ret ?_
 refine done_mk (Value.func (.func 51) #[] #[(Value.pointer (some a))]) (res1 (resC_tmp (by kernel_rfl))) ?_
 exact ⟨(Value.func (.func 51) #[] #[(Value.pointer (some a))]), rfl, h⟩
theorem wants_Context_1.go {name : ByteArray} {w : World} {k : Value → World → Prop} (h : wants_Context_1 name w fun r0 w'=>k r0 w') : callS Tryz.prog 50 [(Value.string name)] w k := (wants_Context_1.sound name w _ h).mono (by rintro _ _ ⟨r0, rfl, h⟩; exact h)
def wants_Context_1_1 (zz1o : ByteArray) (zz1p : Int) (zz1q : Int) (zz1r : Int) (c0 : Addr) (w : World) (R : Bool → World → Prop) : Prop :=
 newS w [(Value.string zz1o), (Value.int .i64 zz1p), (Value.int .i64 zz1q), (Value.int .i64 zz1r)] 32 fun a vw=>∃ (t5 : ByteArray), (ldc vw a [(Value.string t5)]) ∧ ∃ (t6 : ByteArray), (ldc vw c0 [(Value.string t6)]) ∧ R (bEq t5 t6) vw
set_option maxHeartbeats 8000000 in
theorem wants_Context_1_1.sound (zz1o : ByteArray) (zz1p : Int) (zz1q : Int) (zz1r : Int) (c0 : Addr) (w : World) (R : Bool → World → Prop) (h : wants_Context_1_1 zz1o zz1p zz1q zz1r c0 w R) : callS Tryz.prog 51 [(Value.agg #[(Value.string zz1o), (Value.int .i64 zz1p), (Value.int .i64 zz1q), (Value.int .i64 zz1r)]), (Value.pointer (some c0))] w (fun v w'=>∃ (r0 : Bool), v = (Value.bool r0) ∧ R r0 w') := by
 unfold wants_Context_1_1 at h
 refine calls_of_vc 8 rfl Tryz.func51 rfl (by kernel_rfl) (by simp) ?_
 refine Vc.seq ?_
 refine Vc.region ?_
 refine vcL_eff rfl (opVC_new rfl (fun a=>Value.pointer (some a)) (by kernel_rfl) (newS.mono h fun a vw hx h=>?_))
 refine vcL_pure rfl rfl (Value.bool false) (fun w=>by kernel_rfl) ?_
 refine vcL_nil ?_
 refine Vc.seq ?_
 refine Vc.region ?_
 refine vcL_pure rfl rfl (Value.pointer (some a)) (fun w=>by kernel_rfl) ?_
 obtain ⟨t5, hc, h⟩ := h
 refine vcL_val rfl rfl (Value.string t5) (exec_load rfl (by kernel_rfl) (run_load1 (fun w=>by kernel_rfl) ((hc)))) ?_
 obtain ⟨t6, hc1, h⟩ := h
 refine vcL_val rfl rfl (Value.string t6) (exec_load rfl (by kernel_rfl) (run_load1 (fun w=>by kernel_rfl) ((hc1)))) ?_
 refine vcL_purs 2 [(3, (Value.bool (bEq t5 t6))), (7, (Value.bool (bEq t5 t6)))] (by kernel_rfl) ?_
 refine vcL_nil ?_
 refine Vc.ret ?_
 refine outs_ret ?_
 refine done_mk (Value.bool (bEq t5 t6)) (res1 (resC_tmp (by kernel_rfl))) ?_
 exact ⟨(bEq t5 t6), rfl, h⟩
theorem wants_Context_1_1.go {zz1o : ByteArray} {zz1p : Int} {zz1q : Int} {zz1r : Int} {c0 : Addr} {w : World} {k : Value → World → Prop} (h : wants_Context_1_1 zz1o zz1p zz1q zz1r c0 w fun r0 w'=>k (Value.bool r0) w') : callS Tryz.prog 51 [(Value.agg #[(Value.string zz1o), (Value.int .i64 zz1p), (Value.int .i64 zz1q), (Value.int .i64 zz1r)]), (Value.pointer (some c0))] w k := (wants_Context_1_1.sound zz1o zz1p zz1q zz1r c0 w _ h).mono (by rintro _ _ ⟨r0, rfl, h⟩; exact h)
end Go.Hal.SE
