/- Lemmas for the claim K09o: how the program's functions run, and what they answer; no condition but those that each theorem names. -/
import Derived.Test.YtfaabhimmojeaaaGreatDoorProg
import Derived.Test.YtfaabhimmojeaaaGreatDoorK09oA0
set_option linter.unusedVariables false
set_option linter.unusedSimpArgs false
namespace Go.Hal.SE
open Go Go.RowKit Go.Hal Go.Proofs
set_option maxRecDepth 100000
def slices_symMergeCmpFunc_apiWant (data : Sl) (a : Int) (m : Int) (b : Int) (cmp : Value) (w : World) (R : World → Prop) : Prop :=
 (((wrapI (m - a)) = 1 → loop2 m b w fun i vj vw nxt=>((i < vj → bnd vw.drew fun (vw1 : World)=>∃ (ad : Addr), (data.a = some ad ∧ (0 : Int) ≤ (IntKind.wrap .i64 (Int.fdiv (IntKind.wrap .u64 (wrapI (i + vj))) (2 ^ 1))) ∧ (IntKind.wrap .i64 (Int.fdiv (IntKind.wrap .u64 (wrapI (i + vj))) (2 ^ 1))) < (data.len : Int)) ∧ ∃ (zzs : ByteArray) (zzr : Int) (zzt : Sl), (ldc vw1 (ad.add ((IntKind.wrap .i64 (Int.fdiv (IntKind.wrap .u64 (wrapI (i + vj))) (2 ^ 1))).toNat * 3)) [(Value.string zzs), (Value.int .i64 zzr), (Sl.v zzt)]) ∧ ∃ (ad2 : Addr), (data.a = some ad2 ∧ (0 : Int) ≤ a ∧ a < (data.len : Int)) ∧ ∃ (zzv : ByteArray) (zzu : Int) (zzw : Sl), (ldc vw1 (ad2.add (a.toNat * 3)) [(Value.string zzv), (Value.int .i64 zzu), (Sl.v zzw)]) ∧ callV Tryz.prog cmp [(Value.agg #[(Value.string zzs), (Value.int .i64 zzr), (Sl.v zzt)]), (Value.agg #[(Value.string zzv), (Value.int .i64 zzu), (Sl.v zzw)])] vw1 fun v vw5=>∃ (t49 : Int), v = (Value.int .i64 t49) ∧ ((t49 < 0 → nxt (wrapI ((IntKind.wrap .i64 (Int.fdiv (IntKind.wrap .u64 (wrapI (i + vj))) (2 ^ 1))) + 1)) vj vw5) ∧ (¬ (t49 < 0) → nxt i (IntKind.wrap .i64 (Int.fdiv (IntKind.wrap .u64 (wrapI (i + vj))) (2 ^ 1))) vw5))) ∧ (¬ (i < vj) → loop1 a vw fun vk vw6 nxt7=>((vk < (wrapI (i - 1)) → bnd vw6.drew fun (vw8 : World)=>∃ (ad9 : Addr), (data.a = some ad9 ∧ (0 : Int) ≤ (wrapI (vk + 1)) ∧ (wrapI (vk + 1)) < (data.len : Int)) ∧ ∃ (zzd : ByteArray) (zzc : Int) (zze : Sl), (ldc vw8 (ad9.add ((wrapI (vk + 1)).toNat * 3)) [(Value.string zzd), (Value.int .i64 zzc), (Sl.v zze)]) ∧ ∃ (ad12 : Addr), (data.a = some ad12 ∧ (0 : Int) ≤ vk ∧ vk < (data.len : Int)) ∧ ∃ (zzg : ByteArray) (zzf : Int) (zzh : Sl), (ldc vw8 (ad12.add (vk.toNat * 3)) [(Value.string zzg), (Value.int .i64 zzf), (Sl.v zzh)]) ∧ ∃ (ad15 : Addr), (data.a = some ad15 ∧ (0 : Int) ≤ vk ∧ vk < (data.len : Int)) ∧ stw vw8 (ad15.add (vk.toNat * 3)) [(Value.string zzd), (Value.int .i64 zzc), (Sl.v zze)] fun vw17=>∃ (ad18 : Addr), (data.a = some ad18 ∧ (0 : Int) ≤ (wrapI (vk + 1)) ∧ (wrapI (vk + 1)) < (data.len : Int)) ∧ stw vw17 (ad18.add ((wrapI (vk + 1)).toNat * 3)) [(Value.string zzg), (Value.int .i64 zzf), (Sl.v zzh)] fun vw20=>nxt7 (wrapI (vk + 1)) vw20) ∧ (¬ (vk < (wrapI (i - 1))) → R vw6))))) ∧ (¬ ((wrapI (m - a)) = 1) → (((wrapI (b - m)) = 1 → loop2 a m w fun i24 vj25 vw26 nxt27=>((i24 < vj25 → bnd vw26.drew fun (vw28 : World)=>∃ (ad29 : Addr), (data.a = some ad29 ∧ (0 : Int) ≤ m ∧ m < (data.len : Int)) ∧ ∃ (zzy : ByteArray) (zzx : Int) (zzz : Sl), (ldc vw28 (ad29.add (m.toNat * 3)) [(Value.string zzy), (Value.int .i64 zzx), (Sl.v zzz)]) ∧ ∃ (ad32 : Addr), (data.a = some ad32 ∧ (0 : Int) ≤ (IntKind.wrap .i64 (Int.fdiv (IntKind.wrap .u64 (wrapI (i24 + vj25))) (2 ^ 1))) ∧ (IntKind.wrap .i64 (Int.fdiv (IntKind.wrap .u64 (wrapI (i24 + vj25))) (2 ^ 1))) < (data.len : Int)) ∧ ∃ (zzj : ByteArray) (zzi : Int) (zzk : Sl), (ldc vw28 (ad32.add ((IntKind.wrap .i64 (Int.fdiv (IntKind.wrap .u64 (wrapI (i24 + vj25))) (2 ^ 1))).toNat * 3)) [(Value.string zzj), (Value.int .i64 zzi), (Sl.v zzk)]) ∧ callV Tryz.prog cmp [(Value.agg #[(Value.string zzy), (Value.int .i64 zzx), (Sl.v zzz)]), (Value.agg #[(Value.string zzj), (Value.int .i64 zzi), (Sl.v zzk)])] vw28 fun v36 vw35=>∃ (t101 : Int), v36 = (Value.int .i64 t101) ∧ ((¬ (t101 < 0) → nxt27 (wrapI ((IntKind.wrap .i64 (Int.fdiv (IntKind.wrap .u64 (wrapI (i24 + vj25))) (2 ^ 1))) + 1)) vj25 vw35) ∧ (¬ (¬ (t101 < 0)) → nxt27 i24 (IntKind.wrap .i64 (Int.fdiv (IntKind.wrap .u64 (wrapI (i24 + vj25))) (2 ^ 1))) vw35))) ∧ (¬ (i24 < vj25) → loop1 m vw26 fun vk38 vw39 nxt40=>((i24 < vk38 → bnd vw39.drew fun (vw41 : World)=>∃ (ad42 : Addr), (data.a = some ad42 ∧ (0 : Int) ≤ (wrapI (vk38 - 1)) ∧ (wrapI (vk38 - 1)) < (data.len : Int)) ∧ ∃ (zz1 : ByteArray) (zz0 : Int) (zz2 : Sl), (ldc vw41 (ad42.add ((wrapI (vk38 - 1)).toNat * 3)) [(Value.string zz1), (Value.int .i64 zz0), (Sl.v zz2)]) ∧ ∃ (ad45 : Addr), (data.a = some ad45 ∧ (0 : Int) ≤ vk38 ∧ vk38 < (data.len : Int)) ∧ ∃ (zz4 : ByteArray) (zz3 : Int) (zz5 : Sl), (ldc vw41 (ad45.add (vk38.toNat * 3)) [(Value.string zz4), (Value.int .i64 zz3), (Sl.v zz5)]) ∧ ∃ (ad48 : Addr), (data.a = some ad48 ∧ (0 : Int) ≤ vk38 ∧ vk38 < (data.len : Int)) ∧ stw vw41 (ad48.add (vk38.toNat * 3)) [(Value.string zz1), (Value.int .i64 zz0), (Sl.v zz2)] fun vw50=>∃ (ad51 : Addr), (data.a = some ad51 ∧ (0 : Int) ≤ (wrapI (vk38 - 1)) ∧ (wrapI (vk38 - 1)) < (data.len : Int)) ∧ stw vw50 (ad51.add ((wrapI (vk38 - 1)).toNat * 3)) [(Value.string zz4), (Value.int .i64 zz3), (Sl.v zz5)] fun vw53=>nxt40 (wrapI (vk38 - 1)) vw53) ∧ (¬ (i24 < vk38) → R vw39))))) ∧ (¬ ((wrapI (b - m)) = 1) → join (fun (start : Int) (r : Int) (vw60 : World)=>loop2 start r vw60 fun start61 r62 vw63 nxt64=>((start61 < r62 → bnd vw63.drew fun (vw65 : World)=>∃ (ad66 : Addr), (data.a = some ad66 ∧ (0 : Int) ≤ (wrapI ((wrapI ((wrapI ((IntKind.wrap .i64 (Int.fdiv (IntKind.wrap .u64 (wrapI (a + b))) (2 ^ 1))) + m)) - 1)) - (IntKind.wrap .i64 (Int.fdiv (IntKind.wrap .u64 (wrapI (start61 + r62))) (2 ^ 1))))) ∧ (wrapI ((wrapI ((wrapI ((IntKind.wrap .i64 (Int.fdiv (IntKind.wrap .u64 (wrapI (a + b))) (2 ^ 1))) + m)) - 1)) - (IntKind.wrap .i64 (Int.fdiv (IntKind.wrap .u64 (wrapI (start61 + r62))) (2 ^ 1))))) < (data.len : Int)) ∧ ∃ (zzm : ByteArray) (zzl : Int) (zzn : Sl), (ldc vw65 (ad66.add ((wrapI ((wrapI ((wrapI ((IntKind.wrap .i64 (Int.fdiv (IntKind.wrap .u64 (wrapI (a + b))) (2 ^ 1))) + m)) - 1)) - (IntKind.wrap .i64 (Int.fdiv (IntKind.wrap .u64 (wrapI (start61 + r62))) (2 ^ 1))))).toNat * 3)) [(Value.string zzm), (Value.int .i64 zzl), (Sl.v zzn)]) ∧ ∃ (ad69 : Addr), (data.a = some ad69 ∧ (0 : Int) ≤ (IntKind.wrap .i64 (Int.fdiv (IntKind.wrap .u64 (wrapI (start61 + r62))) (2 ^ 1))) ∧ (IntKind.wrap .i64 (Int.fdiv (IntKind.wrap .u64 (wrapI (start61 + r62))) (2 ^ 1))) < (data.len : Int)) ∧ ∃ (zzp : ByteArray) (zzo : Int) (zzq : Sl), (ldc vw65 (ad69.add ((IntKind.wrap .i64 (Int.fdiv (IntKind.wrap .u64 (wrapI (start61 + r62))) (2 ^ 1))).toNat * 3)) [(Value.string zzp), (Value.int .i64 zzo), (Sl.v zzq)]) ∧ callV Tryz.prog cmp [(Value.agg #[(Value.string zzm), (Value.int .i64 zzl), (Sl.v zzn)]), (Value.agg #[(Value.string zzp), (Value.int .i64 zzo), (Sl.v zzq)])] vw65 fun v73 vw72=>∃ (t169 : Int), v73 = (Value.int .i64 t169) ∧ ((¬ (t169 < 0) → nxt64 (wrapI ((IntKind.wrap .i64 (Int.fdiv (IntKind.wrap .u64 (wrapI (start61 + r62))) (2 ^ 1))) + 1)) r62 vw72) ∧ (¬ (¬ (t169 < 0)) → nxt64 start61 (IntKind.wrap .i64 (Int.fdiv (IntKind.wrap .u64 (wrapI (start61 + r62))) (2 ^ 1))) vw72))) ∧ (¬ (start61 < r62) → join (fun (vw75 : World)=>join (fun (vw76 : World)=>bnd (decide ((IntKind.wrap .i64 (Int.fdiv (IntKind.wrap .u64 (wrapI (a + b))) (2 ^ 1))) < (wrapI ((wrapI ((IntKind.wrap .i64 (Int.fdiv (IntKind.wrap .u64 (wrapI (a + b))) (2 ^ 1))) + m)) - start61)))) fun (b77 : Bool)=>(((b77 && (decide ((wrapI ((wrapI ((IntKind.wrap .i64 (Int.fdiv (IntKind.wrap .u64 (wrapI (a + b))) (2 ^ 1))) + m)) - start61)) < b))) = true → callS Tryz.prog 195 [(Sl.v data), (Value.int .i64 (IntKind.wrap .i64 (Int.fdiv (IntKind.wrap .u64 (wrapI (a + b))) (2 ^ 1)))), (Value.int .i64 (wrapI ((wrapI ((IntKind.wrap .i64 (Int.fdiv (IntKind.wrap .u64 (wrapI (a + b))) (2 ^ 1))) + m)) - start61))), (Value.int .i64 b), cmp] vw76 fun v79 vw78=>v79 = (Value.tuple #[]) ∧ R vw78) ∧ ((b77 && (decide ((wrapI ((wrapI ((IntKind.wrap .i64 (Int.fdiv (IntKind.wrap .u64 (wrapI (a + b))) (2 ^ 1))) + m)) - start61)) < b))) = false → R vw76))) fun vJ=>bnd (decide (a < start61)) fun (b81 : Bool)=>(((b81 && (decide (start61 < (IntKind.wrap .i64 (Int.fdiv (IntKind.wrap .u64 (wrapI (a + b))) (2 ^ 1)))))) = true → callS Tryz.prog 195 [(Sl.v data), (Value.int .i64 a), (Value.int .i64 start61), (Value.int .i64 (IntKind.wrap .i64 (Int.fdiv (IntKind.wrap .u64 (wrapI (a + b))) (2 ^ 1)))), cmp] vw75 fun v83 vw82=>v83 = (Value.tuple #[]) ∧ vJ vw82) ∧ ((b81 && (decide (start61 < (IntKind.wrap .i64 (Int.fdiv (IntKind.wrap .u64 (wrapI (a + b))) (2 ^ 1)))))) = false → vJ vw75))) fun vJ85=>bnd (decide (start61 < m)) fun (b87 : Bool)=>(((b87 && (decide (m < (wrapI ((wrapI ((IntKind.wrap .i64 (Int.fdiv (IntKind.wrap .u64 (wrapI (a + b))) (2 ^ 1))) + m)) - start61))))) = true → callS Tryz.prog 209 [(Sl.v data), (Value.int .i64 start61), (Value.int .i64 m), (Value.int .i64 (wrapI ((wrapI ((IntKind.wrap .i64 (Int.fdiv (IntKind.wrap .u64 (wrapI (a + b))) (2 ^ 1))) + m)) - start61))), cmp] vw63 fun v89 vw88=>v89 = (Value.tuple #[]) ∧ vJ85 vw88) ∧ ((b87 && (decide (m < (wrapI ((wrapI ((IntKind.wrap .i64 (Int.fdiv (IntKind.wrap .u64 (wrapI (a + b))) (2 ^ 1))) + m)) - start61))))) = false → vJ85 vw63))))) fun vJ94=>(((IntKind.wrap .i64 (Int.fdiv (IntKind.wrap .u64 (wrapI (a + b))) (2 ^ 1))) < m → vJ94 (wrapI ((wrapI ((IntKind.wrap .i64 (Int.fdiv (IntKind.wrap .u64 (wrapI (a + b))) (2 ^ 1))) + m)) - b)) (IntKind.wrap .i64 (Int.fdiv (IntKind.wrap .u64 (wrapI (a + b))) (2 ^ 1))) w) ∧ (¬ ((IntKind.wrap .i64 (Int.fdiv (IntKind.wrap .u64 (wrapI (a + b))) (2 ^ 1))) < m) → vJ94 a m w))))))
set_option maxHeartbeats 8000000 in
theorem slices_symMergeCmpFunc_apiWant.sound (data : Sl) (a : Int) (m : Int) (b : Int) (cmp : Value) (w : World) (R : World → Prop) (h : slices_symMergeCmpFunc_apiWant data a m b cmp w R) : callS Tryz.prog 195 [(Sl.v data), (Value.int .i64 a), (Value.int .i64 m), (Value.int .i64 b), cmp] w (fun v w'=>v = (Value.tuple #[]) ∧ R w') := by
 unfold slices_symMergeCmpFunc_apiWant at h
 refine calls_of_vc 220 rfl Tryz.func195 rfl (by kernel_rfl) (by simp) ?_
 refine Vc.seq ?_
 refine Vc.seq ?_
 refine Vc.region ?_
 refine vcL_purs 4 [(28, (Value.bool ((wrapI (m - a)) == 1))), (27, (Value.int .i64 (wrapI (m - a)))), (26, (Value.int .i64 a)), (25, (Value.int .i64 m))] (by kernel_rfl) ?_
 refine vcL_nil ?_
 refine Vc.cond ((wrapI (m - a)) == 1) (by kernel_rfl) (fun hb=>?_) (fun hb=>?_)
 ·have h := h.1 (eq_of_beq hb)
  refine Vc.seq ?_
  refine Vc.region ?_
  refine vcL_purs 2 [(10, (Value.int .i64 m)), (29, (Value.int .i64 m))] (by kernel_rfl) ?_
  refine vcL_nil ?_
  refine Vc.seq ?_
  refine Vc.region ?_
  refine vcL_purs 2 [(11, (Value.int .i64 b)), (30, (Value.int .i64 b))] (by kernel_rfl) ?_
  refine vcL_nil ?_
  refine Vc.seq ?_
  refine Vc.block ?_
  obtain ⟨vI21, mu22, h, hr23⟩ := h
  refine Vc.loopJ (σ := Int × Int) [10, 11] [12, 31, 32, 33, 34, 35, 36, 37, 38, 39, 40, 41, 42, 43, 44, 45, 46, 47, 48, 49, 50, 51, 52, 53] (fun s=>[(10, (Value.int .i64 s.1)), (11, (Value.int .i64 s.2))]) (fun s w=>vI21 s.1 s.2 w) (fun s w=>mu22 s.1 s.2 w) (m, b) h (fun _ => rfl) (by kernel_rfl) ?_
  rintro ⟨i, vj⟩ vw j h
  have h := hr23 i vj vw h
  refine Vc.seq ?_
  refine Vc.seq ?_
  refine Vc.region ?_
  refine vcL_purs 3 [(33, (Value.bool (decide (i < vj)))), (32, (Value.int .i64 vj)), (31, (Value.int .i64 i))] (by kernel_rfl) ?_
  refine vcL_nil ?_
  refine Vc.cond (decide (i < vj)) (by kernel_rfl) (fun hb=>?_) (fun hb=>?_)
  ·have h := h.1 (of_decide_eq_true hb)
   refine Vc.skip ?_
   refine Vc.block ?_
   refine Vc.seq ?_
   refine Vc.region ?_
   refine vcL_purs 7 [(12, (Value.int .i64 (IntKind.wrap .i64 (Int.fdiv (IntKind.wrap .u64 (wrapI (i + vj))) (2 ^ 1))))), (39, (Value.int .i64 (IntKind.wrap .i64 (Int.fdiv (IntKind.wrap .u64 (wrapI (i + vj))) (2 ^ 1))))), (38, (Value.int .u64 (Int.fdiv (IntKind.wrap .u64 (wrapI (i + vj))) (2 ^ 1)))), (37, (Value.int .u64 (IntKind.wrap .u64 (wrapI (i + vj))))), (36, (Value.int .i64 (wrapI (i + vj)))), (35, (Value.int .i64 vj)), (34, (Value.int .i64 i))] (by kernel_rfl) ?_
   refine vcL_nil ?_
   refine Vc.seq ?_
   obtain ⟨vw1, hvw1⟩ : ∃ y, y = vw.drew := ⟨_, rfl⟩
   have h := h vw1 hvw1
   refine Vc.draw (by kernel_rfl) (fun i=>!(memN [9] i)) (.pur 0 (.pur 1 (.pur 2 (.pur 3 (.val 4 (.pur 5 (.pur 6 (.pur 7 (.val 8 (.eff 9 (.pur 10 .fin) .stop)))))))))) (by kernel_rfl) ?_
   rw [← hvw1]
   clear hvw1
   refine vcS_pure rfl rfl rfl cmp (fun w=>by kernel_rfl) ?_
   refine vcS_pure rfl rfl rfl (Sl.v data) (fun w=>by kernel_rfl) ?_
   refine vcS_pure rfl rfl rfl (Value.int .i64 (IntKind.wrap .i64 (Int.fdiv (IntKind.wrap .u64 (wrapI (i + vj))) (2 ^ 1)))) (fun w=>by kernel_rfl) ?_
   obtain ⟨ad, hi, h⟩ := h
   refine vcS_pure rfl rfl rfl (Value.pointer (some (ad.add ((IntKind.wrap .i64 (Int.fdiv (IntKind.wrap .u64 (wrapI (i + vj))) (2 ^ 1))).toNat * 3)))) (fun w=>by exact exec_indexAt (s := data) (el := 88) rfl (by kernel_rfl) (by kernel_rfl) (by kernel_rfl) (fun w=>by kernel_rfl) (hi).1 (hi).2.1 (hi).2.2 w) ?_
   obtain ⟨zzs, zzr, zzt, hc, h⟩ := h
   refine vcS_val rfl rfl rfl (Value.agg #[(Value.string zzs), (Value.int .i64 zzr), (Sl.v zzt)]) (fun w' hx=>exec_load rfl (by kernel_rfl) (run_loadN (fun w=>by kernel_rfl) (fun w=>by kernel_rfl) ((hc).ext hx))) ?_
   refine vcS_pure rfl rfl rfl (Sl.v data) (fun w=>by kernel_rfl) ?_
   refine vcS_pure rfl rfl rfl (Value.int .i64 a) (fun w=>by kernel_rfl) ?_
   obtain ⟨ad2, hi3, h⟩ := h
   refine vcS_pure rfl rfl rfl (Value.pointer (some (ad2.add (a.toNat * 3)))) (fun w=>by exact exec_indexAt (s := data) (el := 88) rfl (by kernel_rfl) (by kernel_rfl) (by kernel_rfl) (fun w=>by kernel_rfl) (hi3).1 (hi3).2.1 (hi3).2.2 w) ?_
   obtain ⟨zzv, zzu, zzw, hc4, h⟩ := h
   refine vcS_val rfl rfl rfl (Value.agg #[(Value.string zzv), (Value.int .i64 zzu), (Sl.v zzw)]) (fun w' hx=>exec_load rfl (by kernel_rfl) (run_loadN (fun w=>by kernel_rfl) (fun w=>by kernel_rfl) ((hc4).ext hx))) ?_
   refine vcS_eff rfl rfl (opVC_callV rfl rfl (fv := cmp) (by kernel_rfl) (args := [(Value.agg #[(Value.string zzs), (Value.int .i64 zzr), (Sl.v zzt)]), (Value.agg #[(Value.string zzv), (Value.int .i64 zzu), (Sl.v zzw)])]) (by kernel_rfl) (callV.mono h fun v vw5 h=>?_)) vcS_stop
   obtain ⟨t49, rfl, h⟩ := h
   refine ⟨fun hb=>absurd hb (by decide), ?_⟩
   refine vcS_pure rfl rfl rfl (Value.bool (decide (t49 < 0))) (fun w=>by kernel_rfl) ?_
   refine vcS_fin ?_
   refine Vc.cond (decide (t49 < 0)) (by kernel_rfl) (fun hb=>?_) (fun hb=>?_)
   ·have h := h.1 (of_decide_eq_true hb)
    refine Vc.region ?_
    refine vcL_purs 3 [(10, (Value.int .i64 (wrapI ((IntKind.wrap .i64 (Int.fdiv (IntKind.wrap .u64 (wrapI (i + vj))) (2 ^ 1))) + 1)))), (52, (Value.int .i64 (wrapI ((IntKind.wrap .i64 (Int.fdiv (IntKind.wrap .u64 (wrapI (i + vj))) (2 ^ 1))) + 1)))), (51, (Value.int .i64 (IntKind.wrap .i64 (Int.fdiv (IntKind.wrap .u64 (wrapI (i + vj))) (2 ^ 1)))))] (by kernel_rfl) ?_
    refine vcL_nil ?_
    exact ⟨((wrapI ((IntKind.wrap .i64 (Int.fdiv (IntKind.wrap .u64 (wrapI (i + vj))) (2 ^ 1))) + 1)), vj), 50, ⟨rfl, by kernel_rfl, by kernel_rfl, by kernel_rfl⟩, h⟩
   ·have h := h.2 (of_decide_eq_false hb)
    refine Vc.region ?_
    refine vcL_purs 2 [(11, (Value.int .i64 (IntKind.wrap .i64 (Int.fdiv (IntKind.wrap .u64 (wrapI (i + vj))) (2 ^ 1))))), (53, (Value.int .i64 (IntKind.wrap .i64 (Int.fdiv (IntKind.wrap .u64 (wrapI (i + vj))) (2 ^ 1)))))] (by kernel_rfl) ?_
    refine vcL_nil ?_
    exact ⟨(i, (IntKind.wrap .i64 (Int.fdiv (IntKind.wrap .u64 (wrapI (i + vj))) (2 ^ 1)))), 49, ⟨rfl, by kernel_rfl, by kernel_rfl, by kernel_rfl⟩, h⟩
  ·have h := h.2 (of_decide_eq_false hb)
   refine Vc.exit ?_
   refine outOf_hit ?_
   refine Vc.seq ?_
   refine Vc.seq ?_
   refine Vc.region ?_
   refine vcL_purs 2 [(13, (Value.int .i64 a)), (54, (Value.int .i64 a))] (by kernel_rfl) ?_
   refine vcL_nil ?_
   refine Vc.block ?_
   obtain ⟨vI, mu, h, hr⟩ := h
   refine Vc.loopJ (σ := Int) [13] [55, 56, 57, 58, 59, 60, 61, 62, 63, 64, 65, 66, 67, 68, 69, 70, 71, 72, 73, 74, 75, 76] (fun s=>[(13, (Value.int .i64 s))]) (fun s w=>vI s w) (fun s w=>mu s w) a h (fun _ => rfl) (by kernel_rfl) ?_
   intro vk vw6 j h
   have h := hr vk vw6 h
   refine Vc.seq ?_
   refine Vc.seq ?_
   refine Vc.region ?_
   refine vcL_purs 4 [(58, (Value.bool (decide (vk < (wrapI (i - 1)))))), (57, (Value.int .i64 (wrapI (i - 1)))), (56, (Value.int .i64 i)), (55, (Value.int .i64 vk))] (by kernel_rfl) ?_
   refine vcL_nil ?_
   refine Vc.cond (decide (vk < (wrapI (i - 1)))) (by kernel_rfl) (fun hb=>?_) (fun hb=>?_)
   ·have h := h.1 (of_decide_eq_true hb)
    refine Vc.skip ?_
    refine Vc.seq ?_
    refine Vc.block ?_
    obtain ⟨vw8, hvw8⟩ : ∃ y, y = vw6.drew := ⟨_, rfl⟩
    have h := h vw8 hvw8
    refine Vc.draw (by kernel_rfl) (fun i=>!(memN [15, 17] i)) (.pur 0 (.pur 1 (.pur 2 (.pur 3 (.pur 4 (.pur 5 (.pur 6 (.pur 7 (.pur 8 (.val 9 (.pur 10 (.pur 11 (.pur 12 (.val 13 (.pur 14 (.eff 15 (.pur 16 (.eff 17 .fin .stop)) .stop)))))))))))))))) (by kernel_rfl) ?_
    rw [← hvw8]
    clear hvw8
    refine vcS_pure rfl rfl rfl (Sl.v data) (fun w=>by kernel_rfl) ?_
    refine vcS_pure rfl rfl rfl (Value.int .i64 vk) (fun w=>by kernel_rfl) ?_
    refine vcS_pure rfl rfl rfl (Sl.v data) (fun w=>by kernel_rfl) ?_
    refine vcS_pure rfl rfl rfl (Value.int .i64 vk) (fun w=>by kernel_rfl) ?_
    refine vcS_pure rfl rfl rfl (Value.int .i64 (wrapI (vk + 1))) (fun w=>by kernel_rfl) ?_
    refine vcS_pure rfl rfl rfl (Sl.v data) (fun w=>by kernel_rfl) ?_
    refine vcS_pure rfl rfl rfl (Value.int .i64 vk) (fun w=>by kernel_rfl) ?_
    refine vcS_pure rfl rfl rfl (Value.int .i64 (wrapI (vk + 1))) (fun w=>by kernel_rfl) ?_
    obtain ⟨ad9, hi10, h⟩ := h
    refine vcS_pure rfl rfl rfl (Value.pointer (some (ad9.add ((wrapI (vk + 1)).toNat * 3)))) (fun w=>by exact exec_indexAt (s := data) (el := 88) rfl (by kernel_rfl) (by kernel_rfl) (by kernel_rfl) (fun w=>by kernel_rfl) (hi10).1 (hi10).2.1 (hi10).2.2 w) ?_
    obtain ⟨zzd, zzc, zze, hc11, h⟩ := h
    refine vcS_val rfl rfl rfl (Value.agg #[(Value.string zzd), (Value.int .i64 zzc), (Sl.v zze)]) (fun w' hx=>exec_load rfl (by kernel_rfl) (run_loadN (fun w=>by kernel_rfl) (fun w=>by kernel_rfl) ((hc11).ext hx))) ?_
    refine vcS_pure rfl rfl rfl (Sl.v data) (fun w=>by kernel_rfl) ?_
    refine vcS_pure rfl rfl rfl (Value.int .i64 vk) (fun w=>by kernel_rfl) ?_
    obtain ⟨ad12, hi13, h⟩ := h
    refine vcS_pure rfl rfl rfl (Value.pointer (some (ad12.add (vk.toNat * 3)))) (fun w=>by exact exec_indexAt (s := data) (el := 88) rfl (by kernel_rfl) (by kernel_rfl) (by kernel_rfl) (fun w=>by kernel_rfl) (hi13).1 (hi13).2.1 (hi13).2.2 w) ?_
    obtain ⟨zzg, zzf, zzh, hc14, h⟩ := h
    refine vcS_val rfl rfl rfl (Value.agg #[(Value.string zzg), (Value.int .i64 zzf), (Sl.v zzh)]) (fun w' hx=>exec_load rfl (by kernel_rfl) (run_loadN (fun w=>by kernel_rfl) (fun w=>by kernel_rfl) ((hc14).ext hx))) ?_
    obtain ⟨ad15, hi16, h⟩ := h
    refine vcS_pure rfl rfl rfl (Value.pointer (some (ad15.add (vk.toNat * 3)))) (fun w=>by exact exec_indexAt (s := data) (el := 88) rfl (by kernel_rfl) (by kernel_rfl) (by kernel_rfl) (fun w=>by kernel_rfl) (hi16).1 (hi16).2.1 (hi16).2.2 w) ?_
    refine vcS_eff rfl rfl (opVC_store rfl rfl (a := (ad15.add (vk.toNat * 3))) (by kernel_rfl) (v := (Value.agg #[(Value.string zzd), (Value.int .i64 zzc), (Sl.v zze)])) (by kernel_rfl) [(Value.string zzd), (Value.int .i64 zzc), (Sl.v zze)] (by kernel_rfl) (fun w=>by kernel_rfl) (by kernel_rfl) (stw.mono h fun vw17 h=>?_)) vcS_stop
    refine ⟨fun hb=>absurd hb (by decide), ?_⟩
    obtain ⟨ad18, hi19, h⟩ := h
    refine vcS_pure rfl rfl rfl (Value.pointer (some (ad18.add ((wrapI (vk + 1)).toNat * 3)))) (fun w=>by exact exec_indexAt (s := data) (el := 88) rfl (by kernel_rfl) (by kernel_rfl) (by kernel_rfl) (fun w=>by kernel_rfl) (hi19).1 (hi19).2.1 (hi19).2.2 w) ?_
    refine vcS_eff rfl rfl (opVC_store rfl rfl (a := (ad18.add ((wrapI (vk + 1)).toNat * 3))) (by kernel_rfl) (v := (Value.agg #[(Value.string zzg), (Value.int .i64 zzf), (Sl.v zzh)])) (by kernel_rfl) [(Value.string zzg), (Value.int .i64 zzf), (Sl.v zzh)] (by kernel_rfl) (fun w=>by kernel_rfl) (by kernel_rfl) (stw.mono h fun vw20 h=>?_)) vcS_stop
    refine ⟨fun hb=>absurd hb (by decide), ?_⟩
    refine vcS_fin ?_
    refine Vc.region ?_
    refine vcL_purs 3 [(13, (Value.int .i64 (wrapI (vk + 1)))), (60, (Value.int .i64 (wrapI (vk + 1)))), (59, (Value.int .i64 vk))] (by kernel_rfl) ?_
    refine vcL_nil ?_
    exact ⟨(wrapI (vk + 1)), 46, ⟨rfl, by kernel_rfl, by kernel_rfl, by kernel_rfl⟩, h⟩
   ·have h := h.2 (of_decide_eq_false hb)
    refine Vc.exit ?_
    refine outOf_hit ?_
    refine Vc.ret ?_
    refine outs_ret ?_
    refine done_mk (Value.tuple #[]) (res0 ) ?_
    exact ⟨rfl, h⟩
 ·have h := h.2 (ne_of_beq_false hb)
  refine Vc.skip ?_
  refine Vc.seq ?_
  refine Vc.seq ?_
  refine Vc.region ?_
  refine vcL_purs 4 [(80, (Value.bool ((wrapI (b - m)) == 1))), (79, (Value.int .i64 (wrapI (b - m)))), (78, (Value.int .i64 m)), (77, (Value.int .i64 b))] (by kernel_rfl) ?_
  refine vcL_nil ?_
  refine Vc.cond ((wrapI (b - m)) == 1) (by kernel_rfl) (fun hb=>?_) (fun hb=>?_)
  ·have h := h.1 (eq_of_beq hb)
   refine Vc.seq ?_
   refine Vc.region ?_
   refine vcL_purs 2 [(14, (Value.int .i64 a)), (81, (Value.int .i64 a))] (by kernel_rfl) ?_
   refine vcL_nil ?_
   refine Vc.seq ?_
   refine Vc.region ?_
   refine vcL_purs 2 [(15, (Value.int .i64 m)), (82, (Value.int .i64 m))] (by kernel_rfl) ?_
   refine vcL_nil ?_
   refine Vc.seq ?_
   refine Vc.block ?_
   obtain ⟨vI57, mu58, h, hr59⟩ := h
   refine Vc.loopJ (σ := Int × Int) [14, 15] [16, 83, 84, 85, 86, 87, 88, 89, 90, 91, 92, 93, 94, 95, 96, 97, 98, 99, 100, 101, 102, 103, 104, 105, 106] (fun s=>[(14, (Value.int .i64 s.1)), (15, (Value.int .i64 s.2))]) (fun s w=>vI57 s.1 s.2 w) (fun s w=>mu58 s.1 s.2 w) (a, m) h (fun _ => rfl) (by kernel_rfl) ?_
   rintro ⟨i24, vj25⟩ vw26 j h
   have h := hr59 i24 vj25 vw26 h
   refine Vc.seq ?_
   refine Vc.seq ?_
   refine Vc.region ?_
   refine vcL_purs 3 [(85, (Value.bool (decide (i24 < vj25)))), (84, (Value.int .i64 vj25)), (83, (Value.int .i64 i24))] (by kernel_rfl) ?_
   refine vcL_nil ?_
   refine Vc.cond (decide (i24 < vj25)) (by kernel_rfl) (fun hb=>?_) (fun hb=>?_)
   ·have h := h.1 (of_decide_eq_true hb)
    refine Vc.skip ?_
    refine Vc.block ?_
    refine Vc.seq ?_
    refine Vc.region ?_
    refine vcL_purs 7 [(16, (Value.int .i64 (IntKind.wrap .i64 (Int.fdiv (IntKind.wrap .u64 (wrapI (i24 + vj25))) (2 ^ 1))))), (91, (Value.int .i64 (IntKind.wrap .i64 (Int.fdiv (IntKind.wrap .u64 (wrapI (i24 + vj25))) (2 ^ 1))))), (90, (Value.int .u64 (Int.fdiv (IntKind.wrap .u64 (wrapI (i24 + vj25))) (2 ^ 1)))), (89, (Value.int .u64 (IntKind.wrap .u64 (wrapI (i24 + vj25))))), (88, (Value.int .i64 (wrapI (i24 + vj25)))), (87, (Value.int .i64 vj25)), (86, (Value.int .i64 i24))] (by kernel_rfl) ?_
    refine vcL_nil ?_
    refine Vc.seq ?_
    obtain ⟨vw28, hvw28⟩ : ∃ y, y = vw26.drew := ⟨_, rfl⟩
    have h := h vw28 hvw28
    refine Vc.draw (by kernel_rfl) (fun i=>!(memN [9] i)) (.pur 0 (.pur 1 (.pur 2 (.pur 3 (.val 4 (.pur 5 (.pur 6 (.pur 7 (.val 8 (.eff 9 (.pur 10 (.pur 11 .fin)) .stop)))))))))) (by kernel_rfl) ?_
    rw [← hvw28]
    clear hvw28
    refine vcS_pure rfl rfl rfl cmp (fun w=>by kernel_rfl) ?_
    refine vcS_pure rfl rfl rfl (Sl.v data) (fun w=>by kernel_rfl) ?_
    refine vcS_pure rfl rfl rfl (Value.int .i64 m) (fun w=>by kernel_rfl) ?_
    obtain ⟨ad29, hi30, h⟩ := h
    refine vcS_pure rfl rfl rfl (Value.pointer (some (ad29.add (m.toNat * 3)))) (fun w=>by exact exec_indexAt (s := data) (el := 88) rfl (by kernel_rfl) (by kernel_rfl) (by kernel_rfl) (fun w=>by kernel_rfl) (hi30).1 (hi30).2.1 (hi30).2.2 w) ?_
    obtain ⟨zzy, zzx, zzz, hc31, h⟩ := h
    refine vcS_val rfl rfl rfl (Value.agg #[(Value.string zzy), (Value.int .i64 zzx), (Sl.v zzz)]) (fun w' hx=>exec_load rfl (by kernel_rfl) (run_loadN (fun w=>by kernel_rfl) (fun w=>by kernel_rfl) ((hc31).ext hx))) ?_
    refine vcS_pure rfl rfl rfl (Sl.v data) (fun w=>by kernel_rfl) ?_
    refine vcS_pure rfl rfl rfl (Value.int .i64 (IntKind.wrap .i64 (Int.fdiv (IntKind.wrap .u64 (wrapI (i24 + vj25))) (2 ^ 1)))) (fun w=>by kernel_rfl) ?_
    obtain ⟨ad32, hi33, h⟩ := h
    refine vcS_pure rfl rfl rfl (Value.pointer (some (ad32.add ((IntKind.wrap .i64 (Int.fdiv (IntKind.wrap .u64 (wrapI (i24 + vj25))) (2 ^ 1))).toNat * 3)))) (fun w=>by exact exec_indexAt (s := data) (el := 88) rfl (by kernel_rfl) (by kernel_rfl) (by kernel_rfl) (fun w=>by kernel_rfl) (hi33).1 (hi33).2.1 (hi33).2.2 w) ?_
    obtain ⟨zzj, zzi, zzk, hc34, h⟩ := h
    refine vcS_val rfl rfl rfl (Value.agg #[(Value.string zzj), (Value.int .i64 zzi), (Sl.v zzk)]) (fun w' hx=>exec_load rfl (by kernel_rfl) (run_loadN (fun w=>by kernel_rfl) (fun w=>by kernel_rfl) ((hc34).ext hx))) ?_
    refine vcS_eff rfl rfl (opVC_callV rfl rfl (fv := cmp) (by kernel_rfl) (args := [(Value.agg #[(Value.string zzy), (Value.int .i64 zzx), (Sl.v zzz)]), (Value.agg #[(Value.string zzj), (Value.int .i64 zzi), (Sl.v zzk)])]) (by kernel_rfl) (callV.mono h fun v36 vw35 h=>?_)) vcS_stop
    obtain ⟨t101, rfl, h⟩ := h
    refine ⟨fun hb=>absurd hb (by decide), ?_⟩
    refine vcS_pure rfl rfl rfl (Value.bool (decide (t101 < 0))) (fun w=>by kernel_rfl) ?_
    refine vcS_pure rfl rfl rfl (Value.bool (!(decide (t101 < 0)))) (fun w=>by kernel_rfl) ?_
    refine vcS_fin ?_
    refine Vc.cond (!(decide (t101 < 0))) (by kernel_rfl) (fun hb=>?_) (fun hb=>?_)
    ·have h := h.1 ((fun hb=>of_decide_eq_false hb) (by simpa using hb))
     refine Vc.region ?_
     refine vcL_purs 3 [(14, (Value.int .i64 (wrapI ((IntKind.wrap .i64 (Int.fdiv (IntKind.wrap .u64 (wrapI (i24 + vj25))) (2 ^ 1))) + 1)))), (105, (Value.int .i64 (wrapI ((IntKind.wrap .i64 (Int.fdiv (IntKind.wrap .u64 (wrapI (i24 + vj25))) (2 ^ 1))) + 1)))), (104, (Value.int .i64 (IntKind.wrap .i64 (Int.fdiv (IntKind.wrap .u64 (wrapI (i24 + vj25))) (2 ^ 1)))))] (by kernel_rfl) ?_
     refine vcL_nil ?_
     exact ⟨((wrapI ((IntKind.wrap .i64 (Int.fdiv (IntKind.wrap .u64 (wrapI (i24 + vj25))) (2 ^ 1))) + 1)), vj25), 52, ⟨rfl, by kernel_rfl, by kernel_rfl, by kernel_rfl⟩, h⟩
    ·have h := h.2 (not_not_intro ((fun hb=>of_decide_eq_true hb) (by simpa using hb)))
     refine Vc.region ?_
     refine vcL_purs 2 [(15, (Value.int .i64 (IntKind.wrap .i64 (Int.fdiv (IntKind.wrap .u64 (wrapI (i24 + vj25))) (2 ^ 1))))), (106, (Value.int .i64 (IntKind.wrap .i64 (Int.fdiv (IntKind.wrap .u64 (wrapI (i24 + vj25))) (2 ^ 1)))))] (by kernel_rfl) ?_
     refine vcL_nil ?_
     exact ⟨(i24, (IntKind.wrap .i64 (Int.fdiv (IntKind.wrap .u64 (wrapI (i24 + vj25))) (2 ^ 1)))), 51, ⟨rfl, by kernel_rfl, by kernel_rfl, by kernel_rfl⟩, h⟩
   ·have h := h.2 (of_decide_eq_false hb)
    refine Vc.exit ?_
    refine outOf_hit ?_
    refine Vc.seq ?_
    refine Vc.seq ?_
    refine Vc.region ?_
    refine vcL_purs 2 [(17, (Value.int .i64 m)), (107, (Value.int .i64 m))] (by kernel_rfl) ?_
    refine vcL_nil ?_
    refine Vc.block ?_
    obtain ⟨vI54, mu55, h, hr56⟩ := h
    refine Vc.loopJ (σ := Int) [17] [108, 109, 110, 111, 112, 113, 114, 115, 116, 117, 118, 119, 120, 121, 122, 123, 124, 125, 126, 127, 128] (fun s=>[(17, (Value.int .i64 s))]) (fun s w=>vI54 s w) (fun s w=>mu55 s w) m h (fun _ => rfl) (by kernel_rfl) ?_
    intro vk38 vw39 j h
    have h := hr56 vk38 vw39 h
    refine Vc.seq ?_
    refine Vc.seq ?_
    refine Vc.region ?_
    refine vcL_purs 3 [(110, (Value.bool (decide (i24 < vk38)))), (109, (Value.int .i64 i24)), (108, (Value.int .i64 vk38))] (by kernel_rfl) ?_
    refine vcL_nil ?_
    refine Vc.cond (decide (i24 < vk38)) (by kernel_rfl) (fun hb=>?_) (fun hb=>?_)
    ·have h := h.1 (of_decide_eq_true hb)
     refine Vc.skip ?_
     refine Vc.seq ?_
     refine Vc.block ?_
     obtain ⟨vw41, hvw41⟩ : ∃ y, y = vw39.drew := ⟨_, rfl⟩
     have h := h vw41 hvw41
     refine Vc.draw (by kernel_rfl) (fun i=>!(memN [15, 17] i)) (.pur 0 (.pur 1 (.pur 2 (.pur 3 (.pur 4 (.pur 5 (.pur 6 (.pur 7 (.pur 8 (.val 9 (.pur 10 (.pur 11 (.pur 12 (.val 13 (.pur 14 (.eff 15 (.pur 16 (.eff 17 .fin .stop)) .stop)))))))))))))))) (by kernel_rfl) ?_
     rw [← hvw41]
     clear hvw41
     refine vcS_pure rfl rfl rfl (Sl.v data) (fun w=>by kernel_rfl) ?_
     refine vcS_pure rfl rfl rfl (Value.int .i64 vk38) (fun w=>by kernel_rfl) ?_
     refine vcS_pure rfl rfl rfl (Sl.v data) (fun w=>by kernel_rfl) ?_
     refine vcS_pure rfl rfl rfl (Value.int .i64 vk38) (fun w=>by kernel_rfl) ?_
     refine vcS_pure rfl rfl rfl (Value.int .i64 (wrapI (vk38 - 1))) (fun w=>by kernel_rfl) ?_
     refine vcS_pure rfl rfl rfl (Sl.v data) (fun w=>by kernel_rfl) ?_
     refine vcS_pure rfl rfl rfl (Value.int .i64 vk38) (fun w=>by kernel_rfl) ?_
     refine vcS_pure rfl rfl rfl (Value.int .i64 (wrapI (vk38 - 1))) (fun w=>by kernel_rfl) ?_
     obtain ⟨ad42, hi43, h⟩ := h
     refine vcS_pure rfl rfl rfl (Value.pointer (some (ad42.add ((wrapI (vk38 - 1)).toNat * 3)))) (fun w=>by exact exec_indexAt (s := data) (el := 88) rfl (by kernel_rfl) (by kernel_rfl) (by kernel_rfl) (fun w=>by kernel_rfl) (hi43).1 (hi43).2.1 (hi43).2.2 w) ?_
     obtain ⟨zz1, zz0, zz2, hc44, h⟩ := h
     refine vcS_val rfl rfl rfl (Value.agg #[(Value.string zz1), (Value.int .i64 zz0), (Sl.v zz2)]) (fun w' hx=>exec_load rfl (by kernel_rfl) (run_loadN (fun w=>by kernel_rfl) (fun w=>by kernel_rfl) ((hc44).ext hx))) ?_
     refine vcS_pure rfl rfl rfl (Sl.v data) (fun w=>by kernel_rfl) ?_
     refine vcS_pure rfl rfl rfl (Value.int .i64 vk38) (fun w=>by kernel_rfl) ?_
     obtain ⟨ad45, hi46, h⟩ := h
     refine vcS_pure rfl rfl rfl (Value.pointer (some (ad45.add (vk38.toNat * 3)))) (fun w=>by exact exec_indexAt (s := data) (el := 88) rfl (by kernel_rfl) (by kernel_rfl) (by kernel_rfl) (fun w=>by kernel_rfl) (hi46).1 (hi46).2.1 (hi46).2.2 w) ?_
     obtain ⟨zz4, zz3, zz5, hc47, h⟩ := h
     refine vcS_val rfl rfl rfl (Value.agg #[(Value.string zz4), (Value.int .i64 zz3), (Sl.v zz5)]) (fun w' hx=>exec_load rfl (by kernel_rfl) (run_loadN (fun w=>by kernel_rfl) (fun w=>by kernel_rfl) ((hc47).ext hx))) ?_
     obtain ⟨ad48, hi49, h⟩ := h
     refine vcS_pure rfl rfl rfl (Value.pointer (some (ad48.add (vk38.toNat * 3)))) (fun w=>by exact exec_indexAt (s := data) (el := 88) rfl (by kernel_rfl) (by kernel_rfl) (by kernel_rfl) (fun w=>by kernel_rfl) (hi49).1 (hi49).2.1 (hi49).2.2 w) ?_
     refine vcS_eff rfl rfl (opVC_store rfl rfl (a := (ad48.add (vk38.toNat * 3))) (by kernel_rfl) (v := (Value.agg #[(Value.string zz1), (Value.int .i64 zz0), (Sl.v zz2)])) (by kernel_rfl) [(Value.string zz1), (Value.int .i64 zz0), (Sl.v zz2)] (by kernel_rfl) (fun w=>by kernel_rfl) (by kernel_rfl) (stw.mono h fun vw50 h=>?_)) vcS_stop
     refine ⟨fun hb=>absurd hb (by decide), ?_⟩
     obtain ⟨ad51, hi52, h⟩ := h
     refine vcS_pure rfl rfl rfl (Value.pointer (some (ad51.add ((wrapI (vk38 - 1)).toNat * 3)))) (fun w=>by exact exec_indexAt (s := data) (el := 88) rfl (by kernel_rfl) (by kernel_rfl) (by kernel_rfl) (fun w=>by kernel_rfl) (hi52).1 (hi52).2.1 (hi52).2.2 w) ?_
     refine vcS_eff rfl rfl (opVC_store rfl rfl (a := (ad51.add ((wrapI (vk38 - 1)).toNat * 3))) (by kernel_rfl) (v := (Value.agg #[(Value.string zz4), (Value.int .i64 zz3), (Sl.v zz5)])) (by kernel_rfl) [(Value.string zz4), (Value.int .i64 zz3), (Sl.v zz5)] (by kernel_rfl) (fun w=>by kernel_rfl) (by kernel_rfl) (stw.mono h fun vw53 h=>?_)) vcS_stop
     refine ⟨fun hb=>absurd hb (by decide), ?_⟩
     refine vcS_fin ?_
     refine Vc.region ?_
     refine vcL_purs 3 [(17, (Value.int .i64 (wrapI (vk38 - 1)))), (112, (Value.int .i64 (wrapI (vk38 - 1)))), (111, (Value.int .i64 vk38))] (by kernel_rfl) ?_
     refine vcL_nil ?_
     exact ⟨(wrapI (vk38 - 1)), 44, ⟨rfl, by kernel_rfl, by kernel_rfl, by kernel_rfl⟩, h⟩
    ·have h := h.2 (of_decide_eq_false hb)
     refine Vc.exit ?_
     refine outOf_hit ?_
     refine Vc.ret ?_
     refine outs_ret ?_
     refine done_mk (Value.tuple #[]) (res0 ) ?_
     exact ⟨rfl, h⟩
  ·have h := h.2 (ne_of_beq_false hb)
   refine Vc.skip ?_
   refine Vc.seq ?_
   refine Vc.region ?_
   refine vcL_purs 7 [(18, (Value.int .i64 (IntKind.wrap .i64 (Int.fdiv (IntKind.wrap .u64 (wrapI (a + b))) (2 ^ 1))))), (134, (Value.int .i64 (IntKind.wrap .i64 (Int.fdiv (IntKind.wrap .u64 (wrapI (a + b))) (2 ^ 1))))), (133, (Value.int .u64 (Int.fdiv (IntKind.wrap .u64 (wrapI (a + b))) (2 ^ 1)))), (132, (Value.int .u64 (IntKind.wrap .u64 (wrapI (a + b))))), (131, (Value.int .i64 (wrapI (a + b)))), (130, (Value.int .i64 b)), (129, (Value.int .i64 a))] (by kernel_rfl) ?_
   refine vcL_nil ?_
   refine Vc.seq ?_
   refine Vc.region ?_
   refine vcL_purs 4 [(19, (Value.int .i64 (wrapI ((IntKind.wrap .i64 (Int.fdiv (IntKind.wrap .u64 (wrapI (a + b))) (2 ^ 1))) + m)))), (137, (Value.int .i64 (wrapI ((IntKind.wrap .i64 (Int.fdiv (IntKind.wrap .u64 (wrapI (a + b))) (2 ^ 1))) + m)))), (136, (Value.int .i64 m)), (135, (Value.int .i64 (IntKind.wrap .i64 (Int.fdiv (IntKind.wrap .u64 (wrapI (a + b))) (2 ^ 1)))))] (by kernel_rfl) ?_
   refine vcL_nil ?_
   refine Vc.seq ?_
   refine Vc.region ?_
   refine vcL_purs 2 [(21, (Value.int .i64 0)), (20, (Value.int .i64 0))] (by kernel_rfl) ?_
   refine vcL_nil ?_
   obtain ⟨vJ94, hJ95, h⟩ := join_elim h
   refine Vc.seqJ (σ := Int × Int) [20, 21] [138, 139, 140, 141, 142, 143, 144, 145, 146] (fun s=>[(20, (Value.int .i64 s.1)), (21, (Value.int .i64 s.2))]) (fun s w=>vJ94 s.1 s.2 w) (fun _ => rfl) ?_ ?_
   ·refine Vc.seq ?_
    refine Vc.region ?_
    refine vcL_purs 3 [(140, (Value.bool (decide ((IntKind.wrap .i64 (Int.fdiv (IntKind.wrap .u64 (wrapI (a + b))) (2 ^ 1))) < m)))), (139, (Value.int .i64 (IntKind.wrap .i64 (Int.fdiv (IntKind.wrap .u64 (wrapI (a + b))) (2 ^ 1))))), (138, (Value.int .i64 m))] (by kernel_rfl) ?_
    refine vcL_nil ?_
    refine Vc.cond (decide ((IntKind.wrap .i64 (Int.fdiv (IntKind.wrap .u64 (wrapI (a + b))) (2 ^ 1))) < m)) (by kernel_rfl) (fun hb=>?_) (fun hb=>?_)
    ·have h := h.1 (of_decide_eq_true hb)
     refine Vc.seq ?_
     refine Vc.region ?_
     refine vcL_purs 4 [(20, (Value.int .i64 (wrapI ((wrapI ((IntKind.wrap .i64 (Int.fdiv (IntKind.wrap .u64 (wrapI (a + b))) (2 ^ 1))) + m)) - b)))), (143, (Value.int .i64 (wrapI ((wrapI ((IntKind.wrap .i64 (Int.fdiv (IntKind.wrap .u64 (wrapI (a + b))) (2 ^ 1))) + m)) - b)))), (142, (Value.int .i64 b)), (141, (Value.int .i64 (wrapI ((IntKind.wrap .i64 (Int.fdiv (IntKind.wrap .u64 (wrapI (a + b))) (2 ^ 1))) + m))))] (by kernel_rfl) ?_
     refine vcL_nil ?_
     refine Vc.region ?_
     refine vcL_purs 2 [(21, (Value.int .i64 (IntKind.wrap .i64 (Int.fdiv (IntKind.wrap .u64 (wrapI (a + b))) (2 ^ 1))))), (144, (Value.int .i64 (IntKind.wrap .i64 (Int.fdiv (IntKind.wrap .u64 (wrapI (a + b))) (2 ^ 1)))))] (by kernel_rfl) ?_
     refine vcL_nil ?_
     exact ⟨((wrapI ((wrapI ((IntKind.wrap .i64 (Int.fdiv (IntKind.wrap .u64 (wrapI (a + b))) (2 ^ 1))) + m)) - b)), (IntKind.wrap .i64 (Int.fdiv (IntKind.wrap .u64 (wrapI (a + b))) (2 ^ 1)))), 9, ⟨rfl, by kernel_rfl, by kernel_rfl, by kernel_rfl⟩, h⟩
    ·have h := h.2 (of_decide_eq_false hb)
     refine Vc.seq ?_
     refine Vc.region ?_
     refine vcL_purs 2 [(20, (Value.int .i64 a)), (145, (Value.int .i64 a))] (by kernel_rfl) ?_
     refine vcL_nil ?_
     refine Vc.region ?_
     refine vcL_purs 2 [(21, (Value.int .i64 m)), (146, (Value.int .i64 m))] (by kernel_rfl) ?_
     refine vcL_nil ?_
     exact ⟨(a, m), 7, ⟨rfl, by kernel_rfl, by kernel_rfl, by kernel_rfl⟩, h⟩
   ·rintro ⟨start, r⟩ vw60 j h
    subst hJ95
    refine Vc.seq ?_
    refine Vc.region ?_
    refine vcL_purs 3 [(22, (Value.int .i64 (wrapI ((wrapI ((IntKind.wrap .i64 (Int.fdiv (IntKind.wrap .u64 (wrapI (a + b))) (2 ^ 1))) + m)) - 1)))), (148, (Value.int .i64 (wrapI ((wrapI ((IntKind.wrap .i64 (Int.fdiv (IntKind.wrap .u64 (wrapI (a + b))) (2 ^ 1))) + m)) - 1)))), (147, (Value.int .i64 (wrapI ((IntKind.wrap .i64 (Int.fdiv (IntKind.wrap .u64 (wrapI (a + b))) (2 ^ 1))) + m))))] (by kernel_rfl) ?_
    refine vcL_nil ?_
    refine Vc.seq ?_
    refine Vc.block ?_
    obtain ⟨vI91, mu92, h, hr93⟩ := h
    refine Vc.loopJ (σ := Int × Int) [20, 21] [23, 149, 150, 151, 152, 153, 154, 155, 156, 157, 158, 159, 160, 161, 162, 163, 164, 165, 166, 167, 168, 169, 170, 171, 172, 173, 174] (fun s=>[(20, (Value.int .i64 s.1)), (21, (Value.int .i64 s.2))]) (fun s w=>vI91 s.1 s.2 w) (fun s w=>mu92 s.1 s.2 w) (start, r) h (fun _ => rfl) (by kernel_rfl) ?_
    rintro ⟨start61, r62⟩ vw63 j h
    have h := hr93 start61 r62 vw63 h
    refine Vc.seq ?_
    refine Vc.seq ?_
    refine Vc.region ?_
    refine vcL_purs 3 [(151, (Value.bool (decide (start61 < r62)))), (150, (Value.int .i64 r62)), (149, (Value.int .i64 start61))] (by kernel_rfl) ?_
    refine vcL_nil ?_
    refine Vc.cond (decide (start61 < r62)) (by kernel_rfl) (fun hb=>?_) (fun hb=>?_)
    ·have h := h.1 (of_decide_eq_true hb)
     refine Vc.skip ?_
     refine Vc.block ?_
     refine Vc.seq ?_
     refine Vc.region ?_
     refine vcL_purs 7 [(23, (Value.int .i64 (IntKind.wrap .i64 (Int.fdiv (IntKind.wrap .u64 (wrapI (start61 + r62))) (2 ^ 1))))), (157, (Value.int .i64 (IntKind.wrap .i64 (Int.fdiv (IntKind.wrap .u64 (wrapI (start61 + r62))) (2 ^ 1))))), (156, (Value.int .u64 (Int.fdiv (IntKind.wrap .u64 (wrapI (start61 + r62))) (2 ^ 1)))), (155, (Value.int .u64 (IntKind.wrap .u64 (wrapI (start61 + r62))))), (154, (Value.int .i64 (wrapI (start61 + r62)))), (153, (Value.int .i64 r62)), (152, (Value.int .i64 start61))] (by kernel_rfl) ?_
     refine vcL_nil ?_
     refine Vc.seq ?_
     obtain ⟨vw65, hvw65⟩ : ∃ y, y = vw63.drew := ⟨_, rfl⟩
     have h := h vw65 hvw65
     refine Vc.draw (by kernel_rfl) (fun i=>!(memN [11] i)) (.pur 0 (.pur 1 (.pur 2 (.pur 3 (.pur 4 (.pur 5 (.val 6 (.pur 7 (.pur 8 (.pur 9 (.val 10 (.eff 11 (.pur 12 (.pur 13 .fin)) .stop)))))))))))) (by kernel_rfl) ?_
     rw [← hvw65]
     clear hvw65
     refine vcS_pure rfl rfl rfl cmp (fun w=>by kernel_rfl) ?_
     refine vcS_pure rfl rfl rfl (Sl.v data) (fun w=>by kernel_rfl) ?_
     refine vcS_pure rfl rfl rfl (Value.int .i64 (wrapI ((wrapI ((IntKind.wrap .i64 (Int.fdiv (IntKind.wrap .u64 (wrapI (a + b))) (2 ^ 1))) + m)) - 1))) (fun w=>by kernel_rfl) ?_
     refine vcS_pure rfl rfl rfl (Value.int .i64 (IntKind.wrap .i64 (Int.fdiv (IntKind.wrap .u64 (wrapI (start61 + r62))) (2 ^ 1)))) (fun w=>by kernel_rfl) ?_
     refine vcS_pure rfl rfl rfl (Value.int .i64 (wrapI ((wrapI ((wrapI ((IntKind.wrap .i64 (Int.fdiv (IntKind.wrap .u64 (wrapI (a + b))) (2 ^ 1))) + m)) - 1)) - (IntKind.wrap .i64 (Int.fdiv (IntKind.wrap .u64 (wrapI (start61 + r62))) (2 ^ 1)))))) (fun w=>by kernel_rfl) ?_
     obtain ⟨ad66, hi67, h⟩ := h
     refine vcS_pure rfl rfl rfl (Value.pointer (some (ad66.add ((wrapI ((wrapI ((wrapI ((IntKind.wrap .i64 (Int.fdiv (IntKind.wrap .u64 (wrapI (a + b))) (2 ^ 1))) + m)) - 1)) - (IntKind.wrap .i64 (Int.fdiv (IntKind.wrap .u64 (wrapI (start61 + r62))) (2 ^ 1))))).toNat * 3)))) (fun w=>by exact exec_indexAt (s := data) (el := 88) rfl (by kernel_rfl) (by kernel_rfl) (by kernel_rfl) (fun w=>by kernel_rfl) (hi67).1 (hi67).2.1 (hi67).2.2 w) ?_
     obtain ⟨zzm, zzl, zzn, hc68, h⟩ := h
     refine vcS_val rfl rfl rfl (Value.agg #[(Value.string zzm), (Value.int .i64 zzl), (Sl.v zzn)]) (fun w' hx=>exec_load rfl (by kernel_rfl) (run_loadN (fun w=>by kernel_rfl) (fun w=>by kernel_rfl) ((hc68).ext hx))) ?_
     refine vcS_pure rfl rfl rfl (Sl.v data) (fun w=>by kernel_rfl) ?_
     refine vcS_pure rfl rfl rfl (Value.int .i64 (IntKind.wrap .i64 (Int.fdiv (IntKind.wrap .u64 (wrapI (start61 + r62))) (2 ^ 1)))) (fun w=>by kernel_rfl) ?_
     obtain ⟨ad69, hi70, h⟩ := h
     refine vcS_pure rfl rfl rfl (Value.pointer (some (ad69.add ((IntKind.wrap .i64 (Int.fdiv (IntKind.wrap .u64 (wrapI (start61 + r62))) (2 ^ 1))).toNat * 3)))) (fun w=>by exact exec_indexAt (s := data) (el := 88) rfl (by kernel_rfl) (by kernel_rfl) (by kernel_rfl) (fun w=>by kernel_rfl) (hi70).1 (hi70).2.1 (hi70).2.2 w) ?_
     obtain ⟨zzp, zzo, zzq, hc71, h⟩ := h
     refine vcS_val rfl rfl rfl (Value.agg #[(Value.string zzp), (Value.int .i64 zzo), (Sl.v zzq)]) (fun w' hx=>exec_load rfl (by kernel_rfl) (run_loadN (fun w=>by kernel_rfl) (fun w=>by kernel_rfl) ((hc71).ext hx))) ?_
     refine vcS_eff rfl rfl (opVC_callV rfl rfl (fv := cmp) (by kernel_rfl) (args := [(Value.agg #[(Value.string zzm), (Value.int .i64 zzl), (Sl.v zzn)]), (Value.agg #[(Value.string zzp), (Value.int .i64 zzo), (Sl.v zzq)])]) (by kernel_rfl) (callV.mono h fun v73 vw72 h=>?_)) vcS_stop
     obtain ⟨t169, rfl, h⟩ := h
     refine ⟨fun hb=>absurd hb (by decide), ?_⟩
     refine vcS_pure rfl rfl rfl (Value.bool (decide (t169 < 0))) (fun w=>by kernel_rfl) ?_
     refine vcS_pure rfl rfl rfl (Value.bool (!(decide (t169 < 0)))) (fun w=>by kernel_rfl) ?_
     refine vcS_fin ?_
     refine Vc.cond (!(decide (t169 < 0))) (by kernel_rfl) (fun hb=>?_) (fun hb=>?_)
     ·have h := h.1 ((fun hb=>of_decide_eq_false hb) (by simpa using hb))
      refine Vc.region ?_
      refine vcL_purs 3 [(20, (Value.int .i64 (wrapI ((IntKind.wrap .i64 (Int.fdiv (IntKind.wrap .u64 (wrapI (start61 + r62))) (2 ^ 1))) + 1)))), (173, (Value.int .i64 (wrapI ((IntKind.wrap .i64 (Int.fdiv (IntKind.wrap .u64 (wrapI (start61 + r62))) (2 ^ 1))) + 1)))), (172, (Value.int .i64 (IntKind.wrap .i64 (Int.fdiv (IntKind.wrap .u64 (wrapI (start61 + r62))) (2 ^ 1)))))] (by kernel_rfl) ?_
      refine vcL_nil ?_
      exact ⟨((wrapI ((IntKind.wrap .i64 (Int.fdiv (IntKind.wrap .u64 (wrapI (start61 + r62))) (2 ^ 1))) + 1)), r62), 56, ⟨rfl, by kernel_rfl, by kernel_rfl, by kernel_rfl⟩, h⟩
     ·have h := h.2 (not_not_intro ((fun hb=>of_decide_eq_true hb) (by simpa using hb)))
      refine Vc.region ?_
      refine vcL_purs 2 [(21, (Value.int .i64 (IntKind.wrap .i64 (Int.fdiv (IntKind.wrap .u64 (wrapI (start61 + r62))) (2 ^ 1))))), (174, (Value.int .i64 (IntKind.wrap .i64 (Int.fdiv (IntKind.wrap .u64 (wrapI (start61 + r62))) (2 ^ 1)))))] (by kernel_rfl) ?_
      refine vcL_nil ?_
      exact ⟨(start61, (IntKind.wrap .i64 (Int.fdiv (IntKind.wrap .u64 (wrapI (start61 + r62))) (2 ^ 1)))), 55, ⟨rfl, by kernel_rfl, by kernel_rfl, by kernel_rfl⟩, h⟩
    ·have h := h.2 (of_decide_eq_false hb)
     refine Vc.exit ?_
     refine outOf_hit ?_
     refine Vc.seq ?_
     refine Vc.region ?_
     refine vcL_purs 4 [(24, (Value.int .i64 (wrapI ((wrapI ((IntKind.wrap .i64 (Int.fdiv (IntKind.wrap .u64 (wrapI (a + b))) (2 ^ 1))) + m)) - start61)))), (177, (Value.int .i64 (wrapI ((wrapI ((IntKind.wrap .i64 (Int.fdiv (IntKind.wrap .u64 (wrapI (a + b))) (2 ^ 1))) + m)) - start61)))), (176, (Value.int .i64 start61)), (175, (Value.int .i64 (wrapI ((IntKind.wrap .i64 (Int.fdiv (IntKind.wrap .u64 (wrapI (a + b))) (2 ^ 1))) + m))))] (by kernel_rfl) ?_
     refine vcL_nil ?_
     obtain ⟨vJ85, hJ86, h⟩ := join_elim h
     refine Vc.seqJ (σ := Unit) [] [178, 179, 180, 181, 182, 183, 184, 185, 186, 187, 188, 189, 190, 191] (fun s=>[]) (fun s w=>vJ85 w) (fun _ => rfl) ?_ ?_
     ·refine Vc.seq ?_
      refine Vc.region ?_
      refine vcL_purs 3 [(180, (Value.bool (decide (start61 < m)))), (179, (Value.int .i64 m)), (178, (Value.int .i64 start61))] (by kernel_rfl) ?_
      obtain ⟨b87, hb87⟩ : ∃ y, y = (decide (start61 < m)) := ⟨_, rfl⟩
      have h := h b87 hb87
      refine vcL_pure rfl rfl (Value.bool b87) (fun w=>by rw [hb87]; kernel_rfl) ?_
      refine vcL_guardP b87 (wanted_g (d := 181) rfl (by kernel_rfl) b87 (by kernel_rfl) b87 (eqT b87)) rfl (Value.int .i64 m) (fun hg w=>by subst hg; kernel_rfl) ?_
      refine vcL_guardP b87 (wanted_g (d := 181) rfl (by kernel_rfl) b87 (by kernel_rfl) b87 (eqT b87)) rfl (Value.int .i64 (wrapI ((wrapI ((IntKind.wrap .i64 (Int.fdiv (IntKind.wrap .u64 (wrapI (a + b))) (2 ^ 1))) + m)) - start61))) (fun hg w=>by subst hg; kernel_rfl) ?_
      refine vcL_guardP b87 (wanted_g (d := 181) rfl (by kernel_rfl) b87 (by kernel_rfl) b87 (eqT b87)) rfl (Value.bool (decide (m < (wrapI ((wrapI ((IntKind.wrap .i64 (Int.fdiv (IntKind.wrap .u64 (wrapI (a + b))) (2 ^ 1))) + m)) - start61))))) (fun hg w=>by subst hg; kernel_rfl) ?_
      refine vcL_pure rfl rfl (Value.bool (b87 && (decide (m < (wrapI ((wrapI ((IntKind.wrap .i64 (Int.fdiv (IntKind.wrap .u64 (wrapI (a + b))) (2 ^ 1))) + m)) - start61)))))) (fun w=>by cases b87 <;> kernel_rfl) ?_
      refine vcL_nil ?_
      refine Vc.cond (b87 && (decide (m < (wrapI ((wrapI ((IntKind.wrap .i64 (Int.fdiv (IntKind.wrap .u64 (wrapI (a + b))) (2 ^ 1))) + m)) - start61))))) (by kernel_rfl) (fun hb=>?_) (fun hb=>?_)
      ·have h := h.1 (hb)
       refine Vc.region ?_
       refine vcL_purs 5 [(190, cmp), (189, (Value.int .i64 (wrapI ((wrapI ((IntKind.wrap .i64 (Int.fdiv (IntKind.wrap .u64 (wrapI (a + b))) (2 ^ 1))) + m)) - start61)))), (188, (Value.int .i64 m)), (187, (Value.int .i64 start61)), (186, (Sl.v data))] (by kernel_rfl) ?_
       refine vcL_eff rfl (opVC_call rfl (by kernel_rfl) (callS.mono h fun v89 vw88 h=>?_))
       obtain ⟨rfl, h⟩ := h
       refine vcL_nil ?_
       exact ⟨(), 14, ⟨rfl, by kernel_rfl, by kernel_rfl, by kernel_rfl⟩, h⟩
      ·have h := h.2 (hb)
       refine Vc.skip ?_
       exact ⟨(), 8, ⟨rfl, by kernel_rfl, by kernel_rfl, by kernel_rfl⟩, h⟩
     ·intro s vw75 j h
      subst hJ86
      obtain ⟨vJ, hJ, h⟩ := join_elim h
      refine Vc.seqJ (σ := Unit) [] [192, 193, 194, 195, 196, 197, 198, 199, 200, 201, 202, 203, 204, 205] (fun s=>[]) (fun s w=>vJ w) (fun _ => rfl) ?_ ?_
      ·refine Vc.seq ?_
       refine Vc.region ?_
       refine vcL_purs 3 [(194, (Value.bool (decide (a < start61)))), (193, (Value.int .i64 start61)), (192, (Value.int .i64 a))] (by kernel_rfl) ?_
       obtain ⟨b81, hb81⟩ : ∃ y, y = (decide (a < start61)) := ⟨_, rfl⟩
       have h := h b81 hb81
       refine vcL_pure rfl rfl (Value.bool b81) (fun w=>by rw [hb81]; kernel_rfl) ?_
       refine vcL_guardP b81 (wanted_g (d := 195) rfl (by kernel_rfl) b81 (by kernel_rfl) b81 (eqT b81)) rfl (Value.int .i64 start61) (fun hg w=>by subst hg; kernel_rfl) ?_
       refine vcL_guardP b81 (wanted_g (d := 195) rfl (by kernel_rfl) b81 (by kernel_rfl) b81 (eqT b81)) rfl (Value.int .i64 (IntKind.wrap .i64 (Int.fdiv (IntKind.wrap .u64 (wrapI (a + b))) (2 ^ 1)))) (fun hg w=>by subst hg; kernel_rfl) ?_
       refine vcL_guardP b81 (wanted_g (d := 195) rfl (by kernel_rfl) b81 (by kernel_rfl) b81 (eqT b81)) rfl (Value.bool (decide (start61 < (IntKind.wrap .i64 (Int.fdiv (IntKind.wrap .u64 (wrapI (a + b))) (2 ^ 1)))))) (fun hg w=>by subst hg; kernel_rfl) ?_
       refine vcL_pure rfl rfl (Value.bool (b81 && (decide (start61 < (IntKind.wrap .i64 (Int.fdiv (IntKind.wrap .u64 (wrapI (a + b))) (2 ^ 1))))))) (fun w=>by cases b81 <;> kernel_rfl) ?_
       refine vcL_nil ?_
       refine Vc.cond (b81 && (decide (start61 < (IntKind.wrap .i64 (Int.fdiv (IntKind.wrap .u64 (wrapI (a + b))) (2 ^ 1)))))) (by kernel_rfl) (fun hb=>?_) (fun hb=>?_)
       ·have h := h.1 (hb)
        refine Vc.region ?_
        refine vcL_purs 5 [(204, cmp), (203, (Value.int .i64 (IntKind.wrap .i64 (Int.fdiv (IntKind.wrap .u64 (wrapI (a + b))) (2 ^ 1))))), (202, (Value.int .i64 start61)), (201, (Value.int .i64 a)), (200, (Sl.v data))] (by kernel_rfl) ?_
        refine vcL_eff rfl (opVC_call rfl (by kernel_rfl) (callS.mono h fun v83 vw82 h=>?_))
        obtain ⟨rfl, h⟩ := h
        refine vcL_nil ?_
        exact ⟨(), 14, ⟨rfl, by kernel_rfl, by kernel_rfl, by kernel_rfl⟩, h⟩
       ·have h := h.2 (hb)
        refine Vc.skip ?_
        exact ⟨(), 8, ⟨rfl, by kernel_rfl, by kernel_rfl, by kernel_rfl⟩, h⟩
      ·intro s vw76 j h
       subst hJ
       refine Vc.seq ?_
       refine Vc.region ?_
       refine vcL_purs 3 [(208, (Value.bool (decide ((IntKind.wrap .i64 (Int.fdiv (IntKind.wrap .u64 (wrapI (a + b))) (2 ^ 1))) < (wrapI ((wrapI ((IntKind.wrap .i64 (Int.fdiv (IntKind.wrap .u64 (wrapI (a + b))) (2 ^ 1))) + m)) - start61)))))), (207, (Value.int .i64 (wrapI ((wrapI ((IntKind.wrap .i64 (Int.fdiv (IntKind.wrap .u64 (wrapI (a + b))) (2 ^ 1))) + m)) - start61)))), (206, (Value.int .i64 (IntKind.wrap .i64 (Int.fdiv (IntKind.wrap .u64 (wrapI (a + b))) (2 ^ 1)))))] (by kernel_rfl) ?_
       obtain ⟨b77, hb77⟩ : ∃ y, y = (decide ((IntKind.wrap .i64 (Int.fdiv (IntKind.wrap .u64 (wrapI (a + b))) (2 ^ 1))) < (wrapI ((wrapI ((IntKind.wrap .i64 (Int.fdiv (IntKind.wrap .u64 (wrapI (a + b))) (2 ^ 1))) + m)) - start61)))) := ⟨_, rfl⟩
       have h := h b77 hb77
       refine vcL_pure rfl rfl (Value.bool b77) (fun w=>by rw [hb77]; kernel_rfl) ?_
       refine vcL_guardP b77 (wanted_g (d := 209) rfl (by kernel_rfl) b77 (by kernel_rfl) b77 (eqT b77)) rfl (Value.int .i64 (wrapI ((wrapI ((IntKind.wrap .i64 (Int.fdiv (IntKind.wrap .u64 (wrapI (a + b))) (2 ^ 1))) + m)) - start61))) (fun hg w=>by subst hg; kernel_rfl) ?_
       refine vcL_guardP b77 (wanted_g (d := 209) rfl (by kernel_rfl) b77 (by kernel_rfl) b77 (eqT b77)) rfl (Value.int .i64 b) (fun hg w=>by subst hg; kernel_rfl) ?_
       refine vcL_guardP b77 (wanted_g (d := 209) rfl (by kernel_rfl) b77 (by kernel_rfl) b77 (eqT b77)) rfl (Value.bool (decide ((wrapI ((wrapI ((IntKind.wrap .i64 (Int.fdiv (IntKind.wrap .u64 (wrapI (a + b))) (2 ^ 1))) + m)) - start61)) < b))) (fun hg w=>by subst hg; kernel_rfl) ?_
       refine vcL_pure rfl rfl (Value.bool (b77 && (decide ((wrapI ((wrapI ((IntKind.wrap .i64 (Int.fdiv (IntKind.wrap .u64 (wrapI (a + b))) (2 ^ 1))) + m)) - start61)) < b)))) (fun w=>by cases b77 <;> kernel_rfl) ?_
       refine vcL_nil ?_
       refine Vc.cond (b77 && (decide ((wrapI ((wrapI ((IntKind.wrap .i64 (Int.fdiv (IntKind.wrap .u64 (wrapI (a + b))) (2 ^ 1))) + m)) - start61)) < b))) (by kernel_rfl) (fun hb=>?_) (fun hb=>?_)
       ·have h := h.1 (hb)
        refine Vc.region ?_
        refine vcL_purs 5 [(218, cmp), (217, (Value.int .i64 b)), (216, (Value.int .i64 (wrapI ((wrapI ((IntKind.wrap .i64 (Int.fdiv (IntKind.wrap .u64 (wrapI (a + b))) (2 ^ 1))) + m)) - start61)))), (215, (Value.int .i64 (IntKind.wrap .i64 (Int.fdiv (IntKind.wrap .u64 (wrapI (a + b))) (2 ^ 1))))), (214, (Sl.v data))] (by kernel_rfl) ?_
        refine vcL_eff rfl (opVC_call rfl (by kernel_rfl) (callS.mono h fun v79 vw78 h=>?_))
        obtain ⟨rfl, h⟩ := h
        refine vcL_nil ?_
        refine done_mk (Value.tuple #[]) (res0 ) ?_
        exact ⟨rfl, h⟩
       ·have h := h.2 (hb)
        refine Vc.skip ?_
        refine done_mk (Value.tuple #[]) (res0 ) ?_
        exact ⟨rfl, h⟩
theorem slices_symMergeCmpFunc_apiWant.go {data : Sl} {a : Int} {m : Int} {b : Int} {cmp : Value} {w : World} {k : Value → World → Prop} (h : slices_symMergeCmpFunc_apiWant data a m b cmp w fun  w'=>k (Value.tuple #[]) w') : callS Tryz.prog 195 [(Sl.v data), (Value.int .i64 a), (Value.int .i64 m), (Value.int .i64 b), cmp] w k := (slices_symMergeCmpFunc_apiWant.sound data a m b cmp w _ h).mono (by rintro _ _ ⟨rfl, h⟩; exact h)
def slices_rotateCmpFunc_apiWant (data : Sl) (a : Int) (m : Int) (b : Int) (cmp : Value) (w : World) (R : World → Prop) : Prop :=
 loop2 (wrapI (m - a)) (wrapI (b - m)) w fun i vj vw nxt=>((¬ i = vj → ((vj < i → callS Tryz.prog 223 [(Sl.v data), (Value.int .i64 (wrapI (m - i))), (Value.int .i64 m), (Value.int .i64 vj), cmp] vw fun v vw1=>v = (Value.tuple #[]) ∧ nxt (wrapI (i - vj)) vj vw1) ∧ (¬ (vj < i) → callS Tryz.prog 223 [(Sl.v data), (Value.int .i64 (wrapI (m - i))), (Value.int .i64 (wrapI ((wrapI (m + vj)) - i))), (Value.int .i64 i), cmp] vw fun v3 vw2=>v3 = (Value.tuple #[]) ∧ nxt i (wrapI (vj - i)) vw2))) ∧ (¬ (¬ i = vj) → callS Tryz.prog 223 [(Sl.v data), (Value.int .i64 (wrapI (m - i))), (Value.int .i64 m), (Value.int .i64 i), cmp] vw fun v6 vw5=>v6 = (Value.tuple #[]) ∧ R vw5))
set_option maxHeartbeats 8000000 in
theorem slices_rotateCmpFunc_apiWant.sound (data : Sl) (a : Int) (m : Int) (b : Int) (cmp : Value) (w : World) (R : World → Prop) (h : slices_rotateCmpFunc_apiWant data a m b cmp w R) : callS Tryz.prog 209 [(Sl.v data), (Value.int .i64 a), (Value.int .i64 m), (Value.int .i64 b), cmp] w (fun v w'=>v = (Value.tuple #[]) ∧ R w') := by
 unfold slices_rotateCmpFunc_apiWant at h
 refine calls_of_vc 58 rfl Tryz.func209 rfl (by kernel_rfl) (by simp) ?_
 refine Vc.seq ?_
 refine Vc.region ?_
 refine vcL_purs 4 [(10, (Value.int .i64 (wrapI (m - a)))), (14, (Value.int .i64 (wrapI (m - a)))), (13, (Value.int .i64 a)), (12, (Value.int .i64 m))] (by kernel_rfl) ?_
 refine vcL_nil ?_
 refine Vc.seq ?_
 refine Vc.region ?_
 refine vcL_purs 4 [(11, (Value.int .i64 (wrapI (b - m)))), (17, (Value.int .i64 (wrapI (b - m)))), (16, (Value.int .i64 m)), (15, (Value.int .i64 b))] (by kernel_rfl) ?_
 refine vcL_nil ?_
 refine Vc.seq ?_
 refine Vc.block ?_
 obtain ⟨vI, mu, h, hr⟩ := h
 refine Vc.loopJ (σ := Int × Int) [10, 11] [18, 19, 20, 21, 22, 23, 24, 25, 26, 27, 28, 29, 30, 31, 32, 33, 34, 35, 36, 37, 38, 39, 40, 41, 42, 43, 44, 45, 46, 47, 48, 49] (fun s=>[(10, (Value.int .i64 s.1)), (11, (Value.int .i64 s.2))]) (fun s w=>vI s.1 s.2 w) (fun s w=>mu s.1 s.2 w) ((wrapI (m - a)), (wrapI (b - m))) h (fun _ => rfl) (by kernel_rfl) ?_
 rintro ⟨i, vj⟩ vw j h
 have h := hr i vj vw h
 refine Vc.seq ?_
 refine Vc.seq ?_
 refine Vc.region ?_
 refine vcL_purs 3 [(20, (Value.bool (!(i == vj)))), (19, (Value.int .i64 vj)), (18, (Value.int .i64 i))] (by kernel_rfl) ?_
 refine vcL_nil ?_
 refine Vc.cond (!(i == vj)) (by kernel_rfl) (fun hb=>?_) (fun hb=>?_)
 ·have h := h.1 (ne_of_nbeq hb)
  refine Vc.skip ?_
  refine Vc.block ?_
  refine Vc.seq ?_
  refine Vc.region ?_
  refine vcL_purs 3 [(23, (Value.bool (decide (vj < i)))), (22, (Value.int .i64 vj)), (21, (Value.int .i64 i))] (by kernel_rfl) ?_
  refine vcL_nil ?_
  refine Vc.cond (decide (vj < i)) (by kernel_rfl) (fun hb=>?_) (fun hb=>?_)
  ·have h := h.1 (of_decide_eq_true hb)
   refine Vc.seq ?_
   refine Vc.region ?_
   refine vcL_purs 7 [(30, cmp), (29, (Value.int .i64 vj)), (28, (Value.int .i64 m)), (27, (Value.int .i64 (wrapI (m - i)))), (26, (Value.int .i64 i)), (25, (Value.int .i64 m)), (24, (Sl.v data))] (by kernel_rfl) ?_
   refine vcL_eff rfl (opVC_call rfl (by kernel_rfl) (callS.mono h fun v vw1 h=>?_))
   obtain ⟨rfl, h⟩ := h
   refine vcL_nil ?_
   refine Vc.region ?_
   refine vcL_purs 4 [(10, (Value.int .i64 (wrapI (i - vj)))), (34, (Value.int .i64 (wrapI (i - vj)))), (33, (Value.int .i64 vj)), (32, (Value.int .i64 i))] (by kernel_rfl) ?_
   refine vcL_nil ?_
   exact ⟨((wrapI (i - vj)), vj), 52, ⟨rfl, by kernel_rfl, by kernel_rfl, by kernel_rfl⟩, h⟩
  ·have h := h.2 (of_decide_eq_false hb)
   refine Vc.seq ?_
   refine Vc.region ?_
   refine vcL_purs 11 [(45, cmp), (44, (Value.int .i64 i)), (43, (Value.int .i64 (wrapI ((wrapI (m + vj)) - i)))), (42, (Value.int .i64 i)), (41, (Value.int .i64 (wrapI (m + vj)))), (40, (Value.int .i64 vj)), (39, (Value.int .i64 m)), (38, (Value.int .i64 (wrapI (m - i)))), (37, (Value.int .i64 i)), (36, (Value.int .i64 m)), (35, (Sl.v data))] (by kernel_rfl) ?_
   refine vcL_eff rfl (opVC_call rfl (by kernel_rfl) (callS.mono h fun v3 vw2 h=>?_))
   obtain ⟨rfl, h⟩ := h
   refine vcL_nil ?_
   refine Vc.region ?_
   refine vcL_purs 4 [(11, (Value.int .i64 (wrapI (vj - i)))), (49, (Value.int .i64 (wrapI (vj - i)))), (48, (Value.int .i64 i)), (47, (Value.int .i64 vj))] (by kernel_rfl) ?_
   refine vcL_nil ?_
   exact ⟨(i, (wrapI (vj - i))), 56, ⟨rfl, by kernel_rfl, by kernel_rfl, by kernel_rfl⟩, h⟩
 ·have h := h.2 (nne_of_nbeq hb)
  refine Vc.exit ?_
  refine outOf_hit ?_
  refine Vc.region ?_
  refine vcL_purs 7 [(56, cmp), (55, (Value.int .i64 i)), (54, (Value.int .i64 m)), (53, (Value.int .i64 (wrapI (m - i)))), (52, (Value.int .i64 i)), (51, (Value.int .i64 m)), (50, (Sl.v data))] (by kernel_rfl) ?_
  refine vcL_eff rfl (opVC_call rfl (by kernel_rfl) (callS.mono h fun v6 vw5 h=>?_))
  obtain ⟨rfl, h⟩ := h
  refine vcL_nil ?_
  refine done_mk (Value.tuple #[]) (res0 ) ?_
  exact ⟨rfl, h⟩
theorem slices_rotateCmpFunc_apiWant.go {data : Sl} {a : Int} {m : Int} {b : Int} {cmp : Value} {w : World} {k : Value → World → Prop} (h : slices_rotateCmpFunc_apiWant data a m b cmp w fun  w'=>k (Value.tuple #[]) w') : callS Tryz.prog 209 [(Sl.v data), (Value.int .i64 a), (Value.int .i64 m), (Value.int .i64 b), cmp] w k := (slices_rotateCmpFunc_apiWant.sound data a m b cmp w _ h).mono (by rintro _ _ ⟨rfl, h⟩; exact h)
def slices_swapRangeCmpFunc_apiWant (data : Sl) (a : Int) (b : Int) (n : Int) (cmp : Value) (w : World) (R : World → Prop) : Prop :=
 loop1 0 w fun i vw nxt=>((i < n → bnd vw.drew fun (vw1 : World)=>∃ (ad : Addr), (data.a = some ad ∧ (0 : Int) ≤ (wrapI (b + i)) ∧ (wrapI (b + i)) < (data.len : Int)) ∧ ∃ (zz7 : ByteArray) (zz6 : Int) (zz8 : Sl), (ldc vw1 (ad.add ((wrapI (b + i)).toNat * 3)) [(Value.string zz7), (Value.int .i64 zz6), (Sl.v zz8)]) ∧ ∃ (ad2 : Addr), (data.a = some ad2 ∧ (0 : Int) ≤ (wrapI (a + i)) ∧ (wrapI (a + i)) < (data.len : Int)) ∧ ∃ (zza : ByteArray) (zz9 : Int) (zzb : Sl), (ldc vw1 (ad2.add ((wrapI (a + i)).toNat * 3)) [(Value.string zza), (Value.int .i64 zz9), (Sl.v zzb)]) ∧ ∃ (ad5 : Addr), (data.a = some ad5 ∧ (0 : Int) ≤ (wrapI (a + i)) ∧ (wrapI (a + i)) < (data.len : Int)) ∧ stw vw1 (ad5.add ((wrapI (a + i)).toNat * 3)) [(Value.string zz7), (Value.int .i64 zz6), (Sl.v zz8)] fun vw7=>∃ (ad8 : Addr), (data.a = some ad8 ∧ (0 : Int) ≤ (wrapI (b + i)) ∧ (wrapI (b + i)) < (data.len : Int)) ∧ stw vw7 (ad8.add ((wrapI (b + i)).toNat * 3)) [(Value.string zza), (Value.int .i64 zz9), (Sl.v zzb)] fun vw10=>nxt (wrapI (i + 1)) vw10) ∧ (¬ (i < n) → R vw))
set_option maxHeartbeats 8000000 in
theorem slices_swapRangeCmpFunc_apiWant.sound (data : Sl) (a : Int) (b : Int) (n : Int) (cmp : Value) (w : World) (R : World → Prop) (h : slices_swapRangeCmpFunc_apiWant data a b n cmp w R) : callS Tryz.prog 223 [(Sl.v data), (Value.int .i64 a), (Value.int .i64 b), (Value.int .i64 n), cmp] w (fun v w'=>v = (Value.tuple #[]) ∧ R w') := by
 unfold slices_swapRangeCmpFunc_apiWant at h
 refine calls_of_vc 38 rfl Tryz.func223 rfl (by kernel_rfl) (by simp) ?_
 refine Vc.seq ?_
 refine Vc.region ?_
 refine vcL_pure rfl rfl (Value.int .i64 0) (fun w=>by kernel_rfl) ?_
 refine vcL_nil ?_
 refine Vc.block ?_
 obtain ⟨vI, mu, h, hr⟩ := h
 refine Vc.loopJ (σ := Int) [10] [11, 12, 13, 14, 15, 16, 17, 18, 19, 20, 21, 22, 23, 24, 25, 26, 27, 28, 29, 30, 31, 32, 33, 34, 35, 36, 37] (fun s=>[(10, (Value.int .i64 s))]) (fun s w=>vI s w) (fun s w=>mu s w) 0 h (fun _ => rfl) (by kernel_rfl) ?_
 intro i vw j h
 have h := hr i vw h
 refine Vc.seq ?_
 refine Vc.seq ?_
 refine Vc.region ?_
 refine vcL_purs 3 [(13, (Value.bool (decide (i < n)))), (12, (Value.int .i64 n)), (11, (Value.int .i64 i))] (by kernel_rfl) ?_
 refine vcL_nil ?_
 refine Vc.cond (decide (i < n)) (by kernel_rfl) (fun hb=>?_) (fun hb=>?_)
 ·have h := h.1 (of_decide_eq_true hb)
  refine Vc.skip ?_
  refine Vc.seq ?_
  refine Vc.block ?_
  obtain ⟨vw1, hvw1⟩ : ∃ y, y = vw.drew := ⟨_, rfl⟩
  have h := h vw1 hvw1
  refine Vc.draw (by kernel_rfl) (fun i=>!(memN [21, 23] i)) (.pur 0 (.pur 1 (.pur 2 (.pur 3 (.pur 4 (.pur 5 (.pur 6 (.pur 7 (.pur 8 (.pur 9 (.pur 10 (.pur 11 (.pur 12 (.val 13 (.pur 14 (.pur 15 (.pur 16 (.pur 17 (.pur 18 (.val 19 (.pur 20 (.eff 21 (.pur 22 (.eff 23 .fin .stop)) .stop)))))))))))))))))))))) (by kernel_rfl) ?_
  rw [← hvw1]
  clear hvw1
  refine vcS_pure rfl rfl rfl (Sl.v data) (fun w=>by kernel_rfl) ?_
  refine vcS_pure rfl rfl rfl (Value.int .i64 a) (fun w=>by kernel_rfl) ?_
  refine vcS_pure rfl rfl rfl (Value.int .i64 i) (fun w=>by kernel_rfl) ?_
  refine vcS_pure rfl rfl rfl (Value.int .i64 (wrapI (a + i))) (fun w=>by kernel_rfl) ?_
  refine vcS_pure rfl rfl rfl (Sl.v data) (fun w=>by kernel_rfl) ?_
  refine vcS_pure rfl rfl rfl (Value.int .i64 b) (fun w=>by kernel_rfl) ?_
  refine vcS_pure rfl rfl rfl (Value.int .i64 i) (fun w=>by kernel_rfl) ?_
  refine vcS_pure rfl rfl rfl (Value.int .i64 (wrapI (b + i))) (fun w=>by kernel_rfl) ?_
  refine vcS_pure rfl rfl rfl (Sl.v data) (fun w=>by kernel_rfl) ?_
  refine vcS_pure rfl rfl rfl (Value.int .i64 b) (fun w=>by kernel_rfl) ?_
  refine vcS_pure rfl rfl rfl (Value.int .i64 i) (fun w=>by kernel_rfl) ?_
  refine vcS_pure rfl rfl rfl (Value.int .i64 (wrapI (b + i))) (fun w=>by kernel_rfl) ?_
  obtain ⟨ad, hi, h⟩ := h
  refine vcS_pure rfl rfl rfl (Value.pointer (some (ad.add ((wrapI (b + i)).toNat * 3)))) (fun w=>by exact exec_indexAt (s := data) (el := 88) rfl (by kernel_rfl) (by kernel_rfl) (by kernel_rfl) (fun w=>by kernel_rfl) (hi).1 (hi).2.1 (hi).2.2 w) ?_
  obtain ⟨zz7, zz6, zz8, hc, h⟩ := h
  refine vcS_val rfl rfl rfl (Value.agg #[(Value.string zz7), (Value.int .i64 zz6), (Sl.v zz8)]) (fun w' hx=>exec_load rfl (by kernel_rfl) (run_loadN (fun w=>by kernel_rfl) (fun w=>by kernel_rfl) ((hc).ext hx))) ?_
  refine vcS_pure rfl rfl rfl (Sl.v data) (fun w=>by kernel_rfl) ?_
  refine vcS_pure rfl rfl rfl (Value.int .i64 a) (fun w=>by kernel_rfl) ?_
  refine vcS_pure rfl rfl rfl (Value.int .i64 i) (fun w=>by kernel_rfl) ?_
  refine vcS_pure rfl rfl rfl (Value.int .i64 (wrapI (a + i))) (fun w=>by kernel_rfl) ?_
  obtain ⟨ad2, hi3, h⟩ := h
  refine vcS_pure rfl rfl rfl (Value.pointer (some (ad2.add ((wrapI (a + i)).toNat * 3)))) (fun w=>by exact exec_indexAt (s := data) (el := 88) rfl (by kernel_rfl) (by kernel_rfl) (by kernel_rfl) (fun w=>by kernel_rfl) (hi3).1 (hi3).2.1 (hi3).2.2 w) ?_
  obtain ⟨zza, zz9, zzb, hc4, h⟩ := h
  refine vcS_val rfl rfl rfl (Value.agg #[(Value.string zza), (Value.int .i64 zz9), (Sl.v zzb)]) (fun w' hx=>exec_load rfl (by kernel_rfl) (run_loadN (fun w=>by kernel_rfl) (fun w=>by kernel_rfl) ((hc4).ext hx))) ?_
  obtain ⟨ad5, hi6, h⟩ := h
  refine vcS_pure rfl rfl rfl (Value.pointer (some (ad5.add ((wrapI (a + i)).toNat * 3)))) (fun w=>by exact exec_indexAt (s := data) (el := 88) rfl (by kernel_rfl) (by kernel_rfl) (by kernel_rfl) (fun w=>by kernel_rfl) (hi6).1 (hi6).2.1 (hi6).2.2 w) ?_
  refine vcS_eff rfl rfl (opVC_store rfl rfl (a := (ad5.add ((wrapI (a + i)).toNat * 3))) (by kernel_rfl) (v := (Value.agg #[(Value.string zz7), (Value.int .i64 zz6), (Sl.v zz8)])) (by kernel_rfl) [(Value.string zz7), (Value.int .i64 zz6), (Sl.v zz8)] (by kernel_rfl) (fun w=>by kernel_rfl) (by kernel_rfl) (stw.mono h fun vw7 h=>?_)) vcS_stop
  refine ⟨fun hb=>absurd hb (by decide), ?_⟩
  obtain ⟨ad8, hi9, h⟩ := h
  refine vcS_pure rfl rfl rfl (Value.pointer (some (ad8.add ((wrapI (b + i)).toNat * 3)))) (fun w=>by exact exec_indexAt (s := data) (el := 88) rfl (by kernel_rfl) (by kernel_rfl) (by kernel_rfl) (fun w=>by kernel_rfl) (hi9).1 (hi9).2.1 (hi9).2.2 w) ?_
  refine vcS_eff rfl rfl (opVC_store rfl rfl (a := (ad8.add ((wrapI (b + i)).toNat * 3))) (by kernel_rfl) (v := (Value.agg #[(Value.string zza), (Value.int .i64 zz9), (Sl.v zzb)])) (by kernel_rfl) [(Value.string zza), (Value.int .i64 zz9), (Sl.v zzb)] (by kernel_rfl) (fun w=>by kernel_rfl) (by kernel_rfl) (stw.mono h fun vw10 h=>?_)) vcS_stop
  refine ⟨fun hb=>absurd hb (by decide), ?_⟩
  refine vcS_fin ?_
  refine Vc.region ?_
  refine vcL_purs 3 [(10, (Value.int .i64 (wrapI (i + 1)))), (15, (Value.int .i64 (wrapI (i + 1)))), (14, (Value.int .i64 i))] (by kernel_rfl) ?_
  refine vcL_nil ?_
  exact ⟨(wrapI (i + 1)), 56, ⟨rfl, by kernel_rfl, by kernel_rfl, by kernel_rfl⟩, h⟩
 ·have h := h.2 (of_decide_eq_false hb)
  refine Vc.exit ?_
  refine outOf_hit ?_
  refine done_mk (Value.tuple #[]) (res0 ) ?_
  exact ⟨rfl, h⟩
theorem slices_swapRangeCmpFunc_apiWant.go {data : Sl} {a : Int} {b : Int} {n : Int} {cmp : Value} {w : World} {k : Value → World → Prop} (h : slices_swapRangeCmpFunc_apiWant data a b n cmp w fun  w'=>k (Value.tuple #[]) w') : callS Tryz.prog 223 [(Sl.v data), (Value.int .i64 a), (Value.int .i64 b), (Value.int .i64 n), cmp] w k := (slices_swapRangeCmpFunc_apiWant.sound data a b n cmp w _ h).mono (by rintro _ _ ⟨rfl, h⟩; exact h)
end Go.Hal.SE
