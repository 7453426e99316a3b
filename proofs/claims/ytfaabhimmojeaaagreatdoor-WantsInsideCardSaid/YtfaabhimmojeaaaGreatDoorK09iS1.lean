/- Lemmas for the claim K09i: how the program's functions run, and what they answer; no condition but those that each theorem names. -/
import Derived.Test.YtfaabhimmojeaaaGreatDoorProg
import Derived.Test.YtfaabhimmojeaaaGreatDoorK09iA0
set_option linter.unusedVariables false
set_option linter.unusedSimpArgs false
namespace Go.Hal.SE
open Go Go.RowKit Go.Hal Go.Proofs
set_option maxRecDepth 100000
/-- halyard/wants.Peers -/
def wants_Peers (p_Name : ByteArray) (p_Version_Major : Int) (p_Version_Minor : Int) (p_Version_Patch : Int) (p_Deps : Sl) (p_Peers : Sl) (p_Optional : Sl) (m_Deps : Sl) (m_Dev : Sl) (m_Optional : Sl) (m_Overrides : Sl) (w : World) (R : Sl → World → Prop) : Prop :=
  newS w [(Value.string p_Name), (Value.int .i64 p_Version_Major), (Value.int .i64 p_Version_Minor), (Value.int .i64 p_Version_Patch), (Sl.v p_Deps), (Sl.v p_Peers), (Sl.v p_Optional)] 48 fun a vw => newS vw [(Sl.v m_Deps), (Sl.v m_Dev), (Sl.v m_Optional), (Sl.v m_Overrides)] 25 fun a1 vw2 => ∃ (t9 : Sl), (ldc vw2 (a.add 5) [(Sl.v t9)]) ∧ loop2 Sl.nil 0 vw2 fun out t11 vw3 nxt => ((t11 < (t9.len : Int) → ∃ (ad : Addr), (t9.a = some ad ∧ (0 : Int) ≤ t11 ∧ t11 < (t9.len : Int)) ∧ ∃ (t14_Name : ByteArray) (t14_Range : Sl), (ldc vw3 (ad.add (t11.toNat * 2)) [(Value.string t14_Name), (Sl.v t14_Range)]) ∧ newS vw3 [(Value.string (ByteArray.mk #[])), (Sl.v Sl.nil)] 81 fun a5 vw6 => stw vw6 a5 [(Value.string t14_Name), (Sl.v t14_Range)] fun vw7 => bnd vw7.drew fun (vw8 : World) => ∃ (t17 : ByteArray), (ldc vw8 a5 [(Value.string t17)]) ∧ ∃ (t18_Deps : Sl) (t18_Dev : Sl) (t18_Optional : Sl) (t18_Overrides : Sl), (ldc vw8 a1 [(Sl.v t18_Deps), (Sl.v t18_Dev), (Sl.v t18_Optional), (Sl.v t18_Overrides)]) ∧ ∃ (t19_Name : ByteArray) (t19_Range : Sl), (ldc vw8 a5 [(Value.string t19_Name), (Sl.v t19_Range)]) ∧ callX Tryz.prog 44 [(Value.agg #[(Sl.v t18_Deps), (Sl.v t18_Dev), (Sl.v t18_Optional), (Sl.v t18_Overrides)]), (Value.agg #[(Value.string t19_Name), (Sl.v t19_Range)])] vw8 fun v vw12 => ∃ (t20 : Sl), v = (Sl.v t20) ∧ newS vw12 [(Value.string t17), (Sl.v t20)] 81 fun a13 vw14 => appS Tryz.prog 23 23 out (Sl.v (Sl.mk (some a13) 1 1)) vw14 fun t23 vw15 => nxt t23 (wrapI (t11 + 1)) vw15) ∧ (¬ (t11 < (t9.len : Int)) → callS Tryz.prog 89 [(Sl.v out)] vw3 fun v17 vw16 => ∃ (t26 : Sl), v17 = (Sl.v t26) ∧ R t26 vw16))
set_option maxHeartbeats 8000000 in
theorem wants_Peers.sound (p_Name : ByteArray) (p_Version_Major : Int) (p_Version_Minor : Int) (p_Version_Patch : Int) (p_Deps : Sl) (p_Peers : Sl) (p_Optional : Sl) (m_Deps : Sl) (m_Dev : Sl) (m_Optional : Sl) (m_Overrides : Sl) (w : World) (R : Sl → World → Prop) (h : wants_Peers p_Name p_Version_Major p_Version_Minor p_Version_Patch p_Deps p_Peers p_Optional m_Deps m_Dev m_Optional m_Overrides w R) : callS Tryz.prog 41 [(Value.agg #[(Value.string p_Name), (Value.int .i64 p_Version_Major), (Value.int .i64 p_Version_Minor), (Value.int .i64 p_Version_Patch), (Sl.v p_Deps), (Sl.v p_Peers), (Sl.v p_Optional)]), (Value.agg #[(Sl.v m_Deps), (Sl.v m_Dev), (Sl.v m_Optional), (Sl.v m_Overrides)])] w (fun v w' => ∃ (r0 : Sl), v = (Sl.v r0) ∧ R r0 w') := by
  unfold wants_Peers at h
  refine calls_of_vc 27 rfl Tryz.func41 rfl (by kernel_rfl) (by simp) ?_
  refine Vc.seq ?_
  refine Vc.region ?_
  refine vcL_eff rfl (opVC_new rfl (fun a => Value.pointer (some a)) (by kernel_rfl) (newS.mono h fun a vw hx h => ?_)) 
  refine vcL_eff rfl (opVC_new rfl (fun a => Value.pointer (some a)) (by kernel_rfl) (newS.mono h fun a1 vw2 hx h => ?_)) 
  refine vcL_pure rfl rfl (Sl.v Sl.nil) (fun w => by kernel_rfl) ?_
  refine vcL_nil ?_
  refine Vc.seq ?_
  refine Vc.region ?_
  refine vcL_pure rfl rfl (Sl.v Sl.nil) (fun w => by kernel_rfl) ?_
  refine vcL_nil ?_
  refine Vc.seq ?_
  refine Vc.seq ?_
  refine Vc.region ?_
  refine vcL_pure rfl rfl (Value.pointer (some (a.add 5))) (fun w => by kernel_rfl) ?_
  obtain ⟨t9, hc, h⟩ := h
  refine vcL_val rfl rfl (Sl.v t9) (exec_load rfl (by kernel_rfl) (run_load1 (fun w => by kernel_rfl) ((hc)))) ?_
  refine vcL_purs 2 [(11, (Value.int .i64 0)), (10, (Value.int .i64 (t9.len : Int)))] (by kernel_rfl) ?_
  refine vcL_nil ?_
  refine Vc.block ?_
  obtain ⟨vI, mu, h, hr⟩ := h
  refine Vc.loopJ (σ := Sl × Int) [5, 11] [7, 12, 13, 14, 15, 16, 17, 18, 19, 20, 21, 22, 23, 24] (fun s => [(5, (Sl.v s.1)), (11, (Value.int .i64 s.2))]) (fun s w => vI s.1 s.2 w) (fun s w => mu s.1 s.2 w) (Sl.nil, 0) h (fun _ => rfl) (by kernel_rfl) ?_
  rintro ⟨out, t11⟩ vw3 j h
  have h := hr out t11 vw3 h
  refine Vc.seq ?_
  refine Vc.region ?_
  refine vcL_pure rfl rfl (Value.bool (decide (t11 < (t9.len : Int)))) (fun w => by kernel_rfl) ?_
  refine vcL_nil ?_
  refine Vc.seq ?_
  refine Vc.cond (decide (t11 < (t9.len : Int))) (by kernel_rfl) (fun hb => ?_) (fun hb => ?_)
  · have h := h.1 (of_decide_eq_true hb)
    refine Vc.skip ?_
    refine Vc.seq ?_
    refine Vc.block ?_
    refine Vc.seq ?_
    refine Vc.region ?_
    obtain ⟨ad, hi, h⟩ := h
    refine vcL_pure rfl rfl (Value.pointer (some (ad.add (t11.toNat * 2)))) (fun w => by exact exec_indexAt (s := t9) (el := 81) rfl (by kernel_rfl) (by kernel_rfl) (by kernel_rfl) (fun w => by kernel_rfl) (hi).1 (hi).2.1 (hi).2.2 w) ?_
    obtain ⟨t14_Name, t14_Range, hc4, h⟩ := h
    refine vcL_val rfl rfl (Value.agg #[(Value.string t14_Name), (Sl.v t14_Range)]) (exec_load rfl (by kernel_rfl) (run_loadN (fun w => by kernel_rfl) (fun w => by kernel_rfl) ((hc4)))) ?_
    refine vcL_eff rfl (opVC_new rfl (fun a => Value.pointer (some a)) (by kernel_rfl) (newS.mono h fun a5 vw6 hx h => ?_)) 
    refine vcL_eff rfl (opVC_store rfl rfl (a := a5) (by kernel_rfl) (v := (Value.agg #[(Value.string t14_Name), (Sl.v t14_Range)])) (by kernel_rfl) [(Value.string t14_Name), (Sl.v t14_Range)] (by kernel_rfl) (fun w => by kernel_rfl) (by kernel_rfl) (stw.mono h fun vw7 h => ?_)) 
    refine vcL_nil ?_
    obtain ⟨vw8, hvw8⟩ : ∃ y, y = vw7.drew := ⟨_, rfl⟩
    have h := h vw8 hvw8
    refine Vc.draw (by kernel_rfl) (fun i => !(memN [7, 8] i)) (.pur 0 (.pur 1 (.val 2 (.val 3 (.val 4 (.eff 5 (.pur 6 (.eff 7 (.eff 8 (.pur 9 .fin) .stop) .stop)) .stop)))))) (by kernel_rfl) ?_
    rw [← hvw8]
    clear hvw8
    refine vcS_pure rfl rfl rfl (Sl.v out) (fun w => by kernel_rfl) ?_
    refine vcS_pure rfl rfl rfl (Value.pointer (some a5)) (fun w => by kernel_rfl) ?_
    obtain ⟨t17, hc9, h⟩ := h
    refine vcS_val rfl rfl rfl (Value.string t17) (fun w' hx => exec_load rfl (by kernel_rfl) (run_load1 (fun w => by kernel_rfl) ((hc9).ext hx))) ?_
    obtain ⟨t18_Deps, t18_Dev, t18_Optional, t18_Overrides, hc10, h⟩ := h
    refine vcS_val rfl rfl rfl (Value.agg #[(Sl.v t18_Deps), (Sl.v t18_Dev), (Sl.v t18_Optional), (Sl.v t18_Overrides)]) (fun w' hx => exec_load rfl (by kernel_rfl) (run_loadN (fun w => by kernel_rfl) (fun w => by kernel_rfl) ((hc10).ext hx))) ?_
    obtain ⟨t19_Name, t19_Range, hc11, h⟩ := h
    refine vcS_val rfl rfl rfl (Value.agg #[(Value.string t19_Name), (Sl.v t19_Range)]) (fun w' hx => exec_load rfl (by kernel_rfl) (run_loadN (fun w => by kernel_rfl) (fun w => by kernel_rfl) ((hc11).ext hx))) ?_
    refine vcS_eff rfl rfl (opVC_call rfl (by kernel_rfl) (callS.mono h fun v vw12 h => ?_)) vcS_stop
    obtain ⟨hx, h⟩ := h
    obtain ⟨t20, rfl, h⟩ := h
    refine ⟨fun _ => hx, ?_⟩
    refine vcS_pure rfl rfl rfl (Value.agg #[(Value.string t17), (Sl.v t20)]) (fun w => by kernel_rfl) ?_
    refine vcS_eff rfl rfl (opVC_new rfl (fun a => Value.slice (some a) 1 1) (by kernel_rfl) (newS.mono h fun a13 vw14 hx h => ?_)) vcS_stop
    refine ⟨fun hb => absurd hb (by decide), ?_⟩
    refine vcS_eff rfl rfl (opVC_sem rfl (c := Builtin.append_ #[23, 23] 23 #[(Sl.v out), (Sl.v (Sl.mk (some a13) 1 1))]) (by kernel_rfl) (appS.elim (ty := 23) h fun t23 vw15 h => ?_)) vcS_stop
    refine ⟨fun hb => absurd hb (by decide), ?_⟩
    refine vcS_pure rfl rfl rfl (Sl.v t23) (fun w => by kernel_rfl) ?_
    refine vcS_fin ?_
    refine Vc.region ?_
    refine vcL_purs 2 [(11, (Value.int .i64 (wrapI (t11 + 1)))), (24, (Value.int .i64 (wrapI (t11 + 1))))] (by kernel_rfl) ?_
    refine vcL_nil ?_
    exact ⟨(t23, (wrapI (t11 + 1))), 32, ⟨rfl, by kernel_rfl, by kernel_rfl, by kernel_rfl⟩, h⟩
  · have h := h.2 (of_decide_eq_false hb)
    refine Vc.exit ?_
    refine outOf_hit ?_
    refine Vc.seq ?_
    refine Vc.region ?_
    refine vcL_pure rfl rfl (Sl.v out) (fun w => by kernel_rfl) ?_
    refine vcL_eff rfl (opVC_call rfl (by kernel_rfl) (callS.mono h fun v17 vw16 h => ?_)) 
    obtain ⟨t26, rfl, h⟩ := h
    refine vcL_pure rfl rfl (Sl.v t26) (fun w => by kernel_rfl) ?_
    refine vcL_nil ?_
    refine Vc.ret ?_
    refine outs_ret ?_
    refine done_mk (Sl.v t26) (res1 (resC_tmp (by kernel_rfl))) ?_
    exact ⟨t26, rfl, h⟩
theorem wants_Peers.go {p_Name : ByteArray} {p_Version_Major : Int} {p_Version_Minor : Int} {p_Version_Patch : Int} {p_Deps : Sl} {p_Peers : Sl} {p_Optional : Sl} {m_Deps : Sl} {m_Dev : Sl} {m_Optional : Sl} {m_Overrides : Sl} {w : World} {k : Value → World → Prop} (h : wants_Peers p_Name p_Version_Major p_Version_Minor p_Version_Patch p_Deps p_Peers p_Optional m_Deps m_Dev m_Optional m_Overrides w fun r0 w' => k (Sl.v r0) w') : callS Tryz.prog 41 [(Value.agg #[(Value.string p_Name), (Value.int .i64 p_Version_Major), (Value.int .i64 p_Version_Minor), (Value.int .i64 p_Version_Patch), (Sl.v p_Deps), (Sl.v p_Peers), (Sl.v p_Optional)]), (Value.agg #[(Sl.v m_Deps), (Sl.v m_Dev), (Sl.v m_Optional), (Sl.v m_Overrides)])] w k := (wants_Peers.sound p_Name p_Version_Major p_Version_Minor p_Version_Patch p_Deps p_Peers p_Optional m_Deps m_Dev m_Optional m_Overrides w _ h).mono (by rintro _ _ ⟨r0, rfl, h⟩; exact h)

/-- halyard/wants.Range -/
def wants_Range (m_Deps : Sl) (m_Dev : Sl) (m_Optional : Sl) (m_Overrides : Sl) (d_Name : ByteArray) (d_Range : Sl) (w : World) (R : Sl → World → Prop) : Prop :=
  newS w [(Sl.v m_Deps), (Sl.v m_Dev), (Sl.v m_Optional), (Sl.v m_Overrides)] 25 fun a vw => newS vw [(Value.string d_Name), (Sl.v d_Range)] 81 fun a1 vw2 => ∃ (t8 : Sl), (ldc vw2 (a.add 3) [(Sl.v t8)]) ∧ loop1 0 vw2 fun t10 vw3 nxt => ((t10 < (t8.len : Int) → ∃ (ad : Addr), (t8.a = some ad ∧ (0 : Int) ≤ t10 ∧ t10 < (t8.len : Int)) ∧ ∃ (t13_Name : ByteArray) (t13_Range : Sl), (ldc vw3 (ad.add (t10.toNat * 2)) [(Value.string t13_Name), (Sl.v t13_Range)]) ∧ newS vw3 [(Value.string (ByteArray.mk #[])), (Sl.v Sl.nil)] 81 fun a5 vw6 => stw vw6 a5 [(Value.string t13_Name), (Sl.v t13_Range)] fun vw7 => ∃ (t15 : ByteArray), (ldc vw7 a5 [(Value.string t15)]) ∧ ∃ (t17 : ByteArray), (ldc vw7 a1 [(Value.string t17)]) ∧ ((t15 = t17 → ∃ (t20 : Sl), (ldc vw7 (a5.add 1) [(Sl.v t20)]) ∧ callS Tryz.prog 90 [(Sl.v t20)] vw7 fun v vw11 => ∃ (t21 : Sl), v = (Sl.v t21) ∧ R t21 vw11) ∧ (¬ (t15 = t17) → nxt (wrapI (t10 + 1)) vw7))) ∧ (¬ (t10 < (t8.len : Int)) → ∃ (t24 : Sl), (ldc vw3 (a1.add 1) [(Sl.v t24)]) ∧ callS Tryz.prog 90 [(Sl.v t24)] vw3 fun v14 vw13 => ∃ (t25 : Sl), v14 = (Sl.v t25) ∧ R t25 vw13))
set_option maxHeartbeats 8000000 in
theorem wants_Range.sound (m_Deps : Sl) (m_Dev : Sl) (m_Optional : Sl) (m_Overrides : Sl) (d_Name : ByteArray) (d_Range : Sl) (w : World) (R : Sl → World → Prop) (h : wants_Range m_Deps m_Dev m_Optional m_Overrides d_Name d_Range w R) : callS Tryz.prog 44 [(Value.agg #[(Sl.v m_Deps), (Sl.v m_Dev), (Sl.v m_Optional), (Sl.v m_Overrides)]), (Value.agg #[(Value.string d_Name), (Sl.v d_Range)])] w (fun v w' => ∃ (r0 : Sl), v = (Sl.v r0) ∧ R r0 w') := by
  unfold wants_Range at h
  refine calls_of_vc 26 rfl Tryz.func44 rfl (by kernel_rfl) (by simp) ?_
  refine Vc.seq ?_
  refine Vc.region ?_
  refine vcL_eff rfl (opVC_new rfl (fun a => Value.pointer (some a)) (by kernel_rfl) (newS.mono h fun a vw hx h => ?_)) 
  refine vcL_eff rfl (opVC_new rfl (fun a => Value.pointer (some a)) (by kernel_rfl) (newS.mono h fun a1 vw2 hx h => ?_)) 
  refine vcL_pure rfl rfl (Sl.v Sl.nil) (fun w => by kernel_rfl) ?_
  refine vcL_nil ?_
  refine Vc.seq ?_
  refine Vc.seq ?_
  refine Vc.region ?_
  refine vcL_pure rfl rfl (Value.pointer (some (a.add 3))) (fun w => by kernel_rfl) ?_
  obtain ⟨t8, hc, h⟩ := h
  refine vcL_val rfl rfl (Sl.v t8) (exec_load rfl (by kernel_rfl) (run_load1 (fun w => by kernel_rfl) ((hc)))) ?_
  refine vcL_purs 2 [(10, (Value.int .i64 0)), (9, (Value.int .i64 (t8.len : Int)))] (by kernel_rfl) ?_
  refine vcL_nil ?_
  refine Vc.block ?_
  obtain ⟨vI, mu, h, hr⟩ := h
  refine Vc.loopJ (σ := Int) [10] [4, 6, 11, 12, 13, 14, 15, 16, 17, 18, 19, 20, 21, 22] (fun s => [(10, (Value.int .i64 s))]) (fun s w => vI s w) (fun s w => mu s w) 0 h (fun _ => rfl) (by kernel_rfl) ?_
  intro t10 vw3 j h
  have h := hr t10 vw3 h
  refine Vc.seq ?_
  refine Vc.region ?_
  refine vcL_pure rfl rfl (Value.bool (decide (t10 < (t8.len : Int)))) (fun w => by kernel_rfl) ?_
  refine vcL_nil ?_
  refine Vc.seq ?_
  refine Vc.cond (decide (t10 < (t8.len : Int))) (by kernel_rfl) (fun hb => ?_) (fun hb => ?_)
  · have h := h.1 (of_decide_eq_true hb)
    refine Vc.skip ?_
    refine Vc.seq ?_
    refine Vc.block ?_
    refine Vc.seq ?_
    refine Vc.region ?_
    obtain ⟨ad, hi, h⟩ := h
    refine vcL_pure rfl rfl (Value.pointer (some (ad.add (t10.toNat * 2)))) (fun w => by exact exec_indexAt (s := t8) (el := 81) rfl (by kernel_rfl) (by kernel_rfl) (by kernel_rfl) (fun w => by kernel_rfl) (hi).1 (hi).2.1 (hi).2.2 w) ?_
    obtain ⟨t13_Name, t13_Range, hc4, h⟩ := h
    refine vcL_val rfl rfl (Value.agg #[(Value.string t13_Name), (Sl.v t13_Range)]) (exec_load rfl (by kernel_rfl) (run_loadN (fun w => by kernel_rfl) (fun w => by kernel_rfl) ((hc4)))) ?_
    refine vcL_eff rfl (opVC_new rfl (fun a => Value.pointer (some a)) (by kernel_rfl) (newS.mono h fun a5 vw6 hx h => ?_)) 
    refine vcL_eff rfl (opVC_store rfl rfl (a := a5) (by kernel_rfl) (v := (Value.agg #[(Value.string t13_Name), (Sl.v t13_Range)])) (by kernel_rfl) [(Value.string t13_Name), (Sl.v t13_Range)] (by kernel_rfl) (fun w => by kernel_rfl) (by kernel_rfl) (stw.mono h fun vw7 h => ?_)) 
    refine vcL_nil ?_
    refine Vc.seq ?_
    refine Vc.region ?_
    refine vcL_pure rfl rfl (Value.pointer (some a5)) (fun w => by kernel_rfl) ?_
    obtain ⟨t15, hc8, h⟩ := h
    refine vcL_val rfl rfl (Value.string t15) (exec_load rfl (by kernel_rfl) (run_load1 (fun w => by kernel_rfl) ((hc8)))) ?_
    refine vcL_pure rfl rfl (Value.pointer (some a1)) (fun w => by kernel_rfl) ?_
    obtain ⟨t17, hc9, h⟩ := h
    refine vcL_val rfl rfl (Value.string t17) (exec_load rfl (by kernel_rfl) (run_load1 (fun w => by kernel_rfl) ((hc9)))) ?_
    refine vcL_pure rfl rfl (Value.bool (bEq t15 t17)) (fun w => by kernel_rfl) ?_
    refine vcL_nil ?_
    refine Vc.cond (bEq t15 t17) (by kernel_rfl) (fun hb => ?_) (fun hb => ?_)
    · have h := h.1 (bEq_iff.1 hb)
      refine Vc.seq ?_
      refine Vc.region ?_
      refine vcL_pure rfl rfl (Value.pointer (some (a5.add 1))) (fun w => by kernel_rfl) ?_
      obtain ⟨t20, hc10, h⟩ := h
      refine vcL_val rfl rfl (Sl.v t20) (exec_load rfl (by kernel_rfl) (run_load1 (fun w => by kernel_rfl) ((hc10)))) ?_
      refine vcL_eff rfl (opVC_call rfl (by kernel_rfl) (callS.mono h fun v vw11 h => ?_)) 
      obtain ⟨t21, rfl, h⟩ := h
      refine vcL_pure rfl rfl (Sl.v t21) (fun w => by kernel_rfl) ?_
      refine vcL_nil ?_
      refine Vc.ret ?_
      refine outOf_ret ?_
      refine outOf_ret ?_
      refine outs_ret ?_
      refine done_mk (Sl.v t21) (res1 (resC_tmp (by kernel_rfl))) ?_
      exact ⟨t21, rfl, h⟩
    · have h := h.2 (bEq_false.1 hb)
      refine Vc.skip ?_
      refine Vc.region ?_
      refine vcL_purs 2 [(10, (Value.int .i64 (wrapI (t10 + 1)))), (22, (Value.int .i64 (wrapI (t10 + 1))))] (by kernel_rfl) ?_
      refine vcL_nil ?_
      exact ⟨(wrapI (t10 + 1)), 26, ⟨rfl, by kernel_rfl, by kernel_rfl, by kernel_rfl⟩, h⟩
  · have h := h.2 (of_decide_eq_false hb)
    refine Vc.exit ?_
    refine outOf_hit ?_
    refine Vc.seq ?_
    refine Vc.region ?_
    refine vcL_pure rfl rfl (Value.pointer (some (a1.add 1))) (fun w => by kernel_rfl) ?_
    obtain ⟨t24, hc12, h⟩ := h
    refine vcL_val rfl rfl (Sl.v t24) (exec_load rfl (by kernel_rfl) (run_load1 (fun w => by kernel_rfl) ((hc12)))) ?_
    refine vcL_eff rfl (opVC_call rfl (by kernel_rfl) (callS.mono h fun v14 vw13 h => ?_)) 
    obtain ⟨t25, rfl, h⟩ := h
    refine vcL_pure rfl rfl (Sl.v t25) (fun w => by kernel_rfl) ?_
    refine vcL_nil ?_
    refine Vc.ret ?_
    refine outs_ret ?_
    refine done_mk (Sl.v t25) (res1 (resC_tmp (by kernel_rfl))) ?_
    exact ⟨t25, rfl, h⟩
theorem wants_Range.go {m_Deps : Sl} {m_Dev : Sl} {m_Optional : Sl} {m_Overrides : Sl} {d_Name : ByteArray} {d_Range : Sl} {w : World} {k : Value → World → Prop} (h : wants_Range m_Deps m_Dev m_Optional m_Overrides d_Name d_Range w fun r0 w' => k (Sl.v r0) w') : callS Tryz.prog 44 [(Value.agg #[(Sl.v m_Deps), (Sl.v m_Dev), (Sl.v m_Optional), (Sl.v m_Overrides)]), (Value.agg #[(Value.string d_Name), (Sl.v d_Range)])] w k := (wants_Range.sound m_Deps m_Dev m_Optional m_Overrides d_Name d_Range w _ h).mono (by rintro _ _ ⟨r0, rfl, h⟩; exact h)

/-- halyard/halyardref03.All -/
def halyardref03_All (w : World) (R : Sl → World → Prop) : Prop :=
  callS Tryz.prog 96 [(Value.int .i64 0)] w fun v vw => ∃ (t1_Major : Int) (t1_Minor : Int) (t1_Patch : Int), v = (Value.agg #[(Value.int .i64 t1_Major), (Value.int .i64 t1_Minor), (Value.int .i64 t1_Patch)]) ∧ callS Tryz.prog 96 [(Value.int .i64 999999999)] vw fun v2 vw1 => ∃ (t2_Major : Int) (t2_Minor : Int) (t2_Patch : Int), v2 = (Value.agg #[(Value.int .i64 t2_Major), (Value.int .i64 t2_Minor), (Value.int .i64 t2_Patch)]) ∧ newS vw1 [(Value.int .i64 t1_Major), (Value.int .i64 t1_Minor), (Value.int .i64 t1_Patch), (Value.int .i64 t2_Major), (Value.int .i64 t2_Minor), (Value.int .i64 t2_Patch)] 83 fun a vw4 => R (Sl.mk (some a) 1 1) vw4
set_option maxHeartbeats 8000000 in
theorem halyardref03_All.sound (w : World) (R : Sl → World → Prop) (h : halyardref03_All w R) : callS Tryz.prog 49 [] w (fun v w' => ∃ (r0 : Sl), v = (Sl.v r0) ∧ R r0 w') := by
  unfold halyardref03_All at h
  refine calls_of_vc 5 rfl Tryz.func49 rfl (by kernel_rfl) (by simp) ?_
  refine Vc.seq ?_
  refine Vc.region ?_
  refine vcL_pure rfl rfl (Sl.v Sl.nil) (fun w => by kernel_rfl) ?_
  refine vcL_nil ?_
  refine Vc.seq ?_
  refine Vc.region ?_
  refine vcL_eff rfl (opVC_call rfl (by kernel_rfl) (callS.mono h fun v vw h => ?_)) 
  obtain ⟨t1_Major, t1_Minor, t1_Patch, rfl, h⟩ := h
  refine vcL_eff rfl (opVC_call rfl (by kernel_rfl) (callS.mono h fun v2 vw1 h => ?_)) 
  obtain ⟨t2_Major, t2_Minor, t2_Patch, rfl, h⟩ := h
  refine vcL_pure rfl rfl (Value.agg #[(Value.int .i64 t1_Major), (Value.int .i64 t1_Minor), (Value.int .i64 t1_Patch), (Value.int .i64 t2_Major), (Value.int .i64 t2_Minor), (Value.int .i64 t2_Patch)]) (fun w => by kernel_rfl) ?_
  refine vcL_eff rfl (opVC_new rfl (fun a => Value.slice (some a) 1 1) (by kernel_rfl) (newS.mono h fun a vw4 hx h => ?_)) 
  refine vcL_pure rfl rfl (Sl.v (Sl.mk (some a) 1 1)) (fun w => by kernel_rfl) ?_
  refine vcL_nil ?_
  refine Vc.ret ?_
  refine outs_ret ?_
  refine done_mk (Sl.v (Sl.mk (some a) 1 1)) (res1 (resC_tmp (by kernel_rfl))) ?_
  exact ⟨(Sl.mk (some a) 1 1), rfl, h⟩
theorem halyardref03_All.go {w : World} {k : Value → World → Prop} (h : halyardref03_All w fun r0 w' => k (Sl.v r0) w') : callS Tryz.prog 49 [] w k := (halyardref03_All.sound w _ h).mono (by rintro _ _ ⟨r0, rfl, h⟩; exact h)

/-- halyard/wants.Context$1 -/
def wants_Context_1 (name : ByteArray) (w : World) (R : Value → World → Prop) : Prop :=
  newS w [(Value.string name)] 9 fun a vw => R (Value.func (.func 51) #[] #[(Value.pointer (some a))]) vw
set_option maxHeartbeats 8000000 in
theorem wants_Context_1.sound (name : ByteArray) (w : World) (R : Value → World → Prop) (h : wants_Context_1 name w R) : callS Tryz.prog 50 [(Value.string name)] w (fun v w' => ∃ (r0 : Value), v = r0 ∧ R r0 w') := by
  unfold wants_Context_1 at h
  refine calls_of_vc 4 rfl Tryz.func50 rfl (by kernel_rfl) (by simp) ?_
  refine Vc.seq ?_
  refine Vc.region ?_
  refine vcL_eff rfl (opVC_new rfl (fun a => Value.pointer (some a)) (by kernel_rfl) (newS.mono h fun a vw hx h => ?_)) 
  refine vcL_pure rfl rfl Value.nilFunc (fun w => by kernel_rfl) ?_
  refine vcL_nil ?_
  refine Vc.seq ?_
  refine Vc.region ?_
  refine vcL_purs 2 [(2, (Value.func (.func 51) #[] #[(Value.pointer (some a))])), (3, (Value.func (.func 51) #[] #[(Value.pointer (some a))]))] (by kernel_rfl) ?_
  refine vcL_nil ?_
  refine Vc.ret ?_
  refine outs_ret ?_
  refine done_mk (Value.func (.func 51) #[] #[(Value.pointer (some a))]) (res1 (resC_tmp (by kernel_rfl))) ?_
  exact ⟨(Value.func (.func 51) #[] #[(Value.pointer (some a))]), rfl, h⟩
theorem wants_Context_1.go {name : ByteArray} {w : World} {k : Value → World → Prop} (h : wants_Context_1 name w fun r0 w' => k r0 w') : callS Tryz.prog 50 [(Value.string name)] w k := (wants_Context_1.sound name w _ h).mono (by rintro _ _ ⟨r0, rfl, h⟩; exact h)

/-- halyard/wants.Context$1$1 -/
def wants_Context_1_1 (q_Name : ByteArray) (q_Version_Major : Int) (q_Version_Minor : Int) (q_Version_Patch : Int) (c0 : Addr) (w : World) (R : Bool → World → Prop) : Prop :=
  newS w [(Value.string q_Name), (Value.int .i64 q_Version_Major), (Value.int .i64 q_Version_Minor), (Value.int .i64 q_Version_Patch)] 32 fun a vw => ∃ (t5 : ByteArray), (ldc vw a [(Value.string t5)]) ∧ ∃ (t6 : ByteArray), (ldc vw c0 [(Value.string t6)]) ∧ R (bEq t5 t6) vw
set_option maxHeartbeats 8000000 in
theorem wants_Context_1_1.sound (q_Name : ByteArray) (q_Version_Major : Int) (q_Version_Minor : Int) (q_Version_Patch : Int) (c0 : Addr) (w : World) (R : Bool → World → Prop) (h : wants_Context_1_1 q_Name q_Version_Major q_Version_Minor q_Version_Patch c0 w R) : callS Tryz.prog 51 [(Value.agg #[(Value.string q_Name), (Value.int .i64 q_Version_Major), (Value.int .i64 q_Version_Minor), (Value.int .i64 q_Version_Patch)]), (Value.pointer (some c0))] w (fun v w' => ∃ (r0 : Bool), v = (Value.bool r0) ∧ R r0 w') := by
  unfold wants_Context_1_1 at h
  refine calls_of_vc 8 rfl Tryz.func51 rfl (by kernel_rfl) (by simp) ?_
  refine Vc.seq ?_
  refine Vc.region ?_
  refine vcL_eff rfl (opVC_new rfl (fun a => Value.pointer (some a)) (by kernel_rfl) (newS.mono h fun a vw hx h => ?_)) 
  refine vcL_pure rfl rfl (Value.bool false) (fun w => by kernel_rfl) ?_
  refine vcL_nil ?_
  refine Vc.seq ?_
  refine Vc.region ?_
  refine vcL_pure rfl rfl (Value.pointer (some a)) (fun w => by kernel_rfl) ?_
  obtain ⟨t5, hc, h⟩ := h
  refine vcL_val rfl rfl (Value.string t5) (exec_load rfl (by kernel_rfl) (run_load1 (fun w => by kernel_rfl) ((hc)))) ?_
  obtain ⟨t6, hc1, h⟩ := h
  refine vcL_val rfl rfl (Value.string t6) (exec_load rfl (by kernel_rfl) (run_load1 (fun w => by kernel_rfl) ((hc1)))) ?_
  refine vcL_purs 2 [(3, (Value.bool (bEq t5 t6))), (7, (Value.bool (bEq t5 t6)))] (by kernel_rfl) ?_
  refine vcL_nil ?_
  refine Vc.ret ?_
  refine outs_ret ?_
  refine done_mk (Value.bool (bEq t5 t6)) (res1 (resC_tmp (by kernel_rfl))) ?_
  exact ⟨(bEq t5 t6), rfl, h⟩
theorem wants_Context_1_1.go {q_Name : ByteArray} {q_Version_Major : Int} {q_Version_Minor : Int} {q_Version_Patch : Int} {c0 : Addr} {w : World} {k : Value → World → Prop} (h : wants_Context_1_1 q_Name q_Version_Major q_Version_Minor q_Version_Patch c0 w fun r0 w' => k (Value.bool r0) w') : callS Tryz.prog 51 [(Value.agg #[(Value.string q_Name), (Value.int .i64 q_Version_Major), (Value.int .i64 q_Version_Minor), (Value.int .i64 q_Version_Patch)]), (Value.pointer (some c0))] w k := (wants_Context_1_1.sound q_Name q_Version_Major q_Version_Minor q_Version_Patch c0 w _ h).mono (by rintro _ _ ⟨r0, rfl, h⟩; exact h)

/-- slices.IndexFunc[[]halyard/api.Pin,halyard/api.Pin] -/
def slices_IndexFunc_apiPinapiPin (vs : Sl) (f : Value) (w : World) (R : Int → World → Prop) : Prop :=
  loop1 0 w fun t8 vw nxt => ((t8 < (vs.len : Int) → ∃ (ad : Addr), (vs.a = some ad ∧ (0 : Int) ≤ t8 ∧ t8 < (vs.len : Int)) ∧ ∃ (t15_Name : ByteArray) (t15_Version_Major : Int) (t15_Version_Minor : Int) (t15_Version_Patch : Int), (ldc vw (ad.add (t8.toNat * 4)) [(Value.string t15_Name), (Value.int .i64 t15_Version_Major), (Value.int .i64 t15_Version_Minor), (Value.int .i64 t15_Version_Patch)]) ∧ callV Tryz.prog f [(Value.agg #[(Value.string t15_Name), (Value.int .i64 t15_Version_Major), (Value.int .i64 t15_Version_Minor), (Value.int .i64 t15_Version_Patch)])] vw fun v vw1 => ∃ (t16 : Bool), v = (Value.bool t16) ∧ ((t16 = true → R t8 vw1) ∧ (t16 = false → nxt (wrapI (t8 + 1)) vw1))) ∧ (¬ (t8 < (vs.len : Int)) → R (-1) vw))
set_option maxHeartbeats 8000000 in
theorem slices_IndexFunc_apiPinapiPin.sound (vs : Sl) (f : Value) (w : World) (R : Int → World → Prop) (h : slices_IndexFunc_apiPinapiPin vs f w R) : callS Tryz.prog 52 [(Sl.v vs), f] w (fun v w' => ∃ (r0 : Int), v = (Value.int .i64 r0) ∧ R r0 w') := by
  unfold slices_IndexFunc_apiPinapiPin at h
  refine calls_of_vc 19 rfl Tryz.func52 rfl (by kernel_rfl) (by simp) ?_
  refine Vc.seq ?_
  refine Vc.region ?_
  refine vcL_pure rfl rfl (Value.int .i64 0) (fun w => by kernel_rfl) ?_
  refine vcL_nil ?_
  refine Vc.seq ?_
  refine Vc.seq ?_
  refine Vc.region ?_
  refine vcL_purs 3 [(8, (Value.int .i64 0)), (7, (Value.int .i64 (vs.len : Int))), (6, (Sl.v vs))] (by kernel_rfl) ?_
  refine vcL_nil ?_
  refine Vc.block ?_
  obtain ⟨vI, mu, h, hr⟩ := h
  refine Vc.loopJ (σ := Int) [8] [4, 5, 9, 10, 11, 12, 13, 14, 15, 16, 17, 18] (fun s => [(8, (Value.int .i64 s))]) (fun s w => vI s w) (fun s w => mu s w) 0 h (fun _ => rfl) (by kernel_rfl) ?_
  intro t8 vw j h
  have h := hr t8 vw h
  refine Vc.seq ?_
  refine Vc.region ?_
  refine vcL_pure rfl rfl (Value.bool (decide (t8 < (vs.len : Int)))) (fun w => by kernel_rfl) ?_
  refine vcL_nil ?_
  refine Vc.seq ?_
  refine Vc.cond (decide (t8 < (vs.len : Int))) (by kernel_rfl) (fun hb => ?_) (fun hb => ?_)
  · have h := h.1 (of_decide_eq_true hb)
    refine Vc.skip ?_
    refine Vc.seq ?_
    refine Vc.block ?_
    refine Vc.seq ?_
    refine Vc.region ?_
    refine vcL_purs 2 [(5, (Value.int .i64 t8)), (10, (Value.int .i64 t8))] (by kernel_rfl) ?_
    refine vcL_nil ?_
    refine Vc.seq ?_
    refine Vc.region ?_
    refine vcL_purs 3 [(13, (Value.int .i64 t8)), (12, (Sl.v vs)), (11, f)] (by kernel_rfl) ?_
    obtain ⟨ad, hi, h⟩ := h
    refine vcL_pure rfl rfl (Value.pointer (some (ad.add (t8.toNat * 4)))) (fun w => by exact exec_indexAt (s := vs) (el := 32) rfl (by kernel_rfl) (by kernel_rfl) (by kernel_rfl) (fun w => by kernel_rfl) (hi).1 (hi).2.1 (hi).2.2 w) ?_
    obtain ⟨t15_Name, t15_Version_Major, t15_Version_Minor, t15_Version_Patch, hc, h⟩ := h
    refine vcL_val rfl rfl (Value.agg #[(Value.string t15_Name), (Value.int .i64 t15_Version_Major), (Value.int .i64 t15_Version_Minor), (Value.int .i64 t15_Version_Patch)]) (exec_load rfl (by kernel_rfl) (run_loadN (fun w => by kernel_rfl) (fun w => by kernel_rfl) ((hc)))) ?_
    refine vcL_eff rfl (opVC_callV rfl rfl (fv := f) (by kernel_rfl) (args := [(Value.agg #[(Value.string t15_Name), (Value.int .i64 t15_Version_Major), (Value.int .i64 t15_Version_Minor), (Value.int .i64 t15_Version_Patch)])]) (by kernel_rfl) (callV.mono h fun v vw1 h => ?_)) 
    obtain ⟨t16, rfl, h⟩ := h
    refine vcL_nil ?_
    refine Vc.cond t16 (by kernel_rfl) (fun hb => ?_) (fun hb => ?_)
    · have h := h.1 (hb)
      refine Vc.seq ?_
      refine Vc.region ?_
      refine vcL_purs 2 [(4, (Value.int .i64 t8)), (17, (Value.int .i64 t8))] (by kernel_rfl) ?_
      refine vcL_nil ?_
      refine Vc.ret ?_
      refine outOf_ret ?_
      refine outOf_ret ?_
      refine outs_ret ?_
      refine done_mk (Value.int .i64 t8) (res1 (resC_tmp (by kernel_rfl))) ?_
      exact ⟨t8, rfl, h⟩
    · have h := h.2 (hb)
      refine Vc.skip ?_
      refine Vc.region ?_
      refine vcL_purs 2 [(8, (Value.int .i64 (wrapI (t8 + 1)))), (18, (Value.int .i64 (wrapI (t8 + 1))))] (by kernel_rfl) ?_
      refine vcL_nil ?_
      exact ⟨(wrapI (t8 + 1)), 24, ⟨rfl, by kernel_rfl, by kernel_rfl, by kernel_rfl⟩, h⟩
  · have h := h.2 (of_decide_eq_false hb)
    refine Vc.exit ?_
    refine outOf_hit ?_
    refine Vc.seq ?_
    refine Vc.region ?_
    refine vcL_pure rfl rfl (Value.int .i64 (-1)) (fun w => by kernel_rfl) ?_
    refine vcL_nil ?_
    refine Vc.ret ?_
    refine outs_ret ?_
    refine done_mk (Value.int .i64 (-1)) (res1 (resC_tmp (by kernel_rfl))) ?_
    exact ⟨(-1), rfl, h⟩
theorem slices_IndexFunc_apiPinapiPin.go {vs : Sl} {f : Value} {w : World} {k : Value → World → Prop} (h : slices_IndexFunc_apiPinapiPin vs f w fun r0 w' => k (Value.int .i64 r0) w') : callS Tryz.prog 52 [(Sl.v vs), f] w k := (slices_IndexFunc_apiPinapiPin.sound vs f w _ h).mono (by rintro _ _ ⟨r0, rfl, h⟩; exact h)

/-- halyard/span.In -/
def span_In (l : Sl) (v_Major : Int) (v_Minor : Int) (v_Patch : Int) (w : World) (R : Bool → World → Prop) : Prop :=
  newS w [(Value.int .i64 v_Major), (Value.int .i64 v_Minor), (Value.int .i64 v_Patch)] 30 fun a vw => callS Tryz.prog 91 [(Sl.v l)] vw fun v vw1 => ∃ (t6 : Bool), v = (Value.bool t6) ∧ ∃ (t8_Major : Int) (t8_Minor : Int) (t8_Patch : Int), grd t6 (ldc vw1 a [(Value.int .i64 t8_Major), (Value.int .i64 t8_Minor), (Value.int .i64 t8_Patch)]) ∧ gCall t6 (fun (t9 : Bool) (vw2 : World) => bnd (t6 && t9) fun (b : Bool) => gCall b (fun (t14 : Bool) (vw5 : World) => R (b && t14) vw5) (fun q => callS Tryz.prog 98 [(Sl.v l), (Value.func (.func 99) #[] #[(Value.pointer (some a))])] vw2 fun v6 vw5 => ∃ (t14 : Bool), v6 = (Value.bool t14) ∧ q t14 vw5) (fun q => q false vw2)) (fun q => callS Tryz.prog 97 [(Value.agg #[(Value.int .i64 t8_Major), (Value.int .i64 t8_Minor), (Value.int .i64 t8_Patch)])] vw1 fun v3 vw2 => ∃ (t9 : Bool), v3 = (Value.bool t9) ∧ q t9 vw2) (fun q => q false vw1)
set_option maxHeartbeats 8000000 in
theorem span_In.sound (l : Sl) (v_Major : Int) (v_Minor : Int) (v_Patch : Int) (w : World) (R : Bool → World → Prop) (h : span_In l v_Major v_Minor v_Patch w R) : callS Tryz.prog 53 [(Sl.v l), (Value.agg #[(Value.int .i64 v_Major), (Value.int .i64 v_Minor), (Value.int .i64 v_Patch)])] w (fun v w' => ∃ (r0 : Bool), v = (Value.bool r0) ∧ R r0 w') := by
  unfold span_In at h
  refine calls_of_vc 16 rfl Tryz.func53 rfl (by kernel_rfl) (by simp) ?_
  refine Vc.seq ?_
  refine Vc.region ?_
  refine vcL_eff rfl (opVC_new rfl (fun a => Value.pointer (some a)) (by kernel_rfl) (newS.mono h fun a vw hx h => ?_)) 
  refine vcL_pure rfl rfl (Value.bool false) (fun w => by kernel_rfl) ?_
  refine vcL_nil ?_
  refine Vc.seq ?_
  refine Vc.region ?_
  refine vcL_pure rfl rfl (Sl.v l) (fun w => by kernel_rfl) ?_
  refine vcL_eff rfl (opVC_call rfl (by kernel_rfl) (callS.mono h fun v vw1 h => ?_)) 
  obtain ⟨t6, rfl, h⟩ := h
  refine vcL_pure rfl rfl (Value.bool t6) (fun w => by kernel_rfl) ?_
  obtain ⟨t8_Major, t8_Minor, t8_Patch, hc, h⟩ := h
  refine vcL_guard t6 (wanted_g (d := 7) rfl (by kernel_rfl) t6 (by kernel_rfl) t6 (eqT t6)) rfl (Value.agg #[(Value.int .i64 t8_Major), (Value.int .i64 t8_Minor), (Value.int .i64 t8_Patch)]) (fun hg => by subst hg; exact exec_load rfl (by kernel_rfl) (run_loadN (fun w => by kernel_rfl) (fun w => by kernel_rfl) ((hc rfl)))) ?_
  obtain ⟨vJ, hJ, h⟩ := gCall_elim h
  refine vcL_effJ (σ := Bool) t6 (wanted_g (d := 7) rfl (by kernel_rfl) t6 (by kernel_rfl) t6 (eqT t6)) rfl (fun s w => vJ s w) (fun s => (Value.bool s)) ?_ (fun hg => opVC_call rfl (by subst hg; kernel_rfl) (callS.mono (h.1 hg) fun v3 vw2 hq => ?_)) (fun hg => ⟨false, h.2 hg⟩)
  · intro t9 vw2 h
    subst hJ
    refine vcL_pure rfl rfl (Value.bool (t6 && t9)) (fun w => by cases t6 <;> kernel_rfl) ?_
    obtain ⟨b, hb⟩ : ∃ y, y = (t6 && t9) := ⟨_, rfl⟩
    have h := h b hb
    refine vcL_pure rfl rfl (Value.bool b) (fun w => by rw [hb]; kernel_rfl) ?_
    refine vcL_guardP b (wanted_g (d := 11) rfl (by kernel_rfl) b (by kernel_rfl) b (eqT b)) rfl (Sl.v l) (fun hg w => by subst hg; kernel_rfl) ?_
    refine vcL_guardP b (wanted_g (d := 11) rfl (by kernel_rfl) b (by kernel_rfl) b (eqT b)) rfl (Value.func (.func 99) #[] #[(Value.pointer (some a))]) (fun hg w => by subst hg; kernel_rfl) ?_
    obtain ⟨vJ8, hJ9, h⟩ := gCall_elim h
    refine vcL_effJ (σ := Bool) b (wanted_g (d := 11) rfl (by kernel_rfl) b (by kernel_rfl) b (eqT b)) rfl (fun s w => vJ8 s w) (fun s => (Value.bool s)) ?_ (fun hg => opVC_call rfl (by subst hg; kernel_rfl) (callS.mono (h.1 hg) fun v6 vw5 hq => ?_)) (fun hg => ⟨false, h.2 hg⟩)
    · intro t14 vw5 h
      subst hJ9
      refine vcL_pure rfl rfl (Value.bool (b && t14)) (fun w => by cases b <;> kernel_rfl) ?_
      refine vcL_pure rfl rfl (Value.bool (b && t14)) (fun w => by kernel_rfl) ?_
      refine vcL_nil ?_
      refine Vc.ret ?_
      refine outs_ret ?_
      refine done_mk (Value.bool (b && t14)) (res1 (resC_tmp (by kernel_rfl))) ?_
      exact ⟨(b && t14), rfl, h⟩
    · obtain ⟨t14, rfl, hq⟩ := hq
      exact ⟨t14, rfl, hq⟩
  · obtain ⟨t9, rfl, hq⟩ := hq
    exact ⟨t9, rfl, hq⟩
theorem span_In.go {l : Sl} {v_Major : Int} {v_Minor : Int} {v_Patch : Int} {w : World} {k : Value → World → Prop} (h : span_In l v_Major v_Minor v_Patch w fun r0 w' => k (Value.bool r0) w') : callS Tryz.prog 53 [(Sl.v l), (Value.agg #[(Value.int .i64 v_Major), (Value.int .i64 v_Minor), (Value.int .i64 v_Patch)])] w k := (span_In.sound l v_Major v_Minor v_Patch w _ h).mono (by rintro _ _ ⟨r0, rfl, h⟩; exact h)

/-- slices.ContainsFunc[[]halyard/api.Pin,halyard/api.Pin] -/
def slices_ContainsFunc_apiPinapiPin (vs : Sl) (f : Value) (w : World) (R : Bool → World → Prop) : Prop :=
  callS Tryz.prog 52 [(Sl.v vs), f] w fun v vw => ∃ (t7 : Int), v = (Value.int .i64 t7) ∧ R (decide (0 ≤ t7)) vw
set_option maxHeartbeats 8000000 in
theorem slices_ContainsFunc_apiPinapiPin.sound (vs : Sl) (f : Value) (w : World) (R : Bool → World → Prop) (h : slices_ContainsFunc_apiPinapiPin vs f w R) : callS Tryz.prog 54 [(Sl.v vs), f] w (fun v w' => ∃ (r0 : Bool), v = (Value.bool r0) ∧ R r0 w') := by
  unfold slices_ContainsFunc_apiPinapiPin at h
  refine calls_of_vc 9 rfl Tryz.func54 rfl (by kernel_rfl) (by simp) ?_
  refine Vc.seq ?_
  refine Vc.region ?_
  refine vcL_pure rfl rfl (Value.bool false) (fun w => by kernel_rfl) ?_
  refine vcL_nil ?_
  refine Vc.seq ?_
  refine Vc.region ?_
  refine vcL_purs 2 [(6, f), (5, (Sl.v vs))] (by kernel_rfl) ?_
  refine vcL_eff rfl (opVC_call rfl (by kernel_rfl) (callS.mono h fun v vw h => ?_)) 
  obtain ⟨t7, rfl, h⟩ := h
  refine vcL_purs 2 [(4, (Value.bool (decide (0 ≤ t7)))), (8, (Value.bool (decide (0 ≤ t7))))] (by kernel_rfl) ?_
  refine vcL_nil ?_
  refine Vc.ret ?_
  refine outs_ret ?_
  refine done_mk (Value.bool (decide (0 ≤ t7))) (res1 (resC_tmp (by kernel_rfl))) ?_
  exact ⟨(decide (0 ≤ t7)), rfl, h⟩
theorem slices_ContainsFunc_apiPinapiPin.go {vs : Sl} {f : Value} {w : World} {k : Value → World → Prop} (h : slices_ContainsFunc_apiPinapiPin vs f w fun r0 w' => k (Value.bool r0) w') : callS Tryz.prog 54 [(Sl.v vs), f] w k := (slices_ContainsFunc_apiPinapiPin.sound vs f w _ h).mono (by rintro _ _ ⟨r0, rfl, h⟩; exact h)

/-- halyard/wants.Context$2 -/
def wants_Context_2 (a_Name : ByteArray) (a_Version_Major : Int) (a_Version_Minor : Int) (a_Version_Patch : Int) (b_Name : ByteArray) (b_Version_Major : Int) (b_Version_Minor : Int) (b_Version_Patch : Int) (w : World) (R : Int → World → Prop) : Prop :=
  newS w [(Value.string a_Name), (Value.int .i64 a_Version_Major), (Value.int .i64 a_Version_Minor), (Value.int .i64 a_Version_Patch)] 32 fun a vw => newS vw [(Value.string b_Name), (Value.int .i64 b_Version_Major), (Value.int .i64 b_Version_Minor), (Value.int .i64 b_Version_Patch)] 32 fun a1 vw2 => ∃ (t6 : ByteArray), (ldc vw2 a [(Value.string t6)]) ∧ ∃ (t8 : ByteArray), (ldc vw2 a1 [(Value.string t8)]) ∧ callS Tryz.prog 57 [(Value.string t6), (Value.string t8)] vw2 fun v vw4 => ∃ (t9 : Int), v = (Value.int .i64 t9) ∧ R t9 vw4
set_option maxHeartbeats 8000000 in
theorem wants_Context_2.sound (a_Name : ByteArray) (a_Version_Major : Int) (a_Version_Minor : Int) (a_Version_Patch : Int) (b_Name : ByteArray) (b_Version_Major : Int) (b_Version_Minor : Int) (b_Version_Patch : Int) (w : World) (R : Int → World → Prop) (h : wants_Context_2 a_Name a_Version_Major a_Version_Minor a_Version_Patch b_Name b_Version_Major b_Version_Minor b_Version_Patch w R) : callS Tryz.prog 56 [(Value.agg #[(Value.string a_Name), (Value.int .i64 a_Version_Major), (Value.int .i64 a_Version_Minor), (Value.int .i64 a_Version_Patch)]), (Value.agg #[(Value.string b_Name), (Value.int .i64 b_Version_Major), (Value.int .i64 b_Version_Minor), (Value.int .i64 b_Version_Patch)])] w (fun v w' => ∃ (r0 : Int), v = (Value.int .i64 r0) ∧ R r0 w') := by
  unfold wants_Context_2 at h
  refine calls_of_vc 10 rfl Tryz.func56 rfl (by kernel_rfl) (by simp) ?_
  refine Vc.seq ?_
  refine Vc.region ?_
  refine vcL_eff rfl (opVC_new rfl (fun a => Value.pointer (some a)) (by kernel_rfl) (newS.mono h fun a vw hx h => ?_)) 
  refine vcL_eff rfl (opVC_new rfl (fun a => Value.pointer (some a)) (by kernel_rfl) (newS.mono h fun a1 vw2 hx h => ?_)) 
  refine vcL_pure rfl rfl (Value.int .i64 0) (fun w => by kernel_rfl) ?_
  refine vcL_nil ?_
  refine Vc.seq ?_
  refine Vc.region ?_
  refine vcL_pure rfl rfl (Value.pointer (some a)) (fun w => by kernel_rfl) ?_
  obtain ⟨t6, hc, h⟩ := h
  refine vcL_val rfl rfl (Value.string t6) (exec_load rfl (by kernel_rfl) (run_load1 (fun w => by kernel_rfl) ((hc)))) ?_
  refine vcL_pure rfl rfl (Value.pointer (some a1)) (fun w => by kernel_rfl) ?_
  obtain ⟨t8, hc3, h⟩ := h
  refine vcL_val rfl rfl (Value.string t8) (exec_load rfl (by kernel_rfl) (run_load1 (fun w => by kernel_rfl) ((hc3)))) ?_
  refine vcL_eff rfl (opVC_call rfl (by kernel_rfl) (callS.mono h fun v vw4 h => ?_)) 
  obtain ⟨t9, rfl, h⟩ := h
  refine vcL_pure rfl rfl (Value.int .i64 t9) (fun w => by kernel_rfl) ?_
  refine vcL_nil ?_
  refine Vc.ret ?_
  refine outs_ret ?_
  refine done_mk (Value.int .i64 t9) (res1 (resC_tmp (by kernel_rfl))) ?_
  exact ⟨t9, rfl, h⟩
theorem wants_Context_2.go {a_Name : ByteArray} {a_Version_Major : Int} {a_Version_Minor : Int} {a_Version_Patch : Int} {b_Name : ByteArray} {b_Version_Major : Int} {b_Version_Minor : Int} {b_Version_Patch : Int} {w : World} {k : Value → World → Prop} (h : wants_Context_2 a_Name a_Version_Major a_Version_Minor a_Version_Patch b_Name b_Version_Major b_Version_Minor b_Version_Patch w fun r0 w' => k (Value.int .i64 r0) w') : callS Tryz.prog 56 [(Value.agg #[(Value.string a_Name), (Value.int .i64 a_Version_Major), (Value.int .i64 a_Version_Minor), (Value.int .i64 a_Version_Patch)]), (Value.agg #[(Value.string b_Name), (Value.int .i64 b_Version_Major), (Value.int .i64 b_Version_Minor), (Value.int .i64 b_Version_Patch)])] w k := (wants_Context_2.sound a_Name a_Version_Major a_Version_Minor a_Version_Patch b_Name b_Version_Major b_Version_Minor b_Version_Patch w _ h).mono (by rintro _ _ ⟨r0, rfl, h⟩; exact h)

/-- slices.Clip[[]halyard/api.Pin,halyard/api.Pin] -/
def slices_Clip_apiPinapiPin (vs : Sl) (w : World) (R : Sl → World → Prop) : Prop :=
  ((0 : Int) ≤ 0 ∧ 0 ≤ (vs.len : Int) ∧ (vs.len : Int) ≤ (vs.len : Int) ∧ (vs.len : Int) ≤ (vs.cap : Int)) ∧ R (Sl.mk (if (vs.len : Int).toNat = 0 then vs.a else vs.a.map (·.add (0 * 4))) ((vs.len : Int).toNat - 0) ((vs.len : Int).toNat - 0)) w
set_option maxHeartbeats 8000000 in
theorem slices_Clip_apiPinapiPin.sound (vs : Sl) (w : World) (R : Sl → World → Prop) (h : slices_Clip_apiPinapiPin vs w R) : callS Tryz.prog 58 [(Sl.v vs)] w (fun v w' => ∃ (r0 : Sl), v = (Sl.v r0) ∧ R r0 w') := by
  unfold slices_Clip_apiPinapiPin at h
  refine calls_of_vc 9 rfl Tryz.func58 rfl (by kernel_rfl) (by simp) ?_
  refine Vc.seq ?_
  refine Vc.region ?_
  refine vcL_pure rfl rfl (Sl.v Sl.nil) (fun w => by kernel_rfl) ?_
  refine vcL_nil ?_
  refine Vc.seq ?_
  refine Vc.region ?_
  refine vcL_purs 5 [(7, (Value.int .i64 (vs.len : Int))), (6, (Sl.v vs)), (5, (Value.int .i64 (vs.len : Int))), (4, (Sl.v vs)), (3, (Sl.v vs))] (by kernel_rfl) ?_
  obtain ⟨hi, h⟩ := h
  refine vcL_pure rfl rfl (Sl.v (Sl.mk (if (vs.len : Int).toNat = 0 then vs.a else vs.a.map (·.add (0 * 4))) ((vs.len : Int).toNat - 0) ((vs.len : Int).toNat - 0))) (fun w => by exact exec_slSlHM (s := vs) (el := 32) (k2 := .i64) (k3 := .i64) rfl (by kernel_rfl) (by kernel_rfl) (by kernel_rfl) (by kernel_rfl) (fun w => by kernel_rfl) (hi) w) ?_
  refine vcL_pure rfl rfl (Sl.v (Sl.mk (if (vs.len : Int).toNat = 0 then vs.a else vs.a.map (·.add (0 * 4))) ((vs.len : Int).toNat - 0) ((vs.len : Int).toNat - 0))) (fun w => by kernel_rfl) ?_
  refine vcL_nil ?_
  refine Vc.ret ?_
  refine outs_ret ?_
  refine done_mk (Sl.v (Sl.mk (if (vs.len : Int).toNat = 0 then vs.a else vs.a.map (·.add (0 * 4))) ((vs.len : Int).toNat - 0) ((vs.len : Int).toNat - 0))) (res1 (resC_tmp (by kernel_rfl))) ?_
  exact ⟨(Sl.mk (if (vs.len : Int).toNat = 0 then vs.a else vs.a.map (·.add (0 * 4))) ((vs.len : Int).toNat - 0) ((vs.len : Int).toNat - 0)), rfl, h⟩
theorem slices_Clip_apiPinapiPin.go {vs : Sl} {w : World} {k : Value → World → Prop} (h : slices_Clip_apiPinapiPin vs w fun r0 w' => k (Sl.v r0) w') : callS Tryz.prog 58 [(Sl.v vs)] w k := (slices_Clip_apiPinapiPin.sound vs w _ h).mono (by rintro _ _ ⟨r0, rfl, h⟩; exact h)

/-- halyard/halyardref05.less -/
def halyardref05_less (a : ByteArray) (b : ByteArray) (w : World) (R : Bool → World → Prop) : Prop :=
  loop1 0 w fun i vw nxt => bnd (decide (i < (a.size : Int))) fun (b1 : Bool) => (((b1 && (decide (i < (b.size : Int)))) = true → bnd vw.drew fun (vw2 : World) => ((0 : Int) ≤ i ∧ i < (a.size : Int)) ∧ ((0 : Int) ≤ i ∧ i < (b.size : Int)) ∧ ((¬ (bAt a i) = (bAt b i) → bnd vw2.drew fun (vw4 : World) => ((0 : Int) ≤ i ∧ i < (a.size : Int)) ∧ ((0 : Int) ≤ i ∧ i < (b.size : Int)) ∧ R (decide ((bAt a i) < (bAt b i))) vw4) ∧ (¬ (¬ (bAt a i) = (bAt b i)) → nxt (wrapI (i + 1)) vw2))) ∧ ((b1 && (decide (i < (b.size : Int)))) = false → R (decide ((a.size : Int) < (b.size : Int))) vw))
set_option maxHeartbeats 8000000 in
theorem halyardref05_less.sound (a : ByteArray) (b : ByteArray) (w : World) (R : Bool → World → Prop) (h : halyardref05_less a b w R) : callS Tryz.prog 59 [(Value.string a), (Value.string b)] w (fun v w' => ∃ (r0 : Bool), v = (Value.bool r0) ∧ R r0 w') := by
  unfold halyardref05_less at h
  refine calls_of_vc 37 rfl Tryz.func59 rfl (by kernel_rfl) (by simp) ?_
  refine Vc.seq ?_
  refine Vc.region ?_
  refine vcL_pure rfl rfl (Value.bool false) (fun w => by kernel_rfl) ?_
  refine vcL_nil ?_
  refine Vc.seq ?_
  refine Vc.seq ?_
  refine Vc.region ?_
  refine vcL_pure rfl rfl (Value.int .i64 0) (fun w => by kernel_rfl) ?_
  refine vcL_nil ?_
  refine Vc.block ?_
  obtain ⟨vI, mu, h, hr⟩ := h
  refine Vc.loopJ (σ := Int) [5] [4, 6, 7, 8, 9, 10, 11, 12, 13, 14, 15, 16, 17, 18, 19, 20, 21, 22, 23, 24, 25, 26, 27, 28, 29, 30, 31] (fun s => [(5, (Value.int .i64 s))]) (fun s w => vI s w) (fun s w => mu s w) 0 h (fun _ => rfl) (by kernel_rfl) ?_
  intro i vw j h
  have h := hr i vw h
  refine Vc.seq ?_
  refine Vc.seq ?_
  refine Vc.region ?_
  refine vcL_purs 4 [(9, (Value.bool (decide (i < (a.size : Int))))), (8, (Value.int .i64 (a.size : Int))), (7, (Value.string a)), (6, (Value.int .i64 i))] (by kernel_rfl) ?_
  obtain ⟨b1, hb1⟩ : ∃ y, y = (decide (i < (a.size : Int))) := ⟨_, rfl⟩
  have h := h b1 hb1
  refine vcL_pure rfl rfl (Value.bool b1) (fun w => by rw [hb1]; kernel_rfl) ?_
  refine vcL_guardP b1 (wanted_g (d := 10) rfl (by kernel_rfl) b1 (by kernel_rfl) b1 (eqT b1)) rfl (Value.int .i64 i) (fun hg w => by subst hg; kernel_rfl) ?_
  refine vcL_guardP b1 (wanted_g (d := 10) rfl (by kernel_rfl) b1 (by kernel_rfl) b1 (eqT b1)) rfl (Value.string b) (fun hg w => by subst hg; kernel_rfl) ?_
  refine vcL_guardP b1 (wanted_g (d := 10) rfl (by kernel_rfl) b1 (by kernel_rfl) b1 (eqT b1)) rfl (Value.int .i64 (b.size : Int)) (fun hg w => by subst hg; kernel_rfl) ?_
  refine vcL_guardP b1 (wanted_g (d := 10) rfl (by kernel_rfl) b1 (by kernel_rfl) b1 (eqT b1)) rfl (Value.bool (decide (i < (b.size : Int)))) (fun hg w => by subst hg; kernel_rfl) ?_
  refine vcL_pure rfl rfl (Value.bool (b1 && (decide (i < (b.size : Int))))) (fun w => by cases b1 <;> kernel_rfl) ?_
  refine vcL_nil ?_
  refine Vc.cond (b1 && (decide (i < (b.size : Int)))) (by kernel_rfl) (fun hb => ?_) (fun hb => ?_)
  · have h := h.1 (hb)
    refine Vc.skip ?_
    refine Vc.seq ?_
    refine Vc.block ?_
    refine Vc.seq ?_
    obtain ⟨vw2, hvw2⟩ : ∃ y, y = vw.drew := ⟨_, rfl⟩
    have h := h vw2 hvw2
    refine Vc.draw (by kernel_rfl) (fun i => !(memN [] i)) (.pur 0 (.pur 1 (.pur 2 (.pur 3 (.pur 4 (.pur 5 (.pur 6 .fin))))))) (by kernel_rfl) ?_
    rw [← hvw2]
    clear hvw2
    refine vcS_pure rfl rfl rfl (Value.string a) (fun w => by kernel_rfl) ?_
    refine vcS_pure rfl rfl rfl (Value.int .i64 i) (fun w => by kernel_rfl) ?_
    obtain ⟨hi, h⟩ := h
    refine vcS_pure rfl rfl rfl (Value.int .u8 (bAt a i)) (fun w => by exact exec_indexStr (s := a) (k := .i64) rfl (by kernel_rfl) (by kernel_rfl) (by kernel_rfl) (hi).1 (hi).2 w) ?_
    refine vcS_pure rfl rfl rfl (Value.string b) (fun w => by kernel_rfl) ?_
    refine vcS_pure rfl rfl rfl (Value.int .i64 i) (fun w => by kernel_rfl) ?_
    obtain ⟨hi3, h⟩ := h
    refine vcS_pure rfl rfl rfl (Value.int .u8 (bAt b i)) (fun w => by exact exec_indexStr (s := b) (k := .i64) rfl (by kernel_rfl) (by kernel_rfl) (by kernel_rfl) (hi3).1 (hi3).2 w) ?_
    refine vcS_pure rfl rfl rfl (Value.bool (!((bAt a i) == (bAt b i)))) (fun w => by kernel_rfl) ?_
    refine vcS_fin ?_
    refine Vc.cond (!((bAt a i) == (bAt b i))) (by kernel_rfl) (fun hb => ?_) (fun hb => ?_)
    · have h := h.1 (ne_of_nbeq hb)
      refine Vc.seq ?_
      obtain ⟨vw4, hvw4⟩ : ∃ y, y = vw2.drew := ⟨_, rfl⟩
      have h := h vw4 hvw4
      refine Vc.draw (by kernel_rfl) (fun i => !(memN [] i)) (.pur 0 (.pur 1 (.pur 2 (.pur 3 (.pur 4 (.pur 5 (.pur 6 (.pur 7 .fin)))))))) (by kernel_rfl) ?_
      rw [← hvw4]
      clear hvw4
      refine vcS_pure rfl rfl rfl (Value.string a) (fun w => by kernel_rfl) ?_
      refine vcS_pure rfl rfl rfl (Value.int .i64 i) (fun w => by kernel_rfl) ?_
      obtain ⟨hi5, h⟩ := h
      refine vcS_pure rfl rfl rfl (Value.int .u8 (bAt a i)) (fun w => by exact exec_indexStr (s := a) (k := .i64) rfl (by kernel_rfl) (by kernel_rfl) (by kernel_rfl) (hi5).1 (hi5).2 w) ?_
      refine vcS_pure rfl rfl rfl (Value.string b) (fun w => by kernel_rfl) ?_
      refine vcS_pure rfl rfl rfl (Value.int .i64 i) (fun w => by kernel_rfl) ?_
      obtain ⟨hi6, h⟩ := h
      refine vcS_pure rfl rfl rfl (Value.int .u8 (bAt b i)) (fun w => by exact exec_indexStr (s := b) (k := .i64) rfl (by kernel_rfl) (by kernel_rfl) (by kernel_rfl) (hi6).1 (hi6).2 w) ?_
      refine vcS_pure rfl rfl rfl (Value.bool (decide ((bAt a i) < (bAt b i)))) (fun w => by kernel_rfl) ?_
      refine vcS_pure rfl rfl rfl (Value.bool (decide ((bAt a i) < (bAt b i)))) (fun w => by kernel_rfl) ?_
      refine vcS_fin ?_
      refine Vc.ret ?_
      refine outOf_ret ?_
      refine outOf_ret ?_
      refine outs_ret ?_
      refine done_mk (Value.bool (decide ((bAt a i) < (bAt b i)))) (res1 (resC_tmp (by kernel_rfl))) ?_
      exact ⟨(decide ((bAt a i) < (bAt b i))), rfl, h⟩
    · have h := h.2 (nne_of_nbeq hb)
      refine Vc.skip ?_
      refine Vc.region ?_
      refine vcL_purs 3 [(5, (Value.int .i64 (wrapI (i + 1)))), (17, (Value.int .i64 (wrapI (i + 1)))), (16, (Value.int .i64 i))] (by kernel_rfl) ?_
      refine vcL_nil ?_
      exact ⟨(wrapI (i + 1)), 48, ⟨rfl, by kernel_rfl, by kernel_rfl, by kernel_rfl⟩, h⟩
  · have h := h.2 (hb)
    refine Vc.exit ?_
    refine outOf_hit ?_
    refine Vc.seq ?_
    refine Vc.region ?_
    refine vcL_purs 6 [(4, (Value.bool (decide ((a.size : Int) < (b.size : Int))))), (36, (Value.bool (decide ((a.size : Int) < (b.size : Int))))), (35, (Value.int .i64 (b.size : Int))), (34, (Value.string b)), (33, (Value.int .i64 (a.size : Int))), (32, (Value.string a))] (by kernel_rfl) ?_
    refine vcL_nil ?_
    refine Vc.ret ?_
    refine outs_ret ?_
    refine done_mk (Value.bool (decide ((a.size : Int) < (b.size : Int)))) (res1 (resC_tmp (by kernel_rfl))) ?_
    exact ⟨(decide ((a.size : Int) < (b.size : Int))), rfl, h⟩
theorem halyardref05_less.go {a : ByteArray} {b : ByteArray} {w : World} {k : Value → World → Prop} (h : halyardref05_less a b w fun r0 w' => k (Value.bool r0) w') : callS Tryz.prog 59 [(Value.string a), (Value.string b)] w k := (halyardref05_less.sound a b w _ h).mono (by rintro _ _ ⟨r0, rfl, h⟩; exact h)

/-- halyard/pack.May -/
def pack_May (p_Name : ByteArray) (p_Version_Major : Int) (p_Version_Minor : Int) (p_Version_Patch : Int) (p_Deps : Sl) (p_Peers : Sl) (p_Optional : Sl) (w : World) (R : Bool → World → Prop) : Prop :=
  newS w [(Value.string p_Name), (Value.int .i64 p_Version_Major), (Value.int .i64 p_Version_Minor), (Value.int .i64 p_Version_Patch), (Sl.v p_Deps), (Sl.v p_Peers), (Sl.v p_Optional)] 48 fun a vw => ∃ (t4 : ByteArray), (ldc vw a [(Value.string t4)]) ∧ callS Tryz.prog 104 [(Value.string t4)] vw fun v vw1 => ∃ (t5 : Bool), v = (Value.bool t5) ∧ ∃ (t8_Major : Int) (t8_Minor : Int) (t8_Patch : Int), grd t5 (ldc vw1 (a.add 1) [(Value.int .i64 t8_Major), (Value.int .i64 t8_Minor), (Value.int .i64 t8_Patch)]) ∧ gCall t5 (fun (t9 : Bool) (vw3 : World) => bnd (t5 && t9) fun (b : Bool) => ∃ (t13 : Sl), grd b (ldc vw3 (a.add 4) [(Sl.v t13)]) ∧ gCall b (fun (t14 : Bool) (vw7 : World) => bnd (b && t14) fun (b12 : Bool) => ∃ (t18 : Sl), grd b12 (ldc vw7 (a.add 5) [(Sl.v t18)]) ∧ gCall b12 (fun (t19 : Bool) (vw14 : World) => bnd (b12 && t19) fun (b19 : Bool) => ∃ (t23 : Sl), grd b19 (ldc vw14 (a.add 6) [(Sl.v t23)]) ∧ gCall b19 (fun (t24 : Bool) (vw21 : World) => bnd (b19 && t24) fun (b26 : Bool) => ∃ (t28 : Sl), grd b26 (ldc vw21 (a.add 4) [(Sl.v t28)]) ∧ ∃ (t30 : Sl), grd b26 (ldc vw21 (a.add 5) [(Sl.v t30)]) ∧ ∃ (t32 : Sl), grd b26 (ldc vw21 (a.add 6) [(Sl.v t32)]) ∧ gCall b26 (fun (a30 : Addr) (vw31 : World) => gCall b26 (fun (t34 : Bool) (vw34 : World) => bnd (b26 && t34) fun (b39 : Bool) => ∃ (t37_Name : ByteArray) (t37_Version_Major : Int) (t37_Version_Minor : Int) (t37_Version_Patch : Int) (t37_Deps : Sl) (t37_Peers : Sl) (t37_Optional : Sl), grd b39 (ldc vw34 a [(Value.string t37_Name), (Value.int .i64 t37_Version_Major), (Value.int .i64 t37_Version_Minor), (Value.int .i64 t37_Version_Patch), (Sl.v t37_Deps), (Sl.v t37_Peers), (Sl.v t37_Optional)]) ∧ gCall b39 (fun (t38 : ByteArray) (vw41 : World) => R (b39 && (decide ((t38.size : Int) ≤ 4096))) vw41) (fun q => callS Tryz.prog 107 [(Value.agg #[(Value.string t37_Name), (Value.int .i64 t37_Version_Major), (Value.int .i64 t37_Version_Minor), (Value.int .i64 t37_Version_Patch), (Sl.v t37_Deps), (Sl.v t37_Peers), (Sl.v t37_Optional)])] vw34 fun v42 vw41 => ∃ (t38 : ByteArray), v42 = (Value.string t38) ∧ q t38 vw41) (fun q => q (ByteArray.mk #[]) vw34)) (fun q => callS Tryz.prog 106 [(Sl.v (Sl.mk (some a30) 3 3))] vw31 fun v35 vw34 => ∃ (t34 : Bool), v35 = (Value.bool t34) ∧ q t34 vw34) (fun q => q false vw31)) (fun q => newS vw21 [(Sl.v t28), (Sl.v t30), (Sl.v t32)] 23 q) (fun q => q ⟨0, 0, none⟩ vw21)) (fun q => callS Tryz.prog 105 [(Sl.v t23)] vw14 fun v22 vw21 => ∃ (t24 : Bool), v22 = (Value.bool t24) ∧ q t24 vw21) (fun q => q false vw14)) (fun q => callS Tryz.prog 105 [(Sl.v t18)] vw7 fun v15 vw14 => ∃ (t19 : Bool), v15 = (Value.bool t19) ∧ q t19 vw14) (fun q => q false vw7)) (fun q => callS Tryz.prog 105 [(Sl.v t13)] vw3 fun v8 vw7 => ∃ (t14 : Bool), v8 = (Value.bool t14) ∧ q t14 vw7) (fun q => q false vw3)) (fun q => callS Tryz.prog 97 [(Value.agg #[(Value.int .i64 t8_Major), (Value.int .i64 t8_Minor), (Value.int .i64 t8_Patch)])] vw1 fun v4 vw3 => ∃ (t9 : Bool), v4 = (Value.bool t9) ∧ q t9 vw3) (fun q => q false vw1)
set_option maxHeartbeats 8000000 in
theorem pack_May.sound (p_Name : ByteArray) (p_Version_Major : Int) (p_Version_Minor : Int) (p_Version_Patch : Int) (p_Deps : Sl) (p_Peers : Sl) (p_Optional : Sl) (w : World) (R : Bool → World → Prop) (h : pack_May p_Name p_Version_Major p_Version_Minor p_Version_Patch p_Deps p_Peers p_Optional w R) : callS Tryz.prog 61 [(Value.agg #[(Value.string p_Name), (Value.int .i64 p_Version_Major), (Value.int .i64 p_Version_Minor), (Value.int .i64 p_Version_Patch), (Sl.v p_Deps), (Sl.v p_Peers), (Sl.v p_Optional)])] w (fun v w' => ∃ (r0 : Bool), v = (Value.bool r0) ∧ R r0 w') := by
  unfold pack_May at h
  refine calls_of_vc 42 rfl Tryz.func61 rfl (by kernel_rfl) (by simp) ?_
  refine Vc.seq ?_
  refine Vc.region ?_
  refine vcL_eff rfl (opVC_new rfl (fun a => Value.pointer (some a)) (by kernel_rfl) (newS.mono h fun a vw hx h => ?_)) 
  refine vcL_pure rfl rfl (Value.bool false) (fun w => by kernel_rfl) ?_
  refine vcL_nil ?_
  refine Vc.seq ?_
  refine Vc.region ?_
  refine vcL_pure rfl rfl (Value.pointer (some a)) (fun w => by kernel_rfl) ?_
  obtain ⟨t4, hc, h⟩ := h
  refine vcL_val rfl rfl (Value.string t4) (exec_load rfl (by kernel_rfl) (run_load1 (fun w => by kernel_rfl) ((hc)))) ?_
  refine vcL_eff rfl (opVC_call rfl (by kernel_rfl) (callS.mono h fun v vw1 h => ?_)) 
  obtain ⟨t5, rfl, h⟩ := h
  refine vcL_pure rfl rfl (Value.bool t5) (fun w => by kernel_rfl) ?_
  refine vcL_guardP t5 (wanted_g (d := 6) rfl (by kernel_rfl) t5 (by kernel_rfl) t5 (eqT t5)) rfl (Value.pointer (some (a.add 1))) (fun hg w => by subst hg; kernel_rfl) ?_
  obtain ⟨t8_Major, t8_Minor, t8_Patch, hc2, h⟩ := h
  refine vcL_guard t5 (wanted_g (d := 6) rfl (by kernel_rfl) t5 (by kernel_rfl) t5 (eqT t5)) rfl (Value.agg #[(Value.int .i64 t8_Major), (Value.int .i64 t8_Minor), (Value.int .i64 t8_Patch)]) (fun hg => by subst hg; exact exec_load rfl (by kernel_rfl) (run_loadN (fun w => by kernel_rfl) (fun w => by kernel_rfl) ((hc2 rfl)))) ?_
  obtain ⟨vJ, hJ, h⟩ := gCall_elim h
  refine vcL_effJ (σ := Bool) t5 (wanted_g (d := 6) rfl (by kernel_rfl) t5 (by kernel_rfl) t5 (eqT t5)) rfl (fun s w => vJ s w) (fun s => (Value.bool s)) ?_ (fun hg => opVC_call rfl (by subst hg; kernel_rfl) (callS.mono (h.1 hg) fun v4 vw3 hq => ?_)) (fun hg => ⟨false, h.2 hg⟩)
  · intro t9 vw3 h
    subst hJ
    refine vcL_pure rfl rfl (Value.bool (t5 && t9)) (fun w => by cases t5 <;> kernel_rfl) ?_
    obtain ⟨b, hb⟩ : ∃ y, y = (t5 && t9) := ⟨_, rfl⟩
    have h := h b hb
    refine vcL_pure rfl rfl (Value.bool b) (fun w => by rw [hb]; kernel_rfl) ?_
    refine vcL_guardP b (wanted_g (d := 11) rfl (by kernel_rfl) b (by kernel_rfl) b (eqT b)) rfl (Value.pointer (some (a.add 4))) (fun hg w => by subst hg; kernel_rfl) ?_
    obtain ⟨t13, hc6, h⟩ := h
    refine vcL_guard b (wanted_g (d := 11) rfl (by kernel_rfl) b (by kernel_rfl) b (eqT b)) rfl (Sl.v t13) (fun hg => by subst hg; exact exec_load rfl (by kernel_rfl) (run_load1 (fun w => by kernel_rfl) ((hc6 rfl)))) ?_
    obtain ⟨vJ10, hJ11, h⟩ := gCall_elim h
    refine vcL_effJ (σ := Bool) b (wanted_g (d := 11) rfl (by kernel_rfl) b (by kernel_rfl) b (eqT b)) rfl (fun s w => vJ10 s w) (fun s => (Value.bool s)) ?_ (fun hg => opVC_call rfl (by subst hg; kernel_rfl) (callS.mono (h.1 hg) fun v8 vw7 hq => ?_)) (fun hg => ⟨false, h.2 hg⟩)
    · intro t14 vw7 h
      subst hJ11
      refine vcL_pure rfl rfl (Value.bool (b && t14)) (fun w => by cases b <;> kernel_rfl) ?_
      obtain ⟨b12, hb12⟩ : ∃ y, y = (b && t14) := ⟨_, rfl⟩
      have h := h b12 hb12
      refine vcL_pure rfl rfl (Value.bool b12) (fun w => by rw [hb12]; kernel_rfl) ?_
      refine vcL_guardP b12 (wanted_g (d := 16) rfl (by kernel_rfl) b12 (by kernel_rfl) b12 (eqT b12)) rfl (Value.pointer (some (a.add 5))) (fun hg w => by subst hg; kernel_rfl) ?_
      obtain ⟨t18, hc13, h⟩ := h
      refine vcL_guard b12 (wanted_g (d := 16) rfl (by kernel_rfl) b12 (by kernel_rfl) b12 (eqT b12)) rfl (Sl.v t18) (fun hg => by subst hg; exact exec_load rfl (by kernel_rfl) (run_load1 (fun w => by kernel_rfl) ((hc13 rfl)))) ?_
      obtain ⟨vJ17, hJ18, h⟩ := gCall_elim h
      refine vcL_effJ (σ := Bool) b12 (wanted_g (d := 16) rfl (by kernel_rfl) b12 (by kernel_rfl) b12 (eqT b12)) rfl (fun s w => vJ17 s w) (fun s => (Value.bool s)) ?_ (fun hg => opVC_call rfl (by subst hg; kernel_rfl) (callS.mono (h.1 hg) fun v15 vw14 hq => ?_)) (fun hg => ⟨false, h.2 hg⟩)
      · intro t19 vw14 h
        subst hJ18
        refine vcL_pure rfl rfl (Value.bool (b12 && t19)) (fun w => by cases b12 <;> kernel_rfl) ?_
        obtain ⟨b19, hb19⟩ : ∃ y, y = (b12 && t19) := ⟨_, rfl⟩
        have h := h b19 hb19
        refine vcL_pure rfl rfl (Value.bool b19) (fun w => by rw [hb19]; kernel_rfl) ?_
        refine vcL_guardP b19 (wanted_g (d := 21) rfl (by kernel_rfl) b19 (by kernel_rfl) b19 (eqT b19)) rfl (Value.pointer (some (a.add 6))) (fun hg w => by subst hg; kernel_rfl) ?_
        obtain ⟨t23, hc20, h⟩ := h
        refine vcL_guard b19 (wanted_g (d := 21) rfl (by kernel_rfl) b19 (by kernel_rfl) b19 (eqT b19)) rfl (Sl.v t23) (fun hg => by subst hg; exact exec_load rfl (by kernel_rfl) (run_load1 (fun w => by kernel_rfl) ((hc20 rfl)))) ?_
        obtain ⟨vJ24, hJ25, h⟩ := gCall_elim h
        refine vcL_effJ (σ := Bool) b19 (wanted_g (d := 21) rfl (by kernel_rfl) b19 (by kernel_rfl) b19 (eqT b19)) rfl (fun s w => vJ24 s w) (fun s => (Value.bool s)) ?_ (fun hg => opVC_call rfl (by subst hg; kernel_rfl) (callS.mono (h.1 hg) fun v22 vw21 hq => ?_)) (fun hg => ⟨false, h.2 hg⟩)
        · intro t24 vw21 h
          subst hJ25
          refine vcL_pure rfl rfl (Value.bool (b19 && t24)) (fun w => by cases b19 <;> kernel_rfl) ?_
          obtain ⟨b26, hb26⟩ : ∃ y, y = (b19 && t24) := ⟨_, rfl⟩
          have h := h b26 hb26
          refine vcL_pure rfl rfl (Value.bool b26) (fun w => by rw [hb26]; kernel_rfl) ?_
          refine vcL_guardP b26 (wanted_g (d := 26) rfl (by kernel_rfl) b26 (by kernel_rfl) b26 (eqT b26)) rfl (Value.pointer (some (a.add 4))) (fun hg w => by subst hg; kernel_rfl) ?_
          obtain ⟨t28, hc27, h⟩ := h
          refine vcL_guard b26 (wanted_g (d := 26) rfl (by kernel_rfl) b26 (by kernel_rfl) b26 (eqT b26)) rfl (Sl.v t28) (fun hg => by subst hg; exact exec_load rfl (by kernel_rfl) (run_load1 (fun w => by kernel_rfl) ((hc27 rfl)))) ?_
          refine vcL_guardP b26 (wanted_g (d := 26) rfl (by kernel_rfl) b26 (by kernel_rfl) b26 (eqT b26)) rfl (Value.pointer (some (a.add 5))) (fun hg w => by subst hg; kernel_rfl) ?_
          obtain ⟨t30, hc28, h⟩ := h
          refine vcL_guard b26 (wanted_g (d := 26) rfl (by kernel_rfl) b26 (by kernel_rfl) b26 (eqT b26)) rfl (Sl.v t30) (fun hg => by subst hg; exact exec_load rfl (by kernel_rfl) (run_load1 (fun w => by kernel_rfl) ((hc28 rfl)))) ?_
          refine vcL_guardP b26 (wanted_g (d := 26) rfl (by kernel_rfl) b26 (by kernel_rfl) b26 (eqT b26)) rfl (Value.pointer (some (a.add 6))) (fun hg w => by subst hg; kernel_rfl) ?_
          obtain ⟨t32, hc29, h⟩ := h
          refine vcL_guard b26 (wanted_g (d := 26) rfl (by kernel_rfl) b26 (by kernel_rfl) b26 (eqT b26)) rfl (Sl.v t32) (fun hg => by subst hg; exact exec_load rfl (by kernel_rfl) (run_load1 (fun w => by kernel_rfl) ((hc29 rfl)))) ?_
          obtain ⟨vJ32, hJ33, h⟩ := gCall_elim h
          refine vcL_effJ (σ := Addr) b26 (wanted_g (d := 26) rfl (by kernel_rfl) b26 (by kernel_rfl) b26 (eqT b26)) rfl (fun s w => vJ32 s w) (fun a => Value.slice (some a) 3 3) ?_ (fun hg => opVC_new rfl (fun a => Value.slice (some a) 3 3) (by subst hg; kernel_rfl) (newS.mono (h.1 hg) fun a w' hx hq => ?_)) (fun hg => ⟨⟨0, 0, none⟩, h.2 hg⟩)
          · intro a30 vw31 h
            subst hJ33
            obtain ⟨vJ37, hJ38, h⟩ := gCall_elim h
            refine vcL_effJ (σ := Bool) b26 (wanted_g (d := 26) rfl (by kernel_rfl) b26 (by kernel_rfl) b26 (eqT b26)) rfl (fun s w => vJ37 s w) (fun s => (Value.bool s)) ?_ (fun hg => opVC_call rfl (by subst hg; kernel_rfl) (callS.mono (h.1 hg) fun v35 vw34 hq => ?_)) (fun hg => ⟨false, h.2 hg⟩)
            · intro t34 vw34 h
              subst hJ38
              refine vcL_pure rfl rfl (Value.bool (b26 && t34)) (fun w => by cases b26 <;> kernel_rfl) ?_
              obtain ⟨b39, hb39⟩ : ∃ y, y = (b26 && t34) := ⟨_, rfl⟩
              have h := h b39 hb39
              refine vcL_pure rfl rfl (Value.bool b39) (fun w => by rw [hb39]; kernel_rfl) ?_
              obtain ⟨t37_Name, t37_Version_Major, t37_Version_Minor, t37_Version_Patch, t37_Deps, t37_Peers, t37_Optional, hc40, h⟩ := h
              refine vcL_guard b39 (wanted_g (d := 36) rfl (by kernel_rfl) b39 (by kernel_rfl) b39 (eqT b39)) rfl (Value.agg #[(Value.string t37_Name), (Value.int .i64 t37_Version_Major), (Value.int .i64 t37_Version_Minor), (Value.int .i64 t37_Version_Patch), (Sl.v t37_Deps), (Sl.v t37_Peers), (Sl.v t37_Optional)]) (fun hg => by subst hg; exact exec_load rfl (by kernel_rfl) (run_loadN (fun w => by kernel_rfl) (fun w => by kernel_rfl) ((hc40 rfl)))) ?_
              obtain ⟨vJ44, hJ45, h⟩ := gCall_elim h
              refine vcL_effJ (σ := ByteArray) b39 (wanted_g (d := 36) rfl (by kernel_rfl) b39 (by kernel_rfl) b39 (eqT b39)) rfl (fun s w => vJ44 s w) (fun s => (Value.string s)) ?_ (fun hg => opVC_call rfl (by subst hg; kernel_rfl) (callS.mono (h.1 hg) fun v42 vw41 hq => ?_)) (fun hg => ⟨(ByteArray.mk #[]), h.2 hg⟩)
              · intro t38 vw41 h
                subst hJ45
                refine vcL_guardP b39 (wanted_g (d := 36) rfl (by kernel_rfl) b39 (by kernel_rfl) b39 (eqT b39)) rfl (Value.int .i64 (t38.size : Int)) (fun hg w => by subst hg; kernel_rfl) ?_
                refine vcL_guardP b39 (wanted_g (d := 36) rfl (by kernel_rfl) b39 (by kernel_rfl) b39 (eqT b39)) rfl (Value.bool (decide ((t38.size : Int) ≤ 4096))) (fun hg w => by subst hg; kernel_rfl) ?_
                refine vcL_pure rfl rfl (Value.bool (b39 && (decide ((t38.size : Int) ≤ 4096)))) (fun w => by cases b39 <;> kernel_rfl) ?_
                refine vcL_pure rfl rfl (Value.bool (b39 && (decide ((t38.size : Int) ≤ 4096)))) (fun w => by kernel_rfl) ?_
                refine vcL_nil ?_
                refine Vc.ret ?_
                refine outs_ret ?_
                refine done_mk (Value.bool (b39 && (decide ((t38.size : Int) ≤ 4096)))) (res1 (resC_tmp (by kernel_rfl))) ?_
                exact ⟨(b39 && (decide ((t38.size : Int) ≤ 4096))), rfl, h⟩
              · obtain ⟨t38, rfl, hq⟩ := hq
                exact ⟨t38, rfl, hq⟩
            · obtain ⟨t34, rfl, hq⟩ := hq
              exact ⟨t34, rfl, hq⟩
          · exact ⟨a, rfl, hq⟩
        · obtain ⟨t24, rfl, hq⟩ := hq
          exact ⟨t24, rfl, hq⟩
      · obtain ⟨t19, rfl, hq⟩ := hq
        exact ⟨t19, rfl, hq⟩
    · obtain ⟨t14, rfl, hq⟩ := hq
      exact ⟨t14, rfl, hq⟩
  · obtain ⟨t9, rfl, hq⟩ := hq
    exact ⟨t9, rfl, hq⟩
theorem pack_May.go {p_Name : ByteArray} {p_Version_Major : Int} {p_Version_Minor : Int} {p_Version_Patch : Int} {p_Deps : Sl} {p_Peers : Sl} {p_Optional : Sl} {w : World} {k : Value → World → Prop} (h : pack_May p_Name p_Version_Major p_Version_Minor p_Version_Patch p_Deps p_Peers p_Optional w fun r0 w' => k (Value.bool r0) w') : callS Tryz.prog 61 [(Value.agg #[(Value.string p_Name), (Value.int .i64 p_Version_Major), (Value.int .i64 p_Version_Minor), (Value.int .i64 p_Version_Patch), (Sl.v p_Deps), (Sl.v p_Peers), (Sl.v p_Optional)])] w k := (pack_May.sound p_Name p_Version_Major p_Version_Minor p_Version_Patch p_Deps p_Peers p_Optional w _ h).mono (by rintro _ _ ⟨r0, rfl, h⟩; exact h)

/-- halyard/catalog.copied -/
def catalog_copied (p_Name : ByteArray) (p_Version_Major : Int) (p_Version_Minor : Int) (p_Version_Patch : Int) (p_Deps : Sl) (p_Peers : Sl) (p_Optional : Sl) (w : World) (R : ByteArray → Int → Int → Int → Sl → Sl → Sl → World → Prop) : Prop :=
  newS w [(Value.string p_Name), (Value.int .i64 p_Version_Major), (Value.int .i64 p_Version_Minor), (Value.int .i64 p_Version_Patch), (Sl.v p_Deps), (Sl.v p_Peers), (Sl.v p_Optional)] 48 fun a vw => newS vw [(Value.string (ByteArray.mk #[])), (Value.int .i64 0), (Value.int .i64 0), (Value.int .i64 0), (Sl.v Sl.nil), (Sl.v Sl.nil), (Sl.v Sl.nil)] 48 fun a1 vw2 => bnd vw2.drew fun (vw3 : World) => ∃ (t4 : Sl), (ldc vw3 (a.add 4) [(Sl.v t4)]) ∧ ∃ (t7 : Sl), (ldc vw3 (a.add 5) [(Sl.v t7)]) ∧ ∃ (t10 : Sl), (ldc vw3 (a.add 6) [(Sl.v t10)]) ∧ callX Tryz.prog 108 [(Sl.v t4)] vw3 fun v vw6 => ∃ (t5 : Sl), v = (Sl.v t5) ∧ callX Tryz.prog 108 [(Sl.v t7)] vw6 fun v8 vw7 => ∃ (t8 : Sl), v8 = (Sl.v t8) ∧ callS Tryz.prog 108 [(Sl.v t10)] vw7 fun v11 vw10 => ∃ (t11 : Sl), v11 = (Sl.v t11) ∧ stw vw10 (a.add 4) [(Sl.v t5)] fun vw13 => stw vw13 (a.add 5) [(Sl.v t8)] fun vw14 => stw vw14 (a.add 6) [(Sl.v t11)] fun vw15 => ∃ (t15_Name : ByteArray) (t15_Version_Major : Int) (t15_Version_Minor : Int) (t15_Version_Patch : Int) (t15_Deps : Sl) (t15_Peers : Sl) (t15_Optional : Sl), (ldc vw15 a [(Value.string t15_Name), (Value.int .i64 t15_Version_Major), (Value.int .i64 t15_Version_Minor), (Value.int .i64 t15_Version_Patch), (Sl.v t15_Deps), (Sl.v t15_Peers), (Sl.v t15_Optional)]) ∧ stw vw15 a1 [(Value.string t15_Name), (Value.int .i64 t15_Version_Major), (Value.int .i64 t15_Version_Minor), (Value.int .i64 t15_Version_Patch), (Sl.v t15_Deps), (Sl.v t15_Peers), (Sl.v t15_Optional)] fun vw17 => ∃ (r_Name : ByteArray) (r_Version_Major : Int) (r_Version_Minor : Int) (r_Version_Patch : Int) (r_Deps : Sl) (r_Peers : Sl) (r_Optional : Sl), ldc vw17 a1 [(Value.string r_Name), (Value.int .i64 r_Version_Major), (Value.int .i64 r_Version_Minor), (Value.int .i64 r_Version_Patch), (Sl.v r_Deps), (Sl.v r_Peers), (Sl.v r_Optional)] ∧ R r_Name r_Version_Major r_Version_Minor r_Version_Patch r_Deps r_Peers r_Optional vw17
set_option maxHeartbeats 8000000 in
theorem catalog_copied.sound (p_Name : ByteArray) (p_Version_Major : Int) (p_Version_Minor : Int) (p_Version_Patch : Int) (p_Deps : Sl) (p_Peers : Sl) (p_Optional : Sl) (w : World) (R : ByteArray → Int → Int → Int → Sl → Sl → Sl → World → Prop) (h : catalog_copied p_Name p_Version_Major p_Version_Minor p_Version_Patch p_Deps p_Peers p_Optional w R) : callS Tryz.prog 62 [(Value.agg #[(Value.string p_Name), (Value.int .i64 p_Version_Major), (Value.int .i64 p_Version_Minor), (Value.int .i64 p_Version_Patch), (Sl.v p_Deps), (Sl.v p_Peers), (Sl.v p_Optional)])] w (fun v w' => ∃ (r0 : ByteArray) (r1 : Int) (r2 : Int) (r3 : Int) (r4 : Sl) (r5 : Sl) (r6 : Sl), v = (Value.agg #[(Value.string r0), (Value.int .i64 r1), (Value.int .i64 r2), (Value.int .i64 r3), (Sl.v r4), (Sl.v r5), (Sl.v r6)]) ∧ R r0 r1 r2 r3 r4 r5 r6 w') := by
  unfold catalog_copied at h
  refine calls_of_vc 16 rfl Tryz.func62 rfl (by kernel_rfl) (by simp) ?_
  refine Vc.seq ?_
  refine Vc.region ?_
  refine vcL_eff rfl (opVC_new rfl (fun a => Value.pointer (some a)) (by kernel_rfl) (newS.mono h fun a vw hx h => ?_)) 
  refine vcL_eff rfl (opVC_new rfl (fun a => Value.pointer (some a)) (by kernel_rfl) (newS.mono h fun a1 vw2 hx h => ?_)) 
  refine vcL_nil ?_
  refine Vc.seq ?_
  obtain ⟨vw3, hvw3⟩ : ∃ y, y = vw2.drew := ⟨_, rfl⟩
  have h := h vw3 hvw3
  refine Vc.draw (by kernel_rfl) (fun i => !(memN [8, 10, 12, 14] i)) (.pur 0 (.val 1 (.pur 3 (.val 4 (.pur 6 (.val 7 (.eff 2 (.pur 9 (.eff 5 (.eff 8 (.eff 10 (.pur 11 (.eff 12 (.pur 13 (.eff 14 .fin .stop)) .stop)) .stop) .stop) .stop)) .stop))))))) (by kernel_rfl) ?_
  rw [← hvw3]
  clear hvw3
  refine vcS_pure rfl rfl rfl (Value.pointer (some (a.add 4))) (fun w => by kernel_rfl) ?_
  obtain ⟨t4, hc, h⟩ := h
  refine vcS_val rfl rfl rfl (Sl.v t4) (fun w' hx => exec_load rfl (by kernel_rfl) (run_load1 (fun w => by kernel_rfl) ((hc).ext hx))) ?_
  refine vcS_pure rfl rfl rfl (Value.pointer (some (a.add 5))) (fun w => by kernel_rfl) ?_
  obtain ⟨t7, hc4, h⟩ := h
  refine vcS_val rfl rfl rfl (Sl.v t7) (fun w' hx => exec_load rfl (by kernel_rfl) (run_load1 (fun w => by kernel_rfl) ((hc4).ext hx))) ?_
  refine vcS_pure rfl rfl rfl (Value.pointer (some (a.add 6))) (fun w => by kernel_rfl) ?_
  obtain ⟨t10, hc5, h⟩ := h
  refine vcS_val rfl rfl rfl (Sl.v t10) (fun w' hx => exec_load rfl (by kernel_rfl) (run_load1 (fun w => by kernel_rfl) ((hc5).ext hx))) ?_
  refine vcS_eff rfl rfl (opVC_call rfl (by kernel_rfl) (callS.mono h fun v vw6 h => ?_)) vcS_stop
  obtain ⟨hx, h⟩ := h
  obtain ⟨t5, rfl, h⟩ := h
  refine ⟨fun _ => hx, ?_⟩
  refine vcS_pure rfl rfl rfl (Value.pointer (some (a.add 4))) (fun w => by kernel_rfl) ?_
  refine vcS_eff rfl rfl (opVC_call rfl (by kernel_rfl) (callS.mono h fun v8 vw7 h => ?_)) vcS_stop
  obtain ⟨hx9, h⟩ := h
  obtain ⟨t8, rfl, h⟩ := h
  refine ⟨fun _ => hx9, ?_⟩
  refine vcS_eff rfl rfl (opVC_call rfl (by kernel_rfl) (callS.mono h fun v11 vw10 h => ?_)) vcS_stop
  obtain ⟨t11, rfl, h⟩ := h
  refine ⟨fun hb => absurd hb (by decide), ?_⟩
  refine vcS_eff rfl rfl (opVC_store rfl rfl (a := (a.add 4)) (by kernel_rfl) (v := (Sl.v t5)) (by kernel_rfl) [(Sl.v t5)] (by kernel_rfl) (fun w => by kernel_rfl) (by kernel_rfl) (stw.mono h fun vw13 h => ?_)) vcS_stop
  refine ⟨fun hb => absurd hb (by decide), ?_⟩
  refine vcS_pure rfl rfl rfl (Value.pointer (some (a.add 5))) (fun w => by kernel_rfl) ?_
  refine vcS_eff rfl rfl (opVC_store rfl rfl (a := (a.add 5)) (by kernel_rfl) (v := (Sl.v t8)) (by kernel_rfl) [(Sl.v t8)] (by kernel_rfl) (fun w => by kernel_rfl) (by kernel_rfl) (stw.mono h fun vw14 h => ?_)) vcS_stop
  refine ⟨fun hb => absurd hb (by decide), ?_⟩
  refine vcS_pure rfl rfl rfl (Value.pointer (some (a.add 6))) (fun w => by kernel_rfl) ?_
  refine vcS_eff rfl rfl (opVC_store rfl rfl (a := (a.add 6)) (by kernel_rfl) (v := (Sl.v t11)) (by kernel_rfl) [(Sl.v t11)] (by kernel_rfl) (fun w => by kernel_rfl) (by kernel_rfl) (stw.mono h fun vw15 h => ?_)) vcS_stop
  refine ⟨fun hb => absurd hb (by decide), ?_⟩
  refine vcS_fin ?_
  refine Vc.seq ?_
  refine Vc.region ?_
  obtain ⟨t15_Name, t15_Version_Major, t15_Version_Minor, t15_Version_Patch, t15_Deps, t15_Peers, t15_Optional, hc16, h⟩ := h
  refine vcL_val rfl rfl (Value.agg #[(Value.string t15_Name), (Value.int .i64 t15_Version_Major), (Value.int .i64 t15_Version_Minor), (Value.int .i64 t15_Version_Patch), (Sl.v t15_Deps), (Sl.v t15_Peers), (Sl.v t15_Optional)]) (exec_load rfl (by kernel_rfl) (run_loadN (fun w => by kernel_rfl) (fun w => by kernel_rfl) ((hc16)))) ?_
  refine vcL_eff rfl (opVC_store rfl rfl (a := a1) (by kernel_rfl) (v := (Value.agg #[(Value.string t15_Name), (Value.int .i64 t15_Version_Major), (Value.int .i64 t15_Version_Minor), (Value.int .i64 t15_Version_Patch), (Sl.v t15_Deps), (Sl.v t15_Peers), (Sl.v t15_Optional)])) (by kernel_rfl) [(Value.string t15_Name), (Value.int .i64 t15_Version_Major), (Value.int .i64 t15_Version_Minor), (Value.int .i64 t15_Version_Patch), (Sl.v t15_Deps), (Sl.v t15_Peers), (Sl.v t15_Optional)] (by kernel_rfl) (fun w => by kernel_rfl) (by kernel_rfl) (stw.mono h fun vw17 h => ?_)) 
  refine vcL_nil ?_
  refine Vc.ret ?_
  refine outs_ret ?_
  obtain ⟨r_Name, r_Version_Major, r_Version_Minor, r_Version_Patch, r_Deps, r_Peers, r_Optional, hc18, h⟩ := h
  refine done_mk (Value.agg #[(Value.string r_Name), (Value.int .i64 r_Version_Major), (Value.int .i64 r_Version_Minor), (Value.int .i64 r_Version_Patch), (Sl.v r_Deps), (Sl.v r_Peers), (Sl.v r_Optional)]) (res1 (resC_cell (by kernel_rfl) (run_loadN (fun w => by kernel_rfl) (fun w => by kernel_rfl) hc18))) ?_
  exact ⟨r_Name, r_Version_Major, r_Version_Minor, r_Version_Patch, r_Deps, r_Peers, r_Optional, rfl, h⟩
theorem catalog_copied.go {p_Name : ByteArray} {p_Version_Major : Int} {p_Version_Minor : Int} {p_Version_Patch : Int} {p_Deps : Sl} {p_Peers : Sl} {p_Optional : Sl} {w : World} {k : Value → World → Prop} (h : catalog_copied p_Name p_Version_Major p_Version_Minor p_Version_Patch p_Deps p_Peers p_Optional w fun r0 r1 r2 r3 r4 r5 r6 w' => k (Value.agg #[(Value.string r0), (Value.int .i64 r1), (Value.int .i64 r2), (Value.int .i64 r3), (Sl.v r4), (Sl.v r5), (Sl.v r6)]) w') : callS Tryz.prog 62 [(Value.agg #[(Value.string p_Name), (Value.int .i64 p_Version_Major), (Value.int .i64 p_Version_Minor), (Value.int .i64 p_Version_Patch), (Sl.v p_Deps), (Sl.v p_Peers), (Sl.v p_Optional)])] w k := (catalog_copied.sound p_Name p_Version_Major p_Version_Minor p_Version_Patch p_Deps p_Peers p_Optional w _ h).mono (by rintro _ _ ⟨r0, r1, r2, r3, r4, r5, r6, rfl, h⟩; exact h)

/-- halyard/halyardref08.ahead -/
def halyardref08_ahead (a_Name : ByteArray) (a_Version_Major : Int) (a_Version_Minor : Int) (a_Version_Patch : Int) (a_Deps : Sl) (a_Peers : Sl) (a_Optional : Sl) (b_Name : ByteArray) (b_Version_Major : Int) (b_Version_Minor : Int) (b_Version_Patch : Int) (b_Deps : Sl) (b_Peers : Sl) (b_Optional : Sl) (w : World) (R : Bool → World → Prop) : Prop :=
  newS w [(Value.string a_Name), (Value.int .i64 a_Version_Major), (Value.int .i64 a_Version_Minor), (Value.int .i64 a_Version_Patch), (Sl.v a_Deps), (Sl.v a_Peers), (Sl.v a_Optional)] 48 fun a vw => newS vw [(Value.string b_Name), (Value.int .i64 b_Version_Major), (Value.int .i64 b_Version_Minor), (Value.int .i64 b_Version_Patch), (Sl.v b_Deps), (Sl.v b_Peers), (Sl.v b_Optional)] 48 fun a1 vw2 => ∃ (t6 : ByteArray), (ldc vw2 a [(Value.string t6)]) ∧ ∃ (t8 : ByteArray), (ldc vw2 a1 [(Value.string t8)]) ∧ ((¬ t6 = t8 → ∃ (t11 : ByteArray), (ldc vw2 a [(Value.string t11)]) ∧ ∃ (t13 : ByteArray), (ldc vw2 a1 [(Value.string t13)]) ∧ callS Tryz.prog 15 [(Value.string t11), (Value.string t13)] vw2 fun v vw6 => ∃ (t14 : Bool), v = (Value.bool t14) ∧ R t14 vw6) ∧ (¬ (¬ t6 = t8) → ∃ (t16_Major : Int) (t16_Minor : Int) (t16_Patch : Int), (ldc vw2 (a.add 1) [(Value.int .i64 t16_Major), (Value.int .i64 t16_Minor), (Value.int .i64 t16_Patch)]) ∧ ∃ (t18_Major : Int) (t18_Minor : Int) (t18_Patch : Int), (ldc vw2 (a1.add 1) [(Value.int .i64 t18_Major), (Value.int .i64 t18_Minor), (Value.int .i64 t18_Patch)]) ∧ callS Tryz.prog 33 [(Value.agg #[(Value.int .i64 t16_Major), (Value.int .i64 t16_Minor), (Value.int .i64 t16_Patch)]), (Value.agg #[(Value.int .i64 t18_Major), (Value.int .i64 t18_Minor), (Value.int .i64 t18_Patch)])] vw2 fun v10 vw9 => ∃ (t19 : Int), v10 = (Value.int .i64 t19) ∧ R (decide (0 < t19)) vw9))
set_option maxHeartbeats 8000000 in
theorem halyardref08_ahead.sound (a_Name : ByteArray) (a_Version_Major : Int) (a_Version_Minor : Int) (a_Version_Patch : Int) (a_Deps : Sl) (a_Peers : Sl) (a_Optional : Sl) (b_Name : ByteArray) (b_Version_Major : Int) (b_Version_Minor : Int) (b_Version_Patch : Int) (b_Deps : Sl) (b_Peers : Sl) (b_Optional : Sl) (w : World) (R : Bool → World → Prop) (h : halyardref08_ahead a_Name a_Version_Major a_Version_Minor a_Version_Patch a_Deps a_Peers a_Optional b_Name b_Version_Major b_Version_Minor b_Version_Patch b_Deps b_Peers b_Optional w R) : callS Tryz.prog 63 [(Value.agg #[(Value.string a_Name), (Value.int .i64 a_Version_Major), (Value.int .i64 a_Version_Minor), (Value.int .i64 a_Version_Patch), (Sl.v a_Deps), (Sl.v a_Peers), (Sl.v a_Optional)]), (Value.agg #[(Value.string b_Name), (Value.int .i64 b_Version_Major), (Value.int .i64 b_Version_Minor), (Value.int .i64 b_Version_Patch), (Sl.v b_Deps), (Sl.v b_Peers), (Sl.v b_Optional)])] w (fun v w' => ∃ (r0 : Bool), v = (Value.bool r0) ∧ R r0 w') := by
  unfold halyardref08_ahead at h
  refine calls_of_vc 21 rfl Tryz.func63 rfl (by kernel_rfl) (by simp) ?_
  refine Vc.seq ?_
  refine Vc.region ?_
  refine vcL_eff rfl (opVC_new rfl (fun a => Value.pointer (some a)) (by kernel_rfl) (newS.mono h fun a vw hx h => ?_)) 
  refine vcL_eff rfl (opVC_new rfl (fun a => Value.pointer (some a)) (by kernel_rfl) (newS.mono h fun a1 vw2 hx h => ?_)) 
  refine vcL_pure rfl rfl (Value.bool false) (fun w => by kernel_rfl) ?_
  refine vcL_nil ?_
  refine Vc.seq ?_
  refine Vc.seq ?_
  refine Vc.region ?_
  refine vcL_pure rfl rfl (Value.pointer (some a)) (fun w => by kernel_rfl) ?_
  obtain ⟨t6, hc, h⟩ := h
  refine vcL_val rfl rfl (Value.string t6) (exec_load rfl (by kernel_rfl) (run_load1 (fun w => by kernel_rfl) ((hc)))) ?_
  refine vcL_pure rfl rfl (Value.pointer (some a1)) (fun w => by kernel_rfl) ?_
  obtain ⟨t8, hc3, h⟩ := h
  refine vcL_val rfl rfl (Value.string t8) (exec_load rfl (by kernel_rfl) (run_load1 (fun w => by kernel_rfl) ((hc3)))) ?_
  refine vcL_pure rfl rfl (Value.bool (!bEq t6 t8)) (fun w => by kernel_rfl) ?_
  refine vcL_nil ?_
  refine Vc.cond (!bEq t6 t8) (by kernel_rfl) (fun hb => ?_) (fun hb => ?_)
  · have h := h.1 (bEq_false.1 (by simpa using hb))
    refine Vc.seq ?_
    refine Vc.region ?_
    refine vcL_pure rfl rfl (Value.pointer (some a)) (fun w => by kernel_rfl) ?_
    obtain ⟨t11, hc4, h⟩ := h
    refine vcL_val rfl rfl (Value.string t11) (exec_load rfl (by kernel_rfl) (run_load1 (fun w => by kernel_rfl) ((hc4)))) ?_
    refine vcL_pure rfl rfl (Value.pointer (some a1)) (fun w => by kernel_rfl) ?_
    obtain ⟨t13, hc5, h⟩ := h
    refine vcL_val rfl rfl (Value.string t13) (exec_load rfl (by kernel_rfl) (run_load1 (fun w => by kernel_rfl) ((hc5)))) ?_
    refine vcL_eff rfl (opVC_call rfl (by kernel_rfl) (callS.mono h fun v vw6 h => ?_)) 
    obtain ⟨t14, rfl, h⟩ := h
    refine vcL_pure rfl rfl (Value.bool t14) (fun w => by kernel_rfl) ?_
    refine vcL_nil ?_
    refine Vc.ret ?_
    refine outs_ret ?_
    refine done_mk (Value.bool t14) (res1 (resC_tmp (by kernel_rfl))) ?_
    exact ⟨t14, rfl, h⟩
  · have h := h.2 (not_not_intro (bEq_iff.1 (by simpa using hb)))
    refine Vc.skip ?_
    refine Vc.seq ?_
    refine Vc.region ?_
    refine vcL_pure rfl rfl (Value.pointer (some (a.add 1))) (fun w => by kernel_rfl) ?_
    obtain ⟨t16_Major, t16_Minor, t16_Patch, hc7, h⟩ := h
    refine vcL_val rfl rfl (Value.agg #[(Value.int .i64 t16_Major), (Value.int .i64 t16_Minor), (Value.int .i64 t16_Patch)]) (exec_load rfl (by kernel_rfl) (run_loadN (fun w => by kernel_rfl) (fun w => by kernel_rfl) ((hc7)))) ?_
    refine vcL_pure rfl rfl (Value.pointer (some (a1.add 1))) (fun w => by kernel_rfl) ?_
    obtain ⟨t18_Major, t18_Minor, t18_Patch, hc8, h⟩ := h
    refine vcL_val rfl rfl (Value.agg #[(Value.int .i64 t18_Major), (Value.int .i64 t18_Minor), (Value.int .i64 t18_Patch)]) (exec_load rfl (by kernel_rfl) (run_loadN (fun w => by kernel_rfl) (fun w => by kernel_rfl) ((hc8)))) ?_
    refine vcL_eff rfl (opVC_call rfl (by kernel_rfl) (callS.mono h fun v10 vw9 h => ?_)) 
    obtain ⟨t19, rfl, h⟩ := h
    refine vcL_purs 2 [(4, (Value.bool (decide (0 < t19)))), (20, (Value.bool (decide (0 < t19))))] (by kernel_rfl) ?_
    refine vcL_nil ?_
    refine Vc.ret ?_
    refine outs_ret ?_
    refine done_mk (Value.bool (decide (0 < t19))) (res1 (resC_tmp (by kernel_rfl))) ?_
    exact ⟨(decide (0 < t19)), rfl, h⟩
theorem halyardref08_ahead.go {a_Name : ByteArray} {a_Version_Major : Int} {a_Version_Minor : Int} {a_Version_Patch : Int} {a_Deps : Sl} {a_Peers : Sl} {a_Optional : Sl} {b_Name : ByteArray} {b_Version_Major : Int} {b_Version_Minor : Int} {b_Version_Patch : Int} {b_Deps : Sl} {b_Peers : Sl} {b_Optional : Sl} {w : World} {k : Value → World → Prop} (h : halyardref08_ahead a_Name a_Version_Major a_Version_Minor a_Version_Patch a_Deps a_Peers a_Optional b_Name b_Version_Major b_Version_Minor b_Version_Patch b_Deps b_Peers b_Optional w fun r0 w' => k (Value.bool r0) w') : callS Tryz.prog 63 [(Value.agg #[(Value.string a_Name), (Value.int .i64 a_Version_Major), (Value.int .i64 a_Version_Minor), (Value.int .i64 a_Version_Patch), (Sl.v a_Deps), (Sl.v a_Peers), (Sl.v a_Optional)]), (Value.agg #[(Value.string b_Name), (Value.int .i64 b_Version_Major), (Value.int .i64 b_Version_Minor), (Value.int .i64 b_Version_Patch), (Sl.v b_Deps), (Sl.v b_Peers), (Sl.v b_Optional)])] w k := (halyardref08_ahead.sound a_Name a_Version_Major a_Version_Minor a_Version_Patch a_Deps a_Peers a_Optional b_Name b_Version_Major b_Version_Minor b_Version_Patch b_Deps b_Peers b_Optional w _ h).mono (by rintro _ _ ⟨r0, rfl, h⟩; exact h)

/-- cmp.Or[int] -/
def cmp_Or_int (vals : Sl) (w : World) (R : Int → World → Prop) : Prop :=
  loop1 0 w fun t8 vw nxt => ((t8 < (vals.len : Int) → ∃ (ad : Addr), (vals.a = some ad ∧ (0 : Int) ≤ t8 ∧ t8 < (vals.len : Int)) ∧ ∃ (t11 : Int), (ldc vw (ad.add (t8.toNat * 1)) [(Value.int .i64 t11)]) ∧ ((¬ t11 = 0 → R t11 vw) ∧ (¬ (¬ t11 = 0) → nxt (wrapI (t8 + 1)) vw))) ∧ (¬ (t8 < (vals.len : Int)) → R 0 vw))
set_option maxHeartbeats 8000000 in
theorem cmp_Or_int.sound (vals : Sl) (w : World) (R : Int → World → Prop) (h : cmp_Or_int vals w R) : callS Tryz.prog 76 [(Sl.v vals)] w (fun v w' => ∃ (r0 : Int), v = (Value.int .i64 r0) ∧ R r0 w') := by
  unfold cmp_Or_int at h
  refine calls_of_vc 18 rfl Tryz.func76 rfl (by kernel_rfl) (by simp) ?_
  refine Vc.seq ?_
  refine Vc.region ?_
  refine vcL_pure rfl rfl (Value.int .i64 0) (fun w => by kernel_rfl) ?_
  refine vcL_nil ?_
  refine Vc.seq ?_
  refine Vc.region ?_
  refine vcL_pure rfl rfl (Value.int .i64 0) (fun w => by kernel_rfl) ?_
  refine vcL_nil ?_
  refine Vc.seq ?_
  refine Vc.seq ?_
  refine Vc.region ?_
  refine vcL_purs 3 [(8, (Value.int .i64 0)), (7, (Value.int .i64 (vals.len : Int))), (6, (Sl.v vals))] (by kernel_rfl) ?_
  refine vcL_nil ?_
  refine Vc.block ?_
  obtain ⟨vI, mu, h, hr⟩ := h
  refine Vc.loopJ (σ := Int) [8] [2, 5, 9, 10, 11, 12, 13, 14, 15, 16] (fun s => [(8, (Value.int .i64 s))]) (fun s w => vI s w) (fun s w => mu s w) 0 h (fun _ => rfl) (by kernel_rfl) ?_
  intro t8 vw j h
  have h := hr t8 vw h
  refine Vc.seq ?_
  refine Vc.region ?_
  refine vcL_pure rfl rfl (Value.bool (decide (t8 < (vals.len : Int)))) (fun w => by kernel_rfl) ?_
  refine vcL_nil ?_
  refine Vc.seq ?_
  refine Vc.cond (decide (t8 < (vals.len : Int))) (by kernel_rfl) (fun hb => ?_) (fun hb => ?_)
  · have h := h.1 (of_decide_eq_true hb)
    refine Vc.skip ?_
    refine Vc.seq ?_
    refine Vc.block ?_
    refine Vc.seq ?_
    refine Vc.region ?_
    obtain ⟨ad, hi, h⟩ := h
    refine vcL_pure rfl rfl (Value.pointer (some (ad.add (t8.toNat * 1)))) (fun w => by exact exec_indexAt (s := vals) (el := 3) rfl (by kernel_rfl) (by kernel_rfl) (by kernel_rfl) (fun w => by kernel_rfl) (hi).1 (hi).2.1 (hi).2.2 w) ?_
    obtain ⟨t11, hc, h⟩ := h
    refine vcL_val rfl rfl (Value.int .i64 t11) (exec_load rfl (by kernel_rfl) (run_load1 (fun w => by kernel_rfl) ((hc)))) ?_
    refine vcL_pure rfl rfl (Value.int .i64 t11) (fun w => by kernel_rfl) ?_
    refine vcL_nil ?_
    refine Vc.seq ?_
    refine Vc.region ?_
    refine vcL_purs 3 [(14, (Value.bool (!(t11 == 0)))), (13, (Value.int .i64 0)), (12, (Value.int .i64 t11))] (by kernel_rfl) ?_
    refine vcL_nil ?_
    refine Vc.cond (!(t11 == 0)) (by kernel_rfl) (fun hb => ?_) (fun hb => ?_)
    · have h := h.1 (ne_of_nbeq hb)
      refine Vc.seq ?_
      refine Vc.region ?_
      refine vcL_purs 2 [(2, (Value.int .i64 t11)), (15, (Value.int .i64 t11))] (by kernel_rfl) ?_
      refine vcL_nil ?_
      refine Vc.ret ?_
      refine outOf_ret ?_
      refine outOf_ret ?_
      refine outs_ret ?_
      refine done_mk (Value.int .i64 t11) (res1 (resC_tmp (by kernel_rfl))) ?_
      exact ⟨t11, rfl, h⟩
    · have h := h.2 (nne_of_nbeq hb)
      refine Vc.skip ?_
      refine Vc.region ?_
      refine vcL_purs 2 [(8, (Value.int .i64 (wrapI (t8 + 1)))), (16, (Value.int .i64 (wrapI (t8 + 1))))] (by kernel_rfl) ?_
      refine vcL_nil ?_
      exact ⟨(wrapI (t8 + 1)), 20, ⟨rfl, by kernel_rfl, by kernel_rfl, by kernel_rfl⟩, h⟩
  · have h := h.2 (of_decide_eq_false hb)
    refine Vc.exit ?_
    refine outOf_hit ?_
    refine Vc.seq ?_
    refine Vc.region ?_
    refine vcL_purs 2 [(2, (Value.int .i64 0)), (17, (Value.int .i64 0))] (by kernel_rfl) ?_
    refine vcL_nil ?_
    refine Vc.ret ?_
    refine outs_ret ?_
    refine done_mk (Value.int .i64 0) (res1 (resC_tmp (by kernel_rfl))) ?_
    exact ⟨0, rfl, h⟩
theorem cmp_Or_int.go {vals : Sl} {w : World} {k : Value → World → Prop} (h : cmp_Or_int vals w fun r0 w' => k (Value.int .i64 r0) w') : callS Tryz.prog 76 [(Sl.v vals)] w k := (cmp_Or_int.sound vals w _ h).mono (by rintro _ _ ⟨r0, rfl, h⟩; exact h)

/-- halyard/halyardref03.May -/
def halyardref03_May (l : Sl) (w : World) (R : Bool → World → Prop) : Prop :=
  ((64 < (l.len : Int) → R false w) ∧ (¬ (64 < (l.len : Int)) → loop1 0 w fun i vw nxt => ((i < (l.len : Int) → bnd vw.drew fun (vw1 : World) => ∃ (ad : Addr), (l.a = some ad ∧ (0 : Int) ≤ i ∧ i < (l.len : Int)) ∧ ∃ (t17_Major : Int) (t17_Minor : Int) (t17_Patch : Int), (ldc vw1 (ad.add (i.toNat * 6)) [(Value.int .i64 t17_Major), (Value.int .i64 t17_Minor), (Value.int .i64 t17_Patch)]) ∧ callS Tryz.prog 80 [(Value.agg #[(Value.int .i64 t17_Major), (Value.int .i64 t17_Minor), (Value.int .i64 t17_Patch)])] vw1 fun v vw2 => ∃ (t18 : Bool), v = (Value.bool t18) ∧ bnd (!t18) fun (b : Bool) => ∃ (ad3 : Addr), grd (!b) (l.a = some ad3 ∧ (0 : Int) ≤ i ∧ i < (l.len : Int)) ∧ ∃ (t25_Major : Int) (t25_Minor : Int) (t25_Patch : Int), grd (!b) (ldc vw2 ((ad3.add (i.toNat * 6)).add 3) [(Value.int .i64 t25_Major), (Value.int .i64 t25_Minor), (Value.int .i64 t25_Patch)]) ∧ gCall (!b) (fun (t26 : Bool) (vw6 : World) => bnd (b || (!t26)) fun (b9 : Bool) => ∃ (ad10 : Addr), grd (!b9) (l.a = some ad10 ∧ (0 : Int) ≤ i ∧ i < (l.len : Int)) ∧ ∃ (t34_Major : Int) (t34_Minor : Int) (t34_Patch : Int), grd (!b9) (ldc vw6 (ad10.add (i.toNat * 6)) [(Value.int .i64 t34_Major), (Value.int .i64 t34_Minor), (Value.int .i64 t34_Patch)]) ∧ ∃ (ad13 : Addr), grd (!b9) (l.a = some ad13 ∧ (0 : Int) ≤ i ∧ i < (l.len : Int)) ∧ ∃ (t40_Major : Int) (t40_Minor : Int) (t40_Patch : Int), grd (!b9) (ldc vw6 ((ad13.add (i.toNat * 6)).add 3) [(Value.int .i64 t40_Major), (Value.int .i64 t40_Minor), (Value.int .i64 t40_Patch)]) ∧ gCall (!b9) (fun (t35 : Int) (vw16 : World) => gCall (!b9) (fun (t41 : Int) (vw21 : World) => (((b9 || (decide (t41 < t35))) = true → R false vw21) ∧ ((b9 || (decide (t41 < t35))) = false → bnd vw21.drew fun (vw26 : World) => bnd (decide (0 < i)) fun (b27 : Bool) => ∃ (ad28 : Addr), grd b27 (l.a = some ad28 ∧ (0 : Int) ≤ i ∧ i < (l.len : Int)) ∧ ∃ (t51_Major : Int) (t51_Minor : Int) (t51_Patch : Int), grd b27 (ldc vw26 (ad28.add (i.toNat * 6)) [(Value.int .i64 t51_Major), (Value.int .i64 t51_Minor), (Value.int .i64 t51_Patch)]) ∧ ∃ (ad31 : Addr), grd b27 (l.a = some ad31 ∧ (0 : Int) ≤ (wrapI (i - 1)) ∧ (wrapI (i - 1)) < (l.len : Int)) ∧ ∃ (t58_Major : Int) (t58_Minor : Int) (t58_Patch : Int), grd b27 (ldc vw26 ((ad31.add ((wrapI (i - 1)).toNat * 6)).add 3) [(Value.int .i64 t58_Major), (Value.int .i64 t58_Minor), (Value.int .i64 t58_Patch)]) ∧ gCall b27 (fun (t52 : Int) (vw34 : World) => gCall b27 (fun (t59 : Int) (vw39 : World) => (((b27 && (decide (t52 ≤ (wrapI (t59 + 1))))) = true → R false vw39) ∧ ((b27 && (decide (t52 ≤ (wrapI (t59 + 1))))) = false → nxt (wrapI (i + 1)) vw39))) (fun q => callS Tryz.prog 82 [(Value.agg #[(Value.int .i64 t58_Major), (Value.int .i64 t58_Minor), (Value.int .i64 t58_Patch)])] vw34 fun v40 vw39 => ∃ (t59 : Int), v40 = (Value.int .i64 t59) ∧ q t59 vw39) (fun q => q 0 vw34)) (fun q => callX Tryz.prog 82 [(Value.agg #[(Value.int .i64 t51_Major), (Value.int .i64 t51_Minor), (Value.int .i64 t51_Patch)])] vw26 fun v35 vw34 => ∃ (t52 : Int), v35 = (Value.int .i64 t52) ∧ q t52 vw34) (fun q => q 0 vw26)))) (fun q => callS Tryz.prog 82 [(Value.agg #[(Value.int .i64 t40_Major), (Value.int .i64 t40_Minor), (Value.int .i64 t40_Patch)])] vw16 fun v22 vw21 => ∃ (t41 : Int), v22 = (Value.int .i64 t41) ∧ q t41 vw21) (fun q => q 0 vw16)) (fun q => callX Tryz.prog 82 [(Value.agg #[(Value.int .i64 t34_Major), (Value.int .i64 t34_Minor), (Value.int .i64 t34_Patch)])] vw6 fun v17 vw16 => ∃ (t35 : Int), v17 = (Value.int .i64 t35) ∧ q t35 vw16) (fun q => q 0 vw6)) (fun q => callS Tryz.prog 80 [(Value.agg #[(Value.int .i64 t25_Major), (Value.int .i64 t25_Minor), (Value.int .i64 t25_Patch)])] vw2 fun v7 vw6 => ∃ (t26 : Bool), v7 = (Value.bool t26) ∧ q t26 vw6) (fun q => q false vw2)) ∧ (¬ (i < (l.len : Int)) → R true vw))))
set_option maxHeartbeats 8000000 in
theorem halyardref03_May.sound (l : Sl) (w : World) (R : Bool → World → Prop) (h : halyardref03_May l w R) : callS Tryz.prog 79 [(Sl.v l)] w (fun v w' => ∃ (r0 : Bool), v = (Value.bool r0) ∧ R r0 w') := by
  unfold halyardref03_May at h
  refine calls_of_vc 63 rfl Tryz.func79 rfl (by kernel_rfl) (by simp) ?_
  refine Vc.seq ?_
  refine Vc.region ?_
  refine vcL_pure rfl rfl (Value.bool false) (fun w => by kernel_rfl) ?_
  refine vcL_nil ?_
  refine Vc.seq ?_
  refine Vc.seq ?_
  refine Vc.region ?_
  refine vcL_purs 3 [(6, (Value.bool (decide (64 < (l.len : Int))))), (5, (Value.int .i64 (l.len : Int))), (4, (Sl.v l))] (by kernel_rfl) ?_
  refine vcL_nil ?_
  refine Vc.cond (decide (64 < (l.len : Int))) (by kernel_rfl) (fun hb => ?_) (fun hb => ?_)
  · have h := h.1 (of_decide_eq_true hb)
    refine Vc.seq ?_
    refine Vc.region ?_
    refine vcL_pure rfl rfl (Value.bool false) (fun w => by kernel_rfl) ?_
    refine vcL_nil ?_
    refine Vc.ret ?_
    refine outs_ret ?_
    refine done_mk (Value.bool false) (res1 (resC_tmp (by kernel_rfl))) ?_
    exact ⟨false, rfl, h⟩
  · have h := h.2 (of_decide_eq_false hb)
    refine Vc.skip ?_
    refine Vc.seq ?_
    refine Vc.seq ?_
    refine Vc.region ?_
    refine vcL_pure rfl rfl (Value.int .i64 0) (fun w => by kernel_rfl) ?_
    refine vcL_nil ?_
    refine Vc.block ?_
    obtain ⟨vI, mu, h, hr⟩ := h
    refine Vc.loopJ (σ := Int) [3] [2, 7, 8, 9, 10, 11, 12, 13, 14, 15, 16, 17, 18, 19, 20, 21, 22, 23, 24, 25, 26, 27, 28, 29, 30, 31, 32, 33, 34, 35, 36, 37, 38, 39, 40, 41, 42, 43, 44, 45, 46, 47, 48, 49, 50, 51, 52, 53, 54, 55, 56, 57, 58, 59, 60, 61, 62] (fun s => [(3, (Value.int .i64 s))]) (fun s w => vI s w) (fun s w => mu s w) 0 h (fun _ => rfl) (by kernel_rfl) ?_
    intro i vw j h
    have h := hr i vw h
    refine Vc.seq ?_
    refine Vc.seq ?_
    refine Vc.region ?_
    refine vcL_purs 4 [(10, (Value.bool (decide (i < (l.len : Int))))), (9, (Value.int .i64 (l.len : Int))), (8, (Sl.v l)), (7, (Value.int .i64 i))] (by kernel_rfl) ?_
    refine vcL_nil ?_
    refine Vc.cond (decide (i < (l.len : Int))) (by kernel_rfl) (fun hb => ?_) (fun hb => ?_)
    · have h := h.1 (of_decide_eq_true hb)
      refine Vc.skip ?_
      refine Vc.seq ?_
      refine Vc.block ?_
      refine Vc.seq ?_
      refine Vc.seq ?_
      obtain ⟨vw1, hvw1⟩ : ∃ y, y = vw.drew := ⟨_, rfl⟩
      have h := h vw1 hvw1
      refine Vc.draw (by kernel_rfl) (fun i => !(memN [5, 13, 28] i)) (.pur 0 (.pur 1 (.pur 2 (.pur 3 (.val 4 (.eff 5 (.pur 6 (.pur 7 (.pur 8 (.pur 9 (.pur 10 (.pur 11 (.val 12 (.eff 13 (.pur 14 (.pur 15 (.pur 16 (.pur 17 (.pur 18 (.pur 19 (.pur 20 (.val 21 (.pur 23 (.pur 24 (.pur 25 (.pur 26 (.val 27 (.eff 22 (.eff 28 (.pur 29 (.pur 30 .fin)) .stop) .stop)))))))))))))) .stop)))))))) .stop)))))) (by kernel_rfl) ?_
      rw [← hvw1]
      clear hvw1
      refine vcS_pure rfl rfl rfl (Sl.v l) (fun w => by kernel_rfl) ?_
      refine vcS_pure rfl rfl rfl (Value.int .i64 i) (fun w => by kernel_rfl) ?_
      obtain ⟨ad, hi, h⟩ := h
      refine vcS_pure rfl rfl rfl (Value.pointer (some (ad.add (i.toNat * 6)))) (fun w => by exact exec_indexAt (s := l) (el := 83) rfl (by kernel_rfl) (by kernel_rfl) (by kernel_rfl) (fun w => by kernel_rfl) (hi).1 (hi).2.1 (hi).2.2 w) ?_
      refine vcS_pure rfl rfl rfl (Value.pointer (some (ad.add (i.toNat * 6)))) (fun w => by kernel_rfl) ?_
      obtain ⟨t17_Major, t17_Minor, t17_Patch, hc, h⟩ := h
      refine vcS_val rfl rfl rfl (Value.agg #[(Value.int .i64 t17_Major), (Value.int .i64 t17_Minor), (Value.int .i64 t17_Patch)]) (fun w' hx => exec_load rfl (by kernel_rfl) (run_loadN (fun w => by kernel_rfl) (fun w => by kernel_rfl) ((hc).ext hx))) ?_
      refine vcS_eff rfl rfl (opVC_call rfl (by kernel_rfl) (callS.mono h fun v vw2 h => ?_)) vcS_stop
      obtain ⟨t18, rfl, h⟩ := h
      refine ⟨fun hb => absurd hb (by decide), ?_⟩
      refine vcS_pure rfl rfl rfl (Value.bool (!t18)) (fun w => by kernel_rfl) ?_
      obtain ⟨b, hb⟩ : ∃ y, y = (!t18) := ⟨_, rfl⟩
      have h := h b hb
      refine vcS_pure rfl rfl rfl (Value.bool b) (fun w => by rw [hb]; kernel_rfl) ?_
      refine vcS_guard rfl (!b) (wanted_g (d := 20) rfl (by kernel_rfl) b (by kernel_rfl) (!b) (eqF b)) rfl (Sl.v l) (fun hg w => by simp only [Bool.and_eq_true, Bool.not_eq_true'] at hg; obtain rfl := hg; kernel_rfl) ?_
      refine vcS_guard rfl (!b) (wanted_g (d := 20) rfl (by kernel_rfl) b (by kernel_rfl) (!b) (eqF b)) rfl (Value.int .i64 i) (fun hg w => by simp only [Bool.and_eq_true, Bool.not_eq_true'] at hg; obtain rfl := hg; kernel_rfl) ?_
      obtain ⟨ad3, hi4, h⟩ := h
      refine vcS_guard rfl (!b) (wanted_g (d := 20) rfl (by kernel_rfl) b (by kernel_rfl) (!b) (eqF b)) rfl (Value.pointer (some (ad3.add (i.toNat * 6)))) (fun hg w => by simp only [Bool.and_eq_true, Bool.not_eq_true'] at hg; obtain rfl := hg; exact exec_indexAt (s := l) (el := 83) rfl (by kernel_rfl) (by kernel_rfl) (by kernel_rfl) (fun w => by kernel_rfl) (hi4 rfl).1 (hi4 rfl).2.1 (hi4 rfl).2.2 w) ?_
      refine vcS_guard rfl (!b) (wanted_g (d := 20) rfl (by kernel_rfl) b (by kernel_rfl) (!b) (eqF b)) rfl (Value.pointer (some ((ad3.add (i.toNat * 6)).add 3))) (fun hg w => by simp only [Bool.and_eq_true, Bool.not_eq_true'] at hg; obtain rfl := hg; kernel_rfl) ?_
      obtain ⟨t25_Major, t25_Minor, t25_Patch, hc5, h⟩ := h
      refine vcS_valG rfl (!b) (wanted_g (d := 20) rfl (by kernel_rfl) b (by kernel_rfl) (!b) (eqF b)) rfl (Value.agg #[(Value.int .i64 t25_Major), (Value.int .i64 t25_Minor), (Value.int .i64 t25_Patch)]) (fun hg w' hx => by simp only [Bool.and_eq_true, Bool.not_eq_true'] at hg; obtain rfl := hg; exact exec_load rfl (by kernel_rfl) (run_loadN (fun w => by kernel_rfl) (fun w => by kernel_rfl) ((hc5 rfl).ext hx))) ?_
      obtain ⟨vJ, hJ, h⟩ := gCall_elim h
      refine vcS_effJ (σ := Bool) rfl (!b) (wanted_g (d := 20) rfl (by kernel_rfl) b (by kernel_rfl) (!b) (eqF b)) rfl (fun s w => vJ s w) (fun s => (Value.bool s)) ?_ (fun hg => opVC_call rfl (by simp only [Bool.and_eq_true, Bool.not_eq_true'] at hg; obtain rfl := hg; kernel_rfl) (callS.mono (h.1 hg) fun v7 vw6 hq => ?_)) (fun hg => ⟨false, h.2 hg⟩) vcS_stop
      · intro t26 vw6 h
        subst hJ
        refine vcS_guard rfl (!b) (wanted_g (d := 20) rfl (by kernel_rfl) b (by kernel_rfl) (!b) (eqF b)) rfl (Value.bool (!t26)) (fun hg w => by simp only [Bool.and_eq_true, Bool.not_eq_true'] at hg; obtain rfl := hg; kernel_rfl) ?_
        refine vcS_pure rfl rfl rfl (Value.bool (b || (!t26))) (fun w => by cases b <;> kernel_rfl) ?_
        obtain ⟨b9, hb9⟩ : ∃ y, y = (b || (!t26)) := ⟨_, rfl⟩
        have h := h b9 hb9
        refine vcS_pure rfl rfl rfl (Value.bool b9) (fun w => by rw [hb9]; kernel_rfl) ?_
        refine vcS_guard rfl (!b9) (wanted_g (d := 29) rfl (by kernel_rfl) b9 (by kernel_rfl) (!b9) (eqF b9)) rfl (Sl.v l) (fun hg w => by simp only [Bool.and_eq_true, Bool.not_eq_true'] at hg; obtain rfl := hg; kernel_rfl) ?_
        refine vcS_guard rfl (!b9) (wanted_g (d := 29) rfl (by kernel_rfl) b9 (by kernel_rfl) (!b9) (eqF b9)) rfl (Value.int .i64 i) (fun hg w => by simp only [Bool.and_eq_true, Bool.not_eq_true'] at hg; obtain rfl := hg; kernel_rfl) ?_
        obtain ⟨ad10, hi11, h⟩ := h
        refine vcS_guard rfl (!b9) (wanted_g (d := 29) rfl (by kernel_rfl) b9 (by kernel_rfl) (!b9) (eqF b9)) rfl (Value.pointer (some (ad10.add (i.toNat * 6)))) (fun hg w => by simp only [Bool.and_eq_true, Bool.not_eq_true'] at hg; obtain rfl := hg; exact exec_indexAt (s := l) (el := 83) rfl (by kernel_rfl) (by kernel_rfl) (by kernel_rfl) (fun w => by kernel_rfl) (hi11 rfl).1 (hi11 rfl).2.1 (hi11 rfl).2.2 w) ?_
        refine vcS_guard rfl (!b9) (wanted_g (d := 29) rfl (by kernel_rfl) b9 (by kernel_rfl) (!b9) (eqF b9)) rfl (Value.pointer (some (ad10.add (i.toNat * 6)))) (fun hg w => by simp only [Bool.and_eq_true, Bool.not_eq_true'] at hg; obtain rfl := hg; kernel_rfl) ?_
        obtain ⟨t34_Major, t34_Minor, t34_Patch, hc12, h⟩ := h
        refine vcS_valG rfl (!b9) (wanted_g (d := 29) rfl (by kernel_rfl) b9 (by kernel_rfl) (!b9) (eqF b9)) rfl (Value.agg #[(Value.int .i64 t34_Major), (Value.int .i64 t34_Minor), (Value.int .i64 t34_Patch)]) (fun hg w' hx => by simp only [Bool.and_eq_true, Bool.not_eq_true'] at hg; obtain rfl := hg; exact exec_load rfl (by kernel_rfl) (run_loadN (fun w => by kernel_rfl) (fun w => by kernel_rfl) ((hc12 rfl).ext hx))) ?_
        refine vcS_guard rfl (!b9) (wanted_g (d := 29) rfl (by kernel_rfl) b9 (by kernel_rfl) (!b9) (eqF b9)) rfl (Sl.v l) (fun hg w => by simp only [Bool.and_eq_true, Bool.not_eq_true'] at hg; obtain rfl := hg; kernel_rfl) ?_
        refine vcS_guard rfl (!b9) (wanted_g (d := 29) rfl (by kernel_rfl) b9 (by kernel_rfl) (!b9) (eqF b9)) rfl (Value.int .i64 i) (fun hg w => by simp only [Bool.and_eq_true, Bool.not_eq_true'] at hg; obtain rfl := hg; kernel_rfl) ?_
        obtain ⟨ad13, hi14, h⟩ := h
        refine vcS_guard rfl (!b9) (wanted_g (d := 29) rfl (by kernel_rfl) b9 (by kernel_rfl) (!b9) (eqF b9)) rfl (Value.pointer (some (ad13.add (i.toNat * 6)))) (fun hg w => by simp only [Bool.and_eq_true, Bool.not_eq_true'] at hg; obtain rfl := hg; exact exec_indexAt (s := l) (el := 83) rfl (by kernel_rfl) (by kernel_rfl) (by kernel_rfl) (fun w => by kernel_rfl) (hi14 rfl).1 (hi14 rfl).2.1 (hi14 rfl).2.2 w) ?_
        refine vcS_guard rfl (!b9) (wanted_g (d := 29) rfl (by kernel_rfl) b9 (by kernel_rfl) (!b9) (eqF b9)) rfl (Value.pointer (some ((ad13.add (i.toNat * 6)).add 3))) (fun hg w => by simp only [Bool.and_eq_true, Bool.not_eq_true'] at hg; obtain rfl := hg; kernel_rfl) ?_
        obtain ⟨t40_Major, t40_Minor, t40_Patch, hc15, h⟩ := h
        refine vcS_valG rfl (!b9) (wanted_g (d := 29) rfl (by kernel_rfl) b9 (by kernel_rfl) (!b9) (eqF b9)) rfl (Value.agg #[(Value.int .i64 t40_Major), (Value.int .i64 t40_Minor), (Value.int .i64 t40_Patch)]) (fun hg w' hx => by simp only [Bool.and_eq_true, Bool.not_eq_true'] at hg; obtain rfl := hg; exact exec_load rfl (by kernel_rfl) (run_loadN (fun w => by kernel_rfl) (fun w => by kernel_rfl) ((hc15 rfl).ext hx))) ?_
        obtain ⟨vJ19, hJ20, h⟩ := gCall_elim h
        refine vcS_effJ (σ := Int) rfl (!b9) (wanted_g (d := 29) rfl (by kernel_rfl) b9 (by kernel_rfl) (!b9) (eqF b9)) rfl (fun s w => vJ19 s w) (fun s => (Value.int .i64 s)) ?_ (fun hg => opVC_call rfl (by simp only [Bool.and_eq_true, Bool.not_eq_true'] at hg; obtain rfl := hg; kernel_rfl) (callS.mono (h.1 hg) fun v17 vw16 hq => ?_)) (fun hg => ⟨0, h.2 hg⟩) vcS_stop
        · intro t35 vw16 h
          subst hJ20
          obtain ⟨vJ24, hJ25, h⟩ := gCall_elim h
          refine vcS_effJ (σ := Int) rfl (!b9) (wanted_g (d := 29) rfl (by kernel_rfl) b9 (by kernel_rfl) (!b9) (eqF b9)) rfl (fun s w => vJ24 s w) (fun s => (Value.int .i64 s)) ?_ (fun hg => opVC_call rfl (by simp only [Bool.and_eq_true, Bool.not_eq_true'] at hg; obtain rfl := hg; kernel_rfl) (callS.mono (h.1 hg) fun v22 vw21 hq => ?_)) (fun hg => ⟨0, h.2 hg⟩) vcS_stop
          · intro t41 vw21 h
            subst hJ25
            refine vcS_guard rfl (!b9) (wanted_g (d := 29) rfl (by kernel_rfl) b9 (by kernel_rfl) (!b9) (eqF b9)) rfl (Value.bool (decide (t41 < t35))) (fun hg w => by simp only [Bool.and_eq_true, Bool.not_eq_true'] at hg; obtain rfl := hg; kernel_rfl) ?_
            refine vcS_pure rfl rfl rfl (Value.bool (b9 || (decide (t41 < t35)))) (fun w => by cases b9 <;> kernel_rfl) ?_
            refine vcS_fin ?_
            refine Vc.cond (b9 || (decide (t41 < t35))) (by kernel_rfl) (fun hb => ?_) (fun hb => ?_)
            · have h := h.1 (hb)
              refine Vc.seq ?_
              refine Vc.region ?_
              refine vcL_pure rfl rfl (Value.bool false) (fun w => by kernel_rfl) ?_
              refine vcL_nil ?_
              refine Vc.ret ?_
              refine outOf_ret ?_
              refine outOf_ret ?_
              refine outs_ret ?_
              refine done_mk (Value.bool false) (res1 (resC_tmp (by kernel_rfl))) ?_
              exact ⟨false, rfl, h⟩
            · have h := h.2 (hb)
              refine Vc.skip ?_
              refine Vc.seq ?_
              obtain ⟨vw26, hvw26⟩ : ∃ y, y = vw21.drew := ⟨_, rfl⟩
              have h := h vw26 hvw26
              refine Vc.draw (by kernel_rfl) (fun i => !(memN [15] i)) (.pur 0 (.pur 1 (.pur 2 (.pur 3 (.pur 4 (.pur 5 (.pur 6 (.val 7 (.pur 9 (.pur 10 (.pur 11 (.pur 12 (.pur 13 (.val 14 (.eff 8 (.eff 15 (.pur 16 (.pur 17 (.pur 18 .fin))) .stop) .stop))))))))))))))) (by kernel_rfl) ?_
              rw [← hvw26]
              clear hvw26
              refine vcS_pure rfl rfl rfl (Value.int .i64 i) (fun w => by kernel_rfl) ?_
              refine vcS_pure rfl rfl rfl (Value.bool (decide (0 < i))) (fun w => by kernel_rfl) ?_
              obtain ⟨b27, hb27⟩ : ∃ y, y = (decide (0 < i)) := ⟨_, rfl⟩
              have h := h b27 hb27
              refine vcS_pure rfl rfl rfl (Value.bool b27) (fun w => by rw [hb27]; kernel_rfl) ?_
              refine vcS_guard rfl b27 (wanted_g (d := 46) rfl (by kernel_rfl) b27 (by kernel_rfl) b27 (eqT b27)) rfl (Sl.v l) (fun hg w => by subst hg; kernel_rfl) ?_
              refine vcS_guard rfl b27 (wanted_g (d := 46) rfl (by kernel_rfl) b27 (by kernel_rfl) b27 (eqT b27)) rfl (Value.int .i64 i) (fun hg w => by subst hg; kernel_rfl) ?_
              obtain ⟨ad28, hi29, h⟩ := h
              refine vcS_guard rfl b27 (wanted_g (d := 46) rfl (by kernel_rfl) b27 (by kernel_rfl) b27 (eqT b27)) rfl (Value.pointer (some (ad28.add (i.toNat * 6)))) (fun hg w => by subst hg; exact exec_indexAt (s := l) (el := 83) rfl (by kernel_rfl) (by kernel_rfl) (by kernel_rfl) (fun w => by kernel_rfl) (hi29 rfl).1 (hi29 rfl).2.1 (hi29 rfl).2.2 w) ?_
              refine vcS_guard rfl b27 (wanted_g (d := 46) rfl (by kernel_rfl) b27 (by kernel_rfl) b27 (eqT b27)) rfl (Value.pointer (some (ad28.add (i.toNat * 6)))) (fun hg w => by subst hg; kernel_rfl) ?_
              obtain ⟨t51_Major, t51_Minor, t51_Patch, hc30, h⟩ := h
              refine vcS_valG rfl b27 (wanted_g (d := 46) rfl (by kernel_rfl) b27 (by kernel_rfl) b27 (eqT b27)) rfl (Value.agg #[(Value.int .i64 t51_Major), (Value.int .i64 t51_Minor), (Value.int .i64 t51_Patch)]) (fun hg w' hx => by subst hg; exact exec_load rfl (by kernel_rfl) (run_loadN (fun w => by kernel_rfl) (fun w => by kernel_rfl) ((hc30 rfl).ext hx))) ?_
              refine vcS_guard rfl b27 (wanted_g (d := 46) rfl (by kernel_rfl) b27 (by kernel_rfl) b27 (eqT b27)) rfl (Sl.v l) (fun hg w => by subst hg; kernel_rfl) ?_
              refine vcS_guard rfl b27 (wanted_g (d := 46) rfl (by kernel_rfl) b27 (by kernel_rfl) b27 (eqT b27)) rfl (Value.int .i64 i) (fun hg w => by subst hg; kernel_rfl) ?_
              refine vcS_guard rfl b27 (wanted_g (d := 46) rfl (by kernel_rfl) b27 (by kernel_rfl) b27 (eqT b27)) rfl (Value.int .i64 (wrapI (i - 1))) (fun hg w => by subst hg; kernel_rfl) ?_
              obtain ⟨ad31, hi32, h⟩ := h
              refine vcS_guard rfl b27 (wanted_g (d := 46) rfl (by kernel_rfl) b27 (by kernel_rfl) b27 (eqT b27)) rfl (Value.pointer (some (ad31.add ((wrapI (i - 1)).toNat * 6)))) (fun hg w => by subst hg; exact exec_indexAt (s := l) (el := 83) rfl (by kernel_rfl) (by kernel_rfl) (by kernel_rfl) (fun w => by kernel_rfl) (hi32 rfl).1 (hi32 rfl).2.1 (hi32 rfl).2.2 w) ?_
              refine vcS_guard rfl b27 (wanted_g (d := 46) rfl (by kernel_rfl) b27 (by kernel_rfl) b27 (eqT b27)) rfl (Value.pointer (some ((ad31.add ((wrapI (i - 1)).toNat * 6)).add 3))) (fun hg w => by subst hg; kernel_rfl) ?_
              obtain ⟨t58_Major, t58_Minor, t58_Patch, hc33, h⟩ := h
              refine vcS_valG rfl b27 (wanted_g (d := 46) rfl (by kernel_rfl) b27 (by kernel_rfl) b27 (eqT b27)) rfl (Value.agg #[(Value.int .i64 t58_Major), (Value.int .i64 t58_Minor), (Value.int .i64 t58_Patch)]) (fun hg w' hx => by subst hg; exact exec_load rfl (by kernel_rfl) (run_loadN (fun w => by kernel_rfl) (fun w => by kernel_rfl) ((hc33 rfl).ext hx))) ?_
              obtain ⟨vJ37, hJ38, h⟩ := gCall_elim h
              refine vcS_effJ (σ := Int) rfl b27 (wanted_g (d := 46) rfl (by kernel_rfl) b27 (by kernel_rfl) b27 (eqT b27)) rfl (fun s w => vJ37 s w) (fun s => (Value.int .i64 s)) ?_ (fun hg => opVC_call rfl (by subst hg; kernel_rfl) (callS.mono (h.1 hg) fun v35 vw34 hq => ?_)) (fun hg => ⟨0, h.2 hg⟩) vcS_stop
              · intro t52 vw34 h
                subst hJ38
                obtain ⟨vJ42, hJ43, h⟩ := gCall_elim h
                refine vcS_effJ (σ := Int) rfl b27 (wanted_g (d := 46) rfl (by kernel_rfl) b27 (by kernel_rfl) b27 (eqT b27)) rfl (fun s w => vJ42 s w) (fun s => (Value.int .i64 s)) ?_ (fun hg => opVC_call rfl (by subst hg; kernel_rfl) (callS.mono (h.1 hg) fun v40 vw39 hq => ?_)) (fun hg => ⟨0, h.2 hg⟩) vcS_stop
                · intro t59 vw39 h
                  subst hJ43
                  refine vcS_guard rfl b27 (wanted_g (d := 46) rfl (by kernel_rfl) b27 (by kernel_rfl) b27 (eqT b27)) rfl (Value.int .i64 (wrapI (t59 + 1))) (fun hg w => by subst hg; kernel_rfl) ?_
                  refine vcS_guard rfl b27 (wanted_g (d := 46) rfl (by kernel_rfl) b27 (by kernel_rfl) b27 (eqT b27)) rfl (Value.bool (decide (t52 ≤ (wrapI (t59 + 1))))) (fun hg w => by subst hg; kernel_rfl) ?_
                  refine vcS_pure rfl rfl rfl (Value.bool (b27 && (decide (t52 ≤ (wrapI (t59 + 1)))))) (fun w => by cases b27 <;> kernel_rfl) ?_
                  refine vcS_fin ?_
                  refine Vc.cond (b27 && (decide (t52 ≤ (wrapI (t59 + 1))))) (by kernel_rfl) (fun hb => ?_) (fun hb => ?_)
                  · have h := h.1 (hb)
                    refine Vc.seq ?_
                    refine Vc.region ?_
                    refine vcL_pure rfl rfl (Value.bool false) (fun w => by kernel_rfl) ?_
                    refine vcL_nil ?_
                    refine Vc.ret ?_
                    refine outOf_ret ?_
                    refine outOf_ret ?_
                    refine outs_ret ?_
                    refine done_mk (Value.bool false) (res1 (resC_tmp (by kernel_rfl))) ?_
                    exact ⟨false, rfl, h⟩
                  · have h := h.2 (hb)
                    refine Vc.skip ?_
                    refine Vc.region ?_
                    refine vcL_purs 3 [(3, (Value.int .i64 (wrapI (i + 1)))), (12, (Value.int .i64 (wrapI (i + 1)))), (11, (Value.int .i64 i))] (by kernel_rfl) ?_
                    refine vcL_nil ?_
                    exact ⟨(wrapI (i + 1)), 115, ⟨rfl, by kernel_rfl, by kernel_rfl, by kernel_rfl⟩, h⟩
                · obtain ⟨t59, rfl, hq⟩ := hq
                  exact ⟨fun hb => absurd hb (by decide), t59, rfl, hq⟩
              · obtain ⟨hx, hq⟩ := hq
                obtain ⟨t52, rfl, hq⟩ := hq
                exact ⟨fun _ => hx, t52, rfl, hq⟩
          · obtain ⟨t41, rfl, hq⟩ := hq
            exact ⟨fun hb => absurd hb (by decide), t41, rfl, hq⟩
        · obtain ⟨hx, hq⟩ := hq
          obtain ⟨t35, rfl, hq⟩ := hq
          exact ⟨fun _ => hx, t35, rfl, hq⟩
      · obtain ⟨t26, rfl, hq⟩ := hq
        exact ⟨fun hb => absurd hb (by decide), t26, rfl, hq⟩
    · have h := h.2 (of_decide_eq_false hb)
      refine Vc.exit ?_
      refine outOf_hit ?_
      refine Vc.seq ?_
      refine Vc.region ?_
      refine vcL_pure rfl rfl (Value.bool true) (fun w => by kernel_rfl) ?_
      refine vcL_nil ?_
      refine Vc.ret ?_
      refine outs_ret ?_
      refine done_mk (Value.bool true) (res1 (resC_tmp (by kernel_rfl))) ?_
      exact ⟨true, rfl, h⟩
theorem halyardref03_May.go {l : Sl} {w : World} {k : Value → World → Prop} (h : halyardref03_May l w fun r0 w' => k (Value.bool r0) w') : callS Tryz.prog 79 [(Sl.v l)] w k := (halyardref03_May.sound l w _ h).mono (by rintro _ _ ⟨r0, rfl, h⟩; exact h)

/-- halyard/halyardref02.May -/
def halyardref02_May (v_Major : Int) (v_Minor : Int) (v_Patch : Int) (w : World) (R : Bool → World → Prop) : Prop :=
  newS w [(Value.int .i64 v_Major), (Value.int .i64 v_Minor), (Value.int .i64 v_Patch)] 30 fun a vw => ∃ (t4 : Int), (ldc vw a [(Value.int .i64 t4)]) ∧ callS Tryz.prog 115 [(Value.int .i64 t4)] vw fun v vw1 => ∃ (t5 : Bool), v = (Value.bool t5) ∧ ∃ (t8 : Int), grd t5 (ldc vw1 (a.add 1) [(Value.int .i64 t8)]) ∧ gCall t5 (fun (t9 : Bool) (vw3 : World) => bnd (t5 && t9) fun (b : Bool) => ∃ (t13 : Int), grd b (ldc vw3 (a.add 2) [(Value.int .i64 t13)]) ∧ gCall b (fun (t14 : Bool) (vw7 : World) => R (b && t14) vw7) (fun q => callS Tryz.prog 115 [(Value.int .i64 t13)] vw3 fun v8 vw7 => ∃ (t14 : Bool), v8 = (Value.bool t14) ∧ q t14 vw7) (fun q => q false vw3)) (fun q => callS Tryz.prog 115 [(Value.int .i64 t8)] vw1 fun v4 vw3 => ∃ (t9 : Bool), v4 = (Value.bool t9) ∧ q t9 vw3) (fun q => q false vw1)
set_option maxHeartbeats 8000000 in
theorem halyardref02_May.sound (v_Major : Int) (v_Minor : Int) (v_Patch : Int) (w : World) (R : Bool → World → Prop) (h : halyardref02_May v_Major v_Minor v_Patch w R) : callS Tryz.prog 80 [(Value.agg #[(Value.int .i64 v_Major), (Value.int .i64 v_Minor), (Value.int .i64 v_Patch)])] w (fun v w' => ∃ (r0 : Bool), v = (Value.bool r0) ∧ R r0 w') := by
  unfold halyardref02_May at h
  refine calls_of_vc 16 rfl Tryz.func80 rfl (by kernel_rfl) (by simp) ?_
  refine Vc.seq ?_
  refine Vc.region ?_
  refine vcL_eff rfl (opVC_new rfl (fun a => Value.pointer (some a)) (by kernel_rfl) (newS.mono h fun a vw hx h => ?_)) 
  refine vcL_pure rfl rfl (Value.bool false) (fun w => by kernel_rfl) ?_
  refine vcL_nil ?_
  refine Vc.seq ?_
  refine Vc.region ?_
  refine vcL_pure rfl rfl (Value.pointer (some a)) (fun w => by kernel_rfl) ?_
  obtain ⟨t4, hc, h⟩ := h
  refine vcL_val rfl rfl (Value.int .i64 t4) (exec_load rfl (by kernel_rfl) (run_load1 (fun w => by kernel_rfl) ((hc)))) ?_
  refine vcL_eff rfl (opVC_call rfl (by kernel_rfl) (callS.mono h fun v vw1 h => ?_)) 
  obtain ⟨t5, rfl, h⟩ := h
  refine vcL_pure rfl rfl (Value.bool t5) (fun w => by kernel_rfl) ?_
  refine vcL_guardP t5 (wanted_g (d := 6) rfl (by kernel_rfl) t5 (by kernel_rfl) t5 (eqT t5)) rfl (Value.pointer (some (a.add 1))) (fun hg w => by subst hg; kernel_rfl) ?_
  obtain ⟨t8, hc2, h⟩ := h
  refine vcL_guard t5 (wanted_g (d := 6) rfl (by kernel_rfl) t5 (by kernel_rfl) t5 (eqT t5)) rfl (Value.int .i64 t8) (fun hg => by subst hg; exact exec_load rfl (by kernel_rfl) (run_load1 (fun w => by kernel_rfl) ((hc2 rfl)))) ?_
  obtain ⟨vJ, hJ, h⟩ := gCall_elim h
  refine vcL_effJ (σ := Bool) t5 (wanted_g (d := 6) rfl (by kernel_rfl) t5 (by kernel_rfl) t5 (eqT t5)) rfl (fun s w => vJ s w) (fun s => (Value.bool s)) ?_ (fun hg => opVC_call rfl (by subst hg; kernel_rfl) (callS.mono (h.1 hg) fun v4 vw3 hq => ?_)) (fun hg => ⟨false, h.2 hg⟩)
  · intro t9 vw3 h
    subst hJ
    refine vcL_pure rfl rfl (Value.bool (t5 && t9)) (fun w => by cases t5 <;> kernel_rfl) ?_
    obtain ⟨b, hb⟩ : ∃ y, y = (t5 && t9) := ⟨_, rfl⟩
    have h := h b hb
    refine vcL_pure rfl rfl (Value.bool b) (fun w => by rw [hb]; kernel_rfl) ?_
    refine vcL_guardP b (wanted_g (d := 11) rfl (by kernel_rfl) b (by kernel_rfl) b (eqT b)) rfl (Value.pointer (some (a.add 2))) (fun hg w => by subst hg; kernel_rfl) ?_
    obtain ⟨t13, hc6, h⟩ := h
    refine vcL_guard b (wanted_g (d := 11) rfl (by kernel_rfl) b (by kernel_rfl) b (eqT b)) rfl (Value.int .i64 t13) (fun hg => by subst hg; exact exec_load rfl (by kernel_rfl) (run_load1 (fun w => by kernel_rfl) ((hc6 rfl)))) ?_
    obtain ⟨vJ10, hJ11, h⟩ := gCall_elim h
    refine vcL_effJ (σ := Bool) b (wanted_g (d := 11) rfl (by kernel_rfl) b (by kernel_rfl) b (eqT b)) rfl (fun s w => vJ10 s w) (fun s => (Value.bool s)) ?_ (fun hg => opVC_call rfl (by subst hg; kernel_rfl) (callS.mono (h.1 hg) fun v8 vw7 hq => ?_)) (fun hg => ⟨false, h.2 hg⟩)
    · intro t14 vw7 h
      subst hJ11
      refine vcL_pure rfl rfl (Value.bool (b && t14)) (fun w => by cases b <;> kernel_rfl) ?_
      refine vcL_pure rfl rfl (Value.bool (b && t14)) (fun w => by kernel_rfl) ?_
      refine vcL_nil ?_
      refine Vc.ret ?_
      refine outs_ret ?_
      refine done_mk (Value.bool (b && t14)) (res1 (resC_tmp (by kernel_rfl))) ?_
      exact ⟨(b && t14), rfl, h⟩
    · obtain ⟨t14, rfl, hq⟩ := hq
      exact ⟨t14, rfl, hq⟩
  · obtain ⟨t9, rfl, hq⟩ := hq
    exact ⟨t9, rfl, hq⟩
theorem halyardref02_May.go {v_Major : Int} {v_Minor : Int} {v_Patch : Int} {w : World} {k : Value → World → Prop} (h : halyardref02_May v_Major v_Minor v_Patch w fun r0 w' => k (Value.bool r0) w') : callS Tryz.prog 80 [(Value.agg #[(Value.int .i64 v_Major), (Value.int .i64 v_Minor), (Value.int .i64 v_Patch)])] w k := (halyardref02_May.sound v_Major v_Minor v_Patch w _ h).mono (by rintro _ _ ⟨r0, rfl, h⟩; exact h)

/-- halyard/halyardref03.has -/
def halyardref03_has (l : Sl) (n : Int) (w : World) (R : Bool → World → Prop) : Prop :=
  loop1 0 w fun i vw nxt => ((i < (l.len : Int) → ∃ (ad : Addr), (l.a = some ad ∧ (0 : Int) ≤ i ∧ i < (l.len : Int)) ∧ ∃ (t16_Major : Int) (t16_Minor : Int) (t16_Patch : Int), (ldc vw (ad.add (i.toNat * 6)) [(Value.int .i64 t16_Major), (Value.int .i64 t16_Minor), (Value.int .i64 t16_Patch)]) ∧ callS Tryz.prog 82 [(Value.agg #[(Value.int .i64 t16_Major), (Value.int .i64 t16_Minor), (Value.int .i64 t16_Patch)])] vw fun v vw1 => ∃ (t17 : Int), v = (Value.int .i64 t17) ∧ bnd (decide (t17 ≤ n)) fun (b : Bool) => ∃ (ad2 : Addr), grd b (l.a = some ad2 ∧ (0 : Int) ≤ i ∧ i < (l.len : Int)) ∧ ∃ (t26_Major : Int) (t26_Minor : Int) (t26_Patch : Int), grd b (ldc vw1 ((ad2.add (i.toNat * 6)).add 3) [(Value.int .i64 t26_Major), (Value.int .i64 t26_Minor), (Value.int .i64 t26_Patch)]) ∧ gCall b (fun (t27 : Int) (vw5 : World) => (((b && (decide (n ≤ t27))) = true → R true vw5) ∧ ((b && (decide (n ≤ t27))) = false → nxt (wrapI (i + 1)) vw5))) (fun q => callS Tryz.prog 82 [(Value.agg #[(Value.int .i64 t26_Major), (Value.int .i64 t26_Minor), (Value.int .i64 t26_Patch)])] vw1 fun v6 vw5 => ∃ (t27 : Int), v6 = (Value.int .i64 t27) ∧ q t27 vw5) (fun q => q 0 vw1)) ∧ (¬ (i < (l.len : Int)) → R false vw))
set_option maxHeartbeats 8000000 in
theorem halyardref03_has.sound (l : Sl) (n : Int) (w : World) (R : Bool → World → Prop) (h : halyardref03_has l n w R) : callS Tryz.prog 81 [(Sl.v l), (Value.int .i64 n)] w (fun v w' => ∃ (r0 : Bool), v = (Value.bool r0) ∧ R r0 w') := by
  unfold halyardref03_has at h
  refine calls_of_vc 30 rfl Tryz.func81 rfl (by kernel_rfl) (by simp) ?_
  refine Vc.seq ?_
  refine Vc.region ?_
  refine vcL_pure rfl rfl (Value.bool false) (fun w => by kernel_rfl) ?_
  refine vcL_nil ?_
  refine Vc.seq ?_
  refine Vc.seq ?_
  refine Vc.region ?_
  refine vcL_pure rfl rfl (Value.int .i64 0) (fun w => by kernel_rfl) ?_
  refine vcL_nil ?_
  refine Vc.block ?_
  obtain ⟨vI, mu, h, hr⟩ := h
  refine Vc.loopJ (σ := Int) [5] [4, 6, 7, 8, 9, 10, 11, 12, 13, 14, 15, 16, 17, 18, 19, 20, 21, 22, 23, 24, 25, 26, 27, 28, 29] (fun s => [(5, (Value.int .i64 s))]) (fun s w => vI s w) (fun s w => mu s w) 0 h (fun _ => rfl) (by kernel_rfl) ?_
  intro i vw j h
  have h := hr i vw h
  refine Vc.seq ?_
  refine Vc.seq ?_
  refine Vc.region ?_
  refine vcL_purs 4 [(9, (Value.bool (decide (i < (l.len : Int))))), (8, (Value.int .i64 (l.len : Int))), (7, (Sl.v l)), (6, (Value.int .i64 i))] (by kernel_rfl) ?_
  refine vcL_nil ?_
  refine Vc.cond (decide (i < (l.len : Int))) (by kernel_rfl) (fun hb => ?_) (fun hb => ?_)
  · have h := h.1 (of_decide_eq_true hb)
    refine Vc.skip ?_
    refine Vc.seq ?_
    refine Vc.block ?_
    refine Vc.seq ?_
    refine Vc.region ?_
    refine vcL_purs 2 [(13, (Value.int .i64 i)), (12, (Sl.v l))] (by kernel_rfl) ?_
    obtain ⟨ad, hi, h⟩ := h
    refine vcL_pure rfl rfl (Value.pointer (some (ad.add (i.toNat * 6)))) (fun w => by exact exec_indexAt (s := l) (el := 83) rfl (by kernel_rfl) (by kernel_rfl) (by kernel_rfl) (fun w => by kernel_rfl) (hi).1 (hi).2.1 (hi).2.2 w) ?_
    refine vcL_pure rfl rfl (Value.pointer (some (ad.add (i.toNat * 6)))) (fun w => by kernel_rfl) ?_
    obtain ⟨t16_Major, t16_Minor, t16_Patch, hc, h⟩ := h
    refine vcL_val rfl rfl (Value.agg #[(Value.int .i64 t16_Major), (Value.int .i64 t16_Minor), (Value.int .i64 t16_Patch)]) (exec_load rfl (by kernel_rfl) (run_loadN (fun w => by kernel_rfl) (fun w => by kernel_rfl) ((hc)))) ?_
    refine vcL_eff rfl (opVC_call rfl (by kernel_rfl) (callS.mono h fun v vw1 h => ?_)) 
    obtain ⟨t17, rfl, h⟩ := h
    refine vcL_purs 2 [(19, (Value.bool (decide (t17 ≤ n)))), (18, (Value.int .i64 n))] (by kernel_rfl) ?_
    obtain ⟨b, hb⟩ : ∃ y, y = (decide (t17 ≤ n)) := ⟨_, rfl⟩
    have h := h b hb
    refine vcL_pure rfl rfl (Value.bool b) (fun w => by rw [hb]; kernel_rfl) ?_
    refine vcL_guardP b (wanted_g (d := 20) rfl (by kernel_rfl) b (by kernel_rfl) b (eqT b)) rfl (Value.int .i64 n) (fun hg w => by subst hg; kernel_rfl) ?_
    refine vcL_guardP b (wanted_g (d := 20) rfl (by kernel_rfl) b (by kernel_rfl) b (eqT b)) rfl (Sl.v l) (fun hg w => by subst hg; kernel_rfl) ?_
    refine vcL_guardP b (wanted_g (d := 20) rfl (by kernel_rfl) b (by kernel_rfl) b (eqT b)) rfl (Value.int .i64 i) (fun hg w => by subst hg; kernel_rfl) ?_
    obtain ⟨ad2, hi3, h⟩ := h
    refine vcL_guardP b (wanted_g (d := 20) rfl (by kernel_rfl) b (by kernel_rfl) b (eqT b)) rfl (Value.pointer (some (ad2.add (i.toNat * 6)))) (fun hg w => by subst hg; exact exec_indexAt (s := l) (el := 83) rfl (by kernel_rfl) (by kernel_rfl) (by kernel_rfl) (fun w => by kernel_rfl) (hi3 rfl).1 (hi3 rfl).2.1 (hi3 rfl).2.2 w) ?_
    refine vcL_guardP b (wanted_g (d := 20) rfl (by kernel_rfl) b (by kernel_rfl) b (eqT b)) rfl (Value.pointer (some ((ad2.add (i.toNat * 6)).add 3))) (fun hg w => by subst hg; kernel_rfl) ?_
    obtain ⟨t26_Major, t26_Minor, t26_Patch, hc4, h⟩ := h
    refine vcL_guard b (wanted_g (d := 20) rfl (by kernel_rfl) b (by kernel_rfl) b (eqT b)) rfl (Value.agg #[(Value.int .i64 t26_Major), (Value.int .i64 t26_Minor), (Value.int .i64 t26_Patch)]) (fun hg => by subst hg; exact exec_load rfl (by kernel_rfl) (run_loadN (fun w => by kernel_rfl) (fun w => by kernel_rfl) ((hc4 rfl)))) ?_
    obtain ⟨vJ, hJ, h⟩ := gCall_elim h
    refine vcL_effJ (σ := Int) b (wanted_g (d := 20) rfl (by kernel_rfl) b (by kernel_rfl) b (eqT b)) rfl (fun s w => vJ s w) (fun s => (Value.int .i64 s)) ?_ (fun hg => opVC_call rfl (by subst hg; kernel_rfl) (callS.mono (h.1 hg) fun v6 vw5 hq => ?_)) (fun hg => ⟨0, h.2 hg⟩)
    · intro t27 vw5 h
      subst hJ
      refine vcL_guardP b (wanted_g (d := 20) rfl (by kernel_rfl) b (by kernel_rfl) b (eqT b)) rfl (Value.bool (decide (n ≤ t27))) (fun hg w => by subst hg; kernel_rfl) ?_
      refine vcL_pure rfl rfl (Value.bool (b && (decide (n ≤ t27)))) (fun w => by cases b <;> kernel_rfl) ?_
      refine vcL_nil ?_
      refine Vc.cond (b && (decide (n ≤ t27))) (by kernel_rfl) (fun hb => ?_) (fun hb => ?_)
      · have h := h.1 (hb)
        refine Vc.seq ?_
        refine Vc.region ?_
        refine vcL_pure rfl rfl (Value.bool true) (fun w => by kernel_rfl) ?_
        refine vcL_nil ?_
        refine Vc.ret ?_
        refine outOf_ret ?_
        refine outOf_ret ?_
        refine outs_ret ?_
        refine done_mk (Value.bool true) (res1 (resC_tmp (by kernel_rfl))) ?_
        exact ⟨true, rfl, h⟩
      · have h := h.2 (hb)
        refine Vc.skip ?_
        refine Vc.region ?_
        refine vcL_purs 3 [(5, (Value.int .i64 (wrapI (i + 1)))), (11, (Value.int .i64 (wrapI (i + 1)))), (10, (Value.int .i64 i))] (by kernel_rfl) ?_
        refine vcL_nil ?_
        exact ⟨(wrapI (i + 1)), 51, ⟨rfl, by kernel_rfl, by kernel_rfl, by kernel_rfl⟩, h⟩
    · obtain ⟨t27, rfl, hq⟩ := hq
      exact ⟨t27, rfl, hq⟩
  · have h := h.2 (of_decide_eq_false hb)
    refine Vc.exit ?_
    refine outOf_hit ?_
    refine Vc.seq ?_
    refine Vc.region ?_
    refine vcL_pure rfl rfl (Value.bool false) (fun w => by kernel_rfl) ?_
    refine vcL_nil ?_
    refine Vc.ret ?_
    refine outs_ret ?_
    refine done_mk (Value.bool false) (res1 (resC_tmp (by kernel_rfl))) ?_
    exact ⟨false, rfl, h⟩
theorem halyardref03_has.go {l : Sl} {n : Int} {w : World} {k : Value → World → Prop} (h : halyardref03_has l n w fun r0 w' => k (Value.bool r0) w') : callS Tryz.prog 81 [(Sl.v l), (Value.int .i64 n)] w k := (halyardref03_has.sound l n w _ h).mono (by rintro _ _ ⟨r0, rfl, h⟩; exact h)

/-- halyard/halyardref03.rank -/
def halyardref03_rank (v_Major : Int) (v_Minor : Int) (v_Patch : Int) (w : World) (R : Int → World → Prop) : Prop :=
  newS w [(Value.int .i64 v_Major), (Value.int .i64 v_Minor), (Value.int .i64 v_Patch)] 30 fun a vw => ∃ (t6_Major : Int) (t6_Minor : Int) (t6_Patch : Int), (ldc vw a [(Value.int .i64 t6_Major), (Value.int .i64 t6_Minor), (Value.int .i64 t6_Patch)]) ∧ callS Tryz.prog 116 [(Value.agg #[(Value.int .i64 t6_Major), (Value.int .i64 t6_Minor), (Value.int .i64 t6_Patch)])] vw fun v vw1 => ∃ (t7 : Int) (t7b : Bool), v = (Value.tuple #[(Value.int .i64 t7), (Value.bool t7b)]) ∧ R t7 vw1
set_option maxHeartbeats 8000000 in
theorem halyardref03_rank.sound (v_Major : Int) (v_Minor : Int) (v_Patch : Int) (w : World) (R : Int → World → Prop) (h : halyardref03_rank v_Major v_Minor v_Patch w R) : callS Tryz.prog 82 [(Value.agg #[(Value.int .i64 v_Major), (Value.int .i64 v_Minor), (Value.int .i64 v_Patch)])] w (fun v w' => ∃ (r0 : Int), v = (Value.int .i64 r0) ∧ R r0 w') := by
  unfold halyardref03_rank at h
  refine calls_of_vc 11 rfl Tryz.func82 rfl (by kernel_rfl) (by simp) ?_
  refine Vc.seq ?_
  refine Vc.region ?_
  refine vcL_eff rfl (opVC_new rfl (fun a => Value.pointer (some a)) (by kernel_rfl) (newS.mono h fun a vw hx h => ?_)) 
  refine vcL_pure rfl rfl (Value.int .i64 0) (fun w => by kernel_rfl) ?_
  refine vcL_nil ?_
  refine Vc.seq ?_
  refine Vc.region ?_
  obtain ⟨t6_Major, t6_Minor, t6_Patch, hc, h⟩ := h
  refine vcL_val rfl rfl (Value.agg #[(Value.int .i64 t6_Major), (Value.int .i64 t6_Minor), (Value.int .i64 t6_Patch)]) (exec_load rfl (by kernel_rfl) (run_loadN (fun w => by kernel_rfl) (fun w => by kernel_rfl) ((hc)))) ?_
  refine vcL_eff rfl (opVC_call rfl (by kernel_rfl) (callS.mono h fun v vw1 h => ?_)) 
  obtain ⟨t7, t7b, rfl, h⟩ := h
  refine vcL_purs 5 [(4, (Value.bool t7b)), (3, (Value.int .i64 t7)), (9, (Value.bool t7b)), (8, (Value.int .i64 t7)), (5, (Value.tuple #[(Value.int .i64 t7), (Value.bool t7b)]))] (by kernel_rfl) ?_
  refine vcL_nil ?_
  refine Vc.seq ?_
  refine Vc.region ?_
  refine vcL_purs 2 [(2, (Value.int .i64 t7)), (10, (Value.int .i64 t7))] (by kernel_rfl) ?_
  refine vcL_nil ?_
  refine Vc.ret ?_
  refine outs_ret ?_
  refine done_mk (Value.int .i64 t7) (res1 (resC_tmp (by kernel_rfl))) ?_
  exact ⟨t7, rfl, h⟩
theorem halyardref03_rank.go {v_Major : Int} {v_Minor : Int} {v_Patch : Int} {w : World} {k : Value → World → Prop} (h : halyardref03_rank v_Major v_Minor v_Patch w fun r0 w' => k (Value.int .i64 r0) w') : callS Tryz.prog 82 [(Value.agg #[(Value.int .i64 v_Major), (Value.int .i64 v_Minor), (Value.int .i64 v_Patch)])] w k := (halyardref03_rank.sound v_Major v_Minor v_Patch w _ h).mono (by rintro _ _ ⟨r0, rfl, h⟩; exact h)

/-- halyard/halyardref04.Name -/
def halyardref04_Name (vs : ByteArray) (w : World) (R : Bool → World → Prop) : Prop :=
  loop1 0 w fun i vw nxt => ((i < (vs.size : Int) → ((0 : Int) ≤ i ∧ i < (vs.size : Int)) ∧ bnd (decide (97 ≤ (bAt vs i))) fun (b : Bool) => grd b ((0 : Int) ≤ i ∧ i < (vs.size : Int)) ∧ ((0 : Int) ≤ i ∧ i < (vs.size : Int)) ∧ bnd (decide (48 ≤ (bAt vs i))) fun (b3 : Bool) => grd b3 ((0 : Int) ≤ i ∧ i < (vs.size : Int)) ∧ bnd (b3 && (decide ((bAt vs i) ≤ 57))) fun (b5 : Bool) => grd (!b5) ((0 : Int) ≤ i ∧ i < (vs.size : Int)) ∧ bnd (!(b && (decide ((bAt vs i) ≤ 122)))) fun (b7 : Bool) => bnd (i == 0) fun (b8 : Bool) => (((b7 && (b8 || (!(b5 || ((bAt vs i) == 45))))) = true → R false vw) ∧ ((b7 && (b8 || (!(b5 || ((bAt vs i) == 45))))) = false → nxt (wrapI (i + 1)) vw))) ∧ (¬ (i < (vs.size : Int)) → bnd (!bEq vs (ByteArray.mk #[])) fun (b9 : Bool) => R (b9 && (decide ((vs.size : Int) ≤ 16))) vw))
set_option maxHeartbeats 8000000 in
theorem halyardref04_Name.sound (vs : ByteArray) (w : World) (R : Bool → World → Prop) (h : halyardref04_Name vs w R) : callS Tryz.prog 83 [(Value.string vs)] w (fun v w' => ∃ (r0 : Bool), v = (Value.bool r0) ∧ R r0 w') := by
  unfold halyardref04_Name at h
  refine calls_of_vc 55 rfl Tryz.func83 rfl (by kernel_rfl) (by simp) ?_
  refine Vc.seq ?_
  refine Vc.region ?_
  refine vcL_pure rfl rfl (Value.bool false) (fun w => by kernel_rfl) ?_
  refine vcL_nil ?_
  refine Vc.seq ?_
  refine Vc.seq ?_
  refine Vc.region ?_
  refine vcL_pure rfl rfl (Value.int .i64 0) (fun w => by kernel_rfl) ?_
  refine vcL_nil ?_
  refine Vc.block ?_
  obtain ⟨vI, mu, h, hr⟩ := h
  refine Vc.loopJ (σ := Int) [3] [2, 4, 5, 6, 7, 8, 9, 10, 11, 12, 13, 14, 15, 16, 17, 18, 19, 20, 21, 22, 23, 24, 25, 26, 27, 28, 29, 30, 31, 32, 33, 34, 35, 36, 37, 38, 39, 40, 41, 42, 43, 44, 45, 46, 47] (fun s => [(3, (Value.int .i64 s))]) (fun s w => vI s w) (fun s w => mu s w) 0 h (fun _ => rfl) (by kernel_rfl) ?_
  intro i vw j h
  have h := hr i vw h
  refine Vc.seq ?_
  refine Vc.seq ?_
  refine Vc.region ?_
  refine vcL_purs 4 [(9, (Value.bool (decide (i < (vs.size : Int))))), (8, (Value.int .i64 (vs.size : Int))), (7, (Value.string vs)), (6, (Value.int .i64 i))] (by kernel_rfl) ?_
  refine vcL_nil ?_
  refine Vc.cond (decide (i < (vs.size : Int))) (by kernel_rfl) (fun hb => ?_) (fun hb => ?_)
  · have h := h.1 (of_decide_eq_true hb)
    refine Vc.skip ?_
    refine Vc.seq ?_
    refine Vc.block ?_
    refine Vc.seq ?_
    refine Vc.region ?_
    refine vcL_purs 2 [(13, (Value.int .i64 i)), (12, (Value.string vs))] (by kernel_rfl) ?_
    obtain ⟨hi, h⟩ := h
    refine vcL_pure rfl rfl (Value.int .u8 (bAt vs i)) (fun w => by exact exec_indexStr (s := vs) (k := .i64) rfl (by kernel_rfl) (by kernel_rfl) (by kernel_rfl) (hi).1 (hi).2 w) ?_
    refine vcL_pure rfl rfl (Value.bool (decide (97 ≤ (bAt vs i)))) (fun w => by kernel_rfl) ?_
    obtain ⟨b, hb⟩ : ∃ y, y = (decide (97 ≤ (bAt vs i))) := ⟨_, rfl⟩
    have h := h b hb
    refine vcL_pure rfl rfl (Value.bool b) (fun w => by rw [hb]; kernel_rfl) ?_
    refine vcL_guardP b (wanted_g (d := 16) rfl (by kernel_rfl) b (by kernel_rfl) b (eqT b)) rfl (Value.string vs) (fun hg w => by subst hg; kernel_rfl) ?_
    refine vcL_guardP b (wanted_g (d := 16) rfl (by kernel_rfl) b (by kernel_rfl) b (eqT b)) rfl (Value.int .i64 i) (fun hg w => by subst hg; kernel_rfl) ?_
    obtain ⟨hi1, h⟩ := h
    refine vcL_guardP b (wanted_g (d := 16) rfl (by kernel_rfl) b (by kernel_rfl) b (eqT b)) rfl (Value.int .u8 (bAt vs i)) (fun hg w => by subst hg; exact exec_indexStr (s := vs) (k := .i64) rfl (by kernel_rfl) (by kernel_rfl) (by kernel_rfl) (hi1 rfl).1 (hi1 rfl).2 w) ?_
    refine vcL_guardP b (wanted_g (d := 16) rfl (by kernel_rfl) b (by kernel_rfl) b (eqT b)) rfl (Value.bool (decide ((bAt vs i) ≤ 122))) (fun hg w => by subst hg; kernel_rfl) ?_
    refine vcL_pure rfl rfl (Value.bool (b && (decide ((bAt vs i) ≤ 122)))) (fun w => by cases b <;> kernel_rfl) ?_
    refine vcL_pure rfl rfl (Value.bool (b && (decide ((bAt vs i) ≤ 122)))) (fun w => by kernel_rfl) ?_
    refine vcL_nil ?_
    refine Vc.seq ?_
    refine Vc.region ?_
    refine vcL_purs 2 [(23, (Value.int .i64 i)), (22, (Value.string vs))] (by kernel_rfl) ?_
    obtain ⟨hi2, h⟩ := h
    refine vcL_pure rfl rfl (Value.int .u8 (bAt vs i)) (fun w => by exact exec_indexStr (s := vs) (k := .i64) rfl (by kernel_rfl) (by kernel_rfl) (by kernel_rfl) (hi2).1 (hi2).2 w) ?_
    refine vcL_pure rfl rfl (Value.bool (decide (48 ≤ (bAt vs i)))) (fun w => by kernel_rfl) ?_
    obtain ⟨b3, hb3⟩ : ∃ y, y = (decide (48 ≤ (bAt vs i))) := ⟨_, rfl⟩
    have h := h b3 hb3
    refine vcL_pure rfl rfl (Value.bool b3) (fun w => by rw [hb3]; kernel_rfl) ?_
    refine vcL_guardP b3 (wanted_g (d := 26) rfl (by kernel_rfl) b3 (by kernel_rfl) b3 (eqT b3)) rfl (Value.string vs) (fun hg w => by subst hg; kernel_rfl) ?_
    refine vcL_guardP b3 (wanted_g (d := 26) rfl (by kernel_rfl) b3 (by kernel_rfl) b3 (eqT b3)) rfl (Value.int .i64 i) (fun hg w => by subst hg; kernel_rfl) ?_
    obtain ⟨hi4, h⟩ := h
    refine vcL_guardP b3 (wanted_g (d := 26) rfl (by kernel_rfl) b3 (by kernel_rfl) b3 (eqT b3)) rfl (Value.int .u8 (bAt vs i)) (fun hg w => by subst hg; exact exec_indexStr (s := vs) (k := .i64) rfl (by kernel_rfl) (by kernel_rfl) (by kernel_rfl) (hi4 rfl).1 (hi4 rfl).2 w) ?_
    refine vcL_guardP b3 (wanted_g (d := 26) rfl (by kernel_rfl) b3 (by kernel_rfl) b3 (eqT b3)) rfl (Value.bool (decide ((bAt vs i) ≤ 57))) (fun hg w => by subst hg; kernel_rfl) ?_
    refine vcL_pure rfl rfl (Value.bool (b3 && (decide ((bAt vs i) ≤ 57)))) (fun w => by cases b3 <;> kernel_rfl) ?_
    obtain ⟨b5, hb5⟩ : ∃ y, y = (b3 && (decide ((bAt vs i) ≤ 57))) := ⟨_, rfl⟩
    have h := h b5 hb5
    refine vcL_pure rfl rfl (Value.bool b5) (fun w => by rw [hb5]; kernel_rfl) ?_
    refine vcL_guardP (!b5) (wanted_g (d := 32) rfl (by kernel_rfl) b5 (by kernel_rfl) (!b5) (eqF b5)) rfl (Value.string vs) (fun hg w => by simp only [Bool.and_eq_true, Bool.not_eq_true'] at hg; obtain rfl := hg; kernel_rfl) ?_
    refine vcL_guardP (!b5) (wanted_g (d := 32) rfl (by kernel_rfl) b5 (by kernel_rfl) (!b5) (eqF b5)) rfl (Value.int .i64 i) (fun hg w => by simp only [Bool.and_eq_true, Bool.not_eq_true'] at hg; obtain rfl := hg; kernel_rfl) ?_
    obtain ⟨hi6, h⟩ := h
    refine vcL_guardP (!b5) (wanted_g (d := 32) rfl (by kernel_rfl) b5 (by kernel_rfl) (!b5) (eqF b5)) rfl (Value.int .u8 (bAt vs i)) (fun hg w => by simp only [Bool.and_eq_true, Bool.not_eq_true'] at hg; obtain rfl := hg; exact exec_indexStr (s := vs) (k := .i64) rfl (by kernel_rfl) (by kernel_rfl) (by kernel_rfl) (hi6 rfl).1 (hi6 rfl).2 w) ?_
    refine vcL_guardP (!b5) (wanted_g (d := 32) rfl (by kernel_rfl) b5 (by kernel_rfl) (!b5) (eqF b5)) rfl (Value.bool ((bAt vs i) == 45)) (fun hg w => by simp only [Bool.and_eq_true, Bool.not_eq_true'] at hg; obtain rfl := hg; kernel_rfl) ?_
    refine vcL_pure rfl rfl (Value.bool (b5 || ((bAt vs i) == 45))) (fun w => by cases b5 <;> kernel_rfl) ?_
    refine vcL_pure rfl rfl (Value.bool (b5 || ((bAt vs i) == 45))) (fun w => by kernel_rfl) ?_
    refine vcL_nil ?_
    refine Vc.seq ?_
    refine Vc.region ?_
    refine vcL_purs 2 [(39, (Value.bool (!(b && (decide ((bAt vs i) ≤ 122)))))), (38, (Value.bool (b && (decide ((bAt vs i) ≤ 122)))))] (by kernel_rfl) ?_
    obtain ⟨b7, hb7⟩ : ∃ y, y = (!(b && (decide ((bAt vs i) ≤ 122)))) := ⟨_, rfl⟩
    have h := h b7 hb7
    refine vcL_pure rfl rfl (Value.bool b7) (fun w => by rw [hb7]; kernel_rfl) ?_
    refine vcL_guardP b7 (wanted_g (d := 40) rfl (by kernel_rfl) b7 (by kernel_rfl) b7 (eqT b7)) rfl (Value.int .i64 i) (fun hg w => by subst hg; kernel_rfl) ?_
    refine vcL_guardP b7 (wanted_g (d := 40) rfl (by kernel_rfl) b7 (by kernel_rfl) b7 (eqT b7)) rfl (Value.bool (i == 0)) (fun hg w => by subst hg; kernel_rfl) ?_
    obtain ⟨b8, hb8⟩ : ∃ y, y = (i == 0) := ⟨_, rfl⟩
    have h := h b8 hb8
    refine vcL_guardP b7 (wanted_g (d := 40) rfl (by kernel_rfl) b7 (by kernel_rfl) b7 (eqT b7)) rfl (Value.bool b8) (fun hg w => by subst hg; rw [hb8]; kernel_rfl) ?_
    refine vcL_guardP (b7 && (!b8)) (wanted_gg (d := 43) rfl (by kernel_rfl) b7 b8 (by kernel_rfl) (b7 && (!b8)) (eqFF b7 b8)) rfl (Value.bool (b5 || ((bAt vs i) == 45))) (fun hg w => by simp only [Bool.and_eq_true, Bool.not_eq_true'] at hg; obtain ⟨rfl, rfl⟩ := hg; kernel_rfl) ?_
    refine vcL_guardP (b7 && (!b8)) (wanted_gg (d := 43) rfl (by kernel_rfl) b7 b8 (by kernel_rfl) (b7 && (!b8)) (eqFF b7 b8)) rfl (Value.bool (!(b5 || ((bAt vs i) == 45)))) (fun hg w => by simp only [Bool.and_eq_true, Bool.not_eq_true'] at hg; obtain ⟨rfl, rfl⟩ := hg; kernel_rfl) ?_
    refine vcL_guardP b7 (wanted_g (d := 40) rfl (by kernel_rfl) b7 (by kernel_rfl) b7 (eqT b7)) rfl (Value.bool (b8 || (!(b5 || ((bAt vs i) == 45))))) (fun hg w => by subst hg; cases b8 <;> kernel_rfl) ?_
    refine vcL_pure rfl rfl (Value.bool (b7 && (b8 || (!(b5 || ((bAt vs i) == 45)))))) (fun w => by cases b7 <;> kernel_rfl) ?_
    refine vcL_nil ?_
    refine Vc.cond (b7 && (b8 || (!(b5 || ((bAt vs i) == 45))))) (by kernel_rfl) (fun hb => ?_) (fun hb => ?_)
    · have h := h.1 (hb)
      refine Vc.seq ?_
      refine Vc.region ?_
      refine vcL_pure rfl rfl (Value.bool false) (fun w => by kernel_rfl) ?_
      refine vcL_nil ?_
      refine Vc.ret ?_
      refine outOf_ret ?_
      refine outOf_ret ?_
      refine outs_ret ?_
      refine done_mk (Value.bool false) (res1 (resC_tmp (by kernel_rfl))) ?_
      exact ⟨false, rfl, h⟩
    · have h := h.2 (hb)
      refine Vc.skip ?_
      refine Vc.region ?_
      refine vcL_purs 3 [(3, (Value.int .i64 (wrapI (i + 1)))), (11, (Value.int .i64 (wrapI (i + 1)))), (10, (Value.int .i64 i))] (by kernel_rfl) ?_
      refine vcL_nil ?_
      exact ⟨(wrapI (i + 1)), 91, ⟨rfl, by kernel_rfl, by kernel_rfl, by kernel_rfl⟩, h⟩
  · have h := h.2 (of_decide_eq_false hb)
    refine Vc.exit ?_
    refine outOf_hit ?_
    refine Vc.seq ?_
    refine Vc.region ?_
    refine vcL_purs 2 [(49, (Value.bool (!bEq vs (ByteArray.mk #[])))), (48, (Value.string vs))] (by kernel_rfl) ?_
    obtain ⟨b9, hb9⟩ : ∃ y, y = (!bEq vs (ByteArray.mk #[])) := ⟨_, rfl⟩
    have h := h b9 hb9
    refine vcL_pure rfl rfl (Value.bool b9) (fun w => by rw [hb9]; kernel_rfl) ?_
    refine vcL_guardP b9 (wanted_g (d := 50) rfl (by kernel_rfl) b9 (by kernel_rfl) b9 (eqT b9)) rfl (Value.string vs) (fun hg w => by subst hg; kernel_rfl) ?_
    refine vcL_guardP b9 (wanted_g (d := 50) rfl (by kernel_rfl) b9 (by kernel_rfl) b9 (eqT b9)) rfl (Value.int .i64 (vs.size : Int)) (fun hg w => by subst hg; kernel_rfl) ?_
    refine vcL_guardP b9 (wanted_g (d := 50) rfl (by kernel_rfl) b9 (by kernel_rfl) b9 (eqT b9)) rfl (Value.bool (decide ((vs.size : Int) ≤ 16))) (fun hg w => by subst hg; kernel_rfl) ?_
    refine vcL_pure rfl rfl (Value.bool (b9 && (decide ((vs.size : Int) ≤ 16)))) (fun w => by cases b9 <;> kernel_rfl) ?_
    refine vcL_pure rfl rfl (Value.bool (b9 && (decide ((vs.size : Int) ≤ 16)))) (fun w => by kernel_rfl) ?_
    refine vcL_nil ?_
    refine Vc.ret ?_
    refine outs_ret ?_
    refine done_mk (Value.bool (b9 && (decide ((vs.size : Int) ≤ 16)))) (res1 (resC_tmp (by kernel_rfl))) ?_
    exact ⟨(b9 && (decide ((vs.size : Int) ≤ 16))), rfl, h⟩
theorem halyardref04_Name.go {vs : ByteArray} {w : World} {k : Value → World → Prop} (h : halyardref04_Name vs w fun r0 w' => k (Value.bool r0) w') : callS Tryz.prog 83 [(Value.string vs)] w k := (halyardref04_Name.sound vs w _ h).mono (by rintro _ _ ⟨r0, rfl, h⟩; exact h)

/-- halyard/halyardref05.List -/
def halyardref05_List (l : Sl) (w : World) (R : Bool → World → Prop) : Prop :=
  loop1 0 w fun i vw nxt => ((i < (l.len : Int) → bnd vw.drew fun (vw1 : World) => ∃ (ad : Addr), (l.a = some ad ∧ (0 : Int) ≤ i ∧ i < (l.len : Int)) ∧ ∃ (t14 : ByteArray), (ldc vw1 (ad.add (i.toNat * 2)) [(Value.string t14)]) ∧ callS Tryz.prog 83 [(Value.string t14)] vw1 fun v vw2 => ∃ (t15 : Bool), v = (Value.bool t15) ∧ bnd (!t15) fun (b : Bool) => ∃ (ad3 : Addr), grd (!b) (l.a = some ad3 ∧ (0 : Int) ≤ i ∧ i < (l.len : Int)) ∧ ∃ (t22 : Sl), grd (!b) (ldc vw2 ((ad3.add (i.toNat * 2)).add 1) [(Sl.v t22)]) ∧ gCall (!b) (fun (t23 : Bool) (vw6 : World) => bnd (b || (!t23)) fun (b9 : Bool) => ∃ (ad10 : Addr), grd (!b9) (l.a = some ad10 ∧ (0 : Int) ≤ i ∧ i < (l.len : Int)) ∧ ∃ (t31 : Sl), grd (!b9) (ldc vw6 ((ad10.add (i.toNat * 2)).add 1) [(Sl.v t31)]) ∧ bnd (b9 || ((t31.len : Int) == 0)) fun (b13 : Bool) => bnd (decide (0 < i)) fun (b14 : Bool) => ∃ (ad15 : Addr), grd ((!b13) && b14) (l.a = some ad15 ∧ (0 : Int) ≤ (wrapI (i - 1)) ∧ (wrapI (i - 1)) < (l.len : Int)) ∧ ∃ (t44 : ByteArray), grd ((!b13) && b14) (ldc vw6 (ad15.add ((wrapI (i - 1)).toNat * 2)) [(Value.string t44)]) ∧ ∃ (ad18 : Addr), grd ((!b13) && b14) (l.a = some ad18 ∧ (0 : Int) ≤ i ∧ i < (l.len : Int)) ∧ ∃ (t49 : ByteArray), grd ((!b13) && b14) (ldc vw6 (ad18.add (i.toNat * 2)) [(Value.string t49)]) ∧ gCall ((!b13) && b14) (fun (t50 : Bool) (vw21 : World) => (((b13 || (b14 && (!t50))) = true → R false vw21) ∧ ((b13 || (b14 && (!t50))) = false → nxt (wrapI (i + 1)) vw21))) (fun q => callS Tryz.prog 59 [(Value.string t44), (Value.string t49)] vw6 fun v22 vw21 => ∃ (t50 : Bool), v22 = (Value.bool t50) ∧ q t50 vw21) (fun q => q false vw6)) (fun q => callS Tryz.prog 79 [(Sl.v t22)] vw2 fun v7 vw6 => ∃ (t23 : Bool), v7 = (Value.bool t23) ∧ q t23 vw6) (fun q => q false vw2)) ∧ (¬ (i < (l.len : Int)) → R (decide ((l.len : Int) ≤ 16)) vw))
set_option maxHeartbeats 8000000 in
theorem halyardref05_List.sound (l : Sl) (w : World) (R : Bool → World → Prop) (h : halyardref05_List l w R) : callS Tryz.prog 84 [(Sl.v l)] w (fun v w' => ∃ (r0 : Bool), v = (Value.bool r0) ∧ R r0 w') := by
  unfold halyardref05_List at h
  refine calls_of_vc 57 rfl Tryz.func84 rfl (by kernel_rfl) (by simp) ?_
  refine Vc.seq ?_
  refine Vc.region ?_
  refine vcL_pure rfl rfl (Value.bool false) (fun w => by kernel_rfl) ?_
  refine vcL_nil ?_
  refine Vc.seq ?_
  refine Vc.seq ?_
  refine Vc.region ?_
  refine vcL_pure rfl rfl (Value.int .i64 0) (fun w => by kernel_rfl) ?_
  refine vcL_nil ?_
  refine Vc.block ?_
  obtain ⟨vI, mu, h, hr⟩ := h
  refine Vc.loopJ (σ := Int) [3] [2, 4, 5, 6, 7, 8, 9, 10, 11, 12, 13, 14, 15, 16, 17, 18, 19, 20, 21, 22, 23, 24, 25, 26, 27, 28, 29, 30, 31, 32, 33, 34, 35, 36, 37, 38, 39, 40, 41, 42, 43, 44, 45, 46, 47, 48, 49, 50, 51, 52, 53] (fun s => [(3, (Value.int .i64 s))]) (fun s w => vI s w) (fun s w => mu s w) 0 h (fun _ => rfl) (by kernel_rfl) ?_
  intro i vw j h
  have h := hr i vw h
  refine Vc.seq ?_
  refine Vc.seq ?_
  refine Vc.region ?_
  refine vcL_purs 4 [(7, (Value.bool (decide (i < (l.len : Int))))), (6, (Value.int .i64 (l.len : Int))), (5, (Sl.v l)), (4, (Value.int .i64 i))] (by kernel_rfl) ?_
  refine vcL_nil ?_
  refine Vc.cond (decide (i < (l.len : Int))) (by kernel_rfl) (fun hb => ?_) (fun hb => ?_)
  · have h := h.1 (of_decide_eq_true hb)
    refine Vc.skip ?_
    refine Vc.seq ?_
    refine Vc.block ?_
    refine Vc.seq ?_
    obtain ⟨vw1, hvw1⟩ : ∃ y, y = vw.drew := ⟨_, rfl⟩
    have h := h vw1 hvw1
    refine Vc.draw (by kernel_rfl) (fun i => !(memN [5, 13, 40] i)) (.pur 0 (.pur 1 (.pur 2 (.pur 3 (.val 4 (.eff 5 (.pur 6 (.pur 7 (.pur 8 (.pur 9 (.pur 10 (.pur 11 (.val 12 (.eff 13 (.pur 14 (.pur 15 (.pur 16 (.pur 17 (.pur 18 (.pur 19 (.pur 20 (.val 21 (.pur 22 (.pur 23 (.pur 24 (.pur 25 (.pur 26 (.pur 27 (.pur 28 (.pur 29 (.pur 30 (.pur 31 (.pur 32 (.pur 33 (.val 34 (.pur 35 (.pur 36 (.pur 37 (.pur 38 (.val 39 (.eff 40 (.pur 41 (.pur 42 (.pur 43 .fin))) .stop))))))))))))))))))))))))))) .stop)))))))) .stop)))))) (by kernel_rfl) ?_
    rw [← hvw1]
    clear hvw1
    refine vcS_pure rfl rfl rfl (Sl.v l) (fun w => by kernel_rfl) ?_
    refine vcS_pure rfl rfl rfl (Value.int .i64 i) (fun w => by kernel_rfl) ?_
    obtain ⟨ad, hi, h⟩ := h
    refine vcS_pure rfl rfl rfl (Value.pointer (some (ad.add (i.toNat * 2)))) (fun w => by exact exec_indexAt (s := l) (el := 81) rfl (by kernel_rfl) (by kernel_rfl) (by kernel_rfl) (fun w => by kernel_rfl) (hi).1 (hi).2.1 (hi).2.2 w) ?_
    refine vcS_pure rfl rfl rfl (Value.pointer (some (ad.add (i.toNat * 2)))) (fun w => by kernel_rfl) ?_
    obtain ⟨t14, hc, h⟩ := h
    refine vcS_val rfl rfl rfl (Value.string t14) (fun w' hx => exec_load rfl (by kernel_rfl) (run_load1 (fun w => by kernel_rfl) ((hc).ext hx))) ?_
    refine vcS_eff rfl rfl (opVC_call rfl (by kernel_rfl) (callS.mono h fun v vw2 h => ?_)) vcS_stop
    obtain ⟨t15, rfl, h⟩ := h
    refine ⟨fun hb => absurd hb (by decide), ?_⟩
    refine vcS_pure rfl rfl rfl (Value.bool (!t15)) (fun w => by kernel_rfl) ?_
    obtain ⟨b, hb⟩ : ∃ y, y = (!t15) := ⟨_, rfl⟩
    have h := h b hb
    refine vcS_pure rfl rfl rfl (Value.bool b) (fun w => by rw [hb]; kernel_rfl) ?_
    refine vcS_guard rfl (!b) (wanted_g (d := 17) rfl (by kernel_rfl) b (by kernel_rfl) (!b) (eqF b)) rfl (Sl.v l) (fun hg w => by simp only [Bool.and_eq_true, Bool.not_eq_true'] at hg; obtain rfl := hg; kernel_rfl) ?_
    refine vcS_guard rfl (!b) (wanted_g (d := 17) rfl (by kernel_rfl) b (by kernel_rfl) (!b) (eqF b)) rfl (Value.int .i64 i) (fun hg w => by simp only [Bool.and_eq_true, Bool.not_eq_true'] at hg; obtain rfl := hg; kernel_rfl) ?_
    obtain ⟨ad3, hi4, h⟩ := h
    refine vcS_guard rfl (!b) (wanted_g (d := 17) rfl (by kernel_rfl) b (by kernel_rfl) (!b) (eqF b)) rfl (Value.pointer (some (ad3.add (i.toNat * 2)))) (fun hg w => by simp only [Bool.and_eq_true, Bool.not_eq_true'] at hg; obtain rfl := hg; exact exec_indexAt (s := l) (el := 81) rfl (by kernel_rfl) (by kernel_rfl) (by kernel_rfl) (fun w => by kernel_rfl) (hi4 rfl).1 (hi4 rfl).2.1 (hi4 rfl).2.2 w) ?_
    refine vcS_guard rfl (!b) (wanted_g (d := 17) rfl (by kernel_rfl) b (by kernel_rfl) (!b) (eqF b)) rfl (Value.pointer (some ((ad3.add (i.toNat * 2)).add 1))) (fun hg w => by simp only [Bool.and_eq_true, Bool.not_eq_true'] at hg; obtain rfl := hg; kernel_rfl) ?_
    obtain ⟨t22, hc5, h⟩ := h
    refine vcS_valG rfl (!b) (wanted_g (d := 17) rfl (by kernel_rfl) b (by kernel_rfl) (!b) (eqF b)) rfl (Sl.v t22) (fun hg w' hx => by simp only [Bool.and_eq_true, Bool.not_eq_true'] at hg; obtain rfl := hg; exact exec_load rfl (by kernel_rfl) (run_load1 (fun w => by kernel_rfl) ((hc5 rfl).ext hx))) ?_
    obtain ⟨vJ, hJ, h⟩ := gCall_elim h
    refine vcS_effJ (σ := Bool) rfl (!b) (wanted_g (d := 17) rfl (by kernel_rfl) b (by kernel_rfl) (!b) (eqF b)) rfl (fun s w => vJ s w) (fun s => (Value.bool s)) ?_ (fun hg => opVC_call rfl (by simp only [Bool.and_eq_true, Bool.not_eq_true'] at hg; obtain rfl := hg; kernel_rfl) (callS.mono (h.1 hg) fun v7 vw6 hq => ?_)) (fun hg => ⟨false, h.2 hg⟩) vcS_stop
    · intro t23 vw6 h
      subst hJ
      refine vcS_guard rfl (!b) (wanted_g (d := 17) rfl (by kernel_rfl) b (by kernel_rfl) (!b) (eqF b)) rfl (Value.bool (!t23)) (fun hg w => by simp only [Bool.and_eq_true, Bool.not_eq_true'] at hg; obtain rfl := hg; kernel_rfl) ?_
      refine vcS_pure rfl rfl rfl (Value.bool (b || (!t23))) (fun w => by cases b <;> kernel_rfl) ?_
      obtain ⟨b9, hb9⟩ : ∃ y, y = (b || (!t23)) := ⟨_, rfl⟩
      have h := h b9 hb9
      refine vcS_pure rfl rfl rfl (Value.bool b9) (fun w => by rw [hb9]; kernel_rfl) ?_
      refine vcS_guard rfl (!b9) (wanted_g (d := 26) rfl (by kernel_rfl) b9 (by kernel_rfl) (!b9) (eqF b9)) rfl (Sl.v l) (fun hg w => by simp only [Bool.and_eq_true, Bool.not_eq_true'] at hg; obtain rfl := hg; kernel_rfl) ?_
      refine vcS_guard rfl (!b9) (wanted_g (d := 26) rfl (by kernel_rfl) b9 (by kernel_rfl) (!b9) (eqF b9)) rfl (Value.int .i64 i) (fun hg w => by simp only [Bool.and_eq_true, Bool.not_eq_true'] at hg; obtain rfl := hg; kernel_rfl) ?_
      obtain ⟨ad10, hi11, h⟩ := h
      refine vcS_guard rfl (!b9) (wanted_g (d := 26) rfl (by kernel_rfl) b9 (by kernel_rfl) (!b9) (eqF b9)) rfl (Value.pointer (some (ad10.add (i.toNat * 2)))) (fun hg w => by simp only [Bool.and_eq_true, Bool.not_eq_true'] at hg; obtain rfl := hg; exact exec_indexAt (s := l) (el := 81) rfl (by kernel_rfl) (by kernel_rfl) (by kernel_rfl) (fun w => by kernel_rfl) (hi11 rfl).1 (hi11 rfl).2.1 (hi11 rfl).2.2 w) ?_
      refine vcS_guard rfl (!b9) (wanted_g (d := 26) rfl (by kernel_rfl) b9 (by kernel_rfl) (!b9) (eqF b9)) rfl (Value.pointer (some ((ad10.add (i.toNat * 2)).add 1))) (fun hg w => by simp only [Bool.and_eq_true, Bool.not_eq_true'] at hg; obtain rfl := hg; kernel_rfl) ?_
      obtain ⟨t31, hc12, h⟩ := h
      refine vcS_valG rfl (!b9) (wanted_g (d := 26) rfl (by kernel_rfl) b9 (by kernel_rfl) (!b9) (eqF b9)) rfl (Sl.v t31) (fun hg w' hx => by simp only [Bool.and_eq_true, Bool.not_eq_true'] at hg; obtain rfl := hg; exact exec_load rfl (by kernel_rfl) (run_load1 (fun w => by kernel_rfl) ((hc12 rfl).ext hx))) ?_
      refine vcS_guard rfl (!b9) (wanted_g (d := 26) rfl (by kernel_rfl) b9 (by kernel_rfl) (!b9) (eqF b9)) rfl (Value.int .i64 (t31.len : Int)) (fun hg w => by simp only [Bool.and_eq_true, Bool.not_eq_true'] at hg; obtain rfl := hg; kernel_rfl) ?_
      refine vcS_guard rfl (!b9) (wanted_g (d := 26) rfl (by kernel_rfl) b9 (by kernel_rfl) (!b9) (eqF b9)) rfl (Value.bool ((t31.len : Int) == 0)) (fun hg w => by simp only [Bool.and_eq_true, Bool.not_eq_true'] at hg; obtain rfl := hg; kernel_rfl) ?_
      refine vcS_pure rfl rfl rfl (Value.bool (b9 || ((t31.len : Int) == 0))) (fun w => by cases b9 <;> kernel_rfl) ?_
      obtain ⟨b13, hb13⟩ : ∃ y, y = (b9 || ((t31.len : Int) == 0)) := ⟨_, rfl⟩
      have h := h b13 hb13
      refine vcS_pure rfl rfl rfl (Value.bool b13) (fun w => by rw [hb13]; kernel_rfl) ?_
      refine vcS_guard rfl (!b13) (wanted_g (d := 35) rfl (by kernel_rfl) b13 (by kernel_rfl) (!b13) (eqF b13)) rfl (Value.int .i64 i) (fun hg w => by simp only [Bool.and_eq_true, Bool.not_eq_true'] at hg; obtain rfl := hg; kernel_rfl) ?_
      refine vcS_guard rfl (!b13) (wanted_g (d := 35) rfl (by kernel_rfl) b13 (by kernel_rfl) (!b13) (eqF b13)) rfl (Value.bool (decide (0 < i))) (fun hg w => by simp only [Bool.and_eq_true, Bool.not_eq_true'] at hg; obtain rfl := hg; kernel_rfl) ?_
      obtain ⟨b14, hb14⟩ : ∃ y, y = (decide (0 < i)) := ⟨_, rfl⟩
      have h := h b14 hb14
      refine vcS_guard rfl (!b13) (wanted_g (d := 35) rfl (by kernel_rfl) b13 (by kernel_rfl) (!b13) (eqF b13)) rfl (Value.bool b14) (fun hg w => by simp only [Bool.and_eq_true, Bool.not_eq_true'] at hg; obtain rfl := hg; rw [hb14]; kernel_rfl) ?_
      refine vcS_guard rfl ((!b13) && b14) (wanted_gg (d := 38) rfl (by kernel_rfl) (!b13) b14 (by kernel_rfl) ((!b13) && b14) (eqTT (!b13) b14)) rfl (Sl.v l) (fun hg w => by simp only [Bool.and_eq_true, Bool.not_eq_true'] at hg; obtain ⟨rfl, rfl⟩ := hg; kernel_rfl) ?_
      refine vcS_guard rfl ((!b13) && b14) (wanted_gg (d := 38) rfl (by kernel_rfl) (!b13) b14 (by kernel_rfl) ((!b13) && b14) (eqTT (!b13) b14)) rfl (Value.int .i64 i) (fun hg w => by simp only [Bool.and_eq_true, Bool.not_eq_true'] at hg; obtain ⟨rfl, rfl⟩ := hg; kernel_rfl) ?_
      refine vcS_guard rfl ((!b13) && b14) (wanted_gg (d := 38) rfl (by kernel_rfl) (!b13) b14 (by kernel_rfl) ((!b13) && b14) (eqTT (!b13) b14)) rfl (Value.int .i64 (wrapI (i - 1))) (fun hg w => by simp only [Bool.and_eq_true, Bool.not_eq_true'] at hg; obtain ⟨rfl, rfl⟩ := hg; kernel_rfl) ?_
      obtain ⟨ad15, hi16, h⟩ := h
      refine vcS_guard rfl ((!b13) && b14) (wanted_gg (d := 38) rfl (by kernel_rfl) (!b13) b14 (by kernel_rfl) ((!b13) && b14) (eqTT (!b13) b14)) rfl (Value.pointer (some (ad15.add ((wrapI (i - 1)).toNat * 2)))) (fun hg w => by simp only [Bool.and_eq_true, Bool.not_eq_true'] at hg; obtain ⟨rfl, rfl⟩ := hg; exact exec_indexAt (s := l) (el := 81) rfl (by kernel_rfl) (by kernel_rfl) (by kernel_rfl) (fun w => by kernel_rfl) (hi16 rfl).1 (hi16 rfl).2.1 (hi16 rfl).2.2 w) ?_
      refine vcS_guard rfl ((!b13) && b14) (wanted_gg (d := 38) rfl (by kernel_rfl) (!b13) b14 (by kernel_rfl) ((!b13) && b14) (eqTT (!b13) b14)) rfl (Value.pointer (some (ad15.add ((wrapI (i - 1)).toNat * 2)))) (fun hg w => by simp only [Bool.and_eq_true, Bool.not_eq_true'] at hg; obtain ⟨rfl, rfl⟩ := hg; kernel_rfl) ?_
      obtain ⟨t44, hc17, h⟩ := h
      refine vcS_valG rfl ((!b13) && b14) (wanted_gg (d := 38) rfl (by kernel_rfl) (!b13) b14 (by kernel_rfl) ((!b13) && b14) (eqTT (!b13) b14)) rfl (Value.string t44) (fun hg w' hx => by simp only [Bool.and_eq_true, Bool.not_eq_true'] at hg; obtain ⟨rfl, rfl⟩ := hg; exact exec_load rfl (by kernel_rfl) (run_load1 (fun w => by kernel_rfl) ((hc17 rfl).ext hx))) ?_
      refine vcS_guard rfl ((!b13) && b14) (wanted_gg (d := 38) rfl (by kernel_rfl) (!b13) b14 (by kernel_rfl) ((!b13) && b14) (eqTT (!b13) b14)) rfl (Sl.v l) (fun hg w => by simp only [Bool.and_eq_true, Bool.not_eq_true'] at hg; obtain ⟨rfl, rfl⟩ := hg; kernel_rfl) ?_
      refine vcS_guard rfl ((!b13) && b14) (wanted_gg (d := 38) rfl (by kernel_rfl) (!b13) b14 (by kernel_rfl) ((!b13) && b14) (eqTT (!b13) b14)) rfl (Value.int .i64 i) (fun hg w => by simp only [Bool.and_eq_true, Bool.not_eq_true'] at hg; obtain ⟨rfl, rfl⟩ := hg; kernel_rfl) ?_
      obtain ⟨ad18, hi19, h⟩ := h
      refine vcS_guard rfl ((!b13) && b14) (wanted_gg (d := 38) rfl (by kernel_rfl) (!b13) b14 (by kernel_rfl) ((!b13) && b14) (eqTT (!b13) b14)) rfl (Value.pointer (some (ad18.add (i.toNat * 2)))) (fun hg w => by simp only [Bool.and_eq_true, Bool.not_eq_true'] at hg; obtain ⟨rfl, rfl⟩ := hg; exact exec_indexAt (s := l) (el := 81) rfl (by kernel_rfl) (by kernel_rfl) (by kernel_rfl) (fun w => by kernel_rfl) (hi19 rfl).1 (hi19 rfl).2.1 (hi19 rfl).2.2 w) ?_
      refine vcS_guard rfl ((!b13) && b14) (wanted_gg (d := 38) rfl (by kernel_rfl) (!b13) b14 (by kernel_rfl) ((!b13) && b14) (eqTT (!b13) b14)) rfl (Value.pointer (some (ad18.add (i.toNat * 2)))) (fun hg w => by simp only [Bool.and_eq_true, Bool.not_eq_true'] at hg; obtain ⟨rfl, rfl⟩ := hg; kernel_rfl) ?_
      obtain ⟨t49, hc20, h⟩ := h
      refine vcS_valG rfl ((!b13) && b14) (wanted_gg (d := 38) rfl (by kernel_rfl) (!b13) b14 (by kernel_rfl) ((!b13) && b14) (eqTT (!b13) b14)) rfl (Value.string t49) (fun hg w' hx => by simp only [Bool.and_eq_true, Bool.not_eq_true'] at hg; obtain ⟨rfl, rfl⟩ := hg; exact exec_load rfl (by kernel_rfl) (run_load1 (fun w => by kernel_rfl) ((hc20 rfl).ext hx))) ?_
      obtain ⟨vJ24, hJ25, h⟩ := gCall_elim h
      refine vcS_effJ (σ := Bool) rfl ((!b13) && b14) (wanted_gg (d := 38) rfl (by kernel_rfl) (!b13) b14 (by kernel_rfl) ((!b13) && b14) (eqTT (!b13) b14)) rfl (fun s w => vJ24 s w) (fun s => (Value.bool s)) ?_ (fun hg => opVC_call rfl (by simp only [Bool.and_eq_true, Bool.not_eq_true'] at hg; obtain ⟨rfl, rfl⟩ := hg; kernel_rfl) (callS.mono (h.1 hg) fun v22 vw21 hq => ?_)) (fun hg => ⟨false, h.2 hg⟩) vcS_stop
      · intro t50 vw21 h
        subst hJ25
        refine vcS_guard rfl ((!b13) && b14) (wanted_gg (d := 38) rfl (by kernel_rfl) (!b13) b14 (by kernel_rfl) ((!b13) && b14) (eqTT (!b13) b14)) rfl (Value.bool (!t50)) (fun hg w => by simp only [Bool.and_eq_true, Bool.not_eq_true'] at hg; obtain ⟨rfl, rfl⟩ := hg; kernel_rfl) ?_
        refine vcS_guard rfl (!b13) (wanted_g (d := 35) rfl (by kernel_rfl) b13 (by kernel_rfl) (!b13) (eqF b13)) rfl (Value.bool (b14 && (!t50))) (fun hg w => by simp only [Bool.and_eq_true, Bool.not_eq_true'] at hg; obtain rfl := hg; cases b14 <;> kernel_rfl) ?_
        refine vcS_pure rfl rfl rfl (Value.bool (b13 || (b14 && (!t50)))) (fun w => by cases b13 <;> kernel_rfl) ?_
        refine vcS_fin ?_
        refine Vc.cond (b13 || (b14 && (!t50))) (by kernel_rfl) (fun hb => ?_) (fun hb => ?_)
        · have h := h.1 (hb)
          refine Vc.seq ?_
          refine Vc.region ?_
          refine vcL_pure rfl rfl (Value.bool false) (fun w => by kernel_rfl) ?_
          refine vcL_nil ?_
          refine Vc.ret ?_
          refine outOf_ret ?_
          refine outOf_ret ?_
          refine outs_ret ?_
          refine done_mk (Value.bool false) (res1 (resC_tmp (by kernel_rfl))) ?_
          exact ⟨false, rfl, h⟩
        · have h := h.2 (hb)
          refine Vc.skip ?_
          refine Vc.region ?_
          refine vcL_purs 3 [(3, (Value.int .i64 (wrapI (i + 1)))), (9, (Value.int .i64 (wrapI (i + 1)))), (8, (Value.int .i64 i))] (by kernel_rfl) ?_
          refine vcL_nil ?_
          exact ⟨(wrapI (i + 1)), 103, ⟨rfl, by kernel_rfl, by kernel_rfl, by kernel_rfl⟩, h⟩
      · obtain ⟨t50, rfl, hq⟩ := hq
        exact ⟨fun hb => absurd hb (by decide), t50, rfl, hq⟩
    · obtain ⟨t23, rfl, hq⟩ := hq
      exact ⟨fun hb => absurd hb (by decide), t23, rfl, hq⟩
  · have h := h.2 (of_decide_eq_false hb)
    refine Vc.exit ?_
    refine outOf_hit ?_
    refine Vc.seq ?_
    refine Vc.region ?_
    refine vcL_purs 4 [(2, (Value.bool (decide ((l.len : Int) ≤ 16)))), (56, (Value.bool (decide ((l.len : Int) ≤ 16)))), (55, (Value.int .i64 (l.len : Int))), (54, (Sl.v l))] (by kernel_rfl) ?_
    refine vcL_nil ?_
    refine Vc.ret ?_
    refine outs_ret ?_
    refine done_mk (Value.bool (decide ((l.len : Int) ≤ 16))) (res1 (resC_tmp (by kernel_rfl))) ?_
    exact ⟨(decide ((l.len : Int) ≤ 16)), rfl, h⟩
theorem halyardref05_List.go {l : Sl} {w : World} {k : Value → World → Prop} (h : halyardref05_List l w fun r0 w' => k (Value.bool r0) w') : callS Tryz.prog 84 [(Sl.v l)] w k := (halyardref05_List.sound l w _ h).mono (by rintro _ _ ⟨r0, rfl, h⟩; exact h)

/-- halyard/halyardref05.Apart -/
def halyardref05_Apart (a : Sl) (b : Sl) (w : World) (R : Bool → World → Prop) : Prop :=
  loop1 0 w fun i vw nxt => ((i < (a.len : Int) → loop1 0 vw fun vk vw1 nxt2 => ((vk < (b.len : Int) → bnd vw1.drew fun (vw3 : World) => ∃ (ad : Addr), (a.a = some ad ∧ (0 : Int) ≤ i ∧ i < (a.len : Int)) ∧ ∃ (t23 : ByteArray), (ldc vw3 (ad.add (i.toNat * 2)) [(Value.string t23)]) ∧ ∃ (ad4 : Addr), (b.a = some ad4 ∧ (0 : Int) ≤ vk ∧ vk < (b.len : Int)) ∧ ∃ (t28 : ByteArray), (ldc vw3 (ad4.add (vk.toNat * 2)) [(Value.string t28)]) ∧ ((t23 = t28 → R false vw3) ∧ (¬ (t23 = t28) → nxt2 (wrapI (vk + 1)) vw3))) ∧ (¬ (vk < (b.len : Int)) → nxt (wrapI (i + 1)) vw1))) ∧ (¬ (i < (a.len : Int)) → R true vw))
set_option maxHeartbeats 8000000 in
theorem halyardref05_Apart.sound (a : Sl) (b : Sl) (w : World) (R : Bool → World → Prop) (h : halyardref05_Apart a b w R) : callS Tryz.prog 85 [(Sl.v a), (Sl.v b)] w (fun v w' => ∃ (r0 : Bool), v = (Value.bool r0) ∧ R r0 w') := by
  unfold halyardref05_Apart at h
  refine calls_of_vc 30 rfl Tryz.func85 rfl (by kernel_rfl) (by simp) ?_
  refine Vc.seq ?_
  refine Vc.region ?_
  refine vcL_pure rfl rfl (Value.bool false) (fun w => by kernel_rfl) ?_
  refine vcL_nil ?_
  refine Vc.seq ?_
  refine Vc.seq ?_
  refine Vc.region ?_
  refine vcL_pure rfl rfl (Value.int .i64 0) (fun w => by kernel_rfl) ?_
  refine vcL_nil ?_
  refine Vc.block ?_
  obtain ⟨vI7, mu8, h, hr9⟩ := h
  refine Vc.loopJ (σ := Int) [5] [4, 6, 7, 8, 9, 10, 11, 12, 13, 14, 15, 16, 17, 18, 19, 20, 21, 22, 23, 24, 25, 26, 27, 28, 29] (fun s => [(5, (Value.int .i64 s))]) (fun s w => vI7 s w) (fun s w => mu8 s w) 0 h (fun _ => rfl) (by kernel_rfl) ?_
  intro i vw j h
  have h := hr9 i vw h
  refine Vc.seq ?_
  refine Vc.seq ?_
  refine Vc.region ?_
  refine vcL_purs 4 [(10, (Value.bool (decide (i < (a.len : Int))))), (9, (Value.int .i64 (a.len : Int))), (8, (Sl.v a)), (7, (Value.int .i64 i))] (by kernel_rfl) ?_
  refine vcL_nil ?_
  refine Vc.cond (decide (i < (a.len : Int))) (by kernel_rfl) (fun hb => ?_) (fun hb => ?_)
  · have h := h.1 (of_decide_eq_true hb)
    refine Vc.skip ?_
    refine Vc.seq ?_
    refine Vc.block ?_
    refine Vc.seq ?_
    refine Vc.region ?_
    refine vcL_pure rfl rfl (Value.int .i64 0) (fun w => by kernel_rfl) ?_
    refine vcL_nil ?_
    refine Vc.block ?_
    obtain ⟨vI, mu, h, hr⟩ := h
    refine Vc.loopJ (σ := Int) [6] [4, 13, 14, 15, 16, 17, 18, 19, 20, 21, 22, 23, 24, 25, 26, 27, 28, 29] (fun s => [(6, (Value.int .i64 s))]) (fun s w => vI s w) (fun s w => mu s w) 0 h (fun _ => rfl) (by kernel_rfl) ?_
    intro vk vw1 j h
    have h := hr vk vw1 h
    refine Vc.seq ?_
    refine Vc.seq ?_
    refine Vc.region ?_
    refine vcL_purs 4 [(16, (Value.bool (decide (vk < (b.len : Int))))), (15, (Value.int .i64 (b.len : Int))), (14, (Sl.v b)), (13, (Value.int .i64 vk))] (by kernel_rfl) ?_
    refine vcL_nil ?_
    refine Vc.cond (decide (vk < (b.len : Int))) (by kernel_rfl) (fun hb => ?_) (fun hb => ?_)
    · have h := h.1 (of_decide_eq_true hb)
      refine Vc.skip ?_
      refine Vc.seq ?_
      refine Vc.block ?_
      refine Vc.seq ?_
      obtain ⟨vw3, hvw3⟩ : ∃ y, y = vw1.drew := ⟨_, rfl⟩
      have h := h vw3 hvw3
      refine Vc.draw (by kernel_rfl) (fun i => !(memN [] i)) (.pur 0 (.pur 1 (.pur 2 (.pur 3 (.val 4 (.pur 5 (.pur 6 (.pur 7 (.pur 8 (.val 9 (.pur 10 .fin))))))))))) (by kernel_rfl) ?_
      rw [← hvw3]
      clear hvw3
      refine vcS_pure rfl rfl rfl (Sl.v a) (fun w => by kernel_rfl) ?_
      refine vcS_pure rfl rfl rfl (Value.int .i64 i) (fun w => by kernel_rfl) ?_
      obtain ⟨ad, hi, h⟩ := h
      refine vcS_pure rfl rfl rfl (Value.pointer (some (ad.add (i.toNat * 2)))) (fun w => by exact exec_indexAt (s := a) (el := 81) rfl (by kernel_rfl) (by kernel_rfl) (by kernel_rfl) (fun w => by kernel_rfl) (hi).1 (hi).2.1 (hi).2.2 w) ?_
      refine vcS_pure rfl rfl rfl (Value.pointer (some (ad.add (i.toNat * 2)))) (fun w => by kernel_rfl) ?_
      obtain ⟨t23, hc, h⟩ := h
      refine vcS_val rfl rfl rfl (Value.string t23) (fun w' hx => exec_load rfl (by kernel_rfl) (run_load1 (fun w => by kernel_rfl) ((hc).ext hx))) ?_
      refine vcS_pure rfl rfl rfl (Sl.v b) (fun w => by kernel_rfl) ?_
      refine vcS_pure rfl rfl rfl (Value.int .i64 vk) (fun w => by kernel_rfl) ?_
      obtain ⟨ad4, hi5, h⟩ := h
      refine vcS_pure rfl rfl rfl (Value.pointer (some (ad4.add (vk.toNat * 2)))) (fun w => by exact exec_indexAt (s := b) (el := 81) rfl (by kernel_rfl) (by kernel_rfl) (by kernel_rfl) (fun w => by kernel_rfl) (hi5).1 (hi5).2.1 (hi5).2.2 w) ?_
      refine vcS_pure rfl rfl rfl (Value.pointer (some (ad4.add (vk.toNat * 2)))) (fun w => by kernel_rfl) ?_
      obtain ⟨t28, hc6, h⟩ := h
      refine vcS_val rfl rfl rfl (Value.string t28) (fun w' hx => exec_load rfl (by kernel_rfl) (run_load1 (fun w => by kernel_rfl) ((hc6).ext hx))) ?_
      refine vcS_pure rfl rfl rfl (Value.bool (bEq t23 t28)) (fun w => by kernel_rfl) ?_
      refine vcS_fin ?_
      refine Vc.cond (bEq t23 t28) (by kernel_rfl) (fun hb => ?_) (fun hb => ?_)
      · have h := h.1 (bEq_iff.1 hb)
        refine Vc.seq ?_
        refine Vc.region ?_
        refine vcL_pure rfl rfl (Value.bool false) (fun w => by kernel_rfl) ?_
        refine vcL_nil ?_
        refine Vc.ret ?_
        refine outOf_ret ?_
        refine outOf_ret ?_
        refine outOf_ret ?_
        refine outOf_ret ?_
        refine outs_ret ?_
        refine done_mk (Value.bool false) (res1 (resC_tmp (by kernel_rfl))) ?_
        exact ⟨false, rfl, h⟩
      · have h := h.2 (bEq_false.1 hb)
        refine Vc.skip ?_
        refine Vc.region ?_
        refine vcL_purs 3 [(6, (Value.int .i64 (wrapI (vk + 1)))), (18, (Value.int .i64 (wrapI (vk + 1)))), (17, (Value.int .i64 vk))] (by kernel_rfl) ?_
        refine vcL_nil ?_
        exact ⟨(wrapI (vk + 1)), 37, ⟨rfl, by kernel_rfl, by kernel_rfl, by kernel_rfl⟩, h⟩
    · have h := h.2 (of_decide_eq_false hb)
      refine Vc.exit ?_
      refine outOf_hit ?_
      refine Vc.region ?_
      refine vcL_purs 3 [(5, (Value.int .i64 (wrapI (i + 1)))), (12, (Value.int .i64 (wrapI (i + 1)))), (11, (Value.int .i64 i))] (by kernel_rfl) ?_
      refine vcL_nil ?_
      exact ⟨(wrapI (i + 1)), 57, ⟨rfl, by kernel_rfl, by kernel_rfl, by kernel_rfl⟩, h⟩
  · have h := h.2 (of_decide_eq_false hb)
    refine Vc.exit ?_
    refine outOf_hit ?_
    refine Vc.seq ?_
    refine Vc.region ?_
    refine vcL_pure rfl rfl (Value.bool true) (fun w => by kernel_rfl) ?_
    refine vcL_nil ?_
    refine Vc.ret ?_
    refine outs_ret ?_
    refine done_mk (Value.bool true) (res1 (resC_tmp (by kernel_rfl))) ?_
    exact ⟨true, rfl, h⟩
theorem halyardref05_Apart.go {a : Sl} {b : Sl} {w : World} {k : Value → World → Prop} (h : halyardref05_Apart a b w fun r0 w' => k (Value.bool r0) w') : callS Tryz.prog 85 [(Sl.v a), (Sl.v b)] w k := (halyardref05_Apart.sound a b w _ h).mono (by rintro _ _ ⟨r0, rfl, h⟩; exact h)

/-- halyard/halyardref05.text -/
def halyardref05_text (p_Name : ByteArray) (p_Version_Major : Int) (p_Version_Minor : Int) (p_Version_Patch : Int) (p_Deps : Sl) (p_Peers : Sl) (p_Optional : Sl) (w : World) (R : ByteArray → World → Prop) : Prop :=
  newS w [(Value.string p_Name), (Value.int .i64 p_Version_Major), (Value.int .i64 p_Version_Minor), (Value.int .i64 p_Version_Patch), (Sl.v p_Deps), (Sl.v p_Peers), (Sl.v p_Optional)] 48 fun a vw => bnd vw.drew fun (vw1 : World) => ∃ (t4 : ByteArray), (ldc vw1 a [(Value.string t4)]) ∧ ((((ByteArray.mk #[112, 97, 99, 107, 97, 103, 101, 32]).size + t4.size : Nat) : Int) ≤ maxI) ∧ (((((ByteArray.mk #[112, 97, 99, 107, 97, 103, 101, 32]) ++ t4).size + (ByteArray.mk #[32]).size : Nat) : Int) ≤ maxI) ∧ ∃ (t8_Major : Int) (t8_Minor : Int) (t8_Patch : Int), (ldc vw1 (a.add 1) [(Value.int .i64 t8_Major), (Value.int .i64 t8_Minor), (Value.int .i64 t8_Patch)]) ∧ ∃ (t13 : Sl), (ldc vw1 (a.add 4) [(Sl.v t13)]) ∧ ∃ (t17 : Sl), (ldc vw1 (a.add 5) [(Sl.v t17)]) ∧ ∃ (t21 : Sl), (ldc vw1 (a.add 6) [(Sl.v t21)]) ∧ callX Tryz.prog 117 [(Value.agg #[(Value.int .i64 t8_Major), (Value.int .i64 t8_Minor), (Value.int .i64 t8_Patch)])] vw1 fun v vw7 => ∃ (t9 : ByteArray), v = (Value.string t9) ∧ ((((((ByteArray.mk #[112, 97, 99, 107, 97, 103, 101, 32]) ++ t4) ++ (ByteArray.mk #[32])).size + t9.size : Nat) : Int) ≤ maxI) ∧ (((((((ByteArray.mk #[112, 97, 99, 107, 97, 103, 101, 32]) ++ t4) ++ (ByteArray.mk #[32])) ++ t9).size + (ByteArray.mk #[10]).size : Nat) : Int) ≤ maxI) ∧ callX Tryz.prog 118 [(Value.string (ByteArray.mk #[110, 101, 101, 100, 115])), (Sl.v t13)] vw7 fun v11 vw10 => ∃ (t14 : ByteArray), v11 = (Value.string t14) ∧ ((((((((ByteArray.mk #[112, 97, 99, 107, 97, 103, 101, 32]) ++ t4) ++ (ByteArray.mk #[32])) ++ t9) ++ (ByteArray.mk #[10])).size + t14.size : Nat) : Int) ≤ maxI) ∧ callX Tryz.prog 118 [(Value.string (ByteArray.mk #[98, 101, 115, 105, 100, 101])), (Sl.v t17)] vw10 fun v15 vw14 => ∃ (t18 : ByteArray), v15 = (Value.string t18) ∧ (((((((((ByteArray.mk #[112, 97, 99, 107, 97, 103, 101, 32]) ++ t4) ++ (ByteArray.mk #[32])) ++ t9) ++ (ByteArray.mk #[10])) ++ t14).size + t18.size : Nat) : Int) ≤ maxI) ∧ callX Tryz.prog 118 [(Value.string (ByteArray.mk #[108, 105, 107, 101, 115])), (Sl.v t21)] vw14 fun v19 vw18 => ∃ (t22 : ByteArray), v19 = (Value.string t22) ∧ ((((((((((ByteArray.mk #[112, 97, 99, 107, 97, 103, 101, 32]) ++ t4) ++ (ByteArray.mk #[32])) ++ t9) ++ (ByteArray.mk #[10])) ++ t14) ++ t18).size + t22.size : Nat) : Int) ≤ maxI) ∧ R ((((((((ByteArray.mk #[112, 97, 99, 107, 97, 103, 101, 32]) ++ t4) ++ (ByteArray.mk #[32])) ++ t9) ++ (ByteArray.mk #[10])) ++ t14) ++ t18) ++ t22) vw18
set_option maxHeartbeats 8000000 in
theorem halyardref05_text.sound (p_Name : ByteArray) (p_Version_Major : Int) (p_Version_Minor : Int) (p_Version_Patch : Int) (p_Deps : Sl) (p_Peers : Sl) (p_Optional : Sl) (w : World) (R : ByteArray → World → Prop) (h : halyardref05_text p_Name p_Version_Major p_Version_Minor p_Version_Patch p_Deps p_Peers p_Optional w R) : callS Tryz.prog 86 [(Value.agg #[(Value.string p_Name), (Value.int .i64 p_Version_Major), (Value.int .i64 p_Version_Minor), (Value.int .i64 p_Version_Patch), (Sl.v p_Deps), (Sl.v p_Peers), (Sl.v p_Optional)])] w (fun v w' => ∃ (r0 : ByteArray), v = (Value.string r0) ∧ R r0 w') := by
  unfold halyardref05_text at h
  refine calls_of_vc 24 rfl Tryz.func86 rfl (by kernel_rfl) (by simp) ?_
  refine Vc.seq ?_
  refine Vc.region ?_
  refine vcL_eff rfl (opVC_new rfl (fun a => Value.pointer (some a)) (by kernel_rfl) (newS.mono h fun a vw hx h => ?_)) 
  refine vcL_pure rfl rfl (Value.string (ByteArray.mk #[])) (fun w => by kernel_rfl) ?_
  refine vcL_nil ?_
  refine Vc.seq ?_
  obtain ⟨vw1, hvw1⟩ : ∃ y, y = vw.drew := ⟨_, rfl⟩
  have h := h vw1 hvw1
  refine Vc.draw (by kernel_rfl) (fun i => !(memN [] i)) (.pur 0 (.val 1 (.pur 2 (.pur 3 (.pur 4 (.val 5 (.pur 9 (.val 10 (.pur 13 (.val 14 (.pur 17 (.val 18 (.eff 6 (.pur 7 (.pur 8 (.eff 11 (.pur 12 (.eff 15 (.pur 16 (.eff 19 (.pur 20 (.pur 21 .fin)) .stop)) .stop)) .stop))) .stop))))))))))))) (by kernel_rfl) ?_
  rw [← hvw1]
  clear hvw1
  refine vcS_pure rfl rfl rfl (Value.pointer (some a)) (fun w => by kernel_rfl) ?_
  obtain ⟨t4, hc, h⟩ := h
  refine vcS_val rfl rfl rfl (Value.string t4) (fun w' hx => exec_load rfl (by kernel_rfl) (run_load1 (fun w => by kernel_rfl) ((hc).ext hx))) ?_
  obtain ⟨hi, h⟩ := h
  refine vcS_pure rfl rfl rfl (Value.string ((ByteArray.mk #[112, 97, 99, 107, 97, 103, 101, 32]) ++ t4)) (fun w => by exact exec_str_add (a := (ByteArray.mk #[112, 97, 99, 107, 97, 103, 101, 32])) (b := t4) rfl (by kernel_rfl) (by kernel_rfl) (hi) w) ?_
  obtain ⟨hi2, h⟩ := h
  refine vcS_pure rfl rfl rfl (Value.string (((ByteArray.mk #[112, 97, 99, 107, 97, 103, 101, 32]) ++ t4) ++ (ByteArray.mk #[32]))) (fun w => by exact exec_str_add (a := ((ByteArray.mk #[112, 97, 99, 107, 97, 103, 101, 32]) ++ t4)) (b := (ByteArray.mk #[32])) rfl (by kernel_rfl) (by kernel_rfl) (hi2) w) ?_
  refine vcS_pure rfl rfl rfl (Value.pointer (some (a.add 1))) (fun w => by kernel_rfl) ?_
  obtain ⟨t8_Major, t8_Minor, t8_Patch, hc3, h⟩ := h
  refine vcS_val rfl rfl rfl (Value.agg #[(Value.int .i64 t8_Major), (Value.int .i64 t8_Minor), (Value.int .i64 t8_Patch)]) (fun w' hx => exec_load rfl (by kernel_rfl) (run_loadN (fun w => by kernel_rfl) (fun w => by kernel_rfl) ((hc3).ext hx))) ?_
  refine vcS_pure rfl rfl rfl (Value.pointer (some (a.add 4))) (fun w => by kernel_rfl) ?_
  obtain ⟨t13, hc4, h⟩ := h
  refine vcS_val rfl rfl rfl (Sl.v t13) (fun w' hx => exec_load rfl (by kernel_rfl) (run_load1 (fun w => by kernel_rfl) ((hc4).ext hx))) ?_
  refine vcS_pure rfl rfl rfl (Value.pointer (some (a.add 5))) (fun w => by kernel_rfl) ?_
  obtain ⟨t17, hc5, h⟩ := h
  refine vcS_val rfl rfl rfl (Sl.v t17) (fun w' hx => exec_load rfl (by kernel_rfl) (run_load1 (fun w => by kernel_rfl) ((hc5).ext hx))) ?_
  refine vcS_pure rfl rfl rfl (Value.pointer (some (a.add 6))) (fun w => by kernel_rfl) ?_
  obtain ⟨t21, hc6, h⟩ := h
  refine vcS_val rfl rfl rfl (Sl.v t21) (fun w' hx => exec_load rfl (by kernel_rfl) (run_load1 (fun w => by kernel_rfl) ((hc6).ext hx))) ?_
  refine vcS_eff rfl rfl (opVC_call rfl (by kernel_rfl) (callS.mono h fun v vw7 h => ?_)) vcS_stop
  obtain ⟨hx, h⟩ := h
  obtain ⟨t9, rfl, h⟩ := h
  refine ⟨fun _ => hx, ?_⟩
  obtain ⟨hi8, h⟩ := h
  refine vcS_pure rfl rfl rfl (Value.string ((((ByteArray.mk #[112, 97, 99, 107, 97, 103, 101, 32]) ++ t4) ++ (ByteArray.mk #[32])) ++ t9)) (fun w => by exact exec_str_add (a := (((ByteArray.mk #[112, 97, 99, 107, 97, 103, 101, 32]) ++ t4) ++ (ByteArray.mk #[32]))) (b := t9) rfl (by kernel_rfl) (by kernel_rfl) (hi8) w) ?_
  obtain ⟨hi9, h⟩ := h
  refine vcS_pure rfl rfl rfl (Value.string (((((ByteArray.mk #[112, 97, 99, 107, 97, 103, 101, 32]) ++ t4) ++ (ByteArray.mk #[32])) ++ t9) ++ (ByteArray.mk #[10]))) (fun w => by exact exec_str_add (a := ((((ByteArray.mk #[112, 97, 99, 107, 97, 103, 101, 32]) ++ t4) ++ (ByteArray.mk #[32])) ++ t9)) (b := (ByteArray.mk #[10])) rfl (by kernel_rfl) (by kernel_rfl) (hi9) w) ?_
  refine vcS_eff rfl rfl (opVC_call rfl (by kernel_rfl) (callS.mono h fun v11 vw10 h => ?_)) vcS_stop
  obtain ⟨hx12, h⟩ := h
  obtain ⟨t14, rfl, h⟩ := h
  refine ⟨fun _ => hx12, ?_⟩
  obtain ⟨hi13, h⟩ := h
  refine vcS_pure rfl rfl rfl (Value.string ((((((ByteArray.mk #[112, 97, 99, 107, 97, 103, 101, 32]) ++ t4) ++ (ByteArray.mk #[32])) ++ t9) ++ (ByteArray.mk #[10])) ++ t14)) (fun w => by exact exec_str_add (a := (((((ByteArray.mk #[112, 97, 99, 107, 97, 103, 101, 32]) ++ t4) ++ (ByteArray.mk #[32])) ++ t9) ++ (ByteArray.mk #[10]))) (b := t14) rfl (by kernel_rfl) (by kernel_rfl) (hi13) w) ?_
  refine vcS_eff rfl rfl (opVC_call rfl (by kernel_rfl) (callS.mono h fun v15 vw14 h => ?_)) vcS_stop
  obtain ⟨hx16, h⟩ := h
  obtain ⟨t18, rfl, h⟩ := h
  refine ⟨fun _ => hx16, ?_⟩
  obtain ⟨hi17, h⟩ := h
  refine vcS_pure rfl rfl rfl (Value.string (((((((ByteArray.mk #[112, 97, 99, 107, 97, 103, 101, 32]) ++ t4) ++ (ByteArray.mk #[32])) ++ t9) ++ (ByteArray.mk #[10])) ++ t14) ++ t18)) (fun w => by exact exec_str_add (a := ((((((ByteArray.mk #[112, 97, 99, 107, 97, 103, 101, 32]) ++ t4) ++ (ByteArray.mk #[32])) ++ t9) ++ (ByteArray.mk #[10])) ++ t14)) (b := t18) rfl (by kernel_rfl) (by kernel_rfl) (hi17) w) ?_
  refine vcS_eff rfl rfl (opVC_call rfl (by kernel_rfl) (callS.mono h fun v19 vw18 h => ?_)) vcS_stop
  obtain ⟨hx20, h⟩ := h
  obtain ⟨t22, rfl, h⟩ := h
  refine ⟨fun _ => hx20, ?_⟩
  obtain ⟨hi21, h⟩ := h
  refine vcS_pure rfl rfl rfl (Value.string ((((((((ByteArray.mk #[112, 97, 99, 107, 97, 103, 101, 32]) ++ t4) ++ (ByteArray.mk #[32])) ++ t9) ++ (ByteArray.mk #[10])) ++ t14) ++ t18) ++ t22)) (fun w => by exact exec_str_add (a := (((((((ByteArray.mk #[112, 97, 99, 107, 97, 103, 101, 32]) ++ t4) ++ (ByteArray.mk #[32])) ++ t9) ++ (ByteArray.mk #[10])) ++ t14) ++ t18)) (b := t22) rfl (by kernel_rfl) (by kernel_rfl) (hi21) w) ?_
  refine vcS_pure rfl rfl rfl (Value.string ((((((((ByteArray.mk #[112, 97, 99, 107, 97, 103, 101, 32]) ++ t4) ++ (ByteArray.mk #[32])) ++ t9) ++ (ByteArray.mk #[10])) ++ t14) ++ t18) ++ t22)) (fun w => by kernel_rfl) ?_
  refine vcS_fin ?_
  refine Vc.ret ?_
  refine outs_ret ?_
  refine done_mk (Value.string ((((((((ByteArray.mk #[112, 97, 99, 107, 97, 103, 101, 32]) ++ t4) ++ (ByteArray.mk #[32])) ++ t9) ++ (ByteArray.mk #[10])) ++ t14) ++ t18) ++ t22)) (res1 (resC_tmp (by kernel_rfl))) ?_
  exact ⟨((((((((ByteArray.mk #[112, 97, 99, 107, 97, 103, 101, 32]) ++ t4) ++ (ByteArray.mk #[32])) ++ t9) ++ (ByteArray.mk #[10])) ++ t14) ++ t18) ++ t22), rfl, h⟩
theorem halyardref05_text.go {p_Name : ByteArray} {p_Version_Major : Int} {p_Version_Minor : Int} {p_Version_Patch : Int} {p_Deps : Sl} {p_Peers : Sl} {p_Optional : Sl} {w : World} {k : Value → World → Prop} (h : halyardref05_text p_Name p_Version_Major p_Version_Minor p_Version_Patch p_Deps p_Peers p_Optional w fun r0 w' => k (Value.string r0) w') : callS Tryz.prog 86 [(Value.agg #[(Value.string p_Name), (Value.int .i64 p_Version_Major), (Value.int .i64 p_Version_Minor), (Value.int .i64 p_Version_Patch), (Sl.v p_Deps), (Sl.v p_Peers), (Sl.v p_Optional)])] w k := (halyardref05_text.sound p_Name p_Version_Major p_Version_Minor p_Version_Patch p_Deps p_Peers p_Optional w _ h).mono (by rintro _ _ ⟨r0, rfl, h⟩; exact h)

/-- slices.Clip[[]halyard/api.Dep,halyard/api.Dep] -/
def slices_Clip_apiDepapiDep (vs : Sl) (w : World) (R : Sl → World → Prop) : Prop :=
  ((0 : Int) ≤ 0 ∧ 0 ≤ (vs.len : Int) ∧ (vs.len : Int) ≤ (vs.len : Int) ∧ (vs.len : Int) ≤ (vs.cap : Int)) ∧ R (Sl.mk (if (vs.len : Int).toNat = 0 then vs.a else vs.a.map (·.add (0 * 2))) ((vs.len : Int).toNat - 0) ((vs.len : Int).toNat - 0)) w
set_option maxHeartbeats 8000000 in
theorem slices_Clip_apiDepapiDep.sound (vs : Sl) (w : World) (R : Sl → World → Prop) (h : slices_Clip_apiDepapiDep vs w R) : callS Tryz.prog 89 [(Sl.v vs)] w (fun v w' => ∃ (r0 : Sl), v = (Sl.v r0) ∧ R r0 w') := by
  unfold slices_Clip_apiDepapiDep at h
  refine calls_of_vc 9 rfl Tryz.func89 rfl (by kernel_rfl) (by simp) ?_
  refine Vc.seq ?_
  refine Vc.region ?_
  refine vcL_pure rfl rfl (Sl.v Sl.nil) (fun w => by kernel_rfl) ?_
  refine vcL_nil ?_
  refine Vc.seq ?_
  refine Vc.region ?_
  refine vcL_purs 5 [(7, (Value.int .i64 (vs.len : Int))), (6, (Sl.v vs)), (5, (Value.int .i64 (vs.len : Int))), (4, (Sl.v vs)), (3, (Sl.v vs))] (by kernel_rfl) ?_
  obtain ⟨hi, h⟩ := h
  refine vcL_pure rfl rfl (Sl.v (Sl.mk (if (vs.len : Int).toNat = 0 then vs.a else vs.a.map (·.add (0 * 2))) ((vs.len : Int).toNat - 0) ((vs.len : Int).toNat - 0))) (fun w => by exact exec_slSlHM (s := vs) (el := 81) (k2 := .i64) (k3 := .i64) rfl (by kernel_rfl) (by kernel_rfl) (by kernel_rfl) (by kernel_rfl) (fun w => by kernel_rfl) (hi) w) ?_
  refine vcL_pure rfl rfl (Sl.v (Sl.mk (if (vs.len : Int).toNat = 0 then vs.a else vs.a.map (·.add (0 * 2))) ((vs.len : Int).toNat - 0) ((vs.len : Int).toNat - 0))) (fun w => by kernel_rfl) ?_
  refine vcL_nil ?_
  refine Vc.ret ?_
  refine outs_ret ?_
  refine done_mk (Sl.v (Sl.mk (if (vs.len : Int).toNat = 0 then vs.a else vs.a.map (·.add (0 * 2))) ((vs.len : Int).toNat - 0) ((vs.len : Int).toNat - 0))) (res1 (resC_tmp (by kernel_rfl))) ?_
  exact ⟨(Sl.mk (if (vs.len : Int).toNat = 0 then vs.a else vs.a.map (·.add (0 * 2))) ((vs.len : Int).toNat - 0) ((vs.len : Int).toNat - 0)), rfl, h⟩
theorem slices_Clip_apiDepapiDep.go {vs : Sl} {w : World} {k : Value → World → Prop} (h : slices_Clip_apiDepapiDep vs w fun r0 w' => k (Sl.v r0) w') : callS Tryz.prog 89 [(Sl.v vs)] w k := (slices_Clip_apiDepapiDep.sound vs w _ h).mono (by rintro _ _ ⟨r0, rfl, h⟩; exact h)

/-- slices.Clone[[]halyard/api.Span,halyard/api.Span] -/
def slices_Clone_apiSpanapiSpan (vs : Sl) (w : World) (R : Sl → World → Prop) : Prop :=
  ((vs.a = none → R Sl.nil w) ∧ (¬ (vs.a = none) → newS w [] 83 fun a vw => appS Tryz.prog 53 53 (Sl.mk (some a) 0 0) (Sl.v vs) vw fun t7 vw1 => R t7 vw1))
set_option maxHeartbeats 8000000 in
theorem slices_Clone_apiSpanapiSpan.sound (vs : Sl) (w : World) (R : Sl → World → Prop) (h : slices_Clone_apiSpanapiSpan vs w R) : callS Tryz.prog 90 [(Sl.v vs)] w (fun v w' => ∃ (r0 : Sl), v = (Sl.v r0) ∧ R r0 w') := by
  unfold slices_Clone_apiSpanapiSpan at h
  refine calls_of_vc 8 rfl Tryz.func90 rfl (by kernel_rfl) (by simp) ?_
  refine Vc.seq ?_
  refine Vc.region ?_
  refine vcL_pure rfl rfl (Sl.v Sl.nil) (fun w => by kernel_rfl) ?_
  refine vcL_nil ?_
  refine Vc.seq ?_
  refine Vc.seq ?_
  refine Vc.region ?_
  refine vcL_pure rfl rfl (Sl.v vs) (fun w => by kernel_rfl) ?_
  refine vcL_pure rfl rfl (Value.bool (Option.isNone vs.a)) (fun w => by cases vs with | mk a_ n_ c_ => cases a_ <;> kernel_rfl) ?_
  refine vcL_nil ?_
  refine Vc.cond (Option.isNone vs.a) (by kernel_rfl) (fun hb => ?_) (fun hb => ?_)
  · have h := h.1 (Option.isNone_iff_eq_none.1 hb)
    refine Vc.seq ?_
    refine Vc.region ?_
    refine vcL_pure rfl rfl (Sl.v Sl.nil) (fun w => by kernel_rfl) ?_
    refine vcL_nil ?_
    refine Vc.ret ?_
    refine outs_ret ?_
    refine done_mk (Sl.v Sl.nil) (res1 (resC_tmp (by kernel_rfl))) ?_
    exact ⟨Sl.nil, rfl, h⟩
  · have h := h.2 (isNone_false hb)
    refine Vc.skip ?_
    refine Vc.seq ?_
    refine Vc.region ?_
    refine vcL_eff rfl (opVC_new rfl (fun a => Value.slice (some a) 0 0) (by kernel_rfl) (newS.mono h fun a vw hx h => ?_)) 
    refine vcL_pure rfl rfl (Sl.v vs) (fun w => by kernel_rfl) ?_
    refine vcL_eff rfl (opVC_sem rfl (c := Builtin.append_ #[53, 53] 53 #[(Sl.v (Sl.mk (some a) 0 0)), (Sl.v vs)]) (by kernel_rfl) (appS.elim (ty := 53) h fun t7 vw1 h => ?_)) 
    refine vcL_pure rfl rfl (Sl.v t7) (fun w => by kernel_rfl) ?_
    refine vcL_nil ?_
    refine Vc.ret ?_
    refine outs_ret ?_
    refine done_mk (Sl.v t7) (res1 (resC_tmp (by kernel_rfl))) ?_
    exact ⟨t7, rfl, h⟩
theorem slices_Clone_apiSpanapiSpan.go {vs : Sl} {w : World} {k : Value → World → Prop} (h : slices_Clone_apiSpanapiSpan vs w fun r0 w' => k (Sl.v r0) w') : callS Tryz.prog 90 [(Sl.v vs)] w k := (slices_Clone_apiSpanapiSpan.sound vs w _ h).mono (by rintro _ _ ⟨r0, rfl, h⟩; exact h)

/-- halyard/span.May -/
def span_May (l : Sl) (w : World) (R : Bool → World → Prop) : Prop :=
  ((64 < (l.len : Int) → R false w) ∧ (¬ (64 < (l.len : Int)) → loop2 0 0 w fun least t15 vw nxt => ((t15 < (l.len : Int) → ∃ (ad : Addr), (l.a = some ad ∧ (0 : Int) ≤ t15 ∧ t15 < (l.len : Int)) ∧ ∃ (t18_Lo_Major : Int) (t18_Lo_Minor : Int) (t18_Lo_Patch : Int) (t18_Hi_Major : Int) (t18_Hi_Minor : Int) (t18_Hi_Patch : Int), (ldc vw (ad.add (t15.toNat * 6)) [(Value.int .i64 t18_Lo_Major), (Value.int .i64 t18_Lo_Minor), (Value.int .i64 t18_Lo_Patch), (Value.int .i64 t18_Hi_Major), (Value.int .i64 t18_Hi_Minor), (Value.int .i64 t18_Hi_Patch)]) ∧ newS vw [(Value.int .i64 0), (Value.int .i64 0), (Value.int .i64 0), (Value.int .i64 0), (Value.int .i64 0), (Value.int .i64 0)] 83 fun a vw1 => stw vw1 a [(Value.int .i64 t18_Lo_Major), (Value.int .i64 t18_Lo_Minor), (Value.int .i64 t18_Lo_Patch), (Value.int .i64 t18_Hi_Major), (Value.int .i64 t18_Hi_Minor), (Value.int .i64 t18_Hi_Patch)] fun vw2 => ∃ (t21_Major : Int) (t21_Minor : Int) (t21_Patch : Int), (ldc vw2 a [(Value.int .i64 t21_Major), (Value.int .i64 t21_Minor), (Value.int .i64 t21_Patch)]) ∧ callS Tryz.prog 123 [(Value.agg #[(Value.int .i64 t21_Major), (Value.int .i64 t21_Minor), (Value.int .i64 t21_Patch)])] vw2 fun v vw4 => ∃ (t22 : Int) (t22b : Bool), v = (Value.tuple #[(Value.int .i64 t22), (Value.bool t22b)]) ∧ ∃ (t27_Major : Int) (t27_Minor : Int) (t27_Patch : Int), (ldc vw4 (a.add 3) [(Value.int .i64 t27_Major), (Value.int .i64 t27_Minor), (Value.int .i64 t27_Patch)]) ∧ callS Tryz.prog 123 [(Value.agg #[(Value.int .i64 t27_Major), (Value.int .i64 t27_Minor), (Value.int .i64 t27_Patch)])] vw4 fun v7 vw6 => ∃ (t28 : Int) (t28b : Bool), v7 = (Value.tuple #[(Value.int .i64 t28), (Value.bool t28b)]) ∧ bnd (!t22b) fun (b : Bool) => bnd (b || (!t28b)) fun (b9 : Bool) => bnd (b9 || (decide (t22 < least))) fun (b10 : Bool) => (((b10 || (decide (t28 < t22))) = true → R false vw6) ∧ ((b10 || (decide (t28 < t22))) = false → nxt (wrapI (t28 + 2)) (wrapI (t15 + 1)) vw6))) ∧ (¬ (t15 < (l.len : Int)) → R true vw))))
set_option maxHeartbeats 8000000 in
theorem span_May.sound (l : Sl) (w : World) (R : Bool → World → Prop) (h : span_May l w R) : callS Tryz.prog 91 [(Sl.v l)] w (fun v w' => ∃ (r0 : Bool), v = (Value.bool r0) ∧ R r0 w') := by
  unfold span_May at h
  refine calls_of_vc 50 rfl Tryz.func91 rfl (by kernel_rfl) (by simp) ?_
  refine Vc.seq ?_
  refine Vc.region ?_
  refine vcL_pure rfl rfl (Value.bool false) (fun w => by kernel_rfl) ?_
  refine vcL_nil ?_
  refine Vc.seq ?_
  refine Vc.seq ?_
  refine Vc.region ?_
  refine vcL_purs 3 [(12, (Value.bool (decide (64 < (l.len : Int))))), (11, (Value.int .i64 (l.len : Int))), (10, (Sl.v l))] (by kernel_rfl) ?_
  refine vcL_nil ?_
  refine Vc.cond (decide (64 < (l.len : Int))) (by kernel_rfl) (fun hb => ?_) (fun hb => ?_)
  · have h := h.1 (of_decide_eq_true hb)
    refine Vc.seq ?_
    refine Vc.region ?_
    refine vcL_pure rfl rfl (Value.bool false) (fun w => by kernel_rfl) ?_
    refine vcL_nil ?_
    refine Vc.ret ?_
    refine outs_ret ?_
    refine done_mk (Value.bool false) (res1 (resC_tmp (by kernel_rfl))) ?_
    exact ⟨false, rfl, h⟩
  · have h := h.2 (of_decide_eq_false hb)
    refine Vc.skip ?_
    refine Vc.seq ?_
    refine Vc.region ?_
    refine vcL_pure rfl rfl (Value.int .i64 0) (fun w => by kernel_rfl) ?_
    refine vcL_nil ?_
    refine Vc.seq ?_
    refine Vc.seq ?_
    refine Vc.region ?_
    refine vcL_purs 3 [(15, (Value.int .i64 0)), (14, (Value.int .i64 (l.len : Int))), (13, (Sl.v l))] (by kernel_rfl) ?_
    refine vcL_nil ?_
    refine Vc.block ?_
    obtain ⟨vI, mu, h, hr⟩ := h
    refine Vc.loopJ (σ := Int × Int) [3, 15] [2, 5, 6, 7, 8, 9, 16, 17, 18, 19, 20, 21, 22, 23, 24, 25, 26, 27, 28, 29, 30, 31, 32, 33, 34, 35, 36, 37, 38, 39, 40, 41, 42, 43, 44, 45, 46, 47, 48, 49] (fun s => [(3, (Value.int .i64 s.1)), (15, (Value.int .i64 s.2))]) (fun s w => vI s.1 s.2 w) (fun s w => mu s.1 s.2 w) (0, 0) h (fun _ => rfl) (by kernel_rfl) ?_
    rintro ⟨least, t15⟩ vw j h
    have h := hr least t15 vw h
    refine Vc.seq ?_
    refine Vc.region ?_
    refine vcL_pure rfl rfl (Value.bool (decide (t15 < (l.len : Int)))) (fun w => by kernel_rfl) ?_
    refine vcL_nil ?_
    refine Vc.seq ?_
    refine Vc.cond (decide (t15 < (l.len : Int))) (by kernel_rfl) (fun hb => ?_) (fun hb => ?_)
    · have h := h.1 (of_decide_eq_true hb)
      refine Vc.skip ?_
      refine Vc.seq ?_
      refine Vc.block ?_
      refine Vc.seq ?_
      refine Vc.region ?_
      obtain ⟨ad, hi, h⟩ := h
      refine vcL_pure rfl rfl (Value.pointer (some (ad.add (t15.toNat * 6)))) (fun w => by exact exec_indexAt (s := l) (el := 83) rfl (by kernel_rfl) (by kernel_rfl) (by kernel_rfl) (fun w => by kernel_rfl) (hi).1 (hi).2.1 (hi).2.2 w) ?_
      obtain ⟨t18_Lo_Major, t18_Lo_Minor, t18_Lo_Patch, t18_Hi_Major, t18_Hi_Minor, t18_Hi_Patch, hc, h⟩ := h
      refine vcL_val rfl rfl (Value.agg #[(Value.int .i64 t18_Lo_Major), (Value.int .i64 t18_Lo_Minor), (Value.int .i64 t18_Lo_Patch), (Value.int .i64 t18_Hi_Major), (Value.int .i64 t18_Hi_Minor), (Value.int .i64 t18_Hi_Patch)]) (exec_load rfl (by kernel_rfl) (run_loadN (fun w => by kernel_rfl) (fun w => by kernel_rfl) ((hc)))) ?_
      refine vcL_eff rfl (opVC_new rfl (fun a => Value.pointer (some a)) (by kernel_rfl) (newS.mono h fun a vw1 hx h => ?_)) 
      refine vcL_eff rfl (opVC_store rfl rfl (a := a) (by kernel_rfl) (v := (Value.agg #[(Value.int .i64 t18_Lo_Major), (Value.int .i64 t18_Lo_Minor), (Value.int .i64 t18_Lo_Patch), (Value.int .i64 t18_Hi_Major), (Value.int .i64 t18_Hi_Minor), (Value.int .i64 t18_Hi_Patch)])) (by kernel_rfl) [(Value.int .i64 t18_Lo_Major), (Value.int .i64 t18_Lo_Minor), (Value.int .i64 t18_Lo_Patch), (Value.int .i64 t18_Hi_Major), (Value.int .i64 t18_Hi_Minor), (Value.int .i64 t18_Hi_Patch)] (by kernel_rfl) (fun w => by kernel_rfl) (by kernel_rfl) (stw.mono h fun vw2 h => ?_)) 
      refine vcL_nil ?_
      refine Vc.seq ?_
      refine Vc.region ?_
      refine vcL_pure rfl rfl (Value.pointer (some a)) (fun w => by kernel_rfl) ?_
      obtain ⟨t21_Major, t21_Minor, t21_Patch, hc3, h⟩ := h
      refine vcL_val rfl rfl (Value.agg #[(Value.int .i64 t21_Major), (Value.int .i64 t21_Minor), (Value.int .i64 t21_Patch)]) (exec_load rfl (by kernel_rfl) (run_loadN (fun w => by kernel_rfl) (fun w => by kernel_rfl) ((hc3)))) ?_
      refine vcL_eff rfl (opVC_call rfl (by kernel_rfl) (callS.mono h fun v vw4 h => ?_)) 
      obtain ⟨t22, t22b, rfl, h⟩ := h
      refine vcL_purs 5 [(7, (Value.bool t22b)), (6, (Value.int .i64 t22)), (24, (Value.bool t22b)), (23, (Value.int .i64 t22)), (19, (Value.tuple #[(Value.int .i64 t22), (Value.bool t22b)]))] (by kernel_rfl) ?_
      refine vcL_nil ?_
      refine Vc.seq ?_
      refine Vc.region ?_
      refine vcL_pure rfl rfl (Value.pointer (some (a.add 3))) (fun w => by kernel_rfl) ?_
      obtain ⟨t27_Major, t27_Minor, t27_Patch, hc5, h⟩ := h
      refine vcL_val rfl rfl (Value.agg #[(Value.int .i64 t27_Major), (Value.int .i64 t27_Minor), (Value.int .i64 t27_Patch)]) (exec_load rfl (by kernel_rfl) (run_loadN (fun w => by kernel_rfl) (fun w => by kernel_rfl) ((hc5)))) ?_
      refine vcL_eff rfl (opVC_call rfl (by kernel_rfl) (callS.mono h fun v7 vw6 h => ?_)) 
      obtain ⟨t28, t28b, rfl, h⟩ := h
      refine vcL_purs 5 [(9, (Value.bool t28b)), (8, (Value.int .i64 t28)), (30, (Value.bool t28b)), (29, (Value.int .i64 t28)), (25, (Value.tuple #[(Value.int .i64 t28), (Value.bool t28b)]))] (by kernel_rfl) ?_
      refine vcL_nil ?_
      refine Vc.seq ?_
      refine Vc.seq ?_
      refine Vc.region ?_
      refine vcL_purs 2 [(32, (Value.bool (!t22b))), (31, (Value.bool t22b))] (by kernel_rfl) ?_
      obtain ⟨b, hb⟩ : ∃ y, y = (!t22b) := ⟨_, rfl⟩
      have h := h b hb
      refine vcL_pure rfl rfl (Value.bool b) (fun w => by rw [hb]; kernel_rfl) ?_
      refine vcL_guardP (!b) (wanted_g (d := 33) rfl (by kernel_rfl) b (by kernel_rfl) (!b) (eqF b)) rfl (Value.bool t28b) (fun hg w => by simp only [Bool.and_eq_true, Bool.not_eq_true'] at hg; obtain rfl := hg; kernel_rfl) ?_
      refine vcL_guardP (!b) (wanted_g (d := 33) rfl (by kernel_rfl) b (by kernel_rfl) (!b) (eqF b)) rfl (Value.bool (!t28b)) (fun hg w => by simp only [Bool.and_eq_true, Bool.not_eq_true'] at hg; obtain rfl := hg; kernel_rfl) ?_
      refine vcL_pure rfl rfl (Value.bool (b || (!t28b))) (fun w => by cases b <;> kernel_rfl) ?_
      obtain ⟨b9, hb9⟩ : ∃ y, y = (b || (!t28b)) := ⟨_, rfl⟩
      have h := h b9 hb9
      refine vcL_pure rfl rfl (Value.bool b9) (fun w => by rw [hb9]; kernel_rfl) ?_
      refine vcL_guardP (!b9) (wanted_g (d := 37) rfl (by kernel_rfl) b9 (by kernel_rfl) (!b9) (eqF b9)) rfl (Value.int .i64 t22) (fun hg w => by simp only [Bool.and_eq_true, Bool.not_eq_true'] at hg; obtain rfl := hg; kernel_rfl) ?_
      refine vcL_guardP (!b9) (wanted_g (d := 37) rfl (by kernel_rfl) b9 (by kernel_rfl) (!b9) (eqF b9)) rfl (Value.int .i64 least) (fun hg w => by simp only [Bool.and_eq_true, Bool.not_eq_true'] at hg; obtain rfl := hg; kernel_rfl) ?_
      refine vcL_guardP (!b9) (wanted_g (d := 37) rfl (by kernel_rfl) b9 (by kernel_rfl) (!b9) (eqF b9)) rfl (Value.bool (decide (t22 < least))) (fun hg w => by simp only [Bool.and_eq_true, Bool.not_eq_true'] at hg; obtain rfl := hg; kernel_rfl) ?_
      refine vcL_pure rfl rfl (Value.bool (b9 || (decide (t22 < least)))) (fun w => by cases b9 <;> kernel_rfl) ?_
      obtain ⟨b10, hb10⟩ : ∃ y, y = (b9 || (decide (t22 < least))) := ⟨_, rfl⟩
      have h := h b10 hb10
      refine vcL_pure rfl rfl (Value.bool b10) (fun w => by rw [hb10]; kernel_rfl) ?_
      refine vcL_guardP (!b10) (wanted_g (d := 42) rfl (by kernel_rfl) b10 (by kernel_rfl) (!b10) (eqF b10)) rfl (Value.int .i64 t22) (fun hg w => by simp only [Bool.and_eq_true, Bool.not_eq_true'] at hg; obtain rfl := hg; kernel_rfl) ?_
      refine vcL_guardP (!b10) (wanted_g (d := 42) rfl (by kernel_rfl) b10 (by kernel_rfl) (!b10) (eqF b10)) rfl (Value.int .i64 t28) (fun hg w => by simp only [Bool.and_eq_true, Bool.not_eq_true'] at hg; obtain rfl := hg; kernel_rfl) ?_
      refine vcL_guardP (!b10) (wanted_g (d := 42) rfl (by kernel_rfl) b10 (by kernel_rfl) (!b10) (eqF b10)) rfl (Value.bool (decide (t28 < t22))) (fun hg w => by simp only [Bool.and_eq_true, Bool.not_eq_true'] at hg; obtain rfl := hg; kernel_rfl) ?_
      refine vcL_pure rfl rfl (Value.bool (b10 || (decide (t28 < t22)))) (fun w => by cases b10 <;> kernel_rfl) ?_
      refine vcL_nil ?_
      refine Vc.cond (b10 || (decide (t28 < t22))) (by kernel_rfl) (fun hb => ?_) (fun hb => ?_)
      · have h := h.1 (hb)
        refine Vc.seq ?_
        refine Vc.region ?_
        refine vcL_pure rfl rfl (Value.bool false) (fun w => by kernel_rfl) ?_
        refine vcL_nil ?_
        refine Vc.ret ?_
        refine outOf_ret ?_
        refine outOf_ret ?_
        refine outs_ret ?_
        refine done_mk (Value.bool false) (res1 (resC_tmp (by kernel_rfl))) ?_
        exact ⟨false, rfl, h⟩
      · have h := h.2 (hb)
        refine Vc.skip ?_
        refine Vc.region ?_
        refine vcL_purs 3 [(3, (Value.int .i64 (wrapI (t28 + 2)))), (48, (Value.int .i64 (wrapI (t28 + 2)))), (47, (Value.int .i64 t28))] (by kernel_rfl) ?_
        refine vcL_nil ?_
        refine Vc.region ?_
        refine vcL_purs 2 [(15, (Value.int .i64 (wrapI (t15 + 1)))), (49, (Value.int .i64 (wrapI (t15 + 1))))] (by kernel_rfl) ?_
        refine vcL_nil ?_
        exact ⟨((wrapI (t28 + 2)), (wrapI (t15 + 1))), 83, ⟨rfl, by kernel_rfl, by kernel_rfl, by kernel_rfl⟩, h⟩
    · have h := h.2 (of_decide_eq_false hb)
      refine Vc.exit ?_
      refine outOf_hit ?_
      refine Vc.seq ?_
      refine Vc.region ?_
      refine vcL_pure rfl rfl (Value.bool true) (fun w => by kernel_rfl) ?_
      refine vcL_nil ?_
      refine Vc.ret ?_
      refine outs_ret ?_
      refine done_mk (Value.bool true) (res1 (resC_tmp (by kernel_rfl))) ?_
      exact ⟨true, rfl, h⟩
theorem span_May.go {l : Sl} {w : World} {k : Value → World → Prop} (h : span_May l w fun r0 w' => k (Value.bool r0) w') : callS Tryz.prog 91 [(Sl.v l)] w k := (span_May.sound l w _ h).mono (by rintro _ _ ⟨r0, rfl, h⟩; exact h)

/-- halyard/span.numbers -/
def span_numbers (l : Sl) (w : World) (R : Sl → World → Prop) : Prop :=
  loop2 Sl.nil 0 w fun out t12 vw nxt => ((t12 < (l.len : Int) → ∃ (ad : Addr), (l.a = some ad ∧ (0 : Int) ≤ t12 ∧ t12 < (l.len : Int)) ∧ ∃ (t15_Lo_Major : Int) (t15_Lo_Minor : Int) (t15_Lo_Patch : Int) (t15_Hi_Major : Int) (t15_Hi_Minor : Int) (t15_Hi_Patch : Int), (ldc vw (ad.add (t12.toNat * 6)) [(Value.int .i64 t15_Lo_Major), (Value.int .i64 t15_Lo_Minor), (Value.int .i64 t15_Lo_Patch), (Value.int .i64 t15_Hi_Major), (Value.int .i64 t15_Hi_Minor), (Value.int .i64 t15_Hi_Patch)]) ∧ newS vw [(Value.int .i64 0), (Value.int .i64 0), (Value.int .i64 0), (Value.int .i64 0), (Value.int .i64 0), (Value.int .i64 0)] 83 fun a vw1 => stw vw1 a [(Value.int .i64 t15_Lo_Major), (Value.int .i64 t15_Lo_Minor), (Value.int .i64 t15_Lo_Patch), (Value.int .i64 t15_Hi_Major), (Value.int .i64 t15_Hi_Minor), (Value.int .i64 t15_Hi_Patch)] fun vw2 => ∃ (t18_Major : Int) (t18_Minor : Int) (t18_Patch : Int), (ldc vw2 a [(Value.int .i64 t18_Major), (Value.int .i64 t18_Minor), (Value.int .i64 t18_Patch)]) ∧ callS Tryz.prog 123 [(Value.agg #[(Value.int .i64 t18_Major), (Value.int .i64 t18_Minor), (Value.int .i64 t18_Patch)])] vw2 fun v vw4 => ∃ (t19 : Int) (t19b : Bool), v = (Value.tuple #[(Value.int .i64 t19), (Value.bool t19b)]) ∧ ∃ (t24_Major : Int) (t24_Minor : Int) (t24_Patch : Int), (ldc vw4 (a.add 3) [(Value.int .i64 t24_Major), (Value.int .i64 t24_Minor), (Value.int .i64 t24_Patch)]) ∧ callS Tryz.prog 123 [(Value.agg #[(Value.int .i64 t24_Major), (Value.int .i64 t24_Minor), (Value.int .i64 t24_Patch)])] vw4 fun v7 vw6 => ∃ (t25 : Int) (t25b : Bool), v7 = (Value.tuple #[(Value.int .i64 t25), (Value.bool t25b)]) ∧ newS vw6 [(Value.int .i64 t19), (Value.int .i64 t25)] 157 fun a9 vw10 => appS Tryz.prog 130 130 out (Sl.v (Sl.mk (some a9) 1 1)) vw10 fun t33 vw11 => nxt t33 (wrapI (t12 + 1)) vw11) ∧ (¬ (t12 < (l.len : Int)) → R out vw))
set_option maxHeartbeats 8000000 in
theorem span_numbers.sound (l : Sl) (w : World) (R : Sl → World → Prop) (h : span_numbers l w R) : callS Tryz.prog 94 [(Sl.v l)] w (fun v w' => ∃ (r0 : Sl), v = (Sl.v r0) ∧ R r0 w') := by
  unfold span_numbers at h
  refine calls_of_vc 36 rfl Tryz.func94 rfl (by kernel_rfl) (by simp) ?_
  refine Vc.seq ?_
  refine Vc.region ?_
  refine vcL_pure rfl rfl (Sl.v Sl.nil) (fun w => by kernel_rfl) ?_
  refine vcL_nil ?_
  refine Vc.seq ?_
  refine Vc.region ?_
  refine vcL_pure rfl rfl (Sl.v Sl.nil) (fun w => by kernel_rfl) ?_
  refine vcL_nil ?_
  refine Vc.seq ?_
  refine Vc.seq ?_
  refine Vc.region ?_
  refine vcL_purs 3 [(12, (Value.int .i64 0)), (11, (Value.int .i64 (l.len : Int))), (10, (Sl.v l))] (by kernel_rfl) ?_
  refine vcL_nil ?_
  refine Vc.block ?_
  obtain ⟨vI, mu, h, hr⟩ := h
  refine Vc.loopJ (σ := Sl × Int) [3, 12] [5, 6, 7, 8, 9, 13, 14, 15, 16, 17, 18, 19, 20, 21, 22, 23, 24, 25, 26, 27, 28, 29, 30, 31, 32, 33, 34] (fun s => [(3, (Sl.v s.1)), (12, (Value.int .i64 s.2))]) (fun s w => vI s.1 s.2 w) (fun s w => mu s.1 s.2 w) (Sl.nil, 0) h (fun _ => rfl) (by kernel_rfl) ?_
  rintro ⟨out, t12⟩ vw j h
  have h := hr out t12 vw h
  refine Vc.seq ?_
  refine Vc.region ?_
  refine vcL_pure rfl rfl (Value.bool (decide (t12 < (l.len : Int)))) (fun w => by kernel_rfl) ?_
  refine vcL_nil ?_
  refine Vc.seq ?_
  refine Vc.cond (decide (t12 < (l.len : Int))) (by kernel_rfl) (fun hb => ?_) (fun hb => ?_)
  · have h := h.1 (of_decide_eq_true hb)
    refine Vc.skip ?_
    refine Vc.seq ?_
    refine Vc.block ?_
    refine Vc.seq ?_
    refine Vc.region ?_
    obtain ⟨ad, hi, h⟩ := h
    refine vcL_pure rfl rfl (Value.pointer (some (ad.add (t12.toNat * 6)))) (fun w => by exact exec_indexAt (s := l) (el := 83) rfl (by kernel_rfl) (by kernel_rfl) (by kernel_rfl) (fun w => by kernel_rfl) (hi).1 (hi).2.1 (hi).2.2 w) ?_
    obtain ⟨t15_Lo_Major, t15_Lo_Minor, t15_Lo_Patch, t15_Hi_Major, t15_Hi_Minor, t15_Hi_Patch, hc, h⟩ := h
    refine vcL_val rfl rfl (Value.agg #[(Value.int .i64 t15_Lo_Major), (Value.int .i64 t15_Lo_Minor), (Value.int .i64 t15_Lo_Patch), (Value.int .i64 t15_Hi_Major), (Value.int .i64 t15_Hi_Minor), (Value.int .i64 t15_Hi_Patch)]) (exec_load rfl (by kernel_rfl) (run_loadN (fun w => by kernel_rfl) (fun w => by kernel_rfl) ((hc)))) ?_
    refine vcL_eff rfl (opVC_new rfl (fun a => Value.pointer (some a)) (by kernel_rfl) (newS.mono h fun a vw1 hx h => ?_)) 
    refine vcL_eff rfl (opVC_store rfl rfl (a := a) (by kernel_rfl) (v := (Value.agg #[(Value.int .i64 t15_Lo_Major), (Value.int .i64 t15_Lo_Minor), (Value.int .i64 t15_Lo_Patch), (Value.int .i64 t15_Hi_Major), (Value.int .i64 t15_Hi_Minor), (Value.int .i64 t15_Hi_Patch)])) (by kernel_rfl) [(Value.int .i64 t15_Lo_Major), (Value.int .i64 t15_Lo_Minor), (Value.int .i64 t15_Lo_Patch), (Value.int .i64 t15_Hi_Major), (Value.int .i64 t15_Hi_Minor), (Value.int .i64 t15_Hi_Patch)] (by kernel_rfl) (fun w => by kernel_rfl) (by kernel_rfl) (stw.mono h fun vw2 h => ?_)) 
    refine vcL_nil ?_
    refine Vc.seq ?_
    refine Vc.region ?_
    refine vcL_pure rfl rfl (Value.pointer (some a)) (fun w => by kernel_rfl) ?_
    obtain ⟨t18_Major, t18_Minor, t18_Patch, hc3, h⟩ := h
    refine vcL_val rfl rfl (Value.agg #[(Value.int .i64 t18_Major), (Value.int .i64 t18_Minor), (Value.int .i64 t18_Patch)]) (exec_load rfl (by kernel_rfl) (run_loadN (fun w => by kernel_rfl) (fun w => by kernel_rfl) ((hc3)))) ?_
    refine vcL_eff rfl (opVC_call rfl (by kernel_rfl) (callS.mono h fun v vw4 h => ?_)) 
    obtain ⟨t19, t19b, rfl, h⟩ := h
    refine vcL_purs 5 [(7, (Value.bool t19b)), (6, (Value.int .i64 t19)), (21, (Value.bool t19b)), (20, (Value.int .i64 t19)), (16, (Value.tuple #[(Value.int .i64 t19), (Value.bool t19b)]))] (by kernel_rfl) ?_
    refine vcL_nil ?_
    refine Vc.seq ?_
    refine Vc.region ?_
    refine vcL_pure rfl rfl (Value.pointer (some (a.add 3))) (fun w => by kernel_rfl) ?_
    obtain ⟨t24_Major, t24_Minor, t24_Patch, hc5, h⟩ := h
    refine vcL_val rfl rfl (Value.agg #[(Value.int .i64 t24_Major), (Value.int .i64 t24_Minor), (Value.int .i64 t24_Patch)]) (exec_load rfl (by kernel_rfl) (run_loadN (fun w => by kernel_rfl) (fun w => by kernel_rfl) ((hc5)))) ?_
    refine vcL_eff rfl (opVC_call rfl (by kernel_rfl) (callS.mono h fun v7 vw6 h => ?_)) 
    obtain ⟨t25, t25b, rfl, h⟩ := h
    refine vcL_purs 5 [(9, (Value.bool t25b)), (8, (Value.int .i64 t25)), (27, (Value.bool t25b)), (26, (Value.int .i64 t25)), (22, (Value.tuple #[(Value.int .i64 t25), (Value.bool t25b)]))] (by kernel_rfl) ?_
    refine vcL_nil ?_
    refine Vc.region ?_
    refine vcL_purs 4 [(31, (Value.agg #[(Value.int .i64 t19), (Value.int .i64 t25)])), (30, (Value.int .i64 t25)), (29, (Value.int .i64 t19)), (28, (Sl.v out))] (by kernel_rfl) ?_
    refine vcL_eff rfl (opVC_new rfl (fun a => Value.slice (some a) 1 1) (by kernel_rfl) (newS.mono h fun a9 vw10 hx h => ?_)) 
    refine vcL_eff rfl (opVC_sem rfl (c := Builtin.append_ #[130, 130] 130 #[(Sl.v out), (Sl.v (Sl.mk (some a9) 1 1))]) (by kernel_rfl) (appS.elim (ty := 130) h fun t33 vw11 h => ?_)) 
    refine vcL_pure rfl rfl (Sl.v t33) (fun w => by kernel_rfl) ?_
    refine vcL_nil ?_
    refine Vc.region ?_
    refine vcL_purs 2 [(12, (Value.int .i64 (wrapI (t12 + 1)))), (34, (Value.int .i64 (wrapI (t12 + 1))))] (by kernel_rfl) ?_
    refine vcL_nil ?_
    exact ⟨(t33, (wrapI (t12 + 1))), 58, ⟨rfl, by kernel_rfl, by kernel_rfl, by kernel_rfl⟩, h⟩
  · have h := h.2 (of_decide_eq_false hb)
    refine Vc.exit ?_
    refine outOf_hit ?_
    refine Vc.seq ?_
    refine Vc.region ?_
    refine vcL_purs 2 [(2, (Sl.v out)), (35, (Sl.v out))] (by kernel_rfl) ?_
    refine vcL_nil ?_
    refine Vc.ret ?_
    refine outs_ret ?_
    refine done_mk (Sl.v out) (res1 (resC_tmp (by kernel_rfl))) ?_
    exact ⟨out, rfl, h⟩
theorem span_numbers.go {l : Sl} {w : World} {k : Value → World → Prop} (h : span_numbers l w fun r0 w' => k (Sl.v r0) w') : callS Tryz.prog 94 [(Sl.v l)] w k := (span_numbers.sound l w _ h).mono (by rintro _ _ ⟨r0, rfl, h⟩; exact h)

/-- halyard/halyardref03.at -/
def halyardref03_at (n : Int) (w : World) (R : Int → Int → Int → World → Prop) : Prop :=
  newS w [(Value.int .i64 0), (Value.int .i64 0), (Value.int .i64 0)] 30 fun a vw => callS Tryz.prog 35 [(Value.int .i64 n)] vw fun v vw1 => ∃ (t7_Major : Int) (t7_Minor : Int) (t7_Patch : Int) (t7b : Bool), v = (Value.tuple #[(Value.agg #[(Value.int .i64 t7_Major), (Value.int .i64 t7_Minor), (Value.int .i64 t7_Patch)]), (Value.bool t7b)]) ∧ newS vw1 [(Value.int .i64 0), (Value.int .i64 0), (Value.int .i64 0)] 30 fun a2 vw3 => stw vw3 a2 [(Value.int .i64 t7_Major), (Value.int .i64 t7_Minor), (Value.int .i64 t7_Patch)] fun vw4 => ∃ (t10_Major : Int) (t10_Minor : Int) (t10_Patch : Int), (ldc vw4 a2 [(Value.int .i64 t10_Major), (Value.int .i64 t10_Minor), (Value.int .i64 t10_Patch)]) ∧ stw vw4 a [(Value.int .i64 t10_Major), (Value.int .i64 t10_Minor), (Value.int .i64 t10_Patch)] fun vw5 => ∃ (r_Major : Int) (r_Minor : Int) (r_Patch : Int), ldc vw5 a [(Value.int .i64 r_Major), (Value.int .i64 r_Minor), (Value.int .i64 r_Patch)] ∧ R r_Major r_Minor r_Patch vw5
set_option maxHeartbeats 8000000 in
theorem halyardref03_at.sound (n : Int) (w : World) (R : Int → Int → Int → World → Prop) (h : halyardref03_at n w R) : callS Tryz.prog 96 [(Value.int .i64 n)] w (fun v w' => ∃ (r0 : Int) (r1 : Int) (r2 : Int), v = (Value.agg #[(Value.int .i64 r0), (Value.int .i64 r1), (Value.int .i64 r2)]) ∧ R r0 r1 r2 w') := by
  unfold halyardref03_at at h
  refine calls_of_vc 11 rfl Tryz.func96 rfl (by kernel_rfl) (by simp) ?_
  refine Vc.seq ?_
  refine Vc.region ?_
  refine vcL_eff rfl (opVC_new rfl (fun a => Value.pointer (some a)) (by kernel_rfl) (newS.mono h fun a vw hx h => ?_)) 
  refine vcL_nil ?_
  refine Vc.seq ?_
  refine Vc.region ?_
  refine vcL_pure rfl rfl (Value.int .i64 n) (fun w => by kernel_rfl) ?_
  refine vcL_eff rfl (opVC_call rfl (by kernel_rfl) (callS.mono h fun v vw1 h => ?_)) 
  obtain ⟨t7_Major, t7_Minor, t7_Patch, t7b, rfl, h⟩ := h
  refine vcL_purs 3 [(9, (Value.bool t7b)), (8, (Value.agg #[(Value.int .i64 t7_Major), (Value.int .i64 t7_Minor), (Value.int .i64 t7_Patch)])), (5, (Value.tuple #[(Value.agg #[(Value.int .i64 t7_Major), (Value.int .i64 t7_Minor), (Value.int .i64 t7_Patch)]), (Value.bool t7b)]))] (by kernel_rfl) ?_
  refine vcL_eff rfl (opVC_new rfl (fun a => Value.pointer (some a)) (by kernel_rfl) (newS.mono h fun a2 vw3 hx h => ?_)) 
  refine vcL_eff rfl (opVC_store rfl rfl (a := a2) (by kernel_rfl) (v := (Value.agg #[(Value.int .i64 t7_Major), (Value.int .i64 t7_Minor), (Value.int .i64 t7_Patch)])) (by kernel_rfl) [(Value.int .i64 t7_Major), (Value.int .i64 t7_Minor), (Value.int .i64 t7_Patch)] (by kernel_rfl) (fun w => by kernel_rfl) (by kernel_rfl) (stw.mono h fun vw4 h => ?_)) 
  refine vcL_pure rfl rfl (Value.bool t7b) (fun w => by kernel_rfl) ?_
  refine vcL_nil ?_
  refine Vc.seq ?_
  refine Vc.region ?_
  obtain ⟨t10_Major, t10_Minor, t10_Patch, hc, h⟩ := h
  refine vcL_val rfl rfl (Value.agg #[(Value.int .i64 t10_Major), (Value.int .i64 t10_Minor), (Value.int .i64 t10_Patch)]) (exec_load rfl (by kernel_rfl) (run_loadN (fun w => by kernel_rfl) (fun w => by kernel_rfl) ((hc)))) ?_
  refine vcL_eff rfl (opVC_store rfl rfl (a := a) (by kernel_rfl) (v := (Value.agg #[(Value.int .i64 t10_Major), (Value.int .i64 t10_Minor), (Value.int .i64 t10_Patch)])) (by kernel_rfl) [(Value.int .i64 t10_Major), (Value.int .i64 t10_Minor), (Value.int .i64 t10_Patch)] (by kernel_rfl) (fun w => by kernel_rfl) (by kernel_rfl) (stw.mono h fun vw5 h => ?_)) 
  refine vcL_nil ?_
  refine Vc.ret ?_
  refine outs_ret ?_
  obtain ⟨r_Major, r_Minor, r_Patch, hc6, h⟩ := h
  refine done_mk (Value.agg #[(Value.int .i64 r_Major), (Value.int .i64 r_Minor), (Value.int .i64 r_Patch)]) (res1 (resC_cell (by kernel_rfl) (run_loadN (fun w => by kernel_rfl) (fun w => by kernel_rfl) hc6))) ?_
  exact ⟨r_Major, r_Minor, r_Patch, rfl, h⟩
theorem halyardref03_at.go {n : Int} {w : World} {k : Value → World → Prop} (h : halyardref03_at n w fun r0 r1 r2 w' => k (Value.agg #[(Value.int .i64 r0), (Value.int .i64 r1), (Value.int .i64 r2)]) w') : callS Tryz.prog 96 [(Value.int .i64 n)] w k := (halyardref03_at.sound n w _ h).mono (by rintro _ _ ⟨r0, r1, r2, rfl, h⟩; exact h)

/-- halyard/vers.May -/
def vers_May (v_Major : Int) (v_Minor : Int) (v_Patch : Int) (w : World) (R : Bool → World → Prop) : Prop :=
  newS w [(Value.int .i64 v_Major), (Value.int .i64 v_Minor), (Value.int .i64 v_Patch)] 30 fun a vw => ∃ (t6 : Int), (ldc vw a [(Value.int .i64 t6)]) ∧ ∃ (t8 : Int), (ldc vw (a.add 1) [(Value.int .i64 t8)]) ∧ ∃ (t10 : Int), (ldc vw (a.add 2) [(Value.int .i64 t10)]) ∧ loop1 0 vw fun t12 vw3 nxt => ((t12 < 3 → ((0 : Int) ≤ t12 ∧ t12 < 3) ∧ bnd (decide ((List.getD [t6, t8, t10] t12.toNat 0) < 0)) fun (b : Bool) => (((b || (decide (999 < (List.getD [t6, t8, t10] t12.toNat 0)))) = true → R false vw3) ∧ ((b || (decide (999 < (List.getD [t6, t8, t10] t12.toNat 0)))) = false → nxt (wrapI (t12 + 1)) vw3))) ∧ (¬ (t12 < 3) → R true vw3))
set_option maxHeartbeats 8000000 in
theorem vers_May.sound (v_Major : Int) (v_Minor : Int) (v_Patch : Int) (w : World) (R : Bool → World → Prop) (h : vers_May v_Major v_Minor v_Patch w R) : callS Tryz.prog 97 [(Value.agg #[(Value.int .i64 v_Major), (Value.int .i64 v_Minor), (Value.int .i64 v_Patch)])] w (fun v w' => ∃ (r0 : Bool), v = (Value.bool r0) ∧ R r0 w') := by
  unfold vers_May at h
  refine calls_of_vc 22 rfl Tryz.func97 rfl (by kernel_rfl) (by simp) ?_
  refine Vc.seq ?_
  refine Vc.region ?_
  refine vcL_eff rfl (opVC_new rfl (fun a => Value.pointer (some a)) (by kernel_rfl) (newS.mono h fun a vw hx h => ?_)) 
  refine vcL_pure rfl rfl (Value.bool false) (fun w => by kernel_rfl) ?_
  refine vcL_nil ?_
  refine Vc.seq ?_
  refine Vc.seq ?_
  refine Vc.region ?_
  refine vcL_pure rfl rfl (Value.pointer (some a)) (fun w => by kernel_rfl) ?_
  obtain ⟨t6, hc, h⟩ := h
  refine vcL_val rfl rfl (Value.int .i64 t6) (exec_load rfl (by kernel_rfl) (run_load1 (fun w => by kernel_rfl) ((hc)))) ?_
  refine vcL_pure rfl rfl (Value.pointer (some (a.add 1))) (fun w => by kernel_rfl) ?_
  obtain ⟨t8, hc1, h⟩ := h
  refine vcL_val rfl rfl (Value.int .i64 t8) (exec_load rfl (by kernel_rfl) (run_load1 (fun w => by kernel_rfl) ((hc1)))) ?_
  refine vcL_pure rfl rfl (Value.pointer (some (a.add 2))) (fun w => by kernel_rfl) ?_
  obtain ⟨t10, hc2, h⟩ := h
  refine vcL_val rfl rfl (Value.int .i64 t10) (exec_load rfl (by kernel_rfl) (run_load1 (fun w => by kernel_rfl) ((hc2)))) ?_
  refine vcL_purs 2 [(12, (Value.int .i64 0)), (11, (Value.agg #[(Value.int .i64 t6), (Value.int .i64 t8), (Value.int .i64 t10)]))] (by kernel_rfl) ?_
  refine vcL_nil ?_
  refine Vc.block ?_
  obtain ⟨vI, mu, h, hr⟩ := h
  refine Vc.loopJ (σ := Int) [12] [2, 4, 13, 14, 15, 16, 17, 18, 19, 20, 21] (fun s => [(12, (Value.int .i64 s))]) (fun s w => vI s w) (fun s w => mu s w) 0 h (fun _ => rfl) (by kernel_rfl) ?_
  intro t12 vw3 j h
  have h := hr t12 vw3 h
  refine Vc.seq ?_
  refine Vc.region ?_
  refine vcL_pure rfl rfl (Value.bool (decide (t12 < 3))) (fun w => by kernel_rfl) ?_
  refine vcL_nil ?_
  refine Vc.seq ?_
  refine Vc.cond (decide (t12 < 3)) (by kernel_rfl) (fun hb => ?_) (fun hb => ?_)
  · have h := h.1 (of_decide_eq_true hb)
    refine Vc.skip ?_
    refine Vc.seq ?_
    refine Vc.block ?_
    refine Vc.seq ?_
    refine Vc.region ?_
    obtain ⟨hi, h⟩ := h
    refine vcL_pure rfl rfl (Value.int .i64 (List.getD [t6, t8, t10] t12.toNat 0)) (fun w => by exact exec_indexArr (xs := [t6, t8, t10]) (el := 3) rfl (by kernel_rfl) (by kernel_rfl) (by kernel_rfl) (fun w => by kernel_rfl) (fun w => by kernel_rfl) rfl (hi).1 (hi).2 w) ?_
    refine vcL_pure rfl rfl (Value.int .i64 (List.getD [t6, t8, t10] t12.toNat 0)) (fun w => by kernel_rfl) ?_
    refine vcL_nil ?_
    refine Vc.seq ?_
    refine Vc.region ?_
    refine vcL_purs 2 [(16, (Value.bool (decide ((List.getD [t6, t8, t10] t12.toNat 0) < 0)))), (15, (Value.int .i64 (List.getD [t6, t8, t10] t12.toNat 0)))] (by kernel_rfl) ?_
    obtain ⟨b, hb⟩ : ∃ y, y = (decide ((List.getD [t6, t8, t10] t12.toNat 0) < 0)) := ⟨_, rfl⟩
    have h := h b hb
    refine vcL_pure rfl rfl (Value.bool b) (fun w => by rw [hb]; kernel_rfl) ?_
    refine vcL_guardP (!b) (wanted_g (d := 17) rfl (by kernel_rfl) b (by kernel_rfl) (!b) (eqF b)) rfl (Value.int .i64 (List.getD [t6, t8, t10] t12.toNat 0)) (fun hg w => by simp only [Bool.and_eq_true, Bool.not_eq_true'] at hg; obtain rfl := hg; kernel_rfl) ?_
    refine vcL_guardP (!b) (wanted_g (d := 17) rfl (by kernel_rfl) b (by kernel_rfl) (!b) (eqF b)) rfl (Value.bool (decide (999 < (List.getD [t6, t8, t10] t12.toNat 0)))) (fun hg w => by simp only [Bool.and_eq_true, Bool.not_eq_true'] at hg; obtain rfl := hg; kernel_rfl) ?_
    refine vcL_pure rfl rfl (Value.bool (b || (decide (999 < (List.getD [t6, t8, t10] t12.toNat 0))))) (fun w => by cases b <;> kernel_rfl) ?_
    refine vcL_nil ?_
    refine Vc.cond (b || (decide (999 < (List.getD [t6, t8, t10] t12.toNat 0)))) (by kernel_rfl) (fun hb => ?_) (fun hb => ?_)
    · have h := h.1 (hb)
      refine Vc.seq ?_
      refine Vc.region ?_
      refine vcL_pure rfl rfl (Value.bool false) (fun w => by kernel_rfl) ?_
      refine vcL_nil ?_
      refine Vc.ret ?_
      refine outOf_ret ?_
      refine outOf_ret ?_
      refine outs_ret ?_
      refine done_mk (Value.bool false) (res1 (resC_tmp (by kernel_rfl))) ?_
      exact ⟨false, rfl, h⟩
    · have h := h.2 (hb)
      refine Vc.skip ?_
      refine Vc.region ?_
      refine vcL_purs 2 [(12, (Value.int .i64 (wrapI (t12 + 1)))), (21, (Value.int .i64 (wrapI (t12 + 1))))] (by kernel_rfl) ?_
      refine vcL_nil ?_
      exact ⟨(wrapI (t12 + 1)), 23, ⟨rfl, by kernel_rfl, by kernel_rfl, by kernel_rfl⟩, h⟩
  · have h := h.2 (of_decide_eq_false hb)
    refine Vc.exit ?_
    refine outOf_hit ?_
    refine Vc.seq ?_
    refine Vc.region ?_
    refine vcL_pure rfl rfl (Value.bool true) (fun w => by kernel_rfl) ?_
    refine vcL_nil ?_
    refine Vc.ret ?_
    refine outs_ret ?_
    refine done_mk (Value.bool true) (res1 (resC_tmp (by kernel_rfl))) ?_
    exact ⟨true, rfl, h⟩
theorem vers_May.go {v_Major : Int} {v_Minor : Int} {v_Patch : Int} {w : World} {k : Value → World → Prop} (h : vers_May v_Major v_Minor v_Patch w fun r0 w' => k (Value.bool r0) w') : callS Tryz.prog 97 [(Value.agg #[(Value.int .i64 v_Major), (Value.int .i64 v_Minor), (Value.int .i64 v_Patch)])] w k := (vers_May.sound v_Major v_Minor v_Patch w _ h).mono (by rintro _ _ ⟨r0, rfl, h⟩; exact h)

/-- slices.ContainsFunc[[]halyard/api.Span,halyard/api.Span] -/
def slices_ContainsFunc_apiSpanapiSpan (vs : Sl) (f : Value) (w : World) (R : Bool → World → Prop) : Prop :=
  callS Tryz.prog 128 [(Sl.v vs), f] w fun v vw => ∃ (t7 : Int), v = (Value.int .i64 t7) ∧ R (decide (0 ≤ t7)) vw
set_option maxHeartbeats 8000000 in
theorem slices_ContainsFunc_apiSpanapiSpan.sound (vs : Sl) (f : Value) (w : World) (R : Bool → World → Prop) (h : slices_ContainsFunc_apiSpanapiSpan vs f w R) : callS Tryz.prog 98 [(Sl.v vs), f] w (fun v w' => ∃ (r0 : Bool), v = (Value.bool r0) ∧ R r0 w') := by
  unfold slices_ContainsFunc_apiSpanapiSpan at h
  refine calls_of_vc 9 rfl Tryz.func98 rfl (by kernel_rfl) (by simp) ?_
  refine Vc.seq ?_
  refine Vc.region ?_
  refine vcL_pure rfl rfl (Value.bool false) (fun w => by kernel_rfl) ?_
  refine vcL_nil ?_
  refine Vc.seq ?_
  refine Vc.region ?_
  refine vcL_purs 2 [(6, f), (5, (Sl.v vs))] (by kernel_rfl) ?_
  refine vcL_eff rfl (opVC_call rfl (by kernel_rfl) (callS.mono h fun v vw h => ?_)) 
  obtain ⟨t7, rfl, h⟩ := h
  refine vcL_purs 2 [(4, (Value.bool (decide (0 ≤ t7)))), (8, (Value.bool (decide (0 ≤ t7))))] (by kernel_rfl) ?_
  refine vcL_nil ?_
  refine Vc.ret ?_
  refine outs_ret ?_
  refine done_mk (Value.bool (decide (0 ≤ t7))) (res1 (resC_tmp (by kernel_rfl))) ?_
  exact ⟨(decide (0 ≤ t7)), rfl, h⟩
theorem slices_ContainsFunc_apiSpanapiSpan.go {vs : Sl} {f : Value} {w : World} {k : Value → World → Prop} (h : slices_ContainsFunc_apiSpanapiSpan vs f w fun r0 w' => k (Value.bool r0) w') : callS Tryz.prog 98 [(Sl.v vs), f] w k := (slices_ContainsFunc_apiSpanapiSpan.sound vs f w _ h).mono (by rintro _ _ ⟨r0, rfl, h⟩; exact h)

/-- halyard/span.In$1 -/
def span_In_1 (x_Lo_Major : Int) (x_Lo_Minor : Int) (x_Lo_Patch : Int) (x_Hi_Major : Int) (x_Hi_Minor : Int) (x_Hi_Patch : Int) (c0 : Addr) (w : World) (R : Bool → World → Prop) : Prop :=
  newS w [(Value.int .i64 x_Lo_Major), (Value.int .i64 x_Lo_Minor), (Value.int .i64 x_Lo_Patch), (Value.int .i64 x_Hi_Major), (Value.int .i64 x_Hi_Minor), (Value.int .i64 x_Hi_Patch)] 83 fun a vw => ∃ (t5_Major : Int) (t5_Minor : Int) (t5_Patch : Int), (ldc vw a [(Value.int .i64 t5_Major), (Value.int .i64 t5_Minor), (Value.int .i64 t5_Patch)]) ∧ ∃ (t6_Major : Int) (t6_Minor : Int) (t6_Patch : Int), (ldc vw c0 [(Value.int .i64 t6_Major), (Value.int .i64 t6_Minor), (Value.int .i64 t6_Patch)]) ∧ callS Tryz.prog 100 [(Value.agg #[(Value.int .i64 t5_Major), (Value.int .i64 t5_Minor), (Value.int .i64 t5_Patch)]), (Value.agg #[(Value.int .i64 t6_Major), (Value.int .i64 t6_Minor), (Value.int .i64 t6_Patch)])] vw fun v vw2 => ∃ (t7 : Int), v = (Value.int .i64 t7) ∧ bnd (decide (t7 ≤ 0)) fun (b : Bool) => ∃ (t10_Major : Int) (t10_Minor : Int) (t10_Patch : Int), grd b (ldc vw2 c0 [(Value.int .i64 t10_Major), (Value.int .i64 t10_Minor), (Value.int .i64 t10_Patch)]) ∧ ∃ (t12_Major : Int) (t12_Minor : Int) (t12_Patch : Int), grd b (ldc vw2 (a.add 3) [(Value.int .i64 t12_Major), (Value.int .i64 t12_Minor), (Value.int .i64 t12_Patch)]) ∧ gCall b (fun (t13 : Int) (vw5 : World) => R (b && (decide (t13 ≤ 0))) vw5) (fun q => callS Tryz.prog 100 [(Value.agg #[(Value.int .i64 t10_Major), (Value.int .i64 t10_Minor), (Value.int .i64 t10_Patch)]), (Value.agg #[(Value.int .i64 t12_Major), (Value.int .i64 t12_Minor), (Value.int .i64 t12_Patch)])] vw2 fun v6 vw5 => ∃ (t13 : Int), v6 = (Value.int .i64 t13) ∧ q t13 vw5) (fun q => q 0 vw2)
set_option maxHeartbeats 8000000 in
theorem span_In_1.sound (x_Lo_Major : Int) (x_Lo_Minor : Int) (x_Lo_Patch : Int) (x_Hi_Major : Int) (x_Hi_Minor : Int) (x_Hi_Patch : Int) (c0 : Addr) (w : World) (R : Bool → World → Prop) (h : span_In_1 x_Lo_Major x_Lo_Minor x_Lo_Patch x_Hi_Major x_Hi_Minor x_Hi_Patch c0 w R) : callS Tryz.prog 99 [(Value.agg #[(Value.int .i64 x_Lo_Major), (Value.int .i64 x_Lo_Minor), (Value.int .i64 x_Lo_Patch), (Value.int .i64 x_Hi_Major), (Value.int .i64 x_Hi_Minor), (Value.int .i64 x_Hi_Patch)]), (Value.pointer (some c0))] w (fun v w' => ∃ (r0 : Bool), v = (Value.bool r0) ∧ R r0 w') := by
  unfold span_In_1 at h
  refine calls_of_vc 16 rfl Tryz.func99 rfl (by kernel_rfl) (by simp) ?_
  refine Vc.seq ?_
  refine Vc.region ?_
  refine vcL_eff rfl (opVC_new rfl (fun a => Value.pointer (some a)) (by kernel_rfl) (newS.mono h fun a vw hx h => ?_)) 
  refine vcL_pure rfl rfl (Value.bool false) (fun w => by kernel_rfl) ?_
  refine vcL_nil ?_
  refine Vc.seq ?_
  refine Vc.region ?_
  refine vcL_pure rfl rfl (Value.pointer (some a)) (fun w => by kernel_rfl) ?_
  obtain ⟨t5_Major, t5_Minor, t5_Patch, hc, h⟩ := h
  refine vcL_val rfl rfl (Value.agg #[(Value.int .i64 t5_Major), (Value.int .i64 t5_Minor), (Value.int .i64 t5_Patch)]) (exec_load rfl (by kernel_rfl) (run_loadN (fun w => by kernel_rfl) (fun w => by kernel_rfl) ((hc)))) ?_
  obtain ⟨t6_Major, t6_Minor, t6_Patch, hc1, h⟩ := h
  refine vcL_val rfl rfl (Value.agg #[(Value.int .i64 t6_Major), (Value.int .i64 t6_Minor), (Value.int .i64 t6_Patch)]) (exec_load rfl (by kernel_rfl) (run_loadN (fun w => by kernel_rfl) (fun w => by kernel_rfl) ((hc1)))) ?_
  refine vcL_eff rfl (opVC_call rfl (by kernel_rfl) (callS.mono h fun v vw2 h => ?_)) 
  obtain ⟨t7, rfl, h⟩ := h
  refine vcL_pure rfl rfl (Value.bool (decide (t7 ≤ 0))) (fun w => by kernel_rfl) ?_
  obtain ⟨b, hb⟩ : ∃ y, y = (decide (t7 ≤ 0)) := ⟨_, rfl⟩
  have h := h b hb
  refine vcL_pure rfl rfl (Value.bool b) (fun w => by rw [hb]; kernel_rfl) ?_
  obtain ⟨t10_Major, t10_Minor, t10_Patch, hc3, h⟩ := h
  refine vcL_guard b (wanted_g (d := 9) rfl (by kernel_rfl) b (by kernel_rfl) b (eqT b)) rfl (Value.agg #[(Value.int .i64 t10_Major), (Value.int .i64 t10_Minor), (Value.int .i64 t10_Patch)]) (fun hg => by subst hg; exact exec_load rfl (by kernel_rfl) (run_loadN (fun w => by kernel_rfl) (fun w => by kernel_rfl) ((hc3 rfl)))) ?_
  refine vcL_guardP b (wanted_g (d := 9) rfl (by kernel_rfl) b (by kernel_rfl) b (eqT b)) rfl (Value.pointer (some (a.add 3))) (fun hg w => by subst hg; kernel_rfl) ?_
  obtain ⟨t12_Major, t12_Minor, t12_Patch, hc4, h⟩ := h
  refine vcL_guard b (wanted_g (d := 9) rfl (by kernel_rfl) b (by kernel_rfl) b (eqT b)) rfl (Value.agg #[(Value.int .i64 t12_Major), (Value.int .i64 t12_Minor), (Value.int .i64 t12_Patch)]) (fun hg => by subst hg; exact exec_load rfl (by kernel_rfl) (run_loadN (fun w => by kernel_rfl) (fun w => by kernel_rfl) ((hc4 rfl)))) ?_
  obtain ⟨vJ, hJ, h⟩ := gCall_elim h
  refine vcL_effJ (σ := Int) b (wanted_g (d := 9) rfl (by kernel_rfl) b (by kernel_rfl) b (eqT b)) rfl (fun s w => vJ s w) (fun s => (Value.int .i64 s)) ?_ (fun hg => opVC_call rfl (by subst hg; kernel_rfl) (callS.mono (h.1 hg) fun v6 vw5 hq => ?_)) (fun hg => ⟨0, h.2 hg⟩)
  · intro t13 vw5 h
    subst hJ
    refine vcL_guardP b (wanted_g (d := 9) rfl (by kernel_rfl) b (by kernel_rfl) b (eqT b)) rfl (Value.bool (decide (t13 ≤ 0))) (fun hg w => by subst hg; kernel_rfl) ?_
    refine vcL_pure rfl rfl (Value.bool (b && (decide (t13 ≤ 0)))) (fun w => by cases b <;> kernel_rfl) ?_
    refine vcL_pure rfl rfl (Value.bool (b && (decide (t13 ≤ 0)))) (fun w => by kernel_rfl) ?_
    refine vcL_nil ?_
    refine Vc.ret ?_
    refine outs_ret ?_
    refine done_mk (Value.bool (b && (decide (t13 ≤ 0)))) (res1 (resC_tmp (by kernel_rfl))) ?_
    exact ⟨(b && (decide (t13 ≤ 0))), rfl, h⟩
  · obtain ⟨t13, rfl, hq⟩ := hq
    exact ⟨t13, rfl, hq⟩
theorem span_In_1.go {x_Lo_Major : Int} {x_Lo_Minor : Int} {x_Lo_Patch : Int} {x_Hi_Major : Int} {x_Hi_Minor : Int} {x_Hi_Patch : Int} {c0 : Addr} {w : World} {k : Value → World → Prop} (h : span_In_1 x_Lo_Major x_Lo_Minor x_Lo_Patch x_Hi_Major x_Hi_Minor x_Hi_Patch c0 w fun r0 w' => k (Value.bool r0) w') : callS Tryz.prog 99 [(Value.agg #[(Value.int .i64 x_Lo_Major), (Value.int .i64 x_Lo_Minor), (Value.int .i64 x_Lo_Patch), (Value.int .i64 x_Hi_Major), (Value.int .i64 x_Hi_Minor), (Value.int .i64 x_Hi_Patch)]), (Value.pointer (some c0))] w k := (span_In_1.sound x_Lo_Major x_Lo_Minor x_Lo_Patch x_Hi_Major x_Hi_Minor x_Hi_Patch c0 w _ h).mono (by rintro _ _ ⟨r0, rfl, h⟩; exact h)

/-- halyard/vers.Compare -/
def vers_Compare (a_Major : Int) (a_Minor : Int) (a_Patch : Int) (b_Major : Int) (b_Minor : Int) (b_Patch : Int) (w : World) (R : Int → World → Prop) : Prop :=
  newS w [(Value.int .i64 a_Major), (Value.int .i64 a_Minor), (Value.int .i64 a_Patch)] 30 fun a vw => newS vw [(Value.int .i64 b_Major), (Value.int .i64 b_Minor), (Value.int .i64 b_Patch)] 30 fun a1 vw2 => bnd vw2.drew fun (vw3 : World) => ∃ (t6 : Int), (ldc vw3 a [(Value.int .i64 t6)]) ∧ ∃ (t8 : Int), (ldc vw3 a1 [(Value.int .i64 t8)]) ∧ ∃ (t11 : Int), (ldc vw3 (a.add 1) [(Value.int .i64 t11)]) ∧ ∃ (t13 : Int), (ldc vw3 (a1.add 1) [(Value.int .i64 t13)]) ∧ ∃ (t16 : Int), (ldc vw3 (a.add 2) [(Value.int .i64 t16)]) ∧ ∃ (t18 : Int), (ldc vw3 (a1.add 2) [(Value.int .i64 t18)]) ∧ callX Tryz.prog 129 [(Value.int .i64 t6), (Value.int .i64 t8)] vw3 fun v vw9 => ∃ (t9 : Int), v = (Value.int .i64 t9) ∧ callX Tryz.prog 129 [(Value.int .i64 t11), (Value.int .i64 t13)] vw9 fun v11 vw10 => ∃ (t14 : Int), v11 = (Value.int .i64 t14) ∧ callS Tryz.prog 129 [(Value.int .i64 t16), (Value.int .i64 t18)] vw10 fun v14 vw13 => ∃ (t19 : Int), v14 = (Value.int .i64 t19) ∧ newS vw13 [(Value.int .i64 t9), (Value.int .i64 t14), (Value.int .i64 t19)] 3 fun a16 vw17 => callS Tryz.prog 76 [(Sl.v (Sl.mk (some a16) 3 3))] vw17 fun v19 vw18 => ∃ (t21 : Int), v19 = (Value.int .i64 t21) ∧ R t21 vw18
set_option maxHeartbeats 8000000 in
theorem vers_Compare.sound (a_Major : Int) (a_Minor : Int) (a_Patch : Int) (b_Major : Int) (b_Minor : Int) (b_Patch : Int) (w : World) (R : Int → World → Prop) (h : vers_Compare a_Major a_Minor a_Patch b_Major b_Minor b_Patch w R) : callS Tryz.prog 100 [(Value.agg #[(Value.int .i64 a_Major), (Value.int .i64 a_Minor), (Value.int .i64 a_Patch)]), (Value.agg #[(Value.int .i64 b_Major), (Value.int .i64 b_Minor), (Value.int .i64 b_Patch)])] w (fun v w' => ∃ (r0 : Int), v = (Value.int .i64 r0) ∧ R r0 w') := by
  unfold vers_Compare at h
  refine calls_of_vc 22 rfl Tryz.func100 rfl (by kernel_rfl) (by simp) ?_
  refine Vc.seq ?_
  refine Vc.region ?_
  refine vcL_eff rfl (opVC_new rfl (fun a => Value.pointer (some a)) (by kernel_rfl) (newS.mono h fun a vw hx h => ?_)) 
  refine vcL_eff rfl (opVC_new rfl (fun a => Value.pointer (some a)) (by kernel_rfl) (newS.mono h fun a1 vw2 hx h => ?_)) 
  refine vcL_pure rfl rfl (Value.int .i64 0) (fun w => by kernel_rfl) ?_
  refine vcL_nil ?_
  refine Vc.seq ?_
  obtain ⟨vw3, hvw3⟩ : ∃ y, y = vw2.drew := ⟨_, rfl⟩
  have h := h vw3 hvw3
  refine Vc.draw (by kernel_rfl) (fun i => !(memN [14, 15, 16] i)) (.pur 0 (.val 1 (.pur 2 (.val 3 (.pur 5 (.val 6 (.pur 7 (.val 8 (.pur 10 (.val 11 (.pur 12 (.val 13 (.eff 4 (.eff 9 (.eff 14 (.eff 15 (.eff 16 (.pur 17 .fin) .stop) .stop) .stop) .stop) .stop))))))))))))) (by kernel_rfl) ?_
  rw [← hvw3]
  clear hvw3
  refine vcS_pure rfl rfl rfl (Value.pointer (some a)) (fun w => by kernel_rfl) ?_
  obtain ⟨t6, hc, h⟩ := h
  refine vcS_val rfl rfl rfl (Value.int .i64 t6) (fun w' hx => exec_load rfl (by kernel_rfl) (run_load1 (fun w => by kernel_rfl) ((hc).ext hx))) ?_
  refine vcS_pure rfl rfl rfl (Value.pointer (some a1)) (fun w => by kernel_rfl) ?_
  obtain ⟨t8, hc4, h⟩ := h
  refine vcS_val rfl rfl rfl (Value.int .i64 t8) (fun w' hx => exec_load rfl (by kernel_rfl) (run_load1 (fun w => by kernel_rfl) ((hc4).ext hx))) ?_
  refine vcS_pure rfl rfl rfl (Value.pointer (some (a.add 1))) (fun w => by kernel_rfl) ?_
  obtain ⟨t11, hc5, h⟩ := h
  refine vcS_val rfl rfl rfl (Value.int .i64 t11) (fun w' hx => exec_load rfl (by kernel_rfl) (run_load1 (fun w => by kernel_rfl) ((hc5).ext hx))) ?_
  refine vcS_pure rfl rfl rfl (Value.pointer (some (a1.add 1))) (fun w => by kernel_rfl) ?_
  obtain ⟨t13, hc6, h⟩ := h
  refine vcS_val rfl rfl rfl (Value.int .i64 t13) (fun w' hx => exec_load rfl (by kernel_rfl) (run_load1 (fun w => by kernel_rfl) ((hc6).ext hx))) ?_
  refine vcS_pure rfl rfl rfl (Value.pointer (some (a.add 2))) (fun w => by kernel_rfl) ?_
  obtain ⟨t16, hc7, h⟩ := h
  refine vcS_val rfl rfl rfl (Value.int .i64 t16) (fun w' hx => exec_load rfl (by kernel_rfl) (run_load1 (fun w => by kernel_rfl) ((hc7).ext hx))) ?_
  refine vcS_pure rfl rfl rfl (Value.pointer (some (a1.add 2))) (fun w => by kernel_rfl) ?_
  obtain ⟨t18, hc8, h⟩ := h
  refine vcS_val rfl rfl rfl (Value.int .i64 t18) (fun w' hx => exec_load rfl (by kernel_rfl) (run_load1 (fun w => by kernel_rfl) ((hc8).ext hx))) ?_
  refine vcS_eff rfl rfl (opVC_call rfl (by kernel_rfl) (callS.mono h fun v vw9 h => ?_)) vcS_stop
  obtain ⟨hx, h⟩ := h
  obtain ⟨t9, rfl, h⟩ := h
  refine ⟨fun _ => hx, ?_⟩
  refine vcS_eff rfl rfl (opVC_call rfl (by kernel_rfl) (callS.mono h fun v11 vw10 h => ?_)) vcS_stop
  obtain ⟨hx12, h⟩ := h
  obtain ⟨t14, rfl, h⟩ := h
  refine ⟨fun _ => hx12, ?_⟩
  refine vcS_eff rfl rfl (opVC_call rfl (by kernel_rfl) (callS.mono h fun v14 vw13 h => ?_)) vcS_stop
  obtain ⟨t19, rfl, h⟩ := h
  refine ⟨fun hb => absurd hb (by decide), ?_⟩
  refine vcS_eff rfl rfl (opVC_new rfl (fun a => Value.slice (some a) 3 3) (by kernel_rfl) (newS.mono h fun a16 vw17 hx h => ?_)) vcS_stop
  refine ⟨fun hb => absurd hb (by decide), ?_⟩
  refine vcS_eff rfl rfl (opVC_call rfl (by kernel_rfl) (callS.mono h fun v19 vw18 h => ?_)) vcS_stop
  obtain ⟨t21, rfl, h⟩ := h
  refine ⟨fun hb => absurd hb (by decide), ?_⟩
  refine vcS_pure rfl rfl rfl (Value.int .i64 t21) (fun w => by kernel_rfl) ?_
  refine vcS_fin ?_
  refine Vc.ret ?_
  refine outs_ret ?_
  refine done_mk (Value.int .i64 t21) (res1 (resC_tmp (by kernel_rfl))) ?_
  exact ⟨t21, rfl, h⟩
theorem vers_Compare.go {a_Major : Int} {a_Minor : Int} {a_Patch : Int} {b_Major : Int} {b_Minor : Int} {b_Patch : Int} {w : World} {k : Value → World → Prop} (h : vers_Compare a_Major a_Minor a_Patch b_Major b_Minor b_Patch w fun r0 w' => k (Value.int .i64 r0) w') : callS Tryz.prog 100 [(Value.agg #[(Value.int .i64 a_Major), (Value.int .i64 a_Minor), (Value.int .i64 a_Patch)]), (Value.agg #[(Value.int .i64 b_Major), (Value.int .i64 b_Minor), (Value.int .i64 b_Patch)])] w k := (vers_Compare.sound a_Major a_Minor a_Patch b_Major b_Minor b_Patch w _ h).mono (by rintro _ _ ⟨r0, rfl, h⟩; exact h)

/-- halyard/scan.Name -/
def scan_Name (vs : ByteArray) (w : World) (R : Bool → World → Prop) : Prop :=
  callS Tryz.prog 141 [(Value.string vs), (Value.string (ByteArray.mk #[97, 98, 99, 100, 101, 102, 103, 104, 105, 106, 107, 108, 109, 110, 111, 112, 113, 114, 115, 116, 117, 118, 119, 120, 121, 122]))] w fun v vw => ∃ (t5 : ByteArray), v = (Value.string t5) ∧ bnd (!bEq vs (ByteArray.mk #[])) fun (b : Bool) => bnd (b && (decide ((vs.size : Int) ≤ 16))) fun (b1 : Bool) => bnd (b1 && (!bEq t5 vs)) fun (b2 : Bool) => gCall b2 (fun (t20 : ByteArray) (vw3 : World) => R (b2 && (bEq t20 (ByteArray.mk #[]))) vw3) (fun q => callS Tryz.prog 142 [(Value.string t5), (Value.string (ByteArray.mk #[97, 98, 99, 100, 101, 102, 103, 104, 105, 106, 107, 108, 109, 110, 111, 112, 113, 114, 115, 116, 117, 118, 119, 120, 121, 122, 48, 49, 50, 51, 52, 53, 54, 55, 56, 57, 45]))] vw fun v4 vw3 => ∃ (t20 : ByteArray), v4 = (Value.string t20) ∧ q t20 vw3) (fun q => q (ByteArray.mk #[]) vw)
set_option maxHeartbeats 8000000 in
theorem scan_Name.sound (vs : ByteArray) (w : World) (R : Bool → World → Prop) (h : scan_Name vs w R) : callS Tryz.prog 104 [(Value.string vs)] w (fun v w' => ∃ (r0 : Bool), v = (Value.bool r0) ∧ R r0 w') := by
  unfold scan_Name at h
  refine calls_of_vc 23 rfl Tryz.func104 rfl (by kernel_rfl) (by simp) ?_
  refine Vc.seq ?_
  refine Vc.region ?_
  refine vcL_pure rfl rfl (Value.bool false) (fun w => by kernel_rfl) ?_
  refine vcL_nil ?_
  refine Vc.seq ?_
  refine Vc.region ?_
  refine vcL_pure rfl rfl (Value.string vs) (fun w => by kernel_rfl) ?_
  refine vcL_eff rfl (opVC_call rfl (by kernel_rfl) (callS.mono h fun v vw h => ?_)) 
  obtain ⟨t5, rfl, h⟩ := h
  refine vcL_pure rfl rfl (Value.string t5) (fun w => by kernel_rfl) ?_
  refine vcL_nil ?_
  refine Vc.seq ?_
  refine Vc.region ?_
  refine vcL_purs 2 [(7, (Value.bool (!bEq vs (ByteArray.mk #[])))), (6, (Value.string vs))] (by kernel_rfl) ?_
  obtain ⟨b, hb⟩ : ∃ y, y = (!bEq vs (ByteArray.mk #[])) := ⟨_, rfl⟩
  have h := h b hb
  refine vcL_pure rfl rfl (Value.bool b) (fun w => by rw [hb]; kernel_rfl) ?_
  refine vcL_guardP b (wanted_g (d := 8) rfl (by kernel_rfl) b (by kernel_rfl) b (eqT b)) rfl (Value.string vs) (fun hg w => by subst hg; kernel_rfl) ?_
  refine vcL_guardP b (wanted_g (d := 8) rfl (by kernel_rfl) b (by kernel_rfl) b (eqT b)) rfl (Value.int .i64 (vs.size : Int)) (fun hg w => by subst hg; kernel_rfl) ?_
  refine vcL_guardP b (wanted_g (d := 8) rfl (by kernel_rfl) b (by kernel_rfl) b (eqT b)) rfl (Value.bool (decide ((vs.size : Int) ≤ 16))) (fun hg w => by subst hg; kernel_rfl) ?_
  refine vcL_pure rfl rfl (Value.bool (b && (decide ((vs.size : Int) ≤ 16)))) (fun w => by cases b <;> kernel_rfl) ?_
  obtain ⟨b1, hb1⟩ : ∃ y, y = (b && (decide ((vs.size : Int) ≤ 16))) := ⟨_, rfl⟩
  have h := h b1 hb1
  refine vcL_pure rfl rfl (Value.bool b1) (fun w => by rw [hb1]; kernel_rfl) ?_
  refine vcL_guardP b1 (wanted_g (d := 13) rfl (by kernel_rfl) b1 (by kernel_rfl) b1 (eqT b1)) rfl (Value.string t5) (fun hg w => by subst hg; kernel_rfl) ?_
  refine vcL_guardP b1 (wanted_g (d := 13) rfl (by kernel_rfl) b1 (by kernel_rfl) b1 (eqT b1)) rfl (Value.string vs) (fun hg w => by subst hg; kernel_rfl) ?_
  refine vcL_guardP b1 (wanted_g (d := 13) rfl (by kernel_rfl) b1 (by kernel_rfl) b1 (eqT b1)) rfl (Value.bool (!bEq t5 vs)) (fun hg w => by subst hg; kernel_rfl) ?_
  refine vcL_pure rfl rfl (Value.bool (b1 && (!bEq t5 vs))) (fun w => by cases b1 <;> kernel_rfl) ?_
  obtain ⟨b2, hb2⟩ : ∃ y, y = (b1 && (!bEq t5 vs)) := ⟨_, rfl⟩
  have h := h b2 hb2
  refine vcL_pure rfl rfl (Value.bool b2) (fun w => by rw [hb2]; kernel_rfl) ?_
  refine vcL_guardP b2 (wanted_g (d := 18) rfl (by kernel_rfl) b2 (by kernel_rfl) b2 (eqT b2)) rfl (Value.string t5) (fun hg w => by subst hg; kernel_rfl) ?_
  obtain ⟨vJ, hJ, h⟩ := gCall_elim h
  refine vcL_effJ (σ := ByteArray) b2 (wanted_g (d := 18) rfl (by kernel_rfl) b2 (by kernel_rfl) b2 (eqT b2)) rfl (fun s w => vJ s w) (fun s => (Value.string s)) ?_ (fun hg => opVC_call rfl (by subst hg; kernel_rfl) (callS.mono (h.1 hg) fun v4 vw3 hq => ?_)) (fun hg => ⟨(ByteArray.mk #[]), h.2 hg⟩)
  · intro t20 vw3 h
    subst hJ
    refine vcL_guardP b2 (wanted_g (d := 18) rfl (by kernel_rfl) b2 (by kernel_rfl) b2 (eqT b2)) rfl (Value.bool (bEq t20 (ByteArray.mk #[]))) (fun hg w => by subst hg; kernel_rfl) ?_
    refine vcL_pure rfl rfl (Value.bool (b2 && (bEq t20 (ByteArray.mk #[])))) (fun w => by cases b2 <;> kernel_rfl) ?_
    refine vcL_pure rfl rfl (Value.bool (b2 && (bEq t20 (ByteArray.mk #[])))) (fun w => by kernel_rfl) ?_
    refine vcL_nil ?_
    refine Vc.ret ?_
    refine outs_ret ?_
    refine done_mk (Value.bool (b2 && (bEq t20 (ByteArray.mk #[])))) (res1 (resC_tmp (by kernel_rfl))) ?_
    exact ⟨(b2 && (bEq t20 (ByteArray.mk #[]))), rfl, h⟩
  · obtain ⟨t20, rfl, hq⟩ := hq
    exact ⟨t20, rfl, hq⟩
theorem scan_Name.go {vs : ByteArray} {w : World} {k : Value → World → Prop} (h : scan_Name vs w fun r0 w' => k (Value.bool r0) w') : callS Tryz.prog 104 [(Value.string vs)] w k := (scan_Name.sound vs w _ h).mono (by rintro _ _ ⟨r0, rfl, h⟩; exact h)

end Go.Hal.SE
