/- Lemmas for the claim K09i: how the program's functions run, and what they answer; no condition but those that each theorem names. -/
import Derived.Test.YtfaabhimmojeaaaGreatDoorProg
import Derived.Test.YtfaabhimmojeaaaGreatDoorK09iA0
set_option linter.unusedVariables false
set_option linter.unusedSimpArgs false
namespace Go.Hal.SE
open Go Go.RowKit Go.Hal Go.Proofs
set_option maxRecDepth 100000
namespace Eq2
theorem eqv_30 (d : Nat) (a0 : Int) (a1 : Int) (a2 : Int) (b0 : Int) (b1 : Int) (b2 : Int) (w : World) : (Op.equalIn (d + 2) 30 (.agg #[(Value.int .i64 a0), (Value.int .i64 a1), (Value.int .i64 a2)]) (.agg #[(Value.int .i64 b0), (Value.int .i64 b1), (Value.int .i64 b2)])).run Tryz.prog w = .ok ((a0 == b0) && ((a1 == b1) && ((a2 == b2) && true))) w :=
  (eqS (by kernel_rfl) (by kernel_rfl) (fs := [⟨ "Major", 3, 0, false, "", "", 0⟩, ⟨ "Minor", 3, 1, false, "", "", 8⟩, ⟨ "Patch", 3, 2, false, "", "", 16⟩]) (by kernel_rfl) (eqF_cons (x := (Value.int .i64 a0)) (y := (Value.int .i64 b0)) rfl (by kernel_rfl) (by kernel_rfl) (run_equalIn_int w _ 3 .i64 .i64 a0 b0 (by kernel_rfl)) (eqF_cons (x := (Value.int .i64 a1)) (y := (Value.int .i64 b1)) rfl (by kernel_rfl) (by kernel_rfl) (run_equalIn_int w _ 3 .i64 .i64 a1 b1 (by kernel_rfl)) (eqF_cons (x := (Value.int .i64 a2)) (y := (Value.int .i64 b2)) rfl (by kernel_rfl) (by kernel_rfl) (run_equalIn_int w _ 3 .i64 .i64 a2 b2 (by kernel_rfl)) eqF_nil))))
theorem eqv_157 (d : Nat) (a0 : Int) (a1 : Int) (b0 : Int) (b1 : Int) (w : World) : (Op.equalIn (d + 2) 157 (.agg #[(Value.int .i64 a0), (Value.int .i64 a1)]) (.agg #[(Value.int .i64 b0), (Value.int .i64 b1)])).run Tryz.prog w = .ok ((a0 == b0) && ((a1 == b1) && true)) w :=
  (eqS (by kernel_rfl) (by kernel_rfl) (fs := [⟨ "lo", 3, 0, false, "", "halyard/span", 0⟩, ⟨ "hi", 3, 1, false, "", "halyard/span", 8⟩]) (by kernel_rfl) (eqF_cons (x := (Value.int .i64 a0)) (y := (Value.int .i64 b0)) rfl (by kernel_rfl) (by kernel_rfl) (run_equalIn_int w _ 3 .i64 .i64 a0 b0 (by kernel_rfl)) (eqF_cons (x := (Value.int .i64 a1)) (y := (Value.int .i64 b1)) rfl (by kernel_rfl) (by kernel_rfl) (run_equalIn_int w _ 3 .i64 .i64 a1 b1 (by kernel_rfl)) eqF_nil)))
end Eq2
open Eq2
/-- halyard/pack.list -/
def pack_list (l : Sl) (w : World) (R : Bool → World → Prop) : Prop :=
  loop1 0 w fun t7 vw nxt => ((t7 < (l.len : Int) → ∃ (ad : Addr), (l.a = some ad ∧ (0 : Int) ≤ t7 ∧ t7 < (l.len : Int)) ∧ ∃ (t11_Name : ByteArray) (t11_Range : Sl), (ldc vw (ad.add (t7.toNat * 2)) [(Value.string t11_Name), (Sl.v t11_Range)]) ∧ newS vw [(Value.string (ByteArray.mk #[])), (Sl.v Sl.nil)] 81 fun a vw1 => stw vw1 a [(Value.string t11_Name), (Sl.v t11_Range)] fun vw2 => bnd vw2.drew fun (vw3 : World) => ∃ (t13 : ByteArray), (ldc vw3 a [(Value.string t13)]) ∧ callS Tryz.prog 104 [(Value.string t13)] vw3 fun v vw5 => ∃ (t14 : Bool), v = (Value.bool t14) ∧ bnd (!t14) fun (b : Bool) => ∃ (t18 : Sl), grd (!b) (ldc vw5 (a.add 1) [(Sl.v t18)]) ∧ gCall (!b) (fun (t19 : Bool) (vw7 : World) => bnd (b || (!t19)) fun (b10 : Bool) => ∃ (t24 : Sl), grd (!b10) (ldc vw7 (a.add 1) [(Sl.v t24)]) ∧ bnd (b10 || ((t24.len : Int) == 0)) fun (b12 : Bool) => bnd (decide (0 < t7)) fun (b13 : Bool) => ∃ (ad14 : Addr), grd ((!b12) && b13) (l.a = some ad14 ∧ (0 : Int) ≤ (wrapI (t7 - 1)) ∧ (wrapI (t7 - 1)) < (l.len : Int)) ∧ ∃ (t37 : ByteArray), grd ((!b12) && b13) (ldc vw7 (ad14.add ((wrapI (t7 - 1)).toNat * 2)) [(Value.string t37)]) ∧ ∃ (t39 : ByteArray), grd ((!b12) && b13) (ldc vw7 a [(Value.string t39)]) ∧ (((b12 || (b13 && (!bLt t37 t39))) = true → R false vw7) ∧ ((b12 || (b13 && (!bLt t37 t39))) = false → nxt (wrapI (t7 + 1)) vw7))) (fun q => callS Tryz.prog 91 [(Sl.v t18)] vw5 fun v8 vw7 => ∃ (t19 : Bool), v8 = (Value.bool t19) ∧ q t19 vw7) (fun q => q false vw5)) ∧ (¬ (t7 < (l.len : Int)) → R (decide ((l.len : Int) ≤ 16)) vw))
set_option maxHeartbeats 8000000 in
theorem pack_list.sound (l : Sl) (w : World) (R : Bool → World → Prop) (h : pack_list l w R) : callS Tryz.prog 105 [(Sl.v l)] w (fun v w' => ∃ (r0 : Bool), v = (Value.bool r0) ∧ R r0 w') := by
  unfold pack_list at h
  refine calls_of_vc 47 rfl Tryz.func105 rfl (by kernel_rfl) (by simp) ?_
  refine Vc.seq ?_
  refine Vc.region ?_
  refine vcL_pure rfl rfl (Value.bool false) (fun w => by kernel_rfl) ?_
  refine vcL_nil ?_
  refine Vc.seq ?_
  refine Vc.seq ?_
  refine Vc.region ?_
  refine vcL_purs 3 [(7, (Value.int .i64 0)), (6, (Value.int .i64 (l.len : Int))), (5, (Sl.v l))] (by kernel_rfl) ?_
  refine vcL_nil ?_
  refine Vc.block ?_
  obtain ⟨vI, mu, h, hr⟩ := h
  refine Vc.loopJ (σ := Int) [7] [2, 3, 4, 8, 9, 10, 11, 12, 13, 14, 15, 16, 17, 18, 19, 20, 21, 22, 23, 24, 25, 26, 27, 28, 29, 30, 31, 32, 33, 34, 35, 36, 37, 38, 39, 40, 41, 42, 43] (fun s => [(7, (Value.int .i64 s))]) (fun s w => vI s w) (fun s w => mu s w) 0 h (fun _ => rfl) (by kernel_rfl) ?_
  intro t7 vw j h
  have h := hr t7 vw h
  refine Vc.seq ?_
  refine Vc.region ?_
  refine vcL_pure rfl rfl (Value.bool (decide (t7 < (l.len : Int)))) (fun w => by kernel_rfl) ?_
  refine vcL_nil ?_
  refine Vc.seq ?_
  refine Vc.cond (decide (t7 < (l.len : Int))) (by kernel_rfl) (fun hb => ?_) (fun hb => ?_)
  · have h := h.1 (of_decide_eq_true hb)
    refine Vc.skip ?_
    refine Vc.seq ?_
    refine Vc.block ?_
    refine Vc.seq ?_
    refine Vc.region ?_
    refine vcL_pure rfl rfl (Value.int .i64 t7) (fun w => by kernel_rfl) ?_
    obtain ⟨ad, hi, h⟩ := h
    refine vcL_pure rfl rfl (Value.pointer (some (ad.add (t7.toNat * 2)))) (fun w => by exact exec_indexAt (s := l) (el := 81) rfl (by kernel_rfl) (by kernel_rfl) (by kernel_rfl) (fun w => by kernel_rfl) (hi).1 (hi).2.1 (hi).2.2 w) ?_
    obtain ⟨t11_Name, t11_Range, hc, h⟩ := h
    refine vcL_val rfl rfl (Value.agg #[(Value.string t11_Name), (Sl.v t11_Range)]) (exec_load rfl (by kernel_rfl) (run_loadN (fun w => by kernel_rfl) (fun w => by kernel_rfl) ((hc)))) ?_
    refine vcL_eff rfl (opVC_new rfl (fun a => Value.pointer (some a)) (by kernel_rfl) (newS.mono h fun a vw1 hx h => ?_)) 
    refine vcL_pure rfl rfl (Value.int .i64 t7) (fun w => by kernel_rfl) ?_
    refine vcL_eff rfl (opVC_store rfl rfl (a := a) (by kernel_rfl) (v := (Value.agg #[(Value.string t11_Name), (Sl.v t11_Range)])) (by kernel_rfl) [(Value.string t11_Name), (Sl.v t11_Range)] (by kernel_rfl) (fun w => by kernel_rfl) (by kernel_rfl) (stw.mono h fun vw2 h => ?_)) 
    refine vcL_nil ?_
    refine Vc.seq ?_
    obtain ⟨vw3, hvw3⟩ : ∃ y, y = vw2.drew := ⟨_, rfl⟩
    have h := h vw3 hvw3
    refine Vc.draw (by kernel_rfl) (fun i => !(memN [2, 7] i)) (.pur 0 (.val 1 (.eff 2 (.pur 3 (.pur 4 (.pur 5 (.val 6 (.eff 7 (.pur 8 (.pur 9 (.pur 10 (.pur 11 (.val 12 (.pur 13 (.pur 14 (.pur 15 (.pur 16 (.pur 17 (.pur 18 (.pur 19 (.pur 20 (.pur 21 (.pur 22 (.pur 23 (.pur 24 (.val 25 (.pur 26 (.val 27 (.pur 28 (.pur 29 (.pur 30 .fin))))))))))))))))))))))) .stop))))) .stop))) (by kernel_rfl) ?_
    rw [← hvw3]
    clear hvw3
    refine vcS_pure rfl rfl rfl (Value.pointer (some a)) (fun w => by kernel_rfl) ?_
    obtain ⟨t13, hc4, h⟩ := h
    refine vcS_val rfl rfl rfl (Value.string t13) (fun w' hx => exec_load rfl (by kernel_rfl) (run_load1 (fun w => by kernel_rfl) ((hc4).ext hx))) ?_
    refine vcS_eff rfl rfl (opVC_call rfl (by kernel_rfl) (callS.mono h fun v vw5 h => ?_)) vcS_stop
    obtain ⟨t14, rfl, h⟩ := h
    refine ⟨fun hb => absurd hb (by decide), ?_⟩
    refine vcS_pure rfl rfl rfl (Value.bool (!t14)) (fun w => by kernel_rfl) ?_
    obtain ⟨b, hb⟩ : ∃ y, y = (!t14) := ⟨_, rfl⟩
    have h := h b hb
    refine vcS_pure rfl rfl rfl (Value.bool b) (fun w => by rw [hb]; kernel_rfl) ?_
    refine vcS_guard rfl (!b) (wanted_g (d := 16) rfl (by kernel_rfl) b (by kernel_rfl) (!b) (eqF b)) rfl (Value.pointer (some (a.add 1))) (fun hg w => by simp only [Bool.and_eq_true, Bool.not_eq_true'] at hg; obtain rfl := hg; kernel_rfl) ?_
    obtain ⟨t18, hc6, h⟩ := h
    refine vcS_valG rfl (!b) (wanted_g (d := 16) rfl (by kernel_rfl) b (by kernel_rfl) (!b) (eqF b)) rfl (Sl.v t18) (fun hg w' hx => by simp only [Bool.and_eq_true, Bool.not_eq_true'] at hg; obtain rfl := hg; exact exec_load rfl (by kernel_rfl) (run_load1 (fun w => by kernel_rfl) ((hc6 rfl).ext hx))) ?_
    obtain ⟨vJ, hJ, h⟩ := gCall_elim h
    refine vcS_effJ (σ := Bool) rfl (!b) (wanted_g (d := 16) rfl (by kernel_rfl) b (by kernel_rfl) (!b) (eqF b)) rfl (fun s w => vJ s w) (fun s => (Value.bool s)) ?_ (fun hg => opVC_call rfl (by simp only [Bool.and_eq_true, Bool.not_eq_true'] at hg; obtain rfl := hg; kernel_rfl) (callS.mono (h.1 hg) fun v8 vw7 hq => ?_)) (fun hg => ⟨false, h.2 hg⟩) vcS_stop
    · intro t19 vw7 h
      subst hJ
      refine vcS_guard rfl (!b) (wanted_g (d := 16) rfl (by kernel_rfl) b (by kernel_rfl) (!b) (eqF b)) rfl (Value.bool (!t19)) (fun hg w => by simp only [Bool.and_eq_true, Bool.not_eq_true'] at hg; obtain rfl := hg; kernel_rfl) ?_
      refine vcS_pure rfl rfl rfl (Value.bool (b || (!t19))) (fun w => by cases b <;> kernel_rfl) ?_
      obtain ⟨b10, hb10⟩ : ∃ y, y = (b || (!t19)) := ⟨_, rfl⟩
      have h := h b10 hb10
      refine vcS_pure rfl rfl rfl (Value.bool b10) (fun w => by rw [hb10]; kernel_rfl) ?_
      refine vcS_guard rfl (!b10) (wanted_g (d := 22) rfl (by kernel_rfl) b10 (by kernel_rfl) (!b10) (eqF b10)) rfl (Value.pointer (some (a.add 1))) (fun hg w => by simp only [Bool.and_eq_true, Bool.not_eq_true'] at hg; obtain rfl := hg; kernel_rfl) ?_
      obtain ⟨t24, hc11, h⟩ := h
      refine vcS_valG rfl (!b10) (wanted_g (d := 22) rfl (by kernel_rfl) b10 (by kernel_rfl) (!b10) (eqF b10)) rfl (Sl.v t24) (fun hg w' hx => by simp only [Bool.and_eq_true, Bool.not_eq_true'] at hg; obtain rfl := hg; exact exec_load rfl (by kernel_rfl) (run_load1 (fun w => by kernel_rfl) ((hc11 rfl).ext hx))) ?_
      refine vcS_guard rfl (!b10) (wanted_g (d := 22) rfl (by kernel_rfl) b10 (by kernel_rfl) (!b10) (eqF b10)) rfl (Value.int .i64 (t24.len : Int)) (fun hg w => by simp only [Bool.and_eq_true, Bool.not_eq_true'] at hg; obtain rfl := hg; kernel_rfl) ?_
      refine vcS_guard rfl (!b10) (wanted_g (d := 22) rfl (by kernel_rfl) b10 (by kernel_rfl) (!b10) (eqF b10)) rfl (Value.bool ((t24.len : Int) == 0)) (fun hg w => by simp only [Bool.and_eq_true, Bool.not_eq_true'] at hg; obtain rfl := hg; kernel_rfl) ?_
      refine vcS_pure rfl rfl rfl (Value.bool (b10 || ((t24.len : Int) == 0))) (fun w => by cases b10 <;> kernel_rfl) ?_
      obtain ⟨b12, hb12⟩ : ∃ y, y = (b10 || ((t24.len : Int) == 0)) := ⟨_, rfl⟩
      have h := h b12 hb12
      refine vcS_pure rfl rfl rfl (Value.bool b12) (fun w => by rw [hb12]; kernel_rfl) ?_
      refine vcS_guard rfl (!b12) (wanted_g (d := 28) rfl (by kernel_rfl) b12 (by kernel_rfl) (!b12) (eqF b12)) rfl (Value.int .i64 t7) (fun hg w => by simp only [Bool.and_eq_true, Bool.not_eq_true'] at hg; obtain rfl := hg; kernel_rfl) ?_
      refine vcS_guard rfl (!b12) (wanted_g (d := 28) rfl (by kernel_rfl) b12 (by kernel_rfl) (!b12) (eqF b12)) rfl (Value.bool (decide (0 < t7))) (fun hg w => by simp only [Bool.and_eq_true, Bool.not_eq_true'] at hg; obtain rfl := hg; kernel_rfl) ?_
      obtain ⟨b13, hb13⟩ : ∃ y, y = (decide (0 < t7)) := ⟨_, rfl⟩
      have h := h b13 hb13
      refine vcS_guard rfl (!b12) (wanted_g (d := 28) rfl (by kernel_rfl) b12 (by kernel_rfl) (!b12) (eqF b12)) rfl (Value.bool b13) (fun hg w => by simp only [Bool.and_eq_true, Bool.not_eq_true'] at hg; obtain rfl := hg; rw [hb13]; kernel_rfl) ?_
      refine vcS_guard rfl ((!b12) && b13) (wanted_gg (d := 31) rfl (by kernel_rfl) (!b12) b13 (by kernel_rfl) ((!b12) && b13) (eqTT (!b12) b13)) rfl (Sl.v l) (fun hg w => by simp only [Bool.and_eq_true, Bool.not_eq_true'] at hg; obtain ⟨rfl, rfl⟩ := hg; kernel_rfl) ?_
      refine vcS_guard rfl ((!b12) && b13) (wanted_gg (d := 31) rfl (by kernel_rfl) (!b12) b13 (by kernel_rfl) ((!b12) && b13) (eqTT (!b12) b13)) rfl (Value.int .i64 t7) (fun hg w => by simp only [Bool.and_eq_true, Bool.not_eq_true'] at hg; obtain ⟨rfl, rfl⟩ := hg; kernel_rfl) ?_
      refine vcS_guard rfl ((!b12) && b13) (wanted_gg (d := 31) rfl (by kernel_rfl) (!b12) b13 (by kernel_rfl) ((!b12) && b13) (eqTT (!b12) b13)) rfl (Value.int .i64 (wrapI (t7 - 1))) (fun hg w => by simp only [Bool.and_eq_true, Bool.not_eq_true'] at hg; obtain ⟨rfl, rfl⟩ := hg; kernel_rfl) ?_
      obtain ⟨ad14, hi15, h⟩ := h
      refine vcS_guard rfl ((!b12) && b13) (wanted_gg (d := 31) rfl (by kernel_rfl) (!b12) b13 (by kernel_rfl) ((!b12) && b13) (eqTT (!b12) b13)) rfl (Value.pointer (some (ad14.add ((wrapI (t7 - 1)).toNat * 2)))) (fun hg w => by simp only [Bool.and_eq_true, Bool.not_eq_true'] at hg; obtain ⟨rfl, rfl⟩ := hg; exact exec_indexAt (s := l) (el := 81) rfl (by kernel_rfl) (by kernel_rfl) (by kernel_rfl) (fun w => by kernel_rfl) (hi15 rfl).1 (hi15 rfl).2.1 (hi15 rfl).2.2 w) ?_
      refine vcS_guard rfl ((!b12) && b13) (wanted_gg (d := 31) rfl (by kernel_rfl) (!b12) b13 (by kernel_rfl) ((!b12) && b13) (eqTT (!b12) b13)) rfl (Value.pointer (some (ad14.add ((wrapI (t7 - 1)).toNat * 2)))) (fun hg w => by simp only [Bool.and_eq_true, Bool.not_eq_true'] at hg; obtain ⟨rfl, rfl⟩ := hg; kernel_rfl) ?_
      obtain ⟨t37, hc16, h⟩ := h
      refine vcS_valG rfl ((!b12) && b13) (wanted_gg (d := 31) rfl (by kernel_rfl) (!b12) b13 (by kernel_rfl) ((!b12) && b13) (eqTT (!b12) b13)) rfl (Value.string t37) (fun hg w' hx => by simp only [Bool.and_eq_true, Bool.not_eq_true'] at hg; obtain ⟨rfl, rfl⟩ := hg; exact exec_load rfl (by kernel_rfl) (run_load1 (fun w => by kernel_rfl) ((hc16 rfl).ext hx))) ?_
      refine vcS_guard rfl ((!b12) && b13) (wanted_gg (d := 31) rfl (by kernel_rfl) (!b12) b13 (by kernel_rfl) ((!b12) && b13) (eqTT (!b12) b13)) rfl (Value.pointer (some a)) (fun hg w => by simp only [Bool.and_eq_true, Bool.not_eq_true'] at hg; obtain ⟨rfl, rfl⟩ := hg; kernel_rfl) ?_
      obtain ⟨t39, hc17, h⟩ := h
      refine vcS_valG rfl ((!b12) && b13) (wanted_gg (d := 31) rfl (by kernel_rfl) (!b12) b13 (by kernel_rfl) ((!b12) && b13) (eqTT (!b12) b13)) rfl (Value.string t39) (fun hg w' hx => by simp only [Bool.and_eq_true, Bool.not_eq_true'] at hg; obtain ⟨rfl, rfl⟩ := hg; exact exec_load rfl (by kernel_rfl) (run_load1 (fun w => by kernel_rfl) ((hc17 rfl).ext hx))) ?_
      refine vcS_guard rfl ((!b12) && b13) (wanted_gg (d := 31) rfl (by kernel_rfl) (!b12) b13 (by kernel_rfl) ((!b12) && b13) (eqTT (!b12) b13)) rfl (Value.bool (!bLt t37 t39)) (fun hg w => by simp only [Bool.and_eq_true, Bool.not_eq_true'] at hg; obtain ⟨rfl, rfl⟩ := hg; kernel_rfl) ?_
      refine vcS_guard rfl (!b12) (wanted_g (d := 28) rfl (by kernel_rfl) b12 (by kernel_rfl) (!b12) (eqF b12)) rfl (Value.bool (b13 && (!bLt t37 t39))) (fun hg w => by simp only [Bool.and_eq_true, Bool.not_eq_true'] at hg; obtain rfl := hg; cases b13 <;> kernel_rfl) ?_
      refine vcS_pure rfl rfl rfl (Value.bool (b12 || (b13 && (!bLt t37 t39)))) (fun w => by cases b12 <;> kernel_rfl) ?_
      refine vcS_fin ?_
      refine Vc.cond (b12 || (b13 && (!bLt t37 t39))) (by kernel_rfl) (fun hb => ?_) (fun hb => ?_)
      · have h := h.1 (hb)
        refine Vc.seq ?_
        refine Vc.region ?_
        refine vcL_pure rfl rfl (Value.bool false) (fun w => by kernel_rfl) ?_
        refine vcL_nil ?_
        refine Vc.ret ?_
        refine outOf_ret ?_
        refine outOf_ret ?_
        refine outs_ret ?_
        refine done_mk (Value.bool false) (res1 (resC_tmp (by kernel_rfl))) ?_
        exact ⟨false, rfl, h⟩
      · have h := h.2 (hb)
        refine Vc.skip ?_
        refine Vc.region ?_
        refine vcL_purs 2 [(7, (Value.int .i64 (wrapI (t7 + 1)))), (43, (Value.int .i64 (wrapI (t7 + 1))))] (by kernel_rfl) ?_
        refine vcL_nil ?_
        exact ⟨(wrapI (t7 + 1)), 79, ⟨rfl, by kernel_rfl, by kernel_rfl, by kernel_rfl⟩, h⟩
    · obtain ⟨t19, rfl, hq⟩ := hq
      exact ⟨fun hb => absurd hb (by decide), t19, rfl, hq⟩
  · have h := h.2 (of_decide_eq_false hb)
    refine Vc.exit ?_
    refine outOf_hit ?_
    refine Vc.seq ?_
    refine Vc.region ?_
    refine vcL_purs 4 [(2, (Value.bool (decide ((l.len : Int) ≤ 16)))), (46, (Value.bool (decide ((l.len : Int) ≤ 16)))), (45, (Value.int .i64 (l.len : Int))), (44, (Sl.v l))] (by kernel_rfl) ?_
    refine vcL_nil ?_
    refine Vc.ret ?_
    refine outs_ret ?_
    refine done_mk (Value.bool (decide ((l.len : Int) ≤ 16))) (res1 (resC_tmp (by kernel_rfl))) ?_
    exact ⟨(decide ((l.len : Int) ≤ 16)), rfl, h⟩
theorem pack_list.go {l : Sl} {w : World} {k : Value → World → Prop} (h : pack_list l w fun r0 w' => k (Value.bool r0) w') : callS Tryz.prog 105 [(Sl.v l)] w k := (pack_list.sound l w _ h).mono (by rintro _ _ ⟨r0, rfl, h⟩; exact h)

/-- halyard/pack.apart -/
def pack_apart (lists : Sl) (w : World) (R : Bool → World → Prop) : Prop :=
  semS Tryz.prog (Instr.makeMap 178 none) w fun v vw => ∃ (t8 : Option Nat), v = (Value.map t8) ∧ loop1 0 vw fun t11 vw1 nxt => ((t11 < (lists.len : Int) → ∃ (ad : Addr), (lists.a = some ad ∧ (0 : Int) ≤ t11 ∧ t11 < (lists.len : Int)) ∧ ∃ (t14 : Sl), (ldc vw1 (ad.add (t11.toNat * 1)) [(Sl.v t14)]) ∧ loop1 0 vw1 fun t17 vw2 nxt3 => ((t17 < (t14.len : Int) → ∃ (ad4 : Addr), (t14.a = some ad4 ∧ (0 : Int) ≤ t17 ∧ t17 < (t14.len : Int)) ∧ ∃ (t20_Name : ByteArray) (t20_Range : Sl), (ldc vw2 (ad4.add (t17.toNat * 2)) [(Value.string t20_Name), (Sl.v t20_Range)]) ∧ newS vw2 [(Value.string (ByteArray.mk #[])), (Sl.v Sl.nil)] 81 fun a vw7 => stw vw7 a [(Value.string t20_Name), (Sl.v t20_Range)] fun vw8 => ∃ (t23 : ByteArray), (ldc vw8 a [(Value.string t23)]) ∧ semS Tryz.prog (Instr.lookup 178 (Value.map t8) (Value.string t23) false) vw8 fun v11 vw10 => ∃ (t24 : Int), v11 = (Value.int .i64 t24) ∧ semU Tryz.prog (Instr.mapUpdate 178 (Value.map t8) (Value.string t23) (Value.int .i64 (wrapI (t24 + 1)))) vw10 fun vw12 => ∃ (t28 : ByteArray), (ldc vw12 a [(Value.string t28)]) ∧ semS Tryz.prog (Instr.lookup 178 (Value.map t8) (Value.string t28) false) vw12 fun v15 vw14 => ∃ (t29 : Int), v15 = (Value.int .i64 t29) ∧ ((1 < t29 → R false vw14) ∧ (¬ (1 < t29) → nxt3 (wrapI (t17 + 1)) vw14))) ∧ (¬ (t17 < (t14.len : Int)) → nxt (wrapI (t11 + 1)) vw2))) ∧ (¬ (t11 < (lists.len : Int)) → R true vw1))
set_option maxHeartbeats 8000000 in
theorem pack_apart.sound (lists : Sl) (w : World) (R : Bool → World → Prop) (h : pack_apart lists w R) : callS Tryz.prog 106 [(Sl.v lists)] w (fun v w' => ∃ (r0 : Bool), v = (Value.bool r0) ∧ R r0 w') := by
  unfold pack_apart at h
  refine calls_of_vc 33 rfl Tryz.func106 rfl (by kernel_rfl) (by simp) ?_
  refine Vc.seq ?_
  refine Vc.region ?_
  refine vcL_pure rfl rfl (Value.bool false) (fun w => by kernel_rfl) ?_
  refine vcL_nil ?_
  refine Vc.seq ?_
  refine Vc.region ?_
  refine vcL_eff rfl (opVC_sem rfl (c := Instr.makeMap 178 none) (by kernel_rfl) (semS.mono h fun v vw h => ?_)) 
  obtain ⟨t8, rfl, h⟩ := h
  refine vcL_pure rfl rfl (Value.map t8) (fun w => by kernel_rfl) ?_
  refine vcL_nil ?_
  refine Vc.seq ?_
  refine Vc.seq ?_
  refine Vc.region ?_
  refine vcL_purs 3 [(11, (Value.int .i64 0)), (10, (Value.int .i64 (lists.len : Int))), (9, (Sl.v lists))] (by kernel_rfl) ?_
  refine vcL_nil ?_
  refine Vc.block ?_
  obtain ⟨vI16, mu17, h, hr18⟩ := h
  refine Vc.loopJ (σ := Int) [11] [2, 5, 7, 12, 13, 14, 15, 16, 17, 18, 19, 20, 21, 22, 23, 24, 25, 26, 27, 28, 29, 30, 31, 32] (fun s => [(11, (Value.int .i64 s))]) (fun s w => vI16 s w) (fun s w => mu17 s w) 0 h (fun _ => rfl) (by kernel_rfl) ?_
  intro t11 vw1 j h
  have h := hr18 t11 vw1 h
  refine Vc.seq ?_
  refine Vc.region ?_
  refine vcL_pure rfl rfl (Value.bool (decide (t11 < (lists.len : Int)))) (fun w => by kernel_rfl) ?_
  refine vcL_nil ?_
  refine Vc.seq ?_
  refine Vc.cond (decide (t11 < (lists.len : Int))) (by kernel_rfl) (fun hb => ?_) (fun hb => ?_)
  · have h := h.1 (of_decide_eq_true hb)
    refine Vc.skip ?_
    refine Vc.seq ?_
    refine Vc.block ?_
    refine Vc.seq ?_
    refine Vc.region ?_
    obtain ⟨ad, hi, h⟩ := h
    refine vcL_pure rfl rfl (Value.pointer (some (ad.add (t11.toNat * 1)))) (fun w => by exact exec_indexAt (s := lists) (el := 23) rfl (by kernel_rfl) (by kernel_rfl) (by kernel_rfl) (fun w => by kernel_rfl) (hi).1 (hi).2.1 (hi).2.2 w) ?_
    obtain ⟨t14, hc, h⟩ := h
    refine vcL_val rfl rfl (Sl.v t14) (exec_load rfl (by kernel_rfl) (run_load1 (fun w => by kernel_rfl) ((hc)))) ?_
    refine vcL_pure rfl rfl (Sl.v t14) (fun w => by kernel_rfl) ?_
    refine vcL_nil ?_
    refine Vc.seq ?_
    refine Vc.region ?_
    refine vcL_purs 3 [(17, (Value.int .i64 0)), (16, (Value.int .i64 (t14.len : Int))), (15, (Sl.v t14))] (by kernel_rfl) ?_
    refine vcL_nil ?_
    refine Vc.block ?_
    obtain ⟨vI, mu, h, hr⟩ := h
    refine Vc.loopJ (σ := Int) [17] [2, 7, 18, 19, 20, 21, 22, 23, 24, 25, 26, 27, 28, 29, 30, 31] (fun s => [(17, (Value.int .i64 s))]) (fun s w => vI s w) (fun s w => mu s w) 0 h (fun _ => rfl) (by kernel_rfl) ?_
    intro t17 vw2 j h
    have h := hr t17 vw2 h
    refine Vc.seq ?_
    refine Vc.region ?_
    refine vcL_pure rfl rfl (Value.bool (decide (t17 < (t14.len : Int)))) (fun w => by kernel_rfl) ?_
    refine vcL_nil ?_
    refine Vc.seq ?_
    refine Vc.cond (decide (t17 < (t14.len : Int))) (by kernel_rfl) (fun hb => ?_) (fun hb => ?_)
    · have h := h.1 (of_decide_eq_true hb)
      refine Vc.skip ?_
      refine Vc.seq ?_
      refine Vc.block ?_
      refine Vc.seq ?_
      refine Vc.region ?_
      obtain ⟨ad4, hi5, h⟩ := h
      refine vcL_pure rfl rfl (Value.pointer (some (ad4.add (t17.toNat * 2)))) (fun w => by exact exec_indexAt (s := t14) (el := 81) rfl (by kernel_rfl) (by kernel_rfl) (by kernel_rfl) (fun w => by kernel_rfl) (hi5).1 (hi5).2.1 (hi5).2.2 w) ?_
      obtain ⟨t20_Name, t20_Range, hc6, h⟩ := h
      refine vcL_val rfl rfl (Value.agg #[(Value.string t20_Name), (Sl.v t20_Range)]) (exec_load rfl (by kernel_rfl) (run_loadN (fun w => by kernel_rfl) (fun w => by kernel_rfl) ((hc6)))) ?_
      refine vcL_eff rfl (opVC_new rfl (fun a => Value.pointer (some a)) (by kernel_rfl) (newS.mono h fun a vw7 hx h => ?_)) 
      refine vcL_eff rfl (opVC_store rfl rfl (a := a) (by kernel_rfl) (v := (Value.agg #[(Value.string t20_Name), (Sl.v t20_Range)])) (by kernel_rfl) [(Value.string t20_Name), (Sl.v t20_Range)] (by kernel_rfl) (fun w => by kernel_rfl) (by kernel_rfl) (stw.mono h fun vw8 h => ?_)) 
      refine vcL_nil ?_
      refine Vc.seq ?_
      refine Vc.region ?_
      refine vcL_purs 2 [(22, (Value.pointer (some a))), (21, (Value.map t8))] (by kernel_rfl) ?_
      obtain ⟨t23, hc9, h⟩ := h
      refine vcL_val rfl rfl (Value.string t23) (exec_load rfl (by kernel_rfl) (run_load1 (fun w => by kernel_rfl) ((hc9)))) ?_
      refine vcL_eff rfl (opVC_sem rfl (c := Instr.lookup 178 (Value.map t8) (Value.string t23) false) (by kernel_rfl) (semS.mono h fun v11 vw10 h => ?_)) 
      obtain ⟨t24, rfl, h⟩ := h
      refine vcL_pure rfl rfl (Value.int .i64 (wrapI (t24 + 1))) (fun w => by kernel_rfl) ?_
      refine vcL_eff rfl (opVC_semU rfl (c := Instr.mapUpdate 178 (Value.map t8) (Value.string t23) (Value.int .i64 (wrapI (t24 + 1)))) (by kernel_rfl) (semU.mono h fun vw12 h => ?_)) 
      refine vcL_nil ?_
      refine Vc.seq ?_
      refine Vc.region ?_
      refine vcL_purs 2 [(27, (Value.pointer (some a))), (26, (Value.map t8))] (by kernel_rfl) ?_
      obtain ⟨t28, hc13, h⟩ := h
      refine vcL_val rfl rfl (Value.string t28) (exec_load rfl (by kernel_rfl) (run_load1 (fun w => by kernel_rfl) ((hc13)))) ?_
      refine vcL_eff rfl (opVC_sem rfl (c := Instr.lookup 178 (Value.map t8) (Value.string t28) false) (by kernel_rfl) (semS.mono h fun v15 vw14 h => ?_)) 
      obtain ⟨t29, rfl, h⟩ := h
      refine vcL_pure rfl rfl (Value.bool (decide (1 < t29))) (fun w => by kernel_rfl) ?_
      refine vcL_nil ?_
      refine Vc.cond (decide (1 < t29)) (by kernel_rfl) (fun hb => ?_) (fun hb => ?_)
      · have h := h.1 (of_decide_eq_true hb)
        refine Vc.seq ?_
        refine Vc.region ?_
        refine vcL_pure rfl rfl (Value.bool false) (fun w => by kernel_rfl) ?_
        refine vcL_nil ?_
        refine Vc.ret ?_
        refine outOf_ret ?_
        refine outOf_ret ?_
        refine outOf_ret ?_
        refine outOf_ret ?_
        refine outs_ret ?_
        refine done_mk (Value.bool false) (res1 (resC_tmp (by kernel_rfl))) ?_
        exact ⟨false, rfl, h⟩
      · have h := h.2 (of_decide_eq_false hb)
        refine Vc.skip ?_
        refine Vc.region ?_
        refine vcL_purs 2 [(17, (Value.int .i64 (wrapI (t17 + 1)))), (31, (Value.int .i64 (wrapI (t17 + 1))))] (by kernel_rfl) ?_
        refine vcL_nil ?_
        exact ⟨(wrapI (t17 + 1)), 33, ⟨rfl, by kernel_rfl, by kernel_rfl, by kernel_rfl⟩, h⟩
    · have h := h.2 (of_decide_eq_false hb)
      refine Vc.exit ?_
      refine outOf_hit ?_
      refine Vc.region ?_
      refine vcL_purs 2 [(11, (Value.int .i64 (wrapI (t11 + 1)))), (32, (Value.int .i64 (wrapI (t11 + 1))))] (by kernel_rfl) ?_
      refine vcL_nil ?_
      exact ⟨(wrapI (t11 + 1)), 52, ⟨rfl, by kernel_rfl, by kernel_rfl, by kernel_rfl⟩, h⟩
  · have h := h.2 (of_decide_eq_false hb)
    refine Vc.exit ?_
    refine outOf_hit ?_
    refine Vc.seq ?_
    refine Vc.region ?_
    refine vcL_pure rfl rfl (Value.bool true) (fun w => by kernel_rfl) ?_
    refine vcL_nil ?_
    refine Vc.ret ?_
    refine outs_ret ?_
    refine done_mk (Value.bool true) (res1 (resC_tmp (by kernel_rfl))) ?_
    exact ⟨true, rfl, h⟩
theorem pack_apart.go {lists : Sl} {w : World} {k : Value → World → Prop} (h : pack_apart lists w fun r0 w' => k (Value.bool r0) w') : callS Tryz.prog 106 [(Sl.v lists)] w k := (pack_apart.sound lists w _ h).mono (by rintro _ _ ⟨r0, rfl, h⟩; exact h)

/-- halyard/pack.text -/
def pack_text (p_Name : ByteArray) (p_Version_Major : Int) (p_Version_Minor : Int) (p_Version_Patch : Int) (p_Deps : Sl) (p_Peers : Sl) (p_Optional : Sl) (w : World) (R : ByteArray → World → Prop) : Prop :=
  newS w [(Value.string p_Name), (Value.int .i64 p_Version_Major), (Value.int .i64 p_Version_Minor), (Value.int .i64 p_Version_Patch), (Sl.v p_Deps), (Sl.v p_Peers), (Sl.v p_Optional)] 48 fun a vw => newS vw [(Value.pointer none), (Sl.v Sl.nil)] 182 fun a1 vw2 => bnd vw2.drew fun (vw3 : World) => ∃ (t5 : ByteArray), (ldc vw3 a [(Value.string t5)]) ∧ ((((ByteArray.mk #[112, 97, 99, 107, 97, 103, 101, 32]).size + t5.size : Nat) : Int) ≤ maxI) ∧ (((((ByteArray.mk #[112, 97, 99, 107, 97, 103, 101, 32]) ++ t5).size + (ByteArray.mk #[32]).size : Nat) : Int) ≤ maxI) ∧ ∃ (t9_Major : Int) (t9_Minor : Int) (t9_Patch : Int), (ldc vw3 (a.add 1) [(Value.int .i64 t9_Major), (Value.int .i64 t9_Minor), (Value.int .i64 t9_Patch)]) ∧ callX Tryz.prog 144 [(Value.agg #[(Value.int .i64 t9_Major), (Value.int .i64 t9_Minor), (Value.int .i64 t9_Patch)])] vw3 fun v vw6 => ∃ (t10 : ByteArray), v = (Value.string t10) ∧ ((((((ByteArray.mk #[112, 97, 99, 107, 97, 103, 101, 32]) ++ t5) ++ (ByteArray.mk #[32])).size + t10.size : Nat) : Int) ≤ maxI) ∧ (((((((ByteArray.mk #[112, 97, 99, 107, 97, 103, 101, 32]) ++ t5) ++ (ByteArray.mk #[32])) ++ t10).size + (ByteArray.mk #[10]).size : Nat) : Int) ≤ maxI) ∧ callS Tryz.prog 143 [(Value.pointer (some a1)), (Value.string (((((ByteArray.mk #[112, 97, 99, 107, 97, 103, 101, 32]) ++ t5) ++ (ByteArray.mk #[32])) ++ t10) ++ (ByteArray.mk #[10])))] vw6 fun v10 vw9 => ∃ (t13 : Int) (t13b : Value), v10 = (Value.tuple #[(Value.int .i64 t13), t13b]) ∧ ∃ (t15 : Sl), (ldc vw9 (a.add 4) [(Sl.v t15)]) ∧ callS Tryz.prog 145 [(Value.pointer (some a1)), (Value.string (ByteArray.mk #[110, 101, 101, 100, 115])), (Sl.v t15)] vw9 fun v14 vw13 => v14 = (Value.tuple #[]) ∧ ∃ (t18 : Sl), (ldc vw13 (a.add 5) [(Sl.v t18)]) ∧ callS Tryz.prog 145 [(Value.pointer (some a1)), (Value.string (ByteArray.mk #[98, 101, 115, 105, 100, 101])), (Sl.v t18)] vw13 fun v18 vw17 => v18 = (Value.tuple #[]) ∧ ∃ (t21 : Sl), (ldc vw17 (a.add 6) [(Sl.v t21)]) ∧ callS Tryz.prog 145 [(Value.pointer (some a1)), (Value.string (ByteArray.mk #[108, 105, 107, 101, 115])), (Sl.v t21)] vw17 fun v22 vw21 => v22 = (Value.tuple #[]) ∧ callS Tryz.prog 146 [(Value.pointer (some a1))] vw21 fun v25 vw24 => ∃ (t23 : ByteArray), v25 = (Value.string t23) ∧ R t23 vw24
set_option maxHeartbeats 8000000 in
theorem pack_text.sound (p_Name : ByteArray) (p_Version_Major : Int) (p_Version_Minor : Int) (p_Version_Patch : Int) (p_Deps : Sl) (p_Peers : Sl) (p_Optional : Sl) (w : World) (R : ByteArray → World → Prop) (h : pack_text p_Name p_Version_Major p_Version_Minor p_Version_Patch p_Deps p_Peers p_Optional w R) : callS Tryz.prog 107 [(Value.agg #[(Value.string p_Name), (Value.int .i64 p_Version_Major), (Value.int .i64 p_Version_Minor), (Value.int .i64 p_Version_Patch), (Sl.v p_Deps), (Sl.v p_Peers), (Sl.v p_Optional)])] w (fun v w' => ∃ (r0 : ByteArray), v = (Value.string r0) ∧ R r0 w') := by
  unfold pack_text at h
  refine calls_of_vc 24 rfl Tryz.func107 rfl (by kernel_rfl) (by simp) ?_
  refine Vc.seq ?_
  refine Vc.region ?_
  refine vcL_eff rfl (opVC_new rfl (fun a => Value.pointer (some a)) (by kernel_rfl) (newS.mono h fun a vw hx h => ?_)) 
  refine vcL_pure rfl rfl (Value.string (ByteArray.mk #[])) (fun w => by kernel_rfl) ?_
  refine vcL_nil ?_
  refine Vc.seq ?_
  refine Vc.region ?_
  refine vcL_eff rfl (opVC_new rfl (fun a => Value.pointer (some a)) (by kernel_rfl) (newS.mono h fun a1 vw2 hx h => ?_)) 
  refine vcL_nil ?_
  refine Vc.seq ?_
  obtain ⟨vw3, hvw3⟩ : ∃ y, y = vw2.drew := ⟨_, rfl⟩
  have h := h vw3 hvw3
  refine Vc.draw (by kernel_rfl) (fun i => !(memN [9] i)) (.pur 0 (.val 1 (.pur 2 (.pur 3 (.pur 4 (.val 5 (.eff 6 (.pur 7 (.pur 8 (.eff 9 .fin .stop))) .stop))))))) (by kernel_rfl) ?_
  rw [← hvw3]
  clear hvw3
  refine vcS_pure rfl rfl rfl (Value.pointer (some a)) (fun w => by kernel_rfl) ?_
  obtain ⟨t5, hc, h⟩ := h
  refine vcS_val rfl rfl rfl (Value.string t5) (fun w' hx => exec_load rfl (by kernel_rfl) (run_load1 (fun w => by kernel_rfl) ((hc).ext hx))) ?_
  obtain ⟨hi, h⟩ := h
  refine vcS_pure rfl rfl rfl (Value.string ((ByteArray.mk #[112, 97, 99, 107, 97, 103, 101, 32]) ++ t5)) (fun w => by exact exec_str_add (a := (ByteArray.mk #[112, 97, 99, 107, 97, 103, 101, 32])) (b := t5) rfl (by kernel_rfl) (by kernel_rfl) (hi) w) ?_
  obtain ⟨hi4, h⟩ := h
  refine vcS_pure rfl rfl rfl (Value.string (((ByteArray.mk #[112, 97, 99, 107, 97, 103, 101, 32]) ++ t5) ++ (ByteArray.mk #[32]))) (fun w => by exact exec_str_add (a := ((ByteArray.mk #[112, 97, 99, 107, 97, 103, 101, 32]) ++ t5)) (b := (ByteArray.mk #[32])) rfl (by kernel_rfl) (by kernel_rfl) (hi4) w) ?_
  refine vcS_pure rfl rfl rfl (Value.pointer (some (a.add 1))) (fun w => by kernel_rfl) ?_
  obtain ⟨t9_Major, t9_Minor, t9_Patch, hc5, h⟩ := h
  refine vcS_val rfl rfl rfl (Value.agg #[(Value.int .i64 t9_Major), (Value.int .i64 t9_Minor), (Value.int .i64 t9_Patch)]) (fun w' hx => exec_load rfl (by kernel_rfl) (run_loadN (fun w => by kernel_rfl) (fun w => by kernel_rfl) ((hc5).ext hx))) ?_
  refine vcS_eff rfl rfl (opVC_call rfl (by kernel_rfl) (callS.mono h fun v vw6 h => ?_)) vcS_stop
  obtain ⟨hx, h⟩ := h
  obtain ⟨t10, rfl, h⟩ := h
  refine ⟨fun _ => hx, ?_⟩
  obtain ⟨hi7, h⟩ := h
  refine vcS_pure rfl rfl rfl (Value.string ((((ByteArray.mk #[112, 97, 99, 107, 97, 103, 101, 32]) ++ t5) ++ (ByteArray.mk #[32])) ++ t10)) (fun w => by exact exec_str_add (a := (((ByteArray.mk #[112, 97, 99, 107, 97, 103, 101, 32]) ++ t5) ++ (ByteArray.mk #[32]))) (b := t10) rfl (by kernel_rfl) (by kernel_rfl) (hi7) w) ?_
  obtain ⟨hi8, h⟩ := h
  refine vcS_pure rfl rfl rfl (Value.string (((((ByteArray.mk #[112, 97, 99, 107, 97, 103, 101, 32]) ++ t5) ++ (ByteArray.mk #[32])) ++ t10) ++ (ByteArray.mk #[10]))) (fun w => by exact exec_str_add (a := ((((ByteArray.mk #[112, 97, 99, 107, 97, 103, 101, 32]) ++ t5) ++ (ByteArray.mk #[32])) ++ t10)) (b := (ByteArray.mk #[10])) rfl (by kernel_rfl) (by kernel_rfl) (hi8) w) ?_
  refine vcS_eff rfl rfl (opVC_call rfl (by kernel_rfl) (callS.mono h fun v10 vw9 h => ?_)) vcS_stop
  obtain ⟨t13, t13b, rfl, h⟩ := h
  refine ⟨fun hb => absurd hb (by decide), ?_⟩
  refine vcS_fin ?_
  refine Vc.seq ?_
  refine Vc.region ?_
  refine vcL_pure rfl rfl (Value.pointer (some (a.add 4))) (fun w => by kernel_rfl) ?_
  obtain ⟨t15, hc12, h⟩ := h
  refine vcL_val rfl rfl (Sl.v t15) (exec_load rfl (by kernel_rfl) (run_load1 (fun w => by kernel_rfl) ((hc12)))) ?_
  refine vcL_eff rfl (opVC_call rfl (by kernel_rfl) (callS.mono h fun v14 vw13 h => ?_)) 
  obtain ⟨rfl, h⟩ := h
  refine vcL_nil ?_
  refine Vc.seq ?_
  refine Vc.region ?_
  refine vcL_pure rfl rfl (Value.pointer (some (a.add 5))) (fun w => by kernel_rfl) ?_
  obtain ⟨t18, hc16, h⟩ := h
  refine vcL_val rfl rfl (Sl.v t18) (exec_load rfl (by kernel_rfl) (run_load1 (fun w => by kernel_rfl) ((hc16)))) ?_
  refine vcL_eff rfl (opVC_call rfl (by kernel_rfl) (callS.mono h fun v18 vw17 h => ?_)) 
  obtain ⟨rfl, h⟩ := h
  refine vcL_nil ?_
  refine Vc.seq ?_
  refine Vc.region ?_
  refine vcL_pure rfl rfl (Value.pointer (some (a.add 6))) (fun w => by kernel_rfl) ?_
  obtain ⟨t21, hc20, h⟩ := h
  refine vcL_val rfl rfl (Sl.v t21) (exec_load rfl (by kernel_rfl) (run_load1 (fun w => by kernel_rfl) ((hc20)))) ?_
  refine vcL_eff rfl (opVC_call rfl (by kernel_rfl) (callS.mono h fun v22 vw21 h => ?_)) 
  obtain ⟨rfl, h⟩ := h
  refine vcL_nil ?_
  refine Vc.seq ?_
  refine Vc.region ?_
  refine vcL_eff rfl (opVC_call rfl (by kernel_rfl) (callS.mono h fun v25 vw24 h => ?_)) 
  obtain ⟨t23, rfl, h⟩ := h
  refine vcL_pure rfl rfl (Value.string t23) (fun w => by kernel_rfl) ?_
  refine vcL_nil ?_
  refine Vc.ret ?_
  refine outs_ret ?_
  refine done_mk (Value.string t23) (res1 (resC_tmp (by kernel_rfl))) ?_
  exact ⟨t23, rfl, h⟩
theorem pack_text.go {p_Name : ByteArray} {p_Version_Major : Int} {p_Version_Minor : Int} {p_Version_Patch : Int} {p_Deps : Sl} {p_Peers : Sl} {p_Optional : Sl} {w : World} {k : Value → World → Prop} (h : pack_text p_Name p_Version_Major p_Version_Minor p_Version_Patch p_Deps p_Peers p_Optional w fun r0 w' => k (Value.string r0) w') : callS Tryz.prog 107 [(Value.agg #[(Value.string p_Name), (Value.int .i64 p_Version_Major), (Value.int .i64 p_Version_Minor), (Value.int .i64 p_Version_Patch), (Sl.v p_Deps), (Sl.v p_Peers), (Sl.v p_Optional)])] w k := (pack_text.sound p_Name p_Version_Major p_Version_Minor p_Version_Patch p_Deps p_Peers p_Optional w _ h).mono (by rintro _ _ ⟨r0, rfl, h⟩; exact h)

/-- halyard/catalog.own -/
def catalog_own (l : Sl) (w : World) (R : Sl → World → Prop) : Prop :=
  loop2 Sl.nil 0 w fun out t8 vw nxt => ((t8 < (l.len : Int) → ∃ (ad : Addr), (l.a = some ad ∧ (0 : Int) ≤ t8 ∧ t8 < (l.len : Int)) ∧ ∃ (t11_Name : ByteArray) (t11_Range : Sl), (ldc vw (ad.add (t8.toNat * 2)) [(Value.string t11_Name), (Sl.v t11_Range)]) ∧ newS vw [(Value.string (ByteArray.mk #[])), (Sl.v Sl.nil)] 81 fun a vw1 => stw vw1 a [(Value.string t11_Name), (Sl.v t11_Range)] fun vw2 => bnd vw2.drew fun (vw3 : World) => ∃ (t14 : ByteArray), (ldc vw3 a [(Value.string t14)]) ∧ ∃ (t16 : Sl), (ldc vw3 (a.add 1) [(Sl.v t16)]) ∧ callX Tryz.prog 90 [(Sl.v t16)] vw3 fun v vw6 => ∃ (t17 : Sl), v = (Sl.v t17) ∧ newS vw6 [(Value.string t14), (Sl.v t17)] 81 fun a7 vw8 => appS Tryz.prog 23 23 out (Sl.v (Sl.mk (some a7) 1 1)) vw8 fun t20 vw9 => nxt t20 (wrapI (t8 + 1)) vw9) ∧ (¬ (t8 < (l.len : Int)) → R out vw))
set_option maxHeartbeats 8000000 in
theorem catalog_own.sound (l : Sl) (w : World) (R : Sl → World → Prop) (h : catalog_own l w R) : callS Tryz.prog 108 [(Sl.v l)] w (fun v w' => ∃ (r0 : Sl), v = (Sl.v r0) ∧ R r0 w') := by
  unfold catalog_own at h
  refine calls_of_vc 23 rfl Tryz.func108 rfl (by kernel_rfl) (by simp) ?_
  refine Vc.seq ?_
  refine Vc.region ?_
  refine vcL_pure rfl rfl (Sl.v Sl.nil) (fun w => by kernel_rfl) ?_
  refine vcL_nil ?_
  refine Vc.seq ?_
  refine Vc.region ?_
  refine vcL_pure rfl rfl (Sl.v Sl.nil) (fun w => by kernel_rfl) ?_
  refine vcL_nil ?_
  refine Vc.seq ?_
  refine Vc.seq ?_
  refine Vc.region ?_
  refine vcL_purs 3 [(8, (Value.int .i64 0)), (7, (Value.int .i64 (l.len : Int))), (6, (Sl.v l))] (by kernel_rfl) ?_
  refine vcL_nil ?_
  refine Vc.block ?_
  obtain ⟨vI, mu, h, hr⟩ := h
  refine Vc.loopJ (σ := Sl × Int) [3, 8] [5, 9, 10, 11, 12, 13, 14, 15, 16, 17, 18, 19, 20, 21] (fun s => [(3, (Sl.v s.1)), (8, (Value.int .i64 s.2))]) (fun s w => vI s.1 s.2 w) (fun s w => mu s.1 s.2 w) (Sl.nil, 0) h (fun _ => rfl) (by kernel_rfl) ?_
  rintro ⟨out, t8⟩ vw j h
  have h := hr out t8 vw h
  refine Vc.seq ?_
  refine Vc.region ?_
  refine vcL_pure rfl rfl (Value.bool (decide (t8 < (l.len : Int)))) (fun w => by kernel_rfl) ?_
  refine vcL_nil ?_
  refine Vc.seq ?_
  refine Vc.cond (decide (t8 < (l.len : Int))) (by kernel_rfl) (fun hb => ?_) (fun hb => ?_)
  · have h := h.1 (of_decide_eq_true hb)
    refine Vc.skip ?_
    refine Vc.seq ?_
    refine Vc.block ?_
    refine Vc.seq ?_
    refine Vc.region ?_
    obtain ⟨ad, hi, h⟩ := h
    refine vcL_pure rfl rfl (Value.pointer (some (ad.add (t8.toNat * 2)))) (fun w => by exact exec_indexAt (s := l) (el := 81) rfl (by kernel_rfl) (by kernel_rfl) (by kernel_rfl) (fun w => by kernel_rfl) (hi).1 (hi).2.1 (hi).2.2 w) ?_
    obtain ⟨t11_Name, t11_Range, hc, h⟩ := h
    refine vcL_val rfl rfl (Value.agg #[(Value.string t11_Name), (Sl.v t11_Range)]) (exec_load rfl (by kernel_rfl) (run_loadN (fun w => by kernel_rfl) (fun w => by kernel_rfl) ((hc)))) ?_
    refine vcL_eff rfl (opVC_new rfl (fun a => Value.pointer (some a)) (by kernel_rfl) (newS.mono h fun a vw1 hx h => ?_)) 
    refine vcL_eff rfl (opVC_store rfl rfl (a := a) (by kernel_rfl) (v := (Value.agg #[(Value.string t11_Name), (Sl.v t11_Range)])) (by kernel_rfl) [(Value.string t11_Name), (Sl.v t11_Range)] (by kernel_rfl) (fun w => by kernel_rfl) (by kernel_rfl) (stw.mono h fun vw2 h => ?_)) 
    refine vcL_nil ?_
    obtain ⟨vw3, hvw3⟩ : ∃ y, y = vw2.drew := ⟨_, rfl⟩
    have h := h vw3 hvw3
    refine Vc.draw (by kernel_rfl) (fun i => !(memN [7, 8] i)) (.pur 0 (.pur 1 (.val 2 (.pur 3 (.val 4 (.eff 5 (.pur 6 (.eff 7 (.eff 8 (.pur 9 .fin) .stop) .stop)) .stop)))))) (by kernel_rfl) ?_
    rw [← hvw3]
    clear hvw3
    refine vcS_pure rfl rfl rfl (Sl.v out) (fun w => by kernel_rfl) ?_
    refine vcS_pure rfl rfl rfl (Value.pointer (some a)) (fun w => by kernel_rfl) ?_
    obtain ⟨t14, hc4, h⟩ := h
    refine vcS_val rfl rfl rfl (Value.string t14) (fun w' hx => exec_load rfl (by kernel_rfl) (run_load1 (fun w => by kernel_rfl) ((hc4).ext hx))) ?_
    refine vcS_pure rfl rfl rfl (Value.pointer (some (a.add 1))) (fun w => by kernel_rfl) ?_
    obtain ⟨t16, hc5, h⟩ := h
    refine vcS_val rfl rfl rfl (Sl.v t16) (fun w' hx => exec_load rfl (by kernel_rfl) (run_load1 (fun w => by kernel_rfl) ((hc5).ext hx))) ?_
    refine vcS_eff rfl rfl (opVC_call rfl (by kernel_rfl) (callS.mono h fun v vw6 h => ?_)) vcS_stop
    obtain ⟨hx, h⟩ := h
    obtain ⟨t17, rfl, h⟩ := h
    refine ⟨fun _ => hx, ?_⟩
    refine vcS_pure rfl rfl rfl (Value.agg #[(Value.string t14), (Sl.v t17)]) (fun w => by kernel_rfl) ?_
    refine vcS_eff rfl rfl (opVC_new rfl (fun a => Value.slice (some a) 1 1) (by kernel_rfl) (newS.mono h fun a7 vw8 hx h => ?_)) vcS_stop
    refine ⟨fun hb => absurd hb (by decide), ?_⟩
    refine vcS_eff rfl rfl (opVC_sem rfl (c := Builtin.append_ #[23, 23] 23 #[(Sl.v out), (Sl.v (Sl.mk (some a7) 1 1))]) (by kernel_rfl) (appS.elim (ty := 23) h fun t20 vw9 h => ?_)) vcS_stop
    refine ⟨fun hb => absurd hb (by decide), ?_⟩
    refine vcS_pure rfl rfl rfl (Sl.v t20) (fun w => by kernel_rfl) ?_
    refine vcS_fin ?_
    refine Vc.region ?_
    refine vcL_purs 2 [(8, (Value.int .i64 (wrapI (t8 + 1)))), (21, (Value.int .i64 (wrapI (t8 + 1))))] (by kernel_rfl) ?_
    refine vcL_nil ?_
    exact ⟨(t20, (wrapI (t8 + 1))), 32, ⟨rfl, by kernel_rfl, by kernel_rfl, by kernel_rfl⟩, h⟩
  · have h := h.2 (of_decide_eq_false hb)
    refine Vc.exit ?_
    refine outOf_hit ?_
    refine Vc.seq ?_
    refine Vc.region ?_
    refine vcL_purs 2 [(2, (Sl.v out)), (22, (Sl.v out))] (by kernel_rfl) ?_
    refine vcL_nil ?_
    refine Vc.ret ?_
    refine outs_ret ?_
    refine done_mk (Sl.v out) (res1 (resC_tmp (by kernel_rfl))) ?_
    exact ⟨out, rfl, h⟩
theorem catalog_own.go {l : Sl} {w : World} {k : Value → World → Prop} (h : catalog_own l w fun r0 w' => k (Sl.v r0) w') : callS Tryz.prog 108 [(Sl.v l)] w k := (catalog_own.sound l w _ h).mono (by rintro _ _ ⟨r0, rfl, h⟩; exact h)

/-- halyard/halyardref02.part -/
def halyardref02_part (n : Int) (w : World) (R : Bool → World → Prop) : Prop :=
  bnd (decide (0 ≤ n)) fun (b : Bool) => R (b && (decide (n ≤ 999))) w
set_option maxHeartbeats 8000000 in
theorem halyardref02_part.sound (n : Int) (w : World) (R : Bool → World → Prop) (h : halyardref02_part n w R) : callS Tryz.prog 115 [(Value.int .i64 n)] w (fun v w' => ∃ (r0 : Bool), v = (Value.bool r0) ∧ R r0 w') := by
  unfold halyardref02_part at h
  refine calls_of_vc 9 rfl Tryz.func115 rfl (by kernel_rfl) (by simp) ?_
  refine Vc.seq ?_
  refine Vc.region ?_
  refine vcL_pure rfl rfl (Value.bool false) (fun w => by kernel_rfl) ?_
  refine vcL_nil ?_
  refine Vc.seq ?_
  refine Vc.region ?_
  refine vcL_purs 2 [(4, (Value.bool (decide (0 ≤ n)))), (3, (Value.int .i64 n))] (by kernel_rfl) ?_
  obtain ⟨b, hb⟩ : ∃ y, y = (decide (0 ≤ n)) := ⟨_, rfl⟩
  have h := h b hb
  refine vcL_pure rfl rfl (Value.bool b) (fun w => by rw [hb]; kernel_rfl) ?_
  refine vcL_guardP b (wanted_g (d := 5) rfl (by kernel_rfl) b (by kernel_rfl) b (eqT b)) rfl (Value.int .i64 n) (fun hg w => by subst hg; kernel_rfl) ?_
  refine vcL_guardP b (wanted_g (d := 5) rfl (by kernel_rfl) b (by kernel_rfl) b (eqT b)) rfl (Value.bool (decide (n ≤ 999))) (fun hg w => by subst hg; kernel_rfl) ?_
  refine vcL_pure rfl rfl (Value.bool (b && (decide (n ≤ 999)))) (fun w => by cases b <;> kernel_rfl) ?_
  refine vcL_pure rfl rfl (Value.bool (b && (decide (n ≤ 999)))) (fun w => by kernel_rfl) ?_
  refine vcL_nil ?_
  refine Vc.ret ?_
  refine outs_ret ?_
  refine done_mk (Value.bool (b && (decide (n ≤ 999)))) (res1 (resC_tmp (by kernel_rfl))) ?_
  exact ⟨(b && (decide (n ≤ 999))), rfl, h⟩
theorem halyardref02_part.go {n : Int} {w : World} {k : Value → World → Prop} (h : halyardref02_part n w fun r0 w' => k (Value.bool r0) w') : callS Tryz.prog 115 [(Value.int .i64 n)] w k := (halyardref02_part.sound n w _ h).mono (by rintro _ _ ⟨r0, rfl, h⟩; exact h)

/-- halyard/halyardref02.Rank -/
def halyardref02_Rank (v_Major : Int) (v_Minor : Int) (v_Patch : Int) (w : World) (R : Int → Bool → World → Prop) : Prop :=
  newS w [(Value.int .i64 v_Major), (Value.int .i64 v_Minor), (Value.int .i64 v_Patch)] 30 fun a vw => ∃ (t4_Major : Int) (t4_Minor : Int) (t4_Patch : Int), (ldc vw a [(Value.int .i64 t4_Major), (Value.int .i64 t4_Minor), (Value.int .i64 t4_Patch)]) ∧ callS Tryz.prog 80 [(Value.agg #[(Value.int .i64 t4_Major), (Value.int .i64 t4_Minor), (Value.int .i64 t4_Patch)])] vw fun v vw1 => ∃ (t5 : Bool), v = (Value.bool t5) ∧ (((!t5) = true → R 0 false vw1) ∧ ((!t5) = false → ∃ (t8 : Int), (ldc vw1 a [(Value.int .i64 t8)]) ∧ ∃ (t11 : Int), (ldc vw1 (a.add 1) [(Value.int .i64 t11)]) ∧ ∃ (t15 : Int), (ldc vw1 (a.add 2) [(Value.int .i64 t15)]) ∧ R (wrapI ((wrapI ((wrapI ((wrapI (t8 * 1000)) + t11)) * 1000)) + t15)) true vw1))
set_option maxHeartbeats 8000000 in
theorem halyardref02_Rank.sound (v_Major : Int) (v_Minor : Int) (v_Patch : Int) (w : World) (R : Int → Bool → World → Prop) (h : halyardref02_Rank v_Major v_Minor v_Patch w R) : callS Tryz.prog 116 [(Value.agg #[(Value.int .i64 v_Major), (Value.int .i64 v_Minor), (Value.int .i64 v_Patch)])] w (fun v w' => ∃ (r0 : Int) (r1 : Bool), v = (Value.tuple #[(Value.int .i64 r0), (Value.bool r1)]) ∧ R r0 r1 w') := by
  unfold halyardref02_Rank at h
  refine calls_of_vc 17 rfl Tryz.func116 rfl (by kernel_rfl) (by simp) ?_
  refine Vc.seq ?_
  refine Vc.region ?_
  refine vcL_eff rfl (opVC_new rfl (fun a => Value.pointer (some a)) (by kernel_rfl) (newS.mono h fun a vw hx h => ?_)) 
  refine vcL_purs 2 [(3, (Value.bool false)), (2, (Value.int .i64 0))] (by kernel_rfl) ?_
  refine vcL_nil ?_
  refine Vc.seq ?_
  refine Vc.seq ?_
  refine Vc.region ?_
  obtain ⟨t4_Major, t4_Minor, t4_Patch, hc, h⟩ := h
  refine vcL_val rfl rfl (Value.agg #[(Value.int .i64 t4_Major), (Value.int .i64 t4_Minor), (Value.int .i64 t4_Patch)]) (exec_load rfl (by kernel_rfl) (run_loadN (fun w => by kernel_rfl) (fun w => by kernel_rfl) ((hc)))) ?_
  refine vcL_eff rfl (opVC_call rfl (by kernel_rfl) (callS.mono h fun v vw1 h => ?_)) 
  obtain ⟨t5, rfl, h⟩ := h
  refine vcL_pure rfl rfl (Value.bool (!t5)) (fun w => by kernel_rfl) ?_
  refine vcL_nil ?_
  refine Vc.cond (!t5) (by kernel_rfl) (fun hb => ?_) (fun hb => ?_)
  · have h := h.1 (hb)
    refine Vc.seq ?_
    refine Vc.region ?_
    refine vcL_purs 2 [(3, (Value.bool false)), (2, (Value.int .i64 0))] (by kernel_rfl) ?_
    refine vcL_nil ?_
    refine Vc.ret ?_
    refine outs_ret ?_
    refine done_mk (Value.tuple #[(Value.int .i64 0), (Value.bool false)]) (res2 (resC_tmp (by kernel_rfl)) (resC_tmp (by kernel_rfl))) ?_
    exact ⟨0, false, rfl, h⟩
  · have h := h.2 (hb)
    refine Vc.skip ?_
    refine Vc.seq ?_
    refine Vc.region ?_
    refine vcL_pure rfl rfl (Value.pointer (some a)) (fun w => by kernel_rfl) ?_
    obtain ⟨t8, hc2, h⟩ := h
    refine vcL_val rfl rfl (Value.int .i64 t8) (exec_load rfl (by kernel_rfl) (run_load1 (fun w => by kernel_rfl) ((hc2)))) ?_
    refine vcL_purs 2 [(10, (Value.pointer (some (a.add 1)))), (9, (Value.int .i64 (wrapI (t8 * 1000))))] (by kernel_rfl) ?_
    obtain ⟨t11, hc3, h⟩ := h
    refine vcL_val rfl rfl (Value.int .i64 t11) (exec_load rfl (by kernel_rfl) (run_load1 (fun w => by kernel_rfl) ((hc3)))) ?_
    refine vcL_purs 3 [(14, (Value.pointer (some (a.add 2)))), (13, (Value.int .i64 (wrapI ((wrapI ((wrapI (t8 * 1000)) + t11)) * 1000)))), (12, (Value.int .i64 (wrapI ((wrapI (t8 * 1000)) + t11))))] (by kernel_rfl) ?_
    obtain ⟨t15, hc4, h⟩ := h
    refine vcL_val rfl rfl (Value.int .i64 t15) (exec_load rfl (by kernel_rfl) (run_load1 (fun w => by kernel_rfl) ((hc4)))) ?_
    refine vcL_purs 3 [(3, (Value.bool true)), (2, (Value.int .i64 (wrapI ((wrapI ((wrapI ((wrapI (t8 * 1000)) + t11)) * 1000)) + t15)))), (16, (Value.int .i64 (wrapI ((wrapI ((wrapI ((wrapI (t8 * 1000)) + t11)) * 1000)) + t15))))] (by kernel_rfl) ?_
    refine vcL_nil ?_
    refine Vc.ret ?_
    refine outs_ret ?_
    refine done_mk (Value.tuple #[(Value.int .i64 (wrapI ((wrapI ((wrapI ((wrapI (t8 * 1000)) + t11)) * 1000)) + t15))), (Value.bool true)]) (res2 (resC_tmp (by kernel_rfl)) (resC_tmp (by kernel_rfl))) ?_
    exact ⟨(wrapI ((wrapI ((wrapI ((wrapI (t8 * 1000)) + t11)) * 1000)) + t15)), true, rfl, h⟩
theorem halyardref02_Rank.go {v_Major : Int} {v_Minor : Int} {v_Patch : Int} {w : World} {k : Value → World → Prop} (h : halyardref02_Rank v_Major v_Minor v_Patch w fun r0 r1 w' => k (Value.tuple #[(Value.int .i64 r0), (Value.bool r1)]) w') : callS Tryz.prog 116 [(Value.agg #[(Value.int .i64 v_Major), (Value.int .i64 v_Minor), (Value.int .i64 v_Patch)])] w k := (halyardref02_Rank.sound v_Major v_Minor v_Patch w _ h).mono (by rintro _ _ ⟨r0, r1, rfl, h⟩; exact h)

/-- halyard/halyardref02.Print -/
def halyardref02_Print (v_Major : Int) (v_Minor : Int) (v_Patch : Int) (w : World) (R : ByteArray → World → Prop) : Prop :=
  newS w [(Value.int .i64 v_Major), (Value.int .i64 v_Minor), (Value.int .i64 v_Patch)] 30 fun a vw => ∃ (t3_Major : Int) (t3_Minor : Int) (t3_Patch : Int), (ldc vw a [(Value.int .i64 t3_Major), (Value.int .i64 t3_Minor), (Value.int .i64 t3_Patch)]) ∧ callS Tryz.prog 80 [(Value.agg #[(Value.int .i64 t3_Major), (Value.int .i64 t3_Minor), (Value.int .i64 t3_Patch)])] vw fun v vw1 => ∃ (t4 : Bool), v = (Value.bool t4) ∧ (((!t4) = true → R (ByteArray.mk #[]) vw1) ∧ ((!t4) = false → bnd vw1.drew fun (vw2 : World) => ∃ (t7 : Int), (ldc vw2 a [(Value.int .i64 t7)]) ∧ ∃ (t11 : Int), (ldc vw2 (a.add 1) [(Value.int .i64 t11)]) ∧ ∃ (t16 : Int), (ldc vw2 (a.add 2) [(Value.int .i64 t16)]) ∧ callX Tryz.prog 164 [(Value.int .i64 t7)] vw2 fun v7 vw6 => ∃ (t8 : ByteArray), v7 = (Value.string t8) ∧ (((t8.size + (ByteArray.mk #[46]).size : Nat) : Int) ≤ maxI) ∧ callX Tryz.prog 164 [(Value.int .i64 t11)] vw6 fun v10 vw9 => ∃ (t12 : ByteArray), v10 = (Value.string t12) ∧ ((((t8 ++ (ByteArray.mk #[46])).size + t12.size : Nat) : Int) ≤ maxI) ∧ (((((t8 ++ (ByteArray.mk #[46])) ++ t12).size + (ByteArray.mk #[46]).size : Nat) : Int) ≤ maxI) ∧ callS Tryz.prog 164 [(Value.int .i64 t16)] vw9 fun v15 vw14 => ∃ (t17 : ByteArray), v15 = (Value.string t17) ∧ ((((((t8 ++ (ByteArray.mk #[46])) ++ t12) ++ (ByteArray.mk #[46])).size + t17.size : Nat) : Int) ≤ maxI) ∧ R ((((t8 ++ (ByteArray.mk #[46])) ++ t12) ++ (ByteArray.mk #[46])) ++ t17) vw14))
set_option maxHeartbeats 8000000 in
theorem halyardref02_Print.sound (v_Major : Int) (v_Minor : Int) (v_Patch : Int) (w : World) (R : ByteArray → World → Prop) (h : halyardref02_Print v_Major v_Minor v_Patch w R) : callS Tryz.prog 117 [(Value.agg #[(Value.int .i64 v_Major), (Value.int .i64 v_Minor), (Value.int .i64 v_Patch)])] w (fun v w' => ∃ (r0 : ByteArray), v = (Value.string r0) ∧ R r0 w') := by
  unfold halyardref02_Print at h
  refine calls_of_vc 19 rfl Tryz.func117 rfl (by kernel_rfl) (by simp) ?_
  refine Vc.seq ?_
  refine Vc.region ?_
  refine vcL_eff rfl (opVC_new rfl (fun a => Value.pointer (some a)) (by kernel_rfl) (newS.mono h fun a vw hx h => ?_)) 
  refine vcL_pure rfl rfl (Value.string (ByteArray.mk #[])) (fun w => by kernel_rfl) ?_
  refine vcL_nil ?_
  refine Vc.seq ?_
  refine Vc.seq ?_
  refine Vc.region ?_
  obtain ⟨t3_Major, t3_Minor, t3_Patch, hc, h⟩ := h
  refine vcL_val rfl rfl (Value.agg #[(Value.int .i64 t3_Major), (Value.int .i64 t3_Minor), (Value.int .i64 t3_Patch)]) (exec_load rfl (by kernel_rfl) (run_loadN (fun w => by kernel_rfl) (fun w => by kernel_rfl) ((hc)))) ?_
  refine vcL_eff rfl (opVC_call rfl (by kernel_rfl) (callS.mono h fun v vw1 h => ?_)) 
  obtain ⟨t4, rfl, h⟩ := h
  refine vcL_pure rfl rfl (Value.bool (!t4)) (fun w => by kernel_rfl) ?_
  refine vcL_nil ?_
  refine Vc.cond (!t4) (by kernel_rfl) (fun hb => ?_) (fun hb => ?_)
  · have h := h.1 (hb)
    refine Vc.seq ?_
    refine Vc.region ?_
    refine vcL_pure rfl rfl (Value.string (ByteArray.mk #[])) (fun w => by kernel_rfl) ?_
    refine vcL_nil ?_
    refine Vc.ret ?_
    refine outs_ret ?_
    refine done_mk (Value.string (ByteArray.mk #[])) (res1 (resC_tmp (by kernel_rfl))) ?_
    exact ⟨(ByteArray.mk #[]), rfl, h⟩
  · have h := h.2 (hb)
    refine Vc.skip ?_
    refine Vc.seq ?_
    obtain ⟨vw2, hvw2⟩ : ∃ y, y = vw1.drew := ⟨_, rfl⟩
    have h := h vw2 hvw2
    refine Vc.draw (by kernel_rfl) (fun i => !(memN [11] i)) (.pur 0 (.val 1 (.pur 4 (.val 5 (.pur 9 (.val 10 (.eff 2 (.pur 3 (.eff 6 (.pur 7 (.pur 8 (.eff 11 (.pur 12 (.pur 13 .fin)) .stop))) .stop)) .stop))))))) (by kernel_rfl) ?_
    rw [← hvw2]
    clear hvw2
    refine vcS_pure rfl rfl rfl (Value.pointer (some a)) (fun w => by kernel_rfl) ?_
    obtain ⟨t7, hc3, h⟩ := h
    refine vcS_val rfl rfl rfl (Value.int .i64 t7) (fun w' hx => exec_load rfl (by kernel_rfl) (run_load1 (fun w => by kernel_rfl) ((hc3).ext hx))) ?_
    refine vcS_pure rfl rfl rfl (Value.pointer (some (a.add 1))) (fun w => by kernel_rfl) ?_
    obtain ⟨t11, hc4, h⟩ := h
    refine vcS_val rfl rfl rfl (Value.int .i64 t11) (fun w' hx => exec_load rfl (by kernel_rfl) (run_load1 (fun w => by kernel_rfl) ((hc4).ext hx))) ?_
    refine vcS_pure rfl rfl rfl (Value.pointer (some (a.add 2))) (fun w => by kernel_rfl) ?_
    obtain ⟨t16, hc5, h⟩ := h
    refine vcS_val rfl rfl rfl (Value.int .i64 t16) (fun w' hx => exec_load rfl (by kernel_rfl) (run_load1 (fun w => by kernel_rfl) ((hc5).ext hx))) ?_
    refine vcS_eff rfl rfl (opVC_call rfl (by kernel_rfl) (callS.mono h fun v7 vw6 h => ?_)) vcS_stop
    obtain ⟨hx8, h⟩ := h
    obtain ⟨t8, rfl, h⟩ := h
    refine ⟨fun _ => hx8, ?_⟩
    obtain ⟨hi, h⟩ := h
    refine vcS_pure rfl rfl rfl (Value.string (t8 ++ (ByteArray.mk #[46]))) (fun w => by exact exec_str_add (a := t8) (b := (ByteArray.mk #[46])) rfl (by kernel_rfl) (by kernel_rfl) (hi) w) ?_
    refine vcS_eff rfl rfl (opVC_call rfl (by kernel_rfl) (callS.mono h fun v10 vw9 h => ?_)) vcS_stop
    obtain ⟨hx11, h⟩ := h
    obtain ⟨t12, rfl, h⟩ := h
    refine ⟨fun _ => hx11, ?_⟩
    obtain ⟨hi12, h⟩ := h
    refine vcS_pure rfl rfl rfl (Value.string ((t8 ++ (ByteArray.mk #[46])) ++ t12)) (fun w => by exact exec_str_add (a := (t8 ++ (ByteArray.mk #[46]))) (b := t12) rfl (by kernel_rfl) (by kernel_rfl) (hi12) w) ?_
    obtain ⟨hi13, h⟩ := h
    refine vcS_pure rfl rfl rfl (Value.string (((t8 ++ (ByteArray.mk #[46])) ++ t12) ++ (ByteArray.mk #[46]))) (fun w => by exact exec_str_add (a := ((t8 ++ (ByteArray.mk #[46])) ++ t12)) (b := (ByteArray.mk #[46])) rfl (by kernel_rfl) (by kernel_rfl) (hi13) w) ?_
    refine vcS_eff rfl rfl (opVC_call rfl (by kernel_rfl) (callS.mono h fun v15 vw14 h => ?_)) vcS_stop
    obtain ⟨t17, rfl, h⟩ := h
    refine ⟨fun hb => absurd hb (by decide), ?_⟩
    obtain ⟨hi17, h⟩ := h
    refine vcS_pure rfl rfl rfl (Value.string ((((t8 ++ (ByteArray.mk #[46])) ++ t12) ++ (ByteArray.mk #[46])) ++ t17)) (fun w => by exact exec_str_add (a := (((t8 ++ (ByteArray.mk #[46])) ++ t12) ++ (ByteArray.mk #[46]))) (b := t17) rfl (by kernel_rfl) (by kernel_rfl) (hi17) w) ?_
    refine vcS_pure rfl rfl rfl (Value.string ((((t8 ++ (ByteArray.mk #[46])) ++ t12) ++ (ByteArray.mk #[46])) ++ t17)) (fun w => by kernel_rfl) ?_
    refine vcS_fin ?_
    refine Vc.ret ?_
    refine outs_ret ?_
    refine done_mk (Value.string ((((t8 ++ (ByteArray.mk #[46])) ++ t12) ++ (ByteArray.mk #[46])) ++ t17)) (res1 (resC_tmp (by kernel_rfl))) ?_
    exact ⟨((((t8 ++ (ByteArray.mk #[46])) ++ t12) ++ (ByteArray.mk #[46])) ++ t17), rfl, h⟩
theorem halyardref02_Print.go {v_Major : Int} {v_Minor : Int} {v_Patch : Int} {w : World} {k : Value → World → Prop} (h : halyardref02_Print v_Major v_Minor v_Patch w fun r0 w' => k (Value.string r0) w') : callS Tryz.prog 117 [(Value.agg #[(Value.int .i64 v_Major), (Value.int .i64 v_Minor), (Value.int .i64 v_Patch)])] w k := (halyardref02_Print.sound v_Major v_Minor v_Patch w _ h).mono (by rintro _ _ ⟨r0, rfl, h⟩; exact h)

/-- halyard/halyardref05.Lines -/
def halyardref05_Lines (word : ByteArray) (l : Sl) (w : World) (R : ByteArray → World → Prop) : Prop :=
  loop2 (ByteArray.mk #[]) 0 w fun out i vw nxt => ((i < (l.len : Int) → bnd vw.drew fun (vw1 : World) => (((out.size + word.size : Nat) : Int) ≤ maxI) ∧ ((((out ++ word).size + (ByteArray.mk #[32]).size : Nat) : Int) ≤ maxI) ∧ ∃ (ad : Addr), (l.a = some ad ∧ (0 : Int) ≤ i ∧ i < (l.len : Int)) ∧ ∃ (t21 : ByteArray), (ldc vw1 (ad.add (i.toNat * 2)) [(Value.string t21)]) ∧ (((((out ++ word) ++ (ByteArray.mk #[32])).size + t21.size : Nat) : Int) ≤ maxI) ∧ ((((((out ++ word) ++ (ByteArray.mk #[32])) ++ t21).size + (ByteArray.mk #[32]).size : Nat) : Int) ≤ maxI) ∧ ∃ (ad6 : Addr), (l.a = some ad6 ∧ (0 : Int) ≤ i ∧ i < (l.len : Int)) ∧ ∃ (t28 : Sl), (ldc vw1 ((ad6.add (i.toNat * 2)).add 1) [(Sl.v t28)]) ∧ callX Tryz.prog 165 [(Sl.v t28)] vw1 fun v vw9 => ∃ (t29 : ByteArray), v = (Value.string t29) ∧ (((((((out ++ word) ++ (ByteArray.mk #[32])) ++ t21) ++ (ByteArray.mk #[32])).size + t29.size : Nat) : Int) ≤ maxI) ∧ ((((((((out ++ word) ++ (ByteArray.mk #[32])) ++ t21) ++ (ByteArray.mk #[32])) ++ t29).size + (ByteArray.mk #[10]).size : Nat) : Int) ≤ maxI) ∧ nxt ((((((out ++ word) ++ (ByteArray.mk #[32])) ++ t21) ++ (ByteArray.mk #[32])) ++ t29) ++ (ByteArray.mk #[10])) (wrapI (i + 1)) vw9) ∧ (¬ (i < (l.len : Int)) → R out vw))
set_option maxHeartbeats 8000000 in
theorem halyardref05_Lines.sound (word : ByteArray) (l : Sl) (w : World) (R : ByteArray → World → Prop) (h : halyardref05_Lines word l w R) : callS Tryz.prog 118 [(Value.string word), (Sl.v l)] w (fun v w' => ∃ (r0 : ByteArray), v = (Value.string r0) ∧ R r0 w') := by
  unfold halyardref05_Lines at h
  refine calls_of_vc 33 rfl Tryz.func118 rfl (by kernel_rfl) (by simp) ?_
  refine Vc.seq ?_
  refine Vc.region ?_
  refine vcL_pure rfl rfl (Value.string (ByteArray.mk #[])) (fun w => by kernel_rfl) ?_
  refine vcL_nil ?_
  refine Vc.seq ?_
  refine Vc.region ?_
  refine vcL_pure rfl rfl (Value.string (ByteArray.mk #[])) (fun w => by kernel_rfl) ?_
  refine vcL_nil ?_
  refine Vc.seq ?_
  refine Vc.seq ?_
  refine Vc.region ?_
  refine vcL_pure rfl rfl (Value.int .i64 0) (fun w => by kernel_rfl) ?_
  refine vcL_nil ?_
  refine Vc.block ?_
  obtain ⟨vI, mu, h, hr⟩ := h
  refine Vc.loopJ (σ := ByteArray × Int) [5, 6] [7, 8, 9, 10, 11, 12, 13, 14, 15, 16, 17, 18, 19, 20, 21, 22, 23, 24, 25, 26, 27, 28, 29, 30, 31] (fun s => [(5, (Value.string s.1)), (6, (Value.int .i64 s.2))]) (fun s w => vI s.1 s.2 w) (fun s w => mu s.1 s.2 w) ((ByteArray.mk #[]), 0) h (fun _ => rfl) (by kernel_rfl) ?_
  rintro ⟨out, i⟩ vw j h
  have h := hr out i vw h
  refine Vc.seq ?_
  refine Vc.seq ?_
  refine Vc.region ?_
  refine vcL_purs 4 [(10, (Value.bool (decide (i < (l.len : Int))))), (9, (Value.int .i64 (l.len : Int))), (8, (Sl.v l)), (7, (Value.int .i64 i))] (by kernel_rfl) ?_
  refine vcL_nil ?_
  refine Vc.cond (decide (i < (l.len : Int))) (by kernel_rfl) (fun hb => ?_) (fun hb => ?_)
  · have h := h.1 (of_decide_eq_true hb)
    refine Vc.skip ?_
    refine Vc.seq ?_
    refine Vc.block ?_
    obtain ⟨vw1, hvw1⟩ : ∃ y, y = vw.drew := ⟨_, rfl⟩
    have h := h vw1 hvw1
    refine Vc.draw (by kernel_rfl) (fun i => !(memN [] i)) (.pur 0 (.pur 1 (.pur 2 (.pur 3 (.pur 4 (.pur 5 (.pur 6 (.pur 7 (.val 8 (.pur 9 (.pur 10 (.pur 11 (.pur 12 (.pur 13 (.pur 14 (.val 15 (.eff 16 (.pur 17 (.pur 18 (.pur 19 .fin))) .stop))))))))))))))))) (by kernel_rfl) ?_
    rw [← hvw1]
    clear hvw1
    refine vcS_pure rfl rfl rfl (Value.string out) (fun w => by kernel_rfl) ?_
    refine vcS_pure rfl rfl rfl (Value.string word) (fun w => by kernel_rfl) ?_
    obtain ⟨hi, h⟩ := h
    refine vcS_pure rfl rfl rfl (Value.string (out ++ word)) (fun w => by exact exec_str_add (a := out) (b := word) rfl (by kernel_rfl) (by kernel_rfl) (hi) w) ?_
    obtain ⟨hi2, h⟩ := h
    refine vcS_pure rfl rfl rfl (Value.string ((out ++ word) ++ (ByteArray.mk #[32]))) (fun w => by exact exec_str_add (a := (out ++ word)) (b := (ByteArray.mk #[32])) rfl (by kernel_rfl) (by kernel_rfl) (hi2) w) ?_
    refine vcS_pure rfl rfl rfl (Sl.v l) (fun w => by kernel_rfl) ?_
    refine vcS_pure rfl rfl rfl (Value.int .i64 i) (fun w => by kernel_rfl) ?_
    obtain ⟨ad, hi3, h⟩ := h
    refine vcS_pure rfl rfl rfl (Value.pointer (some (ad.add (i.toNat * 2)))) (fun w => by exact exec_indexAt (s := l) (el := 81) rfl (by kernel_rfl) (by kernel_rfl) (by kernel_rfl) (fun w => by kernel_rfl) (hi3).1 (hi3).2.1 (hi3).2.2 w) ?_
    refine vcS_pure rfl rfl rfl (Value.pointer (some (ad.add (i.toNat * 2)))) (fun w => by kernel_rfl) ?_
    obtain ⟨t21, hc, h⟩ := h
    refine vcS_val rfl rfl rfl (Value.string t21) (fun w' hx => exec_load rfl (by kernel_rfl) (run_load1 (fun w => by kernel_rfl) ((hc).ext hx))) ?_
    obtain ⟨hi4, h⟩ := h
    refine vcS_pure rfl rfl rfl (Value.string (((out ++ word) ++ (ByteArray.mk #[32])) ++ t21)) (fun w => by exact exec_str_add (a := ((out ++ word) ++ (ByteArray.mk #[32]))) (b := t21) rfl (by kernel_rfl) (by kernel_rfl) (hi4) w) ?_
    obtain ⟨hi5, h⟩ := h
    refine vcS_pure rfl rfl rfl (Value.string ((((out ++ word) ++ (ByteArray.mk #[32])) ++ t21) ++ (ByteArray.mk #[32]))) (fun w => by exact exec_str_add (a := (((out ++ word) ++ (ByteArray.mk #[32])) ++ t21)) (b := (ByteArray.mk #[32])) rfl (by kernel_rfl) (by kernel_rfl) (hi5) w) ?_
    refine vcS_pure rfl rfl rfl (Sl.v l) (fun w => by kernel_rfl) ?_
    refine vcS_pure rfl rfl rfl (Value.int .i64 i) (fun w => by kernel_rfl) ?_
    obtain ⟨ad6, hi7, h⟩ := h
    refine vcS_pure rfl rfl rfl (Value.pointer (some (ad6.add (i.toNat * 2)))) (fun w => by exact exec_indexAt (s := l) (el := 81) rfl (by kernel_rfl) (by kernel_rfl) (by kernel_rfl) (fun w => by kernel_rfl) (hi7).1 (hi7).2.1 (hi7).2.2 w) ?_
    refine vcS_pure rfl rfl rfl (Value.pointer (some ((ad6.add (i.toNat * 2)).add 1))) (fun w => by kernel_rfl) ?_
    obtain ⟨t28, hc8, h⟩ := h
    refine vcS_val rfl rfl rfl (Sl.v t28) (fun w' hx => exec_load rfl (by kernel_rfl) (run_load1 (fun w => by kernel_rfl) ((hc8).ext hx))) ?_
    refine vcS_eff rfl rfl (opVC_call rfl (by kernel_rfl) (callS.mono h fun v vw9 h => ?_)) vcS_stop
    obtain ⟨hx, h⟩ := h
    obtain ⟨t29, rfl, h⟩ := h
    refine ⟨fun _ => hx, ?_⟩
    obtain ⟨hi10, h⟩ := h
    refine vcS_pure rfl rfl rfl (Value.string (((((out ++ word) ++ (ByteArray.mk #[32])) ++ t21) ++ (ByteArray.mk #[32])) ++ t29)) (fun w => by exact exec_str_add (a := ((((out ++ word) ++ (ByteArray.mk #[32])) ++ t21) ++ (ByteArray.mk #[32]))) (b := t29) rfl (by kernel_rfl) (by kernel_rfl) (hi10) w) ?_
    obtain ⟨hi11, h⟩ := h
    refine vcS_pure rfl rfl rfl (Value.string ((((((out ++ word) ++ (ByteArray.mk #[32])) ++ t21) ++ (ByteArray.mk #[32])) ++ t29) ++ (ByteArray.mk #[10]))) (fun w => by exact exec_str_add (a := (((((out ++ word) ++ (ByteArray.mk #[32])) ++ t21) ++ (ByteArray.mk #[32])) ++ t29)) (b := (ByteArray.mk #[10])) rfl (by kernel_rfl) (by kernel_rfl) (hi11) w) ?_
    refine vcS_pure rfl rfl rfl (Value.string ((((((out ++ word) ++ (ByteArray.mk #[32])) ++ t21) ++ (ByteArray.mk #[32])) ++ t29) ++ (ByteArray.mk #[10]))) (fun w => by kernel_rfl) ?_
    refine vcS_fin ?_
    refine Vc.region ?_
    refine vcL_purs 3 [(6, (Value.int .i64 (wrapI (i + 1)))), (12, (Value.int .i64 (wrapI (i + 1)))), (11, (Value.int .i64 i))] (by kernel_rfl) ?_
    refine vcL_nil ?_
    exact ⟨(((((((out ++ word) ++ (ByteArray.mk #[32])) ++ t21) ++ (ByteArray.mk #[32])) ++ t29) ++ (ByteArray.mk #[10])), (wrapI (i + 1))), 54, ⟨rfl, by kernel_rfl, by kernel_rfl, by kernel_rfl⟩, h⟩
  · have h := h.2 (of_decide_eq_false hb)
    refine Vc.exit ?_
    refine outOf_hit ?_
    refine Vc.seq ?_
    refine Vc.region ?_
    refine vcL_purs 2 [(4, (Value.string out)), (32, (Value.string out))] (by kernel_rfl) ?_
    refine vcL_nil ?_
    refine Vc.ret ?_
    refine outs_ret ?_
    refine done_mk (Value.string out) (res1 (resC_tmp (by kernel_rfl))) ?_
    exact ⟨out, rfl, h⟩
theorem halyardref05_Lines.go {word : ByteArray} {l : Sl} {w : World} {k : Value → World → Prop} (h : halyardref05_Lines word l w fun r0 w' => k (Value.string r0) w') : callS Tryz.prog 118 [(Value.string word), (Sl.v l)] w k := (halyardref05_Lines.sound word l w _ h).mono (by rintro _ _ ⟨r0, rfl, h⟩; exact h)

/-- halyard/vers.Rank -/
def vers_Rank (v_Major : Int) (v_Minor : Int) (v_Patch : Int) (w : World) (R : Int → Bool → World → Prop) : Prop :=
  newS w [(Value.int .i64 v_Major), (Value.int .i64 v_Minor), (Value.int .i64 v_Patch)] 30 fun a vw => ∃ (t4_Major : Int) (t4_Minor : Int) (t4_Patch : Int), (ldc vw a [(Value.int .i64 t4_Major), (Value.int .i64 t4_Minor), (Value.int .i64 t4_Patch)]) ∧ callS Tryz.prog 97 [(Value.agg #[(Value.int .i64 t4_Major), (Value.int .i64 t4_Minor), (Value.int .i64 t4_Patch)])] vw fun v vw1 => ∃ (t5 : Bool), v = (Value.bool t5) ∧ (((!t5) = true → R 0 false vw1) ∧ ((!t5) = false → ∃ (t8 : Int), (ldc vw1 a [(Value.int .i64 t8)]) ∧ ∃ (t11 : Int), (ldc vw1 (a.add 1) [(Value.int .i64 t11)]) ∧ ∃ (t15 : Int), (ldc vw1 (a.add 2) [(Value.int .i64 t15)]) ∧ R (wrapI ((wrapI ((wrapI ((wrapI (t8 * 1000)) + t11)) * 1000)) + t15)) true vw1))
set_option maxHeartbeats 8000000 in
theorem vers_Rank.sound (v_Major : Int) (v_Minor : Int) (v_Patch : Int) (w : World) (R : Int → Bool → World → Prop) (h : vers_Rank v_Major v_Minor v_Patch w R) : callS Tryz.prog 123 [(Value.agg #[(Value.int .i64 v_Major), (Value.int .i64 v_Minor), (Value.int .i64 v_Patch)])] w (fun v w' => ∃ (r0 : Int) (r1 : Bool), v = (Value.tuple #[(Value.int .i64 r0), (Value.bool r1)]) ∧ R r0 r1 w') := by
  unfold vers_Rank at h
  refine calls_of_vc 17 rfl Tryz.func123 rfl (by kernel_rfl) (by simp) ?_
  refine Vc.seq ?_
  refine Vc.region ?_
  refine vcL_eff rfl (opVC_new rfl (fun a => Value.pointer (some a)) (by kernel_rfl) (newS.mono h fun a vw hx h => ?_)) 
  refine vcL_purs 2 [(3, (Value.bool false)), (2, (Value.int .i64 0))] (by kernel_rfl) ?_
  refine vcL_nil ?_
  refine Vc.seq ?_
  refine Vc.seq ?_
  refine Vc.region ?_
  obtain ⟨t4_Major, t4_Minor, t4_Patch, hc, h⟩ := h
  refine vcL_val rfl rfl (Value.agg #[(Value.int .i64 t4_Major), (Value.int .i64 t4_Minor), (Value.int .i64 t4_Patch)]) (exec_load rfl (by kernel_rfl) (run_loadN (fun w => by kernel_rfl) (fun w => by kernel_rfl) ((hc)))) ?_
  refine vcL_eff rfl (opVC_call rfl (by kernel_rfl) (callS.mono h fun v vw1 h => ?_)) 
  obtain ⟨t5, rfl, h⟩ := h
  refine vcL_pure rfl rfl (Value.bool (!t5)) (fun w => by kernel_rfl) ?_
  refine vcL_nil ?_
  refine Vc.cond (!t5) (by kernel_rfl) (fun hb => ?_) (fun hb => ?_)
  · have h := h.1 (hb)
    refine Vc.seq ?_
    refine Vc.region ?_
    refine vcL_purs 2 [(3, (Value.bool false)), (2, (Value.int .i64 0))] (by kernel_rfl) ?_
    refine vcL_nil ?_
    refine Vc.ret ?_
    refine outs_ret ?_
    refine done_mk (Value.tuple #[(Value.int .i64 0), (Value.bool false)]) (res2 (resC_tmp (by kernel_rfl)) (resC_tmp (by kernel_rfl))) ?_
    exact ⟨0, false, rfl, h⟩
  · have h := h.2 (hb)
    refine Vc.skip ?_
    refine Vc.seq ?_
    refine Vc.region ?_
    refine vcL_pure rfl rfl (Value.pointer (some a)) (fun w => by kernel_rfl) ?_
    obtain ⟨t8, hc2, h⟩ := h
    refine vcL_val rfl rfl (Value.int .i64 t8) (exec_load rfl (by kernel_rfl) (run_load1 (fun w => by kernel_rfl) ((hc2)))) ?_
    refine vcL_purs 2 [(10, (Value.pointer (some (a.add 1)))), (9, (Value.int .i64 (wrapI (t8 * 1000))))] (by kernel_rfl) ?_
    obtain ⟨t11, hc3, h⟩ := h
    refine vcL_val rfl rfl (Value.int .i64 t11) (exec_load rfl (by kernel_rfl) (run_load1 (fun w => by kernel_rfl) ((hc3)))) ?_
    refine vcL_purs 3 [(14, (Value.pointer (some (a.add 2)))), (13, (Value.int .i64 (wrapI ((wrapI ((wrapI (t8 * 1000)) + t11)) * 1000)))), (12, (Value.int .i64 (wrapI ((wrapI (t8 * 1000)) + t11))))] (by kernel_rfl) ?_
    obtain ⟨t15, hc4, h⟩ := h
    refine vcL_val rfl rfl (Value.int .i64 t15) (exec_load rfl (by kernel_rfl) (run_load1 (fun w => by kernel_rfl) ((hc4)))) ?_
    refine vcL_purs 3 [(3, (Value.bool true)), (2, (Value.int .i64 (wrapI ((wrapI ((wrapI ((wrapI (t8 * 1000)) + t11)) * 1000)) + t15)))), (16, (Value.int .i64 (wrapI ((wrapI ((wrapI ((wrapI (t8 * 1000)) + t11)) * 1000)) + t15))))] (by kernel_rfl) ?_
    refine vcL_nil ?_
    refine Vc.ret ?_
    refine outs_ret ?_
    refine done_mk (Value.tuple #[(Value.int .i64 (wrapI ((wrapI ((wrapI ((wrapI (t8 * 1000)) + t11)) * 1000)) + t15))), (Value.bool true)]) (res2 (resC_tmp (by kernel_rfl)) (resC_tmp (by kernel_rfl))) ?_
    exact ⟨(wrapI ((wrapI ((wrapI ((wrapI (t8 * 1000)) + t11)) * 1000)) + t15)), true, rfl, h⟩
theorem vers_Rank.go {v_Major : Int} {v_Minor : Int} {v_Patch : Int} {w : World} {k : Value → World → Prop} (h : vers_Rank v_Major v_Minor v_Patch w fun r0 r1 w' => k (Value.tuple #[(Value.int .i64 r0), (Value.bool r1)]) w') : callS Tryz.prog 123 [(Value.agg #[(Value.int .i64 v_Major), (Value.int .i64 v_Minor), (Value.int .i64 v_Patch)])] w k := (vers_Rank.sound v_Major v_Minor v_Patch w _ h).mono (by rintro _ _ ⟨r0, r1, rfl, h⟩; exact h)

/-- slices.IndexFunc[[]halyard/api.Span,halyard/api.Span] -/
def slices_IndexFunc_apiSpanapiSpan (vs : Sl) (f : Value) (w : World) (R : Int → World → Prop) : Prop :=
  loop1 0 w fun t8 vw nxt => ((t8 < (vs.len : Int) → ∃ (ad : Addr), (vs.a = some ad ∧ (0 : Int) ≤ t8 ∧ t8 < (vs.len : Int)) ∧ ∃ (t15_Lo_Major : Int) (t15_Lo_Minor : Int) (t15_Lo_Patch : Int) (t15_Hi_Major : Int) (t15_Hi_Minor : Int) (t15_Hi_Patch : Int), (ldc vw (ad.add (t8.toNat * 6)) [(Value.int .i64 t15_Lo_Major), (Value.int .i64 t15_Lo_Minor), (Value.int .i64 t15_Lo_Patch), (Value.int .i64 t15_Hi_Major), (Value.int .i64 t15_Hi_Minor), (Value.int .i64 t15_Hi_Patch)]) ∧ callV Tryz.prog f [(Value.agg #[(Value.int .i64 t15_Lo_Major), (Value.int .i64 t15_Lo_Minor), (Value.int .i64 t15_Lo_Patch), (Value.int .i64 t15_Hi_Major), (Value.int .i64 t15_Hi_Minor), (Value.int .i64 t15_Hi_Patch)])] vw fun v vw1 => ∃ (t16 : Bool), v = (Value.bool t16) ∧ ((t16 = true → R t8 vw1) ∧ (t16 = false → nxt (wrapI (t8 + 1)) vw1))) ∧ (¬ (t8 < (vs.len : Int)) → R (-1) vw))
set_option maxHeartbeats 8000000 in
theorem slices_IndexFunc_apiSpanapiSpan.sound (vs : Sl) (f : Value) (w : World) (R : Int → World → Prop) (h : slices_IndexFunc_apiSpanapiSpan vs f w R) : callS Tryz.prog 128 [(Sl.v vs), f] w (fun v w' => ∃ (r0 : Int), v = (Value.int .i64 r0) ∧ R r0 w') := by
  unfold slices_IndexFunc_apiSpanapiSpan at h
  refine calls_of_vc 19 rfl Tryz.func128 rfl (by kernel_rfl) (by simp) ?_
  refine Vc.seq ?_
  refine Vc.region ?_
  refine vcL_pure rfl rfl (Value.int .i64 0) (fun w => by kernel_rfl) ?_
  refine vcL_nil ?_
  refine Vc.seq ?_
  refine Vc.seq ?_
  refine Vc.region ?_
  refine vcL_purs 3 [(8, (Value.int .i64 0)), (7, (Value.int .i64 (vs.len : Int))), (6, (Sl.v vs))] (by kernel_rfl) ?_
  refine vcL_nil ?_
  refine Vc.block ?_
  obtain ⟨vI, mu, h, hr⟩ := h
  refine Vc.loopJ (σ := Int) [8] [4, 5, 9, 10, 11, 12, 13, 14, 15, 16, 17, 18] (fun s => [(8, (Value.int .i64 s))]) (fun s w => vI s w) (fun s w => mu s w) 0 h (fun _ => rfl) (by kernel_rfl) ?_
  intro t8 vw j h
  have h := hr t8 vw h
  refine Vc.seq ?_
  refine Vc.region ?_
  refine vcL_pure rfl rfl (Value.bool (decide (t8 < (vs.len : Int)))) (fun w => by kernel_rfl) ?_
  refine vcL_nil ?_
  refine Vc.seq ?_
  refine Vc.cond (decide (t8 < (vs.len : Int))) (by kernel_rfl) (fun hb => ?_) (fun hb => ?_)
  · have h := h.1 (of_decide_eq_true hb)
    refine Vc.skip ?_
    refine Vc.seq ?_
    refine Vc.block ?_
    refine Vc.seq ?_
    refine Vc.region ?_
    refine vcL_purs 2 [(5, (Value.int .i64 t8)), (10, (Value.int .i64 t8))] (by kernel_rfl) ?_
    refine vcL_nil ?_
    refine Vc.seq ?_
    refine Vc.region ?_
    refine vcL_purs 3 [(13, (Value.int .i64 t8)), (12, (Sl.v vs)), (11, f)] (by kernel_rfl) ?_
    obtain ⟨ad, hi, h⟩ := h
    refine vcL_pure rfl rfl (Value.pointer (some (ad.add (t8.toNat * 6)))) (fun w => by exact exec_indexAt (s := vs) (el := 83) rfl (by kernel_rfl) (by kernel_rfl) (by kernel_rfl) (fun w => by kernel_rfl) (hi).1 (hi).2.1 (hi).2.2 w) ?_
    obtain ⟨t15_Lo_Major, t15_Lo_Minor, t15_Lo_Patch, t15_Hi_Major, t15_Hi_Minor, t15_Hi_Patch, hc, h⟩ := h
    refine vcL_val rfl rfl (Value.agg #[(Value.int .i64 t15_Lo_Major), (Value.int .i64 t15_Lo_Minor), (Value.int .i64 t15_Lo_Patch), (Value.int .i64 t15_Hi_Major), (Value.int .i64 t15_Hi_Minor), (Value.int .i64 t15_Hi_Patch)]) (exec_load rfl (by kernel_rfl) (run_loadN (fun w => by kernel_rfl) (fun w => by kernel_rfl) ((hc)))) ?_
    refine vcL_eff rfl (opVC_callV rfl rfl (fv := f) (by kernel_rfl) (args := [(Value.agg #[(Value.int .i64 t15_Lo_Major), (Value.int .i64 t15_Lo_Minor), (Value.int .i64 t15_Lo_Patch), (Value.int .i64 t15_Hi_Major), (Value.int .i64 t15_Hi_Minor), (Value.int .i64 t15_Hi_Patch)])]) (by kernel_rfl) (callV.mono h fun v vw1 h => ?_)) 
    obtain ⟨t16, rfl, h⟩ := h
    refine vcL_nil ?_
    refine Vc.cond t16 (by kernel_rfl) (fun hb => ?_) (fun hb => ?_)
    · have h := h.1 (hb)
      refine Vc.seq ?_
      refine Vc.region ?_
      refine vcL_purs 2 [(4, (Value.int .i64 t8)), (17, (Value.int .i64 t8))] (by kernel_rfl) ?_
      refine vcL_nil ?_
      refine Vc.ret ?_
      refine outOf_ret ?_
      refine outOf_ret ?_
      refine outs_ret ?_
      refine done_mk (Value.int .i64 t8) (res1 (resC_tmp (by kernel_rfl))) ?_
      exact ⟨t8, rfl, h⟩
    · have h := h.2 (hb)
      refine Vc.skip ?_
      refine Vc.region ?_
      refine vcL_purs 2 [(8, (Value.int .i64 (wrapI (t8 + 1)))), (18, (Value.int .i64 (wrapI (t8 + 1))))] (by kernel_rfl) ?_
      refine vcL_nil ?_
      exact ⟨(wrapI (t8 + 1)), 24, ⟨rfl, by kernel_rfl, by kernel_rfl, by kernel_rfl⟩, h⟩
  · have h := h.2 (of_decide_eq_false hb)
    refine Vc.exit ?_
    refine outOf_hit ?_
    refine Vc.seq ?_
    refine Vc.region ?_
    refine vcL_pure rfl rfl (Value.int .i64 (-1)) (fun w => by kernel_rfl) ?_
    refine vcL_nil ?_
    refine Vc.ret ?_
    refine outs_ret ?_
    refine done_mk (Value.int .i64 (-1)) (res1 (resC_tmp (by kernel_rfl))) ?_
    exact ⟨(-1), rfl, h⟩
theorem slices_IndexFunc_apiSpanapiSpan.go {vs : Sl} {f : Value} {w : World} {k : Value → World → Prop} (h : slices_IndexFunc_apiSpanapiSpan vs f w fun r0 w' => k (Value.int .i64 r0) w') : callS Tryz.prog 128 [(Sl.v vs), f] w k := (slices_IndexFunc_apiSpanapiSpan.sound vs f w _ h).mono (by rintro _ _ ⟨r0, rfl, h⟩; exact h)

/-- cmp.Compare[int] -/
def cmp_Compare_int (x : Int) (y : Int) (w : World) (R : Int → World → Prop) : Prop :=
  callS Tryz.prog 171 [(Value.int .i64 x)] w fun v vw => ∃ (t8 : Bool), v = (Value.bool t8) ∧ callS Tryz.prog 171 [(Value.int .i64 y)] vw fun v2 vw1 => ∃ (t10 : Bool), v2 = (Value.bool t10) ∧ ((t8 = true → ((t10 = true → R 0 vw1) ∧ (t10 = false → R (-1) vw1))) ∧ (t8 = false → ((t10 = true → R 1 vw1) ∧ (t10 = false → ((x < y → R (-1) vw1) ∧ (¬ (x < y) → ((y < x → R 1 vw1) ∧ (¬ (y < x) → R 0 vw1))))))))
set_option maxHeartbeats 8000000 in
theorem cmp_Compare_int.sound (x : Int) (y : Int) (w : World) (R : Int → World → Prop) (h : cmp_Compare_int x y w R) : callS Tryz.prog 129 [(Value.int .i64 x), (Value.int .i64 y)] w (fun v w' => ∃ (r0 : Int), v = (Value.int .i64 r0) ∧ R r0 w') := by
  unfold cmp_Compare_int at h
  refine calls_of_vc 20 rfl Tryz.func129 rfl (by kernel_rfl) (by simp) ?_
  refine Vc.seq ?_
  refine Vc.region ?_
  refine vcL_pure rfl rfl (Value.int .i64 0) (fun w => by kernel_rfl) ?_
  refine vcL_nil ?_
  refine Vc.seq ?_
  refine Vc.region ?_
  refine vcL_pure rfl rfl (Value.int .i64 x) (fun w => by kernel_rfl) ?_
  refine vcL_eff rfl (opVC_call rfl (by kernel_rfl) (callS.mono h fun v vw h => ?_)) 
  obtain ⟨t8, rfl, h⟩ := h
  refine vcL_pure rfl rfl (Value.bool t8) (fun w => by kernel_rfl) ?_
  refine vcL_nil ?_
  refine Vc.seq ?_
  refine Vc.region ?_
  refine vcL_pure rfl rfl (Value.int .i64 y) (fun w => by kernel_rfl) ?_
  refine vcL_eff rfl (opVC_call rfl (by kernel_rfl) (callS.mono h fun v2 vw1 h => ?_)) 
  obtain ⟨t10, rfl, h⟩ := h
  refine vcL_pure rfl rfl (Value.bool t10) (fun w => by kernel_rfl) ?_
  refine vcL_nil ?_
  refine Vc.seq ?_
  refine Vc.seq ?_
  refine Vc.region ?_
  refine vcL_pure rfl rfl (Value.bool t8) (fun w => by kernel_rfl) ?_
  refine vcL_nil ?_
  refine Vc.cond t8 (by kernel_rfl) (fun hb => ?_) (fun hb => ?_)
  · have h := h.1 (hb)
    refine Vc.seq ?_
    refine Vc.seq ?_
    refine Vc.region ?_
    refine vcL_pure rfl rfl (Value.bool t10) (fun w => by kernel_rfl) ?_
    refine vcL_nil ?_
    refine Vc.cond t10 (by kernel_rfl) (fun hb => ?_) (fun hb => ?_)
    · have h := h.1 (hb)
      refine Vc.seq ?_
      refine Vc.region ?_
      refine vcL_pure rfl rfl (Value.int .i64 0) (fun w => by kernel_rfl) ?_
      refine vcL_nil ?_
      refine Vc.ret ?_
      refine outs_ret ?_
      refine done_mk (Value.int .i64 0) (res1 (resC_tmp (by kernel_rfl))) ?_
      exact ⟨0, rfl, h⟩
    · have h := h.2 (hb)
      refine Vc.skip ?_
      refine Vc.seq ?_
      refine Vc.region ?_
      refine vcL_pure rfl rfl (Value.int .i64 (-1)) (fun w => by kernel_rfl) ?_
      refine vcL_nil ?_
      refine Vc.ret ?_
      refine outs_ret ?_
      refine done_mk (Value.int .i64 (-1)) (res1 (resC_tmp (by kernel_rfl))) ?_
      exact ⟨(-1), rfl, h⟩
  · have h := h.2 (hb)
    refine Vc.skip ?_
    refine Vc.seq ?_
    refine Vc.seq ?_
    refine Vc.region ?_
    refine vcL_pure rfl rfl (Value.bool t10) (fun w => by kernel_rfl) ?_
    refine vcL_nil ?_
    refine Vc.cond t10 (by kernel_rfl) (fun hb => ?_) (fun hb => ?_)
    · have h := h.1 (hb)
      refine Vc.seq ?_
      refine Vc.region ?_
      refine vcL_pure rfl rfl (Value.int .i64 1) (fun w => by kernel_rfl) ?_
      refine vcL_nil ?_
      refine Vc.ret ?_
      refine outs_ret ?_
      refine done_mk (Value.int .i64 1) (res1 (resC_tmp (by kernel_rfl))) ?_
      exact ⟨1, rfl, h⟩
    · have h := h.2 (hb)
      refine Vc.skip ?_
      refine Vc.seq ?_
      refine Vc.seq ?_
      refine Vc.region ?_
      refine vcL_purs 3 [(16, (Value.bool (decide (x < y)))), (15, (Value.int .i64 y)), (14, (Value.int .i64 x))] (by kernel_rfl) ?_
      refine vcL_nil ?_
      refine Vc.cond (decide (x < y)) (by kernel_rfl) (fun hb => ?_) (fun hb => ?_)
      · have h := h.1 (of_decide_eq_true hb)
        refine Vc.seq ?_
        refine Vc.region ?_
        refine vcL_pure rfl rfl (Value.int .i64 (-1)) (fun w => by kernel_rfl) ?_
        refine vcL_nil ?_
        refine Vc.ret ?_
        refine outs_ret ?_
        refine done_mk (Value.int .i64 (-1)) (res1 (resC_tmp (by kernel_rfl))) ?_
        exact ⟨(-1), rfl, h⟩
      · have h := h.2 (of_decide_eq_false hb)
        refine Vc.skip ?_
        refine Vc.seq ?_
        refine Vc.seq ?_
        refine Vc.region ?_
        refine vcL_purs 3 [(19, (Value.bool (decide (y < x)))), (18, (Value.int .i64 y)), (17, (Value.int .i64 x))] (by kernel_rfl) ?_
        refine vcL_nil ?_
        refine Vc.cond (decide (y < x)) (by kernel_rfl) (fun hb => ?_) (fun hb => ?_)
        · have h := h.1 (of_decide_eq_true hb)
          refine Vc.seq ?_
          refine Vc.region ?_
          refine vcL_pure rfl rfl (Value.int .i64 1) (fun w => by kernel_rfl) ?_
          refine vcL_nil ?_
          refine Vc.ret ?_
          refine outs_ret ?_
          refine done_mk (Value.int .i64 1) (res1 (resC_tmp (by kernel_rfl))) ?_
          exact ⟨1, rfl, h⟩
        · have h := h.2 (of_decide_eq_false hb)
          refine Vc.skip ?_
          refine Vc.seq ?_
          refine Vc.region ?_
          refine vcL_pure rfl rfl (Value.int .i64 0) (fun w => by kernel_rfl) ?_
          refine vcL_nil ?_
          refine Vc.ret ?_
          refine outs_ret ?_
          refine done_mk (Value.int .i64 0) (res1 (resC_tmp (by kernel_rfl))) ?_
          exact ⟨0, rfl, h⟩
theorem cmp_Compare_int.go {x : Int} {y : Int} {w : World} {k : Value → World → Prop} (h : cmp_Compare_int x y w fun r0 w' => k (Value.int .i64 r0) w') : callS Tryz.prog 129 [(Value.int .i64 x), (Value.int .i64 y)] w k := (cmp_Compare_int.sound x y w _ h).mono (by rintro _ _ ⟨r0, rfl, h⟩; exact h)

/-- halyard/vers.Print -/
def vers_Print (v_Major : Int) (v_Minor : Int) (v_Patch : Int) (w : World) (R : ByteArray → World → Prop) : Prop :=
  newS w [(Value.int .i64 v_Major), (Value.int .i64 v_Minor), (Value.int .i64 v_Patch)] 30 fun a vw => ∃ (t3_Major : Int) (t3_Minor : Int) (t3_Patch : Int), (ldc vw a [(Value.int .i64 t3_Major), (Value.int .i64 t3_Minor), (Value.int .i64 t3_Patch)]) ∧ callS Tryz.prog 97 [(Value.agg #[(Value.int .i64 t3_Major), (Value.int .i64 t3_Minor), (Value.int .i64 t3_Patch)])] vw fun v vw1 => ∃ (t4 : Bool), v = (Value.bool t4) ∧ (((!t4) = true → R (ByteArray.mk #[]) vw1) ∧ ((!t4) = false → bnd vw1.drew fun (vw2 : World) => ∃ (t7 : Int), (ldc vw2 a [(Value.int .i64 t7)]) ∧ ∃ (t11 : Int), (ldc vw2 (a.add 1) [(Value.int .i64 t11)]) ∧ ∃ (t16 : Int), (ldc vw2 (a.add 2) [(Value.int .i64 t16)]) ∧ callX Tryz.prog 185 [(Value.int .i64 t7)] vw2 fun v7 vw6 => ∃ (t8 : ByteArray), v7 = (Value.string t8) ∧ (((t8.size + (ByteArray.mk #[46]).size : Nat) : Int) ≤ maxI) ∧ callX Tryz.prog 185 [(Value.int .i64 t11)] vw6 fun v10 vw9 => ∃ (t12 : ByteArray), v10 = (Value.string t12) ∧ ((((t8 ++ (ByteArray.mk #[46])).size + t12.size : Nat) : Int) ≤ maxI) ∧ (((((t8 ++ (ByteArray.mk #[46])) ++ t12).size + (ByteArray.mk #[46]).size : Nat) : Int) ≤ maxI) ∧ callS Tryz.prog 185 [(Value.int .i64 t16)] vw9 fun v15 vw14 => ∃ (t17 : ByteArray), v15 = (Value.string t17) ∧ ((((((t8 ++ (ByteArray.mk #[46])) ++ t12) ++ (ByteArray.mk #[46])).size + t17.size : Nat) : Int) ≤ maxI) ∧ R ((((t8 ++ (ByteArray.mk #[46])) ++ t12) ++ (ByteArray.mk #[46])) ++ t17) vw14))
set_option maxHeartbeats 8000000 in
theorem vers_Print.sound (v_Major : Int) (v_Minor : Int) (v_Patch : Int) (w : World) (R : ByteArray → World → Prop) (h : vers_Print v_Major v_Minor v_Patch w R) : callS Tryz.prog 144 [(Value.agg #[(Value.int .i64 v_Major), (Value.int .i64 v_Minor), (Value.int .i64 v_Patch)])] w (fun v w' => ∃ (r0 : ByteArray), v = (Value.string r0) ∧ R r0 w') := by
  unfold vers_Print at h
  refine calls_of_vc 19 rfl Tryz.func144 rfl (by kernel_rfl) (by simp) ?_
  refine Vc.seq ?_
  refine Vc.region ?_
  refine vcL_eff rfl (opVC_new rfl (fun a => Value.pointer (some a)) (by kernel_rfl) (newS.mono h fun a vw hx h => ?_)) 
  refine vcL_pure rfl rfl (Value.string (ByteArray.mk #[])) (fun w => by kernel_rfl) ?_
  refine vcL_nil ?_
  refine Vc.seq ?_
  refine Vc.seq ?_
  refine Vc.region ?_
  obtain ⟨t3_Major, t3_Minor, t3_Patch, hc, h⟩ := h
  refine vcL_val rfl rfl (Value.agg #[(Value.int .i64 t3_Major), (Value.int .i64 t3_Minor), (Value.int .i64 t3_Patch)]) (exec_load rfl (by kernel_rfl) (run_loadN (fun w => by kernel_rfl) (fun w => by kernel_rfl) ((hc)))) ?_
  refine vcL_eff rfl (opVC_call rfl (by kernel_rfl) (callS.mono h fun v vw1 h => ?_)) 
  obtain ⟨t4, rfl, h⟩ := h
  refine vcL_pure rfl rfl (Value.bool (!t4)) (fun w => by kernel_rfl) ?_
  refine vcL_nil ?_
  refine Vc.cond (!t4) (by kernel_rfl) (fun hb => ?_) (fun hb => ?_)
  · have h := h.1 (hb)
    refine Vc.seq ?_
    refine Vc.region ?_
    refine vcL_pure rfl rfl (Value.string (ByteArray.mk #[])) (fun w => by kernel_rfl) ?_
    refine vcL_nil ?_
    refine Vc.ret ?_
    refine outs_ret ?_
    refine done_mk (Value.string (ByteArray.mk #[])) (res1 (resC_tmp (by kernel_rfl))) ?_
    exact ⟨(ByteArray.mk #[]), rfl, h⟩
  · have h := h.2 (hb)
    refine Vc.skip ?_
    refine Vc.seq ?_
    obtain ⟨vw2, hvw2⟩ : ∃ y, y = vw1.drew := ⟨_, rfl⟩
    have h := h vw2 hvw2
    refine Vc.draw (by kernel_rfl) (fun i => !(memN [11] i)) (.pur 0 (.val 1 (.pur 4 (.val 5 (.pur 9 (.val 10 (.eff 2 (.pur 3 (.eff 6 (.pur 7 (.pur 8 (.eff 11 (.pur 12 (.pur 13 .fin)) .stop))) .stop)) .stop))))))) (by kernel_rfl) ?_
    rw [← hvw2]
    clear hvw2
    refine vcS_pure rfl rfl rfl (Value.pointer (some a)) (fun w => by kernel_rfl) ?_
    obtain ⟨t7, hc3, h⟩ := h
    refine vcS_val rfl rfl rfl (Value.int .i64 t7) (fun w' hx => exec_load rfl (by kernel_rfl) (run_load1 (fun w => by kernel_rfl) ((hc3).ext hx))) ?_
    refine vcS_pure rfl rfl rfl (Value.pointer (some (a.add 1))) (fun w => by kernel_rfl) ?_
    obtain ⟨t11, hc4, h⟩ := h
    refine vcS_val rfl rfl rfl (Value.int .i64 t11) (fun w' hx => exec_load rfl (by kernel_rfl) (run_load1 (fun w => by kernel_rfl) ((hc4).ext hx))) ?_
    refine vcS_pure rfl rfl rfl (Value.pointer (some (a.add 2))) (fun w => by kernel_rfl) ?_
    obtain ⟨t16, hc5, h⟩ := h
    refine vcS_val rfl rfl rfl (Value.int .i64 t16) (fun w' hx => exec_load rfl (by kernel_rfl) (run_load1 (fun w => by kernel_rfl) ((hc5).ext hx))) ?_
    refine vcS_eff rfl rfl (opVC_call rfl (by kernel_rfl) (callS.mono h fun v7 vw6 h => ?_)) vcS_stop
    obtain ⟨hx8, h⟩ := h
    obtain ⟨t8, rfl, h⟩ := h
    refine ⟨fun _ => hx8, ?_⟩
    obtain ⟨hi, h⟩ := h
    refine vcS_pure rfl rfl rfl (Value.string (t8 ++ (ByteArray.mk #[46]))) (fun w => by exact exec_str_add (a := t8) (b := (ByteArray.mk #[46])) rfl (by kernel_rfl) (by kernel_rfl) (hi) w) ?_
    refine vcS_eff rfl rfl (opVC_call rfl (by kernel_rfl) (callS.mono h fun v10 vw9 h => ?_)) vcS_stop
    obtain ⟨hx11, h⟩ := h
    obtain ⟨t12, rfl, h⟩ := h
    refine ⟨fun _ => hx11, ?_⟩
    obtain ⟨hi12, h⟩ := h
    refine vcS_pure rfl rfl rfl (Value.string ((t8 ++ (ByteArray.mk #[46])) ++ t12)) (fun w => by exact exec_str_add (a := (t8 ++ (ByteArray.mk #[46]))) (b := t12) rfl (by kernel_rfl) (by kernel_rfl) (hi12) w) ?_
    obtain ⟨hi13, h⟩ := h
    refine vcS_pure rfl rfl rfl (Value.string (((t8 ++ (ByteArray.mk #[46])) ++ t12) ++ (ByteArray.mk #[46]))) (fun w => by exact exec_str_add (a := ((t8 ++ (ByteArray.mk #[46])) ++ t12)) (b := (ByteArray.mk #[46])) rfl (by kernel_rfl) (by kernel_rfl) (hi13) w) ?_
    refine vcS_eff rfl rfl (opVC_call rfl (by kernel_rfl) (callS.mono h fun v15 vw14 h => ?_)) vcS_stop
    obtain ⟨t17, rfl, h⟩ := h
    refine ⟨fun hb => absurd hb (by decide), ?_⟩
    obtain ⟨hi17, h⟩ := h
    refine vcS_pure rfl rfl rfl (Value.string ((((t8 ++ (ByteArray.mk #[46])) ++ t12) ++ (ByteArray.mk #[46])) ++ t17)) (fun w => by exact exec_str_add (a := (((t8 ++ (ByteArray.mk #[46])) ++ t12) ++ (ByteArray.mk #[46]))) (b := t17) rfl (by kernel_rfl) (by kernel_rfl) (hi17) w) ?_
    refine vcS_pure rfl rfl rfl (Value.string ((((t8 ++ (ByteArray.mk #[46])) ++ t12) ++ (ByteArray.mk #[46])) ++ t17)) (fun w => by kernel_rfl) ?_
    refine vcS_fin ?_
    refine Vc.ret ?_
    refine outs_ret ?_
    refine done_mk (Value.string ((((t8 ++ (ByteArray.mk #[46])) ++ t12) ++ (ByteArray.mk #[46])) ++ t17)) (res1 (resC_tmp (by kernel_rfl))) ?_
    exact ⟨((((t8 ++ (ByteArray.mk #[46])) ++ t12) ++ (ByteArray.mk #[46])) ++ t17), rfl, h⟩
theorem vers_Print.go {v_Major : Int} {v_Minor : Int} {v_Patch : Int} {w : World} {k : Value → World → Prop} (h : vers_Print v_Major v_Minor v_Patch w fun r0 w' => k (Value.string r0) w') : callS Tryz.prog 144 [(Value.agg #[(Value.int .i64 v_Major), (Value.int .i64 v_Minor), (Value.int .i64 v_Patch)])] w k := (vers_Print.sound v_Major v_Minor v_Patch w _ h).mono (by rintro _ _ ⟨r0, rfl, h⟩; exact h)

/-- halyard/pack.lines -/
def pack_lines (b : Option Addr) (word : ByteArray) (l : Sl) (w : World) (R : World → Prop) : Prop :=
  loop1 0 w fun t10 vw nxt => ((t10 < (l.len : Int) → ∃ (ad : Addr), (l.a = some ad ∧ (0 : Int) ≤ t10 ∧ t10 < (l.len : Int)) ∧ ∃ (t13_Name : ByteArray) (t13_Range : Sl), (ldc vw (ad.add (t10.toNat * 2)) [(Value.string t13_Name), (Sl.v t13_Range)]) ∧ newS vw [(Value.string (ByteArray.mk #[])), (Sl.v Sl.nil)] 81 fun a vw1 => stw vw1 a [(Value.string t13_Name), (Sl.v t13_Range)] fun vw2 => bnd vw2.drew fun (vw3 : World) => (((word.size + (ByteArray.mk #[32]).size : Nat) : Int) ≤ maxI) ∧ ∃ (t18 : ByteArray), (ldc vw3 a [(Value.string t18)]) ∧ ((((word ++ (ByteArray.mk #[32])).size + t18.size : Nat) : Int) ≤ maxI) ∧ (((((word ++ (ByteArray.mk #[32])) ++ t18).size + (ByteArray.mk #[32]).size : Nat) : Int) ≤ maxI) ∧ ∃ (t22 : Sl), (ldc vw3 (a.add 1) [(Sl.v t22)]) ∧ callX Tryz.prog 186 [(Sl.v t22)] vw3 fun v vw9 => ∃ (t23 : ByteArray), v = (Value.string t23) ∧ ((((((word ++ (ByteArray.mk #[32])) ++ t18) ++ (ByteArray.mk #[32])).size + t23.size : Nat) : Int) ≤ maxI) ∧ (((((((word ++ (ByteArray.mk #[32])) ++ t18) ++ (ByteArray.mk #[32])) ++ t23).size + (ByteArray.mk #[10]).size : Nat) : Int) ≤ maxI) ∧ callS Tryz.prog 143 [(Value.pointer b), (Value.string (((((word ++ (ByteArray.mk #[32])) ++ t18) ++ (ByteArray.mk #[32])) ++ t23) ++ (ByteArray.mk #[10])))] vw9 fun v13 vw12 => ∃ (t26 : Int) (t26b : Value), v13 = (Value.tuple #[(Value.int .i64 t26), t26b]) ∧ nxt (wrapI (t10 + 1)) vw12) ∧ (¬ (t10 < (l.len : Int)) → R vw))
set_option maxHeartbeats 8000000 in
theorem pack_lines.sound (b : Option Addr) (word : ByteArray) (l : Sl) (w : World) (R : World → Prop) (h : pack_lines b word l w R) : callS Tryz.prog 145 [(Value.pointer b), (Value.string word), (Sl.v l)] w (fun v w' => v = (Value.tuple #[]) ∧ R w') := by
  unfold pack_lines at h
  refine calls_of_vc 28 rfl Tryz.func145 rfl (by kernel_rfl) (by simp) ?_
  refine Vc.seq ?_
  refine Vc.region ?_
  refine vcL_purs 3 [(10, (Value.int .i64 0)), (9, (Value.int .i64 (l.len : Int))), (8, (Sl.v l))] (by kernel_rfl) ?_
  refine vcL_nil ?_
  refine Vc.block ?_
  obtain ⟨vI, mu, h, hr⟩ := h
  refine Vc.loopJ (σ := Int) [10] [7, 11, 12, 13, 14, 15, 16, 17, 18, 19, 20, 21, 22, 23, 24, 25, 26, 27] (fun s => [(10, (Value.int .i64 s))]) (fun s w => vI s w) (fun s w => mu s w) 0 h (fun _ => rfl) (by kernel_rfl) ?_
  intro t10 vw j h
  have h := hr t10 vw h
  refine Vc.seq ?_
  refine Vc.region ?_
  refine vcL_pure rfl rfl (Value.bool (decide (t10 < (l.len : Int)))) (fun w => by kernel_rfl) ?_
  refine vcL_nil ?_
  refine Vc.seq ?_
  refine Vc.cond (decide (t10 < (l.len : Int))) (by kernel_rfl) (fun hb => ?_) (fun hb => ?_)
  · have h := h.1 (of_decide_eq_true hb)
    refine Vc.skip ?_
    refine Vc.seq ?_
    refine Vc.block ?_
    refine Vc.seq ?_
    refine Vc.region ?_
    obtain ⟨ad, hi, h⟩ := h
    refine vcL_pure rfl rfl (Value.pointer (some (ad.add (t10.toNat * 2)))) (fun w => by exact exec_indexAt (s := l) (el := 81) rfl (by kernel_rfl) (by kernel_rfl) (by kernel_rfl) (fun w => by kernel_rfl) (hi).1 (hi).2.1 (hi).2.2 w) ?_
    obtain ⟨t13_Name, t13_Range, hc, h⟩ := h
    refine vcL_val rfl rfl (Value.agg #[(Value.string t13_Name), (Sl.v t13_Range)]) (exec_load rfl (by kernel_rfl) (run_loadN (fun w => by kernel_rfl) (fun w => by kernel_rfl) ((hc)))) ?_
    refine vcL_eff rfl (opVC_new rfl (fun a => Value.pointer (some a)) (by kernel_rfl) (newS.mono h fun a vw1 hx h => ?_)) 
    refine vcL_eff rfl (opVC_store rfl rfl (a := a) (by kernel_rfl) (v := (Value.agg #[(Value.string t13_Name), (Sl.v t13_Range)])) (by kernel_rfl) [(Value.string t13_Name), (Sl.v t13_Range)] (by kernel_rfl) (fun w => by kernel_rfl) (by kernel_rfl) (stw.mono h fun vw2 h => ?_)) 
    refine vcL_nil ?_
    obtain ⟨vw3, hvw3⟩ : ∃ y, y = vw2.drew := ⟨_, rfl⟩
    have h := h vw3 hvw3
    refine Vc.draw (by kernel_rfl) (fun i => !(memN [12] i)) (.pur 0 (.pur 1 (.pur 2 (.pur 3 (.val 4 (.pur 5 (.pur 6 (.pur 7 (.val 8 (.eff 9 (.pur 10 (.pur 11 (.eff 12 .fin .stop))) .stop)))))))))) (by kernel_rfl) ?_
    rw [← hvw3]
    clear hvw3
    refine vcS_pure rfl rfl rfl (Value.pointer b) (fun w => by kernel_rfl) ?_
    refine vcS_pure rfl rfl rfl (Value.string word) (fun w => by kernel_rfl) ?_
    obtain ⟨hi4, h⟩ := h
    refine vcS_pure rfl rfl rfl (Value.string (word ++ (ByteArray.mk #[32]))) (fun w => by exact exec_str_add (a := word) (b := (ByteArray.mk #[32])) rfl (by kernel_rfl) (by kernel_rfl) (hi4) w) ?_
    refine vcS_pure rfl rfl rfl (Value.pointer (some a)) (fun w => by kernel_rfl) ?_
    obtain ⟨t18, hc5, h⟩ := h
    refine vcS_val rfl rfl rfl (Value.string t18) (fun w' hx => exec_load rfl (by kernel_rfl) (run_load1 (fun w => by kernel_rfl) ((hc5).ext hx))) ?_
    obtain ⟨hi6, h⟩ := h
    refine vcS_pure rfl rfl rfl (Value.string ((word ++ (ByteArray.mk #[32])) ++ t18)) (fun w => by exact exec_str_add (a := (word ++ (ByteArray.mk #[32]))) (b := t18) rfl (by kernel_rfl) (by kernel_rfl) (hi6) w) ?_
    obtain ⟨hi7, h⟩ := h
    refine vcS_pure rfl rfl rfl (Value.string (((word ++ (ByteArray.mk #[32])) ++ t18) ++ (ByteArray.mk #[32]))) (fun w => by exact exec_str_add (a := ((word ++ (ByteArray.mk #[32])) ++ t18)) (b := (ByteArray.mk #[32])) rfl (by kernel_rfl) (by kernel_rfl) (hi7) w) ?_
    refine vcS_pure rfl rfl rfl (Value.pointer (some (a.add 1))) (fun w => by kernel_rfl) ?_
    obtain ⟨t22, hc8, h⟩ := h
    refine vcS_val rfl rfl rfl (Sl.v t22) (fun w' hx => exec_load rfl (by kernel_rfl) (run_load1 (fun w => by kernel_rfl) ((hc8).ext hx))) ?_
    refine vcS_eff rfl rfl (opVC_call rfl (by kernel_rfl) (callS.mono h fun v vw9 h => ?_)) vcS_stop
    obtain ⟨hx, h⟩ := h
    obtain ⟨t23, rfl, h⟩ := h
    refine ⟨fun _ => hx, ?_⟩
    obtain ⟨hi10, h⟩ := h
    refine vcS_pure rfl rfl rfl (Value.string ((((word ++ (ByteArray.mk #[32])) ++ t18) ++ (ByteArray.mk #[32])) ++ t23)) (fun w => by exact exec_str_add (a := (((word ++ (ByteArray.mk #[32])) ++ t18) ++ (ByteArray.mk #[32]))) (b := t23) rfl (by kernel_rfl) (by kernel_rfl) (hi10) w) ?_
    obtain ⟨hi11, h⟩ := h
    refine vcS_pure rfl rfl rfl (Value.string (((((word ++ (ByteArray.mk #[32])) ++ t18) ++ (ByteArray.mk #[32])) ++ t23) ++ (ByteArray.mk #[10]))) (fun w => by exact exec_str_add (a := ((((word ++ (ByteArray.mk #[32])) ++ t18) ++ (ByteArray.mk #[32])) ++ t23)) (b := (ByteArray.mk #[10])) rfl (by kernel_rfl) (by kernel_rfl) (hi11) w) ?_
    refine vcS_eff rfl rfl (opVC_call rfl (by kernel_rfl) (callS.mono h fun v13 vw12 h => ?_)) vcS_stop
    obtain ⟨t26, t26b, rfl, h⟩ := h
    refine ⟨fun hb => absurd hb (by decide), ?_⟩
    refine vcS_fin ?_
    refine Vc.region ?_
    refine vcL_purs 2 [(10, (Value.int .i64 (wrapI (t10 + 1)))), (27, (Value.int .i64 (wrapI (t10 + 1))))] (by kernel_rfl) ?_
    refine vcL_nil ?_
    exact ⟨(wrapI (t10 + 1)), 38, ⟨rfl, by kernel_rfl, by kernel_rfl, by kernel_rfl⟩, h⟩
  · have h := h.2 (of_decide_eq_false hb)
    refine Vc.exit ?_
    refine outOf_hit ?_
    refine done_mk (Value.tuple #[]) (res0 ) ?_
    exact ⟨rfl, h⟩
theorem pack_lines.go {b : Option Addr} {word : ByteArray} {l : Sl} {w : World} {k : Value → World → Prop} (h : pack_lines b word l w fun  w' => k (Value.tuple #[]) w') : callS Tryz.prog 145 [(Value.pointer b), (Value.string word), (Sl.v l)] w k := (pack_lines.sound b word l w _ h).mono (by rintro _ _ ⟨rfl, h⟩; exact h)

/-- halyard/halyardref02.Number -/
def halyardref02_Number (n : Int) (w : World) (R : ByteArray → World → Prop) : Prop :=
  ((n < 10 → newS w [(Value.int .u8 (IntKind.wrap .u8 (wrapI (48 + n))))] 5 fun a vw => ∃ (t9 : ByteArray), (stabS Tryz.prog (Go.convert 180 9 (Sl.v (Sl.mk (some a) 1 1))) vw (Value.string t9)) ∧ R t9 vw) ∧ (¬ (n < 10) → join (fun (t2 : ByteArray) (vw1 : World) => R t2 vw1) fun vJ => bnd w.drew fun (vw2 : World) => ((callX Tryz.prog 164 [(Value.int .i64 (wrapI (n.tdiv 10)))] vw2 fun v vw3 => ∃ (t12 : ByteArray), v = (Value.string t12) ∧ newS vw3 [(Value.int .u8 (IntKind.wrap .u8 (wrapI (48 + (Int.tmod n 10)))))] 5 fun a4 vw5 => ∃ (t18 : ByteArray), (stabS Tryz.prog (Go.convert 180 9 (Sl.v (Sl.mk (some a4) 1 1))) vw5 (Value.string t18)) ∧ (((t12.size + t18.size : Nat) : Int) ≤ maxI) ∧ vJ (t12 ++ t18) vw5) ∧ (newS vw2 [(Value.int .u8 (IntKind.wrap .u8 (wrapI (48 + (Int.tmod n 10)))))] 5 fun a7 vw8 => ∃ (t189 : ByteArray), (stabS Tryz.prog (Go.convert 180 9 (Sl.v (Sl.mk (some a7) 1 1))) vw8 (Value.string t189)) ∧ callX Tryz.prog 164 [(Value.int .i64 (wrapI (n.tdiv 10)))] vw8 fun v13 vw11 => ∃ (t1212 : ByteArray), v13 = (Value.string t1212) ∧ (((t1212.size + t189.size : Nat) : Int) ≤ maxI) ∧ vJ (t1212 ++ t189) vw11))))
set_option maxHeartbeats 8000000 in
theorem halyardref02_Number.sound (n : Int) (w : World) (R : ByteArray → World → Prop) (h : halyardref02_Number n w R) : callS Tryz.prog 164 [(Value.int .i64 n)] w (fun v w' => ∃ (r0 : ByteArray), v = (Value.string r0) ∧ R r0 w') := by
  unfold halyardref02_Number at h
  refine calls_of_vc 20 rfl Tryz.func164 rfl (by kernel_rfl) (by simp) ?_
  refine Vc.seq ?_
  refine Vc.region ?_
  refine vcL_pure rfl rfl (Value.string (ByteArray.mk #[])) (fun w => by kernel_rfl) ?_
  refine vcL_nil ?_
  refine Vc.seq ?_
  refine Vc.seq ?_
  refine Vc.region ?_
  refine vcL_purs 2 [(4, (Value.bool (decide (n < 10)))), (3, (Value.int .i64 n))] (by kernel_rfl) ?_
  refine vcL_nil ?_
  refine Vc.cond (decide (n < 10)) (by kernel_rfl) (fun hb => ?_) (fun hb => ?_)
  · have h := h.1 (of_decide_eq_true hb)
    refine Vc.seq ?_
    refine Vc.region ?_
    refine vcL_purs 3 [(7, (Value.int .u8 (IntKind.wrap .u8 (wrapI (48 + n))))), (6, (Value.int .i64 (wrapI (48 + n)))), (5, (Value.int .i64 n))] (by kernel_rfl) ?_
    refine vcL_eff rfl (opVC_new rfl (fun a => Value.slice (some a) 1 1) (by kernel_rfl) (newS.mono h fun a vw hx h => ?_)) 
    obtain ⟨t9, hl, h⟩ := h
    refine vcL_val rfl rfl (Value.string t9) (exec_sem (c := Go.convert 180 9 (Sl.v (Sl.mk (some a) 1 1))) (by kernel_rfl) ((hl) _ (Ext.refl _))) ?_
    refine vcL_pure rfl rfl (Value.string t9) (fun w => by kernel_rfl) ?_
    refine vcL_nil ?_
    refine Vc.ret ?_
    refine outs_ret ?_
    refine done_mk (Value.string t9) (res1 (resC_tmp (by kernel_rfl))) ?_
    exact ⟨t9, rfl, h⟩
  · have h := h.2 (of_decide_eq_false hb)
    refine Vc.skip ?_
    obtain ⟨vJ, hJ, h⟩ := join_elim h
    refine Vc.seqJ (σ := ByteArray) [2] [10, 11, 12, 13, 14, 15, 16, 17, 18, 19] (fun s => [(2, (Value.string s))]) (fun s w => vJ s w) (fun _ => rfl) ?_ ?_
    · obtain ⟨vw2, hvw2⟩ : ∃ y, y = w.drew := ⟨_, rfl⟩
      have h := h vw2 hvw2
      refine Vc.draw (by kernel_rfl) (fun i => !(memN [7] i)) (.pur 0 (.pur 1 (.pur 3 (.pur 4 (.pur 5 (.pur 6 (.eff 2 (.eff 7 (.val 8 (.pur 9 (.pur 10 .fin))) .stop) (.eff 7 (.val 8 (.eff 2 (.pur 9 (.pur 10 .fin)) .stop)) .stop)))))))) (by kernel_rfl) ?_
      rw [← hvw2]
      clear hvw2
      refine vcS_pure rfl rfl rfl (Value.int .i64 n) (fun w => by kernel_rfl) ?_
      refine vcS_pure rfl rfl rfl (Value.int .i64 (wrapI (n.tdiv 10))) (fun w => by kernel_rfl) ?_
      refine vcS_pure rfl rfl rfl (Value.int .i64 n) (fun w => by kernel_rfl) ?_
      refine vcS_pure rfl rfl rfl (Value.int .i64 (Int.tmod n 10)) (fun w => by kernel_rfl) ?_
      refine vcS_pure rfl rfl rfl (Value.int .i64 (wrapI (48 + (Int.tmod n 10)))) (fun w => by kernel_rfl) ?_
      refine vcS_pure rfl rfl rfl (Value.int .u8 (IntKind.wrap .u8 (wrapI (48 + (Int.tmod n 10))))) (fun w => by kernel_rfl) ?_
      have h0 := h
      have h := h.1
      refine vcS_eff rfl rfl (opVC_call rfl (by kernel_rfl) (callS.mono h fun v vw3 h => ?_)) ?_
      · obtain ⟨hx, h⟩ := h
        obtain ⟨t12, rfl, h⟩ := h
        refine ⟨fun _ => hx, ?_⟩
        refine vcS_eff rfl rfl (opVC_new rfl (fun a => Value.slice (some a) 1 1) (by kernel_rfl) (newS.mono h fun a4 vw5 hx h => ?_)) vcS_stop
        refine ⟨fun hb => absurd hb (by decide), ?_⟩
        obtain ⟨t18, hl6, h⟩ := h
        refine vcS_val rfl rfl rfl (Value.string t18) (fun w' hx => exec_sem (c := Go.convert 180 9 (Sl.v (Sl.mk (some a4) 1 1))) (by kernel_rfl) ((hl6) _ hx)) ?_
        obtain ⟨hi, h⟩ := h
        refine vcS_pure rfl rfl rfl (Value.string (t12 ++ t18)) (fun w => by exact exec_str_add (a := t12) (b := t18) rfl (by kernel_rfl) (by kernel_rfl) (hi) w) ?_
        refine vcS_pure rfl rfl rfl (Value.string (t12 ++ t18)) (fun w => by kernel_rfl) ?_
        refine vcS_fin ?_
        exact ⟨(t12 ++ t18), 11, ⟨rfl, by kernel_rfl, by kernel_rfl, by kernel_rfl⟩, h⟩
      have h := h0
      have h0 := h
      have h := h.2
      refine vcS_eff rfl rfl (opVC_new rfl (fun a => Value.slice (some a) 1 1) (by kernel_rfl) (newS.mono h fun a7 vw8 hx h => ?_)) ?_
      · refine ⟨fun hb => absurd hb (by decide), ?_⟩
        obtain ⟨t189, hl10, h⟩ := h
        refine vcS_val rfl rfl rfl (Value.string t189) (fun w' hx => exec_sem (c := Go.convert 180 9 (Sl.v (Sl.mk (some a7) 1 1))) (by kernel_rfl) ((hl10) _ hx)) ?_
        refine vcS_eff rfl rfl (opVC_call rfl (by kernel_rfl) (callS.mono h fun v13 vw11 h => ?_)) vcS_stop
        obtain ⟨hx14, h⟩ := h
        obtain ⟨t1212, rfl, h⟩ := h
        refine ⟨fun _ => hx14, ?_⟩
        obtain ⟨hi15, h⟩ := h
        refine vcS_pure rfl rfl rfl (Value.string (t1212 ++ t189)) (fun w => by exact exec_str_add (a := t1212) (b := t189) rfl (by kernel_rfl) (by kernel_rfl) (hi15) w) ?_
        refine vcS_pure rfl rfl rfl (Value.string (t1212 ++ t189)) (fun w => by kernel_rfl) ?_
        refine vcS_fin ?_
        exact ⟨(t1212 ++ t189), 11, ⟨rfl, by kernel_rfl, by kernel_rfl, by kernel_rfl⟩, h⟩
      have h := h0
      exact vcS_stop
    · intro t2 vw1 j h
      subst hJ
      refine Vc.ret ?_
      refine outs_ret ?_
      refine done_mk (Value.string t2) (res1 (resC_tmp (by kernel_rfl))) ?_
      exact ⟨t2, rfl, h⟩
theorem halyardref02_Number.go {n : Int} {w : World} {k : Value → World → Prop} (h : halyardref02_Number n w fun r0 w' => k (Value.string r0) w') : callS Tryz.prog 164 [(Value.int .i64 n)] w k := (halyardref02_Number.sound n w _ h).mono (by rintro _ _ ⟨r0, rfl, h⟩; exact h)

/-- halyard/halyardref03.Print -/
def halyardref03_Print (l : Sl) (w : World) (R : ByteArray → World → Prop) : Prop :=
  callS Tryz.prog 79 [(Sl.v l)] w fun v vw => ∃ (t10 : Bool), v = (Value.bool t10) ∧ (((!t10) = true → R (ByteArray.mk #[]) vw) ∧ ((!t10) = false → (((l.len : Int) = 0 → R (ByteArray.mk #[60, 48, 46, 48, 46, 48]) vw) ∧ (¬ ((l.len : Int) = 0) → loop2 (ByteArray.mk #[]) 0 vw fun out i vw1 nxt => ((i < (l.len : Int) → join (fun (out2 : ByteArray) (vw3 : World) => nxt out2 (wrapI (i + 1)) vw3) fun vJ => join (fun (out4 : ByteArray) (vw5 : World) => ∃ (ad : Addr), (l.a = some ad ∧ (0 : Int) ≤ i ∧ i < (l.len : Int)) ∧ ∃ (t29_Major : Int) (t29_Minor : Int) (t29_Patch : Int), (ldc vw5 (ad.add (i.toNat * 6)) [(Value.int .i64 t29_Major), (Value.int .i64 t29_Minor), (Value.int .i64 t29_Patch)]) ∧ callS Tryz.prog 117 [(Value.agg #[(Value.int .i64 t29_Major), (Value.int .i64 t29_Minor), (Value.int .i64 t29_Patch)])] vw5 fun v7 vw6 => ∃ (t30 : ByteArray), v7 = (Value.string t30) ∧ ((((ByteArray.mk #[62, 61]).size + t30.size : Nat) : Int) ≤ maxI) ∧ ∃ (ad10 : Addr), (l.a = some ad10 ∧ (0 : Int) ≤ i ∧ i < (l.len : Int)) ∧ ∃ (t36_Major : Int) (t36_Minor : Int) (t36_Patch : Int), (ldc vw6 ((ad10.add (i.toNat * 6)).add 3) [(Value.int .i64 t36_Major), (Value.int .i64 t36_Minor), (Value.int .i64 t36_Patch)]) ∧ callS Tryz.prog 117 [(Value.agg #[(Value.int .i64 t36_Major), (Value.int .i64 t36_Minor), (Value.int .i64 t36_Patch)])] vw6 fun v14 vw13 => ∃ (t37 : ByteArray), v14 = (Value.string t37) ∧ ((((ByteArray.mk #[60, 61]).size + t37.size : Nat) : Int) ≤ maxI) ∧ ∃ (ad17 : Addr), (l.a = some ad17 ∧ (0 : Int) ≤ i ∧ i < (l.len : Int)) ∧ ∃ (t43_Major : Int) (t43_Minor : Int) (t43_Patch : Int), (ldc vw13 (ad17.add (i.toNat * 6)) [(Value.int .i64 t43_Major), (Value.int .i64 t43_Minor), (Value.int .i64 t43_Patch)]) ∧ callS Tryz.prog 82 [(Value.agg #[(Value.int .i64 t43_Major), (Value.int .i64 t43_Minor), (Value.int .i64 t43_Patch)])] vw13 fun v21 vw20 => ∃ (t44 : Int), v21 = (Value.int .i64 t44) ∧ ∃ (ad23 : Addr), (l.a = some ad23 ∧ (0 : Int) ≤ i ∧ i < (l.len : Int)) ∧ ∃ (t50_Major : Int) (t50_Minor : Int) (t50_Patch : Int), (ldc vw20 ((ad23.add (i.toNat * 6)).add 3) [(Value.int .i64 t50_Major), (Value.int .i64 t50_Minor), (Value.int .i64 t50_Patch)]) ∧ callS Tryz.prog 82 [(Value.agg #[(Value.int .i64 t50_Major), (Value.int .i64 t50_Minor), (Value.int .i64 t50_Patch)])] vw20 fun v27 vw26 => ∃ (t51 : Int), v27 = (Value.int .i64 t51) ∧ bnd vw26.drew fun (vw29 : World) => ∃ (ad30 : Addr), (l.a = some ad30 ∧ (0 : Int) ≤ i ∧ i < (l.len : Int)) ∧ ∃ (t64_Major : Int) (t64_Minor : Int) (t64_Patch : Int), (ldc vw29 (ad30.add (i.toNat * 6)) [(Value.int .i64 t64_Major), (Value.int .i64 t64_Minor), (Value.int .i64 t64_Patch)]) ∧ ∃ (ad33 : Addr), (l.a = some ad33 ∧ (0 : Int) ≤ i ∧ i < (l.len : Int)) ∧ ∃ (t69_Major : Int) (t69_Minor : Int) (t69_Patch : Int), (ldc vw29 ((ad33.add (i.toNat * 6)).add 3) [(Value.int .i64 t69_Major), (Value.int .i64 t69_Minor), (Value.int .i64 t69_Patch)]) ∧ ((((t64_Major == t69_Major) && ((t64_Minor == t69_Minor) && ((t64_Patch == t69_Patch) && true))) = true → ∃ (ad36 : Addr), (l.a = some ad36 ∧ (0 : Int) ≤ i ∧ i < (l.len : Int)) ∧ ∃ (t76_Major : Int) (t76_Minor : Int) (t76_Patch : Int), (ldc vw29 (ad36.add (i.toNat * 6)) [(Value.int .i64 t76_Major), (Value.int .i64 t76_Minor), (Value.int .i64 t76_Patch)]) ∧ callS Tryz.prog 117 [(Value.agg #[(Value.int .i64 t76_Major), (Value.int .i64 t76_Minor), (Value.int .i64 t76_Patch)])] vw29 fun v40 vw39 => ∃ (t77 : ByteArray), v40 = (Value.string t77) ∧ (((out4.size + t77.size : Nat) : Int) ≤ maxI) ∧ vJ (out4 ++ t77) vw39) ∧ (((t64_Major == t69_Major) && ((t64_Minor == t69_Minor) && ((t64_Patch == t69_Patch) && true))) = false → bnd (t44 == 0) fun (b : Bool) => (((b && (t51 == 999999999)) = true → (((out4.size + (ByteArray.mk #[42]).size : Nat) : Int) ≤ maxI) ∧ vJ (out4 ++ (ByteArray.mk #[42])) vw29) ∧ ((b && (t51 == 999999999)) = false → ((t44 = 0 → (((out4.size + ((ByteArray.mk #[60, 61]) ++ t37).size : Nat) : Int) ≤ maxI) ∧ vJ (out4 ++ ((ByteArray.mk #[60, 61]) ++ t37)) vw29) ∧ (¬ (t44 = 0) → ((t51 = 999999999 → (((out4.size + ((ByteArray.mk #[62, 61]) ++ t30).size : Nat) : Int) ≤ maxI) ∧ vJ (out4 ++ ((ByteArray.mk #[62, 61]) ++ t30)) vw29) ∧ (¬ (t51 = 999999999) → (((out4.size + ((ByteArray.mk #[62, 61]) ++ t30).size : Nat) : Int) ≤ maxI) ∧ ((((out4 ++ ((ByteArray.mk #[62, 61]) ++ t30)).size + (ByteArray.mk #[32]).size : Nat) : Int) ≤ maxI) ∧ (((((out4 ++ ((ByteArray.mk #[62, 61]) ++ t30)) ++ (ByteArray.mk #[32])).size + ((ByteArray.mk #[60, 61]) ++ t37).size : Nat) : Int) ≤ maxI) ∧ vJ (((out4 ++ ((ByteArray.mk #[62, 61]) ++ t30)) ++ (ByteArray.mk #[32])) ++ ((ByteArray.mk #[60, 61]) ++ t37)) vw29))))))))) fun vJ49 => ((0 < i → (((out.size + (ByteArray.mk #[32, 124, 124, 32]).size : Nat) : Int) ≤ maxI) ∧ vJ49 (out ++ (ByteArray.mk #[32, 124, 124, 32])) vw1) ∧ (¬ (0 < i) → vJ49 out vw1))) ∧ (¬ (i < (l.len : Int)) → R out vw1))))))
set_option maxHeartbeats 8000000 in
theorem halyardref03_Print.sound (l : Sl) (w : World) (R : ByteArray → World → Prop) (h : halyardref03_Print l w R) : callS Tryz.prog 165 [(Sl.v l)] w (fun v w' => ∃ (r0 : ByteArray), v = (Value.string r0) ∧ R r0 w') := by
  unfold halyardref03_Print at h
  refine calls_of_vc 97 rfl Tryz.func165 rfl (by kernel_rfl) (by simp) ?_
  refine Vc.seq ?_
  refine Vc.region ?_
  refine vcL_pure rfl rfl (Value.string (ByteArray.mk #[])) (fun w => by kernel_rfl) ?_
  refine vcL_nil ?_
  refine Vc.seq ?_
  refine Vc.seq ?_
  refine Vc.region ?_
  refine vcL_pure rfl rfl (Sl.v l) (fun w => by kernel_rfl) ?_
  refine vcL_eff rfl (opVC_call rfl (by kernel_rfl) (callS.mono h fun v vw h => ?_)) 
  obtain ⟨t10, rfl, h⟩ := h
  refine vcL_pure rfl rfl (Value.bool (!t10)) (fun w => by kernel_rfl) ?_
  refine vcL_nil ?_
  refine Vc.cond (!t10) (by kernel_rfl) (fun hb => ?_) (fun hb => ?_)
  · have h := h.1 (hb)
    refine Vc.seq ?_
    refine Vc.region ?_
    refine vcL_pure rfl rfl (Value.string (ByteArray.mk #[])) (fun w => by kernel_rfl) ?_
    refine vcL_nil ?_
    refine Vc.ret ?_
    refine outs_ret ?_
    refine done_mk (Value.string (ByteArray.mk #[])) (res1 (resC_tmp (by kernel_rfl))) ?_
    exact ⟨(ByteArray.mk #[]), rfl, h⟩
  · have h := h.2 (hb)
    refine Vc.skip ?_
    refine Vc.seq ?_
    refine Vc.seq ?_
    refine Vc.region ?_
    refine vcL_purs 3 [(14, (Value.bool ((l.len : Int) == 0))), (13, (Value.int .i64 (l.len : Int))), (12, (Sl.v l))] (by kernel_rfl) ?_
    refine vcL_nil ?_
    refine Vc.cond ((l.len : Int) == 0) (by kernel_rfl) (fun hb => ?_) (fun hb => ?_)
    · have h := h.1 (eq_of_beq hb)
      refine Vc.seq ?_
      refine Vc.region ?_
      refine vcL_pure rfl rfl (Value.string (ByteArray.mk #[60, 48, 46, 48, 46, 48])) (fun w => by kernel_rfl) ?_
      refine vcL_nil ?_
      refine Vc.ret ?_
      refine outs_ret ?_
      refine done_mk (Value.string (ByteArray.mk #[60, 48, 46, 48, 46, 48])) (res1 (resC_tmp (by kernel_rfl))) ?_
      exact ⟨(ByteArray.mk #[60, 48, 46, 48, 46, 48]), rfl, h⟩
    · have h := h.2 (ne_of_beq_false hb)
      refine Vc.skip ?_
      refine Vc.seq ?_
      refine Vc.region ?_
      refine vcL_pure rfl rfl (Value.string (ByteArray.mk #[])) (fun w => by kernel_rfl) ?_
      refine vcL_nil ?_
      refine Vc.seq ?_
      refine Vc.seq ?_
      refine Vc.region ?_
      refine vcL_pure rfl rfl (Value.int .i64 0) (fun w => by kernel_rfl) ?_
      refine vcL_nil ?_
      refine Vc.block ?_
      obtain ⟨vI, mu, h, hr⟩ := h
      refine Vc.loopJ (σ := ByteArray × Int) [3, 4] [5, 6, 7, 8, 15, 16, 17, 18, 19, 20, 21, 22, 23, 24, 25, 26, 27, 28, 29, 30, 31, 32, 33, 34, 35, 36, 37, 38, 39, 40, 41, 42, 43, 44, 45, 46, 47, 48, 49, 50, 51, 52, 53, 54, 55, 56, 57, 58, 59, 60, 61, 62, 63, 64, 65, 66, 67, 68, 69, 70, 71, 72, 73, 74, 75, 76, 77, 78, 79, 80, 81, 82, 83, 84, 85, 86, 87, 88, 89, 90, 91, 92, 93, 94, 95] (fun s => [(3, (Value.string s.1)), (4, (Value.int .i64 s.2))]) (fun s w => vI s.1 s.2 w) (fun s w => mu s.1 s.2 w) ((ByteArray.mk #[]), 0) h (fun _ => rfl) (by kernel_rfl) ?_
      rintro ⟨out, i⟩ vw1 j h
      have h := hr out i vw1 h
      refine Vc.seq ?_
      refine Vc.seq ?_
      refine Vc.region ?_
      refine vcL_purs 4 [(18, (Value.bool (decide (i < (l.len : Int))))), (17, (Value.int .i64 (l.len : Int))), (16, (Sl.v l)), (15, (Value.int .i64 i))] (by kernel_rfl) ?_
      refine vcL_nil ?_
      refine Vc.cond (decide (i < (l.len : Int))) (by kernel_rfl) (fun hb => ?_) (fun hb => ?_)
      · have h := h.1 (of_decide_eq_true hb)
        refine Vc.skip ?_
        obtain ⟨vJ, hJ, h⟩ := join_elim h
        refine Vc.seqJ (σ := ByteArray) [3] [5, 6, 7, 8, 21, 22, 23, 24, 25, 26, 27, 28, 29, 30, 31, 32, 33, 34, 35, 36, 37, 38, 39, 40, 41, 42, 43, 44, 45, 46, 47, 48, 49, 50, 51, 52, 53, 54, 55, 56, 57, 58, 59, 60, 61, 62, 63, 64, 65, 66, 67, 68, 69, 70, 71, 72, 73, 74, 75, 76, 77, 78, 79, 80, 81, 82, 83, 84, 85, 86, 87, 88, 89, 90, 91, 92, 93, 94, 95] (fun s => [(3, (Value.string s))]) (fun s w => vJ s w) (fun _ => rfl) ?_ ?_
        · refine Vc.block ?_
          obtain ⟨vJ49, hJ50, h⟩ := join_elim h
          refine Vc.seqJ (σ := ByteArray) [3] [21, 22, 23, 24] (fun s => [(3, (Value.string s))]) (fun s w => vJ49 s w) (fun _ => rfl) ?_ ?_
          · refine Vc.seq ?_
            refine Vc.region ?_
            refine vcL_purs 2 [(22, (Value.bool (decide (0 < i)))), (21, (Value.int .i64 i))] (by kernel_rfl) ?_
            refine vcL_nil ?_
            refine Vc.cond (decide (0 < i)) (by kernel_rfl) (fun hb => ?_) (fun hb => ?_)
            · have h := h.1 (of_decide_eq_true hb)
              refine Vc.region ?_
              refine vcL_pure rfl rfl (Value.string out) (fun w => by kernel_rfl) ?_
              obtain ⟨hi51, h⟩ := h
              refine vcL_pure rfl rfl (Value.string (out ++ (ByteArray.mk #[32, 124, 124, 32]))) (fun w => by exact exec_str_add (a := out) (b := (ByteArray.mk #[32, 124, 124, 32])) rfl (by kernel_rfl) (by kernel_rfl) (hi51) w) ?_
              refine vcL_pure rfl rfl (Value.string (out ++ (ByteArray.mk #[32, 124, 124, 32]))) (fun w => by kernel_rfl) ?_
              refine vcL_nil ?_
              exact ⟨(out ++ (ByteArray.mk #[32, 124, 124, 32])), 5, ⟨rfl, by kernel_rfl, by kernel_rfl, by kernel_rfl⟩, h⟩
            · have h := h.2 (of_decide_eq_false hb)
              refine Vc.skip ?_
              exact ⟨out, 2, ⟨rfl, by kernel_rfl, by kernel_rfl, by kernel_rfl⟩, h⟩
          · intro out4 vw5 j h
            subst hJ50
            refine Vc.seq ?_
            refine Vc.region ?_
            refine vcL_purs 2 [(26, (Value.int .i64 i)), (25, (Sl.v l))] (by kernel_rfl) ?_
            obtain ⟨ad, hi, h⟩ := h
            refine vcL_pure rfl rfl (Value.pointer (some (ad.add (i.toNat * 6)))) (fun w => by exact exec_indexAt (s := l) (el := 83) rfl (by kernel_rfl) (by kernel_rfl) (by kernel_rfl) (fun w => by kernel_rfl) (hi).1 (hi).2.1 (hi).2.2 w) ?_
            refine vcL_pure rfl rfl (Value.pointer (some (ad.add (i.toNat * 6)))) (fun w => by kernel_rfl) ?_
            obtain ⟨t29_Major, t29_Minor, t29_Patch, hc, h⟩ := h
            refine vcL_val rfl rfl (Value.agg #[(Value.int .i64 t29_Major), (Value.int .i64 t29_Minor), (Value.int .i64 t29_Patch)]) (exec_load rfl (by kernel_rfl) (run_loadN (fun w => by kernel_rfl) (fun w => by kernel_rfl) ((hc)))) ?_
            refine vcL_eff rfl (opVC_call rfl (by kernel_rfl) (callS.mono h fun v7 vw6 h => ?_)) 
            obtain ⟨t30, rfl, h⟩ := h
            obtain ⟨hi9, h⟩ := h
            refine vcL_pure rfl rfl (Value.string ((ByteArray.mk #[62, 61]) ++ t30)) (fun w => by exact exec_str_add (a := (ByteArray.mk #[62, 61])) (b := t30) rfl (by kernel_rfl) (by kernel_rfl) (hi9) w) ?_
            refine vcL_pure rfl rfl (Value.string ((ByteArray.mk #[62, 61]) ++ t30)) (fun w => by kernel_rfl) ?_
            refine vcL_nil ?_
            refine Vc.seq ?_
            refine Vc.region ?_
            refine vcL_purs 2 [(33, (Value.int .i64 i)), (32, (Sl.v l))] (by kernel_rfl) ?_
            obtain ⟨ad10, hi11, h⟩ := h
            refine vcL_pure rfl rfl (Value.pointer (some (ad10.add (i.toNat * 6)))) (fun w => by exact exec_indexAt (s := l) (el := 83) rfl (by kernel_rfl) (by kernel_rfl) (by kernel_rfl) (fun w => by kernel_rfl) (hi11).1 (hi11).2.1 (hi11).2.2 w) ?_
            refine vcL_pure rfl rfl (Value.pointer (some ((ad10.add (i.toNat * 6)).add 3))) (fun w => by kernel_rfl) ?_
            obtain ⟨t36_Major, t36_Minor, t36_Patch, hc12, h⟩ := h
            refine vcL_val rfl rfl (Value.agg #[(Value.int .i64 t36_Major), (Value.int .i64 t36_Minor), (Value.int .i64 t36_Patch)]) (exec_load rfl (by kernel_rfl) (run_loadN (fun w => by kernel_rfl) (fun w => by kernel_rfl) ((hc12)))) ?_
            refine vcL_eff rfl (opVC_call rfl (by kernel_rfl) (callS.mono h fun v14 vw13 h => ?_)) 
            obtain ⟨t37, rfl, h⟩ := h
            obtain ⟨hi16, h⟩ := h
            refine vcL_pure rfl rfl (Value.string ((ByteArray.mk #[60, 61]) ++ t37)) (fun w => by exact exec_str_add (a := (ByteArray.mk #[60, 61])) (b := t37) rfl (by kernel_rfl) (by kernel_rfl) (hi16) w) ?_
            refine vcL_pure rfl rfl (Value.string ((ByteArray.mk #[60, 61]) ++ t37)) (fun w => by kernel_rfl) ?_
            refine vcL_nil ?_
            refine Vc.seq ?_
            refine Vc.region ?_
            refine vcL_purs 2 [(40, (Value.int .i64 i)), (39, (Sl.v l))] (by kernel_rfl) ?_
            obtain ⟨ad17, hi18, h⟩ := h
            refine vcL_pure rfl rfl (Value.pointer (some (ad17.add (i.toNat * 6)))) (fun w => by exact exec_indexAt (s := l) (el := 83) rfl (by kernel_rfl) (by kernel_rfl) (by kernel_rfl) (fun w => by kernel_rfl) (hi18).1 (hi18).2.1 (hi18).2.2 w) ?_
            refine vcL_pure rfl rfl (Value.pointer (some (ad17.add (i.toNat * 6)))) (fun w => by kernel_rfl) ?_
            obtain ⟨t43_Major, t43_Minor, t43_Patch, hc19, h⟩ := h
            refine vcL_val rfl rfl (Value.agg #[(Value.int .i64 t43_Major), (Value.int .i64 t43_Minor), (Value.int .i64 t43_Patch)]) (exec_load rfl (by kernel_rfl) (run_loadN (fun w => by kernel_rfl) (fun w => by kernel_rfl) ((hc19)))) ?_
            refine vcL_eff rfl (opVC_call rfl (by kernel_rfl) (callS.mono h fun v21 vw20 h => ?_)) 
            obtain ⟨t44, rfl, h⟩ := h
            refine vcL_purs 2 [(7, (Value.bool (t44 == 0))), (45, (Value.bool (t44 == 0)))] (by kernel_rfl) ?_
            refine vcL_nil ?_
            refine Vc.seq ?_
            refine Vc.region ?_
            refine vcL_purs 2 [(47, (Value.int .i64 i)), (46, (Sl.v l))] (by kernel_rfl) ?_
            obtain ⟨ad23, hi24, h⟩ := h
            refine vcL_pure rfl rfl (Value.pointer (some (ad23.add (i.toNat * 6)))) (fun w => by exact exec_indexAt (s := l) (el := 83) rfl (by kernel_rfl) (by kernel_rfl) (by kernel_rfl) (fun w => by kernel_rfl) (hi24).1 (hi24).2.1 (hi24).2.2 w) ?_
            refine vcL_pure rfl rfl (Value.pointer (some ((ad23.add (i.toNat * 6)).add 3))) (fun w => by kernel_rfl) ?_
            obtain ⟨t50_Major, t50_Minor, t50_Patch, hc25, h⟩ := h
            refine vcL_val rfl rfl (Value.agg #[(Value.int .i64 t50_Major), (Value.int .i64 t50_Minor), (Value.int .i64 t50_Patch)]) (exec_load rfl (by kernel_rfl) (run_loadN (fun w => by kernel_rfl) (fun w => by kernel_rfl) ((hc25)))) ?_
            refine vcL_eff rfl (opVC_call rfl (by kernel_rfl) (callS.mono h fun v27 vw26 h => ?_)) 
            obtain ⟨t51, rfl, h⟩ := h
            refine vcL_purs 2 [(8, (Value.bool (t51 == 999999999))), (52, (Value.bool (t51 == 999999999)))] (by kernel_rfl) ?_
            refine vcL_nil ?_
            refine Vc.block ?_
            refine Vc.seq ?_
            obtain ⟨vw29, hvw29⟩ : ∃ y, y = vw26.drew := ⟨_, rfl⟩
            have h := h vw29 hvw29
            refine Vc.draw (by kernel_rfl) (fun i => !(memN [] i)) (.pur 0 (.pur 1 (.pur 2 (.pur 3 (.val 4 (.pur 5 (.pur 6 (.pur 7 (.pur 8 (.val 9 (.pur 10 (.pur 11 .fin)))))))))))) (by kernel_rfl) ?_
            rw [← hvw29]
            clear hvw29
            refine vcS_pure rfl rfl rfl (Sl.v l) (fun w => by kernel_rfl) ?_
            refine vcS_pure rfl rfl rfl (Value.int .i64 i) (fun w => by kernel_rfl) ?_
            obtain ⟨ad30, hi31, h⟩ := h
            refine vcS_pure rfl rfl rfl (Value.pointer (some (ad30.add (i.toNat * 6)))) (fun w => by exact exec_indexAt (s := l) (el := 83) rfl (by kernel_rfl) (by kernel_rfl) (by kernel_rfl) (fun w => by kernel_rfl) (hi31).1 (hi31).2.1 (hi31).2.2 w) ?_
            refine vcS_pure rfl rfl rfl (Value.pointer (some (ad30.add (i.toNat * 6)))) (fun w => by kernel_rfl) ?_
            obtain ⟨t64_Major, t64_Minor, t64_Patch, hc32, h⟩ := h
            refine vcS_val rfl rfl rfl (Value.agg #[(Value.int .i64 t64_Major), (Value.int .i64 t64_Minor), (Value.int .i64 t64_Patch)]) (fun w' hx => exec_load rfl (by kernel_rfl) (run_loadN (fun w => by kernel_rfl) (fun w => by kernel_rfl) ((hc32).ext hx))) ?_
            refine vcS_pure rfl rfl rfl (Sl.v l) (fun w => by kernel_rfl) ?_
            refine vcS_pure rfl rfl rfl (Value.int .i64 i) (fun w => by kernel_rfl) ?_
            obtain ⟨ad33, hi34, h⟩ := h
            refine vcS_pure rfl rfl rfl (Value.pointer (some (ad33.add (i.toNat * 6)))) (fun w => by exact exec_indexAt (s := l) (el := 83) rfl (by kernel_rfl) (by kernel_rfl) (by kernel_rfl) (fun w => by kernel_rfl) (hi34).1 (hi34).2.1 (hi34).2.2 w) ?_
            refine vcS_pure rfl rfl rfl (Value.pointer (some ((ad33.add (i.toNat * 6)).add 3))) (fun w => by kernel_rfl) ?_
            obtain ⟨t69_Major, t69_Minor, t69_Patch, hc35, h⟩ := h
            refine vcS_val rfl rfl rfl (Value.agg #[(Value.int .i64 t69_Major), (Value.int .i64 t69_Minor), (Value.int .i64 t69_Patch)]) (fun w' hx => exec_load rfl (by kernel_rfl) (run_loadN (fun w => by kernel_rfl) (fun w => by kernel_rfl) ((hc35).ext hx))) ?_
            refine vcS_pure rfl rfl rfl (Value.bool ((t64_Major == t69_Major) && ((t64_Minor == t69_Minor) && ((t64_Patch == t69_Patch) && true)))) (fun w => by exact exec_struct_eq rfl (by kernel_rfl) (by kernel_rfl) (by kernel_rfl) (eqv_30 9998 t64_Major t64_Minor t64_Patch t69_Major t69_Minor t69_Patch w)) ?_
            refine vcS_pure rfl rfl rfl (Value.bool ((t64_Major == t69_Major) && ((t64_Minor == t69_Minor) && ((t64_Patch == t69_Patch) && true)))) (fun w => by kernel_rfl) ?_
            refine vcS_fin ?_
            refine Vc.cond ((t64_Major == t69_Major) && ((t64_Minor == t69_Minor) && ((t64_Patch == t69_Patch) && true))) (by kernel_rfl) (fun hb => ?_) (fun hb => ?_)
            · have h := h.1 (hb)
              refine Vc.region ?_
              refine vcL_purs 3 [(73, (Value.int .i64 i)), (72, (Sl.v l)), (71, (Value.string out4))] (by kernel_rfl) ?_
              obtain ⟨ad36, hi37, h⟩ := h
              refine vcL_pure rfl rfl (Value.pointer (some (ad36.add (i.toNat * 6)))) (fun w => by exact exec_indexAt (s := l) (el := 83) rfl (by kernel_rfl) (by kernel_rfl) (by kernel_rfl) (fun w => by kernel_rfl) (hi37).1 (hi37).2.1 (hi37).2.2 w) ?_
              refine vcL_pure rfl rfl (Value.pointer (some (ad36.add (i.toNat * 6)))) (fun w => by kernel_rfl) ?_
              obtain ⟨t76_Major, t76_Minor, t76_Patch, hc38, h⟩ := h
              refine vcL_val rfl rfl (Value.agg #[(Value.int .i64 t76_Major), (Value.int .i64 t76_Minor), (Value.int .i64 t76_Patch)]) (exec_load rfl (by kernel_rfl) (run_loadN (fun w => by kernel_rfl) (fun w => by kernel_rfl) ((hc38)))) ?_
              refine vcL_eff rfl (opVC_call rfl (by kernel_rfl) (callS.mono h fun v40 vw39 h => ?_)) 
              obtain ⟨t77, rfl, h⟩ := h
              obtain ⟨hi42, h⟩ := h
              refine vcL_pure rfl rfl (Value.string (out4 ++ t77)) (fun w => by exact exec_str_add (a := out4) (b := t77) rfl (by kernel_rfl) (by kernel_rfl) (hi42) w) ?_
              refine vcL_pure rfl rfl (Value.string (out4 ++ t77)) (fun w => by kernel_rfl) ?_
              refine vcL_nil ?_
              exact ⟨(out4 ++ t77), 58, ⟨rfl, by kernel_rfl, by kernel_rfl, by kernel_rfl⟩, h⟩
            · have h := h.2 (hb)
              refine Vc.seq ?_
              refine Vc.region ?_
              refine vcL_pure rfl rfl (Value.bool (t44 == 0)) (fun w => by kernel_rfl) ?_
              obtain ⟨b, hb⟩ : ∃ y, y = (t44 == 0) := ⟨_, rfl⟩
              have h := h b hb
              refine vcL_pure rfl rfl (Value.bool b) (fun w => by rw [hb]; kernel_rfl) ?_
              refine vcL_guardP b (wanted_g (d := 81) rfl (by kernel_rfl) b (by kernel_rfl) b (eqT b)) rfl (Value.bool (t51 == 999999999)) (fun hg w => by subst hg; kernel_rfl) ?_
              refine vcL_pure rfl rfl (Value.bool (b && (t51 == 999999999))) (fun w => by cases b <;> kernel_rfl) ?_
              refine vcL_pure rfl rfl (Value.bool (b && (t51 == 999999999))) (fun w => by kernel_rfl) ?_
              refine vcL_nil ?_
              refine Vc.cond (b && (t51 == 999999999)) (by kernel_rfl) (fun hb => ?_) (fun hb => ?_)
              · have h := h.1 (hb)
                refine Vc.region ?_
                refine vcL_pure rfl rfl (Value.string out4) (fun w => by kernel_rfl) ?_
                obtain ⟨hi43, h⟩ := h
                refine vcL_pure rfl rfl (Value.string (out4 ++ (ByteArray.mk #[42]))) (fun w => by exact exec_str_add (a := out4) (b := (ByteArray.mk #[42])) rfl (by kernel_rfl) (by kernel_rfl) (hi43) w) ?_
                refine vcL_pure rfl rfl (Value.string (out4 ++ (ByteArray.mk #[42]))) (fun w => by kernel_rfl) ?_
                refine vcL_nil ?_
                exact ⟨(out4 ++ (ByteArray.mk #[42])), 57, ⟨rfl, by kernel_rfl, by kernel_rfl, by kernel_rfl⟩, h⟩
              · have h := h.2 (hb)
                refine Vc.seq ?_
                refine Vc.region ?_
                refine vcL_purs 2 [(86, (Value.bool (t44 == 0))), (87, (Value.bool (t44 == 0)))] (by kernel_rfl) ?_
                refine vcL_nil ?_
                refine Vc.cond (t44 == 0) (by kernel_rfl) (fun hb => ?_) (fun hb => ?_)
                · have h := h.1 (eq_of_beq hb)
                  refine Vc.region ?_
                  refine vcL_purs 2 [(89, (Value.string ((ByteArray.mk #[60, 61]) ++ t37))), (88, (Value.string out4))] (by kernel_rfl) ?_
                  obtain ⟨hi44, h⟩ := h
                  refine vcL_pure rfl rfl (Value.string (out4 ++ ((ByteArray.mk #[60, 61]) ++ t37))) (fun w => by exact exec_str_add (a := out4) (b := ((ByteArray.mk #[60, 61]) ++ t37)) rfl (by kernel_rfl) (by kernel_rfl) (hi44) w) ?_
                  refine vcL_pure rfl rfl (Value.string (out4 ++ ((ByteArray.mk #[60, 61]) ++ t37))) (fun w => by kernel_rfl) ?_
                  refine vcL_nil ?_
                  exact ⟨(out4 ++ ((ByteArray.mk #[60, 61]) ++ t37)), 60, ⟨rfl, by kernel_rfl, by kernel_rfl, by kernel_rfl⟩, h⟩
                · have h := h.2 (ne_of_beq_false hb)
                  refine Vc.seq ?_
                  refine Vc.region ?_
                  refine vcL_purs 2 [(91, (Value.bool (t51 == 999999999))), (92, (Value.bool (t51 == 999999999)))] (by kernel_rfl) ?_
                  refine vcL_nil ?_
                  refine Vc.cond (t51 == 999999999) (by kernel_rfl) (fun hb => ?_) (fun hb => ?_)
                  · have h := h.1 (eq_of_beq hb)
                    refine Vc.region ?_
                    refine vcL_purs 2 [(94, (Value.string ((ByteArray.mk #[62, 61]) ++ t30))), (93, (Value.string out4))] (by kernel_rfl) ?_
                    obtain ⟨hi45, h⟩ := h
                    refine vcL_pure rfl rfl (Value.string (out4 ++ ((ByteArray.mk #[62, 61]) ++ t30))) (fun w => by exact exec_str_add (a := out4) (b := ((ByteArray.mk #[62, 61]) ++ t30)) rfl (by kernel_rfl) (by kernel_rfl) (hi45) w) ?_
                    refine vcL_pure rfl rfl (Value.string (out4 ++ ((ByteArray.mk #[62, 61]) ++ t30))) (fun w => by kernel_rfl) ?_
                    refine vcL_nil ?_
                    exact ⟨(out4 ++ ((ByteArray.mk #[62, 61]) ++ t30)), 62, ⟨rfl, by kernel_rfl, by kernel_rfl, by kernel_rfl⟩, h⟩
                  · have h := h.2 (ne_of_beq_false hb)
                    refine Vc.region ?_
                    refine vcL_purs 2 [(54, (Value.string ((ByteArray.mk #[62, 61]) ++ t30))), (53, (Value.string out4))] (by kernel_rfl) ?_
                    obtain ⟨hi46, h⟩ := h
                    refine vcL_pure rfl rfl (Value.string (out4 ++ ((ByteArray.mk #[62, 61]) ++ t30))) (fun w => by exact exec_str_add (a := out4) (b := ((ByteArray.mk #[62, 61]) ++ t30)) rfl (by kernel_rfl) (by kernel_rfl) (hi46) w) ?_
                    obtain ⟨hi47, h⟩ := h
                    refine vcL_pure rfl rfl (Value.string ((out4 ++ ((ByteArray.mk #[62, 61]) ++ t30)) ++ (ByteArray.mk #[32]))) (fun w => by exact exec_str_add (a := (out4 ++ ((ByteArray.mk #[62, 61]) ++ t30))) (b := (ByteArray.mk #[32])) rfl (by kernel_rfl) (by kernel_rfl) (hi47) w) ?_
                    refine vcL_pure rfl rfl (Value.string ((ByteArray.mk #[60, 61]) ++ t37)) (fun w => by kernel_rfl) ?_
                    obtain ⟨hi48, h⟩ := h
                    refine vcL_pure rfl rfl (Value.string (((out4 ++ ((ByteArray.mk #[62, 61]) ++ t30)) ++ (ByteArray.mk #[32])) ++ ((ByteArray.mk #[60, 61]) ++ t37))) (fun w => by exact exec_str_add (a := ((out4 ++ ((ByteArray.mk #[62, 61]) ++ t30)) ++ (ByteArray.mk #[32]))) (b := ((ByteArray.mk #[60, 61]) ++ t37)) rfl (by kernel_rfl) (by kernel_rfl) (hi48) w) ?_
                    refine vcL_pure rfl rfl (Value.string (((out4 ++ ((ByteArray.mk #[62, 61]) ++ t30)) ++ (ByteArray.mk #[32])) ++ ((ByteArray.mk #[60, 61]) ++ t37))) (fun w => by kernel_rfl) ?_
                    refine vcL_nil ?_
                    exact ⟨(((out4 ++ ((ByteArray.mk #[62, 61]) ++ t30)) ++ (ByteArray.mk #[32])) ++ ((ByteArray.mk #[60, 61]) ++ t37)), 65, ⟨rfl, by kernel_rfl, by kernel_rfl, by kernel_rfl⟩, h⟩
        · intro out2 vw3 j h
          subst hJ
          refine Vc.region ?_
          refine vcL_purs 3 [(4, (Value.int .i64 (wrapI (i + 1)))), (20, (Value.int .i64 (wrapI (i + 1)))), (19, (Value.int .i64 i))] (by kernel_rfl) ?_
          refine vcL_nil ?_
          exact ⟨(out2, (wrapI (i + 1))), 174, ⟨rfl, by kernel_rfl, by kernel_rfl, by kernel_rfl⟩, h⟩
      · have h := h.2 (of_decide_eq_false hb)
        refine Vc.exit ?_
        refine outOf_hit ?_
        refine Vc.seq ?_
        refine Vc.region ?_
        refine vcL_purs 2 [(2, (Value.string out)), (96, (Value.string out))] (by kernel_rfl) ?_
        refine vcL_nil ?_
        refine Vc.ret ?_
        refine outs_ret ?_
        refine done_mk (Value.string out) (res1 (resC_tmp (by kernel_rfl))) ?_
        exact ⟨out, rfl, h⟩
theorem halyardref03_Print.go {l : Sl} {w : World} {k : Value → World → Prop} (h : halyardref03_Print l w fun r0 w' => k (Value.string r0) w') : callS Tryz.prog 165 [(Sl.v l)] w k := (halyardref03_Print.sound l w _ h).mono (by rintro _ _ ⟨r0, rfl, h⟩; exact h)

/-- halyard/vers.At -/
def vers_At (n : Int) (w : World) (R : Int → Int → Int → Bool → World → Prop) : Prop :=
  newS w [(Value.int .i64 0), (Value.int .i64 0), (Value.int .i64 0)] 30 fun a vw => bnd (decide (n < 0)) fun (b : Bool) => (((b || (decide (1000000000 ≤ n))) = true → stw vw a [(Value.int .i64 0), (Value.int .i64 0), (Value.int .i64 0)] fun vw1 => ∃ (r_Major : Int) (r_Minor : Int) (r_Patch : Int), ldc vw1 a [(Value.int .i64 r_Major), (Value.int .i64 r_Minor), (Value.int .i64 r_Patch)] ∧ R r_Major r_Minor r_Patch false vw1) ∧ ((b || (decide (1000000000 ≤ n))) = false → stw vw a [(Value.int .i64 (wrapI ((wrapI (n.tdiv 1000)).tdiv 1000))), (Value.int .i64 (Int.tmod (wrapI (n.tdiv 1000)) 1000)), (Value.int .i64 (Int.tmod n 1000))] fun vw2 => ∃ (r_Major3 : Int) (r_Minor4 : Int) (r_Patch5 : Int), ldc vw2 a [(Value.int .i64 r_Major3), (Value.int .i64 r_Minor4), (Value.int .i64 r_Patch5)] ∧ R r_Major3 r_Minor4 r_Patch5 true vw2))
set_option maxHeartbeats 8000000 in
theorem vers_At.sound (n : Int) (w : World) (R : Int → Int → Int → Bool → World → Prop) (h : vers_At n w R) : callS Tryz.prog 167 [(Value.int .i64 n)] w (fun v w' => ∃ (r0 : Int) (r1 : Int) (r2 : Int) (r3 : Bool), v = (Value.tuple #[(Value.agg #[(Value.int .i64 r0), (Value.int .i64 r1), (Value.int .i64 r2)]), (Value.bool r3)]) ∧ R r0 r1 r2 r3 w') := by
  unfold vers_At at h
  refine calls_of_vc 20 rfl Tryz.func167 rfl (by kernel_rfl) (by simp) ?_
  refine Vc.seq ?_
  refine Vc.region ?_
  refine vcL_eff rfl (opVC_new rfl (fun a => Value.pointer (some a)) (by kernel_rfl) (newS.mono h fun a vw hx h => ?_)) 
  refine vcL_pure rfl rfl (Value.bool false) (fun w => by kernel_rfl) ?_
  refine vcL_nil ?_
  refine Vc.seq ?_
  refine Vc.seq ?_
  refine Vc.region ?_
  refine vcL_purs 2 [(5, (Value.bool (decide (n < 0)))), (4, (Value.int .i64 n))] (by kernel_rfl) ?_
  obtain ⟨b, hb⟩ : ∃ y, y = (decide (n < 0)) := ⟨_, rfl⟩
  have h := h b hb
  refine vcL_pure rfl rfl (Value.bool b) (fun w => by rw [hb]; kernel_rfl) ?_
  refine vcL_guardP (!b) (wanted_g (d := 6) rfl (by kernel_rfl) b (by kernel_rfl) (!b) (eqF b)) rfl (Value.int .i64 n) (fun hg w => by simp only [Bool.and_eq_true, Bool.not_eq_true'] at hg; obtain rfl := hg; kernel_rfl) ?_
  refine vcL_guardP (!b) (wanted_g (d := 6) rfl (by kernel_rfl) b (by kernel_rfl) (!b) (eqF b)) rfl (Value.bool (decide (1000000000 ≤ n))) (fun hg w => by simp only [Bool.and_eq_true, Bool.not_eq_true'] at hg; obtain rfl := hg; kernel_rfl) ?_
  refine vcL_pure rfl rfl (Value.bool (b || (decide (1000000000 ≤ n)))) (fun w => by cases b <;> kernel_rfl) ?_
  refine vcL_nil ?_
  refine Vc.cond (b || (decide (1000000000 ≤ n))) (by kernel_rfl) (fun hb => ?_) (fun hb => ?_)
  · have h := h.1 (hb)
    refine Vc.seq ?_
    refine Vc.region ?_
    refine vcL_pure rfl rfl (Value.agg #[(Value.int .i64 0), (Value.int .i64 0), (Value.int .i64 0)]) (fun w => by kernel_rfl) ?_
    refine vcL_eff rfl (opVC_store rfl rfl (a := a) (by kernel_rfl) (v := (Value.agg #[(Value.int .i64 0), (Value.int .i64 0), (Value.int .i64 0)])) (by kernel_rfl) [(Value.int .i64 0), (Value.int .i64 0), (Value.int .i64 0)] (by kernel_rfl) (fun w => by kernel_rfl) (by kernel_rfl) (stw.mono h fun vw1 h => ?_)) 
    refine vcL_pure rfl rfl (Value.bool false) (fun w => by kernel_rfl) ?_
    refine vcL_nil ?_
    refine Vc.ret ?_
    refine outs_ret ?_
    obtain ⟨r_Major, r_Minor, r_Patch, hc, h⟩ := h
    refine done_mk (Value.tuple #[(Value.agg #[(Value.int .i64 r_Major), (Value.int .i64 r_Minor), (Value.int .i64 r_Patch)]), (Value.bool false)]) (res2 (resC_cell (by kernel_rfl) (run_loadN (fun w => by kernel_rfl) (fun w => by kernel_rfl) hc)) (resC_tmp (by kernel_rfl))) ?_
    exact ⟨r_Major, r_Minor, r_Patch, false, rfl, h⟩
  · have h := h.2 (hb)
    refine Vc.skip ?_
    refine Vc.seq ?_
    refine Vc.region ?_
    refine vcL_purs 9 [(19, (Value.agg #[(Value.int .i64 (wrapI ((wrapI (n.tdiv 1000)).tdiv 1000))), (Value.int .i64 (Int.tmod (wrapI (n.tdiv 1000)) 1000)), (Value.int .i64 (Int.tmod n 1000))])), (18, (Value.int .i64 (Int.tmod n 1000))), (17, (Value.int .i64 n)), (16, (Value.int .i64 (Int.tmod (wrapI (n.tdiv 1000)) 1000))), (15, (Value.int .i64 (wrapI (n.tdiv 1000)))), (14, (Value.int .i64 n)), (13, (Value.int .i64 (wrapI ((wrapI (n.tdiv 1000)).tdiv 1000)))), (12, (Value.int .i64 (wrapI (n.tdiv 1000)))), (11, (Value.int .i64 n))] (by kernel_rfl) ?_
    refine vcL_eff rfl (opVC_store rfl rfl (a := a) (by kernel_rfl) (v := (Value.agg #[(Value.int .i64 (wrapI ((wrapI (n.tdiv 1000)).tdiv 1000))), (Value.int .i64 (Int.tmod (wrapI (n.tdiv 1000)) 1000)), (Value.int .i64 (Int.tmod n 1000))])) (by kernel_rfl) [(Value.int .i64 (wrapI ((wrapI (n.tdiv 1000)).tdiv 1000))), (Value.int .i64 (Int.tmod (wrapI (n.tdiv 1000)) 1000)), (Value.int .i64 (Int.tmod n 1000))] (by kernel_rfl) (fun w => by kernel_rfl) (by kernel_rfl) (stw.mono h fun vw2 h => ?_)) 
    refine vcL_pure rfl rfl (Value.bool true) (fun w => by kernel_rfl) ?_
    refine vcL_nil ?_
    refine Vc.ret ?_
    refine outs_ret ?_
    obtain ⟨r_Major3, r_Minor4, r_Patch5, hc6, h⟩ := h
    refine done_mk (Value.tuple #[(Value.agg #[(Value.int .i64 r_Major3), (Value.int .i64 r_Minor4), (Value.int .i64 r_Patch5)]), (Value.bool true)]) (res2 (resC_cell (by kernel_rfl) (run_loadN (fun w => by kernel_rfl) (fun w => by kernel_rfl) hc6)) (resC_tmp (by kernel_rfl))) ?_
    exact ⟨r_Major3, r_Minor4, r_Patch5, true, rfl, h⟩
theorem vers_At.go {n : Int} {w : World} {k : Value → World → Prop} (h : vers_At n w fun r0 r1 r2 r3 w' => k (Value.tuple #[(Value.agg #[(Value.int .i64 r0), (Value.int .i64 r1), (Value.int .i64 r2)]), (Value.bool r3)]) w') : callS Tryz.prog 167 [(Value.int .i64 n)] w k := (vers_At.sound n w _ h).mono (by rintro _ _ ⟨r0, r1, r2, r3, rfl, h⟩; exact h)

/-- cmp.isNaN[int] -/
def cmp_isNaN_int (x : Int) (w : World) (R : Bool → World → Prop) : Prop :=
  R (!(x == x)) w
set_option maxHeartbeats 8000000 in
theorem cmp_isNaN_int.sound (x : Int) (w : World) (R : Bool → World → Prop) (h : cmp_isNaN_int x w R) : callS Tryz.prog 171 [(Value.int .i64 x)] w (fun v w' => ∃ (r0 : Bool), v = (Value.bool r0) ∧ R r0 w') := by
  unfold cmp_isNaN_int at h
  refine calls_of_vc 6 rfl Tryz.func171 rfl (by kernel_rfl) (by simp) ?_
  refine Vc.seq ?_
  refine Vc.region ?_
  refine vcL_pure rfl rfl (Value.bool false) (fun w => by kernel_rfl) ?_
  refine vcL_nil ?_
  refine Vc.seq ?_
  refine Vc.region ?_
  refine vcL_purs 4 [(2, (Value.bool (!(x == x)))), (5, (Value.bool (!(x == x)))), (4, (Value.int .i64 x)), (3, (Value.int .i64 x))] (by kernel_rfl) ?_
  refine vcL_nil ?_
  refine Vc.ret ?_
  refine outs_ret ?_
  refine done_mk (Value.bool (!(x == x))) (res1 (resC_tmp (by kernel_rfl))) ?_
  exact ⟨(!(x == x)), rfl, h⟩
theorem cmp_isNaN_int.go {x : Int} {w : World} {k : Value → World → Prop} (h : cmp_isNaN_int x w fun r0 w' => k (Value.bool r0) w') : callS Tryz.prog 171 [(Value.int .i64 x)] w k := (cmp_isNaN_int.sound x w _ h).mono (by rintro _ _ ⟨r0, rfl, h⟩; exact h)

/-- halyard/span.Print -/
def span_Print (l : Sl) (w : World) (R : ByteArray → World → Prop) : Prop :=
  callS Tryz.prog 91 [(Sl.v l)] w fun v vw => ∃ (t11 : Bool), v = (Value.bool t11) ∧ (((!t11) = true → R (ByteArray.mk #[]) vw) ∧ ((!t11) = false → callS Tryz.prog 94 [(Sl.v l)] vw fun v2 vw1 => ∃ (t14 : Sl), v2 = (Sl.v t14) ∧ loop2 Sl.nil 0 vw1 fun texts t16 vw4 nxt => ((t16 < (t14.len : Int) → join (fun (texts5 : Sl) (vw6 : World) => nxt texts5 (wrapI (t16 + 1)) vw6) fun vJ => ∃ (ad : Addr), (t14.a = some ad ∧ (0 : Int) ≤ t16 ∧ t16 < (t14.len : Int)) ∧ ∃ (t19_lo : Int) (t19_hi : Int), (ldc vw4 (ad.add (t16.toNat * 2)) [(Value.int .i64 t19_lo), (Value.int .i64 t19_hi)]) ∧ newS vw4 [(Value.int .i64 0), (Value.int .i64 0)] 157 fun a vw7 => stw vw7 a [(Value.int .i64 t19_lo), (Value.int .i64 t19_hi)] fun vw8 => ∃ (t22 : Int), (ldc vw8 a [(Value.int .i64 t22)]) ∧ callS Tryz.prog 167 [(Value.int .i64 t22)] vw8 fun v11 vw10 => ∃ (t23_Major : Int) (t23_Minor : Int) (t23_Patch : Int) (t23b : Bool), v11 = (Value.tuple #[(Value.agg #[(Value.int .i64 t23_Major), (Value.int .i64 t23_Minor), (Value.int .i64 t23_Patch)]), (Value.bool t23b)]) ∧ newS vw10 [(Value.int .i64 0), (Value.int .i64 0), (Value.int .i64 0)] 30 fun a13 vw14 => stw vw14 a13 [(Value.int .i64 t23_Major), (Value.int .i64 t23_Minor), (Value.int .i64 t23_Patch)] fun vw15 => ∃ (t28 : Int), (ldc vw15 (a.add 1) [(Value.int .i64 t28)]) ∧ callS Tryz.prog 167 [(Value.int .i64 t28)] vw15 fun v18 vw17 => ∃ (t29_Major : Int) (t29_Minor : Int) (t29_Patch : Int) (t29b : Bool), v18 = (Value.tuple #[(Value.agg #[(Value.int .i64 t29_Major), (Value.int .i64 t29_Minor), (Value.int .i64 t29_Patch)]), (Value.bool t29b)]) ∧ newS vw17 [(Value.int .i64 0), (Value.int .i64 0), (Value.int .i64 0)] 30 fun a20 vw21 => stw vw21 a20 [(Value.int .i64 t29_Major), (Value.int .i64 t29_Minor), (Value.int .i64 t29_Patch)] fun vw22 => ∃ (t44 : Int), (ldc vw22 a [(Value.int .i64 t44)]) ∧ ∃ (t46 : Int), (ldc vw22 (a.add 1) [(Value.int .i64 t46)]) ∧ ((t44 = t46 → ∃ (t49_Major : Int) (t49_Minor : Int) (t49_Patch : Int), (ldc vw22 a13 [(Value.int .i64 t49_Major), (Value.int .i64 t49_Minor), (Value.int .i64 t49_Patch)]) ∧ callS Tryz.prog 144 [(Value.agg #[(Value.int .i64 t49_Major), (Value.int .i64 t49_Minor), (Value.int .i64 t49_Patch)])] vw22 fun v27 vw26 => ∃ (t50 : ByteArray), v27 = (Value.string t50) ∧ newS vw26 [(Value.string t50)] 9 fun a29 vw30 => appS Tryz.prog 236 236 texts (Sl.v (Sl.mk (some a29) 1 1)) vw30 fun t52 vw31 => vJ t52 vw31) ∧ (¬ (t44 = t46) → ∃ (t54_lo : Int) (t54_hi : Int), (ldc vw22 a [(Value.int .i64 t54_lo), (Value.int .i64 t54_hi)]) ∧ ((((t54_lo == 0) && ((t54_hi == 999999999) && true)) = true → newS vw22 [(Value.string (ByteArray.mk #[42]))] 9 fun a33 vw34 => appS Tryz.prog 236 236 texts (Sl.v (Sl.mk (some a33) 1 1)) vw34 fun t59 vw35 => vJ t59 vw35) ∧ (((t54_lo == 0) && ((t54_hi == 999999999) && true)) = false → ∃ (t62 : Int), (ldc vw22 a [(Value.int .i64 t62)]) ∧ ((t62 = 0 → ∃ (t65_Major : Int) (t65_Minor : Int) (t65_Patch : Int), (ldc vw22 a20 [(Value.int .i64 t65_Major), (Value.int .i64 t65_Minor), (Value.int .i64 t65_Patch)]) ∧ callS Tryz.prog 144 [(Value.agg #[(Value.int .i64 t65_Major), (Value.int .i64 t65_Minor), (Value.int .i64 t65_Patch)])] vw22 fun v39 vw38 => ∃ (t66 : ByteArray), v39 = (Value.string t66) ∧ ((((ByteArray.mk #[60, 61]).size + t66.size : Nat) : Int) ≤ maxI) ∧ newS vw38 [(Value.string ((ByteArray.mk #[60, 61]) ++ t66))] 9 fun a42 vw43 => appS Tryz.prog 236 236 texts (Sl.v (Sl.mk (some a42) 1 1)) vw43 fun t69 vw44 => vJ t69 vw44) ∧ (¬ (t62 = 0) → ∃ (t72 : Int), (ldc vw22 (a.add 1) [(Value.int .i64 t72)]) ∧ ((t72 = 999999999 → ∃ (t75_Major : Int) (t75_Minor : Int) (t75_Patch : Int), (ldc vw22 a13 [(Value.int .i64 t75_Major), (Value.int .i64 t75_Minor), (Value.int .i64 t75_Patch)]) ∧ callS Tryz.prog 144 [(Value.agg #[(Value.int .i64 t75_Major), (Value.int .i64 t75_Minor), (Value.int .i64 t75_Patch)])] vw22 fun v48 vw47 => ∃ (t76 : ByteArray), v48 = (Value.string t76) ∧ ((((ByteArray.mk #[62, 61]).size + t76.size : Nat) : Int) ≤ maxI) ∧ newS vw47 [(Value.string ((ByteArray.mk #[62, 61]) ++ t76))] 9 fun a51 vw52 => appS Tryz.prog 236 236 texts (Sl.v (Sl.mk (some a51) 1 1)) vw52 fun t79 vw53 => vJ t79 vw53) ∧ (¬ (t72 = 999999999) → bnd vw22.drew fun (vw54 : World) => ∃ (t33_Major : Int) (t33_Minor : Int) (t33_Patch : Int), (ldc vw54 a13 [(Value.int .i64 t33_Major), (Value.int .i64 t33_Minor), (Value.int .i64 t33_Patch)]) ∧ ∃ (t37_Major : Int) (t37_Minor : Int) (t37_Patch : Int), (ldc vw54 a20 [(Value.int .i64 t37_Major), (Value.int .i64 t37_Minor), (Value.int .i64 t37_Patch)]) ∧ callX Tryz.prog 144 [(Value.agg #[(Value.int .i64 t33_Major), (Value.int .i64 t33_Minor), (Value.int .i64 t33_Patch)])] vw54 fun v58 vw57 => ∃ (t34 : ByteArray), v58 = (Value.string t34) ∧ ((((ByteArray.mk #[62, 61]).size + t34.size : Nat) : Int) ≤ maxI) ∧ (((((ByteArray.mk #[62, 61]) ++ t34).size + (ByteArray.mk #[32, 60, 61]).size : Nat) : Int) ≤ maxI) ∧ callS Tryz.prog 144 [(Value.agg #[(Value.int .i64 t37_Major), (Value.int .i64 t37_Minor), (Value.int .i64 t37_Patch)])] vw57 fun v63 vw62 => ∃ (t38 : ByteArray), v63 = (Value.string t38) ∧ ((((((ByteArray.mk #[62, 61]) ++ t34) ++ (ByteArray.mk #[32, 60, 61])).size + t38.size : Nat) : Int) ≤ maxI) ∧ newS vw62 [(Value.string ((((ByteArray.mk #[62, 61]) ++ t34) ++ (ByteArray.mk #[32, 60, 61])) ++ t38))] 9 fun a66 vw67 => appS Tryz.prog 236 236 texts (Sl.v (Sl.mk (some a66) 1 1)) vw67 fun t41 vw68 => vJ t41 vw68))))))))) ∧ (¬ (t16 < (t14.len : Int)) → (((texts.len : Int) = 0 → R (ByteArray.mk #[60, 48, 46, 48, 46, 48]) vw4) ∧ (¬ ((texts.len : Int) = 0) → callS Tryz.prog 205 [(Sl.v texts), (Value.string (ByteArray.mk #[32, 124, 124, 32]))] vw4 fun v70 vw69 => ∃ (t85 : ByteArray), v70 = (Value.string t85) ∧ R t85 vw69))))))
set_option maxHeartbeats 8000000 in
theorem span_Print.sound (l : Sl) (w : World) (R : ByteArray → World → Prop) (h : span_Print l w R) : callS Tryz.prog 186 [(Sl.v l)] w (fun v w' => ∃ (r0 : ByteArray), v = (Value.string r0) ∧ R r0 w') := by
  unfold span_Print at h
  refine calls_of_vc 86 rfl Tryz.func186 rfl (by kernel_rfl) (by simp) ?_
  refine Vc.seq ?_
  refine Vc.region ?_
  refine vcL_pure rfl rfl (Value.string (ByteArray.mk #[])) (fun w => by kernel_rfl) ?_
  refine vcL_nil ?_
  refine Vc.seq ?_
  refine Vc.seq ?_
  refine Vc.region ?_
  refine vcL_pure rfl rfl (Sl.v l) (fun w => by kernel_rfl) ?_
  refine vcL_eff rfl (opVC_call rfl (by kernel_rfl) (callS.mono h fun v vw h => ?_)) 
  obtain ⟨t11, rfl, h⟩ := h
  refine vcL_pure rfl rfl (Value.bool (!t11)) (fun w => by kernel_rfl) ?_
  refine vcL_nil ?_
  refine Vc.cond (!t11) (by kernel_rfl) (fun hb => ?_) (fun hb => ?_)
  · have h := h.1 (hb)
    refine Vc.seq ?_
    refine Vc.region ?_
    refine vcL_pure rfl rfl (Value.string (ByteArray.mk #[])) (fun w => by kernel_rfl) ?_
    refine vcL_nil ?_
    refine Vc.ret ?_
    refine outs_ret ?_
    refine done_mk (Value.string (ByteArray.mk #[])) (res1 (resC_tmp (by kernel_rfl))) ?_
    exact ⟨(ByteArray.mk #[]), rfl, h⟩
  · have h := h.2 (hb)
    refine Vc.skip ?_
    refine Vc.seq ?_
    refine Vc.region ?_
    refine vcL_pure rfl rfl (Sl.v Sl.nil) (fun w => by kernel_rfl) ?_
    refine vcL_nil ?_
    refine Vc.seq ?_
    refine Vc.seq ?_
    refine Vc.region ?_
    refine vcL_pure rfl rfl (Sl.v l) (fun w => by kernel_rfl) ?_
    refine vcL_eff rfl (opVC_call rfl (by kernel_rfl) (callS.mono h fun v2 vw1 h => ?_)) 
    obtain ⟨t14, rfl, h⟩ := h
    refine vcL_purs 2 [(16, (Value.int .i64 0)), (15, (Value.int .i64 (t14.len : Int)))] (by kernel_rfl) ?_
    refine vcL_nil ?_
    refine Vc.block ?_
    obtain ⟨vI, mu, h, hr⟩ := h
    refine Vc.loopJ (σ := Sl × Int) [3, 16] [5, 6, 7, 8, 9, 17, 18, 19, 20, 21, 22, 23, 24, 25, 26, 27, 28, 29, 30, 31, 32, 33, 34, 35, 36, 37, 38, 39, 40, 41, 42, 43, 44, 45, 46, 47, 48, 49, 50, 51, 52, 53, 54, 55, 56, 57, 58, 59, 60, 61, 62, 63, 64, 65, 66, 67, 68, 69, 70, 71, 72, 73, 74, 75, 76, 77, 78, 79, 80] (fun s => [(3, (Sl.v s.1)), (16, (Value.int .i64 s.2))]) (fun s w => vI s.1 s.2 w) (fun s w => mu s.1 s.2 w) (Sl.nil, 0) h (fun _ => rfl) (by kernel_rfl) ?_
    rintro ⟨texts, t16⟩ vw4 j h
    have h := hr texts t16 vw4 h
    refine Vc.seq ?_
    refine Vc.region ?_
    refine vcL_pure rfl rfl (Value.bool (decide (t16 < (t14.len : Int)))) (fun w => by kernel_rfl) ?_
    refine vcL_nil ?_
    refine Vc.seq ?_
    refine Vc.cond (decide (t16 < (t14.len : Int))) (by kernel_rfl) (fun hb => ?_) (fun hb => ?_)
    · have h := h.1 (of_decide_eq_true hb)
      refine Vc.skip ?_
      obtain ⟨vJ, hJ, h⟩ := join_elim h
      refine Vc.seqJ (σ := Sl) [3] [5, 6, 7, 8, 9, 18, 19, 20, 21, 22, 23, 24, 25, 26, 27, 28, 29, 30, 31, 32, 33, 34, 35, 36, 37, 38, 39, 40, 41, 42, 43, 44, 45, 46, 47, 48, 49, 50, 51, 52, 53, 54, 55, 56, 57, 58, 59, 60, 61, 62, 63, 64, 65, 66, 67, 68, 69, 70, 71, 72, 73, 74, 75, 76, 77, 78, 79] (fun s => [(3, (Sl.v s))]) (fun s w => vJ s w) (fun _ => rfl) ?_ ?_
      · refine Vc.block ?_
        refine Vc.seq ?_
        refine Vc.region ?_
        obtain ⟨ad, hi, h⟩ := h
        refine vcL_pure rfl rfl (Value.pointer (some (ad.add (t16.toNat * 2)))) (fun w => by exact exec_indexAt (s := t14) (el := 157) rfl (by kernel_rfl) (by kernel_rfl) (by kernel_rfl) (fun w => by kernel_rfl) (hi).1 (hi).2.1 (hi).2.2 w) ?_
        obtain ⟨t19_lo, t19_hi, hc, h⟩ := h
        refine vcL_val rfl rfl (Value.agg #[(Value.int .i64 t19_lo), (Value.int .i64 t19_hi)]) (exec_load rfl (by kernel_rfl) (run_loadN (fun w => by kernel_rfl) (fun w => by kernel_rfl) ((hc)))) ?_
        refine vcL_eff rfl (opVC_new rfl (fun a => Value.pointer (some a)) (by kernel_rfl) (newS.mono h fun a vw7 hx h => ?_)) 
        refine vcL_eff rfl (opVC_store rfl rfl (a := a) (by kernel_rfl) (v := (Value.agg #[(Value.int .i64 t19_lo), (Value.int .i64 t19_hi)])) (by kernel_rfl) [(Value.int .i64 t19_lo), (Value.int .i64 t19_hi)] (by kernel_rfl) (fun w => by kernel_rfl) (by kernel_rfl) (stw.mono h fun vw8 h => ?_)) 
        refine vcL_nil ?_
        refine Vc.seq ?_
        refine Vc.region ?_
        refine vcL_pure rfl rfl (Value.pointer (some a)) (fun w => by kernel_rfl) ?_
        obtain ⟨t22, hc9, h⟩ := h
        refine vcL_val rfl rfl (Value.int .i64 t22) (exec_load rfl (by kernel_rfl) (run_load1 (fun w => by kernel_rfl) ((hc9)))) ?_
        refine vcL_eff rfl (opVC_call rfl (by kernel_rfl) (callS.mono h fun v11 vw10 h => ?_)) 
        obtain ⟨t23_Major, t23_Minor, t23_Patch, t23b, rfl, h⟩ := h
        refine vcL_purs 3 [(25, (Value.bool t23b)), (24, (Value.agg #[(Value.int .i64 t23_Major), (Value.int .i64 t23_Minor), (Value.int .i64 t23_Patch)])), (20, (Value.tuple #[(Value.agg #[(Value.int .i64 t23_Major), (Value.int .i64 t23_Minor), (Value.int .i64 t23_Patch)]), (Value.bool t23b)]))] (by kernel_rfl) ?_
        refine vcL_eff rfl (opVC_new rfl (fun a => Value.pointer (some a)) (by kernel_rfl) (newS.mono h fun a13 vw14 hx h => ?_)) 
        refine vcL_eff rfl (opVC_store rfl rfl (a := a13) (by kernel_rfl) (v := (Value.agg #[(Value.int .i64 t23_Major), (Value.int .i64 t23_Minor), (Value.int .i64 t23_Patch)])) (by kernel_rfl) [(Value.int .i64 t23_Major), (Value.int .i64 t23_Minor), (Value.int .i64 t23_Patch)] (by kernel_rfl) (fun w => by kernel_rfl) (by kernel_rfl) (stw.mono h fun vw15 h => ?_)) 
        refine vcL_pure rfl rfl (Value.bool t23b) (fun w => by kernel_rfl) ?_
        refine vcL_nil ?_
        refine Vc.seq ?_
        refine Vc.region ?_
        refine vcL_pure rfl rfl (Value.pointer (some (a.add 1))) (fun w => by kernel_rfl) ?_
        obtain ⟨t28, hc16, h⟩ := h
        refine vcL_val rfl rfl (Value.int .i64 t28) (exec_load rfl (by kernel_rfl) (run_load1 (fun w => by kernel_rfl) ((hc16)))) ?_
        refine vcL_eff rfl (opVC_call rfl (by kernel_rfl) (callS.mono h fun v18 vw17 h => ?_)) 
        obtain ⟨t29_Major, t29_Minor, t29_Patch, t29b, rfl, h⟩ := h
        refine vcL_purs 3 [(31, (Value.bool t29b)), (30, (Value.agg #[(Value.int .i64 t29_Major), (Value.int .i64 t29_Minor), (Value.int .i64 t29_Patch)])), (26, (Value.tuple #[(Value.agg #[(Value.int .i64 t29_Major), (Value.int .i64 t29_Minor), (Value.int .i64 t29_Patch)]), (Value.bool t29b)]))] (by kernel_rfl) ?_
        refine vcL_eff rfl (opVC_new rfl (fun a => Value.pointer (some a)) (by kernel_rfl) (newS.mono h fun a20 vw21 hx h => ?_)) 
        refine vcL_eff rfl (opVC_store rfl rfl (a := a20) (by kernel_rfl) (v := (Value.agg #[(Value.int .i64 t29_Major), (Value.int .i64 t29_Minor), (Value.int .i64 t29_Patch)])) (by kernel_rfl) [(Value.int .i64 t29_Major), (Value.int .i64 t29_Minor), (Value.int .i64 t29_Patch)] (by kernel_rfl) (fun w => by kernel_rfl) (by kernel_rfl) (stw.mono h fun vw22 h => ?_)) 
        refine vcL_pure rfl rfl (Value.bool t29b) (fun w => by kernel_rfl) ?_
        refine vcL_nil ?_
        refine Vc.block ?_
        refine Vc.seq ?_
        refine Vc.region ?_
        refine vcL_pure rfl rfl (Value.pointer (some a)) (fun w => by kernel_rfl) ?_
        obtain ⟨t44, hc23, h⟩ := h
        refine vcL_val rfl rfl (Value.int .i64 t44) (exec_load rfl (by kernel_rfl) (run_load1 (fun w => by kernel_rfl) ((hc23)))) ?_
        refine vcL_pure rfl rfl (Value.pointer (some (a.add 1))) (fun w => by kernel_rfl) ?_
        obtain ⟨t46, hc24, h⟩ := h
        refine vcL_val rfl rfl (Value.int .i64 t46) (exec_load rfl (by kernel_rfl) (run_load1 (fun w => by kernel_rfl) ((hc24)))) ?_
        refine vcL_purs 2 [(42, (Value.bool (t44 == t46))), (47, (Value.bool (t44 == t46)))] (by kernel_rfl) ?_
        refine vcL_nil ?_
        refine Vc.cond (t44 == t46) (by kernel_rfl) (fun hb => ?_) (fun hb => ?_)
        · have h := h.1 (eq_of_beq hb)
          refine Vc.region ?_
          refine vcL_pure rfl rfl (Sl.v texts) (fun w => by kernel_rfl) ?_
          obtain ⟨t49_Major, t49_Minor, t49_Patch, hc25, h⟩ := h
          refine vcL_val rfl rfl (Value.agg #[(Value.int .i64 t49_Major), (Value.int .i64 t49_Minor), (Value.int .i64 t49_Patch)]) (exec_load rfl (by kernel_rfl) (run_loadN (fun w => by kernel_rfl) (fun w => by kernel_rfl) ((hc25)))) ?_
          refine vcL_eff rfl (opVC_call rfl (by kernel_rfl) (callS.mono h fun v27 vw26 h => ?_)) 
          obtain ⟨t50, rfl, h⟩ := h
          refine vcL_eff rfl (opVC_new rfl (fun a => Value.slice (some a) 1 1) (by kernel_rfl) (newS.mono h fun a29 vw30 hx h => ?_)) 
          refine vcL_eff rfl (opVC_sem rfl (c := Builtin.append_ #[236, 236] 236 #[(Sl.v texts), (Sl.v (Sl.mk (some a29) 1 1))]) (by kernel_rfl) (appS.elim (ty := 236) h fun t52 vw31 h => ?_)) 
          refine vcL_pure rfl rfl (Sl.v t52) (fun w => by kernel_rfl) ?_
          refine vcL_nil ?_
          exact ⟨t52, 31, ⟨rfl, by kernel_rfl, by kernel_rfl, by kernel_rfl⟩, h⟩
        · have h := h.2 (ne_of_beq_false hb)
          refine Vc.seq ?_
          refine Vc.region ?_
          obtain ⟨t54_lo, t54_hi, hc32, h⟩ := h
          refine vcL_val rfl rfl (Value.agg #[(Value.int .i64 t54_lo), (Value.int .i64 t54_hi)]) (exec_load rfl (by kernel_rfl) (run_loadN (fun w => by kernel_rfl) (fun w => by kernel_rfl) ((hc32)))) ?_
          refine vcL_pure rfl rfl (Value.agg #[(Value.int .i64 0), (Value.int .i64 999999999)]) (fun w => by kernel_rfl) ?_
          refine vcL_pure rfl rfl (Value.bool ((t54_lo == 0) && ((t54_hi == 999999999) && true))) (fun w => by exact exec_struct_eq rfl (by kernel_rfl) (by kernel_rfl) (by kernel_rfl) (eqv_157 9998 t54_lo t54_hi 0 999999999 w)) ?_
          refine vcL_pure rfl rfl (Value.bool ((t54_lo == 0) && ((t54_hi == 999999999) && true))) (fun w => by kernel_rfl) ?_
          refine vcL_nil ?_
          refine Vc.cond ((t54_lo == 0) && ((t54_hi == 999999999) && true)) (by kernel_rfl) (fun hb => ?_) (fun hb => ?_)
          · have h := h.1 (hb)
            refine Vc.region ?_
            refine vcL_pure rfl rfl (Sl.v texts) (fun w => by kernel_rfl) ?_
            refine vcL_eff rfl (opVC_new rfl (fun a => Value.slice (some a) 1 1) (by kernel_rfl) (newS.mono h fun a33 vw34 hx h => ?_)) 
            refine vcL_eff rfl (opVC_sem rfl (c := Builtin.append_ #[236, 236] 236 #[(Sl.v texts), (Sl.v (Sl.mk (some a33) 1 1))]) (by kernel_rfl) (appS.elim (ty := 236) h fun t59 vw35 h => ?_)) 
            refine vcL_pure rfl rfl (Sl.v t59) (fun w => by kernel_rfl) ?_
            refine vcL_nil ?_
            exact ⟨t59, 33, ⟨rfl, by kernel_rfl, by kernel_rfl, by kernel_rfl⟩, h⟩
          · have h := h.2 (hb)
            refine Vc.seq ?_
            refine Vc.region ?_
            refine vcL_pure rfl rfl (Value.pointer (some a)) (fun w => by kernel_rfl) ?_
            obtain ⟨t62, hc36, h⟩ := h
            refine vcL_val rfl rfl (Value.int .i64 t62) (exec_load rfl (by kernel_rfl) (run_load1 (fun w => by kernel_rfl) ((hc36)))) ?_
            refine vcL_purs 2 [(60, (Value.bool (t62 == 0))), (63, (Value.bool (t62 == 0)))] (by kernel_rfl) ?_
            refine vcL_nil ?_
            refine Vc.cond (t62 == 0) (by kernel_rfl) (fun hb => ?_) (fun hb => ?_)
            · have h := h.1 (eq_of_beq hb)
              refine Vc.region ?_
              refine vcL_pure rfl rfl (Sl.v texts) (fun w => by kernel_rfl) ?_
              obtain ⟨t65_Major, t65_Minor, t65_Patch, hc37, h⟩ := h
              refine vcL_val rfl rfl (Value.agg #[(Value.int .i64 t65_Major), (Value.int .i64 t65_Minor), (Value.int .i64 t65_Patch)]) (exec_load rfl (by kernel_rfl) (run_loadN (fun w => by kernel_rfl) (fun w => by kernel_rfl) ((hc37)))) ?_
              refine vcL_eff rfl (opVC_call rfl (by kernel_rfl) (callS.mono h fun v39 vw38 h => ?_)) 
              obtain ⟨t66, rfl, h⟩ := h
              obtain ⟨hi41, h⟩ := h
              refine vcL_pure rfl rfl (Value.string ((ByteArray.mk #[60, 61]) ++ t66)) (fun w => by exact exec_str_add (a := (ByteArray.mk #[60, 61])) (b := t66) rfl (by kernel_rfl) (by kernel_rfl) (hi41) w) ?_
              refine vcL_eff rfl (opVC_new rfl (fun a => Value.slice (some a) 1 1) (by kernel_rfl) (newS.mono h fun a42 vw43 hx h => ?_)) 
              refine vcL_eff rfl (opVC_sem rfl (c := Builtin.append_ #[236, 236] 236 #[(Sl.v texts), (Sl.v (Sl.mk (some a42) 1 1))]) (by kernel_rfl) (appS.elim (ty := 236) h fun t69 vw44 h => ?_)) 
              refine vcL_pure rfl rfl (Sl.v t69) (fun w => by kernel_rfl) ?_
              refine vcL_nil ?_
              exact ⟨t69, 40, ⟨rfl, by kernel_rfl, by kernel_rfl, by kernel_rfl⟩, h⟩
            · have h := h.2 (ne_of_beq_false hb)
              refine Vc.seq ?_
              refine Vc.region ?_
              refine vcL_pure rfl rfl (Value.pointer (some (a.add 1))) (fun w => by kernel_rfl) ?_
              obtain ⟨t72, hc45, h⟩ := h
              refine vcL_val rfl rfl (Value.int .i64 t72) (exec_load rfl (by kernel_rfl) (run_load1 (fun w => by kernel_rfl) ((hc45)))) ?_
              refine vcL_purs 2 [(70, (Value.bool (t72 == 999999999))), (73, (Value.bool (t72 == 999999999)))] (by kernel_rfl) ?_
              refine vcL_nil ?_
              refine Vc.cond (t72 == 999999999) (by kernel_rfl) (fun hb => ?_) (fun hb => ?_)
              · have h := h.1 (eq_of_beq hb)
                refine Vc.region ?_
                refine vcL_pure rfl rfl (Sl.v texts) (fun w => by kernel_rfl) ?_
                obtain ⟨t75_Major, t75_Minor, t75_Patch, hc46, h⟩ := h
                refine vcL_val rfl rfl (Value.agg #[(Value.int .i64 t75_Major), (Value.int .i64 t75_Minor), (Value.int .i64 t75_Patch)]) (exec_load rfl (by kernel_rfl) (run_loadN (fun w => by kernel_rfl) (fun w => by kernel_rfl) ((hc46)))) ?_
                refine vcL_eff rfl (opVC_call rfl (by kernel_rfl) (callS.mono h fun v48 vw47 h => ?_)) 
                obtain ⟨t76, rfl, h⟩ := h
                obtain ⟨hi50, h⟩ := h
                refine vcL_pure rfl rfl (Value.string ((ByteArray.mk #[62, 61]) ++ t76)) (fun w => by exact exec_str_add (a := (ByteArray.mk #[62, 61])) (b := t76) rfl (by kernel_rfl) (by kernel_rfl) (hi50) w) ?_
                refine vcL_eff rfl (opVC_new rfl (fun a => Value.slice (some a) 1 1) (by kernel_rfl) (newS.mono h fun a51 vw52 hx h => ?_)) 
                refine vcL_eff rfl (opVC_sem rfl (c := Builtin.append_ #[236, 236] 236 #[(Sl.v texts), (Sl.v (Sl.mk (some a51) 1 1))]) (by kernel_rfl) (appS.elim (ty := 236) h fun t79 vw53 h => ?_)) 
                refine vcL_pure rfl rfl (Sl.v t79) (fun w => by kernel_rfl) ?_
                refine vcL_nil ?_
                exact ⟨t79, 44, ⟨rfl, by kernel_rfl, by kernel_rfl, by kernel_rfl⟩, h⟩
              · have h := h.2 (ne_of_beq_false hb)
                obtain ⟨vw54, hvw54⟩ : ∃ y, y = vw22.drew := ⟨_, rfl⟩
                have h := h vw54 hvw54
                refine Vc.draw (by kernel_rfl) (fun i => !(memN [6, 8, 9] i)) (.pur 0 (.val 1 (.val 5 (.eff 2 (.pur 3 (.pur 4 (.eff 6 (.pur 7 (.eff 8 (.eff 9 (.pur 10 .fin) .stop) .stop)) .stop))) .stop)))) (by kernel_rfl) ?_
                rw [← hvw54]
                clear hvw54
                refine vcS_pure rfl rfl rfl (Sl.v texts) (fun w => by kernel_rfl) ?_
                obtain ⟨t33_Major, t33_Minor, t33_Patch, hc55, h⟩ := h
                refine vcS_val rfl rfl rfl (Value.agg #[(Value.int .i64 t33_Major), (Value.int .i64 t33_Minor), (Value.int .i64 t33_Patch)]) (fun w' hx => exec_load rfl (by kernel_rfl) (run_loadN (fun w => by kernel_rfl) (fun w => by kernel_rfl) ((hc55).ext hx))) ?_
                obtain ⟨t37_Major, t37_Minor, t37_Patch, hc56, h⟩ := h
                refine vcS_val rfl rfl rfl (Value.agg #[(Value.int .i64 t37_Major), (Value.int .i64 t37_Minor), (Value.int .i64 t37_Patch)]) (fun w' hx => exec_load rfl (by kernel_rfl) (run_loadN (fun w => by kernel_rfl) (fun w => by kernel_rfl) ((hc56).ext hx))) ?_
                refine vcS_eff rfl rfl (opVC_call rfl (by kernel_rfl) (callS.mono h fun v58 vw57 h => ?_)) vcS_stop
                obtain ⟨hx59, h⟩ := h
                obtain ⟨t34, rfl, h⟩ := h
                refine ⟨fun _ => hx59, ?_⟩
                obtain ⟨hi60, h⟩ := h
                refine vcS_pure rfl rfl rfl (Value.string ((ByteArray.mk #[62, 61]) ++ t34)) (fun w => by exact exec_str_add (a := (ByteArray.mk #[62, 61])) (b := t34) rfl (by kernel_rfl) (by kernel_rfl) (hi60) w) ?_
                obtain ⟨hi61, h⟩ := h
                refine vcS_pure rfl rfl rfl (Value.string (((ByteArray.mk #[62, 61]) ++ t34) ++ (ByteArray.mk #[32, 60, 61]))) (fun w => by exact exec_str_add (a := ((ByteArray.mk #[62, 61]) ++ t34)) (b := (ByteArray.mk #[32, 60, 61])) rfl (by kernel_rfl) (by kernel_rfl) (hi61) w) ?_
                refine vcS_eff rfl rfl (opVC_call rfl (by kernel_rfl) (callS.mono h fun v63 vw62 h => ?_)) vcS_stop
                obtain ⟨t38, rfl, h⟩ := h
                refine ⟨fun hb => absurd hb (by decide), ?_⟩
                obtain ⟨hi65, h⟩ := h
                refine vcS_pure rfl rfl rfl (Value.string ((((ByteArray.mk #[62, 61]) ++ t34) ++ (ByteArray.mk #[32, 60, 61])) ++ t38)) (fun w => by exact exec_str_add (a := (((ByteArray.mk #[62, 61]) ++ t34) ++ (ByteArray.mk #[32, 60, 61]))) (b := t38) rfl (by kernel_rfl) (by kernel_rfl) (hi65) w) ?_
                refine vcS_eff rfl rfl (opVC_new rfl (fun a => Value.slice (some a) 1 1) (by kernel_rfl) (newS.mono h fun a66 vw67 hx h => ?_)) vcS_stop
                refine ⟨fun hb => absurd hb (by decide), ?_⟩
                refine vcS_eff rfl rfl (opVC_sem rfl (c := Builtin.append_ #[236, 236] 236 #[(Sl.v texts), (Sl.v (Sl.mk (some a66) 1 1))]) (by kernel_rfl) (appS.elim (ty := 236) h fun t41 vw68 h => ?_)) vcS_stop
                refine ⟨fun hb => absurd hb (by decide), ?_⟩
                refine vcS_pure rfl rfl rfl (Sl.v t41) (fun w => by kernel_rfl) ?_
                refine vcS_fin ?_
                exact ⟨t41, 48, ⟨rfl, by kernel_rfl, by kernel_rfl, by kernel_rfl⟩, h⟩
      · intro texts5 vw6 j h
        subst hJ
        refine Vc.region ?_
        refine vcL_purs 2 [(16, (Value.int .i64 (wrapI (t16 + 1)))), (80, (Value.int .i64 (wrapI (t16 + 1))))] (by kernel_rfl) ?_
        refine vcL_nil ?_
        exact ⟨(texts5, (wrapI (t16 + 1))), 142, ⟨rfl, by kernel_rfl, by kernel_rfl, by kernel_rfl⟩, h⟩
    · have h := h.2 (of_decide_eq_false hb)
      refine Vc.exit ?_
      refine outOf_hit ?_
      refine Vc.seq ?_
      refine Vc.seq ?_
      refine Vc.region ?_
      refine vcL_purs 3 [(83, (Value.bool ((texts.len : Int) == 0))), (82, (Value.int .i64 (texts.len : Int))), (81, (Sl.v texts))] (by kernel_rfl) ?_
      refine vcL_nil ?_
      refine Vc.cond ((texts.len : Int) == 0) (by kernel_rfl) (fun hb => ?_) (fun hb => ?_)
      · have h := h.1 (eq_of_beq hb)
        refine Vc.seq ?_
        refine Vc.region ?_
        refine vcL_pure rfl rfl (Value.string (ByteArray.mk #[60, 48, 46, 48, 46, 48])) (fun w => by kernel_rfl) ?_
        refine vcL_nil ?_
        refine Vc.ret ?_
        refine outs_ret ?_
        refine done_mk (Value.string (ByteArray.mk #[60, 48, 46, 48, 46, 48])) (res1 (resC_tmp (by kernel_rfl))) ?_
        exact ⟨(ByteArray.mk #[60, 48, 46, 48, 46, 48]), rfl, h⟩
      · have h := h.2 (ne_of_beq_false hb)
        refine Vc.skip ?_
        refine Vc.seq ?_
        refine Vc.region ?_
        refine vcL_pure rfl rfl (Sl.v texts) (fun w => by kernel_rfl) ?_
        refine vcL_eff rfl (opVC_call rfl (by kernel_rfl) (callS.mono h fun v70 vw69 h => ?_)) 
        obtain ⟨t85, rfl, h⟩ := h
        refine vcL_pure rfl rfl (Value.string t85) (fun w => by kernel_rfl) ?_
        refine vcL_nil ?_
        refine Vc.ret ?_
        refine outs_ret ?_
        refine done_mk (Value.string t85) (res1 (resC_tmp (by kernel_rfl))) ?_
        exact ⟨t85, rfl, h⟩
theorem span_Print.go {l : Sl} {w : World} {k : Value → World → Prop} (h : span_Print l w fun r0 w' => k (Value.string r0) w') : callS Tryz.prog 186 [(Sl.v l)] w k := (span_Print.sound l w _ h).mono (by rintro _ _ ⟨r0, rfl, h⟩; exact h)

end Go.Hal.SE
