/- Lemmas for the claim K08r: how the program's functions run, and what they answer; no condition but those that each theorem names. -/
import Derived.Test.YtfaabhimmojeaaaGreatDoorProg
import Derived.Test.YtfaabhimmojeaaaGreatDoorK08rA0
set_option linter.unusedVariables false
set_option linter.unusedSimpArgs false
namespace Go.Hal.SE
open Go Go.RowKit Go.Hal Go.Proofs
set_option maxRecDepth 100000
namespace Eq1
theorem eqv_32 (d : Nat) (a0 : ByteArray) (a1 : Int) (a2 : Int) (a3 : Int) (b0 : ByteArray) (b1 : Int) (b2 : Int) (b3 : Int) (w : World) : (Op.equalIn (d + 3) 32 (.agg #[(Value.string a0), (Value.int .i64 a1), (Value.int .i64 a2), (Value.int .i64 a3)]) (.agg #[(Value.string b0), (Value.int .i64 b1), (Value.int .i64 b2), (Value.int .i64 b3)])).run Tryz.prog w = .ok ((bEq a0 b0) && (((a1 == b1) && ((a2 == b2) && ((a3 == b3) && true))) && true)) w :=
 (eqS (by kernel_rfl) (by kernel_rfl) (fs := [⟨ "Name", 9, 0, false, "", "", 0⟩, ⟨ "Version", 30, 1, false, "", "", 16⟩]) (by kernel_rfl) (eqF_cons (x := (Value.string a0)) (y := (Value.string b0)) rfl (by kernel_rfl) (by kernel_rfl) (run_equalIn_string w _ 9 a0 b0 (by kernel_rfl)) (eqF_cons (x := (Value.agg #[(Value.int .i64 a1), (Value.int .i64 a2), (Value.int .i64 a3)])) (y := (Value.agg #[(Value.int .i64 b1), (Value.int .i64 b2), (Value.int .i64 b3)])) rfl (by kernel_rfl) (by kernel_rfl) (eqS (by kernel_rfl) (by kernel_rfl) (fs := [⟨ "Major", 3, 0, false, "", "", 0⟩, ⟨ "Minor", 3, 1, false, "", "", 8⟩, ⟨ "Patch", 3, 2, false, "", "", 16⟩]) (by kernel_rfl) (eqF_cons (x := (Value.int .i64 a1)) (y := (Value.int .i64 b1)) rfl (by kernel_rfl) (by kernel_rfl) (run_equalIn_int w _ 3 .i64 .i64 a1 b1 (by kernel_rfl)) (eqF_cons (x := (Value.int .i64 a2)) (y := (Value.int .i64 b2)) rfl (by kernel_rfl) (by kernel_rfl) (run_equalIn_int w _ 3 .i64 .i64 a2 b2 (by kernel_rfl)) (eqF_cons (x := (Value.int .i64 a3)) (y := (Value.int .i64 b3)) rfl (by kernel_rfl) (by kernel_rfl) (run_equalIn_int w _ 3 .i64 .i64 a3 b3 (by kernel_rfl)) eqF_nil)))) eqF_nil)))
end Eq1
open Eq1
def span_numbers (l : Sl) (w : World) (R : Sl → World → Prop) : Prop :=
 loop2 Sl.nil 0 w fun out t12 vw nxt=>((t12 < (l.len : Int) → ∃ (ad : Addr), (l.a = some ad ∧ (0 : Int) ≤ t12 ∧ t12 < (l.len : Int)) ∧ ∃ (zz8 : Int) (zz9 : Int) (zza : Int) (zz5 : Int) (zz6 : Int) (zz7 : Int), (ldc vw (ad.add (t12.toNat * 6)) [(Value.int .i64 zz8), (Value.int .i64 zz9), (Value.int .i64 zza), (Value.int .i64 zz5), (Value.int .i64 zz6), (Value.int .i64 zz7)]) ∧ newS vw [(Value.int .i64 0), (Value.int .i64 0), (Value.int .i64 0), (Value.int .i64 0), (Value.int .i64 0), (Value.int .i64 0)] 83 fun a vw1=>stw vw1 a [(Value.int .i64 zz8), (Value.int .i64 zz9), (Value.int .i64 zza), (Value.int .i64 zz5), (Value.int .i64 zz6), (Value.int .i64 zz7)] fun vw2=>∃ (zz39 : Int) (zz3a : Int) (zz3b : Int), (ldc vw2 a [(Value.int .i64 zz39), (Value.int .i64 zz3a), (Value.int .i64 zz3b)]) ∧ callS Tryz.prog 123 [(Value.agg #[(Value.int .i64 zz39), (Value.int .i64 zz3a), (Value.int .i64 zz3b)])] vw2 fun v vw4=>∃ (t19 : Int) (t19b : Bool), v = (Value.tuple #[(Value.int .i64 t19), (Value.bool t19b)]) ∧ ∃ (zz3c : Int) (zz3d : Int) (zz3e : Int), (ldc vw4 (a.add 3) [(Value.int .i64 zz3c), (Value.int .i64 zz3d), (Value.int .i64 zz3e)]) ∧ callS Tryz.prog 123 [(Value.agg #[(Value.int .i64 zz3c), (Value.int .i64 zz3d), (Value.int .i64 zz3e)])] vw4 fun v7 vw6=>∃ (t25 : Int) (t25b : Bool), v7 = (Value.tuple #[(Value.int .i64 t25), (Value.bool t25b)]) ∧ newS vw6 [(Value.int .i64 t19), (Value.int .i64 t25)] 157 fun a9 vw10=>appS Tryz.prog 130 130 out (Sl.v (Sl.mk (some a9) 1 1)) vw10 fun t33 vw11=>nxt t33 (wrapI (t12 + 1)) vw11) ∧ (¬ (t12 < (l.len : Int)) → R out vw))
set_option maxHeartbeats 8000000 in
theorem span_numbers.sound (l : Sl) (w : World) (R : Sl → World → Prop) (h : span_numbers l w R) : callS Tryz.prog 94 [(Sl.v l)] w (fun v w'=>∃ (r0 : Sl), v = (Sl.v r0) ∧ R r0 w') := by
 unfold span_numbers at h
 refine calls_of_vc 36 rfl Tryz.func94 rfl (by kernel_rfl) (by simp) ?_
 refine Vc.seq ?_
 refine Vc.region ?_
 refine vcL_pure rfl rfl (Sl.v Sl.nil) (fun w=>by kernel_rfl) ?_
 refine vcL_nil ?_
 refine Vc.seq ?_
 refine Vc.region ?_
 refine vcL_pure rfl rfl (Sl.v Sl.nil) (fun w=>by kernel_rfl) ?_
 refine vcL_nil ?_
 refine Vc.seq ?_
 refine Vc.seq ?_
 refine Vc.region ?_
 refine vcL_purs 3 [(12, (Value.int .i64 0)), (11, (Value.int .i64 (l.len : Int))), (10, (Sl.v l))] (by kernel_rfl) ?_
 refine vcL_nil ?_
 refine Vc.block ?_
 obtain ⟨vI, mu, h, hr⟩ := h
 refine Vc.loopJ (σ := Sl × Int) [3, 12] [5, 6, 7, 8, 9, 13, 14, 15, 16, 17, 18, 19, 20, 21, 22, 23, 24, 25, 26, 27, 28, 29, 30, 31, 32, 33, 34] (fun s=>[(3, (Sl.v s.1)), (12, (Value.int .i64 s.2))]) (fun s w=>vI s.1 s.2 w) (fun s w=>mu s.1 s.2 w) (Sl.nil, 0) h (fun _ => rfl) (by kernel_rfl) ?_
 rintro ⟨out, t12⟩ vw j h
 have h := hr out t12 vw h
 refine Vc.seq ?_
 refine Vc.region ?_
 refine vcL_pure rfl rfl (Value.bool (decide (t12 < (l.len : Int)))) (fun w=>by kernel_rfl) ?_
 refine vcL_nil ?_
 refine Vc.seq ?_
 refine Vc.cond (decide (t12 < (l.len : Int))) (by kernel_rfl) (fun hb=>?_) (fun hb=>?_)
 ·have h := h.1 (of_decide_eq_true hb)
  refine Vc.skip ?_
  refine Vc.seq ?_
  refine Vc.block ?_
  refine Vc.seq ?_
  refine Vc.region ?_
  obtain ⟨ad, hi, h⟩ := h
  refine vcL_pure rfl rfl (Value.pointer (some (ad.add (t12.toNat * 6)))) (fun w=>by exact exec_indexAt (s := l) (el := 83) rfl (by kernel_rfl) (by kernel_rfl) (by kernel_rfl) (fun w=>by kernel_rfl) (hi).1 (hi).2.1 (hi).2.2 w) ?_
  obtain ⟨zz8, zz9, zza, zz5, zz6, zz7, hc, h⟩ := h
  refine vcL_val rfl rfl (Value.agg #[(Value.int .i64 zz8), (Value.int .i64 zz9), (Value.int .i64 zza), (Value.int .i64 zz5), (Value.int .i64 zz6), (Value.int .i64 zz7)]) (exec_load rfl (by kernel_rfl) (run_loadN (fun w=>by kernel_rfl) (fun w=>by kernel_rfl) ((hc)))) ?_
  refine vcL_eff rfl (opVC_new rfl (fun a=>Value.pointer (some a)) (by kernel_rfl) (newS.mono h fun a vw1 hx h=>?_))
  refine vcL_eff rfl (opVC_store rfl rfl (a := a) (by kernel_rfl) (v := (Value.agg #[(Value.int .i64 zz8), (Value.int .i64 zz9), (Value.int .i64 zza), (Value.int .i64 zz5), (Value.int .i64 zz6), (Value.int .i64 zz7)])) (by kernel_rfl) [(Value.int .i64 zz8), (Value.int .i64 zz9), (Value.int .i64 zza), (Value.int .i64 zz5), (Value.int .i64 zz6), (Value.int .i64 zz7)] (by kernel_rfl) (fun w=>by kernel_rfl) (by kernel_rfl) (stw.mono h fun vw2 h=>?_))
  refine vcL_nil ?_
  refine Vc.seq ?_
  refine Vc.region ?_
  refine vcL_pure rfl rfl (Value.pointer (some a)) (fun w=>by kernel_rfl) ?_
  obtain ⟨zz39, zz3a, zz3b, hc3, h⟩ := h
  refine vcL_val rfl rfl (Value.agg #[(Value.int .i64 zz39), (Value.int .i64 zz3a), (Value.int .i64 zz3b)]) (exec_load rfl (by kernel_rfl) (run_loadN (fun w=>by kernel_rfl) (fun w=>by kernel_rfl) ((hc3)))) ?_
  refine vcL_eff rfl (opVC_call rfl (by kernel_rfl) (callS.mono h fun v vw4 h=>?_))
  obtain ⟨t19, t19b, rfl, h⟩ := h
  refine vcL_purs 5 [(7, (Value.bool t19b)), (6, (Value.int .i64 t19)), (21, (Value.bool t19b)), (20, (Value.int .i64 t19)), (16, (Value.tuple #[(Value.int .i64 t19), (Value.bool t19b)]))] (by kernel_rfl) ?_
  refine vcL_nil ?_
  refine Vc.seq ?_
  refine Vc.region ?_
  refine vcL_pure rfl rfl (Value.pointer (some (a.add 3))) (fun w=>by kernel_rfl) ?_
  obtain ⟨zz3c, zz3d, zz3e, hc5, h⟩ := h
  refine vcL_val rfl rfl (Value.agg #[(Value.int .i64 zz3c), (Value.int .i64 zz3d), (Value.int .i64 zz3e)]) (exec_load rfl (by kernel_rfl) (run_loadN (fun w=>by kernel_rfl) (fun w=>by kernel_rfl) ((hc5)))) ?_
  refine vcL_eff rfl (opVC_call rfl (by kernel_rfl) (callS.mono h fun v7 vw6 h=>?_))
  obtain ⟨t25, t25b, rfl, h⟩ := h
  refine vcL_purs 5 [(9, (Value.bool t25b)), (8, (Value.int .i64 t25)), (27, (Value.bool t25b)), (26, (Value.int .i64 t25)), (22, (Value.tuple #[(Value.int .i64 t25), (Value.bool t25b)]))] (by kernel_rfl) ?_
  refine vcL_nil ?_
  refine Vc.region ?_
  refine vcL_purs 4 [(31, (Value.agg #[(Value.int .i64 t19), (Value.int .i64 t25)])), (30, (Value.int .i64 t25)), (29, (Value.int .i64 t19)), (28, (Sl.v out))] (by kernel_rfl) ?_
  refine vcL_eff rfl (opVC_new rfl (fun a=>Value.slice (some a) 1 1) (by kernel_rfl) (newS.mono h fun a9 vw10 hx h=>?_))
  refine vcL_eff rfl (opVC_sem rfl (c := Builtin.append_ #[130, 130] 130 #[(Sl.v out), (Sl.v (Sl.mk (some a9) 1 1))]) (by kernel_rfl) (appS.elim (ty := 130) h fun t33 vw11 h=>?_))
  refine vcL_pure rfl rfl (Sl.v t33) (fun w=>by kernel_rfl) ?_
  refine vcL_nil ?_
  refine Vc.region ?_
  refine vcL_purs 2 [(12, (Value.int .i64 (wrapI (t12 + 1)))), (34, (Value.int .i64 (wrapI (t12 + 1))))] (by kernel_rfl) ?_
  refine vcL_nil ?_
  exact ⟨(t33, (wrapI (t12 + 1))), 58, ⟨rfl, by kernel_rfl, by kernel_rfl, by kernel_rfl⟩, h⟩
 ·have h := h.2 (of_decide_eq_false hb)
  refine Vc.exit ?_
  refine outOf_hit ?_
  refine Vc.seq ?_
  refine Vc.region ?_
  refine vcL_purs 2 [(2, (Sl.v out)), (35, (Sl.v out))] (by kernel_rfl) ?_
  refine vcL_nil ?_
  refine Vc.ret ?_
  refine outs_ret ?_
  refine done_mk (Sl.v out) (res1 (resC_tmp (by kernel_rfl))) ?_
  exact ⟨out, rfl, h⟩
theorem span_numbers.go {l : Sl} {w : World} {k : Value → World → Prop} (h : span_numbers l w fun r0 w'=>k (Sl.v r0) w') : callS Tryz.prog 94 [(Sl.v l)] w k := (span_numbers.sound l w _ h).mono (by rintro _ _ ⟨r0, rfl, h⟩; exact h)
def span_joined (l : Sl) (w : World) (R : Sl → World → Prop) : Prop :=
 callS Tryz.prog 126 [(Sl.v l)] w fun v vw=>∃ (t8 : Value), v = t8 ∧ callS Tryz.prog 125 [t8, (Value.func (.func 127) #[] #[])] vw fun v2 vw1=>∃ (t9 : Sl), v2 = (Sl.v t9) ∧ loop2 Sl.nil 0 vw1 fun out t12 vw4 nxt=>((t12 < (t9.len : Int) → join (fun (out5 : Sl) (vw6 : World)=>nxt out5 (wrapI (t12 + 1)) vw6) fun vJ=>∃ (ad : Addr), (t9.a = some ad ∧ (0 : Int) ≤ t12 ∧ t12 < (t9.len : Int)) ∧ ∃ (t15_lo : Int) (t15_hi : Int), (ldc vw4 (ad.add (t12.toNat * 2)) [(Value.int .i64 t15_lo), (Value.int .i64 t15_hi)]) ∧ newS vw4 [(Value.int .i64 0), (Value.int .i64 0)] 157 fun a vw7=>stw vw7 a [(Value.int .i64 t15_lo), (Value.int .i64 t15_hi)] fun vw8=>bnd vw8.drew fun (vw9 : World)=>bnd (decide (0 ≤ (wrapI ((out.len : Int) - 1)))) fun (b : Bool)=>∃ (t23 : Int), grd b (ldc vw9 a [(Value.int .i64 t23)]) ∧ ∃ (ad11 : Addr), grd b (out.a = some ad11 ∧ (0 : Int) ≤ (wrapI ((out.len : Int) - 1)) ∧ (wrapI ((out.len : Int) - 1)) < (out.len : Int)) ∧ ∃ (t28 : Int), grd b (ldc vw9 ((ad11.add ((wrapI ((out.len : Int) - 1)).toNat * 2)).add 1) [(Value.int .i64 t28)]) ∧ (((b && (decide (t23 ≤ (wrapI (t28 + 1))))) = true → bnd vw9.drew fun (vw14 : World)=>∃ (ad15 : Addr), (out.a = some ad15 ∧ (0 : Int) ≤ (wrapI ((out.len : Int) - 1)) ∧ (wrapI ((out.len : Int) - 1)) < (out.len : Int)) ∧ ∃ (t38 : Int), (ldc vw14 ((ad15.add ((wrapI ((out.len : Int) - 1)).toNat * 2)).add 1) [(Value.int .i64 t38)]) ∧ ∃ (t40 : Int), (ldc vw14 (a.add 1) [(Value.int .i64 t40)]) ∧ ∃ (ad19 : Addr), (out.a = some ad19 ∧ (0 : Int) ≤ (wrapI ((out.len : Int) - 1)) ∧ (wrapI ((out.len : Int) - 1)) < (out.len : Int)) ∧ stw vw14 ((ad19.add ((wrapI ((out.len : Int) - 1)).toNat * 2)).add 1) [(Value.int .i64 (goMax t38 t40))] fun vw21=>vJ out vw21) ∧ ((b && (decide (t23 ≤ (wrapI (t28 + 1))))) = false → ∃ (t45_lo : Int) (t45_hi : Int), (ldc vw9 a [(Value.int .i64 t45_lo), (Value.int .i64 t45_hi)]) ∧ newS vw9 [(Value.int .i64 t45_lo), (Value.int .i64 t45_hi)] 157 fun a23 vw24=>appS Tryz.prog 130 130 out (Sl.v (Sl.mk (some a23) 1 1)) vw24 fun t47 vw25=>vJ t47 vw25))) ∧ (¬ (t12 < (t9.len : Int)) → R out vw4))
set_option maxHeartbeats 8000000 in
theorem span_joined.sound (l : Sl) (w : World) (R : Sl → World → Prop) (h : span_joined l w R) : callS Tryz.prog 95 [(Sl.v l)] w (fun v w'=>∃ (r0 : Sl), v = (Sl.v r0) ∧ R r0 w') := by
 unfold span_joined at h
 refine calls_of_vc 50 rfl Tryz.func95 rfl (by kernel_rfl) (by simp) ?_
 refine Vc.seq ?_
 refine Vc.region ?_
 refine vcL_pure rfl rfl (Sl.v Sl.nil) (fun w=>by kernel_rfl) ?_
 refine vcL_nil ?_
 refine Vc.seq ?_
 refine Vc.region ?_
 refine vcL_pure rfl rfl (Sl.v l) (fun w=>by kernel_rfl) ?_
 refine vcL_eff rfl (opVC_call rfl (by kernel_rfl) (callS.mono h fun v vw h=>?_))
 obtain ⟨t8, rfl, h⟩ := h
 refine vcL_eff rfl (opVC_call rfl (by kernel_rfl) (callS.mono h fun v2 vw1 h=>?_))
 obtain ⟨t9, rfl, h⟩ := h
 refine vcL_pure rfl rfl (Sl.v t9) (fun w=>by kernel_rfl) ?_
 refine vcL_nil ?_
 refine Vc.seq ?_
 refine Vc.region ?_
 refine vcL_pure rfl rfl (Sl.v Sl.nil) (fun w=>by kernel_rfl) ?_
 refine vcL_nil ?_
 refine Vc.seq ?_
 refine Vc.seq ?_
 refine Vc.region ?_
 refine vcL_purs 3 [(12, (Value.int .i64 0)), (11, (Value.int .i64 (t9.len : Int))), (10, (Sl.v t9))] (by kernel_rfl) ?_
 refine vcL_nil ?_
 refine Vc.block ?_
 obtain ⟨vI, mu, h, hr⟩ := h
 refine Vc.loopJ (σ := Sl × Int) [3, 12] [5, 6, 13, 14, 15, 16, 17, 18, 19, 20, 21, 22, 23, 24, 25, 26, 27, 28, 29, 30, 31, 32, 33, 34, 35, 36, 37, 38, 39, 40, 41, 42, 43, 44, 45, 46, 47, 48] (fun s=>[(3, (Sl.v s.1)), (12, (Value.int .i64 s.2))]) (fun s w=>vI s.1 s.2 w) (fun s w=>mu s.1 s.2 w) (Sl.nil, 0) h (fun _ => rfl) (by kernel_rfl) ?_
 rintro ⟨out, t12⟩ vw4 j h
 have h := hr out t12 vw4 h
 refine Vc.seq ?_
 refine Vc.region ?_
 refine vcL_pure rfl rfl (Value.bool (decide (t12 < (t9.len : Int)))) (fun w=>by kernel_rfl) ?_
 refine vcL_nil ?_
 refine Vc.seq ?_
 refine Vc.cond (decide (t12 < (t9.len : Int))) (by kernel_rfl) (fun hb=>?_) (fun hb=>?_)
 ·have h := h.1 (of_decide_eq_true hb)
  refine Vc.skip ?_
  obtain ⟨vJ, hJ, h⟩ := join_elim h
  refine Vc.seqJ (σ := Sl) [3] [5, 6, 14, 15, 16, 17, 18, 19, 20, 21, 22, 23, 24, 25, 26, 27, 28, 29, 30, 31, 32, 33, 34, 35, 36, 37, 38, 39, 40, 41, 42, 43, 44, 45, 46, 47] (fun s=>[(3, (Sl.v s))]) (fun s w=>vJ s w) (fun _ => rfl) ?_ ?_
  ·refine Vc.block ?_
   refine Vc.seq ?_
   refine Vc.region ?_
   obtain ⟨ad, hi, h⟩ := h
   refine vcL_pure rfl rfl (Value.pointer (some (ad.add (t12.toNat * 2)))) (fun w=>by exact exec_indexAt (s := t9) (el := 157) rfl (by kernel_rfl) (by kernel_rfl) (by kernel_rfl) (fun w=>by kernel_rfl) (hi).1 (hi).2.1 (hi).2.2 w) ?_
   obtain ⟨t15_lo, t15_hi, hc, h⟩ := h
   refine vcL_val rfl rfl (Value.agg #[(Value.int .i64 t15_lo), (Value.int .i64 t15_hi)]) (exec_load rfl (by kernel_rfl) (run_loadN (fun w=>by kernel_rfl) (fun w=>by kernel_rfl) ((hc)))) ?_
   refine vcL_eff rfl (opVC_new rfl (fun a=>Value.pointer (some a)) (by kernel_rfl) (newS.mono h fun a vw7 hx h=>?_))
   refine vcL_eff rfl (opVC_store rfl rfl (a := a) (by kernel_rfl) (v := (Value.agg #[(Value.int .i64 t15_lo), (Value.int .i64 t15_hi)])) (by kernel_rfl) [(Value.int .i64 t15_lo), (Value.int .i64 t15_hi)] (by kernel_rfl) (fun w=>by kernel_rfl) (by kernel_rfl) (stw.mono h fun vw8 h=>?_))
   refine vcL_nil ?_
   refine Vc.seq ?_
   refine Vc.region ?_
   refine vcL_purs 4 [(6, (Value.int .i64 (wrapI ((out.len : Int) - 1)))), (18, (Value.int .i64 (wrapI ((out.len : Int) - 1)))), (17, (Value.int .i64 (out.len : Int))), (16, (Sl.v out))] (by kernel_rfl) ?_
   refine vcL_nil ?_
   refine Vc.seq ?_
   obtain ⟨vw9, hvw9⟩ : ∃ y, y = vw8.drew := ⟨_, rfl⟩
   have h := h vw9 hvw9
   refine Vc.draw (by kernel_rfl) (fun i=>!(memN [] i)) (.pur 0 (.pur 1 (.pur 2 (.pur 3 (.val 4 (.pur 5 (.pur 6 (.pur 7 (.pur 8 (.val 9 (.pur 10 (.pur 11 (.pur 12 .fin))))))))))))) (by kernel_rfl) ?_
   rw [← hvw9]
   clear hvw9
   refine vcS_pure rfl rfl rfl (Value.int .i64 (wrapI ((out.len : Int) - 1))) (fun w=>by kernel_rfl) ?_
   refine vcS_pure rfl rfl rfl (Value.bool (decide (0 ≤ (wrapI ((out.len : Int) - 1))))) (fun w=>by kernel_rfl) ?_
   obtain ⟨b, hb⟩ : ∃ y, y = (decide (0 ≤ (wrapI ((out.len : Int) - 1)))) := ⟨_, rfl⟩
   have h := h b hb
   refine vcS_pure rfl rfl rfl (Value.bool b) (fun w=>by rw [hb]; kernel_rfl) ?_
   refine vcS_guard rfl b (wanted_g (d := 21) rfl (by kernel_rfl) b (by kernel_rfl) b (eqT b)) rfl (Value.pointer (some a)) (fun hg w=>by subst hg; kernel_rfl) ?_
   obtain ⟨t23, hc10, h⟩ := h
   refine vcS_valG rfl b (wanted_g (d := 21) rfl (by kernel_rfl) b (by kernel_rfl) b (eqT b)) rfl (Value.int .i64 t23) (fun hg w' hx=>by subst hg; exact exec_load rfl (by kernel_rfl) (run_load1 (fun w=>by kernel_rfl) ((hc10 rfl).ext hx))) ?_
   refine vcS_guard rfl b (wanted_g (d := 21) rfl (by kernel_rfl) b (by kernel_rfl) b (eqT b)) rfl (Sl.v out) (fun hg w=>by subst hg; kernel_rfl) ?_
   refine vcS_guard rfl b (wanted_g (d := 21) rfl (by kernel_rfl) b (by kernel_rfl) b (eqT b)) rfl (Value.int .i64 (wrapI ((out.len : Int) - 1))) (fun hg w=>by subst hg; kernel_rfl) ?_
   obtain ⟨ad11, hi12, h⟩ := h
   refine vcS_guard rfl b (wanted_g (d := 21) rfl (by kernel_rfl) b (by kernel_rfl) b (eqT b)) rfl (Value.pointer (some (ad11.add ((wrapI ((out.len : Int) - 1)).toNat * 2)))) (fun hg w=>by subst hg; exact exec_indexAt (s := out) (el := 157) rfl (by kernel_rfl) (by kernel_rfl) (by kernel_rfl) (fun w=>by kernel_rfl) (hi12 rfl).1 (hi12 rfl).2.1 (hi12 rfl).2.2 w) ?_
   refine vcS_guard rfl b (wanted_g (d := 21) rfl (by kernel_rfl) b (by kernel_rfl) b (eqT b)) rfl (Value.pointer (some ((ad11.add ((wrapI ((out.len : Int) - 1)).toNat * 2)).add 1))) (fun hg w=>by subst hg; kernel_rfl) ?_
   obtain ⟨t28, hc13, h⟩ := h
   refine vcS_valG rfl b (wanted_g (d := 21) rfl (by kernel_rfl) b (by kernel_rfl) b (eqT b)) rfl (Value.int .i64 t28) (fun hg w' hx=>by subst hg; exact exec_load rfl (by kernel_rfl) (run_load1 (fun w=>by kernel_rfl) ((hc13 rfl).ext hx))) ?_
   refine vcS_guard rfl b (wanted_g (d := 21) rfl (by kernel_rfl) b (by kernel_rfl) b (eqT b)) rfl (Value.int .i64 (wrapI (t28 + 1))) (fun hg w=>by subst hg; kernel_rfl) ?_
   refine vcS_guard rfl b (wanted_g (d := 21) rfl (by kernel_rfl) b (by kernel_rfl) b (eqT b)) rfl (Value.bool (decide (t23 ≤ (wrapI (t28 + 1))))) (fun hg w=>by subst hg; kernel_rfl) ?_
   refine vcS_pure rfl rfl rfl (Value.bool (b && (decide (t23 ≤ (wrapI (t28 + 1)))))) (fun w=>by cases b <;> kernel_rfl) ?_
   refine vcS_fin ?_
   refine Vc.cond (b && (decide (t23 ≤ (wrapI (t28 + 1))))) (by kernel_rfl) (fun hb=>?_) (fun hb=>?_)
   ·have h := h.1 (hb)
    obtain ⟨vw14, hvw14⟩ : ∃ y, y = vw9.drew := ⟨_, rfl⟩
    have h := h vw14 hvw14
    refine Vc.draw (by kernel_rfl) (fun i=>!(memN [12] i)) (.pur 0 (.pur 1 (.pur 2 (.pur 3 (.pur 4 (.pur 5 (.val 6 (.pur 7 (.val 8 (.pur 9 (.pur 10 (.pur 11 (.eff 12 .fin .stop))))))))))))) (by kernel_rfl) ?_
    rw [← hvw14]
    clear hvw14
    refine vcS_pure rfl rfl rfl (Sl.v out) (fun w=>by kernel_rfl) ?_
    refine vcS_pure rfl rfl rfl (Value.int .i64 (wrapI ((out.len : Int) - 1))) (fun w=>by kernel_rfl) ?_
    refine vcS_pure rfl rfl rfl (Sl.v out) (fun w=>by kernel_rfl) ?_
    refine vcS_pure rfl rfl rfl (Value.int .i64 (wrapI ((out.len : Int) - 1))) (fun w=>by kernel_rfl) ?_
    obtain ⟨ad15, hi16, h⟩ := h
    refine vcS_pure rfl rfl rfl (Value.pointer (some (ad15.add ((wrapI ((out.len : Int) - 1)).toNat * 2)))) (fun w=>by exact exec_indexAt (s := out) (el := 157) rfl (by kernel_rfl) (by kernel_rfl) (by kernel_rfl) (fun w=>by kernel_rfl) (hi16).1 (hi16).2.1 (hi16).2.2 w) ?_
    refine vcS_pure rfl rfl rfl (Value.pointer (some ((ad15.add ((wrapI ((out.len : Int) - 1)).toNat * 2)).add 1))) (fun w=>by kernel_rfl) ?_
    obtain ⟨t38, hc17, h⟩ := h
    refine vcS_val rfl rfl rfl (Value.int .i64 t38) (fun w' hx=>exec_load rfl (by kernel_rfl) (run_load1 (fun w=>by kernel_rfl) ((hc17).ext hx))) ?_
    refine vcS_pure rfl rfl rfl (Value.pointer (some (a.add 1))) (fun w=>by kernel_rfl) ?_
    obtain ⟨t40, hc18, h⟩ := h
    refine vcS_val rfl rfl rfl (Value.int .i64 t40) (fun w' hx=>exec_load rfl (by kernel_rfl) (run_load1 (fun w=>by kernel_rfl) ((hc18).ext hx))) ?_
    refine vcS_pure rfl rfl rfl (Value.int .i64 (goMax t38 t40)) (fun w=>by kernel_rfl) ?_
    obtain ⟨ad19, hi20, h⟩ := h
    refine vcS_pure rfl rfl rfl (Value.pointer (some (ad19.add ((wrapI ((out.len : Int) - 1)).toNat * 2)))) (fun w=>by exact exec_indexAt (s := out) (el := 157) rfl (by kernel_rfl) (by kernel_rfl) (by kernel_rfl) (fun w=>by kernel_rfl) (hi20).1 (hi20).2.1 (hi20).2.2 w) ?_
    refine vcS_pure rfl rfl rfl (Value.pointer (some ((ad19.add ((wrapI ((out.len : Int) - 1)).toNat * 2)).add 1))) (fun w=>by kernel_rfl) ?_
    refine vcS_eff rfl rfl (opVC_store rfl rfl (a := ((ad19.add ((wrapI ((out.len : Int) - 1)).toNat * 2)).add 1)) (by kernel_rfl) (v := (Value.int .i64 (goMax t38 t40))) (by kernel_rfl) [(Value.int .i64 (goMax t38 t40))] (by kernel_rfl) (fun w=>by kernel_rfl) (by kernel_rfl) (stw.mono h fun vw21 h=>?_)) vcS_stop
    refine ⟨fun hb=>absurd hb (by decide), ?_⟩
    refine vcS_fin ?_
    exact ⟨out, 32, ⟨rfl, by kernel_rfl, by kernel_rfl, by kernel_rfl⟩, h⟩
   ·have h := h.2 (hb)
    refine Vc.region ?_
    refine vcL_pure rfl rfl (Sl.v out) (fun w=>by kernel_rfl) ?_
    obtain ⟨t45_lo, t45_hi, hc22, h⟩ := h
    refine vcL_val rfl rfl (Value.agg #[(Value.int .i64 t45_lo), (Value.int .i64 t45_hi)]) (exec_load rfl (by kernel_rfl) (run_loadN (fun w=>by kernel_rfl) (fun w=>by kernel_rfl) ((hc22)))) ?_
    refine vcL_eff rfl (opVC_new rfl (fun a=>Value.slice (some a) 1 1) (by kernel_rfl) (newS.mono h fun a23 vw24 hx h=>?_))
    refine vcL_eff rfl (opVC_sem rfl (c := Builtin.append_ #[130, 130] 130 #[(Sl.v out), (Sl.v (Sl.mk (some a23) 1 1))]) (by kernel_rfl) (appS.elim (ty := 130) h fun t47 vw25 h=>?_))
    refine vcL_pure rfl rfl (Sl.v t47) (fun w=>by kernel_rfl) ?_
    refine vcL_nil ?_
    exact ⟨t47, 25, ⟨rfl, by kernel_rfl, by kernel_rfl, by kernel_rfl⟩, h⟩
  ·intro out5 vw6 j h
   subst hJ
   refine Vc.region ?_
   refine vcL_purs 2 [(12, (Value.int .i64 (wrapI (t12 + 1)))), (48, (Value.int .i64 (wrapI (t12 + 1))))] (by kernel_rfl) ?_
   refine vcL_nil ?_
   exact ⟨(out5, (wrapI (t12 + 1))), 80, ⟨rfl, by kernel_rfl, by kernel_rfl, by kernel_rfl⟩, h⟩
 ·have h := h.2 (of_decide_eq_false hb)
  refine Vc.exit ?_
  refine outOf_hit ?_
  refine Vc.seq ?_
  refine Vc.region ?_
  refine vcL_purs 2 [(2, (Sl.v out)), (49, (Sl.v out))] (by kernel_rfl) ?_
  refine vcL_nil ?_
  refine Vc.ret ?_
  refine outs_ret ?_
  refine done_mk (Sl.v out) (res1 (resC_tmp (by kernel_rfl))) ?_
  exact ⟨out, rfl, h⟩
theorem span_joined.go {l : Sl} {w : World} {k : Value → World → Prop} (h : span_joined l w fun r0 w'=>k (Sl.v r0) w') : callS Tryz.prog 95 [(Sl.v l)] w k := (span_joined.sound l w _ h).mono (by rintro _ _ ⟨r0, rfl, h⟩; exact h)
def halyardref03_at (n : Int) (w : World) (R : Int → Int → Int → World → Prop) : Prop :=
 newS w [(Value.int .i64 0), (Value.int .i64 0), (Value.int .i64 0)] 30 fun a vw=>callS Tryz.prog 35 [(Value.int .i64 n)] vw fun v vw1=>∃ (zz1h : Int) (zz1i : Int) (zz1j : Int) (t7b : Bool), v = (Value.tuple #[(Value.agg #[(Value.int .i64 zz1h), (Value.int .i64 zz1i), (Value.int .i64 zz1j)]), (Value.bool t7b)]) ∧ newS vw1 [(Value.int .i64 0), (Value.int .i64 0), (Value.int .i64 0)] 30 fun a2 vw3=>stw vw3 a2 [(Value.int .i64 zz1h), (Value.int .i64 zz1i), (Value.int .i64 zz1j)] fun vw4=>∃ (zzb : Int) (zzc : Int) (zzd : Int), (ldc vw4 a2 [(Value.int .i64 zzb), (Value.int .i64 zzc), (Value.int .i64 zzd)]) ∧ stw vw4 a [(Value.int .i64 zzb), (Value.int .i64 zzc), (Value.int .i64 zzd)] fun vw5=>∃ (zz26 : Int) (zz27 : Int) (zz28 : Int), ldc vw5 a [(Value.int .i64 zz26), (Value.int .i64 zz27), (Value.int .i64 zz28)] ∧ R zz26 zz27 zz28 vw5
set_option maxHeartbeats 8000000 in
theorem halyardref03_at.sound (n : Int) (w : World) (R : Int → Int → Int → World → Prop) (h : halyardref03_at n w R) : callS Tryz.prog 96 [(Value.int .i64 n)] w (fun v w'=>∃ (r0 : Int) (r1 : Int) (r2 : Int), v = (Value.agg #[(Value.int .i64 r0), (Value.int .i64 r1), (Value.int .i64 r2)]) ∧ R r0 r1 r2 w') := by
 unfold halyardref03_at at h
 refine calls_of_vc 11 rfl Tryz.func96 rfl (by kernel_rfl) (by simp) ?_
 refine Vc.seq ?_
 refine Vc.region ?_
 refine vcL_eff rfl (opVC_new rfl (fun a=>Value.pointer (some a)) (by kernel_rfl) (newS.mono h fun a vw hx h=>?_))
 refine vcL_nil ?_
 refine Vc.seq ?_
 refine Vc.region ?_
 refine vcL_pure rfl rfl (Value.int .i64 n) (fun w=>by kernel_rfl) ?_
 refine vcL_eff rfl (opVC_call rfl (by kernel_rfl) (callS.mono h fun v vw1 h=>?_))
 obtain ⟨zz1h, zz1i, zz1j, t7b, rfl, h⟩ := h
 refine vcL_purs 3 [(9, (Value.bool t7b)), (8, (Value.agg #[(Value.int .i64 zz1h), (Value.int .i64 zz1i), (Value.int .i64 zz1j)])), (5, (Value.tuple #[(Value.agg #[(Value.int .i64 zz1h), (Value.int .i64 zz1i), (Value.int .i64 zz1j)]), (Value.bool t7b)]))] (by kernel_rfl) ?_
 refine vcL_eff rfl (opVC_new rfl (fun a=>Value.pointer (some a)) (by kernel_rfl) (newS.mono h fun a2 vw3 hx h=>?_))
 refine vcL_eff rfl (opVC_store rfl rfl (a := a2) (by kernel_rfl) (v := (Value.agg #[(Value.int .i64 zz1h), (Value.int .i64 zz1i), (Value.int .i64 zz1j)])) (by kernel_rfl) [(Value.int .i64 zz1h), (Value.int .i64 zz1i), (Value.int .i64 zz1j)] (by kernel_rfl) (fun w=>by kernel_rfl) (by kernel_rfl) (stw.mono h fun vw4 h=>?_))
 refine vcL_pure rfl rfl (Value.bool t7b) (fun w=>by kernel_rfl) ?_
 refine vcL_nil ?_
 refine Vc.seq ?_
 refine Vc.region ?_
 obtain ⟨zzb, zzc, zzd, hc, h⟩ := h
 refine vcL_val rfl rfl (Value.agg #[(Value.int .i64 zzb), (Value.int .i64 zzc), (Value.int .i64 zzd)]) (exec_load rfl (by kernel_rfl) (run_loadN (fun w=>by kernel_rfl) (fun w=>by kernel_rfl) ((hc)))) ?_
 refine vcL_eff rfl (opVC_store rfl rfl (a := a) (by kernel_rfl) (v := (Value.agg #[(Value.int .i64 zzb), (Value.int .i64 zzc), (Value.int .i64 zzd)])) (by kernel_rfl) [(Value.int .i64 zzb), (Value.int .i64 zzc), (Value.int .i64 zzd)] (by kernel_rfl) (fun w=>by kernel_rfl) (by kernel_rfl) (stw.mono h fun vw5 h=>?_))
 refine vcL_nil ?_
 refine Vc.ret ?_
 refine outs_ret ?_
 obtain ⟨zz26, zz27, zz28, hc6, h⟩ := h
 refine done_mk (Value.agg #[(Value.int .i64 zz26), (Value.int .i64 zz27), (Value.int .i64 zz28)]) (res1 (resC_cell (by kernel_rfl) (run_loadN (fun w=>by kernel_rfl) (fun w=>by kernel_rfl) hc6))) ?_
 exact ⟨zz26, zz27, zz28, rfl, h⟩
theorem halyardref03_at.go {n : Int} {w : World} {k : Value → World → Prop} (h : halyardref03_at n w fun r0 r1 r2 w'=>k (Value.agg #[(Value.int .i64 r0), (Value.int .i64 r1), (Value.int .i64 r2)]) w') : callS Tryz.prog 96 [(Value.int .i64 n)] w k := (halyardref03_at.sound n w _ h).mono (by rintro _ _ ⟨r0, r1, r2, rfl, h⟩; exact h)
def vers_May (zz0 : Int) (zz1 : Int) (zz2 : Int) (w : World) (R : Bool → World → Prop) : Prop :=
 newS w [(Value.int .i64 zz0), (Value.int .i64 zz1), (Value.int .i64 zz2)] 30 fun a vw=>∃ (t6 : Int), (ldc vw a [(Value.int .i64 t6)]) ∧ ∃ (t8 : Int), (ldc vw (a.add 1) [(Value.int .i64 t8)]) ∧ ∃ (t10 : Int), (ldc vw (a.add 2) [(Value.int .i64 t10)]) ∧ loop1 0 vw fun t12 vw3 nxt=>((t12 < 3 → ((0 : Int) ≤ t12 ∧ t12 < 3) ∧ bnd (decide ((List.getD [t6, t8, t10] t12.toNat 0) < 0)) fun (b : Bool)=>(((b || (decide (999 < (List.getD [t6, t8, t10] t12.toNat 0)))) = true → R false vw3) ∧ ((b || (decide (999 < (List.getD [t6, t8, t10] t12.toNat 0)))) = false → nxt (wrapI (t12 + 1)) vw3))) ∧ (¬ (t12 < 3) → R true vw3))
set_option maxHeartbeats 8000000 in
theorem vers_May.sound (zz0 : Int) (zz1 : Int) (zz2 : Int) (w : World) (R : Bool → World → Prop) (h : vers_May zz0 zz1 zz2 w R) : callS Tryz.prog 97 [(Value.agg #[(Value.int .i64 zz0), (Value.int .i64 zz1), (Value.int .i64 zz2)])] w (fun v w'=>∃ (r0 : Bool), v = (Value.bool r0) ∧ R r0 w') := by
 unfold vers_May at h
 refine calls_of_vc 22 rfl Tryz.func97 rfl (by kernel_rfl) (by simp) ?_
 refine Vc.seq ?_
 refine Vc.region ?_
 refine vcL_eff rfl (opVC_new rfl (fun a=>Value.pointer (some a)) (by kernel_rfl) (newS.mono h fun a vw hx h=>?_))
 refine vcL_pure rfl rfl (Value.bool false) (fun w=>by kernel_rfl) ?_
 refine vcL_nil ?_
 refine Vc.seq ?_
 refine Vc.seq ?_
 refine Vc.region ?_
 refine vcL_pure rfl rfl (Value.pointer (some a)) (fun w=>by kernel_rfl) ?_
 obtain ⟨t6, hc, h⟩ := h
 refine vcL_val rfl rfl (Value.int .i64 t6) (exec_load rfl (by kernel_rfl) (run_load1 (fun w=>by kernel_rfl) ((hc)))) ?_
 refine vcL_pure rfl rfl (Value.pointer (some (a.add 1))) (fun w=>by kernel_rfl) ?_
 obtain ⟨t8, hc1, h⟩ := h
 refine vcL_val rfl rfl (Value.int .i64 t8) (exec_load rfl (by kernel_rfl) (run_load1 (fun w=>by kernel_rfl) ((hc1)))) ?_
 refine vcL_pure rfl rfl (Value.pointer (some (a.add 2))) (fun w=>by kernel_rfl) ?_
 obtain ⟨t10, hc2, h⟩ := h
 refine vcL_val rfl rfl (Value.int .i64 t10) (exec_load rfl (by kernel_rfl) (run_load1 (fun w=>by kernel_rfl) ((hc2)))) ?_
 refine vcL_purs 2 [(12, (Value.int .i64 0)), (11, (Value.agg #[(Value.int .i64 t6), (Value.int .i64 t8), (Value.int .i64 t10)]))] (by kernel_rfl) ?_
 refine vcL_nil ?_
 refine Vc.block ?_
 obtain ⟨vI, mu, h, hr⟩ := h
 refine Vc.loopJ (σ := Int) [12] [2, 4, 13, 14, 15, 16, 17, 18, 19, 20, 21] (fun s=>[(12, (Value.int .i64 s))]) (fun s w=>vI s w) (fun s w=>mu s w) 0 h (fun _ => rfl) (by kernel_rfl) ?_
 intro t12 vw3 j h
 have h := hr t12 vw3 h
 refine Vc.seq ?_
 refine Vc.region ?_
 refine vcL_pure rfl rfl (Value.bool (decide (t12 < 3))) (fun w=>by kernel_rfl) ?_
 refine vcL_nil ?_
 refine Vc.seq ?_
 refine Vc.cond (decide (t12 < 3)) (by kernel_rfl) (fun hb=>?_) (fun hb=>?_)
 ·have h := h.1 (of_decide_eq_true hb)
  refine Vc.skip ?_
  refine Vc.seq ?_
  refine Vc.block ?_
  refine Vc.seq ?_
  refine Vc.region ?_
  obtain ⟨hi, h⟩ := h
  refine vcL_pure rfl rfl (Value.int .i64 (List.getD [t6, t8, t10] t12.toNat 0)) (fun w=>by exact exec_indexArr (xs := [t6, t8, t10]) (el := 3) rfl (by kernel_rfl) (by kernel_rfl) (by kernel_rfl) (fun w=>by kernel_rfl) (fun w=>by kernel_rfl) rfl (hi).1 (hi).2 w) ?_
  refine vcL_pure rfl rfl (Value.int .i64 (List.getD [t6, t8, t10] t12.toNat 0)) (fun w=>by kernel_rfl) ?_
  refine vcL_nil ?_
  refine Vc.seq ?_
  refine Vc.region ?_
  refine vcL_purs 2 [(16, (Value.bool (decide ((List.getD [t6, t8, t10] t12.toNat 0) < 0)))), (15, (Value.int .i64 (List.getD [t6, t8, t10] t12.toNat 0)))] (by kernel_rfl) ?_
  obtain ⟨b, hb⟩ : ∃ y, y = (decide ((List.getD [t6, t8, t10] t12.toNat 0) < 0)) := ⟨_, rfl⟩
  have h := h b hb
  refine vcL_pure rfl rfl (Value.bool b) (fun w=>by rw [hb]; kernel_rfl) ?_
  refine vcL_guardP (!b) (wanted_g (d := 17) rfl (by kernel_rfl) b (by kernel_rfl) (!b) (eqF b)) rfl (Value.int .i64 (List.getD [t6, t8, t10] t12.toNat 0)) (fun hg w=>by simp only [Bool.and_eq_true, Bool.not_eq_true'] at hg; obtain rfl := hg; kernel_rfl) ?_
  refine vcL_guardP (!b) (wanted_g (d := 17) rfl (by kernel_rfl) b (by kernel_rfl) (!b) (eqF b)) rfl (Value.bool (decide (999 < (List.getD [t6, t8, t10] t12.toNat 0)))) (fun hg w=>by simp only [Bool.and_eq_true, Bool.not_eq_true'] at hg; obtain rfl := hg; kernel_rfl) ?_
  refine vcL_pure rfl rfl (Value.bool (b || (decide (999 < (List.getD [t6, t8, t10] t12.toNat 0))))) (fun w=>by cases b <;> kernel_rfl) ?_
  refine vcL_nil ?_
  refine Vc.cond (b || (decide (999 < (List.getD [t6, t8, t10] t12.toNat 0)))) (by kernel_rfl) (fun hb=>?_) (fun hb=>?_)
  ·have h := h.1 (hb)
   refine Vc.seq ?_
   refine Vc.region ?_
   refine vcL_pure rfl rfl (Value.bool false) (fun w=>by kernel_rfl) ?_
   refine vcL_nil ?_
   refine Vc.ret ?_
   refine outOf_ret ?_
   refine outOf_ret ?_
   refine outs_ret ?_
   refine done_mk (Value.bool false) (res1 (resC_tmp (by kernel_rfl))) ?_
   exact ⟨false, rfl, h⟩
  ·have h := h.2 (hb)
   refine Vc.skip ?_
   refine Vc.region ?_
   refine vcL_purs 2 [(12, (Value.int .i64 (wrapI (t12 + 1)))), (21, (Value.int .i64 (wrapI (t12 + 1))))] (by kernel_rfl) ?_
   refine vcL_nil ?_
   exact ⟨(wrapI (t12 + 1)), 23, ⟨rfl, by kernel_rfl, by kernel_rfl, by kernel_rfl⟩, h⟩
 ·have h := h.2 (of_decide_eq_false hb)
  refine Vc.exit ?_
  refine outOf_hit ?_
  refine Vc.seq ?_
  refine Vc.region ?_
  refine vcL_pure rfl rfl (Value.bool true) (fun w=>by kernel_rfl) ?_
  refine vcL_nil ?_
  refine Vc.ret ?_
  refine outs_ret ?_
  refine done_mk (Value.bool true) (res1 (resC_tmp (by kernel_rfl))) ?_
  exact ⟨true, rfl, h⟩
theorem vers_May.go {zz0 : Int} {zz1 : Int} {zz2 : Int} {w : World} {k : Value → World → Prop} (h : vers_May zz0 zz1 zz2 w fun r0 w'=>k (Value.bool r0) w') : callS Tryz.prog 97 [(Value.agg #[(Value.int .i64 zz0), (Value.int .i64 zz1), (Value.int .i64 zz2)])] w k := (vers_May.sound zz0 zz1 zz2 w _ h).mono (by rintro _ _ ⟨r0, rfl, h⟩; exact h)
def slices_ContainsFunc_apiSpanapiSpan (vs : Sl) (f : Value) (w : World) (R : Bool → World → Prop) : Prop :=
 callS Tryz.prog 128 [(Sl.v vs), f] w fun v vw=>∃ (t7 : Int), v = (Value.int .i64 t7) ∧ R (decide (0 ≤ t7)) vw
set_option maxHeartbeats 8000000 in
theorem slices_ContainsFunc_apiSpanapiSpan.sound (vs : Sl) (f : Value) (w : World) (R : Bool → World → Prop) (h : slices_ContainsFunc_apiSpanapiSpan vs f w R) : callS Tryz.prog 98 [(Sl.v vs), f] w (fun v w'=>∃ (r0 : Bool), v = (Value.bool r0) ∧ R r0 w') := by
 unfold slices_ContainsFunc_apiSpanapiSpan at h
 refine calls_of_vc 9 rfl Tryz.func98 rfl (by kernel_rfl) (by simp) ?_
 refine Vc.seq ?_
 refine Vc.region ?_
 refine vcL_pure rfl rfl (Value.bool false) (fun w=>by kernel_rfl) ?_
 refine vcL_nil ?_
 refine Vc.seq ?_
 refine Vc.region ?_
 refine vcL_purs 2 [(6, f), (5, (Sl.v vs))] (by kernel_rfl) ?_
 refine vcL_eff rfl (opVC_call rfl (by kernel_rfl) (callS.mono h fun v vw h=>?_))
 obtain ⟨t7, rfl, h⟩ := h
 refine vcL_purs 2 [(4, (Value.bool (decide (0 ≤ t7)))), (8, (Value.bool (decide (0 ≤ t7))))] (by kernel_rfl) ?_
 refine vcL_nil ?_
 refine Vc.ret ?_
 refine outs_ret ?_
 refine done_mk (Value.bool (decide (0 ≤ t7))) (res1 (resC_tmp (by kernel_rfl))) ?_
 exact ⟨(decide (0 ≤ t7)), rfl, h⟩
theorem slices_ContainsFunc_apiSpanapiSpan.go {vs : Sl} {f : Value} {w : World} {k : Value → World → Prop} (h : slices_ContainsFunc_apiSpanapiSpan vs f w fun r0 w'=>k (Value.bool r0) w') : callS Tryz.prog 98 [(Sl.v vs), f] w k := (slices_ContainsFunc_apiSpanapiSpan.sound vs f w _ h).mono (by rintro _ _ ⟨r0, rfl, h⟩; exact h)
def span_In_1 (zz18 : Int) (zz19 : Int) (zz1a : Int) (zz15 : Int) (zz16 : Int) (zz17 : Int) (c0 : Addr) (w : World) (R : Bool → World → Prop) : Prop :=
 newS w [(Value.int .i64 zz18), (Value.int .i64 zz19), (Value.int .i64 zz1a), (Value.int .i64 zz15), (Value.int .i64 zz16), (Value.int .i64 zz17)] 83 fun a vw=>∃ (zz3i : Int) (zz3j : Int) (zz3k : Int), (ldc vw a [(Value.int .i64 zz3i), (Value.int .i64 zz3j), (Value.int .i64 zz3k)]) ∧ ∃ (zz3l : Int) (zz3m : Int) (zz3n : Int), (ldc vw c0 [(Value.int .i64 zz3l), (Value.int .i64 zz3m), (Value.int .i64 zz3n)]) ∧ callS Tryz.prog 100 [(Value.agg #[(Value.int .i64 zz3i), (Value.int .i64 zz3j), (Value.int .i64 zz3k)]), (Value.agg #[(Value.int .i64 zz3l), (Value.int .i64 zz3m), (Value.int .i64 zz3n)])] vw fun v vw2=>∃ (t7 : Int), v = (Value.int .i64 t7) ∧ bnd (decide (t7 ≤ 0)) fun (b : Bool)=>∃ (zzb : Int) (zzc : Int) (zzd : Int), grd b (ldc vw2 c0 [(Value.int .i64 zzb), (Value.int .i64 zzc), (Value.int .i64 zzd)]) ∧ ∃ (zz36 : Int) (zz37 : Int) (zz38 : Int), grd b (ldc vw2 (a.add 3) [(Value.int .i64 zz36), (Value.int .i64 zz37), (Value.int .i64 zz38)]) ∧ gCall b (fun (t13 : Int) (vw5 : World)=>R (b && (decide (t13 ≤ 0))) vw5) (fun q=>callS Tryz.prog 100 [(Value.agg #[(Value.int .i64 zzb), (Value.int .i64 zzc), (Value.int .i64 zzd)]), (Value.agg #[(Value.int .i64 zz36), (Value.int .i64 zz37), (Value.int .i64 zz38)])] vw2 fun v6 vw5=>∃ (t13 : Int), v6 = (Value.int .i64 t13) ∧ q t13 vw5) (fun q=>q 0 vw2)
set_option maxHeartbeats 8000000 in
theorem span_In_1.sound (zz18 : Int) (zz19 : Int) (zz1a : Int) (zz15 : Int) (zz16 : Int) (zz17 : Int) (c0 : Addr) (w : World) (R : Bool → World → Prop) (h : span_In_1 zz18 zz19 zz1a zz15 zz16 zz17 c0 w R) : callS Tryz.prog 99 [(Value.agg #[(Value.int .i64 zz18), (Value.int .i64 zz19), (Value.int .i64 zz1a), (Value.int .i64 zz15), (Value.int .i64 zz16), (Value.int .i64 zz17)]), (Value.pointer (some c0))] w (fun v w'=>∃ (r0 : Bool), v = (Value.bool r0) ∧ R r0 w') := by
 unfold span_In_1 at h
 refine calls_of_vc 16 rfl Tryz.func99 rfl (by kernel_rfl) (by simp) ?_
 refine Vc.seq ?_
 refine Vc.region ?_
 refine vcL_eff rfl (opVC_new rfl (fun a=>Value.pointer (some a)) (by kernel_rfl) (newS.mono h fun a vw hx h=>?_))
 refine vcL_pure rfl rfl (Value.bool false) (fun w=>by kernel_rfl) ?_
 refine vcL_nil ?_
 refine Vc.seq ?_
 refine Vc.region ?_
 refine vcL_pure rfl rfl (Value.pointer (some a)) (fun w=>by kernel_rfl) ?_
 obtain ⟨zz3i, zz3j, zz3k, hc, h⟩ := h
 refine vcL_val rfl rfl (Value.agg #[(Value.int .i64 zz3i), (Value.int .i64 zz3j), (Value.int .i64 zz3k)]) (exec_load rfl (by kernel_rfl) (run_loadN (fun w=>by kernel_rfl) (fun w=>by kernel_rfl) ((hc)))) ?_
 obtain ⟨zz3l, zz3m, zz3n, hc1, h⟩ := h
 refine vcL_val rfl rfl (Value.agg #[(Value.int .i64 zz3l), (Value.int .i64 zz3m), (Value.int .i64 zz3n)]) (exec_load rfl (by kernel_rfl) (run_loadN (fun w=>by kernel_rfl) (fun w=>by kernel_rfl) ((hc1)))) ?_
 refine vcL_eff rfl (opVC_call rfl (by kernel_rfl) (callS.mono h fun v vw2 h=>?_))
 obtain ⟨t7, rfl, h⟩ := h
 refine vcL_pure rfl rfl (Value.bool (decide (t7 ≤ 0))) (fun w=>by kernel_rfl) ?_
 obtain ⟨b, hb⟩ : ∃ y, y = (decide (t7 ≤ 0)) := ⟨_, rfl⟩
 have h := h b hb
 refine vcL_pure rfl rfl (Value.bool b) (fun w=>by rw [hb]; kernel_rfl) ?_
 obtain ⟨zzb, zzc, zzd, hc3, h⟩ := h
 refine vcL_guard b (wanted_g (d := 9) rfl (by kernel_rfl) b (by kernel_rfl) b (eqT b)) rfl (Value.agg #[(Value.int .i64 zzb), (Value.int .i64 zzc), (Value.int .i64 zzd)]) (fun hg=>by subst hg; exact exec_load rfl (by kernel_rfl) (run_loadN (fun w=>by kernel_rfl) (fun w=>by kernel_rfl) ((hc3 rfl)))) ?_
 refine vcL_guardP b (wanted_g (d := 9) rfl (by kernel_rfl) b (by kernel_rfl) b (eqT b)) rfl (Value.pointer (some (a.add 3))) (fun hg w=>by subst hg; kernel_rfl) ?_
 obtain ⟨zz36, zz37, zz38, hc4, h⟩ := h
 refine vcL_guard b (wanted_g (d := 9) rfl (by kernel_rfl) b (by kernel_rfl) b (eqT b)) rfl (Value.agg #[(Value.int .i64 zz36), (Value.int .i64 zz37), (Value.int .i64 zz38)]) (fun hg=>by subst hg; exact exec_load rfl (by kernel_rfl) (run_loadN (fun w=>by kernel_rfl) (fun w=>by kernel_rfl) ((hc4 rfl)))) ?_
 obtain ⟨vJ, hJ, h⟩ := gCall_elim h
 refine vcL_effJ (σ := Int) b (wanted_g (d := 9) rfl (by kernel_rfl) b (by kernel_rfl) b (eqT b)) rfl (fun s w=>vJ s w) (fun s=>(Value.int .i64 s)) ?_ (fun hg=>opVC_call rfl (by subst hg; kernel_rfl) (callS.mono (h.1 hg) fun v6 vw5 hq=>?_)) (fun hg=>⟨0, h.2 hg⟩)
 ·intro t13 vw5 h
  subst hJ
  refine vcL_guardP b (wanted_g (d := 9) rfl (by kernel_rfl) b (by kernel_rfl) b (eqT b)) rfl (Value.bool (decide (t13 ≤ 0))) (fun hg w=>by subst hg; kernel_rfl) ?_
  refine vcL_pure rfl rfl (Value.bool (b && (decide (t13 ≤ 0)))) (fun w=>by cases b <;> kernel_rfl) ?_
  refine vcL_pure rfl rfl (Value.bool (b && (decide (t13 ≤ 0)))) (fun w=>by kernel_rfl) ?_
  refine vcL_nil ?_
  refine Vc.ret ?_
  refine outs_ret ?_
  refine done_mk (Value.bool (b && (decide (t13 ≤ 0)))) (res1 (resC_tmp (by kernel_rfl))) ?_
  exact ⟨(b && (decide (t13 ≤ 0))), rfl, h⟩
 ·obtain ⟨t13, rfl, hq⟩ := hq
  exact ⟨t13, rfl, hq⟩
theorem span_In_1.go {zz18 : Int} {zz19 : Int} {zz1a : Int} {zz15 : Int} {zz16 : Int} {zz17 : Int} {c0 : Addr} {w : World} {k : Value → World → Prop} (h : span_In_1 zz18 zz19 zz1a zz15 zz16 zz17 c0 w fun r0 w'=>k (Value.bool r0) w') : callS Tryz.prog 99 [(Value.agg #[(Value.int .i64 zz18), (Value.int .i64 zz19), (Value.int .i64 zz1a), (Value.int .i64 zz15), (Value.int .i64 zz16), (Value.int .i64 zz17)]), (Value.pointer (some c0))] w k := (span_In_1.sound zz18 zz19 zz1a zz15 zz16 zz17 c0 w _ h).mono (by rintro _ _ ⟨r0, rfl, h⟩; exact h)
def vers_Compare (zzh : Int) (zzi : Int) (zzj : Int) (zzk : Int) (zzl : Int) (zzm : Int) (w : World) (R : Int → World → Prop) : Prop :=
 newS w [(Value.int .i64 zzh), (Value.int .i64 zzi), (Value.int .i64 zzj)] 30 fun a vw=>newS vw [(Value.int .i64 zzk), (Value.int .i64 zzl), (Value.int .i64 zzm)] 30 fun a1 vw2=>bnd vw2.drew fun (vw3 : World)=>∃ (t6 : Int), (ldc vw3 a [(Value.int .i64 t6)]) ∧ ∃ (t8 : Int), (ldc vw3 a1 [(Value.int .i64 t8)]) ∧ ∃ (t11 : Int), (ldc vw3 (a.add 1) [(Value.int .i64 t11)]) ∧ ∃ (t13 : Int), (ldc vw3 (a1.add 1) [(Value.int .i64 t13)]) ∧ ∃ (t16 : Int), (ldc vw3 (a.add 2) [(Value.int .i64 t16)]) ∧ ∃ (t18 : Int), (ldc vw3 (a1.add 2) [(Value.int .i64 t18)]) ∧ callX Tryz.prog 129 [(Value.int .i64 t6), (Value.int .i64 t8)] vw3 fun v vw9=>∃ (t9 : Int), v = (Value.int .i64 t9) ∧ callX Tryz.prog 129 [(Value.int .i64 t11), (Value.int .i64 t13)] vw9 fun v11 vw10=>∃ (t14 : Int), v11 = (Value.int .i64 t14) ∧ callS Tryz.prog 129 [(Value.int .i64 t16), (Value.int .i64 t18)] vw10 fun v14 vw13=>∃ (t19 : Int), v14 = (Value.int .i64 t19) ∧ newS vw13 [(Value.int .i64 t9), (Value.int .i64 t14), (Value.int .i64 t19)] 3 fun a16 vw17=>callS Tryz.prog 76 [(Sl.v (Sl.mk (some a16) 3 3))] vw17 fun v19 vw18=>∃ (t21 : Int), v19 = (Value.int .i64 t21) ∧ R t21 vw18
set_option maxHeartbeats 8000000 in
theorem vers_Compare.sound (zzh : Int) (zzi : Int) (zzj : Int) (zzk : Int) (zzl : Int) (zzm : Int) (w : World) (R : Int → World → Prop) (h : vers_Compare zzh zzi zzj zzk zzl zzm w R) : callS Tryz.prog 100 [(Value.agg #[(Value.int .i64 zzh), (Value.int .i64 zzi), (Value.int .i64 zzj)]), (Value.agg #[(Value.int .i64 zzk), (Value.int .i64 zzl), (Value.int .i64 zzm)])] w (fun v w'=>∃ (r0 : Int), v = (Value.int .i64 r0) ∧ R r0 w') := by
 unfold vers_Compare at h
 refine calls_of_vc 22 rfl Tryz.func100 rfl (by kernel_rfl) (by simp) ?_
 refine Vc.seq ?_
 refine Vc.region ?_
 refine vcL_eff rfl (opVC_new rfl (fun a=>Value.pointer (some a)) (by kernel_rfl) (newS.mono h fun a vw hx h=>?_))
 refine vcL_eff rfl (opVC_new rfl (fun a=>Value.pointer (some a)) (by kernel_rfl) (newS.mono h fun a1 vw2 hx h=>?_))
 refine vcL_pure rfl rfl (Value.int .i64 0) (fun w=>by kernel_rfl) ?_
 refine vcL_nil ?_
 refine Vc.seq ?_
 obtain ⟨vw3, hvw3⟩ : ∃ y, y = vw2.drew := ⟨_, rfl⟩
 have h := h vw3 hvw3
 refine Vc.draw (by kernel_rfl) (fun i=>!(memN [14, 15, 16] i)) (.pur 0 (.val 1 (.pur 2 (.val 3 (.pur 5 (.val 6 (.pur 7 (.val 8 (.pur 10 (.val 11 (.pur 12 (.val 13 (.eff 4 (.eff 9 (.eff 14 (.eff 15 (.eff 16 (.pur 17 .fin) .stop) .stop) .stop) .stop) .stop))))))))))))) (by kernel_rfl) ?_
 rw [← hvw3]
 clear hvw3
 refine vcS_pure rfl rfl rfl (Value.pointer (some a)) (fun w=>by kernel_rfl) ?_
 obtain ⟨t6, hc, h⟩ := h
 refine vcS_val rfl rfl rfl (Value.int .i64 t6) (fun w' hx=>exec_load rfl (by kernel_rfl) (run_load1 (fun w=>by kernel_rfl) ((hc).ext hx))) ?_
 refine vcS_pure rfl rfl rfl (Value.pointer (some a1)) (fun w=>by kernel_rfl) ?_
 obtain ⟨t8, hc4, h⟩ := h
 refine vcS_val rfl rfl rfl (Value.int .i64 t8) (fun w' hx=>exec_load rfl (by kernel_rfl) (run_load1 (fun w=>by kernel_rfl) ((hc4).ext hx))) ?_
 refine vcS_pure rfl rfl rfl (Value.pointer (some (a.add 1))) (fun w=>by kernel_rfl) ?_
 obtain ⟨t11, hc5, h⟩ := h
 refine vcS_val rfl rfl rfl (Value.int .i64 t11) (fun w' hx=>exec_load rfl (by kernel_rfl) (run_load1 (fun w=>by kernel_rfl) ((hc5).ext hx))) ?_
 refine vcS_pure rfl rfl rfl (Value.pointer (some (a1.add 1))) (fun w=>by kernel_rfl) ?_
 obtain ⟨t13, hc6, h⟩ := h
 refine vcS_val rfl rfl rfl (Value.int .i64 t13) (fun w' hx=>exec_load rfl (by kernel_rfl) (run_load1 (fun w=>by kernel_rfl) ((hc6).ext hx))) ?_
 refine vcS_pure rfl rfl rfl (Value.pointer (some (a.add 2))) (fun w=>by kernel_rfl) ?_
 obtain ⟨t16, hc7, h⟩ := h
 refine vcS_val rfl rfl rfl (Value.int .i64 t16) (fun w' hx=>exec_load rfl (by kernel_rfl) (run_load1 (fun w=>by kernel_rfl) ((hc7).ext hx))) ?_
 refine vcS_pure rfl rfl rfl (Value.pointer (some (a1.add 2))) (fun w=>by kernel_rfl) ?_
 obtain ⟨t18, hc8, h⟩ := h
 refine vcS_val rfl rfl rfl (Value.int .i64 t18) (fun w' hx=>exec_load rfl (by kernel_rfl) (run_load1 (fun w=>by kernel_rfl) ((hc8).ext hx))) ?_
 refine vcS_eff rfl rfl (opVC_call rfl (by kernel_rfl) (callS.mono h fun v vw9 h=>?_)) vcS_stop
 obtain ⟨hx, h⟩ := h
 obtain ⟨t9, rfl, h⟩ := h
 refine ⟨fun _ => hx, ?_⟩
 refine vcS_eff rfl rfl (opVC_call rfl (by kernel_rfl) (callS.mono h fun v11 vw10 h=>?_)) vcS_stop
 obtain ⟨hx12, h⟩ := h
 obtain ⟨t14, rfl, h⟩ := h
 refine ⟨fun _ => hx12, ?_⟩
 refine vcS_eff rfl rfl (opVC_call rfl (by kernel_rfl) (callS.mono h fun v14 vw13 h=>?_)) vcS_stop
 obtain ⟨t19, rfl, h⟩ := h
 refine ⟨fun hb=>absurd hb (by decide), ?_⟩
 refine vcS_eff rfl rfl (opVC_new rfl (fun a=>Value.slice (some a) 3 3) (by kernel_rfl) (newS.mono h fun a16 vw17 hx h=>?_)) vcS_stop
 refine ⟨fun hb=>absurd hb (by decide), ?_⟩
 refine vcS_eff rfl rfl (opVC_call rfl (by kernel_rfl) (callS.mono h fun v19 vw18 h=>?_)) vcS_stop
 obtain ⟨t21, rfl, h⟩ := h
 refine ⟨fun hb=>absurd hb (by decide), ?_⟩
 refine vcS_pure rfl rfl rfl (Value.int .i64 t21) (fun w=>by kernel_rfl) ?_
 refine vcS_fin ?_
 refine Vc.ret ?_
 refine outs_ret ?_
 refine done_mk (Value.int .i64 t21) (res1 (resC_tmp (by kernel_rfl))) ?_
 exact ⟨t21, rfl, h⟩
theorem vers_Compare.go {zzh : Int} {zzi : Int} {zzj : Int} {zzk : Int} {zzl : Int} {zzm : Int} {w : World} {k : Value → World → Prop} (h : vers_Compare zzh zzi zzj zzk zzl zzm w fun r0 w'=>k (Value.int .i64 r0) w') : callS Tryz.prog 100 [(Value.agg #[(Value.int .i64 zzh), (Value.int .i64 zzi), (Value.int .i64 zzj)]), (Value.agg #[(Value.int .i64 zzk), (Value.int .i64 zzl), (Value.int .i64 zzm)])] w k := (vers_Compare.sound zzh zzi zzj zzk zzl zzm w _ h).mono (by rintro _ _ ⟨r0, rfl, h⟩; exact h)
def scan_Name (vs : ByteArray) (w : World) (R : Bool → World → Prop) : Prop :=
 callS Tryz.prog 141 [(Value.string vs), (Value.string (ByteArray.mk #[97, 98, 99, 100, 101, 102, 103, 104, 105, 106, 107, 108, 109, 110, 111, 112, 113, 114, 115, 116, 117, 118, 119, 120, 121, 122]))] w fun v vw=>∃ (t5 : ByteArray), v = (Value.string t5) ∧ bnd (!bEq vs (ByteArray.mk #[])) fun (b : Bool)=>bnd (b && (decide ((vs.size : Int) ≤ 16))) fun (b1 : Bool)=>bnd (b1 && (!bEq t5 vs)) fun (b2 : Bool)=>gCall b2 (fun (t20 : ByteArray) (vw3 : World)=>R (b2 && (bEq t20 (ByteArray.mk #[]))) vw3) (fun q=>callS Tryz.prog 142 [(Value.string t5), (Value.string (ByteArray.mk #[97, 98, 99, 100, 101, 102, 103, 104, 105, 106, 107, 108, 109, 110, 111, 112, 113, 114, 115, 116, 117, 118, 119, 120, 121, 122, 48, 49, 50, 51, 52, 53, 54, 55, 56, 57, 45]))] vw fun v4 vw3=>∃ (t20 : ByteArray), v4 = (Value.string t20) ∧ q t20 vw3) (fun q=>q (ByteArray.mk #[]) vw)
set_option maxHeartbeats 8000000 in
theorem scan_Name.sound (vs : ByteArray) (w : World) (R : Bool → World → Prop) (h : scan_Name vs w R) : callS Tryz.prog 104 [(Value.string vs)] w (fun v w'=>∃ (r0 : Bool), v = (Value.bool r0) ∧ R r0 w') := by
 unfold scan_Name at h
 refine calls_of_vc 23 rfl Tryz.func104 rfl (by kernel_rfl) (by simp) ?_
 refine Vc.seq ?_
 refine Vc.region ?_
 refine vcL_pure rfl rfl (Value.bool false) (fun w=>by kernel_rfl) ?_
 refine vcL_nil ?_
 refine Vc.seq ?_
 refine Vc.region ?_
 refine vcL_pure rfl rfl (Value.string vs) (fun w=>by kernel_rfl) ?_
 refine vcL_eff rfl (opVC_call rfl (by kernel_rfl) (callS.mono h fun v vw h=>?_))
 obtain ⟨t5, rfl, h⟩ := h
 refine vcL_pure rfl rfl (Value.string t5) (fun w=>by kernel_rfl) ?_
 refine vcL_nil ?_
 refine Vc.seq ?_
 refine Vc.region ?_
 refine vcL_purs 2 [(7, (Value.bool (!bEq vs (ByteArray.mk #[])))), (6, (Value.string vs))] (by kernel_rfl) ?_
 obtain ⟨b, hb⟩ : ∃ y, y = (!bEq vs (ByteArray.mk #[])) := ⟨_, rfl⟩
 have h := h b hb
 refine vcL_pure rfl rfl (Value.bool b) (fun w=>by rw [hb]; kernel_rfl) ?_
 refine vcL_guardP b (wanted_g (d := 8) rfl (by kernel_rfl) b (by kernel_rfl) b (eqT b)) rfl (Value.string vs) (fun hg w=>by subst hg; kernel_rfl) ?_
 refine vcL_guardP b (wanted_g (d := 8) rfl (by kernel_rfl) b (by kernel_rfl) b (eqT b)) rfl (Value.int .i64 (vs.size : Int)) (fun hg w=>by subst hg; kernel_rfl) ?_
 refine vcL_guardP b (wanted_g (d := 8) rfl (by kernel_rfl) b (by kernel_rfl) b (eqT b)) rfl (Value.bool (decide ((vs.size : Int) ≤ 16))) (fun hg w=>by subst hg; kernel_rfl) ?_
 refine vcL_pure rfl rfl (Value.bool (b && (decide ((vs.size : Int) ≤ 16)))) (fun w=>by cases b <;> kernel_rfl) ?_
 obtain ⟨b1, hb1⟩ : ∃ y, y = (b && (decide ((vs.size : Int) ≤ 16))) := ⟨_, rfl⟩
 have h := h b1 hb1
 refine vcL_pure rfl rfl (Value.bool b1) (fun w=>by rw [hb1]; kernel_rfl) ?_
 refine vcL_guardP b1 (wanted_g (d := 13) rfl (by kernel_rfl) b1 (by kernel_rfl) b1 (eqT b1)) rfl (Value.string t5) (fun hg w=>by subst hg; kernel_rfl) ?_
 refine vcL_guardP b1 (wanted_g (d := 13) rfl (by kernel_rfl) b1 (by kernel_rfl) b1 (eqT b1)) rfl (Value.string vs) (fun hg w=>by subst hg; kernel_rfl) ?_
 refine vcL_guardP b1 (wanted_g (d := 13) rfl (by kernel_rfl) b1 (by kernel_rfl) b1 (eqT b1)) rfl (Value.bool (!bEq t5 vs)) (fun hg w=>by subst hg; kernel_rfl) ?_
 refine vcL_pure rfl rfl (Value.bool (b1 && (!bEq t5 vs))) (fun w=>by cases b1 <;> kernel_rfl) ?_
 obtain ⟨b2, hb2⟩ : ∃ y, y = (b1 && (!bEq t5 vs)) := ⟨_, rfl⟩
 have h := h b2 hb2
 refine vcL_pure rfl rfl (Value.bool b2) (fun w=>by rw [hb2]; kernel_rfl) ?_
 refine vcL_guardP b2 (wanted_g (d := 18) rfl (by kernel_rfl) b2 (by kernel_rfl) b2 (eqT b2)) rfl (Value.string t5) (fun hg w=>by subst hg; kernel_rfl) ?_
 obtain ⟨vJ, hJ, h⟩ := gCall_elim h
 refine vcL_effJ (σ := ByteArray) b2 (wanted_g (d := 18) rfl (by kernel_rfl) b2 (by kernel_rfl) b2 (eqT b2)) rfl (fun s w=>vJ s w) (fun s=>(Value.string s)) ?_ (fun hg=>opVC_call rfl (by subst hg; kernel_rfl) (callS.mono (h.1 hg) fun v4 vw3 hq=>?_)) (fun hg=>⟨(ByteArray.mk #[]), h.2 hg⟩)
 ·intro t20 vw3 h
  subst hJ
  refine vcL_guardP b2 (wanted_g (d := 18) rfl (by kernel_rfl) b2 (by kernel_rfl) b2 (eqT b2)) rfl (Value.bool (bEq t20 (ByteArray.mk #[]))) (fun hg w=>by subst hg; kernel_rfl) ?_
  refine vcL_pure rfl rfl (Value.bool (b2 && (bEq t20 (ByteArray.mk #[])))) (fun w=>by cases b2 <;> kernel_rfl) ?_
  refine vcL_pure rfl rfl (Value.bool (b2 && (bEq t20 (ByteArray.mk #[])))) (fun w=>by kernel_rfl) ?_
  refine vcL_nil ?_
  refine Vc.ret ?_
  refine outs_ret ?_
  refine done_mk (Value.bool (b2 && (bEq t20 (ByteArray.mk #[])))) (res1 (resC_tmp (by kernel_rfl))) ?_
  exact ⟨(b2 && (bEq t20 (ByteArray.mk #[]))), rfl, h⟩
 ·obtain ⟨t20, rfl, hq⟩ := hq
  exact ⟨t20, rfl, hq⟩
theorem scan_Name.go {vs : ByteArray} {w : World} {k : Value → World → Prop} (h : scan_Name vs w fun r0 w'=>k (Value.bool r0) w') : callS Tryz.prog 104 [(Value.string vs)] w k := (scan_Name.sound vs w _ h).mono (by rintro _ _ ⟨r0, rfl, h⟩; exact h)
def pack_list (l : Sl) (w : World) (R : Bool → World → Prop) : Prop :=
 loop1 0 w fun t7 vw nxt=>((t7 < (l.len : Int) → ∃ (ad : Addr), (l.a = some ad ∧ (0 : Int) ≤ t7 ∧ t7 < (l.len : Int)) ∧ ∃ (zz3 : ByteArray) (zz4 : Sl), (ldc vw (ad.add (t7.toNat * 2)) [(Value.string zz3), (Sl.v zz4)]) ∧ newS vw [(Value.string (ByteArray.mk #[])), (Sl.v Sl.nil)] 81 fun a vw1=>stw vw1 a [(Value.string zz3), (Sl.v zz4)] fun vw2=>bnd vw2.drew fun (vw3 : World)=>∃ (t13 : ByteArray), (ldc vw3 a [(Value.string t13)]) ∧ callS Tryz.prog 104 [(Value.string t13)] vw3 fun v vw5=>∃ (t14 : Bool), v = (Value.bool t14) ∧ bnd (!t14) fun (b : Bool)=>∃ (t18 : Sl), grd (!b) (ldc vw5 (a.add 1) [(Sl.v t18)]) ∧ gCall (!b) (fun (t19 : Bool) (vw7 : World)=>bnd (b || (!t19)) fun (b10 : Bool)=>∃ (t24 : Sl), grd (!b10) (ldc vw7 (a.add 1) [(Sl.v t24)]) ∧ bnd (b10 || ((t24.len : Int) == 0)) fun (b12 : Bool)=>bnd (decide (0 < t7)) fun (b13 : Bool)=>∃ (ad14 : Addr), grd ((!b12) && b13) (l.a = some ad14 ∧ (0 : Int) ≤ (wrapI (t7 - 1)) ∧ (wrapI (t7 - 1)) < (l.len : Int)) ∧ ∃ (t37 : ByteArray), grd ((!b12) && b13) (ldc vw7 (ad14.add ((wrapI (t7 - 1)).toNat * 2)) [(Value.string t37)]) ∧ ∃ (t39 : ByteArray), grd ((!b12) && b13) (ldc vw7 a [(Value.string t39)]) ∧ (((b12 || (b13 && (!bLt t37 t39))) = true → R false vw7) ∧ ((b12 || (b13 && (!bLt t37 t39))) = false → nxt (wrapI (t7 + 1)) vw7))) (fun q=>callS Tryz.prog 91 [(Sl.v t18)] vw5 fun v8 vw7=>∃ (t19 : Bool), v8 = (Value.bool t19) ∧ q t19 vw7) (fun q=>q false vw5)) ∧ (¬ (t7 < (l.len : Int)) → R (decide ((l.len : Int) ≤ 16)) vw))
set_option maxHeartbeats 8000000 in
theorem pack_list.sound (l : Sl) (w : World) (R : Bool → World → Prop) (h : pack_list l w R) : callS Tryz.prog 105 [(Sl.v l)] w (fun v w'=>∃ (r0 : Bool), v = (Value.bool r0) ∧ R r0 w') := by
 unfold pack_list at h
 refine calls_of_vc 47 rfl Tryz.func105 rfl (by kernel_rfl) (by simp) ?_
 refine Vc.seq ?_
 refine Vc.region ?_
 refine vcL_pure rfl rfl (Value.bool false) (fun w=>by kernel_rfl) ?_
 refine vcL_nil ?_
 refine Vc.seq ?_
 refine Vc.seq ?_
 refine Vc.region ?_
 refine vcL_purs 3 [(7, (Value.int .i64 0)), (6, (Value.int .i64 (l.len : Int))), (5, (Sl.v l))] (by kernel_rfl) ?_
 refine vcL_nil ?_
 refine Vc.block ?_
 obtain ⟨vI, mu, h, hr⟩ := h
 refine Vc.loopJ (σ := Int) [7] [2, 3, 4, 8, 9, 10, 11, 12, 13, 14, 15, 16, 17, 18, 19, 20, 21, 22, 23, 24, 25, 26, 27, 28, 29, 30, 31, 32, 33, 34, 35, 36, 37, 38, 39, 40, 41, 42, 43] (fun s=>[(7, (Value.int .i64 s))]) (fun s w=>vI s w) (fun s w=>mu s w) 0 h (fun _ => rfl) (by kernel_rfl) ?_
 intro t7 vw j h
 have h := hr t7 vw h
 refine Vc.seq ?_
 refine Vc.region ?_
 refine vcL_pure rfl rfl (Value.bool (decide (t7 < (l.len : Int)))) (fun w=>by kernel_rfl) ?_
 refine vcL_nil ?_
 refine Vc.seq ?_
 refine Vc.cond (decide (t7 < (l.len : Int))) (by kernel_rfl) (fun hb=>?_) (fun hb=>?_)
 ·have h := h.1 (of_decide_eq_true hb)
  refine Vc.skip ?_
  refine Vc.seq ?_
  refine Vc.block ?_
  refine Vc.seq ?_
  refine Vc.region ?_
  refine vcL_pure rfl rfl (Value.int .i64 t7) (fun w=>by kernel_rfl) ?_
  obtain ⟨ad, hi, h⟩ := h
  refine vcL_pure rfl rfl (Value.pointer (some (ad.add (t7.toNat * 2)))) (fun w=>by exact exec_indexAt (s := l) (el := 81) rfl (by kernel_rfl) (by kernel_rfl) (by kernel_rfl) (fun w=>by kernel_rfl) (hi).1 (hi).2.1 (hi).2.2 w) ?_
  obtain ⟨zz3, zz4, hc, h⟩ := h
  refine vcL_val rfl rfl (Value.agg #[(Value.string zz3), (Sl.v zz4)]) (exec_load rfl (by kernel_rfl) (run_loadN (fun w=>by kernel_rfl) (fun w=>by kernel_rfl) ((hc)))) ?_
  refine vcL_eff rfl (opVC_new rfl (fun a=>Value.pointer (some a)) (by kernel_rfl) (newS.mono h fun a vw1 hx h=>?_))
  refine vcL_pure rfl rfl (Value.int .i64 t7) (fun w=>by kernel_rfl) ?_
  refine vcL_eff rfl (opVC_store rfl rfl (a := a) (by kernel_rfl) (v := (Value.agg #[(Value.string zz3), (Sl.v zz4)])) (by kernel_rfl) [(Value.string zz3), (Sl.v zz4)] (by kernel_rfl) (fun w=>by kernel_rfl) (by kernel_rfl) (stw.mono h fun vw2 h=>?_))
  refine vcL_nil ?_
  refine Vc.seq ?_
  obtain ⟨vw3, hvw3⟩ : ∃ y, y = vw2.drew := ⟨_, rfl⟩
  have h := h vw3 hvw3
  refine Vc.draw (by kernel_rfl) (fun i=>!(memN [2, 7] i)) (.pur 0 (.val 1 (.eff 2 (.pur 3 (.pur 4 (.pur 5 (.val 6 (.eff 7 (.pur 8 (.pur 9 (.pur 10 (.pur 11 (.val 12 (.pur 13 (.pur 14 (.pur 15 (.pur 16 (.pur 17 (.pur 18 (.pur 19 (.pur 20 (.pur 21 (.pur 22 (.pur 23 (.pur 24 (.val 25 (.pur 26 (.val 27 (.pur 28 (.pur 29 (.pur 30 .fin))))))))))))))))))))))) .stop))))) .stop))) (by kernel_rfl) ?_
  rw [← hvw3]
  clear hvw3
  refine vcS_pure rfl rfl rfl (Value.pointer (some a)) (fun w=>by kernel_rfl) ?_
  obtain ⟨t13, hc4, h⟩ := h
  refine vcS_val rfl rfl rfl (Value.string t13) (fun w' hx=>exec_load rfl (by kernel_rfl) (run_load1 (fun w=>by kernel_rfl) ((hc4).ext hx))) ?_
  refine vcS_eff rfl rfl (opVC_call rfl (by kernel_rfl) (callS.mono h fun v vw5 h=>?_)) vcS_stop
  obtain ⟨t14, rfl, h⟩ := h
  refine ⟨fun hb=>absurd hb (by decide), ?_⟩
  refine vcS_pure rfl rfl rfl (Value.bool (!t14)) (fun w=>by kernel_rfl) ?_
  obtain ⟨b, hb⟩ : ∃ y, y = (!t14) := ⟨_, rfl⟩
  have h := h b hb
  refine vcS_pure rfl rfl rfl (Value.bool b) (fun w=>by rw [hb]; kernel_rfl) ?_
  refine vcS_guard rfl (!b) (wanted_g (d := 16) rfl (by kernel_rfl) b (by kernel_rfl) (!b) (eqF b)) rfl (Value.pointer (some (a.add 1))) (fun hg w=>by simp only [Bool.and_eq_true, Bool.not_eq_true'] at hg; obtain rfl := hg; kernel_rfl) ?_
  obtain ⟨t18, hc6, h⟩ := h
  refine vcS_valG rfl (!b) (wanted_g (d := 16) rfl (by kernel_rfl) b (by kernel_rfl) (!b) (eqF b)) rfl (Sl.v t18) (fun hg w' hx=>by simp only [Bool.and_eq_true, Bool.not_eq_true'] at hg; obtain rfl := hg; exact exec_load rfl (by kernel_rfl) (run_load1 (fun w=>by kernel_rfl) ((hc6 rfl).ext hx))) ?_
  obtain ⟨vJ, hJ, h⟩ := gCall_elim h
  refine vcS_effJ (σ := Bool) rfl (!b) (wanted_g (d := 16) rfl (by kernel_rfl) b (by kernel_rfl) (!b) (eqF b)) rfl (fun s w=>vJ s w) (fun s=>(Value.bool s)) ?_ (fun hg=>opVC_call rfl (by simp only [Bool.and_eq_true, Bool.not_eq_true'] at hg; obtain rfl := hg; kernel_rfl) (callS.mono (h.1 hg) fun v8 vw7 hq=>?_)) (fun hg=>⟨false, h.2 hg⟩) vcS_stop
  ·intro t19 vw7 h
   subst hJ
   refine vcS_guard rfl (!b) (wanted_g (d := 16) rfl (by kernel_rfl) b (by kernel_rfl) (!b) (eqF b)) rfl (Value.bool (!t19)) (fun hg w=>by simp only [Bool.and_eq_true, Bool.not_eq_true'] at hg; obtain rfl := hg; kernel_rfl) ?_
   refine vcS_pure rfl rfl rfl (Value.bool (b || (!t19))) (fun w=>by cases b <;> kernel_rfl) ?_
   obtain ⟨b10, hb10⟩ : ∃ y, y = (b || (!t19)) := ⟨_, rfl⟩
   have h := h b10 hb10
   refine vcS_pure rfl rfl rfl (Value.bool b10) (fun w=>by rw [hb10]; kernel_rfl) ?_
   refine vcS_guard rfl (!b10) (wanted_g (d := 22) rfl (by kernel_rfl) b10 (by kernel_rfl) (!b10) (eqF b10)) rfl (Value.pointer (some (a.add 1))) (fun hg w=>by simp only [Bool.and_eq_true, Bool.not_eq_true'] at hg; obtain rfl := hg; kernel_rfl) ?_
   obtain ⟨t24, hc11, h⟩ := h
   refine vcS_valG rfl (!b10) (wanted_g (d := 22) rfl (by kernel_rfl) b10 (by kernel_rfl) (!b10) (eqF b10)) rfl (Sl.v t24) (fun hg w' hx=>by simp only [Bool.and_eq_true, Bool.not_eq_true'] at hg; obtain rfl := hg; exact exec_load rfl (by kernel_rfl) (run_load1 (fun w=>by kernel_rfl) ((hc11 rfl).ext hx))) ?_
   refine vcS_guard rfl (!b10) (wanted_g (d := 22) rfl (by kernel_rfl) b10 (by kernel_rfl) (!b10) (eqF b10)) rfl (Value.int .i64 (t24.len : Int)) (fun hg w=>by simp only [Bool.and_eq_true, Bool.not_eq_true'] at hg; obtain rfl := hg; kernel_rfl) ?_
   refine vcS_guard rfl (!b10) (wanted_g (d := 22) rfl (by kernel_rfl) b10 (by kernel_rfl) (!b10) (eqF b10)) rfl (Value.bool ((t24.len : Int) == 0)) (fun hg w=>by simp only [Bool.and_eq_true, Bool.not_eq_true'] at hg; obtain rfl := hg; kernel_rfl) ?_
   refine vcS_pure rfl rfl rfl (Value.bool (b10 || ((t24.len : Int) == 0))) (fun w=>by cases b10 <;> kernel_rfl) ?_
   obtain ⟨b12, hb12⟩ : ∃ y, y = (b10 || ((t24.len : Int) == 0)) := ⟨_, rfl⟩
   have h := h b12 hb12
   refine vcS_pure rfl rfl rfl (Value.bool b12) (fun w=>by rw [hb12]; kernel_rfl) ?_
   refine vcS_guard rfl (!b12) (wanted_g (d := 28) rfl (by kernel_rfl) b12 (by kernel_rfl) (!b12) (eqF b12)) rfl (Value.int .i64 t7) (fun hg w=>by simp only [Bool.and_eq_true, Bool.not_eq_true'] at hg; obtain rfl := hg; kernel_rfl) ?_
   refine vcS_guard rfl (!b12) (wanted_g (d := 28) rfl (by kernel_rfl) b12 (by kernel_rfl) (!b12) (eqF b12)) rfl (Value.bool (decide (0 < t7))) (fun hg w=>by simp only [Bool.and_eq_true, Bool.not_eq_true'] at hg; obtain rfl := hg; kernel_rfl) ?_
   obtain ⟨b13, hb13⟩ : ∃ y, y = (decide (0 < t7)) := ⟨_, rfl⟩
   have h := h b13 hb13
   refine vcS_guard rfl (!b12) (wanted_g (d := 28) rfl (by kernel_rfl) b12 (by kernel_rfl) (!b12) (eqF b12)) rfl (Value.bool b13) (fun hg w=>by simp only [Bool.and_eq_true, Bool.not_eq_true'] at hg; obtain rfl := hg; rw [hb13]; kernel_rfl) ?_
   refine vcS_guard rfl ((!b12) && b13) (wanted_gg (d := 31) rfl (by kernel_rfl) (!b12) b13 (by kernel_rfl) ((!b12) && b13) (eqTT (!b12) b13)) rfl (Sl.v l) (fun hg w=>by simp only [Bool.and_eq_true, Bool.not_eq_true'] at hg; obtain ⟨rfl, rfl⟩ := hg; kernel_rfl) ?_
   refine vcS_guard rfl ((!b12) && b13) (wanted_gg (d := 31) rfl (by kernel_rfl) (!b12) b13 (by kernel_rfl) ((!b12) && b13) (eqTT (!b12) b13)) rfl (Value.int .i64 t7) (fun hg w=>by simp only [Bool.and_eq_true, Bool.not_eq_true'] at hg; obtain ⟨rfl, rfl⟩ := hg; kernel_rfl) ?_
   refine vcS_guard rfl ((!b12) && b13) (wanted_gg (d := 31) rfl (by kernel_rfl) (!b12) b13 (by kernel_rfl) ((!b12) && b13) (eqTT (!b12) b13)) rfl (Value.int .i64 (wrapI (t7 - 1))) (fun hg w=>by simp only [Bool.and_eq_true, Bool.not_eq_true'] at hg; obtain ⟨rfl, rfl⟩ := hg; kernel_rfl) ?_
   obtain ⟨ad14, hi15, h⟩ := h
   refine vcS_guard rfl ((!b12) && b13) (wanted_gg (d := 31) rfl (by kernel_rfl) (!b12) b13 (by kernel_rfl) ((!b12) && b13) (eqTT (!b12) b13)) rfl (Value.pointer (some (ad14.add ((wrapI (t7 - 1)).toNat * 2)))) (fun hg w=>by simp only [Bool.and_eq_true, Bool.not_eq_true'] at hg; obtain ⟨rfl, rfl⟩ := hg; exact exec_indexAt (s := l) (el := 81) rfl (by kernel_rfl) (by kernel_rfl) (by kernel_rfl) (fun w=>by kernel_rfl) (hi15 rfl).1 (hi15 rfl).2.1 (hi15 rfl).2.2 w) ?_
   refine vcS_guard rfl ((!b12) && b13) (wanted_gg (d := 31) rfl (by kernel_rfl) (!b12) b13 (by kernel_rfl) ((!b12) && b13) (eqTT (!b12) b13)) rfl (Value.pointer (some (ad14.add ((wrapI (t7 - 1)).toNat * 2)))) (fun hg w=>by simp only [Bool.and_eq_true, Bool.not_eq_true'] at hg; obtain ⟨rfl, rfl⟩ := hg; kernel_rfl) ?_
   obtain ⟨t37, hc16, h⟩ := h
   refine vcS_valG rfl ((!b12) && b13) (wanted_gg (d := 31) rfl (by kernel_rfl) (!b12) b13 (by kernel_rfl) ((!b12) && b13) (eqTT (!b12) b13)) rfl (Value.string t37) (fun hg w' hx=>by simp only [Bool.and_eq_true, Bool.not_eq_true'] at hg; obtain ⟨rfl, rfl⟩ := hg; exact exec_load rfl (by kernel_rfl) (run_load1 (fun w=>by kernel_rfl) ((hc16 rfl).ext hx))) ?_
   refine vcS_guard rfl ((!b12) && b13) (wanted_gg (d := 31) rfl (by kernel_rfl) (!b12) b13 (by kernel_rfl) ((!b12) && b13) (eqTT (!b12) b13)) rfl (Value.pointer (some a)) (fun hg w=>by simp only [Bool.and_eq_true, Bool.not_eq_true'] at hg; obtain ⟨rfl, rfl⟩ := hg; kernel_rfl) ?_
   obtain ⟨t39, hc17, h⟩ := h
   refine vcS_valG rfl ((!b12) && b13) (wanted_gg (d := 31) rfl (by kernel_rfl) (!b12) b13 (by kernel_rfl) ((!b12) && b13) (eqTT (!b12) b13)) rfl (Value.string t39) (fun hg w' hx=>by simp only [Bool.and_eq_true, Bool.not_eq_true'] at hg; obtain ⟨rfl, rfl⟩ := hg; exact exec_load rfl (by kernel_rfl) (run_load1 (fun w=>by kernel_rfl) ((hc17 rfl).ext hx))) ?_
   refine vcS_guard rfl ((!b12) && b13) (wanted_gg (d := 31) rfl (by kernel_rfl) (!b12) b13 (by kernel_rfl) ((!b12) && b13) (eqTT (!b12) b13)) rfl (Value.bool (!bLt t37 t39)) (fun hg w=>by simp only [Bool.and_eq_true, Bool.not_eq_true'] at hg; obtain ⟨rfl, rfl⟩ := hg; kernel_rfl) ?_
   refine vcS_guard rfl (!b12) (wanted_g (d := 28) rfl (by kernel_rfl) b12 (by kernel_rfl) (!b12) (eqF b12)) rfl (Value.bool (b13 && (!bLt t37 t39))) (fun hg w=>by simp only [Bool.and_eq_true, Bool.not_eq_true'] at hg; obtain rfl := hg; cases b13 <;> kernel_rfl) ?_
   refine vcS_pure rfl rfl rfl (Value.bool (b12 || (b13 && (!bLt t37 t39)))) (fun w=>by cases b12 <;> kernel_rfl) ?_
   refine vcS_fin ?_
   refine Vc.cond (b12 || (b13 && (!bLt t37 t39))) (by kernel_rfl) (fun hb=>?_) (fun hb=>?_)
   ·have h := h.1 (hb)
    refine Vc.seq ?_
    refine Vc.region ?_
    refine vcL_pure rfl rfl (Value.bool false) (fun w=>by kernel_rfl) ?_
    refine vcL_nil ?_
    refine Vc.ret ?_
    refine outOf_ret ?_
    refine outOf_ret ?_
    refine outs_ret ?_
    refine done_mk (Value.bool false) (res1 (resC_tmp (by kernel_rfl))) ?_
    exact ⟨false, rfl, h⟩
   ·have h := h.2 (hb)
    refine Vc.skip ?_
    refine Vc.region ?_
    refine vcL_purs 2 [(7, (Value.int .i64 (wrapI (t7 + 1)))), (43, (Value.int .i64 (wrapI (t7 + 1))))] (by kernel_rfl) ?_
    refine vcL_nil ?_
    exact ⟨(wrapI (t7 + 1)), 79, ⟨rfl, by kernel_rfl, by kernel_rfl, by kernel_rfl⟩, h⟩
  ·obtain ⟨t19, rfl, hq⟩ := hq
   exact ⟨fun hb=>absurd hb (by decide), t19, rfl, hq⟩
 ·have h := h.2 (of_decide_eq_false hb)
  refine Vc.exit ?_
  refine outOf_hit ?_
  refine Vc.seq ?_
  refine Vc.region ?_
  refine vcL_purs 4 [(2, (Value.bool (decide ((l.len : Int) ≤ 16)))), (46, (Value.bool (decide ((l.len : Int) ≤ 16)))), (45, (Value.int .i64 (l.len : Int))), (44, (Sl.v l))] (by kernel_rfl) ?_
  refine vcL_nil ?_
  refine Vc.ret ?_
  refine outs_ret ?_
  refine done_mk (Value.bool (decide ((l.len : Int) ≤ 16))) (res1 (resC_tmp (by kernel_rfl))) ?_
  exact ⟨(decide ((l.len : Int) ≤ 16)), rfl, h⟩
theorem pack_list.go {l : Sl} {w : World} {k : Value → World → Prop} (h : pack_list l w fun r0 w'=>k (Value.bool r0) w') : callS Tryz.prog 105 [(Sl.v l)] w k := (pack_list.sound l w _ h).mono (by rintro _ _ ⟨r0, rfl, h⟩; exact h)
def pack_apart (lists : Sl) (w : World) (R : Bool → World → Prop) : Prop :=
 semS Tryz.prog (Instr.makeMap 178 none) w fun v vw=>∃ (t8 : Option Nat), v = (Value.map t8) ∧ loop1 0 vw fun t11 vw1 nxt=>((t11 < (lists.len : Int) → ∃ (ad : Addr), (lists.a = some ad ∧ (0 : Int) ≤ t11 ∧ t11 < (lists.len : Int)) ∧ ∃ (t14 : Sl), (ldc vw1 (ad.add (t11.toNat * 1)) [(Sl.v t14)]) ∧ loop1 0 vw1 fun t17 vw2 nxt3=>((t17 < (t14.len : Int) → ∃ (ad4 : Addr), (t14.a = some ad4 ∧ (0 : Int) ≤ t17 ∧ t17 < (t14.len : Int)) ∧ ∃ (zz1s : ByteArray) (zz1t : Sl), (ldc vw2 (ad4.add (t17.toNat * 2)) [(Value.string zz1s), (Sl.v zz1t)]) ∧ newS vw2 [(Value.string (ByteArray.mk #[])), (Sl.v Sl.nil)] 81 fun a vw7=>stw vw7 a [(Value.string zz1s), (Sl.v zz1t)] fun vw8=>∃ (t23 : ByteArray), (ldc vw8 a [(Value.string t23)]) ∧ semS Tryz.prog (Instr.lookup 178 (Value.map t8) (Value.string t23) false) vw8 fun v11 vw10=>∃ (t24 : Int), v11 = (Value.int .i64 t24) ∧ semU Tryz.prog (Instr.mapUpdate 178 (Value.map t8) (Value.string t23) (Value.int .i64 (wrapI (t24 + 1)))) vw10 fun vw12=>∃ (t28 : ByteArray), (ldc vw12 a [(Value.string t28)]) ∧ semS Tryz.prog (Instr.lookup 178 (Value.map t8) (Value.string t28) false) vw12 fun v15 vw14=>∃ (t29 : Int), v15 = (Value.int .i64 t29) ∧ ((1 < t29 → R false vw14) ∧ (¬ (1 < t29) → nxt3 (wrapI (t17 + 1)) vw14))) ∧ (¬ (t17 < (t14.len : Int)) → nxt (wrapI (t11 + 1)) vw2))) ∧ (¬ (t11 < (lists.len : Int)) → R true vw1))
set_option maxHeartbeats 8000000 in
theorem pack_apart.sound (lists : Sl) (w : World) (R : Bool → World → Prop) (h : pack_apart lists w R) : callS Tryz.prog 106 [(Sl.v lists)] w (fun v w'=>∃ (r0 : Bool), v = (Value.bool r0) ∧ R r0 w') := by
 unfold pack_apart at h
 refine calls_of_vc 33 rfl Tryz.func106 rfl (by kernel_rfl) (by simp) ?_
 refine Vc.seq ?_
 refine Vc.region ?_
 refine vcL_pure rfl rfl (Value.bool false) (fun w=>by kernel_rfl) ?_
 refine vcL_nil ?_
 refine Vc.seq ?_
 refine Vc.region ?_
 refine vcL_eff rfl (opVC_sem rfl (c := Instr.makeMap 178 none) (by kernel_rfl) (semS.mono h fun v vw h=>?_))
 obtain ⟨t8, rfl, h⟩ := h
 refine vcL_pure rfl rfl (Value.map t8) (fun w=>by kernel_rfl) ?_
 refine vcL_nil ?_
 refine Vc.seq ?_
 refine Vc.seq ?_
 refine Vc.region ?_
 refine vcL_purs 3 [(11, (Value.int .i64 0)), (10, (Value.int .i64 (lists.len : Int))), (9, (Sl.v lists))] (by kernel_rfl) ?_
 refine vcL_nil ?_
 refine Vc.block ?_
 obtain ⟨vI16, mu17, h, hr18⟩ := h
 refine Vc.loopJ (σ := Int) [11] [2, 5, 7, 12, 13, 14, 15, 16, 17, 18, 19, 20, 21, 22, 23, 24, 25, 26, 27, 28, 29, 30, 31, 32] (fun s=>[(11, (Value.int .i64 s))]) (fun s w=>vI16 s w) (fun s w=>mu17 s w) 0 h (fun _ => rfl) (by kernel_rfl) ?_
 intro t11 vw1 j h
 have h := hr18 t11 vw1 h
 refine Vc.seq ?_
 refine Vc.region ?_
 refine vcL_pure rfl rfl (Value.bool (decide (t11 < (lists.len : Int)))) (fun w=>by kernel_rfl) ?_
 refine vcL_nil ?_
 refine Vc.seq ?_
 refine Vc.cond (decide (t11 < (lists.len : Int))) (by kernel_rfl) (fun hb=>?_) (fun hb=>?_)
 ·have h := h.1 (of_decide_eq_true hb)
  refine Vc.skip ?_
  refine Vc.seq ?_
  refine Vc.block ?_
  refine Vc.seq ?_
  refine Vc.region ?_
  obtain ⟨ad, hi, h⟩ := h
  refine vcL_pure rfl rfl (Value.pointer (some (ad.add (t11.toNat * 1)))) (fun w=>by exact exec_indexAt (s := lists) (el := 23) rfl (by kernel_rfl) (by kernel_rfl) (by kernel_rfl) (fun w=>by kernel_rfl) (hi).1 (hi).2.1 (hi).2.2 w) ?_
  obtain ⟨t14, hc, h⟩ := h
  refine vcL_val rfl rfl (Sl.v t14) (exec_load rfl (by kernel_rfl) (run_load1 (fun w=>by kernel_rfl) ((hc)))) ?_
  refine vcL_pure rfl rfl (Sl.v t14) (fun w=>by kernel_rfl) ?_
  refine vcL_nil ?_
  refine Vc.seq ?_
  refine Vc.region ?_
  refine vcL_purs 3 [(17, (Value.int .i64 0)), (16, (Value.int .i64 (t14.len : Int))), (15, (Sl.v t14))] (by kernel_rfl) ?_
  refine vcL_nil ?_
  refine Vc.block ?_
  obtain ⟨vI, mu, h, hr⟩ := h
  refine Vc.loopJ (σ := Int) [17] [2, 7, 18, 19, 20, 21, 22, 23, 24, 25, 26, 27, 28, 29, 30, 31] (fun s=>[(17, (Value.int .i64 s))]) (fun s w=>vI s w) (fun s w=>mu s w) 0 h (fun _ => rfl) (by kernel_rfl) ?_
  intro t17 vw2 j h
  have h := hr t17 vw2 h
  refine Vc.seq ?_
  refine Vc.region ?_
  refine vcL_pure rfl rfl (Value.bool (decide (t17 < (t14.len : Int)))) (fun w=>by kernel_rfl) ?_
  refine vcL_nil ?_
  refine Vc.seq ?_
  refine Vc.cond (decide (t17 < (t14.len : Int))) (by kernel_rfl) (fun hb=>?_) (fun hb=>?_)
  ·have h := h.1 (of_decide_eq_true hb)
   refine Vc.skip ?_
   refine Vc.seq ?_
   refine Vc.block ?_
   refine Vc.seq ?_
   refine Vc.region ?_
   obtain ⟨ad4, hi5, h⟩ := h
   refine vcL_pure rfl rfl (Value.pointer (some (ad4.add (t17.toNat * 2)))) (fun w=>by exact exec_indexAt (s := t14) (el := 81) rfl (by kernel_rfl) (by kernel_rfl) (by kernel_rfl) (fun w=>by kernel_rfl) (hi5).1 (hi5).2.1 (hi5).2.2 w) ?_
   obtain ⟨zz1s, zz1t, hc6, h⟩ := h
   refine vcL_val rfl rfl (Value.agg #[(Value.string zz1s), (Sl.v zz1t)]) (exec_load rfl (by kernel_rfl) (run_loadN (fun w=>by kernel_rfl) (fun w=>by kernel_rfl) ((hc6)))) ?_
   refine vcL_eff rfl (opVC_new rfl (fun a=>Value.pointer (some a)) (by kernel_rfl) (newS.mono h fun a vw7 hx h=>?_))
   refine vcL_eff rfl (opVC_store rfl rfl (a := a) (by kernel_rfl) (v := (Value.agg #[(Value.string zz1s), (Sl.v zz1t)])) (by kernel_rfl) [(Value.string zz1s), (Sl.v zz1t)] (by kernel_rfl) (fun w=>by kernel_rfl) (by kernel_rfl) (stw.mono h fun vw8 h=>?_))
   refine vcL_nil ?_
   refine Vc.seq ?_
   refine Vc.region ?_
   refine vcL_purs 2 [(22, (Value.pointer (some a))), (21, (Value.map t8))] (by kernel_rfl) ?_
   obtain ⟨t23, hc9, h⟩ := h
   refine vcL_val rfl rfl (Value.string t23) (exec_load rfl (by kernel_rfl) (run_load1 (fun w=>by kernel_rfl) ((hc9)))) ?_
   refine vcL_eff rfl (opVC_sem rfl (c := Instr.lookup 178 (Value.map t8) (Value.string t23) false) (by kernel_rfl) (semS.mono h fun v11 vw10 h=>?_))
   obtain ⟨t24, rfl, h⟩ := h
   refine vcL_pure rfl rfl (Value.int .i64 (wrapI (t24 + 1))) (fun w=>by kernel_rfl) ?_
   refine vcL_eff rfl (opVC_semU rfl (c := Instr.mapUpdate 178 (Value.map t8) (Value.string t23) (Value.int .i64 (wrapI (t24 + 1)))) (by kernel_rfl) (semU.mono h fun vw12 h=>?_))
   refine vcL_nil ?_
   refine Vc.seq ?_
   refine Vc.region ?_
   refine vcL_purs 2 [(27, (Value.pointer (some a))), (26, (Value.map t8))] (by kernel_rfl) ?_
   obtain ⟨t28, hc13, h⟩ := h
   refine vcL_val rfl rfl (Value.string t28) (exec_load rfl (by kernel_rfl) (run_load1 (fun w=>by kernel_rfl) ((hc13)))) ?_
   refine vcL_eff rfl (opVC_sem rfl (c := Instr.lookup 178 (Value.map t8) (Value.string t28) false) (by kernel_rfl) (semS.mono h fun v15 vw14 h=>?_))
   obtain ⟨t29, rfl, h⟩ := h
   refine vcL_pure rfl rfl (Value.bool (decide (1 < t29))) (fun w=>by kernel_rfl) ?_
   refine vcL_nil ?_
   refine Vc.cond (decide (1 < t29)) (by kernel_rfl) (fun hb=>?_) (fun hb=>?_)
   ·have h := h.1 (of_decide_eq_true hb)
    refine Vc.seq ?_
    refine Vc.region ?_
    refine vcL_pure rfl rfl (Value.bool false) (fun w=>by kernel_rfl) ?_
    refine vcL_nil ?_
    refine Vc.ret ?_
    refine outOf_ret ?_
    refine outOf_ret ?_
    refine outOf_ret ?_
    refine outOf_ret ?_
    refine outs_ret ?_
    refine done_mk (Value.bool false) (res1 (resC_tmp (by kernel_rfl))) ?_
    exact ⟨false, rfl, h⟩
   ·have h := h.2 (of_decide_eq_false hb)
    refine Vc.skip ?_
    refine Vc.region ?_
    refine vcL_purs 2 [(17, (Value.int .i64 (wrapI (t17 + 1)))), (31, (Value.int .i64 (wrapI (t17 + 1))))] (by kernel_rfl) ?_
    refine vcL_nil ?_
    exact ⟨(wrapI (t17 + 1)), 33, ⟨rfl, by kernel_rfl, by kernel_rfl, by kernel_rfl⟩, h⟩
  ·have h := h.2 (of_decide_eq_false hb)
   refine Vc.exit ?_
   refine outOf_hit ?_
   refine Vc.region ?_
   refine vcL_purs 2 [(11, (Value.int .i64 (wrapI (t11 + 1)))), (32, (Value.int .i64 (wrapI (t11 + 1))))] (by kernel_rfl) ?_
   refine vcL_nil ?_
   exact ⟨(wrapI (t11 + 1)), 52, ⟨rfl, by kernel_rfl, by kernel_rfl, by kernel_rfl⟩, h⟩
 ·have h := h.2 (of_decide_eq_false hb)
  refine Vc.exit ?_
  refine outOf_hit ?_
  refine Vc.seq ?_
  refine Vc.region ?_
  refine vcL_pure rfl rfl (Value.bool true) (fun w=>by kernel_rfl) ?_
  refine vcL_nil ?_
  refine Vc.ret ?_
  refine outs_ret ?_
  refine done_mk (Value.bool true) (res1 (resC_tmp (by kernel_rfl))) ?_
  exact ⟨true, rfl, h⟩
theorem pack_apart.go {lists : Sl} {w : World} {k : Value → World → Prop} (h : pack_apart lists w fun r0 w'=>k (Value.bool r0) w') : callS Tryz.prog 106 [(Sl.v lists)] w k := (pack_apart.sound lists w _ h).mono (by rintro _ _ ⟨r0, rfl, h⟩; exact h)
def pack_text (zzo : ByteArray) (zzr : Int) (zzs : Int) (zzt : Int) (zzn : Sl) (zzq : Sl) (zzp : Sl) (w : World) (R : ByteArray → World → Prop) : Prop :=
 newS w [(Value.string zzo), (Value.int .i64 zzr), (Value.int .i64 zzs), (Value.int .i64 zzt), (Sl.v zzn), (Sl.v zzq), (Sl.v zzp)] 48 fun a vw=>newS vw [(Value.pointer none), (Sl.v Sl.nil)] 182 fun a1 vw2=>bnd vw2.drew fun (vw3 : World)=>∃ (t5 : ByteArray), (ldc vw3 a [(Value.string t5)]) ∧ ((((ByteArray.mk #[112, 97, 99, 107, 97, 103, 101, 32]).size + t5.size : Nat) : Int) ≤ maxI) ∧ (((((ByteArray.mk #[112, 97, 99, 107, 97, 103, 101, 32]) ++ t5).size + (ByteArray.mk #[32]).size : Nat) : Int) ≤ maxI) ∧ ∃ (zz3o : Int) (zz3p : Int) (zz3q : Int), (ldc vw3 (a.add 1) [(Value.int .i64 zz3o), (Value.int .i64 zz3p), (Value.int .i64 zz3q)]) ∧ callX Tryz.prog 144 [(Value.agg #[(Value.int .i64 zz3o), (Value.int .i64 zz3p), (Value.int .i64 zz3q)])] vw3 fun v vw6=>∃ (t10 : ByteArray), v = (Value.string t10) ∧ ((((((ByteArray.mk #[112, 97, 99, 107, 97, 103, 101, 32]) ++ t5) ++ (ByteArray.mk #[32])).size + t10.size : Nat) : Int) ≤ maxI) ∧ (((((((ByteArray.mk #[112, 97, 99, 107, 97, 103, 101, 32]) ++ t5) ++ (ByteArray.mk #[32])) ++ t10).size + (ByteArray.mk #[10]).size : Nat) : Int) ≤ maxI) ∧ callS Tryz.prog 143 [(Value.pointer (some a1)), (Value.string (((((ByteArray.mk #[112, 97, 99, 107, 97, 103, 101, 32]) ++ t5) ++ (ByteArray.mk #[32])) ++ t10) ++ (ByteArray.mk #[10])))] vw6 fun v10 vw9=>∃ (t13 : Int) (t13b : Value), v10 = (Value.tuple #[(Value.int .i64 t13), t13b]) ∧ ∃ (t15 : Sl), (ldc vw9 (a.add 4) [(Sl.v t15)]) ∧ callS Tryz.prog 145 [(Value.pointer (some a1)), (Value.string (ByteArray.mk #[110, 101, 101, 100, 115])), (Sl.v t15)] vw9 fun v14 vw13=>v14 = (Value.tuple #[]) ∧ ∃ (t18 : Sl), (ldc vw13 (a.add 5) [(Sl.v t18)]) ∧ callS Tryz.prog 145 [(Value.pointer (some a1)), (Value.string (ByteArray.mk #[98, 101, 115, 105, 100, 101])), (Sl.v t18)] vw13 fun v18 vw17=>v18 = (Value.tuple #[]) ∧ ∃ (t21 : Sl), (ldc vw17 (a.add 6) [(Sl.v t21)]) ∧ callS Tryz.prog 145 [(Value.pointer (some a1)), (Value.string (ByteArray.mk #[108, 105, 107, 101, 115])), (Sl.v t21)] vw17 fun v22 vw21=>v22 = (Value.tuple #[]) ∧ callS Tryz.prog 146 [(Value.pointer (some a1))] vw21 fun v25 vw24=>∃ (t23 : ByteArray), v25 = (Value.string t23) ∧ R t23 vw24
set_option maxHeartbeats 8000000 in
theorem pack_text.sound (zzo : ByteArray) (zzr : Int) (zzs : Int) (zzt : Int) (zzn : Sl) (zzq : Sl) (zzp : Sl) (w : World) (R : ByteArray → World → Prop) (h : pack_text zzo zzr zzs zzt zzn zzq zzp w R) : callS Tryz.prog 107 [(Value.agg #[(Value.string zzo), (Value.int .i64 zzr), (Value.int .i64 zzs), (Value.int .i64 zzt), (Sl.v zzn), (Sl.v zzq), (Sl.v zzp)])] w (fun v w'=>∃ (r0 : ByteArray), v = (Value.string r0) ∧ R r0 w') := by
 unfold pack_text at h
 refine calls_of_vc 24 rfl Tryz.func107 rfl (by kernel_rfl) (by simp) ?_
 refine Vc.seq ?_
 refine Vc.region ?_
 refine vcL_eff rfl (opVC_new rfl (fun a=>Value.pointer (some a)) (by kernel_rfl) (newS.mono h fun a vw hx h=>?_))
 refine vcL_pure rfl rfl (Value.string (ByteArray.mk #[])) (fun w=>by kernel_rfl) ?_
 refine vcL_nil ?_
 refine Vc.seq ?_
 refine Vc.region ?_
 refine vcL_eff rfl (opVC_new rfl (fun a=>Value.pointer (some a)) (by kernel_rfl) (newS.mono h fun a1 vw2 hx h=>?_))
 refine vcL_nil ?_
 refine Vc.seq ?_
 obtain ⟨vw3, hvw3⟩ : ∃ y, y = vw2.drew := ⟨_, rfl⟩
 have h := h vw3 hvw3
 refine Vc.draw (by kernel_rfl) (fun i=>!(memN [9] i)) (.pur 0 (.val 1 (.pur 2 (.pur 3 (.pur 4 (.val 5 (.eff 6 (.pur 7 (.pur 8 (.eff 9 .fin .stop))) .stop))))))) (by kernel_rfl) ?_
 rw [← hvw3]
 clear hvw3
 refine vcS_pure rfl rfl rfl (Value.pointer (some a)) (fun w=>by kernel_rfl) ?_
 obtain ⟨t5, hc, h⟩ := h
 refine vcS_val rfl rfl rfl (Value.string t5) (fun w' hx=>exec_load rfl (by kernel_rfl) (run_load1 (fun w=>by kernel_rfl) ((hc).ext hx))) ?_
 obtain ⟨hi, h⟩ := h
 refine vcS_pure rfl rfl rfl (Value.string ((ByteArray.mk #[112, 97, 99, 107, 97, 103, 101, 32]) ++ t5)) (fun w=>by exact exec_str_add (a := (ByteArray.mk #[112, 97, 99, 107, 97, 103, 101, 32])) (b := t5) rfl (by kernel_rfl) (by kernel_rfl) (hi) w) ?_
 obtain ⟨hi4, h⟩ := h
 refine vcS_pure rfl rfl rfl (Value.string (((ByteArray.mk #[112, 97, 99, 107, 97, 103, 101, 32]) ++ t5) ++ (ByteArray.mk #[32]))) (fun w=>by exact exec_str_add (a := ((ByteArray.mk #[112, 97, 99, 107, 97, 103, 101, 32]) ++ t5)) (b := (ByteArray.mk #[32])) rfl (by kernel_rfl) (by kernel_rfl) (hi4) w) ?_
 refine vcS_pure rfl rfl rfl (Value.pointer (some (a.add 1))) (fun w=>by kernel_rfl) ?_
 obtain ⟨zz3o, zz3p, zz3q, hc5, h⟩ := h
 refine vcS_val rfl rfl rfl (Value.agg #[(Value.int .i64 zz3o), (Value.int .i64 zz3p), (Value.int .i64 zz3q)]) (fun w' hx=>exec_load rfl (by kernel_rfl) (run_loadN (fun w=>by kernel_rfl) (fun w=>by kernel_rfl) ((hc5).ext hx))) ?_
 refine vcS_eff rfl rfl (opVC_call rfl (by kernel_rfl) (callS.mono h fun v vw6 h=>?_)) vcS_stop
 obtain ⟨hx, h⟩ := h
 obtain ⟨t10, rfl, h⟩ := h
 refine ⟨fun _ => hx, ?_⟩
 obtain ⟨hi7, h⟩ := h
 refine vcS_pure rfl rfl rfl (Value.string ((((ByteArray.mk #[112, 97, 99, 107, 97, 103, 101, 32]) ++ t5) ++ (ByteArray.mk #[32])) ++ t10)) (fun w=>by exact exec_str_add (a := (((ByteArray.mk #[112, 97, 99, 107, 97, 103, 101, 32]) ++ t5) ++ (ByteArray.mk #[32]))) (b := t10) rfl (by kernel_rfl) (by kernel_rfl) (hi7) w) ?_
 obtain ⟨hi8, h⟩ := h
 refine vcS_pure rfl rfl rfl (Value.string (((((ByteArray.mk #[112, 97, 99, 107, 97, 103, 101, 32]) ++ t5) ++ (ByteArray.mk #[32])) ++ t10) ++ (ByteArray.mk #[10]))) (fun w=>by exact exec_str_add (a := ((((ByteArray.mk #[112, 97, 99, 107, 97, 103, 101, 32]) ++ t5) ++ (ByteArray.mk #[32])) ++ t10)) (b := (ByteArray.mk #[10])) rfl (by kernel_rfl) (by kernel_rfl) (hi8) w) ?_
 refine vcS_eff rfl rfl (opVC_call rfl (by kernel_rfl) (callS.mono h fun v10 vw9 h=>?_)) vcS_stop
 obtain ⟨t13, t13b, rfl, h⟩ := h
 refine ⟨fun hb=>absurd hb (by decide), ?_⟩
 refine vcS_fin ?_
 refine Vc.seq ?_
 refine Vc.region ?_
 refine vcL_pure rfl rfl (Value.pointer (some (a.add 4))) (fun w=>by kernel_rfl) ?_
 obtain ⟨t15, hc12, h⟩ := h
 refine vcL_val rfl rfl (Sl.v t15) (exec_load rfl (by kernel_rfl) (run_load1 (fun w=>by kernel_rfl) ((hc12)))) ?_
 refine vcL_eff rfl (opVC_call rfl (by kernel_rfl) (callS.mono h fun v14 vw13 h=>?_))
 obtain ⟨rfl, h⟩ := h
 refine vcL_nil ?_
 refine Vc.seq ?_
 refine Vc.region ?_
 refine vcL_pure rfl rfl (Value.pointer (some (a.add 5))) (fun w=>by kernel_rfl) ?_
 obtain ⟨t18, hc16, h⟩ := h
 refine vcL_val rfl rfl (Sl.v t18) (exec_load rfl (by kernel_rfl) (run_load1 (fun w=>by kernel_rfl) ((hc16)))) ?_
 refine vcL_eff rfl (opVC_call rfl (by kernel_rfl) (callS.mono h fun v18 vw17 h=>?_))
 obtain ⟨rfl, h⟩ := h
 refine vcL_nil ?_
 refine Vc.seq ?_
 refine Vc.region ?_
 refine vcL_pure rfl rfl (Value.pointer (some (a.add 6))) (fun w=>by kernel_rfl) ?_
 obtain ⟨t21, hc20, h⟩ := h
 refine vcL_val rfl rfl (Sl.v t21) (exec_load rfl (by kernel_rfl) (run_load1 (fun w=>by kernel_rfl) ((hc20)))) ?_
 refine vcL_eff rfl (opVC_call rfl (by kernel_rfl) (callS.mono h fun v22 vw21 h=>?_))
 obtain ⟨rfl, h⟩ := h
 refine vcL_nil ?_
 refine Vc.seq ?_
 refine Vc.region ?_
 refine vcL_eff rfl (opVC_call rfl (by kernel_rfl) (callS.mono h fun v25 vw24 h=>?_))
 obtain ⟨t23, rfl, h⟩ := h
 refine vcL_pure rfl rfl (Value.string t23) (fun w=>by kernel_rfl) ?_
 refine vcL_nil ?_
 refine Vc.ret ?_
 refine outs_ret ?_
 refine done_mk (Value.string t23) (res1 (resC_tmp (by kernel_rfl))) ?_
 exact ⟨t23, rfl, h⟩
theorem pack_text.go {zzo : ByteArray} {zzr : Int} {zzs : Int} {zzt : Int} {zzn : Sl} {zzq : Sl} {zzp : Sl} {w : World} {k : Value → World → Prop} (h : pack_text zzo zzr zzs zzt zzn zzq zzp w fun r0 w'=>k (Value.string r0) w') : callS Tryz.prog 107 [(Value.agg #[(Value.string zzo), (Value.int .i64 zzr), (Value.int .i64 zzs), (Value.int .i64 zzt), (Sl.v zzn), (Sl.v zzq), (Sl.v zzp)])] w k := (pack_text.sound zzo zzr zzs zzt zzn zzq zzp w _ h).mono (by rintro _ _ ⟨r0, rfl, h⟩; exact h)
def catalog_own (l : Sl) (w : World) (R : Sl → World → Prop) : Prop :=
 loop2 Sl.nil 0 w fun out t8 vw nxt=>((t8 < (l.len : Int) → ∃ (ad : Addr), (l.a = some ad ∧ (0 : Int) ≤ t8 ∧ t8 < (l.len : Int)) ∧ ∃ (zz3 : ByteArray) (zz4 : Sl), (ldc vw (ad.add (t8.toNat * 2)) [(Value.string zz3), (Sl.v zz4)]) ∧ newS vw [(Value.string (ByteArray.mk #[])), (Sl.v Sl.nil)] 81 fun a vw1=>stw vw1 a [(Value.string zz3), (Sl.v zz4)] fun vw2=>bnd vw2.drew fun (vw3 : World)=>∃ (t14 : ByteArray), (ldc vw3 a [(Value.string t14)]) ∧ ∃ (t16 : Sl), (ldc vw3 (a.add 1) [(Sl.v t16)]) ∧ callX Tryz.prog 90 [(Sl.v t16)] vw3 fun v vw6=>∃ (t17 : Sl), v = (Sl.v t17) ∧ newS vw6 [(Value.string t14), (Sl.v t17)] 81 fun a7 vw8=>appS Tryz.prog 23 23 out (Sl.v (Sl.mk (some a7) 1 1)) vw8 fun t20 vw9=>nxt t20 (wrapI (t8 + 1)) vw9) ∧ (¬ (t8 < (l.len : Int)) → R out vw))
set_option maxHeartbeats 8000000 in
theorem catalog_own.sound (l : Sl) (w : World) (R : Sl → World → Prop) (h : catalog_own l w R) : callS Tryz.prog 108 [(Sl.v l)] w (fun v w'=>∃ (r0 : Sl), v = (Sl.v r0) ∧ R r0 w') := by
 unfold catalog_own at h
 refine calls_of_vc 23 rfl Tryz.func108 rfl (by kernel_rfl) (by simp) ?_
 refine Vc.seq ?_
 refine Vc.region ?_
 refine vcL_pure rfl rfl (Sl.v Sl.nil) (fun w=>by kernel_rfl) ?_
 refine vcL_nil ?_
 refine Vc.seq ?_
 refine Vc.region ?_
 refine vcL_pure rfl rfl (Sl.v Sl.nil) (fun w=>by kernel_rfl) ?_
 refine vcL_nil ?_
 refine Vc.seq ?_
 refine Vc.seq ?_
 refine Vc.region ?_
 refine vcL_purs 3 [(8, (Value.int .i64 0)), (7, (Value.int .i64 (l.len : Int))), (6, (Sl.v l))] (by kernel_rfl) ?_
 refine vcL_nil ?_
 refine Vc.block ?_
 obtain ⟨vI, mu, h, hr⟩ := h
 refine Vc.loopJ (σ := Sl × Int) [3, 8] [5, 9, 10, 11, 12, 13, 14, 15, 16, 17, 18, 19, 20, 21] (fun s=>[(3, (Sl.v s.1)), (8, (Value.int .i64 s.2))]) (fun s w=>vI s.1 s.2 w) (fun s w=>mu s.1 s.2 w) (Sl.nil, 0) h (fun _ => rfl) (by kernel_rfl) ?_
 rintro ⟨out, t8⟩ vw j h
 have h := hr out t8 vw h
 refine Vc.seq ?_
 refine Vc.region ?_
 refine vcL_pure rfl rfl (Value.bool (decide (t8 < (l.len : Int)))) (fun w=>by kernel_rfl) ?_
 refine vcL_nil ?_
 refine Vc.seq ?_
 refine Vc.cond (decide (t8 < (l.len : Int))) (by kernel_rfl) (fun hb=>?_) (fun hb=>?_)
 ·have h := h.1 (of_decide_eq_true hb)
  refine Vc.skip ?_
  refine Vc.seq ?_
  refine Vc.block ?_
  refine Vc.seq ?_
  refine Vc.region ?_
  obtain ⟨ad, hi, h⟩ := h
  refine vcL_pure rfl rfl (Value.pointer (some (ad.add (t8.toNat * 2)))) (fun w=>by exact exec_indexAt (s := l) (el := 81) rfl (by kernel_rfl) (by kernel_rfl) (by kernel_rfl) (fun w=>by kernel_rfl) (hi).1 (hi).2.1 (hi).2.2 w) ?_
  obtain ⟨zz3, zz4, hc, h⟩ := h
  refine vcL_val rfl rfl (Value.agg #[(Value.string zz3), (Sl.v zz4)]) (exec_load rfl (by kernel_rfl) (run_loadN (fun w=>by kernel_rfl) (fun w=>by kernel_rfl) ((hc)))) ?_
  refine vcL_eff rfl (opVC_new rfl (fun a=>Value.pointer (some a)) (by kernel_rfl) (newS.mono h fun a vw1 hx h=>?_))
  refine vcL_eff rfl (opVC_store rfl rfl (a := a) (by kernel_rfl) (v := (Value.agg #[(Value.string zz3), (Sl.v zz4)])) (by kernel_rfl) [(Value.string zz3), (Sl.v zz4)] (by kernel_rfl) (fun w=>by kernel_rfl) (by kernel_rfl) (stw.mono h fun vw2 h=>?_))
  refine vcL_nil ?_
  obtain ⟨vw3, hvw3⟩ : ∃ y, y = vw2.drew := ⟨_, rfl⟩
  have h := h vw3 hvw3
  refine Vc.draw (by kernel_rfl) (fun i=>!(memN [7, 8] i)) (.pur 0 (.pur 1 (.val 2 (.pur 3 (.val 4 (.eff 5 (.pur 6 (.eff 7 (.eff 8 (.pur 9 .fin) .stop) .stop)) .stop)))))) (by kernel_rfl) ?_
  rw [← hvw3]
  clear hvw3
  refine vcS_pure rfl rfl rfl (Sl.v out) (fun w=>by kernel_rfl) ?_
  refine vcS_pure rfl rfl rfl (Value.pointer (some a)) (fun w=>by kernel_rfl) ?_
  obtain ⟨t14, hc4, h⟩ := h
  refine vcS_val rfl rfl rfl (Value.string t14) (fun w' hx=>exec_load rfl (by kernel_rfl) (run_load1 (fun w=>by kernel_rfl) ((hc4).ext hx))) ?_
  refine vcS_pure rfl rfl rfl (Value.pointer (some (a.add 1))) (fun w=>by kernel_rfl) ?_
  obtain ⟨t16, hc5, h⟩ := h
  refine vcS_val rfl rfl rfl (Sl.v t16) (fun w' hx=>exec_load rfl (by kernel_rfl) (run_load1 (fun w=>by kernel_rfl) ((hc5).ext hx))) ?_
  refine vcS_eff rfl rfl (opVC_call rfl (by kernel_rfl) (callS.mono h fun v vw6 h=>?_)) vcS_stop
  obtain ⟨hx, h⟩ := h
  obtain ⟨t17, rfl, h⟩ := h
  refine ⟨fun _ => hx, ?_⟩
  refine vcS_pure rfl rfl rfl (Value.agg #[(Value.string t14), (Sl.v t17)]) (fun w=>by kernel_rfl) ?_
  refine vcS_eff rfl rfl (opVC_new rfl (fun a=>Value.slice (some a) 1 1) (by kernel_rfl) (newS.mono h fun a7 vw8 hx h=>?_)) vcS_stop
  refine ⟨fun hb=>absurd hb (by decide), ?_⟩
  refine vcS_eff rfl rfl (opVC_sem rfl (c := Builtin.append_ #[23, 23] 23 #[(Sl.v out), (Sl.v (Sl.mk (some a7) 1 1))]) (by kernel_rfl) (appS.elim (ty := 23) h fun t20 vw9 h=>?_)) vcS_stop
  refine ⟨fun hb=>absurd hb (by decide), ?_⟩
  refine vcS_pure rfl rfl rfl (Sl.v t20) (fun w=>by kernel_rfl) ?_
  refine vcS_fin ?_
  refine Vc.region ?_
  refine vcL_purs 2 [(8, (Value.int .i64 (wrapI (t8 + 1)))), (21, (Value.int .i64 (wrapI (t8 + 1))))] (by kernel_rfl) ?_
  refine vcL_nil ?_
  exact ⟨(t20, (wrapI (t8 + 1))), 32, ⟨rfl, by kernel_rfl, by kernel_rfl, by kernel_rfl⟩, h⟩
 ·have h := h.2 (of_decide_eq_false hb)
  refine Vc.exit ?_
  refine outOf_hit ?_
  refine Vc.seq ?_
  refine Vc.region ?_
  refine vcL_purs 2 [(2, (Sl.v out)), (22, (Sl.v out))] (by kernel_rfl) ?_
  refine vcL_nil ?_
  refine Vc.ret ?_
  refine outs_ret ?_
  refine done_mk (Sl.v out) (res1 (resC_tmp (by kernel_rfl))) ?_
  exact ⟨out, rfl, h⟩
theorem catalog_own.go {l : Sl} {w : World} {k : Value → World → Prop} (h : catalog_own l w fun r0 w'=>k (Sl.v r0) w') : callS Tryz.prog 108 [(Sl.v l)] w k := (catalog_own.sound l w _ h).mono (by rintro _ _ ⟨r0, rfl, h⟩; exact h)
def slices_IndexFunc_apiVersionapiVersion (vs : Sl) (f : Value) (w : World) (R : Int → World → Prop) : Prop :=
 loop1 0 w fun t8 vw nxt=>((t8 < (vs.len : Int) → ∃ (ad : Addr), (vs.a = some ad ∧ (0 : Int) ≤ t8 ∧ t8 < (vs.len : Int)) ∧ ∃ (zz2c : Int) (zz2d : Int) (zz2e : Int), (ldc vw (ad.add (t8.toNat * 3)) [(Value.int .i64 zz2c), (Value.int .i64 zz2d), (Value.int .i64 zz2e)]) ∧ callV Tryz.prog f [(Value.agg #[(Value.int .i64 zz2c), (Value.int .i64 zz2d), (Value.int .i64 zz2e)])] vw fun v vw1=>∃ (t16 : Bool), v = (Value.bool t16) ∧ ((t16 = true → R t8 vw1) ∧ (t16 = false → nxt (wrapI (t8 + 1)) vw1))) ∧ (¬ (t8 < (vs.len : Int)) → R (-1) vw))
set_option maxHeartbeats 8000000 in
theorem slices_IndexFunc_apiVersionapiVersion.sound (vs : Sl) (f : Value) (w : World) (R : Int → World → Prop) (h : slices_IndexFunc_apiVersionapiVersion vs f w R) : callS Tryz.prog 110 [(Sl.v vs), f] w (fun v w'=>∃ (r0 : Int), v = (Value.int .i64 r0) ∧ R r0 w') := by
 unfold slices_IndexFunc_apiVersionapiVersion at h
 refine calls_of_vc 19 rfl Tryz.func110 rfl (by kernel_rfl) (by simp) ?_
 refine Vc.seq ?_
 refine Vc.region ?_
 refine vcL_pure rfl rfl (Value.int .i64 0) (fun w=>by kernel_rfl) ?_
 refine vcL_nil ?_
 refine Vc.seq ?_
 refine Vc.seq ?_
 refine Vc.region ?_
 refine vcL_purs 3 [(8, (Value.int .i64 0)), (7, (Value.int .i64 (vs.len : Int))), (6, (Sl.v vs))] (by kernel_rfl) ?_
 refine vcL_nil ?_
 refine Vc.block ?_
 obtain ⟨vI, mu, h, hr⟩ := h
 refine Vc.loopJ (σ := Int) [8] [4, 5, 9, 10, 11, 12, 13, 14, 15, 16, 17, 18] (fun s=>[(8, (Value.int .i64 s))]) (fun s w=>vI s w) (fun s w=>mu s w) 0 h (fun _ => rfl) (by kernel_rfl) ?_
 intro t8 vw j h
 have h := hr t8 vw h
 refine Vc.seq ?_
 refine Vc.region ?_
 refine vcL_pure rfl rfl (Value.bool (decide (t8 < (vs.len : Int)))) (fun w=>by kernel_rfl) ?_
 refine vcL_nil ?_
 refine Vc.seq ?_
 refine Vc.cond (decide (t8 < (vs.len : Int))) (by kernel_rfl) (fun hb=>?_) (fun hb=>?_)
 ·have h := h.1 (of_decide_eq_true hb)
  refine Vc.skip ?_
  refine Vc.seq ?_
  refine Vc.block ?_
  refine Vc.seq ?_
  refine Vc.region ?_
  refine vcL_purs 2 [(5, (Value.int .i64 t8)), (10, (Value.int .i64 t8))] (by kernel_rfl) ?_
  refine vcL_nil ?_
  refine Vc.seq ?_
  refine Vc.region ?_
  refine vcL_purs 3 [(13, (Value.int .i64 t8)), (12, (Sl.v vs)), (11, f)] (by kernel_rfl) ?_
  obtain ⟨ad, hi, h⟩ := h
  refine vcL_pure rfl rfl (Value.pointer (some (ad.add (t8.toNat * 3)))) (fun w=>by exact exec_indexAt (s := vs) (el := 30) rfl (by kernel_rfl) (by kernel_rfl) (by kernel_rfl) (fun w=>by kernel_rfl) (hi).1 (hi).2.1 (hi).2.2 w) ?_
  obtain ⟨zz2c, zz2d, zz2e, hc, h⟩ := h
  refine vcL_val rfl rfl (Value.agg #[(Value.int .i64 zz2c), (Value.int .i64 zz2d), (Value.int .i64 zz2e)]) (exec_load rfl (by kernel_rfl) (run_loadN (fun w=>by kernel_rfl) (fun w=>by kernel_rfl) ((hc)))) ?_
  refine vcL_eff rfl (opVC_callV rfl rfl (fv := f) (by kernel_rfl) (args := [(Value.agg #[(Value.int .i64 zz2c), (Value.int .i64 zz2d), (Value.int .i64 zz2e)])]) (by kernel_rfl) (callV.mono h fun v vw1 h=>?_))
  obtain ⟨t16, rfl, h⟩ := h
  refine vcL_nil ?_
  refine Vc.cond t16 (by kernel_rfl) (fun hb=>?_) (fun hb=>?_)
  ·have h := h.1 (hb)
   refine Vc.seq ?_
   refine Vc.region ?_
   refine vcL_purs 2 [(4, (Value.int .i64 t8)), (17, (Value.int .i64 t8))] (by kernel_rfl) ?_
   refine vcL_nil ?_
   refine Vc.ret ?_
   refine outOf_ret ?_
   refine outOf_ret ?_
   refine outs_ret ?_
   refine done_mk (Value.int .i64 t8) (res1 (resC_tmp (by kernel_rfl))) ?_
   exact ⟨t8, rfl, h⟩
  ·have h := h.2 (hb)
   refine Vc.skip ?_
   refine Vc.region ?_
   refine vcL_purs 2 [(8, (Value.int .i64 (wrapI (t8 + 1)))), (18, (Value.int .i64 (wrapI (t8 + 1))))] (by kernel_rfl) ?_
   refine vcL_nil ?_
   exact ⟨(wrapI (t8 + 1)), 24, ⟨rfl, by kernel_rfl, by kernel_rfl, by kernel_rfl⟩, h⟩
 ·have h := h.2 (of_decide_eq_false hb)
  refine Vc.exit ?_
  refine outOf_hit ?_
  refine Vc.seq ?_
  refine Vc.region ?_
  refine vcL_pure rfl rfl (Value.int .i64 (-1)) (fun w=>by kernel_rfl) ?_
  refine vcL_nil ?_
  refine Vc.ret ?_
  refine outs_ret ?_
  refine done_mk (Value.int .i64 (-1)) (res1 (resC_tmp (by kernel_rfl))) ?_
  exact ⟨(-1), rfl, h⟩
theorem slices_IndexFunc_apiVersionapiVersion.go {vs : Sl} {f : Value} {w : World} {k : Value → World → Prop} (h : slices_IndexFunc_apiVersionapiVersion vs f w fun r0 w'=>k (Value.int .i64 r0) w') : callS Tryz.prog 110 [(Sl.v vs), f] w k := (slices_IndexFunc_apiVersionapiVersion.sound vs f w _ h).mono (by rintro _ _ ⟨r0, rfl, h⟩; exact h)
def slices_stableCmpFunc_apiVersion (data : Sl) (n : Int) (cmp : Value) (w : World) (R : World → Prop) : Prop :=
 loop2 0 20 w fun a b vw nxt=>((b ≤ n → callS Tryz.prog 147 [(Sl.v data), (Value.int .i64 a), (Value.int .i64 b), cmp] vw fun v vw1=>v = (Value.tuple #[]) ∧ nxt b (wrapI (b + 20)) vw1) ∧ (¬ (b ≤ n) → callS Tryz.prog 147 [(Sl.v data), (Value.int .i64 a), (Value.int .i64 n), cmp] vw fun v3 vw2=>v3 = (Value.tuple #[]) ∧ loop1 20 vw2 fun blockSize vw5 nxt6=>((blockSize < n → loop2 0 (wrapI (2 * blockSize)) vw5 fun a7 b8 vw9 nxt10=>((b8 ≤ n → callS Tryz.prog 155 [(Sl.v data), (Value.int .i64 a7), (Value.int .i64 (wrapI (a7 + blockSize))), (Value.int .i64 b8), cmp] vw9 fun v12 vw11=>v12 = (Value.tuple #[]) ∧ nxt10 b8 (wrapI (b8 + (wrapI (2 * blockSize)))) vw11) ∧ (¬ (b8 ≤ n) → join (fun (vw14 : World)=>nxt6 (wrapI (blockSize * 2)) vw14) fun vJ=>(((wrapI (a7 + blockSize)) < n → callS Tryz.prog 155 [(Sl.v data), (Value.int .i64 a7), (Value.int .i64 (wrapI (a7 + blockSize))), (Value.int .i64 n), cmp] vw9 fun v16 vw15=>v16 = (Value.tuple #[]) ∧ vJ vw15) ∧ (¬ ((wrapI (a7 + blockSize)) < n) → vJ vw9))))) ∧ (¬ (blockSize < n) → R vw5))))
set_option maxHeartbeats 8000000 in
theorem slices_stableCmpFunc_apiVersion.sound (data : Sl) (n : Int) (cmp : Value) (w : World) (R : World → Prop) (h : slices_stableCmpFunc_apiVersion data n cmp w R) : callS Tryz.prog 111 [(Sl.v data), (Value.int .i64 n), cmp] w (fun v w'=>v = (Value.tuple #[]) ∧ R w') := by
 unfold slices_stableCmpFunc_apiVersion at h
 refine calls_of_vc 63 rfl Tryz.func111 rfl (by kernel_rfl) (by simp) ?_
 refine Vc.seq ?_
 refine Vc.region ?_
 refine vcL_pure rfl rfl (Value.int .i64 20) (fun w=>by kernel_rfl) ?_
 refine vcL_nil ?_
 refine Vc.seq ?_
 refine Vc.region ?_
 refine vcL_purs 3 [(8, (Value.int .i64 20)), (7, (Value.int .i64 0)), (10, (Value.int .i64 20))] (by kernel_rfl) ?_
 refine vcL_nil ?_
 refine Vc.seq ?_
 refine Vc.block ?_
 obtain ⟨vI21, mu22, h, hr23⟩ := h
 refine Vc.loopJ (σ := Int × Int) [7, 8] [11, 12, 13, 14, 15, 16, 17, 18, 19, 20, 21, 22] (fun s=>[(7, (Value.int .i64 s.1)), (8, (Value.int .i64 s.2))]) (fun s w=>vI21 s.1 s.2 w) (fun s w=>mu22 s.1 s.2 w) (0, 20) h (fun _ => rfl) (by kernel_rfl) ?_
 rintro ⟨a, b⟩ vw j h
 have h := hr23 a b vw h
 refine Vc.seq ?_
 refine Vc.seq ?_
 refine Vc.region ?_
 refine vcL_purs 3 [(13, (Value.bool (decide (b ≤ n)))), (12, (Value.int .i64 n)), (11, (Value.int .i64 b))] (by kernel_rfl) ?_
 refine vcL_nil ?_
 refine Vc.cond (decide (b ≤ n)) (by kernel_rfl) (fun hb=>?_) (fun hb=>?_)
 ·have h := h.1 (of_decide_eq_true hb)
  refine Vc.skip ?_
  refine Vc.block ?_
  refine Vc.seq ?_
  refine Vc.region ?_
  refine vcL_purs 4 [(17, cmp), (16, (Value.int .i64 b)), (15, (Value.int .i64 a)), (14, (Sl.v data))] (by kernel_rfl) ?_
  refine vcL_eff rfl (opVC_call rfl (by kernel_rfl) (callS.mono h fun v vw1 h=>?_))
  obtain ⟨rfl, h⟩ := h
  refine vcL_nil ?_
  refine Vc.seq ?_
  refine Vc.region ?_
  refine vcL_purs 2 [(7, (Value.int .i64 b)), (19, (Value.int .i64 b))] (by kernel_rfl) ?_
  refine vcL_nil ?_
  refine Vc.region ?_
  refine vcL_purs 4 [(8, (Value.int .i64 (wrapI (b + 20)))), (22, (Value.int .i64 (wrapI (b + 20)))), (21, (Value.int .i64 20)), (20, (Value.int .i64 b))] (by kernel_rfl) ?_
  refine vcL_nil ?_
  exact ⟨(b, (wrapI (b + 20))), 28, ⟨rfl, by kernel_rfl, by kernel_rfl, by kernel_rfl⟩, h⟩
 ·have h := h.2 (of_decide_eq_false hb)
  refine Vc.exit ?_
  refine outOf_hit ?_
  refine Vc.seq ?_
  refine Vc.region ?_
  refine vcL_purs 4 [(26, cmp), (25, (Value.int .i64 n)), (24, (Value.int .i64 a)), (23, (Sl.v data))] (by kernel_rfl) ?_
  refine vcL_eff rfl (opVC_call rfl (by kernel_rfl) (callS.mono h fun v3 vw2 h=>?_))
  obtain ⟨rfl, h⟩ := h
  refine vcL_nil ?_
  refine Vc.block ?_
  obtain ⟨vI18, mu19, h, hr20⟩ := h
  refine Vc.loopJ (σ := Int) [6] [7, 8, 9, 28, 29, 30, 31, 32, 33, 34, 35, 36, 37, 38, 39, 40, 41, 42, 43, 44, 45, 46, 47, 48, 49, 50, 51, 52, 53, 54, 55, 56, 57, 58, 59, 60, 61, 62] (fun s=>[(6, (Value.int .i64 s))]) (fun s w=>vI18 s w) (fun s w=>mu19 s w) 20 h (fun _ => rfl) (by kernel_rfl) ?_
  intro blockSize vw5 j h
  have h := hr20 blockSize vw5 h
  refine Vc.seq ?_
  refine Vc.seq ?_
  refine Vc.region ?_
  refine vcL_purs 3 [(30, (Value.bool (decide (blockSize < n)))), (29, (Value.int .i64 n)), (28, (Value.int .i64 blockSize))] (by kernel_rfl) ?_
  refine vcL_nil ?_
  refine Vc.cond (decide (blockSize < n)) (by kernel_rfl) (fun hb=>?_) (fun hb=>?_)
  ·have h := h.1 (of_decide_eq_true hb)
   refine Vc.skip ?_
   refine Vc.block ?_
   refine Vc.seq ?_
   refine Vc.region ?_
   refine vcL_purs 4 [(8, (Value.int .i64 (wrapI (2 * blockSize)))), (7, (Value.int .i64 0)), (32, (Value.int .i64 (wrapI (2 * blockSize)))), (31, (Value.int .i64 blockSize))] (by kernel_rfl) ?_
   refine vcL_nil ?_
   refine Vc.seq ?_
   refine Vc.block ?_
   obtain ⟨vI, mu, h, hr⟩ := h
   refine Vc.loopJ (σ := Int × Int) [7, 8] [33, 34, 35, 36, 37, 38, 39, 40, 41, 42, 43, 44, 45, 46, 47, 48] (fun s=>[(7, (Value.int .i64 s.1)), (8, (Value.int .i64 s.2))]) (fun s w=>vI s.1 s.2 w) (fun s w=>mu s.1 s.2 w) (0, (wrapI (2 * blockSize))) h (fun _ => rfl) (by kernel_rfl) ?_
   rintro ⟨a7, b8⟩ vw9 j h
   have h := hr a7 b8 vw9 h
   refine Vc.seq ?_
   refine Vc.seq ?_
   refine Vc.region ?_
   refine vcL_purs 3 [(35, (Value.bool (decide (b8 ≤ n)))), (34, (Value.int .i64 n)), (33, (Value.int .i64 b8))] (by kernel_rfl) ?_
   refine vcL_nil ?_
   refine Vc.cond (decide (b8 ≤ n)) (by kernel_rfl) (fun hb=>?_) (fun hb=>?_)
   ·have h := h.1 (of_decide_eq_true hb)
    refine Vc.skip ?_
    refine Vc.block ?_
    refine Vc.seq ?_
    refine Vc.region ?_
    refine vcL_purs 7 [(42, cmp), (41, (Value.int .i64 b8)), (40, (Value.int .i64 (wrapI (a7 + blockSize)))), (39, (Value.int .i64 blockSize)), (38, (Value.int .i64 a7)), (37, (Value.int .i64 a7)), (36, (Sl.v data))] (by kernel_rfl) ?_
    refine vcL_eff rfl (opVC_call rfl (by kernel_rfl) (callS.mono h fun v12 vw11 h=>?_))
    obtain ⟨rfl, h⟩ := h
    refine vcL_nil ?_
    refine Vc.seq ?_
    refine Vc.region ?_
    refine vcL_purs 2 [(7, (Value.int .i64 b8)), (44, (Value.int .i64 b8))] (by kernel_rfl) ?_
    refine vcL_nil ?_
    refine Vc.region ?_
    refine vcL_purs 5 [(8, (Value.int .i64 (wrapI (b8 + (wrapI (2 * blockSize)))))), (48, (Value.int .i64 (wrapI (b8 + (wrapI (2 * blockSize)))))), (47, (Value.int .i64 (wrapI (2 * blockSize)))), (46, (Value.int .i64 blockSize)), (45, (Value.int .i64 b8))] (by kernel_rfl) ?_
    refine vcL_nil ?_
    exact ⟨(b8, (wrapI (b8 + (wrapI (2 * blockSize))))), 36, ⟨rfl, by kernel_rfl, by kernel_rfl, by kernel_rfl⟩, h⟩
   ·have h := h.2 (of_decide_eq_false hb)
    refine Vc.exit ?_
    refine outOf_hit ?_
    obtain ⟨vJ, hJ, h⟩ := join_elim h
    refine Vc.seqJ (σ := Unit) [] [9, 49, 50, 51, 52, 53, 54, 55, 56, 57, 58, 59, 60] (fun s=>[]) (fun s w=>vJ w) (fun _ => rfl) ?_ ?_
    ·refine Vc.seq ?_
     refine Vc.region ?_
     refine vcL_purs 4 [(9, (Value.int .i64 (wrapI (a7 + blockSize)))), (51, (Value.int .i64 (wrapI (a7 + blockSize)))), (50, (Value.int .i64 blockSize)), (49, (Value.int .i64 a7))] (by kernel_rfl) ?_
     refine vcL_nil ?_
     refine Vc.seq ?_
     refine Vc.region ?_
     refine vcL_purs 3 [(54, (Value.bool (decide ((wrapI (a7 + blockSize)) < n)))), (53, (Value.int .i64 n)), (52, (Value.int .i64 (wrapI (a7 + blockSize))))] (by kernel_rfl) ?_
     refine vcL_nil ?_
     refine Vc.cond (decide ((wrapI (a7 + blockSize)) < n)) (by kernel_rfl) (fun hb=>?_) (fun hb=>?_)
     ·have h := h.1 (of_decide_eq_true hb)
      refine Vc.region ?_
      refine vcL_purs 5 [(59, cmp), (58, (Value.int .i64 n)), (57, (Value.int .i64 (wrapI (a7 + blockSize)))), (56, (Value.int .i64 a7)), (55, (Sl.v data))] (by kernel_rfl) ?_
      refine vcL_eff rfl (opVC_call rfl (by kernel_rfl) (callS.mono h fun v16 vw15 h=>?_))
      obtain ⟨rfl, h⟩ := h
      refine vcL_nil ?_
      exact ⟨(), 13, ⟨rfl, by kernel_rfl, by kernel_rfl, by kernel_rfl⟩, h⟩
     ·have h := h.2 (of_decide_eq_false hb)
      refine Vc.skip ?_
      exact ⟨(), 7, ⟨rfl, by kernel_rfl, by kernel_rfl, by kernel_rfl⟩, h⟩
    ·intro s vw14 j h
     subst hJ
     refine Vc.region ?_
     refine vcL_purs 3 [(6, (Value.int .i64 (wrapI (blockSize * 2)))), (62, (Value.int .i64 (wrapI (blockSize * 2)))), (61, (Value.int .i64 blockSize))] (by kernel_rfl) ?_
     refine vcL_nil ?_
     exact ⟨(wrapI (blockSize * 2)), 83, ⟨rfl, by kernel_rfl, by kernel_rfl, by kernel_rfl⟩, h⟩
  ·have h := h.2 (of_decide_eq_false hb)
   refine Vc.exit ?_
   refine outOf_hit ?_
   refine done_mk (Value.tuple #[]) (res0 ) ?_
   exact ⟨rfl, h⟩
theorem slices_stableCmpFunc_apiVersion.go {data : Sl} {n : Int} {cmp : Value} {w : World} {k : Value → World → Prop} (h : slices_stableCmpFunc_apiVersion data n cmp w fun  w'=>k (Value.tuple #[]) w') : callS Tryz.prog 111 [(Sl.v data), (Value.int .i64 n), cmp] w k := (slices_stableCmpFunc_apiVersion.sound data n cmp w _ h).mono (by rintro _ _ ⟨rfl, h⟩; exact h)
def slices_Index_apiPinapiPin (vs : Sl) (zz11 : ByteArray) (zz12 : Int) (zz13 : Int) (zz14 : Int) (w : World) (R : Int → World → Prop) : Prop :=
 newS w [(Value.string zz11), (Value.int .i64 zz12), (Value.int .i64 zz13), (Value.int .i64 zz14)] 32 fun a vw=>loop1 0 vw fun t8 vw1 nxt=>((t8 < (vs.len : Int) → bnd vw1.drew fun (vw2 : World)=>∃ (zz3 : ByteArray) (zzu : Int) (zzv : Int) (zzw : Int), (ldc vw2 a [(Value.string zz3), (Value.int .i64 zzu), (Value.int .i64 zzv), (Value.int .i64 zzw)]) ∧ ∃ (ad : Addr), (vs.a = some ad ∧ (0 : Int) ≤ t8 ∧ t8 < (vs.len : Int)) ∧ ∃ (zzx : ByteArray) (zzy : Int) (zzz : Int) (zz10 : Int), (ldc vw2 (ad.add (t8.toNat * 4)) [(Value.string zzx), (Value.int .i64 zzy), (Value.int .i64 zzz), (Value.int .i64 zz10)]) ∧ ((((bEq zz3 zzx) && (((zzu == zzy) && ((zzv == zzz) && ((zzw == zz10) && true))) && true)) = true → R t8 vw2) ∧ (((bEq zz3 zzx) && (((zzu == zzy) && ((zzv == zzz) && ((zzw == zz10) && true))) && true)) = false → nxt (wrapI (t8 + 1)) vw2))) ∧ (¬ (t8 < (vs.len : Int)) → R (-1) vw1))
set_option maxHeartbeats 8000000 in
theorem slices_Index_apiPinapiPin.sound (vs : Sl) (zz11 : ByteArray) (zz12 : Int) (zz13 : Int) (zz14 : Int) (w : World) (R : Int → World → Prop) (h : slices_Index_apiPinapiPin vs zz11 zz12 zz13 zz14 w R) : callS Tryz.prog 112 [(Sl.v vs), (Value.agg #[(Value.string zz11), (Value.int .i64 zz12), (Value.int .i64 zz13), (Value.int .i64 zz14)])] w (fun v w'=>∃ (r0 : Int), v = (Value.int .i64 r0) ∧ R r0 w') := by
 unfold slices_Index_apiPinapiPin at h
 refine calls_of_vc 19 rfl Tryz.func112 rfl (by kernel_rfl) (by simp) ?_
 refine Vc.seq ?_
 refine Vc.region ?_
 refine vcL_eff rfl (opVC_new rfl (fun a=>Value.pointer (some a)) (by kernel_rfl) (newS.mono h fun a vw hx h=>?_))
 refine vcL_pure rfl rfl (Value.int .i64 0) (fun w=>by kernel_rfl) ?_
 refine vcL_nil ?_
 refine Vc.seq ?_
 refine Vc.seq ?_
 refine Vc.region ?_
 refine vcL_purs 3 [(8, (Value.int .i64 0)), (7, (Value.int .i64 (vs.len : Int))), (6, (Sl.v vs))] (by kernel_rfl) ?_
 refine vcL_nil ?_
 refine Vc.block ?_
 obtain ⟨vI, mu, h, hr⟩ := h
 refine Vc.loopJ (σ := Int) [8] [4, 5, 9, 10, 11, 12, 13, 14, 15, 16, 17, 18] (fun s=>[(8, (Value.int .i64 s))]) (fun s w=>vI s w) (fun s w=>mu s w) 0 h (fun _ => rfl) (by kernel_rfl) ?_
 intro t8 vw1 j h
 have h := hr t8 vw1 h
 refine Vc.seq ?_
 refine Vc.region ?_
 refine vcL_pure rfl rfl (Value.bool (decide (t8 < (vs.len : Int)))) (fun w=>by kernel_rfl) ?_
 refine vcL_nil ?_
 refine Vc.seq ?_
 refine Vc.cond (decide (t8 < (vs.len : Int))) (by kernel_rfl) (fun hb=>?_) (fun hb=>?_)
 ·have h := h.1 (of_decide_eq_true hb)
  refine Vc.skip ?_
  refine Vc.seq ?_
  refine Vc.block ?_
  refine Vc.seq ?_
  refine Vc.region ?_
  refine vcL_purs 2 [(5, (Value.int .i64 t8)), (10, (Value.int .i64 t8))] (by kernel_rfl) ?_
  refine vcL_nil ?_
  refine Vc.seq ?_
  obtain ⟨vw2, hvw2⟩ : ∃ y, y = vw1.drew := ⟨_, rfl⟩
  have h := h vw2 hvw2
  refine Vc.draw (by kernel_rfl) (fun i=>!(memN [] i)) (.val 0 (.pur 1 (.pur 2 (.pur 3 (.val 4 (.pur 5 .fin)))))) (by kernel_rfl) ?_
  rw [← hvw2]
  clear hvw2
  obtain ⟨zz3, zzu, zzv, zzw, hc, h⟩ := h
  refine vcS_val rfl rfl rfl (Value.agg #[(Value.string zz3), (Value.int .i64 zzu), (Value.int .i64 zzv), (Value.int .i64 zzw)]) (fun w' hx=>exec_load rfl (by kernel_rfl) (run_loadN (fun w=>by kernel_rfl) (fun w=>by kernel_rfl) ((hc).ext hx))) ?_
  refine vcS_pure rfl rfl rfl (Sl.v vs) (fun w=>by kernel_rfl) ?_
  refine vcS_pure rfl rfl rfl (Value.int .i64 t8) (fun w=>by kernel_rfl) ?_
  obtain ⟨ad, hi, h⟩ := h
  refine vcS_pure rfl rfl rfl (Value.pointer (some (ad.add (t8.toNat * 4)))) (fun w=>by exact exec_indexAt (s := vs) (el := 32) rfl (by kernel_rfl) (by kernel_rfl) (by kernel_rfl) (fun w=>by kernel_rfl) (hi).1 (hi).2.1 (hi).2.2 w) ?_
  obtain ⟨zzx, zzy, zzz, zz10, hc3, h⟩ := h
  refine vcS_val rfl rfl rfl (Value.agg #[(Value.string zzx), (Value.int .i64 zzy), (Value.int .i64 zzz), (Value.int .i64 zz10)]) (fun w' hx=>exec_load rfl (by kernel_rfl) (run_loadN (fun w=>by kernel_rfl) (fun w=>by kernel_rfl) ((hc3).ext hx))) ?_
  refine vcS_pure rfl rfl rfl (Value.bool ((bEq zz3 zzx) && (((zzu == zzy) && ((zzv == zzz) && ((zzw == zz10) && true))) && true))) (fun w=>by exact exec_struct_eq rfl (by kernel_rfl) (by kernel_rfl) (by kernel_rfl) (eqv_32 9997 zz3 zzu zzv zzw zzx zzy zzz zz10 w)) ?_
  refine vcS_fin ?_
  refine Vc.cond ((bEq zz3 zzx) && (((zzu == zzy) && ((zzv == zzz) && ((zzw == zz10) && true))) && true)) (by kernel_rfl) (fun hb=>?_) (fun hb=>?_)
  ·have h := h.1 (hb)
   refine Vc.seq ?_
   refine Vc.region ?_
   refine vcL_purs 2 [(4, (Value.int .i64 t8)), (17, (Value.int .i64 t8))] (by kernel_rfl) ?_
   refine vcL_nil ?_
   refine Vc.ret ?_
   refine outOf_ret ?_
   refine outOf_ret ?_
   refine outs_ret ?_
   refine done_mk (Value.int .i64 t8) (res1 (resC_tmp (by kernel_rfl))) ?_
   exact ⟨t8, rfl, h⟩
  ·have h := h.2 (hb)
   refine Vc.skip ?_
   refine Vc.region ?_
   refine vcL_purs 2 [(8, (Value.int .i64 (wrapI (t8 + 1)))), (18, (Value.int .i64 (wrapI (t8 + 1))))] (by kernel_rfl) ?_
   refine vcL_nil ?_
   exact ⟨(wrapI (t8 + 1)), 24, ⟨rfl, by kernel_rfl, by kernel_rfl, by kernel_rfl⟩, h⟩
 ·have h := h.2 (of_decide_eq_false hb)
  refine Vc.exit ?_
  refine outOf_hit ?_
  refine Vc.seq ?_
  refine Vc.region ?_
  refine vcL_pure rfl rfl (Value.int .i64 (-1)) (fun w=>by kernel_rfl) ?_
  refine vcL_nil ?_
  refine Vc.ret ?_
  refine outs_ret ?_
  refine done_mk (Value.int .i64 (-1)) (res1 (resC_tmp (by kernel_rfl))) ?_
  exact ⟨(-1), rfl, h⟩
theorem slices_Index_apiPinapiPin.go {vs : Sl} {zz11 : ByteArray} {zz12 : Int} {zz13 : Int} {zz14 : Int} {w : World} {k : Value → World → Prop} (h : slices_Index_apiPinapiPin vs zz11 zz12 zz13 zz14 w fun r0 w'=>k (Value.int .i64 r0) w') : callS Tryz.prog 112 [(Sl.v vs), (Value.agg #[(Value.string zz11), (Value.int .i64 zz12), (Value.int .i64 zz13), (Value.int .i64 zz14)])] w k := (slices_Index_apiPinapiPin.sound vs zz11 zz12 zz13 zz14 w _ h).mono (by rintro _ _ ⟨r0, rfl, h⟩; exact h)
def cmp_isNaN_string (x : ByteArray) (w : World) (R : Bool → World → Prop) : Prop :=
 R (!bEq x x) w
set_option maxHeartbeats 8000000 in
theorem cmp_isNaN_string.sound (x : ByteArray) (w : World) (R : Bool → World → Prop) (h : cmp_isNaN_string x w R) : callS Tryz.prog 114 [(Value.string x)] w (fun v w'=>∃ (r0 : Bool), v = (Value.bool r0) ∧ R r0 w') := by
 unfold cmp_isNaN_string at h
 refine calls_of_vc 6 rfl Tryz.func114 rfl (by kernel_rfl) (by simp) ?_
 refine Vc.seq ?_
 refine Vc.region ?_
 refine vcL_pure rfl rfl (Value.bool false) (fun w=>by kernel_rfl) ?_
 refine vcL_nil ?_
 refine Vc.seq ?_
 refine Vc.region ?_
 refine vcL_purs 4 [(2, (Value.bool (!bEq x x))), (5, (Value.bool (!bEq x x))), (4, (Value.string x)), (3, (Value.string x))] (by kernel_rfl) ?_
 refine vcL_nil ?_
 refine Vc.ret ?_
 refine outs_ret ?_
 refine done_mk (Value.bool (!bEq x x)) (res1 (resC_tmp (by kernel_rfl))) ?_
 exact ⟨(!bEq x x), rfl, h⟩
theorem cmp_isNaN_string.go {x : ByteArray} {w : World} {k : Value → World → Prop} (h : cmp_isNaN_string x w fun r0 w'=>k (Value.bool r0) w') : callS Tryz.prog 114 [(Value.string x)] w k := (cmp_isNaN_string.sound x w _ h).mono (by rintro _ _ ⟨r0, rfl, h⟩; exact h)
def halyardref02_part (n : Int) (w : World) (R : Bool → World → Prop) : Prop :=
 bnd (decide (0 ≤ n)) fun (b : Bool)=>R (b && (decide (n ≤ 999))) w
set_option maxHeartbeats 8000000 in
theorem halyardref02_part.sound (n : Int) (w : World) (R : Bool → World → Prop) (h : halyardref02_part n w R) : callS Tryz.prog 115 [(Value.int .i64 n)] w (fun v w'=>∃ (r0 : Bool), v = (Value.bool r0) ∧ R r0 w') := by
 unfold halyardref02_part at h
 refine calls_of_vc 9 rfl Tryz.func115 rfl (by kernel_rfl) (by simp) ?_
 refine Vc.seq ?_
 refine Vc.region ?_
 refine vcL_pure rfl rfl (Value.bool false) (fun w=>by kernel_rfl) ?_
 refine vcL_nil ?_
 refine Vc.seq ?_
 refine Vc.region ?_
 refine vcL_purs 2 [(4, (Value.bool (decide (0 ≤ n)))), (3, (Value.int .i64 n))] (by kernel_rfl) ?_
 obtain ⟨b, hb⟩ : ∃ y, y = (decide (0 ≤ n)) := ⟨_, rfl⟩
 have h := h b hb
 refine vcL_pure rfl rfl (Value.bool b) (fun w=>by rw [hb]; kernel_rfl) ?_
 refine vcL_guardP b (wanted_g (d := 5) rfl (by kernel_rfl) b (by kernel_rfl) b (eqT b)) rfl (Value.int .i64 n) (fun hg w=>by subst hg; kernel_rfl) ?_
 refine vcL_guardP b (wanted_g (d := 5) rfl (by kernel_rfl) b (by kernel_rfl) b (eqT b)) rfl (Value.bool (decide (n ≤ 999))) (fun hg w=>by subst hg; kernel_rfl) ?_
 refine vcL_pure rfl rfl (Value.bool (b && (decide (n ≤ 999)))) (fun w=>by cases b <;> kernel_rfl) ?_
 refine vcL_pure rfl rfl (Value.bool (b && (decide (n ≤ 999)))) (fun w=>by kernel_rfl) ?_
 refine vcL_nil ?_
 refine Vc.ret ?_
 refine outs_ret ?_
 refine done_mk (Value.bool (b && (decide (n ≤ 999)))) (res1 (resC_tmp (by kernel_rfl))) ?_
 exact ⟨(b && (decide (n ≤ 999))), rfl, h⟩
theorem halyardref02_part.go {n : Int} {w : World} {k : Value → World → Prop} (h : halyardref02_part n w fun r0 w'=>k (Value.bool r0) w') : callS Tryz.prog 115 [(Value.int .i64 n)] w k := (halyardref02_part.sound n w _ h).mono (by rintro _ _ ⟨r0, rfl, h⟩; exact h)
def halyardref02_Rank (zz0 : Int) (zz1 : Int) (zz2 : Int) (w : World) (R : Int → Bool → World → Prop) : Prop :=
 newS w [(Value.int .i64 zz0), (Value.int .i64 zz1), (Value.int .i64 zz2)] 30 fun a vw=>∃ (zze : Int) (zzf : Int) (zzg : Int), (ldc vw a [(Value.int .i64 zze), (Value.int .i64 zzf), (Value.int .i64 zzg)]) ∧ callS Tryz.prog 80 [(Value.agg #[(Value.int .i64 zze), (Value.int .i64 zzf), (Value.int .i64 zzg)])] vw fun v vw1=>∃ (t5 : Bool), v = (Value.bool t5) ∧ (((!t5) = true → R 0 false vw1) ∧ ((!t5) = false → ∃ (t8 : Int), (ldc vw1 a [(Value.int .i64 t8)]) ∧ ∃ (t11 : Int), (ldc vw1 (a.add 1) [(Value.int .i64 t11)]) ∧ ∃ (t15 : Int), (ldc vw1 (a.add 2) [(Value.int .i64 t15)]) ∧ R (wrapI ((wrapI ((wrapI ((wrapI (t8 * 1000)) + t11)) * 1000)) + t15)) true vw1))
set_option maxHeartbeats 8000000 in
theorem halyardref02_Rank.sound (zz0 : Int) (zz1 : Int) (zz2 : Int) (w : World) (R : Int → Bool → World → Prop) (h : halyardref02_Rank zz0 zz1 zz2 w R) : callS Tryz.prog 116 [(Value.agg #[(Value.int .i64 zz0), (Value.int .i64 zz1), (Value.int .i64 zz2)])] w (fun v w'=>∃ (r0 : Int) (r1 : Bool), v = (Value.tuple #[(Value.int .i64 r0), (Value.bool r1)]) ∧ R r0 r1 w') := by
 unfold halyardref02_Rank at h
 refine calls_of_vc 17 rfl Tryz.func116 rfl (by kernel_rfl) (by simp) ?_
 refine Vc.seq ?_
 refine Vc.region ?_
 refine vcL_eff rfl (opVC_new rfl (fun a=>Value.pointer (some a)) (by kernel_rfl) (newS.mono h fun a vw hx h=>?_))
 refine vcL_purs 2 [(3, (Value.bool false)), (2, (Value.int .i64 0))] (by kernel_rfl) ?_
 refine vcL_nil ?_
 refine Vc.seq ?_
 refine Vc.seq ?_
 refine Vc.region ?_
 obtain ⟨zze, zzf, zzg, hc, h⟩ := h
 refine vcL_val rfl rfl (Value.agg #[(Value.int .i64 zze), (Value.int .i64 zzf), (Value.int .i64 zzg)]) (exec_load rfl (by kernel_rfl) (run_loadN (fun w=>by kernel_rfl) (fun w=>by kernel_rfl) ((hc)))) ?_
 refine vcL_eff rfl (opVC_call rfl (by kernel_rfl) (callS.mono h fun v vw1 h=>?_))
 obtain ⟨t5, rfl, h⟩ := h
 refine vcL_pure rfl rfl (Value.bool (!t5)) (fun w=>by kernel_rfl) ?_
 refine vcL_nil ?_
 refine Vc.cond (!t5) (by kernel_rfl) (fun hb=>?_) (fun hb=>?_)
 ·have h := h.1 (hb)
  refine Vc.seq ?_
  refine Vc.region ?_
  refine vcL_purs 2 [(3, (Value.bool false)), (2, (Value.int .i64 0))] (by kernel_rfl) ?_
  refine vcL_nil ?_
  refine Vc.ret ?_
  refine outs_ret ?_
  refine done_mk (Value.tuple #[(Value.int .i64 0), (Value.bool false)]) (res2 (resC_tmp (by kernel_rfl)) (resC_tmp (by kernel_rfl))) ?_
  exact ⟨0, false, rfl, h⟩
 ·have h := h.2 (hb)
  refine Vc.skip ?_
  refine Vc.seq ?_
  refine Vc.region ?_
  refine vcL_pure rfl rfl (Value.pointer (some a)) (fun w=>by kernel_rfl) ?_
  obtain ⟨t8, hc2, h⟩ := h
  refine vcL_val rfl rfl (Value.int .i64 t8) (exec_load rfl (by kernel_rfl) (run_load1 (fun w=>by kernel_rfl) ((hc2)))) ?_
  refine vcL_purs 2 [(10, (Value.pointer (some (a.add 1)))), (9, (Value.int .i64 (wrapI (t8 * 1000))))] (by kernel_rfl) ?_
  obtain ⟨t11, hc3, h⟩ := h
  refine vcL_val rfl rfl (Value.int .i64 t11) (exec_load rfl (by kernel_rfl) (run_load1 (fun w=>by kernel_rfl) ((hc3)))) ?_
  refine vcL_purs 3 [(14, (Value.pointer (some (a.add 2)))), (13, (Value.int .i64 (wrapI ((wrapI ((wrapI (t8 * 1000)) + t11)) * 1000)))), (12, (Value.int .i64 (wrapI ((wrapI (t8 * 1000)) + t11))))] (by kernel_rfl) ?_
  obtain ⟨t15, hc4, h⟩ := h
  refine vcL_val rfl rfl (Value.int .i64 t15) (exec_load rfl (by kernel_rfl) (run_load1 (fun w=>by kernel_rfl) ((hc4)))) ?_
  refine vcL_purs 3 [(3, (Value.bool true)), (2, (Value.int .i64 (wrapI ((wrapI ((wrapI ((wrapI (t8 * 1000)) + t11)) * 1000)) + t15)))), (16, (Value.int .i64 (wrapI ((wrapI ((wrapI ((wrapI (t8 * 1000)) + t11)) * 1000)) + t15))))] (by kernel_rfl) ?_
  refine vcL_nil ?_
  refine Vc.ret ?_
  refine outs_ret ?_
  refine done_mk (Value.tuple #[(Value.int .i64 (wrapI ((wrapI ((wrapI ((wrapI (t8 * 1000)) + t11)) * 1000)) + t15))), (Value.bool true)]) (res2 (resC_tmp (by kernel_rfl)) (resC_tmp (by kernel_rfl))) ?_
  exact ⟨(wrapI ((wrapI ((wrapI ((wrapI (t8 * 1000)) + t11)) * 1000)) + t15)), true, rfl, h⟩
theorem halyardref02_Rank.go {zz0 : Int} {zz1 : Int} {zz2 : Int} {w : World} {k : Value → World → Prop} (h : halyardref02_Rank zz0 zz1 zz2 w fun r0 r1 w'=>k (Value.tuple #[(Value.int .i64 r0), (Value.bool r1)]) w') : callS Tryz.prog 116 [(Value.agg #[(Value.int .i64 zz0), (Value.int .i64 zz1), (Value.int .i64 zz2)])] w k := (halyardref02_Rank.sound zz0 zz1 zz2 w _ h).mono (by rintro _ _ ⟨r0, r1, rfl, h⟩; exact h)
def vers_Rank (zz0 : Int) (zz1 : Int) (zz2 : Int) (w : World) (R : Int → Bool → World → Prop) : Prop :=
 newS w [(Value.int .i64 zz0), (Value.int .i64 zz1), (Value.int .i64 zz2)] 30 fun a vw=>∃ (zze : Int) (zzf : Int) (zzg : Int), (ldc vw a [(Value.int .i64 zze), (Value.int .i64 zzf), (Value.int .i64 zzg)]) ∧ callS Tryz.prog 97 [(Value.agg #[(Value.int .i64 zze), (Value.int .i64 zzf), (Value.int .i64 zzg)])] vw fun v vw1=>∃ (t5 : Bool), v = (Value.bool t5) ∧ (((!t5) = true → R 0 false vw1) ∧ ((!t5) = false → ∃ (t8 : Int), (ldc vw1 a [(Value.int .i64 t8)]) ∧ ∃ (t11 : Int), (ldc vw1 (a.add 1) [(Value.int .i64 t11)]) ∧ ∃ (t15 : Int), (ldc vw1 (a.add 2) [(Value.int .i64 t15)]) ∧ R (wrapI ((wrapI ((wrapI ((wrapI (t8 * 1000)) + t11)) * 1000)) + t15)) true vw1))
set_option maxHeartbeats 8000000 in
theorem vers_Rank.sound (zz0 : Int) (zz1 : Int) (zz2 : Int) (w : World) (R : Int → Bool → World → Prop) (h : vers_Rank zz0 zz1 zz2 w R) : callS Tryz.prog 123 [(Value.agg #[(Value.int .i64 zz0), (Value.int .i64 zz1), (Value.int .i64 zz2)])] w (fun v w'=>∃ (r0 : Int) (r1 : Bool), v = (Value.tuple #[(Value.int .i64 r0), (Value.bool r1)]) ∧ R r0 r1 w') := by
 unfold vers_Rank at h
 refine calls_of_vc 17 rfl Tryz.func123 rfl (by kernel_rfl) (by simp) ?_
 refine Vc.seq ?_
 refine Vc.region ?_
 refine vcL_eff rfl (opVC_new rfl (fun a=>Value.pointer (some a)) (by kernel_rfl) (newS.mono h fun a vw hx h=>?_))
 refine vcL_purs 2 [(3, (Value.bool false)), (2, (Value.int .i64 0))] (by kernel_rfl) ?_
 refine vcL_nil ?_
 refine Vc.seq ?_
 refine Vc.seq ?_
 refine Vc.region ?_
 obtain ⟨zze, zzf, zzg, hc, h⟩ := h
 refine vcL_val rfl rfl (Value.agg #[(Value.int .i64 zze), (Value.int .i64 zzf), (Value.int .i64 zzg)]) (exec_load rfl (by kernel_rfl) (run_loadN (fun w=>by kernel_rfl) (fun w=>by kernel_rfl) ((hc)))) ?_
 refine vcL_eff rfl (opVC_call rfl (by kernel_rfl) (callS.mono h fun v vw1 h=>?_))
 obtain ⟨t5, rfl, h⟩ := h
 refine vcL_pure rfl rfl (Value.bool (!t5)) (fun w=>by kernel_rfl) ?_
 refine vcL_nil ?_
 refine Vc.cond (!t5) (by kernel_rfl) (fun hb=>?_) (fun hb=>?_)
 ·have h := h.1 (hb)
  refine Vc.seq ?_
  refine Vc.region ?_
  refine vcL_purs 2 [(3, (Value.bool false)), (2, (Value.int .i64 0))] (by kernel_rfl) ?_
  refine vcL_nil ?_
  refine Vc.ret ?_
  refine outs_ret ?_
  refine done_mk (Value.tuple #[(Value.int .i64 0), (Value.bool false)]) (res2 (resC_tmp (by kernel_rfl)) (resC_tmp (by kernel_rfl))) ?_
  exact ⟨0, false, rfl, h⟩
 ·have h := h.2 (hb)
  refine Vc.skip ?_
  refine Vc.seq ?_
  refine Vc.region ?_
  refine vcL_pure rfl rfl (Value.pointer (some a)) (fun w=>by kernel_rfl) ?_
  obtain ⟨t8, hc2, h⟩ := h
  refine vcL_val rfl rfl (Value.int .i64 t8) (exec_load rfl (by kernel_rfl) (run_load1 (fun w=>by kernel_rfl) ((hc2)))) ?_
  refine vcL_purs 2 [(10, (Value.pointer (some (a.add 1)))), (9, (Value.int .i64 (wrapI (t8 * 1000))))] (by kernel_rfl) ?_
  obtain ⟨t11, hc3, h⟩ := h
  refine vcL_val rfl rfl (Value.int .i64 t11) (exec_load rfl (by kernel_rfl) (run_load1 (fun w=>by kernel_rfl) ((hc3)))) ?_
  refine vcL_purs 3 [(14, (Value.pointer (some (a.add 2)))), (13, (Value.int .i64 (wrapI ((wrapI ((wrapI (t8 * 1000)) + t11)) * 1000)))), (12, (Value.int .i64 (wrapI ((wrapI (t8 * 1000)) + t11))))] (by kernel_rfl) ?_
  obtain ⟨t15, hc4, h⟩ := h
  refine vcL_val rfl rfl (Value.int .i64 t15) (exec_load rfl (by kernel_rfl) (run_load1 (fun w=>by kernel_rfl) ((hc4)))) ?_
  refine vcL_purs 3 [(3, (Value.bool true)), (2, (Value.int .i64 (wrapI ((wrapI ((wrapI ((wrapI (t8 * 1000)) + t11)) * 1000)) + t15)))), (16, (Value.int .i64 (wrapI ((wrapI ((wrapI ((wrapI (t8 * 1000)) + t11)) * 1000)) + t15))))] (by kernel_rfl) ?_
  refine vcL_nil ?_
  refine Vc.ret ?_
  refine outs_ret ?_
  refine done_mk (Value.tuple #[(Value.int .i64 (wrapI ((wrapI ((wrapI ((wrapI (t8 * 1000)) + t11)) * 1000)) + t15))), (Value.bool true)]) (res2 (resC_tmp (by kernel_rfl)) (resC_tmp (by kernel_rfl))) ?_
  exact ⟨(wrapI ((wrapI ((wrapI ((wrapI (t8 * 1000)) + t11)) * 1000)) + t15)), true, rfl, h⟩
theorem vers_Rank.go {zz0 : Int} {zz1 : Int} {zz2 : Int} {w : World} {k : Value → World → Prop} (h : vers_Rank zz0 zz1 zz2 w fun r0 r1 w'=>k (Value.tuple #[(Value.int .i64 r0), (Value.bool r1)]) w') : callS Tryz.prog 123 [(Value.agg #[(Value.int .i64 zz0), (Value.int .i64 zz1), (Value.int .i64 zz2)])] w k := (vers_Rank.sound zz0 zz1 zz2 w _ h).mono (by rintro _ _ ⟨r0, r1, rfl, h⟩; exact h)
def span_spans (l : Sl) (w : World) (R : Sl → World → Prop) : Prop :=
 loop2 Sl.nil 0 w fun out t12 vw nxt=>((t12 < (l.len : Int) → ∃ (ad : Addr), (l.a = some ad ∧ (0 : Int) ≤ t12 ∧ t12 < (l.len : Int)) ∧ ∃ (t15_lo : Int) (t15_hi : Int), (ldc vw (ad.add (t12.toNat * 2)) [(Value.int .i64 t15_lo), (Value.int .i64 t15_hi)]) ∧ newS vw [(Value.int .i64 0), (Value.int .i64 0)] 157 fun a vw1=>stw vw1 a [(Value.int .i64 t15_lo), (Value.int .i64 t15_hi)] fun vw2=>∃ (t18 : Int), (ldc vw2 a [(Value.int .i64 t18)]) ∧ callS Tryz.prog 167 [(Value.int .i64 t18)] vw2 fun v vw4=>∃ (zz1b : Int) (zz1c : Int) (zz1d : Int) (t19b : Bool), v = (Value.tuple #[(Value.agg #[(Value.int .i64 zz1b), (Value.int .i64 zz1c), (Value.int .i64 zz1d)]), (Value.bool t19b)]) ∧ newS vw4 [(Value.int .i64 0), (Value.int .i64 0), (Value.int .i64 0)] 30 fun a5 vw6=>stw vw6 a5 [(Value.int .i64 zz1b), (Value.int .i64 zz1c), (Value.int .i64 zz1d)] fun vw7=>∃ (t24 : Int), (ldc vw7 (a.add 1) [(Value.int .i64 t24)]) ∧ callS Tryz.prog 167 [(Value.int .i64 t24)] vw7 fun v10 vw9=>∃ (zz1e : Int) (zz1f : Int) (zz1g : Int) (t25b : Bool), v10 = (Value.tuple #[(Value.agg #[(Value.int .i64 zz1e), (Value.int .i64 zz1f), (Value.int .i64 zz1g)]), (Value.bool t25b)]) ∧ newS vw9 [(Value.int .i64 0), (Value.int .i64 0), (Value.int .i64 0)] 30 fun a12 vw13=>stw vw13 a12 [(Value.int .i64 zz1e), (Value.int .i64 zz1f), (Value.int .i64 zz1g)] fun vw14=>∃ (zz2o : Int) (zz2p : Int) (zz2q : Int), (ldc vw14 a5 [(Value.int .i64 zz2o), (Value.int .i64 zz2p), (Value.int .i64 zz2q)]) ∧ ∃ (zz2r : Int) (zz2s : Int) (zz2t : Int), (ldc vw14 a12 [(Value.int .i64 zz2r), (Value.int .i64 zz2s), (Value.int .i64 zz2t)]) ∧ newS vw14 [(Value.int .i64 zz2o), (Value.int .i64 zz2p), (Value.int .i64 zz2q), (Value.int .i64 zz2r), (Value.int .i64 zz2s), (Value.int .i64 zz2t)] 83 fun a17 vw18=>appS Tryz.prog 53 53 out (Sl.v (Sl.mk (some a17) 1 1)) vw18 fun t33 vw19=>nxt t33 (wrapI (t12 + 1)) vw19) ∧ (¬ (t12 < (l.len : Int)) → R out vw))
set_option maxHeartbeats 8000000 in
theorem span_spans.sound (l : Sl) (w : World) (R : Sl → World → Prop) (h : span_spans l w R) : callS Tryz.prog 124 [(Sl.v l)] w (fun v w'=>∃ (r0 : Sl), v = (Sl.v r0) ∧ R r0 w') := by
 unfold span_spans at h
 refine calls_of_vc 36 rfl Tryz.func124 rfl (by kernel_rfl) (by simp) ?_
 refine Vc.seq ?_
 refine Vc.region ?_
 refine vcL_pure rfl rfl (Sl.v Sl.nil) (fun w=>by kernel_rfl) ?_
 refine vcL_nil ?_
 refine Vc.seq ?_
 refine Vc.region ?_
 refine vcL_pure rfl rfl (Sl.v Sl.nil) (fun w=>by kernel_rfl) ?_
 refine vcL_nil ?_
 refine Vc.seq ?_
 refine Vc.seq ?_
 refine Vc.region ?_
 refine vcL_purs 3 [(12, (Value.int .i64 0)), (11, (Value.int .i64 (l.len : Int))), (10, (Sl.v l))] (by kernel_rfl) ?_
 refine vcL_nil ?_
 refine Vc.block ?_
 obtain ⟨vI, mu, h, hr⟩ := h
 refine Vc.loopJ (σ := Sl × Int) [3, 12] [5, 6, 7, 8, 9, 13, 14, 15, 16, 17, 18, 19, 20, 21, 22, 23, 24, 25, 26, 27, 28, 29, 30, 31, 32, 33, 34] (fun s=>[(3, (Sl.v s.1)), (12, (Value.int .i64 s.2))]) (fun s w=>vI s.1 s.2 w) (fun s w=>mu s.1 s.2 w) (Sl.nil, 0) h (fun _ => rfl) (by kernel_rfl) ?_
 rintro ⟨out, t12⟩ vw j h
 have h := hr out t12 vw h
 refine Vc.seq ?_
 refine Vc.region ?_
 refine vcL_pure rfl rfl (Value.bool (decide (t12 < (l.len : Int)))) (fun w=>by kernel_rfl) ?_
 refine vcL_nil ?_
 refine Vc.seq ?_
 refine Vc.cond (decide (t12 < (l.len : Int))) (by kernel_rfl) (fun hb=>?_) (fun hb=>?_)
 ·have h := h.1 (of_decide_eq_true hb)
  refine Vc.skip ?_
  refine Vc.seq ?_
  refine Vc.block ?_
  refine Vc.seq ?_
  refine Vc.region ?_
  obtain ⟨ad, hi, h⟩ := h
  refine vcL_pure rfl rfl (Value.pointer (some (ad.add (t12.toNat * 2)))) (fun w=>by exact exec_indexAt (s := l) (el := 157) rfl (by kernel_rfl) (by kernel_rfl) (by kernel_rfl) (fun w=>by kernel_rfl) (hi).1 (hi).2.1 (hi).2.2 w) ?_
  obtain ⟨t15_lo, t15_hi, hc, h⟩ := h
  refine vcL_val rfl rfl (Value.agg #[(Value.int .i64 t15_lo), (Value.int .i64 t15_hi)]) (exec_load rfl (by kernel_rfl) (run_loadN (fun w=>by kernel_rfl) (fun w=>by kernel_rfl) ((hc)))) ?_
  refine vcL_eff rfl (opVC_new rfl (fun a=>Value.pointer (some a)) (by kernel_rfl) (newS.mono h fun a vw1 hx h=>?_))
  refine vcL_eff rfl (opVC_store rfl rfl (a := a) (by kernel_rfl) (v := (Value.agg #[(Value.int .i64 t15_lo), (Value.int .i64 t15_hi)])) (by kernel_rfl) [(Value.int .i64 t15_lo), (Value.int .i64 t15_hi)] (by kernel_rfl) (fun w=>by kernel_rfl) (by kernel_rfl) (stw.mono h fun vw2 h=>?_))
  refine vcL_nil ?_
  refine Vc.seq ?_
  refine Vc.region ?_
  refine vcL_pure rfl rfl (Value.pointer (some a)) (fun w=>by kernel_rfl) ?_
  obtain ⟨t18, hc3, h⟩ := h
  refine vcL_val rfl rfl (Value.int .i64 t18) (exec_load rfl (by kernel_rfl) (run_load1 (fun w=>by kernel_rfl) ((hc3)))) ?_
  refine vcL_eff rfl (opVC_call rfl (by kernel_rfl) (callS.mono h fun v vw4 h=>?_))
  obtain ⟨zz1b, zz1c, zz1d, t19b, rfl, h⟩ := h
  refine vcL_purs 3 [(21, (Value.bool t19b)), (20, (Value.agg #[(Value.int .i64 zz1b), (Value.int .i64 zz1c), (Value.int .i64 zz1d)])), (16, (Value.tuple #[(Value.agg #[(Value.int .i64 zz1b), (Value.int .i64 zz1c), (Value.int .i64 zz1d)]), (Value.bool t19b)]))] (by kernel_rfl) ?_
  refine vcL_eff rfl (opVC_new rfl (fun a=>Value.pointer (some a)) (by kernel_rfl) (newS.mono h fun a5 vw6 hx h=>?_))
  refine vcL_eff rfl (opVC_store rfl rfl (a := a5) (by kernel_rfl) (v := (Value.agg #[(Value.int .i64 zz1b), (Value.int .i64 zz1c), (Value.int .i64 zz1d)])) (by kernel_rfl) [(Value.int .i64 zz1b), (Value.int .i64 zz1c), (Value.int .i64 zz1d)] (by kernel_rfl) (fun w=>by kernel_rfl) (by kernel_rfl) (stw.mono h fun vw7 h=>?_))
  refine vcL_pure rfl rfl (Value.bool t19b) (fun w=>by kernel_rfl) ?_
  refine vcL_nil ?_
  refine Vc.seq ?_
  refine Vc.region ?_
  refine vcL_pure rfl rfl (Value.pointer (some (a.add 1))) (fun w=>by kernel_rfl) ?_
  obtain ⟨t24, hc8, h⟩ := h
  refine vcL_val rfl rfl (Value.int .i64 t24) (exec_load rfl (by kernel_rfl) (run_load1 (fun w=>by kernel_rfl) ((hc8)))) ?_
  refine vcL_eff rfl (opVC_call rfl (by kernel_rfl) (callS.mono h fun v10 vw9 h=>?_))
  obtain ⟨zz1e, zz1f, zz1g, t25b, rfl, h⟩ := h
  refine vcL_purs 3 [(27, (Value.bool t25b)), (26, (Value.agg #[(Value.int .i64 zz1e), (Value.int .i64 zz1f), (Value.int .i64 zz1g)])), (22, (Value.tuple #[(Value.agg #[(Value.int .i64 zz1e), (Value.int .i64 zz1f), (Value.int .i64 zz1g)]), (Value.bool t25b)]))] (by kernel_rfl) ?_
  refine vcL_eff rfl (opVC_new rfl (fun a=>Value.pointer (some a)) (by kernel_rfl) (newS.mono h fun a12 vw13 hx h=>?_))
  refine vcL_eff rfl (opVC_store rfl rfl (a := a12) (by kernel_rfl) (v := (Value.agg #[(Value.int .i64 zz1e), (Value.int .i64 zz1f), (Value.int .i64 zz1g)])) (by kernel_rfl) [(Value.int .i64 zz1e), (Value.int .i64 zz1f), (Value.int .i64 zz1g)] (by kernel_rfl) (fun w=>by kernel_rfl) (by kernel_rfl) (stw.mono h fun vw14 h=>?_))
  refine vcL_pure rfl rfl (Value.bool t25b) (fun w=>by kernel_rfl) ?_
  refine vcL_nil ?_
  refine Vc.region ?_
  refine vcL_pure rfl rfl (Sl.v out) (fun w=>by kernel_rfl) ?_
  obtain ⟨zz2o, zz2p, zz2q, hc15, h⟩ := h
  refine vcL_val rfl rfl (Value.agg #[(Value.int .i64 zz2o), (Value.int .i64 zz2p), (Value.int .i64 zz2q)]) (exec_load rfl (by kernel_rfl) (run_loadN (fun w=>by kernel_rfl) (fun w=>by kernel_rfl) ((hc15)))) ?_
  obtain ⟨zz2r, zz2s, zz2t, hc16, h⟩ := h
  refine vcL_val rfl rfl (Value.agg #[(Value.int .i64 zz2r), (Value.int .i64 zz2s), (Value.int .i64 zz2t)]) (exec_load rfl (by kernel_rfl) (run_loadN (fun w=>by kernel_rfl) (fun w=>by kernel_rfl) ((hc16)))) ?_
  refine vcL_pure rfl rfl (Value.agg #[(Value.int .i64 zz2o), (Value.int .i64 zz2p), (Value.int .i64 zz2q), (Value.int .i64 zz2r), (Value.int .i64 zz2s), (Value.int .i64 zz2t)]) (fun w=>by kernel_rfl) ?_
  refine vcL_eff rfl (opVC_new rfl (fun a=>Value.slice (some a) 1 1) (by kernel_rfl) (newS.mono h fun a17 vw18 hx h=>?_))
  refine vcL_eff rfl (opVC_sem rfl (c := Builtin.append_ #[53, 53] 53 #[(Sl.v out), (Sl.v (Sl.mk (some a17) 1 1))]) (by kernel_rfl) (appS.elim (ty := 53) h fun t33 vw19 h=>?_))
  refine vcL_pure rfl rfl (Sl.v t33) (fun w=>by kernel_rfl) ?_
  refine vcL_nil ?_
  refine Vc.region ?_
  refine vcL_purs 2 [(12, (Value.int .i64 (wrapI (t12 + 1)))), (34, (Value.int .i64 (wrapI (t12 + 1))))] (by kernel_rfl) ?_
  refine vcL_nil ?_
  exact ⟨(t33, (wrapI (t12 + 1))), 58, ⟨rfl, by kernel_rfl, by kernel_rfl, by kernel_rfl⟩, h⟩
 ·have h := h.2 (of_decide_eq_false hb)
  refine Vc.exit ?_
  refine outOf_hit ?_
  refine Vc.seq ?_
  refine Vc.region ?_
  refine vcL_purs 2 [(2, (Sl.v out)), (35, (Sl.v out))] (by kernel_rfl) ?_
  refine vcL_nil ?_
  refine Vc.ret ?_
  refine outs_ret ?_
  refine done_mk (Sl.v out) (res1 (resC_tmp (by kernel_rfl))) ?_
  exact ⟨out, rfl, h⟩
theorem span_spans.go {l : Sl} {w : World} {k : Value → World → Prop} (h : span_spans l w fun r0 w'=>k (Sl.v r0) w') : callS Tryz.prog 124 [(Sl.v l)] w k := (span_spans.sound l w _ h).mono (by rintro _ _ ⟨r0, rfl, h⟩; exact h)
def slices_SortedFunc_spanranks (seq : Value) (cmp : Value) (w : World) (R : Sl → World → Prop) : Prop :=
 callS Tryz.prog 168 [seq] w fun v vw=>∃ (t7 : Sl), v = (Sl.v t7) ∧ callS Tryz.prog 169 [(Sl.v t7), cmp] vw fun v2 vw1=>v2 = (Value.tuple #[]) ∧ R t7 vw1
set_option maxHeartbeats 8000000 in
theorem slices_SortedFunc_spanranks.sound (seq : Value) (cmp : Value) (w : World) (R : Sl → World → Prop) (h : slices_SortedFunc_spanranks seq cmp w R) : callS Tryz.prog 125 [seq, cmp] w (fun v w'=>∃ (r0 : Sl), v = (Sl.v r0) ∧ R r0 w') := by
 unfold slices_SortedFunc_spanranks at h
 refine calls_of_vc 12 rfl Tryz.func125 rfl (by kernel_rfl) (by simp) ?_
 refine Vc.seq ?_
 refine Vc.region ?_
 refine vcL_pure rfl rfl (Sl.v Sl.nil) (fun w=>by kernel_rfl) ?_
 refine vcL_nil ?_
 refine Vc.seq ?_
 refine Vc.region ?_
 refine vcL_pure rfl rfl seq (fun w=>by kernel_rfl) ?_
 refine vcL_eff rfl (opVC_call rfl (by kernel_rfl) (callS.mono h fun v vw h=>?_))
 obtain ⟨t7, rfl, h⟩ := h
 refine vcL_pure rfl rfl (Sl.v t7) (fun w=>by kernel_rfl) ?_
 refine vcL_nil ?_
 refine Vc.seq ?_
 refine Vc.region ?_
 refine vcL_purs 2 [(9, cmp), (8, (Sl.v t7))] (by kernel_rfl) ?_
 refine vcL_eff rfl (opVC_call rfl (by kernel_rfl) (callS.mono h fun v2 vw1 h=>?_))
 obtain ⟨rfl, h⟩ := h
 refine vcL_nil ?_
 refine Vc.seq ?_
 refine Vc.region ?_
 refine vcL_purs 2 [(4, (Sl.v t7)), (11, (Sl.v t7))] (by kernel_rfl) ?_
 refine vcL_nil ?_
 refine Vc.ret ?_
 refine outs_ret ?_
 refine done_mk (Sl.v t7) (res1 (resC_tmp (by kernel_rfl))) ?_
 exact ⟨t7, rfl, h⟩
theorem slices_SortedFunc_spanranks.go {seq : Value} {cmp : Value} {w : World} {k : Value → World → Prop} (h : slices_SortedFunc_spanranks seq cmp w fun r0 w'=>k (Sl.v r0) w') : callS Tryz.prog 125 [seq, cmp] w k := (slices_SortedFunc_spanranks.sound seq cmp w _ h).mono (by rintro _ _ ⟨r0, rfl, h⟩; exact h)
def slices_Values_spanranksspanranks (vs : Sl) (w : World) (R : Value → World → Prop) : Prop :=
 newS w [(Sl.v vs)] 130 fun a vw=>R (Value.func (.func 170) #[] #[(Value.pointer (some a))]) vw
set_option maxHeartbeats 8000000 in
theorem slices_Values_spanranksspanranks.sound (vs : Sl) (w : World) (R : Value → World → Prop) (h : slices_Values_spanranksspanranks vs w R) : callS Tryz.prog 126 [(Sl.v vs)] w (fun v w'=>∃ (r0 : Value), v = r0 ∧ R r0 w') := by
 unfold slices_Values_spanranksspanranks at h
 refine calls_of_vc 4 rfl Tryz.func126 rfl (by kernel_rfl) (by simp) ?_
 refine Vc.seq ?_
 refine Vc.region ?_
 refine vcL_eff rfl (opVC_new rfl (fun a=>Value.pointer (some a)) (by kernel_rfl) (newS.mono h fun a vw hx h=>?_))
 refine vcL_pure rfl rfl Value.nilFunc (fun w=>by kernel_rfl) ?_
 refine vcL_nil ?_
 refine Vc.seq ?_
 refine Vc.region ?_
 refine vcL_purs 2 [(2, (Value.func (.func 170) #[] #[(Value.pointer (some a))])), (3, (Value.func (.func 170) #[] #[(Value.pointer (some a))]))] (by kernel_rfl) ?_
 refine vcL_nil ?_
 refine Vc.ret ?_
 refine outs_ret ?_
 refine done_mk (Value.func (.func 170) #[] #[(Value.pointer (some a))]) (res1 (resC_tmp (by kernel_rfl))) ?_
 exact ⟨(Value.func (.func 170) #[] #[(Value.pointer (some a))]), rfl, h⟩
theorem slices_Values_spanranksspanranks.go {vs : Sl} {w : World} {k : Value → World → Prop} (h : slices_Values_spanranksspanranks vs w fun r0 w'=>k r0 w') : callS Tryz.prog 126 [(Sl.v vs)] w k := (slices_Values_spanranksspanranks.sound vs w _ h).mono (by rintro _ _ ⟨r0, rfl, h⟩; exact h)
def span_joined_1 (a_lo : Int) (a_hi : Int) (b_lo : Int) (b_hi : Int) (w : World) (R : Int → World → Prop) : Prop :=
 newS w [(Value.int .i64 a_lo), (Value.int .i64 a_hi)] 157 fun a vw=>newS vw [(Value.int .i64 b_lo), (Value.int .i64 b_hi)] 157 fun a1 vw2=>∃ (t6 : Int), (ldc vw2 a [(Value.int .i64 t6)]) ∧ ∃ (t8 : Int), (ldc vw2 a1 [(Value.int .i64 t8)]) ∧ R (wrapI (t6 - t8)) vw2
set_option maxHeartbeats 8000000 in
theorem span_joined_1.sound (a_lo : Int) (a_hi : Int) (b_lo : Int) (b_hi : Int) (w : World) (R : Int → World → Prop) (h : span_joined_1 a_lo a_hi b_lo b_hi w R) : callS Tryz.prog 127 [(Value.agg #[(Value.int .i64 a_lo), (Value.int .i64 a_hi)]), (Value.agg #[(Value.int .i64 b_lo), (Value.int .i64 b_hi)])] w (fun v w'=>∃ (r0 : Int), v = (Value.int .i64 r0) ∧ R r0 w') := by
 unfold span_joined_1 at h
 refine calls_of_vc 10 rfl Tryz.func127 rfl (by kernel_rfl) (by simp) ?_
 refine Vc.seq ?_
 refine Vc.region ?_
 refine vcL_eff rfl (opVC_new rfl (fun a=>Value.pointer (some a)) (by kernel_rfl) (newS.mono h fun a vw hx h=>?_))
 refine vcL_eff rfl (opVC_new rfl (fun a=>Value.pointer (some a)) (by kernel_rfl) (newS.mono h fun a1 vw2 hx h=>?_))
 refine vcL_pure rfl rfl (Value.int .i64 0) (fun w=>by kernel_rfl) ?_
 refine vcL_nil ?_
 refine Vc.seq ?_
 refine Vc.region ?_
 refine vcL_pure rfl rfl (Value.pointer (some a)) (fun w=>by kernel_rfl) ?_
 obtain ⟨t6, hc, h⟩ := h
 refine vcL_val rfl rfl (Value.int .i64 t6) (exec_load rfl (by kernel_rfl) (run_load1 (fun w=>by kernel_rfl) ((hc)))) ?_
 refine vcL_pure rfl rfl (Value.pointer (some a1)) (fun w=>by kernel_rfl) ?_
 obtain ⟨t8, hc3, h⟩ := h
 refine vcL_val rfl rfl (Value.int .i64 t8) (exec_load rfl (by kernel_rfl) (run_load1 (fun w=>by kernel_rfl) ((hc3)))) ?_
 refine vcL_purs 2 [(4, (Value.int .i64 (wrapI (t6 - t8)))), (9, (Value.int .i64 (wrapI (t6 - t8))))] (by kernel_rfl) ?_
 refine vcL_nil ?_
 refine Vc.ret ?_
 refine outs_ret ?_
 refine done_mk (Value.int .i64 (wrapI (t6 - t8))) (res1 (resC_tmp (by kernel_rfl))) ?_
 exact ⟨(wrapI (t6 - t8)), rfl, h⟩
theorem span_joined_1.go {a_lo : Int} {a_hi : Int} {b_lo : Int} {b_hi : Int} {w : World} {k : Value → World → Prop} (h : span_joined_1 a_lo a_hi b_lo b_hi w fun r0 w'=>k (Value.int .i64 r0) w') : callS Tryz.prog 127 [(Value.agg #[(Value.int .i64 a_lo), (Value.int .i64 a_hi)]), (Value.agg #[(Value.int .i64 b_lo), (Value.int .i64 b_hi)])] w k := (span_joined_1.sound a_lo a_hi b_lo b_hi w _ h).mono (by rintro _ _ ⟨r0, rfl, h⟩; exact h)
def slices_IndexFunc_apiSpanapiSpan (vs : Sl) (f : Value) (w : World) (R : Int → World → Prop) : Prop :=
 loop1 0 w fun t8 vw nxt=>((t8 < (vs.len : Int) → ∃ (ad : Addr), (vs.a = some ad ∧ (0 : Int) ≤ t8 ∧ t8 < (vs.len : Int)) ∧ ∃ (zz8 : Int) (zz9 : Int) (zza : Int) (zz5 : Int) (zz6 : Int) (zz7 : Int), (ldc vw (ad.add (t8.toNat * 6)) [(Value.int .i64 zz8), (Value.int .i64 zz9), (Value.int .i64 zza), (Value.int .i64 zz5), (Value.int .i64 zz6), (Value.int .i64 zz7)]) ∧ callV Tryz.prog f [(Value.agg #[(Value.int .i64 zz8), (Value.int .i64 zz9), (Value.int .i64 zza), (Value.int .i64 zz5), (Value.int .i64 zz6), (Value.int .i64 zz7)])] vw fun v vw1=>∃ (t16 : Bool), v = (Value.bool t16) ∧ ((t16 = true → R t8 vw1) ∧ (t16 = false → nxt (wrapI (t8 + 1)) vw1))) ∧ (¬ (t8 < (vs.len : Int)) → R (-1) vw))
set_option maxHeartbeats 8000000 in
theorem slices_IndexFunc_apiSpanapiSpan.sound (vs : Sl) (f : Value) (w : World) (R : Int → World → Prop) (h : slices_IndexFunc_apiSpanapiSpan vs f w R) : callS Tryz.prog 128 [(Sl.v vs), f] w (fun v w'=>∃ (r0 : Int), v = (Value.int .i64 r0) ∧ R r0 w') := by
 unfold slices_IndexFunc_apiSpanapiSpan at h
 refine calls_of_vc 19 rfl Tryz.func128 rfl (by kernel_rfl) (by simp) ?_
 refine Vc.seq ?_
 refine Vc.region ?_
 refine vcL_pure rfl rfl (Value.int .i64 0) (fun w=>by kernel_rfl) ?_
 refine vcL_nil ?_
 refine Vc.seq ?_
 refine Vc.seq ?_
 refine Vc.region ?_
 refine vcL_purs 3 [(8, (Value.int .i64 0)), (7, (Value.int .i64 (vs.len : Int))), (6, (Sl.v vs))] (by kernel_rfl) ?_
 refine vcL_nil ?_
 refine Vc.block ?_
 obtain ⟨vI, mu, h, hr⟩ := h
 refine Vc.loopJ (σ := Int) [8] [4, 5, 9, 10, 11, 12, 13, 14, 15, 16, 17, 18] (fun s=>[(8, (Value.int .i64 s))]) (fun s w=>vI s w) (fun s w=>mu s w) 0 h (fun _ => rfl) (by kernel_rfl) ?_
 intro t8 vw j h
 have h := hr t8 vw h
 refine Vc.seq ?_
 refine Vc.region ?_
 refine vcL_pure rfl rfl (Value.bool (decide (t8 < (vs.len : Int)))) (fun w=>by kernel_rfl) ?_
 refine vcL_nil ?_
 refine Vc.seq ?_
 refine Vc.cond (decide (t8 < (vs.len : Int))) (by kernel_rfl) (fun hb=>?_) (fun hb=>?_)
 ·have h := h.1 (of_decide_eq_true hb)
  refine Vc.skip ?_
  refine Vc.seq ?_
  refine Vc.block ?_
  refine Vc.seq ?_
  refine Vc.region ?_
  refine vcL_purs 2 [(5, (Value.int .i64 t8)), (10, (Value.int .i64 t8))] (by kernel_rfl) ?_
  refine vcL_nil ?_
  refine Vc.seq ?_
  refine Vc.region ?_
  refine vcL_purs 3 [(13, (Value.int .i64 t8)), (12, (Sl.v vs)), (11, f)] (by kernel_rfl) ?_
  obtain ⟨ad, hi, h⟩ := h
  refine vcL_pure rfl rfl (Value.pointer (some (ad.add (t8.toNat * 6)))) (fun w=>by exact exec_indexAt (s := vs) (el := 83) rfl (by kernel_rfl) (by kernel_rfl) (by kernel_rfl) (fun w=>by kernel_rfl) (hi).1 (hi).2.1 (hi).2.2 w) ?_
  obtain ⟨zz8, zz9, zza, zz5, zz6, zz7, hc, h⟩ := h
  refine vcL_val rfl rfl (Value.agg #[(Value.int .i64 zz8), (Value.int .i64 zz9), (Value.int .i64 zza), (Value.int .i64 zz5), (Value.int .i64 zz6), (Value.int .i64 zz7)]) (exec_load rfl (by kernel_rfl) (run_loadN (fun w=>by kernel_rfl) (fun w=>by kernel_rfl) ((hc)))) ?_
  refine vcL_eff rfl (opVC_callV rfl rfl (fv := f) (by kernel_rfl) (args := [(Value.agg #[(Value.int .i64 zz8), (Value.int .i64 zz9), (Value.int .i64 zza), (Value.int .i64 zz5), (Value.int .i64 zz6), (Value.int .i64 zz7)])]) (by kernel_rfl) (callV.mono h fun v vw1 h=>?_))
  obtain ⟨t16, rfl, h⟩ := h
  refine vcL_nil ?_
  refine Vc.cond t16 (by kernel_rfl) (fun hb=>?_) (fun hb=>?_)
  ·have h := h.1 (hb)
   refine Vc.seq ?_
   refine Vc.region ?_
   refine vcL_purs 2 [(4, (Value.int .i64 t8)), (17, (Value.int .i64 t8))] (by kernel_rfl) ?_
   refine vcL_nil ?_
   refine Vc.ret ?_
   refine outOf_ret ?_
   refine outOf_ret ?_
   refine outs_ret ?_
   refine done_mk (Value.int .i64 t8) (res1 (resC_tmp (by kernel_rfl))) ?_
   exact ⟨t8, rfl, h⟩
  ·have h := h.2 (hb)
   refine Vc.skip ?_
   refine Vc.region ?_
   refine vcL_purs 2 [(8, (Value.int .i64 (wrapI (t8 + 1)))), (18, (Value.int .i64 (wrapI (t8 + 1))))] (by kernel_rfl) ?_
   refine vcL_nil ?_
   exact ⟨(wrapI (t8 + 1)), 24, ⟨rfl, by kernel_rfl, by kernel_rfl, by kernel_rfl⟩, h⟩
 ·have h := h.2 (of_decide_eq_false hb)
  refine Vc.exit ?_
  refine outOf_hit ?_
  refine Vc.seq ?_
  refine Vc.region ?_
  refine vcL_pure rfl rfl (Value.int .i64 (-1)) (fun w=>by kernel_rfl) ?_
  refine vcL_nil ?_
  refine Vc.ret ?_
  refine outs_ret ?_
  refine done_mk (Value.int .i64 (-1)) (res1 (resC_tmp (by kernel_rfl))) ?_
  exact ⟨(-1), rfl, h⟩
theorem slices_IndexFunc_apiSpanapiSpan.go {vs : Sl} {f : Value} {w : World} {k : Value → World → Prop} (h : slices_IndexFunc_apiSpanapiSpan vs f w fun r0 w'=>k (Value.int .i64 r0) w') : callS Tryz.prog 128 [(Sl.v vs), f] w k := (slices_IndexFunc_apiSpanapiSpan.sound vs f w _ h).mono (by rintro _ _ ⟨r0, rfl, h⟩; exact h)
def cmp_Compare_int (x : Int) (y : Int) (w : World) (R : Int → World → Prop) : Prop :=
 callS Tryz.prog 171 [(Value.int .i64 x)] w fun v vw=>∃ (t8 : Bool), v = (Value.bool t8) ∧ callS Tryz.prog 171 [(Value.int .i64 y)] vw fun v2 vw1=>∃ (t10 : Bool), v2 = (Value.bool t10) ∧ ((t8 = true → ((t10 = true → R 0 vw1) ∧ (t10 = false → R (-1) vw1))) ∧ (t8 = false → ((t10 = true → R 1 vw1) ∧ (t10 = false → ((x < y → R (-1) vw1) ∧ (¬ (x < y) → ((y < x → R 1 vw1) ∧ (¬ (y < x) → R 0 vw1))))))))
set_option maxHeartbeats 8000000 in
theorem cmp_Compare_int.sound (x : Int) (y : Int) (w : World) (R : Int → World → Prop) (h : cmp_Compare_int x y w R) : callS Tryz.prog 129 [(Value.int .i64 x), (Value.int .i64 y)] w (fun v w'=>∃ (r0 : Int), v = (Value.int .i64 r0) ∧ R r0 w') := by
 unfold cmp_Compare_int at h
 refine calls_of_vc 20 rfl Tryz.func129 rfl (by kernel_rfl) (by simp) ?_
 refine Vc.seq ?_
 refine Vc.region ?_
 refine vcL_pure rfl rfl (Value.int .i64 0) (fun w=>by kernel_rfl) ?_
 refine vcL_nil ?_
 refine Vc.seq ?_
 refine Vc.region ?_
 refine vcL_pure rfl rfl (Value.int .i64 x) (fun w=>by kernel_rfl) ?_
 refine vcL_eff rfl (opVC_call rfl (by kernel_rfl) (callS.mono h fun v vw h=>?_))
 obtain ⟨t8, rfl, h⟩ := h
 refine vcL_pure rfl rfl (Value.bool t8) (fun w=>by kernel_rfl) ?_
 refine vcL_nil ?_
 refine Vc.seq ?_
 refine Vc.region ?_
 refine vcL_pure rfl rfl (Value.int .i64 y) (fun w=>by kernel_rfl) ?_
 refine vcL_eff rfl (opVC_call rfl (by kernel_rfl) (callS.mono h fun v2 vw1 h=>?_))
 obtain ⟨t10, rfl, h⟩ := h
 refine vcL_pure rfl rfl (Value.bool t10) (fun w=>by kernel_rfl) ?_
 refine vcL_nil ?_
 refine Vc.seq ?_
 refine Vc.seq ?_
 refine Vc.region ?_
 refine vcL_pure rfl rfl (Value.bool t8) (fun w=>by kernel_rfl) ?_
 refine vcL_nil ?_
 refine Vc.cond t8 (by kernel_rfl) (fun hb=>?_) (fun hb=>?_)
 ·have h := h.1 (hb)
  refine Vc.seq ?_
  refine Vc.seq ?_
  refine Vc.region ?_
  refine vcL_pure rfl rfl (Value.bool t10) (fun w=>by kernel_rfl) ?_
  refine vcL_nil ?_
  refine Vc.cond t10 (by kernel_rfl) (fun hb=>?_) (fun hb=>?_)
  ·have h := h.1 (hb)
   refine Vc.seq ?_
   refine Vc.region ?_
   refine vcL_pure rfl rfl (Value.int .i64 0) (fun w=>by kernel_rfl) ?_
   refine vcL_nil ?_
   refine Vc.ret ?_
   refine outs_ret ?_
   refine done_mk (Value.int .i64 0) (res1 (resC_tmp (by kernel_rfl))) ?_
   exact ⟨0, rfl, h⟩
  ·have h := h.2 (hb)
   refine Vc.skip ?_
   refine Vc.seq ?_
   refine Vc.region ?_
   refine vcL_pure rfl rfl (Value.int .i64 (-1)) (fun w=>by kernel_rfl) ?_
   refine vcL_nil ?_
   refine Vc.ret ?_
   refine outs_ret ?_
   refine done_mk (Value.int .i64 (-1)) (res1 (resC_tmp (by kernel_rfl))) ?_
   exact ⟨(-1), rfl, h⟩
 ·have h := h.2 (hb)
  refine Vc.skip ?_
  refine Vc.seq ?_
  refine Vc.seq ?_
  refine Vc.region ?_
  refine vcL_pure rfl rfl (Value.bool t10) (fun w=>by kernel_rfl) ?_
  refine vcL_nil ?_
  refine Vc.cond t10 (by kernel_rfl) (fun hb=>?_) (fun hb=>?_)
  ·have h := h.1 (hb)
   refine Vc.seq ?_
   refine Vc.region ?_
   refine vcL_pure rfl rfl (Value.int .i64 1) (fun w=>by kernel_rfl) ?_
   refine vcL_nil ?_
   refine Vc.ret ?_
   refine outs_ret ?_
   refine done_mk (Value.int .i64 1) (res1 (resC_tmp (by kernel_rfl))) ?_
   exact ⟨1, rfl, h⟩
  ·have h := h.2 (hb)
   refine Vc.skip ?_
   refine Vc.seq ?_
   refine Vc.seq ?_
   refine Vc.region ?_
   refine vcL_purs 3 [(16, (Value.bool (decide (x < y)))), (15, (Value.int .i64 y)), (14, (Value.int .i64 x))] (by kernel_rfl) ?_
   refine vcL_nil ?_
   refine Vc.cond (decide (x < y)) (by kernel_rfl) (fun hb=>?_) (fun hb=>?_)
   ·have h := h.1 (of_decide_eq_true hb)
    refine Vc.seq ?_
    refine Vc.region ?_
    refine vcL_pure rfl rfl (Value.int .i64 (-1)) (fun w=>by kernel_rfl) ?_
    refine vcL_nil ?_
    refine Vc.ret ?_
    refine outs_ret ?_
    refine done_mk (Value.int .i64 (-1)) (res1 (resC_tmp (by kernel_rfl))) ?_
    exact ⟨(-1), rfl, h⟩
   ·have h := h.2 (of_decide_eq_false hb)
    refine Vc.skip ?_
    refine Vc.seq ?_
    refine Vc.seq ?_
    refine Vc.region ?_
    refine vcL_purs 3 [(19, (Value.bool (decide (y < x)))), (18, (Value.int .i64 y)), (17, (Value.int .i64 x))] (by kernel_rfl) ?_
    refine vcL_nil ?_
    refine Vc.cond (decide (y < x)) (by kernel_rfl) (fun hb=>?_) (fun hb=>?_)
    ·have h := h.1 (of_decide_eq_true hb)
     refine Vc.seq ?_
     refine Vc.region ?_
     refine vcL_pure rfl rfl (Value.int .i64 1) (fun w=>by kernel_rfl) ?_
     refine vcL_nil ?_
     refine Vc.ret ?_
     refine outs_ret ?_
     refine done_mk (Value.int .i64 1) (res1 (resC_tmp (by kernel_rfl))) ?_
     exact ⟨1, rfl, h⟩
    ·have h := h.2 (of_decide_eq_false hb)
     refine Vc.skip ?_
     refine Vc.seq ?_
     refine Vc.region ?_
     refine vcL_pure rfl rfl (Value.int .i64 0) (fun w=>by kernel_rfl) ?_
     refine vcL_nil ?_
     refine Vc.ret ?_
     refine outs_ret ?_
     refine done_mk (Value.int .i64 0) (res1 (resC_tmp (by kernel_rfl))) ?_
     exact ⟨0, rfl, h⟩
theorem cmp_Compare_int.go {x : Int} {y : Int} {w : World} {k : Value → World → Prop} (h : cmp_Compare_int x y w fun r0 w'=>k (Value.int .i64 r0) w') : callS Tryz.prog 129 [(Value.int .i64 x), (Value.int .i64 y)] w k := (cmp_Compare_int.sound x y w _ h).mono (by rintro _ _ ⟨r0, rfl, h⟩; exact h)
def vers_Print (zz0 : Int) (zz1 : Int) (zz2 : Int) (w : World) (R : ByteArray → World → Prop) : Prop :=
 newS w [(Value.int .i64 zz0), (Value.int .i64 zz1), (Value.int .i64 zz2)] 30 fun a vw=>∃ (zz3f : Int) (zz3g : Int) (zz3h : Int), (ldc vw a [(Value.int .i64 zz3f), (Value.int .i64 zz3g), (Value.int .i64 zz3h)]) ∧ callS Tryz.prog 97 [(Value.agg #[(Value.int .i64 zz3f), (Value.int .i64 zz3g), (Value.int .i64 zz3h)])] vw fun v vw1=>∃ (t4 : Bool), v = (Value.bool t4) ∧ (((!t4) = true → R (ByteArray.mk #[]) vw1) ∧ ((!t4) = false → bnd vw1.drew fun (vw2 : World)=>∃ (t7 : Int), (ldc vw2 a [(Value.int .i64 t7)]) ∧ ∃ (t11 : Int), (ldc vw2 (a.add 1) [(Value.int .i64 t11)]) ∧ ∃ (t16 : Int), (ldc vw2 (a.add 2) [(Value.int .i64 t16)]) ∧ callX Tryz.prog 185 [(Value.int .i64 t7)] vw2 fun v7 vw6=>∃ (t8 : ByteArray), v7 = (Value.string t8) ∧ (((t8.size + (ByteArray.mk #[46]).size : Nat) : Int) ≤ maxI) ∧ callX Tryz.prog 185 [(Value.int .i64 t11)] vw6 fun v10 vw9=>∃ (t12 : ByteArray), v10 = (Value.string t12) ∧ ((((t8 ++ (ByteArray.mk #[46])).size + t12.size : Nat) : Int) ≤ maxI) ∧ (((((t8 ++ (ByteArray.mk #[46])) ++ t12).size + (ByteArray.mk #[46]).size : Nat) : Int) ≤ maxI) ∧ callS Tryz.prog 185 [(Value.int .i64 t16)] vw9 fun v15 vw14=>∃ (t17 : ByteArray), v15 = (Value.string t17) ∧ ((((((t8 ++ (ByteArray.mk #[46])) ++ t12) ++ (ByteArray.mk #[46])).size + t17.size : Nat) : Int) ≤ maxI) ∧ R ((((t8 ++ (ByteArray.mk #[46])) ++ t12) ++ (ByteArray.mk #[46])) ++ t17) vw14))
set_option maxHeartbeats 8000000 in
theorem vers_Print.sound (zz0 : Int) (zz1 : Int) (zz2 : Int) (w : World) (R : ByteArray → World → Prop) (h : vers_Print zz0 zz1 zz2 w R) : callS Tryz.prog 144 [(Value.agg #[(Value.int .i64 zz0), (Value.int .i64 zz1), (Value.int .i64 zz2)])] w (fun v w'=>∃ (r0 : ByteArray), v = (Value.string r0) ∧ R r0 w') := by
 unfold vers_Print at h
 refine calls_of_vc 19 rfl Tryz.func144 rfl (by kernel_rfl) (by simp) ?_
 refine Vc.seq ?_
 refine Vc.region ?_
 refine vcL_eff rfl (opVC_new rfl (fun a=>Value.pointer (some a)) (by kernel_rfl) (newS.mono h fun a vw hx h=>?_))
 refine vcL_pure rfl rfl (Value.string (ByteArray.mk #[])) (fun w=>by kernel_rfl) ?_
 refine vcL_nil ?_
 refine Vc.seq ?_
 refine Vc.seq ?_
 refine Vc.region ?_
 obtain ⟨zz3f, zz3g, zz3h, hc, h⟩ := h
 refine vcL_val rfl rfl (Value.agg #[(Value.int .i64 zz3f), (Value.int .i64 zz3g), (Value.int .i64 zz3h)]) (exec_load rfl (by kernel_rfl) (run_loadN (fun w=>by kernel_rfl) (fun w=>by kernel_rfl) ((hc)))) ?_
 refine vcL_eff rfl (opVC_call rfl (by kernel_rfl) (callS.mono h fun v vw1 h=>?_))
 obtain ⟨t4, rfl, h⟩ := h
 refine vcL_pure rfl rfl (Value.bool (!t4)) (fun w=>by kernel_rfl) ?_
 refine vcL_nil ?_
 refine Vc.cond (!t4) (by kernel_rfl) (fun hb=>?_) (fun hb=>?_)
 ·have h := h.1 (hb)
  refine Vc.seq ?_
  refine Vc.region ?_
  refine vcL_pure rfl rfl (Value.string (ByteArray.mk #[])) (fun w=>by kernel_rfl) ?_
  refine vcL_nil ?_
  refine Vc.ret ?_
  refine outs_ret ?_
  refine done_mk (Value.string (ByteArray.mk #[])) (res1 (resC_tmp (by kernel_rfl))) ?_
  exact ⟨(ByteArray.mk #[]), rfl, h⟩
 ·have h := h.2 (hb)
  refine Vc.skip ?_
  refine Vc.seq ?_
  obtain ⟨vw2, hvw2⟩ : ∃ y, y = vw1.drew := ⟨_, rfl⟩
  have h := h vw2 hvw2
  refine Vc.draw (by kernel_rfl) (fun i=>!(memN [11] i)) (.pur 0 (.val 1 (.pur 4 (.val 5 (.pur 9 (.val 10 (.eff 2 (.pur 3 (.eff 6 (.pur 7 (.pur 8 (.eff 11 (.pur 12 (.pur 13 .fin)) .stop))) .stop)) .stop))))))) (by kernel_rfl) ?_
  rw [← hvw2]
  clear hvw2
  refine vcS_pure rfl rfl rfl (Value.pointer (some a)) (fun w=>by kernel_rfl) ?_
  obtain ⟨t7, hc3, h⟩ := h
  refine vcS_val rfl rfl rfl (Value.int .i64 t7) (fun w' hx=>exec_load rfl (by kernel_rfl) (run_load1 (fun w=>by kernel_rfl) ((hc3).ext hx))) ?_
  refine vcS_pure rfl rfl rfl (Value.pointer (some (a.add 1))) (fun w=>by kernel_rfl) ?_
  obtain ⟨t11, hc4, h⟩ := h
  refine vcS_val rfl rfl rfl (Value.int .i64 t11) (fun w' hx=>exec_load rfl (by kernel_rfl) (run_load1 (fun w=>by kernel_rfl) ((hc4).ext hx))) ?_
  refine vcS_pure rfl rfl rfl (Value.pointer (some (a.add 2))) (fun w=>by kernel_rfl) ?_
  obtain ⟨t16, hc5, h⟩ := h
  refine vcS_val rfl rfl rfl (Value.int .i64 t16) (fun w' hx=>exec_load rfl (by kernel_rfl) (run_load1 (fun w=>by kernel_rfl) ((hc5).ext hx))) ?_
  refine vcS_eff rfl rfl (opVC_call rfl (by kernel_rfl) (callS.mono h fun v7 vw6 h=>?_)) vcS_stop
  obtain ⟨hx8, h⟩ := h
  obtain ⟨t8, rfl, h⟩ := h
  refine ⟨fun _ => hx8, ?_⟩
  obtain ⟨hi, h⟩ := h
  refine vcS_pure rfl rfl rfl (Value.string (t8 ++ (ByteArray.mk #[46]))) (fun w=>by exact exec_str_add (a := t8) (b := (ByteArray.mk #[46])) rfl (by kernel_rfl) (by kernel_rfl) (hi) w) ?_
  refine vcS_eff rfl rfl (opVC_call rfl (by kernel_rfl) (callS.mono h fun v10 vw9 h=>?_)) vcS_stop
  obtain ⟨hx11, h⟩ := h
  obtain ⟨t12, rfl, h⟩ := h
  refine ⟨fun _ => hx11, ?_⟩
  obtain ⟨hi12, h⟩ := h
  refine vcS_pure rfl rfl rfl (Value.string ((t8 ++ (ByteArray.mk #[46])) ++ t12)) (fun w=>by exact exec_str_add (a := (t8 ++ (ByteArray.mk #[46]))) (b := t12) rfl (by kernel_rfl) (by kernel_rfl) (hi12) w) ?_
  obtain ⟨hi13, h⟩ := h
  refine vcS_pure rfl rfl rfl (Value.string (((t8 ++ (ByteArray.mk #[46])) ++ t12) ++ (ByteArray.mk #[46]))) (fun w=>by exact exec_str_add (a := ((t8 ++ (ByteArray.mk #[46])) ++ t12)) (b := (ByteArray.mk #[46])) rfl (by kernel_rfl) (by kernel_rfl) (hi13) w) ?_
  refine vcS_eff rfl rfl (opVC_call rfl (by kernel_rfl) (callS.mono h fun v15 vw14 h=>?_)) vcS_stop
  obtain ⟨t17, rfl, h⟩ := h
  refine ⟨fun hb=>absurd hb (by decide), ?_⟩
  obtain ⟨hi17, h⟩ := h
  refine vcS_pure rfl rfl rfl (Value.string ((((t8 ++ (ByteArray.mk #[46])) ++ t12) ++ (ByteArray.mk #[46])) ++ t17)) (fun w=>by exact exec_str_add (a := (((t8 ++ (ByteArray.mk #[46])) ++ t12) ++ (ByteArray.mk #[46]))) (b := t17) rfl (by kernel_rfl) (by kernel_rfl) (hi17) w) ?_
  refine vcS_pure rfl rfl rfl (Value.string ((((t8 ++ (ByteArray.mk #[46])) ++ t12) ++ (ByteArray.mk #[46])) ++ t17)) (fun w=>by kernel_rfl) ?_
  refine vcS_fin ?_
  refine Vc.ret ?_
  refine outs_ret ?_
  refine done_mk (Value.string ((((t8 ++ (ByteArray.mk #[46])) ++ t12) ++ (ByteArray.mk #[46])) ++ t17)) (res1 (resC_tmp (by kernel_rfl))) ?_
  exact ⟨((((t8 ++ (ByteArray.mk #[46])) ++ t12) ++ (ByteArray.mk #[46])) ++ t17), rfl, h⟩
theorem vers_Print.go {zz0 : Int} {zz1 : Int} {zz2 : Int} {w : World} {k : Value → World → Prop} (h : vers_Print zz0 zz1 zz2 w fun r0 w'=>k (Value.string r0) w') : callS Tryz.prog 144 [(Value.agg #[(Value.int .i64 zz0), (Value.int .i64 zz1), (Value.int .i64 zz2)])] w k := (vers_Print.sound zz0 zz1 zz2 w _ h).mono (by rintro _ _ ⟨r0, rfl, h⟩; exact h)
def pack_lines (b : Option Addr) (word : ByteArray) (l : Sl) (w : World) (R : World → Prop) : Prop :=
 loop1 0 w fun t10 vw nxt=>((t10 < (l.len : Int) → ∃ (ad : Addr), (l.a = some ad ∧ (0 : Int) ≤ t10 ∧ t10 < (l.len : Int)) ∧ ∃ (zz1q : ByteArray) (zz1r : Sl), (ldc vw (ad.add (t10.toNat * 2)) [(Value.string zz1q), (Sl.v zz1r)]) ∧ newS vw [(Value.string (ByteArray.mk #[])), (Sl.v Sl.nil)] 81 fun a vw1=>stw vw1 a [(Value.string zz1q), (Sl.v zz1r)] fun vw2=>bnd vw2.drew fun (vw3 : World)=>(((word.size + (ByteArray.mk #[32]).size : Nat) : Int) ≤ maxI) ∧ ∃ (t18 : ByteArray), (ldc vw3 a [(Value.string t18)]) ∧ ((((word ++ (ByteArray.mk #[32])).size + t18.size : Nat) : Int) ≤ maxI) ∧ (((((word ++ (ByteArray.mk #[32])) ++ t18).size + (ByteArray.mk #[32]).size : Nat) : Int) ≤ maxI) ∧ ∃ (t22 : Sl), (ldc vw3 (a.add 1) [(Sl.v t22)]) ∧ callX Tryz.prog 186 [(Sl.v t22)] vw3 fun v vw9=>∃ (t23 : ByteArray), v = (Value.string t23) ∧ ((((((word ++ (ByteArray.mk #[32])) ++ t18) ++ (ByteArray.mk #[32])).size + t23.size : Nat) : Int) ≤ maxI) ∧ (((((((word ++ (ByteArray.mk #[32])) ++ t18) ++ (ByteArray.mk #[32])) ++ t23).size + (ByteArray.mk #[10]).size : Nat) : Int) ≤ maxI) ∧ callS Tryz.prog 143 [(Value.pointer b), (Value.string (((((word ++ (ByteArray.mk #[32])) ++ t18) ++ (ByteArray.mk #[32])) ++ t23) ++ (ByteArray.mk #[10])))] vw9 fun v13 vw12=>∃ (t26 : Int) (t26b : Value), v13 = (Value.tuple #[(Value.int .i64 t26), t26b]) ∧ nxt (wrapI (t10 + 1)) vw12) ∧ (¬ (t10 < (l.len : Int)) → R vw))
set_option maxHeartbeats 8000000 in
theorem pack_lines.sound (b : Option Addr) (word : ByteArray) (l : Sl) (w : World) (R : World → Prop) (h : pack_lines b word l w R) : callS Tryz.prog 145 [(Value.pointer b), (Value.string word), (Sl.v l)] w (fun v w'=>v = (Value.tuple #[]) ∧ R w') := by
 unfold pack_lines at h
 refine calls_of_vc 28 rfl Tryz.func145 rfl (by kernel_rfl) (by simp) ?_
 refine Vc.seq ?_
 refine Vc.region ?_
 refine vcL_purs 3 [(10, (Value.int .i64 0)), (9, (Value.int .i64 (l.len : Int))), (8, (Sl.v l))] (by kernel_rfl) ?_
 refine vcL_nil ?_
 refine Vc.block ?_
 obtain ⟨vI, mu, h, hr⟩ := h
 refine Vc.loopJ (σ := Int) [10] [7, 11, 12, 13, 14, 15, 16, 17, 18, 19, 20, 21, 22, 23, 24, 25, 26, 27] (fun s=>[(10, (Value.int .i64 s))]) (fun s w=>vI s w) (fun s w=>mu s w) 0 h (fun _ => rfl) (by kernel_rfl) ?_
 intro t10 vw j h
 have h := hr t10 vw h
 refine Vc.seq ?_
 refine Vc.region ?_
 refine vcL_pure rfl rfl (Value.bool (decide (t10 < (l.len : Int)))) (fun w=>by kernel_rfl) ?_
 refine vcL_nil ?_
 refine Vc.seq ?_
 refine Vc.cond (decide (t10 < (l.len : Int))) (by kernel_rfl) (fun hb=>?_) (fun hb=>?_)
 ·have h := h.1 (of_decide_eq_true hb)
  refine Vc.skip ?_
  refine Vc.seq ?_
  refine Vc.block ?_
  refine Vc.seq ?_
  refine Vc.region ?_
  obtain ⟨ad, hi, h⟩ := h
  refine vcL_pure rfl rfl (Value.pointer (some (ad.add (t10.toNat * 2)))) (fun w=>by exact exec_indexAt (s := l) (el := 81) rfl (by kernel_rfl) (by kernel_rfl) (by kernel_rfl) (fun w=>by kernel_rfl) (hi).1 (hi).2.1 (hi).2.2 w) ?_
  obtain ⟨zz1q, zz1r, hc, h⟩ := h
  refine vcL_val rfl rfl (Value.agg #[(Value.string zz1q), (Sl.v zz1r)]) (exec_load rfl (by kernel_rfl) (run_loadN (fun w=>by kernel_rfl) (fun w=>by kernel_rfl) ((hc)))) ?_
  refine vcL_eff rfl (opVC_new rfl (fun a=>Value.pointer (some a)) (by kernel_rfl) (newS.mono h fun a vw1 hx h=>?_))
  refine vcL_eff rfl (opVC_store rfl rfl (a := a) (by kernel_rfl) (v := (Value.agg #[(Value.string zz1q), (Sl.v zz1r)])) (by kernel_rfl) [(Value.string zz1q), (Sl.v zz1r)] (by kernel_rfl) (fun w=>by kernel_rfl) (by kernel_rfl) (stw.mono h fun vw2 h=>?_))
  refine vcL_nil ?_
  obtain ⟨vw3, hvw3⟩ : ∃ y, y = vw2.drew := ⟨_, rfl⟩
  have h := h vw3 hvw3
  refine Vc.draw (by kernel_rfl) (fun i=>!(memN [12] i)) (.pur 0 (.pur 1 (.pur 2 (.pur 3 (.val 4 (.pur 5 (.pur 6 (.pur 7 (.val 8 (.eff 9 (.pur 10 (.pur 11 (.eff 12 .fin .stop))) .stop)))))))))) (by kernel_rfl) ?_
  rw [← hvw3]
  clear hvw3
  refine vcS_pure rfl rfl rfl (Value.pointer b) (fun w=>by kernel_rfl) ?_
  refine vcS_pure rfl rfl rfl (Value.string word) (fun w=>by kernel_rfl) ?_
  obtain ⟨hi4, h⟩ := h
  refine vcS_pure rfl rfl rfl (Value.string (word ++ (ByteArray.mk #[32]))) (fun w=>by exact exec_str_add (a := word) (b := (ByteArray.mk #[32])) rfl (by kernel_rfl) (by kernel_rfl) (hi4) w) ?_
  refine vcS_pure rfl rfl rfl (Value.pointer (some a)) (fun w=>by kernel_rfl) ?_
  obtain ⟨t18, hc5, h⟩ := h
  refine vcS_val rfl rfl rfl (Value.string t18) (fun w' hx=>exec_load rfl (by kernel_rfl) (run_load1 (fun w=>by kernel_rfl) ((hc5).ext hx))) ?_
  obtain ⟨hi6, h⟩ := h
  refine vcS_pure rfl rfl rfl (Value.string ((word ++ (ByteArray.mk #[32])) ++ t18)) (fun w=>by exact exec_str_add (a := (word ++ (ByteArray.mk #[32]))) (b := t18) rfl (by kernel_rfl) (by kernel_rfl) (hi6) w) ?_
  obtain ⟨hi7, h⟩ := h
  refine vcS_pure rfl rfl rfl (Value.string (((word ++ (ByteArray.mk #[32])) ++ t18) ++ (ByteArray.mk #[32]))) (fun w=>by exact exec_str_add (a := ((word ++ (ByteArray.mk #[32])) ++ t18)) (b := (ByteArray.mk #[32])) rfl (by kernel_rfl) (by kernel_rfl) (hi7) w) ?_
  refine vcS_pure rfl rfl rfl (Value.pointer (some (a.add 1))) (fun w=>by kernel_rfl) ?_
  obtain ⟨t22, hc8, h⟩ := h
  refine vcS_val rfl rfl rfl (Sl.v t22) (fun w' hx=>exec_load rfl (by kernel_rfl) (run_load1 (fun w=>by kernel_rfl) ((hc8).ext hx))) ?_
  refine vcS_eff rfl rfl (opVC_call rfl (by kernel_rfl) (callS.mono h fun v vw9 h=>?_)) vcS_stop
  obtain ⟨hx, h⟩ := h
  obtain ⟨t23, rfl, h⟩ := h
  refine ⟨fun _ => hx, ?_⟩
  obtain ⟨hi10, h⟩ := h
  refine vcS_pure rfl rfl rfl (Value.string ((((word ++ (ByteArray.mk #[32])) ++ t18) ++ (ByteArray.mk #[32])) ++ t23)) (fun w=>by exact exec_str_add (a := (((word ++ (ByteArray.mk #[32])) ++ t18) ++ (ByteArray.mk #[32]))) (b := t23) rfl (by kernel_rfl) (by kernel_rfl) (hi10) w) ?_
  obtain ⟨hi11, h⟩ := h
  refine vcS_pure rfl rfl rfl (Value.string (((((word ++ (ByteArray.mk #[32])) ++ t18) ++ (ByteArray.mk #[32])) ++ t23) ++ (ByteArray.mk #[10]))) (fun w=>by exact exec_str_add (a := ((((word ++ (ByteArray.mk #[32])) ++ t18) ++ (ByteArray.mk #[32])) ++ t23)) (b := (ByteArray.mk #[10])) rfl (by kernel_rfl) (by kernel_rfl) (hi11) w) ?_
  refine vcS_eff rfl rfl (opVC_call rfl (by kernel_rfl) (callS.mono h fun v13 vw12 h=>?_)) vcS_stop
  obtain ⟨t26, t26b, rfl, h⟩ := h
  refine ⟨fun hb=>absurd hb (by decide), ?_⟩
  refine vcS_fin ?_
  refine Vc.region ?_
  refine vcL_purs 2 [(10, (Value.int .i64 (wrapI (t10 + 1)))), (27, (Value.int .i64 (wrapI (t10 + 1))))] (by kernel_rfl) ?_
  refine vcL_nil ?_
  exact ⟨(wrapI (t10 + 1)), 38, ⟨rfl, by kernel_rfl, by kernel_rfl, by kernel_rfl⟩, h⟩
 ·have h := h.2 (of_decide_eq_false hb)
  refine Vc.exit ?_
  refine outOf_hit ?_
  refine done_mk (Value.tuple #[]) (res0 ) ?_
  exact ⟨rfl, h⟩
theorem pack_lines.go {b : Option Addr} {word : ByteArray} {l : Sl} {w : World} {k : Value → World → Prop} (h : pack_lines b word l w fun  w'=>k (Value.tuple #[]) w') : callS Tryz.prog 145 [(Value.pointer b), (Value.string word), (Sl.v l)] w k := (pack_lines.sound b word l w _ h).mono (by rintro _ _ ⟨rfl, h⟩; exact h)
def slices_insertionSortCmpFunc_apiVersion (data : Sl) (a : Int) (b : Int) (cmp : Value) (w : World) (R : World → Prop) : Prop :=
 loop1 (wrapI (a + 1)) w fun i vw nxt=>((i < b → loop1 i vw fun vj vw1 nxt2=>bnd vw1.drew fun (vw3 : World)=>bnd (decide (a < vj)) fun (b4 : Bool)=>∃ (ad : Addr), grd b4 (data.a = some ad ∧ (0 : Int) ≤ vj ∧ vj < (data.len : Int)) ∧ ∃ (zz2l : Int) (zz2m : Int) (zz2n : Int), grd b4 (ldc vw3 (ad.add (vj.toNat * 3)) [(Value.int .i64 zz2l), (Value.int .i64 zz2m), (Value.int .i64 zz2n)]) ∧ ∃ (ad5 : Addr), grd b4 (data.a = some ad5 ∧ (0 : Int) ≤ (wrapI (vj - 1)) ∧ (wrapI (vj - 1)) < (data.len : Int)) ∧ ∃ (zz2u : Int) (zz2v : Int) (zz2w : Int), grd b4 (ldc vw3 (ad5.add ((wrapI (vj - 1)).toNat * 3)) [(Value.int .i64 zz2u), (Value.int .i64 zz2v), (Value.int .i64 zz2w)]) ∧ gCall b4 (fun (t32 : Int) (vw8 : World)=>(((b4 && (decide (t32 < 0))) = true → bnd vw8.drew fun (vw9 : World)=>∃ (ad10 : Addr), (data.a = some ad10 ∧ (0 : Int) ≤ (wrapI (vj - 1)) ∧ (wrapI (vj - 1)) < (data.len : Int)) ∧ ∃ (zz1u : Int) (zz1v : Int) (zz1w : Int), (ldc vw9 (ad10.add ((wrapI (vj - 1)).toNat * 3)) [(Value.int .i64 zz1u), (Value.int .i64 zz1v), (Value.int .i64 zz1w)]) ∧ ∃ (ad13 : Addr), (data.a = some ad13 ∧ (0 : Int) ≤ vj ∧ vj < (data.len : Int)) ∧ ∃ (zz1x : Int) (zz1y : Int) (zz1z : Int), (ldc vw9 (ad13.add (vj.toNat * 3)) [(Value.int .i64 zz1x), (Value.int .i64 zz1y), (Value.int .i64 zz1z)]) ∧ ∃ (ad16 : Addr), (data.a = some ad16 ∧ (0 : Int) ≤ vj ∧ vj < (data.len : Int)) ∧ stw vw9 (ad16.add (vj.toNat * 3)) [(Value.int .i64 zz1u), (Value.int .i64 zz1v), (Value.int .i64 zz1w)] fun vw18=>∃ (ad19 : Addr), (data.a = some ad19 ∧ (0 : Int) ≤ (wrapI (vj - 1)) ∧ (wrapI (vj - 1)) < (data.len : Int)) ∧ stw vw18 (ad19.add ((wrapI (vj - 1)).toNat * 3)) [(Value.int .i64 zz1x), (Value.int .i64 zz1y), (Value.int .i64 zz1z)] fun vw21=>nxt2 (wrapI (vj - 1)) vw21) ∧ ((b4 && (decide (t32 < 0))) = false → nxt (wrapI (i + 1)) vw8))) (fun q=>callV Tryz.prog cmp [(Value.agg #[(Value.int .i64 zz2l), (Value.int .i64 zz2m), (Value.int .i64 zz2n)]), (Value.agg #[(Value.int .i64 zz2u), (Value.int .i64 zz2v), (Value.int .i64 zz2w)])] vw3 fun v vw8=>∃ (t32 : Int), v = (Value.int .i64 t32) ∧ q t32 vw8) (fun q=>q 0 vw3)) ∧ (¬ (i < b) → R vw))
set_option maxHeartbeats 8000000 in
theorem slices_insertionSortCmpFunc_apiVersion.sound (data : Sl) (a : Int) (b : Int) (cmp : Value) (w : World) (R : World → Prop) (h : slices_insertionSortCmpFunc_apiVersion data a b cmp w R) : callS Tryz.prog 147 [(Sl.v data), (Value.int .i64 a), (Value.int .i64 b), cmp] w (fun v w'=>v = (Value.tuple #[]) ∧ R w') := by
 unfold slices_insertionSortCmpFunc_apiVersion at h
 refine calls_of_vc 53 rfl Tryz.func147 rfl (by kernel_rfl) (by simp) ?_
 refine Vc.seq ?_
 refine Vc.region ?_
 refine vcL_purs 3 [(8, (Value.int .i64 (wrapI (a + 1)))), (11, (Value.int .i64 (wrapI (a + 1)))), (10, (Value.int .i64 a))] (by kernel_rfl) ?_
 refine vcL_nil ?_
 refine Vc.block ?_
 obtain ⟨vI22, mu23, h, hr24⟩ := h
 refine Vc.loopJ (σ := Int) [8] [9, 12, 13, 14, 15, 16, 17, 18, 19, 20, 21, 22, 23, 24, 25, 26, 27, 28, 29, 30, 31, 32, 33, 34, 35, 36, 37, 38, 39, 40, 41, 42, 43, 44, 45, 46, 47, 48, 49, 50, 51, 52] (fun s=>[(8, (Value.int .i64 s))]) (fun s w=>vI22 s w) (fun s w=>mu23 s w) (wrapI (a + 1)) h (fun _ => rfl) (by kernel_rfl) ?_
 intro i vw j h
 have h := hr24 i vw h
 refine Vc.seq ?_
 refine Vc.seq ?_
 refine Vc.region ?_
 refine vcL_purs 3 [(14, (Value.bool (decide (i < b)))), (13, (Value.int .i64 b)), (12, (Value.int .i64 i))] (by kernel_rfl) ?_
 refine vcL_nil ?_
 refine Vc.cond (decide (i < b)) (by kernel_rfl) (fun hb=>?_) (fun hb=>?_)
 ·have h := h.1 (of_decide_eq_true hb)
  refine Vc.skip ?_
  refine Vc.seq ?_
  refine Vc.block ?_
  refine Vc.seq ?_
  refine Vc.region ?_
  refine vcL_purs 2 [(9, (Value.int .i64 i)), (17, (Value.int .i64 i))] (by kernel_rfl) ?_
  refine vcL_nil ?_
  refine Vc.block ?_
  obtain ⟨vI, mu, h, hr⟩ := h
  refine Vc.loopJ (σ := Int) [9] [18, 19, 20, 21, 22, 23, 24, 25, 26, 27, 28, 29, 30, 31, 32, 33, 34, 35, 36, 37, 38, 39, 40, 41, 42, 43, 44, 45, 46, 47, 48, 49, 50, 51, 52] (fun s=>[(9, (Value.int .i64 s))]) (fun s w=>vI s w) (fun s w=>mu s w) i h (fun _ => rfl) (by kernel_rfl) ?_
  intro vj vw1 j h
  have h := hr vj vw1 h
  refine Vc.seq ?_
  refine Vc.seq ?_
  obtain ⟨vw3, hvw3⟩ : ∃ y, y = vw1.drew := ⟨_, rfl⟩
  have h := h vw3 hvw3
  refine Vc.draw (by kernel_rfl) (fun i=>!(memN [14] i)) (.pur 0 (.pur 1 (.pur 2 (.pur 3 (.pur 4 (.pur 5 (.pur 6 (.pur 7 (.val 8 (.pur 9 (.pur 10 (.pur 11 (.pur 12 (.val 13 (.eff 14 (.pur 15 (.pur 16 .fin)) .stop))))))))))))))) (by kernel_rfl) ?_
  rw [← hvw3]
  clear hvw3
  refine vcS_pure rfl rfl rfl (Value.int .i64 vj) (fun w=>by kernel_rfl) ?_
  refine vcS_pure rfl rfl rfl (Value.int .i64 a) (fun w=>by kernel_rfl) ?_
  refine vcS_pure rfl rfl rfl (Value.bool (decide (a < vj))) (fun w=>by kernel_rfl) ?_
  obtain ⟨b4, hb4⟩ : ∃ y, y = (decide (a < vj)) := ⟨_, rfl⟩
  have h := h b4 hb4
  refine vcS_pure rfl rfl rfl (Value.bool b4) (fun w=>by rw [hb4]; kernel_rfl) ?_
  refine vcS_guard rfl b4 (wanted_g (d := 21) rfl (by kernel_rfl) b4 (by kernel_rfl) b4 (eqT b4)) rfl cmp (fun hg w=>by subst hg; kernel_rfl) ?_
  refine vcS_guard rfl b4 (wanted_g (d := 21) rfl (by kernel_rfl) b4 (by kernel_rfl) b4 (eqT b4)) rfl (Sl.v data) (fun hg w=>by subst hg; kernel_rfl) ?_
  refine vcS_guard rfl b4 (wanted_g (d := 21) rfl (by kernel_rfl) b4 (by kernel_rfl) b4 (eqT b4)) rfl (Value.int .i64 vj) (fun hg w=>by subst hg; kernel_rfl) ?_
  obtain ⟨ad, hi, h⟩ := h
  refine vcS_guard rfl b4 (wanted_g (d := 21) rfl (by kernel_rfl) b4 (by kernel_rfl) b4 (eqT b4)) rfl (Value.pointer (some (ad.add (vj.toNat * 3)))) (fun hg w=>by subst hg; exact exec_indexAt (s := data) (el := 30) rfl (by kernel_rfl) (by kernel_rfl) (by kernel_rfl) (fun w=>by kernel_rfl) (hi rfl).1 (hi rfl).2.1 (hi rfl).2.2 w) ?_
  obtain ⟨zz2l, zz2m, zz2n, hc, h⟩ := h
  refine vcS_valG rfl b4 (wanted_g (d := 21) rfl (by kernel_rfl) b4 (by kernel_rfl) b4 (eqT b4)) rfl (Value.agg #[(Value.int .i64 zz2l), (Value.int .i64 zz2m), (Value.int .i64 zz2n)]) (fun hg w' hx=>by subst hg; exact exec_load rfl (by kernel_rfl) (run_loadN (fun w=>by kernel_rfl) (fun w=>by kernel_rfl) ((hc rfl).ext hx))) ?_
  refine vcS_guard rfl b4 (wanted_g (d := 21) rfl (by kernel_rfl) b4 (by kernel_rfl) b4 (eqT b4)) rfl (Sl.v data) (fun hg w=>by subst hg; kernel_rfl) ?_
  refine vcS_guard rfl b4 (wanted_g (d := 21) rfl (by kernel_rfl) b4 (by kernel_rfl) b4 (eqT b4)) rfl (Value.int .i64 vj) (fun hg w=>by subst hg; kernel_rfl) ?_
  refine vcS_guard rfl b4 (wanted_g (d := 21) rfl (by kernel_rfl) b4 (by kernel_rfl) b4 (eqT b4)) rfl (Value.int .i64 (wrapI (vj - 1))) (fun hg w=>by subst hg; kernel_rfl) ?_
  obtain ⟨ad5, hi6, h⟩ := h
  refine vcS_guard rfl b4 (wanted_g (d := 21) rfl (by kernel_rfl) b4 (by kernel_rfl) b4 (eqT b4)) rfl (Value.pointer (some (ad5.add ((wrapI (vj - 1)).toNat * 3)))) (fun hg w=>by subst hg; exact exec_indexAt (s := data) (el := 30) rfl (by kernel_rfl) (by kernel_rfl) (by kernel_rfl) (fun w=>by kernel_rfl) (hi6 rfl).1 (hi6 rfl).2.1 (hi6 rfl).2.2 w) ?_
  obtain ⟨zz2u, zz2v, zz2w, hc7, h⟩ := h
  refine vcS_valG rfl b4 (wanted_g (d := 21) rfl (by kernel_rfl) b4 (by kernel_rfl) b4 (eqT b4)) rfl (Value.agg #[(Value.int .i64 zz2u), (Value.int .i64 zz2v), (Value.int .i64 zz2w)]) (fun hg w' hx=>by subst hg; exact exec_load rfl (by kernel_rfl) (run_loadN (fun w=>by kernel_rfl) (fun w=>by kernel_rfl) ((hc7 rfl).ext hx))) ?_
  obtain ⟨vJ, hJ, h⟩ := gCall_elim h
  refine vcS_effJ (σ := Int) rfl b4 (wanted_g (d := 21) rfl (by kernel_rfl) b4 (by kernel_rfl) b4 (eqT b4)) rfl (fun s w=>vJ s w) (fun s=>(Value.int .i64 s)) ?_ (fun hg=>opVC_callV rfl rfl (fv := cmp) (by subst hg; kernel_rfl) (args := [(Value.agg #[(Value.int .i64 zz2l), (Value.int .i64 zz2m), (Value.int .i64 zz2n)]), (Value.agg #[(Value.int .i64 zz2u), (Value.int .i64 zz2v), (Value.int .i64 zz2w)])]) (by subst hg; kernel_rfl) (callV.mono (h.1 hg) fun v vw8 hq=>?_)) (fun hg=>⟨0, h.2 hg⟩) vcS_stop
  ·intro t32 vw8 h
   subst hJ
   refine vcS_guard rfl b4 (wanted_g (d := 21) rfl (by kernel_rfl) b4 (by kernel_rfl) b4 (eqT b4)) rfl (Value.bool (decide (t32 < 0))) (fun hg w=>by subst hg; kernel_rfl) ?_
   refine vcS_pure rfl rfl rfl (Value.bool (b4 && (decide (t32 < 0)))) (fun w=>by cases b4 <;> kernel_rfl) ?_
   refine vcS_fin ?_
   refine Vc.cond (b4 && (decide (t32 < 0))) (by kernel_rfl) (fun hb=>?_) (fun hb=>?_)
   ·have h := h.1 (hb)
    refine Vc.skip ?_
    refine Vc.seq ?_
    refine Vc.block ?_
    obtain ⟨vw9, hvw9⟩ : ∃ y, y = vw8.drew := ⟨_, rfl⟩
    have h := h vw9 hvw9
    refine Vc.draw (by kernel_rfl) (fun i=>!(memN [15, 17] i)) (.pur 0 (.pur 1 (.pur 2 (.pur 3 (.pur 4 (.pur 5 (.pur 6 (.pur 7 (.pur 8 (.val 9 (.pur 10 (.pur 11 (.pur 12 (.val 13 (.pur 14 (.eff 15 (.pur 16 (.eff 17 .fin .stop)) .stop)))))))))))))))) (by kernel_rfl) ?_
    rw [← hvw9]
    clear hvw9
    refine vcS_pure rfl rfl rfl (Sl.v data) (fun w=>by kernel_rfl) ?_
    refine vcS_pure rfl rfl rfl (Value.int .i64 vj) (fun w=>by kernel_rfl) ?_
    refine vcS_pure rfl rfl rfl (Sl.v data) (fun w=>by kernel_rfl) ?_
    refine vcS_pure rfl rfl rfl (Value.int .i64 vj) (fun w=>by kernel_rfl) ?_
    refine vcS_pure rfl rfl rfl (Value.int .i64 (wrapI (vj - 1))) (fun w=>by kernel_rfl) ?_
    refine vcS_pure rfl rfl rfl (Sl.v data) (fun w=>by kernel_rfl) ?_
    refine vcS_pure rfl rfl rfl (Value.int .i64 vj) (fun w=>by kernel_rfl) ?_
    refine vcS_pure rfl rfl rfl (Value.int .i64 (wrapI (vj - 1))) (fun w=>by kernel_rfl) ?_
    obtain ⟨ad10, hi11, h⟩ := h
    refine vcS_pure rfl rfl rfl (Value.pointer (some (ad10.add ((wrapI (vj - 1)).toNat * 3)))) (fun w=>by exact exec_indexAt (s := data) (el := 30) rfl (by kernel_rfl) (by kernel_rfl) (by kernel_rfl) (fun w=>by kernel_rfl) (hi11).1 (hi11).2.1 (hi11).2.2 w) ?_
    obtain ⟨zz1u, zz1v, zz1w, hc12, h⟩ := h
    refine vcS_val rfl rfl rfl (Value.agg #[(Value.int .i64 zz1u), (Value.int .i64 zz1v), (Value.int .i64 zz1w)]) (fun w' hx=>exec_load rfl (by kernel_rfl) (run_loadN (fun w=>by kernel_rfl) (fun w=>by kernel_rfl) ((hc12).ext hx))) ?_
    refine vcS_pure rfl rfl rfl (Sl.v data) (fun w=>by kernel_rfl) ?_
    refine vcS_pure rfl rfl rfl (Value.int .i64 vj) (fun w=>by kernel_rfl) ?_
    obtain ⟨ad13, hi14, h⟩ := h
    refine vcS_pure rfl rfl rfl (Value.pointer (some (ad13.add (vj.toNat * 3)))) (fun w=>by exact exec_indexAt (s := data) (el := 30) rfl (by kernel_rfl) (by kernel_rfl) (by kernel_rfl) (fun w=>by kernel_rfl) (hi14).1 (hi14).2.1 (hi14).2.2 w) ?_
    obtain ⟨zz1x, zz1y, zz1z, hc15, h⟩ := h
    refine vcS_val rfl rfl rfl (Value.agg #[(Value.int .i64 zz1x), (Value.int .i64 zz1y), (Value.int .i64 zz1z)]) (fun w' hx=>exec_load rfl (by kernel_rfl) (run_loadN (fun w=>by kernel_rfl) (fun w=>by kernel_rfl) ((hc15).ext hx))) ?_
    obtain ⟨ad16, hi17, h⟩ := h
    refine vcS_pure rfl rfl rfl (Value.pointer (some (ad16.add (vj.toNat * 3)))) (fun w=>by exact exec_indexAt (s := data) (el := 30) rfl (by kernel_rfl) (by kernel_rfl) (by kernel_rfl) (fun w=>by kernel_rfl) (hi17).1 (hi17).2.1 (hi17).2.2 w) ?_
    refine vcS_eff rfl rfl (opVC_store rfl rfl (a := (ad16.add (vj.toNat * 3))) (by kernel_rfl) (v := (Value.agg #[(Value.int .i64 zz1u), (Value.int .i64 zz1v), (Value.int .i64 zz1w)])) (by kernel_rfl) [(Value.int .i64 zz1u), (Value.int .i64 zz1v), (Value.int .i64 zz1w)] (by kernel_rfl) (fun w=>by kernel_rfl) (by kernel_rfl) (stw.mono h fun vw18 h=>?_)) vcS_stop
    refine ⟨fun hb=>absurd hb (by decide), ?_⟩
    obtain ⟨ad19, hi20, h⟩ := h
    refine vcS_pure rfl rfl rfl (Value.pointer (some (ad19.add ((wrapI (vj - 1)).toNat * 3)))) (fun w=>by exact exec_indexAt (s := data) (el := 30) rfl (by kernel_rfl) (by kernel_rfl) (by kernel_rfl) (fun w=>by kernel_rfl) (hi20).1 (hi20).2.1 (hi20).2.2 w) ?_
    refine vcS_eff rfl rfl (opVC_store rfl rfl (a := (ad19.add ((wrapI (vj - 1)).toNat * 3))) (by kernel_rfl) (v := (Value.agg #[(Value.int .i64 zz1x), (Value.int .i64 zz1y), (Value.int .i64 zz1z)])) (by kernel_rfl) [(Value.int .i64 zz1x), (Value.int .i64 zz1y), (Value.int .i64 zz1z)] (by kernel_rfl) (fun w=>by kernel_rfl) (by kernel_rfl) (stw.mono h fun vw21 h=>?_)) vcS_stop
    refine ⟨fun hb=>absurd hb (by decide), ?_⟩
    refine vcS_fin ?_
    refine Vc.region ?_
    refine vcL_purs 3 [(9, (Value.int .i64 (wrapI (vj - 1)))), (36, (Value.int .i64 (wrapI (vj - 1)))), (35, (Value.int .i64 vj))] (by kernel_rfl) ?_
    refine vcL_nil ?_
    exact ⟨(wrapI (vj - 1)), 72, ⟨rfl, by kernel_rfl, by kernel_rfl, by kernel_rfl⟩, h⟩
   ·have h := h.2 (hb)
    refine Vc.exit ?_
    refine outOf_hit ?_
    refine Vc.region ?_
    refine vcL_purs 3 [(8, (Value.int .i64 (wrapI (i + 1)))), (16, (Value.int .i64 (wrapI (i + 1)))), (15, (Value.int .i64 i))] (by kernel_rfl) ?_
    refine vcL_nil ?_
    exact ⟨(wrapI (i + 1)), 104, ⟨rfl, by kernel_rfl, by kernel_rfl, by kernel_rfl⟩, h⟩
  ·obtain ⟨t32, rfl, hq⟩ := hq
   exact ⟨fun hb=>absurd hb (by decide), t32, rfl, hq⟩
 ·have h := h.2 (of_decide_eq_false hb)
  refine Vc.exit ?_
  refine outOf_hit ?_
  refine done_mk (Value.tuple #[]) (res0 ) ?_
  exact ⟨rfl, h⟩
theorem slices_insertionSortCmpFunc_apiVersion.go {data : Sl} {a : Int} {b : Int} {cmp : Value} {w : World} {k : Value → World → Prop} (h : slices_insertionSortCmpFunc_apiVersion data a b cmp w fun  w'=>k (Value.tuple #[]) w') : callS Tryz.prog 147 [(Sl.v data), (Value.int .i64 a), (Value.int .i64 b), cmp] w k := (slices_insertionSortCmpFunc_apiVersion.sound data a b cmp w _ h).mono (by rintro _ _ ⟨rfl, h⟩; exact h)
def slices_symMergeCmpFunc_apiVersion (data : Sl) (a : Int) (m : Int) (b : Int) (cmp : Value) (w : World) (R : World → Prop) : Prop :=
 (((wrapI (m - a)) = 1 → loop2 m b w fun i vj vw nxt=>((i < vj → bnd vw.drew fun (vw1 : World)=>∃ (ad : Addr), (data.a = some ad ∧ (0 : Int) ≤ (IntKind.wrap .i64 (Int.fdiv (IntKind.wrap .u64 (wrapI (i + vj))) (2 ^ 1))) ∧ (IntKind.wrap .i64 (Int.fdiv (IntKind.wrap .u64 (wrapI (i + vj))) (2 ^ 1))) < (data.len : Int)) ∧ ∃ (zz2x : Int) (zz2y : Int) (zz2z : Int), (ldc vw1 (ad.add ((IntKind.wrap .i64 (Int.fdiv (IntKind.wrap .u64 (wrapI (i + vj))) (2 ^ 1))).toNat * 3)) [(Value.int .i64 zz2x), (Value.int .i64 zz2y), (Value.int .i64 zz2z)]) ∧ ∃ (ad2 : Addr), (data.a = some ad2 ∧ (0 : Int) ≤ a ∧ a < (data.len : Int)) ∧ ∃ (zz30 : Int) (zz31 : Int) (zz32 : Int), (ldc vw1 (ad2.add (a.toNat * 3)) [(Value.int .i64 zz30), (Value.int .i64 zz31), (Value.int .i64 zz32)]) ∧ callV Tryz.prog cmp [(Value.agg #[(Value.int .i64 zz2x), (Value.int .i64 zz2y), (Value.int .i64 zz2z)]), (Value.agg #[(Value.int .i64 zz30), (Value.int .i64 zz31), (Value.int .i64 zz32)])] vw1 fun v vw5=>∃ (t49 : Int), v = (Value.int .i64 t49) ∧ ((t49 < 0 → nxt (wrapI ((IntKind.wrap .i64 (Int.fdiv (IntKind.wrap .u64 (wrapI (i + vj))) (2 ^ 1))) + 1)) vj vw5) ∧ (¬ (t49 < 0) → nxt i (IntKind.wrap .i64 (Int.fdiv (IntKind.wrap .u64 (wrapI (i + vj))) (2 ^ 1))) vw5))) ∧ (¬ (i < vj) → loop1 a vw fun vk vw6 nxt7=>((vk < (wrapI (i - 1)) → bnd vw6.drew fun (vw8 : World)=>∃ (ad9 : Addr), (data.a = some ad9 ∧ (0 : Int) ≤ (wrapI (vk + 1)) ∧ (wrapI (vk + 1)) < (data.len : Int)) ∧ ∃ (zz20 : Int) (zz21 : Int) (zz22 : Int), (ldc vw8 (ad9.add ((wrapI (vk + 1)).toNat * 3)) [(Value.int .i64 zz20), (Value.int .i64 zz21), (Value.int .i64 zz22)]) ∧ ∃ (ad12 : Addr), (data.a = some ad12 ∧ (0 : Int) ≤ vk ∧ vk < (data.len : Int)) ∧ ∃ (zz23 : Int) (zz24 : Int) (zz25 : Int), (ldc vw8 (ad12.add (vk.toNat * 3)) [(Value.int .i64 zz23), (Value.int .i64 zz24), (Value.int .i64 zz25)]) ∧ ∃ (ad15 : Addr), (data.a = some ad15 ∧ (0 : Int) ≤ vk ∧ vk < (data.len : Int)) ∧ stw vw8 (ad15.add (vk.toNat * 3)) [(Value.int .i64 zz20), (Value.int .i64 zz21), (Value.int .i64 zz22)] fun vw17=>∃ (ad18 : Addr), (data.a = some ad18 ∧ (0 : Int) ≤ (wrapI (vk + 1)) ∧ (wrapI (vk + 1)) < (data.len : Int)) ∧ stw vw17 (ad18.add ((wrapI (vk + 1)).toNat * 3)) [(Value.int .i64 zz23), (Value.int .i64 zz24), (Value.int .i64 zz25)] fun vw20=>nxt7 (wrapI (vk + 1)) vw20) ∧ (¬ (vk < (wrapI (i - 1))) → R vw6))))) ∧ (¬ ((wrapI (m - a)) = 1) → (((wrapI (b - m)) = 1 → loop2 a m w fun i24 vj25 vw26 nxt27=>((i24 < vj25 → bnd vw26.drew fun (vw28 : World)=>∃ (ad29 : Addr), (data.a = some ad29 ∧ (0 : Int) ≤ m ∧ m < (data.len : Int)) ∧ ∃ (zz33 : Int) (zz34 : Int) (zz35 : Int), (ldc vw28 (ad29.add (m.toNat * 3)) [(Value.int .i64 zz33), (Value.int .i64 zz34), (Value.int .i64 zz35)]) ∧ ∃ (ad32 : Addr), (data.a = some ad32 ∧ (0 : Int) ≤ (IntKind.wrap .i64 (Int.fdiv (IntKind.wrap .u64 (wrapI (i24 + vj25))) (2 ^ 1))) ∧ (IntKind.wrap .i64 (Int.fdiv (IntKind.wrap .u64 (wrapI (i24 + vj25))) (2 ^ 1))) < (data.len : Int)) ∧ ∃ (zz29 : Int) (zz2a : Int) (zz2b : Int), (ldc vw28 (ad32.add ((IntKind.wrap .i64 (Int.fdiv (IntKind.wrap .u64 (wrapI (i24 + vj25))) (2 ^ 1))).toNat * 3)) [(Value.int .i64 zz29), (Value.int .i64 zz2a), (Value.int .i64 zz2b)]) ∧ callV Tryz.prog cmp [(Value.agg #[(Value.int .i64 zz33), (Value.int .i64 zz34), (Value.int .i64 zz35)]), (Value.agg #[(Value.int .i64 zz29), (Value.int .i64 zz2a), (Value.int .i64 zz2b)])] vw28 fun v36 vw35=>∃ (t101 : Int), v36 = (Value.int .i64 t101) ∧ ((¬ (t101 < 0) → nxt27 (wrapI ((IntKind.wrap .i64 (Int.fdiv (IntKind.wrap .u64 (wrapI (i24 + vj25))) (2 ^ 1))) + 1)) vj25 vw35) ∧ (¬ (¬ (t101 < 0)) → nxt27 i24 (IntKind.wrap .i64 (Int.fdiv (IntKind.wrap .u64 (wrapI (i24 + vj25))) (2 ^ 1))) vw35))) ∧ (¬ (i24 < vj25) → loop1 m vw26 fun vk38 vw39 nxt40=>((i24 < vk38 → bnd vw39.drew fun (vw41 : World)=>∃ (ad42 : Addr), (data.a = some ad42 ∧ (0 : Int) ≤ (wrapI (vk38 - 1)) ∧ (wrapI (vk38 - 1)) < (data.len : Int)) ∧ ∃ (zz1k : Int) (zz1l : Int) (zz1m : Int), (ldc vw41 (ad42.add ((wrapI (vk38 - 1)).toNat * 3)) [(Value.int .i64 zz1k), (Value.int .i64 zz1l), (Value.int .i64 zz1m)]) ∧ ∃ (ad45 : Addr), (data.a = some ad45 ∧ (0 : Int) ≤ vk38 ∧ vk38 < (data.len : Int)) ∧ ∃ (zz1n : Int) (zz1o : Int) (zz1p : Int), (ldc vw41 (ad45.add (vk38.toNat * 3)) [(Value.int .i64 zz1n), (Value.int .i64 zz1o), (Value.int .i64 zz1p)]) ∧ ∃ (ad48 : Addr), (data.a = some ad48 ∧ (0 : Int) ≤ vk38 ∧ vk38 < (data.len : Int)) ∧ stw vw41 (ad48.add (vk38.toNat * 3)) [(Value.int .i64 zz1k), (Value.int .i64 zz1l), (Value.int .i64 zz1m)] fun vw50=>∃ (ad51 : Addr), (data.a = some ad51 ∧ (0 : Int) ≤ (wrapI (vk38 - 1)) ∧ (wrapI (vk38 - 1)) < (data.len : Int)) ∧ stw vw50 (ad51.add ((wrapI (vk38 - 1)).toNat * 3)) [(Value.int .i64 zz1n), (Value.int .i64 zz1o), (Value.int .i64 zz1p)] fun vw53=>nxt40 (wrapI (vk38 - 1)) vw53) ∧ (¬ (i24 < vk38) → R vw39))))) ∧ (¬ ((wrapI (b - m)) = 1) → join (fun (start : Int) (r : Int) (vw60 : World)=>loop2 start r vw60 fun start61 r62 vw63 nxt64=>((start61 < r62 → bnd vw63.drew fun (vw65 : World)=>∃ (ad66 : Addr), (data.a = some ad66 ∧ (0 : Int) ≤ (wrapI ((wrapI ((wrapI ((IntKind.wrap .i64 (Int.fdiv (IntKind.wrap .u64 (wrapI (a + b))) (2 ^ 1))) + m)) - 1)) - (IntKind.wrap .i64 (Int.fdiv (IntKind.wrap .u64 (wrapI (start61 + r62))) (2 ^ 1))))) ∧ (wrapI ((wrapI ((wrapI ((IntKind.wrap .i64 (Int.fdiv (IntKind.wrap .u64 (wrapI (a + b))) (2 ^ 1))) + m)) - 1)) - (IntKind.wrap .i64 (Int.fdiv (IntKind.wrap .u64 (wrapI (start61 + r62))) (2 ^ 1))))) < (data.len : Int)) ∧ ∃ (zz2f : Int) (zz2g : Int) (zz2h : Int), (ldc vw65 (ad66.add ((wrapI ((wrapI ((wrapI ((IntKind.wrap .i64 (Int.fdiv (IntKind.wrap .u64 (wrapI (a + b))) (2 ^ 1))) + m)) - 1)) - (IntKind.wrap .i64 (Int.fdiv (IntKind.wrap .u64 (wrapI (start61 + r62))) (2 ^ 1))))).toNat * 3)) [(Value.int .i64 zz2f), (Value.int .i64 zz2g), (Value.int .i64 zz2h)]) ∧ ∃ (ad69 : Addr), (data.a = some ad69 ∧ (0 : Int) ≤ (IntKind.wrap .i64 (Int.fdiv (IntKind.wrap .u64 (wrapI (start61 + r62))) (2 ^ 1))) ∧ (IntKind.wrap .i64 (Int.fdiv (IntKind.wrap .u64 (wrapI (start61 + r62))) (2 ^ 1))) < (data.len : Int)) ∧ ∃ (zz2i : Int) (zz2j : Int) (zz2k : Int), (ldc vw65 (ad69.add ((IntKind.wrap .i64 (Int.fdiv (IntKind.wrap .u64 (wrapI (start61 + r62))) (2 ^ 1))).toNat * 3)) [(Value.int .i64 zz2i), (Value.int .i64 zz2j), (Value.int .i64 zz2k)]) ∧ callV Tryz.prog cmp [(Value.agg #[(Value.int .i64 zz2f), (Value.int .i64 zz2g), (Value.int .i64 zz2h)]), (Value.agg #[(Value.int .i64 zz2i), (Value.int .i64 zz2j), (Value.int .i64 zz2k)])] vw65 fun v73 vw72=>∃ (t169 : Int), v73 = (Value.int .i64 t169) ∧ ((¬ (t169 < 0) → nxt64 (wrapI ((IntKind.wrap .i64 (Int.fdiv (IntKind.wrap .u64 (wrapI (start61 + r62))) (2 ^ 1))) + 1)) r62 vw72) ∧ (¬ (¬ (t169 < 0)) → nxt64 start61 (IntKind.wrap .i64 (Int.fdiv (IntKind.wrap .u64 (wrapI (start61 + r62))) (2 ^ 1))) vw72))) ∧ (¬ (start61 < r62) → join (fun (vw75 : World)=>join (fun (vw76 : World)=>bnd (decide ((IntKind.wrap .i64 (Int.fdiv (IntKind.wrap .u64 (wrapI (a + b))) (2 ^ 1))) < (wrapI ((wrapI ((IntKind.wrap .i64 (Int.fdiv (IntKind.wrap .u64 (wrapI (a + b))) (2 ^ 1))) + m)) - start61)))) fun (b77 : Bool)=>(((b77 && (decide ((wrapI ((wrapI ((IntKind.wrap .i64 (Int.fdiv (IntKind.wrap .u64 (wrapI (a + b))) (2 ^ 1))) + m)) - start61)) < b))) = true → callS Tryz.prog 155 [(Sl.v data), (Value.int .i64 (IntKind.wrap .i64 (Int.fdiv (IntKind.wrap .u64 (wrapI (a + b))) (2 ^ 1)))), (Value.int .i64 (wrapI ((wrapI ((IntKind.wrap .i64 (Int.fdiv (IntKind.wrap .u64 (wrapI (a + b))) (2 ^ 1))) + m)) - start61))), (Value.int .i64 b), cmp] vw76 fun v79 vw78=>v79 = (Value.tuple #[]) ∧ R vw78) ∧ ((b77 && (decide ((wrapI ((wrapI ((IntKind.wrap .i64 (Int.fdiv (IntKind.wrap .u64 (wrapI (a + b))) (2 ^ 1))) + m)) - start61)) < b))) = false → R vw76))) fun vJ=>bnd (decide (a < start61)) fun (b81 : Bool)=>(((b81 && (decide (start61 < (IntKind.wrap .i64 (Int.fdiv (IntKind.wrap .u64 (wrapI (a + b))) (2 ^ 1)))))) = true → callS Tryz.prog 155 [(Sl.v data), (Value.int .i64 a), (Value.int .i64 start61), (Value.int .i64 (IntKind.wrap .i64 (Int.fdiv (IntKind.wrap .u64 (wrapI (a + b))) (2 ^ 1)))), cmp] vw75 fun v83 vw82=>v83 = (Value.tuple #[]) ∧ vJ vw82) ∧ ((b81 && (decide (start61 < (IntKind.wrap .i64 (Int.fdiv (IntKind.wrap .u64 (wrapI (a + b))) (2 ^ 1)))))) = false → vJ vw75))) fun vJ85=>bnd (decide (start61 < m)) fun (b87 : Bool)=>(((b87 && (decide (m < (wrapI ((wrapI ((IntKind.wrap .i64 (Int.fdiv (IntKind.wrap .u64 (wrapI (a + b))) (2 ^ 1))) + m)) - start61))))) = true → callS Tryz.prog 190 [(Sl.v data), (Value.int .i64 start61), (Value.int .i64 m), (Value.int .i64 (wrapI ((wrapI ((IntKind.wrap .i64 (Int.fdiv (IntKind.wrap .u64 (wrapI (a + b))) (2 ^ 1))) + m)) - start61))), cmp] vw63 fun v89 vw88=>v89 = (Value.tuple #[]) ∧ vJ85 vw88) ∧ ((b87 && (decide (m < (wrapI ((wrapI ((IntKind.wrap .i64 (Int.fdiv (IntKind.wrap .u64 (wrapI (a + b))) (2 ^ 1))) + m)) - start61))))) = false → vJ85 vw63))))) fun vJ94=>(((IntKind.wrap .i64 (Int.fdiv (IntKind.wrap .u64 (wrapI (a + b))) (2 ^ 1))) < m → vJ94 (wrapI ((wrapI ((IntKind.wrap .i64 (Int.fdiv (IntKind.wrap .u64 (wrapI (a + b))) (2 ^ 1))) + m)) - b)) (IntKind.wrap .i64 (Int.fdiv (IntKind.wrap .u64 (wrapI (a + b))) (2 ^ 1))) w) ∧ (¬ ((IntKind.wrap .i64 (Int.fdiv (IntKind.wrap .u64 (wrapI (a + b))) (2 ^ 1))) < m) → vJ94 a m w))))))
set_option maxHeartbeats 8000000 in
theorem slices_symMergeCmpFunc_apiVersion.sound (data : Sl) (a : Int) (m : Int) (b : Int) (cmp : Value) (w : World) (R : World → Prop) (h : slices_symMergeCmpFunc_apiVersion data a m b cmp w R) : callS Tryz.prog 155 [(Sl.v data), (Value.int .i64 a), (Value.int .i64 m), (Value.int .i64 b), cmp] w (fun v w'=>v = (Value.tuple #[]) ∧ R w') := by
 unfold slices_symMergeCmpFunc_apiVersion at h
 refine calls_of_vc 220 rfl Tryz.func155 rfl (by kernel_rfl) (by simp) ?_
 refine Vc.seq ?_
 refine Vc.seq ?_
 refine Vc.region ?_
 refine vcL_purs 4 [(28, (Value.bool ((wrapI (m - a)) == 1))), (27, (Value.int .i64 (wrapI (m - a)))), (26, (Value.int .i64 a)), (25, (Value.int .i64 m))] (by kernel_rfl) ?_
 refine vcL_nil ?_
 refine Vc.cond ((wrapI (m - a)) == 1) (by kernel_rfl) (fun hb=>?_) (fun hb=>?_)
 ·have h := h.1 (eq_of_beq hb)
  refine Vc.seq ?_
  refine Vc.region ?_
  refine vcL_purs 2 [(10, (Value.int .i64 m)), (29, (Value.int .i64 m))] (by kernel_rfl) ?_
  refine vcL_nil ?_
  refine Vc.seq ?_
  refine Vc.region ?_
  refine vcL_purs 2 [(11, (Value.int .i64 b)), (30, (Value.int .i64 b))] (by kernel_rfl) ?_
  refine vcL_nil ?_
  refine Vc.seq ?_
  refine Vc.block ?_
  obtain ⟨vI21, mu22, h, hr23⟩ := h
  refine Vc.loopJ (σ := Int × Int) [10, 11] [12, 31, 32, 33, 34, 35, 36, 37, 38, 39, 40, 41, 42, 43, 44, 45, 46, 47, 48, 49, 50, 51, 52, 53] (fun s=>[(10, (Value.int .i64 s.1)), (11, (Value.int .i64 s.2))]) (fun s w=>vI21 s.1 s.2 w) (fun s w=>mu22 s.1 s.2 w) (m, b) h (fun _ => rfl) (by kernel_rfl) ?_
  rintro ⟨i, vj⟩ vw j h
  have h := hr23 i vj vw h
  refine Vc.seq ?_
  refine Vc.seq ?_
  refine Vc.region ?_
  refine vcL_purs 3 [(33, (Value.bool (decide (i < vj)))), (32, (Value.int .i64 vj)), (31, (Value.int .i64 i))] (by kernel_rfl) ?_
  refine vcL_nil ?_
  refine Vc.cond (decide (i < vj)) (by kernel_rfl) (fun hb=>?_) (fun hb=>?_)
  ·have h := h.1 (of_decide_eq_true hb)
   refine Vc.skip ?_
   refine Vc.block ?_
   refine Vc.seq ?_
   refine Vc.region ?_
   refine vcL_purs 7 [(12, (Value.int .i64 (IntKind.wrap .i64 (Int.fdiv (IntKind.wrap .u64 (wrapI (i + vj))) (2 ^ 1))))), (39, (Value.int .i64 (IntKind.wrap .i64 (Int.fdiv (IntKind.wrap .u64 (wrapI (i + vj))) (2 ^ 1))))), (38, (Value.int .u64 (Int.fdiv (IntKind.wrap .u64 (wrapI (i + vj))) (2 ^ 1)))), (37, (Value.int .u64 (IntKind.wrap .u64 (wrapI (i + vj))))), (36, (Value.int .i64 (wrapI (i + vj)))), (35, (Value.int .i64 vj)), (34, (Value.int .i64 i))] (by kernel_rfl) ?_
   refine vcL_nil ?_
   refine Vc.seq ?_
   obtain ⟨vw1, hvw1⟩ : ∃ y, y = vw.drew := ⟨_, rfl⟩
   have h := h vw1 hvw1
   refine Vc.draw (by kernel_rfl) (fun i=>!(memN [9] i)) (.pur 0 (.pur 1 (.pur 2 (.pur 3 (.val 4 (.pur 5 (.pur 6 (.pur 7 (.val 8 (.eff 9 (.pur 10 .fin) .stop)))))))))) (by kernel_rfl) ?_
   rw [← hvw1]
   clear hvw1
   refine vcS_pure rfl rfl rfl cmp (fun w=>by kernel_rfl) ?_
   refine vcS_pure rfl rfl rfl (Sl.v data) (fun w=>by kernel_rfl) ?_
   refine vcS_pure rfl rfl rfl (Value.int .i64 (IntKind.wrap .i64 (Int.fdiv (IntKind.wrap .u64 (wrapI (i + vj))) (2 ^ 1)))) (fun w=>by kernel_rfl) ?_
   obtain ⟨ad, hi, h⟩ := h
   refine vcS_pure rfl rfl rfl (Value.pointer (some (ad.add ((IntKind.wrap .i64 (Int.fdiv (IntKind.wrap .u64 (wrapI (i + vj))) (2 ^ 1))).toNat * 3)))) (fun w=>by exact exec_indexAt (s := data) (el := 30) rfl (by kernel_rfl) (by kernel_rfl) (by kernel_rfl) (fun w=>by kernel_rfl) (hi).1 (hi).2.1 (hi).2.2 w) ?_
   obtain ⟨zz2x, zz2y, zz2z, hc, h⟩ := h
   refine vcS_val rfl rfl rfl (Value.agg #[(Value.int .i64 zz2x), (Value.int .i64 zz2y), (Value.int .i64 zz2z)]) (fun w' hx=>exec_load rfl (by kernel_rfl) (run_loadN (fun w=>by kernel_rfl) (fun w=>by kernel_rfl) ((hc).ext hx))) ?_
   refine vcS_pure rfl rfl rfl (Sl.v data) (fun w=>by kernel_rfl) ?_
   refine vcS_pure rfl rfl rfl (Value.int .i64 a) (fun w=>by kernel_rfl) ?_
   obtain ⟨ad2, hi3, h⟩ := h
   refine vcS_pure rfl rfl rfl (Value.pointer (some (ad2.add (a.toNat * 3)))) (fun w=>by exact exec_indexAt (s := data) (el := 30) rfl (by kernel_rfl) (by kernel_rfl) (by kernel_rfl) (fun w=>by kernel_rfl) (hi3).1 (hi3).2.1 (hi3).2.2 w) ?_
   obtain ⟨zz30, zz31, zz32, hc4, h⟩ := h
   refine vcS_val rfl rfl rfl (Value.agg #[(Value.int .i64 zz30), (Value.int .i64 zz31), (Value.int .i64 zz32)]) (fun w' hx=>exec_load rfl (by kernel_rfl) (run_loadN (fun w=>by kernel_rfl) (fun w=>by kernel_rfl) ((hc4).ext hx))) ?_
   refine vcS_eff rfl rfl (opVC_callV rfl rfl (fv := cmp) (by kernel_rfl) (args := [(Value.agg #[(Value.int .i64 zz2x), (Value.int .i64 zz2y), (Value.int .i64 zz2z)]), (Value.agg #[(Value.int .i64 zz30), (Value.int .i64 zz31), (Value.int .i64 zz32)])]) (by kernel_rfl) (callV.mono h fun v vw5 h=>?_)) vcS_stop
   obtain ⟨t49, rfl, h⟩ := h
   refine ⟨fun hb=>absurd hb (by decide), ?_⟩
   refine vcS_pure rfl rfl rfl (Value.bool (decide (t49 < 0))) (fun w=>by kernel_rfl) ?_
   refine vcS_fin ?_
   refine Vc.cond (decide (t49 < 0)) (by kernel_rfl) (fun hb=>?_) (fun hb=>?_)
   ·have h := h.1 (of_decide_eq_true hb)
    refine Vc.region ?_
    refine vcL_purs 3 [(10, (Value.int .i64 (wrapI ((IntKind.wrap .i64 (Int.fdiv (IntKind.wrap .u64 (wrapI (i + vj))) (2 ^ 1))) + 1)))), (52, (Value.int .i64 (wrapI ((IntKind.wrap .i64 (Int.fdiv (IntKind.wrap .u64 (wrapI (i + vj))) (2 ^ 1))) + 1)))), (51, (Value.int .i64 (IntKind.wrap .i64 (Int.fdiv (IntKind.wrap .u64 (wrapI (i + vj))) (2 ^ 1)))))] (by kernel_rfl) ?_
    refine vcL_nil ?_
    exact ⟨((wrapI ((IntKind.wrap .i64 (Int.fdiv (IntKind.wrap .u64 (wrapI (i + vj))) (2 ^ 1))) + 1)), vj), 50, ⟨rfl, by kernel_rfl, by kernel_rfl, by kernel_rfl⟩, h⟩
   ·have h := h.2 (of_decide_eq_false hb)
    refine Vc.region ?_
    refine vcL_purs 2 [(11, (Value.int .i64 (IntKind.wrap .i64 (Int.fdiv (IntKind.wrap .u64 (wrapI (i + vj))) (2 ^ 1))))), (53, (Value.int .i64 (IntKind.wrap .i64 (Int.fdiv (IntKind.wrap .u64 (wrapI (i + vj))) (2 ^ 1)))))] (by kernel_rfl) ?_
    refine vcL_nil ?_
    exact ⟨(i, (IntKind.wrap .i64 (Int.fdiv (IntKind.wrap .u64 (wrapI (i + vj))) (2 ^ 1)))), 49, ⟨rfl, by kernel_rfl, by kernel_rfl, by kernel_rfl⟩, h⟩
  ·have h := h.2 (of_decide_eq_false hb)
   refine Vc.exit ?_
   refine outOf_hit ?_
   refine Vc.seq ?_
   refine Vc.seq ?_
   refine Vc.region ?_
   refine vcL_purs 2 [(13, (Value.int .i64 a)), (54, (Value.int .i64 a))] (by kernel_rfl) ?_
   refine vcL_nil ?_
   refine Vc.block ?_
   obtain ⟨vI, mu, h, hr⟩ := h
   refine Vc.loopJ (σ := Int) [13] [55, 56, 57, 58, 59, 60, 61, 62, 63, 64, 65, 66, 67, 68, 69, 70, 71, 72, 73, 74, 75, 76] (fun s=>[(13, (Value.int .i64 s))]) (fun s w=>vI s w) (fun s w=>mu s w) a h (fun _ => rfl) (by kernel_rfl) ?_
   intro vk vw6 j h
   have h := hr vk vw6 h
   refine Vc.seq ?_
   refine Vc.seq ?_
   refine Vc.region ?_
   refine vcL_purs 4 [(58, (Value.bool (decide (vk < (wrapI (i - 1)))))), (57, (Value.int .i64 (wrapI (i - 1)))), (56, (Value.int .i64 i)), (55, (Value.int .i64 vk))] (by kernel_rfl) ?_
   refine vcL_nil ?_
   refine Vc.cond (decide (vk < (wrapI (i - 1)))) (by kernel_rfl) (fun hb=>?_) (fun hb=>?_)
   ·have h := h.1 (of_decide_eq_true hb)
    refine Vc.skip ?_
    refine Vc.seq ?_
    refine Vc.block ?_
    obtain ⟨vw8, hvw8⟩ : ∃ y, y = vw6.drew := ⟨_, rfl⟩
    have h := h vw8 hvw8
    refine Vc.draw (by kernel_rfl) (fun i=>!(memN [15, 17] i)) (.pur 0 (.pur 1 (.pur 2 (.pur 3 (.pur 4 (.pur 5 (.pur 6 (.pur 7 (.pur 8 (.val 9 (.pur 10 (.pur 11 (.pur 12 (.val 13 (.pur 14 (.eff 15 (.pur 16 (.eff 17 .fin .stop)) .stop)))))))))))))))) (by kernel_rfl) ?_
    rw [← hvw8]
    clear hvw8
    refine vcS_pure rfl rfl rfl (Sl.v data) (fun w=>by kernel_rfl) ?_
    refine vcS_pure rfl rfl rfl (Value.int .i64 vk) (fun w=>by kernel_rfl) ?_
    refine vcS_pure rfl rfl rfl (Sl.v data) (fun w=>by kernel_rfl) ?_
    refine vcS_pure rfl rfl rfl (Value.int .i64 vk) (fun w=>by kernel_rfl) ?_
    refine vcS_pure rfl rfl rfl (Value.int .i64 (wrapI (vk + 1))) (fun w=>by kernel_rfl) ?_
    refine vcS_pure rfl rfl rfl (Sl.v data) (fun w=>by kernel_rfl) ?_
    refine vcS_pure rfl rfl rfl (Value.int .i64 vk) (fun w=>by kernel_rfl) ?_
    refine vcS_pure rfl rfl rfl (Value.int .i64 (wrapI (vk + 1))) (fun w=>by kernel_rfl) ?_
    obtain ⟨ad9, hi10, h⟩ := h
    refine vcS_pure rfl rfl rfl (Value.pointer (some (ad9.add ((wrapI (vk + 1)).toNat * 3)))) (fun w=>by exact exec_indexAt (s := data) (el := 30) rfl (by kernel_rfl) (by kernel_rfl) (by kernel_rfl) (fun w=>by kernel_rfl) (hi10).1 (hi10).2.1 (hi10).2.2 w) ?_
    obtain ⟨zz20, zz21, zz22, hc11, h⟩ := h
    refine vcS_val rfl rfl rfl (Value.agg #[(Value.int .i64 zz20), (Value.int .i64 zz21), (Value.int .i64 zz22)]) (fun w' hx=>exec_load rfl (by kernel_rfl) (run_loadN (fun w=>by kernel_rfl) (fun w=>by kernel_rfl) ((hc11).ext hx))) ?_
    refine vcS_pure rfl rfl rfl (Sl.v data) (fun w=>by kernel_rfl) ?_
    refine vcS_pure rfl rfl rfl (Value.int .i64 vk) (fun w=>by kernel_rfl) ?_
    obtain ⟨ad12, hi13, h⟩ := h
    refine vcS_pure rfl rfl rfl (Value.pointer (some (ad12.add (vk.toNat * 3)))) (fun w=>by exact exec_indexAt (s := data) (el := 30) rfl (by kernel_rfl) (by kernel_rfl) (by kernel_rfl) (fun w=>by kernel_rfl) (hi13).1 (hi13).2.1 (hi13).2.2 w) ?_
    obtain ⟨zz23, zz24, zz25, hc14, h⟩ := h
    refine vcS_val rfl rfl rfl (Value.agg #[(Value.int .i64 zz23), (Value.int .i64 zz24), (Value.int .i64 zz25)]) (fun w' hx=>exec_load rfl (by kernel_rfl) (run_loadN (fun w=>by kernel_rfl) (fun w=>by kernel_rfl) ((hc14).ext hx))) ?_
    obtain ⟨ad15, hi16, h⟩ := h
    refine vcS_pure rfl rfl rfl (Value.pointer (some (ad15.add (vk.toNat * 3)))) (fun w=>by exact exec_indexAt (s := data) (el := 30) rfl (by kernel_rfl) (by kernel_rfl) (by kernel_rfl) (fun w=>by kernel_rfl) (hi16).1 (hi16).2.1 (hi16).2.2 w) ?_
    refine vcS_eff rfl rfl (opVC_store rfl rfl (a := (ad15.add (vk.toNat * 3))) (by kernel_rfl) (v := (Value.agg #[(Value.int .i64 zz20), (Value.int .i64 zz21), (Value.int .i64 zz22)])) (by kernel_rfl) [(Value.int .i64 zz20), (Value.int .i64 zz21), (Value.int .i64 zz22)] (by kernel_rfl) (fun w=>by kernel_rfl) (by kernel_rfl) (stw.mono h fun vw17 h=>?_)) vcS_stop
    refine ⟨fun hb=>absurd hb (by decide), ?_⟩
    obtain ⟨ad18, hi19, h⟩ := h
    refine vcS_pure rfl rfl rfl (Value.pointer (some (ad18.add ((wrapI (vk + 1)).toNat * 3)))) (fun w=>by exact exec_indexAt (s := data) (el := 30) rfl (by kernel_rfl) (by kernel_rfl) (by kernel_rfl) (fun w=>by kernel_rfl) (hi19).1 (hi19).2.1 (hi19).2.2 w) ?_
    refine vcS_eff rfl rfl (opVC_store rfl rfl (a := (ad18.add ((wrapI (vk + 1)).toNat * 3))) (by kernel_rfl) (v := (Value.agg #[(Value.int .i64 zz23), (Value.int .i64 zz24), (Value.int .i64 zz25)])) (by kernel_rfl) [(Value.int .i64 zz23), (Value.int .i64 zz24), (Value.int .i64 zz25)] (by kernel_rfl) (fun w=>by kernel_rfl) (by kernel_rfl) (stw.mono h fun vw20 h=>?_)) vcS_stop
    refine ⟨fun hb=>absurd hb (by decide), ?_⟩
    refine vcS_fin ?_
    refine Vc.region ?_
    refine vcL_purs 3 [(13, (Value.int .i64 (wrapI (vk + 1)))), (60, (Value.int .i64 (wrapI (vk + 1)))), (59, (Value.int .i64 vk))] (by kernel_rfl) ?_
    refine vcL_nil ?_
    exact ⟨(wrapI (vk + 1)), 46, ⟨rfl, by kernel_rfl, by kernel_rfl, by kernel_rfl⟩, h⟩
   ·have h := h.2 (of_decide_eq_false hb)
    refine Vc.exit ?_
    refine outOf_hit ?_
    refine Vc.ret ?_
    refine outs_ret ?_
    refine done_mk (Value.tuple #[]) (res0 ) ?_
    exact ⟨rfl, h⟩
 ·have h := h.2 (ne_of_beq_false hb)
  refine Vc.skip ?_
  refine Vc.seq ?_
  refine Vc.seq ?_
  refine Vc.region ?_
  refine vcL_purs 4 [(80, (Value.bool ((wrapI (b - m)) == 1))), (79, (Value.int .i64 (wrapI (b - m)))), (78, (Value.int .i64 m)), (77, (Value.int .i64 b))] (by kernel_rfl) ?_
  refine vcL_nil ?_
  refine Vc.cond ((wrapI (b - m)) == 1) (by kernel_rfl) (fun hb=>?_) (fun hb=>?_)
  ·have h := h.1 (eq_of_beq hb)
   refine Vc.seq ?_
   refine Vc.region ?_
   refine vcL_purs 2 [(14, (Value.int .i64 a)), (81, (Value.int .i64 a))] (by kernel_rfl) ?_
   refine vcL_nil ?_
   refine Vc.seq ?_
   refine Vc.region ?_
   refine vcL_purs 2 [(15, (Value.int .i64 m)), (82, (Value.int .i64 m))] (by kernel_rfl) ?_
   refine vcL_nil ?_
   refine Vc.seq ?_
   refine Vc.block ?_
   obtain ⟨vI57, mu58, h, hr59⟩ := h
   refine Vc.loopJ (σ := Int × Int) [14, 15] [16, 83, 84, 85, 86, 87, 88, 89, 90, 91, 92, 93, 94, 95, 96, 97, 98, 99, 100, 101, 102, 103, 104, 105, 106] (fun s=>[(14, (Value.int .i64 s.1)), (15, (Value.int .i64 s.2))]) (fun s w=>vI57 s.1 s.2 w) (fun s w=>mu58 s.1 s.2 w) (a, m) h (fun _ => rfl) (by kernel_rfl) ?_
   rintro ⟨i24, vj25⟩ vw26 j h
   have h := hr59 i24 vj25 vw26 h
   refine Vc.seq ?_
   refine Vc.seq ?_
   refine Vc.region ?_
   refine vcL_purs 3 [(85, (Value.bool (decide (i24 < vj25)))), (84, (Value.int .i64 vj25)), (83, (Value.int .i64 i24))] (by kernel_rfl) ?_
   refine vcL_nil ?_
   refine Vc.cond (decide (i24 < vj25)) (by kernel_rfl) (fun hb=>?_) (fun hb=>?_)
   ·have h := h.1 (of_decide_eq_true hb)
    refine Vc.skip ?_
    refine Vc.block ?_
    refine Vc.seq ?_
    refine Vc.region ?_
    refine vcL_purs 7 [(16, (Value.int .i64 (IntKind.wrap .i64 (Int.fdiv (IntKind.wrap .u64 (wrapI (i24 + vj25))) (2 ^ 1))))), (91, (Value.int .i64 (IntKind.wrap .i64 (Int.fdiv (IntKind.wrap .u64 (wrapI (i24 + vj25))) (2 ^ 1))))), (90, (Value.int .u64 (Int.fdiv (IntKind.wrap .u64 (wrapI (i24 + vj25))) (2 ^ 1)))), (89, (Value.int .u64 (IntKind.wrap .u64 (wrapI (i24 + vj25))))), (88, (Value.int .i64 (wrapI (i24 + vj25)))), (87, (Value.int .i64 vj25)), (86, (Value.int .i64 i24))] (by kernel_rfl) ?_
    refine vcL_nil ?_
    refine Vc.seq ?_
    obtain ⟨vw28, hvw28⟩ : ∃ y, y = vw26.drew := ⟨_, rfl⟩
    have h := h vw28 hvw28
    refine Vc.draw (by kernel_rfl) (fun i=>!(memN [9] i)) (.pur 0 (.pur 1 (.pur 2 (.pur 3 (.val 4 (.pur 5 (.pur 6 (.pur 7 (.val 8 (.eff 9 (.pur 10 (.pur 11 .fin)) .stop)))))))))) (by kernel_rfl) ?_
    rw [← hvw28]
    clear hvw28
    refine vcS_pure rfl rfl rfl cmp (fun w=>by kernel_rfl) ?_
    refine vcS_pure rfl rfl rfl (Sl.v data) (fun w=>by kernel_rfl) ?_
    refine vcS_pure rfl rfl rfl (Value.int .i64 m) (fun w=>by kernel_rfl) ?_
    obtain ⟨ad29, hi30, h⟩ := h
    refine vcS_pure rfl rfl rfl (Value.pointer (some (ad29.add (m.toNat * 3)))) (fun w=>by exact exec_indexAt (s := data) (el := 30) rfl (by kernel_rfl) (by kernel_rfl) (by kernel_rfl) (fun w=>by kernel_rfl) (hi30).1 (hi30).2.1 (hi30).2.2 w) ?_
    obtain ⟨zz33, zz34, zz35, hc31, h⟩ := h
    refine vcS_val rfl rfl rfl (Value.agg #[(Value.int .i64 zz33), (Value.int .i64 zz34), (Value.int .i64 zz35)]) (fun w' hx=>exec_load rfl (by kernel_rfl) (run_loadN (fun w=>by kernel_rfl) (fun w=>by kernel_rfl) ((hc31).ext hx))) ?_
    refine vcS_pure rfl rfl rfl (Sl.v data) (fun w=>by kernel_rfl) ?_
    refine vcS_pure rfl rfl rfl (Value.int .i64 (IntKind.wrap .i64 (Int.fdiv (IntKind.wrap .u64 (wrapI (i24 + vj25))) (2 ^ 1)))) (fun w=>by kernel_rfl) ?_
    obtain ⟨ad32, hi33, h⟩ := h
    refine vcS_pure rfl rfl rfl (Value.pointer (some (ad32.add ((IntKind.wrap .i64 (Int.fdiv (IntKind.wrap .u64 (wrapI (i24 + vj25))) (2 ^ 1))).toNat * 3)))) (fun w=>by exact exec_indexAt (s := data) (el := 30) rfl (by kernel_rfl) (by kernel_rfl) (by kernel_rfl) (fun w=>by kernel_rfl) (hi33).1 (hi33).2.1 (hi33).2.2 w) ?_
    obtain ⟨zz29, zz2a, zz2b, hc34, h⟩ := h
    refine vcS_val rfl rfl rfl (Value.agg #[(Value.int .i64 zz29), (Value.int .i64 zz2a), (Value.int .i64 zz2b)]) (fun w' hx=>exec_load rfl (by kernel_rfl) (run_loadN (fun w=>by kernel_rfl) (fun w=>by kernel_rfl) ((hc34).ext hx))) ?_
    refine vcS_eff rfl rfl (opVC_callV rfl rfl (fv := cmp) (by kernel_rfl) (args := [(Value.agg #[(Value.int .i64 zz33), (Value.int .i64 zz34), (Value.int .i64 zz35)]), (Value.agg #[(Value.int .i64 zz29), (Value.int .i64 zz2a), (Value.int .i64 zz2b)])]) (by kernel_rfl) (callV.mono h fun v36 vw35 h=>?_)) vcS_stop
    obtain ⟨t101, rfl, h⟩ := h
    refine ⟨fun hb=>absurd hb (by decide), ?_⟩
    refine vcS_pure rfl rfl rfl (Value.bool (decide (t101 < 0))) (fun w=>by kernel_rfl) ?_
    refine vcS_pure rfl rfl rfl (Value.bool (!(decide (t101 < 0)))) (fun w=>by kernel_rfl) ?_
    refine vcS_fin ?_
    refine Vc.cond (!(decide (t101 < 0))) (by kernel_rfl) (fun hb=>?_) (fun hb=>?_)
    ·have h := h.1 ((fun hb=>of_decide_eq_false hb) (by simpa using hb))
     refine Vc.region ?_
     refine vcL_purs 3 [(14, (Value.int .i64 (wrapI ((IntKind.wrap .i64 (Int.fdiv (IntKind.wrap .u64 (wrapI (i24 + vj25))) (2 ^ 1))) + 1)))), (105, (Value.int .i64 (wrapI ((IntKind.wrap .i64 (Int.fdiv (IntKind.wrap .u64 (wrapI (i24 + vj25))) (2 ^ 1))) + 1)))), (104, (Value.int .i64 (IntKind.wrap .i64 (Int.fdiv (IntKind.wrap .u64 (wrapI (i24 + vj25))) (2 ^ 1)))))] (by kernel_rfl) ?_
     refine vcL_nil ?_
     exact ⟨((wrapI ((IntKind.wrap .i64 (Int.fdiv (IntKind.wrap .u64 (wrapI (i24 + vj25))) (2 ^ 1))) + 1)), vj25), 52, ⟨rfl, by kernel_rfl, by kernel_rfl, by kernel_rfl⟩, h⟩
    ·have h := h.2 (not_not_intro ((fun hb=>of_decide_eq_true hb) (by simpa using hb)))
     refine Vc.region ?_
     refine vcL_purs 2 [(15, (Value.int .i64 (IntKind.wrap .i64 (Int.fdiv (IntKind.wrap .u64 (wrapI (i24 + vj25))) (2 ^ 1))))), (106, (Value.int .i64 (IntKind.wrap .i64 (Int.fdiv (IntKind.wrap .u64 (wrapI (i24 + vj25))) (2 ^ 1)))))] (by kernel_rfl) ?_
     refine vcL_nil ?_
     exact ⟨(i24, (IntKind.wrap .i64 (Int.fdiv (IntKind.wrap .u64 (wrapI (i24 + vj25))) (2 ^ 1)))), 51, ⟨rfl, by kernel_rfl, by kernel_rfl, by kernel_rfl⟩, h⟩
   ·have h := h.2 (of_decide_eq_false hb)
    refine Vc.exit ?_
    refine outOf_hit ?_
    refine Vc.seq ?_
    refine Vc.seq ?_
    refine Vc.region ?_
    refine vcL_purs 2 [(17, (Value.int .i64 m)), (107, (Value.int .i64 m))] (by kernel_rfl) ?_
    refine vcL_nil ?_
    refine Vc.block ?_
    obtain ⟨vI54, mu55, h, hr56⟩ := h
    refine Vc.loopJ (σ := Int) [17] [108, 109, 110, 111, 112, 113, 114, 115, 116, 117, 118, 119, 120, 121, 122, 123, 124, 125, 126, 127, 128] (fun s=>[(17, (Value.int .i64 s))]) (fun s w=>vI54 s w) (fun s w=>mu55 s w) m h (fun _ => rfl) (by kernel_rfl) ?_
    intro vk38 vw39 j h
    have h := hr56 vk38 vw39 h
    refine Vc.seq ?_
    refine Vc.seq ?_
    refine Vc.region ?_
    refine vcL_purs 3 [(110, (Value.bool (decide (i24 < vk38)))), (109, (Value.int .i64 i24)), (108, (Value.int .i64 vk38))] (by kernel_rfl) ?_
    refine vcL_nil ?_
    refine Vc.cond (decide (i24 < vk38)) (by kernel_rfl) (fun hb=>?_) (fun hb=>?_)
    ·have h := h.1 (of_decide_eq_true hb)
     refine Vc.skip ?_
     refine Vc.seq ?_
     refine Vc.block ?_
     obtain ⟨vw41, hvw41⟩ : ∃ y, y = vw39.drew := ⟨_, rfl⟩
     have h := h vw41 hvw41
     refine Vc.draw (by kernel_rfl) (fun i=>!(memN [15, 17] i)) (.pur 0 (.pur 1 (.pur 2 (.pur 3 (.pur 4 (.pur 5 (.pur 6 (.pur 7 (.pur 8 (.val 9 (.pur 10 (.pur 11 (.pur 12 (.val 13 (.pur 14 (.eff 15 (.pur 16 (.eff 17 .fin .stop)) .stop)))))))))))))))) (by kernel_rfl) ?_
     rw [← hvw41]
     clear hvw41
     refine vcS_pure rfl rfl rfl (Sl.v data) (fun w=>by kernel_rfl) ?_
     refine vcS_pure rfl rfl rfl (Value.int .i64 vk38) (fun w=>by kernel_rfl) ?_
     refine vcS_pure rfl rfl rfl (Sl.v data) (fun w=>by kernel_rfl) ?_
     refine vcS_pure rfl rfl rfl (Value.int .i64 vk38) (fun w=>by kernel_rfl) ?_
     refine vcS_pure rfl rfl rfl (Value.int .i64 (wrapI (vk38 - 1))) (fun w=>by kernel_rfl) ?_
     refine vcS_pure rfl rfl rfl (Sl.v data) (fun w=>by kernel_rfl) ?_
     refine vcS_pure rfl rfl rfl (Value.int .i64 vk38) (fun w=>by kernel_rfl) ?_
     refine vcS_pure rfl rfl rfl (Value.int .i64 (wrapI (vk38 - 1))) (fun w=>by kernel_rfl) ?_
     obtain ⟨ad42, hi43, h⟩ := h
     refine vcS_pure rfl rfl rfl (Value.pointer (some (ad42.add ((wrapI (vk38 - 1)).toNat * 3)))) (fun w=>by exact exec_indexAt (s := data) (el := 30) rfl (by kernel_rfl) (by kernel_rfl) (by kernel_rfl) (fun w=>by kernel_rfl) (hi43).1 (hi43).2.1 (hi43).2.2 w) ?_
     obtain ⟨zz1k, zz1l, zz1m, hc44, h⟩ := h
     refine vcS_val rfl rfl rfl (Value.agg #[(Value.int .i64 zz1k), (Value.int .i64 zz1l), (Value.int .i64 zz1m)]) (fun w' hx=>exec_load rfl (by kernel_rfl) (run_loadN (fun w=>by kernel_rfl) (fun w=>by kernel_rfl) ((hc44).ext hx))) ?_
     refine vcS_pure rfl rfl rfl (Sl.v data) (fun w=>by kernel_rfl) ?_
     refine vcS_pure rfl rfl rfl (Value.int .i64 vk38) (fun w=>by kernel_rfl) ?_
     obtain ⟨ad45, hi46, h⟩ := h
     refine vcS_pure rfl rfl rfl (Value.pointer (some (ad45.add (vk38.toNat * 3)))) (fun w=>by exact exec_indexAt (s := data) (el := 30) rfl (by kernel_rfl) (by kernel_rfl) (by kernel_rfl) (fun w=>by kernel_rfl) (hi46).1 (hi46).2.1 (hi46).2.2 w) ?_
     obtain ⟨zz1n, zz1o, zz1p, hc47, h⟩ := h
     refine vcS_val rfl rfl rfl (Value.agg #[(Value.int .i64 zz1n), (Value.int .i64 zz1o), (Value.int .i64 zz1p)]) (fun w' hx=>exec_load rfl (by kernel_rfl) (run_loadN (fun w=>by kernel_rfl) (fun w=>by kernel_rfl) ((hc47).ext hx))) ?_
     obtain ⟨ad48, hi49, h⟩ := h
     refine vcS_pure rfl rfl rfl (Value.pointer (some (ad48.add (vk38.toNat * 3)))) (fun w=>by exact exec_indexAt (s := data) (el := 30) rfl (by kernel_rfl) (by kernel_rfl) (by kernel_rfl) (fun w=>by kernel_rfl) (hi49).1 (hi49).2.1 (hi49).2.2 w) ?_
     refine vcS_eff rfl rfl (opVC_store rfl rfl (a := (ad48.add (vk38.toNat * 3))) (by kernel_rfl) (v := (Value.agg #[(Value.int .i64 zz1k), (Value.int .i64 zz1l), (Value.int .i64 zz1m)])) (by kernel_rfl) [(Value.int .i64 zz1k), (Value.int .i64 zz1l), (Value.int .i64 zz1m)] (by kernel_rfl) (fun w=>by kernel_rfl) (by kernel_rfl) (stw.mono h fun vw50 h=>?_)) vcS_stop
     refine ⟨fun hb=>absurd hb (by decide), ?_⟩
     obtain ⟨ad51, hi52, h⟩ := h
     refine vcS_pure rfl rfl rfl (Value.pointer (some (ad51.add ((wrapI (vk38 - 1)).toNat * 3)))) (fun w=>by exact exec_indexAt (s := data) (el := 30) rfl (by kernel_rfl) (by kernel_rfl) (by kernel_rfl) (fun w=>by kernel_rfl) (hi52).1 (hi52).2.1 (hi52).2.2 w) ?_
     refine vcS_eff rfl rfl (opVC_store rfl rfl (a := (ad51.add ((wrapI (vk38 - 1)).toNat * 3))) (by kernel_rfl) (v := (Value.agg #[(Value.int .i64 zz1n), (Value.int .i64 zz1o), (Value.int .i64 zz1p)])) (by kernel_rfl) [(Value.int .i64 zz1n), (Value.int .i64 zz1o), (Value.int .i64 zz1p)] (by kernel_rfl) (fun w=>by kernel_rfl) (by kernel_rfl) (stw.mono h fun vw53 h=>?_)) vcS_stop
     refine ⟨fun hb=>absurd hb (by decide), ?_⟩
     refine vcS_fin ?_
     refine Vc.region ?_
     refine vcL_purs 3 [(17, (Value.int .i64 (wrapI (vk38 - 1)))), (112, (Value.int .i64 (wrapI (vk38 - 1)))), (111, (Value.int .i64 vk38))] (by kernel_rfl) ?_
     refine vcL_nil ?_
     exact ⟨(wrapI (vk38 - 1)), 44, ⟨rfl, by kernel_rfl, by kernel_rfl, by kernel_rfl⟩, h⟩
    ·have h := h.2 (of_decide_eq_false hb)
     refine Vc.exit ?_
     refine outOf_hit ?_
     refine Vc.ret ?_
     refine outs_ret ?_
     refine done_mk (Value.tuple #[]) (res0 ) ?_
     exact ⟨rfl, h⟩
  ·have h := h.2 (ne_of_beq_false hb)
   refine Vc.skip ?_
   refine Vc.seq ?_
   refine Vc.region ?_
   refine vcL_purs 7 [(18, (Value.int .i64 (IntKind.wrap .i64 (Int.fdiv (IntKind.wrap .u64 (wrapI (a + b))) (2 ^ 1))))), (134, (Value.int .i64 (IntKind.wrap .i64 (Int.fdiv (IntKind.wrap .u64 (wrapI (a + b))) (2 ^ 1))))), (133, (Value.int .u64 (Int.fdiv (IntKind.wrap .u64 (wrapI (a + b))) (2 ^ 1)))), (132, (Value.int .u64 (IntKind.wrap .u64 (wrapI (a + b))))), (131, (Value.int .i64 (wrapI (a + b)))), (130, (Value.int .i64 b)), (129, (Value.int .i64 a))] (by kernel_rfl) ?_
   refine vcL_nil ?_
   refine Vc.seq ?_
   refine Vc.region ?_
   refine vcL_purs 4 [(19, (Value.int .i64 (wrapI ((IntKind.wrap .i64 (Int.fdiv (IntKind.wrap .u64 (wrapI (a + b))) (2 ^ 1))) + m)))), (137, (Value.int .i64 (wrapI ((IntKind.wrap .i64 (Int.fdiv (IntKind.wrap .u64 (wrapI (a + b))) (2 ^ 1))) + m)))), (136, (Value.int .i64 m)), (135, (Value.int .i64 (IntKind.wrap .i64 (Int.fdiv (IntKind.wrap .u64 (wrapI (a + b))) (2 ^ 1)))))] (by kernel_rfl) ?_
   refine vcL_nil ?_
   refine Vc.seq ?_
   refine Vc.region ?_
   refine vcL_purs 2 [(21, (Value.int .i64 0)), (20, (Value.int .i64 0))] (by kernel_rfl) ?_
   refine vcL_nil ?_
   obtain ⟨vJ94, hJ95, h⟩ := join_elim h
   refine Vc.seqJ (σ := Int × Int) [20, 21] [138, 139, 140, 141, 142, 143, 144, 145, 146] (fun s=>[(20, (Value.int .i64 s.1)), (21, (Value.int .i64 s.2))]) (fun s w=>vJ94 s.1 s.2 w) (fun _ => rfl) ?_ ?_
   ·refine Vc.seq ?_
    refine Vc.region ?_
    refine vcL_purs 3 [(140, (Value.bool (decide ((IntKind.wrap .i64 (Int.fdiv (IntKind.wrap .u64 (wrapI (a + b))) (2 ^ 1))) < m)))), (139, (Value.int .i64 (IntKind.wrap .i64 (Int.fdiv (IntKind.wrap .u64 (wrapI (a + b))) (2 ^ 1))))), (138, (Value.int .i64 m))] (by kernel_rfl) ?_
    refine vcL_nil ?_
    refine Vc.cond (decide ((IntKind.wrap .i64 (Int.fdiv (IntKind.wrap .u64 (wrapI (a + b))) (2 ^ 1))) < m)) (by kernel_rfl) (fun hb=>?_) (fun hb=>?_)
    ·have h := h.1 (of_decide_eq_true hb)
     refine Vc.seq ?_
     refine Vc.region ?_
     refine vcL_purs 4 [(20, (Value.int .i64 (wrapI ((wrapI ((IntKind.wrap .i64 (Int.fdiv (IntKind.wrap .u64 (wrapI (a + b))) (2 ^ 1))) + m)) - b)))), (143, (Value.int .i64 (wrapI ((wrapI ((IntKind.wrap .i64 (Int.fdiv (IntKind.wrap .u64 (wrapI (a + b))) (2 ^ 1))) + m)) - b)))), (142, (Value.int .i64 b)), (141, (Value.int .i64 (wrapI ((IntKind.wrap .i64 (Int.fdiv (IntKind.wrap .u64 (wrapI (a + b))) (2 ^ 1))) + m))))] (by kernel_rfl) ?_
     refine vcL_nil ?_
     refine Vc.region ?_
     refine vcL_purs 2 [(21, (Value.int .i64 (IntKind.wrap .i64 (Int.fdiv (IntKind.wrap .u64 (wrapI (a + b))) (2 ^ 1))))), (144, (Value.int .i64 (IntKind.wrap .i64 (Int.fdiv (IntKind.wrap .u64 (wrapI (a + b))) (2 ^ 1)))))] (by kernel_rfl) ?_
     refine vcL_nil ?_
     exact ⟨((wrapI ((wrapI ((IntKind.wrap .i64 (Int.fdiv (IntKind.wrap .u64 (wrapI (a + b))) (2 ^ 1))) + m)) - b)), (IntKind.wrap .i64 (Int.fdiv (IntKind.wrap .u64 (wrapI (a + b))) (2 ^ 1)))), 9, ⟨rfl, by kernel_rfl, by kernel_rfl, by kernel_rfl⟩, h⟩
    ·have h := h.2 (of_decide_eq_false hb)
     refine Vc.seq ?_
     refine Vc.region ?_
     refine vcL_purs 2 [(20, (Value.int .i64 a)), (145, (Value.int .i64 a))] (by kernel_rfl) ?_
     refine vcL_nil ?_
     refine Vc.region ?_
     refine vcL_purs 2 [(21, (Value.int .i64 m)), (146, (Value.int .i64 m))] (by kernel_rfl) ?_
     refine vcL_nil ?_
     exact ⟨(a, m), 7, ⟨rfl, by kernel_rfl, by kernel_rfl, by kernel_rfl⟩, h⟩
   ·rintro ⟨start, r⟩ vw60 j h
    subst hJ95
    refine Vc.seq ?_
    refine Vc.region ?_
    refine vcL_purs 3 [(22, (Value.int .i64 (wrapI ((wrapI ((IntKind.wrap .i64 (Int.fdiv (IntKind.wrap .u64 (wrapI (a + b))) (2 ^ 1))) + m)) - 1)))), (148, (Value.int .i64 (wrapI ((wrapI ((IntKind.wrap .i64 (Int.fdiv (IntKind.wrap .u64 (wrapI (a + b))) (2 ^ 1))) + m)) - 1)))), (147, (Value.int .i64 (wrapI ((IntKind.wrap .i64 (Int.fdiv (IntKind.wrap .u64 (wrapI (a + b))) (2 ^ 1))) + m))))] (by kernel_rfl) ?_
    refine vcL_nil ?_
    refine Vc.seq ?_
    refine Vc.block ?_
    obtain ⟨vI91, mu92, h, hr93⟩ := h
    refine Vc.loopJ (σ := Int × Int) [20, 21] [23, 149, 150, 151, 152, 153, 154, 155, 156, 157, 158, 159, 160, 161, 162, 163, 164, 165, 166, 167, 168, 169, 170, 171, 172, 173, 174] (fun s=>[(20, (Value.int .i64 s.1)), (21, (Value.int .i64 s.2))]) (fun s w=>vI91 s.1 s.2 w) (fun s w=>mu92 s.1 s.2 w) (start, r) h (fun _ => rfl) (by kernel_rfl) ?_
    rintro ⟨start61, r62⟩ vw63 j h
    have h := hr93 start61 r62 vw63 h
    refine Vc.seq ?_
    refine Vc.seq ?_
    refine Vc.region ?_
    refine vcL_purs 3 [(151, (Value.bool (decide (start61 < r62)))), (150, (Value.int .i64 r62)), (149, (Value.int .i64 start61))] (by kernel_rfl) ?_
    refine vcL_nil ?_
    refine Vc.cond (decide (start61 < r62)) (by kernel_rfl) (fun hb=>?_) (fun hb=>?_)
    ·have h := h.1 (of_decide_eq_true hb)
     refine Vc.skip ?_
     refine Vc.block ?_
     refine Vc.seq ?_
     refine Vc.region ?_
     refine vcL_purs 7 [(23, (Value.int .i64 (IntKind.wrap .i64 (Int.fdiv (IntKind.wrap .u64 (wrapI (start61 + r62))) (2 ^ 1))))), (157, (Value.int .i64 (IntKind.wrap .i64 (Int.fdiv (IntKind.wrap .u64 (wrapI (start61 + r62))) (2 ^ 1))))), (156, (Value.int .u64 (Int.fdiv (IntKind.wrap .u64 (wrapI (start61 + r62))) (2 ^ 1)))), (155, (Value.int .u64 (IntKind.wrap .u64 (wrapI (start61 + r62))))), (154, (Value.int .i64 (wrapI (start61 + r62)))), (153, (Value.int .i64 r62)), (152, (Value.int .i64 start61))] (by kernel_rfl) ?_
     refine vcL_nil ?_
     refine Vc.seq ?_
     obtain ⟨vw65, hvw65⟩ : ∃ y, y = vw63.drew := ⟨_, rfl⟩
     have h := h vw65 hvw65
     refine Vc.draw (by kernel_rfl) (fun i=>!(memN [11] i)) (.pur 0 (.pur 1 (.pur 2 (.pur 3 (.pur 4 (.pur 5 (.val 6 (.pur 7 (.pur 8 (.pur 9 (.val 10 (.eff 11 (.pur 12 (.pur 13 .fin)) .stop)))))))))))) (by kernel_rfl) ?_
     rw [← hvw65]
     clear hvw65
     refine vcS_pure rfl rfl rfl cmp (fun w=>by kernel_rfl) ?_
     refine vcS_pure rfl rfl rfl (Sl.v data) (fun w=>by kernel_rfl) ?_
     refine vcS_pure rfl rfl rfl (Value.int .i64 (wrapI ((wrapI ((IntKind.wrap .i64 (Int.fdiv (IntKind.wrap .u64 (wrapI (a + b))) (2 ^ 1))) + m)) - 1))) (fun w=>by kernel_rfl) ?_
     refine vcS_pure rfl rfl rfl (Value.int .i64 (IntKind.wrap .i64 (Int.fdiv (IntKind.wrap .u64 (wrapI (start61 + r62))) (2 ^ 1)))) (fun w=>by kernel_rfl) ?_
     refine vcS_pure rfl rfl rfl (Value.int .i64 (wrapI ((wrapI ((wrapI ((IntKind.wrap .i64 (Int.fdiv (IntKind.wrap .u64 (wrapI (a + b))) (2 ^ 1))) + m)) - 1)) - (IntKind.wrap .i64 (Int.fdiv (IntKind.wrap .u64 (wrapI (start61 + r62))) (2 ^ 1)))))) (fun w=>by kernel_rfl) ?_
     obtain ⟨ad66, hi67, h⟩ := h
     refine vcS_pure rfl rfl rfl (Value.pointer (some (ad66.add ((wrapI ((wrapI ((wrapI ((IntKind.wrap .i64 (Int.fdiv (IntKind.wrap .u64 (wrapI (a + b))) (2 ^ 1))) + m)) - 1)) - (IntKind.wrap .i64 (Int.fdiv (IntKind.wrap .u64 (wrapI (start61 + r62))) (2 ^ 1))))).toNat * 3)))) (fun w=>by exact exec_indexAt (s := data) (el := 30) rfl (by kernel_rfl) (by kernel_rfl) (by kernel_rfl) (fun w=>by kernel_rfl) (hi67).1 (hi67).2.1 (hi67).2.2 w) ?_
     obtain ⟨zz2f, zz2g, zz2h, hc68, h⟩ := h
     refine vcS_val rfl rfl rfl (Value.agg #[(Value.int .i64 zz2f), (Value.int .i64 zz2g), (Value.int .i64 zz2h)]) (fun w' hx=>exec_load rfl (by kernel_rfl) (run_loadN (fun w=>by kernel_rfl) (fun w=>by kernel_rfl) ((hc68).ext hx))) ?_
     refine vcS_pure rfl rfl rfl (Sl.v data) (fun w=>by kernel_rfl) ?_
     refine vcS_pure rfl rfl rfl (Value.int .i64 (IntKind.wrap .i64 (Int.fdiv (IntKind.wrap .u64 (wrapI (start61 + r62))) (2 ^ 1)))) (fun w=>by kernel_rfl) ?_
     obtain ⟨ad69, hi70, h⟩ := h
     refine vcS_pure rfl rfl rfl (Value.pointer (some (ad69.add ((IntKind.wrap .i64 (Int.fdiv (IntKind.wrap .u64 (wrapI (start61 + r62))) (2 ^ 1))).toNat * 3)))) (fun w=>by exact exec_indexAt (s := data) (el := 30) rfl (by kernel_rfl) (by kernel_rfl) (by kernel_rfl) (fun w=>by kernel_rfl) (hi70).1 (hi70).2.1 (hi70).2.2 w) ?_
     obtain ⟨zz2i, zz2j, zz2k, hc71, h⟩ := h
     refine vcS_val rfl rfl rfl (Value.agg #[(Value.int .i64 zz2i), (Value.int .i64 zz2j), (Value.int .i64 zz2k)]) (fun w' hx=>exec_load rfl (by kernel_rfl) (run_loadN (fun w=>by kernel_rfl) (fun w=>by kernel_rfl) ((hc71).ext hx))) ?_
     refine vcS_eff rfl rfl (opVC_callV rfl rfl (fv := cmp) (by kernel_rfl) (args := [(Value.agg #[(Value.int .i64 zz2f), (Value.int .i64 zz2g), (Value.int .i64 zz2h)]), (Value.agg #[(Value.int .i64 zz2i), (Value.int .i64 zz2j), (Value.int .i64 zz2k)])]) (by kernel_rfl) (callV.mono h fun v73 vw72 h=>?_)) vcS_stop
     obtain ⟨t169, rfl, h⟩ := h
     refine ⟨fun hb=>absurd hb (by decide), ?_⟩
     refine vcS_pure rfl rfl rfl (Value.bool (decide (t169 < 0))) (fun w=>by kernel_rfl) ?_
     refine vcS_pure rfl rfl rfl (Value.bool (!(decide (t169 < 0)))) (fun w=>by kernel_rfl) ?_
     refine vcS_fin ?_
     refine Vc.cond (!(decide (t169 < 0))) (by kernel_rfl) (fun hb=>?_) (fun hb=>?_)
     ·have h := h.1 ((fun hb=>of_decide_eq_false hb) (by simpa using hb))
      refine Vc.region ?_
      refine vcL_purs 3 [(20, (Value.int .i64 (wrapI ((IntKind.wrap .i64 (Int.fdiv (IntKind.wrap .u64 (wrapI (start61 + r62))) (2 ^ 1))) + 1)))), (173, (Value.int .i64 (wrapI ((IntKind.wrap .i64 (Int.fdiv (IntKind.wrap .u64 (wrapI (start61 + r62))) (2 ^ 1))) + 1)))), (172, (Value.int .i64 (IntKind.wrap .i64 (Int.fdiv (IntKind.wrap .u64 (wrapI (start61 + r62))) (2 ^ 1)))))] (by kernel_rfl) ?_
      refine vcL_nil ?_
      exact ⟨((wrapI ((IntKind.wrap .i64 (Int.fdiv (IntKind.wrap .u64 (wrapI (start61 + r62))) (2 ^ 1))) + 1)), r62), 56, ⟨rfl, by kernel_rfl, by kernel_rfl, by kernel_rfl⟩, h⟩
     ·have h := h.2 (not_not_intro ((fun hb=>of_decide_eq_true hb) (by simpa using hb)))
      refine Vc.region ?_
      refine vcL_purs 2 [(21, (Value.int .i64 (IntKind.wrap .i64 (Int.fdiv (IntKind.wrap .u64 (wrapI (start61 + r62))) (2 ^ 1))))), (174, (Value.int .i64 (IntKind.wrap .i64 (Int.fdiv (IntKind.wrap .u64 (wrapI (start61 + r62))) (2 ^ 1)))))] (by kernel_rfl) ?_
      refine vcL_nil ?_
      exact ⟨(start61, (IntKind.wrap .i64 (Int.fdiv (IntKind.wrap .u64 (wrapI (start61 + r62))) (2 ^ 1)))), 55, ⟨rfl, by kernel_rfl, by kernel_rfl, by kernel_rfl⟩, h⟩
    ·have h := h.2 (of_decide_eq_false hb)
     refine Vc.exit ?_
     refine outOf_hit ?_
     refine Vc.seq ?_
     refine Vc.region ?_
     refine vcL_purs 4 [(24, (Value.int .i64 (wrapI ((wrapI ((IntKind.wrap .i64 (Int.fdiv (IntKind.wrap .u64 (wrapI (a + b))) (2 ^ 1))) + m)) - start61)))), (177, (Value.int .i64 (wrapI ((wrapI ((IntKind.wrap .i64 (Int.fdiv (IntKind.wrap .u64 (wrapI (a + b))) (2 ^ 1))) + m)) - start61)))), (176, (Value.int .i64 start61)), (175, (Value.int .i64 (wrapI ((IntKind.wrap .i64 (Int.fdiv (IntKind.wrap .u64 (wrapI (a + b))) (2 ^ 1))) + m))))] (by kernel_rfl) ?_
     refine vcL_nil ?_
     obtain ⟨vJ85, hJ86, h⟩ := join_elim h
     refine Vc.seqJ (σ := Unit) [] [178, 179, 180, 181, 182, 183, 184, 185, 186, 187, 188, 189, 190, 191] (fun s=>[]) (fun s w=>vJ85 w) (fun _ => rfl) ?_ ?_
     ·refine Vc.seq ?_
      refine Vc.region ?_
      refine vcL_purs 3 [(180, (Value.bool (decide (start61 < m)))), (179, (Value.int .i64 m)), (178, (Value.int .i64 start61))] (by kernel_rfl) ?_
      obtain ⟨b87, hb87⟩ : ∃ y, y = (decide (start61 < m)) := ⟨_, rfl⟩
      have h := h b87 hb87
      refine vcL_pure rfl rfl (Value.bool b87) (fun w=>by rw [hb87]; kernel_rfl) ?_
      refine vcL_guardP b87 (wanted_g (d := 181) rfl (by kernel_rfl) b87 (by kernel_rfl) b87 (eqT b87)) rfl (Value.int .i64 m) (fun hg w=>by subst hg; kernel_rfl) ?_
      refine vcL_guardP b87 (wanted_g (d := 181) rfl (by kernel_rfl) b87 (by kernel_rfl) b87 (eqT b87)) rfl (Value.int .i64 (wrapI ((wrapI ((IntKind.wrap .i64 (Int.fdiv (IntKind.wrap .u64 (wrapI (a + b))) (2 ^ 1))) + m)) - start61))) (fun hg w=>by subst hg; kernel_rfl) ?_
      refine vcL_guardP b87 (wanted_g (d := 181) rfl (by kernel_rfl) b87 (by kernel_rfl) b87 (eqT b87)) rfl (Value.bool (decide (m < (wrapI ((wrapI ((IntKind.wrap .i64 (Int.fdiv (IntKind.wrap .u64 (wrapI (a + b))) (2 ^ 1))) + m)) - start61))))) (fun hg w=>by subst hg; kernel_rfl) ?_
      refine vcL_pure rfl rfl (Value.bool (b87 && (decide (m < (wrapI ((wrapI ((IntKind.wrap .i64 (Int.fdiv (IntKind.wrap .u64 (wrapI (a + b))) (2 ^ 1))) + m)) - start61)))))) (fun w=>by cases b87 <;> kernel_rfl) ?_
      refine vcL_nil ?_
      refine Vc.cond (b87 && (decide (m < (wrapI ((wrapI ((IntKind.wrap .i64 (Int.fdiv (IntKind.wrap .u64 (wrapI (a + b))) (2 ^ 1))) + m)) - start61))))) (by kernel_rfl) (fun hb=>?_) (fun hb=>?_)
      ·have h := h.1 (hb)
       refine Vc.region ?_
       refine vcL_purs 5 [(190, cmp), (189, (Value.int .i64 (wrapI ((wrapI ((IntKind.wrap .i64 (Int.fdiv (IntKind.wrap .u64 (wrapI (a + b))) (2 ^ 1))) + m)) - start61)))), (188, (Value.int .i64 m)), (187, (Value.int .i64 start61)), (186, (Sl.v data))] (by kernel_rfl) ?_
       refine vcL_eff rfl (opVC_call rfl (by kernel_rfl) (callS.mono h fun v89 vw88 h=>?_))
       obtain ⟨rfl, h⟩ := h
       refine vcL_nil ?_
       exact ⟨(), 14, ⟨rfl, by kernel_rfl, by kernel_rfl, by kernel_rfl⟩, h⟩
      ·have h := h.2 (hb)
       refine Vc.skip ?_
       exact ⟨(), 8, ⟨rfl, by kernel_rfl, by kernel_rfl, by kernel_rfl⟩, h⟩
     ·intro s vw75 j h
      subst hJ86
      obtain ⟨vJ, hJ, h⟩ := join_elim h
      refine Vc.seqJ (σ := Unit) [] [192, 193, 194, 195, 196, 197, 198, 199, 200, 201, 202, 203, 204, 205] (fun s=>[]) (fun s w=>vJ w) (fun _ => rfl) ?_ ?_
      ·refine Vc.seq ?_
       refine Vc.region ?_
       refine vcL_purs 3 [(194, (Value.bool (decide (a < start61)))), (193, (Value.int .i64 start61)), (192, (Value.int .i64 a))] (by kernel_rfl) ?_
       obtain ⟨b81, hb81⟩ : ∃ y, y = (decide (a < start61)) := ⟨_, rfl⟩
       have h := h b81 hb81
       refine vcL_pure rfl rfl (Value.bool b81) (fun w=>by rw [hb81]; kernel_rfl) ?_
       refine vcL_guardP b81 (wanted_g (d := 195) rfl (by kernel_rfl) b81 (by kernel_rfl) b81 (eqT b81)) rfl (Value.int .i64 start61) (fun hg w=>by subst hg; kernel_rfl) ?_
       refine vcL_guardP b81 (wanted_g (d := 195) rfl (by kernel_rfl) b81 (by kernel_rfl) b81 (eqT b81)) rfl (Value.int .i64 (IntKind.wrap .i64 (Int.fdiv (IntKind.wrap .u64 (wrapI (a + b))) (2 ^ 1)))) (fun hg w=>by subst hg; kernel_rfl) ?_
       refine vcL_guardP b81 (wanted_g (d := 195) rfl (by kernel_rfl) b81 (by kernel_rfl) b81 (eqT b81)) rfl (Value.bool (decide (start61 < (IntKind.wrap .i64 (Int.fdiv (IntKind.wrap .u64 (wrapI (a + b))) (2 ^ 1)))))) (fun hg w=>by subst hg; kernel_rfl) ?_
       refine vcL_pure rfl rfl (Value.bool (b81 && (decide (start61 < (IntKind.wrap .i64 (Int.fdiv (IntKind.wrap .u64 (wrapI (a + b))) (2 ^ 1))))))) (fun w=>by cases b81 <;> kernel_rfl) ?_
       refine vcL_nil ?_
       refine Vc.cond (b81 && (decide (start61 < (IntKind.wrap .i64 (Int.fdiv (IntKind.wrap .u64 (wrapI (a + b))) (2 ^ 1)))))) (by kernel_rfl) (fun hb=>?_) (fun hb=>?_)
       ·have h := h.1 (hb)
        refine Vc.region ?_
        refine vcL_purs 5 [(204, cmp), (203, (Value.int .i64 (IntKind.wrap .i64 (Int.fdiv (IntKind.wrap .u64 (wrapI (a + b))) (2 ^ 1))))), (202, (Value.int .i64 start61)), (201, (Value.int .i64 a)), (200, (Sl.v data))] (by kernel_rfl) ?_
        refine vcL_eff rfl (opVC_call rfl (by kernel_rfl) (callS.mono h fun v83 vw82 h=>?_))
        obtain ⟨rfl, h⟩ := h
        refine vcL_nil ?_
        exact ⟨(), 14, ⟨rfl, by kernel_rfl, by kernel_rfl, by kernel_rfl⟩, h⟩
       ·have h := h.2 (hb)
        refine Vc.skip ?_
        exact ⟨(), 8, ⟨rfl, by kernel_rfl, by kernel_rfl, by kernel_rfl⟩, h⟩
      ·intro s vw76 j h
       subst hJ
       refine Vc.seq ?_
       refine Vc.region ?_
       refine vcL_purs 3 [(208, (Value.bool (decide ((IntKind.wrap .i64 (Int.fdiv (IntKind.wrap .u64 (wrapI (a + b))) (2 ^ 1))) < (wrapI ((wrapI ((IntKind.wrap .i64 (Int.fdiv (IntKind.wrap .u64 (wrapI (a + b))) (2 ^ 1))) + m)) - start61)))))), (207, (Value.int .i64 (wrapI ((wrapI ((IntKind.wrap .i64 (Int.fdiv (IntKind.wrap .u64 (wrapI (a + b))) (2 ^ 1))) + m)) - start61)))), (206, (Value.int .i64 (IntKind.wrap .i64 (Int.fdiv (IntKind.wrap .u64 (wrapI (a + b))) (2 ^ 1)))))] (by kernel_rfl) ?_
       obtain ⟨b77, hb77⟩ : ∃ y, y = (decide ((IntKind.wrap .i64 (Int.fdiv (IntKind.wrap .u64 (wrapI (a + b))) (2 ^ 1))) < (wrapI ((wrapI ((IntKind.wrap .i64 (Int.fdiv (IntKind.wrap .u64 (wrapI (a + b))) (2 ^ 1))) + m)) - start61)))) := ⟨_, rfl⟩
       have h := h b77 hb77
       refine vcL_pure rfl rfl (Value.bool b77) (fun w=>by rw [hb77]; kernel_rfl) ?_
       refine vcL_guardP b77 (wanted_g (d := 209) rfl (by kernel_rfl) b77 (by kernel_rfl) b77 (eqT b77)) rfl (Value.int .i64 (wrapI ((wrapI ((IntKind.wrap .i64 (Int.fdiv (IntKind.wrap .u64 (wrapI (a + b))) (2 ^ 1))) + m)) - start61))) (fun hg w=>by subst hg; kernel_rfl) ?_
       refine vcL_guardP b77 (wanted_g (d := 209) rfl (by kernel_rfl) b77 (by kernel_rfl) b77 (eqT b77)) rfl (Value.int .i64 b) (fun hg w=>by subst hg; kernel_rfl) ?_
       refine vcL_guardP b77 (wanted_g (d := 209) rfl (by kernel_rfl) b77 (by kernel_rfl) b77 (eqT b77)) rfl (Value.bool (decide ((wrapI ((wrapI ((IntKind.wrap .i64 (Int.fdiv (IntKind.wrap .u64 (wrapI (a + b))) (2 ^ 1))) + m)) - start61)) < b))) (fun hg w=>by subst hg; kernel_rfl) ?_
       refine vcL_pure rfl rfl (Value.bool (b77 && (decide ((wrapI ((wrapI ((IntKind.wrap .i64 (Int.fdiv (IntKind.wrap .u64 (wrapI (a + b))) (2 ^ 1))) + m)) - start61)) < b)))) (fun w=>by cases b77 <;> kernel_rfl) ?_
       refine vcL_nil ?_
       refine Vc.cond (b77 && (decide ((wrapI ((wrapI ((IntKind.wrap .i64 (Int.fdiv (IntKind.wrap .u64 (wrapI (a + b))) (2 ^ 1))) + m)) - start61)) < b))) (by kernel_rfl) (fun hb=>?_) (fun hb=>?_)
       ·have h := h.1 (hb)
        refine Vc.region ?_
        refine vcL_purs 5 [(218, cmp), (217, (Value.int .i64 b)), (216, (Value.int .i64 (wrapI ((wrapI ((IntKind.wrap .i64 (Int.fdiv (IntKind.wrap .u64 (wrapI (a + b))) (2 ^ 1))) + m)) - start61)))), (215, (Value.int .i64 (IntKind.wrap .i64 (Int.fdiv (IntKind.wrap .u64 (wrapI (a + b))) (2 ^ 1))))), (214, (Sl.v data))] (by kernel_rfl) ?_
        refine vcL_eff rfl (opVC_call rfl (by kernel_rfl) (callS.mono h fun v79 vw78 h=>?_))
        obtain ⟨rfl, h⟩ := h
        refine vcL_nil ?_
        refine done_mk (Value.tuple #[]) (res0 ) ?_
        exact ⟨rfl, h⟩
       ·have h := h.2 (hb)
        refine Vc.skip ?_
        refine done_mk (Value.tuple #[]) (res0 ) ?_
        exact ⟨rfl, h⟩
theorem slices_symMergeCmpFunc_apiVersion.go {data : Sl} {a : Int} {m : Int} {b : Int} {cmp : Value} {w : World} {k : Value → World → Prop} (h : slices_symMergeCmpFunc_apiVersion data a m b cmp w fun  w'=>k (Value.tuple #[]) w') : callS Tryz.prog 155 [(Sl.v data), (Value.int .i64 a), (Value.int .i64 m), (Value.int .i64 b), cmp] w k := (slices_symMergeCmpFunc_apiVersion.sound data a m b cmp w _ h).mono (by rintro _ _ ⟨rfl, h⟩; exact h)
end Go.Hal.SE
