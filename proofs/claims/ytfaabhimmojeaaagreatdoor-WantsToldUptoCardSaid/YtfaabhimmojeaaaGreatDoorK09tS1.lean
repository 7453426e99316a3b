/- Lemmas for the claim K09t: how the program's functions run, and what they answer; no condition but those that each theorem names. -/
import Derived.Test.YtfaabhimmojeaaaGreatDoorProg
import Derived.Test.YtfaabhimmojeaaaGreatDoorK09tA0
set_option linter.unusedVariables false
set_option linter.unusedSimpArgs false
namespace Go.Hal.SE
open Go Go.RowKit Go.Hal Go.Proofs
set_option maxRecDepth 100000
def slices_IndexFunc_apiPinapiPin (vs : Sl) (f : Value) (w : World) (R : Int → World → Prop) : Prop :=
 loop1 0 w fun t8 vw nxt=>((t8 < (vs.len : Int) → ∃ (ad : Addr), (vs.a = some ad ∧ (0 : Int) ≤ t8 ∧ t8 < (vs.len : Int)) ∧ ∃ (zzo : ByteArray) (zzp : Int) (zzq : Int) (zzr : Int), (ldc vw (ad.add (t8.toNat * 4)) [(Value.string zzo), (Value.int .i64 zzp), (Value.int .i64 zzq), (Value.int .i64 zzr)]) ∧ callV Tryz.prog f [(Value.agg #[(Value.string zzo), (Value.int .i64 zzp), (Value.int .i64 zzq), (Value.int .i64 zzr)])] vw fun v vw1=>∃ (t16 : Bool), v = (Value.bool t16) ∧ ((t16 = true → R t8 vw1) ∧ (t16 = false → nxt (wrapI (t8 + 1)) vw1))) ∧ (¬ (t8 < (vs.len : Int)) → R (-1) vw))
set_option maxHeartbeats 8000000 in
theorem slices_IndexFunc_apiPinapiPin.sound (vs : Sl) (f : Value) (w : World) (R : Int → World → Prop) (h : slices_IndexFunc_apiPinapiPin vs f w R) : callS Tryz.prog 52 [(Sl.v vs), f] w (fun v w'=>∃ (r0 : Int), v = (Value.int .i64 r0) ∧ R r0 w') := by
 unfold slices_IndexFunc_apiPinapiPin at h
 refine calls_of_vc 19 rfl Tryz.func52 rfl (by kernel_rfl) (by simp) ?_
 refine Vc.seq ?_
 refine Vc.region ?_
 refine vcL_pure rfl rfl (Value.int .i64 0) (fun w=>by kernel_rfl) ?_
 refine vcL_nil ?_
 refine Vc.seq ?_
 refine Vc.seq ?_
 refine Vc.region ?_
 refine vcL_purs 3 [(8, (Value.int .i64 0)), (7, (Value.int .i64 (vs.len : Int))), (6, (Sl.v vs))] (by kernel_rfl) ?_
 refine vcL_nil ?_
 refine Vc.block ?_
 obtain ⟨vI, mu, h, hr⟩ := h
 refine Vc.loopJ (σ := Int) [8] [4, 5, 9, 10, 11, 12, 13, 14, 15, 16, 17, 18] (fun s=>[(8, (Value.int .i64 s))]) (fun s w=>vI s w) (fun s w=>mu s w) 0 h (fun _ => rfl) (by kernel_rfl) ?_
 intro t8 vw j h
 have h := hr t8 vw h
 refine Vc.seq ?_
 refine Vc.region ?_
 refine vcL_pure rfl rfl (Value.bool (decide (t8 < (vs.len : Int)))) (fun w=>by kernel_rfl) ?_
 refine vcL_nil ?_
 refine Vc.seq ?_
 refine Vc.cond (decide (t8 < (vs.len : Int))) (by kernel_rfl) (fun hb=>?_) (fun hb=>?_)
 ·have h := h.1 (of_decide_eq_true hb)
  refine Vc.skip ?_
  refine Vc.seq ?_
  refine Vc.block ?_
  refine Vc.seq ?_
  refine Vc.region ?_
  refine vcL_purs 2 [(5, (Value.int .i64 t8)), (10, (Value.int .i64 t8))] (by kernel_rfl) ?_
  refine vcL_nil ?_
  refine Vc.seq ?_
  refine Vc.region ?_
  refine vcL_purs 3 [(13, (Value.int .i64 t8)), (12, (Sl.v vs)), (11, f)] (by kernel_rfl) ?_
  obtain ⟨ad, hi, h⟩ := h
  refine vcL_pure rfl rfl (Value.pointer (some (ad.add (t8.toNat * 4)))) (fun w=>by exact exec_indexAt (s := vs) (el := 32) rfl (by kernel_rfl) (by kernel_rfl) (by kernel_rfl) (fun w=>by kernel_rfl) (hi).1 (hi).2.1 (hi).2.2 w) ?_
  obtain ⟨zzo, zzp, zzq, zzr, hc, h⟩ := h
  refine vcL_val rfl rfl (Value.agg #[(Value.string zzo), (Value.int .i64 zzp), (Value.int .i64 zzq), (Value.int .i64 zzr)]) (exec_load rfl (by kernel_rfl) (run_loadN (fun w=>by kernel_rfl) (fun w=>by kernel_rfl) ((hc)))) ?_
  refine vcL_eff rfl (opVC_callV rfl rfl (fv := f) (by kernel_rfl) (args := [(Value.agg #[(Value.string zzo), (Value.int .i64 zzp), (Value.int .i64 zzq), (Value.int .i64 zzr)])]) (by kernel_rfl) (callV.mono h fun v vw1 h=>?_))
  obtain ⟨t16, rfl, h⟩ := h
  refine vcL_nil ?_
  refine Vc.cond t16 (by kernel_rfl) (fun hb=>?_) (fun hb=>?_)
  ·have h := h.1 (hb)
   refine Vc.seq ?_
   refine Vc.region ?_
   refine vcL_purs 2 [(4, (Value.int .i64 t8)), (17, (Value.int .i64 t8))] (by kernel_rfl) ?_
   refine vcL_nil ?_
   refine Vc.ret ?_
   refine outOf_ret ?_
   refine outOf_ret ?_
   refine outs_ret ?_
   refine done_mk (Value.int .i64 t8) (res1 (resC_tmp (by kernel_rfl))) ?_
   exact ⟨t8, rfl, h⟩
  ·have h := h.2 (hb)
   refine Vc.skip ?_
   refine Vc.region ?_
   refine vcL_purs 2 [(8, (Value.int .i64 (wrapI (t8 + 1)))), (18, (Value.int .i64 (wrapI (t8 + 1))))] (by kernel_rfl) ?_
   refine vcL_nil ?_
   exact ⟨(wrapI (t8 + 1)), 24, ⟨rfl, by kernel_rfl, by kernel_rfl, by kernel_rfl⟩, h⟩
 ·have h := h.2 (of_decide_eq_false hb)
  refine Vc.exit ?_
  refine outOf_hit ?_
  refine Vc.seq ?_
  refine Vc.region ?_
  refine vcL_pure rfl rfl (Value.int .i64 (-1)) (fun w=>by kernel_rfl) ?_
  refine vcL_nil ?_
  refine Vc.ret ?_
  refine outs_ret ?_
  refine done_mk (Value.int .i64 (-1)) (res1 (resC_tmp (by kernel_rfl))) ?_
  exact ⟨(-1), rfl, h⟩
theorem slices_IndexFunc_apiPinapiPin.go {vs : Sl} {f : Value} {w : World} {k : Value → World → Prop} (h : slices_IndexFunc_apiPinapiPin vs f w fun r0 w'=>k (Value.int .i64 r0) w') : callS Tryz.prog 52 [(Sl.v vs), f] w k := (slices_IndexFunc_apiPinapiPin.sound vs f w _ h).mono (by rintro _ _ ⟨r0, rfl, h⟩; exact h)
def span_In (l : Sl) (zz0 : Int) (zz1 : Int) (zz2 : Int) (w : World) (R : Bool → World → Prop) : Prop :=
 newS w [(Value.int .i64 zz0), (Value.int .i64 zz1), (Value.int .i64 zz2)] 30 fun a vw=>callS Tryz.prog 91 [(Sl.v l)] vw fun v vw1=>∃ (t6 : Bool), v = (Value.bool t6) ∧ ∃ (zz10 : Int) (zz11 : Int) (zz12 : Int), grd t6 (ldc vw1 a [(Value.int .i64 zz10), (Value.int .i64 zz11), (Value.int .i64 zz12)]) ∧ gCall t6 (fun (t9 : Bool) (vw2 : World)=>bnd (t6 && t9) fun (b : Bool)=>gCall b (fun (t14 : Bool) (vw5 : World)=>R (b && t14) vw5) (fun q=>callS Tryz.prog 98 [(Sl.v l), (Value.func (.func 99) #[] #[(Value.pointer (some a))])] vw2 fun v6 vw5=>∃ (t14 : Bool), v6 = (Value.bool t14) ∧ q t14 vw5) (fun q=>q false vw2)) (fun q=>callS Tryz.prog 97 [(Value.agg #[(Value.int .i64 zz10), (Value.int .i64 zz11), (Value.int .i64 zz12)])] vw1 fun v3 vw2=>∃ (t9 : Bool), v3 = (Value.bool t9) ∧ q t9 vw2) (fun q=>q false vw1)
set_option maxHeartbeats 8000000 in
theorem span_In.sound (l : Sl) (zz0 : Int) (zz1 : Int) (zz2 : Int) (w : World) (R : Bool → World → Prop) (h : span_In l zz0 zz1 zz2 w R) : callS Tryz.prog 53 [(Sl.v l), (Value.agg #[(Value.int .i64 zz0), (Value.int .i64 zz1), (Value.int .i64 zz2)])] w (fun v w'=>∃ (r0 : Bool), v = (Value.bool r0) ∧ R r0 w') := by
 unfold span_In at h
 refine calls_of_vc 16 rfl Tryz.func53 rfl (by kernel_rfl) (by simp) ?_
 refine Vc.seq ?_
 refine Vc.region ?_
 refine vcL_eff rfl (opVC_new rfl (fun a=>Value.pointer (some a)) (by kernel_rfl) (newS.mono h fun a vw hx h=>?_))
 refine vcL_pure rfl rfl (Value.bool false) (fun w=>by kernel_rfl) ?_
 refine vcL_nil ?_
 refine Vc.seq ?_
 refine Vc.region ?_
 refine vcL_pure rfl rfl (Sl.v l) (fun w=>by kernel_rfl) ?_
 refine vcL_eff rfl (opVC_call rfl (by kernel_rfl) (callS.mono h fun v vw1 h=>?_))
 obtain ⟨t6, rfl, h⟩ := h
 refine vcL_pure rfl rfl (Value.bool t6) (fun w=>by kernel_rfl) ?_
 obtain ⟨zz10, zz11, zz12, hc, h⟩ := h
 refine vcL_guard t6 (wanted_g (d := 7) rfl (by kernel_rfl) t6 (by kernel_rfl) t6 (eqT t6)) rfl (Value.agg #[(Value.int .i64 zz10), (Value.int .i64 zz11), (Value.int .i64 zz12)]) (fun hg=>by subst hg; exact exec_load rfl (by kernel_rfl) (run_loadN (fun w=>by kernel_rfl) (fun w=>by kernel_rfl) ((hc rfl)))) ?_
 obtain ⟨vJ, hJ, h⟩ := gCall_elim h
 refine vcL_effJ (σ := Bool) t6 (wanted_g (d := 7) rfl (by kernel_rfl) t6 (by kernel_rfl) t6 (eqT t6)) rfl (fun s w=>vJ s w) (fun s=>(Value.bool s)) ?_ (fun hg=>opVC_call rfl (by subst hg; kernel_rfl) (callS.mono (h.1 hg) fun v3 vw2 hq=>?_)) (fun hg=>⟨false, h.2 hg⟩)
 ·intro t9 vw2 h
  subst hJ
  refine vcL_pure rfl rfl (Value.bool (t6 && t9)) (fun w=>by cases t6 <;> kernel_rfl) ?_
  obtain ⟨b, hb⟩ : ∃ y, y = (t6 && t9) := ⟨_, rfl⟩
  have h := h b hb
  refine vcL_pure rfl rfl (Value.bool b) (fun w=>by rw [hb]; kernel_rfl) ?_
  refine vcL_guardP b (wanted_g (d := 11) rfl (by kernel_rfl) b (by kernel_rfl) b (eqT b)) rfl (Sl.v l) (fun hg w=>by subst hg; kernel_rfl) ?_
  refine vcL_guardP b (wanted_g (d := 11) rfl (by kernel_rfl) b (by kernel_rfl) b (eqT b)) rfl (Value.func (.func 99) #[] #[(Value.pointer (some a))]) (fun hg w=>by subst hg; kernel_rfl) ?_
  obtain ⟨vJ8, hJ9, h⟩ := gCall_elim h
  refine vcL_effJ (σ := Bool) b (wanted_g (d := 11) rfl (by kernel_rfl) b (by kernel_rfl) b (eqT b)) rfl (fun s w=>vJ8 s w) (fun s=>(Value.bool s)) ?_ (fun hg=>opVC_call rfl (by subst hg; kernel_rfl) (callS.mono (h.1 hg) fun v6 vw5 hq=>?_)) (fun hg=>⟨false, h.2 hg⟩)
  ·intro t14 vw5 h
   subst hJ9
   refine vcL_pure rfl rfl (Value.bool (b && t14)) (fun w=>by cases b <;> kernel_rfl) ?_
   refine vcL_pure rfl rfl (Value.bool (b && t14)) (fun w=>by kernel_rfl) ?_
   refine vcL_nil ?_
   refine Vc.ret ?_
   refine outs_ret ?_
   refine done_mk (Value.bool (b && t14)) (res1 (resC_tmp (by kernel_rfl))) ?_
   exact ⟨(b && t14), rfl, h⟩
  ·obtain ⟨t14, rfl, hq⟩ := hq
   exact ⟨t14, rfl, hq⟩
 ·obtain ⟨t9, rfl, hq⟩ := hq
  exact ⟨t9, rfl, hq⟩
theorem span_In.go {l : Sl} {zz0 : Int} {zz1 : Int} {zz2 : Int} {w : World} {k : Value → World → Prop} (h : span_In l zz0 zz1 zz2 w fun r0 w'=>k (Value.bool r0) w') : callS Tryz.prog 53 [(Sl.v l), (Value.agg #[(Value.int .i64 zz0), (Value.int .i64 zz1), (Value.int .i64 zz2)])] w k := (span_In.sound l zz0 zz1 zz2 w _ h).mono (by rintro _ _ ⟨r0, rfl, h⟩; exact h)
def slices_ContainsFunc_apiPinapiPin (vs : Sl) (f : Value) (w : World) (R : Bool → World → Prop) : Prop :=
 callS Tryz.prog 52 [(Sl.v vs), f] w fun v vw=>∃ (t7 : Int), v = (Value.int .i64 t7) ∧ R (decide (0 ≤ t7)) vw
set_option maxHeartbeats 8000000 in
theorem slices_ContainsFunc_apiPinapiPin.sound (vs : Sl) (f : Value) (w : World) (R : Bool → World → Prop) (h : slices_ContainsFunc_apiPinapiPin vs f w R) : callS Tryz.prog 54 [(Sl.v vs), f] w (fun v w'=>∃ (r0 : Bool), v = (Value.bool r0) ∧ R r0 w') := by
 unfold slices_ContainsFunc_apiPinapiPin at h
 refine calls_of_vc 9 rfl Tryz.func54 rfl (by kernel_rfl) (by simp) ?_
 refine Vc.seq ?_
 refine Vc.region ?_
 refine vcL_pure rfl rfl (Value.bool false) (fun w=>by kernel_rfl) ?_
 refine vcL_nil ?_
 refine Vc.seq ?_
 refine Vc.region ?_
 refine vcL_purs 2 [(6, f), (5, (Sl.v vs))] (by kernel_rfl) ?_
 refine vcL_eff rfl (opVC_call rfl (by kernel_rfl) (callS.mono h fun v vw h=>?_))
 obtain ⟨t7, rfl, h⟩ := h
 refine vcL_purs 2 [(4, (Value.bool (decide (0 ≤ t7)))), (8, (Value.bool (decide (0 ≤ t7))))] (by kernel_rfl) ?_
 refine vcL_nil ?_
 refine Vc.ret ?_
 refine outs_ret ?_
 refine done_mk (Value.bool (decide (0 ≤ t7))) (res1 (resC_tmp (by kernel_rfl))) ?_
 exact ⟨(decide (0 ≤ t7)), rfl, h⟩
theorem slices_ContainsFunc_apiPinapiPin.go {vs : Sl} {f : Value} {w : World} {k : Value → World → Prop} (h : slices_ContainsFunc_apiPinapiPin vs f w fun r0 w'=>k (Value.bool r0) w') : callS Tryz.prog 54 [(Sl.v vs), f] w k := (slices_ContainsFunc_apiPinapiPin.sound vs f w _ h).mono (by rintro _ _ ⟨r0, rfl, h⟩; exact h)
def wants_Context_2 (zza : ByteArray) (zz18 : Int) (zz19 : Int) (zz1a : Int) (zzb : ByteArray) (zz1g : Int) (zz1h : Int) (zz1i : Int) (w : World) (R : Int → World → Prop) : Prop :=
 newS w [(Value.string zza), (Value.int .i64 zz18), (Value.int .i64 zz19), (Value.int .i64 zz1a)] 32 fun a vw=>newS vw [(Value.string zzb), (Value.int .i64 zz1g), (Value.int .i64 zz1h), (Value.int .i64 zz1i)] 32 fun a1 vw2=>∃ (t6 : ByteArray), (ldc vw2 a [(Value.string t6)]) ∧ ∃ (t8 : ByteArray), (ldc vw2 a1 [(Value.string t8)]) ∧ callS Tryz.prog 57 [(Value.string t6), (Value.string t8)] vw2 fun v vw4=>∃ (t9 : Int), v = (Value.int .i64 t9) ∧ R t9 vw4
set_option maxHeartbeats 8000000 in
theorem wants_Context_2.sound (zza : ByteArray) (zz18 : Int) (zz19 : Int) (zz1a : Int) (zzb : ByteArray) (zz1g : Int) (zz1h : Int) (zz1i : Int) (w : World) (R : Int → World → Prop) (h : wants_Context_2 zza zz18 zz19 zz1a zzb zz1g zz1h zz1i w R) : callS Tryz.prog 56 [(Value.agg #[(Value.string zza), (Value.int .i64 zz18), (Value.int .i64 zz19), (Value.int .i64 zz1a)]), (Value.agg #[(Value.string zzb), (Value.int .i64 zz1g), (Value.int .i64 zz1h), (Value.int .i64 zz1i)])] w (fun v w'=>∃ (r0 : Int), v = (Value.int .i64 r0) ∧ R r0 w') := by
 unfold wants_Context_2 at h
 refine calls_of_vc 10 rfl Tryz.func56 rfl (by kernel_rfl) (by simp) ?_
 refine Vc.seq ?_
 refine Vc.region ?_
 refine vcL_eff rfl (opVC_new rfl (fun a=>Value.pointer (some a)) (by kernel_rfl) (newS.mono h fun a vw hx h=>?_))
 refine vcL_eff rfl (opVC_new rfl (fun a=>Value.pointer (some a)) (by kernel_rfl) (newS.mono h fun a1 vw2 hx h=>?_))
 refine vcL_pure rfl rfl (Value.int .i64 0) (fun w=>by kernel_rfl) ?_
 refine vcL_nil ?_
 refine Vc.seq ?_
 refine Vc.region ?_
 refine vcL_pure rfl rfl (Value.pointer (some a)) (fun w=>by kernel_rfl) ?_
 obtain ⟨t6, hc, h⟩ := h
 refine vcL_val rfl rfl (Value.string t6) (exec_load rfl (by kernel_rfl) (run_load1 (fun w=>by kernel_rfl) ((hc)))) ?_
 refine vcL_pure rfl rfl (Value.pointer (some a1)) (fun w=>by kernel_rfl) ?_
 obtain ⟨t8, hc3, h⟩ := h
 refine vcL_val rfl rfl (Value.string t8) (exec_load rfl (by kernel_rfl) (run_load1 (fun w=>by kernel_rfl) ((hc3)))) ?_
 refine vcL_eff rfl (opVC_call rfl (by kernel_rfl) (callS.mono h fun v vw4 h=>?_))
 obtain ⟨t9, rfl, h⟩ := h
 refine vcL_pure rfl rfl (Value.int .i64 t9) (fun w=>by kernel_rfl) ?_
 refine vcL_nil ?_
 refine Vc.ret ?_
 refine outs_ret ?_
 refine done_mk (Value.int .i64 t9) (res1 (resC_tmp (by kernel_rfl))) ?_
 exact ⟨t9, rfl, h⟩
theorem wants_Context_2.go {zza : ByteArray} {zz18 : Int} {zz19 : Int} {zz1a : Int} {zzb : ByteArray} {zz1g : Int} {zz1h : Int} {zz1i : Int} {w : World} {k : Value → World → Prop} (h : wants_Context_2 zza zz18 zz19 zz1a zzb zz1g zz1h zz1i w fun r0 w'=>k (Value.int .i64 r0) w') : callS Tryz.prog 56 [(Value.agg #[(Value.string zza), (Value.int .i64 zz18), (Value.int .i64 zz19), (Value.int .i64 zz1a)]), (Value.agg #[(Value.string zzb), (Value.int .i64 zz1g), (Value.int .i64 zz1h), (Value.int .i64 zz1i)])] w k := (wants_Context_2.sound zza zz18 zz19 zz1a zzb zz1g zz1h zz1i w _ h).mono (by rintro _ _ ⟨r0, rfl, h⟩; exact h)
def slices_Clip_apiPinapiPin (vs : Sl) (w : World) (R : Sl → World → Prop) : Prop :=
 ((0 : Int) ≤ 0 ∧ 0 ≤ (vs.len : Int) ∧ (vs.len : Int) ≤ (vs.len : Int) ∧ (vs.len : Int) ≤ (vs.cap : Int)) ∧ R (Sl.mk (if (vs.len : Int).toNat = 0 then vs.a else vs.a.map (·.add (0 * 4))) ((vs.len : Int).toNat - 0) ((vs.len : Int).toNat - 0)) w
set_option maxHeartbeats 8000000 in
theorem slices_Clip_apiPinapiPin.sound (vs : Sl) (w : World) (R : Sl → World → Prop) (h : slices_Clip_apiPinapiPin vs w R) : callS Tryz.prog 58 [(Sl.v vs)] w (fun v w'=>∃ (r0 : Sl), v = (Sl.v r0) ∧ R r0 w') := by
 unfold slices_Clip_apiPinapiPin at h
 refine calls_of_vc 9 rfl Tryz.func58 rfl (by kernel_rfl) (by simp) ?_
 refine Vc.seq ?_
 refine Vc.region ?_
 refine vcL_pure rfl rfl (Sl.v Sl.nil) (fun w=>by kernel_rfl) ?_
 refine vcL_nil ?_
 refine Vc.seq ?_
 refine Vc.region ?_
 refine vcL_purs 5 [(7, (Value.int .i64 (vs.len : Int))), (6, (Sl.v vs)), (5, (Value.int .i64 (vs.len : Int))), (4, (Sl.v vs)), (3, (Sl.v vs))] (by kernel_rfl) ?_
 obtain ⟨hi, h⟩ := h
 refine vcL_pure rfl rfl (Sl.v (Sl.mk (if (vs.len : Int).toNat = 0 then vs.a else vs.a.map (·.add (0 * 4))) ((vs.len : Int).toNat - 0) ((vs.len : Int).toNat - 0))) (fun w=>by exact exec_slSlHM (s := vs) (el := 32) (k2 := .i64) (k3 := .i64) rfl (by kernel_rfl) (by kernel_rfl) (by kernel_rfl) (by kernel_rfl) (fun w=>by kernel_rfl) (hi) w) ?_
 refine vcL_pure rfl rfl (Sl.v (Sl.mk (if (vs.len : Int).toNat = 0 then vs.a else vs.a.map (·.add (0 * 4))) ((vs.len : Int).toNat - 0) ((vs.len : Int).toNat - 0))) (fun w=>by kernel_rfl) ?_
 refine vcL_nil ?_
 refine Vc.ret ?_
 refine outs_ret ?_
 refine done_mk (Sl.v (Sl.mk (if (vs.len : Int).toNat = 0 then vs.a else vs.a.map (·.add (0 * 4))) ((vs.len : Int).toNat - 0) ((vs.len : Int).toNat - 0))) (res1 (resC_tmp (by kernel_rfl))) ?_
 exact ⟨(Sl.mk (if (vs.len : Int).toNat = 0 then vs.a else vs.a.map (·.add (0 * 4))) ((vs.len : Int).toNat - 0) ((vs.len : Int).toNat - 0)), rfl, h⟩
theorem slices_Clip_apiPinapiPin.go {vs : Sl} {w : World} {k : Value → World → Prop} (h : slices_Clip_apiPinapiPin vs w fun r0 w'=>k (Sl.v r0) w') : callS Tryz.prog 58 [(Sl.v vs)] w k := (slices_Clip_apiPinapiPin.sound vs w _ h).mono (by rintro _ _ ⟨r0, rfl, h⟩; exact h)
def halyardref05_less (a : ByteArray) (b : ByteArray) (w : World) (R : Bool → World → Prop) : Prop :=
 loop1 0 w fun i vw nxt=>bnd (decide (i < (a.size : Int))) fun (b1 : Bool)=>(((b1 && (decide (i < (b.size : Int)))) = true → bnd vw.drew fun (vw2 : World)=>((0 : Int) ≤ i ∧ i < (a.size : Int)) ∧ ((0 : Int) ≤ i ∧ i < (b.size : Int)) ∧ ((¬ (bAt a i) = (bAt b i) → bnd vw2.drew fun (vw4 : World)=>((0 : Int) ≤ i ∧ i < (a.size : Int)) ∧ ((0 : Int) ≤ i ∧ i < (b.size : Int)) ∧ R (decide ((bAt a i) < (bAt b i))) vw4) ∧ (¬ (¬ (bAt a i) = (bAt b i)) → nxt (wrapI (i + 1)) vw2))) ∧ ((b1 && (decide (i < (b.size : Int)))) = false → R (decide ((a.size : Int) < (b.size : Int))) vw))
set_option maxHeartbeats 8000000 in
theorem halyardref05_less.sound (a : ByteArray) (b : ByteArray) (w : World) (R : Bool → World → Prop) (h : halyardref05_less a b w R) : callS Tryz.prog 59 [(Value.string a), (Value.string b)] w (fun v w'=>∃ (r0 : Bool), v = (Value.bool r0) ∧ R r0 w') := by
 unfold halyardref05_less at h
 refine calls_of_vc 37 rfl Tryz.func59 rfl (by kernel_rfl) (by simp) ?_
 refine Vc.seq ?_
 refine Vc.region ?_
 refine vcL_pure rfl rfl (Value.bool false) (fun w=>by kernel_rfl) ?_
 refine vcL_nil ?_
 refine Vc.seq ?_
 refine Vc.seq ?_
 refine Vc.region ?_
 refine vcL_pure rfl rfl (Value.int .i64 0) (fun w=>by kernel_rfl) ?_
 refine vcL_nil ?_
 refine Vc.block ?_
 obtain ⟨vI, mu, h, hr⟩ := h
 refine Vc.loopJ (σ := Int) [5] [4, 6, 7, 8, 9, 10, 11, 12, 13, 14, 15, 16, 17, 18, 19, 20, 21, 22, 23, 24, 25, 26, 27, 28, 29, 30, 31] (fun s=>[(5, (Value.int .i64 s))]) (fun s w=>vI s w) (fun s w=>mu s w) 0 h (fun _ => rfl) (by kernel_rfl) ?_
 intro i vw j h
 have h := hr i vw h
 refine Vc.seq ?_
 refine Vc.seq ?_
 refine Vc.region ?_
 refine vcL_purs 4 [(9, (Value.bool (decide (i < (a.size : Int))))), (8, (Value.int .i64 (a.size : Int))), (7, (Value.string a)), (6, (Value.int .i64 i))] (by kernel_rfl) ?_
 obtain ⟨b1, hb1⟩ : ∃ y, y = (decide (i < (a.size : Int))) := ⟨_, rfl⟩
 have h := h b1 hb1
 refine vcL_pure rfl rfl (Value.bool b1) (fun w=>by rw [hb1]; kernel_rfl) ?_
 refine vcL_guardP b1 (wanted_g (d := 10) rfl (by kernel_rfl) b1 (by kernel_rfl) b1 (eqT b1)) rfl (Value.int .i64 i) (fun hg w=>by subst hg; kernel_rfl) ?_
 refine vcL_guardP b1 (wanted_g (d := 10) rfl (by kernel_rfl) b1 (by kernel_rfl) b1 (eqT b1)) rfl (Value.string b) (fun hg w=>by subst hg; kernel_rfl) ?_
 refine vcL_guardP b1 (wanted_g (d := 10) rfl (by kernel_rfl) b1 (by kernel_rfl) b1 (eqT b1)) rfl (Value.int .i64 (b.size : Int)) (fun hg w=>by subst hg; kernel_rfl) ?_
 refine vcL_guardP b1 (wanted_g (d := 10) rfl (by kernel_rfl) b1 (by kernel_rfl) b1 (eqT b1)) rfl (Value.bool (decide (i < (b.size : Int)))) (fun hg w=>by subst hg; kernel_rfl) ?_
 refine vcL_pure rfl rfl (Value.bool (b1 && (decide (i < (b.size : Int))))) (fun w=>by cases b1 <;> kernel_rfl) ?_
 refine vcL_nil ?_
 refine Vc.cond (b1 && (decide (i < (b.size : Int)))) (by kernel_rfl) (fun hb=>?_) (fun hb=>?_)
 ·have h := h.1 (hb)
  refine Vc.skip ?_
  refine Vc.seq ?_
  refine Vc.block ?_
  refine Vc.seq ?_
  obtain ⟨vw2, hvw2⟩ : ∃ y, y = vw.drew := ⟨_, rfl⟩
  have h := h vw2 hvw2
  refine Vc.draw (by kernel_rfl) (fun i=>!(memN [] i)) (.pur 0 (.pur 1 (.pur 2 (.pur 3 (.pur 4 (.pur 5 (.pur 6 .fin))))))) (by kernel_rfl) ?_
  rw [← hvw2]
  clear hvw2
  refine vcS_pure rfl rfl rfl (Value.string a) (fun w=>by kernel_rfl) ?_
  refine vcS_pure rfl rfl rfl (Value.int .i64 i) (fun w=>by kernel_rfl) ?_
  obtain ⟨hi, h⟩ := h
  refine vcS_pure rfl rfl rfl (Value.int .u8 (bAt a i)) (fun w=>by exact exec_indexStr (s := a) (k := .i64) rfl (by kernel_rfl) (by kernel_rfl) (by kernel_rfl) (hi).1 (hi).2 w) ?_
  refine vcS_pure rfl rfl rfl (Value.string b) (fun w=>by kernel_rfl) ?_
  refine vcS_pure rfl rfl rfl (Value.int .i64 i) (fun w=>by kernel_rfl) ?_
  obtain ⟨hi3, h⟩ := h
  refine vcS_pure rfl rfl rfl (Value.int .u8 (bAt b i)) (fun w=>by exact exec_indexStr (s := b) (k := .i64) rfl (by kernel_rfl) (by kernel_rfl) (by kernel_rfl) (hi3).1 (hi3).2 w) ?_
  refine vcS_pure rfl rfl rfl (Value.bool (!((bAt a i) == (bAt b i)))) (fun w=>by kernel_rfl) ?_
  refine vcS_fin ?_
  refine Vc.cond (!((bAt a i) == (bAt b i))) (by kernel_rfl) (fun hb=>?_) (fun hb=>?_)
  ·have h := h.1 (ne_of_nbeq hb)
   refine Vc.seq ?_
   obtain ⟨vw4, hvw4⟩ : ∃ y, y = vw2.drew := ⟨_, rfl⟩
   have h := h vw4 hvw4
   refine Vc.draw (by kernel_rfl) (fun i=>!(memN [] i)) (.pur 0 (.pur 1 (.pur 2 (.pur 3 (.pur 4 (.pur 5 (.pur 6 (.pur 7 .fin)))))))) (by kernel_rfl) ?_
   rw [← hvw4]
   clear hvw4
   refine vcS_pure rfl rfl rfl (Value.string a) (fun w=>by kernel_rfl) ?_
   refine vcS_pure rfl rfl rfl (Value.int .i64 i) (fun w=>by kernel_rfl) ?_
   obtain ⟨hi5, h⟩ := h
   refine vcS_pure rfl rfl rfl (Value.int .u8 (bAt a i)) (fun w=>by exact exec_indexStr (s := a) (k := .i64) rfl (by kernel_rfl) (by kernel_rfl) (by kernel_rfl) (hi5).1 (hi5).2 w) ?_
   refine vcS_pure rfl rfl rfl (Value.string b) (fun w=>by kernel_rfl) ?_
   refine vcS_pure rfl rfl rfl (Value.int .i64 i) (fun w=>by kernel_rfl) ?_
   obtain ⟨hi6, h⟩ := h
   refine vcS_pure rfl rfl rfl (Value.int .u8 (bAt b i)) (fun w=>by exact exec_indexStr (s := b) (k := .i64) rfl (by kernel_rfl) (by kernel_rfl) (by kernel_rfl) (hi6).1 (hi6).2 w) ?_
   refine vcS_pure rfl rfl rfl (Value.bool (decide ((bAt a i) < (bAt b i)))) (fun w=>by kernel_rfl) ?_
   refine vcS_pure rfl rfl rfl (Value.bool (decide ((bAt a i) < (bAt b i)))) (fun w=>by kernel_rfl) ?_
   refine vcS_fin ?_
   refine Vc.ret ?_
   refine outOf_ret ?_
   refine outOf_ret ?_
   refine outs_ret ?_
   refine done_mk (Value.bool (decide ((bAt a i) < (bAt b i)))) (res1 (resC_tmp (by kernel_rfl))) ?_
   exact ⟨(decide ((bAt a i) < (bAt b i))), rfl, h⟩
  ·have h := h.2 (nne_of_nbeq hb)
   refine Vc.skip ?_
   refine Vc.region ?_
   refine vcL_purs 3 [(5, (Value.int .i64 (wrapI (i + 1)))), (17, (Value.int .i64 (wrapI (i + 1)))), (16, (Value.int .i64 i))] (by kernel_rfl) ?_
   refine vcL_nil ?_
   exact ⟨(wrapI (i + 1)), 48, ⟨rfl, by kernel_rfl, by kernel_rfl, by kernel_rfl⟩, h⟩
 ·have h := h.2 (hb)
  refine Vc.exit ?_
  refine outOf_hit ?_
  refine Vc.seq ?_
  refine Vc.region ?_
  refine vcL_purs 6 [(4, (Value.bool (decide ((a.size : Int) < (b.size : Int))))), (36, (Value.bool (decide ((a.size : Int) < (b.size : Int))))), (35, (Value.int .i64 (b.size : Int))), (34, (Value.string b)), (33, (Value.int .i64 (a.size : Int))), (32, (Value.string a))] (by kernel_rfl) ?_
  refine vcL_nil ?_
  refine Vc.ret ?_
  refine outs_ret ?_
  refine done_mk (Value.bool (decide ((a.size : Int) < (b.size : Int)))) (res1 (resC_tmp (by kernel_rfl))) ?_
  exact ⟨(decide ((a.size : Int) < (b.size : Int))), rfl, h⟩
theorem halyardref05_less.go {a : ByteArray} {b : ByteArray} {w : World} {k : Value → World → Prop} (h : halyardref05_less a b w fun r0 w'=>k (Value.bool r0) w') : callS Tryz.prog 59 [(Value.string a), (Value.string b)] w k := (halyardref05_less.sound a b w _ h).mono (by rintro _ _ ⟨r0, rfl, h⟩; exact h)
def pack_May (zz4 : ByteArray) (zz7 : Int) (zz8 : Int) (zz9 : Int) (zz3 : Sl) (zz6 : Sl) (zz5 : Sl) (w : World) (R : Bool → World → Prop) : Prop :=
 newS w [(Value.string zz4), (Value.int .i64 zz7), (Value.int .i64 zz8), (Value.int .i64 zz9), (Sl.v zz3), (Sl.v zz6), (Sl.v zz5)] 48 fun a vw=>∃ (t4 : ByteArray), (ldc vw a [(Value.string t4)]) ∧ callS Tryz.prog 104 [(Value.string t4)] vw fun v vw1=>∃ (t5 : Bool), v = (Value.bool t5) ∧ ∃ (zz10 : Int) (zz11 : Int) (zz12 : Int), grd t5 (ldc vw1 (a.add 1) [(Value.int .i64 zz10), (Value.int .i64 zz11), (Value.int .i64 zz12)]) ∧ gCall t5 (fun (t9 : Bool) (vw3 : World)=>bnd (t5 && t9) fun (b : Bool)=>∃ (t13 : Sl), grd b (ldc vw3 (a.add 4) [(Sl.v t13)]) ∧ gCall b (fun (t14 : Bool) (vw7 : World)=>bnd (b && t14) fun (b12 : Bool)=>∃ (t18 : Sl), grd b12 (ldc vw7 (a.add 5) [(Sl.v t18)]) ∧ gCall b12 (fun (t19 : Bool) (vw14 : World)=>bnd (b12 && t19) fun (b19 : Bool)=>∃ (t23 : Sl), grd b19 (ldc vw14 (a.add 6) [(Sl.v t23)]) ∧ gCall b19 (fun (t24 : Bool) (vw21 : World)=>bnd (b19 && t24) fun (b26 : Bool)=>∃ (t28 : Sl), grd b26 (ldc vw21 (a.add 4) [(Sl.v t28)]) ∧ ∃ (t30 : Sl), grd b26 (ldc vw21 (a.add 5) [(Sl.v t30)]) ∧ ∃ (t32 : Sl), grd b26 (ldc vw21 (a.add 6) [(Sl.v t32)]) ∧ gCall b26 (fun (a30 : Addr) (vw31 : World)=>gCall b26 (fun (t34 : Bool) (vw34 : World)=>bnd (b26 && t34) fun (b39 : Bool)=>∃ (zz3d : ByteArray) (zz3g : Int) (zz3h : Int) (zz3i : Int) (zz3c : Sl) (zz3f : Sl) (zz3e : Sl), grd b39 (ldc vw34 a [(Value.string zz3d), (Value.int .i64 zz3g), (Value.int .i64 zz3h), (Value.int .i64 zz3i), (Sl.v zz3c), (Sl.v zz3f), (Sl.v zz3e)]) ∧ gCall b39 (fun (t38 : ByteArray) (vw41 : World)=>R (b39 && (decide ((t38.size : Int) ≤ 4096))) vw41) (fun q=>callS Tryz.prog 107 [(Value.agg #[(Value.string zz3d), (Value.int .i64 zz3g), (Value.int .i64 zz3h), (Value.int .i64 zz3i), (Sl.v zz3c), (Sl.v zz3f), (Sl.v zz3e)])] vw34 fun v42 vw41=>∃ (t38 : ByteArray), v42 = (Value.string t38) ∧ q t38 vw41) (fun q=>q (ByteArray.mk #[]) vw34)) (fun q=>callS Tryz.prog 106 [(Sl.v (Sl.mk (some a30) 3 3))] vw31 fun v35 vw34=>∃ (t34 : Bool), v35 = (Value.bool t34) ∧ q t34 vw34) (fun q=>q false vw31)) (fun q=>newS vw21 [(Sl.v t28), (Sl.v t30), (Sl.v t32)] 23 q) (fun q=>q ⟨0, 0, none⟩ vw21)) (fun q=>callS Tryz.prog 105 [(Sl.v t23)] vw14 fun v22 vw21=>∃ (t24 : Bool), v22 = (Value.bool t24) ∧ q t24 vw21) (fun q=>q false vw14)) (fun q=>callS Tryz.prog 105 [(Sl.v t18)] vw7 fun v15 vw14=>∃ (t19 : Bool), v15 = (Value.bool t19) ∧ q t19 vw14) (fun q=>q false vw7)) (fun q=>callS Tryz.prog 105 [(Sl.v t13)] vw3 fun v8 vw7=>∃ (t14 : Bool), v8 = (Value.bool t14) ∧ q t14 vw7) (fun q=>q false vw3)) (fun q=>callS Tryz.prog 97 [(Value.agg #[(Value.int .i64 zz10), (Value.int .i64 zz11), (Value.int .i64 zz12)])] vw1 fun v4 vw3=>∃ (t9 : Bool), v4 = (Value.bool t9) ∧ q t9 vw3) (fun q=>q false vw1)
set_option maxHeartbeats 8000000 in
theorem pack_May.sound (zz4 : ByteArray) (zz7 : Int) (zz8 : Int) (zz9 : Int) (zz3 : Sl) (zz6 : Sl) (zz5 : Sl) (w : World) (R : Bool → World → Prop) (h : pack_May zz4 zz7 zz8 zz9 zz3 zz6 zz5 w R) : callS Tryz.prog 61 [(Value.agg #[(Value.string zz4), (Value.int .i64 zz7), (Value.int .i64 zz8), (Value.int .i64 zz9), (Sl.v zz3), (Sl.v zz6), (Sl.v zz5)])] w (fun v w'=>∃ (r0 : Bool), v = (Value.bool r0) ∧ R r0 w') := by
 unfold pack_May at h
 refine calls_of_vc 42 rfl Tryz.func61 rfl (by kernel_rfl) (by simp) ?_
 refine Vc.seq ?_
 refine Vc.region ?_
 refine vcL_eff rfl (opVC_new rfl (fun a=>Value.pointer (some a)) (by kernel_rfl) (newS.mono h fun a vw hx h=>?_))
 refine vcL_pure rfl rfl (Value.bool false) (fun w=>by kernel_rfl) ?_
 refine vcL_nil ?_
 refine Vc.seq ?_
 refine Vc.region ?_
 refine vcL_pure rfl rfl (Value.pointer (some a)) (fun w=>by kernel_rfl) ?_
 obtain ⟨t4, hc, h⟩ := h
 refine vcL_val rfl rfl (Value.string t4) (exec_load rfl (by kernel_rfl) (run_load1 (fun w=>by kernel_rfl) ((hc)))) ?_
 refine vcL_eff rfl (opVC_call rfl (by kernel_rfl) (callS.mono h fun v vw1 h=>?_))
 obtain ⟨t5, rfl, h⟩ := h
 refine vcL_pure rfl rfl (Value.bool t5) (fun w=>by kernel_rfl) ?_
 refine vcL_guardP t5 (wanted_g (d := 6) rfl (by kernel_rfl) t5 (by kernel_rfl) t5 (eqT t5)) rfl (Value.pointer (some (a.add 1))) (fun hg w=>by subst hg; kernel_rfl) ?_
 obtain ⟨zz10, zz11, zz12, hc2, h⟩ := h
 refine vcL_guard t5 (wanted_g (d := 6) rfl (by kernel_rfl) t5 (by kernel_rfl) t5 (eqT t5)) rfl (Value.agg #[(Value.int .i64 zz10), (Value.int .i64 zz11), (Value.int .i64 zz12)]) (fun hg=>by subst hg; exact exec_load rfl (by kernel_rfl) (run_loadN (fun w=>by kernel_rfl) (fun w=>by kernel_rfl) ((hc2 rfl)))) ?_
 obtain ⟨vJ, hJ, h⟩ := gCall_elim h
 refine vcL_effJ (σ := Bool) t5 (wanted_g (d := 6) rfl (by kernel_rfl) t5 (by kernel_rfl) t5 (eqT t5)) rfl (fun s w=>vJ s w) (fun s=>(Value.bool s)) ?_ (fun hg=>opVC_call rfl (by subst hg; kernel_rfl) (callS.mono (h.1 hg) fun v4 vw3 hq=>?_)) (fun hg=>⟨false, h.2 hg⟩)
 ·intro t9 vw3 h
  subst hJ
  refine vcL_pure rfl rfl (Value.bool (t5 && t9)) (fun w=>by cases t5 <;> kernel_rfl) ?_
  obtain ⟨b, hb⟩ : ∃ y, y = (t5 && t9) := ⟨_, rfl⟩
  have h := h b hb
  refine vcL_pure rfl rfl (Value.bool b) (fun w=>by rw [hb]; kernel_rfl) ?_
  refine vcL_guardP b (wanted_g (d := 11) rfl (by kernel_rfl) b (by kernel_rfl) b (eqT b)) rfl (Value.pointer (some (a.add 4))) (fun hg w=>by subst hg; kernel_rfl) ?_
  obtain ⟨t13, hc6, h⟩ := h
  refine vcL_guard b (wanted_g (d := 11) rfl (by kernel_rfl) b (by kernel_rfl) b (eqT b)) rfl (Sl.v t13) (fun hg=>by subst hg; exact exec_load rfl (by kernel_rfl) (run_load1 (fun w=>by kernel_rfl) ((hc6 rfl)))) ?_
  obtain ⟨vJ10, hJ11, h⟩ := gCall_elim h
  refine vcL_effJ (σ := Bool) b (wanted_g (d := 11) rfl (by kernel_rfl) b (by kernel_rfl) b (eqT b)) rfl (fun s w=>vJ10 s w) (fun s=>(Value.bool s)) ?_ (fun hg=>opVC_call rfl (by subst hg; kernel_rfl) (callS.mono (h.1 hg) fun v8 vw7 hq=>?_)) (fun hg=>⟨false, h.2 hg⟩)
  ·intro t14 vw7 h
   subst hJ11
   refine vcL_pure rfl rfl (Value.bool (b && t14)) (fun w=>by cases b <;> kernel_rfl) ?_
   obtain ⟨b12, hb12⟩ : ∃ y, y = (b && t14) := ⟨_, rfl⟩
   have h := h b12 hb12
   refine vcL_pure rfl rfl (Value.bool b12) (fun w=>by rw [hb12]; kernel_rfl) ?_
   refine vcL_guardP b12 (wanted_g (d := 16) rfl (by kernel_rfl) b12 (by kernel_rfl) b12 (eqT b12)) rfl (Value.pointer (some (a.add 5))) (fun hg w=>by subst hg; kernel_rfl) ?_
   obtain ⟨t18, hc13, h⟩ := h
   refine vcL_guard b12 (wanted_g (d := 16) rfl (by kernel_rfl) b12 (by kernel_rfl) b12 (eqT b12)) rfl (Sl.v t18) (fun hg=>by subst hg; exact exec_load rfl (by kernel_rfl) (run_load1 (fun w=>by kernel_rfl) ((hc13 rfl)))) ?_
   obtain ⟨vJ17, hJ18, h⟩ := gCall_elim h
   refine vcL_effJ (σ := Bool) b12 (wanted_g (d := 16) rfl (by kernel_rfl) b12 (by kernel_rfl) b12 (eqT b12)) rfl (fun s w=>vJ17 s w) (fun s=>(Value.bool s)) ?_ (fun hg=>opVC_call rfl (by subst hg; kernel_rfl) (callS.mono (h.1 hg) fun v15 vw14 hq=>?_)) (fun hg=>⟨false, h.2 hg⟩)
   ·intro t19 vw14 h
    subst hJ18
    refine vcL_pure rfl rfl (Value.bool (b12 && t19)) (fun w=>by cases b12 <;> kernel_rfl) ?_
    obtain ⟨b19, hb19⟩ : ∃ y, y = (b12 && t19) := ⟨_, rfl⟩
    have h := h b19 hb19
    refine vcL_pure rfl rfl (Value.bool b19) (fun w=>by rw [hb19]; kernel_rfl) ?_
    refine vcL_guardP b19 (wanted_g (d := 21) rfl (by kernel_rfl) b19 (by kernel_rfl) b19 (eqT b19)) rfl (Value.pointer (some (a.add 6))) (fun hg w=>by subst hg; kernel_rfl) ?_
    obtain ⟨t23, hc20, h⟩ := h
    refine vcL_guard b19 (wanted_g (d := 21) rfl (by kernel_rfl) b19 (by kernel_rfl) b19 (eqT b19)) rfl (Sl.v t23) (fun hg=>by subst hg; exact exec_load rfl (by kernel_rfl) (run_load1 (fun w=>by kernel_rfl) ((hc20 rfl)))) ?_
    obtain ⟨vJ24, hJ25, h⟩ := gCall_elim h
    refine vcL_effJ (σ := Bool) b19 (wanted_g (d := 21) rfl (by kernel_rfl) b19 (by kernel_rfl) b19 (eqT b19)) rfl (fun s w=>vJ24 s w) (fun s=>(Value.bool s)) ?_ (fun hg=>opVC_call rfl (by subst hg; kernel_rfl) (callS.mono (h.1 hg) fun v22 vw21 hq=>?_)) (fun hg=>⟨false, h.2 hg⟩)
    ·intro t24 vw21 h
     subst hJ25
     refine vcL_pure rfl rfl (Value.bool (b19 && t24)) (fun w=>by cases b19 <;> kernel_rfl) ?_
     obtain ⟨b26, hb26⟩ : ∃ y, y = (b19 && t24) := ⟨_, rfl⟩
     have h := h b26 hb26
     refine vcL_pure rfl rfl (Value.bool b26) (fun w=>by rw [hb26]; kernel_rfl) ?_
     refine vcL_guardP b26 (wanted_g (d := 26) rfl (by kernel_rfl) b26 (by kernel_rfl) b26 (eqT b26)) rfl (Value.pointer (some (a.add 4))) (fun hg w=>by subst hg; kernel_rfl) ?_
     obtain ⟨t28, hc27, h⟩ := h
     refine vcL_guard b26 (wanted_g (d := 26) rfl (by kernel_rfl) b26 (by kernel_rfl) b26 (eqT b26)) rfl (Sl.v t28) (fun hg=>by subst hg; exact exec_load rfl (by kernel_rfl) (run_load1 (fun w=>by kernel_rfl) ((hc27 rfl)))) ?_
     refine vcL_guardP b26 (wanted_g (d := 26) rfl (by kernel_rfl) b26 (by kernel_rfl) b26 (eqT b26)) rfl (Value.pointer (some (a.add 5))) (fun hg w=>by subst hg; kernel_rfl) ?_
     obtain ⟨t30, hc28, h⟩ := h
     refine vcL_guard b26 (wanted_g (d := 26) rfl (by kernel_rfl) b26 (by kernel_rfl) b26 (eqT b26)) rfl (Sl.v t30) (fun hg=>by subst hg; exact exec_load rfl (by kernel_rfl) (run_load1 (fun w=>by kernel_rfl) ((hc28 rfl)))) ?_
     refine vcL_guardP b26 (wanted_g (d := 26) rfl (by kernel_rfl) b26 (by kernel_rfl) b26 (eqT b26)) rfl (Value.pointer (some (a.add 6))) (fun hg w=>by subst hg; kernel_rfl) ?_
     obtain ⟨t32, hc29, h⟩ := h
     refine vcL_guard b26 (wanted_g (d := 26) rfl (by kernel_rfl) b26 (by kernel_rfl) b26 (eqT b26)) rfl (Sl.v t32) (fun hg=>by subst hg; exact exec_load rfl (by kernel_rfl) (run_load1 (fun w=>by kernel_rfl) ((hc29 rfl)))) ?_
     obtain ⟨vJ32, hJ33, h⟩ := gCall_elim h
     refine vcL_effJ (σ := Addr) b26 (wanted_g (d := 26) rfl (by kernel_rfl) b26 (by kernel_rfl) b26 (eqT b26)) rfl (fun s w=>vJ32 s w) (fun a=>Value.slice (some a) 3 3) ?_ (fun hg=>opVC_new rfl (fun a=>Value.slice (some a) 3 3) (by subst hg; kernel_rfl) (newS.mono (h.1 hg) fun a w' hx hq=>?_)) (fun hg=>⟨⟨0, 0, none⟩, h.2 hg⟩)
     ·intro a30 vw31 h
      subst hJ33
      obtain ⟨vJ37, hJ38, h⟩ := gCall_elim h
      refine vcL_effJ (σ := Bool) b26 (wanted_g (d := 26) rfl (by kernel_rfl) b26 (by kernel_rfl) b26 (eqT b26)) rfl (fun s w=>vJ37 s w) (fun s=>(Value.bool s)) ?_ (fun hg=>opVC_call rfl (by subst hg; kernel_rfl) (callS.mono (h.1 hg) fun v35 vw34 hq=>?_)) (fun hg=>⟨false, h.2 hg⟩)
      ·intro t34 vw34 h
       subst hJ38
       refine vcL_pure rfl rfl (Value.bool (b26 && t34)) (fun w=>by cases b26 <;> kernel_rfl) ?_
       obtain ⟨b39, hb39⟩ : ∃ y, y = (b26 && t34) := ⟨_, rfl⟩
       have h := h b39 hb39
       refine vcL_pure rfl rfl (Value.bool b39) (fun w=>by rw [hb39]; kernel_rfl) ?_
       obtain ⟨zz3d, zz3g, zz3h, zz3i, zz3c, zz3f, zz3e, hc40, h⟩ := h
       refine vcL_guard b39 (wanted_g (d := 36) rfl (by kernel_rfl) b39 (by kernel_rfl) b39 (eqT b39)) rfl (Value.agg #[(Value.string zz3d), (Value.int .i64 zz3g), (Value.int .i64 zz3h), (Value.int .i64 zz3i), (Sl.v zz3c), (Sl.v zz3f), (Sl.v zz3e)]) (fun hg=>by subst hg; exact exec_load rfl (by kernel_rfl) (run_loadN (fun w=>by kernel_rfl) (fun w=>by kernel_rfl) ((hc40 rfl)))) ?_
       obtain ⟨vJ44, hJ45, h⟩ := gCall_elim h
       refine vcL_effJ (σ := ByteArray) b39 (wanted_g (d := 36) rfl (by kernel_rfl) b39 (by kernel_rfl) b39 (eqT b39)) rfl (fun s w=>vJ44 s w) (fun s=>(Value.string s)) ?_ (fun hg=>opVC_call rfl (by subst hg; kernel_rfl) (callS.mono (h.1 hg) fun v42 vw41 hq=>?_)) (fun hg=>⟨(ByteArray.mk #[]), h.2 hg⟩)
       ·intro t38 vw41 h
        subst hJ45
        refine vcL_guardP b39 (wanted_g (d := 36) rfl (by kernel_rfl) b39 (by kernel_rfl) b39 (eqT b39)) rfl (Value.int .i64 (t38.size : Int)) (fun hg w=>by subst hg; kernel_rfl) ?_
        refine vcL_guardP b39 (wanted_g (d := 36) rfl (by kernel_rfl) b39 (by kernel_rfl) b39 (eqT b39)) rfl (Value.bool (decide ((t38.size : Int) ≤ 4096))) (fun hg w=>by subst hg; kernel_rfl) ?_
        refine vcL_pure rfl rfl (Value.bool (b39 && (decide ((t38.size : Int) ≤ 4096)))) (fun w=>by cases b39 <;> kernel_rfl) ?_
        refine vcL_pure rfl rfl (Value.bool (b39 && (decide ((t38.size : Int) ≤ 4096)))) (fun w=>by kernel_rfl) ?_
        refine vcL_nil ?_
        refine Vc.ret ?_
        refine outs_ret ?_
        refine done_mk (Value.bool (b39 && (decide ((t38.size : Int) ≤ 4096)))) (res1 (resC_tmp (by kernel_rfl))) ?_
        exact ⟨(b39 && (decide ((t38.size : Int) ≤ 4096))), rfl, h⟩
       ·obtain ⟨t38, rfl, hq⟩ := hq
        exact ⟨t38, rfl, hq⟩
      ·obtain ⟨t34, rfl, hq⟩ := hq
       exact ⟨t34, rfl, hq⟩
     ·exact ⟨a, rfl, hq⟩
    ·obtain ⟨t24, rfl, hq⟩ := hq
     exact ⟨t24, rfl, hq⟩
   ·obtain ⟨t19, rfl, hq⟩ := hq
    exact ⟨t19, rfl, hq⟩
  ·obtain ⟨t14, rfl, hq⟩ := hq
   exact ⟨t14, rfl, hq⟩
 ·obtain ⟨t9, rfl, hq⟩ := hq
  exact ⟨t9, rfl, hq⟩
theorem pack_May.go {zz4 : ByteArray} {zz7 : Int} {zz8 : Int} {zz9 : Int} {zz3 : Sl} {zz6 : Sl} {zz5 : Sl} {w : World} {k : Value → World → Prop} (h : pack_May zz4 zz7 zz8 zz9 zz3 zz6 zz5 w fun r0 w'=>k (Value.bool r0) w') : callS Tryz.prog 61 [(Value.agg #[(Value.string zz4), (Value.int .i64 zz7), (Value.int .i64 zz8), (Value.int .i64 zz9), (Sl.v zz3), (Sl.v zz6), (Sl.v zz5)])] w k := (pack_May.sound zz4 zz7 zz8 zz9 zz3 zz6 zz5 w _ h).mono (by rintro _ _ ⟨r0, rfl, h⟩; exact h)
def catalog_copied (zz4 : ByteArray) (zz7 : Int) (zz8 : Int) (zz9 : Int) (zz3 : Sl) (zz6 : Sl) (zz5 : Sl) (w : World) (R : ByteArray → Int → Int → Int → Sl → Sl → Sl → World → Prop) : Prop :=
 newS w [(Value.string zz4), (Value.int .i64 zz7), (Value.int .i64 zz8), (Value.int .i64 zz9), (Sl.v zz3), (Sl.v zz6), (Sl.v zz5)] 48 fun a vw=>newS vw [(Value.string (ByteArray.mk #[])), (Value.int .i64 0), (Value.int .i64 0), (Value.int .i64 0), (Sl.v Sl.nil), (Sl.v Sl.nil), (Sl.v Sl.nil)] 48 fun a1 vw2=>bnd vw2.drew fun (vw3 : World)=>∃ (t4 : Sl), (ldc vw3 (a.add 4) [(Sl.v t4)]) ∧ ∃ (t7 : Sl), (ldc vw3 (a.add 5) [(Sl.v t7)]) ∧ ∃ (t10 : Sl), (ldc vw3 (a.add 6) [(Sl.v t10)]) ∧ callX Tryz.prog 108 [(Sl.v t4)] vw3 fun v vw6=>∃ (t5 : Sl), v = (Sl.v t5) ∧ callX Tryz.prog 108 [(Sl.v t7)] vw6 fun v8 vw7=>∃ (t8 : Sl), v8 = (Sl.v t8) ∧ callS Tryz.prog 108 [(Sl.v t10)] vw7 fun v11 vw10=>∃ (t11 : Sl), v11 = (Sl.v t11) ∧ stw vw10 (a.add 4) [(Sl.v t5)] fun vw13=>stw vw13 (a.add 5) [(Sl.v t8)] fun vw14=>stw vw14 (a.add 6) [(Sl.v t11)] fun vw15=>∃ (zzo : ByteArray) (zzp : Int) (zzq : Int) (zzr : Int) (zz1x : Sl) (zz1z : Sl) (zz1y : Sl), (ldc vw15 a [(Value.string zzo), (Value.int .i64 zzp), (Value.int .i64 zzq), (Value.int .i64 zzr), (Sl.v zz1x), (Sl.v zz1z), (Sl.v zz1y)]) ∧ stw vw15 a1 [(Value.string zzo), (Value.int .i64 zzp), (Value.int .i64 zzq), (Value.int .i64 zzr), (Sl.v zz1x), (Sl.v zz1z), (Sl.v zz1y)] fun vw17=>∃ (zz2f : ByteArray) (zz2j : Int) (zz2k : Int) (zz2l : Int) (zz2c : Sl) (zz2i : Sl) (zz2g : Sl), ldc vw17 a1 [(Value.string zz2f), (Value.int .i64 zz2j), (Value.int .i64 zz2k), (Value.int .i64 zz2l), (Sl.v zz2c), (Sl.v zz2i), (Sl.v zz2g)] ∧ R zz2f zz2j zz2k zz2l zz2c zz2i zz2g vw17
set_option maxHeartbeats 8000000 in
theorem catalog_copied.sound (zz4 : ByteArray) (zz7 : Int) (zz8 : Int) (zz9 : Int) (zz3 : Sl) (zz6 : Sl) (zz5 : Sl) (w : World) (R : ByteArray → Int → Int → Int → Sl → Sl → Sl → World → Prop) (h : catalog_copied zz4 zz7 zz8 zz9 zz3 zz6 zz5 w R) : callS Tryz.prog 62 [(Value.agg #[(Value.string zz4), (Value.int .i64 zz7), (Value.int .i64 zz8), (Value.int .i64 zz9), (Sl.v zz3), (Sl.v zz6), (Sl.v zz5)])] w (fun v w'=>∃ (r0 : ByteArray) (r1 : Int) (r2 : Int) (r3 : Int) (r4 : Sl) (r5 : Sl) (r6 : Sl), v = (Value.agg #[(Value.string r0), (Value.int .i64 r1), (Value.int .i64 r2), (Value.int .i64 r3), (Sl.v r4), (Sl.v r5), (Sl.v r6)]) ∧ R r0 r1 r2 r3 r4 r5 r6 w') := by
 unfold catalog_copied at h
 refine calls_of_vc 16 rfl Tryz.func62 rfl (by kernel_rfl) (by simp) ?_
 refine Vc.seq ?_
 refine Vc.region ?_
 refine vcL_eff rfl (opVC_new rfl (fun a=>Value.pointer (some a)) (by kernel_rfl) (newS.mono h fun a vw hx h=>?_))
 refine vcL_eff rfl (opVC_new rfl (fun a=>Value.pointer (some a)) (by kernel_rfl) (newS.mono h fun a1 vw2 hx h=>?_))
 refine vcL_nil ?_
 refine Vc.seq ?_
 obtain ⟨vw3, hvw3⟩ : ∃ y, y = vw2.drew := ⟨_, rfl⟩
 have h := h vw3 hvw3
 refine Vc.draw (by kernel_rfl) (fun i=>!(memN [8, 10, 12, 14] i)) (.pur 0 (.val 1 (.pur 3 (.val 4 (.pur 6 (.val 7 (.eff 2 (.pur 9 (.eff 5 (.eff 8 (.eff 10 (.pur 11 (.eff 12 (.pur 13 (.eff 14 .fin .stop)) .stop)) .stop) .stop) .stop)) .stop))))))) (by kernel_rfl) ?_
 rw [← hvw3]
 clear hvw3
 refine vcS_pure rfl rfl rfl (Value.pointer (some (a.add 4))) (fun w=>by kernel_rfl) ?_
 obtain ⟨t4, hc, h⟩ := h
 refine vcS_val rfl rfl rfl (Sl.v t4) (fun w' hx=>exec_load rfl (by kernel_rfl) (run_load1 (fun w=>by kernel_rfl) ((hc).ext hx))) ?_
 refine vcS_pure rfl rfl rfl (Value.pointer (some (a.add 5))) (fun w=>by kernel_rfl) ?_
 obtain ⟨t7, hc4, h⟩ := h
 refine vcS_val rfl rfl rfl (Sl.v t7) (fun w' hx=>exec_load rfl (by kernel_rfl) (run_load1 (fun w=>by kernel_rfl) ((hc4).ext hx))) ?_
 refine vcS_pure rfl rfl rfl (Value.pointer (some (a.add 6))) (fun w=>by kernel_rfl) ?_
 obtain ⟨t10, hc5, h⟩ := h
 refine vcS_val rfl rfl rfl (Sl.v t10) (fun w' hx=>exec_load rfl (by kernel_rfl) (run_load1 (fun w=>by kernel_rfl) ((hc5).ext hx))) ?_
 refine vcS_eff rfl rfl (opVC_call rfl (by kernel_rfl) (callS.mono h fun v vw6 h=>?_)) vcS_stop
 obtain ⟨hx, h⟩ := h
 obtain ⟨t5, rfl, h⟩ := h
 refine ⟨fun _ => hx, ?_⟩
 refine vcS_pure rfl rfl rfl (Value.pointer (some (a.add 4))) (fun w=>by kernel_rfl) ?_
 refine vcS_eff rfl rfl (opVC_call rfl (by kernel_rfl) (callS.mono h fun v8 vw7 h=>?_)) vcS_stop
 obtain ⟨hx9, h⟩ := h
 obtain ⟨t8, rfl, h⟩ := h
 refine ⟨fun _ => hx9, ?_⟩
 refine vcS_eff rfl rfl (opVC_call rfl (by kernel_rfl) (callS.mono h fun v11 vw10 h=>?_)) vcS_stop
 obtain ⟨t11, rfl, h⟩ := h
 refine ⟨fun hb=>absurd hb (by decide), ?_⟩
 refine vcS_eff rfl rfl (opVC_store rfl rfl (a := (a.add 4)) (by kernel_rfl) (v := (Sl.v t5)) (by kernel_rfl) [(Sl.v t5)] (by kernel_rfl) (fun w=>by kernel_rfl) (by kernel_rfl) (stw.mono h fun vw13 h=>?_)) vcS_stop
 refine ⟨fun hb=>absurd hb (by decide), ?_⟩
 refine vcS_pure rfl rfl rfl (Value.pointer (some (a.add 5))) (fun w=>by kernel_rfl) ?_
 refine vcS_eff rfl rfl (opVC_store rfl rfl (a := (a.add 5)) (by kernel_rfl) (v := (Sl.v t8)) (by kernel_rfl) [(Sl.v t8)] (by kernel_rfl) (fun w=>by kernel_rfl) (by kernel_rfl) (stw.mono h fun vw14 h=>?_)) vcS_stop
 refine ⟨fun hb=>absurd hb (by decide), ?_⟩
 refine vcS_pure rfl rfl rfl (Value.pointer (some (a.add 6))) (fun w=>by kernel_rfl) ?_
 refine vcS_eff rfl rfl (opVC_store rfl rfl (a := (a.add 6)) (by kernel_rfl) (v := (Sl.v t11)) (by kernel_rfl) [(Sl.v t11)] (by kernel_rfl) (fun w=>by kernel_rfl) (by kernel_rfl) (stw.mono h fun vw15 h=>?_)) vcS_stop
 refine ⟨fun hb=>absurd hb (by decide), ?_⟩
 refine vcS_fin ?_
 refine Vc.seq ?_
 refine Vc.region ?_
 obtain ⟨zzo, zzp, zzq, zzr, zz1x, zz1z, zz1y, hc16, h⟩ := h
 refine vcL_val rfl rfl (Value.agg #[(Value.string zzo), (Value.int .i64 zzp), (Value.int .i64 zzq), (Value.int .i64 zzr), (Sl.v zz1x), (Sl.v zz1z), (Sl.v zz1y)]) (exec_load rfl (by kernel_rfl) (run_loadN (fun w=>by kernel_rfl) (fun w=>by kernel_rfl) ((hc16)))) ?_
 refine vcL_eff rfl (opVC_store rfl rfl (a := a1) (by kernel_rfl) (v := (Value.agg #[(Value.string zzo), (Value.int .i64 zzp), (Value.int .i64 zzq), (Value.int .i64 zzr), (Sl.v zz1x), (Sl.v zz1z), (Sl.v zz1y)])) (by kernel_rfl) [(Value.string zzo), (Value.int .i64 zzp), (Value.int .i64 zzq), (Value.int .i64 zzr), (Sl.v zz1x), (Sl.v zz1z), (Sl.v zz1y)] (by kernel_rfl) (fun w=>by kernel_rfl) (by kernel_rfl) (stw.mono h fun vw17 h=>?_))
 refine vcL_nil ?_
 refine Vc.ret ?_
 refine outs_ret ?_
 obtain ⟨zz2f, zz2j, zz2k, zz2l, zz2c, zz2i, zz2g, hc18, h⟩ := h
 refine done_mk (Value.agg #[(Value.string zz2f), (Value.int .i64 zz2j), (Value.int .i64 zz2k), (Value.int .i64 zz2l), (Sl.v zz2c), (Sl.v zz2i), (Sl.v zz2g)]) (res1 (resC_cell (by kernel_rfl) (run_loadN (fun w=>by kernel_rfl) (fun w=>by kernel_rfl) hc18))) ?_
 exact ⟨zz2f, zz2j, zz2k, zz2l, zz2c, zz2i, zz2g, rfl, h⟩
theorem catalog_copied.go {zz4 : ByteArray} {zz7 : Int} {zz8 : Int} {zz9 : Int} {zz3 : Sl} {zz6 : Sl} {zz5 : Sl} {w : World} {k : Value → World → Prop} (h : catalog_copied zz4 zz7 zz8 zz9 zz3 zz6 zz5 w fun r0 r1 r2 r3 r4 r5 r6 w'=>k (Value.agg #[(Value.string r0), (Value.int .i64 r1), (Value.int .i64 r2), (Value.int .i64 r3), (Sl.v r4), (Sl.v r5), (Sl.v r6)]) w') : callS Tryz.prog 62 [(Value.agg #[(Value.string zz4), (Value.int .i64 zz7), (Value.int .i64 zz8), (Value.int .i64 zz9), (Sl.v zz3), (Sl.v zz6), (Sl.v zz5)])] w k := (catalog_copied.sound zz4 zz7 zz8 zz9 zz3 zz6 zz5 w _ h).mono (by rintro _ _ ⟨r0, r1, r2, r3, r4, r5, r6, rfl, h⟩; exact h)
def cmp_Or_int (vals : Sl) (w : World) (R : Int → World → Prop) : Prop :=
 loop1 0 w fun t8 vw nxt=>((t8 < (vals.len : Int) → ∃ (ad : Addr), (vals.a = some ad ∧ (0 : Int) ≤ t8 ∧ t8 < (vals.len : Int)) ∧ ∃ (t11 : Int), (ldc vw (ad.add (t8.toNat * 1)) [(Value.int .i64 t11)]) ∧ ((¬ t11 = 0 → R t11 vw) ∧ (¬ (¬ t11 = 0) → nxt (wrapI (t8 + 1)) vw))) ∧ (¬ (t8 < (vals.len : Int)) → R 0 vw))
set_option maxHeartbeats 8000000 in
theorem cmp_Or_int.sound (vals : Sl) (w : World) (R : Int → World → Prop) (h : cmp_Or_int vals w R) : callS Tryz.prog 76 [(Sl.v vals)] w (fun v w'=>∃ (r0 : Int), v = (Value.int .i64 r0) ∧ R r0 w') := by
 unfold cmp_Or_int at h
 refine calls_of_vc 18 rfl Tryz.func76 rfl (by kernel_rfl) (by simp) ?_
 refine Vc.seq ?_
 refine Vc.region ?_
 refine vcL_pure rfl rfl (Value.int .i64 0) (fun w=>by kernel_rfl) ?_
 refine vcL_nil ?_
 refine Vc.seq ?_
 refine Vc.region ?_
 refine vcL_pure rfl rfl (Value.int .i64 0) (fun w=>by kernel_rfl) ?_
 refine vcL_nil ?_
 refine Vc.seq ?_
 refine Vc.seq ?_
 refine Vc.region ?_
 refine vcL_purs 3 [(8, (Value.int .i64 0)), (7, (Value.int .i64 (vals.len : Int))), (6, (Sl.v vals))] (by kernel_rfl) ?_
 refine vcL_nil ?_
 refine Vc.block ?_
 obtain ⟨vI, mu, h, hr⟩ := h
 refine Vc.loopJ (σ := Int) [8] [2, 5, 9, 10, 11, 12, 13, 14, 15, 16] (fun s=>[(8, (Value.int .i64 s))]) (fun s w=>vI s w) (fun s w=>mu s w) 0 h (fun _ => rfl) (by kernel_rfl) ?_
 intro t8 vw j h
 have h := hr t8 vw h
 refine Vc.seq ?_
 refine Vc.region ?_
 refine vcL_pure rfl rfl (Value.bool (decide (t8 < (vals.len : Int)))) (fun w=>by kernel_rfl) ?_
 refine vcL_nil ?_
 refine Vc.seq ?_
 refine Vc.cond (decide (t8 < (vals.len : Int))) (by kernel_rfl) (fun hb=>?_) (fun hb=>?_)
 ·have h := h.1 (of_decide_eq_true hb)
  refine Vc.skip ?_
  refine Vc.seq ?_
  refine Vc.block ?_
  refine Vc.seq ?_
  refine Vc.region ?_
  obtain ⟨ad, hi, h⟩ := h
  refine vcL_pure rfl rfl (Value.pointer (some (ad.add (t8.toNat * 1)))) (fun w=>by exact exec_indexAt (s := vals) (el := 3) rfl (by kernel_rfl) (by kernel_rfl) (by kernel_rfl) (fun w=>by kernel_rfl) (hi).1 (hi).2.1 (hi).2.2 w) ?_
  obtain ⟨t11, hc, h⟩ := h
  refine vcL_val rfl rfl (Value.int .i64 t11) (exec_load rfl (by kernel_rfl) (run_load1 (fun w=>by kernel_rfl) ((hc)))) ?_
  refine vcL_pure rfl rfl (Value.int .i64 t11) (fun w=>by kernel_rfl) ?_
  refine vcL_nil ?_
  refine Vc.seq ?_
  refine Vc.region ?_
  refine vcL_purs 3 [(14, (Value.bool (!(t11 == 0)))), (13, (Value.int .i64 0)), (12, (Value.int .i64 t11))] (by kernel_rfl) ?_
  refine vcL_nil ?_
  refine Vc.cond (!(t11 == 0)) (by kernel_rfl) (fun hb=>?_) (fun hb=>?_)
  ·have h := h.1 (ne_of_nbeq hb)
   refine Vc.seq ?_
   refine Vc.region ?_
   refine vcL_purs 2 [(2, (Value.int .i64 t11)), (15, (Value.int .i64 t11))] (by kernel_rfl) ?_
   refine vcL_nil ?_
   refine Vc.ret ?_
   refine outOf_ret ?_
   refine outOf_ret ?_
   refine outs_ret ?_
   refine done_mk (Value.int .i64 t11) (res1 (resC_tmp (by kernel_rfl))) ?_
   exact ⟨t11, rfl, h⟩
  ·have h := h.2 (nne_of_nbeq hb)
   refine Vc.skip ?_
   refine Vc.region ?_
   refine vcL_purs 2 [(8, (Value.int .i64 (wrapI (t8 + 1)))), (16, (Value.int .i64 (wrapI (t8 + 1))))] (by kernel_rfl) ?_
   refine vcL_nil ?_
   exact ⟨(wrapI (t8 + 1)), 20, ⟨rfl, by kernel_rfl, by kernel_rfl, by kernel_rfl⟩, h⟩
 ·have h := h.2 (of_decide_eq_false hb)
  refine Vc.exit ?_
  refine outOf_hit ?_
  refine Vc.seq ?_
  refine Vc.region ?_
  refine vcL_purs 2 [(2, (Value.int .i64 0)), (17, (Value.int .i64 0))] (by kernel_rfl) ?_
  refine vcL_nil ?_
  refine Vc.ret ?_
  refine outs_ret ?_
  refine done_mk (Value.int .i64 0) (res1 (resC_tmp (by kernel_rfl))) ?_
  exact ⟨0, rfl, h⟩
theorem cmp_Or_int.go {vals : Sl} {w : World} {k : Value → World → Prop} (h : cmp_Or_int vals w fun r0 w'=>k (Value.int .i64 r0) w') : callS Tryz.prog 76 [(Sl.v vals)] w k := (cmp_Or_int.sound vals w _ h).mono (by rintro _ _ ⟨r0, rfl, h⟩; exact h)
def halyardref02_May (zz0 : Int) (zz1 : Int) (zz2 : Int) (w : World) (R : Bool → World → Prop) : Prop :=
 newS w [(Value.int .i64 zz0), (Value.int .i64 zz1), (Value.int .i64 zz2)] 30 fun a vw=>∃ (t4 : Int), (ldc vw a [(Value.int .i64 t4)]) ∧ callS Tryz.prog 115 [(Value.int .i64 t4)] vw fun v vw1=>∃ (t5 : Bool), v = (Value.bool t5) ∧ ∃ (t8 : Int), grd t5 (ldc vw1 (a.add 1) [(Value.int .i64 t8)]) ∧ gCall t5 (fun (t9 : Bool) (vw3 : World)=>bnd (t5 && t9) fun (b : Bool)=>∃ (t13 : Int), grd b (ldc vw3 (a.add 2) [(Value.int .i64 t13)]) ∧ gCall b (fun (t14 : Bool) (vw7 : World)=>R (b && t14) vw7) (fun q=>callS Tryz.prog 115 [(Value.int .i64 t13)] vw3 fun v8 vw7=>∃ (t14 : Bool), v8 = (Value.bool t14) ∧ q t14 vw7) (fun q=>q false vw3)) (fun q=>callS Tryz.prog 115 [(Value.int .i64 t8)] vw1 fun v4 vw3=>∃ (t9 : Bool), v4 = (Value.bool t9) ∧ q t9 vw3) (fun q=>q false vw1)
set_option maxHeartbeats 8000000 in
theorem halyardref02_May.sound (zz0 : Int) (zz1 : Int) (zz2 : Int) (w : World) (R : Bool → World → Prop) (h : halyardref02_May zz0 zz1 zz2 w R) : callS Tryz.prog 80 [(Value.agg #[(Value.int .i64 zz0), (Value.int .i64 zz1), (Value.int .i64 zz2)])] w (fun v w'=>∃ (r0 : Bool), v = (Value.bool r0) ∧ R r0 w') := by
 unfold halyardref02_May at h
 refine calls_of_vc 16 rfl Tryz.func80 rfl (by kernel_rfl) (by simp) ?_
 refine Vc.seq ?_
 refine Vc.region ?_
 refine vcL_eff rfl (opVC_new rfl (fun a=>Value.pointer (some a)) (by kernel_rfl) (newS.mono h fun a vw hx h=>?_))
 refine vcL_pure rfl rfl (Value.bool false) (fun w=>by kernel_rfl) ?_
 refine vcL_nil ?_
 refine Vc.seq ?_
 refine Vc.region ?_
 refine vcL_pure rfl rfl (Value.pointer (some a)) (fun w=>by kernel_rfl) ?_
 obtain ⟨t4, hc, h⟩ := h
 refine vcL_val rfl rfl (Value.int .i64 t4) (exec_load rfl (by kernel_rfl) (run_load1 (fun w=>by kernel_rfl) ((hc)))) ?_
 refine vcL_eff rfl (opVC_call rfl (by kernel_rfl) (callS.mono h fun v vw1 h=>?_))
 obtain ⟨t5, rfl, h⟩ := h
 refine vcL_pure rfl rfl (Value.bool t5) (fun w=>by kernel_rfl) ?_
 refine vcL_guardP t5 (wanted_g (d := 6) rfl (by kernel_rfl) t5 (by kernel_rfl) t5 (eqT t5)) rfl (Value.pointer (some (a.add 1))) (fun hg w=>by subst hg; kernel_rfl) ?_
 obtain ⟨t8, hc2, h⟩ := h
 refine vcL_guard t5 (wanted_g (d := 6) rfl (by kernel_rfl) t5 (by kernel_rfl) t5 (eqT t5)) rfl (Value.int .i64 t8) (fun hg=>by subst hg; exact exec_load rfl (by kernel_rfl) (run_load1 (fun w=>by kernel_rfl) ((hc2 rfl)))) ?_
 obtain ⟨vJ, hJ, h⟩ := gCall_elim h
 refine vcL_effJ (σ := Bool) t5 (wanted_g (d := 6) rfl (by kernel_rfl) t5 (by kernel_rfl) t5 (eqT t5)) rfl (fun s w=>vJ s w) (fun s=>(Value.bool s)) ?_ (fun hg=>opVC_call rfl (by subst hg; kernel_rfl) (callS.mono (h.1 hg) fun v4 vw3 hq=>?_)) (fun hg=>⟨false, h.2 hg⟩)
 ·intro t9 vw3 h
  subst hJ
  refine vcL_pure rfl rfl (Value.bool (t5 && t9)) (fun w=>by cases t5 <;> kernel_rfl) ?_
  obtain ⟨b, hb⟩ : ∃ y, y = (t5 && t9) := ⟨_, rfl⟩
  have h := h b hb
  refine vcL_pure rfl rfl (Value.bool b) (fun w=>by rw [hb]; kernel_rfl) ?_
  refine vcL_guardP b (wanted_g (d := 11) rfl (by kernel_rfl) b (by kernel_rfl) b (eqT b)) rfl (Value.pointer (some (a.add 2))) (fun hg w=>by subst hg; kernel_rfl) ?_
  obtain ⟨t13, hc6, h⟩ := h
  refine vcL_guard b (wanted_g (d := 11) rfl (by kernel_rfl) b (by kernel_rfl) b (eqT b)) rfl (Value.int .i64 t13) (fun hg=>by subst hg; exact exec_load rfl (by kernel_rfl) (run_load1 (fun w=>by kernel_rfl) ((hc6 rfl)))) ?_
  obtain ⟨vJ10, hJ11, h⟩ := gCall_elim h
  refine vcL_effJ (σ := Bool) b (wanted_g (d := 11) rfl (by kernel_rfl) b (by kernel_rfl) b (eqT b)) rfl (fun s w=>vJ10 s w) (fun s=>(Value.bool s)) ?_ (fun hg=>opVC_call rfl (by subst hg; kernel_rfl) (callS.mono (h.1 hg) fun v8 vw7 hq=>?_)) (fun hg=>⟨false, h.2 hg⟩)
  ·intro t14 vw7 h
   subst hJ11
   refine vcL_pure rfl rfl (Value.bool (b && t14)) (fun w=>by cases b <;> kernel_rfl) ?_
   refine vcL_pure rfl rfl (Value.bool (b && t14)) (fun w=>by kernel_rfl) ?_
   refine vcL_nil ?_
   refine Vc.ret ?_
   refine outs_ret ?_
   refine done_mk (Value.bool (b && t14)) (res1 (resC_tmp (by kernel_rfl))) ?_
   exact ⟨(b && t14), rfl, h⟩
  ·obtain ⟨t14, rfl, hq⟩ := hq
   exact ⟨t14, rfl, hq⟩
 ·obtain ⟨t9, rfl, hq⟩ := hq
  exact ⟨t9, rfl, hq⟩
theorem halyardref02_May.go {zz0 : Int} {zz1 : Int} {zz2 : Int} {w : World} {k : Value → World → Prop} (h : halyardref02_May zz0 zz1 zz2 w fun r0 w'=>k (Value.bool r0) w') : callS Tryz.prog 80 [(Value.agg #[(Value.int .i64 zz0), (Value.int .i64 zz1), (Value.int .i64 zz2)])] w k := (halyardref02_May.sound zz0 zz1 zz2 w _ h).mono (by rintro _ _ ⟨r0, rfl, h⟩; exact h)
def wants_all (zzc : Sl) (zzd : Sl) (zze : Sl) (zzf : Sl) (must : Sl) (may : Sl) (w : World) (R : Sl → World → Prop) : Prop :=
 newS w [(Sl.v zzc), (Sl.v zzd), (Sl.v zze), (Sl.v zzf)] 25 fun a vw=>loop2 Sl.nil 0 vw fun out t16 vw1 nxt=>((t16 < (must.len : Int) → ∃ (ad : Addr), (must.a = some ad ∧ (0 : Int) ≤ t16 ∧ t16 < (must.len : Int)) ∧ ∃ (t19 : Sl), (ldc vw1 (ad.add (t16.toNat * 1)) [(Sl.v t19)]) ∧ loop2 out 0 vw1 fun out2 t22 vw3 nxt4=>((t22 < (t19.len : Int) → ∃ (ad5 : Addr), (t19.a = some ad5 ∧ (0 : Int) ≤ t22 ∧ t22 < (t19.len : Int)) ∧ ∃ (zz28 : ByteArray) (zz29 : Sl), (ldc vw3 (ad5.add (t22.toNat * 2)) [(Value.string zz28), (Sl.v zz29)]) ∧ newS vw3 [(Value.string (ByteArray.mk #[])), (Sl.v Sl.nil)] 81 fun a8 vw9=>stw vw9 a8 [(Value.string zz28), (Sl.v zz29)] fun vw10=>bnd vw10.drew fun (vw11 : World)=>∃ (t28 : ByteArray), (ldc vw11 a8 [(Value.string t28)]) ∧ ∃ (zz37 : Sl) (zz38 : Sl) (zz39 : Sl) (zz3a : Sl), (ldc vw11 a [(Sl.v zz37), (Sl.v zz38), (Sl.v zz39), (Sl.v zz3a)]) ∧ ∃ (zzv : ByteArray) (zzw : Sl), (ldc vw11 a8 [(Value.string zzv), (Sl.v zzw)]) ∧ callX Tryz.prog 44 [(Value.agg #[(Sl.v zz37), (Sl.v zz38), (Sl.v zz39), (Sl.v zz3a)]), (Value.agg #[(Value.string zzv), (Sl.v zzw)])] vw11 fun v vw15=>∃ (t31 : Sl), v = (Sl.v t31) ∧ newS vw15 [(Value.string t28), (Value.int .i64 1), (Sl.v t31)] 88 fun a16 vw17=>appS Tryz.prog 75 75 out2 (Sl.v (Sl.mk (some a16) 1 1)) vw17 fun t34 vw18=>nxt4 t34 (wrapI (t22 + 1)) vw18) ∧ (¬ (t22 < (t19.len : Int)) → nxt out2 (wrapI (t16 + 1)) vw3))) ∧ (¬ (t16 < (must.len : Int)) → loop2 out 0 vw1 fun out19 t39 vw20 nxt21=>((t39 < (may.len : Int) → ∃ (ad22 : Addr), (may.a = some ad22 ∧ (0 : Int) ≤ t39 ∧ t39 < (may.len : Int)) ∧ ∃ (zz2a : ByteArray) (zz2b : Sl), (ldc vw20 (ad22.add (t39.toNat * 2)) [(Value.string zz2a), (Sl.v zz2b)]) ∧ newS vw20 [(Value.string (ByteArray.mk #[])), (Sl.v Sl.nil)] 81 fun a25 vw26=>stw vw26 a25 [(Value.string zz2a), (Sl.v zz2b)] fun vw27=>bnd vw27.drew fun (vw28 : World)=>∃ (t45 : ByteArray), (ldc vw28 a25 [(Value.string t45)]) ∧ ∃ (zz3m : Sl) (zz3n : Sl) (zz3o : Sl) (zz3p : Sl), (ldc vw28 a [(Sl.v zz3m), (Sl.v zz3n), (Sl.v zz3o), (Sl.v zz3p)]) ∧ ∃ (zz3q : ByteArray) (zz3r : Sl), (ldc vw28 a25 [(Value.string zz3q), (Sl.v zz3r)]) ∧ callX Tryz.prog 44 [(Value.agg #[(Sl.v zz3m), (Sl.v zz3n), (Sl.v zz3o), (Sl.v zz3p)]), (Value.agg #[(Value.string zz3q), (Sl.v zz3r)])] vw28 fun v33 vw32=>∃ (t48 : Sl), v33 = (Sl.v t48) ∧ newS vw32 [(Value.string t45), (Value.int .i64 2), (Sl.v t48)] 88 fun a35 vw36=>appS Tryz.prog 75 75 out19 (Sl.v (Sl.mk (some a35) 1 1)) vw36 fun t51 vw37=>nxt21 t51 (wrapI (t39 + 1)) vw37) ∧ (¬ (t39 < (may.len : Int)) → callS Tryz.prog 119 [(Sl.v out19), (Value.func (.func 120) #[] #[])] vw20 fun v39 vw38=>v39 = (Value.tuple #[]) ∧ callS Tryz.prog 121 [(Sl.v out19)] vw38 fun v42 vw41=>∃ (t56 : Sl), v42 = (Sl.v t56) ∧ R t56 vw41))))
set_option maxHeartbeats 8000000 in
theorem wants_all.sound (zzc : Sl) (zzd : Sl) (zze : Sl) (zzf : Sl) (must : Sl) (may : Sl) (w : World) (R : Sl → World → Prop) (h : wants_all zzc zzd zze zzf must may w R) : callS Tryz.prog 87 [(Value.agg #[(Sl.v zzc), (Sl.v zzd), (Sl.v zze), (Sl.v zzf)]), (Sl.v must), (Sl.v may)] w (fun v w'=>∃ (r0 : Sl), v = (Sl.v r0) ∧ R r0 w') := by
 unfold wants_all at h
 refine calls_of_vc 57 rfl Tryz.func87 rfl (by kernel_rfl) (by simp) ?_
 refine Vc.seq ?_
 refine Vc.region ?_
 refine vcL_eff rfl (opVC_new rfl (fun a=>Value.pointer (some a)) (by kernel_rfl) (newS.mono h fun a vw hx h=>?_))
 refine vcL_pure rfl rfl (Sl.v Sl.nil) (fun w=>by kernel_rfl) ?_
 refine vcL_nil ?_
 refine Vc.seq ?_
 refine Vc.region ?_
 refine vcL_pure rfl rfl (Sl.v Sl.nil) (fun w=>by kernel_rfl) ?_
 refine vcL_nil ?_
 refine Vc.seq ?_
 refine Vc.seq ?_
 refine Vc.region ?_
 refine vcL_purs 3 [(16, (Value.int .i64 0)), (15, (Value.int .i64 (must.len : Int))), (14, (Sl.v must))] (by kernel_rfl) ?_
 refine vcL_nil ?_
 refine Vc.block ?_
 obtain ⟨vI47, mu48, h, hr49⟩ := h
 refine Vc.loopJ (σ := Sl × Int) [7, 16] [9, 11, 17, 18, 19, 20, 21, 22, 23, 24, 25, 26, 27, 28, 29, 30, 31, 32, 33, 34, 35, 36] (fun s=>[(7, (Sl.v s.1)), (16, (Value.int .i64 s.2))]) (fun s w=>vI47 s.1 s.2 w) (fun s w=>mu48 s.1 s.2 w) (Sl.nil, 0) h (fun _ => rfl) (by kernel_rfl) ?_
 rintro ⟨out, t16⟩ vw1 j h
 have h := hr49 out t16 vw1 h
 refine Vc.seq ?_
 refine Vc.region ?_
 refine vcL_pure rfl rfl (Value.bool (decide (t16 < (must.len : Int)))) (fun w=>by kernel_rfl) ?_
 refine vcL_nil ?_
 refine Vc.seq ?_
 refine Vc.cond (decide (t16 < (must.len : Int))) (by kernel_rfl) (fun hb=>?_) (fun hb=>?_)
 ·have h := h.1 (of_decide_eq_true hb)
  refine Vc.skip ?_
  refine Vc.seq ?_
  refine Vc.block ?_
  refine Vc.seq ?_
  refine Vc.region ?_
  obtain ⟨ad, hi, h⟩ := h
  refine vcL_pure rfl rfl (Value.pointer (some (ad.add (t16.toNat * 1)))) (fun w=>by exact exec_indexAt (s := must) (el := 23) rfl (by kernel_rfl) (by kernel_rfl) (by kernel_rfl) (fun w=>by kernel_rfl) (hi).1 (hi).2.1 (hi).2.2 w) ?_
  obtain ⟨t19, hc, h⟩ := h
  refine vcL_val rfl rfl (Sl.v t19) (exec_load rfl (by kernel_rfl) (run_load1 (fun w=>by kernel_rfl) ((hc)))) ?_
  refine vcL_pure rfl rfl (Sl.v t19) (fun w=>by kernel_rfl) ?_
  refine vcL_nil ?_
  refine Vc.seq ?_
  refine Vc.region ?_
  refine vcL_purs 3 [(22, (Value.int .i64 0)), (21, (Value.int .i64 (t19.len : Int))), (20, (Sl.v t19))] (by kernel_rfl) ?_
  refine vcL_nil ?_
  refine Vc.block ?_
  obtain ⟨vI, mu, h, hr⟩ := h
  refine Vc.loopJ (σ := Sl × Int) [7, 22] [11, 23, 24, 25, 26, 27, 28, 29, 30, 31, 32, 33, 34, 35] (fun s=>[(7, (Sl.v s.1)), (22, (Value.int .i64 s.2))]) (fun s w=>vI s.1 s.2 w) (fun s w=>mu s.1 s.2 w) (out, 0) h (fun _ => rfl) (by kernel_rfl) ?_
  rintro ⟨out2, t22⟩ vw3 j h
  have h := hr out2 t22 vw3 h
  refine Vc.seq ?_
  refine Vc.region ?_
  refine vcL_pure rfl rfl (Value.bool (decide (t22 < (t19.len : Int)))) (fun w=>by kernel_rfl) ?_
  refine vcL_nil ?_
  refine Vc.seq ?_
  refine Vc.cond (decide (t22 < (t19.len : Int))) (by kernel_rfl) (fun hb=>?_) (fun hb=>?_)
  ·have h := h.1 (of_decide_eq_true hb)
   refine Vc.skip ?_
   refine Vc.seq ?_
   refine Vc.block ?_
   refine Vc.seq ?_
   refine Vc.region ?_
   obtain ⟨ad5, hi6, h⟩ := h
   refine vcL_pure rfl rfl (Value.pointer (some (ad5.add (t22.toNat * 2)))) (fun w=>by exact exec_indexAt (s := t19) (el := 81) rfl (by kernel_rfl) (by kernel_rfl) (by kernel_rfl) (fun w=>by kernel_rfl) (hi6).1 (hi6).2.1 (hi6).2.2 w) ?_
   obtain ⟨zz28, zz29, hc7, h⟩ := h
   refine vcL_val rfl rfl (Value.agg #[(Value.string zz28), (Sl.v zz29)]) (exec_load rfl (by kernel_rfl) (run_loadN (fun w=>by kernel_rfl) (fun w=>by kernel_rfl) ((hc7)))) ?_
   refine vcL_eff rfl (opVC_new rfl (fun a=>Value.pointer (some a)) (by kernel_rfl) (newS.mono h fun a8 vw9 hx h=>?_))
   refine vcL_eff rfl (opVC_store rfl rfl (a := a8) (by kernel_rfl) (v := (Value.agg #[(Value.string zz28), (Sl.v zz29)])) (by kernel_rfl) [(Value.string zz28), (Sl.v zz29)] (by kernel_rfl) (fun w=>by kernel_rfl) (by kernel_rfl) (stw.mono h fun vw10 h=>?_))
   refine vcL_nil ?_
   obtain ⟨vw11, hvw11⟩ : ∃ y, y = vw10.drew := ⟨_, rfl⟩
   have h := h vw11 hvw11
   refine Vc.draw (by kernel_rfl) (fun i=>!(memN [7, 8] i)) (.pur 0 (.pur 1 (.val 2 (.val 3 (.val 4 (.eff 5 (.pur 6 (.eff 7 (.eff 8 (.pur 9 .fin) .stop) .stop)) .stop)))))) (by kernel_rfl) ?_
   rw [← hvw11]
   clear hvw11
   refine vcS_pure rfl rfl rfl (Sl.v out2) (fun w=>by kernel_rfl) ?_
   refine vcS_pure rfl rfl rfl (Value.pointer (some a8)) (fun w=>by kernel_rfl) ?_
   obtain ⟨t28, hc12, h⟩ := h
   refine vcS_val rfl rfl rfl (Value.string t28) (fun w' hx=>exec_load rfl (by kernel_rfl) (run_load1 (fun w=>by kernel_rfl) ((hc12).ext hx))) ?_
   obtain ⟨zz37, zz38, zz39, zz3a, hc13, h⟩ := h
   refine vcS_val rfl rfl rfl (Value.agg #[(Sl.v zz37), (Sl.v zz38), (Sl.v zz39), (Sl.v zz3a)]) (fun w' hx=>exec_load rfl (by kernel_rfl) (run_loadN (fun w=>by kernel_rfl) (fun w=>by kernel_rfl) ((hc13).ext hx))) ?_
   obtain ⟨zzv, zzw, hc14, h⟩ := h
   refine vcS_val rfl rfl rfl (Value.agg #[(Value.string zzv), (Sl.v zzw)]) (fun w' hx=>exec_load rfl (by kernel_rfl) (run_loadN (fun w=>by kernel_rfl) (fun w=>by kernel_rfl) ((hc14).ext hx))) ?_
   refine vcS_eff rfl rfl (opVC_call rfl (by kernel_rfl) (callS.mono h fun v vw15 h=>?_)) vcS_stop
   obtain ⟨hx, h⟩ := h
   obtain ⟨t31, rfl, h⟩ := h
   refine ⟨fun _ => hx, ?_⟩
   refine vcS_pure rfl rfl rfl (Value.agg #[(Value.string t28), (Value.int .i64 1), (Sl.v t31)]) (fun w=>by kernel_rfl) ?_
   refine vcS_eff rfl rfl (opVC_new rfl (fun a=>Value.slice (some a) 1 1) (by kernel_rfl) (newS.mono h fun a16 vw17 hx h=>?_)) vcS_stop
   refine ⟨fun hb=>absurd hb (by decide), ?_⟩
   refine vcS_eff rfl rfl (opVC_sem rfl (c := Builtin.append_ #[75, 75] 75 #[(Sl.v out2), (Sl.v (Sl.mk (some a16) 1 1))]) (by kernel_rfl) (appS.elim (ty := 75) h fun t34 vw18 h=>?_)) vcS_stop
   refine ⟨fun hb=>absurd hb (by decide), ?_⟩
   refine vcS_pure rfl rfl rfl (Sl.v t34) (fun w=>by kernel_rfl) ?_
   refine vcS_fin ?_
   refine Vc.region ?_
   refine vcL_purs 2 [(22, (Value.int .i64 (wrapI (t22 + 1)))), (35, (Value.int .i64 (wrapI (t22 + 1))))] (by kernel_rfl) ?_
   refine vcL_nil ?_
   exact ⟨(t34, (wrapI (t22 + 1))), 32, ⟨rfl, by kernel_rfl, by kernel_rfl, by kernel_rfl⟩, h⟩
  ·have h := h.2 (of_decide_eq_false hb)
   refine Vc.exit ?_
   refine outOf_hit ?_
   refine Vc.region ?_
   refine vcL_purs 2 [(16, (Value.int .i64 (wrapI (t16 + 1)))), (36, (Value.int .i64 (wrapI (t16 + 1))))] (by kernel_rfl) ?_
   refine vcL_nil ?_
   exact ⟨(out2, (wrapI (t16 + 1))), 50, ⟨rfl, by kernel_rfl, by kernel_rfl, by kernel_rfl⟩, h⟩
 ·have h := h.2 (of_decide_eq_false hb)
  refine Vc.exit ?_
  refine outOf_hit ?_
  refine Vc.seq ?_
  refine Vc.seq ?_
  refine Vc.region ?_
  refine vcL_purs 3 [(39, (Value.int .i64 0)), (38, (Value.int .i64 (may.len : Int))), (37, (Sl.v may))] (by kernel_rfl) ?_
  refine vcL_nil ?_
  refine Vc.block ?_
  obtain ⟨vI44, mu45, h, hr46⟩ := h
  refine Vc.loopJ (σ := Sl × Int) [7, 39] [13, 40, 41, 42, 43, 44, 45, 46, 47, 48, 49, 50, 51, 52] (fun s=>[(7, (Sl.v s.1)), (39, (Value.int .i64 s.2))]) (fun s w=>vI44 s.1 s.2 w) (fun s w=>mu45 s.1 s.2 w) (out, 0) h (fun _ => rfl) (by kernel_rfl) ?_
  rintro ⟨out19, t39⟩ vw20 j h
  have h := hr46 out19 t39 vw20 h
  refine Vc.seq ?_
  refine Vc.region ?_
  refine vcL_pure rfl rfl (Value.bool (decide (t39 < (may.len : Int)))) (fun w=>by kernel_rfl) ?_
  refine vcL_nil ?_
  refine Vc.seq ?_
  refine Vc.cond (decide (t39 < (may.len : Int))) (by kernel_rfl) (fun hb=>?_) (fun hb=>?_)
  ·have h := h.1 (of_decide_eq_true hb)
   refine Vc.skip ?_
   refine Vc.seq ?_
   refine Vc.block ?_
   refine Vc.seq ?_
   refine Vc.region ?_
   obtain ⟨ad22, hi23, h⟩ := h
   refine vcL_pure rfl rfl (Value.pointer (some (ad22.add (t39.toNat * 2)))) (fun w=>by exact exec_indexAt (s := may) (el := 81) rfl (by kernel_rfl) (by kernel_rfl) (by kernel_rfl) (fun w=>by kernel_rfl) (hi23).1 (hi23).2.1 (hi23).2.2 w) ?_
   obtain ⟨zz2a, zz2b, hc24, h⟩ := h
   refine vcL_val rfl rfl (Value.agg #[(Value.string zz2a), (Sl.v zz2b)]) (exec_load rfl (by kernel_rfl) (run_loadN (fun w=>by kernel_rfl) (fun w=>by kernel_rfl) ((hc24)))) ?_
   refine vcL_eff rfl (opVC_new rfl (fun a=>Value.pointer (some a)) (by kernel_rfl) (newS.mono h fun a25 vw26 hx h=>?_))
   refine vcL_eff rfl (opVC_store rfl rfl (a := a25) (by kernel_rfl) (v := (Value.agg #[(Value.string zz2a), (Sl.v zz2b)])) (by kernel_rfl) [(Value.string zz2a), (Sl.v zz2b)] (by kernel_rfl) (fun w=>by kernel_rfl) (by kernel_rfl) (stw.mono h fun vw27 h=>?_))
   refine vcL_nil ?_
   obtain ⟨vw28, hvw28⟩ : ∃ y, y = vw27.drew := ⟨_, rfl⟩
   have h := h vw28 hvw28
   refine Vc.draw (by kernel_rfl) (fun i=>!(memN [7, 8] i)) (.pur 0 (.pur 1 (.val 2 (.val 3 (.val 4 (.eff 5 (.pur 6 (.eff 7 (.eff 8 (.pur 9 .fin) .stop) .stop)) .stop)))))) (by kernel_rfl) ?_
   rw [← hvw28]
   clear hvw28
   refine vcS_pure rfl rfl rfl (Sl.v out19) (fun w=>by kernel_rfl) ?_
   refine vcS_pure rfl rfl rfl (Value.pointer (some a25)) (fun w=>by kernel_rfl) ?_
   obtain ⟨t45, hc29, h⟩ := h
   refine vcS_val rfl rfl rfl (Value.string t45) (fun w' hx=>exec_load rfl (by kernel_rfl) (run_load1 (fun w=>by kernel_rfl) ((hc29).ext hx))) ?_
   obtain ⟨zz3m, zz3n, zz3o, zz3p, hc30, h⟩ := h
   refine vcS_val rfl rfl rfl (Value.agg #[(Sl.v zz3m), (Sl.v zz3n), (Sl.v zz3o), (Sl.v zz3p)]) (fun w' hx=>exec_load rfl (by kernel_rfl) (run_loadN (fun w=>by kernel_rfl) (fun w=>by kernel_rfl) ((hc30).ext hx))) ?_
   obtain ⟨zz3q, zz3r, hc31, h⟩ := h
   refine vcS_val rfl rfl rfl (Value.agg #[(Value.string zz3q), (Sl.v zz3r)]) (fun w' hx=>exec_load rfl (by kernel_rfl) (run_loadN (fun w=>by kernel_rfl) (fun w=>by kernel_rfl) ((hc31).ext hx))) ?_
   refine vcS_eff rfl rfl (opVC_call rfl (by kernel_rfl) (callS.mono h fun v33 vw32 h=>?_)) vcS_stop
   obtain ⟨hx34, h⟩ := h
   obtain ⟨t48, rfl, h⟩ := h
   refine ⟨fun _ => hx34, ?_⟩
   refine vcS_pure rfl rfl rfl (Value.agg #[(Value.string t45), (Value.int .i64 2), (Sl.v t48)]) (fun w=>by kernel_rfl) ?_
   refine vcS_eff rfl rfl (opVC_new rfl (fun a=>Value.slice (some a) 1 1) (by kernel_rfl) (newS.mono h fun a35 vw36 hx h=>?_)) vcS_stop
   refine ⟨fun hb=>absurd hb (by decide), ?_⟩
   refine vcS_eff rfl rfl (opVC_sem rfl (c := Builtin.append_ #[75, 75] 75 #[(Sl.v out19), (Sl.v (Sl.mk (some a35) 1 1))]) (by kernel_rfl) (appS.elim (ty := 75) h fun t51 vw37 h=>?_)) vcS_stop
   refine ⟨fun hb=>absurd hb (by decide), ?_⟩
   refine vcS_pure rfl rfl rfl (Sl.v t51) (fun w=>by kernel_rfl) ?_
   refine vcS_fin ?_
   refine Vc.region ?_
   refine vcL_purs 2 [(39, (Value.int .i64 (wrapI (t39 + 1)))), (52, (Value.int .i64 (wrapI (t39 + 1))))] (by kernel_rfl) ?_
   refine vcL_nil ?_
   exact ⟨(t51, (wrapI (t39 + 1))), 32, ⟨rfl, by kernel_rfl, by kernel_rfl, by kernel_rfl⟩, h⟩
  ·have h := h.2 (of_decide_eq_false hb)
   refine Vc.exit ?_
   refine outOf_hit ?_
   refine Vc.seq ?_
   refine Vc.region ?_
   refine vcL_pure rfl rfl (Sl.v out19) (fun w=>by kernel_rfl) ?_
   refine vcL_eff rfl (opVC_call rfl (by kernel_rfl) (callS.mono h fun v39 vw38 h=>?_))
   obtain ⟨rfl, h⟩ := h
   refine vcL_nil ?_
   refine Vc.seq ?_
   refine Vc.region ?_
   refine vcL_pure rfl rfl (Sl.v out19) (fun w=>by kernel_rfl) ?_
   refine vcL_eff rfl (opVC_call rfl (by kernel_rfl) (callS.mono h fun v42 vw41 h=>?_))
   obtain ⟨t56, rfl, h⟩ := h
   refine vcL_pure rfl rfl (Sl.v t56) (fun w=>by kernel_rfl) ?_
   refine vcL_nil ?_
   refine Vc.ret ?_
   refine outs_ret ?_
   refine done_mk (Sl.v t56) (res1 (resC_tmp (by kernel_rfl))) ?_
   exact ⟨t56, rfl, h⟩
theorem wants_all.go {zzc : Sl} {zzd : Sl} {zze : Sl} {zzf : Sl} {must : Sl} {may : Sl} {w : World} {k : Value → World → Prop} (h : wants_all zzc zzd zze zzf must may w fun r0 w'=>k (Sl.v r0) w') : callS Tryz.prog 87 [(Value.agg #[(Sl.v zzc), (Sl.v zzd), (Sl.v zze), (Sl.v zzf)]), (Sl.v must), (Sl.v may)] w k := (wants_all.sound zzc zzd zze zzf must may w _ h).mono (by rintro _ _ ⟨r0, rfl, h⟩; exact h)
def halyardref09_added (l : Sl) (deps : Sl) (kind : Int) (zzc : Sl) (zzd : Sl) (zze : Sl) (zzf : Sl) (w : World) (R : Sl → World → Prop) : Prop :=
 newS w [(Sl.v zzc), (Sl.v zzd), (Sl.v zze), (Sl.v zzf)] 25 fun a vw=>loop2 l 0 vw fun l1 i vw2 nxt=>((i < (deps.len : Int) → bnd vw2.drew fun (vw3 : World)=>∃ (ad : Addr), (deps.a = some ad ∧ (0 : Int) ≤ i ∧ i < (deps.len : Int)) ∧ ∃ (t21 : ByteArray), (ldc vw3 (ad.add (i.toNat * 2)) [(Value.string t21)]) ∧ ∃ (zz2v : Sl) (zz2w : Sl) (zz2x : Sl) (zz2y : Sl), (ldc vw3 a [(Sl.v zz2v), (Sl.v zz2w), (Sl.v zz2x), (Sl.v zz2y)]) ∧ ∃ (ad5 : Addr), (deps.a = some ad5 ∧ (0 : Int) ≤ i ∧ i < (deps.len : Int)) ∧ ∃ (zz34 : ByteArray) (zz36 : Sl), (ldc vw3 (ad5.add (i.toNat * 2)) [(Value.string zz34), (Sl.v zz36)]) ∧ callX Tryz.prog 46 [(Value.agg #[(Sl.v zz2v), (Sl.v zz2w), (Sl.v zz2x), (Sl.v zz2y)]), (Value.agg #[(Value.string zz34), (Sl.v zz36)])] vw3 fun v vw8=>∃ (t28 : Sl), v = (Sl.v t28) ∧ callS Tryz.prog 122 [(Sl.v l1), (Value.agg #[(Value.string t21), (Value.int .i64 kind), (Sl.v t28)])] vw8 fun v10 vw9=>∃ (t30 : Sl), v10 = (Sl.v t30) ∧ nxt t30 (wrapI (i + 1)) vw9) ∧ (¬ (i < (deps.len : Int)) → R l1 vw2))
set_option maxHeartbeats 8000000 in
theorem halyardref09_added.sound (l : Sl) (deps : Sl) (kind : Int) (zzc : Sl) (zzd : Sl) (zze : Sl) (zzf : Sl) (w : World) (R : Sl → World → Prop) (h : halyardref09_added l deps kind zzc zzd zze zzf w R) : callS Tryz.prog 88 [(Sl.v l), (Sl.v deps), (Value.int .i64 kind), (Value.agg #[(Sl.v zzc), (Sl.v zzd), (Sl.v zze), (Sl.v zzf)])] w (fun v w'=>∃ (r0 : Sl), v = (Sl.v r0) ∧ R r0 w') := by
 unfold halyardref09_added at h
 refine calls_of_vc 32 rfl Tryz.func88 rfl (by kernel_rfl) (by simp) ?_
 refine Vc.seq ?_
 refine Vc.region ?_
 refine vcL_eff rfl (opVC_new rfl (fun a=>Value.pointer (some a)) (by kernel_rfl) (newS.mono h fun a vw hx h=>?_))
 refine vcL_pure rfl rfl (Sl.v Sl.nil) (fun w=>by kernel_rfl) ?_
 refine vcL_nil ?_
 refine Vc.seq ?_
 refine Vc.seq ?_
 refine Vc.region ?_
 refine vcL_pure rfl rfl (Value.int .i64 0) (fun w=>by kernel_rfl) ?_
 refine vcL_nil ?_
 refine Vc.block ?_
 obtain ⟨vI, mu, h, hr⟩ := h
 refine Vc.loopJ (σ := Sl × Int) [0, 9] [10, 11, 12, 13, 14, 15, 16, 17, 18, 19, 20, 21, 22, 23, 24, 25, 26, 27, 28, 29, 30] (fun s=>[(0, (Sl.v s.1)), (9, (Value.int .i64 s.2))]) (fun s w=>vI s.1 s.2 w) (fun s w=>mu s.1 s.2 w) (l, 0) h (fun _ => rfl) (by kernel_rfl) ?_
 rintro ⟨l1, i⟩ vw2 j h
 have h := hr l1 i vw2 h
 refine Vc.seq ?_
 refine Vc.seq ?_
 refine Vc.region ?_
 refine vcL_purs 4 [(13, (Value.bool (decide (i < (deps.len : Int))))), (12, (Value.int .i64 (deps.len : Int))), (11, (Sl.v deps)), (10, (Value.int .i64 i))] (by kernel_rfl) ?_
 refine vcL_nil ?_
 refine Vc.cond (decide (i < (deps.len : Int))) (by kernel_rfl) (fun hb=>?_) (fun hb=>?_)
 ·have h := h.1 (of_decide_eq_true hb)
  refine Vc.skip ?_
  refine Vc.seq ?_
  refine Vc.block ?_
  obtain ⟨vw3, hvw3⟩ : ∃ y, y = vw2.drew := ⟨_, rfl⟩
  have h := h vw3 hvw3
  refine Vc.draw (by kernel_rfl) (fun i=>!(memN [14] i)) (.pur 0 (.pur 1 (.pur 2 (.pur 3 (.pur 4 (.val 5 (.pur 6 (.val 7 (.pur 8 (.pur 9 (.pur 10 (.val 11 (.eff 12 (.pur 13 (.eff 14 (.pur 15 .fin) .stop)) .stop))))))))))))) (by kernel_rfl) ?_
  rw [← hvw3]
  clear hvw3
  refine vcS_pure rfl rfl rfl (Sl.v l1) (fun w=>by kernel_rfl) ?_
  refine vcS_pure rfl rfl rfl (Sl.v deps) (fun w=>by kernel_rfl) ?_
  refine vcS_pure rfl rfl rfl (Value.int .i64 i) (fun w=>by kernel_rfl) ?_
  obtain ⟨ad, hi, h⟩ := h
  refine vcS_pure rfl rfl rfl (Value.pointer (some (ad.add (i.toNat * 2)))) (fun w=>by exact exec_indexAt (s := deps) (el := 81) rfl (by kernel_rfl) (by kernel_rfl) (by kernel_rfl) (fun w=>by kernel_rfl) (hi).1 (hi).2.1 (hi).2.2 w) ?_
  refine vcS_pure rfl rfl rfl (Value.pointer (some (ad.add (i.toNat * 2)))) (fun w=>by kernel_rfl) ?_
  obtain ⟨t21, hc, h⟩ := h
  refine vcS_val rfl rfl rfl (Value.string t21) (fun w' hx=>exec_load rfl (by kernel_rfl) (run_load1 (fun w=>by kernel_rfl) ((hc).ext hx))) ?_
  refine vcS_pure rfl rfl rfl (Value.int .i64 kind) (fun w=>by kernel_rfl) ?_
  obtain ⟨zz2v, zz2w, zz2x, zz2y, hc4, h⟩ := h
  refine vcS_val rfl rfl rfl (Value.agg #[(Sl.v zz2v), (Sl.v zz2w), (Sl.v zz2x), (Sl.v zz2y)]) (fun w' hx=>exec_load rfl (by kernel_rfl) (run_loadN (fun w=>by kernel_rfl) (fun w=>by kernel_rfl) ((hc4).ext hx))) ?_
  refine vcS_pure rfl rfl rfl (Sl.v deps) (fun w=>by kernel_rfl) ?_
  refine vcS_pure rfl rfl rfl (Value.int .i64 i) (fun w=>by kernel_rfl) ?_
  obtain ⟨ad5, hi6, h⟩ := h
  refine vcS_pure rfl rfl rfl (Value.pointer (some (ad5.add (i.toNat * 2)))) (fun w=>by exact exec_indexAt (s := deps) (el := 81) rfl (by kernel_rfl) (by kernel_rfl) (by kernel_rfl) (fun w=>by kernel_rfl) (hi6).1 (hi6).2.1 (hi6).2.2 w) ?_
  obtain ⟨zz34, zz36, hc7, h⟩ := h
  refine vcS_val rfl rfl rfl (Value.agg #[(Value.string zz34), (Sl.v zz36)]) (fun w' hx=>exec_load rfl (by kernel_rfl) (run_loadN (fun w=>by kernel_rfl) (fun w=>by kernel_rfl) ((hc7).ext hx))) ?_
  refine vcS_eff rfl rfl (opVC_call rfl (by kernel_rfl) (callS.mono h fun v vw8 h=>?_)) vcS_stop
  obtain ⟨hx, h⟩ := h
  obtain ⟨t28, rfl, h⟩ := h
  refine ⟨fun _ => hx, ?_⟩
  refine vcS_pure rfl rfl rfl (Value.agg #[(Value.string t21), (Value.int .i64 kind), (Sl.v t28)]) (fun w=>by kernel_rfl) ?_
  refine vcS_eff rfl rfl (opVC_call rfl (by kernel_rfl) (callS.mono h fun v10 vw9 h=>?_)) vcS_stop
  obtain ⟨t30, rfl, h⟩ := h
  refine ⟨fun hb=>absurd hb (by decide), ?_⟩
  refine vcS_pure rfl rfl rfl (Sl.v t30) (fun w=>by kernel_rfl) ?_
  refine vcS_fin ?_
  refine Vc.region ?_
  refine vcL_purs 3 [(9, (Value.int .i64 (wrapI (i + 1)))), (15, (Value.int .i64 (wrapI (i + 1)))), (14, (Value.int .i64 i))] (by kernel_rfl) ?_
  refine vcL_nil ?_
  exact ⟨(t30, (wrapI (i + 1))), 46, ⟨rfl, by kernel_rfl, by kernel_rfl, by kernel_rfl⟩, h⟩
 ·have h := h.2 (of_decide_eq_false hb)
  refine Vc.exit ?_
  refine outOf_hit ?_
  refine Vc.seq ?_
  refine Vc.region ?_
  refine vcL_purs 2 [(8, (Sl.v l1)), (31, (Sl.v l1))] (by kernel_rfl) ?_
  refine vcL_nil ?_
  refine Vc.ret ?_
  refine outs_ret ?_
  refine done_mk (Sl.v l1) (res1 (resC_tmp (by kernel_rfl))) ?_
  exact ⟨l1, rfl, h⟩
theorem halyardref09_added.go {l : Sl} {deps : Sl} {kind : Int} {zzc : Sl} {zzd : Sl} {zze : Sl} {zzf : Sl} {w : World} {k : Value → World → Prop} (h : halyardref09_added l deps kind zzc zzd zze zzf w fun r0 w'=>k (Sl.v r0) w') : callS Tryz.prog 88 [(Sl.v l), (Sl.v deps), (Value.int .i64 kind), (Value.agg #[(Sl.v zzc), (Sl.v zzd), (Sl.v zze), (Sl.v zzf)])] w k := (halyardref09_added.sound l deps kind zzc zzd zze zzf w _ h).mono (by rintro _ _ ⟨r0, rfl, h⟩; exact h)
def slices_Clip_apiDepapiDep (vs : Sl) (w : World) (R : Sl → World → Prop) : Prop :=
 ((0 : Int) ≤ 0 ∧ 0 ≤ (vs.len : Int) ∧ (vs.len : Int) ≤ (vs.len : Int) ∧ (vs.len : Int) ≤ (vs.cap : Int)) ∧ R (Sl.mk (if (vs.len : Int).toNat = 0 then vs.a else vs.a.map (·.add (0 * 2))) ((vs.len : Int).toNat - 0) ((vs.len : Int).toNat - 0)) w
set_option maxHeartbeats 8000000 in
theorem slices_Clip_apiDepapiDep.sound (vs : Sl) (w : World) (R : Sl → World → Prop) (h : slices_Clip_apiDepapiDep vs w R) : callS Tryz.prog 89 [(Sl.v vs)] w (fun v w'=>∃ (r0 : Sl), v = (Sl.v r0) ∧ R r0 w') := by
 unfold slices_Clip_apiDepapiDep at h
 refine calls_of_vc 9 rfl Tryz.func89 rfl (by kernel_rfl) (by simp) ?_
 refine Vc.seq ?_
 refine Vc.region ?_
 refine vcL_pure rfl rfl (Sl.v Sl.nil) (fun w=>by kernel_rfl) ?_
 refine vcL_nil ?_
 refine Vc.seq ?_
 refine Vc.region ?_
 refine vcL_purs 5 [(7, (Value.int .i64 (vs.len : Int))), (6, (Sl.v vs)), (5, (Value.int .i64 (vs.len : Int))), (4, (Sl.v vs)), (3, (Sl.v vs))] (by kernel_rfl) ?_
 obtain ⟨hi, h⟩ := h
 refine vcL_pure rfl rfl (Sl.v (Sl.mk (if (vs.len : Int).toNat = 0 then vs.a else vs.a.map (·.add (0 * 2))) ((vs.len : Int).toNat - 0) ((vs.len : Int).toNat - 0))) (fun w=>by exact exec_slSlHM (s := vs) (el := 81) (k2 := .i64) (k3 := .i64) rfl (by kernel_rfl) (by kernel_rfl) (by kernel_rfl) (by kernel_rfl) (fun w=>by kernel_rfl) (hi) w) ?_
 refine vcL_pure rfl rfl (Sl.v (Sl.mk (if (vs.len : Int).toNat = 0 then vs.a else vs.a.map (·.add (0 * 2))) ((vs.len : Int).toNat - 0) ((vs.len : Int).toNat - 0))) (fun w=>by kernel_rfl) ?_
 refine vcL_nil ?_
 refine Vc.ret ?_
 refine outs_ret ?_
 refine done_mk (Sl.v (Sl.mk (if (vs.len : Int).toNat = 0 then vs.a else vs.a.map (·.add (0 * 2))) ((vs.len : Int).toNat - 0) ((vs.len : Int).toNat - 0))) (res1 (resC_tmp (by kernel_rfl))) ?_
 exact ⟨(Sl.mk (if (vs.len : Int).toNat = 0 then vs.a else vs.a.map (·.add (0 * 2))) ((vs.len : Int).toNat - 0) ((vs.len : Int).toNat - 0)), rfl, h⟩
theorem slices_Clip_apiDepapiDep.go {vs : Sl} {w : World} {k : Value → World → Prop} (h : slices_Clip_apiDepapiDep vs w fun r0 w'=>k (Sl.v r0) w') : callS Tryz.prog 89 [(Sl.v vs)] w k := (slices_Clip_apiDepapiDep.sound vs w _ h).mono (by rintro _ _ ⟨r0, rfl, h⟩; exact h)
def slices_Clone_apiSpanapiSpan (vs : Sl) (w : World) (R : Sl → World → Prop) : Prop :=
 ((vs.a = none → R Sl.nil w) ∧ (¬ (vs.a = none) → newS w [] 83 fun a vw=>appS Tryz.prog 53 53 (Sl.mk (some a) 0 0) (Sl.v vs) vw fun t7 vw1=>R t7 vw1))
set_option maxHeartbeats 8000000 in
theorem slices_Clone_apiSpanapiSpan.sound (vs : Sl) (w : World) (R : Sl → World → Prop) (h : slices_Clone_apiSpanapiSpan vs w R) : callS Tryz.prog 90 [(Sl.v vs)] w (fun v w'=>∃ (r0 : Sl), v = (Sl.v r0) ∧ R r0 w') := by
 unfold slices_Clone_apiSpanapiSpan at h
 refine calls_of_vc 8 rfl Tryz.func90 rfl (by kernel_rfl) (by simp) ?_
 refine Vc.seq ?_
 refine Vc.region ?_
 refine vcL_pure rfl rfl (Sl.v Sl.nil) (fun w=>by kernel_rfl) ?_
 refine vcL_nil ?_
 refine Vc.seq ?_
 refine Vc.seq ?_
 refine Vc.region ?_
 refine vcL_pure rfl rfl (Sl.v vs) (fun w=>by kernel_rfl) ?_
 refine vcL_pure rfl rfl (Value.bool (Option.isNone vs.a)) (fun w=>by cases vs with | mk a_ n_ c_=>cases a_ <;> kernel_rfl) ?_
 refine vcL_nil ?_
 refine Vc.cond (Option.isNone vs.a) (by kernel_rfl) (fun hb=>?_) (fun hb=>?_)
 ·have h := h.1 (Option.isNone_iff_eq_none.1 hb)
  refine Vc.seq ?_
  refine Vc.region ?_
  refine vcL_pure rfl rfl (Sl.v Sl.nil) (fun w=>by kernel_rfl) ?_
  refine vcL_nil ?_
  refine Vc.ret ?_
  refine outs_ret ?_
  refine done_mk (Sl.v Sl.nil) (res1 (resC_tmp (by kernel_rfl))) ?_
  exact ⟨Sl.nil, rfl, h⟩
 ·have h := h.2 (isNone_false hb)
  refine Vc.skip ?_
  refine Vc.seq ?_
  refine Vc.region ?_
  refine vcL_eff rfl (opVC_new rfl (fun a=>Value.slice (some a) 0 0) (by kernel_rfl) (newS.mono h fun a vw hx h=>?_))
  refine vcL_pure rfl rfl (Sl.v vs) (fun w=>by kernel_rfl) ?_
  refine vcL_eff rfl (opVC_sem rfl (c := Builtin.append_ #[53, 53] 53 #[(Sl.v (Sl.mk (some a) 0 0)), (Sl.v vs)]) (by kernel_rfl) (appS.elim (ty := 53) h fun t7 vw1 h=>?_))
  refine vcL_pure rfl rfl (Sl.v t7) (fun w=>by kernel_rfl) ?_
  refine vcL_nil ?_
  refine Vc.ret ?_
  refine outs_ret ?_
  refine done_mk (Sl.v t7) (res1 (resC_tmp (by kernel_rfl))) ?_
  exact ⟨t7, rfl, h⟩
theorem slices_Clone_apiSpanapiSpan.go {vs : Sl} {w : World} {k : Value → World → Prop} (h : slices_Clone_apiSpanapiSpan vs w fun r0 w'=>k (Sl.v r0) w') : callS Tryz.prog 90 [(Sl.v vs)] w k := (slices_Clone_apiSpanapiSpan.sound vs w _ h).mono (by rintro _ _ ⟨r0, rfl, h⟩; exact h)
def span_May (l : Sl) (w : World) (R : Bool → World → Prop) : Prop :=
 ((64 < (l.len : Int) → R false w) ∧ (¬ (64 < (l.len : Int)) → loop2 0 0 w fun least t15 vw nxt=>((t15 < (l.len : Int) → ∃ (ad : Addr), (l.a = some ad ∧ (0 : Int) ≤ t15 ∧ t15 < (l.len : Int)) ∧ ∃ (zz23 : Int) (zz24 : Int) (zz25 : Int) (zz20 : Int) (zz21 : Int) (zz22 : Int), (ldc vw (ad.add (t15.toNat * 6)) [(Value.int .i64 zz23), (Value.int .i64 zz24), (Value.int .i64 zz25), (Value.int .i64 zz20), (Value.int .i64 zz21), (Value.int .i64 zz22)]) ∧ newS vw [(Value.int .i64 0), (Value.int .i64 0), (Value.int .i64 0), (Value.int .i64 0), (Value.int .i64 0), (Value.int .i64 0)] 83 fun a vw1=>stw vw1 a [(Value.int .i64 zz23), (Value.int .i64 zz24), (Value.int .i64 zz25), (Value.int .i64 zz20), (Value.int .i64 zz21), (Value.int .i64 zz22)] fun vw2=>∃ (zz2s : Int) (zz2t : Int) (zz2u : Int), (ldc vw2 a [(Value.int .i64 zz2s), (Value.int .i64 zz2t), (Value.int .i64 zz2u)]) ∧ callS Tryz.prog 123 [(Value.agg #[(Value.int .i64 zz2s), (Value.int .i64 zz2t), (Value.int .i64 zz2u)])] vw2 fun v vw4=>∃ (t22 : Int) (t22b : Bool), v = (Value.tuple #[(Value.int .i64 t22), (Value.bool t22b)]) ∧ ∃ (zz32 : Int) (zz33 : Int) (zz35 : Int), (ldc vw4 (a.add 3) [(Value.int .i64 zz32), (Value.int .i64 zz33), (Value.int .i64 zz35)]) ∧ callS Tryz.prog 123 [(Value.agg #[(Value.int .i64 zz32), (Value.int .i64 zz33), (Value.int .i64 zz35)])] vw4 fun v7 vw6=>∃ (t28 : Int) (t28b : Bool), v7 = (Value.tuple #[(Value.int .i64 t28), (Value.bool t28b)]) ∧ bnd (!t22b) fun (b : Bool)=>bnd (b || (!t28b)) fun (b9 : Bool)=>bnd (b9 || (decide (t22 < least))) fun (b10 : Bool)=>(((b10 || (decide (t28 < t22))) = true → R false vw6) ∧ ((b10 || (decide (t28 < t22))) = false → nxt (wrapI (t28 + 2)) (wrapI (t15 + 1)) vw6))) ∧ (¬ (t15 < (l.len : Int)) → R true vw))))
set_option maxHeartbeats 8000000 in
theorem span_May.sound (l : Sl) (w : World) (R : Bool → World → Prop) (h : span_May l w R) : callS Tryz.prog 91 [(Sl.v l)] w (fun v w'=>∃ (r0 : Bool), v = (Value.bool r0) ∧ R r0 w') := by
 unfold span_May at h
 refine calls_of_vc 50 rfl Tryz.func91 rfl (by kernel_rfl) (by simp) ?_
 refine Vc.seq ?_
 refine Vc.region ?_
 refine vcL_pure rfl rfl (Value.bool false) (fun w=>by kernel_rfl) ?_
 refine vcL_nil ?_
 refine Vc.seq ?_
 refine Vc.seq ?_
 refine Vc.region ?_
 refine vcL_purs 3 [(12, (Value.bool (decide (64 < (l.len : Int))))), (11, (Value.int .i64 (l.len : Int))), (10, (Sl.v l))] (by kernel_rfl) ?_
 refine vcL_nil ?_
 refine Vc.cond (decide (64 < (l.len : Int))) (by kernel_rfl) (fun hb=>?_) (fun hb=>?_)
 ·have h := h.1 (of_decide_eq_true hb)
  refine Vc.seq ?_
  refine Vc.region ?_
  refine vcL_pure rfl rfl (Value.bool false) (fun w=>by kernel_rfl) ?_
  refine vcL_nil ?_
  refine Vc.ret ?_
  refine outs_ret ?_
  refine done_mk (Value.bool false) (res1 (resC_tmp (by kernel_rfl))) ?_
  exact ⟨false, rfl, h⟩
 ·have h := h.2 (of_decide_eq_false hb)
  refine Vc.skip ?_
  refine Vc.seq ?_
  refine Vc.region ?_
  refine vcL_pure rfl rfl (Value.int .i64 0) (fun w=>by kernel_rfl) ?_
  refine vcL_nil ?_
  refine Vc.seq ?_
  refine Vc.seq ?_
  refine Vc.region ?_
  refine vcL_purs 3 [(15, (Value.int .i64 0)), (14, (Value.int .i64 (l.len : Int))), (13, (Sl.v l))] (by kernel_rfl) ?_
  refine vcL_nil ?_
  refine Vc.block ?_
  obtain ⟨vI, mu, h, hr⟩ := h
  refine Vc.loopJ (σ := Int × Int) [3, 15] [2, 5, 6, 7, 8, 9, 16, 17, 18, 19, 20, 21, 22, 23, 24, 25, 26, 27, 28, 29, 30, 31, 32, 33, 34, 35, 36, 37, 38, 39, 40, 41, 42, 43, 44, 45, 46, 47, 48, 49] (fun s=>[(3, (Value.int .i64 s.1)), (15, (Value.int .i64 s.2))]) (fun s w=>vI s.1 s.2 w) (fun s w=>mu s.1 s.2 w) (0, 0) h (fun _ => rfl) (by kernel_rfl) ?_
  rintro ⟨least, t15⟩ vw j h
  have h := hr least t15 vw h
  refine Vc.seq ?_
  refine Vc.region ?_
  refine vcL_pure rfl rfl (Value.bool (decide (t15 < (l.len : Int)))) (fun w=>by kernel_rfl) ?_
  refine vcL_nil ?_
  refine Vc.seq ?_
  refine Vc.cond (decide (t15 < (l.len : Int))) (by kernel_rfl) (fun hb=>?_) (fun hb=>?_)
  ·have h := h.1 (of_decide_eq_true hb)
   refine Vc.skip ?_
   refine Vc.seq ?_
   refine Vc.block ?_
   refine Vc.seq ?_
   refine Vc.region ?_
   obtain ⟨ad, hi, h⟩ := h
   refine vcL_pure rfl rfl (Value.pointer (some (ad.add (t15.toNat * 6)))) (fun w=>by exact exec_indexAt (s := l) (el := 83) rfl (by kernel_rfl) (by kernel_rfl) (by kernel_rfl) (fun w=>by kernel_rfl) (hi).1 (hi).2.1 (hi).2.2 w) ?_
   obtain ⟨zz23, zz24, zz25, zz20, zz21, zz22, hc, h⟩ := h
   refine vcL_val rfl rfl (Value.agg #[(Value.int .i64 zz23), (Value.int .i64 zz24), (Value.int .i64 zz25), (Value.int .i64 zz20), (Value.int .i64 zz21), (Value.int .i64 zz22)]) (exec_load rfl (by kernel_rfl) (run_loadN (fun w=>by kernel_rfl) (fun w=>by kernel_rfl) ((hc)))) ?_
   refine vcL_eff rfl (opVC_new rfl (fun a=>Value.pointer (some a)) (by kernel_rfl) (newS.mono h fun a vw1 hx h=>?_))
   refine vcL_eff rfl (opVC_store rfl rfl (a := a) (by kernel_rfl) (v := (Value.agg #[(Value.int .i64 zz23), (Value.int .i64 zz24), (Value.int .i64 zz25), (Value.int .i64 zz20), (Value.int .i64 zz21), (Value.int .i64 zz22)])) (by kernel_rfl) [(Value.int .i64 zz23), (Value.int .i64 zz24), (Value.int .i64 zz25), (Value.int .i64 zz20), (Value.int .i64 zz21), (Value.int .i64 zz22)] (by kernel_rfl) (fun w=>by kernel_rfl) (by kernel_rfl) (stw.mono h fun vw2 h=>?_))
   refine vcL_nil ?_
   refine Vc.seq ?_
   refine Vc.region ?_
   refine vcL_pure rfl rfl (Value.pointer (some a)) (fun w=>by kernel_rfl) ?_
   obtain ⟨zz2s, zz2t, zz2u, hc3, h⟩ := h
   refine vcL_val rfl rfl (Value.agg #[(Value.int .i64 zz2s), (Value.int .i64 zz2t), (Value.int .i64 zz2u)]) (exec_load rfl (by kernel_rfl) (run_loadN (fun w=>by kernel_rfl) (fun w=>by kernel_rfl) ((hc3)))) ?_
   refine vcL_eff rfl (opVC_call rfl (by kernel_rfl) (callS.mono h fun v vw4 h=>?_))
   obtain ⟨t22, t22b, rfl, h⟩ := h
   refine vcL_purs 5 [(7, (Value.bool t22b)), (6, (Value.int .i64 t22)), (24, (Value.bool t22b)), (23, (Value.int .i64 t22)), (19, (Value.tuple #[(Value.int .i64 t22), (Value.bool t22b)]))] (by kernel_rfl) ?_
   refine vcL_nil ?_
   refine Vc.seq ?_
   refine Vc.region ?_
   refine vcL_pure rfl rfl (Value.pointer (some (a.add 3))) (fun w=>by kernel_rfl) ?_
   obtain ⟨zz32, zz33, zz35, hc5, h⟩ := h
   refine vcL_val rfl rfl (Value.agg #[(Value.int .i64 zz32), (Value.int .i64 zz33), (Value.int .i64 zz35)]) (exec_load rfl (by kernel_rfl) (run_loadN (fun w=>by kernel_rfl) (fun w=>by kernel_rfl) ((hc5)))) ?_
   refine vcL_eff rfl (opVC_call rfl (by kernel_rfl) (callS.mono h fun v7 vw6 h=>?_))
   obtain ⟨t28, t28b, rfl, h⟩ := h
   refine vcL_purs 5 [(9, (Value.bool t28b)), (8, (Value.int .i64 t28)), (30, (Value.bool t28b)), (29, (Value.int .i64 t28)), (25, (Value.tuple #[(Value.int .i64 t28), (Value.bool t28b)]))] (by kernel_rfl) ?_
   refine vcL_nil ?_
   refine Vc.seq ?_
   refine Vc.seq ?_
   refine Vc.region ?_
   refine vcL_purs 2 [(32, (Value.bool (!t22b))), (31, (Value.bool t22b))] (by kernel_rfl) ?_
   obtain ⟨b, hb⟩ : ∃ y, y = (!t22b) := ⟨_, rfl⟩
   have h := h b hb
   refine vcL_pure rfl rfl (Value.bool b) (fun w=>by rw [hb]; kernel_rfl) ?_
   refine vcL_guardP (!b) (wanted_g (d := 33) rfl (by kernel_rfl) b (by kernel_rfl) (!b) (eqF b)) rfl (Value.bool t28b) (fun hg w=>by simp only [Bool.and_eq_true, Bool.not_eq_true'] at hg; obtain rfl := hg; kernel_rfl) ?_
   refine vcL_guardP (!b) (wanted_g (d := 33) rfl (by kernel_rfl) b (by kernel_rfl) (!b) (eqF b)) rfl (Value.bool (!t28b)) (fun hg w=>by simp only [Bool.and_eq_true, Bool.not_eq_true'] at hg; obtain rfl := hg; kernel_rfl) ?_
   refine vcL_pure rfl rfl (Value.bool (b || (!t28b))) (fun w=>by cases b <;> kernel_rfl) ?_
   obtain ⟨b9, hb9⟩ : ∃ y, y = (b || (!t28b)) := ⟨_, rfl⟩
   have h := h b9 hb9
   refine vcL_pure rfl rfl (Value.bool b9) (fun w=>by rw [hb9]; kernel_rfl) ?_
   refine vcL_guardP (!b9) (wanted_g (d := 37) rfl (by kernel_rfl) b9 (by kernel_rfl) (!b9) (eqF b9)) rfl (Value.int .i64 t22) (fun hg w=>by simp only [Bool.and_eq_true, Bool.not_eq_true'] at hg; obtain rfl := hg; kernel_rfl) ?_
   refine vcL_guardP (!b9) (wanted_g (d := 37) rfl (by kernel_rfl) b9 (by kernel_rfl) (!b9) (eqF b9)) rfl (Value.int .i64 least) (fun hg w=>by simp only [Bool.and_eq_true, Bool.not_eq_true'] at hg; obtain rfl := hg; kernel_rfl) ?_
   refine vcL_guardP (!b9) (wanted_g (d := 37) rfl (by kernel_rfl) b9 (by kernel_rfl) (!b9) (eqF b9)) rfl (Value.bool (decide (t22 < least))) (fun hg w=>by simp only [Bool.and_eq_true, Bool.not_eq_true'] at hg; obtain rfl := hg; kernel_rfl) ?_
   refine vcL_pure rfl rfl (Value.bool (b9 || (decide (t22 < least)))) (fun w=>by cases b9 <;> kernel_rfl) ?_
   obtain ⟨b10, hb10⟩ : ∃ y, y = (b9 || (decide (t22 < least))) := ⟨_, rfl⟩
   have h := h b10 hb10
   refine vcL_pure rfl rfl (Value.bool b10) (fun w=>by rw [hb10]; kernel_rfl) ?_
   refine vcL_guardP (!b10) (wanted_g (d := 42) rfl (by kernel_rfl) b10 (by kernel_rfl) (!b10) (eqF b10)) rfl (Value.int .i64 t22) (fun hg w=>by simp only [Bool.and_eq_true, Bool.not_eq_true'] at hg; obtain rfl := hg; kernel_rfl) ?_
   refine vcL_guardP (!b10) (wanted_g (d := 42) rfl (by kernel_rfl) b10 (by kernel_rfl) (!b10) (eqF b10)) rfl (Value.int .i64 t28) (fun hg w=>by simp only [Bool.and_eq_true, Bool.not_eq_true'] at hg; obtain rfl := hg; kernel_rfl) ?_
   refine vcL_guardP (!b10) (wanted_g (d := 42) rfl (by kernel_rfl) b10 (by kernel_rfl) (!b10) (eqF b10)) rfl (Value.bool (decide (t28 < t22))) (fun hg w=>by simp only [Bool.and_eq_true, Bool.not_eq_true'] at hg; obtain rfl := hg; kernel_rfl) ?_
   refine vcL_pure rfl rfl (Value.bool (b10 || (decide (t28 < t22)))) (fun w=>by cases b10 <;> kernel_rfl) ?_
   refine vcL_nil ?_
   refine Vc.cond (b10 || (decide (t28 < t22))) (by kernel_rfl) (fun hb=>?_) (fun hb=>?_)
   ·have h := h.1 (hb)
    refine Vc.seq ?_
    refine Vc.region ?_
    refine vcL_pure rfl rfl (Value.bool false) (fun w=>by kernel_rfl) ?_
    refine vcL_nil ?_
    refine Vc.ret ?_
    refine outOf_ret ?_
    refine outOf_ret ?_
    refine outs_ret ?_
    refine done_mk (Value.bool false) (res1 (resC_tmp (by kernel_rfl))) ?_
    exact ⟨false, rfl, h⟩
   ·have h := h.2 (hb)
    refine Vc.skip ?_
    refine Vc.region ?_
    refine vcL_purs 3 [(3, (Value.int .i64 (wrapI (t28 + 2)))), (48, (Value.int .i64 (wrapI (t28 + 2)))), (47, (Value.int .i64 t28))] (by kernel_rfl) ?_
    refine vcL_nil ?_
    refine Vc.region ?_
    refine vcL_purs 2 [(15, (Value.int .i64 (wrapI (t15 + 1)))), (49, (Value.int .i64 (wrapI (t15 + 1))))] (by kernel_rfl) ?_
    refine vcL_nil ?_
    exact ⟨((wrapI (t28 + 2)), (wrapI (t15 + 1))), 83, ⟨rfl, by kernel_rfl, by kernel_rfl, by kernel_rfl⟩, h⟩
  ·have h := h.2 (of_decide_eq_false hb)
   refine Vc.exit ?_
   refine outOf_hit ?_
   refine Vc.seq ?_
   refine Vc.region ?_
   refine vcL_pure rfl rfl (Value.bool true) (fun w=>by kernel_rfl) ?_
   refine vcL_nil ?_
   refine Vc.ret ?_
   refine outs_ret ?_
   refine done_mk (Value.bool true) (res1 (resC_tmp (by kernel_rfl))) ?_
   exact ⟨true, rfl, h⟩
theorem span_May.go {l : Sl} {w : World} {k : Value → World → Prop} (h : span_May l w fun r0 w'=>k (Value.bool r0) w') : callS Tryz.prog 91 [(Sl.v l)] w k := (span_May.sound l w _ h).mono (by rintro _ _ ⟨r0, rfl, h⟩; exact h)
def span_numbers (l : Sl) (w : World) (R : Sl → World → Prop) : Prop :=
 loop2 Sl.nil 0 w fun out t12 vw nxt=>((t12 < (l.len : Int) → ∃ (ad : Addr), (l.a = some ad ∧ (0 : Int) ≤ t12 ∧ t12 < (l.len : Int)) ∧ ∃ (zzl : Int) (zzm : Int) (zzn : Int) (zzi : Int) (zzj : Int) (zzk : Int), (ldc vw (ad.add (t12.toNat * 6)) [(Value.int .i64 zzl), (Value.int .i64 zzm), (Value.int .i64 zzn), (Value.int .i64 zzi), (Value.int .i64 zzj), (Value.int .i64 zzk)]) ∧ newS vw [(Value.int .i64 0), (Value.int .i64 0), (Value.int .i64 0), (Value.int .i64 0), (Value.int .i64 0), (Value.int .i64 0)] 83 fun a vw1=>stw vw1 a [(Value.int .i64 zzl), (Value.int .i64 zzm), (Value.int .i64 zzn), (Value.int .i64 zzi), (Value.int .i64 zzj), (Value.int .i64 zzk)] fun vw2=>∃ (zz2p : Int) (zz2q : Int) (zz2r : Int), (ldc vw2 a [(Value.int .i64 zz2p), (Value.int .i64 zz2q), (Value.int .i64 zz2r)]) ∧ callS Tryz.prog 123 [(Value.agg #[(Value.int .i64 zz2p), (Value.int .i64 zz2q), (Value.int .i64 zz2r)])] vw2 fun v vw4=>∃ (t19 : Int) (t19b : Bool), v = (Value.tuple #[(Value.int .i64 t19), (Value.bool t19b)]) ∧ ∃ (zz2z : Int) (zz30 : Int) (zz31 : Int), (ldc vw4 (a.add 3) [(Value.int .i64 zz2z), (Value.int .i64 zz30), (Value.int .i64 zz31)]) ∧ callS Tryz.prog 123 [(Value.agg #[(Value.int .i64 zz2z), (Value.int .i64 zz30), (Value.int .i64 zz31)])] vw4 fun v7 vw6=>∃ (t25 : Int) (t25b : Bool), v7 = (Value.tuple #[(Value.int .i64 t25), (Value.bool t25b)]) ∧ newS vw6 [(Value.int .i64 t19), (Value.int .i64 t25)] 157 fun a9 vw10=>appS Tryz.prog 130 130 out (Sl.v (Sl.mk (some a9) 1 1)) vw10 fun t33 vw11=>nxt t33 (wrapI (t12 + 1)) vw11) ∧ (¬ (t12 < (l.len : Int)) → R out vw))
set_option maxHeartbeats 8000000 in
theorem span_numbers.sound (l : Sl) (w : World) (R : Sl → World → Prop) (h : span_numbers l w R) : callS Tryz.prog 94 [(Sl.v l)] w (fun v w'=>∃ (r0 : Sl), v = (Sl.v r0) ∧ R r0 w') := by
 unfold span_numbers at h
 refine calls_of_vc 36 rfl Tryz.func94 rfl (by kernel_rfl) (by simp) ?_
 refine Vc.seq ?_
 refine Vc.region ?_
 refine vcL_pure rfl rfl (Sl.v Sl.nil) (fun w=>by kernel_rfl) ?_
 refine vcL_nil ?_
 refine Vc.seq ?_
 refine Vc.region ?_
 refine vcL_pure rfl rfl (Sl.v Sl.nil) (fun w=>by kernel_rfl) ?_
 refine vcL_nil ?_
 refine Vc.seq ?_
 refine Vc.seq ?_
 refine Vc.region ?_
 refine vcL_purs 3 [(12, (Value.int .i64 0)), (11, (Value.int .i64 (l.len : Int))), (10, (Sl.v l))] (by kernel_rfl) ?_
 refine vcL_nil ?_
 refine Vc.block ?_
 obtain ⟨vI, mu, h, hr⟩ := h
 refine Vc.loopJ (σ := Sl × Int) [3, 12] [5, 6, 7, 8, 9, 13, 14, 15, 16, 17, 18, 19, 20, 21, 22, 23, 24, 25, 26, 27, 28, 29, 30, 31, 32, 33, 34] (fun s=>[(3, (Sl.v s.1)), (12, (Value.int .i64 s.2))]) (fun s w=>vI s.1 s.2 w) (fun s w=>mu s.1 s.2 w) (Sl.nil, 0) h (fun _ => rfl) (by kernel_rfl) ?_
 rintro ⟨out, t12⟩ vw j h
 have h := hr out t12 vw h
 refine Vc.seq ?_
 refine Vc.region ?_
 refine vcL_pure rfl rfl (Value.bool (decide (t12 < (l.len : Int)))) (fun w=>by kernel_rfl) ?_
 refine vcL_nil ?_
 refine Vc.seq ?_
 refine Vc.cond (decide (t12 < (l.len : Int))) (by kernel_rfl) (fun hb=>?_) (fun hb=>?_)
 ·have h := h.1 (of_decide_eq_true hb)
  refine Vc.skip ?_
  refine Vc.seq ?_
  refine Vc.block ?_
  refine Vc.seq ?_
  refine Vc.region ?_
  obtain ⟨ad, hi, h⟩ := h
  refine vcL_pure rfl rfl (Value.pointer (some (ad.add (t12.toNat * 6)))) (fun w=>by exact exec_indexAt (s := l) (el := 83) rfl (by kernel_rfl) (by kernel_rfl) (by kernel_rfl) (fun w=>by kernel_rfl) (hi).1 (hi).2.1 (hi).2.2 w) ?_
  obtain ⟨zzl, zzm, zzn, zzi, zzj, zzk, hc, h⟩ := h
  refine vcL_val rfl rfl (Value.agg #[(Value.int .i64 zzl), (Value.int .i64 zzm), (Value.int .i64 zzn), (Value.int .i64 zzi), (Value.int .i64 zzj), (Value.int .i64 zzk)]) (exec_load rfl (by kernel_rfl) (run_loadN (fun w=>by kernel_rfl) (fun w=>by kernel_rfl) ((hc)))) ?_
  refine vcL_eff rfl (opVC_new rfl (fun a=>Value.pointer (some a)) (by kernel_rfl) (newS.mono h fun a vw1 hx h=>?_))
  refine vcL_eff rfl (opVC_store rfl rfl (a := a) (by kernel_rfl) (v := (Value.agg #[(Value.int .i64 zzl), (Value.int .i64 zzm), (Value.int .i64 zzn), (Value.int .i64 zzi), (Value.int .i64 zzj), (Value.int .i64 zzk)])) (by kernel_rfl) [(Value.int .i64 zzl), (Value.int .i64 zzm), (Value.int .i64 zzn), (Value.int .i64 zzi), (Value.int .i64 zzj), (Value.int .i64 zzk)] (by kernel_rfl) (fun w=>by kernel_rfl) (by kernel_rfl) (stw.mono h fun vw2 h=>?_))
  refine vcL_nil ?_
  refine Vc.seq ?_
  refine Vc.region ?_
  refine vcL_pure rfl rfl (Value.pointer (some a)) (fun w=>by kernel_rfl) ?_
  obtain ⟨zz2p, zz2q, zz2r, hc3, h⟩ := h
  refine vcL_val rfl rfl (Value.agg #[(Value.int .i64 zz2p), (Value.int .i64 zz2q), (Value.int .i64 zz2r)]) (exec_load rfl (by kernel_rfl) (run_loadN (fun w=>by kernel_rfl) (fun w=>by kernel_rfl) ((hc3)))) ?_
  refine vcL_eff rfl (opVC_call rfl (by kernel_rfl) (callS.mono h fun v vw4 h=>?_))
  obtain ⟨t19, t19b, rfl, h⟩ := h
  refine vcL_purs 5 [(7, (Value.bool t19b)), (6, (Value.int .i64 t19)), (21, (Value.bool t19b)), (20, (Value.int .i64 t19)), (16, (Value.tuple #[(Value.int .i64 t19), (Value.bool t19b)]))] (by kernel_rfl) ?_
  refine vcL_nil ?_
  refine Vc.seq ?_
  refine Vc.region ?_
  refine vcL_pure rfl rfl (Value.pointer (some (a.add 3))) (fun w=>by kernel_rfl) ?_
  obtain ⟨zz2z, zz30, zz31, hc5, h⟩ := h
  refine vcL_val rfl rfl (Value.agg #[(Value.int .i64 zz2z), (Value.int .i64 zz30), (Value.int .i64 zz31)]) (exec_load rfl (by kernel_rfl) (run_loadN (fun w=>by kernel_rfl) (fun w=>by kernel_rfl) ((hc5)))) ?_
  refine vcL_eff rfl (opVC_call rfl (by kernel_rfl) (callS.mono h fun v7 vw6 h=>?_))
  obtain ⟨t25, t25b, rfl, h⟩ := h
  refine vcL_purs 5 [(9, (Value.bool t25b)), (8, (Value.int .i64 t25)), (27, (Value.bool t25b)), (26, (Value.int .i64 t25)), (22, (Value.tuple #[(Value.int .i64 t25), (Value.bool t25b)]))] (by kernel_rfl) ?_
  refine vcL_nil ?_
  refine Vc.region ?_
  refine vcL_purs 4 [(31, (Value.agg #[(Value.int .i64 t19), (Value.int .i64 t25)])), (30, (Value.int .i64 t25)), (29, (Value.int .i64 t19)), (28, (Sl.v out))] (by kernel_rfl) ?_
  refine vcL_eff rfl (opVC_new rfl (fun a=>Value.slice (some a) 1 1) (by kernel_rfl) (newS.mono h fun a9 vw10 hx h=>?_))
  refine vcL_eff rfl (opVC_sem rfl (c := Builtin.append_ #[130, 130] 130 #[(Sl.v out), (Sl.v (Sl.mk (some a9) 1 1))]) (by kernel_rfl) (appS.elim (ty := 130) h fun t33 vw11 h=>?_))
  refine vcL_pure rfl rfl (Sl.v t33) (fun w=>by kernel_rfl) ?_
  refine vcL_nil ?_
  refine Vc.region ?_
  refine vcL_purs 2 [(12, (Value.int .i64 (wrapI (t12 + 1)))), (34, (Value.int .i64 (wrapI (t12 + 1))))] (by kernel_rfl) ?_
  refine vcL_nil ?_
  exact ⟨(t33, (wrapI (t12 + 1))), 58, ⟨rfl, by kernel_rfl, by kernel_rfl, by kernel_rfl⟩, h⟩
 ·have h := h.2 (of_decide_eq_false hb)
  refine Vc.exit ?_
  refine outOf_hit ?_
  refine Vc.seq ?_
  refine Vc.region ?_
  refine vcL_purs 2 [(2, (Sl.v out)), (35, (Sl.v out))] (by kernel_rfl) ?_
  refine vcL_nil ?_
  refine Vc.ret ?_
  refine outs_ret ?_
  refine done_mk (Sl.v out) (res1 (resC_tmp (by kernel_rfl))) ?_
  exact ⟨out, rfl, h⟩
theorem span_numbers.go {l : Sl} {w : World} {k : Value → World → Prop} (h : span_numbers l w fun r0 w'=>k (Sl.v r0) w') : callS Tryz.prog 94 [(Sl.v l)] w k := (span_numbers.sound l w _ h).mono (by rintro _ _ ⟨r0, rfl, h⟩; exact h)
def halyardref03_at (n : Int) (w : World) (R : Int → Int → Int → World → Prop) : Prop :=
 newS w [(Value.int .i64 0), (Value.int .i64 0), (Value.int .i64 0)] 30 fun a vw=>callS Tryz.prog 35 [(Value.int .i64 n)] vw fun v vw1=>∃ (zz1s : Int) (zz1t : Int) (zz1u : Int) (t7b : Bool), v = (Value.tuple #[(Value.agg #[(Value.int .i64 zz1s), (Value.int .i64 zz1t), (Value.int .i64 zz1u)]), (Value.bool t7b)]) ∧ newS vw1 [(Value.int .i64 0), (Value.int .i64 0), (Value.int .i64 0)] 30 fun a2 vw3=>stw vw3 a2 [(Value.int .i64 zz1s), (Value.int .i64 zz1t), (Value.int .i64 zz1u)] fun vw4=>∃ (zzs : Int) (zzt : Int) (zzu : Int), (ldc vw4 a2 [(Value.int .i64 zzs), (Value.int .i64 zzt), (Value.int .i64 zzu)]) ∧ stw vw4 a [(Value.int .i64 zzs), (Value.int .i64 zzt), (Value.int .i64 zzu)] fun vw5=>∃ (zz2d : Int) (zz2e : Int) (zz2h : Int), ldc vw5 a [(Value.int .i64 zz2d), (Value.int .i64 zz2e), (Value.int .i64 zz2h)] ∧ R zz2d zz2e zz2h vw5
set_option maxHeartbeats 8000000 in
theorem halyardref03_at.sound (n : Int) (w : World) (R : Int → Int → Int → World → Prop) (h : halyardref03_at n w R) : callS Tryz.prog 96 [(Value.int .i64 n)] w (fun v w'=>∃ (r0 : Int) (r1 : Int) (r2 : Int), v = (Value.agg #[(Value.int .i64 r0), (Value.int .i64 r1), (Value.int .i64 r2)]) ∧ R r0 r1 r2 w') := by
 unfold halyardref03_at at h
 refine calls_of_vc 11 rfl Tryz.func96 rfl (by kernel_rfl) (by simp) ?_
 refine Vc.seq ?_
 refine Vc.region ?_
 refine vcL_eff rfl (opVC_new rfl (fun a=>Value.pointer (some a)) (by kernel_rfl) (newS.mono h fun a vw hx h=>?_))
 refine vcL_nil ?_
 refine Vc.seq ?_
 refine Vc.region ?_
 refine vcL_pure rfl rfl (Value.int .i64 n) (fun w=>by kernel_rfl) ?_
 refine vcL_eff rfl (opVC_call rfl (by kernel_rfl) (callS.mono h fun v vw1 h=>?_))
 obtain ⟨zz1s, zz1t, zz1u, t7b, rfl, h⟩ := h
 refine vcL_purs 3 [(9, (Value.bool t7b)), (8, (Value.agg #[(Value.int .i64 zz1s), (Value.int .i64 zz1t), (Value.int .i64 zz1u)])), (5, (Value.tuple #[(Value.agg #[(Value.int .i64 zz1s), (Value.int .i64 zz1t), (Value.int .i64 zz1u)]), (Value.bool t7b)]))] (by kernel_rfl) ?_
 refine vcL_eff rfl (opVC_new rfl (fun a=>Value.pointer (some a)) (by kernel_rfl) (newS.mono h fun a2 vw3 hx h=>?_))
 refine vcL_eff rfl (opVC_store rfl rfl (a := a2) (by kernel_rfl) (v := (Value.agg #[(Value.int .i64 zz1s), (Value.int .i64 zz1t), (Value.int .i64 zz1u)])) (by kernel_rfl) [(Value.int .i64 zz1s), (Value.int .i64 zz1t), (Value.int .i64 zz1u)] (by kernel_rfl) (fun w=>by kernel_rfl) (by kernel_rfl) (stw.mono h fun vw4 h=>?_))
 refine vcL_pure rfl rfl (Value.bool t7b) (fun w=>by kernel_rfl) ?_
 refine vcL_nil ?_
 refine Vc.seq ?_
 refine Vc.region ?_
 obtain ⟨zzs, zzt, zzu, hc, h⟩ := h
 refine vcL_val rfl rfl (Value.agg #[(Value.int .i64 zzs), (Value.int .i64 zzt), (Value.int .i64 zzu)]) (exec_load rfl (by kernel_rfl) (run_loadN (fun w=>by kernel_rfl) (fun w=>by kernel_rfl) ((hc)))) ?_
 refine vcL_eff rfl (opVC_store rfl rfl (a := a) (by kernel_rfl) (v := (Value.agg #[(Value.int .i64 zzs), (Value.int .i64 zzt), (Value.int .i64 zzu)])) (by kernel_rfl) [(Value.int .i64 zzs), (Value.int .i64 zzt), (Value.int .i64 zzu)] (by kernel_rfl) (fun w=>by kernel_rfl) (by kernel_rfl) (stw.mono h fun vw5 h=>?_))
 refine vcL_nil ?_
 refine Vc.ret ?_
 refine outs_ret ?_
 obtain ⟨zz2d, zz2e, zz2h, hc6, h⟩ := h
 refine done_mk (Value.agg #[(Value.int .i64 zz2d), (Value.int .i64 zz2e), (Value.int .i64 zz2h)]) (res1 (resC_cell (by kernel_rfl) (run_loadN (fun w=>by kernel_rfl) (fun w=>by kernel_rfl) hc6))) ?_
 exact ⟨zz2d, zz2e, zz2h, rfl, h⟩
theorem halyardref03_at.go {n : Int} {w : World} {k : Value → World → Prop} (h : halyardref03_at n w fun r0 r1 r2 w'=>k (Value.agg #[(Value.int .i64 r0), (Value.int .i64 r1), (Value.int .i64 r2)]) w') : callS Tryz.prog 96 [(Value.int .i64 n)] w k := (halyardref03_at.sound n w _ h).mono (by rintro _ _ ⟨r0, r1, r2, rfl, h⟩; exact h)
def vers_May (zz0 : Int) (zz1 : Int) (zz2 : Int) (w : World) (R : Bool → World → Prop) : Prop :=
 newS w [(Value.int .i64 zz0), (Value.int .i64 zz1), (Value.int .i64 zz2)] 30 fun a vw=>∃ (t6 : Int), (ldc vw a [(Value.int .i64 t6)]) ∧ ∃ (t8 : Int), (ldc vw (a.add 1) [(Value.int .i64 t8)]) ∧ ∃ (t10 : Int), (ldc vw (a.add 2) [(Value.int .i64 t10)]) ∧ loop1 0 vw fun t12 vw3 nxt=>((t12 < 3 → ((0 : Int) ≤ t12 ∧ t12 < 3) ∧ bnd (decide ((List.getD [t6, t8, t10] t12.toNat 0) < 0)) fun (b : Bool)=>(((b || (decide (999 < (List.getD [t6, t8, t10] t12.toNat 0)))) = true → R false vw3) ∧ ((b || (decide (999 < (List.getD [t6, t8, t10] t12.toNat 0)))) = false → nxt (wrapI (t12 + 1)) vw3))) ∧ (¬ (t12 < 3) → R true vw3))
set_option maxHeartbeats 8000000 in
theorem vers_May.sound (zz0 : Int) (zz1 : Int) (zz2 : Int) (w : World) (R : Bool → World → Prop) (h : vers_May zz0 zz1 zz2 w R) : callS Tryz.prog 97 [(Value.agg #[(Value.int .i64 zz0), (Value.int .i64 zz1), (Value.int .i64 zz2)])] w (fun v w'=>∃ (r0 : Bool), v = (Value.bool r0) ∧ R r0 w') := by
 unfold vers_May at h
 refine calls_of_vc 22 rfl Tryz.func97 rfl (by kernel_rfl) (by simp) ?_
 refine Vc.seq ?_
 refine Vc.region ?_
 refine vcL_eff rfl (opVC_new rfl (fun a=>Value.pointer (some a)) (by kernel_rfl) (newS.mono h fun a vw hx h=>?_))
 refine vcL_pure rfl rfl (Value.bool false) (fun w=>by kernel_rfl) ?_
 refine vcL_nil ?_
 refine Vc.seq ?_
 refine Vc.seq ?_
 refine Vc.region ?_
 refine vcL_pure rfl rfl (Value.pointer (some a)) (fun w=>by kernel_rfl) ?_
 obtain ⟨t6, hc, h⟩ := h
 refine vcL_val rfl rfl (Value.int .i64 t6) (exec_load rfl (by kernel_rfl) (run_load1 (fun w=>by kernel_rfl) ((hc)))) ?_
 refine vcL_pure rfl rfl (Value.pointer (some (a.add 1))) (fun w=>by kernel_rfl) ?_
 obtain ⟨t8, hc1, h⟩ := h
 refine vcL_val rfl rfl (Value.int .i64 t8) (exec_load rfl (by kernel_rfl) (run_load1 (fun w=>by kernel_rfl) ((hc1)))) ?_
 refine vcL_pure rfl rfl (Value.pointer (some (a.add 2))) (fun w=>by kernel_rfl) ?_
 obtain ⟨t10, hc2, h⟩ := h
 refine vcL_val rfl rfl (Value.int .i64 t10) (exec_load rfl (by kernel_rfl) (run_load1 (fun w=>by kernel_rfl) ((hc2)))) ?_
 refine vcL_purs 2 [(12, (Value.int .i64 0)), (11, (Value.agg #[(Value.int .i64 t6), (Value.int .i64 t8), (Value.int .i64 t10)]))] (by kernel_rfl) ?_
 refine vcL_nil ?_
 refine Vc.block ?_
 obtain ⟨vI, mu, h, hr⟩ := h
 refine Vc.loopJ (σ := Int) [12] [2, 4, 13, 14, 15, 16, 17, 18, 19, 20, 21] (fun s=>[(12, (Value.int .i64 s))]) (fun s w=>vI s w) (fun s w=>mu s w) 0 h (fun _ => rfl) (by kernel_rfl) ?_
 intro t12 vw3 j h
 have h := hr t12 vw3 h
 refine Vc.seq ?_
 refine Vc.region ?_
 refine vcL_pure rfl rfl (Value.bool (decide (t12 < 3))) (fun w=>by kernel_rfl) ?_
 refine vcL_nil ?_
 refine Vc.seq ?_
 refine Vc.cond (decide (t12 < 3)) (by kernel_rfl) (fun hb=>?_) (fun hb=>?_)
 ·have h := h.1 (of_decide_eq_true hb)
  refine Vc.skip ?_
  refine Vc.seq ?_
  refine Vc.block ?_
  refine Vc.seq ?_
  refine Vc.region ?_
  obtain ⟨hi, h⟩ := h
  refine vcL_pure rfl rfl (Value.int .i64 (List.getD [t6, t8, t10] t12.toNat 0)) (fun w=>by exact exec_indexArr (xs := [t6, t8, t10]) (el := 3) rfl (by kernel_rfl) (by kernel_rfl) (by kernel_rfl) (fun w=>by kernel_rfl) (fun w=>by kernel_rfl) rfl (hi).1 (hi).2 w) ?_
  refine vcL_pure rfl rfl (Value.int .i64 (List.getD [t6, t8, t10] t12.toNat 0)) (fun w=>by kernel_rfl) ?_
  refine vcL_nil ?_
  refine Vc.seq ?_
  refine Vc.region ?_
  refine vcL_purs 2 [(16, (Value.bool (decide ((List.getD [t6, t8, t10] t12.toNat 0) < 0)))), (15, (Value.int .i64 (List.getD [t6, t8, t10] t12.toNat 0)))] (by kernel_rfl) ?_
  obtain ⟨b, hb⟩ : ∃ y, y = (decide ((List.getD [t6, t8, t10] t12.toNat 0) < 0)) := ⟨_, rfl⟩
  have h := h b hb
  refine vcL_pure rfl rfl (Value.bool b) (fun w=>by rw [hb]; kernel_rfl) ?_
  refine vcL_guardP (!b) (wanted_g (d := 17) rfl (by kernel_rfl) b (by kernel_rfl) (!b) (eqF b)) rfl (Value.int .i64 (List.getD [t6, t8, t10] t12.toNat 0)) (fun hg w=>by simp only [Bool.and_eq_true, Bool.not_eq_true'] at hg; obtain rfl := hg; kernel_rfl) ?_
  refine vcL_guardP (!b) (wanted_g (d := 17) rfl (by kernel_rfl) b (by kernel_rfl) (!b) (eqF b)) rfl (Value.bool (decide (999 < (List.getD [t6, t8, t10] t12.toNat 0)))) (fun hg w=>by simp only [Bool.and_eq_true, Bool.not_eq_true'] at hg; obtain rfl := hg; kernel_rfl) ?_
  refine vcL_pure rfl rfl (Value.bool (b || (decide (999 < (List.getD [t6, t8, t10] t12.toNat 0))))) (fun w=>by cases b <;> kernel_rfl) ?_
  refine vcL_nil ?_
  refine Vc.cond (b || (decide (999 < (List.getD [t6, t8, t10] t12.toNat 0)))) (by kernel_rfl) (fun hb=>?_) (fun hb=>?_)
  ·have h := h.1 (hb)
   refine Vc.seq ?_
   refine Vc.region ?_
   refine vcL_pure rfl rfl (Value.bool false) (fun w=>by kernel_rfl) ?_
   refine vcL_nil ?_
   refine Vc.ret ?_
   refine outOf_ret ?_
   refine outOf_ret ?_
   refine outs_ret ?_
   refine done_mk (Value.bool false) (res1 (resC_tmp (by kernel_rfl))) ?_
   exact ⟨false, rfl, h⟩
  ·have h := h.2 (hb)
   refine Vc.skip ?_
   refine Vc.region ?_
   refine vcL_purs 2 [(12, (Value.int .i64 (wrapI (t12 + 1)))), (21, (Value.int .i64 (wrapI (t12 + 1))))] (by kernel_rfl) ?_
   refine vcL_nil ?_
   exact ⟨(wrapI (t12 + 1)), 23, ⟨rfl, by kernel_rfl, by kernel_rfl, by kernel_rfl⟩, h⟩
 ·have h := h.2 (of_decide_eq_false hb)
  refine Vc.exit ?_
  refine outOf_hit ?_
  refine Vc.seq ?_
  refine Vc.region ?_
  refine vcL_pure rfl rfl (Value.bool true) (fun w=>by kernel_rfl) ?_
  refine vcL_nil ?_
  refine Vc.ret ?_
  refine outs_ret ?_
  refine done_mk (Value.bool true) (res1 (resC_tmp (by kernel_rfl))) ?_
  exact ⟨true, rfl, h⟩
theorem vers_May.go {zz0 : Int} {zz1 : Int} {zz2 : Int} {w : World} {k : Value → World → Prop} (h : vers_May zz0 zz1 zz2 w fun r0 w'=>k (Value.bool r0) w') : callS Tryz.prog 97 [(Value.agg #[(Value.int .i64 zz0), (Value.int .i64 zz1), (Value.int .i64 zz2)])] w k := (vers_May.sound zz0 zz1 zz2 w _ h).mono (by rintro _ _ ⟨r0, rfl, h⟩; exact h)
def slices_ContainsFunc_apiSpanapiSpan (vs : Sl) (f : Value) (w : World) (R : Bool → World → Prop) : Prop :=
 callS Tryz.prog 128 [(Sl.v vs), f] w fun v vw=>∃ (t7 : Int), v = (Value.int .i64 t7) ∧ R (decide (0 ≤ t7)) vw
set_option maxHeartbeats 8000000 in
theorem slices_ContainsFunc_apiSpanapiSpan.sound (vs : Sl) (f : Value) (w : World) (R : Bool → World → Prop) (h : slices_ContainsFunc_apiSpanapiSpan vs f w R) : callS Tryz.prog 98 [(Sl.v vs), f] w (fun v w'=>∃ (r0 : Bool), v = (Value.bool r0) ∧ R r0 w') := by
 unfold slices_ContainsFunc_apiSpanapiSpan at h
 refine calls_of_vc 9 rfl Tryz.func98 rfl (by kernel_rfl) (by simp) ?_
 refine Vc.seq ?_
 refine Vc.region ?_
 refine vcL_pure rfl rfl (Value.bool false) (fun w=>by kernel_rfl) ?_
 refine vcL_nil ?_
 refine Vc.seq ?_
 refine Vc.region ?_
 refine vcL_purs 2 [(6, f), (5, (Sl.v vs))] (by kernel_rfl) ?_
 refine vcL_eff rfl (opVC_call rfl (by kernel_rfl) (callS.mono h fun v vw h=>?_))
 obtain ⟨t7, rfl, h⟩ := h
 refine vcL_purs 2 [(4, (Value.bool (decide (0 ≤ t7)))), (8, (Value.bool (decide (0 ≤ t7))))] (by kernel_rfl) ?_
 refine vcL_nil ?_
 refine Vc.ret ?_
 refine outs_ret ?_
 refine done_mk (Value.bool (decide (0 ≤ t7))) (res1 (resC_tmp (by kernel_rfl))) ?_
 exact ⟨(decide (0 ≤ t7)), rfl, h⟩
theorem slices_ContainsFunc_apiSpanapiSpan.go {vs : Sl} {f : Value} {w : World} {k : Value → World → Prop} (h : slices_ContainsFunc_apiSpanapiSpan vs f w fun r0 w'=>k (Value.bool r0) w') : callS Tryz.prog 98 [(Sl.v vs), f] w k := (slices_ContainsFunc_apiSpanapiSpan.sound vs f w _ h).mono (by rintro _ _ ⟨r0, rfl, h⟩; exact h)
def span_In_1 (zz1p : Int) (zz1q : Int) (zz1r : Int) (zz1m : Int) (zz1n : Int) (zz1o : Int) (c0 : Addr) (w : World) (R : Bool → World → Prop) : Prop :=
 newS w [(Value.int .i64 zz1p), (Value.int .i64 zz1q), (Value.int .i64 zz1r), (Value.int .i64 zz1m), (Value.int .i64 zz1n), (Value.int .i64 zz1o)] 83 fun a vw=>∃ (zz3s : Int) (zz3t : Int) (zz3u : Int), (ldc vw a [(Value.int .i64 zz3s), (Value.int .i64 zz3t), (Value.int .i64 zz3u)]) ∧ ∃ (zz3v : Int) (zz3w : Int) (zz3x : Int), (ldc vw c0 [(Value.int .i64 zz3v), (Value.int .i64 zz3w), (Value.int .i64 zz3x)]) ∧ callS Tryz.prog 100 [(Value.agg #[(Value.int .i64 zz3s), (Value.int .i64 zz3t), (Value.int .i64 zz3u)]), (Value.agg #[(Value.int .i64 zz3v), (Value.int .i64 zz3w), (Value.int .i64 zz3x)])] vw fun v vw2=>∃ (t7 : Int), v = (Value.int .i64 t7) ∧ bnd (decide (t7 ≤ 0)) fun (b : Bool)=>∃ (zzs : Int) (zzt : Int) (zzu : Int), grd b (ldc vw2 c0 [(Value.int .i64 zzs), (Value.int .i64 zzt), (Value.int .i64 zzu)]) ∧ ∃ (zz2m : Int) (zz2n : Int) (zz2o : Int), grd b (ldc vw2 (a.add 3) [(Value.int .i64 zz2m), (Value.int .i64 zz2n), (Value.int .i64 zz2o)]) ∧ gCall b (fun (t13 : Int) (vw5 : World)=>R (b && (decide (t13 ≤ 0))) vw5) (fun q=>callS Tryz.prog 100 [(Value.agg #[(Value.int .i64 zzs), (Value.int .i64 zzt), (Value.int .i64 zzu)]), (Value.agg #[(Value.int .i64 zz2m), (Value.int .i64 zz2n), (Value.int .i64 zz2o)])] vw2 fun v6 vw5=>∃ (t13 : Int), v6 = (Value.int .i64 t13) ∧ q t13 vw5) (fun q=>q 0 vw2)
set_option maxHeartbeats 8000000 in
theorem span_In_1.sound (zz1p : Int) (zz1q : Int) (zz1r : Int) (zz1m : Int) (zz1n : Int) (zz1o : Int) (c0 : Addr) (w : World) (R : Bool → World → Prop) (h : span_In_1 zz1p zz1q zz1r zz1m zz1n zz1o c0 w R) : callS Tryz.prog 99 [(Value.agg #[(Value.int .i64 zz1p), (Value.int .i64 zz1q), (Value.int .i64 zz1r), (Value.int .i64 zz1m), (Value.int .i64 zz1n), (Value.int .i64 zz1o)]), (Value.pointer (some c0))] w (fun v w'=>∃ (r0 : Bool), v = (Value.bool r0) ∧ R r0 w') := by
 unfold span_In_1 at h
 refine calls_of_vc 16 rfl Tryz.func99 rfl (by kernel_rfl) (by simp) ?_
 refine Vc.seq ?_
 refine Vc.region ?_
 refine vcL_eff rfl (opVC_new rfl (fun a=>Value.pointer (some a)) (by kernel_rfl) (newS.mono h fun a vw hx h=>?_))
 refine vcL_pure rfl rfl (Value.bool false) (fun w=>by kernel_rfl) ?_
 refine vcL_nil ?_
 refine Vc.seq ?_
 refine Vc.region ?_
 refine vcL_pure rfl rfl (Value.pointer (some a)) (fun w=>by kernel_rfl) ?_
 obtain ⟨zz3s, zz3t, zz3u, hc, h⟩ := h
 refine vcL_val rfl rfl (Value.agg #[(Value.int .i64 zz3s), (Value.int .i64 zz3t), (Value.int .i64 zz3u)]) (exec_load rfl (by kernel_rfl) (run_loadN (fun w=>by kernel_rfl) (fun w=>by kernel_rfl) ((hc)))) ?_
 obtain ⟨zz3v, zz3w, zz3x, hc1, h⟩ := h
 refine vcL_val rfl rfl (Value.agg #[(Value.int .i64 zz3v), (Value.int .i64 zz3w), (Value.int .i64 zz3x)]) (exec_load rfl (by kernel_rfl) (run_loadN (fun w=>by kernel_rfl) (fun w=>by kernel_rfl) ((hc1)))) ?_
 refine vcL_eff rfl (opVC_call rfl (by kernel_rfl) (callS.mono h fun v vw2 h=>?_))
 obtain ⟨t7, rfl, h⟩ := h
 refine vcL_pure rfl rfl (Value.bool (decide (t7 ≤ 0))) (fun w=>by kernel_rfl) ?_
 obtain ⟨b, hb⟩ : ∃ y, y = (decide (t7 ≤ 0)) := ⟨_, rfl⟩
 have h := h b hb
 refine vcL_pure rfl rfl (Value.bool b) (fun w=>by rw [hb]; kernel_rfl) ?_
 obtain ⟨zzs, zzt, zzu, hc3, h⟩ := h
 refine vcL_guard b (wanted_g (d := 9) rfl (by kernel_rfl) b (by kernel_rfl) b (eqT b)) rfl (Value.agg #[(Value.int .i64 zzs), (Value.int .i64 zzt), (Value.int .i64 zzu)]) (fun hg=>by subst hg; exact exec_load rfl (by kernel_rfl) (run_loadN (fun w=>by kernel_rfl) (fun w=>by kernel_rfl) ((hc3 rfl)))) ?_
 refine vcL_guardP b (wanted_g (d := 9) rfl (by kernel_rfl) b (by kernel_rfl) b (eqT b)) rfl (Value.pointer (some (a.add 3))) (fun hg w=>by subst hg; kernel_rfl) ?_
 obtain ⟨zz2m, zz2n, zz2o, hc4, h⟩ := h
 refine vcL_guard b (wanted_g (d := 9) rfl (by kernel_rfl) b (by kernel_rfl) b (eqT b)) rfl (Value.agg #[(Value.int .i64 zz2m), (Value.int .i64 zz2n), (Value.int .i64 zz2o)]) (fun hg=>by subst hg; exact exec_load rfl (by kernel_rfl) (run_loadN (fun w=>by kernel_rfl) (fun w=>by kernel_rfl) ((hc4 rfl)))) ?_
 obtain ⟨vJ, hJ, h⟩ := gCall_elim h
 refine vcL_effJ (σ := Int) b (wanted_g (d := 9) rfl (by kernel_rfl) b (by kernel_rfl) b (eqT b)) rfl (fun s w=>vJ s w) (fun s=>(Value.int .i64 s)) ?_ (fun hg=>opVC_call rfl (by subst hg; kernel_rfl) (callS.mono (h.1 hg) fun v6 vw5 hq=>?_)) (fun hg=>⟨0, h.2 hg⟩)
 ·intro t13 vw5 h
  subst hJ
  refine vcL_guardP b (wanted_g (d := 9) rfl (by kernel_rfl) b (by kernel_rfl) b (eqT b)) rfl (Value.bool (decide (t13 ≤ 0))) (fun hg w=>by subst hg; kernel_rfl) ?_
  refine vcL_pure rfl rfl (Value.bool (b && (decide (t13 ≤ 0)))) (fun w=>by cases b <;> kernel_rfl) ?_
  refine vcL_pure rfl rfl (Value.bool (b && (decide (t13 ≤ 0)))) (fun w=>by kernel_rfl) ?_
  refine vcL_nil ?_
  refine Vc.ret ?_
  refine outs_ret ?_
  refine done_mk (Value.bool (b && (decide (t13 ≤ 0)))) (res1 (resC_tmp (by kernel_rfl))) ?_
  exact ⟨(b && (decide (t13 ≤ 0))), rfl, h⟩
 ·obtain ⟨t13, rfl, hq⟩ := hq
  exact ⟨t13, rfl, hq⟩
theorem span_In_1.go {zz1p : Int} {zz1q : Int} {zz1r : Int} {zz1m : Int} {zz1n : Int} {zz1o : Int} {c0 : Addr} {w : World} {k : Value → World → Prop} (h : span_In_1 zz1p zz1q zz1r zz1m zz1n zz1o c0 w fun r0 w'=>k (Value.bool r0) w') : callS Tryz.prog 99 [(Value.agg #[(Value.int .i64 zz1p), (Value.int .i64 zz1q), (Value.int .i64 zz1r), (Value.int .i64 zz1m), (Value.int .i64 zz1n), (Value.int .i64 zz1o)]), (Value.pointer (some c0))] w k := (span_In_1.sound zz1p zz1q zz1r zz1m zz1n zz1o c0 w _ h).mono (by rintro _ _ ⟨r0, rfl, h⟩; exact h)
def vers_Compare (zz14 : Int) (zz15 : Int) (zz16 : Int) (zz1c : Int) (zz1d : Int) (zz1e : Int) (w : World) (R : Int → World → Prop) : Prop :=
 newS w [(Value.int .i64 zz14), (Value.int .i64 zz15), (Value.int .i64 zz16)] 30 fun a vw=>newS vw [(Value.int .i64 zz1c), (Value.int .i64 zz1d), (Value.int .i64 zz1e)] 30 fun a1 vw2=>bnd vw2.drew fun (vw3 : World)=>∃ (t6 : Int), (ldc vw3 a [(Value.int .i64 t6)]) ∧ ∃ (t8 : Int), (ldc vw3 a1 [(Value.int .i64 t8)]) ∧ ∃ (t11 : Int), (ldc vw3 (a.add 1) [(Value.int .i64 t11)]) ∧ ∃ (t13 : Int), (ldc vw3 (a1.add 1) [(Value.int .i64 t13)]) ∧ ∃ (t16 : Int), (ldc vw3 (a.add 2) [(Value.int .i64 t16)]) ∧ ∃ (t18 : Int), (ldc vw3 (a1.add 2) [(Value.int .i64 t18)]) ∧ callX Tryz.prog 129 [(Value.int .i64 t6), (Value.int .i64 t8)] vw3 fun v vw9=>∃ (t9 : Int), v = (Value.int .i64 t9) ∧ callX Tryz.prog 129 [(Value.int .i64 t11), (Value.int .i64 t13)] vw9 fun v11 vw10=>∃ (t14 : Int), v11 = (Value.int .i64 t14) ∧ callS Tryz.prog 129 [(Value.int .i64 t16), (Value.int .i64 t18)] vw10 fun v14 vw13=>∃ (t19 : Int), v14 = (Value.int .i64 t19) ∧ newS vw13 [(Value.int .i64 t9), (Value.int .i64 t14), (Value.int .i64 t19)] 3 fun a16 vw17=>callS Tryz.prog 76 [(Sl.v (Sl.mk (some a16) 3 3))] vw17 fun v19 vw18=>∃ (t21 : Int), v19 = (Value.int .i64 t21) ∧ R t21 vw18
set_option maxHeartbeats 8000000 in
theorem vers_Compare.sound (zz14 : Int) (zz15 : Int) (zz16 : Int) (zz1c : Int) (zz1d : Int) (zz1e : Int) (w : World) (R : Int → World → Prop) (h : vers_Compare zz14 zz15 zz16 zz1c zz1d zz1e w R) : callS Tryz.prog 100 [(Value.agg #[(Value.int .i64 zz14), (Value.int .i64 zz15), (Value.int .i64 zz16)]), (Value.agg #[(Value.int .i64 zz1c), (Value.int .i64 zz1d), (Value.int .i64 zz1e)])] w (fun v w'=>∃ (r0 : Int), v = (Value.int .i64 r0) ∧ R r0 w') := by
 unfold vers_Compare at h
 refine calls_of_vc 22 rfl Tryz.func100 rfl (by kernel_rfl) (by simp) ?_
 refine Vc.seq ?_
 refine Vc.region ?_
 refine vcL_eff rfl (opVC_new rfl (fun a=>Value.pointer (some a)) (by kernel_rfl) (newS.mono h fun a vw hx h=>?_))
 refine vcL_eff rfl (opVC_new rfl (fun a=>Value.pointer (some a)) (by kernel_rfl) (newS.mono h fun a1 vw2 hx h=>?_))
 refine vcL_pure rfl rfl (Value.int .i64 0) (fun w=>by kernel_rfl) ?_
 refine vcL_nil ?_
 refine Vc.seq ?_
 obtain ⟨vw3, hvw3⟩ : ∃ y, y = vw2.drew := ⟨_, rfl⟩
 have h := h vw3 hvw3
 refine Vc.draw (by kernel_rfl) (fun i=>!(memN [14, 15, 16] i)) (.pur 0 (.val 1 (.pur 2 (.val 3 (.pur 5 (.val 6 (.pur 7 (.val 8 (.pur 10 (.val 11 (.pur 12 (.val 13 (.eff 4 (.eff 9 (.eff 14 (.eff 15 (.eff 16 (.pur 17 .fin) .stop) .stop) .stop) .stop) .stop))))))))))))) (by kernel_rfl) ?_
 rw [← hvw3]
 clear hvw3
 refine vcS_pure rfl rfl rfl (Value.pointer (some a)) (fun w=>by kernel_rfl) ?_
 obtain ⟨t6, hc, h⟩ := h
 refine vcS_val rfl rfl rfl (Value.int .i64 t6) (fun w' hx=>exec_load rfl (by kernel_rfl) (run_load1 (fun w=>by kernel_rfl) ((hc).ext hx))) ?_
 refine vcS_pure rfl rfl rfl (Value.pointer (some a1)) (fun w=>by kernel_rfl) ?_
 obtain ⟨t8, hc4, h⟩ := h
 refine vcS_val rfl rfl rfl (Value.int .i64 t8) (fun w' hx=>exec_load rfl (by kernel_rfl) (run_load1 (fun w=>by kernel_rfl) ((hc4).ext hx))) ?_
 refine vcS_pure rfl rfl rfl (Value.pointer (some (a.add 1))) (fun w=>by kernel_rfl) ?_
 obtain ⟨t11, hc5, h⟩ := h
 refine vcS_val rfl rfl rfl (Value.int .i64 t11) (fun w' hx=>exec_load rfl (by kernel_rfl) (run_load1 (fun w=>by kernel_rfl) ((hc5).ext hx))) ?_
 refine vcS_pure rfl rfl rfl (Value.pointer (some (a1.add 1))) (fun w=>by kernel_rfl) ?_
 obtain ⟨t13, hc6, h⟩ := h
 refine vcS_val rfl rfl rfl (Value.int .i64 t13) (fun w' hx=>exec_load rfl (by kernel_rfl) (run_load1 (fun w=>by kernel_rfl) ((hc6).ext hx))) ?_
 refine vcS_pure rfl rfl rfl (Value.pointer (some (a.add 2))) (fun w=>by kernel_rfl) ?_
 obtain ⟨t16, hc7, h⟩ := h
 refine vcS_val rfl rfl rfl (Value.int .i64 t16) (fun w' hx=>exec_load rfl (by kernel_rfl) (run_load1 (fun w=>by kernel_rfl) ((hc7).ext hx))) ?_
 refine vcS_pure rfl rfl rfl (Value.pointer (some (a1.add 2))) (fun w=>by kernel_rfl) ?_
 obtain ⟨t18, hc8, h⟩ := h
 refine vcS_val rfl rfl rfl (Value.int .i64 t18) (fun w' hx=>exec_load rfl (by kernel_rfl) (run_load1 (fun w=>by kernel_rfl) ((hc8).ext hx))) ?_
 refine vcS_eff rfl rfl (opVC_call rfl (by kernel_rfl) (callS.mono h fun v vw9 h=>?_)) vcS_stop
 obtain ⟨hx, h⟩ := h
 obtain ⟨t9, rfl, h⟩ := h
 refine ⟨fun _ => hx, ?_⟩
 refine vcS_eff rfl rfl (opVC_call rfl (by kernel_rfl) (callS.mono h fun v11 vw10 h=>?_)) vcS_stop
 obtain ⟨hx12, h⟩ := h
 obtain ⟨t14, rfl, h⟩ := h
 refine ⟨fun _ => hx12, ?_⟩
 refine vcS_eff rfl rfl (opVC_call rfl (by kernel_rfl) (callS.mono h fun v14 vw13 h=>?_)) vcS_stop
 obtain ⟨t19, rfl, h⟩ := h
 refine ⟨fun hb=>absurd hb (by decide), ?_⟩
 refine vcS_eff rfl rfl (opVC_new rfl (fun a=>Value.slice (some a) 3 3) (by kernel_rfl) (newS.mono h fun a16 vw17 hx h=>?_)) vcS_stop
 refine ⟨fun hb=>absurd hb (by decide), ?_⟩
 refine vcS_eff rfl rfl (opVC_call rfl (by kernel_rfl) (callS.mono h fun v19 vw18 h=>?_)) vcS_stop
 obtain ⟨t21, rfl, h⟩ := h
 refine ⟨fun hb=>absurd hb (by decide), ?_⟩
 refine vcS_pure rfl rfl rfl (Value.int .i64 t21) (fun w=>by kernel_rfl) ?_
 refine vcS_fin ?_
 refine Vc.ret ?_
 refine outs_ret ?_
 refine done_mk (Value.int .i64 t21) (res1 (resC_tmp (by kernel_rfl))) ?_
 exact ⟨t21, rfl, h⟩
theorem vers_Compare.go {zz14 : Int} {zz15 : Int} {zz16 : Int} {zz1c : Int} {zz1d : Int} {zz1e : Int} {w : World} {k : Value → World → Prop} (h : vers_Compare zz14 zz15 zz16 zz1c zz1d zz1e w fun r0 w'=>k (Value.int .i64 r0) w') : callS Tryz.prog 100 [(Value.agg #[(Value.int .i64 zz14), (Value.int .i64 zz15), (Value.int .i64 zz16)]), (Value.agg #[(Value.int .i64 zz1c), (Value.int .i64 zz1d), (Value.int .i64 zz1e)])] w k := (vers_Compare.sound zz14 zz15 zz16 zz1c zz1d zz1e w _ h).mono (by rintro _ _ ⟨r0, rfl, h⟩; exact h)
def scan_Name (vs : ByteArray) (w : World) (R : Bool → World → Prop) : Prop :=
 callS Tryz.prog 141 [(Value.string vs), (Value.string (ByteArray.mk #[97, 98, 99, 100, 101, 102, 103, 104, 105, 106, 107, 108, 109, 110, 111, 112, 113, 114, 115, 116, 117, 118, 119, 120, 121, 122]))] w fun v vw=>∃ (t5 : ByteArray), v = (Value.string t5) ∧ bnd (!bEq vs (ByteArray.mk #[])) fun (b : Bool)=>bnd (b && (decide ((vs.size : Int) ≤ 16))) fun (b1 : Bool)=>bnd (b1 && (!bEq t5 vs)) fun (b2 : Bool)=>gCall b2 (fun (t20 : ByteArray) (vw3 : World)=>R (b2 && (bEq t20 (ByteArray.mk #[]))) vw3) (fun q=>callS Tryz.prog 142 [(Value.string t5), (Value.string (ByteArray.mk #[97, 98, 99, 100, 101, 102, 103, 104, 105, 106, 107, 108, 109, 110, 111, 112, 113, 114, 115, 116, 117, 118, 119, 120, 121, 122, 48, 49, 50, 51, 52, 53, 54, 55, 56, 57, 45]))] vw fun v4 vw3=>∃ (t20 : ByteArray), v4 = (Value.string t20) ∧ q t20 vw3) (fun q=>q (ByteArray.mk #[]) vw)
set_option maxHeartbeats 8000000 in
theorem scan_Name.sound (vs : ByteArray) (w : World) (R : Bool → World → Prop) (h : scan_Name vs w R) : callS Tryz.prog 104 [(Value.string vs)] w (fun v w'=>∃ (r0 : Bool), v = (Value.bool r0) ∧ R r0 w') := by
 unfold scan_Name at h
 refine calls_of_vc 23 rfl Tryz.func104 rfl (by kernel_rfl) (by simp) ?_
 refine Vc.seq ?_
 refine Vc.region ?_
 refine vcL_pure rfl rfl (Value.bool false) (fun w=>by kernel_rfl) ?_
 refine vcL_nil ?_
 refine Vc.seq ?_
 refine Vc.region ?_
 refine vcL_pure rfl rfl (Value.string vs) (fun w=>by kernel_rfl) ?_
 refine vcL_eff rfl (opVC_call rfl (by kernel_rfl) (callS.mono h fun v vw h=>?_))
 obtain ⟨t5, rfl, h⟩ := h
 refine vcL_pure rfl rfl (Value.string t5) (fun w=>by kernel_rfl) ?_
 refine vcL_nil ?_
 refine Vc.seq ?_
 refine Vc.region ?_
 refine vcL_purs 2 [(7, (Value.bool (!bEq vs (ByteArray.mk #[])))), (6, (Value.string vs))] (by kernel_rfl) ?_
 obtain ⟨b, hb⟩ : ∃ y, y = (!bEq vs (ByteArray.mk #[])) := ⟨_, rfl⟩
 have h := h b hb
 refine vcL_pure rfl rfl (Value.bool b) (fun w=>by rw [hb]; kernel_rfl) ?_
 refine vcL_guardP b (wanted_g (d := 8) rfl (by kernel_rfl) b (by kernel_rfl) b (eqT b)) rfl (Value.string vs) (fun hg w=>by subst hg; kernel_rfl) ?_
 refine vcL_guardP b (wanted_g (d := 8) rfl (by kernel_rfl) b (by kernel_rfl) b (eqT b)) rfl (Value.int .i64 (vs.size : Int)) (fun hg w=>by subst hg; kernel_rfl) ?_
 refine vcL_guardP b (wanted_g (d := 8) rfl (by kernel_rfl) b (by kernel_rfl) b (eqT b)) rfl (Value.bool (decide ((vs.size : Int) ≤ 16))) (fun hg w=>by subst hg; kernel_rfl) ?_
 refine vcL_pure rfl rfl (Value.bool (b && (decide ((vs.size : Int) ≤ 16)))) (fun w=>by cases b <;> kernel_rfl) ?_
 obtain ⟨b1, hb1⟩ : ∃ y, y = (b && (decide ((vs.size : Int) ≤ 16))) := ⟨_, rfl⟩
 have h := h b1 hb1
 refine vcL_pure rfl rfl (Value.bool b1) (fun w=>by rw [hb1]; kernel_rfl) ?_
 refine vcL_guardP b1 (wanted_g (d := 13) rfl (by kernel_rfl) b1 (by kernel_rfl) b1 (eqT b1)) rfl (Value.string t5) (fun hg w=>by subst hg; kernel_rfl) ?_
 refine vcL_guardP b1 (wanted_g (d := 13) rfl (by kernel_rfl) b1 (by kernel_rfl) b1 (eqT b1)) rfl (Value.string vs) (fun hg w=>by subst hg; kernel_rfl) ?_
 refine vcL_guardP b1 (wanted_g (d := 13) rfl (by kernel_rfl) b1 (by kernel_rfl) b1 (eqT b1)) rfl (Value.bool (!bEq t5 vs)) (fun hg w=>by subst hg; kernel_rfl) ?_
 refine vcL_pure rfl rfl (Value.bool (b1 && (!bEq t5 vs))) (fun w=>by cases b1 <;> kernel_rfl) ?_
 obtain ⟨b2, hb2⟩ : ∃ y, y = (b1 && (!bEq t5 vs)) := ⟨_, rfl⟩
 have h := h b2 hb2
 refine vcL_pure rfl rfl (Value.bool b2) (fun w=>by rw [hb2]; kernel_rfl) ?_
 refine vcL_guardP b2 (wanted_g (d := 18) rfl (by kernel_rfl) b2 (by kernel_rfl) b2 (eqT b2)) rfl (Value.string t5) (fun hg w=>by subst hg; kernel_rfl) ?_
 obtain ⟨vJ, hJ, h⟩ := gCall_elim h
 refine vcL_effJ (σ := ByteArray) b2 (wanted_g (d := 18) rfl (by kernel_rfl) b2 (by kernel_rfl) b2 (eqT b2)) rfl (fun s w=>vJ s w) (fun s=>(Value.string s)) ?_ (fun hg=>opVC_call rfl (by subst hg; kernel_rfl) (callS.mono (h.1 hg) fun v4 vw3 hq=>?_)) (fun hg=>⟨(ByteArray.mk #[]), h.2 hg⟩)
 ·intro t20 vw3 h
  subst hJ
  refine vcL_guardP b2 (wanted_g (d := 18) rfl (by kernel_rfl) b2 (by kernel_rfl) b2 (eqT b2)) rfl (Value.bool (bEq t20 (ByteArray.mk #[]))) (fun hg w=>by subst hg; kernel_rfl) ?_
  refine vcL_pure rfl rfl (Value.bool (b2 && (bEq t20 (ByteArray.mk #[])))) (fun w=>by cases b2 <;> kernel_rfl) ?_
  refine vcL_pure rfl rfl (Value.bool (b2 && (bEq t20 (ByteArray.mk #[])))) (fun w=>by kernel_rfl) ?_
  refine vcL_nil ?_
  refine Vc.ret ?_
  refine outs_ret ?_
  refine done_mk (Value.bool (b2 && (bEq t20 (ByteArray.mk #[])))) (res1 (resC_tmp (by kernel_rfl))) ?_
  exact ⟨(b2 && (bEq t20 (ByteArray.mk #[]))), rfl, h⟩
 ·obtain ⟨t20, rfl, hq⟩ := hq
  exact ⟨t20, rfl, hq⟩
theorem scan_Name.go {vs : ByteArray} {w : World} {k : Value → World → Prop} (h : scan_Name vs w fun r0 w'=>k (Value.bool r0) w') : callS Tryz.prog 104 [(Value.string vs)] w k := (scan_Name.sound vs w _ h).mono (by rintro _ _ ⟨r0, rfl, h⟩; exact h)
def pack_list (l : Sl) (w : World) (R : Bool → World → Prop) : Prop :=
 loop1 0 w fun t7 vw nxt=>((t7 < (l.len : Int) → ∃ (ad : Addr), (l.a = some ad ∧ (0 : Int) ≤ t7 ∧ t7 < (l.len : Int)) ∧ ∃ (zzg : ByteArray) (zzh : Sl), (ldc vw (ad.add (t7.toNat * 2)) [(Value.string zzg), (Sl.v zzh)]) ∧ newS vw [(Value.string (ByteArray.mk #[])), (Sl.v Sl.nil)] 81 fun a vw1=>stw vw1 a [(Value.string zzg), (Sl.v zzh)] fun vw2=>bnd vw2.drew fun (vw3 : World)=>∃ (t13 : ByteArray), (ldc vw3 a [(Value.string t13)]) ∧ callS Tryz.prog 104 [(Value.string t13)] vw3 fun v vw5=>∃ (t14 : Bool), v = (Value.bool t14) ∧ bnd (!t14) fun (b : Bool)=>∃ (t18 : Sl), grd (!b) (ldc vw5 (a.add 1) [(Sl.v t18)]) ∧ gCall (!b) (fun (t19 : Bool) (vw7 : World)=>bnd (b || (!t19)) fun (b10 : Bool)=>∃ (t24 : Sl), grd (!b10) (ldc vw7 (a.add 1) [(Sl.v t24)]) ∧ bnd (b10 || ((t24.len : Int) == 0)) fun (b12 : Bool)=>bnd (decide (0 < t7)) fun (b13 : Bool)=>∃ (ad14 : Addr), grd ((!b12) && b13) (l.a = some ad14 ∧ (0 : Int) ≤ (wrapI (t7 - 1)) ∧ (wrapI (t7 - 1)) < (l.len : Int)) ∧ ∃ (t37 : ByteArray), grd ((!b12) && b13) (ldc vw7 (ad14.add ((wrapI (t7 - 1)).toNat * 2)) [(Value.string t37)]) ∧ ∃ (t39 : ByteArray), grd ((!b12) && b13) (ldc vw7 a [(Value.string t39)]) ∧ (((b12 || (b13 && (!bLt t37 t39))) = true → R false vw7) ∧ ((b12 || (b13 && (!bLt t37 t39))) = false → nxt (wrapI (t7 + 1)) vw7))) (fun q=>callS Tryz.prog 91 [(Sl.v t18)] vw5 fun v8 vw7=>∃ (t19 : Bool), v8 = (Value.bool t19) ∧ q t19 vw7) (fun q=>q false vw5)) ∧ (¬ (t7 < (l.len : Int)) → R (decide ((l.len : Int) ≤ 16)) vw))
set_option maxHeartbeats 8000000 in
theorem pack_list.sound (l : Sl) (w : World) (R : Bool → World → Prop) (h : pack_list l w R) : callS Tryz.prog 105 [(Sl.v l)] w (fun v w'=>∃ (r0 : Bool), v = (Value.bool r0) ∧ R r0 w') := by
 unfold pack_list at h
 refine calls_of_vc 47 rfl Tryz.func105 rfl (by kernel_rfl) (by simp) ?_
 refine Vc.seq ?_
 refine Vc.region ?_
 refine vcL_pure rfl rfl (Value.bool false) (fun w=>by kernel_rfl) ?_
 refine vcL_nil ?_
 refine Vc.seq ?_
 refine Vc.seq ?_
 refine Vc.region ?_
 refine vcL_purs 3 [(7, (Value.int .i64 0)), (6, (Value.int .i64 (l.len : Int))), (5, (Sl.v l))] (by kernel_rfl) ?_
 refine vcL_nil ?_
 refine Vc.block ?_
 obtain ⟨vI, mu, h, hr⟩ := h
 refine Vc.loopJ (σ := Int) [7] [2, 3, 4, 8, 9, 10, 11, 12, 13, 14, 15, 16, 17, 18, 19, 20, 21, 22, 23, 24, 25, 26, 27, 28, 29, 30, 31, 32, 33, 34, 35, 36, 37, 38, 39, 40, 41, 42, 43] (fun s=>[(7, (Value.int .i64 s))]) (fun s w=>vI s w) (fun s w=>mu s w) 0 h (fun _ => rfl) (by kernel_rfl) ?_
 intro t7 vw j h
 have h := hr t7 vw h
 refine Vc.seq ?_
 refine Vc.region ?_
 refine vcL_pure rfl rfl (Value.bool (decide (t7 < (l.len : Int)))) (fun w=>by kernel_rfl) ?_
 refine vcL_nil ?_
 refine Vc.seq ?_
 refine Vc.cond (decide (t7 < (l.len : Int))) (by kernel_rfl) (fun hb=>?_) (fun hb=>?_)
 ·have h := h.1 (of_decide_eq_true hb)
  refine Vc.skip ?_
  refine Vc.seq ?_
  refine Vc.block ?_
  refine Vc.seq ?_
  refine Vc.region ?_
  refine vcL_pure rfl rfl (Value.int .i64 t7) (fun w=>by kernel_rfl) ?_
  obtain ⟨ad, hi, h⟩ := h
  refine vcL_pure rfl rfl (Value.pointer (some (ad.add (t7.toNat * 2)))) (fun w=>by exact exec_indexAt (s := l) (el := 81) rfl (by kernel_rfl) (by kernel_rfl) (by kernel_rfl) (fun w=>by kernel_rfl) (hi).1 (hi).2.1 (hi).2.2 w) ?_
  obtain ⟨zzg, zzh, hc, h⟩ := h
  refine vcL_val rfl rfl (Value.agg #[(Value.string zzg), (Sl.v zzh)]) (exec_load rfl (by kernel_rfl) (run_loadN (fun w=>by kernel_rfl) (fun w=>by kernel_rfl) ((hc)))) ?_
  refine vcL_eff rfl (opVC_new rfl (fun a=>Value.pointer (some a)) (by kernel_rfl) (newS.mono h fun a vw1 hx h=>?_))
  refine vcL_pure rfl rfl (Value.int .i64 t7) (fun w=>by kernel_rfl) ?_
  refine vcL_eff rfl (opVC_store rfl rfl (a := a) (by kernel_rfl) (v := (Value.agg #[(Value.string zzg), (Sl.v zzh)])) (by kernel_rfl) [(Value.string zzg), (Sl.v zzh)] (by kernel_rfl) (fun w=>by kernel_rfl) (by kernel_rfl) (stw.mono h fun vw2 h=>?_))
  refine vcL_nil ?_
  refine Vc.seq ?_
  obtain ⟨vw3, hvw3⟩ : ∃ y, y = vw2.drew := ⟨_, rfl⟩
  have h := h vw3 hvw3
  refine Vc.draw (by kernel_rfl) (fun i=>!(memN [2, 7] i)) (.pur 0 (.val 1 (.eff 2 (.pur 3 (.pur 4 (.pur 5 (.val 6 (.eff 7 (.pur 8 (.pur 9 (.pur 10 (.pur 11 (.val 12 (.pur 13 (.pur 14 (.pur 15 (.pur 16 (.pur 17 (.pur 18 (.pur 19 (.pur 20 (.pur 21 (.pur 22 (.pur 23 (.pur 24 (.val 25 (.pur 26 (.val 27 (.pur 28 (.pur 29 (.pur 30 .fin))))))))))))))))))))))) .stop))))) .stop))) (by kernel_rfl) ?_
  rw [← hvw3]
  clear hvw3
  refine vcS_pure rfl rfl rfl (Value.pointer (some a)) (fun w=>by kernel_rfl) ?_
  obtain ⟨t13, hc4, h⟩ := h
  refine vcS_val rfl rfl rfl (Value.string t13) (fun w' hx=>exec_load rfl (by kernel_rfl) (run_load1 (fun w=>by kernel_rfl) ((hc4).ext hx))) ?_
  refine vcS_eff rfl rfl (opVC_call rfl (by kernel_rfl) (callS.mono h fun v vw5 h=>?_)) vcS_stop
  obtain ⟨t14, rfl, h⟩ := h
  refine ⟨fun hb=>absurd hb (by decide), ?_⟩
  refine vcS_pure rfl rfl rfl (Value.bool (!t14)) (fun w=>by kernel_rfl) ?_
  obtain ⟨b, hb⟩ : ∃ y, y = (!t14) := ⟨_, rfl⟩
  have h := h b hb
  refine vcS_pure rfl rfl rfl (Value.bool b) (fun w=>by rw [hb]; kernel_rfl) ?_
  refine vcS_guard rfl (!b) (wanted_g (d := 16) rfl (by kernel_rfl) b (by kernel_rfl) (!b) (eqF b)) rfl (Value.pointer (some (a.add 1))) (fun hg w=>by simp only [Bool.and_eq_true, Bool.not_eq_true'] at hg; obtain rfl := hg; kernel_rfl) ?_
  obtain ⟨t18, hc6, h⟩ := h
  refine vcS_valG rfl (!b) (wanted_g (d := 16) rfl (by kernel_rfl) b (by kernel_rfl) (!b) (eqF b)) rfl (Sl.v t18) (fun hg w' hx=>by simp only [Bool.and_eq_true, Bool.not_eq_true'] at hg; obtain rfl := hg; exact exec_load rfl (by kernel_rfl) (run_load1 (fun w=>by kernel_rfl) ((hc6 rfl).ext hx))) ?_
  obtain ⟨vJ, hJ, h⟩ := gCall_elim h
  refine vcS_effJ (σ := Bool) rfl (!b) (wanted_g (d := 16) rfl (by kernel_rfl) b (by kernel_rfl) (!b) (eqF b)) rfl (fun s w=>vJ s w) (fun s=>(Value.bool s)) ?_ (fun hg=>opVC_call rfl (by simp only [Bool.and_eq_true, Bool.not_eq_true'] at hg; obtain rfl := hg; kernel_rfl) (callS.mono (h.1 hg) fun v8 vw7 hq=>?_)) (fun hg=>⟨false, h.2 hg⟩) vcS_stop
  ·intro t19 vw7 h
   subst hJ
   refine vcS_guard rfl (!b) (wanted_g (d := 16) rfl (by kernel_rfl) b (by kernel_rfl) (!b) (eqF b)) rfl (Value.bool (!t19)) (fun hg w=>by simp only [Bool.and_eq_true, Bool.not_eq_true'] at hg; obtain rfl := hg; kernel_rfl) ?_
   refine vcS_pure rfl rfl rfl (Value.bool (b || (!t19))) (fun w=>by cases b <;> kernel_rfl) ?_
   obtain ⟨b10, hb10⟩ : ∃ y, y = (b || (!t19)) := ⟨_, rfl⟩
   have h := h b10 hb10
   refine vcS_pure rfl rfl rfl (Value.bool b10) (fun w=>by rw [hb10]; kernel_rfl) ?_
   refine vcS_guard rfl (!b10) (wanted_g (d := 22) rfl (by kernel_rfl) b10 (by kernel_rfl) (!b10) (eqF b10)) rfl (Value.pointer (some (a.add 1))) (fun hg w=>by simp only [Bool.and_eq_true, Bool.not_eq_true'] at hg; obtain rfl := hg; kernel_rfl) ?_
   obtain ⟨t24, hc11, h⟩ := h
   refine vcS_valG rfl (!b10) (wanted_g (d := 22) rfl (by kernel_rfl) b10 (by kernel_rfl) (!b10) (eqF b10)) rfl (Sl.v t24) (fun hg w' hx=>by simp only [Bool.and_eq_true, Bool.not_eq_true'] at hg; obtain rfl := hg; exact exec_load rfl (by kernel_rfl) (run_load1 (fun w=>by kernel_rfl) ((hc11 rfl).ext hx))) ?_
   refine vcS_guard rfl (!b10) (wanted_g (d := 22) rfl (by kernel_rfl) b10 (by kernel_rfl) (!b10) (eqF b10)) rfl (Value.int .i64 (t24.len : Int)) (fun hg w=>by simp only [Bool.and_eq_true, Bool.not_eq_true'] at hg; obtain rfl := hg; kernel_rfl) ?_
   refine vcS_guard rfl (!b10) (wanted_g (d := 22) rfl (by kernel_rfl) b10 (by kernel_rfl) (!b10) (eqF b10)) rfl (Value.bool ((t24.len : Int) == 0)) (fun hg w=>by simp only [Bool.and_eq_true, Bool.not_eq_true'] at hg; obtain rfl := hg; kernel_rfl) ?_
   refine vcS_pure rfl rfl rfl (Value.bool (b10 || ((t24.len : Int) == 0))) (fun w=>by cases b10 <;> kernel_rfl) ?_
   obtain ⟨b12, hb12⟩ : ∃ y, y = (b10 || ((t24.len : Int) == 0)) := ⟨_, rfl⟩
   have h := h b12 hb12
   refine vcS_pure rfl rfl rfl (Value.bool b12) (fun w=>by rw [hb12]; kernel_rfl) ?_
   refine vcS_guard rfl (!b12) (wanted_g (d := 28) rfl (by kernel_rfl) b12 (by kernel_rfl) (!b12) (eqF b12)) rfl (Value.int .i64 t7) (fun hg w=>by simp only [Bool.and_eq_true, Bool.not_eq_true'] at hg; obtain rfl := hg; kernel_rfl) ?_
   refine vcS_guard rfl (!b12) (wanted_g (d := 28) rfl (by kernel_rfl) b12 (by kernel_rfl) (!b12) (eqF b12)) rfl (Value.bool (decide (0 < t7))) (fun hg w=>by simp only [Bool.and_eq_true, Bool.not_eq_true'] at hg; obtain rfl := hg; kernel_rfl) ?_
   obtain ⟨b13, hb13⟩ : ∃ y, y = (decide (0 < t7)) := ⟨_, rfl⟩
   have h := h b13 hb13
   refine vcS_guard rfl (!b12) (wanted_g (d := 28) rfl (by kernel_rfl) b12 (by kernel_rfl) (!b12) (eqF b12)) rfl (Value.bool b13) (fun hg w=>by simp only [Bool.and_eq_true, Bool.not_eq_true'] at hg; obtain rfl := hg; rw [hb13]; kernel_rfl) ?_
   refine vcS_guard rfl ((!b12) && b13) (wanted_gg (d := 31) rfl (by kernel_rfl) (!b12) b13 (by kernel_rfl) ((!b12) && b13) (eqTT (!b12) b13)) rfl (Sl.v l) (fun hg w=>by simp only [Bool.and_eq_true, Bool.not_eq_true'] at hg; obtain ⟨rfl, rfl⟩ := hg; kernel_rfl) ?_
   refine vcS_guard rfl ((!b12) && b13) (wanted_gg (d := 31) rfl (by kernel_rfl) (!b12) b13 (by kernel_rfl) ((!b12) && b13) (eqTT (!b12) b13)) rfl (Value.int .i64 t7) (fun hg w=>by simp only [Bool.and_eq_true, Bool.not_eq_true'] at hg; obtain ⟨rfl, rfl⟩ := hg; kernel_rfl) ?_
   refine vcS_guard rfl ((!b12) && b13) (wanted_gg (d := 31) rfl (by kernel_rfl) (!b12) b13 (by kernel_rfl) ((!b12) && b13) (eqTT (!b12) b13)) rfl (Value.int .i64 (wrapI (t7 - 1))) (fun hg w=>by simp only [Bool.and_eq_true, Bool.not_eq_true'] at hg; obtain ⟨rfl, rfl⟩ := hg; kernel_rfl) ?_
   obtain ⟨ad14, hi15, h⟩ := h
   refine vcS_guard rfl ((!b12) && b13) (wanted_gg (d := 31) rfl (by kernel_rfl) (!b12) b13 (by kernel_rfl) ((!b12) && b13) (eqTT (!b12) b13)) rfl (Value.pointer (some (ad14.add ((wrapI (t7 - 1)).toNat * 2)))) (fun hg w=>by simp only [Bool.and_eq_true, Bool.not_eq_true'] at hg; obtain ⟨rfl, rfl⟩ := hg; exact exec_indexAt (s := l) (el := 81) rfl (by kernel_rfl) (by kernel_rfl) (by kernel_rfl) (fun w=>by kernel_rfl) (hi15 rfl).1 (hi15 rfl).2.1 (hi15 rfl).2.2 w) ?_
   refine vcS_guard rfl ((!b12) && b13) (wanted_gg (d := 31) rfl (by kernel_rfl) (!b12) b13 (by kernel_rfl) ((!b12) && b13) (eqTT (!b12) b13)) rfl (Value.pointer (some (ad14.add ((wrapI (t7 - 1)).toNat * 2)))) (fun hg w=>by simp only [Bool.and_eq_true, Bool.not_eq_true'] at hg; obtain ⟨rfl, rfl⟩ := hg; kernel_rfl) ?_
   obtain ⟨t37, hc16, h⟩ := h
   refine vcS_valG rfl ((!b12) && b13) (wanted_gg (d := 31) rfl (by kernel_rfl) (!b12) b13 (by kernel_rfl) ((!b12) && b13) (eqTT (!b12) b13)) rfl (Value.string t37) (fun hg w' hx=>by simp only [Bool.and_eq_true, Bool.not_eq_true'] at hg; obtain ⟨rfl, rfl⟩ := hg; exact exec_load rfl (by kernel_rfl) (run_load1 (fun w=>by kernel_rfl) ((hc16 rfl).ext hx))) ?_
   refine vcS_guard rfl ((!b12) && b13) (wanted_gg (d := 31) rfl (by kernel_rfl) (!b12) b13 (by kernel_rfl) ((!b12) && b13) (eqTT (!b12) b13)) rfl (Value.pointer (some a)) (fun hg w=>by simp only [Bool.and_eq_true, Bool.not_eq_true'] at hg; obtain ⟨rfl, rfl⟩ := hg; kernel_rfl) ?_
   obtain ⟨t39, hc17, h⟩ := h
   refine vcS_valG rfl ((!b12) && b13) (wanted_gg (d := 31) rfl (by kernel_rfl) (!b12) b13 (by kernel_rfl) ((!b12) && b13) (eqTT (!b12) b13)) rfl (Value.string t39) (fun hg w' hx=>by simp only [Bool.and_eq_true, Bool.not_eq_true'] at hg; obtain ⟨rfl, rfl⟩ := hg; exact exec_load rfl (by kernel_rfl) (run_load1 (fun w=>by kernel_rfl) ((hc17 rfl).ext hx))) ?_
   refine vcS_guard rfl ((!b12) && b13) (wanted_gg (d := 31) rfl (by kernel_rfl) (!b12) b13 (by kernel_rfl) ((!b12) && b13) (eqTT (!b12) b13)) rfl (Value.bool (!bLt t37 t39)) (fun hg w=>by simp only [Bool.and_eq_true, Bool.not_eq_true'] at hg; obtain ⟨rfl, rfl⟩ := hg; kernel_rfl) ?_
   refine vcS_guard rfl (!b12) (wanted_g (d := 28) rfl (by kernel_rfl) b12 (by kernel_rfl) (!b12) (eqF b12)) rfl (Value.bool (b13 && (!bLt t37 t39))) (fun hg w=>by simp only [Bool.and_eq_true, Bool.not_eq_true'] at hg; obtain rfl := hg; cases b13 <;> kernel_rfl) ?_
   refine vcS_pure rfl rfl rfl (Value.bool (b12 || (b13 && (!bLt t37 t39)))) (fun w=>by cases b12 <;> kernel_rfl) ?_
   refine vcS_fin ?_
   refine Vc.cond (b12 || (b13 && (!bLt t37 t39))) (by kernel_rfl) (fun hb=>?_) (fun hb=>?_)
   ·have h := h.1 (hb)
    refine Vc.seq ?_
    refine Vc.region ?_
    refine vcL_pure rfl rfl (Value.bool false) (fun w=>by kernel_rfl) ?_
    refine vcL_nil ?_
    refine Vc.ret ?_
    refine outOf_ret ?_
    refine outOf_ret ?_
    refine outs_ret ?_
    refine done_mk (Value.bool false) (res1 (resC_tmp (by kernel_rfl))) ?_
    exact ⟨false, rfl, h⟩
   ·have h := h.2 (hb)
    refine Vc.skip ?_
    refine Vc.region ?_
    refine vcL_purs 2 [(7, (Value.int .i64 (wrapI (t7 + 1)))), (43, (Value.int .i64 (wrapI (t7 + 1))))] (by kernel_rfl) ?_
    refine vcL_nil ?_
    exact ⟨(wrapI (t7 + 1)), 79, ⟨rfl, by kernel_rfl, by kernel_rfl, by kernel_rfl⟩, h⟩
  ·obtain ⟨t19, rfl, hq⟩ := hq
   exact ⟨fun hb=>absurd hb (by decide), t19, rfl, hq⟩
 ·have h := h.2 (of_decide_eq_false hb)
  refine Vc.exit ?_
  refine outOf_hit ?_
  refine Vc.seq ?_
  refine Vc.region ?_
  refine vcL_purs 4 [(2, (Value.bool (decide ((l.len : Int) ≤ 16)))), (46, (Value.bool (decide ((l.len : Int) ≤ 16)))), (45, (Value.int .i64 (l.len : Int))), (44, (Sl.v l))] (by kernel_rfl) ?_
  refine vcL_nil ?_
  refine Vc.ret ?_
  refine outs_ret ?_
  refine done_mk (Value.bool (decide ((l.len : Int) ≤ 16))) (res1 (resC_tmp (by kernel_rfl))) ?_
  exact ⟨(decide ((l.len : Int) ≤ 16)), rfl, h⟩
theorem pack_list.go {l : Sl} {w : World} {k : Value → World → Prop} (h : pack_list l w fun r0 w'=>k (Value.bool r0) w') : callS Tryz.prog 105 [(Sl.v l)] w k := (pack_list.sound l w _ h).mono (by rintro _ _ ⟨r0, rfl, h⟩; exact h)
def pack_apart (lists : Sl) (w : World) (R : Bool → World → Prop) : Prop :=
 semS Tryz.prog (Instr.makeMap 178 none) w fun v vw=>∃ (t8 : Option Nat), v = (Value.map t8) ∧ loop1 0 vw fun t11 vw1 nxt=>((t11 < (lists.len : Int) → ∃ (ad : Addr), (lists.a = some ad ∧ (0 : Int) ≤ t11 ∧ t11 < (lists.len : Int)) ∧ ∃ (t14 : Sl), (ldc vw1 (ad.add (t11.toNat * 1)) [(Sl.v t14)]) ∧ loop1 0 vw1 fun t17 vw2 nxt3=>((t17 < (t14.len : Int) → ∃ (ad4 : Addr), (t14.a = some ad4 ∧ (0 : Int) ≤ t17 ∧ t17 < (t14.len : Int)) ∧ ∃ (zz26 : ByteArray) (zz27 : Sl), (ldc vw2 (ad4.add (t17.toNat * 2)) [(Value.string zz26), (Sl.v zz27)]) ∧ newS vw2 [(Value.string (ByteArray.mk #[])), (Sl.v Sl.nil)] 81 fun a vw7=>stw vw7 a [(Value.string zz26), (Sl.v zz27)] fun vw8=>∃ (t23 : ByteArray), (ldc vw8 a [(Value.string t23)]) ∧ semS Tryz.prog (Instr.lookup 178 (Value.map t8) (Value.string t23) false) vw8 fun v11 vw10=>∃ (t24 : Int), v11 = (Value.int .i64 t24) ∧ semU Tryz.prog (Instr.mapUpdate 178 (Value.map t8) (Value.string t23) (Value.int .i64 (wrapI (t24 + 1)))) vw10 fun vw12=>∃ (t28 : ByteArray), (ldc vw12 a [(Value.string t28)]) ∧ semS Tryz.prog (Instr.lookup 178 (Value.map t8) (Value.string t28) false) vw12 fun v15 vw14=>∃ (t29 : Int), v15 = (Value.int .i64 t29) ∧ ((1 < t29 → R false vw14) ∧ (¬ (1 < t29) → nxt3 (wrapI (t17 + 1)) vw14))) ∧ (¬ (t17 < (t14.len : Int)) → nxt (wrapI (t11 + 1)) vw2))) ∧ (¬ (t11 < (lists.len : Int)) → R true vw1))
set_option maxHeartbeats 8000000 in
theorem pack_apart.sound (lists : Sl) (w : World) (R : Bool → World → Prop) (h : pack_apart lists w R) : callS Tryz.prog 106 [(Sl.v lists)] w (fun v w'=>∃ (r0 : Bool), v = (Value.bool r0) ∧ R r0 w') := by
 unfold pack_apart at h
 refine calls_of_vc 33 rfl Tryz.func106 rfl (by kernel_rfl) (by simp) ?_
 refine Vc.seq ?_
 refine Vc.region ?_
 refine vcL_pure rfl rfl (Value.bool false) (fun w=>by kernel_rfl) ?_
 refine vcL_nil ?_
 refine Vc.seq ?_
 refine Vc.region ?_
 refine vcL_eff rfl (opVC_sem rfl (c := Instr.makeMap 178 none) (by kernel_rfl) (semS.mono h fun v vw h=>?_))
 obtain ⟨t8, rfl, h⟩ := h
 refine vcL_pure rfl rfl (Value.map t8) (fun w=>by kernel_rfl) ?_
 refine vcL_nil ?_
 refine Vc.seq ?_
 refine Vc.seq ?_
 refine Vc.region ?_
 refine vcL_purs 3 [(11, (Value.int .i64 0)), (10, (Value.int .i64 (lists.len : Int))), (9, (Sl.v lists))] (by kernel_rfl) ?_
 refine vcL_nil ?_
 refine Vc.block ?_
 obtain ⟨vI16, mu17, h, hr18⟩ := h
 refine Vc.loopJ (σ := Int) [11] [2, 5, 7, 12, 13, 14, 15, 16, 17, 18, 19, 20, 21, 22, 23, 24, 25, 26, 27, 28, 29, 30, 31, 32] (fun s=>[(11, (Value.int .i64 s))]) (fun s w=>vI16 s w) (fun s w=>mu17 s w) 0 h (fun _ => rfl) (by kernel_rfl) ?_
 intro t11 vw1 j h
 have h := hr18 t11 vw1 h
 refine Vc.seq ?_
 refine Vc.region ?_
 refine vcL_pure rfl rfl (Value.bool (decide (t11 < (lists.len : Int)))) (fun w=>by kernel_rfl) ?_
 refine vcL_nil ?_
 refine Vc.seq ?_
 refine Vc.cond (decide (t11 < (lists.len : Int))) (by kernel_rfl) (fun hb=>?_) (fun hb=>?_)
 ·have h := h.1 (of_decide_eq_true hb)
  refine Vc.skip ?_
  refine Vc.seq ?_
  refine Vc.block ?_
  refine Vc.seq ?_
  refine Vc.region ?_
  obtain ⟨ad, hi, h⟩ := h
  refine vcL_pure rfl rfl (Value.pointer (some (ad.add (t11.toNat * 1)))) (fun w=>by exact exec_indexAt (s := lists) (el := 23) rfl (by kernel_rfl) (by kernel_rfl) (by kernel_rfl) (fun w=>by kernel_rfl) (hi).1 (hi).2.1 (hi).2.2 w) ?_
  obtain ⟨t14, hc, h⟩ := h
  refine vcL_val rfl rfl (Sl.v t14) (exec_load rfl (by kernel_rfl) (run_load1 (fun w=>by kernel_rfl) ((hc)))) ?_
  refine vcL_pure rfl rfl (Sl.v t14) (fun w=>by kernel_rfl) ?_
  refine vcL_nil ?_
  refine Vc.seq ?_
  refine Vc.region ?_
  refine vcL_purs 3 [(17, (Value.int .i64 0)), (16, (Value.int .i64 (t14.len : Int))), (15, (Sl.v t14))] (by kernel_rfl) ?_
  refine vcL_nil ?_
  refine Vc.block ?_
  obtain ⟨vI, mu, h, hr⟩ := h
  refine Vc.loopJ (σ := Int) [17] [2, 7, 18, 19, 20, 21, 22, 23, 24, 25, 26, 27, 28, 29, 30, 31] (fun s=>[(17, (Value.int .i64 s))]) (fun s w=>vI s w) (fun s w=>mu s w) 0 h (fun _ => rfl) (by kernel_rfl) ?_
  intro t17 vw2 j h
  have h := hr t17 vw2 h
  refine Vc.seq ?_
  refine Vc.region ?_
  refine vcL_pure rfl rfl (Value.bool (decide (t17 < (t14.len : Int)))) (fun w=>by kernel_rfl) ?_
  refine vcL_nil ?_
  refine Vc.seq ?_
  refine Vc.cond (decide (t17 < (t14.len : Int))) (by kernel_rfl) (fun hb=>?_) (fun hb=>?_)
  ·have h := h.1 (of_decide_eq_true hb)
   refine Vc.skip ?_
   refine Vc.seq ?_
   refine Vc.block ?_
   refine Vc.seq ?_
   refine Vc.region ?_
   obtain ⟨ad4, hi5, h⟩ := h
   refine vcL_pure rfl rfl (Value.pointer (some (ad4.add (t17.toNat * 2)))) (fun w=>by exact exec_indexAt (s := t14) (el := 81) rfl (by kernel_rfl) (by kernel_rfl) (by kernel_rfl) (fun w=>by kernel_rfl) (hi5).1 (hi5).2.1 (hi5).2.2 w) ?_
   obtain ⟨zz26, zz27, hc6, h⟩ := h
   refine vcL_val rfl rfl (Value.agg #[(Value.string zz26), (Sl.v zz27)]) (exec_load rfl (by kernel_rfl) (run_loadN (fun w=>by kernel_rfl) (fun w=>by kernel_rfl) ((hc6)))) ?_
   refine vcL_eff rfl (opVC_new rfl (fun a=>Value.pointer (some a)) (by kernel_rfl) (newS.mono h fun a vw7 hx h=>?_))
   refine vcL_eff rfl (opVC_store rfl rfl (a := a) (by kernel_rfl) (v := (Value.agg #[(Value.string zz26), (Sl.v zz27)])) (by kernel_rfl) [(Value.string zz26), (Sl.v zz27)] (by kernel_rfl) (fun w=>by kernel_rfl) (by kernel_rfl) (stw.mono h fun vw8 h=>?_))
   refine vcL_nil ?_
   refine Vc.seq ?_
   refine Vc.region ?_
   refine vcL_purs 2 [(22, (Value.pointer (some a))), (21, (Value.map t8))] (by kernel_rfl) ?_
   obtain ⟨t23, hc9, h⟩ := h
   refine vcL_val rfl rfl (Value.string t23) (exec_load rfl (by kernel_rfl) (run_load1 (fun w=>by kernel_rfl) ((hc9)))) ?_
   refine vcL_eff rfl (opVC_sem rfl (c := Instr.lookup 178 (Value.map t8) (Value.string t23) false) (by kernel_rfl) (semS.mono h fun v11 vw10 h=>?_))
   obtain ⟨t24, rfl, h⟩ := h
   refine vcL_pure rfl rfl (Value.int .i64 (wrapI (t24 + 1))) (fun w=>by kernel_rfl) ?_
   refine vcL_eff rfl (opVC_semU rfl (c := Instr.mapUpdate 178 (Value.map t8) (Value.string t23) (Value.int .i64 (wrapI (t24 + 1)))) (by kernel_rfl) (semU.mono h fun vw12 h=>?_))
   refine vcL_nil ?_
   refine Vc.seq ?_
   refine Vc.region ?_
   refine vcL_purs 2 [(27, (Value.pointer (some a))), (26, (Value.map t8))] (by kernel_rfl) ?_
   obtain ⟨t28, hc13, h⟩ := h
   refine vcL_val rfl rfl (Value.string t28) (exec_load rfl (by kernel_rfl) (run_load1 (fun w=>by kernel_rfl) ((hc13)))) ?_
   refine vcL_eff rfl (opVC_sem rfl (c := Instr.lookup 178 (Value.map t8) (Value.string t28) false) (by kernel_rfl) (semS.mono h fun v15 vw14 h=>?_))
   obtain ⟨t29, rfl, h⟩ := h
   refine vcL_pure rfl rfl (Value.bool (decide (1 < t29))) (fun w=>by kernel_rfl) ?_
   refine vcL_nil ?_
   refine Vc.cond (decide (1 < t29)) (by kernel_rfl) (fun hb=>?_) (fun hb=>?_)
   ·have h := h.1 (of_decide_eq_true hb)
    refine Vc.seq ?_
    refine Vc.region ?_
    refine vcL_pure rfl rfl (Value.bool false) (fun w=>by kernel_rfl) ?_
    refine vcL_nil ?_
    refine Vc.ret ?_
    refine outOf_ret ?_
    refine outOf_ret ?_
    refine outOf_ret ?_
    refine outOf_ret ?_
    refine outs_ret ?_
    refine done_mk (Value.bool false) (res1 (resC_tmp (by kernel_rfl))) ?_
    exact ⟨false, rfl, h⟩
   ·have h := h.2 (of_decide_eq_false hb)
    refine Vc.skip ?_
    refine Vc.region ?_
    refine vcL_purs 2 [(17, (Value.int .i64 (wrapI (t17 + 1)))), (31, (Value.int .i64 (wrapI (t17 + 1))))] (by kernel_rfl) ?_
    refine vcL_nil ?_
    exact ⟨(wrapI (t17 + 1)), 33, ⟨rfl, by kernel_rfl, by kernel_rfl, by kernel_rfl⟩, h⟩
  ·have h := h.2 (of_decide_eq_false hb)
   refine Vc.exit ?_
   refine outOf_hit ?_
   refine Vc.region ?_
   refine vcL_purs 2 [(11, (Value.int .i64 (wrapI (t11 + 1)))), (32, (Value.int .i64 (wrapI (t11 + 1))))] (by kernel_rfl) ?_
   refine vcL_nil ?_
   exact ⟨(wrapI (t11 + 1)), 52, ⟨rfl, by kernel_rfl, by kernel_rfl, by kernel_rfl⟩, h⟩
 ·have h := h.2 (of_decide_eq_false hb)
  refine Vc.exit ?_
  refine outOf_hit ?_
  refine Vc.seq ?_
  refine Vc.region ?_
  refine vcL_pure rfl rfl (Value.bool true) (fun w=>by kernel_rfl) ?_
  refine vcL_nil ?_
  refine Vc.ret ?_
  refine outs_ret ?_
  refine done_mk (Value.bool true) (res1 (resC_tmp (by kernel_rfl))) ?_
  exact ⟨true, rfl, h⟩
theorem pack_apart.go {lists : Sl} {w : World} {k : Value → World → Prop} (h : pack_apart lists w fun r0 w'=>k (Value.bool r0) w') : callS Tryz.prog 106 [(Sl.v lists)] w k := (pack_apart.sound lists w _ h).mono (by rintro _ _ ⟨r0, rfl, h⟩; exact h)
def pack_text (zz4 : ByteArray) (zz7 : Int) (zz8 : Int) (zz9 : Int) (zz3 : Sl) (zz6 : Sl) (zz5 : Sl) (w : World) (R : ByteArray → World → Prop) : Prop :=
 newS w [(Value.string zz4), (Value.int .i64 zz7), (Value.int .i64 zz8), (Value.int .i64 zz9), (Sl.v zz3), (Sl.v zz6), (Sl.v zz5)] 48 fun a vw=>newS vw [(Value.pointer none), (Sl.v Sl.nil)] 182 fun a1 vw2=>bnd vw2.drew fun (vw3 : World)=>∃ (t5 : ByteArray), (ldc vw3 a [(Value.string t5)]) ∧ ((((ByteArray.mk #[112, 97, 99, 107, 97, 103, 101, 32]).size + t5.size : Nat) : Int) ≤ maxI) ∧ (((((ByteArray.mk #[112, 97, 99, 107, 97, 103, 101, 32]) ++ t5).size + (ByteArray.mk #[32]).size : Nat) : Int) ≤ maxI) ∧ ∃ (zz3y : Int) (zz3z : Int) (zz40 : Int), (ldc vw3 (a.add 1) [(Value.int .i64 zz3y), (Value.int .i64 zz3z), (Value.int .i64 zz40)]) ∧ callX Tryz.prog 144 [(Value.agg #[(Value.int .i64 zz3y), (Value.int .i64 zz3z), (Value.int .i64 zz40)])] vw3 fun v vw6=>∃ (t10 : ByteArray), v = (Value.string t10) ∧ ((((((ByteArray.mk #[112, 97, 99, 107, 97, 103, 101, 32]) ++ t5) ++ (ByteArray.mk #[32])).size + t10.size : Nat) : Int) ≤ maxI) ∧ (((((((ByteArray.mk #[112, 97, 99, 107, 97, 103, 101, 32]) ++ t5) ++ (ByteArray.mk #[32])) ++ t10).size + (ByteArray.mk #[10]).size : Nat) : Int) ≤ maxI) ∧ callS Tryz.prog 143 [(Value.pointer (some a1)), (Value.string (((((ByteArray.mk #[112, 97, 99, 107, 97, 103, 101, 32]) ++ t5) ++ (ByteArray.mk #[32])) ++ t10) ++ (ByteArray.mk #[10])))] vw6 fun v10 vw9=>∃ (t13 : Int) (t13b : Value), v10 = (Value.tuple #[(Value.int .i64 t13), t13b]) ∧ ∃ (t15 : Sl), (ldc vw9 (a.add 4) [(Sl.v t15)]) ∧ callS Tryz.prog 145 [(Value.pointer (some a1)), (Value.string (ByteArray.mk #[110, 101, 101, 100, 115])), (Sl.v t15)] vw9 fun v14 vw13=>v14 = (Value.tuple #[]) ∧ ∃ (t18 : Sl), (ldc vw13 (a.add 5) [(Sl.v t18)]) ∧ callS Tryz.prog 145 [(Value.pointer (some a1)), (Value.string (ByteArray.mk #[98, 101, 115, 105, 100, 101])), (Sl.v t18)] vw13 fun v18 vw17=>v18 = (Value.tuple #[]) ∧ ∃ (t21 : Sl), (ldc vw17 (a.add 6) [(Sl.v t21)]) ∧ callS Tryz.prog 145 [(Value.pointer (some a1)), (Value.string (ByteArray.mk #[108, 105, 107, 101, 115])), (Sl.v t21)] vw17 fun v22 vw21=>v22 = (Value.tuple #[]) ∧ callS Tryz.prog 146 [(Value.pointer (some a1))] vw21 fun v25 vw24=>∃ (t23 : ByteArray), v25 = (Value.string t23) ∧ R t23 vw24
set_option maxHeartbeats 8000000 in
theorem pack_text.sound (zz4 : ByteArray) (zz7 : Int) (zz8 : Int) (zz9 : Int) (zz3 : Sl) (zz6 : Sl) (zz5 : Sl) (w : World) (R : ByteArray → World → Prop) (h : pack_text zz4 zz7 zz8 zz9 zz3 zz6 zz5 w R) : callS Tryz.prog 107 [(Value.agg #[(Value.string zz4), (Value.int .i64 zz7), (Value.int .i64 zz8), (Value.int .i64 zz9), (Sl.v zz3), (Sl.v zz6), (Sl.v zz5)])] w (fun v w'=>∃ (r0 : ByteArray), v = (Value.string r0) ∧ R r0 w') := by
 unfold pack_text at h
 refine calls_of_vc 24 rfl Tryz.func107 rfl (by kernel_rfl) (by simp) ?_
 refine Vc.seq ?_
 refine Vc.region ?_
 refine vcL_eff rfl (opVC_new rfl (fun a=>Value.pointer (some a)) (by kernel_rfl) (newS.mono h fun a vw hx h=>?_))
 refine vcL_pure rfl rfl (Value.string (ByteArray.mk #[])) (fun w=>by kernel_rfl) ?_
 refine vcL_nil ?_
 refine Vc.seq ?_
 refine Vc.region ?_
 refine vcL_eff rfl (opVC_new rfl (fun a=>Value.pointer (some a)) (by kernel_rfl) (newS.mono h fun a1 vw2 hx h=>?_))
 refine vcL_nil ?_
 refine Vc.seq ?_
 obtain ⟨vw3, hvw3⟩ : ∃ y, y = vw2.drew := ⟨_, rfl⟩
 have h := h vw3 hvw3
 refine Vc.draw (by kernel_rfl) (fun i=>!(memN [9] i)) (.pur 0 (.val 1 (.pur 2 (.pur 3 (.pur 4 (.val 5 (.eff 6 (.pur 7 (.pur 8 (.eff 9 .fin .stop))) .stop))))))) (by kernel_rfl) ?_
 rw [← hvw3]
 clear hvw3
 refine vcS_pure rfl rfl rfl (Value.pointer (some a)) (fun w=>by kernel_rfl) ?_
 obtain ⟨t5, hc, h⟩ := h
 refine vcS_val rfl rfl rfl (Value.string t5) (fun w' hx=>exec_load rfl (by kernel_rfl) (run_load1 (fun w=>by kernel_rfl) ((hc).ext hx))) ?_
 obtain ⟨hi, h⟩ := h
 refine vcS_pure rfl rfl rfl (Value.string ((ByteArray.mk #[112, 97, 99, 107, 97, 103, 101, 32]) ++ t5)) (fun w=>by exact exec_str_add (a := (ByteArray.mk #[112, 97, 99, 107, 97, 103, 101, 32])) (b := t5) rfl (by kernel_rfl) (by kernel_rfl) (hi) w) ?_
 obtain ⟨hi4, h⟩ := h
 refine vcS_pure rfl rfl rfl (Value.string (((ByteArray.mk #[112, 97, 99, 107, 97, 103, 101, 32]) ++ t5) ++ (ByteArray.mk #[32]))) (fun w=>by exact exec_str_add (a := ((ByteArray.mk #[112, 97, 99, 107, 97, 103, 101, 32]) ++ t5)) (b := (ByteArray.mk #[32])) rfl (by kernel_rfl) (by kernel_rfl) (hi4) w) ?_
 refine vcS_pure rfl rfl rfl (Value.pointer (some (a.add 1))) (fun w=>by kernel_rfl) ?_
 obtain ⟨zz3y, zz3z, zz40, hc5, h⟩ := h
 refine vcS_val rfl rfl rfl (Value.agg #[(Value.int .i64 zz3y), (Value.int .i64 zz3z), (Value.int .i64 zz40)]) (fun w' hx=>exec_load rfl (by kernel_rfl) (run_loadN (fun w=>by kernel_rfl) (fun w=>by kernel_rfl) ((hc5).ext hx))) ?_
 refine vcS_eff rfl rfl (opVC_call rfl (by kernel_rfl) (callS.mono h fun v vw6 h=>?_)) vcS_stop
 obtain ⟨hx, h⟩ := h
 obtain ⟨t10, rfl, h⟩ := h
 refine ⟨fun _ => hx, ?_⟩
 obtain ⟨hi7, h⟩ := h
 refine vcS_pure rfl rfl rfl (Value.string ((((ByteArray.mk #[112, 97, 99, 107, 97, 103, 101, 32]) ++ t5) ++ (ByteArray.mk #[32])) ++ t10)) (fun w=>by exact exec_str_add (a := (((ByteArray.mk #[112, 97, 99, 107, 97, 103, 101, 32]) ++ t5) ++ (ByteArray.mk #[32]))) (b := t10) rfl (by kernel_rfl) (by kernel_rfl) (hi7) w) ?_
 obtain ⟨hi8, h⟩ := h
 refine vcS_pure rfl rfl rfl (Value.string (((((ByteArray.mk #[112, 97, 99, 107, 97, 103, 101, 32]) ++ t5) ++ (ByteArray.mk #[32])) ++ t10) ++ (ByteArray.mk #[10]))) (fun w=>by exact exec_str_add (a := ((((ByteArray.mk #[112, 97, 99, 107, 97, 103, 101, 32]) ++ t5) ++ (ByteArray.mk #[32])) ++ t10)) (b := (ByteArray.mk #[10])) rfl (by kernel_rfl) (by kernel_rfl) (hi8) w) ?_
 refine vcS_eff rfl rfl (opVC_call rfl (by kernel_rfl) (callS.mono h fun v10 vw9 h=>?_)) vcS_stop
 obtain ⟨t13, t13b, rfl, h⟩ := h
 refine ⟨fun hb=>absurd hb (by decide), ?_⟩
 refine vcS_fin ?_
 refine Vc.seq ?_
 refine Vc.region ?_
 refine vcL_pure rfl rfl (Value.pointer (some (a.add 4))) (fun w=>by kernel_rfl) ?_
 obtain ⟨t15, hc12, h⟩ := h
 refine vcL_val rfl rfl (Sl.v t15) (exec_load rfl (by kernel_rfl) (run_load1 (fun w=>by kernel_rfl) ((hc12)))) ?_
 refine vcL_eff rfl (opVC_call rfl (by kernel_rfl) (callS.mono h fun v14 vw13 h=>?_))
 obtain ⟨rfl, h⟩ := h
 refine vcL_nil ?_
 refine Vc.seq ?_
 refine Vc.region ?_
 refine vcL_pure rfl rfl (Value.pointer (some (a.add 5))) (fun w=>by kernel_rfl) ?_
 obtain ⟨t18, hc16, h⟩ := h
 refine vcL_val rfl rfl (Sl.v t18) (exec_load rfl (by kernel_rfl) (run_load1 (fun w=>by kernel_rfl) ((hc16)))) ?_
 refine vcL_eff rfl (opVC_call rfl (by kernel_rfl) (callS.mono h fun v18 vw17 h=>?_))
 obtain ⟨rfl, h⟩ := h
 refine vcL_nil ?_
 refine Vc.seq ?_
 refine Vc.region ?_
 refine vcL_pure rfl rfl (Value.pointer (some (a.add 6))) (fun w=>by kernel_rfl) ?_
 obtain ⟨t21, hc20, h⟩ := h
 refine vcL_val rfl rfl (Sl.v t21) (exec_load rfl (by kernel_rfl) (run_load1 (fun w=>by kernel_rfl) ((hc20)))) ?_
 refine vcL_eff rfl (opVC_call rfl (by kernel_rfl) (callS.mono h fun v22 vw21 h=>?_))
 obtain ⟨rfl, h⟩ := h
 refine vcL_nil ?_
 refine Vc.seq ?_
 refine Vc.region ?_
 refine vcL_eff rfl (opVC_call rfl (by kernel_rfl) (callS.mono h fun v25 vw24 h=>?_))
 obtain ⟨t23, rfl, h⟩ := h
 refine vcL_pure rfl rfl (Value.string t23) (fun w=>by kernel_rfl) ?_
 refine vcL_nil ?_
 refine Vc.ret ?_
 refine outs_ret ?_
 refine done_mk (Value.string t23) (res1 (resC_tmp (by kernel_rfl))) ?_
 exact ⟨t23, rfl, h⟩
theorem pack_text.go {zz4 : ByteArray} {zz7 : Int} {zz8 : Int} {zz9 : Int} {zz3 : Sl} {zz6 : Sl} {zz5 : Sl} {w : World} {k : Value → World → Prop} (h : pack_text zz4 zz7 zz8 zz9 zz3 zz6 zz5 w fun r0 w'=>k (Value.string r0) w') : callS Tryz.prog 107 [(Value.agg #[(Value.string zz4), (Value.int .i64 zz7), (Value.int .i64 zz8), (Value.int .i64 zz9), (Sl.v zz3), (Sl.v zz6), (Sl.v zz5)])] w k := (pack_text.sound zz4 zz7 zz8 zz9 zz3 zz6 zz5 w _ h).mono (by rintro _ _ ⟨r0, rfl, h⟩; exact h)
def catalog_own (l : Sl) (w : World) (R : Sl → World → Prop) : Prop :=
 loop2 Sl.nil 0 w fun out t8 vw nxt=>((t8 < (l.len : Int) → ∃ (ad : Addr), (l.a = some ad ∧ (0 : Int) ≤ t8 ∧ t8 < (l.len : Int)) ∧ ∃ (zzg : ByteArray) (zzh : Sl), (ldc vw (ad.add (t8.toNat * 2)) [(Value.string zzg), (Sl.v zzh)]) ∧ newS vw [(Value.string (ByteArray.mk #[])), (Sl.v Sl.nil)] 81 fun a vw1=>stw vw1 a [(Value.string zzg), (Sl.v zzh)] fun vw2=>bnd vw2.drew fun (vw3 : World)=>∃ (t14 : ByteArray), (ldc vw3 a [(Value.string t14)]) ∧ ∃ (t16 : Sl), (ldc vw3 (a.add 1) [(Sl.v t16)]) ∧ callX Tryz.prog 90 [(Sl.v t16)] vw3 fun v vw6=>∃ (t17 : Sl), v = (Sl.v t17) ∧ newS vw6 [(Value.string t14), (Sl.v t17)] 81 fun a7 vw8=>appS Tryz.prog 23 23 out (Sl.v (Sl.mk (some a7) 1 1)) vw8 fun t20 vw9=>nxt t20 (wrapI (t8 + 1)) vw9) ∧ (¬ (t8 < (l.len : Int)) → R out vw))
set_option maxHeartbeats 8000000 in
theorem catalog_own.sound (l : Sl) (w : World) (R : Sl → World → Prop) (h : catalog_own l w R) : callS Tryz.prog 108 [(Sl.v l)] w (fun v w'=>∃ (r0 : Sl), v = (Sl.v r0) ∧ R r0 w') := by
 unfold catalog_own at h
 refine calls_of_vc 23 rfl Tryz.func108 rfl (by kernel_rfl) (by simp) ?_
 refine Vc.seq ?_
 refine Vc.region ?_
 refine vcL_pure rfl rfl (Sl.v Sl.nil) (fun w=>by kernel_rfl) ?_
 refine vcL_nil ?_
 refine Vc.seq ?_
 refine Vc.region ?_
 refine vcL_pure rfl rfl (Sl.v Sl.nil) (fun w=>by kernel_rfl) ?_
 refine vcL_nil ?_
 refine Vc.seq ?_
 refine Vc.seq ?_
 refine Vc.region ?_
 refine vcL_purs 3 [(8, (Value.int .i64 0)), (7, (Value.int .i64 (l.len : Int))), (6, (Sl.v l))] (by kernel_rfl) ?_
 refine vcL_nil ?_
 refine Vc.block ?_
 obtain ⟨vI, mu, h, hr⟩ := h
 refine Vc.loopJ (σ := Sl × Int) [3, 8] [5, 9, 10, 11, 12, 13, 14, 15, 16, 17, 18, 19, 20, 21] (fun s=>[(3, (Sl.v s.1)), (8, (Value.int .i64 s.2))]) (fun s w=>vI s.1 s.2 w) (fun s w=>mu s.1 s.2 w) (Sl.nil, 0) h (fun _ => rfl) (by kernel_rfl) ?_
 rintro ⟨out, t8⟩ vw j h
 have h := hr out t8 vw h
 refine Vc.seq ?_
 refine Vc.region ?_
 refine vcL_pure rfl rfl (Value.bool (decide (t8 < (l.len : Int)))) (fun w=>by kernel_rfl) ?_
 refine vcL_nil ?_
 refine Vc.seq ?_
 refine Vc.cond (decide (t8 < (l.len : Int))) (by kernel_rfl) (fun hb=>?_) (fun hb=>?_)
 ·have h := h.1 (of_decide_eq_true hb)
  refine Vc.skip ?_
  refine Vc.seq ?_
  refine Vc.block ?_
  refine Vc.seq ?_
  refine Vc.region ?_
  obtain ⟨ad, hi, h⟩ := h
  refine vcL_pure rfl rfl (Value.pointer (some (ad.add (t8.toNat * 2)))) (fun w=>by exact exec_indexAt (s := l) (el := 81) rfl (by kernel_rfl) (by kernel_rfl) (by kernel_rfl) (fun w=>by kernel_rfl) (hi).1 (hi).2.1 (hi).2.2 w) ?_
  obtain ⟨zzg, zzh, hc, h⟩ := h
  refine vcL_val rfl rfl (Value.agg #[(Value.string zzg), (Sl.v zzh)]) (exec_load rfl (by kernel_rfl) (run_loadN (fun w=>by kernel_rfl) (fun w=>by kernel_rfl) ((hc)))) ?_
  refine vcL_eff rfl (opVC_new rfl (fun a=>Value.pointer (some a)) (by kernel_rfl) (newS.mono h fun a vw1 hx h=>?_))
  refine vcL_eff rfl (opVC_store rfl rfl (a := a) (by kernel_rfl) (v := (Value.agg #[(Value.string zzg), (Sl.v zzh)])) (by kernel_rfl) [(Value.string zzg), (Sl.v zzh)] (by kernel_rfl) (fun w=>by kernel_rfl) (by kernel_rfl) (stw.mono h fun vw2 h=>?_))
  refine vcL_nil ?_
  obtain ⟨vw3, hvw3⟩ : ∃ y, y = vw2.drew := ⟨_, rfl⟩
  have h := h vw3 hvw3
  refine Vc.draw (by kernel_rfl) (fun i=>!(memN [7, 8] i)) (.pur 0 (.pur 1 (.val 2 (.pur 3 (.val 4 (.eff 5 (.pur 6 (.eff 7 (.eff 8 (.pur 9 .fin) .stop) .stop)) .stop)))))) (by kernel_rfl) ?_
  rw [← hvw3]
  clear hvw3
  refine vcS_pure rfl rfl rfl (Sl.v out) (fun w=>by kernel_rfl) ?_
  refine vcS_pure rfl rfl rfl (Value.pointer (some a)) (fun w=>by kernel_rfl) ?_
  obtain ⟨t14, hc4, h⟩ := h
  refine vcS_val rfl rfl rfl (Value.string t14) (fun w' hx=>exec_load rfl (by kernel_rfl) (run_load1 (fun w=>by kernel_rfl) ((hc4).ext hx))) ?_
  refine vcS_pure rfl rfl rfl (Value.pointer (some (a.add 1))) (fun w=>by kernel_rfl) ?_
  obtain ⟨t16, hc5, h⟩ := h
  refine vcS_val rfl rfl rfl (Sl.v t16) (fun w' hx=>exec_load rfl (by kernel_rfl) (run_load1 (fun w=>by kernel_rfl) ((hc5).ext hx))) ?_
  refine vcS_eff rfl rfl (opVC_call rfl (by kernel_rfl) (callS.mono h fun v vw6 h=>?_)) vcS_stop
  obtain ⟨hx, h⟩ := h
  obtain ⟨t17, rfl, h⟩ := h
  refine ⟨fun _ => hx, ?_⟩
  refine vcS_pure rfl rfl rfl (Value.agg #[(Value.string t14), (Sl.v t17)]) (fun w=>by kernel_rfl) ?_
  refine vcS_eff rfl rfl (opVC_new rfl (fun a=>Value.slice (some a) 1 1) (by kernel_rfl) (newS.mono h fun a7 vw8 hx h=>?_)) vcS_stop
  refine ⟨fun hb=>absurd hb (by decide), ?_⟩
  refine vcS_eff rfl rfl (opVC_sem rfl (c := Builtin.append_ #[23, 23] 23 #[(Sl.v out), (Sl.v (Sl.mk (some a7) 1 1))]) (by kernel_rfl) (appS.elim (ty := 23) h fun t20 vw9 h=>?_)) vcS_stop
  refine ⟨fun hb=>absurd hb (by decide), ?_⟩
  refine vcS_pure rfl rfl rfl (Sl.v t20) (fun w=>by kernel_rfl) ?_
  refine vcS_fin ?_
  refine Vc.region ?_
  refine vcL_purs 2 [(8, (Value.int .i64 (wrapI (t8 + 1)))), (21, (Value.int .i64 (wrapI (t8 + 1))))] (by kernel_rfl) ?_
  refine vcL_nil ?_
  exact ⟨(t20, (wrapI (t8 + 1))), 32, ⟨rfl, by kernel_rfl, by kernel_rfl, by kernel_rfl⟩, h⟩
 ·have h := h.2 (of_decide_eq_false hb)
  refine Vc.exit ?_
  refine outOf_hit ?_
  refine Vc.seq ?_
  refine Vc.region ?_
  refine vcL_purs 2 [(2, (Sl.v out)), (22, (Sl.v out))] (by kernel_rfl) ?_
  refine vcL_nil ?_
  refine Vc.ret ?_
  refine outs_ret ?_
  refine done_mk (Sl.v out) (res1 (resC_tmp (by kernel_rfl))) ?_
  exact ⟨out, rfl, h⟩
theorem catalog_own.go {l : Sl} {w : World} {k : Value → World → Prop} (h : catalog_own l w fun r0 w'=>k (Sl.v r0) w') : callS Tryz.prog 108 [(Sl.v l)] w k := (catalog_own.sound l w _ h).mono (by rintro _ _ ⟨r0, rfl, h⟩; exact h)
def halyardref02_part (n : Int) (w : World) (R : Bool → World → Prop) : Prop :=
 bnd (decide (0 ≤ n)) fun (b : Bool)=>R (b && (decide (n ≤ 999))) w
set_option maxHeartbeats 8000000 in
theorem halyardref02_part.sound (n : Int) (w : World) (R : Bool → World → Prop) (h : halyardref02_part n w R) : callS Tryz.prog 115 [(Value.int .i64 n)] w (fun v w'=>∃ (r0 : Bool), v = (Value.bool r0) ∧ R r0 w') := by
 unfold halyardref02_part at h
 refine calls_of_vc 9 rfl Tryz.func115 rfl (by kernel_rfl) (by simp) ?_
 refine Vc.seq ?_
 refine Vc.region ?_
 refine vcL_pure rfl rfl (Value.bool false) (fun w=>by kernel_rfl) ?_
 refine vcL_nil ?_
 refine Vc.seq ?_
 refine Vc.region ?_
 refine vcL_purs 2 [(4, (Value.bool (decide (0 ≤ n)))), (3, (Value.int .i64 n))] (by kernel_rfl) ?_
 obtain ⟨b, hb⟩ : ∃ y, y = (decide (0 ≤ n)) := ⟨_, rfl⟩
 have h := h b hb
 refine vcL_pure rfl rfl (Value.bool b) (fun w=>by rw [hb]; kernel_rfl) ?_
 refine vcL_guardP b (wanted_g (d := 5) rfl (by kernel_rfl) b (by kernel_rfl) b (eqT b)) rfl (Value.int .i64 n) (fun hg w=>by subst hg; kernel_rfl) ?_
 refine vcL_guardP b (wanted_g (d := 5) rfl (by kernel_rfl) b (by kernel_rfl) b (eqT b)) rfl (Value.bool (decide (n ≤ 999))) (fun hg w=>by subst hg; kernel_rfl) ?_
 refine vcL_pure rfl rfl (Value.bool (b && (decide (n ≤ 999)))) (fun w=>by cases b <;> kernel_rfl) ?_
 refine vcL_pure rfl rfl (Value.bool (b && (decide (n ≤ 999)))) (fun w=>by kernel_rfl) ?_
 refine vcL_nil ?_
 refine Vc.ret ?_
 refine outs_ret ?_
 refine done_mk (Value.bool (b && (decide (n ≤ 999)))) (res1 (resC_tmp (by kernel_rfl))) ?_
 exact ⟨(b && (decide (n ≤ 999))), rfl, h⟩
theorem halyardref02_part.go {n : Int} {w : World} {k : Value → World → Prop} (h : halyardref02_part n w fun r0 w'=>k (Value.bool r0) w') : callS Tryz.prog 115 [(Value.int .i64 n)] w k := (halyardref02_part.sound n w _ h).mono (by rintro _ _ ⟨r0, rfl, h⟩; exact h)
def halyardref02_Rank (zz0 : Int) (zz1 : Int) (zz2 : Int) (w : World) (R : Int → Bool → World → Prop) : Prop :=
 newS w [(Value.int .i64 zz0), (Value.int .i64 zz1), (Value.int .i64 zz2)] 30 fun a vw=>∃ (zzx : Int) (zzy : Int) (zzz : Int), (ldc vw a [(Value.int .i64 zzx), (Value.int .i64 zzy), (Value.int .i64 zzz)]) ∧ callS Tryz.prog 80 [(Value.agg #[(Value.int .i64 zzx), (Value.int .i64 zzy), (Value.int .i64 zzz)])] vw fun v vw1=>∃ (t5 : Bool), v = (Value.bool t5) ∧ (((!t5) = true → R 0 false vw1) ∧ ((!t5) = false → ∃ (t8 : Int), (ldc vw1 a [(Value.int .i64 t8)]) ∧ ∃ (t11 : Int), (ldc vw1 (a.add 1) [(Value.int .i64 t11)]) ∧ ∃ (t15 : Int), (ldc vw1 (a.add 2) [(Value.int .i64 t15)]) ∧ R (wrapI ((wrapI ((wrapI ((wrapI (t8 * 1000)) + t11)) * 1000)) + t15)) true vw1))
set_option maxHeartbeats 8000000 in
theorem halyardref02_Rank.sound (zz0 : Int) (zz1 : Int) (zz2 : Int) (w : World) (R : Int → Bool → World → Prop) (h : halyardref02_Rank zz0 zz1 zz2 w R) : callS Tryz.prog 116 [(Value.agg #[(Value.int .i64 zz0), (Value.int .i64 zz1), (Value.int .i64 zz2)])] w (fun v w'=>∃ (r0 : Int) (r1 : Bool), v = (Value.tuple #[(Value.int .i64 r0), (Value.bool r1)]) ∧ R r0 r1 w') := by
 unfold halyardref02_Rank at h
 refine calls_of_vc 17 rfl Tryz.func116 rfl (by kernel_rfl) (by simp) ?_
 refine Vc.seq ?_
 refine Vc.region ?_
 refine vcL_eff rfl (opVC_new rfl (fun a=>Value.pointer (some a)) (by kernel_rfl) (newS.mono h fun a vw hx h=>?_))
 refine vcL_purs 2 [(3, (Value.bool false)), (2, (Value.int .i64 0))] (by kernel_rfl) ?_
 refine vcL_nil ?_
 refine Vc.seq ?_
 refine Vc.seq ?_
 refine Vc.region ?_
 obtain ⟨zzx, zzy, zzz, hc, h⟩ := h
 refine vcL_val rfl rfl (Value.agg #[(Value.int .i64 zzx), (Value.int .i64 zzy), (Value.int .i64 zzz)]) (exec_load rfl (by kernel_rfl) (run_loadN (fun w=>by kernel_rfl) (fun w=>by kernel_rfl) ((hc)))) ?_
 refine vcL_eff rfl (opVC_call rfl (by kernel_rfl) (callS.mono h fun v vw1 h=>?_))
 obtain ⟨t5, rfl, h⟩ := h
 refine vcL_pure rfl rfl (Value.bool (!t5)) (fun w=>by kernel_rfl) ?_
 refine vcL_nil ?_
 refine Vc.cond (!t5) (by kernel_rfl) (fun hb=>?_) (fun hb=>?_)
 ·have h := h.1 (hb)
  refine Vc.seq ?_
  refine Vc.region ?_
  refine vcL_purs 2 [(3, (Value.bool false)), (2, (Value.int .i64 0))] (by kernel_rfl) ?_
  refine vcL_nil ?_
  refine Vc.ret ?_
  refine outs_ret ?_
  refine done_mk (Value.tuple #[(Value.int .i64 0), (Value.bool false)]) (res2 (resC_tmp (by kernel_rfl)) (resC_tmp (by kernel_rfl))) ?_
  exact ⟨0, false, rfl, h⟩
 ·have h := h.2 (hb)
  refine Vc.skip ?_
  refine Vc.seq ?_
  refine Vc.region ?_
  refine vcL_pure rfl rfl (Value.pointer (some a)) (fun w=>by kernel_rfl) ?_
  obtain ⟨t8, hc2, h⟩ := h
  refine vcL_val rfl rfl (Value.int .i64 t8) (exec_load rfl (by kernel_rfl) (run_load1 (fun w=>by kernel_rfl) ((hc2)))) ?_
  refine vcL_purs 2 [(10, (Value.pointer (some (a.add 1)))), (9, (Value.int .i64 (wrapI (t8 * 1000))))] (by kernel_rfl) ?_
  obtain ⟨t11, hc3, h⟩ := h
  refine vcL_val rfl rfl (Value.int .i64 t11) (exec_load rfl (by kernel_rfl) (run_load1 (fun w=>by kernel_rfl) ((hc3)))) ?_
  refine vcL_purs 3 [(14, (Value.pointer (some (a.add 2)))), (13, (Value.int .i64 (wrapI ((wrapI ((wrapI (t8 * 1000)) + t11)) * 1000)))), (12, (Value.int .i64 (wrapI ((wrapI (t8 * 1000)) + t11))))] (by kernel_rfl) ?_
  obtain ⟨t15, hc4, h⟩ := h
  refine vcL_val rfl rfl (Value.int .i64 t15) (exec_load rfl (by kernel_rfl) (run_load1 (fun w=>by kernel_rfl) ((hc4)))) ?_
  refine vcL_purs 3 [(3, (Value.bool true)), (2, (Value.int .i64 (wrapI ((wrapI ((wrapI ((wrapI (t8 * 1000)) + t11)) * 1000)) + t15)))), (16, (Value.int .i64 (wrapI ((wrapI ((wrapI ((wrapI (t8 * 1000)) + t11)) * 1000)) + t15))))] (by kernel_rfl) ?_
  refine vcL_nil ?_
  refine Vc.ret ?_
  refine outs_ret ?_
  refine done_mk (Value.tuple #[(Value.int .i64 (wrapI ((wrapI ((wrapI ((wrapI (t8 * 1000)) + t11)) * 1000)) + t15))), (Value.bool true)]) (res2 (resC_tmp (by kernel_rfl)) (resC_tmp (by kernel_rfl))) ?_
  exact ⟨(wrapI ((wrapI ((wrapI ((wrapI (t8 * 1000)) + t11)) * 1000)) + t15)), true, rfl, h⟩
theorem halyardref02_Rank.go {zz0 : Int} {zz1 : Int} {zz2 : Int} {w : World} {k : Value → World → Prop} (h : halyardref02_Rank zz0 zz1 zz2 w fun r0 r1 w'=>k (Value.tuple #[(Value.int .i64 r0), (Value.bool r1)]) w') : callS Tryz.prog 116 [(Value.agg #[(Value.int .i64 zz0), (Value.int .i64 zz1), (Value.int .i64 zz2)])] w k := (halyardref02_Rank.sound zz0 zz1 zz2 w _ h).mono (by rintro _ _ ⟨r0, r1, rfl, h⟩; exact h)
def slices_SortStableFunc_apiWantapiWant (x : Sl) (cmp : Value) (w : World) (R : World → Prop) : Prop :=
 callS Tryz.prog 166 [(Sl.v x), (Value.int .i64 (x.len : Int)), cmp] w fun v vw=>v = (Value.tuple #[]) ∧ R vw
set_option maxHeartbeats 8000000 in
theorem slices_SortStableFunc_apiWantapiWant.sound (x : Sl) (cmp : Value) (w : World) (R : World → Prop) (h : slices_SortStableFunc_apiWantapiWant x cmp w R) : callS Tryz.prog 119 [(Sl.v x), cmp] w (fun v w'=>v = (Value.tuple #[]) ∧ R w') := by
 unfold slices_SortStableFunc_apiWantapiWant at h
 refine calls_of_vc 9 rfl Tryz.func119 rfl (by kernel_rfl) (by simp) ?_
 refine Vc.region ?_
 refine vcL_purs 4 [(7, cmp), (6, (Value.int .i64 (x.len : Int))), (5, (Sl.v x)), (4, (Sl.v x))] (by kernel_rfl) ?_
 refine vcL_eff rfl (opVC_call rfl (by kernel_rfl) (callS.mono h fun v vw h=>?_))
 obtain ⟨rfl, h⟩ := h
 refine vcL_nil ?_
 refine done_mk (Value.tuple #[]) (res0 ) ?_
 exact ⟨rfl, h⟩
theorem slices_SortStableFunc_apiWantapiWant.go {x : Sl} {cmp : Value} {w : World} {k : Value → World → Prop} (h : slices_SortStableFunc_apiWantapiWant x cmp w fun  w'=>k (Value.tuple #[]) w') : callS Tryz.prog 119 [(Sl.v x), cmp] w k := (slices_SortStableFunc_apiWantapiWant.sound x cmp w _ h).mono (by rintro _ _ ⟨rfl, h⟩; exact h)
def wants_all_1 (zza : ByteArray) (zz13 : Int) (zz17 : Sl) (zzb : ByteArray) (zz1b : Int) (zz1f : Sl) (w : World) (R : Int → World → Prop) : Prop :=
 newS w [(Value.string zza), (Value.int .i64 zz13), (Sl.v zz17)] 88 fun a vw=>newS vw [(Value.string zzb), (Value.int .i64 zz1b), (Sl.v zz1f)] 88 fun a1 vw2=>∃ (t6 : ByteArray), (ldc vw2 a [(Value.string t6)]) ∧ ∃ (t8 : ByteArray), (ldc vw2 a1 [(Value.string t8)]) ∧ callS Tryz.prog 57 [(Value.string t6), (Value.string t8)] vw2 fun v vw4=>∃ (t9 : Int), v = (Value.int .i64 t9) ∧ R t9 vw4
set_option maxHeartbeats 8000000 in
theorem wants_all_1.sound (zza : ByteArray) (zz13 : Int) (zz17 : Sl) (zzb : ByteArray) (zz1b : Int) (zz1f : Sl) (w : World) (R : Int → World → Prop) (h : wants_all_1 zza zz13 zz17 zzb zz1b zz1f w R) : callS Tryz.prog 120 [(Value.agg #[(Value.string zza), (Value.int .i64 zz13), (Sl.v zz17)]), (Value.agg #[(Value.string zzb), (Value.int .i64 zz1b), (Sl.v zz1f)])] w (fun v w'=>∃ (r0 : Int), v = (Value.int .i64 r0) ∧ R r0 w') := by
 unfold wants_all_1 at h
 refine calls_of_vc 10 rfl Tryz.func120 rfl (by kernel_rfl) (by simp) ?_
 refine Vc.seq ?_
 refine Vc.region ?_
 refine vcL_eff rfl (opVC_new rfl (fun a=>Value.pointer (some a)) (by kernel_rfl) (newS.mono h fun a vw hx h=>?_))
 refine vcL_eff rfl (opVC_new rfl (fun a=>Value.pointer (some a)) (by kernel_rfl) (newS.mono h fun a1 vw2 hx h=>?_))
 refine vcL_pure rfl rfl (Value.int .i64 0) (fun w=>by kernel_rfl) ?_
 refine vcL_nil ?_
 refine Vc.seq ?_
 refine Vc.region ?_
 refine vcL_pure rfl rfl (Value.pointer (some a)) (fun w=>by kernel_rfl) ?_
 obtain ⟨t6, hc, h⟩ := h
 refine vcL_val rfl rfl (Value.string t6) (exec_load rfl (by kernel_rfl) (run_load1 (fun w=>by kernel_rfl) ((hc)))) ?_
 refine vcL_pure rfl rfl (Value.pointer (some a1)) (fun w=>by kernel_rfl) ?_
 obtain ⟨t8, hc3, h⟩ := h
 refine vcL_val rfl rfl (Value.string t8) (exec_load rfl (by kernel_rfl) (run_load1 (fun w=>by kernel_rfl) ((hc3)))) ?_
 refine vcL_eff rfl (opVC_call rfl (by kernel_rfl) (callS.mono h fun v vw4 h=>?_))
 obtain ⟨t9, rfl, h⟩ := h
 refine vcL_pure rfl rfl (Value.int .i64 t9) (fun w=>by kernel_rfl) ?_
 refine vcL_nil ?_
 refine Vc.ret ?_
 refine outs_ret ?_
 refine done_mk (Value.int .i64 t9) (res1 (resC_tmp (by kernel_rfl))) ?_
 exact ⟨t9, rfl, h⟩
theorem wants_all_1.go {zza : ByteArray} {zz13 : Int} {zz17 : Sl} {zzb : ByteArray} {zz1b : Int} {zz1f : Sl} {w : World} {k : Value → World → Prop} (h : wants_all_1 zza zz13 zz17 zzb zz1b zz1f w fun r0 w'=>k (Value.int .i64 r0) w') : callS Tryz.prog 120 [(Value.agg #[(Value.string zza), (Value.int .i64 zz13), (Sl.v zz17)]), (Value.agg #[(Value.string zzb), (Value.int .i64 zz1b), (Sl.v zz1f)])] w k := (wants_all_1.sound zza zz13 zz17 zzb zz1b zz1f w _ h).mono (by rintro _ _ ⟨r0, rfl, h⟩; exact h)
def slices_Clip_apiWantapiWant (vs : Sl) (w : World) (R : Sl → World → Prop) : Prop :=
 ((0 : Int) ≤ 0 ∧ 0 ≤ (vs.len : Int) ∧ (vs.len : Int) ≤ (vs.len : Int) ∧ (vs.len : Int) ≤ (vs.cap : Int)) ∧ R (Sl.mk (if (vs.len : Int).toNat = 0 then vs.a else vs.a.map (·.add (0 * 3))) ((vs.len : Int).toNat - 0) ((vs.len : Int).toNat - 0)) w
set_option maxHeartbeats 8000000 in
theorem slices_Clip_apiWantapiWant.sound (vs : Sl) (w : World) (R : Sl → World → Prop) (h : slices_Clip_apiWantapiWant vs w R) : callS Tryz.prog 121 [(Sl.v vs)] w (fun v w'=>∃ (r0 : Sl), v = (Sl.v r0) ∧ R r0 w') := by
 unfold slices_Clip_apiWantapiWant at h
 refine calls_of_vc 9 rfl Tryz.func121 rfl (by kernel_rfl) (by simp) ?_
 refine Vc.seq ?_
 refine Vc.region ?_
 refine vcL_pure rfl rfl (Sl.v Sl.nil) (fun w=>by kernel_rfl) ?_
 refine vcL_nil ?_
 refine Vc.seq ?_
 refine Vc.region ?_
 refine vcL_purs 5 [(7, (Value.int .i64 (vs.len : Int))), (6, (Sl.v vs)), (5, (Value.int .i64 (vs.len : Int))), (4, (Sl.v vs)), (3, (Sl.v vs))] (by kernel_rfl) ?_
 obtain ⟨hi, h⟩ := h
 refine vcL_pure rfl rfl (Sl.v (Sl.mk (if (vs.len : Int).toNat = 0 then vs.a else vs.a.map (·.add (0 * 3))) ((vs.len : Int).toNat - 0) ((vs.len : Int).toNat - 0))) (fun w=>by exact exec_slSlHM (s := vs) (el := 88) (k2 := .i64) (k3 := .i64) rfl (by kernel_rfl) (by kernel_rfl) (by kernel_rfl) (by kernel_rfl) (fun w=>by kernel_rfl) (hi) w) ?_
 refine vcL_pure rfl rfl (Sl.v (Sl.mk (if (vs.len : Int).toNat = 0 then vs.a else vs.a.map (·.add (0 * 3))) ((vs.len : Int).toNat - 0) ((vs.len : Int).toNat - 0))) (fun w=>by kernel_rfl) ?_
 refine vcL_nil ?_
 refine Vc.ret ?_
 refine outs_ret ?_
 refine done_mk (Sl.v (Sl.mk (if (vs.len : Int).toNat = 0 then vs.a else vs.a.map (·.add (0 * 3))) ((vs.len : Int).toNat - 0) ((vs.len : Int).toNat - 0))) (res1 (resC_tmp (by kernel_rfl))) ?_
 exact ⟨(Sl.mk (if (vs.len : Int).toNat = 0 then vs.a else vs.a.map (·.add (0 * 3))) ((vs.len : Int).toNat - 0) ((vs.len : Int).toNat - 0)), rfl, h⟩
theorem slices_Clip_apiWantapiWant.go {vs : Sl} {w : World} {k : Value → World → Prop} (h : slices_Clip_apiWantapiWant vs w fun r0 w'=>k (Sl.v r0) w') : callS Tryz.prog 121 [(Sl.v vs)] w k := (slices_Clip_apiWantapiWant.sound vs w _ h).mono (by rintro _ _ ⟨r0, rfl, h⟩; exact h)
def halyardref09_placed (l : Sl) (zz1k : ByteArray) (zz1j : Int) (zz1l : Sl) (w : World) (R : Sl → World → Prop) : Prop :=
 newS w [(Value.string zz1k), (Value.int .i64 zz1j), (Sl.v zz1l)] 88 fun a vw=>loop1 (l.len : Int) vw fun i vw1 nxt=>bnd vw1.drew fun (vw2 : World)=>bnd (decide (0 < i)) fun (b : Bool)=>∃ (t13 : ByteArray), grd b (ldc vw2 a [(Value.string t13)]) ∧ ∃ (ad : Addr), grd b (l.a = some ad ∧ (0 : Int) ≤ (wrapI (i - 1)) ∧ (wrapI (i - 1)) < (l.len : Int)) ∧ ∃ (t19 : ByteArray), grd b (ldc vw2 (ad.add ((wrapI (i - 1)).toNat * 3)) [(Value.string t19)]) ∧ gCall b (fun (t20 : Bool) (vw4 : World)=>(((b && t20) = true → nxt (wrapI (i - 1)) vw4) ∧ ((b && t20) = false → ((0 : Int) ≤ i ∧ i ≤ (l.cap : Int)) ∧ appS Tryz.prog 75 75 Sl.nil (Sl.v (Sl.cut l 0 i.toNat 3)) vw4 fun t28 vw6=>∃ (zzv : ByteArray) (zz3b : Int) (zzw : Sl), (ldc vw6 a [(Value.string zzv), (Value.int .i64 zz3b), (Sl.v zzw)]) ∧ newS vw6 [(Value.string zzv), (Value.int .i64 zz3b), (Sl.v zzw)] 88 fun a8 vw9=>appS Tryz.prog 75 75 t28 (Sl.v (Sl.mk (some a8) 1 1)) vw9 fun t32 vw10=>((0 : Int) ≤ i ∧ i ≤ (l.len : Int)) ∧ appS Tryz.prog 75 75 t32 (Sl.v (Sl.cut l i.toNat l.len 3)) vw10 fun t37 vw12=>R t37 vw12))) (fun q=>callS Tryz.prog 15 [(Value.string t13), (Value.string t19)] vw2 fun v vw4=>∃ (t20 : Bool), v = (Value.bool t20) ∧ q t20 vw4) (fun q=>q false vw2)
set_option maxHeartbeats 8000000 in
theorem halyardref09_placed.sound (l : Sl) (zz1k : ByteArray) (zz1j : Int) (zz1l : Sl) (w : World) (R : Sl → World → Prop) (h : halyardref09_placed l zz1k zz1j zz1l w R) : callS Tryz.prog 122 [(Sl.v l), (Value.agg #[(Value.string zz1k), (Value.int .i64 zz1j), (Sl.v zz1l)])] w (fun v w'=>∃ (r0 : Sl), v = (Sl.v r0) ∧ R r0 w') := by
 unfold halyardref09_placed at h
 refine calls_of_vc 39 rfl Tryz.func122 rfl (by kernel_rfl) (by simp) ?_
 refine Vc.seq ?_
 refine Vc.region ?_
 refine vcL_eff rfl (opVC_new rfl (fun a=>Value.pointer (some a)) (by kernel_rfl) (newS.mono h fun a vw hx h=>?_))
 refine vcL_pure rfl rfl (Sl.v Sl.nil) (fun w=>by kernel_rfl) ?_
 refine vcL_nil ?_
 refine Vc.seq ?_
 refine Vc.region ?_
 refine vcL_purs 3 [(5, (Value.int .i64 (l.len : Int))), (8, (Value.int .i64 (l.len : Int))), (7, (Sl.v l))] (by kernel_rfl) ?_
 refine vcL_nil ?_
 refine Vc.seq ?_
 refine Vc.block ?_
 obtain ⟨vI, mu, h, hr⟩ := h
 refine Vc.loopJ (σ := Int) [5] [9, 10, 11, 12, 13, 14, 15, 16, 17, 18, 19, 20, 21, 22, 23] (fun s=>[(5, (Value.int .i64 s))]) (fun s w=>vI s w) (fun s w=>mu s w) (l.len : Int) h (fun _ => rfl) (by kernel_rfl) ?_
 intro i vw1 j h
 have h := hr i vw1 h
 refine Vc.seq ?_
 refine Vc.seq ?_
 obtain ⟨vw2, hvw2⟩ : ∃ y, y = vw1.drew := ⟨_, rfl⟩
 have h := h vw2 hvw2
 refine Vc.draw (by kernel_rfl) (fun i=>!(memN [11] i)) (.pur 0 (.pur 1 (.pur 2 (.pur 3 (.val 4 (.pur 5 (.pur 6 (.pur 7 (.pur 8 (.pur 9 (.val 10 (.eff 11 (.pur 12 .fin) .stop)))))))))))) (by kernel_rfl) ?_
 rw [← hvw2]
 clear hvw2
 refine vcS_pure rfl rfl rfl (Value.int .i64 i) (fun w=>by kernel_rfl) ?_
 refine vcS_pure rfl rfl rfl (Value.bool (decide (0 < i))) (fun w=>by kernel_rfl) ?_
 obtain ⟨b, hb⟩ : ∃ y, y = (decide (0 < i)) := ⟨_, rfl⟩
 have h := h b hb
 refine vcS_pure rfl rfl rfl (Value.bool b) (fun w=>by rw [hb]; kernel_rfl) ?_
 refine vcS_guard rfl b (wanted_g (d := 11) rfl (by kernel_rfl) b (by kernel_rfl) b (eqT b)) rfl (Value.pointer (some a)) (fun hg w=>by subst hg; kernel_rfl) ?_
 obtain ⟨t13, hc, h⟩ := h
 refine vcS_valG rfl b (wanted_g (d := 11) rfl (by kernel_rfl) b (by kernel_rfl) b (eqT b)) rfl (Value.string t13) (fun hg w' hx=>by subst hg; exact exec_load rfl (by kernel_rfl) (run_load1 (fun w=>by kernel_rfl) ((hc rfl).ext hx))) ?_
 refine vcS_guard rfl b (wanted_g (d := 11) rfl (by kernel_rfl) b (by kernel_rfl) b (eqT b)) rfl (Sl.v l) (fun hg w=>by subst hg; kernel_rfl) ?_
 refine vcS_guard rfl b (wanted_g (d := 11) rfl (by kernel_rfl) b (by kernel_rfl) b (eqT b)) rfl (Value.int .i64 i) (fun hg w=>by subst hg; kernel_rfl) ?_
 refine vcS_guard rfl b (wanted_g (d := 11) rfl (by kernel_rfl) b (by kernel_rfl) b (eqT b)) rfl (Value.int .i64 (wrapI (i - 1))) (fun hg w=>by subst hg; kernel_rfl) ?_
 obtain ⟨ad, hi, h⟩ := h
 refine vcS_guard rfl b (wanted_g (d := 11) rfl (by kernel_rfl) b (by kernel_rfl) b (eqT b)) rfl (Value.pointer (some (ad.add ((wrapI (i - 1)).toNat * 3)))) (fun hg w=>by subst hg; exact exec_indexAt (s := l) (el := 88) rfl (by kernel_rfl) (by kernel_rfl) (by kernel_rfl) (fun w=>by kernel_rfl) (hi rfl).1 (hi rfl).2.1 (hi rfl).2.2 w) ?_
 refine vcS_guard rfl b (wanted_g (d := 11) rfl (by kernel_rfl) b (by kernel_rfl) b (eqT b)) rfl (Value.pointer (some (ad.add ((wrapI (i - 1)).toNat * 3)))) (fun hg w=>by subst hg; kernel_rfl) ?_
 obtain ⟨t19, hc3, h⟩ := h
 refine vcS_valG rfl b (wanted_g (d := 11) rfl (by kernel_rfl) b (by kernel_rfl) b (eqT b)) rfl (Value.string t19) (fun hg w' hx=>by subst hg; exact exec_load rfl (by kernel_rfl) (run_load1 (fun w=>by kernel_rfl) ((hc3 rfl).ext hx))) ?_
 obtain ⟨vJ, hJ, h⟩ := gCall_elim h
 refine vcS_effJ (σ := Bool) rfl b (wanted_g (d := 11) rfl (by kernel_rfl) b (by kernel_rfl) b (eqT b)) rfl (fun s w=>vJ s w) (fun s=>(Value.bool s)) ?_ (fun hg=>opVC_call rfl (by subst hg; kernel_rfl) (callS.mono (h.1 hg) fun v vw4 hq=>?_)) (fun hg=>⟨false, h.2 hg⟩) vcS_stop
 ·intro t20 vw4 h
  subst hJ
  refine vcS_pure rfl rfl rfl (Value.bool (b && t20)) (fun w=>by cases b <;> kernel_rfl) ?_
  refine vcS_fin ?_
  refine Vc.cond (b && t20) (by kernel_rfl) (fun hb=>?_) (fun hb=>?_)
  ·have h := h.1 (hb)
   refine Vc.skip ?_
   refine Vc.block ?_
   refine Vc.region ?_
   refine vcL_purs 3 [(5, (Value.int .i64 (wrapI (i - 1)))), (23, (Value.int .i64 (wrapI (i - 1)))), (22, (Value.int .i64 i))] (by kernel_rfl) ?_
   refine vcL_nil ?_
   exact ⟨(wrapI (i - 1)), 32, ⟨rfl, by kernel_rfl, by kernel_rfl, by kernel_rfl⟩, h⟩
  ·have h := h.2 (hb)
   refine Vc.exit ?_
   refine outOf_hit ?_
   refine Vc.seq ?_
   refine Vc.region ?_
   refine vcL_pure rfl rfl (Sl.v Sl.nil) (fun w=>by kernel_rfl) ?_
   refine vcL_nil ?_
   refine Vc.seq ?_
   refine Vc.region ?_
   refine vcL_purs 3 [(26, (Value.int .i64 i)), (25, (Sl.v l)), (24, (Sl.v Sl.nil))] (by kernel_rfl) ?_
   obtain ⟨hi5, h⟩ := h
   refine vcL_pure rfl rfl (Sl.v (Sl.cut l 0 i.toNat 3)) (fun w=>by exact exec_slSlH (s := l) (el := 88) (k2 := .i64) rfl (by kernel_rfl) (by kernel_rfl) (by kernel_rfl) (fun w=>by kernel_rfl) (hi5) w) ?_
   refine vcL_eff rfl (opVC_sem rfl (c := Builtin.append_ #[75, 75] 75 #[(Sl.v Sl.nil), (Sl.v (Sl.cut l 0 i.toNat 3))]) (by kernel_rfl) (appS.elim (ty := 75) h fun t28 vw6 h=>?_))
   refine vcL_pure rfl rfl (Sl.v t28) (fun w=>by kernel_rfl) ?_
   refine vcL_nil ?_
   refine Vc.seq ?_
   refine Vc.region ?_
   refine vcL_pure rfl rfl (Sl.v t28) (fun w=>by kernel_rfl) ?_
   obtain ⟨zzv, zz3b, zzw, hc7, h⟩ := h
   refine vcL_val rfl rfl (Value.agg #[(Value.string zzv), (Value.int .i64 zz3b), (Sl.v zzw)]) (exec_load rfl (by kernel_rfl) (run_loadN (fun w=>by kernel_rfl) (fun w=>by kernel_rfl) ((hc7)))) ?_
   refine vcL_eff rfl (opVC_new rfl (fun a=>Value.slice (some a) 1 1) (by kernel_rfl) (newS.mono h fun a8 vw9 hx h=>?_))
   refine vcL_eff rfl (opVC_sem rfl (c := Builtin.append_ #[75, 75] 75 #[(Sl.v t28), (Sl.v (Sl.mk (some a8) 1 1))]) (by kernel_rfl) (appS.elim (ty := 75) h fun t32 vw10 h=>?_))
   refine vcL_pure rfl rfl (Sl.v t32) (fun w=>by kernel_rfl) ?_
   refine vcL_nil ?_
   refine Vc.seq ?_
   refine Vc.region ?_
   refine vcL_purs 3 [(35, (Value.int .i64 i)), (34, (Sl.v l)), (33, (Sl.v t32))] (by kernel_rfl) ?_
   obtain ⟨hi11, h⟩ := h
   refine vcL_pure rfl rfl (Sl.v (Sl.cut l i.toNat l.len 3)) (fun w=>by exact exec_slSlL (s := l) (el := 88) (k1 := .i64) rfl (by kernel_rfl) (by kernel_rfl) (by kernel_rfl) (fun w=>by kernel_rfl) (hi11) w) ?_
   refine vcL_eff rfl (opVC_sem rfl (c := Builtin.append_ #[75, 75] 75 #[(Sl.v t32), (Sl.v (Sl.cut l i.toNat l.len 3))]) (by kernel_rfl) (appS.elim (ty := 75) h fun t37 vw12 h=>?_))
   refine vcL_pure rfl rfl (Sl.v t37) (fun w=>by kernel_rfl) ?_
   refine vcL_nil ?_
   refine Vc.seq ?_
   refine Vc.region ?_
   refine vcL_purs 2 [(4, (Sl.v t37)), (38, (Sl.v t37))] (by kernel_rfl) ?_
   refine vcL_nil ?_
   refine Vc.ret ?_
   refine outs_ret ?_
   refine done_mk (Sl.v t37) (res1 (resC_tmp (by kernel_rfl))) ?_
   exact ⟨t37, rfl, h⟩
 ·obtain ⟨t20, rfl, hq⟩ := hq
  exact ⟨fun hb=>absurd hb (by decide), t20, rfl, hq⟩
theorem halyardref09_placed.go {l : Sl} {zz1k : ByteArray} {zz1j : Int} {zz1l : Sl} {w : World} {k : Value → World → Prop} (h : halyardref09_placed l zz1k zz1j zz1l w fun r0 w'=>k (Sl.v r0) w') : callS Tryz.prog 122 [(Sl.v l), (Value.agg #[(Value.string zz1k), (Value.int .i64 zz1j), (Sl.v zz1l)])] w k := (halyardref09_placed.sound l zz1k zz1j zz1l w _ h).mono (by rintro _ _ ⟨r0, rfl, h⟩; exact h)
def vers_Rank (zz0 : Int) (zz1 : Int) (zz2 : Int) (w : World) (R : Int → Bool → World → Prop) : Prop :=
 newS w [(Value.int .i64 zz0), (Value.int .i64 zz1), (Value.int .i64 zz2)] 30 fun a vw=>∃ (zzx : Int) (zzy : Int) (zzz : Int), (ldc vw a [(Value.int .i64 zzx), (Value.int .i64 zzy), (Value.int .i64 zzz)]) ∧ callS Tryz.prog 97 [(Value.agg #[(Value.int .i64 zzx), (Value.int .i64 zzy), (Value.int .i64 zzz)])] vw fun v vw1=>∃ (t5 : Bool), v = (Value.bool t5) ∧ (((!t5) = true → R 0 false vw1) ∧ ((!t5) = false → ∃ (t8 : Int), (ldc vw1 a [(Value.int .i64 t8)]) ∧ ∃ (t11 : Int), (ldc vw1 (a.add 1) [(Value.int .i64 t11)]) ∧ ∃ (t15 : Int), (ldc vw1 (a.add 2) [(Value.int .i64 t15)]) ∧ R (wrapI ((wrapI ((wrapI ((wrapI (t8 * 1000)) + t11)) * 1000)) + t15)) true vw1))
set_option maxHeartbeats 8000000 in
theorem vers_Rank.sound (zz0 : Int) (zz1 : Int) (zz2 : Int) (w : World) (R : Int → Bool → World → Prop) (h : vers_Rank zz0 zz1 zz2 w R) : callS Tryz.prog 123 [(Value.agg #[(Value.int .i64 zz0), (Value.int .i64 zz1), (Value.int .i64 zz2)])] w (fun v w'=>∃ (r0 : Int) (r1 : Bool), v = (Value.tuple #[(Value.int .i64 r0), (Value.bool r1)]) ∧ R r0 r1 w') := by
 unfold vers_Rank at h
 refine calls_of_vc 17 rfl Tryz.func123 rfl (by kernel_rfl) (by simp) ?_
 refine Vc.seq ?_
 refine Vc.region ?_
 refine vcL_eff rfl (opVC_new rfl (fun a=>Value.pointer (some a)) (by kernel_rfl) (newS.mono h fun a vw hx h=>?_))
 refine vcL_purs 2 [(3, (Value.bool false)), (2, (Value.int .i64 0))] (by kernel_rfl) ?_
 refine vcL_nil ?_
 refine Vc.seq ?_
 refine Vc.seq ?_
 refine Vc.region ?_
 obtain ⟨zzx, zzy, zzz, hc, h⟩ := h
 refine vcL_val rfl rfl (Value.agg #[(Value.int .i64 zzx), (Value.int .i64 zzy), (Value.int .i64 zzz)]) (exec_load rfl (by kernel_rfl) (run_loadN (fun w=>by kernel_rfl) (fun w=>by kernel_rfl) ((hc)))) ?_
 refine vcL_eff rfl (opVC_call rfl (by kernel_rfl) (callS.mono h fun v vw1 h=>?_))
 obtain ⟨t5, rfl, h⟩ := h
 refine vcL_pure rfl rfl (Value.bool (!t5)) (fun w=>by kernel_rfl) ?_
 refine vcL_nil ?_
 refine Vc.cond (!t5) (by kernel_rfl) (fun hb=>?_) (fun hb=>?_)
 ·have h := h.1 (hb)
  refine Vc.seq ?_
  refine Vc.region ?_
  refine vcL_purs 2 [(3, (Value.bool false)), (2, (Value.int .i64 0))] (by kernel_rfl) ?_
  refine vcL_nil ?_
  refine Vc.ret ?_
  refine outs_ret ?_
  refine done_mk (Value.tuple #[(Value.int .i64 0), (Value.bool false)]) (res2 (resC_tmp (by kernel_rfl)) (resC_tmp (by kernel_rfl))) ?_
  exact ⟨0, false, rfl, h⟩
 ·have h := h.2 (hb)
  refine Vc.skip ?_
  refine Vc.seq ?_
  refine Vc.region ?_
  refine vcL_pure rfl rfl (Value.pointer (some a)) (fun w=>by kernel_rfl) ?_
  obtain ⟨t8, hc2, h⟩ := h
  refine vcL_val rfl rfl (Value.int .i64 t8) (exec_load rfl (by kernel_rfl) (run_load1 (fun w=>by kernel_rfl) ((hc2)))) ?_
  refine vcL_purs 2 [(10, (Value.pointer (some (a.add 1)))), (9, (Value.int .i64 (wrapI (t8 * 1000))))] (by kernel_rfl) ?_
  obtain ⟨t11, hc3, h⟩ := h
  refine vcL_val rfl rfl (Value.int .i64 t11) (exec_load rfl (by kernel_rfl) (run_load1 (fun w=>by kernel_rfl) ((hc3)))) ?_
  refine vcL_purs 3 [(14, (Value.pointer (some (a.add 2)))), (13, (Value.int .i64 (wrapI ((wrapI ((wrapI (t8 * 1000)) + t11)) * 1000)))), (12, (Value.int .i64 (wrapI ((wrapI (t8 * 1000)) + t11))))] (by kernel_rfl) ?_
  obtain ⟨t15, hc4, h⟩ := h
  refine vcL_val rfl rfl (Value.int .i64 t15) (exec_load rfl (by kernel_rfl) (run_load1 (fun w=>by kernel_rfl) ((hc4)))) ?_
  refine vcL_purs 3 [(3, (Value.bool true)), (2, (Value.int .i64 (wrapI ((wrapI ((wrapI ((wrapI (t8 * 1000)) + t11)) * 1000)) + t15)))), (16, (Value.int .i64 (wrapI ((wrapI ((wrapI ((wrapI (t8 * 1000)) + t11)) * 1000)) + t15))))] (by kernel_rfl) ?_
  refine vcL_nil ?_
  refine Vc.ret ?_
  refine outs_ret ?_
  refine done_mk (Value.tuple #[(Value.int .i64 (wrapI ((wrapI ((wrapI ((wrapI (t8 * 1000)) + t11)) * 1000)) + t15))), (Value.bool true)]) (res2 (resC_tmp (by kernel_rfl)) (resC_tmp (by kernel_rfl))) ?_
  exact ⟨(wrapI ((wrapI ((wrapI ((wrapI (t8 * 1000)) + t11)) * 1000)) + t15)), true, rfl, h⟩
theorem vers_Rank.go {zz0 : Int} {zz1 : Int} {zz2 : Int} {w : World} {k : Value → World → Prop} (h : vers_Rank zz0 zz1 zz2 w fun r0 r1 w'=>k (Value.tuple #[(Value.int .i64 r0), (Value.bool r1)]) w') : callS Tryz.prog 123 [(Value.agg #[(Value.int .i64 zz0), (Value.int .i64 zz1), (Value.int .i64 zz2)])] w k := (vers_Rank.sound zz0 zz1 zz2 w _ h).mono (by rintro _ _ ⟨r0, r1, rfl, h⟩; exact h)
def slices_IndexFunc_apiSpanapiSpan (vs : Sl) (f : Value) (w : World) (R : Int → World → Prop) : Prop :=
 loop1 0 w fun t8 vw nxt=>((t8 < (vs.len : Int) → ∃ (ad : Addr), (vs.a = some ad ∧ (0 : Int) ≤ t8 ∧ t8 < (vs.len : Int)) ∧ ∃ (zzl : Int) (zzm : Int) (zzn : Int) (zzi : Int) (zzj : Int) (zzk : Int), (ldc vw (ad.add (t8.toNat * 6)) [(Value.int .i64 zzl), (Value.int .i64 zzm), (Value.int .i64 zzn), (Value.int .i64 zzi), (Value.int .i64 zzj), (Value.int .i64 zzk)]) ∧ callV Tryz.prog f [(Value.agg #[(Value.int .i64 zzl), (Value.int .i64 zzm), (Value.int .i64 zzn), (Value.int .i64 zzi), (Value.int .i64 zzj), (Value.int .i64 zzk)])] vw fun v vw1=>∃ (t16 : Bool), v = (Value.bool t16) ∧ ((t16 = true → R t8 vw1) ∧ (t16 = false → nxt (wrapI (t8 + 1)) vw1))) ∧ (¬ (t8 < (vs.len : Int)) → R (-1) vw))
set_option maxHeartbeats 8000000 in
theorem slices_IndexFunc_apiSpanapiSpan.sound (vs : Sl) (f : Value) (w : World) (R : Int → World → Prop) (h : slices_IndexFunc_apiSpanapiSpan vs f w R) : callS Tryz.prog 128 [(Sl.v vs), f] w (fun v w'=>∃ (r0 : Int), v = (Value.int .i64 r0) ∧ R r0 w') := by
 unfold slices_IndexFunc_apiSpanapiSpan at h
 refine calls_of_vc 19 rfl Tryz.func128 rfl (by kernel_rfl) (by simp) ?_
 refine Vc.seq ?_
 refine Vc.region ?_
 refine vcL_pure rfl rfl (Value.int .i64 0) (fun w=>by kernel_rfl) ?_
 refine vcL_nil ?_
 refine Vc.seq ?_
 refine Vc.seq ?_
 refine Vc.region ?_
 refine vcL_purs 3 [(8, (Value.int .i64 0)), (7, (Value.int .i64 (vs.len : Int))), (6, (Sl.v vs))] (by kernel_rfl) ?_
 refine vcL_nil ?_
 refine Vc.block ?_
 obtain ⟨vI, mu, h, hr⟩ := h
 refine Vc.loopJ (σ := Int) [8] [4, 5, 9, 10, 11, 12, 13, 14, 15, 16, 17, 18] (fun s=>[(8, (Value.int .i64 s))]) (fun s w=>vI s w) (fun s w=>mu s w) 0 h (fun _ => rfl) (by kernel_rfl) ?_
 intro t8 vw j h
 have h := hr t8 vw h
 refine Vc.seq ?_
 refine Vc.region ?_
 refine vcL_pure rfl rfl (Value.bool (decide (t8 < (vs.len : Int)))) (fun w=>by kernel_rfl) ?_
 refine vcL_nil ?_
 refine Vc.seq ?_
 refine Vc.cond (decide (t8 < (vs.len : Int))) (by kernel_rfl) (fun hb=>?_) (fun hb=>?_)
 ·have h := h.1 (of_decide_eq_true hb)
  refine Vc.skip ?_
  refine Vc.seq ?_
  refine Vc.block ?_
  refine Vc.seq ?_
  refine Vc.region ?_
  refine vcL_purs 2 [(5, (Value.int .i64 t8)), (10, (Value.int .i64 t8))] (by kernel_rfl) ?_
  refine vcL_nil ?_
  refine Vc.seq ?_
  refine Vc.region ?_
  refine vcL_purs 3 [(13, (Value.int .i64 t8)), (12, (Sl.v vs)), (11, f)] (by kernel_rfl) ?_
  obtain ⟨ad, hi, h⟩ := h
  refine vcL_pure rfl rfl (Value.pointer (some (ad.add (t8.toNat * 6)))) (fun w=>by exact exec_indexAt (s := vs) (el := 83) rfl (by kernel_rfl) (by kernel_rfl) (by kernel_rfl) (fun w=>by kernel_rfl) (hi).1 (hi).2.1 (hi).2.2 w) ?_
  obtain ⟨zzl, zzm, zzn, zzi, zzj, zzk, hc, h⟩ := h
  refine vcL_val rfl rfl (Value.agg #[(Value.int .i64 zzl), (Value.int .i64 zzm), (Value.int .i64 zzn), (Value.int .i64 zzi), (Value.int .i64 zzj), (Value.int .i64 zzk)]) (exec_load rfl (by kernel_rfl) (run_loadN (fun w=>by kernel_rfl) (fun w=>by kernel_rfl) ((hc)))) ?_
  refine vcL_eff rfl (opVC_callV rfl rfl (fv := f) (by kernel_rfl) (args := [(Value.agg #[(Value.int .i64 zzl), (Value.int .i64 zzm), (Value.int .i64 zzn), (Value.int .i64 zzi), (Value.int .i64 zzj), (Value.int .i64 zzk)])]) (by kernel_rfl) (callV.mono h fun v vw1 h=>?_))
  obtain ⟨t16, rfl, h⟩ := h
  refine vcL_nil ?_
  refine Vc.cond t16 (by kernel_rfl) (fun hb=>?_) (fun hb=>?_)
  ·have h := h.1 (hb)
   refine Vc.seq ?_
   refine Vc.region ?_
   refine vcL_purs 2 [(4, (Value.int .i64 t8)), (17, (Value.int .i64 t8))] (by kernel_rfl) ?_
   refine vcL_nil ?_
   refine Vc.ret ?_
   refine outOf_ret ?_
   refine outOf_ret ?_
   refine outs_ret ?_
   refine done_mk (Value.int .i64 t8) (res1 (resC_tmp (by kernel_rfl))) ?_
   exact ⟨t8, rfl, h⟩
  ·have h := h.2 (hb)
   refine Vc.skip ?_
   refine Vc.region ?_
   refine vcL_purs 2 [(8, (Value.int .i64 (wrapI (t8 + 1)))), (18, (Value.int .i64 (wrapI (t8 + 1))))] (by kernel_rfl) ?_
   refine vcL_nil ?_
   exact ⟨(wrapI (t8 + 1)), 24, ⟨rfl, by kernel_rfl, by kernel_rfl, by kernel_rfl⟩, h⟩
 ·have h := h.2 (of_decide_eq_false hb)
  refine Vc.exit ?_
  refine outOf_hit ?_
  refine Vc.seq ?_
  refine Vc.region ?_
  refine vcL_pure rfl rfl (Value.int .i64 (-1)) (fun w=>by kernel_rfl) ?_
  refine vcL_nil ?_
  refine Vc.ret ?_
  refine outs_ret ?_
  refine done_mk (Value.int .i64 (-1)) (res1 (resC_tmp (by kernel_rfl))) ?_
  exact ⟨(-1), rfl, h⟩
theorem slices_IndexFunc_apiSpanapiSpan.go {vs : Sl} {f : Value} {w : World} {k : Value → World → Prop} (h : slices_IndexFunc_apiSpanapiSpan vs f w fun r0 w'=>k (Value.int .i64 r0) w') : callS Tryz.prog 128 [(Sl.v vs), f] w k := (slices_IndexFunc_apiSpanapiSpan.sound vs f w _ h).mono (by rintro _ _ ⟨r0, rfl, h⟩; exact h)
def cmp_Compare_int (x : Int) (y : Int) (w : World) (R : Int → World → Prop) : Prop :=
 callS Tryz.prog 171 [(Value.int .i64 x)] w fun v vw=>∃ (t8 : Bool), v = (Value.bool t8) ∧ callS Tryz.prog 171 [(Value.int .i64 y)] vw fun v2 vw1=>∃ (t10 : Bool), v2 = (Value.bool t10) ∧ ((t8 = true → ((t10 = true → R 0 vw1) ∧ (t10 = false → R (-1) vw1))) ∧ (t8 = false → ((t10 = true → R 1 vw1) ∧ (t10 = false → ((x < y → R (-1) vw1) ∧ (¬ (x < y) → ((y < x → R 1 vw1) ∧ (¬ (y < x) → R 0 vw1))))))))
set_option maxHeartbeats 8000000 in
theorem cmp_Compare_int.sound (x : Int) (y : Int) (w : World) (R : Int → World → Prop) (h : cmp_Compare_int x y w R) : callS Tryz.prog 129 [(Value.int .i64 x), (Value.int .i64 y)] w (fun v w'=>∃ (r0 : Int), v = (Value.int .i64 r0) ∧ R r0 w') := by
 unfold cmp_Compare_int at h
 refine calls_of_vc 20 rfl Tryz.func129 rfl (by kernel_rfl) (by simp) ?_
 refine Vc.seq ?_
 refine Vc.region ?_
 refine vcL_pure rfl rfl (Value.int .i64 0) (fun w=>by kernel_rfl) ?_
 refine vcL_nil ?_
 refine Vc.seq ?_
 refine Vc.region ?_
 refine vcL_pure rfl rfl (Value.int .i64 x) (fun w=>by kernel_rfl) ?_
 refine vcL_eff rfl (opVC_call rfl (by kernel_rfl) (callS.mono h fun v vw h=>?_))
 obtain ⟨t8, rfl, h⟩ := h
 refine vcL_pure rfl rfl (Value.bool t8) (fun w=>by kernel_rfl) ?_
 refine vcL_nil ?_
 refine Vc.seq ?_
 refine Vc.region ?_
 refine vcL_pure rfl rfl (Value.int .i64 y) (fun w=>by kernel_rfl) ?_
 refine vcL_eff rfl (opVC_call rfl (by kernel_rfl) (callS.mono h fun v2 vw1 h=>?_))
 obtain ⟨t10, rfl, h⟩ := h
 refine vcL_pure rfl rfl (Value.bool t10) (fun w=>by kernel_rfl) ?_
 refine vcL_nil ?_
 refine Vc.seq ?_
 refine Vc.seq ?_
 refine Vc.region ?_
 refine vcL_pure rfl rfl (Value.bool t8) (fun w=>by kernel_rfl) ?_
 refine vcL_nil ?_
 refine Vc.cond t8 (by kernel_rfl) (fun hb=>?_) (fun hb=>?_)
 ·have h := h.1 (hb)
  refine Vc.seq ?_
  refine Vc.seq ?_
  refine Vc.region ?_
  refine vcL_pure rfl rfl (Value.bool t10) (fun w=>by kernel_rfl) ?_
  refine vcL_nil ?_
  refine Vc.cond t10 (by kernel_rfl) (fun hb=>?_) (fun hb=>?_)
  ·have h := h.1 (hb)
   refine Vc.seq ?_
   refine Vc.region ?_
   refine vcL_pure rfl rfl (Value.int .i64 0) (fun w=>by kernel_rfl) ?_
   refine vcL_nil ?_
   refine Vc.ret ?_
   refine outs_ret ?_
   refine done_mk (Value.int .i64 0) (res1 (resC_tmp (by kernel_rfl))) ?_
   exact ⟨0, rfl, h⟩
  ·have h := h.2 (hb)
   refine Vc.skip ?_
   refine Vc.seq ?_
   refine Vc.region ?_
   refine vcL_pure rfl rfl (Value.int .i64 (-1)) (fun w=>by kernel_rfl) ?_
   refine vcL_nil ?_
   refine Vc.ret ?_
   refine outs_ret ?_
   refine done_mk (Value.int .i64 (-1)) (res1 (resC_tmp (by kernel_rfl))) ?_
   exact ⟨(-1), rfl, h⟩
 ·have h := h.2 (hb)
  refine Vc.skip ?_
  refine Vc.seq ?_
  refine Vc.seq ?_
  refine Vc.region ?_
  refine vcL_pure rfl rfl (Value.bool t10) (fun w=>by kernel_rfl) ?_
  refine vcL_nil ?_
  refine Vc.cond t10 (by kernel_rfl) (fun hb=>?_) (fun hb=>?_)
  ·have h := h.1 (hb)
   refine Vc.seq ?_
   refine Vc.region ?_
   refine vcL_pure rfl rfl (Value.int .i64 1) (fun w=>by kernel_rfl) ?_
   refine vcL_nil ?_
   refine Vc.ret ?_
   refine outs_ret ?_
   refine done_mk (Value.int .i64 1) (res1 (resC_tmp (by kernel_rfl))) ?_
   exact ⟨1, rfl, h⟩
  ·have h := h.2 (hb)
   refine Vc.skip ?_
   refine Vc.seq ?_
   refine Vc.seq ?_
   refine Vc.region ?_
   refine vcL_purs 3 [(16, (Value.bool (decide (x < y)))), (15, (Value.int .i64 y)), (14, (Value.int .i64 x))] (by kernel_rfl) ?_
   refine vcL_nil ?_
   refine Vc.cond (decide (x < y)) (by kernel_rfl) (fun hb=>?_) (fun hb=>?_)
   ·have h := h.1 (of_decide_eq_true hb)
    refine Vc.seq ?_
    refine Vc.region ?_
    refine vcL_pure rfl rfl (Value.int .i64 (-1)) (fun w=>by kernel_rfl) ?_
    refine vcL_nil ?_
    refine Vc.ret ?_
    refine outs_ret ?_
    refine done_mk (Value.int .i64 (-1)) (res1 (resC_tmp (by kernel_rfl))) ?_
    exact ⟨(-1), rfl, h⟩
   ·have h := h.2 (of_decide_eq_false hb)
    refine Vc.skip ?_
    refine Vc.seq ?_
    refine Vc.seq ?_
    refine Vc.region ?_
    refine vcL_purs 3 [(19, (Value.bool (decide (y < x)))), (18, (Value.int .i64 y)), (17, (Value.int .i64 x))] (by kernel_rfl) ?_
    refine vcL_nil ?_
    refine Vc.cond (decide (y < x)) (by kernel_rfl) (fun hb=>?_) (fun hb=>?_)
    ·have h := h.1 (of_decide_eq_true hb)
     refine Vc.seq ?_
     refine Vc.region ?_
     refine vcL_pure rfl rfl (Value.int .i64 1) (fun w=>by kernel_rfl) ?_
     refine vcL_nil ?_
     refine Vc.ret ?_
     refine outs_ret ?_
     refine done_mk (Value.int .i64 1) (res1 (resC_tmp (by kernel_rfl))) ?_
     exact ⟨1, rfl, h⟩
    ·have h := h.2 (of_decide_eq_false hb)
     refine Vc.skip ?_
     refine Vc.seq ?_
     refine Vc.region ?_
     refine vcL_pure rfl rfl (Value.int .i64 0) (fun w=>by kernel_rfl) ?_
     refine vcL_nil ?_
     refine Vc.ret ?_
     refine outs_ret ?_
     refine done_mk (Value.int .i64 0) (res1 (resC_tmp (by kernel_rfl))) ?_
     exact ⟨0, rfl, h⟩
theorem cmp_Compare_int.go {x : Int} {y : Int} {w : World} {k : Value → World → Prop} (h : cmp_Compare_int x y w fun r0 w'=>k (Value.int .i64 r0) w') : callS Tryz.prog 129 [(Value.int .i64 x), (Value.int .i64 y)] w k := (cmp_Compare_int.sound x y w _ h).mono (by rintro _ _ ⟨r0, rfl, h⟩; exact h)
def vers_Print (zz0 : Int) (zz1 : Int) (zz2 : Int) (w : World) (R : ByteArray → World → Prop) : Prop :=
 newS w [(Value.int .i64 zz0), (Value.int .i64 zz1), (Value.int .i64 zz2)] 30 fun a vw=>∃ (zz3j : Int) (zz3k : Int) (zz3l : Int), (ldc vw a [(Value.int .i64 zz3j), (Value.int .i64 zz3k), (Value.int .i64 zz3l)]) ∧ callS Tryz.prog 97 [(Value.agg #[(Value.int .i64 zz3j), (Value.int .i64 zz3k), (Value.int .i64 zz3l)])] vw fun v vw1=>∃ (t4 : Bool), v = (Value.bool t4) ∧ (((!t4) = true → R (ByteArray.mk #[]) vw1) ∧ ((!t4) = false → bnd vw1.drew fun (vw2 : World)=>∃ (t7 : Int), (ldc vw2 a [(Value.int .i64 t7)]) ∧ ∃ (t11 : Int), (ldc vw2 (a.add 1) [(Value.int .i64 t11)]) ∧ ∃ (t16 : Int), (ldc vw2 (a.add 2) [(Value.int .i64 t16)]) ∧ callX Tryz.prog 185 [(Value.int .i64 t7)] vw2 fun v7 vw6=>∃ (t8 : ByteArray), v7 = (Value.string t8) ∧ (((t8.size + (ByteArray.mk #[46]).size : Nat) : Int) ≤ maxI) ∧ callX Tryz.prog 185 [(Value.int .i64 t11)] vw6 fun v10 vw9=>∃ (t12 : ByteArray), v10 = (Value.string t12) ∧ ((((t8 ++ (ByteArray.mk #[46])).size + t12.size : Nat) : Int) ≤ maxI) ∧ (((((t8 ++ (ByteArray.mk #[46])) ++ t12).size + (ByteArray.mk #[46]).size : Nat) : Int) ≤ maxI) ∧ callS Tryz.prog 185 [(Value.int .i64 t16)] vw9 fun v15 vw14=>∃ (t17 : ByteArray), v15 = (Value.string t17) ∧ ((((((t8 ++ (ByteArray.mk #[46])) ++ t12) ++ (ByteArray.mk #[46])).size + t17.size : Nat) : Int) ≤ maxI) ∧ R ((((t8 ++ (ByteArray.mk #[46])) ++ t12) ++ (ByteArray.mk #[46])) ++ t17) vw14))
set_option maxHeartbeats 8000000 in
theorem vers_Print.sound (zz0 : Int) (zz1 : Int) (zz2 : Int) (w : World) (R : ByteArray → World → Prop) (h : vers_Print zz0 zz1 zz2 w R) : callS Tryz.prog 144 [(Value.agg #[(Value.int .i64 zz0), (Value.int .i64 zz1), (Value.int .i64 zz2)])] w (fun v w'=>∃ (r0 : ByteArray), v = (Value.string r0) ∧ R r0 w') := by
 unfold vers_Print at h
 refine calls_of_vc 19 rfl Tryz.func144 rfl (by kernel_rfl) (by simp) ?_
 refine Vc.seq ?_
 refine Vc.region ?_
 refine vcL_eff rfl (opVC_new rfl (fun a=>Value.pointer (some a)) (by kernel_rfl) (newS.mono h fun a vw hx h=>?_))
 refine vcL_pure rfl rfl (Value.string (ByteArray.mk #[])) (fun w=>by kernel_rfl) ?_
 refine vcL_nil ?_
 refine Vc.seq ?_
 refine Vc.seq ?_
 refine Vc.region ?_
 obtain ⟨zz3j, zz3k, zz3l, hc, h⟩ := h
 refine vcL_val rfl rfl (Value.agg #[(Value.int .i64 zz3j), (Value.int .i64 zz3k), (Value.int .i64 zz3l)]) (exec_load rfl (by kernel_rfl) (run_loadN (fun w=>by kernel_rfl) (fun w=>by kernel_rfl) ((hc)))) ?_
 refine vcL_eff rfl (opVC_call rfl (by kernel_rfl) (callS.mono h fun v vw1 h=>?_))
 obtain ⟨t4, rfl, h⟩ := h
 refine vcL_pure rfl rfl (Value.bool (!t4)) (fun w=>by kernel_rfl) ?_
 refine vcL_nil ?_
 refine Vc.cond (!t4) (by kernel_rfl) (fun hb=>?_) (fun hb=>?_)
 ·have h := h.1 (hb)
  refine Vc.seq ?_
  refine Vc.region ?_
  refine vcL_pure rfl rfl (Value.string (ByteArray.mk #[])) (fun w=>by kernel_rfl) ?_
  refine vcL_nil ?_
  refine Vc.ret ?_
  refine outs_ret ?_
  refine done_mk (Value.string (ByteArray.mk #[])) (res1 (resC_tmp (by kernel_rfl))) ?_
  exact ⟨(ByteArray.mk #[]), rfl, h⟩
 ·have h := h.2 (hb)
  refine Vc.skip ?_
  refine Vc.seq ?_
  obtain ⟨vw2, hvw2⟩ : ∃ y, y = vw1.drew := ⟨_, rfl⟩
  have h := h vw2 hvw2
  refine Vc.draw (by kernel_rfl) (fun i=>!(memN [11] i)) (.pur 0 (.val 1 (.pur 4 (.val 5 (.pur 9 (.val 10 (.eff 2 (.pur 3 (.eff 6 (.pur 7 (.pur 8 (.eff 11 (.pur 12 (.pur 13 .fin)) .stop))) .stop)) .stop))))))) (by kernel_rfl) ?_
  rw [← hvw2]
  clear hvw2
  refine vcS_pure rfl rfl rfl (Value.pointer (some a)) (fun w=>by kernel_rfl) ?_
  obtain ⟨t7, hc3, h⟩ := h
  refine vcS_val rfl rfl rfl (Value.int .i64 t7) (fun w' hx=>exec_load rfl (by kernel_rfl) (run_load1 (fun w=>by kernel_rfl) ((hc3).ext hx))) ?_
  refine vcS_pure rfl rfl rfl (Value.pointer (some (a.add 1))) (fun w=>by kernel_rfl) ?_
  obtain ⟨t11, hc4, h⟩ := h
  refine vcS_val rfl rfl rfl (Value.int .i64 t11) (fun w' hx=>exec_load rfl (by kernel_rfl) (run_load1 (fun w=>by kernel_rfl) ((hc4).ext hx))) ?_
  refine vcS_pure rfl rfl rfl (Value.pointer (some (a.add 2))) (fun w=>by kernel_rfl) ?_
  obtain ⟨t16, hc5, h⟩ := h
  refine vcS_val rfl rfl rfl (Value.int .i64 t16) (fun w' hx=>exec_load rfl (by kernel_rfl) (run_load1 (fun w=>by kernel_rfl) ((hc5).ext hx))) ?_
  refine vcS_eff rfl rfl (opVC_call rfl (by kernel_rfl) (callS.mono h fun v7 vw6 h=>?_)) vcS_stop
  obtain ⟨hx8, h⟩ := h
  obtain ⟨t8, rfl, h⟩ := h
  refine ⟨fun _ => hx8, ?_⟩
  obtain ⟨hi, h⟩ := h
  refine vcS_pure rfl rfl rfl (Value.string (t8 ++ (ByteArray.mk #[46]))) (fun w=>by exact exec_str_add (a := t8) (b := (ByteArray.mk #[46])) rfl (by kernel_rfl) (by kernel_rfl) (hi) w) ?_
  refine vcS_eff rfl rfl (opVC_call rfl (by kernel_rfl) (callS.mono h fun v10 vw9 h=>?_)) vcS_stop
  obtain ⟨hx11, h⟩ := h
  obtain ⟨t12, rfl, h⟩ := h
  refine ⟨fun _ => hx11, ?_⟩
  obtain ⟨hi12, h⟩ := h
  refine vcS_pure rfl rfl rfl (Value.string ((t8 ++ (ByteArray.mk #[46])) ++ t12)) (fun w=>by exact exec_str_add (a := (t8 ++ (ByteArray.mk #[46]))) (b := t12) rfl (by kernel_rfl) (by kernel_rfl) (hi12) w) ?_
  obtain ⟨hi13, h⟩ := h
  refine vcS_pure rfl rfl rfl (Value.string (((t8 ++ (ByteArray.mk #[46])) ++ t12) ++ (ByteArray.mk #[46]))) (fun w=>by exact exec_str_add (a := ((t8 ++ (ByteArray.mk #[46])) ++ t12)) (b := (ByteArray.mk #[46])) rfl (by kernel_rfl) (by kernel_rfl) (hi13) w) ?_
  refine vcS_eff rfl rfl (opVC_call rfl (by kernel_rfl) (callS.mono h fun v15 vw14 h=>?_)) vcS_stop
  obtain ⟨t17, rfl, h⟩ := h
  refine ⟨fun hb=>absurd hb (by decide), ?_⟩
  obtain ⟨hi17, h⟩ := h
  refine vcS_pure rfl rfl rfl (Value.string ((((t8 ++ (ByteArray.mk #[46])) ++ t12) ++ (ByteArray.mk #[46])) ++ t17)) (fun w=>by exact exec_str_add (a := (((t8 ++ (ByteArray.mk #[46])) ++ t12) ++ (ByteArray.mk #[46]))) (b := t17) rfl (by kernel_rfl) (by kernel_rfl) (hi17) w) ?_
  refine vcS_pure rfl rfl rfl (Value.string ((((t8 ++ (ByteArray.mk #[46])) ++ t12) ++ (ByteArray.mk #[46])) ++ t17)) (fun w=>by kernel_rfl) ?_
  refine vcS_fin ?_
  refine Vc.ret ?_
  refine outs_ret ?_
  refine done_mk (Value.string ((((t8 ++ (ByteArray.mk #[46])) ++ t12) ++ (ByteArray.mk #[46])) ++ t17)) (res1 (resC_tmp (by kernel_rfl))) ?_
  exact ⟨((((t8 ++ (ByteArray.mk #[46])) ++ t12) ++ (ByteArray.mk #[46])) ++ t17), rfl, h⟩
theorem vers_Print.go {zz0 : Int} {zz1 : Int} {zz2 : Int} {w : World} {k : Value → World → Prop} (h : vers_Print zz0 zz1 zz2 w fun r0 w'=>k (Value.string r0) w') : callS Tryz.prog 144 [(Value.agg #[(Value.int .i64 zz0), (Value.int .i64 zz1), (Value.int .i64 zz2)])] w k := (vers_Print.sound zz0 zz1 zz2 w _ h).mono (by rintro _ _ ⟨r0, rfl, h⟩; exact h)
def pack_lines (b : Option Addr) (word : ByteArray) (l : Sl) (w : World) (R : World → Prop) : Prop :=
 loop1 0 w fun t10 vw nxt=>((t10 < (l.len : Int) → ∃ (ad : Addr), (l.a = some ad ∧ (0 : Int) ≤ t10 ∧ t10 < (l.len : Int)) ∧ ∃ (zz1v : ByteArray) (zz1w : Sl), (ldc vw (ad.add (t10.toNat * 2)) [(Value.string zz1v), (Sl.v zz1w)]) ∧ newS vw [(Value.string (ByteArray.mk #[])), (Sl.v Sl.nil)] 81 fun a vw1=>stw vw1 a [(Value.string zz1v), (Sl.v zz1w)] fun vw2=>bnd vw2.drew fun (vw3 : World)=>(((word.size + (ByteArray.mk #[32]).size : Nat) : Int) ≤ maxI) ∧ ∃ (t18 : ByteArray), (ldc vw3 a [(Value.string t18)]) ∧ ((((word ++ (ByteArray.mk #[32])).size + t18.size : Nat) : Int) ≤ maxI) ∧ (((((word ++ (ByteArray.mk #[32])) ++ t18).size + (ByteArray.mk #[32]).size : Nat) : Int) ≤ maxI) ∧ ∃ (t22 : Sl), (ldc vw3 (a.add 1) [(Sl.v t22)]) ∧ callX Tryz.prog 186 [(Sl.v t22)] vw3 fun v vw9=>∃ (t23 : ByteArray), v = (Value.string t23) ∧ ((((((word ++ (ByteArray.mk #[32])) ++ t18) ++ (ByteArray.mk #[32])).size + t23.size : Nat) : Int) ≤ maxI) ∧ (((((((word ++ (ByteArray.mk #[32])) ++ t18) ++ (ByteArray.mk #[32])) ++ t23).size + (ByteArray.mk #[10]).size : Nat) : Int) ≤ maxI) ∧ callS Tryz.prog 143 [(Value.pointer b), (Value.string (((((word ++ (ByteArray.mk #[32])) ++ t18) ++ (ByteArray.mk #[32])) ++ t23) ++ (ByteArray.mk #[10])))] vw9 fun v13 vw12=>∃ (t26 : Int) (t26b : Value), v13 = (Value.tuple #[(Value.int .i64 t26), t26b]) ∧ nxt (wrapI (t10 + 1)) vw12) ∧ (¬ (t10 < (l.len : Int)) → R vw))
set_option maxHeartbeats 8000000 in
theorem pack_lines.sound (b : Option Addr) (word : ByteArray) (l : Sl) (w : World) (R : World → Prop) (h : pack_lines b word l w R) : callS Tryz.prog 145 [(Value.pointer b), (Value.string word), (Sl.v l)] w (fun v w'=>v = (Value.tuple #[]) ∧ R w') := by
 unfold pack_lines at h
 refine calls_of_vc 28 rfl Tryz.func145 rfl (by kernel_rfl) (by simp) ?_
 refine Vc.seq ?_
 refine Vc.region ?_
 refine vcL_purs 3 [(10, (Value.int .i64 0)), (9, (Value.int .i64 (l.len : Int))), (8, (Sl.v l))] (by kernel_rfl) ?_
 refine vcL_nil ?_
 refine Vc.block ?_
 obtain ⟨vI, mu, h, hr⟩ := h
 refine Vc.loopJ (σ := Int) [10] [7, 11, 12, 13, 14, 15, 16, 17, 18, 19, 20, 21, 22, 23, 24, 25, 26, 27] (fun s=>[(10, (Value.int .i64 s))]) (fun s w=>vI s w) (fun s w=>mu s w) 0 h (fun _ => rfl) (by kernel_rfl) ?_
 intro t10 vw j h
 have h := hr t10 vw h
 refine Vc.seq ?_
 refine Vc.region ?_
 refine vcL_pure rfl rfl (Value.bool (decide (t10 < (l.len : Int)))) (fun w=>by kernel_rfl) ?_
 refine vcL_nil ?_
 refine Vc.seq ?_
 refine Vc.cond (decide (t10 < (l.len : Int))) (by kernel_rfl) (fun hb=>?_) (fun hb=>?_)
 ·have h := h.1 (of_decide_eq_true hb)
  refine Vc.skip ?_
  refine Vc.seq ?_
  refine Vc.block ?_
  refine Vc.seq ?_
  refine Vc.region ?_
  obtain ⟨ad, hi, h⟩ := h
  refine vcL_pure rfl rfl (Value.pointer (some (ad.add (t10.toNat * 2)))) (fun w=>by exact exec_indexAt (s := l) (el := 81) rfl (by kernel_rfl) (by kernel_rfl) (by kernel_rfl) (fun w=>by kernel_rfl) (hi).1 (hi).2.1 (hi).2.2 w) ?_
  obtain ⟨zz1v, zz1w, hc, h⟩ := h
  refine vcL_val rfl rfl (Value.agg #[(Value.string zz1v), (Sl.v zz1w)]) (exec_load rfl (by kernel_rfl) (run_loadN (fun w=>by kernel_rfl) (fun w=>by kernel_rfl) ((hc)))) ?_
  refine vcL_eff rfl (opVC_new rfl (fun a=>Value.pointer (some a)) (by kernel_rfl) (newS.mono h fun a vw1 hx h=>?_))
  refine vcL_eff rfl (opVC_store rfl rfl (a := a) (by kernel_rfl) (v := (Value.agg #[(Value.string zz1v), (Sl.v zz1w)])) (by kernel_rfl) [(Value.string zz1v), (Sl.v zz1w)] (by kernel_rfl) (fun w=>by kernel_rfl) (by kernel_rfl) (stw.mono h fun vw2 h=>?_))
  refine vcL_nil ?_
  obtain ⟨vw3, hvw3⟩ : ∃ y, y = vw2.drew := ⟨_, rfl⟩
  have h := h vw3 hvw3
  refine Vc.draw (by kernel_rfl) (fun i=>!(memN [12] i)) (.pur 0 (.pur 1 (.pur 2 (.pur 3 (.val 4 (.pur 5 (.pur 6 (.pur 7 (.val 8 (.eff 9 (.pur 10 (.pur 11 (.eff 12 .fin .stop))) .stop)))))))))) (by kernel_rfl) ?_
  rw [← hvw3]
  clear hvw3
  refine vcS_pure rfl rfl rfl (Value.pointer b) (fun w=>by kernel_rfl) ?_
  refine vcS_pure rfl rfl rfl (Value.string word) (fun w=>by kernel_rfl) ?_
  obtain ⟨hi4, h⟩ := h
  refine vcS_pure rfl rfl rfl (Value.string (word ++ (ByteArray.mk #[32]))) (fun w=>by exact exec_str_add (a := word) (b := (ByteArray.mk #[32])) rfl (by kernel_rfl) (by kernel_rfl) (hi4) w) ?_
  refine vcS_pure rfl rfl rfl (Value.pointer (some a)) (fun w=>by kernel_rfl) ?_
  obtain ⟨t18, hc5, h⟩ := h
  refine vcS_val rfl rfl rfl (Value.string t18) (fun w' hx=>exec_load rfl (by kernel_rfl) (run_load1 (fun w=>by kernel_rfl) ((hc5).ext hx))) ?_
  obtain ⟨hi6, h⟩ := h
  refine vcS_pure rfl rfl rfl (Value.string ((word ++ (ByteArray.mk #[32])) ++ t18)) (fun w=>by exact exec_str_add (a := (word ++ (ByteArray.mk #[32]))) (b := t18) rfl (by kernel_rfl) (by kernel_rfl) (hi6) w) ?_
  obtain ⟨hi7, h⟩ := h
  refine vcS_pure rfl rfl rfl (Value.string (((word ++ (ByteArray.mk #[32])) ++ t18) ++ (ByteArray.mk #[32]))) (fun w=>by exact exec_str_add (a := ((word ++ (ByteArray.mk #[32])) ++ t18)) (b := (ByteArray.mk #[32])) rfl (by kernel_rfl) (by kernel_rfl) (hi7) w) ?_
  refine vcS_pure rfl rfl rfl (Value.pointer (some (a.add 1))) (fun w=>by kernel_rfl) ?_
  obtain ⟨t22, hc8, h⟩ := h
  refine vcS_val rfl rfl rfl (Sl.v t22) (fun w' hx=>exec_load rfl (by kernel_rfl) (run_load1 (fun w=>by kernel_rfl) ((hc8).ext hx))) ?_
  refine vcS_eff rfl rfl (opVC_call rfl (by kernel_rfl) (callS.mono h fun v vw9 h=>?_)) vcS_stop
  obtain ⟨hx, h⟩ := h
  obtain ⟨t23, rfl, h⟩ := h
  refine ⟨fun _ => hx, ?_⟩
  obtain ⟨hi10, h⟩ := h
  refine vcS_pure rfl rfl rfl (Value.string ((((word ++ (ByteArray.mk #[32])) ++ t18) ++ (ByteArray.mk #[32])) ++ t23)) (fun w=>by exact exec_str_add (a := (((word ++ (ByteArray.mk #[32])) ++ t18) ++ (ByteArray.mk #[32]))) (b := t23) rfl (by kernel_rfl) (by kernel_rfl) (hi10) w) ?_
  obtain ⟨hi11, h⟩ := h
  refine vcS_pure rfl rfl rfl (Value.string (((((word ++ (ByteArray.mk #[32])) ++ t18) ++ (ByteArray.mk #[32])) ++ t23) ++ (ByteArray.mk #[10]))) (fun w=>by exact exec_str_add (a := ((((word ++ (ByteArray.mk #[32])) ++ t18) ++ (ByteArray.mk #[32])) ++ t23)) (b := (ByteArray.mk #[10])) rfl (by kernel_rfl) (by kernel_rfl) (hi11) w) ?_
  refine vcS_eff rfl rfl (opVC_call rfl (by kernel_rfl) (callS.mono h fun v13 vw12 h=>?_)) vcS_stop
  obtain ⟨t26, t26b, rfl, h⟩ := h
  refine ⟨fun hb=>absurd hb (by decide), ?_⟩
  refine vcS_fin ?_
  refine Vc.region ?_
  refine vcL_purs 2 [(10, (Value.int .i64 (wrapI (t10 + 1)))), (27, (Value.int .i64 (wrapI (t10 + 1))))] (by kernel_rfl) ?_
  refine vcL_nil ?_
  exact ⟨(wrapI (t10 + 1)), 38, ⟨rfl, by kernel_rfl, by kernel_rfl, by kernel_rfl⟩, h⟩
 ·have h := h.2 (of_decide_eq_false hb)
  refine Vc.exit ?_
  refine outOf_hit ?_
  refine done_mk (Value.tuple #[]) (res0 ) ?_
  exact ⟨rfl, h⟩
theorem pack_lines.go {b : Option Addr} {word : ByteArray} {l : Sl} {w : World} {k : Value → World → Prop} (h : pack_lines b word l w fun  w'=>k (Value.tuple #[]) w') : callS Tryz.prog 145 [(Value.pointer b), (Value.string word), (Sl.v l)] w k := (pack_lines.sound b word l w _ h).mono (by rintro _ _ ⟨rfl, h⟩; exact h)
def slices_stableCmpFunc_apiWant (data : Sl) (n : Int) (cmp : Value) (w : World) (R : World → Prop) : Prop :=
 loop2 0 20 w fun a b vw nxt=>((b ≤ n → callS Tryz.prog 194 [(Sl.v data), (Value.int .i64 a), (Value.int .i64 b), cmp] vw fun v vw1=>v = (Value.tuple #[]) ∧ nxt b (wrapI (b + 20)) vw1) ∧ (¬ (b ≤ n) → callS Tryz.prog 194 [(Sl.v data), (Value.int .i64 a), (Value.int .i64 n), cmp] vw fun v3 vw2=>v3 = (Value.tuple #[]) ∧ loop1 20 vw2 fun blockSize vw5 nxt6=>((blockSize < n → loop2 0 (wrapI (2 * blockSize)) vw5 fun a7 b8 vw9 nxt10=>((b8 ≤ n → callS Tryz.prog 195 [(Sl.v data), (Value.int .i64 a7), (Value.int .i64 (wrapI (a7 + blockSize))), (Value.int .i64 b8), cmp] vw9 fun v12 vw11=>v12 = (Value.tuple #[]) ∧ nxt10 b8 (wrapI (b8 + (wrapI (2 * blockSize)))) vw11) ∧ (¬ (b8 ≤ n) → join (fun (vw14 : World)=>nxt6 (wrapI (blockSize * 2)) vw14) fun vJ=>(((wrapI (a7 + blockSize)) < n → callS Tryz.prog 195 [(Sl.v data), (Value.int .i64 a7), (Value.int .i64 (wrapI (a7 + blockSize))), (Value.int .i64 n), cmp] vw9 fun v16 vw15=>v16 = (Value.tuple #[]) ∧ vJ vw15) ∧ (¬ ((wrapI (a7 + blockSize)) < n) → vJ vw9))))) ∧ (¬ (blockSize < n) → R vw5))))
set_option maxHeartbeats 8000000 in
theorem slices_stableCmpFunc_apiWant.sound (data : Sl) (n : Int) (cmp : Value) (w : World) (R : World → Prop) (h : slices_stableCmpFunc_apiWant data n cmp w R) : callS Tryz.prog 166 [(Sl.v data), (Value.int .i64 n), cmp] w (fun v w'=>v = (Value.tuple #[]) ∧ R w') := by
 unfold slices_stableCmpFunc_apiWant at h
 refine calls_of_vc 63 rfl Tryz.func166 rfl (by kernel_rfl) (by simp) ?_
 refine Vc.seq ?_
 refine Vc.region ?_
 refine vcL_pure rfl rfl (Value.int .i64 20) (fun w=>by kernel_rfl) ?_
 refine vcL_nil ?_
 refine Vc.seq ?_
 refine Vc.region ?_
 refine vcL_purs 3 [(8, (Value.int .i64 20)), (7, (Value.int .i64 0)), (10, (Value.int .i64 20))] (by kernel_rfl) ?_
 refine vcL_nil ?_
 refine Vc.seq ?_
 refine Vc.block ?_
 obtain ⟨vI21, mu22, h, hr23⟩ := h
 refine Vc.loopJ (σ := Int × Int) [7, 8] [11, 12, 13, 14, 15, 16, 17, 18, 19, 20, 21, 22] (fun s=>[(7, (Value.int .i64 s.1)), (8, (Value.int .i64 s.2))]) (fun s w=>vI21 s.1 s.2 w) (fun s w=>mu22 s.1 s.2 w) (0, 20) h (fun _ => rfl) (by kernel_rfl) ?_
 rintro ⟨a, b⟩ vw j h
 have h := hr23 a b vw h
 refine Vc.seq ?_
 refine Vc.seq ?_
 refine Vc.region ?_
 refine vcL_purs 3 [(13, (Value.bool (decide (b ≤ n)))), (12, (Value.int .i64 n)), (11, (Value.int .i64 b))] (by kernel_rfl) ?_
 refine vcL_nil ?_
 refine Vc.cond (decide (b ≤ n)) (by kernel_rfl) (fun hb=>?_) (fun hb=>?_)
 ·have h := h.1 (of_decide_eq_true hb)
  refine Vc.skip ?_
  refine Vc.block ?_
  refine Vc.seq ?_
  refine Vc.region ?_
  refine vcL_purs 4 [(17, cmp), (16, (Value.int .i64 b)), (15, (Value.int .i64 a)), (14, (Sl.v data))] (by kernel_rfl) ?_
  refine vcL_eff rfl (opVC_call rfl (by kernel_rfl) (callS.mono h fun v vw1 h=>?_))
  obtain ⟨rfl, h⟩ := h
  refine vcL_nil ?_
  refine Vc.seq ?_
  refine Vc.region ?_
  refine vcL_purs 2 [(7, (Value.int .i64 b)), (19, (Value.int .i64 b))] (by kernel_rfl) ?_
  refine vcL_nil ?_
  refine Vc.region ?_
  refine vcL_purs 4 [(8, (Value.int .i64 (wrapI (b + 20)))), (22, (Value.int .i64 (wrapI (b + 20)))), (21, (Value.int .i64 20)), (20, (Value.int .i64 b))] (by kernel_rfl) ?_
  refine vcL_nil ?_
  exact ⟨(b, (wrapI (b + 20))), 28, ⟨rfl, by kernel_rfl, by kernel_rfl, by kernel_rfl⟩, h⟩
 ·have h := h.2 (of_decide_eq_false hb)
  refine Vc.exit ?_
  refine outOf_hit ?_
  refine Vc.seq ?_
  refine Vc.region ?_
  refine vcL_purs 4 [(26, cmp), (25, (Value.int .i64 n)), (24, (Value.int .i64 a)), (23, (Sl.v data))] (by kernel_rfl) ?_
  refine vcL_eff rfl (opVC_call rfl (by kernel_rfl) (callS.mono h fun v3 vw2 h=>?_))
  obtain ⟨rfl, h⟩ := h
  refine vcL_nil ?_
  refine Vc.block ?_
  obtain ⟨vI18, mu19, h, hr20⟩ := h
  refine Vc.loopJ (σ := Int) [6] [7, 8, 9, 28, 29, 30, 31, 32, 33, 34, 35, 36, 37, 38, 39, 40, 41, 42, 43, 44, 45, 46, 47, 48, 49, 50, 51, 52, 53, 54, 55, 56, 57, 58, 59, 60, 61, 62] (fun s=>[(6, (Value.int .i64 s))]) (fun s w=>vI18 s w) (fun s w=>mu19 s w) 20 h (fun _ => rfl) (by kernel_rfl) ?_
  intro blockSize vw5 j h
  have h := hr20 blockSize vw5 h
  refine Vc.seq ?_
  refine Vc.seq ?_
  refine Vc.region ?_
  refine vcL_purs 3 [(30, (Value.bool (decide (blockSize < n)))), (29, (Value.int .i64 n)), (28, (Value.int .i64 blockSize))] (by kernel_rfl) ?_
  refine vcL_nil ?_
  refine Vc.cond (decide (blockSize < n)) (by kernel_rfl) (fun hb=>?_) (fun hb=>?_)
  ·have h := h.1 (of_decide_eq_true hb)
   refine Vc.skip ?_
   refine Vc.block ?_
   refine Vc.seq ?_
   refine Vc.region ?_
   refine vcL_purs 4 [(8, (Value.int .i64 (wrapI (2 * blockSize)))), (7, (Value.int .i64 0)), (32, (Value.int .i64 (wrapI (2 * blockSize)))), (31, (Value.int .i64 blockSize))] (by kernel_rfl) ?_
   refine vcL_nil ?_
   refine Vc.seq ?_
   refine Vc.block ?_
   obtain ⟨vI, mu, h, hr⟩ := h
   refine Vc.loopJ (σ := Int × Int) [7, 8] [33, 34, 35, 36, 37, 38, 39, 40, 41, 42, 43, 44, 45, 46, 47, 48] (fun s=>[(7, (Value.int .i64 s.1)), (8, (Value.int .i64 s.2))]) (fun s w=>vI s.1 s.2 w) (fun s w=>mu s.1 s.2 w) (0, (wrapI (2 * blockSize))) h (fun _ => rfl) (by kernel_rfl) ?_
   rintro ⟨a7, b8⟩ vw9 j h
   have h := hr a7 b8 vw9 h
   refine Vc.seq ?_
   refine Vc.seq ?_
   refine Vc.region ?_
   refine vcL_purs 3 [(35, (Value.bool (decide (b8 ≤ n)))), (34, (Value.int .i64 n)), (33, (Value.int .i64 b8))] (by kernel_rfl) ?_
   refine vcL_nil ?_
   refine Vc.cond (decide (b8 ≤ n)) (by kernel_rfl) (fun hb=>?_) (fun hb=>?_)
   ·have h := h.1 (of_decide_eq_true hb)
    refine Vc.skip ?_
    refine Vc.block ?_
    refine Vc.seq ?_
    refine Vc.region ?_
    refine vcL_purs 7 [(42, cmp), (41, (Value.int .i64 b8)), (40, (Value.int .i64 (wrapI (a7 + blockSize)))), (39, (Value.int .i64 blockSize)), (38, (Value.int .i64 a7)), (37, (Value.int .i64 a7)), (36, (Sl.v data))] (by kernel_rfl) ?_
    refine vcL_eff rfl (opVC_call rfl (by kernel_rfl) (callS.mono h fun v12 vw11 h=>?_))
    obtain ⟨rfl, h⟩ := h
    refine vcL_nil ?_
    refine Vc.seq ?_
    refine Vc.region ?_
    refine vcL_purs 2 [(7, (Value.int .i64 b8)), (44, (Value.int .i64 b8))] (by kernel_rfl) ?_
    refine vcL_nil ?_
    refine Vc.region ?_
    refine vcL_purs 5 [(8, (Value.int .i64 (wrapI (b8 + (wrapI (2 * blockSize)))))), (48, (Value.int .i64 (wrapI (b8 + (wrapI (2 * blockSize)))))), (47, (Value.int .i64 (wrapI (2 * blockSize)))), (46, (Value.int .i64 blockSize)), (45, (Value.int .i64 b8))] (by kernel_rfl) ?_
    refine vcL_nil ?_
    exact ⟨(b8, (wrapI (b8 + (wrapI (2 * blockSize))))), 36, ⟨rfl, by kernel_rfl, by kernel_rfl, by kernel_rfl⟩, h⟩
   ·have h := h.2 (of_decide_eq_false hb)
    refine Vc.exit ?_
    refine outOf_hit ?_
    obtain ⟨vJ, hJ, h⟩ := join_elim h
    refine Vc.seqJ (σ := Unit) [] [9, 49, 50, 51, 52, 53, 54, 55, 56, 57, 58, 59, 60] (fun s=>[]) (fun s w=>vJ w) (fun _ => rfl) ?_ ?_
    ·refine Vc.seq ?_
     refine Vc.region ?_
     refine vcL_purs 4 [(9, (Value.int .i64 (wrapI (a7 + blockSize)))), (51, (Value.int .i64 (wrapI (a7 + blockSize)))), (50, (Value.int .i64 blockSize)), (49, (Value.int .i64 a7))] (by kernel_rfl) ?_
     refine vcL_nil ?_
     refine Vc.seq ?_
     refine Vc.region ?_
     refine vcL_purs 3 [(54, (Value.bool (decide ((wrapI (a7 + blockSize)) < n)))), (53, (Value.int .i64 n)), (52, (Value.int .i64 (wrapI (a7 + blockSize))))] (by kernel_rfl) ?_
     refine vcL_nil ?_
     refine Vc.cond (decide ((wrapI (a7 + blockSize)) < n)) (by kernel_rfl) (fun hb=>?_) (fun hb=>?_)
     ·have h := h.1 (of_decide_eq_true hb)
      refine Vc.region ?_
      refine vcL_purs 5 [(59, cmp), (58, (Value.int .i64 n)), (57, (Value.int .i64 (wrapI (a7 + blockSize)))), (56, (Value.int .i64 a7)), (55, (Sl.v data))] (by kernel_rfl) ?_
      refine vcL_eff rfl (opVC_call rfl (by kernel_rfl) (callS.mono h fun v16 vw15 h=>?_))
      obtain ⟨rfl, h⟩ := h
      refine vcL_nil ?_
      exact ⟨(), 13, ⟨rfl, by kernel_rfl, by kernel_rfl, by kernel_rfl⟩, h⟩
     ·have h := h.2 (of_decide_eq_false hb)
      refine Vc.skip ?_
      exact ⟨(), 7, ⟨rfl, by kernel_rfl, by kernel_rfl, by kernel_rfl⟩, h⟩
    ·intro s vw14 j h
     subst hJ
     refine Vc.region ?_
     refine vcL_purs 3 [(6, (Value.int .i64 (wrapI (blockSize * 2)))), (62, (Value.int .i64 (wrapI (blockSize * 2)))), (61, (Value.int .i64 blockSize))] (by kernel_rfl) ?_
     refine vcL_nil ?_
     exact ⟨(wrapI (blockSize * 2)), 83, ⟨rfl, by kernel_rfl, by kernel_rfl, by kernel_rfl⟩, h⟩
  ·have h := h.2 (of_decide_eq_false hb)
   refine Vc.exit ?_
   refine outOf_hit ?_
   refine done_mk (Value.tuple #[]) (res0 ) ?_
   exact ⟨rfl, h⟩
theorem slices_stableCmpFunc_apiWant.go {data : Sl} {n : Int} {cmp : Value} {w : World} {k : Value → World → Prop} (h : slices_stableCmpFunc_apiWant data n cmp w fun  w'=>k (Value.tuple #[]) w') : callS Tryz.prog 166 [(Sl.v data), (Value.int .i64 n), cmp] w k := (slices_stableCmpFunc_apiWant.sound data n cmp w _ h).mono (by rintro _ _ ⟨rfl, h⟩; exact h)
end Go.Hal.SE
