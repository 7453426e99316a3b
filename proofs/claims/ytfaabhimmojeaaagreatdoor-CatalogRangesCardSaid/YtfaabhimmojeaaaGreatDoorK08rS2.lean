/- Lemmas for the claim K08r: how the program's functions run, and what they answer; no condition but those that each theorem names. -/
import Derived.Test.YtfaabhimmojeaaaGreatDoorProg
import Derived.Test.YtfaabhimmojeaaaGreatDoorK08rA0
set_option linter.unusedVariables false
set_option linter.unusedSimpArgs false
namespace Go.Hal.SE
open Go Go.RowKit Go.Hal Go.Proofs
set_option maxRecDepth 100000
namespace Eq2
theorem eqv_157 (d : Nat) (a0 : Int) (a1 : Int) (b0 : Int) (b1 : Int) (w : World) : (Op.equalIn (d + 2) 157 (.agg #[(Value.int .i64 a0), (Value.int .i64 a1)]) (.agg #[(Value.int .i64 b0), (Value.int .i64 b1)])).run Tryz.prog w = .ok ((a0 == b0) && ((a1 == b1) && true)) w :=
 (eqS (by kernel_rfl) (by kernel_rfl) (fs := [⟨ "lo", 3, 0, false, "", "halyard/span", 0⟩, ⟨ "hi", 3, 1, false, "", "halyard/span", 8⟩]) (by kernel_rfl) (eqF_cons (x := (Value.int .i64 a0)) (y := (Value.int .i64 b0)) rfl (by kernel_rfl) (by kernel_rfl) (run_equalIn_int w _ 3 .i64 .i64 a0 b0 (by kernel_rfl)) (eqF_cons (x := (Value.int .i64 a1)) (y := (Value.int .i64 b1)) rfl (by kernel_rfl) (by kernel_rfl) (run_equalIn_int w _ 3 .i64 .i64 a1 b1 (by kernel_rfl)) eqF_nil)))
end Eq2
open Eq2
def vers_At (n : Int) (w : World) (R : Int → Int → Int → Bool → World → Prop) : Prop :=
 newS w [(Value.int .i64 0), (Value.int .i64 0), (Value.int .i64 0)] 30 fun a vw=>bnd (decide (n < 0)) fun (b : Bool)=>(((b || (decide (1000000000 ≤ n))) = true → stw vw a [(Value.int .i64 0), (Value.int .i64 0), (Value.int .i64 0)] fun vw1=>∃ (zz3 : Int) (zz4 : Int) (zz5 : Int), ldc vw1 a [(Value.int .i64 zz3), (Value.int .i64 zz4), (Value.int .i64 zz5)] ∧ R zz3 zz4 zz5 false vw1) ∧ ((b || (decide (1000000000 ≤ n))) = false → stw vw a [(Value.int .i64 (wrapI ((wrapI (n.tdiv 1000)).tdiv 1000))), (Value.int .i64 (Int.tmod (wrapI (n.tdiv 1000)) 1000)), (Value.int .i64 (Int.tmod n 1000))] fun vw2=>∃ (zzc : Int) (zzd : Int) (zze : Int), ldc vw2 a [(Value.int .i64 zzc), (Value.int .i64 zzd), (Value.int .i64 zze)] ∧ R zzc zzd zze true vw2))
set_option maxHeartbeats 8000000 in
theorem vers_At.sound (n : Int) (w : World) (R : Int → Int → Int → Bool → World → Prop) (h : vers_At n w R) : callS Tryz.prog 167 [(Value.int .i64 n)] w (fun v w'=>∃ (r0 : Int) (r1 : Int) (r2 : Int) (r3 : Bool), v = (Value.tuple #[(Value.agg #[(Value.int .i64 r0), (Value.int .i64 r1), (Value.int .i64 r2)]), (Value.bool r3)]) ∧ R r0 r1 r2 r3 w') := by
 unfold vers_At at h
 refine calls_of_vc 20 rfl Tryz.func167 rfl (by kernel_rfl) (by simp) ?_
 refine Vc.seq ?_
 refine Vc.region ?_
 refine vcL_eff rfl (opVC_new rfl (fun a=>Value.pointer (some a)) (by kernel_rfl) (newS.mono h fun a vw hx h=>?_))
 refine vcL_pure rfl rfl (Value.bool false) (fun w=>by kernel_rfl) ?_
 refine vcL_nil ?_
 refine Vc.seq ?_
 refine Vc.seq ?_
 refine Vc.region ?_
 refine vcL_purs 2 [(5, (Value.bool (decide (n < 0)))), (4, (Value.int .i64 n))] (by kernel_rfl) ?_
 obtain ⟨b, hb⟩ : ∃ y, y = (decide (n < 0)) := ⟨_, rfl⟩
 have h := h b hb
 refine vcL_pure rfl rfl (Value.bool b) (fun w=>by rw [hb]; kernel_rfl) ?_
 refine vcL_guardP (!b) (wanted_g (d := 6) rfl (by kernel_rfl) b (by kernel_rfl) (!b) (eqF b)) rfl (Value.int .i64 n) (fun hg w=>by simp only [Bool.and_eq_true, Bool.not_eq_true'] at hg; obtain rfl := hg; kernel_rfl) ?_
 refine vcL_guardP (!b) (wanted_g (d := 6) rfl (by kernel_rfl) b (by kernel_rfl) (!b) (eqF b)) rfl (Value.bool (decide (1000000000 ≤ n))) (fun hg w=>by simp only [Bool.and_eq_true, Bool.not_eq_true'] at hg; obtain rfl := hg; kernel_rfl) ?_
 refine vcL_pure rfl rfl (Value.bool (b || (decide (1000000000 ≤ n)))) (fun w=>by cases b <;> kernel_rfl) ?_
 refine vcL_nil ?_
 refine Vc.cond (b || (decide (1000000000 ≤ n))) (by kernel_rfl) (fun hb=>?_) (fun hb=>?_)
 ·have h := h.1 (hb)
  refine Vc.seq ?_
  refine Vc.region ?_
  refine vcL_pure rfl rfl (Value.agg #[(Value.int .i64 0), (Value.int .i64 0), (Value.int .i64 0)]) (fun w=>by kernel_rfl) ?_
  refine vcL_eff rfl (opVC_store rfl rfl (a := a) (by kernel_rfl) (v := (Value.agg #[(Value.int .i64 0), (Value.int .i64 0), (Value.int .i64 0)])) (by kernel_rfl) [(Value.int .i64 0), (Value.int .i64 0), (Value.int .i64 0)] (by kernel_rfl) (fun w=>by kernel_rfl) (by kernel_rfl) (stw.mono h fun vw1 h=>?_))
  refine vcL_pure rfl rfl (Value.bool false) (fun w=>by kernel_rfl) ?_
  refine vcL_nil ?_
  refine Vc.ret ?_
  refine outs_ret ?_
  obtain ⟨zz3, zz4, zz5, hc, h⟩ := h
  refine done_mk (Value.tuple #[(Value.agg #[(Value.int .i64 zz3), (Value.int .i64 zz4), (Value.int .i64 zz5)]), (Value.bool false)]) (res2 (resC_cell (by kernel_rfl) (run_loadN (fun w=>by kernel_rfl) (fun w=>by kernel_rfl) hc)) (resC_tmp (by kernel_rfl))) ?_
  exact ⟨zz3, zz4, zz5, false, rfl, h⟩
 ·have h := h.2 (hb)
  refine Vc.skip ?_
  refine Vc.seq ?_
  refine Vc.region ?_
  refine vcL_purs 9 [(19, (Value.agg #[(Value.int .i64 (wrapI ((wrapI (n.tdiv 1000)).tdiv 1000))), (Value.int .i64 (Int.tmod (wrapI (n.tdiv 1000)) 1000)), (Value.int .i64 (Int.tmod n 1000))])), (18, (Value.int .i64 (Int.tmod n 1000))), (17, (Value.int .i64 n)), (16, (Value.int .i64 (Int.tmod (wrapI (n.tdiv 1000)) 1000))), (15, (Value.int .i64 (wrapI (n.tdiv 1000)))), (14, (Value.int .i64 n)), (13, (Value.int .i64 (wrapI ((wrapI (n.tdiv 1000)).tdiv 1000)))), (12, (Value.int .i64 (wrapI (n.tdiv 1000)))), (11, (Value.int .i64 n))] (by kernel_rfl) ?_
  refine vcL_eff rfl (opVC_store rfl rfl (a := a) (by kernel_rfl) (v := (Value.agg #[(Value.int .i64 (wrapI ((wrapI (n.tdiv 1000)).tdiv 1000))), (Value.int .i64 (Int.tmod (wrapI (n.tdiv 1000)) 1000)), (Value.int .i64 (Int.tmod n 1000))])) (by kernel_rfl) [(Value.int .i64 (wrapI ((wrapI (n.tdiv 1000)).tdiv 1000))), (Value.int .i64 (Int.tmod (wrapI (n.tdiv 1000)) 1000)), (Value.int .i64 (Int.tmod n 1000))] (by kernel_rfl) (fun w=>by kernel_rfl) (by kernel_rfl) (stw.mono h fun vw2 h=>?_))
  refine vcL_pure rfl rfl (Value.bool true) (fun w=>by kernel_rfl) ?_
  refine vcL_nil ?_
  refine Vc.ret ?_
  refine outs_ret ?_
  obtain ⟨zzc, zzd, zze, hc6, h⟩ := h
  refine done_mk (Value.tuple #[(Value.agg #[(Value.int .i64 zzc), (Value.int .i64 zzd), (Value.int .i64 zze)]), (Value.bool true)]) (res2 (resC_cell (by kernel_rfl) (run_loadN (fun w=>by kernel_rfl) (fun w=>by kernel_rfl) hc6)) (resC_tmp (by kernel_rfl))) ?_
  exact ⟨zzc, zzd, zze, true, rfl, h⟩
theorem vers_At.go {n : Int} {w : World} {k : Value → World → Prop} (h : vers_At n w fun r0 r1 r2 r3 w'=>k (Value.tuple #[(Value.agg #[(Value.int .i64 r0), (Value.int .i64 r1), (Value.int .i64 r2)]), (Value.bool r3)]) w') : callS Tryz.prog 167 [(Value.int .i64 n)] w k := (vers_At.sound n w _ h).mono (by rintro _ _ ⟨r0, r1, r2, r3, rfl, h⟩; exact h)
def slices_Collect_spanranks (seq : Value) (w : World) (R : Sl → World → Prop) : Prop :=
 callS Tryz.prog 196 [(Sl.v Sl.nil), seq] w fun v vw=>∃ (t4 : Sl), v = (Sl.v t4) ∧ R t4 vw
set_option maxHeartbeats 8000000 in
theorem slices_Collect_spanranks.sound (seq : Value) (w : World) (R : Sl → World → Prop) (h : slices_Collect_spanranks seq w R) : callS Tryz.prog 168 [seq] w (fun v w'=>∃ (r0 : Sl), v = (Sl.v r0) ∧ R r0 w') := by
 unfold slices_Collect_spanranks at h
 refine calls_of_vc 5 rfl Tryz.func168 rfl (by kernel_rfl) (by simp) ?_
 refine Vc.seq ?_
 refine Vc.region ?_
 refine vcL_pure rfl rfl (Sl.v Sl.nil) (fun w=>by kernel_rfl) ?_
 refine vcL_nil ?_
 refine Vc.seq ?_
 refine Vc.region ?_
 refine vcL_pure rfl rfl seq (fun w=>by kernel_rfl) ?_
 refine vcL_eff rfl (opVC_call rfl (by kernel_rfl) (callS.mono h fun v vw h=>?_))
 obtain ⟨t4, rfl, h⟩ := h
 refine vcL_pure rfl rfl (Sl.v t4) (fun w=>by kernel_rfl) ?_
 refine vcL_nil ?_
 refine Vc.ret ?_
 refine outs_ret ?_
 refine done_mk (Sl.v t4) (res1 (resC_tmp (by kernel_rfl))) ?_
 exact ⟨t4, rfl, h⟩
theorem slices_Collect_spanranks.go {seq : Value} {w : World} {k : Value → World → Prop} (h : slices_Collect_spanranks seq w fun r0 w'=>k (Sl.v r0) w') : callS Tryz.prog 168 [seq] w k := (slices_Collect_spanranks.sound seq w _ h).mono (by rintro _ _ ⟨r0, rfl, h⟩; exact h)
def cmp_isNaN_int (x : Int) (w : World) (R : Bool → World → Prop) : Prop :=
 R (!(x == x)) w
set_option maxHeartbeats 8000000 in
theorem cmp_isNaN_int.sound (x : Int) (w : World) (R : Bool → World → Prop) (h : cmp_isNaN_int x w R) : callS Tryz.prog 171 [(Value.int .i64 x)] w (fun v w'=>∃ (r0 : Bool), v = (Value.bool r0) ∧ R r0 w') := by
 unfold cmp_isNaN_int at h
 refine calls_of_vc 6 rfl Tryz.func171 rfl (by kernel_rfl) (by simp) ?_
 refine Vc.seq ?_
 refine Vc.region ?_
 refine vcL_pure rfl rfl (Value.bool false) (fun w=>by kernel_rfl) ?_
 refine vcL_nil ?_
 refine Vc.seq ?_
 refine Vc.region ?_
 refine vcL_purs 4 [(2, (Value.bool (!(x == x)))), (5, (Value.bool (!(x == x)))), (4, (Value.int .i64 x)), (3, (Value.int .i64 x))] (by kernel_rfl) ?_
 refine vcL_nil ?_
 refine Vc.ret ?_
 refine outs_ret ?_
 refine done_mk (Value.bool (!(x == x))) (res1 (resC_tmp (by kernel_rfl))) ?_
 exact ⟨(!(x == x)), rfl, h⟩
theorem cmp_isNaN_int.go {x : Int} {w : World} {k : Value → World → Prop} (h : cmp_isNaN_int x w fun r0 w'=>k (Value.bool r0) w') : callS Tryz.prog 171 [(Value.int .i64 x)] w k := (cmp_isNaN_int.sound x w _ h).mono (by rintro _ _ ⟨r0, rfl, h⟩; exact h)
def span_Print (l : Sl) (w : World) (R : ByteArray → World → Prop) : Prop :=
 callS Tryz.prog 91 [(Sl.v l)] w fun v vw=>∃ (t11 : Bool), v = (Value.bool t11) ∧ (((!t11) = true → R (ByteArray.mk #[]) vw) ∧ ((!t11) = false → callS Tryz.prog 94 [(Sl.v l)] vw fun v2 vw1=>∃ (t14 : Sl), v2 = (Sl.v t14) ∧ loop2 Sl.nil 0 vw1 fun texts t16 vw4 nxt=>((t16 < (t14.len : Int) → join (fun (texts5 : Sl) (vw6 : World)=>nxt texts5 (wrapI (t16 + 1)) vw6) fun vJ=>∃ (ad : Addr), (t14.a = some ad ∧ (0 : Int) ≤ t16 ∧ t16 < (t14.len : Int)) ∧ ∃ (t19_lo : Int) (t19_hi : Int), (ldc vw4 (ad.add (t16.toNat * 2)) [(Value.int .i64 t19_lo), (Value.int .i64 t19_hi)]) ∧ newS vw4 [(Value.int .i64 0), (Value.int .i64 0)] 157 fun a vw7=>stw vw7 a [(Value.int .i64 t19_lo), (Value.int .i64 t19_hi)] fun vw8=>∃ (t22 : Int), (ldc vw8 a [(Value.int .i64 t22)]) ∧ callS Tryz.prog 167 [(Value.int .i64 t22)] vw8 fun v11 vw10=>∃ (zz6 : Int) (zz7 : Int) (zz8 : Int) (t23b : Bool), v11 = (Value.tuple #[(Value.agg #[(Value.int .i64 zz6), (Value.int .i64 zz7), (Value.int .i64 zz8)]), (Value.bool t23b)]) ∧ newS vw10 [(Value.int .i64 0), (Value.int .i64 0), (Value.int .i64 0)] 30 fun a13 vw14=>stw vw14 a13 [(Value.int .i64 zz6), (Value.int .i64 zz7), (Value.int .i64 zz8)] fun vw15=>∃ (t28 : Int), (ldc vw15 (a.add 1) [(Value.int .i64 t28)]) ∧ callS Tryz.prog 167 [(Value.int .i64 t28)] vw15 fun v18 vw17=>∃ (zz0 : Int) (zz1 : Int) (zz2 : Int) (t29b : Bool), v18 = (Value.tuple #[(Value.agg #[(Value.int .i64 zz0), (Value.int .i64 zz1), (Value.int .i64 zz2)]), (Value.bool t29b)]) ∧ newS vw17 [(Value.int .i64 0), (Value.int .i64 0), (Value.int .i64 0)] 30 fun a20 vw21=>stw vw21 a20 [(Value.int .i64 zz0), (Value.int .i64 zz1), (Value.int .i64 zz2)] fun vw22=>∃ (t44 : Int), (ldc vw22 a [(Value.int .i64 t44)]) ∧ ∃ (t46 : Int), (ldc vw22 (a.add 1) [(Value.int .i64 t46)]) ∧ ((t44 = t46 → ∃ (zzl : Int) (zzm : Int) (zzn : Int), (ldc vw22 a13 [(Value.int .i64 zzl), (Value.int .i64 zzm), (Value.int .i64 zzn)]) ∧ callS Tryz.prog 144 [(Value.agg #[(Value.int .i64 zzl), (Value.int .i64 zzm), (Value.int .i64 zzn)])] vw22 fun v27 vw26=>∃ (t50 : ByteArray), v27 = (Value.string t50) ∧ newS vw26 [(Value.string t50)] 9 fun a29 vw30=>appS Tryz.prog 236 236 texts (Sl.v (Sl.mk (some a29) 1 1)) vw30 fun t52 vw31=>vJ t52 vw31) ∧ (¬ (t44 = t46) → ∃ (t54_lo : Int) (t54_hi : Int), (ldc vw22 a [(Value.int .i64 t54_lo), (Value.int .i64 t54_hi)]) ∧ ((((t54_lo == 0) && ((t54_hi == 999999999) && true)) = true → newS vw22 [(Value.string (ByteArray.mk #[42]))] 9 fun a33 vw34=>appS Tryz.prog 236 236 texts (Sl.v (Sl.mk (some a33) 1 1)) vw34 fun t59 vw35=>vJ t59 vw35) ∧ (((t54_lo == 0) && ((t54_hi == 999999999) && true)) = false → ∃ (t62 : Int), (ldc vw22 a [(Value.int .i64 t62)]) ∧ ((t62 = 0 → ∃ (zzo : Int) (zzp : Int) (zzq : Int), (ldc vw22 a20 [(Value.int .i64 zzo), (Value.int .i64 zzp), (Value.int .i64 zzq)]) ∧ callS Tryz.prog 144 [(Value.agg #[(Value.int .i64 zzo), (Value.int .i64 zzp), (Value.int .i64 zzq)])] vw22 fun v39 vw38=>∃ (t66 : ByteArray), v39 = (Value.string t66) ∧ ((((ByteArray.mk #[60, 61]).size + t66.size : Nat) : Int) ≤ maxI) ∧ newS vw38 [(Value.string ((ByteArray.mk #[60, 61]) ++ t66))] 9 fun a42 vw43=>appS Tryz.prog 236 236 texts (Sl.v (Sl.mk (some a42) 1 1)) vw43 fun t69 vw44=>vJ t69 vw44) ∧ (¬ (t62 = 0) → ∃ (t72 : Int), (ldc vw22 (a.add 1) [(Value.int .i64 t72)]) ∧ ((t72 = 999999999 → ∃ (zzr : Int) (zzs : Int) (zzt : Int), (ldc vw22 a13 [(Value.int .i64 zzr), (Value.int .i64 zzs), (Value.int .i64 zzt)]) ∧ callS Tryz.prog 144 [(Value.agg #[(Value.int .i64 zzr), (Value.int .i64 zzs), (Value.int .i64 zzt)])] vw22 fun v48 vw47=>∃ (t76 : ByteArray), v48 = (Value.string t76) ∧ ((((ByteArray.mk #[62, 61]).size + t76.size : Nat) : Int) ≤ maxI) ∧ newS vw47 [(Value.string ((ByteArray.mk #[62, 61]) ++ t76))] 9 fun a51 vw52=>appS Tryz.prog 236 236 texts (Sl.v (Sl.mk (some a51) 1 1)) vw52 fun t79 vw53=>vJ t79 vw53) ∧ (¬ (t72 = 999999999) → bnd vw22.drew fun (vw54 : World)=>∃ (zzf : Int) (zzg : Int) (zzh : Int), (ldc vw54 a13 [(Value.int .i64 zzf), (Value.int .i64 zzg), (Value.int .i64 zzh)]) ∧ ∃ (zzi : Int) (zzj : Int) (zzk : Int), (ldc vw54 a20 [(Value.int .i64 zzi), (Value.int .i64 zzj), (Value.int .i64 zzk)]) ∧ callX Tryz.prog 144 [(Value.agg #[(Value.int .i64 zzf), (Value.int .i64 zzg), (Value.int .i64 zzh)])] vw54 fun v58 vw57=>∃ (t34 : ByteArray), v58 = (Value.string t34) ∧ ((((ByteArray.mk #[62, 61]).size + t34.size : Nat) : Int) ≤ maxI) ∧ (((((ByteArray.mk #[62, 61]) ++ t34).size + (ByteArray.mk #[32, 60, 61]).size : Nat) : Int) ≤ maxI) ∧ callS Tryz.prog 144 [(Value.agg #[(Value.int .i64 zzi), (Value.int .i64 zzj), (Value.int .i64 zzk)])] vw57 fun v63 vw62=>∃ (t38 : ByteArray), v63 = (Value.string t38) ∧ ((((((ByteArray.mk #[62, 61]) ++ t34) ++ (ByteArray.mk #[32, 60, 61])).size + t38.size : Nat) : Int) ≤ maxI) ∧ newS vw62 [(Value.string ((((ByteArray.mk #[62, 61]) ++ t34) ++ (ByteArray.mk #[32, 60, 61])) ++ t38))] 9 fun a66 vw67=>appS Tryz.prog 236 236 texts (Sl.v (Sl.mk (some a66) 1 1)) vw67 fun t41 vw68=>vJ t41 vw68))))))))) ∧ (¬ (t16 < (t14.len : Int)) → (((texts.len : Int) = 0 → R (ByteArray.mk #[60, 48, 46, 48, 46, 48]) vw4) ∧ (¬ ((texts.len : Int) = 0) → callS Tryz.prog 205 [(Sl.v texts), (Value.string (ByteArray.mk #[32, 124, 124, 32]))] vw4 fun v70 vw69=>∃ (t85 : ByteArray), v70 = (Value.string t85) ∧ R t85 vw69))))))
set_option maxHeartbeats 8000000 in
theorem span_Print.sound (l : Sl) (w : World) (R : ByteArray → World → Prop) (h : span_Print l w R) : callS Tryz.prog 186 [(Sl.v l)] w (fun v w'=>∃ (r0 : ByteArray), v = (Value.string r0) ∧ R r0 w') := by
 unfold span_Print at h
 refine calls_of_vc 86 rfl Tryz.func186 rfl (by kernel_rfl) (by simp) ?_
 refine Vc.seq ?_
 refine Vc.region ?_
 refine vcL_pure rfl rfl (Value.string (ByteArray.mk #[])) (fun w=>by kernel_rfl) ?_
 refine vcL_nil ?_
 refine Vc.seq ?_
 refine Vc.seq ?_
 refine Vc.region ?_
 refine vcL_pure rfl rfl (Sl.v l) (fun w=>by kernel_rfl) ?_
 refine vcL_eff rfl (opVC_call rfl (by kernel_rfl) (callS.mono h fun v vw h=>?_))
 obtain ⟨t11, rfl, h⟩ := h
 refine vcL_pure rfl rfl (Value.bool (!t11)) (fun w=>by kernel_rfl) ?_
 refine vcL_nil ?_
 refine Vc.cond (!t11) (by kernel_rfl) (fun hb=>?_) (fun hb=>?_)
 ·have h := h.1 (hb)
  refine Vc.seq ?_
  refine Vc.region ?_
  refine vcL_pure rfl rfl (Value.string (ByteArray.mk #[])) (fun w=>by kernel_rfl) ?_
  refine vcL_nil ?_
  refine Vc.ret ?_
  refine outs_ret ?_
  refine done_mk (Value.string (ByteArray.mk #[])) (res1 (resC_tmp (by kernel_rfl))) ?_
  exact ⟨(ByteArray.mk #[]), rfl, h⟩
 ·have h := h.2 (hb)
  refine Vc.skip ?_
  refine Vc.seq ?_
  refine Vc.region ?_
  refine vcL_pure rfl rfl (Sl.v Sl.nil) (fun w=>by kernel_rfl) ?_
  refine vcL_nil ?_
  refine Vc.seq ?_
  refine Vc.seq ?_
  refine Vc.region ?_
  refine vcL_pure rfl rfl (Sl.v l) (fun w=>by kernel_rfl) ?_
  refine vcL_eff rfl (opVC_call rfl (by kernel_rfl) (callS.mono h fun v2 vw1 h=>?_))
  obtain ⟨t14, rfl, h⟩ := h
  refine vcL_purs 2 [(16, (Value.int .i64 0)), (15, (Value.int .i64 (t14.len : Int)))] (by kernel_rfl) ?_
  refine vcL_nil ?_
  refine Vc.block ?_
  obtain ⟨vI, mu, h, hr⟩ := h
  refine Vc.loopJ (σ := Sl × Int) [3, 16] [5, 6, 7, 8, 9, 17, 18, 19, 20, 21, 22, 23, 24, 25, 26, 27, 28, 29, 30, 31, 32, 33, 34, 35, 36, 37, 38, 39, 40, 41, 42, 43, 44, 45, 46, 47, 48, 49, 50, 51, 52, 53, 54, 55, 56, 57, 58, 59, 60, 61, 62, 63, 64, 65, 66, 67, 68, 69, 70, 71, 72, 73, 74, 75, 76, 77, 78, 79, 80] (fun s=>[(3, (Sl.v s.1)), (16, (Value.int .i64 s.2))]) (fun s w=>vI s.1 s.2 w) (fun s w=>mu s.1 s.2 w) (Sl.nil, 0) h (fun _ => rfl) (by kernel_rfl) ?_
  rintro ⟨texts, t16⟩ vw4 j h
  have h := hr texts t16 vw4 h
  refine Vc.seq ?_
  refine Vc.region ?_
  refine vcL_pure rfl rfl (Value.bool (decide (t16 < (t14.len : Int)))) (fun w=>by kernel_rfl) ?_
  refine vcL_nil ?_
  refine Vc.seq ?_
  refine Vc.cond (decide (t16 < (t14.len : Int))) (by kernel_rfl) (fun hb=>?_) (fun hb=>?_)
  ·have h := h.1 (of_decide_eq_true hb)
   refine Vc.skip ?_
   obtain ⟨vJ, hJ, h⟩ := join_elim h
   refine Vc.seqJ (σ := Sl) [3] [5, 6, 7, 8, 9, 18, 19, 20, 21, 22, 23, 24, 25, 26, 27, 28, 29, 30, 31, 32, 33, 34, 35, 36, 37, 38, 39, 40, 41, 42, 43, 44, 45, 46, 47, 48, 49, 50, 51, 52, 53, 54, 55, 56, 57, 58, 59, 60, 61, 62, 63, 64, 65, 66, 67, 68, 69, 70, 71, 72, 73, 74, 75, 76, 77, 78, 79] (fun s=>[(3, (Sl.v s))]) (fun s w=>vJ s w) (fun _ => rfl) ?_ ?_
   ·refine Vc.block ?_
    refine Vc.seq ?_
    refine Vc.region ?_
    obtain ⟨ad, hi, h⟩ := h
    refine vcL_pure rfl rfl (Value.pointer (some (ad.add (t16.toNat * 2)))) (fun w=>by exact exec_indexAt (s := t14) (el := 157) rfl (by kernel_rfl) (by kernel_rfl) (by kernel_rfl) (fun w=>by kernel_rfl) (hi).1 (hi).2.1 (hi).2.2 w) ?_
    obtain ⟨t19_lo, t19_hi, hc, h⟩ := h
    refine vcL_val rfl rfl (Value.agg #[(Value.int .i64 t19_lo), (Value.int .i64 t19_hi)]) (exec_load rfl (by kernel_rfl) (run_loadN (fun w=>by kernel_rfl) (fun w=>by kernel_rfl) ((hc)))) ?_
    refine vcL_eff rfl (opVC_new rfl (fun a=>Value.pointer (some a)) (by kernel_rfl) (newS.mono h fun a vw7 hx h=>?_))
    refine vcL_eff rfl (opVC_store rfl rfl (a := a) (by kernel_rfl) (v := (Value.agg #[(Value.int .i64 t19_lo), (Value.int .i64 t19_hi)])) (by kernel_rfl) [(Value.int .i64 t19_lo), (Value.int .i64 t19_hi)] (by kernel_rfl) (fun w=>by kernel_rfl) (by kernel_rfl) (stw.mono h fun vw8 h=>?_))
    refine vcL_nil ?_
    refine Vc.seq ?_
    refine Vc.region ?_
    refine vcL_pure rfl rfl (Value.pointer (some a)) (fun w=>by kernel_rfl) ?_
    obtain ⟨t22, hc9, h⟩ := h
    refine vcL_val rfl rfl (Value.int .i64 t22) (exec_load rfl (by kernel_rfl) (run_load1 (fun w=>by kernel_rfl) ((hc9)))) ?_
    refine vcL_eff rfl (opVC_call rfl (by kernel_rfl) (callS.mono h fun v11 vw10 h=>?_))
    obtain ⟨zz6, zz7, zz8, t23b, rfl, h⟩ := h
    refine vcL_purs 3 [(25, (Value.bool t23b)), (24, (Value.agg #[(Value.int .i64 zz6), (Value.int .i64 zz7), (Value.int .i64 zz8)])), (20, (Value.tuple #[(Value.agg #[(Value.int .i64 zz6), (Value.int .i64 zz7), (Value.int .i64 zz8)]), (Value.bool t23b)]))] (by kernel_rfl) ?_
    refine vcL_eff rfl (opVC_new rfl (fun a=>Value.pointer (some a)) (by kernel_rfl) (newS.mono h fun a13 vw14 hx h=>?_))
    refine vcL_eff rfl (opVC_store rfl rfl (a := a13) (by kernel_rfl) (v := (Value.agg #[(Value.int .i64 zz6), (Value.int .i64 zz7), (Value.int .i64 zz8)])) (by kernel_rfl) [(Value.int .i64 zz6), (Value.int .i64 zz7), (Value.int .i64 zz8)] (by kernel_rfl) (fun w=>by kernel_rfl) (by kernel_rfl) (stw.mono h fun vw15 h=>?_))
    refine vcL_pure rfl rfl (Value.bool t23b) (fun w=>by kernel_rfl) ?_
    refine vcL_nil ?_
    refine Vc.seq ?_
    refine Vc.region ?_
    refine vcL_pure rfl rfl (Value.pointer (some (a.add 1))) (fun w=>by kernel_rfl) ?_
    obtain ⟨t28, hc16, h⟩ := h
    refine vcL_val rfl rfl (Value.int .i64 t28) (exec_load rfl (by kernel_rfl) (run_load1 (fun w=>by kernel_rfl) ((hc16)))) ?_
    refine vcL_eff rfl (opVC_call rfl (by kernel_rfl) (callS.mono h fun v18 vw17 h=>?_))
    obtain ⟨zz0, zz1, zz2, t29b, rfl, h⟩ := h
    refine vcL_purs 3 [(31, (Value.bool t29b)), (30, (Value.agg #[(Value.int .i64 zz0), (Value.int .i64 zz1), (Value.int .i64 zz2)])), (26, (Value.tuple #[(Value.agg #[(Value.int .i64 zz0), (Value.int .i64 zz1), (Value.int .i64 zz2)]), (Value.bool t29b)]))] (by kernel_rfl) ?_
    refine vcL_eff rfl (opVC_new rfl (fun a=>Value.pointer (some a)) (by kernel_rfl) (newS.mono h fun a20 vw21 hx h=>?_))
    refine vcL_eff rfl (opVC_store rfl rfl (a := a20) (by kernel_rfl) (v := (Value.agg #[(Value.int .i64 zz0), (Value.int .i64 zz1), (Value.int .i64 zz2)])) (by kernel_rfl) [(Value.int .i64 zz0), (Value.int .i64 zz1), (Value.int .i64 zz2)] (by kernel_rfl) (fun w=>by kernel_rfl) (by kernel_rfl) (stw.mono h fun vw22 h=>?_))
    refine vcL_pure rfl rfl (Value.bool t29b) (fun w=>by kernel_rfl) ?_
    refine vcL_nil ?_
    refine Vc.block ?_
    refine Vc.seq ?_
    refine Vc.region ?_
    refine vcL_pure rfl rfl (Value.pointer (some a)) (fun w=>by kernel_rfl) ?_
    obtain ⟨t44, hc23, h⟩ := h
    refine vcL_val rfl rfl (Value.int .i64 t44) (exec_load rfl (by kernel_rfl) (run_load1 (fun w=>by kernel_rfl) ((hc23)))) ?_
    refine vcL_pure rfl rfl (Value.pointer (some (a.add 1))) (fun w=>by kernel_rfl) ?_
    obtain ⟨t46, hc24, h⟩ := h
    refine vcL_val rfl rfl (Value.int .i64 t46) (exec_load rfl (by kernel_rfl) (run_load1 (fun w=>by kernel_rfl) ((hc24)))) ?_
    refine vcL_purs 2 [(42, (Value.bool (t44 == t46))), (47, (Value.bool (t44 == t46)))] (by kernel_rfl) ?_
    refine vcL_nil ?_
    refine Vc.cond (t44 == t46) (by kernel_rfl) (fun hb=>?_) (fun hb=>?_)
    ·have h := h.1 (eq_of_beq hb)
     refine Vc.region ?_
     refine vcL_pure rfl rfl (Sl.v texts) (fun w=>by kernel_rfl) ?_
     obtain ⟨zzl, zzm, zzn, hc25, h⟩ := h
     refine vcL_val rfl rfl (Value.agg #[(Value.int .i64 zzl), (Value.int .i64 zzm), (Value.int .i64 zzn)]) (exec_load rfl (by kernel_rfl) (run_loadN (fun w=>by kernel_rfl) (fun w=>by kernel_rfl) ((hc25)))) ?_
     refine vcL_eff rfl (opVC_call rfl (by kernel_rfl) (callS.mono h fun v27 vw26 h=>?_))
     obtain ⟨t50, rfl, h⟩ := h
     refine vcL_eff rfl (opVC_new rfl (fun a=>Value.slice (some a) 1 1) (by kernel_rfl) (newS.mono h fun a29 vw30 hx h=>?_))
     refine vcL_eff rfl (opVC_sem rfl (c := Builtin.append_ #[236, 236] 236 #[(Sl.v texts), (Sl.v (Sl.mk (some a29) 1 1))]) (by kernel_rfl) (appS.elim (ty := 236) h fun t52 vw31 h=>?_))
     refine vcL_pure rfl rfl (Sl.v t52) (fun w=>by kernel_rfl) ?_
     refine vcL_nil ?_
     exact ⟨t52, 31, ⟨rfl, by kernel_rfl, by kernel_rfl, by kernel_rfl⟩, h⟩
    ·have h := h.2 (ne_of_beq_false hb)
     refine Vc.seq ?_
     refine Vc.region ?_
     obtain ⟨t54_lo, t54_hi, hc32, h⟩ := h
     refine vcL_val rfl rfl (Value.agg #[(Value.int .i64 t54_lo), (Value.int .i64 t54_hi)]) (exec_load rfl (by kernel_rfl) (run_loadN (fun w=>by kernel_rfl) (fun w=>by kernel_rfl) ((hc32)))) ?_
     refine vcL_pure rfl rfl (Value.agg #[(Value.int .i64 0), (Value.int .i64 999999999)]) (fun w=>by kernel_rfl) ?_
     refine vcL_pure rfl rfl (Value.bool ((t54_lo == 0) && ((t54_hi == 999999999) && true))) (fun w=>by exact exec_struct_eq rfl (by kernel_rfl) (by kernel_rfl) (by kernel_rfl) (eqv_157 9998 t54_lo t54_hi 0 999999999 w)) ?_
     refine vcL_pure rfl rfl (Value.bool ((t54_lo == 0) && ((t54_hi == 999999999) && true))) (fun w=>by kernel_rfl) ?_
     refine vcL_nil ?_
     refine Vc.cond ((t54_lo == 0) && ((t54_hi == 999999999) && true)) (by kernel_rfl) (fun hb=>?_) (fun hb=>?_)
     ·have h := h.1 (hb)
      refine Vc.region ?_
      refine vcL_pure rfl rfl (Sl.v texts) (fun w=>by kernel_rfl) ?_
      refine vcL_eff rfl (opVC_new rfl (fun a=>Value.slice (some a) 1 1) (by kernel_rfl) (newS.mono h fun a33 vw34 hx h=>?_))
      refine vcL_eff rfl (opVC_sem rfl (c := Builtin.append_ #[236, 236] 236 #[(Sl.v texts), (Sl.v (Sl.mk (some a33) 1 1))]) (by kernel_rfl) (appS.elim (ty := 236) h fun t59 vw35 h=>?_))
      refine vcL_pure rfl rfl (Sl.v t59) (fun w=>by kernel_rfl) ?_
      refine vcL_nil ?_
      exact ⟨t59, 33, ⟨rfl, by kernel_rfl, by kernel_rfl, by kernel_rfl⟩, h⟩
     ·have h := h.2 (hb)
      refine Vc.seq ?_
      refine Vc.region ?_
      refine vcL_pure rfl rfl (Value.pointer (some a)) (fun w=>by kernel_rfl) ?_
      obtain ⟨t62, hc36, h⟩ := h
      refine vcL_val rfl rfl (Value.int .i64 t62) (exec_load rfl (by kernel_rfl) (run_load1 (fun w=>by kernel_rfl) ((hc36)))) ?_
      refine vcL_purs 2 [(60, (Value.bool (t62 == 0))), (63, (Value.bool (t62 == 0)))] (by kernel_rfl) ?_
      refine vcL_nil ?_
      refine Vc.cond (t62 == 0) (by kernel_rfl) (fun hb=>?_) (fun hb=>?_)
      ·have h := h.1 (eq_of_beq hb)
       refine Vc.region ?_
       refine vcL_pure rfl rfl (Sl.v texts) (fun w=>by kernel_rfl) ?_
       obtain ⟨zzo, zzp, zzq, hc37, h⟩ := h
       refine vcL_val rfl rfl (Value.agg #[(Value.int .i64 zzo), (Value.int .i64 zzp), (Value.int .i64 zzq)]) (exec_load rfl (by kernel_rfl) (run_loadN (fun w=>by kernel_rfl) (fun w=>by kernel_rfl) ((hc37)))) ?_
       refine vcL_eff rfl (opVC_call rfl (by kernel_rfl) (callS.mono h fun v39 vw38 h=>?_))
       obtain ⟨t66, rfl, h⟩ := h
       obtain ⟨hi41, h⟩ := h
       refine vcL_pure rfl rfl (Value.string ((ByteArray.mk #[60, 61]) ++ t66)) (fun w=>by exact exec_str_add (a := (ByteArray.mk #[60, 61])) (b := t66) rfl (by kernel_rfl) (by kernel_rfl) (hi41) w) ?_
       refine vcL_eff rfl (opVC_new rfl (fun a=>Value.slice (some a) 1 1) (by kernel_rfl) (newS.mono h fun a42 vw43 hx h=>?_))
       refine vcL_eff rfl (opVC_sem rfl (c := Builtin.append_ #[236, 236] 236 #[(Sl.v texts), (Sl.v (Sl.mk (some a42) 1 1))]) (by kernel_rfl) (appS.elim (ty := 236) h fun t69 vw44 h=>?_))
       refine vcL_pure rfl rfl (Sl.v t69) (fun w=>by kernel_rfl) ?_
       refine vcL_nil ?_
       exact ⟨t69, 40, ⟨rfl, by kernel_rfl, by kernel_rfl, by kernel_rfl⟩, h⟩
      ·have h := h.2 (ne_of_beq_false hb)
       refine Vc.seq ?_
       refine Vc.region ?_
       refine vcL_pure rfl rfl (Value.pointer (some (a.add 1))) (fun w=>by kernel_rfl) ?_
       obtain ⟨t72, hc45, h⟩ := h
       refine vcL_val rfl rfl (Value.int .i64 t72) (exec_load rfl (by kernel_rfl) (run_load1 (fun w=>by kernel_rfl) ((hc45)))) ?_
       refine vcL_purs 2 [(70, (Value.bool (t72 == 999999999))), (73, (Value.bool (t72 == 999999999)))] (by kernel_rfl) ?_
       refine vcL_nil ?_
       refine Vc.cond (t72 == 999999999) (by kernel_rfl) (fun hb=>?_) (fun hb=>?_)
       ·have h := h.1 (eq_of_beq hb)
        refine Vc.region ?_
        refine vcL_pure rfl rfl (Sl.v texts) (fun w=>by kernel_rfl) ?_
        obtain ⟨zzr, zzs, zzt, hc46, h⟩ := h
        refine vcL_val rfl rfl (Value.agg #[(Value.int .i64 zzr), (Value.int .i64 zzs), (Value.int .i64 zzt)]) (exec_load rfl (by kernel_rfl) (run_loadN (fun w=>by kernel_rfl) (fun w=>by kernel_rfl) ((hc46)))) ?_
        refine vcL_eff rfl (opVC_call rfl (by kernel_rfl) (callS.mono h fun v48 vw47 h=>?_))
        obtain ⟨t76, rfl, h⟩ := h
        obtain ⟨hi50, h⟩ := h
        refine vcL_pure rfl rfl (Value.string ((ByteArray.mk #[62, 61]) ++ t76)) (fun w=>by exact exec_str_add (a := (ByteArray.mk #[62, 61])) (b := t76) rfl (by kernel_rfl) (by kernel_rfl) (hi50) w) ?_
        refine vcL_eff rfl (opVC_new rfl (fun a=>Value.slice (some a) 1 1) (by kernel_rfl) (newS.mono h fun a51 vw52 hx h=>?_))
        refine vcL_eff rfl (opVC_sem rfl (c := Builtin.append_ #[236, 236] 236 #[(Sl.v texts), (Sl.v (Sl.mk (some a51) 1 1))]) (by kernel_rfl) (appS.elim (ty := 236) h fun t79 vw53 h=>?_))
        refine vcL_pure rfl rfl (Sl.v t79) (fun w=>by kernel_rfl) ?_
        refine vcL_nil ?_
        exact ⟨t79, 44, ⟨rfl, by kernel_rfl, by kernel_rfl, by kernel_rfl⟩, h⟩
       ·have h := h.2 (ne_of_beq_false hb)
        obtain ⟨vw54, hvw54⟩ : ∃ y, y = vw22.drew := ⟨_, rfl⟩
        have h := h vw54 hvw54
        refine Vc.draw (by kernel_rfl) (fun i=>!(memN [6, 8, 9] i)) (.pur 0 (.val 1 (.val 5 (.eff 2 (.pur 3 (.pur 4 (.eff 6 (.pur 7 (.eff 8 (.eff 9 (.pur 10 .fin) .stop) .stop)) .stop))) .stop)))) (by kernel_rfl) ?_
        rw [← hvw54]
        clear hvw54
        refine vcS_pure rfl rfl rfl (Sl.v texts) (fun w=>by kernel_rfl) ?_
        obtain ⟨zzf, zzg, zzh, hc55, h⟩ := h
        refine vcS_val rfl rfl rfl (Value.agg #[(Value.int .i64 zzf), (Value.int .i64 zzg), (Value.int .i64 zzh)]) (fun w' hx=>exec_load rfl (by kernel_rfl) (run_loadN (fun w=>by kernel_rfl) (fun w=>by kernel_rfl) ((hc55).ext hx))) ?_
        obtain ⟨zzi, zzj, zzk, hc56, h⟩ := h
        refine vcS_val rfl rfl rfl (Value.agg #[(Value.int .i64 zzi), (Value.int .i64 zzj), (Value.int .i64 zzk)]) (fun w' hx=>exec_load rfl (by kernel_rfl) (run_loadN (fun w=>by kernel_rfl) (fun w=>by kernel_rfl) ((hc56).ext hx))) ?_
        refine vcS_eff rfl rfl (opVC_call rfl (by kernel_rfl) (callS.mono h fun v58 vw57 h=>?_)) vcS_stop
        obtain ⟨hx59, h⟩ := h
        obtain ⟨t34, rfl, h⟩ := h
        refine ⟨fun _ => hx59, ?_⟩
        obtain ⟨hi60, h⟩ := h
        refine vcS_pure rfl rfl rfl (Value.string ((ByteArray.mk #[62, 61]) ++ t34)) (fun w=>by exact exec_str_add (a := (ByteArray.mk #[62, 61])) (b := t34) rfl (by kernel_rfl) (by kernel_rfl) (hi60) w) ?_
        obtain ⟨hi61, h⟩ := h
        refine vcS_pure rfl rfl rfl (Value.string (((ByteArray.mk #[62, 61]) ++ t34) ++ (ByteArray.mk #[32, 60, 61]))) (fun w=>by exact exec_str_add (a := ((ByteArray.mk #[62, 61]) ++ t34)) (b := (ByteArray.mk #[32, 60, 61])) rfl (by kernel_rfl) (by kernel_rfl) (hi61) w) ?_
        refine vcS_eff rfl rfl (opVC_call rfl (by kernel_rfl) (callS.mono h fun v63 vw62 h=>?_)) vcS_stop
        obtain ⟨t38, rfl, h⟩ := h
        refine ⟨fun hb=>absurd hb (by decide), ?_⟩
        obtain ⟨hi65, h⟩ := h
        refine vcS_pure rfl rfl rfl (Value.string ((((ByteArray.mk #[62, 61]) ++ t34) ++ (ByteArray.mk #[32, 60, 61])) ++ t38)) (fun w=>by exact exec_str_add (a := (((ByteArray.mk #[62, 61]) ++ t34) ++ (ByteArray.mk #[32, 60, 61]))) (b := t38) rfl (by kernel_rfl) (by kernel_rfl) (hi65) w) ?_
        refine vcS_eff rfl rfl (opVC_new rfl (fun a=>Value.slice (some a) 1 1) (by kernel_rfl) (newS.mono h fun a66 vw67 hx h=>?_)) vcS_stop
        refine ⟨fun hb=>absurd hb (by decide), ?_⟩
        refine vcS_eff rfl rfl (opVC_sem rfl (c := Builtin.append_ #[236, 236] 236 #[(Sl.v texts), (Sl.v (Sl.mk (some a66) 1 1))]) (by kernel_rfl) (appS.elim (ty := 236) h fun t41 vw68 h=>?_)) vcS_stop
        refine ⟨fun hb=>absurd hb (by decide), ?_⟩
        refine vcS_pure rfl rfl rfl (Sl.v t41) (fun w=>by kernel_rfl) ?_
        refine vcS_fin ?_
        exact ⟨t41, 48, ⟨rfl, by kernel_rfl, by kernel_rfl, by kernel_rfl⟩, h⟩
   ·intro texts5 vw6 j h
    subst hJ
    refine Vc.region ?_
    refine vcL_purs 2 [(16, (Value.int .i64 (wrapI (t16 + 1)))), (80, (Value.int .i64 (wrapI (t16 + 1))))] (by kernel_rfl) ?_
    refine vcL_nil ?_
    exact ⟨(texts5, (wrapI (t16 + 1))), 142, ⟨rfl, by kernel_rfl, by kernel_rfl, by kernel_rfl⟩, h⟩
  ·have h := h.2 (of_decide_eq_false hb)
   refine Vc.exit ?_
   refine outOf_hit ?_
   refine Vc.seq ?_
   refine Vc.seq ?_
   refine Vc.region ?_
   refine vcL_purs 3 [(83, (Value.bool ((texts.len : Int) == 0))), (82, (Value.int .i64 (texts.len : Int))), (81, (Sl.v texts))] (by kernel_rfl) ?_
   refine vcL_nil ?_
   refine Vc.cond ((texts.len : Int) == 0) (by kernel_rfl) (fun hb=>?_) (fun hb=>?_)
   ·have h := h.1 (eq_of_beq hb)
    refine Vc.seq ?_
    refine Vc.region ?_
    refine vcL_pure rfl rfl (Value.string (ByteArray.mk #[60, 48, 46, 48, 46, 48])) (fun w=>by kernel_rfl) ?_
    refine vcL_nil ?_
    refine Vc.ret ?_
    refine outs_ret ?_
    refine done_mk (Value.string (ByteArray.mk #[60, 48, 46, 48, 46, 48])) (res1 (resC_tmp (by kernel_rfl))) ?_
    exact ⟨(ByteArray.mk #[60, 48, 46, 48, 46, 48]), rfl, h⟩
   ·have h := h.2 (ne_of_beq_false hb)
    refine Vc.skip ?_
    refine Vc.seq ?_
    refine Vc.region ?_
    refine vcL_pure rfl rfl (Sl.v texts) (fun w=>by kernel_rfl) ?_
    refine vcL_eff rfl (opVC_call rfl (by kernel_rfl) (callS.mono h fun v70 vw69 h=>?_))
    obtain ⟨t85, rfl, h⟩ := h
    refine vcL_pure rfl rfl (Value.string t85) (fun w=>by kernel_rfl) ?_
    refine vcL_nil ?_
    refine Vc.ret ?_
    refine outs_ret ?_
    refine done_mk (Value.string t85) (res1 (resC_tmp (by kernel_rfl))) ?_
    exact ⟨t85, rfl, h⟩
theorem span_Print.go {l : Sl} {w : World} {k : Value → World → Prop} (h : span_Print l w fun r0 w'=>k (Value.string r0) w') : callS Tryz.prog 186 [(Sl.v l)] w k := (span_Print.sound l w _ h).mono (by rintro _ _ ⟨r0, rfl, h⟩; exact h)
def slices_rotateCmpFunc_apiVersion (data : Sl) (a : Int) (m : Int) (b : Int) (cmp : Value) (w : World) (R : World → Prop) : Prop :=
 loop2 (wrapI (m - a)) (wrapI (b - m)) w fun i vj vw nxt=>((¬ i = vj → ((vj < i → callS Tryz.prog 207 [(Sl.v data), (Value.int .i64 (wrapI (m - i))), (Value.int .i64 m), (Value.int .i64 vj), cmp] vw fun v vw1=>v = (Value.tuple #[]) ∧ nxt (wrapI (i - vj)) vj vw1) ∧ (¬ (vj < i) → callS Tryz.prog 207 [(Sl.v data), (Value.int .i64 (wrapI (m - i))), (Value.int .i64 (wrapI ((wrapI (m + vj)) - i))), (Value.int .i64 i), cmp] vw fun v3 vw2=>v3 = (Value.tuple #[]) ∧ nxt i (wrapI (vj - i)) vw2))) ∧ (¬ (¬ i = vj) → callS Tryz.prog 207 [(Sl.v data), (Value.int .i64 (wrapI (m - i))), (Value.int .i64 m), (Value.int .i64 i), cmp] vw fun v6 vw5=>v6 = (Value.tuple #[]) ∧ R vw5))
set_option maxHeartbeats 8000000 in
theorem slices_rotateCmpFunc_apiVersion.sound (data : Sl) (a : Int) (m : Int) (b : Int) (cmp : Value) (w : World) (R : World → Prop) (h : slices_rotateCmpFunc_apiVersion data a m b cmp w R) : callS Tryz.prog 190 [(Sl.v data), (Value.int .i64 a), (Value.int .i64 m), (Value.int .i64 b), cmp] w (fun v w'=>v = (Value.tuple #[]) ∧ R w') := by
 unfold slices_rotateCmpFunc_apiVersion at h
 refine calls_of_vc 58 rfl Tryz.func190 rfl (by kernel_rfl) (by simp) ?_
 refine Vc.seq ?_
 refine Vc.region ?_
 refine vcL_purs 4 [(10, (Value.int .i64 (wrapI (m - a)))), (14, (Value.int .i64 (wrapI (m - a)))), (13, (Value.int .i64 a)), (12, (Value.int .i64 m))] (by kernel_rfl) ?_
 refine vcL_nil ?_
 refine Vc.seq ?_
 refine Vc.region ?_
 refine vcL_purs 4 [(11, (Value.int .i64 (wrapI (b - m)))), (17, (Value.int .i64 (wrapI (b - m)))), (16, (Value.int .i64 m)), (15, (Value.int .i64 b))] (by kernel_rfl) ?_
 refine vcL_nil ?_
 refine Vc.seq ?_
 refine Vc.block ?_
 obtain ⟨vI, mu, h, hr⟩ := h
 refine Vc.loopJ (σ := Int × Int) [10, 11] [18, 19, 20, 21, 22, 23, 24, 25, 26, 27, 28, 29, 30, 31, 32, 33, 34, 35, 36, 37, 38, 39, 40, 41, 42, 43, 44, 45, 46, 47, 48, 49] (fun s=>[(10, (Value.int .i64 s.1)), (11, (Value.int .i64 s.2))]) (fun s w=>vI s.1 s.2 w) (fun s w=>mu s.1 s.2 w) ((wrapI (m - a)), (wrapI (b - m))) h (fun _ => rfl) (by kernel_rfl) ?_
 rintro ⟨i, vj⟩ vw j h
 have h := hr i vj vw h
 refine Vc.seq ?_
 refine Vc.seq ?_
 refine Vc.region ?_
 refine vcL_purs 3 [(20, (Value.bool (!(i == vj)))), (19, (Value.int .i64 vj)), (18, (Value.int .i64 i))] (by kernel_rfl) ?_
 refine vcL_nil ?_
 refine Vc.cond (!(i == vj)) (by kernel_rfl) (fun hb=>?_) (fun hb=>?_)
 ·have h := h.1 (ne_of_nbeq hb)
  refine Vc.skip ?_
  refine Vc.block ?_
  refine Vc.seq ?_
  refine Vc.region ?_
  refine vcL_purs 3 [(23, (Value.bool (decide (vj < i)))), (22, (Value.int .i64 vj)), (21, (Value.int .i64 i))] (by kernel_rfl) ?_
  refine vcL_nil ?_
  refine Vc.cond (decide (vj < i)) (by kernel_rfl) (fun hb=>?_) (fun hb=>?_)
  ·have h := h.1 (of_decide_eq_true hb)
   refine Vc.seq ?_
   refine Vc.region ?_
   refine vcL_purs 7 [(30, cmp), (29, (Value.int .i64 vj)), (28, (Value.int .i64 m)), (27, (Value.int .i64 (wrapI (m - i)))), (26, (Value.int .i64 i)), (25, (Value.int .i64 m)), (24, (Sl.v data))] (by kernel_rfl) ?_
   refine vcL_eff rfl (opVC_call rfl (by kernel_rfl) (callS.mono h fun v vw1 h=>?_))
   obtain ⟨rfl, h⟩ := h
   refine vcL_nil ?_
   refine Vc.region ?_
   refine vcL_purs 4 [(10, (Value.int .i64 (wrapI (i - vj)))), (34, (Value.int .i64 (wrapI (i - vj)))), (33, (Value.int .i64 vj)), (32, (Value.int .i64 i))] (by kernel_rfl) ?_
   refine vcL_nil ?_
   exact ⟨((wrapI (i - vj)), vj), 52, ⟨rfl, by kernel_rfl, by kernel_rfl, by kernel_rfl⟩, h⟩
  ·have h := h.2 (of_decide_eq_false hb)
   refine Vc.seq ?_
   refine Vc.region ?_
   refine vcL_purs 11 [(45, cmp), (44, (Value.int .i64 i)), (43, (Value.int .i64 (wrapI ((wrapI (m + vj)) - i)))), (42, (Value.int .i64 i)), (41, (Value.int .i64 (wrapI (m + vj)))), (40, (Value.int .i64 vj)), (39, (Value.int .i64 m)), (38, (Value.int .i64 (wrapI (m - i)))), (37, (Value.int .i64 i)), (36, (Value.int .i64 m)), (35, (Sl.v data))] (by kernel_rfl) ?_
   refine vcL_eff rfl (opVC_call rfl (by kernel_rfl) (callS.mono h fun v3 vw2 h=>?_))
   obtain ⟨rfl, h⟩ := h
   refine vcL_nil ?_
   refine Vc.region ?_
   refine vcL_purs 4 [(11, (Value.int .i64 (wrapI (vj - i)))), (49, (Value.int .i64 (wrapI (vj - i)))), (48, (Value.int .i64 i)), (47, (Value.int .i64 vj))] (by kernel_rfl) ?_
   refine vcL_nil ?_
   exact ⟨(i, (wrapI (vj - i))), 56, ⟨rfl, by kernel_rfl, by kernel_rfl, by kernel_rfl⟩, h⟩
 ·have h := h.2 (nne_of_nbeq hb)
  refine Vc.exit ?_
  refine outOf_hit ?_
  refine Vc.region ?_
  refine vcL_purs 7 [(56, cmp), (55, (Value.int .i64 i)), (54, (Value.int .i64 m)), (53, (Value.int .i64 (wrapI (m - i)))), (52, (Value.int .i64 i)), (51, (Value.int .i64 m)), (50, (Sl.v data))] (by kernel_rfl) ?_
  refine vcL_eff rfl (opVC_call rfl (by kernel_rfl) (callS.mono h fun v6 vw5 h=>?_))
  obtain ⟨rfl, h⟩ := h
  refine vcL_nil ?_
  refine done_mk (Value.tuple #[]) (res0 ) ?_
  exact ⟨rfl, h⟩
theorem slices_rotateCmpFunc_apiVersion.go {data : Sl} {a : Int} {m : Int} {b : Int} {cmp : Value} {w : World} {k : Value → World → Prop} (h : slices_rotateCmpFunc_apiVersion data a m b cmp w fun  w'=>k (Value.tuple #[]) w') : callS Tryz.prog 190 [(Sl.v data), (Value.int .i64 a), (Value.int .i64 m), (Value.int .i64 b), cmp] w k := (slices_rotateCmpFunc_apiVersion.sound data a m b cmp w _ h).mono (by rintro _ _ ⟨rfl, h⟩; exact h)
def slices_swapRangeCmpFunc_apiVersion (data : Sl) (a : Int) (b : Int) (n : Int) (cmp : Value) (w : World) (R : World → Prop) : Prop :=
 loop1 0 w fun i vw nxt=>((i < n → bnd vw.drew fun (vw1 : World)=>∃ (ad : Addr), (data.a = some ad ∧ (0 : Int) ≤ (wrapI (b + i)) ∧ (wrapI (b + i)) < (data.len : Int)) ∧ ∃ (zz0 : Int) (zz1 : Int) (zz2 : Int), (ldc vw1 (ad.add ((wrapI (b + i)).toNat * 3)) [(Value.int .i64 zz0), (Value.int .i64 zz1), (Value.int .i64 zz2)]) ∧ ∃ (ad2 : Addr), (data.a = some ad2 ∧ (0 : Int) ≤ (wrapI (a + i)) ∧ (wrapI (a + i)) < (data.len : Int)) ∧ ∃ (zz9 : Int) (zza : Int) (zzb : Int), (ldc vw1 (ad2.add ((wrapI (a + i)).toNat * 3)) [(Value.int .i64 zz9), (Value.int .i64 zza), (Value.int .i64 zzb)]) ∧ ∃ (ad5 : Addr), (data.a = some ad5 ∧ (0 : Int) ≤ (wrapI (a + i)) ∧ (wrapI (a + i)) < (data.len : Int)) ∧ stw vw1 (ad5.add ((wrapI (a + i)).toNat * 3)) [(Value.int .i64 zz0), (Value.int .i64 zz1), (Value.int .i64 zz2)] fun vw7=>∃ (ad8 : Addr), (data.a = some ad8 ∧ (0 : Int) ≤ (wrapI (b + i)) ∧ (wrapI (b + i)) < (data.len : Int)) ∧ stw vw7 (ad8.add ((wrapI (b + i)).toNat * 3)) [(Value.int .i64 zz9), (Value.int .i64 zza), (Value.int .i64 zzb)] fun vw10=>nxt (wrapI (i + 1)) vw10) ∧ (¬ (i < n) → R vw))
set_option maxHeartbeats 8000000 in
theorem slices_swapRangeCmpFunc_apiVersion.sound (data : Sl) (a : Int) (b : Int) (n : Int) (cmp : Value) (w : World) (R : World → Prop) (h : slices_swapRangeCmpFunc_apiVersion data a b n cmp w R) : callS Tryz.prog 207 [(Sl.v data), (Value.int .i64 a), (Value.int .i64 b), (Value.int .i64 n), cmp] w (fun v w'=>v = (Value.tuple #[]) ∧ R w') := by
 unfold slices_swapRangeCmpFunc_apiVersion at h
 refine calls_of_vc 38 rfl Tryz.func207 rfl (by kernel_rfl) (by simp) ?_
 refine Vc.seq ?_
 refine Vc.region ?_
 refine vcL_pure rfl rfl (Value.int .i64 0) (fun w=>by kernel_rfl) ?_
 refine vcL_nil ?_
 refine Vc.block ?_
 obtain ⟨vI, mu, h, hr⟩ := h
 refine Vc.loopJ (σ := Int) [10] [11, 12, 13, 14, 15, 16, 17, 18, 19, 20, 21, 22, 23, 24, 25, 26, 27, 28, 29, 30, 31, 32, 33, 34, 35, 36, 37] (fun s=>[(10, (Value.int .i64 s))]) (fun s w=>vI s w) (fun s w=>mu s w) 0 h (fun _ => rfl) (by kernel_rfl) ?_
 intro i vw j h
 have h := hr i vw h
 refine Vc.seq ?_
 refine Vc.seq ?_
 refine Vc.region ?_
 refine vcL_purs 3 [(13, (Value.bool (decide (i < n)))), (12, (Value.int .i64 n)), (11, (Value.int .i64 i))] (by kernel_rfl) ?_
 refine vcL_nil ?_
 refine Vc.cond (decide (i < n)) (by kernel_rfl) (fun hb=>?_) (fun hb=>?_)
 ·have h := h.1 (of_decide_eq_true hb)
  refine Vc.skip ?_
  refine Vc.seq ?_
  refine Vc.block ?_
  obtain ⟨vw1, hvw1⟩ : ∃ y, y = vw.drew := ⟨_, rfl⟩
  have h := h vw1 hvw1
  refine Vc.draw (by kernel_rfl) (fun i=>!(memN [21, 23] i)) (.pur 0 (.pur 1 (.pur 2 (.pur 3 (.pur 4 (.pur 5 (.pur 6 (.pur 7 (.pur 8 (.pur 9 (.pur 10 (.pur 11 (.pur 12 (.val 13 (.pur 14 (.pur 15 (.pur 16 (.pur 17 (.pur 18 (.val 19 (.pur 20 (.eff 21 (.pur 22 (.eff 23 .fin .stop)) .stop)))))))))))))))))))))) (by kernel_rfl) ?_
  rw [← hvw1]
  clear hvw1
  refine vcS_pure rfl rfl rfl (Sl.v data) (fun w=>by kernel_rfl) ?_
  refine vcS_pure rfl rfl rfl (Value.int .i64 a) (fun w=>by kernel_rfl) ?_
  refine vcS_pure rfl rfl rfl (Value.int .i64 i) (fun w=>by kernel_rfl) ?_
  refine vcS_pure rfl rfl rfl (Value.int .i64 (wrapI (a + i))) (fun w=>by kernel_rfl) ?_
  refine vcS_pure rfl rfl rfl (Sl.v data) (fun w=>by kernel_rfl) ?_
  refine vcS_pure rfl rfl rfl (Value.int .i64 b) (fun w=>by kernel_rfl) ?_
  refine vcS_pure rfl rfl rfl (Value.int .i64 i) (fun w=>by kernel_rfl) ?_
  refine vcS_pure rfl rfl rfl (Value.int .i64 (wrapI (b + i))) (fun w=>by kernel_rfl) ?_
  refine vcS_pure rfl rfl rfl (Sl.v data) (fun w=>by kernel_rfl) ?_
  refine vcS_pure rfl rfl rfl (Value.int .i64 b) (fun w=>by kernel_rfl) ?_
  refine vcS_pure rfl rfl rfl (Value.int .i64 i) (fun w=>by kernel_rfl) ?_
  refine vcS_pure rfl rfl rfl (Value.int .i64 (wrapI (b + i))) (fun w=>by kernel_rfl) ?_
  obtain ⟨ad, hi, h⟩ := h
  refine vcS_pure rfl rfl rfl (Value.pointer (some (ad.add ((wrapI (b + i)).toNat * 3)))) (fun w=>by exact exec_indexAt (s := data) (el := 30) rfl (by kernel_rfl) (by kernel_rfl) (by kernel_rfl) (fun w=>by kernel_rfl) (hi).1 (hi).2.1 (hi).2.2 w) ?_
  obtain ⟨zz0, zz1, zz2, hc, h⟩ := h
  refine vcS_val rfl rfl rfl (Value.agg #[(Value.int .i64 zz0), (Value.int .i64 zz1), (Value.int .i64 zz2)]) (fun w' hx=>exec_load rfl (by kernel_rfl) (run_loadN (fun w=>by kernel_rfl) (fun w=>by kernel_rfl) ((hc).ext hx))) ?_
  refine vcS_pure rfl rfl rfl (Sl.v data) (fun w=>by kernel_rfl) ?_
  refine vcS_pure rfl rfl rfl (Value.int .i64 a) (fun w=>by kernel_rfl) ?_
  refine vcS_pure rfl rfl rfl (Value.int .i64 i) (fun w=>by kernel_rfl) ?_
  refine vcS_pure rfl rfl rfl (Value.int .i64 (wrapI (a + i))) (fun w=>by kernel_rfl) ?_
  obtain ⟨ad2, hi3, h⟩ := h
  refine vcS_pure rfl rfl rfl (Value.pointer (some (ad2.add ((wrapI (a + i)).toNat * 3)))) (fun w=>by exact exec_indexAt (s := data) (el := 30) rfl (by kernel_rfl) (by kernel_rfl) (by kernel_rfl) (fun w=>by kernel_rfl) (hi3).1 (hi3).2.1 (hi3).2.2 w) ?_
  obtain ⟨zz9, zza, zzb, hc4, h⟩ := h
  refine vcS_val rfl rfl rfl (Value.agg #[(Value.int .i64 zz9), (Value.int .i64 zza), (Value.int .i64 zzb)]) (fun w' hx=>exec_load rfl (by kernel_rfl) (run_loadN (fun w=>by kernel_rfl) (fun w=>by kernel_rfl) ((hc4).ext hx))) ?_
  obtain ⟨ad5, hi6, h⟩ := h
  refine vcS_pure rfl rfl rfl (Value.pointer (some (ad5.add ((wrapI (a + i)).toNat * 3)))) (fun w=>by exact exec_indexAt (s := data) (el := 30) rfl (by kernel_rfl) (by kernel_rfl) (by kernel_rfl) (fun w=>by kernel_rfl) (hi6).1 (hi6).2.1 (hi6).2.2 w) ?_
  refine vcS_eff rfl rfl (opVC_store rfl rfl (a := (ad5.add ((wrapI (a + i)).toNat * 3))) (by kernel_rfl) (v := (Value.agg #[(Value.int .i64 zz0), (Value.int .i64 zz1), (Value.int .i64 zz2)])) (by kernel_rfl) [(Value.int .i64 zz0), (Value.int .i64 zz1), (Value.int .i64 zz2)] (by kernel_rfl) (fun w=>by kernel_rfl) (by kernel_rfl) (stw.mono h fun vw7 h=>?_)) vcS_stop
  refine ⟨fun hb=>absurd hb (by decide), ?_⟩
  obtain ⟨ad8, hi9, h⟩ := h
  refine vcS_pure rfl rfl rfl (Value.pointer (some (ad8.add ((wrapI (b + i)).toNat * 3)))) (fun w=>by exact exec_indexAt (s := data) (el := 30) rfl (by kernel_rfl) (by kernel_rfl) (by kernel_rfl) (fun w=>by kernel_rfl) (hi9).1 (hi9).2.1 (hi9).2.2 w) ?_
  refine vcS_eff rfl rfl (opVC_store rfl rfl (a := (ad8.add ((wrapI (b + i)).toNat * 3))) (by kernel_rfl) (v := (Value.agg #[(Value.int .i64 zz9), (Value.int .i64 zza), (Value.int .i64 zzb)])) (by kernel_rfl) [(Value.int .i64 zz9), (Value.int .i64 zza), (Value.int .i64 zzb)] (by kernel_rfl) (fun w=>by kernel_rfl) (by kernel_rfl) (stw.mono h fun vw10 h=>?_)) vcS_stop
  refine ⟨fun hb=>absurd hb (by decide), ?_⟩
  refine vcS_fin ?_
  refine Vc.region ?_
  refine vcL_purs 3 [(10, (Value.int .i64 (wrapI (i + 1)))), (15, (Value.int .i64 (wrapI (i + 1)))), (14, (Value.int .i64 i))] (by kernel_rfl) ?_
  refine vcL_nil ?_
  exact ⟨(wrapI (i + 1)), 56, ⟨rfl, by kernel_rfl, by kernel_rfl, by kernel_rfl⟩, h⟩
 ·have h := h.2 (of_decide_eq_false hb)
  refine Vc.exit ?_
  refine outOf_hit ?_
  refine done_mk (Value.tuple #[]) (res0 ) ?_
  exact ⟨rfl, h⟩
theorem slices_swapRangeCmpFunc_apiVersion.go {data : Sl} {a : Int} {b : Int} {n : Int} {cmp : Value} {w : World} {k : Value → World → Prop} (h : slices_swapRangeCmpFunc_apiVersion data a b n cmp w fun  w'=>k (Value.tuple #[]) w') : callS Tryz.prog 207 [(Sl.v data), (Value.int .i64 a), (Value.int .i64 b), (Value.int .i64 n), cmp] w k := (slices_swapRangeCmpFunc_apiVersion.sound data a b n cmp w _ h).mono (by rintro _ _ ⟨rfl, h⟩; exact h)
end Go.Hal.SE
