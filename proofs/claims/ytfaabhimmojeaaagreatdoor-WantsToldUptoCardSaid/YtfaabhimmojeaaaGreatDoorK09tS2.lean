/- Lemmas for the claim K09t: how the program's functions run, and what they answer; no condition but those that each theorem names. -/
import Derived.Test.YtfaabhimmojeaaaGreatDoorProg
import Derived.Test.YtfaabhimmojeaaaGreatDoorK09tA0
set_option linter.unusedVariables false
set_option linter.unusedSimpArgs false
namespace Go.Hal.SE
open Go Go.RowKit Go.Hal Go.Proofs
set_option maxRecDepth 100000
namespace Eq2
theorem eqv_157 (d : Nat) (a0 : Int) (a1 : Int) (b0 : Int) (b1 : Int) (w : World) : (Op.equalIn (d + 2) 157 (.agg #[(Value.int .i64 a0), (Value.int .i64 a1)]) (.agg #[(Value.int .i64 b0), (Value.int .i64 b1)])).run Tryz.prog w = .ok ((a0 == b0) && ((a1 == b1) && true)) w :=
 (eqS (by kernel_rfl) (by kernel_rfl) (fs := [⟨ "lo", 3, 0, false, "", "halyard/span", 0⟩, ⟨ "hi", 3, 1, false, "", "halyard/span", 8⟩]) (by kernel_rfl) (eqF_cons (x := (Value.int .i64 a0)) (y := (Value.int .i64 b0)) rfl (by kernel_rfl) (by kernel_rfl) (run_equalIn_int w _ 3 .i64 .i64 a0 b0 (by kernel_rfl)) (eqF_cons (x := (Value.int .i64 a1)) (y := (Value.int .i64 b1)) rfl (by kernel_rfl) (by kernel_rfl) (run_equalIn_int w _ 3 .i64 .i64 a1 b1 (by kernel_rfl)) eqF_nil)))
end Eq2
open Eq2
def vers_At (n : Int) (w : World) (R : Int → Int → Int → Bool → World → Prop) : Prop :=
 newS w [(Value.int .i64 0), (Value.int .i64 0), (Value.int .i64 0)] 30 fun a vw=>bnd (decide (n < 0)) fun (b : Bool)=>(((b || (decide (1000000000 ≤ n))) = true → stw vw a [(Value.int .i64 0), (Value.int .i64 0), (Value.int .i64 0)] fun vw1=>∃ (zz0 : Int) (zz1 : Int) (zz2 : Int), ldc vw1 a [(Value.int .i64 zz0), (Value.int .i64 zz1), (Value.int .i64 zz2)] ∧ R zz0 zz1 zz2 false vw1) ∧ ((b || (decide (1000000000 ≤ n))) = false → stw vw a [(Value.int .i64 (wrapI ((wrapI (n.tdiv 1000)).tdiv 1000))), (Value.int .i64 (Int.tmod (wrapI (n.tdiv 1000)) 1000)), (Value.int .i64 (Int.tmod n 1000))] fun vw2=>∃ (zzx : Int) (zzy : Int) (zzz : Int), ldc vw2 a [(Value.int .i64 zzx), (Value.int .i64 zzy), (Value.int .i64 zzz)] ∧ R zzx zzy zzz true vw2))
set_option maxHeartbeats 8000000 in
theorem vers_At.sound (n : Int) (w : World) (R : Int → Int → Int → Bool → World → Prop) (h : vers_At n w R) : callS Tryz.prog 167 [(Value.int .i64 n)] w (fun v w'=>∃ (r0 : Int) (r1 : Int) (r2 : Int) (r3 : Bool), v = (Value.tuple #[(Value.agg #[(Value.int .i64 r0), (Value.int .i64 r1), (Value.int .i64 r2)]), (Value.bool r3)]) ∧ R r0 r1 r2 r3 w') := by
 unfold vers_At at h
 refine calls_of_vc 20 rfl Tryz.func167 rfl (by kernel_rfl) (by simp) ?_
 refine Vc.seq ?_
 refine Vc.region ?_
 refine vcL_eff rfl (opVC_new rfl (fun a=>Value.pointer (some a)) (by kernel_rfl) (newS.mono h fun a vw hx h=>?_))
 refine vcL_pure rfl rfl (Value.bool false) (fun w=>by kernel_rfl) ?_
 refine vcL_nil ?_
 refine Vc.seq ?_
 refine Vc.seq ?_
 refine Vc.region ?_
 refine vcL_purs 2 [(5, (Value.bool (decide (n < 0)))), (4, (Value.int .i64 n))] (by kernel_rfl) ?_
 obtain ⟨b, hb⟩ : ∃ y, y = (decide (n < 0)) := ⟨_, rfl⟩
 have h := h b hb
 refine vcL_pure rfl rfl (Value.bool b) (fun w=>by rw [hb]; kernel_rfl) ?_
 refine vcL_guardP (!b) (wanted_g (d := 6) rfl (by kernel_rfl) b (by kernel_rfl) (!b) (eqF b)) rfl (Value.int .i64 n) (fun hg w=>by simp only [Bool.and_eq_true, Bool.not_eq_true'] at hg; obtain rfl := hg; kernel_rfl) ?_
 refine vcL_guardP (!b) (wanted_g (d := 6) rfl (by kernel_rfl) b (by kernel_rfl) (!b) (eqF b)) rfl (Value.bool (decide (1000000000 ≤ n))) (fun hg w=>by simp only [Bool.and_eq_true, Bool.not_eq_true'] at hg; obtain rfl := hg; kernel_rfl) ?_
 refine vcL_pure rfl rfl (Value.bool (b || (decide (1000000000 ≤ n)))) (fun w=>by cases b <;> kernel_rfl) ?_
 refine vcL_nil ?_
 refine Vc.cond (b || (decide (1000000000 ≤ n))) (by kernel_rfl) (fun hb=>?_) (fun hb=>?_)
 ·have h := h.1 (hb)
  refine Vc.seq ?_
  refine Vc.region ?_
  refine vcL_pure rfl rfl (Value.agg #[(Value.int .i64 0), (Value.int .i64 0), (Value.int .i64 0)]) (fun w=>by kernel_rfl) ?_
  refine vcL_eff rfl (opVC_store rfl rfl (a := a) (by kernel_rfl) (v := (Value.agg #[(Value.int .i64 0), (Value.int .i64 0), (Value.int .i64 0)])) (by kernel_rfl) [(Value.int .i64 0), (Value.int .i64 0), (Value.int .i64 0)] (by kernel_rfl) (fun w=>by kernel_rfl) (by kernel_rfl) (stw.mono h fun vw1 h=>?_))
  refine vcL_pure rfl rfl (Value.bool false) (fun w=>by kernel_rfl) ?_
  refine vcL_nil ?_
  refine Vc.ret ?_
  refine outs_ret ?_
  obtain ⟨zz0, zz1, zz2, hc, h⟩ := h
  refine done_mk (Value.tuple #[(Value.agg #[(Value.int .i64 zz0), (Value.int .i64 zz1), (Value.int .i64 zz2)]), (Value.bool false)]) (res2 (resC_cell (by kernel_rfl) (run_loadN (fun w=>by kernel_rfl) (fun w=>by kernel_rfl) hc)) (resC_tmp (by kernel_rfl))) ?_
  exact ⟨zz0, zz1, zz2, false, rfl, h⟩
 ·have h := h.2 (hb)
  refine Vc.skip ?_
  refine Vc.seq ?_
  refine Vc.region ?_
  refine vcL_purs 9 [(19, (Value.agg #[(Value.int .i64 (wrapI ((wrapI (n.tdiv 1000)).tdiv 1000))), (Value.int .i64 (Int.tmod (wrapI (n.tdiv 1000)) 1000)), (Value.int .i64 (Int.tmod n 1000))])), (18, (Value.int .i64 (Int.tmod n 1000))), (17, (Value.int .i64 n)), (16, (Value.int .i64 (Int.tmod (wrapI (n.tdiv 1000)) 1000))), (15, (Value.int .i64 (wrapI (n.tdiv 1000)))), (14, (Value.int .i64 n)), (13, (Value.int .i64 (wrapI ((wrapI (n.tdiv 1000)).tdiv 1000)))), (12, (Value.int .i64 (wrapI (n.tdiv 1000)))), (11, (Value.int .i64 n))] (by kernel_rfl) ?_
  refine vcL_eff rfl (opVC_store rfl rfl (a := a) (by kernel_rfl) (v := (Value.agg #[(Value.int .i64 (wrapI ((wrapI (n.tdiv 1000)).tdiv 1000))), (Value.int .i64 (Int.tmod (wrapI (n.tdiv 1000)) 1000)), (Value.int .i64 (Int.tmod n 1000))])) (by kernel_rfl) [(Value.int .i64 (wrapI ((wrapI (n.tdiv 1000)).tdiv 1000))), (Value.int .i64 (Int.tmod (wrapI (n.tdiv 1000)) 1000)), (Value.int .i64 (Int.tmod n 1000))] (by kernel_rfl) (fun w=>by kernel_rfl) (by kernel_rfl) (stw.mono h fun vw2 h=>?_))
  refine vcL_pure rfl rfl (Value.bool true) (fun w=>by kernel_rfl) ?_
  refine vcL_nil ?_
  refine Vc.ret ?_
  refine outs_ret ?_
  obtain ⟨zzx, zzy, zzz, hc6, h⟩ := h
  refine done_mk (Value.tuple #[(Value.agg #[(Value.int .i64 zzx), (Value.int .i64 zzy), (Value.int .i64 zzz)]), (Value.bool true)]) (res2 (resC_cell (by kernel_rfl) (run_loadN (fun w=>by kernel_rfl) (fun w=>by kernel_rfl) hc6)) (resC_tmp (by kernel_rfl))) ?_
  exact ⟨zzx, zzy, zzz, true, rfl, h⟩
theorem vers_At.go {n : Int} {w : World} {k : Value → World → Prop} (h : vers_At n w fun r0 r1 r2 r3 w'=>k (Value.tuple #[(Value.agg #[(Value.int .i64 r0), (Value.int .i64 r1), (Value.int .i64 r2)]), (Value.bool r3)]) w') : callS Tryz.prog 167 [(Value.int .i64 n)] w k := (vers_At.sound n w _ h).mono (by rintro _ _ ⟨r0, r1, r2, r3, rfl, h⟩; exact h)
def cmp_isNaN_int (x : Int) (w : World) (R : Bool → World → Prop) : Prop :=
 R (!(x == x)) w
set_option maxHeartbeats 8000000 in
theorem cmp_isNaN_int.sound (x : Int) (w : World) (R : Bool → World → Prop) (h : cmp_isNaN_int x w R) : callS Tryz.prog 171 [(Value.int .i64 x)] w (fun v w'=>∃ (r0 : Bool), v = (Value.bool r0) ∧ R r0 w') := by
 unfold cmp_isNaN_int at h
 refine calls_of_vc 6 rfl Tryz.func171 rfl (by kernel_rfl) (by simp) ?_
 refine Vc.seq ?_
 refine Vc.region ?_
 refine vcL_pure rfl rfl (Value.bool false) (fun w=>by kernel_rfl) ?_
 refine vcL_nil ?_
 refine Vc.seq ?_
 refine Vc.region ?_
 refine vcL_purs 4 [(2, (Value.bool (!(x == x)))), (5, (Value.bool (!(x == x)))), (4, (Value.int .i64 x)), (3, (Value.int .i64 x))] (by kernel_rfl) ?_
 refine vcL_nil ?_
 refine Vc.ret ?_
 refine outs_ret ?_
 refine done_mk (Value.bool (!(x == x))) (res1 (resC_tmp (by kernel_rfl))) ?_
 exact ⟨(!(x == x)), rfl, h⟩
theorem cmp_isNaN_int.go {x : Int} {w : World} {k : Value → World → Prop} (h : cmp_isNaN_int x w fun r0 w'=>k (Value.bool r0) w') : callS Tryz.prog 171 [(Value.int .i64 x)] w k := (cmp_isNaN_int.sound x w _ h).mono (by rintro _ _ ⟨r0, rfl, h⟩; exact h)
def span_Print (l : Sl) (w : World) (R : ByteArray → World → Prop) : Prop :=
 callS Tryz.prog 91 [(Sl.v l)] w fun v vw=>∃ (t11 : Bool), v = (Value.bool t11) ∧ (((!t11) = true → R (ByteArray.mk #[]) vw) ∧ ((!t11) = false → callS Tryz.prog 94 [(Sl.v l)] vw fun v2 vw1=>∃ (t14 : Sl), v2 = (Sl.v t14) ∧ loop2 Sl.nil 0 vw1 fun texts t16 vw4 nxt=>((t16 < (t14.len : Int) → join (fun (texts5 : Sl) (vw6 : World)=>nxt texts5 (wrapI (t16 + 1)) vw6) fun vJ=>∃ (ad : Addr), (t14.a = some ad ∧ (0 : Int) ≤ t16 ∧ t16 < (t14.len : Int)) ∧ ∃ (t19_lo : Int) (t19_hi : Int), (ldc vw4 (ad.add (t16.toNat * 2)) [(Value.int .i64 t19_lo), (Value.int .i64 t19_hi)]) ∧ newS vw4 [(Value.int .i64 0), (Value.int .i64 0)] 157 fun a vw7=>stw vw7 a [(Value.int .i64 t19_lo), (Value.int .i64 t19_hi)] fun vw8=>∃ (t22 : Int), (ldc vw8 a [(Value.int .i64 t22)]) ∧ callS Tryz.prog 167 [(Value.int .i64 t22)] vw8 fun v11 vw10=>∃ (zz3 : Int) (zz4 : Int) (zz5 : Int) (t23b : Bool), v11 = (Value.tuple #[(Value.agg #[(Value.int .i64 zz3), (Value.int .i64 zz4), (Value.int .i64 zz5)]), (Value.bool t23b)]) ∧ newS vw10 [(Value.int .i64 0), (Value.int .i64 0), (Value.int .i64 0)] 30 fun a13 vw14=>stw vw14 a13 [(Value.int .i64 zz3), (Value.int .i64 zz4), (Value.int .i64 zz5)] fun vw15=>∃ (t28 : Int), (ldc vw15 (a.add 1) [(Value.int .i64 t28)]) ∧ callS Tryz.prog 167 [(Value.int .i64 t28)] vw15 fun v18 vw17=>∃ (zz6 : Int) (zz7 : Int) (zz8 : Int) (t29b : Bool), v18 = (Value.tuple #[(Value.agg #[(Value.int .i64 zz6), (Value.int .i64 zz7), (Value.int .i64 zz8)]), (Value.bool t29b)]) ∧ newS vw17 [(Value.int .i64 0), (Value.int .i64 0), (Value.int .i64 0)] 30 fun a20 vw21=>stw vw21 a20 [(Value.int .i64 zz6), (Value.int .i64 zz7), (Value.int .i64 zz8)] fun vw22=>∃ (t44 : Int), (ldc vw22 a [(Value.int .i64 t44)]) ∧ ∃ (t46 : Int), (ldc vw22 (a.add 1) [(Value.int .i64 t46)]) ∧ ((t44 = t46 → ∃ (zz1u : Int) (zz1v : Int) (zz1w : Int), (ldc vw22 a13 [(Value.int .i64 zz1u), (Value.int .i64 zz1v), (Value.int .i64 zz1w)]) ∧ callS Tryz.prog 144 [(Value.agg #[(Value.int .i64 zz1u), (Value.int .i64 zz1v), (Value.int .i64 zz1w)])] vw22 fun v27 vw26=>∃ (t50 : ByteArray), v27 = (Value.string t50) ∧ newS vw26 [(Value.string t50)] 9 fun a29 vw30=>appS Tryz.prog 236 236 texts (Sl.v (Sl.mk (some a29) 1 1)) vw30 fun t52 vw31=>vJ t52 vw31) ∧ (¬ (t44 = t46) → ∃ (t54_lo : Int) (t54_hi : Int), (ldc vw22 a [(Value.int .i64 t54_lo), (Value.int .i64 t54_hi)]) ∧ ((((t54_lo == 0) && ((t54_hi == 999999999) && true)) = true → newS vw22 [(Value.string (ByteArray.mk #[42]))] 9 fun a33 vw34=>appS Tryz.prog 236 236 texts (Sl.v (Sl.mk (some a33) 1 1)) vw34 fun t59 vw35=>vJ t59 vw35) ∧ (((t54_lo == 0) && ((t54_hi == 999999999) && true)) = false → ∃ (t62 : Int), (ldc vw22 a [(Value.int .i64 t62)]) ∧ ((t62 = 0 → ∃ (zz1x : Int) (zz1y : Int) (zz1z : Int), (ldc vw22 a20 [(Value.int .i64 zz1x), (Value.int .i64 zz1y), (Value.int .i64 zz1z)]) ∧ callS Tryz.prog 144 [(Value.agg #[(Value.int .i64 zz1x), (Value.int .i64 zz1y), (Value.int .i64 zz1z)])] vw22 fun v39 vw38=>∃ (t66 : ByteArray), v39 = (Value.string t66) ∧ ((((ByteArray.mk #[60, 61]).size + t66.size : Nat) : Int) ≤ maxI) ∧ newS vw38 [(Value.string ((ByteArray.mk #[60, 61]) ++ t66))] 9 fun a42 vw43=>appS Tryz.prog 236 236 texts (Sl.v (Sl.mk (some a42) 1 1)) vw43 fun t69 vw44=>vJ t69 vw44) ∧ (¬ (t62 = 0) → ∃ (t72 : Int), (ldc vw22 (a.add 1) [(Value.int .i64 t72)]) ∧ ((t72 = 999999999 → ∃ (zz20 : Int) (zz21 : Int) (zz22 : Int), (ldc vw22 a13 [(Value.int .i64 zz20), (Value.int .i64 zz21), (Value.int .i64 zz22)]) ∧ callS Tryz.prog 144 [(Value.agg #[(Value.int .i64 zz20), (Value.int .i64 zz21), (Value.int .i64 zz22)])] vw22 fun v48 vw47=>∃ (t76 : ByteArray), v48 = (Value.string t76) ∧ ((((ByteArray.mk #[62, 61]).size + t76.size : Nat) : Int) ≤ maxI) ∧ newS vw47 [(Value.string ((ByteArray.mk #[62, 61]) ++ t76))] 9 fun a51 vw52=>appS Tryz.prog 236 236 texts (Sl.v (Sl.mk (some a51) 1 1)) vw52 fun t79 vw53=>vJ t79 vw53) ∧ (¬ (t72 = 999999999) → bnd vw22.drew fun (vw54 : World)=>∃ (zz1o : Int) (zz1p : Int) (zz1q : Int), (ldc vw54 a13 [(Value.int .i64 zz1o), (Value.int .i64 zz1p), (Value.int .i64 zz1q)]) ∧ ∃ (zz1r : Int) (zz1s : Int) (zz1t : Int), (ldc vw54 a20 [(Value.int .i64 zz1r), (Value.int .i64 zz1s), (Value.int .i64 zz1t)]) ∧ callX Tryz.prog 144 [(Value.agg #[(Value.int .i64 zz1o), (Value.int .i64 zz1p), (Value.int .i64 zz1q)])] vw54 fun v58 vw57=>∃ (t34 : ByteArray), v58 = (Value.string t34) ∧ ((((ByteArray.mk #[62, 61]).size + t34.size : Nat) : Int) ≤ maxI) ∧ (((((ByteArray.mk #[62, 61]) ++ t34).size + (ByteArray.mk #[32, 60, 61]).size : Nat) : Int) ≤ maxI) ∧ callS Tryz.prog 144 [(Value.agg #[(Value.int .i64 zz1r), (Value.int .i64 zz1s), (Value.int .i64 zz1t)])] vw57 fun v63 vw62=>∃ (t38 : ByteArray), v63 = (Value.string t38) ∧ ((((((ByteArray.mk #[62, 61]) ++ t34) ++ (ByteArray.mk #[32, 60, 61])).size + t38.size : Nat) : Int) ≤ maxI) ∧ newS vw62 [(Value.string ((((ByteArray.mk #[62, 61]) ++ t34) ++ (ByteArray.mk #[32, 60, 61])) ++ t38))] 9 fun a66 vw67=>appS Tryz.prog 236 236 texts (Sl.v (Sl.mk (some a66) 1 1)) vw67 fun t41 vw68=>vJ t41 vw68))))))))) ∧ (¬ (t16 < (t14.len : Int)) → (((texts.len : Int) = 0 → R (ByteArray.mk #[60, 48, 46, 48, 46, 48]) vw4) ∧ (¬ ((texts.len : Int) = 0) → callS Tryz.prog 205 [(Sl.v texts), (Value.string (ByteArray.mk #[32, 124, 124, 32]))] vw4 fun v70 vw69=>∃ (t85 : ByteArray), v70 = (Value.string t85) ∧ R t85 vw69))))))
set_option maxHeartbeats 8000000 in
theorem span_Print.sound (l : Sl) (w : World) (R : ByteArray → World → Prop) (h : span_Print l w R) : callS Tryz.prog 186 [(Sl.v l)] w (fun v w'=>∃ (r0 : ByteArray), v = (Value.string r0) ∧ R r0 w') := by
 unfold span_Print at h
 refine calls_of_vc 86 rfl Tryz.func186 rfl (by kernel_rfl) (by simp) ?_
 refine Vc.seq ?_
 refine Vc.region ?_
 refine vcL_pure rfl rfl (Value.string (ByteArray.mk #[])) (fun w=>by kernel_rfl) ?_
 refine vcL_nil ?_
 refine Vc.seq ?_
 refine Vc.seq ?_
 refine Vc.region ?_
 refine vcL_pure rfl rfl (Sl.v l) (fun w=>by kernel_rfl) ?_
 refine vcL_eff rfl (opVC_call rfl (by kernel_rfl) (callS.mono h fun v vw h=>?_))
 obtain ⟨t11, rfl, h⟩ := h
 refine vcL_pure rfl rfl (Value.bool (!t11)) (fun w=>by kernel_rfl) ?_
 refine vcL_nil ?_
 refine Vc.cond (!t11) (by kernel_rfl) (fun hb=>?_) (fun hb=>?_)
 ·have h := h.1 (hb)
  refine Vc.seq ?_
  refine Vc.region ?_
  refine vcL_pure rfl rfl (Value.string (ByteArray.mk #[])) (fun w=>by kernel_rfl) ?_
  refine vcL_nil ?_
  refine Vc.ret ?_
  refine outs_ret ?_
  refine done_mk (Value.string (ByteArray.mk #[])) (res1 (resC_tmp (by kernel_rfl))) ?_
  exact ⟨(ByteArray.mk #[]), rfl, h⟩
 ·have h := h.2 (hb)
  refine Vc.skip ?_
  refine Vc.seq ?_
  refine Vc.region ?_
  refine vcL_pure rfl rfl (Sl.v Sl.nil) (fun w=>by kernel_rfl) ?_
  refine vcL_nil ?_
  refine Vc.seq ?_
  refine Vc.seq ?_
  refine Vc.region ?_
  refine vcL_pure rfl rfl (Sl.v l) (fun w=>by kernel_rfl) ?_
  refine vcL_eff rfl (opVC_call rfl (by kernel_rfl) (callS.mono h fun v2 vw1 h=>?_))
  obtain ⟨t14, rfl, h⟩ := h
  refine vcL_purs 2 [(16, (Value.int .i64 0)), (15, (Value.int .i64 (t14.len : Int)))] (by kernel_rfl) ?_
  refine vcL_nil ?_
  refine Vc.block ?_
  obtain ⟨vI, mu, h, hr⟩ := h
  refine Vc.loopJ (σ := Sl × Int) [3, 16] [5, 6, 7, 8, 9, 17, 18, 19, 20, 21, 22, 23, 24, 25, 26, 27, 28, 29, 30, 31, 32, 33, 34, 35, 36, 37, 38, 39, 40, 41, 42, 43, 44, 45, 46, 47, 48, 49, 50, 51, 52, 53, 54, 55, 56, 57, 58, 59, 60, 61, 62, 63, 64, 65, 66, 67, 68, 69, 70, 71, 72, 73, 74, 75, 76, 77, 78, 79, 80] (fun s=>[(3, (Sl.v s.1)), (16, (Value.int .i64 s.2))]) (fun s w=>vI s.1 s.2 w) (fun s w=>mu s.1 s.2 w) (Sl.nil, 0) h (fun _ => rfl) (by kernel_rfl) ?_
  rintro ⟨texts, t16⟩ vw4 j h
  have h := hr texts t16 vw4 h
  refine Vc.seq ?_
  refine Vc.region ?_
  refine vcL_pure rfl rfl (Value.bool (decide (t16 < (t14.len : Int)))) (fun w=>by kernel_rfl) ?_
  refine vcL_nil ?_
  refine Vc.seq ?_
  refine Vc.cond (decide (t16 < (t14.len : Int))) (by kernel_rfl) (fun hb=>?_) (fun hb=>?_)
  ·have h := h.1 (of_decide_eq_true hb)
   refine Vc.skip ?_
   obtain ⟨vJ, hJ, h⟩ := join_elim h
   refine Vc.seqJ (σ := Sl) [3] [5, 6, 7, 8, 9, 18, 19, 20, 21, 22, 23, 24, 25, 26, 27, 28, 29, 30, 31, 32, 33, 34, 35, 36, 37, 38, 39, 40, 41, 42, 43, 44, 45, 46, 47, 48, 49, 50, 51, 52, 53, 54, 55, 56, 57, 58, 59, 60, 61, 62, 63, 64, 65, 66, 67, 68, 69, 70, 71, 72, 73, 74, 75, 76, 77, 78, 79] (fun s=>[(3, (Sl.v s))]) (fun s w=>vJ s w) (fun _ => rfl) ?_ ?_
   ·refine Vc.block ?_
    refine Vc.seq ?_
    refine Vc.region ?_
    obtain ⟨ad, hi, h⟩ := h
    refine vcL_pure rfl rfl (Value.pointer (some (ad.add (t16.toNat * 2)))) (fun w=>by exact exec_indexAt (s := t14) (el := 157) rfl (by kernel_rfl) (by kernel_rfl) (by kernel_rfl) (fun w=>by kernel_rfl) (hi).1 (hi).2.1 (hi).2.2 w) ?_
    obtain ⟨t19_lo, t19_hi, hc, h⟩ := h
    refine vcL_val rfl rfl (Value.agg #[(Value.int .i64 t19_lo), (Value.int .i64 t19_hi)]) (exec_load rfl (by kernel_rfl) (run_loadN (fun w=>by kernel_rfl) (fun w=>by kernel_rfl) ((hc)))) ?_
    refine vcL_eff rfl (opVC_new rfl (fun a=>Value.pointer (some a)) (by kernel_rfl) (newS.mono h fun a vw7 hx h=>?_))
    refine vcL_eff rfl (opVC_store rfl rfl (a := a) (by kernel_rfl) (v := (Value.agg #[(Value.int .i64 t19_lo), (Value.int .i64 t19_hi)])) (by kernel_rfl) [(Value.int .i64 t19_lo), (Value.int .i64 t19_hi)] (by kernel_rfl) (fun w=>by kernel_rfl) (by kernel_rfl) (stw.mono h fun vw8 h=>?_))
    refine vcL_nil ?_
    refine Vc.seq ?_
    refine Vc.region ?_
    refine vcL_pure rfl rfl (Value.pointer (some a)) (fun w=>by kernel_rfl) ?_
    obtain ⟨t22, hc9, h⟩ := h
    refine vcL_val rfl rfl (Value.int .i64 t22) (exec_load rfl (by kernel_rfl) (run_load1 (fun w=>by kernel_rfl) ((hc9)))) ?_
    refine vcL_eff rfl (opVC_call rfl (by kernel_rfl) (callS.mono h fun v11 vw10 h=>?_))
    obtain ⟨zz3, zz4, zz5, t23b, rfl, h⟩ := h
    refine vcL_purs 3 [(25, (Value.bool t23b)), (24, (Value.agg #[(Value.int .i64 zz3), (Value.int .i64 zz4), (Value.int .i64 zz5)])), (20, (Value.tuple #[(Value.agg #[(Value.int .i64 zz3), (Value.int .i64 zz4), (Value.int .i64 zz5)]), (Value.bool t23b)]))] (by kernel_rfl) ?_
    refine vcL_eff rfl (opVC_new rfl (fun a=>Value.pointer (some a)) (by kernel_rfl) (newS.mono h fun a13 vw14 hx h=>?_))
    refine vcL_eff rfl (opVC_store rfl rfl (a := a13) (by kernel_rfl) (v := (Value.agg #[(Value.int .i64 zz3), (Value.int .i64 zz4), (Value.int .i64 zz5)])) (by kernel_rfl) [(Value.int .i64 zz3), (Value.int .i64 zz4), (Value.int .i64 zz5)] (by kernel_rfl) (fun w=>by kernel_rfl) (by kernel_rfl) (stw.mono h fun vw15 h=>?_))
    refine vcL_pure rfl rfl (Value.bool t23b) (fun w=>by kernel_rfl) ?_
    refine vcL_nil ?_
    refine Vc.seq ?_
    refine Vc.region ?_
    refine vcL_pure rfl rfl (Value.pointer (some (a.add 1))) (fun w=>by kernel_rfl) ?_
    obtain ⟨t28, hc16, h⟩ := h
    refine vcL_val rfl rfl (Value.int .i64 t28) (exec_load rfl (by kernel_rfl) (run_load1 (fun w=>by kernel_rfl) ((hc16)))) ?_
    refine vcL_eff rfl (opVC_call rfl (by kernel_rfl) (callS.mono h fun v18 vw17 h=>?_))
    obtain ⟨zz6, zz7, zz8, t29b, rfl, h⟩ := h
    refine vcL_purs 3 [(31, (Value.bool t29b)), (30, (Value.agg #[(Value.int .i64 zz6), (Value.int .i64 zz7), (Value.int .i64 zz8)])), (26, (Value.tuple #[(Value.agg #[(Value.int .i64 zz6), (Value.int .i64 zz7), (Value.int .i64 zz8)]), (Value.bool t29b)]))] (by kernel_rfl) ?_
    refine vcL_eff rfl (opVC_new rfl (fun a=>Value.pointer (some a)) (by kernel_rfl) (newS.mono h fun a20 vw21 hx h=>?_))
    refine vcL_eff rfl (opVC_store rfl rfl (a := a20) (by kernel_rfl) (v := (Value.agg #[(Value.int .i64 zz6), (Value.int .i64 zz7), (Value.int .i64 zz8)])) (by kernel_rfl) [(Value.int .i64 zz6), (Value.int .i64 zz7), (Value.int .i64 zz8)] (by kernel_rfl) (fun w=>by kernel_rfl) (by kernel_rfl) (stw.mono h fun vw22 h=>?_))
    refine vcL_pure rfl rfl (Value.bool t29b) (fun w=>by kernel_rfl) ?_
    refine vcL_nil ?_
    refine Vc.block ?_
    refine Vc.seq ?_
    refine Vc.region ?_
    refine vcL_pure rfl rfl (Value.pointer (some a)) (fun w=>by kernel_rfl) ?_
    obtain ⟨t44, hc23, h⟩ := h
    refine vcL_val rfl rfl (Value.int .i64 t44) (exec_load rfl (by kernel_rfl) (run_load1 (fun w=>by kernel_rfl) ((hc23)))) ?_
    refine vcL_pure rfl rfl (Value.pointer (some (a.add 1))) (fun w=>by kernel_rfl) ?_
    obtain ⟨t46, hc24, h⟩ := h
    refine vcL_val rfl rfl (Value.int .i64 t46) (exec_load rfl (by kernel_rfl) (run_load1 (fun w=>by kernel_rfl) ((hc24)))) ?_
    refine vcL_purs 2 [(42, (Value.bool (t44 == t46))), (47, (Value.bool (t44 == t46)))] (by kernel_rfl) ?_
    refine vcL_nil ?_
    refine Vc.cond (t44 == t46) (by kernel_rfl) (fun hb=>?_) (fun hb=>?_)
    ·have h := h.1 (eq_of_beq hb)
     refine Vc.region ?_
     refine vcL_pure rfl rfl (Sl.v texts) (fun w=>by kernel_rfl) ?_
     obtain ⟨zz1u, zz1v, zz1w, hc25, h⟩ := h
     refine vcL_val rfl rfl (Value.agg #[(Value.int .i64 zz1u), (Value.int .i64 zz1v), (Value.int .i64 zz1w)]) (exec_load rfl (by kernel_rfl) (run_loadN (fun w=>by kernel_rfl) (fun w=>by kernel_rfl) ((hc25)))) ?_
     refine vcL_eff rfl (opVC_call rfl (by kernel_rfl) (callS.mono h fun v27 vw26 h=>?_))
     obtain ⟨t50, rfl, h⟩ := h
     refine vcL_eff rfl (opVC_new rfl (fun a=>Value.slice (some a) 1 1) (by kernel_rfl) (newS.mono h fun a29 vw30 hx h=>?_))
     refine vcL_eff rfl (opVC_sem rfl (c := Builtin.append_ #[236, 236] 236 #[(Sl.v texts), (Sl.v (Sl.mk (some a29) 1 1))]) (by kernel_rfl) (appS.elim (ty := 236) h fun t52 vw31 h=>?_))
     refine vcL_pure rfl rfl (Sl.v t52) (fun w=>by kernel_rfl) ?_
     refine vcL_nil ?_
     exact ⟨t52, 31, ⟨rfl, by kernel_rfl, by kernel_rfl, by kernel_rfl⟩, h⟩
    ·have h := h.2 (ne_of_beq_false hb)
     refine Vc.seq ?_
     refine Vc.region ?_
     obtain ⟨t54_lo, t54_hi, hc32, h⟩ := h
     refine vcL_val rfl rfl (Value.agg #[(Value.int .i64 t54_lo), (Value.int .i64 t54_hi)]) (exec_load rfl (by kernel_rfl) (run_loadN (fun w=>by kernel_rfl) (fun w=>by kernel_rfl) ((hc32)))) ?_
     refine vcL_pure rfl rfl (Value.agg #[(Value.int .i64 0), (Value.int .i64 999999999)]) (fun w=>by kernel_rfl) ?_
     refine vcL_pure rfl rfl (Value.bool ((t54_lo == 0) && ((t54_hi == 999999999) && true))) (fun w=>by exact exec_struct_eq rfl (by kernel_rfl) (by kernel_rfl) (by kernel_rfl) (eqv_157 9998 t54_lo t54_hi 0 999999999 w)) ?_
     refine vcL_pure rfl rfl (Value.bool ((t54_lo == 0) && ((t54_hi == 999999999) && true))) (fun w=>by kernel_rfl) ?_
     refine vcL_nil ?_
     refine Vc.cond ((t54_lo == 0) && ((t54_hi == 999999999) && true)) (by kernel_rfl) (fun hb=>?_) (fun hb=>?_)
     ·have h := h.1 (hb)
      refine Vc.region ?_
      refine vcL_pure rfl rfl (Sl.v texts) (fun w=>by kernel_rfl) ?_
      refine vcL_eff rfl (opVC_new rfl (fun a=>Value.slice (some a) 1 1) (by kernel_rfl) (newS.mono h fun a33 vw34 hx h=>?_))
      refine vcL_eff rfl (opVC_sem rfl (c := Builtin.append_ #[236, 236] 236 #[(Sl.v texts), (Sl.v (Sl.mk (some a33) 1 1))]) (by kernel_rfl) (appS.elim (ty := 236) h fun t59 vw35 h=>?_))
      refine vcL_pure rfl rfl (Sl.v t59) (fun w=>by kernel_rfl) ?_
      refine vcL_nil ?_
      exact ⟨t59, 33, ⟨rfl, by kernel_rfl, by kernel_rfl, by kernel_rfl⟩, h⟩
     ·have h := h.2 (hb)
      refine Vc.seq ?_
      refine Vc.region ?_
      refine vcL_pure rfl rfl (Value.pointer (some a)) (fun w=>by kernel_rfl) ?_
      obtain ⟨t62, hc36, h⟩ := h
      refine vcL_val rfl rfl (Value.int .i64 t62) (exec_load rfl (by kernel_rfl) (run_load1 (fun w=>by kernel_rfl) ((hc36)))) ?_
      refine vcL_purs 2 [(60, (Value.bool (t62 == 0))), (63, (Value.bool (t62 == 0)))] (by kernel_rfl) ?_
      refine vcL_nil ?_
      refine Vc.cond (t62 == 0) (by kernel_rfl) (fun hb=>?_) (fun hb=>?_)
      ·have h := h.1 (eq_of_beq hb)
       refine Vc.region ?_
       refine vcL_pure rfl rfl (Sl.v texts) (fun w=>by kernel_rfl) ?_
       obtain ⟨zz1x, zz1y, zz1z, hc37, h⟩ := h
       refine vcL_val rfl rfl (Value.agg #[(Value.int .i64 zz1x), (Value.int .i64 zz1y), (Value.int .i64 zz1z)]) (exec_load rfl (by kernel_rfl) (run_loadN (fun w=>by kernel_rfl) (fun w=>by kernel_rfl) ((hc37)))) ?_
       refine vcL_eff rfl (opVC_call rfl (by kernel_rfl) (callS.mono h fun v39 vw38 h=>?_))
       obtain ⟨t66, rfl, h⟩ := h
       obtain ⟨hi41, h⟩ := h
       refine vcL_pure rfl rfl (Value.string ((ByteArray.mk #[60, 61]) ++ t66)) (fun w=>by exact exec_str_add (a := (ByteArray.mk #[60, 61])) (b := t66) rfl (by kernel_rfl) (by kernel_rfl) (hi41) w) ?_
       refine vcL_eff rfl (opVC_new rfl (fun a=>Value.slice (some a) 1 1) (by kernel_rfl) (newS.mono h fun a42 vw43 hx h=>?_))
       refine vcL_eff rfl (opVC_sem rfl (c := Builtin.append_ #[236, 236] 236 #[(Sl.v texts), (Sl.v (Sl.mk (some a42) 1 1))]) (by kernel_rfl) (appS.elim (ty := 236) h fun t69 vw44 h=>?_))
       refine vcL_pure rfl rfl (Sl.v t69) (fun w=>by kernel_rfl) ?_
       refine vcL_nil ?_
       exact ⟨t69, 40, ⟨rfl, by kernel_rfl, by kernel_rfl, by kernel_rfl⟩, h⟩
      ·have h := h.2 (ne_of_beq_false hb)
       refine Vc.seq ?_
       refine Vc.region ?_
       refine vcL_pure rfl rfl (Value.pointer (some (a.add 1))) (fun w=>by kernel_rfl) ?_
       obtain ⟨t72, hc45, h⟩ := h
       refine vcL_val rfl rfl (Value.int .i64 t72) (exec_load rfl (by kernel_rfl) (run_load1 (fun w=>by kernel_rfl) ((hc45)))) ?_
       refine vcL_purs 2 [(70, (Value.bool (t72 == 999999999))), (73, (Value.bool (t72 == 999999999)))] (by kernel_rfl) ?_
       refine vcL_nil ?_
       refine Vc.cond (t72 == 999999999) (by kernel_rfl) (fun hb=>?_) (fun hb=>?_)
       ·have h := h.1 (eq_of_beq hb)
        refine Vc.region ?_
        refine vcL_pure rfl rfl (Sl.v texts) (fun w=>by kernel_rfl) ?_
        obtain ⟨zz20, zz21, zz22, hc46, h⟩ := h
        refine vcL_val rfl rfl (Value.agg #[(Value.int .i64 zz20), (Value.int .i64 zz21), (Value.int .i64 zz22)]) (exec_load rfl (by kernel_rfl) (run_loadN (fun w=>by kernel_rfl) (fun w=>by kernel_rfl) ((hc46)))) ?_
        refine vcL_eff rfl (opVC_call rfl (by kernel_rfl) (callS.mono h fun v48 vw47 h=>?_))
        obtain ⟨t76, rfl, h⟩ := h
        obtain ⟨hi50, h⟩ := h
        refine vcL_pure rfl rfl (Value.string ((ByteArray.mk #[62, 61]) ++ t76)) (fun w=>by exact exec_str_add (a := (ByteArray.mk #[62, 61])) (b := t76) rfl (by kernel_rfl) (by kernel_rfl) (hi50) w) ?_
        refine vcL_eff rfl (opVC_new rfl (fun a=>Value.slice (some a) 1 1) (by kernel_rfl) (newS.mono h fun a51 vw52 hx h=>?_))
        refine vcL_eff rfl (opVC_sem rfl (c := Builtin.append_ #[236, 236] 236 #[(Sl.v texts), (Sl.v (Sl.mk (some a51) 1 1))]) (by kernel_rfl) (appS.elim (ty := 236) h fun t79 vw53 h=>?_))
        refine vcL_pure rfl rfl (Sl.v t79) (fun w=>by kernel_rfl) ?_
        refine vcL_nil ?_
        exact ⟨t79, 44, ⟨rfl, by kernel_rfl, by kernel_rfl, by kernel_rfl⟩, h⟩
       ·have h := h.2 (ne_of_beq_false hb)
        obtain ⟨vw54, hvw54⟩ : ∃ y, y = vw22.drew := ⟨_, rfl⟩
        have h := h vw54 hvw54
        refine Vc.draw (by kernel_rfl) (fun i=>!(memN [6, 8, 9] i)) (.pur 0 (.val 1 (.val 5 (.eff 2 (.pur 3 (.pur 4 (.eff 6 (.pur 7 (.eff 8 (.eff 9 (.pur 10 .fin) .stop) .stop)) .stop))) .stop)))) (by kernel_rfl) ?_
        rw [← hvw54]
        clear hvw54
        refine vcS_pure rfl rfl rfl (Sl.v texts) (fun w=>by kernel_rfl) ?_
        obtain ⟨zz1o, zz1p, zz1q, hc55, h⟩ := h
        refine vcS_val rfl rfl rfl (Value.agg #[(Value.int .i64 zz1o), (Value.int .i64 zz1p), (Value.int .i64 zz1q)]) (fun w' hx=>exec_load rfl (by kernel_rfl) (run_loadN (fun w=>by kernel_rfl) (fun w=>by kernel_rfl) ((hc55).ext hx))) ?_
        obtain ⟨zz1r, zz1s, zz1t, hc56, h⟩ := h
        refine vcS_val rfl rfl rfl (Value.agg #[(Value.int .i64 zz1r), (Value.int .i64 zz1s), (Value.int .i64 zz1t)]) (fun w' hx=>exec_load rfl (by kernel_rfl) (run_loadN (fun w=>by kernel_rfl) (fun w=>by kernel_rfl) ((hc56).ext hx))) ?_
        refine vcS_eff rfl rfl (opVC_call rfl (by kernel_rfl) (callS.mono h fun v58 vw57 h=>?_)) vcS_stop
        obtain ⟨hx59, h⟩ := h
        obtain ⟨t34, rfl, h⟩ := h
        refine ⟨fun _ => hx59, ?_⟩
        obtain ⟨hi60, h⟩ := h
        refine vcS_pure rfl rfl rfl (Value.string ((ByteArray.mk #[62, 61]) ++ t34)) (fun w=>by exact exec_str_add (a := (ByteArray.mk #[62, 61])) (b := t34) rfl (by kernel_rfl) (by kernel_rfl) (hi60) w) ?_
        obtain ⟨hi61, h⟩ := h
        refine vcS_pure rfl rfl rfl (Value.string (((ByteArray.mk #[62, 61]) ++ t34) ++ (ByteArray.mk #[32, 60, 61]))) (fun w=>by exact exec_str_add (a := ((ByteArray.mk #[62, 61]) ++ t34)) (b := (ByteArray.mk #[32, 60, 61])) rfl (by kernel_rfl) (by kernel_rfl) (hi61) w) ?_
        refine vcS_eff rfl rfl (opVC_call rfl (by kernel_rfl) (callS.mono h fun v63 vw62 h=>?_)) vcS_stop
        obtain ⟨t38, rfl, h⟩ := h
        refine ⟨fun hb=>absurd hb (by decide), ?_⟩
        obtain ⟨hi65, h⟩ := h
        refine vcS_pure rfl rfl rfl (Value.string ((((ByteArray.mk #[62, 61]) ++ t34) ++ (ByteArray.mk #[32, 60, 61])) ++ t38)) (fun w=>by exact exec_str_add (a := (((ByteArray.mk #[62, 61]) ++ t34) ++ (ByteArray.mk #[32, 60, 61]))) (b := t38) rfl (by kernel_rfl) (by kernel_rfl) (hi65) w) ?_
        refine vcS_eff rfl rfl (opVC_new rfl (fun a=>Value.slice (some a) 1 1) (by kernel_rfl) (newS.mono h fun a66 vw67 hx h=>?_)) vcS_stop
        refine ⟨fun hb=>absurd hb (by decide), ?_⟩
        refine vcS_eff rfl rfl (opVC_sem rfl (c := Builtin.append_ #[236, 236] 236 #[(Sl.v texts), (Sl.v (Sl.mk (some a66) 1 1))]) (by kernel_rfl) (appS.elim (ty := 236) h fun t41 vw68 h=>?_)) vcS_stop
        refine ⟨fun hb=>absurd hb (by decide), ?_⟩
        refine vcS_pure rfl rfl rfl (Sl.v t41) (fun w=>by kernel_rfl) ?_
        refine vcS_fin ?_
        exact ⟨t41, 48, ⟨rfl, by kernel_rfl, by kernel_rfl, by kernel_rfl⟩, h⟩
   ·intro texts5 vw6 j h
    subst hJ
    refine Vc.region ?_
    refine vcL_purs 2 [(16, (Value.int .i64 (wrapI (t16 + 1)))), (80, (Value.int .i64 (wrapI (t16 + 1))))] (by kernel_rfl) ?_
    refine vcL_nil ?_
    exact ⟨(texts5, (wrapI (t16 + 1))), 142, ⟨rfl, by kernel_rfl, by kernel_rfl, by kernel_rfl⟩, h⟩
  ·have h := h.2 (of_decide_eq_false hb)
   refine Vc.exit ?_
   refine outOf_hit ?_
   refine Vc.seq ?_
   refine Vc.seq ?_
   refine Vc.region ?_
   refine vcL_purs 3 [(83, (Value.bool ((texts.len : Int) == 0))), (82, (Value.int .i64 (texts.len : Int))), (81, (Sl.v texts))] (by kernel_rfl) ?_
   refine vcL_nil ?_
   refine Vc.cond ((texts.len : Int) == 0) (by kernel_rfl) (fun hb=>?_) (fun hb=>?_)
   ·have h := h.1 (eq_of_beq hb)
    refine Vc.seq ?_
    refine Vc.region ?_
    refine vcL_pure rfl rfl (Value.string (ByteArray.mk #[60, 48, 46, 48, 46, 48])) (fun w=>by kernel_rfl) ?_
    refine vcL_nil ?_
    refine Vc.ret ?_
    refine outs_ret ?_
    refine done_mk (Value.string (ByteArray.mk #[60, 48, 46, 48, 46, 48])) (res1 (resC_tmp (by kernel_rfl))) ?_
    exact ⟨(ByteArray.mk #[60, 48, 46, 48, 46, 48]), rfl, h⟩
   ·have h := h.2 (ne_of_beq_false hb)
    refine Vc.skip ?_
    refine Vc.seq ?_
    refine Vc.region ?_
    refine vcL_pure rfl rfl (Sl.v texts) (fun w=>by kernel_rfl) ?_
    refine vcL_eff rfl (opVC_call rfl (by kernel_rfl) (callS.mono h fun v70 vw69 h=>?_))
    obtain ⟨t85, rfl, h⟩ := h
    refine vcL_pure rfl rfl (Value.string t85) (fun w=>by kernel_rfl) ?_
    refine vcL_nil ?_
    refine Vc.ret ?_
    refine outs_ret ?_
    refine done_mk (Value.string t85) (res1 (resC_tmp (by kernel_rfl))) ?_
    exact ⟨t85, rfl, h⟩
theorem span_Print.go {l : Sl} {w : World} {k : Value → World → Prop} (h : span_Print l w fun r0 w'=>k (Value.string r0) w') : callS Tryz.prog 186 [(Sl.v l)] w k := (span_Print.sound l w _ h).mono (by rintro _ _ ⟨r0, rfl, h⟩; exact h)
def slices_insertionSortCmpFunc_apiWant (data : Sl) (a : Int) (b : Int) (cmp : Value) (w : World) (R : World → Prop) : Prop :=
 loop1 (wrapI (a + 1)) w fun i vw nxt=>((i < b → loop1 i vw fun vj vw1 nxt2=>bnd vw1.drew fun (vw3 : World)=>bnd (decide (a < vj)) fun (b4 : Bool)=>∃ (ad : Addr), grd b4 (data.a = some ad ∧ (0 : Int) ≤ vj ∧ vj < (data.len : Int)) ∧ ∃ (zz1a : ByteArray) (zz19 : Int) (zz1b : Sl), grd b4 (ldc vw3 (ad.add (vj.toNat * 3)) [(Value.string zz1a), (Value.int .i64 zz19), (Sl.v zz1b)]) ∧ ∃ (ad5 : Addr), grd b4 (data.a = some ad5 ∧ (0 : Int) ≤ (wrapI (vj - 1)) ∧ (wrapI (vj - 1)) < (data.len : Int)) ∧ ∃ (zz1d : ByteArray) (zz1c : Int) (zz1e : Sl), grd b4 (ldc vw3 (ad5.add ((wrapI (vj - 1)).toNat * 3)) [(Value.string zz1d), (Value.int .i64 zz1c), (Sl.v zz1e)]) ∧ gCall b4 (fun (t32 : Int) (vw8 : World)=>(((b4 && (decide (t32 < 0))) = true → bnd vw8.drew fun (vw9 : World)=>∃ (ad10 : Addr), (data.a = some ad10 ∧ (0 : Int) ≤ (wrapI (vj - 1)) ∧ (wrapI (vj - 1)) < (data.len : Int)) ∧ ∃ (zzm : ByteArray) (zzl : Int) (zzn : Sl), (ldc vw9 (ad10.add ((wrapI (vj - 1)).toNat * 3)) [(Value.string zzm), (Value.int .i64 zzl), (Sl.v zzn)]) ∧ ∃ (ad13 : Addr), (data.a = some ad13 ∧ (0 : Int) ≤ vj ∧ vj < (data.len : Int)) ∧ ∃ (zzp : ByteArray) (zzo : Int) (zzq : Sl), (ldc vw9 (ad13.add (vj.toNat * 3)) [(Value.string zzp), (Value.int .i64 zzo), (Sl.v zzq)]) ∧ ∃ (ad16 : Addr), (data.a = some ad16 ∧ (0 : Int) ≤ vj ∧ vj < (data.len : Int)) ∧ stw vw9 (ad16.add (vj.toNat * 3)) [(Value.string zzm), (Value.int .i64 zzl), (Sl.v zzn)] fun vw18=>∃ (ad19 : Addr), (data.a = some ad19 ∧ (0 : Int) ≤ (wrapI (vj - 1)) ∧ (wrapI (vj - 1)) < (data.len : Int)) ∧ stw vw18 (ad19.add ((wrapI (vj - 1)).toNat * 3)) [(Value.string zzp), (Value.int .i64 zzo), (Sl.v zzq)] fun vw21=>nxt2 (wrapI (vj - 1)) vw21) ∧ ((b4 && (decide (t32 < 0))) = false → nxt (wrapI (i + 1)) vw8))) (fun q=>callV Tryz.prog cmp [(Value.agg #[(Value.string zz1a), (Value.int .i64 zz19), (Sl.v zz1b)]), (Value.agg #[(Value.string zz1d), (Value.int .i64 zz1c), (Sl.v zz1e)])] vw3 fun v vw8=>∃ (t32 : Int), v = (Value.int .i64 t32) ∧ q t32 vw8) (fun q=>q 0 vw3)) ∧ (¬ (i < b) → R vw))
set_option maxHeartbeats 8000000 in
theorem slices_insertionSortCmpFunc_apiWant.sound (data : Sl) (a : Int) (b : Int) (cmp : Value) (w : World) (R : World → Prop) (h : slices_insertionSortCmpFunc_apiWant data a b cmp w R) : callS Tryz.prog 194 [(Sl.v data), (Value.int .i64 a), (Value.int .i64 b), cmp] w (fun v w'=>v = (Value.tuple #[]) ∧ R w') := by
 unfold slices_insertionSortCmpFunc_apiWant at h
 refine calls_of_vc 53 rfl Tryz.func194 rfl (by kernel_rfl) (by simp) ?_
 refine Vc.seq ?_
 refine Vc.region ?_
 refine vcL_purs 3 [(8, (Value.int .i64 (wrapI (a + 1)))), (11, (Value.int .i64 (wrapI (a + 1)))), (10, (Value.int .i64 a))] (by kernel_rfl) ?_
 refine vcL_nil ?_
 refine Vc.block ?_
 obtain ⟨vI22, mu23, h, hr24⟩ := h
 refine Vc.loopJ (σ := Int) [8] [9, 12, 13, 14, 15, 16, 17, 18, 19, 20, 21, 22, 23, 24, 25, 26, 27, 28, 29, 30, 31, 32, 33, 34, 35, 36, 37, 38, 39, 40, 41, 42, 43, 44, 45, 46, 47, 48, 49, 50, 51, 52] (fun s=>[(8, (Value.int .i64 s))]) (fun s w=>vI22 s w) (fun s w=>mu23 s w) (wrapI (a + 1)) h (fun _ => rfl) (by kernel_rfl) ?_
 intro i vw j h
 have h := hr24 i vw h
 refine Vc.seq ?_
 refine Vc.seq ?_
 refine Vc.region ?_
 refine vcL_purs 3 [(14, (Value.bool (decide (i < b)))), (13, (Value.int .i64 b)), (12, (Value.int .i64 i))] (by kernel_rfl) ?_
 refine vcL_nil ?_
 refine Vc.cond (decide (i < b)) (by kernel_rfl) (fun hb=>?_) (fun hb=>?_)
 ·have h := h.1 (of_decide_eq_true hb)
  refine Vc.skip ?_
  refine Vc.seq ?_
  refine Vc.block ?_
  refine Vc.seq ?_
  refine Vc.region ?_
  refine vcL_purs 2 [(9, (Value.int .i64 i)), (17, (Value.int .i64 i))] (by kernel_rfl) ?_
  refine vcL_nil ?_
  refine Vc.block ?_
  obtain ⟨vI, mu, h, hr⟩ := h
  refine Vc.loopJ (σ := Int) [9] [18, 19, 20, 21, 22, 23, 24, 25, 26, 27, 28, 29, 30, 31, 32, 33, 34, 35, 36, 37, 38, 39, 40, 41, 42, 43, 44, 45, 46, 47, 48, 49, 50, 51, 52] (fun s=>[(9, (Value.int .i64 s))]) (fun s w=>vI s w) (fun s w=>mu s w) i h (fun _ => rfl) (by kernel_rfl) ?_
  intro vj vw1 j h
  have h := hr vj vw1 h
  refine Vc.seq ?_
  refine Vc.seq ?_
  obtain ⟨vw3, hvw3⟩ : ∃ y, y = vw1.drew := ⟨_, rfl⟩
  have h := h vw3 hvw3
  refine Vc.draw (by kernel_rfl) (fun i=>!(memN [14] i)) (.pur 0 (.pur 1 (.pur 2 (.pur 3 (.pur 4 (.pur 5 (.pur 6 (.pur 7 (.val 8 (.pur 9 (.pur 10 (.pur 11 (.pur 12 (.val 13 (.eff 14 (.pur 15 (.pur 16 .fin)) .stop))))))))))))))) (by kernel_rfl) ?_
  rw [← hvw3]
  clear hvw3
  refine vcS_pure rfl rfl rfl (Value.int .i64 vj) (fun w=>by kernel_rfl) ?_
  refine vcS_pure rfl rfl rfl (Value.int .i64 a) (fun w=>by kernel_rfl) ?_
  refine vcS_pure rfl rfl rfl (Value.bool (decide (a < vj))) (fun w=>by kernel_rfl) ?_
  obtain ⟨b4, hb4⟩ : ∃ y, y = (decide (a < vj)) := ⟨_, rfl⟩
  have h := h b4 hb4
  refine vcS_pure rfl rfl rfl (Value.bool b4) (fun w=>by rw [hb4]; kernel_rfl) ?_
  refine vcS_guard rfl b4 (wanted_g (d := 21) rfl (by kernel_rfl) b4 (by kernel_rfl) b4 (eqT b4)) rfl cmp (fun hg w=>by subst hg; kernel_rfl) ?_
  refine vcS_guard rfl b4 (wanted_g (d := 21) rfl (by kernel_rfl) b4 (by kernel_rfl) b4 (eqT b4)) rfl (Sl.v data) (fun hg w=>by subst hg; kernel_rfl) ?_
  refine vcS_guard rfl b4 (wanted_g (d := 21) rfl (by kernel_rfl) b4 (by kernel_rfl) b4 (eqT b4)) rfl (Value.int .i64 vj) (fun hg w=>by subst hg; kernel_rfl) ?_
  obtain ⟨ad, hi, h⟩ := h
  refine vcS_guard rfl b4 (wanted_g (d := 21) rfl (by kernel_rfl) b4 (by kernel_rfl) b4 (eqT b4)) rfl (Value.pointer (some (ad.add (vj.toNat * 3)))) (fun hg w=>by subst hg; exact exec_indexAt (s := data) (el := 88) rfl (by kernel_rfl) (by kernel_rfl) (by kernel_rfl) (fun w=>by kernel_rfl) (hi rfl).1 (hi rfl).2.1 (hi rfl).2.2 w) ?_
  obtain ⟨zz1a, zz19, zz1b, hc, h⟩ := h
  refine vcS_valG rfl b4 (wanted_g (d := 21) rfl (by kernel_rfl) b4 (by kernel_rfl) b4 (eqT b4)) rfl (Value.agg #[(Value.string zz1a), (Value.int .i64 zz19), (Sl.v zz1b)]) (fun hg w' hx=>by subst hg; exact exec_load rfl (by kernel_rfl) (run_loadN (fun w=>by kernel_rfl) (fun w=>by kernel_rfl) ((hc rfl).ext hx))) ?_
  refine vcS_guard rfl b4 (wanted_g (d := 21) rfl (by kernel_rfl) b4 (by kernel_rfl) b4 (eqT b4)) rfl (Sl.v data) (fun hg w=>by subst hg; kernel_rfl) ?_
  refine vcS_guard rfl b4 (wanted_g (d := 21) rfl (by kernel_rfl) b4 (by kernel_rfl) b4 (eqT b4)) rfl (Value.int .i64 vj) (fun hg w=>by subst hg; kernel_rfl) ?_
  refine vcS_guard rfl b4 (wanted_g (d := 21) rfl (by kernel_rfl) b4 (by kernel_rfl) b4 (eqT b4)) rfl (Value.int .i64 (wrapI (vj - 1))) (fun hg w=>by subst hg; kernel_rfl) ?_
  obtain ⟨ad5, hi6, h⟩ := h
  refine vcS_guard rfl b4 (wanted_g (d := 21) rfl (by kernel_rfl) b4 (by kernel_rfl) b4 (eqT b4)) rfl (Value.pointer (some (ad5.add ((wrapI (vj - 1)).toNat * 3)))) (fun hg w=>by subst hg; exact exec_indexAt (s := data) (el := 88) rfl (by kernel_rfl) (by kernel_rfl) (by kernel_rfl) (fun w=>by kernel_rfl) (hi6 rfl).1 (hi6 rfl).2.1 (hi6 rfl).2.2 w) ?_
  obtain ⟨zz1d, zz1c, zz1e, hc7, h⟩ := h
  refine vcS_valG rfl b4 (wanted_g (d := 21) rfl (by kernel_rfl) b4 (by kernel_rfl) b4 (eqT b4)) rfl (Value.agg #[(Value.string zz1d), (Value.int .i64 zz1c), (Sl.v zz1e)]) (fun hg w' hx=>by subst hg; exact exec_load rfl (by kernel_rfl) (run_loadN (fun w=>by kernel_rfl) (fun w=>by kernel_rfl) ((hc7 rfl).ext hx))) ?_
  obtain ⟨vJ, hJ, h⟩ := gCall_elim h
  refine vcS_effJ (σ := Int) rfl b4 (wanted_g (d := 21) rfl (by kernel_rfl) b4 (by kernel_rfl) b4 (eqT b4)) rfl (fun s w=>vJ s w) (fun s=>(Value.int .i64 s)) ?_ (fun hg=>opVC_callV rfl rfl (fv := cmp) (by subst hg; kernel_rfl) (args := [(Value.agg #[(Value.string zz1a), (Value.int .i64 zz19), (Sl.v zz1b)]), (Value.agg #[(Value.string zz1d), (Value.int .i64 zz1c), (Sl.v zz1e)])]) (by subst hg; kernel_rfl) (callV.mono (h.1 hg) fun v vw8 hq=>?_)) (fun hg=>⟨0, h.2 hg⟩) vcS_stop
  ·intro t32 vw8 h
   subst hJ
   refine vcS_guard rfl b4 (wanted_g (d := 21) rfl (by kernel_rfl) b4 (by kernel_rfl) b4 (eqT b4)) rfl (Value.bool (decide (t32 < 0))) (fun hg w=>by subst hg; kernel_rfl) ?_
   refine vcS_pure rfl rfl rfl (Value.bool (b4 && (decide (t32 < 0)))) (fun w=>by cases b4 <;> kernel_rfl) ?_
   refine vcS_fin ?_
   refine Vc.cond (b4 && (decide (t32 < 0))) (by kernel_rfl) (fun hb=>?_) (fun hb=>?_)
   ·have h := h.1 (hb)
    refine Vc.skip ?_
    refine Vc.seq ?_
    refine Vc.block ?_
    obtain ⟨vw9, hvw9⟩ : ∃ y, y = vw8.drew := ⟨_, rfl⟩
    have h := h vw9 hvw9
    refine Vc.draw (by kernel_rfl) (fun i=>!(memN [15, 17] i)) (.pur 0 (.pur 1 (.pur 2 (.pur 3 (.pur 4 (.pur 5 (.pur 6 (.pur 7 (.pur 8 (.val 9 (.pur 10 (.pur 11 (.pur 12 (.val 13 (.pur 14 (.eff 15 (.pur 16 (.eff 17 .fin .stop)) .stop)))))))))))))))) (by kernel_rfl) ?_
    rw [← hvw9]
    clear hvw9
    refine vcS_pure rfl rfl rfl (Sl.v data) (fun w=>by kernel_rfl) ?_
    refine vcS_pure rfl rfl rfl (Value.int .i64 vj) (fun w=>by kernel_rfl) ?_
    refine vcS_pure rfl rfl rfl (Sl.v data) (fun w=>by kernel_rfl) ?_
    refine vcS_pure rfl rfl rfl (Value.int .i64 vj) (fun w=>by kernel_rfl) ?_
    refine vcS_pure rfl rfl rfl (Value.int .i64 (wrapI (vj - 1))) (fun w=>by kernel_rfl) ?_
    refine vcS_pure rfl rfl rfl (Sl.v data) (fun w=>by kernel_rfl) ?_
    refine vcS_pure rfl rfl rfl (Value.int .i64 vj) (fun w=>by kernel_rfl) ?_
    refine vcS_pure rfl rfl rfl (Value.int .i64 (wrapI (vj - 1))) (fun w=>by kernel_rfl) ?_
    obtain ⟨ad10, hi11, h⟩ := h
    refine vcS_pure rfl rfl rfl (Value.pointer (some (ad10.add ((wrapI (vj - 1)).toNat * 3)))) (fun w=>by exact exec_indexAt (s := data) (el := 88) rfl (by kernel_rfl) (by kernel_rfl) (by kernel_rfl) (fun w=>by kernel_rfl) (hi11).1 (hi11).2.1 (hi11).2.2 w) ?_
    obtain ⟨zzm, zzl, zzn, hc12, h⟩ := h
    refine vcS_val rfl rfl rfl (Value.agg #[(Value.string zzm), (Value.int .i64 zzl), (Sl.v zzn)]) (fun w' hx=>exec_load rfl (by kernel_rfl) (run_loadN (fun w=>by kernel_rfl) (fun w=>by kernel_rfl) ((hc12).ext hx))) ?_
    refine vcS_pure rfl rfl rfl (Sl.v data) (fun w=>by kernel_rfl) ?_
    refine vcS_pure rfl rfl rfl (Value.int .i64 vj) (fun w=>by kernel_rfl) ?_
    obtain ⟨ad13, hi14, h⟩ := h
    refine vcS_pure rfl rfl rfl (Value.pointer (some (ad13.add (vj.toNat * 3)))) (fun w=>by exact exec_indexAt (s := data) (el := 88) rfl (by kernel_rfl) (by kernel_rfl) (by kernel_rfl) (fun w=>by kernel_rfl) (hi14).1 (hi14).2.1 (hi14).2.2 w) ?_
    obtain ⟨zzp, zzo, zzq, hc15, h⟩ := h
    refine vcS_val rfl rfl rfl (Value.agg #[(Value.string zzp), (Value.int .i64 zzo), (Sl.v zzq)]) (fun w' hx=>exec_load rfl (by kernel_rfl) (run_loadN (fun w=>by kernel_rfl) (fun w=>by kernel_rfl) ((hc15).ext hx))) ?_
    obtain ⟨ad16, hi17, h⟩ := h
    refine vcS_pure rfl rfl rfl (Value.pointer (some (ad16.add (vj.toNat * 3)))) (fun w=>by exact exec_indexAt (s := data) (el := 88) rfl (by kernel_rfl) (by kernel_rfl) (by kernel_rfl) (fun w=>by kernel_rfl) (hi17).1 (hi17).2.1 (hi17).2.2 w) ?_
    refine vcS_eff rfl rfl (opVC_store rfl rfl (a := (ad16.add (vj.toNat * 3))) (by kernel_rfl) (v := (Value.agg #[(Value.string zzm), (Value.int .i64 zzl), (Sl.v zzn)])) (by kernel_rfl) [(Value.string zzm), (Value.int .i64 zzl), (Sl.v zzn)] (by kernel_rfl) (fun w=>by kernel_rfl) (by kernel_rfl) (stw.mono h fun vw18 h=>?_)) vcS_stop
    refine ⟨fun hb=>absurd hb (by decide), ?_⟩
    obtain ⟨ad19, hi20, h⟩ := h
    refine vcS_pure rfl rfl rfl (Value.pointer (some (ad19.add ((wrapI (vj - 1)).toNat * 3)))) (fun w=>by exact exec_indexAt (s := data) (el := 88) rfl (by kernel_rfl) (by kernel_rfl) (by kernel_rfl) (fun w=>by kernel_rfl) (hi20).1 (hi20).2.1 (hi20).2.2 w) ?_
    refine vcS_eff rfl rfl (opVC_store rfl rfl (a := (ad19.add ((wrapI (vj - 1)).toNat * 3))) (by kernel_rfl) (v := (Value.agg #[(Value.string zzp), (Value.int .i64 zzo), (Sl.v zzq)])) (by kernel_rfl) [(Value.string zzp), (Value.int .i64 zzo), (Sl.v zzq)] (by kernel_rfl) (fun w=>by kernel_rfl) (by kernel_rfl) (stw.mono h fun vw21 h=>?_)) vcS_stop
    refine ⟨fun hb=>absurd hb (by decide), ?_⟩
    refine vcS_fin ?_
    refine Vc.region ?_
    refine vcL_purs 3 [(9, (Value.int .i64 (wrapI (vj - 1)))), (36, (Value.int .i64 (wrapI (vj - 1)))), (35, (Value.int .i64 vj))] (by kernel_rfl) ?_
    refine vcL_nil ?_
    exact ⟨(wrapI (vj - 1)), 72, ⟨rfl, by kernel_rfl, by kernel_rfl, by kernel_rfl⟩, h⟩
   ·have h := h.2 (hb)
    refine Vc.exit ?_
    refine outOf_hit ?_
    refine Vc.region ?_
    refine vcL_purs 3 [(8, (Value.int .i64 (wrapI (i + 1)))), (16, (Value.int .i64 (wrapI (i + 1)))), (15, (Value.int .i64 i))] (by kernel_rfl) ?_
    refine vcL_nil ?_
    exact ⟨(wrapI (i + 1)), 104, ⟨rfl, by kernel_rfl, by kernel_rfl, by kernel_rfl⟩, h⟩
  ·obtain ⟨t32, rfl, hq⟩ := hq
   exact ⟨fun hb=>absurd hb (by decide), t32, rfl, hq⟩
 ·have h := h.2 (of_decide_eq_false hb)
  refine Vc.exit ?_
  refine outOf_hit ?_
  refine done_mk (Value.tuple #[]) (res0 ) ?_
  exact ⟨rfl, h⟩
theorem slices_insertionSortCmpFunc_apiWant.go {data : Sl} {a : Int} {b : Int} {cmp : Value} {w : World} {k : Value → World → Prop} (h : slices_insertionSortCmpFunc_apiWant data a b cmp w fun  w'=>k (Value.tuple #[]) w') : callS Tryz.prog 194 [(Sl.v data), (Value.int .i64 a), (Value.int .i64 b), cmp] w k := (slices_insertionSortCmpFunc_apiWant.sound data a b cmp w _ h).mono (by rintro _ _ ⟨rfl, h⟩; exact h)
def slices_symMergeCmpFunc_apiWant (data : Sl) (a : Int) (m : Int) (b : Int) (cmp : Value) (w : World) (R : World → Prop) : Prop :=
 (((wrapI (m - a)) = 1 → loop2 m b w fun i vj vw nxt=>((i < vj → bnd vw.drew fun (vw1 : World)=>∃ (ad : Addr), (data.a = some ad ∧ (0 : Int) ≤ (IntKind.wrap .i64 (Int.fdiv (IntKind.wrap .u64 (wrapI (i + vj))) (2 ^ 1))) ∧ (IntKind.wrap .i64 (Int.fdiv (IntKind.wrap .u64 (wrapI (i + vj))) (2 ^ 1))) < (data.len : Int)) ∧ ∃ (zz1g : ByteArray) (zz1f : Int) (zz1h : Sl), (ldc vw1 (ad.add ((IntKind.wrap .i64 (Int.fdiv (IntKind.wrap .u64 (wrapI (i + vj))) (2 ^ 1))).toNat * 3)) [(Value.string zz1g), (Value.int .i64 zz1f), (Sl.v zz1h)]) ∧ ∃ (ad2 : Addr), (data.a = some ad2 ∧ (0 : Int) ≤ a ∧ a < (data.len : Int)) ∧ ∃ (zz1j : ByteArray) (zz1i : Int) (zz1k : Sl), (ldc vw1 (ad2.add (a.toNat * 3)) [(Value.string zz1j), (Value.int .i64 zz1i), (Sl.v zz1k)]) ∧ callV Tryz.prog cmp [(Value.agg #[(Value.string zz1g), (Value.int .i64 zz1f), (Sl.v zz1h)]), (Value.agg #[(Value.string zz1j), (Value.int .i64 zz1i), (Sl.v zz1k)])] vw1 fun v vw5=>∃ (t49 : Int), v = (Value.int .i64 t49) ∧ ((t49 < 0 → nxt (wrapI ((IntKind.wrap .i64 (Int.fdiv (IntKind.wrap .u64 (wrapI (i + vj))) (2 ^ 1))) + 1)) vj vw5) ∧ (¬ (t49 < 0) → nxt i (IntKind.wrap .i64 (Int.fdiv (IntKind.wrap .u64 (wrapI (i + vj))) (2 ^ 1))) vw5))) ∧ (¬ (i < vj) → loop1 a vw fun vk vw6 nxt7=>((vk < (wrapI (i - 1)) → bnd vw6.drew fun (vw8 : World)=>∃ (ad9 : Addr), (data.a = some ad9 ∧ (0 : Int) ≤ (wrapI (vk + 1)) ∧ (wrapI (vk + 1)) < (data.len : Int)) ∧ ∃ (zzs : ByteArray) (zzr : Int) (zzt : Sl), (ldc vw8 (ad9.add ((wrapI (vk + 1)).toNat * 3)) [(Value.string zzs), (Value.int .i64 zzr), (Sl.v zzt)]) ∧ ∃ (ad12 : Addr), (data.a = some ad12 ∧ (0 : Int) ≤ vk ∧ vk < (data.len : Int)) ∧ ∃ (zzv : ByteArray) (zzu : Int) (zzw : Sl), (ldc vw8 (ad12.add (vk.toNat * 3)) [(Value.string zzv), (Value.int .i64 zzu), (Sl.v zzw)]) ∧ ∃ (ad15 : Addr), (data.a = some ad15 ∧ (0 : Int) ≤ vk ∧ vk < (data.len : Int)) ∧ stw vw8 (ad15.add (vk.toNat * 3)) [(Value.string zzs), (Value.int .i64 zzr), (Sl.v zzt)] fun vw17=>∃ (ad18 : Addr), (data.a = some ad18 ∧ (0 : Int) ≤ (wrapI (vk + 1)) ∧ (wrapI (vk + 1)) < (data.len : Int)) ∧ stw vw17 (ad18.add ((wrapI (vk + 1)).toNat * 3)) [(Value.string zzv), (Value.int .i64 zzu), (Sl.v zzw)] fun vw20=>nxt7 (wrapI (vk + 1)) vw20) ∧ (¬ (vk < (wrapI (i - 1))) → R vw6))))) ∧ (¬ ((wrapI (m - a)) = 1) → (((wrapI (b - m)) = 1 → loop2 a m w fun i24 vj25 vw26 nxt27=>((i24 < vj25 → bnd vw26.drew fun (vw28 : World)=>∃ (ad29 : Addr), (data.a = some ad29 ∧ (0 : Int) ≤ m ∧ m < (data.len : Int)) ∧ ∃ (zz1m : ByteArray) (zz1l : Int) (zz1n : Sl), (ldc vw28 (ad29.add (m.toNat * 3)) [(Value.string zz1m), (Value.int .i64 zz1l), (Sl.v zz1n)]) ∧ ∃ (ad32 : Addr), (data.a = some ad32 ∧ (0 : Int) ≤ (IntKind.wrap .i64 (Int.fdiv (IntKind.wrap .u64 (wrapI (i24 + vj25))) (2 ^ 1))) ∧ (IntKind.wrap .i64 (Int.fdiv (IntKind.wrap .u64 (wrapI (i24 + vj25))) (2 ^ 1))) < (data.len : Int)) ∧ ∃ (zz11 : ByteArray) (zz10 : Int) (zz12 : Sl), (ldc vw28 (ad32.add ((IntKind.wrap .i64 (Int.fdiv (IntKind.wrap .u64 (wrapI (i24 + vj25))) (2 ^ 1))).toNat * 3)) [(Value.string zz11), (Value.int .i64 zz10), (Sl.v zz12)]) ∧ callV Tryz.prog cmp [(Value.agg #[(Value.string zz1m), (Value.int .i64 zz1l), (Sl.v zz1n)]), (Value.agg #[(Value.string zz11), (Value.int .i64 zz10), (Sl.v zz12)])] vw28 fun v36 vw35=>∃ (t101 : Int), v36 = (Value.int .i64 t101) ∧ ((¬ (t101 < 0) → nxt27 (wrapI ((IntKind.wrap .i64 (Int.fdiv (IntKind.wrap .u64 (wrapI (i24 + vj25))) (2 ^ 1))) + 1)) vj25 vw35) ∧ (¬ (¬ (t101 < 0)) → nxt27 i24 (IntKind.wrap .i64 (Int.fdiv (IntKind.wrap .u64 (wrapI (i24 + vj25))) (2 ^ 1))) vw35))) ∧ (¬ (i24 < vj25) → loop1 m vw26 fun vk38 vw39 nxt40=>((i24 < vk38 → bnd vw39.drew fun (vw41 : World)=>∃ (ad42 : Addr), (data.a = some ad42 ∧ (0 : Int) ≤ (wrapI (vk38 - 1)) ∧ (wrapI (vk38 - 1)) < (data.len : Int)) ∧ ∃ (zza : ByteArray) (zz9 : Int) (zzb : Sl), (ldc vw41 (ad42.add ((wrapI (vk38 - 1)).toNat * 3)) [(Value.string zza), (Value.int .i64 zz9), (Sl.v zzb)]) ∧ ∃ (ad45 : Addr), (data.a = some ad45 ∧ (0 : Int) ≤ vk38 ∧ vk38 < (data.len : Int)) ∧ ∃ (zzd : ByteArray) (zzc : Int) (zze : Sl), (ldc vw41 (ad45.add (vk38.toNat * 3)) [(Value.string zzd), (Value.int .i64 zzc), (Sl.v zze)]) ∧ ∃ (ad48 : Addr), (data.a = some ad48 ∧ (0 : Int) ≤ vk38 ∧ vk38 < (data.len : Int)) ∧ stw vw41 (ad48.add (vk38.toNat * 3)) [(Value.string zza), (Value.int .i64 zz9), (Sl.v zzb)] fun vw50=>∃ (ad51 : Addr), (data.a = some ad51 ∧ (0 : Int) ≤ (wrapI (vk38 - 1)) ∧ (wrapI (vk38 - 1)) < (data.len : Int)) ∧ stw vw50 (ad51.add ((wrapI (vk38 - 1)).toNat * 3)) [(Value.string zzd), (Value.int .i64 zzc), (Sl.v zze)] fun vw53=>nxt40 (wrapI (vk38 - 1)) vw53) ∧ (¬ (i24 < vk38) → R vw39))))) ∧ (¬ ((wrapI (b - m)) = 1) → join (fun (start : Int) (r : Int) (vw60 : World)=>loop2 start r vw60 fun start61 r62 vw63 nxt64=>((start61 < r62 → bnd vw63.drew fun (vw65 : World)=>∃ (ad66 : Addr), (data.a = some ad66 ∧ (0 : Int) ≤ (wrapI ((wrapI ((wrapI ((IntKind.wrap .i64 (Int.fdiv (IntKind.wrap .u64 (wrapI (a + b))) (2 ^ 1))) + m)) - 1)) - (IntKind.wrap .i64 (Int.fdiv (IntKind.wrap .u64 (wrapI (start61 + r62))) (2 ^ 1))))) ∧ (wrapI ((wrapI ((wrapI ((IntKind.wrap .i64 (Int.fdiv (IntKind.wrap .u64 (wrapI (a + b))) (2 ^ 1))) + m)) - 1)) - (IntKind.wrap .i64 (Int.fdiv (IntKind.wrap .u64 (wrapI (start61 + r62))) (2 ^ 1))))) < (data.len : Int)) ∧ ∃ (zz14 : ByteArray) (zz13 : Int) (zz15 : Sl), (ldc vw65 (ad66.add ((wrapI ((wrapI ((wrapI ((IntKind.wrap .i64 (Int.fdiv (IntKind.wrap .u64 (wrapI (a + b))) (2 ^ 1))) + m)) - 1)) - (IntKind.wrap .i64 (Int.fdiv (IntKind.wrap .u64 (wrapI (start61 + r62))) (2 ^ 1))))).toNat * 3)) [(Value.string zz14), (Value.int .i64 zz13), (Sl.v zz15)]) ∧ ∃ (ad69 : Addr), (data.a = some ad69 ∧ (0 : Int) ≤ (IntKind.wrap .i64 (Int.fdiv (IntKind.wrap .u64 (wrapI (start61 + r62))) (2 ^ 1))) ∧ (IntKind.wrap .i64 (Int.fdiv (IntKind.wrap .u64 (wrapI (start61 + r62))) (2 ^ 1))) < (data.len : Int)) ∧ ∃ (zz17 : ByteArray) (zz16 : Int) (zz18 : Sl), (ldc vw65 (ad69.add ((IntKind.wrap .i64 (Int.fdiv (IntKind.wrap .u64 (wrapI (start61 + r62))) (2 ^ 1))).toNat * 3)) [(Value.string zz17), (Value.int .i64 zz16), (Sl.v zz18)]) ∧ callV Tryz.prog cmp [(Value.agg #[(Value.string zz14), (Value.int .i64 zz13), (Sl.v zz15)]), (Value.agg #[(Value.string zz17), (Value.int .i64 zz16), (Sl.v zz18)])] vw65 fun v73 vw72=>∃ (t169 : Int), v73 = (Value.int .i64 t169) ∧ ((¬ (t169 < 0) → nxt64 (wrapI ((IntKind.wrap .i64 (Int.fdiv (IntKind.wrap .u64 (wrapI (start61 + r62))) (2 ^ 1))) + 1)) r62 vw72) ∧ (¬ (¬ (t169 < 0)) → nxt64 start61 (IntKind.wrap .i64 (Int.fdiv (IntKind.wrap .u64 (wrapI (start61 + r62))) (2 ^ 1))) vw72))) ∧ (¬ (start61 < r62) → join (fun (vw75 : World)=>join (fun (vw76 : World)=>bnd (decide ((IntKind.wrap .i64 (Int.fdiv (IntKind.wrap .u64 (wrapI (a + b))) (2 ^ 1))) < (wrapI ((wrapI ((IntKind.wrap .i64 (Int.fdiv (IntKind.wrap .u64 (wrapI (a + b))) (2 ^ 1))) + m)) - start61)))) fun (b77 : Bool)=>(((b77 && (decide ((wrapI ((wrapI ((IntKind.wrap .i64 (Int.fdiv (IntKind.wrap .u64 (wrapI (a + b))) (2 ^ 1))) + m)) - start61)) < b))) = true → callS Tryz.prog 195 [(Sl.v data), (Value.int .i64 (IntKind.wrap .i64 (Int.fdiv (IntKind.wrap .u64 (wrapI (a + b))) (2 ^ 1)))), (Value.int .i64 (wrapI ((wrapI ((IntKind.wrap .i64 (Int.fdiv (IntKind.wrap .u64 (wrapI (a + b))) (2 ^ 1))) + m)) - start61))), (Value.int .i64 b), cmp] vw76 fun v79 vw78=>v79 = (Value.tuple #[]) ∧ R vw78) ∧ ((b77 && (decide ((wrapI ((wrapI ((IntKind.wrap .i64 (Int.fdiv (IntKind.wrap .u64 (wrapI (a + b))) (2 ^ 1))) + m)) - start61)) < b))) = false → R vw76))) fun vJ=>bnd (decide (a < start61)) fun (b81 : Bool)=>(((b81 && (decide (start61 < (IntKind.wrap .i64 (Int.fdiv (IntKind.wrap .u64 (wrapI (a + b))) (2 ^ 1)))))) = true → callS Tryz.prog 195 [(Sl.v data), (Value.int .i64 a), (Value.int .i64 start61), (Value.int .i64 (IntKind.wrap .i64 (Int.fdiv (IntKind.wrap .u64 (wrapI (a + b))) (2 ^ 1)))), cmp] vw75 fun v83 vw82=>v83 = (Value.tuple #[]) ∧ vJ vw82) ∧ ((b81 && (decide (start61 < (IntKind.wrap .i64 (Int.fdiv (IntKind.wrap .u64 (wrapI (a + b))) (2 ^ 1)))))) = false → vJ vw75))) fun vJ85=>bnd (decide (start61 < m)) fun (b87 : Bool)=>(((b87 && (decide (m < (wrapI ((wrapI ((IntKind.wrap .i64 (Int.fdiv (IntKind.wrap .u64 (wrapI (a + b))) (2 ^ 1))) + m)) - start61))))) = true → callS Tryz.prog 209 [(Sl.v data), (Value.int .i64 start61), (Value.int .i64 m), (Value.int .i64 (wrapI ((wrapI ((IntKind.wrap .i64 (Int.fdiv (IntKind.wrap .u64 (wrapI (a + b))) (2 ^ 1))) + m)) - start61))), cmp] vw63 fun v89 vw88=>v89 = (Value.tuple #[]) ∧ vJ85 vw88) ∧ ((b87 && (decide (m < (wrapI ((wrapI ((IntKind.wrap .i64 (Int.fdiv (IntKind.wrap .u64 (wrapI (a + b))) (2 ^ 1))) + m)) - start61))))) = false → vJ85 vw63))))) fun vJ94=>(((IntKind.wrap .i64 (Int.fdiv (IntKind.wrap .u64 (wrapI (a + b))) (2 ^ 1))) < m → vJ94 (wrapI ((wrapI ((IntKind.wrap .i64 (Int.fdiv (IntKind.wrap .u64 (wrapI (a + b))) (2 ^ 1))) + m)) - b)) (IntKind.wrap .i64 (Int.fdiv (IntKind.wrap .u64 (wrapI (a + b))) (2 ^ 1))) w) ∧ (¬ ((IntKind.wrap .i64 (Int.fdiv (IntKind.wrap .u64 (wrapI (a + b))) (2 ^ 1))) < m) → vJ94 a m w))))))
set_option maxHeartbeats 8000000 in
theorem slices_symMergeCmpFunc_apiWant.sound (data : Sl) (a : Int) (m : Int) (b : Int) (cmp : Value) (w : World) (R : World → Prop) (h : slices_symMergeCmpFunc_apiWant data a m b cmp w R) : callS Tryz.prog 195 [(Sl.v data), (Value.int .i64 a), (Value.int .i64 m), (Value.int .i64 b), cmp] w (fun v w'=>v = (Value.tuple #[]) ∧ R w') := by
 unfold slices_symMergeCmpFunc_apiWant at h
 refine calls_of_vc 220 rfl Tryz.func195 rfl (by kernel_rfl) (by simp) ?_
 refine Vc.seq ?_
 refine Vc.seq ?_
 refine Vc.region ?_
 refine vcL_purs 4 [(28, (Value.bool ((wrapI (m - a)) == 1))), (27, (Value.int .i64 (wrapI (m - a)))), (26, (Value.int .i64 a)), (25, (Value.int .i64 m))] (by kernel_rfl) ?_
 refine vcL_nil ?_
 refine Vc.cond ((wrapI (m - a)) == 1) (by kernel_rfl) (fun hb=>?_) (fun hb=>?_)
 ·have h := h.1 (eq_of_beq hb)
  refine Vc.seq ?_
  refine Vc.region ?_
  refine vcL_purs 2 [(10, (Value.int .i64 m)), (29, (Value.int .i64 m))] (by kernel_rfl) ?_
  refine vcL_nil ?_
  refine Vc.seq ?_
  refine Vc.region ?_
  refine vcL_purs 2 [(11, (Value.int .i64 b)), (30, (Value.int .i64 b))] (by kernel_rfl) ?_
  refine vcL_nil ?_
  refine Vc.seq ?_
  refine Vc.block ?_
  obtain ⟨vI21, mu22, h, hr23⟩ := h
  refine Vc.loopJ (σ := Int × Int) [10, 11] [12, 31, 32, 33, 34, 35, 36, 37, 38, 39, 40, 41, 42, 43, 44, 45, 46, 47, 48, 49, 50, 51, 52, 53] (fun s=>[(10, (Value.int .i64 s.1)), (11, (Value.int .i64 s.2))]) (fun s w=>vI21 s.1 s.2 w) (fun s w=>mu22 s.1 s.2 w) (m, b) h (fun _ => rfl) (by kernel_rfl) ?_
  rintro ⟨i, vj⟩ vw j h
  have h := hr23 i vj vw h
  refine Vc.seq ?_
  refine Vc.seq ?_
  refine Vc.region ?_
  refine vcL_purs 3 [(33, (Value.bool (decide (i < vj)))), (32, (Value.int .i64 vj)), (31, (Value.int .i64 i))] (by kernel_rfl) ?_
  refine vcL_nil ?_
  refine Vc.cond (decide (i < vj)) (by kernel_rfl) (fun hb=>?_) (fun hb=>?_)
  ·have h := h.1 (of_decide_eq_true hb)
   refine Vc.skip ?_
   refine Vc.block ?_
   refine Vc.seq ?_
   refine Vc.region ?_
   refine vcL_purs 7 [(12, (Value.int .i64 (IntKind.wrap .i64 (Int.fdiv (IntKind.wrap .u64 (wrapI (i + vj))) (2 ^ 1))))), (39, (Value.int .i64 (IntKind.wrap .i64 (Int.fdiv (IntKind.wrap .u64 (wrapI (i + vj))) (2 ^ 1))))), (38, (Value.int .u64 (Int.fdiv (IntKind.wrap .u64 (wrapI (i + vj))) (2 ^ 1)))), (37, (Value.int .u64 (IntKind.wrap .u64 (wrapI (i + vj))))), (36, (Value.int .i64 (wrapI (i + vj)))), (35, (Value.int .i64 vj)), (34, (Value.int .i64 i))] (by kernel_rfl) ?_
   refine vcL_nil ?_
   refine Vc.seq ?_
   obtain ⟨vw1, hvw1⟩ : ∃ y, y = vw.drew := ⟨_, rfl⟩
   have h := h vw1 hvw1
   refine Vc.draw (by kernel_rfl) (fun i=>!(memN [9] i)) (.pur 0 (.pur 1 (.pur 2 (.pur 3 (.val 4 (.pur 5 (.pur 6 (.pur 7 (.val 8 (.eff 9 (.pur 10 .fin) .stop)))))))))) (by kernel_rfl) ?_
   rw [← hvw1]
   clear hvw1
   refine vcS_pure rfl rfl rfl cmp (fun w=>by kernel_rfl) ?_
   refine vcS_pure rfl rfl rfl (Sl.v data) (fun w=>by kernel_rfl) ?_
   refine vcS_pure rfl rfl rfl (Value.int .i64 (IntKind.wrap .i64 (Int.fdiv (IntKind.wrap .u64 (wrapI (i + vj))) (2 ^ 1)))) (fun w=>by kernel_rfl) ?_
   obtain ⟨ad, hi, h⟩ := h
   refine vcS_pure rfl rfl rfl (Value.pointer (some (ad.add ((IntKind.wrap .i64 (Int.fdiv (IntKind.wrap .u64 (wrapI (i + vj))) (2 ^ 1))).toNat * 3)))) (fun w=>by exact exec_indexAt (s := data) (el := 88) rfl (by kernel_rfl) (by kernel_rfl) (by kernel_rfl) (fun w=>by kernel_rfl) (hi).1 (hi).2.1 (hi).2.2 w) ?_
   obtain ⟨zz1g, zz1f, zz1h, hc, h⟩ := h
   refine vcS_val rfl rfl rfl (Value.agg #[(Value.string zz1g), (Value.int .i64 zz1f), (Sl.v zz1h)]) (fun w' hx=>exec_load rfl (by kernel_rfl) (run_loadN (fun w=>by kernel_rfl) (fun w=>by kernel_rfl) ((hc).ext hx))) ?_
   refine vcS_pure rfl rfl rfl (Sl.v data) (fun w=>by kernel_rfl) ?_
   refine vcS_pure rfl rfl rfl (Value.int .i64 a) (fun w=>by kernel_rfl) ?_
   obtain ⟨ad2, hi3, h⟩ := h
   refine vcS_pure rfl rfl rfl (Value.pointer (some (ad2.add (a.toNat * 3)))) (fun w=>by exact exec_indexAt (s := data) (el := 88) rfl (by kernel_rfl) (by kernel_rfl) (by kernel_rfl) (fun w=>by kernel_rfl) (hi3).1 (hi3).2.1 (hi3).2.2 w) ?_
   obtain ⟨zz1j, zz1i, zz1k, hc4, h⟩ := h
   refine vcS_val rfl rfl rfl (Value.agg #[(Value.string zz1j), (Value.int .i64 zz1i), (Sl.v zz1k)]) (fun w' hx=>exec_load rfl (by kernel_rfl) (run_loadN (fun w=>by kernel_rfl) (fun w=>by kernel_rfl) ((hc4).ext hx))) ?_
   refine vcS_eff rfl rfl (opVC_callV rfl rfl (fv := cmp) (by kernel_rfl) (args := [(Value.agg #[(Value.string zz1g), (Value.int .i64 zz1f), (Sl.v zz1h)]), (Value.agg #[(Value.string zz1j), (Value.int .i64 zz1i), (Sl.v zz1k)])]) (by kernel_rfl) (callV.mono h fun v vw5 h=>?_)) vcS_stop
   obtain ⟨t49, rfl, h⟩ := h
   refine ⟨fun hb=>absurd hb (by decide), ?_⟩
   refine vcS_pure rfl rfl rfl (Value.bool (decide (t49 < 0))) (fun w=>by kernel_rfl) ?_
   refine vcS_fin ?_
   refine Vc.cond (decide (t49 < 0)) (by kernel_rfl) (fun hb=>?_) (fun hb=>?_)
   ·have h := h.1 (of_decide_eq_true hb)
    refine Vc.region ?_
    refine vcL_purs 3 [(10, (Value.int .i64 (wrapI ((IntKind.wrap .i64 (Int.fdiv (IntKind.wrap .u64 (wrapI (i + vj))) (2 ^ 1))) + 1)))), (52, (Value.int .i64 (wrapI ((IntKind.wrap .i64 (Int.fdiv (IntKind.wrap .u64 (wrapI (i + vj))) (2 ^ 1))) + 1)))), (51, (Value.int .i64 (IntKind.wrap .i64 (Int.fdiv (IntKind.wrap .u64 (wrapI (i + vj))) (2 ^ 1)))))] (by kernel_rfl) ?_
    refine vcL_nil ?_
    exact ⟨((wrapI ((IntKind.wrap .i64 (Int.fdiv (IntKind.wrap .u64 (wrapI (i + vj))) (2 ^ 1))) + 1)), vj), 50, ⟨rfl, by kernel_rfl, by kernel_rfl, by kernel_rfl⟩, h⟩
   ·have h := h.2 (of_decide_eq_false hb)
    refine Vc.region ?_
    refine vcL_purs 2 [(11, (Value.int .i64 (IntKind.wrap .i64 (Int.fdiv (IntKind.wrap .u64 (wrapI (i + vj))) (2 ^ 1))))), (53, (Value.int .i64 (IntKind.wrap .i64 (Int.fdiv (IntKind.wrap .u64 (wrapI (i + vj))) (2 ^ 1)))))] (by kernel_rfl) ?_
    refine vcL_nil ?_
    exact ⟨(i, (IntKind.wrap .i64 (Int.fdiv (IntKind.wrap .u64 (wrapI (i + vj))) (2 ^ 1)))), 49, ⟨rfl, by kernel_rfl, by kernel_rfl, by kernel_rfl⟩, h⟩
  ·have h := h.2 (of_decide_eq_false hb)
   refine Vc.exit ?_
   refine outOf_hit ?_
   refine Vc.seq ?_
   refine Vc.seq ?_
   refine Vc.region ?_
   refine vcL_purs 2 [(13, (Value.int .i64 a)), (54, (Value.int .i64 a))] (by kernel_rfl) ?_
   refine vcL_nil ?_
   refine Vc.block ?_
   obtain ⟨vI, mu, h, hr⟩ := h
   refine Vc.loopJ (σ := Int) [13] [55, 56, 57, 58, 59, 60, 61, 62, 63, 64, 65, 66, 67, 68, 69, 70, 71, 72, 73, 74, 75, 76] (fun s=>[(13, (Value.int .i64 s))]) (fun s w=>vI s w) (fun s w=>mu s w) a h (fun _ => rfl) (by kernel_rfl) ?_
   intro vk vw6 j h
   have h := hr vk vw6 h
   refine Vc.seq ?_
   refine Vc.seq ?_
   refine Vc.region ?_
   refine vcL_purs 4 [(58, (Value.bool (decide (vk < (wrapI (i - 1)))))), (57, (Value.int .i64 (wrapI (i - 1)))), (56, (Value.int .i64 i)), (55, (Value.int .i64 vk))] (by kernel_rfl) ?_
   refine vcL_nil ?_
   refine Vc.cond (decide (vk < (wrapI (i - 1)))) (by kernel_rfl) (fun hb=>?_) (fun hb=>?_)
   ·have h := h.1 (of_decide_eq_true hb)
    refine Vc.skip ?_
    refine Vc.seq ?_
    refine Vc.block ?_
    obtain ⟨vw8, hvw8⟩ : ∃ y, y = vw6.drew := ⟨_, rfl⟩
    have h := h vw8 hvw8
    refine Vc.draw (by kernel_rfl) (fun i=>!(memN [15, 17] i)) (.pur 0 (.pur 1 (.pur 2 (.pur 3 (.pur 4 (.pur 5 (.pur 6 (.pur 7 (.pur 8 (.val 9 (.pur 10 (.pur 11 (.pur 12 (.val 13 (.pur 14 (.eff 15 (.pur 16 (.eff 17 .fin .stop)) .stop)))))))))))))))) (by kernel_rfl) ?_
    rw [← hvw8]
    clear hvw8
    refine vcS_pure rfl rfl rfl (Sl.v data) (fun w=>by kernel_rfl) ?_
    refine vcS_pure rfl rfl rfl (Value.int .i64 vk) (fun w=>by kernel_rfl) ?_
    refine vcS_pure rfl rfl rfl (Sl.v data) (fun w=>by kernel_rfl) ?_
    refine vcS_pure rfl rfl rfl (Value.int .i64 vk) (fun w=>by kernel_rfl) ?_
    refine vcS_pure rfl rfl rfl (Value.int .i64 (wrapI (vk + 1))) (fun w=>by kernel_rfl) ?_
    refine vcS_pure rfl rfl rfl (Sl.v data) (fun w=>by kernel_rfl) ?_
    refine vcS_pure rfl rfl rfl (Value.int .i64 vk) (fun w=>by kernel_rfl) ?_
    refine vcS_pure rfl rfl rfl (Value.int .i64 (wrapI (vk + 1))) (fun w=>by kernel_rfl) ?_
    obtain ⟨ad9, hi10, h⟩ := h
    refine vcS_pure rfl rfl rfl (Value.pointer (some (ad9.add ((wrapI (vk + 1)).toNat * 3)))) (fun w=>by exact exec_indexAt (s := data) (el := 88) rfl (by kernel_rfl) (by kernel_rfl) (by kernel_rfl) (fun w=>by kernel_rfl) (hi10).1 (hi10).2.1 (hi10).2.2 w) ?_
    obtain ⟨zzs, zzr, zzt, hc11, h⟩ := h
    refine vcS_val rfl rfl rfl (Value.agg #[(Value.string zzs), (Value.int .i64 zzr), (Sl.v zzt)]) (fun w' hx=>exec_load rfl (by kernel_rfl) (run_loadN (fun w=>by kernel_rfl) (fun w=>by kernel_rfl) ((hc11).ext hx))) ?_
    refine vcS_pure rfl rfl rfl (Sl.v data) (fun w=>by kernel_rfl) ?_
    refine vcS_pure rfl rfl rfl (Value.int .i64 vk) (fun w=>by kernel_rfl) ?_
    obtain ⟨ad12, hi13, h⟩ := h
    refine vcS_pure rfl rfl rfl (Value.pointer (some (ad12.add (vk.toNat * 3)))) (fun w=>by exact exec_indexAt (s := data) (el := 88) rfl (by kernel_rfl) (by kernel_rfl) (by kernel_rfl) (fun w=>by kernel_rfl) (hi13).1 (hi13).2.1 (hi13).2.2 w) ?_
    obtain ⟨zzv, zzu, zzw, hc14, h⟩ := h
    refine vcS_val rfl rfl rfl (Value.agg #[(Value.string zzv), (Value.int .i64 zzu), (Sl.v zzw)]) (fun w' hx=>exec_load rfl (by kernel_rfl) (run_loadN (fun w=>by kernel_rfl) (fun w=>by kernel_rfl) ((hc14).ext hx))) ?_
    obtain ⟨ad15, hi16, h⟩ := h
    refine vcS_pure rfl rfl rfl (Value.pointer (some (ad15.add (vk.toNat * 3)))) (fun w=>by exact exec_indexAt (s := data) (el := 88) rfl (by kernel_rfl) (by kernel_rfl) (by kernel_rfl) (fun w=>by kernel_rfl) (hi16).1 (hi16).2.1 (hi16).2.2 w) ?_
    refine vcS_eff rfl rfl (opVC_store rfl rfl (a := (ad15.add (vk.toNat * 3))) (by kernel_rfl) (v := (Value.agg #[(Value.string zzs), (Value.int .i64 zzr), (Sl.v zzt)])) (by kernel_rfl) [(Value.string zzs), (Value.int .i64 zzr), (Sl.v zzt)] (by kernel_rfl) (fun w=>by kernel_rfl) (by kernel_rfl) (stw.mono h fun vw17 h=>?_)) vcS_stop
    refine ⟨fun hb=>absurd hb (by decide), ?_⟩
    obtain ⟨ad18, hi19, h⟩ := h
    refine vcS_pure rfl rfl rfl (Value.pointer (some (ad18.add ((wrapI (vk + 1)).toNat * 3)))) (fun w=>by exact exec_indexAt (s := data) (el := 88) rfl (by kernel_rfl) (by kernel_rfl) (by kernel_rfl) (fun w=>by kernel_rfl) (hi19).1 (hi19).2.1 (hi19).2.2 w) ?_
    refine vcS_eff rfl rfl (opVC_store rfl rfl (a := (ad18.add ((wrapI (vk + 1)).toNat * 3))) (by kernel_rfl) (v := (Value.agg #[(Value.string zzv), (Value.int .i64 zzu), (Sl.v zzw)])) (by kernel_rfl) [(Value.string zzv), (Value.int .i64 zzu), (Sl.v zzw)] (by kernel_rfl) (fun w=>by kernel_rfl) (by kernel_rfl) (stw.mono h fun vw20 h=>?_)) vcS_stop
    refine ⟨fun hb=>absurd hb (by decide), ?_⟩
    refine vcS_fin ?_
    refine Vc.region ?_
    refine vcL_purs 3 [(13, (Value.int .i64 (wrapI (vk + 1)))), (60, (Value.int .i64 (wrapI (vk + 1)))), (59, (Value.int .i64 vk))] (by kernel_rfl) ?_
    refine vcL_nil ?_
    exact ⟨(wrapI (vk + 1)), 46, ⟨rfl, by kernel_rfl, by kernel_rfl, by kernel_rfl⟩, h⟩
   ·have h := h.2 (of_decide_eq_false hb)
    refine Vc.exit ?_
    refine outOf_hit ?_
    refine Vc.ret ?_
    refine outs_ret ?_
    refine done_mk (Value.tuple #[]) (res0 ) ?_
    exact ⟨rfl, h⟩
 ·have h := h.2 (ne_of_beq_false hb)
  refine Vc.skip ?_
  refine Vc.seq ?_
  refine Vc.seq ?_
  refine Vc.region ?_
  refine vcL_purs 4 [(80, (Value.bool ((wrapI (b - m)) == 1))), (79, (Value.int .i64 (wrapI (b - m)))), (78, (Value.int .i64 m)), (77, (Value.int .i64 b))] (by kernel_rfl) ?_
  refine vcL_nil ?_
  refine Vc.cond ((wrapI (b - m)) == 1) (by kernel_rfl) (fun hb=>?_) (fun hb=>?_)
  ·have h := h.1 (eq_of_beq hb)
   refine Vc.seq ?_
   refine Vc.region ?_
   refine vcL_purs 2 [(14, (Value.int .i64 a)), (81, (Value.int .i64 a))] (by kernel_rfl) ?_
   refine vcL_nil ?_
   refine Vc.seq ?_
   refine Vc.region ?_
   refine vcL_purs 2 [(15, (Value.int .i64 m)), (82, (Value.int .i64 m))] (by kernel_rfl) ?_
   refine vcL_nil ?_
   refine Vc.seq ?_
   refine Vc.block ?_
   obtain ⟨vI57, mu58, h, hr59⟩ := h
   refine Vc.loopJ (σ := Int × Int) [14, 15] [16, 83, 84, 85, 86, 87, 88, 89, 90, 91, 92, 93, 94, 95, 96, 97, 98, 99, 100, 101, 102, 103, 104, 105, 106] (fun s=>[(14, (Value.int .i64 s.1)), (15, (Value.int .i64 s.2))]) (fun s w=>vI57 s.1 s.2 w) (fun s w=>mu58 s.1 s.2 w) (a, m) h (fun _ => rfl) (by kernel_rfl) ?_
   rintro ⟨i24, vj25⟩ vw26 j h
   have h := hr59 i24 vj25 vw26 h
   refine Vc.seq ?_
   refine Vc.seq ?_
   refine Vc.region ?_
   refine vcL_purs 3 [(85, (Value.bool (decide (i24 < vj25)))), (84, (Value.int .i64 vj25)), (83, (Value.int .i64 i24))] (by kernel_rfl) ?_
   refine vcL_nil ?_
   refine Vc.cond (decide (i24 < vj25)) (by kernel_rfl) (fun hb=>?_) (fun hb=>?_)
   ·have h := h.1 (of_decide_eq_true hb)
    refine Vc.skip ?_
    refine Vc.block ?_
    refine Vc.seq ?_
    refine Vc.region ?_
    refine vcL_purs 7 [(16, (Value.int .i64 (IntKind.wrap .i64 (Int.fdiv (IntKind.wrap .u64 (wrapI (i24 + vj25))) (2 ^ 1))))), (91, (Value.int .i64 (IntKind.wrap .i64 (Int.fdiv (IntKind.wrap .u64 (wrapI (i24 + vj25))) (2 ^ 1))))), (90, (Value.int .u64 (Int.fdiv (IntKind.wrap .u64 (wrapI (i24 + vj25))) (2 ^ 1)))), (89, (Value.int .u64 (IntKind.wrap .u64 (wrapI (i24 + vj25))))), (88, (Value.int .i64 (wrapI (i24 + vj25)))), (87, (Value.int .i64 vj25)), (86, (Value.int .i64 i24))] (by kernel_rfl) ?_
    refine vcL_nil ?_
    refine Vc.seq ?_
    obtain ⟨vw28, hvw28⟩ : ∃ y, y = vw26.drew := ⟨_, rfl⟩
    have h := h vw28 hvw28
    refine Vc.draw (by kernel_rfl) (fun i=>!(memN [9] i)) (.pur 0 (.pur 1 (.pur 2 (.pur 3 (.val 4 (.pur 5 (.pur 6 (.pur 7 (.val 8 (.eff 9 (.pur 10 (.pur 11 .fin)) .stop)))))))))) (by kernel_rfl) ?_
    rw [← hvw28]
    clear hvw28
    refine vcS_pure rfl rfl rfl cmp (fun w=>by kernel_rfl) ?_
    refine vcS_pure rfl rfl rfl (Sl.v data) (fun w=>by kernel_rfl) ?_
    refine vcS_pure rfl rfl rfl (Value.int .i64 m) (fun w=>by kernel_rfl) ?_
    obtain ⟨ad29, hi30, h⟩ := h
    refine vcS_pure rfl rfl rfl (Value.pointer (some (ad29.add (m.toNat * 3)))) (fun w=>by exact exec_indexAt (s := data) (el := 88) rfl (by kernel_rfl) (by kernel_rfl) (by kernel_rfl) (fun w=>by kernel_rfl) (hi30).1 (hi30).2.1 (hi30).2.2 w) ?_
    obtain ⟨zz1m, zz1l, zz1n, hc31, h⟩ := h
    refine vcS_val rfl rfl rfl (Value.agg #[(Value.string zz1m), (Value.int .i64 zz1l), (Sl.v zz1n)]) (fun w' hx=>exec_load rfl (by kernel_rfl) (run_loadN (fun w=>by kernel_rfl) (fun w=>by kernel_rfl) ((hc31).ext hx))) ?_
    refine vcS_pure rfl rfl rfl (Sl.v data) (fun w=>by kernel_rfl) ?_
    refine vcS_pure rfl rfl rfl (Value.int .i64 (IntKind.wrap .i64 (Int.fdiv (IntKind.wrap .u64 (wrapI (i24 + vj25))) (2 ^ 1)))) (fun w=>by kernel_rfl) ?_
    obtain ⟨ad32, hi33, h⟩ := h
    refine vcS_pure rfl rfl rfl (Value.pointer (some (ad32.add ((IntKind.wrap .i64 (Int.fdiv (IntKind.wrap .u64 (wrapI (i24 + vj25))) (2 ^ 1))).toNat * 3)))) (fun w=>by exact exec_indexAt (s := data) (el := 88) rfl (by kernel_rfl) (by kernel_rfl) (by kernel_rfl) (fun w=>by kernel_rfl) (hi33).1 (hi33).2.1 (hi33).2.2 w) ?_
    obtain ⟨zz11, zz10, zz12, hc34, h⟩ := h
    refine vcS_val rfl rfl rfl (Value.agg #[(Value.string zz11), (Value.int .i64 zz10), (Sl.v zz12)]) (fun w' hx=>exec_load rfl (by kernel_rfl) (run_loadN (fun w=>by kernel_rfl) (fun w=>by kernel_rfl) ((hc34).ext hx))) ?_
    refine vcS_eff rfl rfl (opVC_callV rfl rfl (fv := cmp) (by kernel_rfl) (args := [(Value.agg #[(Value.string zz1m), (Value.int .i64 zz1l), (Sl.v zz1n)]), (Value.agg #[(Value.string zz11), (Value.int .i64 zz10), (Sl.v zz12)])]) (by kernel_rfl) (callV.mono h fun v36 vw35 h=>?_)) vcS_stop
    obtain ⟨t101, rfl, h⟩ := h
    refine ⟨fun hb=>absurd hb (by decide), ?_⟩
    refine vcS_pure rfl rfl rfl (Value.bool (decide (t101 < 0))) (fun w=>by kernel_rfl) ?_
    refine vcS_pure rfl rfl rfl (Value.bool (!(decide (t101 < 0)))) (fun w=>by kernel_rfl) ?_
    refine vcS_fin ?_
    refine Vc.cond (!(decide (t101 < 0))) (by kernel_rfl) (fun hb=>?_) (fun hb=>?_)
    ·have h := h.1 ((fun hb=>of_decide_eq_false hb) (by simpa using hb))
     refine Vc.region ?_
     refine vcL_purs 3 [(14, (Value.int .i64 (wrapI ((IntKind.wrap .i64 (Int.fdiv (IntKind.wrap .u64 (wrapI (i24 + vj25))) (2 ^ 1))) + 1)))), (105, (Value.int .i64 (wrapI ((IntKind.wrap .i64 (Int.fdiv (IntKind.wrap .u64 (wrapI (i24 + vj25))) (2 ^ 1))) + 1)))), (104, (Value.int .i64 (IntKind.wrap .i64 (Int.fdiv (IntKind.wrap .u64 (wrapI (i24 + vj25))) (2 ^ 1)))))] (by kernel_rfl) ?_
     refine vcL_nil ?_
     exact ⟨((wrapI ((IntKind.wrap .i64 (Int.fdiv (IntKind.wrap .u64 (wrapI (i24 + vj25))) (2 ^ 1))) + 1)), vj25), 52, ⟨rfl, by kernel_rfl, by kernel_rfl, by kernel_rfl⟩, h⟩
    ·have h := h.2 (not_not_intro ((fun hb=>of_decide_eq_true hb) (by simpa using hb)))
     refine Vc.region ?_
     refine vcL_purs 2 [(15, (Value.int .i64 (IntKind.wrap .i64 (Int.fdiv (IntKind.wrap .u64 (wrapI (i24 + vj25))) (2 ^ 1))))), (106, (Value.int .i64 (IntKind.wrap .i64 (Int.fdiv (IntKind.wrap .u64 (wrapI (i24 + vj25))) (2 ^ 1)))))] (by kernel_rfl) ?_
     refine vcL_nil ?_
     exact ⟨(i24, (IntKind.wrap .i64 (Int.fdiv (IntKind.wrap .u64 (wrapI (i24 + vj25))) (2 ^ 1)))), 51, ⟨rfl, by kernel_rfl, by kernel_rfl, by kernel_rfl⟩, h⟩
   ·have h := h.2 (of_decide_eq_false hb)
    refine Vc.exit ?_
    refine outOf_hit ?_
    refine Vc.seq ?_
    refine Vc.seq ?_
    refine Vc.region ?_
    refine vcL_purs 2 [(17, (Value.int .i64 m)), (107, (Value.int .i64 m))] (by kernel_rfl) ?_
    refine vcL_nil ?_
    refine Vc.block ?_
    obtain ⟨vI54, mu55, h, hr56⟩ := h
    refine Vc.loopJ (σ := Int) [17] [108, 109, 110, 111, 112, 113, 114, 115, 116, 117, 118, 119, 120, 121, 122, 123, 124, 125, 126, 127, 128] (fun s=>[(17, (Value.int .i64 s))]) (fun s w=>vI54 s w) (fun s w=>mu55 s w) m h (fun _ => rfl) (by kernel_rfl) ?_
    intro vk38 vw39 j h
    have h := hr56 vk38 vw39 h
    refine Vc.seq ?_
    refine Vc.seq ?_
    refine Vc.region ?_
    refine vcL_purs 3 [(110, (Value.bool (decide (i24 < vk38)))), (109, (Value.int .i64 i24)), (108, (Value.int .i64 vk38))] (by kernel_rfl) ?_
    refine vcL_nil ?_
    refine Vc.cond (decide (i24 < vk38)) (by kernel_rfl) (fun hb=>?_) (fun hb=>?_)
    ·have h := h.1 (of_decide_eq_true hb)
     refine Vc.skip ?_
     refine Vc.seq ?_
     refine Vc.block ?_
     obtain ⟨vw41, hvw41⟩ : ∃ y, y = vw39.drew := ⟨_, rfl⟩
     have h := h vw41 hvw41
     refine Vc.draw (by kernel_rfl) (fun i=>!(memN [15, 17] i)) (.pur 0 (.pur 1 (.pur 2 (.pur 3 (.pur 4 (.pur 5 (.pur 6 (.pur 7 (.pur 8 (.val 9 (.pur 10 (.pur 11 (.pur 12 (.val 13 (.pur 14 (.eff 15 (.pur 16 (.eff 17 .fin .stop)) .stop)))))))))))))))) (by kernel_rfl) ?_
     rw [← hvw41]
     clear hvw41
     refine vcS_pure rfl rfl rfl (Sl.v data) (fun w=>by kernel_rfl) ?_
     refine vcS_pure rfl rfl rfl (Value.int .i64 vk38) (fun w=>by kernel_rfl) ?_
     refine vcS_pure rfl rfl rfl (Sl.v data) (fun w=>by kernel_rfl) ?_
     refine vcS_pure rfl rfl rfl (Value.int .i64 vk38) (fun w=>by kernel_rfl) ?_
     refine vcS_pure rfl rfl rfl (Value.int .i64 (wrapI (vk38 - 1))) (fun w=>by kernel_rfl) ?_
     refine vcS_pure rfl rfl rfl (Sl.v data) (fun w=>by kernel_rfl) ?_
     refine vcS_pure rfl rfl rfl (Value.int .i64 vk38) (fun w=>by kernel_rfl) ?_
     refine vcS_pure rfl rfl rfl (Value.int .i64 (wrapI (vk38 - 1))) (fun w=>by kernel_rfl) ?_
     obtain ⟨ad42, hi43, h⟩ := h
     refine vcS_pure rfl rfl rfl (Value.pointer (some (ad42.add ((wrapI (vk38 - 1)).toNat * 3)))) (fun w=>by exact exec_indexAt (s := data) (el := 88) rfl (by kernel_rfl) (by kernel_rfl) (by kernel_rfl) (fun w=>by kernel_rfl) (hi43).1 (hi43).2.1 (hi43).2.2 w) ?_
     obtain ⟨zza, zz9, zzb, hc44, h⟩ := h
     refine vcS_val rfl rfl rfl (Value.agg #[(Value.string zza), (Value.int .i64 zz9), (Sl.v zzb)]) (fun w' hx=>exec_load rfl (by kernel_rfl) (run_loadN (fun w=>by kernel_rfl) (fun w=>by kernel_rfl) ((hc44).ext hx))) ?_
     refine vcS_pure rfl rfl rfl (Sl.v data) (fun w=>by kernel_rfl) ?_
     refine vcS_pure rfl rfl rfl (Value.int .i64 vk38) (fun w=>by kernel_rfl) ?_
     obtain ⟨ad45, hi46, h⟩ := h
     refine vcS_pure rfl rfl rfl (Value.pointer (some (ad45.add (vk38.toNat * 3)))) (fun w=>by exact exec_indexAt (s := data) (el := 88) rfl (by kernel_rfl) (by kernel_rfl) (by kernel_rfl) (fun w=>by kernel_rfl) (hi46).1 (hi46).2.1 (hi46).2.2 w) ?_
     obtain ⟨zzd, zzc, zze, hc47, h⟩ := h
     refine vcS_val rfl rfl rfl (Value.agg #[(Value.string zzd), (Value.int .i64 zzc), (Sl.v zze)]) (fun w' hx=>exec_load rfl (by kernel_rfl) (run_loadN (fun w=>by kernel_rfl) (fun w=>by kernel_rfl) ((hc47).ext hx))) ?_
     obtain ⟨ad48, hi49, h⟩ := h
     refine vcS_pure rfl rfl rfl (Value.pointer (some (ad48.add (vk38.toNat * 3)))) (fun w=>by exact exec_indexAt (s := data) (el := 88) rfl (by kernel_rfl) (by kernel_rfl) (by kernel_rfl) (fun w=>by kernel_rfl) (hi49).1 (hi49).2.1 (hi49).2.2 w) ?_
     refine vcS_eff rfl rfl (opVC_store rfl rfl (a := (ad48.add (vk38.toNat * 3))) (by kernel_rfl) (v := (Value.agg #[(Value.string zza), (Value.int .i64 zz9), (Sl.v zzb)])) (by kernel_rfl) [(Value.string zza), (Value.int .i64 zz9), (Sl.v zzb)] (by kernel_rfl) (fun w=>by kernel_rfl) (by kernel_rfl) (stw.mono h fun vw50 h=>?_)) vcS_stop
     refine ⟨fun hb=>absurd hb (by decide), ?_⟩
     obtain ⟨ad51, hi52, h⟩ := h
     refine vcS_pure rfl rfl rfl (Value.pointer (some (ad51.add ((wrapI (vk38 - 1)).toNat * 3)))) (fun w=>by exact exec_indexAt (s := data) (el := 88) rfl (by kernel_rfl) (by kernel_rfl) (by kernel_rfl) (fun w=>by kernel_rfl) (hi52).1 (hi52).2.1 (hi52).2.2 w) ?_
     refine vcS_eff rfl rfl (opVC_store rfl rfl (a := (ad51.add ((wrapI (vk38 - 1)).toNat * 3))) (by kernel_rfl) (v := (Value.agg #[(Value.string zzd), (Value.int .i64 zzc), (Sl.v zze)])) (by kernel_rfl) [(Value.string zzd), (Value.int .i64 zzc), (Sl.v zze)] (by kernel_rfl) (fun w=>by kernel_rfl) (by kernel_rfl) (stw.mono h fun vw53 h=>?_)) vcS_stop
     refine ⟨fun hb=>absurd hb (by decide), ?_⟩
     refine vcS_fin ?_
     refine Vc.region ?_
     refine vcL_purs 3 [(17, (Value.int .i64 (wrapI (vk38 - 1)))), (112, (Value.int .i64 (wrapI (vk38 - 1)))), (111, (Value.int .i64 vk38))] (by kernel_rfl) ?_
     refine vcL_nil ?_
     exact ⟨(wrapI (vk38 - 1)), 44, ⟨rfl, by kernel_rfl, by kernel_rfl, by kernel_rfl⟩, h⟩
    ·have h := h.2 (of_decide_eq_false hb)
     refine Vc.exit ?_
     refine outOf_hit ?_
     refine Vc.ret ?_
     refine outs_ret ?_
     refine done_mk (Value.tuple #[]) (res0 ) ?_
     exact ⟨rfl, h⟩
  ·have h := h.2 (ne_of_beq_false hb)
   refine Vc.skip ?_
   refine Vc.seq ?_
   refine Vc.region ?_
   refine vcL_purs 7 [(18, (Value.int .i64 (IntKind.wrap .i64 (Int.fdiv (IntKind.wrap .u64 (wrapI (a + b))) (2 ^ 1))))), (134, (Value.int .i64 (IntKind.wrap .i64 (Int.fdiv (IntKind.wrap .u64 (wrapI (a + b))) (2 ^ 1))))), (133, (Value.int .u64 (Int.fdiv (IntKind.wrap .u64 (wrapI (a + b))) (2 ^ 1)))), (132, (Value.int .u64 (IntKind.wrap .u64 (wrapI (a + b))))), (131, (Value.int .i64 (wrapI (a + b)))), (130, (Value.int .i64 b)), (129, (Value.int .i64 a))] (by kernel_rfl) ?_
   refine vcL_nil ?_
   refine Vc.seq ?_
   refine Vc.region ?_
   refine vcL_purs 4 [(19, (Value.int .i64 (wrapI ((IntKind.wrap .i64 (Int.fdiv (IntKind.wrap .u64 (wrapI (a + b))) (2 ^ 1))) + m)))), (137, (Value.int .i64 (wrapI ((IntKind.wrap .i64 (Int.fdiv (IntKind.wrap .u64 (wrapI (a + b))) (2 ^ 1))) + m)))), (136, (Value.int .i64 m)), (135, (Value.int .i64 (IntKind.wrap .i64 (Int.fdiv (IntKind.wrap .u64 (wrapI (a + b))) (2 ^ 1)))))] (by kernel_rfl) ?_
   refine vcL_nil ?_
   refine Vc.seq ?_
   refine Vc.region ?_
   refine vcL_purs 2 [(21, (Value.int .i64 0)), (20, (Value.int .i64 0))] (by kernel_rfl) ?_
   refine vcL_nil ?_
   obtain ⟨vJ94, hJ95, h⟩ := join_elim h
   refine Vc.seqJ (σ := Int × Int) [20, 21] [138, 139, 140, 141, 142, 143, 144, 145, 146] (fun s=>[(20, (Value.int .i64 s.1)), (21, (Value.int .i64 s.2))]) (fun s w=>vJ94 s.1 s.2 w) (fun _ => rfl) ?_ ?_
   ·refine Vc.seq ?_
    refine Vc.region ?_
    refine vcL_purs 3 [(140, (Value.bool (decide ((IntKind.wrap .i64 (Int.fdiv (IntKind.wrap .u64 (wrapI (a + b))) (2 ^ 1))) < m)))), (139, (Value.int .i64 (IntKind.wrap .i64 (Int.fdiv (IntKind.wrap .u64 (wrapI (a + b))) (2 ^ 1))))), (138, (Value.int .i64 m))] (by kernel_rfl) ?_
    refine vcL_nil ?_
    refine Vc.cond (decide ((IntKind.wrap .i64 (Int.fdiv (IntKind.wrap .u64 (wrapI (a + b))) (2 ^ 1))) < m)) (by kernel_rfl) (fun hb=>?_) (fun hb=>?_)
    ·have h := h.1 (of_decide_eq_true hb)
     refine Vc.seq ?_
     refine Vc.region ?_
     refine vcL_purs 4 [(20, (Value.int .i64 (wrapI ((wrapI ((IntKind.wrap .i64 (Int.fdiv (IntKind.wrap .u64 (wrapI (a + b))) (2 ^ 1))) + m)) - b)))), (143, (Value.int .i64 (wrapI ((wrapI ((IntKind.wrap .i64 (Int.fdiv (IntKind.wrap .u64 (wrapI (a + b))) (2 ^ 1))) + m)) - b)))), (142, (Value.int .i64 b)), (141, (Value.int .i64 (wrapI ((IntKind.wrap .i64 (Int.fdiv (IntKind.wrap .u64 (wrapI (a + b))) (2 ^ 1))) + m))))] (by kernel_rfl) ?_
     refine vcL_nil ?_
     refine Vc.region ?_
     refine vcL_purs 2 [(21, (Value.int .i64 (IntKind.wrap .i64 (Int.fdiv (IntKind.wrap .u64 (wrapI (a + b))) (2 ^ 1))))), (144, (Value.int .i64 (IntKind.wrap .i64 (Int.fdiv (IntKind.wrap .u64 (wrapI (a + b))) (2 ^ 1)))))] (by kernel_rfl) ?_
     refine vcL_nil ?_
     exact ⟨((wrapI ((wrapI ((IntKind.wrap .i64 (Int.fdiv (IntKind.wrap .u64 (wrapI (a + b))) (2 ^ 1))) + m)) - b)), (IntKind.wrap .i64 (Int.fdiv (IntKind.wrap .u64 (wrapI (a + b))) (2 ^ 1)))), 9, ⟨rfl, by kernel_rfl, by kernel_rfl, by kernel_rfl⟩, h⟩
    ·have h := h.2 (of_decide_eq_false hb)
     refine Vc.seq ?_
     refine Vc.region ?_
     refine vcL_purs 2 [(20, (Value.int .i64 a)), (145, (Value.int .i64 a))] (by kernel_rfl) ?_
     refine vcL_nil ?_
     refine Vc.region ?_
     refine vcL_purs 2 [(21, (Value.int .i64 m)), (146, (Value.int .i64 m))] (by kernel_rfl) ?_
     refine vcL_nil ?_
     exact ⟨(a, m), 7, ⟨rfl, by kernel_rfl, by kernel_rfl, by kernel_rfl⟩, h⟩
   ·rintro ⟨start, r⟩ vw60 j h
    subst hJ95
    refine Vc.seq ?_
    refine Vc.region ?_
    refine vcL_purs 3 [(22, (Value.int .i64 (wrapI ((wrapI ((IntKind.wrap .i64 (Int.fdiv (IntKind.wrap .u64 (wrapI (a + b))) (2 ^ 1))) + m)) - 1)))), (148, (Value.int .i64 (wrapI ((wrapI ((IntKind.wrap .i64 (Int.fdiv (IntKind.wrap .u64 (wrapI (a + b))) (2 ^ 1))) + m)) - 1)))), (147, (Value.int .i64 (wrapI ((IntKind.wrap .i64 (Int.fdiv (IntKind.wrap .u64 (wrapI (a + b))) (2 ^ 1))) + m))))] (by kernel_rfl) ?_
    refine vcL_nil ?_
    refine Vc.seq ?_
    refine Vc.block ?_
    obtain ⟨vI91, mu92, h, hr93⟩ := h
    refine Vc.loopJ (σ := Int × Int) [20, 21] [23, 149, 150, 151, 152, 153, 154, 155, 156, 157, 158, 159, 160, 161, 162, 163, 164, 165, 166, 167, 168, 169, 170, 171, 172, 173, 174] (fun s=>[(20, (Value.int .i64 s.1)), (21, (Value.int .i64 s.2))]) (fun s w=>vI91 s.1 s.2 w) (fun s w=>mu92 s.1 s.2 w) (start, r) h (fun _ => rfl) (by kernel_rfl) ?_
    rintro ⟨start61, r62⟩ vw63 j h
    have h := hr93 start61 r62 vw63 h
    refine Vc.seq ?_
    refine Vc.seq ?_
    refine Vc.region ?_
    refine vcL_purs 3 [(151, (Value.bool (decide (start61 < r62)))), (150, (Value.int .i64 r62)), (149, (Value.int .i64 start61))] (by kernel_rfl) ?_
    refine vcL_nil ?_
    refine Vc.cond (decide (start61 < r62)) (by kernel_rfl) (fun hb=>?_) (fun hb=>?_)
    ·have h := h.1 (of_decide_eq_true hb)
     refine Vc.skip ?_
     refine Vc.block ?_
     refine Vc.seq ?_
     refine Vc.region ?_
     refine vcL_purs 7 [(23, (Value.int .i64 (IntKind.wrap .i64 (Int.fdiv (IntKind.wrap .u64 (wrapI (start61 + r62))) (2 ^ 1))))), (157, (Value.int .i64 (IntKind.wrap .i64 (Int.fdiv (IntKind.wrap .u64 (wrapI (start61 + r62))) (2 ^ 1))))), (156, (Value.int .u64 (Int.fdiv (IntKind.wrap .u64 (wrapI (start61 + r62))) (2 ^ 1)))), (155, (Value.int .u64 (IntKind.wrap .u64 (wrapI (start61 + r62))))), (154, (Value.int .i64 (wrapI (start61 + r62)))), (153, (Value.int .i64 r62)), (152, (Value.int .i64 start61))] (by kernel_rfl) ?_
     refine vcL_nil ?_
     refine Vc.seq ?_
     obtain ⟨vw65, hvw65⟩ : ∃ y, y = vw63.drew := ⟨_, rfl⟩
     have h := h vw65 hvw65
     refine Vc.draw (by kernel_rfl) (fun i=>!(memN [11] i)) (.pur 0 (.pur 1 (.pur 2 (.pur 3 (.pur 4 (.pur 5 (.val 6 (.pur 7 (.pur 8 (.pur 9 (.val 10 (.eff 11 (.pur 12 (.pur 13 .fin)) .stop)))))))))))) (by kernel_rfl) ?_
     rw [← hvw65]
     clear hvw65
     refine vcS_pure rfl rfl rfl cmp (fun w=>by kernel_rfl) ?_
     refine vcS_pure rfl rfl rfl (Sl.v data) (fun w=>by kernel_rfl) ?_
     refine vcS_pure rfl rfl rfl (Value.int .i64 (wrapI ((wrapI ((IntKind.wrap .i64 (Int.fdiv (IntKind.wrap .u64 (wrapI (a + b))) (2 ^ 1))) + m)) - 1))) (fun w=>by kernel_rfl) ?_
     refine vcS_pure rfl rfl rfl (Value.int .i64 (IntKind.wrap .i64 (Int.fdiv (IntKind.wrap .u64 (wrapI (start61 + r62))) (2 ^ 1)))) (fun w=>by kernel_rfl) ?_
     refine vcS_pure rfl rfl rfl (Value.int .i64 (wrapI ((wrapI ((wrapI ((IntKind.wrap .i64 (Int.fdiv (IntKind.wrap .u64 (wrapI (a + b))) (2 ^ 1))) + m)) - 1)) - (IntKind.wrap .i64 (Int.fdiv (IntKind.wrap .u64 (wrapI (start61 + r62))) (2 ^ 1)))))) (fun w=>by kernel_rfl) ?_
     obtain ⟨ad66, hi67, h⟩ := h
     refine vcS_pure rfl rfl rfl (Value.pointer (some (ad66.add ((wrapI ((wrapI ((wrapI ((IntKind.wrap .i64 (Int.fdiv (IntKind.wrap .u64 (wrapI (a + b))) (2 ^ 1))) + m)) - 1)) - (IntKind.wrap .i64 (Int.fdiv (IntKind.wrap .u64 (wrapI (start61 + r62))) (2 ^ 1))))).toNat * 3)))) (fun w=>by exact exec_indexAt (s := data) (el := 88) rfl (by kernel_rfl) (by kernel_rfl) (by kernel_rfl) (fun w=>by kernel_rfl) (hi67).1 (hi67).2.1 (hi67).2.2 w) ?_
     obtain ⟨zz14, zz13, zz15, hc68, h⟩ := h
     refine vcS_val rfl rfl rfl (Value.agg #[(Value.string zz14), (Value.int .i64 zz13), (Sl.v zz15)]) (fun w' hx=>exec_load rfl (by kernel_rfl) (run_loadN (fun w=>by kernel_rfl) (fun w=>by kernel_rfl) ((hc68).ext hx))) ?_
     refine vcS_pure rfl rfl rfl (Sl.v data) (fun w=>by kernel_rfl) ?_
     refine vcS_pure rfl rfl rfl (Value.int .i64 (IntKind.wrap .i64 (Int.fdiv (IntKind.wrap .u64 (wrapI (start61 + r62))) (2 ^ 1)))) (fun w=>by kernel_rfl) ?_
     obtain ⟨ad69, hi70, h⟩ := h
     refine vcS_pure rfl rfl rfl (Value.pointer (some (ad69.add ((IntKind.wrap .i64 (Int.fdiv (IntKind.wrap .u64 (wrapI (start61 + r62))) (2 ^ 1))).toNat * 3)))) (fun w=>by exact exec_indexAt (s := data) (el := 88) rfl (by kernel_rfl) (by kernel_rfl) (by kernel_rfl) (fun w=>by kernel_rfl) (hi70).1 (hi70).2.1 (hi70).2.2 w) ?_
     obtain ⟨zz17, zz16, zz18, hc71, h⟩ := h
     refine vcS_val rfl rfl rfl (Value.agg #[(Value.string zz17), (Value.int .i64 zz16), (Sl.v zz18)]) (fun w' hx=>exec_load rfl (by kernel_rfl) (run_loadN (fun w=>by kernel_rfl) (fun w=>by kernel_rfl) ((hc71).ext hx))) ?_
     refine vcS_eff rfl rfl (opVC_callV rfl rfl (fv := cmp) (by kernel_rfl) (args := [(Value.agg #[(Value.string zz14), (Value.int .i64 zz13), (Sl.v zz15)]), (Value.agg #[(Value.string zz17), (Value.int .i64 zz16), (Sl.v zz18)])]) (by kernel_rfl) (callV.mono h fun v73 vw72 h=>?_)) vcS_stop
     obtain ⟨t169, rfl, h⟩ := h
     refine ⟨fun hb=>absurd hb (by decide), ?_⟩
     refine vcS_pure rfl rfl rfl (Value.bool (decide (t169 < 0))) (fun w=>by kernel_rfl) ?_
     refine vcS_pure rfl rfl rfl (Value.bool (!(decide (t169 < 0)))) (fun w=>by kernel_rfl) ?_
     refine vcS_fin ?_
     refine Vc.cond (!(decide (t169 < 0))) (by kernel_rfl) (fun hb=>?_) (fun hb=>?_)
     ·have h := h.1 ((fun hb=>of_decide_eq_false hb) (by simpa using hb))
      refine Vc.region ?_
      refine vcL_purs 3 [(20, (Value.int .i64 (wrapI ((IntKind.wrap .i64 (Int.fdiv (IntKind.wrap .u64 (wrapI (start61 + r62))) (2 ^ 1))) + 1)))), (173, (Value.int .i64 (wrapI ((IntKind.wrap .i64 (Int.fdiv (IntKind.wrap .u64 (wrapI (start61 + r62))) (2 ^ 1))) + 1)))), (172, (Value.int .i64 (IntKind.wrap .i64 (Int.fdiv (IntKind.wrap .u64 (wrapI (start61 + r62))) (2 ^ 1)))))] (by kernel_rfl) ?_
      refine vcL_nil ?_
      exact ⟨((wrapI ((IntKind.wrap .i64 (Int.fdiv (IntKind.wrap .u64 (wrapI (start61 + r62))) (2 ^ 1))) + 1)), r62), 56, ⟨rfl, by kernel_rfl, by kernel_rfl, by kernel_rfl⟩, h⟩
     ·have h := h.2 (not_not_intro ((fun hb=>of_decide_eq_true hb) (by simpa using hb)))
      refine Vc.region ?_
      refine vcL_purs 2 [(21, (Value.int .i64 (IntKind.wrap .i64 (Int.fdiv (IntKind.wrap .u64 (wrapI (start61 + r62))) (2 ^ 1))))), (174, (Value.int .i64 (IntKind.wrap .i64 (Int.fdiv (IntKind.wrap .u64 (wrapI (start61 + r62))) (2 ^ 1)))))] (by kernel_rfl) ?_
      refine vcL_nil ?_
      exact ⟨(start61, (IntKind.wrap .i64 (Int.fdiv (IntKind.wrap .u64 (wrapI (start61 + r62))) (2 ^ 1)))), 55, ⟨rfl, by kernel_rfl, by kernel_rfl, by kernel_rfl⟩, h⟩
    ·have h := h.2 (of_decide_eq_false hb)
     refine Vc.exit ?_
     refine outOf_hit ?_
     refine Vc.seq ?_
     refine Vc.region ?_
     refine vcL_purs 4 [(24, (Value.int .i64 (wrapI ((wrapI ((IntKind.wrap .i64 (Int.fdiv (IntKind.wrap .u64 (wrapI (a + b))) (2 ^ 1))) + m)) - start61)))), (177, (Value.int .i64 (wrapI ((wrapI ((IntKind.wrap .i64 (Int.fdiv (IntKind.wrap .u64 (wrapI (a + b))) (2 ^ 1))) + m)) - start61)))), (176, (Value.int .i64 start61)), (175, (Value.int .i64 (wrapI ((IntKind.wrap .i64 (Int.fdiv (IntKind.wrap .u64 (wrapI (a + b))) (2 ^ 1))) + m))))] (by kernel_rfl) ?_
     refine vcL_nil ?_
     obtain ⟨vJ85, hJ86, h⟩ := join_elim h
     refine Vc.seqJ (σ := Unit) [] [178, 179, 180, 181, 182, 183, 184, 185, 186, 187, 188, 189, 190, 191] (fun s=>[]) (fun s w=>vJ85 w) (fun _ => rfl) ?_ ?_
     ·refine Vc.seq ?_
      refine Vc.region ?_
      refine vcL_purs 3 [(180, (Value.bool (decide (start61 < m)))), (179, (Value.int .i64 m)), (178, (Value.int .i64 start61))] (by kernel_rfl) ?_
      obtain ⟨b87, hb87⟩ : ∃ y, y = (decide (start61 < m)) := ⟨_, rfl⟩
      have h := h b87 hb87
      refine vcL_pure rfl rfl (Value.bool b87) (fun w=>by rw [hb87]; kernel_rfl) ?_
      refine vcL_guardP b87 (wanted_g (d := 181) rfl (by kernel_rfl) b87 (by kernel_rfl) b87 (eqT b87)) rfl (Value.int .i64 m) (fun hg w=>by subst hg; kernel_rfl) ?_
      refine vcL_guardP b87 (wanted_g (d := 181) rfl (by kernel_rfl) b87 (by kernel_rfl) b87 (eqT b87)) rfl (Value.int .i64 (wrapI ((wrapI ((IntKind.wrap .i64 (Int.fdiv (IntKind.wrap .u64 (wrapI (a + b))) (2 ^ 1))) + m)) - start61))) (fun hg w=>by subst hg; kernel_rfl) ?_
      refine vcL_guardP b87 (wanted_g (d := 181) rfl (by kernel_rfl) b87 (by kernel_rfl) b87 (eqT b87)) rfl (Value.bool (decide (m < (wrapI ((wrapI ((IntKind.wrap .i64 (Int.fdiv (IntKind.wrap .u64 (wrapI (a + b))) (2 ^ 1))) + m)) - start61))))) (fun hg w=>by subst hg; kernel_rfl) ?_
      refine vcL_pure rfl rfl (Value.bool (b87 && (decide (m < (wrapI ((wrapI ((IntKind.wrap .i64 (Int.fdiv (IntKind.wrap .u64 (wrapI (a + b))) (2 ^ 1))) + m)) - start61)))))) (fun w=>by cases b87 <;> kernel_rfl) ?_
      refine vcL_nil ?_
      refine Vc.cond (b87 && (decide (m < (wrapI ((wrapI ((IntKind.wrap .i64 (Int.fdiv (IntKind.wrap .u64 (wrapI (a + b))) (2 ^ 1))) + m)) - start61))))) (by kernel_rfl) (fun hb=>?_) (fun hb=>?_)
      ·have h := h.1 (hb)
       refine Vc.region ?_
       refine vcL_purs 5 [(190, cmp), (189, (Value.int .i64 (wrapI ((wrapI ((IntKind.wrap .i64 (Int.fdiv (IntKind.wrap .u64 (wrapI (a + b))) (2 ^ 1))) + m)) - start61)))), (188, (Value.int .i64 m)), (187, (Value.int .i64 start61)), (186, (Sl.v data))] (by kernel_rfl) ?_
       refine vcL_eff rfl (opVC_call rfl (by kernel_rfl) (callS.mono h fun v89 vw88 h=>?_))
       obtain ⟨rfl, h⟩ := h
       refine vcL_nil ?_
       exact ⟨(), 14, ⟨rfl, by kernel_rfl, by kernel_rfl, by kernel_rfl⟩, h⟩
      ·have h := h.2 (hb)
       refine Vc.skip ?_
       exact ⟨(), 8, ⟨rfl, by kernel_rfl, by kernel_rfl, by kernel_rfl⟩, h⟩
     ·intro s vw75 j h
      subst hJ86
      obtain ⟨vJ, hJ, h⟩ := join_elim h
      refine Vc.seqJ (σ := Unit) [] [192, 193, 194, 195, 196, 197, 198, 199, 200, 201, 202, 203, 204, 205] (fun s=>[]) (fun s w=>vJ w) (fun _ => rfl) ?_ ?_
      ·refine Vc.seq ?_
       refine Vc.region ?_
       refine vcL_purs 3 [(194, (Value.bool (decide (a < start61)))), (193, (Value.int .i64 start61)), (192, (Value.int .i64 a))] (by kernel_rfl) ?_
       obtain ⟨b81, hb81⟩ : ∃ y, y = (decide (a < start61)) := ⟨_, rfl⟩
       have h := h b81 hb81
       refine vcL_pure rfl rfl (Value.bool b81) (fun w=>by rw [hb81]; kernel_rfl) ?_
       refine vcL_guardP b81 (wanted_g (d := 195) rfl (by kernel_rfl) b81 (by kernel_rfl) b81 (eqT b81)) rfl (Value.int .i64 start61) (fun hg w=>by subst hg; kernel_rfl) ?_
       refine vcL_guardP b81 (wanted_g (d := 195) rfl (by kernel_rfl) b81 (by kernel_rfl) b81 (eqT b81)) rfl (Value.int .i64 (IntKind.wrap .i64 (Int.fdiv (IntKind.wrap .u64 (wrapI (a + b))) (2 ^ 1)))) (fun hg w=>by subst hg; kernel_rfl) ?_
       refine vcL_guardP b81 (wanted_g (d := 195) rfl (by kernel_rfl) b81 (by kernel_rfl) b81 (eqT b81)) rfl (Value.bool (decide (start61 < (IntKind.wrap .i64 (Int.fdiv (IntKind.wrap .u64 (wrapI (a + b))) (2 ^ 1)))))) (fun hg w=>by subst hg; kernel_rfl) ?_
       refine vcL_pure rfl rfl (Value.bool (b81 && (decide (start61 < (IntKind.wrap .i64 (Int.fdiv (IntKind.wrap .u64 (wrapI (a + b))) (2 ^ 1))))))) (fun w=>by cases b81 <;> kernel_rfl) ?_
       refine vcL_nil ?_
       refine Vc.cond (b81 && (decide (start61 < (IntKind.wrap .i64 (Int.fdiv (IntKind.wrap .u64 (wrapI (a + b))) (2 ^ 1)))))) (by kernel_rfl) (fun hb=>?_) (fun hb=>?_)
       ·have h := h.1 (hb)
        refine Vc.region ?_
        refine vcL_purs 5 [(204, cmp), (203, (Value.int .i64 (IntKind.wrap .i64 (Int.fdiv (IntKind.wrap .u64 (wrapI (a + b))) (2 ^ 1))))), (202, (Value.int .i64 start61)), (201, (Value.int .i64 a)), (200, (Sl.v data))] (by kernel_rfl) ?_
        refine vcL_eff rfl (opVC_call rfl (by kernel_rfl) (callS.mono h fun v83 vw82 h=>?_))
        obtain ⟨rfl, h⟩ := h
        refine vcL_nil ?_
        exact ⟨(), 14, ⟨rfl, by kernel_rfl, by kernel_rfl, by kernel_rfl⟩, h⟩
       ·have h := h.2 (hb)
        refine Vc.skip ?_
        exact ⟨(), 8, ⟨rfl, by kernel_rfl, by kernel_rfl, by kernel_rfl⟩, h⟩
      ·intro s vw76 j h
       subst hJ
       refine Vc.seq ?_
       refine Vc.region ?_
       refine vcL_purs 3 [(208, (Value.bool (decide ((IntKind.wrap .i64 (Int.fdiv (IntKind.wrap .u64 (wrapI (a + b))) (2 ^ 1))) < (wrapI ((wrapI ((IntKind.wrap .i64 (Int.fdiv (IntKind.wrap .u64 (wrapI (a + b))) (2 ^ 1))) + m)) - start61)))))), (207, (Value.int .i64 (wrapI ((wrapI ((IntKind.wrap .i64 (Int.fdiv (IntKind.wrap .u64 (wrapI (a + b))) (2 ^ 1))) + m)) - start61)))), (206, (Value.int .i64 (IntKind.wrap .i64 (Int.fdiv (IntKind.wrap .u64 (wrapI (a + b))) (2 ^ 1)))))] (by kernel_rfl) ?_
       obtain ⟨b77, hb77⟩ : ∃ y, y = (decide ((IntKind.wrap .i64 (Int.fdiv (IntKind.wrap .u64 (wrapI (a + b))) (2 ^ 1))) < (wrapI ((wrapI ((IntKind.wrap .i64 (Int.fdiv (IntKind.wrap .u64 (wrapI (a + b))) (2 ^ 1))) + m)) - start61)))) := ⟨_, rfl⟩
       have h := h b77 hb77
       refine vcL_pure rfl rfl (Value.bool b77) (fun w=>by rw [hb77]; kernel_rfl) ?_
       refine vcL_guardP b77 (wanted_g (d := 209) rfl (by kernel_rfl) b77 (by kernel_rfl) b77 (eqT b77)) rfl (Value.int .i64 (wrapI ((wrapI ((IntKind.wrap .i64 (Int.fdiv (IntKind.wrap .u64 (wrapI (a + b))) (2 ^ 1))) + m)) - start61))) (fun hg w=>by subst hg; kernel_rfl) ?_
       refine vcL_guardP b77 (wanted_g (d := 209) rfl (by kernel_rfl) b77 (by kernel_rfl) b77 (eqT b77)) rfl (Value.int .i64 b) (fun hg w=>by subst hg; kernel_rfl) ?_
       refine vcL_guardP b77 (wanted_g (d := 209) rfl (by kernel_rfl) b77 (by kernel_rfl) b77 (eqT b77)) rfl (Value.bool (decide ((wrapI ((wrapI ((IntKind.wrap .i64 (Int.fdiv (IntKind.wrap .u64 (wrapI (a + b))) (2 ^ 1))) + m)) - start61)) < b))) (fun hg w=>by subst hg; kernel_rfl) ?_
       refine vcL_pure rfl rfl (Value.bool (b77 && (decide ((wrapI ((wrapI ((IntKind.wrap .i64 (Int.fdiv (IntKind.wrap .u64 (wrapI (a + b))) (2 ^ 1))) + m)) - start61)) < b)))) (fun w=>by cases b77 <;> kernel_rfl) ?_
       refine vcL_nil ?_
       refine Vc.cond (b77 && (decide ((wrapI ((wrapI ((IntKind.wrap .i64 (Int.fdiv (IntKind.wrap .u64 (wrapI (a + b))) (2 ^ 1))) + m)) - start61)) < b))) (by kernel_rfl) (fun hb=>?_) (fun hb=>?_)
       ·have h := h.1 (hb)
        refine Vc.region ?_
        refine vcL_purs 5 [(218, cmp), (217, (Value.int .i64 b)), (216, (Value.int .i64 (wrapI ((wrapI ((IntKind.wrap .i64 (Int.fdiv (IntKind.wrap .u64 (wrapI (a + b))) (2 ^ 1))) + m)) - start61)))), (215, (Value.int .i64 (IntKind.wrap .i64 (Int.fdiv (IntKind.wrap .u64 (wrapI (a + b))) (2 ^ 1))))), (214, (Sl.v data))] (by kernel_rfl) ?_
        refine vcL_eff rfl (opVC_call rfl (by kernel_rfl) (callS.mono h fun v79 vw78 h=>?_))
        obtain ⟨rfl, h⟩ := h
        refine vcL_nil ?_
        refine done_mk (Value.tuple #[]) (res0 ) ?_
        exact ⟨rfl, h⟩
       ·have h := h.2 (hb)
        refine Vc.skip ?_
        refine done_mk (Value.tuple #[]) (res0 ) ?_
        exact ⟨rfl, h⟩
theorem slices_symMergeCmpFunc_apiWant.go {data : Sl} {a : Int} {m : Int} {b : Int} {cmp : Value} {w : World} {k : Value → World → Prop} (h : slices_symMergeCmpFunc_apiWant data a m b cmp w fun  w'=>k (Value.tuple #[]) w') : callS Tryz.prog 195 [(Sl.v data), (Value.int .i64 a), (Value.int .i64 m), (Value.int .i64 b), cmp] w k := (slices_symMergeCmpFunc_apiWant.sound data a m b cmp w _ h).mono (by rintro _ _ ⟨rfl, h⟩; exact h)
def slices_rotateCmpFunc_apiWant (data : Sl) (a : Int) (m : Int) (b : Int) (cmp : Value) (w : World) (R : World → Prop) : Prop :=
 loop2 (wrapI (m - a)) (wrapI (b - m)) w fun i vj vw nxt=>((¬ i = vj → ((vj < i → callS Tryz.prog 223 [(Sl.v data), (Value.int .i64 (wrapI (m - i))), (Value.int .i64 m), (Value.int .i64 vj), cmp] vw fun v vw1=>v = (Value.tuple #[]) ∧ nxt (wrapI (i - vj)) vj vw1) ∧ (¬ (vj < i) → callS Tryz.prog 223 [(Sl.v data), (Value.int .i64 (wrapI (m - i))), (Value.int .i64 (wrapI ((wrapI (m + vj)) - i))), (Value.int .i64 i), cmp] vw fun v3 vw2=>v3 = (Value.tuple #[]) ∧ nxt i (wrapI (vj - i)) vw2))) ∧ (¬ (¬ i = vj) → callS Tryz.prog 223 [(Sl.v data), (Value.int .i64 (wrapI (m - i))), (Value.int .i64 m), (Value.int .i64 i), cmp] vw fun v6 vw5=>v6 = (Value.tuple #[]) ∧ R vw5))
set_option maxHeartbeats 8000000 in
theorem slices_rotateCmpFunc_apiWant.sound (data : Sl) (a : Int) (m : Int) (b : Int) (cmp : Value) (w : World) (R : World → Prop) (h : slices_rotateCmpFunc_apiWant data a m b cmp w R) : callS Tryz.prog 209 [(Sl.v data), (Value.int .i64 a), (Value.int .i64 m), (Value.int .i64 b), cmp] w (fun v w'=>v = (Value.tuple #[]) ∧ R w') := by
 unfold slices_rotateCmpFunc_apiWant at h
 refine calls_of_vc 58 rfl Tryz.func209 rfl (by kernel_rfl) (by simp) ?_
 refine Vc.seq ?_
 refine Vc.region ?_
 refine vcL_purs 4 [(10, (Value.int .i64 (wrapI (m - a)))), (14, (Value.int .i64 (wrapI (m - a)))), (13, (Value.int .i64 a)), (12, (Value.int .i64 m))] (by kernel_rfl) ?_
 refine vcL_nil ?_
 refine Vc.seq ?_
 refine Vc.region ?_
 refine vcL_purs 4 [(11, (Value.int .i64 (wrapI (b - m)))), (17, (Value.int .i64 (wrapI (b - m)))), (16, (Value.int .i64 m)), (15, (Value.int .i64 b))] (by kernel_rfl) ?_
 refine vcL_nil ?_
 refine Vc.seq ?_
 refine Vc.block ?_
 obtain ⟨vI, mu, h, hr⟩ := h
 refine Vc.loopJ (σ := Int × Int) [10, 11] [18, 19, 20, 21, 22, 23, 24, 25, 26, 27, 28, 29, 30, 31, 32, 33, 34, 35, 36, 37, 38, 39, 40, 41, 42, 43, 44, 45, 46, 47, 48, 49] (fun s=>[(10, (Value.int .i64 s.1)), (11, (Value.int .i64 s.2))]) (fun s w=>vI s.1 s.2 w) (fun s w=>mu s.1 s.2 w) ((wrapI (m - a)), (wrapI (b - m))) h (fun _ => rfl) (by kernel_rfl) ?_
 rintro ⟨i, vj⟩ vw j h
 have h := hr i vj vw h
 refine Vc.seq ?_
 refine Vc.seq ?_
 refine Vc.region ?_
 refine vcL_purs 3 [(20, (Value.bool (!(i == vj)))), (19, (Value.int .i64 vj)), (18, (Value.int .i64 i))] (by kernel_rfl) ?_
 refine vcL_nil ?_
 refine Vc.cond (!(i == vj)) (by kernel_rfl) (fun hb=>?_) (fun hb=>?_)
 ·have h := h.1 (ne_of_nbeq hb)
  refine Vc.skip ?_
  refine Vc.block ?_
  refine Vc.seq ?_
  refine Vc.region ?_
  refine vcL_purs 3 [(23, (Value.bool (decide (vj < i)))), (22, (Value.int .i64 vj)), (21, (Value.int .i64 i))] (by kernel_rfl) ?_
  refine vcL_nil ?_
  refine Vc.cond (decide (vj < i)) (by kernel_rfl) (fun hb=>?_) (fun hb=>?_)
  ·have h := h.1 (of_decide_eq_true hb)
   refine Vc.seq ?_
   refine Vc.region ?_
   refine vcL_purs 7 [(30, cmp), (29, (Value.int .i64 vj)), (28, (Value.int .i64 m)), (27, (Value.int .i64 (wrapI (m - i)))), (26, (Value.int .i64 i)), (25, (Value.int .i64 m)), (24, (Sl.v data))] (by kernel_rfl) ?_
   refine vcL_eff rfl (opVC_call rfl (by kernel_rfl) (callS.mono h fun v vw1 h=>?_))
   obtain ⟨rfl, h⟩ := h
   refine vcL_nil ?_
   refine Vc.region ?_
   refine vcL_purs 4 [(10, (Value.int .i64 (wrapI (i - vj)))), (34, (Value.int .i64 (wrapI (i - vj)))), (33, (Value.int .i64 vj)), (32, (Value.int .i64 i))] (by kernel_rfl) ?_
   refine vcL_nil ?_
   exact ⟨((wrapI (i - vj)), vj), 52, ⟨rfl, by kernel_rfl, by kernel_rfl, by kernel_rfl⟩, h⟩
  ·have h := h.2 (of_decide_eq_false hb)
   refine Vc.seq ?_
   refine Vc.region ?_
   refine vcL_purs 11 [(45, cmp), (44, (Value.int .i64 i)), (43, (Value.int .i64 (wrapI ((wrapI (m + vj)) - i)))), (42, (Value.int .i64 i)), (41, (Value.int .i64 (wrapI (m + vj)))), (40, (Value.int .i64 vj)), (39, (Value.int .i64 m)), (38, (Value.int .i64 (wrapI (m - i)))), (37, (Value.int .i64 i)), (36, (Value.int .i64 m)), (35, (Sl.v data))] (by kernel_rfl) ?_
   refine vcL_eff rfl (opVC_call rfl (by kernel_rfl) (callS.mono h fun v3 vw2 h=>?_))
   obtain ⟨rfl, h⟩ := h
   refine vcL_nil ?_
   refine Vc.region ?_
   refine vcL_purs 4 [(11, (Value.int .i64 (wrapI (vj - i)))), (49, (Value.int .i64 (wrapI (vj - i)))), (48, (Value.int .i64 i)), (47, (Value.int .i64 vj))] (by kernel_rfl) ?_
   refine vcL_nil ?_
   exact ⟨(i, (wrapI (vj - i))), 56, ⟨rfl, by kernel_rfl, by kernel_rfl, by kernel_rfl⟩, h⟩
 ·have h := h.2 (nne_of_nbeq hb)
  refine Vc.exit ?_
  refine outOf_hit ?_
  refine Vc.region ?_
  refine vcL_purs 7 [(56, cmp), (55, (Value.int .i64 i)), (54, (Value.int .i64 m)), (53, (Value.int .i64 (wrapI (m - i)))), (52, (Value.int .i64 i)), (51, (Value.int .i64 m)), (50, (Sl.v data))] (by kernel_rfl) ?_
  refine vcL_eff rfl (opVC_call rfl (by kernel_rfl) (callS.mono h fun v6 vw5 h=>?_))
  obtain ⟨rfl, h⟩ := h
  refine vcL_nil ?_
  refine done_mk (Value.tuple #[]) (res0 ) ?_
  exact ⟨rfl, h⟩
theorem slices_rotateCmpFunc_apiWant.go {data : Sl} {a : Int} {m : Int} {b : Int} {cmp : Value} {w : World} {k : Value → World → Prop} (h : slices_rotateCmpFunc_apiWant data a m b cmp w fun  w'=>k (Value.tuple #[]) w') : callS Tryz.prog 209 [(Sl.v data), (Value.int .i64 a), (Value.int .i64 m), (Value.int .i64 b), cmp] w k := (slices_rotateCmpFunc_apiWant.sound data a m b cmp w _ h).mono (by rintro _ _ ⟨rfl, h⟩; exact h)
def slices_swapRangeCmpFunc_apiWant (data : Sl) (a : Int) (b : Int) (n : Int) (cmp : Value) (w : World) (R : World → Prop) : Prop :=
 loop1 0 w fun i vw nxt=>((i < n → bnd vw.drew fun (vw1 : World)=>∃ (ad : Addr), (data.a = some ad ∧ (0 : Int) ≤ (wrapI (b + i)) ∧ (wrapI (b + i)) < (data.len : Int)) ∧ ∃ (zzg : ByteArray) (zzf : Int) (zzh : Sl), (ldc vw1 (ad.add ((wrapI (b + i)).toNat * 3)) [(Value.string zzg), (Value.int .i64 zzf), (Sl.v zzh)]) ∧ ∃ (ad2 : Addr), (data.a = some ad2 ∧ (0 : Int) ≤ (wrapI (a + i)) ∧ (wrapI (a + i)) < (data.len : Int)) ∧ ∃ (zzj : ByteArray) (zzi : Int) (zzk : Sl), (ldc vw1 (ad2.add ((wrapI (a + i)).toNat * 3)) [(Value.string zzj), (Value.int .i64 zzi), (Sl.v zzk)]) ∧ ∃ (ad5 : Addr), (data.a = some ad5 ∧ (0 : Int) ≤ (wrapI (a + i)) ∧ (wrapI (a + i)) < (data.len : Int)) ∧ stw vw1 (ad5.add ((wrapI (a + i)).toNat * 3)) [(Value.string zzg), (Value.int .i64 zzf), (Sl.v zzh)] fun vw7=>∃ (ad8 : Addr), (data.a = some ad8 ∧ (0 : Int) ≤ (wrapI (b + i)) ∧ (wrapI (b + i)) < (data.len : Int)) ∧ stw vw7 (ad8.add ((wrapI (b + i)).toNat * 3)) [(Value.string zzj), (Value.int .i64 zzi), (Sl.v zzk)] fun vw10=>nxt (wrapI (i + 1)) vw10) ∧ (¬ (i < n) → R vw))
set_option maxHeartbeats 8000000 in
theorem slices_swapRangeCmpFunc_apiWant.sound (data : Sl) (a : Int) (b : Int) (n : Int) (cmp : Value) (w : World) (R : World → Prop) (h : slices_swapRangeCmpFunc_apiWant data a b n cmp w R) : callS Tryz.prog 223 [(Sl.v data), (Value.int .i64 a), (Value.int .i64 b), (Value.int .i64 n), cmp] w (fun v w'=>v = (Value.tuple #[]) ∧ R w') := by
 unfold slices_swapRangeCmpFunc_apiWant at h
 refine calls_of_vc 38 rfl Tryz.func223 rfl (by kernel_rfl) (by simp) ?_
 refine Vc.seq ?_
 refine Vc.region ?_
 refine vcL_pure rfl rfl (Value.int .i64 0) (fun w=>by kernel_rfl) ?_
 refine vcL_nil ?_
 refine Vc.block ?_
 obtain ⟨vI, mu, h, hr⟩ := h
 refine Vc.loopJ (σ := Int) [10] [11, 12, 13, 14, 15, 16, 17, 18, 19, 20, 21, 22, 23, 24, 25, 26, 27, 28, 29, 30, 31, 32, 33, 34, 35, 36, 37] (fun s=>[(10, (Value.int .i64 s))]) (fun s w=>vI s w) (fun s w=>mu s w) 0 h (fun _ => rfl) (by kernel_rfl) ?_
 intro i vw j h
 have h := hr i vw h
 refine Vc.seq ?_
 refine Vc.seq ?_
 refine Vc.region ?_
 refine vcL_purs 3 [(13, (Value.bool (decide (i < n)))), (12, (Value.int .i64 n)), (11, (Value.int .i64 i))] (by kernel_rfl) ?_
 refine vcL_nil ?_
 refine Vc.cond (decide (i < n)) (by kernel_rfl) (fun hb=>?_) (fun hb=>?_)
 ·have h := h.1 (of_decide_eq_true hb)
  refine Vc.skip ?_
  refine Vc.seq ?_
  refine Vc.block ?_
  obtain ⟨vw1, hvw1⟩ : ∃ y, y = vw.drew := ⟨_, rfl⟩
  have h := h vw1 hvw1
  refine Vc.draw (by kernel_rfl) (fun i=>!(memN [21, 23] i)) (.pur 0 (.pur 1 (.pur 2 (.pur 3 (.pur 4 (.pur 5 (.pur 6 (.pur 7 (.pur 8 (.pur 9 (.pur 10 (.pur 11 (.pur 12 (.val 13 (.pur 14 (.pur 15 (.pur 16 (.pur 17 (.pur 18 (.val 19 (.pur 20 (.eff 21 (.pur 22 (.eff 23 .fin .stop)) .stop)))))))))))))))))))))) (by kernel_rfl) ?_
  rw [← hvw1]
  clear hvw1
  refine vcS_pure rfl rfl rfl (Sl.v data) (fun w=>by kernel_rfl) ?_
  refine vcS_pure rfl rfl rfl (Value.int .i64 a) (fun w=>by kernel_rfl) ?_
  refine vcS_pure rfl rfl rfl (Value.int .i64 i) (fun w=>by kernel_rfl) ?_
  refine vcS_pure rfl rfl rfl (Value.int .i64 (wrapI (a + i))) (fun w=>by kernel_rfl) ?_
  refine vcS_pure rfl rfl rfl (Sl.v data) (fun w=>by kernel_rfl) ?_
  refine vcS_pure rfl rfl rfl (Value.int .i64 b) (fun w=>by kernel_rfl) ?_
  refine vcS_pure rfl rfl rfl (Value.int .i64 i) (fun w=>by kernel_rfl) ?_
  refine vcS_pure rfl rfl rfl (Value.int .i64 (wrapI (b + i))) (fun w=>by kernel_rfl) ?_
  refine vcS_pure rfl rfl rfl (Sl.v data) (fun w=>by kernel_rfl) ?_
  refine vcS_pure rfl rfl rfl (Value.int .i64 b) (fun w=>by kernel_rfl) ?_
  refine vcS_pure rfl rfl rfl (Value.int .i64 i) (fun w=>by kernel_rfl) ?_
  refine vcS_pure rfl rfl rfl (Value.int .i64 (wrapI (b + i))) (fun w=>by kernel_rfl) ?_
  obtain ⟨ad, hi, h⟩ := h
  refine vcS_pure rfl rfl rfl (Value.pointer (some (ad.add ((wrapI (b + i)).toNat * 3)))) (fun w=>by exact exec_indexAt (s := data) (el := 88) rfl (by kernel_rfl) (by kernel_rfl) (by kernel_rfl) (fun w=>by kernel_rfl) (hi).1 (hi).2.1 (hi).2.2 w) ?_
  obtain ⟨zzg, zzf, zzh, hc, h⟩ := h
  refine vcS_val rfl rfl rfl (Value.agg #[(Value.string zzg), (Value.int .i64 zzf), (Sl.v zzh)]) (fun w' hx=>exec_load rfl (by kernel_rfl) (run_loadN (fun w=>by kernel_rfl) (fun w=>by kernel_rfl) ((hc).ext hx))) ?_
  refine vcS_pure rfl rfl rfl (Sl.v data) (fun w=>by kernel_rfl) ?_
  refine vcS_pure rfl rfl rfl (Value.int .i64 a) (fun w=>by kernel_rfl) ?_
  refine vcS_pure rfl rfl rfl (Value.int .i64 i) (fun w=>by kernel_rfl) ?_
  refine vcS_pure rfl rfl rfl (Value.int .i64 (wrapI (a + i))) (fun w=>by kernel_rfl) ?_
  obtain ⟨ad2, hi3, h⟩ := h
  refine vcS_pure rfl rfl rfl (Value.pointer (some (ad2.add ((wrapI (a + i)).toNat * 3)))) (fun w=>by exact exec_indexAt (s := data) (el := 88) rfl (by kernel_rfl) (by kernel_rfl) (by kernel_rfl) (fun w=>by kernel_rfl) (hi3).1 (hi3).2.1 (hi3).2.2 w) ?_
  obtain ⟨zzj, zzi, zzk, hc4, h⟩ := h
  refine vcS_val rfl rfl rfl (Value.agg #[(Value.string zzj), (Value.int .i64 zzi), (Sl.v zzk)]) (fun w' hx=>exec_load rfl (by kernel_rfl) (run_loadN (fun w=>by kernel_rfl) (fun w=>by kernel_rfl) ((hc4).ext hx))) ?_
  obtain ⟨ad5, hi6, h⟩ := h
  refine vcS_pure rfl rfl rfl (Value.pointer (some (ad5.add ((wrapI (a + i)).toNat * 3)))) (fun w=>by exact exec_indexAt (s := data) (el := 88) rfl (by kernel_rfl) (by kernel_rfl) (by kernel_rfl) (fun w=>by kernel_rfl) (hi6).1 (hi6).2.1 (hi6).2.2 w) ?_
  refine vcS_eff rfl rfl (opVC_store rfl rfl (a := (ad5.add ((wrapI (a + i)).toNat * 3))) (by kernel_rfl) (v := (Value.agg #[(Value.string zzg), (Value.int .i64 zzf), (Sl.v zzh)])) (by kernel_rfl) [(Value.string zzg), (Value.int .i64 zzf), (Sl.v zzh)] (by kernel_rfl) (fun w=>by kernel_rfl) (by kernel_rfl) (stw.mono h fun vw7 h=>?_)) vcS_stop
  refine ⟨fun hb=>absurd hb (by decide), ?_⟩
  obtain ⟨ad8, hi9, h⟩ := h
  refine vcS_pure rfl rfl rfl (Value.pointer (some (ad8.add ((wrapI (b + i)).toNat * 3)))) (fun w=>by exact exec_indexAt (s := data) (el := 88) rfl (by kernel_rfl) (by kernel_rfl) (by kernel_rfl) (fun w=>by kernel_rfl) (hi9).1 (hi9).2.1 (hi9).2.2 w) ?_
  refine vcS_eff rfl rfl (opVC_store rfl rfl (a := (ad8.add ((wrapI (b + i)).toNat * 3))) (by kernel_rfl) (v := (Value.agg #[(Value.string zzj), (Value.int .i64 zzi), (Sl.v zzk)])) (by kernel_rfl) [(Value.string zzj), (Value.int .i64 zzi), (Sl.v zzk)] (by kernel_rfl) (fun w=>by kernel_rfl) (by kernel_rfl) (stw.mono h fun vw10 h=>?_)) vcS_stop
  refine ⟨fun hb=>absurd hb (by decide), ?_⟩
  refine vcS_fin ?_
  refine Vc.region ?_
  refine vcL_purs 3 [(10, (Value.int .i64 (wrapI (i + 1)))), (15, (Value.int .i64 (wrapI (i + 1)))), (14, (Value.int .i64 i))] (by kernel_rfl) ?_
  refine vcL_nil ?_
  exact ⟨(wrapI (i + 1)), 56, ⟨rfl, by kernel_rfl, by kernel_rfl, by kernel_rfl⟩, h⟩
 ·have h := h.2 (of_decide_eq_false hb)
  refine Vc.exit ?_
  refine outOf_hit ?_
  refine done_mk (Value.tuple #[]) (res0 ) ?_
  exact ⟨rfl, h⟩
theorem slices_swapRangeCmpFunc_apiWant.go {data : Sl} {a : Int} {b : Int} {n : Int} {cmp : Value} {w : World} {k : Value → World → Prop} (h : slices_swapRangeCmpFunc_apiWant data a b n cmp w fun  w'=>k (Value.tuple #[]) w') : callS Tryz.prog 223 [(Sl.v data), (Value.int .i64 a), (Value.int .i64 b), (Value.int .i64 n), cmp] w k := (slices_swapRangeCmpFunc_apiWant.sound data a b n cmp w _ h).mono (by rintro _ _ ⟨rfl, h⟩; exact h)
end Go.Hal.SE
