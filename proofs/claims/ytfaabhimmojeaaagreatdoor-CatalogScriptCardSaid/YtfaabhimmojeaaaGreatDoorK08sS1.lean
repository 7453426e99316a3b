/- Lemmas for the claim K08s: how the program's functions run, and what they answer; no condition but those that each theorem names. -/
import Derived.Test.YtfaabhimmojeaaaGreatDoorProg
import Derived.Test.YtfaabhimmojeaaaGreatDoorK08sA0
set_option linter.unusedVariables false
set_option linter.unusedSimpArgs false
namespace Go.Hal.SE
open Go Go.RowKit Go.Hal Go.Proofs
set_option maxRecDepth 100000
namespace Eq1
theorem eqv_30 (d : Nat) (a0 : Int) (a1 : Int) (a2 : Int) (b0 : Int) (b1 : Int) (b2 : Int) (w : World) : (Op.equalIn (d + 2) 30 (.agg #[(Value.int .i64 a0), (Value.int .i64 a1), (Value.int .i64 a2)]) (.agg #[(Value.int .i64 b0), (Value.int .i64 b1), (Value.int .i64 b2)])).run Tryz.prog w = .ok ((a0 == b0) && ((a1 == b1) && ((a2 == b2) && true))) w :=
 (eqS (by kernel_rfl) (by kernel_rfl) (fs := [⟨ "Major", 3, 0, false, "", "", 0⟩, ⟨ "Minor", 3, 1, false, "", "", 8⟩, ⟨ "Patch", 3, 2, false, "", "", 16⟩]) (by kernel_rfl) (eqF_cons (x := (Value.int .i64 a0)) (y := (Value.int .i64 b0)) rfl (by kernel_rfl) (by kernel_rfl) (run_equalIn_int w _ 3 .i64 .i64 a0 b0 (by kernel_rfl)) (eqF_cons (x := (Value.int .i64 a1)) (y := (Value.int .i64 b1)) rfl (by kernel_rfl) (by kernel_rfl) (run_equalIn_int w _ 3 .i64 .i64 a1 b1 (by kernel_rfl)) (eqF_cons (x := (Value.int .i64 a2)) (y := (Value.int .i64 b2)) rfl (by kernel_rfl) (by kernel_rfl) (run_equalIn_int w _ 3 .i64 .i64 a2 b2 (by kernel_rfl)) eqF_nil))))
theorem eqv_83 (d : Nat) (a0 : Int) (a1 : Int) (a2 : Int) (a3 : Int) (a4 : Int) (a5 : Int) (b0 : Int) (b1 : Int) (b2 : Int) (b3 : Int) (b4 : Int) (b5 : Int) (w : World) : (Op.equalIn (d + 3) 83 (.agg #[(Value.int .i64 a0), (Value.int .i64 a1), (Value.int .i64 a2), (Value.int .i64 a3), (Value.int .i64 a4), (Value.int .i64 a5)]) (.agg #[(Value.int .i64 b0), (Value.int .i64 b1), (Value.int .i64 b2), (Value.int .i64 b3), (Value.int .i64 b4), (Value.int .i64 b5)])).run Tryz.prog w = .ok (((a0 == b0) && ((a1 == b1) && ((a2 == b2) && true))) && (((a3 == b3) && ((a4 == b4) && ((a5 == b5) && true))) && true)) w :=
 (eqS (by kernel_rfl) (by kernel_rfl) (fs := [⟨ "Lo", 30, 0, false, "", "", 0⟩, ⟨ "Hi", 30, 3, false, "", "", 24⟩]) (by kernel_rfl) (eqF_cons (x := (Value.agg #[(Value.int .i64 a0), (Value.int .i64 a1), (Value.int .i64 a2)])) (y := (Value.agg #[(Value.int .i64 b0), (Value.int .i64 b1), (Value.int .i64 b2)])) rfl (by kernel_rfl) (by kernel_rfl) (eqS (by kernel_rfl) (by kernel_rfl) (fs := [⟨ "Major", 3, 0, false, "", "", 0⟩, ⟨ "Minor", 3, 1, false, "", "", 8⟩, ⟨ "Patch", 3, 2, false, "", "", 16⟩]) (by kernel_rfl) (eqF_cons (x := (Value.int .i64 a0)) (y := (Value.int .i64 b0)) rfl (by kernel_rfl) (by kernel_rfl) (run_equalIn_int w _ 3 .i64 .i64 a0 b0 (by kernel_rfl)) (eqF_cons (x := (Value.int .i64 a1)) (y := (Value.int .i64 b1)) rfl (by kernel_rfl) (by kernel_rfl) (run_equalIn_int w _ 3 .i64 .i64 a1 b1 (by kernel_rfl)) (eqF_cons (x := (Value.int .i64 a2)) (y := (Value.int .i64 b2)) rfl (by kernel_rfl) (by kernel_rfl) (run_equalIn_int w _ 3 .i64 .i64 a2 b2 (by kernel_rfl)) eqF_nil)))) (eqF_cons (x := (Value.agg #[(Value.int .i64 a3), (Value.int .i64 a4), (Value.int .i64 a5)])) (y := (Value.agg #[(Value.int .i64 b3), (Value.int .i64 b4), (Value.int .i64 b5)])) rfl (by kernel_rfl) (by kernel_rfl) (eqS (by kernel_rfl) (by kernel_rfl) (fs := [⟨ "Major", 3, 0, false, "", "", 0⟩, ⟨ "Minor", 3, 1, false, "", "", 8⟩, ⟨ "Patch", 3, 2, false, "", "", 16⟩]) (by kernel_rfl) (eqF_cons (x := (Value.int .i64 a3)) (y := (Value.int .i64 b3)) rfl (by kernel_rfl) (by kernel_rfl) (run_equalIn_int w _ 3 .i64 .i64 a3 b3 (by kernel_rfl)) (eqF_cons (x := (Value.int .i64 a4)) (y := (Value.int .i64 b4)) rfl (by kernel_rfl) (by kernel_rfl) (run_equalIn_int w _ 3 .i64 .i64 a4 b4 (by kernel_rfl)) (eqF_cons (x := (Value.int .i64 a5)) (y := (Value.int .i64 b5)) rfl (by kernel_rfl) (by kernel_rfl) (run_equalIn_int w _ 3 .i64 .i64 a5 b5 (by kernel_rfl)) eqF_nil)))) eqF_nil)))
end Eq1
open Eq1
def catalog_Catalog_All (c : Option Addr) (w : World) (R : Sl → World → Prop) : Prop :=
 ∃ (p : Addr), (c = some p) ∧ ∃ (t9 : Option Nat), (ldc w p [(Value.map t9)]) ∧ semS Tryz.prog (Instr.range 101 (Value.map t9)) w fun v vw=>∃ (it : Addr), v = (Value.pointer (some it)) ∧ loop1 Sl.nil vw fun out vw1 nxt=>semS Tryz.prog (Instr.next (Value.pointer (some it)) false 0) vw1 fun v3 vw2=>∃ (ok : Bool) (key_name : ByteArray) (zz2f : Int) (zz2g : Int) (zz2h : Int) (zz1a : ByteArray) (zz1d : Int) (zz1e : Int) (zz1f : Int) (zz19 : Sl) (zz1c : Sl) (zz1b : Sl), v3 = nextV ok (Value.agg #[(Value.string key_name), (Value.int .i64 zz2f), (Value.int .i64 zz2g), (Value.int .i64 zz2h)]) (Value.agg #[(Value.string zz1a), (Value.int .i64 zz1d), (Value.int .i64 zz1e), (Value.int .i64 zz1f), (Sl.v zz19), (Sl.v zz1c), (Sl.v zz1b)]) ∧ ((ok = true → ∃ (key_name4 : ByteArray) (zz4r : Int) (zz4s : Int) (zz4t : Int) (zz29 : ByteArray) (zz2c : Int) (zz2d : Int) (zz2e : Int) (zz28 : Sl) (zz2b : Sl) (zz2a : Sl), (stabS Tryz.prog (Instr.entry (Value.pointer (some it))) vw2 (Value.tuple #[(Value.agg #[(Value.string key_name4), (Value.int .i64 zz4r), (Value.int .i64 zz4s), (Value.int .i64 zz4t)]), (Value.agg #[(Value.string zz29), (Value.int .i64 zz2c), (Value.int .i64 zz2d), (Value.int .i64 zz2e), (Sl.v zz28), (Sl.v zz2b), (Sl.v zz2a)])])) ∧ newS vw2 [(Value.string (ByteArray.mk #[])), (Value.int .i64 0), (Value.int .i64 0), (Value.int .i64 0), (Sl.v Sl.nil), (Sl.v Sl.nil), (Sl.v Sl.nil)] 48 fun a vw15=>stw vw15 a [(Value.string zz29), (Value.int .i64 zz2c), (Value.int .i64 zz2d), (Value.int .i64 zz2e), (Sl.v zz28), (Sl.v zz2b), (Sl.v zz2a)] fun vw16=>∃ (zz3f : ByteArray) (zz3i : Int) (zz3j : Int) (zz3k : Int) (zz3e : Sl) (zz3h : Sl) (zz3g : Sl), (ldc vw16 a [(Value.string zz3f), (Value.int .i64 zz3i), (Value.int .i64 zz3j), (Value.int .i64 zz3k), (Sl.v zz3e), (Sl.v zz3h), (Sl.v zz3g)]) ∧ callS Tryz.prog 62 [(Value.agg #[(Value.string zz3f), (Value.int .i64 zz3i), (Value.int .i64 zz3j), (Value.int .i64 zz3k), (Sl.v zz3e), (Sl.v zz3h), (Sl.v zz3g)])] vw16 fun v19 vw18=>∃ (zz4v : ByteArray) (zz4y : Int) (zz4z : Int) (zz50 : Int) (zz4u : Sl) (zz4x : Sl) (zz4w : Sl), v19 = (Value.agg #[(Value.string zz4v), (Value.int .i64 zz4y), (Value.int .i64 zz4z), (Value.int .i64 zz50), (Sl.v zz4u), (Sl.v zz4x), (Sl.v zz4w)]) ∧ newS vw18 [(Value.string zz4v), (Value.int .i64 zz4y), (Value.int .i64 zz4z), (Value.int .i64 zz50), (Sl.v zz4u), (Sl.v zz4x), (Sl.v zz4w)] 48 fun a20 vw21=>appS Tryz.prog 22 22 out (Sl.v (Sl.mk (some a20) 1 1)) vw21 fun t19 vw22=>nxt t19 vw22) ∧ (ok = false → callS Tryz.prog 74 [(Sl.v out), (Value.func (.func 75) #[] #[])] vw2 fun v24 vw23=>v24 = (Value.tuple #[]) ∧ callS Tryz.prog 78 [(Sl.v out)] vw23 fun v27 vw26=>∃ (t23 : Sl), v27 = (Sl.v t23) ∧ R t23 vw26))
set_option maxHeartbeats 8000000 in
theorem catalog_Catalog_All.sound (c : Option Addr) (w : World) (R : Sl → World → Prop) (h : catalog_Catalog_All c w R) : callS Tryz.prog 31 [(Value.pointer c)] w (fun v w'=>∃ (r0 : Sl), v = (Sl.v r0) ∧ R r0 w') := by
 unfold catalog_Catalog_All at h
 refine calls_of_vc 24 rfl Tryz.func31 rfl (by kernel_rfl) (by simp) ?_
 refine Vc.seq ?_
 refine Vc.region ?_
 refine vcL_pure rfl rfl (Sl.v Sl.nil) (fun w=>by kernel_rfl) ?_
 refine vcL_nil ?_
 refine Vc.seq ?_
 refine Vc.region ?_
 refine vcL_pure rfl rfl (Sl.v Sl.nil) (fun w=>by kernel_rfl) ?_
 refine vcL_nil ?_
 refine Vc.seq ?_
 refine Vc.seq ?_
 refine Vc.region ?_
 refine vcL_pure rfl rfl (Value.pointer c) (fun w=>by kernel_rfl) ?_
 obtain ⟨p, hp, h⟩ := h
 refine vcL_pure rfl rfl (Value.pointer (some p)) (fun w=>by exact exec_nilCheck rfl (by kernel_rfl) (hp) w) ?_
 refine vcL_pure rfl rfl (Value.pointer (some p)) (fun w=>by kernel_rfl) ?_
 obtain ⟨t9, hc, h⟩ := h
 refine vcL_val rfl rfl (Value.map t9) (exec_load rfl (by kernel_rfl) (run_load1 (fun w=>by kernel_rfl) ((hc)))) ?_
 refine vcL_eff rfl (opVC_sem rfl (c := Instr.range 101 (Value.map t9)) (by kernel_rfl) (semS.mono h fun v vw h=>?_))
 obtain ⟨it, rfl, h⟩ := h
 refine vcL_nil ?_
 refine Vc.block ?_
 obtain ⟨vI, mu, h, hr⟩ := h
 refine Vc.loopJ (σ := Sl) [3] [5, 11, 12, 13, 14, 15, 16, 17, 18, 19] (fun s=>[(3, (Sl.v s))]) (fun s w=>vI s w) (fun s w=>mu s w) Sl.nil h (fun _ => rfl) (by kernel_rfl) ?_
 intro out vw1 j h
 have h := hr out vw1 h
 refine Vc.seq ?_
 refine Vc.region ?_
 refine vcL_eff rfl (opVC_sem rfl (c := Instr.next (Value.pointer (some it)) false 0) (by kernel_rfl) (semS.mono h fun v3 vw2 h=>?_))
 obtain ⟨ok, key_name, zz2f, zz2g, zz2h, zz1a, zz1d, zz1e, zz1f, zz19, zz1c, zz1b, rfl, h⟩ := h
 refine vcL_pure rfl rfl (Value.bool ok) (fun w=>by cases ok <;> kernel_rfl) ?_
 refine vcL_nil ?_
 refine Vc.seq ?_
 refine Vc.cond ok (by kernel_rfl) (fun hb=>?_) (fun hb=>?_)
 ·have hq := h.1 (hb)
  clear h
  subst hb
  have h := hq
  clear hq
  refine Vc.skip ?_
  refine Vc.block ?_
  refine Vc.seq ?_
  refine Vc.region ?_
  obtain ⟨key_name4, zz4r, zz4s, zz4t, zz29, zz2c, zz2d, zz2e, zz28, zz2b, zz2a, hl, h⟩ := h
  refine vcL_val rfl rfl (Value.tuple #[(Value.agg #[(Value.string key_name4), (Value.int .i64 zz4r), (Value.int .i64 zz4s), (Value.int .i64 zz4t)]), (Value.agg #[(Value.string zz29), (Value.int .i64 zz2c), (Value.int .i64 zz2d), (Value.int .i64 zz2e), (Sl.v zz28), (Sl.v zz2b), (Sl.v zz2a)])]) (exec_sem (c := Instr.entry (Value.pointer (some it))) (by kernel_rfl) ((hl) _ (Ext.refl _))) ?_
  refine vcL_pure rfl rfl (Value.agg #[(Value.string zz29), (Value.int .i64 zz2c), (Value.int .i64 zz2d), (Value.int .i64 zz2e), (Sl.v zz28), (Sl.v zz2b), (Sl.v zz2a)]) (fun w=>by kernel_rfl) ?_
  refine vcL_eff rfl (opVC_new rfl (fun a=>Value.pointer (some a)) (by kernel_rfl) (newS.mono h fun a vw15 hx h=>?_))
  refine vcL_eff rfl (opVC_store rfl rfl (a := a) (by kernel_rfl) (v := (Value.agg #[(Value.string zz29), (Value.int .i64 zz2c), (Value.int .i64 zz2d), (Value.int .i64 zz2e), (Sl.v zz28), (Sl.v zz2b), (Sl.v zz2a)])) (by kernel_rfl) [(Value.string zz29), (Value.int .i64 zz2c), (Value.int .i64 zz2d), (Value.int .i64 zz2e), (Sl.v zz28), (Sl.v zz2b), (Sl.v zz2a)] (by kernel_rfl) (fun w=>by kernel_rfl) (by kernel_rfl) (stw.mono h fun vw16 h=>?_))
  refine vcL_nil ?_
  refine Vc.region ?_
  refine vcL_pure rfl rfl (Sl.v out) (fun w=>by kernel_rfl) ?_
  obtain ⟨zz3f, zz3i, zz3j, zz3k, zz3e, zz3h, zz3g, hc17, h⟩ := h
  refine vcL_val rfl rfl (Value.agg #[(Value.string zz3f), (Value.int .i64 zz3i), (Value.int .i64 zz3j), (Value.int .i64 zz3k), (Sl.v zz3e), (Sl.v zz3h), (Sl.v zz3g)]) (exec_load rfl (by kernel_rfl) (run_loadN (fun w=>by kernel_rfl) (fun w=>by kernel_rfl) ((hc17)))) ?_
  refine vcL_eff rfl (opVC_call rfl (by kernel_rfl) (callS.mono h fun v19 vw18 h=>?_))
  obtain ⟨zz4v, zz4y, zz4z, zz50, zz4u, zz4x, zz4w, rfl, h⟩ := h
  refine vcL_eff rfl (opVC_new rfl (fun a=>Value.slice (some a) 1 1) (by kernel_rfl) (newS.mono h fun a20 vw21 hx h=>?_))
  refine vcL_eff rfl (opVC_sem rfl (c := Builtin.append_ #[22, 22] 22 #[(Sl.v out), (Sl.v (Sl.mk (some a20) 1 1))]) (by kernel_rfl) (appS.elim (ty := 22) h fun t19 vw22 h=>?_))
  refine vcL_pure rfl rfl (Sl.v t19) (fun w=>by kernel_rfl) ?_
  refine vcL_nil ?_
  exact ⟨t19, 22, ⟨rfl, by kernel_rfl, by kernel_rfl, by kernel_rfl⟩, h⟩
 ·have hq := h.2 (hb)
  clear h
  subst hb
  have h := hq
  clear hq
  refine Vc.exit ?_
  refine outOf_hit ?_
  refine Vc.seq ?_
  refine Vc.region ?_
  refine vcL_pure rfl rfl (Sl.v out) (fun w=>by kernel_rfl) ?_
  refine vcL_eff rfl (opVC_call rfl (by kernel_rfl) (callS.mono h fun v24 vw23 h=>?_))
  obtain ⟨rfl, h⟩ := h
  refine vcL_nil ?_
  refine Vc.seq ?_
  refine Vc.region ?_
  refine vcL_pure rfl rfl (Sl.v out) (fun w=>by kernel_rfl) ?_
  refine vcL_eff rfl (opVC_call rfl (by kernel_rfl) (callS.mono h fun v27 vw26 h=>?_))
  obtain ⟨t23, rfl, h⟩ := h
  refine vcL_pure rfl rfl (Sl.v t23) (fun w=>by kernel_rfl) ?_
  refine vcL_nil ?_
  refine Vc.ret ?_
  refine outs_ret ?_
  refine done_mk (Sl.v t23) (res1 (resC_tmp (by kernel_rfl))) ?_
  exact ⟨t23, rfl, h⟩
theorem catalog_Catalog_All.go {c : Option Addr} {w : World} {k : Value → World → Prop} (h : catalog_Catalog_All c w fun r0 w'=>k (Sl.v r0) w') : callS Tryz.prog 31 [(Value.pointer c)] w k := (catalog_Catalog_All.sound c w _ h).mono (by rintro _ _ ⟨r0, rfl, h⟩; exact h)
def halyardref03_In (l : Sl) (zz0 : Int) (zz1 : Int) (zz2 : Int) (w : World) (R : Bool → World → Prop) : Prop :=
 newS w [(Value.int .i64 zz0), (Value.int .i64 zz1), (Value.int .i64 zz2)] 30 fun a vw=>callS Tryz.prog 79 [(Sl.v l)] vw fun v vw1=>∃ (t6 : Bool), v = (Value.bool t6) ∧ ∃ (zz10 : Int) (zz11 : Int) (zz12 : Int), grd t6 (ldc vw1 a [(Value.int .i64 zz10), (Value.int .i64 zz11), (Value.int .i64 zz12)]) ∧ gCall t6 (fun (t9 : Bool) (vw2 : World)=>bnd (t6 && t9) fun (b : Bool)=>∃ (zz1g : Int) (zz1h : Int) (zz1i : Int), grd b (ldc vw2 a [(Value.int .i64 zz1g), (Value.int .i64 zz1h), (Value.int .i64 zz1i)]) ∧ gCall b (fun (t14 : Int) (vw6 : World)=>gCall b (fun (t15 : Bool) (vw11 : World)=>R (b && t15) vw11) (fun q=>callS Tryz.prog 81 [(Sl.v l), (Value.int .i64 t14)] vw6 fun v12 vw11=>∃ (t15 : Bool), v12 = (Value.bool t15) ∧ q t15 vw11) (fun q=>q false vw6)) (fun q=>callS Tryz.prog 82 [(Value.agg #[(Value.int .i64 zz1g), (Value.int .i64 zz1h), (Value.int .i64 zz1i)])] vw2 fun v7 vw6=>∃ (t14 : Int), v7 = (Value.int .i64 t14) ∧ q t14 vw6) (fun q=>q 0 vw2)) (fun q=>callS Tryz.prog 80 [(Value.agg #[(Value.int .i64 zz10), (Value.int .i64 zz11), (Value.int .i64 zz12)])] vw1 fun v3 vw2=>∃ (t9 : Bool), v3 = (Value.bool t9) ∧ q t9 vw2) (fun q=>q false vw1)
set_option maxHeartbeats 8000000 in
theorem halyardref03_In.sound (l : Sl) (zz0 : Int) (zz1 : Int) (zz2 : Int) (w : World) (R : Bool → World → Prop) (h : halyardref03_In l zz0 zz1 zz2 w R) : callS Tryz.prog 32 [(Sl.v l), (Value.agg #[(Value.int .i64 zz0), (Value.int .i64 zz1), (Value.int .i64 zz2)])] w (fun v w'=>∃ (r0 : Bool), v = (Value.bool r0) ∧ R r0 w') := by
 unfold halyardref03_In at h
 refine calls_of_vc 17 rfl Tryz.func32 rfl (by kernel_rfl) (by simp) ?_
 refine Vc.seq ?_
 refine Vc.region ?_
 refine vcL_eff rfl (opVC_new rfl (fun a=>Value.pointer (some a)) (by kernel_rfl) (newS.mono h fun a vw hx h=>?_))
 refine vcL_pure rfl rfl (Value.bool false) (fun w=>by kernel_rfl) ?_
 refine vcL_nil ?_
 refine Vc.seq ?_
 refine Vc.region ?_
 refine vcL_pure rfl rfl (Sl.v l) (fun w=>by kernel_rfl) ?_
 refine vcL_eff rfl (opVC_call rfl (by kernel_rfl) (callS.mono h fun v vw1 h=>?_))
 obtain ⟨t6, rfl, h⟩ := h
 refine vcL_pure rfl rfl (Value.bool t6) (fun w=>by kernel_rfl) ?_
 obtain ⟨zz10, zz11, zz12, hc, h⟩ := h
 refine vcL_guard t6 (wanted_g (d := 7) rfl (by kernel_rfl) t6 (by kernel_rfl) t6 (eqT t6)) rfl (Value.agg #[(Value.int .i64 zz10), (Value.int .i64 zz11), (Value.int .i64 zz12)]) (fun hg=>by subst hg; exact exec_load rfl (by kernel_rfl) (run_loadN (fun w=>by kernel_rfl) (fun w=>by kernel_rfl) ((hc rfl)))) ?_
 obtain ⟨vJ, hJ, h⟩ := gCall_elim h
 refine vcL_effJ (σ := Bool) t6 (wanted_g (d := 7) rfl (by kernel_rfl) t6 (by kernel_rfl) t6 (eqT t6)) rfl (fun s w=>vJ s w) (fun s=>(Value.bool s)) ?_ (fun hg=>opVC_call rfl (by subst hg; kernel_rfl) (callS.mono (h.1 hg) fun v3 vw2 hq=>?_)) (fun hg=>⟨false, h.2 hg⟩)
 ·intro t9 vw2 h
  subst hJ
  refine vcL_pure rfl rfl (Value.bool (t6 && t9)) (fun w=>by cases t6 <;> kernel_rfl) ?_
  obtain ⟨b, hb⟩ : ∃ y, y = (t6 && t9) := ⟨_, rfl⟩
  have h := h b hb
  refine vcL_pure rfl rfl (Value.bool b) (fun w=>by rw [hb]; kernel_rfl) ?_
  refine vcL_guardP b (wanted_g (d := 11) rfl (by kernel_rfl) b (by kernel_rfl) b (eqT b)) rfl (Sl.v l) (fun hg w=>by subst hg; kernel_rfl) ?_
  obtain ⟨zz1g, zz1h, zz1i, hc5, h⟩ := h
  refine vcL_guard b (wanted_g (d := 11) rfl (by kernel_rfl) b (by kernel_rfl) b (eqT b)) rfl (Value.agg #[(Value.int .i64 zz1g), (Value.int .i64 zz1h), (Value.int .i64 zz1i)]) (fun hg=>by subst hg; exact exec_load rfl (by kernel_rfl) (run_loadN (fun w=>by kernel_rfl) (fun w=>by kernel_rfl) ((hc5 rfl)))) ?_
  obtain ⟨vJ9, hJ10, h⟩ := gCall_elim h
  refine vcL_effJ (σ := Int) b (wanted_g (d := 11) rfl (by kernel_rfl) b (by kernel_rfl) b (eqT b)) rfl (fun s w=>vJ9 s w) (fun s=>(Value.int .i64 s)) ?_ (fun hg=>opVC_call rfl (by subst hg; kernel_rfl) (callS.mono (h.1 hg) fun v7 vw6 hq=>?_)) (fun hg=>⟨0, h.2 hg⟩)
  ·intro t14 vw6 h
   subst hJ10
   obtain ⟨vJ14, hJ15, h⟩ := gCall_elim h
   refine vcL_effJ (σ := Bool) b (wanted_g (d := 11) rfl (by kernel_rfl) b (by kernel_rfl) b (eqT b)) rfl (fun s w=>vJ14 s w) (fun s=>(Value.bool s)) ?_ (fun hg=>opVC_call rfl (by subst hg; kernel_rfl) (callS.mono (h.1 hg) fun v12 vw11 hq=>?_)) (fun hg=>⟨false, h.2 hg⟩)
   ·intro t15 vw11 h
    subst hJ15
    refine vcL_pure rfl rfl (Value.bool (b && t15)) (fun w=>by cases b <;> kernel_rfl) ?_
    refine vcL_pure rfl rfl (Value.bool (b && t15)) (fun w=>by kernel_rfl) ?_
    refine vcL_nil ?_
    refine Vc.ret ?_
    refine outs_ret ?_
    refine done_mk (Value.bool (b && t15)) (res1 (resC_tmp (by kernel_rfl))) ?_
    exact ⟨(b && t15), rfl, h⟩
   ·obtain ⟨t15, rfl, hq⟩ := hq
    exact ⟨t15, rfl, hq⟩
  ·obtain ⟨t14, rfl, hq⟩ := hq
   exact ⟨t14, rfl, hq⟩
 ·obtain ⟨t9, rfl, hq⟩ := hq
  exact ⟨t9, rfl, hq⟩
theorem halyardref03_In.go {l : Sl} {zz0 : Int} {zz1 : Int} {zz2 : Int} {w : World} {k : Value → World → Prop} (h : halyardref03_In l zz0 zz1 zz2 w fun r0 w'=>k (Value.bool r0) w') : callS Tryz.prog 32 [(Sl.v l), (Value.agg #[(Value.int .i64 zz0), (Value.int .i64 zz1), (Value.int .i64 zz2)])] w k := (halyardref03_In.sound l zz0 zz1 zz2 w _ h).mono (by rintro _ _ ⟨r0, rfl, h⟩; exact h)
def halyardref02_Compare (zz3 : Int) (zz4 : Int) (zz5 : Int) (zz6 : Int) (zz7 : Int) (zz8 : Int) (w : World) (R : Int → World → Prop) : Prop :=
 newS w [(Value.int .i64 zz3), (Value.int .i64 zz4), (Value.int .i64 zz5)] 30 fun a vw=>newS vw [(Value.int .i64 zz6), (Value.int .i64 zz7), (Value.int .i64 zz8)] 30 fun a1 vw2=>∃ (t9 : Int), (ldc vw2 a [(Value.int .i64 t9)]) ∧ ∃ (t11 : Int), (ldc vw2 (a.add 1) [(Value.int .i64 t11)]) ∧ ∃ (t13 : Int), (ldc vw2 (a.add 2) [(Value.int .i64 t13)]) ∧ newS vw2 [(Value.int .i64 t9), (Value.int .i64 t11), (Value.int .i64 t13)] 3 fun a5 vw6=>∃ (t16 : Int), (ldc vw6 a1 [(Value.int .i64 t16)]) ∧ ∃ (t18 : Int), (ldc vw6 (a1.add 1) [(Value.int .i64 t18)]) ∧ ∃ (t20 : Int), (ldc vw6 (a1.add 2) [(Value.int .i64 t20)]) ∧ newS vw6 [(Value.int .i64 t16), (Value.int .i64 t18), (Value.int .i64 t20)] 3 fun a10 vw11=>loop1 0 vw11 fun i vw12 nxt=>((i < 3 → bnd vw12.drew fun (vw13 : World)=>∃ (ad : Addr), ((Sl.mk (some a5) 3 3).a = some ad ∧ (0 : Int) ≤ i ∧ i < ((Sl.mk (some a5) 3 3).len : Int)) ∧ ∃ (t29 : Int), (ldc vw13 (ad.add (i.toNat * 1)) [(Value.int .i64 t29)]) ∧ ∃ (ad15 : Addr), ((Sl.mk (some a10) 3 3).a = some ad15 ∧ (0 : Int) ≤ i ∧ i < ((Sl.mk (some a10) 3 3).len : Int)) ∧ ∃ (t33 : Int), (ldc vw13 (ad15.add (i.toNat * 1)) [(Value.int .i64 t33)]) ∧ ((t29 < t33 → R (-1) vw13) ∧ (¬ (t29 < t33) → bnd vw13.drew fun (vw18 : World)=>∃ (ad19 : Addr), ((Sl.mk (some a5) 3 3).a = some ad19 ∧ (0 : Int) ≤ i ∧ i < ((Sl.mk (some a5) 3 3).len : Int)) ∧ ∃ (t38 : Int), (ldc vw18 (ad19.add (i.toNat * 1)) [(Value.int .i64 t38)]) ∧ ∃ (ad22 : Addr), ((Sl.mk (some a10) 3 3).a = some ad22 ∧ (0 : Int) ≤ i ∧ i < ((Sl.mk (some a10) 3 3).len : Int)) ∧ ∃ (t42 : Int), (ldc vw18 (ad22.add (i.toNat * 1)) [(Value.int .i64 t42)]) ∧ ((t42 < t38 → R 1 vw18) ∧ (¬ (t42 < t38) → nxt (wrapI (i + 1)) vw18))))) ∧ (¬ (i < 3) → R 0 vw12))
set_option maxHeartbeats 8000000 in
theorem halyardref02_Compare.sound (zz3 : Int) (zz4 : Int) (zz5 : Int) (zz6 : Int) (zz7 : Int) (zz8 : Int) (w : World) (R : Int → World → Prop) (h : halyardref02_Compare zz3 zz4 zz5 zz6 zz7 zz8 w R) : callS Tryz.prog 33 [(Value.agg #[(Value.int .i64 zz3), (Value.int .i64 zz4), (Value.int .i64 zz5)]), (Value.agg #[(Value.int .i64 zz6), (Value.int .i64 zz7), (Value.int .i64 zz8)])] w (fun v w'=>∃ (r0 : Int), v = (Value.int .i64 r0) ∧ R r0 w') := by
 unfold halyardref02_Compare at h
 refine calls_of_vc 44 rfl Tryz.func33 rfl (by kernel_rfl) (by simp) ?_
 refine Vc.seq ?_
 refine Vc.region ?_
 refine vcL_eff rfl (opVC_new rfl (fun a=>Value.pointer (some a)) (by kernel_rfl) (newS.mono h fun a vw hx h=>?_))
 refine vcL_eff rfl (opVC_new rfl (fun a=>Value.pointer (some a)) (by kernel_rfl) (newS.mono h fun a1 vw2 hx h=>?_))
 refine vcL_pure rfl rfl (Value.int .i64 0) (fun w=>by kernel_rfl) ?_
 refine vcL_nil ?_
 refine Vc.seq ?_
 refine Vc.region ?_
 refine vcL_pure rfl rfl (Value.pointer (some a)) (fun w=>by kernel_rfl) ?_
 obtain ⟨t9, hc, h⟩ := h
 refine vcL_val rfl rfl (Value.int .i64 t9) (exec_load rfl (by kernel_rfl) (run_load1 (fun w=>by kernel_rfl) ((hc)))) ?_
 refine vcL_pure rfl rfl (Value.pointer (some (a.add 1))) (fun w=>by kernel_rfl) ?_
 obtain ⟨t11, hc3, h⟩ := h
 refine vcL_val rfl rfl (Value.int .i64 t11) (exec_load rfl (by kernel_rfl) (run_load1 (fun w=>by kernel_rfl) ((hc3)))) ?_
 refine vcL_pure rfl rfl (Value.pointer (some (a.add 2))) (fun w=>by kernel_rfl) ?_
 obtain ⟨t13, hc4, h⟩ := h
 refine vcL_val rfl rfl (Value.int .i64 t13) (exec_load rfl (by kernel_rfl) (run_load1 (fun w=>by kernel_rfl) ((hc4)))) ?_
 refine vcL_eff rfl (opVC_new rfl (fun a=>Value.slice (some a) 3 3) (by kernel_rfl) (newS.mono h fun a5 vw6 hx h=>?_))
 refine vcL_pure rfl rfl (Sl.v (Sl.mk (some a5) 3 3)) (fun w=>by kernel_rfl) ?_
 refine vcL_nil ?_
 refine Vc.seq ?_
 refine Vc.region ?_
 refine vcL_pure rfl rfl (Value.pointer (some a1)) (fun w=>by kernel_rfl) ?_
 obtain ⟨t16, hc7, h⟩ := h
 refine vcL_val rfl rfl (Value.int .i64 t16) (exec_load rfl (by kernel_rfl) (run_load1 (fun w=>by kernel_rfl) ((hc7)))) ?_
 refine vcL_pure rfl rfl (Value.pointer (some (a1.add 1))) (fun w=>by kernel_rfl) ?_
 obtain ⟨t18, hc8, h⟩ := h
 refine vcL_val rfl rfl (Value.int .i64 t18) (exec_load rfl (by kernel_rfl) (run_load1 (fun w=>by kernel_rfl) ((hc8)))) ?_
 refine vcL_pure rfl rfl (Value.pointer (some (a1.add 2))) (fun w=>by kernel_rfl) ?_
 obtain ⟨t20, hc9, h⟩ := h
 refine vcL_val rfl rfl (Value.int .i64 t20) (exec_load rfl (by kernel_rfl) (run_load1 (fun w=>by kernel_rfl) ((hc9)))) ?_
 refine vcL_eff rfl (opVC_new rfl (fun a=>Value.slice (some a) 3 3) (by kernel_rfl) (newS.mono h fun a10 vw11 hx h=>?_))
 refine vcL_pure rfl rfl (Sl.v (Sl.mk (some a10) 3 3)) (fun w=>by kernel_rfl) ?_
 refine vcL_nil ?_
 refine Vc.seq ?_
 refine Vc.seq ?_
 refine Vc.region ?_
 refine vcL_pure rfl rfl (Value.int .i64 0) (fun w=>by kernel_rfl) ?_
 refine vcL_nil ?_
 refine Vc.block ?_
 obtain ⟨vI, mu, h, hr⟩ := h
 refine Vc.loopJ (σ := Int) [7] [4, 22, 23, 24, 25, 26, 27, 28, 29, 30, 31, 32, 33, 34, 35, 36, 37, 38, 39, 40, 41, 42, 43] (fun s=>[(7, (Value.int .i64 s))]) (fun s w=>vI s w) (fun s w=>mu s w) 0 h (fun _ => rfl) (by kernel_rfl) ?_
 intro i vw12 j h
 have h := hr i vw12 h
 refine Vc.seq ?_
 refine Vc.seq ?_
 refine Vc.region ?_
 refine vcL_purs 2 [(23, (Value.bool (decide (i < 3)))), (22, (Value.int .i64 i))] (by kernel_rfl) ?_
 refine vcL_nil ?_
 refine Vc.cond (decide (i < 3)) (by kernel_rfl) (fun hb=>?_) (fun hb=>?_)
 ·have h := h.1 (of_decide_eq_true hb)
  refine Vc.skip ?_
  refine Vc.seq ?_
  refine Vc.block ?_
  refine Vc.seq ?_
  refine Vc.seq ?_
  obtain ⟨vw13, hvw13⟩ : ∃ y, y = vw12.drew := ⟨_, rfl⟩
  have h := h vw13 hvw13
  refine Vc.draw (by kernel_rfl) (fun i=>!(memN [] i)) (.pur 0 (.pur 1 (.pur 2 (.val 3 (.pur 4 (.pur 5 (.pur 6 (.val 7 (.pur 8 .fin))))))))) (by kernel_rfl) ?_
  rw [← hvw13]
  clear hvw13
  refine vcS_pure rfl rfl rfl (Sl.v (Sl.mk (some a5) 3 3)) (fun w=>by kernel_rfl) ?_
  refine vcS_pure rfl rfl rfl (Value.int .i64 i) (fun w=>by kernel_rfl) ?_
  obtain ⟨ad, hi, h⟩ := h
  refine vcS_pure rfl rfl rfl (Value.pointer (some (ad.add (i.toNat * 1)))) (fun w=>by exact exec_indexAt (s := (Sl.mk (some a5) 3 3)) (el := 3) rfl (by kernel_rfl) (by kernel_rfl) (by kernel_rfl) (fun w=>by kernel_rfl) (hi).1 (hi).2.1 (hi).2.2 w) ?_
  obtain ⟨t29, hc14, h⟩ := h
  refine vcS_val rfl rfl rfl (Value.int .i64 t29) (fun w' hx=>exec_load rfl (by kernel_rfl) (run_load1 (fun w=>by kernel_rfl) ((hc14).ext hx))) ?_
  refine vcS_pure rfl rfl rfl (Sl.v (Sl.mk (some a10) 3 3)) (fun w=>by kernel_rfl) ?_
  refine vcS_pure rfl rfl rfl (Value.int .i64 i) (fun w=>by kernel_rfl) ?_
  obtain ⟨ad15, hi16, h⟩ := h
  refine vcS_pure rfl rfl rfl (Value.pointer (some (ad15.add (i.toNat * 1)))) (fun w=>by exact exec_indexAt (s := (Sl.mk (some a10) 3 3)) (el := 3) rfl (by kernel_rfl) (by kernel_rfl) (by kernel_rfl) (fun w=>by kernel_rfl) (hi16).1 (hi16).2.1 (hi16).2.2 w) ?_
  obtain ⟨t33, hc17, h⟩ := h
  refine vcS_val rfl rfl rfl (Value.int .i64 t33) (fun w' hx=>exec_load rfl (by kernel_rfl) (run_load1 (fun w=>by kernel_rfl) ((hc17).ext hx))) ?_
  refine vcS_pure rfl rfl rfl (Value.bool (decide (t29 < t33))) (fun w=>by kernel_rfl) ?_
  refine vcS_fin ?_
  refine Vc.cond (decide (t29 < t33)) (by kernel_rfl) (fun hb=>?_) (fun hb=>?_)
  ·have h := h.1 (of_decide_eq_true hb)
   refine Vc.seq ?_
   refine Vc.region ?_
   refine vcL_pure rfl rfl (Value.int .i64 (-1)) (fun w=>by kernel_rfl) ?_
   refine vcL_nil ?_
   refine Vc.ret ?_
   refine outOf_ret ?_
   refine outOf_ret ?_
   refine outs_ret ?_
   refine done_mk (Value.int .i64 (-1)) (res1 (resC_tmp (by kernel_rfl))) ?_
   exact ⟨(-1), rfl, h⟩
  ·have h := h.2 (of_decide_eq_false hb)
   refine Vc.skip ?_
   refine Vc.seq ?_
   obtain ⟨vw18, hvw18⟩ : ∃ y, y = vw13.drew := ⟨_, rfl⟩
   have h := h vw18 hvw18
   refine Vc.draw (by kernel_rfl) (fun i=>!(memN [] i)) (.pur 0 (.pur 1 (.pur 2 (.val 3 (.pur 4 (.pur 5 (.pur 6 (.val 7 (.pur 8 .fin))))))))) (by kernel_rfl) ?_
   rw [← hvw18]
   clear hvw18
   refine vcS_pure rfl rfl rfl (Sl.v (Sl.mk (some a5) 3 3)) (fun w=>by kernel_rfl) ?_
   refine vcS_pure rfl rfl rfl (Value.int .i64 i) (fun w=>by kernel_rfl) ?_
   obtain ⟨ad19, hi20, h⟩ := h
   refine vcS_pure rfl rfl rfl (Value.pointer (some (ad19.add (i.toNat * 1)))) (fun w=>by exact exec_indexAt (s := (Sl.mk (some a5) 3 3)) (el := 3) rfl (by kernel_rfl) (by kernel_rfl) (by kernel_rfl) (fun w=>by kernel_rfl) (hi20).1 (hi20).2.1 (hi20).2.2 w) ?_
   obtain ⟨t38, hc21, h⟩ := h
   refine vcS_val rfl rfl rfl (Value.int .i64 t38) (fun w' hx=>exec_load rfl (by kernel_rfl) (run_load1 (fun w=>by kernel_rfl) ((hc21).ext hx))) ?_
   refine vcS_pure rfl rfl rfl (Sl.v (Sl.mk (some a10) 3 3)) (fun w=>by kernel_rfl) ?_
   refine vcS_pure rfl rfl rfl (Value.int .i64 i) (fun w=>by kernel_rfl) ?_
   obtain ⟨ad22, hi23, h⟩ := h
   refine vcS_pure rfl rfl rfl (Value.pointer (some (ad22.add (i.toNat * 1)))) (fun w=>by exact exec_indexAt (s := (Sl.mk (some a10) 3 3)) (el := 3) rfl (by kernel_rfl) (by kernel_rfl) (by kernel_rfl) (fun w=>by kernel_rfl) (hi23).1 (hi23).2.1 (hi23).2.2 w) ?_
   obtain ⟨t42, hc24, h⟩ := h
   refine vcS_val rfl rfl rfl (Value.int .i64 t42) (fun w' hx=>exec_load rfl (by kernel_rfl) (run_load1 (fun w=>by kernel_rfl) ((hc24).ext hx))) ?_
   refine vcS_pure rfl rfl rfl (Value.bool (decide (t42 < t38))) (fun w=>by kernel_rfl) ?_
   refine vcS_fin ?_
   refine Vc.cond (decide (t42 < t38)) (by kernel_rfl) (fun hb=>?_) (fun hb=>?_)
   ·have h := h.1 (of_decide_eq_true hb)
    refine Vc.seq ?_
    refine Vc.region ?_
    refine vcL_pure rfl rfl (Value.int .i64 1) (fun w=>by kernel_rfl) ?_
    refine vcL_nil ?_
    refine Vc.ret ?_
    refine outOf_ret ?_
    refine outOf_ret ?_
    refine outs_ret ?_
    refine done_mk (Value.int .i64 1) (res1 (resC_tmp (by kernel_rfl))) ?_
    exact ⟨1, rfl, h⟩
   ·have h := h.2 (of_decide_eq_false hb)
    refine Vc.skip ?_
    refine Vc.region ?_
    refine vcL_purs 3 [(7, (Value.int .i64 (wrapI (i + 1)))), (25, (Value.int .i64 (wrapI (i + 1)))), (24, (Value.int .i64 i))] (by kernel_rfl) ?_
    refine vcL_nil ?_
    exact ⟨(wrapI (i + 1)), 47, ⟨rfl, by kernel_rfl, by kernel_rfl, by kernel_rfl⟩, h⟩
 ·have h := h.2 (of_decide_eq_false hb)
  refine Vc.exit ?_
  refine outOf_hit ?_
  refine Vc.seq ?_
  refine Vc.region ?_
  refine vcL_pure rfl rfl (Value.int .i64 0) (fun w=>by kernel_rfl) ?_
  refine vcL_nil ?_
  refine Vc.ret ?_
  refine outs_ret ?_
  refine done_mk (Value.int .i64 0) (res1 (resC_tmp (by kernel_rfl))) ?_
  exact ⟨0, rfl, h⟩
theorem halyardref02_Compare.go {zz3 : Int} {zz4 : Int} {zz5 : Int} {zz6 : Int} {zz7 : Int} {zz8 : Int} {w : World} {k : Value → World → Prop} (h : halyardref02_Compare zz3 zz4 zz5 zz6 zz7 zz8 w fun r0 w'=>k (Value.int .i64 r0) w') : callS Tryz.prog 33 [(Value.agg #[(Value.int .i64 zz3), (Value.int .i64 zz4), (Value.int .i64 zz5)]), (Value.agg #[(Value.int .i64 zz6), (Value.int .i64 zz7), (Value.int .i64 zz8)])] w k := (halyardref02_Compare.sound zz3 zz4 zz5 zz6 zz7 zz8 w _ h).mono (by rintro _ _ ⟨r0, rfl, h⟩; exact h)
def halyardref05_May (zza : ByteArray) (zzd : Int) (zze : Int) (zzf : Int) (zz9 : Sl) (zzc : Sl) (zzb : Sl) (w : World) (R : Bool → World → Prop) : Prop :=
 newS w [(Value.string zza), (Value.int .i64 zzd), (Value.int .i64 zze), (Value.int .i64 zzf), (Sl.v zz9), (Sl.v zzc), (Sl.v zzb)] 48 fun a vw=>∃ (t5 : ByteArray), (ldc vw a [(Value.string t5)]) ∧ callS Tryz.prog 83 [(Value.string t5)] vw fun v vw1=>∃ (t6 : Bool), v = (Value.bool t6) ∧ bnd (!t6) fun (b : Bool)=>∃ (zz38 : Int) (zz39 : Int) (zz3a : Int), grd (!b) (ldc vw1 (a.add 1) [(Value.int .i64 zz38), (Value.int .i64 zz39), (Value.int .i64 zz3a)]) ∧ gCall (!b) (fun (t11 : Bool) (vw3 : World)=>bnd (b || (!t11)) fun (b6 : Bool)=>∃ (t16 : Sl), grd (!b6) (ldc vw3 (a.add 4) [(Sl.v t16)]) ∧ gCall (!b6) (fun (t17 : Bool) (vw8 : World)=>bnd (b6 || (!t17)) fun (b13 : Bool)=>∃ (t22 : Sl), grd (!b13) (ldc vw8 (a.add 5) [(Sl.v t22)]) ∧ gCall (!b13) (fun (t23 : Bool) (vw15 : World)=>bnd (b13 || (!t23)) fun (b20 : Bool)=>∃ (t28 : Sl), grd (!b20) (ldc vw15 (a.add 6) [(Sl.v t28)]) ∧ gCall (!b20) (fun (t29 : Bool) (vw22 : World)=>(((b20 || (!t29)) = true → R false vw22) ∧ ((b20 || (!t29)) = false → ∃ (t33 : Sl), (ldc vw22 (a.add 4) [(Sl.v t33)]) ∧ ∃ (t35 : Sl), (ldc vw22 (a.add 5) [(Sl.v t35)]) ∧ callS Tryz.prog 85 [(Sl.v t33), (Sl.v t35)] vw22 fun v30 vw29=>∃ (t36 : Bool), v30 = (Value.bool t36) ∧ ∃ (t39 : Sl), grd t36 (ldc vw29 (a.add 4) [(Sl.v t39)]) ∧ ∃ (t41 : Sl), grd t36 (ldc vw29 (a.add 6) [(Sl.v t41)]) ∧ gCall t36 (fun (t42 : Bool) (vw34 : World)=>bnd (t36 && t42) fun (b39 : Bool)=>∃ (t46 : Sl), grd b39 (ldc vw34 (a.add 5) [(Sl.v t46)]) ∧ ∃ (t48 : Sl), grd b39 (ldc vw34 (a.add 6) [(Sl.v t48)]) ∧ gCall b39 (fun (t49 : Bool) (vw42 : World)=>bnd (b39 && t49) fun (b47 : Bool)=>∃ (zz4e : ByteArray) (zz4h : Int) (zz4i : Int) (zz4j : Int) (zz4d : Sl) (zz4g : Sl) (zz4f : Sl), grd b47 (ldc vw42 a [(Value.string zz4e), (Value.int .i64 zz4h), (Value.int .i64 zz4i), (Value.int .i64 zz4j), (Sl.v zz4d), (Sl.v zz4g), (Sl.v zz4f)]) ∧ gCall b47 (fun (t54 : ByteArray) (vw49 : World)=>R (b47 && (decide ((t54.size : Int) ≤ 4096))) vw49) (fun q=>callS Tryz.prog 86 [(Value.agg #[(Value.string zz4e), (Value.int .i64 zz4h), (Value.int .i64 zz4i), (Value.int .i64 zz4j), (Sl.v zz4d), (Sl.v zz4g), (Sl.v zz4f)])] vw42 fun v50 vw49=>∃ (t54 : ByteArray), v50 = (Value.string t54) ∧ q t54 vw49) (fun q=>q (ByteArray.mk #[]) vw42)) (fun q=>callS Tryz.prog 85 [(Sl.v t46), (Sl.v t48)] vw34 fun v43 vw42=>∃ (t49 : Bool), v43 = (Value.bool t49) ∧ q t49 vw42) (fun q=>q false vw34)) (fun q=>callS Tryz.prog 85 [(Sl.v t39), (Sl.v t41)] vw29 fun v35 vw34=>∃ (t42 : Bool), v35 = (Value.bool t42) ∧ q t42 vw34) (fun q=>q false vw29)))) (fun q=>callS Tryz.prog 84 [(Sl.v t28)] vw15 fun v23 vw22=>∃ (t29 : Bool), v23 = (Value.bool t29) ∧ q t29 vw22) (fun q=>q false vw15)) (fun q=>callS Tryz.prog 84 [(Sl.v t22)] vw8 fun v16 vw15=>∃ (t23 : Bool), v16 = (Value.bool t23) ∧ q t23 vw15) (fun q=>q false vw8)) (fun q=>callS Tryz.prog 84 [(Sl.v t16)] vw3 fun v9 vw8=>∃ (t17 : Bool), v9 = (Value.bool t17) ∧ q t17 vw8) (fun q=>q false vw3)) (fun q=>callS Tryz.prog 80 [(Value.agg #[(Value.int .i64 zz38), (Value.int .i64 zz39), (Value.int .i64 zz3a)])] vw1 fun v4 vw3=>∃ (t11 : Bool), v4 = (Value.bool t11) ∧ q t11 vw3) (fun q=>q false vw1)
set_option maxHeartbeats 8000000 in
theorem halyardref05_May.sound (zza : ByteArray) (zzd : Int) (zze : Int) (zzf : Int) (zz9 : Sl) (zzc : Sl) (zzb : Sl) (w : World) (R : Bool → World → Prop) (h : halyardref05_May zza zzd zze zzf zz9 zzc zzb w R) : callS Tryz.prog 34 [(Value.agg #[(Value.string zza), (Value.int .i64 zzd), (Value.int .i64 zze), (Value.int .i64 zzf), (Sl.v zz9), (Sl.v zzc), (Sl.v zzb)])] w (fun v w'=>∃ (r0 : Bool), v = (Value.bool r0) ∧ R r0 w') := by
 unfold halyardref05_May at h
 refine calls_of_vc 58 rfl Tryz.func34 rfl (by kernel_rfl) (by simp) ?_
 refine Vc.seq ?_
 refine Vc.region ?_
 refine vcL_eff rfl (opVC_new rfl (fun a=>Value.pointer (some a)) (by kernel_rfl) (newS.mono h fun a vw hx h=>?_))
 refine vcL_pure rfl rfl (Value.bool false) (fun w=>by kernel_rfl) ?_
 refine vcL_nil ?_
 refine Vc.seq ?_
 refine Vc.seq ?_
 refine Vc.region ?_
 refine vcL_pure rfl rfl (Value.pointer (some a)) (fun w=>by kernel_rfl) ?_
 obtain ⟨t5, hc, h⟩ := h
 refine vcL_val rfl rfl (Value.string t5) (exec_load rfl (by kernel_rfl) (run_load1 (fun w=>by kernel_rfl) ((hc)))) ?_
 refine vcL_eff rfl (opVC_call rfl (by kernel_rfl) (callS.mono h fun v vw1 h=>?_))
 obtain ⟨t6, rfl, h⟩ := h
 refine vcL_pure rfl rfl (Value.bool (!t6)) (fun w=>by kernel_rfl) ?_
 obtain ⟨b, hb⟩ : ∃ y, y = (!t6) := ⟨_, rfl⟩
 have h := h b hb
 refine vcL_pure rfl rfl (Value.bool b) (fun w=>by rw [hb]; kernel_rfl) ?_
 refine vcL_guardP (!b) (wanted_g (d := 8) rfl (by kernel_rfl) b (by kernel_rfl) (!b) (eqF b)) rfl (Value.pointer (some (a.add 1))) (fun hg w=>by simp only [Bool.and_eq_true, Bool.not_eq_true'] at hg; obtain rfl := hg; kernel_rfl) ?_
 obtain ⟨zz38, zz39, zz3a, hc2, h⟩ := h
 refine vcL_guard (!b) (wanted_g (d := 8) rfl (by kernel_rfl) b (by kernel_rfl) (!b) (eqF b)) rfl (Value.agg #[(Value.int .i64 zz38), (Value.int .i64 zz39), (Value.int .i64 zz3a)]) (fun hg=>by simp only [Bool.and_eq_true, Bool.not_eq_true'] at hg; obtain rfl := hg; exact exec_load rfl (by kernel_rfl) (run_loadN (fun w=>by kernel_rfl) (fun w=>by kernel_rfl) ((hc2 rfl)))) ?_
 obtain ⟨vJ, hJ, h⟩ := gCall_elim h
 refine vcL_effJ (σ := Bool) (!b) (wanted_g (d := 8) rfl (by kernel_rfl) b (by kernel_rfl) (!b) (eqF b)) rfl (fun s w=>vJ s w) (fun s=>(Value.bool s)) ?_ (fun hg=>opVC_call rfl (by simp only [Bool.and_eq_true, Bool.not_eq_true'] at hg; obtain rfl := hg; kernel_rfl) (callS.mono (h.1 hg) fun v4 vw3 hq=>?_)) (fun hg=>⟨false, h.2 hg⟩)
 ·intro t11 vw3 h
  subst hJ
  refine vcL_guardP (!b) (wanted_g (d := 8) rfl (by kernel_rfl) b (by kernel_rfl) (!b) (eqF b)) rfl (Value.bool (!t11)) (fun hg w=>by simp only [Bool.and_eq_true, Bool.not_eq_true'] at hg; obtain rfl := hg; kernel_rfl) ?_
  refine vcL_pure rfl rfl (Value.bool (b || (!t11))) (fun w=>by cases b <;> kernel_rfl) ?_
  obtain ⟨b6, hb6⟩ : ∃ y, y = (b || (!t11)) := ⟨_, rfl⟩
  have h := h b6 hb6
  refine vcL_pure rfl rfl (Value.bool b6) (fun w=>by rw [hb6]; kernel_rfl) ?_
  refine vcL_guardP (!b6) (wanted_g (d := 14) rfl (by kernel_rfl) b6 (by kernel_rfl) (!b6) (eqF b6)) rfl (Value.pointer (some (a.add 4))) (fun hg w=>by simp only [Bool.and_eq_true, Bool.not_eq_true'] at hg; obtain rfl := hg; kernel_rfl) ?_
  obtain ⟨t16, hc7, h⟩ := h
  refine vcL_guard (!b6) (wanted_g (d := 14) rfl (by kernel_rfl) b6 (by kernel_rfl) (!b6) (eqF b6)) rfl (Sl.v t16) (fun hg=>by simp only [Bool.and_eq_true, Bool.not_eq_true'] at hg; obtain rfl := hg; exact exec_load rfl (by kernel_rfl) (run_load1 (fun w=>by kernel_rfl) ((hc7 rfl)))) ?_
  obtain ⟨vJ11, hJ12, h⟩ := gCall_elim h
  refine vcL_effJ (σ := Bool) (!b6) (wanted_g (d := 14) rfl (by kernel_rfl) b6 (by kernel_rfl) (!b6) (eqF b6)) rfl (fun s w=>vJ11 s w) (fun s=>(Value.bool s)) ?_ (fun hg=>opVC_call rfl (by simp only [Bool.and_eq_true, Bool.not_eq_true'] at hg; obtain rfl := hg; kernel_rfl) (callS.mono (h.1 hg) fun v9 vw8 hq=>?_)) (fun hg=>⟨false, h.2 hg⟩)
  ·intro t17 vw8 h
   subst hJ12
   refine vcL_guardP (!b6) (wanted_g (d := 14) rfl (by kernel_rfl) b6 (by kernel_rfl) (!b6) (eqF b6)) rfl (Value.bool (!t17)) (fun hg w=>by simp only [Bool.and_eq_true, Bool.not_eq_true'] at hg; obtain rfl := hg; kernel_rfl) ?_
   refine vcL_pure rfl rfl (Value.bool (b6 || (!t17))) (fun w=>by cases b6 <;> kernel_rfl) ?_
   obtain ⟨b13, hb13⟩ : ∃ y, y = (b6 || (!t17)) := ⟨_, rfl⟩
   have h := h b13 hb13
   refine vcL_pure rfl rfl (Value.bool b13) (fun w=>by rw [hb13]; kernel_rfl) ?_
   refine vcL_guardP (!b13) (wanted_g (d := 20) rfl (by kernel_rfl) b13 (by kernel_rfl) (!b13) (eqF b13)) rfl (Value.pointer (some (a.add 5))) (fun hg w=>by simp only [Bool.and_eq_true, Bool.not_eq_true'] at hg; obtain rfl := hg; kernel_rfl) ?_
   obtain ⟨t22, hc14, h⟩ := h
   refine vcL_guard (!b13) (wanted_g (d := 20) rfl (by kernel_rfl) b13 (by kernel_rfl) (!b13) (eqF b13)) rfl (Sl.v t22) (fun hg=>by simp only [Bool.and_eq_true, Bool.not_eq_true'] at hg; obtain rfl := hg; exact exec_load rfl (by kernel_rfl) (run_load1 (fun w=>by kernel_rfl) ((hc14 rfl)))) ?_
   obtain ⟨vJ18, hJ19, h⟩ := gCall_elim h
   refine vcL_effJ (σ := Bool) (!b13) (wanted_g (d := 20) rfl (by kernel_rfl) b13 (by kernel_rfl) (!b13) (eqF b13)) rfl (fun s w=>vJ18 s w) (fun s=>(Value.bool s)) ?_ (fun hg=>opVC_call rfl (by simp only [Bool.and_eq_true, Bool.not_eq_true'] at hg; obtain rfl := hg; kernel_rfl) (callS.mono (h.1 hg) fun v16 vw15 hq=>?_)) (fun hg=>⟨false, h.2 hg⟩)
   ·intro t23 vw15 h
    subst hJ19
    refine vcL_guardP (!b13) (wanted_g (d := 20) rfl (by kernel_rfl) b13 (by kernel_rfl) (!b13) (eqF b13)) rfl (Value.bool (!t23)) (fun hg w=>by simp only [Bool.and_eq_true, Bool.not_eq_true'] at hg; obtain rfl := hg; kernel_rfl) ?_
    refine vcL_pure rfl rfl (Value.bool (b13 || (!t23))) (fun w=>by cases b13 <;> kernel_rfl) ?_
    obtain ⟨b20, hb20⟩ : ∃ y, y = (b13 || (!t23)) := ⟨_, rfl⟩
    have h := h b20 hb20
    refine vcL_pure rfl rfl (Value.bool b20) (fun w=>by rw [hb20]; kernel_rfl) ?_
    refine vcL_guardP (!b20) (wanted_g (d := 26) rfl (by kernel_rfl) b20 (by kernel_rfl) (!b20) (eqF b20)) rfl (Value.pointer (some (a.add 6))) (fun hg w=>by simp only [Bool.and_eq_true, Bool.not_eq_true'] at hg; obtain rfl := hg; kernel_rfl) ?_
    obtain ⟨t28, hc21, h⟩ := h
    refine vcL_guard (!b20) (wanted_g (d := 26) rfl (by kernel_rfl) b20 (by kernel_rfl) (!b20) (eqF b20)) rfl (Sl.v t28) (fun hg=>by simp only [Bool.and_eq_true, Bool.not_eq_true'] at hg; obtain rfl := hg; exact exec_load rfl (by kernel_rfl) (run_load1 (fun w=>by kernel_rfl) ((hc21 rfl)))) ?_
    obtain ⟨vJ25, hJ26, h⟩ := gCall_elim h
    refine vcL_effJ (σ := Bool) (!b20) (wanted_g (d := 26) rfl (by kernel_rfl) b20 (by kernel_rfl) (!b20) (eqF b20)) rfl (fun s w=>vJ25 s w) (fun s=>(Value.bool s)) ?_ (fun hg=>opVC_call rfl (by simp only [Bool.and_eq_true, Bool.not_eq_true'] at hg; obtain rfl := hg; kernel_rfl) (callS.mono (h.1 hg) fun v23 vw22 hq=>?_)) (fun hg=>⟨false, h.2 hg⟩)
    ·intro t29 vw22 h
     subst hJ26
     refine vcL_guardP (!b20) (wanted_g (d := 26) rfl (by kernel_rfl) b20 (by kernel_rfl) (!b20) (eqF b20)) rfl (Value.bool (!t29)) (fun hg w=>by simp only [Bool.and_eq_true, Bool.not_eq_true'] at hg; obtain rfl := hg; kernel_rfl) ?_
     refine vcL_pure rfl rfl (Value.bool (b20 || (!t29))) (fun w=>by cases b20 <;> kernel_rfl) ?_
     refine vcL_nil ?_
     refine Vc.cond (b20 || (!t29)) (by kernel_rfl) (fun hb=>?_) (fun hb=>?_)
     ·have h := h.1 (hb)
      refine Vc.seq ?_
      refine Vc.region ?_
      refine vcL_pure rfl rfl (Value.bool false) (fun w=>by kernel_rfl) ?_
      refine vcL_nil ?_
      refine Vc.ret ?_
      refine outs_ret ?_
      refine done_mk (Value.bool false) (res1 (resC_tmp (by kernel_rfl))) ?_
      exact ⟨false, rfl, h⟩
     ·have h := h.2 (hb)
      refine Vc.skip ?_
      refine Vc.seq ?_
      refine Vc.region ?_
      refine vcL_pure rfl rfl (Value.pointer (some (a.add 4))) (fun w=>by kernel_rfl) ?_
      obtain ⟨t33, hc27, h⟩ := h
      refine vcL_val rfl rfl (Sl.v t33) (exec_load rfl (by kernel_rfl) (run_load1 (fun w=>by kernel_rfl) ((hc27)))) ?_
      refine vcL_pure rfl rfl (Value.pointer (some (a.add 5))) (fun w=>by kernel_rfl) ?_
      obtain ⟨t35, hc28, h⟩ := h
      refine vcL_val rfl rfl (Sl.v t35) (exec_load rfl (by kernel_rfl) (run_load1 (fun w=>by kernel_rfl) ((hc28)))) ?_
      refine vcL_eff rfl (opVC_call rfl (by kernel_rfl) (callS.mono h fun v30 vw29 h=>?_))
      obtain ⟨t36, rfl, h⟩ := h
      refine vcL_pure rfl rfl (Value.bool t36) (fun w=>by kernel_rfl) ?_
      refine vcL_guardP t36 (wanted_g (d := 37) rfl (by kernel_rfl) t36 (by kernel_rfl) t36 (eqT t36)) rfl (Value.pointer (some (a.add 4))) (fun hg w=>by subst hg; kernel_rfl) ?_
      obtain ⟨t39, hc32, h⟩ := h
      refine vcL_guard t36 (wanted_g (d := 37) rfl (by kernel_rfl) t36 (by kernel_rfl) t36 (eqT t36)) rfl (Sl.v t39) (fun hg=>by subst hg; exact exec_load rfl (by kernel_rfl) (run_load1 (fun w=>by kernel_rfl) ((hc32 rfl)))) ?_
      refine vcL_guardP t36 (wanted_g (d := 37) rfl (by kernel_rfl) t36 (by kernel_rfl) t36 (eqT t36)) rfl (Value.pointer (some (a.add 6))) (fun hg w=>by subst hg; kernel_rfl) ?_
      obtain ⟨t41, hc33, h⟩ := h
      refine vcL_guard t36 (wanted_g (d := 37) rfl (by kernel_rfl) t36 (by kernel_rfl) t36 (eqT t36)) rfl (Sl.v t41) (fun hg=>by subst hg; exact exec_load rfl (by kernel_rfl) (run_load1 (fun w=>by kernel_rfl) ((hc33 rfl)))) ?_
      obtain ⟨vJ37, hJ38, h⟩ := gCall_elim h
      refine vcL_effJ (σ := Bool) t36 (wanted_g (d := 37) rfl (by kernel_rfl) t36 (by kernel_rfl) t36 (eqT t36)) rfl (fun s w=>vJ37 s w) (fun s=>(Value.bool s)) ?_ (fun hg=>opVC_call rfl (by subst hg; kernel_rfl) (callS.mono (h.1 hg) fun v35 vw34 hq=>?_)) (fun hg=>⟨false, h.2 hg⟩)
      ·intro t42 vw34 h
       subst hJ38
       refine vcL_pure rfl rfl (Value.bool (t36 && t42)) (fun w=>by cases t36 <;> kernel_rfl) ?_
       obtain ⟨b39, hb39⟩ : ∃ y, y = (t36 && t42) := ⟨_, rfl⟩
       have h := h b39 hb39
       refine vcL_pure rfl rfl (Value.bool b39) (fun w=>by rw [hb39]; kernel_rfl) ?_
       refine vcL_guardP b39 (wanted_g (d := 44) rfl (by kernel_rfl) b39 (by kernel_rfl) b39 (eqT b39)) rfl (Value.pointer (some (a.add 5))) (fun hg w=>by subst hg; kernel_rfl) ?_
       obtain ⟨t46, hc40, h⟩ := h
       refine vcL_guard b39 (wanted_g (d := 44) rfl (by kernel_rfl) b39 (by kernel_rfl) b39 (eqT b39)) rfl (Sl.v t46) (fun hg=>by subst hg; exact exec_load rfl (by kernel_rfl) (run_load1 (fun w=>by kernel_rfl) ((hc40 rfl)))) ?_
       refine vcL_guardP b39 (wanted_g (d := 44) rfl (by kernel_rfl) b39 (by kernel_rfl) b39 (eqT b39)) rfl (Value.pointer (some (a.add 6))) (fun hg w=>by subst hg; kernel_rfl) ?_
       obtain ⟨t48, hc41, h⟩ := h
       refine vcL_guard b39 (wanted_g (d := 44) rfl (by kernel_rfl) b39 (by kernel_rfl) b39 (eqT b39)) rfl (Sl.v t48) (fun hg=>by subst hg; exact exec_load rfl (by kernel_rfl) (run_load1 (fun w=>by kernel_rfl) ((hc41 rfl)))) ?_
       obtain ⟨vJ45, hJ46, h⟩ := gCall_elim h
       refine vcL_effJ (σ := Bool) b39 (wanted_g (d := 44) rfl (by kernel_rfl) b39 (by kernel_rfl) b39 (eqT b39)) rfl (fun s w=>vJ45 s w) (fun s=>(Value.bool s)) ?_ (fun hg=>opVC_call rfl (by subst hg; kernel_rfl) (callS.mono (h.1 hg) fun v43 vw42 hq=>?_)) (fun hg=>⟨false, h.2 hg⟩)
       ·intro t49 vw42 h
        subst hJ46
        refine vcL_pure rfl rfl (Value.bool (b39 && t49)) (fun w=>by cases b39 <;> kernel_rfl) ?_
        refine vcL_pure rfl rfl (Value.bool (b39 && t49)) (fun w=>by kernel_rfl) ?_
        refine vcL_nil ?_
        refine Vc.seq ?_
        refine Vc.region ?_
        refine vcL_pure rfl rfl (Value.bool (b39 && t49)) (fun w=>by kernel_rfl) ?_
        obtain ⟨b47, hb47⟩ : ∃ y, y = (b39 && t49) := ⟨_, rfl⟩
        have h := h b47 hb47
        refine vcL_pure rfl rfl (Value.bool b47) (fun w=>by rw [hb47]; kernel_rfl) ?_
        obtain ⟨zz4e, zz4h, zz4i, zz4j, zz4d, zz4g, zz4f, hc48, h⟩ := h
        refine vcL_guard b47 (wanted_g (d := 52) rfl (by kernel_rfl) b47 (by kernel_rfl) b47 (eqT b47)) rfl (Value.agg #[(Value.string zz4e), (Value.int .i64 zz4h), (Value.int .i64 zz4i), (Value.int .i64 zz4j), (Sl.v zz4d), (Sl.v zz4g), (Sl.v zz4f)]) (fun hg=>by subst hg; exact exec_load rfl (by kernel_rfl) (run_loadN (fun w=>by kernel_rfl) (fun w=>by kernel_rfl) ((hc48 rfl)))) ?_
        obtain ⟨vJ52, hJ53, h⟩ := gCall_elim h
        refine vcL_effJ (σ := ByteArray) b47 (wanted_g (d := 52) rfl (by kernel_rfl) b47 (by kernel_rfl) b47 (eqT b47)) rfl (fun s w=>vJ52 s w) (fun s=>(Value.string s)) ?_ (fun hg=>opVC_call rfl (by subst hg; kernel_rfl) (callS.mono (h.1 hg) fun v50 vw49 hq=>?_)) (fun hg=>⟨(ByteArray.mk #[]), h.2 hg⟩)
        ·intro t54 vw49 h
         subst hJ53
         refine vcL_guardP b47 (wanted_g (d := 52) rfl (by kernel_rfl) b47 (by kernel_rfl) b47 (eqT b47)) rfl (Value.int .i64 (t54.size : Int)) (fun hg w=>by subst hg; kernel_rfl) ?_
         refine vcL_guardP b47 (wanted_g (d := 52) rfl (by kernel_rfl) b47 (by kernel_rfl) b47 (eqT b47)) rfl (Value.bool (decide ((t54.size : Int) ≤ 4096))) (fun hg w=>by subst hg; kernel_rfl) ?_
         refine vcL_pure rfl rfl (Value.bool (b47 && (decide ((t54.size : Int) ≤ 4096)))) (fun w=>by cases b47 <;> kernel_rfl) ?_
         refine vcL_pure rfl rfl (Value.bool (b47 && (decide ((t54.size : Int) ≤ 4096)))) (fun w=>by kernel_rfl) ?_
         refine vcL_nil ?_
         refine Vc.ret ?_
         refine outs_ret ?_
         refine done_mk (Value.bool (b47 && (decide ((t54.size : Int) ≤ 4096)))) (res1 (resC_tmp (by kernel_rfl))) ?_
         exact ⟨(b47 && (decide ((t54.size : Int) ≤ 4096))), rfl, h⟩
        ·obtain ⟨t54, rfl, hq⟩ := hq
         exact ⟨t54, rfl, hq⟩
       ·obtain ⟨t49, rfl, hq⟩ := hq
        exact ⟨t49, rfl, hq⟩
      ·obtain ⟨t42, rfl, hq⟩ := hq
       exact ⟨t42, rfl, hq⟩
    ·obtain ⟨t29, rfl, hq⟩ := hq
     exact ⟨t29, rfl, hq⟩
   ·obtain ⟨t23, rfl, hq⟩ := hq
    exact ⟨t23, rfl, hq⟩
  ·obtain ⟨t17, rfl, hq⟩ := hq
   exact ⟨t17, rfl, hq⟩
 ·obtain ⟨t11, rfl, hq⟩ := hq
  exact ⟨t11, rfl, hq⟩
theorem halyardref05_May.go {zza : ByteArray} {zzd : Int} {zze : Int} {zzf : Int} {zz9 : Sl} {zzc : Sl} {zzb : Sl} {w : World} {k : Value → World → Prop} (h : halyardref05_May zza zzd zze zzf zz9 zzc zzb w fun r0 w'=>k (Value.bool r0) w') : callS Tryz.prog 34 [(Value.agg #[(Value.string zza), (Value.int .i64 zzd), (Value.int .i64 zze), (Value.int .i64 zzf), (Sl.v zz9), (Sl.v zzc), (Sl.v zzb)])] w k := (halyardref05_May.sound zza zzd zze zzf zz9 zzc zzb w _ h).mono (by rintro _ _ ⟨r0, rfl, h⟩; exact h)
def halyardref02_At (n : Int) (w : World) (R : Int → Int → Int → Bool → World → Prop) : Prop :=
 newS w [(Value.int .i64 0), (Value.int .i64 0), (Value.int .i64 0)] 30 fun a vw=>bnd (decide (n < 0)) fun (b : Bool)=>(((b || (decide (999999999 < n))) = true → stw vw a [(Value.int .i64 0), (Value.int .i64 0), (Value.int .i64 0)] fun vw1=>∃ (zz13 : Int) (zz14 : Int) (zz15 : Int), ldc vw1 a [(Value.int .i64 zz13), (Value.int .i64 zz14), (Value.int .i64 zz15)] ∧ R zz13 zz14 zz15 false vw1) ∧ ((b || (decide (999999999 < n))) = false → stw vw a [(Value.int .i64 (wrapI (n.tdiv 1000000))), (Value.int .i64 (Int.tmod (wrapI (n.tdiv 1000)) 1000)), (Value.int .i64 (Int.tmod n 1000))] fun vw2=>∃ (zz2t : Int) (zz2u : Int) (zz2x : Int), ldc vw2 a [(Value.int .i64 zz2t), (Value.int .i64 zz2u), (Value.int .i64 zz2x)] ∧ R zz2t zz2u zz2x true vw2))
set_option maxHeartbeats 8000000 in
theorem halyardref02_At.sound (n : Int) (w : World) (R : Int → Int → Int → Bool → World → Prop) (h : halyardref02_At n w R) : callS Tryz.prog 35 [(Value.int .i64 n)] w (fun v w'=>∃ (r0 : Int) (r1 : Int) (r2 : Int) (r3 : Bool), v = (Value.tuple #[(Value.agg #[(Value.int .i64 r0), (Value.int .i64 r1), (Value.int .i64 r2)]), (Value.bool r3)]) ∧ R r0 r1 r2 r3 w') := by
 unfold halyardref02_At at h
 refine calls_of_vc 19 rfl Tryz.func35 rfl (by kernel_rfl) (by simp) ?_
 refine Vc.seq ?_
 refine Vc.region ?_
 refine vcL_eff rfl (opVC_new rfl (fun a=>Value.pointer (some a)) (by kernel_rfl) (newS.mono h fun a vw hx h=>?_))
 refine vcL_pure rfl rfl (Value.bool false) (fun w=>by kernel_rfl) ?_
 refine vcL_nil ?_
 refine Vc.seq ?_
 refine Vc.seq ?_
 refine Vc.region ?_
 refine vcL_purs 2 [(5, (Value.bool (decide (n < 0)))), (4, (Value.int .i64 n))] (by kernel_rfl) ?_
 obtain ⟨b, hb⟩ : ∃ y, y = (decide (n < 0)) := ⟨_, rfl⟩
 have h := h b hb
 refine vcL_pure rfl rfl (Value.bool b) (fun w=>by rw [hb]; kernel_rfl) ?_
 refine vcL_guardP (!b) (wanted_g (d := 6) rfl (by kernel_rfl) b (by kernel_rfl) (!b) (eqF b)) rfl (Value.int .i64 n) (fun hg w=>by simp only [Bool.and_eq_true, Bool.not_eq_true'] at hg; obtain rfl := hg; kernel_rfl) ?_
 refine vcL_guardP (!b) (wanted_g (d := 6) rfl (by kernel_rfl) b (by kernel_rfl) (!b) (eqF b)) rfl (Value.bool (decide (999999999 < n))) (fun hg w=>by simp only [Bool.and_eq_true, Bool.not_eq_true'] at hg; obtain rfl := hg; kernel_rfl) ?_
 refine vcL_pure rfl rfl (Value.bool (b || (decide (999999999 < n)))) (fun w=>by cases b <;> kernel_rfl) ?_
 refine vcL_nil ?_
 refine Vc.cond (b || (decide (999999999 < n))) (by kernel_rfl) (fun hb=>?_) (fun hb=>?_)
 ·have h := h.1 (hb)
  refine Vc.seq ?_
  refine Vc.region ?_
  refine vcL_pure rfl rfl (Value.agg #[(Value.int .i64 0), (Value.int .i64 0), (Value.int .i64 0)]) (fun w=>by kernel_rfl) ?_
  refine vcL_eff rfl (opVC_store rfl rfl (a := a) (by kernel_rfl) (v := (Value.agg #[(Value.int .i64 0), (Value.int .i64 0), (Value.int .i64 0)])) (by kernel_rfl) [(Value.int .i64 0), (Value.int .i64 0), (Value.int .i64 0)] (by kernel_rfl) (fun w=>by kernel_rfl) (by kernel_rfl) (stw.mono h fun vw1 h=>?_))
  refine vcL_pure rfl rfl (Value.bool false) (fun w=>by kernel_rfl) ?_
  refine vcL_nil ?_
  refine Vc.ret ?_
  refine outs_ret ?_
  obtain ⟨zz13, zz14, zz15, hc, h⟩ := h
  refine done_mk (Value.tuple #[(Value.agg #[(Value.int .i64 zz13), (Value.int .i64 zz14), (Value.int .i64 zz15)]), (Value.bool false)]) (res2 (resC_cell (by kernel_rfl) (run_loadN (fun w=>by kernel_rfl) (fun w=>by kernel_rfl) hc)) (resC_tmp (by kernel_rfl))) ?_
  exact ⟨zz13, zz14, zz15, false, rfl, h⟩
 ·have h := h.2 (hb)
  refine Vc.skip ?_
  refine Vc.seq ?_
  refine Vc.region ?_
  refine vcL_purs 8 [(18, (Value.agg #[(Value.int .i64 (wrapI (n.tdiv 1000000))), (Value.int .i64 (Int.tmod (wrapI (n.tdiv 1000)) 1000)), (Value.int .i64 (Int.tmod n 1000))])), (17, (Value.int .i64 (Int.tmod n 1000))), (16, (Value.int .i64 n)), (15, (Value.int .i64 (Int.tmod (wrapI (n.tdiv 1000)) 1000))), (14, (Value.int .i64 (wrapI (n.tdiv 1000)))), (13, (Value.int .i64 n)), (12, (Value.int .i64 (wrapI (n.tdiv 1000000)))), (11, (Value.int .i64 n))] (by kernel_rfl) ?_
  refine vcL_eff rfl (opVC_store rfl rfl (a := a) (by kernel_rfl) (v := (Value.agg #[(Value.int .i64 (wrapI (n.tdiv 1000000))), (Value.int .i64 (Int.tmod (wrapI (n.tdiv 1000)) 1000)), (Value.int .i64 (Int.tmod n 1000))])) (by kernel_rfl) [(Value.int .i64 (wrapI (n.tdiv 1000000))), (Value.int .i64 (Int.tmod (wrapI (n.tdiv 1000)) 1000)), (Value.int .i64 (Int.tmod n 1000))] (by kernel_rfl) (fun w=>by kernel_rfl) (by kernel_rfl) (stw.mono h fun vw2 h=>?_))
  refine vcL_pure rfl rfl (Value.bool true) (fun w=>by kernel_rfl) ?_
  refine vcL_nil ?_
  refine Vc.ret ?_
  refine outs_ret ?_
  obtain ⟨zz2t, zz2u, zz2x, hc6, h⟩ := h
  refine done_mk (Value.tuple #[(Value.agg #[(Value.int .i64 zz2t), (Value.int .i64 zz2u), (Value.int .i64 zz2x)]), (Value.bool true)]) (res2 (resC_cell (by kernel_rfl) (run_loadN (fun w=>by kernel_rfl) (fun w=>by kernel_rfl) hc6)) (resC_tmp (by kernel_rfl))) ?_
  exact ⟨zz2t, zz2u, zz2x, true, rfl, h⟩
theorem halyardref02_At.go {n : Int} {w : World} {k : Value → World → Prop} (h : halyardref02_At n w fun r0 r1 r2 r3 w'=>k (Value.tuple #[(Value.agg #[(Value.int .i64 r0), (Value.int .i64 r1), (Value.int .i64 r2)]), (Value.bool r3)]) w') : callS Tryz.prog 35 [(Value.int .i64 n)] w k := (halyardref02_At.sound n w _ h).mono (by rintro _ _ ⟨r0, r1, r2, r3, rfl, h⟩; exact h)
def halyardref05_Deps (a : Sl) (b : Sl) (w : World) (R : Bool → World → Prop) : Prop :=
 ((¬ (a.len : Int) = (b.len : Int) → R false w) ∧ (¬ (¬ (a.len : Int) = (b.len : Int)) → loop1 0 w fun i vw nxt=>((i < (a.len : Int) → bnd vw.drew fun (vw1 : World)=>∃ (ad : Addr), (a.a = some ad ∧ (0 : Int) ≤ i ∧ i < (a.len : Int)) ∧ ∃ (t21 : ByteArray), (ldc vw1 (ad.add (i.toNat * 2)) [(Value.string t21)]) ∧ ∃ (ad2 : Addr), (b.a = some ad2 ∧ (0 : Int) ≤ i ∧ i < (b.len : Int)) ∧ ∃ (t26 : ByteArray), (ldc vw1 (ad2.add (i.toNat * 2)) [(Value.string t26)]) ∧ bnd (!bEq t21 t26) fun (b5 : Bool)=>∃ (ad6 : Addr), grd (!b5) (a.a = some ad6 ∧ (0 : Int) ≤ i ∧ i < (a.len : Int)) ∧ ∃ (t33 : Sl), grd (!b5) (ldc vw1 ((ad6.add (i.toNat * 2)).add 1) [(Sl.v t33)]) ∧ ∃ (ad9 : Addr), grd (!b5) (b.a = some ad9 ∧ (0 : Int) ≤ i ∧ i < (b.len : Int)) ∧ ∃ (t38 : Sl), grd (!b5) (ldc vw1 ((ad9.add (i.toNat * 2)).add 1) [(Sl.v t38)]) ∧ gCall (!b5) (fun (t39 : Bool) (vw12 : World)=>(((b5 || (!t39)) = true → R false vw12) ∧ ((b5 || (!t39)) = false → nxt (wrapI (i + 1)) vw12))) (fun q=>callS Tryz.prog 45 [(Sl.v t33), (Sl.v t38)] vw1 fun v vw12=>∃ (t39 : Bool), v = (Value.bool t39) ∧ q t39 vw12) (fun q=>q false vw1)) ∧ (¬ (i < (a.len : Int)) → R true vw))))
set_option maxHeartbeats 8000000 in
theorem halyardref05_Deps.sound (a : Sl) (b : Sl) (w : World) (R : Bool → World → Prop) (h : halyardref05_Deps a b w R) : callS Tryz.prog 42 [(Sl.v a), (Sl.v b)] w (fun v w'=>∃ (r0 : Bool), v = (Value.bool r0) ∧ R r0 w') := by
 unfold halyardref05_Deps at h
 refine calls_of_vc 42 rfl Tryz.func42 rfl (by kernel_rfl) (by simp) ?_
 refine Vc.seq ?_
 refine Vc.region ?_
 refine vcL_pure rfl rfl (Value.bool false) (fun w=>by kernel_rfl) ?_
 refine vcL_nil ?_
 refine Vc.seq ?_
 refine Vc.seq ?_
 refine Vc.region ?_
 refine vcL_purs 5 [(10, (Value.bool (!((a.len : Int) == (b.len : Int))))), (9, (Value.int .i64 (b.len : Int))), (8, (Sl.v b)), (7, (Value.int .i64 (a.len : Int))), (6, (Sl.v a))] (by kernel_rfl) ?_
 refine vcL_nil ?_
 refine Vc.cond (!((a.len : Int) == (b.len : Int))) (by kernel_rfl) (fun hb=>?_) (fun hb=>?_)
 ·have h := h.1 (ne_of_nbeq hb)
  refine Vc.seq ?_
  refine Vc.region ?_
  refine vcL_pure rfl rfl (Value.bool false) (fun w=>by kernel_rfl) ?_
  refine vcL_nil ?_
  refine Vc.ret ?_
  refine outs_ret ?_
  refine done_mk (Value.bool false) (res1 (resC_tmp (by kernel_rfl))) ?_
  exact ⟨false, rfl, h⟩
 ·have h := h.2 (nne_of_nbeq hb)
  refine Vc.skip ?_
  refine Vc.seq ?_
  refine Vc.seq ?_
  refine Vc.region ?_
  refine vcL_pure rfl rfl (Value.int .i64 0) (fun w=>by kernel_rfl) ?_
  refine vcL_nil ?_
  refine Vc.block ?_
  obtain ⟨vI, mu, h, hr⟩ := h
  refine Vc.loopJ (σ := Int) [5] [4, 11, 12, 13, 14, 15, 16, 17, 18, 19, 20, 21, 22, 23, 24, 25, 26, 27, 28, 29, 30, 31, 32, 33, 34, 35, 36, 37, 38, 39, 40, 41] (fun s=>[(5, (Value.int .i64 s))]) (fun s w=>vI s w) (fun s w=>mu s w) 0 h (fun _ => rfl) (by kernel_rfl) ?_
  intro i vw j h
  have h := hr i vw h
  refine Vc.seq ?_
  refine Vc.seq ?_
  refine Vc.region ?_
  refine vcL_purs 4 [(14, (Value.bool (decide (i < (a.len : Int))))), (13, (Value.int .i64 (a.len : Int))), (12, (Sl.v a)), (11, (Value.int .i64 i))] (by kernel_rfl) ?_
  refine vcL_nil ?_
  refine Vc.cond (decide (i < (a.len : Int))) (by kernel_rfl) (fun hb=>?_) (fun hb=>?_)
  ·have h := h.1 (of_decide_eq_true hb)
   refine Vc.skip ?_
   refine Vc.seq ?_
   refine Vc.block ?_
   refine Vc.seq ?_
   obtain ⟨vw1, hvw1⟩ : ∃ y, y = vw.drew := ⟨_, rfl⟩
   have h := h vw1 hvw1
   refine Vc.draw (by kernel_rfl) (fun i=>!(memN [22] i)) (.pur 0 (.pur 1 (.pur 2 (.pur 3 (.val 4 (.pur 5 (.pur 6 (.pur 7 (.pur 8 (.val 9 (.pur 10 (.pur 11 (.pur 12 (.pur 13 (.pur 14 (.pur 15 (.val 16 (.pur 17 (.pur 18 (.pur 19 (.pur 20 (.val 21 (.eff 22 (.pur 23 (.pur 24 .fin)) .stop))))))))))))))))))))))) (by kernel_rfl) ?_
   rw [← hvw1]
   clear hvw1
   refine vcS_pure rfl rfl rfl (Sl.v a) (fun w=>by kernel_rfl) ?_
   refine vcS_pure rfl rfl rfl (Value.int .i64 i) (fun w=>by kernel_rfl) ?_
   obtain ⟨ad, hi, h⟩ := h
   refine vcS_pure rfl rfl rfl (Value.pointer (some (ad.add (i.toNat * 2)))) (fun w=>by exact exec_indexAt (s := a) (el := 81) rfl (by kernel_rfl) (by kernel_rfl) (by kernel_rfl) (fun w=>by kernel_rfl) (hi).1 (hi).2.1 (hi).2.2 w) ?_
   refine vcS_pure rfl rfl rfl (Value.pointer (some (ad.add (i.toNat * 2)))) (fun w=>by kernel_rfl) ?_
   obtain ⟨t21, hc, h⟩ := h
   refine vcS_val rfl rfl rfl (Value.string t21) (fun w' hx=>exec_load rfl (by kernel_rfl) (run_load1 (fun w=>by kernel_rfl) ((hc).ext hx))) ?_
   refine vcS_pure rfl rfl rfl (Sl.v b) (fun w=>by kernel_rfl) ?_
   refine vcS_pure rfl rfl rfl (Value.int .i64 i) (fun w=>by kernel_rfl) ?_
   obtain ⟨ad2, hi3, h⟩ := h
   refine vcS_pure rfl rfl rfl (Value.pointer (some (ad2.add (i.toNat * 2)))) (fun w=>by exact exec_indexAt (s := b) (el := 81) rfl (by kernel_rfl) (by kernel_rfl) (by kernel_rfl) (fun w=>by kernel_rfl) (hi3).1 (hi3).2.1 (hi3).2.2 w) ?_
   refine vcS_pure rfl rfl rfl (Value.pointer (some (ad2.add (i.toNat * 2)))) (fun w=>by kernel_rfl) ?_
   obtain ⟨t26, hc4, h⟩ := h
   refine vcS_val rfl rfl rfl (Value.string t26) (fun w' hx=>exec_load rfl (by kernel_rfl) (run_load1 (fun w=>by kernel_rfl) ((hc4).ext hx))) ?_
   refine vcS_pure rfl rfl rfl (Value.bool (!bEq t21 t26)) (fun w=>by kernel_rfl) ?_
   obtain ⟨b5, hb5⟩ : ∃ y, y = (!bEq t21 t26) := ⟨_, rfl⟩
   have h := h b5 hb5
   refine vcS_pure rfl rfl rfl (Value.bool b5) (fun w=>by rw [hb5]; kernel_rfl) ?_
   refine vcS_guard rfl (!b5) (wanted_g (d := 28) rfl (by kernel_rfl) b5 (by kernel_rfl) (!b5) (eqF b5)) rfl (Sl.v a) (fun hg w=>by simp only [Bool.and_eq_true, Bool.not_eq_true'] at hg; obtain rfl := hg; kernel_rfl) ?_
   refine vcS_guard rfl (!b5) (wanted_g (d := 28) rfl (by kernel_rfl) b5 (by kernel_rfl) (!b5) (eqF b5)) rfl (Value.int .i64 i) (fun hg w=>by simp only [Bool.and_eq_true, Bool.not_eq_true'] at hg; obtain rfl := hg; kernel_rfl) ?_
   obtain ⟨ad6, hi7, h⟩ := h
   refine vcS_guard rfl (!b5) (wanted_g (d := 28) rfl (by kernel_rfl) b5 (by kernel_rfl) (!b5) (eqF b5)) rfl (Value.pointer (some (ad6.add (i.toNat * 2)))) (fun hg w=>by simp only [Bool.and_eq_true, Bool.not_eq_true'] at hg; obtain rfl := hg; exact exec_indexAt (s := a) (el := 81) rfl (by kernel_rfl) (by kernel_rfl) (by kernel_rfl) (fun w=>by kernel_rfl) (hi7 rfl).1 (hi7 rfl).2.1 (hi7 rfl).2.2 w) ?_
   refine vcS_guard rfl (!b5) (wanted_g (d := 28) rfl (by kernel_rfl) b5 (by kernel_rfl) (!b5) (eqF b5)) rfl (Value.pointer (some ((ad6.add (i.toNat * 2)).add 1))) (fun hg w=>by simp only [Bool.and_eq_true, Bool.not_eq_true'] at hg; obtain rfl := hg; kernel_rfl) ?_
   obtain ⟨t33, hc8, h⟩ := h
   refine vcS_valG rfl (!b5) (wanted_g (d := 28) rfl (by kernel_rfl) b5 (by kernel_rfl) (!b5) (eqF b5)) rfl (Sl.v t33) (fun hg w' hx=>by simp only [Bool.and_eq_true, Bool.not_eq_true'] at hg; obtain rfl := hg; exact exec_load rfl (by kernel_rfl) (run_load1 (fun w=>by kernel_rfl) ((hc8 rfl).ext hx))) ?_
   refine vcS_guard rfl (!b5) (wanted_g (d := 28) rfl (by kernel_rfl) b5 (by kernel_rfl) (!b5) (eqF b5)) rfl (Sl.v b) (fun hg w=>by simp only [Bool.and_eq_true, Bool.not_eq_true'] at hg; obtain rfl := hg; kernel_rfl) ?_
   refine vcS_guard rfl (!b5) (wanted_g (d := 28) rfl (by kernel_rfl) b5 (by kernel_rfl) (!b5) (eqF b5)) rfl (Value.int .i64 i) (fun hg w=>by simp only [Bool.and_eq_true, Bool.not_eq_true'] at hg; obtain rfl := hg; kernel_rfl) ?_
   obtain ⟨ad9, hi10, h⟩ := h
   refine vcS_guard rfl (!b5) (wanted_g (d := 28) rfl (by kernel_rfl) b5 (by kernel_rfl) (!b5) (eqF b5)) rfl (Value.pointer (some (ad9.add (i.toNat * 2)))) (fun hg w=>by simp only [Bool.and_eq_true, Bool.not_eq_true'] at hg; obtain rfl := hg; exact exec_indexAt (s := b) (el := 81) rfl (by kernel_rfl) (by kernel_rfl) (by kernel_rfl) (fun w=>by kernel_rfl) (hi10 rfl).1 (hi10 rfl).2.1 (hi10 rfl).2.2 w) ?_
   refine vcS_guard rfl (!b5) (wanted_g (d := 28) rfl (by kernel_rfl) b5 (by kernel_rfl) (!b5) (eqF b5)) rfl (Value.pointer (some ((ad9.add (i.toNat * 2)).add 1))) (fun hg w=>by simp only [Bool.and_eq_true, Bool.not_eq_true'] at hg; obtain rfl := hg; kernel_rfl) ?_
   obtain ⟨t38, hc11, h⟩ := h
   refine vcS_valG rfl (!b5) (wanted_g (d := 28) rfl (by kernel_rfl) b5 (by kernel_rfl) (!b5) (eqF b5)) rfl (Sl.v t38) (fun hg w' hx=>by simp only [Bool.and_eq_true, Bool.not_eq_true'] at hg; obtain rfl := hg; exact exec_load rfl (by kernel_rfl) (run_load1 (fun w=>by kernel_rfl) ((hc11 rfl).ext hx))) ?_
   obtain ⟨vJ, hJ, h⟩ := gCall_elim h
   refine vcS_effJ (σ := Bool) rfl (!b5) (wanted_g (d := 28) rfl (by kernel_rfl) b5 (by kernel_rfl) (!b5) (eqF b5)) rfl (fun s w=>vJ s w) (fun s=>(Value.bool s)) ?_ (fun hg=>opVC_call rfl (by simp only [Bool.and_eq_true, Bool.not_eq_true'] at hg; obtain rfl := hg; kernel_rfl) (callS.mono (h.1 hg) fun v vw12 hq=>?_)) (fun hg=>⟨false, h.2 hg⟩) vcS_stop
   ·intro t39 vw12 h
    subst hJ
    refine vcS_guard rfl (!b5) (wanted_g (d := 28) rfl (by kernel_rfl) b5 (by kernel_rfl) (!b5) (eqF b5)) rfl (Value.bool (!t39)) (fun hg w=>by simp only [Bool.and_eq_true, Bool.not_eq_true'] at hg; obtain rfl := hg; kernel_rfl) ?_
    refine vcS_pure rfl rfl rfl (Value.bool (b5 || (!t39))) (fun w=>by cases b5 <;> kernel_rfl) ?_
    refine vcS_fin ?_
    refine Vc.cond (b5 || (!t39)) (by kernel_rfl) (fun hb=>?_) (fun hb=>?_)
    ·have h := h.1 (hb)
     refine Vc.seq ?_
     refine Vc.region ?_
     refine vcL_pure rfl rfl (Value.bool false) (fun w=>by kernel_rfl) ?_
     refine vcL_nil ?_
     refine Vc.ret ?_
     refine outOf_ret ?_
     refine outOf_ret ?_
     refine outs_ret ?_
     refine done_mk (Value.bool false) (res1 (resC_tmp (by kernel_rfl))) ?_
     exact ⟨false, rfl, h⟩
    ·have h := h.2 (hb)
     refine Vc.skip ?_
     refine Vc.region ?_
     refine vcL_purs 3 [(5, (Value.int .i64 (wrapI (i + 1)))), (16, (Value.int .i64 (wrapI (i + 1)))), (15, (Value.int .i64 i))] (by kernel_rfl) ?_
     refine vcL_nil ?_
     exact ⟨(wrapI (i + 1)), 65, ⟨rfl, by kernel_rfl, by kernel_rfl, by kernel_rfl⟩, h⟩
   ·obtain ⟨t39, rfl, hq⟩ := hq
    exact ⟨fun hb=>absurd hb (by decide), t39, rfl, hq⟩
  ·have h := h.2 (of_decide_eq_false hb)
   refine Vc.exit ?_
   refine outOf_hit ?_
   refine Vc.seq ?_
   refine Vc.region ?_
   refine vcL_pure rfl rfl (Value.bool true) (fun w=>by kernel_rfl) ?_
   refine vcL_nil ?_
   refine Vc.ret ?_
   refine outs_ret ?_
   refine done_mk (Value.bool true) (res1 (resC_tmp (by kernel_rfl))) ?_
   exact ⟨true, rfl, h⟩
theorem halyardref05_Deps.go {a : Sl} {b : Sl} {w : World} {k : Value → World → Prop} (h : halyardref05_Deps a b w fun r0 w'=>k (Value.bool r0) w') : callS Tryz.prog 42 [(Sl.v a), (Sl.v b)] w k := (halyardref05_Deps.sound a b w _ h).mono (by rintro _ _ ⟨r0, rfl, h⟩; exact h)
def halyardref05_Spans (a : Sl) (b : Sl) (w : World) (R : Bool → World → Prop) : Prop :=
 ((¬ (a.len : Int) = (b.len : Int) → R false w) ∧ (¬ (¬ (a.len : Int) = (b.len : Int)) → loop1 0 w fun i vw nxt=>((i < (a.len : Int) → bnd vw.drew fun (vw1 : World)=>∃ (ad : Addr), (a.a = some ad ∧ (0 : Int) ≤ i ∧ i < (a.len : Int)) ∧ ∃ (zz1v : Int) (zz1w : Int) (zz1x : Int) (zz1s : Int) (zz1t : Int) (zz1u : Int), (ldc vw1 (ad.add (i.toNat * 6)) [(Value.int .i64 zz1v), (Value.int .i64 zz1w), (Value.int .i64 zz1x), (Value.int .i64 zz1s), (Value.int .i64 zz1t), (Value.int .i64 zz1u)]) ∧ ∃ (ad2 : Addr), (b.a = some ad2 ∧ (0 : Int) ≤ i ∧ i < (b.len : Int)) ∧ ∃ (zz21 : Int) (zz22 : Int) (zz23 : Int) (zz1y : Int) (zz1z : Int) (zz20 : Int), (ldc vw1 (ad2.add (i.toNat * 6)) [(Value.int .i64 zz21), (Value.int .i64 zz22), (Value.int .i64 zz23), (Value.int .i64 zz1y), (Value.int .i64 zz1z), (Value.int .i64 zz20)]) ∧ (((!(((zz1v == zz21) && ((zz1w == zz22) && ((zz1x == zz23) && true))) && (((zz1s == zz1y) && ((zz1t == zz1z) && ((zz1u == zz20) && true))) && true))) = true → R false vw1) ∧ ((!(((zz1v == zz21) && ((zz1w == zz22) && ((zz1x == zz23) && true))) && (((zz1s == zz1y) && ((zz1t == zz1z) && ((zz1u == zz20) && true))) && true))) = false → nxt (wrapI (i + 1)) vw1))) ∧ (¬ (i < (a.len : Int)) → R true vw))))
set_option maxHeartbeats 8000000 in
theorem halyardref05_Spans.sound (a : Sl) (b : Sl) (w : World) (R : Bool → World → Prop) (h : halyardref05_Spans a b w R) : callS Tryz.prog 45 [(Sl.v a), (Sl.v b)] w (fun v w'=>∃ (r0 : Bool), v = (Value.bool r0) ∧ R r0 w') := by
 unfold halyardref05_Spans at h
 refine calls_of_vc 26 rfl Tryz.func45 rfl (by kernel_rfl) (by simp) ?_
 refine Vc.seq ?_
 refine Vc.region ?_
 refine vcL_pure rfl rfl (Value.bool false) (fun w=>by kernel_rfl) ?_
 refine vcL_nil ?_
 refine Vc.seq ?_
 refine Vc.seq ?_
 refine Vc.region ?_
 refine vcL_purs 5 [(10, (Value.bool (!((a.len : Int) == (b.len : Int))))), (9, (Value.int .i64 (b.len : Int))), (8, (Sl.v b)), (7, (Value.int .i64 (a.len : Int))), (6, (Sl.v a))] (by kernel_rfl) ?_
 refine vcL_nil ?_
 refine Vc.cond (!((a.len : Int) == (b.len : Int))) (by kernel_rfl) (fun hb=>?_) (fun hb=>?_)
 ·have h := h.1 (ne_of_nbeq hb)
  refine Vc.seq ?_
  refine Vc.region ?_
  refine vcL_pure rfl rfl (Value.bool false) (fun w=>by kernel_rfl) ?_
  refine vcL_nil ?_
  refine Vc.ret ?_
  refine outs_ret ?_
  refine done_mk (Value.bool false) (res1 (resC_tmp (by kernel_rfl))) ?_
  exact ⟨false, rfl, h⟩
 ·have h := h.2 (nne_of_nbeq hb)
  refine Vc.skip ?_
  refine Vc.seq ?_
  refine Vc.seq ?_
  refine Vc.region ?_
  refine vcL_pure rfl rfl (Value.int .i64 0) (fun w=>by kernel_rfl) ?_
  refine vcL_nil ?_
  refine Vc.block ?_
  obtain ⟨vI, mu, h, hr⟩ := h
  refine Vc.loopJ (σ := Int) [5] [4, 11, 12, 13, 14, 15, 16, 17, 18, 19, 20, 21, 22, 23, 24, 25] (fun s=>[(5, (Value.int .i64 s))]) (fun s w=>vI s w) (fun s w=>mu s w) 0 h (fun _ => rfl) (by kernel_rfl) ?_
  intro i vw j h
  have h := hr i vw h
  refine Vc.seq ?_
  refine Vc.seq ?_
  refine Vc.region ?_
  refine vcL_purs 4 [(14, (Value.bool (decide (i < (a.len : Int))))), (13, (Value.int .i64 (a.len : Int))), (12, (Sl.v a)), (11, (Value.int .i64 i))] (by kernel_rfl) ?_
  refine vcL_nil ?_
  refine Vc.cond (decide (i < (a.len : Int))) (by kernel_rfl) (fun hb=>?_) (fun hb=>?_)
  ·have h := h.1 (of_decide_eq_true hb)
   refine Vc.skip ?_
   refine Vc.seq ?_
   refine Vc.block ?_
   refine Vc.seq ?_
   obtain ⟨vw1, hvw1⟩ : ∃ y, y = vw.drew := ⟨_, rfl⟩
   have h := h vw1 hvw1
   refine Vc.draw (by kernel_rfl) (fun i=>!(memN [] i)) (.pur 0 (.pur 1 (.pur 2 (.val 3 (.pur 4 (.pur 5 (.pur 6 (.val 7 (.pur 8 .fin))))))))) (by kernel_rfl) ?_
   rw [← hvw1]
   clear hvw1
   refine vcS_pure rfl rfl rfl (Sl.v a) (fun w=>by kernel_rfl) ?_
   refine vcS_pure rfl rfl rfl (Value.int .i64 i) (fun w=>by kernel_rfl) ?_
   obtain ⟨ad, hi, h⟩ := h
   refine vcS_pure rfl rfl rfl (Value.pointer (some (ad.add (i.toNat * 6)))) (fun w=>by exact exec_indexAt (s := a) (el := 83) rfl (by kernel_rfl) (by kernel_rfl) (by kernel_rfl) (fun w=>by kernel_rfl) (hi).1 (hi).2.1 (hi).2.2 w) ?_
   obtain ⟨zz1v, zz1w, zz1x, zz1s, zz1t, zz1u, hc, h⟩ := h
   refine vcS_val rfl rfl rfl (Value.agg #[(Value.int .i64 zz1v), (Value.int .i64 zz1w), (Value.int .i64 zz1x), (Value.int .i64 zz1s), (Value.int .i64 zz1t), (Value.int .i64 zz1u)]) (fun w' hx=>exec_load rfl (by kernel_rfl) (run_loadN (fun w=>by kernel_rfl) (fun w=>by kernel_rfl) ((hc).ext hx))) ?_
   refine vcS_pure rfl rfl rfl (Sl.v b) (fun w=>by kernel_rfl) ?_
   refine vcS_pure rfl rfl rfl (Value.int .i64 i) (fun w=>by kernel_rfl) ?_
   obtain ⟨ad2, hi3, h⟩ := h
   refine vcS_pure rfl rfl rfl (Value.pointer (some (ad2.add (i.toNat * 6)))) (fun w=>by exact exec_indexAt (s := b) (el := 83) rfl (by kernel_rfl) (by kernel_rfl) (by kernel_rfl) (fun w=>by kernel_rfl) (hi3).1 (hi3).2.1 (hi3).2.2 w) ?_
   obtain ⟨zz21, zz22, zz23, zz1y, zz1z, zz20, hc4, h⟩ := h
   refine vcS_val rfl rfl rfl (Value.agg #[(Value.int .i64 zz21), (Value.int .i64 zz22), (Value.int .i64 zz23), (Value.int .i64 zz1y), (Value.int .i64 zz1z), (Value.int .i64 zz20)]) (fun w' hx=>exec_load rfl (by kernel_rfl) (run_loadN (fun w=>by kernel_rfl) (fun w=>by kernel_rfl) ((hc4).ext hx))) ?_
   refine vcS_pure rfl rfl rfl (Value.bool (!(((zz1v == zz21) && ((zz1w == zz22) && ((zz1x == zz23) && true))) && (((zz1s == zz1y) && ((zz1t == zz1z) && ((zz1u == zz20) && true))) && true)))) (fun w=>by exact exec_struct_neq rfl (by kernel_rfl) (by kernel_rfl) (by kernel_rfl) (eqv_83 9997 zz1v zz1w zz1x zz1s zz1t zz1u zz21 zz22 zz23 zz1y zz1z zz20 w)) ?_
   refine vcS_fin ?_
   refine Vc.cond (!(((zz1v == zz21) && ((zz1w == zz22) && ((zz1x == zz23) && true))) && (((zz1s == zz1y) && ((zz1t == zz1z) && ((zz1u == zz20) && true))) && true))) (by kernel_rfl) (fun hb=>?_) (fun hb=>?_)
   ·have h := h.1 (hb)
    refine Vc.seq ?_
    refine Vc.region ?_
    refine vcL_pure rfl rfl (Value.bool false) (fun w=>by kernel_rfl) ?_
    refine vcL_nil ?_
    refine Vc.ret ?_
    refine outOf_ret ?_
    refine outOf_ret ?_
    refine outs_ret ?_
    refine done_mk (Value.bool false) (res1 (resC_tmp (by kernel_rfl))) ?_
    exact ⟨false, rfl, h⟩
   ·have h := h.2 (hb)
    refine Vc.skip ?_
    refine Vc.region ?_
    refine vcL_purs 3 [(5, (Value.int .i64 (wrapI (i + 1)))), (16, (Value.int .i64 (wrapI (i + 1)))), (15, (Value.int .i64 i))] (by kernel_rfl) ?_
    refine vcL_nil ?_
    exact ⟨(wrapI (i + 1)), 33, ⟨rfl, by kernel_rfl, by kernel_rfl, by kernel_rfl⟩, h⟩
  ·have h := h.2 (of_decide_eq_false hb)
   refine Vc.exit ?_
   refine outOf_hit ?_
   refine Vc.seq ?_
   refine Vc.region ?_
   refine vcL_pure rfl rfl (Value.bool true) (fun w=>by kernel_rfl) ?_
   refine vcL_nil ?_
   refine Vc.ret ?_
   refine outs_ret ?_
   refine done_mk (Value.bool true) (res1 (resC_tmp (by kernel_rfl))) ?_
   exact ⟨true, rfl, h⟩
theorem halyardref05_Spans.go {a : Sl} {b : Sl} {w : World} {k : Value → World → Prop} (h : halyardref05_Spans a b w fun r0 w'=>k (Value.bool r0) w') : callS Tryz.prog 45 [(Sl.v a), (Sl.v b)] w k := (halyardref05_Spans.sound a b w _ h).mono (by rintro _ _ ⟨r0, rfl, h⟩; exact h)
def halyardref03_All (w : World) (R : Sl → World → Prop) : Prop :=
 callS Tryz.prog 96 [(Value.int .i64 0)] w fun v vw=>∃ (zz3r : Int) (zz3s : Int) (zz3t : Int), v = (Value.agg #[(Value.int .i64 zz3r), (Value.int .i64 zz3s), (Value.int .i64 zz3t)]) ∧ callS Tryz.prog 96 [(Value.int .i64 999999999)] vw fun v2 vw1=>∃ (zz3u : Int) (zz3v : Int) (zz3w : Int), v2 = (Value.agg #[(Value.int .i64 zz3u), (Value.int .i64 zz3v), (Value.int .i64 zz3w)]) ∧ newS vw1 [(Value.int .i64 zz3r), (Value.int .i64 zz3s), (Value.int .i64 zz3t), (Value.int .i64 zz3u), (Value.int .i64 zz3v), (Value.int .i64 zz3w)] 83 fun a vw4=>R (Sl.mk (some a) 1 1) vw4
set_option maxHeartbeats 8000000 in
theorem halyardref03_All.sound (w : World) (R : Sl → World → Prop) (h : halyardref03_All w R) : callS Tryz.prog 49 [] w (fun v w'=>∃ (r0 : Sl), v = (Sl.v r0) ∧ R r0 w') := by
 unfold halyardref03_All at h
 refine calls_of_vc 5 rfl Tryz.func49 rfl (by kernel_rfl) (by simp) ?_
 refine Vc.seq ?_
 refine Vc.region ?_
 refine vcL_pure rfl rfl (Sl.v Sl.nil) (fun w=>by kernel_rfl) ?_
 refine vcL_nil ?_
 refine Vc.seq ?_
 refine Vc.region ?_
 refine vcL_eff rfl (opVC_call rfl (by kernel_rfl) (callS.mono h fun v vw h=>?_))
 obtain ⟨zz3r, zz3s, zz3t, rfl, h⟩ := h
 refine vcL_eff rfl (opVC_call rfl (by kernel_rfl) (callS.mono h fun v2 vw1 h=>?_))
 obtain ⟨zz3u, zz3v, zz3w, rfl, h⟩ := h
 refine vcL_pure rfl rfl (Value.agg #[(Value.int .i64 zz3r), (Value.int .i64 zz3s), (Value.int .i64 zz3t), (Value.int .i64 zz3u), (Value.int .i64 zz3v), (Value.int .i64 zz3w)]) (fun w=>by kernel_rfl) ?_
 refine vcL_eff rfl (opVC_new rfl (fun a=>Value.slice (some a) 1 1) (by kernel_rfl) (newS.mono h fun a vw4 hx h=>?_))
 refine vcL_pure rfl rfl (Sl.v (Sl.mk (some a) 1 1)) (fun w=>by kernel_rfl) ?_
 refine vcL_nil ?_
 refine Vc.ret ?_
 refine outs_ret ?_
 refine done_mk (Sl.v (Sl.mk (some a) 1 1)) (res1 (resC_tmp (by kernel_rfl))) ?_
 exact ⟨(Sl.mk (some a) 1 1), rfl, h⟩
theorem halyardref03_All.go {w : World} {k : Value → World → Prop} (h : halyardref03_All w fun r0 w'=>k (Sl.v r0) w') : callS Tryz.prog 49 [] w k := (halyardref03_All.sound w _ h).mono (by rintro _ _ ⟨r0, rfl, h⟩; exact h)
def span_In (l : Sl) (zz0 : Int) (zz1 : Int) (zz2 : Int) (w : World) (R : Bool → World → Prop) : Prop :=
 newS w [(Value.int .i64 zz0), (Value.int .i64 zz1), (Value.int .i64 zz2)] 30 fun a vw=>callS Tryz.prog 91 [(Sl.v l)] vw fun v vw1=>∃ (t6 : Bool), v = (Value.bool t6) ∧ ∃ (zz10 : Int) (zz11 : Int) (zz12 : Int), grd t6 (ldc vw1 a [(Value.int .i64 zz10), (Value.int .i64 zz11), (Value.int .i64 zz12)]) ∧ gCall t6 (fun (t9 : Bool) (vw2 : World)=>bnd (t6 && t9) fun (b : Bool)=>gCall b (fun (t14 : Bool) (vw5 : World)=>R (b && t14) vw5) (fun q=>callS Tryz.prog 98 [(Sl.v l), (Value.func (.func 99) #[] #[(Value.pointer (some a))])] vw2 fun v6 vw5=>∃ (t14 : Bool), v6 = (Value.bool t14) ∧ q t14 vw5) (fun q=>q false vw2)) (fun q=>callS Tryz.prog 97 [(Value.agg #[(Value.int .i64 zz10), (Value.int .i64 zz11), (Value.int .i64 zz12)])] vw1 fun v3 vw2=>∃ (t9 : Bool), v3 = (Value.bool t9) ∧ q t9 vw2) (fun q=>q false vw1)
set_option maxHeartbeats 8000000 in
theorem span_In.sound (l : Sl) (zz0 : Int) (zz1 : Int) (zz2 : Int) (w : World) (R : Bool → World → Prop) (h : span_In l zz0 zz1 zz2 w R) : callS Tryz.prog 53 [(Sl.v l), (Value.agg #[(Value.int .i64 zz0), (Value.int .i64 zz1), (Value.int .i64 zz2)])] w (fun v w'=>∃ (r0 : Bool), v = (Value.bool r0) ∧ R r0 w') := by
 unfold span_In at h
 refine calls_of_vc 16 rfl Tryz.func53 rfl (by kernel_rfl) (by simp) ?_
 refine Vc.seq ?_
 refine Vc.region ?_
 refine vcL_eff rfl (opVC_new rfl (fun a=>Value.pointer (some a)) (by kernel_rfl) (newS.mono h fun a vw hx h=>?_))
 refine vcL_pure rfl rfl (Value.bool false) (fun w=>by kernel_rfl) ?_
 refine vcL_nil ?_
 refine Vc.seq ?_
 refine Vc.region ?_
 refine vcL_pure rfl rfl (Sl.v l) (fun w=>by kernel_rfl) ?_
 refine vcL_eff rfl (opVC_call rfl (by kernel_rfl) (callS.mono h fun v vw1 h=>?_))
 obtain ⟨t6, rfl, h⟩ := h
 refine vcL_pure rfl rfl (Value.bool t6) (fun w=>by kernel_rfl) ?_
 obtain ⟨zz10, zz11, zz12, hc, h⟩ := h
 refine vcL_guard t6 (wanted_g (d := 7) rfl (by kernel_rfl) t6 (by kernel_rfl) t6 (eqT t6)) rfl (Value.agg #[(Value.int .i64 zz10), (Value.int .i64 zz11), (Value.int .i64 zz12)]) (fun hg=>by subst hg; exact exec_load rfl (by kernel_rfl) (run_loadN (fun w=>by kernel_rfl) (fun w=>by kernel_rfl) ((hc rfl)))) ?_
 obtain ⟨vJ, hJ, h⟩ := gCall_elim h
 refine vcL_effJ (σ := Bool) t6 (wanted_g (d := 7) rfl (by kernel_rfl) t6 (by kernel_rfl) t6 (eqT t6)) rfl (fun s w=>vJ s w) (fun s=>(Value.bool s)) ?_ (fun hg=>opVC_call rfl (by subst hg; kernel_rfl) (callS.mono (h.1 hg) fun v3 vw2 hq=>?_)) (fun hg=>⟨false, h.2 hg⟩)
 ·intro t9 vw2 h
  subst hJ
  refine vcL_pure rfl rfl (Value.bool (t6 && t9)) (fun w=>by cases t6 <;> kernel_rfl) ?_
  obtain ⟨b, hb⟩ : ∃ y, y = (t6 && t9) := ⟨_, rfl⟩
  have h := h b hb
  refine vcL_pure rfl rfl (Value.bool b) (fun w=>by rw [hb]; kernel_rfl) ?_
  refine vcL_guardP b (wanted_g (d := 11) rfl (by kernel_rfl) b (by kernel_rfl) b (eqT b)) rfl (Sl.v l) (fun hg w=>by subst hg; kernel_rfl) ?_
  refine vcL_guardP b (wanted_g (d := 11) rfl (by kernel_rfl) b (by kernel_rfl) b (eqT b)) rfl (Value.func (.func 99) #[] #[(Value.pointer (some a))]) (fun hg w=>by subst hg; kernel_rfl) ?_
  obtain ⟨vJ8, hJ9, h⟩ := gCall_elim h
  refine vcL_effJ (σ := Bool) b (wanted_g (d := 11) rfl (by kernel_rfl) b (by kernel_rfl) b (eqT b)) rfl (fun s w=>vJ8 s w) (fun s=>(Value.bool s)) ?_ (fun hg=>opVC_call rfl (by subst hg; kernel_rfl) (callS.mono (h.1 hg) fun v6 vw5 hq=>?_)) (fun hg=>⟨false, h.2 hg⟩)
  ·intro t14 vw5 h
   subst hJ9
   refine vcL_pure rfl rfl (Value.bool (b && t14)) (fun w=>by cases b <;> kernel_rfl) ?_
   refine vcL_pure rfl rfl (Value.bool (b && t14)) (fun w=>by kernel_rfl) ?_
   refine vcL_nil ?_
   refine Vc.ret ?_
   refine outs_ret ?_
   refine done_mk (Value.bool (b && t14)) (res1 (resC_tmp (by kernel_rfl))) ?_
   exact ⟨(b && t14), rfl, h⟩
  ·obtain ⟨t14, rfl, hq⟩ := hq
   exact ⟨t14, rfl, hq⟩
 ·obtain ⟨t9, rfl, hq⟩ := hq
  exact ⟨t9, rfl, hq⟩
theorem span_In.go {l : Sl} {zz0 : Int} {zz1 : Int} {zz2 : Int} {w : World} {k : Value → World → Prop} (h : span_In l zz0 zz1 zz2 w fun r0 w'=>k (Value.bool r0) w') : callS Tryz.prog 53 [(Sl.v l), (Value.agg #[(Value.int .i64 zz0), (Value.int .i64 zz1), (Value.int .i64 zz2)])] w k := (span_In.sound l zz0 zz1 zz2 w _ h).mono (by rintro _ _ ⟨r0, rfl, h⟩; exact h)
def halyardref05_less (a : ByteArray) (b : ByteArray) (w : World) (R : Bool → World → Prop) : Prop :=
 loop1 0 w fun i vw nxt=>bnd (decide (i < (a.size : Int))) fun (b1 : Bool)=>(((b1 && (decide (i < (b.size : Int)))) = true → bnd vw.drew fun (vw2 : World)=>((0 : Int) ≤ i ∧ i < (a.size : Int)) ∧ ((0 : Int) ≤ i ∧ i < (b.size : Int)) ∧ ((¬ (bAt a i) = (bAt b i) → bnd vw2.drew fun (vw4 : World)=>((0 : Int) ≤ i ∧ i < (a.size : Int)) ∧ ((0 : Int) ≤ i ∧ i < (b.size : Int)) ∧ R (decide ((bAt a i) < (bAt b i))) vw4) ∧ (¬ (¬ (bAt a i) = (bAt b i)) → nxt (wrapI (i + 1)) vw2))) ∧ ((b1 && (decide (i < (b.size : Int)))) = false → R (decide ((a.size : Int) < (b.size : Int))) vw))
set_option maxHeartbeats 8000000 in
theorem halyardref05_less.sound (a : ByteArray) (b : ByteArray) (w : World) (R : Bool → World → Prop) (h : halyardref05_less a b w R) : callS Tryz.prog 59 [(Value.string a), (Value.string b)] w (fun v w'=>∃ (r0 : Bool), v = (Value.bool r0) ∧ R r0 w') := by
 unfold halyardref05_less at h
 refine calls_of_vc 37 rfl Tryz.func59 rfl (by kernel_rfl) (by simp) ?_
 refine Vc.seq ?_
 refine Vc.region ?_
 refine vcL_pure rfl rfl (Value.bool false) (fun w=>by kernel_rfl) ?_
 refine vcL_nil ?_
 refine Vc.seq ?_
 refine Vc.seq ?_
 refine Vc.region ?_
 refine vcL_pure rfl rfl (Value.int .i64 0) (fun w=>by kernel_rfl) ?_
 refine vcL_nil ?_
 refine Vc.block ?_
 obtain ⟨vI, mu, h, hr⟩ := h
 refine Vc.loopJ (σ := Int) [5] [4, 6, 7, 8, 9, 10, 11, 12, 13, 14, 15, 16, 17, 18, 19, 20, 21, 22, 23, 24, 25, 26, 27, 28, 29, 30, 31] (fun s=>[(5, (Value.int .i64 s))]) (fun s w=>vI s w) (fun s w=>mu s w) 0 h (fun _ => rfl) (by kernel_rfl) ?_
 intro i vw j h
 have h := hr i vw h
 refine Vc.seq ?_
 refine Vc.seq ?_
 refine Vc.region ?_
 refine vcL_purs 4 [(9, (Value.bool (decide (i < (a.size : Int))))), (8, (Value.int .i64 (a.size : Int))), (7, (Value.string a)), (6, (Value.int .i64 i))] (by kernel_rfl) ?_
 obtain ⟨b1, hb1⟩ : ∃ y, y = (decide (i < (a.size : Int))) := ⟨_, rfl⟩
 have h := h b1 hb1
 refine vcL_pure rfl rfl (Value.bool b1) (fun w=>by rw [hb1]; kernel_rfl) ?_
 refine vcL_guardP b1 (wanted_g (d := 10) rfl (by kernel_rfl) b1 (by kernel_rfl) b1 (eqT b1)) rfl (Value.int .i64 i) (fun hg w=>by subst hg; kernel_rfl) ?_
 refine vcL_guardP b1 (wanted_g (d := 10) rfl (by kernel_rfl) b1 (by kernel_rfl) b1 (eqT b1)) rfl (Value.string b) (fun hg w=>by subst hg; kernel_rfl) ?_
 refine vcL_guardP b1 (wanted_g (d := 10) rfl (by kernel_rfl) b1 (by kernel_rfl) b1 (eqT b1)) rfl (Value.int .i64 (b.size : Int)) (fun hg w=>by subst hg; kernel_rfl) ?_
 refine vcL_guardP b1 (wanted_g (d := 10) rfl (by kernel_rfl) b1 (by kernel_rfl) b1 (eqT b1)) rfl (Value.bool (decide (i < (b.size : Int)))) (fun hg w=>by subst hg; kernel_rfl) ?_
 refine vcL_pure rfl rfl (Value.bool (b1 && (decide (i < (b.size : Int))))) (fun w=>by cases b1 <;> kernel_rfl) ?_
 refine vcL_nil ?_
 refine Vc.cond (b1 && (decide (i < (b.size : Int)))) (by kernel_rfl) (fun hb=>?_) (fun hb=>?_)
 ·have h := h.1 (hb)
  refine Vc.skip ?_
  refine Vc.seq ?_
  refine Vc.block ?_
  refine Vc.seq ?_
  obtain ⟨vw2, hvw2⟩ : ∃ y, y = vw.drew := ⟨_, rfl⟩
  have h := h vw2 hvw2
  refine Vc.draw (by kernel_rfl) (fun i=>!(memN [] i)) (.pur 0 (.pur 1 (.pur 2 (.pur 3 (.pur 4 (.pur 5 (.pur 6 .fin))))))) (by kernel_rfl) ?_
  rw [← hvw2]
  clear hvw2
  refine vcS_pure rfl rfl rfl (Value.string a) (fun w=>by kernel_rfl) ?_
  refine vcS_pure rfl rfl rfl (Value.int .i64 i) (fun w=>by kernel_rfl) ?_
  obtain ⟨hi, h⟩ := h
  refine vcS_pure rfl rfl rfl (Value.int .u8 (bAt a i)) (fun w=>by exact exec_indexStr (s := a) (k := .i64) rfl (by kernel_rfl) (by kernel_rfl) (by kernel_rfl) (hi).1 (hi).2 w) ?_
  refine vcS_pure rfl rfl rfl (Value.string b) (fun w=>by kernel_rfl) ?_
  refine vcS_pure rfl rfl rfl (Value.int .i64 i) (fun w=>by kernel_rfl) ?_
  obtain ⟨hi3, h⟩ := h
  refine vcS_pure rfl rfl rfl (Value.int .u8 (bAt b i)) (fun w=>by exact exec_indexStr (s := b) (k := .i64) rfl (by kernel_rfl) (by kernel_rfl) (by kernel_rfl) (hi3).1 (hi3).2 w) ?_
  refine vcS_pure rfl rfl rfl (Value.bool (!((bAt a i) == (bAt b i)))) (fun w=>by kernel_rfl) ?_
  refine vcS_fin ?_
  refine Vc.cond (!((bAt a i) == (bAt b i))) (by kernel_rfl) (fun hb=>?_) (fun hb=>?_)
  ·have h := h.1 (ne_of_nbeq hb)
   refine Vc.seq ?_
   obtain ⟨vw4, hvw4⟩ : ∃ y, y = vw2.drew := ⟨_, rfl⟩
   have h := h vw4 hvw4
   refine Vc.draw (by kernel_rfl) (fun i=>!(memN [] i)) (.pur 0 (.pur 1 (.pur 2 (.pur 3 (.pur 4 (.pur 5 (.pur 6 (.pur 7 .fin)))))))) (by kernel_rfl) ?_
   rw [← hvw4]
   clear hvw4
   refine vcS_pure rfl rfl rfl (Value.string a) (fun w=>by kernel_rfl) ?_
   refine vcS_pure rfl rfl rfl (Value.int .i64 i) (fun w=>by kernel_rfl) ?_
   obtain ⟨hi5, h⟩ := h
   refine vcS_pure rfl rfl rfl (Value.int .u8 (bAt a i)) (fun w=>by exact exec_indexStr (s := a) (k := .i64) rfl (by kernel_rfl) (by kernel_rfl) (by kernel_rfl) (hi5).1 (hi5).2 w) ?_
   refine vcS_pure rfl rfl rfl (Value.string b) (fun w=>by kernel_rfl) ?_
   refine vcS_pure rfl rfl rfl (Value.int .i64 i) (fun w=>by kernel_rfl) ?_
   obtain ⟨hi6, h⟩ := h
   refine vcS_pure rfl rfl rfl (Value.int .u8 (bAt b i)) (fun w=>by exact exec_indexStr (s := b) (k := .i64) rfl (by kernel_rfl) (by kernel_rfl) (by kernel_rfl) (hi6).1 (hi6).2 w) ?_
   refine vcS_pure rfl rfl rfl (Value.bool (decide ((bAt a i) < (bAt b i)))) (fun w=>by kernel_rfl) ?_
   refine vcS_pure rfl rfl rfl (Value.bool (decide ((bAt a i) < (bAt b i)))) (fun w=>by kernel_rfl) ?_
   refine vcS_fin ?_
   refine Vc.ret ?_
   refine outOf_ret ?_
   refine outOf_ret ?_
   refine outs_ret ?_
   refine done_mk (Value.bool (decide ((bAt a i) < (bAt b i)))) (res1 (resC_tmp (by kernel_rfl))) ?_
   exact ⟨(decide ((bAt a i) < (bAt b i))), rfl, h⟩
  ·have h := h.2 (nne_of_nbeq hb)
   refine Vc.skip ?_
   refine Vc.region ?_
   refine vcL_purs 3 [(5, (Value.int .i64 (wrapI (i + 1)))), (17, (Value.int .i64 (wrapI (i + 1)))), (16, (Value.int .i64 i))] (by kernel_rfl) ?_
   refine vcL_nil ?_
   exact ⟨(wrapI (i + 1)), 48, ⟨rfl, by kernel_rfl, by kernel_rfl, by kernel_rfl⟩, h⟩
 ·have h := h.2 (hb)
  refine Vc.exit ?_
  refine outOf_hit ?_
  refine Vc.seq ?_
  refine Vc.region ?_
  refine vcL_purs 6 [(4, (Value.bool (decide ((a.size : Int) < (b.size : Int))))), (36, (Value.bool (decide ((a.size : Int) < (b.size : Int))))), (35, (Value.int .i64 (b.size : Int))), (34, (Value.string b)), (33, (Value.int .i64 (a.size : Int))), (32, (Value.string a))] (by kernel_rfl) ?_
  refine vcL_nil ?_
  refine Vc.ret ?_
  refine outs_ret ?_
  refine done_mk (Value.bool (decide ((a.size : Int) < (b.size : Int)))) (res1 (resC_tmp (by kernel_rfl))) ?_
  exact ⟨(decide ((a.size : Int) < (b.size : Int))), rfl, h⟩
theorem halyardref05_less.go {a : ByteArray} {b : ByteArray} {w : World} {k : Value → World → Prop} (h : halyardref05_less a b w fun r0 w'=>k (Value.bool r0) w') : callS Tryz.prog 59 [(Value.string a), (Value.string b)] w k := (halyardref05_less.sound a b w _ h).mono (by rintro _ _ ⟨r0, rfl, h⟩; exact h)
def halyardlaw08_deps (l : Sl) (w : World) (R : Sl → World → Prop) : Prop :=
 loop2 Sl.nil 0 w fun out i vw nxt=>((i < (l.len : Int) → ∃ (ad : Addr), (l.a = some ad ∧ (0 : Int) ≤ i ∧ i < (l.len : Int)) ∧ ∃ (t17 : Sl), (ldc vw ((ad.add (i.toNat * 2)).add 1) [(Sl.v t17)]) ∧ appS Tryz.prog 53 53 Sl.nil (Sl.v t17) vw fun t18 vw1=>∃ (ad2 : Addr), (l.a = some ad2 ∧ (0 : Int) ≤ i ∧ i < (l.len : Int)) ∧ ∃ (t24 : ByteArray), (ldc vw1 (ad2.add (i.toNat * 2)) [(Value.string t24)]) ∧ newS vw1 [(Value.string t24), (Sl.v t18)] 81 fun a vw5=>appS Tryz.prog 23 23 out (Sl.v (Sl.mk (some a) 1 1)) vw5 fun t28 vw6=>nxt t28 (wrapI (i + 1)) vw6) ∧ (¬ (i < (l.len : Int)) → R out vw))
set_option maxHeartbeats 8000000 in
theorem halyardlaw08_deps.sound (l : Sl) (w : World) (R : Sl → World → Prop) (h : halyardlaw08_deps l w R) : callS Tryz.prog 60 [(Sl.v l)] w (fun v w'=>∃ (r0 : Sl), v = (Sl.v r0) ∧ R r0 w') := by
 unfold halyardlaw08_deps at h
 refine calls_of_vc 30 rfl Tryz.func60 rfl (by kernel_rfl) (by simp) ?_
 refine Vc.seq ?_
 refine Vc.region ?_
 refine vcL_pure rfl rfl (Sl.v Sl.nil) (fun w=>by kernel_rfl) ?_
 refine vcL_nil ?_
 refine Vc.seq ?_
 refine Vc.region ?_
 refine vcL_pure rfl rfl (Sl.v Sl.nil) (fun w=>by kernel_rfl) ?_
 refine vcL_nil ?_
 refine Vc.seq ?_
 refine Vc.seq ?_
 refine Vc.region ?_
 refine vcL_pure rfl rfl (Value.int .i64 0) (fun w=>by kernel_rfl) ?_
 refine vcL_nil ?_
 refine Vc.block ?_
 obtain ⟨vI, mu, h, hr⟩ := h
 refine Vc.loopJ (σ := Sl × Int) [3, 4] [5, 6, 7, 8, 9, 10, 11, 12, 13, 14, 15, 16, 17, 18, 19, 20, 21, 22, 23, 24, 25, 26, 27, 28] (fun s=>[(3, (Sl.v s.1)), (4, (Value.int .i64 s.2))]) (fun s w=>vI s.1 s.2 w) (fun s w=>mu s.1 s.2 w) (Sl.nil, 0) h (fun _ => rfl) (by kernel_rfl) ?_
 rintro ⟨out, i⟩ vw j h
 have h := hr out i vw h
 refine Vc.seq ?_
 refine Vc.seq ?_
 refine Vc.region ?_
 refine vcL_purs 4 [(9, (Value.bool (decide (i < (l.len : Int))))), (8, (Value.int .i64 (l.len : Int))), (7, (Sl.v l)), (6, (Value.int .i64 i))] (by kernel_rfl) ?_
 refine vcL_nil ?_
 refine Vc.cond (decide (i < (l.len : Int))) (by kernel_rfl) (fun hb=>?_) (fun hb=>?_)
 ·have h := h.1 (of_decide_eq_true hb)
  refine Vc.skip ?_
  refine Vc.seq ?_
  refine Vc.block ?_
  refine Vc.seq ?_
  refine Vc.region ?_
  refine vcL_pure rfl rfl (Sl.v Sl.nil) (fun w=>by kernel_rfl) ?_
  refine vcL_nil ?_
  refine Vc.seq ?_
  refine Vc.region ?_
  refine vcL_purs 3 [(14, (Value.int .i64 i)), (13, (Sl.v l)), (12, (Sl.v Sl.nil))] (by kernel_rfl) ?_
  obtain ⟨ad, hi, h⟩ := h
  refine vcL_pure rfl rfl (Value.pointer (some (ad.add (i.toNat * 2)))) (fun w=>by exact exec_indexAt (s := l) (el := 81) rfl (by kernel_rfl) (by kernel_rfl) (by kernel_rfl) (fun w=>by kernel_rfl) (hi).1 (hi).2.1 (hi).2.2 w) ?_
  refine vcL_pure rfl rfl (Value.pointer (some ((ad.add (i.toNat * 2)).add 1))) (fun w=>by kernel_rfl) ?_
  obtain ⟨t17, hc, h⟩ := h
  refine vcL_val rfl rfl (Sl.v t17) (exec_load rfl (by kernel_rfl) (run_load1 (fun w=>by kernel_rfl) ((hc)))) ?_
  refine vcL_eff rfl (opVC_sem rfl (c := Builtin.append_ #[53, 53] 53 #[(Sl.v Sl.nil), (Sl.v t17)]) (by kernel_rfl) (appS.elim (ty := 53) h fun t18 vw1 h=>?_))
  refine vcL_pure rfl rfl (Sl.v t18) (fun w=>by kernel_rfl) ?_
  refine vcL_nil ?_
  refine Vc.region ?_
  refine vcL_purs 3 [(21, (Value.int .i64 i)), (20, (Sl.v l)), (19, (Sl.v out))] (by kernel_rfl) ?_
  obtain ⟨ad2, hi3, h⟩ := h
  refine vcL_pure rfl rfl (Value.pointer (some (ad2.add (i.toNat * 2)))) (fun w=>by exact exec_indexAt (s := l) (el := 81) rfl (by kernel_rfl) (by kernel_rfl) (by kernel_rfl) (fun w=>by kernel_rfl) (hi3).1 (hi3).2.1 (hi3).2.2 w) ?_
  refine vcL_pure rfl rfl (Value.pointer (some (ad2.add (i.toNat * 2)))) (fun w=>by kernel_rfl) ?_
  obtain ⟨t24, hc4, h⟩ := h
  refine vcL_val rfl rfl (Value.string t24) (exec_load rfl (by kernel_rfl) (run_load1 (fun w=>by kernel_rfl) ((hc4)))) ?_
  refine vcL_purs 2 [(26, (Value.agg #[(Value.string t24), (Sl.v t18)])), (25, (Sl.v t18))] (by kernel_rfl) ?_
  refine vcL_eff rfl (opVC_new rfl (fun a=>Value.slice (some a) 1 1) (by kernel_rfl) (newS.mono h fun a vw5 hx h=>?_))
  refine vcL_eff rfl (opVC_sem rfl (c := Builtin.append_ #[23, 23] 23 #[(Sl.v out), (Sl.v (Sl.mk (some a) 1 1))]) (by kernel_rfl) (appS.elim (ty := 23) h fun t28 vw6 h=>?_))
  refine vcL_pure rfl rfl (Sl.v t28) (fun w=>by kernel_rfl) ?_
  refine vcL_nil ?_
  refine Vc.region ?_
  refine vcL_purs 3 [(4, (Value.int .i64 (wrapI (i + 1)))), (11, (Value.int .i64 (wrapI (i + 1)))), (10, (Value.int .i64 i))] (by kernel_rfl) ?_
  refine vcL_nil ?_
  exact ⟨(t28, (wrapI (i + 1))), 53, ⟨rfl, by kernel_rfl, by kernel_rfl, by kernel_rfl⟩, h⟩
 ·have h := h.2 (of_decide_eq_false hb)
  refine Vc.exit ?_
  refine outOf_hit ?_
  refine Vc.seq ?_
  refine Vc.region ?_
  refine vcL_purs 2 [(2, (Sl.v out)), (29, (Sl.v out))] (by kernel_rfl) ?_
  refine vcL_nil ?_
  refine Vc.ret ?_
  refine outs_ret ?_
  refine done_mk (Sl.v out) (res1 (resC_tmp (by kernel_rfl))) ?_
  exact ⟨out, rfl, h⟩
theorem halyardlaw08_deps.go {l : Sl} {w : World} {k : Value → World → Prop} (h : halyardlaw08_deps l w fun r0 w'=>k (Sl.v r0) w') : callS Tryz.prog 60 [(Sl.v l)] w k := (halyardlaw08_deps.sound l w _ h).mono (by rintro _ _ ⟨r0, rfl, h⟩; exact h)
def pack_May (zza : ByteArray) (zzd : Int) (zze : Int) (zzf : Int) (zz9 : Sl) (zzc : Sl) (zzb : Sl) (w : World) (R : Bool → World → Prop) : Prop :=
 newS w [(Value.string zza), (Value.int .i64 zzd), (Value.int .i64 zze), (Value.int .i64 zzf), (Sl.v zz9), (Sl.v zzc), (Sl.v zzb)] 48 fun a vw=>∃ (t4 : ByteArray), (ldc vw a [(Value.string t4)]) ∧ callS Tryz.prog 104 [(Value.string t4)] vw fun v vw1=>∃ (t5 : Bool), v = (Value.bool t5) ∧ ∃ (zz10 : Int) (zz11 : Int) (zz12 : Int), grd t5 (ldc vw1 (a.add 1) [(Value.int .i64 zz10), (Value.int .i64 zz11), (Value.int .i64 zz12)]) ∧ gCall t5 (fun (t9 : Bool) (vw3 : World)=>bnd (t5 && t9) fun (b : Bool)=>∃ (t13 : Sl), grd b (ldc vw3 (a.add 4) [(Sl.v t13)]) ∧ gCall b (fun (t14 : Bool) (vw7 : World)=>bnd (b && t14) fun (b12 : Bool)=>∃ (t18 : Sl), grd b12 (ldc vw7 (a.add 5) [(Sl.v t18)]) ∧ gCall b12 (fun (t19 : Bool) (vw14 : World)=>bnd (b12 && t19) fun (b19 : Bool)=>∃ (t23 : Sl), grd b19 (ldc vw14 (a.add 6) [(Sl.v t23)]) ∧ gCall b19 (fun (t24 : Bool) (vw21 : World)=>bnd (b19 && t24) fun (b26 : Bool)=>∃ (t28 : Sl), grd b26 (ldc vw21 (a.add 4) [(Sl.v t28)]) ∧ ∃ (t30 : Sl), grd b26 (ldc vw21 (a.add 5) [(Sl.v t30)]) ∧ ∃ (t32 : Sl), grd b26 (ldc vw21 (a.add 6) [(Sl.v t32)]) ∧ gCall b26 (fun (a30 : Addr) (vw31 : World)=>gCall b26 (fun (t34 : Bool) (vw34 : World)=>bnd (b26 && t34) fun (b39 : Bool)=>∃ (zz41 : ByteArray) (zz44 : Int) (zz45 : Int) (zz46 : Int) (zz40 : Sl) (zz43 : Sl) (zz42 : Sl), grd b39 (ldc vw34 a [(Value.string zz41), (Value.int .i64 zz44), (Value.int .i64 zz45), (Value.int .i64 zz46), (Sl.v zz40), (Sl.v zz43), (Sl.v zz42)]) ∧ gCall b39 (fun (t38 : ByteArray) (vw41 : World)=>R (b39 && (decide ((t38.size : Int) ≤ 4096))) vw41) (fun q=>callS Tryz.prog 107 [(Value.agg #[(Value.string zz41), (Value.int .i64 zz44), (Value.int .i64 zz45), (Value.int .i64 zz46), (Sl.v zz40), (Sl.v zz43), (Sl.v zz42)])] vw34 fun v42 vw41=>∃ (t38 : ByteArray), v42 = (Value.string t38) ∧ q t38 vw41) (fun q=>q (ByteArray.mk #[]) vw34)) (fun q=>callS Tryz.prog 106 [(Sl.v (Sl.mk (some a30) 3 3))] vw31 fun v35 vw34=>∃ (t34 : Bool), v35 = (Value.bool t34) ∧ q t34 vw34) (fun q=>q false vw31)) (fun q=>newS vw21 [(Sl.v t28), (Sl.v t30), (Sl.v t32)] 23 q) (fun q=>q ⟨0, 0, none⟩ vw21)) (fun q=>callS Tryz.prog 105 [(Sl.v t23)] vw14 fun v22 vw21=>∃ (t24 : Bool), v22 = (Value.bool t24) ∧ q t24 vw21) (fun q=>q false vw14)) (fun q=>callS Tryz.prog 105 [(Sl.v t18)] vw7 fun v15 vw14=>∃ (t19 : Bool), v15 = (Value.bool t19) ∧ q t19 vw14) (fun q=>q false vw7)) (fun q=>callS Tryz.prog 105 [(Sl.v t13)] vw3 fun v8 vw7=>∃ (t14 : Bool), v8 = (Value.bool t14) ∧ q t14 vw7) (fun q=>q false vw3)) (fun q=>callS Tryz.prog 97 [(Value.agg #[(Value.int .i64 zz10), (Value.int .i64 zz11), (Value.int .i64 zz12)])] vw1 fun v4 vw3=>∃ (t9 : Bool), v4 = (Value.bool t9) ∧ q t9 vw3) (fun q=>q false vw1)
set_option maxHeartbeats 8000000 in
theorem pack_May.sound (zza : ByteArray) (zzd : Int) (zze : Int) (zzf : Int) (zz9 : Sl) (zzc : Sl) (zzb : Sl) (w : World) (R : Bool → World → Prop) (h : pack_May zza zzd zze zzf zz9 zzc zzb w R) : callS Tryz.prog 61 [(Value.agg #[(Value.string zza), (Value.int .i64 zzd), (Value.int .i64 zze), (Value.int .i64 zzf), (Sl.v zz9), (Sl.v zzc), (Sl.v zzb)])] w (fun v w'=>∃ (r0 : Bool), v = (Value.bool r0) ∧ R r0 w') := by
 unfold pack_May at h
 refine calls_of_vc 42 rfl Tryz.func61 rfl (by kernel_rfl) (by simp) ?_
 refine Vc.seq ?_
 refine Vc.region ?_
 refine vcL_eff rfl (opVC_new rfl (fun a=>Value.pointer (some a)) (by kernel_rfl) (newS.mono h fun a vw hx h=>?_))
 refine vcL_pure rfl rfl (Value.bool false) (fun w=>by kernel_rfl) ?_
 refine vcL_nil ?_
 refine Vc.seq ?_
 refine Vc.region ?_
 refine vcL_pure rfl rfl (Value.pointer (some a)) (fun w=>by kernel_rfl) ?_
 obtain ⟨t4, hc, h⟩ := h
 refine vcL_val rfl rfl (Value.string t4) (exec_load rfl (by kernel_rfl) (run_load1 (fun w=>by kernel_rfl) ((hc)))) ?_
 refine vcL_eff rfl (opVC_call rfl (by kernel_rfl) (callS.mono h fun v vw1 h=>?_))
 obtain ⟨t5, rfl, h⟩ := h
 refine vcL_pure rfl rfl (Value.bool t5) (fun w=>by kernel_rfl) ?_
 refine vcL_guardP t5 (wanted_g (d := 6) rfl (by kernel_rfl) t5 (by kernel_rfl) t5 (eqT t5)) rfl (Value.pointer (some (a.add 1))) (fun hg w=>by subst hg; kernel_rfl) ?_
 obtain ⟨zz10, zz11, zz12, hc2, h⟩ := h
 refine vcL_guard t5 (wanted_g (d := 6) rfl (by kernel_rfl) t5 (by kernel_rfl) t5 (eqT t5)) rfl (Value.agg #[(Value.int .i64 zz10), (Value.int .i64 zz11), (Value.int .i64 zz12)]) (fun hg=>by subst hg; exact exec_load rfl (by kernel_rfl) (run_loadN (fun w=>by kernel_rfl) (fun w=>by kernel_rfl) ((hc2 rfl)))) ?_
 obtain ⟨vJ, hJ, h⟩ := gCall_elim h
 refine vcL_effJ (σ := Bool) t5 (wanted_g (d := 6) rfl (by kernel_rfl) t5 (by kernel_rfl) t5 (eqT t5)) rfl (fun s w=>vJ s w) (fun s=>(Value.bool s)) ?_ (fun hg=>opVC_call rfl (by subst hg; kernel_rfl) (callS.mono (h.1 hg) fun v4 vw3 hq=>?_)) (fun hg=>⟨false, h.2 hg⟩)
 ·intro t9 vw3 h
  subst hJ
  refine vcL_pure rfl rfl (Value.bool (t5 && t9)) (fun w=>by cases t5 <;> kernel_rfl) ?_
  obtain ⟨b, hb⟩ : ∃ y, y = (t5 && t9) := ⟨_, rfl⟩
  have h := h b hb
  refine vcL_pure rfl rfl (Value.bool b) (fun w=>by rw [hb]; kernel_rfl) ?_
  refine vcL_guardP b (wanted_g (d := 11) rfl (by kernel_rfl) b (by kernel_rfl) b (eqT b)) rfl (Value.pointer (some (a.add 4))) (fun hg w=>by subst hg; kernel_rfl) ?_
  obtain ⟨t13, hc6, h⟩ := h
  refine vcL_guard b (wanted_g (d := 11) rfl (by kernel_rfl) b (by kernel_rfl) b (eqT b)) rfl (Sl.v t13) (fun hg=>by subst hg; exact exec_load rfl (by kernel_rfl) (run_load1 (fun w=>by kernel_rfl) ((hc6 rfl)))) ?_
  obtain ⟨vJ10, hJ11, h⟩ := gCall_elim h
  refine vcL_effJ (σ := Bool) b (wanted_g (d := 11) rfl (by kernel_rfl) b (by kernel_rfl) b (eqT b)) rfl (fun s w=>vJ10 s w) (fun s=>(Value.bool s)) ?_ (fun hg=>opVC_call rfl (by subst hg; kernel_rfl) (callS.mono (h.1 hg) fun v8 vw7 hq=>?_)) (fun hg=>⟨false, h.2 hg⟩)
  ·intro t14 vw7 h
   subst hJ11
   refine vcL_pure rfl rfl (Value.bool (b && t14)) (fun w=>by cases b <;> kernel_rfl) ?_
   obtain ⟨b12, hb12⟩ : ∃ y, y = (b && t14) := ⟨_, rfl⟩
   have h := h b12 hb12
   refine vcL_pure rfl rfl (Value.bool b12) (fun w=>by rw [hb12]; kernel_rfl) ?_
   refine vcL_guardP b12 (wanted_g (d := 16) rfl (by kernel_rfl) b12 (by kernel_rfl) b12 (eqT b12)) rfl (Value.pointer (some (a.add 5))) (fun hg w=>by subst hg; kernel_rfl) ?_
   obtain ⟨t18, hc13, h⟩ := h
   refine vcL_guard b12 (wanted_g (d := 16) rfl (by kernel_rfl) b12 (by kernel_rfl) b12 (eqT b12)) rfl (Sl.v t18) (fun hg=>by subst hg; exact exec_load rfl (by kernel_rfl) (run_load1 (fun w=>by kernel_rfl) ((hc13 rfl)))) ?_
   obtain ⟨vJ17, hJ18, h⟩ := gCall_elim h
   refine vcL_effJ (σ := Bool) b12 (wanted_g (d := 16) rfl (by kernel_rfl) b12 (by kernel_rfl) b12 (eqT b12)) rfl (fun s w=>vJ17 s w) (fun s=>(Value.bool s)) ?_ (fun hg=>opVC_call rfl (by subst hg; kernel_rfl) (callS.mono (h.1 hg) fun v15 vw14 hq=>?_)) (fun hg=>⟨false, h.2 hg⟩)
   ·intro t19 vw14 h
    subst hJ18
    refine vcL_pure rfl rfl (Value.bool (b12 && t19)) (fun w=>by cases b12 <;> kernel_rfl) ?_
    obtain ⟨b19, hb19⟩ : ∃ y, y = (b12 && t19) := ⟨_, rfl⟩
    have h := h b19 hb19
    refine vcL_pure rfl rfl (Value.bool b19) (fun w=>by rw [hb19]; kernel_rfl) ?_
    refine vcL_guardP b19 (wanted_g (d := 21) rfl (by kernel_rfl) b19 (by kernel_rfl) b19 (eqT b19)) rfl (Value.pointer (some (a.add 6))) (fun hg w=>by subst hg; kernel_rfl) ?_
    obtain ⟨t23, hc20, h⟩ := h
    refine vcL_guard b19 (wanted_g (d := 21) rfl (by kernel_rfl) b19 (by kernel_rfl) b19 (eqT b19)) rfl (Sl.v t23) (fun hg=>by subst hg; exact exec_load rfl (by kernel_rfl) (run_load1 (fun w=>by kernel_rfl) ((hc20 rfl)))) ?_
    obtain ⟨vJ24, hJ25, h⟩ := gCall_elim h
    refine vcL_effJ (σ := Bool) b19 (wanted_g (d := 21) rfl (by kernel_rfl) b19 (by kernel_rfl) b19 (eqT b19)) rfl (fun s w=>vJ24 s w) (fun s=>(Value.bool s)) ?_ (fun hg=>opVC_call rfl (by subst hg; kernel_rfl) (callS.mono (h.1 hg) fun v22 vw21 hq=>?_)) (fun hg=>⟨false, h.2 hg⟩)
    ·intro t24 vw21 h
     subst hJ25
     refine vcL_pure rfl rfl (Value.bool (b19 && t24)) (fun w=>by cases b19 <;> kernel_rfl) ?_
     obtain ⟨b26, hb26⟩ : ∃ y, y = (b19 && t24) := ⟨_, rfl⟩
     have h := h b26 hb26
     refine vcL_pure rfl rfl (Value.bool b26) (fun w=>by rw [hb26]; kernel_rfl) ?_
     refine vcL_guardP b26 (wanted_g (d := 26) rfl (by kernel_rfl) b26 (by kernel_rfl) b26 (eqT b26)) rfl (Value.pointer (some (a.add 4))) (fun hg w=>by subst hg; kernel_rfl) ?_
     obtain ⟨t28, hc27, h⟩ := h
     refine vcL_guard b26 (wanted_g (d := 26) rfl (by kernel_rfl) b26 (by kernel_rfl) b26 (eqT b26)) rfl (Sl.v t28) (fun hg=>by subst hg; exact exec_load rfl (by kernel_rfl) (run_load1 (fun w=>by kernel_rfl) ((hc27 rfl)))) ?_
     refine vcL_guardP b26 (wanted_g (d := 26) rfl (by kernel_rfl) b26 (by kernel_rfl) b26 (eqT b26)) rfl (Value.pointer (some (a.add 5))) (fun hg w=>by subst hg; kernel_rfl) ?_
     obtain ⟨t30, hc28, h⟩ := h
     refine vcL_guard b26 (wanted_g (d := 26) rfl (by kernel_rfl) b26 (by kernel_rfl) b26 (eqT b26)) rfl (Sl.v t30) (fun hg=>by subst hg; exact exec_load rfl (by kernel_rfl) (run_load1 (fun w=>by kernel_rfl) ((hc28 rfl)))) ?_
     refine vcL_guardP b26 (wanted_g (d := 26) rfl (by kernel_rfl) b26 (by kernel_rfl) b26 (eqT b26)) rfl (Value.pointer (some (a.add 6))) (fun hg w=>by subst hg; kernel_rfl) ?_
     obtain ⟨t32, hc29, h⟩ := h
     refine vcL_guard b26 (wanted_g (d := 26) rfl (by kernel_rfl) b26 (by kernel_rfl) b26 (eqT b26)) rfl (Sl.v t32) (fun hg=>by subst hg; exact exec_load rfl (by kernel_rfl) (run_load1 (fun w=>by kernel_rfl) ((hc29 rfl)))) ?_
     obtain ⟨vJ32, hJ33, h⟩ := gCall_elim h
     refine vcL_effJ (σ := Addr) b26 (wanted_g (d := 26) rfl (by kernel_rfl) b26 (by kernel_rfl) b26 (eqT b26)) rfl (fun s w=>vJ32 s w) (fun a=>Value.slice (some a) 3 3) ?_ (fun hg=>opVC_new rfl (fun a=>Value.slice (some a) 3 3) (by subst hg; kernel_rfl) (newS.mono (h.1 hg) fun a w' hx hq=>?_)) (fun hg=>⟨⟨0, 0, none⟩, h.2 hg⟩)
     ·intro a30 vw31 h
      subst hJ33
      obtain ⟨vJ37, hJ38, h⟩ := gCall_elim h
      refine vcL_effJ (σ := Bool) b26 (wanted_g (d := 26) rfl (by kernel_rfl) b26 (by kernel_rfl) b26 (eqT b26)) rfl (fun s w=>vJ37 s w) (fun s=>(Value.bool s)) ?_ (fun hg=>opVC_call rfl (by subst hg; kernel_rfl) (callS.mono (h.1 hg) fun v35 vw34 hq=>?_)) (fun hg=>⟨false, h.2 hg⟩)
      ·intro t34 vw34 h
       subst hJ38
       refine vcL_pure rfl rfl (Value.bool (b26 && t34)) (fun w=>by cases b26 <;> kernel_rfl) ?_
       obtain ⟨b39, hb39⟩ : ∃ y, y = (b26 && t34) := ⟨_, rfl⟩
       have h := h b39 hb39
       refine vcL_pure rfl rfl (Value.bool b39) (fun w=>by rw [hb39]; kernel_rfl) ?_
       obtain ⟨zz41, zz44, zz45, zz46, zz40, zz43, zz42, hc40, h⟩ := h
       refine vcL_guard b39 (wanted_g (d := 36) rfl (by kernel_rfl) b39 (by kernel_rfl) b39 (eqT b39)) rfl (Value.agg #[(Value.string zz41), (Value.int .i64 zz44), (Value.int .i64 zz45), (Value.int .i64 zz46), (Sl.v zz40), (Sl.v zz43), (Sl.v zz42)]) (fun hg=>by subst hg; exact exec_load rfl (by kernel_rfl) (run_loadN (fun w=>by kernel_rfl) (fun w=>by kernel_rfl) ((hc40 rfl)))) ?_
       obtain ⟨vJ44, hJ45, h⟩ := gCall_elim h
       refine vcL_effJ (σ := ByteArray) b39 (wanted_g (d := 36) rfl (by kernel_rfl) b39 (by kernel_rfl) b39 (eqT b39)) rfl (fun s w=>vJ44 s w) (fun s=>(Value.string s)) ?_ (fun hg=>opVC_call rfl (by subst hg; kernel_rfl) (callS.mono (h.1 hg) fun v42 vw41 hq=>?_)) (fun hg=>⟨(ByteArray.mk #[]), h.2 hg⟩)
       ·intro t38 vw41 h
        subst hJ45
        refine vcL_guardP b39 (wanted_g (d := 36) rfl (by kernel_rfl) b39 (by kernel_rfl) b39 (eqT b39)) rfl (Value.int .i64 (t38.size : Int)) (fun hg w=>by subst hg; kernel_rfl) ?_
        refine vcL_guardP b39 (wanted_g (d := 36) rfl (by kernel_rfl) b39 (by kernel_rfl) b39 (eqT b39)) rfl (Value.bool (decide ((t38.size : Int) ≤ 4096))) (fun hg w=>by subst hg; kernel_rfl) ?_
        refine vcL_pure rfl rfl (Value.bool (b39 && (decide ((t38.size : Int) ≤ 4096)))) (fun w=>by cases b39 <;> kernel_rfl) ?_
        refine vcL_pure rfl rfl (Value.bool (b39 && (decide ((t38.size : Int) ≤ 4096)))) (fun w=>by kernel_rfl) ?_
        refine vcL_nil ?_
        refine Vc.ret ?_
        refine outs_ret ?_
        refine done_mk (Value.bool (b39 && (decide ((t38.size : Int) ≤ 4096)))) (res1 (resC_tmp (by kernel_rfl))) ?_
        exact ⟨(b39 && (decide ((t38.size : Int) ≤ 4096))), rfl, h⟩
       ·obtain ⟨t38, rfl, hq⟩ := hq
        exact ⟨t38, rfl, hq⟩
      ·obtain ⟨t34, rfl, hq⟩ := hq
       exact ⟨t34, rfl, hq⟩
     ·exact ⟨a, rfl, hq⟩
    ·obtain ⟨t24, rfl, hq⟩ := hq
     exact ⟨t24, rfl, hq⟩
   ·obtain ⟨t19, rfl, hq⟩ := hq
    exact ⟨t19, rfl, hq⟩
  ·obtain ⟨t14, rfl, hq⟩ := hq
   exact ⟨t14, rfl, hq⟩
 ·obtain ⟨t9, rfl, hq⟩ := hq
  exact ⟨t9, rfl, hq⟩
theorem pack_May.go {zza : ByteArray} {zzd : Int} {zze : Int} {zzf : Int} {zz9 : Sl} {zzc : Sl} {zzb : Sl} {w : World} {k : Value → World → Prop} (h : pack_May zza zzd zze zzf zz9 zzc zzb w fun r0 w'=>k (Value.bool r0) w') : callS Tryz.prog 61 [(Value.agg #[(Value.string zza), (Value.int .i64 zzd), (Value.int .i64 zze), (Value.int .i64 zzf), (Sl.v zz9), (Sl.v zzc), (Sl.v zzb)])] w k := (pack_May.sound zza zzd zze zzf zz9 zzc zzb w _ h).mono (by rintro _ _ ⟨r0, rfl, h⟩; exact h)
def catalog_copied (zza : ByteArray) (zzd : Int) (zze : Int) (zzf : Int) (zz9 : Sl) (zzc : Sl) (zzb : Sl) (w : World) (R : ByteArray → Int → Int → Int → Sl → Sl → Sl → World → Prop) : Prop :=
 newS w [(Value.string zza), (Value.int .i64 zzd), (Value.int .i64 zze), (Value.int .i64 zzf), (Sl.v zz9), (Sl.v zzc), (Sl.v zzb)] 48 fun a vw=>newS vw [(Value.string (ByteArray.mk #[])), (Value.int .i64 0), (Value.int .i64 0), (Value.int .i64 0), (Sl.v Sl.nil), (Sl.v Sl.nil), (Sl.v Sl.nil)] 48 fun a1 vw2=>bnd vw2.drew fun (vw3 : World)=>∃ (t4 : Sl), (ldc vw3 (a.add 4) [(Sl.v t4)]) ∧ ∃ (t7 : Sl), (ldc vw3 (a.add 5) [(Sl.v t7)]) ∧ ∃ (t10 : Sl), (ldc vw3 (a.add 6) [(Sl.v t10)]) ∧ callX Tryz.prog 108 [(Sl.v t4)] vw3 fun v vw6=>∃ (t5 : Sl), v = (Sl.v t5) ∧ callX Tryz.prog 108 [(Sl.v t7)] vw6 fun v8 vw7=>∃ (t8 : Sl), v8 = (Sl.v t8) ∧ callS Tryz.prog 108 [(Sl.v t10)] vw7 fun v11 vw10=>∃ (t11 : Sl), v11 = (Sl.v t11) ∧ stw vw10 (a.add 4) [(Sl.v t5)] fun vw13=>stw vw13 (a.add 5) [(Sl.v t8)] fun vw14=>stw vw14 (a.add 6) [(Sl.v t11)] fun vw15=>∃ (zz2j : ByteArray) (zz2m : Int) (zz2n : Int) (zz2o : Int) (zz2i : Sl) (zz2l : Sl) (zz2k : Sl), (ldc vw15 a [(Value.string zz2j), (Value.int .i64 zz2m), (Value.int .i64 zz2n), (Value.int .i64 zz2o), (Sl.v zz2i), (Sl.v zz2l), (Sl.v zz2k)]) ∧ stw vw15 a1 [(Value.string zz2j), (Value.int .i64 zz2m), (Value.int .i64 zz2n), (Value.int .i64 zz2o), (Sl.v zz2i), (Sl.v zz2l), (Sl.v zz2k)] fun vw17=>∃ (zz2v : ByteArray) (zz2z : Int) (zz30 : Int) (zz31 : Int) (zz2s : Sl) (zz2y : Sl) (zz2w : Sl), ldc vw17 a1 [(Value.string zz2v), (Value.int .i64 zz2z), (Value.int .i64 zz30), (Value.int .i64 zz31), (Sl.v zz2s), (Sl.v zz2y), (Sl.v zz2w)] ∧ R zz2v zz2z zz30 zz31 zz2s zz2y zz2w vw17
set_option maxHeartbeats 8000000 in
theorem catalog_copied.sound (zza : ByteArray) (zzd : Int) (zze : Int) (zzf : Int) (zz9 : Sl) (zzc : Sl) (zzb : Sl) (w : World) (R : ByteArray → Int → Int → Int → Sl → Sl → Sl → World → Prop) (h : catalog_copied zza zzd zze zzf zz9 zzc zzb w R) : callS Tryz.prog 62 [(Value.agg #[(Value.string zza), (Value.int .i64 zzd), (Value.int .i64 zze), (Value.int .i64 zzf), (Sl.v zz9), (Sl.v zzc), (Sl.v zzb)])] w (fun v w'=>∃ (r0 : ByteArray) (r1 : Int) (r2 : Int) (r3 : Int) (r4 : Sl) (r5 : Sl) (r6 : Sl), v = (Value.agg #[(Value.string r0), (Value.int .i64 r1), (Value.int .i64 r2), (Value.int .i64 r3), (Sl.v r4), (Sl.v r5), (Sl.v r6)]) ∧ R r0 r1 r2 r3 r4 r5 r6 w') := by
 unfold catalog_copied at h
 refine calls_of_vc 16 rfl Tryz.func62 rfl (by kernel_rfl) (by simp) ?_
 refine Vc.seq ?_
 refine Vc.region ?_
 refine vcL_eff rfl (opVC_new rfl (fun a=>Value.pointer (some a)) (by kernel_rfl) (newS.mono h fun a vw hx h=>?_))
 refine vcL_eff rfl (opVC_new rfl (fun a=>Value.pointer (some a)) (by kernel_rfl) (newS.mono h fun a1 vw2 hx h=>?_))
 refine vcL_nil ?_
 refine Vc.seq ?_
 obtain ⟨vw3, hvw3⟩ : ∃ y, y = vw2.drew := ⟨_, rfl⟩
 have h := h vw3 hvw3
 refine Vc.draw (by kernel_rfl) (fun i=>!(memN [8, 10, 12, 14] i)) (.pur 0 (.val 1 (.pur 3 (.val 4 (.pur 6 (.val 7 (.eff 2 (.pur 9 (.eff 5 (.eff 8 (.eff 10 (.pur 11 (.eff 12 (.pur 13 (.eff 14 .fin .stop)) .stop)) .stop) .stop) .stop)) .stop))))))) (by kernel_rfl) ?_
 rw [← hvw3]
 clear hvw3
 refine vcS_pure rfl rfl rfl (Value.pointer (some (a.add 4))) (fun w=>by kernel_rfl) ?_
 obtain ⟨t4, hc, h⟩ := h
 refine vcS_val rfl rfl rfl (Sl.v t4) (fun w' hx=>exec_load rfl (by kernel_rfl) (run_load1 (fun w=>by kernel_rfl) ((hc).ext hx))) ?_
 refine vcS_pure rfl rfl rfl (Value.pointer (some (a.add 5))) (fun w=>by kernel_rfl) ?_
 obtain ⟨t7, hc4, h⟩ := h
 refine vcS_val rfl rfl rfl (Sl.v t7) (fun w' hx=>exec_load rfl (by kernel_rfl) (run_load1 (fun w=>by kernel_rfl) ((hc4).ext hx))) ?_
 refine vcS_pure rfl rfl rfl (Value.pointer (some (a.add 6))) (fun w=>by kernel_rfl) ?_
 obtain ⟨t10, hc5, h⟩ := h
 refine vcS_val rfl rfl rfl (Sl.v t10) (fun w' hx=>exec_load rfl (by kernel_rfl) (run_load1 (fun w=>by kernel_rfl) ((hc5).ext hx))) ?_
 refine vcS_eff rfl rfl (opVC_call rfl (by kernel_rfl) (callS.mono h fun v vw6 h=>?_)) vcS_stop
 obtain ⟨hx, h⟩ := h
 obtain ⟨t5, rfl, h⟩ := h
 refine ⟨fun _ => hx, ?_⟩
 refine vcS_pure rfl rfl rfl (Value.pointer (some (a.add 4))) (fun w=>by kernel_rfl) ?_
 refine vcS_eff rfl rfl (opVC_call rfl (by kernel_rfl) (callS.mono h fun v8 vw7 h=>?_)) vcS_stop
 obtain ⟨hx9, h⟩ := h
 obtain ⟨t8, rfl, h⟩ := h
 refine ⟨fun _ => hx9, ?_⟩
 refine vcS_eff rfl rfl (opVC_call rfl (by kernel_rfl) (callS.mono h fun v11 vw10 h=>?_)) vcS_stop
 obtain ⟨t11, rfl, h⟩ := h
 refine ⟨fun hb=>absurd hb (by decide), ?_⟩
 refine vcS_eff rfl rfl (opVC_store rfl rfl (a := (a.add 4)) (by kernel_rfl) (v := (Sl.v t5)) (by kernel_rfl) [(Sl.v t5)] (by kernel_rfl) (fun w=>by kernel_rfl) (by kernel_rfl) (stw.mono h fun vw13 h=>?_)) vcS_stop
 refine ⟨fun hb=>absurd hb (by decide), ?_⟩
 refine vcS_pure rfl rfl rfl (Value.pointer (some (a.add 5))) (fun w=>by kernel_rfl) ?_
 refine vcS_eff rfl rfl (opVC_store rfl rfl (a := (a.add 5)) (by kernel_rfl) (v := (Sl.v t8)) (by kernel_rfl) [(Sl.v t8)] (by kernel_rfl) (fun w=>by kernel_rfl) (by kernel_rfl) (stw.mono h fun vw14 h=>?_)) vcS_stop
 refine ⟨fun hb=>absurd hb (by decide), ?_⟩
 refine vcS_pure rfl rfl rfl (Value.pointer (some (a.add 6))) (fun w=>by kernel_rfl) ?_
 refine vcS_eff rfl rfl (opVC_store rfl rfl (a := (a.add 6)) (by kernel_rfl) (v := (Sl.v t11)) (by kernel_rfl) [(Sl.v t11)] (by kernel_rfl) (fun w=>by kernel_rfl) (by kernel_rfl) (stw.mono h fun vw15 h=>?_)) vcS_stop
 refine ⟨fun hb=>absurd hb (by decide), ?_⟩
 refine vcS_fin ?_
 refine Vc.seq ?_
 refine Vc.region ?_
 obtain ⟨zz2j, zz2m, zz2n, zz2o, zz2i, zz2l, zz2k, hc16, h⟩ := h
 refine vcL_val rfl rfl (Value.agg #[(Value.string zz2j), (Value.int .i64 zz2m), (Value.int .i64 zz2n), (Value.int .i64 zz2o), (Sl.v zz2i), (Sl.v zz2l), (Sl.v zz2k)]) (exec_load rfl (by kernel_rfl) (run_loadN (fun w=>by kernel_rfl) (fun w=>by kernel_rfl) ((hc16)))) ?_
 refine vcL_eff rfl (opVC_store rfl rfl (a := a1) (by kernel_rfl) (v := (Value.agg #[(Value.string zz2j), (Value.int .i64 zz2m), (Value.int .i64 zz2n), (Value.int .i64 zz2o), (Sl.v zz2i), (Sl.v zz2l), (Sl.v zz2k)])) (by kernel_rfl) [(Value.string zz2j), (Value.int .i64 zz2m), (Value.int .i64 zz2n), (Value.int .i64 zz2o), (Sl.v zz2i), (Sl.v zz2l), (Sl.v zz2k)] (by kernel_rfl) (fun w=>by kernel_rfl) (by kernel_rfl) (stw.mono h fun vw17 h=>?_))
 refine vcL_nil ?_
 refine Vc.ret ?_
 refine outs_ret ?_
 obtain ⟨zz2v, zz2z, zz30, zz31, zz2s, zz2y, zz2w, hc18, h⟩ := h
 refine done_mk (Value.agg #[(Value.string zz2v), (Value.int .i64 zz2z), (Value.int .i64 zz30), (Value.int .i64 zz31), (Sl.v zz2s), (Sl.v zz2y), (Sl.v zz2w)]) (res1 (resC_cell (by kernel_rfl) (run_loadN (fun w=>by kernel_rfl) (fun w=>by kernel_rfl) hc18))) ?_
 exact ⟨zz2v, zz2z, zz30, zz31, zz2s, zz2y, zz2w, rfl, h⟩
theorem catalog_copied.go {zza : ByteArray} {zzd : Int} {zze : Int} {zzf : Int} {zz9 : Sl} {zzc : Sl} {zzb : Sl} {w : World} {k : Value → World → Prop} (h : catalog_copied zza zzd zze zzf zz9 zzc zzb w fun r0 r1 r2 r3 r4 r5 r6 w'=>k (Value.agg #[(Value.string r0), (Value.int .i64 r1), (Value.int .i64 r2), (Value.int .i64 r3), (Sl.v r4), (Sl.v r5), (Sl.v r6)]) w') : callS Tryz.prog 62 [(Value.agg #[(Value.string zza), (Value.int .i64 zzd), (Value.int .i64 zze), (Value.int .i64 zzf), (Sl.v zz9), (Sl.v zzc), (Sl.v zzb)])] w k := (catalog_copied.sound zza zzd zze zzf zz9 zzc zzb w _ h).mono (by rintro _ _ ⟨r0, r1, r2, r3, r4, r5, r6, rfl, h⟩; exact h)
def halyardref08_ahead (zzh : ByteArray) (zzk : Int) (zzl : Int) (zzm : Int) (zzg : Sl) (zzj : Sl) (zzi : Sl) (zzo : ByteArray) (zzr : Int) (zzs : Int) (zzt : Int) (zzn : Sl) (zzq : Sl) (zzp : Sl) (w : World) (R : Bool → World → Prop) : Prop :=
 newS w [(Value.string zzh), (Value.int .i64 zzk), (Value.int .i64 zzl), (Value.int .i64 zzm), (Sl.v zzg), (Sl.v zzj), (Sl.v zzi)] 48 fun a vw=>newS vw [(Value.string zzo), (Value.int .i64 zzr), (Value.int .i64 zzs), (Value.int .i64 zzt), (Sl.v zzn), (Sl.v zzq), (Sl.v zzp)] 48 fun a1 vw2=>∃ (t6 : ByteArray), (ldc vw2 a [(Value.string t6)]) ∧ ∃ (t8 : ByteArray), (ldc vw2 a1 [(Value.string t8)]) ∧ ((¬ t6 = t8 → ∃ (t11 : ByteArray), (ldc vw2 a [(Value.string t11)]) ∧ ∃ (t13 : ByteArray), (ldc vw2 a1 [(Value.string t13)]) ∧ callS Tryz.prog 15 [(Value.string t11), (Value.string t13)] vw2 fun v vw6=>∃ (t14 : Bool), v = (Value.bool t14) ∧ R t14 vw6) ∧ (¬ (¬ t6 = t8) → ∃ (zz1j : Int) (zz1k : Int) (zz1l : Int), (ldc vw2 (a.add 1) [(Value.int .i64 zz1j), (Value.int .i64 zz1k), (Value.int .i64 zz1l)]) ∧ ∃ (zz3o : Int) (zz3p : Int) (zz3q : Int), (ldc vw2 (a1.add 1) [(Value.int .i64 zz3o), (Value.int .i64 zz3p), (Value.int .i64 zz3q)]) ∧ callS Tryz.prog 33 [(Value.agg #[(Value.int .i64 zz1j), (Value.int .i64 zz1k), (Value.int .i64 zz1l)]), (Value.agg #[(Value.int .i64 zz3o), (Value.int .i64 zz3p), (Value.int .i64 zz3q)])] vw2 fun v10 vw9=>∃ (t19 : Int), v10 = (Value.int .i64 t19) ∧ R (decide (0 < t19)) vw9))
set_option maxHeartbeats 8000000 in
theorem halyardref08_ahead.sound (zzh : ByteArray) (zzk : Int) (zzl : Int) (zzm : Int) (zzg : Sl) (zzj : Sl) (zzi : Sl) (zzo : ByteArray) (zzr : Int) (zzs : Int) (zzt : Int) (zzn : Sl) (zzq : Sl) (zzp : Sl) (w : World) (R : Bool → World → Prop) (h : halyardref08_ahead zzh zzk zzl zzm zzg zzj zzi zzo zzr zzs zzt zzn zzq zzp w R) : callS Tryz.prog 63 [(Value.agg #[(Value.string zzh), (Value.int .i64 zzk), (Value.int .i64 zzl), (Value.int .i64 zzm), (Sl.v zzg), (Sl.v zzj), (Sl.v zzi)]), (Value.agg #[(Value.string zzo), (Value.int .i64 zzr), (Value.int .i64 zzs), (Value.int .i64 zzt), (Sl.v zzn), (Sl.v zzq), (Sl.v zzp)])] w (fun v w'=>∃ (r0 : Bool), v = (Value.bool r0) ∧ R r0 w') := by
 unfold halyardref08_ahead at h
 refine calls_of_vc 21 rfl Tryz.func63 rfl (by kernel_rfl) (by simp) ?_
 refine Vc.seq ?_
 refine Vc.region ?_
 refine vcL_eff rfl (opVC_new rfl (fun a=>Value.pointer (some a)) (by kernel_rfl) (newS.mono h fun a vw hx h=>?_))
 refine vcL_eff rfl (opVC_new rfl (fun a=>Value.pointer (some a)) (by kernel_rfl) (newS.mono h fun a1 vw2 hx h=>?_))
 refine vcL_pure rfl rfl (Value.bool false) (fun w=>by kernel_rfl) ?_
 refine vcL_nil ?_
 refine Vc.seq ?_
 refine Vc.seq ?_
 refine Vc.region ?_
 refine vcL_pure rfl rfl (Value.pointer (some a)) (fun w=>by kernel_rfl) ?_
 obtain ⟨t6, hc, h⟩ := h
 refine vcL_val rfl rfl (Value.string t6) (exec_load rfl (by kernel_rfl) (run_load1 (fun w=>by kernel_rfl) ((hc)))) ?_
 refine vcL_pure rfl rfl (Value.pointer (some a1)) (fun w=>by kernel_rfl) ?_
 obtain ⟨t8, hc3, h⟩ := h
 refine vcL_val rfl rfl (Value.string t8) (exec_load rfl (by kernel_rfl) (run_load1 (fun w=>by kernel_rfl) ((hc3)))) ?_
 refine vcL_pure rfl rfl (Value.bool (!bEq t6 t8)) (fun w=>by kernel_rfl) ?_
 refine vcL_nil ?_
 refine Vc.cond (!bEq t6 t8) (by kernel_rfl) (fun hb=>?_) (fun hb=>?_)
 ·have h := h.1 (bEq_false.1 (by simpa using hb))
  refine Vc.seq ?_
  refine Vc.region ?_
  refine vcL_pure rfl rfl (Value.pointer (some a)) (fun w=>by kernel_rfl) ?_
  obtain ⟨t11, hc4, h⟩ := h
  refine vcL_val rfl rfl (Value.string t11) (exec_load rfl (by kernel_rfl) (run_load1 (fun w=>by kernel_rfl) ((hc4)))) ?_
  refine vcL_pure rfl rfl (Value.pointer (some a1)) (fun w=>by kernel_rfl) ?_
  obtain ⟨t13, hc5, h⟩ := h
  refine vcL_val rfl rfl (Value.string t13) (exec_load rfl (by kernel_rfl) (run_load1 (fun w=>by kernel_rfl) ((hc5)))) ?_
  refine vcL_eff rfl (opVC_call rfl (by kernel_rfl) (callS.mono h fun v vw6 h=>?_))
  obtain ⟨t14, rfl, h⟩ := h
  refine vcL_pure rfl rfl (Value.bool t14) (fun w=>by kernel_rfl) ?_
  refine vcL_nil ?_
  refine Vc.ret ?_
  refine outs_ret ?_
  refine done_mk (Value.bool t14) (res1 (resC_tmp (by kernel_rfl))) ?_
  exact ⟨t14, rfl, h⟩
 ·have h := h.2 (not_not_intro (bEq_iff.1 (by simpa using hb)))
  refine Vc.skip ?_
  refine Vc.seq ?_
  refine Vc.region ?_
  refine vcL_pure rfl rfl (Value.pointer (some (a.add 1))) (fun w=>by kernel_rfl) ?_
  obtain ⟨zz1j, zz1k, zz1l, hc7, h⟩ := h
  refine vcL_val rfl rfl (Value.agg #[(Value.int .i64 zz1j), (Value.int .i64 zz1k), (Value.int .i64 zz1l)]) (exec_load rfl (by kernel_rfl) (run_loadN (fun w=>by kernel_rfl) (fun w=>by kernel_rfl) ((hc7)))) ?_
  refine vcL_pure rfl rfl (Value.pointer (some (a1.add 1))) (fun w=>by kernel_rfl) ?_
  obtain ⟨zz3o, zz3p, zz3q, hc8, h⟩ := h
  refine vcL_val rfl rfl (Value.agg #[(Value.int .i64 zz3o), (Value.int .i64 zz3p), (Value.int .i64 zz3q)]) (exec_load rfl (by kernel_rfl) (run_loadN (fun w=>by kernel_rfl) (fun w=>by kernel_rfl) ((hc8)))) ?_
  refine vcL_eff rfl (opVC_call rfl (by kernel_rfl) (callS.mono h fun v10 vw9 h=>?_))
  obtain ⟨t19, rfl, h⟩ := h
  refine vcL_purs 2 [(4, (Value.bool (decide (0 < t19)))), (20, (Value.bool (decide (0 < t19))))] (by kernel_rfl) ?_
  refine vcL_nil ?_
  refine Vc.ret ?_
  refine outs_ret ?_
  refine done_mk (Value.bool (decide (0 < t19))) (res1 (resC_tmp (by kernel_rfl))) ?_
  exact ⟨(decide (0 < t19)), rfl, h⟩
theorem halyardref08_ahead.go {zzh : ByteArray} {zzk : Int} {zzl : Int} {zzm : Int} {zzg : Sl} {zzj : Sl} {zzi : Sl} {zzo : ByteArray} {zzr : Int} {zzs : Int} {zzt : Int} {zzn : Sl} {zzq : Sl} {zzp : Sl} {w : World} {k : Value → World → Prop} (h : halyardref08_ahead zzh zzk zzl zzm zzg zzj zzi zzo zzr zzs zzt zzn zzq zzp w fun r0 w'=>k (Value.bool r0) w') : callS Tryz.prog 63 [(Value.agg #[(Value.string zzh), (Value.int .i64 zzk), (Value.int .i64 zzl), (Value.int .i64 zzm), (Sl.v zzg), (Sl.v zzj), (Sl.v zzi)]), (Value.agg #[(Value.string zzo), (Value.int .i64 zzr), (Value.int .i64 zzs), (Value.int .i64 zzt), (Sl.v zzn), (Sl.v zzq), (Sl.v zzp)])] w k := (halyardref08_ahead.sound zzh zzk zzl zzm zzg zzj zzi zzo zzr zzs zzt zzn zzq zzp w _ h).mono (by rintro _ _ ⟨r0, rfl, h⟩; exact h)
def catalog_falling (zz3 : Int) (zz4 : Int) (zz5 : Int) (zz6 : Int) (zz7 : Int) (zz8 : Int) (w : World) (R : Int → World → Prop) : Prop :=
 newS w [(Value.int .i64 zz3), (Value.int .i64 zz4), (Value.int .i64 zz5)] 30 fun a vw=>newS vw [(Value.int .i64 zz6), (Value.int .i64 zz7), (Value.int .i64 zz8)] 30 fun a1 vw2=>∃ (zz1m : Int) (zz1n : Int) (zz1o : Int), (ldc vw2 a1 [(Value.int .i64 zz1m), (Value.int .i64 zz1n), (Value.int .i64 zz1o)]) ∧ ∃ (zz1p : Int) (zz1q : Int) (zz1r : Int), (ldc vw2 a [(Value.int .i64 zz1p), (Value.int .i64 zz1q), (Value.int .i64 zz1r)]) ∧ callS Tryz.prog 100 [(Value.agg #[(Value.int .i64 zz1m), (Value.int .i64 zz1n), (Value.int .i64 zz1o)]), (Value.agg #[(Value.int .i64 zz1p), (Value.int .i64 zz1q), (Value.int .i64 zz1r)])] vw2 fun v vw4=>∃ (t7 : Int), v = (Value.int .i64 t7) ∧ R t7 vw4
set_option maxHeartbeats 8000000 in
theorem catalog_falling.sound (zz3 : Int) (zz4 : Int) (zz5 : Int) (zz6 : Int) (zz7 : Int) (zz8 : Int) (w : World) (R : Int → World → Prop) (h : catalog_falling zz3 zz4 zz5 zz6 zz7 zz8 w R) : callS Tryz.prog 65 [(Value.agg #[(Value.int .i64 zz3), (Value.int .i64 zz4), (Value.int .i64 zz5)]), (Value.agg #[(Value.int .i64 zz6), (Value.int .i64 zz7), (Value.int .i64 zz8)])] w (fun v w'=>∃ (r0 : Int), v = (Value.int .i64 r0) ∧ R r0 w') := by
 unfold catalog_falling at h
 refine calls_of_vc 8 rfl Tryz.func65 rfl (by kernel_rfl) (by simp) ?_
 refine Vc.seq ?_
 refine Vc.region ?_
 refine vcL_eff rfl (opVC_new rfl (fun a=>Value.pointer (some a)) (by kernel_rfl) (newS.mono h fun a vw hx h=>?_))
 refine vcL_eff rfl (opVC_new rfl (fun a=>Value.pointer (some a)) (by kernel_rfl) (newS.mono h fun a1 vw2 hx h=>?_))
 refine vcL_pure rfl rfl (Value.int .i64 0) (fun w=>by kernel_rfl) ?_
 refine vcL_nil ?_
 refine Vc.seq ?_
 refine Vc.region ?_
 obtain ⟨zz1m, zz1n, zz1o, hc, h⟩ := h
 refine vcL_val rfl rfl (Value.agg #[(Value.int .i64 zz1m), (Value.int .i64 zz1n), (Value.int .i64 zz1o)]) (exec_load rfl (by kernel_rfl) (run_loadN (fun w=>by kernel_rfl) (fun w=>by kernel_rfl) ((hc)))) ?_
 obtain ⟨zz1p, zz1q, zz1r, hc3, h⟩ := h
 refine vcL_val rfl rfl (Value.agg #[(Value.int .i64 zz1p), (Value.int .i64 zz1q), (Value.int .i64 zz1r)]) (exec_load rfl (by kernel_rfl) (run_loadN (fun w=>by kernel_rfl) (fun w=>by kernel_rfl) ((hc3)))) ?_
 refine vcL_eff rfl (opVC_call rfl (by kernel_rfl) (callS.mono h fun v vw4 h=>?_))
 obtain ⟨t7, rfl, h⟩ := h
 refine vcL_pure rfl rfl (Value.int .i64 t7) (fun w=>by kernel_rfl) ?_
 refine vcL_nil ?_
 refine Vc.ret ?_
 refine outs_ret ?_
 refine done_mk (Value.int .i64 t7) (res1 (resC_tmp (by kernel_rfl))) ?_
 exact ⟨t7, rfl, h⟩
theorem catalog_falling.go {zz3 : Int} {zz4 : Int} {zz5 : Int} {zz6 : Int} {zz7 : Int} {zz8 : Int} {w : World} {k : Value → World → Prop} (h : catalog_falling zz3 zz4 zz5 zz6 zz7 zz8 w fun r0 w'=>k (Value.int .i64 r0) w') : callS Tryz.prog 65 [(Value.agg #[(Value.int .i64 zz3), (Value.int .i64 zz4), (Value.int .i64 zz5)]), (Value.agg #[(Value.int .i64 zz6), (Value.int .i64 zz7), (Value.int .i64 zz8)])] w k := (catalog_falling.sound zz3 zz4 zz5 zz6 zz7 zz8 w _ h).mono (by rintro _ _ ⟨r0, rfl, h⟩; exact h)
def slices_Clip_apiVersionapiVersion (vs : Sl) (w : World) (R : Sl → World → Prop) : Prop :=
 ((0 : Int) ≤ 0 ∧ 0 ≤ (vs.len : Int) ∧ (vs.len : Int) ≤ (vs.len : Int) ∧ (vs.len : Int) ≤ (vs.cap : Int)) ∧ R (Sl.mk (if (vs.len : Int).toNat = 0 then vs.a else vs.a.map (·.add (0 * 3))) ((vs.len : Int).toNat - 0) ((vs.len : Int).toNat - 0)) w
set_option maxHeartbeats 8000000 in
theorem slices_Clip_apiVersionapiVersion.sound (vs : Sl) (w : World) (R : Sl → World → Prop) (h : slices_Clip_apiVersionapiVersion vs w R) : callS Tryz.prog 66 [(Sl.v vs)] w (fun v w'=>∃ (r0 : Sl), v = (Sl.v r0) ∧ R r0 w') := by
 unfold slices_Clip_apiVersionapiVersion at h
 refine calls_of_vc 9 rfl Tryz.func66 rfl (by kernel_rfl) (by simp) ?_
 refine Vc.seq ?_
 refine Vc.region ?_
 refine vcL_pure rfl rfl (Sl.v Sl.nil) (fun w=>by kernel_rfl) ?_
 refine vcL_nil ?_
 refine Vc.seq ?_
 refine Vc.region ?_
 refine vcL_purs 5 [(7, (Value.int .i64 (vs.len : Int))), (6, (Sl.v vs)), (5, (Value.int .i64 (vs.len : Int))), (4, (Sl.v vs)), (3, (Sl.v vs))] (by kernel_rfl) ?_
 obtain ⟨hi, h⟩ := h
 refine vcL_pure rfl rfl (Sl.v (Sl.mk (if (vs.len : Int).toNat = 0 then vs.a else vs.a.map (·.add (0 * 3))) ((vs.len : Int).toNat - 0) ((vs.len : Int).toNat - 0))) (fun w=>by exact exec_slSlHM (s := vs) (el := 30) (k2 := .i64) (k3 := .i64) rfl (by kernel_rfl) (by kernel_rfl) (by kernel_rfl) (by kernel_rfl) (fun w=>by kernel_rfl) (hi) w) ?_
 refine vcL_pure rfl rfl (Sl.v (Sl.mk (if (vs.len : Int).toNat = 0 then vs.a else vs.a.map (·.add (0 * 3))) ((vs.len : Int).toNat - 0) ((vs.len : Int).toNat - 0))) (fun w=>by kernel_rfl) ?_
 refine vcL_nil ?_
 refine Vc.ret ?_
 refine outs_ret ?_
 refine done_mk (Sl.v (Sl.mk (if (vs.len : Int).toNat = 0 then vs.a else vs.a.map (·.add (0 * 3))) ((vs.len : Int).toNat - 0) ((vs.len : Int).toNat - 0))) (res1 (resC_tmp (by kernel_rfl))) ?_
 exact ⟨(Sl.mk (if (vs.len : Int).toNat = 0 then vs.a else vs.a.map (·.add (0 * 3))) ((vs.len : Int).toNat - 0) ((vs.len : Int).toNat - 0)), rfl, h⟩
theorem slices_Clip_apiVersionapiVersion.go {vs : Sl} {w : World} {k : Value → World → Prop} (h : slices_Clip_apiVersionapiVersion vs w fun r0 w'=>k (Sl.v r0) w') : callS Tryz.prog 66 [(Sl.v vs)] w k := (slices_Clip_apiVersionapiVersion.sound vs w _ h).mono (by rintro _ _ ⟨r0, rfl, h⟩; exact h)
def slices_DeleteFunc_apiVersionapiVersion (vs : Sl) (del : Value) (w : World) (R : Sl → World → Prop) : Prop :=
 callS Tryz.prog 110 [(Sl.v vs), del] w fun v vw=>∃ (t10 : Int), v = (Value.int .i64 t10) ∧ ((t10 = (-1) → R vs vw) ∧ (¬ (t10 = (-1)) → loop2 t10 (wrapI (t10 + 1)) vw fun i vj vw1 nxt=>((vj < (vs.len : Int) → join (fun (i2 : Int) (vw3 : World)=>nxt i2 (wrapI (vj + 1)) vw3) fun vJ=>∃ (ad : Addr), (vs.a = some ad ∧ (0 : Int) ≤ vj ∧ vj < (vs.len : Int)) ∧ ∃ (zz16 : Int) (zz17 : Int) (zz18 : Int), (ldc vw1 (ad.add (vj.toNat * 3)) [(Value.int .i64 zz16), (Value.int .i64 zz17), (Value.int .i64 zz18)]) ∧ newS vw1 [(Value.int .i64 0), (Value.int .i64 0), (Value.int .i64 0)] 30 fun a vw4=>stw vw4 a [(Value.int .i64 zz16), (Value.int .i64 zz17), (Value.int .i64 zz18)] fun vw5=>∃ (zzu : Int) (zzv : Int) (zzw : Int), (ldc vw5 a [(Value.int .i64 zzu), (Value.int .i64 zzv), (Value.int .i64 zzw)]) ∧ callV Tryz.prog del [(Value.agg #[(Value.int .i64 zzu), (Value.int .i64 zzv), (Value.int .i64 zzw)])] vw5 fun v8 vw7=>∃ (t28 : Bool), v8 = (Value.bool t28) ∧ (((!t28) = true → ∃ (zz2p : Int) (zz2q : Int) (zz2r : Int), (ldc vw7 a [(Value.int .i64 zz2p), (Value.int .i64 zz2q), (Value.int .i64 zz2r)]) ∧ ∃ (ad11 : Addr), (vs.a = some ad11 ∧ (0 : Int) ≤ i ∧ i < (vs.len : Int)) ∧ stw vw7 (ad11.add (i.toNat * 3)) [(Value.int .i64 zz2p), (Value.int .i64 zz2q), (Value.int .i64 zz2r)] fun vw13=>vJ (wrapI (i + 1)) vw13) ∧ ((!t28) = false → vJ i vw7))) ∧ (¬ (vj < (vs.len : Int)) → ((0 : Int) ≤ i ∧ i ≤ (vs.len : Int)) ∧ semS Tryz.prog (Builtin.clear_ #[60] 0 #[(Sl.v (Sl.cut vs i.toNat vs.len 3))]) vw1 fun v16 vw15=>((0 : Int) ≤ i ∧ i ≤ (vs.cap : Int)) ∧ R (Sl.cut vs 0 i.toNat 3) vw15))))
set_option maxHeartbeats 8000000 in
theorem slices_DeleteFunc_apiVersionapiVersion.sound (vs : Sl) (del : Value) (w : World) (R : Sl → World → Prop) (h : slices_DeleteFunc_apiVersionapiVersion vs del w R) : callS Tryz.prog 67 [(Sl.v vs), del] w (fun v w'=>∃ (r0 : Sl), v = (Sl.v r0) ∧ R r0 w') := by
 unfold slices_DeleteFunc_apiVersionapiVersion at h
 refine calls_of_vc 42 rfl Tryz.func67 rfl (by kernel_rfl) (by simp) ?_
 refine Vc.seq ?_
 refine Vc.region ?_
 refine vcL_pure rfl rfl (Sl.v Sl.nil) (fun w=>by kernel_rfl) ?_
 refine vcL_nil ?_
 refine Vc.seq ?_
 refine Vc.region ?_
 refine vcL_purs 2 [(9, del), (8, (Sl.v vs))] (by kernel_rfl) ?_
 refine vcL_eff rfl (opVC_call rfl (by kernel_rfl) (callS.mono h fun v vw h=>?_))
 obtain ⟨t10, rfl, h⟩ := h
 refine vcL_pure rfl rfl (Value.int .i64 t10) (fun w=>by kernel_rfl) ?_
 refine vcL_nil ?_
 refine Vc.seq ?_
 refine Vc.seq ?_
 refine Vc.region ?_
 refine vcL_purs 2 [(12, (Value.bool (t10 == (-1)))), (11, (Value.int .i64 t10))] (by kernel_rfl) ?_
 refine vcL_nil ?_
 refine Vc.cond (t10 == (-1)) (by kernel_rfl) (fun hb=>?_) (fun hb=>?_)
 ·have h := h.1 (eq_of_beq hb)
  refine Vc.seq ?_
  refine Vc.region ?_
  refine vcL_purs 2 [(4, (Sl.v vs)), (13, (Sl.v vs))] (by kernel_rfl) ?_
  refine vcL_nil ?_
  refine Vc.ret ?_
  refine outs_ret ?_
  refine done_mk (Sl.v vs) (res1 (resC_tmp (by kernel_rfl))) ?_
  exact ⟨vs, rfl, h⟩
 ·have h := h.2 (ne_of_beq_false hb)
  refine Vc.skip ?_
  refine Vc.seq ?_
  refine Vc.seq ?_
  refine Vc.region ?_
  refine vcL_purs 3 [(6, (Value.int .i64 (wrapI (t10 + 1)))), (15, (Value.int .i64 (wrapI (t10 + 1)))), (14, (Value.int .i64 t10))] (by kernel_rfl) ?_
  refine vcL_nil ?_
  refine Vc.block ?_
  obtain ⟨vI, mu, h, hr⟩ := h
  refine Vc.loopJ (σ := Int × Int) [5, 6] [7, 16, 17, 18, 19, 20, 21, 22, 23, 24, 25, 26, 27, 28, 29, 30, 31, 32, 33, 34, 35] (fun s=>[(5, (Value.int .i64 s.1)), (6, (Value.int .i64 s.2))]) (fun s w=>vI s.1 s.2 w) (fun s w=>mu s.1 s.2 w) (t10, (wrapI (t10 + 1))) h (fun _ => rfl) (by kernel_rfl) ?_
  rintro ⟨i, vj⟩ vw1 j h
  have h := hr i vj vw1 h
  refine Vc.seq ?_
  refine Vc.seq ?_
  refine Vc.region ?_
  refine vcL_purs 4 [(19, (Value.bool (decide (vj < (vs.len : Int))))), (18, (Value.int .i64 (vs.len : Int))), (17, (Sl.v vs)), (16, (Value.int .i64 vj))] (by kernel_rfl) ?_
  refine vcL_nil ?_
  refine Vc.cond (decide (vj < (vs.len : Int))) (by kernel_rfl) (fun hb=>?_) (fun hb=>?_)
  ·have h := h.1 (of_decide_eq_true hb)
   refine Vc.skip ?_
   obtain ⟨vJ, hJ, h⟩ := join_elim h
   refine Vc.seqJ (σ := Int) [5] [7, 22, 23, 24, 25, 26, 27, 28, 29, 30, 31, 32, 33, 34, 35] (fun s=>[(5, (Value.int .i64 s))]) (fun s w=>vJ s w) (fun _ => rfl) ?_ ?_
   ·refine Vc.block ?_
    refine Vc.seq ?_
    refine Vc.region ?_
    refine vcL_purs 2 [(23, (Value.int .i64 vj)), (22, (Sl.v vs))] (by kernel_rfl) ?_
    obtain ⟨ad, hi, h⟩ := h
    refine vcL_pure rfl rfl (Value.pointer (some (ad.add (vj.toNat * 3)))) (fun w=>by exact exec_indexAt (s := vs) (el := 30) rfl (by kernel_rfl) (by kernel_rfl) (by kernel_rfl) (fun w=>by kernel_rfl) (hi).1 (hi).2.1 (hi).2.2 w) ?_
    obtain ⟨zz16, zz17, zz18, hc, h⟩ := h
    refine vcL_val rfl rfl (Value.agg #[(Value.int .i64 zz16), (Value.int .i64 zz17), (Value.int .i64 zz18)]) (exec_load rfl (by kernel_rfl) (run_loadN (fun w=>by kernel_rfl) (fun w=>by kernel_rfl) ((hc)))) ?_
    refine vcL_eff rfl (opVC_new rfl (fun a=>Value.pointer (some a)) (by kernel_rfl) (newS.mono h fun a vw4 hx h=>?_))
    refine vcL_eff rfl (opVC_store rfl rfl (a := a) (by kernel_rfl) (v := (Value.agg #[(Value.int .i64 zz16), (Value.int .i64 zz17), (Value.int .i64 zz18)])) (by kernel_rfl) [(Value.int .i64 zz16), (Value.int .i64 zz17), (Value.int .i64 zz18)] (by kernel_rfl) (fun w=>by kernel_rfl) (by kernel_rfl) (stw.mono h fun vw5 h=>?_))
    refine vcL_nil ?_
    refine Vc.seq ?_
    refine Vc.region ?_
    refine vcL_pure rfl rfl del (fun w=>by kernel_rfl) ?_
    obtain ⟨zzu, zzv, zzw, hc6, h⟩ := h
    refine vcL_val rfl rfl (Value.agg #[(Value.int .i64 zzu), (Value.int .i64 zzv), (Value.int .i64 zzw)]) (exec_load rfl (by kernel_rfl) (run_loadN (fun w=>by kernel_rfl) (fun w=>by kernel_rfl) ((hc6)))) ?_
    refine vcL_eff rfl (opVC_callV rfl rfl (fv := del) (by kernel_rfl) (args := [(Value.agg #[(Value.int .i64 zzu), (Value.int .i64 zzv), (Value.int .i64 zzw)])]) (by kernel_rfl) (callV.mono h fun v8 vw7 h=>?_))
    obtain ⟨t28, rfl, h⟩ := h
    refine vcL_pure rfl rfl (Value.bool (!t28)) (fun w=>by kernel_rfl) ?_
    refine vcL_nil ?_
    refine Vc.cond (!t28) (by kernel_rfl) (fun hb=>?_) (fun hb=>?_)
    ·have h := h.1 (hb)
     refine Vc.seq ?_
     refine Vc.region ?_
     refine vcL_purs 2 [(31, (Value.int .i64 i)), (30, (Sl.v vs))] (by kernel_rfl) ?_
     obtain ⟨zz2p, zz2q, zz2r, hc10, h⟩ := h
     refine vcL_val rfl rfl (Value.agg #[(Value.int .i64 zz2p), (Value.int .i64 zz2q), (Value.int .i64 zz2r)]) (exec_load rfl (by kernel_rfl) (run_loadN (fun w=>by kernel_rfl) (fun w=>by kernel_rfl) ((hc10)))) ?_
     obtain ⟨ad11, hi12, h⟩ := h
     refine vcL_pure rfl rfl (Value.pointer (some (ad11.add (i.toNat * 3)))) (fun w=>by exact exec_indexAt (s := vs) (el := 30) rfl (by kernel_rfl) (by kernel_rfl) (by kernel_rfl) (fun w=>by kernel_rfl) (hi12).1 (hi12).2.1 (hi12).2.2 w) ?_
     refine vcL_eff rfl (opVC_store rfl rfl (a := (ad11.add (i.toNat * 3))) (by kernel_rfl) (v := (Value.agg #[(Value.int .i64 zz2p), (Value.int .i64 zz2q), (Value.int .i64 zz2r)])) (by kernel_rfl) [(Value.int .i64 zz2p), (Value.int .i64 zz2q), (Value.int .i64 zz2r)] (by kernel_rfl) (fun w=>by kernel_rfl) (by kernel_rfl) (stw.mono h fun vw13 h=>?_))
     refine vcL_nil ?_
     refine Vc.region ?_
     refine vcL_purs 3 [(5, (Value.int .i64 (wrapI (i + 1)))), (35, (Value.int .i64 (wrapI (i + 1)))), (34, (Value.int .i64 i))] (by kernel_rfl) ?_
     refine vcL_nil ?_
     exact ⟨(wrapI (i + 1)), 16, ⟨rfl, by kernel_rfl, by kernel_rfl, by kernel_rfl⟩, h⟩
    ·have h := h.2 (hb)
     refine Vc.skip ?_
     exact ⟨i, 9, ⟨rfl, by kernel_rfl, by kernel_rfl, by kernel_rfl⟩, h⟩
   ·intro i2 vw3 j h
    subst hJ
    refine Vc.region ?_
    refine vcL_purs 3 [(6, (Value.int .i64 (wrapI (vj + 1)))), (21, (Value.int .i64 (wrapI (vj + 1)))), (20, (Value.int .i64 vj))] (by kernel_rfl) ?_
    refine vcL_nil ?_
    exact ⟨(i2, (wrapI (vj + 1))), 46, ⟨rfl, by kernel_rfl, by kernel_rfl, by kernel_rfl⟩, h⟩
  ·have h := h.2 (of_decide_eq_false hb)
   refine Vc.exit ?_
   refine outOf_hit ?_
   refine Vc.seq ?_
   refine Vc.region ?_
   refine vcL_purs 2 [(37, (Value.int .i64 i)), (36, (Sl.v vs))] (by kernel_rfl) ?_
   obtain ⟨hi14, h⟩ := h
   refine vcL_pure rfl rfl (Sl.v (Sl.cut vs i.toNat vs.len 3)) (fun w=>by exact exec_slSlL (s := vs) (el := 30) (k1 := .i64) rfl (by kernel_rfl) (by kernel_rfl) (by kernel_rfl) (fun w=>by kernel_rfl) (hi14) w) ?_
   refine vcL_eff rfl (opVC_sem0 rfl (c := Builtin.clear_ #[60] 0 #[(Sl.v (Sl.cut vs i.toNat vs.len 3))]) (by kernel_rfl) (semS.mono h fun v16 vw15 h=>?_))
   refine vcL_nil ?_
   refine Vc.seq ?_
   refine Vc.region ?_
   refine vcL_purs 2 [(40, (Value.int .i64 i)), (39, (Sl.v vs))] (by kernel_rfl) ?_
   obtain ⟨hi17, h⟩ := h
   refine vcL_pure rfl rfl (Sl.v (Sl.cut vs 0 i.toNat 3)) (fun w=>by exact exec_slSlH (s := vs) (el := 30) (k2 := .i64) rfl (by kernel_rfl) (by kernel_rfl) (by kernel_rfl) (fun w=>by kernel_rfl) (hi17) w) ?_
   refine vcL_pure rfl rfl (Sl.v (Sl.cut vs 0 i.toNat 3)) (fun w=>by kernel_rfl) ?_
   refine vcL_nil ?_
   refine Vc.ret ?_
   refine outs_ret ?_
   refine done_mk (Sl.v (Sl.cut vs 0 i.toNat 3)) (res1 (resC_tmp (by kernel_rfl))) ?_
   exact ⟨(Sl.cut vs 0 i.toNat 3), rfl, h⟩
theorem slices_DeleteFunc_apiVersionapiVersion.go {vs : Sl} {del : Value} {w : World} {k : Value → World → Prop} (h : slices_DeleteFunc_apiVersionapiVersion vs del w fun r0 w'=>k (Sl.v r0) w') : callS Tryz.prog 67 [(Sl.v vs), del] w k := (slices_DeleteFunc_apiVersionapiVersion.sound vs del w _ h).mono (by rintro _ _ ⟨r0, rfl, h⟩; exact h)
def catalog_Catalog_Candidates_1 (zz0 : Int) (zz1 : Int) (zz2 : Int) (c0 : Addr) (w : World) (R : Bool → World → Prop) : Prop :=
 newS w [(Value.int .i64 zz0), (Value.int .i64 zz1), (Value.int .i64 zz2)] 30 fun a vw=>∃ (t4 : Sl), (ldc vw c0 [(Sl.v t4)]) ∧ ∃ (zz1m : Int) (zz1n : Int) (zz1o : Int), (ldc vw a [(Value.int .i64 zz1m), (Value.int .i64 zz1n), (Value.int .i64 zz1o)]) ∧ callS Tryz.prog 53 [(Sl.v t4), (Value.agg #[(Value.int .i64 zz1m), (Value.int .i64 zz1n), (Value.int .i64 zz1o)])] vw fun v vw2=>∃ (t6 : Bool), v = (Value.bool t6) ∧ R (!t6) vw2
set_option maxHeartbeats 8000000 in
theorem catalog_Catalog_Candidates_1.sound (zz0 : Int) (zz1 : Int) (zz2 : Int) (c0 : Addr) (w : World) (R : Bool → World → Prop) (h : catalog_Catalog_Candidates_1 zz0 zz1 zz2 c0 w R) : callS Tryz.prog 68 [(Value.agg #[(Value.int .i64 zz0), (Value.int .i64 zz1), (Value.int .i64 zz2)]), (Value.pointer (some c0))] w (fun v w'=>∃ (r0 : Bool), v = (Value.bool r0) ∧ R r0 w') := by
 unfold catalog_Catalog_Candidates_1 at h
 refine calls_of_vc 8 rfl Tryz.func68 rfl (by kernel_rfl) (by simp) ?_
 refine Vc.seq ?_
 refine Vc.region ?_
 refine vcL_eff rfl (opVC_new rfl (fun a=>Value.pointer (some a)) (by kernel_rfl) (newS.mono h fun a vw hx h=>?_))
 refine vcL_pure rfl rfl (Value.bool false) (fun w=>by kernel_rfl) ?_
 refine vcL_nil ?_
 refine Vc.seq ?_
 refine Vc.region ?_
 obtain ⟨t4, hc, h⟩ := h
 refine vcL_val rfl rfl (Sl.v t4) (exec_load rfl (by kernel_rfl) (run_load1 (fun w=>by kernel_rfl) ((hc)))) ?_
 obtain ⟨zz1m, zz1n, zz1o, hc1, h⟩ := h
 refine vcL_val rfl rfl (Value.agg #[(Value.int .i64 zz1m), (Value.int .i64 zz1n), (Value.int .i64 zz1o)]) (exec_load rfl (by kernel_rfl) (run_loadN (fun w=>by kernel_rfl) (fun w=>by kernel_rfl) ((hc1)))) ?_
 refine vcL_eff rfl (opVC_call rfl (by kernel_rfl) (callS.mono h fun v vw2 h=>?_))
 obtain ⟨t6, rfl, h⟩ := h
 refine vcL_purs 2 [(3, (Value.bool (!t6))), (7, (Value.bool (!t6)))] (by kernel_rfl) ?_
 refine vcL_nil ?_
 refine Vc.ret ?_
 refine outs_ret ?_
 refine done_mk (Value.bool (!t6)) (res1 (resC_tmp (by kernel_rfl))) ?_
 exact ⟨(!t6), rfl, h⟩
theorem catalog_Catalog_Candidates_1.go {zz0 : Int} {zz1 : Int} {zz2 : Int} {c0 : Addr} {w : World} {k : Value → World → Prop} (h : catalog_Catalog_Candidates_1 zz0 zz1 zz2 c0 w fun r0 w'=>k (Value.bool r0) w') : callS Tryz.prog 68 [(Value.agg #[(Value.int .i64 zz0), (Value.int .i64 zz1), (Value.int .i64 zz2)]), (Value.pointer (some c0))] w k := (catalog_Catalog_Candidates_1.sound zz0 zz1 zz2 c0 w _ h).mono (by rintro _ _ ⟨r0, rfl, h⟩; exact h)
def slices_SortStableFunc_apiVersionapiVersion (x : Sl) (cmp : Value) (w : World) (R : World → Prop) : Prop :=
 callS Tryz.prog 111 [(Sl.v x), (Value.int .i64 (x.len : Int)), cmp] w fun v vw=>v = (Value.tuple #[]) ∧ R vw
set_option maxHeartbeats 8000000 in
theorem slices_SortStableFunc_apiVersionapiVersion.sound (x : Sl) (cmp : Value) (w : World) (R : World → Prop) (h : slices_SortStableFunc_apiVersionapiVersion x cmp w R) : callS Tryz.prog 69 [(Sl.v x), cmp] w (fun v w'=>v = (Value.tuple #[]) ∧ R w') := by
 unfold slices_SortStableFunc_apiVersionapiVersion at h
 refine calls_of_vc 9 rfl Tryz.func69 rfl (by kernel_rfl) (by simp) ?_
 refine Vc.region ?_
 refine vcL_purs 4 [(7, cmp), (6, (Value.int .i64 (x.len : Int))), (5, (Sl.v x)), (4, (Sl.v x))] (by kernel_rfl) ?_
 refine vcL_eff rfl (opVC_call rfl (by kernel_rfl) (callS.mono h fun v vw h=>?_))
 obtain ⟨rfl, h⟩ := h
 refine vcL_nil ?_
 refine done_mk (Value.tuple #[]) (res0 ) ?_
 exact ⟨rfl, h⟩
theorem slices_SortStableFunc_apiVersionapiVersion.go {x : Sl} {cmp : Value} {w : World} {k : Value → World → Prop} (h : slices_SortStableFunc_apiVersionapiVersion x cmp w fun  w'=>k (Value.tuple #[]) w') : callS Tryz.prog 69 [(Sl.v x), cmp] w k := (slices_SortStableFunc_apiVersionapiVersion.sound x cmp w _ h).mono (by rintro _ _ ⟨rfl, h⟩; exact h)
def catalog_Catalog_Candidates_2 (zz3 : Int) (zz4 : Int) (zz5 : Int) (zz6 : Int) (zz7 : Int) (zz8 : Int) (c0 : Addr) (c1 : Addr) (w : World) (R : Int → World → Prop) : Prop :=
 newS w [(Value.int .i64 zz3), (Value.int .i64 zz4), (Value.int .i64 zz5)] 30 fun a vw=>newS vw [(Value.int .i64 zz6), (Value.int .i64 zz7), (Value.int .i64 zz8)] 30 fun a1 vw2=>bnd vw2.drew fun (vw3 : World)=>∃ (t7 : Sl), (ldc vw3 c0 [(Sl.v t7)]) ∧ ∃ (t8 : ByteArray), (ldc vw3 c1 [(Value.string t8)]) ∧ ∃ (zz35 : Int) (zz36 : Int) (zz37 : Int), (ldc vw3 a1 [(Value.int .i64 zz35), (Value.int .i64 zz36), (Value.int .i64 zz37)]) ∧ ∃ (t13 : Sl), (ldc vw3 c0 [(Sl.v t13)]) ∧ ∃ (t14 : ByteArray), (ldc vw3 c1 [(Value.string t14)]) ∧ ∃ (zz32 : Int) (zz33 : Int) (zz34 : Int), (ldc vw3 a [(Value.int .i64 zz32), (Value.int .i64 zz33), (Value.int .i64 zz34)]) ∧ callX Tryz.prog 72 [(Sl.v t7), (Value.agg #[(Value.string t8), (Value.int .i64 zz35), (Value.int .i64 zz36), (Value.int .i64 zz37)])] vw3 fun v vw9=>∃ (t11 : Bool), v = (Value.bool t11) ∧ callX Tryz.prog 71 [(Value.bool t11)] vw9 fun v11 vw10=>∃ (t12 : Int), v11 = (Value.int .i64 t12) ∧ callS Tryz.prog 72 [(Sl.v t13), (Value.agg #[(Value.string t14), (Value.int .i64 zz32), (Value.int .i64 zz33), (Value.int .i64 zz34)])] vw10 fun v14 vw13=>∃ (t17 : Bool), v14 = (Value.bool t17) ∧ callS Tryz.prog 71 [(Value.bool t17)] vw13 fun v17 vw16=>∃ (t18 : Int), v17 = (Value.int .i64 t18) ∧ R (wrapI (t12 - t18)) vw16
set_option maxHeartbeats 8000000 in
theorem catalog_Catalog_Candidates_2.sound (zz3 : Int) (zz4 : Int) (zz5 : Int) (zz6 : Int) (zz7 : Int) (zz8 : Int) (c0 : Addr) (c1 : Addr) (w : World) (R : Int → World → Prop) (h : catalog_Catalog_Candidates_2 zz3 zz4 zz5 zz6 zz7 zz8 c0 c1 w R) : callS Tryz.prog 70 [(Value.agg #[(Value.int .i64 zz3), (Value.int .i64 zz4), (Value.int .i64 zz5)]), (Value.agg #[(Value.int .i64 zz6), (Value.int .i64 zz7), (Value.int .i64 zz8)]), (Value.pointer (some c0)), (Value.pointer (some c1))] w (fun v w'=>∃ (r0 : Int), v = (Value.int .i64 r0) ∧ R r0 w') := by
 unfold catalog_Catalog_Candidates_2 at h
 refine calls_of_vc 20 rfl Tryz.func70 rfl (by kernel_rfl) (by simp) ?_
 refine Vc.seq ?_
 refine Vc.region ?_
 refine vcL_eff rfl (opVC_new rfl (fun a=>Value.pointer (some a)) (by kernel_rfl) (newS.mono h fun a vw hx h=>?_))
 refine vcL_eff rfl (opVC_new rfl (fun a=>Value.pointer (some a)) (by kernel_rfl) (newS.mono h fun a1 vw2 hx h=>?_))
 refine vcL_pure rfl rfl (Value.int .i64 0) (fun w=>by kernel_rfl) ?_
 refine vcL_nil ?_
 refine Vc.seq ?_
 obtain ⟨vw3, hvw3⟩ : ∃ y, y = vw2.drew := ⟨_, rfl⟩
 have h := h vw3 hvw3
 refine Vc.draw (by kernel_rfl) (fun i=>!(memN [10, 11] i)) (.val 0 (.val 1 (.val 2 (.pur 3 (.val 6 (.val 7 (.val 8 (.pur 9 (.eff 4 (.eff 5 (.eff 10 (.eff 11 (.pur 12 (.pur 13 .fin)) .stop) .stop) .stop) .stop))))))))) (by kernel_rfl) ?_
 rw [← hvw3]
 clear hvw3
 obtain ⟨t7, hc, h⟩ := h
 refine vcS_val rfl rfl rfl (Sl.v t7) (fun w' hx=>exec_load rfl (by kernel_rfl) (run_load1 (fun w=>by kernel_rfl) ((hc).ext hx))) ?_
 obtain ⟨t8, hc4, h⟩ := h
 refine vcS_val rfl rfl rfl (Value.string t8) (fun w' hx=>exec_load rfl (by kernel_rfl) (run_load1 (fun w=>by kernel_rfl) ((hc4).ext hx))) ?_
 obtain ⟨zz35, zz36, zz37, hc5, h⟩ := h
 refine vcS_val rfl rfl rfl (Value.agg #[(Value.int .i64 zz35), (Value.int .i64 zz36), (Value.int .i64 zz37)]) (fun w' hx=>exec_load rfl (by kernel_rfl) (run_loadN (fun w=>by kernel_rfl) (fun w=>by kernel_rfl) ((hc5).ext hx))) ?_
 refine vcS_pure rfl rfl rfl (Value.agg #[(Value.string t8), (Value.int .i64 zz35), (Value.int .i64 zz36), (Value.int .i64 zz37)]) (fun w=>by kernel_rfl) ?_
 obtain ⟨t13, hc6, h⟩ := h
 refine vcS_val rfl rfl rfl (Sl.v t13) (fun w' hx=>exec_load rfl (by kernel_rfl) (run_load1 (fun w=>by kernel_rfl) ((hc6).ext hx))) ?_
 obtain ⟨t14, hc7, h⟩ := h
 refine vcS_val rfl rfl rfl (Value.string t14) (fun w' hx=>exec_load rfl (by kernel_rfl) (run_load1 (fun w=>by kernel_rfl) ((hc7).ext hx))) ?_
 obtain ⟨zz32, zz33, zz34, hc8, h⟩ := h
 refine vcS_val rfl rfl rfl (Value.agg #[(Value.int .i64 zz32), (Value.int .i64 zz33), (Value.int .i64 zz34)]) (fun w' hx=>exec_load rfl (by kernel_rfl) (run_loadN (fun w=>by kernel_rfl) (fun w=>by kernel_rfl) ((hc8).ext hx))) ?_
 refine vcS_pure rfl rfl rfl (Value.agg #[(Value.string t14), (Value.int .i64 zz32), (Value.int .i64 zz33), (Value.int .i64 zz34)]) (fun w=>by kernel_rfl) ?_
 refine vcS_eff rfl rfl (opVC_call rfl (by kernel_rfl) (callS.mono h fun v vw9 h=>?_)) vcS_stop
 obtain ⟨hx, h⟩ := h
 obtain ⟨t11, rfl, h⟩ := h
 refine ⟨fun _ => hx, ?_⟩
 refine vcS_eff rfl rfl (opVC_call rfl (by kernel_rfl) (callS.mono h fun v11 vw10 h=>?_)) vcS_stop
 obtain ⟨hx12, h⟩ := h
 obtain ⟨t12, rfl, h⟩ := h
 refine ⟨fun _ => hx12, ?_⟩
 refine vcS_eff rfl rfl (opVC_call rfl (by kernel_rfl) (callS.mono h fun v14 vw13 h=>?_)) vcS_stop
 obtain ⟨t17, rfl, h⟩ := h
 refine ⟨fun hb=>absurd hb (by decide), ?_⟩
 refine vcS_eff rfl rfl (opVC_call rfl (by kernel_rfl) (callS.mono h fun v17 vw16 h=>?_)) vcS_stop
 obtain ⟨t18, rfl, h⟩ := h
 refine ⟨fun hb=>absurd hb (by decide), ?_⟩
 refine vcS_pure rfl rfl rfl (Value.int .i64 (wrapI (t12 - t18))) (fun w=>by kernel_rfl) ?_
 refine vcS_pure rfl rfl rfl (Value.int .i64 (wrapI (t12 - t18))) (fun w=>by kernel_rfl) ?_
 refine vcS_fin ?_
 refine Vc.ret ?_
 refine outs_ret ?_
 refine done_mk (Value.int .i64 (wrapI (t12 - t18))) (res1 (resC_tmp (by kernel_rfl))) ?_
 exact ⟨(wrapI (t12 - t18)), rfl, h⟩
theorem catalog_Catalog_Candidates_2.go {zz3 : Int} {zz4 : Int} {zz5 : Int} {zz6 : Int} {zz7 : Int} {zz8 : Int} {c0 : Addr} {c1 : Addr} {w : World} {k : Value → World → Prop} (h : catalog_Catalog_Candidates_2 zz3 zz4 zz5 zz6 zz7 zz8 c0 c1 w fun r0 w'=>k (Value.int .i64 r0) w') : callS Tryz.prog 70 [(Value.agg #[(Value.int .i64 zz3), (Value.int .i64 zz4), (Value.int .i64 zz5)]), (Value.agg #[(Value.int .i64 zz6), (Value.int .i64 zz7), (Value.int .i64 zz8)]), (Value.pointer (some c0)), (Value.pointer (some c1))] w k := (catalog_Catalog_Candidates_2.sound zz3 zz4 zz5 zz6 zz7 zz8 c0 c1 w _ h).mono (by rintro _ _ ⟨r0, rfl, h⟩; exact h)
def catalog_order (is : Bool) (w : World) (R : Int → World → Prop) : Prop :=
 ((is = true → R 1 w) ∧ (is = false → R 0 w))
set_option maxHeartbeats 8000000 in
theorem catalog_order.sound (is : Bool) (w : World) (R : Int → World → Prop) (h : catalog_order is w R) : callS Tryz.prog 71 [(Value.bool is)] w (fun v w'=>∃ (r0 : Int), v = (Value.int .i64 r0) ∧ R r0 w') := by
 unfold catalog_order at h
 refine calls_of_vc 4 rfl Tryz.func71 rfl (by kernel_rfl) (by simp) ?_
 refine Vc.seq ?_
 refine Vc.region ?_
 refine vcL_pure rfl rfl (Value.int .i64 0) (fun w=>by kernel_rfl) ?_
 refine vcL_nil ?_
 refine Vc.seq ?_
 refine Vc.seq ?_
 refine Vc.region ?_
 refine vcL_pure rfl rfl (Value.bool is) (fun w=>by kernel_rfl) ?_
 refine vcL_nil ?_
 refine Vc.cond is (by kernel_rfl) (fun hb=>?_) (fun hb=>?_)
 ·have h := h.1 (hb)
  refine Vc.seq ?_
  refine Vc.region ?_
  refine vcL_pure rfl rfl (Value.int .i64 1) (fun w=>by kernel_rfl) ?_
  refine vcL_nil ?_
  refine Vc.ret ?_
  refine outs_ret ?_
  refine done_mk (Value.int .i64 1) (res1 (resC_tmp (by kernel_rfl))) ?_
  exact ⟨1, rfl, h⟩
 ·have h := h.2 (hb)
  refine Vc.skip ?_
  refine Vc.seq ?_
  refine Vc.region ?_
  refine vcL_pure rfl rfl (Value.int .i64 0) (fun w=>by kernel_rfl) ?_
  refine vcL_nil ?_
  refine Vc.ret ?_
  refine outs_ret ?_
  refine done_mk (Value.int .i64 0) (res1 (resC_tmp (by kernel_rfl))) ?_
  exact ⟨0, rfl, h⟩
theorem catalog_order.go {is : Bool} {w : World} {k : Value → World → Prop} (h : catalog_order is w fun r0 w'=>k (Value.int .i64 r0) w') : callS Tryz.prog 71 [(Value.bool is)] w k := (catalog_order.sound is w _ h).mono (by rintro _ _ ⟨r0, rfl, h⟩; exact h)
def slices_Contains_apiPinapiPin (vs : Sl) (zz24 : ByteArray) (zz25 : Int) (zz26 : Int) (zz27 : Int) (w : World) (R : Bool → World → Prop) : Prop :=
 newS w [(Value.string zz24), (Value.int .i64 zz25), (Value.int .i64 zz26), (Value.int .i64 zz27)] 32 fun a vw=>∃ (zz4n : ByteArray) (zz4o : Int) (zz4p : Int) (zz4q : Int), (ldc vw a [(Value.string zz4n), (Value.int .i64 zz4o), (Value.int .i64 zz4p), (Value.int .i64 zz4q)]) ∧ callS Tryz.prog 112 [(Sl.v vs), (Value.agg #[(Value.string zz4n), (Value.int .i64 zz4o), (Value.int .i64 zz4p), (Value.int .i64 zz4q)])] vw fun v vw1=>∃ (t7 : Int), v = (Value.int .i64 t7) ∧ R (decide (0 ≤ t7)) vw1
set_option maxHeartbeats 8000000 in
theorem slices_Contains_apiPinapiPin.sound (vs : Sl) (zz24 : ByteArray) (zz25 : Int) (zz26 : Int) (zz27 : Int) (w : World) (R : Bool → World → Prop) (h : slices_Contains_apiPinapiPin vs zz24 zz25 zz26 zz27 w R) : callS Tryz.prog 72 [(Sl.v vs), (Value.agg #[(Value.string zz24), (Value.int .i64 zz25), (Value.int .i64 zz26), (Value.int .i64 zz27)])] w (fun v w'=>∃ (r0 : Bool), v = (Value.bool r0) ∧ R r0 w') := by
 unfold slices_Contains_apiPinapiPin at h
 refine calls_of_vc 9 rfl Tryz.func72 rfl (by kernel_rfl) (by simp) ?_
 refine Vc.seq ?_
 refine Vc.region ?_
 refine vcL_eff rfl (opVC_new rfl (fun a=>Value.pointer (some a)) (by kernel_rfl) (newS.mono h fun a vw hx h=>?_))
 refine vcL_pure rfl rfl (Value.bool false) (fun w=>by kernel_rfl) ?_
 refine vcL_nil ?_
 refine Vc.seq ?_
 refine Vc.region ?_
 refine vcL_pure rfl rfl (Sl.v vs) (fun w=>by kernel_rfl) ?_
 obtain ⟨zz4n, zz4o, zz4p, zz4q, hc, h⟩ := h
 refine vcL_val rfl rfl (Value.agg #[(Value.string zz4n), (Value.int .i64 zz4o), (Value.int .i64 zz4p), (Value.int .i64 zz4q)]) (exec_load rfl (by kernel_rfl) (run_loadN (fun w=>by kernel_rfl) (fun w=>by kernel_rfl) ((hc)))) ?_
 refine vcL_eff rfl (opVC_call rfl (by kernel_rfl) (callS.mono h fun v vw1 h=>?_))
 obtain ⟨t7, rfl, h⟩ := h
 refine vcL_purs 2 [(4, (Value.bool (decide (0 ≤ t7)))), (8, (Value.bool (decide (0 ≤ t7))))] (by kernel_rfl) ?_
 refine vcL_nil ?_
 refine Vc.ret ?_
 refine outs_ret ?_
 refine done_mk (Value.bool (decide (0 ≤ t7))) (res1 (resC_tmp (by kernel_rfl))) ?_
 exact ⟨(decide (0 ≤ t7)), rfl, h⟩
theorem slices_Contains_apiPinapiPin.go {vs : Sl} {zz24 : ByteArray} {zz25 : Int} {zz26 : Int} {zz27 : Int} {w : World} {k : Value → World → Prop} (h : slices_Contains_apiPinapiPin vs zz24 zz25 zz26 zz27 w fun r0 w'=>k (Value.bool r0) w') : callS Tryz.prog 72 [(Sl.v vs), (Value.agg #[(Value.string zz24), (Value.int .i64 zz25), (Value.int .i64 zz26), (Value.int .i64 zz27)])] w k := (slices_Contains_apiPinapiPin.sound vs zz24 zz25 zz26 zz27 w _ h).mono (by rintro _ _ ⟨r0, rfl, h⟩; exact h)
def halyardref08_pinned (pins : Sl) (name : ByteArray) (zz0 : Int) (zz1 : Int) (zz2 : Int) (w : World) (R : Bool → World → Prop) : Prop :=
 newS w [(Value.int .i64 zz0), (Value.int .i64 zz1), (Value.int .i64 zz2)] 30 fun a vw=>loop1 0 vw fun i vw1 nxt=>((i < (pins.len : Int) → bnd vw1.drew fun (vw2 : World)=>∃ (ad : Addr), (pins.a = some ad ∧ (0 : Int) ≤ i ∧ i < (pins.len : Int)) ∧ ∃ (t18 : ByteArray), (ldc vw2 (ad.add (i.toNat * 4)) [(Value.string t18)]) ∧ bnd (bEq t18 name) fun (b : Bool)=>∃ (ad3 : Addr), grd b (pins.a = some ad3 ∧ (0 : Int) ≤ i ∧ i < (pins.len : Int)) ∧ ∃ (zzx : Int) (zzy : Int) (zzz : Int), grd b (ldc vw2 ((ad3.add (i.toNat * 4)).add 1) [(Value.int .i64 zzx), (Value.int .i64 zzy), (Value.int .i64 zzz)]) ∧ ∃ (zzu : Int) (zzv : Int) (zzw : Int), grd b (ldc vw2 a [(Value.int .i64 zzu), (Value.int .i64 zzv), (Value.int .i64 zzw)]) ∧ (((b && ((zzx == zzu) && ((zzy == zzv) && ((zzz == zzw) && true)))) = true → R true vw2) ∧ ((b && ((zzx == zzu) && ((zzy == zzv) && ((zzz == zzw) && true)))) = false → nxt (wrapI (i + 1)) vw2))) ∧ (¬ (i < (pins.len : Int)) → R false vw1))
set_option maxHeartbeats 8000000 in
theorem halyardref08_pinned.sound (pins : Sl) (name : ByteArray) (zz0 : Int) (zz1 : Int) (zz2 : Int) (w : World) (R : Bool → World → Prop) (h : halyardref08_pinned pins name zz0 zz1 zz2 w R) : callS Tryz.prog 73 [(Sl.v pins), (Value.string name), (Value.agg #[(Value.int .i64 zz0), (Value.int .i64 zz1), (Value.int .i64 zz2)])] w (fun v w'=>∃ (r0 : Bool), v = (Value.bool r0) ∧ R r0 w') := by
 unfold halyardref08_pinned at h
 refine calls_of_vc 30 rfl Tryz.func73 rfl (by kernel_rfl) (by simp) ?_
 refine Vc.seq ?_
 refine Vc.region ?_
 refine vcL_eff rfl (opVC_new rfl (fun a=>Value.pointer (some a)) (by kernel_rfl) (newS.mono h fun a vw hx h=>?_))
 refine vcL_pure rfl rfl (Value.bool false) (fun w=>by kernel_rfl) ?_
 refine vcL_nil ?_
 refine Vc.seq ?_
 refine Vc.seq ?_
 refine Vc.region ?_
 refine vcL_pure rfl rfl (Value.int .i64 0) (fun w=>by kernel_rfl) ?_
 refine vcL_nil ?_
 refine Vc.block ?_
 obtain ⟨vI, mu, h, hr⟩ := h
 refine Vc.loopJ (σ := Int) [7] [6, 8, 9, 10, 11, 12, 13, 14, 15, 16, 17, 18, 19, 20, 21, 22, 23, 24, 25, 26, 27, 28, 29] (fun s=>[(7, (Value.int .i64 s))]) (fun s w=>vI s w) (fun s w=>mu s w) 0 h (fun _ => rfl) (by kernel_rfl) ?_
 intro i vw1 j h
 have h := hr i vw1 h
 refine Vc.seq ?_
 refine Vc.seq ?_
 refine Vc.region ?_
 refine vcL_purs 4 [(11, (Value.bool (decide (i < (pins.len : Int))))), (10, (Value.int .i64 (pins.len : Int))), (9, (Sl.v pins)), (8, (Value.int .i64 i))] (by kernel_rfl) ?_
 refine vcL_nil ?_
 refine Vc.cond (decide (i < (pins.len : Int))) (by kernel_rfl) (fun hb=>?_) (fun hb=>?_)
 ·have h := h.1 (of_decide_eq_true hb)
  refine Vc.skip ?_
  refine Vc.seq ?_
  refine Vc.block ?_
  refine Vc.seq ?_
  obtain ⟨vw2, hvw2⟩ : ∃ y, y = vw1.drew := ⟨_, rfl⟩
  have h := h vw2 hvw2
  refine Vc.draw (by kernel_rfl) (fun i=>!(memN [] i)) (.pur 0 (.pur 1 (.pur 2 (.pur 3 (.val 4 (.pur 5 (.pur 6 (.pur 7 (.pur 8 (.pur 9 (.pur 10 (.pur 11 (.val 12 (.val 13 (.pur 14 (.pur 15 .fin)))))))))))))))) (by kernel_rfl) ?_
  rw [← hvw2]
  clear hvw2
  refine vcS_pure rfl rfl rfl (Sl.v pins) (fun w=>by kernel_rfl) ?_
  refine vcS_pure rfl rfl rfl (Value.int .i64 i) (fun w=>by kernel_rfl) ?_
  obtain ⟨ad, hi, h⟩ := h
  refine vcS_pure rfl rfl rfl (Value.pointer (some (ad.add (i.toNat * 4)))) (fun w=>by exact exec_indexAt (s := pins) (el := 32) rfl (by kernel_rfl) (by kernel_rfl) (by kernel_rfl) (fun w=>by kernel_rfl) (hi).1 (hi).2.1 (hi).2.2 w) ?_
  refine vcS_pure rfl rfl rfl (Value.pointer (some (ad.add (i.toNat * 4)))) (fun w=>by kernel_rfl) ?_
  obtain ⟨t18, hc, h⟩ := h
  refine vcS_val rfl rfl rfl (Value.string t18) (fun w' hx=>exec_load rfl (by kernel_rfl) (run_load1 (fun w=>by kernel_rfl) ((hc).ext hx))) ?_
  refine vcS_pure rfl rfl rfl (Value.string name) (fun w=>by kernel_rfl) ?_
  refine vcS_pure rfl rfl rfl (Value.bool (bEq t18 name)) (fun w=>by kernel_rfl) ?_
  obtain ⟨b, hb⟩ : ∃ y, y = (bEq t18 name) := ⟨_, rfl⟩
  have h := h b hb
  refine vcS_pure rfl rfl rfl (Value.bool b) (fun w=>by rw [hb]; kernel_rfl) ?_
  refine vcS_guard rfl b (wanted_g (d := 21) rfl (by kernel_rfl) b (by kernel_rfl) b (eqT b)) rfl (Sl.v pins) (fun hg w=>by subst hg; kernel_rfl) ?_
  refine vcS_guard rfl b (wanted_g (d := 21) rfl (by kernel_rfl) b (by kernel_rfl) b (eqT b)) rfl (Value.int .i64 i) (fun hg w=>by subst hg; kernel_rfl) ?_
  obtain ⟨ad3, hi4, h⟩ := h
  refine vcS_guard rfl b (wanted_g (d := 21) rfl (by kernel_rfl) b (by kernel_rfl) b (eqT b)) rfl (Value.pointer (some (ad3.add (i.toNat * 4)))) (fun hg w=>by subst hg; exact exec_indexAt (s := pins) (el := 32) rfl (by kernel_rfl) (by kernel_rfl) (by kernel_rfl) (fun w=>by kernel_rfl) (hi4 rfl).1 (hi4 rfl).2.1 (hi4 rfl).2.2 w) ?_
  refine vcS_guard rfl b (wanted_g (d := 21) rfl (by kernel_rfl) b (by kernel_rfl) b (eqT b)) rfl (Value.pointer (some ((ad3.add (i.toNat * 4)).add 1))) (fun hg w=>by subst hg; kernel_rfl) ?_
  obtain ⟨zzx, zzy, zzz, hc5, h⟩ := h
  refine vcS_valG rfl b (wanted_g (d := 21) rfl (by kernel_rfl) b (by kernel_rfl) b (eqT b)) rfl (Value.agg #[(Value.int .i64 zzx), (Value.int .i64 zzy), (Value.int .i64 zzz)]) (fun hg w' hx=>by subst hg; exact exec_load rfl (by kernel_rfl) (run_loadN (fun w=>by kernel_rfl) (fun w=>by kernel_rfl) ((hc5 rfl).ext hx))) ?_
  obtain ⟨zzu, zzv, zzw, hc6, h⟩ := h
  refine vcS_valG rfl b (wanted_g (d := 21) rfl (by kernel_rfl) b (by kernel_rfl) b (eqT b)) rfl (Value.agg #[(Value.int .i64 zzu), (Value.int .i64 zzv), (Value.int .i64 zzw)]) (fun hg w' hx=>by subst hg; exact exec_load rfl (by kernel_rfl) (run_loadN (fun w=>by kernel_rfl) (fun w=>by kernel_rfl) ((hc6 rfl).ext hx))) ?_
  refine vcS_guard rfl b (wanted_g (d := 21) rfl (by kernel_rfl) b (by kernel_rfl) b (eqT b)) rfl (Value.bool ((zzx == zzu) && ((zzy == zzv) && ((zzz == zzw) && true)))) (fun hg w=>by subst hg; exact exec_struct_eq rfl (by kernel_rfl) (by kernel_rfl) (by kernel_rfl) (eqv_30 9998 zzx zzy zzz zzu zzv zzw w)) ?_
  refine vcS_pure rfl rfl rfl (Value.bool (b && ((zzx == zzu) && ((zzy == zzv) && ((zzz == zzw) && true))))) (fun w=>by cases b <;> kernel_rfl) ?_
  refine vcS_fin ?_
  refine Vc.cond (b && ((zzx == zzu) && ((zzy == zzv) && ((zzz == zzw) && true)))) (by kernel_rfl) (fun hb=>?_) (fun hb=>?_)
  ·have h := h.1 (hb)
   refine Vc.seq ?_
   refine Vc.region ?_
   refine vcL_pure rfl rfl (Value.bool true) (fun w=>by kernel_rfl) ?_
   refine vcL_nil ?_
   refine Vc.ret ?_
   refine outOf_ret ?_
   refine outOf_ret ?_
   refine outs_ret ?_
   refine done_mk (Value.bool true) (res1 (resC_tmp (by kernel_rfl))) ?_
   exact ⟨true, rfl, h⟩
  ·have h := h.2 (hb)
   refine Vc.skip ?_
   refine Vc.region ?_
   refine vcL_purs 3 [(7, (Value.int .i64 (wrapI (i + 1)))), (13, (Value.int .i64 (wrapI (i + 1)))), (12, (Value.int .i64 i))] (by kernel_rfl) ?_
   refine vcL_nil ?_
   exact ⟨(wrapI (i + 1)), 47, ⟨rfl, by kernel_rfl, by kernel_rfl, by kernel_rfl⟩, h⟩
 ·have h := h.2 (of_decide_eq_false hb)
  refine Vc.exit ?_
  refine outOf_hit ?_
  refine Vc.seq ?_
  refine Vc.region ?_
  refine vcL_pure rfl rfl (Value.bool false) (fun w=>by kernel_rfl) ?_
  refine vcL_nil ?_
  refine Vc.ret ?_
  refine outs_ret ?_
  refine done_mk (Value.bool false) (res1 (resC_tmp (by kernel_rfl))) ?_
  exact ⟨false, rfl, h⟩
theorem halyardref08_pinned.go {pins : Sl} {name : ByteArray} {zz0 : Int} {zz1 : Int} {zz2 : Int} {w : World} {k : Value → World → Prop} (h : halyardref08_pinned pins name zz0 zz1 zz2 w fun r0 w'=>k (Value.bool r0) w') : callS Tryz.prog 73 [(Sl.v pins), (Value.string name), (Value.agg #[(Value.int .i64 zz0), (Value.int .i64 zz1), (Value.int .i64 zz2)])] w k := (halyardref08_pinned.sound pins name zz0 zz1 zz2 w _ h).mono (by rintro _ _ ⟨r0, rfl, h⟩; exact h)
def catalog_Catalog_All_1 (zzh : ByteArray) (zzk : Int) (zzl : Int) (zzm : Int) (zzg : Sl) (zzj : Sl) (zzi : Sl) (zzo : ByteArray) (zzr : Int) (zzs : Int) (zzt : Int) (zzn : Sl) (zzq : Sl) (zzp : Sl) (w : World) (R : Int → World → Prop) : Prop :=
 newS w [(Value.string zzh), (Value.int .i64 zzk), (Value.int .i64 zzl), (Value.int .i64 zzm), (Sl.v zzg), (Sl.v zzj), (Sl.v zzi)] 48 fun a vw=>newS vw [(Value.string zzo), (Value.int .i64 zzr), (Value.int .i64 zzs), (Value.int .i64 zzt), (Sl.v zzn), (Sl.v zzq), (Sl.v zzp)] 48 fun a1 vw2=>bnd vw2.drew fun (vw3 : World)=>∃ (t6 : ByteArray), (ldc vw3 a [(Value.string t6)]) ∧ ∃ (t8 : ByteArray), (ldc vw3 a1 [(Value.string t8)]) ∧ ∃ (zz3b : Int) (zz3c : Int) (zz3d : Int), (ldc vw3 (a.add 1) [(Value.int .i64 zz3b), (Value.int .i64 zz3c), (Value.int .i64 zz3d)]) ∧ ∃ (zz1g : Int) (zz1h : Int) (zz1i : Int), (ldc vw3 (a1.add 1) [(Value.int .i64 zz1g), (Value.int .i64 zz1h), (Value.int .i64 zz1i)]) ∧ callX Tryz.prog 77 [(Value.string t6), (Value.string t8)] vw3 fun v vw7=>∃ (t9 : Int), v = (Value.int .i64 t9) ∧ callS Tryz.prog 65 [(Value.agg #[(Value.int .i64 zz3b), (Value.int .i64 zz3c), (Value.int .i64 zz3d)]), (Value.agg #[(Value.int .i64 zz1g), (Value.int .i64 zz1h), (Value.int .i64 zz1i)])] vw7 fun v9 vw8=>∃ (t14 : Int), v9 = (Value.int .i64 t14) ∧ newS vw8 [(Value.int .i64 t9), (Value.int .i64 t14)] 3 fun a11 vw12=>callS Tryz.prog 76 [(Sl.v (Sl.mk (some a11) 2 2))] vw12 fun v14 vw13=>∃ (t16 : Int), v14 = (Value.int .i64 t16) ∧ R t16 vw13
set_option maxHeartbeats 8000000 in
theorem catalog_Catalog_All_1.sound (zzh : ByteArray) (zzk : Int) (zzl : Int) (zzm : Int) (zzg : Sl) (zzj : Sl) (zzi : Sl) (zzo : ByteArray) (zzr : Int) (zzs : Int) (zzt : Int) (zzn : Sl) (zzq : Sl) (zzp : Sl) (w : World) (R : Int → World → Prop) (h : catalog_Catalog_All_1 zzh zzk zzl zzm zzg zzj zzi zzo zzr zzs zzt zzn zzq zzp w R) : callS Tryz.prog 75 [(Value.agg #[(Value.string zzh), (Value.int .i64 zzk), (Value.int .i64 zzl), (Value.int .i64 zzm), (Sl.v zzg), (Sl.v zzj), (Sl.v zzi)]), (Value.agg #[(Value.string zzo), (Value.int .i64 zzr), (Value.int .i64 zzs), (Value.int .i64 zzt), (Sl.v zzn), (Sl.v zzq), (Sl.v zzp)])] w (fun v w'=>∃ (r0 : Int), v = (Value.int .i64 r0) ∧ R r0 w') := by
 unfold catalog_Catalog_All_1 at h
 refine calls_of_vc 17 rfl Tryz.func75 rfl (by kernel_rfl) (by simp) ?_
 refine Vc.seq ?_
 refine Vc.region ?_
 refine vcL_eff rfl (opVC_new rfl (fun a=>Value.pointer (some a)) (by kernel_rfl) (newS.mono h fun a vw hx h=>?_))
 refine vcL_eff rfl (opVC_new rfl (fun a=>Value.pointer (some a)) (by kernel_rfl) (newS.mono h fun a1 vw2 hx h=>?_))
 refine vcL_pure rfl rfl (Value.int .i64 0) (fun w=>by kernel_rfl) ?_
 refine vcL_nil ?_
 refine Vc.seq ?_
 obtain ⟨vw3, hvw3⟩ : ∃ y, y = vw2.drew := ⟨_, rfl⟩
 have h := h vw3 hvw3
 refine Vc.draw (by kernel_rfl) (fun i=>!(memN [9, 10, 11] i)) (.pur 0 (.val 1 (.pur 2 (.val 3 (.pur 5 (.val 6 (.pur 7 (.val 8 (.eff 4 (.eff 9 (.eff 10 (.eff 11 (.pur 12 .fin) .stop) .stop) .stop) .stop))))))))) (by kernel_rfl) ?_
 rw [← hvw3]
 clear hvw3
 refine vcS_pure rfl rfl rfl (Value.pointer (some a)) (fun w=>by kernel_rfl) ?_
 obtain ⟨t6, hc, h⟩ := h
 refine vcS_val rfl rfl rfl (Value.string t6) (fun w' hx=>exec_load rfl (by kernel_rfl) (run_load1 (fun w=>by kernel_rfl) ((hc).ext hx))) ?_
 refine vcS_pure rfl rfl rfl (Value.pointer (some a1)) (fun w=>by kernel_rfl) ?_
 obtain ⟨t8, hc4, h⟩ := h
 refine vcS_val rfl rfl rfl (Value.string t8) (fun w' hx=>exec_load rfl (by kernel_rfl) (run_load1 (fun w=>by kernel_rfl) ((hc4).ext hx))) ?_
 refine vcS_pure rfl rfl rfl (Value.pointer (some (a.add 1))) (fun w=>by kernel_rfl) ?_
 obtain ⟨zz3b, zz3c, zz3d, hc5, h⟩ := h
 refine vcS_val rfl rfl rfl (Value.agg #[(Value.int .i64 zz3b), (Value.int .i64 zz3c), (Value.int .i64 zz3d)]) (fun w' hx=>exec_load rfl (by kernel_rfl) (run_loadN (fun w=>by kernel_rfl) (fun w=>by kernel_rfl) ((hc5).ext hx))) ?_
 refine vcS_pure rfl rfl rfl (Value.pointer (some (a1.add 1))) (fun w=>by kernel_rfl) ?_
 obtain ⟨zz1g, zz1h, zz1i, hc6, h⟩ := h
 refine vcS_val rfl rfl rfl (Value.agg #[(Value.int .i64 zz1g), (Value.int .i64 zz1h), (Value.int .i64 zz1i)]) (fun w' hx=>exec_load rfl (by kernel_rfl) (run_loadN (fun w=>by kernel_rfl) (fun w=>by kernel_rfl) ((hc6).ext hx))) ?_
 refine vcS_eff rfl rfl (opVC_call rfl (by kernel_rfl) (callS.mono h fun v vw7 h=>?_)) vcS_stop
 obtain ⟨hx, h⟩ := h
 obtain ⟨t9, rfl, h⟩ := h
 refine ⟨fun _ => hx, ?_⟩
 refine vcS_eff rfl rfl (opVC_call rfl (by kernel_rfl) (callS.mono h fun v9 vw8 h=>?_)) vcS_stop
 obtain ⟨t14, rfl, h⟩ := h
 refine ⟨fun hb=>absurd hb (by decide), ?_⟩
 refine vcS_eff rfl rfl (opVC_new rfl (fun a=>Value.slice (some a) 2 2) (by kernel_rfl) (newS.mono h fun a11 vw12 hx h=>?_)) vcS_stop
 refine ⟨fun hb=>absurd hb (by decide), ?_⟩
 refine vcS_eff rfl rfl (opVC_call rfl (by kernel_rfl) (callS.mono h fun v14 vw13 h=>?_)) vcS_stop
 obtain ⟨t16, rfl, h⟩ := h
 refine ⟨fun hb=>absurd hb (by decide), ?_⟩
 refine vcS_pure rfl rfl rfl (Value.int .i64 t16) (fun w=>by kernel_rfl) ?_
 refine vcS_fin ?_
 refine Vc.ret ?_
 refine outs_ret ?_
 refine done_mk (Value.int .i64 t16) (res1 (resC_tmp (by kernel_rfl))) ?_
 exact ⟨t16, rfl, h⟩
theorem catalog_Catalog_All_1.go {zzh : ByteArray} {zzk : Int} {zzl : Int} {zzm : Int} {zzg : Sl} {zzj : Sl} {zzi : Sl} {zzo : ByteArray} {zzr : Int} {zzs : Int} {zzt : Int} {zzn : Sl} {zzq : Sl} {zzp : Sl} {w : World} {k : Value → World → Prop} (h : catalog_Catalog_All_1 zzh zzk zzl zzm zzg zzj zzi zzo zzr zzs zzt zzn zzq zzp w fun r0 w'=>k (Value.int .i64 r0) w') : callS Tryz.prog 75 [(Value.agg #[(Value.string zzh), (Value.int .i64 zzk), (Value.int .i64 zzl), (Value.int .i64 zzm), (Sl.v zzg), (Sl.v zzj), (Sl.v zzi)]), (Value.agg #[(Value.string zzo), (Value.int .i64 zzr), (Value.int .i64 zzs), (Value.int .i64 zzt), (Sl.v zzn), (Sl.v zzq), (Sl.v zzp)])] w k := (catalog_Catalog_All_1.sound zzh zzk zzl zzm zzg zzj zzi zzo zzr zzs zzt zzn zzq zzp w _ h).mono (by rintro _ _ ⟨r0, rfl, h⟩; exact h)
def cmp_Or_int (vals : Sl) (w : World) (R : Int → World → Prop) : Prop :=
 loop1 0 w fun t8 vw nxt=>((t8 < (vals.len : Int) → ∃ (ad : Addr), (vals.a = some ad ∧ (0 : Int) ≤ t8 ∧ t8 < (vals.len : Int)) ∧ ∃ (t11 : Int), (ldc vw (ad.add (t8.toNat * 1)) [(Value.int .i64 t11)]) ∧ ((¬ t11 = 0 → R t11 vw) ∧ (¬ (¬ t11 = 0) → nxt (wrapI (t8 + 1)) vw))) ∧ (¬ (t8 < (vals.len : Int)) → R 0 vw))
set_option maxHeartbeats 8000000 in
theorem cmp_Or_int.sound (vals : Sl) (w : World) (R : Int → World → Prop) (h : cmp_Or_int vals w R) : callS Tryz.prog 76 [(Sl.v vals)] w (fun v w'=>∃ (r0 : Int), v = (Value.int .i64 r0) ∧ R r0 w') := by
 unfold cmp_Or_int at h
 refine calls_of_vc 18 rfl Tryz.func76 rfl (by kernel_rfl) (by simp) ?_
 refine Vc.seq ?_
 refine Vc.region ?_
 refine vcL_pure rfl rfl (Value.int .i64 0) (fun w=>by kernel_rfl) ?_
 refine vcL_nil ?_
 refine Vc.seq ?_
 refine Vc.region ?_
 refine vcL_pure rfl rfl (Value.int .i64 0) (fun w=>by kernel_rfl) ?_
 refine vcL_nil ?_
 refine Vc.seq ?_
 refine Vc.seq ?_
 refine Vc.region ?_
 refine vcL_purs 3 [(8, (Value.int .i64 0)), (7, (Value.int .i64 (vals.len : Int))), (6, (Sl.v vals))] (by kernel_rfl) ?_
 refine vcL_nil ?_
 refine Vc.block ?_
 obtain ⟨vI, mu, h, hr⟩ := h
 refine Vc.loopJ (σ := Int) [8] [2, 5, 9, 10, 11, 12, 13, 14, 15, 16] (fun s=>[(8, (Value.int .i64 s))]) (fun s w=>vI s w) (fun s w=>mu s w) 0 h (fun _ => rfl) (by kernel_rfl) ?_
 intro t8 vw j h
 have h := hr t8 vw h
 refine Vc.seq ?_
 refine Vc.region ?_
 refine vcL_pure rfl rfl (Value.bool (decide (t8 < (vals.len : Int)))) (fun w=>by kernel_rfl) ?_
 refine vcL_nil ?_
 refine Vc.seq ?_
 refine Vc.cond (decide (t8 < (vals.len : Int))) (by kernel_rfl) (fun hb=>?_) (fun hb=>?_)
 ·have h := h.1 (of_decide_eq_true hb)
  refine Vc.skip ?_
  refine Vc.seq ?_
  refine Vc.block ?_
  refine Vc.seq ?_
  refine Vc.region ?_
  obtain ⟨ad, hi, h⟩ := h
  refine vcL_pure rfl rfl (Value.pointer (some (ad.add (t8.toNat * 1)))) (fun w=>by exact exec_indexAt (s := vals) (el := 3) rfl (by kernel_rfl) (by kernel_rfl) (by kernel_rfl) (fun w=>by kernel_rfl) (hi).1 (hi).2.1 (hi).2.2 w) ?_
  obtain ⟨t11, hc, h⟩ := h
  refine vcL_val rfl rfl (Value.int .i64 t11) (exec_load rfl (by kernel_rfl) (run_load1 (fun w=>by kernel_rfl) ((hc)))) ?_
  refine vcL_pure rfl rfl (Value.int .i64 t11) (fun w=>by kernel_rfl) ?_
  refine vcL_nil ?_
  refine Vc.seq ?_
  refine Vc.region ?_
  refine vcL_purs 3 [(14, (Value.bool (!(t11 == 0)))), (13, (Value.int .i64 0)), (12, (Value.int .i64 t11))] (by kernel_rfl) ?_
  refine vcL_nil ?_
  refine Vc.cond (!(t11 == 0)) (by kernel_rfl) (fun hb=>?_) (fun hb=>?_)
  ·have h := h.1 (ne_of_nbeq hb)
   refine Vc.seq ?_
   refine Vc.region ?_
   refine vcL_purs 2 [(2, (Value.int .i64 t11)), (15, (Value.int .i64 t11))] (by kernel_rfl) ?_
   refine vcL_nil ?_
   refine Vc.ret ?_
   refine outOf_ret ?_
   refine outOf_ret ?_
   refine outs_ret ?_
   refine done_mk (Value.int .i64 t11) (res1 (resC_tmp (by kernel_rfl))) ?_
   exact ⟨t11, rfl, h⟩
  ·have h := h.2 (nne_of_nbeq hb)
   refine Vc.skip ?_
   refine Vc.region ?_
   refine vcL_purs 2 [(8, (Value.int .i64 (wrapI (t8 + 1)))), (16, (Value.int .i64 (wrapI (t8 + 1))))] (by kernel_rfl) ?_
   refine vcL_nil ?_
   exact ⟨(wrapI (t8 + 1)), 20, ⟨rfl, by kernel_rfl, by kernel_rfl, by kernel_rfl⟩, h⟩
 ·have h := h.2 (of_decide_eq_false hb)
  refine Vc.exit ?_
  refine outOf_hit ?_
  refine Vc.seq ?_
  refine Vc.region ?_
  refine vcL_purs 2 [(2, (Value.int .i64 0)), (17, (Value.int .i64 0))] (by kernel_rfl) ?_
  refine vcL_nil ?_
  refine Vc.ret ?_
  refine outs_ret ?_
  refine done_mk (Value.int .i64 0) (res1 (resC_tmp (by kernel_rfl))) ?_
  exact ⟨0, rfl, h⟩
theorem cmp_Or_int.go {vals : Sl} {w : World} {k : Value → World → Prop} (h : cmp_Or_int vals w fun r0 w'=>k (Value.int .i64 r0) w') : callS Tryz.prog 76 [(Sl.v vals)] w k := (cmp_Or_int.sound vals w _ h).mono (by rintro _ _ ⟨r0, rfl, h⟩; exact h)
def cmp_Compare_string (x : ByteArray) (y : ByteArray) (w : World) (R : Int → World → Prop) : Prop :=
 callS Tryz.prog 114 [(Value.string x)] w fun v vw=>∃ (t8 : Bool), v = (Value.bool t8) ∧ callS Tryz.prog 114 [(Value.string y)] vw fun v2 vw1=>∃ (t10 : Bool), v2 = (Value.bool t10) ∧ ((t8 = true → ((t10 = true → R 0 vw1) ∧ (t10 = false → R (-1) vw1))) ∧ (t8 = false → ((t10 = true → R 1 vw1) ∧ (t10 = false → (((bLt x y) = true → R (-1) vw1) ∧ ((bLt x y) = false → (((!(bLt x y || bEq x y)) = true → R 1 vw1) ∧ ((!(bLt x y || bEq x y)) = false → R 0 vw1))))))))
set_option maxHeartbeats 8000000 in
theorem cmp_Compare_string.sound (x : ByteArray) (y : ByteArray) (w : World) (R : Int → World → Prop) (h : cmp_Compare_string x y w R) : callS Tryz.prog 77 [(Value.string x), (Value.string y)] w (fun v w'=>∃ (r0 : Int), v = (Value.int .i64 r0) ∧ R r0 w') := by
 unfold cmp_Compare_string at h
 refine calls_of_vc 20 rfl Tryz.func77 rfl (by kernel_rfl) (by simp) ?_
 refine Vc.seq ?_
 refine Vc.region ?_
 refine vcL_pure rfl rfl (Value.int .i64 0) (fun w=>by kernel_rfl) ?_
 refine vcL_nil ?_
 refine Vc.seq ?_
 refine Vc.region ?_
 refine vcL_pure rfl rfl (Value.string x) (fun w=>by kernel_rfl) ?_
 refine vcL_eff rfl (opVC_call rfl (by kernel_rfl) (callS.mono h fun v vw h=>?_))
 obtain ⟨t8, rfl, h⟩ := h
 refine vcL_pure rfl rfl (Value.bool t8) (fun w=>by kernel_rfl) ?_
 refine vcL_nil ?_
 refine Vc.seq ?_
 refine Vc.region ?_
 refine vcL_pure rfl rfl (Value.string y) (fun w=>by kernel_rfl) ?_
 refine vcL_eff rfl (opVC_call rfl (by kernel_rfl) (callS.mono h fun v2 vw1 h=>?_))
 obtain ⟨t10, rfl, h⟩ := h
 refine vcL_pure rfl rfl (Value.bool t10) (fun w=>by kernel_rfl) ?_
 refine vcL_nil ?_
 refine Vc.seq ?_
 refine Vc.seq ?_
 refine Vc.region ?_
 refine vcL_pure rfl rfl (Value.bool t8) (fun w=>by kernel_rfl) ?_
 refine vcL_nil ?_
 refine Vc.cond t8 (by kernel_rfl) (fun hb=>?_) (fun hb=>?_)
 ·have h := h.1 (hb)
  refine Vc.seq ?_
  refine Vc.seq ?_
  refine Vc.region ?_
  refine vcL_pure rfl rfl (Value.bool t10) (fun w=>by kernel_rfl) ?_
  refine vcL_nil ?_
  refine Vc.cond t10 (by kernel_rfl) (fun hb=>?_) (fun hb=>?_)
  ·have h := h.1 (hb)
   refine Vc.seq ?_
   refine Vc.region ?_
   refine vcL_pure rfl rfl (Value.int .i64 0) (fun w=>by kernel_rfl) ?_
   refine vcL_nil ?_
   refine Vc.ret ?_
   refine outs_ret ?_
   refine done_mk (Value.int .i64 0) (res1 (resC_tmp (by kernel_rfl))) ?_
   exact ⟨0, rfl, h⟩
  ·have h := h.2 (hb)
   refine Vc.skip ?_
   refine Vc.seq ?_
   refine Vc.region ?_
   refine vcL_pure rfl rfl (Value.int .i64 (-1)) (fun w=>by kernel_rfl) ?_
   refine vcL_nil ?_
   refine Vc.ret ?_
   refine outs_ret ?_
   refine done_mk (Value.int .i64 (-1)) (res1 (resC_tmp (by kernel_rfl))) ?_
   exact ⟨(-1), rfl, h⟩
 ·have h := h.2 (hb)
  refine Vc.skip ?_
  refine Vc.seq ?_
  refine Vc.seq ?_
  refine Vc.region ?_
  refine vcL_pure rfl rfl (Value.bool t10) (fun w=>by kernel_rfl) ?_
  refine vcL_nil ?_
  refine Vc.cond t10 (by kernel_rfl) (fun hb=>?_) (fun hb=>?_)
  ·have h := h.1 (hb)
   refine Vc.seq ?_
   refine Vc.region ?_
   refine vcL_pure rfl rfl (Value.int .i64 1) (fun w=>by kernel_rfl) ?_
   refine vcL_nil ?_
   refine Vc.ret ?_
   refine outs_ret ?_
   refine done_mk (Value.int .i64 1) (res1 (resC_tmp (by kernel_rfl))) ?_
   exact ⟨1, rfl, h⟩
  ·have h := h.2 (hb)
   refine Vc.skip ?_
   refine Vc.seq ?_
   refine Vc.seq ?_
   refine Vc.region ?_
   refine vcL_purs 3 [(16, (Value.bool (bLt x y))), (15, (Value.string y)), (14, (Value.string x))] (by kernel_rfl) ?_
   refine vcL_nil ?_
   refine Vc.cond (bLt x y) (by kernel_rfl) (fun hb=>?_) (fun hb=>?_)
   ·have h := h.1 (hb)
    refine Vc.seq ?_
    refine Vc.region ?_
    refine vcL_pure rfl rfl (Value.int .i64 (-1)) (fun w=>by kernel_rfl) ?_
    refine vcL_nil ?_
    refine Vc.ret ?_
    refine outs_ret ?_
    refine done_mk (Value.int .i64 (-1)) (res1 (resC_tmp (by kernel_rfl))) ?_
    exact ⟨(-1), rfl, h⟩
   ·have h := h.2 (hb)
    refine Vc.skip ?_
    refine Vc.seq ?_
    refine Vc.seq ?_
    refine Vc.region ?_
    refine vcL_purs 3 [(19, (Value.bool (!(bLt x y || bEq x y)))), (18, (Value.string y)), (17, (Value.string x))] (by kernel_rfl) ?_
    refine vcL_nil ?_
    refine Vc.cond (!(bLt x y || bEq x y)) (by kernel_rfl) (fun hb=>?_) (fun hb=>?_)
    ·have h := h.1 (hb)
     refine Vc.seq ?_
     refine Vc.region ?_
     refine vcL_pure rfl rfl (Value.int .i64 1) (fun w=>by kernel_rfl) ?_
     refine vcL_nil ?_
     refine Vc.ret ?_
     refine outs_ret ?_
     refine done_mk (Value.int .i64 1) (res1 (resC_tmp (by kernel_rfl))) ?_
     exact ⟨1, rfl, h⟩
    ·have h := h.2 (hb)
     refine Vc.skip ?_
     refine Vc.seq ?_
     refine Vc.region ?_
     refine vcL_pure rfl rfl (Value.int .i64 0) (fun w=>by kernel_rfl) ?_
     refine vcL_nil ?_
     refine Vc.ret ?_
     refine outs_ret ?_
     refine done_mk (Value.int .i64 0) (res1 (resC_tmp (by kernel_rfl))) ?_
     exact ⟨0, rfl, h⟩
theorem cmp_Compare_string.go {x : ByteArray} {y : ByteArray} {w : World} {k : Value → World → Prop} (h : cmp_Compare_string x y w fun r0 w'=>k (Value.int .i64 r0) w') : callS Tryz.prog 77 [(Value.string x), (Value.string y)] w k := (cmp_Compare_string.sound x y w _ h).mono (by rintro _ _ ⟨r0, rfl, h⟩; exact h)
def slices_Clip_apiPackageapiPackage (vs : Sl) (w : World) (R : Sl → World → Prop) : Prop :=
 ((0 : Int) ≤ 0 ∧ 0 ≤ (vs.len : Int) ∧ (vs.len : Int) ≤ (vs.len : Int) ∧ (vs.len : Int) ≤ (vs.cap : Int)) ∧ R (Sl.mk (if (vs.len : Int).toNat = 0 then vs.a else vs.a.map (·.add (0 * 7))) ((vs.len : Int).toNat - 0) ((vs.len : Int).toNat - 0)) w
set_option maxHeartbeats 8000000 in
theorem slices_Clip_apiPackageapiPackage.sound (vs : Sl) (w : World) (R : Sl → World → Prop) (h : slices_Clip_apiPackageapiPackage vs w R) : callS Tryz.prog 78 [(Sl.v vs)] w (fun v w'=>∃ (r0 : Sl), v = (Sl.v r0) ∧ R r0 w') := by
 unfold slices_Clip_apiPackageapiPackage at h
 refine calls_of_vc 9 rfl Tryz.func78 rfl (by kernel_rfl) (by simp) ?_
 refine Vc.seq ?_
 refine Vc.region ?_
 refine vcL_pure rfl rfl (Sl.v Sl.nil) (fun w=>by kernel_rfl) ?_
 refine vcL_nil ?_
 refine Vc.seq ?_
 refine Vc.region ?_
 refine vcL_purs 5 [(7, (Value.int .i64 (vs.len : Int))), (6, (Sl.v vs)), (5, (Value.int .i64 (vs.len : Int))), (4, (Sl.v vs)), (3, (Sl.v vs))] (by kernel_rfl) ?_
 obtain ⟨hi, h⟩ := h
 refine vcL_pure rfl rfl (Sl.v (Sl.mk (if (vs.len : Int).toNat = 0 then vs.a else vs.a.map (·.add (0 * 7))) ((vs.len : Int).toNat - 0) ((vs.len : Int).toNat - 0))) (fun w=>by exact exec_slSlHM (s := vs) (el := 48) (k2 := .i64) (k3 := .i64) rfl (by kernel_rfl) (by kernel_rfl) (by kernel_rfl) (by kernel_rfl) (fun w=>by kernel_rfl) (hi) w) ?_
 refine vcL_pure rfl rfl (Sl.v (Sl.mk (if (vs.len : Int).toNat = 0 then vs.a else vs.a.map (·.add (0 * 7))) ((vs.len : Int).toNat - 0) ((vs.len : Int).toNat - 0))) (fun w=>by kernel_rfl) ?_
 refine vcL_nil ?_
 refine Vc.ret ?_
 refine outs_ret ?_
 refine done_mk (Sl.v (Sl.mk (if (vs.len : Int).toNat = 0 then vs.a else vs.a.map (·.add (0 * 7))) ((vs.len : Int).toNat - 0) ((vs.len : Int).toNat - 0))) (res1 (resC_tmp (by kernel_rfl))) ?_
 exact ⟨(Sl.mk (if (vs.len : Int).toNat = 0 then vs.a else vs.a.map (·.add (0 * 7))) ((vs.len : Int).toNat - 0) ((vs.len : Int).toNat - 0)), rfl, h⟩
theorem slices_Clip_apiPackageapiPackage.go {vs : Sl} {w : World} {k : Value → World → Prop} (h : slices_Clip_apiPackageapiPackage vs w fun r0 w'=>k (Sl.v r0) w') : callS Tryz.prog 78 [(Sl.v vs)] w k := (slices_Clip_apiPackageapiPackage.sound vs w _ h).mono (by rintro _ _ ⟨r0, rfl, h⟩; exact h)
def halyardref03_May (l : Sl) (w : World) (R : Bool → World → Prop) : Prop :=
 ((64 < (l.len : Int) → R false w) ∧ (¬ (64 < (l.len : Int)) → loop1 0 w fun i vw nxt=>((i < (l.len : Int) → bnd vw.drew fun (vw1 : World)=>∃ (ad : Addr), (l.a = some ad ∧ (0 : Int) ≤ i ∧ i < (l.len : Int)) ∧ ∃ (zz3l : Int) (zz3m : Int) (zz3n : Int), (ldc vw1 (ad.add (i.toNat * 6)) [(Value.int .i64 zz3l), (Value.int .i64 zz3m), (Value.int .i64 zz3n)]) ∧ callS Tryz.prog 80 [(Value.agg #[(Value.int .i64 zz3l), (Value.int .i64 zz3m), (Value.int .i64 zz3n)])] vw1 fun v vw2=>∃ (t18 : Bool), v = (Value.bool t18) ∧ bnd (!t18) fun (b : Bool)=>∃ (ad3 : Addr), grd (!b) (l.a = some ad3 ∧ (0 : Int) ≤ i ∧ i < (l.len : Int)) ∧ ∃ (zz16 : Int) (zz17 : Int) (zz18 : Int), grd (!b) (ldc vw2 ((ad3.add (i.toNat * 6)).add 3) [(Value.int .i64 zz16), (Value.int .i64 zz17), (Value.int .i64 zz18)]) ∧ gCall (!b) (fun (t26 : Bool) (vw6 : World)=>bnd (b || (!t26)) fun (b9 : Bool)=>∃ (ad10 : Addr), grd (!b9) (l.a = some ad10 ∧ (0 : Int) ≤ i ∧ i < (l.len : Int)) ∧ ∃ (zz3x : Int) (zz3y : Int) (zz3z : Int), grd (!b9) (ldc vw6 (ad10.add (i.toNat * 6)) [(Value.int .i64 zz3x), (Value.int .i64 zz3y), (Value.int .i64 zz3z)]) ∧ ∃ (ad13 : Addr), grd (!b9) (l.a = some ad13 ∧ (0 : Int) ≤ i ∧ i < (l.len : Int)) ∧ ∃ (zz47 : Int) (zz48 : Int) (zz49 : Int), grd (!b9) (ldc vw6 ((ad13.add (i.toNat * 6)).add 3) [(Value.int .i64 zz47), (Value.int .i64 zz48), (Value.int .i64 zz49)]) ∧ gCall (!b9) (fun (t35 : Int) (vw16 : World)=>gCall (!b9) (fun (t41 : Int) (vw21 : World)=>(((b9 || (decide (t41 < t35))) = true → R false vw21) ∧ ((b9 || (decide (t41 < t35))) = false → bnd vw21.drew fun (vw26 : World)=>bnd (decide (0 < i)) fun (b27 : Bool)=>∃ (ad28 : Addr), grd b27 (l.a = some ad28 ∧ (0 : Int) ≤ i ∧ i < (l.len : Int)) ∧ ∃ (zz4a : Int) (zz4b : Int) (zz4c : Int), grd b27 (ldc vw26 (ad28.add (i.toNat * 6)) [(Value.int .i64 zz4a), (Value.int .i64 zz4b), (Value.int .i64 zz4c)]) ∧ ∃ (ad31 : Addr), grd b27 (l.a = some ad31 ∧ (0 : Int) ≤ (wrapI (i - 1)) ∧ (wrapI (i - 1)) < (l.len : Int)) ∧ ∃ (zz4k : Int) (zz4l : Int) (zz4m : Int), grd b27 (ldc vw26 ((ad31.add ((wrapI (i - 1)).toNat * 6)).add 3) [(Value.int .i64 zz4k), (Value.int .i64 zz4l), (Value.int .i64 zz4m)]) ∧ gCall b27 (fun (t52 : Int) (vw34 : World)=>gCall b27 (fun (t59 : Int) (vw39 : World)=>(((b27 && (decide (t52 ≤ (wrapI (t59 + 1))))) = true → R false vw39) ∧ ((b27 && (decide (t52 ≤ (wrapI (t59 + 1))))) = false → nxt (wrapI (i + 1)) vw39))) (fun q=>callS Tryz.prog 82 [(Value.agg #[(Value.int .i64 zz4k), (Value.int .i64 zz4l), (Value.int .i64 zz4m)])] vw34 fun v40 vw39=>∃ (t59 : Int), v40 = (Value.int .i64 t59) ∧ q t59 vw39) (fun q=>q 0 vw34)) (fun q=>callX Tryz.prog 82 [(Value.agg #[(Value.int .i64 zz4a), (Value.int .i64 zz4b), (Value.int .i64 zz4c)])] vw26 fun v35 vw34=>∃ (t52 : Int), v35 = (Value.int .i64 t52) ∧ q t52 vw34) (fun q=>q 0 vw26)))) (fun q=>callS Tryz.prog 82 [(Value.agg #[(Value.int .i64 zz47), (Value.int .i64 zz48), (Value.int .i64 zz49)])] vw16 fun v22 vw21=>∃ (t41 : Int), v22 = (Value.int .i64 t41) ∧ q t41 vw21) (fun q=>q 0 vw16)) (fun q=>callX Tryz.prog 82 [(Value.agg #[(Value.int .i64 zz3x), (Value.int .i64 zz3y), (Value.int .i64 zz3z)])] vw6 fun v17 vw16=>∃ (t35 : Int), v17 = (Value.int .i64 t35) ∧ q t35 vw16) (fun q=>q 0 vw6)) (fun q=>callS Tryz.prog 80 [(Value.agg #[(Value.int .i64 zz16), (Value.int .i64 zz17), (Value.int .i64 zz18)])] vw2 fun v7 vw6=>∃ (t26 : Bool), v7 = (Value.bool t26) ∧ q t26 vw6) (fun q=>q false vw2)) ∧ (¬ (i < (l.len : Int)) → R true vw))))
set_option maxHeartbeats 8000000 in
theorem halyardref03_May.sound (l : Sl) (w : World) (R : Bool → World → Prop) (h : halyardref03_May l w R) : callS Tryz.prog 79 [(Sl.v l)] w (fun v w'=>∃ (r0 : Bool), v = (Value.bool r0) ∧ R r0 w') := by
 unfold halyardref03_May at h
 refine calls_of_vc 63 rfl Tryz.func79 rfl (by kernel_rfl) (by simp) ?_
 refine Vc.seq ?_
 refine Vc.region ?_
 refine vcL_pure rfl rfl (Value.bool false) (fun w=>by kernel_rfl) ?_
 refine vcL_nil ?_
 refine Vc.seq ?_
 refine Vc.seq ?_
 refine Vc.region ?_
 refine vcL_purs 3 [(6, (Value.bool (decide (64 < (l.len : Int))))), (5, (Value.int .i64 (l.len : Int))), (4, (Sl.v l))] (by kernel_rfl) ?_
 refine vcL_nil ?_
 refine Vc.cond (decide (64 < (l.len : Int))) (by kernel_rfl) (fun hb=>?_) (fun hb=>?_)
 ·have h := h.1 (of_decide_eq_true hb)
  refine Vc.seq ?_
  refine Vc.region ?_
  refine vcL_pure rfl rfl (Value.bool false) (fun w=>by kernel_rfl) ?_
  refine vcL_nil ?_
  refine Vc.ret ?_
  refine outs_ret ?_
  refine done_mk (Value.bool false) (res1 (resC_tmp (by kernel_rfl))) ?_
  exact ⟨false, rfl, h⟩
 ·have h := h.2 (of_decide_eq_false hb)
  refine Vc.skip ?_
  refine Vc.seq ?_
  refine Vc.seq ?_
  refine Vc.region ?_
  refine vcL_pure rfl rfl (Value.int .i64 0) (fun w=>by kernel_rfl) ?_
  refine vcL_nil ?_
  refine Vc.block ?_
  obtain ⟨vI, mu, h, hr⟩ := h
  refine Vc.loopJ (σ := Int) [3] [2, 7, 8, 9, 10, 11, 12, 13, 14, 15, 16, 17, 18, 19, 20, 21, 22, 23, 24, 25, 26, 27, 28, 29, 30, 31, 32, 33, 34, 35, 36, 37, 38, 39, 40, 41, 42, 43, 44, 45, 46, 47, 48, 49, 50, 51, 52, 53, 54, 55, 56, 57, 58, 59, 60, 61, 62] (fun s=>[(3, (Value.int .i64 s))]) (fun s w=>vI s w) (fun s w=>mu s w) 0 h (fun _ => rfl) (by kernel_rfl) ?_
  intro i vw j h
  have h := hr i vw h
  refine Vc.seq ?_
  refine Vc.seq ?_
  refine Vc.region ?_
  refine vcL_purs 4 [(10, (Value.bool (decide (i < (l.len : Int))))), (9, (Value.int .i64 (l.len : Int))), (8, (Sl.v l)), (7, (Value.int .i64 i))] (by kernel_rfl) ?_
  refine vcL_nil ?_
  refine Vc.cond (decide (i < (l.len : Int))) (by kernel_rfl) (fun hb=>?_) (fun hb=>?_)
  ·have h := h.1 (of_decide_eq_true hb)
   refine Vc.skip ?_
   refine Vc.seq ?_
   refine Vc.block ?_
   refine Vc.seq ?_
   refine Vc.seq ?_
   obtain ⟨vw1, hvw1⟩ : ∃ y, y = vw.drew := ⟨_, rfl⟩
   have h := h vw1 hvw1
   refine Vc.draw (by kernel_rfl) (fun i=>!(memN [5, 13, 28] i)) (.pur 0 (.pur 1 (.pur 2 (.pur 3 (.val 4 (.eff 5 (.pur 6 (.pur 7 (.pur 8 (.pur 9 (.pur 10 (.pur 11 (.val 12 (.eff 13 (.pur 14 (.pur 15 (.pur 16 (.pur 17 (.pur 18 (.pur 19 (.pur 20 (.val 21 (.pur 23 (.pur 24 (.pur 25 (.pur 26 (.val 27 (.eff 22 (.eff 28 (.pur 29 (.pur 30 .fin)) .stop) .stop)))))))))))))) .stop)))))))) .stop)))))) (by kernel_rfl) ?_
   rw [← hvw1]
   clear hvw1
   refine vcS_pure rfl rfl rfl (Sl.v l) (fun w=>by kernel_rfl) ?_
   refine vcS_pure rfl rfl rfl (Value.int .i64 i) (fun w=>by kernel_rfl) ?_
   obtain ⟨ad, hi, h⟩ := h
   refine vcS_pure rfl rfl rfl (Value.pointer (some (ad.add (i.toNat * 6)))) (fun w=>by exact exec_indexAt (s := l) (el := 83) rfl (by kernel_rfl) (by kernel_rfl) (by kernel_rfl) (fun w=>by kernel_rfl) (hi).1 (hi).2.1 (hi).2.2 w) ?_
   refine vcS_pure rfl rfl rfl (Value.pointer (some (ad.add (i.toNat * 6)))) (fun w=>by kernel_rfl) ?_
   obtain ⟨zz3l, zz3m, zz3n, hc, h⟩ := h
   refine vcS_val rfl rfl rfl (Value.agg #[(Value.int .i64 zz3l), (Value.int .i64 zz3m), (Value.int .i64 zz3n)]) (fun w' hx=>exec_load rfl (by kernel_rfl) (run_loadN (fun w=>by kernel_rfl) (fun w=>by kernel_rfl) ((hc).ext hx))) ?_
   refine vcS_eff rfl rfl (opVC_call rfl (by kernel_rfl) (callS.mono h fun v vw2 h=>?_)) vcS_stop
   obtain ⟨t18, rfl, h⟩ := h
   refine ⟨fun hb=>absurd hb (by decide), ?_⟩
   refine vcS_pure rfl rfl rfl (Value.bool (!t18)) (fun w=>by kernel_rfl) ?_
   obtain ⟨b, hb⟩ : ∃ y, y = (!t18) := ⟨_, rfl⟩
   have h := h b hb
   refine vcS_pure rfl rfl rfl (Value.bool b) (fun w=>by rw [hb]; kernel_rfl) ?_
   refine vcS_guard rfl (!b) (wanted_g (d := 20) rfl (by kernel_rfl) b (by kernel_rfl) (!b) (eqF b)) rfl (Sl.v l) (fun hg w=>by simp only [Bool.and_eq_true, Bool.not_eq_true'] at hg; obtain rfl := hg; kernel_rfl) ?_
   refine vcS_guard rfl (!b) (wanted_g (d := 20) rfl (by kernel_rfl) b (by kernel_rfl) (!b) (eqF b)) rfl (Value.int .i64 i) (fun hg w=>by simp only [Bool.and_eq_true, Bool.not_eq_true'] at hg; obtain rfl := hg; kernel_rfl) ?_
   obtain ⟨ad3, hi4, h⟩ := h
   refine vcS_guard rfl (!b) (wanted_g (d := 20) rfl (by kernel_rfl) b (by kernel_rfl) (!b) (eqF b)) rfl (Value.pointer (some (ad3.add (i.toNat * 6)))) (fun hg w=>by simp only [Bool.and_eq_true, Bool.not_eq_true'] at hg; obtain rfl := hg; exact exec_indexAt (s := l) (el := 83) rfl (by kernel_rfl) (by kernel_rfl) (by kernel_rfl) (fun w=>by kernel_rfl) (hi4 rfl).1 (hi4 rfl).2.1 (hi4 rfl).2.2 w) ?_
   refine vcS_guard rfl (!b) (wanted_g (d := 20) rfl (by kernel_rfl) b (by kernel_rfl) (!b) (eqF b)) rfl (Value.pointer (some ((ad3.add (i.toNat * 6)).add 3))) (fun hg w=>by simp only [Bool.and_eq_true, Bool.not_eq_true'] at hg; obtain rfl := hg; kernel_rfl) ?_
   obtain ⟨zz16, zz17, zz18, hc5, h⟩ := h
   refine vcS_valG rfl (!b) (wanted_g (d := 20) rfl (by kernel_rfl) b (by kernel_rfl) (!b) (eqF b)) rfl (Value.agg #[(Value.int .i64 zz16), (Value.int .i64 zz17), (Value.int .i64 zz18)]) (fun hg w' hx=>by simp only [Bool.and_eq_true, Bool.not_eq_true'] at hg; obtain rfl := hg; exact exec_load rfl (by kernel_rfl) (run_loadN (fun w=>by kernel_rfl) (fun w=>by kernel_rfl) ((hc5 rfl).ext hx))) ?_
   obtain ⟨vJ, hJ, h⟩ := gCall_elim h
   refine vcS_effJ (σ := Bool) rfl (!b) (wanted_g (d := 20) rfl (by kernel_rfl) b (by kernel_rfl) (!b) (eqF b)) rfl (fun s w=>vJ s w) (fun s=>(Value.bool s)) ?_ (fun hg=>opVC_call rfl (by simp only [Bool.and_eq_true, Bool.not_eq_true'] at hg; obtain rfl := hg; kernel_rfl) (callS.mono (h.1 hg) fun v7 vw6 hq=>?_)) (fun hg=>⟨false, h.2 hg⟩) vcS_stop
   ·intro t26 vw6 h
    subst hJ
    refine vcS_guard rfl (!b) (wanted_g (d := 20) rfl (by kernel_rfl) b (by kernel_rfl) (!b) (eqF b)) rfl (Value.bool (!t26)) (fun hg w=>by simp only [Bool.and_eq_true, Bool.not_eq_true'] at hg; obtain rfl := hg; kernel_rfl) ?_
    refine vcS_pure rfl rfl rfl (Value.bool (b || (!t26))) (fun w=>by cases b <;> kernel_rfl) ?_
    obtain ⟨b9, hb9⟩ : ∃ y, y = (b || (!t26)) := ⟨_, rfl⟩
    have h := h b9 hb9
    refine vcS_pure rfl rfl rfl (Value.bool b9) (fun w=>by rw [hb9]; kernel_rfl) ?_
    refine vcS_guard rfl (!b9) (wanted_g (d := 29) rfl (by kernel_rfl) b9 (by kernel_rfl) (!b9) (eqF b9)) rfl (Sl.v l) (fun hg w=>by simp only [Bool.and_eq_true, Bool.not_eq_true'] at hg; obtain rfl := hg; kernel_rfl) ?_
    refine vcS_guard rfl (!b9) (wanted_g (d := 29) rfl (by kernel_rfl) b9 (by kernel_rfl) (!b9) (eqF b9)) rfl (Value.int .i64 i) (fun hg w=>by simp only [Bool.and_eq_true, Bool.not_eq_true'] at hg; obtain rfl := hg; kernel_rfl) ?_
    obtain ⟨ad10, hi11, h⟩ := h
    refine vcS_guard rfl (!b9) (wanted_g (d := 29) rfl (by kernel_rfl) b9 (by kernel_rfl) (!b9) (eqF b9)) rfl (Value.pointer (some (ad10.add (i.toNat * 6)))) (fun hg w=>by simp only [Bool.and_eq_true, Bool.not_eq_true'] at hg; obtain rfl := hg; exact exec_indexAt (s := l) (el := 83) rfl (by kernel_rfl) (by kernel_rfl) (by kernel_rfl) (fun w=>by kernel_rfl) (hi11 rfl).1 (hi11 rfl).2.1 (hi11 rfl).2.2 w) ?_
    refine vcS_guard rfl (!b9) (wanted_g (d := 29) rfl (by kernel_rfl) b9 (by kernel_rfl) (!b9) (eqF b9)) rfl (Value.pointer (some (ad10.add (i.toNat * 6)))) (fun hg w=>by simp only [Bool.and_eq_true, Bool.not_eq_true'] at hg; obtain rfl := hg; kernel_rfl) ?_
    obtain ⟨zz3x, zz3y, zz3z, hc12, h⟩ := h
    refine vcS_valG rfl (!b9) (wanted_g (d := 29) rfl (by kernel_rfl) b9 (by kernel_rfl) (!b9) (eqF b9)) rfl (Value.agg #[(Value.int .i64 zz3x), (Value.int .i64 zz3y), (Value.int .i64 zz3z)]) (fun hg w' hx=>by simp only [Bool.and_eq_true, Bool.not_eq_true'] at hg; obtain rfl := hg; exact exec_load rfl (by kernel_rfl) (run_loadN (fun w=>by kernel_rfl) (fun w=>by kernel_rfl) ((hc12 rfl).ext hx))) ?_
    refine vcS_guard rfl (!b9) (wanted_g (d := 29) rfl (by kernel_rfl) b9 (by kernel_rfl) (!b9) (eqF b9)) rfl (Sl.v l) (fun hg w=>by simp only [Bool.and_eq_true, Bool.not_eq_true'] at hg; obtain rfl := hg; kernel_rfl) ?_
    refine vcS_guard rfl (!b9) (wanted_g (d := 29) rfl (by kernel_rfl) b9 (by kernel_rfl) (!b9) (eqF b9)) rfl (Value.int .i64 i) (fun hg w=>by simp only [Bool.and_eq_true, Bool.not_eq_true'] at hg; obtain rfl := hg; kernel_rfl) ?_
    obtain ⟨ad13, hi14, h⟩ := h
    refine vcS_guard rfl (!b9) (wanted_g (d := 29) rfl (by kernel_rfl) b9 (by kernel_rfl) (!b9) (eqF b9)) rfl (Value.pointer (some (ad13.add (i.toNat * 6)))) (fun hg w=>by simp only [Bool.and_eq_true, Bool.not_eq_true'] at hg; obtain rfl := hg; exact exec_indexAt (s := l) (el := 83) rfl (by kernel_rfl) (by kernel_rfl) (by kernel_rfl) (fun w=>by kernel_rfl) (hi14 rfl).1 (hi14 rfl).2.1 (hi14 rfl).2.2 w) ?_
    refine vcS_guard rfl (!b9) (wanted_g (d := 29) rfl (by kernel_rfl) b9 (by kernel_rfl) (!b9) (eqF b9)) rfl (Value.pointer (some ((ad13.add (i.toNat * 6)).add 3))) (fun hg w=>by simp only [Bool.and_eq_true, Bool.not_eq_true'] at hg; obtain rfl := hg; kernel_rfl) ?_
    obtain ⟨zz47, zz48, zz49, hc15, h⟩ := h
    refine vcS_valG rfl (!b9) (wanted_g (d := 29) rfl (by kernel_rfl) b9 (by kernel_rfl) (!b9) (eqF b9)) rfl (Value.agg #[(Value.int .i64 zz47), (Value.int .i64 zz48), (Value.int .i64 zz49)]) (fun hg w' hx=>by simp only [Bool.and_eq_true, Bool.not_eq_true'] at hg; obtain rfl := hg; exact exec_load rfl (by kernel_rfl) (run_loadN (fun w=>by kernel_rfl) (fun w=>by kernel_rfl) ((hc15 rfl).ext hx))) ?_
    obtain ⟨vJ19, hJ20, h⟩ := gCall_elim h
    refine vcS_effJ (σ := Int) rfl (!b9) (wanted_g (d := 29) rfl (by kernel_rfl) b9 (by kernel_rfl) (!b9) (eqF b9)) rfl (fun s w=>vJ19 s w) (fun s=>(Value.int .i64 s)) ?_ (fun hg=>opVC_call rfl (by simp only [Bool.and_eq_true, Bool.not_eq_true'] at hg; obtain rfl := hg; kernel_rfl) (callS.mono (h.1 hg) fun v17 vw16 hq=>?_)) (fun hg=>⟨0, h.2 hg⟩) vcS_stop
    ·intro t35 vw16 h
     subst hJ20
     obtain ⟨vJ24, hJ25, h⟩ := gCall_elim h
     refine vcS_effJ (σ := Int) rfl (!b9) (wanted_g (d := 29) rfl (by kernel_rfl) b9 (by kernel_rfl) (!b9) (eqF b9)) rfl (fun s w=>vJ24 s w) (fun s=>(Value.int .i64 s)) ?_ (fun hg=>opVC_call rfl (by simp only [Bool.and_eq_true, Bool.not_eq_true'] at hg; obtain rfl := hg; kernel_rfl) (callS.mono (h.1 hg) fun v22 vw21 hq=>?_)) (fun hg=>⟨0, h.2 hg⟩) vcS_stop
     ·intro t41 vw21 h
      subst hJ25
      refine vcS_guard rfl (!b9) (wanted_g (d := 29) rfl (by kernel_rfl) b9 (by kernel_rfl) (!b9) (eqF b9)) rfl (Value.bool (decide (t41 < t35))) (fun hg w=>by simp only [Bool.and_eq_true, Bool.not_eq_true'] at hg; obtain rfl := hg; kernel_rfl) ?_
      refine vcS_pure rfl rfl rfl (Value.bool (b9 || (decide (t41 < t35)))) (fun w=>by cases b9 <;> kernel_rfl) ?_
      refine vcS_fin ?_
      refine Vc.cond (b9 || (decide (t41 < t35))) (by kernel_rfl) (fun hb=>?_) (fun hb=>?_)
      ·have h := h.1 (hb)
       refine Vc.seq ?_
       refine Vc.region ?_
       refine vcL_pure rfl rfl (Value.bool false) (fun w=>by kernel_rfl) ?_
       refine vcL_nil ?_
       refine Vc.ret ?_
       refine outOf_ret ?_
       refine outOf_ret ?_
       refine outs_ret ?_
       refine done_mk (Value.bool false) (res1 (resC_tmp (by kernel_rfl))) ?_
       exact ⟨false, rfl, h⟩
      ·have h := h.2 (hb)
       refine Vc.skip ?_
       refine Vc.seq ?_
       obtain ⟨vw26, hvw26⟩ : ∃ y, y = vw21.drew := ⟨_, rfl⟩
       have h := h vw26 hvw26
       refine Vc.draw (by kernel_rfl) (fun i=>!(memN [15] i)) (.pur 0 (.pur 1 (.pur 2 (.pur 3 (.pur 4 (.pur 5 (.pur 6 (.val 7 (.pur 9 (.pur 10 (.pur 11 (.pur 12 (.pur 13 (.val 14 (.eff 8 (.eff 15 (.pur 16 (.pur 17 (.pur 18 .fin))) .stop) .stop))))))))))))))) (by kernel_rfl) ?_
       rw [← hvw26]
       clear hvw26
       refine vcS_pure rfl rfl rfl (Value.int .i64 i) (fun w=>by kernel_rfl) ?_
       refine vcS_pure rfl rfl rfl (Value.bool (decide (0 < i))) (fun w=>by kernel_rfl) ?_
       obtain ⟨b27, hb27⟩ : ∃ y, y = (decide (0 < i)) := ⟨_, rfl⟩
       have h := h b27 hb27
       refine vcS_pure rfl rfl rfl (Value.bool b27) (fun w=>by rw [hb27]; kernel_rfl) ?_
       refine vcS_guard rfl b27 (wanted_g (d := 46) rfl (by kernel_rfl) b27 (by kernel_rfl) b27 (eqT b27)) rfl (Sl.v l) (fun hg w=>by subst hg; kernel_rfl) ?_
       refine vcS_guard rfl b27 (wanted_g (d := 46) rfl (by kernel_rfl) b27 (by kernel_rfl) b27 (eqT b27)) rfl (Value.int .i64 i) (fun hg w=>by subst hg; kernel_rfl) ?_
       obtain ⟨ad28, hi29, h⟩ := h
       refine vcS_guard rfl b27 (wanted_g (d := 46) rfl (by kernel_rfl) b27 (by kernel_rfl) b27 (eqT b27)) rfl (Value.pointer (some (ad28.add (i.toNat * 6)))) (fun hg w=>by subst hg; exact exec_indexAt (s := l) (el := 83) rfl (by kernel_rfl) (by kernel_rfl) (by kernel_rfl) (fun w=>by kernel_rfl) (hi29 rfl).1 (hi29 rfl).2.1 (hi29 rfl).2.2 w) ?_
       refine vcS_guard rfl b27 (wanted_g (d := 46) rfl (by kernel_rfl) b27 (by kernel_rfl) b27 (eqT b27)) rfl (Value.pointer (some (ad28.add (i.toNat * 6)))) (fun hg w=>by subst hg; kernel_rfl) ?_
       obtain ⟨zz4a, zz4b, zz4c, hc30, h⟩ := h
       refine vcS_valG rfl b27 (wanted_g (d := 46) rfl (by kernel_rfl) b27 (by kernel_rfl) b27 (eqT b27)) rfl (Value.agg #[(Value.int .i64 zz4a), (Value.int .i64 zz4b), (Value.int .i64 zz4c)]) (fun hg w' hx=>by subst hg; exact exec_load rfl (by kernel_rfl) (run_loadN (fun w=>by kernel_rfl) (fun w=>by kernel_rfl) ((hc30 rfl).ext hx))) ?_
       refine vcS_guard rfl b27 (wanted_g (d := 46) rfl (by kernel_rfl) b27 (by kernel_rfl) b27 (eqT b27)) rfl (Sl.v l) (fun hg w=>by subst hg; kernel_rfl) ?_
       refine vcS_guard rfl b27 (wanted_g (d := 46) rfl (by kernel_rfl) b27 (by kernel_rfl) b27 (eqT b27)) rfl (Value.int .i64 i) (fun hg w=>by subst hg; kernel_rfl) ?_
       refine vcS_guard rfl b27 (wanted_g (d := 46) rfl (by kernel_rfl) b27 (by kernel_rfl) b27 (eqT b27)) rfl (Value.int .i64 (wrapI (i - 1))) (fun hg w=>by subst hg; kernel_rfl) ?_
       obtain ⟨ad31, hi32, h⟩ := h
       refine vcS_guard rfl b27 (wanted_g (d := 46) rfl (by kernel_rfl) b27 (by kernel_rfl) b27 (eqT b27)) rfl (Value.pointer (some (ad31.add ((wrapI (i - 1)).toNat * 6)))) (fun hg w=>by subst hg; exact exec_indexAt (s := l) (el := 83) rfl (by kernel_rfl) (by kernel_rfl) (by kernel_rfl) (fun w=>by kernel_rfl) (hi32 rfl).1 (hi32 rfl).2.1 (hi32 rfl).2.2 w) ?_
       refine vcS_guard rfl b27 (wanted_g (d := 46) rfl (by kernel_rfl) b27 (by kernel_rfl) b27 (eqT b27)) rfl (Value.pointer (some ((ad31.add ((wrapI (i - 1)).toNat * 6)).add 3))) (fun hg w=>by subst hg; kernel_rfl) ?_
       obtain ⟨zz4k, zz4l, zz4m, hc33, h⟩ := h
       refine vcS_valG rfl b27 (wanted_g (d := 46) rfl (by kernel_rfl) b27 (by kernel_rfl) b27 (eqT b27)) rfl (Value.agg #[(Value.int .i64 zz4k), (Value.int .i64 zz4l), (Value.int .i64 zz4m)]) (fun hg w' hx=>by subst hg; exact exec_load rfl (by kernel_rfl) (run_loadN (fun w=>by kernel_rfl) (fun w=>by kernel_rfl) ((hc33 rfl).ext hx))) ?_
       obtain ⟨vJ37, hJ38, h⟩ := gCall_elim h
       refine vcS_effJ (σ := Int) rfl b27 (wanted_g (d := 46) rfl (by kernel_rfl) b27 (by kernel_rfl) b27 (eqT b27)) rfl (fun s w=>vJ37 s w) (fun s=>(Value.int .i64 s)) ?_ (fun hg=>opVC_call rfl (by subst hg; kernel_rfl) (callS.mono (h.1 hg) fun v35 vw34 hq=>?_)) (fun hg=>⟨0, h.2 hg⟩) vcS_stop
       ·intro t52 vw34 h
        subst hJ38
        obtain ⟨vJ42, hJ43, h⟩ := gCall_elim h
        refine vcS_effJ (σ := Int) rfl b27 (wanted_g (d := 46) rfl (by kernel_rfl) b27 (by kernel_rfl) b27 (eqT b27)) rfl (fun s w=>vJ42 s w) (fun s=>(Value.int .i64 s)) ?_ (fun hg=>opVC_call rfl (by subst hg; kernel_rfl) (callS.mono (h.1 hg) fun v40 vw39 hq=>?_)) (fun hg=>⟨0, h.2 hg⟩) vcS_stop
        ·intro t59 vw39 h
         subst hJ43
         refine vcS_guard rfl b27 (wanted_g (d := 46) rfl (by kernel_rfl) b27 (by kernel_rfl) b27 (eqT b27)) rfl (Value.int .i64 (wrapI (t59 + 1))) (fun hg w=>by subst hg; kernel_rfl) ?_
         refine vcS_guard rfl b27 (wanted_g (d := 46) rfl (by kernel_rfl) b27 (by kernel_rfl) b27 (eqT b27)) rfl (Value.bool (decide (t52 ≤ (wrapI (t59 + 1))))) (fun hg w=>by subst hg; kernel_rfl) ?_
         refine vcS_pure rfl rfl rfl (Value.bool (b27 && (decide (t52 ≤ (wrapI (t59 + 1)))))) (fun w=>by cases b27 <;> kernel_rfl) ?_
         refine vcS_fin ?_
         refine Vc.cond (b27 && (decide (t52 ≤ (wrapI (t59 + 1))))) (by kernel_rfl) (fun hb=>?_) (fun hb=>?_)
         ·have h := h.1 (hb)
          refine Vc.seq ?_
          refine Vc.region ?_
          refine vcL_pure rfl rfl (Value.bool false) (fun w=>by kernel_rfl) ?_
          refine vcL_nil ?_
          refine Vc.ret ?_
          refine outOf_ret ?_
          refine outOf_ret ?_
          refine outs_ret ?_
          refine done_mk (Value.bool false) (res1 (resC_tmp (by kernel_rfl))) ?_
          exact ⟨false, rfl, h⟩
         ·have h := h.2 (hb)
          refine Vc.skip ?_
          refine Vc.region ?_
          refine vcL_purs 3 [(3, (Value.int .i64 (wrapI (i + 1)))), (12, (Value.int .i64 (wrapI (i + 1)))), (11, (Value.int .i64 i))] (by kernel_rfl) ?_
          refine vcL_nil ?_
          exact ⟨(wrapI (i + 1)), 115, ⟨rfl, by kernel_rfl, by kernel_rfl, by kernel_rfl⟩, h⟩
        ·obtain ⟨t59, rfl, hq⟩ := hq
         exact ⟨fun hb=>absurd hb (by decide), t59, rfl, hq⟩
       ·obtain ⟨hx, hq⟩ := hq
        obtain ⟨t52, rfl, hq⟩ := hq
        exact ⟨fun _ => hx, t52, rfl, hq⟩
     ·obtain ⟨t41, rfl, hq⟩ := hq
      exact ⟨fun hb=>absurd hb (by decide), t41, rfl, hq⟩
    ·obtain ⟨hx, hq⟩ := hq
     obtain ⟨t35, rfl, hq⟩ := hq
     exact ⟨fun _ => hx, t35, rfl, hq⟩
   ·obtain ⟨t26, rfl, hq⟩ := hq
    exact ⟨fun hb=>absurd hb (by decide), t26, rfl, hq⟩
  ·have h := h.2 (of_decide_eq_false hb)
   refine Vc.exit ?_
   refine outOf_hit ?_
   refine Vc.seq ?_
   refine Vc.region ?_
   refine vcL_pure rfl rfl (Value.bool true) (fun w=>by kernel_rfl) ?_
   refine vcL_nil ?_
   refine Vc.ret ?_
   refine outs_ret ?_
   refine done_mk (Value.bool true) (res1 (resC_tmp (by kernel_rfl))) ?_
   exact ⟨true, rfl, h⟩
theorem halyardref03_May.go {l : Sl} {w : World} {k : Value → World → Prop} (h : halyardref03_May l w fun r0 w'=>k (Value.bool r0) w') : callS Tryz.prog 79 [(Sl.v l)] w k := (halyardref03_May.sound l w _ h).mono (by rintro _ _ ⟨r0, rfl, h⟩; exact h)
def halyardref02_May (zz0 : Int) (zz1 : Int) (zz2 : Int) (w : World) (R : Bool → World → Prop) : Prop :=
 newS w [(Value.int .i64 zz0), (Value.int .i64 zz1), (Value.int .i64 zz2)] 30 fun a vw=>∃ (t4 : Int), (ldc vw a [(Value.int .i64 t4)]) ∧ callS Tryz.prog 115 [(Value.int .i64 t4)] vw fun v vw1=>∃ (t5 : Bool), v = (Value.bool t5) ∧ ∃ (t8 : Int), grd t5 (ldc vw1 (a.add 1) [(Value.int .i64 t8)]) ∧ gCall t5 (fun (t9 : Bool) (vw3 : World)=>bnd (t5 && t9) fun (b : Bool)=>∃ (t13 : Int), grd b (ldc vw3 (a.add 2) [(Value.int .i64 t13)]) ∧ gCall b (fun (t14 : Bool) (vw7 : World)=>R (b && t14) vw7) (fun q=>callS Tryz.prog 115 [(Value.int .i64 t13)] vw3 fun v8 vw7=>∃ (t14 : Bool), v8 = (Value.bool t14) ∧ q t14 vw7) (fun q=>q false vw3)) (fun q=>callS Tryz.prog 115 [(Value.int .i64 t8)] vw1 fun v4 vw3=>∃ (t9 : Bool), v4 = (Value.bool t9) ∧ q t9 vw3) (fun q=>q false vw1)
set_option maxHeartbeats 8000000 in
theorem halyardref02_May.sound (zz0 : Int) (zz1 : Int) (zz2 : Int) (w : World) (R : Bool → World → Prop) (h : halyardref02_May zz0 zz1 zz2 w R) : callS Tryz.prog 80 [(Value.agg #[(Value.int .i64 zz0), (Value.int .i64 zz1), (Value.int .i64 zz2)])] w (fun v w'=>∃ (r0 : Bool), v = (Value.bool r0) ∧ R r0 w') := by
 unfold halyardref02_May at h
 refine calls_of_vc 16 rfl Tryz.func80 rfl (by kernel_rfl) (by simp) ?_
 refine Vc.seq ?_
 refine Vc.region ?_
 refine vcL_eff rfl (opVC_new rfl (fun a=>Value.pointer (some a)) (by kernel_rfl) (newS.mono h fun a vw hx h=>?_))
 refine vcL_pure rfl rfl (Value.bool false) (fun w=>by kernel_rfl) ?_
 refine vcL_nil ?_
 refine Vc.seq ?_
 refine Vc.region ?_
 refine vcL_pure rfl rfl (Value.pointer (some a)) (fun w=>by kernel_rfl) ?_
 obtain ⟨t4, hc, h⟩ := h
 refine vcL_val rfl rfl (Value.int .i64 t4) (exec_load rfl (by kernel_rfl) (run_load1 (fun w=>by kernel_rfl) ((hc)))) ?_
 refine vcL_eff rfl (opVC_call rfl (by kernel_rfl) (callS.mono h fun v vw1 h=>?_))
 obtain ⟨t5, rfl, h⟩ := h
 refine vcL_pure rfl rfl (Value.bool t5) (fun w=>by kernel_rfl) ?_
 refine vcL_guardP t5 (wanted_g (d := 6) rfl (by kernel_rfl) t5 (by kernel_rfl) t5 (eqT t5)) rfl (Value.pointer (some (a.add 1))) (fun hg w=>by subst hg; kernel_rfl) ?_
 obtain ⟨t8, hc2, h⟩ := h
 refine vcL_guard t5 (wanted_g (d := 6) rfl (by kernel_rfl) t5 (by kernel_rfl) t5 (eqT t5)) rfl (Value.int .i64 t8) (fun hg=>by subst hg; exact exec_load rfl (by kernel_rfl) (run_load1 (fun w=>by kernel_rfl) ((hc2 rfl)))) ?_
 obtain ⟨vJ, hJ, h⟩ := gCall_elim h
 refine vcL_effJ (σ := Bool) t5 (wanted_g (d := 6) rfl (by kernel_rfl) t5 (by kernel_rfl) t5 (eqT t5)) rfl (fun s w=>vJ s w) (fun s=>(Value.bool s)) ?_ (fun hg=>opVC_call rfl (by subst hg; kernel_rfl) (callS.mono (h.1 hg) fun v4 vw3 hq=>?_)) (fun hg=>⟨false, h.2 hg⟩)
 ·intro t9 vw3 h
  subst hJ
  refine vcL_pure rfl rfl (Value.bool (t5 && t9)) (fun w=>by cases t5 <;> kernel_rfl) ?_
  obtain ⟨b, hb⟩ : ∃ y, y = (t5 && t9) := ⟨_, rfl⟩
  have h := h b hb
  refine vcL_pure rfl rfl (Value.bool b) (fun w=>by rw [hb]; kernel_rfl) ?_
  refine vcL_guardP b (wanted_g (d := 11) rfl (by kernel_rfl) b (by kernel_rfl) b (eqT b)) rfl (Value.pointer (some (a.add 2))) (fun hg w=>by subst hg; kernel_rfl) ?_
  obtain ⟨t13, hc6, h⟩ := h
  refine vcL_guard b (wanted_g (d := 11) rfl (by kernel_rfl) b (by kernel_rfl) b (eqT b)) rfl (Value.int .i64 t13) (fun hg=>by subst hg; exact exec_load rfl (by kernel_rfl) (run_load1 (fun w=>by kernel_rfl) ((hc6 rfl)))) ?_
  obtain ⟨vJ10, hJ11, h⟩ := gCall_elim h
  refine vcL_effJ (σ := Bool) b (wanted_g (d := 11) rfl (by kernel_rfl) b (by kernel_rfl) b (eqT b)) rfl (fun s w=>vJ10 s w) (fun s=>(Value.bool s)) ?_ (fun hg=>opVC_call rfl (by subst hg; kernel_rfl) (callS.mono (h.1 hg) fun v8 vw7 hq=>?_)) (fun hg=>⟨false, h.2 hg⟩)
  ·intro t14 vw7 h
   subst hJ11
   refine vcL_pure rfl rfl (Value.bool (b && t14)) (fun w=>by cases b <;> kernel_rfl) ?_
   refine vcL_pure rfl rfl (Value.bool (b && t14)) (fun w=>by kernel_rfl) ?_
   refine vcL_nil ?_
   refine Vc.ret ?_
   refine outs_ret ?_
   refine done_mk (Value.bool (b && t14)) (res1 (resC_tmp (by kernel_rfl))) ?_
   exact ⟨(b && t14), rfl, h⟩
  ·obtain ⟨t14, rfl, hq⟩ := hq
   exact ⟨t14, rfl, hq⟩
 ·obtain ⟨t9, rfl, hq⟩ := hq
  exact ⟨t9, rfl, hq⟩
theorem halyardref02_May.go {zz0 : Int} {zz1 : Int} {zz2 : Int} {w : World} {k : Value → World → Prop} (h : halyardref02_May zz0 zz1 zz2 w fun r0 w'=>k (Value.bool r0) w') : callS Tryz.prog 80 [(Value.agg #[(Value.int .i64 zz0), (Value.int .i64 zz1), (Value.int .i64 zz2)])] w k := (halyardref02_May.sound zz0 zz1 zz2 w _ h).mono (by rintro _ _ ⟨r0, rfl, h⟩; exact h)
def halyardref03_has (l : Sl) (n : Int) (w : World) (R : Bool → World → Prop) : Prop :=
 loop1 0 w fun i vw nxt=>((i < (l.len : Int) → ∃ (ad : Addr), (l.a = some ad ∧ (0 : Int) ≤ i ∧ i < (l.len : Int)) ∧ ∃ (zz1j : Int) (zz1k : Int) (zz1l : Int), (ldc vw (ad.add (i.toNat * 6)) [(Value.int .i64 zz1j), (Value.int .i64 zz1k), (Value.int .i64 zz1l)]) ∧ callS Tryz.prog 82 [(Value.agg #[(Value.int .i64 zz1j), (Value.int .i64 zz1k), (Value.int .i64 zz1l)])] vw fun v vw1=>∃ (t17 : Int), v = (Value.int .i64 t17) ∧ bnd (decide (t17 ≤ n)) fun (b : Bool)=>∃ (ad2 : Addr), grd b (l.a = some ad2 ∧ (0 : Int) ≤ i ∧ i < (l.len : Int)) ∧ ∃ (zzx : Int) (zzy : Int) (zzz : Int), grd b (ldc vw1 ((ad2.add (i.toNat * 6)).add 3) [(Value.int .i64 zzx), (Value.int .i64 zzy), (Value.int .i64 zzz)]) ∧ gCall b (fun (t27 : Int) (vw5 : World)=>(((b && (decide (n ≤ t27))) = true → R true vw5) ∧ ((b && (decide (n ≤ t27))) = false → nxt (wrapI (i + 1)) vw5))) (fun q=>callS Tryz.prog 82 [(Value.agg #[(Value.int .i64 zzx), (Value.int .i64 zzy), (Value.int .i64 zzz)])] vw1 fun v6 vw5=>∃ (t27 : Int), v6 = (Value.int .i64 t27) ∧ q t27 vw5) (fun q=>q 0 vw1)) ∧ (¬ (i < (l.len : Int)) → R false vw))
set_option maxHeartbeats 8000000 in
theorem halyardref03_has.sound (l : Sl) (n : Int) (w : World) (R : Bool → World → Prop) (h : halyardref03_has l n w R) : callS Tryz.prog 81 [(Sl.v l), (Value.int .i64 n)] w (fun v w'=>∃ (r0 : Bool), v = (Value.bool r0) ∧ R r0 w') := by
 unfold halyardref03_has at h
 refine calls_of_vc 30 rfl Tryz.func81 rfl (by kernel_rfl) (by simp) ?_
 refine Vc.seq ?_
 refine Vc.region ?_
 refine vcL_pure rfl rfl (Value.bool false) (fun w=>by kernel_rfl) ?_
 refine vcL_nil ?_
 refine Vc.seq ?_
 refine Vc.seq ?_
 refine Vc.region ?_
 refine vcL_pure rfl rfl (Value.int .i64 0) (fun w=>by kernel_rfl) ?_
 refine vcL_nil ?_
 refine Vc.block ?_
 obtain ⟨vI, mu, h, hr⟩ := h
 refine Vc.loopJ (σ := Int) [5] [4, 6, 7, 8, 9, 10, 11, 12, 13, 14, 15, 16, 17, 18, 19, 20, 21, 22, 23, 24, 25, 26, 27, 28, 29] (fun s=>[(5, (Value.int .i64 s))]) (fun s w=>vI s w) (fun s w=>mu s w) 0 h (fun _ => rfl) (by kernel_rfl) ?_
 intro i vw j h
 have h := hr i vw h
 refine Vc.seq ?_
 refine Vc.seq ?_
 refine Vc.region ?_
 refine vcL_purs 4 [(9, (Value.bool (decide (i < (l.len : Int))))), (8, (Value.int .i64 (l.len : Int))), (7, (Sl.v l)), (6, (Value.int .i64 i))] (by kernel_rfl) ?_
 refine vcL_nil ?_
 refine Vc.cond (decide (i < (l.len : Int))) (by kernel_rfl) (fun hb=>?_) (fun hb=>?_)
 ·have h := h.1 (of_decide_eq_true hb)
  refine Vc.skip ?_
  refine Vc.seq ?_
  refine Vc.block ?_
  refine Vc.seq ?_
  refine Vc.region ?_
  refine vcL_purs 2 [(13, (Value.int .i64 i)), (12, (Sl.v l))] (by kernel_rfl) ?_
  obtain ⟨ad, hi, h⟩ := h
  refine vcL_pure rfl rfl (Value.pointer (some (ad.add (i.toNat * 6)))) (fun w=>by exact exec_indexAt (s := l) (el := 83) rfl (by kernel_rfl) (by kernel_rfl) (by kernel_rfl) (fun w=>by kernel_rfl) (hi).1 (hi).2.1 (hi).2.2 w) ?_
  refine vcL_pure rfl rfl (Value.pointer (some (ad.add (i.toNat * 6)))) (fun w=>by kernel_rfl) ?_
  obtain ⟨zz1j, zz1k, zz1l, hc, h⟩ := h
  refine vcL_val rfl rfl (Value.agg #[(Value.int .i64 zz1j), (Value.int .i64 zz1k), (Value.int .i64 zz1l)]) (exec_load rfl (by kernel_rfl) (run_loadN (fun w=>by kernel_rfl) (fun w=>by kernel_rfl) ((hc)))) ?_
  refine vcL_eff rfl (opVC_call rfl (by kernel_rfl) (callS.mono h fun v vw1 h=>?_))
  obtain ⟨t17, rfl, h⟩ := h
  refine vcL_purs 2 [(19, (Value.bool (decide (t17 ≤ n)))), (18, (Value.int .i64 n))] (by kernel_rfl) ?_
  obtain ⟨b, hb⟩ : ∃ y, y = (decide (t17 ≤ n)) := ⟨_, rfl⟩
  have h := h b hb
  refine vcL_pure rfl rfl (Value.bool b) (fun w=>by rw [hb]; kernel_rfl) ?_
  refine vcL_guardP b (wanted_g (d := 20) rfl (by kernel_rfl) b (by kernel_rfl) b (eqT b)) rfl (Value.int .i64 n) (fun hg w=>by subst hg; kernel_rfl) ?_
  refine vcL_guardP b (wanted_g (d := 20) rfl (by kernel_rfl) b (by kernel_rfl) b (eqT b)) rfl (Sl.v l) (fun hg w=>by subst hg; kernel_rfl) ?_
  refine vcL_guardP b (wanted_g (d := 20) rfl (by kernel_rfl) b (by kernel_rfl) b (eqT b)) rfl (Value.int .i64 i) (fun hg w=>by subst hg; kernel_rfl) ?_
  obtain ⟨ad2, hi3, h⟩ := h
  refine vcL_guardP b (wanted_g (d := 20) rfl (by kernel_rfl) b (by kernel_rfl) b (eqT b)) rfl (Value.pointer (some (ad2.add (i.toNat * 6)))) (fun hg w=>by subst hg; exact exec_indexAt (s := l) (el := 83) rfl (by kernel_rfl) (by kernel_rfl) (by kernel_rfl) (fun w=>by kernel_rfl) (hi3 rfl).1 (hi3 rfl).2.1 (hi3 rfl).2.2 w) ?_
  refine vcL_guardP b (wanted_g (d := 20) rfl (by kernel_rfl) b (by kernel_rfl) b (eqT b)) rfl (Value.pointer (some ((ad2.add (i.toNat * 6)).add 3))) (fun hg w=>by subst hg; kernel_rfl) ?_
  obtain ⟨zzx, zzy, zzz, hc4, h⟩ := h
  refine vcL_guard b (wanted_g (d := 20) rfl (by kernel_rfl) b (by kernel_rfl) b (eqT b)) rfl (Value.agg #[(Value.int .i64 zzx), (Value.int .i64 zzy), (Value.int .i64 zzz)]) (fun hg=>by subst hg; exact exec_load rfl (by kernel_rfl) (run_loadN (fun w=>by kernel_rfl) (fun w=>by kernel_rfl) ((hc4 rfl)))) ?_
  obtain ⟨vJ, hJ, h⟩ := gCall_elim h
  refine vcL_effJ (σ := Int) b (wanted_g (d := 20) rfl (by kernel_rfl) b (by kernel_rfl) b (eqT b)) rfl (fun s w=>vJ s w) (fun s=>(Value.int .i64 s)) ?_ (fun hg=>opVC_call rfl (by subst hg; kernel_rfl) (callS.mono (h.1 hg) fun v6 vw5 hq=>?_)) (fun hg=>⟨0, h.2 hg⟩)
  ·intro t27 vw5 h
   subst hJ
   refine vcL_guardP b (wanted_g (d := 20) rfl (by kernel_rfl) b (by kernel_rfl) b (eqT b)) rfl (Value.bool (decide (n ≤ t27))) (fun hg w=>by subst hg; kernel_rfl) ?_
   refine vcL_pure rfl rfl (Value.bool (b && (decide (n ≤ t27)))) (fun w=>by cases b <;> kernel_rfl) ?_
   refine vcL_nil ?_
   refine Vc.cond (b && (decide (n ≤ t27))) (by kernel_rfl) (fun hb=>?_) (fun hb=>?_)
   ·have h := h.1 (hb)
    refine Vc.seq ?_
    refine Vc.region ?_
    refine vcL_pure rfl rfl (Value.bool true) (fun w=>by kernel_rfl) ?_
    refine vcL_nil ?_
    refine Vc.ret ?_
    refine outOf_ret ?_
    refine outOf_ret ?_
    refine outs_ret ?_
    refine done_mk (Value.bool true) (res1 (resC_tmp (by kernel_rfl))) ?_
    exact ⟨true, rfl, h⟩
   ·have h := h.2 (hb)
    refine Vc.skip ?_
    refine Vc.region ?_
    refine vcL_purs 3 [(5, (Value.int .i64 (wrapI (i + 1)))), (11, (Value.int .i64 (wrapI (i + 1)))), (10, (Value.int .i64 i))] (by kernel_rfl) ?_
    refine vcL_nil ?_
    exact ⟨(wrapI (i + 1)), 51, ⟨rfl, by kernel_rfl, by kernel_rfl, by kernel_rfl⟩, h⟩
  ·obtain ⟨t27, rfl, hq⟩ := hq
   exact ⟨t27, rfl, hq⟩
 ·have h := h.2 (of_decide_eq_false hb)
  refine Vc.exit ?_
  refine outOf_hit ?_
  refine Vc.seq ?_
  refine Vc.region ?_
  refine vcL_pure rfl rfl (Value.bool false) (fun w=>by kernel_rfl) ?_
  refine vcL_nil ?_
  refine Vc.ret ?_
  refine outs_ret ?_
  refine done_mk (Value.bool false) (res1 (resC_tmp (by kernel_rfl))) ?_
  exact ⟨false, rfl, h⟩
theorem halyardref03_has.go {l : Sl} {n : Int} {w : World} {k : Value → World → Prop} (h : halyardref03_has l n w fun r0 w'=>k (Value.bool r0) w') : callS Tryz.prog 81 [(Sl.v l), (Value.int .i64 n)] w k := (halyardref03_has.sound l n w _ h).mono (by rintro _ _ ⟨r0, rfl, h⟩; exact h)
def halyardref03_rank (zz0 : Int) (zz1 : Int) (zz2 : Int) (w : World) (R : Int → World → Prop) : Prop :=
 newS w [(Value.int .i64 zz0), (Value.int .i64 zz1), (Value.int .i64 zz2)] 30 fun a vw=>∃ (zz1p : Int) (zz1q : Int) (zz1r : Int), (ldc vw a [(Value.int .i64 zz1p), (Value.int .i64 zz1q), (Value.int .i64 zz1r)]) ∧ callS Tryz.prog 116 [(Value.agg #[(Value.int .i64 zz1p), (Value.int .i64 zz1q), (Value.int .i64 zz1r)])] vw fun v vw1=>∃ (t7 : Int) (t7b : Bool), v = (Value.tuple #[(Value.int .i64 t7), (Value.bool t7b)]) ∧ R t7 vw1
set_option maxHeartbeats 8000000 in
theorem halyardref03_rank.sound (zz0 : Int) (zz1 : Int) (zz2 : Int) (w : World) (R : Int → World → Prop) (h : halyardref03_rank zz0 zz1 zz2 w R) : callS Tryz.prog 82 [(Value.agg #[(Value.int .i64 zz0), (Value.int .i64 zz1), (Value.int .i64 zz2)])] w (fun v w'=>∃ (r0 : Int), v = (Value.int .i64 r0) ∧ R r0 w') := by
 unfold halyardref03_rank at h
 refine calls_of_vc 11 rfl Tryz.func82 rfl (by kernel_rfl) (by simp) ?_
 refine Vc.seq ?_
 refine Vc.region ?_
 refine vcL_eff rfl (opVC_new rfl (fun a=>Value.pointer (some a)) (by kernel_rfl) (newS.mono h fun a vw hx h=>?_))
 refine vcL_pure rfl rfl (Value.int .i64 0) (fun w=>by kernel_rfl) ?_
 refine vcL_nil ?_
 refine Vc.seq ?_
 refine Vc.region ?_
 obtain ⟨zz1p, zz1q, zz1r, hc, h⟩ := h
 refine vcL_val rfl rfl (Value.agg #[(Value.int .i64 zz1p), (Value.int .i64 zz1q), (Value.int .i64 zz1r)]) (exec_load rfl (by kernel_rfl) (run_loadN (fun w=>by kernel_rfl) (fun w=>by kernel_rfl) ((hc)))) ?_
 refine vcL_eff rfl (opVC_call rfl (by kernel_rfl) (callS.mono h fun v vw1 h=>?_))
 obtain ⟨t7, t7b, rfl, h⟩ := h
 refine vcL_purs 5 [(4, (Value.bool t7b)), (3, (Value.int .i64 t7)), (9, (Value.bool t7b)), (8, (Value.int .i64 t7)), (5, (Value.tuple #[(Value.int .i64 t7), (Value.bool t7b)]))] (by kernel_rfl) ?_
 refine vcL_nil ?_
 refine Vc.seq ?_
 refine Vc.region ?_
 refine vcL_purs 2 [(2, (Value.int .i64 t7)), (10, (Value.int .i64 t7))] (by kernel_rfl) ?_
 refine vcL_nil ?_
 refine Vc.ret ?_
 refine outs_ret ?_
 refine done_mk (Value.int .i64 t7) (res1 (resC_tmp (by kernel_rfl))) ?_
 exact ⟨t7, rfl, h⟩
theorem halyardref03_rank.go {zz0 : Int} {zz1 : Int} {zz2 : Int} {w : World} {k : Value → World → Prop} (h : halyardref03_rank zz0 zz1 zz2 w fun r0 w'=>k (Value.int .i64 r0) w') : callS Tryz.prog 82 [(Value.agg #[(Value.int .i64 zz0), (Value.int .i64 zz1), (Value.int .i64 zz2)])] w k := (halyardref03_rank.sound zz0 zz1 zz2 w _ h).mono (by rintro _ _ ⟨r0, rfl, h⟩; exact h)
def halyardref04_Name (vs : ByteArray) (w : World) (R : Bool → World → Prop) : Prop :=
 loop1 0 w fun i vw nxt=>((i < (vs.size : Int) → ((0 : Int) ≤ i ∧ i < (vs.size : Int)) ∧ bnd (decide (97 ≤ (bAt vs i))) fun (b : Bool)=>grd b ((0 : Int) ≤ i ∧ i < (vs.size : Int)) ∧ ((0 : Int) ≤ i ∧ i < (vs.size : Int)) ∧ bnd (decide (48 ≤ (bAt vs i))) fun (b3 : Bool)=>grd b3 ((0 : Int) ≤ i ∧ i < (vs.size : Int)) ∧ bnd (b3 && (decide ((bAt vs i) ≤ 57))) fun (b5 : Bool)=>grd (!b5) ((0 : Int) ≤ i ∧ i < (vs.size : Int)) ∧ bnd (!(b && (decide ((bAt vs i) ≤ 122)))) fun (b7 : Bool)=>bnd (i == 0) fun (b8 : Bool)=>(((b7 && (b8 || (!(b5 || ((bAt vs i) == 45))))) = true → R false vw) ∧ ((b7 && (b8 || (!(b5 || ((bAt vs i) == 45))))) = false → nxt (wrapI (i + 1)) vw))) ∧ (¬ (i < (vs.size : Int)) → bnd (!bEq vs (ByteArray.mk #[])) fun (b9 : Bool)=>R (b9 && (decide ((vs.size : Int) ≤ 16))) vw))
set_option maxHeartbeats 8000000 in
theorem halyardref04_Name.sound (vs : ByteArray) (w : World) (R : Bool → World → Prop) (h : halyardref04_Name vs w R) : callS Tryz.prog 83 [(Value.string vs)] w (fun v w'=>∃ (r0 : Bool), v = (Value.bool r0) ∧ R r0 w') := by
 unfold halyardref04_Name at h
 refine calls_of_vc 55 rfl Tryz.func83 rfl (by kernel_rfl) (by simp) ?_
 refine Vc.seq ?_
 refine Vc.region ?_
 refine vcL_pure rfl rfl (Value.bool false) (fun w=>by kernel_rfl) ?_
 refine vcL_nil ?_
 refine Vc.seq ?_
 refine Vc.seq ?_
 refine Vc.region ?_
 refine vcL_pure rfl rfl (Value.int .i64 0) (fun w=>by kernel_rfl) ?_
 refine vcL_nil ?_
 refine Vc.block ?_
 obtain ⟨vI, mu, h, hr⟩ := h
 refine Vc.loopJ (σ := Int) [3] [2, 4, 5, 6, 7, 8, 9, 10, 11, 12, 13, 14, 15, 16, 17, 18, 19, 20, 21, 22, 23, 24, 25, 26, 27, 28, 29, 30, 31, 32, 33, 34, 35, 36, 37, 38, 39, 40, 41, 42, 43, 44, 45, 46, 47] (fun s=>[(3, (Value.int .i64 s))]) (fun s w=>vI s w) (fun s w=>mu s w) 0 h (fun _ => rfl) (by kernel_rfl) ?_
 intro i vw j h
 have h := hr i vw h
 refine Vc.seq ?_
 refine Vc.seq ?_
 refine Vc.region ?_
 refine vcL_purs 4 [(9, (Value.bool (decide (i < (vs.size : Int))))), (8, (Value.int .i64 (vs.size : Int))), (7, (Value.string vs)), (6, (Value.int .i64 i))] (by kernel_rfl) ?_
 refine vcL_nil ?_
 refine Vc.cond (decide (i < (vs.size : Int))) (by kernel_rfl) (fun hb=>?_) (fun hb=>?_)
 ·have h := h.1 (of_decide_eq_true hb)
  refine Vc.skip ?_
  refine Vc.seq ?_
  refine Vc.block ?_
  refine Vc.seq ?_
  refine Vc.region ?_
  refine vcL_purs 2 [(13, (Value.int .i64 i)), (12, (Value.string vs))] (by kernel_rfl) ?_
  obtain ⟨hi, h⟩ := h
  refine vcL_pure rfl rfl (Value.int .u8 (bAt vs i)) (fun w=>by exact exec_indexStr (s := vs) (k := .i64) rfl (by kernel_rfl) (by kernel_rfl) (by kernel_rfl) (hi).1 (hi).2 w) ?_
  refine vcL_pure rfl rfl (Value.bool (decide (97 ≤ (bAt vs i)))) (fun w=>by kernel_rfl) ?_
  obtain ⟨b, hb⟩ : ∃ y, y = (decide (97 ≤ (bAt vs i))) := ⟨_, rfl⟩
  have h := h b hb
  refine vcL_pure rfl rfl (Value.bool b) (fun w=>by rw [hb]; kernel_rfl) ?_
  refine vcL_guardP b (wanted_g (d := 16) rfl (by kernel_rfl) b (by kernel_rfl) b (eqT b)) rfl (Value.string vs) (fun hg w=>by subst hg; kernel_rfl) ?_
  refine vcL_guardP b (wanted_g (d := 16) rfl (by kernel_rfl) b (by kernel_rfl) b (eqT b)) rfl (Value.int .i64 i) (fun hg w=>by subst hg; kernel_rfl) ?_
  obtain ⟨hi1, h⟩ := h
  refine vcL_guardP b (wanted_g (d := 16) rfl (by kernel_rfl) b (by kernel_rfl) b (eqT b)) rfl (Value.int .u8 (bAt vs i)) (fun hg w=>by subst hg; exact exec_indexStr (s := vs) (k := .i64) rfl (by kernel_rfl) (by kernel_rfl) (by kernel_rfl) (hi1 rfl).1 (hi1 rfl).2 w) ?_
  refine vcL_guardP b (wanted_g (d := 16) rfl (by kernel_rfl) b (by kernel_rfl) b (eqT b)) rfl (Value.bool (decide ((bAt vs i) ≤ 122))) (fun hg w=>by subst hg; kernel_rfl) ?_
  refine vcL_pure rfl rfl (Value.bool (b && (decide ((bAt vs i) ≤ 122)))) (fun w=>by cases b <;> kernel_rfl) ?_
  refine vcL_pure rfl rfl (Value.bool (b && (decide ((bAt vs i) ≤ 122)))) (fun w=>by kernel_rfl) ?_
  refine vcL_nil ?_
  refine Vc.seq ?_
  refine Vc.region ?_
  refine vcL_purs 2 [(23, (Value.int .i64 i)), (22, (Value.string vs))] (by kernel_rfl) ?_
  obtain ⟨hi2, h⟩ := h
  refine vcL_pure rfl rfl (Value.int .u8 (bAt vs i)) (fun w=>by exact exec_indexStr (s := vs) (k := .i64) rfl (by kernel_rfl) (by kernel_rfl) (by kernel_rfl) (hi2).1 (hi2).2 w) ?_
  refine vcL_pure rfl rfl (Value.bool (decide (48 ≤ (bAt vs i)))) (fun w=>by kernel_rfl) ?_
  obtain ⟨b3, hb3⟩ : ∃ y, y = (decide (48 ≤ (bAt vs i))) := ⟨_, rfl⟩
  have h := h b3 hb3
  refine vcL_pure rfl rfl (Value.bool b3) (fun w=>by rw [hb3]; kernel_rfl) ?_
  refine vcL_guardP b3 (wanted_g (d := 26) rfl (by kernel_rfl) b3 (by kernel_rfl) b3 (eqT b3)) rfl (Value.string vs) (fun hg w=>by subst hg; kernel_rfl) ?_
  refine vcL_guardP b3 (wanted_g (d := 26) rfl (by kernel_rfl) b3 (by kernel_rfl) b3 (eqT b3)) rfl (Value.int .i64 i) (fun hg w=>by subst hg; kernel_rfl) ?_
  obtain ⟨hi4, h⟩ := h
  refine vcL_guardP b3 (wanted_g (d := 26) rfl (by kernel_rfl) b3 (by kernel_rfl) b3 (eqT b3)) rfl (Value.int .u8 (bAt vs i)) (fun hg w=>by subst hg; exact exec_indexStr (s := vs) (k := .i64) rfl (by kernel_rfl) (by kernel_rfl) (by kernel_rfl) (hi4 rfl).1 (hi4 rfl).2 w) ?_
  refine vcL_guardP b3 (wanted_g (d := 26) rfl (by kernel_rfl) b3 (by kernel_rfl) b3 (eqT b3)) rfl (Value.bool (decide ((bAt vs i) ≤ 57))) (fun hg w=>by subst hg; kernel_rfl) ?_
  refine vcL_pure rfl rfl (Value.bool (b3 && (decide ((bAt vs i) ≤ 57)))) (fun w=>by cases b3 <;> kernel_rfl) ?_
  obtain ⟨b5, hb5⟩ : ∃ y, y = (b3 && (decide ((bAt vs i) ≤ 57))) := ⟨_, rfl⟩
  have h := h b5 hb5
  refine vcL_pure rfl rfl (Value.bool b5) (fun w=>by rw [hb5]; kernel_rfl) ?_
  refine vcL_guardP (!b5) (wanted_g (d := 32) rfl (by kernel_rfl) b5 (by kernel_rfl) (!b5) (eqF b5)) rfl (Value.string vs) (fun hg w=>by simp only [Bool.and_eq_true, Bool.not_eq_true'] at hg; obtain rfl := hg; kernel_rfl) ?_
  refine vcL_guardP (!b5) (wanted_g (d := 32) rfl (by kernel_rfl) b5 (by kernel_rfl) (!b5) (eqF b5)) rfl (Value.int .i64 i) (fun hg w=>by simp only [Bool.and_eq_true, Bool.not_eq_true'] at hg; obtain rfl := hg; kernel_rfl) ?_
  obtain ⟨hi6, h⟩ := h
  refine vcL_guardP (!b5) (wanted_g (d := 32) rfl (by kernel_rfl) b5 (by kernel_rfl) (!b5) (eqF b5)) rfl (Value.int .u8 (bAt vs i)) (fun hg w=>by simp only [Bool.and_eq_true, Bool.not_eq_true'] at hg; obtain rfl := hg; exact exec_indexStr (s := vs) (k := .i64) rfl (by kernel_rfl) (by kernel_rfl) (by kernel_rfl) (hi6 rfl).1 (hi6 rfl).2 w) ?_
  refine vcL_guardP (!b5) (wanted_g (d := 32) rfl (by kernel_rfl) b5 (by kernel_rfl) (!b5) (eqF b5)) rfl (Value.bool ((bAt vs i) == 45)) (fun hg w=>by simp only [Bool.and_eq_true, Bool.not_eq_true'] at hg; obtain rfl := hg; kernel_rfl) ?_
  refine vcL_pure rfl rfl (Value.bool (b5 || ((bAt vs i) == 45))) (fun w=>by cases b5 <;> kernel_rfl) ?_
  refine vcL_pure rfl rfl (Value.bool (b5 || ((bAt vs i) == 45))) (fun w=>by kernel_rfl) ?_
  refine vcL_nil ?_
  refine Vc.seq ?_
  refine Vc.region ?_
  refine vcL_purs 2 [(39, (Value.bool (!(b && (decide ((bAt vs i) ≤ 122)))))), (38, (Value.bool (b && (decide ((bAt vs i) ≤ 122)))))] (by kernel_rfl) ?_
  obtain ⟨b7, hb7⟩ : ∃ y, y = (!(b && (decide ((bAt vs i) ≤ 122)))) := ⟨_, rfl⟩
  have h := h b7 hb7
  refine vcL_pure rfl rfl (Value.bool b7) (fun w=>by rw [hb7]; kernel_rfl) ?_
  refine vcL_guardP b7 (wanted_g (d := 40) rfl (by kernel_rfl) b7 (by kernel_rfl) b7 (eqT b7)) rfl (Value.int .i64 i) (fun hg w=>by subst hg; kernel_rfl) ?_
  refine vcL_guardP b7 (wanted_g (d := 40) rfl (by kernel_rfl) b7 (by kernel_rfl) b7 (eqT b7)) rfl (Value.bool (i == 0)) (fun hg w=>by subst hg; kernel_rfl) ?_
  obtain ⟨b8, hb8⟩ : ∃ y, y = (i == 0) := ⟨_, rfl⟩
  have h := h b8 hb8
  refine vcL_guardP b7 (wanted_g (d := 40) rfl (by kernel_rfl) b7 (by kernel_rfl) b7 (eqT b7)) rfl (Value.bool b8) (fun hg w=>by subst hg; rw [hb8]; kernel_rfl) ?_
  refine vcL_guardP (b7 && (!b8)) (wanted_gg (d := 43) rfl (by kernel_rfl) b7 b8 (by kernel_rfl) (b7 && (!b8)) (eqFF b7 b8)) rfl (Value.bool (b5 || ((bAt vs i) == 45))) (fun hg w=>by simp only [Bool.and_eq_true, Bool.not_eq_true'] at hg; obtain ⟨rfl, rfl⟩ := hg; kernel_rfl) ?_
  refine vcL_guardP (b7 && (!b8)) (wanted_gg (d := 43) rfl (by kernel_rfl) b7 b8 (by kernel_rfl) (b7 && (!b8)) (eqFF b7 b8)) rfl (Value.bool (!(b5 || ((bAt vs i) == 45)))) (fun hg w=>by simp only [Bool.and_eq_true, Bool.not_eq_true'] at hg; obtain ⟨rfl, rfl⟩ := hg; kernel_rfl) ?_
  refine vcL_guardP b7 (wanted_g (d := 40) rfl (by kernel_rfl) b7 (by kernel_rfl) b7 (eqT b7)) rfl (Value.bool (b8 || (!(b5 || ((bAt vs i) == 45))))) (fun hg w=>by subst hg; cases b8 <;> kernel_rfl) ?_
  refine vcL_pure rfl rfl (Value.bool (b7 && (b8 || (!(b5 || ((bAt vs i) == 45)))))) (fun w=>by cases b7 <;> kernel_rfl) ?_
  refine vcL_nil ?_
  refine Vc.cond (b7 && (b8 || (!(b5 || ((bAt vs i) == 45))))) (by kernel_rfl) (fun hb=>?_) (fun hb=>?_)
  ·have h := h.1 (hb)
   refine Vc.seq ?_
   refine Vc.region ?_
   refine vcL_pure rfl rfl (Value.bool false) (fun w=>by kernel_rfl) ?_
   refine vcL_nil ?_
   refine Vc.ret ?_
   refine outOf_ret ?_
   refine outOf_ret ?_
   refine outs_ret ?_
   refine done_mk (Value.bool false) (res1 (resC_tmp (by kernel_rfl))) ?_
   exact ⟨false, rfl, h⟩
  ·have h := h.2 (hb)
   refine Vc.skip ?_
   refine Vc.region ?_
   refine vcL_purs 3 [(3, (Value.int .i64 (wrapI (i + 1)))), (11, (Value.int .i64 (wrapI (i + 1)))), (10, (Value.int .i64 i))] (by kernel_rfl) ?_
   refine vcL_nil ?_
   exact ⟨(wrapI (i + 1)), 91, ⟨rfl, by kernel_rfl, by kernel_rfl, by kernel_rfl⟩, h⟩
 ·have h := h.2 (of_decide_eq_false hb)
  refine Vc.exit ?_
  refine outOf_hit ?_
  refine Vc.seq ?_
  refine Vc.region ?_
  refine vcL_purs 2 [(49, (Value.bool (!bEq vs (ByteArray.mk #[])))), (48, (Value.string vs))] (by kernel_rfl) ?_
  obtain ⟨b9, hb9⟩ : ∃ y, y = (!bEq vs (ByteArray.mk #[])) := ⟨_, rfl⟩
  have h := h b9 hb9
  refine vcL_pure rfl rfl (Value.bool b9) (fun w=>by rw [hb9]; kernel_rfl) ?_
  refine vcL_guardP b9 (wanted_g (d := 50) rfl (by kernel_rfl) b9 (by kernel_rfl) b9 (eqT b9)) rfl (Value.string vs) (fun hg w=>by subst hg; kernel_rfl) ?_
  refine vcL_guardP b9 (wanted_g (d := 50) rfl (by kernel_rfl) b9 (by kernel_rfl) b9 (eqT b9)) rfl (Value.int .i64 (vs.size : Int)) (fun hg w=>by subst hg; kernel_rfl) ?_
  refine vcL_guardP b9 (wanted_g (d := 50) rfl (by kernel_rfl) b9 (by kernel_rfl) b9 (eqT b9)) rfl (Value.bool (decide ((vs.size : Int) ≤ 16))) (fun hg w=>by subst hg; kernel_rfl) ?_
  refine vcL_pure rfl rfl (Value.bool (b9 && (decide ((vs.size : Int) ≤ 16)))) (fun w=>by cases b9 <;> kernel_rfl) ?_
  refine vcL_pure rfl rfl (Value.bool (b9 && (decide ((vs.size : Int) ≤ 16)))) (fun w=>by kernel_rfl) ?_
  refine vcL_nil ?_
  refine Vc.ret ?_
  refine outs_ret ?_
  refine done_mk (Value.bool (b9 && (decide ((vs.size : Int) ≤ 16)))) (res1 (resC_tmp (by kernel_rfl))) ?_
  exact ⟨(b9 && (decide ((vs.size : Int) ≤ 16))), rfl, h⟩
theorem halyardref04_Name.go {vs : ByteArray} {w : World} {k : Value → World → Prop} (h : halyardref04_Name vs w fun r0 w'=>k (Value.bool r0) w') : callS Tryz.prog 83 [(Value.string vs)] w k := (halyardref04_Name.sound vs w _ h).mono (by rintro _ _ ⟨r0, rfl, h⟩; exact h)
end Go.Hal.SE
