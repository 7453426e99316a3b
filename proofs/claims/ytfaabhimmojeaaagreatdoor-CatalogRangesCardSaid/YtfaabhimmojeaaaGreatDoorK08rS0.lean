/- Lemmas for the claim K08r: how the program's functions run, and what they answer; no condition but those that each theorem names. -/
import Derived.Test.YtfaabhimmojeaaaGreatDoorProg
import Derived.Test.YtfaabhimmojeaaaGreatDoorK08rA0
set_option linter.unusedVariables false
set_option linter.unusedSimpArgs false
namespace Go.Hal.SE
open Go Go.RowKit Go.Hal Go.Proofs
set_option maxRecDepth 100000
namespace Eq0
theorem eqv_30 (d : Nat) (a0 : Int) (a1 : Int) (a2 : Int) (b0 : Int) (b1 : Int) (b2 : Int) (w : World) : (Op.equalIn (d + 2) 30 (.agg #[(Value.int .i64 a0), (Value.int .i64 a1), (Value.int .i64 a2)]) (.agg #[(Value.int .i64 b0), (Value.int .i64 b1), (Value.int .i64 b2)])).run Tryz.prog w = .ok ((a0 == b0) && ((a1 == b1) && ((a2 == b2) && true))) w :=
 (eqS (by kernel_rfl) (by kernel_rfl) (fs := [⟨ "Major", 3, 0, false, "", "", 0⟩, ⟨ "Minor", 3, 1, false, "", "", 8⟩, ⟨ "Patch", 3, 2, false, "", "", 16⟩]) (by kernel_rfl) (eqF_cons (x := (Value.int .i64 a0)) (y := (Value.int .i64 b0)) rfl (by kernel_rfl) (by kernel_rfl) (run_equalIn_int w _ 3 .i64 .i64 a0 b0 (by kernel_rfl)) (eqF_cons (x := (Value.int .i64 a1)) (y := (Value.int .i64 b1)) rfl (by kernel_rfl) (by kernel_rfl) (run_equalIn_int w _ 3 .i64 .i64 a1 b1 (by kernel_rfl)) (eqF_cons (x := (Value.int .i64 a2)) (y := (Value.int .i64 b2)) rfl (by kernel_rfl) (by kernel_rfl) (run_equalIn_int w _ 3 .i64 .i64 a2 b2 (by kernel_rfl)) eqF_nil))))
end Eq0
open Eq0
def halyardlaw08_CatalogRanges (l : Sl) (zz34 : ByteArray) (zz37 : Int) (zz38 : Int) (zz39 : Int) (zz36 : Sl) (zz35 : Sl) (other : Sl) (w : World) (R : Bool → World → Prop) : Prop :=
 newS w [(Value.string zz34), (Value.int .i64 zz37), (Value.int .i64 zz38), (Value.int .i64 zz39), (Sl.v zz36), (Sl.v zz35)] 55 fun a vw=>callS Tryz.prog 16 [] vw fun v vw1=>∃ (t20 : Option Addr), v = (Value.pointer t20) ∧ bnd (Option.isNone t20) fun (b : Bool)=>gCall (!b) (fun (t24 : Bool) (vw2 : World)=>(((b || (!t24)) = true → R false vw2) ∧ ((b || (!t24)) = false → loop1 0 vw2 fun i vw5 nxt=>((i < (l.len : Int) → ∃ (ad : Addr), (l.a = some ad ∧ (0 : Int) ≤ i ∧ i < (l.len : Int)) ∧ ∃ (zz15 : ByteArray) (zz18 : Int) (zz19 : Int) (zz1a : Int) (zz14 : Sl) (zz17 : Sl) (zz16 : Sl), (ldc vw5 (ad.add (i.toNat * 7)) [(Value.string zz15), (Value.int .i64 zz18), (Value.int .i64 zz19), (Value.int .i64 zz1a), (Sl.v zz14), (Sl.v zz17), (Sl.v zz16)]) ∧ callS Tryz.prog 19 [(Value.pointer t20), (Value.agg #[(Value.string zz15), (Value.int .i64 zz18), (Value.int .i64 zz19), (Value.int .i64 zz1a), (Sl.v zz14), (Sl.v zz17), (Sl.v zz16)])] vw5 fun v7 vw6=>∃ (t38 : Int), v7 = (Value.int .i64 t38) ∧ nxt (wrapI (i + 1)) vw6) ∧ (¬ (i < (l.len : Int)) → ∃ (t41 : Sl), (ldc vw5 (a.add 4) [(Sl.v t41)]) ∧ callS Tryz.prog 47 [(Sl.v t41), (Sl.v other)] vw5 fun v11 vw10=>∃ (t43 : Sl) (t43b : Int), v11 = (Value.tuple #[(Sl.v t43), (Value.int .i64 t43b)]) ∧ ∃ (t48 : Sl), (ldc vw10 (a.add 4) [(Sl.v t48)]) ∧ callS Tryz.prog 48 [(Sl.v t48), (Sl.v other)] vw10 fun v15 vw14=>∃ (t50 : Sl) (t50b : Int), v15 = (Value.tuple #[(Sl.v t50), (Value.int .i64 t50b)]) ∧ bnd (!(t43b == 0)) fun (b17 : Bool)=>(((b17 || (!(t50b == 0))) = true → R true vw14) ∧ ((b17 || (!(t50b == 0))) = false → ∃ (t61 : ByteArray), (ldc vw14 a [(Value.string t61)]) ∧ ∃ (t63 : Sl), (ldc vw14 (a.add 4) [(Sl.v t63)]) ∧ callS Tryz.prog 28 [(Value.pointer t20), (Value.string t61), (Sl.v t63), (Sl.v Sl.nil)] vw14 fun v21 vw20=>∃ (t64 : Sl), v21 = (Sl.v t64) ∧ ∃ (t67 : ByteArray), (ldc vw20 a [(Value.string t67)]) ∧ callS Tryz.prog 28 [(Value.pointer t20), (Value.string t67), (Sl.v other), (Sl.v Sl.nil)] vw20 fun v25 vw24=>∃ (t69 : Sl), v25 = (Sl.v t69) ∧ ∃ (t72 : ByteArray), (ldc vw24 a [(Value.string t72)]) ∧ callS Tryz.prog 28 [(Value.pointer t20), (Value.string t72), (Sl.v t43), (Sl.v Sl.nil)] vw24 fun v29 vw28=>∃ (t74 : Sl), v29 = (Sl.v t74) ∧ ∃ (t77 : ByteArray), (ldc vw28 a [(Value.string t77)]) ∧ callS Tryz.prog 28 [(Value.pointer t20), (Value.string t77), (Sl.v t50), (Sl.v Sl.nil)] vw28 fun v33 vw32=>∃ (t79 : Sl), v33 = (Sl.v t79) ∧ loop2 0 0 vw32 fun both i35 vw36 nxt37=>((i35 < (t64.len : Int) → loop2 both 0 vw36 fun both38 vk vw39 nxt40=>((vk < (t69.len : Int) → join (fun (both41 : Int) (vw42 : World)=>nxt40 both41 (wrapI (vk + 1)) vw42) fun vJ43=>bnd vw39.drew fun (vw45 : World)=>∃ (ad46 : Addr), (t64.a = some ad46 ∧ (0 : Int) ≤ i35 ∧ i35 < (t64.len : Int)) ∧ ∃ (zz2u : Int) (zz2v : Int) (zz2w : Int), (ldc vw45 (ad46.add (i35.toNat * 3)) [(Value.int .i64 zz2u), (Value.int .i64 zz2v), (Value.int .i64 zz2w)]) ∧ ∃ (ad49 : Addr), (t69.a = some ad49 ∧ (0 : Int) ≤ vk ∧ vk < (t69.len : Int)) ∧ ∃ (zz2x : Int) (zz2y : Int) (zz2z : Int), (ldc vw45 (ad49.add (vk.toNat * 3)) [(Value.int .i64 zz2x), (Value.int .i64 zz2y), (Value.int .i64 zz2z)]) ∧ ((((zz2u == zz2x) && ((zz2v == zz2y) && ((zz2w == zz2z) && true))) = true → bnd vw45.drew fun (vw52 : World)=>bnd (decide ((t74.len : Int) ≤ both38)) fun (b53 : Bool)=>∃ (ad54 : Addr), grd (!b53) (t74.a = some ad54 ∧ (0 : Int) ≤ both38 ∧ both38 < (t74.len : Int)) ∧ ∃ (zz1y : Int) (zz1z : Int) (zz20 : Int), grd (!b53) (ldc vw52 (ad54.add (both38.toNat * 3)) [(Value.int .i64 zz1y), (Value.int .i64 zz1z), (Value.int .i64 zz20)]) ∧ ∃ (ad57 : Addr), grd (!b53) (t64.a = some ad57 ∧ (0 : Int) ≤ i35 ∧ i35 < (t64.len : Int)) ∧ ∃ (zz21 : Int) (zz22 : Int) (zz23 : Int), grd (!b53) (ldc vw52 (ad57.add (i35.toNat * 3)) [(Value.int .i64 zz21), (Value.int .i64 zz22), (Value.int .i64 zz23)]) ∧ (((b53 || (!((zz1y == zz21) && ((zz1z == zz22) && ((zz20 == zz23) && true))))) = true → R false vw52) ∧ ((b53 || (!((zz1y == zz21) && ((zz1z == zz22) && ((zz20 == zz23) && true))))) = false → vJ43 (wrapI (both38 + 1)) vw52))) ∧ (((zz2u == zz2x) && ((zz2v == zz2y) && ((zz2w == zz2z) && true))) = false → vJ43 both38 vw45))) ∧ (¬ (vk < (t69.len : Int)) → nxt37 both38 (wrapI (i35 + 1)) vw39))) ∧ (¬ (i35 < (t64.len : Int)) → bnd (both == (t74.len : Int)) fun (b60 : Bool)=>R (b60 && ((t79.len : Int) == (wrapI ((wrapI ((t64.len : Int) + (t69.len : Int))) - both)))) vw36))))))))) (fun q=>callS Tryz.prog 17 [] vw1 fun v3 vw2=>∃ (t24 : Bool), v3 = (Value.bool t24) ∧ q t24 vw2) (fun q=>q false vw1)
set_option maxHeartbeats 8000000 in
theorem halyardlaw08_CatalogRanges.sound (l : Sl) (zz34 : ByteArray) (zz37 : Int) (zz38 : Int) (zz39 : Int) (zz36 : Sl) (zz35 : Sl) (other : Sl) (w : World) (R : Bool → World → Prop) (h : halyardlaw08_CatalogRanges l zz34 zz37 zz38 zz39 zz36 zz35 other w R) : callS Tryz.prog 10 [(Sl.v l), (Value.agg #[(Value.string zz34), (Value.int .i64 zz37), (Value.int .i64 zz38), (Value.int .i64 zz39), (Sl.v zz36), (Sl.v zz35)]), (Sl.v other)] w (fun v w'=>∃ (r0 : Bool), v = (Value.bool r0) ∧ R r0 w') := by
 unfold halyardlaw08_CatalogRanges at h
 refine calls_of_vc 134 rfl Tryz.func10 rfl (by kernel_rfl) (by simp) ?_
 refine Vc.seq ?_
 refine Vc.region ?_
 refine vcL_eff rfl (opVC_new rfl (fun a=>Value.pointer (some a)) (by kernel_rfl) (newS.mono h fun a vw hx h=>?_))
 refine vcL_pure rfl rfl (Value.bool false) (fun w=>by kernel_rfl) ?_
 refine vcL_nil ?_
 refine Vc.seq ?_
 refine Vc.region ?_
 refine vcL_eff rfl (opVC_call rfl (by kernel_rfl) (callS.mono h fun v vw1 h=>?_))
 obtain ⟨t20, rfl, h⟩ := h
 refine vcL_pure rfl rfl (Value.pointer t20) (fun w=>by kernel_rfl) ?_
 refine vcL_nil ?_
 refine Vc.seq ?_
 refine Vc.seq ?_
 refine Vc.region ?_
 refine vcL_pure rfl rfl (Value.pointer t20) (fun w=>by kernel_rfl) ?_
 refine vcL_pure rfl rfl (Value.bool (Option.isNone t20)) (fun w=>by cases t20 <;> kernel_rfl) ?_
 obtain ⟨b, hb⟩ : ∃ y, y = (Option.isNone t20) := ⟨_, rfl⟩
 have h := h b hb
 refine vcL_pure rfl rfl (Value.bool b) (fun w=>by rw [hb]; kernel_rfl) ?_
 obtain ⟨vJ, hJ, h⟩ := gCall_elim h
 refine vcL_effJ (σ := Bool) (!b) (wanted_g (d := 23) rfl (by kernel_rfl) b (by kernel_rfl) (!b) (eqF b)) rfl (fun s w=>vJ s w) (fun s=>(Value.bool s)) ?_ (fun hg=>opVC_call rfl (by simp only [Bool.and_eq_true, Bool.not_eq_true'] at hg; obtain rfl := hg; kernel_rfl) (callS.mono (h.1 hg) fun v3 vw2 hq=>?_)) (fun hg=>⟨false, h.2 hg⟩)
 ·intro t24 vw2 h
  subst hJ
  refine vcL_guardP (!b) (wanted_g (d := 23) rfl (by kernel_rfl) b (by kernel_rfl) (!b) (eqF b)) rfl (Value.bool (!t24)) (fun hg w=>by simp only [Bool.and_eq_true, Bool.not_eq_true'] at hg; obtain rfl := hg; kernel_rfl) ?_
  refine vcL_pure rfl rfl (Value.bool (b || (!t24))) (fun w=>by cases b <;> kernel_rfl) ?_
  refine vcL_nil ?_
  refine Vc.cond (b || (!t24)) (by kernel_rfl) (fun hb=>?_) (fun hb=>?_)
  ·have h := h.1 (hb)
   refine Vc.seq ?_
   refine Vc.region ?_
   refine vcL_pure rfl rfl (Value.bool false) (fun w=>by kernel_rfl) ?_
   refine vcL_nil ?_
   refine Vc.ret ?_
   refine outs_ret ?_
   refine done_mk (Value.bool false) (res1 (resC_tmp (by kernel_rfl))) ?_
   exact ⟨false, rfl, h⟩
  ·have h := h.2 (hb)
   refine Vc.skip ?_
   refine Vc.seq ?_
   refine Vc.seq ?_
   refine Vc.region ?_
   refine vcL_pure rfl rfl (Value.int .i64 0) (fun w=>by kernel_rfl) ?_
   refine vcL_nil ?_
   refine Vc.block ?_
   obtain ⟨vI64, mu65, h, hr66⟩ := h
   refine Vc.loopJ (σ := Int) [8] [27, 28, 29, 30, 31, 32, 33, 34, 35, 36, 37, 38] (fun s=>[(8, (Value.int .i64 s))]) (fun s w=>vI64 s w) (fun s w=>mu65 s w) 0 h (fun _ => rfl) (by kernel_rfl) ?_
   intro i vw5 j h
   have h := hr66 i vw5 h
   refine Vc.seq ?_
   refine Vc.seq ?_
   refine Vc.region ?_
   refine vcL_purs 4 [(30, (Value.bool (decide (i < (l.len : Int))))), (29, (Value.int .i64 (l.len : Int))), (28, (Sl.v l)), (27, (Value.int .i64 i))] (by kernel_rfl) ?_
   refine vcL_nil ?_
   refine Vc.cond (decide (i < (l.len : Int))) (by kernel_rfl) (fun hb=>?_) (fun hb=>?_)
   ·have h := h.1 (of_decide_eq_true hb)
    refine Vc.skip ?_
    refine Vc.seq ?_
    refine Vc.block ?_
    refine Vc.region ?_
    refine vcL_purs 3 [(35, (Value.int .i64 i)), (34, (Sl.v l)), (33, (Value.pointer t20))] (by kernel_rfl) ?_
    obtain ⟨ad, hi, h⟩ := h
    refine vcL_pure rfl rfl (Value.pointer (some (ad.add (i.toNat * 7)))) (fun w=>by exact exec_indexAt (s := l) (el := 48) rfl (by kernel_rfl) (by kernel_rfl) (by kernel_rfl) (fun w=>by kernel_rfl) (hi).1 (hi).2.1 (hi).2.2 w) ?_
    obtain ⟨zz15, zz18, zz19, zz1a, zz14, zz17, zz16, hc, h⟩ := h
    refine vcL_val rfl rfl (Value.agg #[(Value.string zz15), (Value.int .i64 zz18), (Value.int .i64 zz19), (Value.int .i64 zz1a), (Sl.v zz14), (Sl.v zz17), (Sl.v zz16)]) (exec_load rfl (by kernel_rfl) (run_loadN (fun w=>by kernel_rfl) (fun w=>by kernel_rfl) ((hc)))) ?_
    refine vcL_eff rfl (opVC_call rfl (by kernel_rfl) (callS.mono h fun v7 vw6 h=>?_))
    obtain ⟨t38, rfl, h⟩ := h
    refine vcL_nil ?_
    refine Vc.region ?_
    refine vcL_purs 3 [(8, (Value.int .i64 (wrapI (i + 1)))), (32, (Value.int .i64 (wrapI (i + 1)))), (31, (Value.int .i64 i))] (by kernel_rfl) ?_
    refine vcL_nil ?_
    exact ⟨(wrapI (i + 1)), 26, ⟨rfl, by kernel_rfl, by kernel_rfl, by kernel_rfl⟩, h⟩
   ·have h := h.2 (of_decide_eq_false hb)
    refine Vc.exit ?_
    refine outOf_hit ?_
    refine Vc.seq ?_
    refine Vc.region ?_
    refine vcL_pure rfl rfl (Value.pointer (some (a.add 4))) (fun w=>by kernel_rfl) ?_
    obtain ⟨t41, hc9, h⟩ := h
    refine vcL_val rfl rfl (Sl.v t41) (exec_load rfl (by kernel_rfl) (run_load1 (fun w=>by kernel_rfl) ((hc9)))) ?_
    refine vcL_pure rfl rfl (Sl.v other) (fun w=>by kernel_rfl) ?_
    refine vcL_eff rfl (opVC_call rfl (by kernel_rfl) (callS.mono h fun v11 vw10 h=>?_))
    obtain ⟨t43, t43b, rfl, h⟩ := h
    refine vcL_purs 5 [(10, (Value.int .i64 t43b)), (9, (Sl.v t43)), (45, (Value.int .i64 t43b)), (44, (Sl.v t43)), (39, (Value.tuple #[(Sl.v t43), (Value.int .i64 t43b)]))] (by kernel_rfl) ?_
    refine vcL_nil ?_
    refine Vc.seq ?_
    refine Vc.region ?_
    refine vcL_pure rfl rfl (Value.pointer (some (a.add 4))) (fun w=>by kernel_rfl) ?_
    obtain ⟨t48, hc13, h⟩ := h
    refine vcL_val rfl rfl (Sl.v t48) (exec_load rfl (by kernel_rfl) (run_load1 (fun w=>by kernel_rfl) ((hc13)))) ?_
    refine vcL_pure rfl rfl (Sl.v other) (fun w=>by kernel_rfl) ?_
    refine vcL_eff rfl (opVC_call rfl (by kernel_rfl) (callS.mono h fun v15 vw14 h=>?_))
    obtain ⟨t50, t50b, rfl, h⟩ := h
    refine vcL_purs 5 [(12, (Value.int .i64 t50b)), (11, (Sl.v t50)), (52, (Value.int .i64 t50b)), (51, (Sl.v t50)), (46, (Value.tuple #[(Sl.v t50), (Value.int .i64 t50b)]))] (by kernel_rfl) ?_
    refine vcL_nil ?_
    refine Vc.seq ?_
    refine Vc.seq ?_
    refine Vc.region ?_
    refine vcL_purs 2 [(54, (Value.bool (!(t43b == 0)))), (53, (Value.int .i64 t43b))] (by kernel_rfl) ?_
    obtain ⟨b17, hb17⟩ : ∃ y, y = (!(t43b == 0)) := ⟨_, rfl⟩
    have h := h b17 hb17
    refine vcL_pure rfl rfl (Value.bool b17) (fun w=>by rw [hb17]; kernel_rfl) ?_
    refine vcL_guardP (!b17) (wanted_g (d := 55) rfl (by kernel_rfl) b17 (by kernel_rfl) (!b17) (eqF b17)) rfl (Value.int .i64 t50b) (fun hg w=>by simp only [Bool.and_eq_true, Bool.not_eq_true'] at hg; obtain rfl := hg; kernel_rfl) ?_
    refine vcL_guardP (!b17) (wanted_g (d := 55) rfl (by kernel_rfl) b17 (by kernel_rfl) (!b17) (eqF b17)) rfl (Value.bool (!(t50b == 0))) (fun hg w=>by simp only [Bool.and_eq_true, Bool.not_eq_true'] at hg; obtain rfl := hg; kernel_rfl) ?_
    refine vcL_pure rfl rfl (Value.bool (b17 || (!(t50b == 0)))) (fun w=>by cases b17 <;> kernel_rfl) ?_
    refine vcL_nil ?_
    refine Vc.cond (b17 || (!(t50b == 0))) (by kernel_rfl) (fun hb=>?_) (fun hb=>?_)
    ·have h := h.1 (hb)
     refine Vc.seq ?_
     refine Vc.region ?_
     refine vcL_pure rfl rfl (Value.bool true) (fun w=>by kernel_rfl) ?_
     refine vcL_nil ?_
     refine Vc.ret ?_
     refine outs_ret ?_
     refine done_mk (Value.bool true) (res1 (resC_tmp (by kernel_rfl))) ?_
     exact ⟨true, rfl, h⟩
    ·have h := h.2 (hb)
     refine Vc.skip ?_
     refine Vc.seq ?_
     refine Vc.region ?_
     refine vcL_purs 2 [(60, (Value.pointer (some a))), (59, (Value.pointer t20))] (by kernel_rfl) ?_
     obtain ⟨t61, hc18, h⟩ := h
     refine vcL_val rfl rfl (Value.string t61) (exec_load rfl (by kernel_rfl) (run_load1 (fun w=>by kernel_rfl) ((hc18)))) ?_
     refine vcL_pure rfl rfl (Value.pointer (some (a.add 4))) (fun w=>by kernel_rfl) ?_
     obtain ⟨t63, hc19, h⟩ := h
     refine vcL_val rfl rfl (Sl.v t63) (exec_load rfl (by kernel_rfl) (run_load1 (fun w=>by kernel_rfl) ((hc19)))) ?_
     refine vcL_eff rfl (opVC_call rfl (by kernel_rfl) (callS.mono h fun v21 vw20 h=>?_))
     obtain ⟨t64, rfl, h⟩ := h
     refine vcL_pure rfl rfl (Sl.v t64) (fun w=>by kernel_rfl) ?_
     refine vcL_nil ?_
     refine Vc.seq ?_
     refine Vc.region ?_
     refine vcL_purs 2 [(66, (Value.pointer (some a))), (65, (Value.pointer t20))] (by kernel_rfl) ?_
     obtain ⟨t67, hc23, h⟩ := h
     refine vcL_val rfl rfl (Value.string t67) (exec_load rfl (by kernel_rfl) (run_load1 (fun w=>by kernel_rfl) ((hc23)))) ?_
     refine vcL_pure rfl rfl (Sl.v other) (fun w=>by kernel_rfl) ?_
     refine vcL_eff rfl (opVC_call rfl (by kernel_rfl) (callS.mono h fun v25 vw24 h=>?_))
     obtain ⟨t69, rfl, h⟩ := h
     refine vcL_pure rfl rfl (Sl.v t69) (fun w=>by kernel_rfl) ?_
     refine vcL_nil ?_
     refine Vc.seq ?_
     refine Vc.region ?_
     refine vcL_purs 2 [(71, (Value.pointer (some a))), (70, (Value.pointer t20))] (by kernel_rfl) ?_
     obtain ⟨t72, hc27, h⟩ := h
     refine vcL_val rfl rfl (Value.string t72) (exec_load rfl (by kernel_rfl) (run_load1 (fun w=>by kernel_rfl) ((hc27)))) ?_
     refine vcL_pure rfl rfl (Sl.v t43) (fun w=>by kernel_rfl) ?_
     refine vcL_eff rfl (opVC_call rfl (by kernel_rfl) (callS.mono h fun v29 vw28 h=>?_))
     obtain ⟨t74, rfl, h⟩ := h
     refine vcL_pure rfl rfl (Sl.v t74) (fun w=>by kernel_rfl) ?_
     refine vcL_nil ?_
     refine Vc.seq ?_
     refine Vc.region ?_
     refine vcL_purs 2 [(76, (Value.pointer (some a))), (75, (Value.pointer t20))] (by kernel_rfl) ?_
     obtain ⟨t77, hc31, h⟩ := h
     refine vcL_val rfl rfl (Value.string t77) (exec_load rfl (by kernel_rfl) (run_load1 (fun w=>by kernel_rfl) ((hc31)))) ?_
     refine vcL_pure rfl rfl (Sl.v t50) (fun w=>by kernel_rfl) ?_
     refine vcL_eff rfl (opVC_call rfl (by kernel_rfl) (callS.mono h fun v33 vw32 h=>?_))
     obtain ⟨t79, rfl, h⟩ := h
     refine vcL_pure rfl rfl (Sl.v t79) (fun w=>by kernel_rfl) ?_
     refine vcL_nil ?_
     refine Vc.seq ?_
     refine Vc.region ?_
     refine vcL_pure rfl rfl (Value.int .i64 0) (fun w=>by kernel_rfl) ?_
     refine vcL_nil ?_
     refine Vc.seq ?_
     refine Vc.seq ?_
     refine Vc.region ?_
     refine vcL_pure rfl rfl (Value.int .i64 0) (fun w=>by kernel_rfl) ?_
     refine vcL_nil ?_
     refine Vc.block ?_
     obtain ⟨vI61, mu62, h, hr63⟩ := h
     refine Vc.loopJ (σ := Int × Int) [17, 18] [6, 19, 80, 81, 82, 83, 84, 85, 86, 87, 88, 89, 90, 91, 92, 93, 94, 95, 96, 97, 98, 99, 100, 101, 102, 103, 104, 105, 106, 107, 108, 109, 110, 111, 112, 113, 114, 115, 116, 117] (fun s=>[(17, (Value.int .i64 s.1)), (18, (Value.int .i64 s.2))]) (fun s w=>vI61 s.1 s.2 w) (fun s w=>mu62 s.1 s.2 w) (0, 0) h (fun _ => rfl) (by kernel_rfl) ?_
     rintro ⟨both, i35⟩ vw36 j h
     have h := hr63 both i35 vw36 h
     refine Vc.seq ?_
     refine Vc.seq ?_
     refine Vc.region ?_
     refine vcL_purs 4 [(83, (Value.bool (decide (i35 < (t64.len : Int))))), (82, (Value.int .i64 (t64.len : Int))), (81, (Sl.v t64)), (80, (Value.int .i64 i35))] (by kernel_rfl) ?_
     refine vcL_nil ?_
     refine Vc.cond (decide (i35 < (t64.len : Int))) (by kernel_rfl) (fun hb=>?_) (fun hb=>?_)
     ·have h := h.1 (of_decide_eq_true hb)
      refine Vc.skip ?_
      refine Vc.seq ?_
      refine Vc.block ?_
      refine Vc.seq ?_
      refine Vc.region ?_
      refine vcL_pure rfl rfl (Value.int .i64 0) (fun w=>by kernel_rfl) ?_
      refine vcL_nil ?_
      refine Vc.block ?_
      obtain ⟨vI, mu, h, hr⟩ := h
      refine Vc.loopJ (σ := Int × Int) [17, 19] [6, 86, 87, 88, 89, 90, 91, 92, 93, 94, 95, 96, 97, 98, 99, 100, 101, 102, 103, 104, 105, 106, 107, 108, 109, 110, 111, 112, 113, 114, 115, 116, 117] (fun s=>[(17, (Value.int .i64 s.1)), (19, (Value.int .i64 s.2))]) (fun s w=>vI s.1 s.2 w) (fun s w=>mu s.1 s.2 w) (both, 0) h (fun _ => rfl) (by kernel_rfl) ?_
      rintro ⟨both38, vk⟩ vw39 j h
      have h := hr both38 vk vw39 h
      refine Vc.seq ?_
      refine Vc.seq ?_
      refine Vc.region ?_
      refine vcL_purs 4 [(89, (Value.bool (decide (vk < (t69.len : Int))))), (88, (Value.int .i64 (t69.len : Int))), (87, (Sl.v t69)), (86, (Value.int .i64 vk))] (by kernel_rfl) ?_
      refine vcL_nil ?_
      refine Vc.cond (decide (vk < (t69.len : Int))) (by kernel_rfl) (fun hb=>?_) (fun hb=>?_)
      ·have h := h.1 (of_decide_eq_true hb)
       refine Vc.skip ?_
       obtain ⟨vJ43, hJ44, h⟩ := join_elim h
       refine Vc.seqJ (σ := Int) [17] [6, 92, 93, 94, 95, 96, 97, 98, 99, 100, 101, 102, 103, 104, 105, 106, 107, 108, 109, 110, 111, 112, 113, 114, 115, 116, 117] (fun s=>[(17, (Value.int .i64 s))]) (fun s w=>vJ43 s w) (fun _ => rfl) ?_ ?_
       ·refine Vc.block ?_
        refine Vc.seq ?_
        obtain ⟨vw45, hvw45⟩ : ∃ y, y = vw39.drew := ⟨_, rfl⟩
        have h := h vw45 hvw45
        refine Vc.draw (by kernel_rfl) (fun i=>!(memN [] i)) (.pur 0 (.pur 1 (.pur 2 (.val 3 (.pur 4 (.pur 5 (.pur 6 (.val 7 (.pur 8 .fin))))))))) (by kernel_rfl) ?_
        rw [← hvw45]
        clear hvw45
        refine vcS_pure rfl rfl rfl (Sl.v t64) (fun w=>by kernel_rfl) ?_
        refine vcS_pure rfl rfl rfl (Value.int .i64 i35) (fun w=>by kernel_rfl) ?_
        obtain ⟨ad46, hi47, h⟩ := h
        refine vcS_pure rfl rfl rfl (Value.pointer (some (ad46.add (i35.toNat * 3)))) (fun w=>by exact exec_indexAt (s := t64) (el := 30) rfl (by kernel_rfl) (by kernel_rfl) (by kernel_rfl) (fun w=>by kernel_rfl) (hi47).1 (hi47).2.1 (hi47).2.2 w) ?_
        obtain ⟨zz2u, zz2v, zz2w, hc48, h⟩ := h
        refine vcS_val rfl rfl rfl (Value.agg #[(Value.int .i64 zz2u), (Value.int .i64 zz2v), (Value.int .i64 zz2w)]) (fun w' hx=>exec_load rfl (by kernel_rfl) (run_loadN (fun w=>by kernel_rfl) (fun w=>by kernel_rfl) ((hc48).ext hx))) ?_
        refine vcS_pure rfl rfl rfl (Sl.v t69) (fun w=>by kernel_rfl) ?_
        refine vcS_pure rfl rfl rfl (Value.int .i64 vk) (fun w=>by kernel_rfl) ?_
        obtain ⟨ad49, hi50, h⟩ := h
        refine vcS_pure rfl rfl rfl (Value.pointer (some (ad49.add (vk.toNat * 3)))) (fun w=>by exact exec_indexAt (s := t69) (el := 30) rfl (by kernel_rfl) (by kernel_rfl) (by kernel_rfl) (fun w=>by kernel_rfl) (hi50).1 (hi50).2.1 (hi50).2.2 w) ?_
        obtain ⟨zz2x, zz2y, zz2z, hc51, h⟩ := h
        refine vcS_val rfl rfl rfl (Value.agg #[(Value.int .i64 zz2x), (Value.int .i64 zz2y), (Value.int .i64 zz2z)]) (fun w' hx=>exec_load rfl (by kernel_rfl) (run_loadN (fun w=>by kernel_rfl) (fun w=>by kernel_rfl) ((hc51).ext hx))) ?_
        refine vcS_pure rfl rfl rfl (Value.bool ((zz2u == zz2x) && ((zz2v == zz2y) && ((zz2w == zz2z) && true)))) (fun w=>by exact exec_struct_eq rfl (by kernel_rfl) (by kernel_rfl) (by kernel_rfl) (eqv_30 9998 zz2u zz2v zz2w zz2x zz2y zz2z w)) ?_
        refine vcS_fin ?_
        refine Vc.cond ((zz2u == zz2x) && ((zz2v == zz2y) && ((zz2w == zz2z) && true))) (by kernel_rfl) (fun hb=>?_) (fun hb=>?_)
        ·have h := h.1 (hb)
         refine Vc.seq ?_
         refine Vc.seq ?_
         obtain ⟨vw52, hvw52⟩ : ∃ y, y = vw45.drew := ⟨_, rfl⟩
         have h := h vw52 hvw52
         refine Vc.draw (by kernel_rfl) (fun i=>!(memN [] i)) (.pur 0 (.pur 1 (.pur 2 (.pur 3 (.pur 4 (.pur 5 (.pur 6 (.pur 7 (.val 8 (.pur 9 (.pur 10 (.pur 11 (.val 12 (.pur 13 (.pur 14 .fin))))))))))))))) (by kernel_rfl) ?_
         rw [← hvw52]
         clear hvw52
         refine vcS_pure rfl rfl rfl (Value.int .i64 both38) (fun w=>by kernel_rfl) ?_
         refine vcS_pure rfl rfl rfl (Sl.v t74) (fun w=>by kernel_rfl) ?_
         refine vcS_pure rfl rfl rfl (Value.int .i64 (t74.len : Int)) (fun w=>by kernel_rfl) ?_
         refine vcS_pure rfl rfl rfl (Value.bool (decide ((t74.len : Int) ≤ both38))) (fun w=>by kernel_rfl) ?_
         obtain ⟨b53, hb53⟩ : ∃ y, y = (decide ((t74.len : Int) ≤ both38)) := ⟨_, rfl⟩
         have h := h b53 hb53
         refine vcS_pure rfl rfl rfl (Value.bool b53) (fun w=>by rw [hb53]; kernel_rfl) ?_
         refine vcS_guard rfl (!b53) (wanted_g (d := 105) rfl (by kernel_rfl) b53 (by kernel_rfl) (!b53) (eqF b53)) rfl (Sl.v t74) (fun hg w=>by simp only [Bool.and_eq_true, Bool.not_eq_true'] at hg; obtain rfl := hg; kernel_rfl) ?_
         refine vcS_guard rfl (!b53) (wanted_g (d := 105) rfl (by kernel_rfl) b53 (by kernel_rfl) (!b53) (eqF b53)) rfl (Value.int .i64 both38) (fun hg w=>by simp only [Bool.and_eq_true, Bool.not_eq_true'] at hg; obtain rfl := hg; kernel_rfl) ?_
         obtain ⟨ad54, hi55, h⟩ := h
         refine vcS_guard rfl (!b53) (wanted_g (d := 105) rfl (by kernel_rfl) b53 (by kernel_rfl) (!b53) (eqF b53)) rfl (Value.pointer (some (ad54.add (both38.toNat * 3)))) (fun hg w=>by simp only [Bool.and_eq_true, Bool.not_eq_true'] at hg; obtain rfl := hg; exact exec_indexAt (s := t74) (el := 30) rfl (by kernel_rfl) (by kernel_rfl) (by kernel_rfl) (fun w=>by kernel_rfl) (hi55 rfl).1 (hi55 rfl).2.1 (hi55 rfl).2.2 w) ?_
         obtain ⟨zz1y, zz1z, zz20, hc56, h⟩ := h
         refine vcS_valG rfl (!b53) (wanted_g (d := 105) rfl (by kernel_rfl) b53 (by kernel_rfl) (!b53) (eqF b53)) rfl (Value.agg #[(Value.int .i64 zz1y), (Value.int .i64 zz1z), (Value.int .i64 zz20)]) (fun hg w' hx=>by simp only [Bool.and_eq_true, Bool.not_eq_true'] at hg; obtain rfl := hg; exact exec_load rfl (by kernel_rfl) (run_loadN (fun w=>by kernel_rfl) (fun w=>by kernel_rfl) ((hc56 rfl).ext hx))) ?_
         refine vcS_guard rfl (!b53) (wanted_g (d := 105) rfl (by kernel_rfl) b53 (by kernel_rfl) (!b53) (eqF b53)) rfl (Sl.v t64) (fun hg w=>by simp only [Bool.and_eq_true, Bool.not_eq_true'] at hg; obtain rfl := hg; kernel_rfl) ?_
         refine vcS_guard rfl (!b53) (wanted_g (d := 105) rfl (by kernel_rfl) b53 (by kernel_rfl) (!b53) (eqF b53)) rfl (Value.int .i64 i35) (fun hg w=>by simp only [Bool.and_eq_true, Bool.not_eq_true'] at hg; obtain rfl := hg; kernel_rfl) ?_
         obtain ⟨ad57, hi58, h⟩ := h
         refine vcS_guard rfl (!b53) (wanted_g (d := 105) rfl (by kernel_rfl) b53 (by kernel_rfl) (!b53) (eqF b53)) rfl (Value.pointer (some (ad57.add (i35.toNat * 3)))) (fun hg w=>by simp only [Bool.and_eq_true, Bool.not_eq_true'] at hg; obtain rfl := hg; exact exec_indexAt (s := t64) (el := 30) rfl (by kernel_rfl) (by kernel_rfl) (by kernel_rfl) (fun w=>by kernel_rfl) (hi58 rfl).1 (hi58 rfl).2.1 (hi58 rfl).2.2 w) ?_
         obtain ⟨zz21, zz22, zz23, hc59, h⟩ := h
         refine vcS_valG rfl (!b53) (wanted_g (d := 105) rfl (by kernel_rfl) b53 (by kernel_rfl) (!b53) (eqF b53)) rfl (Value.agg #[(Value.int .i64 zz21), (Value.int .i64 zz22), (Value.int .i64 zz23)]) (fun hg w' hx=>by simp only [Bool.and_eq_true, Bool.not_eq_true'] at hg; obtain rfl := hg; exact exec_load rfl (by kernel_rfl) (run_loadN (fun w=>by kernel_rfl) (fun w=>by kernel_rfl) ((hc59 rfl).ext hx))) ?_
         refine vcS_guard rfl (!b53) (wanted_g (d := 105) rfl (by kernel_rfl) b53 (by kernel_rfl) (!b53) (eqF b53)) rfl (Value.bool (!((zz1y == zz21) && ((zz1z == zz22) && ((zz20 == zz23) && true))))) (fun hg w=>by simp only [Bool.and_eq_true, Bool.not_eq_true'] at hg; obtain rfl := hg; exact exec_struct_neq rfl (by kernel_rfl) (by kernel_rfl) (by kernel_rfl) (eqv_30 9998 zz1y zz1z zz20 zz21 zz22 zz23 w)) ?_
         refine vcS_pure rfl rfl rfl (Value.bool (b53 || (!((zz1y == zz21) && ((zz1z == zz22) && ((zz20 == zz23) && true)))))) (fun w=>by cases b53 <;> kernel_rfl) ?_
         refine vcS_fin ?_
         refine Vc.cond (b53 || (!((zz1y == zz21) && ((zz1z == zz22) && ((zz20 == zz23) && true))))) (by kernel_rfl) (fun hb=>?_) (fun hb=>?_)
         ·have h := h.1 (hb)
          refine Vc.seq ?_
          refine Vc.region ?_
          refine vcL_pure rfl rfl (Value.bool false) (fun w=>by kernel_rfl) ?_
          refine vcL_nil ?_
          refine Vc.ret ?_
          refine outOf_ret ?_
          refine outOf_ret ?_
          refine outOf_ret ?_
          refine outOf_ret ?_
          refine outs_ret ?_
          refine done_mk (Value.bool false) (res1 (resC_tmp (by kernel_rfl))) ?_
          exact ⟨false, rfl, h⟩
         ·have h := h.2 (hb)
          refine Vc.skip ?_
          refine Vc.region ?_
          refine vcL_purs 3 [(17, (Value.int .i64 (wrapI (both38 + 1)))), (117, (Value.int .i64 (wrapI (both38 + 1)))), (116, (Value.int .i64 both38))] (by kernel_rfl) ?_
          refine vcL_nil ?_
          exact ⟨(wrapI (both38 + 1)), 27, ⟨rfl, by kernel_rfl, by kernel_rfl, by kernel_rfl⟩, h⟩
        ·have h := h.2 (hb)
         refine Vc.skip ?_
         exact ⟨both38, 9, ⟨rfl, by kernel_rfl, by kernel_rfl, by kernel_rfl⟩, h⟩
       ·intro both41 vw42 j h
        subst hJ44
        refine Vc.region ?_
        refine vcL_purs 3 [(19, (Value.int .i64 (wrapI (vk + 1)))), (91, (Value.int .i64 (wrapI (vk + 1)))), (90, (Value.int .i64 vk))] (by kernel_rfl) ?_
        refine vcL_nil ?_
        exact ⟨(both41, (wrapI (vk + 1))), 70, ⟨rfl, by kernel_rfl, by kernel_rfl, by kernel_rfl⟩, h⟩
      ·have h := h.2 (of_decide_eq_false hb)
       refine Vc.exit ?_
       refine outOf_hit ?_
       refine Vc.region ?_
       refine vcL_purs 3 [(18, (Value.int .i64 (wrapI (i35 + 1)))), (85, (Value.int .i64 (wrapI (i35 + 1)))), (84, (Value.int .i64 i35))] (by kernel_rfl) ?_
       refine vcL_nil ?_
       exact ⟨(both38, (wrapI (i35 + 1))), 89, ⟨rfl, by kernel_rfl, by kernel_rfl, by kernel_rfl⟩, h⟩
     ·have h := h.2 (of_decide_eq_false hb)
      refine Vc.exit ?_
      refine outOf_hit ?_
      refine Vc.seq ?_
      refine Vc.region ?_
      refine vcL_purs 4 [(121, (Value.bool (both == (t74.len : Int)))), (120, (Value.int .i64 (t74.len : Int))), (119, (Sl.v t74)), (118, (Value.int .i64 both))] (by kernel_rfl) ?_
      obtain ⟨b60, hb60⟩ : ∃ y, y = (both == (t74.len : Int)) := ⟨_, rfl⟩
      have h := h b60 hb60
      refine vcL_pure rfl rfl (Value.bool b60) (fun w=>by rw [hb60]; kernel_rfl) ?_
      refine vcL_guardP b60 (wanted_g (d := 122) rfl (by kernel_rfl) b60 (by kernel_rfl) b60 (eqT b60)) rfl (Sl.v t79) (fun hg w=>by subst hg; kernel_rfl) ?_
      refine vcL_guardP b60 (wanted_g (d := 122) rfl (by kernel_rfl) b60 (by kernel_rfl) b60 (eqT b60)) rfl (Value.int .i64 (t79.len : Int)) (fun hg w=>by subst hg; kernel_rfl) ?_
      refine vcL_guardP b60 (wanted_g (d := 122) rfl (by kernel_rfl) b60 (by kernel_rfl) b60 (eqT b60)) rfl (Sl.v t64) (fun hg w=>by subst hg; kernel_rfl) ?_
      refine vcL_guardP b60 (wanted_g (d := 122) rfl (by kernel_rfl) b60 (by kernel_rfl) b60 (eqT b60)) rfl (Value.int .i64 (t64.len : Int)) (fun hg w=>by subst hg; kernel_rfl) ?_
      refine vcL_guardP b60 (wanted_g (d := 122) rfl (by kernel_rfl) b60 (by kernel_rfl) b60 (eqT b60)) rfl (Sl.v t69) (fun hg w=>by subst hg; kernel_rfl) ?_
      refine vcL_guardP b60 (wanted_g (d := 122) rfl (by kernel_rfl) b60 (by kernel_rfl) b60 (eqT b60)) rfl (Value.int .i64 (t69.len : Int)) (fun hg w=>by subst hg; kernel_rfl) ?_
      refine vcL_guardP b60 (wanted_g (d := 122) rfl (by kernel_rfl) b60 (by kernel_rfl) b60 (eqT b60)) rfl (Value.int .i64 (wrapI ((t64.len : Int) + (t69.len : Int)))) (fun hg w=>by subst hg; kernel_rfl) ?_
      refine vcL_guardP b60 (wanted_g (d := 122) rfl (by kernel_rfl) b60 (by kernel_rfl) b60 (eqT b60)) rfl (Value.int .i64 both) (fun hg w=>by subst hg; kernel_rfl) ?_
      refine vcL_guardP b60 (wanted_g (d := 122) rfl (by kernel_rfl) b60 (by kernel_rfl) b60 (eqT b60)) rfl (Value.int .i64 (wrapI ((wrapI ((t64.len : Int) + (t69.len : Int))) - both))) (fun hg w=>by subst hg; kernel_rfl) ?_
      refine vcL_guardP b60 (wanted_g (d := 122) rfl (by kernel_rfl) b60 (by kernel_rfl) b60 (eqT b60)) rfl (Value.bool ((t79.len : Int) == (wrapI ((wrapI ((t64.len : Int) + (t69.len : Int))) - both)))) (fun hg w=>by subst hg; kernel_rfl) ?_
      refine vcL_pure rfl rfl (Value.bool (b60 && ((t79.len : Int) == (wrapI ((wrapI ((t64.len : Int) + (t69.len : Int))) - both))))) (fun w=>by cases b60 <;> kernel_rfl) ?_
      refine vcL_pure rfl rfl (Value.bool (b60 && ((t79.len : Int) == (wrapI ((wrapI ((t64.len : Int) + (t69.len : Int))) - both))))) (fun w=>by kernel_rfl) ?_
      refine vcL_nil ?_
      refine Vc.ret ?_
      refine outs_ret ?_
      refine done_mk (Value.bool (b60 && ((t79.len : Int) == (wrapI ((wrapI ((t64.len : Int) + (t69.len : Int))) - both))))) (res1 (resC_tmp (by kernel_rfl))) ?_
      exact ⟨(b60 && ((t79.len : Int) == (wrapI ((wrapI ((t64.len : Int) + (t69.len : Int))) - both)))), rfl, h⟩
 ·obtain ⟨t24, rfl, hq⟩ := hq
  exact ⟨t24, rfl, hq⟩
theorem halyardlaw08_CatalogRanges.go {l : Sl} {zz34 : ByteArray} {zz37 : Int} {zz38 : Int} {zz39 : Int} {zz36 : Sl} {zz35 : Sl} {other : Sl} {w : World} {k : Value → World → Prop} (h : halyardlaw08_CatalogRanges l zz34 zz37 zz38 zz39 zz36 zz35 other w fun r0 w'=>k (Value.bool r0) w') : callS Tryz.prog 10 [(Sl.v l), (Value.agg #[(Value.string zz34), (Value.int .i64 zz37), (Value.int .i64 zz38), (Value.int .i64 zz39), (Sl.v zz36), (Sl.v zz35)]), (Sl.v other)] w k := (halyardlaw08_CatalogRanges.sound l zz34 zz37 zz38 zz39 zz36 zz35 other w _ h).mono (by rintro _ _ ⟨r0, rfl, h⟩; exact h)
def catalog_New (w : World) (R : Option Addr → World → Prop) : Prop :=
 semS Tryz.prog (Instr.makeMap 101 none) w fun v vw=>∃ (t1 : Option Nat), v = (Value.map t1) ∧ newS vw [(Value.map t1)] 103 fun a vw1=>R (some a) vw1
set_option maxHeartbeats 8000000 in
theorem catalog_New.sound (w : World) (R : Option Addr → World → Prop) (h : catalog_New w R) : callS Tryz.prog 16 [] w (fun v w'=>∃ (r0 : Option Addr), v = (Value.pointer r0) ∧ R r0 w') := by
 unfold catalog_New at h
 refine calls_of_vc 4 rfl Tryz.func16 rfl (by kernel_rfl) (by simp) ?_
 refine Vc.seq ?_
 refine Vc.region ?_
 refine vcL_pure rfl rfl (Value.pointer none) (fun w=>by kernel_rfl) ?_
 refine vcL_nil ?_
 refine Vc.seq ?_
 refine Vc.region ?_
 refine vcL_eff rfl (opVC_sem rfl (c := Instr.makeMap 101 none) (by kernel_rfl) (semS.mono h fun v vw h=>?_))
 obtain ⟨t1, rfl, h⟩ := h
 refine vcL_pure rfl rfl (Value.agg #[(Value.map t1)]) (fun w=>by kernel_rfl) ?_
 refine vcL_eff rfl (opVC_new rfl (fun a=>Value.pointer (some a)) (by kernel_rfl) (newS.mono h fun a vw1 hx h=>?_))
 refine vcL_pure rfl rfl (Value.pointer (some a)) (fun w=>by kernel_rfl) ?_
 refine vcL_nil ?_
 refine Vc.ret ?_
 refine outs_ret ?_
 refine done_mk (Value.pointer (some a)) (res1 (resC_tmp (by kernel_rfl))) ?_
 exact ⟨(some a), rfl, h⟩
theorem catalog_New.go {w : World} {k : Value → World → Prop} (h : catalog_New w fun r0 w'=>k (Value.pointer r0) w') : callS Tryz.prog 16 [] w k := (catalog_New.sound w _ h).mono (by rintro _ _ ⟨r0, rfl, h⟩; exact h)
def halyardlaw08_known (w : World) (R : Bool → World → Prop) : Prop :=
 callS Tryz.prog 16 [] w fun v vw=>∃ (t7 : Option Addr), v = (Value.pointer t7) ∧ ((t7 = none → R false vw) ∧ (¬ (t7 = none) → newS vw [(Value.int .i64 0), (Value.int .i64 0), (Value.int .i64 0)] 30 fun a vw1=>stw vw1 a [(Value.int .i64 1), (Value.int .i64 0), (Value.int .i64 0)] fun vw2=>∃ (zz42 : Int) (zz43 : Int) (zz44 : Int), (ldc vw2 a [(Value.int .i64 zz42), (Value.int .i64 zz43), (Value.int .i64 zz44)]) ∧ callS Tryz.prog 19 [(Value.pointer t7), (Value.agg #[(Value.string (ByteArray.mk #[97])), (Value.int .i64 zz42), (Value.int .i64 zz43), (Value.int .i64 zz44), (Sl.v Sl.nil), (Sl.v Sl.nil), (Sl.v Sl.nil)])] vw2 fun v4 vw3=>∃ (t14 : Int), v4 = (Value.int .i64 t14) ∧ ∃ (zz4u : Int) (zz4v : Int) (zz4w : Int), (ldc vw3 a [(Value.int .i64 zz4u), (Value.int .i64 zz4v), (Value.int .i64 zz4w)]) ∧ callS Tryz.prog 22 [(Value.pointer t7), (Value.string (ByteArray.mk #[97])), (Value.agg #[(Value.int .i64 zz4u), (Value.int .i64 zz4v), (Value.int .i64 zz4w)])] vw3 fun v8 vw7=>∃ (zzr : ByteArray) (zzu : Int) (zzv : Int) (zzw : Int) (zzq : Sl) (zzt : Sl) (zzs : Sl) (t18b : Bool), v8 = (Value.tuple #[(Value.agg #[(Value.string zzr), (Value.int .i64 zzu), (Value.int .i64 zzv), (Value.int .i64 zzw), (Sl.v zzq), (Sl.v zzt), (Sl.v zzs)]), (Value.bool t18b)]) ∧ newS vw7 [(Value.string (ByteArray.mk #[])), (Value.int .i64 0), (Value.int .i64 0), (Value.int .i64 0), (Sl.v Sl.nil), (Sl.v Sl.nil), (Sl.v Sl.nil)] 48 fun a10 vw11=>stw vw11 a10 [(Value.string zzr), (Value.int .i64 zzu), (Value.int .i64 zzv), (Value.int .i64 zzw), (Sl.v zzq), (Sl.v zzt), (Sl.v zzs)] fun vw12=>callS Tryz.prog 49 [] vw12 fun v14 vw13=>∃ (t22 : Sl), v14 = (Sl.v t22) ∧ callS Tryz.prog 28 [(Value.pointer t7), (Value.string (ByteArray.mk #[97])), (Sl.v t22), (Sl.v Sl.nil)] vw13 fun v17 vw16=>∃ (t23 : Sl), v17 = (Sl.v t23) ∧ bnd vw16.drew fun (vw19 : World)=>bnd (t14 == 0) fun (b : Bool)=>bnd (b && t18b) fun (b20 : Bool)=>∃ (t31 : ByteArray), grd b20 (ldc vw19 a10 [(Value.string t31)]) ∧ bnd (b20 && (bEq t31 (ByteArray.mk #[97]))) fun (b22 : Bool)=>bnd (b22 && ((t23.len : Int) == 1)) fun (b23 : Bool)=>∃ (ad : Addr), grd b23 (t23.a = some ad ∧ (0 : Int) ≤ 0 ∧ 0 < (t23.len : Int)) ∧ ∃ (zz2o : Int) (zz2p : Int) (zz2q : Int), grd b23 (ldc vw19 (ad.add ((0 : Int).toNat * 3)) [(Value.int .i64 zz2o), (Value.int .i64 zz2p), (Value.int .i64 zz2q)]) ∧ ∃ (zz2r : Int) (zz2s : Int) (zz2t : Int), grd b23 (ldc vw19 a [(Value.int .i64 zz2r), (Value.int .i64 zz2s), (Value.int .i64 zz2t)]) ∧ bnd (b23 && ((zz2o == zz2r) && ((zz2p == zz2s) && ((zz2q == zz2t) && true)))) fun (b26 : Bool)=>gCall b26 (fun (t48 : Sl) (vw27 : World)=>R (b26 && ((t48.len : Int) == 1)) vw27) (fun q=>callS Tryz.prog 31 [(Value.pointer t7)] vw19 fun v28 vw27=>∃ (t48 : Sl), v28 = (Sl.v t48) ∧ q t48 vw27) (fun q=>q Sl.nil vw19)))
set_option maxHeartbeats 8000000 in
theorem halyardlaw08_known.sound (w : World) (R : Bool → World → Prop) (h : halyardlaw08_known w R) : callS Tryz.prog 17 [] w (fun v w'=>∃ (r0 : Bool), v = (Value.bool r0) ∧ R r0 w') := by
 unfold halyardlaw08_known at h
 refine calls_of_vc 52 rfl Tryz.func17 rfl (by kernel_rfl) (by simp) ?_
 refine Vc.seq ?_
 refine Vc.region ?_
 refine vcL_pure rfl rfl (Value.bool false) (fun w=>by kernel_rfl) ?_
 refine vcL_nil ?_
 refine Vc.seq ?_
 refine Vc.region ?_
 refine vcL_eff rfl (opVC_call rfl (by kernel_rfl) (callS.mono h fun v vw h=>?_))
 obtain ⟨t7, rfl, h⟩ := h
 refine vcL_pure rfl rfl (Value.pointer t7) (fun w=>by kernel_rfl) ?_
 refine vcL_nil ?_
 refine Vc.seq ?_
 refine Vc.seq ?_
 refine Vc.region ?_
 refine vcL_pure rfl rfl (Value.pointer t7) (fun w=>by kernel_rfl) ?_
 refine vcL_pure rfl rfl (Value.bool (Option.isNone t7)) (fun w=>by cases t7 <;> kernel_rfl) ?_
 refine vcL_nil ?_
 refine Vc.cond (Option.isNone t7) (by kernel_rfl) (fun hb=>?_) (fun hb=>?_)
 ·have h := h.1 (Option.isNone_iff_eq_none.1 hb)
  refine Vc.seq ?_
  refine Vc.region ?_
  refine vcL_pure rfl rfl (Value.bool false) (fun w=>by kernel_rfl) ?_
  refine vcL_nil ?_
  refine Vc.ret ?_
  refine outs_ret ?_
  refine done_mk (Value.bool false) (res1 (resC_tmp (by kernel_rfl))) ?_
  exact ⟨false, rfl, h⟩
 ·have h := h.2 (isNone_false hb)
  refine Vc.skip ?_
  refine Vc.seq ?_
  refine Vc.region ?_
  refine vcL_pure rfl rfl (Value.agg #[(Value.int .i64 1), (Value.int .i64 0), (Value.int .i64 0)]) (fun w=>by kernel_rfl) ?_
  refine vcL_eff rfl (opVC_new rfl (fun a=>Value.pointer (some a)) (by kernel_rfl) (newS.mono h fun a vw1 hx h=>?_))
  refine vcL_eff rfl (opVC_store rfl rfl (a := a) (by kernel_rfl) (v := (Value.agg #[(Value.int .i64 1), (Value.int .i64 0), (Value.int .i64 0)])) (by kernel_rfl) [(Value.int .i64 1), (Value.int .i64 0), (Value.int .i64 0)] (by kernel_rfl) (fun w=>by kernel_rfl) (by kernel_rfl) (stw.mono h fun vw2 h=>?_))
  refine vcL_nil ?_
  refine Vc.seq ?_
  refine Vc.region ?_
  refine vcL_pure rfl rfl (Value.pointer t7) (fun w=>by kernel_rfl) ?_
  obtain ⟨zz42, zz43, zz44, hc, h⟩ := h
  refine vcL_val rfl rfl (Value.agg #[(Value.int .i64 zz42), (Value.int .i64 zz43), (Value.int .i64 zz44)]) (exec_load rfl (by kernel_rfl) (run_loadN (fun w=>by kernel_rfl) (fun w=>by kernel_rfl) ((hc)))) ?_
  refine vcL_pure rfl rfl (Value.agg #[(Value.string (ByteArray.mk #[97])), (Value.int .i64 zz42), (Value.int .i64 zz43), (Value.int .i64 zz44), (Sl.v Sl.nil), (Sl.v Sl.nil), (Sl.v Sl.nil)]) (fun w=>by kernel_rfl) ?_
  refine vcL_eff rfl (opVC_call rfl (by kernel_rfl) (callS.mono h fun v4 vw3 h=>?_))
  obtain ⟨t14, rfl, h⟩ := h
  refine vcL_pure rfl rfl (Value.int .i64 t14) (fun w=>by kernel_rfl) ?_
  refine vcL_nil ?_
  refine Vc.seq ?_
  refine Vc.region ?_
  refine vcL_pure rfl rfl (Value.pointer t7) (fun w=>by kernel_rfl) ?_
  obtain ⟨zz4u, zz4v, zz4w, hc6, h⟩ := h
  refine vcL_val rfl rfl (Value.agg #[(Value.int .i64 zz4u), (Value.int .i64 zz4v), (Value.int .i64 zz4w)]) (exec_load rfl (by kernel_rfl) (run_loadN (fun w=>by kernel_rfl) (fun w=>by kernel_rfl) ((hc6)))) ?_
  refine vcL_eff rfl (opVC_call rfl (by kernel_rfl) (callS.mono h fun v8 vw7 h=>?_))
  obtain ⟨zzr, zzu, zzv, zzw, zzq, zzt, zzs, t18b, rfl, h⟩ := h
  refine vcL_purs 3 [(20, (Value.bool t18b)), (19, (Value.agg #[(Value.string zzr), (Value.int .i64 zzu), (Value.int .i64 zzv), (Value.int .i64 zzw), (Sl.v zzq), (Sl.v zzt), (Sl.v zzs)])), (15, (Value.tuple #[(Value.agg #[(Value.string zzr), (Value.int .i64 zzu), (Value.int .i64 zzv), (Value.int .i64 zzw), (Sl.v zzq), (Sl.v zzt), (Sl.v zzs)]), (Value.bool t18b)]))] (by kernel_rfl) ?_
  refine vcL_eff rfl (opVC_new rfl (fun a=>Value.pointer (some a)) (by kernel_rfl) (newS.mono h fun a10 vw11 hx h=>?_))
  refine vcL_eff rfl (opVC_store rfl rfl (a := a10) (by kernel_rfl) (v := (Value.agg #[(Value.string zzr), (Value.int .i64 zzu), (Value.int .i64 zzv), (Value.int .i64 zzw), (Sl.v zzq), (Sl.v zzt), (Sl.v zzs)])) (by kernel_rfl) [(Value.string zzr), (Value.int .i64 zzu), (Value.int .i64 zzv), (Value.int .i64 zzw), (Sl.v zzq), (Sl.v zzt), (Sl.v zzs)] (by kernel_rfl) (fun w=>by kernel_rfl) (by kernel_rfl) (stw.mono h fun vw12 h=>?_))
  refine vcL_pure rfl rfl (Value.bool t18b) (fun w=>by kernel_rfl) ?_
  refine vcL_nil ?_
  refine Vc.seq ?_
  refine Vc.region ?_
  refine vcL_pure rfl rfl (Value.pointer t7) (fun w=>by kernel_rfl) ?_
  refine vcL_eff rfl (opVC_call rfl (by kernel_rfl) (callS.mono h fun v14 vw13 h=>?_))
  obtain ⟨t22, rfl, h⟩ := h
  refine vcL_eff rfl (opVC_call rfl (by kernel_rfl) (callS.mono h fun v17 vw16 h=>?_))
  obtain ⟨t23, rfl, h⟩ := h
  refine vcL_pure rfl rfl (Sl.v t23) (fun w=>by kernel_rfl) ?_
  refine vcL_nil ?_
  refine Vc.seq ?_
  obtain ⟨vw19, hvw19⟩ : ∃ y, y = vw16.drew := ⟨_, rfl⟩
  have h := h vw19 hvw19
  refine Vc.draw (by kernel_rfl) (fun i=>!(memN [24] i)) (.pur 0 (.pur 1 (.pur 2 (.pur 3 (.pur 4 (.pur 5 (.pur 6 (.val 7 (.pur 8 (.pur 9 (.pur 10 (.pur 11 (.pur 12 (.pur 13 (.pur 14 (.pur 15 (.pur 16 (.pur 17 (.val 18 (.val 19 (.pur 20 (.pur 21 (.pur 22 (.pur 23 (.eff 24 (.pur 25 (.pur 26 (.pur 27 (.pur 28 .fin)))) .stop))))))))))))))))))))))))) (by kernel_rfl) ?_
  rw [← hvw19]
  clear hvw19
  refine vcS_pure rfl rfl rfl (Value.int .i64 t14) (fun w=>by kernel_rfl) ?_
  refine vcS_pure rfl rfl rfl (Value.bool (t14 == 0)) (fun w=>by kernel_rfl) ?_
  obtain ⟨b, hb⟩ : ∃ y, y = (t14 == 0) := ⟨_, rfl⟩
  have h := h b hb
  refine vcS_pure rfl rfl rfl (Value.bool b) (fun w=>by rw [hb]; kernel_rfl) ?_
  refine vcS_guard rfl b (wanted_g (d := 26) rfl (by kernel_rfl) b (by kernel_rfl) b (eqT b)) rfl (Value.bool t18b) (fun hg w=>by subst hg; kernel_rfl) ?_
  refine vcS_pure rfl rfl rfl (Value.bool (b && t18b)) (fun w=>by cases b <;> kernel_rfl) ?_
  obtain ⟨b20, hb20⟩ : ∃ y, y = (b && t18b) := ⟨_, rfl⟩
  have h := h b20 hb20
  refine vcS_pure rfl rfl rfl (Value.bool b20) (fun w=>by rw [hb20]; kernel_rfl) ?_
  refine vcS_guard rfl b20 (wanted_g (d := 29) rfl (by kernel_rfl) b20 (by kernel_rfl) b20 (eqT b20)) rfl (Value.pointer (some a10)) (fun hg w=>by subst hg; kernel_rfl) ?_
  obtain ⟨t31, hc21, h⟩ := h
  refine vcS_valG rfl b20 (wanted_g (d := 29) rfl (by kernel_rfl) b20 (by kernel_rfl) b20 (eqT b20)) rfl (Value.string t31) (fun hg w' hx=>by subst hg; exact exec_load rfl (by kernel_rfl) (run_load1 (fun w=>by kernel_rfl) ((hc21 rfl).ext hx))) ?_
  refine vcS_guard rfl b20 (wanted_g (d := 29) rfl (by kernel_rfl) b20 (by kernel_rfl) b20 (eqT b20)) rfl (Value.bool (bEq t31 (ByteArray.mk #[97]))) (fun hg w=>by subst hg; kernel_rfl) ?_
  refine vcS_pure rfl rfl rfl (Value.bool (b20 && (bEq t31 (ByteArray.mk #[97])))) (fun w=>by cases b20 <;> kernel_rfl) ?_
  obtain ⟨b22, hb22⟩ : ∃ y, y = (b20 && (bEq t31 (ByteArray.mk #[97]))) := ⟨_, rfl⟩
  have h := h b22 hb22
  refine vcS_pure rfl rfl rfl (Value.bool b22) (fun w=>by rw [hb22]; kernel_rfl) ?_
  refine vcS_guard rfl b22 (wanted_g (d := 34) rfl (by kernel_rfl) b22 (by kernel_rfl) b22 (eqT b22)) rfl (Sl.v t23) (fun hg w=>by subst hg; kernel_rfl) ?_
  refine vcS_guard rfl b22 (wanted_g (d := 34) rfl (by kernel_rfl) b22 (by kernel_rfl) b22 (eqT b22)) rfl (Value.int .i64 (t23.len : Int)) (fun hg w=>by subst hg; kernel_rfl) ?_
  refine vcS_guard rfl b22 (wanted_g (d := 34) rfl (by kernel_rfl) b22 (by kernel_rfl) b22 (eqT b22)) rfl (Value.bool ((t23.len : Int) == 1)) (fun hg w=>by subst hg; kernel_rfl) ?_
  refine vcS_pure rfl rfl rfl (Value.bool (b22 && ((t23.len : Int) == 1))) (fun w=>by cases b22 <;> kernel_rfl) ?_
  obtain ⟨b23, hb23⟩ : ∃ y, y = (b22 && ((t23.len : Int) == 1)) := ⟨_, rfl⟩
  have h := h b23 hb23
  refine vcS_pure rfl rfl rfl (Value.bool b23) (fun w=>by rw [hb23]; kernel_rfl) ?_
  refine vcS_guard rfl b23 (wanted_g (d := 39) rfl (by kernel_rfl) b23 (by kernel_rfl) b23 (eqT b23)) rfl (Sl.v t23) (fun hg w=>by subst hg; kernel_rfl) ?_
  obtain ⟨ad, hi, h⟩ := h
  refine vcS_guard rfl b23 (wanted_g (d := 39) rfl (by kernel_rfl) b23 (by kernel_rfl) b23 (eqT b23)) rfl (Value.pointer (some (ad.add ((0 : Int).toNat * 3)))) (fun hg w=>by subst hg; exact exec_indexAt (s := t23) (el := 30) rfl (by kernel_rfl) (by kernel_rfl) (by kernel_rfl) (fun w=>by kernel_rfl) (hi rfl).1 (hi rfl).2.1 (hi rfl).2.2 w) ?_
  obtain ⟨zz2o, zz2p, zz2q, hc24, h⟩ := h
  refine vcS_valG rfl b23 (wanted_g (d := 39) rfl (by kernel_rfl) b23 (by kernel_rfl) b23 (eqT b23)) rfl (Value.agg #[(Value.int .i64 zz2o), (Value.int .i64 zz2p), (Value.int .i64 zz2q)]) (fun hg w' hx=>by subst hg; exact exec_load rfl (by kernel_rfl) (run_loadN (fun w=>by kernel_rfl) (fun w=>by kernel_rfl) ((hc24 rfl).ext hx))) ?_
  obtain ⟨zz2r, zz2s, zz2t, hc25, h⟩ := h
  refine vcS_valG rfl b23 (wanted_g (d := 39) rfl (by kernel_rfl) b23 (by kernel_rfl) b23 (eqT b23)) rfl (Value.agg #[(Value.int .i64 zz2r), (Value.int .i64 zz2s), (Value.int .i64 zz2t)]) (fun hg w' hx=>by subst hg; exact exec_load rfl (by kernel_rfl) (run_loadN (fun w=>by kernel_rfl) (fun w=>by kernel_rfl) ((hc25 rfl).ext hx))) ?_
  refine vcS_guard rfl b23 (wanted_g (d := 39) rfl (by kernel_rfl) b23 (by kernel_rfl) b23 (eqT b23)) rfl (Value.bool ((zz2o == zz2r) && ((zz2p == zz2s) && ((zz2q == zz2t) && true)))) (fun hg w=>by subst hg; exact exec_struct_eq rfl (by kernel_rfl) (by kernel_rfl) (by kernel_rfl) (eqv_30 9998 zz2o zz2p zz2q zz2r zz2s zz2t w)) ?_
  refine vcS_pure rfl rfl rfl (Value.bool (b23 && ((zz2o == zz2r) && ((zz2p == zz2s) && ((zz2q == zz2t) && true))))) (fun w=>by cases b23 <;> kernel_rfl) ?_
  obtain ⟨b26, hb26⟩ : ∃ y, y = (b23 && ((zz2o == zz2r) && ((zz2p == zz2s) && ((zz2q == zz2t) && true)))) := ⟨_, rfl⟩
  have h := h b26 hb26
  refine vcS_pure rfl rfl rfl (Value.bool b26) (fun w=>by rw [hb26]; kernel_rfl) ?_
  refine vcS_guard rfl b26 (wanted_g (d := 46) rfl (by kernel_rfl) b26 (by kernel_rfl) b26 (eqT b26)) rfl (Value.pointer t7) (fun hg w=>by subst hg; kernel_rfl) ?_
  obtain ⟨vJ, hJ, h⟩ := gCall_elim h
  refine vcS_effJ (σ := Sl) rfl b26 (wanted_g (d := 46) rfl (by kernel_rfl) b26 (by kernel_rfl) b26 (eqT b26)) rfl (fun s w=>vJ s w) (fun s=>(Sl.v s)) ?_ (fun hg=>opVC_call rfl (by subst hg; kernel_rfl) (callS.mono (h.1 hg) fun v28 vw27 hq=>?_)) (fun hg=>⟨Sl.nil, h.2 hg⟩) vcS_stop
  ·intro t48 vw27 h
   subst hJ
   refine vcS_guard rfl b26 (wanted_g (d := 46) rfl (by kernel_rfl) b26 (by kernel_rfl) b26 (eqT b26)) rfl (Value.int .i64 (t48.len : Int)) (fun hg w=>by subst hg; kernel_rfl) ?_
   refine vcS_guard rfl b26 (wanted_g (d := 46) rfl (by kernel_rfl) b26 (by kernel_rfl) b26 (eqT b26)) rfl (Value.bool ((t48.len : Int) == 1)) (fun hg w=>by subst hg; kernel_rfl) ?_
   refine vcS_pure rfl rfl rfl (Value.bool (b26 && ((t48.len : Int) == 1))) (fun w=>by cases b26 <;> kernel_rfl) ?_
   refine vcS_pure rfl rfl rfl (Value.bool (b26 && ((t48.len : Int) == 1))) (fun w=>by kernel_rfl) ?_
   refine vcS_fin ?_
   refine Vc.ret ?_
   refine outs_ret ?_
   refine done_mk (Value.bool (b26 && ((t48.len : Int) == 1))) (res1 (resC_tmp (by kernel_rfl))) ?_
   exact ⟨(b26 && ((t48.len : Int) == 1)), rfl, h⟩
  ·obtain ⟨t48, rfl, hq⟩ := hq
   exact ⟨fun hb=>absurd hb (by decide), t48, rfl, hq⟩
theorem halyardlaw08_known.go {w : World} {k : Value → World → Prop} (h : halyardlaw08_known w fun r0 w'=>k (Value.bool r0) w') : callS Tryz.prog 17 [] w k := (halyardlaw08_known.sound w _ h).mono (by rintro _ _ ⟨r0, rfl, h⟩; exact h)
def catalog_Catalog_Put (c : Option Addr) (zz4 : ByteArray) (zz7 : Int) (zz8 : Int) (zz9 : Int) (zz3 : Sl) (zz6 : Sl) (zz5 : Sl) (w : World) (R : Int → World → Prop) : Prop :=
 newS w [(Value.string zz4), (Value.int .i64 zz7), (Value.int .i64 zz8), (Value.int .i64 zz9), (Sl.v zz3), (Sl.v zz6), (Sl.v zz5)] 48 fun a vw=>∃ (zz5v : ByteArray) (zz5y : Int) (zz5z : Int) (zz60 : Int) (zz5u : Sl) (zz5x : Sl) (zz5w : Sl), (ldc vw a [(Value.string zz5v), (Value.int .i64 zz5y), (Value.int .i64 zz5z), (Value.int .i64 zz60), (Sl.v zz5u), (Sl.v zz5x), (Sl.v zz5w)]) ∧ callS Tryz.prog 61 [(Value.agg #[(Value.string zz5v), (Value.int .i64 zz5y), (Value.int .i64 zz5z), (Value.int .i64 zz60), (Sl.v zz5u), (Sl.v zz5x), (Sl.v zz5w)])] vw fun v vw1=>∃ (t9 : Bool), v = (Value.bool t9) ∧ (((!t9) = true → R 24 vw1) ∧ ((!t9) = false → ∃ (t12 : ByteArray), (ldc vw1 a [(Value.string t12)]) ∧ ∃ (zz3a : Int) (zz3b : Int) (zz3c : Int), (ldc vw1 (a.add 1) [(Value.int .i64 zz3a), (Value.int .i64 zz3b), (Value.int .i64 zz3c)]) ∧ newS vw1 [(Value.string (ByteArray.mk #[])), (Value.int .i64 0), (Value.int .i64 0), (Value.int .i64 0)] 106 fun a4 vw5=>stw vw5 a4 [(Value.string t12), (Value.int .i64 zz3a), (Value.int .i64 zz3b), (Value.int .i64 zz3c)] fun vw6=>bnd vw6.drew fun (vw7 : World)=>∃ (p : Addr), (c = some p) ∧ ∃ (t20 : Option Nat), (ldc vw7 p [(Value.map t20)]) ∧ ∃ (t21_name : ByteArray) (zz48 : Int) (zz49 : Int) (zz4a : Int), (ldc vw7 a4 [(Value.string t21_name), (Value.int .i64 zz48), (Value.int .i64 zz49), (Value.int .i64 zz4a)]) ∧ ∃ (zzy : ByteArray) (zz11 : Int) (zz12 : Int) (zz13 : Int) (zzx : Sl) (zz10 : Sl) (zzz : Sl) (t22b : Bool), (stabS Tryz.prog (Instr.lookup 101 (Value.map t20) (Value.agg #[(Value.string t21_name), (Value.int .i64 zz48), (Value.int .i64 zz49), (Value.int .i64 zz4a)]) true) vw7 (Value.tuple #[(Value.agg #[(Value.string zzy), (Value.int .i64 zz11), (Value.int .i64 zz12), (Value.int .i64 zz13), (Sl.v zzx), (Sl.v zz10), (Sl.v zzz)]), (Value.bool t22b)])) ∧ newS vw7 [(Value.string (ByteArray.mk #[])), (Value.int .i64 0), (Value.int .i64 0), (Value.int .i64 0), (Sl.v Sl.nil), (Sl.v Sl.nil), (Sl.v Sl.nil)] 48 fun a12 vw13=>stw vw13 a12 [(Value.string zzy), (Value.int .i64 zz11), (Value.int .i64 zz12), (Value.int .i64 zz13), (Sl.v zzx), (Sl.v zz10), (Sl.v zzz)] fun vw14=>((t22b = true → R 11 vw14) ∧ (t22b = false → ∃ (p15 : Addr), (c = some p15) ∧ ∃ (t29 : Option Nat), (ldc vw14 p15 [(Value.map t29)]) ∧ ∃ (t30 : Int), (stabS Tryz.prog (Builtin.len_ #[101] 3 #[(Value.map t29)]) vw14 (Value.int .i64 t30)) ∧ ((128 ≤ t30 → R 26 vw14) ∧ (¬ (128 ≤ t30) → bnd vw14.drew fun (vw19 : World)=>∃ (p20 : Addr), (c = some p20) ∧ ∃ (t35 : Option Nat), (ldc vw19 p20 [(Value.map t35)]) ∧ ∃ (t36_name : ByteArray) (zz4b : Int) (zz4c : Int) (zz4d : Int), (ldc vw19 a4 [(Value.string t36_name), (Value.int .i64 zz4b), (Value.int .i64 zz4c), (Value.int .i64 zz4d)]) ∧ ∃ (zz15 : ByteArray) (zz18 : Int) (zz19 : Int) (zz1a : Int) (zz14 : Sl) (zz17 : Sl) (zz16 : Sl), (ldc vw19 a [(Value.string zz15), (Value.int .i64 zz18), (Value.int .i64 zz19), (Value.int .i64 zz1a), (Sl.v zz14), (Sl.v zz17), (Sl.v zz16)]) ∧ callX Tryz.prog 62 [(Value.agg #[(Value.string zz15), (Value.int .i64 zz18), (Value.int .i64 zz19), (Value.int .i64 zz1a), (Sl.v zz14), (Sl.v zz17), (Sl.v zz16)])] vw19 fun v26 vw25=>∃ (zz5h : ByteArray) (zz5k : Int) (zz5l : Int) (zz5m : Int) (zz5g : Sl) (zz5j : Sl) (zz5i : Sl), v26 = (Value.agg #[(Value.string zz5h), (Value.int .i64 zz5k), (Value.int .i64 zz5l), (Value.int .i64 zz5m), (Sl.v zz5g), (Sl.v zz5j), (Sl.v zz5i)]) ∧ semU Tryz.prog (Instr.mapUpdate 101 (Value.map t35) (Value.agg #[(Value.string t36_name), (Value.int .i64 zz4b), (Value.int .i64 zz4c), (Value.int .i64 zz4d)]) (Value.agg #[(Value.string zz5h), (Value.int .i64 zz5k), (Value.int .i64 zz5l), (Value.int .i64 zz5m), (Sl.v zz5g), (Sl.v zz5j), (Sl.v zz5i)])) vw25 fun vw28=>R 0 vw28))))))
set_option maxHeartbeats 8000000 in
theorem catalog_Catalog_Put.sound (c : Option Addr) (zz4 : ByteArray) (zz7 : Int) (zz8 : Int) (zz9 : Int) (zz3 : Sl) (zz6 : Sl) (zz5 : Sl) (w : World) (R : Int → World → Prop) (h : catalog_Catalog_Put c zz4 zz7 zz8 zz9 zz3 zz6 zz5 w R) : callS Tryz.prog 19 [(Value.pointer c), (Value.agg #[(Value.string zz4), (Value.int .i64 zz7), (Value.int .i64 zz8), (Value.int .i64 zz9), (Sl.v zz3), (Sl.v zz6), (Sl.v zz5)])] w (fun v w'=>∃ (r0 : Int), v = (Value.int .i64 r0) ∧ R r0 w') := by
 unfold catalog_Catalog_Put at h
 refine calls_of_vc 39 rfl Tryz.func19 rfl (by kernel_rfl) (by simp) ?_
 refine Vc.seq ?_
 refine Vc.region ?_
 refine vcL_eff rfl (opVC_new rfl (fun a=>Value.pointer (some a)) (by kernel_rfl) (newS.mono h fun a vw hx h=>?_))
 refine vcL_pure rfl rfl (Value.int .i64 0) (fun w=>by kernel_rfl) ?_
 refine vcL_nil ?_
 refine Vc.seq ?_
 refine Vc.seq ?_
 refine Vc.region ?_
 obtain ⟨zz5v, zz5y, zz5z, zz60, zz5u, zz5x, zz5w, hc, h⟩ := h
 refine vcL_val rfl rfl (Value.agg #[(Value.string zz5v), (Value.int .i64 zz5y), (Value.int .i64 zz5z), (Value.int .i64 zz60), (Sl.v zz5u), (Sl.v zz5x), (Sl.v zz5w)]) (exec_load rfl (by kernel_rfl) (run_loadN (fun w=>by kernel_rfl) (fun w=>by kernel_rfl) ((hc)))) ?_
 refine vcL_eff rfl (opVC_call rfl (by kernel_rfl) (callS.mono h fun v vw1 h=>?_))
 obtain ⟨t9, rfl, h⟩ := h
 refine vcL_pure rfl rfl (Value.bool (!t9)) (fun w=>by kernel_rfl) ?_
 refine vcL_nil ?_
 refine Vc.cond (!t9) (by kernel_rfl) (fun hb=>?_) (fun hb=>?_)
 ·have h := h.1 (hb)
  refine Vc.seq ?_
  refine Vc.region ?_
  refine vcL_pure rfl rfl (Value.int .i64 24) (fun w=>by kernel_rfl) ?_
  refine vcL_nil ?_
  refine Vc.ret ?_
  refine outs_ret ?_
  refine done_mk (Value.int .i64 24) (res1 (resC_tmp (by kernel_rfl))) ?_
  exact ⟨24, rfl, h⟩
 ·have h := h.2 (hb)
  refine Vc.skip ?_
  refine Vc.seq ?_
  refine Vc.region ?_
  refine vcL_pure rfl rfl (Value.pointer (some a)) (fun w=>by kernel_rfl) ?_
  obtain ⟨t12, hc2, h⟩ := h
  refine vcL_val rfl rfl (Value.string t12) (exec_load rfl (by kernel_rfl) (run_load1 (fun w=>by kernel_rfl) ((hc2)))) ?_
  refine vcL_pure rfl rfl (Value.pointer (some (a.add 1))) (fun w=>by kernel_rfl) ?_
  obtain ⟨zz3a, zz3b, zz3c, hc3, h⟩ := h
  refine vcL_val rfl rfl (Value.agg #[(Value.int .i64 zz3a), (Value.int .i64 zz3b), (Value.int .i64 zz3c)]) (exec_load rfl (by kernel_rfl) (run_loadN (fun w=>by kernel_rfl) (fun w=>by kernel_rfl) ((hc3)))) ?_
  refine vcL_pure rfl rfl (Value.agg #[(Value.string t12), (Value.int .i64 zz3a), (Value.int .i64 zz3b), (Value.int .i64 zz3c)]) (fun w=>by kernel_rfl) ?_
  refine vcL_eff rfl (opVC_new rfl (fun a=>Value.pointer (some a)) (by kernel_rfl) (newS.mono h fun a4 vw5 hx h=>?_))
  refine vcL_eff rfl (opVC_store rfl rfl (a := a4) (by kernel_rfl) (v := (Value.agg #[(Value.string t12), (Value.int .i64 zz3a), (Value.int .i64 zz3b), (Value.int .i64 zz3c)])) (by kernel_rfl) [(Value.string t12), (Value.int .i64 zz3a), (Value.int .i64 zz3b), (Value.int .i64 zz3c)] (by kernel_rfl) (fun w=>by kernel_rfl) (by kernel_rfl) (stw.mono h fun vw6 h=>?_))
  refine vcL_nil ?_
  refine Vc.seq ?_
  refine Vc.seq ?_
  obtain ⟨vw7, hvw7⟩ : ∃ y, y = vw6.drew := ⟨_, rfl⟩
  have h := h vw7 hvw7
  refine Vc.draw (by kernel_rfl) (fun i=>!(memN [10] i)) (.pur 0 (.pur 1 (.pur 2 (.val 3 (.val 4 (.val 5 (.pur 6 (.pur 7 (.pur 8 (.eff 9 (.eff 10 (.pur 11 .fin) .stop) .stop)))))))))) (by kernel_rfl) ?_
  rw [← hvw7]
  clear hvw7
  refine vcS_pure rfl rfl rfl (Value.pointer c) (fun w=>by kernel_rfl) ?_
  obtain ⟨p, hp, h⟩ := h
  refine vcS_pure rfl rfl rfl (Value.pointer (some p)) (fun w=>by exact exec_nilCheck rfl (by kernel_rfl) (hp) w) ?_
  refine vcS_pure rfl rfl rfl (Value.pointer (some p)) (fun w=>by kernel_rfl) ?_
  obtain ⟨t20, hc8, h⟩ := h
  refine vcS_val rfl rfl rfl (Value.map t20) (fun w' hx=>exec_load rfl (by kernel_rfl) (run_load1 (fun w=>by kernel_rfl) ((hc8).ext hx))) ?_
  obtain ⟨t21_name, zz48, zz49, zz4a, hc9, h⟩ := h
  refine vcS_val rfl rfl rfl (Value.agg #[(Value.string t21_name), (Value.int .i64 zz48), (Value.int .i64 zz49), (Value.int .i64 zz4a)]) (fun w' hx=>exec_load rfl (by kernel_rfl) (run_loadN (fun w=>by kernel_rfl) (fun w=>by kernel_rfl) ((hc9).ext hx))) ?_
  obtain ⟨zzy, zz11, zz12, zz13, zzx, zz10, zzz, t22b, hl, h⟩ := h
  refine vcS_val rfl rfl rfl (Value.tuple #[(Value.agg #[(Value.string zzy), (Value.int .i64 zz11), (Value.int .i64 zz12), (Value.int .i64 zz13), (Sl.v zzx), (Sl.v zz10), (Sl.v zzz)]), (Value.bool t22b)]) (fun w' hx=>exec_sem (c := Instr.lookup 101 (Value.map t20) (Value.agg #[(Value.string t21_name), (Value.int .i64 zz48), (Value.int .i64 zz49), (Value.int .i64 zz4a)]) true) (by kernel_rfl) ((hl) _ hx)) ?_
  refine vcS_pure rfl rfl rfl (Value.tuple #[(Value.agg #[(Value.string zzy), (Value.int .i64 zz11), (Value.int .i64 zz12), (Value.int .i64 zz13), (Sl.v zzx), (Sl.v zz10), (Sl.v zzz)]), (Value.bool t22b)]) (fun w=>by kernel_rfl) ?_
  refine vcS_pure rfl rfl rfl (Value.agg #[(Value.string zzy), (Value.int .i64 zz11), (Value.int .i64 zz12), (Value.int .i64 zz13), (Sl.v zzx), (Sl.v zz10), (Sl.v zzz)]) (fun w=>by kernel_rfl) ?_
  refine vcS_pure rfl rfl rfl (Value.bool t22b) (fun w=>by kernel_rfl) ?_
  refine vcS_eff rfl rfl (opVC_new rfl (fun a=>Value.pointer (some a)) (by kernel_rfl) (newS.mono h fun a12 vw13 hx h=>?_)) vcS_stop
  refine ⟨fun _ => hx, ?_⟩
  refine vcS_eff rfl rfl (opVC_store rfl rfl (a := a12) (by kernel_rfl) (v := (Value.agg #[(Value.string zzy), (Value.int .i64 zz11), (Value.int .i64 zz12), (Value.int .i64 zz13), (Sl.v zzx), (Sl.v zz10), (Sl.v zzz)])) (by kernel_rfl) [(Value.string zzy), (Value.int .i64 zz11), (Value.int .i64 zz12), (Value.int .i64 zz13), (Sl.v zzx), (Sl.v zz10), (Sl.v zzz)] (by kernel_rfl) (fun w=>by kernel_rfl) (by kernel_rfl) (stw.mono h fun vw14 h=>?_)) vcS_stop
  refine ⟨fun hb=>absurd hb (by decide), ?_⟩
  refine vcS_pure rfl rfl rfl (Value.bool t22b) (fun w=>by kernel_rfl) ?_
  refine vcS_fin ?_
  refine Vc.seq ?_
  refine Vc.region ?_
  refine vcL_pure rfl rfl (Value.bool t22b) (fun w=>by kernel_rfl) ?_
  refine vcL_nil ?_
  refine Vc.cond t22b (by kernel_rfl) (fun hb=>?_) (fun hb=>?_)
  ·have h := h.1 (hb)
   refine Vc.seq ?_
   refine Vc.region ?_
   refine vcL_pure rfl rfl (Value.int .i64 11) (fun w=>by kernel_rfl) ?_
   refine vcL_nil ?_
   refine Vc.ret ?_
   refine outs_ret ?_
   refine done_mk (Value.int .i64 11) (res1 (resC_tmp (by kernel_rfl))) ?_
   exact ⟨11, rfl, h⟩
  ·have h := h.2 (hb)
   refine Vc.skip ?_
   refine Vc.seq ?_
   refine Vc.seq ?_
   refine Vc.region ?_
   refine vcL_pure rfl rfl (Value.pointer c) (fun w=>by kernel_rfl) ?_
   obtain ⟨p15, hp16, h⟩ := h
   refine vcL_pure rfl rfl (Value.pointer (some p15)) (fun w=>by exact exec_nilCheck rfl (by kernel_rfl) (hp16) w) ?_
   refine vcL_pure rfl rfl (Value.pointer (some p15)) (fun w=>by kernel_rfl) ?_
   obtain ⟨t29, hc17, h⟩ := h
   refine vcL_val rfl rfl (Value.map t29) (exec_load rfl (by kernel_rfl) (run_load1 (fun w=>by kernel_rfl) ((hc17)))) ?_
   obtain ⟨t30, hl18, h⟩ := h
   refine vcL_val rfl rfl (Value.int .i64 t30) (exec_sem (c := Builtin.len_ #[101] 3 #[(Value.map t29)]) (by kernel_rfl) ((hl18) _ (Ext.refl _))) ?_
   refine vcL_pure rfl rfl (Value.bool (decide (128 ≤ t30))) (fun w=>by kernel_rfl) ?_
   refine vcL_nil ?_
   refine Vc.cond (decide (128 ≤ t30)) (by kernel_rfl) (fun hb=>?_) (fun hb=>?_)
   ·have h := h.1 (of_decide_eq_true hb)
    refine Vc.seq ?_
    refine Vc.region ?_
    refine vcL_pure rfl rfl (Value.int .i64 26) (fun w=>by kernel_rfl) ?_
    refine vcL_nil ?_
    refine Vc.ret ?_
    refine outs_ret ?_
    refine done_mk (Value.int .i64 26) (res1 (resC_tmp (by kernel_rfl))) ?_
    exact ⟨26, rfl, h⟩
   ·have h := h.2 (of_decide_eq_false hb)
    refine Vc.skip ?_
    refine Vc.seq ?_
    obtain ⟨vw19, hvw19⟩ : ∃ y, y = vw14.drew := ⟨_, rfl⟩
    have h := h vw19 hvw19
    refine Vc.draw (by kernel_rfl) (fun i=>!(memN [7] i)) (.pur 0 (.pur 1 (.pur 2 (.val 3 (.val 4 (.val 5 (.eff 6 (.eff 7 .fin .stop) .stop))))))) (by kernel_rfl) ?_
    rw [← hvw19]
    clear hvw19
    refine vcS_pure rfl rfl rfl (Value.pointer c) (fun w=>by kernel_rfl) ?_
    obtain ⟨p20, hp21, h⟩ := h
    refine vcS_pure rfl rfl rfl (Value.pointer (some p20)) (fun w=>by exact exec_nilCheck rfl (by kernel_rfl) (hp21) w) ?_
    refine vcS_pure rfl rfl rfl (Value.pointer (some p20)) (fun w=>by kernel_rfl) ?_
    obtain ⟨t35, hc22, h⟩ := h
    refine vcS_val rfl rfl rfl (Value.map t35) (fun w' hx=>exec_load rfl (by kernel_rfl) (run_load1 (fun w=>by kernel_rfl) ((hc22).ext hx))) ?_
    obtain ⟨t36_name, zz4b, zz4c, zz4d, hc23, h⟩ := h
    refine vcS_val rfl rfl rfl (Value.agg #[(Value.string t36_name), (Value.int .i64 zz4b), (Value.int .i64 zz4c), (Value.int .i64 zz4d)]) (fun w' hx=>exec_load rfl (by kernel_rfl) (run_loadN (fun w=>by kernel_rfl) (fun w=>by kernel_rfl) ((hc23).ext hx))) ?_
    obtain ⟨zz15, zz18, zz19, zz1a, zz14, zz17, zz16, hc24, h⟩ := h
    refine vcS_val rfl rfl rfl (Value.agg #[(Value.string zz15), (Value.int .i64 zz18), (Value.int .i64 zz19), (Value.int .i64 zz1a), (Sl.v zz14), (Sl.v zz17), (Sl.v zz16)]) (fun w' hx=>exec_load rfl (by kernel_rfl) (run_loadN (fun w=>by kernel_rfl) (fun w=>by kernel_rfl) ((hc24).ext hx))) ?_
    refine vcS_eff rfl rfl (opVC_call rfl (by kernel_rfl) (callS.mono h fun v26 vw25 h=>?_)) vcS_stop
    obtain ⟨hx27, h⟩ := h
    obtain ⟨zz5h, zz5k, zz5l, zz5m, zz5g, zz5j, zz5i, rfl, h⟩ := h
    refine ⟨fun _ => hx27, ?_⟩
    refine vcS_eff rfl rfl (opVC_semU rfl (c := Instr.mapUpdate 101 (Value.map t35) (Value.agg #[(Value.string t36_name), (Value.int .i64 zz4b), (Value.int .i64 zz4c), (Value.int .i64 zz4d)]) (Value.agg #[(Value.string zz5h), (Value.int .i64 zz5k), (Value.int .i64 zz5l), (Value.int .i64 zz5m), (Sl.v zz5g), (Sl.v zz5j), (Sl.v zz5i)])) (by kernel_rfl) (semU.mono h fun vw28 h=>?_)) vcS_stop
    refine ⟨fun hb=>absurd hb (by decide), ?_⟩
    refine vcS_fin ?_
    refine Vc.seq ?_
    refine Vc.region ?_
    refine vcL_pure rfl rfl (Value.int .i64 0) (fun w=>by kernel_rfl) ?_
    refine vcL_nil ?_
    refine Vc.ret ?_
    refine outs_ret ?_
    refine done_mk (Value.int .i64 0) (res1 (resC_tmp (by kernel_rfl))) ?_
    exact ⟨0, rfl, h⟩
theorem catalog_Catalog_Put.go {c : Option Addr} {zz4 : ByteArray} {zz7 : Int} {zz8 : Int} {zz9 : Int} {zz3 : Sl} {zz6 : Sl} {zz5 : Sl} {w : World} {k : Value → World → Prop} (h : catalog_Catalog_Put c zz4 zz7 zz8 zz9 zz3 zz6 zz5 w fun r0 w'=>k (Value.int .i64 r0) w') : callS Tryz.prog 19 [(Value.pointer c), (Value.agg #[(Value.string zz4), (Value.int .i64 zz7), (Value.int .i64 zz8), (Value.int .i64 zz9), (Sl.v zz3), (Sl.v zz6), (Sl.v zz5)])] w k := (catalog_Catalog_Put.sound c zz4 zz7 zz8 zz9 zz3 zz6 zz5 w _ h).mono (by rintro _ _ ⟨r0, rfl, h⟩; exact h)
def catalog_Catalog_Get (c : Option Addr) (name : ByteArray) (zz0 : Int) (zz1 : Int) (zz2 : Int) (w : World) (R : ByteArray → Int → Int → Int → Sl → Sl → Sl → Bool → World → Prop) : Prop :=
 newS w [(Value.int .i64 zz0), (Value.int .i64 zz1), (Value.int .i64 zz2)] 30 fun a vw=>newS vw [(Value.string (ByteArray.mk #[])), (Value.int .i64 0), (Value.int .i64 0), (Value.int .i64 0), (Sl.v Sl.nil), (Sl.v Sl.nil), (Sl.v Sl.nil)] 48 fun a1 vw2=>bnd vw2.drew fun (vw3 : World)=>∃ (p : Addr), (c = some p) ∧ ∃ (t14 : Option Nat), (ldc vw3 p [(Value.map t14)]) ∧ ∃ (zz3k : Int) (zz3l : Int) (zz3m : Int), (ldc vw3 a [(Value.int .i64 zz3k), (Value.int .i64 zz3l), (Value.int .i64 zz3m)]) ∧ ∃ (zzr : ByteArray) (zzu : Int) (zzv : Int) (zzw : Int) (zzq : Sl) (zzt : Sl) (zzs : Sl) (t18b : Bool), (stabS Tryz.prog (Instr.lookup 101 (Value.map t14) (Value.agg #[(Value.string name), (Value.int .i64 zz3k), (Value.int .i64 zz3l), (Value.int .i64 zz3m)]) true) vw3 (Value.tuple #[(Value.agg #[(Value.string zzr), (Value.int .i64 zzu), (Value.int .i64 zzv), (Value.int .i64 zzw), (Sl.v zzq), (Sl.v zzt), (Sl.v zzs)]), (Value.bool t18b)])) ∧ newS vw3 [(Value.string (ByteArray.mk #[])), (Value.int .i64 0), (Value.int .i64 0), (Value.int .i64 0), (Sl.v Sl.nil), (Sl.v Sl.nil), (Sl.v Sl.nil)] 48 fun a6 vw7=>stw vw7 a6 [(Value.string zzr), (Value.int .i64 zzu), (Value.int .i64 zzv), (Value.int .i64 zzw), (Sl.v zzq), (Sl.v zzt), (Sl.v zzs)] fun vw8=>∃ (zz53 : ByteArray) (zz57 : Int) (zz58 : Int) (zz59 : Int) (zz50 : Sl) (zz56 : Sl) (zz54 : Sl), (ldc vw8 a6 [(Value.string zz53), (Value.int .i64 zz57), (Value.int .i64 zz58), (Value.int .i64 zz59), (Sl.v zz50), (Sl.v zz56), (Sl.v zz54)]) ∧ callS Tryz.prog 62 [(Value.agg #[(Value.string zz53), (Value.int .i64 zz57), (Value.int .i64 zz58), (Value.int .i64 zz59), (Sl.v zz50), (Sl.v zz56), (Sl.v zz54)])] vw8 fun v11 vw10=>∃ (zzy : ByteArray) (zz11 : Int) (zz12 : Int) (zz13 : Int) (zzx : Sl) (zz10 : Sl) (zzz : Sl), v11 = (Value.agg #[(Value.string zzy), (Value.int .i64 zz11), (Value.int .i64 zz12), (Value.int .i64 zz13), (Sl.v zzx), (Sl.v zz10), (Sl.v zzz)]) ∧ stw vw10 a1 [(Value.string zzy), (Value.int .i64 zz11), (Value.int .i64 zz12), (Value.int .i64 zz13), (Sl.v zzx), (Sl.v zz10), (Sl.v zzz)] fun vw12=>∃ (zz1h : ByteArray) (zz1l : Int) (zz1m : Int) (zz1n : Int) (zz1e : Sl) (zz1k : Sl) (zz1i : Sl), ldc vw12 a1 [(Value.string zz1h), (Value.int .i64 zz1l), (Value.int .i64 zz1m), (Value.int .i64 zz1n), (Sl.v zz1e), (Sl.v zz1k), (Sl.v zz1i)] ∧ R zz1h zz1l zz1m zz1n zz1e zz1k zz1i t18b vw12
set_option maxHeartbeats 8000000 in
theorem catalog_Catalog_Get.sound (c : Option Addr) (name : ByteArray) (zz0 : Int) (zz1 : Int) (zz2 : Int) (w : World) (R : ByteArray → Int → Int → Int → Sl → Sl → Sl → Bool → World → Prop) (h : catalog_Catalog_Get c name zz0 zz1 zz2 w R) : callS Tryz.prog 22 [(Value.pointer c), (Value.string name), (Value.agg #[(Value.int .i64 zz0), (Value.int .i64 zz1), (Value.int .i64 zz2)])] w (fun v w'=>∃ (r0 : ByteArray) (r1 : Int) (r2 : Int) (r3 : Int) (r4 : Sl) (r5 : Sl) (r6 : Sl) (r7 : Bool), v = (Value.tuple #[(Value.agg #[(Value.string r0), (Value.int .i64 r1), (Value.int .i64 r2), (Value.int .i64 r3), (Sl.v r4), (Sl.v r5), (Sl.v r6)]), (Value.bool r7)]) ∧ R r0 r1 r2 r3 r4 r5 r6 r7 w') := by
 unfold catalog_Catalog_Get at h
 refine calls_of_vc 24 rfl Tryz.func22 rfl (by kernel_rfl) (by simp) ?_
 refine Vc.seq ?_
 refine Vc.region ?_
 refine vcL_eff rfl (opVC_new rfl (fun a=>Value.pointer (some a)) (by kernel_rfl) (newS.mono h fun a vw hx h=>?_))
 refine vcL_eff rfl (opVC_new rfl (fun a=>Value.pointer (some a)) (by kernel_rfl) (newS.mono h fun a1 vw2 hx h=>?_))
 refine vcL_pure rfl rfl (Value.bool false) (fun w=>by kernel_rfl) ?_
 refine vcL_nil ?_
 refine Vc.seq ?_
 obtain ⟨vw3, hvw3⟩ : ∃ y, y = vw2.drew := ⟨_, rfl⟩
 have h := h vw3 hvw3
 refine Vc.draw (by kernel_rfl) (fun i=>!(memN [12] i)) (.pur 0 (.pur 1 (.pur 2 (.val 3 (.pur 4 (.val 5 (.pur 6 (.val 7 (.pur 8 (.pur 9 (.pur 10 (.eff 11 (.eff 12 (.pur 13 .fin) .stop) .stop)))))))))))) (by kernel_rfl) ?_
 rw [← hvw3]
 clear hvw3
 refine vcS_pure rfl rfl rfl (Value.pointer c) (fun w=>by kernel_rfl) ?_
 obtain ⟨p, hp, h⟩ := h
 refine vcS_pure rfl rfl rfl (Value.pointer (some p)) (fun w=>by exact exec_nilCheck rfl (by kernel_rfl) (hp) w) ?_
 refine vcS_pure rfl rfl rfl (Value.pointer (some p)) (fun w=>by kernel_rfl) ?_
 obtain ⟨t14, hc, h⟩ := h
 refine vcS_val rfl rfl rfl (Value.map t14) (fun w' hx=>exec_load rfl (by kernel_rfl) (run_load1 (fun w=>by kernel_rfl) ((hc).ext hx))) ?_
 refine vcS_pure rfl rfl rfl (Value.string name) (fun w=>by kernel_rfl) ?_
 obtain ⟨zz3k, zz3l, zz3m, hc4, h⟩ := h
 refine vcS_val rfl rfl rfl (Value.agg #[(Value.int .i64 zz3k), (Value.int .i64 zz3l), (Value.int .i64 zz3m)]) (fun w' hx=>exec_load rfl (by kernel_rfl) (run_loadN (fun w=>by kernel_rfl) (fun w=>by kernel_rfl) ((hc4).ext hx))) ?_
 refine vcS_pure rfl rfl rfl (Value.agg #[(Value.string name), (Value.int .i64 zz3k), (Value.int .i64 zz3l), (Value.int .i64 zz3m)]) (fun w=>by kernel_rfl) ?_
 obtain ⟨zzr, zzu, zzv, zzw, zzq, zzt, zzs, t18b, hl, h⟩ := h
 refine vcS_val rfl rfl rfl (Value.tuple #[(Value.agg #[(Value.string zzr), (Value.int .i64 zzu), (Value.int .i64 zzv), (Value.int .i64 zzw), (Sl.v zzq), (Sl.v zzt), (Sl.v zzs)]), (Value.bool t18b)]) (fun w' hx=>exec_sem (c := Instr.lookup 101 (Value.map t14) (Value.agg #[(Value.string name), (Value.int .i64 zz3k), (Value.int .i64 zz3l), (Value.int .i64 zz3m)]) true) (by kernel_rfl) ((hl) _ hx)) ?_
 refine vcS_pure rfl rfl rfl (Value.tuple #[(Value.agg #[(Value.string zzr), (Value.int .i64 zzu), (Value.int .i64 zzv), (Value.int .i64 zzw), (Sl.v zzq), (Sl.v zzt), (Sl.v zzs)]), (Value.bool t18b)]) (fun w=>by kernel_rfl) ?_
 refine vcS_pure rfl rfl rfl (Value.agg #[(Value.string zzr), (Value.int .i64 zzu), (Value.int .i64 zzv), (Value.int .i64 zzw), (Sl.v zzq), (Sl.v zzt), (Sl.v zzs)]) (fun w=>by kernel_rfl) ?_
 refine vcS_pure rfl rfl rfl (Value.bool t18b) (fun w=>by kernel_rfl) ?_
 refine vcS_eff rfl rfl (opVC_new rfl (fun a=>Value.pointer (some a)) (by kernel_rfl) (newS.mono h fun a6 vw7 hx h=>?_)) vcS_stop
 refine ⟨fun _ => hx, ?_⟩
 refine vcS_eff rfl rfl (opVC_store rfl rfl (a := a6) (by kernel_rfl) (v := (Value.agg #[(Value.string zzr), (Value.int .i64 zzu), (Value.int .i64 zzv), (Value.int .i64 zzw), (Sl.v zzq), (Sl.v zzt), (Sl.v zzs)])) (by kernel_rfl) [(Value.string zzr), (Value.int .i64 zzu), (Value.int .i64 zzv), (Value.int .i64 zzw), (Sl.v zzq), (Sl.v zzt), (Sl.v zzs)] (by kernel_rfl) (fun w=>by kernel_rfl) (by kernel_rfl) (stw.mono h fun vw8 h=>?_)) vcS_stop
 refine ⟨fun hb=>absurd hb (by decide), ?_⟩
 refine vcS_pure rfl rfl rfl (Value.bool t18b) (fun w=>by kernel_rfl) ?_
 refine vcS_fin ?_
 refine Vc.seq ?_
 refine Vc.region ?_
 obtain ⟨zz53, zz57, zz58, zz59, zz50, zz56, zz54, hc9, h⟩ := h
 refine vcL_val rfl rfl (Value.agg #[(Value.string zz53), (Value.int .i64 zz57), (Value.int .i64 zz58), (Value.int .i64 zz59), (Sl.v zz50), (Sl.v zz56), (Sl.v zz54)]) (exec_load rfl (by kernel_rfl) (run_loadN (fun w=>by kernel_rfl) (fun w=>by kernel_rfl) ((hc9)))) ?_
 refine vcL_eff rfl (opVC_call rfl (by kernel_rfl) (callS.mono h fun v11 vw10 h=>?_))
 obtain ⟨zzy, zz11, zz12, zz13, zzx, zz10, zzz, rfl, h⟩ := h
 refine vcL_pure rfl rfl (Value.bool t18b) (fun w=>by kernel_rfl) ?_
 refine vcL_eff rfl (opVC_store rfl rfl (a := a1) (by kernel_rfl) (v := (Value.agg #[(Value.string zzy), (Value.int .i64 zz11), (Value.int .i64 zz12), (Value.int .i64 zz13), (Sl.v zzx), (Sl.v zz10), (Sl.v zzz)])) (by kernel_rfl) [(Value.string zzy), (Value.int .i64 zz11), (Value.int .i64 zz12), (Value.int .i64 zz13), (Sl.v zzx), (Sl.v zz10), (Sl.v zzz)] (by kernel_rfl) (fun w=>by kernel_rfl) (by kernel_rfl) (stw.mono h fun vw12 h=>?_))
 refine vcL_pure rfl rfl (Value.bool t18b) (fun w=>by kernel_rfl) ?_
 refine vcL_nil ?_
 refine Vc.ret ?_
 refine outs_ret ?_
 obtain ⟨zz1h, zz1l, zz1m, zz1n, zz1e, zz1k, zz1i, hc13, h⟩ := h
 refine done_mk (Value.tuple #[(Value.agg #[(Value.string zz1h), (Value.int .i64 zz1l), (Value.int .i64 zz1m), (Value.int .i64 zz1n), (Sl.v zz1e), (Sl.v zz1k), (Sl.v zz1i)]), (Value.bool t18b)]) (res2 (resC_cell (by kernel_rfl) (run_loadN (fun w=>by kernel_rfl) (fun w=>by kernel_rfl) hc13)) (resC_tmp (by kernel_rfl))) ?_
 exact ⟨zz1h, zz1l, zz1m, zz1n, zz1e, zz1k, zz1i, t18b, rfl, h⟩
theorem catalog_Catalog_Get.go {c : Option Addr} {name : ByteArray} {zz0 : Int} {zz1 : Int} {zz2 : Int} {w : World} {k : Value → World → Prop} (h : catalog_Catalog_Get c name zz0 zz1 zz2 w fun r0 r1 r2 r3 r4 r5 r6 r7 w'=>k (Value.tuple #[(Value.agg #[(Value.string r0), (Value.int .i64 r1), (Value.int .i64 r2), (Value.int .i64 r3), (Sl.v r4), (Sl.v r5), (Sl.v r6)]), (Value.bool r7)]) w') : callS Tryz.prog 22 [(Value.pointer c), (Value.string name), (Value.agg #[(Value.int .i64 zz0), (Value.int .i64 zz1), (Value.int .i64 zz2)])] w k := (catalog_Catalog_Get.sound c name zz0 zz1 zz2 w _ h).mono (by rintro _ _ ⟨r0, r1, r2, r3, r4, r5, r6, r7, rfl, h⟩; exact h)
def catalog_Catalog_Versions (c : Option Addr) (name : ByteArray) (w : World) (R : Sl → World → Prop) : Prop :=
 ∃ (p : Addr), (c = some p) ∧ ∃ (t10 : Option Nat), (ldc w p [(Value.map t10)]) ∧ semS Tryz.prog (Instr.range 101 (Value.map t10)) w fun v vw=>∃ (it : Addr), v = (Value.pointer (some it)) ∧ loop1 Sl.nil vw fun out vw1 nxt=>semS Tryz.prog (Instr.next (Value.pointer (some it)) false 0) vw1 fun v3 vw2=>∃ (ok : Bool) (key_name : ByteArray) (zzg : Int) (zzh : Int) (zzi : Int) (zzk : ByteArray) (zzn : Int) (zzo : Int) (zzp : Int) (zzj : Sl) (zzm : Sl) (zzl : Sl), v3 = nextV ok (Value.agg #[(Value.string key_name), (Value.int .i64 zzg), (Value.int .i64 zzh), (Value.int .i64 zzi)]) (Value.agg #[(Value.string zzk), (Value.int .i64 zzn), (Value.int .i64 zzo), (Value.int .i64 zzp), (Sl.v zzj), (Sl.v zzm), (Sl.v zzl)]) ∧ ((ok = true → ∃ (key_name4 : ByteArray) (zz1b : Int) (zz1c : Int) (zz1d : Int) (zz1p : ByteArray) (zz1s : Int) (zz1t : Int) (zz1u : Int) (zz1o : Sl) (zz1r : Sl) (zz1q : Sl), (stabS Tryz.prog (Instr.entry (Value.pointer (some it))) vw2 (Value.tuple #[(Value.agg #[(Value.string key_name4), (Value.int .i64 zz1b), (Value.int .i64 zz1c), (Value.int .i64 zz1d)]), (Value.agg #[(Value.string zz1p), (Value.int .i64 zz1s), (Value.int .i64 zz1t), (Value.int .i64 zz1u), (Sl.v zz1o), (Sl.v zz1r), (Sl.v zz1q)])])) ∧ newS vw2 [(Value.string (ByteArray.mk #[])), (Value.int .i64 0), (Value.int .i64 0), (Value.int .i64 0)] 106 fun a vw15=>stw vw15 a [(Value.string key_name4), (Value.int .i64 zz1b), (Value.int .i64 zz1c), (Value.int .i64 zz1d)] fun vw16=>∃ (t17 : ByteArray), (ldc vw16 a [(Value.string t17)]) ∧ ((t17 = name → ∃ (zz5a : Int) (zz5b : Int) (zz5c : Int), (ldc vw16 (a.add 1) [(Value.int .i64 zz5a), (Value.int .i64 zz5b), (Value.int .i64 zz5c)]) ∧ newS vw16 [(Value.int .i64 zz5a), (Value.int .i64 zz5b), (Value.int .i64 zz5c)] 30 fun a19 vw20=>appS Tryz.prog 60 60 out (Sl.v (Sl.mk (some a19) 1 1)) vw20 fun t24 vw21=>nxt t24 vw21) ∧ (¬ (t17 = name) → nxt out vw16))) ∧ (ok = false → callS Tryz.prog 64 [(Sl.v out), (Value.func (.func 65) #[] #[])] vw2 fun v23 vw22=>v23 = (Value.tuple #[]) ∧ callS Tryz.prog 66 [(Sl.v out)] vw22 fun v25 vw24=>∃ (t28 : Sl), v25 = (Sl.v t28) ∧ R t28 vw24))
set_option maxHeartbeats 8000000 in
theorem catalog_Catalog_Versions.sound (c : Option Addr) (name : ByteArray) (w : World) (R : Sl → World → Prop) (h : catalog_Catalog_Versions c name w R) : callS Tryz.prog 26 [(Value.pointer c), (Value.string name)] w (fun v w'=>∃ (r0 : Sl), v = (Sl.v r0) ∧ R r0 w') := by
 unfold catalog_Catalog_Versions at h
 refine calls_of_vc 29 rfl Tryz.func26 rfl (by kernel_rfl) (by simp) ?_
 refine Vc.seq ?_
 refine Vc.region ?_
 refine vcL_pure rfl rfl (Sl.v Sl.nil) (fun w=>by kernel_rfl) ?_
 refine vcL_nil ?_
 refine Vc.seq ?_
 refine Vc.region ?_
 refine vcL_pure rfl rfl (Sl.v Sl.nil) (fun w=>by kernel_rfl) ?_
 refine vcL_nil ?_
 refine Vc.seq ?_
 refine Vc.seq ?_
 refine Vc.region ?_
 refine vcL_pure rfl rfl (Value.pointer c) (fun w=>by kernel_rfl) ?_
 obtain ⟨p, hp, h⟩ := h
 refine vcL_pure rfl rfl (Value.pointer (some p)) (fun w=>by exact exec_nilCheck rfl (by kernel_rfl) (hp) w) ?_
 refine vcL_pure rfl rfl (Value.pointer (some p)) (fun w=>by kernel_rfl) ?_
 obtain ⟨t10, hc, h⟩ := h
 refine vcL_val rfl rfl (Value.map t10) (exec_load rfl (by kernel_rfl) (run_load1 (fun w=>by kernel_rfl) ((hc)))) ?_
 refine vcL_eff rfl (opVC_sem rfl (c := Instr.range 101 (Value.map t10)) (by kernel_rfl) (semS.mono h fun v vw h=>?_))
 obtain ⟨it, rfl, h⟩ := h
 refine vcL_nil ?_
 refine Vc.block ?_
 obtain ⟨vI, mu, h, hr⟩ := h
 refine Vc.loopJ (σ := Sl) [5] [6, 12, 13, 14, 15, 16, 17, 18, 19, 20, 21, 22, 23, 24] (fun s=>[(5, (Sl.v s))]) (fun s w=>vI s w) (fun s w=>mu s w) Sl.nil h (fun _ => rfl) (by kernel_rfl) ?_
 intro out vw1 j h
 have h := hr out vw1 h
 refine Vc.seq ?_
 refine Vc.region ?_
 refine vcL_eff rfl (opVC_sem rfl (c := Instr.next (Value.pointer (some it)) false 0) (by kernel_rfl) (semS.mono h fun v3 vw2 h=>?_))
 obtain ⟨ok, key_name, zzg, zzh, zzi, zzk, zzn, zzo, zzp, zzj, zzm, zzl, rfl, h⟩ := h
 refine vcL_pure rfl rfl (Value.bool ok) (fun w=>by cases ok <;> kernel_rfl) ?_
 refine vcL_nil ?_
 refine Vc.seq ?_
 refine Vc.cond ok (by kernel_rfl) (fun hb=>?_) (fun hb=>?_)
 ·have hq := h.1 (hb)
  clear h
  subst hb
  have h := hq
  clear hq
  refine Vc.skip ?_
  refine Vc.block ?_
  refine Vc.seq ?_
  refine Vc.region ?_
  obtain ⟨key_name4, zz1b, zz1c, zz1d, zz1p, zz1s, zz1t, zz1u, zz1o, zz1r, zz1q, hl, h⟩ := h
  refine vcL_val rfl rfl (Value.tuple #[(Value.agg #[(Value.string key_name4), (Value.int .i64 zz1b), (Value.int .i64 zz1c), (Value.int .i64 zz1d)]), (Value.agg #[(Value.string zz1p), (Value.int .i64 zz1s), (Value.int .i64 zz1t), (Value.int .i64 zz1u), (Sl.v zz1o), (Sl.v zz1r), (Sl.v zz1q)])]) (exec_sem (c := Instr.entry (Value.pointer (some it))) (by kernel_rfl) ((hl) _ (Ext.refl _))) ?_
  refine vcL_pure rfl rfl (Value.agg #[(Value.string key_name4), (Value.int .i64 zz1b), (Value.int .i64 zz1c), (Value.int .i64 zz1d)]) (fun w=>by kernel_rfl) ?_
  refine vcL_eff rfl (opVC_new rfl (fun a=>Value.pointer (some a)) (by kernel_rfl) (newS.mono h fun a vw15 hx h=>?_))
  refine vcL_eff rfl (opVC_store rfl rfl (a := a) (by kernel_rfl) (v := (Value.agg #[(Value.string key_name4), (Value.int .i64 zz1b), (Value.int .i64 zz1c), (Value.int .i64 zz1d)])) (by kernel_rfl) [(Value.string key_name4), (Value.int .i64 zz1b), (Value.int .i64 zz1c), (Value.int .i64 zz1d)] (by kernel_rfl) (fun w=>by kernel_rfl) (by kernel_rfl) (stw.mono h fun vw16 h=>?_))
  refine vcL_nil ?_
  refine Vc.seq ?_
  refine Vc.region ?_
  refine vcL_pure rfl rfl (Value.pointer (some a)) (fun w=>by kernel_rfl) ?_
  obtain ⟨t17, hc17, h⟩ := h
  refine vcL_val rfl rfl (Value.string t17) (exec_load rfl (by kernel_rfl) (run_load1 (fun w=>by kernel_rfl) ((hc17)))) ?_
  refine vcL_purs 2 [(19, (Value.bool (bEq t17 name))), (18, (Value.string name))] (by kernel_rfl) ?_
  refine vcL_nil ?_
  refine Vc.cond (bEq t17 name) (by kernel_rfl) (fun hb=>?_) (fun hb=>?_)
  ·have h := h.1 (bEq_iff.1 hb)
   refine Vc.region ?_
   refine vcL_purs 2 [(21, (Value.pointer (some (a.add 1)))), (20, (Sl.v out))] (by kernel_rfl) ?_
   obtain ⟨zz5a, zz5b, zz5c, hc18, h⟩ := h
   refine vcL_val rfl rfl (Value.agg #[(Value.int .i64 zz5a), (Value.int .i64 zz5b), (Value.int .i64 zz5c)]) (exec_load rfl (by kernel_rfl) (run_loadN (fun w=>by kernel_rfl) (fun w=>by kernel_rfl) ((hc18)))) ?_
   refine vcL_eff rfl (opVC_new rfl (fun a=>Value.slice (some a) 1 1) (by kernel_rfl) (newS.mono h fun a19 vw20 hx h=>?_))
   refine vcL_eff rfl (opVC_sem rfl (c := Builtin.append_ #[60, 60] 60 #[(Sl.v out), (Sl.v (Sl.mk (some a19) 1 1))]) (by kernel_rfl) (appS.elim (ty := 60) h fun t24 vw21 h=>?_))
   refine vcL_pure rfl rfl (Sl.v t24) (fun w=>by kernel_rfl) ?_
   refine vcL_nil ?_
   exact ⟨t24, 30, ⟨rfl, by kernel_rfl, by kernel_rfl, by kernel_rfl⟩, h⟩
  ·have h := h.2 (bEq_false.1 hb)
   refine Vc.skip ?_
   exact ⟨out, 24, ⟨rfl, by kernel_rfl, by kernel_rfl, by kernel_rfl⟩, h⟩
 ·have hq := h.2 (hb)
  clear h
  subst hb
  have h := hq
  clear hq
  refine Vc.exit ?_
  refine outOf_hit ?_
  refine Vc.seq ?_
  refine Vc.region ?_
  refine vcL_pure rfl rfl (Sl.v out) (fun w=>by kernel_rfl) ?_
  refine vcL_eff rfl (opVC_call rfl (by kernel_rfl) (callS.mono h fun v23 vw22 h=>?_))
  obtain ⟨rfl, h⟩ := h
  refine vcL_nil ?_
  refine Vc.seq ?_
  refine Vc.region ?_
  refine vcL_pure rfl rfl (Sl.v out) (fun w=>by kernel_rfl) ?_
  refine vcL_eff rfl (opVC_call rfl (by kernel_rfl) (callS.mono h fun v25 vw24 h=>?_))
  obtain ⟨t28, rfl, h⟩ := h
  refine vcL_pure rfl rfl (Sl.v t28) (fun w=>by kernel_rfl) ?_
  refine vcL_nil ?_
  refine Vc.ret ?_
  refine outs_ret ?_
  refine done_mk (Sl.v t28) (res1 (resC_tmp (by kernel_rfl))) ?_
  exact ⟨t28, rfl, h⟩
theorem catalog_Catalog_Versions.go {c : Option Addr} {name : ByteArray} {w : World} {k : Value → World → Prop} (h : catalog_Catalog_Versions c name w fun r0 w'=>k (Sl.v r0) w') : callS Tryz.prog 26 [(Value.pointer c), (Value.string name)] w k := (catalog_Catalog_Versions.sound c name w _ h).mono (by rintro _ _ ⟨r0, rfl, h⟩; exact h)
def catalog_Catalog_Candidates (c : Option Addr) (name : ByteArray) (l : Sl) (pins : Sl) (w : World) (R : Sl → World → Prop) : Prop :=
 newS w [(Value.string name)] 9 fun a vw=>newS vw [(Sl.v l)] 53 fun a1 vw2=>newS vw2 [(Sl.v pins)] 28 fun a3 vw4=>∃ (t11 : ByteArray), (ldc vw4 a [(Value.string t11)]) ∧ callS Tryz.prog 26 [(Value.pointer c), (Value.string t11)] vw4 fun v vw5=>∃ (t12 : Sl), v = (Sl.v t12) ∧ callS Tryz.prog 67 [(Sl.v t12), (Value.func (.func 68) #[] #[(Value.pointer (some a1))])] vw5 fun v7 vw6=>∃ (t14 : Sl), v7 = (Sl.v t14) ∧ callS Tryz.prog 69 [(Sl.v t14), (Value.func (.func 70) #[] #[(Value.pointer (some a3)), (Value.pointer (some a))])] vw6 fun v10 vw9=>v10 = (Value.tuple #[]) ∧ callS Tryz.prog 66 [(Sl.v t14)] vw9 fun v13 vw12=>∃ (t19 : Sl), v13 = (Sl.v t19) ∧ R t19 vw12
set_option maxHeartbeats 8000000 in
theorem catalog_Catalog_Candidates.sound (c : Option Addr) (name : ByteArray) (l : Sl) (pins : Sl) (w : World) (R : Sl → World → Prop) (h : catalog_Catalog_Candidates c name l pins w R) : callS Tryz.prog 28 [(Value.pointer c), (Value.string name), (Sl.v l), (Sl.v pins)] w (fun v w'=>∃ (r0 : Sl), v = (Sl.v r0) ∧ R r0 w') := by
 unfold catalog_Catalog_Candidates at h
 refine calls_of_vc 20 rfl Tryz.func28 rfl (by kernel_rfl) (by simp) ?_
 refine Vc.seq ?_
 refine Vc.region ?_
 refine vcL_eff rfl (opVC_new rfl (fun a=>Value.pointer (some a)) (by kernel_rfl) (newS.mono h fun a vw hx h=>?_))
 refine vcL_eff rfl (opVC_new rfl (fun a=>Value.pointer (some a)) (by kernel_rfl) (newS.mono h fun a1 vw2 hx h=>?_))
 refine vcL_eff rfl (opVC_new rfl (fun a=>Value.pointer (some a)) (by kernel_rfl) (newS.mono h fun a3 vw4 hx h=>?_))
 refine vcL_pure rfl rfl (Sl.v Sl.nil) (fun w=>by kernel_rfl) ?_
 refine vcL_nil ?_
 refine Vc.seq ?_
 refine Vc.region ?_
 refine vcL_pure rfl rfl (Value.pointer c) (fun w=>by kernel_rfl) ?_
 obtain ⟨t11, hc, h⟩ := h
 refine vcL_val rfl rfl (Value.string t11) (exec_load rfl (by kernel_rfl) (run_load1 (fun w=>by kernel_rfl) ((hc)))) ?_
 refine vcL_eff rfl (opVC_call rfl (by kernel_rfl) (callS.mono h fun v vw5 h=>?_))
 obtain ⟨t12, rfl, h⟩ := h
 refine vcL_pure rfl rfl (Value.func (.func 68) #[] #[(Value.pointer (some a1))]) (fun w=>by kernel_rfl) ?_
 refine vcL_eff rfl (opVC_call rfl (by kernel_rfl) (callS.mono h fun v7 vw6 h=>?_))
 obtain ⟨t14, rfl, h⟩ := h
 refine vcL_pure rfl rfl (Sl.v t14) (fun w=>by kernel_rfl) ?_
 refine vcL_nil ?_
 refine Vc.seq ?_
 refine Vc.region ?_
 refine vcL_purs 2 [(16, (Value.func (.func 70) #[] #[(Value.pointer (some a3)), (Value.pointer (some a))])), (15, (Sl.v t14))] (by kernel_rfl) ?_
 refine vcL_eff rfl (opVC_call rfl (by kernel_rfl) (callS.mono h fun v10 vw9 h=>?_))
 obtain ⟨rfl, h⟩ := h
 refine vcL_nil ?_
 refine Vc.seq ?_
 refine Vc.region ?_
 refine vcL_pure rfl rfl (Sl.v t14) (fun w=>by kernel_rfl) ?_
 refine vcL_eff rfl (opVC_call rfl (by kernel_rfl) (callS.mono h fun v13 vw12 h=>?_))
 obtain ⟨t19, rfl, h⟩ := h
 refine vcL_pure rfl rfl (Sl.v t19) (fun w=>by kernel_rfl) ?_
 refine vcL_nil ?_
 refine Vc.ret ?_
 refine outs_ret ?_
 refine done_mk (Sl.v t19) (res1 (resC_tmp (by kernel_rfl))) ?_
 exact ⟨t19, rfl, h⟩
theorem catalog_Catalog_Candidates.go {c : Option Addr} {name : ByteArray} {l : Sl} {pins : Sl} {w : World} {k : Value → World → Prop} (h : catalog_Catalog_Candidates c name l pins w fun r0 w'=>k (Sl.v r0) w') : callS Tryz.prog 28 [(Value.pointer c), (Value.string name), (Sl.v l), (Sl.v pins)] w k := (catalog_Catalog_Candidates.sound c name l pins w _ h).mono (by rintro _ _ ⟨r0, rfl, h⟩; exact h)
def catalog_Catalog_All (c : Option Addr) (w : World) (R : Sl → World → Prop) : Prop :=
 ∃ (p : Addr), (c = some p) ∧ ∃ (t9 : Option Nat), (ldc w p [(Value.map t9)]) ∧ semS Tryz.prog (Instr.range 101 (Value.map t9)) w fun v vw=>∃ (it : Addr), v = (Value.pointer (some it)) ∧ loop1 Sl.nil vw fun out vw1 nxt=>semS Tryz.prog (Instr.next (Value.pointer (some it)) false 0) vw1 fun v3 vw2=>∃ (ok : Bool) (key_name : ByteArray) (zzg : Int) (zzh : Int) (zzi : Int) (zzk : ByteArray) (zzn : Int) (zzo : Int) (zzp : Int) (zzj : Sl) (zzm : Sl) (zzl : Sl), v3 = nextV ok (Value.agg #[(Value.string key_name), (Value.int .i64 zzg), (Value.int .i64 zzh), (Value.int .i64 zzi)]) (Value.agg #[(Value.string zzk), (Value.int .i64 zzn), (Value.int .i64 zzo), (Value.int .i64 zzp), (Sl.v zzj), (Sl.v zzm), (Sl.v zzl)]) ∧ ((ok = true → ∃ (key_name4 : ByteArray) (zz1b : Int) (zz1c : Int) (zz1d : Int) (zz1p : ByteArray) (zz1s : Int) (zz1t : Int) (zz1u : Int) (zz1o : Sl) (zz1r : Sl) (zz1q : Sl), (stabS Tryz.prog (Instr.entry (Value.pointer (some it))) vw2 (Value.tuple #[(Value.agg #[(Value.string key_name4), (Value.int .i64 zz1b), (Value.int .i64 zz1c), (Value.int .i64 zz1d)]), (Value.agg #[(Value.string zz1p), (Value.int .i64 zz1s), (Value.int .i64 zz1t), (Value.int .i64 zz1u), (Sl.v zz1o), (Sl.v zz1r), (Sl.v zz1q)])])) ∧ newS vw2 [(Value.string (ByteArray.mk #[])), (Value.int .i64 0), (Value.int .i64 0), (Value.int .i64 0), (Sl.v Sl.nil), (Sl.v Sl.nil), (Sl.v Sl.nil)] 48 fun a vw15=>stw vw15 a [(Value.string zz1p), (Value.int .i64 zz1s), (Value.int .i64 zz1t), (Value.int .i64 zz1u), (Sl.v zz1o), (Sl.v zz1r), (Sl.v zz1q)] fun vw16=>∃ (zz4o : ByteArray) (zz4r : Int) (zz4s : Int) (zz4t : Int) (zz4n : Sl) (zz4q : Sl) (zz4p : Sl), (ldc vw16 a [(Value.string zz4o), (Value.int .i64 zz4r), (Value.int .i64 zz4s), (Value.int .i64 zz4t), (Sl.v zz4n), (Sl.v zz4q), (Sl.v zz4p)]) ∧ callS Tryz.prog 62 [(Value.agg #[(Value.string zz4o), (Value.int .i64 zz4r), (Value.int .i64 zz4s), (Value.int .i64 zz4t), (Sl.v zz4n), (Sl.v zz4q), (Sl.v zz4p)])] vw16 fun v19 vw18=>∃ (zz62 : ByteArray) (zz65 : Int) (zz66 : Int) (zz67 : Int) (zz61 : Sl) (zz64 : Sl) (zz63 : Sl), v19 = (Value.agg #[(Value.string zz62), (Value.int .i64 zz65), (Value.int .i64 zz66), (Value.int .i64 zz67), (Sl.v zz61), (Sl.v zz64), (Sl.v zz63)]) ∧ newS vw18 [(Value.string zz62), (Value.int .i64 zz65), (Value.int .i64 zz66), (Value.int .i64 zz67), (Sl.v zz61), (Sl.v zz64), (Sl.v zz63)] 48 fun a20 vw21=>appS Tryz.prog 22 22 out (Sl.v (Sl.mk (some a20) 1 1)) vw21 fun t19 vw22=>nxt t19 vw22) ∧ (ok = false → callS Tryz.prog 74 [(Sl.v out), (Value.func (.func 75) #[] #[])] vw2 fun v24 vw23=>v24 = (Value.tuple #[]) ∧ callS Tryz.prog 78 [(Sl.v out)] vw23 fun v27 vw26=>∃ (t23 : Sl), v27 = (Sl.v t23) ∧ R t23 vw26))
set_option maxHeartbeats 8000000 in
theorem catalog_Catalog_All.sound (c : Option Addr) (w : World) (R : Sl → World → Prop) (h : catalog_Catalog_All c w R) : callS Tryz.prog 31 [(Value.pointer c)] w (fun v w'=>∃ (r0 : Sl), v = (Sl.v r0) ∧ R r0 w') := by
 unfold catalog_Catalog_All at h
 refine calls_of_vc 24 rfl Tryz.func31 rfl (by kernel_rfl) (by simp) ?_
 refine Vc.seq ?_
 refine Vc.region ?_
 refine vcL_pure rfl rfl (Sl.v Sl.nil) (fun w=>by kernel_rfl) ?_
 refine vcL_nil ?_
 refine Vc.seq ?_
 refine Vc.region ?_
 refine vcL_pure rfl rfl (Sl.v Sl.nil) (fun w=>by kernel_rfl) ?_
 refine vcL_nil ?_
 refine Vc.seq ?_
 refine Vc.seq ?_
 refine Vc.region ?_
 refine vcL_pure rfl rfl (Value.pointer c) (fun w=>by kernel_rfl) ?_
 obtain ⟨p, hp, h⟩ := h
 refine vcL_pure rfl rfl (Value.pointer (some p)) (fun w=>by exact exec_nilCheck rfl (by kernel_rfl) (hp) w) ?_
 refine vcL_pure rfl rfl (Value.pointer (some p)) (fun w=>by kernel_rfl) ?_
 obtain ⟨t9, hc, h⟩ := h
 refine vcL_val rfl rfl (Value.map t9) (exec_load rfl (by kernel_rfl) (run_load1 (fun w=>by kernel_rfl) ((hc)))) ?_
 refine vcL_eff rfl (opVC_sem rfl (c := Instr.range 101 (Value.map t9)) (by kernel_rfl) (semS.mono h fun v vw h=>?_))
 obtain ⟨it, rfl, h⟩ := h
 refine vcL_nil ?_
 refine Vc.block ?_
 obtain ⟨vI, mu, h, hr⟩ := h
 refine Vc.loopJ (σ := Sl) [3] [5, 11, 12, 13, 14, 15, 16, 17, 18, 19] (fun s=>[(3, (Sl.v s))]) (fun s w=>vI s w) (fun s w=>mu s w) Sl.nil h (fun _ => rfl) (by kernel_rfl) ?_
 intro out vw1 j h
 have h := hr out vw1 h
 refine Vc.seq ?_
 refine Vc.region ?_
 refine vcL_eff rfl (opVC_sem rfl (c := Instr.next (Value.pointer (some it)) false 0) (by kernel_rfl) (semS.mono h fun v3 vw2 h=>?_))
 obtain ⟨ok, key_name, zzg, zzh, zzi, zzk, zzn, zzo, zzp, zzj, zzm, zzl, rfl, h⟩ := h
 refine vcL_pure rfl rfl (Value.bool ok) (fun w=>by cases ok <;> kernel_rfl) ?_
 refine vcL_nil ?_
 refine Vc.seq ?_
 refine Vc.cond ok (by kernel_rfl) (fun hb=>?_) (fun hb=>?_)
 ·have hq := h.1 (hb)
  clear h
  subst hb
  have h := hq
  clear hq
  refine Vc.skip ?_
  refine Vc.block ?_
  refine Vc.seq ?_
  refine Vc.region ?_
  obtain ⟨key_name4, zz1b, zz1c, zz1d, zz1p, zz1s, zz1t, zz1u, zz1o, zz1r, zz1q, hl, h⟩ := h
  refine vcL_val rfl rfl (Value.tuple #[(Value.agg #[(Value.string key_name4), (Value.int .i64 zz1b), (Value.int .i64 zz1c), (Value.int .i64 zz1d)]), (Value.agg #[(Value.string zz1p), (Value.int .i64 zz1s), (Value.int .i64 zz1t), (Value.int .i64 zz1u), (Sl.v zz1o), (Sl.v zz1r), (Sl.v zz1q)])]) (exec_sem (c := Instr.entry (Value.pointer (some it))) (by kernel_rfl) ((hl) _ (Ext.refl _))) ?_
  refine vcL_pure rfl rfl (Value.agg #[(Value.string zz1p), (Value.int .i64 zz1s), (Value.int .i64 zz1t), (Value.int .i64 zz1u), (Sl.v zz1o), (Sl.v zz1r), (Sl.v zz1q)]) (fun w=>by kernel_rfl) ?_
  refine vcL_eff rfl (opVC_new rfl (fun a=>Value.pointer (some a)) (by kernel_rfl) (newS.mono h fun a vw15 hx h=>?_))
  refine vcL_eff rfl (opVC_store rfl rfl (a := a) (by kernel_rfl) (v := (Value.agg #[(Value.string zz1p), (Value.int .i64 zz1s), (Value.int .i64 zz1t), (Value.int .i64 zz1u), (Sl.v zz1o), (Sl.v zz1r), (Sl.v zz1q)])) (by kernel_rfl) [(Value.string zz1p), (Value.int .i64 zz1s), (Value.int .i64 zz1t), (Value.int .i64 zz1u), (Sl.v zz1o), (Sl.v zz1r), (Sl.v zz1q)] (by kernel_rfl) (fun w=>by kernel_rfl) (by kernel_rfl) (stw.mono h fun vw16 h=>?_))
  refine vcL_nil ?_
  refine Vc.region ?_
  refine vcL_pure rfl rfl (Sl.v out) (fun w=>by kernel_rfl) ?_
  obtain ⟨zz4o, zz4r, zz4s, zz4t, zz4n, zz4q, zz4p, hc17, h⟩ := h
  refine vcL_val rfl rfl (Value.agg #[(Value.string zz4o), (Value.int .i64 zz4r), (Value.int .i64 zz4s), (Value.int .i64 zz4t), (Sl.v zz4n), (Sl.v zz4q), (Sl.v zz4p)]) (exec_load rfl (by kernel_rfl) (run_loadN (fun w=>by kernel_rfl) (fun w=>by kernel_rfl) ((hc17)))) ?_
  refine vcL_eff rfl (opVC_call rfl (by kernel_rfl) (callS.mono h fun v19 vw18 h=>?_))
  obtain ⟨zz62, zz65, zz66, zz67, zz61, zz64, zz63, rfl, h⟩ := h
  refine vcL_eff rfl (opVC_new rfl (fun a=>Value.slice (some a) 1 1) (by kernel_rfl) (newS.mono h fun a20 vw21 hx h=>?_))
  refine vcL_eff rfl (opVC_sem rfl (c := Builtin.append_ #[22, 22] 22 #[(Sl.v out), (Sl.v (Sl.mk (some a20) 1 1))]) (by kernel_rfl) (appS.elim (ty := 22) h fun t19 vw22 h=>?_))
  refine vcL_pure rfl rfl (Sl.v t19) (fun w=>by kernel_rfl) ?_
  refine vcL_nil ?_
  exact ⟨t19, 22, ⟨rfl, by kernel_rfl, by kernel_rfl, by kernel_rfl⟩, h⟩
 ·have hq := h.2 (hb)
  clear h
  subst hb
  have h := hq
  clear hq
  refine Vc.exit ?_
  refine outOf_hit ?_
  refine Vc.seq ?_
  refine Vc.region ?_
  refine vcL_pure rfl rfl (Sl.v out) (fun w=>by kernel_rfl) ?_
  refine vcL_eff rfl (opVC_call rfl (by kernel_rfl) (callS.mono h fun v24 vw23 h=>?_))
  obtain ⟨rfl, h⟩ := h
  refine vcL_nil ?_
  refine Vc.seq ?_
  refine Vc.region ?_
  refine vcL_pure rfl rfl (Sl.v out) (fun w=>by kernel_rfl) ?_
  refine vcL_eff rfl (opVC_call rfl (by kernel_rfl) (callS.mono h fun v27 vw26 h=>?_))
  obtain ⟨t23, rfl, h⟩ := h
  refine vcL_pure rfl rfl (Sl.v t23) (fun w=>by kernel_rfl) ?_
  refine vcL_nil ?_
  refine Vc.ret ?_
  refine outs_ret ?_
  refine done_mk (Sl.v t23) (res1 (resC_tmp (by kernel_rfl))) ?_
  exact ⟨t23, rfl, h⟩
theorem catalog_Catalog_All.go {c : Option Addr} {w : World} {k : Value → World → Prop} (h : catalog_Catalog_All c w fun r0 w'=>k (Sl.v r0) w') : callS Tryz.prog 31 [(Value.pointer c)] w k := (catalog_Catalog_All.sound c w _ h).mono (by rintro _ _ ⟨r0, rfl, h⟩; exact h)
def halyardref02_At (n : Int) (w : World) (R : Int → Int → Int → Bool → World → Prop) : Prop :=
 newS w [(Value.int .i64 0), (Value.int .i64 0), (Value.int .i64 0)] 30 fun a vw=>bnd (decide (n < 0)) fun (b : Bool)=>(((b || (decide (999999999 < n))) = true → stw vw a [(Value.int .i64 0), (Value.int .i64 0), (Value.int .i64 0)] fun vw1=>∃ (zz1f : Int) (zz1g : Int) (zz1j : Int), ldc vw1 a [(Value.int .i64 zz1f), (Value.int .i64 zz1g), (Value.int .i64 zz1j)] ∧ R zz1f zz1g zz1j false vw1) ∧ ((b || (decide (999999999 < n))) = false → stw vw a [(Value.int .i64 (wrapI (n.tdiv 1000000))), (Value.int .i64 (Int.tmod (wrapI (n.tdiv 1000)) 1000)), (Value.int .i64 (Int.tmod n 1000))] fun vw2=>∃ (zz3z : Int) (zz40 : Int) (zz41 : Int), ldc vw2 a [(Value.int .i64 zz3z), (Value.int .i64 zz40), (Value.int .i64 zz41)] ∧ R zz3z zz40 zz41 true vw2))
set_option maxHeartbeats 8000000 in
theorem halyardref02_At.sound (n : Int) (w : World) (R : Int → Int → Int → Bool → World → Prop) (h : halyardref02_At n w R) : callS Tryz.prog 35 [(Value.int .i64 n)] w (fun v w'=>∃ (r0 : Int) (r1 : Int) (r2 : Int) (r3 : Bool), v = (Value.tuple #[(Value.agg #[(Value.int .i64 r0), (Value.int .i64 r1), (Value.int .i64 r2)]), (Value.bool r3)]) ∧ R r0 r1 r2 r3 w') := by
 unfold halyardref02_At at h
 refine calls_of_vc 19 rfl Tryz.func35 rfl (by kernel_rfl) (by simp) ?_
 refine Vc.seq ?_
 refine Vc.region ?_
 refine vcL_eff rfl (opVC_new rfl (fun a=>Value.pointer (some a)) (by kernel_rfl) (newS.mono h fun a vw hx h=>?_))
 refine vcL_pure rfl rfl (Value.bool false) (fun w=>by kernel_rfl) ?_
 refine vcL_nil ?_
 refine Vc.seq ?_
 refine Vc.seq ?_
 refine Vc.region ?_
 refine vcL_purs 2 [(5, (Value.bool (decide (n < 0)))), (4, (Value.int .i64 n))] (by kernel_rfl) ?_
 obtain ⟨b, hb⟩ : ∃ y, y = (decide (n < 0)) := ⟨_, rfl⟩
 have h := h b hb
 refine vcL_pure rfl rfl (Value.bool b) (fun w=>by rw [hb]; kernel_rfl) ?_
 refine vcL_guardP (!b) (wanted_g (d := 6) rfl (by kernel_rfl) b (by kernel_rfl) (!b) (eqF b)) rfl (Value.int .i64 n) (fun hg w=>by simp only [Bool.and_eq_true, Bool.not_eq_true'] at hg; obtain rfl := hg; kernel_rfl) ?_
 refine vcL_guardP (!b) (wanted_g (d := 6) rfl (by kernel_rfl) b (by kernel_rfl) (!b) (eqF b)) rfl (Value.bool (decide (999999999 < n))) (fun hg w=>by simp only [Bool.and_eq_true, Bool.not_eq_true'] at hg; obtain rfl := hg; kernel_rfl) ?_
 refine vcL_pure rfl rfl (Value.bool (b || (decide (999999999 < n)))) (fun w=>by cases b <;> kernel_rfl) ?_
 refine vcL_nil ?_
 refine Vc.cond (b || (decide (999999999 < n))) (by kernel_rfl) (fun hb=>?_) (fun hb=>?_)
 ·have h := h.1 (hb)
  refine Vc.seq ?_
  refine Vc.region ?_
  refine vcL_pure rfl rfl (Value.agg #[(Value.int .i64 0), (Value.int .i64 0), (Value.int .i64 0)]) (fun w=>by kernel_rfl) ?_
  refine vcL_eff rfl (opVC_store rfl rfl (a := a) (by kernel_rfl) (v := (Value.agg #[(Value.int .i64 0), (Value.int .i64 0), (Value.int .i64 0)])) (by kernel_rfl) [(Value.int .i64 0), (Value.int .i64 0), (Value.int .i64 0)] (by kernel_rfl) (fun w=>by kernel_rfl) (by kernel_rfl) (stw.mono h fun vw1 h=>?_))
  refine vcL_pure rfl rfl (Value.bool false) (fun w=>by kernel_rfl) ?_
  refine vcL_nil ?_
  refine Vc.ret ?_
  refine outs_ret ?_
  obtain ⟨zz1f, zz1g, zz1j, hc, h⟩ := h
  refine done_mk (Value.tuple #[(Value.agg #[(Value.int .i64 zz1f), (Value.int .i64 zz1g), (Value.int .i64 zz1j)]), (Value.bool false)]) (res2 (resC_cell (by kernel_rfl) (run_loadN (fun w=>by kernel_rfl) (fun w=>by kernel_rfl) hc)) (resC_tmp (by kernel_rfl))) ?_
  exact ⟨zz1f, zz1g, zz1j, false, rfl, h⟩
 ·have h := h.2 (hb)
  refine Vc.skip ?_
  refine Vc.seq ?_
  refine Vc.region ?_
  refine vcL_purs 8 [(18, (Value.agg #[(Value.int .i64 (wrapI (n.tdiv 1000000))), (Value.int .i64 (Int.tmod (wrapI (n.tdiv 1000)) 1000)), (Value.int .i64 (Int.tmod n 1000))])), (17, (Value.int .i64 (Int.tmod n 1000))), (16, (Value.int .i64 n)), (15, (Value.int .i64 (Int.tmod (wrapI (n.tdiv 1000)) 1000))), (14, (Value.int .i64 (wrapI (n.tdiv 1000)))), (13, (Value.int .i64 n)), (12, (Value.int .i64 (wrapI (n.tdiv 1000000)))), (11, (Value.int .i64 n))] (by kernel_rfl) ?_
  refine vcL_eff rfl (opVC_store rfl rfl (a := a) (by kernel_rfl) (v := (Value.agg #[(Value.int .i64 (wrapI (n.tdiv 1000000))), (Value.int .i64 (Int.tmod (wrapI (n.tdiv 1000)) 1000)), (Value.int .i64 (Int.tmod n 1000))])) (by kernel_rfl) [(Value.int .i64 (wrapI (n.tdiv 1000000))), (Value.int .i64 (Int.tmod (wrapI (n.tdiv 1000)) 1000)), (Value.int .i64 (Int.tmod n 1000))] (by kernel_rfl) (fun w=>by kernel_rfl) (by kernel_rfl) (stw.mono h fun vw2 h=>?_))
  refine vcL_pure rfl rfl (Value.bool true) (fun w=>by kernel_rfl) ?_
  refine vcL_nil ?_
  refine Vc.ret ?_
  refine outs_ret ?_
  obtain ⟨zz3z, zz40, zz41, hc6, h⟩ := h
  refine done_mk (Value.tuple #[(Value.agg #[(Value.int .i64 zz3z), (Value.int .i64 zz40), (Value.int .i64 zz41)]), (Value.bool true)]) (res2 (resC_cell (by kernel_rfl) (run_loadN (fun w=>by kernel_rfl) (fun w=>by kernel_rfl) hc6)) (resC_tmp (by kernel_rfl))) ?_
  exact ⟨zz3z, zz40, zz41, true, rfl, h⟩
theorem halyardref02_At.go {n : Int} {w : World} {k : Value → World → Prop} (h : halyardref02_At n w fun r0 r1 r2 r3 w'=>k (Value.tuple #[(Value.agg #[(Value.int .i64 r0), (Value.int .i64 r1), (Value.int .i64 r2)]), (Value.bool r3)]) w') : callS Tryz.prog 35 [(Value.int .i64 n)] w k := (halyardref02_At.sound n w _ h).mono (by rintro _ _ ⟨r0, r1, r2, r3, rfl, h⟩; exact h)
def span_Meet (a : Sl) (b : Sl) (w : World) (R : Sl → Int → World → Prop) : Prop :=
 callS Tryz.prog 91 [(Sl.v a)] w fun v vw=>∃ (t7 : Bool), v = (Value.bool t7) ∧ bnd (!t7) fun (b1 : Bool)=>gCall (!b1) (fun (t11 : Bool) (vw2 : World)=>(((b1 || (!t11)) = true → R Sl.nil 21 vw2) ∧ ((b1 || (!t11)) = false → callS Tryz.prog 94 [(Sl.v a)] vw2 fun v6 vw5=>∃ (t15 : Sl), v6 = (Sl.v t15) ∧ callS Tryz.prog 94 [(Sl.v b)] vw5 fun v9 vw8=>∃ (t17 : Sl), v9 = (Sl.v t17) ∧ callS Tryz.prog 93 [(Sl.v t15), (Sl.v t17)] vw8 fun v12 vw11=>∃ (t18 : Sl), v12 = (Sl.v t18) ∧ callS Tryz.prog 92 [(Sl.v t18)] vw11 fun v15 vw14=>∃ (t19 : Sl) (t19b : Int), v15 = (Value.tuple #[(Sl.v t19), (Value.int .i64 t19b)]) ∧ R t19 t19b vw14))) (fun q=>callS Tryz.prog 91 [(Sl.v b)] vw fun v3 vw2=>∃ (t11 : Bool), v3 = (Value.bool t11) ∧ q t11 vw2) (fun q=>q false vw)
set_option maxHeartbeats 8000000 in
theorem span_Meet.sound (a : Sl) (b : Sl) (w : World) (R : Sl → Int → World → Prop) (h : span_Meet a b w R) : callS Tryz.prog 47 [(Sl.v a), (Sl.v b)] w (fun v w'=>∃ (r0 : Sl) (r1 : Int), v = (Value.tuple #[(Sl.v r0), (Value.int .i64 r1)]) ∧ R r0 r1 w') := by
 unfold span_Meet at h
 refine calls_of_vc 22 rfl Tryz.func47 rfl (by kernel_rfl) (by simp) ?_
 refine Vc.seq ?_
 refine Vc.region ?_
 refine vcL_purs 2 [(5, (Value.int .i64 0)), (4, (Sl.v Sl.nil))] (by kernel_rfl) ?_
 refine vcL_nil ?_
 refine Vc.seq ?_
 refine Vc.seq ?_
 refine Vc.region ?_
 refine vcL_pure rfl rfl (Sl.v a) (fun w=>by kernel_rfl) ?_
 refine vcL_eff rfl (opVC_call rfl (by kernel_rfl) (callS.mono h fun v vw h=>?_))
 obtain ⟨t7, rfl, h⟩ := h
 refine vcL_pure rfl rfl (Value.bool (!t7)) (fun w=>by kernel_rfl) ?_
 obtain ⟨b1, hb1⟩ : ∃ y, y = (!t7) := ⟨_, rfl⟩
 have h := h b1 hb1
 refine vcL_pure rfl rfl (Value.bool b1) (fun w=>by rw [hb1]; kernel_rfl) ?_
 refine vcL_guardP (!b1) (wanted_g (d := 9) rfl (by kernel_rfl) b1 (by kernel_rfl) (!b1) (eqF b1)) rfl (Sl.v b) (fun hg w=>by simp only [Bool.and_eq_true, Bool.not_eq_true'] at hg; obtain rfl := hg; kernel_rfl) ?_
 obtain ⟨vJ, hJ, h⟩ := gCall_elim h
 refine vcL_effJ (σ := Bool) (!b1) (wanted_g (d := 9) rfl (by kernel_rfl) b1 (by kernel_rfl) (!b1) (eqF b1)) rfl (fun s w=>vJ s w) (fun s=>(Value.bool s)) ?_ (fun hg=>opVC_call rfl (by simp only [Bool.and_eq_true, Bool.not_eq_true'] at hg; obtain rfl := hg; kernel_rfl) (callS.mono (h.1 hg) fun v3 vw2 hq=>?_)) (fun hg=>⟨false, h.2 hg⟩)
 ·intro t11 vw2 h
  subst hJ
  refine vcL_guardP (!b1) (wanted_g (d := 9) rfl (by kernel_rfl) b1 (by kernel_rfl) (!b1) (eqF b1)) rfl (Value.bool (!t11)) (fun hg w=>by simp only [Bool.and_eq_true, Bool.not_eq_true'] at hg; obtain rfl := hg; kernel_rfl) ?_
  refine vcL_pure rfl rfl (Value.bool (b1 || (!t11))) (fun w=>by cases b1 <;> kernel_rfl) ?_
  refine vcL_nil ?_
  refine Vc.cond (b1 || (!t11)) (by kernel_rfl) (fun hb=>?_) (fun hb=>?_)
  ·have h := h.1 (hb)
   refine Vc.seq ?_
   refine Vc.region ?_
   refine vcL_purs 2 [(5, (Value.int .i64 21)), (4, (Sl.v Sl.nil))] (by kernel_rfl) ?_
   refine vcL_nil ?_
   refine Vc.ret ?_
   refine outs_ret ?_
   refine done_mk (Value.tuple #[(Sl.v Sl.nil), (Value.int .i64 21)]) (res2 (resC_tmp (by kernel_rfl)) (resC_tmp (by kernel_rfl))) ?_
   exact ⟨Sl.nil, 21, rfl, h⟩
  ·have h := h.2 (hb)
   refine Vc.skip ?_
   refine Vc.seq ?_
   refine Vc.region ?_
   refine vcL_pure rfl rfl (Sl.v a) (fun w=>by kernel_rfl) ?_
   refine vcL_eff rfl (opVC_call rfl (by kernel_rfl) (callS.mono h fun v6 vw5 h=>?_))
   obtain ⟨t15, rfl, h⟩ := h
   refine vcL_pure rfl rfl (Sl.v b) (fun w=>by kernel_rfl) ?_
   refine vcL_eff rfl (opVC_call rfl (by kernel_rfl) (callS.mono h fun v9 vw8 h=>?_))
   obtain ⟨t17, rfl, h⟩ := h
   refine vcL_eff rfl (opVC_call rfl (by kernel_rfl) (callS.mono h fun v12 vw11 h=>?_))
   obtain ⟨t18, rfl, h⟩ := h
   refine vcL_eff rfl (opVC_call rfl (by kernel_rfl) (callS.mono h fun v15 vw14 h=>?_))
   obtain ⟨t19, t19b, rfl, h⟩ := h
   refine vcL_purs 4 [(5, (Value.int .i64 t19b)), (4, (Sl.v t19)), (21, (Value.int .i64 t19b)), (20, (Sl.v t19))] (by kernel_rfl) ?_
   refine vcL_nil ?_
   refine Vc.ret ?_
   refine outs_ret ?_
   refine done_mk (Value.tuple #[(Sl.v t19), (Value.int .i64 t19b)]) (res2 (resC_tmp (by kernel_rfl)) (resC_tmp (by kernel_rfl))) ?_
   exact ⟨t19, t19b, rfl, h⟩
 ·obtain ⟨t11, rfl, hq⟩ := hq
  exact ⟨t11, rfl, hq⟩
theorem span_Meet.go {a : Sl} {b : Sl} {w : World} {k : Value → World → Prop} (h : span_Meet a b w fun r0 r1 w'=>k (Value.tuple #[(Sl.v r0), (Value.int .i64 r1)]) w') : callS Tryz.prog 47 [(Sl.v a), (Sl.v b)] w k := (span_Meet.sound a b w _ h).mono (by rintro _ _ ⟨r0, r1, rfl, h⟩; exact h)
def span_Join (a : Sl) (b : Sl) (w : World) (R : Sl → Int → World → Prop) : Prop :=
 callS Tryz.prog 91 [(Sl.v a)] w fun v vw=>∃ (t7 : Bool), v = (Value.bool t7) ∧ bnd (!t7) fun (b1 : Bool)=>gCall (!b1) (fun (t11 : Bool) (vw2 : World)=>(((b1 || (!t11)) = true → R Sl.nil 21 vw2) ∧ ((b1 || (!t11)) = false → callS Tryz.prog 94 [(Sl.v a)] vw2 fun v6 vw5=>∃ (t15 : Sl), v6 = (Sl.v t15) ∧ callS Tryz.prog 94 [(Sl.v b)] vw5 fun v9 vw8=>∃ (t17 : Sl), v9 = (Sl.v t17) ∧ appS Tryz.prog 130 130 t15 (Sl.v t17) vw8 fun t18 vw11=>callS Tryz.prog 95 [(Sl.v t18)] vw11 fun v13 vw12=>∃ (t19 : Sl), v13 = (Sl.v t19) ∧ callS Tryz.prog 92 [(Sl.v t19)] vw12 fun v16 vw15=>∃ (t20 : Sl) (t20b : Int), v16 = (Value.tuple #[(Sl.v t20), (Value.int .i64 t20b)]) ∧ R t20 t20b vw15))) (fun q=>callS Tryz.prog 91 [(Sl.v b)] vw fun v3 vw2=>∃ (t11 : Bool), v3 = (Value.bool t11) ∧ q t11 vw2) (fun q=>q false vw)
set_option maxHeartbeats 8000000 in
theorem span_Join.sound (a : Sl) (b : Sl) (w : World) (R : Sl → Int → World → Prop) (h : span_Join a b w R) : callS Tryz.prog 48 [(Sl.v a), (Sl.v b)] w (fun v w'=>∃ (r0 : Sl) (r1 : Int), v = (Value.tuple #[(Sl.v r0), (Value.int .i64 r1)]) ∧ R r0 r1 w') := by
 unfold span_Join at h
 refine calls_of_vc 23 rfl Tryz.func48 rfl (by kernel_rfl) (by simp) ?_
 refine Vc.seq ?_
 refine Vc.region ?_
 refine vcL_purs 2 [(5, (Value.int .i64 0)), (4, (Sl.v Sl.nil))] (by kernel_rfl) ?_
 refine vcL_nil ?_
 refine Vc.seq ?_
 refine Vc.seq ?_
 refine Vc.region ?_
 refine vcL_pure rfl rfl (Sl.v a) (fun w=>by kernel_rfl) ?_
 refine vcL_eff rfl (opVC_call rfl (by kernel_rfl) (callS.mono h fun v vw h=>?_))
 obtain ⟨t7, rfl, h⟩ := h
 refine vcL_pure rfl rfl (Value.bool (!t7)) (fun w=>by kernel_rfl) ?_
 obtain ⟨b1, hb1⟩ : ∃ y, y = (!t7) := ⟨_, rfl⟩
 have h := h b1 hb1
 refine vcL_pure rfl rfl (Value.bool b1) (fun w=>by rw [hb1]; kernel_rfl) ?_
 refine vcL_guardP (!b1) (wanted_g (d := 9) rfl (by kernel_rfl) b1 (by kernel_rfl) (!b1) (eqF b1)) rfl (Sl.v b) (fun hg w=>by simp only [Bool.and_eq_true, Bool.not_eq_true'] at hg; obtain rfl := hg; kernel_rfl) ?_
 obtain ⟨vJ, hJ, h⟩ := gCall_elim h
 refine vcL_effJ (σ := Bool) (!b1) (wanted_g (d := 9) rfl (by kernel_rfl) b1 (by kernel_rfl) (!b1) (eqF b1)) rfl (fun s w=>vJ s w) (fun s=>(Value.bool s)) ?_ (fun hg=>opVC_call rfl (by simp only [Bool.and_eq_true, Bool.not_eq_true'] at hg; obtain rfl := hg; kernel_rfl) (callS.mono (h.1 hg) fun v3 vw2 hq=>?_)) (fun hg=>⟨false, h.2 hg⟩)
 ·intro t11 vw2 h
  subst hJ
  refine vcL_guardP (!b1) (wanted_g (d := 9) rfl (by kernel_rfl) b1 (by kernel_rfl) (!b1) (eqF b1)) rfl (Value.bool (!t11)) (fun hg w=>by simp only [Bool.and_eq_true, Bool.not_eq_true'] at hg; obtain rfl := hg; kernel_rfl) ?_
  refine vcL_pure rfl rfl (Value.bool (b1 || (!t11))) (fun w=>by cases b1 <;> kernel_rfl) ?_
  refine vcL_nil ?_
  refine Vc.cond (b1 || (!t11)) (by kernel_rfl) (fun hb=>?_) (fun hb=>?_)
  ·have h := h.1 (hb)
   refine Vc.seq ?_
   refine Vc.region ?_
   refine vcL_purs 2 [(5, (Value.int .i64 21)), (4, (Sl.v Sl.nil))] (by kernel_rfl) ?_
   refine vcL_nil ?_
   refine Vc.ret ?_
   refine outs_ret ?_
   refine done_mk (Value.tuple #[(Sl.v Sl.nil), (Value.int .i64 21)]) (res2 (resC_tmp (by kernel_rfl)) (resC_tmp (by kernel_rfl))) ?_
   exact ⟨Sl.nil, 21, rfl, h⟩
  ·have h := h.2 (hb)
   refine Vc.skip ?_
   refine Vc.seq ?_
   refine Vc.region ?_
   refine vcL_pure rfl rfl (Sl.v a) (fun w=>by kernel_rfl) ?_
   refine vcL_eff rfl (opVC_call rfl (by kernel_rfl) (callS.mono h fun v6 vw5 h=>?_))
   obtain ⟨t15, rfl, h⟩ := h
   refine vcL_pure rfl rfl (Sl.v b) (fun w=>by kernel_rfl) ?_
   refine vcL_eff rfl (opVC_call rfl (by kernel_rfl) (callS.mono h fun v9 vw8 h=>?_))
   obtain ⟨t17, rfl, h⟩ := h
   refine vcL_eff rfl (opVC_sem rfl (c := Builtin.append_ #[130, 130] 130 #[(Sl.v t15), (Sl.v t17)]) (by kernel_rfl) (appS.elim (ty := 130) h fun t18 vw11 h=>?_))
   refine vcL_eff rfl (opVC_call rfl (by kernel_rfl) (callS.mono h fun v13 vw12 h=>?_))
   obtain ⟨t19, rfl, h⟩ := h
   refine vcL_eff rfl (opVC_call rfl (by kernel_rfl) (callS.mono h fun v16 vw15 h=>?_))
   obtain ⟨t20, t20b, rfl, h⟩ := h
   refine vcL_purs 4 [(5, (Value.int .i64 t20b)), (4, (Sl.v t20)), (22, (Value.int .i64 t20b)), (21, (Sl.v t20))] (by kernel_rfl) ?_
   refine vcL_nil ?_
   refine Vc.ret ?_
   refine outs_ret ?_
   refine done_mk (Value.tuple #[(Sl.v t20), (Value.int .i64 t20b)]) (res2 (resC_tmp (by kernel_rfl)) (resC_tmp (by kernel_rfl))) ?_
   exact ⟨t20, t20b, rfl, h⟩
 ·obtain ⟨t11, rfl, hq⟩ := hq
  exact ⟨t11, rfl, hq⟩
theorem span_Join.go {a : Sl} {b : Sl} {w : World} {k : Value → World → Prop} (h : span_Join a b w fun r0 r1 w'=>k (Value.tuple #[(Sl.v r0), (Value.int .i64 r1)]) w') : callS Tryz.prog 48 [(Sl.v a), (Sl.v b)] w k := (span_Join.sound a b w _ h).mono (by rintro _ _ ⟨r0, r1, rfl, h⟩; exact h)
def halyardref03_All (w : World) (R : Sl → World → Prop) : Prop :=
 callS Tryz.prog 96 [(Value.int .i64 0)] w fun v vw=>∃ (zz4x : Int) (zz4y : Int) (zz4z : Int), v = (Value.agg #[(Value.int .i64 zz4x), (Value.int .i64 zz4y), (Value.int .i64 zz4z)]) ∧ callS Tryz.prog 96 [(Value.int .i64 999999999)] vw fun v2 vw1=>∃ (zz5d : Int) (zz5e : Int) (zz5f : Int), v2 = (Value.agg #[(Value.int .i64 zz5d), (Value.int .i64 zz5e), (Value.int .i64 zz5f)]) ∧ newS vw1 [(Value.int .i64 zz4x), (Value.int .i64 zz4y), (Value.int .i64 zz4z), (Value.int .i64 zz5d), (Value.int .i64 zz5e), (Value.int .i64 zz5f)] 83 fun a vw4=>R (Sl.mk (some a) 1 1) vw4
set_option maxHeartbeats 8000000 in
theorem halyardref03_All.sound (w : World) (R : Sl → World → Prop) (h : halyardref03_All w R) : callS Tryz.prog 49 [] w (fun v w'=>∃ (r0 : Sl), v = (Sl.v r0) ∧ R r0 w') := by
 unfold halyardref03_All at h
 refine calls_of_vc 5 rfl Tryz.func49 rfl (by kernel_rfl) (by simp) ?_
 refine Vc.seq ?_
 refine Vc.region ?_
 refine vcL_pure rfl rfl (Sl.v Sl.nil) (fun w=>by kernel_rfl) ?_
 refine vcL_nil ?_
 refine Vc.seq ?_
 refine Vc.region ?_
 refine vcL_eff rfl (opVC_call rfl (by kernel_rfl) (callS.mono h fun v vw h=>?_))
 obtain ⟨zz4x, zz4y, zz4z, rfl, h⟩ := h
 refine vcL_eff rfl (opVC_call rfl (by kernel_rfl) (callS.mono h fun v2 vw1 h=>?_))
 obtain ⟨zz5d, zz5e, zz5f, rfl, h⟩ := h
 refine vcL_pure rfl rfl (Value.agg #[(Value.int .i64 zz4x), (Value.int .i64 zz4y), (Value.int .i64 zz4z), (Value.int .i64 zz5d), (Value.int .i64 zz5e), (Value.int .i64 zz5f)]) (fun w=>by kernel_rfl) ?_
 refine vcL_eff rfl (opVC_new rfl (fun a=>Value.slice (some a) 1 1) (by kernel_rfl) (newS.mono h fun a vw4 hx h=>?_))
 refine vcL_pure rfl rfl (Sl.v (Sl.mk (some a) 1 1)) (fun w=>by kernel_rfl) ?_
 refine vcL_nil ?_
 refine Vc.ret ?_
 refine outs_ret ?_
 refine done_mk (Sl.v (Sl.mk (some a) 1 1)) (res1 (resC_tmp (by kernel_rfl))) ?_
 exact ⟨(Sl.mk (some a) 1 1), rfl, h⟩
theorem halyardref03_All.go {w : World} {k : Value → World → Prop} (h : halyardref03_All w fun r0 w'=>k (Sl.v r0) w') : callS Tryz.prog 49 [] w k := (halyardref03_All.sound w _ h).mono (by rintro _ _ ⟨r0, rfl, h⟩; exact h)
def span_In (l : Sl) (zz0 : Int) (zz1 : Int) (zz2 : Int) (w : World) (R : Bool → World → Prop) : Prop :=
 newS w [(Value.int .i64 zz0), (Value.int .i64 zz1), (Value.int .i64 zz2)] 30 fun a vw=>callS Tryz.prog 91 [(Sl.v l)] vw fun v vw1=>∃ (t6 : Bool), v = (Value.bool t6) ∧ ∃ (zz27 : Int) (zz28 : Int) (zz29 : Int), grd t6 (ldc vw1 a [(Value.int .i64 zz27), (Value.int .i64 zz28), (Value.int .i64 zz29)]) ∧ gCall t6 (fun (t9 : Bool) (vw2 : World)=>bnd (t6 && t9) fun (b : Bool)=>gCall b (fun (t14 : Bool) (vw5 : World)=>R (b && t14) vw5) (fun q=>callS Tryz.prog 98 [(Sl.v l), (Value.func (.func 99) #[] #[(Value.pointer (some a))])] vw2 fun v6 vw5=>∃ (t14 : Bool), v6 = (Value.bool t14) ∧ q t14 vw5) (fun q=>q false vw2)) (fun q=>callS Tryz.prog 97 [(Value.agg #[(Value.int .i64 zz27), (Value.int .i64 zz28), (Value.int .i64 zz29)])] vw1 fun v3 vw2=>∃ (t9 : Bool), v3 = (Value.bool t9) ∧ q t9 vw2) (fun q=>q false vw1)
set_option maxHeartbeats 8000000 in
theorem span_In.sound (l : Sl) (zz0 : Int) (zz1 : Int) (zz2 : Int) (w : World) (R : Bool → World → Prop) (h : span_In l zz0 zz1 zz2 w R) : callS Tryz.prog 53 [(Sl.v l), (Value.agg #[(Value.int .i64 zz0), (Value.int .i64 zz1), (Value.int .i64 zz2)])] w (fun v w'=>∃ (r0 : Bool), v = (Value.bool r0) ∧ R r0 w') := by
 unfold span_In at h
 refine calls_of_vc 16 rfl Tryz.func53 rfl (by kernel_rfl) (by simp) ?_
 refine Vc.seq ?_
 refine Vc.region ?_
 refine vcL_eff rfl (opVC_new rfl (fun a=>Value.pointer (some a)) (by kernel_rfl) (newS.mono h fun a vw hx h=>?_))
 refine vcL_pure rfl rfl (Value.bool false) (fun w=>by kernel_rfl) ?_
 refine vcL_nil ?_
 refine Vc.seq ?_
 refine Vc.region ?_
 refine vcL_pure rfl rfl (Sl.v l) (fun w=>by kernel_rfl) ?_
 refine vcL_eff rfl (opVC_call rfl (by kernel_rfl) (callS.mono h fun v vw1 h=>?_))
 obtain ⟨t6, rfl, h⟩ := h
 refine vcL_pure rfl rfl (Value.bool t6) (fun w=>by kernel_rfl) ?_
 obtain ⟨zz27, zz28, zz29, hc, h⟩ := h
 refine vcL_guard t6 (wanted_g (d := 7) rfl (by kernel_rfl) t6 (by kernel_rfl) t6 (eqT t6)) rfl (Value.agg #[(Value.int .i64 zz27), (Value.int .i64 zz28), (Value.int .i64 zz29)]) (fun hg=>by subst hg; exact exec_load rfl (by kernel_rfl) (run_loadN (fun w=>by kernel_rfl) (fun w=>by kernel_rfl) ((hc rfl)))) ?_
 obtain ⟨vJ, hJ, h⟩ := gCall_elim h
 refine vcL_effJ (σ := Bool) t6 (wanted_g (d := 7) rfl (by kernel_rfl) t6 (by kernel_rfl) t6 (eqT t6)) rfl (fun s w=>vJ s w) (fun s=>(Value.bool s)) ?_ (fun hg=>opVC_call rfl (by subst hg; kernel_rfl) (callS.mono (h.1 hg) fun v3 vw2 hq=>?_)) (fun hg=>⟨false, h.2 hg⟩)
 ·intro t9 vw2 h
  subst hJ
  refine vcL_pure rfl rfl (Value.bool (t6 && t9)) (fun w=>by cases t6 <;> kernel_rfl) ?_
  obtain ⟨b, hb⟩ : ∃ y, y = (t6 && t9) := ⟨_, rfl⟩
  have h := h b hb
  refine vcL_pure rfl rfl (Value.bool b) (fun w=>by rw [hb]; kernel_rfl) ?_
  refine vcL_guardP b (wanted_g (d := 11) rfl (by kernel_rfl) b (by kernel_rfl) b (eqT b)) rfl (Sl.v l) (fun hg w=>by subst hg; kernel_rfl) ?_
  refine vcL_guardP b (wanted_g (d := 11) rfl (by kernel_rfl) b (by kernel_rfl) b (eqT b)) rfl (Value.func (.func 99) #[] #[(Value.pointer (some a))]) (fun hg w=>by subst hg; kernel_rfl) ?_
  obtain ⟨vJ8, hJ9, h⟩ := gCall_elim h
  refine vcL_effJ (σ := Bool) b (wanted_g (d := 11) rfl (by kernel_rfl) b (by kernel_rfl) b (eqT b)) rfl (fun s w=>vJ8 s w) (fun s=>(Value.bool s)) ?_ (fun hg=>opVC_call rfl (by subst hg; kernel_rfl) (callS.mono (h.1 hg) fun v6 vw5 hq=>?_)) (fun hg=>⟨false, h.2 hg⟩)
  ·intro t14 vw5 h
   subst hJ9
   refine vcL_pure rfl rfl (Value.bool (b && t14)) (fun w=>by cases b <;> kernel_rfl) ?_
   refine vcL_pure rfl rfl (Value.bool (b && t14)) (fun w=>by kernel_rfl) ?_
   refine vcL_nil ?_
   refine Vc.ret ?_
   refine outs_ret ?_
   refine done_mk (Value.bool (b && t14)) (res1 (resC_tmp (by kernel_rfl))) ?_
   exact ⟨(b && t14), rfl, h⟩
  ·obtain ⟨t14, rfl, hq⟩ := hq
   exact ⟨t14, rfl, hq⟩
 ·obtain ⟨t9, rfl, hq⟩ := hq
  exact ⟨t9, rfl, hq⟩
theorem span_In.go {l : Sl} {zz0 : Int} {zz1 : Int} {zz2 : Int} {w : World} {k : Value → World → Prop} (h : span_In l zz0 zz1 zz2 w fun r0 w'=>k (Value.bool r0) w') : callS Tryz.prog 53 [(Sl.v l), (Value.agg #[(Value.int .i64 zz0), (Value.int .i64 zz1), (Value.int .i64 zz2)])] w k := (span_In.sound l zz0 zz1 zz2 w _ h).mono (by rintro _ _ ⟨r0, rfl, h⟩; exact h)
def pack_May (zz4 : ByteArray) (zz7 : Int) (zz8 : Int) (zz9 : Int) (zz3 : Sl) (zz6 : Sl) (zz5 : Sl) (w : World) (R : Bool → World → Prop) : Prop :=
 newS w [(Value.string zz4), (Value.int .i64 zz7), (Value.int .i64 zz8), (Value.int .i64 zz9), (Sl.v zz3), (Sl.v zz6), (Sl.v zz5)] 48 fun a vw=>∃ (t4 : ByteArray), (ldc vw a [(Value.string t4)]) ∧ callS Tryz.prog 104 [(Value.string t4)] vw fun v vw1=>∃ (t5 : Bool), v = (Value.bool t5) ∧ ∃ (zz27 : Int) (zz28 : Int) (zz29 : Int), grd t5 (ldc vw1 (a.add 1) [(Value.int .i64 zz27), (Value.int .i64 zz28), (Value.int .i64 zz29)]) ∧ gCall t5 (fun (t9 : Bool) (vw3 : World)=>bnd (t5 && t9) fun (b : Bool)=>∃ (t13 : Sl), grd b (ldc vw3 (a.add 4) [(Sl.v t13)]) ∧ gCall b (fun (t14 : Bool) (vw7 : World)=>bnd (b && t14) fun (b12 : Bool)=>∃ (t18 : Sl), grd b12 (ldc vw7 (a.add 5) [(Sl.v t18)]) ∧ gCall b12 (fun (t19 : Bool) (vw14 : World)=>bnd (b12 && t19) fun (b19 : Bool)=>∃ (t23 : Sl), grd b19 (ldc vw14 (a.add 6) [(Sl.v t23)]) ∧ gCall b19 (fun (t24 : Bool) (vw21 : World)=>bnd (b19 && t24) fun (b26 : Bool)=>∃ (t28 : Sl), grd b26 (ldc vw21 (a.add 4) [(Sl.v t28)]) ∧ ∃ (t30 : Sl), grd b26 (ldc vw21 (a.add 5) [(Sl.v t30)]) ∧ ∃ (t32 : Sl), grd b26 (ldc vw21 (a.add 6) [(Sl.v t32)]) ∧ gCall b26 (fun (a30 : Addr) (vw31 : World)=>gCall b26 (fun (t34 : Bool) (vw34 : World)=>bnd (b26 && t34) fun (b39 : Bool)=>∃ (zz15 : ByteArray) (zz18 : Int) (zz19 : Int) (zz1a : Int) (zz14 : Sl) (zz17 : Sl) (zz16 : Sl), grd b39 (ldc vw34 a [(Value.string zz15), (Value.int .i64 zz18), (Value.int .i64 zz19), (Value.int .i64 zz1a), (Sl.v zz14), (Sl.v zz17), (Sl.v zz16)]) ∧ gCall b39 (fun (t38 : ByteArray) (vw41 : World)=>R (b39 && (decide ((t38.size : Int) ≤ 4096))) vw41) (fun q=>callS Tryz.prog 107 [(Value.agg #[(Value.string zz15), (Value.int .i64 zz18), (Value.int .i64 zz19), (Value.int .i64 zz1a), (Sl.v zz14), (Sl.v zz17), (Sl.v zz16)])] vw34 fun v42 vw41=>∃ (t38 : ByteArray), v42 = (Value.string t38) ∧ q t38 vw41) (fun q=>q (ByteArray.mk #[]) vw34)) (fun q=>callS Tryz.prog 106 [(Sl.v (Sl.mk (some a30) 3 3))] vw31 fun v35 vw34=>∃ (t34 : Bool), v35 = (Value.bool t34) ∧ q t34 vw34) (fun q=>q false vw31)) (fun q=>newS vw21 [(Sl.v t28), (Sl.v t30), (Sl.v t32)] 23 q) (fun q=>q ⟨0, 0, none⟩ vw21)) (fun q=>callS Tryz.prog 105 [(Sl.v t23)] vw14 fun v22 vw21=>∃ (t24 : Bool), v22 = (Value.bool t24) ∧ q t24 vw21) (fun q=>q false vw14)) (fun q=>callS Tryz.prog 105 [(Sl.v t18)] vw7 fun v15 vw14=>∃ (t19 : Bool), v15 = (Value.bool t19) ∧ q t19 vw14) (fun q=>q false vw7)) (fun q=>callS Tryz.prog 105 [(Sl.v t13)] vw3 fun v8 vw7=>∃ (t14 : Bool), v8 = (Value.bool t14) ∧ q t14 vw7) (fun q=>q false vw3)) (fun q=>callS Tryz.prog 97 [(Value.agg #[(Value.int .i64 zz27), (Value.int .i64 zz28), (Value.int .i64 zz29)])] vw1 fun v4 vw3=>∃ (t9 : Bool), v4 = (Value.bool t9) ∧ q t9 vw3) (fun q=>q false vw1)
set_option maxHeartbeats 8000000 in
theorem pack_May.sound (zz4 : ByteArray) (zz7 : Int) (zz8 : Int) (zz9 : Int) (zz3 : Sl) (zz6 : Sl) (zz5 : Sl) (w : World) (R : Bool → World → Prop) (h : pack_May zz4 zz7 zz8 zz9 zz3 zz6 zz5 w R) : callS Tryz.prog 61 [(Value.agg #[(Value.string zz4), (Value.int .i64 zz7), (Value.int .i64 zz8), (Value.int .i64 zz9), (Sl.v zz3), (Sl.v zz6), (Sl.v zz5)])] w (fun v w'=>∃ (r0 : Bool), v = (Value.bool r0) ∧ R r0 w') := by
 unfold pack_May at h
 refine calls_of_vc 42 rfl Tryz.func61 rfl (by kernel_rfl) (by simp) ?_
 refine Vc.seq ?_
 refine Vc.region ?_
 refine vcL_eff rfl (opVC_new rfl (fun a=>Value.pointer (some a)) (by kernel_rfl) (newS.mono h fun a vw hx h=>?_))
 refine vcL_pure rfl rfl (Value.bool false) (fun w=>by kernel_rfl) ?_
 refine vcL_nil ?_
 refine Vc.seq ?_
 refine Vc.region ?_
 refine vcL_pure rfl rfl (Value.pointer (some a)) (fun w=>by kernel_rfl) ?_
 obtain ⟨t4, hc, h⟩ := h
 refine vcL_val rfl rfl (Value.string t4) (exec_load rfl (by kernel_rfl) (run_load1 (fun w=>by kernel_rfl) ((hc)))) ?_
 refine vcL_eff rfl (opVC_call rfl (by kernel_rfl) (callS.mono h fun v vw1 h=>?_))
 obtain ⟨t5, rfl, h⟩ := h
 refine vcL_pure rfl rfl (Value.bool t5) (fun w=>by kernel_rfl) ?_
 refine vcL_guardP t5 (wanted_g (d := 6) rfl (by kernel_rfl) t5 (by kernel_rfl) t5 (eqT t5)) rfl (Value.pointer (some (a.add 1))) (fun hg w=>by subst hg; kernel_rfl) ?_
 obtain ⟨zz27, zz28, zz29, hc2, h⟩ := h
 refine vcL_guard t5 (wanted_g (d := 6) rfl (by kernel_rfl) t5 (by kernel_rfl) t5 (eqT t5)) rfl (Value.agg #[(Value.int .i64 zz27), (Value.int .i64 zz28), (Value.int .i64 zz29)]) (fun hg=>by subst hg; exact exec_load rfl (by kernel_rfl) (run_loadN (fun w=>by kernel_rfl) (fun w=>by kernel_rfl) ((hc2 rfl)))) ?_
 obtain ⟨vJ, hJ, h⟩ := gCall_elim h
 refine vcL_effJ (σ := Bool) t5 (wanted_g (d := 6) rfl (by kernel_rfl) t5 (by kernel_rfl) t5 (eqT t5)) rfl (fun s w=>vJ s w) (fun s=>(Value.bool s)) ?_ (fun hg=>opVC_call rfl (by subst hg; kernel_rfl) (callS.mono (h.1 hg) fun v4 vw3 hq=>?_)) (fun hg=>⟨false, h.2 hg⟩)
 ·intro t9 vw3 h
  subst hJ
  refine vcL_pure rfl rfl (Value.bool (t5 && t9)) (fun w=>by cases t5 <;> kernel_rfl) ?_
  obtain ⟨b, hb⟩ : ∃ y, y = (t5 && t9) := ⟨_, rfl⟩
  have h := h b hb
  refine vcL_pure rfl rfl (Value.bool b) (fun w=>by rw [hb]; kernel_rfl) ?_
  refine vcL_guardP b (wanted_g (d := 11) rfl (by kernel_rfl) b (by kernel_rfl) b (eqT b)) rfl (Value.pointer (some (a.add 4))) (fun hg w=>by subst hg; kernel_rfl) ?_
  obtain ⟨t13, hc6, h⟩ := h
  refine vcL_guard b (wanted_g (d := 11) rfl (by kernel_rfl) b (by kernel_rfl) b (eqT b)) rfl (Sl.v t13) (fun hg=>by subst hg; exact exec_load rfl (by kernel_rfl) (run_load1 (fun w=>by kernel_rfl) ((hc6 rfl)))) ?_
  obtain ⟨vJ10, hJ11, h⟩ := gCall_elim h
  refine vcL_effJ (σ := Bool) b (wanted_g (d := 11) rfl (by kernel_rfl) b (by kernel_rfl) b (eqT b)) rfl (fun s w=>vJ10 s w) (fun s=>(Value.bool s)) ?_ (fun hg=>opVC_call rfl (by subst hg; kernel_rfl) (callS.mono (h.1 hg) fun v8 vw7 hq=>?_)) (fun hg=>⟨false, h.2 hg⟩)
  ·intro t14 vw7 h
   subst hJ11
   refine vcL_pure rfl rfl (Value.bool (b && t14)) (fun w=>by cases b <;> kernel_rfl) ?_
   obtain ⟨b12, hb12⟩ : ∃ y, y = (b && t14) := ⟨_, rfl⟩
   have h := h b12 hb12
   refine vcL_pure rfl rfl (Value.bool b12) (fun w=>by rw [hb12]; kernel_rfl) ?_
   refine vcL_guardP b12 (wanted_g (d := 16) rfl (by kernel_rfl) b12 (by kernel_rfl) b12 (eqT b12)) rfl (Value.pointer (some (a.add 5))) (fun hg w=>by subst hg; kernel_rfl) ?_
   obtain ⟨t18, hc13, h⟩ := h
   refine vcL_guard b12 (wanted_g (d := 16) rfl (by kernel_rfl) b12 (by kernel_rfl) b12 (eqT b12)) rfl (Sl.v t18) (fun hg=>by subst hg; exact exec_load rfl (by kernel_rfl) (run_load1 (fun w=>by kernel_rfl) ((hc13 rfl)))) ?_
   obtain ⟨vJ17, hJ18, h⟩ := gCall_elim h
   refine vcL_effJ (σ := Bool) b12 (wanted_g (d := 16) rfl (by kernel_rfl) b12 (by kernel_rfl) b12 (eqT b12)) rfl (fun s w=>vJ17 s w) (fun s=>(Value.bool s)) ?_ (fun hg=>opVC_call rfl (by subst hg; kernel_rfl) (callS.mono (h.1 hg) fun v15 vw14 hq=>?_)) (fun hg=>⟨false, h.2 hg⟩)
   ·intro t19 vw14 h
    subst hJ18
    refine vcL_pure rfl rfl (Value.bool (b12 && t19)) (fun w=>by cases b12 <;> kernel_rfl) ?_
    obtain ⟨b19, hb19⟩ : ∃ y, y = (b12 && t19) := ⟨_, rfl⟩
    have h := h b19 hb19
    refine vcL_pure rfl rfl (Value.bool b19) (fun w=>by rw [hb19]; kernel_rfl) ?_
    refine vcL_guardP b19 (wanted_g (d := 21) rfl (by kernel_rfl) b19 (by kernel_rfl) b19 (eqT b19)) rfl (Value.pointer (some (a.add 6))) (fun hg w=>by subst hg; kernel_rfl) ?_
    obtain ⟨t23, hc20, h⟩ := h
    refine vcL_guard b19 (wanted_g (d := 21) rfl (by kernel_rfl) b19 (by kernel_rfl) b19 (eqT b19)) rfl (Sl.v t23) (fun hg=>by subst hg; exact exec_load rfl (by kernel_rfl) (run_load1 (fun w=>by kernel_rfl) ((hc20 rfl)))) ?_
    obtain ⟨vJ24, hJ25, h⟩ := gCall_elim h
    refine vcL_effJ (σ := Bool) b19 (wanted_g (d := 21) rfl (by kernel_rfl) b19 (by kernel_rfl) b19 (eqT b19)) rfl (fun s w=>vJ24 s w) (fun s=>(Value.bool s)) ?_ (fun hg=>opVC_call rfl (by subst hg; kernel_rfl) (callS.mono (h.1 hg) fun v22 vw21 hq=>?_)) (fun hg=>⟨false, h.2 hg⟩)
    ·intro t24 vw21 h
     subst hJ25
     refine vcL_pure rfl rfl (Value.bool (b19 && t24)) (fun w=>by cases b19 <;> kernel_rfl) ?_
     obtain ⟨b26, hb26⟩ : ∃ y, y = (b19 && t24) := ⟨_, rfl⟩
     have h := h b26 hb26
     refine vcL_pure rfl rfl (Value.bool b26) (fun w=>by rw [hb26]; kernel_rfl) ?_
     refine vcL_guardP b26 (wanted_g (d := 26) rfl (by kernel_rfl) b26 (by kernel_rfl) b26 (eqT b26)) rfl (Value.pointer (some (a.add 4))) (fun hg w=>by subst hg; kernel_rfl) ?_
     obtain ⟨t28, hc27, h⟩ := h
     refine vcL_guard b26 (wanted_g (d := 26) rfl (by kernel_rfl) b26 (by kernel_rfl) b26 (eqT b26)) rfl (Sl.v t28) (fun hg=>by subst hg; exact exec_load rfl (by kernel_rfl) (run_load1 (fun w=>by kernel_rfl) ((hc27 rfl)))) ?_
     refine vcL_guardP b26 (wanted_g (d := 26) rfl (by kernel_rfl) b26 (by kernel_rfl) b26 (eqT b26)) rfl (Value.pointer (some (a.add 5))) (fun hg w=>by subst hg; kernel_rfl) ?_
     obtain ⟨t30, hc28, h⟩ := h
     refine vcL_guard b26 (wanted_g (d := 26) rfl (by kernel_rfl) b26 (by kernel_rfl) b26 (eqT b26)) rfl (Sl.v t30) (fun hg=>by subst hg; exact exec_load rfl (by kernel_rfl) (run_load1 (fun w=>by kernel_rfl) ((hc28 rfl)))) ?_
     refine vcL_guardP b26 (wanted_g (d := 26) rfl (by kernel_rfl) b26 (by kernel_rfl) b26 (eqT b26)) rfl (Value.pointer (some (a.add 6))) (fun hg w=>by subst hg; kernel_rfl) ?_
     obtain ⟨t32, hc29, h⟩ := h
     refine vcL_guard b26 (wanted_g (d := 26) rfl (by kernel_rfl) b26 (by kernel_rfl) b26 (eqT b26)) rfl (Sl.v t32) (fun hg=>by subst hg; exact exec_load rfl (by kernel_rfl) (run_load1 (fun w=>by kernel_rfl) ((hc29 rfl)))) ?_
     obtain ⟨vJ32, hJ33, h⟩ := gCall_elim h
     refine vcL_effJ (σ := Addr) b26 (wanted_g (d := 26) rfl (by kernel_rfl) b26 (by kernel_rfl) b26 (eqT b26)) rfl (fun s w=>vJ32 s w) (fun a=>Value.slice (some a) 3 3) ?_ (fun hg=>opVC_new rfl (fun a=>Value.slice (some a) 3 3) (by subst hg; kernel_rfl) (newS.mono (h.1 hg) fun a w' hx hq=>?_)) (fun hg=>⟨⟨0, 0, none⟩, h.2 hg⟩)
     ·intro a30 vw31 h
      subst hJ33
      obtain ⟨vJ37, hJ38, h⟩ := gCall_elim h
      refine vcL_effJ (σ := Bool) b26 (wanted_g (d := 26) rfl (by kernel_rfl) b26 (by kernel_rfl) b26 (eqT b26)) rfl (fun s w=>vJ37 s w) (fun s=>(Value.bool s)) ?_ (fun hg=>opVC_call rfl (by subst hg; kernel_rfl) (callS.mono (h.1 hg) fun v35 vw34 hq=>?_)) (fun hg=>⟨false, h.2 hg⟩)
      ·intro t34 vw34 h
       subst hJ38
       refine vcL_pure rfl rfl (Value.bool (b26 && t34)) (fun w=>by cases b26 <;> kernel_rfl) ?_
       obtain ⟨b39, hb39⟩ : ∃ y, y = (b26 && t34) := ⟨_, rfl⟩
       have h := h b39 hb39
       refine vcL_pure rfl rfl (Value.bool b39) (fun w=>by rw [hb39]; kernel_rfl) ?_
       obtain ⟨zz15, zz18, zz19, zz1a, zz14, zz17, zz16, hc40, h⟩ := h
       refine vcL_guard b39 (wanted_g (d := 36) rfl (by kernel_rfl) b39 (by kernel_rfl) b39 (eqT b39)) rfl (Value.agg #[(Value.string zz15), (Value.int .i64 zz18), (Value.int .i64 zz19), (Value.int .i64 zz1a), (Sl.v zz14), (Sl.v zz17), (Sl.v zz16)]) (fun hg=>by subst hg; exact exec_load rfl (by kernel_rfl) (run_loadN (fun w=>by kernel_rfl) (fun w=>by kernel_rfl) ((hc40 rfl)))) ?_
       obtain ⟨vJ44, hJ45, h⟩ := gCall_elim h
       refine vcL_effJ (σ := ByteArray) b39 (wanted_g (d := 36) rfl (by kernel_rfl) b39 (by kernel_rfl) b39 (eqT b39)) rfl (fun s w=>vJ44 s w) (fun s=>(Value.string s)) ?_ (fun hg=>opVC_call rfl (by subst hg; kernel_rfl) (callS.mono (h.1 hg) fun v42 vw41 hq=>?_)) (fun hg=>⟨(ByteArray.mk #[]), h.2 hg⟩)
       ·intro t38 vw41 h
        subst hJ45
        refine vcL_guardP b39 (wanted_g (d := 36) rfl (by kernel_rfl) b39 (by kernel_rfl) b39 (eqT b39)) rfl (Value.int .i64 (t38.size : Int)) (fun hg w=>by subst hg; kernel_rfl) ?_
        refine vcL_guardP b39 (wanted_g (d := 36) rfl (by kernel_rfl) b39 (by kernel_rfl) b39 (eqT b39)) rfl (Value.bool (decide ((t38.size : Int) ≤ 4096))) (fun hg w=>by subst hg; kernel_rfl) ?_
        refine vcL_pure rfl rfl (Value.bool (b39 && (decide ((t38.size : Int) ≤ 4096)))) (fun w=>by cases b39 <;> kernel_rfl) ?_
        refine vcL_pure rfl rfl (Value.bool (b39 && (decide ((t38.size : Int) ≤ 4096)))) (fun w=>by kernel_rfl) ?_
        refine vcL_nil ?_
        refine Vc.ret ?_
        refine outs_ret ?_
        refine done_mk (Value.bool (b39 && (decide ((t38.size : Int) ≤ 4096)))) (res1 (resC_tmp (by kernel_rfl))) ?_
        exact ⟨(b39 && (decide ((t38.size : Int) ≤ 4096))), rfl, h⟩
       ·obtain ⟨t38, rfl, hq⟩ := hq
        exact ⟨t38, rfl, hq⟩
      ·obtain ⟨t34, rfl, hq⟩ := hq
       exact ⟨t34, rfl, hq⟩
     ·exact ⟨a, rfl, hq⟩
    ·obtain ⟨t24, rfl, hq⟩ := hq
     exact ⟨t24, rfl, hq⟩
   ·obtain ⟨t19, rfl, hq⟩ := hq
    exact ⟨t19, rfl, hq⟩
  ·obtain ⟨t14, rfl, hq⟩ := hq
   exact ⟨t14, rfl, hq⟩
 ·obtain ⟨t9, rfl, hq⟩ := hq
  exact ⟨t9, rfl, hq⟩
theorem pack_May.go {zz4 : ByteArray} {zz7 : Int} {zz8 : Int} {zz9 : Int} {zz3 : Sl} {zz6 : Sl} {zz5 : Sl} {w : World} {k : Value → World → Prop} (h : pack_May zz4 zz7 zz8 zz9 zz3 zz6 zz5 w fun r0 w'=>k (Value.bool r0) w') : callS Tryz.prog 61 [(Value.agg #[(Value.string zz4), (Value.int .i64 zz7), (Value.int .i64 zz8), (Value.int .i64 zz9), (Sl.v zz3), (Sl.v zz6), (Sl.v zz5)])] w k := (pack_May.sound zz4 zz7 zz8 zz9 zz3 zz6 zz5 w _ h).mono (by rintro _ _ ⟨r0, rfl, h⟩; exact h)
def catalog_copied (zz4 : ByteArray) (zz7 : Int) (zz8 : Int) (zz9 : Int) (zz3 : Sl) (zz6 : Sl) (zz5 : Sl) (w : World) (R : ByteArray → Int → Int → Int → Sl → Sl → Sl → World → Prop) : Prop :=
 newS w [(Value.string zz4), (Value.int .i64 zz7), (Value.int .i64 zz8), (Value.int .i64 zz9), (Sl.v zz3), (Sl.v zz6), (Sl.v zz5)] 48 fun a vw=>newS vw [(Value.string (ByteArray.mk #[])), (Value.int .i64 0), (Value.int .i64 0), (Value.int .i64 0), (Sl.v Sl.nil), (Sl.v Sl.nil), (Sl.v Sl.nil)] 48 fun a1 vw2=>bnd vw2.drew fun (vw3 : World)=>∃ (t4 : Sl), (ldc vw3 (a.add 4) [(Sl.v t4)]) ∧ ∃ (t7 : Sl), (ldc vw3 (a.add 5) [(Sl.v t7)]) ∧ ∃ (t10 : Sl), (ldc vw3 (a.add 6) [(Sl.v t10)]) ∧ callX Tryz.prog 108 [(Sl.v t4)] vw3 fun v vw6=>∃ (t5 : Sl), v = (Sl.v t5) ∧ callX Tryz.prog 108 [(Sl.v t7)] vw6 fun v8 vw7=>∃ (t8 : Sl), v8 = (Sl.v t8) ∧ callS Tryz.prog 108 [(Sl.v t10)] vw7 fun v11 vw10=>∃ (t11 : Sl), v11 = (Sl.v t11) ∧ stw vw10 (a.add 4) [(Sl.v t5)] fun vw13=>stw vw13 (a.add 5) [(Sl.v t8)] fun vw14=>stw vw14 (a.add 6) [(Sl.v t11)] fun vw15=>∃ (zz3e : ByteArray) (zz3h : Int) (zz3i : Int) (zz3j : Int) (zz3d : Sl) (zz3g : Sl) (zz3f : Sl), (ldc vw15 a [(Value.string zz3e), (Value.int .i64 zz3h), (Value.int .i64 zz3i), (Value.int .i64 zz3j), (Sl.v zz3d), (Sl.v zz3g), (Sl.v zz3f)]) ∧ stw vw15 a1 [(Value.string zz3e), (Value.int .i64 zz3h), (Value.int .i64 zz3i), (Value.int .i64 zz3j), (Sl.v zz3d), (Sl.v zz3g), (Sl.v zz3f)] fun vw17=>∃ (zz1h : ByteArray) (zz1l : Int) (zz1m : Int) (zz1n : Int) (zz1e : Sl) (zz1k : Sl) (zz1i : Sl), ldc vw17 a1 [(Value.string zz1h), (Value.int .i64 zz1l), (Value.int .i64 zz1m), (Value.int .i64 zz1n), (Sl.v zz1e), (Sl.v zz1k), (Sl.v zz1i)] ∧ R zz1h zz1l zz1m zz1n zz1e zz1k zz1i vw17
set_option maxHeartbeats 8000000 in
theorem catalog_copied.sound (zz4 : ByteArray) (zz7 : Int) (zz8 : Int) (zz9 : Int) (zz3 : Sl) (zz6 : Sl) (zz5 : Sl) (w : World) (R : ByteArray → Int → Int → Int → Sl → Sl → Sl → World → Prop) (h : catalog_copied zz4 zz7 zz8 zz9 zz3 zz6 zz5 w R) : callS Tryz.prog 62 [(Value.agg #[(Value.string zz4), (Value.int .i64 zz7), (Value.int .i64 zz8), (Value.int .i64 zz9), (Sl.v zz3), (Sl.v zz6), (Sl.v zz5)])] w (fun v w'=>∃ (r0 : ByteArray) (r1 : Int) (r2 : Int) (r3 : Int) (r4 : Sl) (r5 : Sl) (r6 : Sl), v = (Value.agg #[(Value.string r0), (Value.int .i64 r1), (Value.int .i64 r2), (Value.int .i64 r3), (Sl.v r4), (Sl.v r5), (Sl.v r6)]) ∧ R r0 r1 r2 r3 r4 r5 r6 w') := by
 unfold catalog_copied at h
 refine calls_of_vc 16 rfl Tryz.func62 rfl (by kernel_rfl) (by simp) ?_
 refine Vc.seq ?_
 refine Vc.region ?_
 refine vcL_eff rfl (opVC_new rfl (fun a=>Value.pointer (some a)) (by kernel_rfl) (newS.mono h fun a vw hx h=>?_))
 refine vcL_eff rfl (opVC_new rfl (fun a=>Value.pointer (some a)) (by kernel_rfl) (newS.mono h fun a1 vw2 hx h=>?_))
 refine vcL_nil ?_
 refine Vc.seq ?_
 obtain ⟨vw3, hvw3⟩ : ∃ y, y = vw2.drew := ⟨_, rfl⟩
 have h := h vw3 hvw3
 refine Vc.draw (by kernel_rfl) (fun i=>!(memN [8, 10, 12, 14] i)) (.pur 0 (.val 1 (.pur 3 (.val 4 (.pur 6 (.val 7 (.eff 2 (.pur 9 (.eff 5 (.eff 8 (.eff 10 (.pur 11 (.eff 12 (.pur 13 (.eff 14 .fin .stop)) .stop)) .stop) .stop) .stop)) .stop))))))) (by kernel_rfl) ?_
 rw [← hvw3]
 clear hvw3
 refine vcS_pure rfl rfl rfl (Value.pointer (some (a.add 4))) (fun w=>by kernel_rfl) ?_
 obtain ⟨t4, hc, h⟩ := h
 refine vcS_val rfl rfl rfl (Sl.v t4) (fun w' hx=>exec_load rfl (by kernel_rfl) (run_load1 (fun w=>by kernel_rfl) ((hc).ext hx))) ?_
 refine vcS_pure rfl rfl rfl (Value.pointer (some (a.add 5))) (fun w=>by kernel_rfl) ?_
 obtain ⟨t7, hc4, h⟩ := h
 refine vcS_val rfl rfl rfl (Sl.v t7) (fun w' hx=>exec_load rfl (by kernel_rfl) (run_load1 (fun w=>by kernel_rfl) ((hc4).ext hx))) ?_
 refine vcS_pure rfl rfl rfl (Value.pointer (some (a.add 6))) (fun w=>by kernel_rfl) ?_
 obtain ⟨t10, hc5, h⟩ := h
 refine vcS_val rfl rfl rfl (Sl.v t10) (fun w' hx=>exec_load rfl (by kernel_rfl) (run_load1 (fun w=>by kernel_rfl) ((hc5).ext hx))) ?_
 refine vcS_eff rfl rfl (opVC_call rfl (by kernel_rfl) (callS.mono h fun v vw6 h=>?_)) vcS_stop
 obtain ⟨hx, h⟩ := h
 obtain ⟨t5, rfl, h⟩ := h
 refine ⟨fun _ => hx, ?_⟩
 refine vcS_pure rfl rfl rfl (Value.pointer (some (a.add 4))) (fun w=>by kernel_rfl) ?_
 refine vcS_eff rfl rfl (opVC_call rfl (by kernel_rfl) (callS.mono h fun v8 vw7 h=>?_)) vcS_stop
 obtain ⟨hx9, h⟩ := h
 obtain ⟨t8, rfl, h⟩ := h
 refine ⟨fun _ => hx9, ?_⟩
 refine vcS_eff rfl rfl (opVC_call rfl (by kernel_rfl) (callS.mono h fun v11 vw10 h=>?_)) vcS_stop
 obtain ⟨t11, rfl, h⟩ := h
 refine ⟨fun hb=>absurd hb (by decide), ?_⟩
 refine vcS_eff rfl rfl (opVC_store rfl rfl (a := (a.add 4)) (by kernel_rfl) (v := (Sl.v t5)) (by kernel_rfl) [(Sl.v t5)] (by kernel_rfl) (fun w=>by kernel_rfl) (by kernel_rfl) (stw.mono h fun vw13 h=>?_)) vcS_stop
 refine ⟨fun hb=>absurd hb (by decide), ?_⟩
 refine vcS_pure rfl rfl rfl (Value.pointer (some (a.add 5))) (fun w=>by kernel_rfl) ?_
 refine vcS_eff rfl rfl (opVC_store rfl rfl (a := (a.add 5)) (by kernel_rfl) (v := (Sl.v t8)) (by kernel_rfl) [(Sl.v t8)] (by kernel_rfl) (fun w=>by kernel_rfl) (by kernel_rfl) (stw.mono h fun vw14 h=>?_)) vcS_stop
 refine ⟨fun hb=>absurd hb (by decide), ?_⟩
 refine vcS_pure rfl rfl rfl (Value.pointer (some (a.add 6))) (fun w=>by kernel_rfl) ?_
 refine vcS_eff rfl rfl (opVC_store rfl rfl (a := (a.add 6)) (by kernel_rfl) (v := (Sl.v t11)) (by kernel_rfl) [(Sl.v t11)] (by kernel_rfl) (fun w=>by kernel_rfl) (by kernel_rfl) (stw.mono h fun vw15 h=>?_)) vcS_stop
 refine ⟨fun hb=>absurd hb (by decide), ?_⟩
 refine vcS_fin ?_
 refine Vc.seq ?_
 refine Vc.region ?_
 obtain ⟨zz3e, zz3h, zz3i, zz3j, zz3d, zz3g, zz3f, hc16, h⟩ := h
 refine vcL_val rfl rfl (Value.agg #[(Value.string zz3e), (Value.int .i64 zz3h), (Value.int .i64 zz3i), (Value.int .i64 zz3j), (Sl.v zz3d), (Sl.v zz3g), (Sl.v zz3f)]) (exec_load rfl (by kernel_rfl) (run_loadN (fun w=>by kernel_rfl) (fun w=>by kernel_rfl) ((hc16)))) ?_
 refine vcL_eff rfl (opVC_store rfl rfl (a := a1) (by kernel_rfl) (v := (Value.agg #[(Value.string zz3e), (Value.int .i64 zz3h), (Value.int .i64 zz3i), (Value.int .i64 zz3j), (Sl.v zz3d), (Sl.v zz3g), (Sl.v zz3f)])) (by kernel_rfl) [(Value.string zz3e), (Value.int .i64 zz3h), (Value.int .i64 zz3i), (Value.int .i64 zz3j), (Sl.v zz3d), (Sl.v zz3g), (Sl.v zz3f)] (by kernel_rfl) (fun w=>by kernel_rfl) (by kernel_rfl) (stw.mono h fun vw17 h=>?_))
 refine vcL_nil ?_
 refine Vc.ret ?_
 refine outs_ret ?_
 obtain ⟨zz1h, zz1l, zz1m, zz1n, zz1e, zz1k, zz1i, hc18, h⟩ := h
 refine done_mk (Value.agg #[(Value.string zz1h), (Value.int .i64 zz1l), (Value.int .i64 zz1m), (Value.int .i64 zz1n), (Sl.v zz1e), (Sl.v zz1k), (Sl.v zz1i)]) (res1 (resC_cell (by kernel_rfl) (run_loadN (fun w=>by kernel_rfl) (fun w=>by kernel_rfl) hc18))) ?_
 exact ⟨zz1h, zz1l, zz1m, zz1n, zz1e, zz1k, zz1i, rfl, h⟩
theorem catalog_copied.go {zz4 : ByteArray} {zz7 : Int} {zz8 : Int} {zz9 : Int} {zz3 : Sl} {zz6 : Sl} {zz5 : Sl} {w : World} {k : Value → World → Prop} (h : catalog_copied zz4 zz7 zz8 zz9 zz3 zz6 zz5 w fun r0 r1 r2 r3 r4 r5 r6 w'=>k (Value.agg #[(Value.string r0), (Value.int .i64 r1), (Value.int .i64 r2), (Value.int .i64 r3), (Sl.v r4), (Sl.v r5), (Sl.v r6)]) w') : callS Tryz.prog 62 [(Value.agg #[(Value.string zz4), (Value.int .i64 zz7), (Value.int .i64 zz8), (Value.int .i64 zz9), (Sl.v zz3), (Sl.v zz6), (Sl.v zz5)])] w k := (catalog_copied.sound zz4 zz7 zz8 zz9 zz3 zz6 zz5 w _ h).mono (by rintro _ _ ⟨r0, r1, r2, r3, r4, r5, r6, rfl, h⟩; exact h)
def catalog_falling (zza : Int) (zzb : Int) (zzc : Int) (zzd : Int) (zze : Int) (zzf : Int) (w : World) (R : Int → World → Prop) : Prop :=
 newS w [(Value.int .i64 zza), (Value.int .i64 zzb), (Value.int .i64 zzc)] 30 fun a vw=>newS vw [(Value.int .i64 zzd), (Value.int .i64 zze), (Value.int .i64 zzf)] 30 fun a1 vw2=>∃ (zz24 : Int) (zz25 : Int) (zz26 : Int), (ldc vw2 a1 [(Value.int .i64 zz24), (Value.int .i64 zz25), (Value.int .i64 zz26)]) ∧ ∃ (zz5n : Int) (zz5o : Int) (zz5q : Int), (ldc vw2 a [(Value.int .i64 zz5n), (Value.int .i64 zz5o), (Value.int .i64 zz5q)]) ∧ callS Tryz.prog 100 [(Value.agg #[(Value.int .i64 zz24), (Value.int .i64 zz25), (Value.int .i64 zz26)]), (Value.agg #[(Value.int .i64 zz5n), (Value.int .i64 zz5o), (Value.int .i64 zz5q)])] vw2 fun v vw4=>∃ (t7 : Int), v = (Value.int .i64 t7) ∧ R t7 vw4
set_option maxHeartbeats 8000000 in
theorem catalog_falling.sound (zza : Int) (zzb : Int) (zzc : Int) (zzd : Int) (zze : Int) (zzf : Int) (w : World) (R : Int → World → Prop) (h : catalog_falling zza zzb zzc zzd zze zzf w R) : callS Tryz.prog 65 [(Value.agg #[(Value.int .i64 zza), (Value.int .i64 zzb), (Value.int .i64 zzc)]), (Value.agg #[(Value.int .i64 zzd), (Value.int .i64 zze), (Value.int .i64 zzf)])] w (fun v w'=>∃ (r0 : Int), v = (Value.int .i64 r0) ∧ R r0 w') := by
 unfold catalog_falling at h
 refine calls_of_vc 8 rfl Tryz.func65 rfl (by kernel_rfl) (by simp) ?_
 refine Vc.seq ?_
 refine Vc.region ?_
 refine vcL_eff rfl (opVC_new rfl (fun a=>Value.pointer (some a)) (by kernel_rfl) (newS.mono h fun a vw hx h=>?_))
 refine vcL_eff rfl (opVC_new rfl (fun a=>Value.pointer (some a)) (by kernel_rfl) (newS.mono h fun a1 vw2 hx h=>?_))
 refine vcL_pure rfl rfl (Value.int .i64 0) (fun w=>by kernel_rfl) ?_
 refine vcL_nil ?_
 refine Vc.seq ?_
 refine Vc.region ?_
 obtain ⟨zz24, zz25, zz26, hc, h⟩ := h
 refine vcL_val rfl rfl (Value.agg #[(Value.int .i64 zz24), (Value.int .i64 zz25), (Value.int .i64 zz26)]) (exec_load rfl (by kernel_rfl) (run_loadN (fun w=>by kernel_rfl) (fun w=>by kernel_rfl) ((hc)))) ?_
 obtain ⟨zz5n, zz5o, zz5q, hc3, h⟩ := h
 refine vcL_val rfl rfl (Value.agg #[(Value.int .i64 zz5n), (Value.int .i64 zz5o), (Value.int .i64 zz5q)]) (exec_load rfl (by kernel_rfl) (run_loadN (fun w=>by kernel_rfl) (fun w=>by kernel_rfl) ((hc3)))) ?_
 refine vcL_eff rfl (opVC_call rfl (by kernel_rfl) (callS.mono h fun v vw4 h=>?_))
 obtain ⟨t7, rfl, h⟩ := h
 refine vcL_pure rfl rfl (Value.int .i64 t7) (fun w=>by kernel_rfl) ?_
 refine vcL_nil ?_
 refine Vc.ret ?_
 refine outs_ret ?_
 refine done_mk (Value.int .i64 t7) (res1 (resC_tmp (by kernel_rfl))) ?_
 exact ⟨t7, rfl, h⟩
theorem catalog_falling.go {zza : Int} {zzb : Int} {zzc : Int} {zzd : Int} {zze : Int} {zzf : Int} {w : World} {k : Value → World → Prop} (h : catalog_falling zza zzb zzc zzd zze zzf w fun r0 w'=>k (Value.int .i64 r0) w') : callS Tryz.prog 65 [(Value.agg #[(Value.int .i64 zza), (Value.int .i64 zzb), (Value.int .i64 zzc)]), (Value.agg #[(Value.int .i64 zzd), (Value.int .i64 zze), (Value.int .i64 zzf)])] w k := (catalog_falling.sound zza zzb zzc zzd zze zzf w _ h).mono (by rintro _ _ ⟨r0, rfl, h⟩; exact h)
def slices_Clip_apiVersionapiVersion (vs : Sl) (w : World) (R : Sl → World → Prop) : Prop :=
 ((0 : Int) ≤ 0 ∧ 0 ≤ (vs.len : Int) ∧ (vs.len : Int) ≤ (vs.len : Int) ∧ (vs.len : Int) ≤ (vs.cap : Int)) ∧ R (Sl.mk (if (vs.len : Int).toNat = 0 then vs.a else vs.a.map (·.add (0 * 3))) ((vs.len : Int).toNat - 0) ((vs.len : Int).toNat - 0)) w
set_option maxHeartbeats 8000000 in
theorem slices_Clip_apiVersionapiVersion.sound (vs : Sl) (w : World) (R : Sl → World → Prop) (h : slices_Clip_apiVersionapiVersion vs w R) : callS Tryz.prog 66 [(Sl.v vs)] w (fun v w'=>∃ (r0 : Sl), v = (Sl.v r0) ∧ R r0 w') := by
 unfold slices_Clip_apiVersionapiVersion at h
 refine calls_of_vc 9 rfl Tryz.func66 rfl (by kernel_rfl) (by simp) ?_
 refine Vc.seq ?_
 refine Vc.region ?_
 refine vcL_pure rfl rfl (Sl.v Sl.nil) (fun w=>by kernel_rfl) ?_
 refine vcL_nil ?_
 refine Vc.seq ?_
 refine Vc.region ?_
 refine vcL_purs 5 [(7, (Value.int .i64 (vs.len : Int))), (6, (Sl.v vs)), (5, (Value.int .i64 (vs.len : Int))), (4, (Sl.v vs)), (3, (Sl.v vs))] (by kernel_rfl) ?_
 obtain ⟨hi, h⟩ := h
 refine vcL_pure rfl rfl (Sl.v (Sl.mk (if (vs.len : Int).toNat = 0 then vs.a else vs.a.map (·.add (0 * 3))) ((vs.len : Int).toNat - 0) ((vs.len : Int).toNat - 0))) (fun w=>by exact exec_slSlHM (s := vs) (el := 30) (k2 := .i64) (k3 := .i64) rfl (by kernel_rfl) (by kernel_rfl) (by kernel_rfl) (by kernel_rfl) (fun w=>by kernel_rfl) (hi) w) ?_
 refine vcL_pure rfl rfl (Sl.v (Sl.mk (if (vs.len : Int).toNat = 0 then vs.a else vs.a.map (·.add (0 * 3))) ((vs.len : Int).toNat - 0) ((vs.len : Int).toNat - 0))) (fun w=>by kernel_rfl) ?_
 refine vcL_nil ?_
 refine Vc.ret ?_
 refine outs_ret ?_
 refine done_mk (Sl.v (Sl.mk (if (vs.len : Int).toNat = 0 then vs.a else vs.a.map (·.add (0 * 3))) ((vs.len : Int).toNat - 0) ((vs.len : Int).toNat - 0))) (res1 (resC_tmp (by kernel_rfl))) ?_
 exact ⟨(Sl.mk (if (vs.len : Int).toNat = 0 then vs.a else vs.a.map (·.add (0 * 3))) ((vs.len : Int).toNat - 0) ((vs.len : Int).toNat - 0)), rfl, h⟩
theorem slices_Clip_apiVersionapiVersion.go {vs : Sl} {w : World} {k : Value → World → Prop} (h : slices_Clip_apiVersionapiVersion vs w fun r0 w'=>k (Sl.v r0) w') : callS Tryz.prog 66 [(Sl.v vs)] w k := (slices_Clip_apiVersionapiVersion.sound vs w _ h).mono (by rintro _ _ ⟨r0, rfl, h⟩; exact h)
def slices_DeleteFunc_apiVersionapiVersion (vs : Sl) (del : Value) (w : World) (R : Sl → World → Prop) : Prop :=
 callS Tryz.prog 110 [(Sl.v vs), del] w fun v vw=>∃ (t10 : Int), v = (Value.int .i64 t10) ∧ ((t10 = (-1) → R vs vw) ∧ (¬ (t10 = (-1)) → loop2 t10 (wrapI (t10 + 1)) vw fun i vj vw1 nxt=>((vj < (vs.len : Int) → join (fun (i2 : Int) (vw3 : World)=>nxt i2 (wrapI (vj + 1)) vw3) fun vJ=>∃ (ad : Addr), (vs.a = some ad ∧ (0 : Int) ≤ vj ∧ vj < (vs.len : Int)) ∧ ∃ (zz3t : Int) (zz3u : Int) (zz3v : Int), (ldc vw1 (ad.add (vj.toNat * 3)) [(Value.int .i64 zz3t), (Value.int .i64 zz3u), (Value.int .i64 zz3v)]) ∧ newS vw1 [(Value.int .i64 0), (Value.int .i64 0), (Value.int .i64 0)] 30 fun a vw4=>stw vw4 a [(Value.int .i64 zz3t), (Value.int .i64 zz3u), (Value.int .i64 zz3v)] fun vw5=>∃ (zz1v : Int) (zz1w : Int) (zz1x : Int), (ldc vw5 a [(Value.int .i64 zz1v), (Value.int .i64 zz1w), (Value.int .i64 zz1x)]) ∧ callV Tryz.prog del [(Value.agg #[(Value.int .i64 zz1v), (Value.int .i64 zz1w), (Value.int .i64 zz1x)])] vw5 fun v8 vw7=>∃ (t28 : Bool), v8 = (Value.bool t28) ∧ (((!t28) = true → ∃ (zz3w : Int) (zz3x : Int) (zz3y : Int), (ldc vw7 a [(Value.int .i64 zz3w), (Value.int .i64 zz3x), (Value.int .i64 zz3y)]) ∧ ∃ (ad11 : Addr), (vs.a = some ad11 ∧ (0 : Int) ≤ i ∧ i < (vs.len : Int)) ∧ stw vw7 (ad11.add (i.toNat * 3)) [(Value.int .i64 zz3w), (Value.int .i64 zz3x), (Value.int .i64 zz3y)] fun vw13=>vJ (wrapI (i + 1)) vw13) ∧ ((!t28) = false → vJ i vw7))) ∧ (¬ (vj < (vs.len : Int)) → ((0 : Int) ≤ i ∧ i ≤ (vs.len : Int)) ∧ semS Tryz.prog (Builtin.clear_ #[60] 0 #[(Sl.v (Sl.cut vs i.toNat vs.len 3))]) vw1 fun v16 vw15=>((0 : Int) ≤ i ∧ i ≤ (vs.cap : Int)) ∧ R (Sl.cut vs 0 i.toNat 3) vw15))))
set_option maxHeartbeats 8000000 in
theorem slices_DeleteFunc_apiVersionapiVersion.sound (vs : Sl) (del : Value) (w : World) (R : Sl → World → Prop) (h : slices_DeleteFunc_apiVersionapiVersion vs del w R) : callS Tryz.prog 67 [(Sl.v vs), del] w (fun v w'=>∃ (r0 : Sl), v = (Sl.v r0) ∧ R r0 w') := by
 unfold slices_DeleteFunc_apiVersionapiVersion at h
 refine calls_of_vc 42 rfl Tryz.func67 rfl (by kernel_rfl) (by simp) ?_
 refine Vc.seq ?_
 refine Vc.region ?_
 refine vcL_pure rfl rfl (Sl.v Sl.nil) (fun w=>by kernel_rfl) ?_
 refine vcL_nil ?_
 refine Vc.seq ?_
 refine Vc.region ?_
 refine vcL_purs 2 [(9, del), (8, (Sl.v vs))] (by kernel_rfl) ?_
 refine vcL_eff rfl (opVC_call rfl (by kernel_rfl) (callS.mono h fun v vw h=>?_))
 obtain ⟨t10, rfl, h⟩ := h
 refine vcL_pure rfl rfl (Value.int .i64 t10) (fun w=>by kernel_rfl) ?_
 refine vcL_nil ?_
 refine Vc.seq ?_
 refine Vc.seq ?_
 refine Vc.region ?_
 refine vcL_purs 2 [(12, (Value.bool (t10 == (-1)))), (11, (Value.int .i64 t10))] (by kernel_rfl) ?_
 refine vcL_nil ?_
 refine Vc.cond (t10 == (-1)) (by kernel_rfl) (fun hb=>?_) (fun hb=>?_)
 ·have h := h.1 (eq_of_beq hb)
  refine Vc.seq ?_
  refine Vc.region ?_
  refine vcL_purs 2 [(4, (Sl.v vs)), (13, (Sl.v vs))] (by kernel_rfl) ?_
  refine vcL_nil ?_
  refine Vc.ret ?_
  refine outs_ret ?_
  refine done_mk (Sl.v vs) (res1 (resC_tmp (by kernel_rfl))) ?_
  exact ⟨vs, rfl, h⟩
 ·have h := h.2 (ne_of_beq_false hb)
  refine Vc.skip ?_
  refine Vc.seq ?_
  refine Vc.seq ?_
  refine Vc.region ?_
  refine vcL_purs 3 [(6, (Value.int .i64 (wrapI (t10 + 1)))), (15, (Value.int .i64 (wrapI (t10 + 1)))), (14, (Value.int .i64 t10))] (by kernel_rfl) ?_
  refine vcL_nil ?_
  refine Vc.block ?_
  obtain ⟨vI, mu, h, hr⟩ := h
  refine Vc.loopJ (σ := Int × Int) [5, 6] [7, 16, 17, 18, 19, 20, 21, 22, 23, 24, 25, 26, 27, 28, 29, 30, 31, 32, 33, 34, 35] (fun s=>[(5, (Value.int .i64 s.1)), (6, (Value.int .i64 s.2))]) (fun s w=>vI s.1 s.2 w) (fun s w=>mu s.1 s.2 w) (t10, (wrapI (t10 + 1))) h (fun _ => rfl) (by kernel_rfl) ?_
  rintro ⟨i, vj⟩ vw1 j h
  have h := hr i vj vw1 h
  refine Vc.seq ?_
  refine Vc.seq ?_
  refine Vc.region ?_
  refine vcL_purs 4 [(19, (Value.bool (decide (vj < (vs.len : Int))))), (18, (Value.int .i64 (vs.len : Int))), (17, (Sl.v vs)), (16, (Value.int .i64 vj))] (by kernel_rfl) ?_
  refine vcL_nil ?_
  refine Vc.cond (decide (vj < (vs.len : Int))) (by kernel_rfl) (fun hb=>?_) (fun hb=>?_)
  ·have h := h.1 (of_decide_eq_true hb)
   refine Vc.skip ?_
   obtain ⟨vJ, hJ, h⟩ := join_elim h
   refine Vc.seqJ (σ := Int) [5] [7, 22, 23, 24, 25, 26, 27, 28, 29, 30, 31, 32, 33, 34, 35] (fun s=>[(5, (Value.int .i64 s))]) (fun s w=>vJ s w) (fun _ => rfl) ?_ ?_
   ·refine Vc.block ?_
    refine Vc.seq ?_
    refine Vc.region ?_
    refine vcL_purs 2 [(23, (Value.int .i64 vj)), (22, (Sl.v vs))] (by kernel_rfl) ?_
    obtain ⟨ad, hi, h⟩ := h
    refine vcL_pure rfl rfl (Value.pointer (some (ad.add (vj.toNat * 3)))) (fun w=>by exact exec_indexAt (s := vs) (el := 30) rfl (by kernel_rfl) (by kernel_rfl) (by kernel_rfl) (fun w=>by kernel_rfl) (hi).1 (hi).2.1 (hi).2.2 w) ?_
    obtain ⟨zz3t, zz3u, zz3v, hc, h⟩ := h
    refine vcL_val rfl rfl (Value.agg #[(Value.int .i64 zz3t), (Value.int .i64 zz3u), (Value.int .i64 zz3v)]) (exec_load rfl (by kernel_rfl) (run_loadN (fun w=>by kernel_rfl) (fun w=>by kernel_rfl) ((hc)))) ?_
    refine vcL_eff rfl (opVC_new rfl (fun a=>Value.pointer (some a)) (by kernel_rfl) (newS.mono h fun a vw4 hx h=>?_))
    refine vcL_eff rfl (opVC_store rfl rfl (a := a) (by kernel_rfl) (v := (Value.agg #[(Value.int .i64 zz3t), (Value.int .i64 zz3u), (Value.int .i64 zz3v)])) (by kernel_rfl) [(Value.int .i64 zz3t), (Value.int .i64 zz3u), (Value.int .i64 zz3v)] (by kernel_rfl) (fun w=>by kernel_rfl) (by kernel_rfl) (stw.mono h fun vw5 h=>?_))
    refine vcL_nil ?_
    refine Vc.seq ?_
    refine Vc.region ?_
    refine vcL_pure rfl rfl del (fun w=>by kernel_rfl) ?_
    obtain ⟨zz1v, zz1w, zz1x, hc6, h⟩ := h
    refine vcL_val rfl rfl (Value.agg #[(Value.int .i64 zz1v), (Value.int .i64 zz1w), (Value.int .i64 zz1x)]) (exec_load rfl (by kernel_rfl) (run_loadN (fun w=>by kernel_rfl) (fun w=>by kernel_rfl) ((hc6)))) ?_
    refine vcL_eff rfl (opVC_callV rfl rfl (fv := del) (by kernel_rfl) (args := [(Value.agg #[(Value.int .i64 zz1v), (Value.int .i64 zz1w), (Value.int .i64 zz1x)])]) (by kernel_rfl) (callV.mono h fun v8 vw7 h=>?_))
    obtain ⟨t28, rfl, h⟩ := h
    refine vcL_pure rfl rfl (Value.bool (!t28)) (fun w=>by kernel_rfl) ?_
    refine vcL_nil ?_
    refine Vc.cond (!t28) (by kernel_rfl) (fun hb=>?_) (fun hb=>?_)
    ·have h := h.1 (hb)
     refine Vc.seq ?_
     refine Vc.region ?_
     refine vcL_purs 2 [(31, (Value.int .i64 i)), (30, (Sl.v vs))] (by kernel_rfl) ?_
     obtain ⟨zz3w, zz3x, zz3y, hc10, h⟩ := h
     refine vcL_val rfl rfl (Value.agg #[(Value.int .i64 zz3w), (Value.int .i64 zz3x), (Value.int .i64 zz3y)]) (exec_load rfl (by kernel_rfl) (run_loadN (fun w=>by kernel_rfl) (fun w=>by kernel_rfl) ((hc10)))) ?_
     obtain ⟨ad11, hi12, h⟩ := h
     refine vcL_pure rfl rfl (Value.pointer (some (ad11.add (i.toNat * 3)))) (fun w=>by exact exec_indexAt (s := vs) (el := 30) rfl (by kernel_rfl) (by kernel_rfl) (by kernel_rfl) (fun w=>by kernel_rfl) (hi12).1 (hi12).2.1 (hi12).2.2 w) ?_
     refine vcL_eff rfl (opVC_store rfl rfl (a := (ad11.add (i.toNat * 3))) (by kernel_rfl) (v := (Value.agg #[(Value.int .i64 zz3w), (Value.int .i64 zz3x), (Value.int .i64 zz3y)])) (by kernel_rfl) [(Value.int .i64 zz3w), (Value.int .i64 zz3x), (Value.int .i64 zz3y)] (by kernel_rfl) (fun w=>by kernel_rfl) (by kernel_rfl) (stw.mono h fun vw13 h=>?_))
     refine vcL_nil ?_
     refine Vc.region ?_
     refine vcL_purs 3 [(5, (Value.int .i64 (wrapI (i + 1)))), (35, (Value.int .i64 (wrapI (i + 1)))), (34, (Value.int .i64 i))] (by kernel_rfl) ?_
     refine vcL_nil ?_
     exact ⟨(wrapI (i + 1)), 16, ⟨rfl, by kernel_rfl, by kernel_rfl, by kernel_rfl⟩, h⟩
    ·have h := h.2 (hb)
     refine Vc.skip ?_
     exact ⟨i, 9, ⟨rfl, by kernel_rfl, by kernel_rfl, by kernel_rfl⟩, h⟩
   ·intro i2 vw3 j h
    subst hJ
    refine Vc.region ?_
    refine vcL_purs 3 [(6, (Value.int .i64 (wrapI (vj + 1)))), (21, (Value.int .i64 (wrapI (vj + 1)))), (20, (Value.int .i64 vj))] (by kernel_rfl) ?_
    refine vcL_nil ?_
    exact ⟨(i2, (wrapI (vj + 1))), 46, ⟨rfl, by kernel_rfl, by kernel_rfl, by kernel_rfl⟩, h⟩
  ·have h := h.2 (of_decide_eq_false hb)
   refine Vc.exit ?_
   refine outOf_hit ?_
   refine Vc.seq ?_
   refine Vc.region ?_
   refine vcL_purs 2 [(37, (Value.int .i64 i)), (36, (Sl.v vs))] (by kernel_rfl) ?_
   obtain ⟨hi14, h⟩ := h
   refine vcL_pure rfl rfl (Sl.v (Sl.cut vs i.toNat vs.len 3)) (fun w=>by exact exec_slSlL (s := vs) (el := 30) (k1 := .i64) rfl (by kernel_rfl) (by kernel_rfl) (by kernel_rfl) (fun w=>by kernel_rfl) (hi14) w) ?_
   refine vcL_eff rfl (opVC_sem0 rfl (c := Builtin.clear_ #[60] 0 #[(Sl.v (Sl.cut vs i.toNat vs.len 3))]) (by kernel_rfl) (semS.mono h fun v16 vw15 h=>?_))
   refine vcL_nil ?_
   refine Vc.seq ?_
   refine Vc.region ?_
   refine vcL_purs 2 [(40, (Value.int .i64 i)), (39, (Sl.v vs))] (by kernel_rfl) ?_
   obtain ⟨hi17, h⟩ := h
   refine vcL_pure rfl rfl (Sl.v (Sl.cut vs 0 i.toNat 3)) (fun w=>by exact exec_slSlH (s := vs) (el := 30) (k2 := .i64) rfl (by kernel_rfl) (by kernel_rfl) (by kernel_rfl) (fun w=>by kernel_rfl) (hi17) w) ?_
   refine vcL_pure rfl rfl (Sl.v (Sl.cut vs 0 i.toNat 3)) (fun w=>by kernel_rfl) ?_
   refine vcL_nil ?_
   refine Vc.ret ?_
   refine outs_ret ?_
   refine done_mk (Sl.v (Sl.cut vs 0 i.toNat 3)) (res1 (resC_tmp (by kernel_rfl))) ?_
   exact ⟨(Sl.cut vs 0 i.toNat 3), rfl, h⟩
theorem slices_DeleteFunc_apiVersionapiVersion.go {vs : Sl} {del : Value} {w : World} {k : Value → World → Prop} (h : slices_DeleteFunc_apiVersionapiVersion vs del w fun r0 w'=>k (Sl.v r0) w') : callS Tryz.prog 67 [(Sl.v vs), del] w k := (slices_DeleteFunc_apiVersionapiVersion.sound vs del w _ h).mono (by rintro _ _ ⟨r0, rfl, h⟩; exact h)
def catalog_Catalog_Candidates_1 (zz0 : Int) (zz1 : Int) (zz2 : Int) (c0 : Addr) (w : World) (R : Bool → World → Prop) : Prop :=
 newS w [(Value.int .i64 zz0), (Value.int .i64 zz1), (Value.int .i64 zz2)] 30 fun a vw=>∃ (t4 : Sl), (ldc vw c0 [(Sl.v t4)]) ∧ ∃ (zz24 : Int) (zz25 : Int) (zz26 : Int), (ldc vw a [(Value.int .i64 zz24), (Value.int .i64 zz25), (Value.int .i64 zz26)]) ∧ callS Tryz.prog 53 [(Sl.v t4), (Value.agg #[(Value.int .i64 zz24), (Value.int .i64 zz25), (Value.int .i64 zz26)])] vw fun v vw2=>∃ (t6 : Bool), v = (Value.bool t6) ∧ R (!t6) vw2
set_option maxHeartbeats 8000000 in
theorem catalog_Catalog_Candidates_1.sound (zz0 : Int) (zz1 : Int) (zz2 : Int) (c0 : Addr) (w : World) (R : Bool → World → Prop) (h : catalog_Catalog_Candidates_1 zz0 zz1 zz2 c0 w R) : callS Tryz.prog 68 [(Value.agg #[(Value.int .i64 zz0), (Value.int .i64 zz1), (Value.int .i64 zz2)]), (Value.pointer (some c0))] w (fun v w'=>∃ (r0 : Bool), v = (Value.bool r0) ∧ R r0 w') := by
 unfold catalog_Catalog_Candidates_1 at h
 refine calls_of_vc 8 rfl Tryz.func68 rfl (by kernel_rfl) (by simp) ?_
 refine Vc.seq ?_
 refine Vc.region ?_
 refine vcL_eff rfl (opVC_new rfl (fun a=>Value.pointer (some a)) (by kernel_rfl) (newS.mono h fun a vw hx h=>?_))
 refine vcL_pure rfl rfl (Value.bool false) (fun w=>by kernel_rfl) ?_
 refine vcL_nil ?_
 refine Vc.seq ?_
 refine Vc.region ?_
 obtain ⟨t4, hc, h⟩ := h
 refine vcL_val rfl rfl (Sl.v t4) (exec_load rfl (by kernel_rfl) (run_load1 (fun w=>by kernel_rfl) ((hc)))) ?_
 obtain ⟨zz24, zz25, zz26, hc1, h⟩ := h
 refine vcL_val rfl rfl (Value.agg #[(Value.int .i64 zz24), (Value.int .i64 zz25), (Value.int .i64 zz26)]) (exec_load rfl (by kernel_rfl) (run_loadN (fun w=>by kernel_rfl) (fun w=>by kernel_rfl) ((hc1)))) ?_
 refine vcL_eff rfl (opVC_call rfl (by kernel_rfl) (callS.mono h fun v vw2 h=>?_))
 obtain ⟨t6, rfl, h⟩ := h
 refine vcL_purs 2 [(3, (Value.bool (!t6))), (7, (Value.bool (!t6)))] (by kernel_rfl) ?_
 refine vcL_nil ?_
 refine Vc.ret ?_
 refine outs_ret ?_
 refine done_mk (Value.bool (!t6)) (res1 (resC_tmp (by kernel_rfl))) ?_
 exact ⟨(!t6), rfl, h⟩
theorem catalog_Catalog_Candidates_1.go {zz0 : Int} {zz1 : Int} {zz2 : Int} {c0 : Addr} {w : World} {k : Value → World → Prop} (h : catalog_Catalog_Candidates_1 zz0 zz1 zz2 c0 w fun r0 w'=>k (Value.bool r0) w') : callS Tryz.prog 68 [(Value.agg #[(Value.int .i64 zz0), (Value.int .i64 zz1), (Value.int .i64 zz2)]), (Value.pointer (some c0))] w k := (catalog_Catalog_Candidates_1.sound zz0 zz1 zz2 c0 w _ h).mono (by rintro _ _ ⟨r0, rfl, h⟩; exact h)
def slices_SortStableFunc_apiVersionapiVersion (x : Sl) (cmp : Value) (w : World) (R : World → Prop) : Prop :=
 callS Tryz.prog 111 [(Sl.v x), (Value.int .i64 (x.len : Int)), cmp] w fun v vw=>v = (Value.tuple #[]) ∧ R vw
set_option maxHeartbeats 8000000 in
theorem slices_SortStableFunc_apiVersionapiVersion.sound (x : Sl) (cmp : Value) (w : World) (R : World → Prop) (h : slices_SortStableFunc_apiVersionapiVersion x cmp w R) : callS Tryz.prog 69 [(Sl.v x), cmp] w (fun v w'=>v = (Value.tuple #[]) ∧ R w') := by
 unfold slices_SortStableFunc_apiVersionapiVersion at h
 refine calls_of_vc 9 rfl Tryz.func69 rfl (by kernel_rfl) (by simp) ?_
 refine Vc.region ?_
 refine vcL_purs 4 [(7, cmp), (6, (Value.int .i64 (x.len : Int))), (5, (Sl.v x)), (4, (Sl.v x))] (by kernel_rfl) ?_
 refine vcL_eff rfl (opVC_call rfl (by kernel_rfl) (callS.mono h fun v vw h=>?_))
 obtain ⟨rfl, h⟩ := h
 refine vcL_nil ?_
 refine done_mk (Value.tuple #[]) (res0 ) ?_
 exact ⟨rfl, h⟩
theorem slices_SortStableFunc_apiVersionapiVersion.go {x : Sl} {cmp : Value} {w : World} {k : Value → World → Prop} (h : slices_SortStableFunc_apiVersionapiVersion x cmp w fun  w'=>k (Value.tuple #[]) w') : callS Tryz.prog 69 [(Sl.v x), cmp] w k := (slices_SortStableFunc_apiVersionapiVersion.sound x cmp w _ h).mono (by rintro _ _ ⟨rfl, h⟩; exact h)
def catalog_Catalog_Candidates_2 (zza : Int) (zzb : Int) (zzc : Int) (zzd : Int) (zze : Int) (zzf : Int) (c0 : Addr) (c1 : Addr) (w : World) (R : Int → World → Prop) : Prop :=
 newS w [(Value.int .i64 zza), (Value.int .i64 zzb), (Value.int .i64 zzc)] 30 fun a vw=>newS vw [(Value.int .i64 zzd), (Value.int .i64 zze), (Value.int .i64 zzf)] 30 fun a1 vw2=>bnd vw2.drew fun (vw3 : World)=>∃ (t7 : Sl), (ldc vw3 c0 [(Sl.v t7)]) ∧ ∃ (t8 : ByteArray), (ldc vw3 c1 [(Value.string t8)]) ∧ ∃ (zz4e : Int) (zz4f : Int) (zz4g : Int), (ldc vw3 a1 [(Value.int .i64 zz4e), (Value.int .i64 zz4f), (Value.int .i64 zz4g)]) ∧ ∃ (t13 : Sl), (ldc vw3 c0 [(Sl.v t13)]) ∧ ∃ (t14 : ByteArray), (ldc vw3 c1 [(Value.string t14)]) ∧ ∃ (zz45 : Int) (zz46 : Int) (zz47 : Int), (ldc vw3 a [(Value.int .i64 zz45), (Value.int .i64 zz46), (Value.int .i64 zz47)]) ∧ callX Tryz.prog 72 [(Sl.v t7), (Value.agg #[(Value.string t8), (Value.int .i64 zz4e), (Value.int .i64 zz4f), (Value.int .i64 zz4g)])] vw3 fun v vw9=>∃ (t11 : Bool), v = (Value.bool t11) ∧ callX Tryz.prog 71 [(Value.bool t11)] vw9 fun v11 vw10=>∃ (t12 : Int), v11 = (Value.int .i64 t12) ∧ callS Tryz.prog 72 [(Sl.v t13), (Value.agg #[(Value.string t14), (Value.int .i64 zz45), (Value.int .i64 zz46), (Value.int .i64 zz47)])] vw10 fun v14 vw13=>∃ (t17 : Bool), v14 = (Value.bool t17) ∧ callS Tryz.prog 71 [(Value.bool t17)] vw13 fun v17 vw16=>∃ (t18 : Int), v17 = (Value.int .i64 t18) ∧ R (wrapI (t12 - t18)) vw16
set_option maxHeartbeats 8000000 in
theorem catalog_Catalog_Candidates_2.sound (zza : Int) (zzb : Int) (zzc : Int) (zzd : Int) (zze : Int) (zzf : Int) (c0 : Addr) (c1 : Addr) (w : World) (R : Int → World → Prop) (h : catalog_Catalog_Candidates_2 zza zzb zzc zzd zze zzf c0 c1 w R) : callS Tryz.prog 70 [(Value.agg #[(Value.int .i64 zza), (Value.int .i64 zzb), (Value.int .i64 zzc)]), (Value.agg #[(Value.int .i64 zzd), (Value.int .i64 zze), (Value.int .i64 zzf)]), (Value.pointer (some c0)), (Value.pointer (some c1))] w (fun v w'=>∃ (r0 : Int), v = (Value.int .i64 r0) ∧ R r0 w') := by
 unfold catalog_Catalog_Candidates_2 at h
 refine calls_of_vc 20 rfl Tryz.func70 rfl (by kernel_rfl) (by simp) ?_
 refine Vc.seq ?_
 refine Vc.region ?_
 refine vcL_eff rfl (opVC_new rfl (fun a=>Value.pointer (some a)) (by kernel_rfl) (newS.mono h fun a vw hx h=>?_))
 refine vcL_eff rfl (opVC_new rfl (fun a=>Value.pointer (some a)) (by kernel_rfl) (newS.mono h fun a1 vw2 hx h=>?_))
 refine vcL_pure rfl rfl (Value.int .i64 0) (fun w=>by kernel_rfl) ?_
 refine vcL_nil ?_
 refine Vc.seq ?_
 obtain ⟨vw3, hvw3⟩ : ∃ y, y = vw2.drew := ⟨_, rfl⟩
 have h := h vw3 hvw3
 refine Vc.draw (by kernel_rfl) (fun i=>!(memN [10, 11] i)) (.val 0 (.val 1 (.val 2 (.pur 3 (.val 6 (.val 7 (.val 8 (.pur 9 (.eff 4 (.eff 5 (.eff 10 (.eff 11 (.pur 12 (.pur 13 .fin)) .stop) .stop) .stop) .stop))))))))) (by kernel_rfl) ?_
 rw [← hvw3]
 clear hvw3
 obtain ⟨t7, hc, h⟩ := h
 refine vcS_val rfl rfl rfl (Sl.v t7) (fun w' hx=>exec_load rfl (by kernel_rfl) (run_load1 (fun w=>by kernel_rfl) ((hc).ext hx))) ?_
 obtain ⟨t8, hc4, h⟩ := h
 refine vcS_val rfl rfl rfl (Value.string t8) (fun w' hx=>exec_load rfl (by kernel_rfl) (run_load1 (fun w=>by kernel_rfl) ((hc4).ext hx))) ?_
 obtain ⟨zz4e, zz4f, zz4g, hc5, h⟩ := h
 refine vcS_val rfl rfl rfl (Value.agg #[(Value.int .i64 zz4e), (Value.int .i64 zz4f), (Value.int .i64 zz4g)]) (fun w' hx=>exec_load rfl (by kernel_rfl) (run_loadN (fun w=>by kernel_rfl) (fun w=>by kernel_rfl) ((hc5).ext hx))) ?_
 refine vcS_pure rfl rfl rfl (Value.agg #[(Value.string t8), (Value.int .i64 zz4e), (Value.int .i64 zz4f), (Value.int .i64 zz4g)]) (fun w=>by kernel_rfl) ?_
 obtain ⟨t13, hc6, h⟩ := h
 refine vcS_val rfl rfl rfl (Sl.v t13) (fun w' hx=>exec_load rfl (by kernel_rfl) (run_load1 (fun w=>by kernel_rfl) ((hc6).ext hx))) ?_
 obtain ⟨t14, hc7, h⟩ := h
 refine vcS_val rfl rfl rfl (Value.string t14) (fun w' hx=>exec_load rfl (by kernel_rfl) (run_load1 (fun w=>by kernel_rfl) ((hc7).ext hx))) ?_
 obtain ⟨zz45, zz46, zz47, hc8, h⟩ := h
 refine vcS_val rfl rfl rfl (Value.agg #[(Value.int .i64 zz45), (Value.int .i64 zz46), (Value.int .i64 zz47)]) (fun w' hx=>exec_load rfl (by kernel_rfl) (run_loadN (fun w=>by kernel_rfl) (fun w=>by kernel_rfl) ((hc8).ext hx))) ?_
 refine vcS_pure rfl rfl rfl (Value.agg #[(Value.string t14), (Value.int .i64 zz45), (Value.int .i64 zz46), (Value.int .i64 zz47)]) (fun w=>by kernel_rfl) ?_
 refine vcS_eff rfl rfl (opVC_call rfl (by kernel_rfl) (callS.mono h fun v vw9 h=>?_)) vcS_stop
 obtain ⟨hx, h⟩ := h
 obtain ⟨t11, rfl, h⟩ := h
 refine ⟨fun _ => hx, ?_⟩
 refine vcS_eff rfl rfl (opVC_call rfl (by kernel_rfl) (callS.mono h fun v11 vw10 h=>?_)) vcS_stop
 obtain ⟨hx12, h⟩ := h
 obtain ⟨t12, rfl, h⟩ := h
 refine ⟨fun _ => hx12, ?_⟩
 refine vcS_eff rfl rfl (opVC_call rfl (by kernel_rfl) (callS.mono h fun v14 vw13 h=>?_)) vcS_stop
 obtain ⟨t17, rfl, h⟩ := h
 refine ⟨fun hb=>absurd hb (by decide), ?_⟩
 refine vcS_eff rfl rfl (opVC_call rfl (by kernel_rfl) (callS.mono h fun v17 vw16 h=>?_)) vcS_stop
 obtain ⟨t18, rfl, h⟩ := h
 refine ⟨fun hb=>absurd hb (by decide), ?_⟩
 refine vcS_pure rfl rfl rfl (Value.int .i64 (wrapI (t12 - t18))) (fun w=>by kernel_rfl) ?_
 refine vcS_pure rfl rfl rfl (Value.int .i64 (wrapI (t12 - t18))) (fun w=>by kernel_rfl) ?_
 refine vcS_fin ?_
 refine Vc.ret ?_
 refine outs_ret ?_
 refine done_mk (Value.int .i64 (wrapI (t12 - t18))) (res1 (resC_tmp (by kernel_rfl))) ?_
 exact ⟨(wrapI (t12 - t18)), rfl, h⟩
theorem catalog_Catalog_Candidates_2.go {zza : Int} {zzb : Int} {zzc : Int} {zzd : Int} {zze : Int} {zzf : Int} {c0 : Addr} {c1 : Addr} {w : World} {k : Value → World → Prop} (h : catalog_Catalog_Candidates_2 zza zzb zzc zzd zze zzf c0 c1 w fun r0 w'=>k (Value.int .i64 r0) w') : callS Tryz.prog 70 [(Value.agg #[(Value.int .i64 zza), (Value.int .i64 zzb), (Value.int .i64 zzc)]), (Value.agg #[(Value.int .i64 zzd), (Value.int .i64 zze), (Value.int .i64 zzf)]), (Value.pointer (some c0)), (Value.pointer (some c1))] w k := (catalog_Catalog_Candidates_2.sound zza zzb zzc zzd zze zzf c0 c1 w _ h).mono (by rintro _ _ ⟨r0, rfl, h⟩; exact h)
def catalog_order (is : Bool) (w : World) (R : Int → World → Prop) : Prop :=
 ((is = true → R 1 w) ∧ (is = false → R 0 w))
set_option maxHeartbeats 8000000 in
theorem catalog_order.sound (is : Bool) (w : World) (R : Int → World → Prop) (h : catalog_order is w R) : callS Tryz.prog 71 [(Value.bool is)] w (fun v w'=>∃ (r0 : Int), v = (Value.int .i64 r0) ∧ R r0 w') := by
 unfold catalog_order at h
 refine calls_of_vc 4 rfl Tryz.func71 rfl (by kernel_rfl) (by simp) ?_
 refine Vc.seq ?_
 refine Vc.region ?_
 refine vcL_pure rfl rfl (Value.int .i64 0) (fun w=>by kernel_rfl) ?_
 refine vcL_nil ?_
 refine Vc.seq ?_
 refine Vc.seq ?_
 refine Vc.region ?_
 refine vcL_pure rfl rfl (Value.bool is) (fun w=>by kernel_rfl) ?_
 refine vcL_nil ?_
 refine Vc.cond is (by kernel_rfl) (fun hb=>?_) (fun hb=>?_)
 ·have h := h.1 (hb)
  refine Vc.seq ?_
  refine Vc.region ?_
  refine vcL_pure rfl rfl (Value.int .i64 1) (fun w=>by kernel_rfl) ?_
  refine vcL_nil ?_
  refine Vc.ret ?_
  refine outs_ret ?_
  refine done_mk (Value.int .i64 1) (res1 (resC_tmp (by kernel_rfl))) ?_
  exact ⟨1, rfl, h⟩
 ·have h := h.2 (hb)
  refine Vc.skip ?_
  refine Vc.seq ?_
  refine Vc.region ?_
  refine vcL_pure rfl rfl (Value.int .i64 0) (fun w=>by kernel_rfl) ?_
  refine vcL_nil ?_
  refine Vc.ret ?_
  refine outs_ret ?_
  refine done_mk (Value.int .i64 0) (res1 (resC_tmp (by kernel_rfl))) ?_
  exact ⟨0, rfl, h⟩
theorem catalog_order.go {is : Bool} {w : World} {k : Value → World → Prop} (h : catalog_order is w fun r0 w'=>k (Value.int .i64 r0) w') : callS Tryz.prog 71 [(Value.bool is)] w k := (catalog_order.sound is w _ h).mono (by rintro _ _ ⟨r0, rfl, h⟩; exact h)
def slices_Contains_apiPinapiPin (vs : Sl) (zz30 : ByteArray) (zz31 : Int) (zz32 : Int) (zz33 : Int) (w : World) (R : Bool → World → Prop) : Prop :=
 newS w [(Value.string zz30), (Value.int .i64 zz31), (Value.int .i64 zz32), (Value.int .i64 zz33)] 32 fun a vw=>∃ (zz5p : ByteArray) (zz5r : Int) (zz5s : Int) (zz5t : Int), (ldc vw a [(Value.string zz5p), (Value.int .i64 zz5r), (Value.int .i64 zz5s), (Value.int .i64 zz5t)]) ∧ callS Tryz.prog 112 [(Sl.v vs), (Value.agg #[(Value.string zz5p), (Value.int .i64 zz5r), (Value.int .i64 zz5s), (Value.int .i64 zz5t)])] vw fun v vw1=>∃ (t7 : Int), v = (Value.int .i64 t7) ∧ R (decide (0 ≤ t7)) vw1
set_option maxHeartbeats 8000000 in
theorem slices_Contains_apiPinapiPin.sound (vs : Sl) (zz30 : ByteArray) (zz31 : Int) (zz32 : Int) (zz33 : Int) (w : World) (R : Bool → World → Prop) (h : slices_Contains_apiPinapiPin vs zz30 zz31 zz32 zz33 w R) : callS Tryz.prog 72 [(Sl.v vs), (Value.agg #[(Value.string zz30), (Value.int .i64 zz31), (Value.int .i64 zz32), (Value.int .i64 zz33)])] w (fun v w'=>∃ (r0 : Bool), v = (Value.bool r0) ∧ R r0 w') := by
 unfold slices_Contains_apiPinapiPin at h
 refine calls_of_vc 9 rfl Tryz.func72 rfl (by kernel_rfl) (by simp) ?_
 refine Vc.seq ?_
 refine Vc.region ?_
 refine vcL_eff rfl (opVC_new rfl (fun a=>Value.pointer (some a)) (by kernel_rfl) (newS.mono h fun a vw hx h=>?_))
 refine vcL_pure rfl rfl (Value.bool false) (fun w=>by kernel_rfl) ?_
 refine vcL_nil ?_
 refine Vc.seq ?_
 refine Vc.region ?_
 refine vcL_pure rfl rfl (Sl.v vs) (fun w=>by kernel_rfl) ?_
 obtain ⟨zz5p, zz5r, zz5s, zz5t, hc, h⟩ := h
 refine vcL_val rfl rfl (Value.agg #[(Value.string zz5p), (Value.int .i64 zz5r), (Value.int .i64 zz5s), (Value.int .i64 zz5t)]) (exec_load rfl (by kernel_rfl) (run_loadN (fun w=>by kernel_rfl) (fun w=>by kernel_rfl) ((hc)))) ?_
 refine vcL_eff rfl (opVC_call rfl (by kernel_rfl) (callS.mono h fun v vw1 h=>?_))
 obtain ⟨t7, rfl, h⟩ := h
 refine vcL_purs 2 [(4, (Value.bool (decide (0 ≤ t7)))), (8, (Value.bool (decide (0 ≤ t7))))] (by kernel_rfl) ?_
 refine vcL_nil ?_
 refine Vc.ret ?_
 refine outs_ret ?_
 refine done_mk (Value.bool (decide (0 ≤ t7))) (res1 (resC_tmp (by kernel_rfl))) ?_
 exact ⟨(decide (0 ≤ t7)), rfl, h⟩
theorem slices_Contains_apiPinapiPin.go {vs : Sl} {zz30 : ByteArray} {zz31 : Int} {zz32 : Int} {zz33 : Int} {w : World} {k : Value → World → Prop} (h : slices_Contains_apiPinapiPin vs zz30 zz31 zz32 zz33 w fun r0 w'=>k (Value.bool r0) w') : callS Tryz.prog 72 [(Sl.v vs), (Value.agg #[(Value.string zz30), (Value.int .i64 zz31), (Value.int .i64 zz32), (Value.int .i64 zz33)])] w k := (slices_Contains_apiPinapiPin.sound vs zz30 zz31 zz32 zz33 w _ h).mono (by rintro _ _ ⟨r0, rfl, h⟩; exact h)
def catalog_Catalog_All_1 (zz2b : ByteArray) (zz2e : Int) (zz2f : Int) (zz2g : Int) (zz2a : Sl) (zz2d : Sl) (zz2c : Sl) (zz2i : ByteArray) (zz2l : Int) (zz2m : Int) (zz2n : Int) (zz2h : Sl) (zz2k : Sl) (zz2j : Sl) (w : World) (R : Int → World → Prop) : Prop :=
 newS w [(Value.string zz2b), (Value.int .i64 zz2e), (Value.int .i64 zz2f), (Value.int .i64 zz2g), (Sl.v zz2a), (Sl.v zz2d), (Sl.v zz2c)] 48 fun a vw=>newS vw [(Value.string zz2i), (Value.int .i64 zz2l), (Value.int .i64 zz2m), (Value.int .i64 zz2n), (Sl.v zz2h), (Sl.v zz2k), (Sl.v zz2j)] 48 fun a1 vw2=>bnd vw2.drew fun (vw3 : World)=>∃ (t6 : ByteArray), (ldc vw3 a [(Value.string t6)]) ∧ ∃ (t8 : ByteArray), (ldc vw3 a1 [(Value.string t8)]) ∧ ∃ (zz4h : Int) (zz4i : Int) (zz4j : Int), (ldc vw3 (a.add 1) [(Value.int .i64 zz4h), (Value.int .i64 zz4i), (Value.int .i64 zz4j)]) ∧ ∃ (zz4k : Int) (zz4l : Int) (zz4m : Int), (ldc vw3 (a1.add 1) [(Value.int .i64 zz4k), (Value.int .i64 zz4l), (Value.int .i64 zz4m)]) ∧ callX Tryz.prog 77 [(Value.string t6), (Value.string t8)] vw3 fun v vw7=>∃ (t9 : Int), v = (Value.int .i64 t9) ∧ callS Tryz.prog 65 [(Value.agg #[(Value.int .i64 zz4h), (Value.int .i64 zz4i), (Value.int .i64 zz4j)]), (Value.agg #[(Value.int .i64 zz4k), (Value.int .i64 zz4l), (Value.int .i64 zz4m)])] vw7 fun v9 vw8=>∃ (t14 : Int), v9 = (Value.int .i64 t14) ∧ newS vw8 [(Value.int .i64 t9), (Value.int .i64 t14)] 3 fun a11 vw12=>callS Tryz.prog 76 [(Sl.v (Sl.mk (some a11) 2 2))] vw12 fun v14 vw13=>∃ (t16 : Int), v14 = (Value.int .i64 t16) ∧ R t16 vw13
set_option maxHeartbeats 8000000 in
theorem catalog_Catalog_All_1.sound (zz2b : ByteArray) (zz2e : Int) (zz2f : Int) (zz2g : Int) (zz2a : Sl) (zz2d : Sl) (zz2c : Sl) (zz2i : ByteArray) (zz2l : Int) (zz2m : Int) (zz2n : Int) (zz2h : Sl) (zz2k : Sl) (zz2j : Sl) (w : World) (R : Int → World → Prop) (h : catalog_Catalog_All_1 zz2b zz2e zz2f zz2g zz2a zz2d zz2c zz2i zz2l zz2m zz2n zz2h zz2k zz2j w R) : callS Tryz.prog 75 [(Value.agg #[(Value.string zz2b), (Value.int .i64 zz2e), (Value.int .i64 zz2f), (Value.int .i64 zz2g), (Sl.v zz2a), (Sl.v zz2d), (Sl.v zz2c)]), (Value.agg #[(Value.string zz2i), (Value.int .i64 zz2l), (Value.int .i64 zz2m), (Value.int .i64 zz2n), (Sl.v zz2h), (Sl.v zz2k), (Sl.v zz2j)])] w (fun v w'=>∃ (r0 : Int), v = (Value.int .i64 r0) ∧ R r0 w') := by
 unfold catalog_Catalog_All_1 at h
 refine calls_of_vc 17 rfl Tryz.func75 rfl (by kernel_rfl) (by simp) ?_
 refine Vc.seq ?_
 refine Vc.region ?_
 refine vcL_eff rfl (opVC_new rfl (fun a=>Value.pointer (some a)) (by kernel_rfl) (newS.mono h fun a vw hx h=>?_))
 refine vcL_eff rfl (opVC_new rfl (fun a=>Value.pointer (some a)) (by kernel_rfl) (newS.mono h fun a1 vw2 hx h=>?_))
 refine vcL_pure rfl rfl (Value.int .i64 0) (fun w=>by kernel_rfl) ?_
 refine vcL_nil ?_
 refine Vc.seq ?_
 obtain ⟨vw3, hvw3⟩ : ∃ y, y = vw2.drew := ⟨_, rfl⟩
 have h := h vw3 hvw3
 refine Vc.draw (by kernel_rfl) (fun i=>!(memN [9, 10, 11] i)) (.pur 0 (.val 1 (.pur 2 (.val 3 (.pur 5 (.val 6 (.pur 7 (.val 8 (.eff 4 (.eff 9 (.eff 10 (.eff 11 (.pur 12 .fin) .stop) .stop) .stop) .stop))))))))) (by kernel_rfl) ?_
 rw [← hvw3]
 clear hvw3
 refine vcS_pure rfl rfl rfl (Value.pointer (some a)) (fun w=>by kernel_rfl) ?_
 obtain ⟨t6, hc, h⟩ := h
 refine vcS_val rfl rfl rfl (Value.string t6) (fun w' hx=>exec_load rfl (by kernel_rfl) (run_load1 (fun w=>by kernel_rfl) ((hc).ext hx))) ?_
 refine vcS_pure rfl rfl rfl (Value.pointer (some a1)) (fun w=>by kernel_rfl) ?_
 obtain ⟨t8, hc4, h⟩ := h
 refine vcS_val rfl rfl rfl (Value.string t8) (fun w' hx=>exec_load rfl (by kernel_rfl) (run_load1 (fun w=>by kernel_rfl) ((hc4).ext hx))) ?_
 refine vcS_pure rfl rfl rfl (Value.pointer (some (a.add 1))) (fun w=>by kernel_rfl) ?_
 obtain ⟨zz4h, zz4i, zz4j, hc5, h⟩ := h
 refine vcS_val rfl rfl rfl (Value.agg #[(Value.int .i64 zz4h), (Value.int .i64 zz4i), (Value.int .i64 zz4j)]) (fun w' hx=>exec_load rfl (by kernel_rfl) (run_loadN (fun w=>by kernel_rfl) (fun w=>by kernel_rfl) ((hc5).ext hx))) ?_
 refine vcS_pure rfl rfl rfl (Value.pointer (some (a1.add 1))) (fun w=>by kernel_rfl) ?_
 obtain ⟨zz4k, zz4l, zz4m, hc6, h⟩ := h
 refine vcS_val rfl rfl rfl (Value.agg #[(Value.int .i64 zz4k), (Value.int .i64 zz4l), (Value.int .i64 zz4m)]) (fun w' hx=>exec_load rfl (by kernel_rfl) (run_loadN (fun w=>by kernel_rfl) (fun w=>by kernel_rfl) ((hc6).ext hx))) ?_
 refine vcS_eff rfl rfl (opVC_call rfl (by kernel_rfl) (callS.mono h fun v vw7 h=>?_)) vcS_stop
 obtain ⟨hx, h⟩ := h
 obtain ⟨t9, rfl, h⟩ := h
 refine ⟨fun _ => hx, ?_⟩
 refine vcS_eff rfl rfl (opVC_call rfl (by kernel_rfl) (callS.mono h fun v9 vw8 h=>?_)) vcS_stop
 obtain ⟨t14, rfl, h⟩ := h
 refine ⟨fun hb=>absurd hb (by decide), ?_⟩
 refine vcS_eff rfl rfl (opVC_new rfl (fun a=>Value.slice (some a) 2 2) (by kernel_rfl) (newS.mono h fun a11 vw12 hx h=>?_)) vcS_stop
 refine ⟨fun hb=>absurd hb (by decide), ?_⟩
 refine vcS_eff rfl rfl (opVC_call rfl (by kernel_rfl) (callS.mono h fun v14 vw13 h=>?_)) vcS_stop
 obtain ⟨t16, rfl, h⟩ := h
 refine ⟨fun hb=>absurd hb (by decide), ?_⟩
 refine vcS_pure rfl rfl rfl (Value.int .i64 t16) (fun w=>by kernel_rfl) ?_
 refine vcS_fin ?_
 refine Vc.ret ?_
 refine outs_ret ?_
 refine done_mk (Value.int .i64 t16) (res1 (resC_tmp (by kernel_rfl))) ?_
 exact ⟨t16, rfl, h⟩
theorem catalog_Catalog_All_1.go {zz2b : ByteArray} {zz2e : Int} {zz2f : Int} {zz2g : Int} {zz2a : Sl} {zz2d : Sl} {zz2c : Sl} {zz2i : ByteArray} {zz2l : Int} {zz2m : Int} {zz2n : Int} {zz2h : Sl} {zz2k : Sl} {zz2j : Sl} {w : World} {k : Value → World → Prop} (h : catalog_Catalog_All_1 zz2b zz2e zz2f zz2g zz2a zz2d zz2c zz2i zz2l zz2m zz2n zz2h zz2k zz2j w fun r0 w'=>k (Value.int .i64 r0) w') : callS Tryz.prog 75 [(Value.agg #[(Value.string zz2b), (Value.int .i64 zz2e), (Value.int .i64 zz2f), (Value.int .i64 zz2g), (Sl.v zz2a), (Sl.v zz2d), (Sl.v zz2c)]), (Value.agg #[(Value.string zz2i), (Value.int .i64 zz2l), (Value.int .i64 zz2m), (Value.int .i64 zz2n), (Sl.v zz2h), (Sl.v zz2k), (Sl.v zz2j)])] w k := (catalog_Catalog_All_1.sound zz2b zz2e zz2f zz2g zz2a zz2d zz2c zz2i zz2l zz2m zz2n zz2h zz2k zz2j w _ h).mono (by rintro _ _ ⟨r0, rfl, h⟩; exact h)
def cmp_Or_int (vals : Sl) (w : World) (R : Int → World → Prop) : Prop :=
 loop1 0 w fun t8 vw nxt=>((t8 < (vals.len : Int) → ∃ (ad : Addr), (vals.a = some ad ∧ (0 : Int) ≤ t8 ∧ t8 < (vals.len : Int)) ∧ ∃ (t11 : Int), (ldc vw (ad.add (t8.toNat * 1)) [(Value.int .i64 t11)]) ∧ ((¬ t11 = 0 → R t11 vw) ∧ (¬ (¬ t11 = 0) → nxt (wrapI (t8 + 1)) vw))) ∧ (¬ (t8 < (vals.len : Int)) → R 0 vw))
set_option maxHeartbeats 8000000 in
theorem cmp_Or_int.sound (vals : Sl) (w : World) (R : Int → World → Prop) (h : cmp_Or_int vals w R) : callS Tryz.prog 76 [(Sl.v vals)] w (fun v w'=>∃ (r0 : Int), v = (Value.int .i64 r0) ∧ R r0 w') := by
 unfold cmp_Or_int at h
 refine calls_of_vc 18 rfl Tryz.func76 rfl (by kernel_rfl) (by simp) ?_
 refine Vc.seq ?_
 refine Vc.region ?_
 refine vcL_pure rfl rfl (Value.int .i64 0) (fun w=>by kernel_rfl) ?_
 refine vcL_nil ?_
 refine Vc.seq ?_
 refine Vc.region ?_
 refine vcL_pure rfl rfl (Value.int .i64 0) (fun w=>by kernel_rfl) ?_
 refine vcL_nil ?_
 refine Vc.seq ?_
 refine Vc.seq ?_
 refine Vc.region ?_
 refine vcL_purs 3 [(8, (Value.int .i64 0)), (7, (Value.int .i64 (vals.len : Int))), (6, (Sl.v vals))] (by kernel_rfl) ?_
 refine vcL_nil ?_
 refine Vc.block ?_
 obtain ⟨vI, mu, h, hr⟩ := h
 refine Vc.loopJ (σ := Int) [8] [2, 5, 9, 10, 11, 12, 13, 14, 15, 16] (fun s=>[(8, (Value.int .i64 s))]) (fun s w=>vI s w) (fun s w=>mu s w) 0 h (fun _ => rfl) (by kernel_rfl) ?_
 intro t8 vw j h
 have h := hr t8 vw h
 refine Vc.seq ?_
 refine Vc.region ?_
 refine vcL_pure rfl rfl (Value.bool (decide (t8 < (vals.len : Int)))) (fun w=>by kernel_rfl) ?_
 refine vcL_nil ?_
 refine Vc.seq ?_
 refine Vc.cond (decide (t8 < (vals.len : Int))) (by kernel_rfl) (fun hb=>?_) (fun hb=>?_)
 ·have h := h.1 (of_decide_eq_true hb)
  refine Vc.skip ?_
  refine Vc.seq ?_
  refine Vc.block ?_
  refine Vc.seq ?_
  refine Vc.region ?_
  obtain ⟨ad, hi, h⟩ := h
  refine vcL_pure rfl rfl (Value.pointer (some (ad.add (t8.toNat * 1)))) (fun w=>by exact exec_indexAt (s := vals) (el := 3) rfl (by kernel_rfl) (by kernel_rfl) (by kernel_rfl) (fun w=>by kernel_rfl) (hi).1 (hi).2.1 (hi).2.2 w) ?_
  obtain ⟨t11, hc, h⟩ := h
  refine vcL_val rfl rfl (Value.int .i64 t11) (exec_load rfl (by kernel_rfl) (run_load1 (fun w=>by kernel_rfl) ((hc)))) ?_
  refine vcL_pure rfl rfl (Value.int .i64 t11) (fun w=>by kernel_rfl) ?_
  refine vcL_nil ?_
  refine Vc.seq ?_
  refine Vc.region ?_
  refine vcL_purs 3 [(14, (Value.bool (!(t11 == 0)))), (13, (Value.int .i64 0)), (12, (Value.int .i64 t11))] (by kernel_rfl) ?_
  refine vcL_nil ?_
  refine Vc.cond (!(t11 == 0)) (by kernel_rfl) (fun hb=>?_) (fun hb=>?_)
  ·have h := h.1 (ne_of_nbeq hb)
   refine Vc.seq ?_
   refine Vc.region ?_
   refine vcL_purs 2 [(2, (Value.int .i64 t11)), (15, (Value.int .i64 t11))] (by kernel_rfl) ?_
   refine vcL_nil ?_
   refine Vc.ret ?_
   refine outOf_ret ?_
   refine outOf_ret ?_
   refine outs_ret ?_
   refine done_mk (Value.int .i64 t11) (res1 (resC_tmp (by kernel_rfl))) ?_
   exact ⟨t11, rfl, h⟩
  ·have h := h.2 (nne_of_nbeq hb)
   refine Vc.skip ?_
   refine Vc.region ?_
   refine vcL_purs 2 [(8, (Value.int .i64 (wrapI (t8 + 1)))), (16, (Value.int .i64 (wrapI (t8 + 1))))] (by kernel_rfl) ?_
   refine vcL_nil ?_
   exact ⟨(wrapI (t8 + 1)), 20, ⟨rfl, by kernel_rfl, by kernel_rfl, by kernel_rfl⟩, h⟩
 ·have h := h.2 (of_decide_eq_false hb)
  refine Vc.exit ?_
  refine outOf_hit ?_
  refine Vc.seq ?_
  refine Vc.region ?_
  refine vcL_purs 2 [(2, (Value.int .i64 0)), (17, (Value.int .i64 0))] (by kernel_rfl) ?_
  refine vcL_nil ?_
  refine Vc.ret ?_
  refine outs_ret ?_
  refine done_mk (Value.int .i64 0) (res1 (resC_tmp (by kernel_rfl))) ?_
  exact ⟨0, rfl, h⟩
theorem cmp_Or_int.go {vals : Sl} {w : World} {k : Value → World → Prop} (h : cmp_Or_int vals w fun r0 w'=>k (Value.int .i64 r0) w') : callS Tryz.prog 76 [(Sl.v vals)] w k := (cmp_Or_int.sound vals w _ h).mono (by rintro _ _ ⟨r0, rfl, h⟩; exact h)
def cmp_Compare_string (x : ByteArray) (y : ByteArray) (w : World) (R : Int → World → Prop) : Prop :=
 callS Tryz.prog 114 [(Value.string x)] w fun v vw=>∃ (t8 : Bool), v = (Value.bool t8) ∧ callS Tryz.prog 114 [(Value.string y)] vw fun v2 vw1=>∃ (t10 : Bool), v2 = (Value.bool t10) ∧ ((t8 = true → ((t10 = true → R 0 vw1) ∧ (t10 = false → R (-1) vw1))) ∧ (t8 = false → ((t10 = true → R 1 vw1) ∧ (t10 = false → (((bLt x y) = true → R (-1) vw1) ∧ ((bLt x y) = false → (((!(bLt x y || bEq x y)) = true → R 1 vw1) ∧ ((!(bLt x y || bEq x y)) = false → R 0 vw1))))))))
set_option maxHeartbeats 8000000 in
theorem cmp_Compare_string.sound (x : ByteArray) (y : ByteArray) (w : World) (R : Int → World → Prop) (h : cmp_Compare_string x y w R) : callS Tryz.prog 77 [(Value.string x), (Value.string y)] w (fun v w'=>∃ (r0 : Int), v = (Value.int .i64 r0) ∧ R r0 w') := by
 unfold cmp_Compare_string at h
 refine calls_of_vc 20 rfl Tryz.func77 rfl (by kernel_rfl) (by simp) ?_
 refine Vc.seq ?_
 refine Vc.region ?_
 refine vcL_pure rfl rfl (Value.int .i64 0) (fun w=>by kernel_rfl) ?_
 refine vcL_nil ?_
 refine Vc.seq ?_
 refine Vc.region ?_
 refine vcL_pure rfl rfl (Value.string x) (fun w=>by kernel_rfl) ?_
 refine vcL_eff rfl (opVC_call rfl (by kernel_rfl) (callS.mono h fun v vw h=>?_))
 obtain ⟨t8, rfl, h⟩ := h
 refine vcL_pure rfl rfl (Value.bool t8) (fun w=>by kernel_rfl) ?_
 refine vcL_nil ?_
 refine Vc.seq ?_
 refine Vc.region ?_
 refine vcL_pure rfl rfl (Value.string y) (fun w=>by kernel_rfl) ?_
 refine vcL_eff rfl (opVC_call rfl (by kernel_rfl) (callS.mono h fun v2 vw1 h=>?_))
 obtain ⟨t10, rfl, h⟩ := h
 refine vcL_pure rfl rfl (Value.bool t10) (fun w=>by kernel_rfl) ?_
 refine vcL_nil ?_
 refine Vc.seq ?_
 refine Vc.seq ?_
 refine Vc.region ?_
 refine vcL_pure rfl rfl (Value.bool t8) (fun w=>by kernel_rfl) ?_
 refine vcL_nil ?_
 refine Vc.cond t8 (by kernel_rfl) (fun hb=>?_) (fun hb=>?_)
 ·have h := h.1 (hb)
  refine Vc.seq ?_
  refine Vc.seq ?_
  refine Vc.region ?_
  refine vcL_pure rfl rfl (Value.bool t10) (fun w=>by kernel_rfl) ?_
  refine vcL_nil ?_
  refine Vc.cond t10 (by kernel_rfl) (fun hb=>?_) (fun hb=>?_)
  ·have h := h.1 (hb)
   refine Vc.seq ?_
   refine Vc.region ?_
   refine vcL_pure rfl rfl (Value.int .i64 0) (fun w=>by kernel_rfl) ?_
   refine vcL_nil ?_
   refine Vc.ret ?_
   refine outs_ret ?_
   refine done_mk (Value.int .i64 0) (res1 (resC_tmp (by kernel_rfl))) ?_
   exact ⟨0, rfl, h⟩
  ·have h := h.2 (hb)
   refine Vc.skip ?_
   refine Vc.seq ?_
   refine Vc.region ?_
   refine vcL_pure rfl rfl (Value.int .i64 (-1)) (fun w=>by kernel_rfl) ?_
   refine vcL_nil ?_
   refine Vc.ret ?_
   refine outs_ret ?_
   refine done_mk (Value.int .i64 (-1)) (res1 (resC_tmp (by kernel_rfl))) ?_
   exact ⟨(-1), rfl, h⟩
 ·have h := h.2 (hb)
  refine Vc.skip ?_
  refine Vc.seq ?_
  refine Vc.seq ?_
  refine Vc.region ?_
  refine vcL_pure rfl rfl (Value.bool t10) (fun w=>by kernel_rfl) ?_
  refine vcL_nil ?_
  refine Vc.cond t10 (by kernel_rfl) (fun hb=>?_) (fun hb=>?_)
  ·have h := h.1 (hb)
   refine Vc.seq ?_
   refine Vc.region ?_
   refine vcL_pure rfl rfl (Value.int .i64 1) (fun w=>by kernel_rfl) ?_
   refine vcL_nil ?_
   refine Vc.ret ?_
   refine outs_ret ?_
   refine done_mk (Value.int .i64 1) (res1 (resC_tmp (by kernel_rfl))) ?_
   exact ⟨1, rfl, h⟩
  ·have h := h.2 (hb)
   refine Vc.skip ?_
   refine Vc.seq ?_
   refine Vc.seq ?_
   refine Vc.region ?_
   refine vcL_purs 3 [(16, (Value.bool (bLt x y))), (15, (Value.string y)), (14, (Value.string x))] (by kernel_rfl) ?_
   refine vcL_nil ?_
   refine Vc.cond (bLt x y) (by kernel_rfl) (fun hb=>?_) (fun hb=>?_)
   ·have h := h.1 (hb)
    refine Vc.seq ?_
    refine Vc.region ?_
    refine vcL_pure rfl rfl (Value.int .i64 (-1)) (fun w=>by kernel_rfl) ?_
    refine vcL_nil ?_
    refine Vc.ret ?_
    refine outs_ret ?_
    refine done_mk (Value.int .i64 (-1)) (res1 (resC_tmp (by kernel_rfl))) ?_
    exact ⟨(-1), rfl, h⟩
   ·have h := h.2 (hb)
    refine Vc.skip ?_
    refine Vc.seq ?_
    refine Vc.seq ?_
    refine Vc.region ?_
    refine vcL_purs 3 [(19, (Value.bool (!(bLt x y || bEq x y)))), (18, (Value.string y)), (17, (Value.string x))] (by kernel_rfl) ?_
    refine vcL_nil ?_
    refine Vc.cond (!(bLt x y || bEq x y)) (by kernel_rfl) (fun hb=>?_) (fun hb=>?_)
    ·have h := h.1 (hb)
     refine Vc.seq ?_
     refine Vc.region ?_
     refine vcL_pure rfl rfl (Value.int .i64 1) (fun w=>by kernel_rfl) ?_
     refine vcL_nil ?_
     refine Vc.ret ?_
     refine outs_ret ?_
     refine done_mk (Value.int .i64 1) (res1 (resC_tmp (by kernel_rfl))) ?_
     exact ⟨1, rfl, h⟩
    ·have h := h.2 (hb)
     refine Vc.skip ?_
     refine Vc.seq ?_
     refine Vc.region ?_
     refine vcL_pure rfl rfl (Value.int .i64 0) (fun w=>by kernel_rfl) ?_
     refine vcL_nil ?_
     refine Vc.ret ?_
     refine outs_ret ?_
     refine done_mk (Value.int .i64 0) (res1 (resC_tmp (by kernel_rfl))) ?_
     exact ⟨0, rfl, h⟩
theorem cmp_Compare_string.go {x : ByteArray} {y : ByteArray} {w : World} {k : Value → World → Prop} (h : cmp_Compare_string x y w fun r0 w'=>k (Value.int .i64 r0) w') : callS Tryz.prog 77 [(Value.string x), (Value.string y)] w k := (cmp_Compare_string.sound x y w _ h).mono (by rintro _ _ ⟨r0, rfl, h⟩; exact h)
def slices_Clip_apiPackageapiPackage (vs : Sl) (w : World) (R : Sl → World → Prop) : Prop :=
 ((0 : Int) ≤ 0 ∧ 0 ≤ (vs.len : Int) ∧ (vs.len : Int) ≤ (vs.len : Int) ∧ (vs.len : Int) ≤ (vs.cap : Int)) ∧ R (Sl.mk (if (vs.len : Int).toNat = 0 then vs.a else vs.a.map (·.add (0 * 7))) ((vs.len : Int).toNat - 0) ((vs.len : Int).toNat - 0)) w
set_option maxHeartbeats 8000000 in
theorem slices_Clip_apiPackageapiPackage.sound (vs : Sl) (w : World) (R : Sl → World → Prop) (h : slices_Clip_apiPackageapiPackage vs w R) : callS Tryz.prog 78 [(Sl.v vs)] w (fun v w'=>∃ (r0 : Sl), v = (Sl.v r0) ∧ R r0 w') := by
 unfold slices_Clip_apiPackageapiPackage at h
 refine calls_of_vc 9 rfl Tryz.func78 rfl (by kernel_rfl) (by simp) ?_
 refine Vc.seq ?_
 refine Vc.region ?_
 refine vcL_pure rfl rfl (Sl.v Sl.nil) (fun w=>by kernel_rfl) ?_
 refine vcL_nil ?_
 refine Vc.seq ?_
 refine Vc.region ?_
 refine vcL_purs 5 [(7, (Value.int .i64 (vs.len : Int))), (6, (Sl.v vs)), (5, (Value.int .i64 (vs.len : Int))), (4, (Sl.v vs)), (3, (Sl.v vs))] (by kernel_rfl) ?_
 obtain ⟨hi, h⟩ := h
 refine vcL_pure rfl rfl (Sl.v (Sl.mk (if (vs.len : Int).toNat = 0 then vs.a else vs.a.map (·.add (0 * 7))) ((vs.len : Int).toNat - 0) ((vs.len : Int).toNat - 0))) (fun w=>by exact exec_slSlHM (s := vs) (el := 48) (k2 := .i64) (k3 := .i64) rfl (by kernel_rfl) (by kernel_rfl) (by kernel_rfl) (by kernel_rfl) (fun w=>by kernel_rfl) (hi) w) ?_
 refine vcL_pure rfl rfl (Sl.v (Sl.mk (if (vs.len : Int).toNat = 0 then vs.a else vs.a.map (·.add (0 * 7))) ((vs.len : Int).toNat - 0) ((vs.len : Int).toNat - 0))) (fun w=>by kernel_rfl) ?_
 refine vcL_nil ?_
 refine Vc.ret ?_
 refine outs_ret ?_
 refine done_mk (Sl.v (Sl.mk (if (vs.len : Int).toNat = 0 then vs.a else vs.a.map (·.add (0 * 7))) ((vs.len : Int).toNat - 0) ((vs.len : Int).toNat - 0))) (res1 (resC_tmp (by kernel_rfl))) ?_
 exact ⟨(Sl.mk (if (vs.len : Int).toNat = 0 then vs.a else vs.a.map (·.add (0 * 7))) ((vs.len : Int).toNat - 0) ((vs.len : Int).toNat - 0)), rfl, h⟩
theorem slices_Clip_apiPackageapiPackage.go {vs : Sl} {w : World} {k : Value → World → Prop} (h : slices_Clip_apiPackageapiPackage vs w fun r0 w'=>k (Sl.v r0) w') : callS Tryz.prog 78 [(Sl.v vs)] w k := (slices_Clip_apiPackageapiPackage.sound vs w _ h).mono (by rintro _ _ ⟨r0, rfl, h⟩; exact h)
def halyardref02_May (zz0 : Int) (zz1 : Int) (zz2 : Int) (w : World) (R : Bool → World → Prop) : Prop :=
 newS w [(Value.int .i64 zz0), (Value.int .i64 zz1), (Value.int .i64 zz2)] 30 fun a vw=>∃ (t4 : Int), (ldc vw a [(Value.int .i64 t4)]) ∧ callS Tryz.prog 115 [(Value.int .i64 t4)] vw fun v vw1=>∃ (t5 : Bool), v = (Value.bool t5) ∧ ∃ (t8 : Int), grd t5 (ldc vw1 (a.add 1) [(Value.int .i64 t8)]) ∧ gCall t5 (fun (t9 : Bool) (vw3 : World)=>bnd (t5 && t9) fun (b : Bool)=>∃ (t13 : Int), grd b (ldc vw3 (a.add 2) [(Value.int .i64 t13)]) ∧ gCall b (fun (t14 : Bool) (vw7 : World)=>R (b && t14) vw7) (fun q=>callS Tryz.prog 115 [(Value.int .i64 t13)] vw3 fun v8 vw7=>∃ (t14 : Bool), v8 = (Value.bool t14) ∧ q t14 vw7) (fun q=>q false vw3)) (fun q=>callS Tryz.prog 115 [(Value.int .i64 t8)] vw1 fun v4 vw3=>∃ (t9 : Bool), v4 = (Value.bool t9) ∧ q t9 vw3) (fun q=>q false vw1)
set_option maxHeartbeats 8000000 in
theorem halyardref02_May.sound (zz0 : Int) (zz1 : Int) (zz2 : Int) (w : World) (R : Bool → World → Prop) (h : halyardref02_May zz0 zz1 zz2 w R) : callS Tryz.prog 80 [(Value.agg #[(Value.int .i64 zz0), (Value.int .i64 zz1), (Value.int .i64 zz2)])] w (fun v w'=>∃ (r0 : Bool), v = (Value.bool r0) ∧ R r0 w') := by
 unfold halyardref02_May at h
 refine calls_of_vc 16 rfl Tryz.func80 rfl (by kernel_rfl) (by simp) ?_
 refine Vc.seq ?_
 refine Vc.region ?_
 refine vcL_eff rfl (opVC_new rfl (fun a=>Value.pointer (some a)) (by kernel_rfl) (newS.mono h fun a vw hx h=>?_))
 refine vcL_pure rfl rfl (Value.bool false) (fun w=>by kernel_rfl) ?_
 refine vcL_nil ?_
 refine Vc.seq ?_
 refine Vc.region ?_
 refine vcL_pure rfl rfl (Value.pointer (some a)) (fun w=>by kernel_rfl) ?_
 obtain ⟨t4, hc, h⟩ := h
 refine vcL_val rfl rfl (Value.int .i64 t4) (exec_load rfl (by kernel_rfl) (run_load1 (fun w=>by kernel_rfl) ((hc)))) ?_
 refine vcL_eff rfl (opVC_call rfl (by kernel_rfl) (callS.mono h fun v vw1 h=>?_))
 obtain ⟨t5, rfl, h⟩ := h
 refine vcL_pure rfl rfl (Value.bool t5) (fun w=>by kernel_rfl) ?_
 refine vcL_guardP t5 (wanted_g (d := 6) rfl (by kernel_rfl) t5 (by kernel_rfl) t5 (eqT t5)) rfl (Value.pointer (some (a.add 1))) (fun hg w=>by subst hg; kernel_rfl) ?_
 obtain ⟨t8, hc2, h⟩ := h
 refine vcL_guard t5 (wanted_g (d := 6) rfl (by kernel_rfl) t5 (by kernel_rfl) t5 (eqT t5)) rfl (Value.int .i64 t8) (fun hg=>by subst hg; exact exec_load rfl (by kernel_rfl) (run_load1 (fun w=>by kernel_rfl) ((hc2 rfl)))) ?_
 obtain ⟨vJ, hJ, h⟩ := gCall_elim h
 refine vcL_effJ (σ := Bool) t5 (wanted_g (d := 6) rfl (by kernel_rfl) t5 (by kernel_rfl) t5 (eqT t5)) rfl (fun s w=>vJ s w) (fun s=>(Value.bool s)) ?_ (fun hg=>opVC_call rfl (by subst hg; kernel_rfl) (callS.mono (h.1 hg) fun v4 vw3 hq=>?_)) (fun hg=>⟨false, h.2 hg⟩)
 ·intro t9 vw3 h
  subst hJ
  refine vcL_pure rfl rfl (Value.bool (t5 && t9)) (fun w=>by cases t5 <;> kernel_rfl) ?_
  obtain ⟨b, hb⟩ : ∃ y, y = (t5 && t9) := ⟨_, rfl⟩
  have h := h b hb
  refine vcL_pure rfl rfl (Value.bool b) (fun w=>by rw [hb]; kernel_rfl) ?_
  refine vcL_guardP b (wanted_g (d := 11) rfl (by kernel_rfl) b (by kernel_rfl) b (eqT b)) rfl (Value.pointer (some (a.add 2))) (fun hg w=>by subst hg; kernel_rfl) ?_
  obtain ⟨t13, hc6, h⟩ := h
  refine vcL_guard b (wanted_g (d := 11) rfl (by kernel_rfl) b (by kernel_rfl) b (eqT b)) rfl (Value.int .i64 t13) (fun hg=>by subst hg; exact exec_load rfl (by kernel_rfl) (run_load1 (fun w=>by kernel_rfl) ((hc6 rfl)))) ?_
  obtain ⟨vJ10, hJ11, h⟩ := gCall_elim h
  refine vcL_effJ (σ := Bool) b (wanted_g (d := 11) rfl (by kernel_rfl) b (by kernel_rfl) b (eqT b)) rfl (fun s w=>vJ10 s w) (fun s=>(Value.bool s)) ?_ (fun hg=>opVC_call rfl (by subst hg; kernel_rfl) (callS.mono (h.1 hg) fun v8 vw7 hq=>?_)) (fun hg=>⟨false, h.2 hg⟩)
  ·intro t14 vw7 h
   subst hJ11
   refine vcL_pure rfl rfl (Value.bool (b && t14)) (fun w=>by cases b <;> kernel_rfl) ?_
   refine vcL_pure rfl rfl (Value.bool (b && t14)) (fun w=>by kernel_rfl) ?_
   refine vcL_nil ?_
   refine Vc.ret ?_
   refine outs_ret ?_
   refine done_mk (Value.bool (b && t14)) (res1 (resC_tmp (by kernel_rfl))) ?_
   exact ⟨(b && t14), rfl, h⟩
  ·obtain ⟨t14, rfl, hq⟩ := hq
   exact ⟨t14, rfl, hq⟩
 ·obtain ⟨t9, rfl, hq⟩ := hq
  exact ⟨t9, rfl, hq⟩
theorem halyardref02_May.go {zz0 : Int} {zz1 : Int} {zz2 : Int} {w : World} {k : Value → World → Prop} (h : halyardref02_May zz0 zz1 zz2 w fun r0 w'=>k (Value.bool r0) w') : callS Tryz.prog 80 [(Value.agg #[(Value.int .i64 zz0), (Value.int .i64 zz1), (Value.int .i64 zz2)])] w k := (halyardref02_May.sound zz0 zz1 zz2 w _ h).mono (by rintro _ _ ⟨r0, rfl, h⟩; exact h)
def slices_Clone_apiSpanapiSpan (vs : Sl) (w : World) (R : Sl → World → Prop) : Prop :=
 ((vs.a = none → R Sl.nil w) ∧ (¬ (vs.a = none) → newS w [] 83 fun a vw=>appS Tryz.prog 53 53 (Sl.mk (some a) 0 0) (Sl.v vs) vw fun t7 vw1=>R t7 vw1))
set_option maxHeartbeats 8000000 in
theorem slices_Clone_apiSpanapiSpan.sound (vs : Sl) (w : World) (R : Sl → World → Prop) (h : slices_Clone_apiSpanapiSpan vs w R) : callS Tryz.prog 90 [(Sl.v vs)] w (fun v w'=>∃ (r0 : Sl), v = (Sl.v r0) ∧ R r0 w') := by
 unfold slices_Clone_apiSpanapiSpan at h
 refine calls_of_vc 8 rfl Tryz.func90 rfl (by kernel_rfl) (by simp) ?_
 refine Vc.seq ?_
 refine Vc.region ?_
 refine vcL_pure rfl rfl (Sl.v Sl.nil) (fun w=>by kernel_rfl) ?_
 refine vcL_nil ?_
 refine Vc.seq ?_
 refine Vc.seq ?_
 refine Vc.region ?_
 refine vcL_pure rfl rfl (Sl.v vs) (fun w=>by kernel_rfl) ?_
 refine vcL_pure rfl rfl (Value.bool (Option.isNone vs.a)) (fun w=>by cases vs with | mk a_ n_ c_=>cases a_ <;> kernel_rfl) ?_
 refine vcL_nil ?_
 refine Vc.cond (Option.isNone vs.a) (by kernel_rfl) (fun hb=>?_) (fun hb=>?_)
 ·have h := h.1 (Option.isNone_iff_eq_none.1 hb)
  refine Vc.seq ?_
  refine Vc.region ?_
  refine vcL_pure rfl rfl (Sl.v Sl.nil) (fun w=>by kernel_rfl) ?_
  refine vcL_nil ?_
  refine Vc.ret ?_
  refine outs_ret ?_
  refine done_mk (Sl.v Sl.nil) (res1 (resC_tmp (by kernel_rfl))) ?_
  exact ⟨Sl.nil, rfl, h⟩
 ·have h := h.2 (isNone_false hb)
  refine Vc.skip ?_
  refine Vc.seq ?_
  refine Vc.region ?_
  refine vcL_eff rfl (opVC_new rfl (fun a=>Value.slice (some a) 0 0) (by kernel_rfl) (newS.mono h fun a vw hx h=>?_))
  refine vcL_pure rfl rfl (Sl.v vs) (fun w=>by kernel_rfl) ?_
  refine vcL_eff rfl (opVC_sem rfl (c := Builtin.append_ #[53, 53] 53 #[(Sl.v (Sl.mk (some a) 0 0)), (Sl.v vs)]) (by kernel_rfl) (appS.elim (ty := 53) h fun t7 vw1 h=>?_))
  refine vcL_pure rfl rfl (Sl.v t7) (fun w=>by kernel_rfl) ?_
  refine vcL_nil ?_
  refine Vc.ret ?_
  refine outs_ret ?_
  refine done_mk (Sl.v t7) (res1 (resC_tmp (by kernel_rfl))) ?_
  exact ⟨t7, rfl, h⟩
theorem slices_Clone_apiSpanapiSpan.go {vs : Sl} {w : World} {k : Value → World → Prop} (h : slices_Clone_apiSpanapiSpan vs w fun r0 w'=>k (Sl.v r0) w') : callS Tryz.prog 90 [(Sl.v vs)] w k := (slices_Clone_apiSpanapiSpan.sound vs w _ h).mono (by rintro _ _ ⟨r0, rfl, h⟩; exact h)
def span_May (l : Sl) (w : World) (R : Bool → World → Prop) : Prop :=
 ((64 < (l.len : Int) → R false w) ∧ (¬ (64 < (l.len : Int)) → loop2 0 0 w fun least t15 vw nxt=>((t15 < (l.len : Int) → ∃ (ad : Addr), (l.a = some ad ∧ (0 : Int) ≤ t15 ∧ t15 < (l.len : Int)) ∧ ∃ (zz3q : Int) (zz3r : Int) (zz3s : Int) (zz3n : Int) (zz3o : Int) (zz3p : Int), (ldc vw (ad.add (t15.toNat * 6)) [(Value.int .i64 zz3q), (Value.int .i64 zz3r), (Value.int .i64 zz3s), (Value.int .i64 zz3n), (Value.int .i64 zz3o), (Value.int .i64 zz3p)]) ∧ newS vw [(Value.int .i64 0), (Value.int .i64 0), (Value.int .i64 0), (Value.int .i64 0), (Value.int .i64 0), (Value.int .i64 0)] 83 fun a vw1=>stw vw1 a [(Value.int .i64 zz3q), (Value.int .i64 zz3r), (Value.int .i64 zz3s), (Value.int .i64 zz3n), (Value.int .i64 zz3o), (Value.int .i64 zz3p)] fun vw2=>∃ (zz51 : Int) (zz52 : Int) (zz55 : Int), (ldc vw2 a [(Value.int .i64 zz51), (Value.int .i64 zz52), (Value.int .i64 zz55)]) ∧ callS Tryz.prog 123 [(Value.agg #[(Value.int .i64 zz51), (Value.int .i64 zz52), (Value.int .i64 zz55)])] vw2 fun v vw4=>∃ (t22 : Int) (t22b : Bool), v = (Value.tuple #[(Value.int .i64 t22), (Value.bool t22b)]) ∧ ∃ (zz1v : Int) (zz1w : Int) (zz1x : Int), (ldc vw4 (a.add 3) [(Value.int .i64 zz1v), (Value.int .i64 zz1w), (Value.int .i64 zz1x)]) ∧ callS Tryz.prog 123 [(Value.agg #[(Value.int .i64 zz1v), (Value.int .i64 zz1w), (Value.int .i64 zz1x)])] vw4 fun v7 vw6=>∃ (t28 : Int) (t28b : Bool), v7 = (Value.tuple #[(Value.int .i64 t28), (Value.bool t28b)]) ∧ bnd (!t22b) fun (b : Bool)=>bnd (b || (!t28b)) fun (b9 : Bool)=>bnd (b9 || (decide (t22 < least))) fun (b10 : Bool)=>(((b10 || (decide (t28 < t22))) = true → R false vw6) ∧ ((b10 || (decide (t28 < t22))) = false → nxt (wrapI (t28 + 2)) (wrapI (t15 + 1)) vw6))) ∧ (¬ (t15 < (l.len : Int)) → R true vw))))
set_option maxHeartbeats 8000000 in
theorem span_May.sound (l : Sl) (w : World) (R : Bool → World → Prop) (h : span_May l w R) : callS Tryz.prog 91 [(Sl.v l)] w (fun v w'=>∃ (r0 : Bool), v = (Value.bool r0) ∧ R r0 w') := by
 unfold span_May at h
 refine calls_of_vc 50 rfl Tryz.func91 rfl (by kernel_rfl) (by simp) ?_
 refine Vc.seq ?_
 refine Vc.region ?_
 refine vcL_pure rfl rfl (Value.bool false) (fun w=>by kernel_rfl) ?_
 refine vcL_nil ?_
 refine Vc.seq ?_
 refine Vc.seq ?_
 refine Vc.region ?_
 refine vcL_purs 3 [(12, (Value.bool (decide (64 < (l.len : Int))))), (11, (Value.int .i64 (l.len : Int))), (10, (Sl.v l))] (by kernel_rfl) ?_
 refine vcL_nil ?_
 refine Vc.cond (decide (64 < (l.len : Int))) (by kernel_rfl) (fun hb=>?_) (fun hb=>?_)
 ·have h := h.1 (of_decide_eq_true hb)
  refine Vc.seq ?_
  refine Vc.region ?_
  refine vcL_pure rfl rfl (Value.bool false) (fun w=>by kernel_rfl) ?_
  refine vcL_nil ?_
  refine Vc.ret ?_
  refine outs_ret ?_
  refine done_mk (Value.bool false) (res1 (resC_tmp (by kernel_rfl))) ?_
  exact ⟨false, rfl, h⟩
 ·have h := h.2 (of_decide_eq_false hb)
  refine Vc.skip ?_
  refine Vc.seq ?_
  refine Vc.region ?_
  refine vcL_pure rfl rfl (Value.int .i64 0) (fun w=>by kernel_rfl) ?_
  refine vcL_nil ?_
  refine Vc.seq ?_
  refine Vc.seq ?_
  refine Vc.region ?_
  refine vcL_purs 3 [(15, (Value.int .i64 0)), (14, (Value.int .i64 (l.len : Int))), (13, (Sl.v l))] (by kernel_rfl) ?_
  refine vcL_nil ?_
  refine Vc.block ?_
  obtain ⟨vI, mu, h, hr⟩ := h
  refine Vc.loopJ (σ := Int × Int) [3, 15] [2, 5, 6, 7, 8, 9, 16, 17, 18, 19, 20, 21, 22, 23, 24, 25, 26, 27, 28, 29, 30, 31, 32, 33, 34, 35, 36, 37, 38, 39, 40, 41, 42, 43, 44, 45, 46, 47, 48, 49] (fun s=>[(3, (Value.int .i64 s.1)), (15, (Value.int .i64 s.2))]) (fun s w=>vI s.1 s.2 w) (fun s w=>mu s.1 s.2 w) (0, 0) h (fun _ => rfl) (by kernel_rfl) ?_
  rintro ⟨least, t15⟩ vw j h
  have h := hr least t15 vw h
  refine Vc.seq ?_
  refine Vc.region ?_
  refine vcL_pure rfl rfl (Value.bool (decide (t15 < (l.len : Int)))) (fun w=>by kernel_rfl) ?_
  refine vcL_nil ?_
  refine Vc.seq ?_
  refine Vc.cond (decide (t15 < (l.len : Int))) (by kernel_rfl) (fun hb=>?_) (fun hb=>?_)
  ·have h := h.1 (of_decide_eq_true hb)
   refine Vc.skip ?_
   refine Vc.seq ?_
   refine Vc.block ?_
   refine Vc.seq ?_
   refine Vc.region ?_
   obtain ⟨ad, hi, h⟩ := h
   refine vcL_pure rfl rfl (Value.pointer (some (ad.add (t15.toNat * 6)))) (fun w=>by exact exec_indexAt (s := l) (el := 83) rfl (by kernel_rfl) (by kernel_rfl) (by kernel_rfl) (fun w=>by kernel_rfl) (hi).1 (hi).2.1 (hi).2.2 w) ?_
   obtain ⟨zz3q, zz3r, zz3s, zz3n, zz3o, zz3p, hc, h⟩ := h
   refine vcL_val rfl rfl (Value.agg #[(Value.int .i64 zz3q), (Value.int .i64 zz3r), (Value.int .i64 zz3s), (Value.int .i64 zz3n), (Value.int .i64 zz3o), (Value.int .i64 zz3p)]) (exec_load rfl (by kernel_rfl) (run_loadN (fun w=>by kernel_rfl) (fun w=>by kernel_rfl) ((hc)))) ?_
   refine vcL_eff rfl (opVC_new rfl (fun a=>Value.pointer (some a)) (by kernel_rfl) (newS.mono h fun a vw1 hx h=>?_))
   refine vcL_eff rfl (opVC_store rfl rfl (a := a) (by kernel_rfl) (v := (Value.agg #[(Value.int .i64 zz3q), (Value.int .i64 zz3r), (Value.int .i64 zz3s), (Value.int .i64 zz3n), (Value.int .i64 zz3o), (Value.int .i64 zz3p)])) (by kernel_rfl) [(Value.int .i64 zz3q), (Value.int .i64 zz3r), (Value.int .i64 zz3s), (Value.int .i64 zz3n), (Value.int .i64 zz3o), (Value.int .i64 zz3p)] (by kernel_rfl) (fun w=>by kernel_rfl) (by kernel_rfl) (stw.mono h fun vw2 h=>?_))
   refine vcL_nil ?_
   refine Vc.seq ?_
   refine Vc.region ?_
   refine vcL_pure rfl rfl (Value.pointer (some a)) (fun w=>by kernel_rfl) ?_
   obtain ⟨zz51, zz52, zz55, hc3, h⟩ := h
   refine vcL_val rfl rfl (Value.agg #[(Value.int .i64 zz51), (Value.int .i64 zz52), (Value.int .i64 zz55)]) (exec_load rfl (by kernel_rfl) (run_loadN (fun w=>by kernel_rfl) (fun w=>by kernel_rfl) ((hc3)))) ?_
   refine vcL_eff rfl (opVC_call rfl (by kernel_rfl) (callS.mono h fun v vw4 h=>?_))
   obtain ⟨t22, t22b, rfl, h⟩ := h
   refine vcL_purs 5 [(7, (Value.bool t22b)), (6, (Value.int .i64 t22)), (24, (Value.bool t22b)), (23, (Value.int .i64 t22)), (19, (Value.tuple #[(Value.int .i64 t22), (Value.bool t22b)]))] (by kernel_rfl) ?_
   refine vcL_nil ?_
   refine Vc.seq ?_
   refine Vc.region ?_
   refine vcL_pure rfl rfl (Value.pointer (some (a.add 3))) (fun w=>by kernel_rfl) ?_
   obtain ⟨zz1v, zz1w, zz1x, hc5, h⟩ := h
   refine vcL_val rfl rfl (Value.agg #[(Value.int .i64 zz1v), (Value.int .i64 zz1w), (Value.int .i64 zz1x)]) (exec_load rfl (by kernel_rfl) (run_loadN (fun w=>by kernel_rfl) (fun w=>by kernel_rfl) ((hc5)))) ?_
   refine vcL_eff rfl (opVC_call rfl (by kernel_rfl) (callS.mono h fun v7 vw6 h=>?_))
   obtain ⟨t28, t28b, rfl, h⟩ := h
   refine vcL_purs 5 [(9, (Value.bool t28b)), (8, (Value.int .i64 t28)), (30, (Value.bool t28b)), (29, (Value.int .i64 t28)), (25, (Value.tuple #[(Value.int .i64 t28), (Value.bool t28b)]))] (by kernel_rfl) ?_
   refine vcL_nil ?_
   refine Vc.seq ?_
   refine Vc.seq ?_
   refine Vc.region ?_
   refine vcL_purs 2 [(32, (Value.bool (!t22b))), (31, (Value.bool t22b))] (by kernel_rfl) ?_
   obtain ⟨b, hb⟩ : ∃ y, y = (!t22b) := ⟨_, rfl⟩
   have h := h b hb
   refine vcL_pure rfl rfl (Value.bool b) (fun w=>by rw [hb]; kernel_rfl) ?_
   refine vcL_guardP (!b) (wanted_g (d := 33) rfl (by kernel_rfl) b (by kernel_rfl) (!b) (eqF b)) rfl (Value.bool t28b) (fun hg w=>by simp only [Bool.and_eq_true, Bool.not_eq_true'] at hg; obtain rfl := hg; kernel_rfl) ?_
   refine vcL_guardP (!b) (wanted_g (d := 33) rfl (by kernel_rfl) b (by kernel_rfl) (!b) (eqF b)) rfl (Value.bool (!t28b)) (fun hg w=>by simp only [Bool.and_eq_true, Bool.not_eq_true'] at hg; obtain rfl := hg; kernel_rfl) ?_
   refine vcL_pure rfl rfl (Value.bool (b || (!t28b))) (fun w=>by cases b <;> kernel_rfl) ?_
   obtain ⟨b9, hb9⟩ : ∃ y, y = (b || (!t28b)) := ⟨_, rfl⟩
   have h := h b9 hb9
   refine vcL_pure rfl rfl (Value.bool b9) (fun w=>by rw [hb9]; kernel_rfl) ?_
   refine vcL_guardP (!b9) (wanted_g (d := 37) rfl (by kernel_rfl) b9 (by kernel_rfl) (!b9) (eqF b9)) rfl (Value.int .i64 t22) (fun hg w=>by simp only [Bool.and_eq_true, Bool.not_eq_true'] at hg; obtain rfl := hg; kernel_rfl) ?_
   refine vcL_guardP (!b9) (wanted_g (d := 37) rfl (by kernel_rfl) b9 (by kernel_rfl) (!b9) (eqF b9)) rfl (Value.int .i64 least) (fun hg w=>by simp only [Bool.and_eq_true, Bool.not_eq_true'] at hg; obtain rfl := hg; kernel_rfl) ?_
   refine vcL_guardP (!b9) (wanted_g (d := 37) rfl (by kernel_rfl) b9 (by kernel_rfl) (!b9) (eqF b9)) rfl (Value.bool (decide (t22 < least))) (fun hg w=>by simp only [Bool.and_eq_true, Bool.not_eq_true'] at hg; obtain rfl := hg; kernel_rfl) ?_
   refine vcL_pure rfl rfl (Value.bool (b9 || (decide (t22 < least)))) (fun w=>by cases b9 <;> kernel_rfl) ?_
   obtain ⟨b10, hb10⟩ : ∃ y, y = (b9 || (decide (t22 < least))) := ⟨_, rfl⟩
   have h := h b10 hb10
   refine vcL_pure rfl rfl (Value.bool b10) (fun w=>by rw [hb10]; kernel_rfl) ?_
   refine vcL_guardP (!b10) (wanted_g (d := 42) rfl (by kernel_rfl) b10 (by kernel_rfl) (!b10) (eqF b10)) rfl (Value.int .i64 t22) (fun hg w=>by simp only [Bool.and_eq_true, Bool.not_eq_true'] at hg; obtain rfl := hg; kernel_rfl) ?_
   refine vcL_guardP (!b10) (wanted_g (d := 42) rfl (by kernel_rfl) b10 (by kernel_rfl) (!b10) (eqF b10)) rfl (Value.int .i64 t28) (fun hg w=>by simp only [Bool.and_eq_true, Bool.not_eq_true'] at hg; obtain rfl := hg; kernel_rfl) ?_
   refine vcL_guardP (!b10) (wanted_g (d := 42) rfl (by kernel_rfl) b10 (by kernel_rfl) (!b10) (eqF b10)) rfl (Value.bool (decide (t28 < t22))) (fun hg w=>by simp only [Bool.and_eq_true, Bool.not_eq_true'] at hg; obtain rfl := hg; kernel_rfl) ?_
   refine vcL_pure rfl rfl (Value.bool (b10 || (decide (t28 < t22)))) (fun w=>by cases b10 <;> kernel_rfl) ?_
   refine vcL_nil ?_
   refine Vc.cond (b10 || (decide (t28 < t22))) (by kernel_rfl) (fun hb=>?_) (fun hb=>?_)
   ·have h := h.1 (hb)
    refine Vc.seq ?_
    refine Vc.region ?_
    refine vcL_pure rfl rfl (Value.bool false) (fun w=>by kernel_rfl) ?_
    refine vcL_nil ?_
    refine Vc.ret ?_
    refine outOf_ret ?_
    refine outOf_ret ?_
    refine outs_ret ?_
    refine done_mk (Value.bool false) (res1 (resC_tmp (by kernel_rfl))) ?_
    exact ⟨false, rfl, h⟩
   ·have h := h.2 (hb)
    refine Vc.skip ?_
    refine Vc.region ?_
    refine vcL_purs 3 [(3, (Value.int .i64 (wrapI (t28 + 2)))), (48, (Value.int .i64 (wrapI (t28 + 2)))), (47, (Value.int .i64 t28))] (by kernel_rfl) ?_
    refine vcL_nil ?_
    refine Vc.region ?_
    refine vcL_purs 2 [(15, (Value.int .i64 (wrapI (t15 + 1)))), (49, (Value.int .i64 (wrapI (t15 + 1))))] (by kernel_rfl) ?_
    refine vcL_nil ?_
    exact ⟨((wrapI (t28 + 2)), (wrapI (t15 + 1))), 83, ⟨rfl, by kernel_rfl, by kernel_rfl, by kernel_rfl⟩, h⟩
  ·have h := h.2 (of_decide_eq_false hb)
   refine Vc.exit ?_
   refine outOf_hit ?_
   refine Vc.seq ?_
   refine Vc.region ?_
   refine vcL_pure rfl rfl (Value.bool true) (fun w=>by kernel_rfl) ?_
   refine vcL_nil ?_
   refine Vc.ret ?_
   refine outs_ret ?_
   refine done_mk (Value.bool true) (res1 (resC_tmp (by kernel_rfl))) ?_
   exact ⟨true, rfl, h⟩
theorem span_May.go {l : Sl} {w : World} {k : Value → World → Prop} (h : span_May l w fun r0 w'=>k (Value.bool r0) w') : callS Tryz.prog 91 [(Sl.v l)] w k := (span_May.sound l w _ h).mono (by rintro _ _ ⟨r0, rfl, h⟩; exact h)
def span_fit (l : Sl) (w : World) (R : Sl → Int → World → Prop) : Prop :=
 ((64 < (l.len : Int) → R Sl.nil 26 w) ∧ (¬ (64 < (l.len : Int)) → callS Tryz.prog 124 [(Sl.v l)] w fun v vw=>∃ (t8 : Sl), v = (Sl.v t8) ∧ R t8 0 vw))
set_option maxHeartbeats 8000000 in
theorem span_fit.sound (l : Sl) (w : World) (R : Sl → Int → World → Prop) (h : span_fit l w R) : callS Tryz.prog 92 [(Sl.v l)] w (fun v w'=>∃ (r0 : Sl) (r1 : Int), v = (Value.tuple #[(Sl.v r0), (Value.int .i64 r1)]) ∧ R r0 r1 w') := by
 unfold span_fit at h
 refine calls_of_vc 9 rfl Tryz.func92 rfl (by kernel_rfl) (by simp) ?_
 refine Vc.seq ?_
 refine Vc.region ?_
 refine vcL_purs 2 [(3, (Value.int .i64 0)), (2, (Sl.v Sl.nil))] (by kernel_rfl) ?_
 refine vcL_nil ?_
 refine Vc.seq ?_
 refine Vc.seq ?_
 refine Vc.region ?_
 refine vcL_purs 3 [(6, (Value.bool (decide (64 < (l.len : Int))))), (5, (Value.int .i64 (l.len : Int))), (4, (Sl.v l))] (by kernel_rfl) ?_
 refine vcL_nil ?_
 refine Vc.cond (decide (64 < (l.len : Int))) (by kernel_rfl) (fun hb=>?_) (fun hb=>?_)
 ·have h := h.1 (of_decide_eq_true hb)
  refine Vc.seq ?_
  refine Vc.region ?_
  refine vcL_purs 2 [(3, (Value.int .i64 26)), (2, (Sl.v Sl.nil))] (by kernel_rfl) ?_
  refine vcL_nil ?_
  refine Vc.ret ?_
  refine outs_ret ?_
  refine done_mk (Value.tuple #[(Sl.v Sl.nil), (Value.int .i64 26)]) (res2 (resC_tmp (by kernel_rfl)) (resC_tmp (by kernel_rfl))) ?_
  exact ⟨Sl.nil, 26, rfl, h⟩
 ·have h := h.2 (of_decide_eq_false hb)
  refine Vc.skip ?_
  refine Vc.seq ?_
  refine Vc.region ?_
  refine vcL_pure rfl rfl (Sl.v l) (fun w=>by kernel_rfl) ?_
  refine vcL_eff rfl (opVC_call rfl (by kernel_rfl) (callS.mono h fun v vw h=>?_))
  obtain ⟨t8, rfl, h⟩ := h
  refine vcL_purs 2 [(3, (Value.int .i64 0)), (2, (Sl.v t8))] (by kernel_rfl) ?_
  refine vcL_nil ?_
  refine Vc.ret ?_
  refine outs_ret ?_
  refine done_mk (Value.tuple #[(Sl.v t8), (Value.int .i64 0)]) (res2 (resC_tmp (by kernel_rfl)) (resC_tmp (by kernel_rfl))) ?_
  exact ⟨t8, 0, rfl, h⟩
theorem span_fit.go {l : Sl} {w : World} {k : Value → World → Prop} (h : span_fit l w fun r0 r1 w'=>k (Value.tuple #[(Sl.v r0), (Value.int .i64 r1)]) w') : callS Tryz.prog 92 [(Sl.v l)] w k := (span_fit.sound l w _ h).mono (by rintro _ _ ⟨r0, r1, rfl, h⟩; exact h)
def span_met (a : Sl) (b : Sl) (w : World) (R : Sl → World → Prop) : Prop :=
 loop3 Sl.nil 0 0 w fun out i vk vw nxt=>((i < (a.len : Int) → loop3 out i vk vw fun out1 i2 vk3 vw4 nxt5=>((vk3 < (b.len : Int) → bnd vw4.drew fun (vw6 : World)=>∃ (ad : Addr), (a.a = some ad ∧ (0 : Int) ≤ i2 ∧ i2 < (a.len : Int)) ∧ ∃ (t22 : Int), (ldc vw6 (ad.add (i2.toNat * 2)) [(Value.int .i64 t22)]) ∧ ∃ (ad7 : Addr), (b.a = some ad7 ∧ (0 : Int) ≤ vk3 ∧ vk3 < (b.len : Int)) ∧ ∃ (t27 : Int), (ldc vw6 (ad7.add (vk3.toNat * 2)) [(Value.int .i64 t27)]) ∧ ∃ (ad10 : Addr), (a.a = some ad10 ∧ (0 : Int) ≤ i2 ∧ i2 < (a.len : Int)) ∧ ∃ (t33 : Int), (ldc vw6 ((ad10.add (i2.toNat * 2)).add 1) [(Value.int .i64 t33)]) ∧ ∃ (ad13 : Addr), (b.a = some ad13 ∧ (0 : Int) ≤ vk3 ∧ vk3 < (b.len : Int)) ∧ ∃ (t38 : Int), (ldc vw6 ((ad13.add (vk3.toNat * 2)).add 1) [(Value.int .i64 t38)]) ∧ join (fun (out16 : Sl) (vw17 : World)=>bnd vw17.drew fun (vw18 : World)=>∃ (ad19 : Addr), (a.a = some ad19 ∧ (0 : Int) ≤ i2 ∧ i2 < (a.len : Int)) ∧ ∃ (t53 : Int), (ldc vw18 ((ad19.add (i2.toNat * 2)).add 1) [(Value.int .i64 t53)]) ∧ ∃ (ad22 : Addr), (b.a = some ad22 ∧ (0 : Int) ≤ vk3 ∧ vk3 < (b.len : Int)) ∧ ∃ (t58 : Int), (ldc vw18 ((ad22.add (vk3.toNat * 2)).add 1) [(Value.int .i64 t58)]) ∧ ((t53 < t58 → nxt out16 (wrapI (i2 + 1)) vk3 vw18) ∧ (¬ (t53 < t58) → nxt5 out16 i2 (wrapI (vk3 + 1)) vw18))) fun vJ=>(((goMax t22 t27) ≤ (goMin t33 t38) → newS vw6 [(Value.int .i64 (goMax t22 t27)), (Value.int .i64 (goMin t33 t38))] 157 fun a25 vw26=>appS Tryz.prog 130 130 out1 (Sl.v (Sl.mk (some a25) 1 1)) vw26 fun t48 vw27=>vJ t48 vw27) ∧ (¬ ((goMax t22 t27) ≤ (goMin t33 t38)) → vJ out1 vw6))) ∧ (¬ (vk3 < (b.len : Int)) → R out1 vw4))) ∧ (¬ (i < (a.len : Int)) → R out vw))
set_option maxHeartbeats 8000000 in
theorem span_met.sound (a : Sl) (b : Sl) (w : World) (R : Sl → World → Prop) (h : span_met a b w R) : callS Tryz.prog 93 [(Sl.v a), (Sl.v b)] w (fun v w'=>∃ (r0 : Sl), v = (Sl.v r0) ∧ R r0 w') := by
 unfold span_met at h
 refine calls_of_vc 66 rfl Tryz.func93 rfl (by kernel_rfl) (by simp) ?_
 refine Vc.seq ?_
 refine Vc.region ?_
 refine vcL_pure rfl rfl (Sl.v Sl.nil) (fun w=>by kernel_rfl) ?_
 refine vcL_nil ?_
 refine Vc.scope ?_
 refine Vc.seq ?_
 refine Vc.region ?_
 refine vcL_pure rfl rfl (Sl.v Sl.nil) (fun w=>by kernel_rfl) ?_
 refine vcL_nil ?_
 refine Vc.seq ?_
 refine Vc.region ?_
 refine vcL_purs 2 [(7, (Value.int .i64 0)), (6, (Value.int .i64 0))] (by kernel_rfl) ?_
 refine vcL_nil ?_
 refine Vc.seq ?_
 refine Vc.label ?_
 refine Vc.seq ?_
 refine Vc.block ?_
 obtain ⟨vI28, mu29, h, hr30⟩ := h
 refine Vc.loopJ (σ := Sl × Int × Int) [5, 6, 7] [4, 8, 9, 10, 11, 12, 13, 14, 15, 16, 17, 18, 19, 20, 21, 22, 23, 24, 25, 26, 27, 28, 29, 30, 31, 32, 33, 34, 35, 36, 37, 38, 39, 40, 41, 42, 43, 44, 45, 46, 47, 48, 49, 50, 51, 52, 53, 54, 55, 56, 57, 58, 59, 60, 61, 62, 63, 64] (fun s=>[(5, (Sl.v s.1)), (6, (Value.int .i64 s.2.1)), (7, (Value.int .i64 s.2.2))]) (fun s w=>vI28 s.1 s.2.1 s.2.2 w) (fun s w=>mu29 s.1 s.2.1 s.2.2 w) (Sl.nil, 0, 0) h (fun _ => rfl) (by kernel_rfl) ?_
 rintro ⟨out, i, vk⟩ vw j h
 have h := hr30 out i vk vw h
 refine Vc.seq ?_
 refine Vc.seq ?_
 refine Vc.region ?_
 refine vcL_purs 4 [(13, (Value.bool (decide (i < (a.len : Int))))), (12, (Value.int .i64 (a.len : Int))), (11, (Sl.v a)), (10, (Value.int .i64 i))] (by kernel_rfl) ?_
 refine vcL_nil ?_
 refine Vc.cond (decide (i < (a.len : Int))) (by kernel_rfl) (fun hb=>?_) (fun hb=>?_)
 ·have h := h.1 (of_decide_eq_true hb)
  refine Vc.skip ?_
  refine Vc.block ?_
  refine Vc.seq ?_
  refine Vc.block ?_
  obtain ⟨vI, mu, h, hr⟩ := h
  refine Vc.loopJ (σ := Sl × Int × Int) [5, 6, 7] [8, 9, 14, 15, 16, 17, 18, 19, 20, 21, 22, 23, 24, 25, 26, 27, 28, 29, 30, 31, 32, 33, 34, 35, 36, 37, 38, 39, 40, 41, 42, 43, 44, 45, 46, 47, 48, 49, 50, 51, 52, 53, 54, 55, 56, 57, 58, 59, 60, 61, 62, 63] (fun s=>[(5, (Sl.v s.1)), (6, (Value.int .i64 s.2.1)), (7, (Value.int .i64 s.2.2))]) (fun s w=>vI s.1 s.2.1 s.2.2 w) (fun s w=>mu s.1 s.2.1 s.2.2 w) (out, i, vk) h (fun _ => rfl) (by kernel_rfl) ?_
  rintro ⟨out1, i2, vk3⟩ vw4 j h
  have h := hr out1 i2 vk3 vw4 h
  refine Vc.seq ?_
  refine Vc.seq ?_
  refine Vc.region ?_
  refine vcL_purs 4 [(17, (Value.bool (decide (vk3 < (b.len : Int))))), (16, (Value.int .i64 (b.len : Int))), (15, (Sl.v b)), (14, (Value.int .i64 vk3))] (by kernel_rfl) ?_
  refine vcL_nil ?_
  refine Vc.cond (decide (vk3 < (b.len : Int))) (by kernel_rfl) (fun hb=>?_) (fun hb=>?_)
  ·have h := h.1 (of_decide_eq_true hb)
   refine Vc.skip ?_
   refine Vc.block ?_
   refine Vc.seq ?_
   obtain ⟨vw6, hvw6⟩ : ∃ y, y = vw4.drew := ⟨_, rfl⟩
   have h := h vw6 hvw6
   refine Vc.draw (by kernel_rfl) (fun i=>!(memN [] i)) (.pur 0 (.pur 1 (.pur 2 (.pur 3 (.val 4 (.pur 5 (.pur 6 (.pur 7 (.pur 8 (.val 9 (.pur 10 (.pur 11 (.pur 12 (.pur 13 (.pur 14 (.val 15 (.pur 16 (.pur 17 (.pur 18 (.pur 19 (.val 20 (.pur 21 (.pur 22 (.pur 23 .fin)))))))))))))))))))))))) (by kernel_rfl) ?_
   rw [← hvw6]
   clear hvw6
   refine vcS_pure rfl rfl rfl (Sl.v a) (fun w=>by kernel_rfl) ?_
   refine vcS_pure rfl rfl rfl (Value.int .i64 i2) (fun w=>by kernel_rfl) ?_
   obtain ⟨ad, hi, h⟩ := h
   refine vcS_pure rfl rfl rfl (Value.pointer (some (ad.add (i2.toNat * 2)))) (fun w=>by exact exec_indexAt (s := a) (el := 157) rfl (by kernel_rfl) (by kernel_rfl) (by kernel_rfl) (fun w=>by kernel_rfl) (hi).1 (hi).2.1 (hi).2.2 w) ?_
   refine vcS_pure rfl rfl rfl (Value.pointer (some (ad.add (i2.toNat * 2)))) (fun w=>by kernel_rfl) ?_
   obtain ⟨t22, hc, h⟩ := h
   refine vcS_val rfl rfl rfl (Value.int .i64 t22) (fun w' hx=>exec_load rfl (by kernel_rfl) (run_load1 (fun w=>by kernel_rfl) ((hc).ext hx))) ?_
   refine vcS_pure rfl rfl rfl (Sl.v b) (fun w=>by kernel_rfl) ?_
   refine vcS_pure rfl rfl rfl (Value.int .i64 vk3) (fun w=>by kernel_rfl) ?_
   obtain ⟨ad7, hi8, h⟩ := h
   refine vcS_pure rfl rfl rfl (Value.pointer (some (ad7.add (vk3.toNat * 2)))) (fun w=>by exact exec_indexAt (s := b) (el := 157) rfl (by kernel_rfl) (by kernel_rfl) (by kernel_rfl) (fun w=>by kernel_rfl) (hi8).1 (hi8).2.1 (hi8).2.2 w) ?_
   refine vcS_pure rfl rfl rfl (Value.pointer (some (ad7.add (vk3.toNat * 2)))) (fun w=>by kernel_rfl) ?_
   obtain ⟨t27, hc9, h⟩ := h
   refine vcS_val rfl rfl rfl (Value.int .i64 t27) (fun w' hx=>exec_load rfl (by kernel_rfl) (run_load1 (fun w=>by kernel_rfl) ((hc9).ext hx))) ?_
   refine vcS_pure rfl rfl rfl (Value.int .i64 (goMax t22 t27)) (fun w=>by kernel_rfl) ?_
   refine vcS_pure rfl rfl rfl (Sl.v a) (fun w=>by kernel_rfl) ?_
   refine vcS_pure rfl rfl rfl (Value.int .i64 i2) (fun w=>by kernel_rfl) ?_
   obtain ⟨ad10, hi11, h⟩ := h
   refine vcS_pure rfl rfl rfl (Value.pointer (some (ad10.add (i2.toNat * 2)))) (fun w=>by exact exec_indexAt (s := a) (el := 157) rfl (by kernel_rfl) (by kernel_rfl) (by kernel_rfl) (fun w=>by kernel_rfl) (hi11).1 (hi11).2.1 (hi11).2.2 w) ?_
   refine vcS_pure rfl rfl rfl (Value.pointer (some ((ad10.add (i2.toNat * 2)).add 1))) (fun w=>by kernel_rfl) ?_
   obtain ⟨t33, hc12, h⟩ := h
   refine vcS_val rfl rfl rfl (Value.int .i64 t33) (fun w' hx=>exec_load rfl (by kernel_rfl) (run_load1 (fun w=>by kernel_rfl) ((hc12).ext hx))) ?_
   refine vcS_pure rfl rfl rfl (Sl.v b) (fun w=>by kernel_rfl) ?_
   refine vcS_pure rfl rfl rfl (Value.int .i64 vk3) (fun w=>by kernel_rfl) ?_
   obtain ⟨ad13, hi14, h⟩ := h
   refine vcS_pure rfl rfl rfl (Value.pointer (some (ad13.add (vk3.toNat * 2)))) (fun w=>by exact exec_indexAt (s := b) (el := 157) rfl (by kernel_rfl) (by kernel_rfl) (by kernel_rfl) (fun w=>by kernel_rfl) (hi14).1 (hi14).2.1 (hi14).2.2 w) ?_
   refine vcS_pure rfl rfl rfl (Value.pointer (some ((ad13.add (vk3.toNat * 2)).add 1))) (fun w=>by kernel_rfl) ?_
   obtain ⟨t38, hc15, h⟩ := h
   refine vcS_val rfl rfl rfl (Value.int .i64 t38) (fun w' hx=>exec_load rfl (by kernel_rfl) (run_load1 (fun w=>by kernel_rfl) ((hc15).ext hx))) ?_
   refine vcS_pure rfl rfl rfl (Value.int .i64 (goMin t33 t38)) (fun w=>by kernel_rfl) ?_
   refine vcS_pure rfl rfl rfl (Value.int .i64 (goMax t22 t27)) (fun w=>by kernel_rfl) ?_
   refine vcS_pure rfl rfl rfl (Value.int .i64 (goMin t33 t38)) (fun w=>by kernel_rfl) ?_
   refine vcS_fin ?_
   obtain ⟨vJ, hJ, h⟩ := join_elim h
   refine Vc.seqJ (σ := Sl) [5] [40, 41, 42, 43, 44, 45, 46, 47, 48] (fun s=>[(5, (Sl.v s))]) (fun s w=>vJ s w) (fun _ => rfl) ?_ ?_
   ·refine Vc.seq ?_
    refine Vc.region ?_
    refine vcL_purs 3 [(42, (Value.bool (decide ((goMax t22 t27) ≤ (goMin t33 t38))))), (41, (Value.int .i64 (goMin t33 t38))), (40, (Value.int .i64 (goMax t22 t27)))] (by kernel_rfl) ?_
    refine vcL_nil ?_
    refine Vc.cond (decide ((goMax t22 t27) ≤ (goMin t33 t38))) (by kernel_rfl) (fun hb=>?_) (fun hb=>?_)
    ·have h := h.1 (of_decide_eq_true hb)
     refine Vc.region ?_
     refine vcL_purs 4 [(46, (Value.agg #[(Value.int .i64 (goMax t22 t27)), (Value.int .i64 (goMin t33 t38))])), (45, (Value.int .i64 (goMin t33 t38))), (44, (Value.int .i64 (goMax t22 t27))), (43, (Sl.v out1))] (by kernel_rfl) ?_
     refine vcL_eff rfl (opVC_new rfl (fun a=>Value.slice (some a) 1 1) (by kernel_rfl) (newS.mono h fun a25 vw26 hx h=>?_))
     refine vcL_eff rfl (opVC_sem rfl (c := Builtin.append_ #[130, 130] 130 #[(Sl.v out1), (Sl.v (Sl.mk (some a25) 1 1))]) (by kernel_rfl) (appS.elim (ty := 130) h fun t48 vw27 h=>?_))
     refine vcL_pure rfl rfl (Sl.v t48) (fun w=>by kernel_rfl) ?_
     refine vcL_nil ?_
     exact ⟨t48, 10, ⟨rfl, by kernel_rfl, by kernel_rfl, by kernel_rfl⟩, h⟩
    ·have h := h.2 (of_decide_eq_false hb)
     refine Vc.skip ?_
     exact ⟨out1, 3, ⟨rfl, by kernel_rfl, by kernel_rfl, by kernel_rfl⟩, h⟩
   ·intro out16 vw17 j h
    subst hJ
    refine Vc.seq ?_
    refine Vc.seq ?_
    obtain ⟨vw18, hvw18⟩ : ∃ y, y = vw17.drew := ⟨_, rfl⟩
    have h := h vw18 hvw18
    refine Vc.draw (by kernel_rfl) (fun i=>!(memN [] i)) (.pur 0 (.pur 1 (.pur 2 (.pur 3 (.val 4 (.pur 5 (.pur 6 (.pur 7 (.pur 8 (.val 9 (.pur 10 .fin))))))))))) (by kernel_rfl) ?_
    rw [← hvw18]
    clear hvw18
    refine vcS_pure rfl rfl rfl (Sl.v a) (fun w=>by kernel_rfl) ?_
    refine vcS_pure rfl rfl rfl (Value.int .i64 i2) (fun w=>by kernel_rfl) ?_
    obtain ⟨ad19, hi20, h⟩ := h
    refine vcS_pure rfl rfl rfl (Value.pointer (some (ad19.add (i2.toNat * 2)))) (fun w=>by exact exec_indexAt (s := a) (el := 157) rfl (by kernel_rfl) (by kernel_rfl) (by kernel_rfl) (fun w=>by kernel_rfl) (hi20).1 (hi20).2.1 (hi20).2.2 w) ?_
    refine vcS_pure rfl rfl rfl (Value.pointer (some ((ad19.add (i2.toNat * 2)).add 1))) (fun w=>by kernel_rfl) ?_
    obtain ⟨t53, hc21, h⟩ := h
    refine vcS_val rfl rfl rfl (Value.int .i64 t53) (fun w' hx=>exec_load rfl (by kernel_rfl) (run_load1 (fun w=>by kernel_rfl) ((hc21).ext hx))) ?_
    refine vcS_pure rfl rfl rfl (Sl.v b) (fun w=>by kernel_rfl) ?_
    refine vcS_pure rfl rfl rfl (Value.int .i64 vk3) (fun w=>by kernel_rfl) ?_
    obtain ⟨ad22, hi23, h⟩ := h
    refine vcS_pure rfl rfl rfl (Value.pointer (some (ad22.add (vk3.toNat * 2)))) (fun w=>by exact exec_indexAt (s := b) (el := 157) rfl (by kernel_rfl) (by kernel_rfl) (by kernel_rfl) (fun w=>by kernel_rfl) (hi23).1 (hi23).2.1 (hi23).2.2 w) ?_
    refine vcS_pure rfl rfl rfl (Value.pointer (some ((ad22.add (vk3.toNat * 2)).add 1))) (fun w=>by kernel_rfl) ?_
    obtain ⟨t58, hc24, h⟩ := h
    refine vcS_val rfl rfl rfl (Value.int .i64 t58) (fun w' hx=>exec_load rfl (by kernel_rfl) (run_load1 (fun w=>by kernel_rfl) ((hc24).ext hx))) ?_
    refine vcS_pure rfl rfl rfl (Value.bool (decide (t53 < t58))) (fun w=>by kernel_rfl) ?_
    refine vcS_fin ?_
    refine Vc.cond (decide (t53 < t58)) (by kernel_rfl) (fun hb=>?_) (fun hb=>?_)
    ·have h := h.1 (of_decide_eq_true hb)
     refine Vc.seq ?_
     refine Vc.region ?_
     refine vcL_purs 3 [(6, (Value.int .i64 (wrapI (i2 + 1)))), (61, (Value.int .i64 (wrapI (i2 + 1)))), (60, (Value.int .i64 i2))] (by kernel_rfl) ?_
     refine vcL_nil ?_
     refine Vc.exit ?_
     refine outOf_miss rfl ?_
     refine outOf_miss rfl ?_
     refine outOf_hit ?_
     exact ⟨(out16, (wrapI (i2 + 1)), vk3), 172, ⟨rfl, by kernel_rfl, by kernel_rfl, by kernel_rfl⟩, h⟩
    ·have h := h.2 (of_decide_eq_false hb)
     refine Vc.skip ?_
     refine Vc.region ?_
     refine vcL_purs 3 [(7, (Value.int .i64 (wrapI (vk3 + 1)))), (63, (Value.int .i64 (wrapI (vk3 + 1)))), (62, (Value.int .i64 vk3))] (by kernel_rfl) ?_
     refine vcL_nil ?_
     exact ⟨(out16, i2, (wrapI (vk3 + 1))), 107, ⟨rfl, by kernel_rfl, by kernel_rfl, by kernel_rfl⟩, h⟩
  ·have h := h.2 (of_decide_eq_false hb)
   refine Vc.exit ?_
   refine outOf_hit ?_
   refine Vc.seq ?_
   refine Vc.region ?_
   refine vcL_purs 2 [(4, (Sl.v out1)), (64, (Sl.v out1))] (by kernel_rfl) ?_
   refine vcL_nil ?_
   refine Vc.ret ?_
   refine outOf_ret ?_
   refine outOf_ret ?_
   refine outs_ret ?_
   refine done_mk (Sl.v out1) (res1 (resC_tmp (by kernel_rfl))) ?_
   exact ⟨out1, rfl, h⟩
 ·have h := h.2 (of_decide_eq_false hb)
  refine Vc.exit ?_
  refine outOf_hit ?_
  refine Vc.seq ?_
  refine Vc.region ?_
  refine vcL_purs 2 [(4, (Sl.v out)), (65, (Sl.v out))] (by kernel_rfl) ?_
  refine vcL_nil ?_
  refine Vc.ret ?_
  refine outs_ret ?_
  refine done_mk (Sl.v out) (res1 (resC_tmp (by kernel_rfl))) ?_
  exact ⟨out, rfl, h⟩
theorem span_met.go {a : Sl} {b : Sl} {w : World} {k : Value → World → Prop} (h : span_met a b w fun r0 w'=>k (Sl.v r0) w') : callS Tryz.prog 93 [(Sl.v a), (Sl.v b)] w k := (span_met.sound a b w _ h).mono (by rintro _ _ ⟨r0, rfl, h⟩; exact h)
end Go.Hal.SE
