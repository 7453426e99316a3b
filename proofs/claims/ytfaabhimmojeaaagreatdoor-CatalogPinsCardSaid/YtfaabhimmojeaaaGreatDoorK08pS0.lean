/- Lemmas for the claim K08p: how the program's functions run, and what they answer; no condition but those that each theorem names. -/
import Derived.Test.YtfaabhimmojeaaaGreatDoorProg
import Derived.Test.YtfaabhimmojeaaaGreatDoorK08pA0
set_option linter.unusedVariables false
set_option linter.unusedSimpArgs false
namespace Go.Hal.SE
open Go Go.RowKit Go.Hal Go.Proofs
set_option maxRecDepth 100000
namespace Eq0
theorem eqv_30 (d : Nat) (a0 : Int) (a1 : Int) (a2 : Int) (b0 : Int) (b1 : Int) (b2 : Int) (w : World) : (Op.equalIn (d + 2) 30 (.agg #[(Value.int .i64 a0), (Value.int .i64 a1), (Value.int .i64 a2)]) (.agg #[(Value.int .i64 b0), (Value.int .i64 b1), (Value.int .i64 b2)])).run Tryz.prog w = .ok ((a0 == b0) && ((a1 == b1) && ((a2 == b2) && true))) w :=
  (eqS (by kernel_rfl) (by kernel_rfl) (fs := [⟨ "Major", 3, 0, false, "", "", 0⟩, ⟨ "Minor", 3, 1, false, "", "", 8⟩, ⟨ "Patch", 3, 2, false, "", "", 16⟩]) (by kernel_rfl) (eqF_cons (x := (Value.int .i64 a0)) (y := (Value.int .i64 b0)) rfl (by kernel_rfl) (by kernel_rfl) (run_equalIn_int w _ 3 .i64 .i64 a0 b0 (by kernel_rfl)) (eqF_cons (x := (Value.int .i64 a1)) (y := (Value.int .i64 b1)) rfl (by kernel_rfl) (by kernel_rfl) (run_equalIn_int w _ 3 .i64 .i64 a1 b1 (by kernel_rfl)) (eqF_cons (x := (Value.int .i64 a2)) (y := (Value.int .i64 b2)) rfl (by kernel_rfl) (by kernel_rfl) (run_equalIn_int w _ 3 .i64 .i64 a2 b2 (by kernel_rfl)) eqF_nil))))
theorem eqv_32 (d : Nat) (a0 : ByteArray) (a1 : Int) (a2 : Int) (a3 : Int) (b0 : ByteArray) (b1 : Int) (b2 : Int) (b3 : Int) (w : World) : (Op.equalIn (d + 3) 32 (.agg #[(Value.string a0), (Value.int .i64 a1), (Value.int .i64 a2), (Value.int .i64 a3)]) (.agg #[(Value.string b0), (Value.int .i64 b1), (Value.int .i64 b2), (Value.int .i64 b3)])).run Tryz.prog w = .ok ((bEq a0 b0) && (((a1 == b1) && ((a2 == b2) && ((a3 == b3) && true))) && true)) w :=
  (eqS (by kernel_rfl) (by kernel_rfl) (fs := [⟨ "Name", 9, 0, false, "", "", 0⟩, ⟨ "Version", 30, 1, false, "", "", 16⟩]) (by kernel_rfl) (eqF_cons (x := (Value.string a0)) (y := (Value.string b0)) rfl (by kernel_rfl) (by kernel_rfl) (run_equalIn_string w _ 9 a0 b0 (by kernel_rfl)) (eqF_cons (x := (Value.agg #[(Value.int .i64 a1), (Value.int .i64 a2), (Value.int .i64 a3)])) (y := (Value.agg #[(Value.int .i64 b1), (Value.int .i64 b2), (Value.int .i64 b3)])) rfl (by kernel_rfl) (by kernel_rfl) (eqS (by kernel_rfl) (by kernel_rfl) (fs := [⟨ "Major", 3, 0, false, "", "", 0⟩, ⟨ "Minor", 3, 1, false, "", "", 8⟩, ⟨ "Patch", 3, 2, false, "", "", 16⟩]) (by kernel_rfl) (eqF_cons (x := (Value.int .i64 a1)) (y := (Value.int .i64 b1)) rfl (by kernel_rfl) (by kernel_rfl) (run_equalIn_int w _ 3 .i64 .i64 a1 b1 (by kernel_rfl)) (eqF_cons (x := (Value.int .i64 a2)) (y := (Value.int .i64 b2)) rfl (by kernel_rfl) (by kernel_rfl) (run_equalIn_int w _ 3 .i64 .i64 a2 b2 (by kernel_rfl)) (eqF_cons (x := (Value.int .i64 a3)) (y := (Value.int .i64 b3)) rfl (by kernel_rfl) (by kernel_rfl) (run_equalIn_int w _ 3 .i64 .i64 a3 b3 (by kernel_rfl)) eqF_nil)))) eqF_nil)))
end Eq0
open Eq0
/-- halyard/halyardlaw08.CatalogPins -/
def halyardlaw08_CatalogPins (l : Sl) (x_Name : ByteArray) (x_Version_Major : Int) (x_Version_Minor : Int) (x_Version_Patch : Int) (x_Range : Sl) (x_Pins : Sl) (w : World) (R : Bool → World → Prop) : Prop :=
  newS w [(Value.string x_Name), (Value.int .i64 x_Version_Major), (Value.int .i64 x_Version_Minor), (Value.int .i64 x_Version_Patch), (Sl.v x_Range), (Sl.v x_Pins)] 55 fun a vw => callS Tryz.prog 16 [] vw fun v vw1 => ∃ (t15 : Option Addr), v = (Value.pointer t15) ∧ bnd (Option.isNone t15) fun (b : Bool) => gCall (!b) (fun (t19 : Bool) (vw2 : World) => (((b || (!t19)) = true → R false vw2) ∧ ((b || (!t19)) = false → loop1 0 vw2 fun i vw5 nxt => ((i < (l.len : Int) → ∃ (ad : Addr), (l.a = some ad ∧ (0 : Int) ≤ i ∧ i < (l.len : Int)) ∧ ∃ (t32_Name : ByteArray) (t32_Version_Major : Int) (t32_Version_Minor : Int) (t32_Version_Patch : Int) (t32_Deps : Sl) (t32_Peers : Sl) (t32_Optional : Sl), (ldc vw5 (ad.add (i.toNat * 7)) [(Value.string t32_Name), (Value.int .i64 t32_Version_Major), (Value.int .i64 t32_Version_Minor), (Value.int .i64 t32_Version_Patch), (Sl.v t32_Deps), (Sl.v t32_Peers), (Sl.v t32_Optional)]) ∧ callS Tryz.prog 19 [(Value.pointer t15), (Value.agg #[(Value.string t32_Name), (Value.int .i64 t32_Version_Major), (Value.int .i64 t32_Version_Minor), (Value.int .i64 t32_Version_Patch), (Sl.v t32_Deps), (Sl.v t32_Peers), (Sl.v t32_Optional)])] vw5 fun v7 vw6 => ∃ (t33 : Int), v7 = (Value.int .i64 t33) ∧ nxt (wrapI (i + 1)) vw6) ∧ (¬ (i < (l.len : Int)) → ∃ (t36 : ByteArray), (ldc vw5 a [(Value.string t36)]) ∧ ∃ (t38 : Sl), (ldc vw5 (a.add 4) [(Sl.v t38)]) ∧ ∃ (t40 : Sl), (ldc vw5 (a.add 5) [(Sl.v t40)]) ∧ callS Tryz.prog 28 [(Value.pointer t15), (Value.string t36), (Sl.v t38), (Sl.v t40)] vw5 fun v13 vw12 => ∃ (t41 : Sl), v13 = (Sl.v t41) ∧ ∃ (t44 : ByteArray), (ldc vw12 a [(Value.string t44)]) ∧ ∃ (t46 : Sl), (ldc vw12 (a.add 4) [(Sl.v t46)]) ∧ callS Tryz.prog 28 [(Value.pointer t15), (Value.string t44), (Sl.v t46), (Sl.v Sl.nil)] vw12 fun v18 vw17 => ∃ (t47 : Sl), v18 = (Sl.v t47) ∧ ((¬ (t41.len : Int) = (t47.len : Int) → R false vw17) ∧ (¬ (¬ (t41.len : Int) = (t47.len : Int)) → loop2 0 0 vw17 fun vat i20 vw21 nxt22 => ((i20 < (t47.len : Int) → loop2 0 0 vw21 fun n vk vw23 nxt24 => ((vk < (t41.len : Int) → join (fun (n25 : Int) (vw26 : World) => nxt24 n25 (wrapI (vk + 1)) vw26) fun vJ27 => bnd vw23.drew fun (vw29 : World) => ∃ (ad30 : Addr), (t41.a = some ad30 ∧ (0 : Int) ≤ vk ∧ vk < (t41.len : Int)) ∧ ∃ (t68_Major : Int) (t68_Minor : Int) (t68_Patch : Int), (ldc vw29 (ad30.add (vk.toNat * 3)) [(Value.int .i64 t68_Major), (Value.int .i64 t68_Minor), (Value.int .i64 t68_Patch)]) ∧ ∃ (ad33 : Addr), (t47.a = some ad33 ∧ (0 : Int) ≤ i20 ∧ i20 < (t47.len : Int)) ∧ ∃ (t72_Major : Int) (t72_Minor : Int) (t72_Patch : Int), (ldc vw29 (ad33.add (i20.toNat * 3)) [(Value.int .i64 t72_Major), (Value.int .i64 t72_Minor), (Value.int .i64 t72_Patch)]) ∧ ((((t68_Major == t72_Major) && ((t68_Minor == t72_Minor) && ((t68_Patch == t72_Patch) && true))) = true → vJ27 (wrapI (n + 1)) vw29) ∧ (((t68_Major == t72_Major) && ((t68_Minor == t72_Minor) && ((t68_Patch == t72_Patch) && true))) = false → vJ27 n vw29))) ∧ (¬ (vk < (t41.len : Int)) → bnd vw23.drew fun (vw36 : World) => bnd (!(n == 1)) fun (b37 : Bool) => bnd (decide (0 < i20)) fun (b38 : Bool) => ∃ (ad39 : Addr), grd ((!b37) && b38) (t47.a = some ad39 ∧ (0 : Int) ≤ (wrapI (i20 - 1)) ∧ (wrapI (i20 - 1)) < (t47.len : Int)) ∧ ∃ (t86_Major : Int) (t86_Minor : Int) (t86_Patch : Int), grd ((!b37) && b38) (ldc vw36 (ad39.add ((wrapI (i20 - 1)).toNat * 3)) [(Value.int .i64 t86_Major), (Value.int .i64 t86_Minor), (Value.int .i64 t86_Patch)]) ∧ ∃ (ad42 : Addr), grd ((!b37) && b38) (t47.a = some ad42 ∧ (0 : Int) ≤ i20 ∧ i20 < (t47.len : Int)) ∧ ∃ (t90_Major : Int) (t90_Minor : Int) (t90_Patch : Int), grd ((!b37) && b38) (ldc vw36 (ad42.add (i20.toNat * 3)) [(Value.int .i64 t90_Major), (Value.int .i64 t90_Minor), (Value.int .i64 t90_Patch)]) ∧ gCall ((!b37) && b38) (fun (t91 : Int) (vw45 : World) => (((b37 || (b38 && (decide (t91 ≤ 0)))) = true → R false vw45) ∧ ((b37 || (b38 && (decide (t91 ≤ 0)))) = false → loop2 true 0 vw45 fun free vk50 vw51 nxt52 => ∃ (t97 : Sl), (ldc vw51 (a.add 5) [(Sl.v t97)]) ∧ ((vk50 < (t97.len : Int) → bnd vw51.drew fun (vw54 : World) => ∃ (t105 : Sl), grd free (ldc vw54 (a.add 5) [(Sl.v t105)]) ∧ ∃ (ad56 : Addr), grd free (t105.a = some ad56 ∧ (0 : Int) ≤ vk50 ∧ vk50 < (t105.len : Int)) ∧ ∃ (t108_Name : ByteArray) (t108_Version_Major : Int) (t108_Version_Minor : Int) (t108_Version_Patch : Int), grd free (ldc vw54 (ad56.add (vk50.toNat * 4)) [(Value.string t108_Name), (Value.int .i64 t108_Version_Major), (Value.int .i64 t108_Version_Minor), (Value.int .i64 t108_Version_Patch)]) ∧ ∃ (t110 : ByteArray), grd free (ldc vw54 a [(Value.string t110)]) ∧ ∃ (ad60 : Addr), grd free (t47.a = some ad60 ∧ (0 : Int) ≤ i20 ∧ i20 < (t47.len : Int)) ∧ ∃ (t114_Major : Int) (t114_Minor : Int) (t114_Patch : Int), grd free (ldc vw54 (ad60.add (i20.toNat * 3)) [(Value.int .i64 t114_Major), (Value.int .i64 t114_Minor), (Value.int .i64 t114_Patch)]) ∧ nxt52 (free && (!((bEq t108_Name t110) && (((t108_Version_Major == t114_Major) && ((t108_Version_Minor == t114_Minor) && ((t108_Version_Patch == t114_Patch) && true))) && true)))) (wrapI (vk50 + 1)) vw54) ∧ (¬ (vk50 < (t97.len : Int)) → loop1 vat vw51 fun vat63 vw64 nxt65 => bnd vw64.drew fun (vw66 : World) => bnd (free && (decide (vat63 < (t41.len : Int)))) fun (b67 : Bool) => ∃ (ad68 : Addr), grd b67 (t41.a = some ad68 ∧ (0 : Int) ≤ vat63 ∧ vat63 < (t41.len : Int)) ∧ ∃ (t129_Major : Int) (t129_Minor : Int) (t129_Patch : Int), grd b67 (ldc vw66 (ad68.add (vat63.toNat * 3)) [(Value.int .i64 t129_Major), (Value.int .i64 t129_Minor), (Value.int .i64 t129_Patch)]) ∧ ∃ (ad71 : Addr), grd b67 (t47.a = some ad71 ∧ (0 : Int) ≤ i20 ∧ i20 < (t47.len : Int)) ∧ ∃ (t133_Major : Int) (t133_Minor : Int) (t133_Patch : Int), grd b67 (ldc vw66 (ad71.add (i20.toNat * 3)) [(Value.int .i64 t133_Major), (Value.int .i64 t133_Minor), (Value.int .i64 t133_Patch)]) ∧ (((b67 && (!((t129_Major == t133_Major) && ((t129_Minor == t133_Minor) && ((t129_Patch == t133_Patch) && true))))) = true → nxt65 (wrapI (vat63 + 1)) vw66) ∧ ((b67 && (!((t129_Major == t133_Major) && ((t129_Minor == t133_Minor) && ((t129_Patch == t133_Patch) && true))))) = false → (((free && (vat63 == (t41.len : Int))) = true → R false vw66) ∧ ((free && (vat63 == (t41.len : Int))) = false → nxt22 vat63 (wrapI (i20 + 1)) vw66))))))))) (fun q => callS Tryz.prog 33 [(Value.agg #[(Value.int .i64 t86_Major), (Value.int .i64 t86_Minor), (Value.int .i64 t86_Patch)]), (Value.agg #[(Value.int .i64 t90_Major), (Value.int .i64 t90_Minor), (Value.int .i64 t90_Patch)])] vw36 fun v46 vw45 => ∃ (t91 : Int), v46 = (Value.int .i64 t91) ∧ q t91 vw45) (fun q => q 0 vw36)))) ∧ (¬ (i20 < (t47.len : Int)) → R true vw21))))))))) (fun q => callS Tryz.prog 17 [] vw1 fun v3 vw2 => ∃ (t19 : Bool), v3 = (Value.bool t19) ∧ q t19 vw2) (fun q => q false vw1)
set_option maxHeartbeats 8000000 in
theorem halyardlaw08_CatalogPins.sound (l : Sl) (x_Name : ByteArray) (x_Version_Major : Int) (x_Version_Minor : Int) (x_Version_Patch : Int) (x_Range : Sl) (x_Pins : Sl) (w : World) (R : Bool → World → Prop) (h : halyardlaw08_CatalogPins l x_Name x_Version_Major x_Version_Minor x_Version_Patch x_Range x_Pins w R) : callS Tryz.prog 7 [(Sl.v l), (Value.agg #[(Value.string x_Name), (Value.int .i64 x_Version_Major), (Value.int .i64 x_Version_Minor), (Value.int .i64 x_Version_Patch), (Sl.v x_Range), (Sl.v x_Pins)])] w (fun v w' => ∃ (r0 : Bool), v = (Value.bool r0) ∧ R r0 w') := by
  unfold halyardlaw08_CatalogPins at h
  refine calls_of_vc 145 rfl Tryz.func7 rfl (by kernel_rfl) (by simp) ?_
  refine Vc.seq ?_
  refine Vc.region ?_
  refine vcL_eff rfl (opVC_new rfl (fun a => Value.pointer (some a)) (by kernel_rfl) (newS.mono h fun a vw hx h => ?_)) 
  refine vcL_pure rfl rfl (Value.bool false) (fun w => by kernel_rfl) ?_
  refine vcL_nil ?_
  refine Vc.seq ?_
  refine Vc.region ?_
  refine vcL_eff rfl (opVC_call rfl (by kernel_rfl) (callS.mono h fun v vw1 h => ?_)) 
  obtain ⟨t15, rfl, h⟩ := h
  refine vcL_pure rfl rfl (Value.pointer t15) (fun w => by kernel_rfl) ?_
  refine vcL_nil ?_
  refine Vc.seq ?_
  refine Vc.seq ?_
  refine Vc.region ?_
  refine vcL_pure rfl rfl (Value.pointer t15) (fun w => by kernel_rfl) ?_
  refine vcL_pure rfl rfl (Value.bool (Option.isNone t15)) (fun w => by cases t15 <;> kernel_rfl) ?_
  obtain ⟨b, hb⟩ : ∃ y, y = (Option.isNone t15) := ⟨_, rfl⟩
  have h := h b hb
  refine vcL_pure rfl rfl (Value.bool b) (fun w => by rw [hb]; kernel_rfl) ?_
  obtain ⟨vJ, hJ, h⟩ := gCall_elim h
  refine vcL_effJ (σ := Bool) (!b) (wanted_g (d := 18) rfl (by kernel_rfl) b (by kernel_rfl) (!b) (eqF b)) rfl (fun s w => vJ s w) (fun s => (Value.bool s)) ?_ (fun hg => opVC_call rfl (by simp only [Bool.and_eq_true, Bool.not_eq_true'] at hg; obtain rfl := hg; kernel_rfl) (callS.mono (h.1 hg) fun v3 vw2 hq => ?_)) (fun hg => ⟨false, h.2 hg⟩)
  · intro t19 vw2 h
    subst hJ
    refine vcL_guardP (!b) (wanted_g (d := 18) rfl (by kernel_rfl) b (by kernel_rfl) (!b) (eqF b)) rfl (Value.bool (!t19)) (fun hg w => by simp only [Bool.and_eq_true, Bool.not_eq_true'] at hg; obtain rfl := hg; kernel_rfl) ?_
    refine vcL_pure rfl rfl (Value.bool (b || (!t19))) (fun w => by cases b <;> kernel_rfl) ?_
    refine vcL_nil ?_
    refine Vc.cond (b || (!t19)) (by kernel_rfl) (fun hb => ?_) (fun hb => ?_)
    · have h := h.1 (hb)
      refine Vc.seq ?_
      refine Vc.region ?_
      refine vcL_pure rfl rfl (Value.bool false) (fun w => by kernel_rfl) ?_
      refine vcL_nil ?_
      refine Vc.ret ?_
      refine outs_ret ?_
      refine done_mk (Value.bool false) (res1 (resC_tmp (by kernel_rfl))) ?_
      exact ⟨false, rfl, h⟩
    · have h := h.2 (hb)
      refine Vc.skip ?_
      refine Vc.seq ?_
      refine Vc.seq ?_
      refine Vc.region ?_
      refine vcL_pure rfl rfl (Value.int .i64 0) (fun w => by kernel_rfl) ?_
      refine vcL_nil ?_
      refine Vc.block ?_
      obtain ⟨vI83, mu84, h, hr85⟩ := h
      refine Vc.loopJ (σ := Int) [6] [22, 23, 24, 25, 26, 27, 28, 29, 30, 31, 32, 33] (fun s => [(6, (Value.int .i64 s))]) (fun s w => vI83 s w) (fun s w => mu84 s w) 0 h (fun _ => rfl) (by kernel_rfl) ?_
      intro i vw5 j h
      have h := hr85 i vw5 h
      refine Vc.seq ?_
      refine Vc.seq ?_
      refine Vc.region ?_
      refine vcL_purs 4 [(25, (Value.bool (decide (i < (l.len : Int))))), (24, (Value.int .i64 (l.len : Int))), (23, (Sl.v l)), (22, (Value.int .i64 i))] (by kernel_rfl) ?_
      refine vcL_nil ?_
      refine Vc.cond (decide (i < (l.len : Int))) (by kernel_rfl) (fun hb => ?_) (fun hb => ?_)
      · have h := h.1 (of_decide_eq_true hb)
        refine Vc.skip ?_
        refine Vc.seq ?_
        refine Vc.block ?_
        refine Vc.region ?_
        refine vcL_purs 3 [(30, (Value.int .i64 i)), (29, (Sl.v l)), (28, (Value.pointer t15))] (by kernel_rfl) ?_
        obtain ⟨ad, hi, h⟩ := h
        refine vcL_pure rfl rfl (Value.pointer (some (ad.add (i.toNat * 7)))) (fun w => by exact exec_indexAt (s := l) (el := 48) rfl (by kernel_rfl) (by kernel_rfl) (by kernel_rfl) (fun w => by kernel_rfl) (hi).1 (hi).2.1 (hi).2.2 w) ?_
        obtain ⟨t32_Name, t32_Version_Major, t32_Version_Minor, t32_Version_Patch, t32_Deps, t32_Peers, t32_Optional, hc, h⟩ := h
        refine vcL_val rfl rfl (Value.agg #[(Value.string t32_Name), (Value.int .i64 t32_Version_Major), (Value.int .i64 t32_Version_Minor), (Value.int .i64 t32_Version_Patch), (Sl.v t32_Deps), (Sl.v t32_Peers), (Sl.v t32_Optional)]) (exec_load rfl (by kernel_rfl) (run_loadN (fun w => by kernel_rfl) (fun w => by kernel_rfl) ((hc)))) ?_
        refine vcL_eff rfl (opVC_call rfl (by kernel_rfl) (callS.mono h fun v7 vw6 h => ?_)) 
        obtain ⟨t33, rfl, h⟩ := h
        refine vcL_nil ?_
        refine Vc.region ?_
        refine vcL_purs 3 [(6, (Value.int .i64 (wrapI (i + 1)))), (27, (Value.int .i64 (wrapI (i + 1)))), (26, (Value.int .i64 i))] (by kernel_rfl) ?_
        refine vcL_nil ?_
        exact ⟨(wrapI (i + 1)), 26, ⟨rfl, by kernel_rfl, by kernel_rfl, by kernel_rfl⟩, h⟩
      · have h := h.2 (of_decide_eq_false hb)
        refine Vc.exit ?_
        refine outOf_hit ?_
        refine Vc.seq ?_
        refine Vc.region ?_
        refine vcL_purs 2 [(35, (Value.pointer (some a))), (34, (Value.pointer t15))] (by kernel_rfl) ?_
        obtain ⟨t36, hc9, h⟩ := h
        refine vcL_val rfl rfl (Value.string t36) (exec_load rfl (by kernel_rfl) (run_load1 (fun w => by kernel_rfl) ((hc9)))) ?_
        refine vcL_pure rfl rfl (Value.pointer (some (a.add 4))) (fun w => by kernel_rfl) ?_
        obtain ⟨t38, hc10, h⟩ := h
        refine vcL_val rfl rfl (Sl.v t38) (exec_load rfl (by kernel_rfl) (run_load1 (fun w => by kernel_rfl) ((hc10)))) ?_
        refine vcL_pure rfl rfl (Value.pointer (some (a.add 5))) (fun w => by kernel_rfl) ?_
        obtain ⟨t40, hc11, h⟩ := h
        refine vcL_val rfl rfl (Sl.v t40) (exec_load rfl (by kernel_rfl) (run_load1 (fun w => by kernel_rfl) ((hc11)))) ?_
        refine vcL_eff rfl (opVC_call rfl (by kernel_rfl) (callS.mono h fun v13 vw12 h => ?_)) 
        obtain ⟨t41, rfl, h⟩ := h
        refine vcL_pure rfl rfl (Sl.v t41) (fun w => by kernel_rfl) ?_
        refine vcL_nil ?_
        refine Vc.seq ?_
        refine Vc.region ?_
        refine vcL_purs 2 [(43, (Value.pointer (some a))), (42, (Value.pointer t15))] (by kernel_rfl) ?_
        obtain ⟨t44, hc15, h⟩ := h
        refine vcL_val rfl rfl (Value.string t44) (exec_load rfl (by kernel_rfl) (run_load1 (fun w => by kernel_rfl) ((hc15)))) ?_
        refine vcL_pure rfl rfl (Value.pointer (some (a.add 4))) (fun w => by kernel_rfl) ?_
        obtain ⟨t46, hc16, h⟩ := h
        refine vcL_val rfl rfl (Sl.v t46) (exec_load rfl (by kernel_rfl) (run_load1 (fun w => by kernel_rfl) ((hc16)))) ?_
        refine vcL_eff rfl (opVC_call rfl (by kernel_rfl) (callS.mono h fun v18 vw17 h => ?_)) 
        obtain ⟨t47, rfl, h⟩ := h
        refine vcL_pure rfl rfl (Sl.v t47) (fun w => by kernel_rfl) ?_
        refine vcL_nil ?_
        refine Vc.seq ?_
        refine Vc.seq ?_
        refine Vc.region ?_
        refine vcL_purs 5 [(52, (Value.bool (!((t41.len : Int) == (t47.len : Int))))), (51, (Value.int .i64 (t47.len : Int))), (50, (Sl.v t47)), (49, (Value.int .i64 (t41.len : Int))), (48, (Sl.v t41))] (by kernel_rfl) ?_
        refine vcL_nil ?_
        refine Vc.cond (!((t41.len : Int) == (t47.len : Int))) (by kernel_rfl) (fun hb => ?_) (fun hb => ?_)
        · have h := h.1 (ne_of_nbeq hb)
          refine Vc.seq ?_
          refine Vc.region ?_
          refine vcL_pure rfl rfl (Value.bool false) (fun w => by kernel_rfl) ?_
          refine vcL_nil ?_
          refine Vc.ret ?_
          refine outs_ret ?_
          refine done_mk (Value.bool false) (res1 (resC_tmp (by kernel_rfl))) ?_
          exact ⟨false, rfl, h⟩
        · have h := h.2 (nne_of_nbeq hb)
          refine Vc.skip ?_
          refine Vc.seq ?_
          refine Vc.region ?_
          refine vcL_pure rfl rfl (Value.int .i64 0) (fun w => by kernel_rfl) ?_
          refine vcL_nil ?_
          refine Vc.seq ?_
          refine Vc.seq ?_
          refine Vc.region ?_
          refine vcL_pure rfl rfl (Value.int .i64 0) (fun w => by kernel_rfl) ?_
          refine vcL_nil ?_
          refine Vc.block ?_
          obtain ⟨vI80, mu81, h, hr82⟩ := h
          refine Vc.loopJ (σ := Int × Int) [9, 10] [4, 11, 12, 13, 14, 53, 54, 55, 56, 57, 58, 59, 60, 61, 62, 63, 64, 65, 66, 67, 68, 69, 70, 71, 72, 73, 74, 75, 76, 77, 78, 79, 80, 81, 82, 83, 84, 85, 86, 87, 88, 89, 90, 91, 92, 93, 94, 95, 96, 97, 98, 99, 100, 101, 102, 103, 104, 105, 106, 107, 108, 109, 110, 111, 112, 113, 114, 115, 116, 117, 118, 119, 120, 121, 122, 123, 124, 125, 126, 127, 128, 129, 130, 131, 132, 133, 134, 135, 136, 137, 138, 139, 140, 141, 142, 143, 144] (fun s => [(9, (Value.int .i64 s.1)), (10, (Value.int .i64 s.2))]) (fun s w => vI80 s.1 s.2 w) (fun s w => mu81 s.1 s.2 w) (0, 0) h (fun _ => rfl) (by kernel_rfl) ?_
          rintro ⟨vat, i20⟩ vw21 j h
          have h := hr82 vat i20 vw21 h
          refine Vc.seq ?_
          refine Vc.seq ?_
          refine Vc.region ?_
          refine vcL_purs 4 [(56, (Value.bool (decide (i20 < (t47.len : Int))))), (55, (Value.int .i64 (t47.len : Int))), (54, (Sl.v t47)), (53, (Value.int .i64 i20))] (by kernel_rfl) ?_
          refine vcL_nil ?_
          refine Vc.cond (decide (i20 < (t47.len : Int))) (by kernel_rfl) (fun hb => ?_) (fun hb => ?_)
          · have h := h.1 (of_decide_eq_true hb)
            refine Vc.skip ?_
            refine Vc.seq ?_
            refine Vc.block ?_
            refine Vc.seq ?_
            refine Vc.region ?_
            refine vcL_pure rfl rfl (Value.int .i64 0) (fun w => by kernel_rfl) ?_
            refine vcL_nil ?_
            refine Vc.seq ?_
            refine Vc.seq ?_
            refine Vc.region ?_
            refine vcL_pure rfl rfl (Value.int .i64 0) (fun w => by kernel_rfl) ?_
            refine vcL_nil ?_
            refine Vc.block ?_
            obtain ⟨vI77, mu78, h, hr79⟩ := h
            refine Vc.loopJ (σ := Int × Int) [11, 12] [59, 60, 61, 62, 63, 64, 65, 66, 67, 68, 69, 70, 71, 72, 73, 74, 75] (fun s => [(11, (Value.int .i64 s.1)), (12, (Value.int .i64 s.2))]) (fun s w => vI77 s.1 s.2 w) (fun s w => mu78 s.1 s.2 w) (0, 0) h (fun _ => rfl) (by kernel_rfl) ?_
            rintro ⟨n, vk⟩ vw23 j h
            have h := hr79 n vk vw23 h
            refine Vc.seq ?_
            refine Vc.seq ?_
            refine Vc.region ?_
            refine vcL_purs 4 [(62, (Value.bool (decide (vk < (t41.len : Int))))), (61, (Value.int .i64 (t41.len : Int))), (60, (Sl.v t41)), (59, (Value.int .i64 vk))] (by kernel_rfl) ?_
            refine vcL_nil ?_
            refine Vc.cond (decide (vk < (t41.len : Int))) (by kernel_rfl) (fun hb => ?_) (fun hb => ?_)
            · have h := h.1 (of_decide_eq_true hb)
              refine Vc.skip ?_
              obtain ⟨vJ27, hJ28, h⟩ := join_elim h
              refine Vc.seqJ (σ := Int) [11] [65, 66, 67, 68, 69, 70, 71, 72, 73, 74, 75] (fun s => [(11, (Value.int .i64 s))]) (fun s w => vJ27 s w) (fun _ => rfl) ?_ ?_
              · refine Vc.block ?_
                refine Vc.seq ?_
                obtain ⟨vw29, hvw29⟩ : ∃ y, y = vw23.drew := ⟨_, rfl⟩
                have h := h vw29 hvw29
                refine Vc.draw (by kernel_rfl) (fun i => !(memN [] i)) (.pur 0 (.pur 1 (.pur 2 (.val 3 (.pur 4 (.pur 5 (.pur 6 (.val 7 (.pur 8 .fin))))))))) (by kernel_rfl) ?_
                rw [← hvw29]
                clear hvw29
                refine vcS_pure rfl rfl rfl (Sl.v t41) (fun w => by kernel_rfl) ?_
                refine vcS_pure rfl rfl rfl (Value.int .i64 vk) (fun w => by kernel_rfl) ?_
                obtain ⟨ad30, hi31, h⟩ := h
                refine vcS_pure rfl rfl rfl (Value.pointer (some (ad30.add (vk.toNat * 3)))) (fun w => by exact exec_indexAt (s := t41) (el := 30) rfl (by kernel_rfl) (by kernel_rfl) (by kernel_rfl) (fun w => by kernel_rfl) (hi31).1 (hi31).2.1 (hi31).2.2 w) ?_
                obtain ⟨t68_Major, t68_Minor, t68_Patch, hc32, h⟩ := h
                refine vcS_val rfl rfl rfl (Value.agg #[(Value.int .i64 t68_Major), (Value.int .i64 t68_Minor), (Value.int .i64 t68_Patch)]) (fun w' hx => exec_load rfl (by kernel_rfl) (run_loadN (fun w => by kernel_rfl) (fun w => by kernel_rfl) ((hc32).ext hx))) ?_
                refine vcS_pure rfl rfl rfl (Sl.v t47) (fun w => by kernel_rfl) ?_
                refine vcS_pure rfl rfl rfl (Value.int .i64 i20) (fun w => by kernel_rfl) ?_
                obtain ⟨ad33, hi34, h⟩ := h
                refine vcS_pure rfl rfl rfl (Value.pointer (some (ad33.add (i20.toNat * 3)))) (fun w => by exact exec_indexAt (s := t47) (el := 30) rfl (by kernel_rfl) (by kernel_rfl) (by kernel_rfl) (fun w => by kernel_rfl) (hi34).1 (hi34).2.1 (hi34).2.2 w) ?_
                obtain ⟨t72_Major, t72_Minor, t72_Patch, hc35, h⟩ := h
                refine vcS_val rfl rfl rfl (Value.agg #[(Value.int .i64 t72_Major), (Value.int .i64 t72_Minor), (Value.int .i64 t72_Patch)]) (fun w' hx => exec_load rfl (by kernel_rfl) (run_loadN (fun w => by kernel_rfl) (fun w => by kernel_rfl) ((hc35).ext hx))) ?_
                refine vcS_pure rfl rfl rfl (Value.bool ((t68_Major == t72_Major) && ((t68_Minor == t72_Minor) && ((t68_Patch == t72_Patch) && true)))) (fun w => by exact exec_struct_eq rfl (by kernel_rfl) (by kernel_rfl) (by kernel_rfl) (eqv_30 9998 t68_Major t68_Minor t68_Patch t72_Major t72_Minor t72_Patch w)) ?_
                refine vcS_fin ?_
                refine Vc.cond ((t68_Major == t72_Major) && ((t68_Minor == t72_Minor) && ((t68_Patch == t72_Patch) && true))) (by kernel_rfl) (fun hb => ?_) (fun hb => ?_)
                · have h := h.1 (hb)
                  refine Vc.region ?_
                  refine vcL_purs 3 [(11, (Value.int .i64 (wrapI (n + 1)))), (75, (Value.int .i64 (wrapI (n + 1)))), (74, (Value.int .i64 n))] (by kernel_rfl) ?_
                  refine vcL_nil ?_
                  exact ⟨(wrapI (n + 1)), 12, ⟨rfl, by kernel_rfl, by kernel_rfl, by kernel_rfl⟩, h⟩
                · have h := h.2 (hb)
                  refine Vc.skip ?_
                  exact ⟨n, 9, ⟨rfl, by kernel_rfl, by kernel_rfl, by kernel_rfl⟩, h⟩
              · intro n25 vw26 j h
                subst hJ28
                refine Vc.region ?_
                refine vcL_purs 3 [(12, (Value.int .i64 (wrapI (vk + 1)))), (64, (Value.int .i64 (wrapI (vk + 1)))), (63, (Value.int .i64 vk))] (by kernel_rfl) ?_
                refine vcL_nil ?_
                exact ⟨(n25, (wrapI (vk + 1))), 38, ⟨rfl, by kernel_rfl, by kernel_rfl, by kernel_rfl⟩, h⟩
            · have h := h.2 (of_decide_eq_false hb)
              refine Vc.exit ?_
              refine outOf_hit ?_
              refine Vc.seq ?_
              refine Vc.seq ?_
              obtain ⟨vw36, hvw36⟩ : ∃ y, y = vw23.drew := ⟨_, rfl⟩
              have h := h vw36 hvw36
              refine Vc.draw (by kernel_rfl) (fun i => !(memN [15] i)) (.pur 0 (.pur 1 (.pur 2 (.pur 3 (.pur 4 (.pur 5 (.pur 6 (.pur 7 (.pur 8 (.pur 9 (.val 10 (.pur 11 (.pur 12 (.pur 13 (.val 14 (.eff 15 (.pur 16 (.pur 17 (.pur 18 .fin))) .stop)))))))))))))))) (by kernel_rfl) ?_
              rw [← hvw36]
              clear hvw36
              refine vcS_pure rfl rfl rfl (Value.int .i64 n) (fun w => by kernel_rfl) ?_
              refine vcS_pure rfl rfl rfl (Value.bool (!(n == 1))) (fun w => by kernel_rfl) ?_
              obtain ⟨b37, hb37⟩ : ∃ y, y = (!(n == 1)) := ⟨_, rfl⟩
              have h := h b37 hb37
              refine vcS_pure rfl rfl rfl (Value.bool b37) (fun w => by rw [hb37]; kernel_rfl) ?_
              refine vcS_guard rfl (!b37) (wanted_g (d := 78) rfl (by kernel_rfl) b37 (by kernel_rfl) (!b37) (eqF b37)) rfl (Value.int .i64 i20) (fun hg w => by simp only [Bool.and_eq_true, Bool.not_eq_true'] at hg; obtain rfl := hg; kernel_rfl) ?_
              refine vcS_guard rfl (!b37) (wanted_g (d := 78) rfl (by kernel_rfl) b37 (by kernel_rfl) (!b37) (eqF b37)) rfl (Value.bool (decide (0 < i20))) (fun hg w => by simp only [Bool.and_eq_true, Bool.not_eq_true'] at hg; obtain rfl := hg; kernel_rfl) ?_
              obtain ⟨b38, hb38⟩ : ∃ y, y = (decide (0 < i20)) := ⟨_, rfl⟩
              have h := h b38 hb38
              refine vcS_guard rfl (!b37) (wanted_g (d := 78) rfl (by kernel_rfl) b37 (by kernel_rfl) (!b37) (eqF b37)) rfl (Value.bool b38) (fun hg w => by simp only [Bool.and_eq_true, Bool.not_eq_true'] at hg; obtain rfl := hg; rw [hb38]; kernel_rfl) ?_
              refine vcS_guard rfl ((!b37) && b38) (wanted_gg (d := 81) rfl (by kernel_rfl) (!b37) b38 (by kernel_rfl) ((!b37) && b38) (eqTT (!b37) b38)) rfl (Sl.v t47) (fun hg w => by simp only [Bool.and_eq_true, Bool.not_eq_true'] at hg; obtain ⟨rfl, rfl⟩ := hg; kernel_rfl) ?_
              refine vcS_guard rfl ((!b37) && b38) (wanted_gg (d := 81) rfl (by kernel_rfl) (!b37) b38 (by kernel_rfl) ((!b37) && b38) (eqTT (!b37) b38)) rfl (Value.int .i64 i20) (fun hg w => by simp only [Bool.and_eq_true, Bool.not_eq_true'] at hg; obtain ⟨rfl, rfl⟩ := hg; kernel_rfl) ?_
              refine vcS_guard rfl ((!b37) && b38) (wanted_gg (d := 81) rfl (by kernel_rfl) (!b37) b38 (by kernel_rfl) ((!b37) && b38) (eqTT (!b37) b38)) rfl (Value.int .i64 (wrapI (i20 - 1))) (fun hg w => by simp only [Bool.and_eq_true, Bool.not_eq_true'] at hg; obtain ⟨rfl, rfl⟩ := hg; kernel_rfl) ?_
              obtain ⟨ad39, hi40, h⟩ := h
              refine vcS_guard rfl ((!b37) && b38) (wanted_gg (d := 81) rfl (by kernel_rfl) (!b37) b38 (by kernel_rfl) ((!b37) && b38) (eqTT (!b37) b38)) rfl (Value.pointer (some (ad39.add ((wrapI (i20 - 1)).toNat * 3)))) (fun hg w => by simp only [Bool.and_eq_true, Bool.not_eq_true'] at hg; obtain ⟨rfl, rfl⟩ := hg; exact exec_indexAt (s := t47) (el := 30) rfl (by kernel_rfl) (by kernel_rfl) (by kernel_rfl) (fun w => by kernel_rfl) (hi40 rfl).1 (hi40 rfl).2.1 (hi40 rfl).2.2 w) ?_
              obtain ⟨t86_Major, t86_Minor, t86_Patch, hc41, h⟩ := h
              refine vcS_valG rfl ((!b37) && b38) (wanted_gg (d := 81) rfl (by kernel_rfl) (!b37) b38 (by kernel_rfl) ((!b37) && b38) (eqTT (!b37) b38)) rfl (Value.agg #[(Value.int .i64 t86_Major), (Value.int .i64 t86_Minor), (Value.int .i64 t86_Patch)]) (fun hg w' hx => by simp only [Bool.and_eq_true, Bool.not_eq_true'] at hg; obtain ⟨rfl, rfl⟩ := hg; exact exec_load rfl (by kernel_rfl) (run_loadN (fun w => by kernel_rfl) (fun w => by kernel_rfl) ((hc41 rfl).ext hx))) ?_
              refine vcS_guard rfl ((!b37) && b38) (wanted_gg (d := 81) rfl (by kernel_rfl) (!b37) b38 (by kernel_rfl) ((!b37) && b38) (eqTT (!b37) b38)) rfl (Sl.v t47) (fun hg w => by simp only [Bool.and_eq_true, Bool.not_eq_true'] at hg; obtain ⟨rfl, rfl⟩ := hg; kernel_rfl) ?_
              refine vcS_guard rfl ((!b37) && b38) (wanted_gg (d := 81) rfl (by kernel_rfl) (!b37) b38 (by kernel_rfl) ((!b37) && b38) (eqTT (!b37) b38)) rfl (Value.int .i64 i20) (fun hg w => by simp only [Bool.and_eq_true, Bool.not_eq_true'] at hg; obtain ⟨rfl, rfl⟩ := hg; kernel_rfl) ?_
              obtain ⟨ad42, hi43, h⟩ := h
              refine vcS_guard rfl ((!b37) && b38) (wanted_gg (d := 81) rfl (by kernel_rfl) (!b37) b38 (by kernel_rfl) ((!b37) && b38) (eqTT (!b37) b38)) rfl (Value.pointer (some (ad42.add (i20.toNat * 3)))) (fun hg w => by simp only [Bool.and_eq_true, Bool.not_eq_true'] at hg; obtain ⟨rfl, rfl⟩ := hg; exact exec_indexAt (s := t47) (el := 30) rfl (by kernel_rfl) (by kernel_rfl) (by kernel_rfl) (fun w => by kernel_rfl) (hi43 rfl).1 (hi43 rfl).2.1 (hi43 rfl).2.2 w) ?_
              obtain ⟨t90_Major, t90_Minor, t90_Patch, hc44, h⟩ := h
              refine vcS_valG rfl ((!b37) && b38) (wanted_gg (d := 81) rfl (by kernel_rfl) (!b37) b38 (by kernel_rfl) ((!b37) && b38) (eqTT (!b37) b38)) rfl (Value.agg #[(Value.int .i64 t90_Major), (Value.int .i64 t90_Minor), (Value.int .i64 t90_Patch)]) (fun hg w' hx => by simp only [Bool.and_eq_true, Bool.not_eq_true'] at hg; obtain ⟨rfl, rfl⟩ := hg; exact exec_load rfl (by kernel_rfl) (run_loadN (fun w => by kernel_rfl) (fun w => by kernel_rfl) ((hc44 rfl).ext hx))) ?_
              obtain ⟨vJ48, hJ49, h⟩ := gCall_elim h
              refine vcS_effJ (σ := Int) rfl ((!b37) && b38) (wanted_gg (d := 81) rfl (by kernel_rfl) (!b37) b38 (by kernel_rfl) ((!b37) && b38) (eqTT (!b37) b38)) rfl (fun s w => vJ48 s w) (fun s => (Value.int .i64 s)) ?_ (fun hg => opVC_call rfl (by simp only [Bool.and_eq_true, Bool.not_eq_true'] at hg; obtain ⟨rfl, rfl⟩ := hg; kernel_rfl) (callS.mono (h.1 hg) fun v46 vw45 hq => ?_)) (fun hg => ⟨0, h.2 hg⟩) vcS_stop
              · intro t91 vw45 h
                subst hJ49
                refine vcS_guard rfl ((!b37) && b38) (wanted_gg (d := 81) rfl (by kernel_rfl) (!b37) b38 (by kernel_rfl) ((!b37) && b38) (eqTT (!b37) b38)) rfl (Value.bool (decide (t91 ≤ 0))) (fun hg w => by simp only [Bool.and_eq_true, Bool.not_eq_true'] at hg; obtain ⟨rfl, rfl⟩ := hg; kernel_rfl) ?_
                refine vcS_guard rfl (!b37) (wanted_g (d := 78) rfl (by kernel_rfl) b37 (by kernel_rfl) (!b37) (eqF b37)) rfl (Value.bool (b38 && (decide (t91 ≤ 0)))) (fun hg w => by simp only [Bool.and_eq_true, Bool.not_eq_true'] at hg; obtain rfl := hg; cases b38 <;> kernel_rfl) ?_
                refine vcS_pure rfl rfl rfl (Value.bool (b37 || (b38 && (decide (t91 ≤ 0))))) (fun w => by cases b37 <;> kernel_rfl) ?_
                refine vcS_fin ?_
                refine Vc.cond (b37 || (b38 && (decide (t91 ≤ 0)))) (by kernel_rfl) (fun hb => ?_) (fun hb => ?_)
                · have h := h.1 (hb)
                  refine Vc.seq ?_
                  refine Vc.region ?_
                  refine vcL_pure rfl rfl (Value.bool false) (fun w => by kernel_rfl) ?_
                  refine vcL_nil ?_
                  refine Vc.ret ?_
                  refine outOf_ret ?_
                  refine outOf_ret ?_
                  refine outs_ret ?_
                  refine done_mk (Value.bool false) (res1 (resC_tmp (by kernel_rfl))) ?_
                  exact ⟨false, rfl, h⟩
                · have h := h.2 (hb)
                  refine Vc.skip ?_
                  refine Vc.seq ?_
                  refine Vc.region ?_
                  refine vcL_pure rfl rfl (Value.bool true) (fun w => by kernel_rfl) ?_
                  refine vcL_nil ?_
                  refine Vc.seq ?_
                  refine Vc.seq ?_
                  refine Vc.region ?_
                  refine vcL_pure rfl rfl (Value.int .i64 0) (fun w => by kernel_rfl) ?_
                  refine vcL_nil ?_
                  refine Vc.block ?_
                  obtain ⟨vI74, mu75, h, hr76⟩ := h
                  refine Vc.loopJ (σ := Bool × Int) [13, 14] [95, 96, 97, 98, 99, 100, 101, 102, 103, 104, 105, 106, 107, 108, 109, 110, 111, 112, 113, 114, 115, 116, 117] (fun s => [(13, (Value.bool s.1)), (14, (Value.int .i64 s.2))]) (fun s w => vI74 s.1 s.2 w) (fun s w => mu75 s.1 s.2 w) (true, 0) h (fun _ => rfl) (by kernel_rfl) ?_
                  rintro ⟨free, vk50⟩ vw51 j h
                  have h := hr76 free vk50 vw51 h
                  refine Vc.seq ?_
                  refine Vc.seq ?_
                  refine Vc.region ?_
                  refine vcL_purs 2 [(96, (Value.pointer (some (a.add 5)))), (95, (Value.int .i64 vk50))] (by kernel_rfl) ?_
                  obtain ⟨t97, hc53, h⟩ := h
                  refine vcL_val rfl rfl (Sl.v t97) (exec_load rfl (by kernel_rfl) (run_load1 (fun w => by kernel_rfl) ((hc53)))) ?_
                  refine vcL_purs 2 [(99, (Value.bool (decide (vk50 < (t97.len : Int))))), (98, (Value.int .i64 (t97.len : Int)))] (by kernel_rfl) ?_
                  refine vcL_nil ?_
                  refine Vc.cond (decide (vk50 < (t97.len : Int))) (by kernel_rfl) (fun hb => ?_) (fun hb => ?_)
                  · have h := h.1 (of_decide_eq_true hb)
                    refine Vc.skip ?_
                    refine Vc.seq ?_
                    refine Vc.block ?_
                    obtain ⟨vw54, hvw54⟩ : ∃ y, y = vw51.drew := ⟨_, rfl⟩
                    have h := h vw54 hvw54
                    refine Vc.draw (by kernel_rfl) (fun i => !(memN [] i)) (.pur 0 (.pur 1 (.pur 2 (.val 3 (.pur 4 (.pur 5 (.val 6 (.pur 7 (.val 8 (.pur 9 (.pur 10 (.pur 11 (.val 12 (.pur 13 (.pur 14 (.pur 15 (.pur 16 .fin))))))))))))))))) (by kernel_rfl) ?_
                    rw [← hvw54]
                    clear hvw54
                    refine vcS_pure rfl rfl rfl (Value.bool free) (fun w => by kernel_rfl) ?_
                    refine vcS_pure rfl rfl rfl (Value.bool free) (fun w => by kernel_rfl) ?_
                    refine vcS_guard rfl free (wanted_g (d := 103) rfl (by kernel_rfl) free (by kernel_rfl) free (eqT free)) rfl (Value.pointer (some (a.add 5))) (fun hg w => by subst hg; kernel_rfl) ?_
                    obtain ⟨t105, hc55, h⟩ := h
                    refine vcS_valG rfl free (wanted_g (d := 103) rfl (by kernel_rfl) free (by kernel_rfl) free (eqT free)) rfl (Sl.v t105) (fun hg w' hx => by subst hg; exact exec_load rfl (by kernel_rfl) (run_load1 (fun w => by kernel_rfl) ((hc55 rfl).ext hx))) ?_
                    refine vcS_guard rfl free (wanted_g (d := 103) rfl (by kernel_rfl) free (by kernel_rfl) free (eqT free)) rfl (Value.int .i64 vk50) (fun hg w => by subst hg; kernel_rfl) ?_
                    obtain ⟨ad56, hi57, h⟩ := h
                    refine vcS_guard rfl free (wanted_g (d := 103) rfl (by kernel_rfl) free (by kernel_rfl) free (eqT free)) rfl (Value.pointer (some (ad56.add (vk50.toNat * 4)))) (fun hg w => by subst hg; exact exec_indexAt (s := t105) (el := 32) rfl (by kernel_rfl) (by kernel_rfl) (by kernel_rfl) (fun w => by kernel_rfl) (hi57 rfl).1 (hi57 rfl).2.1 (hi57 rfl).2.2 w) ?_
                    obtain ⟨t108_Name, t108_Version_Major, t108_Version_Minor, t108_Version_Patch, hc58, h⟩ := h
                    refine vcS_valG rfl free (wanted_g (d := 103) rfl (by kernel_rfl) free (by kernel_rfl) free (eqT free)) rfl (Value.agg #[(Value.string t108_Name), (Value.int .i64 t108_Version_Major), (Value.int .i64 t108_Version_Minor), (Value.int .i64 t108_Version_Patch)]) (fun hg w' hx => by subst hg; exact exec_load rfl (by kernel_rfl) (run_loadN (fun w => by kernel_rfl) (fun w => by kernel_rfl) ((hc58 rfl).ext hx))) ?_
                    refine vcS_guard rfl free (wanted_g (d := 103) rfl (by kernel_rfl) free (by kernel_rfl) free (eqT free)) rfl (Value.pointer (some a)) (fun hg w => by subst hg; kernel_rfl) ?_
                    obtain ⟨t110, hc59, h⟩ := h
                    refine vcS_valG rfl free (wanted_g (d := 103) rfl (by kernel_rfl) free (by kernel_rfl) free (eqT free)) rfl (Value.string t110) (fun hg w' hx => by subst hg; exact exec_load rfl (by kernel_rfl) (run_load1 (fun w => by kernel_rfl) ((hc59 rfl).ext hx))) ?_
                    refine vcS_guard rfl free (wanted_g (d := 103) rfl (by kernel_rfl) free (by kernel_rfl) free (eqT free)) rfl (Sl.v t47) (fun hg w => by subst hg; kernel_rfl) ?_
                    refine vcS_guard rfl free (wanted_g (d := 103) rfl (by kernel_rfl) free (by kernel_rfl) free (eqT free)) rfl (Value.int .i64 i20) (fun hg w => by subst hg; kernel_rfl) ?_
                    obtain ⟨ad60, hi61, h⟩ := h
                    refine vcS_guard rfl free (wanted_g (d := 103) rfl (by kernel_rfl) free (by kernel_rfl) free (eqT free)) rfl (Value.pointer (some (ad60.add (i20.toNat * 3)))) (fun hg w => by subst hg; exact exec_indexAt (s := t47) (el := 30) rfl (by kernel_rfl) (by kernel_rfl) (by kernel_rfl) (fun w => by kernel_rfl) (hi61 rfl).1 (hi61 rfl).2.1 (hi61 rfl).2.2 w) ?_
                    obtain ⟨t114_Major, t114_Minor, t114_Patch, hc62, h⟩ := h
                    refine vcS_valG rfl free (wanted_g (d := 103) rfl (by kernel_rfl) free (by kernel_rfl) free (eqT free)) rfl (Value.agg #[(Value.int .i64 t114_Major), (Value.int .i64 t114_Minor), (Value.int .i64 t114_Patch)]) (fun hg w' hx => by subst hg; exact exec_load rfl (by kernel_rfl) (run_loadN (fun w => by kernel_rfl) (fun w => by kernel_rfl) ((hc62 rfl).ext hx))) ?_
                    refine vcS_guard rfl free (wanted_g (d := 103) rfl (by kernel_rfl) free (by kernel_rfl) free (eqT free)) rfl (Value.agg #[(Value.string t110), (Value.int .i64 t114_Major), (Value.int .i64 t114_Minor), (Value.int .i64 t114_Patch)]) (fun hg w => by subst hg; kernel_rfl) ?_
                    refine vcS_guard rfl free (wanted_g (d := 103) rfl (by kernel_rfl) free (by kernel_rfl) free (eqT free)) rfl (Value.bool (!((bEq t108_Name t110) && (((t108_Version_Major == t114_Major) && ((t108_Version_Minor == t114_Minor) && ((t108_Version_Patch == t114_Patch) && true))) && true)))) (fun hg w => by subst hg; exact exec_struct_neq rfl (by kernel_rfl) (by kernel_rfl) (by kernel_rfl) (eqv_32 9997 t108_Name t108_Version_Major t108_Version_Minor t108_Version_Patch t110 t114_Major t114_Minor t114_Patch w)) ?_
                    refine vcS_pure rfl rfl rfl (Value.bool (free && (!((bEq t108_Name t110) && (((t108_Version_Major == t114_Major) && ((t108_Version_Minor == t114_Minor) && ((t108_Version_Patch == t114_Patch) && true))) && true))))) (fun w => by cases free <;> kernel_rfl) ?_
                    refine vcS_pure rfl rfl rfl (Value.bool (free && (!((bEq t108_Name t110) && (((t108_Version_Major == t114_Major) && ((t108_Version_Minor == t114_Minor) && ((t108_Version_Patch == t114_Patch) && true))) && true))))) (fun w => by kernel_rfl) ?_
                    refine vcS_fin ?_
                    refine Vc.region ?_
                    refine vcL_purs 3 [(14, (Value.int .i64 (wrapI (vk50 + 1)))), (101, (Value.int .i64 (wrapI (vk50 + 1)))), (100, (Value.int .i64 vk50))] (by kernel_rfl) ?_
                    refine vcL_nil ?_
                    exact ⟨((free && (!((bEq t108_Name t110) && (((t108_Version_Major == t114_Major) && ((t108_Version_Minor == t114_Minor) && ((t108_Version_Patch == t114_Patch) && true))) && true)))), (wrapI (vk50 + 1))), 50, ⟨rfl, by kernel_rfl, by kernel_rfl, by kernel_rfl⟩, h⟩
                  · have h := h.2 (of_decide_eq_false hb)
                    refine Vc.exit ?_
                    refine outOf_hit ?_
                    refine Vc.seq ?_
                    refine Vc.block ?_
                    obtain ⟨vI, mu, h, hr⟩ := h
                    refine Vc.loopJ (σ := Int) [9] [118, 119, 120, 121, 122, 123, 124, 125, 126, 127, 128, 129, 130, 131, 132, 133, 134, 135, 136, 137] (fun s => [(9, (Value.int .i64 s))]) (fun s w => vI s w) (fun s w => mu s w) vat h (fun _ => rfl) (by kernel_rfl) ?_
                    intro vat63 vw64 j h
                    have h := hr vat63 vw64 h
                    refine Vc.seq ?_
                    refine Vc.seq ?_
                    obtain ⟨vw66, hvw66⟩ : ∃ y, y = vw64.drew := ⟨_, rfl⟩
                    have h := h vw66 hvw66
                    refine Vc.draw (by kernel_rfl) (fun i => !(memN [] i)) (.pur 0 (.pur 1 (.pur 2 (.pur 3 (.pur 4 (.pur 5 (.pur 6 (.pur 7 (.pur 8 (.pur 9 (.pur 10 (.val 11 (.pur 12 (.pur 13 (.pur 14 (.val 15 (.pur 16 (.pur 17 .fin)))))))))))))))))) (by kernel_rfl) ?_
                    rw [← hvw66]
                    clear hvw66
                    refine vcS_pure rfl rfl rfl (Value.bool free) (fun w => by kernel_rfl) ?_
                    refine vcS_pure rfl rfl rfl (Value.bool free) (fun w => by kernel_rfl) ?_
                    refine vcS_guard rfl free (wanted_g (d := 119) rfl (by kernel_rfl) free (by kernel_rfl) free (eqT free)) rfl (Value.int .i64 vat63) (fun hg w => by subst hg; kernel_rfl) ?_
                    refine vcS_guard rfl free (wanted_g (d := 119) rfl (by kernel_rfl) free (by kernel_rfl) free (eqT free)) rfl (Sl.v t41) (fun hg w => by subst hg; kernel_rfl) ?_
                    refine vcS_guard rfl free (wanted_g (d := 119) rfl (by kernel_rfl) free (by kernel_rfl) free (eqT free)) rfl (Value.int .i64 (t41.len : Int)) (fun hg w => by subst hg; kernel_rfl) ?_
                    refine vcS_guard rfl free (wanted_g (d := 119) rfl (by kernel_rfl) free (by kernel_rfl) free (eqT free)) rfl (Value.bool (decide (vat63 < (t41.len : Int)))) (fun hg w => by subst hg; kernel_rfl) ?_
                    refine vcS_pure rfl rfl rfl (Value.bool (free && (decide (vat63 < (t41.len : Int))))) (fun w => by cases free <;> kernel_rfl) ?_
                    obtain ⟨b67, hb67⟩ : ∃ y, y = (free && (decide (vat63 < (t41.len : Int)))) := ⟨_, rfl⟩
                    have h := h b67 hb67
                    refine vcS_pure rfl rfl rfl (Value.bool b67) (fun w => by rw [hb67]; kernel_rfl) ?_
                    refine vcS_guard rfl b67 (wanted_g (d := 125) rfl (by kernel_rfl) b67 (by kernel_rfl) b67 (eqT b67)) rfl (Sl.v t41) (fun hg w => by subst hg; kernel_rfl) ?_
                    refine vcS_guard rfl b67 (wanted_g (d := 125) rfl (by kernel_rfl) b67 (by kernel_rfl) b67 (eqT b67)) rfl (Value.int .i64 vat63) (fun hg w => by subst hg; kernel_rfl) ?_
                    obtain ⟨ad68, hi69, h⟩ := h
                    refine vcS_guard rfl b67 (wanted_g (d := 125) rfl (by kernel_rfl) b67 (by kernel_rfl) b67 (eqT b67)) rfl (Value.pointer (some (ad68.add (vat63.toNat * 3)))) (fun hg w => by subst hg; exact exec_indexAt (s := t41) (el := 30) rfl (by kernel_rfl) (by kernel_rfl) (by kernel_rfl) (fun w => by kernel_rfl) (hi69 rfl).1 (hi69 rfl).2.1 (hi69 rfl).2.2 w) ?_
                    obtain ⟨t129_Major, t129_Minor, t129_Patch, hc70, h⟩ := h
                    refine vcS_valG rfl b67 (wanted_g (d := 125) rfl (by kernel_rfl) b67 (by kernel_rfl) b67 (eqT b67)) rfl (Value.agg #[(Value.int .i64 t129_Major), (Value.int .i64 t129_Minor), (Value.int .i64 t129_Patch)]) (fun hg w' hx => by subst hg; exact exec_load rfl (by kernel_rfl) (run_loadN (fun w => by kernel_rfl) (fun w => by kernel_rfl) ((hc70 rfl).ext hx))) ?_
                    refine vcS_guard rfl b67 (wanted_g (d := 125) rfl (by kernel_rfl) b67 (by kernel_rfl) b67 (eqT b67)) rfl (Sl.v t47) (fun hg w => by subst hg; kernel_rfl) ?_
                    refine vcS_guard rfl b67 (wanted_g (d := 125) rfl (by kernel_rfl) b67 (by kernel_rfl) b67 (eqT b67)) rfl (Value.int .i64 i20) (fun hg w => by subst hg; kernel_rfl) ?_
                    obtain ⟨ad71, hi72, h⟩ := h
                    refine vcS_guard rfl b67 (wanted_g (d := 125) rfl (by kernel_rfl) b67 (by kernel_rfl) b67 (eqT b67)) rfl (Value.pointer (some (ad71.add (i20.toNat * 3)))) (fun hg w => by subst hg; exact exec_indexAt (s := t47) (el := 30) rfl (by kernel_rfl) (by kernel_rfl) (by kernel_rfl) (fun w => by kernel_rfl) (hi72 rfl).1 (hi72 rfl).2.1 (hi72 rfl).2.2 w) ?_
                    obtain ⟨t133_Major, t133_Minor, t133_Patch, hc73, h⟩ := h
                    refine vcS_valG rfl b67 (wanted_g (d := 125) rfl (by kernel_rfl) b67 (by kernel_rfl) b67 (eqT b67)) rfl (Value.agg #[(Value.int .i64 t133_Major), (Value.int .i64 t133_Minor), (Value.int .i64 t133_Patch)]) (fun hg w' hx => by subst hg; exact exec_load rfl (by kernel_rfl) (run_loadN (fun w => by kernel_rfl) (fun w => by kernel_rfl) ((hc73 rfl).ext hx))) ?_
                    refine vcS_guard rfl b67 (wanted_g (d := 125) rfl (by kernel_rfl) b67 (by kernel_rfl) b67 (eqT b67)) rfl (Value.bool (!((t129_Major == t133_Major) && ((t129_Minor == t133_Minor) && ((t129_Patch == t133_Patch) && true))))) (fun hg w => by subst hg; exact exec_struct_neq rfl (by kernel_rfl) (by kernel_rfl) (by kernel_rfl) (eqv_30 9998 t129_Major t129_Minor t129_Patch t133_Major t133_Minor t133_Patch w)) ?_
                    refine vcS_pure rfl rfl rfl (Value.bool (b67 && (!((t129_Major == t133_Major) && ((t129_Minor == t133_Minor) && ((t129_Patch == t133_Patch) && true)))))) (fun w => by cases b67 <;> kernel_rfl) ?_
                    refine vcS_fin ?_
                    refine Vc.cond (b67 && (!((t129_Major == t133_Major) && ((t129_Minor == t133_Minor) && ((t129_Patch == t133_Patch) && true))))) (by kernel_rfl) (fun hb => ?_) (fun hb => ?_)
                    · have h := h.1 (hb)
                      refine Vc.skip ?_
                      refine Vc.block ?_
                      refine Vc.region ?_
                      refine vcL_purs 3 [(9, (Value.int .i64 (wrapI (vat63 + 1)))), (137, (Value.int .i64 (wrapI (vat63 + 1)))), (136, (Value.int .i64 vat63))] (by kernel_rfl) ?_
                      refine vcL_nil ?_
                      exact ⟨(wrapI (vat63 + 1)), 42, ⟨rfl, by kernel_rfl, by kernel_rfl, by kernel_rfl⟩, h⟩
                    · have h := h.2 (hb)
                      refine Vc.exit ?_
                      refine outOf_hit ?_
                      refine Vc.seq ?_
                      refine Vc.region ?_
                      refine vcL_purs 2 [(139, (Value.bool free)), (138, (Value.bool free))] (by kernel_rfl) ?_
                      refine vcL_guardP free (wanted_g (d := 139) rfl (by kernel_rfl) free (by kernel_rfl) free (eqT free)) rfl (Value.int .i64 vat63) (fun hg w => by subst hg; kernel_rfl) ?_
                      refine vcL_guardP free (wanted_g (d := 139) rfl (by kernel_rfl) free (by kernel_rfl) free (eqT free)) rfl (Sl.v t41) (fun hg w => by subst hg; kernel_rfl) ?_
                      refine vcL_guardP free (wanted_g (d := 139) rfl (by kernel_rfl) free (by kernel_rfl) free (eqT free)) rfl (Value.int .i64 (t41.len : Int)) (fun hg w => by subst hg; kernel_rfl) ?_
                      refine vcL_guardP free (wanted_g (d := 139) rfl (by kernel_rfl) free (by kernel_rfl) free (eqT free)) rfl (Value.bool (vat63 == (t41.len : Int))) (fun hg w => by subst hg; kernel_rfl) ?_
                      refine vcL_pure rfl rfl (Value.bool (free && (vat63 == (t41.len : Int)))) (fun w => by cases free <;> kernel_rfl) ?_
                      refine vcL_nil ?_
                      refine Vc.cond (free && (vat63 == (t41.len : Int))) (by kernel_rfl) (fun hb => ?_) (fun hb => ?_)
                      · have h := h.1 (hb)
                        refine Vc.seq ?_
                        refine Vc.region ?_
                        refine vcL_pure rfl rfl (Value.bool false) (fun w => by kernel_rfl) ?_
                        refine vcL_nil ?_
                        refine Vc.ret ?_
                        refine outOf_ret ?_
                        refine outOf_ret ?_
                        refine outs_ret ?_
                        refine done_mk (Value.bool false) (res1 (resC_tmp (by kernel_rfl))) ?_
                        exact ⟨false, rfl, h⟩
                      · have h := h.2 (hb)
                        refine Vc.skip ?_
                        refine Vc.region ?_
                        refine vcL_purs 3 [(10, (Value.int .i64 (wrapI (i20 + 1)))), (58, (Value.int .i64 (wrapI (i20 + 1)))), (57, (Value.int .i64 i20))] (by kernel_rfl) ?_
                        refine vcL_nil ?_
                        exact ⟨(vat63, (wrapI (i20 + 1))), 228, ⟨rfl, by kernel_rfl, by kernel_rfl, by kernel_rfl⟩, h⟩
              · obtain ⟨t91, rfl, hq⟩ := hq
                exact ⟨fun hb => absurd hb (by decide), t91, rfl, hq⟩
          · have h := h.2 (of_decide_eq_false hb)
            refine Vc.exit ?_
            refine outOf_hit ?_
            refine Vc.seq ?_
            refine Vc.region ?_
            refine vcL_pure rfl rfl (Value.bool true) (fun w => by kernel_rfl) ?_
            refine vcL_nil ?_
            refine Vc.ret ?_
            refine outs_ret ?_
            refine done_mk (Value.bool true) (res1 (resC_tmp (by kernel_rfl))) ?_
            exact ⟨true, rfl, h⟩
  · obtain ⟨t19, rfl, hq⟩ := hq
    exact ⟨t19, rfl, hq⟩
theorem halyardlaw08_CatalogPins.go {l : Sl} {x_Name : ByteArray} {x_Version_Major : Int} {x_Version_Minor : Int} {x_Version_Patch : Int} {x_Range : Sl} {x_Pins : Sl} {w : World} {k : Value → World → Prop} (h : halyardlaw08_CatalogPins l x_Name x_Version_Major x_Version_Minor x_Version_Patch x_Range x_Pins w fun r0 w' => k (Value.bool r0) w') : callS Tryz.prog 7 [(Sl.v l), (Value.agg #[(Value.string x_Name), (Value.int .i64 x_Version_Major), (Value.int .i64 x_Version_Minor), (Value.int .i64 x_Version_Patch), (Sl.v x_Range), (Sl.v x_Pins)])] w k := (halyardlaw08_CatalogPins.sound l x_Name x_Version_Major x_Version_Minor x_Version_Patch x_Range x_Pins w _ h).mono (by rintro _ _ ⟨r0, rfl, h⟩; exact h)

/-- halyard/catalog.New -/
def catalog_New (w : World) (R : Option Addr → World → Prop) : Prop :=
  semS Tryz.prog (Instr.makeMap 101 none) w fun v vw => ∃ (t1 : Option Nat), v = (Value.map t1) ∧ newS vw [(Value.map t1)] 103 fun a vw1 => R (some a) vw1
set_option maxHeartbeats 8000000 in
theorem catalog_New.sound (w : World) (R : Option Addr → World → Prop) (h : catalog_New w R) : callS Tryz.prog 16 [] w (fun v w' => ∃ (r0 : Option Addr), v = (Value.pointer r0) ∧ R r0 w') := by
  unfold catalog_New at h
  refine calls_of_vc 4 rfl Tryz.func16 rfl (by kernel_rfl) (by simp) ?_
  refine Vc.seq ?_
  refine Vc.region ?_
  refine vcL_pure rfl rfl (Value.pointer none) (fun w => by kernel_rfl) ?_
  refine vcL_nil ?_
  refine Vc.seq ?_
  refine Vc.region ?_
  refine vcL_eff rfl (opVC_sem rfl (c := Instr.makeMap 101 none) (by kernel_rfl) (semS.mono h fun v vw h => ?_)) 
  obtain ⟨t1, rfl, h⟩ := h
  refine vcL_pure rfl rfl (Value.agg #[(Value.map t1)]) (fun w => by kernel_rfl) ?_
  refine vcL_eff rfl (opVC_new rfl (fun a => Value.pointer (some a)) (by kernel_rfl) (newS.mono h fun a vw1 hx h => ?_)) 
  refine vcL_pure rfl rfl (Value.pointer (some a)) (fun w => by kernel_rfl) ?_
  refine vcL_nil ?_
  refine Vc.ret ?_
  refine outs_ret ?_
  refine done_mk (Value.pointer (some a)) (res1 (resC_tmp (by kernel_rfl))) ?_
  exact ⟨(some a), rfl, h⟩
theorem catalog_New.go {w : World} {k : Value → World → Prop} (h : catalog_New w fun r0 w' => k (Value.pointer r0) w') : callS Tryz.prog 16 [] w k := (catalog_New.sound w _ h).mono (by rintro _ _ ⟨r0, rfl, h⟩; exact h)

/-- halyard/halyardlaw08.known -/
def halyardlaw08_known (w : World) (R : Bool → World → Prop) : Prop :=
  callS Tryz.prog 16 [] w fun v vw => ∃ (t7 : Option Addr), v = (Value.pointer t7) ∧ ((t7 = none → R false vw) ∧ (¬ (t7 = none) → newS vw [(Value.int .i64 0), (Value.int .i64 0), (Value.int .i64 0)] 30 fun a vw1 => stw vw1 a [(Value.int .i64 1), (Value.int .i64 0), (Value.int .i64 0)] fun vw2 => ∃ (t12_Major : Int) (t12_Minor : Int) (t12_Patch : Int), (ldc vw2 a [(Value.int .i64 t12_Major), (Value.int .i64 t12_Minor), (Value.int .i64 t12_Patch)]) ∧ callS Tryz.prog 19 [(Value.pointer t7), (Value.agg #[(Value.string (ByteArray.mk #[97])), (Value.int .i64 t12_Major), (Value.int .i64 t12_Minor), (Value.int .i64 t12_Patch), (Sl.v Sl.nil), (Sl.v Sl.nil), (Sl.v Sl.nil)])] vw2 fun v4 vw3 => ∃ (t14 : Int), v4 = (Value.int .i64 t14) ∧ ∃ (t17_Major : Int) (t17_Minor : Int) (t17_Patch : Int), (ldc vw3 a [(Value.int .i64 t17_Major), (Value.int .i64 t17_Minor), (Value.int .i64 t17_Patch)]) ∧ callS Tryz.prog 22 [(Value.pointer t7), (Value.string (ByteArray.mk #[97])), (Value.agg #[(Value.int .i64 t17_Major), (Value.int .i64 t17_Minor), (Value.int .i64 t17_Patch)])] vw3 fun v8 vw7 => ∃ (t18_Name : ByteArray) (t18_Version_Major : Int) (t18_Version_Minor : Int) (t18_Version_Patch : Int) (t18_Deps : Sl) (t18_Peers : Sl) (t18_Optional : Sl) (t18b : Bool), v8 = (Value.tuple #[(Value.agg #[(Value.string t18_Name), (Value.int .i64 t18_Version_Major), (Value.int .i64 t18_Version_Minor), (Value.int .i64 t18_Version_Patch), (Sl.v t18_Deps), (Sl.v t18_Peers), (Sl.v t18_Optional)]), (Value.bool t18b)]) ∧ newS vw7 [(Value.string (ByteArray.mk #[])), (Value.int .i64 0), (Value.int .i64 0), (Value.int .i64 0), (Sl.v Sl.nil), (Sl.v Sl.nil), (Sl.v Sl.nil)] 48 fun a10 vw11 => stw vw11 a10 [(Value.string t18_Name), (Value.int .i64 t18_Version_Major), (Value.int .i64 t18_Version_Minor), (Value.int .i64 t18_Version_Patch), (Sl.v t18_Deps), (Sl.v t18_Peers), (Sl.v t18_Optional)] fun vw12 => callS Tryz.prog 49 [] vw12 fun v14 vw13 => ∃ (t22 : Sl), v14 = (Sl.v t22) ∧ callS Tryz.prog 28 [(Value.pointer t7), (Value.string (ByteArray.mk #[97])), (Sl.v t22), (Sl.v Sl.nil)] vw13 fun v17 vw16 => ∃ (t23 : Sl), v17 = (Sl.v t23) ∧ bnd vw16.drew fun (vw19 : World) => bnd (t14 == 0) fun (b : Bool) => bnd (b && t18b) fun (b20 : Bool) => ∃ (t31 : ByteArray), grd b20 (ldc vw19 a10 [(Value.string t31)]) ∧ bnd (b20 && (bEq t31 (ByteArray.mk #[97]))) fun (b22 : Bool) => bnd (b22 && ((t23.len : Int) == 1)) fun (b23 : Bool) => ∃ (ad : Addr), grd b23 (t23.a = some ad ∧ (0 : Int) ≤ 0 ∧ 0 < (t23.len : Int)) ∧ ∃ (t42_Major : Int) (t42_Minor : Int) (t42_Patch : Int), grd b23 (ldc vw19 (ad.add ((0 : Int).toNat * 3)) [(Value.int .i64 t42_Major), (Value.int .i64 t42_Minor), (Value.int .i64 t42_Patch)]) ∧ ∃ (t43_Major : Int) (t43_Minor : Int) (t43_Patch : Int), grd b23 (ldc vw19 a [(Value.int .i64 t43_Major), (Value.int .i64 t43_Minor), (Value.int .i64 t43_Patch)]) ∧ bnd (b23 && ((t42_Major == t43_Major) && ((t42_Minor == t43_Minor) && ((t42_Patch == t43_Patch) && true)))) fun (b26 : Bool) => gCall b26 (fun (t48 : Sl) (vw27 : World) => R (b26 && ((t48.len : Int) == 1)) vw27) (fun q => callS Tryz.prog 31 [(Value.pointer t7)] vw19 fun v28 vw27 => ∃ (t48 : Sl), v28 = (Sl.v t48) ∧ q t48 vw27) (fun q => q Sl.nil vw19)))
set_option maxHeartbeats 8000000 in
theorem halyardlaw08_known.sound (w : World) (R : Bool → World → Prop) (h : halyardlaw08_known w R) : callS Tryz.prog 17 [] w (fun v w' => ∃ (r0 : Bool), v = (Value.bool r0) ∧ R r0 w') := by
  unfold halyardlaw08_known at h
  refine calls_of_vc 52 rfl Tryz.func17 rfl (by kernel_rfl) (by simp) ?_
  refine Vc.seq ?_
  refine Vc.region ?_
  refine vcL_pure rfl rfl (Value.bool false) (fun w => by kernel_rfl) ?_
  refine vcL_nil ?_
  refine Vc.seq ?_
  refine Vc.region ?_
  refine vcL_eff rfl (opVC_call rfl (by kernel_rfl) (callS.mono h fun v vw h => ?_)) 
  obtain ⟨t7, rfl, h⟩ := h
  refine vcL_pure rfl rfl (Value.pointer t7) (fun w => by kernel_rfl) ?_
  refine vcL_nil ?_
  refine Vc.seq ?_
  refine Vc.seq ?_
  refine Vc.region ?_
  refine vcL_pure rfl rfl (Value.pointer t7) (fun w => by kernel_rfl) ?_
  refine vcL_pure rfl rfl (Value.bool (Option.isNone t7)) (fun w => by cases t7 <;> kernel_rfl) ?_
  refine vcL_nil ?_
  refine Vc.cond (Option.isNone t7) (by kernel_rfl) (fun hb => ?_) (fun hb => ?_)
  · have h := h.1 (Option.isNone_iff_eq_none.1 hb)
    refine Vc.seq ?_
    refine Vc.region ?_
    refine vcL_pure rfl rfl (Value.bool false) (fun w => by kernel_rfl) ?_
    refine vcL_nil ?_
    refine Vc.ret ?_
    refine outs_ret ?_
    refine done_mk (Value.bool false) (res1 (resC_tmp (by kernel_rfl))) ?_
    exact ⟨false, rfl, h⟩
  · have h := h.2 (isNone_false hb)
    refine Vc.skip ?_
    refine Vc.seq ?_
    refine Vc.region ?_
    refine vcL_pure rfl rfl (Value.agg #[(Value.int .i64 1), (Value.int .i64 0), (Value.int .i64 0)]) (fun w => by kernel_rfl) ?_
    refine vcL_eff rfl (opVC_new rfl (fun a => Value.pointer (some a)) (by kernel_rfl) (newS.mono h fun a vw1 hx h => ?_)) 
    refine vcL_eff rfl (opVC_store rfl rfl (a := a) (by kernel_rfl) (v := (Value.agg #[(Value.int .i64 1), (Value.int .i64 0), (Value.int .i64 0)])) (by kernel_rfl) [(Value.int .i64 1), (Value.int .i64 0), (Value.int .i64 0)] (by kernel_rfl) (fun w => by kernel_rfl) (by kernel_rfl) (stw.mono h fun vw2 h => ?_)) 
    refine vcL_nil ?_
    refine Vc.seq ?_
    refine Vc.region ?_
    refine vcL_pure rfl rfl (Value.pointer t7) (fun w => by kernel_rfl) ?_
    obtain ⟨t12_Major, t12_Minor, t12_Patch, hc, h⟩ := h
    refine vcL_val rfl rfl (Value.agg #[(Value.int .i64 t12_Major), (Value.int .i64 t12_Minor), (Value.int .i64 t12_Patch)]) (exec_load rfl (by kernel_rfl) (run_loadN (fun w => by kernel_rfl) (fun w => by kernel_rfl) ((hc)))) ?_
    refine vcL_pure rfl rfl (Value.agg #[(Value.string (ByteArray.mk #[97])), (Value.int .i64 t12_Major), (Value.int .i64 t12_Minor), (Value.int .i64 t12_Patch), (Sl.v Sl.nil), (Sl.v Sl.nil), (Sl.v Sl.nil)]) (fun w => by kernel_rfl) ?_
    refine vcL_eff rfl (opVC_call rfl (by kernel_rfl) (callS.mono h fun v4 vw3 h => ?_)) 
    obtain ⟨t14, rfl, h⟩ := h
    refine vcL_pure rfl rfl (Value.int .i64 t14) (fun w => by kernel_rfl) ?_
    refine vcL_nil ?_
    refine Vc.seq ?_
    refine Vc.region ?_
    refine vcL_pure rfl rfl (Value.pointer t7) (fun w => by kernel_rfl) ?_
    obtain ⟨t17_Major, t17_Minor, t17_Patch, hc6, h⟩ := h
    refine vcL_val rfl rfl (Value.agg #[(Value.int .i64 t17_Major), (Value.int .i64 t17_Minor), (Value.int .i64 t17_Patch)]) (exec_load rfl (by kernel_rfl) (run_loadN (fun w => by kernel_rfl) (fun w => by kernel_rfl) ((hc6)))) ?_
    refine vcL_eff rfl (opVC_call rfl (by kernel_rfl) (callS.mono h fun v8 vw7 h => ?_)) 
    obtain ⟨t18_Name, t18_Version_Major, t18_Version_Minor, t18_Version_Patch, t18_Deps, t18_Peers, t18_Optional, t18b, rfl, h⟩ := h
    refine vcL_purs 3 [(20, (Value.bool t18b)), (19, (Value.agg #[(Value.string t18_Name), (Value.int .i64 t18_Version_Major), (Value.int .i64 t18_Version_Minor), (Value.int .i64 t18_Version_Patch), (Sl.v t18_Deps), (Sl.v t18_Peers), (Sl.v t18_Optional)])), (15, (Value.tuple #[(Value.agg #[(Value.string t18_Name), (Value.int .i64 t18_Version_Major), (Value.int .i64 t18_Version_Minor), (Value.int .i64 t18_Version_Patch), (Sl.v t18_Deps), (Sl.v t18_Peers), (Sl.v t18_Optional)]), (Value.bool t18b)]))] (by kernel_rfl) ?_
    refine vcL_eff rfl (opVC_new rfl (fun a => Value.pointer (some a)) (by kernel_rfl) (newS.mono h fun a10 vw11 hx h => ?_)) 
    refine vcL_eff rfl (opVC_store rfl rfl (a := a10) (by kernel_rfl) (v := (Value.agg #[(Value.string t18_Name), (Value.int .i64 t18_Version_Major), (Value.int .i64 t18_Version_Minor), (Value.int .i64 t18_Version_Patch), (Sl.v t18_Deps), (Sl.v t18_Peers), (Sl.v t18_Optional)])) (by kernel_rfl) [(Value.string t18_Name), (Value.int .i64 t18_Version_Major), (Value.int .i64 t18_Version_Minor), (Value.int .i64 t18_Version_Patch), (Sl.v t18_Deps), (Sl.v t18_Peers), (Sl.v t18_Optional)] (by kernel_rfl) (fun w => by kernel_rfl) (by kernel_rfl) (stw.mono h fun vw12 h => ?_)) 
    refine vcL_pure rfl rfl (Value.bool t18b) (fun w => by kernel_rfl) ?_
    refine vcL_nil ?_
    refine Vc.seq ?_
    refine Vc.region ?_
    refine vcL_pure rfl rfl (Value.pointer t7) (fun w => by kernel_rfl) ?_
    refine vcL_eff rfl (opVC_call rfl (by kernel_rfl) (callS.mono h fun v14 vw13 h => ?_)) 
    obtain ⟨t22, rfl, h⟩ := h
    refine vcL_eff rfl (opVC_call rfl (by kernel_rfl) (callS.mono h fun v17 vw16 h => ?_)) 
    obtain ⟨t23, rfl, h⟩ := h
    refine vcL_pure rfl rfl (Sl.v t23) (fun w => by kernel_rfl) ?_
    refine vcL_nil ?_
    refine Vc.seq ?_
    obtain ⟨vw19, hvw19⟩ : ∃ y, y = vw16.drew := ⟨_, rfl⟩
    have h := h vw19 hvw19
    refine Vc.draw (by kernel_rfl) (fun i => !(memN [24] i)) (.pur 0 (.pur 1 (.pur 2 (.pur 3 (.pur 4 (.pur 5 (.pur 6 (.val 7 (.pur 8 (.pur 9 (.pur 10 (.pur 11 (.pur 12 (.pur 13 (.pur 14 (.pur 15 (.pur 16 (.pur 17 (.val 18 (.val 19 (.pur 20 (.pur 21 (.pur 22 (.pur 23 (.eff 24 (.pur 25 (.pur 26 (.pur 27 (.pur 28 .fin)))) .stop))))))))))))))))))))))))) (by kernel_rfl) ?_
    rw [← hvw19]
    clear hvw19
    refine vcS_pure rfl rfl rfl (Value.int .i64 t14) (fun w => by kernel_rfl) ?_
    refine vcS_pure rfl rfl rfl (Value.bool (t14 == 0)) (fun w => by kernel_rfl) ?_
    obtain ⟨b, hb⟩ : ∃ y, y = (t14 == 0) := ⟨_, rfl⟩
    have h := h b hb
    refine vcS_pure rfl rfl rfl (Value.bool b) (fun w => by rw [hb]; kernel_rfl) ?_
    refine vcS_guard rfl b (wanted_g (d := 26) rfl (by kernel_rfl) b (by kernel_rfl) b (eqT b)) rfl (Value.bool t18b) (fun hg w => by subst hg; kernel_rfl) ?_
    refine vcS_pure rfl rfl rfl (Value.bool (b && t18b)) (fun w => by cases b <;> kernel_rfl) ?_
    obtain ⟨b20, hb20⟩ : ∃ y, y = (b && t18b) := ⟨_, rfl⟩
    have h := h b20 hb20
    refine vcS_pure rfl rfl rfl (Value.bool b20) (fun w => by rw [hb20]; kernel_rfl) ?_
    refine vcS_guard rfl b20 (wanted_g (d := 29) rfl (by kernel_rfl) b20 (by kernel_rfl) b20 (eqT b20)) rfl (Value.pointer (some a10)) (fun hg w => by subst hg; kernel_rfl) ?_
    obtain ⟨t31, hc21, h⟩ := h
    refine vcS_valG rfl b20 (wanted_g (d := 29) rfl (by kernel_rfl) b20 (by kernel_rfl) b20 (eqT b20)) rfl (Value.string t31) (fun hg w' hx => by subst hg; exact exec_load rfl (by kernel_rfl) (run_load1 (fun w => by kernel_rfl) ((hc21 rfl).ext hx))) ?_
    refine vcS_guard rfl b20 (wanted_g (d := 29) rfl (by kernel_rfl) b20 (by kernel_rfl) b20 (eqT b20)) rfl (Value.bool (bEq t31 (ByteArray.mk #[97]))) (fun hg w => by subst hg; kernel_rfl) ?_
    refine vcS_pure rfl rfl rfl (Value.bool (b20 && (bEq t31 (ByteArray.mk #[97])))) (fun w => by cases b20 <;> kernel_rfl) ?_
    obtain ⟨b22, hb22⟩ : ∃ y, y = (b20 && (bEq t31 (ByteArray.mk #[97]))) := ⟨_, rfl⟩
    have h := h b22 hb22
    refine vcS_pure rfl rfl rfl (Value.bool b22) (fun w => by rw [hb22]; kernel_rfl) ?_
    refine vcS_guard rfl b22 (wanted_g (d := 34) rfl (by kernel_rfl) b22 (by kernel_rfl) b22 (eqT b22)) rfl (Sl.v t23) (fun hg w => by subst hg; kernel_rfl) ?_
    refine vcS_guard rfl b22 (wanted_g (d := 34) rfl (by kernel_rfl) b22 (by kernel_rfl) b22 (eqT b22)) rfl (Value.int .i64 (t23.len : Int)) (fun hg w => by subst hg; kernel_rfl) ?_
    refine vcS_guard rfl b22 (wanted_g (d := 34) rfl (by kernel_rfl) b22 (by kernel_rfl) b22 (eqT b22)) rfl (Value.bool ((t23.len : Int) == 1)) (fun hg w => by subst hg; kernel_rfl) ?_
    refine vcS_pure rfl rfl rfl (Value.bool (b22 && ((t23.len : Int) == 1))) (fun w => by cases b22 <;> kernel_rfl) ?_
    obtain ⟨b23, hb23⟩ : ∃ y, y = (b22 && ((t23.len : Int) == 1)) := ⟨_, rfl⟩
    have h := h b23 hb23
    refine vcS_pure rfl rfl rfl (Value.bool b23) (fun w => by rw [hb23]; kernel_rfl) ?_
    refine vcS_guard rfl b23 (wanted_g (d := 39) rfl (by kernel_rfl) b23 (by kernel_rfl) b23 (eqT b23)) rfl (Sl.v t23) (fun hg w => by subst hg; kernel_rfl) ?_
    obtain ⟨ad, hi, h⟩ := h
    refine vcS_guard rfl b23 (wanted_g (d := 39) rfl (by kernel_rfl) b23 (by kernel_rfl) b23 (eqT b23)) rfl (Value.pointer (some (ad.add ((0 : Int).toNat * 3)))) (fun hg w => by subst hg; exact exec_indexAt (s := t23) (el := 30) rfl (by kernel_rfl) (by kernel_rfl) (by kernel_rfl) (fun w => by kernel_rfl) (hi rfl).1 (hi rfl).2.1 (hi rfl).2.2 w) ?_
    obtain ⟨t42_Major, t42_Minor, t42_Patch, hc24, h⟩ := h
    refine vcS_valG rfl b23 (wanted_g (d := 39) rfl (by kernel_rfl) b23 (by kernel_rfl) b23 (eqT b23)) rfl (Value.agg #[(Value.int .i64 t42_Major), (Value.int .i64 t42_Minor), (Value.int .i64 t42_Patch)]) (fun hg w' hx => by subst hg; exact exec_load rfl (by kernel_rfl) (run_loadN (fun w => by kernel_rfl) (fun w => by kernel_rfl) ((hc24 rfl).ext hx))) ?_
    obtain ⟨t43_Major, t43_Minor, t43_Patch, hc25, h⟩ := h
    refine vcS_valG rfl b23 (wanted_g (d := 39) rfl (by kernel_rfl) b23 (by kernel_rfl) b23 (eqT b23)) rfl (Value.agg #[(Value.int .i64 t43_Major), (Value.int .i64 t43_Minor), (Value.int .i64 t43_Patch)]) (fun hg w' hx => by subst hg; exact exec_load rfl (by kernel_rfl) (run_loadN (fun w => by kernel_rfl) (fun w => by kernel_rfl) ((hc25 rfl).ext hx))) ?_
    refine vcS_guard rfl b23 (wanted_g (d := 39) rfl (by kernel_rfl) b23 (by kernel_rfl) b23 (eqT b23)) rfl (Value.bool ((t42_Major == t43_Major) && ((t42_Minor == t43_Minor) && ((t42_Patch == t43_Patch) && true)))) (fun hg w => by subst hg; exact exec_struct_eq rfl (by kernel_rfl) (by kernel_rfl) (by kernel_rfl) (eqv_30 9998 t42_Major t42_Minor t42_Patch t43_Major t43_Minor t43_Patch w)) ?_
    refine vcS_pure rfl rfl rfl (Value.bool (b23 && ((t42_Major == t43_Major) && ((t42_Minor == t43_Minor) && ((t42_Patch == t43_Patch) && true))))) (fun w => by cases b23 <;> kernel_rfl) ?_
    obtain ⟨b26, hb26⟩ : ∃ y, y = (b23 && ((t42_Major == t43_Major) && ((t42_Minor == t43_Minor) && ((t42_Patch == t43_Patch) && true)))) := ⟨_, rfl⟩
    have h := h b26 hb26
    refine vcS_pure rfl rfl rfl (Value.bool b26) (fun w => by rw [hb26]; kernel_rfl) ?_
    refine vcS_guard rfl b26 (wanted_g (d := 46) rfl (by kernel_rfl) b26 (by kernel_rfl) b26 (eqT b26)) rfl (Value.pointer t7) (fun hg w => by subst hg; kernel_rfl) ?_
    obtain ⟨vJ, hJ, h⟩ := gCall_elim h
    refine vcS_effJ (σ := Sl) rfl b26 (wanted_g (d := 46) rfl (by kernel_rfl) b26 (by kernel_rfl) b26 (eqT b26)) rfl (fun s w => vJ s w) (fun s => (Sl.v s)) ?_ (fun hg => opVC_call rfl (by subst hg; kernel_rfl) (callS.mono (h.1 hg) fun v28 vw27 hq => ?_)) (fun hg => ⟨Sl.nil, h.2 hg⟩) vcS_stop
    · intro t48 vw27 h
      subst hJ
      refine vcS_guard rfl b26 (wanted_g (d := 46) rfl (by kernel_rfl) b26 (by kernel_rfl) b26 (eqT b26)) rfl (Value.int .i64 (t48.len : Int)) (fun hg w => by subst hg; kernel_rfl) ?_
      refine vcS_guard rfl b26 (wanted_g (d := 46) rfl (by kernel_rfl) b26 (by kernel_rfl) b26 (eqT b26)) rfl (Value.bool ((t48.len : Int) == 1)) (fun hg w => by subst hg; kernel_rfl) ?_
      refine vcS_pure rfl rfl rfl (Value.bool (b26 && ((t48.len : Int) == 1))) (fun w => by cases b26 <;> kernel_rfl) ?_
      refine vcS_pure rfl rfl rfl (Value.bool (b26 && ((t48.len : Int) == 1))) (fun w => by kernel_rfl) ?_
      refine vcS_fin ?_
      refine Vc.ret ?_
      refine outs_ret ?_
      refine done_mk (Value.bool (b26 && ((t48.len : Int) == 1))) (res1 (resC_tmp (by kernel_rfl))) ?_
      exact ⟨(b26 && ((t48.len : Int) == 1)), rfl, h⟩
    · obtain ⟨t48, rfl, hq⟩ := hq
      exact ⟨fun hb => absurd hb (by decide), t48, rfl, hq⟩
theorem halyardlaw08_known.go {w : World} {k : Value → World → Prop} (h : halyardlaw08_known w fun r0 w' => k (Value.bool r0) w') : callS Tryz.prog 17 [] w k := (halyardlaw08_known.sound w _ h).mono (by rintro _ _ ⟨r0, rfl, h⟩; exact h)

/-- (*halyard/catalog.Catalog).Put -/
def catalog_Catalog_Put (c : Option Addr) (p_Name : ByteArray) (p_Version_Major : Int) (p_Version_Minor : Int) (p_Version_Patch : Int) (p_Deps : Sl) (p_Peers : Sl) (p_Optional : Sl) (w : World) (R : Int → World → Prop) : Prop :=
  newS w [(Value.string p_Name), (Value.int .i64 p_Version_Major), (Value.int .i64 p_Version_Minor), (Value.int .i64 p_Version_Patch), (Sl.v p_Deps), (Sl.v p_Peers), (Sl.v p_Optional)] 48 fun a vw => ∃ (t8_Name : ByteArray) (t8_Version_Major : Int) (t8_Version_Minor : Int) (t8_Version_Patch : Int) (t8_Deps : Sl) (t8_Peers : Sl) (t8_Optional : Sl), (ldc vw a [(Value.string t8_Name), (Value.int .i64 t8_Version_Major), (Value.int .i64 t8_Version_Minor), (Value.int .i64 t8_Version_Patch), (Sl.v t8_Deps), (Sl.v t8_Peers), (Sl.v t8_Optional)]) ∧ callS Tryz.prog 61 [(Value.agg #[(Value.string t8_Name), (Value.int .i64 t8_Version_Major), (Value.int .i64 t8_Version_Minor), (Value.int .i64 t8_Version_Patch), (Sl.v t8_Deps), (Sl.v t8_Peers), (Sl.v t8_Optional)])] vw fun v vw1 => ∃ (t9 : Bool), v = (Value.bool t9) ∧ (((!t9) = true → R 24 vw1) ∧ ((!t9) = false → ∃ (t12 : ByteArray), (ldc vw1 a [(Value.string t12)]) ∧ ∃ (t14_Major : Int) (t14_Minor : Int) (t14_Patch : Int), (ldc vw1 (a.add 1) [(Value.int .i64 t14_Major), (Value.int .i64 t14_Minor), (Value.int .i64 t14_Patch)]) ∧ newS vw1 [(Value.string (ByteArray.mk #[])), (Value.int .i64 0), (Value.int .i64 0), (Value.int .i64 0)] 106 fun a4 vw5 => stw vw5 a4 [(Value.string t12), (Value.int .i64 t14_Major), (Value.int .i64 t14_Minor), (Value.int .i64 t14_Patch)] fun vw6 => bnd vw6.drew fun (vw7 : World) => ∃ (p : Addr), (c = some p) ∧ ∃ (t20 : Option Nat), (ldc vw7 p [(Value.map t20)]) ∧ ∃ (t21_name : ByteArray) (t21_version_Major : Int) (t21_version_Minor : Int) (t21_version_Patch : Int), (ldc vw7 a4 [(Value.string t21_name), (Value.int .i64 t21_version_Major), (Value.int .i64 t21_version_Minor), (Value.int .i64 t21_version_Patch)]) ∧ ∃ (t22_Name : ByteArray) (t22_Version_Major : Int) (t22_Version_Minor : Int) (t22_Version_Patch : Int) (t22_Deps : Sl) (t22_Peers : Sl) (t22_Optional : Sl) (t22b : Bool), (stabS Tryz.prog (Instr.lookup 101 (Value.map t20) (Value.agg #[(Value.string t21_name), (Value.int .i64 t21_version_Major), (Value.int .i64 t21_version_Minor), (Value.int .i64 t21_version_Patch)]) true) vw7 (Value.tuple #[(Value.agg #[(Value.string t22_Name), (Value.int .i64 t22_Version_Major), (Value.int .i64 t22_Version_Minor), (Value.int .i64 t22_Version_Patch), (Sl.v t22_Deps), (Sl.v t22_Peers), (Sl.v t22_Optional)]), (Value.bool t22b)])) ∧ newS vw7 [(Value.string (ByteArray.mk #[])), (Value.int .i64 0), (Value.int .i64 0), (Value.int .i64 0), (Sl.v Sl.nil), (Sl.v Sl.nil), (Sl.v Sl.nil)] 48 fun a12 vw13 => stw vw13 a12 [(Value.string t22_Name), (Value.int .i64 t22_Version_Major), (Value.int .i64 t22_Version_Minor), (Value.int .i64 t22_Version_Patch), (Sl.v t22_Deps), (Sl.v t22_Peers), (Sl.v t22_Optional)] fun vw14 => ((t22b = true → R 11 vw14) ∧ (t22b = false → ∃ (p15 : Addr), (c = some p15) ∧ ∃ (t29 : Option Nat), (ldc vw14 p15 [(Value.map t29)]) ∧ ∃ (t30 : Int), (stabS Tryz.prog (Builtin.len_ #[101] 3 #[(Value.map t29)]) vw14 (Value.int .i64 t30)) ∧ ((128 ≤ t30 → R 26 vw14) ∧ (¬ (128 ≤ t30) → bnd vw14.drew fun (vw19 : World) => ∃ (p20 : Addr), (c = some p20) ∧ ∃ (t35 : Option Nat), (ldc vw19 p20 [(Value.map t35)]) ∧ ∃ (t36_name : ByteArray) (t36_version_Major : Int) (t36_version_Minor : Int) (t36_version_Patch : Int), (ldc vw19 a4 [(Value.string t36_name), (Value.int .i64 t36_version_Major), (Value.int .i64 t36_version_Minor), (Value.int .i64 t36_version_Patch)]) ∧ ∃ (t37_Name : ByteArray) (t37_Version_Major : Int) (t37_Version_Minor : Int) (t37_Version_Patch : Int) (t37_Deps : Sl) (t37_Peers : Sl) (t37_Optional : Sl), (ldc vw19 a [(Value.string t37_Name), (Value.int .i64 t37_Version_Major), (Value.int .i64 t37_Version_Minor), (Value.int .i64 t37_Version_Patch), (Sl.v t37_Deps), (Sl.v t37_Peers), (Sl.v t37_Optional)]) ∧ callX Tryz.prog 62 [(Value.agg #[(Value.string t37_Name), (Value.int .i64 t37_Version_Major), (Value.int .i64 t37_Version_Minor), (Value.int .i64 t37_Version_Patch), (Sl.v t37_Deps), (Sl.v t37_Peers), (Sl.v t37_Optional)])] vw19 fun v26 vw25 => ∃ (t38_Name : ByteArray) (t38_Version_Major : Int) (t38_Version_Minor : Int) (t38_Version_Patch : Int) (t38_Deps : Sl) (t38_Peers : Sl) (t38_Optional : Sl), v26 = (Value.agg #[(Value.string t38_Name), (Value.int .i64 t38_Version_Major), (Value.int .i64 t38_Version_Minor), (Value.int .i64 t38_Version_Patch), (Sl.v t38_Deps), (Sl.v t38_Peers), (Sl.v t38_Optional)]) ∧ semU Tryz.prog (Instr.mapUpdate 101 (Value.map t35) (Value.agg #[(Value.string t36_name), (Value.int .i64 t36_version_Major), (Value.int .i64 t36_version_Minor), (Value.int .i64 t36_version_Patch)]) (Value.agg #[(Value.string t38_Name), (Value.int .i64 t38_Version_Major), (Value.int .i64 t38_Version_Minor), (Value.int .i64 t38_Version_Patch), (Sl.v t38_Deps), (Sl.v t38_Peers), (Sl.v t38_Optional)])) vw25 fun vw28 => R 0 vw28))))))
set_option maxHeartbeats 8000000 in
theorem catalog_Catalog_Put.sound (c : Option Addr) (p_Name : ByteArray) (p_Version_Major : Int) (p_Version_Minor : Int) (p_Version_Patch : Int) (p_Deps : Sl) (p_Peers : Sl) (p_Optional : Sl) (w : World) (R : Int → World → Prop) (h : catalog_Catalog_Put c p_Name p_Version_Major p_Version_Minor p_Version_Patch p_Deps p_Peers p_Optional w R) : callS Tryz.prog 19 [(Value.pointer c), (Value.agg #[(Value.string p_Name), (Value.int .i64 p_Version_Major), (Value.int .i64 p_Version_Minor), (Value.int .i64 p_Version_Patch), (Sl.v p_Deps), (Sl.v p_Peers), (Sl.v p_Optional)])] w (fun v w' => ∃ (r0 : Int), v = (Value.int .i64 r0) ∧ R r0 w') := by
  unfold catalog_Catalog_Put at h
  refine calls_of_vc 39 rfl Tryz.func19 rfl (by kernel_rfl) (by simp) ?_
  refine Vc.seq ?_
  refine Vc.region ?_
  refine vcL_eff rfl (opVC_new rfl (fun a => Value.pointer (some a)) (by kernel_rfl) (newS.mono h fun a vw hx h => ?_)) 
  refine vcL_pure rfl rfl (Value.int .i64 0) (fun w => by kernel_rfl) ?_
  refine vcL_nil ?_
  refine Vc.seq ?_
  refine Vc.seq ?_
  refine Vc.region ?_
  obtain ⟨t8_Name, t8_Version_Major, t8_Version_Minor, t8_Version_Patch, t8_Deps, t8_Peers, t8_Optional, hc, h⟩ := h
  refine vcL_val rfl rfl (Value.agg #[(Value.string t8_Name), (Value.int .i64 t8_Version_Major), (Value.int .i64 t8_Version_Minor), (Value.int .i64 t8_Version_Patch), (Sl.v t8_Deps), (Sl.v t8_Peers), (Sl.v t8_Optional)]) (exec_load rfl (by kernel_rfl) (run_loadN (fun w => by kernel_rfl) (fun w => by kernel_rfl) ((hc)))) ?_
  refine vcL_eff rfl (opVC_call rfl (by kernel_rfl) (callS.mono h fun v vw1 h => ?_)) 
  obtain ⟨t9, rfl, h⟩ := h
  refine vcL_pure rfl rfl (Value.bool (!t9)) (fun w => by kernel_rfl) ?_
  refine vcL_nil ?_
  refine Vc.cond (!t9) (by kernel_rfl) (fun hb => ?_) (fun hb => ?_)
  · have h := h.1 (hb)
    refine Vc.seq ?_
    refine Vc.region ?_
    refine vcL_pure rfl rfl (Value.int .i64 24) (fun w => by kernel_rfl) ?_
    refine vcL_nil ?_
    refine Vc.ret ?_
    refine outs_ret ?_
    refine done_mk (Value.int .i64 24) (res1 (resC_tmp (by kernel_rfl))) ?_
    exact ⟨24, rfl, h⟩
  · have h := h.2 (hb)
    refine Vc.skip ?_
    refine Vc.seq ?_
    refine Vc.region ?_
    refine vcL_pure rfl rfl (Value.pointer (some a)) (fun w => by kernel_rfl) ?_
    obtain ⟨t12, hc2, h⟩ := h
    refine vcL_val rfl rfl (Value.string t12) (exec_load rfl (by kernel_rfl) (run_load1 (fun w => by kernel_rfl) ((hc2)))) ?_
    refine vcL_pure rfl rfl (Value.pointer (some (a.add 1))) (fun w => by kernel_rfl) ?_
    obtain ⟨t14_Major, t14_Minor, t14_Patch, hc3, h⟩ := h
    refine vcL_val rfl rfl (Value.agg #[(Value.int .i64 t14_Major), (Value.int .i64 t14_Minor), (Value.int .i64 t14_Patch)]) (exec_load rfl (by kernel_rfl) (run_loadN (fun w => by kernel_rfl) (fun w => by kernel_rfl) ((hc3)))) ?_
    refine vcL_pure rfl rfl (Value.agg #[(Value.string t12), (Value.int .i64 t14_Major), (Value.int .i64 t14_Minor), (Value.int .i64 t14_Patch)]) (fun w => by kernel_rfl) ?_
    refine vcL_eff rfl (opVC_new rfl (fun a => Value.pointer (some a)) (by kernel_rfl) (newS.mono h fun a4 vw5 hx h => ?_)) 
    refine vcL_eff rfl (opVC_store rfl rfl (a := a4) (by kernel_rfl) (v := (Value.agg #[(Value.string t12), (Value.int .i64 t14_Major), (Value.int .i64 t14_Minor), (Value.int .i64 t14_Patch)])) (by kernel_rfl) [(Value.string t12), (Value.int .i64 t14_Major), (Value.int .i64 t14_Minor), (Value.int .i64 t14_Patch)] (by kernel_rfl) (fun w => by kernel_rfl) (by kernel_rfl) (stw.mono h fun vw6 h => ?_)) 
    refine vcL_nil ?_
    refine Vc.seq ?_
    refine Vc.seq ?_
    obtain ⟨vw7, hvw7⟩ : ∃ y, y = vw6.drew := ⟨_, rfl⟩
    have h := h vw7 hvw7
    refine Vc.draw (by kernel_rfl) (fun i => !(memN [10] i)) (.pur 0 (.pur 1 (.pur 2 (.val 3 (.val 4 (.val 5 (.pur 6 (.pur 7 (.pur 8 (.eff 9 (.eff 10 (.pur 11 .fin) .stop) .stop)))))))))) (by kernel_rfl) ?_
    rw [← hvw7]
    clear hvw7
    refine vcS_pure rfl rfl rfl (Value.pointer c) (fun w => by kernel_rfl) ?_
    obtain ⟨p, hp, h⟩ := h
    refine vcS_pure rfl rfl rfl (Value.pointer (some p)) (fun w => by exact exec_nilCheck rfl (by kernel_rfl) (hp) w) ?_
    refine vcS_pure rfl rfl rfl (Value.pointer (some p)) (fun w => by kernel_rfl) ?_
    obtain ⟨t20, hc8, h⟩ := h
    refine vcS_val rfl rfl rfl (Value.map t20) (fun w' hx => exec_load rfl (by kernel_rfl) (run_load1 (fun w => by kernel_rfl) ((hc8).ext hx))) ?_
    obtain ⟨t21_name, t21_version_Major, t21_version_Minor, t21_version_Patch, hc9, h⟩ := h
    refine vcS_val rfl rfl rfl (Value.agg #[(Value.string t21_name), (Value.int .i64 t21_version_Major), (Value.int .i64 t21_version_Minor), (Value.int .i64 t21_version_Patch)]) (fun w' hx => exec_load rfl (by kernel_rfl) (run_loadN (fun w => by kernel_rfl) (fun w => by kernel_rfl) ((hc9).ext hx))) ?_
    obtain ⟨t22_Name, t22_Version_Major, t22_Version_Minor, t22_Version_Patch, t22_Deps, t22_Peers, t22_Optional, t22b, hl, h⟩ := h
    refine vcS_val rfl rfl rfl (Value.tuple #[(Value.agg #[(Value.string t22_Name), (Value.int .i64 t22_Version_Major), (Value.int .i64 t22_Version_Minor), (Value.int .i64 t22_Version_Patch), (Sl.v t22_Deps), (Sl.v t22_Peers), (Sl.v t22_Optional)]), (Value.bool t22b)]) (fun w' hx => exec_sem (c := Instr.lookup 101 (Value.map t20) (Value.agg #[(Value.string t21_name), (Value.int .i64 t21_version_Major), (Value.int .i64 t21_version_Minor), (Value.int .i64 t21_version_Patch)]) true) (by kernel_rfl) ((hl) _ hx)) ?_
    refine vcS_pure rfl rfl rfl (Value.tuple #[(Value.agg #[(Value.string t22_Name), (Value.int .i64 t22_Version_Major), (Value.int .i64 t22_Version_Minor), (Value.int .i64 t22_Version_Patch), (Sl.v t22_Deps), (Sl.v t22_Peers), (Sl.v t22_Optional)]), (Value.bool t22b)]) (fun w => by kernel_rfl) ?_
    refine vcS_pure rfl rfl rfl (Value.agg #[(Value.string t22_Name), (Value.int .i64 t22_Version_Major), (Value.int .i64 t22_Version_Minor), (Value.int .i64 t22_Version_Patch), (Sl.v t22_Deps), (Sl.v t22_Peers), (Sl.v t22_Optional)]) (fun w => by kernel_rfl) ?_
    refine vcS_pure rfl rfl rfl (Value.bool t22b) (fun w => by kernel_rfl) ?_
    refine vcS_eff rfl rfl (opVC_new rfl (fun a => Value.pointer (some a)) (by kernel_rfl) (newS.mono h fun a12 vw13 hx h => ?_)) vcS_stop
    refine ⟨fun _ => hx, ?_⟩
    refine vcS_eff rfl rfl (opVC_store rfl rfl (a := a12) (by kernel_rfl) (v := (Value.agg #[(Value.string t22_Name), (Value.int .i64 t22_Version_Major), (Value.int .i64 t22_Version_Minor), (Value.int .i64 t22_Version_Patch), (Sl.v t22_Deps), (Sl.v t22_Peers), (Sl.v t22_Optional)])) (by kernel_rfl) [(Value.string t22_Name), (Value.int .i64 t22_Version_Major), (Value.int .i64 t22_Version_Minor), (Value.int .i64 t22_Version_Patch), (Sl.v t22_Deps), (Sl.v t22_Peers), (Sl.v t22_Optional)] (by kernel_rfl) (fun w => by kernel_rfl) (by kernel_rfl) (stw.mono h fun vw14 h => ?_)) vcS_stop
    refine ⟨fun hb => absurd hb (by decide), ?_⟩
    refine vcS_pure rfl rfl rfl (Value.bool t22b) (fun w => by kernel_rfl) ?_
    refine vcS_fin ?_
    refine Vc.seq ?_
    refine Vc.region ?_
    refine vcL_pure rfl rfl (Value.bool t22b) (fun w => by kernel_rfl) ?_
    refine vcL_nil ?_
    refine Vc.cond t22b (by kernel_rfl) (fun hb => ?_) (fun hb => ?_)
    · have h := h.1 (hb)
      refine Vc.seq ?_
      refine Vc.region ?_
      refine vcL_pure rfl rfl (Value.int .i64 11) (fun w => by kernel_rfl) ?_
      refine vcL_nil ?_
      refine Vc.ret ?_
      refine outs_ret ?_
      refine done_mk (Value.int .i64 11) (res1 (resC_tmp (by kernel_rfl))) ?_
      exact ⟨11, rfl, h⟩
    · have h := h.2 (hb)
      refine Vc.skip ?_
      refine Vc.seq ?_
      refine Vc.seq ?_
      refine Vc.region ?_
      refine vcL_pure rfl rfl (Value.pointer c) (fun w => by kernel_rfl) ?_
      obtain ⟨p15, hp16, h⟩ := h
      refine vcL_pure rfl rfl (Value.pointer (some p15)) (fun w => by exact exec_nilCheck rfl (by kernel_rfl) (hp16) w) ?_
      refine vcL_pure rfl rfl (Value.pointer (some p15)) (fun w => by kernel_rfl) ?_
      obtain ⟨t29, hc17, h⟩ := h
      refine vcL_val rfl rfl (Value.map t29) (exec_load rfl (by kernel_rfl) (run_load1 (fun w => by kernel_rfl) ((hc17)))) ?_
      obtain ⟨t30, hl18, h⟩ := h
      refine vcL_val rfl rfl (Value.int .i64 t30) (exec_sem (c := Builtin.len_ #[101] 3 #[(Value.map t29)]) (by kernel_rfl) ((hl18) _ (Ext.refl _))) ?_
      refine vcL_pure rfl rfl (Value.bool (decide (128 ≤ t30))) (fun w => by kernel_rfl) ?_
      refine vcL_nil ?_
      refine Vc.cond (decide (128 ≤ t30)) (by kernel_rfl) (fun hb => ?_) (fun hb => ?_)
      · have h := h.1 (of_decide_eq_true hb)
        refine Vc.seq ?_
        refine Vc.region ?_
        refine vcL_pure rfl rfl (Value.int .i64 26) (fun w => by kernel_rfl) ?_
        refine vcL_nil ?_
        refine Vc.ret ?_
        refine outs_ret ?_
        refine done_mk (Value.int .i64 26) (res1 (resC_tmp (by kernel_rfl))) ?_
        exact ⟨26, rfl, h⟩
      · have h := h.2 (of_decide_eq_false hb)
        refine Vc.skip ?_
        refine Vc.seq ?_
        obtain ⟨vw19, hvw19⟩ : ∃ y, y = vw14.drew := ⟨_, rfl⟩
        have h := h vw19 hvw19
        refine Vc.draw (by kernel_rfl) (fun i => !(memN [7] i)) (.pur 0 (.pur 1 (.pur 2 (.val 3 (.val 4 (.val 5 (.eff 6 (.eff 7 .fin .stop) .stop))))))) (by kernel_rfl) ?_
        rw [← hvw19]
        clear hvw19
        refine vcS_pure rfl rfl rfl (Value.pointer c) (fun w => by kernel_rfl) ?_
        obtain ⟨p20, hp21, h⟩ := h
        refine vcS_pure rfl rfl rfl (Value.pointer (some p20)) (fun w => by exact exec_nilCheck rfl (by kernel_rfl) (hp21) w) ?_
        refine vcS_pure rfl rfl rfl (Value.pointer (some p20)) (fun w => by kernel_rfl) ?_
        obtain ⟨t35, hc22, h⟩ := h
        refine vcS_val rfl rfl rfl (Value.map t35) (fun w' hx => exec_load rfl (by kernel_rfl) (run_load1 (fun w => by kernel_rfl) ((hc22).ext hx))) ?_
        obtain ⟨t36_name, t36_version_Major, t36_version_Minor, t36_version_Patch, hc23, h⟩ := h
        refine vcS_val rfl rfl rfl (Value.agg #[(Value.string t36_name), (Value.int .i64 t36_version_Major), (Value.int .i64 t36_version_Minor), (Value.int .i64 t36_version_Patch)]) (fun w' hx => exec_load rfl (by kernel_rfl) (run_loadN (fun w => by kernel_rfl) (fun w => by kernel_rfl) ((hc23).ext hx))) ?_
        obtain ⟨t37_Name, t37_Version_Major, t37_Version_Minor, t37_Version_Patch, t37_Deps, t37_Peers, t37_Optional, hc24, h⟩ := h
        refine vcS_val rfl rfl rfl (Value.agg #[(Value.string t37_Name), (Value.int .i64 t37_Version_Major), (Value.int .i64 t37_Version_Minor), (Value.int .i64 t37_Version_Patch), (Sl.v t37_Deps), (Sl.v t37_Peers), (Sl.v t37_Optional)]) (fun w' hx => exec_load rfl (by kernel_rfl) (run_loadN (fun w => by kernel_rfl) (fun w => by kernel_rfl) ((hc24).ext hx))) ?_
        refine vcS_eff rfl rfl (opVC_call rfl (by kernel_rfl) (callS.mono h fun v26 vw25 h => ?_)) vcS_stop
        obtain ⟨hx27, h⟩ := h
        obtain ⟨t38_Name, t38_Version_Major, t38_Version_Minor, t38_Version_Patch, t38_Deps, t38_Peers, t38_Optional, rfl, h⟩ := h
        refine ⟨fun _ => hx27, ?_⟩
        refine vcS_eff rfl rfl (opVC_semU rfl (c := Instr.mapUpdate 101 (Value.map t35) (Value.agg #[(Value.string t36_name), (Value.int .i64 t36_version_Major), (Value.int .i64 t36_version_Minor), (Value.int .i64 t36_version_Patch)]) (Value.agg #[(Value.string t38_Name), (Value.int .i64 t38_Version_Major), (Value.int .i64 t38_Version_Minor), (Value.int .i64 t38_Version_Patch), (Sl.v t38_Deps), (Sl.v t38_Peers), (Sl.v t38_Optional)])) (by kernel_rfl) (semU.mono h fun vw28 h => ?_)) vcS_stop
        refine ⟨fun hb => absurd hb (by decide), ?_⟩
        refine vcS_fin ?_
        refine Vc.seq ?_
        refine Vc.region ?_
        refine vcL_pure rfl rfl (Value.int .i64 0) (fun w => by kernel_rfl) ?_
        refine vcL_nil ?_
        refine Vc.ret ?_
        refine outs_ret ?_
        refine done_mk (Value.int .i64 0) (res1 (resC_tmp (by kernel_rfl))) ?_
        exact ⟨0, rfl, h⟩
theorem catalog_Catalog_Put.go {c : Option Addr} {p_Name : ByteArray} {p_Version_Major : Int} {p_Version_Minor : Int} {p_Version_Patch : Int} {p_Deps : Sl} {p_Peers : Sl} {p_Optional : Sl} {w : World} {k : Value → World → Prop} (h : catalog_Catalog_Put c p_Name p_Version_Major p_Version_Minor p_Version_Patch p_Deps p_Peers p_Optional w fun r0 w' => k (Value.int .i64 r0) w') : callS Tryz.prog 19 [(Value.pointer c), (Value.agg #[(Value.string p_Name), (Value.int .i64 p_Version_Major), (Value.int .i64 p_Version_Minor), (Value.int .i64 p_Version_Patch), (Sl.v p_Deps), (Sl.v p_Peers), (Sl.v p_Optional)])] w k := (catalog_Catalog_Put.sound c p_Name p_Version_Major p_Version_Minor p_Version_Patch p_Deps p_Peers p_Optional w _ h).mono (by rintro _ _ ⟨r0, rfl, h⟩; exact h)

/-- (*halyard/catalog.Catalog).Get -/
def catalog_Catalog_Get (c : Option Addr) (name : ByteArray) (v_Major : Int) (v_Minor : Int) (v_Patch : Int) (w : World) (R : ByteArray → Int → Int → Int → Sl → Sl → Sl → Bool → World → Prop) : Prop :=
  newS w [(Value.int .i64 v_Major), (Value.int .i64 v_Minor), (Value.int .i64 v_Patch)] 30 fun a vw => newS vw [(Value.string (ByteArray.mk #[])), (Value.int .i64 0), (Value.int .i64 0), (Value.int .i64 0), (Sl.v Sl.nil), (Sl.v Sl.nil), (Sl.v Sl.nil)] 48 fun a1 vw2 => bnd vw2.drew fun (vw3 : World) => ∃ (p : Addr), (c = some p) ∧ ∃ (t14 : Option Nat), (ldc vw3 p [(Value.map t14)]) ∧ ∃ (t16_Major : Int) (t16_Minor : Int) (t16_Patch : Int), (ldc vw3 a [(Value.int .i64 t16_Major), (Value.int .i64 t16_Minor), (Value.int .i64 t16_Patch)]) ∧ ∃ (t18_Name : ByteArray) (t18_Version_Major : Int) (t18_Version_Minor : Int) (t18_Version_Patch : Int) (t18_Deps : Sl) (t18_Peers : Sl) (t18_Optional : Sl) (t18b : Bool), (stabS Tryz.prog (Instr.lookup 101 (Value.map t14) (Value.agg #[(Value.string name), (Value.int .i64 t16_Major), (Value.int .i64 t16_Minor), (Value.int .i64 t16_Patch)]) true) vw3 (Value.tuple #[(Value.agg #[(Value.string t18_Name), (Value.int .i64 t18_Version_Major), (Value.int .i64 t18_Version_Minor), (Value.int .i64 t18_Version_Patch), (Sl.v t18_Deps), (Sl.v t18_Peers), (Sl.v t18_Optional)]), (Value.bool t18b)])) ∧ newS vw3 [(Value.string (ByteArray.mk #[])), (Value.int .i64 0), (Value.int .i64 0), (Value.int .i64 0), (Sl.v Sl.nil), (Sl.v Sl.nil), (Sl.v Sl.nil)] 48 fun a6 vw7 => stw vw7 a6 [(Value.string t18_Name), (Value.int .i64 t18_Version_Major), (Value.int .i64 t18_Version_Minor), (Value.int .i64 t18_Version_Patch), (Sl.v t18_Deps), (Sl.v t18_Peers), (Sl.v t18_Optional)] fun vw8 => ∃ (t21_Name : ByteArray) (t21_Version_Major : Int) (t21_Version_Minor : Int) (t21_Version_Patch : Int) (t21_Deps : Sl) (t21_Peers : Sl) (t21_Optional : Sl), (ldc vw8 a6 [(Value.string t21_Name), (Value.int .i64 t21_Version_Major), (Value.int .i64 t21_Version_Minor), (Value.int .i64 t21_Version_Patch), (Sl.v t21_Deps), (Sl.v t21_Peers), (Sl.v t21_Optional)]) ∧ callS Tryz.prog 62 [(Value.agg #[(Value.string t21_Name), (Value.int .i64 t21_Version_Major), (Value.int .i64 t21_Version_Minor), (Value.int .i64 t21_Version_Patch), (Sl.v t21_Deps), (Sl.v t21_Peers), (Sl.v t21_Optional)])] vw8 fun v11 vw10 => ∃ (t22_Name : ByteArray) (t22_Version_Major : Int) (t22_Version_Minor : Int) (t22_Version_Patch : Int) (t22_Deps : Sl) (t22_Peers : Sl) (t22_Optional : Sl), v11 = (Value.agg #[(Value.string t22_Name), (Value.int .i64 t22_Version_Major), (Value.int .i64 t22_Version_Minor), (Value.int .i64 t22_Version_Patch), (Sl.v t22_Deps), (Sl.v t22_Peers), (Sl.v t22_Optional)]) ∧ stw vw10 a1 [(Value.string t22_Name), (Value.int .i64 t22_Version_Major), (Value.int .i64 t22_Version_Minor), (Value.int .i64 t22_Version_Patch), (Sl.v t22_Deps), (Sl.v t22_Peers), (Sl.v t22_Optional)] fun vw12 => ∃ (r_Name : ByteArray) (r_Version_Major : Int) (r_Version_Minor : Int) (r_Version_Patch : Int) (r_Deps : Sl) (r_Peers : Sl) (r_Optional : Sl), ldc vw12 a1 [(Value.string r_Name), (Value.int .i64 r_Version_Major), (Value.int .i64 r_Version_Minor), (Value.int .i64 r_Version_Patch), (Sl.v r_Deps), (Sl.v r_Peers), (Sl.v r_Optional)] ∧ R r_Name r_Version_Major r_Version_Minor r_Version_Patch r_Deps r_Peers r_Optional t18b vw12
set_option maxHeartbeats 8000000 in
theorem catalog_Catalog_Get.sound (c : Option Addr) (name : ByteArray) (v_Major : Int) (v_Minor : Int) (v_Patch : Int) (w : World) (R : ByteArray → Int → Int → Int → Sl → Sl → Sl → Bool → World → Prop) (h : catalog_Catalog_Get c name v_Major v_Minor v_Patch w R) : callS Tryz.prog 22 [(Value.pointer c), (Value.string name), (Value.agg #[(Value.int .i64 v_Major), (Value.int .i64 v_Minor), (Value.int .i64 v_Patch)])] w (fun v w' => ∃ (r0 : ByteArray) (r1 : Int) (r2 : Int) (r3 : Int) (r4 : Sl) (r5 : Sl) (r6 : Sl) (r7 : Bool), v = (Value.tuple #[(Value.agg #[(Value.string r0), (Value.int .i64 r1), (Value.int .i64 r2), (Value.int .i64 r3), (Sl.v r4), (Sl.v r5), (Sl.v r6)]), (Value.bool r7)]) ∧ R r0 r1 r2 r3 r4 r5 r6 r7 w') := by
  unfold catalog_Catalog_Get at h
  refine calls_of_vc 24 rfl Tryz.func22 rfl (by kernel_rfl) (by simp) ?_
  refine Vc.seq ?_
  refine Vc.region ?_
  refine vcL_eff rfl (opVC_new rfl (fun a => Value.pointer (some a)) (by kernel_rfl) (newS.mono h fun a vw hx h => ?_)) 
  refine vcL_eff rfl (opVC_new rfl (fun a => Value.pointer (some a)) (by kernel_rfl) (newS.mono h fun a1 vw2 hx h => ?_)) 
  refine vcL_pure rfl rfl (Value.bool false) (fun w => by kernel_rfl) ?_
  refine vcL_nil ?_
  refine Vc.seq ?_
  obtain ⟨vw3, hvw3⟩ : ∃ y, y = vw2.drew := ⟨_, rfl⟩
  have h := h vw3 hvw3
  refine Vc.draw (by kernel_rfl) (fun i => !(memN [12] i)) (.pur 0 (.pur 1 (.pur 2 (.val 3 (.pur 4 (.val 5 (.pur 6 (.val 7 (.pur 8 (.pur 9 (.pur 10 (.eff 11 (.eff 12 (.pur 13 .fin) .stop) .stop)))))))))))) (by kernel_rfl) ?_
  rw [← hvw3]
  clear hvw3
  refine vcS_pure rfl rfl rfl (Value.pointer c) (fun w => by kernel_rfl) ?_
  obtain ⟨p, hp, h⟩ := h
  refine vcS_pure rfl rfl rfl (Value.pointer (some p)) (fun w => by exact exec_nilCheck rfl (by kernel_rfl) (hp) w) ?_
  refine vcS_pure rfl rfl rfl (Value.pointer (some p)) (fun w => by kernel_rfl) ?_
  obtain ⟨t14, hc, h⟩ := h
  refine vcS_val rfl rfl rfl (Value.map t14) (fun w' hx => exec_load rfl (by kernel_rfl) (run_load1 (fun w => by kernel_rfl) ((hc).ext hx))) ?_
  refine vcS_pure rfl rfl rfl (Value.string name) (fun w => by kernel_rfl) ?_
  obtain ⟨t16_Major, t16_Minor, t16_Patch, hc4, h⟩ := h
  refine vcS_val rfl rfl rfl (Value.agg #[(Value.int .i64 t16_Major), (Value.int .i64 t16_Minor), (Value.int .i64 t16_Patch)]) (fun w' hx => exec_load rfl (by kernel_rfl) (run_loadN (fun w => by kernel_rfl) (fun w => by kernel_rfl) ((hc4).ext hx))) ?_
  refine vcS_pure rfl rfl rfl (Value.agg #[(Value.string name), (Value.int .i64 t16_Major), (Value.int .i64 t16_Minor), (Value.int .i64 t16_Patch)]) (fun w => by kernel_rfl) ?_
  obtain ⟨t18_Name, t18_Version_Major, t18_Version_Minor, t18_Version_Patch, t18_Deps, t18_Peers, t18_Optional, t18b, hl, h⟩ := h
  refine vcS_val rfl rfl rfl (Value.tuple #[(Value.agg #[(Value.string t18_Name), (Value.int .i64 t18_Version_Major), (Value.int .i64 t18_Version_Minor), (Value.int .i64 t18_Version_Patch), (Sl.v t18_Deps), (Sl.v t18_Peers), (Sl.v t18_Optional)]), (Value.bool t18b)]) (fun w' hx => exec_sem (c := Instr.lookup 101 (Value.map t14) (Value.agg #[(Value.string name), (Value.int .i64 t16_Major), (Value.int .i64 t16_Minor), (Value.int .i64 t16_Patch)]) true) (by kernel_rfl) ((hl) _ hx)) ?_
  refine vcS_pure rfl rfl rfl (Value.tuple #[(Value.agg #[(Value.string t18_Name), (Value.int .i64 t18_Version_Major), (Value.int .i64 t18_Version_Minor), (Value.int .i64 t18_Version_Patch), (Sl.v t18_Deps), (Sl.v t18_Peers), (Sl.v t18_Optional)]), (Value.bool t18b)]) (fun w => by kernel_rfl) ?_
  refine vcS_pure rfl rfl rfl (Value.agg #[(Value.string t18_Name), (Value.int .i64 t18_Version_Major), (Value.int .i64 t18_Version_Minor), (Value.int .i64 t18_Version_Patch), (Sl.v t18_Deps), (Sl.v t18_Peers), (Sl.v t18_Optional)]) (fun w => by kernel_rfl) ?_
  refine vcS_pure rfl rfl rfl (Value.bool t18b) (fun w => by kernel_rfl) ?_
  refine vcS_eff rfl rfl (opVC_new rfl (fun a => Value.pointer (some a)) (by kernel_rfl) (newS.mono h fun a6 vw7 hx h => ?_)) vcS_stop
  refine ⟨fun _ => hx, ?_⟩
  refine vcS_eff rfl rfl (opVC_store rfl rfl (a := a6) (by kernel_rfl) (v := (Value.agg #[(Value.string t18_Name), (Value.int .i64 t18_Version_Major), (Value.int .i64 t18_Version_Minor), (Value.int .i64 t18_Version_Patch), (Sl.v t18_Deps), (Sl.v t18_Peers), (Sl.v t18_Optional)])) (by kernel_rfl) [(Value.string t18_Name), (Value.int .i64 t18_Version_Major), (Value.int .i64 t18_Version_Minor), (Value.int .i64 t18_Version_Patch), (Sl.v t18_Deps), (Sl.v t18_Peers), (Sl.v t18_Optional)] (by kernel_rfl) (fun w => by kernel_rfl) (by kernel_rfl) (stw.mono h fun vw8 h => ?_)) vcS_stop
  refine ⟨fun hb => absurd hb (by decide), ?_⟩
  refine vcS_pure rfl rfl rfl (Value.bool t18b) (fun w => by kernel_rfl) ?_
  refine vcS_fin ?_
  refine Vc.seq ?_
  refine Vc.region ?_
  obtain ⟨t21_Name, t21_Version_Major, t21_Version_Minor, t21_Version_Patch, t21_Deps, t21_Peers, t21_Optional, hc9, h⟩ := h
  refine vcL_val rfl rfl (Value.agg #[(Value.string t21_Name), (Value.int .i64 t21_Version_Major), (Value.int .i64 t21_Version_Minor), (Value.int .i64 t21_Version_Patch), (Sl.v t21_Deps), (Sl.v t21_Peers), (Sl.v t21_Optional)]) (exec_load rfl (by kernel_rfl) (run_loadN (fun w => by kernel_rfl) (fun w => by kernel_rfl) ((hc9)))) ?_
  refine vcL_eff rfl (opVC_call rfl (by kernel_rfl) (callS.mono h fun v11 vw10 h => ?_)) 
  obtain ⟨t22_Name, t22_Version_Major, t22_Version_Minor, t22_Version_Patch, t22_Deps, t22_Peers, t22_Optional, rfl, h⟩ := h
  refine vcL_pure rfl rfl (Value.bool t18b) (fun w => by kernel_rfl) ?_
  refine vcL_eff rfl (opVC_store rfl rfl (a := a1) (by kernel_rfl) (v := (Value.agg #[(Value.string t22_Name), (Value.int .i64 t22_Version_Major), (Value.int .i64 t22_Version_Minor), (Value.int .i64 t22_Version_Patch), (Sl.v t22_Deps), (Sl.v t22_Peers), (Sl.v t22_Optional)])) (by kernel_rfl) [(Value.string t22_Name), (Value.int .i64 t22_Version_Major), (Value.int .i64 t22_Version_Minor), (Value.int .i64 t22_Version_Patch), (Sl.v t22_Deps), (Sl.v t22_Peers), (Sl.v t22_Optional)] (by kernel_rfl) (fun w => by kernel_rfl) (by kernel_rfl) (stw.mono h fun vw12 h => ?_)) 
  refine vcL_pure rfl rfl (Value.bool t18b) (fun w => by kernel_rfl) ?_
  refine vcL_nil ?_
  refine Vc.ret ?_
  refine outs_ret ?_
  obtain ⟨r_Name, r_Version_Major, r_Version_Minor, r_Version_Patch, r_Deps, r_Peers, r_Optional, hc13, h⟩ := h
  refine done_mk (Value.tuple #[(Value.agg #[(Value.string r_Name), (Value.int .i64 r_Version_Major), (Value.int .i64 r_Version_Minor), (Value.int .i64 r_Version_Patch), (Sl.v r_Deps), (Sl.v r_Peers), (Sl.v r_Optional)]), (Value.bool t18b)]) (res2 (resC_cell (by kernel_rfl) (run_loadN (fun w => by kernel_rfl) (fun w => by kernel_rfl) hc13)) (resC_tmp (by kernel_rfl))) ?_
  exact ⟨r_Name, r_Version_Major, r_Version_Minor, r_Version_Patch, r_Deps, r_Peers, r_Optional, t18b, rfl, h⟩
theorem catalog_Catalog_Get.go {c : Option Addr} {name : ByteArray} {v_Major : Int} {v_Minor : Int} {v_Patch : Int} {w : World} {k : Value → World → Prop} (h : catalog_Catalog_Get c name v_Major v_Minor v_Patch w fun r0 r1 r2 r3 r4 r5 r6 r7 w' => k (Value.tuple #[(Value.agg #[(Value.string r0), (Value.int .i64 r1), (Value.int .i64 r2), (Value.int .i64 r3), (Sl.v r4), (Sl.v r5), (Sl.v r6)]), (Value.bool r7)]) w') : callS Tryz.prog 22 [(Value.pointer c), (Value.string name), (Value.agg #[(Value.int .i64 v_Major), (Value.int .i64 v_Minor), (Value.int .i64 v_Patch)])] w k := (catalog_Catalog_Get.sound c name v_Major v_Minor v_Patch w _ h).mono (by rintro _ _ ⟨r0, r1, r2, r3, r4, r5, r6, r7, rfl, h⟩; exact h)

/-- (*halyard/catalog.Catalog).Versions -/
def catalog_Catalog_Versions (c : Option Addr) (name : ByteArray) (w : World) (R : Sl → World → Prop) : Prop :=
  ∃ (p : Addr), (c = some p) ∧ ∃ (t10 : Option Nat), (ldc w p [(Value.map t10)]) ∧ semS Tryz.prog (Instr.range 101 (Value.map t10)) w fun v vw => ∃ (it : Addr), v = (Value.pointer (some it)) ∧ loop1 Sl.nil vw fun out vw1 nxt => semS Tryz.prog (Instr.next (Value.pointer (some it)) false 0) vw1 fun v3 vw2 => ∃ (ok : Bool) (key_name : ByteArray) (key_version_Major : Int) (key_version_Minor : Int) (key_version_Patch : Int) (val_Name : ByteArray) (val_Version_Major : Int) (val_Version_Minor : Int) (val_Version_Patch : Int) (val_Deps : Sl) (val_Peers : Sl) (val_Optional : Sl), v3 = nextV ok (Value.agg #[(Value.string key_name), (Value.int .i64 key_version_Major), (Value.int .i64 key_version_Minor), (Value.int .i64 key_version_Patch)]) (Value.agg #[(Value.string val_Name), (Value.int .i64 val_Version_Major), (Value.int .i64 val_Version_Minor), (Value.int .i64 val_Version_Patch), (Sl.v val_Deps), (Sl.v val_Peers), (Sl.v val_Optional)]) ∧ ((ok = true → ∃ (key_name4 : ByteArray) (key_version_Major5 : Int) (key_version_Minor6 : Int) (key_version_Patch7 : Int) (val_Name8 : ByteArray) (val_Version_Major9 : Int) (val_Version_Minor10 : Int) (val_Version_Patch11 : Int) (val_Deps12 : Sl) (val_Peers13 : Sl) (val_Optional14 : Sl), (stabS Tryz.prog (Instr.entry (Value.pointer (some it))) vw2 (Value.tuple #[(Value.agg #[(Value.string key_name4), (Value.int .i64 key_version_Major5), (Value.int .i64 key_version_Minor6), (Value.int .i64 key_version_Patch7)]), (Value.agg #[(Value.string val_Name8), (Value.int .i64 val_Version_Major9), (Value.int .i64 val_Version_Minor10), (Value.int .i64 val_Version_Patch11), (Sl.v val_Deps12), (Sl.v val_Peers13), (Sl.v val_Optional14)])])) ∧ newS vw2 [(Value.string (ByteArray.mk #[])), (Value.int .i64 0), (Value.int .i64 0), (Value.int .i64 0)] 106 fun a vw15 => stw vw15 a [(Value.string key_name4), (Value.int .i64 key_version_Major5), (Value.int .i64 key_version_Minor6), (Value.int .i64 key_version_Patch7)] fun vw16 => ∃ (t17 : ByteArray), (ldc vw16 a [(Value.string t17)]) ∧ ((t17 = name → ∃ (t22_Major : Int) (t22_Minor : Int) (t22_Patch : Int), (ldc vw16 (a.add 1) [(Value.int .i64 t22_Major), (Value.int .i64 t22_Minor), (Value.int .i64 t22_Patch)]) ∧ newS vw16 [(Value.int .i64 t22_Major), (Value.int .i64 t22_Minor), (Value.int .i64 t22_Patch)] 30 fun a19 vw20 => appS Tryz.prog 60 60 out (Sl.v (Sl.mk (some a19) 1 1)) vw20 fun t24 vw21 => nxt t24 vw21) ∧ (¬ (t17 = name) → nxt out vw16))) ∧ (ok = false → callS Tryz.prog 64 [(Sl.v out), (Value.func (.func 65) #[] #[])] vw2 fun v23 vw22 => v23 = (Value.tuple #[]) ∧ callS Tryz.prog 66 [(Sl.v out)] vw22 fun v25 vw24 => ∃ (t28 : Sl), v25 = (Sl.v t28) ∧ R t28 vw24))
set_option maxHeartbeats 8000000 in
theorem catalog_Catalog_Versions.sound (c : Option Addr) (name : ByteArray) (w : World) (R : Sl → World → Prop) (h : catalog_Catalog_Versions c name w R) : callS Tryz.prog 26 [(Value.pointer c), (Value.string name)] w (fun v w' => ∃ (r0 : Sl), v = (Sl.v r0) ∧ R r0 w') := by
  unfold catalog_Catalog_Versions at h
  refine calls_of_vc 29 rfl Tryz.func26 rfl (by kernel_rfl) (by simp) ?_
  refine Vc.seq ?_
  refine Vc.region ?_
  refine vcL_pure rfl rfl (Sl.v Sl.nil) (fun w => by kernel_rfl) ?_
  refine vcL_nil ?_
  refine Vc.seq ?_
  refine Vc.region ?_
  refine vcL_pure rfl rfl (Sl.v Sl.nil) (fun w => by kernel_rfl) ?_
  refine vcL_nil ?_
  refine Vc.seq ?_
  refine Vc.seq ?_
  refine Vc.region ?_
  refine vcL_pure rfl rfl (Value.pointer c) (fun w => by kernel_rfl) ?_
  obtain ⟨p, hp, h⟩ := h
  refine vcL_pure rfl rfl (Value.pointer (some p)) (fun w => by exact exec_nilCheck rfl (by kernel_rfl) (hp) w) ?_
  refine vcL_pure rfl rfl (Value.pointer (some p)) (fun w => by kernel_rfl) ?_
  obtain ⟨t10, hc, h⟩ := h
  refine vcL_val rfl rfl (Value.map t10) (exec_load rfl (by kernel_rfl) (run_load1 (fun w => by kernel_rfl) ((hc)))) ?_
  refine vcL_eff rfl (opVC_sem rfl (c := Instr.range 101 (Value.map t10)) (by kernel_rfl) (semS.mono h fun v vw h => ?_)) 
  obtain ⟨it, rfl, h⟩ := h
  refine vcL_nil ?_
  refine Vc.block ?_
  obtain ⟨vI, mu, h, hr⟩ := h
  refine Vc.loopJ (σ := Sl) [5] [6, 12, 13, 14, 15, 16, 17, 18, 19, 20, 21, 22, 23, 24] (fun s => [(5, (Sl.v s))]) (fun s w => vI s w) (fun s w => mu s w) Sl.nil h (fun _ => rfl) (by kernel_rfl) ?_
  intro out vw1 j h
  have h := hr out vw1 h
  refine Vc.seq ?_
  refine Vc.region ?_
  refine vcL_eff rfl (opVC_sem rfl (c := Instr.next (Value.pointer (some it)) false 0) (by kernel_rfl) (semS.mono h fun v3 vw2 h => ?_)) 
  obtain ⟨ok, key_name, key_version_Major, key_version_Minor, key_version_Patch, val_Name, val_Version_Major, val_Version_Minor, val_Version_Patch, val_Deps, val_Peers, val_Optional, rfl, h⟩ := h
  refine vcL_pure rfl rfl (Value.bool ok) (fun w => by cases ok <;> kernel_rfl) ?_
  refine vcL_nil ?_
  refine Vc.seq ?_
  refine Vc.cond ok (by kernel_rfl) (fun hb => ?_) (fun hb => ?_)
  · have hq := h.1 (hb)
    clear h
    subst hb
    have h := hq
    clear hq
    refine Vc.skip ?_
    refine Vc.block ?_
    refine Vc.seq ?_
    refine Vc.region ?_
    obtain ⟨key_name4, key_version_Major5, key_version_Minor6, key_version_Patch7, val_Name8, val_Version_Major9, val_Version_Minor10, val_Version_Patch11, val_Deps12, val_Peers13, val_Optional14, hl, h⟩ := h
    refine vcL_val rfl rfl (Value.tuple #[(Value.agg #[(Value.string key_name4), (Value.int .i64 key_version_Major5), (Value.int .i64 key_version_Minor6), (Value.int .i64 key_version_Patch7)]), (Value.agg #[(Value.string val_Name8), (Value.int .i64 val_Version_Major9), (Value.int .i64 val_Version_Minor10), (Value.int .i64 val_Version_Patch11), (Sl.v val_Deps12), (Sl.v val_Peers13), (Sl.v val_Optional14)])]) (exec_sem (c := Instr.entry (Value.pointer (some it))) (by kernel_rfl) ((hl) _ (Ext.refl _))) ?_
    refine vcL_pure rfl rfl (Value.agg #[(Value.string key_name4), (Value.int .i64 key_version_Major5), (Value.int .i64 key_version_Minor6), (Value.int .i64 key_version_Patch7)]) (fun w => by kernel_rfl) ?_
    refine vcL_eff rfl (opVC_new rfl (fun a => Value.pointer (some a)) (by kernel_rfl) (newS.mono h fun a vw15 hx h => ?_)) 
    refine vcL_eff rfl (opVC_store rfl rfl (a := a) (by kernel_rfl) (v := (Value.agg #[(Value.string key_name4), (Value.int .i64 key_version_Major5), (Value.int .i64 key_version_Minor6), (Value.int .i64 key_version_Patch7)])) (by kernel_rfl) [(Value.string key_name4), (Value.int .i64 key_version_Major5), (Value.int .i64 key_version_Minor6), (Value.int .i64 key_version_Patch7)] (by kernel_rfl) (fun w => by kernel_rfl) (by kernel_rfl) (stw.mono h fun vw16 h => ?_)) 
    refine vcL_nil ?_
    refine Vc.seq ?_
    refine Vc.region ?_
    refine vcL_pure rfl rfl (Value.pointer (some a)) (fun w => by kernel_rfl) ?_
    obtain ⟨t17, hc17, h⟩ := h
    refine vcL_val rfl rfl (Value.string t17) (exec_load rfl (by kernel_rfl) (run_load1 (fun w => by kernel_rfl) ((hc17)))) ?_
    refine vcL_purs 2 [(19, (Value.bool (bEq t17 name))), (18, (Value.string name))] (by kernel_rfl) ?_
    refine vcL_nil ?_
    refine Vc.cond (bEq t17 name) (by kernel_rfl) (fun hb => ?_) (fun hb => ?_)
    · have h := h.1 (bEq_iff.1 hb)
      refine Vc.region ?_
      refine vcL_purs 2 [(21, (Value.pointer (some (a.add 1)))), (20, (Sl.v out))] (by kernel_rfl) ?_
      obtain ⟨t22_Major, t22_Minor, t22_Patch, hc18, h⟩ := h
      refine vcL_val rfl rfl (Value.agg #[(Value.int .i64 t22_Major), (Value.int .i64 t22_Minor), (Value.int .i64 t22_Patch)]) (exec_load rfl (by kernel_rfl) (run_loadN (fun w => by kernel_rfl) (fun w => by kernel_rfl) ((hc18)))) ?_
      refine vcL_eff rfl (opVC_new rfl (fun a => Value.slice (some a) 1 1) (by kernel_rfl) (newS.mono h fun a19 vw20 hx h => ?_)) 
      refine vcL_eff rfl (opVC_sem rfl (c := Builtin.append_ #[60, 60] 60 #[(Sl.v out), (Sl.v (Sl.mk (some a19) 1 1))]) (by kernel_rfl) (appS.elim (ty := 60) h fun t24 vw21 h => ?_)) 
      refine vcL_pure rfl rfl (Sl.v t24) (fun w => by kernel_rfl) ?_
      refine vcL_nil ?_
      exact ⟨t24, 30, ⟨rfl, by kernel_rfl, by kernel_rfl, by kernel_rfl⟩, h⟩
    · have h := h.2 (bEq_false.1 hb)
      refine Vc.skip ?_
      exact ⟨out, 24, ⟨rfl, by kernel_rfl, by kernel_rfl, by kernel_rfl⟩, h⟩
  · have hq := h.2 (hb)
    clear h
    subst hb
    have h := hq
    clear hq
    refine Vc.exit ?_
    refine outOf_hit ?_
    refine Vc.seq ?_
    refine Vc.region ?_
    refine vcL_pure rfl rfl (Sl.v out) (fun w => by kernel_rfl) ?_
    refine vcL_eff rfl (opVC_call rfl (by kernel_rfl) (callS.mono h fun v23 vw22 h => ?_)) 
    obtain ⟨rfl, h⟩ := h
    refine vcL_nil ?_
    refine Vc.seq ?_
    refine Vc.region ?_
    refine vcL_pure rfl rfl (Sl.v out) (fun w => by kernel_rfl) ?_
    refine vcL_eff rfl (opVC_call rfl (by kernel_rfl) (callS.mono h fun v25 vw24 h => ?_)) 
    obtain ⟨t28, rfl, h⟩ := h
    refine vcL_pure rfl rfl (Sl.v t28) (fun w => by kernel_rfl) ?_
    refine vcL_nil ?_
    refine Vc.ret ?_
    refine outs_ret ?_
    refine done_mk (Sl.v t28) (res1 (resC_tmp (by kernel_rfl))) ?_
    exact ⟨t28, rfl, h⟩
theorem catalog_Catalog_Versions.go {c : Option Addr} {name : ByteArray} {w : World} {k : Value → World → Prop} (h : catalog_Catalog_Versions c name w fun r0 w' => k (Sl.v r0) w') : callS Tryz.prog 26 [(Value.pointer c), (Value.string name)] w k := (catalog_Catalog_Versions.sound c name w _ h).mono (by rintro _ _ ⟨r0, rfl, h⟩; exact h)

/-- (*halyard/catalog.Catalog).Candidates -/
def catalog_Catalog_Candidates (c : Option Addr) (name : ByteArray) (l : Sl) (pins : Sl) (w : World) (R : Sl → World → Prop) : Prop :=
  newS w [(Value.string name)] 9 fun a vw => newS vw [(Sl.v l)] 53 fun a1 vw2 => newS vw2 [(Sl.v pins)] 28 fun a3 vw4 => ∃ (t11 : ByteArray), (ldc vw4 a [(Value.string t11)]) ∧ callS Tryz.prog 26 [(Value.pointer c), (Value.string t11)] vw4 fun v vw5 => ∃ (t12 : Sl), v = (Sl.v t12) ∧ callS Tryz.prog 67 [(Sl.v t12), (Value.func (.func 68) #[] #[(Value.pointer (some a1))])] vw5 fun v7 vw6 => ∃ (t14 : Sl), v7 = (Sl.v t14) ∧ callS Tryz.prog 69 [(Sl.v t14), (Value.func (.func 70) #[] #[(Value.pointer (some a3)), (Value.pointer (some a))])] vw6 fun v10 vw9 => v10 = (Value.tuple #[]) ∧ callS Tryz.prog 66 [(Sl.v t14)] vw9 fun v13 vw12 => ∃ (t19 : Sl), v13 = (Sl.v t19) ∧ R t19 vw12
set_option maxHeartbeats 8000000 in
theorem catalog_Catalog_Candidates.sound (c : Option Addr) (name : ByteArray) (l : Sl) (pins : Sl) (w : World) (R : Sl → World → Prop) (h : catalog_Catalog_Candidates c name l pins w R) : callS Tryz.prog 28 [(Value.pointer c), (Value.string name), (Sl.v l), (Sl.v pins)] w (fun v w' => ∃ (r0 : Sl), v = (Sl.v r0) ∧ R r0 w') := by
  unfold catalog_Catalog_Candidates at h
  refine calls_of_vc 20 rfl Tryz.func28 rfl (by kernel_rfl) (by simp) ?_
  refine Vc.seq ?_
  refine Vc.region ?_
  refine vcL_eff rfl (opVC_new rfl (fun a => Value.pointer (some a)) (by kernel_rfl) (newS.mono h fun a vw hx h => ?_)) 
  refine vcL_eff rfl (opVC_new rfl (fun a => Value.pointer (some a)) (by kernel_rfl) (newS.mono h fun a1 vw2 hx h => ?_)) 
  refine vcL_eff rfl (opVC_new rfl (fun a => Value.pointer (some a)) (by kernel_rfl) (newS.mono h fun a3 vw4 hx h => ?_)) 
  refine vcL_pure rfl rfl (Sl.v Sl.nil) (fun w => by kernel_rfl) ?_
  refine vcL_nil ?_
  refine Vc.seq ?_
  refine Vc.region ?_
  refine vcL_pure rfl rfl (Value.pointer c) (fun w => by kernel_rfl) ?_
  obtain ⟨t11, hc, h⟩ := h
  refine vcL_val rfl rfl (Value.string t11) (exec_load rfl (by kernel_rfl) (run_load1 (fun w => by kernel_rfl) ((hc)))) ?_
  refine vcL_eff rfl (opVC_call rfl (by kernel_rfl) (callS.mono h fun v vw5 h => ?_)) 
  obtain ⟨t12, rfl, h⟩ := h
  refine vcL_pure rfl rfl (Value.func (.func 68) #[] #[(Value.pointer (some a1))]) (fun w => by kernel_rfl) ?_
  refine vcL_eff rfl (opVC_call rfl (by kernel_rfl) (callS.mono h fun v7 vw6 h => ?_)) 
  obtain ⟨t14, rfl, h⟩ := h
  refine vcL_pure rfl rfl (Sl.v t14) (fun w => by kernel_rfl) ?_
  refine vcL_nil ?_
  refine Vc.seq ?_
  refine Vc.region ?_
  refine vcL_purs 2 [(16, (Value.func (.func 70) #[] #[(Value.pointer (some a3)), (Value.pointer (some a))])), (15, (Sl.v t14))] (by kernel_rfl) ?_
  refine vcL_eff rfl (opVC_call rfl (by kernel_rfl) (callS.mono h fun v10 vw9 h => ?_)) 
  obtain ⟨rfl, h⟩ := h
  refine vcL_nil ?_
  refine Vc.seq ?_
  refine Vc.region ?_
  refine vcL_pure rfl rfl (Sl.v t14) (fun w => by kernel_rfl) ?_
  refine vcL_eff rfl (opVC_call rfl (by kernel_rfl) (callS.mono h fun v13 vw12 h => ?_)) 
  obtain ⟨t19, rfl, h⟩ := h
  refine vcL_pure rfl rfl (Sl.v t19) (fun w => by kernel_rfl) ?_
  refine vcL_nil ?_
  refine Vc.ret ?_
  refine outs_ret ?_
  refine done_mk (Sl.v t19) (res1 (resC_tmp (by kernel_rfl))) ?_
  exact ⟨t19, rfl, h⟩
theorem catalog_Catalog_Candidates.go {c : Option Addr} {name : ByteArray} {l : Sl} {pins : Sl} {w : World} {k : Value → World → Prop} (h : catalog_Catalog_Candidates c name l pins w fun r0 w' => k (Sl.v r0) w') : callS Tryz.prog 28 [(Value.pointer c), (Value.string name), (Sl.v l), (Sl.v pins)] w k := (catalog_Catalog_Candidates.sound c name l pins w _ h).mono (by rintro _ _ ⟨r0, rfl, h⟩; exact h)

/-- (*halyard/catalog.Catalog).All -/
def catalog_Catalog_All (c : Option Addr) (w : World) (R : Sl → World → Prop) : Prop :=
  ∃ (p : Addr), (c = some p) ∧ ∃ (t9 : Option Nat), (ldc w p [(Value.map t9)]) ∧ semS Tryz.prog (Instr.range 101 (Value.map t9)) w fun v vw => ∃ (it : Addr), v = (Value.pointer (some it)) ∧ loop1 Sl.nil vw fun out vw1 nxt => semS Tryz.prog (Instr.next (Value.pointer (some it)) false 0) vw1 fun v3 vw2 => ∃ (ok : Bool) (key_name : ByteArray) (key_version_Major : Int) (key_version_Minor : Int) (key_version_Patch : Int) (val_Name : ByteArray) (val_Version_Major : Int) (val_Version_Minor : Int) (val_Version_Patch : Int) (val_Deps : Sl) (val_Peers : Sl) (val_Optional : Sl), v3 = nextV ok (Value.agg #[(Value.string key_name), (Value.int .i64 key_version_Major), (Value.int .i64 key_version_Minor), (Value.int .i64 key_version_Patch)]) (Value.agg #[(Value.string val_Name), (Value.int .i64 val_Version_Major), (Value.int .i64 val_Version_Minor), (Value.int .i64 val_Version_Patch), (Sl.v val_Deps), (Sl.v val_Peers), (Sl.v val_Optional)]) ∧ ((ok = true → ∃ (key_name4 : ByteArray) (key_version_Major5 : Int) (key_version_Minor6 : Int) (key_version_Patch7 : Int) (val_Name8 : ByteArray) (val_Version_Major9 : Int) (val_Version_Minor10 : Int) (val_Version_Patch11 : Int) (val_Deps12 : Sl) (val_Peers13 : Sl) (val_Optional14 : Sl), (stabS Tryz.prog (Instr.entry (Value.pointer (some it))) vw2 (Value.tuple #[(Value.agg #[(Value.string key_name4), (Value.int .i64 key_version_Major5), (Value.int .i64 key_version_Minor6), (Value.int .i64 key_version_Patch7)]), (Value.agg #[(Value.string val_Name8), (Value.int .i64 val_Version_Major9), (Value.int .i64 val_Version_Minor10), (Value.int .i64 val_Version_Patch11), (Sl.v val_Deps12), (Sl.v val_Peers13), (Sl.v val_Optional14)])])) ∧ newS vw2 [(Value.string (ByteArray.mk #[])), (Value.int .i64 0), (Value.int .i64 0), (Value.int .i64 0), (Sl.v Sl.nil), (Sl.v Sl.nil), (Sl.v Sl.nil)] 48 fun a vw15 => stw vw15 a [(Value.string val_Name8), (Value.int .i64 val_Version_Major9), (Value.int .i64 val_Version_Minor10), (Value.int .i64 val_Version_Patch11), (Sl.v val_Deps12), (Sl.v val_Peers13), (Sl.v val_Optional14)] fun vw16 => ∃ (t16_Name : ByteArray) (t16_Version_Major : Int) (t16_Version_Minor : Int) (t16_Version_Patch : Int) (t16_Deps : Sl) (t16_Peers : Sl) (t16_Optional : Sl), (ldc vw16 a [(Value.string t16_Name), (Value.int .i64 t16_Version_Major), (Value.int .i64 t16_Version_Minor), (Value.int .i64 t16_Version_Patch), (Sl.v t16_Deps), (Sl.v t16_Peers), (Sl.v t16_Optional)]) ∧ callS Tryz.prog 62 [(Value.agg #[(Value.string t16_Name), (Value.int .i64 t16_Version_Major), (Value.int .i64 t16_Version_Minor), (Value.int .i64 t16_Version_Patch), (Sl.v t16_Deps), (Sl.v t16_Peers), (Sl.v t16_Optional)])] vw16 fun v19 vw18 => ∃ (t17_Name : ByteArray) (t17_Version_Major : Int) (t17_Version_Minor : Int) (t17_Version_Patch : Int) (t17_Deps : Sl) (t17_Peers : Sl) (t17_Optional : Sl), v19 = (Value.agg #[(Value.string t17_Name), (Value.int .i64 t17_Version_Major), (Value.int .i64 t17_Version_Minor), (Value.int .i64 t17_Version_Patch), (Sl.v t17_Deps), (Sl.v t17_Peers), (Sl.v t17_Optional)]) ∧ newS vw18 [(Value.string t17_Name), (Value.int .i64 t17_Version_Major), (Value.int .i64 t17_Version_Minor), (Value.int .i64 t17_Version_Patch), (Sl.v t17_Deps), (Sl.v t17_Peers), (Sl.v t17_Optional)] 48 fun a20 vw21 => appS Tryz.prog 22 22 out (Sl.v (Sl.mk (some a20) 1 1)) vw21 fun t19 vw22 => nxt t19 vw22) ∧ (ok = false → callS Tryz.prog 74 [(Sl.v out), (Value.func (.func 75) #[] #[])] vw2 fun v24 vw23 => v24 = (Value.tuple #[]) ∧ callS Tryz.prog 78 [(Sl.v out)] vw23 fun v27 vw26 => ∃ (t23 : Sl), v27 = (Sl.v t23) ∧ R t23 vw26))
set_option maxHeartbeats 8000000 in
theorem catalog_Catalog_All.sound (c : Option Addr) (w : World) (R : Sl → World → Prop) (h : catalog_Catalog_All c w R) : callS Tryz.prog 31 [(Value.pointer c)] w (fun v w' => ∃ (r0 : Sl), v = (Sl.v r0) ∧ R r0 w') := by
  unfold catalog_Catalog_All at h
  refine calls_of_vc 24 rfl Tryz.func31 rfl (by kernel_rfl) (by simp) ?_
  refine Vc.seq ?_
  refine Vc.region ?_
  refine vcL_pure rfl rfl (Sl.v Sl.nil) (fun w => by kernel_rfl) ?_
  refine vcL_nil ?_
  refine Vc.seq ?_
  refine Vc.region ?_
  refine vcL_pure rfl rfl (Sl.v Sl.nil) (fun w => by kernel_rfl) ?_
  refine vcL_nil ?_
  refine Vc.seq ?_
  refine Vc.seq ?_
  refine Vc.region ?_
  refine vcL_pure rfl rfl (Value.pointer c) (fun w => by kernel_rfl) ?_
  obtain ⟨p, hp, h⟩ := h
  refine vcL_pure rfl rfl (Value.pointer (some p)) (fun w => by exact exec_nilCheck rfl (by kernel_rfl) (hp) w) ?_
  refine vcL_pure rfl rfl (Value.pointer (some p)) (fun w => by kernel_rfl) ?_
  obtain ⟨t9, hc, h⟩ := h
  refine vcL_val rfl rfl (Value.map t9) (exec_load rfl (by kernel_rfl) (run_load1 (fun w => by kernel_rfl) ((hc)))) ?_
  refine vcL_eff rfl (opVC_sem rfl (c := Instr.range 101 (Value.map t9)) (by kernel_rfl) (semS.mono h fun v vw h => ?_)) 
  obtain ⟨it, rfl, h⟩ := h
  refine vcL_nil ?_
  refine Vc.block ?_
  obtain ⟨vI, mu, h, hr⟩ := h
  refine Vc.loopJ (σ := Sl) [3] [5, 11, 12, 13, 14, 15, 16, 17, 18, 19] (fun s => [(3, (Sl.v s))]) (fun s w => vI s w) (fun s w => mu s w) Sl.nil h (fun _ => rfl) (by kernel_rfl) ?_
  intro out vw1 j h
  have h := hr out vw1 h
  refine Vc.seq ?_
  refine Vc.region ?_
  refine vcL_eff rfl (opVC_sem rfl (c := Instr.next (Value.pointer (some it)) false 0) (by kernel_rfl) (semS.mono h fun v3 vw2 h => ?_)) 
  obtain ⟨ok, key_name, key_version_Major, key_version_Minor, key_version_Patch, val_Name, val_Version_Major, val_Version_Minor, val_Version_Patch, val_Deps, val_Peers, val_Optional, rfl, h⟩ := h
  refine vcL_pure rfl rfl (Value.bool ok) (fun w => by cases ok <;> kernel_rfl) ?_
  refine vcL_nil ?_
  refine Vc.seq ?_
  refine Vc.cond ok (by kernel_rfl) (fun hb => ?_) (fun hb => ?_)
  · have hq := h.1 (hb)
    clear h
    subst hb
    have h := hq
    clear hq
    refine Vc.skip ?_
    refine Vc.block ?_
    refine Vc.seq ?_
    refine Vc.region ?_
    obtain ⟨key_name4, key_version_Major5, key_version_Minor6, key_version_Patch7, val_Name8, val_Version_Major9, val_Version_Minor10, val_Version_Patch11, val_Deps12, val_Peers13, val_Optional14, hl, h⟩ := h
    refine vcL_val rfl rfl (Value.tuple #[(Value.agg #[(Value.string key_name4), (Value.int .i64 key_version_Major5), (Value.int .i64 key_version_Minor6), (Value.int .i64 key_version_Patch7)]), (Value.agg #[(Value.string val_Name8), (Value.int .i64 val_Version_Major9), (Value.int .i64 val_Version_Minor10), (Value.int .i64 val_Version_Patch11), (Sl.v val_Deps12), (Sl.v val_Peers13), (Sl.v val_Optional14)])]) (exec_sem (c := Instr.entry (Value.pointer (some it))) (by kernel_rfl) ((hl) _ (Ext.refl _))) ?_
    refine vcL_pure rfl rfl (Value.agg #[(Value.string val_Name8), (Value.int .i64 val_Version_Major9), (Value.int .i64 val_Version_Minor10), (Value.int .i64 val_Version_Patch11), (Sl.v val_Deps12), (Sl.v val_Peers13), (Sl.v val_Optional14)]) (fun w => by kernel_rfl) ?_
    refine vcL_eff rfl (opVC_new rfl (fun a => Value.pointer (some a)) (by kernel_rfl) (newS.mono h fun a vw15 hx h => ?_)) 
    refine vcL_eff rfl (opVC_store rfl rfl (a := a) (by kernel_rfl) (v := (Value.agg #[(Value.string val_Name8), (Value.int .i64 val_Version_Major9), (Value.int .i64 val_Version_Minor10), (Value.int .i64 val_Version_Patch11), (Sl.v val_Deps12), (Sl.v val_Peers13), (Sl.v val_Optional14)])) (by kernel_rfl) [(Value.string val_Name8), (Value.int .i64 val_Version_Major9), (Value.int .i64 val_Version_Minor10), (Value.int .i64 val_Version_Patch11), (Sl.v val_Deps12), (Sl.v val_Peers13), (Sl.v val_Optional14)] (by kernel_rfl) (fun w => by kernel_rfl) (by kernel_rfl) (stw.mono h fun vw16 h => ?_)) 
    refine vcL_nil ?_
    refine Vc.region ?_
    refine vcL_pure rfl rfl (Sl.v out) (fun w => by kernel_rfl) ?_
    obtain ⟨t16_Name, t16_Version_Major, t16_Version_Minor, t16_Version_Patch, t16_Deps, t16_Peers, t16_Optional, hc17, h⟩ := h
    refine vcL_val rfl rfl (Value.agg #[(Value.string t16_Name), (Value.int .i64 t16_Version_Major), (Value.int .i64 t16_Version_Minor), (Value.int .i64 t16_Version_Patch), (Sl.v t16_Deps), (Sl.v t16_Peers), (Sl.v t16_Optional)]) (exec_load rfl (by kernel_rfl) (run_loadN (fun w => by kernel_rfl) (fun w => by kernel_rfl) ((hc17)))) ?_
    refine vcL_eff rfl (opVC_call rfl (by kernel_rfl) (callS.mono h fun v19 vw18 h => ?_)) 
    obtain ⟨t17_Name, t17_Version_Major, t17_Version_Minor, t17_Version_Patch, t17_Deps, t17_Peers, t17_Optional, rfl, h⟩ := h
    refine vcL_eff rfl (opVC_new rfl (fun a => Value.slice (some a) 1 1) (by kernel_rfl) (newS.mono h fun a20 vw21 hx h => ?_)) 
    refine vcL_eff rfl (opVC_sem rfl (c := Builtin.append_ #[22, 22] 22 #[(Sl.v out), (Sl.v (Sl.mk (some a20) 1 1))]) (by kernel_rfl) (appS.elim (ty := 22) h fun t19 vw22 h => ?_)) 
    refine vcL_pure rfl rfl (Sl.v t19) (fun w => by kernel_rfl) ?_
    refine vcL_nil ?_
    exact ⟨t19, 22, ⟨rfl, by kernel_rfl, by kernel_rfl, by kernel_rfl⟩, h⟩
  · have hq := h.2 (hb)
    clear h
    subst hb
    have h := hq
    clear hq
    refine Vc.exit ?_
    refine outOf_hit ?_
    refine Vc.seq ?_
    refine Vc.region ?_
    refine vcL_pure rfl rfl (Sl.v out) (fun w => by kernel_rfl) ?_
    refine vcL_eff rfl (opVC_call rfl (by kernel_rfl) (callS.mono h fun v24 vw23 h => ?_)) 
    obtain ⟨rfl, h⟩ := h
    refine vcL_nil ?_
    refine Vc.seq ?_
    refine Vc.region ?_
    refine vcL_pure rfl rfl (Sl.v out) (fun w => by kernel_rfl) ?_
    refine vcL_eff rfl (opVC_call rfl (by kernel_rfl) (callS.mono h fun v27 vw26 h => ?_)) 
    obtain ⟨t23, rfl, h⟩ := h
    refine vcL_pure rfl rfl (Sl.v t23) (fun w => by kernel_rfl) ?_
    refine vcL_nil ?_
    refine Vc.ret ?_
    refine outs_ret ?_
    refine done_mk (Sl.v t23) (res1 (resC_tmp (by kernel_rfl))) ?_
    exact ⟨t23, rfl, h⟩
theorem catalog_Catalog_All.go {c : Option Addr} {w : World} {k : Value → World → Prop} (h : catalog_Catalog_All c w fun r0 w' => k (Sl.v r0) w') : callS Tryz.prog 31 [(Value.pointer c)] w k := (catalog_Catalog_All.sound c w _ h).mono (by rintro _ _ ⟨r0, rfl, h⟩; exact h)

/-- halyard/halyardref02.Compare -/
def halyardref02_Compare (a_Major : Int) (a_Minor : Int) (a_Patch : Int) (b_Major : Int) (b_Minor : Int) (b_Patch : Int) (w : World) (R : Int → World → Prop) : Prop :=
  newS w [(Value.int .i64 a_Major), (Value.int .i64 a_Minor), (Value.int .i64 a_Patch)] 30 fun a vw => newS vw [(Value.int .i64 b_Major), (Value.int .i64 b_Minor), (Value.int .i64 b_Patch)] 30 fun a1 vw2 => ∃ (t9 : Int), (ldc vw2 a [(Value.int .i64 t9)]) ∧ ∃ (t11 : Int), (ldc vw2 (a.add 1) [(Value.int .i64 t11)]) ∧ ∃ (t13 : Int), (ldc vw2 (a.add 2) [(Value.int .i64 t13)]) ∧ newS vw2 [(Value.int .i64 t9), (Value.int .i64 t11), (Value.int .i64 t13)] 3 fun a5 vw6 => ∃ (t16 : Int), (ldc vw6 a1 [(Value.int .i64 t16)]) ∧ ∃ (t18 : Int), (ldc vw6 (a1.add 1) [(Value.int .i64 t18)]) ∧ ∃ (t20 : Int), (ldc vw6 (a1.add 2) [(Value.int .i64 t20)]) ∧ newS vw6 [(Value.int .i64 t16), (Value.int .i64 t18), (Value.int .i64 t20)] 3 fun a10 vw11 => loop1 0 vw11 fun i vw12 nxt => ((i < 3 → bnd vw12.drew fun (vw13 : World) => ∃ (ad : Addr), ((Sl.mk (some a5) 3 3).a = some ad ∧ (0 : Int) ≤ i ∧ i < ((Sl.mk (some a5) 3 3).len : Int)) ∧ ∃ (t29 : Int), (ldc vw13 (ad.add (i.toNat * 1)) [(Value.int .i64 t29)]) ∧ ∃ (ad15 : Addr), ((Sl.mk (some a10) 3 3).a = some ad15 ∧ (0 : Int) ≤ i ∧ i < ((Sl.mk (some a10) 3 3).len : Int)) ∧ ∃ (t33 : Int), (ldc vw13 (ad15.add (i.toNat * 1)) [(Value.int .i64 t33)]) ∧ ((t29 < t33 → R (-1) vw13) ∧ (¬ (t29 < t33) → bnd vw13.drew fun (vw18 : World) => ∃ (ad19 : Addr), ((Sl.mk (some a5) 3 3).a = some ad19 ∧ (0 : Int) ≤ i ∧ i < ((Sl.mk (some a5) 3 3).len : Int)) ∧ ∃ (t38 : Int), (ldc vw18 (ad19.add (i.toNat * 1)) [(Value.int .i64 t38)]) ∧ ∃ (ad22 : Addr), ((Sl.mk (some a10) 3 3).a = some ad22 ∧ (0 : Int) ≤ i ∧ i < ((Sl.mk (some a10) 3 3).len : Int)) ∧ ∃ (t42 : Int), (ldc vw18 (ad22.add (i.toNat * 1)) [(Value.int .i64 t42)]) ∧ ((t42 < t38 → R 1 vw18) ∧ (¬ (t42 < t38) → nxt (wrapI (i + 1)) vw18))))) ∧ (¬ (i < 3) → R 0 vw12))
set_option maxHeartbeats 8000000 in
theorem halyardref02_Compare.sound (a_Major : Int) (a_Minor : Int) (a_Patch : Int) (b_Major : Int) (b_Minor : Int) (b_Patch : Int) (w : World) (R : Int → World → Prop) (h : halyardref02_Compare a_Major a_Minor a_Patch b_Major b_Minor b_Patch w R) : callS Tryz.prog 33 [(Value.agg #[(Value.int .i64 a_Major), (Value.int .i64 a_Minor), (Value.int .i64 a_Patch)]), (Value.agg #[(Value.int .i64 b_Major), (Value.int .i64 b_Minor), (Value.int .i64 b_Patch)])] w (fun v w' => ∃ (r0 : Int), v = (Value.int .i64 r0) ∧ R r0 w') := by
  unfold halyardref02_Compare at h
  refine calls_of_vc 44 rfl Tryz.func33 rfl (by kernel_rfl) (by simp) ?_
  refine Vc.seq ?_
  refine Vc.region ?_
  refine vcL_eff rfl (opVC_new rfl (fun a => Value.pointer (some a)) (by kernel_rfl) (newS.mono h fun a vw hx h => ?_)) 
  refine vcL_eff rfl (opVC_new rfl (fun a => Value.pointer (some a)) (by kernel_rfl) (newS.mono h fun a1 vw2 hx h => ?_)) 
  refine vcL_pure rfl rfl (Value.int .i64 0) (fun w => by kernel_rfl) ?_
  refine vcL_nil ?_
  refine Vc.seq ?_
  refine Vc.region ?_
  refine vcL_pure rfl rfl (Value.pointer (some a)) (fun w => by kernel_rfl) ?_
  obtain ⟨t9, hc, h⟩ := h
  refine vcL_val rfl rfl (Value.int .i64 t9) (exec_load rfl (by kernel_rfl) (run_load1 (fun w => by kernel_rfl) ((hc)))) ?_
  refine vcL_pure rfl rfl (Value.pointer (some (a.add 1))) (fun w => by kernel_rfl) ?_
  obtain ⟨t11, hc3, h⟩ := h
  refine vcL_val rfl rfl (Value.int .i64 t11) (exec_load rfl (by kernel_rfl) (run_load1 (fun w => by kernel_rfl) ((hc3)))) ?_
  refine vcL_pure rfl rfl (Value.pointer (some (a.add 2))) (fun w => by kernel_rfl) ?_
  obtain ⟨t13, hc4, h⟩ := h
  refine vcL_val rfl rfl (Value.int .i64 t13) (exec_load rfl (by kernel_rfl) (run_load1 (fun w => by kernel_rfl) ((hc4)))) ?_
  refine vcL_eff rfl (opVC_new rfl (fun a => Value.slice (some a) 3 3) (by kernel_rfl) (newS.mono h fun a5 vw6 hx h => ?_)) 
  refine vcL_pure rfl rfl (Sl.v (Sl.mk (some a5) 3 3)) (fun w => by kernel_rfl) ?_
  refine vcL_nil ?_
  refine Vc.seq ?_
  refine Vc.region ?_
  refine vcL_pure rfl rfl (Value.pointer (some a1)) (fun w => by kernel_rfl) ?_
  obtain ⟨t16, hc7, h⟩ := h
  refine vcL_val rfl rfl (Value.int .i64 t16) (exec_load rfl (by kernel_rfl) (run_load1 (fun w => by kernel_rfl) ((hc7)))) ?_
  refine vcL_pure rfl rfl (Value.pointer (some (a1.add 1))) (fun w => by kernel_rfl) ?_
  obtain ⟨t18, hc8, h⟩ := h
  refine vcL_val rfl rfl (Value.int .i64 t18) (exec_load rfl (by kernel_rfl) (run_load1 (fun w => by kernel_rfl) ((hc8)))) ?_
  refine vcL_pure rfl rfl (Value.pointer (some (a1.add 2))) (fun w => by kernel_rfl) ?_
  obtain ⟨t20, hc9, h⟩ := h
  refine vcL_val rfl rfl (Value.int .i64 t20) (exec_load rfl (by kernel_rfl) (run_load1 (fun w => by kernel_rfl) ((hc9)))) ?_
  refine vcL_eff rfl (opVC_new rfl (fun a => Value.slice (some a) 3 3) (by kernel_rfl) (newS.mono h fun a10 vw11 hx h => ?_)) 
  refine vcL_pure rfl rfl (Sl.v (Sl.mk (some a10) 3 3)) (fun w => by kernel_rfl) ?_
  refine vcL_nil ?_
  refine Vc.seq ?_
  refine Vc.seq ?_
  refine Vc.region ?_
  refine vcL_pure rfl rfl (Value.int .i64 0) (fun w => by kernel_rfl) ?_
  refine vcL_nil ?_
  refine Vc.block ?_
  obtain ⟨vI, mu, h, hr⟩ := h
  refine Vc.loopJ (σ := Int) [7] [4, 22, 23, 24, 25, 26, 27, 28, 29, 30, 31, 32, 33, 34, 35, 36, 37, 38, 39, 40, 41, 42, 43] (fun s => [(7, (Value.int .i64 s))]) (fun s w => vI s w) (fun s w => mu s w) 0 h (fun _ => rfl) (by kernel_rfl) ?_
  intro i vw12 j h
  have h := hr i vw12 h
  refine Vc.seq ?_
  refine Vc.seq ?_
  refine Vc.region ?_
  refine vcL_purs 2 [(23, (Value.bool (decide (i < 3)))), (22, (Value.int .i64 i))] (by kernel_rfl) ?_
  refine vcL_nil ?_
  refine Vc.cond (decide (i < 3)) (by kernel_rfl) (fun hb => ?_) (fun hb => ?_)
  · have h := h.1 (of_decide_eq_true hb)
    refine Vc.skip ?_
    refine Vc.seq ?_
    refine Vc.block ?_
    refine Vc.seq ?_
    refine Vc.seq ?_
    obtain ⟨vw13, hvw13⟩ : ∃ y, y = vw12.drew := ⟨_, rfl⟩
    have h := h vw13 hvw13
    refine Vc.draw (by kernel_rfl) (fun i => !(memN [] i)) (.pur 0 (.pur 1 (.pur 2 (.val 3 (.pur 4 (.pur 5 (.pur 6 (.val 7 (.pur 8 .fin))))))))) (by kernel_rfl) ?_
    rw [← hvw13]
    clear hvw13
    refine vcS_pure rfl rfl rfl (Sl.v (Sl.mk (some a5) 3 3)) (fun w => by kernel_rfl) ?_
    refine vcS_pure rfl rfl rfl (Value.int .i64 i) (fun w => by kernel_rfl) ?_
    obtain ⟨ad, hi, h⟩ := h
    refine vcS_pure rfl rfl rfl (Value.pointer (some (ad.add (i.toNat * 1)))) (fun w => by exact exec_indexAt (s := (Sl.mk (some a5) 3 3)) (el := 3) rfl (by kernel_rfl) (by kernel_rfl) (by kernel_rfl) (fun w => by kernel_rfl) (hi).1 (hi).2.1 (hi).2.2 w) ?_
    obtain ⟨t29, hc14, h⟩ := h
    refine vcS_val rfl rfl rfl (Value.int .i64 t29) (fun w' hx => exec_load rfl (by kernel_rfl) (run_load1 (fun w => by kernel_rfl) ((hc14).ext hx))) ?_
    refine vcS_pure rfl rfl rfl (Sl.v (Sl.mk (some a10) 3 3)) (fun w => by kernel_rfl) ?_
    refine vcS_pure rfl rfl rfl (Value.int .i64 i) (fun w => by kernel_rfl) ?_
    obtain ⟨ad15, hi16, h⟩ := h
    refine vcS_pure rfl rfl rfl (Value.pointer (some (ad15.add (i.toNat * 1)))) (fun w => by exact exec_indexAt (s := (Sl.mk (some a10) 3 3)) (el := 3) rfl (by kernel_rfl) (by kernel_rfl) (by kernel_rfl) (fun w => by kernel_rfl) (hi16).1 (hi16).2.1 (hi16).2.2 w) ?_
    obtain ⟨t33, hc17, h⟩ := h
    refine vcS_val rfl rfl rfl (Value.int .i64 t33) (fun w' hx => exec_load rfl (by kernel_rfl) (run_load1 (fun w => by kernel_rfl) ((hc17).ext hx))) ?_
    refine vcS_pure rfl rfl rfl (Value.bool (decide (t29 < t33))) (fun w => by kernel_rfl) ?_
    refine vcS_fin ?_
    refine Vc.cond (decide (t29 < t33)) (by kernel_rfl) (fun hb => ?_) (fun hb => ?_)
    · have h := h.1 (of_decide_eq_true hb)
      refine Vc.seq ?_
      refine Vc.region ?_
      refine vcL_pure rfl rfl (Value.int .i64 (-1)) (fun w => by kernel_rfl) ?_
      refine vcL_nil ?_
      refine Vc.ret ?_
      refine outOf_ret ?_
      refine outOf_ret ?_
      refine outs_ret ?_
      refine done_mk (Value.int .i64 (-1)) (res1 (resC_tmp (by kernel_rfl))) ?_
      exact ⟨(-1), rfl, h⟩
    · have h := h.2 (of_decide_eq_false hb)
      refine Vc.skip ?_
      refine Vc.seq ?_
      obtain ⟨vw18, hvw18⟩ : ∃ y, y = vw13.drew := ⟨_, rfl⟩
      have h := h vw18 hvw18
      refine Vc.draw (by kernel_rfl) (fun i => !(memN [] i)) (.pur 0 (.pur 1 (.pur 2 (.val 3 (.pur 4 (.pur 5 (.pur 6 (.val 7 (.pur 8 .fin))))))))) (by kernel_rfl) ?_
      rw [← hvw18]
      clear hvw18
      refine vcS_pure rfl rfl rfl (Sl.v (Sl.mk (some a5) 3 3)) (fun w => by kernel_rfl) ?_
      refine vcS_pure rfl rfl rfl (Value.int .i64 i) (fun w => by kernel_rfl) ?_
      obtain ⟨ad19, hi20, h⟩ := h
      refine vcS_pure rfl rfl rfl (Value.pointer (some (ad19.add (i.toNat * 1)))) (fun w => by exact exec_indexAt (s := (Sl.mk (some a5) 3 3)) (el := 3) rfl (by kernel_rfl) (by kernel_rfl) (by kernel_rfl) (fun w => by kernel_rfl) (hi20).1 (hi20).2.1 (hi20).2.2 w) ?_
      obtain ⟨t38, hc21, h⟩ := h
      refine vcS_val rfl rfl rfl (Value.int .i64 t38) (fun w' hx => exec_load rfl (by kernel_rfl) (run_load1 (fun w => by kernel_rfl) ((hc21).ext hx))) ?_
      refine vcS_pure rfl rfl rfl (Sl.v (Sl.mk (some a10) 3 3)) (fun w => by kernel_rfl) ?_
      refine vcS_pure rfl rfl rfl (Value.int .i64 i) (fun w => by kernel_rfl) ?_
      obtain ⟨ad22, hi23, h⟩ := h
      refine vcS_pure rfl rfl rfl (Value.pointer (some (ad22.add (i.toNat * 1)))) (fun w => by exact exec_indexAt (s := (Sl.mk (some a10) 3 3)) (el := 3) rfl (by kernel_rfl) (by kernel_rfl) (by kernel_rfl) (fun w => by kernel_rfl) (hi23).1 (hi23).2.1 (hi23).2.2 w) ?_
      obtain ⟨t42, hc24, h⟩ := h
      refine vcS_val rfl rfl rfl (Value.int .i64 t42) (fun w' hx => exec_load rfl (by kernel_rfl) (run_load1 (fun w => by kernel_rfl) ((hc24).ext hx))) ?_
      refine vcS_pure rfl rfl rfl (Value.bool (decide (t42 < t38))) (fun w => by kernel_rfl) ?_
      refine vcS_fin ?_
      refine Vc.cond (decide (t42 < t38)) (by kernel_rfl) (fun hb => ?_) (fun hb => ?_)
      · have h := h.1 (of_decide_eq_true hb)
        refine Vc.seq ?_
        refine Vc.region ?_
        refine vcL_pure rfl rfl (Value.int .i64 1) (fun w => by kernel_rfl) ?_
        refine vcL_nil ?_
        refine Vc.ret ?_
        refine outOf_ret ?_
        refine outOf_ret ?_
        refine outs_ret ?_
        refine done_mk (Value.int .i64 1) (res1 (resC_tmp (by kernel_rfl))) ?_
        exact ⟨1, rfl, h⟩
      · have h := h.2 (of_decide_eq_false hb)
        refine Vc.skip ?_
        refine Vc.region ?_
        refine vcL_purs 3 [(7, (Value.int .i64 (wrapI (i + 1)))), (25, (Value.int .i64 (wrapI (i + 1)))), (24, (Value.int .i64 i))] (by kernel_rfl) ?_
        refine vcL_nil ?_
        exact ⟨(wrapI (i + 1)), 47, ⟨rfl, by kernel_rfl, by kernel_rfl, by kernel_rfl⟩, h⟩
  · have h := h.2 (of_decide_eq_false hb)
    refine Vc.exit ?_
    refine outOf_hit ?_
    refine Vc.seq ?_
    refine Vc.region ?_
    refine vcL_pure rfl rfl (Value.int .i64 0) (fun w => by kernel_rfl) ?_
    refine vcL_nil ?_
    refine Vc.ret ?_
    refine outs_ret ?_
    refine done_mk (Value.int .i64 0) (res1 (resC_tmp (by kernel_rfl))) ?_
    exact ⟨0, rfl, h⟩
theorem halyardref02_Compare.go {a_Major : Int} {a_Minor : Int} {a_Patch : Int} {b_Major : Int} {b_Minor : Int} {b_Patch : Int} {w : World} {k : Value → World → Prop} (h : halyardref02_Compare a_Major a_Minor a_Patch b_Major b_Minor b_Patch w fun r0 w' => k (Value.int .i64 r0) w') : callS Tryz.prog 33 [(Value.agg #[(Value.int .i64 a_Major), (Value.int .i64 a_Minor), (Value.int .i64 a_Patch)]), (Value.agg #[(Value.int .i64 b_Major), (Value.int .i64 b_Minor), (Value.int .i64 b_Patch)])] w k := (halyardref02_Compare.sound a_Major a_Minor a_Patch b_Major b_Minor b_Patch w _ h).mono (by rintro _ _ ⟨r0, rfl, h⟩; exact h)

/-- halyard/halyardref02.At -/
def halyardref02_At (n : Int) (w : World) (R : Int → Int → Int → Bool → World → Prop) : Prop :=
  newS w [(Value.int .i64 0), (Value.int .i64 0), (Value.int .i64 0)] 30 fun a vw => bnd (decide (n < 0)) fun (b : Bool) => (((b || (decide (999999999 < n))) = true → stw vw a [(Value.int .i64 0), (Value.int .i64 0), (Value.int .i64 0)] fun vw1 => ∃ (r_Major : Int) (r_Minor : Int) (r_Patch : Int), ldc vw1 a [(Value.int .i64 r_Major), (Value.int .i64 r_Minor), (Value.int .i64 r_Patch)] ∧ R r_Major r_Minor r_Patch false vw1) ∧ ((b || (decide (999999999 < n))) = false → stw vw a [(Value.int .i64 (wrapI (n.tdiv 1000000))), (Value.int .i64 (Int.tmod (wrapI (n.tdiv 1000)) 1000)), (Value.int .i64 (Int.tmod n 1000))] fun vw2 => ∃ (r_Major3 : Int) (r_Minor4 : Int) (r_Patch5 : Int), ldc vw2 a [(Value.int .i64 r_Major3), (Value.int .i64 r_Minor4), (Value.int .i64 r_Patch5)] ∧ R r_Major3 r_Minor4 r_Patch5 true vw2))
set_option maxHeartbeats 8000000 in
theorem halyardref02_At.sound (n : Int) (w : World) (R : Int → Int → Int → Bool → World → Prop) (h : halyardref02_At n w R) : callS Tryz.prog 35 [(Value.int .i64 n)] w (fun v w' => ∃ (r0 : Int) (r1 : Int) (r2 : Int) (r3 : Bool), v = (Value.tuple #[(Value.agg #[(Value.int .i64 r0), (Value.int .i64 r1), (Value.int .i64 r2)]), (Value.bool r3)]) ∧ R r0 r1 r2 r3 w') := by
  unfold halyardref02_At at h
  refine calls_of_vc 19 rfl Tryz.func35 rfl (by kernel_rfl) (by simp) ?_
  refine Vc.seq ?_
  refine Vc.region ?_
  refine vcL_eff rfl (opVC_new rfl (fun a => Value.pointer (some a)) (by kernel_rfl) (newS.mono h fun a vw hx h => ?_)) 
  refine vcL_pure rfl rfl (Value.bool false) (fun w => by kernel_rfl) ?_
  refine vcL_nil ?_
  refine Vc.seq ?_
  refine Vc.seq ?_
  refine Vc.region ?_
  refine vcL_purs 2 [(5, (Value.bool (decide (n < 0)))), (4, (Value.int .i64 n))] (by kernel_rfl) ?_
  obtain ⟨b, hb⟩ : ∃ y, y = (decide (n < 0)) := ⟨_, rfl⟩
  have h := h b hb
  refine vcL_pure rfl rfl (Value.bool b) (fun w => by rw [hb]; kernel_rfl) ?_
  refine vcL_guardP (!b) (wanted_g (d := 6) rfl (by kernel_rfl) b (by kernel_rfl) (!b) (eqF b)) rfl (Value.int .i64 n) (fun hg w => by simp only [Bool.and_eq_true, Bool.not_eq_true'] at hg; obtain rfl := hg; kernel_rfl) ?_
  refine vcL_guardP (!b) (wanted_g (d := 6) rfl (by kernel_rfl) b (by kernel_rfl) (!b) (eqF b)) rfl (Value.bool (decide (999999999 < n))) (fun hg w => by simp only [Bool.and_eq_true, Bool.not_eq_true'] at hg; obtain rfl := hg; kernel_rfl) ?_
  refine vcL_pure rfl rfl (Value.bool (b || (decide (999999999 < n)))) (fun w => by cases b <;> kernel_rfl) ?_
  refine vcL_nil ?_
  refine Vc.cond (b || (decide (999999999 < n))) (by kernel_rfl) (fun hb => ?_) (fun hb => ?_)
  · have h := h.1 (hb)
    refine Vc.seq ?_
    refine Vc.region ?_
    refine vcL_pure rfl rfl (Value.agg #[(Value.int .i64 0), (Value.int .i64 0), (Value.int .i64 0)]) (fun w => by kernel_rfl) ?_
    refine vcL_eff rfl (opVC_store rfl rfl (a := a) (by kernel_rfl) (v := (Value.agg #[(Value.int .i64 0), (Value.int .i64 0), (Value.int .i64 0)])) (by kernel_rfl) [(Value.int .i64 0), (Value.int .i64 0), (Value.int .i64 0)] (by kernel_rfl) (fun w => by kernel_rfl) (by kernel_rfl) (stw.mono h fun vw1 h => ?_)) 
    refine vcL_pure rfl rfl (Value.bool false) (fun w => by kernel_rfl) ?_
    refine vcL_nil ?_
    refine Vc.ret ?_
    refine outs_ret ?_
    obtain ⟨r_Major, r_Minor, r_Patch, hc, h⟩ := h
    refine done_mk (Value.tuple #[(Value.agg #[(Value.int .i64 r_Major), (Value.int .i64 r_Minor), (Value.int .i64 r_Patch)]), (Value.bool false)]) (res2 (resC_cell (by kernel_rfl) (run_loadN (fun w => by kernel_rfl) (fun w => by kernel_rfl) hc)) (resC_tmp (by kernel_rfl))) ?_
    exact ⟨r_Major, r_Minor, r_Patch, false, rfl, h⟩
  · have h := h.2 (hb)
    refine Vc.skip ?_
    refine Vc.seq ?_
    refine Vc.region ?_
    refine vcL_purs 8 [(18, (Value.agg #[(Value.int .i64 (wrapI (n.tdiv 1000000))), (Value.int .i64 (Int.tmod (wrapI (n.tdiv 1000)) 1000)), (Value.int .i64 (Int.tmod n 1000))])), (17, (Value.int .i64 (Int.tmod n 1000))), (16, (Value.int .i64 n)), (15, (Value.int .i64 (Int.tmod (wrapI (n.tdiv 1000)) 1000))), (14, (Value.int .i64 (wrapI (n.tdiv 1000)))), (13, (Value.int .i64 n)), (12, (Value.int .i64 (wrapI (n.tdiv 1000000)))), (11, (Value.int .i64 n))] (by kernel_rfl) ?_
    refine vcL_eff rfl (opVC_store rfl rfl (a := a) (by kernel_rfl) (v := (Value.agg #[(Value.int .i64 (wrapI (n.tdiv 1000000))), (Value.int .i64 (Int.tmod (wrapI (n.tdiv 1000)) 1000)), (Value.int .i64 (Int.tmod n 1000))])) (by kernel_rfl) [(Value.int .i64 (wrapI (n.tdiv 1000000))), (Value.int .i64 (Int.tmod (wrapI (n.tdiv 1000)) 1000)), (Value.int .i64 (Int.tmod n 1000))] (by kernel_rfl) (fun w => by kernel_rfl) (by kernel_rfl) (stw.mono h fun vw2 h => ?_)) 
    refine vcL_pure rfl rfl (Value.bool true) (fun w => by kernel_rfl) ?_
    refine vcL_nil ?_
    refine Vc.ret ?_
    refine outs_ret ?_
    obtain ⟨r_Major3, r_Minor4, r_Patch5, hc6, h⟩ := h
    refine done_mk (Value.tuple #[(Value.agg #[(Value.int .i64 r_Major3), (Value.int .i64 r_Minor4), (Value.int .i64 r_Patch5)]), (Value.bool true)]) (res2 (resC_cell (by kernel_rfl) (run_loadN (fun w => by kernel_rfl) (fun w => by kernel_rfl) hc6)) (resC_tmp (by kernel_rfl))) ?_
    exact ⟨r_Major3, r_Minor4, r_Patch5, true, rfl, h⟩
theorem halyardref02_At.go {n : Int} {w : World} {k : Value → World → Prop} (h : halyardref02_At n w fun r0 r1 r2 r3 w' => k (Value.tuple #[(Value.agg #[(Value.int .i64 r0), (Value.int .i64 r1), (Value.int .i64 r2)]), (Value.bool r3)]) w') : callS Tryz.prog 35 [(Value.int .i64 n)] w k := (halyardref02_At.sound n w _ h).mono (by rintro _ _ ⟨r0, r1, r2, r3, rfl, h⟩; exact h)

/-- halyard/halyardref03.All -/
def halyardref03_All (w : World) (R : Sl → World → Prop) : Prop :=
  callS Tryz.prog 96 [(Value.int .i64 0)] w fun v vw => ∃ (t1_Major : Int) (t1_Minor : Int) (t1_Patch : Int), v = (Value.agg #[(Value.int .i64 t1_Major), (Value.int .i64 t1_Minor), (Value.int .i64 t1_Patch)]) ∧ callS Tryz.prog 96 [(Value.int .i64 999999999)] vw fun v2 vw1 => ∃ (t2_Major : Int) (t2_Minor : Int) (t2_Patch : Int), v2 = (Value.agg #[(Value.int .i64 t2_Major), (Value.int .i64 t2_Minor), (Value.int .i64 t2_Patch)]) ∧ newS vw1 [(Value.int .i64 t1_Major), (Value.int .i64 t1_Minor), (Value.int .i64 t1_Patch), (Value.int .i64 t2_Major), (Value.int .i64 t2_Minor), (Value.int .i64 t2_Patch)] 83 fun a vw4 => R (Sl.mk (some a) 1 1) vw4
set_option maxHeartbeats 8000000 in
theorem halyardref03_All.sound (w : World) (R : Sl → World → Prop) (h : halyardref03_All w R) : callS Tryz.prog 49 [] w (fun v w' => ∃ (r0 : Sl), v = (Sl.v r0) ∧ R r0 w') := by
  unfold halyardref03_All at h
  refine calls_of_vc 5 rfl Tryz.func49 rfl (by kernel_rfl) (by simp) ?_
  refine Vc.seq ?_
  refine Vc.region ?_
  refine vcL_pure rfl rfl (Sl.v Sl.nil) (fun w => by kernel_rfl) ?_
  refine vcL_nil ?_
  refine Vc.seq ?_
  refine Vc.region ?_
  refine vcL_eff rfl (opVC_call rfl (by kernel_rfl) (callS.mono h fun v vw h => ?_)) 
  obtain ⟨t1_Major, t1_Minor, t1_Patch, rfl, h⟩ := h
  refine vcL_eff rfl (opVC_call rfl (by kernel_rfl) (callS.mono h fun v2 vw1 h => ?_)) 
  obtain ⟨t2_Major, t2_Minor, t2_Patch, rfl, h⟩ := h
  refine vcL_pure rfl rfl (Value.agg #[(Value.int .i64 t1_Major), (Value.int .i64 t1_Minor), (Value.int .i64 t1_Patch), (Value.int .i64 t2_Major), (Value.int .i64 t2_Minor), (Value.int .i64 t2_Patch)]) (fun w => by kernel_rfl) ?_
  refine vcL_eff rfl (opVC_new rfl (fun a => Value.slice (some a) 1 1) (by kernel_rfl) (newS.mono h fun a vw4 hx h => ?_)) 
  refine vcL_pure rfl rfl (Sl.v (Sl.mk (some a) 1 1)) (fun w => by kernel_rfl) ?_
  refine vcL_nil ?_
  refine Vc.ret ?_
  refine outs_ret ?_
  refine done_mk (Sl.v (Sl.mk (some a) 1 1)) (res1 (resC_tmp (by kernel_rfl))) ?_
  exact ⟨(Sl.mk (some a) 1 1), rfl, h⟩
theorem halyardref03_All.go {w : World} {k : Value → World → Prop} (h : halyardref03_All w fun r0 w' => k (Sl.v r0) w') : callS Tryz.prog 49 [] w k := (halyardref03_All.sound w _ h).mono (by rintro _ _ ⟨r0, rfl, h⟩; exact h)

/-- halyard/span.In -/
def span_In (l : Sl) (v_Major : Int) (v_Minor : Int) (v_Patch : Int) (w : World) (R : Bool → World → Prop) : Prop :=
  newS w [(Value.int .i64 v_Major), (Value.int .i64 v_Minor), (Value.int .i64 v_Patch)] 30 fun a vw => callS Tryz.prog 91 [(Sl.v l)] vw fun v vw1 => ∃ (t6 : Bool), v = (Value.bool t6) ∧ ∃ (t8_Major : Int) (t8_Minor : Int) (t8_Patch : Int), grd t6 (ldc vw1 a [(Value.int .i64 t8_Major), (Value.int .i64 t8_Minor), (Value.int .i64 t8_Patch)]) ∧ gCall t6 (fun (t9 : Bool) (vw2 : World) => bnd (t6 && t9) fun (b : Bool) => gCall b (fun (t14 : Bool) (vw5 : World) => R (b && t14) vw5) (fun q => callS Tryz.prog 98 [(Sl.v l), (Value.func (.func 99) #[] #[(Value.pointer (some a))])] vw2 fun v6 vw5 => ∃ (t14 : Bool), v6 = (Value.bool t14) ∧ q t14 vw5) (fun q => q false vw2)) (fun q => callS Tryz.prog 97 [(Value.agg #[(Value.int .i64 t8_Major), (Value.int .i64 t8_Minor), (Value.int .i64 t8_Patch)])] vw1 fun v3 vw2 => ∃ (t9 : Bool), v3 = (Value.bool t9) ∧ q t9 vw2) (fun q => q false vw1)
set_option maxHeartbeats 8000000 in
theorem span_In.sound (l : Sl) (v_Major : Int) (v_Minor : Int) (v_Patch : Int) (w : World) (R : Bool → World → Prop) (h : span_In l v_Major v_Minor v_Patch w R) : callS Tryz.prog 53 [(Sl.v l), (Value.agg #[(Value.int .i64 v_Major), (Value.int .i64 v_Minor), (Value.int .i64 v_Patch)])] w (fun v w' => ∃ (r0 : Bool), v = (Value.bool r0) ∧ R r0 w') := by
  unfold span_In at h
  refine calls_of_vc 16 rfl Tryz.func53 rfl (by kernel_rfl) (by simp) ?_
  refine Vc.seq ?_
  refine Vc.region ?_
  refine vcL_eff rfl (opVC_new rfl (fun a => Value.pointer (some a)) (by kernel_rfl) (newS.mono h fun a vw hx h => ?_)) 
  refine vcL_pure rfl rfl (Value.bool false) (fun w => by kernel_rfl) ?_
  refine vcL_nil ?_
  refine Vc.seq ?_
  refine Vc.region ?_
  refine vcL_pure rfl rfl (Sl.v l) (fun w => by kernel_rfl) ?_
  refine vcL_eff rfl (opVC_call rfl (by kernel_rfl) (callS.mono h fun v vw1 h => ?_)) 
  obtain ⟨t6, rfl, h⟩ := h
  refine vcL_pure rfl rfl (Value.bool t6) (fun w => by kernel_rfl) ?_
  obtain ⟨t8_Major, t8_Minor, t8_Patch, hc, h⟩ := h
  refine vcL_guard t6 (wanted_g (d := 7) rfl (by kernel_rfl) t6 (by kernel_rfl) t6 (eqT t6)) rfl (Value.agg #[(Value.int .i64 t8_Major), (Value.int .i64 t8_Minor), (Value.int .i64 t8_Patch)]) (fun hg => by subst hg; exact exec_load rfl (by kernel_rfl) (run_loadN (fun w => by kernel_rfl) (fun w => by kernel_rfl) ((hc rfl)))) ?_
  obtain ⟨vJ, hJ, h⟩ := gCall_elim h
  refine vcL_effJ (σ := Bool) t6 (wanted_g (d := 7) rfl (by kernel_rfl) t6 (by kernel_rfl) t6 (eqT t6)) rfl (fun s w => vJ s w) (fun s => (Value.bool s)) ?_ (fun hg => opVC_call rfl (by subst hg; kernel_rfl) (callS.mono (h.1 hg) fun v3 vw2 hq => ?_)) (fun hg => ⟨false, h.2 hg⟩)
  · intro t9 vw2 h
    subst hJ
    refine vcL_pure rfl rfl (Value.bool (t6 && t9)) (fun w => by cases t6 <;> kernel_rfl) ?_
    obtain ⟨b, hb⟩ : ∃ y, y = (t6 && t9) := ⟨_, rfl⟩
    have h := h b hb
    refine vcL_pure rfl rfl (Value.bool b) (fun w => by rw [hb]; kernel_rfl) ?_
    refine vcL_guardP b (wanted_g (d := 11) rfl (by kernel_rfl) b (by kernel_rfl) b (eqT b)) rfl (Sl.v l) (fun hg w => by subst hg; kernel_rfl) ?_
    refine vcL_guardP b (wanted_g (d := 11) rfl (by kernel_rfl) b (by kernel_rfl) b (eqT b)) rfl (Value.func (.func 99) #[] #[(Value.pointer (some a))]) (fun hg w => by subst hg; kernel_rfl) ?_
    obtain ⟨vJ8, hJ9, h⟩ := gCall_elim h
    refine vcL_effJ (σ := Bool) b (wanted_g (d := 11) rfl (by kernel_rfl) b (by kernel_rfl) b (eqT b)) rfl (fun s w => vJ8 s w) (fun s => (Value.bool s)) ?_ (fun hg => opVC_call rfl (by subst hg; kernel_rfl) (callS.mono (h.1 hg) fun v6 vw5 hq => ?_)) (fun hg => ⟨false, h.2 hg⟩)
    · intro t14 vw5 h
      subst hJ9
      refine vcL_pure rfl rfl (Value.bool (b && t14)) (fun w => by cases b <;> kernel_rfl) ?_
      refine vcL_pure rfl rfl (Value.bool (b && t14)) (fun w => by kernel_rfl) ?_
      refine vcL_nil ?_
      refine Vc.ret ?_
      refine outs_ret ?_
      refine done_mk (Value.bool (b && t14)) (res1 (resC_tmp (by kernel_rfl))) ?_
      exact ⟨(b && t14), rfl, h⟩
    · obtain ⟨t14, rfl, hq⟩ := hq
      exact ⟨t14, rfl, hq⟩
  · obtain ⟨t9, rfl, hq⟩ := hq
    exact ⟨t9, rfl, hq⟩
theorem span_In.go {l : Sl} {v_Major : Int} {v_Minor : Int} {v_Patch : Int} {w : World} {k : Value → World → Prop} (h : span_In l v_Major v_Minor v_Patch w fun r0 w' => k (Value.bool r0) w') : callS Tryz.prog 53 [(Sl.v l), (Value.agg #[(Value.int .i64 v_Major), (Value.int .i64 v_Minor), (Value.int .i64 v_Patch)])] w k := (span_In.sound l v_Major v_Minor v_Patch w _ h).mono (by rintro _ _ ⟨r0, rfl, h⟩; exact h)

/-- halyard/pack.May -/
def pack_May (p_Name : ByteArray) (p_Version_Major : Int) (p_Version_Minor : Int) (p_Version_Patch : Int) (p_Deps : Sl) (p_Peers : Sl) (p_Optional : Sl) (w : World) (R : Bool → World → Prop) : Prop :=
  newS w [(Value.string p_Name), (Value.int .i64 p_Version_Major), (Value.int .i64 p_Version_Minor), (Value.int .i64 p_Version_Patch), (Sl.v p_Deps), (Sl.v p_Peers), (Sl.v p_Optional)] 48 fun a vw => ∃ (t4 : ByteArray), (ldc vw a [(Value.string t4)]) ∧ callS Tryz.prog 104 [(Value.string t4)] vw fun v vw1 => ∃ (t5 : Bool), v = (Value.bool t5) ∧ ∃ (t8_Major : Int) (t8_Minor : Int) (t8_Patch : Int), grd t5 (ldc vw1 (a.add 1) [(Value.int .i64 t8_Major), (Value.int .i64 t8_Minor), (Value.int .i64 t8_Patch)]) ∧ gCall t5 (fun (t9 : Bool) (vw3 : World) => bnd (t5 && t9) fun (b : Bool) => ∃ (t13 : Sl), grd b (ldc vw3 (a.add 4) [(Sl.v t13)]) ∧ gCall b (fun (t14 : Bool) (vw7 : World) => bnd (b && t14) fun (b12 : Bool) => ∃ (t18 : Sl), grd b12 (ldc vw7 (a.add 5) [(Sl.v t18)]) ∧ gCall b12 (fun (t19 : Bool) (vw14 : World) => bnd (b12 && t19) fun (b19 : Bool) => ∃ (t23 : Sl), grd b19 (ldc vw14 (a.add 6) [(Sl.v t23)]) ∧ gCall b19 (fun (t24 : Bool) (vw21 : World) => bnd (b19 && t24) fun (b26 : Bool) => ∃ (t28 : Sl), grd b26 (ldc vw21 (a.add 4) [(Sl.v t28)]) ∧ ∃ (t30 : Sl), grd b26 (ldc vw21 (a.add 5) [(Sl.v t30)]) ∧ ∃ (t32 : Sl), grd b26 (ldc vw21 (a.add 6) [(Sl.v t32)]) ∧ gCall b26 (fun (a30 : Addr) (vw31 : World) => gCall b26 (fun (t34 : Bool) (vw34 : World) => bnd (b26 && t34) fun (b39 : Bool) => ∃ (t37_Name : ByteArray) (t37_Version_Major : Int) (t37_Version_Minor : Int) (t37_Version_Patch : Int) (t37_Deps : Sl) (t37_Peers : Sl) (t37_Optional : Sl), grd b39 (ldc vw34 a [(Value.string t37_Name), (Value.int .i64 t37_Version_Major), (Value.int .i64 t37_Version_Minor), (Value.int .i64 t37_Version_Patch), (Sl.v t37_Deps), (Sl.v t37_Peers), (Sl.v t37_Optional)]) ∧ gCall b39 (fun (t38 : ByteArray) (vw41 : World) => R (b39 && (decide ((t38.size : Int) ≤ 4096))) vw41) (fun q => callS Tryz.prog 107 [(Value.agg #[(Value.string t37_Name), (Value.int .i64 t37_Version_Major), (Value.int .i64 t37_Version_Minor), (Value.int .i64 t37_Version_Patch), (Sl.v t37_Deps), (Sl.v t37_Peers), (Sl.v t37_Optional)])] vw34 fun v42 vw41 => ∃ (t38 : ByteArray), v42 = (Value.string t38) ∧ q t38 vw41) (fun q => q (ByteArray.mk #[]) vw34)) (fun q => callS Tryz.prog 106 [(Sl.v (Sl.mk (some a30) 3 3))] vw31 fun v35 vw34 => ∃ (t34 : Bool), v35 = (Value.bool t34) ∧ q t34 vw34) (fun q => q false vw31)) (fun q => newS vw21 [(Sl.v t28), (Sl.v t30), (Sl.v t32)] 23 q) (fun q => q ⟨0, 0, none⟩ vw21)) (fun q => callS Tryz.prog 105 [(Sl.v t23)] vw14 fun v22 vw21 => ∃ (t24 : Bool), v22 = (Value.bool t24) ∧ q t24 vw21) (fun q => q false vw14)) (fun q => callS Tryz.prog 105 [(Sl.v t18)] vw7 fun v15 vw14 => ∃ (t19 : Bool), v15 = (Value.bool t19) ∧ q t19 vw14) (fun q => q false vw7)) (fun q => callS Tryz.prog 105 [(Sl.v t13)] vw3 fun v8 vw7 => ∃ (t14 : Bool), v8 = (Value.bool t14) ∧ q t14 vw7) (fun q => q false vw3)) (fun q => callS Tryz.prog 97 [(Value.agg #[(Value.int .i64 t8_Major), (Value.int .i64 t8_Minor), (Value.int .i64 t8_Patch)])] vw1 fun v4 vw3 => ∃ (t9 : Bool), v4 = (Value.bool t9) ∧ q t9 vw3) (fun q => q false vw1)
set_option maxHeartbeats 8000000 in
theorem pack_May.sound (p_Name : ByteArray) (p_Version_Major : Int) (p_Version_Minor : Int) (p_Version_Patch : Int) (p_Deps : Sl) (p_Peers : Sl) (p_Optional : Sl) (w : World) (R : Bool → World → Prop) (h : pack_May p_Name p_Version_Major p_Version_Minor p_Version_Patch p_Deps p_Peers p_Optional w R) : callS Tryz.prog 61 [(Value.agg #[(Value.string p_Name), (Value.int .i64 p_Version_Major), (Value.int .i64 p_Version_Minor), (Value.int .i64 p_Version_Patch), (Sl.v p_Deps), (Sl.v p_Peers), (Sl.v p_Optional)])] w (fun v w' => ∃ (r0 : Bool), v = (Value.bool r0) ∧ R r0 w') := by
  unfold pack_May at h
  refine calls_of_vc 42 rfl Tryz.func61 rfl (by kernel_rfl) (by simp) ?_
  refine Vc.seq ?_
  refine Vc.region ?_
  refine vcL_eff rfl (opVC_new rfl (fun a => Value.pointer (some a)) (by kernel_rfl) (newS.mono h fun a vw hx h => ?_)) 
  refine vcL_pure rfl rfl (Value.bool false) (fun w => by kernel_rfl) ?_
  refine vcL_nil ?_
  refine Vc.seq ?_
  refine Vc.region ?_
  refine vcL_pure rfl rfl (Value.pointer (some a)) (fun w => by kernel_rfl) ?_
  obtain ⟨t4, hc, h⟩ := h
  refine vcL_val rfl rfl (Value.string t4) (exec_load rfl (by kernel_rfl) (run_load1 (fun w => by kernel_rfl) ((hc)))) ?_
  refine vcL_eff rfl (opVC_call rfl (by kernel_rfl) (callS.mono h fun v vw1 h => ?_)) 
  obtain ⟨t5, rfl, h⟩ := h
  refine vcL_pure rfl rfl (Value.bool t5) (fun w => by kernel_rfl) ?_
  refine vcL_guardP t5 (wanted_g (d := 6) rfl (by kernel_rfl) t5 (by kernel_rfl) t5 (eqT t5)) rfl (Value.pointer (some (a.add 1))) (fun hg w => by subst hg; kernel_rfl) ?_
  obtain ⟨t8_Major, t8_Minor, t8_Patch, hc2, h⟩ := h
  refine vcL_guard t5 (wanted_g (d := 6) rfl (by kernel_rfl) t5 (by kernel_rfl) t5 (eqT t5)) rfl (Value.agg #[(Value.int .i64 t8_Major), (Value.int .i64 t8_Minor), (Value.int .i64 t8_Patch)]) (fun hg => by subst hg; exact exec_load rfl (by kernel_rfl) (run_loadN (fun w => by kernel_rfl) (fun w => by kernel_rfl) ((hc2 rfl)))) ?_
  obtain ⟨vJ, hJ, h⟩ := gCall_elim h
  refine vcL_effJ (σ := Bool) t5 (wanted_g (d := 6) rfl (by kernel_rfl) t5 (by kernel_rfl) t5 (eqT t5)) rfl (fun s w => vJ s w) (fun s => (Value.bool s)) ?_ (fun hg => opVC_call rfl (by subst hg; kernel_rfl) (callS.mono (h.1 hg) fun v4 vw3 hq => ?_)) (fun hg => ⟨false, h.2 hg⟩)
  · intro t9 vw3 h
    subst hJ
    refine vcL_pure rfl rfl (Value.bool (t5 && t9)) (fun w => by cases t5 <;> kernel_rfl) ?_
    obtain ⟨b, hb⟩ : ∃ y, y = (t5 && t9) := ⟨_, rfl⟩
    have h := h b hb
    refine vcL_pure rfl rfl (Value.bool b) (fun w => by rw [hb]; kernel_rfl) ?_
    refine vcL_guardP b (wanted_g (d := 11) rfl (by kernel_rfl) b (by kernel_rfl) b (eqT b)) rfl (Value.pointer (some (a.add 4))) (fun hg w => by subst hg; kernel_rfl) ?_
    obtain ⟨t13, hc6, h⟩ := h
    refine vcL_guard b (wanted_g (d := 11) rfl (by kernel_rfl) b (by kernel_rfl) b (eqT b)) rfl (Sl.v t13) (fun hg => by subst hg; exact exec_load rfl (by kernel_rfl) (run_load1 (fun w => by kernel_rfl) ((hc6 rfl)))) ?_
    obtain ⟨vJ10, hJ11, h⟩ := gCall_elim h
    refine vcL_effJ (σ := Bool) b (wanted_g (d := 11) rfl (by kernel_rfl) b (by kernel_rfl) b (eqT b)) rfl (fun s w => vJ10 s w) (fun s => (Value.bool s)) ?_ (fun hg => opVC_call rfl (by subst hg; kernel_rfl) (callS.mono (h.1 hg) fun v8 vw7 hq => ?_)) (fun hg => ⟨false, h.2 hg⟩)
    · intro t14 vw7 h
      subst hJ11
      refine vcL_pure rfl rfl (Value.bool (b && t14)) (fun w => by cases b <;> kernel_rfl) ?_
      obtain ⟨b12, hb12⟩ : ∃ y, y = (b && t14) := ⟨_, rfl⟩
      have h := h b12 hb12
      refine vcL_pure rfl rfl (Value.bool b12) (fun w => by rw [hb12]; kernel_rfl) ?_
      refine vcL_guardP b12 (wanted_g (d := 16) rfl (by kernel_rfl) b12 (by kernel_rfl) b12 (eqT b12)) rfl (Value.pointer (some (a.add 5))) (fun hg w => by subst hg; kernel_rfl) ?_
      obtain ⟨t18, hc13, h⟩ := h
      refine vcL_guard b12 (wanted_g (d := 16) rfl (by kernel_rfl) b12 (by kernel_rfl) b12 (eqT b12)) rfl (Sl.v t18) (fun hg => by subst hg; exact exec_load rfl (by kernel_rfl) (run_load1 (fun w => by kernel_rfl) ((hc13 rfl)))) ?_
      obtain ⟨vJ17, hJ18, h⟩ := gCall_elim h
      refine vcL_effJ (σ := Bool) b12 (wanted_g (d := 16) rfl (by kernel_rfl) b12 (by kernel_rfl) b12 (eqT b12)) rfl (fun s w => vJ17 s w) (fun s => (Value.bool s)) ?_ (fun hg => opVC_call rfl (by subst hg; kernel_rfl) (callS.mono (h.1 hg) fun v15 vw14 hq => ?_)) (fun hg => ⟨false, h.2 hg⟩)
      · intro t19 vw14 h
        subst hJ18
        refine vcL_pure rfl rfl (Value.bool (b12 && t19)) (fun w => by cases b12 <;> kernel_rfl) ?_
        obtain ⟨b19, hb19⟩ : ∃ y, y = (b12 && t19) := ⟨_, rfl⟩
        have h := h b19 hb19
        refine vcL_pure rfl rfl (Value.bool b19) (fun w => by rw [hb19]; kernel_rfl) ?_
        refine vcL_guardP b19 (wanted_g (d := 21) rfl (by kernel_rfl) b19 (by kernel_rfl) b19 (eqT b19)) rfl (Value.pointer (some (a.add 6))) (fun hg w => by subst hg; kernel_rfl) ?_
        obtain ⟨t23, hc20, h⟩ := h
        refine vcL_guard b19 (wanted_g (d := 21) rfl (by kernel_rfl) b19 (by kernel_rfl) b19 (eqT b19)) rfl (Sl.v t23) (fun hg => by subst hg; exact exec_load rfl (by kernel_rfl) (run_load1 (fun w => by kernel_rfl) ((hc20 rfl)))) ?_
        obtain ⟨vJ24, hJ25, h⟩ := gCall_elim h
        refine vcL_effJ (σ := Bool) b19 (wanted_g (d := 21) rfl (by kernel_rfl) b19 (by kernel_rfl) b19 (eqT b19)) rfl (fun s w => vJ24 s w) (fun s => (Value.bool s)) ?_ (fun hg => opVC_call rfl (by subst hg; kernel_rfl) (callS.mono (h.1 hg) fun v22 vw21 hq => ?_)) (fun hg => ⟨false, h.2 hg⟩)
        · intro t24 vw21 h
          subst hJ25
          refine vcL_pure rfl rfl (Value.bool (b19 && t24)) (fun w => by cases b19 <;> kernel_rfl) ?_
          obtain ⟨b26, hb26⟩ : ∃ y, y = (b19 && t24) := ⟨_, rfl⟩
          have h := h b26 hb26
          refine vcL_pure rfl rfl (Value.bool b26) (fun w => by rw [hb26]; kernel_rfl) ?_
          refine vcL_guardP b26 (wanted_g (d := 26) rfl (by kernel_rfl) b26 (by kernel_rfl) b26 (eqT b26)) rfl (Value.pointer (some (a.add 4))) (fun hg w => by subst hg; kernel_rfl) ?_
          obtain ⟨t28, hc27, h⟩ := h
          refine vcL_guard b26 (wanted_g (d := 26) rfl (by kernel_rfl) b26 (by kernel_rfl) b26 (eqT b26)) rfl (Sl.v t28) (fun hg => by subst hg; exact exec_load rfl (by kernel_rfl) (run_load1 (fun w => by kernel_rfl) ((hc27 rfl)))) ?_
          refine vcL_guardP b26 (wanted_g (d := 26) rfl (by kernel_rfl) b26 (by kernel_rfl) b26 (eqT b26)) rfl (Value.pointer (some (a.add 5))) (fun hg w => by subst hg; kernel_rfl) ?_
          obtain ⟨t30, hc28, h⟩ := h
          refine vcL_guard b26 (wanted_g (d := 26) rfl (by kernel_rfl) b26 (by kernel_rfl) b26 (eqT b26)) rfl (Sl.v t30) (fun hg => by subst hg; exact exec_load rfl (by kernel_rfl) (run_load1 (fun w => by kernel_rfl) ((hc28 rfl)))) ?_
          refine vcL_guardP b26 (wanted_g (d := 26) rfl (by kernel_rfl) b26 (by kernel_rfl) b26 (eqT b26)) rfl (Value.pointer (some (a.add 6))) (fun hg w => by subst hg; kernel_rfl) ?_
          obtain ⟨t32, hc29, h⟩ := h
          refine vcL_guard b26 (wanted_g (d := 26) rfl (by kernel_rfl) b26 (by kernel_rfl) b26 (eqT b26)) rfl (Sl.v t32) (fun hg => by subst hg; exact exec_load rfl (by kernel_rfl) (run_load1 (fun w => by kernel_rfl) ((hc29 rfl)))) ?_
          obtain ⟨vJ32, hJ33, h⟩ := gCall_elim h
          refine vcL_effJ (σ := Addr) b26 (wanted_g (d := 26) rfl (by kernel_rfl) b26 (by kernel_rfl) b26 (eqT b26)) rfl (fun s w => vJ32 s w) (fun a => Value.slice (some a) 3 3) ?_ (fun hg => opVC_new rfl (fun a => Value.slice (some a) 3 3) (by subst hg; kernel_rfl) (newS.mono (h.1 hg) fun a w' hx hq => ?_)) (fun hg => ⟨⟨0, 0, none⟩, h.2 hg⟩)
          · intro a30 vw31 h
            subst hJ33
            obtain ⟨vJ37, hJ38, h⟩ := gCall_elim h
            refine vcL_effJ (σ := Bool) b26 (wanted_g (d := 26) rfl (by kernel_rfl) b26 (by kernel_rfl) b26 (eqT b26)) rfl (fun s w => vJ37 s w) (fun s => (Value.bool s)) ?_ (fun hg => opVC_call rfl (by subst hg; kernel_rfl) (callS.mono (h.1 hg) fun v35 vw34 hq => ?_)) (fun hg => ⟨false, h.2 hg⟩)
            · intro t34 vw34 h
              subst hJ38
              refine vcL_pure rfl rfl (Value.bool (b26 && t34)) (fun w => by cases b26 <;> kernel_rfl) ?_
              obtain ⟨b39, hb39⟩ : ∃ y, y = (b26 && t34) := ⟨_, rfl⟩
              have h := h b39 hb39
              refine vcL_pure rfl rfl (Value.bool b39) (fun w => by rw [hb39]; kernel_rfl) ?_
              obtain ⟨t37_Name, t37_Version_Major, t37_Version_Minor, t37_Version_Patch, t37_Deps, t37_Peers, t37_Optional, hc40, h⟩ := h
              refine vcL_guard b39 (wanted_g (d := 36) rfl (by kernel_rfl) b39 (by kernel_rfl) b39 (eqT b39)) rfl (Value.agg #[(Value.string t37_Name), (Value.int .i64 t37_Version_Major), (Value.int .i64 t37_Version_Minor), (Value.int .i64 t37_Version_Patch), (Sl.v t37_Deps), (Sl.v t37_Peers), (Sl.v t37_Optional)]) (fun hg => by subst hg; exact exec_load rfl (by kernel_rfl) (run_loadN (fun w => by kernel_rfl) (fun w => by kernel_rfl) ((hc40 rfl)))) ?_
              obtain ⟨vJ44, hJ45, h⟩ := gCall_elim h
              refine vcL_effJ (σ := ByteArray) b39 (wanted_g (d := 36) rfl (by kernel_rfl) b39 (by kernel_rfl) b39 (eqT b39)) rfl (fun s w => vJ44 s w) (fun s => (Value.string s)) ?_ (fun hg => opVC_call rfl (by subst hg; kernel_rfl) (callS.mono (h.1 hg) fun v42 vw41 hq => ?_)) (fun hg => ⟨(ByteArray.mk #[]), h.2 hg⟩)
              · intro t38 vw41 h
                subst hJ45
                refine vcL_guardP b39 (wanted_g (d := 36) rfl (by kernel_rfl) b39 (by kernel_rfl) b39 (eqT b39)) rfl (Value.int .i64 (t38.size : Int)) (fun hg w => by subst hg; kernel_rfl) ?_
                refine vcL_guardP b39 (wanted_g (d := 36) rfl (by kernel_rfl) b39 (by kernel_rfl) b39 (eqT b39)) rfl (Value.bool (decide ((t38.size : Int) ≤ 4096))) (fun hg w => by subst hg; kernel_rfl) ?_
                refine vcL_pure rfl rfl (Value.bool (b39 && (decide ((t38.size : Int) ≤ 4096)))) (fun w => by cases b39 <;> kernel_rfl) ?_
                refine vcL_pure rfl rfl (Value.bool (b39 && (decide ((t38.size : Int) ≤ 4096)))) (fun w => by kernel_rfl) ?_
                refine vcL_nil ?_
                refine Vc.ret ?_
                refine outs_ret ?_
                refine done_mk (Value.bool (b39 && (decide ((t38.size : Int) ≤ 4096)))) (res1 (resC_tmp (by kernel_rfl))) ?_
                exact ⟨(b39 && (decide ((t38.size : Int) ≤ 4096))), rfl, h⟩
              · obtain ⟨t38, rfl, hq⟩ := hq
                exact ⟨t38, rfl, hq⟩
            · obtain ⟨t34, rfl, hq⟩ := hq
              exact ⟨t34, rfl, hq⟩
          · exact ⟨a, rfl, hq⟩
        · obtain ⟨t24, rfl, hq⟩ := hq
          exact ⟨t24, rfl, hq⟩
      · obtain ⟨t19, rfl, hq⟩ := hq
        exact ⟨t19, rfl, hq⟩
    · obtain ⟨t14, rfl, hq⟩ := hq
      exact ⟨t14, rfl, hq⟩
  · obtain ⟨t9, rfl, hq⟩ := hq
    exact ⟨t9, rfl, hq⟩
theorem pack_May.go {p_Name : ByteArray} {p_Version_Major : Int} {p_Version_Minor : Int} {p_Version_Patch : Int} {p_Deps : Sl} {p_Peers : Sl} {p_Optional : Sl} {w : World} {k : Value → World → Prop} (h : pack_May p_Name p_Version_Major p_Version_Minor p_Version_Patch p_Deps p_Peers p_Optional w fun r0 w' => k (Value.bool r0) w') : callS Tryz.prog 61 [(Value.agg #[(Value.string p_Name), (Value.int .i64 p_Version_Major), (Value.int .i64 p_Version_Minor), (Value.int .i64 p_Version_Patch), (Sl.v p_Deps), (Sl.v p_Peers), (Sl.v p_Optional)])] w k := (pack_May.sound p_Name p_Version_Major p_Version_Minor p_Version_Patch p_Deps p_Peers p_Optional w _ h).mono (by rintro _ _ ⟨r0, rfl, h⟩; exact h)

/-- halyard/catalog.copied -/
def catalog_copied (p_Name : ByteArray) (p_Version_Major : Int) (p_Version_Minor : Int) (p_Version_Patch : Int) (p_Deps : Sl) (p_Peers : Sl) (p_Optional : Sl) (w : World) (R : ByteArray → Int → Int → Int → Sl → Sl → Sl → World → Prop) : Prop :=
  newS w [(Value.string p_Name), (Value.int .i64 p_Version_Major), (Value.int .i64 p_Version_Minor), (Value.int .i64 p_Version_Patch), (Sl.v p_Deps), (Sl.v p_Peers), (Sl.v p_Optional)] 48 fun a vw => newS vw [(Value.string (ByteArray.mk #[])), (Value.int .i64 0), (Value.int .i64 0), (Value.int .i64 0), (Sl.v Sl.nil), (Sl.v Sl.nil), (Sl.v Sl.nil)] 48 fun a1 vw2 => bnd vw2.drew fun (vw3 : World) => ∃ (t4 : Sl), (ldc vw3 (a.add 4) [(Sl.v t4)]) ∧ ∃ (t7 : Sl), (ldc vw3 (a.add 5) [(Sl.v t7)]) ∧ ∃ (t10 : Sl), (ldc vw3 (a.add 6) [(Sl.v t10)]) ∧ callX Tryz.prog 108 [(Sl.v t4)] vw3 fun v vw6 => ∃ (t5 : Sl), v = (Sl.v t5) ∧ callX Tryz.prog 108 [(Sl.v t7)] vw6 fun v8 vw7 => ∃ (t8 : Sl), v8 = (Sl.v t8) ∧ callS Tryz.prog 108 [(Sl.v t10)] vw7 fun v11 vw10 => ∃ (t11 : Sl), v11 = (Sl.v t11) ∧ stw vw10 (a.add 4) [(Sl.v t5)] fun vw13 => stw vw13 (a.add 5) [(Sl.v t8)] fun vw14 => stw vw14 (a.add 6) [(Sl.v t11)] fun vw15 => ∃ (t15_Name : ByteArray) (t15_Version_Major : Int) (t15_Version_Minor : Int) (t15_Version_Patch : Int) (t15_Deps : Sl) (t15_Peers : Sl) (t15_Optional : Sl), (ldc vw15 a [(Value.string t15_Name), (Value.int .i64 t15_Version_Major), (Value.int .i64 t15_Version_Minor), (Value.int .i64 t15_Version_Patch), (Sl.v t15_Deps), (Sl.v t15_Peers), (Sl.v t15_Optional)]) ∧ stw vw15 a1 [(Value.string t15_Name), (Value.int .i64 t15_Version_Major), (Value.int .i64 t15_Version_Minor), (Value.int .i64 t15_Version_Patch), (Sl.v t15_Deps), (Sl.v t15_Peers), (Sl.v t15_Optional)] fun vw17 => ∃ (r_Name : ByteArray) (r_Version_Major : Int) (r_Version_Minor : Int) (r_Version_Patch : Int) (r_Deps : Sl) (r_Peers : Sl) (r_Optional : Sl), ldc vw17 a1 [(Value.string r_Name), (Value.int .i64 r_Version_Major), (Value.int .i64 r_Version_Minor), (Value.int .i64 r_Version_Patch), (Sl.v r_Deps), (Sl.v r_Peers), (Sl.v r_Optional)] ∧ R r_Name r_Version_Major r_Version_Minor r_Version_Patch r_Deps r_Peers r_Optional vw17
set_option maxHeartbeats 8000000 in
theorem catalog_copied.sound (p_Name : ByteArray) (p_Version_Major : Int) (p_Version_Minor : Int) (p_Version_Patch : Int) (p_Deps : Sl) (p_Peers : Sl) (p_Optional : Sl) (w : World) (R : ByteArray → Int → Int → Int → Sl → Sl → Sl → World → Prop) (h : catalog_copied p_Name p_Version_Major p_Version_Minor p_Version_Patch p_Deps p_Peers p_Optional w R) : callS Tryz.prog 62 [(Value.agg #[(Value.string p_Name), (Value.int .i64 p_Version_Major), (Value.int .i64 p_Version_Minor), (Value.int .i64 p_Version_Patch), (Sl.v p_Deps), (Sl.v p_Peers), (Sl.v p_Optional)])] w (fun v w' => ∃ (r0 : ByteArray) (r1 : Int) (r2 : Int) (r3 : Int) (r4 : Sl) (r5 : Sl) (r6 : Sl), v = (Value.agg #[(Value.string r0), (Value.int .i64 r1), (Value.int .i64 r2), (Value.int .i64 r3), (Sl.v r4), (Sl.v r5), (Sl.v r6)]) ∧ R r0 r1 r2 r3 r4 r5 r6 w') := by
  unfold catalog_copied at h
  refine calls_of_vc 16 rfl Tryz.func62 rfl (by kernel_rfl) (by simp) ?_
  refine Vc.seq ?_
  refine Vc.region ?_
  refine vcL_eff rfl (opVC_new rfl (fun a => Value.pointer (some a)) (by kernel_rfl) (newS.mono h fun a vw hx h => ?_)) 
  refine vcL_eff rfl (opVC_new rfl (fun a => Value.pointer (some a)) (by kernel_rfl) (newS.mono h fun a1 vw2 hx h => ?_)) 
  refine vcL_nil ?_
  refine Vc.seq ?_
  obtain ⟨vw3, hvw3⟩ : ∃ y, y = vw2.drew := ⟨_, rfl⟩
  have h := h vw3 hvw3
  refine Vc.draw (by kernel_rfl) (fun i => !(memN [8, 10, 12, 14] i)) (.pur 0 (.val 1 (.pur 3 (.val 4 (.pur 6 (.val 7 (.eff 2 (.pur 9 (.eff 5 (.eff 8 (.eff 10 (.pur 11 (.eff 12 (.pur 13 (.eff 14 .fin .stop)) .stop)) .stop) .stop) .stop)) .stop))))))) (by kernel_rfl) ?_
  rw [← hvw3]
  clear hvw3
  refine vcS_pure rfl rfl rfl (Value.pointer (some (a.add 4))) (fun w => by kernel_rfl) ?_
  obtain ⟨t4, hc, h⟩ := h
  refine vcS_val rfl rfl rfl (Sl.v t4) (fun w' hx => exec_load rfl (by kernel_rfl) (run_load1 (fun w => by kernel_rfl) ((hc).ext hx))) ?_
  refine vcS_pure rfl rfl rfl (Value.pointer (some (a.add 5))) (fun w => by kernel_rfl) ?_
  obtain ⟨t7, hc4, h⟩ := h
  refine vcS_val rfl rfl rfl (Sl.v t7) (fun w' hx => exec_load rfl (by kernel_rfl) (run_load1 (fun w => by kernel_rfl) ((hc4).ext hx))) ?_
  refine vcS_pure rfl rfl rfl (Value.pointer (some (a.add 6))) (fun w => by kernel_rfl) ?_
  obtain ⟨t10, hc5, h⟩ := h
  refine vcS_val rfl rfl rfl (Sl.v t10) (fun w' hx => exec_load rfl (by kernel_rfl) (run_load1 (fun w => by kernel_rfl) ((hc5).ext hx))) ?_
  refine vcS_eff rfl rfl (opVC_call rfl (by kernel_rfl) (callS.mono h fun v vw6 h => ?_)) vcS_stop
  obtain ⟨hx, h⟩ := h
  obtain ⟨t5, rfl, h⟩ := h
  refine ⟨fun _ => hx, ?_⟩
  refine vcS_pure rfl rfl rfl (Value.pointer (some (a.add 4))) (fun w => by kernel_rfl) ?_
  refine vcS_eff rfl rfl (opVC_call rfl (by kernel_rfl) (callS.mono h fun v8 vw7 h => ?_)) vcS_stop
  obtain ⟨hx9, h⟩ := h
  obtain ⟨t8, rfl, h⟩ := h
  refine ⟨fun _ => hx9, ?_⟩
  refine vcS_eff rfl rfl (opVC_call rfl (by kernel_rfl) (callS.mono h fun v11 vw10 h => ?_)) vcS_stop
  obtain ⟨t11, rfl, h⟩ := h
  refine ⟨fun hb => absurd hb (by decide), ?_⟩
  refine vcS_eff rfl rfl (opVC_store rfl rfl (a := (a.add 4)) (by kernel_rfl) (v := (Sl.v t5)) (by kernel_rfl) [(Sl.v t5)] (by kernel_rfl) (fun w => by kernel_rfl) (by kernel_rfl) (stw.mono h fun vw13 h => ?_)) vcS_stop
  refine ⟨fun hb => absurd hb (by decide), ?_⟩
  refine vcS_pure rfl rfl rfl (Value.pointer (some (a.add 5))) (fun w => by kernel_rfl) ?_
  refine vcS_eff rfl rfl (opVC_store rfl rfl (a := (a.add 5)) (by kernel_rfl) (v := (Sl.v t8)) (by kernel_rfl) [(Sl.v t8)] (by kernel_rfl) (fun w => by kernel_rfl) (by kernel_rfl) (stw.mono h fun vw14 h => ?_)) vcS_stop
  refine ⟨fun hb => absurd hb (by decide), ?_⟩
  refine vcS_pure rfl rfl rfl (Value.pointer (some (a.add 6))) (fun w => by kernel_rfl) ?_
  refine vcS_eff rfl rfl (opVC_store rfl rfl (a := (a.add 6)) (by kernel_rfl) (v := (Sl.v t11)) (by kernel_rfl) [(Sl.v t11)] (by kernel_rfl) (fun w => by kernel_rfl) (by kernel_rfl) (stw.mono h fun vw15 h => ?_)) vcS_stop
  refine ⟨fun hb => absurd hb (by decide), ?_⟩
  refine vcS_fin ?_
  refine Vc.seq ?_
  refine Vc.region ?_
  obtain ⟨t15_Name, t15_Version_Major, t15_Version_Minor, t15_Version_Patch, t15_Deps, t15_Peers, t15_Optional, hc16, h⟩ := h
  refine vcL_val rfl rfl (Value.agg #[(Value.string t15_Name), (Value.int .i64 t15_Version_Major), (Value.int .i64 t15_Version_Minor), (Value.int .i64 t15_Version_Patch), (Sl.v t15_Deps), (Sl.v t15_Peers), (Sl.v t15_Optional)]) (exec_load rfl (by kernel_rfl) (run_loadN (fun w => by kernel_rfl) (fun w => by kernel_rfl) ((hc16)))) ?_
  refine vcL_eff rfl (opVC_store rfl rfl (a := a1) (by kernel_rfl) (v := (Value.agg #[(Value.string t15_Name), (Value.int .i64 t15_Version_Major), (Value.int .i64 t15_Version_Minor), (Value.int .i64 t15_Version_Patch), (Sl.v t15_Deps), (Sl.v t15_Peers), (Sl.v t15_Optional)])) (by kernel_rfl) [(Value.string t15_Name), (Value.int .i64 t15_Version_Major), (Value.int .i64 t15_Version_Minor), (Value.int .i64 t15_Version_Patch), (Sl.v t15_Deps), (Sl.v t15_Peers), (Sl.v t15_Optional)] (by kernel_rfl) (fun w => by kernel_rfl) (by kernel_rfl) (stw.mono h fun vw17 h => ?_)) 
  refine vcL_nil ?_
  refine Vc.ret ?_
  refine outs_ret ?_
  obtain ⟨r_Name, r_Version_Major, r_Version_Minor, r_Version_Patch, r_Deps, r_Peers, r_Optional, hc18, h⟩ := h
  refine done_mk (Value.agg #[(Value.string r_Name), (Value.int .i64 r_Version_Major), (Value.int .i64 r_Version_Minor), (Value.int .i64 r_Version_Patch), (Sl.v r_Deps), (Sl.v r_Peers), (Sl.v r_Optional)]) (res1 (resC_cell (by kernel_rfl) (run_loadN (fun w => by kernel_rfl) (fun w => by kernel_rfl) hc18))) ?_
  exact ⟨r_Name, r_Version_Major, r_Version_Minor, r_Version_Patch, r_Deps, r_Peers, r_Optional, rfl, h⟩
theorem catalog_copied.go {p_Name : ByteArray} {p_Version_Major : Int} {p_Version_Minor : Int} {p_Version_Patch : Int} {p_Deps : Sl} {p_Peers : Sl} {p_Optional : Sl} {w : World} {k : Value → World → Prop} (h : catalog_copied p_Name p_Version_Major p_Version_Minor p_Version_Patch p_Deps p_Peers p_Optional w fun r0 r1 r2 r3 r4 r5 r6 w' => k (Value.agg #[(Value.string r0), (Value.int .i64 r1), (Value.int .i64 r2), (Value.int .i64 r3), (Sl.v r4), (Sl.v r5), (Sl.v r6)]) w') : callS Tryz.prog 62 [(Value.agg #[(Value.string p_Name), (Value.int .i64 p_Version_Major), (Value.int .i64 p_Version_Minor), (Value.int .i64 p_Version_Patch), (Sl.v p_Deps), (Sl.v p_Peers), (Sl.v p_Optional)])] w k := (catalog_copied.sound p_Name p_Version_Major p_Version_Minor p_Version_Patch p_Deps p_Peers p_Optional w _ h).mono (by rintro _ _ ⟨r0, r1, r2, r3, r4, r5, r6, rfl, h⟩; exact h)

/-- halyard/catalog.falling -/
def catalog_falling (a_Major : Int) (a_Minor : Int) (a_Patch : Int) (b_Major : Int) (b_Minor : Int) (b_Patch : Int) (w : World) (R : Int → World → Prop) : Prop :=
  newS w [(Value.int .i64 a_Major), (Value.int .i64 a_Minor), (Value.int .i64 a_Patch)] 30 fun a vw => newS vw [(Value.int .i64 b_Major), (Value.int .i64 b_Minor), (Value.int .i64 b_Patch)] 30 fun a1 vw2 => ∃ (t5_Major : Int) (t5_Minor : Int) (t5_Patch : Int), (ldc vw2 a1 [(Value.int .i64 t5_Major), (Value.int .i64 t5_Minor), (Value.int .i64 t5_Patch)]) ∧ ∃ (t6_Major : Int) (t6_Minor : Int) (t6_Patch : Int), (ldc vw2 a [(Value.int .i64 t6_Major), (Value.int .i64 t6_Minor), (Value.int .i64 t6_Patch)]) ∧ callS Tryz.prog 100 [(Value.agg #[(Value.int .i64 t5_Major), (Value.int .i64 t5_Minor), (Value.int .i64 t5_Patch)]), (Value.agg #[(Value.int .i64 t6_Major), (Value.int .i64 t6_Minor), (Value.int .i64 t6_Patch)])] vw2 fun v vw4 => ∃ (t7 : Int), v = (Value.int .i64 t7) ∧ R t7 vw4
set_option maxHeartbeats 8000000 in
theorem catalog_falling.sound (a_Major : Int) (a_Minor : Int) (a_Patch : Int) (b_Major : Int) (b_Minor : Int) (b_Patch : Int) (w : World) (R : Int → World → Prop) (h : catalog_falling a_Major a_Minor a_Patch b_Major b_Minor b_Patch w R) : callS Tryz.prog 65 [(Value.agg #[(Value.int .i64 a_Major), (Value.int .i64 a_Minor), (Value.int .i64 a_Patch)]), (Value.agg #[(Value.int .i64 b_Major), (Value.int .i64 b_Minor), (Value.int .i64 b_Patch)])] w (fun v w' => ∃ (r0 : Int), v = (Value.int .i64 r0) ∧ R r0 w') := by
  unfold catalog_falling at h
  refine calls_of_vc 8 rfl Tryz.func65 rfl (by kernel_rfl) (by simp) ?_
  refine Vc.seq ?_
  refine Vc.region ?_
  refine vcL_eff rfl (opVC_new rfl (fun a => Value.pointer (some a)) (by kernel_rfl) (newS.mono h fun a vw hx h => ?_)) 
  refine vcL_eff rfl (opVC_new rfl (fun a => Value.pointer (some a)) (by kernel_rfl) (newS.mono h fun a1 vw2 hx h => ?_)) 
  refine vcL_pure rfl rfl (Value.int .i64 0) (fun w => by kernel_rfl) ?_
  refine vcL_nil ?_
  refine Vc.seq ?_
  refine Vc.region ?_
  obtain ⟨t5_Major, t5_Minor, t5_Patch, hc, h⟩ := h
  refine vcL_val rfl rfl (Value.agg #[(Value.int .i64 t5_Major), (Value.int .i64 t5_Minor), (Value.int .i64 t5_Patch)]) (exec_load rfl (by kernel_rfl) (run_loadN (fun w => by kernel_rfl) (fun w => by kernel_rfl) ((hc)))) ?_
  obtain ⟨t6_Major, t6_Minor, t6_Patch, hc3, h⟩ := h
  refine vcL_val rfl rfl (Value.agg #[(Value.int .i64 t6_Major), (Value.int .i64 t6_Minor), (Value.int .i64 t6_Patch)]) (exec_load rfl (by kernel_rfl) (run_loadN (fun w => by kernel_rfl) (fun w => by kernel_rfl) ((hc3)))) ?_
  refine vcL_eff rfl (opVC_call rfl (by kernel_rfl) (callS.mono h fun v vw4 h => ?_)) 
  obtain ⟨t7, rfl, h⟩ := h
  refine vcL_pure rfl rfl (Value.int .i64 t7) (fun w => by kernel_rfl) ?_
  refine vcL_nil ?_
  refine Vc.ret ?_
  refine outs_ret ?_
  refine done_mk (Value.int .i64 t7) (res1 (resC_tmp (by kernel_rfl))) ?_
  exact ⟨t7, rfl, h⟩
theorem catalog_falling.go {a_Major : Int} {a_Minor : Int} {a_Patch : Int} {b_Major : Int} {b_Minor : Int} {b_Patch : Int} {w : World} {k : Value → World → Prop} (h : catalog_falling a_Major a_Minor a_Patch b_Major b_Minor b_Patch w fun r0 w' => k (Value.int .i64 r0) w') : callS Tryz.prog 65 [(Value.agg #[(Value.int .i64 a_Major), (Value.int .i64 a_Minor), (Value.int .i64 a_Patch)]), (Value.agg #[(Value.int .i64 b_Major), (Value.int .i64 b_Minor), (Value.int .i64 b_Patch)])] w k := (catalog_falling.sound a_Major a_Minor a_Patch b_Major b_Minor b_Patch w _ h).mono (by rintro _ _ ⟨r0, rfl, h⟩; exact h)

/-- slices.Clip[[]halyard/api.Version,halyard/api.Version] -/
def slices_Clip_apiVersionapiVersion (vs : Sl) (w : World) (R : Sl → World → Prop) : Prop :=
  ((0 : Int) ≤ 0 ∧ 0 ≤ (vs.len : Int) ∧ (vs.len : Int) ≤ (vs.len : Int) ∧ (vs.len : Int) ≤ (vs.cap : Int)) ∧ R (Sl.mk (if (vs.len : Int).toNat = 0 then vs.a else vs.a.map (·.add (0 * 3))) ((vs.len : Int).toNat - 0) ((vs.len : Int).toNat - 0)) w
set_option maxHeartbeats 8000000 in
theorem slices_Clip_apiVersionapiVersion.sound (vs : Sl) (w : World) (R : Sl → World → Prop) (h : slices_Clip_apiVersionapiVersion vs w R) : callS Tryz.prog 66 [(Sl.v vs)] w (fun v w' => ∃ (r0 : Sl), v = (Sl.v r0) ∧ R r0 w') := by
  unfold slices_Clip_apiVersionapiVersion at h
  refine calls_of_vc 9 rfl Tryz.func66 rfl (by kernel_rfl) (by simp) ?_
  refine Vc.seq ?_
  refine Vc.region ?_
  refine vcL_pure rfl rfl (Sl.v Sl.nil) (fun w => by kernel_rfl) ?_
  refine vcL_nil ?_
  refine Vc.seq ?_
  refine Vc.region ?_
  refine vcL_purs 5 [(7, (Value.int .i64 (vs.len : Int))), (6, (Sl.v vs)), (5, (Value.int .i64 (vs.len : Int))), (4, (Sl.v vs)), (3, (Sl.v vs))] (by kernel_rfl) ?_
  obtain ⟨hi, h⟩ := h
  refine vcL_pure rfl rfl (Sl.v (Sl.mk (if (vs.len : Int).toNat = 0 then vs.a else vs.a.map (·.add (0 * 3))) ((vs.len : Int).toNat - 0) ((vs.len : Int).toNat - 0))) (fun w => by exact exec_slSlHM (s := vs) (el := 30) (k2 := .i64) (k3 := .i64) rfl (by kernel_rfl) (by kernel_rfl) (by kernel_rfl) (by kernel_rfl) (fun w => by kernel_rfl) (hi) w) ?_
  refine vcL_pure rfl rfl (Sl.v (Sl.mk (if (vs.len : Int).toNat = 0 then vs.a else vs.a.map (·.add (0 * 3))) ((vs.len : Int).toNat - 0) ((vs.len : Int).toNat - 0))) (fun w => by kernel_rfl) ?_
  refine vcL_nil ?_
  refine Vc.ret ?_
  refine outs_ret ?_
  refine done_mk (Sl.v (Sl.mk (if (vs.len : Int).toNat = 0 then vs.a else vs.a.map (·.add (0 * 3))) ((vs.len : Int).toNat - 0) ((vs.len : Int).toNat - 0))) (res1 (resC_tmp (by kernel_rfl))) ?_
  exact ⟨(Sl.mk (if (vs.len : Int).toNat = 0 then vs.a else vs.a.map (·.add (0 * 3))) ((vs.len : Int).toNat - 0) ((vs.len : Int).toNat - 0)), rfl, h⟩
theorem slices_Clip_apiVersionapiVersion.go {vs : Sl} {w : World} {k : Value → World → Prop} (h : slices_Clip_apiVersionapiVersion vs w fun r0 w' => k (Sl.v r0) w') : callS Tryz.prog 66 [(Sl.v vs)] w k := (slices_Clip_apiVersionapiVersion.sound vs w _ h).mono (by rintro _ _ ⟨r0, rfl, h⟩; exact h)

/-- slices.DeleteFunc[[]halyard/api.Version,halyard/api.Version] -/
def slices_DeleteFunc_apiVersionapiVersion (vs : Sl) (del : Value) (w : World) (R : Sl → World → Prop) : Prop :=
  callS Tryz.prog 110 [(Sl.v vs), del] w fun v vw => ∃ (t10 : Int), v = (Value.int .i64 t10) ∧ ((t10 = (-1) → R vs vw) ∧ (¬ (t10 = (-1)) → loop2 t10 (wrapI (t10 + 1)) vw fun i vj vw1 nxt => ((vj < (vs.len : Int) → join (fun (i2 : Int) (vw3 : World) => nxt i2 (wrapI (vj + 1)) vw3) fun vJ => ∃ (ad : Addr), (vs.a = some ad ∧ (0 : Int) ≤ vj ∧ vj < (vs.len : Int)) ∧ ∃ (t25_Major : Int) (t25_Minor : Int) (t25_Patch : Int), (ldc vw1 (ad.add (vj.toNat * 3)) [(Value.int .i64 t25_Major), (Value.int .i64 t25_Minor), (Value.int .i64 t25_Patch)]) ∧ newS vw1 [(Value.int .i64 0), (Value.int .i64 0), (Value.int .i64 0)] 30 fun a vw4 => stw vw4 a [(Value.int .i64 t25_Major), (Value.int .i64 t25_Minor), (Value.int .i64 t25_Patch)] fun vw5 => ∃ (t27_Major : Int) (t27_Minor : Int) (t27_Patch : Int), (ldc vw5 a [(Value.int .i64 t27_Major), (Value.int .i64 t27_Minor), (Value.int .i64 t27_Patch)]) ∧ callV Tryz.prog del [(Value.agg #[(Value.int .i64 t27_Major), (Value.int .i64 t27_Minor), (Value.int .i64 t27_Patch)])] vw5 fun v8 vw7 => ∃ (t28 : Bool), v8 = (Value.bool t28) ∧ (((!t28) = true → ∃ (t32_Major : Int) (t32_Minor : Int) (t32_Patch : Int), (ldc vw7 a [(Value.int .i64 t32_Major), (Value.int .i64 t32_Minor), (Value.int .i64 t32_Patch)]) ∧ ∃ (ad11 : Addr), (vs.a = some ad11 ∧ (0 : Int) ≤ i ∧ i < (vs.len : Int)) ∧ stw vw7 (ad11.add (i.toNat * 3)) [(Value.int .i64 t32_Major), (Value.int .i64 t32_Minor), (Value.int .i64 t32_Patch)] fun vw13 => vJ (wrapI (i + 1)) vw13) ∧ ((!t28) = false → vJ i vw7))) ∧ (¬ (vj < (vs.len : Int)) → ((0 : Int) ≤ i ∧ i ≤ (vs.len : Int)) ∧ semS Tryz.prog (Builtin.clear_ #[60] 0 #[(Sl.v (Sl.cut vs i.toNat vs.len 3))]) vw1 fun v16 vw15 => ((0 : Int) ≤ i ∧ i ≤ (vs.cap : Int)) ∧ R (Sl.cut vs 0 i.toNat 3) vw15))))
set_option maxHeartbeats 8000000 in
theorem slices_DeleteFunc_apiVersionapiVersion.sound (vs : Sl) (del : Value) (w : World) (R : Sl → World → Prop) (h : slices_DeleteFunc_apiVersionapiVersion vs del w R) : callS Tryz.prog 67 [(Sl.v vs), del] w (fun v w' => ∃ (r0 : Sl), v = (Sl.v r0) ∧ R r0 w') := by
  unfold slices_DeleteFunc_apiVersionapiVersion at h
  refine calls_of_vc 42 rfl Tryz.func67 rfl (by kernel_rfl) (by simp) ?_
  refine Vc.seq ?_
  refine Vc.region ?_
  refine vcL_pure rfl rfl (Sl.v Sl.nil) (fun w => by kernel_rfl) ?_
  refine vcL_nil ?_
  refine Vc.seq ?_
  refine Vc.region ?_
  refine vcL_purs 2 [(9, del), (8, (Sl.v vs))] (by kernel_rfl) ?_
  refine vcL_eff rfl (opVC_call rfl (by kernel_rfl) (callS.mono h fun v vw h => ?_)) 
  obtain ⟨t10, rfl, h⟩ := h
  refine vcL_pure rfl rfl (Value.int .i64 t10) (fun w => by kernel_rfl) ?_
  refine vcL_nil ?_
  refine Vc.seq ?_
  refine Vc.seq ?_
  refine Vc.region ?_
  refine vcL_purs 2 [(12, (Value.bool (t10 == (-1)))), (11, (Value.int .i64 t10))] (by kernel_rfl) ?_
  refine vcL_nil ?_
  refine Vc.cond (t10 == (-1)) (by kernel_rfl) (fun hb => ?_) (fun hb => ?_)
  · have h := h.1 (eq_of_beq hb)
    refine Vc.seq ?_
    refine Vc.region ?_
    refine vcL_purs 2 [(4, (Sl.v vs)), (13, (Sl.v vs))] (by kernel_rfl) ?_
    refine vcL_nil ?_
    refine Vc.ret ?_
    refine outs_ret ?_
    refine done_mk (Sl.v vs) (res1 (resC_tmp (by kernel_rfl))) ?_
    exact ⟨vs, rfl, h⟩
  · have h := h.2 (ne_of_beq_false hb)
    refine Vc.skip ?_
    refine Vc.seq ?_
    refine Vc.seq ?_
    refine Vc.region ?_
    refine vcL_purs 3 [(6, (Value.int .i64 (wrapI (t10 + 1)))), (15, (Value.int .i64 (wrapI (t10 + 1)))), (14, (Value.int .i64 t10))] (by kernel_rfl) ?_
    refine vcL_nil ?_
    refine Vc.block ?_
    obtain ⟨vI, mu, h, hr⟩ := h
    refine Vc.loopJ (σ := Int × Int) [5, 6] [7, 16, 17, 18, 19, 20, 21, 22, 23, 24, 25, 26, 27, 28, 29, 30, 31, 32, 33, 34, 35] (fun s => [(5, (Value.int .i64 s.1)), (6, (Value.int .i64 s.2))]) (fun s w => vI s.1 s.2 w) (fun s w => mu s.1 s.2 w) (t10, (wrapI (t10 + 1))) h (fun _ => rfl) (by kernel_rfl) ?_
    rintro ⟨i, vj⟩ vw1 j h
    have h := hr i vj vw1 h
    refine Vc.seq ?_
    refine Vc.seq ?_
    refine Vc.region ?_
    refine vcL_purs 4 [(19, (Value.bool (decide (vj < (vs.len : Int))))), (18, (Value.int .i64 (vs.len : Int))), (17, (Sl.v vs)), (16, (Value.int .i64 vj))] (by kernel_rfl) ?_
    refine vcL_nil ?_
    refine Vc.cond (decide (vj < (vs.len : Int))) (by kernel_rfl) (fun hb => ?_) (fun hb => ?_)
    · have h := h.1 (of_decide_eq_true hb)
      refine Vc.skip ?_
      obtain ⟨vJ, hJ, h⟩ := join_elim h
      refine Vc.seqJ (σ := Int) [5] [7, 22, 23, 24, 25, 26, 27, 28, 29, 30, 31, 32, 33, 34, 35] (fun s => [(5, (Value.int .i64 s))]) (fun s w => vJ s w) (fun _ => rfl) ?_ ?_
      · refine Vc.block ?_
        refine Vc.seq ?_
        refine Vc.region ?_
        refine vcL_purs 2 [(23, (Value.int .i64 vj)), (22, (Sl.v vs))] (by kernel_rfl) ?_
        obtain ⟨ad, hi, h⟩ := h
        refine vcL_pure rfl rfl (Value.pointer (some (ad.add (vj.toNat * 3)))) (fun w => by exact exec_indexAt (s := vs) (el := 30) rfl (by kernel_rfl) (by kernel_rfl) (by kernel_rfl) (fun w => by kernel_rfl) (hi).1 (hi).2.1 (hi).2.2 w) ?_
        obtain ⟨t25_Major, t25_Minor, t25_Patch, hc, h⟩ := h
        refine vcL_val rfl rfl (Value.agg #[(Value.int .i64 t25_Major), (Value.int .i64 t25_Minor), (Value.int .i64 t25_Patch)]) (exec_load rfl (by kernel_rfl) (run_loadN (fun w => by kernel_rfl) (fun w => by kernel_rfl) ((hc)))) ?_
        refine vcL_eff rfl (opVC_new rfl (fun a => Value.pointer (some a)) (by kernel_rfl) (newS.mono h fun a vw4 hx h => ?_)) 
        refine vcL_eff rfl (opVC_store rfl rfl (a := a) (by kernel_rfl) (v := (Value.agg #[(Value.int .i64 t25_Major), (Value.int .i64 t25_Minor), (Value.int .i64 t25_Patch)])) (by kernel_rfl) [(Value.int .i64 t25_Major), (Value.int .i64 t25_Minor), (Value.int .i64 t25_Patch)] (by kernel_rfl) (fun w => by kernel_rfl) (by kernel_rfl) (stw.mono h fun vw5 h => ?_)) 
        refine vcL_nil ?_
        refine Vc.seq ?_
        refine Vc.region ?_
        refine vcL_pure rfl rfl del (fun w => by kernel_rfl) ?_
        obtain ⟨t27_Major, t27_Minor, t27_Patch, hc6, h⟩ := h
        refine vcL_val rfl rfl (Value.agg #[(Value.int .i64 t27_Major), (Value.int .i64 t27_Minor), (Value.int .i64 t27_Patch)]) (exec_load rfl (by kernel_rfl) (run_loadN (fun w => by kernel_rfl) (fun w => by kernel_rfl) ((hc6)))) ?_
        refine vcL_eff rfl (opVC_callV rfl rfl (fv := del) (by kernel_rfl) (args := [(Value.agg #[(Value.int .i64 t27_Major), (Value.int .i64 t27_Minor), (Value.int .i64 t27_Patch)])]) (by kernel_rfl) (callV.mono h fun v8 vw7 h => ?_)) 
        obtain ⟨t28, rfl, h⟩ := h
        refine vcL_pure rfl rfl (Value.bool (!t28)) (fun w => by kernel_rfl) ?_
        refine vcL_nil ?_
        refine Vc.cond (!t28) (by kernel_rfl) (fun hb => ?_) (fun hb => ?_)
        · have h := h.1 (hb)
          refine Vc.seq ?_
          refine Vc.region ?_
          refine vcL_purs 2 [(31, (Value.int .i64 i)), (30, (Sl.v vs))] (by kernel_rfl) ?_
          obtain ⟨t32_Major, t32_Minor, t32_Patch, hc10, h⟩ := h
          refine vcL_val rfl rfl (Value.agg #[(Value.int .i64 t32_Major), (Value.int .i64 t32_Minor), (Value.int .i64 t32_Patch)]) (exec_load rfl (by kernel_rfl) (run_loadN (fun w => by kernel_rfl) (fun w => by kernel_rfl) ((hc10)))) ?_
          obtain ⟨ad11, hi12, h⟩ := h
          refine vcL_pure rfl rfl (Value.pointer (some (ad11.add (i.toNat * 3)))) (fun w => by exact exec_indexAt (s := vs) (el := 30) rfl (by kernel_rfl) (by kernel_rfl) (by kernel_rfl) (fun w => by kernel_rfl) (hi12).1 (hi12).2.1 (hi12).2.2 w) ?_
          refine vcL_eff rfl (opVC_store rfl rfl (a := (ad11.add (i.toNat * 3))) (by kernel_rfl) (v := (Value.agg #[(Value.int .i64 t32_Major), (Value.int .i64 t32_Minor), (Value.int .i64 t32_Patch)])) (by kernel_rfl) [(Value.int .i64 t32_Major), (Value.int .i64 t32_Minor), (Value.int .i64 t32_Patch)] (by kernel_rfl) (fun w => by kernel_rfl) (by kernel_rfl) (stw.mono h fun vw13 h => ?_)) 
          refine vcL_nil ?_
          refine Vc.region ?_
          refine vcL_purs 3 [(5, (Value.int .i64 (wrapI (i + 1)))), (35, (Value.int .i64 (wrapI (i + 1)))), (34, (Value.int .i64 i))] (by kernel_rfl) ?_
          refine vcL_nil ?_
          exact ⟨(wrapI (i + 1)), 16, ⟨rfl, by kernel_rfl, by kernel_rfl, by kernel_rfl⟩, h⟩
        · have h := h.2 (hb)
          refine Vc.skip ?_
          exact ⟨i, 9, ⟨rfl, by kernel_rfl, by kernel_rfl, by kernel_rfl⟩, h⟩
      · intro i2 vw3 j h
        subst hJ
        refine Vc.region ?_
        refine vcL_purs 3 [(6, (Value.int .i64 (wrapI (vj + 1)))), (21, (Value.int .i64 (wrapI (vj + 1)))), (20, (Value.int .i64 vj))] (by kernel_rfl) ?_
        refine vcL_nil ?_
        exact ⟨(i2, (wrapI (vj + 1))), 46, ⟨rfl, by kernel_rfl, by kernel_rfl, by kernel_rfl⟩, h⟩
    · have h := h.2 (of_decide_eq_false hb)
      refine Vc.exit ?_
      refine outOf_hit ?_
      refine Vc.seq ?_
      refine Vc.region ?_
      refine vcL_purs 2 [(37, (Value.int .i64 i)), (36, (Sl.v vs))] (by kernel_rfl) ?_
      obtain ⟨hi14, h⟩ := h
      refine vcL_pure rfl rfl (Sl.v (Sl.cut vs i.toNat vs.len 3)) (fun w => by exact exec_slSlL (s := vs) (el := 30) (k1 := .i64) rfl (by kernel_rfl) (by kernel_rfl) (by kernel_rfl) (fun w => by kernel_rfl) (hi14) w) ?_
      refine vcL_eff rfl (opVC_sem0 rfl (c := Builtin.clear_ #[60] 0 #[(Sl.v (Sl.cut vs i.toNat vs.len 3))]) (by kernel_rfl) (semS.mono h fun v16 vw15 h => ?_)) 
      refine vcL_nil ?_
      refine Vc.seq ?_
      refine Vc.region ?_
      refine vcL_purs 2 [(40, (Value.int .i64 i)), (39, (Sl.v vs))] (by kernel_rfl) ?_
      obtain ⟨hi17, h⟩ := h
      refine vcL_pure rfl rfl (Sl.v (Sl.cut vs 0 i.toNat 3)) (fun w => by exact exec_slSlH (s := vs) (el := 30) (k2 := .i64) rfl (by kernel_rfl) (by kernel_rfl) (by kernel_rfl) (fun w => by kernel_rfl) (hi17) w) ?_
      refine vcL_pure rfl rfl (Sl.v (Sl.cut vs 0 i.toNat 3)) (fun w => by kernel_rfl) ?_
      refine vcL_nil ?_
      refine Vc.ret ?_
      refine outs_ret ?_
      refine done_mk (Sl.v (Sl.cut vs 0 i.toNat 3)) (res1 (resC_tmp (by kernel_rfl))) ?_
      exact ⟨(Sl.cut vs 0 i.toNat 3), rfl, h⟩
theorem slices_DeleteFunc_apiVersionapiVersion.go {vs : Sl} {del : Value} {w : World} {k : Value → World → Prop} (h : slices_DeleteFunc_apiVersionapiVersion vs del w fun r0 w' => k (Sl.v r0) w') : callS Tryz.prog 67 [(Sl.v vs), del] w k := (slices_DeleteFunc_apiVersionapiVersion.sound vs del w _ h).mono (by rintro _ _ ⟨r0, rfl, h⟩; exact h)

/-- (*halyard/catalog.Catalog).Candidates$1 -/
def catalog_Catalog_Candidates_1 (v_Major : Int) (v_Minor : Int) (v_Patch : Int) (c0 : Addr) (w : World) (R : Bool → World → Prop) : Prop :=
  newS w [(Value.int .i64 v_Major), (Value.int .i64 v_Minor), (Value.int .i64 v_Patch)] 30 fun a vw => ∃ (t4 : Sl), (ldc vw c0 [(Sl.v t4)]) ∧ ∃ (t5_Major : Int) (t5_Minor : Int) (t5_Patch : Int), (ldc vw a [(Value.int .i64 t5_Major), (Value.int .i64 t5_Minor), (Value.int .i64 t5_Patch)]) ∧ callS Tryz.prog 53 [(Sl.v t4), (Value.agg #[(Value.int .i64 t5_Major), (Value.int .i64 t5_Minor), (Value.int .i64 t5_Patch)])] vw fun v vw2 => ∃ (t6 : Bool), v = (Value.bool t6) ∧ R (!t6) vw2
set_option maxHeartbeats 8000000 in
theorem catalog_Catalog_Candidates_1.sound (v_Major : Int) (v_Minor : Int) (v_Patch : Int) (c0 : Addr) (w : World) (R : Bool → World → Prop) (h : catalog_Catalog_Candidates_1 v_Major v_Minor v_Patch c0 w R) : callS Tryz.prog 68 [(Value.agg #[(Value.int .i64 v_Major), (Value.int .i64 v_Minor), (Value.int .i64 v_Patch)]), (Value.pointer (some c0))] w (fun v w' => ∃ (r0 : Bool), v = (Value.bool r0) ∧ R r0 w') := by
  unfold catalog_Catalog_Candidates_1 at h
  refine calls_of_vc 8 rfl Tryz.func68 rfl (by kernel_rfl) (by simp) ?_
  refine Vc.seq ?_
  refine Vc.region ?_
  refine vcL_eff rfl (opVC_new rfl (fun a => Value.pointer (some a)) (by kernel_rfl) (newS.mono h fun a vw hx h => ?_)) 
  refine vcL_pure rfl rfl (Value.bool false) (fun w => by kernel_rfl) ?_
  refine vcL_nil ?_
  refine Vc.seq ?_
  refine Vc.region ?_
  obtain ⟨t4, hc, h⟩ := h
  refine vcL_val rfl rfl (Sl.v t4) (exec_load rfl (by kernel_rfl) (run_load1 (fun w => by kernel_rfl) ((hc)))) ?_
  obtain ⟨t5_Major, t5_Minor, t5_Patch, hc1, h⟩ := h
  refine vcL_val rfl rfl (Value.agg #[(Value.int .i64 t5_Major), (Value.int .i64 t5_Minor), (Value.int .i64 t5_Patch)]) (exec_load rfl (by kernel_rfl) (run_loadN (fun w => by kernel_rfl) (fun w => by kernel_rfl) ((hc1)))) ?_
  refine vcL_eff rfl (opVC_call rfl (by kernel_rfl) (callS.mono h fun v vw2 h => ?_)) 
  obtain ⟨t6, rfl, h⟩ := h
  refine vcL_purs 2 [(3, (Value.bool (!t6))), (7, (Value.bool (!t6)))] (by kernel_rfl) ?_
  refine vcL_nil ?_
  refine Vc.ret ?_
  refine outs_ret ?_
  refine done_mk (Value.bool (!t6)) (res1 (resC_tmp (by kernel_rfl))) ?_
  exact ⟨(!t6), rfl, h⟩
theorem catalog_Catalog_Candidates_1.go {v_Major : Int} {v_Minor : Int} {v_Patch : Int} {c0 : Addr} {w : World} {k : Value → World → Prop} (h : catalog_Catalog_Candidates_1 v_Major v_Minor v_Patch c0 w fun r0 w' => k (Value.bool r0) w') : callS Tryz.prog 68 [(Value.agg #[(Value.int .i64 v_Major), (Value.int .i64 v_Minor), (Value.int .i64 v_Patch)]), (Value.pointer (some c0))] w k := (catalog_Catalog_Candidates_1.sound v_Major v_Minor v_Patch c0 w _ h).mono (by rintro _ _ ⟨r0, rfl, h⟩; exact h)

/-- slices.SortStableFunc[[]halyard/api.Version,halyard/api.Version] -/
def slices_SortStableFunc_apiVersionapiVersion (x : Sl) (cmp : Value) (w : World) (R : World → Prop) : Prop :=
  callS Tryz.prog 111 [(Sl.v x), (Value.int .i64 (x.len : Int)), cmp] w fun v vw => v = (Value.tuple #[]) ∧ R vw
set_option maxHeartbeats 8000000 in
theorem slices_SortStableFunc_apiVersionapiVersion.sound (x : Sl) (cmp : Value) (w : World) (R : World → Prop) (h : slices_SortStableFunc_apiVersionapiVersion x cmp w R) : callS Tryz.prog 69 [(Sl.v x), cmp] w (fun v w' => v = (Value.tuple #[]) ∧ R w') := by
  unfold slices_SortStableFunc_apiVersionapiVersion at h
  refine calls_of_vc 9 rfl Tryz.func69 rfl (by kernel_rfl) (by simp) ?_
  refine Vc.region ?_
  refine vcL_purs 4 [(7, cmp), (6, (Value.int .i64 (x.len : Int))), (5, (Sl.v x)), (4, (Sl.v x))] (by kernel_rfl) ?_
  refine vcL_eff rfl (opVC_call rfl (by kernel_rfl) (callS.mono h fun v vw h => ?_)) 
  obtain ⟨rfl, h⟩ := h
  refine vcL_nil ?_
  refine done_mk (Value.tuple #[]) (res0 ) ?_
  exact ⟨rfl, h⟩
theorem slices_SortStableFunc_apiVersionapiVersion.go {x : Sl} {cmp : Value} {w : World} {k : Value → World → Prop} (h : slices_SortStableFunc_apiVersionapiVersion x cmp w fun  w' => k (Value.tuple #[]) w') : callS Tryz.prog 69 [(Sl.v x), cmp] w k := (slices_SortStableFunc_apiVersionapiVersion.sound x cmp w _ h).mono (by rintro _ _ ⟨rfl, h⟩; exact h)

/-- (*halyard/catalog.Catalog).Candidates$2 -/
def catalog_Catalog_Candidates_2 (a_Major : Int) (a_Minor : Int) (a_Patch : Int) (b_Major : Int) (b_Minor : Int) (b_Patch : Int) (c0 : Addr) (c1 : Addr) (w : World) (R : Int → World → Prop) : Prop :=
  newS w [(Value.int .i64 a_Major), (Value.int .i64 a_Minor), (Value.int .i64 a_Patch)] 30 fun a vw => newS vw [(Value.int .i64 b_Major), (Value.int .i64 b_Minor), (Value.int .i64 b_Patch)] 30 fun a1 vw2 => bnd vw2.drew fun (vw3 : World) => ∃ (t7 : Sl), (ldc vw3 c0 [(Sl.v t7)]) ∧ ∃ (t8 : ByteArray), (ldc vw3 c1 [(Value.string t8)]) ∧ ∃ (t9_Major : Int) (t9_Minor : Int) (t9_Patch : Int), (ldc vw3 a1 [(Value.int .i64 t9_Major), (Value.int .i64 t9_Minor), (Value.int .i64 t9_Patch)]) ∧ ∃ (t13 : Sl), (ldc vw3 c0 [(Sl.v t13)]) ∧ ∃ (t14 : ByteArray), (ldc vw3 c1 [(Value.string t14)]) ∧ ∃ (t15_Major : Int) (t15_Minor : Int) (t15_Patch : Int), (ldc vw3 a [(Value.int .i64 t15_Major), (Value.int .i64 t15_Minor), (Value.int .i64 t15_Patch)]) ∧ callX Tryz.prog 72 [(Sl.v t7), (Value.agg #[(Value.string t8), (Value.int .i64 t9_Major), (Value.int .i64 t9_Minor), (Value.int .i64 t9_Patch)])] vw3 fun v vw9 => ∃ (t11 : Bool), v = (Value.bool t11) ∧ callX Tryz.prog 71 [(Value.bool t11)] vw9 fun v11 vw10 => ∃ (t12 : Int), v11 = (Value.int .i64 t12) ∧ callS Tryz.prog 72 [(Sl.v t13), (Value.agg #[(Value.string t14), (Value.int .i64 t15_Major), (Value.int .i64 t15_Minor), (Value.int .i64 t15_Patch)])] vw10 fun v14 vw13 => ∃ (t17 : Bool), v14 = (Value.bool t17) ∧ callS Tryz.prog 71 [(Value.bool t17)] vw13 fun v17 vw16 => ∃ (t18 : Int), v17 = (Value.int .i64 t18) ∧ R (wrapI (t12 - t18)) vw16
set_option maxHeartbeats 8000000 in
theorem catalog_Catalog_Candidates_2.sound (a_Major : Int) (a_Minor : Int) (a_Patch : Int) (b_Major : Int) (b_Minor : Int) (b_Patch : Int) (c0 : Addr) (c1 : Addr) (w : World) (R : Int → World → Prop) (h : catalog_Catalog_Candidates_2 a_Major a_Minor a_Patch b_Major b_Minor b_Patch c0 c1 w R) : callS Tryz.prog 70 [(Value.agg #[(Value.int .i64 a_Major), (Value.int .i64 a_Minor), (Value.int .i64 a_Patch)]), (Value.agg #[(Value.int .i64 b_Major), (Value.int .i64 b_Minor), (Value.int .i64 b_Patch)]), (Value.pointer (some c0)), (Value.pointer (some c1))] w (fun v w' => ∃ (r0 : Int), v = (Value.int .i64 r0) ∧ R r0 w') := by
  unfold catalog_Catalog_Candidates_2 at h
  refine calls_of_vc 20 rfl Tryz.func70 rfl (by kernel_rfl) (by simp) ?_
  refine Vc.seq ?_
  refine Vc.region ?_
  refine vcL_eff rfl (opVC_new rfl (fun a => Value.pointer (some a)) (by kernel_rfl) (newS.mono h fun a vw hx h => ?_)) 
  refine vcL_eff rfl (opVC_new rfl (fun a => Value.pointer (some a)) (by kernel_rfl) (newS.mono h fun a1 vw2 hx h => ?_)) 
  refine vcL_pure rfl rfl (Value.int .i64 0) (fun w => by kernel_rfl) ?_
  refine vcL_nil ?_
  refine Vc.seq ?_
  obtain ⟨vw3, hvw3⟩ : ∃ y, y = vw2.drew := ⟨_, rfl⟩
  have h := h vw3 hvw3
  refine Vc.draw (by kernel_rfl) (fun i => !(memN [10, 11] i)) (.val 0 (.val 1 (.val 2 (.pur 3 (.val 6 (.val 7 (.val 8 (.pur 9 (.eff 4 (.eff 5 (.eff 10 (.eff 11 (.pur 12 (.pur 13 .fin)) .stop) .stop) .stop) .stop))))))))) (by kernel_rfl) ?_
  rw [← hvw3]
  clear hvw3
  obtain ⟨t7, hc, h⟩ := h
  refine vcS_val rfl rfl rfl (Sl.v t7) (fun w' hx => exec_load rfl (by kernel_rfl) (run_load1 (fun w => by kernel_rfl) ((hc).ext hx))) ?_
  obtain ⟨t8, hc4, h⟩ := h
  refine vcS_val rfl rfl rfl (Value.string t8) (fun w' hx => exec_load rfl (by kernel_rfl) (run_load1 (fun w => by kernel_rfl) ((hc4).ext hx))) ?_
  obtain ⟨t9_Major, t9_Minor, t9_Patch, hc5, h⟩ := h
  refine vcS_val rfl rfl rfl (Value.agg #[(Value.int .i64 t9_Major), (Value.int .i64 t9_Minor), (Value.int .i64 t9_Patch)]) (fun w' hx => exec_load rfl (by kernel_rfl) (run_loadN (fun w => by kernel_rfl) (fun w => by kernel_rfl) ((hc5).ext hx))) ?_
  refine vcS_pure rfl rfl rfl (Value.agg #[(Value.string t8), (Value.int .i64 t9_Major), (Value.int .i64 t9_Minor), (Value.int .i64 t9_Patch)]) (fun w => by kernel_rfl) ?_
  obtain ⟨t13, hc6, h⟩ := h
  refine vcS_val rfl rfl rfl (Sl.v t13) (fun w' hx => exec_load rfl (by kernel_rfl) (run_load1 (fun w => by kernel_rfl) ((hc6).ext hx))) ?_
  obtain ⟨t14, hc7, h⟩ := h
  refine vcS_val rfl rfl rfl (Value.string t14) (fun w' hx => exec_load rfl (by kernel_rfl) (run_load1 (fun w => by kernel_rfl) ((hc7).ext hx))) ?_
  obtain ⟨t15_Major, t15_Minor, t15_Patch, hc8, h⟩ := h
  refine vcS_val rfl rfl rfl (Value.agg #[(Value.int .i64 t15_Major), (Value.int .i64 t15_Minor), (Value.int .i64 t15_Patch)]) (fun w' hx => exec_load rfl (by kernel_rfl) (run_loadN (fun w => by kernel_rfl) (fun w => by kernel_rfl) ((hc8).ext hx))) ?_
  refine vcS_pure rfl rfl rfl (Value.agg #[(Value.string t14), (Value.int .i64 t15_Major), (Value.int .i64 t15_Minor), (Value.int .i64 t15_Patch)]) (fun w => by kernel_rfl) ?_
  refine vcS_eff rfl rfl (opVC_call rfl (by kernel_rfl) (callS.mono h fun v vw9 h => ?_)) vcS_stop
  obtain ⟨hx, h⟩ := h
  obtain ⟨t11, rfl, h⟩ := h
  refine ⟨fun _ => hx, ?_⟩
  refine vcS_eff rfl rfl (opVC_call rfl (by kernel_rfl) (callS.mono h fun v11 vw10 h => ?_)) vcS_stop
  obtain ⟨hx12, h⟩ := h
  obtain ⟨t12, rfl, h⟩ := h
  refine ⟨fun _ => hx12, ?_⟩
  refine vcS_eff rfl rfl (opVC_call rfl (by kernel_rfl) (callS.mono h fun v14 vw13 h => ?_)) vcS_stop
  obtain ⟨t17, rfl, h⟩ := h
  refine ⟨fun hb => absurd hb (by decide), ?_⟩
  refine vcS_eff rfl rfl (opVC_call rfl (by kernel_rfl) (callS.mono h fun v17 vw16 h => ?_)) vcS_stop
  obtain ⟨t18, rfl, h⟩ := h
  refine ⟨fun hb => absurd hb (by decide), ?_⟩
  refine vcS_pure rfl rfl rfl (Value.int .i64 (wrapI (t12 - t18))) (fun w => by kernel_rfl) ?_
  refine vcS_pure rfl rfl rfl (Value.int .i64 (wrapI (t12 - t18))) (fun w => by kernel_rfl) ?_
  refine vcS_fin ?_
  refine Vc.ret ?_
  refine outs_ret ?_
  refine done_mk (Value.int .i64 (wrapI (t12 - t18))) (res1 (resC_tmp (by kernel_rfl))) ?_
  exact ⟨(wrapI (t12 - t18)), rfl, h⟩
theorem catalog_Catalog_Candidates_2.go {a_Major : Int} {a_Minor : Int} {a_Patch : Int} {b_Major : Int} {b_Minor : Int} {b_Patch : Int} {c0 : Addr} {c1 : Addr} {w : World} {k : Value → World → Prop} (h : catalog_Catalog_Candidates_2 a_Major a_Minor a_Patch b_Major b_Minor b_Patch c0 c1 w fun r0 w' => k (Value.int .i64 r0) w') : callS Tryz.prog 70 [(Value.agg #[(Value.int .i64 a_Major), (Value.int .i64 a_Minor), (Value.int .i64 a_Patch)]), (Value.agg #[(Value.int .i64 b_Major), (Value.int .i64 b_Minor), (Value.int .i64 b_Patch)]), (Value.pointer (some c0)), (Value.pointer (some c1))] w k := (catalog_Catalog_Candidates_2.sound a_Major a_Minor a_Patch b_Major b_Minor b_Patch c0 c1 w _ h).mono (by rintro _ _ ⟨r0, rfl, h⟩; exact h)

/-- halyard/catalog.order -/
def catalog_order (is : Bool) (w : World) (R : Int → World → Prop) : Prop :=
  ((is = true → R 1 w) ∧ (is = false → R 0 w))
set_option maxHeartbeats 8000000 in
theorem catalog_order.sound (is : Bool) (w : World) (R : Int → World → Prop) (h : catalog_order is w R) : callS Tryz.prog 71 [(Value.bool is)] w (fun v w' => ∃ (r0 : Int), v = (Value.int .i64 r0) ∧ R r0 w') := by
  unfold catalog_order at h
  refine calls_of_vc 4 rfl Tryz.func71 rfl (by kernel_rfl) (by simp) ?_
  refine Vc.seq ?_
  refine Vc.region ?_
  refine vcL_pure rfl rfl (Value.int .i64 0) (fun w => by kernel_rfl) ?_
  refine vcL_nil ?_
  refine Vc.seq ?_
  refine Vc.seq ?_
  refine Vc.region ?_
  refine vcL_pure rfl rfl (Value.bool is) (fun w => by kernel_rfl) ?_
  refine vcL_nil ?_
  refine Vc.cond is (by kernel_rfl) (fun hb => ?_) (fun hb => ?_)
  · have h := h.1 (hb)
    refine Vc.seq ?_
    refine Vc.region ?_
    refine vcL_pure rfl rfl (Value.int .i64 1) (fun w => by kernel_rfl) ?_
    refine vcL_nil ?_
    refine Vc.ret ?_
    refine outs_ret ?_
    refine done_mk (Value.int .i64 1) (res1 (resC_tmp (by kernel_rfl))) ?_
    exact ⟨1, rfl, h⟩
  · have h := h.2 (hb)
    refine Vc.skip ?_
    refine Vc.seq ?_
    refine Vc.region ?_
    refine vcL_pure rfl rfl (Value.int .i64 0) (fun w => by kernel_rfl) ?_
    refine vcL_nil ?_
    refine Vc.ret ?_
    refine outs_ret ?_
    refine done_mk (Value.int .i64 0) (res1 (resC_tmp (by kernel_rfl))) ?_
    exact ⟨0, rfl, h⟩
theorem catalog_order.go {is : Bool} {w : World} {k : Value → World → Prop} (h : catalog_order is w fun r0 w' => k (Value.int .i64 r0) w') : callS Tryz.prog 71 [(Value.bool is)] w k := (catalog_order.sound is w _ h).mono (by rintro _ _ ⟨r0, rfl, h⟩; exact h)

/-- slices.Contains[[]halyard/api.Pin,halyard/api.Pin] -/
def slices_Contains_apiPinapiPin (vs : Sl) (v_Name : ByteArray) (v_Version_Major : Int) (v_Version_Minor : Int) (v_Version_Patch : Int) (w : World) (R : Bool → World → Prop) : Prop :=
  newS w [(Value.string v_Name), (Value.int .i64 v_Version_Major), (Value.int .i64 v_Version_Minor), (Value.int .i64 v_Version_Patch)] 32 fun a vw => ∃ (t6_Name : ByteArray) (t6_Version_Major : Int) (t6_Version_Minor : Int) (t6_Version_Patch : Int), (ldc vw a [(Value.string t6_Name), (Value.int .i64 t6_Version_Major), (Value.int .i64 t6_Version_Minor), (Value.int .i64 t6_Version_Patch)]) ∧ callS Tryz.prog 112 [(Sl.v vs), (Value.agg #[(Value.string t6_Name), (Value.int .i64 t6_Version_Major), (Value.int .i64 t6_Version_Minor), (Value.int .i64 t6_Version_Patch)])] vw fun v vw1 => ∃ (t7 : Int), v = (Value.int .i64 t7) ∧ R (decide (0 ≤ t7)) vw1
set_option maxHeartbeats 8000000 in
theorem slices_Contains_apiPinapiPin.sound (vs : Sl) (v_Name : ByteArray) (v_Version_Major : Int) (v_Version_Minor : Int) (v_Version_Patch : Int) (w : World) (R : Bool → World → Prop) (h : slices_Contains_apiPinapiPin vs v_Name v_Version_Major v_Version_Minor v_Version_Patch w R) : callS Tryz.prog 72 [(Sl.v vs), (Value.agg #[(Value.string v_Name), (Value.int .i64 v_Version_Major), (Value.int .i64 v_Version_Minor), (Value.int .i64 v_Version_Patch)])] w (fun v w' => ∃ (r0 : Bool), v = (Value.bool r0) ∧ R r0 w') := by
  unfold slices_Contains_apiPinapiPin at h
  refine calls_of_vc 9 rfl Tryz.func72 rfl (by kernel_rfl) (by simp) ?_
  refine Vc.seq ?_
  refine Vc.region ?_
  refine vcL_eff rfl (opVC_new rfl (fun a => Value.pointer (some a)) (by kernel_rfl) (newS.mono h fun a vw hx h => ?_)) 
  refine vcL_pure rfl rfl (Value.bool false) (fun w => by kernel_rfl) ?_
  refine vcL_nil ?_
  refine Vc.seq ?_
  refine Vc.region ?_
  refine vcL_pure rfl rfl (Sl.v vs) (fun w => by kernel_rfl) ?_
  obtain ⟨t6_Name, t6_Version_Major, t6_Version_Minor, t6_Version_Patch, hc, h⟩ := h
  refine vcL_val rfl rfl (Value.agg #[(Value.string t6_Name), (Value.int .i64 t6_Version_Major), (Value.int .i64 t6_Version_Minor), (Value.int .i64 t6_Version_Patch)]) (exec_load rfl (by kernel_rfl) (run_loadN (fun w => by kernel_rfl) (fun w => by kernel_rfl) ((hc)))) ?_
  refine vcL_eff rfl (opVC_call rfl (by kernel_rfl) (callS.mono h fun v vw1 h => ?_)) 
  obtain ⟨t7, rfl, h⟩ := h
  refine vcL_purs 2 [(4, (Value.bool (decide (0 ≤ t7)))), (8, (Value.bool (decide (0 ≤ t7))))] (by kernel_rfl) ?_
  refine vcL_nil ?_
  refine Vc.ret ?_
  refine outs_ret ?_
  refine done_mk (Value.bool (decide (0 ≤ t7))) (res1 (resC_tmp (by kernel_rfl))) ?_
  exact ⟨(decide (0 ≤ t7)), rfl, h⟩
theorem slices_Contains_apiPinapiPin.go {vs : Sl} {v_Name : ByteArray} {v_Version_Major : Int} {v_Version_Minor : Int} {v_Version_Patch : Int} {w : World} {k : Value → World → Prop} (h : slices_Contains_apiPinapiPin vs v_Name v_Version_Major v_Version_Minor v_Version_Patch w fun r0 w' => k (Value.bool r0) w') : callS Tryz.prog 72 [(Sl.v vs), (Value.agg #[(Value.string v_Name), (Value.int .i64 v_Version_Major), (Value.int .i64 v_Version_Minor), (Value.int .i64 v_Version_Patch)])] w k := (slices_Contains_apiPinapiPin.sound vs v_Name v_Version_Major v_Version_Minor v_Version_Patch w _ h).mono (by rintro _ _ ⟨r0, rfl, h⟩; exact h)

/-- (*halyard/catalog.Catalog).All$1 -/
def catalog_Catalog_All_1 (a_Name : ByteArray) (a_Version_Major : Int) (a_Version_Minor : Int) (a_Version_Patch : Int) (a_Deps : Sl) (a_Peers : Sl) (a_Optional : Sl) (b_Name : ByteArray) (b_Version_Major : Int) (b_Version_Minor : Int) (b_Version_Patch : Int) (b_Deps : Sl) (b_Peers : Sl) (b_Optional : Sl) (w : World) (R : Int → World → Prop) : Prop :=
  newS w [(Value.string a_Name), (Value.int .i64 a_Version_Major), (Value.int .i64 a_Version_Minor), (Value.int .i64 a_Version_Patch), (Sl.v a_Deps), (Sl.v a_Peers), (Sl.v a_Optional)] 48 fun a vw => newS vw [(Value.string b_Name), (Value.int .i64 b_Version_Major), (Value.int .i64 b_Version_Minor), (Value.int .i64 b_Version_Patch), (Sl.v b_Deps), (Sl.v b_Peers), (Sl.v b_Optional)] 48 fun a1 vw2 => bnd vw2.drew fun (vw3 : World) => ∃ (t6 : ByteArray), (ldc vw3 a [(Value.string t6)]) ∧ ∃ (t8 : ByteArray), (ldc vw3 a1 [(Value.string t8)]) ∧ ∃ (t11_Major : Int) (t11_Minor : Int) (t11_Patch : Int), (ldc vw3 (a.add 1) [(Value.int .i64 t11_Major), (Value.int .i64 t11_Minor), (Value.int .i64 t11_Patch)]) ∧ ∃ (t13_Major : Int) (t13_Minor : Int) (t13_Patch : Int), (ldc vw3 (a1.add 1) [(Value.int .i64 t13_Major), (Value.int .i64 t13_Minor), (Value.int .i64 t13_Patch)]) ∧ callX Tryz.prog 77 [(Value.string t6), (Value.string t8)] vw3 fun v vw7 => ∃ (t9 : Int), v = (Value.int .i64 t9) ∧ callS Tryz.prog 65 [(Value.agg #[(Value.int .i64 t11_Major), (Value.int .i64 t11_Minor), (Value.int .i64 t11_Patch)]), (Value.agg #[(Value.int .i64 t13_Major), (Value.int .i64 t13_Minor), (Value.int .i64 t13_Patch)])] vw7 fun v9 vw8 => ∃ (t14 : Int), v9 = (Value.int .i64 t14) ∧ newS vw8 [(Value.int .i64 t9), (Value.int .i64 t14)] 3 fun a11 vw12 => callS Tryz.prog 76 [(Sl.v (Sl.mk (some a11) 2 2))] vw12 fun v14 vw13 => ∃ (t16 : Int), v14 = (Value.int .i64 t16) ∧ R t16 vw13
set_option maxHeartbeats 8000000 in
theorem catalog_Catalog_All_1.sound (a_Name : ByteArray) (a_Version_Major : Int) (a_Version_Minor : Int) (a_Version_Patch : Int) (a_Deps : Sl) (a_Peers : Sl) (a_Optional : Sl) (b_Name : ByteArray) (b_Version_Major : Int) (b_Version_Minor : Int) (b_Version_Patch : Int) (b_Deps : Sl) (b_Peers : Sl) (b_Optional : Sl) (w : World) (R : Int → World → Prop) (h : catalog_Catalog_All_1 a_Name a_Version_Major a_Version_Minor a_Version_Patch a_Deps a_Peers a_Optional b_Name b_Version_Major b_Version_Minor b_Version_Patch b_Deps b_Peers b_Optional w R) : callS Tryz.prog 75 [(Value.agg #[(Value.string a_Name), (Value.int .i64 a_Version_Major), (Value.int .i64 a_Version_Minor), (Value.int .i64 a_Version_Patch), (Sl.v a_Deps), (Sl.v a_Peers), (Sl.v a_Optional)]), (Value.agg #[(Value.string b_Name), (Value.int .i64 b_Version_Major), (Value.int .i64 b_Version_Minor), (Value.int .i64 b_Version_Patch), (Sl.v b_Deps), (Sl.v b_Peers), (Sl.v b_Optional)])] w (fun v w' => ∃ (r0 : Int), v = (Value.int .i64 r0) ∧ R r0 w') := by
  unfold catalog_Catalog_All_1 at h
  refine calls_of_vc 17 rfl Tryz.func75 rfl (by kernel_rfl) (by simp) ?_
  refine Vc.seq ?_
  refine Vc.region ?_
  refine vcL_eff rfl (opVC_new rfl (fun a => Value.pointer (some a)) (by kernel_rfl) (newS.mono h fun a vw hx h => ?_)) 
  refine vcL_eff rfl (opVC_new rfl (fun a => Value.pointer (some a)) (by kernel_rfl) (newS.mono h fun a1 vw2 hx h => ?_)) 
  refine vcL_pure rfl rfl (Value.int .i64 0) (fun w => by kernel_rfl) ?_
  refine vcL_nil ?_
  refine Vc.seq ?_
  obtain ⟨vw3, hvw3⟩ : ∃ y, y = vw2.drew := ⟨_, rfl⟩
  have h := h vw3 hvw3
  refine Vc.draw (by kernel_rfl) (fun i => !(memN [9, 10, 11] i)) (.pur 0 (.val 1 (.pur 2 (.val 3 (.pur 5 (.val 6 (.pur 7 (.val 8 (.eff 4 (.eff 9 (.eff 10 (.eff 11 (.pur 12 .fin) .stop) .stop) .stop) .stop))))))))) (by kernel_rfl) ?_
  rw [← hvw3]
  clear hvw3
  refine vcS_pure rfl rfl rfl (Value.pointer (some a)) (fun w => by kernel_rfl) ?_
  obtain ⟨t6, hc, h⟩ := h
  refine vcS_val rfl rfl rfl (Value.string t6) (fun w' hx => exec_load rfl (by kernel_rfl) (run_load1 (fun w => by kernel_rfl) ((hc).ext hx))) ?_
  refine vcS_pure rfl rfl rfl (Value.pointer (some a1)) (fun w => by kernel_rfl) ?_
  obtain ⟨t8, hc4, h⟩ := h
  refine vcS_val rfl rfl rfl (Value.string t8) (fun w' hx => exec_load rfl (by kernel_rfl) (run_load1 (fun w => by kernel_rfl) ((hc4).ext hx))) ?_
  refine vcS_pure rfl rfl rfl (Value.pointer (some (a.add 1))) (fun w => by kernel_rfl) ?_
  obtain ⟨t11_Major, t11_Minor, t11_Patch, hc5, h⟩ := h
  refine vcS_val rfl rfl rfl (Value.agg #[(Value.int .i64 t11_Major), (Value.int .i64 t11_Minor), (Value.int .i64 t11_Patch)]) (fun w' hx => exec_load rfl (by kernel_rfl) (run_loadN (fun w => by kernel_rfl) (fun w => by kernel_rfl) ((hc5).ext hx))) ?_
  refine vcS_pure rfl rfl rfl (Value.pointer (some (a1.add 1))) (fun w => by kernel_rfl) ?_
  obtain ⟨t13_Major, t13_Minor, t13_Patch, hc6, h⟩ := h
  refine vcS_val rfl rfl rfl (Value.agg #[(Value.int .i64 t13_Major), (Value.int .i64 t13_Minor), (Value.int .i64 t13_Patch)]) (fun w' hx => exec_load rfl (by kernel_rfl) (run_loadN (fun w => by kernel_rfl) (fun w => by kernel_rfl) ((hc6).ext hx))) ?_
  refine vcS_eff rfl rfl (opVC_call rfl (by kernel_rfl) (callS.mono h fun v vw7 h => ?_)) vcS_stop
  obtain ⟨hx, h⟩ := h
  obtain ⟨t9, rfl, h⟩ := h
  refine ⟨fun _ => hx, ?_⟩
  refine vcS_eff rfl rfl (opVC_call rfl (by kernel_rfl) (callS.mono h fun v9 vw8 h => ?_)) vcS_stop
  obtain ⟨t14, rfl, h⟩ := h
  refine ⟨fun hb => absurd hb (by decide), ?_⟩
  refine vcS_eff rfl rfl (opVC_new rfl (fun a => Value.slice (some a) 2 2) (by kernel_rfl) (newS.mono h fun a11 vw12 hx h => ?_)) vcS_stop
  refine ⟨fun hb => absurd hb (by decide), ?_⟩
  refine vcS_eff rfl rfl (opVC_call rfl (by kernel_rfl) (callS.mono h fun v14 vw13 h => ?_)) vcS_stop
  obtain ⟨t16, rfl, h⟩ := h
  refine ⟨fun hb => absurd hb (by decide), ?_⟩
  refine vcS_pure rfl rfl rfl (Value.int .i64 t16) (fun w => by kernel_rfl) ?_
  refine vcS_fin ?_
  refine Vc.ret ?_
  refine outs_ret ?_
  refine done_mk (Value.int .i64 t16) (res1 (resC_tmp (by kernel_rfl))) ?_
  exact ⟨t16, rfl, h⟩
theorem catalog_Catalog_All_1.go {a_Name : ByteArray} {a_Version_Major : Int} {a_Version_Minor : Int} {a_Version_Patch : Int} {a_Deps : Sl} {a_Peers : Sl} {a_Optional : Sl} {b_Name : ByteArray} {b_Version_Major : Int} {b_Version_Minor : Int} {b_Version_Patch : Int} {b_Deps : Sl} {b_Peers : Sl} {b_Optional : Sl} {w : World} {k : Value → World → Prop} (h : catalog_Catalog_All_1 a_Name a_Version_Major a_Version_Minor a_Version_Patch a_Deps a_Peers a_Optional b_Name b_Version_Major b_Version_Minor b_Version_Patch b_Deps b_Peers b_Optional w fun r0 w' => k (Value.int .i64 r0) w') : callS Tryz.prog 75 [(Value.agg #[(Value.string a_Name), (Value.int .i64 a_Version_Major), (Value.int .i64 a_Version_Minor), (Value.int .i64 a_Version_Patch), (Sl.v a_Deps), (Sl.v a_Peers), (Sl.v a_Optional)]), (Value.agg #[(Value.string b_Name), (Value.int .i64 b_Version_Major), (Value.int .i64 b_Version_Minor), (Value.int .i64 b_Version_Patch), (Sl.v b_Deps), (Sl.v b_Peers), (Sl.v b_Optional)])] w k := (catalog_Catalog_All_1.sound a_Name a_Version_Major a_Version_Minor a_Version_Patch a_Deps a_Peers a_Optional b_Name b_Version_Major b_Version_Minor b_Version_Patch b_Deps b_Peers b_Optional w _ h).mono (by rintro _ _ ⟨r0, rfl, h⟩; exact h)

/-- cmp.Or[int] -/
def cmp_Or_int (vals : Sl) (w : World) (R : Int → World → Prop) : Prop :=
  loop1 0 w fun t8 vw nxt => ((t8 < (vals.len : Int) → ∃ (ad : Addr), (vals.a = some ad ∧ (0 : Int) ≤ t8 ∧ t8 < (vals.len : Int)) ∧ ∃ (t11 : Int), (ldc vw (ad.add (t8.toNat * 1)) [(Value.int .i64 t11)]) ∧ ((¬ t11 = 0 → R t11 vw) ∧ (¬ (¬ t11 = 0) → nxt (wrapI (t8 + 1)) vw))) ∧ (¬ (t8 < (vals.len : Int)) → R 0 vw))
set_option maxHeartbeats 8000000 in
theorem cmp_Or_int.sound (vals : Sl) (w : World) (R : Int → World → Prop) (h : cmp_Or_int vals w R) : callS Tryz.prog 76 [(Sl.v vals)] w (fun v w' => ∃ (r0 : Int), v = (Value.int .i64 r0) ∧ R r0 w') := by
  unfold cmp_Or_int at h
  refine calls_of_vc 18 rfl Tryz.func76 rfl (by kernel_rfl) (by simp) ?_
  refine Vc.seq ?_
  refine Vc.region ?_
  refine vcL_pure rfl rfl (Value.int .i64 0) (fun w => by kernel_rfl) ?_
  refine vcL_nil ?_
  refine Vc.seq ?_
  refine Vc.region ?_
  refine vcL_pure rfl rfl (Value.int .i64 0) (fun w => by kernel_rfl) ?_
  refine vcL_nil ?_
  refine Vc.seq ?_
  refine Vc.seq ?_
  refine Vc.region ?_
  refine vcL_purs 3 [(8, (Value.int .i64 0)), (7, (Value.int .i64 (vals.len : Int))), (6, (Sl.v vals))] (by kernel_rfl) ?_
  refine vcL_nil ?_
  refine Vc.block ?_
  obtain ⟨vI, mu, h, hr⟩ := h
  refine Vc.loopJ (σ := Int) [8] [2, 5, 9, 10, 11, 12, 13, 14, 15, 16] (fun s => [(8, (Value.int .i64 s))]) (fun s w => vI s w) (fun s w => mu s w) 0 h (fun _ => rfl) (by kernel_rfl) ?_
  intro t8 vw j h
  have h := hr t8 vw h
  refine Vc.seq ?_
  refine Vc.region ?_
  refine vcL_pure rfl rfl (Value.bool (decide (t8 < (vals.len : Int)))) (fun w => by kernel_rfl) ?_
  refine vcL_nil ?_
  refine Vc.seq ?_
  refine Vc.cond (decide (t8 < (vals.len : Int))) (by kernel_rfl) (fun hb => ?_) (fun hb => ?_)
  · have h := h.1 (of_decide_eq_true hb)
    refine Vc.skip ?_
    refine Vc.seq ?_
    refine Vc.block ?_
    refine Vc.seq ?_
    refine Vc.region ?_
    obtain ⟨ad, hi, h⟩ := h
    refine vcL_pure rfl rfl (Value.pointer (some (ad.add (t8.toNat * 1)))) (fun w => by exact exec_indexAt (s := vals) (el := 3) rfl (by kernel_rfl) (by kernel_rfl) (by kernel_rfl) (fun w => by kernel_rfl) (hi).1 (hi).2.1 (hi).2.2 w) ?_
    obtain ⟨t11, hc, h⟩ := h
    refine vcL_val rfl rfl (Value.int .i64 t11) (exec_load rfl (by kernel_rfl) (run_load1 (fun w => by kernel_rfl) ((hc)))) ?_
    refine vcL_pure rfl rfl (Value.int .i64 t11) (fun w => by kernel_rfl) ?_
    refine vcL_nil ?_
    refine Vc.seq ?_
    refine Vc.region ?_
    refine vcL_purs 3 [(14, (Value.bool (!(t11 == 0)))), (13, (Value.int .i64 0)), (12, (Value.int .i64 t11))] (by kernel_rfl) ?_
    refine vcL_nil ?_
    refine Vc.cond (!(t11 == 0)) (by kernel_rfl) (fun hb => ?_) (fun hb => ?_)
    · have h := h.1 (ne_of_nbeq hb)
      refine Vc.seq ?_
      refine Vc.region ?_
      refine vcL_purs 2 [(2, (Value.int .i64 t11)), (15, (Value.int .i64 t11))] (by kernel_rfl) ?_
      refine vcL_nil ?_
      refine Vc.ret ?_
      refine outOf_ret ?_
      refine outOf_ret ?_
      refine outs_ret ?_
      refine done_mk (Value.int .i64 t11) (res1 (resC_tmp (by kernel_rfl))) ?_
      exact ⟨t11, rfl, h⟩
    · have h := h.2 (nne_of_nbeq hb)
      refine Vc.skip ?_
      refine Vc.region ?_
      refine vcL_purs 2 [(8, (Value.int .i64 (wrapI (t8 + 1)))), (16, (Value.int .i64 (wrapI (t8 + 1))))] (by kernel_rfl) ?_
      refine vcL_nil ?_
      exact ⟨(wrapI (t8 + 1)), 20, ⟨rfl, by kernel_rfl, by kernel_rfl, by kernel_rfl⟩, h⟩
  · have h := h.2 (of_decide_eq_false hb)
    refine Vc.exit ?_
    refine outOf_hit ?_
    refine Vc.seq ?_
    refine Vc.region ?_
    refine vcL_purs 2 [(2, (Value.int .i64 0)), (17, (Value.int .i64 0))] (by kernel_rfl) ?_
    refine vcL_nil ?_
    refine Vc.ret ?_
    refine outs_ret ?_
    refine done_mk (Value.int .i64 0) (res1 (resC_tmp (by kernel_rfl))) ?_
    exact ⟨0, rfl, h⟩
theorem cmp_Or_int.go {vals : Sl} {w : World} {k : Value → World → Prop} (h : cmp_Or_int vals w fun r0 w' => k (Value.int .i64 r0) w') : callS Tryz.prog 76 [(Sl.v vals)] w k := (cmp_Or_int.sound vals w _ h).mono (by rintro _ _ ⟨r0, rfl, h⟩; exact h)

/-- cmp.Compare[string] -/
def cmp_Compare_string (x : ByteArray) (y : ByteArray) (w : World) (R : Int → World → Prop) : Prop :=
  callS Tryz.prog 114 [(Value.string x)] w fun v vw => ∃ (t8 : Bool), v = (Value.bool t8) ∧ callS Tryz.prog 114 [(Value.string y)] vw fun v2 vw1 => ∃ (t10 : Bool), v2 = (Value.bool t10) ∧ ((t8 = true → ((t10 = true → R 0 vw1) ∧ (t10 = false → R (-1) vw1))) ∧ (t8 = false → ((t10 = true → R 1 vw1) ∧ (t10 = false → (((bLt x y) = true → R (-1) vw1) ∧ ((bLt x y) = false → (((!(bLt x y || bEq x y)) = true → R 1 vw1) ∧ ((!(bLt x y || bEq x y)) = false → R 0 vw1))))))))
set_option maxHeartbeats 8000000 in
theorem cmp_Compare_string.sound (x : ByteArray) (y : ByteArray) (w : World) (R : Int → World → Prop) (h : cmp_Compare_string x y w R) : callS Tryz.prog 77 [(Value.string x), (Value.string y)] w (fun v w' => ∃ (r0 : Int), v = (Value.int .i64 r0) ∧ R r0 w') := by
  unfold cmp_Compare_string at h
  refine calls_of_vc 20 rfl Tryz.func77 rfl (by kernel_rfl) (by simp) ?_
  refine Vc.seq ?_
  refine Vc.region ?_
  refine vcL_pure rfl rfl (Value.int .i64 0) (fun w => by kernel_rfl) ?_
  refine vcL_nil ?_
  refine Vc.seq ?_
  refine Vc.region ?_
  refine vcL_pure rfl rfl (Value.string x) (fun w => by kernel_rfl) ?_
  refine vcL_eff rfl (opVC_call rfl (by kernel_rfl) (callS.mono h fun v vw h => ?_)) 
  obtain ⟨t8, rfl, h⟩ := h
  refine vcL_pure rfl rfl (Value.bool t8) (fun w => by kernel_rfl) ?_
  refine vcL_nil ?_
  refine Vc.seq ?_
  refine Vc.region ?_
  refine vcL_pure rfl rfl (Value.string y) (fun w => by kernel_rfl) ?_
  refine vcL_eff rfl (opVC_call rfl (by kernel_rfl) (callS.mono h fun v2 vw1 h => ?_)) 
  obtain ⟨t10, rfl, h⟩ := h
  refine vcL_pure rfl rfl (Value.bool t10) (fun w => by kernel_rfl) ?_
  refine vcL_nil ?_
  refine Vc.seq ?_
  refine Vc.seq ?_
  refine Vc.region ?_
  refine vcL_pure rfl rfl (Value.bool t8) (fun w => by kernel_rfl) ?_
  refine vcL_nil ?_
  refine Vc.cond t8 (by kernel_rfl) (fun hb => ?_) (fun hb => ?_)
  · have h := h.1 (hb)
    refine Vc.seq ?_
    refine Vc.seq ?_
    refine Vc.region ?_
    refine vcL_pure rfl rfl (Value.bool t10) (fun w => by kernel_rfl) ?_
    refine vcL_nil ?_
    refine Vc.cond t10 (by kernel_rfl) (fun hb => ?_) (fun hb => ?_)
    · have h := h.1 (hb)
      refine Vc.seq ?_
      refine Vc.region ?_
      refine vcL_pure rfl rfl (Value.int .i64 0) (fun w => by kernel_rfl) ?_
      refine vcL_nil ?_
      refine Vc.ret ?_
      refine outs_ret ?_
      refine done_mk (Value.int .i64 0) (res1 (resC_tmp (by kernel_rfl))) ?_
      exact ⟨0, rfl, h⟩
    · have h := h.2 (hb)
      refine Vc.skip ?_
      refine Vc.seq ?_
      refine Vc.region ?_
      refine vcL_pure rfl rfl (Value.int .i64 (-1)) (fun w => by kernel_rfl) ?_
      refine vcL_nil ?_
      refine Vc.ret ?_
      refine outs_ret ?_
      refine done_mk (Value.int .i64 (-1)) (res1 (resC_tmp (by kernel_rfl))) ?_
      exact ⟨(-1), rfl, h⟩
  · have h := h.2 (hb)
    refine Vc.skip ?_
    refine Vc.seq ?_
    refine Vc.seq ?_
    refine Vc.region ?_
    refine vcL_pure rfl rfl (Value.bool t10) (fun w => by kernel_rfl) ?_
    refine vcL_nil ?_
    refine Vc.cond t10 (by kernel_rfl) (fun hb => ?_) (fun hb => ?_)
    · have h := h.1 (hb)
      refine Vc.seq ?_
      refine Vc.region ?_
      refine vcL_pure rfl rfl (Value.int .i64 1) (fun w => by kernel_rfl) ?_
      refine vcL_nil ?_
      refine Vc.ret ?_
      refine outs_ret ?_
      refine done_mk (Value.int .i64 1) (res1 (resC_tmp (by kernel_rfl))) ?_
      exact ⟨1, rfl, h⟩
    · have h := h.2 (hb)
      refine Vc.skip ?_
      refine Vc.seq ?_
      refine Vc.seq ?_
      refine Vc.region ?_
      refine vcL_purs 3 [(16, (Value.bool (bLt x y))), (15, (Value.string y)), (14, (Value.string x))] (by kernel_rfl) ?_
      refine vcL_nil ?_
      refine Vc.cond (bLt x y) (by kernel_rfl) (fun hb => ?_) (fun hb => ?_)
      · have h := h.1 (hb)
        refine Vc.seq ?_
        refine Vc.region ?_
        refine vcL_pure rfl rfl (Value.int .i64 (-1)) (fun w => by kernel_rfl) ?_
        refine vcL_nil ?_
        refine Vc.ret ?_
        refine outs_ret ?_
        refine done_mk (Value.int .i64 (-1)) (res1 (resC_tmp (by kernel_rfl))) ?_
        exact ⟨(-1), rfl, h⟩
      · have h := h.2 (hb)
        refine Vc.skip ?_
        refine Vc.seq ?_
        refine Vc.seq ?_
        refine Vc.region ?_
        refine vcL_purs 3 [(19, (Value.bool (!(bLt x y || bEq x y)))), (18, (Value.string y)), (17, (Value.string x))] (by kernel_rfl) ?_
        refine vcL_nil ?_
        refine Vc.cond (!(bLt x y || bEq x y)) (by kernel_rfl) (fun hb => ?_) (fun hb => ?_)
        · have h := h.1 (hb)
          refine Vc.seq ?_
          refine Vc.region ?_
          refine vcL_pure rfl rfl (Value.int .i64 1) (fun w => by kernel_rfl) ?_
          refine vcL_nil ?_
          refine Vc.ret ?_
          refine outs_ret ?_
          refine done_mk (Value.int .i64 1) (res1 (resC_tmp (by kernel_rfl))) ?_
          exact ⟨1, rfl, h⟩
        · have h := h.2 (hb)
          refine Vc.skip ?_
          refine Vc.seq ?_
          refine Vc.region ?_
          refine vcL_pure rfl rfl (Value.int .i64 0) (fun w => by kernel_rfl) ?_
          refine vcL_nil ?_
          refine Vc.ret ?_
          refine outs_ret ?_
          refine done_mk (Value.int .i64 0) (res1 (resC_tmp (by kernel_rfl))) ?_
          exact ⟨0, rfl, h⟩
theorem cmp_Compare_string.go {x : ByteArray} {y : ByteArray} {w : World} {k : Value → World → Prop} (h : cmp_Compare_string x y w fun r0 w' => k (Value.int .i64 r0) w') : callS Tryz.prog 77 [(Value.string x), (Value.string y)] w k := (cmp_Compare_string.sound x y w _ h).mono (by rintro _ _ ⟨r0, rfl, h⟩; exact h)

/-- slices.Clip[[]halyard/api.Package,halyard/api.Package] -/
def slices_Clip_apiPackageapiPackage (vs : Sl) (w : World) (R : Sl → World → Prop) : Prop :=
  ((0 : Int) ≤ 0 ∧ 0 ≤ (vs.len : Int) ∧ (vs.len : Int) ≤ (vs.len : Int) ∧ (vs.len : Int) ≤ (vs.cap : Int)) ∧ R (Sl.mk (if (vs.len : Int).toNat = 0 then vs.a else vs.a.map (·.add (0 * 7))) ((vs.len : Int).toNat - 0) ((vs.len : Int).toNat - 0)) w
set_option maxHeartbeats 8000000 in
theorem slices_Clip_apiPackageapiPackage.sound (vs : Sl) (w : World) (R : Sl → World → Prop) (h : slices_Clip_apiPackageapiPackage vs w R) : callS Tryz.prog 78 [(Sl.v vs)] w (fun v w' => ∃ (r0 : Sl), v = (Sl.v r0) ∧ R r0 w') := by
  unfold slices_Clip_apiPackageapiPackage at h
  refine calls_of_vc 9 rfl Tryz.func78 rfl (by kernel_rfl) (by simp) ?_
  refine Vc.seq ?_
  refine Vc.region ?_
  refine vcL_pure rfl rfl (Sl.v Sl.nil) (fun w => by kernel_rfl) ?_
  refine vcL_nil ?_
  refine Vc.seq ?_
  refine Vc.region ?_
  refine vcL_purs 5 [(7, (Value.int .i64 (vs.len : Int))), (6, (Sl.v vs)), (5, (Value.int .i64 (vs.len : Int))), (4, (Sl.v vs)), (3, (Sl.v vs))] (by kernel_rfl) ?_
  obtain ⟨hi, h⟩ := h
  refine vcL_pure rfl rfl (Sl.v (Sl.mk (if (vs.len : Int).toNat = 0 then vs.a else vs.a.map (·.add (0 * 7))) ((vs.len : Int).toNat - 0) ((vs.len : Int).toNat - 0))) (fun w => by exact exec_slSlHM (s := vs) (el := 48) (k2 := .i64) (k3 := .i64) rfl (by kernel_rfl) (by kernel_rfl) (by kernel_rfl) (by kernel_rfl) (fun w => by kernel_rfl) (hi) w) ?_
  refine vcL_pure rfl rfl (Sl.v (Sl.mk (if (vs.len : Int).toNat = 0 then vs.a else vs.a.map (·.add (0 * 7))) ((vs.len : Int).toNat - 0) ((vs.len : Int).toNat - 0))) (fun w => by kernel_rfl) ?_
  refine vcL_nil ?_
  refine Vc.ret ?_
  refine outs_ret ?_
  refine done_mk (Sl.v (Sl.mk (if (vs.len : Int).toNat = 0 then vs.a else vs.a.map (·.add (0 * 7))) ((vs.len : Int).toNat - 0) ((vs.len : Int).toNat - 0))) (res1 (resC_tmp (by kernel_rfl))) ?_
  exact ⟨(Sl.mk (if (vs.len : Int).toNat = 0 then vs.a else vs.a.map (·.add (0 * 7))) ((vs.len : Int).toNat - 0) ((vs.len : Int).toNat - 0)), rfl, h⟩
theorem slices_Clip_apiPackageapiPackage.go {vs : Sl} {w : World} {k : Value → World → Prop} (h : slices_Clip_apiPackageapiPackage vs w fun r0 w' => k (Sl.v r0) w') : callS Tryz.prog 78 [(Sl.v vs)] w k := (slices_Clip_apiPackageapiPackage.sound vs w _ h).mono (by rintro _ _ ⟨r0, rfl, h⟩; exact h)

/-- halyard/halyardref02.May -/
def halyardref02_May (v_Major : Int) (v_Minor : Int) (v_Patch : Int) (w : World) (R : Bool → World → Prop) : Prop :=
  newS w [(Value.int .i64 v_Major), (Value.int .i64 v_Minor), (Value.int .i64 v_Patch)] 30 fun a vw => ∃ (t4 : Int), (ldc vw a [(Value.int .i64 t4)]) ∧ callS Tryz.prog 115 [(Value.int .i64 t4)] vw fun v vw1 => ∃ (t5 : Bool), v = (Value.bool t5) ∧ ∃ (t8 : Int), grd t5 (ldc vw1 (a.add 1) [(Value.int .i64 t8)]) ∧ gCall t5 (fun (t9 : Bool) (vw3 : World) => bnd (t5 && t9) fun (b : Bool) => ∃ (t13 : Int), grd b (ldc vw3 (a.add 2) [(Value.int .i64 t13)]) ∧ gCall b (fun (t14 : Bool) (vw7 : World) => R (b && t14) vw7) (fun q => callS Tryz.prog 115 [(Value.int .i64 t13)] vw3 fun v8 vw7 => ∃ (t14 : Bool), v8 = (Value.bool t14) ∧ q t14 vw7) (fun q => q false vw3)) (fun q => callS Tryz.prog 115 [(Value.int .i64 t8)] vw1 fun v4 vw3 => ∃ (t9 : Bool), v4 = (Value.bool t9) ∧ q t9 vw3) (fun q => q false vw1)
set_option maxHeartbeats 8000000 in
theorem halyardref02_May.sound (v_Major : Int) (v_Minor : Int) (v_Patch : Int) (w : World) (R : Bool → World → Prop) (h : halyardref02_May v_Major v_Minor v_Patch w R) : callS Tryz.prog 80 [(Value.agg #[(Value.int .i64 v_Major), (Value.int .i64 v_Minor), (Value.int .i64 v_Patch)])] w (fun v w' => ∃ (r0 : Bool), v = (Value.bool r0) ∧ R r0 w') := by
  unfold halyardref02_May at h
  refine calls_of_vc 16 rfl Tryz.func80 rfl (by kernel_rfl) (by simp) ?_
  refine Vc.seq ?_
  refine Vc.region ?_
  refine vcL_eff rfl (opVC_new rfl (fun a => Value.pointer (some a)) (by kernel_rfl) (newS.mono h fun a vw hx h => ?_)) 
  refine vcL_pure rfl rfl (Value.bool false) (fun w => by kernel_rfl) ?_
  refine vcL_nil ?_
  refine Vc.seq ?_
  refine Vc.region ?_
  refine vcL_pure rfl rfl (Value.pointer (some a)) (fun w => by kernel_rfl) ?_
  obtain ⟨t4, hc, h⟩ := h
  refine vcL_val rfl rfl (Value.int .i64 t4) (exec_load rfl (by kernel_rfl) (run_load1 (fun w => by kernel_rfl) ((hc)))) ?_
  refine vcL_eff rfl (opVC_call rfl (by kernel_rfl) (callS.mono h fun v vw1 h => ?_)) 
  obtain ⟨t5, rfl, h⟩ := h
  refine vcL_pure rfl rfl (Value.bool t5) (fun w => by kernel_rfl) ?_
  refine vcL_guardP t5 (wanted_g (d := 6) rfl (by kernel_rfl) t5 (by kernel_rfl) t5 (eqT t5)) rfl (Value.pointer (some (a.add 1))) (fun hg w => by subst hg; kernel_rfl) ?_
  obtain ⟨t8, hc2, h⟩ := h
  refine vcL_guard t5 (wanted_g (d := 6) rfl (by kernel_rfl) t5 (by kernel_rfl) t5 (eqT t5)) rfl (Value.int .i64 t8) (fun hg => by subst hg; exact exec_load rfl (by kernel_rfl) (run_load1 (fun w => by kernel_rfl) ((hc2 rfl)))) ?_
  obtain ⟨vJ, hJ, h⟩ := gCall_elim h
  refine vcL_effJ (σ := Bool) t5 (wanted_g (d := 6) rfl (by kernel_rfl) t5 (by kernel_rfl) t5 (eqT t5)) rfl (fun s w => vJ s w) (fun s => (Value.bool s)) ?_ (fun hg => opVC_call rfl (by subst hg; kernel_rfl) (callS.mono (h.1 hg) fun v4 vw3 hq => ?_)) (fun hg => ⟨false, h.2 hg⟩)
  · intro t9 vw3 h
    subst hJ
    refine vcL_pure rfl rfl (Value.bool (t5 && t9)) (fun w => by cases t5 <;> kernel_rfl) ?_
    obtain ⟨b, hb⟩ : ∃ y, y = (t5 && t9) := ⟨_, rfl⟩
    have h := h b hb
    refine vcL_pure rfl rfl (Value.bool b) (fun w => by rw [hb]; kernel_rfl) ?_
    refine vcL_guardP b (wanted_g (d := 11) rfl (by kernel_rfl) b (by kernel_rfl) b (eqT b)) rfl (Value.pointer (some (a.add 2))) (fun hg w => by subst hg; kernel_rfl) ?_
    obtain ⟨t13, hc6, h⟩ := h
    refine vcL_guard b (wanted_g (d := 11) rfl (by kernel_rfl) b (by kernel_rfl) b (eqT b)) rfl (Value.int .i64 t13) (fun hg => by subst hg; exact exec_load rfl (by kernel_rfl) (run_load1 (fun w => by kernel_rfl) ((hc6 rfl)))) ?_
    obtain ⟨vJ10, hJ11, h⟩ := gCall_elim h
    refine vcL_effJ (σ := Bool) b (wanted_g (d := 11) rfl (by kernel_rfl) b (by kernel_rfl) b (eqT b)) rfl (fun s w => vJ10 s w) (fun s => (Value.bool s)) ?_ (fun hg => opVC_call rfl (by subst hg; kernel_rfl) (callS.mono (h.1 hg) fun v8 vw7 hq => ?_)) (fun hg => ⟨false, h.2 hg⟩)
    · intro t14 vw7 h
      subst hJ11
      refine vcL_pure rfl rfl (Value.bool (b && t14)) (fun w => by cases b <;> kernel_rfl) ?_
      refine vcL_pure rfl rfl (Value.bool (b && t14)) (fun w => by kernel_rfl) ?_
      refine vcL_nil ?_
      refine Vc.ret ?_
      refine outs_ret ?_
      refine done_mk (Value.bool (b && t14)) (res1 (resC_tmp (by kernel_rfl))) ?_
      exact ⟨(b && t14), rfl, h⟩
    · obtain ⟨t14, rfl, hq⟩ := hq
      exact ⟨t14, rfl, hq⟩
  · obtain ⟨t9, rfl, hq⟩ := hq
    exact ⟨t9, rfl, hq⟩
theorem halyardref02_May.go {v_Major : Int} {v_Minor : Int} {v_Patch : Int} {w : World} {k : Value → World → Prop} (h : halyardref02_May v_Major v_Minor v_Patch w fun r0 w' => k (Value.bool r0) w') : callS Tryz.prog 80 [(Value.agg #[(Value.int .i64 v_Major), (Value.int .i64 v_Minor), (Value.int .i64 v_Patch)])] w k := (halyardref02_May.sound v_Major v_Minor v_Patch w _ h).mono (by rintro _ _ ⟨r0, rfl, h⟩; exact h)

/-- slices.Clone[[]halyard/api.Span,halyard/api.Span] -/
def slices_Clone_apiSpanapiSpan (vs : Sl) (w : World) (R : Sl → World → Prop) : Prop :=
  ((vs.a = none → R Sl.nil w) ∧ (¬ (vs.a = none) → newS w [] 83 fun a vw => appS Tryz.prog 53 53 (Sl.mk (some a) 0 0) (Sl.v vs) vw fun t7 vw1 => R t7 vw1))
set_option maxHeartbeats 8000000 in
theorem slices_Clone_apiSpanapiSpan.sound (vs : Sl) (w : World) (R : Sl → World → Prop) (h : slices_Clone_apiSpanapiSpan vs w R) : callS Tryz.prog 90 [(Sl.v vs)] w (fun v w' => ∃ (r0 : Sl), v = (Sl.v r0) ∧ R r0 w') := by
  unfold slices_Clone_apiSpanapiSpan at h
  refine calls_of_vc 8 rfl Tryz.func90 rfl (by kernel_rfl) (by simp) ?_
  refine Vc.seq ?_
  refine Vc.region ?_
  refine vcL_pure rfl rfl (Sl.v Sl.nil) (fun w => by kernel_rfl) ?_
  refine vcL_nil ?_
  refine Vc.seq ?_
  refine Vc.seq ?_
  refine Vc.region ?_
  refine vcL_pure rfl rfl (Sl.v vs) (fun w => by kernel_rfl) ?_
  refine vcL_pure rfl rfl (Value.bool (Option.isNone vs.a)) (fun w => by cases vs with | mk a_ n_ c_ => cases a_ <;> kernel_rfl) ?_
  refine vcL_nil ?_
  refine Vc.cond (Option.isNone vs.a) (by kernel_rfl) (fun hb => ?_) (fun hb => ?_)
  · have h := h.1 (Option.isNone_iff_eq_none.1 hb)
    refine Vc.seq ?_
    refine Vc.region ?_
    refine vcL_pure rfl rfl (Sl.v Sl.nil) (fun w => by kernel_rfl) ?_
    refine vcL_nil ?_
    refine Vc.ret ?_
    refine outs_ret ?_
    refine done_mk (Sl.v Sl.nil) (res1 (resC_tmp (by kernel_rfl))) ?_
    exact ⟨Sl.nil, rfl, h⟩
  · have h := h.2 (isNone_false hb)
    refine Vc.skip ?_
    refine Vc.seq ?_
    refine Vc.region ?_
    refine vcL_eff rfl (opVC_new rfl (fun a => Value.slice (some a) 0 0) (by kernel_rfl) (newS.mono h fun a vw hx h => ?_)) 
    refine vcL_pure rfl rfl (Sl.v vs) (fun w => by kernel_rfl) ?_
    refine vcL_eff rfl (opVC_sem rfl (c := Builtin.append_ #[53, 53] 53 #[(Sl.v (Sl.mk (some a) 0 0)), (Sl.v vs)]) (by kernel_rfl) (appS.elim (ty := 53) h fun t7 vw1 h => ?_)) 
    refine vcL_pure rfl rfl (Sl.v t7) (fun w => by kernel_rfl) ?_
    refine vcL_nil ?_
    refine Vc.ret ?_
    refine outs_ret ?_
    refine done_mk (Sl.v t7) (res1 (resC_tmp (by kernel_rfl))) ?_
    exact ⟨t7, rfl, h⟩
theorem slices_Clone_apiSpanapiSpan.go {vs : Sl} {w : World} {k : Value → World → Prop} (h : slices_Clone_apiSpanapiSpan vs w fun r0 w' => k (Sl.v r0) w') : callS Tryz.prog 90 [(Sl.v vs)] w k := (slices_Clone_apiSpanapiSpan.sound vs w _ h).mono (by rintro _ _ ⟨r0, rfl, h⟩; exact h)

/-- halyard/span.May -/
def span_May (l : Sl) (w : World) (R : Bool → World → Prop) : Prop :=
  ((64 < (l.len : Int) → R false w) ∧ (¬ (64 < (l.len : Int)) → loop2 0 0 w fun least t15 vw nxt => ((t15 < (l.len : Int) → ∃ (ad : Addr), (l.a = some ad ∧ (0 : Int) ≤ t15 ∧ t15 < (l.len : Int)) ∧ ∃ (t18_Lo_Major : Int) (t18_Lo_Minor : Int) (t18_Lo_Patch : Int) (t18_Hi_Major : Int) (t18_Hi_Minor : Int) (t18_Hi_Patch : Int), (ldc vw (ad.add (t15.toNat * 6)) [(Value.int .i64 t18_Lo_Major), (Value.int .i64 t18_Lo_Minor), (Value.int .i64 t18_Lo_Patch), (Value.int .i64 t18_Hi_Major), (Value.int .i64 t18_Hi_Minor), (Value.int .i64 t18_Hi_Patch)]) ∧ newS vw [(Value.int .i64 0), (Value.int .i64 0), (Value.int .i64 0), (Value.int .i64 0), (Value.int .i64 0), (Value.int .i64 0)] 83 fun a vw1 => stw vw1 a [(Value.int .i64 t18_Lo_Major), (Value.int .i64 t18_Lo_Minor), (Value.int .i64 t18_Lo_Patch), (Value.int .i64 t18_Hi_Major), (Value.int .i64 t18_Hi_Minor), (Value.int .i64 t18_Hi_Patch)] fun vw2 => ∃ (t21_Major : Int) (t21_Minor : Int) (t21_Patch : Int), (ldc vw2 a [(Value.int .i64 t21_Major), (Value.int .i64 t21_Minor), (Value.int .i64 t21_Patch)]) ∧ callS Tryz.prog 123 [(Value.agg #[(Value.int .i64 t21_Major), (Value.int .i64 t21_Minor), (Value.int .i64 t21_Patch)])] vw2 fun v vw4 => ∃ (t22 : Int) (t22b : Bool), v = (Value.tuple #[(Value.int .i64 t22), (Value.bool t22b)]) ∧ ∃ (t27_Major : Int) (t27_Minor : Int) (t27_Patch : Int), (ldc vw4 (a.add 3) [(Value.int .i64 t27_Major), (Value.int .i64 t27_Minor), (Value.int .i64 t27_Patch)]) ∧ callS Tryz.prog 123 [(Value.agg #[(Value.int .i64 t27_Major), (Value.int .i64 t27_Minor), (Value.int .i64 t27_Patch)])] vw4 fun v7 vw6 => ∃ (t28 : Int) (t28b : Bool), v7 = (Value.tuple #[(Value.int .i64 t28), (Value.bool t28b)]) ∧ bnd (!t22b) fun (b : Bool) => bnd (b || (!t28b)) fun (b9 : Bool) => bnd (b9 || (decide (t22 < least))) fun (b10 : Bool) => (((b10 || (decide (t28 < t22))) = true → R false vw6) ∧ ((b10 || (decide (t28 < t22))) = false → nxt (wrapI (t28 + 2)) (wrapI (t15 + 1)) vw6))) ∧ (¬ (t15 < (l.len : Int)) → R true vw))))
set_option maxHeartbeats 8000000 in
theorem span_May.sound (l : Sl) (w : World) (R : Bool → World → Prop) (h : span_May l w R) : callS Tryz.prog 91 [(Sl.v l)] w (fun v w' => ∃ (r0 : Bool), v = (Value.bool r0) ∧ R r0 w') := by
  unfold span_May at h
  refine calls_of_vc 50 rfl Tryz.func91 rfl (by kernel_rfl) (by simp) ?_
  refine Vc.seq ?_
  refine Vc.region ?_
  refine vcL_pure rfl rfl (Value.bool false) (fun w => by kernel_rfl) ?_
  refine vcL_nil ?_
  refine Vc.seq ?_
  refine Vc.seq ?_
  refine Vc.region ?_
  refine vcL_purs 3 [(12, (Value.bool (decide (64 < (l.len : Int))))), (11, (Value.int .i64 (l.len : Int))), (10, (Sl.v l))] (by kernel_rfl) ?_
  refine vcL_nil ?_
  refine Vc.cond (decide (64 < (l.len : Int))) (by kernel_rfl) (fun hb => ?_) (fun hb => ?_)
  · have h := h.1 (of_decide_eq_true hb)
    refine Vc.seq ?_
    refine Vc.region ?_
    refine vcL_pure rfl rfl (Value.bool false) (fun w => by kernel_rfl) ?_
    refine vcL_nil ?_
    refine Vc.ret ?_
    refine outs_ret ?_
    refine done_mk (Value.bool false) (res1 (resC_tmp (by kernel_rfl))) ?_
    exact ⟨false, rfl, h⟩
  · have h := h.2 (of_decide_eq_false hb)
    refine Vc.skip ?_
    refine Vc.seq ?_
    refine Vc.region ?_
    refine vcL_pure rfl rfl (Value.int .i64 0) (fun w => by kernel_rfl) ?_
    refine vcL_nil ?_
    refine Vc.seq ?_
    refine Vc.seq ?_
    refine Vc.region ?_
    refine vcL_purs 3 [(15, (Value.int .i64 0)), (14, (Value.int .i64 (l.len : Int))), (13, (Sl.v l))] (by kernel_rfl) ?_
    refine vcL_nil ?_
    refine Vc.block ?_
    obtain ⟨vI, mu, h, hr⟩ := h
    refine Vc.loopJ (σ := Int × Int) [3, 15] [2, 5, 6, 7, 8, 9, 16, 17, 18, 19, 20, 21, 22, 23, 24, 25, 26, 27, 28, 29, 30, 31, 32, 33, 34, 35, 36, 37, 38, 39, 40, 41, 42, 43, 44, 45, 46, 47, 48, 49] (fun s => [(3, (Value.int .i64 s.1)), (15, (Value.int .i64 s.2))]) (fun s w => vI s.1 s.2 w) (fun s w => mu s.1 s.2 w) (0, 0) h (fun _ => rfl) (by kernel_rfl) ?_
    rintro ⟨least, t15⟩ vw j h
    have h := hr least t15 vw h
    refine Vc.seq ?_
    refine Vc.region ?_
    refine vcL_pure rfl rfl (Value.bool (decide (t15 < (l.len : Int)))) (fun w => by kernel_rfl) ?_
    refine vcL_nil ?_
    refine Vc.seq ?_
    refine Vc.cond (decide (t15 < (l.len : Int))) (by kernel_rfl) (fun hb => ?_) (fun hb => ?_)
    · have h := h.1 (of_decide_eq_true hb)
      refine Vc.skip ?_
      refine Vc.seq ?_
      refine Vc.block ?_
      refine Vc.seq ?_
      refine Vc.region ?_
      obtain ⟨ad, hi, h⟩ := h
      refine vcL_pure rfl rfl (Value.pointer (some (ad.add (t15.toNat * 6)))) (fun w => by exact exec_indexAt (s := l) (el := 83) rfl (by kernel_rfl) (by kernel_rfl) (by kernel_rfl) (fun w => by kernel_rfl) (hi).1 (hi).2.1 (hi).2.2 w) ?_
      obtain ⟨t18_Lo_Major, t18_Lo_Minor, t18_Lo_Patch, t18_Hi_Major, t18_Hi_Minor, t18_Hi_Patch, hc, h⟩ := h
      refine vcL_val rfl rfl (Value.agg #[(Value.int .i64 t18_Lo_Major), (Value.int .i64 t18_Lo_Minor), (Value.int .i64 t18_Lo_Patch), (Value.int .i64 t18_Hi_Major), (Value.int .i64 t18_Hi_Minor), (Value.int .i64 t18_Hi_Patch)]) (exec_load rfl (by kernel_rfl) (run_loadN (fun w => by kernel_rfl) (fun w => by kernel_rfl) ((hc)))) ?_
      refine vcL_eff rfl (opVC_new rfl (fun a => Value.pointer (some a)) (by kernel_rfl) (newS.mono h fun a vw1 hx h => ?_)) 
      refine vcL_eff rfl (opVC_store rfl rfl (a := a) (by kernel_rfl) (v := (Value.agg #[(Value.int .i64 t18_Lo_Major), (Value.int .i64 t18_Lo_Minor), (Value.int .i64 t18_Lo_Patch), (Value.int .i64 t18_Hi_Major), (Value.int .i64 t18_Hi_Minor), (Value.int .i64 t18_Hi_Patch)])) (by kernel_rfl) [(Value.int .i64 t18_Lo_Major), (Value.int .i64 t18_Lo_Minor), (Value.int .i64 t18_Lo_Patch), (Value.int .i64 t18_Hi_Major), (Value.int .i64 t18_Hi_Minor), (Value.int .i64 t18_Hi_Patch)] (by kernel_rfl) (fun w => by kernel_rfl) (by kernel_rfl) (stw.mono h fun vw2 h => ?_)) 
      refine vcL_nil ?_
      refine Vc.seq ?_
      refine Vc.region ?_
      refine vcL_pure rfl rfl (Value.pointer (some a)) (fun w => by kernel_rfl) ?_
      obtain ⟨t21_Major, t21_Minor, t21_Patch, hc3, h⟩ := h
      refine vcL_val rfl rfl (Value.agg #[(Value.int .i64 t21_Major), (Value.int .i64 t21_Minor), (Value.int .i64 t21_Patch)]) (exec_load rfl (by kernel_rfl) (run_loadN (fun w => by kernel_rfl) (fun w => by kernel_rfl) ((hc3)))) ?_
      refine vcL_eff rfl (opVC_call rfl (by kernel_rfl) (callS.mono h fun v vw4 h => ?_)) 
      obtain ⟨t22, t22b, rfl, h⟩ := h
      refine vcL_purs 5 [(7, (Value.bool t22b)), (6, (Value.int .i64 t22)), (24, (Value.bool t22b)), (23, (Value.int .i64 t22)), (19, (Value.tuple #[(Value.int .i64 t22), (Value.bool t22b)]))] (by kernel_rfl) ?_
      refine vcL_nil ?_
      refine Vc.seq ?_
      refine Vc.region ?_
      refine vcL_pure rfl rfl (Value.pointer (some (a.add 3))) (fun w => by kernel_rfl) ?_
      obtain ⟨t27_Major, t27_Minor, t27_Patch, hc5, h⟩ := h
      refine vcL_val rfl rfl (Value.agg #[(Value.int .i64 t27_Major), (Value.int .i64 t27_Minor), (Value.int .i64 t27_Patch)]) (exec_load rfl (by kernel_rfl) (run_loadN (fun w => by kernel_rfl) (fun w => by kernel_rfl) ((hc5)))) ?_
      refine vcL_eff rfl (opVC_call rfl (by kernel_rfl) (callS.mono h fun v7 vw6 h => ?_)) 
      obtain ⟨t28, t28b, rfl, h⟩ := h
      refine vcL_purs 5 [(9, (Value.bool t28b)), (8, (Value.int .i64 t28)), (30, (Value.bool t28b)), (29, (Value.int .i64 t28)), (25, (Value.tuple #[(Value.int .i64 t28), (Value.bool t28b)]))] (by kernel_rfl) ?_
      refine vcL_nil ?_
      refine Vc.seq ?_
      refine Vc.seq ?_
      refine Vc.region ?_
      refine vcL_purs 2 [(32, (Value.bool (!t22b))), (31, (Value.bool t22b))] (by kernel_rfl) ?_
      obtain ⟨b, hb⟩ : ∃ y, y = (!t22b) := ⟨_, rfl⟩
      have h := h b hb
      refine vcL_pure rfl rfl (Value.bool b) (fun w => by rw [hb]; kernel_rfl) ?_
      refine vcL_guardP (!b) (wanted_g (d := 33) rfl (by kernel_rfl) b (by kernel_rfl) (!b) (eqF b)) rfl (Value.bool t28b) (fun hg w => by simp only [Bool.and_eq_true, Bool.not_eq_true'] at hg; obtain rfl := hg; kernel_rfl) ?_
      refine vcL_guardP (!b) (wanted_g (d := 33) rfl (by kernel_rfl) b (by kernel_rfl) (!b) (eqF b)) rfl (Value.bool (!t28b)) (fun hg w => by simp only [Bool.and_eq_true, Bool.not_eq_true'] at hg; obtain rfl := hg; kernel_rfl) ?_
      refine vcL_pure rfl rfl (Value.bool (b || (!t28b))) (fun w => by cases b <;> kernel_rfl) ?_
      obtain ⟨b9, hb9⟩ : ∃ y, y = (b || (!t28b)) := ⟨_, rfl⟩
      have h := h b9 hb9
      refine vcL_pure rfl rfl (Value.bool b9) (fun w => by rw [hb9]; kernel_rfl) ?_
      refine vcL_guardP (!b9) (wanted_g (d := 37) rfl (by kernel_rfl) b9 (by kernel_rfl) (!b9) (eqF b9)) rfl (Value.int .i64 t22) (fun hg w => by simp only [Bool.and_eq_true, Bool.not_eq_true'] at hg; obtain rfl := hg; kernel_rfl) ?_
      refine vcL_guardP (!b9) (wanted_g (d := 37) rfl (by kernel_rfl) b9 (by kernel_rfl) (!b9) (eqF b9)) rfl (Value.int .i64 least) (fun hg w => by simp only [Bool.and_eq_true, Bool.not_eq_true'] at hg; obtain rfl := hg; kernel_rfl) ?_
      refine vcL_guardP (!b9) (wanted_g (d := 37) rfl (by kernel_rfl) b9 (by kernel_rfl) (!b9) (eqF b9)) rfl (Value.bool (decide (t22 < least))) (fun hg w => by simp only [Bool.and_eq_true, Bool.not_eq_true'] at hg; obtain rfl := hg; kernel_rfl) ?_
      refine vcL_pure rfl rfl (Value.bool (b9 || (decide (t22 < least)))) (fun w => by cases b9 <;> kernel_rfl) ?_
      obtain ⟨b10, hb10⟩ : ∃ y, y = (b9 || (decide (t22 < least))) := ⟨_, rfl⟩
      have h := h b10 hb10
      refine vcL_pure rfl rfl (Value.bool b10) (fun w => by rw [hb10]; kernel_rfl) ?_
      refine vcL_guardP (!b10) (wanted_g (d := 42) rfl (by kernel_rfl) b10 (by kernel_rfl) (!b10) (eqF b10)) rfl (Value.int .i64 t22) (fun hg w => by simp only [Bool.and_eq_true, Bool.not_eq_true'] at hg; obtain rfl := hg; kernel_rfl) ?_
      refine vcL_guardP (!b10) (wanted_g (d := 42) rfl (by kernel_rfl) b10 (by kernel_rfl) (!b10) (eqF b10)) rfl (Value.int .i64 t28) (fun hg w => by simp only [Bool.and_eq_true, Bool.not_eq_true'] at hg; obtain rfl := hg; kernel_rfl) ?_
      refine vcL_guardP (!b10) (wanted_g (d := 42) rfl (by kernel_rfl) b10 (by kernel_rfl) (!b10) (eqF b10)) rfl (Value.bool (decide (t28 < t22))) (fun hg w => by simp only [Bool.and_eq_true, Bool.not_eq_true'] at hg; obtain rfl := hg; kernel_rfl) ?_
      refine vcL_pure rfl rfl (Value.bool (b10 || (decide (t28 < t22)))) (fun w => by cases b10 <;> kernel_rfl) ?_
      refine vcL_nil ?_
      refine Vc.cond (b10 || (decide (t28 < t22))) (by kernel_rfl) (fun hb => ?_) (fun hb => ?_)
      · have h := h.1 (hb)
        refine Vc.seq ?_
        refine Vc.region ?_
        refine vcL_pure rfl rfl (Value.bool false) (fun w => by kernel_rfl) ?_
        refine vcL_nil ?_
        refine Vc.ret ?_
        refine outOf_ret ?_
        refine outOf_ret ?_
        refine outs_ret ?_
        refine done_mk (Value.bool false) (res1 (resC_tmp (by kernel_rfl))) ?_
        exact ⟨false, rfl, h⟩
      · have h := h.2 (hb)
        refine Vc.skip ?_
        refine Vc.region ?_
        refine vcL_purs 3 [(3, (Value.int .i64 (wrapI (t28 + 2)))), (48, (Value.int .i64 (wrapI (t28 + 2)))), (47, (Value.int .i64 t28))] (by kernel_rfl) ?_
        refine vcL_nil ?_
        refine Vc.region ?_
        refine vcL_purs 2 [(15, (Value.int .i64 (wrapI (t15 + 1)))), (49, (Value.int .i64 (wrapI (t15 + 1))))] (by kernel_rfl) ?_
        refine vcL_nil ?_
        exact ⟨((wrapI (t28 + 2)), (wrapI (t15 + 1))), 83, ⟨rfl, by kernel_rfl, by kernel_rfl, by kernel_rfl⟩, h⟩
    · have h := h.2 (of_decide_eq_false hb)
      refine Vc.exit ?_
      refine outOf_hit ?_
      refine Vc.seq ?_
      refine Vc.region ?_
      refine vcL_pure rfl rfl (Value.bool true) (fun w => by kernel_rfl) ?_
      refine vcL_nil ?_
      refine Vc.ret ?_
      refine outs_ret ?_
      refine done_mk (Value.bool true) (res1 (resC_tmp (by kernel_rfl))) ?_
      exact ⟨true, rfl, h⟩
theorem span_May.go {l : Sl} {w : World} {k : Value → World → Prop} (h : span_May l w fun r0 w' => k (Value.bool r0) w') : callS Tryz.prog 91 [(Sl.v l)] w k := (span_May.sound l w _ h).mono (by rintro _ _ ⟨r0, rfl, h⟩; exact h)

end Go.Hal.SE
