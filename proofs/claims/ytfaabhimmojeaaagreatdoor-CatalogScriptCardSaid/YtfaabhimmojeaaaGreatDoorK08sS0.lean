/- Lemmas for the claim K08s: how the program's functions run, and what they answer; no condition but those that each theorem names. -/
import Derived.Test.YtfaabhimmojeaaaGreatDoorProg
import Derived.Test.YtfaabhimmojeaaaGreatDoorK08sA0
set_option linter.unusedVariables false
set_option linter.unusedSimpArgs false
namespace Go.Hal.SE
open Go Go.RowKit Go.Hal Go.Proofs
set_option maxRecDepth 100000
namespace Eq0
theorem eqv_30 (d : Nat) (a0 : Int) (a1 : Int) (a2 : Int) (b0 : Int) (b1 : Int) (b2 : Int) (w : World) : (Op.equalIn (d + 2) 30 (.agg #[(Value.int .i64 a0), (Value.int .i64 a1), (Value.int .i64 a2)]) (.agg #[(Value.int .i64 b0), (Value.int .i64 b1), (Value.int .i64 b2)])).run Tryz.prog w = .ok ((a0 == b0) && ((a1 == b1) && ((a2 == b2) && true))) w :=
 (eqS (by kernel_rfl) (by kernel_rfl) (fs := [⟨ "Major", 3, 0, false, "", "", 0⟩, ⟨ "Minor", 3, 1, false, "", "", 8⟩, ⟨ "Patch", 3, 2, false, "", "", 16⟩]) (by kernel_rfl) (eqF_cons (x := (Value.int .i64 a0)) (y := (Value.int .i64 b0)) rfl (by kernel_rfl) (by kernel_rfl) (run_equalIn_int w _ 3 .i64 .i64 a0 b0 (by kernel_rfl)) (eqF_cons (x := (Value.int .i64 a1)) (y := (Value.int .i64 b1)) rfl (by kernel_rfl) (by kernel_rfl) (run_equalIn_int w _ 3 .i64 .i64 a1 b1 (by kernel_rfl)) (eqF_cons (x := (Value.int .i64 a2)) (y := (Value.int .i64 b2)) rfl (by kernel_rfl) (by kernel_rfl) (run_equalIn_int w _ 3 .i64 .i64 a2 b2 (by kernel_rfl)) eqF_nil))))
end Eq0
open Eq0
def halyardlaw08_CatalogScript (l : Sl) (asks : Sl) (w : World) (R : Bool → World → Prop) : Prop :=
 callS Tryz.prog 16 [] w fun v vw=>∃ (t14 : Option Addr), v = (Value.pointer t14) ∧ newS vw [(Sl.v Sl.nil)] 46 fun a vw1=>bnd (Option.isNone t14) fun (b : Bool)=>gCall (!b) (fun (t20 : Bool) (vw2 : World)=>(((b || (!t20)) = true → R false vw2) ∧ ((b || (!t20)) = false → loop1 0 vw2 fun i vw5 nxt=>bnd (decide (i < (l.len : Int))) fun (b6 : Bool)=>(((b6 || (decide (i < (asks.len : Int)))) = true → join (fun (vw7 : World)=>nxt (wrapI (i + 1)) vw7) fun vJ8=>join (fun (vw10 : World)=>((i < (asks.len : Int) → ∃ (ad : Addr), (asks.a = some ad ∧ (0 : Int) ≤ i ∧ i < (asks.len : Int)) ∧ ∃ (zz3s : ByteArray) (zz3v : Int) (zz3w : Int) (zz3x : Int) (zz3u : Sl) (zz3t : Sl), (ldc vw10 (ad.add (i.toNat * 6)) [(Value.string zz3s), (Value.int .i64 zz3v), (Value.int .i64 zz3w), (Value.int .i64 zz3x), (Sl.v zz3u), (Sl.v zz3t)]) ∧ newS vw10 [(Value.string (ByteArray.mk #[])), (Value.int .i64 0), (Value.int .i64 0), (Value.int .i64 0), (Sl.v Sl.nil), (Sl.v Sl.nil)] 55 fun a11 vw12=>stw vw12 a11 [(Value.string zz3s), (Value.int .i64 zz3v), (Value.int .i64 zz3w), (Value.int .i64 zz3x), (Sl.v zz3u), (Sl.v zz3t)] fun vw13=>∃ (t67 : ByteArray), (ldc vw13 a11 [(Value.string t67)]) ∧ ∃ (zz6p : Int) (zz6q : Int) (zz6r : Int), (ldc vw13 (a11.add 1) [(Value.int .i64 zz6p), (Value.int .i64 zz6q), (Value.int .i64 zz6r)]) ∧ callS Tryz.prog 22 [(Value.pointer t14), (Value.string t67), (Value.agg #[(Value.int .i64 zz6p), (Value.int .i64 zz6q), (Value.int .i64 zz6r)])] vw13 fun v17 vw16=>∃ (zz35 : ByteArray) (zz38 : Int) (zz39 : Int) (zz3a : Int) (zz34 : Sl) (zz37 : Sl) (zz36 : Sl) (t70b : Bool), v17 = (Value.tuple #[(Value.agg #[(Value.string zz35), (Value.int .i64 zz38), (Value.int .i64 zz39), (Value.int .i64 zz3a), (Sl.v zz34), (Sl.v zz37), (Sl.v zz36)]), (Value.bool t70b)]) ∧ newS vw16 [(Value.string (ByteArray.mk #[])), (Value.int .i64 0), (Value.int .i64 0), (Value.int .i64 0), (Sl.v Sl.nil), (Sl.v Sl.nil), (Sl.v Sl.nil)] 48 fun a19 vw20=>stw vw20 a19 [(Value.string zz35), (Value.int .i64 zz38), (Value.int .i64 zz39), (Value.int .i64 zz3a), (Sl.v zz34), (Sl.v zz37), (Sl.v zz36)] fun vw21=>∃ (t76 : ByteArray), (ldc vw21 a11 [(Value.string t76)]) ∧ ∃ (zz6s : Int) (zz6t : Int) (zz6u : Int), (ldc vw21 (a11.add 1) [(Value.int .i64 zz6s), (Value.int .i64 zz6t), (Value.int .i64 zz6u)]) ∧ callS Tryz.prog 23 [(Value.pointer (some a)), (Value.string t76), (Value.agg #[(Value.int .i64 zz6s), (Value.int .i64 zz6t), (Value.int .i64 zz6u)])] vw21 fun v25 vw24=>∃ (zz3c : ByteArray) (zz3f : Int) (zz3g : Int) (zz3h : Int) (zz3b : Sl) (zz3e : Sl) (zz3d : Sl) (t79b : Bool), v25 = (Value.tuple #[(Value.agg #[(Value.string zz3c), (Value.int .i64 zz3f), (Value.int .i64 zz3g), (Value.int .i64 zz3h), (Sl.v zz3b), (Sl.v zz3e), (Sl.v zz3d)]), (Value.bool t79b)]) ∧ newS vw24 [(Value.string (ByteArray.mk #[])), (Value.int .i64 0), (Value.int .i64 0), (Value.int .i64 0), (Sl.v Sl.nil), (Sl.v Sl.nil), (Sl.v Sl.nil)] 48 fun a27 vw28=>stw vw28 a27 [(Value.string zz3c), (Value.int .i64 zz3f), (Value.int .i64 zz3g), (Value.int .i64 zz3h), (Sl.v zz3b), (Sl.v zz3e), (Sl.v zz3d)] fun vw29=>bnd vw29.drew fun (vw30 : World)=>bnd (!(t70b == t79b)) fun (b31 : Bool)=>∃ (zz6w : ByteArray) (zz6z : Int) (zz70 : Int) (zz71 : Int) (zz6v : Sl) (zz6y : Sl) (zz6x : Sl), grd (!b31) (ldc vw30 a19 [(Value.string zz6w), (Value.int .i64 zz6z), (Value.int .i64 zz70), (Value.int .i64 zz71), (Sl.v zz6v), (Sl.v zz6y), (Sl.v zz6x)]) ∧ ∃ (zz73 : ByteArray) (zz76 : Int) (zz77 : Int) (zz78 : Int) (zz72 : Sl) (zz75 : Sl) (zz74 : Sl), grd (!b31) (ldc vw30 a27 [(Value.string zz73), (Value.int .i64 zz76), (Value.int .i64 zz77), (Value.int .i64 zz78), (Sl.v zz72), (Sl.v zz75), (Sl.v zz74)]) ∧ gCall (!b31) (fun (t88 : Bool) (vw34 : World)=>bnd (b31 || (!t88)) fun (b39 : Bool)=>∃ (t94 : ByteArray), grd (!b39) (ldc vw34 a11 [(Value.string t94)]) ∧ ∃ (t98 : ByteArray), grd (!b39) (ldc vw34 a11 [(Value.string t98)]) ∧ gCall (!b39) (fun (t95 : Sl) (vw42 : World)=>gCall (!b39) (fun (t99 : Sl) (vw47 : World)=>gCall (!b39) (fun (t100 : Bool) (vw52 : World)=>bnd (b39 || (!t100)) fun (b57 : Bool)=>∃ (t106 : ByteArray), grd (!b57) (ldc vw52 a11 [(Value.string t106)]) ∧ ∃ (t108 : Sl), grd (!b57) (ldc vw52 (a11.add 4) [(Sl.v t108)]) ∧ ∃ (t110 : Sl), grd (!b57) (ldc vw52 (a11.add 5) [(Sl.v t110)]) ∧ ∃ (t114 : ByteArray), grd (!b57) (ldc vw52 a11 [(Value.string t114)]) ∧ ∃ (t116 : Sl), grd (!b57) (ldc vw52 (a11.add 4) [(Sl.v t116)]) ∧ ∃ (t118 : Sl), grd (!b57) (ldc vw52 (a11.add 5) [(Sl.v t118)]) ∧ gCall (!b57) (fun (t111 : Sl) (vw64 : World)=>gCall (!b57) (fun (t119 : Sl) (vw69 : World)=>gCall (!b57) (fun (t120 : Bool) (vw74 : World)=>(((b57 || (!t120)) = true → R false vw74) ∧ ((b57 || (!t120)) = false → ∃ (zz4q : ByteArray) (zz4t : Int) (zz4u : Int) (zz4v : Int) (zz4p : Sl) (zz4s : Sl) (zz4r : Sl), (ldc vw74 a19 [(Value.string zz4q), (Value.int .i64 zz4t), (Value.int .i64 zz4u), (Value.int .i64 zz4v), (Sl.v zz4p), (Sl.v zz4s), (Sl.v zz4r)]) ∧ callS Tryz.prog 21 [(Value.agg #[(Value.string zz4q), (Value.int .i64 zz4t), (Value.int .i64 zz4u), (Value.int .i64 zz4v), (Sl.v zz4p), (Sl.v zz4s), (Sl.v zz4r)])] vw74 fun v81 vw80=>v81 = (Value.tuple #[]) ∧ vJ8 vw80))) (fun q=>callS Tryz.prog 25 [(Sl.v t111), (Sl.v t119)] vw69 fun v75 vw74=>∃ (t120 : Bool), v75 = (Value.bool t120) ∧ q t120 vw74) (fun q=>q false vw69)) (fun q=>callS Tryz.prog 29 [(Value.pointer (some a)), (Value.string t114), (Sl.v t116), (Sl.v t118)] vw64 fun v70 vw69=>∃ (t119 : Sl), v70 = (Sl.v t119) ∧ q t119 vw69) (fun q=>q Sl.nil vw64)) (fun q=>callX Tryz.prog 28 [(Value.pointer t14), (Value.string t106), (Sl.v t108), (Sl.v t110)] vw52 fun v65 vw64=>∃ (t111 : Sl), v65 = (Sl.v t111) ∧ q t111 vw64) (fun q=>q Sl.nil vw52)) (fun q=>callS Tryz.prog 25 [(Sl.v t95), (Sl.v t99)] vw47 fun v53 vw52=>∃ (t100 : Bool), v53 = (Value.bool t100) ∧ q t100 vw52) (fun q=>q false vw47)) (fun q=>callS Tryz.prog 27 [(Value.pointer (some a)), (Value.string t98)] vw42 fun v48 vw47=>∃ (t99 : Sl), v48 = (Sl.v t99) ∧ q t99 vw47) (fun q=>q Sl.nil vw42)) (fun q=>callX Tryz.prog 26 [(Value.pointer t14), (Value.string t94)] vw34 fun v43 vw42=>∃ (t95 : Sl), v43 = (Sl.v t95) ∧ q t95 vw42) (fun q=>q Sl.nil vw34)) (fun q=>callS Tryz.prog 24 [(Value.agg #[(Value.string zz6w), (Value.int .i64 zz6z), (Value.int .i64 zz70), (Value.int .i64 zz71), (Sl.v zz6v), (Sl.v zz6y), (Sl.v zz6x)]), (Value.agg #[(Value.string zz73), (Value.int .i64 zz76), (Value.int .i64 zz77), (Value.int .i64 zz78), (Sl.v zz72), (Sl.v zz75), (Sl.v zz74)])] vw30 fun v35 vw34=>∃ (t88 : Bool), v35 = (Value.bool t88) ∧ q t88 vw34) (fun q=>q false vw30)) ∧ (¬ (i < (asks.len : Int)) → vJ8 vw10))) fun vJ83=>((i < (l.len : Int) → ∃ (ad85 : Addr), (l.a = some ad85 ∧ (0 : Int) ≤ i ∧ i < (l.len : Int)) ∧ ∃ (zz1x : ByteArray) (zz20 : Int) (zz21 : Int) (zz22 : Int) (zz1w : Sl) (zz1z : Sl) (zz1y : Sl), (ldc vw5 (ad85.add (i.toNat * 7)) [(Value.string zz1x), (Value.int .i64 zz20), (Value.int .i64 zz21), (Value.int .i64 zz22), (Sl.v zz1w), (Sl.v zz1z), (Sl.v zz1y)]) ∧ callS Tryz.prog 18 [(Value.agg #[(Value.string zz1x), (Value.int .i64 zz20), (Value.int .i64 zz21), (Value.int .i64 zz22), (Sl.v zz1w), (Sl.v zz1z), (Sl.v zz1y)])] vw5 fun v89 vw88=>∃ (zz18 : ByteArray) (zz1b : Int) (zz1c : Int) (zz1d : Int) (zz17 : Sl) (zz1a : Sl) (zz19 : Sl), v89 = (Value.agg #[(Value.string zz18), (Value.int .i64 zz1b), (Value.int .i64 zz1c), (Value.int .i64 zz1d), (Sl.v zz17), (Sl.v zz1a), (Sl.v zz19)]) ∧ newS vw88 [(Value.string (ByteArray.mk #[])), (Value.int .i64 0), (Value.int .i64 0), (Value.int .i64 0), (Sl.v Sl.nil), (Sl.v Sl.nil), (Sl.v Sl.nil)] 48 fun a91 vw92=>stw vw92 a91 [(Value.string zz18), (Value.int .i64 zz1b), (Value.int .i64 zz1c), (Value.int .i64 zz1d), (Sl.v zz17), (Sl.v zz1a), (Sl.v zz19)] fun vw93=>bnd vw93.drew fun (vw94 : World)=>∃ (zz4j : ByteArray) (zz4m : Int) (zz4n : Int) (zz4o : Int) (zz4i : Sl) (zz4l : Sl) (zz4k : Sl), (ldc vw94 a91 [(Value.string zz4j), (Value.int .i64 zz4m), (Value.int .i64 zz4n), (Value.int .i64 zz4o), (Sl.v zz4i), (Sl.v zz4l), (Sl.v zz4k)]) ∧ ∃ (ad96 : Addr), (l.a = some ad96 ∧ (0 : Int) ≤ i ∧ i < (l.len : Int)) ∧ ((callS Tryz.prog 19 [(Value.pointer t14), (Value.agg #[(Value.string zz4j), (Value.int .i64 zz4m), (Value.int .i64 zz4n), (Value.int .i64 zz4o), (Sl.v zz4i), (Sl.v zz4l), (Sl.v zz4k)])] vw94 fun v99 vw98=>∃ (t46 : Int), v99 = (Value.int .i64 t46) ∧ ∃ (zz2s : ByteArray) (zz2v : Int) (zz2w : Int) (zz2x : Int) (zz2r : Sl) (zz2u : Sl) (zz2t : Sl), (ldc vw98 (ad96.add (i.toNat * 7)) [(Value.string zz2s), (Value.int .i64 zz2v), (Value.int .i64 zz2w), (Value.int .i64 zz2x), (Sl.v zz2r), (Sl.v zz2u), (Sl.v zz2t)]) ∧ callS Tryz.prog 20 [(Value.pointer (some a)), (Value.agg #[(Value.string zz2s), (Value.int .i64 zz2v), (Value.int .i64 zz2w), (Value.int .i64 zz2x), (Sl.v zz2r), (Sl.v zz2u), (Sl.v zz2t)])] vw98 fun v103 vw102=>∃ (t52 : Int), v103 = (Value.int .i64 t52) ∧ ((¬ t46 = t52 → R false vw102) ∧ (¬ (¬ t46 = t52) → ∃ (zz24 : ByteArray) (zz27 : Int) (zz28 : Int) (zz29 : Int) (zz23 : Sl) (zz26 : Sl) (zz25 : Sl), (ldc vw102 a91 [(Value.string zz24), (Value.int .i64 zz27), (Value.int .i64 zz28), (Value.int .i64 zz29), (Sl.v zz23), (Sl.v zz26), (Sl.v zz25)]) ∧ callS Tryz.prog 21 [(Value.agg #[(Value.string zz24), (Value.int .i64 zz27), (Value.int .i64 zz28), (Value.int .i64 zz29), (Sl.v zz23), (Sl.v zz26), (Sl.v zz25)])] vw102 fun v107 vw106=>v107 = (Value.tuple #[]) ∧ vJ83 vw106))) ∧ (∃ (zz7o : ByteArray) (zz7r : Int) (zz7s : Int) (zz7t : Int) (zz7n : Sl) (zz7q : Sl) (zz7p : Sl), (ldc vw94 (ad96.add (i.toNat * 7)) [(Value.string zz7o), (Value.int .i64 zz7r), (Value.int .i64 zz7s), (Value.int .i64 zz7t), (Sl.v zz7n), (Sl.v zz7q), (Sl.v zz7p)]) ∧ callS Tryz.prog 19 [(Value.pointer t14), (Value.agg #[(Value.string zz4j), (Value.int .i64 zz4m), (Value.int .i64 zz4n), (Value.int .i64 zz4o), (Sl.v zz4i), (Sl.v zz4l), (Sl.v zz4k)])] vw94 fun v119 vw117=>∃ (t46118 : Int), v119 = (Value.int .i64 t46118) ∧ callS Tryz.prog 20 [(Value.pointer (some a)), (Value.agg #[(Value.string zz7o), (Value.int .i64 zz7r), (Value.int .i64 zz7s), (Value.int .i64 zz7t), (Sl.v zz7n), (Sl.v zz7q), (Sl.v zz7p)])] vw117 fun v123 vw121=>∃ (t52122 : Int), v123 = (Value.int .i64 t52122) ∧ ((¬ t46118 = t52122 → R false vw121) ∧ (¬ (¬ t46118 = t52122) → ∃ (zz6c : ByteArray) (zz6f : Int) (zz6g : Int) (zz6h : Int) (zz6b : Sl) (zz6e : Sl) (zz6d : Sl), (ldc vw121 a91 [(Value.string zz6c), (Value.int .i64 zz6f), (Value.int .i64 zz6g), (Value.int .i64 zz6h), (Sl.v zz6b), (Sl.v zz6e), (Sl.v zz6d)]) ∧ callS Tryz.prog 21 [(Value.agg #[(Value.string zz6c), (Value.int .i64 zz6f), (Value.int .i64 zz6g), (Value.int .i64 zz6h), (Sl.v zz6b), (Sl.v zz6e), (Sl.v zz6d)])] vw121 fun v134 vw133=>v134 = (Value.tuple #[]) ∧ vJ83 vw133))))) ∧ (¬ (i < (l.len : Int)) → vJ83 vw5))) ∧ ((b6 || (decide (i < (asks.len : Int)))) = false → bnd vw5.drew fun (vw136 : World)=>∃ (t130 : Sl), (ldc vw136 a [(Sl.v t130)]) ∧ callX Tryz.prog 31 [(Value.pointer t14)] vw136 fun v139 vw138=>∃ (t126 : Sl), v139 = (Sl.v t126) ∧ callS Tryz.prog 30 [(Sl.v t126), (Sl.v t130)] vw138 fun v142 vw141=>∃ (t131 : Bool), v142 = (Value.bool t131) ∧ ∃ (t138 : Sl), grd t131 (ldc vw141 a [(Sl.v t138)]) ∧ gCall t131 (fun (t134 : Sl) (vw145 : World)=>gCall t131 (fun (t139 : Bool) (vw150 : World)=>R (t131 && t139) vw150) (fun q=>callS Tryz.prog 30 [(Sl.v t134), (Sl.v t138)] vw145 fun v151 vw150=>∃ (t139 : Bool), v151 = (Value.bool t139) ∧ q t139 vw150) (fun q=>q false vw145)) (fun q=>callX Tryz.prog 31 [(Value.pointer t14)] vw141 fun v146 vw145=>∃ (t134 : Sl), v146 = (Sl.v t134) ∧ q t134 vw145) (fun q=>q Sl.nil vw141)))))) (fun q=>callS Tryz.prog 17 [] vw1 fun v3 vw2=>∃ (t20 : Bool), v3 = (Value.bool t20) ∧ q t20 vw2) (fun q=>q false vw1)
set_option maxHeartbeats 8000000 in
theorem halyardlaw08_CatalogScript.sound (l : Sl) (asks : Sl) (w : World) (R : Bool → World → Prop) (h : halyardlaw08_CatalogScript l asks w R) : callS Tryz.prog 4 [(Sl.v l), (Sl.v asks)] w (fun v w'=>∃ (r0 : Bool), v = (Value.bool r0) ∧ R r0 w') := by
 unfold halyardlaw08_CatalogScript at h
 refine calls_of_vc 141 rfl Tryz.func4 rfl (by kernel_rfl) (by simp) ?_
 refine Vc.seq ?_
 refine Vc.region ?_
 refine vcL_pure rfl rfl (Value.bool false) (fun w=>by kernel_rfl) ?_
 refine vcL_nil ?_
 refine Vc.seq ?_
 refine Vc.region ?_
 refine vcL_eff rfl (opVC_call rfl (by kernel_rfl) (callS.mono h fun v vw h=>?_))
 obtain ⟨t14, rfl, h⟩ := h
 refine vcL_pure rfl rfl (Value.pointer t14) (fun w=>by kernel_rfl) ?_
 refine vcL_nil ?_
 refine Vc.seq ?_
 refine Vc.region ?_
 refine vcL_pure rfl rfl (Value.agg #[(Sl.v Sl.nil)]) (fun w=>by kernel_rfl) ?_
 refine vcL_eff rfl (opVC_new rfl (fun a=>Value.pointer (some a)) (by kernel_rfl) (newS.mono h fun a vw1 hx h=>?_))
 refine vcL_pure rfl rfl (Value.pointer (some a)) (fun w=>by kernel_rfl) ?_
 refine vcL_nil ?_
 refine Vc.seq ?_
 refine Vc.seq ?_
 refine Vc.region ?_
 refine vcL_pure rfl rfl (Value.pointer t14) (fun w=>by kernel_rfl) ?_
 refine vcL_pure rfl rfl (Value.bool (Option.isNone t14)) (fun w=>by cases t14 <;> kernel_rfl) ?_
 obtain ⟨b, hb⟩ : ∃ y, y = (Option.isNone t14) := ⟨_, rfl⟩
 have h := h b hb
 refine vcL_pure rfl rfl (Value.bool b) (fun w=>by rw [hb]; kernel_rfl) ?_
 obtain ⟨vJ, hJ, h⟩ := gCall_elim h
 refine vcL_effJ (σ := Bool) (!b) (wanted_g (d := 19) rfl (by kernel_rfl) b (by kernel_rfl) (!b) (eqF b)) rfl (fun s w=>vJ s w) (fun s=>(Value.bool s)) ?_ (fun hg=>opVC_call rfl (by simp only [Bool.and_eq_true, Bool.not_eq_true'] at hg; obtain rfl := hg; kernel_rfl) (callS.mono (h.1 hg) fun v3 vw2 hq=>?_)) (fun hg=>⟨false, h.2 hg⟩)
 ·intro t20 vw2 h
  subst hJ
  refine vcL_guardP (!b) (wanted_g (d := 19) rfl (by kernel_rfl) b (by kernel_rfl) (!b) (eqF b)) rfl (Value.bool (!t20)) (fun hg w=>by simp only [Bool.and_eq_true, Bool.not_eq_true'] at hg; obtain rfl := hg; kernel_rfl) ?_
  refine vcL_pure rfl rfl (Value.bool (b || (!t20))) (fun w=>by cases b <;> kernel_rfl) ?_
  refine vcL_nil ?_
  refine Vc.cond (b || (!t20)) (by kernel_rfl) (fun hb=>?_) (fun hb=>?_)
  ·have h := h.1 (hb)
   refine Vc.seq ?_
   refine Vc.region ?_
   refine vcL_pure rfl rfl (Value.bool false) (fun w=>by kernel_rfl) ?_
   refine vcL_nil ?_
   refine Vc.ret ?_
   refine outs_ret ?_
   refine done_mk (Value.bool false) (res1 (resC_tmp (by kernel_rfl))) ?_
   exact ⟨false, rfl, h⟩
  ·have h := h.2 (hb)
   refine Vc.skip ?_
   refine Vc.seq ?_
   refine Vc.seq ?_
   refine Vc.region ?_
   refine vcL_pure rfl rfl (Value.int .i64 0) (fun w=>by kernel_rfl) ?_
   refine vcL_nil ?_
   refine Vc.block ?_
   obtain ⟨vI, mu, h, hr⟩ := h
   refine Vc.loopJ (σ := Int) [7] [4, 8, 9, 10, 11, 12, 13, 23, 24, 25, 26, 27, 28, 29, 30, 31, 32, 33, 34, 35, 36, 37, 38, 39, 40, 41, 42, 43, 44, 45, 46, 47, 48, 49, 50, 51, 52, 53, 54, 55, 56, 57, 58, 59, 60, 61, 62, 63, 64, 65, 66, 67, 68, 69, 70, 71, 72, 73, 74, 75, 76, 77, 78, 79, 80, 81, 82, 83, 84, 85, 86, 87, 88, 89, 90, 91, 92, 93, 94, 95, 96, 97, 98, 99, 100, 101, 102, 103, 104, 105, 106, 107, 108, 109, 110, 111, 112, 113, 114, 115, 116, 117, 118, 119, 120, 121, 122, 123, 124] (fun s=>[(7, (Value.int .i64 s))]) (fun s w=>vI s w) (fun s w=>mu s w) 0 h (fun _ => rfl) (by kernel_rfl) ?_
   intro i vw5 j h
   have h := hr i vw5 h
   refine Vc.seq ?_
   refine Vc.seq ?_
   refine Vc.region ?_
   refine vcL_purs 4 [(26, (Value.bool (decide (i < (l.len : Int))))), (25, (Value.int .i64 (l.len : Int))), (24, (Sl.v l)), (23, (Value.int .i64 i))] (by kernel_rfl) ?_
   obtain ⟨b6, hb6⟩ : ∃ y, y = (decide (i < (l.len : Int))) := ⟨_, rfl⟩
   have h := h b6 hb6
   refine vcL_pure rfl rfl (Value.bool b6) (fun w=>by rw [hb6]; kernel_rfl) ?_
   refine vcL_guardP (!b6) (wanted_g (d := 27) rfl (by kernel_rfl) b6 (by kernel_rfl) (!b6) (eqF b6)) rfl (Value.int .i64 i) (fun hg w=>by simp only [Bool.and_eq_true, Bool.not_eq_true'] at hg; obtain rfl := hg; kernel_rfl) ?_
   refine vcL_guardP (!b6) (wanted_g (d := 27) rfl (by kernel_rfl) b6 (by kernel_rfl) (!b6) (eqF b6)) rfl (Sl.v asks) (fun hg w=>by simp only [Bool.and_eq_true, Bool.not_eq_true'] at hg; obtain rfl := hg; kernel_rfl) ?_
   refine vcL_guardP (!b6) (wanted_g (d := 27) rfl (by kernel_rfl) b6 (by kernel_rfl) (!b6) (eqF b6)) rfl (Value.int .i64 (asks.len : Int)) (fun hg w=>by simp only [Bool.and_eq_true, Bool.not_eq_true'] at hg; obtain rfl := hg; kernel_rfl) ?_
   refine vcL_guardP (!b6) (wanted_g (d := 27) rfl (by kernel_rfl) b6 (by kernel_rfl) (!b6) (eqF b6)) rfl (Value.bool (decide (i < (asks.len : Int)))) (fun hg w=>by simp only [Bool.and_eq_true, Bool.not_eq_true'] at hg; obtain rfl := hg; kernel_rfl) ?_
   refine vcL_pure rfl rfl (Value.bool (b6 || (decide (i < (asks.len : Int))))) (fun w=>by cases b6 <;> kernel_rfl) ?_
   refine vcL_nil ?_
   refine Vc.cond (b6 || (decide (i < (asks.len : Int)))) (by kernel_rfl) (fun hb=>?_) (fun hb=>?_)
   ·have h := h.1 (hb)
    refine Vc.skip ?_
    obtain ⟨vJ8, hJ9, h⟩ := join_elim h
    refine Vc.seqJ (σ := Unit) [] [4, 8, 9, 10, 11, 12, 13, 35, 36, 37, 38, 39, 40, 41, 42, 43, 44, 45, 46, 47, 48, 49, 50, 51, 52, 53, 54, 55, 56, 57, 58, 59, 60, 61, 62, 63, 64, 65, 66, 67, 68, 69, 70, 71, 72, 73, 74, 75, 76, 77, 78, 79, 80, 81, 82, 83, 84, 85, 86, 87, 88, 89, 90, 91, 92, 93, 94, 95, 96, 97, 98, 99, 100, 101, 102, 103, 104, 105, 106, 107, 108, 109, 110, 111, 112, 113, 114, 115, 116, 117, 118, 119, 120, 121, 122, 123, 124] (fun s=>[]) (fun s w=>vJ8 w) (fun _ => rfl) ?_ ?_
    ·refine Vc.block ?_
     obtain ⟨vJ83, hJ84, h⟩ := join_elim h
     refine Vc.seqJ (σ := Unit) [] [4, 8, 35, 36, 37, 38, 39, 40, 41, 42, 43, 44, 45, 46, 47, 48, 49, 50, 51, 52, 53, 54, 55] (fun s=>[]) (fun s w=>vJ83 w) (fun _ => rfl) ?_ ?_
     ·refine Vc.seq ?_
      refine Vc.region ?_
      refine vcL_purs 4 [(38, (Value.bool (decide (i < (l.len : Int))))), (37, (Value.int .i64 (l.len : Int))), (36, (Sl.v l)), (35, (Value.int .i64 i))] (by kernel_rfl) ?_
      refine vcL_nil ?_
      refine Vc.cond (decide (i < (l.len : Int))) (by kernel_rfl) (fun hb=>?_) (fun hb=>?_)
      ·have h := h.1 (of_decide_eq_true hb)
       refine Vc.seq ?_
       refine Vc.region ?_
       refine vcL_purs 2 [(40, (Value.int .i64 i)), (39, (Sl.v l))] (by kernel_rfl) ?_
       obtain ⟨ad85, hi86, h⟩ := h
       refine vcL_pure rfl rfl (Value.pointer (some (ad85.add (i.toNat * 7)))) (fun w=>by exact exec_indexAt (s := l) (el := 48) rfl (by kernel_rfl) (by kernel_rfl) (by kernel_rfl) (fun w=>by kernel_rfl) (hi86).1 (hi86).2.1 (hi86).2.2 w) ?_
       obtain ⟨zz1x, zz20, zz21, zz22, zz1w, zz1z, zz1y, hc87, h⟩ := h
       refine vcL_val rfl rfl (Value.agg #[(Value.string zz1x), (Value.int .i64 zz20), (Value.int .i64 zz21), (Value.int .i64 zz22), (Sl.v zz1w), (Sl.v zz1z), (Sl.v zz1y)]) (exec_load rfl (by kernel_rfl) (run_loadN (fun w=>by kernel_rfl) (fun w=>by kernel_rfl) ((hc87)))) ?_
       refine vcL_eff rfl (opVC_call rfl (by kernel_rfl) (callS.mono h fun v89 vw88 h=>?_))
       obtain ⟨zz18, zz1b, zz1c, zz1d, zz17, zz1a, zz19, rfl, h⟩ := h
       refine vcL_eff rfl (opVC_new rfl (fun a=>Value.pointer (some a)) (by kernel_rfl) (newS.mono h fun a91 vw92 hx h=>?_))
       refine vcL_eff rfl (opVC_store rfl rfl (a := a91) (by kernel_rfl) (v := (Value.agg #[(Value.string zz18), (Value.int .i64 zz1b), (Value.int .i64 zz1c), (Value.int .i64 zz1d), (Sl.v zz17), (Sl.v zz1a), (Sl.v zz19)])) (by kernel_rfl) [(Value.string zz18), (Value.int .i64 zz1b), (Value.int .i64 zz1c), (Value.int .i64 zz1d), (Sl.v zz17), (Sl.v zz1a), (Sl.v zz19)] (by kernel_rfl) (fun w=>by kernel_rfl) (by kernel_rfl) (stw.mono h fun vw93 h=>?_))
       refine vcL_nil ?_
       refine Vc.seq ?_
       refine Vc.seq ?_
       obtain ⟨vw94, hvw94⟩ : ∃ y, y = vw93.drew := ⟨_, rfl⟩
       have h := h vw94 hvw94
       refine Vc.draw (by kernel_rfl) (fun i=>!(memN [2, 8] i)) (.pur 0 (.val 1 (.pur 3 (.pur 4 (.pur 5 (.pur 6 (.eff 2 (.val 7 (.eff 8 (.pur 9 .fin) .stop)) (.eff 7 (.eff 2 (.eff 8 (.pur 9 .fin) .stop) .stop) .stop)))))))) (by kernel_rfl) ?_
       rw [← hvw94]
       clear hvw94
       refine vcS_pure rfl rfl rfl (Value.pointer t14) (fun w=>by kernel_rfl) ?_
       obtain ⟨zz4j, zz4m, zz4n, zz4o, zz4i, zz4l, zz4k, hc95, h⟩ := h
       refine vcS_val rfl rfl rfl (Value.agg #[(Value.string zz4j), (Value.int .i64 zz4m), (Value.int .i64 zz4n), (Value.int .i64 zz4o), (Sl.v zz4i), (Sl.v zz4l), (Sl.v zz4k)]) (fun w' hx=>exec_load rfl (by kernel_rfl) (run_loadN (fun w=>by kernel_rfl) (fun w=>by kernel_rfl) ((hc95).ext hx))) ?_
       refine vcS_pure rfl rfl rfl (Value.pointer (some a)) (fun w=>by kernel_rfl) ?_
       refine vcS_pure rfl rfl rfl (Sl.v l) (fun w=>by kernel_rfl) ?_
       refine vcS_pure rfl rfl rfl (Value.int .i64 i) (fun w=>by kernel_rfl) ?_
       obtain ⟨ad96, hi97, h⟩ := h
       refine vcS_pure rfl rfl rfl (Value.pointer (some (ad96.add (i.toNat * 7)))) (fun w=>by exact exec_indexAt (s := l) (el := 48) rfl (by kernel_rfl) (by kernel_rfl) (by kernel_rfl) (fun w=>by kernel_rfl) (hi97).1 (hi97).2.1 (hi97).2.2 w) ?_
       have h0 := h
       have h := h.1
       refine vcS_eff rfl rfl (opVC_call rfl (by kernel_rfl) (callS.mono h fun v99 vw98 h=>?_)) ?_
       ·obtain ⟨t46, rfl, h⟩ := h
        refine ⟨fun hb=>absurd hb (by decide), ?_⟩
        obtain ⟨zz2s, zz2v, zz2w, zz2x, zz2r, zz2u, zz2t, hc101, h⟩ := h
        refine vcS_val rfl rfl rfl (Value.agg #[(Value.string zz2s), (Value.int .i64 zz2v), (Value.int .i64 zz2w), (Value.int .i64 zz2x), (Sl.v zz2r), (Sl.v zz2u), (Sl.v zz2t)]) (fun w' hx=>exec_load rfl (by kernel_rfl) (run_loadN (fun w=>by kernel_rfl) (fun w=>by kernel_rfl) ((hc101).ext hx))) ?_
        refine vcS_eff rfl rfl (opVC_call rfl (by kernel_rfl) (callS.mono h fun v103 vw102 h=>?_)) vcS_stop
        obtain ⟨t52, rfl, h⟩ := h
        refine ⟨fun hb=>absurd hb (by decide), ?_⟩
        refine vcS_pure rfl rfl rfl (Value.bool (!(t46 == t52))) (fun w=>by kernel_rfl) ?_
        refine vcS_fin ?_
        refine Vc.cond (!(t46 == t52)) (by kernel_rfl) (fun hb=>?_) (fun hb=>?_)
        ·have h := h.1 (ne_of_nbeq hb)
         refine Vc.seq ?_
         refine Vc.region ?_
         refine vcL_pure rfl rfl (Value.bool false) (fun w=>by kernel_rfl) ?_
         refine vcL_nil ?_
         refine Vc.ret ?_
         refine outOf_ret ?_
         refine outOf_ret ?_
         refine outs_ret ?_
         refine done_mk (Value.bool false) (res1 (resC_tmp (by kernel_rfl))) ?_
         exact ⟨false, rfl, h⟩
        ·have h := h.2 (nne_of_nbeq hb)
         refine Vc.skip ?_
         refine Vc.region ?_
         obtain ⟨zz24, zz27, zz28, zz29, zz23, zz26, zz25, hc105, h⟩ := h
         refine vcL_val rfl rfl (Value.agg #[(Value.string zz24), (Value.int .i64 zz27), (Value.int .i64 zz28), (Value.int .i64 zz29), (Sl.v zz23), (Sl.v zz26), (Sl.v zz25)]) (exec_load rfl (by kernel_rfl) (run_loadN (fun w=>by kernel_rfl) (fun w=>by kernel_rfl) ((hc105)))) ?_
         refine vcL_eff rfl (opVC_call rfl (by kernel_rfl) (callS.mono h fun v107 vw106 h=>?_))
         obtain ⟨rfl, h⟩ := h
         refine vcL_nil ?_
         exact ⟨(), 22, ⟨rfl, by kernel_rfl, by kernel_rfl, by kernel_rfl⟩, h⟩
       have h := h0
       have h0 := h
       have h := h.2
       obtain ⟨zz7o, zz7r, zz7s, zz7t, zz7n, zz7q, zz7p, hc116, h⟩ := h
       refine vcS_eff rfl rfl (opVC_run rfl (exec_load rfl (by kernel_rfl) (run_loadN (fun w=>by kernel_rfl) (fun w=>by kernel_rfl) ((hc116)))) ⟨fun _ => Ext.refl _, ?_⟩) ?_
       ·refine vcS_eff rfl rfl (opVC_call rfl (by kernel_rfl) (callS.mono h fun v119 vw117 h=>?_)) vcS_stop
        obtain ⟨t46118, rfl, h⟩ := h
        refine ⟨fun hb=>absurd hb (by decide), ?_⟩
        refine vcS_eff rfl rfl (opVC_call rfl (by kernel_rfl) (callS.mono h fun v123 vw121 h=>?_)) vcS_stop
        obtain ⟨t52122, rfl, h⟩ := h
        refine ⟨fun hb=>absurd hb (by decide), ?_⟩
        refine vcS_pure rfl rfl rfl (Value.bool (!(t46118 == t52122))) (fun w=>by kernel_rfl) ?_
        refine vcS_fin ?_
        refine Vc.cond (!(t46118 == t52122)) (by kernel_rfl) (fun hb=>?_) (fun hb=>?_)
        ·have h := h.1 (ne_of_nbeq hb)
         refine Vc.seq ?_
         refine Vc.region ?_
         refine vcL_pure rfl rfl (Value.bool false) (fun w=>by kernel_rfl) ?_
         refine vcL_nil ?_
         refine Vc.ret ?_
         refine outOf_ret ?_
         refine outOf_ret ?_
         refine outs_ret ?_
         refine done_mk (Value.bool false) (res1 (resC_tmp (by kernel_rfl))) ?_
         exact ⟨false, rfl, h⟩
        ·have h := h.2 (nne_of_nbeq hb)
         refine Vc.skip ?_
         refine Vc.region ?_
         obtain ⟨zz6c, zz6f, zz6g, zz6h, zz6b, zz6e, zz6d, hc132, h⟩ := h
         refine vcL_val rfl rfl (Value.agg #[(Value.string zz6c), (Value.int .i64 zz6f), (Value.int .i64 zz6g), (Value.int .i64 zz6h), (Sl.v zz6b), (Sl.v zz6e), (Sl.v zz6d)]) (exec_load rfl (by kernel_rfl) (run_loadN (fun w=>by kernel_rfl) (fun w=>by kernel_rfl) ((hc132)))) ?_
         refine vcL_eff rfl (opVC_call rfl (by kernel_rfl) (callS.mono h fun v134 vw133 h=>?_))
         obtain ⟨rfl, h⟩ := h
         refine vcL_nil ?_
         exact ⟨(), 22, ⟨rfl, by kernel_rfl, by kernel_rfl, by kernel_rfl⟩, h⟩
       have h := h0
       exact vcS_stop
      ·have h := h.2 (of_decide_eq_false hb)
       refine Vc.skip ?_
       exact ⟨(), 4, ⟨rfl, by kernel_rfl, by kernel_rfl, by kernel_rfl⟩, h⟩
     ·intro s vw10 j h
      subst hJ84
      refine Vc.seq ?_
      refine Vc.region ?_
      refine vcL_purs 4 [(59, (Value.bool (decide (i < (asks.len : Int))))), (58, (Value.int .i64 (asks.len : Int))), (57, (Sl.v asks)), (56, (Value.int .i64 i))] (by kernel_rfl) ?_
      refine vcL_nil ?_
      refine Vc.cond (decide (i < (asks.len : Int))) (by kernel_rfl) (fun hb=>?_) (fun hb=>?_)
      ·have h := h.1 (of_decide_eq_true hb)
       refine Vc.seq ?_
       refine Vc.region ?_
       refine vcL_purs 2 [(61, (Value.int .i64 i)), (60, (Sl.v asks))] (by kernel_rfl) ?_
       obtain ⟨ad, hi, h⟩ := h
       refine vcL_pure rfl rfl (Value.pointer (some (ad.add (i.toNat * 6)))) (fun w=>by exact exec_indexAt (s := asks) (el := 55) rfl (by kernel_rfl) (by kernel_rfl) (by kernel_rfl) (fun w=>by kernel_rfl) (hi).1 (hi).2.1 (hi).2.2 w) ?_
       obtain ⟨zz3s, zz3v, zz3w, zz3x, zz3u, zz3t, hc, h⟩ := h
       refine vcL_val rfl rfl (Value.agg #[(Value.string zz3s), (Value.int .i64 zz3v), (Value.int .i64 zz3w), (Value.int .i64 zz3x), (Sl.v zz3u), (Sl.v zz3t)]) (exec_load rfl (by kernel_rfl) (run_loadN (fun w=>by kernel_rfl) (fun w=>by kernel_rfl) ((hc)))) ?_
       refine vcL_eff rfl (opVC_new rfl (fun a=>Value.pointer (some a)) (by kernel_rfl) (newS.mono h fun a11 vw12 hx h=>?_))
       refine vcL_eff rfl (opVC_store rfl rfl (a := a11) (by kernel_rfl) (v := (Value.agg #[(Value.string zz3s), (Value.int .i64 zz3v), (Value.int .i64 zz3w), (Value.int .i64 zz3x), (Sl.v zz3u), (Sl.v zz3t)])) (by kernel_rfl) [(Value.string zz3s), (Value.int .i64 zz3v), (Value.int .i64 zz3w), (Value.int .i64 zz3x), (Sl.v zz3u), (Sl.v zz3t)] (by kernel_rfl) (fun w=>by kernel_rfl) (by kernel_rfl) (stw.mono h fun vw13 h=>?_))
       refine vcL_nil ?_
       refine Vc.seq ?_
       refine Vc.region ?_
       refine vcL_purs 2 [(66, (Value.pointer (some a11))), (65, (Value.pointer t14))] (by kernel_rfl) ?_
       obtain ⟨t67, hc14, h⟩ := h
       refine vcL_val rfl rfl (Value.string t67) (exec_load rfl (by kernel_rfl) (run_load1 (fun w=>by kernel_rfl) ((hc14)))) ?_
       refine vcL_pure rfl rfl (Value.pointer (some (a11.add 1))) (fun w=>by kernel_rfl) ?_
       obtain ⟨zz6p, zz6q, zz6r, hc15, h⟩ := h
       refine vcL_val rfl rfl (Value.agg #[(Value.int .i64 zz6p), (Value.int .i64 zz6q), (Value.int .i64 zz6r)]) (exec_load rfl (by kernel_rfl) (run_loadN (fun w=>by kernel_rfl) (fun w=>by kernel_rfl) ((hc15)))) ?_
       refine vcL_eff rfl (opVC_call rfl (by kernel_rfl) (callS.mono h fun v17 vw16 h=>?_))
       obtain ⟨zz35, zz38, zz39, zz3a, zz34, zz37, zz36, t70b, rfl, h⟩ := h
       refine vcL_purs 3 [(72, (Value.bool t70b)), (71, (Value.agg #[(Value.string zz35), (Value.int .i64 zz38), (Value.int .i64 zz39), (Value.int .i64 zz3a), (Sl.v zz34), (Sl.v zz37), (Sl.v zz36)])), (64, (Value.tuple #[(Value.agg #[(Value.string zz35), (Value.int .i64 zz38), (Value.int .i64 zz39), (Value.int .i64 zz3a), (Sl.v zz34), (Sl.v zz37), (Sl.v zz36)]), (Value.bool t70b)]))] (by kernel_rfl) ?_
       refine vcL_eff rfl (opVC_new rfl (fun a=>Value.pointer (some a)) (by kernel_rfl) (newS.mono h fun a19 vw20 hx h=>?_))
       refine vcL_eff rfl (opVC_store rfl rfl (a := a19) (by kernel_rfl) (v := (Value.agg #[(Value.string zz35), (Value.int .i64 zz38), (Value.int .i64 zz39), (Value.int .i64 zz3a), (Sl.v zz34), (Sl.v zz37), (Sl.v zz36)])) (by kernel_rfl) [(Value.string zz35), (Value.int .i64 zz38), (Value.int .i64 zz39), (Value.int .i64 zz3a), (Sl.v zz34), (Sl.v zz37), (Sl.v zz36)] (by kernel_rfl) (fun w=>by kernel_rfl) (by kernel_rfl) (stw.mono h fun vw21 h=>?_))
       refine vcL_pure rfl rfl (Value.bool t70b) (fun w=>by kernel_rfl) ?_
       refine vcL_nil ?_
       refine Vc.seq ?_
       refine Vc.region ?_
       refine vcL_purs 2 [(75, (Value.pointer (some a11))), (74, (Value.pointer (some a)))] (by kernel_rfl) ?_
       obtain ⟨t76, hc22, h⟩ := h
       refine vcL_val rfl rfl (Value.string t76) (exec_load rfl (by kernel_rfl) (run_load1 (fun w=>by kernel_rfl) ((hc22)))) ?_
       refine vcL_pure rfl rfl (Value.pointer (some (a11.add 1))) (fun w=>by kernel_rfl) ?_
       obtain ⟨zz6s, zz6t, zz6u, hc23, h⟩ := h
       refine vcL_val rfl rfl (Value.agg #[(Value.int .i64 zz6s), (Value.int .i64 zz6t), (Value.int .i64 zz6u)]) (exec_load rfl (by kernel_rfl) (run_loadN (fun w=>by kernel_rfl) (fun w=>by kernel_rfl) ((hc23)))) ?_
       refine vcL_eff rfl (opVC_call rfl (by kernel_rfl) (callS.mono h fun v25 vw24 h=>?_))
       obtain ⟨zz3c, zz3f, zz3g, zz3h, zz3b, zz3e, zz3d, t79b, rfl, h⟩ := h
       refine vcL_purs 3 [(81, (Value.bool t79b)), (80, (Value.agg #[(Value.string zz3c), (Value.int .i64 zz3f), (Value.int .i64 zz3g), (Value.int .i64 zz3h), (Sl.v zz3b), (Sl.v zz3e), (Sl.v zz3d)])), (73, (Value.tuple #[(Value.agg #[(Value.string zz3c), (Value.int .i64 zz3f), (Value.int .i64 zz3g), (Value.int .i64 zz3h), (Sl.v zz3b), (Sl.v zz3e), (Sl.v zz3d)]), (Value.bool t79b)]))] (by kernel_rfl) ?_
       refine vcL_eff rfl (opVC_new rfl (fun a=>Value.pointer (some a)) (by kernel_rfl) (newS.mono h fun a27 vw28 hx h=>?_))
       refine vcL_eff rfl (opVC_store rfl rfl (a := a27) (by kernel_rfl) (v := (Value.agg #[(Value.string zz3c), (Value.int .i64 zz3f), (Value.int .i64 zz3g), (Value.int .i64 zz3h), (Sl.v zz3b), (Sl.v zz3e), (Sl.v zz3d)])) (by kernel_rfl) [(Value.string zz3c), (Value.int .i64 zz3f), (Value.int .i64 zz3g), (Value.int .i64 zz3h), (Sl.v zz3b), (Sl.v zz3e), (Sl.v zz3d)] (by kernel_rfl) (fun w=>by kernel_rfl) (by kernel_rfl) (stw.mono h fun vw29 h=>?_))
       refine vcL_pure rfl rfl (Value.bool t79b) (fun w=>by kernel_rfl) ?_
       refine vcL_nil ?_
       refine Vc.seq ?_
       refine Vc.seq ?_
       obtain ⟨vw30, hvw30⟩ : ∃ y, y = vw29.drew := ⟨_, rfl⟩
       have h := h vw30 hvw30
       refine Vc.draw (by kernel_rfl) (fun i=>!(memN [6, 17, 18, 37, 38] i)) (.pur 0 (.pur 1 (.pur 2 (.pur 3 (.val 4 (.val 5 (.eff 6 (.pur 7 (.pur 8 (.pur 9 (.pur 10 (.pur 11 (.val 12 (.pur 14 (.pur 15 (.val 16 (.eff 13 (.eff 17 (.eff 18 (.pur 19 (.pur 20 (.pur 21 (.pur 22 (.pur 23 (.val 24 (.pur 25 (.val 26 (.pur 27 (.val 28 (.pur 30 (.pur 31 (.val 32 (.pur 33 (.val 34 (.pur 35 (.val 36 (.eff 29 (.eff 37 (.eff 38 (.pur 39 (.pur 40 .fin)) .stop) .stop) .stop)))))))))))))))))) .stop) .stop) .stop)))))))))) .stop))))))) (by kernel_rfl) ?_
       rw [← hvw30]
       clear hvw30
       refine vcS_pure rfl rfl rfl (Value.bool t70b) (fun w=>by kernel_rfl) ?_
       refine vcS_pure rfl rfl rfl (Value.bool t79b) (fun w=>by kernel_rfl) ?_
       refine vcS_pure rfl rfl rfl (Value.bool (!(t70b == t79b))) (fun w=>by kernel_rfl) ?_
       obtain ⟨b31, hb31⟩ : ∃ y, y = (!(t70b == t79b)) := ⟨_, rfl⟩
       have h := h b31 hb31
       refine vcS_pure rfl rfl rfl (Value.bool b31) (fun w=>by rw [hb31]; kernel_rfl) ?_
       obtain ⟨zz6w, zz6z, zz70, zz71, zz6v, zz6y, zz6x, hc32, h⟩ := h
       refine vcS_valG rfl (!b31) (wanted_g (d := 85) rfl (by kernel_rfl) b31 (by kernel_rfl) (!b31) (eqF b31)) rfl (Value.agg #[(Value.string zz6w), (Value.int .i64 zz6z), (Value.int .i64 zz70), (Value.int .i64 zz71), (Sl.v zz6v), (Sl.v zz6y), (Sl.v zz6x)]) (fun hg w' hx=>by simp only [Bool.and_eq_true, Bool.not_eq_true'] at hg; obtain rfl := hg; exact exec_load rfl (by kernel_rfl) (run_loadN (fun w=>by kernel_rfl) (fun w=>by kernel_rfl) ((hc32 rfl).ext hx))) ?_
       obtain ⟨zz73, zz76, zz77, zz78, zz72, zz75, zz74, hc33, h⟩ := h
       refine vcS_valG rfl (!b31) (wanted_g (d := 85) rfl (by kernel_rfl) b31 (by kernel_rfl) (!b31) (eqF b31)) rfl (Value.agg #[(Value.string zz73), (Value.int .i64 zz76), (Value.int .i64 zz77), (Value.int .i64 zz78), (Sl.v zz72), (Sl.v zz75), (Sl.v zz74)]) (fun hg w' hx=>by simp only [Bool.and_eq_true, Bool.not_eq_true'] at hg; obtain rfl := hg; exact exec_load rfl (by kernel_rfl) (run_loadN (fun w=>by kernel_rfl) (fun w=>by kernel_rfl) ((hc33 rfl).ext hx))) ?_
       obtain ⟨vJ37, hJ38, h⟩ := gCall_elim h
       refine vcS_effJ (σ := Bool) rfl (!b31) (wanted_g (d := 85) rfl (by kernel_rfl) b31 (by kernel_rfl) (!b31) (eqF b31)) rfl (fun s w=>vJ37 s w) (fun s=>(Value.bool s)) ?_ (fun hg=>opVC_call rfl (by simp only [Bool.and_eq_true, Bool.not_eq_true'] at hg; obtain rfl := hg; kernel_rfl) (callS.mono (h.1 hg) fun v35 vw34 hq=>?_)) (fun hg=>⟨false, h.2 hg⟩) vcS_stop
       ·intro t88 vw34 h
        subst hJ38
        refine vcS_guard rfl (!b31) (wanted_g (d := 85) rfl (by kernel_rfl) b31 (by kernel_rfl) (!b31) (eqF b31)) rfl (Value.bool (!t88)) (fun hg w=>by simp only [Bool.and_eq_true, Bool.not_eq_true'] at hg; obtain rfl := hg; kernel_rfl) ?_
        refine vcS_pure rfl rfl rfl (Value.bool (b31 || (!t88))) (fun w=>by cases b31 <;> kernel_rfl) ?_
        obtain ⟨b39, hb39⟩ : ∃ y, y = (b31 || (!t88)) := ⟨_, rfl⟩
        have h := h b39 hb39
        refine vcS_pure rfl rfl rfl (Value.bool b39) (fun w=>by rw [hb39]; kernel_rfl) ?_
        refine vcS_guard rfl (!b39) (wanted_g (d := 91) rfl (by kernel_rfl) b39 (by kernel_rfl) (!b39) (eqF b39)) rfl (Value.pointer t14) (fun hg w=>by simp only [Bool.and_eq_true, Bool.not_eq_true'] at hg; obtain rfl := hg; kernel_rfl) ?_
        refine vcS_guard rfl (!b39) (wanted_g (d := 91) rfl (by kernel_rfl) b39 (by kernel_rfl) (!b39) (eqF b39)) rfl (Value.pointer (some a11)) (fun hg w=>by simp only [Bool.and_eq_true, Bool.not_eq_true'] at hg; obtain rfl := hg; kernel_rfl) ?_
        obtain ⟨t94, hc40, h⟩ := h
        refine vcS_valG rfl (!b39) (wanted_g (d := 91) rfl (by kernel_rfl) b39 (by kernel_rfl) (!b39) (eqF b39)) rfl (Value.string t94) (fun hg w' hx=>by simp only [Bool.and_eq_true, Bool.not_eq_true'] at hg; obtain rfl := hg; exact exec_load rfl (by kernel_rfl) (run_load1 (fun w=>by kernel_rfl) ((hc40 rfl).ext hx))) ?_
        refine vcS_guard rfl (!b39) (wanted_g (d := 91) rfl (by kernel_rfl) b39 (by kernel_rfl) (!b39) (eqF b39)) rfl (Value.pointer (some a)) (fun hg w=>by simp only [Bool.and_eq_true, Bool.not_eq_true'] at hg; obtain rfl := hg; kernel_rfl) ?_
        refine vcS_guard rfl (!b39) (wanted_g (d := 91) rfl (by kernel_rfl) b39 (by kernel_rfl) (!b39) (eqF b39)) rfl (Value.pointer (some a11)) (fun hg w=>by simp only [Bool.and_eq_true, Bool.not_eq_true'] at hg; obtain rfl := hg; kernel_rfl) ?_
        obtain ⟨t98, hc41, h⟩ := h
        refine vcS_valG rfl (!b39) (wanted_g (d := 91) rfl (by kernel_rfl) b39 (by kernel_rfl) (!b39) (eqF b39)) rfl (Value.string t98) (fun hg w' hx=>by simp only [Bool.and_eq_true, Bool.not_eq_true'] at hg; obtain rfl := hg; exact exec_load rfl (by kernel_rfl) (run_load1 (fun w=>by kernel_rfl) ((hc41 rfl).ext hx))) ?_
        obtain ⟨vJ45, hJ46, h⟩ := gCall_elim h
        refine vcS_effJ (σ := Sl) rfl (!b39) (wanted_g (d := 91) rfl (by kernel_rfl) b39 (by kernel_rfl) (!b39) (eqF b39)) rfl (fun s w=>vJ45 s w) (fun s=>(Sl.v s)) ?_ (fun hg=>opVC_call rfl (by simp only [Bool.and_eq_true, Bool.not_eq_true'] at hg; obtain rfl := hg; kernel_rfl) (callS.mono (h.1 hg) fun v43 vw42 hq=>?_)) (fun hg=>⟨Sl.nil, h.2 hg⟩) vcS_stop
        ·intro t95 vw42 h
         subst hJ46
         obtain ⟨vJ50, hJ51, h⟩ := gCall_elim h
         refine vcS_effJ (σ := Sl) rfl (!b39) (wanted_g (d := 91) rfl (by kernel_rfl) b39 (by kernel_rfl) (!b39) (eqF b39)) rfl (fun s w=>vJ50 s w) (fun s=>(Sl.v s)) ?_ (fun hg=>opVC_call rfl (by simp only [Bool.and_eq_true, Bool.not_eq_true'] at hg; obtain rfl := hg; kernel_rfl) (callS.mono (h.1 hg) fun v48 vw47 hq=>?_)) (fun hg=>⟨Sl.nil, h.2 hg⟩) vcS_stop
         ·intro t99 vw47 h
          subst hJ51
          obtain ⟨vJ55, hJ56, h⟩ := gCall_elim h
          refine vcS_effJ (σ := Bool) rfl (!b39) (wanted_g (d := 91) rfl (by kernel_rfl) b39 (by kernel_rfl) (!b39) (eqF b39)) rfl (fun s w=>vJ55 s w) (fun s=>(Value.bool s)) ?_ (fun hg=>opVC_call rfl (by simp only [Bool.and_eq_true, Bool.not_eq_true'] at hg; obtain rfl := hg; kernel_rfl) (callS.mono (h.1 hg) fun v53 vw52 hq=>?_)) (fun hg=>⟨false, h.2 hg⟩) vcS_stop
          ·intro t100 vw52 h
           subst hJ56
           refine vcS_guard rfl (!b39) (wanted_g (d := 91) rfl (by kernel_rfl) b39 (by kernel_rfl) (!b39) (eqF b39)) rfl (Value.bool (!t100)) (fun hg w=>by simp only [Bool.and_eq_true, Bool.not_eq_true'] at hg; obtain rfl := hg; kernel_rfl) ?_
           refine vcS_pure rfl rfl rfl (Value.bool (b39 || (!t100))) (fun w=>by cases b39 <;> kernel_rfl) ?_
           obtain ⟨b57, hb57⟩ : ∃ y, y = (b39 || (!t100)) := ⟨_, rfl⟩
           have h := h b57 hb57
           refine vcS_pure rfl rfl rfl (Value.bool b57) (fun w=>by rw [hb57]; kernel_rfl) ?_
           refine vcS_guard rfl (!b57) (wanted_g (d := 103) rfl (by kernel_rfl) b57 (by kernel_rfl) (!b57) (eqF b57)) rfl (Value.pointer t14) (fun hg w=>by simp only [Bool.and_eq_true, Bool.not_eq_true'] at hg; obtain rfl := hg; kernel_rfl) ?_
           refine vcS_guard rfl (!b57) (wanted_g (d := 103) rfl (by kernel_rfl) b57 (by kernel_rfl) (!b57) (eqF b57)) rfl (Value.pointer (some a11)) (fun hg w=>by simp only [Bool.and_eq_true, Bool.not_eq_true'] at hg; obtain rfl := hg; kernel_rfl) ?_
           obtain ⟨t106, hc58, h⟩ := h
           refine vcS_valG rfl (!b57) (wanted_g (d := 103) rfl (by kernel_rfl) b57 (by kernel_rfl) (!b57) (eqF b57)) rfl (Value.string t106) (fun hg w' hx=>by simp only [Bool.and_eq_true, Bool.not_eq_true'] at hg; obtain rfl := hg; exact exec_load rfl (by kernel_rfl) (run_load1 (fun w=>by kernel_rfl) ((hc58 rfl).ext hx))) ?_
           refine vcS_guard rfl (!b57) (wanted_g (d := 103) rfl (by kernel_rfl) b57 (by kernel_rfl) (!b57) (eqF b57)) rfl (Value.pointer (some (a11.add 4))) (fun hg w=>by simp only [Bool.and_eq_true, Bool.not_eq_true'] at hg; obtain rfl := hg; kernel_rfl) ?_
           obtain ⟨t108, hc59, h⟩ := h
           refine vcS_valG rfl (!b57) (wanted_g (d := 103) rfl (by kernel_rfl) b57 (by kernel_rfl) (!b57) (eqF b57)) rfl (Sl.v t108) (fun hg w' hx=>by simp only [Bool.and_eq_true, Bool.not_eq_true'] at hg; obtain rfl := hg; exact exec_load rfl (by kernel_rfl) (run_load1 (fun w=>by kernel_rfl) ((hc59 rfl).ext hx))) ?_
           refine vcS_guard rfl (!b57) (wanted_g (d := 103) rfl (by kernel_rfl) b57 (by kernel_rfl) (!b57) (eqF b57)) rfl (Value.pointer (some (a11.add 5))) (fun hg w=>by simp only [Bool.and_eq_true, Bool.not_eq_true'] at hg; obtain rfl := hg; kernel_rfl) ?_
           obtain ⟨t110, hc60, h⟩ := h
           refine vcS_valG rfl (!b57) (wanted_g (d := 103) rfl (by kernel_rfl) b57 (by kernel_rfl) (!b57) (eqF b57)) rfl (Sl.v t110) (fun hg w' hx=>by simp only [Bool.and_eq_true, Bool.not_eq_true'] at hg; obtain rfl := hg; exact exec_load rfl (by kernel_rfl) (run_load1 (fun w=>by kernel_rfl) ((hc60 rfl).ext hx))) ?_
           refine vcS_guard rfl (!b57) (wanted_g (d := 103) rfl (by kernel_rfl) b57 (by kernel_rfl) (!b57) (eqF b57)) rfl (Value.pointer (some a)) (fun hg w=>by simp only [Bool.and_eq_true, Bool.not_eq_true'] at hg; obtain rfl := hg; kernel_rfl) ?_
           refine vcS_guard rfl (!b57) (wanted_g (d := 103) rfl (by kernel_rfl) b57 (by kernel_rfl) (!b57) (eqF b57)) rfl (Value.pointer (some a11)) (fun hg w=>by simp only [Bool.and_eq_true, Bool.not_eq_true'] at hg; obtain rfl := hg; kernel_rfl) ?_
           obtain ⟨t114, hc61, h⟩ := h
           refine vcS_valG rfl (!b57) (wanted_g (d := 103) rfl (by kernel_rfl) b57 (by kernel_rfl) (!b57) (eqF b57)) rfl (Value.string t114) (fun hg w' hx=>by simp only [Bool.and_eq_true, Bool.not_eq_true'] at hg; obtain rfl := hg; exact exec_load rfl (by kernel_rfl) (run_load1 (fun w=>by kernel_rfl) ((hc61 rfl).ext hx))) ?_
           refine vcS_guard rfl (!b57) (wanted_g (d := 103) rfl (by kernel_rfl) b57 (by kernel_rfl) (!b57) (eqF b57)) rfl (Value.pointer (some (a11.add 4))) (fun hg w=>by simp only [Bool.and_eq_true, Bool.not_eq_true'] at hg; obtain rfl := hg; kernel_rfl) ?_
           obtain ⟨t116, hc62, h⟩ := h
           refine vcS_valG rfl (!b57) (wanted_g (d := 103) rfl (by kernel_rfl) b57 (by kernel_rfl) (!b57) (eqF b57)) rfl (Sl.v t116) (fun hg w' hx=>by simp only [Bool.and_eq_true, Bool.not_eq_true'] at hg; obtain rfl := hg; exact exec_load rfl (by kernel_rfl) (run_load1 (fun w=>by kernel_rfl) ((hc62 rfl).ext hx))) ?_
           refine vcS_guard rfl (!b57) (wanted_g (d := 103) rfl (by kernel_rfl) b57 (by kernel_rfl) (!b57) (eqF b57)) rfl (Value.pointer (some (a11.add 5))) (fun hg w=>by simp only [Bool.and_eq_true, Bool.not_eq_true'] at hg; obtain rfl := hg; kernel_rfl) ?_
           obtain ⟨t118, hc63, h⟩ := h
           refine vcS_valG rfl (!b57) (wanted_g (d := 103) rfl (by kernel_rfl) b57 (by kernel_rfl) (!b57) (eqF b57)) rfl (Sl.v t118) (fun hg w' hx=>by simp only [Bool.and_eq_true, Bool.not_eq_true'] at hg; obtain rfl := hg; exact exec_load rfl (by kernel_rfl) (run_load1 (fun w=>by kernel_rfl) ((hc63 rfl).ext hx))) ?_
           obtain ⟨vJ67, hJ68, h⟩ := gCall_elim h
           refine vcS_effJ (σ := Sl) rfl (!b57) (wanted_g (d := 103) rfl (by kernel_rfl) b57 (by kernel_rfl) (!b57) (eqF b57)) rfl (fun s w=>vJ67 s w) (fun s=>(Sl.v s)) ?_ (fun hg=>opVC_call rfl (by simp only [Bool.and_eq_true, Bool.not_eq_true'] at hg; obtain rfl := hg; kernel_rfl) (callS.mono (h.1 hg) fun v65 vw64 hq=>?_)) (fun hg=>⟨Sl.nil, h.2 hg⟩) vcS_stop
           ·intro t111 vw64 h
            subst hJ68
            obtain ⟨vJ72, hJ73, h⟩ := gCall_elim h
            refine vcS_effJ (σ := Sl) rfl (!b57) (wanted_g (d := 103) rfl (by kernel_rfl) b57 (by kernel_rfl) (!b57) (eqF b57)) rfl (fun s w=>vJ72 s w) (fun s=>(Sl.v s)) ?_ (fun hg=>opVC_call rfl (by simp only [Bool.and_eq_true, Bool.not_eq_true'] at hg; obtain rfl := hg; kernel_rfl) (callS.mono (h.1 hg) fun v70 vw69 hq=>?_)) (fun hg=>⟨Sl.nil, h.2 hg⟩) vcS_stop
            ·intro t119 vw69 h
             subst hJ73
             obtain ⟨vJ77, hJ78, h⟩ := gCall_elim h
             refine vcS_effJ (σ := Bool) rfl (!b57) (wanted_g (d := 103) rfl (by kernel_rfl) b57 (by kernel_rfl) (!b57) (eqF b57)) rfl (fun s w=>vJ77 s w) (fun s=>(Value.bool s)) ?_ (fun hg=>opVC_call rfl (by simp only [Bool.and_eq_true, Bool.not_eq_true'] at hg; obtain rfl := hg; kernel_rfl) (callS.mono (h.1 hg) fun v75 vw74 hq=>?_)) (fun hg=>⟨false, h.2 hg⟩) vcS_stop
             ·intro t120 vw74 h
              subst hJ78
              refine vcS_guard rfl (!b57) (wanted_g (d := 103) rfl (by kernel_rfl) b57 (by kernel_rfl) (!b57) (eqF b57)) rfl (Value.bool (!t120)) (fun hg w=>by simp only [Bool.and_eq_true, Bool.not_eq_true'] at hg; obtain rfl := hg; kernel_rfl) ?_
              refine vcS_pure rfl rfl rfl (Value.bool (b57 || (!t120))) (fun w=>by cases b57 <;> kernel_rfl) ?_
              refine vcS_fin ?_
              refine Vc.cond (b57 || (!t120)) (by kernel_rfl) (fun hb=>?_) (fun hb=>?_)
              ·have h := h.1 (hb)
               refine Vc.seq ?_
               refine Vc.region ?_
               refine vcL_pure rfl rfl (Value.bool false) (fun w=>by kernel_rfl) ?_
               refine vcL_nil ?_
               refine Vc.ret ?_
               refine outOf_ret ?_
               refine outOf_ret ?_
               refine outs_ret ?_
               refine done_mk (Value.bool false) (res1 (resC_tmp (by kernel_rfl))) ?_
               exact ⟨false, rfl, h⟩
              ·have h := h.2 (hb)
               refine Vc.skip ?_
               refine Vc.region ?_
               obtain ⟨zz4q, zz4t, zz4u, zz4v, zz4p, zz4s, zz4r, hc79, h⟩ := h
               refine vcL_val rfl rfl (Value.agg #[(Value.string zz4q), (Value.int .i64 zz4t), (Value.int .i64 zz4u), (Value.int .i64 zz4v), (Sl.v zz4p), (Sl.v zz4s), (Sl.v zz4r)]) (exec_load rfl (by kernel_rfl) (run_loadN (fun w=>by kernel_rfl) (fun w=>by kernel_rfl) ((hc79)))) ?_
               refine vcL_eff rfl (opVC_call rfl (by kernel_rfl) (callS.mono h fun v81 vw80 h=>?_))
               obtain ⟨rfl, h⟩ := h
               refine vcL_nil ?_
               exact ⟨(), 97, ⟨rfl, by kernel_rfl, by kernel_rfl, by kernel_rfl⟩, h⟩
             ·obtain ⟨t120, rfl, hq⟩ := hq
              exact ⟨fun hb=>absurd hb (by decide), t120, rfl, hq⟩
            ·obtain ⟨t119, rfl, hq⟩ := hq
             exact ⟨fun hb=>absurd hb (by decide), t119, rfl, hq⟩
           ·obtain ⟨hx, hq⟩ := hq
            obtain ⟨t111, rfl, hq⟩ := hq
            exact ⟨fun _ => hx, t111, rfl, hq⟩
          ·obtain ⟨t100, rfl, hq⟩ := hq
           exact ⟨fun hb=>absurd hb (by decide), t100, rfl, hq⟩
         ·obtain ⟨t99, rfl, hq⟩ := hq
          exact ⟨fun hb=>absurd hb (by decide), t99, rfl, hq⟩
        ·obtain ⟨hx, hq⟩ := hq
         obtain ⟨t95, rfl, hq⟩ := hq
         exact ⟨fun _ => hx, t95, rfl, hq⟩
       ·obtain ⟨t88, rfl, hq⟩ := hq
        exact ⟨fun hb=>absurd hb (by decide), t88, rfl, hq⟩
      ·have h := h.2 (of_decide_eq_false hb)
       refine Vc.skip ?_
       exact ⟨(), 27, ⟨rfl, by kernel_rfl, by kernel_rfl, by kernel_rfl⟩, h⟩
    ·intro s vw7 j h
     subst hJ9
     refine Vc.region ?_
     refine vcL_purs 3 [(7, (Value.int .i64 (wrapI (i + 1)))), (34, (Value.int .i64 (wrapI (i + 1)))), (33, (Value.int .i64 i))] (by kernel_rfl) ?_
     refine vcL_nil ?_
     exact ⟨(wrapI (i + 1)), 220, ⟨rfl, by kernel_rfl, by kernel_rfl, by kernel_rfl⟩, h⟩
   ·have h := h.2 (hb)
    refine Vc.exit ?_
    refine outOf_hit ?_
    refine Vc.seq ?_
    obtain ⟨vw136, hvw136⟩ : ∃ y, y = vw5.drew := ⟨_, rfl⟩
    have h := h vw136 hvw136
    refine Vc.draw (by kernel_rfl) (fun i=>!(memN [6, 14] i)) (.pur 0 (.pur 2 (.pur 3 (.pur 4 (.val 5 (.eff 1 (.eff 6 (.pur 7 (.pur 8 (.pur 10 (.pur 11 (.pur 12 (.val 13 (.eff 9 (.eff 14 (.pur 15 (.pur 16 .fin)) .stop) .stop))))))) .stop) .stop)))))) (by kernel_rfl) ?_
    rw [← hvw136]
    clear hvw136
    refine vcS_pure rfl rfl rfl (Value.pointer t14) (fun w=>by kernel_rfl) ?_
    refine vcS_pure rfl rfl rfl (Value.pointer (some a)) (fun w=>by kernel_rfl) ?_
    refine vcS_pure rfl rfl rfl (Value.pointer (some a)) (fun w=>by kernel_rfl) ?_
    refine vcS_pure rfl rfl rfl (Value.pointer (some a)) (fun w=>by kernel_rfl) ?_
    obtain ⟨t130, hc137, h⟩ := h
    refine vcS_val rfl rfl rfl (Sl.v t130) (fun w' hx=>exec_load rfl (by kernel_rfl) (run_load1 (fun w=>by kernel_rfl) ((hc137).ext hx))) ?_
    refine vcS_eff rfl rfl (opVC_call rfl (by kernel_rfl) (callS.mono h fun v139 vw138 h=>?_)) vcS_stop
    obtain ⟨hx140, h⟩ := h
    obtain ⟨t126, rfl, h⟩ := h
    refine ⟨fun _ => hx140, ?_⟩
    refine vcS_eff rfl rfl (opVC_call rfl (by kernel_rfl) (callS.mono h fun v142 vw141 h=>?_)) vcS_stop
    obtain ⟨t131, rfl, h⟩ := h
    refine ⟨fun hb=>absurd hb (by decide), ?_⟩
    refine vcS_pure rfl rfl rfl (Value.bool t131) (fun w=>by kernel_rfl) ?_
    refine vcS_guard rfl t131 (wanted_g (d := 132) rfl (by kernel_rfl) t131 (by kernel_rfl) t131 (eqT t131)) rfl (Value.pointer t14) (fun hg w=>by subst hg; kernel_rfl) ?_
    refine vcS_guard rfl t131 (wanted_g (d := 132) rfl (by kernel_rfl) t131 (by kernel_rfl) t131 (eqT t131)) rfl (Value.pointer (some a)) (fun hg w=>by subst hg; kernel_rfl) ?_
    refine vcS_guard rfl t131 (wanted_g (d := 132) rfl (by kernel_rfl) t131 (by kernel_rfl) t131 (eqT t131)) rfl (Value.pointer (some a)) (fun hg w=>by subst hg; kernel_rfl) ?_
    refine vcS_guard rfl t131 (wanted_g (d := 132) rfl (by kernel_rfl) t131 (by kernel_rfl) t131 (eqT t131)) rfl (Value.pointer (some a)) (fun hg w=>by subst hg; kernel_rfl) ?_
    obtain ⟨t138, hc144, h⟩ := h
    refine vcS_valG rfl t131 (wanted_g (d := 132) rfl (by kernel_rfl) t131 (by kernel_rfl) t131 (eqT t131)) rfl (Sl.v t138) (fun hg w' hx=>by subst hg; exact exec_load rfl (by kernel_rfl) (run_load1 (fun w=>by kernel_rfl) ((hc144 rfl).ext hx))) ?_
    obtain ⟨vJ148, hJ149, h⟩ := gCall_elim h
    refine vcS_effJ (σ := Sl) rfl t131 (wanted_g (d := 132) rfl (by kernel_rfl) t131 (by kernel_rfl) t131 (eqT t131)) rfl (fun s w=>vJ148 s w) (fun s=>(Sl.v s)) ?_ (fun hg=>opVC_call rfl (by subst hg; kernel_rfl) (callS.mono (h.1 hg) fun v146 vw145 hq=>?_)) (fun hg=>⟨Sl.nil, h.2 hg⟩) vcS_stop
    ·intro t134 vw145 h
     subst hJ149
     obtain ⟨vJ153, hJ154, h⟩ := gCall_elim h
     refine vcS_effJ (σ := Bool) rfl t131 (wanted_g (d := 132) rfl (by kernel_rfl) t131 (by kernel_rfl) t131 (eqT t131)) rfl (fun s w=>vJ153 s w) (fun s=>(Value.bool s)) ?_ (fun hg=>opVC_call rfl (by subst hg; kernel_rfl) (callS.mono (h.1 hg) fun v151 vw150 hq=>?_)) (fun hg=>⟨false, h.2 hg⟩) vcS_stop
     ·intro t139 vw150 h
      subst hJ154
      refine vcS_pure rfl rfl rfl (Value.bool (t131 && t139)) (fun w=>by cases t131 <;> kernel_rfl) ?_
      refine vcS_pure rfl rfl rfl (Value.bool (t131 && t139)) (fun w=>by kernel_rfl) ?_
      refine vcS_fin ?_
      refine Vc.ret ?_
      refine outs_ret ?_
      refine done_mk (Value.bool (t131 && t139)) (res1 (resC_tmp (by kernel_rfl))) ?_
      exact ⟨(t131 && t139), rfl, h⟩
     ·obtain ⟨t139, rfl, hq⟩ := hq
      exact ⟨fun hb=>absurd hb (by decide), t139, rfl, hq⟩
    ·obtain ⟨hx, hq⟩ := hq
     obtain ⟨t134, rfl, hq⟩ := hq
     exact ⟨fun _ => hx, t134, rfl, hq⟩
 ·obtain ⟨t20, rfl, hq⟩ := hq
  exact ⟨t20, rfl, hq⟩
theorem halyardlaw08_CatalogScript.go {l : Sl} {asks : Sl} {w : World} {k : Value → World → Prop} (h : halyardlaw08_CatalogScript l asks w fun r0 w'=>k (Value.bool r0) w') : callS Tryz.prog 4 [(Sl.v l), (Sl.v asks)] w k := (halyardlaw08_CatalogScript.sound l asks w _ h).mono (by rintro _ _ ⟨r0, rfl, h⟩; exact h)
def halyardref05_Less (a : ByteArray) (b : ByteArray) (w : World) (R : Bool → World → Prop) : Prop :=
 callS Tryz.prog 59 [(Value.string a), (Value.string b)] w fun v vw=>∃ (t7 : Bool), v = (Value.bool t7) ∧ R t7 vw
set_option maxHeartbeats 8000000 in
theorem halyardref05_Less.sound (a : ByteArray) (b : ByteArray) (w : World) (R : Bool → World → Prop) (h : halyardref05_Less a b w R) : callS Tryz.prog 15 [(Value.string a), (Value.string b)] w (fun v w'=>∃ (r0 : Bool), v = (Value.bool r0) ∧ R r0 w') := by
 unfold halyardref05_Less at h
 refine calls_of_vc 8 rfl Tryz.func15 rfl (by kernel_rfl) (by simp) ?_
 refine Vc.seq ?_
 refine Vc.region ?_
 refine vcL_pure rfl rfl (Value.bool false) (fun w=>by kernel_rfl) ?_
 refine vcL_nil ?_
 refine Vc.seq ?_
 refine Vc.region ?_
 refine vcL_purs 2 [(6, (Value.string b)), (5, (Value.string a))] (by kernel_rfl) ?_
 refine vcL_eff rfl (opVC_call rfl (by kernel_rfl) (callS.mono h fun v vw h=>?_))
 obtain ⟨t7, rfl, h⟩ := h
 refine vcL_pure rfl rfl (Value.bool t7) (fun w=>by kernel_rfl) ?_
 refine vcL_nil ?_
 refine Vc.ret ?_
 refine outs_ret ?_
 refine done_mk (Value.bool t7) (res1 (resC_tmp (by kernel_rfl))) ?_
 exact ⟨t7, rfl, h⟩
theorem halyardref05_Less.go {a : ByteArray} {b : ByteArray} {w : World} {k : Value → World → Prop} (h : halyardref05_Less a b w fun r0 w'=>k (Value.bool r0) w') : callS Tryz.prog 15 [(Value.string a), (Value.string b)] w k := (halyardref05_Less.sound a b w _ h).mono (by rintro _ _ ⟨r0, rfl, h⟩; exact h)
def catalog_New (w : World) (R : Option Addr → World → Prop) : Prop :=
 semS Tryz.prog (Instr.makeMap 101 none) w fun v vw=>∃ (t1 : Option Nat), v = (Value.map t1) ∧ newS vw [(Value.map t1)] 103 fun a vw1=>R (some a) vw1
set_option maxHeartbeats 8000000 in
theorem catalog_New.sound (w : World) (R : Option Addr → World → Prop) (h : catalog_New w R) : callS Tryz.prog 16 [] w (fun v w'=>∃ (r0 : Option Addr), v = (Value.pointer r0) ∧ R r0 w') := by
 unfold catalog_New at h
 refine calls_of_vc 4 rfl Tryz.func16 rfl (by kernel_rfl) (by simp) ?_
 refine Vc.seq ?_
 refine Vc.region ?_
 refine vcL_pure rfl rfl (Value.pointer none) (fun w=>by kernel_rfl) ?_
 refine vcL_nil ?_
 refine Vc.seq ?_
 refine Vc.region ?_
 refine vcL_eff rfl (opVC_sem rfl (c := Instr.makeMap 101 none) (by kernel_rfl) (semS.mono h fun v vw h=>?_))
 obtain ⟨t1, rfl, h⟩ := h
 refine vcL_pure rfl rfl (Value.agg #[(Value.map t1)]) (fun w=>by kernel_rfl) ?_
 refine vcL_eff rfl (opVC_new rfl (fun a=>Value.pointer (some a)) (by kernel_rfl) (newS.mono h fun a vw1 hx h=>?_))
 refine vcL_pure rfl rfl (Value.pointer (some a)) (fun w=>by kernel_rfl) ?_
 refine vcL_nil ?_
 refine Vc.ret ?_
 refine outs_ret ?_
 refine done_mk (Value.pointer (some a)) (res1 (resC_tmp (by kernel_rfl))) ?_
 exact ⟨(some a), rfl, h⟩
theorem catalog_New.go {w : World} {k : Value → World → Prop} (h : catalog_New w fun r0 w'=>k (Value.pointer r0) w') : callS Tryz.prog 16 [] w k := (catalog_New.sound w _ h).mono (by rintro _ _ ⟨r0, rfl, h⟩; exact h)
def halyardlaw08_known (w : World) (R : Bool → World → Prop) : Prop :=
 callS Tryz.prog 16 [] w fun v vw=>∃ (t7 : Option Addr), v = (Value.pointer t7) ∧ ((t7 = none → R false vw) ∧ (¬ (t7 = none) → newS vw [(Value.int .i64 0), (Value.int .i64 0), (Value.int .i64 0)] 30 fun a vw1=>stw vw1 a [(Value.int .i64 1), (Value.int .i64 0), (Value.int .i64 0)] fun vw2=>∃ (zzr : Int) (zzs : Int) (zzt : Int), (ldc vw2 a [(Value.int .i64 zzr), (Value.int .i64 zzs), (Value.int .i64 zzt)]) ∧ callS Tryz.prog 19 [(Value.pointer t7), (Value.agg #[(Value.string (ByteArray.mk #[97])), (Value.int .i64 zzr), (Value.int .i64 zzs), (Value.int .i64 zzt), (Sl.v Sl.nil), (Sl.v Sl.nil), (Sl.v Sl.nil)])] vw2 fun v4 vw3=>∃ (t14 : Int), v4 = (Value.int .i64 t14) ∧ ∃ (zz1e : Int) (zz1f : Int) (zz1g : Int), (ldc vw3 a [(Value.int .i64 zz1e), (Value.int .i64 zz1f), (Value.int .i64 zz1g)]) ∧ callS Tryz.prog 22 [(Value.pointer t7), (Value.string (ByteArray.mk #[97])), (Value.agg #[(Value.int .i64 zz1e), (Value.int .i64 zz1f), (Value.int .i64 zz1g)])] vw3 fun v8 vw7=>∃ (zz8 : ByteArray) (zzb : Int) (zzc : Int) (zzd : Int) (zz7 : Sl) (zza : Sl) (zz9 : Sl) (t18b : Bool), v8 = (Value.tuple #[(Value.agg #[(Value.string zz8), (Value.int .i64 zzb), (Value.int .i64 zzc), (Value.int .i64 zzd), (Sl.v zz7), (Sl.v zza), (Sl.v zz9)]), (Value.bool t18b)]) ∧ newS vw7 [(Value.string (ByteArray.mk #[])), (Value.int .i64 0), (Value.int .i64 0), (Value.int .i64 0), (Sl.v Sl.nil), (Sl.v Sl.nil), (Sl.v Sl.nil)] 48 fun a10 vw11=>stw vw11 a10 [(Value.string zz8), (Value.int .i64 zzb), (Value.int .i64 zzc), (Value.int .i64 zzd), (Sl.v zz7), (Sl.v zza), (Sl.v zz9)] fun vw12=>callS Tryz.prog 49 [] vw12 fun v14 vw13=>∃ (t22 : Sl), v14 = (Sl.v t22) ∧ callS Tryz.prog 28 [(Value.pointer t7), (Value.string (ByteArray.mk #[97])), (Sl.v t22), (Sl.v Sl.nil)] vw13 fun v17 vw16=>∃ (t23 : Sl), v17 = (Sl.v t23) ∧ bnd vw16.drew fun (vw19 : World)=>bnd (t14 == 0) fun (b : Bool)=>bnd (b && t18b) fun (b20 : Bool)=>∃ (t31 : ByteArray), grd b20 (ldc vw19 a10 [(Value.string t31)]) ∧ bnd (b20 && (bEq t31 (ByteArray.mk #[97]))) fun (b22 : Bool)=>bnd (b22 && ((t23.len : Int) == 1)) fun (b23 : Bool)=>∃ (ad : Addr), grd b23 (t23.a = some ad ∧ (0 : Int) ≤ 0 ∧ 0 < (t23.len : Int)) ∧ ∃ (zz2o : Int) (zz2p : Int) (zz2q : Int), grd b23 (ldc vw19 (ad.add ((0 : Int).toNat * 3)) [(Value.int .i64 zz2o), (Value.int .i64 zz2p), (Value.int .i64 zz2q)]) ∧ ∃ (zz11 : Int) (zz12 : Int) (zz13 : Int), grd b23 (ldc vw19 a [(Value.int .i64 zz11), (Value.int .i64 zz12), (Value.int .i64 zz13)]) ∧ bnd (b23 && ((zz2o == zz11) && ((zz2p == zz12) && ((zz2q == zz13) && true)))) fun (b26 : Bool)=>gCall b26 (fun (t48 : Sl) (vw27 : World)=>R (b26 && ((t48.len : Int) == 1)) vw27) (fun q=>callS Tryz.prog 31 [(Value.pointer t7)] vw19 fun v28 vw27=>∃ (t48 : Sl), v28 = (Sl.v t48) ∧ q t48 vw27) (fun q=>q Sl.nil vw19)))
set_option maxHeartbeats 8000000 in
theorem halyardlaw08_known.sound (w : World) (R : Bool → World → Prop) (h : halyardlaw08_known w R) : callS Tryz.prog 17 [] w (fun v w'=>∃ (r0 : Bool), v = (Value.bool r0) ∧ R r0 w') := by
 unfold halyardlaw08_known at h
 refine calls_of_vc 52 rfl Tryz.func17 rfl (by kernel_rfl) (by simp) ?_
 refine Vc.seq ?_
 refine Vc.region ?_
 refine vcL_pure rfl rfl (Value.bool false) (fun w=>by kernel_rfl) ?_
 refine vcL_nil ?_
 refine Vc.seq ?_
 refine Vc.region ?_
 refine vcL_eff rfl (opVC_call rfl (by kernel_rfl) (callS.mono h fun v vw h=>?_))
 obtain ⟨t7, rfl, h⟩ := h
 refine vcL_pure rfl rfl (Value.pointer t7) (fun w=>by kernel_rfl) ?_
 refine vcL_nil ?_
 refine Vc.seq ?_
 refine Vc.seq ?_
 refine Vc.region ?_
 refine vcL_pure rfl rfl (Value.pointer t7) (fun w=>by kernel_rfl) ?_
 refine vcL_pure rfl rfl (Value.bool (Option.isNone t7)) (fun w=>by cases t7 <;> kernel_rfl) ?_
 refine vcL_nil ?_
 refine Vc.cond (Option.isNone t7) (by kernel_rfl) (fun hb=>?_) (fun hb=>?_)
 ·have h := h.1 (Option.isNone_iff_eq_none.1 hb)
  refine Vc.seq ?_
  refine Vc.region ?_
  refine vcL_pure rfl rfl (Value.bool false) (fun w=>by kernel_rfl) ?_
  refine vcL_nil ?_
  refine Vc.ret ?_
  refine outs_ret ?_
  refine done_mk (Value.bool false) (res1 (resC_tmp (by kernel_rfl))) ?_
  exact ⟨false, rfl, h⟩
 ·have h := h.2 (isNone_false hb)
  refine Vc.skip ?_
  refine Vc.seq ?_
  refine Vc.region ?_
  refine vcL_pure rfl rfl (Value.agg #[(Value.int .i64 1), (Value.int .i64 0), (Value.int .i64 0)]) (fun w=>by kernel_rfl) ?_
  refine vcL_eff rfl (opVC_new rfl (fun a=>Value.pointer (some a)) (by kernel_rfl) (newS.mono h fun a vw1 hx h=>?_))
  refine vcL_eff rfl (opVC_store rfl rfl (a := a) (by kernel_rfl) (v := (Value.agg #[(Value.int .i64 1), (Value.int .i64 0), (Value.int .i64 0)])) (by kernel_rfl) [(Value.int .i64 1), (Value.int .i64 0), (Value.int .i64 0)] (by kernel_rfl) (fun w=>by kernel_rfl) (by kernel_rfl) (stw.mono h fun vw2 h=>?_))
  refine vcL_nil ?_
  refine Vc.seq ?_
  refine Vc.region ?_
  refine vcL_pure rfl rfl (Value.pointer t7) (fun w=>by kernel_rfl) ?_
  obtain ⟨zzr, zzs, zzt, hc, h⟩ := h
  refine vcL_val rfl rfl (Value.agg #[(Value.int .i64 zzr), (Value.int .i64 zzs), (Value.int .i64 zzt)]) (exec_load rfl (by kernel_rfl) (run_loadN (fun w=>by kernel_rfl) (fun w=>by kernel_rfl) ((hc)))) ?_
  refine vcL_pure rfl rfl (Value.agg #[(Value.string (ByteArray.mk #[97])), (Value.int .i64 zzr), (Value.int .i64 zzs), (Value.int .i64 zzt), (Sl.v Sl.nil), (Sl.v Sl.nil), (Sl.v Sl.nil)]) (fun w=>by kernel_rfl) ?_
  refine vcL_eff rfl (opVC_call rfl (by kernel_rfl) (callS.mono h fun v4 vw3 h=>?_))
  obtain ⟨t14, rfl, h⟩ := h
  refine vcL_pure rfl rfl (Value.int .i64 t14) (fun w=>by kernel_rfl) ?_
  refine vcL_nil ?_
  refine Vc.seq ?_
  refine Vc.region ?_
  refine vcL_pure rfl rfl (Value.pointer t7) (fun w=>by kernel_rfl) ?_
  obtain ⟨zz1e, zz1f, zz1g, hc6, h⟩ := h
  refine vcL_val rfl rfl (Value.agg #[(Value.int .i64 zz1e), (Value.int .i64 zz1f), (Value.int .i64 zz1g)]) (exec_load rfl (by kernel_rfl) (run_loadN (fun w=>by kernel_rfl) (fun w=>by kernel_rfl) ((hc6)))) ?_
  refine vcL_eff rfl (opVC_call rfl (by kernel_rfl) (callS.mono h fun v8 vw7 h=>?_))
  obtain ⟨zz8, zzb, zzc, zzd, zz7, zza, zz9, t18b, rfl, h⟩ := h
  refine vcL_purs 3 [(20, (Value.bool t18b)), (19, (Value.agg #[(Value.string zz8), (Value.int .i64 zzb), (Value.int .i64 zzc), (Value.int .i64 zzd), (Sl.v zz7), (Sl.v zza), (Sl.v zz9)])), (15, (Value.tuple #[(Value.agg #[(Value.string zz8), (Value.int .i64 zzb), (Value.int .i64 zzc), (Value.int .i64 zzd), (Sl.v zz7), (Sl.v zza), (Sl.v zz9)]), (Value.bool t18b)]))] (by kernel_rfl) ?_
  refine vcL_eff rfl (opVC_new rfl (fun a=>Value.pointer (some a)) (by kernel_rfl) (newS.mono h fun a10 vw11 hx h=>?_))
  refine vcL_eff rfl (opVC_store rfl rfl (a := a10) (by kernel_rfl) (v := (Value.agg #[(Value.string zz8), (Value.int .i64 zzb), (Value.int .i64 zzc), (Value.int .i64 zzd), (Sl.v zz7), (Sl.v zza), (Sl.v zz9)])) (by kernel_rfl) [(Value.string zz8), (Value.int .i64 zzb), (Value.int .i64 zzc), (Value.int .i64 zzd), (Sl.v zz7), (Sl.v zza), (Sl.v zz9)] (by kernel_rfl) (fun w=>by kernel_rfl) (by kernel_rfl) (stw.mono h fun vw12 h=>?_))
  refine vcL_pure rfl rfl (Value.bool t18b) (fun w=>by kernel_rfl) ?_
  refine vcL_nil ?_
  refine Vc.seq ?_
  refine Vc.region ?_
  refine vcL_pure rfl rfl (Value.pointer t7) (fun w=>by kernel_rfl) ?_
  refine vcL_eff rfl (opVC_call rfl (by kernel_rfl) (callS.mono h fun v14 vw13 h=>?_))
  obtain ⟨t22, rfl, h⟩ := h
  refine vcL_eff rfl (opVC_call rfl (by kernel_rfl) (callS.mono h fun v17 vw16 h=>?_))
  obtain ⟨t23, rfl, h⟩ := h
  refine vcL_pure rfl rfl (Sl.v t23) (fun w=>by kernel_rfl) ?_
  refine vcL_nil ?_
  refine Vc.seq ?_
  obtain ⟨vw19, hvw19⟩ : ∃ y, y = vw16.drew := ⟨_, rfl⟩
  have h := h vw19 hvw19
  refine Vc.draw (by kernel_rfl) (fun i=>!(memN [24] i)) (.pur 0 (.pur 1 (.pur 2 (.pur 3 (.pur 4 (.pur 5 (.pur 6 (.val 7 (.pur 8 (.pur 9 (.pur 10 (.pur 11 (.pur 12 (.pur 13 (.pur 14 (.pur 15 (.pur 16 (.pur 17 (.val 18 (.val 19 (.pur 20 (.pur 21 (.pur 22 (.pur 23 (.eff 24 (.pur 25 (.pur 26 (.pur 27 (.pur 28 .fin)))) .stop))))))))))))))))))))))))) (by kernel_rfl) ?_
  rw [← hvw19]
  clear hvw19
  refine vcS_pure rfl rfl rfl (Value.int .i64 t14) (fun w=>by kernel_rfl) ?_
  refine vcS_pure rfl rfl rfl (Value.bool (t14 == 0)) (fun w=>by kernel_rfl) ?_
  obtain ⟨b, hb⟩ : ∃ y, y = (t14 == 0) := ⟨_, rfl⟩
  have h := h b hb
  refine vcS_pure rfl rfl rfl (Value.bool b) (fun w=>by rw [hb]; kernel_rfl) ?_
  refine vcS_guard rfl b (wanted_g (d := 26) rfl (by kernel_rfl) b (by kernel_rfl) b (eqT b)) rfl (Value.bool t18b) (fun hg w=>by subst hg; kernel_rfl) ?_
  refine vcS_pure rfl rfl rfl (Value.bool (b && t18b)) (fun w=>by cases b <;> kernel_rfl) ?_
  obtain ⟨b20, hb20⟩ : ∃ y, y = (b && t18b) := ⟨_, rfl⟩
  have h := h b20 hb20
  refine vcS_pure rfl rfl rfl (Value.bool b20) (fun w=>by rw [hb20]; kernel_rfl) ?_
  refine vcS_guard rfl b20 (wanted_g (d := 29) rfl (by kernel_rfl) b20 (by kernel_rfl) b20 (eqT b20)) rfl (Value.pointer (some a10)) (fun hg w=>by subst hg; kernel_rfl) ?_
  obtain ⟨t31, hc21, h⟩ := h
  refine vcS_valG rfl b20 (wanted_g (d := 29) rfl (by kernel_rfl) b20 (by kernel_rfl) b20 (eqT b20)) rfl (Value.string t31) (fun hg w' hx=>by subst hg; exact exec_load rfl (by kernel_rfl) (run_load1 (fun w=>by kernel_rfl) ((hc21 rfl).ext hx))) ?_
  refine vcS_guard rfl b20 (wanted_g (d := 29) rfl (by kernel_rfl) b20 (by kernel_rfl) b20 (eqT b20)) rfl (Value.bool (bEq t31 (ByteArray.mk #[97]))) (fun hg w=>by subst hg; kernel_rfl) ?_
  refine vcS_pure rfl rfl rfl (Value.bool (b20 && (bEq t31 (ByteArray.mk #[97])))) (fun w=>by cases b20 <;> kernel_rfl) ?_
  obtain ⟨b22, hb22⟩ : ∃ y, y = (b20 && (bEq t31 (ByteArray.mk #[97]))) := ⟨_, rfl⟩
  have h := h b22 hb22
  refine vcS_pure rfl rfl rfl (Value.bool b22) (fun w=>by rw [hb22]; kernel_rfl) ?_
  refine vcS_guard rfl b22 (wanted_g (d := 34) rfl (by kernel_rfl) b22 (by kernel_rfl) b22 (eqT b22)) rfl (Sl.v t23) (fun hg w=>by subst hg; kernel_rfl) ?_
  refine vcS_guard rfl b22 (wanted_g (d := 34) rfl (by kernel_rfl) b22 (by kernel_rfl) b22 (eqT b22)) rfl (Value.int .i64 (t23.len : Int)) (fun hg w=>by subst hg; kernel_rfl) ?_
  refine vcS_guard rfl b22 (wanted_g (d := 34) rfl (by kernel_rfl) b22 (by kernel_rfl) b22 (eqT b22)) rfl (Value.bool ((t23.len : Int) == 1)) (fun hg w=>by subst hg; kernel_rfl) ?_
  refine vcS_pure rfl rfl rfl (Value.bool (b22 && ((t23.len : Int) == 1))) (fun w=>by cases b22 <;> kernel_rfl) ?_
  obtain ⟨b23, hb23⟩ : ∃ y, y = (b22 && ((t23.len : Int) == 1)) := ⟨_, rfl⟩
  have h := h b23 hb23
  refine vcS_pure rfl rfl rfl (Value.bool b23) (fun w=>by rw [hb23]; kernel_rfl) ?_
  refine vcS_guard rfl b23 (wanted_g (d := 39) rfl (by kernel_rfl) b23 (by kernel_rfl) b23 (eqT b23)) rfl (Sl.v t23) (fun hg w=>by subst hg; kernel_rfl) ?_
  obtain ⟨ad, hi, h⟩ := h
  refine vcS_guard rfl b23 (wanted_g (d := 39) rfl (by kernel_rfl) b23 (by kernel_rfl) b23 (eqT b23)) rfl (Value.pointer (some (ad.add ((0 : Int).toNat * 3)))) (fun hg w=>by subst hg; exact exec_indexAt (s := t23) (el := 30) rfl (by kernel_rfl) (by kernel_rfl) (by kernel_rfl) (fun w=>by kernel_rfl) (hi rfl).1 (hi rfl).2.1 (hi rfl).2.2 w) ?_
  obtain ⟨zz2o, zz2p, zz2q, hc24, h⟩ := h
  refine vcS_valG rfl b23 (wanted_g (d := 39) rfl (by kernel_rfl) b23 (by kernel_rfl) b23 (eqT b23)) rfl (Value.agg #[(Value.int .i64 zz2o), (Value.int .i64 zz2p), (Value.int .i64 zz2q)]) (fun hg w' hx=>by subst hg; exact exec_load rfl (by kernel_rfl) (run_loadN (fun w=>by kernel_rfl) (fun w=>by kernel_rfl) ((hc24 rfl).ext hx))) ?_
  obtain ⟨zz11, zz12, zz13, hc25, h⟩ := h
  refine vcS_valG rfl b23 (wanted_g (d := 39) rfl (by kernel_rfl) b23 (by kernel_rfl) b23 (eqT b23)) rfl (Value.agg #[(Value.int .i64 zz11), (Value.int .i64 zz12), (Value.int .i64 zz13)]) (fun hg w' hx=>by subst hg; exact exec_load rfl (by kernel_rfl) (run_loadN (fun w=>by kernel_rfl) (fun w=>by kernel_rfl) ((hc25 rfl).ext hx))) ?_
  refine vcS_guard rfl b23 (wanted_g (d := 39) rfl (by kernel_rfl) b23 (by kernel_rfl) b23 (eqT b23)) rfl (Value.bool ((zz2o == zz11) && ((zz2p == zz12) && ((zz2q == zz13) && true)))) (fun hg w=>by subst hg; exact exec_struct_eq rfl (by kernel_rfl) (by kernel_rfl) (by kernel_rfl) (eqv_30 9998 zz2o zz2p zz2q zz11 zz12 zz13 w)) ?_
  refine vcS_pure rfl rfl rfl (Value.bool (b23 && ((zz2o == zz11) && ((zz2p == zz12) && ((zz2q == zz13) && true))))) (fun w=>by cases b23 <;> kernel_rfl) ?_
  obtain ⟨b26, hb26⟩ : ∃ y, y = (b23 && ((zz2o == zz11) && ((zz2p == zz12) && ((zz2q == zz13) && true)))) := ⟨_, rfl⟩
  have h := h b26 hb26
  refine vcS_pure rfl rfl rfl (Value.bool b26) (fun w=>by rw [hb26]; kernel_rfl) ?_
  refine vcS_guard rfl b26 (wanted_g (d := 46) rfl (by kernel_rfl) b26 (by kernel_rfl) b26 (eqT b26)) rfl (Value.pointer t7) (fun hg w=>by subst hg; kernel_rfl) ?_
  obtain ⟨vJ, hJ, h⟩ := gCall_elim h
  refine vcS_effJ (σ := Sl) rfl b26 (wanted_g (d := 46) rfl (by kernel_rfl) b26 (by kernel_rfl) b26 (eqT b26)) rfl (fun s w=>vJ s w) (fun s=>(Sl.v s)) ?_ (fun hg=>opVC_call rfl (by subst hg; kernel_rfl) (callS.mono (h.1 hg) fun v28 vw27 hq=>?_)) (fun hg=>⟨Sl.nil, h.2 hg⟩) vcS_stop
  ·intro t48 vw27 h
   subst hJ
   refine vcS_guard rfl b26 (wanted_g (d := 46) rfl (by kernel_rfl) b26 (by kernel_rfl) b26 (eqT b26)) rfl (Value.int .i64 (t48.len : Int)) (fun hg w=>by subst hg; kernel_rfl) ?_
   refine vcS_guard rfl b26 (wanted_g (d := 46) rfl (by kernel_rfl) b26 (by kernel_rfl) b26 (eqT b26)) rfl (Value.bool ((t48.len : Int) == 1)) (fun hg w=>by subst hg; kernel_rfl) ?_
   refine vcS_pure rfl rfl rfl (Value.bool (b26 && ((t48.len : Int) == 1))) (fun w=>by cases b26 <;> kernel_rfl) ?_
   refine vcS_pure rfl rfl rfl (Value.bool (b26 && ((t48.len : Int) == 1))) (fun w=>by kernel_rfl) ?_
   refine vcS_fin ?_
   refine Vc.ret ?_
   refine outs_ret ?_
   refine done_mk (Value.bool (b26 && ((t48.len : Int) == 1))) (res1 (resC_tmp (by kernel_rfl))) ?_
   exact ⟨(b26 && ((t48.len : Int) == 1)), rfl, h⟩
  ·obtain ⟨t48, rfl, hq⟩ := hq
   exact ⟨fun hb=>absurd hb (by decide), t48, rfl, hq⟩
theorem halyardlaw08_known.go {w : World} {k : Value → World → Prop} (h : halyardlaw08_known w fun r0 w'=>k (Value.bool r0) w') : callS Tryz.prog 17 [] w k := (halyardlaw08_known.sound w _ h).mono (by rintro _ _ ⟨r0, rfl, h⟩; exact h)
def halyardlaw08_own (zz1 : ByteArray) (zz4 : Int) (zz5 : Int) (zz6 : Int) (zz0 : Sl) (zz3 : Sl) (zz2 : Sl) (w : World) (R : ByteArray → Int → Int → Int → Sl → Sl → Sl → World → Prop) : Prop :=
 newS w [(Value.string zz1), (Value.int .i64 zz4), (Value.int .i64 zz5), (Value.int .i64 zz6), (Sl.v zz0), (Sl.v zz3), (Sl.v zz2)] 48 fun a vw=>newS vw [(Value.string (ByteArray.mk #[])), (Value.int .i64 0), (Value.int .i64 0), (Value.int .i64 0), (Sl.v Sl.nil), (Sl.v Sl.nil), (Sl.v Sl.nil)] 48 fun a1 vw2=>bnd vw2.drew fun (vw3 : World)=>∃ (t4 : ByteArray), (ldc vw3 a [(Value.string t4)]) ∧ ∃ (zz31 : Int) (zz32 : Int) (zz33 : Int), (ldc vw3 (a.add 1) [(Value.int .i64 zz31), (Value.int .i64 zz32), (Value.int .i64 zz33)]) ∧ ∃ (t8 : Sl), (ldc vw3 (a.add 4) [(Sl.v t8)]) ∧ ∃ (t11 : Sl), (ldc vw3 (a.add 5) [(Sl.v t11)]) ∧ ∃ (t14 : Sl), (ldc vw3 (a.add 6) [(Sl.v t14)]) ∧ callX Tryz.prog 60 [(Sl.v t8)] vw3 fun v vw8=>∃ (t9 : Sl), v = (Sl.v t9) ∧ callX Tryz.prog 60 [(Sl.v t11)] vw8 fun v10 vw9=>∃ (t12 : Sl), v10 = (Sl.v t12) ∧ callX Tryz.prog 60 [(Sl.v t14)] vw9 fun v13 vw12=>∃ (t15 : Sl), v13 = (Sl.v t15) ∧ stw vw12 a1 [(Value.string t4), (Value.int .i64 zz31), (Value.int .i64 zz32), (Value.int .i64 zz33), (Sl.v t9), (Sl.v t12), (Sl.v t15)] fun vw15=>∃ (zzf : ByteArray) (zzi : Int) (zzj : Int) (zzk : Int) (zze : Sl) (zzh : Sl) (zzg : Sl), ldc vw15 a1 [(Value.string zzf), (Value.int .i64 zzi), (Value.int .i64 zzj), (Value.int .i64 zzk), (Sl.v zze), (Sl.v zzh), (Sl.v zzg)] ∧ R zzf zzi zzj zzk zze zzh zzg vw15
set_option maxHeartbeats 8000000 in
theorem halyardlaw08_own.sound (zz1 : ByteArray) (zz4 : Int) (zz5 : Int) (zz6 : Int) (zz0 : Sl) (zz3 : Sl) (zz2 : Sl) (w : World) (R : ByteArray → Int → Int → Int → Sl → Sl → Sl → World → Prop) (h : halyardlaw08_own zz1 zz4 zz5 zz6 zz0 zz3 zz2 w R) : callS Tryz.prog 18 [(Value.agg #[(Value.string zz1), (Value.int .i64 zz4), (Value.int .i64 zz5), (Value.int .i64 zz6), (Sl.v zz0), (Sl.v zz3), (Sl.v zz2)])] w (fun v w'=>∃ (r0 : ByteArray) (r1 : Int) (r2 : Int) (r3 : Int) (r4 : Sl) (r5 : Sl) (r6 : Sl), v = (Value.agg #[(Value.string r0), (Value.int .i64 r1), (Value.int .i64 r2), (Value.int .i64 r3), (Sl.v r4), (Sl.v r5), (Sl.v r6)]) ∧ R r0 r1 r2 r3 r4 r5 r6 w') := by
 unfold halyardlaw08_own at h
 refine calls_of_vc 17 rfl Tryz.func18 rfl (by kernel_rfl) (by simp) ?_
 refine Vc.seq ?_
 refine Vc.region ?_
 refine vcL_eff rfl (opVC_new rfl (fun a=>Value.pointer (some a)) (by kernel_rfl) (newS.mono h fun a vw hx h=>?_))
 refine vcL_eff rfl (opVC_new rfl (fun a=>Value.pointer (some a)) (by kernel_rfl) (newS.mono h fun a1 vw2 hx h=>?_))
 refine vcL_nil ?_
 refine Vc.seq ?_
 obtain ⟨vw3, hvw3⟩ : ∃ y, y = vw2.drew := ⟨_, rfl⟩
 have h := h vw3 hvw3
 refine Vc.draw (by kernel_rfl) (fun i=>!(memN [14] i)) (.pur 0 (.val 1 (.pur 2 (.val 3 (.pur 4 (.val 5 (.pur 7 (.val 8 (.pur 10 (.val 11 (.eff 6 (.eff 9 (.eff 12 (.pur 13 (.eff 14 .fin .stop)) .stop) .stop) .stop))))))))))) (by kernel_rfl) ?_
 rw [← hvw3]
 clear hvw3
 refine vcS_pure rfl rfl rfl (Value.pointer (some a)) (fun w=>by kernel_rfl) ?_
 obtain ⟨t4, hc, h⟩ := h
 refine vcS_val rfl rfl rfl (Value.string t4) (fun w' hx=>exec_load rfl (by kernel_rfl) (run_load1 (fun w=>by kernel_rfl) ((hc).ext hx))) ?_
 refine vcS_pure rfl rfl rfl (Value.pointer (some (a.add 1))) (fun w=>by kernel_rfl) ?_
 obtain ⟨zz31, zz32, zz33, hc4, h⟩ := h
 refine vcS_val rfl rfl rfl (Value.agg #[(Value.int .i64 zz31), (Value.int .i64 zz32), (Value.int .i64 zz33)]) (fun w' hx=>exec_load rfl (by kernel_rfl) (run_loadN (fun w=>by kernel_rfl) (fun w=>by kernel_rfl) ((hc4).ext hx))) ?_
 refine vcS_pure rfl rfl rfl (Value.pointer (some (a.add 4))) (fun w=>by kernel_rfl) ?_
 obtain ⟨t8, hc5, h⟩ := h
 refine vcS_val rfl rfl rfl (Sl.v t8) (fun w' hx=>exec_load rfl (by kernel_rfl) (run_load1 (fun w=>by kernel_rfl) ((hc5).ext hx))) ?_
 refine vcS_pure rfl rfl rfl (Value.pointer (some (a.add 5))) (fun w=>by kernel_rfl) ?_
 obtain ⟨t11, hc6, h⟩ := h
 refine vcS_val rfl rfl rfl (Sl.v t11) (fun w' hx=>exec_load rfl (by kernel_rfl) (run_load1 (fun w=>by kernel_rfl) ((hc6).ext hx))) ?_
 refine vcS_pure rfl rfl rfl (Value.pointer (some (a.add 6))) (fun w=>by kernel_rfl) ?_
 obtain ⟨t14, hc7, h⟩ := h
 refine vcS_val rfl rfl rfl (Sl.v t14) (fun w' hx=>exec_load rfl (by kernel_rfl) (run_load1 (fun w=>by kernel_rfl) ((hc7).ext hx))) ?_
 refine vcS_eff rfl rfl (opVC_call rfl (by kernel_rfl) (callS.mono h fun v vw8 h=>?_)) vcS_stop
 obtain ⟨hx, h⟩ := h
 obtain ⟨t9, rfl, h⟩ := h
 refine ⟨fun _ => hx, ?_⟩
 refine vcS_eff rfl rfl (opVC_call rfl (by kernel_rfl) (callS.mono h fun v10 vw9 h=>?_)) vcS_stop
 obtain ⟨hx11, h⟩ := h
 obtain ⟨t12, rfl, h⟩ := h
 refine ⟨fun _ => hx11, ?_⟩
 refine vcS_eff rfl rfl (opVC_call rfl (by kernel_rfl) (callS.mono h fun v13 vw12 h=>?_)) vcS_stop
 obtain ⟨hx14, h⟩ := h
 obtain ⟨t15, rfl, h⟩ := h
 refine ⟨fun _ => hx14, ?_⟩
 refine vcS_pure rfl rfl rfl (Value.agg #[(Value.string t4), (Value.int .i64 zz31), (Value.int .i64 zz32), (Value.int .i64 zz33), (Sl.v t9), (Sl.v t12), (Sl.v t15)]) (fun w=>by kernel_rfl) ?_
 refine vcS_eff rfl rfl (opVC_store rfl rfl (a := a1) (by kernel_rfl) (v := (Value.agg #[(Value.string t4), (Value.int .i64 zz31), (Value.int .i64 zz32), (Value.int .i64 zz33), (Sl.v t9), (Sl.v t12), (Sl.v t15)])) (by kernel_rfl) [(Value.string t4), (Value.int .i64 zz31), (Value.int .i64 zz32), (Value.int .i64 zz33), (Sl.v t9), (Sl.v t12), (Sl.v t15)] (by kernel_rfl) (fun w=>by kernel_rfl) (by kernel_rfl) (stw.mono h fun vw15 h=>?_)) vcS_stop
 refine ⟨fun hb=>absurd hb (by decide), ?_⟩
 refine vcS_fin ?_
 refine Vc.ret ?_
 refine outs_ret ?_
 obtain ⟨zzf, zzi, zzj, zzk, zze, zzh, zzg, hc16, h⟩ := h
 refine done_mk (Value.agg #[(Value.string zzf), (Value.int .i64 zzi), (Value.int .i64 zzj), (Value.int .i64 zzk), (Sl.v zze), (Sl.v zzh), (Sl.v zzg)]) (res1 (resC_cell (by kernel_rfl) (run_loadN (fun w=>by kernel_rfl) (fun w=>by kernel_rfl) hc16))) ?_
 exact ⟨zzf, zzi, zzj, zzk, zze, zzh, zzg, rfl, h⟩
theorem halyardlaw08_own.go {zz1 : ByteArray} {zz4 : Int} {zz5 : Int} {zz6 : Int} {zz0 : Sl} {zz3 : Sl} {zz2 : Sl} {w : World} {k : Value → World → Prop} (h : halyardlaw08_own zz1 zz4 zz5 zz6 zz0 zz3 zz2 w fun r0 r1 r2 r3 r4 r5 r6 w'=>k (Value.agg #[(Value.string r0), (Value.int .i64 r1), (Value.int .i64 r2), (Value.int .i64 r3), (Sl.v r4), (Sl.v r5), (Sl.v r6)]) w') : callS Tryz.prog 18 [(Value.agg #[(Value.string zz1), (Value.int .i64 zz4), (Value.int .i64 zz5), (Value.int .i64 zz6), (Sl.v zz0), (Sl.v zz3), (Sl.v zz2)])] w k := (halyardlaw08_own.sound zz1 zz4 zz5 zz6 zz0 zz3 zz2 w _ h).mono (by rintro _ _ ⟨r0, r1, r2, r3, r4, r5, r6, rfl, h⟩; exact h)
def catalog_Catalog_Put (c : Option Addr) (zz1 : ByteArray) (zz4 : Int) (zz5 : Int) (zz6 : Int) (zz0 : Sl) (zz3 : Sl) (zz2 : Sl) (w : World) (R : Int → World → Prop) : Prop :=
 newS w [(Value.string zz1), (Value.int .i64 zz4), (Value.int .i64 zz5), (Value.int .i64 zz6), (Sl.v zz0), (Sl.v zz3), (Sl.v zz2)] 48 fun a vw=>∃ (zz7a : ByteArray) (zz7d : Int) (zz7e : Int) (zz7f : Int) (zz79 : Sl) (zz7c : Sl) (zz7b : Sl), (ldc vw a [(Value.string zz7a), (Value.int .i64 zz7d), (Value.int .i64 zz7e), (Value.int .i64 zz7f), (Sl.v zz79), (Sl.v zz7c), (Sl.v zz7b)]) ∧ callS Tryz.prog 61 [(Value.agg #[(Value.string zz7a), (Value.int .i64 zz7d), (Value.int .i64 zz7e), (Value.int .i64 zz7f), (Sl.v zz79), (Sl.v zz7c), (Sl.v zz7b)])] vw fun v vw1=>∃ (t9 : Bool), v = (Value.bool t9) ∧ (((!t9) = true → R 24 vw1) ∧ ((!t9) = false → ∃ (t12 : ByteArray), (ldc vw1 a [(Value.string t12)]) ∧ ∃ (zzo : Int) (zzp : Int) (zzq : Int), (ldc vw1 (a.add 1) [(Value.int .i64 zzo), (Value.int .i64 zzp), (Value.int .i64 zzq)]) ∧ newS vw1 [(Value.string (ByteArray.mk #[])), (Value.int .i64 0), (Value.int .i64 0), (Value.int .i64 0)] 106 fun a4 vw5=>stw vw5 a4 [(Value.string t12), (Value.int .i64 zzo), (Value.int .i64 zzp), (Value.int .i64 zzq)] fun vw6=>bnd vw6.drew fun (vw7 : World)=>∃ (p : Addr), (c = some p) ∧ ∃ (t20 : Option Nat), (ldc vw7 p [(Value.map t20)]) ∧ ∃ (t21_name : ByteArray) (zz4c : Int) (zz4d : Int) (zz4e : Int), (ldc vw7 a4 [(Value.string t21_name), (Value.int .i64 zz4c), (Value.int .i64 zz4d), (Value.int .i64 zz4e)]) ∧ ∃ (zzv : ByteArray) (zzy : Int) (zzz : Int) (zz10 : Int) (zzu : Sl) (zzx : Sl) (zzw : Sl) (t22b : Bool), (stabS Tryz.prog (Instr.lookup 101 (Value.map t20) (Value.agg #[(Value.string t21_name), (Value.int .i64 zz4c), (Value.int .i64 zz4d), (Value.int .i64 zz4e)]) true) vw7 (Value.tuple #[(Value.agg #[(Value.string zzv), (Value.int .i64 zzy), (Value.int .i64 zzz), (Value.int .i64 zz10), (Sl.v zzu), (Sl.v zzx), (Sl.v zzw)]), (Value.bool t22b)])) ∧ newS vw7 [(Value.string (ByteArray.mk #[])), (Value.int .i64 0), (Value.int .i64 0), (Value.int .i64 0), (Sl.v Sl.nil), (Sl.v Sl.nil), (Sl.v Sl.nil)] 48 fun a12 vw13=>stw vw13 a12 [(Value.string zzv), (Value.int .i64 zzy), (Value.int .i64 zzz), (Value.int .i64 zz10), (Sl.v zzu), (Sl.v zzx), (Sl.v zzw)] fun vw14=>((t22b = true → R 11 vw14) ∧ (t22b = false → ∃ (p15 : Addr), (c = some p15) ∧ ∃ (t29 : Option Nat), (ldc vw14 p15 [(Value.map t29)]) ∧ ∃ (t30 : Int), (stabS Tryz.prog (Builtin.len_ #[101] 3 #[(Value.map t29)]) vw14 (Value.int .i64 t30)) ∧ ((128 ≤ t30 → R 26 vw14) ∧ (¬ (128 ≤ t30) → bnd vw14.drew fun (vw19 : World)=>∃ (p20 : Addr), (c = some p20) ∧ ∃ (t35 : Option Nat), (ldc vw19 p20 [(Value.map t35)]) ∧ ∃ (t36_name : ByteArray) (zz4f : Int) (zz4g : Int) (zz4h : Int), (ldc vw19 a4 [(Value.string t36_name), (Value.int .i64 zz4f), (Value.int .i64 zz4g), (Value.int .i64 zz4h)]) ∧ ∃ (zz5v : ByteArray) (zz5y : Int) (zz5z : Int) (zz60 : Int) (zz5u : Sl) (zz5x : Sl) (zz5w : Sl), (ldc vw19 a [(Value.string zz5v), (Value.int .i64 zz5y), (Value.int .i64 zz5z), (Value.int .i64 zz60), (Sl.v zz5u), (Sl.v zz5x), (Sl.v zz5w)]) ∧ callX Tryz.prog 62 [(Value.agg #[(Value.string zz5v), (Value.int .i64 zz5y), (Value.int .i64 zz5z), (Value.int .i64 zz60), (Sl.v zz5u), (Sl.v zz5x), (Sl.v zz5w)])] vw19 fun v26 vw25=>∃ (zz62 : ByteArray) (zz65 : Int) (zz66 : Int) (zz67 : Int) (zz61 : Sl) (zz64 : Sl) (zz63 : Sl), v26 = (Value.agg #[(Value.string zz62), (Value.int .i64 zz65), (Value.int .i64 zz66), (Value.int .i64 zz67), (Sl.v zz61), (Sl.v zz64), (Sl.v zz63)]) ∧ semU Tryz.prog (Instr.mapUpdate 101 (Value.map t35) (Value.agg #[(Value.string t36_name), (Value.int .i64 zz4f), (Value.int .i64 zz4g), (Value.int .i64 zz4h)]) (Value.agg #[(Value.string zz62), (Value.int .i64 zz65), (Value.int .i64 zz66), (Value.int .i64 zz67), (Sl.v zz61), (Sl.v zz64), (Sl.v zz63)])) vw25 fun vw28=>R 0 vw28))))))
set_option maxHeartbeats 8000000 in
theorem catalog_Catalog_Put.sound (c : Option Addr) (zz1 : ByteArray) (zz4 : Int) (zz5 : Int) (zz6 : Int) (zz0 : Sl) (zz3 : Sl) (zz2 : Sl) (w : World) (R : Int → World → Prop) (h : catalog_Catalog_Put c zz1 zz4 zz5 zz6 zz0 zz3 zz2 w R) : callS Tryz.prog 19 [(Value.pointer c), (Value.agg #[(Value.string zz1), (Value.int .i64 zz4), (Value.int .i64 zz5), (Value.int .i64 zz6), (Sl.v zz0), (Sl.v zz3), (Sl.v zz2)])] w (fun v w'=>∃ (r0 : Int), v = (Value.int .i64 r0) ∧ R r0 w') := by
 unfold catalog_Catalog_Put at h
 refine calls_of_vc 39 rfl Tryz.func19 rfl (by kernel_rfl) (by simp) ?_
 refine Vc.seq ?_
 refine Vc.region ?_
 refine vcL_eff rfl (opVC_new rfl (fun a=>Value.pointer (some a)) (by kernel_rfl) (newS.mono h fun a vw hx h=>?_))
 refine vcL_pure rfl rfl (Value.int .i64 0) (fun w=>by kernel_rfl) ?_
 refine vcL_nil ?_
 refine Vc.seq ?_
 refine Vc.seq ?_
 refine Vc.region ?_
 obtain ⟨zz7a, zz7d, zz7e, zz7f, zz79, zz7c, zz7b, hc, h⟩ := h
 refine vcL_val rfl rfl (Value.agg #[(Value.string zz7a), (Value.int .i64 zz7d), (Value.int .i64 zz7e), (Value.int .i64 zz7f), (Sl.v zz79), (Sl.v zz7c), (Sl.v zz7b)]) (exec_load rfl (by kernel_rfl) (run_loadN (fun w=>by kernel_rfl) (fun w=>by kernel_rfl) ((hc)))) ?_
 refine vcL_eff rfl (opVC_call rfl (by kernel_rfl) (callS.mono h fun v vw1 h=>?_))
 obtain ⟨t9, rfl, h⟩ := h
 refine vcL_pure rfl rfl (Value.bool (!t9)) (fun w=>by kernel_rfl) ?_
 refine vcL_nil ?_
 refine Vc.cond (!t9) (by kernel_rfl) (fun hb=>?_) (fun hb=>?_)
 ·have h := h.1 (hb)
  refine Vc.seq ?_
  refine Vc.region ?_
  refine vcL_pure rfl rfl (Value.int .i64 24) (fun w=>by kernel_rfl) ?_
  refine vcL_nil ?_
  refine Vc.ret ?_
  refine outs_ret ?_
  refine done_mk (Value.int .i64 24) (res1 (resC_tmp (by kernel_rfl))) ?_
  exact ⟨24, rfl, h⟩
 ·have h := h.2 (hb)
  refine Vc.skip ?_
  refine Vc.seq ?_
  refine Vc.region ?_
  refine vcL_pure rfl rfl (Value.pointer (some a)) (fun w=>by kernel_rfl) ?_
  obtain ⟨t12, hc2, h⟩ := h
  refine vcL_val rfl rfl (Value.string t12) (exec_load rfl (by kernel_rfl) (run_load1 (fun w=>by kernel_rfl) ((hc2)))) ?_
  refine vcL_pure rfl rfl (Value.pointer (some (a.add 1))) (fun w=>by kernel_rfl) ?_
  obtain ⟨zzo, zzp, zzq, hc3, h⟩ := h
  refine vcL_val rfl rfl (Value.agg #[(Value.int .i64 zzo), (Value.int .i64 zzp), (Value.int .i64 zzq)]) (exec_load rfl (by kernel_rfl) (run_loadN (fun w=>by kernel_rfl) (fun w=>by kernel_rfl) ((hc3)))) ?_
  refine vcL_pure rfl rfl (Value.agg #[(Value.string t12), (Value.int .i64 zzo), (Value.int .i64 zzp), (Value.int .i64 zzq)]) (fun w=>by kernel_rfl) ?_
  refine vcL_eff rfl (opVC_new rfl (fun a=>Value.pointer (some a)) (by kernel_rfl) (newS.mono h fun a4 vw5 hx h=>?_))
  refine vcL_eff rfl (opVC_store rfl rfl (a := a4) (by kernel_rfl) (v := (Value.agg #[(Value.string t12), (Value.int .i64 zzo), (Value.int .i64 zzp), (Value.int .i64 zzq)])) (by kernel_rfl) [(Value.string t12), (Value.int .i64 zzo), (Value.int .i64 zzp), (Value.int .i64 zzq)] (by kernel_rfl) (fun w=>by kernel_rfl) (by kernel_rfl) (stw.mono h fun vw6 h=>?_))
  refine vcL_nil ?_
  refine Vc.seq ?_
  refine Vc.seq ?_
  obtain ⟨vw7, hvw7⟩ : ∃ y, y = vw6.drew := ⟨_, rfl⟩
  have h := h vw7 hvw7
  refine Vc.draw (by kernel_rfl) (fun i=>!(memN [10] i)) (.pur 0 (.pur 1 (.pur 2 (.val 3 (.val 4 (.val 5 (.pur 6 (.pur 7 (.pur 8 (.eff 9 (.eff 10 (.pur 11 .fin) .stop) .stop)))))))))) (by kernel_rfl) ?_
  rw [← hvw7]
  clear hvw7
  refine vcS_pure rfl rfl rfl (Value.pointer c) (fun w=>by kernel_rfl) ?_
  obtain ⟨p, hp, h⟩ := h
  refine vcS_pure rfl rfl rfl (Value.pointer (some p)) (fun w=>by exact exec_nilCheck rfl (by kernel_rfl) (hp) w) ?_
  refine vcS_pure rfl rfl rfl (Value.pointer (some p)) (fun w=>by kernel_rfl) ?_
  obtain ⟨t20, hc8, h⟩ := h
  refine vcS_val rfl rfl rfl (Value.map t20) (fun w' hx=>exec_load rfl (by kernel_rfl) (run_load1 (fun w=>by kernel_rfl) ((hc8).ext hx))) ?_
  obtain ⟨t21_name, zz4c, zz4d, zz4e, hc9, h⟩ := h
  refine vcS_val rfl rfl rfl (Value.agg #[(Value.string t21_name), (Value.int .i64 zz4c), (Value.int .i64 zz4d), (Value.int .i64 zz4e)]) (fun w' hx=>exec_load rfl (by kernel_rfl) (run_loadN (fun w=>by kernel_rfl) (fun w=>by kernel_rfl) ((hc9).ext hx))) ?_
  obtain ⟨zzv, zzy, zzz, zz10, zzu, zzx, zzw, t22b, hl, h⟩ := h
  refine vcS_val rfl rfl rfl (Value.tuple #[(Value.agg #[(Value.string zzv), (Value.int .i64 zzy), (Value.int .i64 zzz), (Value.int .i64 zz10), (Sl.v zzu), (Sl.v zzx), (Sl.v zzw)]), (Value.bool t22b)]) (fun w' hx=>exec_sem (c := Instr.lookup 101 (Value.map t20) (Value.agg #[(Value.string t21_name), (Value.int .i64 zz4c), (Value.int .i64 zz4d), (Value.int .i64 zz4e)]) true) (by kernel_rfl) ((hl) _ hx)) ?_
  refine vcS_pure rfl rfl rfl (Value.tuple #[(Value.agg #[(Value.string zzv), (Value.int .i64 zzy), (Value.int .i64 zzz), (Value.int .i64 zz10), (Sl.v zzu), (Sl.v zzx), (Sl.v zzw)]), (Value.bool t22b)]) (fun w=>by kernel_rfl) ?_
  refine vcS_pure rfl rfl rfl (Value.agg #[(Value.string zzv), (Value.int .i64 zzy), (Value.int .i64 zzz), (Value.int .i64 zz10), (Sl.v zzu), (Sl.v zzx), (Sl.v zzw)]) (fun w=>by kernel_rfl) ?_
  refine vcS_pure rfl rfl rfl (Value.bool t22b) (fun w=>by kernel_rfl) ?_
  refine vcS_eff rfl rfl (opVC_new rfl (fun a=>Value.pointer (some a)) (by kernel_rfl) (newS.mono h fun a12 vw13 hx h=>?_)) vcS_stop
  refine ⟨fun _ => hx, ?_⟩
  refine vcS_eff rfl rfl (opVC_store rfl rfl (a := a12) (by kernel_rfl) (v := (Value.agg #[(Value.string zzv), (Value.int .i64 zzy), (Value.int .i64 zzz), (Value.int .i64 zz10), (Sl.v zzu), (Sl.v zzx), (Sl.v zzw)])) (by kernel_rfl) [(Value.string zzv), (Value.int .i64 zzy), (Value.int .i64 zzz), (Value.int .i64 zz10), (Sl.v zzu), (Sl.v zzx), (Sl.v zzw)] (by kernel_rfl) (fun w=>by kernel_rfl) (by kernel_rfl) (stw.mono h fun vw14 h=>?_)) vcS_stop
  refine ⟨fun hb=>absurd hb (by decide), ?_⟩
  refine vcS_pure rfl rfl rfl (Value.bool t22b) (fun w=>by kernel_rfl) ?_
  refine vcS_fin ?_
  refine Vc.seq ?_
  refine Vc.region ?_
  refine vcL_pure rfl rfl (Value.bool t22b) (fun w=>by kernel_rfl) ?_
  refine vcL_nil ?_
  refine Vc.cond t22b (by kernel_rfl) (fun hb=>?_) (fun hb=>?_)
  ·have h := h.1 (hb)
   refine Vc.seq ?_
   refine Vc.region ?_
   refine vcL_pure rfl rfl (Value.int .i64 11) (fun w=>by kernel_rfl) ?_
   refine vcL_nil ?_
   refine Vc.ret ?_
   refine outs_ret ?_
   refine done_mk (Value.int .i64 11) (res1 (resC_tmp (by kernel_rfl))) ?_
   exact ⟨11, rfl, h⟩
  ·have h := h.2 (hb)
   refine Vc.skip ?_
   refine Vc.seq ?_
   refine Vc.seq ?_
   refine Vc.region ?_
   refine vcL_pure rfl rfl (Value.pointer c) (fun w=>by kernel_rfl) ?_
   obtain ⟨p15, hp16, h⟩ := h
   refine vcL_pure rfl rfl (Value.pointer (some p15)) (fun w=>by exact exec_nilCheck rfl (by kernel_rfl) (hp16) w) ?_
   refine vcL_pure rfl rfl (Value.pointer (some p15)) (fun w=>by kernel_rfl) ?_
   obtain ⟨t29, hc17, h⟩ := h
   refine vcL_val rfl rfl (Value.map t29) (exec_load rfl (by kernel_rfl) (run_load1 (fun w=>by kernel_rfl) ((hc17)))) ?_
   obtain ⟨t30, hl18, h⟩ := h
   refine vcL_val rfl rfl (Value.int .i64 t30) (exec_sem (c := Builtin.len_ #[101] 3 #[(Value.map t29)]) (by kernel_rfl) ((hl18) _ (Ext.refl _))) ?_
   refine vcL_pure rfl rfl (Value.bool (decide (128 ≤ t30))) (fun w=>by kernel_rfl) ?_
   refine vcL_nil ?_
   refine Vc.cond (decide (128 ≤ t30)) (by kernel_rfl) (fun hb=>?_) (fun hb=>?_)
   ·have h := h.1 (of_decide_eq_true hb)
    refine Vc.seq ?_
    refine Vc.region ?_
    refine vcL_pure rfl rfl (Value.int .i64 26) (fun w=>by kernel_rfl) ?_
    refine vcL_nil ?_
    refine Vc.ret ?_
    refine outs_ret ?_
    refine done_mk (Value.int .i64 26) (res1 (resC_tmp (by kernel_rfl))) ?_
    exact ⟨26, rfl, h⟩
   ·have h := h.2 (of_decide_eq_false hb)
    refine Vc.skip ?_
    refine Vc.seq ?_
    obtain ⟨vw19, hvw19⟩ : ∃ y, y = vw14.drew := ⟨_, rfl⟩
    have h := h vw19 hvw19
    refine Vc.draw (by kernel_rfl) (fun i=>!(memN [7] i)) (.pur 0 (.pur 1 (.pur 2 (.val 3 (.val 4 (.val 5 (.eff 6 (.eff 7 .fin .stop) .stop))))))) (by kernel_rfl) ?_
    rw [← hvw19]
    clear hvw19
    refine vcS_pure rfl rfl rfl (Value.pointer c) (fun w=>by kernel_rfl) ?_
    obtain ⟨p20, hp21, h⟩ := h
    refine vcS_pure rfl rfl rfl (Value.pointer (some p20)) (fun w=>by exact exec_nilCheck rfl (by kernel_rfl) (hp21) w) ?_
    refine vcS_pure rfl rfl rfl (Value.pointer (some p20)) (fun w=>by kernel_rfl) ?_
    obtain ⟨t35, hc22, h⟩ := h
    refine vcS_val rfl rfl rfl (Value.map t35) (fun w' hx=>exec_load rfl (by kernel_rfl) (run_load1 (fun w=>by kernel_rfl) ((hc22).ext hx))) ?_
    obtain ⟨t36_name, zz4f, zz4g, zz4h, hc23, h⟩ := h
    refine vcS_val rfl rfl rfl (Value.agg #[(Value.string t36_name), (Value.int .i64 zz4f), (Value.int .i64 zz4g), (Value.int .i64 zz4h)]) (fun w' hx=>exec_load rfl (by kernel_rfl) (run_loadN (fun w=>by kernel_rfl) (fun w=>by kernel_rfl) ((hc23).ext hx))) ?_
    obtain ⟨zz5v, zz5y, zz5z, zz60, zz5u, zz5x, zz5w, hc24, h⟩ := h
    refine vcS_val rfl rfl rfl (Value.agg #[(Value.string zz5v), (Value.int .i64 zz5y), (Value.int .i64 zz5z), (Value.int .i64 zz60), (Sl.v zz5u), (Sl.v zz5x), (Sl.v zz5w)]) (fun w' hx=>exec_load rfl (by kernel_rfl) (run_loadN (fun w=>by kernel_rfl) (fun w=>by kernel_rfl) ((hc24).ext hx))) ?_
    refine vcS_eff rfl rfl (opVC_call rfl (by kernel_rfl) (callS.mono h fun v26 vw25 h=>?_)) vcS_stop
    obtain ⟨hx27, h⟩ := h
    obtain ⟨zz62, zz65, zz66, zz67, zz61, zz64, zz63, rfl, h⟩ := h
    refine ⟨fun _ => hx27, ?_⟩
    refine vcS_eff rfl rfl (opVC_semU rfl (c := Instr.mapUpdate 101 (Value.map t35) (Value.agg #[(Value.string t36_name), (Value.int .i64 zz4f), (Value.int .i64 zz4g), (Value.int .i64 zz4h)]) (Value.agg #[(Value.string zz62), (Value.int .i64 zz65), (Value.int .i64 zz66), (Value.int .i64 zz67), (Sl.v zz61), (Sl.v zz64), (Sl.v zz63)])) (by kernel_rfl) (semU.mono h fun vw28 h=>?_)) vcS_stop
    refine ⟨fun hb=>absurd hb (by decide), ?_⟩
    refine vcS_fin ?_
    refine Vc.seq ?_
    refine Vc.region ?_
    refine vcL_pure rfl rfl (Value.int .i64 0) (fun w=>by kernel_rfl) ?_
    refine vcL_nil ?_
    refine Vc.ret ?_
    refine outs_ret ?_
    refine done_mk (Value.int .i64 0) (res1 (resC_tmp (by kernel_rfl))) ?_
    exact ⟨0, rfl, h⟩
theorem catalog_Catalog_Put.go {c : Option Addr} {zz1 : ByteArray} {zz4 : Int} {zz5 : Int} {zz6 : Int} {zz0 : Sl} {zz3 : Sl} {zz2 : Sl} {w : World} {k : Value → World → Prop} (h : catalog_Catalog_Put c zz1 zz4 zz5 zz6 zz0 zz3 zz2 w fun r0 w'=>k (Value.int .i64 r0) w') : callS Tryz.prog 19 [(Value.pointer c), (Value.agg #[(Value.string zz1), (Value.int .i64 zz4), (Value.int .i64 zz5), (Value.int .i64 zz6), (Sl.v zz0), (Sl.v zz3), (Sl.v zz2)])] w k := (catalog_Catalog_Put.sound c zz1 zz4 zz5 zz6 zz0 zz3 zz2 w _ h).mono (by rintro _ _ ⟨r0, rfl, h⟩; exact h)
def halyardref08_Catalog_Put (c : Option Addr) (zz1 : ByteArray) (zz4 : Int) (zz5 : Int) (zz6 : Int) (zz0 : Sl) (zz3 : Sl) (zz2 : Sl) (w : World) (R : Int → World → Prop) : Prop :=
 newS w [(Value.string zz1), (Value.int .i64 zz4), (Value.int .i64 zz5), (Value.int .i64 zz6), (Sl.v zz0), (Sl.v zz3), (Sl.v zz2)] 48 fun a vw=>∃ (zz7h : ByteArray) (zz7k : Int) (zz7l : Int) (zz7m : Int) (zz7g : Sl) (zz7j : Sl) (zz7i : Sl), (ldc vw a [(Value.string zz7h), (Value.int .i64 zz7k), (Value.int .i64 zz7l), (Value.int .i64 zz7m), (Sl.v zz7g), (Sl.v zz7j), (Sl.v zz7i)]) ∧ callS Tryz.prog 34 [(Value.agg #[(Value.string zz7h), (Value.int .i64 zz7k), (Value.int .i64 zz7l), (Value.int .i64 zz7m), (Sl.v zz7g), (Sl.v zz7j), (Sl.v zz7i)])] vw fun v vw1=>∃ (t10 : Bool), v = (Value.bool t10) ∧ (((!t10) = true → R 24 vw1) ∧ ((!t10) = false → ∃ (t15 : ByteArray), (ldc vw1 a [(Value.string t15)]) ∧ ∃ (zz1e : Int) (zz1f : Int) (zz1g : Int), (ldc vw1 (a.add 1) [(Value.int .i64 zz1e), (Value.int .i64 zz1f), (Value.int .i64 zz1g)]) ∧ callS Tryz.prog 23 [(Value.pointer c), (Value.string t15), (Value.agg #[(Value.int .i64 zz1e), (Value.int .i64 zz1f), (Value.int .i64 zz1g)])] vw1 fun v5 vw4=>∃ (zz8 : ByteArray) (zzb : Int) (zzc : Int) (zzd : Int) (zz7 : Sl) (zza : Sl) (zz9 : Sl) (t18b : Bool), v5 = (Value.tuple #[(Value.agg #[(Value.string zz8), (Value.int .i64 zzb), (Value.int .i64 zzc), (Value.int .i64 zzd), (Sl.v zz7), (Sl.v zza), (Sl.v zz9)]), (Value.bool t18b)]) ∧ newS vw4 [(Value.string (ByteArray.mk #[])), (Value.int .i64 0), (Value.int .i64 0), (Value.int .i64 0), (Sl.v Sl.nil), (Sl.v Sl.nil), (Sl.v Sl.nil)] 48 fun a7 vw8=>stw vw8 a7 [(Value.string zz8), (Value.int .i64 zzb), (Value.int .i64 zzc), (Value.int .i64 zzd), (Sl.v zz7), (Sl.v zza), (Sl.v zz9)] fun vw9=>((t18b = true → R 11 vw9) ∧ (t18b = false → ∃ (p : Addr), (c = some p) ∧ ∃ (t25 : Sl), (ldc vw9 p [(Sl.v t25)]) ∧ ((128 ≤ (t25.len : Int) → R 26 vw9) ∧ (¬ (128 ≤ (t25.len : Int)) → loop1 0 vw9 fun i vw11 nxt=>bnd vw11.drew fun (vw12 : World)=>∃ (p13 : Addr), (c = some p13) ∧ ∃ (t32 : Sl), (ldc vw12 p13 [(Sl.v t32)]) ∧ bnd (decide (i < (t32.len : Int))) fun (b : Bool)=>∃ (p16 : Addr), grd b (c = some p16) ∧ ∃ (t39 : Sl), grd b (ldc vw12 p16 [(Sl.v t39)]) ∧ ∃ (ad : Addr), grd b (t39.a = some ad ∧ (0 : Int) ≤ i ∧ i < (t39.len : Int)) ∧ ∃ (zz1x : ByteArray) (zz20 : Int) (zz21 : Int) (zz22 : Int) (zz1w : Sl) (zz1z : Sl) (zz1y : Sl), grd b (ldc vw12 (ad.add (i.toNat * 7)) [(Value.string zz1x), (Value.int .i64 zz20), (Value.int .i64 zz21), (Value.int .i64 zz22), (Sl.v zz1w), (Sl.v zz1z), (Sl.v zz1y)]) ∧ ∃ (zz18 : ByteArray) (zz1b : Int) (zz1c : Int) (zz1d : Int) (zz17 : Sl) (zz1a : Sl) (zz19 : Sl), grd b (ldc vw12 a [(Value.string zz18), (Value.int .i64 zz1b), (Value.int .i64 zz1c), (Value.int .i64 zz1d), (Sl.v zz17), (Sl.v zz1a), (Sl.v zz19)]) ∧ gCall b (fun (t44 : Bool) (vw21 : World)=>(((b && t44) = true → nxt (wrapI (i + 1)) vw21) ∧ ((b && t44) = false → ∃ (p24 : Addr), (c = some p24) ∧ ∃ (t52 : Sl), (ldc vw21 p24 [(Sl.v t52)]) ∧ ((0 : Int) ≤ i ∧ i ≤ (t52.cap : Int)) ∧ appS Tryz.prog 22 22 Sl.nil (Sl.v (Sl.cut t52 0 i.toNat 7)) vw21 fun t55 vw28=>∃ (zz6j : ByteArray) (zz6m : Int) (zz6n : Int) (zz6o : Int) (zz6i : Sl) (zz6l : Sl) (zz6k : Sl), (ldc vw28 a [(Value.string zz6j), (Value.int .i64 zz6m), (Value.int .i64 zz6n), (Value.int .i64 zz6o), (Sl.v zz6i), (Sl.v zz6l), (Sl.v zz6k)]) ∧ newS vw28 [(Value.string zz6j), (Value.int .i64 zz6m), (Value.int .i64 zz6n), (Value.int .i64 zz6o), (Sl.v zz6i), (Sl.v zz6l), (Sl.v zz6k)] 48 fun a30 vw31=>appS Tryz.prog 22 22 t55 (Sl.v (Sl.mk (some a30) 1 1)) vw31 fun t59 vw32=>∃ (p33 : Addr), (c = some p33) ∧ ∃ (t64 : Sl), (ldc vw32 p33 [(Sl.v t64)]) ∧ ((0 : Int) ≤ i ∧ i ≤ (t64.len : Int)) ∧ appS Tryz.prog 22 22 t59 (Sl.v (Sl.cut t64 i.toNat t64.len 7)) vw32 fun t67 vw37=>∃ (p38 : Addr), (c = some p38) ∧ stw vw37 p38 [(Sl.v t67)] fun vw40=>R 0 vw40))) (fun q=>callS Tryz.prog 63 [(Value.agg #[(Value.string zz1x), (Value.int .i64 zz20), (Value.int .i64 zz21), (Value.int .i64 zz22), (Sl.v zz1w), (Sl.v zz1z), (Sl.v zz1y)]), (Value.agg #[(Value.string zz18), (Value.int .i64 zz1b), (Value.int .i64 zz1c), (Value.int .i64 zz1d), (Sl.v zz17), (Sl.v zz1a), (Sl.v zz19)])] vw12 fun v22 vw21=>∃ (t44 : Bool), v22 = (Value.bool t44) ∧ q t44 vw21) (fun q=>q false vw12)))))))
set_option maxHeartbeats 8000000 in
theorem halyardref08_Catalog_Put.sound (c : Option Addr) (zz1 : ByteArray) (zz4 : Int) (zz5 : Int) (zz6 : Int) (zz0 : Sl) (zz3 : Sl) (zz2 : Sl) (w : World) (R : Int → World → Prop) (h : halyardref08_Catalog_Put c zz1 zz4 zz5 zz6 zz0 zz3 zz2 w R) : callS Tryz.prog 20 [(Value.pointer c), (Value.agg #[(Value.string zz1), (Value.int .i64 zz4), (Value.int .i64 zz5), (Value.int .i64 zz6), (Sl.v zz0), (Sl.v zz3), (Sl.v zz2)])] w (fun v w'=>∃ (r0 : Int), v = (Value.int .i64 r0) ∧ R r0 w') := by
 unfold halyardref08_Catalog_Put at h
 refine calls_of_vc 72 rfl Tryz.func20 rfl (by kernel_rfl) (by simp) ?_
 refine Vc.seq ?_
 refine Vc.region ?_
 refine vcL_eff rfl (opVC_new rfl (fun a=>Value.pointer (some a)) (by kernel_rfl) (newS.mono h fun a vw hx h=>?_))
 refine vcL_pure rfl rfl (Value.int .i64 0) (fun w=>by kernel_rfl) ?_
 refine vcL_nil ?_
 refine Vc.seq ?_
 refine Vc.seq ?_
 refine Vc.region ?_
 obtain ⟨zz7h, zz7k, zz7l, zz7m, zz7g, zz7j, zz7i, hc, h⟩ := h
 refine vcL_val rfl rfl (Value.agg #[(Value.string zz7h), (Value.int .i64 zz7k), (Value.int .i64 zz7l), (Value.int .i64 zz7m), (Sl.v zz7g), (Sl.v zz7j), (Sl.v zz7i)]) (exec_load rfl (by kernel_rfl) (run_loadN (fun w=>by kernel_rfl) (fun w=>by kernel_rfl) ((hc)))) ?_
 refine vcL_eff rfl (opVC_call rfl (by kernel_rfl) (callS.mono h fun v vw1 h=>?_))
 obtain ⟨t10, rfl, h⟩ := h
 refine vcL_pure rfl rfl (Value.bool (!t10)) (fun w=>by kernel_rfl) ?_
 refine vcL_nil ?_
 refine Vc.cond (!t10) (by kernel_rfl) (fun hb=>?_) (fun hb=>?_)
 ·have h := h.1 (hb)
  refine Vc.seq ?_
  refine Vc.region ?_
  refine vcL_pure rfl rfl (Value.int .i64 24) (fun w=>by kernel_rfl) ?_
  refine vcL_nil ?_
  refine Vc.ret ?_
  refine outs_ret ?_
  refine done_mk (Value.int .i64 24) (res1 (resC_tmp (by kernel_rfl))) ?_
  exact ⟨24, rfl, h⟩
 ·have h := h.2 (hb)
  refine Vc.skip ?_
  refine Vc.seq ?_
  refine Vc.region ?_
  refine vcL_purs 2 [(14, (Value.pointer (some a))), (13, (Value.pointer c))] (by kernel_rfl) ?_
  obtain ⟨t15, hc2, h⟩ := h
  refine vcL_val rfl rfl (Value.string t15) (exec_load rfl (by kernel_rfl) (run_load1 (fun w=>by kernel_rfl) ((hc2)))) ?_
  refine vcL_pure rfl rfl (Value.pointer (some (a.add 1))) (fun w=>by kernel_rfl) ?_
  obtain ⟨zz1e, zz1f, zz1g, hc3, h⟩ := h
  refine vcL_val rfl rfl (Value.agg #[(Value.int .i64 zz1e), (Value.int .i64 zz1f), (Value.int .i64 zz1g)]) (exec_load rfl (by kernel_rfl) (run_loadN (fun w=>by kernel_rfl) (fun w=>by kernel_rfl) ((hc3)))) ?_
  refine vcL_eff rfl (opVC_call rfl (by kernel_rfl) (callS.mono h fun v5 vw4 h=>?_))
  obtain ⟨zz8, zzb, zzc, zzd, zz7, zza, zz9, t18b, rfl, h⟩ := h
  refine vcL_purs 3 [(20, (Value.bool t18b)), (19, (Value.agg #[(Value.string zz8), (Value.int .i64 zzb), (Value.int .i64 zzc), (Value.int .i64 zzd), (Sl.v zz7), (Sl.v zza), (Sl.v zz9)])), (12, (Value.tuple #[(Value.agg #[(Value.string zz8), (Value.int .i64 zzb), (Value.int .i64 zzc), (Value.int .i64 zzd), (Sl.v zz7), (Sl.v zza), (Sl.v zz9)]), (Value.bool t18b)]))] (by kernel_rfl) ?_
  refine vcL_eff rfl (opVC_new rfl (fun a=>Value.pointer (some a)) (by kernel_rfl) (newS.mono h fun a7 vw8 hx h=>?_))
  refine vcL_eff rfl (opVC_store rfl rfl (a := a7) (by kernel_rfl) (v := (Value.agg #[(Value.string zz8), (Value.int .i64 zzb), (Value.int .i64 zzc), (Value.int .i64 zzd), (Sl.v zz7), (Sl.v zza), (Sl.v zz9)])) (by kernel_rfl) [(Value.string zz8), (Value.int .i64 zzb), (Value.int .i64 zzc), (Value.int .i64 zzd), (Sl.v zz7), (Sl.v zza), (Sl.v zz9)] (by kernel_rfl) (fun w=>by kernel_rfl) (by kernel_rfl) (stw.mono h fun vw9 h=>?_))
  refine vcL_pure rfl rfl (Value.bool t18b) (fun w=>by kernel_rfl) ?_
  refine vcL_nil ?_
  refine Vc.seq ?_
  refine Vc.seq ?_
  refine Vc.region ?_
  refine vcL_pure rfl rfl (Value.bool t18b) (fun w=>by kernel_rfl) ?_
  refine vcL_nil ?_
  refine Vc.cond t18b (by kernel_rfl) (fun hb=>?_) (fun hb=>?_)
  ·have h := h.1 (hb)
   refine Vc.seq ?_
   refine Vc.region ?_
   refine vcL_pure rfl rfl (Value.int .i64 11) (fun w=>by kernel_rfl) ?_
   refine vcL_nil ?_
   refine Vc.ret ?_
   refine outs_ret ?_
   refine done_mk (Value.int .i64 11) (res1 (resC_tmp (by kernel_rfl))) ?_
   exact ⟨11, rfl, h⟩
  ·have h := h.2 (hb)
   refine Vc.skip ?_
   refine Vc.seq ?_
   refine Vc.seq ?_
   refine Vc.region ?_
   refine vcL_pure rfl rfl (Value.pointer c) (fun w=>by kernel_rfl) ?_
   obtain ⟨p, hp, h⟩ := h
   refine vcL_pure rfl rfl (Value.pointer (some p)) (fun w=>by exact exec_nilCheck rfl (by kernel_rfl) (hp) w) ?_
   refine vcL_pure rfl rfl (Value.pointer (some p)) (fun w=>by kernel_rfl) ?_
   obtain ⟨t25, hc10, h⟩ := h
   refine vcL_val rfl rfl (Sl.v t25) (exec_load rfl (by kernel_rfl) (run_load1 (fun w=>by kernel_rfl) ((hc10)))) ?_
   refine vcL_purs 2 [(27, (Value.bool (decide (128 ≤ (t25.len : Int))))), (26, (Value.int .i64 (t25.len : Int)))] (by kernel_rfl) ?_
   refine vcL_nil ?_
   refine Vc.cond (decide (128 ≤ (t25.len : Int))) (by kernel_rfl) (fun hb=>?_) (fun hb=>?_)
   ·have h := h.1 (of_decide_eq_true hb)
    refine Vc.seq ?_
    refine Vc.region ?_
    refine vcL_pure rfl rfl (Value.int .i64 26) (fun w=>by kernel_rfl) ?_
    refine vcL_nil ?_
    refine Vc.ret ?_
    refine outs_ret ?_
    refine done_mk (Value.int .i64 26) (res1 (resC_tmp (by kernel_rfl))) ?_
    exact ⟨26, rfl, h⟩
   ·have h := h.2 (of_decide_eq_false hb)
    refine Vc.skip ?_
    refine Vc.seq ?_
    refine Vc.region ?_
    refine vcL_pure rfl rfl (Value.int .i64 0) (fun w=>by kernel_rfl) ?_
    refine vcL_nil ?_
    refine Vc.seq ?_
    refine Vc.block ?_
    obtain ⟨vI, mu, h, hr⟩ := h
    refine Vc.loopJ (σ := Int) [7] [28, 29, 30, 31, 32, 33, 34, 35, 36, 37, 38, 39, 40, 41, 42, 43, 44, 45, 46, 47] (fun s=>[(7, (Value.int .i64 s))]) (fun s w=>vI s w) (fun s w=>mu s w) 0 h (fun _ => rfl) (by kernel_rfl) ?_
    intro i vw11 j h
    have h := hr i vw11 h
    refine Vc.seq ?_
    refine Vc.seq ?_
    obtain ⟨vw12, hvw12⟩ : ∃ y, y = vw11.drew := ⟨_, rfl⟩
    have h := h vw12 hvw12
    refine Vc.draw (by kernel_rfl) (fun i=>!(memN [16] i)) (.pur 0 (.pur 1 (.pur 2 (.pur 3 (.val 4 (.pur 5 (.pur 6 (.pur 7 (.pur 8 (.pur 9 (.pur 10 (.val 11 (.pur 12 (.pur 13 (.val 14 (.val 15 (.eff 16 (.pur 17 .fin) .stop))))))))))))))))) (by kernel_rfl) ?_
    rw [← hvw12]
    clear hvw12
    refine vcS_pure rfl rfl rfl (Value.int .i64 i) (fun w=>by kernel_rfl) ?_
    refine vcS_pure rfl rfl rfl (Value.pointer c) (fun w=>by kernel_rfl) ?_
    obtain ⟨p13, hp14, h⟩ := h
    refine vcS_pure rfl rfl rfl (Value.pointer (some p13)) (fun w=>by exact exec_nilCheck rfl (by kernel_rfl) (hp14) w) ?_
    refine vcS_pure rfl rfl rfl (Value.pointer (some p13)) (fun w=>by kernel_rfl) ?_
    obtain ⟨t32, hc15, h⟩ := h
    refine vcS_val rfl rfl rfl (Sl.v t32) (fun w' hx=>exec_load rfl (by kernel_rfl) (run_load1 (fun w=>by kernel_rfl) ((hc15).ext hx))) ?_
    refine vcS_pure rfl rfl rfl (Value.int .i64 (t32.len : Int)) (fun w=>by kernel_rfl) ?_
    refine vcS_pure rfl rfl rfl (Value.bool (decide (i < (t32.len : Int)))) (fun w=>by kernel_rfl) ?_
    obtain ⟨b, hb⟩ : ∃ y, y = (decide (i < (t32.len : Int))) := ⟨_, rfl⟩
    have h := h b hb
    refine vcS_pure rfl rfl rfl (Value.bool b) (fun w=>by rw [hb]; kernel_rfl) ?_
    refine vcS_guard rfl b (wanted_g (d := 35) rfl (by kernel_rfl) b (by kernel_rfl) b (eqT b)) rfl (Value.pointer c) (fun hg w=>by subst hg; kernel_rfl) ?_
    obtain ⟨p16, hp17, h⟩ := h
    refine vcS_guard rfl b (wanted_g (d := 35) rfl (by kernel_rfl) b (by kernel_rfl) b (eqT b)) rfl (Value.pointer (some p16)) (fun hg w=>by subst hg; exact exec_nilCheck rfl (by kernel_rfl) (hp17 rfl) w) ?_
    refine vcS_guard rfl b (wanted_g (d := 35) rfl (by kernel_rfl) b (by kernel_rfl) b (eqT b)) rfl (Value.pointer (some p16)) (fun hg w=>by subst hg; kernel_rfl) ?_
    obtain ⟨t39, hc18, h⟩ := h
    refine vcS_valG rfl b (wanted_g (d := 35) rfl (by kernel_rfl) b (by kernel_rfl) b (eqT b)) rfl (Sl.v t39) (fun hg w' hx=>by subst hg; exact exec_load rfl (by kernel_rfl) (run_load1 (fun w=>by kernel_rfl) ((hc18 rfl).ext hx))) ?_
    refine vcS_guard rfl b (wanted_g (d := 35) rfl (by kernel_rfl) b (by kernel_rfl) b (eqT b)) rfl (Value.int .i64 i) (fun hg w=>by subst hg; kernel_rfl) ?_
    obtain ⟨ad, hi, h⟩ := h
    refine vcS_guard rfl b (wanted_g (d := 35) rfl (by kernel_rfl) b (by kernel_rfl) b (eqT b)) rfl (Value.pointer (some (ad.add (i.toNat * 7)))) (fun hg w=>by subst hg; exact exec_indexAt (s := t39) (el := 48) rfl (by kernel_rfl) (by kernel_rfl) (by kernel_rfl) (fun w=>by kernel_rfl) (hi rfl).1 (hi rfl).2.1 (hi rfl).2.2 w) ?_
    obtain ⟨zz1x, zz20, zz21, zz22, zz1w, zz1z, zz1y, hc19, h⟩ := h
    refine vcS_valG rfl b (wanted_g (d := 35) rfl (by kernel_rfl) b (by kernel_rfl) b (eqT b)) rfl (Value.agg #[(Value.string zz1x), (Value.int .i64 zz20), (Value.int .i64 zz21), (Value.int .i64 zz22), (Sl.v zz1w), (Sl.v zz1z), (Sl.v zz1y)]) (fun hg w' hx=>by subst hg; exact exec_load rfl (by kernel_rfl) (run_loadN (fun w=>by kernel_rfl) (fun w=>by kernel_rfl) ((hc19 rfl).ext hx))) ?_
    obtain ⟨zz18, zz1b, zz1c, zz1d, zz17, zz1a, zz19, hc20, h⟩ := h
    refine vcS_valG rfl b (wanted_g (d := 35) rfl (by kernel_rfl) b (by kernel_rfl) b (eqT b)) rfl (Value.agg #[(Value.string zz18), (Value.int .i64 zz1b), (Value.int .i64 zz1c), (Value.int .i64 zz1d), (Sl.v zz17), (Sl.v zz1a), (Sl.v zz19)]) (fun hg w' hx=>by subst hg; exact exec_load rfl (by kernel_rfl) (run_loadN (fun w=>by kernel_rfl) (fun w=>by kernel_rfl) ((hc20 rfl).ext hx))) ?_
    obtain ⟨vJ, hJ, h⟩ := gCall_elim h
    refine vcS_effJ (σ := Bool) rfl b (wanted_g (d := 35) rfl (by kernel_rfl) b (by kernel_rfl) b (eqT b)) rfl (fun s w=>vJ s w) (fun s=>(Value.bool s)) ?_ (fun hg=>opVC_call rfl (by subst hg; kernel_rfl) (callS.mono (h.1 hg) fun v22 vw21 hq=>?_)) (fun hg=>⟨false, h.2 hg⟩) vcS_stop
    ·intro t44 vw21 h
     subst hJ
     refine vcS_pure rfl rfl rfl (Value.bool (b && t44)) (fun w=>by cases b <;> kernel_rfl) ?_
     refine vcS_fin ?_
     refine Vc.cond (b && t44) (by kernel_rfl) (fun hb=>?_) (fun hb=>?_)
     ·have h := h.1 (hb)
      refine Vc.skip ?_
      refine Vc.block ?_
      refine Vc.region ?_
      refine vcL_purs 3 [(7, (Value.int .i64 (wrapI (i + 1)))), (47, (Value.int .i64 (wrapI (i + 1)))), (46, (Value.int .i64 i))] (by kernel_rfl) ?_
      refine vcL_nil ?_
      exact ⟨(wrapI (i + 1)), 42, ⟨rfl, by kernel_rfl, by kernel_rfl, by kernel_rfl⟩, h⟩
     ·have h := h.2 (hb)
      refine Vc.exit ?_
      refine outOf_hit ?_
      refine Vc.seq ?_
      refine Vc.region ?_
      refine vcL_pure rfl rfl (Sl.v Sl.nil) (fun w=>by kernel_rfl) ?_
      refine vcL_nil ?_
      refine Vc.seq ?_
      refine Vc.region ?_
      refine vcL_purs 2 [(49, (Value.pointer c)), (48, (Sl.v Sl.nil))] (by kernel_rfl) ?_
      obtain ⟨p24, hp25, h⟩ := h
      refine vcL_pure rfl rfl (Value.pointer (some p24)) (fun w=>by exact exec_nilCheck rfl (by kernel_rfl) (hp25) w) ?_
      refine vcL_pure rfl rfl (Value.pointer (some p24)) (fun w=>by kernel_rfl) ?_
      obtain ⟨t52, hc26, h⟩ := h
      refine vcL_val rfl rfl (Sl.v t52) (exec_load rfl (by kernel_rfl) (run_load1 (fun w=>by kernel_rfl) ((hc26)))) ?_
      refine vcL_pure rfl rfl (Value.int .i64 i) (fun w=>by kernel_rfl) ?_
      obtain ⟨hi27, h⟩ := h
      refine vcL_pure rfl rfl (Sl.v (Sl.cut t52 0 i.toNat 7)) (fun w=>by exact exec_slSlH (s := t52) (el := 48) (k2 := .i64) rfl (by kernel_rfl) (by kernel_rfl) (by kernel_rfl) (fun w=>by kernel_rfl) (hi27) w) ?_
      refine vcL_eff rfl (opVC_sem rfl (c := Builtin.append_ #[22, 22] 22 #[(Sl.v Sl.nil), (Sl.v (Sl.cut t52 0 i.toNat 7))]) (by kernel_rfl) (appS.elim (ty := 22) h fun t55 vw28 h=>?_))
      refine vcL_pure rfl rfl (Sl.v t55) (fun w=>by kernel_rfl) ?_
      refine vcL_nil ?_
      refine Vc.seq ?_
      refine Vc.region ?_
      refine vcL_pure rfl rfl (Sl.v t55) (fun w=>by kernel_rfl) ?_
      obtain ⟨zz6j, zz6m, zz6n, zz6o, zz6i, zz6l, zz6k, hc29, h⟩ := h
      refine vcL_val rfl rfl (Value.agg #[(Value.string zz6j), (Value.int .i64 zz6m), (Value.int .i64 zz6n), (Value.int .i64 zz6o), (Sl.v zz6i), (Sl.v zz6l), (Sl.v zz6k)]) (exec_load rfl (by kernel_rfl) (run_loadN (fun w=>by kernel_rfl) (fun w=>by kernel_rfl) ((hc29)))) ?_
      refine vcL_eff rfl (opVC_new rfl (fun a=>Value.slice (some a) 1 1) (by kernel_rfl) (newS.mono h fun a30 vw31 hx h=>?_))
      refine vcL_eff rfl (opVC_sem rfl (c := Builtin.append_ #[22, 22] 22 #[(Sl.v t55), (Sl.v (Sl.mk (some a30) 1 1))]) (by kernel_rfl) (appS.elim (ty := 22) h fun t59 vw32 h=>?_))
      refine vcL_pure rfl rfl (Sl.v t59) (fun w=>by kernel_rfl) ?_
      refine vcL_nil ?_
      refine Vc.seq ?_
      refine Vc.region ?_
      refine vcL_purs 2 [(61, (Value.pointer c)), (60, (Sl.v t59))] (by kernel_rfl) ?_
      obtain ⟨p33, hp34, h⟩ := h
      refine vcL_pure rfl rfl (Value.pointer (some p33)) (fun w=>by exact exec_nilCheck rfl (by kernel_rfl) (hp34) w) ?_
      refine vcL_pure rfl rfl (Value.pointer (some p33)) (fun w=>by kernel_rfl) ?_
      obtain ⟨t64, hc35, h⟩ := h
      refine vcL_val rfl rfl (Sl.v t64) (exec_load rfl (by kernel_rfl) (run_load1 (fun w=>by kernel_rfl) ((hc35)))) ?_
      refine vcL_pure rfl rfl (Value.int .i64 i) (fun w=>by kernel_rfl) ?_
      obtain ⟨hi36, h⟩ := h
      refine vcL_pure rfl rfl (Sl.v (Sl.cut t64 i.toNat t64.len 7)) (fun w=>by exact exec_slSlL (s := t64) (el := 48) (k1 := .i64) rfl (by kernel_rfl) (by kernel_rfl) (by kernel_rfl) (fun w=>by kernel_rfl) (hi36) w) ?_
      refine vcL_eff rfl (opVC_sem rfl (c := Builtin.append_ #[22, 22] 22 #[(Sl.v t59), (Sl.v (Sl.cut t64 i.toNat t64.len 7))]) (by kernel_rfl) (appS.elim (ty := 22) h fun t67 vw37 h=>?_))
      refine vcL_pure rfl rfl (Sl.v t67) (fun w=>by kernel_rfl) ?_
      refine vcL_nil ?_
      refine Vc.seq ?_
      refine Vc.region ?_
      refine vcL_purs 2 [(69, (Sl.v t67)), (68, (Value.pointer c))] (by kernel_rfl) ?_
      obtain ⟨p38, hp39, h⟩ := h
      refine vcL_pure rfl rfl (Value.pointer (some p38)) (fun w=>by exact exec_nilCheck rfl (by kernel_rfl) (hp39) w) ?_
      refine vcL_pure rfl rfl (Value.pointer (some p38)) (fun w=>by kernel_rfl) ?_
      refine vcL_eff rfl (opVC_store rfl rfl (a := p38) (by kernel_rfl) (v := (Sl.v t67)) (by kernel_rfl) [(Sl.v t67)] (by kernel_rfl) (fun w=>by kernel_rfl) (by kernel_rfl) (stw.mono h fun vw40 h=>?_))
      refine vcL_nil ?_
      refine Vc.seq ?_
      refine Vc.region ?_
      refine vcL_pure rfl rfl (Value.int .i64 0) (fun w=>by kernel_rfl) ?_
      refine vcL_nil ?_
      refine Vc.ret ?_
      refine outs_ret ?_
      refine done_mk (Value.int .i64 0) (res1 (resC_tmp (by kernel_rfl))) ?_
      exact ⟨0, rfl, h⟩
    ·obtain ⟨t44, rfl, hq⟩ := hq
     exact ⟨fun hb=>absurd hb (by decide), t44, rfl, hq⟩
theorem halyardref08_Catalog_Put.go {c : Option Addr} {zz1 : ByteArray} {zz4 : Int} {zz5 : Int} {zz6 : Int} {zz0 : Sl} {zz3 : Sl} {zz2 : Sl} {w : World} {k : Value → World → Prop} (h : halyardref08_Catalog_Put c zz1 zz4 zz5 zz6 zz0 zz3 zz2 w fun r0 w'=>k (Value.int .i64 r0) w') : callS Tryz.prog 20 [(Value.pointer c), (Value.agg #[(Value.string zz1), (Value.int .i64 zz4), (Value.int .i64 zz5), (Value.int .i64 zz6), (Sl.v zz0), (Sl.v zz3), (Sl.v zz2)])] w k := (halyardref08_Catalog_Put.sound c zz1 zz4 zz5 zz6 zz0 zz3 zz2 w _ h).mono (by rintro _ _ ⟨r0, rfl, h⟩; exact h)
def halyardlaw08_over (zz1 : ByteArray) (zz4 : Int) (zz5 : Int) (zz6 : Int) (zz0 : Sl) (zz3 : Sl) (zz2 : Sl) (w : World) (R : World → Prop) : Prop :=
 newS w [(Value.string zz1), (Value.int .i64 zz4), (Value.int .i64 zz5), (Value.int .i64 zz6), (Sl.v zz0), (Sl.v zz3), (Sl.v zz2)] 48 fun a vw=>loop1 0 vw fun i vw1 nxt=>∃ (t8 : Sl), (ldc vw1 (a.add 4) [(Sl.v t8)]) ∧ ((i < (t8.len : Int) → loop1 0 vw1 fun vk vw2 nxt3=>∃ (t15 : Sl), (ldc vw2 (a.add 4) [(Sl.v t15)]) ∧ ∃ (ad : Addr), (t15.a = some ad ∧ (0 : Int) ≤ i ∧ i < (t15.len : Int)) ∧ ∃ (t19 : Sl), (ldc vw2 ((ad.add (i.toNat * 2)).add 1) [(Sl.v t19)]) ∧ ((vk < (t19.len : Int) → ∃ (t25 : Sl), (ldc vw2 (a.add 4) [(Sl.v t25)]) ∧ ∃ (ad7 : Addr), (t25.a = some ad7 ∧ (0 : Int) ≤ i ∧ i < (t25.len : Int)) ∧ ∃ (t29 : Sl), (ldc vw2 ((ad7.add (i.toNat * 2)).add 1) [(Sl.v t29)]) ∧ ∃ (ad10 : Addr), (t29.a = some ad10 ∧ (0 : Int) ≤ vk ∧ vk < (t29.len : Int)) ∧ stw vw2 (ad10.add (vk.toNat * 6)) [(Value.int .i64 (-1)), (Value.int .i64 0), (Value.int .i64 0), (Value.int .i64 0), (Value.int .i64 0), (Value.int .i64 0)] fun vw12=>nxt3 (wrapI (vk + 1)) vw12) ∧ (¬ (vk < (t19.len : Int)) → ∃ (t35 : Sl), (ldc vw2 (a.add 4) [(Sl.v t35)]) ∧ ∃ (ad14 : Addr), (t35.a = some ad14 ∧ (0 : Int) ≤ i ∧ i < (t35.len : Int)) ∧ stw vw2 (ad14.add (i.toNat * 2)) [(Value.string (ByteArray.mk #[63]))] fun vw16=>nxt (wrapI (i + 1)) vw16))) ∧ (¬ (i < (t8.len : Int)) → loop1 0 vw1 fun i17 vw18 nxt19=>∃ (t41 : Sl), (ldc vw18 (a.add 5) [(Sl.v t41)]) ∧ ((i17 < (t41.len : Int) → ∃ (t47 : Sl), (ldc vw18 (a.add 5) [(Sl.v t47)]) ∧ ∃ (ad22 : Addr), (t47.a = some ad22 ∧ (0 : Int) ≤ i17 ∧ i17 < (t47.len : Int)) ∧ stw vw18 (ad22.add (i17.toNat * 2)) [(Value.string (ByteArray.mk #[63]))] fun vw24=>nxt19 (wrapI (i17 + 1)) vw24) ∧ (¬ (i17 < (t41.len : Int)) → loop1 0 vw18 fun i25 vw26 nxt27=>∃ (t53 : Sl), (ldc vw26 (a.add 6) [(Sl.v t53)]) ∧ ((i25 < (t53.len : Int) → ∃ (t59 : Sl), (ldc vw26 (a.add 6) [(Sl.v t59)]) ∧ ∃ (ad30 : Addr), (t59.a = some ad30 ∧ (0 : Int) ≤ i25 ∧ i25 < (t59.len : Int)) ∧ stw vw26 (ad30.add (i25.toNat * 2)) [(Value.string (ByteArray.mk #[63]))] fun vw32=>nxt27 (wrapI (i25 + 1)) vw32) ∧ (¬ (i25 < (t53.len : Int)) → R vw26))))))
set_option maxHeartbeats 8000000 in
theorem halyardlaw08_over.sound (zz1 : ByteArray) (zz4 : Int) (zz5 : Int) (zz6 : Int) (zz0 : Sl) (zz3 : Sl) (zz2 : Sl) (w : World) (R : World → Prop) (h : halyardlaw08_over zz1 zz4 zz5 zz6 zz0 zz3 zz2 w R) : callS Tryz.prog 21 [(Value.agg #[(Value.string zz1), (Value.int .i64 zz4), (Value.int .i64 zz5), (Value.int .i64 zz6), (Sl.v zz0), (Sl.v zz3), (Sl.v zz2)])] w (fun v w'=>v = (Value.tuple #[]) ∧ R w') := by
 unfold halyardlaw08_over at h
 refine calls_of_vc 63 rfl Tryz.func21 rfl (by kernel_rfl) (by simp) ?_
 refine Vc.seq ?_
 refine Vc.region ?_
 refine vcL_eff rfl (opVC_new rfl (fun a=>Value.pointer (some a)) (by kernel_rfl) (newS.mono h fun a vw hx h=>?_))
 refine vcL_nil ?_
 refine Vc.seq ?_
 refine Vc.seq ?_
 refine Vc.region ?_
 refine vcL_pure rfl rfl (Value.int .i64 0) (fun w=>by kernel_rfl) ?_
 refine vcL_nil ?_
 refine Vc.block ?_
 obtain ⟨vI39, mu40, h, hr41⟩ := h
 refine Vc.loopJ (σ := Int) [2] [3, 6, 7, 8, 9, 10, 11, 12, 13, 14, 15, 16, 17, 18, 19, 20, 21, 22, 23, 24, 25, 26, 27, 28, 29, 30, 31, 32, 33, 34, 35, 36, 37, 38] (fun s=>[(2, (Value.int .i64 s))]) (fun s w=>vI39 s w) (fun s w=>mu40 s w) 0 h (fun _ => rfl) (by kernel_rfl) ?_
 intro i vw1 j h
 have h := hr41 i vw1 h
 refine Vc.seq ?_
 refine Vc.seq ?_
 refine Vc.region ?_
 refine vcL_purs 2 [(7, (Value.pointer (some (a.add 4)))), (6, (Value.int .i64 i))] (by kernel_rfl) ?_
 obtain ⟨t8, hc, h⟩ := h
 refine vcL_val rfl rfl (Sl.v t8) (exec_load rfl (by kernel_rfl) (run_load1 (fun w=>by kernel_rfl) ((hc)))) ?_
 refine vcL_purs 2 [(10, (Value.bool (decide (i < (t8.len : Int))))), (9, (Value.int .i64 (t8.len : Int)))] (by kernel_rfl) ?_
 refine vcL_nil ?_
 refine Vc.cond (decide (i < (t8.len : Int))) (by kernel_rfl) (fun hb=>?_) (fun hb=>?_)
 ·have h := h.1 (of_decide_eq_true hb)
  refine Vc.skip ?_
  refine Vc.seq ?_
  refine Vc.block ?_
  refine Vc.seq ?_
  refine Vc.seq ?_
  refine Vc.region ?_
  refine vcL_pure rfl rfl (Value.int .i64 0) (fun w=>by kernel_rfl) ?_
  refine vcL_nil ?_
  refine Vc.block ?_
  obtain ⟨vI, mu, h, hr⟩ := h
  refine Vc.loopJ (σ := Int) [3] [13, 14, 15, 16, 17, 18, 19, 20, 21, 22, 23, 24, 25, 26, 27, 28, 29, 30, 31, 32, 33] (fun s=>[(3, (Value.int .i64 s))]) (fun s w=>vI s w) (fun s w=>mu s w) 0 h (fun _ => rfl) (by kernel_rfl) ?_
  intro vk vw2 j h
  have h := hr vk vw2 h
  refine Vc.seq ?_
  refine Vc.seq ?_
  refine Vc.region ?_
  refine vcL_purs 2 [(14, (Value.pointer (some (a.add 4)))), (13, (Value.int .i64 vk))] (by kernel_rfl) ?_
  obtain ⟨t15, hc4, h⟩ := h
  refine vcL_val rfl rfl (Sl.v t15) (exec_load rfl (by kernel_rfl) (run_load1 (fun w=>by kernel_rfl) ((hc4)))) ?_
  refine vcL_pure rfl rfl (Value.int .i64 i) (fun w=>by kernel_rfl) ?_
  obtain ⟨ad, hi, h⟩ := h
  refine vcL_pure rfl rfl (Value.pointer (some (ad.add (i.toNat * 2)))) (fun w=>by exact exec_indexAt (s := t15) (el := 81) rfl (by kernel_rfl) (by kernel_rfl) (by kernel_rfl) (fun w=>by kernel_rfl) (hi).1 (hi).2.1 (hi).2.2 w) ?_
  refine vcL_pure rfl rfl (Value.pointer (some ((ad.add (i.toNat * 2)).add 1))) (fun w=>by kernel_rfl) ?_
  obtain ⟨t19, hc5, h⟩ := h
  refine vcL_val rfl rfl (Sl.v t19) (exec_load rfl (by kernel_rfl) (run_load1 (fun w=>by kernel_rfl) ((hc5)))) ?_
  refine vcL_purs 2 [(21, (Value.bool (decide (vk < (t19.len : Int))))), (20, (Value.int .i64 (t19.len : Int)))] (by kernel_rfl) ?_
  refine vcL_nil ?_
  refine Vc.cond (decide (vk < (t19.len : Int))) (by kernel_rfl) (fun hb=>?_) (fun hb=>?_)
  ·have h := h.1 (of_decide_eq_true hb)
   refine Vc.skip ?_
   refine Vc.seq ?_
   refine Vc.block ?_
   refine Vc.region ?_
   refine vcL_pure rfl rfl (Value.pointer (some (a.add 4))) (fun w=>by kernel_rfl) ?_
   obtain ⟨t25, hc6, h⟩ := h
   refine vcL_val rfl rfl (Sl.v t25) (exec_load rfl (by kernel_rfl) (run_load1 (fun w=>by kernel_rfl) ((hc6)))) ?_
   refine vcL_pure rfl rfl (Value.int .i64 i) (fun w=>by kernel_rfl) ?_
   obtain ⟨ad7, hi8, h⟩ := h
   refine vcL_pure rfl rfl (Value.pointer (some (ad7.add (i.toNat * 2)))) (fun w=>by exact exec_indexAt (s := t25) (el := 81) rfl (by kernel_rfl) (by kernel_rfl) (by kernel_rfl) (fun w=>by kernel_rfl) (hi8).1 (hi8).2.1 (hi8).2.2 w) ?_
   refine vcL_pure rfl rfl (Value.pointer (some ((ad7.add (i.toNat * 2)).add 1))) (fun w=>by kernel_rfl) ?_
   obtain ⟨t29, hc9, h⟩ := h
   refine vcL_val rfl rfl (Sl.v t29) (exec_load rfl (by kernel_rfl) (run_load1 (fun w=>by kernel_rfl) ((hc9)))) ?_
   refine vcL_purs 3 [(32, (Value.agg #[(Value.int .i64 (-1)), (Value.int .i64 0), (Value.int .i64 0), (Value.int .i64 0), (Value.int .i64 0), (Value.int .i64 0)])), (31, (Value.agg #[(Value.int .i64 (-1)), (Value.int .i64 0), (Value.int .i64 0)])), (30, (Value.int .i64 vk))] (by kernel_rfl) ?_
   obtain ⟨ad10, hi11, h⟩ := h
   refine vcL_pure rfl rfl (Value.pointer (some (ad10.add (vk.toNat * 6)))) (fun w=>by exact exec_indexAt (s := t29) (el := 83) rfl (by kernel_rfl) (by kernel_rfl) (by kernel_rfl) (fun w=>by kernel_rfl) (hi11).1 (hi11).2.1 (hi11).2.2 w) ?_
   refine vcL_eff rfl (opVC_store rfl rfl (a := (ad10.add (vk.toNat * 6))) (by kernel_rfl) (v := (Value.agg #[(Value.int .i64 (-1)), (Value.int .i64 0), (Value.int .i64 0), (Value.int .i64 0), (Value.int .i64 0), (Value.int .i64 0)])) (by kernel_rfl) [(Value.int .i64 (-1)), (Value.int .i64 0), (Value.int .i64 0), (Value.int .i64 0), (Value.int .i64 0), (Value.int .i64 0)] (by kernel_rfl) (fun w=>by kernel_rfl) (by kernel_rfl) (stw.mono h fun vw12 h=>?_))
   refine vcL_nil ?_
   refine Vc.region ?_
   refine vcL_purs 3 [(3, (Value.int .i64 (wrapI (vk + 1)))), (23, (Value.int .i64 (wrapI (vk + 1)))), (22, (Value.int .i64 vk))] (by kernel_rfl) ?_
   refine vcL_nil ?_
   exact ⟨(wrapI (vk + 1)), 44, ⟨rfl, by kernel_rfl, by kernel_rfl, by kernel_rfl⟩, h⟩
  ·have h := h.2 (of_decide_eq_false hb)
   refine Vc.exit ?_
   refine outOf_hit ?_
   refine Vc.region ?_
   refine vcL_pure rfl rfl (Value.pointer (some (a.add 4))) (fun w=>by kernel_rfl) ?_
   obtain ⟨t35, hc13, h⟩ := h
   refine vcL_val rfl rfl (Sl.v t35) (exec_load rfl (by kernel_rfl) (run_load1 (fun w=>by kernel_rfl) ((hc13)))) ?_
   refine vcL_pure rfl rfl (Value.int .i64 i) (fun w=>by kernel_rfl) ?_
   obtain ⟨ad14, hi15, h⟩ := h
   refine vcL_pure rfl rfl (Value.pointer (some (ad14.add (i.toNat * 2)))) (fun w=>by exact exec_indexAt (s := t35) (el := 81) rfl (by kernel_rfl) (by kernel_rfl) (by kernel_rfl) (fun w=>by kernel_rfl) (hi15).1 (hi15).2.1 (hi15).2.2 w) ?_
   refine vcL_pure rfl rfl (Value.pointer (some (ad14.add (i.toNat * 2)))) (fun w=>by kernel_rfl) ?_
   refine vcL_eff rfl (opVC_store rfl rfl (a := (ad14.add (i.toNat * 2))) (by kernel_rfl) (v := (Value.string (ByteArray.mk #[63]))) (by kernel_rfl) [(Value.string (ByteArray.mk #[63]))] (by kernel_rfl) (fun w=>by kernel_rfl) (by kernel_rfl) (stw.mono h fun vw16 h=>?_))
   refine vcL_nil ?_
   refine Vc.region ?_
   refine vcL_purs 3 [(2, (Value.int .i64 (wrapI (i + 1)))), (12, (Value.int .i64 (wrapI (i + 1)))), (11, (Value.int .i64 i))] (by kernel_rfl) ?_
   refine vcL_nil ?_
   exact ⟨(wrapI (i + 1)), 80, ⟨rfl, by kernel_rfl, by kernel_rfl, by kernel_rfl⟩, h⟩
 ·have h := h.2 (of_decide_eq_false hb)
  refine Vc.exit ?_
  refine outOf_hit ?_
  refine Vc.seq ?_
  refine Vc.seq ?_
  refine Vc.region ?_
  refine vcL_pure rfl rfl (Value.int .i64 0) (fun w=>by kernel_rfl) ?_
  refine vcL_nil ?_
  refine Vc.block ?_
  obtain ⟨vI36, mu37, h, hr38⟩ := h
  refine Vc.loopJ (σ := Int) [4] [39, 40, 41, 42, 43, 44, 45, 46, 47, 48, 49, 50] (fun s=>[(4, (Value.int .i64 s))]) (fun s w=>vI36 s w) (fun s w=>mu37 s w) 0 h (fun _ => rfl) (by kernel_rfl) ?_
  intro i17 vw18 j h
  have h := hr38 i17 vw18 h
  refine Vc.seq ?_
  refine Vc.seq ?_
  refine Vc.region ?_
  refine vcL_purs 2 [(40, (Value.pointer (some (a.add 5)))), (39, (Value.int .i64 i17))] (by kernel_rfl) ?_
  obtain ⟨t41, hc20, h⟩ := h
  refine vcL_val rfl rfl (Sl.v t41) (exec_load rfl (by kernel_rfl) (run_load1 (fun w=>by kernel_rfl) ((hc20)))) ?_
  refine vcL_purs 2 [(43, (Value.bool (decide (i17 < (t41.len : Int))))), (42, (Value.int .i64 (t41.len : Int)))] (by kernel_rfl) ?_
  refine vcL_nil ?_
  refine Vc.cond (decide (i17 < (t41.len : Int))) (by kernel_rfl) (fun hb=>?_) (fun hb=>?_)
  ·have h := h.1 (of_decide_eq_true hb)
   refine Vc.skip ?_
   refine Vc.seq ?_
   refine Vc.block ?_
   refine Vc.region ?_
   refine vcL_pure rfl rfl (Value.pointer (some (a.add 5))) (fun w=>by kernel_rfl) ?_
   obtain ⟨t47, hc21, h⟩ := h
   refine vcL_val rfl rfl (Sl.v t47) (exec_load rfl (by kernel_rfl) (run_load1 (fun w=>by kernel_rfl) ((hc21)))) ?_
   refine vcL_pure rfl rfl (Value.int .i64 i17) (fun w=>by kernel_rfl) ?_
   obtain ⟨ad22, hi23, h⟩ := h
   refine vcL_pure rfl rfl (Value.pointer (some (ad22.add (i17.toNat * 2)))) (fun w=>by exact exec_indexAt (s := t47) (el := 81) rfl (by kernel_rfl) (by kernel_rfl) (by kernel_rfl) (fun w=>by kernel_rfl) (hi23).1 (hi23).2.1 (hi23).2.2 w) ?_
   refine vcL_pure rfl rfl (Value.pointer (some (ad22.add (i17.toNat * 2)))) (fun w=>by kernel_rfl) ?_
   refine vcL_eff rfl (opVC_store rfl rfl (a := (ad22.add (i17.toNat * 2))) (by kernel_rfl) (v := (Value.string (ByteArray.mk #[63]))) (by kernel_rfl) [(Value.string (ByteArray.mk #[63]))] (by kernel_rfl) (fun w=>by kernel_rfl) (by kernel_rfl) (stw.mono h fun vw24 h=>?_))
   refine vcL_nil ?_
   refine Vc.region ?_
   refine vcL_purs 3 [(4, (Value.int .i64 (wrapI (i17 + 1)))), (45, (Value.int .i64 (wrapI (i17 + 1)))), (44, (Value.int .i64 i17))] (by kernel_rfl) ?_
   refine vcL_nil ?_
   exact ⟨(wrapI (i17 + 1)), 26, ⟨rfl, by kernel_rfl, by kernel_rfl, by kernel_rfl⟩, h⟩
  ·have h := h.2 (of_decide_eq_false hb)
   refine Vc.exit ?_
   refine outOf_hit ?_
   refine Vc.seq ?_
   refine Vc.region ?_
   refine vcL_pure rfl rfl (Value.int .i64 0) (fun w=>by kernel_rfl) ?_
   refine vcL_nil ?_
   refine Vc.block ?_
   obtain ⟨vI33, mu34, h, hr35⟩ := h
   refine Vc.loopJ (σ := Int) [5] [51, 52, 53, 54, 55, 56, 57, 58, 59, 60, 61, 62] (fun s=>[(5, (Value.int .i64 s))]) (fun s w=>vI33 s w) (fun s w=>mu34 s w) 0 h (fun _ => rfl) (by kernel_rfl) ?_
   intro i25 vw26 j h
   have h := hr35 i25 vw26 h
   refine Vc.seq ?_
   refine Vc.seq ?_
   refine Vc.region ?_
   refine vcL_purs 2 [(52, (Value.pointer (some (a.add 6)))), (51, (Value.int .i64 i25))] (by kernel_rfl) ?_
   obtain ⟨t53, hc28, h⟩ := h
   refine vcL_val rfl rfl (Sl.v t53) (exec_load rfl (by kernel_rfl) (run_load1 (fun w=>by kernel_rfl) ((hc28)))) ?_
   refine vcL_purs 2 [(55, (Value.bool (decide (i25 < (t53.len : Int))))), (54, (Value.int .i64 (t53.len : Int)))] (by kernel_rfl) ?_
   refine vcL_nil ?_
   refine Vc.cond (decide (i25 < (t53.len : Int))) (by kernel_rfl) (fun hb=>?_) (fun hb=>?_)
   ·have h := h.1 (of_decide_eq_true hb)
    refine Vc.skip ?_
    refine Vc.seq ?_
    refine Vc.block ?_
    refine Vc.region ?_
    refine vcL_pure rfl rfl (Value.pointer (some (a.add 6))) (fun w=>by kernel_rfl) ?_
    obtain ⟨t59, hc29, h⟩ := h
    refine vcL_val rfl rfl (Sl.v t59) (exec_load rfl (by kernel_rfl) (run_load1 (fun w=>by kernel_rfl) ((hc29)))) ?_
    refine vcL_pure rfl rfl (Value.int .i64 i25) (fun w=>by kernel_rfl) ?_
    obtain ⟨ad30, hi31, h⟩ := h
    refine vcL_pure rfl rfl (Value.pointer (some (ad30.add (i25.toNat * 2)))) (fun w=>by exact exec_indexAt (s := t59) (el := 81) rfl (by kernel_rfl) (by kernel_rfl) (by kernel_rfl) (fun w=>by kernel_rfl) (hi31).1 (hi31).2.1 (hi31).2.2 w) ?_
    refine vcL_pure rfl rfl (Value.pointer (some (ad30.add (i25.toNat * 2)))) (fun w=>by kernel_rfl) ?_
    refine vcL_eff rfl (opVC_store rfl rfl (a := (ad30.add (i25.toNat * 2))) (by kernel_rfl) (v := (Value.string (ByteArray.mk #[63]))) (by kernel_rfl) [(Value.string (ByteArray.mk #[63]))] (by kernel_rfl) (fun w=>by kernel_rfl) (by kernel_rfl) (stw.mono h fun vw32 h=>?_))
    refine vcL_nil ?_
    refine Vc.region ?_
    refine vcL_purs 3 [(5, (Value.int .i64 (wrapI (i25 + 1)))), (57, (Value.int .i64 (wrapI (i25 + 1)))), (56, (Value.int .i64 i25))] (by kernel_rfl) ?_
    refine vcL_nil ?_
    exact ⟨(wrapI (i25 + 1)), 26, ⟨rfl, by kernel_rfl, by kernel_rfl, by kernel_rfl⟩, h⟩
   ·have h := h.2 (of_decide_eq_false hb)
    refine Vc.exit ?_
    refine outOf_hit ?_
    refine done_mk (Value.tuple #[]) (res0 ) ?_
    exact ⟨rfl, h⟩
theorem halyardlaw08_over.go {zz1 : ByteArray} {zz4 : Int} {zz5 : Int} {zz6 : Int} {zz0 : Sl} {zz3 : Sl} {zz2 : Sl} {w : World} {k : Value → World → Prop} (h : halyardlaw08_over zz1 zz4 zz5 zz6 zz0 zz3 zz2 w fun  w'=>k (Value.tuple #[]) w') : callS Tryz.prog 21 [(Value.agg #[(Value.string zz1), (Value.int .i64 zz4), (Value.int .i64 zz5), (Value.int .i64 zz6), (Sl.v zz0), (Sl.v zz3), (Sl.v zz2)])] w k := (halyardlaw08_over.sound zz1 zz4 zz5 zz6 zz0 zz3 zz2 w _ h).mono (by rintro _ _ ⟨rfl, h⟩; exact h)
def catalog_Catalog_Get (c : Option Addr) (name : ByteArray) (zzl : Int) (zzm : Int) (zzn : Int) (w : World) (R : ByteArray → Int → Int → Int → Sl → Sl → Sl → Bool → World → Prop) : Prop :=
 newS w [(Value.int .i64 zzl), (Value.int .i64 zzm), (Value.int .i64 zzn)] 30 fun a vw=>newS vw [(Value.string (ByteArray.mk #[])), (Value.int .i64 0), (Value.int .i64 0), (Value.int .i64 0), (Sl.v Sl.nil), (Sl.v Sl.nil), (Sl.v Sl.nil)] 48 fun a1 vw2=>bnd vw2.drew fun (vw3 : World)=>∃ (p : Addr), (c = some p) ∧ ∃ (t14 : Option Nat), (ldc vw3 p [(Value.map t14)]) ∧ ∃ (zz3i : Int) (zz3j : Int) (zz3k : Int), (ldc vw3 a [(Value.int .i64 zz3i), (Value.int .i64 zz3j), (Value.int .i64 zz3k)]) ∧ ∃ (zz8 : ByteArray) (zzb : Int) (zzc : Int) (zzd : Int) (zz7 : Sl) (zza : Sl) (zz9 : Sl) (t18b : Bool), (stabS Tryz.prog (Instr.lookup 101 (Value.map t14) (Value.agg #[(Value.string name), (Value.int .i64 zz3i), (Value.int .i64 zz3j), (Value.int .i64 zz3k)]) true) vw3 (Value.tuple #[(Value.agg #[(Value.string zz8), (Value.int .i64 zzb), (Value.int .i64 zzc), (Value.int .i64 zzd), (Sl.v zz7), (Sl.v zza), (Sl.v zz9)]), (Value.bool t18b)])) ∧ newS vw3 [(Value.string (ByteArray.mk #[])), (Value.int .i64 0), (Value.int .i64 0), (Value.int .i64 0), (Sl.v Sl.nil), (Sl.v Sl.nil), (Sl.v Sl.nil)] 48 fun a6 vw7=>stw vw7 a6 [(Value.string zz8), (Value.int .i64 zzb), (Value.int .i64 zzc), (Value.int .i64 zzd), (Sl.v zz7), (Sl.v zza), (Sl.v zz9)] fun vw8=>∃ (zz4x : ByteArray) (zz50 : Int) (zz51 : Int) (zz52 : Int) (zz4w : Sl) (zz4z : Sl) (zz4y : Sl), (ldc vw8 a6 [(Value.string zz4x), (Value.int .i64 zz50), (Value.int .i64 zz51), (Value.int .i64 zz52), (Sl.v zz4w), (Sl.v zz4z), (Sl.v zz4y)]) ∧ callS Tryz.prog 62 [(Value.agg #[(Value.string zz4x), (Value.int .i64 zz50), (Value.int .i64 zz51), (Value.int .i64 zz52), (Sl.v zz4w), (Sl.v zz4z), (Sl.v zz4y)])] vw8 fun v11 vw10=>∃ (zzv : ByteArray) (zzy : Int) (zzz : Int) (zz10 : Int) (zzu : Sl) (zzx : Sl) (zzw : Sl), v11 = (Value.agg #[(Value.string zzv), (Value.int .i64 zzy), (Value.int .i64 zzz), (Value.int .i64 zz10), (Sl.v zzu), (Sl.v zzx), (Sl.v zzw)]) ∧ stw vw10 a1 [(Value.string zzv), (Value.int .i64 zzy), (Value.int .i64 zzz), (Value.int .i64 zz10), (Sl.v zzu), (Sl.v zzx), (Sl.v zzw)] fun vw12=>∃ (zzf : ByteArray) (zzi : Int) (zzj : Int) (zzk : Int) (zze : Sl) (zzh : Sl) (zzg : Sl), ldc vw12 a1 [(Value.string zzf), (Value.int .i64 zzi), (Value.int .i64 zzj), (Value.int .i64 zzk), (Sl.v zze), (Sl.v zzh), (Sl.v zzg)] ∧ R zzf zzi zzj zzk zze zzh zzg t18b vw12
set_option maxHeartbeats 8000000 in
theorem catalog_Catalog_Get.sound (c : Option Addr) (name : ByteArray) (zzl : Int) (zzm : Int) (zzn : Int) (w : World) (R : ByteArray → Int → Int → Int → Sl → Sl → Sl → Bool → World → Prop) (h : catalog_Catalog_Get c name zzl zzm zzn w R) : callS Tryz.prog 22 [(Value.pointer c), (Value.string name), (Value.agg #[(Value.int .i64 zzl), (Value.int .i64 zzm), (Value.int .i64 zzn)])] w (fun v w'=>∃ (r0 : ByteArray) (r1 : Int) (r2 : Int) (r3 : Int) (r4 : Sl) (r5 : Sl) (r6 : Sl) (r7 : Bool), v = (Value.tuple #[(Value.agg #[(Value.string r0), (Value.int .i64 r1), (Value.int .i64 r2), (Value.int .i64 r3), (Sl.v r4), (Sl.v r5), (Sl.v r6)]), (Value.bool r7)]) ∧ R r0 r1 r2 r3 r4 r5 r6 r7 w') := by
 unfold catalog_Catalog_Get at h
 refine calls_of_vc 24 rfl Tryz.func22 rfl (by kernel_rfl) (by simp) ?_
 refine Vc.seq ?_
 refine Vc.region ?_
 refine vcL_eff rfl (opVC_new rfl (fun a=>Value.pointer (some a)) (by kernel_rfl) (newS.mono h fun a vw hx h=>?_))
 refine vcL_eff rfl (opVC_new rfl (fun a=>Value.pointer (some a)) (by kernel_rfl) (newS.mono h fun a1 vw2 hx h=>?_))
 refine vcL_pure rfl rfl (Value.bool false) (fun w=>by kernel_rfl) ?_
 refine vcL_nil ?_
 refine Vc.seq ?_
 obtain ⟨vw3, hvw3⟩ : ∃ y, y = vw2.drew := ⟨_, rfl⟩
 have h := h vw3 hvw3
 refine Vc.draw (by kernel_rfl) (fun i=>!(memN [12] i)) (.pur 0 (.pur 1 (.pur 2 (.val 3 (.pur 4 (.val 5 (.pur 6 (.val 7 (.pur 8 (.pur 9 (.pur 10 (.eff 11 (.eff 12 (.pur 13 .fin) .stop) .stop)))))))))))) (by kernel_rfl) ?_
 rw [← hvw3]
 clear hvw3
 refine vcS_pure rfl rfl rfl (Value.pointer c) (fun w=>by kernel_rfl) ?_
 obtain ⟨p, hp, h⟩ := h
 refine vcS_pure rfl rfl rfl (Value.pointer (some p)) (fun w=>by exact exec_nilCheck rfl (by kernel_rfl) (hp) w) ?_
 refine vcS_pure rfl rfl rfl (Value.pointer (some p)) (fun w=>by kernel_rfl) ?_
 obtain ⟨t14, hc, h⟩ := h
 refine vcS_val rfl rfl rfl (Value.map t14) (fun w' hx=>exec_load rfl (by kernel_rfl) (run_load1 (fun w=>by kernel_rfl) ((hc).ext hx))) ?_
 refine vcS_pure rfl rfl rfl (Value.string name) (fun w=>by kernel_rfl) ?_
 obtain ⟨zz3i, zz3j, zz3k, hc4, h⟩ := h
 refine vcS_val rfl rfl rfl (Value.agg #[(Value.int .i64 zz3i), (Value.int .i64 zz3j), (Value.int .i64 zz3k)]) (fun w' hx=>exec_load rfl (by kernel_rfl) (run_loadN (fun w=>by kernel_rfl) (fun w=>by kernel_rfl) ((hc4).ext hx))) ?_
 refine vcS_pure rfl rfl rfl (Value.agg #[(Value.string name), (Value.int .i64 zz3i), (Value.int .i64 zz3j), (Value.int .i64 zz3k)]) (fun w=>by kernel_rfl) ?_
 obtain ⟨zz8, zzb, zzc, zzd, zz7, zza, zz9, t18b, hl, h⟩ := h
 refine vcS_val rfl rfl rfl (Value.tuple #[(Value.agg #[(Value.string zz8), (Value.int .i64 zzb), (Value.int .i64 zzc), (Value.int .i64 zzd), (Sl.v zz7), (Sl.v zza), (Sl.v zz9)]), (Value.bool t18b)]) (fun w' hx=>exec_sem (c := Instr.lookup 101 (Value.map t14) (Value.agg #[(Value.string name), (Value.int .i64 zz3i), (Value.int .i64 zz3j), (Value.int .i64 zz3k)]) true) (by kernel_rfl) ((hl) _ hx)) ?_
 refine vcS_pure rfl rfl rfl (Value.tuple #[(Value.agg #[(Value.string zz8), (Value.int .i64 zzb), (Value.int .i64 zzc), (Value.int .i64 zzd), (Sl.v zz7), (Sl.v zza), (Sl.v zz9)]), (Value.bool t18b)]) (fun w=>by kernel_rfl) ?_
 refine vcS_pure rfl rfl rfl (Value.agg #[(Value.string zz8), (Value.int .i64 zzb), (Value.int .i64 zzc), (Value.int .i64 zzd), (Sl.v zz7), (Sl.v zza), (Sl.v zz9)]) (fun w=>by kernel_rfl) ?_
 refine vcS_pure rfl rfl rfl (Value.bool t18b) (fun w=>by kernel_rfl) ?_
 refine vcS_eff rfl rfl (opVC_new rfl (fun a=>Value.pointer (some a)) (by kernel_rfl) (newS.mono h fun a6 vw7 hx h=>?_)) vcS_stop
 refine ⟨fun _ => hx, ?_⟩
 refine vcS_eff rfl rfl (opVC_store rfl rfl (a := a6) (by kernel_rfl) (v := (Value.agg #[(Value.string zz8), (Value.int .i64 zzb), (Value.int .i64 zzc), (Value.int .i64 zzd), (Sl.v zz7), (Sl.v zza), (Sl.v zz9)])) (by kernel_rfl) [(Value.string zz8), (Value.int .i64 zzb), (Value.int .i64 zzc), (Value.int .i64 zzd), (Sl.v zz7), (Sl.v zza), (Sl.v zz9)] (by kernel_rfl) (fun w=>by kernel_rfl) (by kernel_rfl) (stw.mono h fun vw8 h=>?_)) vcS_stop
 refine ⟨fun hb=>absurd hb (by decide), ?_⟩
 refine vcS_pure rfl rfl rfl (Value.bool t18b) (fun w=>by kernel_rfl) ?_
 refine vcS_fin ?_
 refine Vc.seq ?_
 refine Vc.region ?_
 obtain ⟨zz4x, zz50, zz51, zz52, zz4w, zz4z, zz4y, hc9, h⟩ := h
 refine vcL_val rfl rfl (Value.agg #[(Value.string zz4x), (Value.int .i64 zz50), (Value.int .i64 zz51), (Value.int .i64 zz52), (Sl.v zz4w), (Sl.v zz4z), (Sl.v zz4y)]) (exec_load rfl (by kernel_rfl) (run_loadN (fun w=>by kernel_rfl) (fun w=>by kernel_rfl) ((hc9)))) ?_
 refine vcL_eff rfl (opVC_call rfl (by kernel_rfl) (callS.mono h fun v11 vw10 h=>?_))
 obtain ⟨zzv, zzy, zzz, zz10, zzu, zzx, zzw, rfl, h⟩ := h
 refine vcL_pure rfl rfl (Value.bool t18b) (fun w=>by kernel_rfl) ?_
 refine vcL_eff rfl (opVC_store rfl rfl (a := a1) (by kernel_rfl) (v := (Value.agg #[(Value.string zzv), (Value.int .i64 zzy), (Value.int .i64 zzz), (Value.int .i64 zz10), (Sl.v zzu), (Sl.v zzx), (Sl.v zzw)])) (by kernel_rfl) [(Value.string zzv), (Value.int .i64 zzy), (Value.int .i64 zzz), (Value.int .i64 zz10), (Sl.v zzu), (Sl.v zzx), (Sl.v zzw)] (by kernel_rfl) (fun w=>by kernel_rfl) (by kernel_rfl) (stw.mono h fun vw12 h=>?_))
 refine vcL_pure rfl rfl (Value.bool t18b) (fun w=>by kernel_rfl) ?_
 refine vcL_nil ?_
 refine Vc.ret ?_
 refine outs_ret ?_
 obtain ⟨zzf, zzi, zzj, zzk, zze, zzh, zzg, hc13, h⟩ := h
 refine done_mk (Value.tuple #[(Value.agg #[(Value.string zzf), (Value.int .i64 zzi), (Value.int .i64 zzj), (Value.int .i64 zzk), (Sl.v zze), (Sl.v zzh), (Sl.v zzg)]), (Value.bool t18b)]) (res2 (resC_cell (by kernel_rfl) (run_loadN (fun w=>by kernel_rfl) (fun w=>by kernel_rfl) hc13)) (resC_tmp (by kernel_rfl))) ?_
 exact ⟨zzf, zzi, zzj, zzk, zze, zzh, zzg, t18b, rfl, h⟩
theorem catalog_Catalog_Get.go {c : Option Addr} {name : ByteArray} {zzl : Int} {zzm : Int} {zzn : Int} {w : World} {k : Value → World → Prop} (h : catalog_Catalog_Get c name zzl zzm zzn w fun r0 r1 r2 r3 r4 r5 r6 r7 w'=>k (Value.tuple #[(Value.agg #[(Value.string r0), (Value.int .i64 r1), (Value.int .i64 r2), (Value.int .i64 r3), (Sl.v r4), (Sl.v r5), (Sl.v r6)]), (Value.bool r7)]) w') : callS Tryz.prog 22 [(Value.pointer c), (Value.string name), (Value.agg #[(Value.int .i64 zzl), (Value.int .i64 zzm), (Value.int .i64 zzn)])] w k := (catalog_Catalog_Get.sound c name zzl zzm zzn w _ h).mono (by rintro _ _ ⟨r0, r1, r2, r3, r4, r5, r6, r7, rfl, h⟩; exact h)
def halyardref08_Catalog_Get (c : Option Addr) (name : ByteArray) (zzl : Int) (zzm : Int) (zzn : Int) (w : World) (R : ByteArray → Int → Int → Int → Sl → Sl → Sl → Bool → World → Prop) : Prop :=
 newS w [(Value.int .i64 zzl), (Value.int .i64 zzm), (Value.int .i64 zzn)] 30 fun a vw=>newS vw [(Value.string (ByteArray.mk #[])), (Value.int .i64 0), (Value.int .i64 0), (Value.int .i64 0), (Sl.v Sl.nil), (Sl.v Sl.nil), (Sl.v Sl.nil)] 48 fun a1 vw2=>loop1 0 vw2 fun i vw3 nxt=>∃ (p : Addr), (c = some p) ∧ ∃ (t13 : Sl), (ldc vw3 p [(Sl.v t13)]) ∧ ((i < (t13.len : Int) → bnd vw3.drew fun (vw4 : World)=>∃ (p5 : Addr), (c = some p5) ∧ ∃ (t21 : Sl), (ldc vw4 p5 [(Sl.v t21)]) ∧ ∃ (ad : Addr), (t21.a = some ad ∧ (0 : Int) ≤ i ∧ i < (t21.len : Int)) ∧ ∃ (t25 : ByteArray), (ldc vw4 (ad.add (i.toNat * 7)) [(Value.string t25)]) ∧ bnd (bEq t25 name) fun (b : Bool)=>∃ (p9 : Addr), grd b (c = some p9) ∧ ∃ (t32 : Sl), grd b (ldc vw4 p9 [(Sl.v t32)]) ∧ ∃ (ad12 : Addr), grd b (t32.a = some ad12 ∧ (0 : Int) ≤ i ∧ i < (t32.len : Int)) ∧ ∃ (zz1q : Int) (zz1r : Int) (zz1s : Int), grd b (ldc vw4 ((ad12.add (i.toNat * 7)).add 1) [(Value.int .i64 zz1q), (Value.int .i64 zz1r), (Value.int .i64 zz1s)]) ∧ ∃ (zz1t : Int) (zz1u : Int) (zz1v : Int), grd b (ldc vw4 a [(Value.int .i64 zz1t), (Value.int .i64 zz1u), (Value.int .i64 zz1v)]) ∧ (((b && ((zz1q == zz1t) && ((zz1r == zz1u) && ((zz1s == zz1v) && true)))) = true → ∃ (p16 : Addr), (c = some p16) ∧ ∃ (t43 : Sl), (ldc vw4 p16 [(Sl.v t43)]) ∧ ∃ (ad19 : Addr), (t43.a = some ad19 ∧ (0 : Int) ≤ i ∧ i < (t43.len : Int)) ∧ ∃ (zz3m : ByteArray) (zz3p : Int) (zz3q : Int) (zz3r : Int) (zz3l : Sl) (zz3o : Sl) (zz3n : Sl), (ldc vw4 (ad19.add (i.toNat * 7)) [(Value.string zz3m), (Value.int .i64 zz3p), (Value.int .i64 zz3q), (Value.int .i64 zz3r), (Sl.v zz3l), (Sl.v zz3o), (Sl.v zz3n)]) ∧ stw vw4 a1 [(Value.string zz3m), (Value.int .i64 zz3p), (Value.int .i64 zz3q), (Value.int .i64 zz3r), (Sl.v zz3l), (Sl.v zz3o), (Sl.v zz3n)] fun vw22=>∃ (zzf : ByteArray) (zzi : Int) (zzj : Int) (zzk : Int) (zze : Sl) (zzh : Sl) (zzg : Sl), ldc vw22 a1 [(Value.string zzf), (Value.int .i64 zzi), (Value.int .i64 zzj), (Value.int .i64 zzk), (Sl.v zze), (Sl.v zzh), (Sl.v zzg)] ∧ R zzf zzi zzj zzk zze zzh zzg true vw22) ∧ ((b && ((zz1q == zz1t) && ((zz1r == zz1u) && ((zz1s == zz1v) && true)))) = false → nxt (wrapI (i + 1)) vw4))) ∧ (¬ (i < (t13.len : Int)) → stw vw3 a1 [(Value.string (ByteArray.mk #[])), (Value.int .i64 0), (Value.int .i64 0), (Value.int .i64 0), (Sl.v Sl.nil), (Sl.v Sl.nil), (Sl.v Sl.nil)] fun vw24=>∃ (zz46 : ByteArray) (zz49 : Int) (zz4a : Int) (zz4b : Int) (zz45 : Sl) (zz48 : Sl) (zz47 : Sl), ldc vw24 a1 [(Value.string zz46), (Value.int .i64 zz49), (Value.int .i64 zz4a), (Value.int .i64 zz4b), (Sl.v zz45), (Sl.v zz48), (Sl.v zz47)] ∧ R zz46 zz49 zz4a zz4b zz45 zz48 zz47 false vw24))
set_option maxHeartbeats 8000000 in
theorem halyardref08_Catalog_Get.sound (c : Option Addr) (name : ByteArray) (zzl : Int) (zzm : Int) (zzn : Int) (w : World) (R : ByteArray → Int → Int → Int → Sl → Sl → Sl → Bool → World → Prop) (h : halyardref08_Catalog_Get c name zzl zzm zzn w R) : callS Tryz.prog 23 [(Value.pointer c), (Value.string name), (Value.agg #[(Value.int .i64 zzl), (Value.int .i64 zzm), (Value.int .i64 zzn)])] w (fun v w'=>∃ (r0 : ByteArray) (r1 : Int) (r2 : Int) (r3 : Int) (r4 : Sl) (r5 : Sl) (r6 : Sl) (r7 : Bool), v = (Value.tuple #[(Value.agg #[(Value.string r0), (Value.int .i64 r1), (Value.int .i64 r2), (Value.int .i64 r3), (Sl.v r4), (Sl.v r5), (Sl.v r6)]), (Value.bool r7)]) ∧ R r0 r1 r2 r3 r4 r5 r6 r7 w') := by
 unfold halyardref08_Catalog_Get at h
 refine calls_of_vc 48 rfl Tryz.func23 rfl (by kernel_rfl) (by simp) ?_
 refine Vc.seq ?_
 refine Vc.region ?_
 refine vcL_eff rfl (opVC_new rfl (fun a=>Value.pointer (some a)) (by kernel_rfl) (newS.mono h fun a vw hx h=>?_))
 refine vcL_eff rfl (opVC_new rfl (fun a=>Value.pointer (some a)) (by kernel_rfl) (newS.mono h fun a1 vw2 hx h=>?_))
 refine vcL_pure rfl rfl (Value.bool false) (fun w=>by kernel_rfl) ?_
 refine vcL_nil ?_
 refine Vc.seq ?_
 refine Vc.seq ?_
 refine Vc.region ?_
 refine vcL_pure rfl rfl (Value.int .i64 0) (fun w=>by kernel_rfl) ?_
 refine vcL_nil ?_
 refine Vc.block ?_
 obtain ⟨vI, mu, h, hr⟩ := h
 refine Vc.loopJ (σ := Int) [8] [7, 9, 10, 11, 12, 13, 14, 15, 16, 17, 18, 19, 20, 21, 22, 23, 24, 25, 26, 27, 28, 29, 30, 31, 32, 33, 34, 35, 36, 37, 38, 39, 40, 41, 42, 43, 44, 45, 46] (fun s=>[(8, (Value.int .i64 s))]) (fun s w=>vI s w) (fun s w=>mu s w) 0 h (fun _ => rfl) (by kernel_rfl) ?_
 intro i vw3 j h
 have h := hr i vw3 h
 refine Vc.seq ?_
 refine Vc.seq ?_
 refine Vc.region ?_
 refine vcL_purs 2 [(10, (Value.pointer c)), (9, (Value.int .i64 i))] (by kernel_rfl) ?_
 obtain ⟨p, hp, h⟩ := h
 refine vcL_pure rfl rfl (Value.pointer (some p)) (fun w=>by exact exec_nilCheck rfl (by kernel_rfl) (hp) w) ?_
 refine vcL_pure rfl rfl (Value.pointer (some p)) (fun w=>by kernel_rfl) ?_
 obtain ⟨t13, hc, h⟩ := h
 refine vcL_val rfl rfl (Sl.v t13) (exec_load rfl (by kernel_rfl) (run_load1 (fun w=>by kernel_rfl) ((hc)))) ?_
 refine vcL_purs 2 [(15, (Value.bool (decide (i < (t13.len : Int))))), (14, (Value.int .i64 (t13.len : Int)))] (by kernel_rfl) ?_
 refine vcL_nil ?_
 refine Vc.cond (decide (i < (t13.len : Int))) (by kernel_rfl) (fun hb=>?_) (fun hb=>?_)
 ·have h := h.1 (of_decide_eq_true hb)
  refine Vc.skip ?_
  refine Vc.seq ?_
  refine Vc.block ?_
  refine Vc.seq ?_
  obtain ⟨vw4, hvw4⟩ : ∃ y, y = vw3.drew := ⟨_, rfl⟩
  have h := h vw4 hvw4
  refine Vc.draw (by kernel_rfl) (fun i=>!(memN [] i)) (.pur 0 (.pur 1 (.pur 2 (.val 3 (.pur 4 (.pur 5 (.pur 6 (.val 7 (.pur 8 (.pur 9 (.pur 10 (.pur 11 (.pur 12 (.pur 13 (.val 14 (.pur 15 (.pur 16 (.pur 17 (.val 18 (.val 19 (.pur 20 (.pur 21 .fin)))))))))))))))))))))) (by kernel_rfl) ?_
  rw [← hvw4]
  clear hvw4
  refine vcS_pure rfl rfl rfl (Value.pointer c) (fun w=>by kernel_rfl) ?_
  obtain ⟨p5, hp6, h⟩ := h
  refine vcS_pure rfl rfl rfl (Value.pointer (some p5)) (fun w=>by exact exec_nilCheck rfl (by kernel_rfl) (hp6) w) ?_
  refine vcS_pure rfl rfl rfl (Value.pointer (some p5)) (fun w=>by kernel_rfl) ?_
  obtain ⟨t21, hc7, h⟩ := h
  refine vcS_val rfl rfl rfl (Sl.v t21) (fun w' hx=>exec_load rfl (by kernel_rfl) (run_load1 (fun w=>by kernel_rfl) ((hc7).ext hx))) ?_
  refine vcS_pure rfl rfl rfl (Value.int .i64 i) (fun w=>by kernel_rfl) ?_
  obtain ⟨ad, hi, h⟩ := h
  refine vcS_pure rfl rfl rfl (Value.pointer (some (ad.add (i.toNat * 7)))) (fun w=>by exact exec_indexAt (s := t21) (el := 48) rfl (by kernel_rfl) (by kernel_rfl) (by kernel_rfl) (fun w=>by kernel_rfl) (hi).1 (hi).2.1 (hi).2.2 w) ?_
  refine vcS_pure rfl rfl rfl (Value.pointer (some (ad.add (i.toNat * 7)))) (fun w=>by kernel_rfl) ?_
  obtain ⟨t25, hc8, h⟩ := h
  refine vcS_val rfl rfl rfl (Value.string t25) (fun w' hx=>exec_load rfl (by kernel_rfl) (run_load1 (fun w=>by kernel_rfl) ((hc8).ext hx))) ?_
  refine vcS_pure rfl rfl rfl (Value.string name) (fun w=>by kernel_rfl) ?_
  refine vcS_pure rfl rfl rfl (Value.bool (bEq t25 name)) (fun w=>by kernel_rfl) ?_
  obtain ⟨b, hb⟩ : ∃ y, y = (bEq t25 name) := ⟨_, rfl⟩
  have h := h b hb
  refine vcS_pure rfl rfl rfl (Value.bool b) (fun w=>by rw [hb]; kernel_rfl) ?_
  refine vcS_guard rfl b (wanted_g (d := 28) rfl (by kernel_rfl) b (by kernel_rfl) b (eqT b)) rfl (Value.pointer c) (fun hg w=>by subst hg; kernel_rfl) ?_
  obtain ⟨p9, hp10, h⟩ := h
  refine vcS_guard rfl b (wanted_g (d := 28) rfl (by kernel_rfl) b (by kernel_rfl) b (eqT b)) rfl (Value.pointer (some p9)) (fun hg w=>by subst hg; exact exec_nilCheck rfl (by kernel_rfl) (hp10 rfl) w) ?_
  refine vcS_guard rfl b (wanted_g (d := 28) rfl (by kernel_rfl) b (by kernel_rfl) b (eqT b)) rfl (Value.pointer (some p9)) (fun hg w=>by subst hg; kernel_rfl) ?_
  obtain ⟨t32, hc11, h⟩ := h
  refine vcS_valG rfl b (wanted_g (d := 28) rfl (by kernel_rfl) b (by kernel_rfl) b (eqT b)) rfl (Sl.v t32) (fun hg w' hx=>by subst hg; exact exec_load rfl (by kernel_rfl) (run_load1 (fun w=>by kernel_rfl) ((hc11 rfl).ext hx))) ?_
  refine vcS_guard rfl b (wanted_g (d := 28) rfl (by kernel_rfl) b (by kernel_rfl) b (eqT b)) rfl (Value.int .i64 i) (fun hg w=>by subst hg; kernel_rfl) ?_
  obtain ⟨ad12, hi13, h⟩ := h
  refine vcS_guard rfl b (wanted_g (d := 28) rfl (by kernel_rfl) b (by kernel_rfl) b (eqT b)) rfl (Value.pointer (some (ad12.add (i.toNat * 7)))) (fun hg w=>by subst hg; exact exec_indexAt (s := t32) (el := 48) rfl (by kernel_rfl) (by kernel_rfl) (by kernel_rfl) (fun w=>by kernel_rfl) (hi13 rfl).1 (hi13 rfl).2.1 (hi13 rfl).2.2 w) ?_
  refine vcS_guard rfl b (wanted_g (d := 28) rfl (by kernel_rfl) b (by kernel_rfl) b (eqT b)) rfl (Value.pointer (some ((ad12.add (i.toNat * 7)).add 1))) (fun hg w=>by subst hg; kernel_rfl) ?_
  obtain ⟨zz1q, zz1r, zz1s, hc14, h⟩ := h
  refine vcS_valG rfl b (wanted_g (d := 28) rfl (by kernel_rfl) b (by kernel_rfl) b (eqT b)) rfl (Value.agg #[(Value.int .i64 zz1q), (Value.int .i64 zz1r), (Value.int .i64 zz1s)]) (fun hg w' hx=>by subst hg; exact exec_load rfl (by kernel_rfl) (run_loadN (fun w=>by kernel_rfl) (fun w=>by kernel_rfl) ((hc14 rfl).ext hx))) ?_
  obtain ⟨zz1t, zz1u, zz1v, hc15, h⟩ := h
  refine vcS_valG rfl b (wanted_g (d := 28) rfl (by kernel_rfl) b (by kernel_rfl) b (eqT b)) rfl (Value.agg #[(Value.int .i64 zz1t), (Value.int .i64 zz1u), (Value.int .i64 zz1v)]) (fun hg w' hx=>by subst hg; exact exec_load rfl (by kernel_rfl) (run_loadN (fun w=>by kernel_rfl) (fun w=>by kernel_rfl) ((hc15 rfl).ext hx))) ?_
  refine vcS_guard rfl b (wanted_g (d := 28) rfl (by kernel_rfl) b (by kernel_rfl) b (eqT b)) rfl (Value.bool ((zz1q == zz1t) && ((zz1r == zz1u) && ((zz1s == zz1v) && true)))) (fun hg w=>by subst hg; exact exec_struct_eq rfl (by kernel_rfl) (by kernel_rfl) (by kernel_rfl) (eqv_30 9998 zz1q zz1r zz1s zz1t zz1u zz1v w)) ?_
  refine vcS_pure rfl rfl rfl (Value.bool (b && ((zz1q == zz1t) && ((zz1r == zz1u) && ((zz1s == zz1v) && true))))) (fun w=>by cases b <;> kernel_rfl) ?_
  refine vcS_fin ?_
  refine Vc.cond (b && ((zz1q == zz1t) && ((zz1r == zz1u) && ((zz1s == zz1v) && true)))) (by kernel_rfl) (fun hb=>?_) (fun hb=>?_)
  ·have h := h.1 (hb)
   refine Vc.seq ?_
   refine Vc.region ?_
   refine vcL_pure rfl rfl (Value.pointer c) (fun w=>by kernel_rfl) ?_
   obtain ⟨p16, hp17, h⟩ := h
   refine vcL_pure rfl rfl (Value.pointer (some p16)) (fun w=>by exact exec_nilCheck rfl (by kernel_rfl) (hp17) w) ?_
   refine vcL_pure rfl rfl (Value.pointer (some p16)) (fun w=>by kernel_rfl) ?_
   obtain ⟨t43, hc18, h⟩ := h
   refine vcL_val rfl rfl (Sl.v t43) (exec_load rfl (by kernel_rfl) (run_load1 (fun w=>by kernel_rfl) ((hc18)))) ?_
   refine vcL_pure rfl rfl (Value.int .i64 i) (fun w=>by kernel_rfl) ?_
   obtain ⟨ad19, hi20, h⟩ := h
   refine vcL_pure rfl rfl (Value.pointer (some (ad19.add (i.toNat * 7)))) (fun w=>by exact exec_indexAt (s := t43) (el := 48) rfl (by kernel_rfl) (by kernel_rfl) (by kernel_rfl) (fun w=>by kernel_rfl) (hi20).1 (hi20).2.1 (hi20).2.2 w) ?_
   obtain ⟨zz3m, zz3p, zz3q, zz3r, zz3l, zz3o, zz3n, hc21, h⟩ := h
   refine vcL_val rfl rfl (Value.agg #[(Value.string zz3m), (Value.int .i64 zz3p), (Value.int .i64 zz3q), (Value.int .i64 zz3r), (Sl.v zz3l), (Sl.v zz3o), (Sl.v zz3n)]) (exec_load rfl (by kernel_rfl) (run_loadN (fun w=>by kernel_rfl) (fun w=>by kernel_rfl) ((hc21)))) ?_
   refine vcL_eff rfl (opVC_store rfl rfl (a := a1) (by kernel_rfl) (v := (Value.agg #[(Value.string zz3m), (Value.int .i64 zz3p), (Value.int .i64 zz3q), (Value.int .i64 zz3r), (Sl.v zz3l), (Sl.v zz3o), (Sl.v zz3n)])) (by kernel_rfl) [(Value.string zz3m), (Value.int .i64 zz3p), (Value.int .i64 zz3q), (Value.int .i64 zz3r), (Sl.v zz3l), (Sl.v zz3o), (Sl.v zz3n)] (by kernel_rfl) (fun w=>by kernel_rfl) (by kernel_rfl) (stw.mono h fun vw22 h=>?_))
   refine vcL_pure rfl rfl (Value.bool true) (fun w=>by kernel_rfl) ?_
   refine vcL_nil ?_
   refine Vc.ret ?_
   refine outOf_ret ?_
   refine outOf_ret ?_
   refine outs_ret ?_
   obtain ⟨zzf, zzi, zzj, zzk, zze, zzh, zzg, hc23, h⟩ := h
   refine done_mk (Value.tuple #[(Value.agg #[(Value.string zzf), (Value.int .i64 zzi), (Value.int .i64 zzj), (Value.int .i64 zzk), (Sl.v zze), (Sl.v zzh), (Sl.v zzg)]), (Value.bool true)]) (res2 (resC_cell (by kernel_rfl) (run_loadN (fun w=>by kernel_rfl) (fun w=>by kernel_rfl) hc23)) (resC_tmp (by kernel_rfl))) ?_
   exact ⟨zzf, zzi, zzj, zzk, zze, zzh, zzg, true, rfl, h⟩
  ·have h := h.2 (hb)
   refine Vc.skip ?_
   refine Vc.region ?_
   refine vcL_purs 3 [(8, (Value.int .i64 (wrapI (i + 1)))), (17, (Value.int .i64 (wrapI (i + 1)))), (16, (Value.int .i64 i))] (by kernel_rfl) ?_
   refine vcL_nil ?_
   exact ⟨(wrapI (i + 1)), 72, ⟨rfl, by kernel_rfl, by kernel_rfl, by kernel_rfl⟩, h⟩
 ·have h := h.2 (of_decide_eq_false hb)
  refine Vc.exit ?_
  refine outOf_hit ?_
  refine Vc.seq ?_
  refine Vc.region ?_
  refine vcL_pure rfl rfl (Value.agg #[(Value.string (ByteArray.mk #[])), (Value.int .i64 0), (Value.int .i64 0), (Value.int .i64 0), (Sl.v Sl.nil), (Sl.v Sl.nil), (Sl.v Sl.nil)]) (fun w=>by kernel_rfl) ?_
  refine vcL_eff rfl (opVC_store rfl rfl (a := a1) (by kernel_rfl) (v := (Value.agg #[(Value.string (ByteArray.mk #[])), (Value.int .i64 0), (Value.int .i64 0), (Value.int .i64 0), (Sl.v Sl.nil), (Sl.v Sl.nil), (Sl.v Sl.nil)])) (by kernel_rfl) [(Value.string (ByteArray.mk #[])), (Value.int .i64 0), (Value.int .i64 0), (Value.int .i64 0), (Sl.v Sl.nil), (Sl.v Sl.nil), (Sl.v Sl.nil)] (by kernel_rfl) (fun w=>by kernel_rfl) (by kernel_rfl) (stw.mono h fun vw24 h=>?_))
  refine vcL_pure rfl rfl (Value.bool false) (fun w=>by kernel_rfl) ?_
  refine vcL_nil ?_
  refine Vc.ret ?_
  refine outs_ret ?_
  obtain ⟨zz46, zz49, zz4a, zz4b, zz45, zz48, zz47, hc32, h⟩ := h
  refine done_mk (Value.tuple #[(Value.agg #[(Value.string zz46), (Value.int .i64 zz49), (Value.int .i64 zz4a), (Value.int .i64 zz4b), (Sl.v zz45), (Sl.v zz48), (Sl.v zz47)]), (Value.bool false)]) (res2 (resC_cell (by kernel_rfl) (run_loadN (fun w=>by kernel_rfl) (fun w=>by kernel_rfl) hc32)) (resC_tmp (by kernel_rfl))) ?_
  exact ⟨zz46, zz49, zz4a, zz4b, zz45, zz48, zz47, false, rfl, h⟩
theorem halyardref08_Catalog_Get.go {c : Option Addr} {name : ByteArray} {zzl : Int} {zzm : Int} {zzn : Int} {w : World} {k : Value → World → Prop} (h : halyardref08_Catalog_Get c name zzl zzm zzn w fun r0 r1 r2 r3 r4 r5 r6 r7 w'=>k (Value.tuple #[(Value.agg #[(Value.string r0), (Value.int .i64 r1), (Value.int .i64 r2), (Value.int .i64 r3), (Sl.v r4), (Sl.v r5), (Sl.v r6)]), (Value.bool r7)]) w') : callS Tryz.prog 23 [(Value.pointer c), (Value.string name), (Value.agg #[(Value.int .i64 zzl), (Value.int .i64 zzm), (Value.int .i64 zzn)])] w k := (halyardref08_Catalog_Get.sound c name zzl zzm zzn w _ h).mono (by rintro _ _ ⟨r0, r1, r2, r3, r4, r5, r6, r7, rfl, h⟩; exact h)
def halyardref05_Same (zz2b : ByteArray) (zz2e : Int) (zz2f : Int) (zz2g : Int) (zz2a : Sl) (zz2d : Sl) (zz2c : Sl) (zz2i : ByteArray) (zz2l : Int) (zz2m : Int) (zz2n : Int) (zz2h : Sl) (zz2k : Sl) (zz2j : Sl) (w : World) (R : Bool → World → Prop) : Prop :=
 newS w [(Value.string zz2b), (Value.int .i64 zz2e), (Value.int .i64 zz2f), (Value.int .i64 zz2g), (Sl.v zz2a), (Sl.v zz2d), (Sl.v zz2c)] 48 fun a vw=>newS vw [(Value.string zz2i), (Value.int .i64 zz2l), (Value.int .i64 zz2m), (Value.int .i64 zz2n), (Sl.v zz2h), (Sl.v zz2k), (Sl.v zz2j)] 48 fun a1 vw2=>∃ (t6 : ByteArray), (ldc vw2 a [(Value.string t6)]) ∧ ∃ (t8 : ByteArray), (ldc vw2 a1 [(Value.string t8)]) ∧ bnd (bEq t6 t8) fun (b : Bool)=>∃ (zzr : Int) (zzs : Int) (zzt : Int), grd b (ldc vw2 (a.add 1) [(Value.int .i64 zzr), (Value.int .i64 zzs), (Value.int .i64 zzt)]) ∧ ∃ (zzo : Int) (zzp : Int) (zzq : Int), grd b (ldc vw2 (a1.add 1) [(Value.int .i64 zzo), (Value.int .i64 zzp), (Value.int .i64 zzq)]) ∧ bnd (b && ((zzr == zzo) && ((zzs == zzp) && ((zzt == zzq) && true)))) fun (b6 : Bool)=>∃ (t19 : Sl), grd b6 (ldc vw2 (a.add 4) [(Sl.v t19)]) ∧ ∃ (t21 : Sl), grd b6 (ldc vw2 (a1.add 4) [(Sl.v t21)]) ∧ gCall b6 (fun (t22 : Bool) (vw9 : World)=>bnd (b6 && t22) fun (b10 : Bool)=>∃ (t26 : Sl), grd b10 (ldc vw9 (a.add 5) [(Sl.v t26)]) ∧ ∃ (t28 : Sl), grd b10 (ldc vw9 (a1.add 5) [(Sl.v t28)]) ∧ gCall b10 (fun (t29 : Bool) (vw13 : World)=>bnd (b10 && t29) fun (b18 : Bool)=>∃ (t33 : Sl), grd b18 (ldc vw13 (a.add 6) [(Sl.v t33)]) ∧ ∃ (t35 : Sl), grd b18 (ldc vw13 (a1.add 6) [(Sl.v t35)]) ∧ gCall b18 (fun (t36 : Bool) (vw21 : World)=>R (b18 && t36) vw21) (fun q=>callS Tryz.prog 42 [(Sl.v t33), (Sl.v t35)] vw13 fun v22 vw21=>∃ (t36 : Bool), v22 = (Value.bool t36) ∧ q t36 vw21) (fun q=>q false vw13)) (fun q=>callS Tryz.prog 42 [(Sl.v t26), (Sl.v t28)] vw9 fun v14 vw13=>∃ (t29 : Bool), v14 = (Value.bool t29) ∧ q t29 vw13) (fun q=>q false vw9)) (fun q=>callS Tryz.prog 42 [(Sl.v t19), (Sl.v t21)] vw2 fun v vw9=>∃ (t22 : Bool), v = (Value.bool t22) ∧ q t22 vw9) (fun q=>q false vw2)
set_option maxHeartbeats 8000000 in
theorem halyardref05_Same.sound (zz2b : ByteArray) (zz2e : Int) (zz2f : Int) (zz2g : Int) (zz2a : Sl) (zz2d : Sl) (zz2c : Sl) (zz2i : ByteArray) (zz2l : Int) (zz2m : Int) (zz2n : Int) (zz2h : Sl) (zz2k : Sl) (zz2j : Sl) (w : World) (R : Bool → World → Prop) (h : halyardref05_Same zz2b zz2e zz2f zz2g zz2a zz2d zz2c zz2i zz2l zz2m zz2n zz2h zz2k zz2j w R) : callS Tryz.prog 24 [(Value.agg #[(Value.string zz2b), (Value.int .i64 zz2e), (Value.int .i64 zz2f), (Value.int .i64 zz2g), (Sl.v zz2a), (Sl.v zz2d), (Sl.v zz2c)]), (Value.agg #[(Value.string zz2i), (Value.int .i64 zz2l), (Value.int .i64 zz2m), (Value.int .i64 zz2n), (Sl.v zz2h), (Sl.v zz2k), (Sl.v zz2j)])] w (fun v w'=>∃ (r0 : Bool), v = (Value.bool r0) ∧ R r0 w') := by
 unfold halyardref05_Same at h
 refine calls_of_vc 38 rfl Tryz.func24 rfl (by kernel_rfl) (by simp) ?_
 refine Vc.seq ?_
 refine Vc.region ?_
 refine vcL_eff rfl (opVC_new rfl (fun a=>Value.pointer (some a)) (by kernel_rfl) (newS.mono h fun a vw hx h=>?_))
 refine vcL_eff rfl (opVC_new rfl (fun a=>Value.pointer (some a)) (by kernel_rfl) (newS.mono h fun a1 vw2 hx h=>?_))
 refine vcL_pure rfl rfl (Value.bool false) (fun w=>by kernel_rfl) ?_
 refine vcL_nil ?_
 refine Vc.seq ?_
 refine Vc.region ?_
 refine vcL_pure rfl rfl (Value.pointer (some a)) (fun w=>by kernel_rfl) ?_
 obtain ⟨t6, hc, h⟩ := h
 refine vcL_val rfl rfl (Value.string t6) (exec_load rfl (by kernel_rfl) (run_load1 (fun w=>by kernel_rfl) ((hc)))) ?_
 refine vcL_pure rfl rfl (Value.pointer (some a1)) (fun w=>by kernel_rfl) ?_
 obtain ⟨t8, hc3, h⟩ := h
 refine vcL_val rfl rfl (Value.string t8) (exec_load rfl (by kernel_rfl) (run_load1 (fun w=>by kernel_rfl) ((hc3)))) ?_
 refine vcL_pure rfl rfl (Value.bool (bEq t6 t8)) (fun w=>by kernel_rfl) ?_
 obtain ⟨b, hb⟩ : ∃ y, y = (bEq t6 t8) := ⟨_, rfl⟩
 have h := h b hb
 refine vcL_pure rfl rfl (Value.bool b) (fun w=>by rw [hb]; kernel_rfl) ?_
 refine vcL_guardP b (wanted_g (d := 10) rfl (by kernel_rfl) b (by kernel_rfl) b (eqT b)) rfl (Value.pointer (some (a.add 1))) (fun hg w=>by subst hg; kernel_rfl) ?_
 obtain ⟨zzr, zzs, zzt, hc4, h⟩ := h
 refine vcL_guard b (wanted_g (d := 10) rfl (by kernel_rfl) b (by kernel_rfl) b (eqT b)) rfl (Value.agg #[(Value.int .i64 zzr), (Value.int .i64 zzs), (Value.int .i64 zzt)]) (fun hg=>by subst hg; exact exec_load rfl (by kernel_rfl) (run_loadN (fun w=>by kernel_rfl) (fun w=>by kernel_rfl) ((hc4 rfl)))) ?_
 refine vcL_guardP b (wanted_g (d := 10) rfl (by kernel_rfl) b (by kernel_rfl) b (eqT b)) rfl (Value.pointer (some (a1.add 1))) (fun hg w=>by subst hg; kernel_rfl) ?_
 obtain ⟨zzo, zzp, zzq, hc5, h⟩ := h
 refine vcL_guard b (wanted_g (d := 10) rfl (by kernel_rfl) b (by kernel_rfl) b (eqT b)) rfl (Value.agg #[(Value.int .i64 zzo), (Value.int .i64 zzp), (Value.int .i64 zzq)]) (fun hg=>by subst hg; exact exec_load rfl (by kernel_rfl) (run_loadN (fun w=>by kernel_rfl) (fun w=>by kernel_rfl) ((hc5 rfl)))) ?_
 refine vcL_guardP b (wanted_g (d := 10) rfl (by kernel_rfl) b (by kernel_rfl) b (eqT b)) rfl (Value.bool ((zzr == zzo) && ((zzs == zzp) && ((zzt == zzq) && true)))) (fun hg w=>by subst hg; exact exec_struct_eq rfl (by kernel_rfl) (by kernel_rfl) (by kernel_rfl) (eqv_30 9998 zzr zzs zzt zzo zzp zzq w)) ?_
 refine vcL_pure rfl rfl (Value.bool (b && ((zzr == zzo) && ((zzs == zzp) && ((zzt == zzq) && true))))) (fun w=>by cases b <;> kernel_rfl) ?_
 obtain ⟨b6, hb6⟩ : ∃ y, y = (b && ((zzr == zzo) && ((zzs == zzp) && ((zzt == zzq) && true)))) := ⟨_, rfl⟩
 have h := h b6 hb6
 refine vcL_pure rfl rfl (Value.bool b6) (fun w=>by rw [hb6]; kernel_rfl) ?_
 refine vcL_guardP b6 (wanted_g (d := 17) rfl (by kernel_rfl) b6 (by kernel_rfl) b6 (eqT b6)) rfl (Value.pointer (some (a.add 4))) (fun hg w=>by subst hg; kernel_rfl) ?_
 obtain ⟨t19, hc7, h⟩ := h
 refine vcL_guard b6 (wanted_g (d := 17) rfl (by kernel_rfl) b6 (by kernel_rfl) b6 (eqT b6)) rfl (Sl.v t19) (fun hg=>by subst hg; exact exec_load rfl (by kernel_rfl) (run_load1 (fun w=>by kernel_rfl) ((hc7 rfl)))) ?_
 refine vcL_guardP b6 (wanted_g (d := 17) rfl (by kernel_rfl) b6 (by kernel_rfl) b6 (eqT b6)) rfl (Value.pointer (some (a1.add 4))) (fun hg w=>by subst hg; kernel_rfl) ?_
 obtain ⟨t21, hc8, h⟩ := h
 refine vcL_guard b6 (wanted_g (d := 17) rfl (by kernel_rfl) b6 (by kernel_rfl) b6 (eqT b6)) rfl (Sl.v t21) (fun hg=>by subst hg; exact exec_load rfl (by kernel_rfl) (run_load1 (fun w=>by kernel_rfl) ((hc8 rfl)))) ?_
 obtain ⟨vJ, hJ, h⟩ := gCall_elim h
 refine vcL_effJ (σ := Bool) b6 (wanted_g (d := 17) rfl (by kernel_rfl) b6 (by kernel_rfl) b6 (eqT b6)) rfl (fun s w=>vJ s w) (fun s=>(Value.bool s)) ?_ (fun hg=>opVC_call rfl (by subst hg; kernel_rfl) (callS.mono (h.1 hg) fun v vw9 hq=>?_)) (fun hg=>⟨false, h.2 hg⟩)
 ·intro t22 vw9 h
  subst hJ
  refine vcL_pure rfl rfl (Value.bool (b6 && t22)) (fun w=>by cases b6 <;> kernel_rfl) ?_
  obtain ⟨b10, hb10⟩ : ∃ y, y = (b6 && t22) := ⟨_, rfl⟩
  have h := h b10 hb10
  refine vcL_pure rfl rfl (Value.bool b10) (fun w=>by rw [hb10]; kernel_rfl) ?_
  refine vcL_guardP b10 (wanted_g (d := 24) rfl (by kernel_rfl) b10 (by kernel_rfl) b10 (eqT b10)) rfl (Value.pointer (some (a.add 5))) (fun hg w=>by subst hg; kernel_rfl) ?_
  obtain ⟨t26, hc11, h⟩ := h
  refine vcL_guard b10 (wanted_g (d := 24) rfl (by kernel_rfl) b10 (by kernel_rfl) b10 (eqT b10)) rfl (Sl.v t26) (fun hg=>by subst hg; exact exec_load rfl (by kernel_rfl) (run_load1 (fun w=>by kernel_rfl) ((hc11 rfl)))) ?_
  refine vcL_guardP b10 (wanted_g (d := 24) rfl (by kernel_rfl) b10 (by kernel_rfl) b10 (eqT b10)) rfl (Value.pointer (some (a1.add 5))) (fun hg w=>by subst hg; kernel_rfl) ?_
  obtain ⟨t28, hc12, h⟩ := h
  refine vcL_guard b10 (wanted_g (d := 24) rfl (by kernel_rfl) b10 (by kernel_rfl) b10 (eqT b10)) rfl (Sl.v t28) (fun hg=>by subst hg; exact exec_load rfl (by kernel_rfl) (run_load1 (fun w=>by kernel_rfl) ((hc12 rfl)))) ?_
  obtain ⟨vJ16, hJ17, h⟩ := gCall_elim h
  refine vcL_effJ (σ := Bool) b10 (wanted_g (d := 24) rfl (by kernel_rfl) b10 (by kernel_rfl) b10 (eqT b10)) rfl (fun s w=>vJ16 s w) (fun s=>(Value.bool s)) ?_ (fun hg=>opVC_call rfl (by subst hg; kernel_rfl) (callS.mono (h.1 hg) fun v14 vw13 hq=>?_)) (fun hg=>⟨false, h.2 hg⟩)
  ·intro t29 vw13 h
   subst hJ17
   refine vcL_pure rfl rfl (Value.bool (b10 && t29)) (fun w=>by cases b10 <;> kernel_rfl) ?_
   obtain ⟨b18, hb18⟩ : ∃ y, y = (b10 && t29) := ⟨_, rfl⟩
   have h := h b18 hb18
   refine vcL_pure rfl rfl (Value.bool b18) (fun w=>by rw [hb18]; kernel_rfl) ?_
   refine vcL_guardP b18 (wanted_g (d := 31) rfl (by kernel_rfl) b18 (by kernel_rfl) b18 (eqT b18)) rfl (Value.pointer (some (a.add 6))) (fun hg w=>by subst hg; kernel_rfl) ?_
   obtain ⟨t33, hc19, h⟩ := h
   refine vcL_guard b18 (wanted_g (d := 31) rfl (by kernel_rfl) b18 (by kernel_rfl) b18 (eqT b18)) rfl (Sl.v t33) (fun hg=>by subst hg; exact exec_load rfl (by kernel_rfl) (run_load1 (fun w=>by kernel_rfl) ((hc19 rfl)))) ?_
   refine vcL_guardP b18 (wanted_g (d := 31) rfl (by kernel_rfl) b18 (by kernel_rfl) b18 (eqT b18)) rfl (Value.pointer (some (a1.add 6))) (fun hg w=>by subst hg; kernel_rfl) ?_
   obtain ⟨t35, hc20, h⟩ := h
   refine vcL_guard b18 (wanted_g (d := 31) rfl (by kernel_rfl) b18 (by kernel_rfl) b18 (eqT b18)) rfl (Sl.v t35) (fun hg=>by subst hg; exact exec_load rfl (by kernel_rfl) (run_load1 (fun w=>by kernel_rfl) ((hc20 rfl)))) ?_
   obtain ⟨vJ24, hJ25, h⟩ := gCall_elim h
   refine vcL_effJ (σ := Bool) b18 (wanted_g (d := 31) rfl (by kernel_rfl) b18 (by kernel_rfl) b18 (eqT b18)) rfl (fun s w=>vJ24 s w) (fun s=>(Value.bool s)) ?_ (fun hg=>opVC_call rfl (by subst hg; kernel_rfl) (callS.mono (h.1 hg) fun v22 vw21 hq=>?_)) (fun hg=>⟨false, h.2 hg⟩)
   ·intro t36 vw21 h
    subst hJ25
    refine vcL_pure rfl rfl (Value.bool (b18 && t36)) (fun w=>by cases b18 <;> kernel_rfl) ?_
    refine vcL_pure rfl rfl (Value.bool (b18 && t36)) (fun w=>by kernel_rfl) ?_
    refine vcL_nil ?_
    refine Vc.ret ?_
    refine outs_ret ?_
    refine done_mk (Value.bool (b18 && t36)) (res1 (resC_tmp (by kernel_rfl))) ?_
    exact ⟨(b18 && t36), rfl, h⟩
   ·obtain ⟨t36, rfl, hq⟩ := hq
    exact ⟨t36, rfl, hq⟩
  ·obtain ⟨t29, rfl, hq⟩ := hq
   exact ⟨t29, rfl, hq⟩
 ·obtain ⟨t22, rfl, hq⟩ := hq
  exact ⟨t22, rfl, hq⟩
theorem halyardref05_Same.go {zz2b : ByteArray} {zz2e : Int} {zz2f : Int} {zz2g : Int} {zz2a : Sl} {zz2d : Sl} {zz2c : Sl} {zz2i : ByteArray} {zz2l : Int} {zz2m : Int} {zz2n : Int} {zz2h : Sl} {zz2k : Sl} {zz2j : Sl} {w : World} {k : Value → World → Prop} (h : halyardref05_Same zz2b zz2e zz2f zz2g zz2a zz2d zz2c zz2i zz2l zz2m zz2n zz2h zz2k zz2j w fun r0 w'=>k (Value.bool r0) w') : callS Tryz.prog 24 [(Value.agg #[(Value.string zz2b), (Value.int .i64 zz2e), (Value.int .i64 zz2f), (Value.int .i64 zz2g), (Sl.v zz2a), (Sl.v zz2d), (Sl.v zz2c)]), (Value.agg #[(Value.string zz2i), (Value.int .i64 zz2l), (Value.int .i64 zz2m), (Value.int .i64 zz2n), (Sl.v zz2h), (Sl.v zz2k), (Sl.v zz2j)])] w k := (halyardref05_Same.sound zz2b zz2e zz2f zz2g zz2a zz2d zz2c zz2i zz2l zz2m zz2n zz2h zz2k zz2j w _ h).mono (by rintro _ _ ⟨r0, rfl, h⟩; exact h)
def halyardlaw08_versions (a : Sl) (b : Sl) (w : World) (R : Bool → World → Prop) : Prop :=
 loop2 ((a.len : Int) == (b.len : Int)) 0 w fun same i vw nxt=>((i < (a.len : Int) → bnd vw.drew fun (vw1 : World)=>∃ (ad : Addr), grd same (a.a = some ad ∧ (0 : Int) ≤ i ∧ i < (a.len : Int)) ∧ ∃ (zz1h : Int) (zz1i : Int) (zz1j : Int), grd same (ldc vw1 (ad.add (i.toNat * 3)) [(Value.int .i64 zz1h), (Value.int .i64 zz1i), (Value.int .i64 zz1j)]) ∧ ∃ (ad2 : Addr), grd same (b.a = some ad2 ∧ (0 : Int) ≤ i ∧ i < (b.len : Int)) ∧ ∃ (zz1k : Int) (zz1l : Int) (zz1m : Int), grd same (ldc vw1 (ad2.add (i.toNat * 3)) [(Value.int .i64 zz1k), (Value.int .i64 zz1l), (Value.int .i64 zz1m)]) ∧ ∃ (ad5 : Addr), (a.a = some ad5 ∧ (0 : Int) ≤ i ∧ i < (a.len : Int)) ∧ stw vw1 (ad5.add (i.toNat * 3)) [(Value.int .i64 (-1)), (Value.int .i64 0), (Value.int .i64 0)] fun vw7=>nxt (same && ((zz1h == zz1k) && ((zz1i == zz1l) && ((zz1j == zz1m) && true)))) (wrapI (i + 1)) vw7) ∧ (¬ (i < (a.len : Int)) → R same vw))
set_option maxHeartbeats 8000000 in
theorem halyardlaw08_versions.sound (a : Sl) (b : Sl) (w : World) (R : Bool → World → Prop) (h : halyardlaw08_versions a b w R) : callS Tryz.prog 25 [(Sl.v a), (Sl.v b)] w (fun v w'=>∃ (r0 : Bool), v = (Value.bool r0) ∧ R r0 w') := by
 unfold halyardlaw08_versions at h
 refine calls_of_vc 35 rfl Tryz.func25 rfl (by kernel_rfl) (by simp) ?_
 refine Vc.seq ?_
 refine Vc.region ?_
 refine vcL_pure rfl rfl (Value.bool false) (fun w=>by kernel_rfl) ?_
 refine vcL_nil ?_
 refine Vc.seq ?_
 refine Vc.region ?_
 refine vcL_purs 6 [(5, (Value.bool ((a.len : Int) == (b.len : Int)))), (11, (Value.bool ((a.len : Int) == (b.len : Int)))), (10, (Value.int .i64 (b.len : Int))), (9, (Sl.v b)), (8, (Value.int .i64 (a.len : Int))), (7, (Sl.v a))] (by kernel_rfl) ?_
 refine vcL_nil ?_
 refine Vc.seq ?_
 refine Vc.seq ?_
 refine Vc.region ?_
 refine vcL_pure rfl rfl (Value.int .i64 0) (fun w=>by kernel_rfl) ?_
 refine vcL_nil ?_
 refine Vc.block ?_
 obtain ⟨vI, mu, h, hr⟩ := h
 refine Vc.loopJ (σ := Bool × Int) [5, 6] [12, 13, 14, 15, 16, 17, 18, 19, 20, 21, 22, 23, 24, 25, 26, 27, 28, 29, 30, 31, 32, 33] (fun s=>[(5, (Value.bool s.1)), (6, (Value.int .i64 s.2))]) (fun s w=>vI s.1 s.2 w) (fun s w=>mu s.1 s.2 w) (((a.len : Int) == (b.len : Int)), 0) h (fun _ => rfl) (by kernel_rfl) ?_
 rintro ⟨same, i⟩ vw j h
 have h := hr same i vw h
 refine Vc.seq ?_
 refine Vc.seq ?_
 refine Vc.region ?_
 refine vcL_purs 4 [(15, (Value.bool (decide (i < (a.len : Int))))), (14, (Value.int .i64 (a.len : Int))), (13, (Sl.v a)), (12, (Value.int .i64 i))] (by kernel_rfl) ?_
 refine vcL_nil ?_
 refine Vc.cond (decide (i < (a.len : Int))) (by kernel_rfl) (fun hb=>?_) (fun hb=>?_)
 ·have h := h.1 (of_decide_eq_true hb)
  refine Vc.skip ?_
  refine Vc.seq ?_
  refine Vc.block ?_
  refine Vc.seq ?_
  obtain ⟨vw1, hvw1⟩ : ∃ y, y = vw.drew := ⟨_, rfl⟩
  have h := h vw1 hvw1
  refine Vc.draw (by kernel_rfl) (fun i=>!(memN [] i)) (.pur 0 (.pur 1 (.pur 2 (.pur 3 (.pur 4 (.val 5 (.pur 6 (.pur 7 (.pur 8 (.val 9 (.pur 10 (.pur 11 (.pur 12 .fin))))))))))))) (by kernel_rfl) ?_
  rw [← hvw1]
  clear hvw1
  refine vcS_pure rfl rfl rfl (Value.bool same) (fun w=>by kernel_rfl) ?_
  refine vcS_pure rfl rfl rfl (Value.bool same) (fun w=>by kernel_rfl) ?_
  refine vcS_guard rfl same (wanted_g (d := 19) rfl (by kernel_rfl) same (by kernel_rfl) same (eqT same)) rfl (Sl.v a) (fun hg w=>by subst hg; kernel_rfl) ?_
  refine vcS_guard rfl same (wanted_g (d := 19) rfl (by kernel_rfl) same (by kernel_rfl) same (eqT same)) rfl (Value.int .i64 i) (fun hg w=>by subst hg; kernel_rfl) ?_
  obtain ⟨ad, hi, h⟩ := h
  refine vcS_guard rfl same (wanted_g (d := 19) rfl (by kernel_rfl) same (by kernel_rfl) same (eqT same)) rfl (Value.pointer (some (ad.add (i.toNat * 3)))) (fun hg w=>by subst hg; exact exec_indexAt (s := a) (el := 30) rfl (by kernel_rfl) (by kernel_rfl) (by kernel_rfl) (fun w=>by kernel_rfl) (hi rfl).1 (hi rfl).2.1 (hi rfl).2.2 w) ?_
  obtain ⟨zz1h, zz1i, zz1j, hc, h⟩ := h
  refine vcS_valG rfl same (wanted_g (d := 19) rfl (by kernel_rfl) same (by kernel_rfl) same (eqT same)) rfl (Value.agg #[(Value.int .i64 zz1h), (Value.int .i64 zz1i), (Value.int .i64 zz1j)]) (fun hg w' hx=>by subst hg; exact exec_load rfl (by kernel_rfl) (run_loadN (fun w=>by kernel_rfl) (fun w=>by kernel_rfl) ((hc rfl).ext hx))) ?_
  refine vcS_guard rfl same (wanted_g (d := 19) rfl (by kernel_rfl) same (by kernel_rfl) same (eqT same)) rfl (Sl.v b) (fun hg w=>by subst hg; kernel_rfl) ?_
  refine vcS_guard rfl same (wanted_g (d := 19) rfl (by kernel_rfl) same (by kernel_rfl) same (eqT same)) rfl (Value.int .i64 i) (fun hg w=>by subst hg; kernel_rfl) ?_
  obtain ⟨ad2, hi3, h⟩ := h
  refine vcS_guard rfl same (wanted_g (d := 19) rfl (by kernel_rfl) same (by kernel_rfl) same (eqT same)) rfl (Value.pointer (some (ad2.add (i.toNat * 3)))) (fun hg w=>by subst hg; exact exec_indexAt (s := b) (el := 30) rfl (by kernel_rfl) (by kernel_rfl) (by kernel_rfl) (fun w=>by kernel_rfl) (hi3 rfl).1 (hi3 rfl).2.1 (hi3 rfl).2.2 w) ?_
  obtain ⟨zz1k, zz1l, zz1m, hc4, h⟩ := h
  refine vcS_valG rfl same (wanted_g (d := 19) rfl (by kernel_rfl) same (by kernel_rfl) same (eqT same)) rfl (Value.agg #[(Value.int .i64 zz1k), (Value.int .i64 zz1l), (Value.int .i64 zz1m)]) (fun hg w' hx=>by subst hg; exact exec_load rfl (by kernel_rfl) (run_loadN (fun w=>by kernel_rfl) (fun w=>by kernel_rfl) ((hc4 rfl).ext hx))) ?_
  refine vcS_guard rfl same (wanted_g (d := 19) rfl (by kernel_rfl) same (by kernel_rfl) same (eqT same)) rfl (Value.bool ((zz1h == zz1k) && ((zz1i == zz1l) && ((zz1j == zz1m) && true)))) (fun hg w=>by subst hg; exact exec_struct_eq rfl (by kernel_rfl) (by kernel_rfl) (by kernel_rfl) (eqv_30 9998 zz1h zz1i zz1j zz1k zz1l zz1m w)) ?_
  refine vcS_pure rfl rfl rfl (Value.bool (same && ((zz1h == zz1k) && ((zz1i == zz1l) && ((zz1j == zz1m) && true))))) (fun w=>by cases same <;> kernel_rfl) ?_
  refine vcS_pure rfl rfl rfl (Value.bool (same && ((zz1h == zz1k) && ((zz1i == zz1l) && ((zz1j == zz1m) && true))))) (fun w=>by kernel_rfl) ?_
  refine vcS_fin ?_
  refine Vc.region ?_
  refine vcL_purs 3 [(32, (Value.agg #[(Value.int .i64 (-1)), (Value.int .i64 0), (Value.int .i64 0)])), (31, (Value.int .i64 i)), (30, (Sl.v a))] (by kernel_rfl) ?_
  obtain ⟨ad5, hi6, h⟩ := h
  refine vcL_pure rfl rfl (Value.pointer (some (ad5.add (i.toNat * 3)))) (fun w=>by exact exec_indexAt (s := a) (el := 30) rfl (by kernel_rfl) (by kernel_rfl) (by kernel_rfl) (fun w=>by kernel_rfl) (hi6).1 (hi6).2.1 (hi6).2.2 w) ?_
  refine vcL_eff rfl (opVC_store rfl rfl (a := (ad5.add (i.toNat * 3))) (by kernel_rfl) (v := (Value.agg #[(Value.int .i64 (-1)), (Value.int .i64 0), (Value.int .i64 0)])) (by kernel_rfl) [(Value.int .i64 (-1)), (Value.int .i64 0), (Value.int .i64 0)] (by kernel_rfl) (fun w=>by kernel_rfl) (by kernel_rfl) (stw.mono h fun vw7 h=>?_))
  refine vcL_nil ?_
  refine Vc.region ?_
  refine vcL_purs 3 [(6, (Value.int .i64 (wrapI (i + 1)))), (17, (Value.int .i64 (wrapI (i + 1)))), (16, (Value.int .i64 i))] (by kernel_rfl) ?_
  refine vcL_nil ?_
  exact ⟨((same && ((zz1h == zz1k) && ((zz1i == zz1l) && ((zz1j == zz1m) && true)))), (wrapI (i + 1))), 48, ⟨rfl, by kernel_rfl, by kernel_rfl, by kernel_rfl⟩, h⟩
 ·have h := h.2 (of_decide_eq_false hb)
  refine Vc.exit ?_
  refine outOf_hit ?_
  refine Vc.seq ?_
  refine Vc.region ?_
  refine vcL_purs 2 [(4, (Value.bool same)), (34, (Value.bool same))] (by kernel_rfl) ?_
  refine vcL_nil ?_
  refine Vc.ret ?_
  refine outs_ret ?_
  refine done_mk (Value.bool same) (res1 (resC_tmp (by kernel_rfl))) ?_
  exact ⟨same, rfl, h⟩
theorem halyardlaw08_versions.go {a : Sl} {b : Sl} {w : World} {k : Value → World → Prop} (h : halyardlaw08_versions a b w fun r0 w'=>k (Value.bool r0) w') : callS Tryz.prog 25 [(Sl.v a), (Sl.v b)] w k := (halyardlaw08_versions.sound a b w _ h).mono (by rintro _ _ ⟨r0, rfl, h⟩; exact h)
def catalog_Catalog_Versions (c : Option Addr) (name : ByteArray) (w : World) (R : Sl → World → Prop) : Prop :=
 ∃ (p : Addr), (c = some p) ∧ ∃ (t10 : Option Nat), (ldc w p [(Value.map t10)]) ∧ semS Tryz.prog (Instr.range 101 (Value.map t10)) w fun v vw=>∃ (it : Addr), v = (Value.pointer (some it)) ∧ loop1 Sl.nil vw fun out vw1 nxt=>semS Tryz.prog (Instr.next (Value.pointer (some it)) false 0) vw1 fun v3 vw2=>∃ (ok : Bool) (key_name : ByteArray) (zz14 : Int) (zz15 : Int) (zz16 : Int) (zz3z : ByteArray) (zz42 : Int) (zz43 : Int) (zz44 : Int) (zz3y : Sl) (zz41 : Sl) (zz40 : Sl), v3 = nextV ok (Value.agg #[(Value.string key_name), (Value.int .i64 zz14), (Value.int .i64 zz15), (Value.int .i64 zz16)]) (Value.agg #[(Value.string zz3z), (Value.int .i64 zz42), (Value.int .i64 zz43), (Value.int .i64 zz44), (Sl.v zz3y), (Sl.v zz41), (Sl.v zz40)]) ∧ ((ok = true → ∃ (key_name4 : ByteArray) (zz2y : Int) (zz2z : Int) (zz30 : Int) (zz7v : ByteArray) (zz7y : Int) (zz7z : Int) (zz80 : Int) (zz7u : Sl) (zz7x : Sl) (zz7w : Sl), (stabS Tryz.prog (Instr.entry (Value.pointer (some it))) vw2 (Value.tuple #[(Value.agg #[(Value.string key_name4), (Value.int .i64 zz2y), (Value.int .i64 zz2z), (Value.int .i64 zz30)]), (Value.agg #[(Value.string zz7v), (Value.int .i64 zz7y), (Value.int .i64 zz7z), (Value.int .i64 zz80), (Sl.v zz7u), (Sl.v zz7x), (Sl.v zz7w)])])) ∧ newS vw2 [(Value.string (ByteArray.mk #[])), (Value.int .i64 0), (Value.int .i64 0), (Value.int .i64 0)] 106 fun a vw15=>stw vw15 a [(Value.string key_name4), (Value.int .i64 zz2y), (Value.int .i64 zz2z), (Value.int .i64 zz30)] fun vw16=>∃ (t17 : ByteArray), (ldc vw16 a [(Value.string t17)]) ∧ ((t17 = name → ∃ (zz53 : Int) (zz54 : Int) (zz55 : Int), (ldc vw16 (a.add 1) [(Value.int .i64 zz53), (Value.int .i64 zz54), (Value.int .i64 zz55)]) ∧ newS vw16 [(Value.int .i64 zz53), (Value.int .i64 zz54), (Value.int .i64 zz55)] 30 fun a19 vw20=>appS Tryz.prog 60 60 out (Sl.v (Sl.mk (some a19) 1 1)) vw20 fun t24 vw21=>nxt t24 vw21) ∧ (¬ (t17 = name) → nxt out vw16))) ∧ (ok = false → callS Tryz.prog 64 [(Sl.v out), (Value.func (.func 65) #[] #[])] vw2 fun v23 vw22=>v23 = (Value.tuple #[]) ∧ callS Tryz.prog 66 [(Sl.v out)] vw22 fun v25 vw24=>∃ (t28 : Sl), v25 = (Sl.v t28) ∧ R t28 vw24))
set_option maxHeartbeats 8000000 in
theorem catalog_Catalog_Versions.sound (c : Option Addr) (name : ByteArray) (w : World) (R : Sl → World → Prop) (h : catalog_Catalog_Versions c name w R) : callS Tryz.prog 26 [(Value.pointer c), (Value.string name)] w (fun v w'=>∃ (r0 : Sl), v = (Sl.v r0) ∧ R r0 w') := by
 unfold catalog_Catalog_Versions at h
 refine calls_of_vc 29 rfl Tryz.func26 rfl (by kernel_rfl) (by simp) ?_
 refine Vc.seq ?_
 refine Vc.region ?_
 refine vcL_pure rfl rfl (Sl.v Sl.nil) (fun w=>by kernel_rfl) ?_
 refine vcL_nil ?_
 refine Vc.seq ?_
 refine Vc.region ?_
 refine vcL_pure rfl rfl (Sl.v Sl.nil) (fun w=>by kernel_rfl) ?_
 refine vcL_nil ?_
 refine Vc.seq ?_
 refine Vc.seq ?_
 refine Vc.region ?_
 refine vcL_pure rfl rfl (Value.pointer c) (fun w=>by kernel_rfl) ?_
 obtain ⟨p, hp, h⟩ := h
 refine vcL_pure rfl rfl (Value.pointer (some p)) (fun w=>by exact exec_nilCheck rfl (by kernel_rfl) (hp) w) ?_
 refine vcL_pure rfl rfl (Value.pointer (some p)) (fun w=>by kernel_rfl) ?_
 obtain ⟨t10, hc, h⟩ := h
 refine vcL_val rfl rfl (Value.map t10) (exec_load rfl (by kernel_rfl) (run_load1 (fun w=>by kernel_rfl) ((hc)))) ?_
 refine vcL_eff rfl (opVC_sem rfl (c := Instr.range 101 (Value.map t10)) (by kernel_rfl) (semS.mono h fun v vw h=>?_))
 obtain ⟨it, rfl, h⟩ := h
 refine vcL_nil ?_
 refine Vc.block ?_
 obtain ⟨vI, mu, h, hr⟩ := h
 refine Vc.loopJ (σ := Sl) [5] [6, 12, 13, 14, 15, 16, 17, 18, 19, 20, 21, 22, 23, 24] (fun s=>[(5, (Sl.v s))]) (fun s w=>vI s w) (fun s w=>mu s w) Sl.nil h (fun _ => rfl) (by kernel_rfl) ?_
 intro out vw1 j h
 have h := hr out vw1 h
 refine Vc.seq ?_
 refine Vc.region ?_
 refine vcL_eff rfl (opVC_sem rfl (c := Instr.next (Value.pointer (some it)) false 0) (by kernel_rfl) (semS.mono h fun v3 vw2 h=>?_))
 obtain ⟨ok, key_name, zz14, zz15, zz16, zz3z, zz42, zz43, zz44, zz3y, zz41, zz40, rfl, h⟩ := h
 refine vcL_pure rfl rfl (Value.bool ok) (fun w=>by cases ok <;> kernel_rfl) ?_
 refine vcL_nil ?_
 refine Vc.seq ?_
 refine Vc.cond ok (by kernel_rfl) (fun hb=>?_) (fun hb=>?_)
 ·have hq := h.1 (hb)
  clear h
  subst hb
  have h := hq
  clear hq
  refine Vc.skip ?_
  refine Vc.block ?_
  refine Vc.seq ?_
  refine Vc.region ?_
  obtain ⟨key_name4, zz2y, zz2z, zz30, zz7v, zz7y, zz7z, zz80, zz7u, zz7x, zz7w, hl, h⟩ := h
  refine vcL_val rfl rfl (Value.tuple #[(Value.agg #[(Value.string key_name4), (Value.int .i64 zz2y), (Value.int .i64 zz2z), (Value.int .i64 zz30)]), (Value.agg #[(Value.string zz7v), (Value.int .i64 zz7y), (Value.int .i64 zz7z), (Value.int .i64 zz80), (Sl.v zz7u), (Sl.v zz7x), (Sl.v zz7w)])]) (exec_sem (c := Instr.entry (Value.pointer (some it))) (by kernel_rfl) ((hl) _ (Ext.refl _))) ?_
  refine vcL_pure rfl rfl (Value.agg #[(Value.string key_name4), (Value.int .i64 zz2y), (Value.int .i64 zz2z), (Value.int .i64 zz30)]) (fun w=>by kernel_rfl) ?_
  refine vcL_eff rfl (opVC_new rfl (fun a=>Value.pointer (some a)) (by kernel_rfl) (newS.mono h fun a vw15 hx h=>?_))
  refine vcL_eff rfl (opVC_store rfl rfl (a := a) (by kernel_rfl) (v := (Value.agg #[(Value.string key_name4), (Value.int .i64 zz2y), (Value.int .i64 zz2z), (Value.int .i64 zz30)])) (by kernel_rfl) [(Value.string key_name4), (Value.int .i64 zz2y), (Value.int .i64 zz2z), (Value.int .i64 zz30)] (by kernel_rfl) (fun w=>by kernel_rfl) (by kernel_rfl) (stw.mono h fun vw16 h=>?_))
  refine vcL_nil ?_
  refine Vc.seq ?_
  refine Vc.region ?_
  refine vcL_pure rfl rfl (Value.pointer (some a)) (fun w=>by kernel_rfl) ?_
  obtain ⟨t17, hc17, h⟩ := h
  refine vcL_val rfl rfl (Value.string t17) (exec_load rfl (by kernel_rfl) (run_load1 (fun w=>by kernel_rfl) ((hc17)))) ?_
  refine vcL_purs 2 [(19, (Value.bool (bEq t17 name))), (18, (Value.string name))] (by kernel_rfl) ?_
  refine vcL_nil ?_
  refine Vc.cond (bEq t17 name) (by kernel_rfl) (fun hb=>?_) (fun hb=>?_)
  ·have h := h.1 (bEq_iff.1 hb)
   refine Vc.region ?_
   refine vcL_purs 2 [(21, (Value.pointer (some (a.add 1)))), (20, (Sl.v out))] (by kernel_rfl) ?_
   obtain ⟨zz53, zz54, zz55, hc18, h⟩ := h
   refine vcL_val rfl rfl (Value.agg #[(Value.int .i64 zz53), (Value.int .i64 zz54), (Value.int .i64 zz55)]) (exec_load rfl (by kernel_rfl) (run_loadN (fun w=>by kernel_rfl) (fun w=>by kernel_rfl) ((hc18)))) ?_
   refine vcL_eff rfl (opVC_new rfl (fun a=>Value.slice (some a) 1 1) (by kernel_rfl) (newS.mono h fun a19 vw20 hx h=>?_))
   refine vcL_eff rfl (opVC_sem rfl (c := Builtin.append_ #[60, 60] 60 #[(Sl.v out), (Sl.v (Sl.mk (some a19) 1 1))]) (by kernel_rfl) (appS.elim (ty := 60) h fun t24 vw21 h=>?_))
   refine vcL_pure rfl rfl (Sl.v t24) (fun w=>by kernel_rfl) ?_
   refine vcL_nil ?_
   exact ⟨t24, 30, ⟨rfl, by kernel_rfl, by kernel_rfl, by kernel_rfl⟩, h⟩
  ·have h := h.2 (bEq_false.1 hb)
   refine Vc.skip ?_
   exact ⟨out, 24, ⟨rfl, by kernel_rfl, by kernel_rfl, by kernel_rfl⟩, h⟩
 ·have hq := h.2 (hb)
  clear h
  subst hb
  have h := hq
  clear hq
  refine Vc.exit ?_
  refine outOf_hit ?_
  refine Vc.seq ?_
  refine Vc.region ?_
  refine vcL_pure rfl rfl (Sl.v out) (fun w=>by kernel_rfl) ?_
  refine vcL_eff rfl (opVC_call rfl (by kernel_rfl) (callS.mono h fun v23 vw22 h=>?_))
  obtain ⟨rfl, h⟩ := h
  refine vcL_nil ?_
  refine Vc.seq ?_
  refine Vc.region ?_
  refine vcL_pure rfl rfl (Sl.v out) (fun w=>by kernel_rfl) ?_
  refine vcL_eff rfl (opVC_call rfl (by kernel_rfl) (callS.mono h fun v25 vw24 h=>?_))
  obtain ⟨t28, rfl, h⟩ := h
  refine vcL_pure rfl rfl (Sl.v t28) (fun w=>by kernel_rfl) ?_
  refine vcL_nil ?_
  refine Vc.ret ?_
  refine outs_ret ?_
  refine done_mk (Sl.v t28) (res1 (resC_tmp (by kernel_rfl))) ?_
  exact ⟨t28, rfl, h⟩
theorem catalog_Catalog_Versions.go {c : Option Addr} {name : ByteArray} {w : World} {k : Value → World → Prop} (h : catalog_Catalog_Versions c name w fun r0 w'=>k (Sl.v r0) w') : callS Tryz.prog 26 [(Value.pointer c), (Value.string name)] w k := (catalog_Catalog_Versions.sound c name w _ h).mono (by rintro _ _ ⟨r0, rfl, h⟩; exact h)
def halyardref08_Catalog_Versions (c : Option Addr) (name : ByteArray) (w : World) (R : Sl → World → Prop) : Prop :=
 loop2 Sl.nil 0 w fun out i vw nxt=>∃ (p : Addr), (c = some p) ∧ ∃ (t11 : Sl), (ldc vw p [(Sl.v t11)]) ∧ ((i < (t11.len : Int) → join (fun (out1 : Sl) (vw2 : World)=>nxt out1 (wrapI (i + 1)) vw2) fun vJ=>∃ (p3 : Addr), (c = some p3) ∧ ∃ (t19 : Sl), (ldc vw p3 [(Sl.v t19)]) ∧ ∃ (ad : Addr), (t19.a = some ad ∧ (0 : Int) ≤ i ∧ i < (t19.len : Int)) ∧ ∃ (t23 : ByteArray), (ldc vw (ad.add (i.toNat * 7)) [(Value.string t23)]) ∧ ((t23 = name → ∃ (p7 : Addr), (c = some p7) ∧ ∃ (t30 : Sl), (ldc vw p7 [(Sl.v t30)]) ∧ ∃ (ad10 : Addr), (t30.a = some ad10 ∧ (0 : Int) ≤ i ∧ i < (t30.len : Int)) ∧ ∃ (zz1n : Int) (zz1o : Int) (zz1p : Int), (ldc vw ((ad10.add (i.toNat * 7)).add 1) [(Value.int .i64 zz1n), (Value.int .i64 zz1o), (Value.int .i64 zz1p)]) ∧ newS vw [(Value.int .i64 zz1n), (Value.int .i64 zz1o), (Value.int .i64 zz1p)] 30 fun a vw13=>appS Tryz.prog 60 60 out (Sl.v (Sl.mk (some a) 1 1)) vw13 fun t36 vw14=>vJ t36 vw14) ∧ (¬ (t23 = name) → vJ out vw))) ∧ (¬ (i < (t11.len : Int)) → R out vw))
set_option maxHeartbeats 8000000 in
theorem halyardref08_Catalog_Versions.sound (c : Option Addr) (name : ByteArray) (w : World) (R : Sl → World → Prop) (h : halyardref08_Catalog_Versions c name w R) : callS Tryz.prog 27 [(Value.pointer c), (Value.string name)] w (fun v w'=>∃ (r0 : Sl), v = (Sl.v r0) ∧ R r0 w') := by
 unfold halyardref08_Catalog_Versions at h
 refine calls_of_vc 38 rfl Tryz.func27 rfl (by kernel_rfl) (by simp) ?_
 refine Vc.seq ?_
 refine Vc.region ?_
 refine vcL_pure rfl rfl (Sl.v Sl.nil) (fun w=>by kernel_rfl) ?_
 refine vcL_nil ?_
 refine Vc.seq ?_
 refine Vc.region ?_
 refine vcL_pure rfl rfl (Sl.v Sl.nil) (fun w=>by kernel_rfl) ?_
 refine vcL_nil ?_
 refine Vc.seq ?_
 refine Vc.seq ?_
 refine Vc.region ?_
 refine vcL_pure rfl rfl (Value.int .i64 0) (fun w=>by kernel_rfl) ?_
 refine vcL_nil ?_
 refine Vc.block ?_
 obtain ⟨vI, mu, h, hr⟩ := h
 refine Vc.loopJ (σ := Sl × Int) [5, 6] [7, 8, 9, 10, 11, 12, 13, 14, 15, 16, 17, 18, 19, 20, 21, 22, 23, 24, 25, 26, 27, 28, 29, 30, 31, 32, 33, 34, 35, 36] (fun s=>[(5, (Sl.v s.1)), (6, (Value.int .i64 s.2))]) (fun s w=>vI s.1 s.2 w) (fun s w=>mu s.1 s.2 w) (Sl.nil, 0) h (fun _ => rfl) (by kernel_rfl) ?_
 rintro ⟨out, i⟩ vw j h
 have h := hr out i vw h
 refine Vc.seq ?_
 refine Vc.seq ?_
 refine Vc.region ?_
 refine vcL_purs 2 [(8, (Value.pointer c)), (7, (Value.int .i64 i))] (by kernel_rfl) ?_
 obtain ⟨p, hp, h⟩ := h
 refine vcL_pure rfl rfl (Value.pointer (some p)) (fun w=>by exact exec_nilCheck rfl (by kernel_rfl) (hp) w) ?_
 refine vcL_pure rfl rfl (Value.pointer (some p)) (fun w=>by kernel_rfl) ?_
 obtain ⟨t11, hc, h⟩ := h
 refine vcL_val rfl rfl (Sl.v t11) (exec_load rfl (by kernel_rfl) (run_load1 (fun w=>by kernel_rfl) ((hc)))) ?_
 refine vcL_purs 2 [(13, (Value.bool (decide (i < (t11.len : Int))))), (12, (Value.int .i64 (t11.len : Int)))] (by kernel_rfl) ?_
 refine vcL_nil ?_
 refine Vc.cond (decide (i < (t11.len : Int))) (by kernel_rfl) (fun hb=>?_) (fun hb=>?_)
 ·have h := h.1 (of_decide_eq_true hb)
  refine Vc.skip ?_
  obtain ⟨vJ, hJ, h⟩ := join_elim h
  refine Vc.seqJ (σ := Sl) [5] [16, 17, 18, 19, 20, 21, 22, 23, 24, 25, 26, 27, 28, 29, 30, 31, 32, 33, 34, 35, 36] (fun s=>[(5, (Sl.v s))]) (fun s w=>vJ s w) (fun _ => rfl) ?_ ?_
  ·refine Vc.block ?_
   refine Vc.seq ?_
   refine Vc.region ?_
   refine vcL_pure rfl rfl (Value.pointer c) (fun w=>by kernel_rfl) ?_
   obtain ⟨p3, hp4, h⟩ := h
   refine vcL_pure rfl rfl (Value.pointer (some p3)) (fun w=>by exact exec_nilCheck rfl (by kernel_rfl) (hp4) w) ?_
   refine vcL_pure rfl rfl (Value.pointer (some p3)) (fun w=>by kernel_rfl) ?_
   obtain ⟨t19, hc5, h⟩ := h
   refine vcL_val rfl rfl (Sl.v t19) (exec_load rfl (by kernel_rfl) (run_load1 (fun w=>by kernel_rfl) ((hc5)))) ?_
   refine vcL_pure rfl rfl (Value.int .i64 i) (fun w=>by kernel_rfl) ?_
   obtain ⟨ad, hi, h⟩ := h
   refine vcL_pure rfl rfl (Value.pointer (some (ad.add (i.toNat * 7)))) (fun w=>by exact exec_indexAt (s := t19) (el := 48) rfl (by kernel_rfl) (by kernel_rfl) (by kernel_rfl) (fun w=>by kernel_rfl) (hi).1 (hi).2.1 (hi).2.2 w) ?_
   refine vcL_pure rfl rfl (Value.pointer (some (ad.add (i.toNat * 7)))) (fun w=>by kernel_rfl) ?_
   obtain ⟨t23, hc6, h⟩ := h
   refine vcL_val rfl rfl (Value.string t23) (exec_load rfl (by kernel_rfl) (run_load1 (fun w=>by kernel_rfl) ((hc6)))) ?_
   refine vcL_purs 2 [(25, (Value.bool (bEq t23 name))), (24, (Value.string name))] (by kernel_rfl) ?_
   refine vcL_nil ?_
   refine Vc.cond (bEq t23 name) (by kernel_rfl) (fun hb=>?_) (fun hb=>?_)
   ·have h := h.1 (bEq_iff.1 hb)
    refine Vc.region ?_
    refine vcL_purs 2 [(27, (Value.pointer c)), (26, (Sl.v out))] (by kernel_rfl) ?_
    obtain ⟨p7, hp8, h⟩ := h
    refine vcL_pure rfl rfl (Value.pointer (some p7)) (fun w=>by exact exec_nilCheck rfl (by kernel_rfl) (hp8) w) ?_
    refine vcL_pure rfl rfl (Value.pointer (some p7)) (fun w=>by kernel_rfl) ?_
    obtain ⟨t30, hc9, h⟩ := h
    refine vcL_val rfl rfl (Sl.v t30) (exec_load rfl (by kernel_rfl) (run_load1 (fun w=>by kernel_rfl) ((hc9)))) ?_
    refine vcL_pure rfl rfl (Value.int .i64 i) (fun w=>by kernel_rfl) ?_
    obtain ⟨ad10, hi11, h⟩ := h
    refine vcL_pure rfl rfl (Value.pointer (some (ad10.add (i.toNat * 7)))) (fun w=>by exact exec_indexAt (s := t30) (el := 48) rfl (by kernel_rfl) (by kernel_rfl) (by kernel_rfl) (fun w=>by kernel_rfl) (hi11).1 (hi11).2.1 (hi11).2.2 w) ?_
    refine vcL_pure rfl rfl (Value.pointer (some ((ad10.add (i.toNat * 7)).add 1))) (fun w=>by kernel_rfl) ?_
    obtain ⟨zz1n, zz1o, zz1p, hc12, h⟩ := h
    refine vcL_val rfl rfl (Value.agg #[(Value.int .i64 zz1n), (Value.int .i64 zz1o), (Value.int .i64 zz1p)]) (exec_load rfl (by kernel_rfl) (run_loadN (fun w=>by kernel_rfl) (fun w=>by kernel_rfl) ((hc12)))) ?_
    refine vcL_eff rfl (opVC_new rfl (fun a=>Value.slice (some a) 1 1) (by kernel_rfl) (newS.mono h fun a vw13 hx h=>?_))
    refine vcL_eff rfl (opVC_sem rfl (c := Builtin.append_ #[60, 60] 60 #[(Sl.v out), (Sl.v (Sl.mk (some a) 1 1))]) (by kernel_rfl) (appS.elim (ty := 60) h fun t36 vw14 h=>?_))
    refine vcL_pure rfl rfl (Sl.v t36) (fun w=>by kernel_rfl) ?_
    refine vcL_nil ?_
    exact ⟨t36, 22, ⟨rfl, by kernel_rfl, by kernel_rfl, by kernel_rfl⟩, h⟩
   ·have h := h.2 (bEq_false.1 hb)
    refine Vc.skip ?_
    exact ⟨out, 10, ⟨rfl, by kernel_rfl, by kernel_rfl, by kernel_rfl⟩, h⟩
  ·intro out1 vw2 j h
   subst hJ
   refine Vc.region ?_
   refine vcL_purs 3 [(6, (Value.int .i64 (wrapI (i + 1)))), (15, (Value.int .i64 (wrapI (i + 1)))), (14, (Value.int .i64 i))] (by kernel_rfl) ?_
   refine vcL_nil ?_
   exact ⟨(out1, (wrapI (i + 1))), 64, ⟨rfl, by kernel_rfl, by kernel_rfl, by kernel_rfl⟩, h⟩
 ·have h := h.2 (of_decide_eq_false hb)
  refine Vc.exit ?_
  refine outOf_hit ?_
  refine Vc.seq ?_
  refine Vc.region ?_
  refine vcL_purs 2 [(4, (Sl.v out)), (37, (Sl.v out))] (by kernel_rfl) ?_
  refine vcL_nil ?_
  refine Vc.ret ?_
  refine outs_ret ?_
  refine done_mk (Sl.v out) (res1 (resC_tmp (by kernel_rfl))) ?_
  exact ⟨out, rfl, h⟩
theorem halyardref08_Catalog_Versions.go {c : Option Addr} {name : ByteArray} {w : World} {k : Value → World → Prop} (h : halyardref08_Catalog_Versions c name w fun r0 w'=>k (Sl.v r0) w') : callS Tryz.prog 27 [(Value.pointer c), (Value.string name)] w k := (halyardref08_Catalog_Versions.sound c name w _ h).mono (by rintro _ _ ⟨r0, rfl, h⟩; exact h)
def catalog_Catalog_Candidates (c : Option Addr) (name : ByteArray) (l : Sl) (pins : Sl) (w : World) (R : Sl → World → Prop) : Prop :=
 newS w [(Value.string name)] 9 fun a vw=>newS vw [(Sl.v l)] 53 fun a1 vw2=>newS vw2 [(Sl.v pins)] 28 fun a3 vw4=>∃ (t11 : ByteArray), (ldc vw4 a [(Value.string t11)]) ∧ callS Tryz.prog 26 [(Value.pointer c), (Value.string t11)] vw4 fun v vw5=>∃ (t12 : Sl), v = (Sl.v t12) ∧ callS Tryz.prog 67 [(Sl.v t12), (Value.func (.func 68) #[] #[(Value.pointer (some a1))])] vw5 fun v7 vw6=>∃ (t14 : Sl), v7 = (Sl.v t14) ∧ callS Tryz.prog 69 [(Sl.v t14), (Value.func (.func 70) #[] #[(Value.pointer (some a3)), (Value.pointer (some a))])] vw6 fun v10 vw9=>v10 = (Value.tuple #[]) ∧ callS Tryz.prog 66 [(Sl.v t14)] vw9 fun v13 vw12=>∃ (t19 : Sl), v13 = (Sl.v t19) ∧ R t19 vw12
set_option maxHeartbeats 8000000 in
theorem catalog_Catalog_Candidates.sound (c : Option Addr) (name : ByteArray) (l : Sl) (pins : Sl) (w : World) (R : Sl → World → Prop) (h : catalog_Catalog_Candidates c name l pins w R) : callS Tryz.prog 28 [(Value.pointer c), (Value.string name), (Sl.v l), (Sl.v pins)] w (fun v w'=>∃ (r0 : Sl), v = (Sl.v r0) ∧ R r0 w') := by
 unfold catalog_Catalog_Candidates at h
 refine calls_of_vc 20 rfl Tryz.func28 rfl (by kernel_rfl) (by simp) ?_
 refine Vc.seq ?_
 refine Vc.region ?_
 refine vcL_eff rfl (opVC_new rfl (fun a=>Value.pointer (some a)) (by kernel_rfl) (newS.mono h fun a vw hx h=>?_))
 refine vcL_eff rfl (opVC_new rfl (fun a=>Value.pointer (some a)) (by kernel_rfl) (newS.mono h fun a1 vw2 hx h=>?_))
 refine vcL_eff rfl (opVC_new rfl (fun a=>Value.pointer (some a)) (by kernel_rfl) (newS.mono h fun a3 vw4 hx h=>?_))
 refine vcL_pure rfl rfl (Sl.v Sl.nil) (fun w=>by kernel_rfl) ?_
 refine vcL_nil ?_
 refine Vc.seq ?_
 refine Vc.region ?_
 refine vcL_pure rfl rfl (Value.pointer c) (fun w=>by kernel_rfl) ?_
 obtain ⟨t11, hc, h⟩ := h
 refine vcL_val rfl rfl (Value.string t11) (exec_load rfl (by kernel_rfl) (run_load1 (fun w=>by kernel_rfl) ((hc)))) ?_
 refine vcL_eff rfl (opVC_call rfl (by kernel_rfl) (callS.mono h fun v vw5 h=>?_))
 obtain ⟨t12, rfl, h⟩ := h
 refine vcL_pure rfl rfl (Value.func (.func 68) #[] #[(Value.pointer (some a1))]) (fun w=>by kernel_rfl) ?_
 refine vcL_eff rfl (opVC_call rfl (by kernel_rfl) (callS.mono h fun v7 vw6 h=>?_))
 obtain ⟨t14, rfl, h⟩ := h
 refine vcL_pure rfl rfl (Sl.v t14) (fun w=>by kernel_rfl) ?_
 refine vcL_nil ?_
 refine Vc.seq ?_
 refine Vc.region ?_
 refine vcL_purs 2 [(16, (Value.func (.func 70) #[] #[(Value.pointer (some a3)), (Value.pointer (some a))])), (15, (Sl.v t14))] (by kernel_rfl) ?_
 refine vcL_eff rfl (opVC_call rfl (by kernel_rfl) (callS.mono h fun v10 vw9 h=>?_))
 obtain ⟨rfl, h⟩ := h
 refine vcL_nil ?_
 refine Vc.seq ?_
 refine Vc.region ?_
 refine vcL_pure rfl rfl (Sl.v t14) (fun w=>by kernel_rfl) ?_
 refine vcL_eff rfl (opVC_call rfl (by kernel_rfl) (callS.mono h fun v13 vw12 h=>?_))
 obtain ⟨t19, rfl, h⟩ := h
 refine vcL_pure rfl rfl (Sl.v t19) (fun w=>by kernel_rfl) ?_
 refine vcL_nil ?_
 refine Vc.ret ?_
 refine outs_ret ?_
 refine done_mk (Sl.v t19) (res1 (resC_tmp (by kernel_rfl))) ?_
 exact ⟨t19, rfl, h⟩
theorem catalog_Catalog_Candidates.go {c : Option Addr} {name : ByteArray} {l : Sl} {pins : Sl} {w : World} {k : Value → World → Prop} (h : catalog_Catalog_Candidates c name l pins w fun r0 w'=>k (Sl.v r0) w') : callS Tryz.prog 28 [(Value.pointer c), (Value.string name), (Sl.v l), (Sl.v pins)] w k := (catalog_Catalog_Candidates.sound c name l pins w _ h).mono (by rintro _ _ ⟨r0, rfl, h⟩; exact h)
def halyardref08_Catalog_Candidates (c : Option Addr) (name : ByteArray) (l : Sl) (pins : Sl) (w : World) (R : Sl → World → Prop) : Prop :=
 callS Tryz.prog 27 [(Value.pointer c), (Value.string name)] w fun v vw=>∃ (t15 : Sl), v = (Sl.v t15) ∧ loop3 Sl.nil Sl.nil 0 vw fun first others i vw1 nxt=>((i < (t15.len : Int) → join (fun (first2 : Sl) (others3 : Sl) (vw4 : World)=>nxt first2 others3 (wrapI (i + 1)) vw4) fun vJ=>∃ (ad : Addr), (t15.a = some ad ∧ (0 : Int) ≤ i ∧ i < (t15.len : Int)) ∧ ∃ (zz1n : Int) (zz1o : Int) (zz1p : Int), (ldc vw1 (ad.add (i.toNat * 3)) [(Value.int .i64 zz1n), (Value.int .i64 zz1o), (Value.int .i64 zz1p)]) ∧ callS Tryz.prog 32 [(Sl.v l), (Value.agg #[(Value.int .i64 zz1n), (Value.int .i64 zz1o), (Value.int .i64 zz1p)])] vw1 fun v6 vw5=>∃ (t35 : Bool), v6 = (Value.bool t35) ∧ (((!t35) = true → vJ first others vw5) ∧ ((!t35) = false → ∃ (ad8 : Addr), (t15.a = some ad8 ∧ (0 : Int) ≤ i ∧ i < (t15.len : Int)) ∧ ∃ (zz11 : Int) (zz12 : Int) (zz13 : Int), (ldc vw5 (ad8.add (i.toNat * 3)) [(Value.int .i64 zz11), (Value.int .i64 zz12), (Value.int .i64 zz13)]) ∧ callS Tryz.prog 73 [(Sl.v pins), (Value.string name), (Value.agg #[(Value.int .i64 zz11), (Value.int .i64 zz12), (Value.int .i64 zz13)])] vw5 fun v12 vw11=>∃ (t44 : Bool), v12 = (Value.bool t44) ∧ ((t44 = true → ∃ (ad14 : Addr), (t15.a = some ad14 ∧ (0 : Int) ≤ i ∧ i < (t15.len : Int)) ∧ ∃ (zz68 : Int) (zz69 : Int) (zz6a : Int), (ldc vw11 (ad14.add (i.toNat * 3)) [(Value.int .i64 zz68), (Value.int .i64 zz69), (Value.int .i64 zz6a)]) ∧ newS vw11 [(Value.int .i64 zz68), (Value.int .i64 zz69), (Value.int .i64 zz6a)] 30 fun a vw17=>appS Tryz.prog 60 60 first (Sl.v (Sl.mk (some a) 1 1)) vw17 fun t51 vw18=>vJ t51 others vw18) ∧ (t44 = false → ∃ (ad19 : Addr), (t15.a = some ad19 ∧ (0 : Int) ≤ i ∧ i < (t15.len : Int)) ∧ ∃ (zz5d : Int) (zz5e : Int) (zz5f : Int), (ldc vw11 (ad19.add (i.toNat * 3)) [(Value.int .i64 zz5d), (Value.int .i64 zz5e), (Value.int .i64 zz5f)]) ∧ newS vw11 [(Value.int .i64 zz5d), (Value.int .i64 zz5e), (Value.int .i64 zz5f)] 30 fun a22 vw23=>appS Tryz.prog 60 60 others (Sl.v (Sl.mk (some a22) 1 1)) vw23 fun t28 vw24=>vJ first t28 vw24))))) ∧ (¬ (i < (t15.len : Int)) → appS Tryz.prog 60 60 first (Sl.v others) vw1 fun t54 vw25=>R t54 vw25))
set_option maxHeartbeats 8000000 in
theorem halyardref08_Catalog_Candidates.sound (c : Option Addr) (name : ByteArray) (l : Sl) (pins : Sl) (w : World) (R : Sl → World → Prop) (h : halyardref08_Catalog_Candidates c name l pins w R) : callS Tryz.prog 29 [(Value.pointer c), (Value.string name), (Sl.v l), (Sl.v pins)] w (fun v w'=>∃ (r0 : Sl), v = (Sl.v r0) ∧ R r0 w') := by
 unfold halyardref08_Catalog_Candidates at h
 refine calls_of_vc 56 rfl Tryz.func29 rfl (by kernel_rfl) (by simp) ?_
 refine Vc.seq ?_
 refine Vc.region ?_
 refine vcL_pure rfl rfl (Sl.v Sl.nil) (fun w=>by kernel_rfl) ?_
 refine vcL_nil ?_
 refine Vc.seq ?_
 refine Vc.region ?_
 refine vcL_pure rfl rfl (Sl.v Sl.nil) (fun w=>by kernel_rfl) ?_
 refine vcL_nil ?_
 refine Vc.seq ?_
 refine Vc.region ?_
 refine vcL_pure rfl rfl (Sl.v Sl.nil) (fun w=>by kernel_rfl) ?_
 refine vcL_nil ?_
 refine Vc.seq ?_
 refine Vc.region ?_
 refine vcL_purs 2 [(14, (Value.string name)), (13, (Value.pointer c))] (by kernel_rfl) ?_
 refine vcL_eff rfl (opVC_call rfl (by kernel_rfl) (callS.mono h fun v vw h=>?_))
 obtain ⟨t15, rfl, h⟩ := h
 refine vcL_pure rfl rfl (Sl.v t15) (fun w=>by kernel_rfl) ?_
 refine vcL_nil ?_
 refine Vc.seq ?_
 refine Vc.seq ?_
 refine Vc.region ?_
 refine vcL_pure rfl rfl (Value.int .i64 0) (fun w=>by kernel_rfl) ?_
 refine vcL_nil ?_
 refine Vc.block ?_
 obtain ⟨vI, mu, h, hr⟩ := h
 refine Vc.loopJ (σ := Sl × Sl × Int) [9, 10, 12] [16, 17, 18, 19, 20, 21, 22, 23, 24, 25, 26, 27, 28, 29, 30, 31, 32, 33, 34, 35, 36, 37, 38, 39, 40, 41, 42, 43, 44, 45, 46, 47, 48, 49, 50, 51] (fun s=>[(9, (Sl.v s.1)), (10, (Sl.v s.2.1)), (12, (Value.int .i64 s.2.2))]) (fun s w=>vI s.1 s.2.1 s.2.2 w) (fun s w=>mu s.1 s.2.1 s.2.2 w) (Sl.nil, Sl.nil, 0) h (fun _ => rfl) (by kernel_rfl) ?_
 rintro ⟨first, others, i⟩ vw1 j h
 have h := hr first others i vw1 h
 refine Vc.seq ?_
 refine Vc.seq ?_
 refine Vc.region ?_
 refine vcL_purs 4 [(19, (Value.bool (decide (i < (t15.len : Int))))), (18, (Value.int .i64 (t15.len : Int))), (17, (Sl.v t15)), (16, (Value.int .i64 i))] (by kernel_rfl) ?_
 refine vcL_nil ?_
 refine Vc.cond (decide (i < (t15.len : Int))) (by kernel_rfl) (fun hb=>?_) (fun hb=>?_)
 ·have h := h.1 (of_decide_eq_true hb)
  refine Vc.skip ?_
  obtain ⟨vJ, hJ, h⟩ := join_elim h
  refine Vc.seqJ (σ := Sl × Sl) [9, 10] [22, 23, 24, 25, 26, 27, 28, 29, 30, 31, 32, 33, 34, 35, 36, 37, 38, 39, 40, 41, 42, 43, 44, 45, 46, 47, 48, 49, 50, 51] (fun s=>[(9, (Sl.v s.1)), (10, (Sl.v s.2))]) (fun s w=>vJ s.1 s.2 w) (fun _ => rfl) ?_ ?_
  ·refine Vc.block ?_
   refine Vc.block ?_
   refine Vc.seq ?_
   refine Vc.region ?_
   refine vcL_purs 3 [(32, (Value.int .i64 i)), (31, (Sl.v t15)), (30, (Sl.v l))] (by kernel_rfl) ?_
   obtain ⟨ad, hi, h⟩ := h
   refine vcL_pure rfl rfl (Value.pointer (some (ad.add (i.toNat * 3)))) (fun w=>by exact exec_indexAt (s := t15) (el := 30) rfl (by kernel_rfl) (by kernel_rfl) (by kernel_rfl) (fun w=>by kernel_rfl) (hi).1 (hi).2.1 (hi).2.2 w) ?_
   obtain ⟨zz1n, zz1o, zz1p, hc, h⟩ := h
   refine vcL_val rfl rfl (Value.agg #[(Value.int .i64 zz1n), (Value.int .i64 zz1o), (Value.int .i64 zz1p)]) (exec_load rfl (by kernel_rfl) (run_loadN (fun w=>by kernel_rfl) (fun w=>by kernel_rfl) ((hc)))) ?_
   refine vcL_eff rfl (opVC_call rfl (by kernel_rfl) (callS.mono h fun v6 vw5 h=>?_))
   obtain ⟨t35, rfl, h⟩ := h
   refine vcL_purs 2 [(29, (Value.bool (!t35))), (36, (Value.bool (!t35)))] (by kernel_rfl) ?_
   refine vcL_nil ?_
   refine Vc.cond (!t35) (by kernel_rfl) (fun hb=>?_) (fun hb=>?_)
   ·have h := h.1 (hb)
    refine Vc.skip ?_
    exact ⟨(first, others), 8, ⟨rfl, by kernel_rfl, by kernel_rfl, by kernel_rfl⟩, h⟩
   ·have h := h.2 (hb)
    refine Vc.seq ?_
    refine Vc.region ?_
    refine vcL_purs 4 [(41, (Value.int .i64 i)), (40, (Sl.v t15)), (39, (Value.string name)), (38, (Sl.v pins))] (by kernel_rfl) ?_
    obtain ⟨ad8, hi9, h⟩ := h
    refine vcL_pure rfl rfl (Value.pointer (some (ad8.add (i.toNat * 3)))) (fun w=>by exact exec_indexAt (s := t15) (el := 30) rfl (by kernel_rfl) (by kernel_rfl) (by kernel_rfl) (fun w=>by kernel_rfl) (hi9).1 (hi9).2.1 (hi9).2.2 w) ?_
    obtain ⟨zz11, zz12, zz13, hc10, h⟩ := h
    refine vcL_val rfl rfl (Value.agg #[(Value.int .i64 zz11), (Value.int .i64 zz12), (Value.int .i64 zz13)]) (exec_load rfl (by kernel_rfl) (run_loadN (fun w=>by kernel_rfl) (fun w=>by kernel_rfl) ((hc10)))) ?_
    refine vcL_eff rfl (opVC_call rfl (by kernel_rfl) (callS.mono h fun v12 vw11 h=>?_))
    obtain ⟨t44, rfl, h⟩ := h
    refine vcL_pure rfl rfl (Value.bool t44) (fun w=>by kernel_rfl) ?_
    refine vcL_nil ?_
    refine Vc.cond t44 (by kernel_rfl) (fun hb=>?_) (fun hb=>?_)
    ·have h := h.1 (hb)
     refine Vc.region ?_
     refine vcL_purs 3 [(47, (Value.int .i64 i)), (46, (Sl.v t15)), (45, (Sl.v first))] (by kernel_rfl) ?_
     obtain ⟨ad14, hi15, h⟩ := h
     refine vcL_pure rfl rfl (Value.pointer (some (ad14.add (i.toNat * 3)))) (fun w=>by exact exec_indexAt (s := t15) (el := 30) rfl (by kernel_rfl) (by kernel_rfl) (by kernel_rfl) (fun w=>by kernel_rfl) (hi15).1 (hi15).2.1 (hi15).2.2 w) ?_
     obtain ⟨zz68, zz69, zz6a, hc16, h⟩ := h
     refine vcL_val rfl rfl (Value.agg #[(Value.int .i64 zz68), (Value.int .i64 zz69), (Value.int .i64 zz6a)]) (exec_load rfl (by kernel_rfl) (run_loadN (fun w=>by kernel_rfl) (fun w=>by kernel_rfl) ((hc16)))) ?_
     refine vcL_eff rfl (opVC_new rfl (fun a=>Value.slice (some a) 1 1) (by kernel_rfl) (newS.mono h fun a vw17 hx h=>?_))
     refine vcL_eff rfl (opVC_sem rfl (c := Builtin.append_ #[60, 60] 60 #[(Sl.v first), (Sl.v (Sl.mk (some a) 1 1))]) (by kernel_rfl) (appS.elim (ty := 60) h fun t51 vw18 h=>?_))
     refine vcL_pure rfl rfl (Sl.v t51) (fun w=>by kernel_rfl) ?_
     refine vcL_nil ?_
     exact ⟨(t51, others), 24, ⟨rfl, by kernel_rfl, by kernel_rfl, by kernel_rfl⟩, h⟩
    ·have h := h.2 (hb)
     refine Vc.region ?_
     refine vcL_purs 3 [(24, (Value.int .i64 i)), (23, (Sl.v t15)), (22, (Sl.v others))] (by kernel_rfl) ?_
     obtain ⟨ad19, hi20, h⟩ := h
     refine vcL_pure rfl rfl (Value.pointer (some (ad19.add (i.toNat * 3)))) (fun w=>by exact exec_indexAt (s := t15) (el := 30) rfl (by kernel_rfl) (by kernel_rfl) (by kernel_rfl) (fun w=>by kernel_rfl) (hi20).1 (hi20).2.1 (hi20).2.2 w) ?_
     obtain ⟨zz5d, zz5e, zz5f, hc21, h⟩ := h
     refine vcL_val rfl rfl (Value.agg #[(Value.int .i64 zz5d), (Value.int .i64 zz5e), (Value.int .i64 zz5f)]) (exec_load rfl (by kernel_rfl) (run_loadN (fun w=>by kernel_rfl) (fun w=>by kernel_rfl) ((hc21)))) ?_
     refine vcL_eff rfl (opVC_new rfl (fun a=>Value.slice (some a) 1 1) (by kernel_rfl) (newS.mono h fun a22 vw23 hx h=>?_))
     refine vcL_eff rfl (opVC_sem rfl (c := Builtin.append_ #[60, 60] 60 #[(Sl.v others), (Sl.v (Sl.mk (some a22) 1 1))]) (by kernel_rfl) (appS.elim (ty := 60) h fun t28 vw24 h=>?_))
     refine vcL_pure rfl rfl (Sl.v t28) (fun w=>by kernel_rfl) ?_
     refine vcL_nil ?_
     exact ⟨(first, t28), 24, ⟨rfl, by kernel_rfl, by kernel_rfl, by kernel_rfl⟩, h⟩
  ·rintro ⟨first2, others3⟩ vw4 j h
   subst hJ
   refine Vc.region ?_
   refine vcL_purs 3 [(12, (Value.int .i64 (wrapI (i + 1)))), (21, (Value.int .i64 (wrapI (i + 1)))), (20, (Value.int .i64 i))] (by kernel_rfl) ?_
   refine vcL_nil ?_
   exact ⟨(first2, others3, (wrapI (i + 1))), 78, ⟨rfl, by kernel_rfl, by kernel_rfl, by kernel_rfl⟩, h⟩
 ·have h := h.2 (of_decide_eq_false hb)
  refine Vc.exit ?_
  refine outOf_hit ?_
  refine Vc.seq ?_
  refine Vc.region ?_
  refine vcL_purs 2 [(53, (Sl.v others)), (52, (Sl.v first))] (by kernel_rfl) ?_
  refine vcL_eff rfl (opVC_sem rfl (c := Builtin.append_ #[60, 60] 60 #[(Sl.v first), (Sl.v others)]) (by kernel_rfl) (appS.elim (ty := 60) h fun t54 vw25 h=>?_))
  refine vcL_pure rfl rfl (Sl.v t54) (fun w=>by kernel_rfl) ?_
  refine vcL_nil ?_
  refine Vc.seq ?_
  refine Vc.region ?_
  refine vcL_purs 2 [(8, (Sl.v t54)), (55, (Sl.v t54))] (by kernel_rfl) ?_
  refine vcL_nil ?_
  refine Vc.ret ?_
  refine outs_ret ?_
  refine done_mk (Sl.v t54) (res1 (resC_tmp (by kernel_rfl))) ?_
  exact ⟨t54, rfl, h⟩
theorem halyardref08_Catalog_Candidates.go {c : Option Addr} {name : ByteArray} {l : Sl} {pins : Sl} {w : World} {k : Value → World → Prop} (h : halyardref08_Catalog_Candidates c name l pins w fun r0 w'=>k (Sl.v r0) w') : callS Tryz.prog 29 [(Value.pointer c), (Value.string name), (Sl.v l), (Sl.v pins)] w k := (halyardref08_Catalog_Candidates.sound c name l pins w _ h).mono (by rintro _ _ ⟨r0, rfl, h⟩; exact h)
def halyardlaw08_packages (a : Sl) (b : Sl) (w : World) (R : Bool → World → Prop) : Prop :=
 loop2 ((a.len : Int) == (b.len : Int)) 0 w fun same i vw nxt=>((i < (a.len : Int) → bnd vw.drew fun (vw1 : World)=>∃ (ad : Addr), grd same (a.a = some ad ∧ (0 : Int) ≤ i ∧ i < (a.len : Int)) ∧ ∃ (zz57 : ByteArray) (zz5a : Int) (zz5b : Int) (zz5c : Int) (zz56 : Sl) (zz59 : Sl) (zz58 : Sl), grd same (ldc vw1 (ad.add (i.toNat * 7)) [(Value.string zz57), (Value.int .i64 zz5a), (Value.int .i64 zz5b), (Value.int .i64 zz5c), (Sl.v zz56), (Sl.v zz59), (Sl.v zz58)]) ∧ ∃ (ad2 : Addr), grd same (b.a = some ad2 ∧ (0 : Int) ≤ i ∧ i < (b.len : Int)) ∧ ∃ (zz5h : ByteArray) (zz5k : Int) (zz5l : Int) (zz5m : Int) (zz5g : Sl) (zz5j : Sl) (zz5i : Sl), grd same (ldc vw1 (ad2.add (i.toNat * 7)) [(Value.string zz5h), (Value.int .i64 zz5k), (Value.int .i64 zz5l), (Value.int .i64 zz5m), (Sl.v zz5g), (Sl.v zz5j), (Sl.v zz5i)]) ∧ gCall same (fun (t28 : Bool) (vw5 : World)=>∃ (ad6 : Addr), (a.a = some ad6 ∧ (0 : Int) ≤ i ∧ i < (a.len : Int)) ∧ ∃ (zz5o : ByteArray) (zz5r : Int) (zz5s : Int) (zz5t : Int) (zz5n : Sl) (zz5q : Sl) (zz5p : Sl), (ldc vw5 (ad6.add (i.toNat * 7)) [(Value.string zz5o), (Value.int .i64 zz5r), (Value.int .i64 zz5s), (Value.int .i64 zz5t), (Sl.v zz5n), (Sl.v zz5q), (Sl.v zz5p)]) ∧ callS Tryz.prog 21 [(Value.agg #[(Value.string zz5o), (Value.int .i64 zz5r), (Value.int .i64 zz5s), (Value.int .i64 zz5t), (Sl.v zz5n), (Sl.v zz5q), (Sl.v zz5p)])] vw5 fun v10 vw9=>v10 = (Value.tuple #[]) ∧ ∃ (ad12 : Addr), (a.a = some ad12 ∧ (0 : Int) ≤ i ∧ i < (a.len : Int)) ∧ stw vw9 (ad12.add (i.toNat * 7)) [(Value.string (ByteArray.mk #[])), (Value.int .i64 0), (Value.int .i64 0), (Value.int .i64 0), (Sl.v Sl.nil), (Sl.v Sl.nil), (Sl.v Sl.nil)] fun vw14=>nxt (same && t28) (wrapI (i + 1)) vw14) (fun q=>callS Tryz.prog 24 [(Value.agg #[(Value.string zz57), (Value.int .i64 zz5a), (Value.int .i64 zz5b), (Value.int .i64 zz5c), (Sl.v zz56), (Sl.v zz59), (Sl.v zz58)]), (Value.agg #[(Value.string zz5h), (Value.int .i64 zz5k), (Value.int .i64 zz5l), (Value.int .i64 zz5m), (Sl.v zz5g), (Sl.v zz5j), (Sl.v zz5i)])] vw1 fun v vw5=>∃ (t28 : Bool), v = (Value.bool t28) ∧ q t28 vw5) (fun q=>q false vw1)) ∧ (¬ (i < (a.len : Int)) → R same vw))
set_option maxHeartbeats 8000000 in
theorem halyardlaw08_packages.sound (a : Sl) (b : Sl) (w : World) (R : Bool → World → Prop) (h : halyardlaw08_packages a b w R) : callS Tryz.prog 30 [(Sl.v a), (Sl.v b)] w (fun v w'=>∃ (r0 : Bool), v = (Value.bool r0) ∧ R r0 w') := by
 unfold halyardlaw08_packages at h
 refine calls_of_vc 40 rfl Tryz.func30 rfl (by kernel_rfl) (by simp) ?_
 refine Vc.seq ?_
 refine Vc.region ?_
 refine vcL_pure rfl rfl (Value.bool false) (fun w=>by kernel_rfl) ?_
 refine vcL_nil ?_
 refine Vc.seq ?_
 refine Vc.region ?_
 refine vcL_purs 6 [(5, (Value.bool ((a.len : Int) == (b.len : Int)))), (11, (Value.bool ((a.len : Int) == (b.len : Int)))), (10, (Value.int .i64 (b.len : Int))), (9, (Sl.v b)), (8, (Value.int .i64 (a.len : Int))), (7, (Sl.v a))] (by kernel_rfl) ?_
 refine vcL_nil ?_
 refine Vc.seq ?_
 refine Vc.seq ?_
 refine Vc.region ?_
 refine vcL_pure rfl rfl (Value.int .i64 0) (fun w=>by kernel_rfl) ?_
 refine vcL_nil ?_
 refine Vc.block ?_
 obtain ⟨vI, mu, h, hr⟩ := h
 refine Vc.loopJ (σ := Bool × Int) [5, 6] [12, 13, 14, 15, 16, 17, 18, 19, 20, 21, 22, 23, 24, 25, 26, 27, 28, 29, 30, 31, 32, 33, 34, 35, 36, 37, 38] (fun s=>[(5, (Value.bool s.1)), (6, (Value.int .i64 s.2))]) (fun s w=>vI s.1 s.2 w) (fun s w=>mu s.1 s.2 w) (((a.len : Int) == (b.len : Int)), 0) h (fun _ => rfl) (by kernel_rfl) ?_
 rintro ⟨same, i⟩ vw j h
 have h := hr same i vw h
 refine Vc.seq ?_
 refine Vc.seq ?_
 refine Vc.region ?_
 refine vcL_purs 4 [(15, (Value.bool (decide (i < (a.len : Int))))), (14, (Value.int .i64 (a.len : Int))), (13, (Sl.v a)), (12, (Value.int .i64 i))] (by kernel_rfl) ?_
 refine vcL_nil ?_
 refine Vc.cond (decide (i < (a.len : Int))) (by kernel_rfl) (fun hb=>?_) (fun hb=>?_)
 ·have h := h.1 (of_decide_eq_true hb)
  refine Vc.skip ?_
  refine Vc.seq ?_
  refine Vc.block ?_
  refine Vc.seq ?_
  obtain ⟨vw1, hvw1⟩ : ∃ y, y = vw.drew := ⟨_, rfl⟩
  have h := h vw1 hvw1
  refine Vc.draw (by kernel_rfl) (fun i=>!(memN [10] i)) (.pur 0 (.pur 1 (.pur 2 (.pur 3 (.pur 4 (.val 5 (.pur 6 (.pur 7 (.pur 8 (.val 9 (.eff 10 (.pur 11 (.pur 12 .fin)) .stop))))))))))) (by kernel_rfl) ?_
  rw [← hvw1]
  clear hvw1
  refine vcS_pure rfl rfl rfl (Value.bool same) (fun w=>by kernel_rfl) ?_
  refine vcS_pure rfl rfl rfl (Value.bool same) (fun w=>by kernel_rfl) ?_
  refine vcS_guard rfl same (wanted_g (d := 19) rfl (by kernel_rfl) same (by kernel_rfl) same (eqT same)) rfl (Sl.v a) (fun hg w=>by subst hg; kernel_rfl) ?_
  refine vcS_guard rfl same (wanted_g (d := 19) rfl (by kernel_rfl) same (by kernel_rfl) same (eqT same)) rfl (Value.int .i64 i) (fun hg w=>by subst hg; kernel_rfl) ?_
  obtain ⟨ad, hi, h⟩ := h
  refine vcS_guard rfl same (wanted_g (d := 19) rfl (by kernel_rfl) same (by kernel_rfl) same (eqT same)) rfl (Value.pointer (some (ad.add (i.toNat * 7)))) (fun hg w=>by subst hg; exact exec_indexAt (s := a) (el := 48) rfl (by kernel_rfl) (by kernel_rfl) (by kernel_rfl) (fun w=>by kernel_rfl) (hi rfl).1 (hi rfl).2.1 (hi rfl).2.2 w) ?_
  obtain ⟨zz57, zz5a, zz5b, zz5c, zz56, zz59, zz58, hc, h⟩ := h
  refine vcS_valG rfl same (wanted_g (d := 19) rfl (by kernel_rfl) same (by kernel_rfl) same (eqT same)) rfl (Value.agg #[(Value.string zz57), (Value.int .i64 zz5a), (Value.int .i64 zz5b), (Value.int .i64 zz5c), (Sl.v zz56), (Sl.v zz59), (Sl.v zz58)]) (fun hg w' hx=>by subst hg; exact exec_load rfl (by kernel_rfl) (run_loadN (fun w=>by kernel_rfl) (fun w=>by kernel_rfl) ((hc rfl).ext hx))) ?_
  refine vcS_guard rfl same (wanted_g (d := 19) rfl (by kernel_rfl) same (by kernel_rfl) same (eqT same)) rfl (Sl.v b) (fun hg w=>by subst hg; kernel_rfl) ?_
  refine vcS_guard rfl same (wanted_g (d := 19) rfl (by kernel_rfl) same (by kernel_rfl) same (eqT same)) rfl (Value.int .i64 i) (fun hg w=>by subst hg; kernel_rfl) ?_
  obtain ⟨ad2, hi3, h⟩ := h
  refine vcS_guard rfl same (wanted_g (d := 19) rfl (by kernel_rfl) same (by kernel_rfl) same (eqT same)) rfl (Value.pointer (some (ad2.add (i.toNat * 7)))) (fun hg w=>by subst hg; exact exec_indexAt (s := b) (el := 48) rfl (by kernel_rfl) (by kernel_rfl) (by kernel_rfl) (fun w=>by kernel_rfl) (hi3 rfl).1 (hi3 rfl).2.1 (hi3 rfl).2.2 w) ?_
  obtain ⟨zz5h, zz5k, zz5l, zz5m, zz5g, zz5j, zz5i, hc4, h⟩ := h
  refine vcS_valG rfl same (wanted_g (d := 19) rfl (by kernel_rfl) same (by kernel_rfl) same (eqT same)) rfl (Value.agg #[(Value.string zz5h), (Value.int .i64 zz5k), (Value.int .i64 zz5l), (Value.int .i64 zz5m), (Sl.v zz5g), (Sl.v zz5j), (Sl.v zz5i)]) (fun hg w' hx=>by subst hg; exact exec_load rfl (by kernel_rfl) (run_loadN (fun w=>by kernel_rfl) (fun w=>by kernel_rfl) ((hc4 rfl).ext hx))) ?_
  obtain ⟨vJ, hJ, h⟩ := gCall_elim h
  refine vcS_effJ (σ := Bool) rfl same (wanted_g (d := 19) rfl (by kernel_rfl) same (by kernel_rfl) same (eqT same)) rfl (fun s w=>vJ s w) (fun s=>(Value.bool s)) ?_ (fun hg=>opVC_call rfl (by subst hg; kernel_rfl) (callS.mono (h.1 hg) fun v vw5 hq=>?_)) (fun hg=>⟨false, h.2 hg⟩) vcS_stop
  ·intro t28 vw5 h
   subst hJ
   refine vcS_pure rfl rfl rfl (Value.bool (same && t28)) (fun w=>by cases same <;> kernel_rfl) ?_
   refine vcS_pure rfl rfl rfl (Value.bool (same && t28)) (fun w=>by kernel_rfl) ?_
   refine vcS_fin ?_
   refine Vc.seq ?_
   refine Vc.region ?_
   refine vcL_purs 2 [(31, (Value.int .i64 i)), (30, (Sl.v a))] (by kernel_rfl) ?_
   obtain ⟨ad6, hi7, h⟩ := h
   refine vcL_pure rfl rfl (Value.pointer (some (ad6.add (i.toNat * 7)))) (fun w=>by exact exec_indexAt (s := a) (el := 48) rfl (by kernel_rfl) (by kernel_rfl) (by kernel_rfl) (fun w=>by kernel_rfl) (hi7).1 (hi7).2.1 (hi7).2.2 w) ?_
   obtain ⟨zz5o, zz5r, zz5s, zz5t, zz5n, zz5q, zz5p, hc8, h⟩ := h
   refine vcL_val rfl rfl (Value.agg #[(Value.string zz5o), (Value.int .i64 zz5r), (Value.int .i64 zz5s), (Value.int .i64 zz5t), (Sl.v zz5n), (Sl.v zz5q), (Sl.v zz5p)]) (exec_load rfl (by kernel_rfl) (run_loadN (fun w=>by kernel_rfl) (fun w=>by kernel_rfl) ((hc8)))) ?_
   refine vcL_eff rfl (opVC_call rfl (by kernel_rfl) (callS.mono h fun v10 vw9 h=>?_))
   obtain ⟨rfl, h⟩ := h
   refine vcL_nil ?_
   refine Vc.region ?_
   refine vcL_purs 3 [(37, (Value.agg #[(Value.string (ByteArray.mk #[])), (Value.int .i64 0), (Value.int .i64 0), (Value.int .i64 0), (Sl.v Sl.nil), (Sl.v Sl.nil), (Sl.v Sl.nil)])), (36, (Value.int .i64 i)), (35, (Sl.v a))] (by kernel_rfl) ?_
   obtain ⟨ad12, hi13, h⟩ := h
   refine vcL_pure rfl rfl (Value.pointer (some (ad12.add (i.toNat * 7)))) (fun w=>by exact exec_indexAt (s := a) (el := 48) rfl (by kernel_rfl) (by kernel_rfl) (by kernel_rfl) (fun w=>by kernel_rfl) (hi13).1 (hi13).2.1 (hi13).2.2 w) ?_
   refine vcL_eff rfl (opVC_store rfl rfl (a := (ad12.add (i.toNat * 7))) (by kernel_rfl) (v := (Value.agg #[(Value.string (ByteArray.mk #[])), (Value.int .i64 0), (Value.int .i64 0), (Value.int .i64 0), (Sl.v Sl.nil), (Sl.v Sl.nil), (Sl.v Sl.nil)])) (by kernel_rfl) [(Value.string (ByteArray.mk #[])), (Value.int .i64 0), (Value.int .i64 0), (Value.int .i64 0), (Sl.v Sl.nil), (Sl.v Sl.nil), (Sl.v Sl.nil)] (by kernel_rfl) (fun w=>by kernel_rfl) (by kernel_rfl) (stw.mono h fun vw14 h=>?_))
   refine vcL_nil ?_
   refine Vc.region ?_
   refine vcL_purs 3 [(6, (Value.int .i64 (wrapI (i + 1)))), (17, (Value.int .i64 (wrapI (i + 1)))), (16, (Value.int .i64 i))] (by kernel_rfl) ?_
   refine vcL_nil ?_
   exact ⟨((same && t28), (wrapI (i + 1))), 58, ⟨rfl, by kernel_rfl, by kernel_rfl, by kernel_rfl⟩, h⟩
  ·obtain ⟨t28, rfl, hq⟩ := hq
   exact ⟨fun hb=>absurd hb (by decide), t28, rfl, hq⟩
 ·have h := h.2 (of_decide_eq_false hb)
  refine Vc.exit ?_
  refine outOf_hit ?_
  refine Vc.seq ?_
  refine Vc.region ?_
  refine vcL_purs 2 [(4, (Value.bool same)), (39, (Value.bool same))] (by kernel_rfl) ?_
  refine vcL_nil ?_
  refine Vc.ret ?_
  refine outs_ret ?_
  refine done_mk (Value.bool same) (res1 (resC_tmp (by kernel_rfl))) ?_
  exact ⟨same, rfl, h⟩
theorem halyardlaw08_packages.go {a : Sl} {b : Sl} {w : World} {k : Value → World → Prop} (h : halyardlaw08_packages a b w fun r0 w'=>k (Value.bool r0) w') : callS Tryz.prog 30 [(Sl.v a), (Sl.v b)] w k := (halyardlaw08_packages.sound a b w _ h).mono (by rintro _ _ ⟨r0, rfl, h⟩; exact h)
end Go.Hal.SE
