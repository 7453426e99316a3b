/- Lemmas for the claim K11o: how the program's functions run, and what they answer; no condition but those that each theorem names. -/
import Derived.Test.YtcnoablfimcajaaGreatDoorProg
import Derived.Test.YtcnoablfimcajaaGreatDoorK11oA0
set_option linter.unusedVariables false
set_option linter.unusedSimpArgs false
namespace Go.Hal.SE
open Go Go.RowKit Go.Hal Go.Proofs
set_option maxRecDepth 100000
namespace Eq0
theorem eqv_46 (d : Nat) (a0 : Int) (a1 : Int) (a2 : Int) (b0 : Int) (b1 : Int) (b2 : Int) (w : World) : (Op.equalIn (d + 2) 46 (.agg #[(Value.int .i64 a0), (Value.int .i64 a1), (Value.int .i64 a2)]) (.agg #[(Value.int .i64 b0), (Value.int .i64 b1), (Value.int .i64 b2)])).run Tryz.prog w = .ok ((a0 == b0) && ((a1 == b1) && ((a2 == b2) && true))) w :=
 (eqS (by kernel_rfl) (by kernel_rfl) (fs := [⟨ "Major", 3, 0, false, "", "", 0⟩, ⟨ "Minor", 3, 1, false, "", "", 8⟩, ⟨ "Patch", 3, 2, false, "", "", 16⟩]) (by kernel_rfl) (eqF_cons (x := (Value.int .i64 a0)) (y := (Value.int .i64 b0)) rfl (by kernel_rfl) (by kernel_rfl) (run_equalIn_int w _ 3 .i64 .i64 a0 b0 (by kernel_rfl)) (eqF_cons (x := (Value.int .i64 a1)) (y := (Value.int .i64 b1)) rfl (by kernel_rfl) (by kernel_rfl) (run_equalIn_int w _ 3 .i64 .i64 a1 b1 (by kernel_rfl)) (eqF_cons (x := (Value.int .i64 a2)) (y := (Value.int .i64 b2)) rfl (by kernel_rfl) (by kernel_rfl) (run_equalIn_int w _ 3 .i64 .i64 a2 b2 (by kernel_rfl)) eqF_nil))))
theorem eqv_67 (d : Nat) (a0 : ByteArray) (a1 : Int) (a2 : Int) (a3 : Int) (b0 : ByteArray) (b1 : Int) (b2 : Int) (b3 : Int) (w : World) : (Op.equalIn (d + 3) 67 (.agg #[(Value.string a0), (Value.int .i64 a1), (Value.int .i64 a2), (Value.int .i64 a3)]) (.agg #[(Value.string b0), (Value.int .i64 b1), (Value.int .i64 b2), (Value.int .i64 b3)])).run Tryz.prog w = .ok ((bEq a0 b0) && (((a1 == b1) && ((a2 == b2) && ((a3 == b3) && true))) && true)) w :=
 (eqS (by kernel_rfl) (by kernel_rfl) (fs := [⟨ "Name", 9, 0, false, "", "", 0⟩, ⟨ "Version", 46, 1, false, "", "", 16⟩]) (by kernel_rfl) (eqF_cons (x := (Value.string a0)) (y := (Value.string b0)) rfl (by kernel_rfl) (by kernel_rfl) (run_equalIn_string w _ 9 a0 b0 (by kernel_rfl)) (eqF_cons (x := (Value.agg #[(Value.int .i64 a1), (Value.int .i64 a2), (Value.int .i64 a3)])) (y := (Value.agg #[(Value.int .i64 b1), (Value.int .i64 b2), (Value.int .i64 b3)])) rfl (by kernel_rfl) (by kernel_rfl) (eqS (by kernel_rfl) (by kernel_rfl) (fs := [⟨ "Major", 3, 0, false, "", "", 0⟩, ⟨ "Minor", 3, 1, false, "", "", 8⟩, ⟨ "Patch", 3, 2, false, "", "", 16⟩]) (by kernel_rfl) (eqF_cons (x := (Value.int .i64 a1)) (y := (Value.int .i64 b1)) rfl (by kernel_rfl) (by kernel_rfl) (run_equalIn_int w _ 3 .i64 .i64 a1 b1 (by kernel_rfl)) (eqF_cons (x := (Value.int .i64 a2)) (y := (Value.int .i64 b2)) rfl (by kernel_rfl) (by kernel_rfl) (run_equalIn_int w _ 3 .i64 .i64 a2 b2 (by kernel_rfl)) (eqF_cons (x := (Value.int .i64 a3)) (y := (Value.int .i64 b3)) rfl (by kernel_rfl) (by kernel_rfl) (run_equalIn_int w _ 3 .i64 .i64 a3 b3 (by kernel_rfl)) eqF_nil)))) eqF_nil)))
theorem eqv_90 (d : Nat) (a0 : ByteArray) (a1 : Int) (b0 : ByteArray) (b1 : Int) (w : World) : (Op.equalIn (d + 2) 90 (.agg #[(Value.string a0), (Value.int .i64 a1)]) (.agg #[(Value.string b0), (Value.int .i64 b1)])).run Tryz.prog w = .ok ((bEq a0 b0) && ((a1 == b1) && true)) w :=
 (eqS (by kernel_rfl) (by kernel_rfl) (fs := [⟨ "Label", 9, 0, false, "", "", 0⟩, ⟨ "To", 3, 1, false, "", "", 16⟩]) (by kernel_rfl) (eqF_cons (x := (Value.string a0)) (y := (Value.string b0)) rfl (by kernel_rfl) (by kernel_rfl) (run_equalIn_string w _ 9 a0 b0 (by kernel_rfl)) (eqF_cons (x := (Value.int .i64 a1)) (y := (Value.int .i64 b1)) rfl (by kernel_rfl) (by kernel_rfl) (run_equalIn_int w _ 3 .i64 .i64 a1 b1 (by kernel_rfl)) eqF_nil)))
end Eq0
open Eq0
def halyardlaw11_ResolveOrder (zz29 : Sl) (zz25 : Sl) (zz26 : Sl) (zz27 : Sl) (zz28 : Sl) (zz20 : Bool) (zz2a : Sl) (zz21 : Int) (zz23 : Int) (zz22 : Int) (zz24 : Int) (w : World) (R : Bool → World → Prop) : Prop :=
 newS w [(Sl.v zz29), (Sl.v zz25), (Sl.v zz26), (Sl.v zz27), (Sl.v zz28), (Value.bool zz20), (Sl.v zz2a), (Value.int .i64 zz21), (Value.int .i64 zz23), (Value.int .i64 zz22), (Value.int .i64 zz24)] 30 fun a vw=>∃ (zz8c : Sl) (zz86 : Sl) (zz87 : Sl) (zz88 : Sl) (zz89 : Sl) (zz3g : Bool) (zz8f : Sl) (zz81 : Int) (zz83 : Int) (zz82 : Int) (zz84 : Int), (ldc vw a [(Sl.v zz8c), (Sl.v zz86), (Sl.v zz87), (Sl.v zz88), (Sl.v zz89), (Value.bool zz3g), (Sl.v zz8f), (Value.int .i64 zz81), (Value.int .i64 zz83), (Value.int .i64 zz82), (Value.int .i64 zz84)]) ∧ callS Tryz.prog 11 [(Value.agg #[(Sl.v zz8c), (Sl.v zz86), (Sl.v zz87), (Sl.v zz88), (Sl.v zz89), (Value.bool zz3g), (Sl.v zz8f), (Value.int .i64 zz81), (Value.int .i64 zz83), (Value.int .i64 zz82), (Value.int .i64 zz84)])] vw fun v vw1=>∃ (t16 : Option Addr) (t16b : Option Addr), v = (Value.tuple #[(Value.pointer t16), (Value.pointer t16b)]) ∧ callS Tryz.prog 19 [] vw1 fun v3 vw2=>∃ (t19 : Option Addr), v3 = (Value.pointer t19) ∧ bnd (Option.isNone t16) fun (b : Bool)=>bnd (b || (Option.isNone t19)) fun (b5 : Bool)=>gCall (!b5) (fun (t27 : Bool) (vw6 : World)=>(((b5 || (!t27)) = true → R false vw6) ∧ ((b5 || (!t27)) = false → callS Tryz.prog 22 [(Value.pointer t16)] vw6 fun v10 vw9=>∃ (t31 : Sl), v10 = (Sl.v t31) ∧ loop1 (wrapI ((t31.len : Int) - 1)) vw9 fun i vw12 nxt=>((0 ≤ i → ∃ (ad : Addr), (t31.a = some ad ∧ (0 : Int) ≤ i ∧ i < (t31.len : Int)) ∧ ∃ (zz4o : ByteArray) (zz4r : Int) (zz4s : Int) (zz4t : Int) (zz4n : Sl) (zz4q : Sl) (zz4p : Sl), (ldc vw12 (ad.add (i.toNat * 7)) [(Value.string zz4o), (Value.int .i64 zz4r), (Value.int .i64 zz4s), (Value.int .i64 zz4t), (Sl.v zz4n), (Sl.v zz4q), (Sl.v zz4p)]) ∧ callS Tryz.prog 16 [(Value.pointer t19), (Value.agg #[(Value.string zz4o), (Value.int .i64 zz4r), (Value.int .i64 zz4s), (Value.int .i64 zz4t), (Sl.v zz4n), (Sl.v zz4q), (Sl.v zz4p)])] vw12 fun v15 vw14=>∃ (t44 : Int), v15 = (Value.int .i64 t44) ∧ nxt (wrapI (i - 1)) vw14) ∧ (¬ (0 ≤ i) → ∃ (zzb6 : Sl) (zzb7 : Sl) (zzb8 : Sl) (zzb9 : Sl), (ldc vw12 (a.add 1) [(Sl.v zzb6), (Sl.v zzb7), (Sl.v zzb8), (Sl.v zzb9)]) ∧ ∃ (t50 : Bool), (ldc vw12 (a.add 5) [(Value.bool t50)]) ∧ ∃ (t52 : Sl), (ldc vw12 (a.add 6) [(Sl.v t52)]) ∧ ∃ (zzbo : Int) (zzbq : Int) (zzbp : Int) (zzbr : Int), (ldc vw12 (a.add 7) [(Value.int .i64 zzbo), (Value.int .i64 zzbq), (Value.int .i64 zzbp), (Value.int .i64 zzbr)]) ∧ callS Tryz.prog 13 [(Value.pointer t16), (Value.agg #[(Sl.v zzb6), (Sl.v zzb7), (Sl.v zzb8), (Sl.v zzb9)]), (Value.bool t50), (Sl.v t52), (Value.agg #[(Value.int .i64 zzbo), (Value.int .i64 zzbq), (Value.int .i64 zzbp), (Value.int .i64 zzbr)])] vw12 fun v22 vw21=>∃ (zzbs : Sl) (t55b : Int) (t55c : Int), v22 = (Value.tuple #[(Value.agg #[(Sl.v zzbs)]), (Value.int .i64 t55b), (Value.int .i64 t55c)]) ∧ newS vw21 [(Sl.v Sl.nil)] 38 fun a24 vw25=>stw vw25 a24 [(Sl.v zzbs)] fun vw26=>∃ (zzc4 : Sl) (zzc5 : Sl) (zzc6 : Sl) (zzc7 : Sl), (ldc vw26 (a.add 1) [(Sl.v zzc4), (Sl.v zzc5), (Sl.v zzc6), (Sl.v zzc7)]) ∧ ∃ (t64 : Bool), (ldc vw26 (a.add 5) [(Value.bool t64)]) ∧ ∃ (t66 : Sl), (ldc vw26 (a.add 6) [(Sl.v t66)]) ∧ ∃ (zzc8 : Int) (zzca : Int) (zzc9 : Int) (zzcb : Int), (ldc vw26 (a.add 7) [(Value.int .i64 zzc8), (Value.int .i64 zzca), (Value.int .i64 zzc9), (Value.int .i64 zzcb)]) ∧ callS Tryz.prog 13 [(Value.pointer t19), (Value.agg #[(Sl.v zzc4), (Sl.v zzc5), (Sl.v zzc6), (Sl.v zzc7)]), (Value.bool t64), (Sl.v t66), (Value.agg #[(Value.int .i64 zzc8), (Value.int .i64 zzca), (Value.int .i64 zzc9), (Value.int .i64 zzcb)])] vw26 fun v32 vw31=>∃ (zzce : Sl) (t69b : Int) (t69c : Int), v32 = (Value.tuple #[(Value.agg #[(Sl.v zzce)]), (Value.int .i64 t69b), (Value.int .i64 t69c)]) ∧ newS vw31 [(Sl.v Sl.nil)] 38 fun a34 vw35=>stw vw35 a34 [(Sl.v zzce)] fun vw36=>∃ (zzcn : Sl), (ldc vw36 a24 [(Sl.v zzcn)]) ∧ ∃ (zzcq : Sl), (ldc vw36 a34 [(Sl.v zzcq)]) ∧ callS Tryz.prog 15 [(Value.agg #[(Sl.v zzcn)]), (Value.agg #[(Sl.v zzcq)])] vw36 fun v40 vw39=>∃ (t75 : Bool), v40 = (Value.bool t75) ∧ bnd (t75 && (t55b == t69b)) fun (b42 : Bool)=>R (b42 && (t55c == t69c)) vw39))))) (fun q=>callS Tryz.prog 12 [] vw2 fun v7 vw6=>∃ (t27 : Bool), v7 = (Value.bool t27) ∧ q t27 vw6) (fun q=>q false vw2)
theorem halyardlaw11_ResolveOrder.go {zz29 : Sl} {zz25 : Sl} {zz26 : Sl} {zz27 : Sl} {zz28 : Sl} {zz20 : Bool} {zz2a : Sl} {zz21 : Int} {zz23 : Int} {zz22 : Int} {zz24 : Int} {w : World} {k : Value → World → Prop} (h : halyardlaw11_ResolveOrder zz29 zz25 zz26 zz27 zz28 zz20 zz2a zz21 zz23 zz22 zz24 w fun r0 w'=>k (Value.bool r0) w') : callS Tryz.prog 8 [(Value.agg #[(Sl.v zz29), (Sl.v zz25), (Sl.v zz26), (Sl.v zz27), (Sl.v zz28), (Value.bool zz20), (Sl.v zz2a), (Value.int .i64 zz21), (Value.int .i64 zz23), (Value.int .i64 zz22), (Value.int .i64 zz24)])] w k := rgo (sk := (.s (.r []) (.s (.r []) (.s (.r []) (.s (.s (.r []) (.c (.s (.r []) .o) .o)) (.s (.r []) (.s (.s (.r []) (.b (.l [(7, 4)] (.s (.s (.r []) (.c .o .o)) (.s (.b (.r [])) (.r [])))))) (.s (.r []) (.s (.r []) (.s (.r [76]) .o)))))))))) (args := [sv (Value.agg #[(Sl.v zz29), (Sl.v zz25), (Sl.v zz26), (Sl.v zz27), (Sl.v zz28), (Value.bool zz20), (Sl.v zz2a), (Value.int .i64 zz21), (Value.int .i64 zz23), (Value.int .i64 zz22), (Value.int .i64 zz24)])]) Tryz.func8 (Eq.mpr (by kernel_rfl) h)
def halyardlaw11_World_both (zz29 : Sl) (zz25 : Sl) (zz26 : Sl) (zz27 : Sl) (zz28 : Sl) (zz20 : Bool) (zz2a : Sl) (zz21 : Int) (zz23 : Int) (zz22 : Int) (zz24 : Int) (w : World) (R : Option Addr → Option Addr → World → Prop) : Prop :=
 newS w [(Sl.v zz29), (Sl.v zz25), (Sl.v zz26), (Sl.v zz27), (Sl.v zz28), (Value.bool zz20), (Sl.v zz2a), (Value.int .i64 zz21), (Value.int .i64 zz23), (Value.int .i64 zz22), (Value.int .i64 zz24)] 30 fun a vw=>callS Tryz.prog 19 [] vw fun v vw1=>∃ (t7 : Option Addr), v = (Value.pointer t7) ∧ newS vw1 [(Sl.v Sl.nil)] 51 fun a2 vw3=>loop1 0 vw3 fun i vw4 nxt=>∃ (t12 : Sl), (ldc vw4 a [(Sl.v t12)]) ∧ bnd (decide (i < (t12.len : Int))) fun (b : Bool)=>(((b && (!(Option.isNone t7))) = true → ∃ (t23 : Sl), (ldc vw4 a [(Sl.v t23)]) ∧ ∃ (ad : Addr), (t23.a = some ad ∧ (0 : Int) ≤ i ∧ i < (t23.len : Int)) ∧ ∃ (zz90 : ByteArray) (zz93 : Int) (zz94 : Int) (zz95 : Int) (zz8z : Sl) (zz92 : Sl) (zz91 : Sl), (ldc vw4 (ad.add (i.toNat * 7)) [(Value.string zz90), (Value.int .i64 zz93), (Value.int .i64 zz94), (Value.int .i64 zz95), (Sl.v zz8z), (Sl.v zz92), (Sl.v zz91)]) ∧ callS Tryz.prog 16 [(Value.pointer t7), (Value.agg #[(Value.string zz90), (Value.int .i64 zz93), (Value.int .i64 zz94), (Value.int .i64 zz95), (Sl.v zz8z), (Sl.v zz92), (Sl.v zz91)])] vw4 fun v8 vw7=>∃ (t27 : Int), v8 = (Value.int .i64 t27) ∧ ∃ (t30 : Sl), (ldc vw7 a [(Sl.v t30)]) ∧ ∃ (ad11 : Addr), (t30.a = some ad11 ∧ (0 : Int) ≤ i ∧ i < (t30.len : Int)) ∧ ∃ (zz4d : ByteArray) (zz4e : Int) (zz4f : Int) (zz4g : Int) (zz9g : Sl) (zz9j : Sl) (zz9i : Sl), (ldc vw7 (ad11.add (i.toNat * 7)) [(Value.string zz4d), (Value.int .i64 zz4e), (Value.int .i64 zz4f), (Value.int .i64 zz4g), (Sl.v zz9g), (Sl.v zz9j), (Sl.v zz9i)]) ∧ callS Tryz.prog 24 [(Value.pointer (some a2)), (Value.agg #[(Value.string zz4d), (Value.int .i64 zz4e), (Value.int .i64 zz4f), (Value.int .i64 zz4g), (Sl.v zz9g), (Sl.v zz9j), (Sl.v zz9i)])] vw7 fun v15 vw14=>∃ (t34 : Int), v15 = (Value.int .i64 t34) ∧ nxt (wrapI (i + 1)) vw14) ∧ ((b && (!(Option.isNone t7))) = false → R t7 (some a2) vw4))
theorem halyardlaw11_World_both.go {zz29 : Sl} {zz25 : Sl} {zz26 : Sl} {zz27 : Sl} {zz28 : Sl} {zz20 : Bool} {zz2a : Sl} {zz21 : Int} {zz23 : Int} {zz22 : Int} {zz24 : Int} {w : World} {k : Value → World → Prop} (h : halyardlaw11_World_both zz29 zz25 zz26 zz27 zz28 zz20 zz2a zz21 zz23 zz22 zz24 w fun r0 r1 w'=>k (Value.tuple #[(Value.pointer r0), (Value.pointer r1)]) w') : callS Tryz.prog 11 [(Value.agg #[(Sl.v zz29), (Sl.v zz25), (Sl.v zz26), (Sl.v zz27), (Sl.v zz28), (Value.bool zz20), (Sl.v zz2a), (Value.int .i64 zz21), (Value.int .i64 zz23), (Value.int .i64 zz22), (Value.int .i64 zz24)])] w k := rgo (sk := (.s (.r []) (.s (.r []) (.s (.r []) (.s (.s (.r []) (.b (.l [(6, 4)] (.s (.s (.r []) (.c .o .o)) (.s (.b (.s (.r []) (.r []))) (.r [])))))) (.s (.r []) .o)))))) (args := [sv (Value.agg #[(Sl.v zz29), (Sl.v zz25), (Sl.v zz26), (Sl.v zz27), (Sl.v zz28), (Value.bool zz20), (Sl.v zz2a), (Value.int .i64 zz21), (Value.int .i64 zz23), (Value.int .i64 zz22), (Value.int .i64 zz24)])]) Tryz.func11 (Eq.mpr (by kernel_rfl) h)
def halyardlaw11_known (w : World) (R : Bool → World → Prop) : Prop :=
 callS Tryz.prog 19 [] w fun v vw=>∃ (t7 : Option Addr), v = (Value.pointer t7) ∧ ((t7 = none → R false vw) ∧ (¬ (t7 = none) → newS vw [(Value.int .i64 0), (Value.int .i64 0), (Value.int .i64 0)] 46 fun a vw1=>stw vw1 a [(Value.int .i64 1), (Value.int .i64 0), (Value.int .i64 0)] fun vw2=>∃ (zz7h : Int) (zz7i : Int) (zz7l : Int), (ldc vw2 a [(Value.int .i64 zz7h), (Value.int .i64 zz7i), (Value.int .i64 zz7l)]) ∧ callS Tryz.prog 16 [(Value.pointer t7), (Value.agg #[(Value.string (ByteArray.mk #[97])), (Value.int .i64 zz7h), (Value.int .i64 zz7i), (Value.int .i64 zz7l), (Sl.v Sl.nil), (Sl.v Sl.nil), (Sl.v Sl.nil)])] vw2 fun v4 vw3=>∃ (t14 : Int), v4 = (Value.int .i64 t14) ∧ newS vw3 [(Value.int .i64 0), (Value.int .i64 0), (Value.int .i64 0), (Value.int .i64 999), (Value.int .i64 999), (Value.int .i64 999)] 72 fun a6 vw7=>newS vw7 [(Value.string (ByteArray.mk #[97])), (Sl.v (Sl.mk (some a6) 1 1))] 74 fun a8 vw9=>callS Tryz.prog 13 [(Value.pointer t7), (Value.agg #[(Sl.v (Sl.mk (some a8) 1 1)), (Sl.v Sl.nil), (Sl.v Sl.nil), (Sl.v Sl.nil)]), (Value.bool true), (Sl.v Sl.nil), (Value.agg #[(Value.int .i64 9), (Value.int .i64 9), (Value.int .i64 0), (Value.int .i64 0)])] vw9 fun v11 vw10=>∃ (zz8y : Sl) (t25b : Int) (t25c : Int), v11 = (Value.tuple #[(Value.agg #[(Sl.v zz8y)]), (Value.int .i64 t25b), (Value.int .i64 t25c)]) ∧ newS vw10 [(Sl.v Sl.nil)] 38 fun a13 vw14=>stw vw14 a13 [(Sl.v zz8y)] fun vw15=>bnd vw15.drew fun (vw16 : World)=>bnd (t25c == 0) fun (b : Bool)=>bnd (b && (t25b == 1)) fun (b17 : Bool)=>∃ (t37 : Sl), grd b17 (ldc vw16 a13 [(Sl.v t37)]) ∧ bnd (b17 && ((t37.len : Int) == 2)) fun (b19 : Bool)=>∃ (t43 : Sl), grd b19 (ldc vw16 a13 [(Sl.v t43)]) ∧ ∃ (ad : Addr), grd b19 (t43.a = some ad ∧ (0 : Int) ≤ 1 ∧ 1 < (t43.len : Int)) ∧ ∃ (zzaw : Int) (zzax : Int) (zzay : Int), grd b19 (ldc vw16 ((ad.add ((1 : Int).toNat * 6)).add 1) [(Value.int .i64 zzaw), (Value.int .i64 zzax), (Value.int .i64 zzay)]) ∧ ∃ (zzb1 : Int) (zzb2 : Int) (zzb5 : Int), grd b19 (ldc vw16 a [(Value.int .i64 zzb1), (Value.int .i64 zzb2), (Value.int .i64 zzb5)]) ∧ bnd (b19 && ((zzaw == zzb1) && ((zzax == zzb2) && ((zzay == zzb5) && true)))) fun (b23 : Bool)=>∃ (t52 : Sl), grd b23 (ldc vw16 a13 [(Sl.v t52)]) ∧ ∃ (ad25 : Addr), grd b23 (t52.a = some ad25 ∧ (0 : Int) ≤ 0 ∧ 0 < (t52.len : Int)) ∧ ∃ (t55 : Sl), grd b23 (ldc vw16 ((ad25.add ((0 : Int).toNat * 6)).add 5) [(Sl.v t55)]) ∧ R (b23 && ((t55.len : Int) == 1)) vw16))
theorem halyardlaw11_known.go {w : World} {k : Value → World → Prop} (h : halyardlaw11_known w fun r0 w'=>k (Value.bool r0) w') : callS Tryz.prog 12 [] w k := rgo (sk := (.s (.r []) (.s (.r []) (.s (.s (.r []) (.c (.s (.r []) .o) .o)) (.s (.r []) (.s (.r []) (.s (.r []) (.s (.r []) (.s (.r []) .o))))))))) (args := []) Tryz.func12 (Eq.mpr (by kernel_rfl) h)
def resolve_Run (c : Option Addr) (zz5 : Sl) (zz6 : Sl) (zz7 : Sl) (zz8 : Sl) (dev : Bool) (pins : Sl) (zz2d : Int) (zz2f : Int) (zz2e : Int) (zz2g : Int) (w : World) (R : Sl → Int → Int → World → Prop) : Prop :=
 newS w [(Sl.v zz5), (Sl.v zz6), (Sl.v zz7), (Sl.v zz8)] 25 fun a vw=>newS vw [(Value.int .i64 zz2d), (Value.int .i64 zz2f), (Value.int .i64 zz2e), (Value.int .i64 zz2g)] 28 fun a1 vw2=>newS vw2 [(Sl.v Sl.nil)] 38 fun a3 vw4=>gotos2 (fun nxt=>bnd (Option.isNone c) fun (b : Bool)=>∃ (zz5q : Sl) (zz5r : Sl) (zz5s : Sl) (zz5t : Sl), grd (!b) (ldc vw4 a [(Sl.v zz5q), (Sl.v zz5r), (Sl.v zz5s), (Sl.v zz5t)]) ∧ gCall (!b) (fun (t21 : Bool) (vw5 : World)=>bnd (b || (!t21)) fun (b6 : Bool)=>∃ (t26 : Int), grd (!b6) (ldc vw5 a1 [(Value.int .i64 t26)]) ∧ bnd (b6 || (decide (t26 < 1))) fun (b8 : Bool)=>∃ (t31 : Int), grd (!b8) (ldc vw5 a1 [(Value.int .i64 t31)]) ∧ bnd (b8 || (decide (4096 < t31))) fun (b10 : Bool)=>∃ (t36 : Int), grd (!b10) (ldc vw5 (a1.add 1) [(Value.int .i64 t36)]) ∧ bnd (b10 || (decide (t36 < 1))) fun (b12 : Bool)=>∃ (t41 : Int), grd (!b12) (ldc vw5 (a1.add 1) [(Value.int .i64 t41)]) ∧ (((b12 || (decide (128 < t41))) = true → stw vw5 a3 [(Sl.v Sl.nil)] fun vw14=>∃ (zz0 : Sl), ldc vw14 a3 [(Sl.v zz0)] ∧ R zz0 0 1 vw14) ∧ ((b12 || (decide (128 < t41))) = false → ∃ (zz1r : Sl) (zz4u : Sl) (zz1s : Sl) (zz4w : Sl), (ldc vw5 a [(Sl.v zz1r), (Sl.v zz4u), (Sl.v zz1s), (Sl.v zz4w)]) ∧ newS vw5 [(Value.string (ByteArray.mk #[])), (Value.int .i64 0), (Value.int .i64 0), (Value.int .i64 0), (Sl.v Sl.nil), (Sl.v Sl.nil)] 65 fun a17 vw18=>newS vw18 [(Value.pointer c), (Sl.v zz1r), (Sl.v zz4u), (Sl.v zz1s), (Sl.v zz4w), (Value.bool dev), (Sl.v pins), (Sl.v Sl.nil), (Sl.v (Sl.mk (some a17) 1 1)), (Sl.v Sl.nil), (Sl.v Sl.nil), (Value.int .i64 0)] 79 fun a19 vw20=>callS Tryz.prog 26 [(Value.pointer (some a19))] vw20 fun v22 vw21=>v22 = (Value.tuple #[]) ∧ bnd vw21.drew fun (vw24 : World)=>∃ (t58 : Sl), (ldc vw24 (a19.add 7) [(Sl.v t58)]) ∧ ∃ (t63 : Int), (ldc vw24 (a19.add 11) [(Value.int .i64 t63)]) ∧ ∃ (t69 : Sl), (ldc vw24 (a19.add 10) [(Sl.v t69)]) ∧ (((wrapI ((t58.len : Int) - t63)) < (t69.len : Int) → bnd vw24.drew fun (vw28 : World)=>∃ (t76 : Sl), (ldc vw28 (a19.add 7) [(Sl.v t76)]) ∧ ∃ (t81 : Sl), (ldc vw28 (a19.add 10) [(Sl.v t81)]) ∧ ∃ (ad : Addr), (t81.a = some ad ∧ (0 : Int) ≤ (wrapI ((t58.len : Int) - t63)) ∧ (wrapI ((t58.len : Int) - t63)) < (t81.len : Int)) ∧ ∃ (zzx : ByteArray) (zz2b : Int) (zz2c : Sl), (ldc vw28 (ad.add ((wrapI ((t58.len : Int) - t63)).toNat * 3)) [(Value.string zzx), (Value.int .i64 zz2b), (Sl.v zz2c)]) ∧ callX Tryz.prog 27 [(Value.pointer (some a19)), (Value.agg #[(Value.string zzx), (Value.int .i64 zz2b), (Sl.v zz2c)])] vw28 fun v33 vw32=>∃ (t85_node : Int) (t85_name : ByteArray) (t85_versions : Sl) (t85_none : Bool) (t85_at : Int), v33 = (Value.agg #[(Value.int .i64 t85_node), (Value.string t85_name), (Sl.v t85_versions), (Value.bool t85_none), (Value.int .i64 t85_at)]) ∧ newS vw32 [(Value.int .i64 t85_node), (Value.string t85_name), (Sl.v t85_versions), (Value.bool t85_none), (Value.int .i64 t85_at)] 81 fun a35 vw36=>appS Tryz.prog 76 76 t76 (Sl.v (Sl.mk (some a35) 1 1)) vw36 fun t87 vw37=>stw vw37 (a19.add 7) [(Sl.v t87)] fun vw38=>nxt 0 (some a19) 0 vw38) ∧ (¬ ((wrapI ((t58.len : Int) - t63)) < (t69.len : Int)) → ∃ (t92 : Int), (ldc vw24 (a1.add 1) [(Value.int .i64 t92)]) ∧ callS Tryz.prog 28 [(Value.pointer (some a19)), (Value.int .i64 t92)] vw24 fun v41 vw40=>∃ (t93 : Int), v41 = (Value.int .i64 t93) ∧ ((t93 = 33 → nxt 2 (some a19) 0 vw40) ∧ (¬ (t93 = 33) → ((t93 = 32 → stw vw40 a3 [(Sl.v Sl.nil)] fun vw43=>∃ (zz36 : Sl), ldc vw43 a3 [(Sl.v zz36)] ∧ R zz36 0 32 vw43) ∧ (¬ (t93 = 32) → bnd vw40.drew fun (vw46 : World)=>∃ (t102 : Sl), (ldc vw46 (a19.add 9) [(Sl.v t102)]) ∧ ∃ (t107 : Sl), (ldc vw46 (a19.add 8) [(Sl.v t107)]) ∧ (((t102.len : Int) = (t107.len : Int) → ∃ (t113 : Sl), (ldc vw46 (a19.add 8) [(Sl.v t113)]) ∧ stw vw46 a3 [(Sl.v t113)] fun vw50=>∃ (zz37 : Sl), ldc vw50 a3 [(Sl.v zz37)] ∧ R zz37 0 0 vw50) ∧ (¬ ((t102.len : Int) = (t107.len : Int)) → callS Tryz.prog 26 [(Value.pointer (some a19))] vw46 fun v54 vw53=>v54 = (Value.tuple #[]) ∧ nxt 1 (some a19) 0 vw53))))))))))) (fun q=>callS Tryz.prog 25 [(Value.agg #[(Sl.v zz5q), (Sl.v zz5r), (Sl.v zz5s), (Sl.v zz5t)])] vw4 fun v vw5=>∃ (t21 : Bool), v = (Value.bool t21) ∧ q t21 vw5) (fun q=>q false vw4)) fun l vs decisions vw56 nxt57=>((l = 1 → bnd vw56.drew fun (vw58 : World)=>∃ (p : Addr), (vs = some p) ∧ ∃ (t5859 : Sl), (ldc vw58 (p.add 7) [(Sl.v t5859)]) ∧ ∃ (p61 : Addr), (vs = some p61) ∧ ∃ (t6363 : Int), (ldc vw58 (p61.add 11) [(Value.int .i64 t6363)]) ∧ ∃ (p65 : Addr), (vs = some p65) ∧ ∃ (t6967 : Sl), (ldc vw58 (p65.add 10) [(Sl.v t6967)]) ∧ (((wrapI ((t5859.len : Int) - t6363)) < (t6967.len : Int) → bnd vw58.drew fun (vw69 : World)=>∃ (p70 : Addr), (vs = some p70) ∧ ∃ (t7672 : Sl), (ldc vw69 (p70.add 7) [(Sl.v t7672)]) ∧ ∃ (p74 : Addr), (vs = some p74) ∧ ∃ (t8176 : Sl), (ldc vw69 (p74.add 10) [(Sl.v t8176)]) ∧ ∃ (ad78 : Addr), (t8176.a = some ad78 ∧ (0 : Int) ≤ (wrapI ((t5859.len : Int) - t6363)) ∧ (wrapI ((t5859.len : Int) - t6363)) < (t8176.len : Int)) ∧ ∃ (zz5y : ByteArray) (zz5x : Int) (zz5z : Sl), (ldc vw69 (ad78.add ((wrapI ((t5859.len : Int) - t6363)).toNat * 3)) [(Value.string zz5y), (Value.int .i64 zz5x), (Sl.v zz5z)]) ∧ callX Tryz.prog 27 [(Value.pointer vs), (Value.agg #[(Value.string zz5y), (Value.int .i64 zz5x), (Sl.v zz5z)])] vw69 fun v90 vw84=>∃ (t85_node85 : Int) (t85_name86 : ByteArray) (t85_versions87 : Sl) (t85_none88 : Bool) (t85_at89 : Int), v90 = (Value.agg #[(Value.int .i64 t85_node85), (Value.string t85_name86), (Sl.v t85_versions87), (Value.bool t85_none88), (Value.int .i64 t85_at89)]) ∧ newS vw84 [(Value.int .i64 t85_node85), (Value.string t85_name86), (Sl.v t85_versions87), (Value.bool t85_none88), (Value.int .i64 t85_at89)] 81 fun a92 vw93=>appS Tryz.prog 76 76 t7672 (Sl.v (Sl.mk (some a92) 1 1)) vw93 fun t8794 vw95=>∃ (p96 : Addr), (vs = some p96) ∧ stw vw95 (p96.add 7) [(Sl.v t8794)] fun vw98=>nxt57 0 vs decisions vw98) ∧ (¬ ((wrapI ((t5859.len : Int) - t6363)) < (t6967.len : Int)) → ∃ (t9299 : Int), (ldc vw58 (a1.add 1) [(Value.int .i64 t9299)]) ∧ callS Tryz.prog 28 [(Value.pointer vs), (Value.int .i64 t9299)] vw58 fun v103 vw101=>∃ (t93102 : Int), v103 = (Value.int .i64 t93102) ∧ ((t93102 = 33 → nxt57 2 vs decisions vw101) ∧ (¬ (t93102 = 33) → ((t93102 = 32 → stw vw101 a3 [(Sl.v Sl.nil)] fun vw105=>∃ (zz31 : Sl), ldc vw105 a3 [(Sl.v zz31)] ∧ R zz31 0 32 vw105) ∧ (¬ (t93102 = 32) → bnd vw101.drew fun (vw108 : World)=>∃ (p109 : Addr), (vs = some p109) ∧ ∃ (t102111 : Sl), (ldc vw108 (p109.add 9) [(Sl.v t102111)]) ∧ ∃ (p113 : Addr), (vs = some p113) ∧ ∃ (t107115 : Sl), (ldc vw108 (p113.add 8) [(Sl.v t107115)]) ∧ (((t102111.len : Int) = (t107115.len : Int) → ∃ (p117 : Addr), (vs = some p117) ∧ ∃ (t113119 : Sl), (ldc vw108 (p117.add 8) [(Sl.v t113119)]) ∧ stw vw108 a3 [(Sl.v t113119)] fun vw121=>∃ (zz32 : Sl), ldc vw121 a3 [(Sl.v zz32)] ∧ R zz32 decisions 0 vw121) ∧ (¬ ((t102111.len : Int) = (t107115.len : Int)) → callS Tryz.prog 26 [(Value.pointer vs)] vw108 fun v125 vw124=>v125 = (Value.tuple #[]) ∧ nxt57 1 vs decisions vw124))))))))) ∧ (l = 0 → bnd vw56.drew fun (vw127 : World)=>∃ (p128 : Addr), (vs = some p128) ∧ ∃ (t121 : Sl), (ldc vw127 (p128.add 7) [(Sl.v t121)]) ∧ ∃ (p131 : Addr), (vs = some p131) ∧ ∃ (t125 : Sl), (ldc vw127 (p131.add 7) [(Sl.v t125)]) ∧ ∃ (ad134 : Addr), (t121.a = some ad134 ∧ (0 : Int) ≤ (wrapI ((t125.len : Int) - 1)) ∧ (wrapI ((t125.len : Int) - 1)) < (t121.len : Int)) ∧ ∃ (t129_node : Int) (t129_name : ByteArray) (t129_versions : Sl) (t129_none : Bool) (t129_at : Int), (ldc vw127 (ad134.add ((wrapI ((t125.len : Int) - 1)).toNat * 5)) [(Value.int .i64 t129_node), (Value.string t129_name), (Sl.v t129_versions), (Value.bool t129_none), (Value.int .i64 t129_at)]) ∧ newS vw127 [(Value.int .i64 0), (Value.string (ByteArray.mk #[])), (Sl.v Sl.nil), (Value.bool false), (Value.int .i64 0)] 81 fun a137 vw138=>stw vw138 a137 [(Value.int .i64 t129_node), (Value.string t129_name), (Sl.v t129_versions), (Value.bool t129_none), (Value.int .i64 t129_at)] fun vw139=>bnd vw139.drew fun (vw140 : World)=>∃ (t131 : Int), (ldc vw140 (a137.add 4) [(Value.int .i64 t131)]) ∧ ∃ (t132_node : Int) (t132_name : ByteArray) (t132_versions : Sl) (t132_none : Bool) (t132_at : Int), (ldc vw140 a137 [(Value.int .i64 t132_node), (Value.string t132_name), (Sl.v t132_versions), (Value.bool t132_none), (Value.int .i64 t132_at)]) ∧ callX Tryz.prog 29 [(Value.agg #[(Value.int .i64 t132_node), (Value.string t132_name), (Sl.v t132_versions), (Value.bool t132_none), (Value.int .i64 t132_at)])] vw140 fun v144 vw143=>∃ (t133 : Int), v144 = (Value.int .i64 t133) ∧ ((t131 < t133 → ∃ (t137 : Int), (ldc vw143 a1 [(Value.int .i64 t137)]) ∧ ((decisions = t137 → stw vw143 a3 [(Sl.v Sl.nil)] fun vw147=>∃ (zz33 : Sl), ldc vw147 a3 [(Sl.v zz33)] ∧ R zz33 0 31 vw147) ∧ (¬ (decisions = t137) → nxt57 1 vs (wrapI (decisions + 1)) vw143))) ∧ (¬ (t131 < t133) → bnd vw143.drew fun (vw150 : World)=>∃ (p151 : Addr), (vs = some p151) ∧ ∃ (t146 : Sl), (ldc vw150 (p151.add 7) [(Sl.v t146)]) ∧ ∃ (p154 : Addr), (vs = some p154) ∧ ∃ (t150 : Sl), (ldc vw150 (p154.add 7) [(Sl.v t150)]) ∧ ((0 : Int) ≤ (wrapI ((t150.len : Int) - 1)) ∧ (wrapI ((t150.len : Int) - 1)) ≤ (t146.cap : Int)) ∧ ∃ (p158 : Addr), (vs = some p158) ∧ stw vw150 (p158.add 7) [(Sl.v (Sl.cut t146 0 ((wrapI ((t150.len : Int) - 1)).toNat) 5))] fun vw160=>∃ (p161 : Addr), (vs = some p161) ∧ ∃ (t159 : Sl), (ldc vw160 (p161.add 7) [(Sl.v t159)]) ∧ (((t159.len : Int) = 0 → stw vw160 a3 [(Sl.v Sl.nil)] fun vw164=>∃ (zz34 : Sl), ldc vw164 a3 [(Sl.v zz34)] ∧ R zz34 0 30 vw164) ∧ (¬ ((t159.len : Int) = 0) → callS Tryz.prog 30 [(Value.pointer vs)] vw160 fun v168 vw167=>v168 = (Value.tuple #[]) ∧ nxt57 0 vs decisions vw167))))) ∧ (l = 2 → ∃ (p170 : Addr), (vs = some p170) ∧ ∃ (t159172 : Sl), (ldc vw56 (p170.add 7) [(Sl.v t159172)]) ∧ (((t159172.len : Int) = 0 → stw vw56 a3 [(Sl.v Sl.nil)] fun vw174=>∃ (zz35 : Sl), ldc vw174 a3 [(Sl.v zz35)] ∧ R zz35 0 30 vw174) ∧ (¬ ((t159172.len : Int) = 0) → callS Tryz.prog 30 [(Value.pointer vs)] vw56 fun v178 vw177=>v178 = (Value.tuple #[]) ∧ nxt57 0 vs decisions vw177))))
set_option maxHeartbeats 8000000 in
theorem resolve_Run.sound (c : Option Addr) (zz5 : Sl) (zz6 : Sl) (zz7 : Sl) (zz8 : Sl) (dev : Bool) (pins : Sl) (zz2d : Int) (zz2f : Int) (zz2e : Int) (zz2g : Int) (w : World) (R : Sl → Int → Int → World → Prop) (h : resolve_Run c zz5 zz6 zz7 zz8 dev pins zz2d zz2f zz2e zz2g w R) : callS Tryz.prog 13 [(Value.pointer c), (Value.agg #[(Sl.v zz5), (Sl.v zz6), (Sl.v zz7), (Sl.v zz8)]), (Value.bool dev), (Sl.v pins), (Value.agg #[(Value.int .i64 zz2d), (Value.int .i64 zz2f), (Value.int .i64 zz2e), (Value.int .i64 zz2g)])] w (fun v w'=>∃ (r0 : Sl) (r1 : Int) (r2 : Int), v = (Value.tuple #[(Value.agg #[(Sl.v r0)]), (Value.int .i64 r1), (Value.int .i64 r2)]) ∧ R r0 r1 r2 w') := by
 unfold resolve_Run at h
 refine calls_of_vc 165 rfl Tryz.func13 rfl (by kernel_rfl) (by simp) ?_
 refine Vc.seq ?_
 refine Vc.region ?_
 refine vcL_eff rfl (opVC_new rfl (fun a=>Value.pointer (some a)) (by kernel_rfl) (newS.mono h fun a vw hx h=>?_))
 refine vcL_eff rfl (opVC_new rfl (fun a=>Value.pointer (some a)) (by kernel_rfl) (newS.mono h fun a1 vw2 hx h=>?_))
 refine vcL_eff rfl (opVC_new rfl (fun a=>Value.pointer (some a)) (by kernel_rfl) (newS.mono h fun a3 vw4 hx h=>?_))
 refine vcL_purs 2 [(12, (Value.int .i64 0)), (11, (Value.int .i64 0))] (by kernel_rfl) ?_
 refine vcL_nil ?_
 obtain ⟨vI, mu, h, hr⟩ := h
 refine Vc.scopeJ (σ := Option Addr × Int) [1, 0, 2] [13, 14] [11, 12, 15, 16, 17, 18, 19, 20, 21, 22, 23, 24, 25, 26, 27, 28, 29, 30, 31, 32, 33, 34, 35, 36, 37, 38, 39, 40, 41, 42, 43, 44, 45, 46, 47, 48, 49, 50, 51, 52, 53, 54, 55, 56, 57, 58, 59, 60, 61, 62, 63, 64, 65, 66, 67, 68, 69, 70, 71, 72, 73, 74, 75, 76, 77, 78, 79, 80, 81, 82, 83, 84, 85, 86, 87, 88, 89, 90, 91, 92, 93, 94, 95, 96, 97, 98, 99, 100, 101, 102, 103, 104, 105, 106, 107, 108, 109, 110, 111, 112, 113, 114, 115, 116, 117, 118, 119, 120, 121, 122, 123, 124, 125, 126, 127, 128, 129, 130, 131, 132, 133, 134, 135, 136, 137, 138, 139, 140, 141, 142, 143, 144, 145, 146, 147, 148, 149, 150, 151, 152, 153, 154, 155, 156, 157, 158, 159, 160, 161, 162, 163, 164] (fun s=>[(13, (Value.pointer s.1)), (14, (Value.int .i64 s.2))]) (fun l s w=>vI l s.1 s.2 w) (fun l s w=>mu l s.1 s.2 w) (fun _ => rfl) ?_ ⟨⟨_, rfl, ?_⟩, ⟨_, rfl, ?_⟩, ⟨_, rfl, ?_⟩, trivial⟩
 ·refine Vc.seq ?_
  refine Vc.seq ?_
  refine Vc.region ?_
  refine vcL_pure rfl rfl (Value.pointer c) (fun w=>by kernel_rfl) ?_
  refine vcL_pure rfl rfl (Value.bool (Option.isNone c)) (fun w=>by cases c <;> kernel_rfl) ?_
  obtain ⟨b, hb⟩ : ∃ y, y = (Option.isNone c) := ⟨_, rfl⟩
  have h := h b hb
  refine vcL_pure rfl rfl (Value.bool b) (fun w=>by rw [hb]; kernel_rfl) ?_
  obtain ⟨zz5q, zz5r, zz5s, zz5t, hc, h⟩ := h
  refine vcL_guard (!b) (wanted_g (d := 19) rfl (by kernel_rfl) b (by kernel_rfl) (!b) (eqF b)) rfl (Value.agg #[(Sl.v zz5q), (Sl.v zz5r), (Sl.v zz5s), (Sl.v zz5t)]) (fun hg=>by simp only [Bool.and_eq_true, Bool.not_eq_true'] at hg; obtain rfl := hg; exact exec_load rfl (by kernel_rfl) (run_loadN (fun w=>by kernel_rfl) (fun w=>by kernel_rfl) ((hc rfl)))) ?_
  obtain ⟨vJ, hJ, h⟩ := gCall_elim h
  refine vcL_effJ (σ := Bool) (!b) (wanted_g (d := 19) rfl (by kernel_rfl) b (by kernel_rfl) (!b) (eqF b)) rfl (fun s w=>vJ s w) (fun s=>(Value.bool s)) ?_ (fun hg=>opVC_call rfl (by simp only [Bool.and_eq_true, Bool.not_eq_true'] at hg; obtain rfl := hg; kernel_rfl) (callS.mono (h.1 hg) fun v vw5 hq=>?_)) (fun hg=>⟨false, h.2 hg⟩)
  ·intro t21 vw5 h
   subst hJ
   refine vcL_guardP (!b) (wanted_g (d := 19) rfl (by kernel_rfl) b (by kernel_rfl) (!b) (eqF b)) rfl (Value.bool (!t21)) (fun hg w=>by simp only [Bool.and_eq_true, Bool.not_eq_true'] at hg; obtain rfl := hg; kernel_rfl) ?_
   refine vcL_pure rfl rfl (Value.bool (b || (!t21))) (fun w=>by cases b <;> kernel_rfl) ?_
   obtain ⟨b6, hb6⟩ : ∃ y, y = (b || (!t21)) := ⟨_, rfl⟩
   have h := h b6 hb6
   refine vcL_pure rfl rfl (Value.bool b6) (fun w=>by rw [hb6]; kernel_rfl) ?_
   refine vcL_guardP (!b6) (wanted_g (d := 24) rfl (by kernel_rfl) b6 (by kernel_rfl) (!b6) (eqF b6)) rfl (Value.pointer (some a1)) (fun hg w=>by simp only [Bool.and_eq_true, Bool.not_eq_true'] at hg; obtain rfl := hg; kernel_rfl) ?_
   obtain ⟨t26, hc7, h⟩ := h
   refine vcL_guard (!b6) (wanted_g (d := 24) rfl (by kernel_rfl) b6 (by kernel_rfl) (!b6) (eqF b6)) rfl (Value.int .i64 t26) (fun hg=>by simp only [Bool.and_eq_true, Bool.not_eq_true'] at hg; obtain rfl := hg; exact exec_load rfl (by kernel_rfl) (run_load1 (fun w=>by kernel_rfl) ((hc7 rfl)))) ?_
   refine vcL_guardP (!b6) (wanted_g (d := 24) rfl (by kernel_rfl) b6 (by kernel_rfl) (!b6) (eqF b6)) rfl (Value.bool (decide (t26 < 1))) (fun hg w=>by simp only [Bool.and_eq_true, Bool.not_eq_true'] at hg; obtain rfl := hg; kernel_rfl) ?_
   refine vcL_pure rfl rfl (Value.bool (b6 || (decide (t26 < 1)))) (fun w=>by cases b6 <;> kernel_rfl) ?_
   obtain ⟨b8, hb8⟩ : ∃ y, y = (b6 || (decide (t26 < 1))) := ⟨_, rfl⟩
   have h := h b8 hb8
   refine vcL_pure rfl rfl (Value.bool b8) (fun w=>by rw [hb8]; kernel_rfl) ?_
   refine vcL_guardP (!b8) (wanted_g (d := 29) rfl (by kernel_rfl) b8 (by kernel_rfl) (!b8) (eqF b8)) rfl (Value.pointer (some a1)) (fun hg w=>by simp only [Bool.and_eq_true, Bool.not_eq_true'] at hg; obtain rfl := hg; kernel_rfl) ?_
   obtain ⟨t31, hc9, h⟩ := h
   refine vcL_guard (!b8) (wanted_g (d := 29) rfl (by kernel_rfl) b8 (by kernel_rfl) (!b8) (eqF b8)) rfl (Value.int .i64 t31) (fun hg=>by simp only [Bool.and_eq_true, Bool.not_eq_true'] at hg; obtain rfl := hg; exact exec_load rfl (by kernel_rfl) (run_load1 (fun w=>by kernel_rfl) ((hc9 rfl)))) ?_
   refine vcL_guardP (!b8) (wanted_g (d := 29) rfl (by kernel_rfl) b8 (by kernel_rfl) (!b8) (eqF b8)) rfl (Value.bool (decide (4096 < t31))) (fun hg w=>by simp only [Bool.and_eq_true, Bool.not_eq_true'] at hg; obtain rfl := hg; kernel_rfl) ?_
   refine vcL_pure rfl rfl (Value.bool (b8 || (decide (4096 < t31)))) (fun w=>by cases b8 <;> kernel_rfl) ?_
   obtain ⟨b10, hb10⟩ : ∃ y, y = (b8 || (decide (4096 < t31))) := ⟨_, rfl⟩
   have h := h b10 hb10
   refine vcL_pure rfl rfl (Value.bool b10) (fun w=>by rw [hb10]; kernel_rfl) ?_
   refine vcL_guardP (!b10) (wanted_g (d := 34) rfl (by kernel_rfl) b10 (by kernel_rfl) (!b10) (eqF b10)) rfl (Value.pointer (some (a1.add 1))) (fun hg w=>by simp only [Bool.and_eq_true, Bool.not_eq_true'] at hg; obtain rfl := hg; kernel_rfl) ?_
   obtain ⟨t36, hc11, h⟩ := h
   refine vcL_guard (!b10) (wanted_g (d := 34) rfl (by kernel_rfl) b10 (by kernel_rfl) (!b10) (eqF b10)) rfl (Value.int .i64 t36) (fun hg=>by simp only [Bool.and_eq_true, Bool.not_eq_true'] at hg; obtain rfl := hg; exact exec_load rfl (by kernel_rfl) (run_load1 (fun w=>by kernel_rfl) ((hc11 rfl)))) ?_
   refine vcL_guardP (!b10) (wanted_g (d := 34) rfl (by kernel_rfl) b10 (by kernel_rfl) (!b10) (eqF b10)) rfl (Value.bool (decide (t36 < 1))) (fun hg w=>by simp only [Bool.and_eq_true, Bool.not_eq_true'] at hg; obtain rfl := hg; kernel_rfl) ?_
   refine vcL_pure rfl rfl (Value.bool (b10 || (decide (t36 < 1)))) (fun w=>by cases b10 <;> kernel_rfl) ?_
   obtain ⟨b12, hb12⟩ : ∃ y, y = (b10 || (decide (t36 < 1))) := ⟨_, rfl⟩
   have h := h b12 hb12
   refine vcL_pure rfl rfl (Value.bool b12) (fun w=>by rw [hb12]; kernel_rfl) ?_
   refine vcL_guardP (!b12) (wanted_g (d := 39) rfl (by kernel_rfl) b12 (by kernel_rfl) (!b12) (eqF b12)) rfl (Value.pointer (some (a1.add 1))) (fun hg w=>by simp only [Bool.and_eq_true, Bool.not_eq_true'] at hg; obtain rfl := hg; kernel_rfl) ?_
   obtain ⟨t41, hc13, h⟩ := h
   refine vcL_guard (!b12) (wanted_g (d := 39) rfl (by kernel_rfl) b12 (by kernel_rfl) (!b12) (eqF b12)) rfl (Value.int .i64 t41) (fun hg=>by simp only [Bool.and_eq_true, Bool.not_eq_true'] at hg; obtain rfl := hg; exact exec_load rfl (by kernel_rfl) (run_load1 (fun w=>by kernel_rfl) ((hc13 rfl)))) ?_
   refine vcL_guardP (!b12) (wanted_g (d := 39) rfl (by kernel_rfl) b12 (by kernel_rfl) (!b12) (eqF b12)) rfl (Value.bool (decide (128 < t41))) (fun hg w=>by simp only [Bool.and_eq_true, Bool.not_eq_true'] at hg; obtain rfl := hg; kernel_rfl) ?_
   refine vcL_pure rfl rfl (Value.bool (b12 || (decide (128 < t41)))) (fun w=>by cases b12 <;> kernel_rfl) ?_
   refine vcL_nil ?_
   refine Vc.cond (b12 || (decide (128 < t41))) (by kernel_rfl) (fun hb=>?_) (fun hb=>?_)
   ·have h := h.1 (hb)
    refine Vc.seq ?_
    refine Vc.region ?_
    refine vcL_pure rfl rfl (Value.agg #[(Sl.v Sl.nil)]) (fun w=>by kernel_rfl) ?_
    refine vcL_eff rfl (opVC_store rfl rfl (a := a3) (by kernel_rfl) (v := (Value.agg #[(Sl.v Sl.nil)])) (by kernel_rfl) [(Sl.v Sl.nil)] (by kernel_rfl) (fun w=>by kernel_rfl) (by kernel_rfl) (stw.mono h fun vw14 h=>?_))
    refine vcL_purs 2 [(12, (Value.int .i64 1)), (11, (Value.int .i64 0))] (by kernel_rfl) ?_
    refine vcL_nil ?_
    refine Vc.ret ?_
    refine gotoX_ret ?_
    refine outs_ret ?_
    obtain ⟨zz0, hc15, h⟩ := h
    refine done_mk (Value.tuple #[(Value.agg #[(Sl.v zz0)]), (Value.int .i64 0), (Value.int .i64 1)]) (res3 (resC_cell (by kernel_rfl) (run_loadN (fun w=>by kernel_rfl) (fun w=>by kernel_rfl) hc15)) (resC_tmp (by kernel_rfl)) (resC_tmp (by kernel_rfl))) ?_
    exact ⟨zz0, 0, 1, rfl, h⟩
   ·have h := h.2 (hb)
    refine Vc.skip ?_
    refine Vc.seq ?_
    refine Vc.region ?_
    refine vcL_pure rfl rfl (Value.pointer c) (fun w=>by kernel_rfl) ?_
    obtain ⟨zz1r, zz4u, zz1s, zz4w, hc16, h⟩ := h
    refine vcL_val rfl rfl (Value.agg #[(Sl.v zz1r), (Sl.v zz4u), (Sl.v zz1s), (Sl.v zz4w)]) (exec_load rfl (by kernel_rfl) (run_loadN (fun w=>by kernel_rfl) (fun w=>by kernel_rfl) ((hc16)))) ?_
    refine vcL_purs 3 [(49, (Value.agg #[(Value.string (ByteArray.mk #[])), (Value.int .i64 0), (Value.int .i64 0), (Value.int .i64 0), (Sl.v Sl.nil), (Sl.v Sl.nil)])), (48, (Sl.v pins)), (47, (Value.bool dev))] (by kernel_rfl) ?_
    refine vcL_eff rfl (opVC_new rfl (fun a=>Value.slice (some a) 1 1) (by kernel_rfl) (newS.mono h fun a17 vw18 hx h=>?_))
    refine vcL_pure rfl rfl (Value.agg #[(Value.pointer c), (Sl.v zz1r), (Sl.v zz4u), (Sl.v zz1s), (Sl.v zz4w), (Value.bool dev), (Sl.v pins), (Sl.v Sl.nil), (Sl.v (Sl.mk (some a17) 1 1)), (Sl.v Sl.nil), (Sl.v Sl.nil), (Value.int .i64 0)]) (fun w=>by kernel_rfl) ?_
    refine vcL_eff rfl (opVC_new rfl (fun a=>Value.pointer (some a)) (by kernel_rfl) (newS.mono h fun a19 vw20 hx h=>?_))
    refine vcL_pure rfl rfl (Value.pointer (some a19)) (fun w=>by kernel_rfl) ?_
    refine vcL_nil ?_
    refine Vc.seq ?_
    refine Vc.region ?_
    refine vcL_pure rfl rfl (Value.int .i64 0) (fun w=>by kernel_rfl) ?_
    refine vcL_nil ?_
    refine Vc.seq ?_
    refine Vc.region ?_
    refine vcL_pure rfl rfl (Value.pointer (some a19)) (fun w=>by kernel_rfl) ?_
    refine vcL_eff rfl (opVC_call rfl (by kernel_rfl) (callS.mono h fun v22 vw21 h=>?_))
    obtain ⟨rfl, h⟩ := h
    refine vcL_nil ?_
    refine Vc.seq ?_
    refine Vc.label ?_
    refine Vc.seq ?_
    refine Vc.seq ?_
    obtain ⟨vw24, hvw24⟩ : ∃ y, y = vw21.drew := ⟨_, rfl⟩
    have h := h vw24 hvw24
    refine Vc.draw (by kernel_rfl) (fun i=>!(memN [] i)) (.pur 0 (.pur 1 (.pur 2 (.val 3 (.pur 4 (.pur 5 (.pur 6 (.pur 7 (.val 8 (.pur 9 (.pur 10 .fin))))))))))) (by kernel_rfl) ?_
    rw [← hvw24]
    clear hvw24
    refine vcS_pure rfl rfl rfl (Value.pointer (some a19)) (fun w=>by kernel_rfl) ?_
    refine vcS_pure rfl rfl rfl (Value.pointer (some a19)) (fun w=>by kernel_rfl) ?_
    refine vcS_pure rfl rfl rfl (Value.pointer (some (a19.add 7))) (fun w=>by kernel_rfl) ?_
    obtain ⟨t58, hc25, h⟩ := h
    refine vcS_val rfl rfl rfl (Sl.v t58) (fun w' hx=>exec_load rfl (by kernel_rfl) (run_load1 (fun w=>by kernel_rfl) ((hc25).ext hx))) ?_
    refine vcS_pure rfl rfl rfl (Value.int .i64 (t58.len : Int)) (fun w=>by kernel_rfl) ?_
    refine vcS_pure rfl rfl rfl (Value.pointer (some a19)) (fun w=>by kernel_rfl) ?_
    refine vcS_pure rfl rfl rfl (Value.pointer (some a19)) (fun w=>by kernel_rfl) ?_
    refine vcS_pure rfl rfl rfl (Value.pointer (some (a19.add 11))) (fun w=>by kernel_rfl) ?_
    obtain ⟨t63, hc26, h⟩ := h
    refine vcS_val rfl rfl rfl (Value.int .i64 t63) (fun w' hx=>exec_load rfl (by kernel_rfl) (run_load1 (fun w=>by kernel_rfl) ((hc26).ext hx))) ?_
    refine vcS_pure rfl rfl rfl (Value.int .i64 (wrapI ((t58.len : Int) - t63))) (fun w=>by kernel_rfl) ?_
    refine vcS_pure rfl rfl rfl (Value.int .i64 (wrapI ((t58.len : Int) - t63))) (fun w=>by kernel_rfl) ?_
    refine vcS_fin ?_
    refine Vc.seq ?_
    refine Vc.region ?_
    refine vcL_purs 4 [(68, (Value.pointer (some (a19.add 10)))), (67, (Value.pointer (some a19))), (66, (Value.pointer (some a19))), (65, (Value.int .i64 (wrapI ((t58.len : Int) - t63))))] (by kernel_rfl) ?_
    obtain ⟨t69, hc27, h⟩ := h
    refine vcL_val rfl rfl (Sl.v t69) (exec_load rfl (by kernel_rfl) (run_load1 (fun w=>by kernel_rfl) ((hc27)))) ?_
    refine vcL_purs 2 [(71, (Value.bool (decide ((wrapI ((t58.len : Int) - t63)) < (t69.len : Int))))), (70, (Value.int .i64 (t69.len : Int)))] (by kernel_rfl) ?_
    refine vcL_nil ?_
    refine Vc.cond (decide ((wrapI ((t58.len : Int) - t63)) < (t69.len : Int))) (by kernel_rfl) (fun hb=>?_) (fun hb=>?_)
    ·have h := h.1 (of_decide_eq_true hb)
     refine Vc.seq ?_
     obtain ⟨vw28, hvw28⟩ : ∃ y, y = vw24.drew := ⟨_, rfl⟩
     have h := h vw28 hvw28
     refine Vc.draw (by kernel_rfl) (fun i=>!(memN [15, 18] i)) (.pur 0 (.pur 1 (.pur 2 (.pur 3 (.val 4 (.pur 5 (.pur 6 (.pur 7 (.pur 8 (.val 9 (.pur 10 (.pur 11 (.val 12 (.eff 13 (.eff 14 (.eff 15 (.pur 16 (.pur 17 (.eff 18 .fin .stop))) .stop) .stop) .stop)))))))))))))) (by kernel_rfl) ?_
     rw [← hvw28]
     clear hvw28
     refine vcS_pure rfl rfl rfl (Value.pointer (some a19)) (fun w=>by kernel_rfl) ?_
     refine vcS_pure rfl rfl rfl (Value.pointer (some a19)) (fun w=>by kernel_rfl) ?_
     refine vcS_pure rfl rfl rfl (Value.pointer (some a19)) (fun w=>by kernel_rfl) ?_
     refine vcS_pure rfl rfl rfl (Value.pointer (some (a19.add 7))) (fun w=>by kernel_rfl) ?_
     obtain ⟨t76, hc29, h⟩ := h
     refine vcS_val rfl rfl rfl (Sl.v t76) (fun w' hx=>exec_load rfl (by kernel_rfl) (run_load1 (fun w=>by kernel_rfl) ((hc29).ext hx))) ?_
     refine vcS_pure rfl rfl rfl (Value.pointer (some a19)) (fun w=>by kernel_rfl) ?_
     refine vcS_pure rfl rfl rfl (Value.pointer (some a19)) (fun w=>by kernel_rfl) ?_
     refine vcS_pure rfl rfl rfl (Value.pointer (some a19)) (fun w=>by kernel_rfl) ?_
     refine vcS_pure rfl rfl rfl (Value.pointer (some (a19.add 10))) (fun w=>by kernel_rfl) ?_
     obtain ⟨t81, hc30, h⟩ := h
     refine vcS_val rfl rfl rfl (Sl.v t81) (fun w' hx=>exec_load rfl (by kernel_rfl) (run_load1 (fun w=>by kernel_rfl) ((hc30).ext hx))) ?_
     refine vcS_pure rfl rfl rfl (Value.int .i64 (wrapI ((t58.len : Int) - t63))) (fun w=>by kernel_rfl) ?_
     obtain ⟨ad, hi, h⟩ := h
     refine vcS_pure rfl rfl rfl (Value.pointer (some (ad.add ((wrapI ((t58.len : Int) - t63)).toNat * 3)))) (fun w=>by exact exec_indexAt (s := t81) (el := 62) rfl (by kernel_rfl) (by kernel_rfl) (by kernel_rfl) (fun w=>by kernel_rfl) (hi).1 (hi).2.1 (hi).2.2 w) ?_
     obtain ⟨zzx, zz2b, zz2c, hc31, h⟩ := h
     refine vcS_val rfl rfl rfl (Value.agg #[(Value.string zzx), (Value.int .i64 zz2b), (Sl.v zz2c)]) (fun w' hx=>exec_load rfl (by kernel_rfl) (run_loadN (fun w=>by kernel_rfl) (fun w=>by kernel_rfl) ((hc31).ext hx))) ?_
     refine vcS_eff rfl rfl (opVC_call rfl (by kernel_rfl) (callS.mono h fun v33 vw32 h=>?_)) vcS_stop
     obtain ⟨hx34, h⟩ := h
     obtain ⟨t85_node, t85_name, t85_versions, t85_none, t85_at, rfl, h⟩ := h
     refine ⟨fun _ => hx34, ?_⟩
     refine vcS_eff rfl rfl (opVC_new rfl (fun a=>Value.slice (some a) 1 1) (by kernel_rfl) (newS.mono h fun a35 vw36 hx h=>?_)) vcS_stop
     refine ⟨fun _ => hx, ?_⟩
     refine vcS_eff rfl rfl (opVC_sem rfl (c := Builtin.append_ #[76, 76] 76 #[(Sl.v t76), (Sl.v (Sl.mk (some a35) 1 1))]) (by kernel_rfl) (appS.elim (ty := 76) h fun t87 vw37 h=>?_)) vcS_stop
     refine ⟨fun hb=>absurd hb (by decide), ?_⟩
     refine vcS_pure rfl rfl rfl (Value.pointer (some a19)) (fun w=>by kernel_rfl) ?_
     refine vcS_pure rfl rfl rfl (Value.pointer (some (a19.add 7))) (fun w=>by kernel_rfl) ?_
     refine vcS_eff rfl rfl (opVC_store rfl rfl (a := (a19.add 7)) (by kernel_rfl) (v := (Sl.v t87)) (by kernel_rfl) [(Sl.v t87)] (by kernel_rfl) (fun w=>by kernel_rfl) (by kernel_rfl) (stw.mono h fun vw38 h=>?_)) vcS_stop
     refine ⟨fun hb=>absurd hb (by decide), ?_⟩
     refine vcS_fin ?_
     refine Vc.goto ?_
     refine gotoX_hit ⟨by kernel_rfl, ?_⟩
     exact ⟨((some a19), 0), 75, ⟨rfl, by kernel_rfl, by kernel_rfl, by kernel_rfl⟩, h⟩
    ·have h := h.2 (of_decide_eq_false hb)
     refine Vc.skip ?_
     refine Vc.seq ?_
     refine Vc.seq ?_
     refine Vc.region ?_
     refine vcL_purs 2 [(91, (Value.pointer (some (a1.add 1)))), (90, (Value.pointer (some a19)))] (by kernel_rfl) ?_
     obtain ⟨t92, hc39, h⟩ := h
     refine vcL_val rfl rfl (Value.int .i64 t92) (exec_load rfl (by kernel_rfl) (run_load1 (fun w=>by kernel_rfl) ((hc39)))) ?_
     refine vcL_eff rfl (opVC_call rfl (by kernel_rfl) (callS.mono h fun v41 vw40 h=>?_))
     obtain ⟨t93, rfl, h⟩ := h
     refine vcL_nil ?_
     refine Vc.block ?_
     refine Vc.seq ?_
     refine Vc.region ?_
     refine vcL_purs 2 [(94, (Value.bool (t93 == 33))), (95, (Value.bool (t93 == 33)))] (by kernel_rfl) ?_
     refine vcL_nil ?_
     refine Vc.cond (t93 == 33) (by kernel_rfl) (fun hb=>?_) (fun hb=>?_)
     ·have h := h.1 (eq_of_beq hb)
      refine Vc.goto ?_
      refine outOf_goto ?_
      refine gotoX_hit ⟨by kernel_rfl, ?_⟩
      exact ⟨((some a19), 0), 63, ⟨rfl, by kernel_rfl, by kernel_rfl, by kernel_rfl⟩, h⟩
     ·have h := h.2 (ne_of_beq_false hb)
      refine Vc.seq ?_
      refine Vc.region ?_
      refine vcL_purs 2 [(96, (Value.bool (t93 == 32))), (97, (Value.bool (t93 == 32)))] (by kernel_rfl) ?_
      refine vcL_nil ?_
      refine Vc.cond (t93 == 32) (by kernel_rfl) (fun hb=>?_) (fun hb=>?_)
      ·have h := h.1 (eq_of_beq hb)
       refine Vc.seq ?_
       refine Vc.region ?_
       refine vcL_pure rfl rfl (Value.agg #[(Sl.v Sl.nil)]) (fun w=>by kernel_rfl) ?_
       refine vcL_eff rfl (opVC_store rfl rfl (a := a3) (by kernel_rfl) (v := (Value.agg #[(Sl.v Sl.nil)])) (by kernel_rfl) [(Sl.v Sl.nil)] (by kernel_rfl) (fun w=>by kernel_rfl) (by kernel_rfl) (stw.mono h fun vw43 h=>?_))
       refine vcL_purs 2 [(12, (Value.int .i64 32)), (11, (Value.int .i64 0))] (by kernel_rfl) ?_
       refine vcL_nil ?_
       refine Vc.ret ?_
       refine outOf_ret ?_
       refine gotoX_ret ?_
       refine outs_ret ?_
       obtain ⟨zz36, hc45, h⟩ := h
       refine done_mk (Value.tuple #[(Value.agg #[(Sl.v zz36)]), (Value.int .i64 0), (Value.int .i64 32)]) (res3 (resC_cell (by kernel_rfl) (run_loadN (fun w=>by kernel_rfl) (fun w=>by kernel_rfl) hc45)) (resC_tmp (by kernel_rfl)) (resC_tmp (by kernel_rfl))) ?_
       exact ⟨zz36, 0, 32, rfl, h⟩
      ·have h := h.2 (ne_of_beq_false hb)
       refine Vc.skip ?_
       refine Vc.seq ?_
       refine Vc.seq ?_
       obtain ⟨vw46, hvw46⟩ : ∃ y, y = vw40.drew := ⟨_, rfl⟩
       have h := h vw46 hvw46
       refine Vc.draw (by kernel_rfl) (fun i=>!(memN [] i)) (.pur 0 (.pur 1 (.pur 2 (.val 3 (.pur 4 (.pur 5 (.pur 6 (.pur 7 (.val 8 (.pur 9 (.pur 10 .fin))))))))))) (by kernel_rfl) ?_
       rw [← hvw46]
       clear hvw46
       refine vcS_pure rfl rfl rfl (Value.pointer (some a19)) (fun w=>by kernel_rfl) ?_
       refine vcS_pure rfl rfl rfl (Value.pointer (some a19)) (fun w=>by kernel_rfl) ?_
       refine vcS_pure rfl rfl rfl (Value.pointer (some (a19.add 9))) (fun w=>by kernel_rfl) ?_
       obtain ⟨t102, hc47, h⟩ := h
       refine vcS_val rfl rfl rfl (Sl.v t102) (fun w' hx=>exec_load rfl (by kernel_rfl) (run_load1 (fun w=>by kernel_rfl) ((hc47).ext hx))) ?_
       refine vcS_pure rfl rfl rfl (Value.int .i64 (t102.len : Int)) (fun w=>by kernel_rfl) ?_
       refine vcS_pure rfl rfl rfl (Value.pointer (some a19)) (fun w=>by kernel_rfl) ?_
       refine vcS_pure rfl rfl rfl (Value.pointer (some a19)) (fun w=>by kernel_rfl) ?_
       refine vcS_pure rfl rfl rfl (Value.pointer (some (a19.add 8))) (fun w=>by kernel_rfl) ?_
       obtain ⟨t107, hc48, h⟩ := h
       refine vcS_val rfl rfl rfl (Sl.v t107) (fun w' hx=>exec_load rfl (by kernel_rfl) (run_load1 (fun w=>by kernel_rfl) ((hc48).ext hx))) ?_
       refine vcS_pure rfl rfl rfl (Value.int .i64 (t107.len : Int)) (fun w=>by kernel_rfl) ?_
       refine vcS_pure rfl rfl rfl (Value.bool ((t102.len : Int) == (t107.len : Int))) (fun w=>by kernel_rfl) ?_
       refine vcS_fin ?_
       refine Vc.cond ((t102.len : Int) == (t107.len : Int)) (by kernel_rfl) (fun hb=>?_) (fun hb=>?_)
       ·have h := h.1 (eq_of_beq hb)
        refine Vc.seq ?_
        refine Vc.region ?_
        refine vcL_purs 3 [(112, (Value.pointer (some (a19.add 8)))), (111, (Value.pointer (some a19))), (110, (Value.pointer (some a19)))] (by kernel_rfl) ?_
        obtain ⟨t113, hc49, h⟩ := h
        refine vcL_val rfl rfl (Sl.v t113) (exec_load rfl (by kernel_rfl) (run_load1 (fun w=>by kernel_rfl) ((hc49)))) ?_
        refine vcL_purs 2 [(115, (Value.int .i64 0)), (114, (Value.agg #[(Sl.v t113)]))] (by kernel_rfl) ?_
        refine vcL_eff rfl (opVC_store rfl rfl (a := a3) (by kernel_rfl) (v := (Value.agg #[(Sl.v t113)])) (by kernel_rfl) [(Sl.v t113)] (by kernel_rfl) (fun w=>by kernel_rfl) (by kernel_rfl) (stw.mono h fun vw50 h=>?_))
        refine vcL_purs 2 [(12, (Value.int .i64 0)), (11, (Value.int .i64 0))] (by kernel_rfl) ?_
        refine vcL_nil ?_
        refine Vc.ret ?_
        refine gotoX_ret ?_
        refine outs_ret ?_
        obtain ⟨zz37, hc52, h⟩ := h
        refine done_mk (Value.tuple #[(Value.agg #[(Sl.v zz37)]), (Value.int .i64 0), (Value.int .i64 0)]) (res3 (resC_cell (by kernel_rfl) (run_loadN (fun w=>by kernel_rfl) (fun w=>by kernel_rfl) hc52)) (resC_tmp (by kernel_rfl)) (resC_tmp (by kernel_rfl))) ?_
        exact ⟨zz37, 0, 0, rfl, h⟩
       ·have h := h.2 (ne_of_beq_false hb)
        refine Vc.skip ?_
        refine Vc.seq ?_
        refine Vc.region ?_
        refine vcL_pure rfl rfl (Value.pointer (some a19)) (fun w=>by kernel_rfl) ?_
        refine vcL_eff rfl (opVC_call rfl (by kernel_rfl) (callS.mono h fun v54 vw53 h=>?_))
        obtain ⟨rfl, h⟩ := h
        refine vcL_nil ?_
        refine Vc.seq ?_
        refine Vc.goto ?_
        refine gotoX_hit ⟨by kernel_rfl, ?_⟩
        exact ⟨((some a19), 0), 78, ⟨rfl, by kernel_rfl, by kernel_rfl, by kernel_rfl⟩, h⟩
  ·obtain ⟨t21, rfl, hq⟩ := hq
   exact ⟨t21, rfl, hq⟩
 ·rintro ⟨vs, decisions⟩ vw56 j h
  have h := (hr 1 vs decisions vw56 h).1 rfl
  refine Vc.seq ?_
  refine Vc.skip ?_
  refine Vc.seq ?_
  refine Vc.seq ?_
  obtain ⟨vw58, hvw58⟩ : ∃ y, y = vw56.drew := ⟨_, rfl⟩
  have h := h vw58 hvw58
  refine Vc.draw (by kernel_rfl) (fun i=>!(memN [] i)) (.pur 0 (.pur 1 (.pur 2 (.val 3 (.pur 4 (.pur 5 (.pur 6 (.pur 7 (.val 8 (.pur 9 (.pur 10 .fin))))))))))) (by kernel_rfl) ?_
  rw [← hvw58]
  clear hvw58
  refine vcS_pure rfl rfl rfl (Value.pointer vs) (fun w=>by kernel_rfl) ?_
  obtain ⟨p, hp, h⟩ := h
  refine vcS_pure rfl rfl rfl (Value.pointer (some p)) (fun w=>by exact exec_nilCheck rfl (by kernel_rfl) (hp) w) ?_
  refine vcS_pure rfl rfl rfl (Value.pointer (some (p.add 7))) (fun w=>by kernel_rfl) ?_
  obtain ⟨t5859, hc60, h⟩ := h
  refine vcS_val rfl rfl rfl (Sl.v t5859) (fun w' hx=>exec_load rfl (by kernel_rfl) (run_load1 (fun w=>by kernel_rfl) ((hc60).ext hx))) ?_
  refine vcS_pure rfl rfl rfl (Value.int .i64 (t5859.len : Int)) (fun w=>by kernel_rfl) ?_
  refine vcS_pure rfl rfl rfl (Value.pointer vs) (fun w=>by kernel_rfl) ?_
  obtain ⟨p61, hp62, h⟩ := h
  refine vcS_pure rfl rfl rfl (Value.pointer (some p61)) (fun w=>by exact exec_nilCheck rfl (by kernel_rfl) (hp62) w) ?_
  refine vcS_pure rfl rfl rfl (Value.pointer (some (p61.add 11))) (fun w=>by kernel_rfl) ?_
  obtain ⟨t6363, hc64, h⟩ := h
  refine vcS_val rfl rfl rfl (Value.int .i64 t6363) (fun w' hx=>exec_load rfl (by kernel_rfl) (run_load1 (fun w=>by kernel_rfl) ((hc64).ext hx))) ?_
  refine vcS_pure rfl rfl rfl (Value.int .i64 (wrapI ((t5859.len : Int) - t6363))) (fun w=>by kernel_rfl) ?_
  refine vcS_pure rfl rfl rfl (Value.int .i64 (wrapI ((t5859.len : Int) - t6363))) (fun w=>by kernel_rfl) ?_
  refine vcS_fin ?_
  refine Vc.seq ?_
  refine Vc.region ?_
  refine vcL_purs 2 [(66, (Value.pointer vs)), (65, (Value.int .i64 (wrapI ((t5859.len : Int) - t6363))))] (by kernel_rfl) ?_
  obtain ⟨p65, hp66, h⟩ := h
  refine vcL_pure rfl rfl (Value.pointer (some p65)) (fun w=>by exact exec_nilCheck rfl (by kernel_rfl) (hp66) w) ?_
  refine vcL_pure rfl rfl (Value.pointer (some (p65.add 10))) (fun w=>by kernel_rfl) ?_
  obtain ⟨t6967, hc68, h⟩ := h
  refine vcL_val rfl rfl (Sl.v t6967) (exec_load rfl (by kernel_rfl) (run_load1 (fun w=>by kernel_rfl) ((hc68)))) ?_
  refine vcL_purs 2 [(71, (Value.bool (decide ((wrapI ((t5859.len : Int) - t6363)) < (t6967.len : Int))))), (70, (Value.int .i64 (t6967.len : Int)))] (by kernel_rfl) ?_
  refine vcL_nil ?_
  refine Vc.cond (decide ((wrapI ((t5859.len : Int) - t6363)) < (t6967.len : Int))) (by kernel_rfl) (fun hb=>?_) (fun hb=>?_)
  ·have h := h.1 (of_decide_eq_true hb)
   refine Vc.seq ?_
   obtain ⟨vw69, hvw69⟩ : ∃ y, y = vw58.drew := ⟨_, rfl⟩
   have h := h vw69 hvw69
   refine Vc.draw (by kernel_rfl) (fun i=>!(memN [15, 18] i)) (.pur 0 (.pur 1 (.pur 2 (.pur 3 (.val 4 (.pur 5 (.pur 6 (.pur 7 (.pur 8 (.val 9 (.pur 10 (.pur 11 (.val 12 (.eff 13 (.eff 14 (.eff 15 (.pur 16 (.pur 17 (.eff 18 .fin .stop))) .stop) .stop) .stop)))))))))))))) (by kernel_rfl) ?_
   rw [← hvw69]
   clear hvw69
   refine vcS_pure rfl rfl rfl (Value.pointer vs) (fun w=>by kernel_rfl) ?_
   refine vcS_pure rfl rfl rfl (Value.pointer vs) (fun w=>by kernel_rfl) ?_
   obtain ⟨p70, hp71, h⟩ := h
   refine vcS_pure rfl rfl rfl (Value.pointer (some p70)) (fun w=>by exact exec_nilCheck rfl (by kernel_rfl) (hp71) w) ?_
   refine vcS_pure rfl rfl rfl (Value.pointer (some (p70.add 7))) (fun w=>by kernel_rfl) ?_
   obtain ⟨t7672, hc73, h⟩ := h
   refine vcS_val rfl rfl rfl (Sl.v t7672) (fun w' hx=>exec_load rfl (by kernel_rfl) (run_load1 (fun w=>by kernel_rfl) ((hc73).ext hx))) ?_
   refine vcS_pure rfl rfl rfl (Value.pointer vs) (fun w=>by kernel_rfl) ?_
   refine vcS_pure rfl rfl rfl (Value.pointer vs) (fun w=>by kernel_rfl) ?_
   obtain ⟨p74, hp75, h⟩ := h
   refine vcS_pure rfl rfl rfl (Value.pointer (some p74)) (fun w=>by exact exec_nilCheck rfl (by kernel_rfl) (hp75) w) ?_
   refine vcS_pure rfl rfl rfl (Value.pointer (some (p74.add 10))) (fun w=>by kernel_rfl) ?_
   obtain ⟨t8176, hc77, h⟩ := h
   refine vcS_val rfl rfl rfl (Sl.v t8176) (fun w' hx=>exec_load rfl (by kernel_rfl) (run_load1 (fun w=>by kernel_rfl) ((hc77).ext hx))) ?_
   refine vcS_pure rfl rfl rfl (Value.int .i64 (wrapI ((t5859.len : Int) - t6363))) (fun w=>by kernel_rfl) ?_
   obtain ⟨ad78, hi79, h⟩ := h
   refine vcS_pure rfl rfl rfl (Value.pointer (some (ad78.add ((wrapI ((t5859.len : Int) - t6363)).toNat * 3)))) (fun w=>by exact exec_indexAt (s := t8176) (el := 62) rfl (by kernel_rfl) (by kernel_rfl) (by kernel_rfl) (fun w=>by kernel_rfl) (hi79).1 (hi79).2.1 (hi79).2.2 w) ?_
   obtain ⟨zz5y, zz5x, zz5z, hc83, h⟩ := h
   refine vcS_val rfl rfl rfl (Value.agg #[(Value.string zz5y), (Value.int .i64 zz5x), (Sl.v zz5z)]) (fun w' hx=>exec_load rfl (by kernel_rfl) (run_loadN (fun w=>by kernel_rfl) (fun w=>by kernel_rfl) ((hc83).ext hx))) ?_
   refine vcS_eff rfl rfl (opVC_call rfl (by kernel_rfl) (callS.mono h fun v90 vw84 h=>?_)) vcS_stop
   obtain ⟨hx91, h⟩ := h
   obtain ⟨t85_node85, t85_name86, t85_versions87, t85_none88, t85_at89, rfl, h⟩ := h
   refine ⟨fun _ => hx91, ?_⟩
   refine vcS_eff rfl rfl (opVC_new rfl (fun a=>Value.slice (some a) 1 1) (by kernel_rfl) (newS.mono h fun a92 vw93 hx h=>?_)) vcS_stop
   refine ⟨fun _ => hx, ?_⟩
   refine vcS_eff rfl rfl (opVC_sem rfl (c := Builtin.append_ #[76, 76] 76 #[(Sl.v t7672), (Sl.v (Sl.mk (some a92) 1 1))]) (by kernel_rfl) (appS.elim (ty := 76) h fun t8794 vw95 h=>?_)) vcS_stop
   refine ⟨fun hb=>absurd hb (by decide), ?_⟩
   obtain ⟨p96, hp97, h⟩ := h
   refine vcS_pure rfl rfl rfl (Value.pointer (some p96)) (fun w=>by exact exec_nilCheck rfl (by kernel_rfl) (hp97) w) ?_
   refine vcS_pure rfl rfl rfl (Value.pointer (some (p96.add 7))) (fun w=>by kernel_rfl) ?_
   refine vcS_eff rfl rfl (opVC_store rfl rfl (a := (p96.add 7)) (by kernel_rfl) (v := (Sl.v t8794)) (by kernel_rfl) [(Sl.v t8794)] (by kernel_rfl) (fun w=>by kernel_rfl) (by kernel_rfl) (stw.mono h fun vw98 h=>?_)) vcS_stop
   refine ⟨fun hb=>absurd hb (by decide), ?_⟩
   refine vcS_fin ?_
   refine Vc.goto ?_
   refine gotoX_hit ⟨by kernel_rfl, ?_⟩
   exact ⟨(vs, decisions), 190, ⟨rfl, by kernel_rfl, by kernel_rfl, by kernel_rfl⟩, h⟩
  ·have h := h.2 (of_decide_eq_false hb)
   refine Vc.skip ?_
   refine Vc.seq ?_
   refine Vc.seq ?_
   refine Vc.region ?_
   refine vcL_purs 2 [(91, (Value.pointer (some (a1.add 1)))), (90, (Value.pointer vs))] (by kernel_rfl) ?_
   obtain ⟨t9299, hc100, h⟩ := h
   refine vcL_val rfl rfl (Value.int .i64 t9299) (exec_load rfl (by kernel_rfl) (run_load1 (fun w=>by kernel_rfl) ((hc100)))) ?_
   refine vcL_eff rfl (opVC_call rfl (by kernel_rfl) (callS.mono h fun v103 vw101 h=>?_))
   obtain ⟨t93102, rfl, h⟩ := h
   refine vcL_nil ?_
   refine Vc.block ?_
   refine Vc.seq ?_
   refine Vc.region ?_
   refine vcL_purs 2 [(94, (Value.bool (t93102 == 33))), (95, (Value.bool (t93102 == 33)))] (by kernel_rfl) ?_
   refine vcL_nil ?_
   refine Vc.cond (t93102 == 33) (by kernel_rfl) (fun hb=>?_) (fun hb=>?_)
   ·have h := h.1 (eq_of_beq hb)
    refine Vc.goto ?_
    refine outOf_goto ?_
    refine gotoX_hit ⟨by kernel_rfl, ?_⟩
    exact ⟨(vs, decisions), 178, ⟨rfl, by kernel_rfl, by kernel_rfl, by kernel_rfl⟩, h⟩
   ·have h := h.2 (ne_of_beq_false hb)
    refine Vc.seq ?_
    refine Vc.region ?_
    refine vcL_purs 2 [(96, (Value.bool (t93102 == 32))), (97, (Value.bool (t93102 == 32)))] (by kernel_rfl) ?_
    refine vcL_nil ?_
    refine Vc.cond (t93102 == 32) (by kernel_rfl) (fun hb=>?_) (fun hb=>?_)
    ·have h := h.1 (eq_of_beq hb)
     refine Vc.seq ?_
     refine Vc.region ?_
     refine vcL_pure rfl rfl (Value.agg #[(Sl.v Sl.nil)]) (fun w=>by kernel_rfl) ?_
     refine vcL_eff rfl (opVC_store rfl rfl (a := a3) (by kernel_rfl) (v := (Value.agg #[(Sl.v Sl.nil)])) (by kernel_rfl) [(Sl.v Sl.nil)] (by kernel_rfl) (fun w=>by kernel_rfl) (by kernel_rfl) (stw.mono h fun vw105 h=>?_))
     refine vcL_purs 2 [(12, (Value.int .i64 32)), (11, (Value.int .i64 0))] (by kernel_rfl) ?_
     refine vcL_nil ?_
     refine Vc.ret ?_
     refine outOf_ret ?_
     refine gotoX_ret ?_
     refine outs_ret ?_
     obtain ⟨zz31, hc107, h⟩ := h
     refine done_mk (Value.tuple #[(Value.agg #[(Sl.v zz31)]), (Value.int .i64 0), (Value.int .i64 32)]) (res3 (resC_cell (by kernel_rfl) (run_loadN (fun w=>by kernel_rfl) (fun w=>by kernel_rfl) hc107)) (resC_tmp (by kernel_rfl)) (resC_tmp (by kernel_rfl))) ?_
     exact ⟨zz31, 0, 32, rfl, h⟩
    ·have h := h.2 (ne_of_beq_false hb)
     refine Vc.skip ?_
     refine Vc.seq ?_
     refine Vc.seq ?_
     obtain ⟨vw108, hvw108⟩ : ∃ y, y = vw101.drew := ⟨_, rfl⟩
     have h := h vw108 hvw108
     refine Vc.draw (by kernel_rfl) (fun i=>!(memN [] i)) (.pur 0 (.pur 1 (.pur 2 (.val 3 (.pur 4 (.pur 5 (.pur 6 (.pur 7 (.val 8 (.pur 9 (.pur 10 .fin))))))))))) (by kernel_rfl) ?_
     rw [← hvw108]
     clear hvw108
     refine vcS_pure rfl rfl rfl (Value.pointer vs) (fun w=>by kernel_rfl) ?_
     obtain ⟨p109, hp110, h⟩ := h
     refine vcS_pure rfl rfl rfl (Value.pointer (some p109)) (fun w=>by exact exec_nilCheck rfl (by kernel_rfl) (hp110) w) ?_
     refine vcS_pure rfl rfl rfl (Value.pointer (some (p109.add 9))) (fun w=>by kernel_rfl) ?_
     obtain ⟨t102111, hc112, h⟩ := h
     refine vcS_val rfl rfl rfl (Sl.v t102111) (fun w' hx=>exec_load rfl (by kernel_rfl) (run_load1 (fun w=>by kernel_rfl) ((hc112).ext hx))) ?_
     refine vcS_pure rfl rfl rfl (Value.int .i64 (t102111.len : Int)) (fun w=>by kernel_rfl) ?_
     refine vcS_pure rfl rfl rfl (Value.pointer vs) (fun w=>by kernel_rfl) ?_
     obtain ⟨p113, hp114, h⟩ := h
     refine vcS_pure rfl rfl rfl (Value.pointer (some p113)) (fun w=>by exact exec_nilCheck rfl (by kernel_rfl) (hp114) w) ?_
     refine vcS_pure rfl rfl rfl (Value.pointer (some (p113.add 8))) (fun w=>by kernel_rfl) ?_
     obtain ⟨t107115, hc116, h⟩ := h
     refine vcS_val rfl rfl rfl (Sl.v t107115) (fun w' hx=>exec_load rfl (by kernel_rfl) (run_load1 (fun w=>by kernel_rfl) ((hc116).ext hx))) ?_
     refine vcS_pure rfl rfl rfl (Value.int .i64 (t107115.len : Int)) (fun w=>by kernel_rfl) ?_
     refine vcS_pure rfl rfl rfl (Value.bool ((t102111.len : Int) == (t107115.len : Int))) (fun w=>by kernel_rfl) ?_
     refine vcS_fin ?_
     refine Vc.cond ((t102111.len : Int) == (t107115.len : Int)) (by kernel_rfl) (fun hb=>?_) (fun hb=>?_)
     ·have h := h.1 (eq_of_beq hb)
      refine Vc.seq ?_
      refine Vc.region ?_
      refine vcL_pure rfl rfl (Value.pointer vs) (fun w=>by kernel_rfl) ?_
      obtain ⟨p117, hp118, h⟩ := h
      refine vcL_pure rfl rfl (Value.pointer (some p117)) (fun w=>by exact exec_nilCheck rfl (by kernel_rfl) (hp118) w) ?_
      refine vcL_pure rfl rfl (Value.pointer (some (p117.add 8))) (fun w=>by kernel_rfl) ?_
      obtain ⟨t113119, hc120, h⟩ := h
      refine vcL_val rfl rfl (Sl.v t113119) (exec_load rfl (by kernel_rfl) (run_load1 (fun w=>by kernel_rfl) ((hc120)))) ?_
      refine vcL_purs 2 [(115, (Value.int .i64 decisions)), (114, (Value.agg #[(Sl.v t113119)]))] (by kernel_rfl) ?_
      refine vcL_eff rfl (opVC_store rfl rfl (a := a3) (by kernel_rfl) (v := (Value.agg #[(Sl.v t113119)])) (by kernel_rfl) [(Sl.v t113119)] (by kernel_rfl) (fun w=>by kernel_rfl) (by kernel_rfl) (stw.mono h fun vw121 h=>?_))
      refine vcL_purs 2 [(12, (Value.int .i64 0)), (11, (Value.int .i64 decisions))] (by kernel_rfl) ?_
      refine vcL_nil ?_
      refine Vc.ret ?_
      refine gotoX_ret ?_
      refine outs_ret ?_
      obtain ⟨zz32, hc123, h⟩ := h
      refine done_mk (Value.tuple #[(Value.agg #[(Sl.v zz32)]), (Value.int .i64 decisions), (Value.int .i64 0)]) (res3 (resC_cell (by kernel_rfl) (run_loadN (fun w=>by kernel_rfl) (fun w=>by kernel_rfl) hc123)) (resC_tmp (by kernel_rfl)) (resC_tmp (by kernel_rfl))) ?_
      exact ⟨zz32, decisions, 0, rfl, h⟩
     ·have h := h.2 (ne_of_beq_false hb)
      refine Vc.skip ?_
      refine Vc.seq ?_
      refine Vc.region ?_
      refine vcL_pure rfl rfl (Value.pointer vs) (fun w=>by kernel_rfl) ?_
      refine vcL_eff rfl (opVC_call rfl (by kernel_rfl) (callS.mono h fun v125 vw124 h=>?_))
      obtain ⟨rfl, h⟩ := h
      refine vcL_nil ?_
      refine Vc.seq ?_
      refine Vc.goto ?_
      refine gotoX_hit ⟨by kernel_rfl, ?_⟩
      exact ⟨(vs, decisions), 193, ⟨rfl, by kernel_rfl, by kernel_rfl, by kernel_rfl⟩, h⟩
 ·rintro ⟨vs, decisions⟩ vw56 j h
  have h := (hr 0 vs decisions vw56 h).2.1 rfl
  refine Vc.seq ?_
  refine Vc.skip ?_
  refine Vc.seq ?_
  refine Vc.seq ?_
  obtain ⟨vw127, hvw127⟩ : ∃ y, y = vw56.drew := ⟨_, rfl⟩
  have h := h vw127 hvw127
  refine Vc.draw (by kernel_rfl) (fun i=>!(memN [13] i)) (.pur 0 (.pur 1 (.pur 2 (.val 3 (.pur 4 (.pur 5 (.pur 6 (.val 7 (.pur 8 (.pur 9 (.pur 10 (.val 11 (.eff 12 (.eff 13 .fin .stop) .stop))))))))))))) (by kernel_rfl) ?_
  rw [← hvw127]
  clear hvw127
  refine vcS_pure rfl rfl rfl (Value.pointer vs) (fun w=>by kernel_rfl) ?_
  obtain ⟨p128, hp129, h⟩ := h
  refine vcS_pure rfl rfl rfl (Value.pointer (some p128)) (fun w=>by exact exec_nilCheck rfl (by kernel_rfl) (hp129) w) ?_
  refine vcS_pure rfl rfl rfl (Value.pointer (some (p128.add 7))) (fun w=>by kernel_rfl) ?_
  obtain ⟨t121, hc130, h⟩ := h
  refine vcS_val rfl rfl rfl (Sl.v t121) (fun w' hx=>exec_load rfl (by kernel_rfl) (run_load1 (fun w=>by kernel_rfl) ((hc130).ext hx))) ?_
  refine vcS_pure rfl rfl rfl (Value.pointer vs) (fun w=>by kernel_rfl) ?_
  obtain ⟨p131, hp132, h⟩ := h
  refine vcS_pure rfl rfl rfl (Value.pointer (some p131)) (fun w=>by exact exec_nilCheck rfl (by kernel_rfl) (hp132) w) ?_
  refine vcS_pure rfl rfl rfl (Value.pointer (some (p131.add 7))) (fun w=>by kernel_rfl) ?_
  obtain ⟨t125, hc133, h⟩ := h
  refine vcS_val rfl rfl rfl (Sl.v t125) (fun w' hx=>exec_load rfl (by kernel_rfl) (run_load1 (fun w=>by kernel_rfl) ((hc133).ext hx))) ?_
  refine vcS_pure rfl rfl rfl (Value.int .i64 (t125.len : Int)) (fun w=>by kernel_rfl) ?_
  refine vcS_pure rfl rfl rfl (Value.int .i64 (wrapI ((t125.len : Int) - 1))) (fun w=>by kernel_rfl) ?_
  obtain ⟨ad134, hi135, h⟩ := h
  refine vcS_pure rfl rfl rfl (Value.pointer (some (ad134.add ((wrapI ((t125.len : Int) - 1)).toNat * 5)))) (fun w=>by exact exec_indexAt (s := t121) (el := 81) rfl (by kernel_rfl) (by kernel_rfl) (by kernel_rfl) (fun w=>by kernel_rfl) (hi135).1 (hi135).2.1 (hi135).2.2 w) ?_
  obtain ⟨t129_node, t129_name, t129_versions, t129_none, t129_at, hc136, h⟩ := h
  refine vcS_val rfl rfl rfl (Value.agg #[(Value.int .i64 t129_node), (Value.string t129_name), (Sl.v t129_versions), (Value.bool t129_none), (Value.int .i64 t129_at)]) (fun w' hx=>exec_load rfl (by kernel_rfl) (run_loadN (fun w=>by kernel_rfl) (fun w=>by kernel_rfl) ((hc136).ext hx))) ?_
  refine vcS_eff rfl rfl (opVC_new rfl (fun a=>Value.pointer (some a)) (by kernel_rfl) (newS.mono h fun a137 vw138 hx h=>?_)) vcS_stop
  refine ⟨fun _ => hx, ?_⟩
  refine vcS_eff rfl rfl (opVC_store rfl rfl (a := a137) (by kernel_rfl) (v := (Value.agg #[(Value.int .i64 t129_node), (Value.string t129_name), (Sl.v t129_versions), (Value.bool t129_none), (Value.int .i64 t129_at)])) (by kernel_rfl) [(Value.int .i64 t129_node), (Value.string t129_name), (Sl.v t129_versions), (Value.bool t129_none), (Value.int .i64 t129_at)] (by kernel_rfl) (fun w=>by kernel_rfl) (by kernel_rfl) (stw.mono h fun vw139 h=>?_)) vcS_stop
  refine ⟨fun hb=>absurd hb (by decide), ?_⟩
  refine vcS_fin ?_
  refine Vc.seq ?_
  obtain ⟨vw140, hvw140⟩ : ∃ y, y = vw139.drew := ⟨_, rfl⟩
  have h := h vw140 hvw140
  refine Vc.draw (by kernel_rfl) (fun i=>!(memN [] i)) (.pur 0 (.val 1 (.val 2 (.eff 3 (.pur 4 .fin) .stop)))) (by kernel_rfl) ?_
  rw [← hvw140]
  clear hvw140
  refine vcS_pure rfl rfl rfl (Value.pointer (some (a137.add 4))) (fun w=>by kernel_rfl) ?_
  obtain ⟨t131, hc141, h⟩ := h
  refine vcS_val rfl rfl rfl (Value.int .i64 t131) (fun w' hx=>exec_load rfl (by kernel_rfl) (run_load1 (fun w=>by kernel_rfl) ((hc141).ext hx))) ?_
  obtain ⟨t132_node, t132_name, t132_versions, t132_none, t132_at, hc142, h⟩ := h
  refine vcS_val rfl rfl rfl (Value.agg #[(Value.int .i64 t132_node), (Value.string t132_name), (Sl.v t132_versions), (Value.bool t132_none), (Value.int .i64 t132_at)]) (fun w' hx=>exec_load rfl (by kernel_rfl) (run_loadN (fun w=>by kernel_rfl) (fun w=>by kernel_rfl) ((hc142).ext hx))) ?_
  refine vcS_eff rfl rfl (opVC_call rfl (by kernel_rfl) (callS.mono h fun v144 vw143 h=>?_)) vcS_stop
  obtain ⟨hx145, h⟩ := h
  obtain ⟨t133, rfl, h⟩ := h
  refine ⟨fun _ => hx145, ?_⟩
  refine vcS_pure rfl rfl rfl (Value.bool (decide (t131 < t133))) (fun w=>by kernel_rfl) ?_
  refine vcS_fin ?_
  refine Vc.cond (decide (t131 < t133)) (by kernel_rfl) (fun hb=>?_) (fun hb=>?_)
  ·have h := h.1 (of_decide_eq_true hb)
   refine Vc.seq ?_
   refine Vc.seq ?_
   refine Vc.region ?_
   refine vcL_purs 2 [(136, (Value.pointer (some a1))), (135, (Value.int .i64 decisions))] (by kernel_rfl) ?_
   obtain ⟨t137, hc146, h⟩ := h
   refine vcL_val rfl rfl (Value.int .i64 t137) (exec_load rfl (by kernel_rfl) (run_load1 (fun w=>by kernel_rfl) ((hc146)))) ?_
   refine vcL_pure rfl rfl (Value.bool (decisions == t137)) (fun w=>by kernel_rfl) ?_
   refine vcL_nil ?_
   refine Vc.cond (decisions == t137) (by kernel_rfl) (fun hb=>?_) (fun hb=>?_)
   ·have h := h.1 (eq_of_beq hb)
    refine Vc.seq ?_
    refine Vc.region ?_
    refine vcL_pure rfl rfl (Value.agg #[(Sl.v Sl.nil)]) (fun w=>by kernel_rfl) ?_
    refine vcL_eff rfl (opVC_store rfl rfl (a := a3) (by kernel_rfl) (v := (Value.agg #[(Sl.v Sl.nil)])) (by kernel_rfl) [(Sl.v Sl.nil)] (by kernel_rfl) (fun w=>by kernel_rfl) (by kernel_rfl) (stw.mono h fun vw147 h=>?_))
    refine vcL_purs 2 [(12, (Value.int .i64 31)), (11, (Value.int .i64 0))] (by kernel_rfl) ?_
    refine vcL_nil ?_
    refine Vc.ret ?_
    refine gotoX_ret ?_
    refine outs_ret ?_
    obtain ⟨zz33, hc149, h⟩ := h
    refine done_mk (Value.tuple #[(Value.agg #[(Sl.v zz33)]), (Value.int .i64 0), (Value.int .i64 31)]) (res3 (resC_cell (by kernel_rfl) (run_loadN (fun w=>by kernel_rfl) (fun w=>by kernel_rfl) hc149)) (resC_tmp (by kernel_rfl)) (resC_tmp (by kernel_rfl))) ?_
    exact ⟨zz33, 0, 31, rfl, h⟩
   ·have h := h.2 (ne_of_beq_false hb)
    refine Vc.skip ?_
    refine Vc.seq ?_
    refine Vc.region ?_
    refine vcL_purs 3 [(14, (Value.int .i64 (wrapI (decisions + 1)))), (141, (Value.int .i64 (wrapI (decisions + 1)))), (140, (Value.int .i64 decisions))] (by kernel_rfl) ?_
    refine vcL_nil ?_
    refine Vc.goto ?_
    refine gotoX_hit ⟨by kernel_rfl, ?_⟩
    exact ⟨(vs, (wrapI (decisions + 1))), 179, ⟨rfl, by kernel_rfl, by kernel_rfl, by kernel_rfl⟩, h⟩
  ·have h := h.2 (of_decide_eq_false hb)
   refine Vc.skip ?_
   refine Vc.seq ?_
   obtain ⟨vw150, hvw150⟩ : ∃ y, y = vw143.drew := ⟨_, rfl⟩
   have h := h vw150 hvw150
   refine Vc.draw (by kernel_rfl) (fun i=>!(memN [14] i)) (.pur 0 (.pur 1 (.pur 2 (.pur 3 (.val 4 (.pur 5 (.pur 6 (.pur 7 (.val 8 (.pur 9 (.pur 10 (.pur 11 (.pur 12 (.pur 13 (.eff 14 .fin .stop))))))))))))))) (by kernel_rfl) ?_
   rw [← hvw150]
   clear hvw150
   refine vcS_pure rfl rfl rfl (Value.pointer vs) (fun w=>by kernel_rfl) ?_
   refine vcS_pure rfl rfl rfl (Value.pointer vs) (fun w=>by kernel_rfl) ?_
   obtain ⟨p151, hp152, h⟩ := h
   refine vcS_pure rfl rfl rfl (Value.pointer (some p151)) (fun w=>by exact exec_nilCheck rfl (by kernel_rfl) (hp152) w) ?_
   refine vcS_pure rfl rfl rfl (Value.pointer (some (p151.add 7))) (fun w=>by kernel_rfl) ?_
   obtain ⟨t146, hc153, h⟩ := h
   refine vcS_val rfl rfl rfl (Sl.v t146) (fun w' hx=>exec_load rfl (by kernel_rfl) (run_load1 (fun w=>by kernel_rfl) ((hc153).ext hx))) ?_
   refine vcS_pure rfl rfl rfl (Value.pointer vs) (fun w=>by kernel_rfl) ?_
   obtain ⟨p154, hp155, h⟩ := h
   refine vcS_pure rfl rfl rfl (Value.pointer (some p154)) (fun w=>by exact exec_nilCheck rfl (by kernel_rfl) (hp155) w) ?_
   refine vcS_pure rfl rfl rfl (Value.pointer (some (p154.add 7))) (fun w=>by kernel_rfl) ?_
   obtain ⟨t150, hc156, h⟩ := h
   refine vcS_val rfl rfl rfl (Sl.v t150) (fun w' hx=>exec_load rfl (by kernel_rfl) (run_load1 (fun w=>by kernel_rfl) ((hc156).ext hx))) ?_
   refine vcS_pure rfl rfl rfl (Value.int .i64 (t150.len : Int)) (fun w=>by kernel_rfl) ?_
   refine vcS_pure rfl rfl rfl (Value.int .i64 (wrapI ((t150.len : Int) - 1))) (fun w=>by kernel_rfl) ?_
   obtain ⟨hi157, h⟩ := h
   refine vcS_pure rfl rfl rfl (Sl.v (Sl.cut t146 0 ((wrapI ((t150.len : Int) - 1)).toNat) 5)) (fun w=>by exact exec_slSlH (s := t146) (el := 81) (k2 := .i64) rfl (by kernel_rfl) (by kernel_rfl) (by kernel_rfl) (fun w=>by kernel_rfl) (hi157) w) ?_
   obtain ⟨p158, hp159, h⟩ := h
   refine vcS_pure rfl rfl rfl (Value.pointer (some p158)) (fun w=>by exact exec_nilCheck rfl (by kernel_rfl) (hp159) w) ?_
   refine vcS_pure rfl rfl rfl (Value.pointer (some (p158.add 7))) (fun w=>by kernel_rfl) ?_
   refine vcS_eff rfl rfl (opVC_store rfl rfl (a := (p158.add 7)) (by kernel_rfl) (v := (Sl.v (Sl.cut t146 0 ((wrapI ((t150.len : Int) - 1)).toNat) 5))) (by kernel_rfl) [(Sl.v (Sl.cut t146 0 ((wrapI ((t150.len : Int) - 1)).toNat) 5))] (by kernel_rfl) (fun w=>by kernel_rfl) (by kernel_rfl) (stw.mono h fun vw160 h=>?_)) vcS_stop
   refine ⟨fun hb=>absurd hb (by decide), ?_⟩
   refine vcS_fin ?_
   refine Vc.seq ?_
   refine Vc.label ?_
   refine Vc.seq ?_
   refine Vc.seq ?_
   refine Vc.region ?_
   refine vcL_pure rfl rfl (Value.pointer vs) (fun w=>by kernel_rfl) ?_
   obtain ⟨p161, hp162, h⟩ := h
   refine vcL_pure rfl rfl (Value.pointer (some p161)) (fun w=>by exact exec_nilCheck rfl (by kernel_rfl) (hp162) w) ?_
   refine vcL_pure rfl rfl (Value.pointer (some (p161.add 7))) (fun w=>by kernel_rfl) ?_
   obtain ⟨t159, hc163, h⟩ := h
   refine vcL_val rfl rfl (Sl.v t159) (exec_load rfl (by kernel_rfl) (run_load1 (fun w=>by kernel_rfl) ((hc163)))) ?_
   refine vcL_purs 2 [(161, (Value.bool ((t159.len : Int) == 0))), (160, (Value.int .i64 (t159.len : Int)))] (by kernel_rfl) ?_
   refine vcL_nil ?_
   refine Vc.cond ((t159.len : Int) == 0) (by kernel_rfl) (fun hb=>?_) (fun hb=>?_)
   ·have h := h.1 (eq_of_beq hb)
    refine Vc.seq ?_
    refine Vc.region ?_
    refine vcL_pure rfl rfl (Value.agg #[(Sl.v Sl.nil)]) (fun w=>by kernel_rfl) ?_
    refine vcL_eff rfl (opVC_store rfl rfl (a := a3) (by kernel_rfl) (v := (Value.agg #[(Sl.v Sl.nil)])) (by kernel_rfl) [(Sl.v Sl.nil)] (by kernel_rfl) (fun w=>by kernel_rfl) (by kernel_rfl) (stw.mono h fun vw164 h=>?_))
    refine vcL_purs 2 [(12, (Value.int .i64 30)), (11, (Value.int .i64 0))] (by kernel_rfl) ?_
    refine vcL_nil ?_
    refine Vc.ret ?_
    refine gotoX_ret ?_
    refine outs_ret ?_
    obtain ⟨zz34, hc166, h⟩ := h
    refine done_mk (Value.tuple #[(Value.agg #[(Sl.v zz34)]), (Value.int .i64 0), (Value.int .i64 30)]) (res3 (resC_cell (by kernel_rfl) (run_loadN (fun w=>by kernel_rfl) (fun w=>by kernel_rfl) hc166)) (resC_tmp (by kernel_rfl)) (resC_tmp (by kernel_rfl))) ?_
    exact ⟨zz34, 0, 30, rfl, h⟩
   ·have h := h.2 (ne_of_beq_false hb)
    refine Vc.skip ?_
    refine Vc.seq ?_
    refine Vc.region ?_
    refine vcL_pure rfl rfl (Value.pointer vs) (fun w=>by kernel_rfl) ?_
    refine vcL_eff rfl (opVC_call rfl (by kernel_rfl) (callS.mono h fun v168 vw167 h=>?_))
    obtain ⟨rfl, h⟩ := h
    refine vcL_nil ?_
    refine Vc.goto ?_
    refine gotoX_hit ⟨by kernel_rfl, ?_⟩
    exact ⟨(vs, decisions), 194, ⟨rfl, by kernel_rfl, by kernel_rfl, by kernel_rfl⟩, h⟩
 ·rintro ⟨vs, decisions⟩ vw56 j h
  have h := (hr 2 vs decisions vw56 h).2.2 rfl
  refine Vc.seq ?_
  refine Vc.skip ?_
  refine Vc.seq ?_
  refine Vc.seq ?_
  refine Vc.region ?_
  refine vcL_pure rfl rfl (Value.pointer vs) (fun w=>by kernel_rfl) ?_
  obtain ⟨p170, hp171, h⟩ := h
  refine vcL_pure rfl rfl (Value.pointer (some p170)) (fun w=>by exact exec_nilCheck rfl (by kernel_rfl) (hp171) w) ?_
  refine vcL_pure rfl rfl (Value.pointer (some (p170.add 7))) (fun w=>by kernel_rfl) ?_
  obtain ⟨t159172, hc173, h⟩ := h
  refine vcL_val rfl rfl (Sl.v t159172) (exec_load rfl (by kernel_rfl) (run_load1 (fun w=>by kernel_rfl) ((hc173)))) ?_
  refine vcL_purs 2 [(161, (Value.bool ((t159172.len : Int) == 0))), (160, (Value.int .i64 (t159172.len : Int)))] (by kernel_rfl) ?_
  refine vcL_nil ?_
  refine Vc.cond ((t159172.len : Int) == 0) (by kernel_rfl) (fun hb=>?_) (fun hb=>?_)
  ·have h := h.1 (eq_of_beq hb)
   refine Vc.seq ?_
   refine Vc.region ?_
   refine vcL_pure rfl rfl (Value.agg #[(Sl.v Sl.nil)]) (fun w=>by kernel_rfl) ?_
   refine vcL_eff rfl (opVC_store rfl rfl (a := a3) (by kernel_rfl) (v := (Value.agg #[(Sl.v Sl.nil)])) (by kernel_rfl) [(Sl.v Sl.nil)] (by kernel_rfl) (fun w=>by kernel_rfl) (by kernel_rfl) (stw.mono h fun vw174 h=>?_))
   refine vcL_purs 2 [(12, (Value.int .i64 30)), (11, (Value.int .i64 0))] (by kernel_rfl) ?_
   refine vcL_nil ?_
   refine Vc.ret ?_
   refine gotoX_ret ?_
   refine outs_ret ?_
   obtain ⟨zz35, hc176, h⟩ := h
   refine done_mk (Value.tuple #[(Value.agg #[(Sl.v zz35)]), (Value.int .i64 0), (Value.int .i64 30)]) (res3 (resC_cell (by kernel_rfl) (run_loadN (fun w=>by kernel_rfl) (fun w=>by kernel_rfl) hc176)) (resC_tmp (by kernel_rfl)) (resC_tmp (by kernel_rfl))) ?_
   exact ⟨zz35, 0, 30, rfl, h⟩
  ·have h := h.2 (ne_of_beq_false hb)
   refine Vc.skip ?_
   refine Vc.seq ?_
   refine Vc.region ?_
   refine vcL_pure rfl rfl (Value.pointer vs) (fun w=>by kernel_rfl) ?_
   refine vcL_eff rfl (opVC_call rfl (by kernel_rfl) (callS.mono h fun v178 vw177 h=>?_))
   obtain ⟨rfl, h⟩ := h
   refine vcL_nil ?_
   refine Vc.goto ?_
   refine gotoX_hit ⟨by kernel_rfl, ?_⟩
   exact ⟨(vs, decisions), 162, ⟨rfl, by kernel_rfl, by kernel_rfl, by kernel_rfl⟩, h⟩
theorem resolve_Run.go {c : Option Addr} {zz5 : Sl} {zz6 : Sl} {zz7 : Sl} {zz8 : Sl} {dev : Bool} {pins : Sl} {zz2d : Int} {zz2f : Int} {zz2e : Int} {zz2g : Int} {w : World} {k : Value → World → Prop} (h : resolve_Run c zz5 zz6 zz7 zz8 dev pins zz2d zz2f zz2e zz2g w fun r0 r1 r2 w'=>k (Value.tuple #[(Value.agg #[(Sl.v r0)]), (Value.int .i64 r1), (Value.int .i64 r2)]) w') : callS Tryz.prog 13 [(Value.pointer c), (Value.agg #[(Sl.v zz5), (Sl.v zz6), (Sl.v zz7), (Sl.v zz8)]), (Value.bool dev), (Sl.v pins), (Value.agg #[(Value.int .i64 zz2d), (Value.int .i64 zz2f), (Value.int .i64 zz2e), (Value.int .i64 zz2g)])] w k := (resolve_Run.sound c zz5 zz6 zz7 zz8 dev pins zz2d zz2f zz2e zz2g w _ h).mono (by rintro _ _ ⟨r0, r1, r2, rfl, h⟩; exact h)
def halyardref07_Same (zz2x : Sl) (zz2y : Sl) (w : World) (R : Bool → World → Prop) : Prop :=
 newS w [(Sl.v zz2x)] 38 fun a vw=>newS vw [(Sl.v zz2y)] 38 fun a1 vw2=>∃ (t11 : Sl), (ldc vw2 a [(Sl.v t11)]) ∧ ∃ (t14 : Sl), (ldc vw2 a1 [(Sl.v t14)]) ∧ ((¬ (t11.len : Int) = (t14.len : Int) → R false vw2) ∧ (¬ (¬ (t11.len : Int) = (t14.len : Int)) → loop1 0 vw2 fun i vw4 nxt=>∃ (t19 : Sl), (ldc vw4 a [(Sl.v t19)]) ∧ ((i < (t19.len : Int) → ∃ (t25 : Sl), (ldc vw4 a [(Sl.v t25)]) ∧ ∃ (ad : Addr), (t25.a = some ad ∧ (0 : Int) ≤ i ∧ i < (t25.len : Int)) ∧ ∃ (zz98 : ByteArray) (zz99 : Int) (zz9a : Int) (zz9b : Int) (zz96 : Sl) (zz97 : Sl), (ldc vw4 (ad.add (i.toNat * 6)) [(Value.string zz98), (Value.int .i64 zz99), (Value.int .i64 zz9a), (Value.int .i64 zz9b), (Sl.v zz96), (Sl.v zz97)]) ∧ newS vw4 [(Value.string (ByteArray.mk #[])), (Value.int .i64 0), (Value.int .i64 0), (Value.int .i64 0), (Sl.v Sl.nil), (Sl.v Sl.nil)] 65 fun a8 vw9=>stw vw9 a8 [(Value.string zz98), (Value.int .i64 zz99), (Value.int .i64 zz9a), (Value.int .i64 zz9b), (Sl.v zz96), (Sl.v zz97)] fun vw10=>∃ (t30 : Sl), (ldc vw10 a1 [(Sl.v t30)]) ∧ ∃ (ad12 : Addr), (t30.a = some ad12 ∧ (0 : Int) ≤ i ∧ i < (t30.len : Int)) ∧ ∃ (zz4d : ByteArray) (zz4e : Int) (zz4f : Int) (zz4g : Int) (zz9f : Sl) (zz9h : Sl), (ldc vw10 (ad12.add (i.toNat * 6)) [(Value.string zz4d), (Value.int .i64 zz4e), (Value.int .i64 zz4f), (Value.int .i64 zz4g), (Sl.v zz9f), (Sl.v zz9h)]) ∧ newS vw10 [(Value.string (ByteArray.mk #[])), (Value.int .i64 0), (Value.int .i64 0), (Value.int .i64 0), (Sl.v Sl.nil), (Sl.v Sl.nil)] 65 fun a15 vw16=>stw vw16 a15 [(Value.string zz4d), (Value.int .i64 zz4e), (Value.int .i64 zz4f), (Value.int .i64 zz4g), (Sl.v zz9f), (Sl.v zz9h)] fun vw17=>∃ (t35 : ByteArray), (ldc vw17 a8 [(Value.string t35)]) ∧ ∃ (t37 : ByteArray), (ldc vw17 a15 [(Value.string t37)]) ∧ bnd (!bEq t35 t37) fun (b : Bool)=>∃ (zza0 : Int) (zza1 : Int) (zza6 : Int), grd (!b) (ldc vw17 (a8.add 1) [(Value.int .i64 zza0), (Value.int .i64 zza1), (Value.int .i64 zza6)]) ∧ ∃ (zzam : Int) (zzan : Int) (zzao : Int), grd (!b) (ldc vw17 (a15.add 1) [(Value.int .i64 zzam), (Value.int .i64 zzan), (Value.int .i64 zzao)]) ∧ bnd (b || (!((zza0 == zzam) && ((zza1 == zzan) && ((zza6 == zzao) && true))))) fun (b22 : Bool)=>∃ (t48 : Sl), grd (!b22) (ldc vw17 (a8.add 4) [(Sl.v t48)]) ∧ ∃ (t51 : Sl), grd (!b22) (ldc vw17 (a15.add 4) [(Sl.v t51)]) ∧ bnd (b22 || (!((t48.len : Int) == (t51.len : Int)))) fun (b25 : Bool)=>∃ (t57 : Sl), grd (!b25) (ldc vw17 (a8.add 5) [(Sl.v t57)]) ∧ ∃ (t60 : Sl), grd (!b25) (ldc vw17 (a15.add 5) [(Sl.v t60)]) ∧ (((b25 || (!((t57.len : Int) == (t60.len : Int)))) = true → R false vw17) ∧ ((b25 || (!((t57.len : Int) == (t60.len : Int)))) = false → loop1 0 vw17 fun vk vw28 nxt29=>∃ (t66 : Sl), (ldc vw28 (a8.add 4) [(Sl.v t66)]) ∧ ((vk < (t66.len : Int) → bnd vw28.drew fun (vw31 : World)=>∃ (t72 : Sl), (ldc vw31 (a8.add 4) [(Sl.v t72)]) ∧ ∃ (ad33 : Addr), (t72.a = some ad33 ∧ (0 : Int) ≤ vk ∧ vk < (t72.len : Int)) ∧ ∃ (zz6h : ByteArray) (zz6i : Int) (zz6j : Int) (zz6k : Int), (ldc vw31 (ad33.add (vk.toNat * 4)) [(Value.string zz6h), (Value.int .i64 zz6i), (Value.int .i64 zz6j), (Value.int .i64 zz6k)]) ∧ ∃ (t77 : Sl), (ldc vw31 (a15.add 4) [(Sl.v t77)]) ∧ ∃ (ad37 : Addr), (t77.a = some ad37 ∧ (0 : Int) ≤ vk ∧ vk < (t77.len : Int)) ∧ ∃ (zz6l : ByteArray) (zz6m : Int) (zz6n : Int) (zz6o : Int), (ldc vw31 (ad37.add (vk.toNat * 4)) [(Value.string zz6l), (Value.int .i64 zz6m), (Value.int .i64 zz6n), (Value.int .i64 zz6o)]) ∧ (((!((bEq zz6h zz6l) && (((zz6i == zz6m) && ((zz6j == zz6n) && ((zz6k == zz6o) && true))) && true))) = true → R false vw31) ∧ ((!((bEq zz6h zz6l) && (((zz6i == zz6m) && ((zz6j == zz6n) && ((zz6k == zz6o) && true))) && true))) = false → nxt29 (wrapI (vk + 1)) vw31))) ∧ (¬ (vk < (t66.len : Int)) → loop1 0 vw28 fun vk40 vw41 nxt42=>∃ (t84 : Sl), (ldc vw41 (a8.add 5) [(Sl.v t84)]) ∧ ((vk40 < (t84.len : Int) → bnd vw41.drew fun (vw44 : World)=>∃ (t90 : Sl), (ldc vw44 (a8.add 5) [(Sl.v t90)]) ∧ ∃ (ad46 : Addr), (t90.a = some ad46 ∧ (0 : Int) ≤ vk40 ∧ vk40 < (t90.len : Int)) ∧ ∃ (zz6p : ByteArray) (zz6q : Int), (ldc vw44 (ad46.add (vk40.toNat * 2)) [(Value.string zz6p), (Value.int .i64 zz6q)]) ∧ ∃ (t95 : Sl), (ldc vw44 (a15.add 5) [(Sl.v t95)]) ∧ ∃ (ad50 : Addr), (t95.a = some ad50 ∧ (0 : Int) ≤ vk40 ∧ vk40 < (t95.len : Int)) ∧ ∃ (zz6r : ByteArray) (zz6s : Int), (ldc vw44 (ad50.add (vk40.toNat * 2)) [(Value.string zz6r), (Value.int .i64 zz6s)]) ∧ (((!((bEq zz6p zz6r) && ((zz6q == zz6s) && true))) = true → R false vw44) ∧ ((!((bEq zz6p zz6r) && ((zz6q == zz6s) && true))) = false → nxt42 (wrapI (vk40 + 1)) vw44))) ∧ (¬ (vk40 < (t84.len : Int)) → nxt (wrapI (i + 1)) vw41))))))) ∧ (¬ (i < (t19.len : Int)) → R true vw4))))
theorem halyardref07_Same.go {zz2x : Sl} {zz2y : Sl} {w : World} {k : Value → World → Prop} (h : halyardref07_Same zz2x zz2y w fun r0 w'=>k (Value.bool r0) w') : callS Tryz.prog 15 [(Value.agg #[(Sl.v zz2x)]), (Value.agg #[(Sl.v zz2y)])] w k := rgo (sk := (.s (.r []) (.s (.s (.r []) (.c (.s (.r []) .o) .o)) (.s (.s (.r []) (.b (.l [(5, 4)] (.s (.s (.r []) (.c .o .o)) (.s (.b (.s (.r []) (.s (.r []) (.s (.s (.r []) (.c (.s (.r []) .o) .o)) (.s (.s (.r []) (.b (.l [(8, 4)] (.s (.s (.r []) (.c .o .o)) (.s (.b (.s (.r []) (.c (.s (.r []) .o) .o))) (.r [])))))) (.s (.r []) (.b (.l [(9, 4)] (.s (.s (.r []) (.c .o .o)) (.s (.b (.s (.r []) (.c (.s (.r []) .o) .o))) (.r []))))))))))) (.r [])))))) (.s (.r []) .o))))) (args := [sv (Value.agg #[(Sl.v zz2x)]), sv (Value.agg #[(Sl.v zz2y)])]) Tryz.func15 (Eq.mpr (by kernel_rfl) h)
def catalog_Catalog_Put (c : Option Addr) (zz1 : ByteArray) (zz2 : Int) (zz3 : Int) (zz4 : Int) (zz9 : Sl) (zzb : Sl) (zza : Sl) (w : World) (R : Int → World → Prop) : Prop :=
 newS w [(Value.string zz1), (Value.int .i64 zz2), (Value.int .i64 zz3), (Value.int .i64 zz4), (Sl.v zz9), (Sl.v zzb), (Sl.v zza)] 48 fun a vw=>∃ (zzd0 : ByteArray) (zzd3 : Int) (zzd4 : Int) (zzd5 : Int) (zzcz : Sl) (zzd2 : Sl) (zzd1 : Sl), (ldc vw a [(Value.string zzd0), (Value.int .i64 zzd3), (Value.int .i64 zzd4), (Value.int .i64 zzd5), (Sl.v zzcz), (Sl.v zzd2), (Sl.v zzd1)]) ∧ callS Tryz.prog 32 [(Value.agg #[(Value.string zzd0), (Value.int .i64 zzd3), (Value.int .i64 zzd4), (Value.int .i64 zzd5), (Sl.v zzcz), (Sl.v zzd2), (Sl.v zzd1)])] vw fun v vw1=>∃ (t9 : Bool), v = (Value.bool t9) ∧ (((!t9) = true → R 24 vw1) ∧ ((!t9) = false → ∃ (t12 : ByteArray), (ldc vw1 a [(Value.string t12)]) ∧ ∃ (zz7w : Int) (zz7x : Int) (zz7y : Int), (ldc vw1 (a.add 1) [(Value.int .i64 zz7w), (Value.int .i64 zz7x), (Value.int .i64 zz7y)]) ∧ newS vw1 [(Value.string (ByteArray.mk #[])), (Value.int .i64 0), (Value.int .i64 0), (Value.int .i64 0)] 93 fun a4 vw5=>stw vw5 a4 [(Value.string t12), (Value.int .i64 zz7w), (Value.int .i64 zz7x), (Value.int .i64 zz7y)] fun vw6=>bnd vw6.drew fun (vw7 : World)=>∃ (p : Addr), (c = some p) ∧ ∃ (t20 : Option Nat), (ldc vw7 p [(Value.map t20)]) ∧ ∃ (t21_name : ByteArray) (zz8u : Int) (zz8v : Int) (zz8w : Int), (ldc vw7 a4 [(Value.string t21_name), (Value.int .i64 zz8u), (Value.int .i64 zz8v), (Value.int .i64 zz8w)]) ∧ ∃ (zz41 : ByteArray) (zz44 : Int) (zz45 : Int) (zz46 : Int) (zz40 : Sl) (zz43 : Sl) (zz42 : Sl) (t22b : Bool), (stabS Tryz.prog (Instr.lookup 95 (Value.map t20) (Value.agg #[(Value.string t21_name), (Value.int .i64 zz8u), (Value.int .i64 zz8v), (Value.int .i64 zz8w)]) true) vw7 (Value.tuple #[(Value.agg #[(Value.string zz41), (Value.int .i64 zz44), (Value.int .i64 zz45), (Value.int .i64 zz46), (Sl.v zz40), (Sl.v zz43), (Sl.v zz42)]), (Value.bool t22b)])) ∧ newS vw7 [(Value.string (ByteArray.mk #[])), (Value.int .i64 0), (Value.int .i64 0), (Value.int .i64 0), (Sl.v Sl.nil), (Sl.v Sl.nil), (Sl.v Sl.nil)] 48 fun a12 vw13=>stw vw13 a12 [(Value.string zz41), (Value.int .i64 zz44), (Value.int .i64 zz45), (Value.int .i64 zz46), (Sl.v zz40), (Sl.v zz43), (Sl.v zz42)] fun vw14=>((t22b = true → R 11 vw14) ∧ (t22b = false → ∃ (p15 : Addr), (c = some p15) ∧ ∃ (t29 : Option Nat), (ldc vw14 p15 [(Value.map t29)]) ∧ ∃ (t30 : Int), (stabS Tryz.prog (Builtin.len_ #[95] 3 #[(Value.map t29)]) vw14 (Value.int .i64 t30)) ∧ ((128 ≤ t30 → R 26 vw14) ∧ (¬ (128 ≤ t30) → bnd vw14.drew fun (vw19 : World)=>∃ (p20 : Addr), (c = some p20) ∧ ∃ (t35 : Option Nat), (ldc vw19 p20 [(Value.map t35)]) ∧ ∃ (t36_name : ByteArray) (zz9n : Int) (zz9o : Int) (zz9p : Int), (ldc vw19 a4 [(Value.string t36_name), (Value.int .i64 zz9n), (Value.int .i64 zz9o), (Value.int .i64 zz9p)]) ∧ ∃ (zz2h : ByteArray) (zz4k : Int) (zz4l : Int) (zz4m : Int) (zz4h : Sl) (zz4j : Sl) (zz4i : Sl), (ldc vw19 a [(Value.string zz2h), (Value.int .i64 zz4k), (Value.int .i64 zz4l), (Value.int .i64 zz4m), (Sl.v zz4h), (Sl.v zz4j), (Sl.v zz4i)]) ∧ callX Tryz.prog 33 [(Value.agg #[(Value.string zz2h), (Value.int .i64 zz4k), (Value.int .i64 zz4l), (Value.int .i64 zz4m), (Sl.v zz4h), (Sl.v zz4j), (Sl.v zz4i)])] vw19 fun v26 vw25=>∃ (zz9s : ByteArray) (zz9v : Int) (zz9w : Int) (zz9x : Int) (zz9r : Sl) (zz9u : Sl) (zz9t : Sl), v26 = (Value.agg #[(Value.string zz9s), (Value.int .i64 zz9v), (Value.int .i64 zz9w), (Value.int .i64 zz9x), (Sl.v zz9r), (Sl.v zz9u), (Sl.v zz9t)]) ∧ semU Tryz.prog (Instr.mapUpdate 95 (Value.map t35) (Value.agg #[(Value.string t36_name), (Value.int .i64 zz9n), (Value.int .i64 zz9o), (Value.int .i64 zz9p)]) (Value.agg #[(Value.string zz9s), (Value.int .i64 zz9v), (Value.int .i64 zz9w), (Value.int .i64 zz9x), (Sl.v zz9r), (Sl.v zz9u), (Sl.v zz9t)])) vw25 fun vw28=>R 0 vw28))))))
theorem catalog_Catalog_Put.go {c : Option Addr} {zz1 : ByteArray} {zz2 : Int} {zz3 : Int} {zz4 : Int} {zz9 : Sl} {zzb : Sl} {zza : Sl} {w : World} {k : Value → World → Prop} (h : catalog_Catalog_Put c zz1 zz2 zz3 zz4 zz9 zzb zza w fun r0 w'=>k (Value.int .i64 r0) w') : callS Tryz.prog 16 [(Value.pointer c), (Value.agg #[(Value.string zz1), (Value.int .i64 zz2), (Value.int .i64 zz3), (Value.int .i64 zz4), (Sl.v zz9), (Sl.v zzb), (Sl.v zza)])] w k := rgo (sk := (.s (.r []) (.s (.s (.r []) (.c (.s (.r []) .o) .o)) (.s (.r []) (.s (.s (.r []) (.s (.r []) (.c (.s (.r []) .o) .o))) (.s (.s (.r []) (.c (.s (.r []) .o) .o)) (.s (.r []) (.s (.r []) .o)))))))) (args := [sv (Value.pointer c), sv (Value.agg #[(Value.string zz1), (Value.int .i64 zz2), (Value.int .i64 zz3), (Value.int .i64 zz4), (Sl.v zz9), (Sl.v zzb), (Sl.v zza)])]) Tryz.func16 (Eq.mpr (by kernel_rfl) h)
def catalog_New (w : World) (R : Option Addr → World → Prop) : Prop :=
 semS Tryz.prog (Instr.makeMap 95 none) w fun v vw=>∃ (t1 : Option Nat), v = (Value.map t1) ∧ newS vw [(Value.map t1)] 97 fun a vw1=>R (some a) vw1
theorem catalog_New.go {w : World} {k : Value → World → Prop} (h : catalog_New w fun r0 w'=>k (Value.pointer r0) w') : callS Tryz.prog 19 [] w k := rgo (sk := (.s (.r []) (.s (.r []) .o))) (args := []) Tryz.func19 (Eq.mpr (by kernel_rfl) h)
def catalog_Catalog_Candidates (c : Option Addr) (name : ByteArray) (l : Sl) (pins : Sl) (w : World) (R : Sl → World → Prop) : Prop :=
 newS w [(Value.string name)] 9 fun a vw=>newS vw [(Sl.v l)] 60 fun a1 vw2=>newS vw2 [(Sl.v pins)] 26 fun a3 vw4=>∃ (t11 : ByteArray), (ldc vw4 a [(Value.string t11)]) ∧ callS Tryz.prog 39 [(Value.pointer c), (Value.string t11)] vw4 fun v vw5=>∃ (t12 : Sl), v = (Sl.v t12) ∧ callS Tryz.prog 38 [(Sl.v t12), (Value.func (.func 40) #[] #[(Value.pointer (some a1))])] vw5 fun v7 vw6=>∃ (t14 : Sl), v7 = (Sl.v t14) ∧ callS Tryz.prog 42 [(Sl.v t14), (Value.func (.func 43) #[] #[(Value.pointer (some a3)), (Value.pointer (some a))])] vw6 fun v10 vw9=>v10 = (Value.tuple #[]) ∧ callS Tryz.prog 46 [(Sl.v t14)] vw9 fun v13 vw12=>∃ (t19 : Sl), v13 = (Sl.v t19) ∧ R t19 vw12
theorem catalog_Catalog_Candidates.go {c : Option Addr} {name : ByteArray} {l : Sl} {pins : Sl} {w : World} {k : Value → World → Prop} (h : catalog_Catalog_Candidates c name l pins w fun r0 w'=>k (Sl.v r0) w') : callS Tryz.prog 21 [(Value.pointer c), (Value.string name), (Sl.v l), (Sl.v pins)] w k := rgo (sk := (.s (.r []) (.s (.r []) (.s (.r []) (.s (.r []) .o))))) (args := [sv (Value.pointer c), sv (Value.string name), sv (Sl.v l), sv (Sl.v pins)]) Tryz.func21 (Eq.mpr (by kernel_rfl) h)
def catalog_Catalog_All (c : Option Addr) (w : World) (R : Sl → World → Prop) : Prop :=
 ∃ (p : Addr), (c = some p) ∧ ∃ (t9 : Option Nat), (ldc w p [(Value.map t9)]) ∧ semS Tryz.prog (Instr.range 95 (Value.map t9)) w fun v vw=>∃ (it : Addr), v = (Value.pointer (some it)) ∧ loop1 Sl.nil vw fun out vw1 nxt=>semS Tryz.prog (Instr.next (Value.pointer (some it)) false 0) vw1 fun v3 vw2=>∃ (ok : Bool) (key_name : ByteArray) (zzn : Int) (zzo : Int) (zzp : Int) (zzr : ByteArray) (zzu : Int) (zzv : Int) (zzw : Int) (zzq : Sl) (zzt : Sl) (zzs : Sl), v3 = nextV ok (Value.agg #[(Value.string key_name), (Value.int .i64 zzn), (Value.int .i64 zzo), (Value.int .i64 zzp)]) (Value.agg #[(Value.string zzr), (Value.int .i64 zzu), (Value.int .i64 zzv), (Value.int .i64 zzw), (Sl.v zzq), (Sl.v zzt), (Sl.v zzs)]) ∧ ((ok = true → ∃ (key_name4 : ByteArray) (zz1a : Int) (zz1b : Int) (zz1c : Int) (zz1u : ByteArray) (zz1x : Int) (zz1y : Int) (zz1z : Int) (zz1t : Sl) (zz1w : Sl) (zz1v : Sl), (stabS Tryz.prog (Instr.entry (Value.pointer (some it))) vw2 (Value.tuple #[(Value.agg #[(Value.string key_name4), (Value.int .i64 zz1a), (Value.int .i64 zz1b), (Value.int .i64 zz1c)]), (Value.agg #[(Value.string zz1u), (Value.int .i64 zz1x), (Value.int .i64 zz1y), (Value.int .i64 zz1z), (Sl.v zz1t), (Sl.v zz1w), (Sl.v zz1v)])])) ∧ newS vw2 [(Value.string (ByteArray.mk #[])), (Value.int .i64 0), (Value.int .i64 0), (Value.int .i64 0), (Sl.v Sl.nil), (Sl.v Sl.nil), (Sl.v Sl.nil)] 48 fun a vw15=>stw vw15 a [(Value.string zz1u), (Value.int .i64 zz1x), (Value.int .i64 zz1y), (Value.int .i64 zz1z), (Sl.v zz1t), (Sl.v zz1w), (Sl.v zz1v)] fun vw16=>∃ (zz5l : ByteArray) (zz5n : Int) (zz5o : Int) (zz5p : Int) (zz2i : Sl) (zz5m : Sl) (zz2j : Sl), (ldc vw16 a [(Value.string zz5l), (Value.int .i64 zz5n), (Value.int .i64 zz5o), (Value.int .i64 zz5p), (Sl.v zz2i), (Sl.v zz5m), (Sl.v zz2j)]) ∧ callS Tryz.prog 33 [(Value.agg #[(Value.string zz5l), (Value.int .i64 zz5n), (Value.int .i64 zz5o), (Value.int .i64 zz5p), (Sl.v zz2i), (Sl.v zz5m), (Sl.v zz2j)])] vw16 fun v19 vw18=>∃ (zz61 : ByteArray) (zz64 : Int) (zz65 : Int) (zz66 : Int) (zz60 : Sl) (zz63 : Sl) (zz62 : Sl), v19 = (Value.agg #[(Value.string zz61), (Value.int .i64 zz64), (Value.int .i64 zz65), (Value.int .i64 zz66), (Sl.v zz60), (Sl.v zz63), (Sl.v zz62)]) ∧ newS vw18 [(Value.string zz61), (Value.int .i64 zz64), (Value.int .i64 zz65), (Value.int .i64 zz66), (Sl.v zz60), (Sl.v zz63), (Sl.v zz62)] 48 fun a20 vw21=>appS Tryz.prog 22 22 out (Sl.v (Sl.mk (some a20) 1 1)) vw21 fun t19 vw22=>nxt t19 vw22) ∧ (ok = false → callS Tryz.prog 47 [(Sl.v out), (Value.func (.func 48) #[] #[])] vw2 fun v24 vw23=>v24 = (Value.tuple #[]) ∧ callS Tryz.prog 52 [(Sl.v out)] vw23 fun v27 vw26=>∃ (t23 : Sl), v27 = (Sl.v t23) ∧ R t23 vw26))
set_option maxHeartbeats 8000000 in
theorem catalog_Catalog_All.sound (c : Option Addr) (w : World) (R : Sl → World → Prop) (h : catalog_Catalog_All c w R) : callS Tryz.prog 22 [(Value.pointer c)] w (fun v w'=>∃ (r0 : Sl), v = (Sl.v r0) ∧ R r0 w') := by
 unfold catalog_Catalog_All at h
 refine calls_of_vc 24 rfl Tryz.func22 rfl (by kernel_rfl) (by simp) ?_
 refine Vc.seq ?_
 refine Vc.region ?_
 refine vcL_pure rfl rfl (Sl.v Sl.nil) (fun w=>by kernel_rfl) ?_
 refine vcL_nil ?_
 refine Vc.seq ?_
 refine Vc.region ?_
 refine vcL_pure rfl rfl (Sl.v Sl.nil) (fun w=>by kernel_rfl) ?_
 refine vcL_nil ?_
 refine Vc.seq ?_
 refine Vc.seq ?_
 refine Vc.region ?_
 refine vcL_pure rfl rfl (Value.pointer c) (fun w=>by kernel_rfl) ?_
 obtain ⟨p, hp, h⟩ := h
 refine vcL_pure rfl rfl (Value.pointer (some p)) (fun w=>by exact exec_nilCheck rfl (by kernel_rfl) (hp) w) ?_
 refine vcL_pure rfl rfl (Value.pointer (some p)) (fun w=>by kernel_rfl) ?_
 obtain ⟨t9, hc, h⟩ := h
 refine vcL_val rfl rfl (Value.map t9) (exec_load rfl (by kernel_rfl) (run_load1 (fun w=>by kernel_rfl) ((hc)))) ?_
 refine vcL_eff rfl (opVC_sem rfl (c := Instr.range 95 (Value.map t9)) (by kernel_rfl) (semS.mono h fun v vw h=>?_))
 obtain ⟨it, rfl, h⟩ := h
 refine vcL_nil ?_
 refine Vc.block ?_
 obtain ⟨vI, mu, h, hr⟩ := h
 refine Vc.loopJ (σ := Sl) [3] [5, 11, 12, 13, 14, 15, 16, 17, 18, 19] (fun s=>[(3, (Sl.v s))]) (fun s w=>vI s w) (fun s w=>mu s w) Sl.nil h (fun _ => rfl) (by kernel_rfl) ?_
 intro out vw1 j h
 have h := hr out vw1 h
 refine Vc.seq ?_
 refine Vc.region ?_
 refine vcL_eff rfl (opVC_sem rfl (c := Instr.next (Value.pointer (some it)) false 0) (by kernel_rfl) (semS.mono h fun v3 vw2 h=>?_))
 obtain ⟨ok, key_name, zzn, zzo, zzp, zzr, zzu, zzv, zzw, zzq, zzt, zzs, rfl, h⟩ := h
 refine vcL_pure rfl rfl (Value.bool ok) (fun w=>by cases ok <;> kernel_rfl) ?_
 refine vcL_nil ?_
 refine Vc.seq ?_
 refine Vc.cond ok (by kernel_rfl) (fun hb=>?_) (fun hb=>?_)
 ·have hq := h.1 (hb)
  clear h
  subst hb
  have h := hq
  clear hq
  refine Vc.skip ?_
  refine Vc.block ?_
  refine Vc.seq ?_
  refine Vc.region ?_
  obtain ⟨key_name4, zz1a, zz1b, zz1c, zz1u, zz1x, zz1y, zz1z, zz1t, zz1w, zz1v, hl, h⟩ := h
  refine vcL_val rfl rfl (Value.tuple #[(Value.agg #[(Value.string key_name4), (Value.int .i64 zz1a), (Value.int .i64 zz1b), (Value.int .i64 zz1c)]), (Value.agg #[(Value.string zz1u), (Value.int .i64 zz1x), (Value.int .i64 zz1y), (Value.int .i64 zz1z), (Sl.v zz1t), (Sl.v zz1w), (Sl.v zz1v)])]) (exec_sem (c := Instr.entry (Value.pointer (some it))) (by kernel_rfl) ((hl) _ (Ext.refl _))) ?_
  refine vcL_pure rfl rfl (Value.agg #[(Value.string zz1u), (Value.int .i64 zz1x), (Value.int .i64 zz1y), (Value.int .i64 zz1z), (Sl.v zz1t), (Sl.v zz1w), (Sl.v zz1v)]) (fun w=>by kernel_rfl) ?_
  refine vcL_eff rfl (opVC_new rfl (fun a=>Value.pointer (some a)) (by kernel_rfl) (newS.mono h fun a vw15 hx h=>?_))
  refine vcL_eff rfl (opVC_store rfl rfl (a := a) (by kernel_rfl) (v := (Value.agg #[(Value.string zz1u), (Value.int .i64 zz1x), (Value.int .i64 zz1y), (Value.int .i64 zz1z), (Sl.v zz1t), (Sl.v zz1w), (Sl.v zz1v)])) (by kernel_rfl) [(Value.string zz1u), (Value.int .i64 zz1x), (Value.int .i64 zz1y), (Value.int .i64 zz1z), (Sl.v zz1t), (Sl.v zz1w), (Sl.v zz1v)] (by kernel_rfl) (fun w=>by kernel_rfl) (by kernel_rfl) (stw.mono h fun vw16 h=>?_))
  refine vcL_nil ?_
  refine Vc.region ?_
  refine vcL_pure rfl rfl (Sl.v out) (fun w=>by kernel_rfl) ?_
  obtain ⟨zz5l, zz5n, zz5o, zz5p, zz2i, zz5m, zz2j, hc17, h⟩ := h
  refine vcL_val rfl rfl (Value.agg #[(Value.string zz5l), (Value.int .i64 zz5n), (Value.int .i64 zz5o), (Value.int .i64 zz5p), (Sl.v zz2i), (Sl.v zz5m), (Sl.v zz2j)]) (exec_load rfl (by kernel_rfl) (run_loadN (fun w=>by kernel_rfl) (fun w=>by kernel_rfl) ((hc17)))) ?_
  refine vcL_eff rfl (opVC_call rfl (by kernel_rfl) (callS.mono h fun v19 vw18 h=>?_))
  obtain ⟨zz61, zz64, zz65, zz66, zz60, zz63, zz62, rfl, h⟩ := h
  refine vcL_eff rfl (opVC_new rfl (fun a=>Value.slice (some a) 1 1) (by kernel_rfl) (newS.mono h fun a20 vw21 hx h=>?_))
  refine vcL_eff rfl (opVC_sem rfl (c := Builtin.append_ #[22, 22] 22 #[(Sl.v out), (Sl.v (Sl.mk (some a20) 1 1))]) (by kernel_rfl) (appS.elim (ty := 22) h fun t19 vw22 h=>?_))
  refine vcL_pure rfl rfl (Sl.v t19) (fun w=>by kernel_rfl) ?_
  refine vcL_nil ?_
  exact ⟨t19, 22, ⟨rfl, by kernel_rfl, by kernel_rfl, by kernel_rfl⟩, h⟩
 ·have hq := h.2 (hb)
  clear h
  subst hb
  have h := hq
  clear hq
  refine Vc.exit ?_
  refine outOf_hit ?_
  refine Vc.seq ?_
  refine Vc.region ?_
  refine vcL_pure rfl rfl (Sl.v out) (fun w=>by kernel_rfl) ?_
  refine vcL_eff rfl (opVC_call rfl (by kernel_rfl) (callS.mono h fun v24 vw23 h=>?_))
  obtain ⟨rfl, h⟩ := h
  refine vcL_nil ?_
  refine Vc.seq ?_
  refine Vc.region ?_
  refine vcL_pure rfl rfl (Sl.v out) (fun w=>by kernel_rfl) ?_
  refine vcL_eff rfl (opVC_call rfl (by kernel_rfl) (callS.mono h fun v27 vw26 h=>?_))
  obtain ⟨t23, rfl, h⟩ := h
  refine vcL_pure rfl rfl (Sl.v t23) (fun w=>by kernel_rfl) ?_
  refine vcL_nil ?_
  refine Vc.ret ?_
  refine outs_ret ?_
  refine done_mk (Sl.v t23) (res1 (resC_tmp (by kernel_rfl))) ?_
  exact ⟨t23, rfl, h⟩
theorem catalog_Catalog_All.go {c : Option Addr} {w : World} {k : Value → World → Prop} (h : catalog_Catalog_All c w fun r0 w'=>k (Sl.v r0) w') : callS Tryz.prog 22 [(Value.pointer c)] w k := (catalog_Catalog_All.sound c w _ h).mono (by rintro _ _ ⟨r0, rfl, h⟩; exact h)
def halyardref08_Catalog_Put (c : Option Addr) (zz1 : ByteArray) (zz2 : Int) (zz3 : Int) (zz4 : Int) (zz9 : Sl) (zzb : Sl) (zza : Sl) (w : World) (R : Int → World → Prop) : Prop :=
 newS w [(Value.string zz1), (Value.int .i64 zz2), (Value.int .i64 zz3), (Value.int .i64 zz4), (Sl.v zz9), (Sl.v zzb), (Sl.v zza)] 48 fun a vw=>∃ (zzdl : ByteArray) (zzdp : Int) (zzdq : Int) (zzdr : Int) (zzdi : Sl) (zzdo : Sl) (zzdm : Sl), (ldc vw a [(Value.string zzdl), (Value.int .i64 zzdp), (Value.int .i64 zzdq), (Value.int .i64 zzdr), (Sl.v zzdi), (Sl.v zzdo), (Sl.v zzdm)]) ∧ callS Tryz.prog 58 [(Value.agg #[(Value.string zzdl), (Value.int .i64 zzdp), (Value.int .i64 zzdq), (Value.int .i64 zzdr), (Sl.v zzdi), (Sl.v zzdo), (Sl.v zzdm)])] vw fun v vw1=>∃ (t10 : Bool), v = (Value.bool t10) ∧ (((!t10) = true → R 24 vw1) ∧ ((!t10) = false → ∃ (t15 : ByteArray), (ldc vw1 a [(Value.string t15)]) ∧ ∃ (zz8i : Int) (zz8j : Int) (zz8k : Int), (ldc vw1 (a.add 1) [(Value.int .i64 zz8i), (Value.int .i64 zz8j), (Value.int .i64 zz8k)]) ∧ callS Tryz.prog 59 [(Value.pointer c), (Value.string t15), (Value.agg #[(Value.int .i64 zz8i), (Value.int .i64 zz8j), (Value.int .i64 zz8k)])] vw1 fun v5 vw4=>∃ (zz3q : ByteArray) (zz3t : Int) (zz3u : Int) (zz3v : Int) (zz3p : Sl) (zz3s : Sl) (zz3r : Sl) (t18b : Bool), v5 = (Value.tuple #[(Value.agg #[(Value.string zz3q), (Value.int .i64 zz3t), (Value.int .i64 zz3u), (Value.int .i64 zz3v), (Sl.v zz3p), (Sl.v zz3s), (Sl.v zz3r)]), (Value.bool t18b)]) ∧ newS vw4 [(Value.string (ByteArray.mk #[])), (Value.int .i64 0), (Value.int .i64 0), (Value.int .i64 0), (Sl.v Sl.nil), (Sl.v Sl.nil), (Sl.v Sl.nil)] 48 fun a7 vw8=>stw vw8 a7 [(Value.string zz3q), (Value.int .i64 zz3t), (Value.int .i64 zz3u), (Value.int .i64 zz3v), (Sl.v zz3p), (Sl.v zz3s), (Sl.v zz3r)] fun vw9=>((t18b = true → R 11 vw9) ∧ (t18b = false → ∃ (p : Addr), (c = some p) ∧ ∃ (t25 : Sl), (ldc vw9 p [(Sl.v t25)]) ∧ ((128 ≤ (t25.len : Int) → R 26 vw9) ∧ (¬ (128 ≤ (t25.len : Int)) → loop1 0 vw9 fun i vw11 nxt=>bnd vw11.drew fun (vw12 : World)=>∃ (p13 : Addr), (c = some p13) ∧ ∃ (t32 : Sl), (ldc vw12 p13 [(Sl.v t32)]) ∧ bnd (decide (i < (t32.len : Int))) fun (b : Bool)=>∃ (p16 : Addr), grd b (c = some p16) ∧ ∃ (t39 : Sl), grd b (ldc vw12 p16 [(Sl.v t39)]) ∧ ∃ (ad : Addr), grd b (t39.a = some ad ∧ (0 : Int) ≤ i ∧ i < (t39.len : Int)) ∧ ∃ (zzag : ByteArray) (zzaj : Int) (zzak : Int) (zzal : Int) (zzaf : Sl) (zzai : Sl) (zzah : Sl), grd b (ldc vw12 (ad.add (i.toNat * 7)) [(Value.string zzag), (Value.int .i64 zzaj), (Value.int .i64 zzak), (Value.int .i64 zzal), (Sl.v zzaf), (Sl.v zzai), (Sl.v zzah)]) ∧ ∃ (zz4o : ByteArray) (zz4r : Int) (zz4s : Int) (zz4t : Int) (zz4n : Sl) (zz4q : Sl) (zz4p : Sl), grd b (ldc vw12 a [(Value.string zz4o), (Value.int .i64 zz4r), (Value.int .i64 zz4s), (Value.int .i64 zz4t), (Sl.v zz4n), (Sl.v zz4q), (Sl.v zz4p)]) ∧ gCall b (fun (t44 : Bool) (vw21 : World)=>(((b && t44) = true → nxt (wrapI (i + 1)) vw21) ∧ ((b && t44) = false → ∃ (p24 : Addr), (c = some p24) ∧ ∃ (t52 : Sl), (ldc vw21 p24 [(Sl.v t52)]) ∧ ((0 : Int) ≤ i ∧ i ≤ (t52.cap : Int)) ∧ appS Tryz.prog 22 22 Sl.nil (Sl.v (Sl.cut t52 0 i.toNat 7)) vw21 fun t55 vw28=>∃ (zzbu : ByteArray) (zzbx : Int) (zzby : Int) (zzbz : Int) (zzbt : Sl) (zzbw : Sl) (zzbv : Sl), (ldc vw28 a [(Value.string zzbu), (Value.int .i64 zzbx), (Value.int .i64 zzby), (Value.int .i64 zzbz), (Sl.v zzbt), (Sl.v zzbw), (Sl.v zzbv)]) ∧ newS vw28 [(Value.string zzbu), (Value.int .i64 zzbx), (Value.int .i64 zzby), (Value.int .i64 zzbz), (Sl.v zzbt), (Sl.v zzbw), (Sl.v zzbv)] 48 fun a30 vw31=>appS Tryz.prog 22 22 t55 (Sl.v (Sl.mk (some a30) 1 1)) vw31 fun t59 vw32=>∃ (p33 : Addr), (c = some p33) ∧ ∃ (t64 : Sl), (ldc vw32 p33 [(Sl.v t64)]) ∧ ((0 : Int) ≤ i ∧ i ≤ (t64.len : Int)) ∧ appS Tryz.prog 22 22 t59 (Sl.v (Sl.cut t64 i.toNat t64.len 7)) vw32 fun t67 vw37=>∃ (p38 : Addr), (c = some p38) ∧ stw vw37 p38 [(Sl.v t67)] fun vw40=>R 0 vw40))) (fun q=>callS Tryz.prog 60 [(Value.agg #[(Value.string zzag), (Value.int .i64 zzaj), (Value.int .i64 zzak), (Value.int .i64 zzal), (Sl.v zzaf), (Sl.v zzai), (Sl.v zzah)]), (Value.agg #[(Value.string zz4o), (Value.int .i64 zz4r), (Value.int .i64 zz4s), (Value.int .i64 zz4t), (Sl.v zz4n), (Sl.v zz4q), (Sl.v zz4p)])] vw12 fun v22 vw21=>∃ (t44 : Bool), v22 = (Value.bool t44) ∧ q t44 vw21) (fun q=>q false vw12)))))))
theorem halyardref08_Catalog_Put.go {c : Option Addr} {zz1 : ByteArray} {zz2 : Int} {zz3 : Int} {zz4 : Int} {zz9 : Sl} {zzb : Sl} {zza : Sl} {w : World} {k : Value → World → Prop} (h : halyardref08_Catalog_Put c zz1 zz2 zz3 zz4 zz9 zzb zza w fun r0 w'=>k (Value.int .i64 r0) w') : callS Tryz.prog 24 [(Value.pointer c), (Value.agg #[(Value.string zz1), (Value.int .i64 zz2), (Value.int .i64 zz3), (Value.int .i64 zz4), (Sl.v zz9), (Sl.v zzb), (Sl.v zza)])] w k := rgo (sk := (.s (.r []) (.s (.s (.r []) (.c (.s (.r []) .o) .o)) (.s (.r []) (.s (.s (.r []) (.c (.s (.r []) .o) .o)) (.s (.s (.r []) (.c (.s (.r []) .o) .o)) (.s (.r []) (.s (.b (.l [(7, 4)] (.s (.s (.r []) (.c .o .o)) (.b (.r []))))) (.s (.r []) (.s (.r []) (.s (.r []) (.s (.r []) (.s (.r []) (.s (.r []) .o)))))))))))))) (args := [sv (Value.pointer c), sv (Value.agg #[(Value.string zz1), (Value.int .i64 zz2), (Value.int .i64 zz3), (Value.int .i64 zz4), (Sl.v zz9), (Sl.v zzb), (Sl.v zza)])]) Tryz.func24 (Eq.mpr (by kernel_rfl) h)
def manifest_May (zz5 : Sl) (zz6 : Sl) (zz7 : Sl) (zz8 : Sl) (w : World) (R : Bool → World → Prop) : Prop :=
 newS w [(Sl.v zz5), (Sl.v zz6), (Sl.v zz7), (Sl.v zz8)] 25 fun a vw=>∃ (t4 : Sl), (ldc vw a [(Sl.v t4)]) ∧ ∃ (t6 : Sl), (ldc vw (a.add 1) [(Sl.v t6)]) ∧ ∃ (t8 : Sl), (ldc vw (a.add 2) [(Sl.v t8)]) ∧ callS Tryz.prog 61 [(Sl.v t4), (Sl.v t6), (Sl.v t8)] vw fun v vw3=>∃ (t9 : Bool), v = (Value.bool t9) ∧ ∃ (t12 : Sl), grd t9 (ldc vw3 (a.add 3) [(Sl.v t12)]) ∧ gCall t9 (fun (t13 : Bool) (vw5 : World)=>bnd (t9 && t13) fun (b : Bool)=>∃ (zz2i : Sl) (zz8g : Sl) (zz2j : Sl) (zz8h : Sl), grd b (ldc vw5 a [(Sl.v zz2i), (Sl.v zz8g), (Sl.v zz2j), (Sl.v zz8h)]) ∧ gCall b (fun (t17 : ByteArray) (vw9 : World)=>R (b && (decide ((t17.size : Int) ≤ 4096))) vw9) (fun q=>callS Tryz.prog 62 [(Value.agg #[(Sl.v zz2i), (Sl.v zz8g), (Sl.v zz2j), (Sl.v zz8h)])] vw5 fun v10 vw9=>∃ (t17 : ByteArray), v10 = (Value.string t17) ∧ q t17 vw9) (fun q=>q (ByteArray.mk #[]) vw5)) (fun q=>callS Tryz.prog 61 [(Sl.v t12), (Sl.v Sl.nil), (Sl.v Sl.nil)] vw3 fun v6 vw5=>∃ (t13 : Bool), v6 = (Value.bool t13) ∧ q t13 vw5) (fun q=>q false vw3)
theorem manifest_May.go {zz5 : Sl} {zz6 : Sl} {zz7 : Sl} {zz8 : Sl} {w : World} {k : Value → World → Prop} (h : manifest_May zz5 zz6 zz7 zz8 w fun r0 w'=>k (Value.bool r0) w') : callS Tryz.prog 25 [(Value.agg #[(Sl.v zz5), (Sl.v zz6), (Sl.v zz7), (Sl.v zz8)])] w k := rgo (sk := (.s (.r []) (.s (.r [10]) .o))) (args := [sv (Value.agg #[(Sl.v zz5), (Sl.v zz6), (Sl.v zz7), (Sl.v zz8)])]) Tryz.func25 (Eq.mpr (by kernel_rfl) h)
def resolve_search_begin (vs : Option Addr) (w : World) (R : World → Prop) : Prop :=
 ∃ (p : Addr), (vs = some p) ∧ ∃ (t6 : Sl), (ldc w (p.add 9) [(Sl.v t6)]) ∧ ∃ (p1 : Addr), (vs = some p1) ∧ ∃ (t12 : Sl), (ldc w (p1.add 7) [(Sl.v t12)]) ∧ ∃ (p4 : Addr), (vs = some p4) ∧ stw w (p4.add 11) [(Value.int .i64 (t12.len : Int))] fun vw=>callS Tryz.prog 63 [(Value.pointer vs), (Value.int .i64 (t6.len : Int))] vw fun v vw6=>v = (Value.tuple #[]) ∧ R vw6
theorem resolve_search_begin.go {vs : Option Addr} {w : World} {k : Value → World → Prop} (h : resolve_search_begin vs w fun  w'=>k (Value.tuple #[]) w') : callS Tryz.prog 26 [(Value.pointer vs)] w k := rgo (sk := (.s (.r []) (.s (.r []) (.r [])))) (args := [sv (Value.pointer vs)]) Tryz.func26 (Eq.mpr (by kernel_rfl) h)
def resolve_search_choice (vs : Option Addr) (zz5d : ByteArray) (zz5c : Int) (zz5e : Sl) (w : World) (R : Int → ByteArray → Sl → Bool → Int → World → Prop) : Prop :=
 newS w [(Value.string zz5d), (Value.int .i64 zz5c), (Sl.v zz5e)] 62 fun a vw=>newS vw [(Value.int .i64 0), (Value.string (ByteArray.mk #[])), (Sl.v Sl.nil), (Value.bool false), (Value.int .i64 0)] 81 fun a1 vw2=>∃ (p : Addr), (vs = some p) ∧ ∃ (t12 : Sl), (ldc vw2 (p.add 9) [(Sl.v t12)]) ∧ ∃ (t16 : ByteArray), (ldc vw2 a [(Value.string t16)]) ∧ newS vw2 [(Value.int .i64 0), (Value.string (ByteArray.mk #[])), (Sl.v Sl.nil), (Value.bool false), (Value.int .i64 0)] 81 fun a4 vw5=>stw vw5 a4 [(Value.int .i64 (t12.len : Int)), (Value.string t16), (Sl.v Sl.nil), (Value.bool false), (Value.int .i64 0)] fun vw6=>join (fun (v : Addr) (is : Bool) (vw7 : World)=>((is = true → join (fun (vw8 : World)=>∃ (t40_node : Int) (t40_name : ByteArray) (t40_versions : Sl) (t40_none : Bool) (t40_at : Int), (ldc vw8 a4 [(Value.int .i64 t40_node), (Value.string t40_name), (Sl.v t40_versions), (Value.bool t40_none), (Value.int .i64 t40_at)]) ∧ stw vw8 a1 [(Value.int .i64 t40_node), (Value.string t40_name), (Sl.v t40_versions), (Value.bool t40_none), (Value.int .i64 t40_at)] fun vw10=>∃ (r_node : Int) (r_name : ByteArray) (r_versions : Sl) (r_none : Bool) (r_at : Int), ldc vw10 a1 [(Value.int .i64 r_node), (Value.string r_name), (Sl.v r_versions), (Value.bool r_none), (Value.int .i64 r_at)] ∧ R r_node r_name r_versions r_none r_at vw10) fun vJ=>∃ (t34 : Sl), (ldc vw7 (a.add 2) [(Sl.v t34)]) ∧ ∃ (zz9k : Int) (zz9l : Int) (zz9m : Int), (ldc vw7 v [(Value.int .i64 zz9k), (Value.int .i64 zz9l), (Value.int .i64 zz9m)]) ∧ callS Tryz.prog 41 [(Sl.v t34), (Value.agg #[(Value.int .i64 zz9k), (Value.int .i64 zz9l), (Value.int .i64 zz9m)])] vw7 fun v15 vw14=>∃ (t36 : Bool), v15 = (Value.bool t36) ∧ ((t36 = true → ∃ (zz2u : Int) (zz2v : Int) (zz2w : Int), (ldc vw14 v [(Value.int .i64 zz2u), (Value.int .i64 zz2v), (Value.int .i64 zz2w)]) ∧ newS vw14 [(Value.int .i64 zz2u), (Value.int .i64 zz2v), (Value.int .i64 zz2w)] 46 fun a17 vw18=>stw vw18 (a4.add 2) [(Sl.v (Sl.mk (some a17) 1 1))] fun vw19=>vJ vw19) ∧ (t36 = false → vJ vw14))) ∧ (is = false → bnd vw7.drew fun (vw20 : World)=>∃ (p21 : Addr), (vs = some p21) ∧ ∃ (t44 : Option Addr), (ldc vw20 p21 [(Value.pointer t44)]) ∧ ∃ (t46 : ByteArray), (ldc vw20 a [(Value.string t46)]) ∧ ∃ (t48 : Sl), (ldc vw20 (a.add 2) [(Sl.v t48)]) ∧ ∃ (p26 : Addr), (vs = some p26) ∧ ∃ (t52 : Sl), (ldc vw20 (p26.add 6) [(Sl.v t52)]) ∧ callS Tryz.prog 21 [(Value.pointer t44), (Value.string t46), (Sl.v t48), (Sl.v t52)] vw20 fun v30 vw29=>∃ (t53 : Sl), v30 = (Sl.v t53) ∧ stw vw29 (a4.add 2) [(Sl.v t53)] fun vw32=>∃ (t56 : Int), (ldc vw32 (a.add 1) [(Value.int .i64 t56)]) ∧ stw vw32 (a4.add 3) [(Value.bool (t56 == 2))] fun vw34=>∃ (t59_node : Int) (t59_name : ByteArray) (t59_versions : Sl) (t59_none : Bool) (t59_at : Int), (ldc vw34 a4 [(Value.int .i64 t59_node), (Value.string t59_name), (Sl.v t59_versions), (Value.bool t59_none), (Value.int .i64 t59_at)]) ∧ stw vw34 a1 [(Value.int .i64 t59_node), (Value.string t59_name), (Sl.v t59_versions), (Value.bool t59_none), (Value.int .i64 t59_at)] fun vw36=>∃ (r_node37 : Int) (r_name38 : ByteArray) (r_versions39 : Sl) (r_none40 : Bool) (r_at41 : Int), ldc vw36 a1 [(Value.int .i64 r_node37), (Value.string r_name38), (Sl.v r_versions39), (Value.bool r_none40), (Value.int .i64 r_at41)] ∧ R r_node37 r_name38 r_versions39 r_none40 r_at41 vw36))) fun vJ43=>bnd vw6.drew fun (vw45 : World)=>∃ (p46 : Addr), (vs = some p46) ∧ ∃ (t22 : Sl), (ldc vw45 (p46.add 8) [(Sl.v t22)]) ∧ ∃ (ad : Addr), (t22.a = some ad ∧ (0 : Int) ≤ (t12.len : Int) ∧ (t12.len : Int) < (t22.len : Int)) ∧ ∃ (t26 : Sl), (ldc vw45 ((ad.add ((t12.len : Int).toNat * 6)).add 4) [(Sl.v t26)]) ∧ ∃ (t28 : ByteArray), (ldc vw45 a [(Value.string t28)]) ∧ ((callS Tryz.prog 64 [(Sl.v t26), (Value.string t28)] vw45 fun v52 vw51=>∃ (zz4a : Int) (zz4b : Int) (zz4c : Int) (t29b : Bool), v52 = (Value.tuple #[(Value.agg #[(Value.int .i64 zz4a), (Value.int .i64 zz4b), (Value.int .i64 zz4c)]), (Value.bool t29b)]) ∧ newS vw51 [(Value.int .i64 0), (Value.int .i64 0), (Value.int .i64 0)] 46 fun a54 vw55=>stw vw55 a54 [(Value.int .i64 zz4a), (Value.int .i64 zz4b), (Value.int .i64 zz4c)] fun vw56=>vJ43 a54 t29b vw56) ∧ (newS vw45 [(Value.int .i64 0), (Value.int .i64 0), (Value.int .i64 0)] 46 fun a57 vw58=>callS Tryz.prog 64 [(Sl.v t26), (Value.string t28)] vw58 fun v64 vw59=>∃ (zz9c : Int) (zz9d : Int) (zz9e : Int) (t29b63 : Bool), v64 = (Value.tuple #[(Value.agg #[(Value.int .i64 zz9c), (Value.int .i64 zz9d), (Value.int .i64 zz9e)]), (Value.bool t29b63)]) ∧ stw vw59 a57 [(Value.int .i64 zz9c), (Value.int .i64 zz9d), (Value.int .i64 zz9e)] fun vw66=>vJ43 a57 t29b63 vw66))
theorem resolve_search_choice.go {vs : Option Addr} {zz5d : ByteArray} {zz5c : Int} {zz5e : Sl} {w : World} {k : Value → World → Prop} (h : resolve_search_choice vs zz5d zz5c zz5e w fun r0 r1 r2 r3 r4 w'=>k (Value.agg #[(Value.int .i64 r0), (Value.string r1), (Sl.v r2), (Value.bool r3), (Value.int .i64 r4)]) w') : callS Tryz.prog 27 [(Value.pointer vs), (Value.agg #[(Value.string zz5d), (Value.int .i64 zz5c), (Sl.v zz5e)])] w k := rgo (sk := (.s (.r []) (.s (.r []) (.s (.r []) (.s (.j [(7, 0), (8, 5)] (.r []) (.s (.r []) (.c (.j [] (.s (.r []) (.c (.r []) .o)) (.s (.r []) .o)) .o))) (.s (.r []) (.s (.r []) (.s (.r []) .o)))))))) (args := [sv (Value.pointer vs), sv (Value.agg #[(Value.string zz5d), (Value.int .i64 zz5c), (Sl.v zz5e)])]) Tryz.func27 (Eq.mpr (by kernel_rfl) h)
def resolve_search_bind (vs : Option Addr) (most : Int) (w : World) (R : Int → World → Prop) : Prop :=
 ∃ (p : Addr), (vs = some p) ∧ ∃ (t24 : Sl), (ldc w (p.add 9) [(Sl.v t24)]) ∧ ∃ (p1 : Addr), (vs = some p1) ∧ ∃ (t29 : Sl), (ldc w (p1.add 8) [(Sl.v t29)]) ∧ ∃ (ad : Addr), (t29.a = some ad ∧ (0 : Int) ≤ (t24.len : Int) ∧ (t24.len : Int) < (t29.len : Int)) ∧ ∃ (t33 : Sl), (ldc w ((ad.add ((t24.len : Int).toNat * 6)).add 4) [(Sl.v t33)]) ∧ callS Tryz.prog 65 [(Sl.v t33)] w fun v vw=>∃ (t34 : Sl), v = (Sl.v t34) ∧ bnd vw.drew fun (vw5 : World)=>∃ (p6 : Addr), (vs = some p6) ∧ ∃ (t38 : Sl), (ldc vw5 (p6.add 7) [(Sl.v t38)]) ∧ ∃ (p9 : Addr), (vs = some p9) ∧ ∃ (t42 : Int), (ldc vw5 (p9.add 11) [(Value.int .i64 t42)]) ∧ ((0 : Int) ≤ t42 ∧ t42 ≤ (t38.len : Int)) ∧ loop2 t34 0 vw5 fun env t45 vw13 nxt=>((t45 < ((Sl.cut t38 t42.toNat t38.len 5).len : Int) → join (fun (env14 : Sl) (vw15 : World)=>nxt env14 (wrapI (t45 + 1)) vw15) fun vJ=>∃ (ad16 : Addr), ((Sl.cut t38 t42.toNat t38.len 5).a = some ad16 ∧ (0 : Int) ≤ t45 ∧ t45 < ((Sl.cut t38 t42.toNat t38.len 5).len : Int)) ∧ ∃ (t48_node : Int) (t48_name : ByteArray) (t48_versions : Sl) (t48_none : Bool) (t48_at : Int), (ldc vw13 (ad16.add (t45.toNat * 5)) [(Value.int .i64 t48_node), (Value.string t48_name), (Sl.v t48_versions), (Value.bool t48_none), (Value.int .i64 t48_at)]) ∧ newS vw13 [(Value.int .i64 0), (Value.string (ByteArray.mk #[])), (Sl.v Sl.nil), (Value.bool false), (Value.int .i64 0)] 81 fun a vw19=>stw vw19 a [(Value.int .i64 t48_node), (Value.string t48_name), (Sl.v t48_versions), (Value.bool t48_none), (Value.int .i64 t48_at)] fun vw20=>∃ (t52 : ByteArray), (ldc vw20 (a.add 1) [(Value.string t52)]) ∧ callS Tryz.prog 64 [(Sl.v env), (Value.string t52)] vw20 fun v23 vw22=>∃ (zzbf : Int) (zzbg : Int) (zzbi : Int) (t53b : Bool), v23 = (Value.tuple #[(Value.agg #[(Value.int .i64 zzbf), (Value.int .i64 zzbg), (Value.int .i64 zzbi)]), (Value.bool t53b)]) ∧ newS vw22 [(Value.int .i64 0), (Value.int .i64 0), (Value.int .i64 0)] 46 fun a25 vw26=>stw vw26 a25 [(Value.int .i64 zzbf), (Value.int .i64 zzbg), (Value.int .i64 zzbi)] fun vw27=>bnd (!t53b) fun (b : Bool)=>∃ (t60 : Int), grd b (ldc vw27 (a.add 4) [(Value.int .i64 t60)]) ∧ ∃ (t62 : Sl), grd b (ldc vw27 (a.add 2) [(Sl.v t62)]) ∧ (((b && (decide (t60 < (t62.len : Int)))) = true → bnd vw27.drew fun (vw30 : World)=>∃ (t68 : ByteArray), (ldc vw30 (a.add 1) [(Value.string t68)]) ∧ ∃ (t70 : Sl), (ldc vw30 (a.add 2) [(Sl.v t70)]) ∧ ∃ (t72 : Int), (ldc vw30 (a.add 4) [(Value.int .i64 t72)]) ∧ ∃ (ad34 : Addr), (t70.a = some ad34 ∧ (0 : Int) ≤ t72 ∧ t72 < (t70.len : Int)) ∧ ∃ (zzco : Int) (zzcp : Int) (zzcr : Int), (ldc vw30 (ad34.add (t72.toNat * 3)) [(Value.int .i64 zzco), (Value.int .i64 zzcp), (Value.int .i64 zzcr)]) ∧ newS vw30 [(Value.string t68), (Value.int .i64 zzco), (Value.int .i64 zzcp), (Value.int .i64 zzcr)] 67 fun a37 vw38=>appS Tryz.prog 26 26 env (Sl.v (Sl.mk (some a37) 1 1)) vw38 fun t77 vw39=>vJ t77 vw39) ∧ ((b && (decide (t60 < (t62.len : Int)))) = false → vJ env vw27))) ∧ (¬ (t45 < ((Sl.cut t38 t42.toNat t38.len 5).len : Int)) → callS Tryz.prog 66 [(Sl.v env), (Value.func (.func 67) #[] #[])] vw13 fun v41 vw40=>v41 = (Value.tuple #[]) ∧ loop2 Sl.nil 0 vw40 fun targets t83 vw43 nxt44=>((t83 < (env.len : Int) → ∃ (ad45 : Addr), (env.a = some ad45 ∧ (0 : Int) ≤ t83 ∧ t83 < (env.len : Int)) ∧ ∃ (zzcv : ByteArray) (zzcw : Int) (zzcx : Int) (zzcy : Int), (ldc vw43 (ad45.add (t83.toNat * 4)) [(Value.string zzcv), (Value.int .i64 zzcw), (Value.int .i64 zzcx), (Value.int .i64 zzcy)]) ∧ newS vw43 [(Value.string (ByteArray.mk #[])), (Value.int .i64 0), (Value.int .i64 0), (Value.int .i64 0)] 67 fun a48 vw49=>stw vw49 a48 [(Value.string zzcv), (Value.int .i64 zzcw), (Value.int .i64 zzcx), (Value.int .i64 zzcy)] fun vw50=>bnd vw50.drew fun (vw51 : World)=>∃ (p52 : Addr), (vs = some p52) ∧ ∃ (t91 : Option Addr), (ldc vw51 p52 [(Value.pointer t91)]) ∧ ∃ (p55 : Addr), (vs = some p55) ∧ ∃ (zzda : Sl) (zzdb : Sl) (zzdc : Sl) (zzdd : Sl), (ldc vw51 (p55.add 1) [(Sl.v zzda), (Sl.v zzdb), (Sl.v zzdc), (Sl.v zzdd)]) ∧ ∃ (zzde : ByteArray) (zzdf : Int) (zzdg : Int) (zzdh : Int), (ldc vw51 a48 [(Value.string zzde), (Value.int .i64 zzdf), (Value.int .i64 zzdg), (Value.int .i64 zzdh)]) ∧ callS Tryz.prog 69 [(Value.pointer t91), (Value.agg #[(Sl.v zzda), (Sl.v zzdb), (Sl.v zzdc), (Sl.v zzdd)]), (Sl.v env), (Value.agg #[(Value.string zzde), (Value.int .i64 zzdf), (Value.int .i64 zzdg), (Value.int .i64 zzdh)])] vw51 fun v60 vw59=>∃ (t98 : Sl) (t98b : Bool), v60 = (Value.tuple #[(Sl.v t98), (Value.bool t98b)]) ∧ (((!t98b) = true → R 33 vw59) ∧ ((!t98b) = false → ∃ (t105 : ByteArray), (ldc vw59 a48 [(Value.string t105)]) ∧ ∃ (zz73 : Int) (zz74 : Int) (zz75 : Int), (ldc vw59 (a48.add 1) [(Value.int .i64 zz73), (Value.int .i64 zz74), (Value.int .i64 zz75)]) ∧ newS vw59 [(Value.string t105), (Value.int .i64 zz73), (Value.int .i64 zz74), (Value.int .i64 zz75), (Sl.v t98), (Sl.v Sl.nil)] 65 fun a64 vw65=>appS Tryz.prog 36 36 targets (Sl.v (Sl.mk (some a64) 1 1)) vw65 fun t111 vw66=>nxt44 t111 (wrapI (t83 + 1)) vw66))) ∧ (¬ (t83 < (env.len : Int)) → ∃ (p67 : Addr), (vs = some p67) ∧ ∃ (t116 : Sl), (ldc vw43 (p67.add 8) [(Sl.v t116)]) ∧ loop2 Sl.nil 0 vw43 fun edges t120 vw70 nxt71=>((t120 < (targets.len : Int) → ∃ (ad72 : Addr), (targets.a = some ad72 ∧ (0 : Int) ≤ t120 ∧ t120 < (targets.len : Int)) ∧ ∃ (zz7b : ByteArray) (zz7c : Int) (zz7d : Int) (zz7e : Int) (zz79 : Sl) (zz7a : Sl), (ldc vw70 (ad72.add (t120.toNat * 6)) [(Value.string zz7b), (Value.int .i64 zz7c), (Value.int .i64 zz7d), (Value.int .i64 zz7e), (Sl.v zz79), (Sl.v zz7a)]) ∧ newS vw70 [(Value.string (ByteArray.mk #[])), (Value.int .i64 0), (Value.int .i64 0), (Value.int .i64 0), (Sl.v Sl.nil), (Sl.v Sl.nil)] 65 fun a75 vw76=>stw vw76 a75 [(Value.string zz7b), (Value.int .i64 zz7c), (Value.int .i64 zz7d), (Value.int .i64 zz7e), (Sl.v zz79), (Sl.v zz7a)] fun vw77=>∃ (p78 : Addr), (vs = some p78) ∧ ∃ (t127 : Sl), (ldc vw77 (p78.add 8) [(Sl.v t127)]) ∧ callS Tryz.prog 70 [(Sl.v t127), (Value.func (.func 71) #[] #[(Value.pointer (some a75))])] vw77 fun v82 vw81=>∃ (t129 : Int), v82 = (Value.int .i64 t129) ∧ join (fun (to : Int) (vw84 : World)=>∃ (t156 : ByteArray), (ldc vw84 a75 [(Value.string t156)]) ∧ newS vw84 [(Value.string t156), (Value.int .i64 to)] 90 fun a86 vw87=>appS Tryz.prog 63 63 edges (Sl.v (Sl.mk (some a86) 1 1)) vw87 fun t160 vw88=>nxt71 t160 (wrapI (t120 + 1)) vw88) fun vJ89=>((t129 < 0 → ∃ (p91 : Addr), (vs = some p91) ∧ ∃ (t135 : Sl), (ldc vw81 (p91.add 8) [(Sl.v t135)]) ∧ (((t135.len : Int) = most → R 32 vw81) ∧ (¬ ((t135.len : Int) = most) → ∃ (p94 : Addr), (vs = some p94) ∧ ∃ (t142 : Sl), (ldc vw81 (p94.add 8) [(Sl.v t142)]) ∧ bnd vw81.drew fun (vw97 : World)=>∃ (p98 : Addr), (vs = some p98) ∧ ∃ (t148 : Sl), (ldc vw97 (p98.add 8) [(Sl.v t148)]) ∧ ∃ (zz7s : ByteArray) (zz7t : Int) (zz7u : Int) (zz7v : Int) (zz7q : Sl) (zz7r : Sl), (ldc vw97 a75 [(Value.string zz7s), (Value.int .i64 zz7t), (Value.int .i64 zz7u), (Value.int .i64 zz7v), (Sl.v zz7q), (Sl.v zz7r)]) ∧ newS vw97 [(Value.string zz7s), (Value.int .i64 zz7t), (Value.int .i64 zz7u), (Value.int .i64 zz7v), (Sl.v zz7q), (Sl.v zz7r)] 65 fun a102 vw103=>appS Tryz.prog 36 36 t148 (Sl.v (Sl.mk (some a102) 1 1)) vw103 fun t151 vw104=>∃ (p105 : Addr), (vs = some p105) ∧ stw vw104 (p105.add 8) [(Sl.v t151)] fun vw107=>vJ89 (t142.len : Int) vw107))) ∧ (¬ (t129 < 0) → vJ89 t129 vw81))) ∧ (¬ (t120 < (targets.len : Int)) → ∃ (p108 : Addr), (vs = some p108) ∧ ∃ (t165 : Sl), (ldc vw70 (p108.add 8) [(Sl.v t165)]) ∧ ∃ (ad111 : Addr), (t165.a = some ad111 ∧ (0 : Int) ≤ (t24.len : Int) ∧ (t24.len : Int) < (t165.len : Int)) ∧ stw vw70 ((ad111.add ((t24.len : Int).toNat * 6)).add 5) [(Sl.v edges)] fun vw113=>∃ (p114 : Addr), (vs = some p114) ∧ ∃ (t174 : Sl), (ldc vw113 (p114.add 9) [(Sl.v t174)]) ∧ newS vw113 [(Value.int .i64 (t116.len : Int))] 3 fun a117 vw118=>appS Tryz.prog 77 77 t174 (Sl.v (Sl.mk (some a117) 1 1)) vw118 fun t177 vw119=>∃ (p120 : Addr), (vs = some p120) ∧ stw vw119 (p120.add 9) [(Sl.v t177)] fun vw122=>R 0 vw122))))))
theorem resolve_search_bind.go {vs : Option Addr} {most : Int} {w : World} {k : Value → World → Prop} (h : resolve_search_bind vs most w fun r0 w'=>k (Value.int .i64 r0) w') : callS Tryz.prog 28 [(Value.pointer vs), (Value.int .i64 most)] w k := rgo (sk := (.s (.r []) (.s (.r []) (.s (.r []) (.s (.s (.r []) (.b (.l [(6, 27), (45, 4)] (.s (.r []) (.s (.c .o .o) (.j [(6, 27)] (.b (.s (.r []) (.s (.r []) (.s (.r []) (.c (.r []) .o))))) (.r []))))))) (.s (.r []) (.s (.r []) (.s (.s (.r []) (.b (.l [(11, 37), (83, 4)] (.s (.r []) (.s (.c .o .o) (.s (.b (.s (.r []) (.s (.r []) (.s (.s (.r []) (.c (.s (.r []) .o) .o)) (.r []))))) (.r []))))))) (.s (.r []) (.s (.r []) (.s (.s (.r []) (.b (.l [(17, 64), (120, 4)] (.s (.r []) (.s (.c .o .o) (.s (.b (.s (.r []) (.s (.r []) (.j [(20, 4)] (.s (.r []) (.c (.s (.s (.r []) (.c (.s (.r []) .o) .o)) (.s (.r []) (.r []))) .o)) (.r []))))) (.r []))))))) (.s (.r []) (.s (.r []) (.s (.r []) .o)))))))))))))) (args := [sv (Value.pointer vs), sv (Value.int .i64 most)]) Tryz.func28 (Eq.mpr (by kernel_rfl) h)
def resolve_choice_many (x_node : Int) (x_name : ByteArray) (x_versions : Sl) (x_none : Bool) (x_at : Int) (w : World) (R : Int → World → Prop) : Prop :=
 newS w [(Value.int .i64 x_node), (Value.string x_name), (Sl.v x_versions), (Value.bool x_none), (Value.int .i64 x_at)] 81 fun a vw=>∃ (t4 : Bool), (ldc vw (a.add 3) [(Value.bool t4)]) ∧ ((t4 = true → ∃ (t6 : Sl), (ldc vw (a.add 2) [(Sl.v t6)]) ∧ R (wrapI ((t6.len : Int) + 1)) vw) ∧ (t4 = false → ∃ (t10 : Sl), (ldc vw (a.add 2) [(Sl.v t10)]) ∧ R (t10.len : Int) vw))
theorem resolve_choice_many.go {x_node : Int} {x_name : ByteArray} {x_versions : Sl} {x_none : Bool} {x_at : Int} {w : World} {k : Value → World → Prop} (h : resolve_choice_many x_node x_name x_versions x_none x_at w fun r0 w'=>k (Value.int .i64 r0) w') : callS Tryz.prog 29 [(Value.agg #[(Value.int .i64 x_node), (Value.string x_name), (Sl.v x_versions), (Value.bool x_none), (Value.int .i64 x_at)])] w k := rgo (sk := (.s (.r []) (.s (.s (.r []) (.c (.s (.r []) .o) .o)) (.s (.r []) .o)))) (args := [sv (Value.agg #[(Value.int .i64 x_node), (Value.string x_name), (Sl.v x_versions), (Value.bool x_none), (Value.int .i64 x_at)])]) Tryz.func29 (Eq.mpr (by kernel_rfl) h)
def resolve_search_back (vs : Option Addr) (w : World) (R : World → Prop) : Prop :=
 bnd w.drew fun (vw : World)=>∃ (p : Addr), (vs = some p) ∧ ∃ (t6 : Sl), (ldc vw (p.add 7) [(Sl.v t6)]) ∧ ∃ (p1 : Addr), (vs = some p1) ∧ ∃ (t10 : Sl), (ldc vw (p1.add 7) [(Sl.v t10)]) ∧ ∃ (ad : Addr), (t6.a = some ad ∧ (0 : Int) ≤ (wrapI ((t10.len : Int) - 1)) ∧ (wrapI ((t10.len : Int) - 1)) < (t6.len : Int)) ∧ newS vw [(Value.pointer none)] 134 fun a vw4=>stw vw4 a [(Value.pointer (some (ad.add ((wrapI ((t10.len : Int) - 1)).toNat * 5))))] fun vw5=>∃ (t14 : Option Addr), (ldc vw5 a [(Value.pointer t14)]) ∧ ∃ (p7 : Addr), (t14 = some p7) ∧ ∃ (t17 : Int), (ldc vw5 (p7.add 4) [(Value.int .i64 t17)]) ∧ ∃ (p10 : Addr), (t14 = some p10) ∧ stw vw5 (p10.add 4) [(Value.int .i64 (wrapI (t17 + 1)))] fun vw12=>join (fun (vw13 : World)=>∃ (t62 : Option Addr), (ldc vw13 a [(Value.pointer t62)]) ∧ ∃ (p15 : Addr), (t62 = some p15) ∧ ∃ (t65 : Int), (ldc vw13 p15 [(Value.int .i64 t65)]) ∧ callS Tryz.prog 63 [(Value.pointer vs), (Value.int .i64 t65)] vw13 fun v vw18=>v = (Value.tuple #[]) ∧ ∃ (p19 : Addr), (vs = some p19) ∧ ∃ (t71 : Sl), (ldc vw18 (p19.add 7) [(Sl.v t71)]) ∧ callS Tryz.prog 73 [(Sl.v t71), (Value.func (.func 74) #[] #[(Value.pointer (some a))])] vw18 fun v23 vw22=>∃ (t73 : Int), v23 = (Value.int .i64 t73) ∧ ∃ (p25 : Addr), (vs = some p25) ∧ stw vw22 (p25.add 11) [(Value.int .i64 t73)] fun vw27=>R vw27) fun vJ=>bnd vw12.drew fun (vw28 : World)=>∃ (t21 : Option Addr), (ldc vw28 a [(Value.pointer t21)]) ∧ ∃ (p30 : Addr), (t21 = some p30) ∧ ∃ (t24 : Int), (ldc vw28 p30 [(Value.int .i64 t24)]) ∧ ∃ (p33 : Addr), (vs = some p33) ∧ ∃ (t28 : Sl), (ldc vw28 (p33.add 9) [(Sl.v t28)]) ∧ ((t24 < (t28.len : Int) → bnd vw28.drew fun (vw36 : World)=>∃ (p37 : Addr), (vs = some p37) ∧ ∃ (t35 : Sl), (ldc vw36 (p37.add 8) [(Sl.v t35)]) ∧ ∃ (p40 : Addr), (vs = some p40) ∧ ∃ (t39 : Sl), (ldc vw36 (p40.add 9) [(Sl.v t39)]) ∧ ∃ (t40 : Option Addr), (ldc vw36 a [(Value.pointer t40)]) ∧ ∃ (p44 : Addr), (t40 = some p44) ∧ ∃ (t43 : Int), (ldc vw36 p44 [(Value.int .i64 t43)]) ∧ ∃ (ad47 : Addr), (t39.a = some ad47 ∧ (0 : Int) ≤ t43 ∧ t43 < (t39.len : Int)) ∧ ∃ (t45 : Int), (ldc vw36 (ad47.add (t43.toNat * 1)) [(Value.int .i64 t45)]) ∧ ((0 : Int) ≤ t45 ∧ t45 ≤ (t35.cap : Int)) ∧ ∃ (p51 : Addr), (vs = some p51) ∧ stw vw36 (p51.add 8) [(Sl.v (Sl.cut t35 0 t45.toNat 6))] fun vw53=>bnd vw53.drew fun (vw54 : World)=>∃ (p55 : Addr), (vs = some p55) ∧ ∃ (t53 : Sl), (ldc vw54 (p55.add 9) [(Sl.v t53)]) ∧ ∃ (t54 : Option Addr), (ldc vw54 a [(Value.pointer t54)]) ∧ ∃ (p59 : Addr), (t54 = some p59) ∧ ∃ (t57 : Int), (ldc vw54 p59 [(Value.int .i64 t57)]) ∧ ((0 : Int) ≤ t57 ∧ t57 ≤ (t53.cap : Int)) ∧ ∃ (p63 : Addr), (vs = some p63) ∧ stw vw54 (p63.add 9) [(Sl.v (Sl.cut t53 0 t57.toNat 1))] fun vw65=>vJ vw65) ∧ (¬ (t24 < (t28.len : Int)) → vJ vw28))
theorem resolve_search_back.go {vs : Option Addr} {w : World} {k : Value → World → Prop} (h : resolve_search_back vs w fun  w'=>k (Value.tuple #[]) w') : callS Tryz.prog 30 [(Value.pointer vs)] w k := rgo (sk := (.s (.r []) (.s (.r []) (.j [] (.s (.r []) (.c (.s (.r []) (.r [])) .o)) (.s (.r []) (.r [])))))) (args := [sv (Value.pointer vs)]) Tryz.func30 (Eq.mpr (by kernel_rfl) h)
def pack_May (zz1 : ByteArray) (zz2 : Int) (zz3 : Int) (zz4 : Int) (zz9 : Sl) (zzb : Sl) (zza : Sl) (w : World) (R : Bool → World → Prop) : Prop :=
 newS w [(Value.string zz1), (Value.int .i64 zz2), (Value.int .i64 zz3), (Value.int .i64 zz4), (Sl.v zz9), (Sl.v zzb), (Sl.v zza)] 48 fun a vw=>∃ (t4 : ByteArray), (ldc vw a [(Value.string t4)]) ∧ callS Tryz.prog 77 [(Value.string t4)] vw fun v vw1=>∃ (t5 : Bool), v = (Value.bool t5) ∧ ∃ (zz55 : Int) (zz56 : Int) (zz57 : Int), grd t5 (ldc vw1 (a.add 1) [(Value.int .i64 zz55), (Value.int .i64 zz56), (Value.int .i64 zz57)]) ∧ gCall t5 (fun (t9 : Bool) (vw3 : World)=>bnd (t5 && t9) fun (b : Bool)=>∃ (t13 : Sl), grd b (ldc vw3 (a.add 4) [(Sl.v t13)]) ∧ gCall b (fun (t14 : Bool) (vw7 : World)=>bnd (b && t14) fun (b12 : Bool)=>∃ (t18 : Sl), grd b12 (ldc vw7 (a.add 5) [(Sl.v t18)]) ∧ gCall b12 (fun (t19 : Bool) (vw14 : World)=>bnd (b12 && t19) fun (b19 : Bool)=>∃ (t23 : Sl), grd b19 (ldc vw14 (a.add 6) [(Sl.v t23)]) ∧ gCall b19 (fun (t24 : Bool) (vw21 : World)=>bnd (b19 && t24) fun (b26 : Bool)=>∃ (t28 : Sl), grd b26 (ldc vw21 (a.add 4) [(Sl.v t28)]) ∧ ∃ (t30 : Sl), grd b26 (ldc vw21 (a.add 5) [(Sl.v t30)]) ∧ ∃ (t32 : Sl), grd b26 (ldc vw21 (a.add 6) [(Sl.v t32)]) ∧ gCall b26 (fun (a30 : Addr) (vw31 : World)=>gCall b26 (fun (t34 : Bool) (vw34 : World)=>bnd (b26 && t34) fun (b39 : Bool)=>∃ (zz2h : ByteArray) (zz4k : Int) (zz4l : Int) (zz4m : Int) (zz4h : Sl) (zz4j : Sl) (zz4i : Sl), grd b39 (ldc vw34 a [(Value.string zz2h), (Value.int .i64 zz4k), (Value.int .i64 zz4l), (Value.int .i64 zz4m), (Sl.v zz4h), (Sl.v zz4j), (Sl.v zz4i)]) ∧ gCall b39 (fun (t38 : ByteArray) (vw41 : World)=>R (b39 && (decide ((t38.size : Int) ≤ 4096))) vw41) (fun q=>callS Tryz.prog 81 [(Value.agg #[(Value.string zz2h), (Value.int .i64 zz4k), (Value.int .i64 zz4l), (Value.int .i64 zz4m), (Sl.v zz4h), (Sl.v zz4j), (Sl.v zz4i)])] vw34 fun v42 vw41=>∃ (t38 : ByteArray), v42 = (Value.string t38) ∧ q t38 vw41) (fun q=>q (ByteArray.mk #[]) vw34)) (fun q=>callS Tryz.prog 80 [(Sl.v (Sl.mk (some a30) 3 3))] vw31 fun v35 vw34=>∃ (t34 : Bool), v35 = (Value.bool t34) ∧ q t34 vw34) (fun q=>q false vw31)) (fun q=>newS vw21 [(Sl.v t28), (Sl.v t30), (Sl.v t32)] 23 q) (fun q=>q ⟨0, 0, none⟩ vw21)) (fun q=>callS Tryz.prog 79 [(Sl.v t23)] vw14 fun v22 vw21=>∃ (t24 : Bool), v22 = (Value.bool t24) ∧ q t24 vw21) (fun q=>q false vw14)) (fun q=>callS Tryz.prog 79 [(Sl.v t18)] vw7 fun v15 vw14=>∃ (t19 : Bool), v15 = (Value.bool t19) ∧ q t19 vw14) (fun q=>q false vw7)) (fun q=>callS Tryz.prog 79 [(Sl.v t13)] vw3 fun v8 vw7=>∃ (t14 : Bool), v8 = (Value.bool t14) ∧ q t14 vw7) (fun q=>q false vw3)) (fun q=>callS Tryz.prog 78 [(Value.agg #[(Value.int .i64 zz55), (Value.int .i64 zz56), (Value.int .i64 zz57)])] vw1 fun v4 vw3=>∃ (t9 : Bool), v4 = (Value.bool t9) ∧ q t9 vw3) (fun q=>q false vw1)
theorem pack_May.go {zz1 : ByteArray} {zz2 : Int} {zz3 : Int} {zz4 : Int} {zz9 : Sl} {zzb : Sl} {zza : Sl} {w : World} {k : Value → World → Prop} (h : pack_May zz1 zz2 zz3 zz4 zz9 zzb zza w fun r0 w'=>k (Value.bool r0) w') : callS Tryz.prog 32 [(Value.agg #[(Value.string zz1), (Value.int .i64 zz2), (Value.int .i64 zz3), (Value.int .i64 zz4), (Sl.v zz9), (Sl.v zzb), (Sl.v zza)])] w k := rgo (sk := (.s (.r []) (.s (.r [6]) .o))) (args := [sv (Value.agg #[(Value.string zz1), (Value.int .i64 zz2), (Value.int .i64 zz3), (Value.int .i64 zz4), (Sl.v zz9), (Sl.v zzb), (Sl.v zza)])]) Tryz.func32 (Eq.mpr (by kernel_rfl) h)
def catalog_copied (zz1 : ByteArray) (zz2 : Int) (zz3 : Int) (zz4 : Int) (zz9 : Sl) (zzb : Sl) (zza : Sl) (w : World) (R : ByteArray → Int → Int → Int → Sl → Sl → Sl → World → Prop) : Prop :=
 newS w [(Value.string zz1), (Value.int .i64 zz2), (Value.int .i64 zz3), (Value.int .i64 zz4), (Sl.v zz9), (Sl.v zzb), (Sl.v zza)] 48 fun a vw=>newS vw [(Value.string (ByteArray.mk #[])), (Value.int .i64 0), (Value.int .i64 0), (Value.int .i64 0), (Sl.v Sl.nil), (Sl.v Sl.nil), (Sl.v Sl.nil)] 48 fun a1 vw2=>bnd vw2.drew fun (vw3 : World)=>∃ (t4 : Sl), (ldc vw3 (a.add 4) [(Sl.v t4)]) ∧ ∃ (t7 : Sl), (ldc vw3 (a.add 5) [(Sl.v t7)]) ∧ ∃ (t10 : Sl), (ldc vw3 (a.add 6) [(Sl.v t10)]) ∧ callX Tryz.prog 82 [(Sl.v t4)] vw3 fun v vw6=>∃ (t5 : Sl), v = (Sl.v t5) ∧ callX Tryz.prog 82 [(Sl.v t7)] vw6 fun v8 vw7=>∃ (t8 : Sl), v8 = (Sl.v t8) ∧ callS Tryz.prog 82 [(Sl.v t10)] vw7 fun v11 vw10=>∃ (t11 : Sl), v11 = (Sl.v t11) ∧ stw vw10 (a.add 4) [(Sl.v t5)] fun vw13=>stw vw13 (a.add 5) [(Sl.v t8)] fun vw14=>stw vw14 (a.add 6) [(Sl.v t11)] fun vw15=>∃ (zz3h : ByteArray) (zz3j : Int) (zz3k : Int) (zz3l : Int) (zz3f : Sl) (zz8e : Sl) (zz3i : Sl), (ldc vw15 a [(Value.string zz3h), (Value.int .i64 zz3j), (Value.int .i64 zz3k), (Value.int .i64 zz3l), (Sl.v zz3f), (Sl.v zz8e), (Sl.v zz3i)]) ∧ stw vw15 a1 [(Value.string zz3h), (Value.int .i64 zz3j), (Value.int .i64 zz3k), (Value.int .i64 zz3l), (Sl.v zz3f), (Sl.v zz8e), (Sl.v zz3i)] fun vw17=>∃ (zz1e : ByteArray) (zz1h : Int) (zz1i : Int) (zz1j : Int) (zz1d : Sl) (zz1g : Sl) (zz1f : Sl), ldc vw17 a1 [(Value.string zz1e), (Value.int .i64 zz1h), (Value.int .i64 zz1i), (Value.int .i64 zz1j), (Sl.v zz1d), (Sl.v zz1g), (Sl.v zz1f)] ∧ R zz1e zz1h zz1i zz1j zz1d zz1g zz1f vw17
theorem catalog_copied.go {zz1 : ByteArray} {zz2 : Int} {zz3 : Int} {zz4 : Int} {zz9 : Sl} {zzb : Sl} {zza : Sl} {w : World} {k : Value → World → Prop} (h : catalog_copied zz1 zz2 zz3 zz4 zz9 zzb zza w fun r0 r1 r2 r3 r4 r5 r6 w'=>k (Value.agg #[(Value.string r0), (Value.int .i64 r1), (Value.int .i64 r2), (Value.int .i64 r3), (Sl.v r4), (Sl.v r5), (Sl.v r6)]) w') : callS Tryz.prog 33 [(Value.agg #[(Value.string zz1), (Value.int .i64 zz2), (Value.int .i64 zz3), (Value.int .i64 zz4), (Sl.v zz9), (Sl.v zzb), (Sl.v zza)])] w k := rgo (sk := (.s (.r []) (.s (.r []) (.s (.r []) .o)))) (args := [sv (Value.agg #[(Value.string zz1), (Value.int .i64 zz2), (Value.int .i64 zz3), (Value.int .i64 zz4), (Sl.v zz9), (Sl.v zzb), (Sl.v zza)])]) Tryz.func33 (Eq.mpr (by kernel_rfl) h)
def halyardref05_List (l : Sl) (w : World) (R : Bool → World → Prop) : Prop :=
 loop1 0 w fun i vw nxt=>((i < (l.len : Int) → bnd vw.drew fun (vw1 : World)=>∃ (ad : Addr), (l.a = some ad ∧ (0 : Int) ≤ i ∧ i < (l.len : Int)) ∧ ∃ (t14 : ByteArray), (ldc vw1 (ad.add (i.toNat * 2)) [(Value.string t14)]) ∧ callS Tryz.prog 83 [(Value.string t14)] vw1 fun v vw2=>∃ (t15 : Bool), v = (Value.bool t15) ∧ bnd (!t15) fun (b : Bool)=>∃ (ad3 : Addr), grd (!b) (l.a = some ad3 ∧ (0 : Int) ≤ i ∧ i < (l.len : Int)) ∧ ∃ (t22 : Sl), grd (!b) (ldc vw2 ((ad3.add (i.toNat * 2)).add 1) [(Sl.v t22)]) ∧ gCall (!b) (fun (t23 : Bool) (vw6 : World)=>bnd (b || (!t23)) fun (b9 : Bool)=>∃ (ad10 : Addr), grd (!b9) (l.a = some ad10 ∧ (0 : Int) ≤ i ∧ i < (l.len : Int)) ∧ ∃ (t31 : Sl), grd (!b9) (ldc vw6 ((ad10.add (i.toNat * 2)).add 1) [(Sl.v t31)]) ∧ bnd (b9 || ((t31.len : Int) == 0)) fun (b13 : Bool)=>bnd (decide (0 < i)) fun (b14 : Bool)=>∃ (ad15 : Addr), grd ((!b13) && b14) (l.a = some ad15 ∧ (0 : Int) ≤ (wrapI (i - 1)) ∧ (wrapI (i - 1)) < (l.len : Int)) ∧ ∃ (t44 : ByteArray), grd ((!b13) && b14) (ldc vw6 (ad15.add ((wrapI (i - 1)).toNat * 2)) [(Value.string t44)]) ∧ ∃ (ad18 : Addr), grd ((!b13) && b14) (l.a = some ad18 ∧ (0 : Int) ≤ i ∧ i < (l.len : Int)) ∧ ∃ (t49 : ByteArray), grd ((!b13) && b14) (ldc vw6 (ad18.add (i.toNat * 2)) [(Value.string t49)]) ∧ gCall ((!b13) && b14) (fun (t50 : Bool) (vw21 : World)=>(((b13 || (b14 && (!t50))) = true → R false vw21) ∧ ((b13 || (b14 && (!t50))) = false → nxt (wrapI (i + 1)) vw21))) (fun q=>callS Tryz.prog 85 [(Value.string t44), (Value.string t49)] vw6 fun v22 vw21=>∃ (t50 : Bool), v22 = (Value.bool t50) ∧ q t50 vw21) (fun q=>q false vw6)) (fun q=>callS Tryz.prog 84 [(Sl.v t22)] vw2 fun v7 vw6=>∃ (t23 : Bool), v7 = (Value.bool t23) ∧ q t23 vw6) (fun q=>q false vw2)) ∧ (¬ (i < (l.len : Int)) → R (decide ((l.len : Int) ≤ 16)) vw))
theorem halyardref05_List.go {l : Sl} {w : World} {k : Value → World → Prop} (h : halyardref05_List l w fun r0 w'=>k (Value.bool r0) w') : callS Tryz.prog 34 [(Sl.v l)] w k := rgo (sk := (.s (.r []) (.s (.s (.r []) (.b (.l [(3, 4)] (.s (.s (.r []) (.c .o .o)) (.s (.b (.s (.r []) (.c (.s (.r []) .o) .o))) (.r [])))))) (.s (.r []) .o)))) (args := [sv (Sl.v l)]) Tryz.func34 (Eq.mpr (by kernel_rfl) h)
def halyardref05_Apart (a : Sl) (b : Sl) (w : World) (R : Bool → World → Prop) : Prop :=
 loop1 0 w fun i vw nxt=>((i < (a.len : Int) → loop1 0 vw fun vk vw1 nxt2=>((vk < (b.len : Int) → bnd vw1.drew fun (vw3 : World)=>∃ (ad : Addr), (a.a = some ad ∧ (0 : Int) ≤ i ∧ i < (a.len : Int)) ∧ ∃ (t23 : ByteArray), (ldc vw3 (ad.add (i.toNat * 2)) [(Value.string t23)]) ∧ ∃ (ad4 : Addr), (b.a = some ad4 ∧ (0 : Int) ≤ vk ∧ vk < (b.len : Int)) ∧ ∃ (t28 : ByteArray), (ldc vw3 (ad4.add (vk.toNat * 2)) [(Value.string t28)]) ∧ ((t23 = t28 → R false vw3) ∧ (¬ (t23 = t28) → nxt2 (wrapI (vk + 1)) vw3))) ∧ (¬ (vk < (b.len : Int)) → nxt (wrapI (i + 1)) vw1))) ∧ (¬ (i < (a.len : Int)) → R true vw))
theorem halyardref05_Apart.go {a : Sl} {b : Sl} {w : World} {k : Value → World → Prop} (h : halyardref05_Apart a b w fun r0 w'=>k (Value.bool r0) w') : callS Tryz.prog 35 [(Sl.v a), (Sl.v b)] w k := rgo (sk := (.s (.r []) (.s (.s (.r []) (.b (.l [(5, 4)] (.s (.s (.r []) (.c .o .o)) (.s (.b (.s (.r []) (.b (.l [(6, 4)] (.s (.s (.r []) (.c .o .o)) (.s (.b (.s (.r []) (.c (.s (.r []) .o) .o))) (.r []))))))) (.r [])))))) (.s (.r []) .o)))) (args := [sv (Sl.v a), sv (Sl.v b)]) Tryz.func35 (Eq.mpr (by kernel_rfl) h)
def slices_DeleteFunc_apiVersionapiVersion (vs : Sl) (del : Value) (w : World) (R : Sl → World → Prop) : Prop :=
 callS Tryz.prog 89 [(Sl.v vs), del] w fun v vw=>∃ (t10 : Int), v = (Value.int .i64 t10) ∧ ((t10 = (-1) → R vs vw) ∧ (¬ (t10 = (-1)) → loop2 t10 (wrapI (t10 + 1)) vw fun i vj vw1 nxt=>((vj < (vs.len : Int) → join (fun (i2 : Int) (vw3 : World)=>nxt i2 (wrapI (vj + 1)) vw3) fun vJ=>∃ (ad : Addr), (vs.a = some ad ∧ (0 : Int) ≤ vj ∧ vj < (vs.len : Int)) ∧ ∃ (zz2o : Int) (zz2p : Int) (zz2q : Int), (ldc vw1 (ad.add (vj.toNat * 3)) [(Value.int .i64 zz2o), (Value.int .i64 zz2p), (Value.int .i64 zz2q)]) ∧ newS vw1 [(Value.int .i64 0), (Value.int .i64 0), (Value.int .i64 0)] 46 fun a vw4=>stw vw4 a [(Value.int .i64 zz2o), (Value.int .i64 zz2p), (Value.int .i64 zz2q)] fun vw5=>∃ (zz47 : Int) (zz48 : Int) (zz49 : Int), (ldc vw5 a [(Value.int .i64 zz47), (Value.int .i64 zz48), (Value.int .i64 zz49)]) ∧ callV Tryz.prog del [(Value.agg #[(Value.int .i64 zz47), (Value.int .i64 zz48), (Value.int .i64 zz49)])] vw5 fun v8 vw7=>∃ (t28 : Bool), v8 = (Value.bool t28) ∧ (((!t28) = true → ∃ (zz2r : Int) (zz2s : Int) (zz2t : Int), (ldc vw7 a [(Value.int .i64 zz2r), (Value.int .i64 zz2s), (Value.int .i64 zz2t)]) ∧ ∃ (ad11 : Addr), (vs.a = some ad11 ∧ (0 : Int) ≤ i ∧ i < (vs.len : Int)) ∧ stw vw7 (ad11.add (i.toNat * 3)) [(Value.int .i64 zz2r), (Value.int .i64 zz2s), (Value.int .i64 zz2t)] fun vw13=>vJ (wrapI (i + 1)) vw13) ∧ ((!t28) = false → vJ i vw7))) ∧ (¬ (vj < (vs.len : Int)) → ((0 : Int) ≤ i ∧ i ≤ (vs.len : Int)) ∧ semS Tryz.prog (Builtin.clear_ #[58] 0 #[(Sl.v (Sl.cut vs i.toNat vs.len 3))]) vw1 fun v16 vw15=>((0 : Int) ≤ i ∧ i ≤ (vs.cap : Int)) ∧ R (Sl.cut vs 0 i.toNat 3) vw15))))
set_option maxHeartbeats 8000000 in
theorem slices_DeleteFunc_apiVersionapiVersion.sound (vs : Sl) (del : Value) (w : World) (R : Sl → World → Prop) (h : slices_DeleteFunc_apiVersionapiVersion vs del w R) : callS Tryz.prog 38 [(Sl.v vs), del] w (fun v w'=>∃ (r0 : Sl), v = (Sl.v r0) ∧ R r0 w') := by
 unfold slices_DeleteFunc_apiVersionapiVersion at h
 refine calls_of_vc 42 rfl Tryz.func38 rfl (by kernel_rfl) (by simp) ?_
 refine Vc.seq ?_
 refine Vc.region ?_
 refine vcL_pure rfl rfl (Sl.v Sl.nil) (fun w=>by kernel_rfl) ?_
 refine vcL_nil ?_
 refine Vc.seq ?_
 refine Vc.region ?_
 refine vcL_purs 2 [(9, del), (8, (Sl.v vs))] (by kernel_rfl) ?_
 refine vcL_eff rfl (opVC_call rfl (by kernel_rfl) (callS.mono h fun v vw h=>?_))
 obtain ⟨t10, rfl, h⟩ := h
 refine vcL_pure rfl rfl (Value.int .i64 t10) (fun w=>by kernel_rfl) ?_
 refine vcL_nil ?_
 refine Vc.seq ?_
 refine Vc.seq ?_
 refine Vc.region ?_
 refine vcL_purs 2 [(12, (Value.bool (t10 == (-1)))), (11, (Value.int .i64 t10))] (by kernel_rfl) ?_
 refine vcL_nil ?_
 refine Vc.cond (t10 == (-1)) (by kernel_rfl) (fun hb=>?_) (fun hb=>?_)
 ·have h := h.1 (eq_of_beq hb)
  refine Vc.seq ?_
  refine Vc.region ?_
  refine vcL_purs 2 [(4, (Sl.v vs)), (13, (Sl.v vs))] (by kernel_rfl) ?_
  refine vcL_nil ?_
  refine Vc.ret ?_
  refine outs_ret ?_
  refine done_mk (Sl.v vs) (res1 (resC_tmp (by kernel_rfl))) ?_
  exact ⟨vs, rfl, h⟩
 ·have h := h.2 (ne_of_beq_false hb)
  refine Vc.skip ?_
  refine Vc.seq ?_
  refine Vc.seq ?_
  refine Vc.region ?_
  refine vcL_purs 3 [(6, (Value.int .i64 (wrapI (t10 + 1)))), (15, (Value.int .i64 (wrapI (t10 + 1)))), (14, (Value.int .i64 t10))] (by kernel_rfl) ?_
  refine vcL_nil ?_
  refine Vc.block ?_
  obtain ⟨vI, mu, h, hr⟩ := h
  refine Vc.loopJ (σ := Int × Int) [5, 6] [7, 16, 17, 18, 19, 20, 21, 22, 23, 24, 25, 26, 27, 28, 29, 30, 31, 32, 33, 34, 35] (fun s=>[(5, (Value.int .i64 s.1)), (6, (Value.int .i64 s.2))]) (fun s w=>vI s.1 s.2 w) (fun s w=>mu s.1 s.2 w) (t10, (wrapI (t10 + 1))) h (fun _ => rfl) (by kernel_rfl) ?_
  rintro ⟨i, vj⟩ vw1 j h
  have h := hr i vj vw1 h
  refine Vc.seq ?_
  refine Vc.seq ?_
  refine Vc.region ?_
  refine vcL_purs 4 [(19, (Value.bool (decide (vj < (vs.len : Int))))), (18, (Value.int .i64 (vs.len : Int))), (17, (Sl.v vs)), (16, (Value.int .i64 vj))] (by kernel_rfl) ?_
  refine vcL_nil ?_
  refine Vc.cond (decide (vj < (vs.len : Int))) (by kernel_rfl) (fun hb=>?_) (fun hb=>?_)
  ·have h := h.1 (of_decide_eq_true hb)
   refine Vc.skip ?_
   obtain ⟨vJ, hJ, h⟩ := join_elim h
   refine Vc.seqJ (σ := Int) [5] [7, 22, 23, 24, 25, 26, 27, 28, 29, 30, 31, 32, 33, 34, 35] (fun s=>[(5, (Value.int .i64 s))]) (fun s w=>vJ s w) (fun _ => rfl) ?_ ?_
   ·refine Vc.block ?_
    refine Vc.seq ?_
    refine Vc.region ?_
    refine vcL_purs 2 [(23, (Value.int .i64 vj)), (22, (Sl.v vs))] (by kernel_rfl) ?_
    obtain ⟨ad, hi, h⟩ := h
    refine vcL_pure rfl rfl (Value.pointer (some (ad.add (vj.toNat * 3)))) (fun w=>by exact exec_indexAt (s := vs) (el := 46) rfl (by kernel_rfl) (by kernel_rfl) (by kernel_rfl) (fun w=>by kernel_rfl) (hi).1 (hi).2.1 (hi).2.2 w) ?_
    obtain ⟨zz2o, zz2p, zz2q, hc, h⟩ := h
    refine vcL_val rfl rfl (Value.agg #[(Value.int .i64 zz2o), (Value.int .i64 zz2p), (Value.int .i64 zz2q)]) (exec_load rfl (by kernel_rfl) (run_loadN (fun w=>by kernel_rfl) (fun w=>by kernel_rfl) ((hc)))) ?_
    refine vcL_eff rfl (opVC_new rfl (fun a=>Value.pointer (some a)) (by kernel_rfl) (newS.mono h fun a vw4 hx h=>?_))
    refine vcL_eff rfl (opVC_store rfl rfl (a := a) (by kernel_rfl) (v := (Value.agg #[(Value.int .i64 zz2o), (Value.int .i64 zz2p), (Value.int .i64 zz2q)])) (by kernel_rfl) [(Value.int .i64 zz2o), (Value.int .i64 zz2p), (Value.int .i64 zz2q)] (by kernel_rfl) (fun w=>by kernel_rfl) (by kernel_rfl) (stw.mono h fun vw5 h=>?_))
    refine vcL_nil ?_
    refine Vc.seq ?_
    refine Vc.region ?_
    refine vcL_pure rfl rfl del (fun w=>by kernel_rfl) ?_
    obtain ⟨zz47, zz48, zz49, hc6, h⟩ := h
    refine vcL_val rfl rfl (Value.agg #[(Value.int .i64 zz47), (Value.int .i64 zz48), (Value.int .i64 zz49)]) (exec_load rfl (by kernel_rfl) (run_loadN (fun w=>by kernel_rfl) (fun w=>by kernel_rfl) ((hc6)))) ?_
    refine vcL_eff rfl (opVC_callV rfl rfl (fv := del) (by kernel_rfl) (args := [(Value.agg #[(Value.int .i64 zz47), (Value.int .i64 zz48), (Value.int .i64 zz49)])]) (by kernel_rfl) (callV.mono h fun v8 vw7 h=>?_))
    obtain ⟨t28, rfl, h⟩ := h
    refine vcL_pure rfl rfl (Value.bool (!t28)) (fun w=>by kernel_rfl) ?_
    refine vcL_nil ?_
    refine Vc.cond (!t28) (by kernel_rfl) (fun hb=>?_) (fun hb=>?_)
    ·have h := h.1 (hb)
     refine Vc.seq ?_
     refine Vc.region ?_
     refine vcL_purs 2 [(31, (Value.int .i64 i)), (30, (Sl.v vs))] (by kernel_rfl) ?_
     obtain ⟨zz2r, zz2s, zz2t, hc10, h⟩ := h
     refine vcL_val rfl rfl (Value.agg #[(Value.int .i64 zz2r), (Value.int .i64 zz2s), (Value.int .i64 zz2t)]) (exec_load rfl (by kernel_rfl) (run_loadN (fun w=>by kernel_rfl) (fun w=>by kernel_rfl) ((hc10)))) ?_
     obtain ⟨ad11, hi12, h⟩ := h
     refine vcL_pure rfl rfl (Value.pointer (some (ad11.add (i.toNat * 3)))) (fun w=>by exact exec_indexAt (s := vs) (el := 46) rfl (by kernel_rfl) (by kernel_rfl) (by kernel_rfl) (fun w=>by kernel_rfl) (hi12).1 (hi12).2.1 (hi12).2.2 w) ?_
     refine vcL_eff rfl (opVC_store rfl rfl (a := (ad11.add (i.toNat * 3))) (by kernel_rfl) (v := (Value.agg #[(Value.int .i64 zz2r), (Value.int .i64 zz2s), (Value.int .i64 zz2t)])) (by kernel_rfl) [(Value.int .i64 zz2r), (Value.int .i64 zz2s), (Value.int .i64 zz2t)] (by kernel_rfl) (fun w=>by kernel_rfl) (by kernel_rfl) (stw.mono h fun vw13 h=>?_))
     refine vcL_nil ?_
     refine Vc.region ?_
     refine vcL_purs 3 [(5, (Value.int .i64 (wrapI (i + 1)))), (35, (Value.int .i64 (wrapI (i + 1)))), (34, (Value.int .i64 i))] (by kernel_rfl) ?_
     refine vcL_nil ?_
     exact ⟨(wrapI (i + 1)), 16, ⟨rfl, by kernel_rfl, by kernel_rfl, by kernel_rfl⟩, h⟩
    ·have h := h.2 (hb)
     refine Vc.skip ?_
     exact ⟨i, 9, ⟨rfl, by kernel_rfl, by kernel_rfl, by kernel_rfl⟩, h⟩
   ·intro i2 vw3 j h
    subst hJ
    refine Vc.region ?_
    refine vcL_purs 3 [(6, (Value.int .i64 (wrapI (vj + 1)))), (21, (Value.int .i64 (wrapI (vj + 1)))), (20, (Value.int .i64 vj))] (by kernel_rfl) ?_
    refine vcL_nil ?_
    exact ⟨(i2, (wrapI (vj + 1))), 46, ⟨rfl, by kernel_rfl, by kernel_rfl, by kernel_rfl⟩, h⟩
  ·have h := h.2 (of_decide_eq_false hb)
   refine Vc.exit ?_
   refine outOf_hit ?_
   refine Vc.seq ?_
   refine Vc.region ?_
   refine vcL_purs 2 [(37, (Value.int .i64 i)), (36, (Sl.v vs))] (by kernel_rfl) ?_
   obtain ⟨hi14, h⟩ := h
   refine vcL_pure rfl rfl (Sl.v (Sl.cut vs i.toNat vs.len 3)) (fun w=>by exact exec_slSlL (s := vs) (el := 46) (k1 := .i64) rfl (by kernel_rfl) (by kernel_rfl) (by kernel_rfl) (fun w=>by kernel_rfl) (hi14) w) ?_
   refine vcL_eff rfl (opVC_sem0 rfl (c := Builtin.clear_ #[58] 0 #[(Sl.v (Sl.cut vs i.toNat vs.len 3))]) (by kernel_rfl) (semS.mono h fun v16 vw15 h=>?_))
   refine vcL_nil ?_
   refine Vc.seq ?_
   refine Vc.region ?_
   refine vcL_purs 2 [(40, (Value.int .i64 i)), (39, (Sl.v vs))] (by kernel_rfl) ?_
   obtain ⟨hi17, h⟩ := h
   refine vcL_pure rfl rfl (Sl.v (Sl.cut vs 0 i.toNat 3)) (fun w=>by exact exec_slSlH (s := vs) (el := 46) (k2 := .i64) rfl (by kernel_rfl) (by kernel_rfl) (by kernel_rfl) (fun w=>by kernel_rfl) (hi17) w) ?_
   refine vcL_pure rfl rfl (Sl.v (Sl.cut vs 0 i.toNat 3)) (fun w=>by kernel_rfl) ?_
   refine vcL_nil ?_
   refine Vc.ret ?_
   refine outs_ret ?_
   refine done_mk (Sl.v (Sl.cut vs 0 i.toNat 3)) (res1 (resC_tmp (by kernel_rfl))) ?_
   exact ⟨(Sl.cut vs 0 i.toNat 3), rfl, h⟩
theorem slices_DeleteFunc_apiVersionapiVersion.go {vs : Sl} {del : Value} {w : World} {k : Value → World → Prop} (h : slices_DeleteFunc_apiVersionapiVersion vs del w fun r0 w'=>k (Sl.v r0) w') : callS Tryz.prog 38 [(Sl.v vs), del] w k := (slices_DeleteFunc_apiVersionapiVersion.sound vs del w _ h).mono (by rintro _ _ ⟨r0, rfl, h⟩; exact h)
def catalog_Catalog_Versions (c : Option Addr) (name : ByteArray) (w : World) (R : Sl → World → Prop) : Prop :=
 ∃ (p : Addr), (c = some p) ∧ ∃ (t10 : Option Nat), (ldc w p [(Value.map t10)]) ∧ semS Tryz.prog (Instr.range 95 (Value.map t10)) w fun v vw=>∃ (it : Addr), v = (Value.pointer (some it)) ∧ loop1 Sl.nil vw fun out vw1 nxt=>semS Tryz.prog (Instr.next (Value.pointer (some it)) false 0) vw1 fun v3 vw2=>∃ (ok : Bool) (key_name : ByteArray) (zzn : Int) (zzo : Int) (zzp : Int) (zzr : ByteArray) (zzu : Int) (zzv : Int) (zzw : Int) (zzq : Sl) (zzt : Sl) (zzs : Sl), v3 = nextV ok (Value.agg #[(Value.string key_name), (Value.int .i64 zzn), (Value.int .i64 zzo), (Value.int .i64 zzp)]) (Value.agg #[(Value.string zzr), (Value.int .i64 zzu), (Value.int .i64 zzv), (Value.int .i64 zzw), (Sl.v zzq), (Sl.v zzt), (Sl.v zzs)]) ∧ ((ok = true → ∃ (key_name4 : ByteArray) (zz1a : Int) (zz1b : Int) (zz1c : Int) (zz1u : ByteArray) (zz1x : Int) (zz1y : Int) (zz1z : Int) (zz1t : Sl) (zz1w : Sl) (zz1v : Sl), (stabS Tryz.prog (Instr.entry (Value.pointer (some it))) vw2 (Value.tuple #[(Value.agg #[(Value.string key_name4), (Value.int .i64 zz1a), (Value.int .i64 zz1b), (Value.int .i64 zz1c)]), (Value.agg #[(Value.string zz1u), (Value.int .i64 zz1x), (Value.int .i64 zz1y), (Value.int .i64 zz1z), (Sl.v zz1t), (Sl.v zz1w), (Sl.v zz1v)])])) ∧ newS vw2 [(Value.string (ByteArray.mk #[])), (Value.int .i64 0), (Value.int .i64 0), (Value.int .i64 0)] 93 fun a vw15=>stw vw15 a [(Value.string key_name4), (Value.int .i64 zz1a), (Value.int .i64 zz1b), (Value.int .i64 zz1c)] fun vw16=>∃ (t17 : ByteArray), (ldc vw16 a [(Value.string t17)]) ∧ ((t17 = name → ∃ (zz5u : Int) (zz5v : Int) (zz5w : Int), (ldc vw16 (a.add 1) [(Value.int .i64 zz5u), (Value.int .i64 zz5v), (Value.int .i64 zz5w)]) ∧ newS vw16 [(Value.int .i64 zz5u), (Value.int .i64 zz5v), (Value.int .i64 zz5w)] 46 fun a19 vw20=>appS Tryz.prog 58 58 out (Sl.v (Sl.mk (some a19) 1 1)) vw20 fun t24 vw21=>nxt t24 vw21) ∧ (¬ (t17 = name) → nxt out vw16))) ∧ (ok = false → callS Tryz.prog 90 [(Sl.v out), (Value.func (.func 51) #[] #[])] vw2 fun v23 vw22=>v23 = (Value.tuple #[]) ∧ callS Tryz.prog 46 [(Sl.v out)] vw22 fun v25 vw24=>∃ (t28 : Sl), v25 = (Sl.v t28) ∧ R t28 vw24))
set_option maxHeartbeats 8000000 in
theorem catalog_Catalog_Versions.sound (c : Option Addr) (name : ByteArray) (w : World) (R : Sl → World → Prop) (h : catalog_Catalog_Versions c name w R) : callS Tryz.prog 39 [(Value.pointer c), (Value.string name)] w (fun v w'=>∃ (r0 : Sl), v = (Sl.v r0) ∧ R r0 w') := by
 unfold catalog_Catalog_Versions at h
 refine calls_of_vc 29 rfl Tryz.func39 rfl (by kernel_rfl) (by simp) ?_
 refine Vc.seq ?_
 refine Vc.region ?_
 refine vcL_pure rfl rfl (Sl.v Sl.nil) (fun w=>by kernel_rfl) ?_
 refine vcL_nil ?_
 refine Vc.seq ?_
 refine Vc.region ?_
 refine vcL_pure rfl rfl (Sl.v Sl.nil) (fun w=>by kernel_rfl) ?_
 refine vcL_nil ?_
 refine Vc.seq ?_
 refine Vc.seq ?_
 refine Vc.region ?_
 refine vcL_pure rfl rfl (Value.pointer c) (fun w=>by kernel_rfl) ?_
 obtain ⟨p, hp, h⟩ := h
 refine vcL_pure rfl rfl (Value.pointer (some p)) (fun w=>by exact exec_nilCheck rfl (by kernel_rfl) (hp) w) ?_
 refine vcL_pure rfl rfl (Value.pointer (some p)) (fun w=>by kernel_rfl) ?_
 obtain ⟨t10, hc, h⟩ := h
 refine vcL_val rfl rfl (Value.map t10) (exec_load rfl (by kernel_rfl) (run_load1 (fun w=>by kernel_rfl) ((hc)))) ?_
 refine vcL_eff rfl (opVC_sem rfl (c := Instr.range 95 (Value.map t10)) (by kernel_rfl) (semS.mono h fun v vw h=>?_))
 obtain ⟨it, rfl, h⟩ := h
 refine vcL_nil ?_
 refine Vc.block ?_
 obtain ⟨vI, mu, h, hr⟩ := h
 refine Vc.loopJ (σ := Sl) [5] [6, 12, 13, 14, 15, 16, 17, 18, 19, 20, 21, 22, 23, 24] (fun s=>[(5, (Sl.v s))]) (fun s w=>vI s w) (fun s w=>mu s w) Sl.nil h (fun _ => rfl) (by kernel_rfl) ?_
 intro out vw1 j h
 have h := hr out vw1 h
 refine Vc.seq ?_
 refine Vc.region ?_
 refine vcL_eff rfl (opVC_sem rfl (c := Instr.next (Value.pointer (some it)) false 0) (by kernel_rfl) (semS.mono h fun v3 vw2 h=>?_))
 obtain ⟨ok, key_name, zzn, zzo, zzp, zzr, zzu, zzv, zzw, zzq, zzt, zzs, rfl, h⟩ := h
 refine vcL_pure rfl rfl (Value.bool ok) (fun w=>by cases ok <;> kernel_rfl) ?_
 refine vcL_nil ?_
 refine Vc.seq ?_
 refine Vc.cond ok (by kernel_rfl) (fun hb=>?_) (fun hb=>?_)
 ·have hq := h.1 (hb)
  clear h
  subst hb
  have h := hq
  clear hq
  refine Vc.skip ?_
  refine Vc.block ?_
  refine Vc.seq ?_
  refine Vc.region ?_
  obtain ⟨key_name4, zz1a, zz1b, zz1c, zz1u, zz1x, zz1y, zz1z, zz1t, zz1w, zz1v, hl, h⟩ := h
  refine vcL_val rfl rfl (Value.tuple #[(Value.agg #[(Value.string key_name4), (Value.int .i64 zz1a), (Value.int .i64 zz1b), (Value.int .i64 zz1c)]), (Value.agg #[(Value.string zz1u), (Value.int .i64 zz1x), (Value.int .i64 zz1y), (Value.int .i64 zz1z), (Sl.v zz1t), (Sl.v zz1w), (Sl.v zz1v)])]) (exec_sem (c := Instr.entry (Value.pointer (some it))) (by kernel_rfl) ((hl) _ (Ext.refl _))) ?_
  refine vcL_pure rfl rfl (Value.agg #[(Value.string key_name4), (Value.int .i64 zz1a), (Value.int .i64 zz1b), (Value.int .i64 zz1c)]) (fun w=>by kernel_rfl) ?_
  refine vcL_eff rfl (opVC_new rfl (fun a=>Value.pointer (some a)) (by kernel_rfl) (newS.mono h fun a vw15 hx h=>?_))
  refine vcL_eff rfl (opVC_store rfl rfl (a := a) (by kernel_rfl) (v := (Value.agg #[(Value.string key_name4), (Value.int .i64 zz1a), (Value.int .i64 zz1b), (Value.int .i64 zz1c)])) (by kernel_rfl) [(Value.string key_name4), (Value.int .i64 zz1a), (Value.int .i64 zz1b), (Value.int .i64 zz1c)] (by kernel_rfl) (fun w=>by kernel_rfl) (by kernel_rfl) (stw.mono h fun vw16 h=>?_))
  refine vcL_nil ?_
  refine Vc.seq ?_
  refine Vc.region ?_
  refine vcL_pure rfl rfl (Value.pointer (some a)) (fun w=>by kernel_rfl) ?_
  obtain ⟨t17, hc17, h⟩ := h
  refine vcL_val rfl rfl (Value.string t17) (exec_load rfl (by kernel_rfl) (run_load1 (fun w=>by kernel_rfl) ((hc17)))) ?_
  refine vcL_purs 2 [(19, (Value.bool (bEq t17 name))), (18, (Value.string name))] (by kernel_rfl) ?_
  refine vcL_nil ?_
  refine Vc.cond (bEq t17 name) (by kernel_rfl) (fun hb=>?_) (fun hb=>?_)
  ·have h := h.1 (bEq_iff.1 hb)
   refine Vc.region ?_
   refine vcL_purs 2 [(21, (Value.pointer (some (a.add 1)))), (20, (Sl.v out))] (by kernel_rfl) ?_
   obtain ⟨zz5u, zz5v, zz5w, hc18, h⟩ := h
   refine vcL_val rfl rfl (Value.agg #[(Value.int .i64 zz5u), (Value.int .i64 zz5v), (Value.int .i64 zz5w)]) (exec_load rfl (by kernel_rfl) (run_loadN (fun w=>by kernel_rfl) (fun w=>by kernel_rfl) ((hc18)))) ?_
   refine vcL_eff rfl (opVC_new rfl (fun a=>Value.slice (some a) 1 1) (by kernel_rfl) (newS.mono h fun a19 vw20 hx h=>?_))
   refine vcL_eff rfl (opVC_sem rfl (c := Builtin.append_ #[58, 58] 58 #[(Sl.v out), (Sl.v (Sl.mk (some a19) 1 1))]) (by kernel_rfl) (appS.elim (ty := 58) h fun t24 vw21 h=>?_))
   refine vcL_pure rfl rfl (Sl.v t24) (fun w=>by kernel_rfl) ?_
   refine vcL_nil ?_
   exact ⟨t24, 30, ⟨rfl, by kernel_rfl, by kernel_rfl, by kernel_rfl⟩, h⟩
  ·have h := h.2 (bEq_false.1 hb)
   refine Vc.skip ?_
   exact ⟨out, 24, ⟨rfl, by kernel_rfl, by kernel_rfl, by kernel_rfl⟩, h⟩
 ·have hq := h.2 (hb)
  clear h
  subst hb
  have h := hq
  clear hq
  refine Vc.exit ?_
  refine outOf_hit ?_
  refine Vc.seq ?_
  refine Vc.region ?_
  refine vcL_pure rfl rfl (Sl.v out) (fun w=>by kernel_rfl) ?_
  refine vcL_eff rfl (opVC_call rfl (by kernel_rfl) (callS.mono h fun v23 vw22 h=>?_))
  obtain ⟨rfl, h⟩ := h
  refine vcL_nil ?_
  refine Vc.seq ?_
  refine Vc.region ?_
  refine vcL_pure rfl rfl (Sl.v out) (fun w=>by kernel_rfl) ?_
  refine vcL_eff rfl (opVC_call rfl (by kernel_rfl) (callS.mono h fun v25 vw24 h=>?_))
  obtain ⟨t28, rfl, h⟩ := h
  refine vcL_pure rfl rfl (Sl.v t28) (fun w=>by kernel_rfl) ?_
  refine vcL_nil ?_
  refine Vc.ret ?_
  refine outs_ret ?_
  refine done_mk (Sl.v t28) (res1 (resC_tmp (by kernel_rfl))) ?_
  exact ⟨t28, rfl, h⟩
theorem catalog_Catalog_Versions.go {c : Option Addr} {name : ByteArray} {w : World} {k : Value → World → Prop} (h : catalog_Catalog_Versions c name w fun r0 w'=>k (Sl.v r0) w') : callS Tryz.prog 39 [(Value.pointer c), (Value.string name)] w k := (catalog_Catalog_Versions.sound c name w _ h).mono (by rintro _ _ ⟨r0, rfl, h⟩; exact h)
def catalog_Catalog_Candidates_1 (zzc : Int) (zzd : Int) (zze : Int) (c0 : Addr) (w : World) (R : Bool → World → Prop) : Prop :=
 newS w [(Value.int .i64 zzc), (Value.int .i64 zzd), (Value.int .i64 zze)] 46 fun a vw=>∃ (t4 : Sl), (ldc vw c0 [(Sl.v t4)]) ∧ ∃ (zz52 : Int) (zz53 : Int) (zz54 : Int), (ldc vw a [(Value.int .i64 zz52), (Value.int .i64 zz53), (Value.int .i64 zz54)]) ∧ callS Tryz.prog 41 [(Sl.v t4), (Value.agg #[(Value.int .i64 zz52), (Value.int .i64 zz53), (Value.int .i64 zz54)])] vw fun v vw2=>∃ (t6 : Bool), v = (Value.bool t6) ∧ R (!t6) vw2
theorem catalog_Catalog_Candidates_1.go {zzc : Int} {zzd : Int} {zze : Int} {c0 : Addr} {w : World} {k : Value → World → Prop} (h : catalog_Catalog_Candidates_1 zzc zzd zze c0 w fun r0 w'=>k (Value.bool r0) w') : callS Tryz.prog 40 [(Value.agg #[(Value.int .i64 zzc), (Value.int .i64 zzd), (Value.int .i64 zze)]), (Value.pointer (some c0))] w k := rgo (sk := (.s (.r []) (.s (.r []) .o))) (args := [sv (Value.agg #[(Value.int .i64 zzc), (Value.int .i64 zzd), (Value.int .i64 zze)]), sa c0]) Tryz.func40 (Eq.mpr (by kernel_rfl) h)
def span_In (l : Sl) (zzc : Int) (zzd : Int) (zze : Int) (w : World) (R : Bool → World → Prop) : Prop :=
 newS w [(Value.int .i64 zzc), (Value.int .i64 zzd), (Value.int .i64 zze)] 46 fun a vw=>callS Tryz.prog 91 [(Sl.v l)] vw fun v vw1=>∃ (t6 : Bool), v = (Value.bool t6) ∧ ∃ (zz55 : Int) (zz56 : Int) (zz57 : Int), grd t6 (ldc vw1 a [(Value.int .i64 zz55), (Value.int .i64 zz56), (Value.int .i64 zz57)]) ∧ gCall t6 (fun (t9 : Bool) (vw2 : World)=>bnd (t6 && t9) fun (b : Bool)=>gCall b (fun (t14 : Bool) (vw5 : World)=>R (b && t14) vw5) (fun q=>callS Tryz.prog 92 [(Sl.v l), (Value.func (.func 93) #[] #[(Value.pointer (some a))])] vw2 fun v6 vw5=>∃ (t14 : Bool), v6 = (Value.bool t14) ∧ q t14 vw5) (fun q=>q false vw2)) (fun q=>callS Tryz.prog 78 [(Value.agg #[(Value.int .i64 zz55), (Value.int .i64 zz56), (Value.int .i64 zz57)])] vw1 fun v3 vw2=>∃ (t9 : Bool), v3 = (Value.bool t9) ∧ q t9 vw2) (fun q=>q false vw1)
theorem span_In.go {l : Sl} {zzc : Int} {zzd : Int} {zze : Int} {w : World} {k : Value → World → Prop} (h : span_In l zzc zzd zze w fun r0 w'=>k (Value.bool r0) w') : callS Tryz.prog 41 [(Sl.v l), (Value.agg #[(Value.int .i64 zzc), (Value.int .i64 zzd), (Value.int .i64 zze)])] w k := rgo (sk := (.s (.r []) (.s (.r [7]) .o))) (args := [sv (Sl.v l), sv (Value.agg #[(Value.int .i64 zzc), (Value.int .i64 zzd), (Value.int .i64 zze)])]) Tryz.func41 (Eq.mpr (by kernel_rfl) h)
def slices_SortStableFunc_apiVersionapiVersion (x : Sl) (cmp : Value) (w : World) (R : World → Prop) : Prop :=
 callS Tryz.prog 95 [(Sl.v x), (Value.int .i64 (x.len : Int)), cmp] w fun v vw=>v = (Value.tuple #[]) ∧ R vw
theorem slices_SortStableFunc_apiVersionapiVersion.go {x : Sl} {cmp : Value} {w : World} {k : Value → World → Prop} (h : slices_SortStableFunc_apiVersionapiVersion x cmp w fun  w'=>k (Value.tuple #[]) w') : callS Tryz.prog 42 [(Sl.v x), cmp] w k := rgo (sk := (.r [])) (args := [sv (Sl.v x), sv cmp]) Tryz.func42 (Eq.mpr (by kernel_rfl) h)
def catalog_Catalog_Candidates_2 (zzz : Int) (zz10 : Int) (zz12 : Int) (zz15 : Int) (zz16 : Int) (zz18 : Int) (c0 : Addr) (c1 : Addr) (w : World) (R : Int → World → Prop) : Prop :=
 newS w [(Value.int .i64 zzz), (Value.int .i64 zz10), (Value.int .i64 zz12)] 46 fun a vw=>newS vw [(Value.int .i64 zz15), (Value.int .i64 zz16), (Value.int .i64 zz18)] 46 fun a1 vw2=>bnd vw2.drew fun (vw3 : World)=>∃ (t7 : Sl), (ldc vw3 c0 [(Sl.v t7)]) ∧ ∃ (t8 : ByteArray), (ldc vw3 c1 [(Value.string t8)]) ∧ ∃ (zzdj : Int) (zzdk : Int) (zzdn : Int), (ldc vw3 a1 [(Value.int .i64 zzdj), (Value.int .i64 zzdk), (Value.int .i64 zzdn)]) ∧ ∃ (t13 : Sl), (ldc vw3 c0 [(Sl.v t13)]) ∧ ∃ (t14 : ByteArray), (ldc vw3 c1 [(Value.string t14)]) ∧ ∃ (zz85 : Int) (zz8a : Int) (zz8d : Int), (ldc vw3 a [(Value.int .i64 zz85), (Value.int .i64 zz8a), (Value.int .i64 zz8d)]) ∧ callX Tryz.prog 45 [(Sl.v t7), (Value.agg #[(Value.string t8), (Value.int .i64 zzdj), (Value.int .i64 zzdk), (Value.int .i64 zzdn)])] vw3 fun v vw9=>∃ (t11 : Bool), v = (Value.bool t11) ∧ callX Tryz.prog 44 [(Value.bool t11)] vw9 fun v11 vw10=>∃ (t12 : Int), v11 = (Value.int .i64 t12) ∧ callS Tryz.prog 45 [(Sl.v t13), (Value.agg #[(Value.string t14), (Value.int .i64 zz85), (Value.int .i64 zz8a), (Value.int .i64 zz8d)])] vw10 fun v14 vw13=>∃ (t17 : Bool), v14 = (Value.bool t17) ∧ callS Tryz.prog 44 [(Value.bool t17)] vw13 fun v17 vw16=>∃ (t18 : Int), v17 = (Value.int .i64 t18) ∧ R (wrapI (t12 - t18)) vw16
theorem catalog_Catalog_Candidates_2.go {zzz : Int} {zz10 : Int} {zz12 : Int} {zz15 : Int} {zz16 : Int} {zz18 : Int} {c0 : Addr} {c1 : Addr} {w : World} {k : Value → World → Prop} (h : catalog_Catalog_Candidates_2 zzz zz10 zz12 zz15 zz16 zz18 c0 c1 w fun r0 w'=>k (Value.int .i64 r0) w') : callS Tryz.prog 43 [(Value.agg #[(Value.int .i64 zzz), (Value.int .i64 zz10), (Value.int .i64 zz12)]), (Value.agg #[(Value.int .i64 zz15), (Value.int .i64 zz16), (Value.int .i64 zz18)]), (Value.pointer (some c0)), (Value.pointer (some c1))] w k := rgo (sk := (.s (.r []) (.s (.r []) .o))) (args := [sv (Value.agg #[(Value.int .i64 zzz), (Value.int .i64 zz10), (Value.int .i64 zz12)]), sv (Value.agg #[(Value.int .i64 zz15), (Value.int .i64 zz16), (Value.int .i64 zz18)]), sa c0, sa c1]) Tryz.func43 (Eq.mpr (by kernel_rfl) h)
def catalog_order (is : Bool) (w : World) (R : Int → World → Prop) : Prop :=
 ((is = true → R 1 w) ∧ (is = false → R 0 w))
theorem catalog_order.go {is : Bool} {w : World} {k : Value → World → Prop} (h : catalog_order is w fun r0 w'=>k (Value.int .i64 r0) w') : callS Tryz.prog 44 [(Value.bool is)] w k := rgo (sk := (.s (.r []) (.s (.s (.r []) (.c (.s (.r []) .o) .o)) (.s (.r []) .o)))) (args := [sv (Value.bool is)]) Tryz.func44 (Eq.mpr (by kernel_rfl) h)
def slices_Contains_apiPinapiPin (vs : Sl) (zz58 : ByteArray) (zz59 : Int) (zz5a : Int) (zz5b : Int) (w : World) (R : Bool → World → Prop) : Prop :=
 newS w [(Value.string zz58), (Value.int .i64 zz59), (Value.int .i64 zz5a), (Value.int .i64 zz5b)] 67 fun a vw=>∃ (zzci : ByteArray) (zzck : Int) (zzcl : Int) (zzcm : Int), (ldc vw a [(Value.string zzci), (Value.int .i64 zzck), (Value.int .i64 zzcl), (Value.int .i64 zzcm)]) ∧ callS Tryz.prog 96 [(Sl.v vs), (Value.agg #[(Value.string zzci), (Value.int .i64 zzck), (Value.int .i64 zzcl), (Value.int .i64 zzcm)])] vw fun v vw1=>∃ (t7 : Int), v = (Value.int .i64 t7) ∧ R (decide (0 ≤ t7)) vw1
theorem slices_Contains_apiPinapiPin.go {vs : Sl} {zz58 : ByteArray} {zz59 : Int} {zz5a : Int} {zz5b : Int} {w : World} {k : Value → World → Prop} (h : slices_Contains_apiPinapiPin vs zz58 zz59 zz5a zz5b w fun r0 w'=>k (Value.bool r0) w') : callS Tryz.prog 45 [(Sl.v vs), (Value.agg #[(Value.string zz58), (Value.int .i64 zz59), (Value.int .i64 zz5a), (Value.int .i64 zz5b)])] w k := rgo (sk := (.s (.r []) (.s (.r []) .o))) (args := [sv (Sl.v vs), sv (Value.agg #[(Value.string zz58), (Value.int .i64 zz59), (Value.int .i64 zz5a), (Value.int .i64 zz5b)])]) Tryz.func45 (Eq.mpr (by kernel_rfl) h)
def slices_Clip_apiVersionapiVersion (vs : Sl) (w : World) (R : Sl → World → Prop) : Prop :=
 ((0 : Int) ≤ 0 ∧ 0 ≤ (vs.len : Int) ∧ (vs.len : Int) ≤ (vs.len : Int) ∧ (vs.len : Int) ≤ (vs.cap : Int)) ∧ R (Sl.mk (if (vs.len : Int).toNat = 0 then vs.a else vs.a.map (·.add (0 * 3))) ((vs.len : Int).toNat - 0) ((vs.len : Int).toNat - 0)) w
theorem slices_Clip_apiVersionapiVersion.go {vs : Sl} {w : World} {k : Value → World → Prop} (h : slices_Clip_apiVersionapiVersion vs w fun r0 w'=>k (Sl.v r0) w') : callS Tryz.prog 46 [(Sl.v vs)] w k := rgo (sk := (.s (.r []) (.s (.r []) .o))) (args := [sv (Sl.v vs)]) Tryz.func46 (Eq.mpr (by kernel_rfl) h)
def catalog_Catalog_All_1 (zzf : ByteArray) (zzg : Int) (zzh : Int) (zzi : Int) (zzy : Sl) (zz13 : Sl) (zz11 : Sl) (zzj : ByteArray) (zzk : Int) (zzl : Int) (zzm : Int) (zz14 : Sl) (zz19 : Sl) (zz17 : Sl) (w : World) (R : Int → World → Prop) : Prop :=
 newS w [(Value.string zzf), (Value.int .i64 zzg), (Value.int .i64 zzh), (Value.int .i64 zzi), (Sl.v zzy), (Sl.v zz13), (Sl.v zz11)] 48 fun a vw=>newS vw [(Value.string zzj), (Value.int .i64 zzk), (Value.int .i64 zzl), (Value.int .i64 zzm), (Sl.v zz14), (Sl.v zz19), (Sl.v zz17)] 48 fun a1 vw2=>bnd vw2.drew fun (vw3 : World)=>∃ (t6 : ByteArray), (ldc vw3 a [(Value.string t6)]) ∧ ∃ (t8 : ByteArray), (ldc vw3 a1 [(Value.string t8)]) ∧ ∃ (zz39 : Int) (zz3a : Int) (zz3b : Int), (ldc vw3 (a.add 1) [(Value.int .i64 zz39), (Value.int .i64 zz3a), (Value.int .i64 zz3b)]) ∧ ∃ (zz3c : Int) (zz3d : Int) (zz3e : Int), (ldc vw3 (a1.add 1) [(Value.int .i64 zz3c), (Value.int .i64 zz3d), (Value.int .i64 zz3e)]) ∧ callX Tryz.prog 50 [(Value.string t6), (Value.string t8)] vw3 fun v vw7=>∃ (t9 : Int), v = (Value.int .i64 t9) ∧ callS Tryz.prog 51 [(Value.agg #[(Value.int .i64 zz39), (Value.int .i64 zz3a), (Value.int .i64 zz3b)]), (Value.agg #[(Value.int .i64 zz3c), (Value.int .i64 zz3d), (Value.int .i64 zz3e)])] vw7 fun v9 vw8=>∃ (t14 : Int), v9 = (Value.int .i64 t14) ∧ newS vw8 [(Value.int .i64 t9), (Value.int .i64 t14)] 3 fun a11 vw12=>callS Tryz.prog 49 [(Sl.v (Sl.mk (some a11) 2 2))] vw12 fun v14 vw13=>∃ (t16 : Int), v14 = (Value.int .i64 t16) ∧ R t16 vw13
theorem catalog_Catalog_All_1.go {zzf : ByteArray} {zzg : Int} {zzh : Int} {zzi : Int} {zzy : Sl} {zz13 : Sl} {zz11 : Sl} {zzj : ByteArray} {zzk : Int} {zzl : Int} {zzm : Int} {zz14 : Sl} {zz19 : Sl} {zz17 : Sl} {w : World} {k : Value → World → Prop} (h : catalog_Catalog_All_1 zzf zzg zzh zzi zzy zz13 zz11 zzj zzk zzl zzm zz14 zz19 zz17 w fun r0 w'=>k (Value.int .i64 r0) w') : callS Tryz.prog 48 [(Value.agg #[(Value.string zzf), (Value.int .i64 zzg), (Value.int .i64 zzh), (Value.int .i64 zzi), (Sl.v zzy), (Sl.v zz13), (Sl.v zz11)]), (Value.agg #[(Value.string zzj), (Value.int .i64 zzk), (Value.int .i64 zzl), (Value.int .i64 zzm), (Sl.v zz14), (Sl.v zz19), (Sl.v zz17)])] w k := rgo (sk := (.s (.r []) (.s (.r []) .o))) (args := [sv (Value.agg #[(Value.string zzf), (Value.int .i64 zzg), (Value.int .i64 zzh), (Value.int .i64 zzi), (Sl.v zzy), (Sl.v zz13), (Sl.v zz11)]), sv (Value.agg #[(Value.string zzj), (Value.int .i64 zzk), (Value.int .i64 zzl), (Value.int .i64 zzm), (Sl.v zz14), (Sl.v zz19), (Sl.v zz17)])]) Tryz.func48 (Eq.mpr (by kernel_rfl) h)
def cmp_Or_int (vals : Sl) (w : World) (R : Int → World → Prop) : Prop :=
 loop1 0 w fun t8 vw nxt=>((t8 < (vals.len : Int) → ∃ (ad : Addr), (vals.a = some ad ∧ (0 : Int) ≤ t8 ∧ t8 < (vals.len : Int)) ∧ ∃ (t11 : Int), (ldc vw (ad.add (t8.toNat * 1)) [(Value.int .i64 t11)]) ∧ ((¬ t11 = 0 → R t11 vw) ∧ (¬ (¬ t11 = 0) → nxt (wrapI (t8 + 1)) vw))) ∧ (¬ (t8 < (vals.len : Int)) → R 0 vw))
theorem cmp_Or_int.go {vals : Sl} {w : World} {k : Value → World → Prop} (h : cmp_Or_int vals w fun r0 w'=>k (Value.int .i64 r0) w') : callS Tryz.prog 49 [(Sl.v vals)] w k := rgo (sk := (.s (.r []) (.s (.r []) (.s (.s (.r []) (.b (.l [(8, 4)] (.s (.r []) (.s (.c .o .o) (.s (.b (.s (.r []) (.s (.r []) (.c (.s (.r []) .o) .o)))) (.r []))))))) (.s (.r []) .o))))) (args := [sv (Sl.v vals)]) Tryz.func49 (Eq.mpr (by kernel_rfl) h)
def cmp_Compare_string (x : ByteArray) (y : ByteArray) (w : World) (R : Int → World → Prop) : Prop :=
 callS Tryz.prog 99 [(Value.string x)] w fun v vw=>∃ (t8 : Bool), v = (Value.bool t8) ∧ callS Tryz.prog 99 [(Value.string y)] vw fun v2 vw1=>∃ (t10 : Bool), v2 = (Value.bool t10) ∧ ((t8 = true → ((t10 = true → R 0 vw1) ∧ (t10 = false → R (-1) vw1))) ∧ (t8 = false → ((t10 = true → R 1 vw1) ∧ (t10 = false → (((bLt x y) = true → R (-1) vw1) ∧ ((bLt x y) = false → (((!(bLt x y || bEq x y)) = true → R 1 vw1) ∧ ((!(bLt x y || bEq x y)) = false → R 0 vw1))))))))
theorem cmp_Compare_string.go {x : ByteArray} {y : ByteArray} {w : World} {k : Value → World → Prop} (h : cmp_Compare_string x y w fun r0 w'=>k (Value.int .i64 r0) w') : callS Tryz.prog 50 [(Value.string x), (Value.string y)] w k := rgo (sk := (.s (.r []) (.s (.r []) (.s (.r []) (.s (.s (.r []) (.c (.s (.s (.r []) (.c (.s (.r []) .o) .o)) (.s (.r []) .o)) .o)) (.s (.s (.r []) (.c (.s (.r []) .o) .o)) (.s (.s (.r []) (.c (.s (.r []) .o) .o)) (.s (.s (.r []) (.c (.s (.r []) .o) .o)) (.s (.r []) .o))))))))) (args := [sv (Value.string x), sv (Value.string y)]) Tryz.func50 (Eq.mpr (by kernel_rfl) h)
def catalog_falling (zzz : Int) (zz10 : Int) (zz12 : Int) (zz15 : Int) (zz16 : Int) (zz18 : Int) (w : World) (R : Int → World → Prop) : Prop :=
 newS w [(Value.int .i64 zzz), (Value.int .i64 zz10), (Value.int .i64 zz12)] 46 fun a vw=>newS vw [(Value.int .i64 zz15), (Value.int .i64 zz16), (Value.int .i64 zz18)] 46 fun a1 vw2=>∃ (zz52 : Int) (zz53 : Int) (zz54 : Int), (ldc vw2 a1 [(Value.int .i64 zz52), (Value.int .i64 zz53), (Value.int .i64 zz54)]) ∧ ∃ (zzcg : Int) (zzch : Int) (zzcj : Int), (ldc vw2 a [(Value.int .i64 zzcg), (Value.int .i64 zzch), (Value.int .i64 zzcj)]) ∧ callS Tryz.prog 94 [(Value.agg #[(Value.int .i64 zz52), (Value.int .i64 zz53), (Value.int .i64 zz54)]), (Value.agg #[(Value.int .i64 zzcg), (Value.int .i64 zzch), (Value.int .i64 zzcj)])] vw2 fun v vw4=>∃ (t7 : Int), v = (Value.int .i64 t7) ∧ R t7 vw4
theorem catalog_falling.go {zzz : Int} {zz10 : Int} {zz12 : Int} {zz15 : Int} {zz16 : Int} {zz18 : Int} {w : World} {k : Value → World → Prop} (h : catalog_falling zzz zz10 zz12 zz15 zz16 zz18 w fun r0 w'=>k (Value.int .i64 r0) w') : callS Tryz.prog 51 [(Value.agg #[(Value.int .i64 zzz), (Value.int .i64 zz10), (Value.int .i64 zz12)]), (Value.agg #[(Value.int .i64 zz15), (Value.int .i64 zz16), (Value.int .i64 zz18)])] w k := rgo (sk := (.s (.r []) (.s (.r []) .o))) (args := [sv (Value.agg #[(Value.int .i64 zzz), (Value.int .i64 zz10), (Value.int .i64 zz12)]), sv (Value.agg #[(Value.int .i64 zz15), (Value.int .i64 zz16), (Value.int .i64 zz18)])]) Tryz.func51 (Eq.mpr (by kernel_rfl) h)
def slices_Clip_apiPackageapiPackage (vs : Sl) (w : World) (R : Sl → World → Prop) : Prop :=
 ((0 : Int) ≤ 0 ∧ 0 ≤ (vs.len : Int) ∧ (vs.len : Int) ≤ (vs.len : Int) ∧ (vs.len : Int) ≤ (vs.cap : Int)) ∧ R (Sl.mk (if (vs.len : Int).toNat = 0 then vs.a else vs.a.map (·.add (0 * 7))) ((vs.len : Int).toNat - 0) ((vs.len : Int).toNat - 0)) w
theorem slices_Clip_apiPackageapiPackage.go {vs : Sl} {w : World} {k : Value → World → Prop} (h : slices_Clip_apiPackageapiPackage vs w fun r0 w'=>k (Sl.v r0) w') : callS Tryz.prog 52 [(Sl.v vs)] w k := rgo (sk := (.s (.r []) (.s (.r []) .o))) (args := [sv (Sl.v vs)]) Tryz.func52 (Eq.mpr (by kernel_rfl) h)
def wants_OfRoot (zz5 : Sl) (zz6 : Sl) (zz7 : Sl) (zz8 : Sl) (dev : Bool) (w : World) (R : Sl → World → Prop) : Prop :=
 newS w [(Sl.v zz5), (Sl.v zz6), (Sl.v zz7), (Sl.v zz8)] 25 fun a vw=>∃ (t7 : Sl), (ldc vw a [(Sl.v t7)]) ∧ newS vw [(Sl.v t7)] 23 fun a1 vw2=>join (fun (must : Sl) (vw3 : World)=>∃ (zz3f : Sl) (zz3g : Sl) (zz3i : Sl) (zz8b : Sl), (ldc vw3 a [(Sl.v zz3f), (Sl.v zz3g), (Sl.v zz3i), (Sl.v zz8b)]) ∧ ∃ (t18 : Sl), (ldc vw3 (a.add 2) [(Sl.v t18)]) ∧ callS Tryz.prog 103 [(Value.agg #[(Sl.v zz3f), (Sl.v zz3g), (Sl.v zz3i), (Sl.v zz8b)]), (Sl.v must), (Sl.v t18)] vw3 fun v vw6=>∃ (t19 : Sl), v = (Sl.v t19) ∧ R t19 vw6) fun vJ=>((dev = true → ∃ (t12 : Sl), (ldc vw2 (a.add 1) [(Sl.v t12)]) ∧ newS vw2 [(Sl.v t12)] 23 fun a8 vw9=>appS Tryz.prog 159 159 (Sl.mk (some a1) 1 1) (Sl.v (Sl.mk (some a8) 1 1)) vw9 fun t14 vw10=>vJ t14 vw10) ∧ (dev = false → vJ (Sl.mk (some a1) 1 1) vw2))
theorem wants_OfRoot.go {zz5 : Sl} {zz6 : Sl} {zz7 : Sl} {zz8 : Sl} {dev : Bool} {w : World} {k : Value → World → Prop} (h : wants_OfRoot zz5 zz6 zz7 zz8 dev w fun r0 w'=>k (Sl.v r0) w') : callS Tryz.prog 54 [(Value.agg #[(Sl.v zz5), (Sl.v zz6), (Sl.v zz7), (Sl.v zz8)]), (Value.bool dev)] w k := rgo (sk := (.s (.r []) (.s (.r []) (.j [(5, 160)] (.s (.r []) (.c (.r []) .o)) (.s (.r []) .o))))) (args := [sv (Value.agg #[(Sl.v zz5), (Sl.v zz6), (Sl.v zz7), (Sl.v zz8)]), sv (Value.bool dev)]) Tryz.func54 (Eq.mpr (by kernel_rfl) h)
def catalog_Catalog_Get (c : Option Addr) (name : ByteArray) (zzc : Int) (zzd : Int) (zze : Int) (w : World) (R : ByteArray → Int → Int → Int → Sl → Sl → Sl → Bool → World → Prop) : Prop :=
 newS w [(Value.int .i64 zzc), (Value.int .i64 zzd), (Value.int .i64 zze)] 46 fun a vw=>newS vw [(Value.string (ByteArray.mk #[])), (Value.int .i64 0), (Value.int .i64 0), (Value.int .i64 0), (Sl.v Sl.nil), (Sl.v Sl.nil), (Sl.v Sl.nil)] 48 fun a1 vw2=>bnd vw2.drew fun (vw3 : World)=>∃ (p : Addr), (c = some p) ∧ ∃ (t14 : Option Nat), (ldc vw3 p [(Value.map t14)]) ∧ ∃ (zz3m : Int) (zz3n : Int) (zz3o : Int), (ldc vw3 a [(Value.int .i64 zz3m), (Value.int .i64 zz3n), (Value.int .i64 zz3o)]) ∧ ∃ (zz3q : ByteArray) (zz3t : Int) (zz3u : Int) (zz3v : Int) (zz3p : Sl) (zz3s : Sl) (zz3r : Sl) (t18b : Bool), (stabS Tryz.prog (Instr.lookup 95 (Value.map t14) (Value.agg #[(Value.string name), (Value.int .i64 zz3m), (Value.int .i64 zz3n), (Value.int .i64 zz3o)]) true) vw3 (Value.tuple #[(Value.agg #[(Value.string zz3q), (Value.int .i64 zz3t), (Value.int .i64 zz3u), (Value.int .i64 zz3v), (Sl.v zz3p), (Sl.v zz3s), (Sl.v zz3r)]), (Value.bool t18b)])) ∧ newS vw3 [(Value.string (ByteArray.mk #[])), (Value.int .i64 0), (Value.int .i64 0), (Value.int .i64 0), (Sl.v Sl.nil), (Sl.v Sl.nil), (Sl.v Sl.nil)] 48 fun a6 vw7=>stw vw7 a6 [(Value.string zz3q), (Value.int .i64 zz3t), (Value.int .i64 zz3u), (Value.int .i64 zz3v), (Sl.v zz3p), (Sl.v zz3s), (Sl.v zz3r)] fun vw8=>∃ (zz3w : ByteArray) (zz3x : Int) (zz3y : Int) (zz3z : Int) (zz8r : Sl) (zz8t : Sl) (zz8s : Sl), (ldc vw8 a6 [(Value.string zz3w), (Value.int .i64 zz3x), (Value.int .i64 zz3y), (Value.int .i64 zz3z), (Sl.v zz8r), (Sl.v zz8t), (Sl.v zz8s)]) ∧ callS Tryz.prog 33 [(Value.agg #[(Value.string zz3w), (Value.int .i64 zz3x), (Value.int .i64 zz3y), (Value.int .i64 zz3z), (Sl.v zz8r), (Sl.v zz8t), (Sl.v zz8s)])] vw8 fun v11 vw10=>∃ (zz41 : ByteArray) (zz44 : Int) (zz45 : Int) (zz46 : Int) (zz40 : Sl) (zz43 : Sl) (zz42 : Sl), v11 = (Value.agg #[(Value.string zz41), (Value.int .i64 zz44), (Value.int .i64 zz45), (Value.int .i64 zz46), (Sl.v zz40), (Sl.v zz43), (Sl.v zz42)]) ∧ stw vw10 a1 [(Value.string zz41), (Value.int .i64 zz44), (Value.int .i64 zz45), (Value.int .i64 zz46), (Sl.v zz40), (Sl.v zz43), (Sl.v zz42)] fun vw12=>∃ (zz1e : ByteArray) (zz1h : Int) (zz1i : Int) (zz1j : Int) (zz1d : Sl) (zz1g : Sl) (zz1f : Sl), ldc vw12 a1 [(Value.string zz1e), (Value.int .i64 zz1h), (Value.int .i64 zz1i), (Value.int .i64 zz1j), (Sl.v zz1d), (Sl.v zz1g), (Sl.v zz1f)] ∧ R zz1e zz1h zz1i zz1j zz1d zz1g zz1f t18b vw12
theorem catalog_Catalog_Get.go {c : Option Addr} {name : ByteArray} {zzc : Int} {zzd : Int} {zze : Int} {w : World} {k : Value → World → Prop} (h : catalog_Catalog_Get c name zzc zzd zze w fun r0 r1 r2 r3 r4 r5 r6 r7 w'=>k (Value.tuple #[(Value.agg #[(Value.string r0), (Value.int .i64 r1), (Value.int .i64 r2), (Value.int .i64 r3), (Sl.v r4), (Sl.v r5), (Sl.v r6)]), (Value.bool r7)]) w') : callS Tryz.prog 55 [(Value.pointer c), (Value.string name), (Value.agg #[(Value.int .i64 zzc), (Value.int .i64 zzd), (Value.int .i64 zze)])] w k := rgo (sk := (.s (.r []) (.s (.r []) (.s (.r []) .o)))) (args := [sv (Value.pointer c), sv (Value.string name), sv (Value.agg #[(Value.int .i64 zzc), (Value.int .i64 zzd), (Value.int .i64 zze)])]) Tryz.func55 (Eq.mpr (by kernel_rfl) h)
def wants_Of (zz1 : ByteArray) (zz2 : Int) (zz3 : Int) (zz4 : Int) (zz9 : Sl) (zzb : Sl) (zza : Sl) (zz5 : Sl) (zz6 : Sl) (zz7 : Sl) (zz8 : Sl) (w : World) (R : Sl → World → Prop) : Prop :=
 newS w [(Value.string zz1), (Value.int .i64 zz2), (Value.int .i64 zz3), (Value.int .i64 zz4), (Sl.v zz9), (Sl.v zzb), (Sl.v zza)] 48 fun a vw=>newS vw [(Sl.v zz5), (Sl.v zz6), (Sl.v zz7), (Sl.v zz8)] 25 fun a1 vw2=>∃ (zzc0 : Sl) (zzc1 : Sl) (zzc2 : Sl) (zzc3 : Sl), (ldc vw2 a1 [(Sl.v zzc0), (Sl.v zzc1), (Sl.v zzc2), (Sl.v zzc3)]) ∧ ∃ (t7 : Sl), (ldc vw2 (a.add 4) [(Sl.v t7)]) ∧ newS vw2 [(Sl.v t7)] 23 fun a4 vw5=>∃ (t10 : Sl), (ldc vw5 (a.add 6) [(Sl.v t10)]) ∧ callS Tryz.prog 103 [(Value.agg #[(Sl.v zzc0), (Sl.v zzc1), (Sl.v zzc2), (Sl.v zzc3)]), (Sl.v (Sl.mk (some a4) 1 1)), (Sl.v t10)] vw5 fun v vw7=>∃ (t11 : Sl), v = (Sl.v t11) ∧ R t11 vw7
theorem wants_Of.go {zz1 : ByteArray} {zz2 : Int} {zz3 : Int} {zz4 : Int} {zz9 : Sl} {zzb : Sl} {zza : Sl} {zz5 : Sl} {zz6 : Sl} {zz7 : Sl} {zz8 : Sl} {w : World} {k : Value → World → Prop} (h : wants_Of zz1 zz2 zz3 zz4 zz9 zzb zza zz5 zz6 zz7 zz8 w fun r0 w'=>k (Sl.v r0) w') : callS Tryz.prog 56 [(Value.agg #[(Value.string zz1), (Value.int .i64 zz2), (Value.int .i64 zz3), (Value.int .i64 zz4), (Sl.v zz9), (Sl.v zzb), (Sl.v zza)]), (Value.agg #[(Sl.v zz5), (Sl.v zz6), (Sl.v zz7), (Sl.v zz8)])] w k := rgo (sk := (.s (.r []) (.s (.r []) .o))) (args := [sv (Value.agg #[(Value.string zz1), (Value.int .i64 zz2), (Value.int .i64 zz3), (Value.int .i64 zz4), (Sl.v zz9), (Sl.v zzb), (Sl.v zza)]), sv (Value.agg #[(Sl.v zz5), (Sl.v zz6), (Sl.v zz7), (Sl.v zz8)])]) Tryz.func56 (Eq.mpr (by kernel_rfl) h)
def halyardref05_May (zz1 : ByteArray) (zz2 : Int) (zz3 : Int) (zz4 : Int) (zz9 : Sl) (zzb : Sl) (zza : Sl) (w : World) (R : Bool → World → Prop) : Prop :=
 newS w [(Value.string zz1), (Value.int .i64 zz2), (Value.int .i64 zz3), (Value.int .i64 zz4), (Sl.v zz9), (Sl.v zzb), (Sl.v zza)] 48 fun a vw=>∃ (t5 : ByteArray), (ldc vw a [(Value.string t5)]) ∧ callS Tryz.prog 83 [(Value.string t5)] vw fun v vw1=>∃ (t6 : Bool), v = (Value.bool t6) ∧ bnd (!t6) fun (b : Bool)=>∃ (zz76 : Int) (zz77 : Int) (zz78 : Int), grd (!b) (ldc vw1 (a.add 1) [(Value.int .i64 zz76), (Value.int .i64 zz77), (Value.int .i64 zz78)]) ∧ gCall (!b) (fun (t11 : Bool) (vw3 : World)=>bnd (b || (!t11)) fun (b6 : Bool)=>∃ (t16 : Sl), grd (!b6) (ldc vw3 (a.add 4) [(Sl.v t16)]) ∧ gCall (!b6) (fun (t17 : Bool) (vw8 : World)=>bnd (b6 || (!t17)) fun (b13 : Bool)=>∃ (t22 : Sl), grd (!b13) (ldc vw8 (a.add 5) [(Sl.v t22)]) ∧ gCall (!b13) (fun (t23 : Bool) (vw15 : World)=>bnd (b13 || (!t23)) fun (b20 : Bool)=>∃ (t28 : Sl), grd (!b20) (ldc vw15 (a.add 6) [(Sl.v t28)]) ∧ gCall (!b20) (fun (t29 : Bool) (vw22 : World)=>(((b20 || (!t29)) = true → R false vw22) ∧ ((b20 || (!t29)) = false → ∃ (t33 : Sl), (ldc vw22 (a.add 4) [(Sl.v t33)]) ∧ ∃ (t35 : Sl), (ldc vw22 (a.add 5) [(Sl.v t35)]) ∧ callS Tryz.prog 35 [(Sl.v t33), (Sl.v t35)] vw22 fun v30 vw29=>∃ (t36 : Bool), v30 = (Value.bool t36) ∧ ∃ (t39 : Sl), grd t36 (ldc vw29 (a.add 4) [(Sl.v t39)]) ∧ ∃ (t41 : Sl), grd t36 (ldc vw29 (a.add 6) [(Sl.v t41)]) ∧ gCall t36 (fun (t42 : Bool) (vw34 : World)=>bnd (t36 && t42) fun (b39 : Bool)=>∃ (t46 : Sl), grd b39 (ldc vw34 (a.add 5) [(Sl.v t46)]) ∧ ∃ (t48 : Sl), grd b39 (ldc vw34 (a.add 6) [(Sl.v t48)]) ∧ gCall b39 (fun (t49 : Bool) (vw42 : World)=>bnd (b39 && t49) fun (b47 : Bool)=>∃ (zz51 : ByteArray) (zzbl : Int) (zzbm : Int) (zzbn : Int) (zzbe : Sl) (zzbj : Sl) (zzbh : Sl), grd b47 (ldc vw42 a [(Value.string zz51), (Value.int .i64 zzbl), (Value.int .i64 zzbm), (Value.int .i64 zzbn), (Sl.v zzbe), (Sl.v zzbj), (Sl.v zzbh)]) ∧ gCall b47 (fun (t54 : ByteArray) (vw49 : World)=>R (b47 && (decide ((t54.size : Int) ≤ 4096))) vw49) (fun q=>callS Tryz.prog 107 [(Value.agg #[(Value.string zz51), (Value.int .i64 zzbl), (Value.int .i64 zzbm), (Value.int .i64 zzbn), (Sl.v zzbe), (Sl.v zzbj), (Sl.v zzbh)])] vw42 fun v50 vw49=>∃ (t54 : ByteArray), v50 = (Value.string t54) ∧ q t54 vw49) (fun q=>q (ByteArray.mk #[]) vw42)) (fun q=>callS Tryz.prog 35 [(Sl.v t46), (Sl.v t48)] vw34 fun v43 vw42=>∃ (t49 : Bool), v43 = (Value.bool t49) ∧ q t49 vw42) (fun q=>q false vw34)) (fun q=>callS Tryz.prog 35 [(Sl.v t39), (Sl.v t41)] vw29 fun v35 vw34=>∃ (t42 : Bool), v35 = (Value.bool t42) ∧ q t42 vw34) (fun q=>q false vw29)))) (fun q=>callS Tryz.prog 34 [(Sl.v t28)] vw15 fun v23 vw22=>∃ (t29 : Bool), v23 = (Value.bool t29) ∧ q t29 vw22) (fun q=>q false vw15)) (fun q=>callS Tryz.prog 34 [(Sl.v t22)] vw8 fun v16 vw15=>∃ (t23 : Bool), v16 = (Value.bool t23) ∧ q t23 vw15) (fun q=>q false vw8)) (fun q=>callS Tryz.prog 34 [(Sl.v t16)] vw3 fun v9 vw8=>∃ (t17 : Bool), v9 = (Value.bool t17) ∧ q t17 vw8) (fun q=>q false vw3)) (fun q=>callS Tryz.prog 106 [(Value.agg #[(Value.int .i64 zz76), (Value.int .i64 zz77), (Value.int .i64 zz78)])] vw1 fun v4 vw3=>∃ (t11 : Bool), v4 = (Value.bool t11) ∧ q t11 vw3) (fun q=>q false vw1)
theorem halyardref05_May.go {zz1 : ByteArray} {zz2 : Int} {zz3 : Int} {zz4 : Int} {zz9 : Sl} {zzb : Sl} {zza : Sl} {w : World} {k : Value → World → Prop} (h : halyardref05_May zz1 zz2 zz3 zz4 zz9 zzb zza w fun r0 w'=>k (Value.bool r0) w') : callS Tryz.prog 58 [(Value.agg #[(Value.string zz1), (Value.int .i64 zz2), (Value.int .i64 zz3), (Value.int .i64 zz4), (Sl.v zz9), (Sl.v zzb), (Sl.v zza)])] w k := rgo (sk := (.s (.r []) (.s (.s (.r []) (.c (.s (.r []) .o) .o)) (.s (.r [37]) (.s (.r []) .o))))) (args := [sv (Value.agg #[(Value.string zz1), (Value.int .i64 zz2), (Value.int .i64 zz3), (Value.int .i64 zz4), (Sl.v zz9), (Sl.v zzb), (Sl.v zza)])]) Tryz.func58 (Eq.mpr (by kernel_rfl) h)
def halyardref08_Catalog_Get (c : Option Addr) (name : ByteArray) (zzc : Int) (zzd : Int) (zze : Int) (w : World) (R : ByteArray → Int → Int → Int → Sl → Sl → Sl → Bool → World → Prop) : Prop :=
 newS w [(Value.int .i64 zzc), (Value.int .i64 zzd), (Value.int .i64 zze)] 46 fun a vw=>newS vw [(Value.string (ByteArray.mk #[])), (Value.int .i64 0), (Value.int .i64 0), (Value.int .i64 0), (Sl.v Sl.nil), (Sl.v Sl.nil), (Sl.v Sl.nil)] 48 fun a1 vw2=>loop1 0 vw2 fun i vw3 nxt=>∃ (p : Addr), (c = some p) ∧ ∃ (t13 : Sl), (ldc vw3 p [(Sl.v t13)]) ∧ ((i < (t13.len : Int) → bnd vw3.drew fun (vw4 : World)=>∃ (p5 : Addr), (c = some p5) ∧ ∃ (t21 : Sl), (ldc vw4 p5 [(Sl.v t21)]) ∧ ∃ (ad : Addr), (t21.a = some ad ∧ (0 : Int) ≤ i ∧ i < (t21.len : Int)) ∧ ∃ (t25 : ByteArray), (ldc vw4 (ad.add (i.toNat * 7)) [(Value.string t25)]) ∧ bnd (bEq t25 name) fun (b : Bool)=>∃ (p9 : Addr), grd b (c = some p9) ∧ ∃ (t32 : Sl), grd b (ldc vw4 p9 [(Sl.v t32)]) ∧ ∃ (ad12 : Addr), grd b (t32.a = some ad12 ∧ (0 : Int) ≤ i ∧ i < (t32.len : Int)) ∧ ∃ (zz6e : Int) (zz6f : Int) (zz6g : Int), grd b (ldc vw4 ((ad12.add (i.toNat * 7)).add 1) [(Value.int .i64 zz6e), (Value.int .i64 zz6f), (Value.int .i64 zz6g)]) ∧ ∃ (zz2u : Int) (zz2v : Int) (zz2w : Int), grd b (ldc vw4 a [(Value.int .i64 zz2u), (Value.int .i64 zz2v), (Value.int .i64 zz2w)]) ∧ (((b && ((zz6e == zz2u) && ((zz6f == zz2v) && ((zz6g == zz2w) && true)))) = true → ∃ (p16 : Addr), (c = some p16) ∧ ∃ (t43 : Sl), (ldc vw4 p16 [(Sl.v t43)]) ∧ ∃ (ad19 : Addr), (t43.a = some ad19 ∧ (0 : Int) ≤ i ∧ i < (t43.len : Int)) ∧ ∃ (zz4v : ByteArray) (zz4y : Int) (zz4z : Int) (zz50 : Int) (zz1r : Sl) (zz4x : Sl) (zz1s : Sl), (ldc vw4 (ad19.add (i.toNat * 7)) [(Value.string zz4v), (Value.int .i64 zz4y), (Value.int .i64 zz4z), (Value.int .i64 zz50), (Sl.v zz1r), (Sl.v zz4x), (Sl.v zz1s)]) ∧ stw vw4 a1 [(Value.string zz4v), (Value.int .i64 zz4y), (Value.int .i64 zz4z), (Value.int .i64 zz50), (Sl.v zz1r), (Sl.v zz4x), (Sl.v zz1s)] fun vw22=>∃ (zz1e : ByteArray) (zz1h : Int) (zz1i : Int) (zz1j : Int) (zz1d : Sl) (zz1g : Sl) (zz1f : Sl), ldc vw22 a1 [(Value.string zz1e), (Value.int .i64 zz1h), (Value.int .i64 zz1i), (Value.int .i64 zz1j), (Sl.v zz1d), (Sl.v zz1g), (Sl.v zz1f)] ∧ R zz1e zz1h zz1i zz1j zz1d zz1g zz1f true vw22) ∧ ((b && ((zz6e == zz2u) && ((zz6f == zz2v) && ((zz6g == zz2w) && true)))) = false → nxt (wrapI (i + 1)) vw4))) ∧ (¬ (i < (t13.len : Int)) → stw vw3 a1 [(Value.string (ByteArray.mk #[])), (Value.int .i64 0), (Value.int .i64 0), (Value.int .i64 0), (Sl.v Sl.nil), (Sl.v Sl.nil), (Sl.v Sl.nil)] fun vw24=>∃ (zz6w : ByteArray) (zz70 : Int) (zz71 : Int) (zz72 : Int) (zz6t : Sl) (zz6z : Sl) (zz6x : Sl), ldc vw24 a1 [(Value.string zz6w), (Value.int .i64 zz70), (Value.int .i64 zz71), (Value.int .i64 zz72), (Sl.v zz6t), (Sl.v zz6z), (Sl.v zz6x)] ∧ R zz6w zz70 zz71 zz72 zz6t zz6z zz6x false vw24))
theorem halyardref08_Catalog_Get.go {c : Option Addr} {name : ByteArray} {zzc : Int} {zzd : Int} {zze : Int} {w : World} {k : Value → World → Prop} (h : halyardref08_Catalog_Get c name zzc zzd zze w fun r0 r1 r2 r3 r4 r5 r6 r7 w'=>k (Value.tuple #[(Value.agg #[(Value.string r0), (Value.int .i64 r1), (Value.int .i64 r2), (Value.int .i64 r3), (Sl.v r4), (Sl.v r5), (Sl.v r6)]), (Value.bool r7)]) w') : callS Tryz.prog 59 [(Value.pointer c), (Value.string name), (Value.agg #[(Value.int .i64 zzc), (Value.int .i64 zzd), (Value.int .i64 zze)])] w k := rgo (sk := (.s (.r []) (.s (.s (.r []) (.b (.l [(8, 4)] (.s (.s (.r []) (.c .o .o)) (.s (.b (.s (.r []) (.c (.s (.r []) .o) .o))) (.r [])))))) (.s (.r []) .o)))) (args := [sv (Value.pointer c), sv (Value.string name), sv (Value.agg #[(Value.int .i64 zzc), (Value.int .i64 zzd), (Value.int .i64 zze)])]) Tryz.func59 (Eq.mpr (by kernel_rfl) h)
def halyardref08_ahead (zzf : ByteArray) (zzg : Int) (zzh : Int) (zzi : Int) (zzy : Sl) (zz13 : Sl) (zz11 : Sl) (zzj : ByteArray) (zzk : Int) (zzl : Int) (zzm : Int) (zz14 : Sl) (zz19 : Sl) (zz17 : Sl) (w : World) (R : Bool → World → Prop) : Prop :=
 newS w [(Value.string zzf), (Value.int .i64 zzg), (Value.int .i64 zzh), (Value.int .i64 zzi), (Sl.v zzy), (Sl.v zz13), (Sl.v zz11)] 48 fun a vw=>newS vw [(Value.string zzj), (Value.int .i64 zzk), (Value.int .i64 zzl), (Value.int .i64 zzm), (Sl.v zz14), (Sl.v zz19), (Sl.v zz17)] 48 fun a1 vw2=>∃ (t6 : ByteArray), (ldc vw2 a [(Value.string t6)]) ∧ ∃ (t8 : ByteArray), (ldc vw2 a1 [(Value.string t8)]) ∧ ((¬ t6 = t8 → ∃ (t11 : ByteArray), (ldc vw2 a [(Value.string t11)]) ∧ ∃ (t13 : ByteArray), (ldc vw2 a1 [(Value.string t13)]) ∧ callS Tryz.prog 108 [(Value.string t11), (Value.string t13)] vw2 fun v vw6=>∃ (t14 : Bool), v = (Value.bool t14) ∧ R t14 vw6) ∧ (¬ (¬ t6 = t8) → ∃ (zz3m : Int) (zz3n : Int) (zz3o : Int), (ldc vw2 (a.add 1) [(Value.int .i64 zz3m), (Value.int .i64 zz3n), (Value.int .i64 zz3o)]) ∧ ∃ (zz8l : Int) (zz8m : Int) (zz8n : Int), (ldc vw2 (a1.add 1) [(Value.int .i64 zz8l), (Value.int .i64 zz8m), (Value.int .i64 zz8n)]) ∧ callS Tryz.prog 109 [(Value.agg #[(Value.int .i64 zz3m), (Value.int .i64 zz3n), (Value.int .i64 zz3o)]), (Value.agg #[(Value.int .i64 zz8l), (Value.int .i64 zz8m), (Value.int .i64 zz8n)])] vw2 fun v10 vw9=>∃ (t19 : Int), v10 = (Value.int .i64 t19) ∧ R (decide (0 < t19)) vw9))
theorem halyardref08_ahead.go {zzf : ByteArray} {zzg : Int} {zzh : Int} {zzi : Int} {zzy : Sl} {zz13 : Sl} {zz11 : Sl} {zzj : ByteArray} {zzk : Int} {zzl : Int} {zzm : Int} {zz14 : Sl} {zz19 : Sl} {zz17 : Sl} {w : World} {k : Value → World → Prop} (h : halyardref08_ahead zzf zzg zzh zzi zzy zz13 zz11 zzj zzk zzl zzm zz14 zz19 zz17 w fun r0 w'=>k (Value.bool r0) w') : callS Tryz.prog 60 [(Value.agg #[(Value.string zzf), (Value.int .i64 zzg), (Value.int .i64 zzh), (Value.int .i64 zzi), (Sl.v zzy), (Sl.v zz13), (Sl.v zz11)]), (Value.agg #[(Value.string zzj), (Value.int .i64 zzk), (Value.int .i64 zzl), (Value.int .i64 zzm), (Sl.v zz14), (Sl.v zz19), (Sl.v zz17)])] w k := rgo (sk := (.s (.r []) (.s (.s (.r []) (.c (.s (.r []) .o) .o)) (.s (.r []) .o)))) (args := [sv (Value.agg #[(Value.string zzf), (Value.int .i64 zzg), (Value.int .i64 zzh), (Value.int .i64 zzi), (Sl.v zzy), (Sl.v zz13), (Sl.v zz11)]), sv (Value.agg #[(Value.string zzj), (Value.int .i64 zzk), (Value.int .i64 zzl), (Value.int .i64 zzm), (Sl.v zz14), (Sl.v zz19), (Sl.v zz17)])]) Tryz.func60 (Eq.mpr (by kernel_rfl) h)
def manifest_may (a : Sl) (b : Sl) (c : Sl) (w : World) (R : Bool → World → Prop) : Prop :=
 newS w [(Sl.v a), (Sl.v b), (Sl.v c)] 23 fun a1 vw=>loop2 Sl.nil 0 vw fun all t19 vw2 nxt=>((t19 < ((Sl.mk (some a1) 3 3).len : Int) → ∃ (ad : Addr), ((Sl.mk (some a1) 3 3).a = some ad ∧ (0 : Int) ≤ t19 ∧ t19 < ((Sl.mk (some a1) 3 3).len : Int)) ∧ ∃ (t22 : Sl), (ldc vw2 (ad.add (t19.toNat * 1)) [(Sl.v t22)]) ∧ bnd (decide (16 < (t22.len : Int))) fun (b3 : Bool)=>gCall (!b3) (fun (t29 : Bool) (vw4 : World)=>(((b3 || (!t29)) = true → R false vw4) ∧ ((b3 || (!t29)) = false → loop1 0 vw4 fun t34 vw5 nxt6=>((t34 < (t22.len : Int) → ∃ (ad7 : Addr), (t22.a = some ad7 ∧ (0 : Int) ≤ t34 ∧ t34 < (t22.len : Int)) ∧ ∃ (zz2h : ByteArray) (zz9q : Sl), (ldc vw5 (ad7.add (t34.toNat * 2)) [(Value.string zz2h), (Sl.v zz9q)]) ∧ newS vw5 [(Value.string (ByteArray.mk #[])), (Sl.v Sl.nil)] 74 fun a10 vw11=>stw vw11 a10 [(Value.string zz2h), (Sl.v zz9q)] fun vw12=>∃ (t39 : ByteArray), (ldc vw12 a10 [(Value.string t39)]) ∧ callS Tryz.prog 77 [(Value.string t39)] vw12 fun v15 vw14=>∃ (t40 : Bool), v15 = (Value.bool t40) ∧ bnd (!t40) fun (b17 : Bool)=>∃ (t44 : Sl), grd (!b17) (ldc vw14 (a10.add 1) [(Sl.v t44)]) ∧ gCall (!b17) (fun (t45 : Bool) (vw19 : World)=>bnd (b17 || (!t45)) fun (b24 : Bool)=>∃ (t50 : Sl), grd (!b24) (ldc vw19 (a10.add 1) [(Sl.v t50)]) ∧ (((b24 || ((t50.len : Int) == 0)) = true → R false vw19) ∧ ((b24 || ((t50.len : Int) == 0)) = false → nxt6 (wrapI (t34 + 1)) vw19))) (fun q=>callS Tryz.prog 91 [(Sl.v t44)] vw14 fun v20 vw19=>∃ (t45 : Bool), v20 = (Value.bool t45) ∧ q t45 vw19) (fun q=>q false vw14)) ∧ (¬ (t34 < (t22.len : Int)) → appS Tryz.prog 23 23 all (Sl.v t22) vw5 fun t57 vw26=>nxt t57 (wrapI (t19 + 1)) vw26))))) (fun q=>callS Tryz.prog 111 [(Sl.v t22), (Value.func (.func 110) #[] #[])] vw2 fun v vw4=>∃ (t29 : Bool), v = (Value.bool t29) ∧ q t29 vw4) (fun q=>q false vw2)) ∧ (¬ (t19 < ((Sl.mk (some a1) 3 3).len : Int)) → callS Tryz.prog 112 [(Sl.v all), (Value.func (.func 110) #[] #[])] vw2 fun v28 vw27=>v28 = (Value.tuple #[]) ∧ loop1 1 vw27 fun i vw30 nxt31=>((i < (all.len : Int) → bnd vw30.drew fun (vw32 : World)=>∃ (ad33 : Addr), (all.a = some ad33 ∧ (0 : Int) ≤ i ∧ i < (all.len : Int)) ∧ ∃ (t72 : ByteArray), (ldc vw32 (ad33.add (i.toNat * 2)) [(Value.string t72)]) ∧ ∃ (ad36 : Addr), (all.a = some ad36 ∧ (0 : Int) ≤ (wrapI (i - 1)) ∧ (wrapI (i - 1)) < (all.len : Int)) ∧ ∃ (t78 : ByteArray), (ldc vw32 (ad36.add ((wrapI (i - 1)).toNat * 2)) [(Value.string t78)]) ∧ ((t72 = t78 → R false vw32) ∧ (¬ (t72 = t78) → nxt31 (wrapI (i + 1)) vw32))) ∧ (¬ (i < (all.len : Int)) → R true vw30))))
theorem manifest_may.go {a : Sl} {b : Sl} {c : Sl} {w : World} {k : Value → World → Prop} (h : manifest_may a b c w fun r0 w'=>k (Value.bool r0) w') : callS Tryz.prog 61 [(Sl.v a), (Sl.v b), (Sl.v c)] w k := rgo (sk := (.s (.r []) (.s (.r []) (.s (.r []) (.s (.s (.r []) (.b (.l [(8, 24), (19, 4)] (.s (.r []) (.s (.c .o .o) (.s (.b (.s (.r []) (.s (.s (.r []) (.c (.s (.r []) .o) .o)) (.s (.s (.r []) (.b (.l [(34, 4)] (.s (.r []) (.s (.c .o .o) (.s (.b (.s (.r []) (.s (.r []) (.c (.s (.r []) .o) .o)))) (.r []))))))) (.r []))))) (.r []))))))) (.s (.r []) (.s (.s (.r []) (.b (.l [(13, 4)] (.s (.s (.r []) (.c .o .o)) (.s (.b (.s (.r []) (.c (.s (.r []) .o) .o))) (.r [])))))) (.s (.r []) .o)))))))) (args := [sv (Sl.v a), sv (Sl.v b), sv (Sl.v c)]) Tryz.func61 (Eq.mpr (by kernel_rfl) h)
def manifest_text (zz5 : Sl) (zz6 : Sl) (zz7 : Sl) (zz8 : Sl) (w : World) (R : ByteArray → World → Prop) : Prop :=
 newS w [(Sl.v zz5), (Sl.v zz6), (Sl.v zz7), (Sl.v zz8)] 25 fun a vw=>newS vw [(Value.pointer none), (Sl.v Sl.nil)] 171 fun a1 vw2=>callS Tryz.prog 113 [(Value.pointer (some a1)), (Value.string (ByteArray.mk #[112, 114, 111, 106, 101, 99, 116, 10]))] vw2 fun v vw3=>∃ (t8 : Int) (t8b : Value), v = (Value.tuple #[(Value.int .i64 t8), t8b]) ∧ callS Tryz.prog 114 [(Value.pointer (some a))] vw3 fun v5 vw4=>∃ (t9 : Sl), v5 = (Sl.v t9) ∧ loop1 0 vw4 fun t11 vw7 nxt=>((t11 < (t9.len : Int) → ∃ (ad : Addr), (t9.a = some ad ∧ (0 : Int) ≤ t11 ∧ t11 < (t9.len : Int)) ∧ ∃ (t14_word : ByteArray) (t14_list : Option Addr), (ldc vw7 (ad.add (t11.toNat * 2)) [(Value.string t14_word), (Value.pointer t14_list)]) ∧ newS vw7 [(Value.string (ByteArray.mk #[])), (Value.pointer none)] 181 fun a8 vw9=>stw vw9 a8 [(Value.string t14_word), (Value.pointer t14_list)] fun vw10=>∃ (t16 : Option Addr), (ldc vw10 (a8.add 1) [(Value.pointer t16)]) ∧ ∃ (p : Addr), (t16 = some p) ∧ ∃ (t18 : Sl), (ldc vw10 p [(Sl.v t18)]) ∧ loop1 0 vw10 fun t20 vw13 nxt14=>((t20 < (t18.len : Int) → ∃ (ad15 : Addr), (t18.a = some ad15 ∧ (0 : Int) ≤ t20 ∧ t20 < (t18.len : Int)) ∧ ∃ (zz2n : ByteArray) (zz8x : Sl), (ldc vw13 (ad15.add (t20.toNat * 2)) [(Value.string zz2n), (Sl.v zz8x)]) ∧ newS vw13 [(Value.string (ByteArray.mk #[])), (Sl.v Sl.nil)] 74 fun a18 vw19=>stw vw19 a18 [(Value.string zz2n), (Sl.v zz8x)] fun vw20=>bnd vw20.drew fun (vw21 : World)=>∃ (t25 : ByteArray), (ldc vw21 a8 [(Value.string t25)]) ∧ (((t25.size + (ByteArray.mk #[32]).size : Nat) : Int) ≤ maxI) ∧ ∃ (t28 : ByteArray), (ldc vw21 a18 [(Value.string t28)]) ∧ ((((t25 ++ (ByteArray.mk #[32])).size + t28.size : Nat) : Int) ≤ maxI) ∧ (((((t25 ++ (ByteArray.mk #[32])) ++ t28).size + (ByteArray.mk #[32]).size : Nat) : Int) ≤ maxI) ∧ ∃ (t32 : Sl), (ldc vw21 (a18.add 1) [(Sl.v t32)]) ∧ callX Tryz.prog 115 [(Sl.v t32)] vw21 fun v29 vw28=>∃ (t33 : ByteArray), v29 = (Value.string t33) ∧ ((((((t25 ++ (ByteArray.mk #[32])) ++ t28) ++ (ByteArray.mk #[32])).size + t33.size : Nat) : Int) ≤ maxI) ∧ (((((((t25 ++ (ByteArray.mk #[32])) ++ t28) ++ (ByteArray.mk #[32])) ++ t33).size + (ByteArray.mk #[10]).size : Nat) : Int) ≤ maxI) ∧ callS Tryz.prog 113 [(Value.pointer (some a1)), (Value.string (((((t25 ++ (ByteArray.mk #[32])) ++ t28) ++ (ByteArray.mk #[32])) ++ t33) ++ (ByteArray.mk #[10])))] vw28 fun v34 vw33=>∃ (t36 : Int) (t36b : Value), v34 = (Value.tuple #[(Value.int .i64 t36), t36b]) ∧ nxt14 (wrapI (t20 + 1)) vw33) ∧ (¬ (t20 < (t18.len : Int)) → nxt (wrapI (t11 + 1)) vw13))) ∧ (¬ (t11 < (t9.len : Int)) → callS Tryz.prog 116 [(Value.pointer (some a1))] vw7 fun v37 vw36=>∃ (t39 : ByteArray), v37 = (Value.string t39) ∧ R t39 vw36))
theorem manifest_text.go {zz5 : Sl} {zz6 : Sl} {zz7 : Sl} {zz8 : Sl} {w : World} {k : Value → World → Prop} (h : manifest_text zz5 zz6 zz7 zz8 w fun r0 w'=>k (Value.string r0) w') : callS Tryz.prog 62 [(Value.agg #[(Sl.v zz5), (Sl.v zz6), (Sl.v zz7), (Sl.v zz8)])] w k := rgo (sk := (.s (.r []) (.s (.r []) (.s (.r []) (.s (.s (.r []) (.b (.l [(11, 4)] (.s (.r []) (.s (.c .o .o) (.s (.b (.s (.r []) (.s (.r []) (.b (.l [(20, 4)] (.s (.r []) (.s (.c .o .o) (.s (.b (.s (.r []) (.r []))) (.r []))))))))) (.r []))))))) (.s (.r []) .o)))))) (args := [sv (Value.agg #[(Sl.v zz5), (Sl.v zz6), (Sl.v zz7), (Sl.v zz8)])]) Tryz.func62 (Eq.mpr (by kernel_rfl) h)
def resolve_search_want (vs : Option Addr) (vk : Int) (w : World) (R : World → Prop) : Prop :=
 ((vk = 0 → bnd w.drew fun (vw : World)=>∃ (p : Addr), (vs = some p) ∧ ∃ (zz7f : Sl) (zz7g : Sl) (zz7j : Sl) (zz7k : Sl), (ldc vw (p.add 1) [(Sl.v zz7f), (Sl.v zz7g), (Sl.v zz7j), (Sl.v zz7k)]) ∧ ∃ (p1 : Addr), (vs = some p1) ∧ ∃ (t16 : Bool), (ldc vw (p1.add 5) [(Value.bool t16)]) ∧ callS Tryz.prog 54 [(Value.agg #[(Sl.v zz7f), (Sl.v zz7g), (Sl.v zz7j), (Sl.v zz7k)]), (Value.bool t16)] vw fun v vw4=>∃ (t17 : Sl), v = (Sl.v t17) ∧ ∃ (p5 : Addr), (vs = some p5) ∧ stw vw4 (p5.add 10) [(Sl.v t17)] fun vw7=>R vw7) ∧ (¬ (vk = 0) → join (fun (p8 : Addr) (vw9 : World)=>bnd vw9.drew fun (vw10 : World)=>∃ (zzaq : ByteArray) (zzat : Int) (zzau : Int) (zzav : Int) (zzap : Sl) (zzas : Sl) (zzar : Sl), (ldc vw10 p8 [(Value.string zzaq), (Value.int .i64 zzat), (Value.int .i64 zzau), (Value.int .i64 zzav), (Sl.v zzap), (Sl.v zzas), (Sl.v zzar)]) ∧ ∃ (p12 : Addr), (vs = some p12) ∧ ∃ (zzba : Sl) (zzbb : Sl) (zzbc : Sl) (zzbd : Sl), (ldc vw10 (p12.add 1) [(Sl.v zzba), (Sl.v zzbb), (Sl.v zzbc), (Sl.v zzbd)]) ∧ callS Tryz.prog 56 [(Value.agg #[(Value.string zzaq), (Value.int .i64 zzat), (Value.int .i64 zzau), (Value.int .i64 zzav), (Sl.v zzap), (Sl.v zzas), (Sl.v zzar)]), (Value.agg #[(Sl.v zzba), (Sl.v zzbb), (Sl.v zzbc), (Sl.v zzbd)])] vw10 fun v16 vw15=>∃ (t50 : Sl), v16 = (Sl.v t50) ∧ ∃ (p18 : Addr), (vs = some p18) ∧ stw vw15 (p18.add 10) [(Sl.v t50)] fun vw20=>R vw20) fun vJ=>bnd w.drew fun (vw21 : World)=>∃ (p22 : Addr), (vs = some p22) ∧ ∃ (t24 : Option Addr), (ldc vw21 p22 [(Value.pointer t24)]) ∧ ∃ (p25 : Addr), (vs = some p25) ∧ ∃ (t28 : Sl), (ldc vw21 (p25.add 8) [(Sl.v t28)]) ∧ ∃ (ad : Addr), (t28.a = some ad ∧ (0 : Int) ≤ vk ∧ vk < (t28.len : Int)) ∧ ∃ (t32 : ByteArray), (ldc vw21 (ad.add (vk.toNat * 6)) [(Value.string t32)]) ∧ ∃ (p29 : Addr), (vs = some p29) ∧ ∃ (t36 : Sl), (ldc vw21 (p29.add 8) [(Sl.v t36)]) ∧ ∃ (ad32 : Addr), (t36.a = some ad32 ∧ (0 : Int) ≤ vk ∧ vk < (t36.len : Int)) ∧ ∃ (zz2k : Int) (zz2l : Int) (zz2m : Int), (ldc vw21 ((ad32.add (vk.toNat * 6)).add 1) [(Value.int .i64 zz2k), (Value.int .i64 zz2l), (Value.int .i64 zz2m)]) ∧ ((callS Tryz.prog 55 [(Value.pointer t24), (Value.string t32), (Value.agg #[(Value.int .i64 zz2k), (Value.int .i64 zz2l), (Value.int .i64 zz2m)])] vw21 fun v36 vw35=>∃ (zz1l : ByteArray) (zz1o : Int) (zz1p : Int) (zz1q : Int) (zz1k : Sl) (zz1n : Sl) (zz1m : Sl) (t41b : Bool), v36 = (Value.tuple #[(Value.agg #[(Value.string zz1l), (Value.int .i64 zz1o), (Value.int .i64 zz1p), (Value.int .i64 zz1q), (Sl.v zz1k), (Sl.v zz1n), (Sl.v zz1m)]), (Value.bool t41b)]) ∧ newS vw35 [(Value.string (ByteArray.mk #[])), (Value.int .i64 0), (Value.int .i64 0), (Value.int .i64 0), (Sl.v Sl.nil), (Sl.v Sl.nil), (Sl.v Sl.nil)] 48 fun a vw38=>stw vw38 a [(Value.string zz1l), (Value.int .i64 zz1o), (Value.int .i64 zz1p), (Value.int .i64 zz1q), (Sl.v zz1k), (Sl.v zz1n), (Sl.v zz1m)] fun vw39=>vJ a vw39) ∧ (newS vw21 [(Value.string (ByteArray.mk #[])), (Value.int .i64 0), (Value.int .i64 0), (Value.int .i64 0), (Sl.v Sl.nil), (Sl.v Sl.nil), (Sl.v Sl.nil)] 48 fun a40 vw41=>callS Tryz.prog 55 [(Value.pointer t24), (Value.string t32), (Value.agg #[(Value.int .i64 zz2k), (Value.int .i64 zz2l), (Value.int .i64 zz2m)])] vw41 fun v51 vw42=>∃ (zza2 : ByteArray) (zza9 : Int) (zzab : Int) (zzad : Int) (zz9y : Sl) (zza7 : Sl) (zza4 : Sl) (t41b50 : Bool), v51 = (Value.tuple #[(Value.agg #[(Value.string zza2), (Value.int .i64 zza9), (Value.int .i64 zzab), (Value.int .i64 zzad), (Sl.v zz9y), (Sl.v zza7), (Sl.v zza4)]), (Value.bool t41b50)]) ∧ stw vw42 a40 [(Value.string zza2), (Value.int .i64 zza9), (Value.int .i64 zzab), (Value.int .i64 zzad), (Sl.v zz9y), (Sl.v zza7), (Sl.v zza4)] fun vw53=>vJ a40 vw53))))
theorem resolve_search_want.go {vs : Option Addr} {vk : Int} {w : World} {k : Value → World → Prop} (h : resolve_search_want vs vk w fun  w'=>k (Value.tuple #[]) w') : callS Tryz.prog 63 [(Value.pointer vs), (Value.int .i64 vk)] w k := rgo (sk := (.s (.s (.r []) (.c (.s (.r []) .o) .o)) (.j [(4, 0)] (.r []) (.r [])))) (args := [sv (Value.pointer vs), sv (Value.int .i64 vk)]) Tryz.func63 (Eq.mpr (by kernel_rfl) h)
def resolve_told (l : Sl) (name : ByteArray) (w : World) (R : Int → Int → Int → Bool → World → Prop) : Prop :=
 newS w [(Value.int .i64 0), (Value.int .i64 0), (Value.int .i64 0)] 46 fun a vw=>loop1 0 vw fun t10 vw1 nxt=>((t10 < (l.len : Int) → ∃ (ad : Addr), (l.a = some ad ∧ (0 : Int) ≤ t10 ∧ t10 < (l.len : Int)) ∧ ∃ (zz7m : ByteArray) (zz7n : Int) (zz7o : Int) (zz7p : Int), (ldc vw1 (ad.add (t10.toNat * 4)) [(Value.string zz7m), (Value.int .i64 zz7n), (Value.int .i64 zz7o), (Value.int .i64 zz7p)]) ∧ newS vw1 [(Value.string (ByteArray.mk #[])), (Value.int .i64 0), (Value.int .i64 0), (Value.int .i64 0)] 67 fun a2 vw3=>stw vw3 a2 [(Value.string zz7m), (Value.int .i64 zz7n), (Value.int .i64 zz7o), (Value.int .i64 zz7p)] fun vw4=>∃ (t15 : ByteArray), (ldc vw4 a2 [(Value.string t15)]) ∧ ((t15 = name → ∃ (zz8o : Int) (zz8p : Int) (zz8q : Int), (ldc vw4 (a2.add 1) [(Value.int .i64 zz8o), (Value.int .i64 zz8p), (Value.int .i64 zz8q)]) ∧ stw vw4 a [(Value.int .i64 zz8o), (Value.int .i64 zz8p), (Value.int .i64 zz8q)] fun vw7=>∃ (zz2z : Int) (zz30 : Int) (zz38 : Int), ldc vw7 a [(Value.int .i64 zz2z), (Value.int .i64 zz30), (Value.int .i64 zz38)] ∧ R zz2z zz30 zz38 true vw7) ∧ (¬ (t15 = name) → nxt (wrapI (t10 + 1)) vw4))) ∧ (¬ (t10 < (l.len : Int)) → stw vw1 a [(Value.int .i64 0), (Value.int .i64 0), (Value.int .i64 0)] fun vw9=>∃ (zz6u : Int) (zz6v : Int) (zz6y : Int), ldc vw9 a [(Value.int .i64 zz6u), (Value.int .i64 zz6v), (Value.int .i64 zz6y)] ∧ R zz6u zz6v zz6y false vw9))
theorem resolve_told.go {l : Sl} {name : ByteArray} {w : World} {k : Value → World → Prop} (h : resolve_told l name w fun r0 r1 r2 r3 w'=>k (Value.tuple #[(Value.agg #[(Value.int .i64 r0), (Value.int .i64 r1), (Value.int .i64 r2)]), (Value.bool r3)]) w') : callS Tryz.prog 64 [(Sl.v l), (Value.string name)] w k := rgo (sk := (.s (.r []) (.s (.s (.r []) (.b (.l [(10, 4)] (.s (.r []) (.s (.c .o .o) (.s (.b (.s (.r []) (.s (.r []) (.c (.s (.r []) .o) .o)))) (.r []))))))) (.s (.r []) .o)))) (args := [sv (Sl.v l), sv (Value.string name)]) Tryz.func64 (Eq.mpr (by kernel_rfl) h)
def slices_Clone_apiPinapiPin (vs : Sl) (w : World) (R : Sl → World → Prop) : Prop :=
 ((vs.a = none → R Sl.nil w) ∧ (¬ (vs.a = none) → newS w [] 67 fun a vw=>appS Tryz.prog 26 26 (Sl.mk (some a) 0 0) (Sl.v vs) vw fun t7 vw1=>R t7 vw1))
theorem slices_Clone_apiPinapiPin.go {vs : Sl} {w : World} {k : Value → World → Prop} (h : slices_Clone_apiPinapiPin vs w fun r0 w'=>k (Sl.v r0) w') : callS Tryz.prog 65 [(Sl.v vs)] w k := rgo (sk := (.s (.r []) (.s (.s (.r []) (.c (.s (.r []) .o) .o)) (.s (.r []) .o)))) (args := [sv (Sl.v vs)]) Tryz.func65 (Eq.mpr (by kernel_rfl) h)
def resolve_search_bind_1 (zzf : ByteArray) (zzg : Int) (zzh : Int) (zzi : Int) (zzj : ByteArray) (zzk : Int) (zzl : Int) (zzm : Int) (w : World) (R : Int → World → Prop) : Prop :=
 newS w [(Value.string zzf), (Value.int .i64 zzg), (Value.int .i64 zzh), (Value.int .i64 zzi)] 67 fun a vw=>newS vw [(Value.string zzj), (Value.int .i64 zzk), (Value.int .i64 zzl), (Value.int .i64 zzm)] 67 fun a1 vw2=>∃ (t6 : ByteArray), (ldc vw2 a [(Value.string t6)]) ∧ ∃ (t8 : ByteArray), (ldc vw2 a1 [(Value.string t8)]) ∧ callS Tryz.prog 68 [(Value.string t6), (Value.string t8)] vw2 fun v vw4=>∃ (t9 : Int), v = (Value.int .i64 t9) ∧ R t9 vw4
theorem resolve_search_bind_1.go {zzf : ByteArray} {zzg : Int} {zzh : Int} {zzi : Int} {zzj : ByteArray} {zzk : Int} {zzl : Int} {zzm : Int} {w : World} {k : Value → World → Prop} (h : resolve_search_bind_1 zzf zzg zzh zzi zzj zzk zzl zzm w fun r0 w'=>k (Value.int .i64 r0) w') : callS Tryz.prog 67 [(Value.agg #[(Value.string zzf), (Value.int .i64 zzg), (Value.int .i64 zzh), (Value.int .i64 zzi)]), (Value.agg #[(Value.string zzj), (Value.int .i64 zzk), (Value.int .i64 zzl), (Value.int .i64 zzm)])] w k := rgo (sk := (.s (.r []) (.s (.r []) .o))) (args := [sv (Value.agg #[(Value.string zzf), (Value.int .i64 zzg), (Value.int .i64 zzh), (Value.int .i64 zzi)]), sv (Value.agg #[(Value.string zzj), (Value.int .i64 zzk), (Value.int .i64 zzl), (Value.int .i64 zzm)])]) Tryz.func67 (Eq.mpr (by kernel_rfl) h)
def wants_Context (c : Option Addr) (zz5 : Sl) (zz6 : Sl) (zz7 : Sl) (zz8 : Sl) (env : Sl) (zz1 : ByteArray) (zz2 : Int) (zz3 : Int) (zz4 : Int) (w : World) (R : Sl → Bool → World → Prop) : Prop :=
 newS w [(Sl.v zz5), (Sl.v zz6), (Sl.v zz7), (Sl.v zz8)] 25 fun a vw=>newS vw [(Value.string zz1), (Value.int .i64 zz2), (Value.int .i64 zz3), (Value.int .i64 zz4)] 67 fun a1 vw2=>((c = none → R Sl.nil false vw2) ∧ (¬ (c = none) → ∃ (zz3w : ByteArray) (zz3x : Int) (zz3y : Int) (zz3z : Int), (ldc vw2 a1 [(Value.string zz3w), (Value.int .i64 zz3x), (Value.int .i64 zz3y), (Value.int .i64 zz3z)]) ∧ newS vw2 [(Value.string zz3w), (Value.int .i64 zz3x), (Value.int .i64 zz3y), (Value.int .i64 zz3z)] 67 fun a3 vw4=>loop3 (Sl.mk (some a3) 1 1) Sl.nil 0 vw4 fun all context i vw5 nxt=>((i < (all.len : Int) → join (fun (x : Addr) (there : Bool) (vw6 : World)=>(((!there) = true → R Sl.nil false vw6) ∧ ((!there) = false → ∃ (zz4v : ByteArray) (zz4y : Int) (zz4z : Int) (zz50 : Int) (zz1r : Sl) (zz4x : Sl) (zz1s : Sl), (ldc vw6 x [(Value.string zz4v), (Value.int .i64 zz4y), (Value.int .i64 zz4z), (Value.int .i64 zz50), (Sl.v zz1r), (Sl.v zz4x), (Sl.v zz1s)]) ∧ ∃ (zzaz : Sl) (zzb0 : Sl) (zzb3 : Sl) (zzb4 : Sl), (ldc vw6 a [(Sl.v zzaz), (Sl.v zzb0), (Sl.v zzb3), (Sl.v zzb4)]) ∧ callS Tryz.prog 121 [(Value.agg #[(Value.string zz4v), (Value.int .i64 zz4y), (Value.int .i64 zz4z), (Value.int .i64 zz50), (Sl.v zz1r), (Sl.v zz4x), (Sl.v zz1s)]), (Value.agg #[(Sl.v zzaz), (Sl.v zzb0), (Sl.v zzb3), (Sl.v zzb4)])] vw6 fun v vw9=>∃ (t48 : Sl), v = (Sl.v t48) ∧ loop3 all context 0 vw9 fun all10 context11 t50 vw12 nxt13=>((t50 < (t48.len : Int) → join (fun (all14 : Sl) (context15 : Sl) (vw16 : World)=>nxt13 all14 context15 (wrapI (t50 + 1)) vw16) fun vJ=>∃ (ad : Addr), (t48.a = some ad ∧ (0 : Int) ≤ t50 ∧ t50 < (t48.len : Int)) ∧ ∃ (zz51 : ByteArray) (zzbk : Sl), (ldc vw12 (ad.add (t50.toNat * 2)) [(Value.string zz51), (Sl.v zzbk)]) ∧ newS vw12 [(Value.string (ByteArray.mk #[])), (Sl.v Sl.nil)] 74 fun a18 vw19=>stw vw19 a18 [(Value.string zz51), (Sl.v zzbk)] fun vw20=>∃ (t57 : ByteArray), (ldc vw20 a18 [(Value.string t57)]) ∧ callS Tryz.prog 119 [(Value.string t57)] vw20 fun v23 vw22=>∃ (t58 : Value), v23 = t58 ∧ callS Tryz.prog 122 [(Sl.v env), t58] vw22 fun v26 vw25=>∃ (t59 : Int), v26 = (Value.int .i64 t59) ∧ bnd vw25.drew fun (vw28 : World)=>bnd (decide (t59 < 0)) fun (b : Bool)=>∃ (t64 : Sl), grd (!b) (ldc vw28 (a18.add 1) [(Sl.v t64)]) ∧ ∃ (ad30 : Addr), grd (!b) (env.a = some ad30 ∧ (0 : Int) ≤ t59 ∧ t59 < (env.len : Int)) ∧ ∃ (zzcc : Int) (zzcd : Int) (zzcf : Int), grd (!b) (ldc vw28 ((ad30.add (t59.toNat * 4)).add 1) [(Value.int .i64 zzcc), (Value.int .i64 zzcd), (Value.int .i64 zzcf)]) ∧ gCall (!b) (fun (t70 : Bool) (vw33 : World)=>(((b || (!t70)) = true → R Sl.nil false vw33) ∧ ((b || (!t70)) = false → ∃ (t76 : ByteArray), (ldc vw33 a18 [(Value.string t76)]) ∧ callS Tryz.prog 119 [(Value.string t76)] vw33 fun v40 vw39=>∃ (t77 : Value), v40 = t77 ∧ callS Tryz.prog 123 [(Sl.v context11), t77] vw39 fun v43 vw42=>∃ (t78 : Bool), v43 = (Value.bool t78) ∧ (((!t78) = true → ∃ (ad45 : Addr), (env.a = some ad45 ∧ (0 : Int) ≤ t59 ∧ t59 < (env.len : Int)) ∧ ∃ (zzx : ByteArray) (zzcs : Int) (zzct : Int) (zzcu : Int), (ldc vw42 (ad45.add (t59.toNat * 4)) [(Value.string zzx), (Value.int .i64 zzcs), (Value.int .i64 zzct), (Value.int .i64 zzcu)]) ∧ newS vw42 [(Value.string zzx), (Value.int .i64 zzcs), (Value.int .i64 zzct), (Value.int .i64 zzcu)] 67 fun a48 vw49=>appS Tryz.prog 26 26 context11 (Sl.v (Sl.mk (some a48) 1 1)) vw49 fun t86 vw50=>∃ (ad51 : Addr), (env.a = some ad51 ∧ (0 : Int) ≤ t59 ∧ t59 < (env.len : Int)) ∧ ∃ (zzd6 : ByteArray) (zzd7 : Int) (zzd8 : Int) (zzd9 : Int), (ldc vw50 (ad51.add (t59.toNat * 4)) [(Value.string zzd6), (Value.int .i64 zzd7), (Value.int .i64 zzd8), (Value.int .i64 zzd9)]) ∧ newS vw50 [(Value.string zzd6), (Value.int .i64 zzd7), (Value.int .i64 zzd8), (Value.int .i64 zzd9)] 67 fun a54 vw55=>appS Tryz.prog 26 26 all10 (Sl.v (Sl.mk (some a54) 1 1)) vw55 fun t93 vw56=>vJ t93 t86 vw56) ∧ ((!t78) = false → vJ all10 context11 vw42))))) (fun q=>callS Tryz.prog 41 [(Sl.v t64), (Value.agg #[(Value.int .i64 zzcc), (Value.int .i64 zzcd), (Value.int .i64 zzcf)])] vw28 fun v34 vw33=>∃ (t70 : Bool), v34 = (Value.bool t70) ∧ q t70 vw33) (fun q=>q false vw28)) ∧ (¬ (t50 < (t48.len : Int)) → nxt all10 context11 (wrapI (i + 1)) vw12))))) fun vJ57=>bnd vw5.drew fun (vw59 : World)=>∃ (ad60 : Addr), (all.a = some ad60 ∧ (0 : Int) ≤ i ∧ i < (all.len : Int)) ∧ ∃ (t35 : ByteArray), (ldc vw59 (ad60.add (i.toNat * 4)) [(Value.string t35)]) ∧ ∃ (ad63 : Addr), (all.a = some ad63 ∧ (0 : Int) ≤ i ∧ i < (all.len : Int)) ∧ ∃ (zz2k : Int) (zz2l : Int) (zz2m : Int), (ldc vw59 ((ad63.add (i.toNat * 4)).add 1) [(Value.int .i64 zz2k), (Value.int .i64 zz2l), (Value.int .i64 zz2m)]) ∧ ((callS Tryz.prog 55 [(Value.pointer c), (Value.string t35), (Value.agg #[(Value.int .i64 zz2k), (Value.int .i64 zz2l), (Value.int .i64 zz2m)])] vw59 fun v67 vw66=>∃ (zz1l : ByteArray) (zz1o : Int) (zz1p : Int) (zz1q : Int) (zz1k : Sl) (zz1n : Sl) (zz1m : Sl) (t41b : Bool), v67 = (Value.tuple #[(Value.agg #[(Value.string zz1l), (Value.int .i64 zz1o), (Value.int .i64 zz1p), (Value.int .i64 zz1q), (Sl.v zz1k), (Sl.v zz1n), (Sl.v zz1m)]), (Value.bool t41b)]) ∧ newS vw66 [(Value.string (ByteArray.mk #[])), (Value.int .i64 0), (Value.int .i64 0), (Value.int .i64 0), (Sl.v Sl.nil), (Sl.v Sl.nil), (Sl.v Sl.nil)] 48 fun a69 vw70=>stw vw70 a69 [(Value.string zz1l), (Value.int .i64 zz1o), (Value.int .i64 zz1p), (Value.int .i64 zz1q), (Sl.v zz1k), (Sl.v zz1n), (Sl.v zz1m)] fun vw71=>vJ57 a69 t41b vw71) ∧ (newS vw59 [(Value.string (ByteArray.mk #[])), (Value.int .i64 0), (Value.int .i64 0), (Value.int .i64 0), (Sl.v Sl.nil), (Sl.v Sl.nil), (Sl.v Sl.nil)] 48 fun a72 vw73=>callS Tryz.prog 55 [(Value.pointer c), (Value.string t35), (Value.agg #[(Value.int .i64 zz2k), (Value.int .i64 zz2l), (Value.int .i64 zz2m)])] vw73 fun v83 vw74=>∃ (zza3 : ByteArray) (zzaa : Int) (zzac : Int) (zzae : Int) (zz9z : Sl) (zza8 : Sl) (zza5 : Sl) (t41b82 : Bool), v83 = (Value.tuple #[(Value.agg #[(Value.string zza3), (Value.int .i64 zzaa), (Value.int .i64 zzac), (Value.int .i64 zzae), (Sl.v zz9z), (Sl.v zza8), (Sl.v zza5)]), (Value.bool t41b82)]) ∧ stw vw74 a72 [(Value.string zza3), (Value.int .i64 zzaa), (Value.int .i64 zzac), (Value.int .i64 zzae), (Sl.v zz9z), (Sl.v zza8), (Sl.v zza5)] fun vw85=>vJ57 a72 t41b82 vw85))) ∧ (¬ (i < (all.len : Int)) → callS Tryz.prog 66 [(Sl.v context), (Value.func (.func 124) #[] #[])] vw5 fun v87 vw86=>v87 = (Value.tuple #[]) ∧ callS Tryz.prog 125 [(Sl.v context)] vw86 fun v90 vw89=>∃ (t98 : Sl), v90 = (Sl.v t98) ∧ R t98 true vw89))))
theorem wants_Context.go {c : Option Addr} {zz5 : Sl} {zz6 : Sl} {zz7 : Sl} {zz8 : Sl} {env : Sl} {zz1 : ByteArray} {zz2 : Int} {zz3 : Int} {zz4 : Int} {w : World} {k : Value → World → Prop} (h : wants_Context c zz5 zz6 zz7 zz8 env zz1 zz2 zz3 zz4 w fun r0 r1 w'=>k (Value.tuple #[(Sl.v r0), (Value.bool r1)]) w') : callS Tryz.prog 69 [(Value.pointer c), (Value.agg #[(Sl.v zz5), (Sl.v zz6), (Sl.v zz7), (Sl.v zz8)]), (Sl.v env), (Value.agg #[(Value.string zz1), (Value.int .i64 zz2), (Value.int .i64 zz3), (Value.int .i64 zz4)])] w k := rgo (sk := (.s (.r []) (.s (.s (.r []) (.c (.s (.r []) .o) .o)) (.s (.r []) (.s (.r []) (.s (.r []) (.s (.s (.r []) (.b (.l [(11, 27), (12, 27), (13, 4)] (.s (.s (.r []) (.c .o .o)) (.s (.b (.j [(14, 0), (15, 5)] (.r []) (.s (.s (.r []) (.c (.s (.r []) .o) .o)) (.s (.r []) (.b (.l [(11, 27), (12, 27), (50, 4)] (.s (.r []) (.s (.c .o .o) (.j [(11, 27), (12, 27)] (.b (.s (.r []) (.s (.r []) (.s (.s (.r []) (.c (.s (.r []) .o) .o)) (.s (.r []) (.c (.s (.r []) (.r [])) .o)))))) (.r [])))))))))) (.r [])))))) (.s (.r []) (.s (.r []) .o))))))))) (args := [sv (Value.pointer c), sv (Value.agg #[(Sl.v zz5), (Sl.v zz6), (Sl.v zz7), (Sl.v zz8)]), sv (Sl.v env), sv (Value.agg #[(Value.string zz1), (Value.int .i64 zz2), (Value.int .i64 zz3), (Value.int .i64 zz4)])]) Tryz.func69 (Eq.mpr (by kernel_rfl) h)
def slices_IndexFunc_apiNodeapiNode (vs : Sl) (f : Value) (w : World) (R : Int → World → Prop) : Prop :=
 loop1 0 w fun t8 vw nxt=>((t8 < (vs.len : Int) → ∃ (ad : Addr), (vs.a = some ad ∧ (0 : Int) ≤ t8 ∧ t8 < (vs.len : Int)) ∧ ∃ (zz3h : ByteArray) (zz3j : Int) (zz3k : Int) (zz3l : Int) (zz7z : Sl) (zz80 : Sl), (ldc vw (ad.add (t8.toNat * 6)) [(Value.string zz3h), (Value.int .i64 zz3j), (Value.int .i64 zz3k), (Value.int .i64 zz3l), (Sl.v zz7z), (Sl.v zz80)]) ∧ callV Tryz.prog f [(Value.agg #[(Value.string zz3h), (Value.int .i64 zz3j), (Value.int .i64 zz3k), (Value.int .i64 zz3l), (Sl.v zz7z), (Sl.v zz80)])] vw fun v vw1=>∃ (t16 : Bool), v = (Value.bool t16) ∧ ((t16 = true → R t8 vw1) ∧ (t16 = false → nxt (wrapI (t8 + 1)) vw1))) ∧ (¬ (t8 < (vs.len : Int)) → R (-1) vw))
theorem slices_IndexFunc_apiNodeapiNode.go {vs : Sl} {f : Value} {w : World} {k : Value → World → Prop} (h : slices_IndexFunc_apiNodeapiNode vs f w fun r0 w'=>k (Value.int .i64 r0) w') : callS Tryz.prog 70 [(Sl.v vs), f] w k := rgo (sk := (.s (.r []) (.s (.s (.r []) (.b (.l [(8, 4)] (.s (.r []) (.s (.c .o .o) (.s (.b (.s (.r []) (.s (.r []) (.c (.s (.r []) .o) .o)))) (.r []))))))) (.s (.r []) .o)))) (args := [sv (Sl.v vs), sv f]) Tryz.func70 (Eq.mpr (by kernel_rfl) h)
def resolve_search_bind_2 (zz5h : ByteArray) (zz5i : Int) (zz5j : Int) (zz5k : Int) (zz5f : Sl) (zz5g : Sl) (c0 : Addr) (w : World) (R : Bool → World → Prop) : Prop :=
 newS w [(Value.string zz5h), (Value.int .i64 zz5i), (Value.int .i64 zz5j), (Value.int .i64 zz5k), (Sl.v zz5f), (Sl.v zz5g)] 65 fun a vw=>∃ (t5 : ByteArray), (ldc vw c0 [(Value.string t5)]) ∧ ∃ (t7 : ByteArray), (ldc vw a [(Value.string t7)]) ∧ bnd (bEq t5 t7) fun (b : Bool)=>∃ (zz39 : Int) (zz3a : Int) (zz3b : Int), grd b (ldc vw (c0.add 1) [(Value.int .i64 zz39), (Value.int .i64 zz3a), (Value.int .i64 zz3b)]) ∧ ∃ (zz3c : Int) (zz3d : Int) (zz3e : Int), grd b (ldc vw (a.add 1) [(Value.int .i64 zz3c), (Value.int .i64 zz3d), (Value.int .i64 zz3e)]) ∧ bnd (b && ((zz39 == zz3c) && ((zz3a == zz3d) && ((zz3b == zz3e) && true)))) fun (b4 : Bool)=>∃ (t18 : Sl), grd b4 (ldc vw (c0.add 4) [(Sl.v t18)]) ∧ ∃ (t20 : Sl), grd b4 (ldc vw (a.add 4) [(Sl.v t20)]) ∧ gCall b4 (fun (t21 : Bool) (vw7 : World)=>R (b4 && t21) vw7) (fun q=>callS Tryz.prog 72 [(Sl.v t18), (Sl.v t20)] vw fun v vw7=>∃ (t21 : Bool), v = (Value.bool t21) ∧ q t21 vw7) (fun q=>q false vw)
theorem resolve_search_bind_2.go {zz5h : ByteArray} {zz5i : Int} {zz5j : Int} {zz5k : Int} {zz5f : Sl} {zz5g : Sl} {c0 : Addr} {w : World} {k : Value → World → Prop} (h : resolve_search_bind_2 zz5h zz5i zz5j zz5k zz5f zz5g c0 w fun r0 w'=>k (Value.bool r0) w') : callS Tryz.prog 71 [(Value.agg #[(Value.string zz5h), (Value.int .i64 zz5i), (Value.int .i64 zz5j), (Value.int .i64 zz5k), (Sl.v zz5f), (Sl.v zz5g)]), (Value.pointer (some c0))] w k := rgo (sk := (.s (.r []) (.s (.r []) .o))) (args := [sv (Value.agg #[(Value.string zz5h), (Value.int .i64 zz5i), (Value.int .i64 zz5j), (Value.int .i64 zz5k), (Sl.v zz5f), (Sl.v zz5g)]), sa c0]) Tryz.func71 (Eq.mpr (by kernel_rfl) h)
def slices_Equal_apiPinapiPin (s1 : Sl) (s2 : Sl) (w : World) (R : Bool → World → Prop) : Prop :=
 ((¬ (s1.len : Int) = (s2.len : Int) → R false w) ∧ (¬ (¬ (s1.len : Int) = (s2.len : Int)) → loop1 0 w fun t13 vw nxt=>((t13 < (s1.len : Int) → bnd vw.drew fun (vw1 : World)=>∃ (ad : Addr), (s1.a = some ad ∧ (0 : Int) ≤ t13 ∧ t13 < (s1.len : Int)) ∧ ∃ (zz67 : ByteArray) (zz68 : Int) (zz69 : Int) (zz6a : Int), (ldc vw1 (ad.add (t13.toNat * 4)) [(Value.string zz67), (Value.int .i64 zz68), (Value.int .i64 zz69), (Value.int .i64 zz6a)]) ∧ ∃ (ad2 : Addr), (s2.a = some ad2 ∧ (0 : Int) ≤ t13 ∧ t13 < (s2.len : Int)) ∧ ∃ (zz2n : ByteArray) (zz6b : Int) (zz6c : Int) (zz6d : Int), (ldc vw1 (ad2.add (t13.toNat * 4)) [(Value.string zz2n), (Value.int .i64 zz6b), (Value.int .i64 zz6c), (Value.int .i64 zz6d)]) ∧ (((!((bEq zz67 zz2n) && (((zz68 == zz6b) && ((zz69 == zz6c) && ((zz6a == zz6d) && true))) && true))) = true → R false vw1) ∧ ((!((bEq zz67 zz2n) && (((zz68 == zz6b) && ((zz69 == zz6c) && ((zz6a == zz6d) && true))) && true))) = false → nxt (wrapI (t13 + 1)) vw1))) ∧ (¬ (t13 < (s1.len : Int)) → R true vw))))
theorem slices_Equal_apiPinapiPin.go {s1 : Sl} {s2 : Sl} {w : World} {k : Value → World → Prop} (h : slices_Equal_apiPinapiPin s1 s2 w fun r0 w'=>k (Value.bool r0) w') : callS Tryz.prog 72 [(Sl.v s1), (Sl.v s2)] w k := rgo (sk := (.s (.r []) (.s (.s (.r []) (.c (.s (.r []) .o) .o)) (.s (.s (.r []) (.b (.l [(13, 4)] (.s (.r []) (.s (.c .o .o) (.s (.b (.s (.r []) (.s (.r []) (.c (.s (.r []) .o) .o)))) (.r []))))))) (.s (.r []) .o))))) (args := [sv (Sl.v s1), sv (Sl.v s2)]) Tryz.func72 (Eq.mpr (by kernel_rfl) h)
def slices_IndexFunc_resolvechoiceresolvechoice (vs : Sl) (f : Value) (w : World) (R : Int → World → Prop) : Prop :=
 loop1 0 w fun t8 vw nxt=>((t8 < (vs.len : Int) → ∃ (ad : Addr), (vs.a = some ad ∧ (0 : Int) ≤ t8 ∧ t8 < (vs.len : Int)) ∧ ∃ (t15_node : Int) (t15_name : ByteArray) (t15_versions : Sl) (t15_none : Bool) (t15_at : Int), (ldc vw (ad.add (t8.toNat * 5)) [(Value.int .i64 t15_node), (Value.string t15_name), (Sl.v t15_versions), (Value.bool t15_none), (Value.int .i64 t15_at)]) ∧ callV Tryz.prog f [(Value.agg #[(Value.int .i64 t15_node), (Value.string t15_name), (Sl.v t15_versions), (Value.bool t15_none), (Value.int .i64 t15_at)])] vw fun v vw1=>∃ (t16 : Bool), v = (Value.bool t16) ∧ ((t16 = true → R t8 vw1) ∧ (t16 = false → nxt (wrapI (t8 + 1)) vw1))) ∧ (¬ (t8 < (vs.len : Int)) → R (-1) vw))
theorem slices_IndexFunc_resolvechoiceresolvechoice.go {vs : Sl} {f : Value} {w : World} {k : Value → World → Prop} (h : slices_IndexFunc_resolvechoiceresolvechoice vs f w fun r0 w'=>k (Value.int .i64 r0) w') : callS Tryz.prog 73 [(Sl.v vs), f] w k := rgo (sk := (.s (.r []) (.s (.s (.r []) (.b (.l [(8, 4)] (.s (.r []) (.s (.c .o .o) (.s (.b (.s (.r []) (.s (.r []) (.c (.s (.r []) .o) .o)))) (.r []))))))) (.s (.r []) .o)))) (args := [sv (Sl.v vs), sv f]) Tryz.func73 (Eq.mpr (by kernel_rfl) h)
def resolve_search_back_1 (x_node : Int) (x_name : ByteArray) (x_versions : Sl) (x_none : Bool) (x_at : Int) (c0 : Addr) (w : World) (R : Bool → World → Prop) : Prop :=
 newS w [(Value.int .i64 x_node), (Value.string x_name), (Sl.v x_versions), (Value.bool x_none), (Value.int .i64 x_at)] 81 fun a vw=>bnd vw.drew fun (vw1 : World)=>∃ (t5 : Int), (ldc vw1 a [(Value.int .i64 t5)]) ∧ ∃ (t6 : Option Addr), (ldc vw1 c0 [(Value.pointer t6)]) ∧ ∃ (p : Addr), (t6 = some p) ∧ ∃ (t9 : Int), (ldc vw1 p [(Value.int .i64 t9)]) ∧ R (t5 == t9) vw1
theorem resolve_search_back_1.go {x_node : Int} {x_name : ByteArray} {x_versions : Sl} {x_none : Bool} {x_at : Int} {c0 : Addr} {w : World} {k : Value → World → Prop} (h : resolve_search_back_1 x_node x_name x_versions x_none x_at c0 w fun r0 w'=>k (Value.bool r0) w') : callS Tryz.prog 74 [(Value.agg #[(Value.int .i64 x_node), (Value.string x_name), (Sl.v x_versions), (Value.bool x_none), (Value.int .i64 x_at)]), (Value.pointer (some c0))] w k := rgo (sk := (.s (.r []) (.s (.r []) .o))) (args := [sv (Value.agg #[(Value.int .i64 x_node), (Value.string x_name), (Sl.v x_versions), (Value.bool x_none), (Value.int .i64 x_at)]), sa c0]) Tryz.func74 (Eq.mpr (by kernel_rfl) h)
end Go.Hal.SE
