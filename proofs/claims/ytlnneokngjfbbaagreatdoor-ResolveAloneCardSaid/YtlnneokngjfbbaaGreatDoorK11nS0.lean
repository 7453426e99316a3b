/- Lemmas for the claim K11n: how the program's functions run, and what they answer; no condition but those that each theorem names. -/
import Derived.Test.YtlnneokngjfbbaaGreatDoorProg
import Derived.Test.YtlnneokngjfbbaaGreatDoorK11nA0
set_option linter.unusedVariables false
set_option linter.unusedSimpArgs false
namespace Go.Hal.SE
open Go Go.RowKit Go.Hal Go.Proofs
set_option maxRecDepth 100000
namespace Eq0
theorem eqv_45 (d : Nat) (a0 : Int) (a1 : Int) (a2 : Int) (b0 : Int) (b1 : Int) (b2 : Int) (w : World) : (Op.equalIn (d + 2) 45 (.agg #[(Value.int .i64 a0), (Value.int .i64 a1), (Value.int .i64 a2)]) (.agg #[(Value.int .i64 b0), (Value.int .i64 b1), (Value.int .i64 b2)])).run Tryz.prog w = .ok ((a0 == b0) && ((a1 == b1) && ((a2 == b2) && true))) w :=
 (eqS (by kernel_rfl) (by kernel_rfl) (fs := [⟨ "Major", 3, 0, false, "", "", 0⟩, ⟨ "Minor", 3, 1, false, "", "", 8⟩, ⟨ "Patch", 3, 2, false, "", "", 16⟩]) (by kernel_rfl) (eqF_cons (x := (Value.int .i64 a0)) (y := (Value.int .i64 b0)) rfl (by kernel_rfl) (by kernel_rfl) (run_equalIn_int w _ 3 .i64 .i64 a0 b0 (by kernel_rfl)) (eqF_cons (x := (Value.int .i64 a1)) (y := (Value.int .i64 b1)) rfl (by kernel_rfl) (by kernel_rfl) (run_equalIn_int w _ 3 .i64 .i64 a1 b1 (by kernel_rfl)) (eqF_cons (x := (Value.int .i64 a2)) (y := (Value.int .i64 b2)) rfl (by kernel_rfl) (by kernel_rfl) (run_equalIn_int w _ 3 .i64 .i64 a2 b2 (by kernel_rfl)) eqF_nil))))
theorem eqv_81 (d : Nat) (a0 : ByteArray) (a1 : Int) (b0 : ByteArray) (b1 : Int) (w : World) : (Op.equalIn (d + 2) 81 (.agg #[(Value.string a0), (Value.int .i64 a1)]) (.agg #[(Value.string b0), (Value.int .i64 b1)])).run Tryz.prog w = .ok ((bEq a0 b0) && ((a1 == b1) && true)) w :=
 (eqS (by kernel_rfl) (by kernel_rfl) (fs := [⟨ "Label", 9, 0, false, "", "", 0⟩, ⟨ "To", 3, 1, false, "", "", 16⟩]) (by kernel_rfl) (eqF_cons (x := (Value.string a0)) (y := (Value.string b0)) rfl (by kernel_rfl) (by kernel_rfl) (run_equalIn_string w _ 9 a0 b0 (by kernel_rfl)) (eqF_cons (x := (Value.int .i64 a1)) (y := (Value.int .i64 b1)) rfl (by kernel_rfl) (by kernel_rfl) (run_equalIn_int w _ 3 .i64 .i64 a1 b1 (by kernel_rfl)) eqF_nil)))
theorem eqv_84 (d : Nat) (a0 : ByteArray) (a1 : Int) (a2 : Int) (a3 : Int) (b0 : ByteArray) (b1 : Int) (b2 : Int) (b3 : Int) (w : World) : (Op.equalIn (d + 3) 84 (.agg #[(Value.string a0), (Value.int .i64 a1), (Value.int .i64 a2), (Value.int .i64 a3)]) (.agg #[(Value.string b0), (Value.int .i64 b1), (Value.int .i64 b2), (Value.int .i64 b3)])).run Tryz.prog w = .ok ((bEq a0 b0) && (((a1 == b1) && ((a2 == b2) && ((a3 == b3) && true))) && true)) w :=
 (eqS (by kernel_rfl) (by kernel_rfl) (fs := [⟨ "Name", 9, 0, false, "", "", 0⟩, ⟨ "Version", 45, 1, false, "", "", 16⟩]) (by kernel_rfl) (eqF_cons (x := (Value.string a0)) (y := (Value.string b0)) rfl (by kernel_rfl) (by kernel_rfl) (run_equalIn_string w _ 9 a0 b0 (by kernel_rfl)) (eqF_cons (x := (Value.agg #[(Value.int .i64 a1), (Value.int .i64 a2), (Value.int .i64 a3)])) (y := (Value.agg #[(Value.int .i64 b1), (Value.int .i64 b2), (Value.int .i64 b3)])) rfl (by kernel_rfl) (by kernel_rfl) (eqS (by kernel_rfl) (by kernel_rfl) (fs := [⟨ "Major", 3, 0, false, "", "", 0⟩, ⟨ "Minor", 3, 1, false, "", "", 8⟩, ⟨ "Patch", 3, 2, false, "", "", 16⟩]) (by kernel_rfl) (eqF_cons (x := (Value.int .i64 a1)) (y := (Value.int .i64 b1)) rfl (by kernel_rfl) (by kernel_rfl) (run_equalIn_int w _ 3 .i64 .i64 a1 b1 (by kernel_rfl)) (eqF_cons (x := (Value.int .i64 a2)) (y := (Value.int .i64 b2)) rfl (by kernel_rfl) (by kernel_rfl) (run_equalIn_int w _ 3 .i64 .i64 a2 b2 (by kernel_rfl)) (eqF_cons (x := (Value.int .i64 a3)) (y := (Value.int .i64 b3)) rfl (by kernel_rfl) (by kernel_rfl) (run_equalIn_int w _ 3 .i64 .i64 a3 b3 (by kernel_rfl)) eqF_nil)))) eqF_nil)))
end Eq0
open Eq0
def halyardlaw11_ResolveAlone (l3 l4 l5 l6 l7 : Sl) (l8 : Bool) (l9 : Sl) (m0 m1 m2 m3 : Int) (n3 : ByteArray) (n4 n5 n6 : Int) (n7 n8 n9 : Sl) (p6 : World) (p2 : Bool → World → Prop) : Prop :=
 newS p6 [Sl.v l3, Sl.v l4, Sl.v l5, Sl.v l6, Sl.v l7, .bool l8, Sl.v l9, .int .i64 m0, .int .i64 m1, .int .i64 m2, .int .i64 m3] 30 fun j2 p3=>newS p3 [.string n3, .int .i64 n4, .int .i64 n5, .int .i64 n6, Sl.v n7, Sl.v n8, Sl.v n9] 47 fun o l0=>∃ b0 b1 b2 b3 b4 b5 b6 b7 b8 b9 c0, ldc l0 j2 [Sl.v b0, Sl.v b1, Sl.v b2, Sl.v b3, Sl.v b4, .bool b5, Sl.v b6, .int .i64 b7, .int .i64 b8, .int .i64 b9, .int .i64 c0] ∧ callS Tryz.prog 12 [(.agg #[Sl.v b0, Sl.v b1, Sl.v b2, Sl.v b3, Sl.v b4, .bool b5, Sl.v b6, .int .i64 b7, .int .i64 b8, .int .i64 b9, .int .i64 c0])] l0 fun p8 l1=>∃ c1 f, p8 = (Value.tuple #[.pointer c1, .pointer f]) ∧ ∃ c2 c3 c4 c5 c6 c7 c8 c9 d0 d1 d2, ldc l1 j2 [Sl.v c2, Sl.v c3, Sl.v c4, Sl.v c5, Sl.v c6, .bool c7, Sl.v c8, .int .i64 c9, .int .i64 d0, .int .i64 d1, .int .i64 d2] ∧ callS Tryz.prog 12 [(.agg #[Sl.v c2, Sl.v c3, Sl.v c4, Sl.v c5, Sl.v c6, .bool c7, Sl.v c8, .int .i64 c9, .int .i64 d0, .int .i64 d1, .int .i64 d2])] l1 fun p4 l2=>∃ a0 m4, p4 = (Value.tuple #[.pointer a0, .pointer m4]) ∧ bnd (Option.isNone c1) fun (p7 : Bool)=>bnd (p7 || (Option.isNone a0)) fun (m5 : Bool)=>gCall (!m5) (fun (v : Bool) (a1 : World)=>(((m5 || (!v)) = true → p2 false a1) ∧ ((m5 || (!v)) = false → stw a1 o [(Value.string (ByteArray.mk #[122, 122, 45, 97, 108, 111, 110, 101]))] fun m7=>stw m7 (o.add 5) [(Sl.v Sl.nil)] fun i8=>∃ d3 d4 d5 d6 d7 d8 d9, ldc i8 o [.string d3, .int .i64 d4, .int .i64 d5, .int .i64 d6, Sl.v d7, Sl.v d8, Sl.v d9] ∧ callS Tryz.prog 16 [.pointer a0, (.agg #[.string d3, .int .i64 d4, .int .i64 d5, .int .i64 d6, Sl.v d7, Sl.v d8, Sl.v d9])] i8 fun o2 m8=>∃ o0, o2 = .int .i64 o0 ∧ loop1 0 m8 fun z s o3=>∃ p5, (f = some p5) ∧ ∃ e0, ldc s p5 [Sl.v e0] ∧ ((z < (e0.len : Int) → bnd s.drew fun (a : World)=>∃ j8, (f = some j8) ∧ ∃ e1, ldc a j8 [Sl.v e1] ∧ ∃ o1, (e1.a = some o1 ∧ (0 : Int) ≤ z ∧ z < (e1.len : Int)) ∧ ∃ j9, ldc a (o1.add (z.toNat * 7)) [.string j9] ∧ ∃ k0, ldc a o [.string k0] ∧ bnd (bEq j9 k0) fun (k : Bool)=>∃ k1, grd (!k) (f = some k1) ∧ ∃ e2, grd (!k) (ldc a k1 [Sl.v e2]) ∧ ∃ e3, grd (!k) (e2.a = some e3 ∧ (0 : Int) ≤ z ∧ z < (e2.len : Int)) ∧ ∃ k2, grd (!k) (ldc a ((e3.add (z.toNat * 7)).add 4) [Sl.v k2]) ∧ ∃ k3, grd (!k) (ldc a o [.string k3]) ∧ gCall (!k) (fun (a2 : Bool) (c : World)=>bnd (k || a2) fun (l : Bool)=>∃ k4, grd (!l) (f = some k4) ∧ ∃ e4, grd (!l) (ldc c k4 [Sl.v e4]) ∧ ∃ e5, grd (!l) (e4.a = some e5 ∧ (0 : Int) ≤ z ∧ z < (e4.len : Int)) ∧ ∃ k5, grd (!l) (ldc c ((e5.add (z.toNat * 7)).add 5) [Sl.v k5]) ∧ ∃ k6, grd (!l) (ldc c o [.string k6]) ∧ gCall (!l) (fun (a3 : Bool) (d : World)=>bnd (l || a3) fun (j : Bool)=>∃ k7, grd (!j) (f = some k7) ∧ ∃ e6, grd (!j) (ldc d k7 [Sl.v e6]) ∧ ∃ e7, grd (!j) (e6.a = some e7 ∧ (0 : Int) ≤ z ∧ z < (e6.len : Int)) ∧ ∃ k8, grd (!j) (ldc d ((e7.add (z.toNat * 7)).add 6) [Sl.v k8]) ∧ ∃ k9, grd (!j) (ldc d o [.string k9]) ∧ gCall (!j) (fun (x : Bool) (p : World)=>(((j || x) = true → p2 true p) ∧ ((j || x) = false → o3 (wrapI (z + 1)) p))) (fun i=>callS Tryz.prog 17 [Sl.v k8, .string k9] d fun o4 p=>∃ x, o4 = .bool x ∧ i x p) (fun i=>i false d)) (fun i=>callS Tryz.prog 17 [Sl.v k5, .string k6] c fun o5 d=>∃ a3, o5 = .bool a3 ∧ i a3 d) (fun i=>i false c)) (fun i=>callS Tryz.prog 17 [Sl.v k2, .string k3] a fun o6 c=>∃ a2, o6 = .bool a2 ∧ i a2 c) (fun i=>i false a)) ∧ (¬ (z < (e0.len : Int)) → ∃ e8 e9 f0 f1, ldc s (j2.add 1) [Sl.v e8, Sl.v e9, Sl.v f0, Sl.v f1] ∧ newS s [(Sl.v Sl.nil), (Sl.v Sl.nil), (Sl.v Sl.nil), (Sl.v Sl.nil)] 25 fun n m9=>stw m9 n [Sl.v e8, Sl.v e9, Sl.v f0, Sl.v f1] fun i9=>∃ f2 f3 f4 f5, ldc i9 n [Sl.v f2, Sl.v f3, Sl.v f4, Sl.v f5] ∧ callS Tryz.prog 18 [(.agg #[Sl.v f2, Sl.v f3, Sl.v f4, Sl.v f5])] i9 fun o7 t=>∃ f6, o7 = .bool f6 ∧ bnd (!f6) fun (a4 : Bool)=>∃ f7, grd (!a4) (ldc t n [Sl.v f7]) ∧ ∃ f8, grd (!a4) (ldc t o [.string f8]) ∧ gCall (!a4) (fun (q : Bool) (g : World)=>bnd (a4 || q) fun (a5 : Bool)=>∃ f9, grd (!a5) (ldc g (n.add 1) [Sl.v f9]) ∧ ∃ g0, grd (!a5) (ldc g o [.string g0]) ∧ gCall (!a5) (fun (r : Bool) (h : World)=>bnd (a5 || r) fun (y : Bool)=>∃ g1, grd (!y) (ldc h (n.add 2) [Sl.v g1]) ∧ ∃ g2, grd (!y) (ldc h o [.string g2]) ∧ gCall (!y) (fun (m : Bool) (b : World)=>(((y || m) = true → p2 true b) ∧ ((y || m) = false → ∃ g3 g4 g5 g6, ldc b n [Sl.v g3, Sl.v g4, Sl.v g5, Sl.v g6] ∧ ∃ g7, ldc b (j2.add 5) [.bool g7] ∧ ∃ g8, ldc b (j2.add 6) [Sl.v g8] ∧ ∃ g9 h0 h1 h2, ldc b (j2.add 7) [.int .i64 g9, .int .i64 h0, .int .i64 h1, .int .i64 h2] ∧ callS Tryz.prog 14 [.pointer c1, (.agg #[Sl.v g3, Sl.v g4, Sl.v g5, Sl.v g6]), .bool g7, Sl.v g8, (.agg #[.int .i64 g9, .int .i64 h0, .int .i64 h1, .int .i64 h2])] b fun n0 j3=>∃ h3 a6 a7, n0 = (Value.tuple #[(.agg #[Sl.v h3]), .int .i64 a6, .int .i64 a7]) ∧ newS j3 [(Sl.v Sl.nil)] 38 fun j0 j4=>stw j4 j0 [Sl.v h3] fun e=>∃ h4 h5 h6 h7, ldc e n [Sl.v h4, Sl.v h5, Sl.v h6, Sl.v h7] ∧ ∃ h8, ldc e (j2.add 5) [.bool h8] ∧ ∃ h9, ldc e (j2.add 6) [Sl.v h9] ∧ ∃ i0 i1 i2 i3, ldc e (j2.add 7) [.int .i64 i0, .int .i64 i1, .int .i64 i2, .int .i64 i3] ∧ callS Tryz.prog 14 [.pointer a0, (.agg #[Sl.v h4, Sl.v h5, Sl.v h6, Sl.v h7]), .bool h8, Sl.v h9, (.agg #[.int .i64 i0, .int .i64 i1, .int .i64 i2, .int .i64 i3])] e fun n1 j5=>∃ i4 a8 a9, n1 = (Value.tuple #[(.agg #[Sl.v i4]), .int .i64 a8, .int .i64 a9]) ∧ newS j5 [(Sl.v Sl.nil)] 38 fun j1 j6=>stw j6 j1 [Sl.v i4] fun u=>∃ i5, ldc u j0 [Sl.v i5] ∧ ∃ i6, ldc u j1 [Sl.v i6] ∧ callS Tryz.prog 15 [(.agg #[Sl.v i5]), (.agg #[Sl.v i6])] u fun n2 j7=>∃ i7, n2 = .bool i7 ∧ bnd (i7 && (a6 == a8)) fun (m6 : Bool)=>p2 (m6 && (a7 == a9)) j7))) (fun i=>callS Tryz.prog 17 [Sl.v g1, .string g2] h fun o8 b=>∃ m, o8 = .bool m ∧ i m b) (fun i=>i false h)) (fun i=>callS Tryz.prog 17 [Sl.v f9, .string g0] g fun o9 h=>∃ r, o9 = .bool r ∧ i r h) (fun i=>i false g)) (fun i=>callS Tryz.prog 17 [Sl.v f7, .string f8] t fun p0 g=>∃ q, p0 = .bool q ∧ i q g) (fun i=>i false t)))))) (fun i=>callS Tryz.prog 13 [] l2 fun p1 a1=>∃ v, p1 = .bool v ∧ i v a1) (fun i=>i false l2)
theorem halyardlaw11_ResolveAlone.go {h u a0 a1 a2 : Sl} {a3 : Bool} {a4 : Sl} {a5 a6 a7 a8 : Int} {a9 : ByteArray} {b0 b1 b2 : Int} {b3 b4 b5 : Sl} {w : World} {k : Value → World → Prop} (b8 : halyardlaw11_ResolveAlone h u a0 a1 a2 a3 a4 a5 a6 a7 a8 a9 b0 b1 b2 b3 b4 b5 w fun b6 b7=>k (Value.bool b6) b7) : callS Tryz.prog 4 [(.agg #[Sl.v h, Sl.v u, Sl.v a0, Sl.v a1, Sl.v a2, .bool a3, Sl.v a4, .int .i64 a5, .int .i64 a6, .int .i64 a7, .int .i64 a8]), (.agg #[.string a9, .int .i64 b0, .int .i64 b1, .int .i64 b2, Sl.v b3, Sl.v b4, Sl.v b5])] w k := rgo (sk := (.s (.r []) (.s (.r []) (.s (.r []) (.s (.s (.r []) (.c (.s (.r []) .o) .o)) (.s (.r []) (.s (.r []) (.s (.r []) (.s (.s (.r []) (.b (.l [(9, 4)] (.s (.s (.r []) (.c .o .o)) (.s (.b (.s (.r []) (.c (.s (.r []) .o) .o))) (.r [])))))) (.s (.r []) (.s (.s (.r []) (.c (.s (.r []) .o) .o)) (.s (.r []) (.s (.r []) (.s (.r [156]) .o)))))))))))))) (args := [sv (.agg #[Sl.v h, Sl.v u, Sl.v a0, Sl.v a1, Sl.v a2, .bool a3, Sl.v a4, .int .i64 a5, .int .i64 a6, .int .i64 a7, .int .i64 a8]), sv (.agg #[.string a9, .int .i64 b0, .int .i64 b1, .int .i64 b2, Sl.v b3, Sl.v b4, Sl.v b5])]) Tryz.func4 (Eq.mpr (by kernel_rfl) b8)
def halyardlaw11_World_both (x y z a0 a1 : Sl) (a2 : Bool) (a3 : Sl) (a4 a5 a6 a7 : Int) (c1 : World) (c2 : Option Addr → Option Addr → World → Prop) : Prop :=
 newS c1 [Sl.v x, Sl.v y, Sl.v z, Sl.v a0, Sl.v a1, .bool a2, Sl.v a3, .int .i64 a4, .int .i64 a5, .int .i64 a6, .int .i64 a7] 30 fun b7 b8=>callS Tryz.prog 19 [] b8 fun c3 b2=>∃ b, c3 = .pointer b ∧ newS b2 [(Sl.v Sl.nil)] 50 fun b3 b4=>loop1 0 b4 fun v a b5=>∃ u, ldc a b7 [Sl.v u] ∧ bnd (decide (v < (u.len : Int))) fun (c0 : Bool)=>(((c0 && (!(Option.isNone b))) = true → ∃ c, ldc a b7 [Sl.v c] ∧ ∃ a9, (c.a = some a9 ∧ (0 : Int) ≤ v ∧ v < (c.len : Int)) ∧ ∃ d e f g h i j, ldc a (a9.add (v.toNat * 7)) [.string d, .int .i64 e, .int .i64 f, .int .i64 g, Sl.v h, Sl.v i, Sl.v j] ∧ callS Tryz.prog 16 [.pointer b, (.agg #[.string d, .int .i64 e, .int .i64 f, .int .i64 g, Sl.v h, Sl.v i, Sl.v j])] a fun b9 t=>∃ b0, b9 = .int .i64 b0 ∧ ∃ k, ldc t b7 [Sl.v k] ∧ ∃ l, (k.a = some l ∧ (0 : Int) ≤ v ∧ v < (k.len : Int)) ∧ ∃ m n o p q r s, ldc t (l.add (v.toNat * 7)) [.string m, .int .i64 n, .int .i64 o, .int .i64 p, Sl.v q, Sl.v r, Sl.v s] ∧ callS Tryz.prog 38 [(Value.pointer (some b3)), (.agg #[.string m, .int .i64 n, .int .i64 o, .int .i64 p, Sl.v q, Sl.v r, Sl.v s])] t fun b6 a8=>∃ b1, b6 = .int .i64 b1 ∧ b5 (wrapI (v + 1)) a8) ∧ ((c0 && (!(Option.isNone b))) = false → c2 b (some b3) a))
theorem halyardlaw11_World_both.go {h u a0 a1 a2 : Sl} {a3 : Bool} {a4 : Sl} {a5 a6 a7 a8 : Int} {w : World} {k : Value → World → Prop} (b2 : halyardlaw11_World_both h u a0 a1 a2 a3 a4 a5 a6 a7 a8 w fun a9 b0 b1=>k (Value.tuple #[.pointer a9, .pointer b0]) b1) : callS Tryz.prog 12 [(.agg #[Sl.v h, Sl.v u, Sl.v a0, Sl.v a1, Sl.v a2, .bool a3, Sl.v a4, .int .i64 a5, .int .i64 a6, .int .i64 a7, .int .i64 a8])] w k := rgo (sk := (.s (.r []) (.s (.r []) (.s (.r []) (.s (.s (.r []) (.b (.l [(6, 4)] (.s (.s (.r []) (.c .o .o)) (.s (.b (.s (.r []) (.r []))) (.r [])))))) (.s (.r []) .o)))))) (args := [sv (.agg #[Sl.v h, Sl.v u, Sl.v a0, Sl.v a1, Sl.v a2, .bool a3, Sl.v a4, .int .i64 a5, .int .i64 a6, .int .i64 a7, .int .i64 a8])]) Tryz.func12 (Eq.mpr (by kernel_rfl) b2)
def halyardlaw11_known (b5 : World) (b4 : Bool → World → Prop) : Prop :=
 callS Tryz.prog 19 [] b5 fun b7 a4=>∃ e, b7 = .pointer e ∧ ((e = none → b4 false a4) ∧ (¬ (e = none) → newS a4 [.int .i64 0, .int .i64 0, .int .i64 0] 45 fun b0 a5=>stw a5 b0 [.int .i64 1, .int .i64 0, .int .i64 0] fun y=>∃ f g h, ldc y b0 [.int .i64 f, .int .i64 g, .int .i64 h] ∧ callS Tryz.prog 16 [.pointer e, (.agg #[(Value.string (ByteArray.mk #[97])), .int .i64 f, .int .i64 g, .int .i64 h, (Sl.v Sl.nil), (Sl.v Sl.nil), (Sl.v Sl.nil)])] y fun b1 a6=>∃ a2, b1 = .int .i64 a2 ∧ newS a6 [.int .i64 0, .int .i64 0, .int .i64 0, .int .i64 999, .int .i64 999, .int .i64 999] 86 fun b2 a7=>newS a7 [(Value.string (ByteArray.mk #[97])), (Sl.v (Sl.mk (some b2) 1 1))] 88 fun b3 a8=>callS Tryz.prog 14 [.pointer e, (.agg #[(Sl.v (Sl.mk (some b3) 1 1)), (Sl.v Sl.nil), (Sl.v Sl.nil), (Sl.v Sl.nil)]), .bool true, (Sl.v Sl.nil), (.agg #[.int .i64 9, .int .i64 9, .int .i64 0, .int .i64 0])] a8 fun a9 z=>∃ i j k, a9 = (Value.tuple #[(.agg #[Sl.v i]), .int .i64 j, .int .i64 k]) ∧ newS z [(Sl.v Sl.nil)] 38 fun d a0=>stw a0 d [Sl.v i] fun a1=>bnd a1.drew fun (a : World)=>bnd (k == 0) fun (b6 : Bool)=>bnd (b6 && (j == 1)) fun (u : Bool)=>∃ v, grd u (ldc a d [Sl.v v]) ∧ bnd (u && ((v.len : Int) == 2)) fun (b : Bool)=>∃ l, grd b (ldc a d [Sl.v l]) ∧ ∃ a3, grd b (l.a = some a3 ∧ (0 : Int) ≤ 1 ∧ 1 < (l.len : Int)) ∧ ∃ m n o, grd b (ldc a ((a3.add ((1 : Int).toNat * 6)).add 1) [.int .i64 m, .int .i64 n, .int .i64 o]) ∧ ∃ p q r, grd b (ldc a b0 [.int .i64 p, .int .i64 q, .int .i64 r]) ∧ bnd (b && ((m == p) && ((n == q) && ((o == r) && true)))) fun (c : Bool)=>∃ s, grd c (ldc a d [Sl.v s]) ∧ ∃ t, grd c (s.a = some t ∧ (0 : Int) ≤ 0 ∧ 0 < (s.len : Int)) ∧ ∃ x, grd c (ldc a ((t.add ((0 : Int).toNat * 6)).add 5) [Sl.v x]) ∧ b4 (c && ((x.len : Int) == 1)) a))
theorem halyardlaw11_known.go {w : World} {k : Value → World → Prop} (a0 : halyardlaw11_known w fun h u=>k (Value.bool h) u) : callS Tryz.prog 13 [] w k := rgo (sk := (.s (.r []) (.s (.r []) (.s (.s (.r []) (.c (.s (.r []) .o) .o)) (.s (.r []) (.s (.r []) (.s (.r []) (.s (.r []) (.s (.r []) .o))))))))) (args := []) Tryz.func13 (Eq.mpr (by kernel_rfl) a0)
def resolve_Run (p3 : Option Addr) (n1 n2 n3 n4 : Sl) (n5 : Bool) (k9 : Sl) (l0 l1 l2 l3 : Int) (p6 : World) (j5 : Sl → Int → Int → World → Prop) : Prop :=
 newS p6 [Sl.v n1, Sl.v n2, Sl.v n3, Sl.v n4] 25 fun p5 p0=>newS p0 [.int .i64 l0, .int .i64 l1, .int .i64 l2, .int .i64 l3] 28 fun d6 n9=>newS n9 [(Sl.v Sl.nil)] 38 fun l i4=>gotos2 (fun i5=>bnd (Option.isNone p3) fun (o9 : Bool)=>∃ e8 e9 f0 f1, grd (!o9) (ldc i4 p5 [Sl.v e8, Sl.v e9, Sl.v f0, Sl.v f1]) ∧ gCall (!o9) (fun (d9 : Bool) (m : World)=>bnd (o9 || (!d9)) fun (n6 : Bool)=>∃ j6, grd (!n6) (ldc m d6 [.int .i64 j6]) ∧ bnd (n6 || (decide (j6 < 1))) fun (n7 : Bool)=>∃ j7, grd (!n7) (ldc m d6 [.int .i64 j7]) ∧ bnd (n7 || (decide (4096 < j7))) fun (j8 : Bool)=>∃ j9, grd (!j8) (ldc m (d6.add 1) [.int .i64 j9]) ∧ bnd (j8 || (decide (j9 < 1))) fun (f2 : Bool)=>∃ f3, grd (!f2) (ldc m (d6.add 1) [.int .i64 f3]) ∧ (((f2 || (decide (128 < f3))) = true → stw m l [(Sl.v Sl.nil)] fun i6=>∃ k0, ldc i6 l [Sl.v k0] ∧ j5 k0 0 1 i6) ∧ ((f2 || (decide (128 < f3))) = false → ∃ f4 f5 f6 f7, ldc m p5 [Sl.v f4, Sl.v f5, Sl.v f6, Sl.v f7] ∧ newS m [(Value.string (ByteArray.mk #[])), .int .i64 0, .int .i64 0, .int .i64 0, (Sl.v Sl.nil), (Sl.v Sl.nil)] 64 fun o0 l4=>newS l4 [.pointer p3, Sl.v f4, Sl.v f5, Sl.v f6, Sl.v f7, .bool n5, Sl.v k9, (Sl.v Sl.nil), (Sl.v (Sl.mk (some o0) 1 1)), (Sl.v Sl.nil), (Sl.v Sl.nil), .int .i64 0] 92 fun c l5=>callS Tryz.prog 40 [(Value.pointer (some c))] l5 fun o1 l6=>o1 = (Value.tuple #[]) ∧ bnd l6.drew fun (r : World)=>∃ b1, ldc r (c.add 7) [Sl.v b1] ∧ ∃ b2, ldc r (c.add 11) [.int .i64 b2] ∧ ∃ f8, ldc r (c.add 10) [Sl.v f8] ∧ (((wrapI ((b1.len : Int) - b2)) < (f8.len : Int) → bnd r.drew fun (b6 : World)=>∃ k1, ldc b6 (c.add 7) [Sl.v k1] ∧ ∃ f9, ldc b6 (c.add 10) [Sl.v f9] ∧ ∃ n8, (f9.a = some n8 ∧ (0 : Int) ≤ (wrapI ((b1.len : Int) - b2)) ∧ (wrapI ((b1.len : Int) - b2)) < (f9.len : Int)) ∧ ∃ k2 g0 g1, ldc b6 (n8.add ((wrapI ((b1.len : Int) - b2)).toNat * 3)) [.string k2, .int .i64 g0, Sl.v g1] ∧ callX Tryz.prog 41 [(Value.pointer (some c)), (.agg #[.string k2, .int .i64 g0, Sl.v g1])] b6 fun o2 l7=>∃ a5 a6 g a7 c6, o2 = (.agg #[.int .i64 a5, .string a6, Sl.v g, .bool a7, .int .i64 c6]) ∧ newS l7 [.int .i64 a5, .string a6, Sl.v g, .bool a7, .int .i64 c6] 94 fun o3 l8=>appS Tryz.prog 90 90 k1 (Sl.v (Sl.mk (some o3) 1 1)) l8 fun o4 l9=>stw l9 (c.add 7) [Sl.v o4] fun m0=>i5 0 (some c) 0 m0) ∧ (¬ ((wrapI ((b1.len : Int) - b2)) < (f8.len : Int)) → ∃ k3, ldc r (d6.add 1) [.int .i64 k3] ∧ callS Tryz.prog 42 [(Value.pointer (some c)), .int .i64 k3] r fun o5 d7=>∃ c7, o5 = .int .i64 c7 ∧ ((c7 = 33 → i5 2 (some c) 0 d7) ∧ (¬ (c7 = 33) → ((c7 = 32 → stw d7 l [(Sl.v Sl.nil)] fun i7=>∃ g2, ldc i7 l [Sl.v g2] ∧ j5 g2 0 32 i7) ∧ (¬ (c7 = 32) → bnd d7.drew fun (a8 : World)=>∃ c8, ldc a8 (c.add 9) [Sl.v c8] ∧ ∃ c9, ldc a8 (c.add 8) [Sl.v c9] ∧ (((c8.len : Int) = (c9.len : Int) → ∃ g3, ldc a8 (c.add 8) [Sl.v g3] ∧ stw a8 l [Sl.v g3] fun i8=>∃ g4, ldc i8 l [Sl.v g4] ∧ j5 g4 0 0 i8) ∧ (¬ ((c8.len : Int) = (c9.len : Int)) → callS Tryz.prog 40 [(Value.pointer (some c))] a8 fun o6 m1=>o6 = (Value.tuple #[]) ∧ i5 1 (some c) 0 m1))))))))))) (fun p1=>callS Tryz.prog 39 [(.agg #[Sl.v e8, Sl.v e9, Sl.v f0, Sl.v f1])] i4 fun p7 m=>∃ d9, p7 = .bool d9 ∧ p1 d9 m) (fun p1=>p1 false i4)) fun p2 b a b0 k=>((p2 = 1 → bnd b0.drew fun (s : World)=>∃ p4, (b = some p4) ∧ ∃ i, ldc s (p4.add 7) [Sl.v i] ∧ ∃ k4, (b = some k4) ∧ ∃ j, ldc s (k4.add 11) [.int .i64 j] ∧ ∃ k5, (b = some k5) ∧ ∃ b7, ldc s (k5.add 10) [Sl.v b7] ∧ (((wrapI ((i.len : Int) - j)) < (b7.len : Int) → bnd s.drew fun (b8 : World)=>∃ k6, (b = some k6) ∧ ∃ e0, ldc b8 (k6.add 7) [Sl.v e0] ∧ ∃ k7, (b = some k7) ∧ ∃ b9, ldc b8 (k7.add 10) [Sl.v b9] ∧ ∃ g5, (b9.a = some g5 ∧ (0 : Int) ≤ (wrapI ((i.len : Int) - j)) ∧ (wrapI ((i.len : Int) - j)) < (b9.len : Int)) ∧ ∃ g6 g7 g8, ldc b8 (g5.add ((wrapI ((i.len : Int) - j)).toNat * 3)) [.string g6, .int .i64 g7, Sl.v g8] ∧ callX Tryz.prog 41 [.pointer b, (.agg #[.string g6, .int .i64 g7, Sl.v g8])] b8 fun o7 m2=>∃ n o d p a9, o7 = (.agg #[.int .i64 n, .string o, Sl.v d, .bool p, .int .i64 a9]) ∧ newS m2 [.int .i64 n, .string o, Sl.v d, .bool p, .int .i64 a9] 94 fun o8 m3=>appS Tryz.prog 90 90 e0 (Sl.v (Sl.mk (some o8) 1 1)) m3 fun i9 m4=>∃ k8, (b = some k8) ∧ stw m4 (k8.add 7) [Sl.v i9] fun m5=>k 0 b a m5) ∧ (¬ ((wrapI ((i.len : Int) - j)) < (b7.len : Int)) → ∃ e1, ldc s (d6.add 1) [.int .i64 e1] ∧ callS Tryz.prog 42 [.pointer b, .int .i64 e1] s fun m6 c4=>∃ h, m6 = .int .i64 h ∧ ((h = 33 → k 2 b a c4) ∧ (¬ (h = 33) → ((h = 32 → stw c4 l [(Sl.v Sl.nil)] fun e3=>∃ g9, ldc e3 l [Sl.v g9] ∧ j5 g9 0 32 e3) ∧ (¬ (h = 32) → bnd c4.drew fun (q : World)=>∃ h0, (b = some h0) ∧ ∃ t, ldc q (h0.add 9) [Sl.v t] ∧ ∃ h1, (b = some h1) ∧ ∃ u, ldc q (h1.add 8) [Sl.v u] ∧ (((t.len : Int) = (u.len : Int) → ∃ h2, (b = some h2) ∧ ∃ b3, ldc q (h2.add 8) [Sl.v b3] ∧ stw q l [Sl.v b3] fun e4=>∃ h3, ldc e4 l [Sl.v h3] ∧ j5 h3 a 0 e4) ∧ (¬ ((t.len : Int) = (u.len : Int)) → callS Tryz.prog 40 [.pointer b] q fun m7 j0=>m7 = (Value.tuple #[]) ∧ k 1 b a j0))))))))) ∧ (p2 = 0 → bnd b0.drew fun (a3 : World)=>∃ h4, (b = some h4) ∧ ∃ d0, ldc a3 (h4.add 7) [Sl.v d0] ∧ ∃ h5, (b = some h5) ∧ ∃ c0, ldc a3 (h5.add 7) [Sl.v c0] ∧ ∃ e2, (d0.a = some e2 ∧ (0 : Int) ≤ (wrapI ((c0.len : Int) - 1)) ∧ (wrapI ((c0.len : Int) - 1)) < (d0.len : Int)) ∧ ∃ x y e z b4, ldc a3 (e2.add ((wrapI ((c0.len : Int) - 1)).toNat * 5)) [.int .i64 x, .string y, Sl.v e, .bool z, .int .i64 b4] ∧ newS a3 [.int .i64 0, (Value.string (ByteArray.mk #[])), (Sl.v Sl.nil), .bool false, .int .i64 0] 94 fun d8 j1=>stw j1 d8 [.int .i64 x, .string y, Sl.v e, .bool z, .int .i64 b4] fun j2=>bnd j2.drew fun (c1 : World)=>∃ d1, ldc c1 (d8.add 4) [.int .i64 d1] ∧ ∃ a0 a1 f a2 b5, ldc c1 d8 [.int .i64 a0, .string a1, Sl.v f, .bool a2, .int .i64 b5] ∧ callX Tryz.prog 43 [(.agg #[.int .i64 a0, .string a1, Sl.v f, .bool a2, .int .i64 b5])] c1 fun m8 a4=>∃ d2, m8 = .int .i64 d2 ∧ ((d1 < d2 → ∃ d3, ldc a4 d6 [.int .i64 d3] ∧ ((a = d3 → stw a4 l [(Sl.v Sl.nil)] fun e5=>∃ h6, ldc e5 l [Sl.v h6] ∧ j5 h6 0 31 e5) ∧ (¬ (a = d3) → k 1 b (wrapI (a + 1)) a4))) ∧ (¬ (d1 < d2) → bnd a4.drew fun (c2 : World)=>∃ h7, (b = some h7) ∧ ∃ d4, ldc c2 (h7.add 7) [Sl.v d4] ∧ ∃ h8, (b = some h8) ∧ ∃ c3, ldc c2 (h8.add 7) [Sl.v c3] ∧ ((0 : Int) ≤ (wrapI ((c3.len : Int) - 1)) ∧ (wrapI ((c3.len : Int) - 1)) ≤ (d4.cap : Int)) ∧ ∃ h9, (b = some h9) ∧ stw c2 (h9.add 7) [(Sl.v (Sl.cut d4 0 ((wrapI ((c3.len : Int) - 1)).toNat) 5))] fun c5=>∃ i0, (b = some i0) ∧ ∃ d5, ldc c5 (i0.add 7) [Sl.v d5] ∧ (((d5.len : Int) = 0 → stw c5 l [(Sl.v Sl.nil)] fun e6=>∃ i1, ldc e6 l [Sl.v i1] ∧ j5 i1 0 30 e6) ∧ (¬ ((d5.len : Int) = 0) → callS Tryz.prog 44 [.pointer b] c5 fun m9 j3=>m9 = (Value.tuple #[]) ∧ k 0 b a j3))))) ∧ (p2 = 2 → ∃ i2, (b = some i2) ∧ ∃ v, ldc b0 (i2.add 7) [Sl.v v] ∧ (((v.len : Int) = 0 → stw b0 l [(Sl.v Sl.nil)] fun e7=>∃ i3, ldc e7 l [Sl.v i3] ∧ j5 i3 0 30 e7) ∧ (¬ ((v.len : Int) = 0) → callS Tryz.prog 44 [.pointer b] b0 fun n0 j4=>n0 = (Value.tuple #[]) ∧ k 0 b a j4))))
set_option maxHeartbeats 8000000 in
theorem resolve_Run.sound (c : Option Addr) (zz0 : Sl) (zz1 : Sl) (zz2 : Sl) (zz3 : Sl) (dev : Bool) (pins : Sl) (zz1q : Int) (zz1s : Int) (zz1r : Int) (zz1t : Int) (w : World) (R : Sl → Int → Int → World → Prop) (h : resolve_Run c zz0 zz1 zz2 zz3 dev pins zz1q zz1s zz1r zz1t w R) : callS Tryz.prog 14 [(Value.pointer c), (Value.agg #[(Sl.v zz0), (Sl.v zz1), (Sl.v zz2), (Sl.v zz3)]), (Value.bool dev), (Sl.v pins), (Value.agg #[(Value.int .i64 zz1q), (Value.int .i64 zz1s), (Value.int .i64 zz1r), (Value.int .i64 zz1t)])] w (fun v w'=>∃ (r0 : Sl) (r1 : Int) (r2 : Int), v = (Value.tuple #[(Value.agg #[(Sl.v r0)]), (Value.int .i64 r1), (Value.int .i64 r2)]) ∧ R r0 r1 r2 w') := by
 unfold resolve_Run at h
 refine calls_of_vc 165 rfl Tryz.func14 rfl (by kernel_rfl) (by simp) ?_
 refine Vc.seq ?_
 refine Vc.region ?_
 refine vcL_eff rfl (opVC_new rfl (fun a=>Value.pointer (some a)) (by kernel_rfl) (newS.mono h fun a vw hx h=>?_))
 refine vcL_eff rfl (opVC_new rfl (fun a=>Value.pointer (some a)) (by kernel_rfl) (newS.mono h fun a1 vw2 hx h=>?_))
 refine vcL_eff rfl (opVC_new rfl (fun a=>Value.pointer (some a)) (by kernel_rfl) (newS.mono h fun a3 vw4 hx h=>?_))
 refine vcL_purs 2 [(12, (Value.int .i64 0)), (11, (Value.int .i64 0))] (by kernel_rfl) ?_
 refine vcL_nil ?_
 obtain ⟨vI, mu, h, hr⟩ := h
 refine Vc.scopeJ (σ := Option Addr × Int) [1, 0, 2] [13, 14] [11, 12, 15, 16, 17, 18, 19, 20, 21, 22, 23, 24, 25, 26, 27, 28, 29, 30, 31, 32, 33, 34, 35, 36, 37, 38, 39, 40, 41, 42, 43, 44, 45, 46, 47, 48, 49, 50, 51, 52, 53, 54, 55, 56, 57, 58, 59, 60, 61, 62, 63, 64, 65, 66, 67, 68, 69, 70, 71, 72, 73, 74, 75, 76, 77, 78, 79, 80, 81, 82, 83, 84, 85, 86, 87, 88, 89, 90, 91, 92, 93, 94, 95, 96, 97, 98, 99, 100, 101, 102, 103, 104, 105, 106, 107, 108, 109, 110, 111, 112, 113, 114, 115, 116, 117, 118, 119, 120, 121, 122, 123, 124, 125, 126, 127, 128, 129, 130, 131, 132, 133, 134, 135, 136, 137, 138, 139, 140, 141, 142, 143, 144, 145, 146, 147, 148, 149, 150, 151, 152, 153, 154, 155, 156, 157, 158, 159, 160, 161, 162, 163, 164] (fun s=>[(13, (Value.pointer s.1)), (14, (Value.int .i64 s.2))]) (fun l s w=>vI l s.1 s.2 w) (fun l s w=>mu l s.1 s.2 w) (fun _ => rfl) ?_ ⟨⟨_, rfl, ?_⟩, ⟨_, rfl, ?_⟩, ⟨_, rfl, ?_⟩, trivial⟩
 ·refine Vc.seq ?_
  refine Vc.seq ?_
  refine Vc.region ?_
  refine vcL_pure rfl rfl (Value.pointer c) (fun w=>by kernel_rfl) ?_
  refine vcL_pure rfl rfl (Value.bool (Option.isNone c)) (fun w=>by cases c <;> kernel_rfl) ?_
  obtain ⟨b, hb⟩ : ∃ y, y = (Option.isNone c) := ⟨_, rfl⟩
  have h := h b hb
  refine vcL_pure rfl rfl (Value.bool b) (fun w=>by rw [hb]; kernel_rfl) ?_
  obtain ⟨zz52, zz53, zz54, zz55, hc, h⟩ := h
  refine vcL_guard (!b) (wanted_g (d := 19) rfl (by kernel_rfl) b (by kernel_rfl) (!b) (eqF b)) rfl (Value.agg #[(Sl.v zz52), (Sl.v zz53), (Sl.v zz54), (Sl.v zz55)]) (fun hg=>by simp only [Bool.and_eq_true, Bool.not_eq_true'] at hg; obtain rfl := hg; exact exec_load rfl (by kernel_rfl) (run_loadN (fun w=>by kernel_rfl) (fun w=>by kernel_rfl) ((hc rfl)))) ?_
  obtain ⟨vJ, hJ, h⟩ := gCall_elim h
  refine vcL_effJ (σ := Bool) (!b) (wanted_g (d := 19) rfl (by kernel_rfl) b (by kernel_rfl) (!b) (eqF b)) rfl (fun s w=>vJ s w) (fun s=>(Value.bool s)) ?_ (fun hg=>opVC_call rfl (by simp only [Bool.and_eq_true, Bool.not_eq_true'] at hg; obtain rfl := hg; kernel_rfl) (callS.mono (h.1 hg) fun v vw5 hq=>?_)) (fun hg=>⟨false, h.2 hg⟩)
  ·intro t21 vw5 h
   subst hJ
   refine vcL_guardP (!b) (wanted_g (d := 19) rfl (by kernel_rfl) b (by kernel_rfl) (!b) (eqF b)) rfl (Value.bool (!t21)) (fun hg w=>by simp only [Bool.and_eq_true, Bool.not_eq_true'] at hg; obtain rfl := hg; kernel_rfl) ?_
   refine vcL_pure rfl rfl (Value.bool (b || (!t21))) (fun w=>by cases b <;> kernel_rfl) ?_
   obtain ⟨b6, hb6⟩ : ∃ y, y = (b || (!t21)) := ⟨_, rfl⟩
   have h := h b6 hb6
   refine vcL_pure rfl rfl (Value.bool b6) (fun w=>by rw [hb6]; kernel_rfl) ?_
   refine vcL_guardP (!b6) (wanted_g (d := 24) rfl (by kernel_rfl) b6 (by kernel_rfl) (!b6) (eqF b6)) rfl (Value.pointer (some a1)) (fun hg w=>by simp only [Bool.and_eq_true, Bool.not_eq_true'] at hg; obtain rfl := hg; kernel_rfl) ?_
   obtain ⟨t26, hc7, h⟩ := h
   refine vcL_guard (!b6) (wanted_g (d := 24) rfl (by kernel_rfl) b6 (by kernel_rfl) (!b6) (eqF b6)) rfl (Value.int .i64 t26) (fun hg=>by simp only [Bool.and_eq_true, Bool.not_eq_true'] at hg; obtain rfl := hg; exact exec_load rfl (by kernel_rfl) (run_load1 (fun w=>by kernel_rfl) ((hc7 rfl)))) ?_
   refine vcL_guardP (!b6) (wanted_g (d := 24) rfl (by kernel_rfl) b6 (by kernel_rfl) (!b6) (eqF b6)) rfl (Value.bool (decide (t26 < 1))) (fun hg w=>by simp only [Bool.and_eq_true, Bool.not_eq_true'] at hg; obtain rfl := hg; kernel_rfl) ?_
   refine vcL_pure rfl rfl (Value.bool (b6 || (decide (t26 < 1)))) (fun w=>by cases b6 <;> kernel_rfl) ?_
   obtain ⟨b8, hb8⟩ : ∃ y, y = (b6 || (decide (t26 < 1))) := ⟨_, rfl⟩
   have h := h b8 hb8
   refine vcL_pure rfl rfl (Value.bool b8) (fun w=>by rw [hb8]; kernel_rfl) ?_
   refine vcL_guardP (!b8) (wanted_g (d := 29) rfl (by kernel_rfl) b8 (by kernel_rfl) (!b8) (eqF b8)) rfl (Value.pointer (some a1)) (fun hg w=>by simp only [Bool.and_eq_true, Bool.not_eq_true'] at hg; obtain rfl := hg; kernel_rfl) ?_
   obtain ⟨t31, hc9, h⟩ := h
   refine vcL_guard (!b8) (wanted_g (d := 29) rfl (by kernel_rfl) b8 (by kernel_rfl) (!b8) (eqF b8)) rfl (Value.int .i64 t31) (fun hg=>by simp only [Bool.and_eq_true, Bool.not_eq_true'] at hg; obtain rfl := hg; exact exec_load rfl (by kernel_rfl) (run_load1 (fun w=>by kernel_rfl) ((hc9 rfl)))) ?_
   refine vcL_guardP (!b8) (wanted_g (d := 29) rfl (by kernel_rfl) b8 (by kernel_rfl) (!b8) (eqF b8)) rfl (Value.bool (decide (4096 < t31))) (fun hg w=>by simp only [Bool.and_eq_true, Bool.not_eq_true'] at hg; obtain rfl := hg; kernel_rfl) ?_
   refine vcL_pure rfl rfl (Value.bool (b8 || (decide (4096 < t31)))) (fun w=>by cases b8 <;> kernel_rfl) ?_
   obtain ⟨b10, hb10⟩ : ∃ y, y = (b8 || (decide (4096 < t31))) := ⟨_, rfl⟩
   have h := h b10 hb10
   refine vcL_pure rfl rfl (Value.bool b10) (fun w=>by rw [hb10]; kernel_rfl) ?_
   refine vcL_guardP (!b10) (wanted_g (d := 34) rfl (by kernel_rfl) b10 (by kernel_rfl) (!b10) (eqF b10)) rfl (Value.pointer (some (a1.add 1))) (fun hg w=>by simp only [Bool.and_eq_true, Bool.not_eq_true'] at hg; obtain rfl := hg; kernel_rfl) ?_
   obtain ⟨t36, hc11, h⟩ := h
   refine vcL_guard (!b10) (wanted_g (d := 34) rfl (by kernel_rfl) b10 (by kernel_rfl) (!b10) (eqF b10)) rfl (Value.int .i64 t36) (fun hg=>by simp only [Bool.and_eq_true, Bool.not_eq_true'] at hg; obtain rfl := hg; exact exec_load rfl (by kernel_rfl) (run_load1 (fun w=>by kernel_rfl) ((hc11 rfl)))) ?_
   refine vcL_guardP (!b10) (wanted_g (d := 34) rfl (by kernel_rfl) b10 (by kernel_rfl) (!b10) (eqF b10)) rfl (Value.bool (decide (t36 < 1))) (fun hg w=>by simp only [Bool.and_eq_true, Bool.not_eq_true'] at hg; obtain rfl := hg; kernel_rfl) ?_
   refine vcL_pure rfl rfl (Value.bool (b10 || (decide (t36 < 1)))) (fun w=>by cases b10 <;> kernel_rfl) ?_
   obtain ⟨b12, hb12⟩ : ∃ y, y = (b10 || (decide (t36 < 1))) := ⟨_, rfl⟩
   have h := h b12 hb12
   refine vcL_pure rfl rfl (Value.bool b12) (fun w=>by rw [hb12]; kernel_rfl) ?_
   refine vcL_guardP (!b12) (wanted_g (d := 39) rfl (by kernel_rfl) b12 (by kernel_rfl) (!b12) (eqF b12)) rfl (Value.pointer (some (a1.add 1))) (fun hg w=>by simp only [Bool.and_eq_true, Bool.not_eq_true'] at hg; obtain rfl := hg; kernel_rfl) ?_
   obtain ⟨t41, hc13, h⟩ := h
   refine vcL_guard (!b12) (wanted_g (d := 39) rfl (by kernel_rfl) b12 (by kernel_rfl) (!b12) (eqF b12)) rfl (Value.int .i64 t41) (fun hg=>by simp only [Bool.and_eq_true, Bool.not_eq_true'] at hg; obtain rfl := hg; exact exec_load rfl (by kernel_rfl) (run_load1 (fun w=>by kernel_rfl) ((hc13 rfl)))) ?_
   refine vcL_guardP (!b12) (wanted_g (d := 39) rfl (by kernel_rfl) b12 (by kernel_rfl) (!b12) (eqF b12)) rfl (Value.bool (decide (128 < t41))) (fun hg w=>by simp only [Bool.and_eq_true, Bool.not_eq_true'] at hg; obtain rfl := hg; kernel_rfl) ?_
   refine vcL_pure rfl rfl (Value.bool (b12 || (decide (128 < t41)))) (fun w=>by cases b12 <;> kernel_rfl) ?_
   refine vcL_nil ?_
   refine Vc.cond (b12 || (decide (128 < t41))) (by kernel_rfl) (fun hb=>?_) (fun hb=>?_)
   ·have h := h.1 (hb)
    refine Vc.seq ?_
    refine Vc.region ?_
    refine vcL_pure rfl rfl (Value.agg #[(Sl.v Sl.nil)]) (fun w=>by kernel_rfl) ?_
    refine vcL_eff rfl (opVC_store rfl rfl (a := a3) (by kernel_rfl) (v := (Value.agg #[(Sl.v Sl.nil)])) (by kernel_rfl) [(Sl.v Sl.nil)] (by kernel_rfl) (fun w=>by kernel_rfl) (by kernel_rfl) (stw.mono h fun vw14 h=>?_))
    refine vcL_purs 2 [(12, (Value.int .i64 1)), (11, (Value.int .i64 0))] (by kernel_rfl) ?_
    refine vcL_nil ?_
    refine Vc.ret ?_
    refine gotoX_ret ?_
    refine outs_ret ?_
    obtain ⟨zz8, hc15, h⟩ := h
    refine done_mk (Value.tuple #[(Value.agg #[(Sl.v zz8)]), (Value.int .i64 0), (Value.int .i64 1)]) (res3 (resC_cell (by kernel_rfl) (run_loadN (fun w=>by kernel_rfl) (fun w=>by kernel_rfl) hc15)) (resC_tmp (by kernel_rfl)) (resC_tmp (by kernel_rfl))) ?_
    exact ⟨zz8, 0, 1, rfl, h⟩
   ·have h := h.2 (hb)
    refine Vc.skip ?_
    refine Vc.seq ?_
    refine Vc.region ?_
    refine vcL_pure rfl rfl (Value.pointer c) (fun w=>by kernel_rfl) ?_
    obtain ⟨zz18, zz47, zz19, zz49, hc16, h⟩ := h
    refine vcL_val rfl rfl (Value.agg #[(Sl.v zz18), (Sl.v zz47), (Sl.v zz19), (Sl.v zz49)]) (exec_load rfl (by kernel_rfl) (run_loadN (fun w=>by kernel_rfl) (fun w=>by kernel_rfl) ((hc16)))) ?_
    refine vcL_purs 3 [(49, (Value.agg #[(Value.string (ByteArray.mk #[])), (Value.int .i64 0), (Value.int .i64 0), (Value.int .i64 0), (Sl.v Sl.nil), (Sl.v Sl.nil)])), (48, (Sl.v pins)), (47, (Value.bool dev))] (by kernel_rfl) ?_
    refine vcL_eff rfl (opVC_new rfl (fun a=>Value.slice (some a) 1 1) (by kernel_rfl) (newS.mono h fun a17 vw18 hx h=>?_))
    refine vcL_pure rfl rfl (Value.agg #[(Value.pointer c), (Sl.v zz18), (Sl.v zz47), (Sl.v zz19), (Sl.v zz49), (Value.bool dev), (Sl.v pins), (Sl.v Sl.nil), (Sl.v (Sl.mk (some a17) 1 1)), (Sl.v Sl.nil), (Sl.v Sl.nil), (Value.int .i64 0)]) (fun w=>by kernel_rfl) ?_
    refine vcL_eff rfl (opVC_new rfl (fun a=>Value.pointer (some a)) (by kernel_rfl) (newS.mono h fun a19 vw20 hx h=>?_))
    refine vcL_pure rfl rfl (Value.pointer (some a19)) (fun w=>by kernel_rfl) ?_
    refine vcL_nil ?_
    refine Vc.seq ?_
    refine Vc.region ?_
    refine vcL_pure rfl rfl (Value.int .i64 0) (fun w=>by kernel_rfl) ?_
    refine vcL_nil ?_
    refine Vc.seq ?_
    refine Vc.region ?_
    refine vcL_pure rfl rfl (Value.pointer (some a19)) (fun w=>by kernel_rfl) ?_
    refine vcL_eff rfl (opVC_call rfl (by kernel_rfl) (callS.mono h fun v22 vw21 h=>?_))
    obtain ⟨rfl, h⟩ := h
    refine vcL_nil ?_
    refine Vc.seq ?_
    refine Vc.label ?_
    refine Vc.seq ?_
    refine Vc.seq ?_
    obtain ⟨vw24, hvw24⟩ : ∃ y, y = vw21.drew := ⟨_, rfl⟩
    have h := h vw24 hvw24
    refine Vc.draw (by kernel_rfl) (fun i=>!(memN [] i)) (.pur 0 (.pur 1 (.pur 2 (.val 3 (.pur 4 (.pur 5 (.pur 6 (.pur 7 (.val 8 (.pur 9 (.pur 10 .fin))))))))))) (by kernel_rfl) ?_
    rw [← hvw24]
    clear hvw24
    refine vcS_pure rfl rfl rfl (Value.pointer (some a19)) (fun w=>by kernel_rfl) ?_
    refine vcS_pure rfl rfl rfl (Value.pointer (some a19)) (fun w=>by kernel_rfl) ?_
    refine vcS_pure rfl rfl rfl (Value.pointer (some (a19.add 7))) (fun w=>by kernel_rfl) ?_
    obtain ⟨t58, hc25, h⟩ := h
    refine vcS_val rfl rfl rfl (Sl.v t58) (fun w' hx=>exec_load rfl (by kernel_rfl) (run_load1 (fun w=>by kernel_rfl) ((hc25).ext hx))) ?_
    refine vcS_pure rfl rfl rfl (Value.int .i64 (t58.len : Int)) (fun w=>by kernel_rfl) ?_
    refine vcS_pure rfl rfl rfl (Value.pointer (some a19)) (fun w=>by kernel_rfl) ?_
    refine vcS_pure rfl rfl rfl (Value.pointer (some a19)) (fun w=>by kernel_rfl) ?_
    refine vcS_pure rfl rfl rfl (Value.pointer (some (a19.add 11))) (fun w=>by kernel_rfl) ?_
    obtain ⟨t63, hc26, h⟩ := h
    refine vcS_val rfl rfl rfl (Value.int .i64 t63) (fun w' hx=>exec_load rfl (by kernel_rfl) (run_load1 (fun w=>by kernel_rfl) ((hc26).ext hx))) ?_
    refine vcS_pure rfl rfl rfl (Value.int .i64 (wrapI ((t58.len : Int) - t63))) (fun w=>by kernel_rfl) ?_
    refine vcS_pure rfl rfl rfl (Value.int .i64 (wrapI ((t58.len : Int) - t63))) (fun w=>by kernel_rfl) ?_
    refine vcS_fin ?_
    refine Vc.seq ?_
    refine Vc.region ?_
    refine vcL_purs 4 [(68, (Value.pointer (some (a19.add 10)))), (67, (Value.pointer (some a19))), (66, (Value.pointer (some a19))), (65, (Value.int .i64 (wrapI ((t58.len : Int) - t63))))] (by kernel_rfl) ?_
    obtain ⟨t69, hc27, h⟩ := h
    refine vcL_val rfl rfl (Sl.v t69) (exec_load rfl (by kernel_rfl) (run_load1 (fun w=>by kernel_rfl) ((hc27)))) ?_
    refine vcL_purs 2 [(71, (Value.bool (decide ((wrapI ((t58.len : Int) - t63)) < (t69.len : Int))))), (70, (Value.int .i64 (t69.len : Int)))] (by kernel_rfl) ?_
    refine vcL_nil ?_
    refine Vc.cond (decide ((wrapI ((t58.len : Int) - t63)) < (t69.len : Int))) (by kernel_rfl) (fun hb=>?_) (fun hb=>?_)
    ·have h := h.1 (of_decide_eq_true hb)
     refine Vc.seq ?_
     obtain ⟨vw28, hvw28⟩ : ∃ y, y = vw24.drew := ⟨_, rfl⟩
     have h := h vw28 hvw28
     refine Vc.draw (by kernel_rfl) (fun i=>!(memN [15, 18] i)) (.pur 0 (.pur 1 (.pur 2 (.pur 3 (.val 4 (.pur 5 (.pur 6 (.pur 7 (.pur 8 (.val 9 (.pur 10 (.pur 11 (.val 12 (.eff 13 (.eff 14 (.eff 15 (.pur 16 (.pur 17 (.eff 18 .fin .stop))) .stop) .stop) .stop)))))))))))))) (by kernel_rfl) ?_
     rw [← hvw28]
     clear hvw28
     refine vcS_pure rfl rfl rfl (Value.pointer (some a19)) (fun w=>by kernel_rfl) ?_
     refine vcS_pure rfl rfl rfl (Value.pointer (some a19)) (fun w=>by kernel_rfl) ?_
     refine vcS_pure rfl rfl rfl (Value.pointer (some a19)) (fun w=>by kernel_rfl) ?_
     refine vcS_pure rfl rfl rfl (Value.pointer (some (a19.add 7))) (fun w=>by kernel_rfl) ?_
     obtain ⟨t76, hc29, h⟩ := h
     refine vcS_val rfl rfl rfl (Sl.v t76) (fun w' hx=>exec_load rfl (by kernel_rfl) (run_load1 (fun w=>by kernel_rfl) ((hc29).ext hx))) ?_
     refine vcS_pure rfl rfl rfl (Value.pointer (some a19)) (fun w=>by kernel_rfl) ?_
     refine vcS_pure rfl rfl rfl (Value.pointer (some a19)) (fun w=>by kernel_rfl) ?_
     refine vcS_pure rfl rfl rfl (Value.pointer (some a19)) (fun w=>by kernel_rfl) ?_
     refine vcS_pure rfl rfl rfl (Value.pointer (some (a19.add 10))) (fun w=>by kernel_rfl) ?_
     obtain ⟨t81, hc30, h⟩ := h
     refine vcS_val rfl rfl rfl (Sl.v t81) (fun w' hx=>exec_load rfl (by kernel_rfl) (run_load1 (fun w=>by kernel_rfl) ((hc30).ext hx))) ?_
     refine vcS_pure rfl rfl rfl (Value.int .i64 (wrapI ((t58.len : Int) - t63))) (fun w=>by kernel_rfl) ?_
     obtain ⟨ad, hi, h⟩ := h
     refine vcS_pure rfl rfl rfl (Value.pointer (some (ad.add ((wrapI ((t58.len : Int) - t63)).toNat * 3)))) (fun w=>by exact exec_indexAt (s := t81) (el := 61) rfl (by kernel_rfl) (by kernel_rfl) (by kernel_rfl) (fun w=>by kernel_rfl) (hi).1 (hi).2.1 (hi).2.2 w) ?_
     obtain ⟨zzl, zz1o, zz1p, hc31, h⟩ := h
     refine vcS_val rfl rfl rfl (Value.agg #[(Value.string zzl), (Value.int .i64 zz1o), (Sl.v zz1p)]) (fun w' hx=>exec_load rfl (by kernel_rfl) (run_loadN (fun w=>by kernel_rfl) (fun w=>by kernel_rfl) ((hc31).ext hx))) ?_
     refine vcS_eff rfl rfl (opVC_call rfl (by kernel_rfl) (callS.mono h fun v33 vw32 h=>?_)) vcS_stop
     obtain ⟨hx34, h⟩ := h
     obtain ⟨t85_node, t85_name, t85_versions, t85_none, t85_at, rfl, h⟩ := h
     refine ⟨fun _ => hx34, ?_⟩
     refine vcS_eff rfl rfl (opVC_new rfl (fun a=>Value.slice (some a) 1 1) (by kernel_rfl) (newS.mono h fun a35 vw36 hx h=>?_)) vcS_stop
     refine ⟨fun _ => hx, ?_⟩
     refine vcS_eff rfl rfl (opVC_sem rfl (c := Builtin.append_ #[90, 90] 90 #[(Sl.v t76), (Sl.v (Sl.mk (some a35) 1 1))]) (by kernel_rfl) (appS.elim (ty := 90) h fun t87 vw37 h=>?_)) vcS_stop
     refine ⟨fun hb=>absurd hb (by decide), ?_⟩
     refine vcS_pure rfl rfl rfl (Value.pointer (some a19)) (fun w=>by kernel_rfl) ?_
     refine vcS_pure rfl rfl rfl (Value.pointer (some (a19.add 7))) (fun w=>by kernel_rfl) ?_
     refine vcS_eff rfl rfl (opVC_store rfl rfl (a := (a19.add 7)) (by kernel_rfl) (v := (Sl.v t87)) (by kernel_rfl) [(Sl.v t87)] (by kernel_rfl) (fun w=>by kernel_rfl) (by kernel_rfl) (stw.mono h fun vw38 h=>?_)) vcS_stop
     refine ⟨fun hb=>absurd hb (by decide), ?_⟩
     refine vcS_fin ?_
     refine Vc.goto ?_
     refine gotoX_hit ⟨by kernel_rfl, ?_⟩
     exact ⟨((some a19), 0), 75, ⟨rfl, by kernel_rfl, by kernel_rfl, by kernel_rfl⟩, h⟩
    ·have h := h.2 (of_decide_eq_false hb)
     refine Vc.skip ?_
     refine Vc.seq ?_
     refine Vc.seq ?_
     refine Vc.region ?_
     refine vcL_purs 2 [(91, (Value.pointer (some (a1.add 1)))), (90, (Value.pointer (some a19)))] (by kernel_rfl) ?_
     obtain ⟨t92, hc39, h⟩ := h
     refine vcL_val rfl rfl (Value.int .i64 t92) (exec_load rfl (by kernel_rfl) (run_load1 (fun w=>by kernel_rfl) ((hc39)))) ?_
     refine vcL_eff rfl (opVC_call rfl (by kernel_rfl) (callS.mono h fun v41 vw40 h=>?_))
     obtain ⟨t93, rfl, h⟩ := h
     refine vcL_nil ?_
     refine Vc.block ?_
     refine Vc.seq ?_
     refine Vc.region ?_
     refine vcL_purs 2 [(94, (Value.bool (t93 == 33))), (95, (Value.bool (t93 == 33)))] (by kernel_rfl) ?_
     refine vcL_nil ?_
     refine Vc.cond (t93 == 33) (by kernel_rfl) (fun hb=>?_) (fun hb=>?_)
     ·have h := h.1 (eq_of_beq hb)
      refine Vc.goto ?_
      refine outOf_goto ?_
      refine gotoX_hit ⟨by kernel_rfl, ?_⟩
      exact ⟨((some a19), 0), 63, ⟨rfl, by kernel_rfl, by kernel_rfl, by kernel_rfl⟩, h⟩
     ·have h := h.2 (ne_of_beq_false hb)
      refine Vc.seq ?_
      refine Vc.region ?_
      refine vcL_purs 2 [(96, (Value.bool (t93 == 32))), (97, (Value.bool (t93 == 32)))] (by kernel_rfl) ?_
      refine vcL_nil ?_
      refine Vc.cond (t93 == 32) (by kernel_rfl) (fun hb=>?_) (fun hb=>?_)
      ·have h := h.1 (eq_of_beq hb)
       refine Vc.seq ?_
       refine Vc.region ?_
       refine vcL_pure rfl rfl (Value.agg #[(Sl.v Sl.nil)]) (fun w=>by kernel_rfl) ?_
       refine vcL_eff rfl (opVC_store rfl rfl (a := a3) (by kernel_rfl) (v := (Value.agg #[(Sl.v Sl.nil)])) (by kernel_rfl) [(Sl.v Sl.nil)] (by kernel_rfl) (fun w=>by kernel_rfl) (by kernel_rfl) (stw.mono h fun vw43 h=>?_))
       refine vcL_purs 2 [(12, (Value.int .i64 32)), (11, (Value.int .i64 0))] (by kernel_rfl) ?_
       refine vcL_nil ?_
       refine Vc.ret ?_
       refine outOf_ret ?_
       refine gotoX_ret ?_
       refine outs_ret ?_
       obtain ⟨zz2x, hc45, h⟩ := h
       refine done_mk (Value.tuple #[(Value.agg #[(Sl.v zz2x)]), (Value.int .i64 0), (Value.int .i64 32)]) (res3 (resC_cell (by kernel_rfl) (run_loadN (fun w=>by kernel_rfl) (fun w=>by kernel_rfl) hc45)) (resC_tmp (by kernel_rfl)) (resC_tmp (by kernel_rfl))) ?_
       exact ⟨zz2x, 0, 32, rfl, h⟩
      ·have h := h.2 (ne_of_beq_false hb)
       refine Vc.skip ?_
       refine Vc.seq ?_
       refine Vc.seq ?_
       obtain ⟨vw46, hvw46⟩ : ∃ y, y = vw40.drew := ⟨_, rfl⟩
       have h := h vw46 hvw46
       refine Vc.draw (by kernel_rfl) (fun i=>!(memN [] i)) (.pur 0 (.pur 1 (.pur 2 (.val 3 (.pur 4 (.pur 5 (.pur 6 (.pur 7 (.val 8 (.pur 9 (.pur 10 .fin))))))))))) (by kernel_rfl) ?_
       rw [← hvw46]
       clear hvw46
       refine vcS_pure rfl rfl rfl (Value.pointer (some a19)) (fun w=>by kernel_rfl) ?_
       refine vcS_pure rfl rfl rfl (Value.pointer (some a19)) (fun w=>by kernel_rfl) ?_
       refine vcS_pure rfl rfl rfl (Value.pointer (some (a19.add 9))) (fun w=>by kernel_rfl) ?_
       obtain ⟨t102, hc47, h⟩ := h
       refine vcS_val rfl rfl rfl (Sl.v t102) (fun w' hx=>exec_load rfl (by kernel_rfl) (run_load1 (fun w=>by kernel_rfl) ((hc47).ext hx))) ?_
       refine vcS_pure rfl rfl rfl (Value.int .i64 (t102.len : Int)) (fun w=>by kernel_rfl) ?_
       refine vcS_pure rfl rfl rfl (Value.pointer (some a19)) (fun w=>by kernel_rfl) ?_
       refine vcS_pure rfl rfl rfl (Value.pointer (some a19)) (fun w=>by kernel_rfl) ?_
       refine vcS_pure rfl rfl rfl (Value.pointer (some (a19.add 8))) (fun w=>by kernel_rfl) ?_
       obtain ⟨t107, hc48, h⟩ := h
       refine vcS_val rfl rfl rfl (Sl.v t107) (fun w' hx=>exec_load rfl (by kernel_rfl) (run_load1 (fun w=>by kernel_rfl) ((hc48).ext hx))) ?_
       refine vcS_pure rfl rfl rfl (Value.int .i64 (t107.len : Int)) (fun w=>by kernel_rfl) ?_
       refine vcS_pure rfl rfl rfl (Value.bool ((t102.len : Int) == (t107.len : Int))) (fun w=>by kernel_rfl) ?_
       refine vcS_fin ?_
       refine Vc.cond ((t102.len : Int) == (t107.len : Int)) (by kernel_rfl) (fun hb=>?_) (fun hb=>?_)
       ·have h := h.1 (eq_of_beq hb)
        refine Vc.seq ?_
        refine Vc.region ?_
        refine vcL_purs 3 [(112, (Value.pointer (some (a19.add 8)))), (111, (Value.pointer (some a19))), (110, (Value.pointer (some a19)))] (by kernel_rfl) ?_
        obtain ⟨t113, hc49, h⟩ := h
        refine vcL_val rfl rfl (Sl.v t113) (exec_load rfl (by kernel_rfl) (run_load1 (fun w=>by kernel_rfl) ((hc49)))) ?_
        refine vcL_purs 2 [(115, (Value.int .i64 0)), (114, (Value.agg #[(Sl.v t113)]))] (by kernel_rfl) ?_
        refine vcL_eff rfl (opVC_store rfl rfl (a := a3) (by kernel_rfl) (v := (Value.agg #[(Sl.v t113)])) (by kernel_rfl) [(Sl.v t113)] (by kernel_rfl) (fun w=>by kernel_rfl) (by kernel_rfl) (stw.mono h fun vw50 h=>?_))
        refine vcL_purs 2 [(12, (Value.int .i64 0)), (11, (Value.int .i64 0))] (by kernel_rfl) ?_
        refine vcL_nil ?_
        refine Vc.ret ?_
        refine gotoX_ret ?_
        refine outs_ret ?_
        obtain ⟨zz2y, hc52, h⟩ := h
        refine done_mk (Value.tuple #[(Value.agg #[(Sl.v zz2y)]), (Value.int .i64 0), (Value.int .i64 0)]) (res3 (resC_cell (by kernel_rfl) (run_loadN (fun w=>by kernel_rfl) (fun w=>by kernel_rfl) hc52)) (resC_tmp (by kernel_rfl)) (resC_tmp (by kernel_rfl))) ?_
        exact ⟨zz2y, 0, 0, rfl, h⟩
       ·have h := h.2 (ne_of_beq_false hb)
        refine Vc.skip ?_
        refine Vc.seq ?_
        refine Vc.region ?_
        refine vcL_pure rfl rfl (Value.pointer (some a19)) (fun w=>by kernel_rfl) ?_
        refine vcL_eff rfl (opVC_call rfl (by kernel_rfl) (callS.mono h fun v54 vw53 h=>?_))
        obtain ⟨rfl, h⟩ := h
        refine vcL_nil ?_
        refine Vc.seq ?_
        refine Vc.goto ?_
        refine gotoX_hit ⟨by kernel_rfl, ?_⟩
        exact ⟨((some a19), 0), 78, ⟨rfl, by kernel_rfl, by kernel_rfl, by kernel_rfl⟩, h⟩
  ·obtain ⟨t21, rfl, hq⟩ := hq
   exact ⟨t21, rfl, hq⟩
 ·rintro ⟨vs, decisions⟩ vw56 j h
  have h := (hr 1 vs decisions vw56 h).1 rfl
  refine Vc.seq ?_
  refine Vc.skip ?_
  refine Vc.seq ?_
  refine Vc.seq ?_
  obtain ⟨vw58, hvw58⟩ : ∃ y, y = vw56.drew := ⟨_, rfl⟩
  have h := h vw58 hvw58
  refine Vc.draw (by kernel_rfl) (fun i=>!(memN [] i)) (.pur 0 (.pur 1 (.pur 2 (.val 3 (.pur 4 (.pur 5 (.pur 6 (.pur 7 (.val 8 (.pur 9 (.pur 10 .fin))))))))))) (by kernel_rfl) ?_
  rw [← hvw58]
  clear hvw58
  refine vcS_pure rfl rfl rfl (Value.pointer vs) (fun w=>by kernel_rfl) ?_
  obtain ⟨p, hp, h⟩ := h
  refine vcS_pure rfl rfl rfl (Value.pointer (some p)) (fun w=>by exact exec_nilCheck rfl (by kernel_rfl) (hp) w) ?_
  refine vcS_pure rfl rfl rfl (Value.pointer (some (p.add 7))) (fun w=>by kernel_rfl) ?_
  obtain ⟨t5859, hc60, h⟩ := h
  refine vcS_val rfl rfl rfl (Sl.v t5859) (fun w' hx=>exec_load rfl (by kernel_rfl) (run_load1 (fun w=>by kernel_rfl) ((hc60).ext hx))) ?_
  refine vcS_pure rfl rfl rfl (Value.int .i64 (t5859.len : Int)) (fun w=>by kernel_rfl) ?_
  refine vcS_pure rfl rfl rfl (Value.pointer vs) (fun w=>by kernel_rfl) ?_
  obtain ⟨p61, hp62, h⟩ := h
  refine vcS_pure rfl rfl rfl (Value.pointer (some p61)) (fun w=>by exact exec_nilCheck rfl (by kernel_rfl) (hp62) w) ?_
  refine vcS_pure rfl rfl rfl (Value.pointer (some (p61.add 11))) (fun w=>by kernel_rfl) ?_
  obtain ⟨t6363, hc64, h⟩ := h
  refine vcS_val rfl rfl rfl (Value.int .i64 t6363) (fun w' hx=>exec_load rfl (by kernel_rfl) (run_load1 (fun w=>by kernel_rfl) ((hc64).ext hx))) ?_
  refine vcS_pure rfl rfl rfl (Value.int .i64 (wrapI ((t5859.len : Int) - t6363))) (fun w=>by kernel_rfl) ?_
  refine vcS_pure rfl rfl rfl (Value.int .i64 (wrapI ((t5859.len : Int) - t6363))) (fun w=>by kernel_rfl) ?_
  refine vcS_fin ?_
  refine Vc.seq ?_
  refine Vc.region ?_
  refine vcL_purs 2 [(66, (Value.pointer vs)), (65, (Value.int .i64 (wrapI ((t5859.len : Int) - t6363))))] (by kernel_rfl) ?_
  obtain ⟨p65, hp66, h⟩ := h
  refine vcL_pure rfl rfl (Value.pointer (some p65)) (fun w=>by exact exec_nilCheck rfl (by kernel_rfl) (hp66) w) ?_
  refine vcL_pure rfl rfl (Value.pointer (some (p65.add 10))) (fun w=>by kernel_rfl) ?_
  obtain ⟨t6967, hc68, h⟩ := h
  refine vcL_val rfl rfl (Sl.v t6967) (exec_load rfl (by kernel_rfl) (run_load1 (fun w=>by kernel_rfl) ((hc68)))) ?_
  refine vcL_purs 2 [(71, (Value.bool (decide ((wrapI ((t5859.len : Int) - t6363)) < (t6967.len : Int))))), (70, (Value.int .i64 (t6967.len : Int)))] (by kernel_rfl) ?_
  refine vcL_nil ?_
  refine Vc.cond (decide ((wrapI ((t5859.len : Int) - t6363)) < (t6967.len : Int))) (by kernel_rfl) (fun hb=>?_) (fun hb=>?_)
  ·have h := h.1 (of_decide_eq_true hb)
   refine Vc.seq ?_
   obtain ⟨vw69, hvw69⟩ : ∃ y, y = vw58.drew := ⟨_, rfl⟩
   have h := h vw69 hvw69
   refine Vc.draw (by kernel_rfl) (fun i=>!(memN [15, 18] i)) (.pur 0 (.pur 1 (.pur 2 (.pur 3 (.val 4 (.pur 5 (.pur 6 (.pur 7 (.pur 8 (.val 9 (.pur 10 (.pur 11 (.val 12 (.eff 13 (.eff 14 (.eff 15 (.pur 16 (.pur 17 (.eff 18 .fin .stop))) .stop) .stop) .stop)))))))))))))) (by kernel_rfl) ?_
   rw [← hvw69]
   clear hvw69
   refine vcS_pure rfl rfl rfl (Value.pointer vs) (fun w=>by kernel_rfl) ?_
   refine vcS_pure rfl rfl rfl (Value.pointer vs) (fun w=>by kernel_rfl) ?_
   obtain ⟨p70, hp71, h⟩ := h
   refine vcS_pure rfl rfl rfl (Value.pointer (some p70)) (fun w=>by exact exec_nilCheck rfl (by kernel_rfl) (hp71) w) ?_
   refine vcS_pure rfl rfl rfl (Value.pointer (some (p70.add 7))) (fun w=>by kernel_rfl) ?_
   obtain ⟨t7672, hc73, h⟩ := h
   refine vcS_val rfl rfl rfl (Sl.v t7672) (fun w' hx=>exec_load rfl (by kernel_rfl) (run_load1 (fun w=>by kernel_rfl) ((hc73).ext hx))) ?_
   refine vcS_pure rfl rfl rfl (Value.pointer vs) (fun w=>by kernel_rfl) ?_
   refine vcS_pure rfl rfl rfl (Value.pointer vs) (fun w=>by kernel_rfl) ?_
   obtain ⟨p74, hp75, h⟩ := h
   refine vcS_pure rfl rfl rfl (Value.pointer (some p74)) (fun w=>by exact exec_nilCheck rfl (by kernel_rfl) (hp75) w) ?_
   refine vcS_pure rfl rfl rfl (Value.pointer (some (p74.add 10))) (fun w=>by kernel_rfl) ?_
   obtain ⟨t8176, hc77, h⟩ := h
   refine vcS_val rfl rfl rfl (Sl.v t8176) (fun w' hx=>exec_load rfl (by kernel_rfl) (run_load1 (fun w=>by kernel_rfl) ((hc77).ext hx))) ?_
   refine vcS_pure rfl rfl rfl (Value.int .i64 (wrapI ((t5859.len : Int) - t6363))) (fun w=>by kernel_rfl) ?_
   obtain ⟨ad78, hi79, h⟩ := h
   refine vcS_pure rfl rfl rfl (Value.pointer (some (ad78.add ((wrapI ((t5859.len : Int) - t6363)).toNat * 3)))) (fun w=>by exact exec_indexAt (s := t8176) (el := 61) rfl (by kernel_rfl) (by kernel_rfl) (by kernel_rfl) (fun w=>by kernel_rfl) (hi79).1 (hi79).2.1 (hi79).2.2 w) ?_
   obtain ⟨zz5a, zz59, zz5b, hc83, h⟩ := h
   refine vcS_val rfl rfl rfl (Value.agg #[(Value.string zz5a), (Value.int .i64 zz59), (Sl.v zz5b)]) (fun w' hx=>exec_load rfl (by kernel_rfl) (run_loadN (fun w=>by kernel_rfl) (fun w=>by kernel_rfl) ((hc83).ext hx))) ?_
   refine vcS_eff rfl rfl (opVC_call rfl (by kernel_rfl) (callS.mono h fun v90 vw84 h=>?_)) vcS_stop
   obtain ⟨hx91, h⟩ := h
   obtain ⟨t85_node85, t85_name86, t85_versions87, t85_none88, t85_at89, rfl, h⟩ := h
   refine ⟨fun _ => hx91, ?_⟩
   refine vcS_eff rfl rfl (opVC_new rfl (fun a=>Value.slice (some a) 1 1) (by kernel_rfl) (newS.mono h fun a92 vw93 hx h=>?_)) vcS_stop
   refine ⟨fun _ => hx, ?_⟩
   refine vcS_eff rfl rfl (opVC_sem rfl (c := Builtin.append_ #[90, 90] 90 #[(Sl.v t7672), (Sl.v (Sl.mk (some a92) 1 1))]) (by kernel_rfl) (appS.elim (ty := 90) h fun t8794 vw95 h=>?_)) vcS_stop
   refine ⟨fun hb=>absurd hb (by decide), ?_⟩
   obtain ⟨p96, hp97, h⟩ := h
   refine vcS_pure rfl rfl rfl (Value.pointer (some p96)) (fun w=>by exact exec_nilCheck rfl (by kernel_rfl) (hp97) w) ?_
   refine vcS_pure rfl rfl rfl (Value.pointer (some (p96.add 7))) (fun w=>by kernel_rfl) ?_
   refine vcS_eff rfl rfl (opVC_store rfl rfl (a := (p96.add 7)) (by kernel_rfl) (v := (Sl.v t8794)) (by kernel_rfl) [(Sl.v t8794)] (by kernel_rfl) (fun w=>by kernel_rfl) (by kernel_rfl) (stw.mono h fun vw98 h=>?_)) vcS_stop
   refine ⟨fun hb=>absurd hb (by decide), ?_⟩
   refine vcS_fin ?_
   refine Vc.goto ?_
   refine gotoX_hit ⟨by kernel_rfl, ?_⟩
   exact ⟨(vs, decisions), 190, ⟨rfl, by kernel_rfl, by kernel_rfl, by kernel_rfl⟩, h⟩
  ·have h := h.2 (of_decide_eq_false hb)
   refine Vc.skip ?_
   refine Vc.seq ?_
   refine Vc.seq ?_
   refine Vc.region ?_
   refine vcL_purs 2 [(91, (Value.pointer (some (a1.add 1)))), (90, (Value.pointer vs))] (by kernel_rfl) ?_
   obtain ⟨t9299, hc100, h⟩ := h
   refine vcL_val rfl rfl (Value.int .i64 t9299) (exec_load rfl (by kernel_rfl) (run_load1 (fun w=>by kernel_rfl) ((hc100)))) ?_
   refine vcL_eff rfl (opVC_call rfl (by kernel_rfl) (callS.mono h fun v103 vw101 h=>?_))
   obtain ⟨t93102, rfl, h⟩ := h
   refine vcL_nil ?_
   refine Vc.block ?_
   refine Vc.seq ?_
   refine Vc.region ?_
   refine vcL_purs 2 [(94, (Value.bool (t93102 == 33))), (95, (Value.bool (t93102 == 33)))] (by kernel_rfl) ?_
   refine vcL_nil ?_
   refine Vc.cond (t93102 == 33) (by kernel_rfl) (fun hb=>?_) (fun hb=>?_)
   ·have h := h.1 (eq_of_beq hb)
    refine Vc.goto ?_
    refine outOf_goto ?_
    refine gotoX_hit ⟨by kernel_rfl, ?_⟩
    exact ⟨(vs, decisions), 178, ⟨rfl, by kernel_rfl, by kernel_rfl, by kernel_rfl⟩, h⟩
   ·have h := h.2 (ne_of_beq_false hb)
    refine Vc.seq ?_
    refine Vc.region ?_
    refine vcL_purs 2 [(96, (Value.bool (t93102 == 32))), (97, (Value.bool (t93102 == 32)))] (by kernel_rfl) ?_
    refine vcL_nil ?_
    refine Vc.cond (t93102 == 32) (by kernel_rfl) (fun hb=>?_) (fun hb=>?_)
    ·have h := h.1 (eq_of_beq hb)
     refine Vc.seq ?_
     refine Vc.region ?_
     refine vcL_pure rfl rfl (Value.agg #[(Sl.v Sl.nil)]) (fun w=>by kernel_rfl) ?_
     refine vcL_eff rfl (opVC_store rfl rfl (a := a3) (by kernel_rfl) (v := (Value.agg #[(Sl.v Sl.nil)])) (by kernel_rfl) [(Sl.v Sl.nil)] (by kernel_rfl) (fun w=>by kernel_rfl) (by kernel_rfl) (stw.mono h fun vw105 h=>?_))
     refine vcL_purs 2 [(12, (Value.int .i64 32)), (11, (Value.int .i64 0))] (by kernel_rfl) ?_
     refine vcL_nil ?_
     refine Vc.ret ?_
     refine outOf_ret ?_
     refine gotoX_ret ?_
     refine outs_ret ?_
     obtain ⟨zz2s, hc107, h⟩ := h
     refine done_mk (Value.tuple #[(Value.agg #[(Sl.v zz2s)]), (Value.int .i64 0), (Value.int .i64 32)]) (res3 (resC_cell (by kernel_rfl) (run_loadN (fun w=>by kernel_rfl) (fun w=>by kernel_rfl) hc107)) (resC_tmp (by kernel_rfl)) (resC_tmp (by kernel_rfl))) ?_
     exact ⟨zz2s, 0, 32, rfl, h⟩
    ·have h := h.2 (ne_of_beq_false hb)
     refine Vc.skip ?_
     refine Vc.seq ?_
     refine Vc.seq ?_
     obtain ⟨vw108, hvw108⟩ : ∃ y, y = vw101.drew := ⟨_, rfl⟩
     have h := h vw108 hvw108
     refine Vc.draw (by kernel_rfl) (fun i=>!(memN [] i)) (.pur 0 (.pur 1 (.pur 2 (.val 3 (.pur 4 (.pur 5 (.pur 6 (.pur 7 (.val 8 (.pur 9 (.pur 10 .fin))))))))))) (by kernel_rfl) ?_
     rw [← hvw108]
     clear hvw108
     refine vcS_pure rfl rfl rfl (Value.pointer vs) (fun w=>by kernel_rfl) ?_
     obtain ⟨p109, hp110, h⟩ := h
     refine vcS_pure rfl rfl rfl (Value.pointer (some p109)) (fun w=>by exact exec_nilCheck rfl (by kernel_rfl) (hp110) w) ?_
     refine vcS_pure rfl rfl rfl (Value.pointer (some (p109.add 9))) (fun w=>by kernel_rfl) ?_
     obtain ⟨t102111, hc112, h⟩ := h
     refine vcS_val rfl rfl rfl (Sl.v t102111) (fun w' hx=>exec_load rfl (by kernel_rfl) (run_load1 (fun w=>by kernel_rfl) ((hc112).ext hx))) ?_
     refine vcS_pure rfl rfl rfl (Value.int .i64 (t102111.len : Int)) (fun w=>by kernel_rfl) ?_
     refine vcS_pure rfl rfl rfl (Value.pointer vs) (fun w=>by kernel_rfl) ?_
     obtain ⟨p113, hp114, h⟩ := h
     refine vcS_pure rfl rfl rfl (Value.pointer (some p113)) (fun w=>by exact exec_nilCheck rfl (by kernel_rfl) (hp114) w) ?_
     refine vcS_pure rfl rfl rfl (Value.pointer (some (p113.add 8))) (fun w=>by kernel_rfl) ?_
     obtain ⟨t107115, hc116, h⟩ := h
     refine vcS_val rfl rfl rfl (Sl.v t107115) (fun w' hx=>exec_load rfl (by kernel_rfl) (run_load1 (fun w=>by kernel_rfl) ((hc116).ext hx))) ?_
     refine vcS_pure rfl rfl rfl (Value.int .i64 (t107115.len : Int)) (fun w=>by kernel_rfl) ?_
     refine vcS_pure rfl rfl rfl (Value.bool ((t102111.len : Int) == (t107115.len : Int))) (fun w=>by kernel_rfl) ?_
     refine vcS_fin ?_
     refine Vc.cond ((t102111.len : Int) == (t107115.len : Int)) (by kernel_rfl) (fun hb=>?_) (fun hb=>?_)
     ·have h := h.1 (eq_of_beq hb)
      refine Vc.seq ?_
      refine Vc.region ?_
      refine vcL_pure rfl rfl (Value.pointer vs) (fun w=>by kernel_rfl) ?_
      obtain ⟨p117, hp118, h⟩ := h
      refine vcL_pure rfl rfl (Value.pointer (some p117)) (fun w=>by exact exec_nilCheck rfl (by kernel_rfl) (hp118) w) ?_
      refine vcL_pure rfl rfl (Value.pointer (some (p117.add 8))) (fun w=>by kernel_rfl) ?_
      obtain ⟨t113119, hc120, h⟩ := h
      refine vcL_val rfl rfl (Sl.v t113119) (exec_load rfl (by kernel_rfl) (run_load1 (fun w=>by kernel_rfl) ((hc120)))) ?_
      refine vcL_purs 2 [(115, (Value.int .i64 decisions)), (114, (Value.agg #[(Sl.v t113119)]))] (by kernel_rfl) ?_
      refine vcL_eff rfl (opVC_store rfl rfl (a := a3) (by kernel_rfl) (v := (Value.agg #[(Sl.v t113119)])) (by kernel_rfl) [(Sl.v t113119)] (by kernel_rfl) (fun w=>by kernel_rfl) (by kernel_rfl) (stw.mono h fun vw121 h=>?_))
      refine vcL_purs 2 [(12, (Value.int .i64 0)), (11, (Value.int .i64 decisions))] (by kernel_rfl) ?_
      refine vcL_nil ?_
      refine Vc.ret ?_
      refine gotoX_ret ?_
      refine outs_ret ?_
      obtain ⟨zz2t, hc123, h⟩ := h
      refine done_mk (Value.tuple #[(Value.agg #[(Sl.v zz2t)]), (Value.int .i64 decisions), (Value.int .i64 0)]) (res3 (resC_cell (by kernel_rfl) (run_loadN (fun w=>by kernel_rfl) (fun w=>by kernel_rfl) hc123)) (resC_tmp (by kernel_rfl)) (resC_tmp (by kernel_rfl))) ?_
      exact ⟨zz2t, decisions, 0, rfl, h⟩
     ·have h := h.2 (ne_of_beq_false hb)
      refine Vc.skip ?_
      refine Vc.seq ?_
      refine Vc.region ?_
      refine vcL_pure rfl rfl (Value.pointer vs) (fun w=>by kernel_rfl) ?_
      refine vcL_eff rfl (opVC_call rfl (by kernel_rfl) (callS.mono h fun v125 vw124 h=>?_))
      obtain ⟨rfl, h⟩ := h
      refine vcL_nil ?_
      refine Vc.seq ?_
      refine Vc.goto ?_
      refine gotoX_hit ⟨by kernel_rfl, ?_⟩
      exact ⟨(vs, decisions), 193, ⟨rfl, by kernel_rfl, by kernel_rfl, by kernel_rfl⟩, h⟩
 ·rintro ⟨vs, decisions⟩ vw56 j h
  have h := (hr 0 vs decisions vw56 h).2.1 rfl
  refine Vc.seq ?_
  refine Vc.skip ?_
  refine Vc.seq ?_
  refine Vc.seq ?_
  obtain ⟨vw127, hvw127⟩ : ∃ y, y = vw56.drew := ⟨_, rfl⟩
  have h := h vw127 hvw127
  refine Vc.draw (by kernel_rfl) (fun i=>!(memN [13] i)) (.pur 0 (.pur 1 (.pur 2 (.val 3 (.pur 4 (.pur 5 (.pur 6 (.val 7 (.pur 8 (.pur 9 (.pur 10 (.val 11 (.eff 12 (.eff 13 .fin .stop) .stop))))))))))))) (by kernel_rfl) ?_
  rw [← hvw127]
  clear hvw127
  refine vcS_pure rfl rfl rfl (Value.pointer vs) (fun w=>by kernel_rfl) ?_
  obtain ⟨p128, hp129, h⟩ := h
  refine vcS_pure rfl rfl rfl (Value.pointer (some p128)) (fun w=>by exact exec_nilCheck rfl (by kernel_rfl) (hp129) w) ?_
  refine vcS_pure rfl rfl rfl (Value.pointer (some (p128.add 7))) (fun w=>by kernel_rfl) ?_
  obtain ⟨t121, hc130, h⟩ := h
  refine vcS_val rfl rfl rfl (Sl.v t121) (fun w' hx=>exec_load rfl (by kernel_rfl) (run_load1 (fun w=>by kernel_rfl) ((hc130).ext hx))) ?_
  refine vcS_pure rfl rfl rfl (Value.pointer vs) (fun w=>by kernel_rfl) ?_
  obtain ⟨p131, hp132, h⟩ := h
  refine vcS_pure rfl rfl rfl (Value.pointer (some p131)) (fun w=>by exact exec_nilCheck rfl (by kernel_rfl) (hp132) w) ?_
  refine vcS_pure rfl rfl rfl (Value.pointer (some (p131.add 7))) (fun w=>by kernel_rfl) ?_
  obtain ⟨t125, hc133, h⟩ := h
  refine vcS_val rfl rfl rfl (Sl.v t125) (fun w' hx=>exec_load rfl (by kernel_rfl) (run_load1 (fun w=>by kernel_rfl) ((hc133).ext hx))) ?_
  refine vcS_pure rfl rfl rfl (Value.int .i64 (t125.len : Int)) (fun w=>by kernel_rfl) ?_
  refine vcS_pure rfl rfl rfl (Value.int .i64 (wrapI ((t125.len : Int) - 1))) (fun w=>by kernel_rfl) ?_
  obtain ⟨ad134, hi135, h⟩ := h
  refine vcS_pure rfl rfl rfl (Value.pointer (some (ad134.add ((wrapI ((t125.len : Int) - 1)).toNat * 5)))) (fun w=>by exact exec_indexAt (s := t121) (el := 94) rfl (by kernel_rfl) (by kernel_rfl) (by kernel_rfl) (fun w=>by kernel_rfl) (hi135).1 (hi135).2.1 (hi135).2.2 w) ?_
  obtain ⟨t129_node, t129_name, t129_versions, t129_none, t129_at, hc136, h⟩ := h
  refine vcS_val rfl rfl rfl (Value.agg #[(Value.int .i64 t129_node), (Value.string t129_name), (Sl.v t129_versions), (Value.bool t129_none), (Value.int .i64 t129_at)]) (fun w' hx=>exec_load rfl (by kernel_rfl) (run_loadN (fun w=>by kernel_rfl) (fun w=>by kernel_rfl) ((hc136).ext hx))) ?_
  refine vcS_eff rfl rfl (opVC_new rfl (fun a=>Value.pointer (some a)) (by kernel_rfl) (newS.mono h fun a137 vw138 hx h=>?_)) vcS_stop
  refine ⟨fun _ => hx, ?_⟩
  refine vcS_eff rfl rfl (opVC_store rfl rfl (a := a137) (by kernel_rfl) (v := (Value.agg #[(Value.int .i64 t129_node), (Value.string t129_name), (Sl.v t129_versions), (Value.bool t129_none), (Value.int .i64 t129_at)])) (by kernel_rfl) [(Value.int .i64 t129_node), (Value.string t129_name), (Sl.v t129_versions), (Value.bool t129_none), (Value.int .i64 t129_at)] (by kernel_rfl) (fun w=>by kernel_rfl) (by kernel_rfl) (stw.mono h fun vw139 h=>?_)) vcS_stop
  refine ⟨fun hb=>absurd hb (by decide), ?_⟩
  refine vcS_fin ?_
  refine Vc.seq ?_
  obtain ⟨vw140, hvw140⟩ : ∃ y, y = vw139.drew := ⟨_, rfl⟩
  have h := h vw140 hvw140
  refine Vc.draw (by kernel_rfl) (fun i=>!(memN [] i)) (.pur 0 (.val 1 (.val 2 (.eff 3 (.pur 4 .fin) .stop)))) (by kernel_rfl) ?_
  rw [← hvw140]
  clear hvw140
  refine vcS_pure rfl rfl rfl (Value.pointer (some (a137.add 4))) (fun w=>by kernel_rfl) ?_
  obtain ⟨t131, hc141, h⟩ := h
  refine vcS_val rfl rfl rfl (Value.int .i64 t131) (fun w' hx=>exec_load rfl (by kernel_rfl) (run_load1 (fun w=>by kernel_rfl) ((hc141).ext hx))) ?_
  obtain ⟨t132_node, t132_name, t132_versions, t132_none, t132_at, hc142, h⟩ := h
  refine vcS_val rfl rfl rfl (Value.agg #[(Value.int .i64 t132_node), (Value.string t132_name), (Sl.v t132_versions), (Value.bool t132_none), (Value.int .i64 t132_at)]) (fun w' hx=>exec_load rfl (by kernel_rfl) (run_loadN (fun w=>by kernel_rfl) (fun w=>by kernel_rfl) ((hc142).ext hx))) ?_
  refine vcS_eff rfl rfl (opVC_call rfl (by kernel_rfl) (callS.mono h fun v144 vw143 h=>?_)) vcS_stop
  obtain ⟨hx145, h⟩ := h
  obtain ⟨t133, rfl, h⟩ := h
  refine ⟨fun _ => hx145, ?_⟩
  refine vcS_pure rfl rfl rfl (Value.bool (decide (t131 < t133))) (fun w=>by kernel_rfl) ?_
  refine vcS_fin ?_
  refine Vc.cond (decide (t131 < t133)) (by kernel_rfl) (fun hb=>?_) (fun hb=>?_)
  ·have h := h.1 (of_decide_eq_true hb)
   refine Vc.seq ?_
   refine Vc.seq ?_
   refine Vc.region ?_
   refine vcL_purs 2 [(136, (Value.pointer (some a1))), (135, (Value.int .i64 decisions))] (by kernel_rfl) ?_
   obtain ⟨t137, hc146, h⟩ := h
   refine vcL_val rfl rfl (Value.int .i64 t137) (exec_load rfl (by kernel_rfl) (run_load1 (fun w=>by kernel_rfl) ((hc146)))) ?_
   refine vcL_pure rfl rfl (Value.bool (decisions == t137)) (fun w=>by kernel_rfl) ?_
   refine vcL_nil ?_
   refine Vc.cond (decisions == t137) (by kernel_rfl) (fun hb=>?_) (fun hb=>?_)
   ·have h := h.1 (eq_of_beq hb)
    refine Vc.seq ?_
    refine Vc.region ?_
    refine vcL_pure rfl rfl (Value.agg #[(Sl.v Sl.nil)]) (fun w=>by kernel_rfl) ?_
    refine vcL_eff rfl (opVC_store rfl rfl (a := a3) (by kernel_rfl) (v := (Value.agg #[(Sl.v Sl.nil)])) (by kernel_rfl) [(Sl.v Sl.nil)] (by kernel_rfl) (fun w=>by kernel_rfl) (by kernel_rfl) (stw.mono h fun vw147 h=>?_))
    refine vcL_purs 2 [(12, (Value.int .i64 31)), (11, (Value.int .i64 0))] (by kernel_rfl) ?_
    refine vcL_nil ?_
    refine Vc.ret ?_
    refine gotoX_ret ?_
    refine outs_ret ?_
    obtain ⟨zz2u, hc149, h⟩ := h
    refine done_mk (Value.tuple #[(Value.agg #[(Sl.v zz2u)]), (Value.int .i64 0), (Value.int .i64 31)]) (res3 (resC_cell (by kernel_rfl) (run_loadN (fun w=>by kernel_rfl) (fun w=>by kernel_rfl) hc149)) (resC_tmp (by kernel_rfl)) (resC_tmp (by kernel_rfl))) ?_
    exact ⟨zz2u, 0, 31, rfl, h⟩
   ·have h := h.2 (ne_of_beq_false hb)
    refine Vc.skip ?_
    refine Vc.seq ?_
    refine Vc.region ?_
    refine vcL_purs 3 [(14, (Value.int .i64 (wrapI (decisions + 1)))), (141, (Value.int .i64 (wrapI (decisions + 1)))), (140, (Value.int .i64 decisions))] (by kernel_rfl) ?_
    refine vcL_nil ?_
    refine Vc.goto ?_
    refine gotoX_hit ⟨by kernel_rfl, ?_⟩
    exact ⟨(vs, (wrapI (decisions + 1))), 179, ⟨rfl, by kernel_rfl, by kernel_rfl, by kernel_rfl⟩, h⟩
  ·have h := h.2 (of_decide_eq_false hb)
   refine Vc.skip ?_
   refine Vc.seq ?_
   obtain ⟨vw150, hvw150⟩ : ∃ y, y = vw143.drew := ⟨_, rfl⟩
   have h := h vw150 hvw150
   refine Vc.draw (by kernel_rfl) (fun i=>!(memN [14] i)) (.pur 0 (.pur 1 (.pur 2 (.pur 3 (.val 4 (.pur 5 (.pur 6 (.pur 7 (.val 8 (.pur 9 (.pur 10 (.pur 11 (.pur 12 (.pur 13 (.eff 14 .fin .stop))))))))))))))) (by kernel_rfl) ?_
   rw [← hvw150]
   clear hvw150
   refine vcS_pure rfl rfl rfl (Value.pointer vs) (fun w=>by kernel_rfl) ?_
   refine vcS_pure rfl rfl rfl (Value.pointer vs) (fun w=>by kernel_rfl) ?_
   obtain ⟨p151, hp152, h⟩ := h
   refine vcS_pure rfl rfl rfl (Value.pointer (some p151)) (fun w=>by exact exec_nilCheck rfl (by kernel_rfl) (hp152) w) ?_
   refine vcS_pure rfl rfl rfl (Value.pointer (some (p151.add 7))) (fun w=>by kernel_rfl) ?_
   obtain ⟨t146, hc153, h⟩ := h
   refine vcS_val rfl rfl rfl (Sl.v t146) (fun w' hx=>exec_load rfl (by kernel_rfl) (run_load1 (fun w=>by kernel_rfl) ((hc153).ext hx))) ?_
   refine vcS_pure rfl rfl rfl (Value.pointer vs) (fun w=>by kernel_rfl) ?_
   obtain ⟨p154, hp155, h⟩ := h
   refine vcS_pure rfl rfl rfl (Value.pointer (some p154)) (fun w=>by exact exec_nilCheck rfl (by kernel_rfl) (hp155) w) ?_
   refine vcS_pure rfl rfl rfl (Value.pointer (some (p154.add 7))) (fun w=>by kernel_rfl) ?_
   obtain ⟨t150, hc156, h⟩ := h
   refine vcS_val rfl rfl rfl (Sl.v t150) (fun w' hx=>exec_load rfl (by kernel_rfl) (run_load1 (fun w=>by kernel_rfl) ((hc156).ext hx))) ?_
   refine vcS_pure rfl rfl rfl (Value.int .i64 (t150.len : Int)) (fun w=>by kernel_rfl) ?_
   refine vcS_pure rfl rfl rfl (Value.int .i64 (wrapI ((t150.len : Int) - 1))) (fun w=>by kernel_rfl) ?_
   obtain ⟨hi157, h⟩ := h
   refine vcS_pure rfl rfl rfl (Sl.v (Sl.cut t146 0 ((wrapI ((t150.len : Int) - 1)).toNat) 5)) (fun w=>by exact exec_slSlH (s := t146) (el := 94) (k2 := .i64) rfl (by kernel_rfl) (by kernel_rfl) (by kernel_rfl) (fun w=>by kernel_rfl) (hi157) w) ?_
   obtain ⟨p158, hp159, h⟩ := h
   refine vcS_pure rfl rfl rfl (Value.pointer (some p158)) (fun w=>by exact exec_nilCheck rfl (by kernel_rfl) (hp159) w) ?_
   refine vcS_pure rfl rfl rfl (Value.pointer (some (p158.add 7))) (fun w=>by kernel_rfl) ?_
   refine vcS_eff rfl rfl (opVC_store rfl rfl (a := (p158.add 7)) (by kernel_rfl) (v := (Sl.v (Sl.cut t146 0 ((wrapI ((t150.len : Int) - 1)).toNat) 5))) (by kernel_rfl) [(Sl.v (Sl.cut t146 0 ((wrapI ((t150.len : Int) - 1)).toNat) 5))] (by kernel_rfl) (fun w=>by kernel_rfl) (by kernel_rfl) (stw.mono h fun vw160 h=>?_)) vcS_stop
   refine ⟨fun hb=>absurd hb (by decide), ?_⟩
   refine vcS_fin ?_
   refine Vc.seq ?_
   refine Vc.label ?_
   refine Vc.seq ?_
   refine Vc.seq ?_
   refine Vc.region ?_
   refine vcL_pure rfl rfl (Value.pointer vs) (fun w=>by kernel_rfl) ?_
   obtain ⟨p161, hp162, h⟩ := h
   refine vcL_pure rfl rfl (Value.pointer (some p161)) (fun w=>by exact exec_nilCheck rfl (by kernel_rfl) (hp162) w) ?_
   refine vcL_pure rfl rfl (Value.pointer (some (p161.add 7))) (fun w=>by kernel_rfl) ?_
   obtain ⟨t159, hc163, h⟩ := h
   refine vcL_val rfl rfl (Sl.v t159) (exec_load rfl (by kernel_rfl) (run_load1 (fun w=>by kernel_rfl) ((hc163)))) ?_
   refine vcL_purs 2 [(161, (Value.bool ((t159.len : Int) == 0))), (160, (Value.int .i64 (t159.len : Int)))] (by kernel_rfl) ?_
   refine vcL_nil ?_
   refine Vc.cond ((t159.len : Int) == 0) (by kernel_rfl) (fun hb=>?_) (fun hb=>?_)
   ·have h := h.1 (eq_of_beq hb)
    refine Vc.seq ?_
    refine Vc.region ?_
    refine vcL_pure rfl rfl (Value.agg #[(Sl.v Sl.nil)]) (fun w=>by kernel_rfl) ?_
    refine vcL_eff rfl (opVC_store rfl rfl (a := a3) (by kernel_rfl) (v := (Value.agg #[(Sl.v Sl.nil)])) (by kernel_rfl) [(Sl.v Sl.nil)] (by kernel_rfl) (fun w=>by kernel_rfl) (by kernel_rfl) (stw.mono h fun vw164 h=>?_))
    refine vcL_purs 2 [(12, (Value.int .i64 30)), (11, (Value.int .i64 0))] (by kernel_rfl) ?_
    refine vcL_nil ?_
    refine Vc.ret ?_
    refine gotoX_ret ?_
    refine outs_ret ?_
    obtain ⟨zz2v, hc166, h⟩ := h
    refine done_mk (Value.tuple #[(Value.agg #[(Sl.v zz2v)]), (Value.int .i64 0), (Value.int .i64 30)]) (res3 (resC_cell (by kernel_rfl) (run_loadN (fun w=>by kernel_rfl) (fun w=>by kernel_rfl) hc166)) (resC_tmp (by kernel_rfl)) (resC_tmp (by kernel_rfl))) ?_
    exact ⟨zz2v, 0, 30, rfl, h⟩
   ·have h := h.2 (ne_of_beq_false hb)
    refine Vc.skip ?_
    refine Vc.seq ?_
    refine Vc.region ?_
    refine vcL_pure rfl rfl (Value.pointer vs) (fun w=>by kernel_rfl) ?_
    refine vcL_eff rfl (opVC_call rfl (by kernel_rfl) (callS.mono h fun v168 vw167 h=>?_))
    obtain ⟨rfl, h⟩ := h
    refine vcL_nil ?_
    refine Vc.goto ?_
    refine gotoX_hit ⟨by kernel_rfl, ?_⟩
    exact ⟨(vs, decisions), 194, ⟨rfl, by kernel_rfl, by kernel_rfl, by kernel_rfl⟩, h⟩
 ·rintro ⟨vs, decisions⟩ vw56 j h
  have h := (hr 2 vs decisions vw56 h).2.2 rfl
  refine Vc.seq ?_
  refine Vc.skip ?_
  refine Vc.seq ?_
  refine Vc.seq ?_
  refine Vc.region ?_
  refine vcL_pure rfl rfl (Value.pointer vs) (fun w=>by kernel_rfl) ?_
  obtain ⟨p170, hp171, h⟩ := h
  refine vcL_pure rfl rfl (Value.pointer (some p170)) (fun w=>by exact exec_nilCheck rfl (by kernel_rfl) (hp171) w) ?_
  refine vcL_pure rfl rfl (Value.pointer (some (p170.add 7))) (fun w=>by kernel_rfl) ?_
  obtain ⟨t159172, hc173, h⟩ := h
  refine vcL_val rfl rfl (Sl.v t159172) (exec_load rfl (by kernel_rfl) (run_load1 (fun w=>by kernel_rfl) ((hc173)))) ?_
  refine vcL_purs 2 [(161, (Value.bool ((t159172.len : Int) == 0))), (160, (Value.int .i64 (t159172.len : Int)))] (by kernel_rfl) ?_
  refine vcL_nil ?_
  refine Vc.cond ((t159172.len : Int) == 0) (by kernel_rfl) (fun hb=>?_) (fun hb=>?_)
  ·have h := h.1 (eq_of_beq hb)
   refine Vc.seq ?_
   refine Vc.region ?_
   refine vcL_pure rfl rfl (Value.agg #[(Sl.v Sl.nil)]) (fun w=>by kernel_rfl) ?_
   refine vcL_eff rfl (opVC_store rfl rfl (a := a3) (by kernel_rfl) (v := (Value.agg #[(Sl.v Sl.nil)])) (by kernel_rfl) [(Sl.v Sl.nil)] (by kernel_rfl) (fun w=>by kernel_rfl) (by kernel_rfl) (stw.mono h fun vw174 h=>?_))
   refine vcL_purs 2 [(12, (Value.int .i64 30)), (11, (Value.int .i64 0))] (by kernel_rfl) ?_
   refine vcL_nil ?_
   refine Vc.ret ?_
   refine gotoX_ret ?_
   refine outs_ret ?_
   obtain ⟨zz2w, hc176, h⟩ := h
   refine done_mk (Value.tuple #[(Value.agg #[(Sl.v zz2w)]), (Value.int .i64 0), (Value.int .i64 30)]) (res3 (resC_cell (by kernel_rfl) (run_loadN (fun w=>by kernel_rfl) (fun w=>by kernel_rfl) hc176)) (resC_tmp (by kernel_rfl)) (resC_tmp (by kernel_rfl))) ?_
   exact ⟨zz2w, 0, 30, rfl, h⟩
  ·have h := h.2 (ne_of_beq_false hb)
   refine Vc.skip ?_
   refine Vc.seq ?_
   refine Vc.region ?_
   refine vcL_pure rfl rfl (Value.pointer vs) (fun w=>by kernel_rfl) ?_
   refine vcL_eff rfl (opVC_call rfl (by kernel_rfl) (callS.mono h fun v178 vw177 h=>?_))
   obtain ⟨rfl, h⟩ := h
   refine vcL_nil ?_
   refine Vc.goto ?_
   refine gotoX_hit ⟨by kernel_rfl, ?_⟩
   exact ⟨(vs, decisions), 162, ⟨rfl, by kernel_rfl, by kernel_rfl, by kernel_rfl⟩, h⟩
theorem resolve_Run.go {c : Option Addr} {a2 a3 a4 a5 : Sl} {dev : Bool} {pins : Sl} {h u a0 a1 : Int} {w : World} {k : Value → World → Prop} (a9 : resolve_Run c a2 a3 a4 a5 dev pins h u a0 a1 w fun a6 a7 a8 b0=>k (Value.tuple #[(.agg #[Sl.v a6]), .int .i64 a7, .int .i64 a8]) b0) : callS Tryz.prog 14 [.pointer c, (.agg #[Sl.v a2, Sl.v a3, Sl.v a4, Sl.v a5]), .bool dev, Sl.v pins, (.agg #[.int .i64 h, .int .i64 u, .int .i64 a0, .int .i64 a1])] w k := (resolve_Run.sound c a2 a3 a4 a5 dev pins h u a0 a1 w _ a9).mono (by rintro _ _ ⟨a6, a7, a8, rfl, a9⟩; exact a9)
def halyardref07_Same (e4 e5 : Sl) (f5 : World) (e7 : Bool → World → Prop) : Prop :=
 newS f5 [Sl.v e4] 38 fun f3 f4=>newS f4 [Sl.v e5] 38 fun e9 z=>∃ a0, ldc z f3 [Sl.v a0] ∧ ∃ a1, ldc z e9 [Sl.v a1] ∧ ((¬ (a0.len : Int) = (a1.len : Int) → e7 false z) ∧ (¬ (¬ (a0.len : Int) = (a1.len : Int)) → loop1 0 z fun d7 h f0=>∃ a2, ldc h f3 [Sl.v a2] ∧ ((d7 < (a2.len : Int) → ∃ a3, ldc h f3 [Sl.v a3] ∧ ∃ e8, (a3.a = some e8 ∧ (0 : Int) ≤ d7 ∧ d7 < (a3.len : Int)) ∧ ∃ a4 a5 a6 a7 a8 a9, ldc h (e8.add (d7.toNat * 6)) [.string a4, .int .i64 a5, .int .i64 a6, .int .i64 a7, Sl.v a8, Sl.v a9] ∧ newS h [(Value.string (ByteArray.mk #[])), .int .i64 0, .int .i64 0, .int .i64 0, (Sl.v Sl.nil), (Sl.v Sl.nil)] 64 fun f f1=>stw f1 f [.string a4, .int .i64 a5, .int .i64 a6, .int .i64 a7, Sl.v a8, Sl.v a9] fun u=>∃ b0, ldc u e9 [Sl.v b0] ∧ ∃ b1, (b0.a = some b1 ∧ (0 : Int) ≤ d7 ∧ d7 < (b0.len : Int)) ∧ ∃ b2 b3 b4 b5 b6 b7, ldc u (b1.add (d7.toNat * 6)) [.string b2, .int .i64 b3, .int .i64 b4, .int .i64 b5, Sl.v b6, Sl.v b7] ∧ newS u [(Value.string (ByteArray.mk #[])), .int .i64 0, .int .i64 0, .int .i64 0, (Sl.v Sl.nil), (Sl.v Sl.nil)] 64 fun e e6=>stw e6 e [.string b2, .int .i64 b3, .int .i64 b4, .int .i64 b5, Sl.v b6, Sl.v b7] fun a=>∃ e0, ldc a f [.string e0] ∧ ∃ e1, ldc a e [.string e1] ∧ bnd (!bEq e0 e1) fun (f2 : Bool)=>∃ b8 b9 c0, grd (!f2) (ldc a (f.add 1) [.int .i64 b8, .int .i64 b9, .int .i64 c0]) ∧ ∃ c1 c2 c3, grd (!f2) (ldc a (e.add 1) [.int .i64 c1, .int .i64 c2, .int .i64 c3]) ∧ bnd (f2 || (!((b8 == c1) && ((b9 == c2) && ((c0 == c3) && true))))) fun (c4 : Bool)=>∃ e2, grd (!c4) (ldc a (f.add 4) [Sl.v e2]) ∧ ∃ e3, grd (!c4) (ldc a (e.add 4) [Sl.v e3]) ∧ bnd (c4 || (!((e2.len : Int) == (e3.len : Int)))) fun (y : Bool)=>∃ c5, grd (!y) (ldc a (f.add 5) [Sl.v c5]) ∧ ∃ c6, grd (!y) (ldc a (e.add 5) [Sl.v c6]) ∧ (((y || (!((c5.len : Int) == (c6.len : Int)))) = true → e7 false a) ∧ ((y || (!((c5.len : Int) == (c6.len : Int)))) = false → loop1 0 a fun g v d8=>∃ c7, ldc v (f.add 4) [Sl.v c7] ∧ ((g < (c7.len : Int) → bnd v.drew fun (c : World)=>∃ c8, ldc c (f.add 4) [Sl.v c8] ∧ ∃ c9, (c8.a = some c9 ∧ (0 : Int) ≤ g ∧ g < (c8.len : Int)) ∧ ∃ i j k l, ldc c (c9.add (g.toNat * 4)) [.string i, .int .i64 j, .int .i64 k, .int .i64 l] ∧ ∃ d0, ldc c (e.add 4) [Sl.v d0] ∧ ∃ d1, (d0.a = some d1 ∧ (0 : Int) ≤ g ∧ g < (d0.len : Int)) ∧ ∃ m n o p, ldc c (d1.add (g.toNat * 4)) [.string m, .int .i64 n, .int .i64 o, .int .i64 p] ∧ (((!((bEq i m) && (((j == n) && ((k == o) && ((l == p) && true))) && true))) = true → e7 false c) ∧ ((!((bEq i m) && (((j == n) && ((k == o) && ((l == p) && true))) && true))) = false → d8 (wrapI (g + 1)) c))) ∧ (¬ (g < (c7.len : Int)) → loop1 0 v fun b x d9=>∃ d2, ldc x (f.add 5) [Sl.v d2] ∧ ((b < (d2.len : Int) → bnd x.drew fun (d : World)=>∃ d3, ldc d (f.add 5) [Sl.v d3] ∧ ∃ d4, (d3.a = some d4 ∧ (0 : Int) ≤ b ∧ b < (d3.len : Int)) ∧ ∃ q r, ldc d (d4.add (b.toNat * 2)) [.string q, .int .i64 r] ∧ ∃ d5, ldc d (e.add 5) [Sl.v d5] ∧ ∃ d6, (d5.a = some d6 ∧ (0 : Int) ≤ b ∧ b < (d5.len : Int)) ∧ ∃ s t, ldc d (d6.add (b.toNat * 2)) [.string s, .int .i64 t] ∧ (((!((bEq q s) && ((r == t) && true))) = true → e7 false d) ∧ ((!((bEq q s) && ((r == t) && true))) = false → d9 (wrapI (b + 1)) d))) ∧ (¬ (b < (d2.len : Int)) → f0 (wrapI (d7 + 1)) x))))))) ∧ (¬ (d7 < (a2.len : Int)) → e7 true h))))
theorem halyardref07_Same.go {h u : Sl} {w : World} {k : Value → World → Prop} (a2 : halyardref07_Same h u w fun a0 a1=>k (Value.bool a0) a1) : callS Tryz.prog 15 [(.agg #[Sl.v h]), (.agg #[Sl.v u])] w k := rgo (sk := (.s (.r []) (.s (.s (.r []) (.c (.s (.r []) .o) .o)) (.s (.s (.r []) (.b (.l [(5, 4)] (.s (.s (.r []) (.c .o .o)) (.s (.b (.s (.r []) (.s (.r []) (.s (.s (.r []) (.c (.s (.r []) .o) .o)) (.s (.s (.r []) (.b (.l [(8, 4)] (.s (.s (.r []) (.c .o .o)) (.s (.b (.s (.r []) (.c (.s (.r []) .o) .o))) (.r [])))))) (.s (.r []) (.b (.l [(9, 4)] (.s (.s (.r []) (.c .o .o)) (.s (.b (.s (.r []) (.c (.s (.r []) .o) .o))) (.r []))))))))))) (.r [])))))) (.s (.r []) .o))))) (args := [sv (.agg #[Sl.v h]), sv (.agg #[Sl.v u])]) Tryz.func15 (Eq.mpr (by kernel_rfl) a2)
def catalog_Catalog_Put (e5 : Option Addr) (d1 : ByteArray) (d2 d3 d4 : Int) (d5 d6 d7 : Sl) (e7 : World) (e3 : Int → World → Prop) : Prop :=
 newS e7 [.string d1, .int .i64 d2, .int .i64 d3, .int .i64 d4, Sl.v d5, Sl.v d6, Sl.v d7] 47 fun e4 d8=>∃ h i j k l m n, ldc d8 e4 [.string h, .int .i64 i, .int .i64 j, .int .i64 k, Sl.v l, Sl.v m, Sl.v n] ∧ callS Tryz.prog 45 [(.agg #[.string h, .int .i64 i, .int .i64 j, .int .i64 k, Sl.v l, Sl.v m, Sl.v n])] d8 fun e8 g=>∃ c6, e8 = .bool c6 ∧ (((!c6) = true → e3 24 g) ∧ ((!c6) = false → ∃ c0, ldc g e4 [.string c0] ∧ ∃ o p q, ldc g (e4.add 1) [.int .i64 o, .int .i64 p, .int .i64 q] ∧ newS g [(Value.string (ByteArray.mk #[])), .int .i64 0, .int .i64 0, .int .i64 0] 100 fun c7 d9=>stw d9 c7 [.string c0, .int .i64 o, .int .i64 p, .int .i64 q] fun e0=>bnd e0.drew fun (f : World)=>∃ e6, (e5 = some e6) ∧ ∃ c1, ldc f e6 [.map c1] ∧ ∃ a r s t, ldc f c7 [.string a, .int .i64 r, .int .i64 s, .int .i64 t] ∧ ∃ u v x y z a0 a1 e, (stabS Tryz.prog (Instr.lookup 102 (Value.map c1) (.agg #[.string a, .int .i64 r, .int .i64 s, .int .i64 t]) true) f (Value.tuple #[(.agg #[.string u, .int .i64 v, .int .i64 x, .int .i64 y, Sl.v z, Sl.v a0, Sl.v a1]), .bool e])) ∧ newS f [(Value.string (ByteArray.mk #[])), .int .i64 0, .int .i64 0, .int .i64 0, (Sl.v Sl.nil), (Sl.v Sl.nil), (Sl.v Sl.nil)] 47 fun e1 c8=>stw c8 e1 [.string u, .int .i64 v, .int .i64 x, .int .i64 y, Sl.v z, Sl.v a0, Sl.v a1] fun c=>((e = true → e3 11 c) ∧ (e = false → ∃ c2, (e5 = some c2) ∧ ∃ c3, ldc c c2 [.map c3] ∧ ∃ a2, (stabS Tryz.prog (Builtin.len_ #[102] 3 #[.map c3]) c (Value.int .i64 a2)) ∧ ((128 ≤ a2 → e3 26 c) ∧ (¬ (128 ≤ a2) → bnd c.drew fun (d : World)=>∃ c4, (e5 = some c4) ∧ ∃ c5, ldc d c4 [.map c5] ∧ ∃ b a3 a4 a5, ldc d c7 [.string b, .int .i64 a3, .int .i64 a4, .int .i64 a5] ∧ ∃ a6 a7 a8 a9 b0 b1 b2, ldc d e4 [.string a6, .int .i64 a7, .int .i64 a8, .int .i64 a9, Sl.v b0, Sl.v b1, Sl.v b2] ∧ callX Tryz.prog 46 [(.agg #[.string a6, .int .i64 a7, .int .i64 a8, .int .i64 a9, Sl.v b0, Sl.v b1, Sl.v b2])] d fun e2 c9=>∃ b3 b4 b5 b6 b7 b8 b9, e2 = (.agg #[.string b3, .int .i64 b4, .int .i64 b5, .int .i64 b6, Sl.v b7, Sl.v b8, Sl.v b9]) ∧ semU Tryz.prog (Instr.mapUpdate 102 (Value.map c5) (.agg #[.string b, .int .i64 a3, .int .i64 a4, .int .i64 a5]) (.agg #[.string b3, .int .i64 b4, .int .i64 b5, .int .i64 b6, Sl.v b7, Sl.v b8, Sl.v b9])) c9 fun d0=>e3 0 d0))))))
theorem catalog_Catalog_Put.go {c : Option Addr} {h : ByteArray} {u a0 a1 : Int} {a2 a3 a4 : Sl} {w : World} {k : Value → World → Prop} (a7 : catalog_Catalog_Put c h u a0 a1 a2 a3 a4 w fun a5 a6=>k (Value.int .i64 a5) a6) : callS Tryz.prog 16 [.pointer c, (.agg #[.string h, .int .i64 u, .int .i64 a0, .int .i64 a1, Sl.v a2, Sl.v a3, Sl.v a4])] w k := rgo (sk := (.s (.r []) (.s (.s (.r []) (.c (.s (.r []) .o) .o)) (.s (.r []) (.s (.s (.r []) (.s (.r []) (.c (.s (.r []) .o) .o))) (.s (.s (.r []) (.c (.s (.r []) .o) .o)) (.s (.r []) (.s (.r []) .o)))))))) (args := [sv (Value.pointer c), sv (.agg #[.string h, .int .i64 u, .int .i64 a0, .int .i64 a1, Sl.v a2, Sl.v a3, Sl.v a4])]) Tryz.func16 (Eq.mpr (by kernel_rfl) a7)
def halyardlaw11_names (g : Sl) (a : ByteArray) (i : World) (h : Bool → World → Prop) : Prop :=
 loop1 0 i fun d c f=>((d < (g.len : Int) → ∃ e, (g.a = some e ∧ (0 : Int) ≤ d ∧ d < (g.len : Int)) ∧ ∃ b, ldc c (e.add (d.toNat * 2)) [.string b] ∧ ((b = a → h true c) ∧ (¬ (b = a) → f (wrapI (d + 1)) c))) ∧ (¬ (d < (g.len : Int)) → h false c))
theorem halyardlaw11_names.go {l : Sl} {h : ByteArray} {w : World} {k : Value → World → Prop} (a1 : halyardlaw11_names l h w fun u a0=>k (Value.bool u) a0) : callS Tryz.prog 17 [Sl.v l, .string h] w k := rgo (sk := (.s (.r []) (.s (.s (.r []) (.b (.l [(5, 4)] (.s (.s (.r []) (.c .o .o)) (.s (.b (.s (.r []) (.c (.s (.r []) .o) .o))) (.r [])))))) (.s (.r []) .o)))) (args := [sv (Sl.v l), sv (Value.string h)]) Tryz.func17 (Eq.mpr (by kernel_rfl) a1)
def halyardref06_May (a9 b0 b1 b2 : Sl) (c5 : World) (c4 : Bool → World → Prop) : Prop :=
 newS c5 [Sl.v a9, Sl.v b0, Sl.v b1, Sl.v b2] 25 fun x b5=>∃ b3, ldc b5 x [Sl.v b3] ∧ callS Tryz.prog 47 [Sl.v b3] b5 fun c6 y=>∃ b4, c6 = .bool b4 ∧ bnd (!b4) fun (c1 : Bool)=>∃ z, grd (!c1) (ldc y (x.add 1) [Sl.v z]) ∧ gCall (!c1) (fun (k : Bool) (f : World)=>bnd (c1 || (!k)) fun (a8 : Bool)=>∃ a0, grd (!a8) (ldc f (x.add 2) [Sl.v a0]) ∧ gCall (!a8) (fun (l : Bool) (g : World)=>bnd (a8 || (!l)) fun (m : Bool)=>∃ a1, grd (!m) (ldc g (x.add 3) [Sl.v a1]) ∧ gCall (!m) (fun (h : Bool) (a : World)=>(((m || (!h)) = true → c4 false a) ∧ ((m || (!h)) = false → ∃ a2, ldc a x [Sl.v a2] ∧ ∃ a3, ldc a (x.add 1) [Sl.v a3] ∧ callS Tryz.prog 48 [Sl.v a2, Sl.v a3] a fun b6 e=>∃ i, b6 = .bool i ∧ ∃ a4, grd i (ldc e x [Sl.v a4]) ∧ ∃ a5, grd i (ldc e (x.add 2) [Sl.v a5]) ∧ gCall i (fun (n : Bool) (b : World)=>bnd (i && n) fun (o : Bool)=>∃ a6, grd o (ldc b (x.add 1) [Sl.v a6]) ∧ ∃ a7, grd o (ldc b (x.add 2) [Sl.v a7]) ∧ gCall o (fun (p : Bool) (c : World)=>bnd (o && p) fun (r : Bool)=>∃ s t u v, grd r (ldc c x [Sl.v s, Sl.v t, Sl.v u, Sl.v v]) ∧ gCall r (fun (q : ByteArray) (j : World)=>c4 (r && (decide ((q.size : Int) ≤ 4096))) j) (fun d=>callS Tryz.prog 49 [(.agg #[Sl.v s, Sl.v t, Sl.v u, Sl.v v])] c fun b7 j=>∃ q, b7 = .string q ∧ d q j) (fun d=>d (ByteArray.mk #[]) c)) (fun d=>callS Tryz.prog 48 [Sl.v a6, Sl.v a7] b fun b8 c=>∃ p, b8 = .bool p ∧ d p c) (fun d=>d false b)) (fun d=>callS Tryz.prog 48 [Sl.v a4, Sl.v a5] e fun b9 b=>∃ n, b9 = .bool n ∧ d n b) (fun d=>d false e)))) (fun d=>callS Tryz.prog 47 [Sl.v a1] g fun c0 a=>∃ h, c0 = .bool h ∧ d h a) (fun d=>d false g)) (fun d=>callS Tryz.prog 47 [Sl.v a0] f fun c2 g=>∃ l, c2 = .bool l ∧ d l g) (fun d=>d false f)) (fun d=>callS Tryz.prog 47 [Sl.v z] y fun c3 f=>∃ k, c3 = .bool k ∧ d k f) (fun d=>d false y)
theorem halyardref06_May.go {h u a0 a1 : Sl} {w : World} {k : Value → World → Prop} (a4 : halyardref06_May h u a0 a1 w fun a2 a3=>k (Value.bool a2) a3) : callS Tryz.prog 18 [(.agg #[Sl.v h, Sl.v u, Sl.v a0, Sl.v a1])] w k := rgo (sk := (.s (.r []) (.s (.s (.r []) (.c (.s (.r []) .o) .o)) (.s (.r [31]) (.s (.r []) .o))))) (args := [sv (.agg #[Sl.v h, Sl.v u, Sl.v a0, Sl.v a1])]) Tryz.func18 (Eq.mpr (by kernel_rfl) a4)
def catalog_New (d : World) (e : Option Addr → World → Prop) : Prop :=
 semS Tryz.prog (Instr.makeMap 102 none) d fun f c=>∃ a, f = .map a ∧ newS c [.map a] 104 fun g b=>e (some g) b
theorem catalog_New.go {w : World} {k : Value → World → Prop} (a0 : catalog_New w fun h u=>k (Value.pointer h) u) : callS Tryz.prog 19 [] w k := rgo (sk := (.s (.r []) (.s (.r []) .o))) (args := []) Tryz.func19 (Eq.mpr (by kernel_rfl) a0)
def catalog_Catalog_Candidates (t : Option Addr) (f : ByteArray) (u g : Sl) (v : World) (x : Sl → World → Prop) : Prop :=
 newS v [.string f] 9 fun s o=>newS o [Sl.v u] 59 fun p i=>newS i [Sl.v g] 26 fun q e=>∃ b, ldc e s [.string b] ∧ callS Tryz.prog 52 [.pointer t, .string b] e fun y j=>∃ c, y = (Sl.v c) ∧ callS Tryz.prog 51 [Sl.v c, (Value.func (.func 53) #[] #[(Value.pointer (some p))])] j fun r k=>∃ a, r = (Sl.v a) ∧ callS Tryz.prog 55 [Sl.v a, (Value.func (.func 56) #[] #[(Value.pointer (some q)), (Value.pointer (some s))])] k fun l m=>l = (Value.tuple #[]) ∧ callS Tryz.prog 59 [Sl.v a] m fun n h=>∃ d, n = (Sl.v d) ∧ x d h
theorem catalog_Catalog_Candidates.go {c : Option Addr} {h : ByteArray} {l pins : Sl} {w : World} {k : Value → World → Prop} (a1 : catalog_Catalog_Candidates c h l pins w fun u a0=>k (Sl.v u) a0) : callS Tryz.prog 21 [.pointer c, .string h, Sl.v l, Sl.v pins] w k := rgo (sk := (.s (.r []) (.s (.r []) (.s (.r []) (.s (.r []) .o))))) (args := [sv (Value.pointer c), sv (Value.string h), sv (Sl.v l), sv (Sl.v pins)]) Tryz.func21 (Eq.mpr (by kernel_rfl) a1)
def halyardref08_Catalog_Put (d5 : Option Addr) (e0 : ByteArray) (e1 e2 e3 : Int) (e4 e5 e6 : Sl) (g3 : World) (f8 : Int → World → Prop) : Prop :=
 newS g3 [.string e0, .int .i64 e1, .int .i64 e2, .int .i64 e3, Sl.v e4, Sl.v e5, Sl.v e6] 47 fun e8 e9=>∃ h i j k l m n, ldc e9 e8 [.string h, .int .i64 i, .int .i64 j, .int .i64 k, Sl.v l, Sl.v m, Sl.v n] ∧ callS Tryz.prog 88 [(.agg #[.string h, .int .i64 i, .int .i64 j, .int .i64 k, Sl.v l, Sl.v m, Sl.v n])] e9 fun g4 f=>∃ o, g4 = .bool o ∧ (((!o) = true → f8 24 f) ∧ ((!o) = false → ∃ c7, ldc f e8 [.string c7] ∧ ∃ p q r, ldc f (e8.add 1) [.int .i64 p, .int .i64 q, .int .i64 r] ∧ callS Tryz.prog 85 [.pointer d5, .string c7, (.agg #[.int .i64 p, .int .i64 q, .int .i64 r])] f fun f9 f0=>∃ s t u v x y z d, f9 = (Value.tuple #[(.agg #[.string s, .int .i64 t, .int .i64 u, .int .i64 v, Sl.v x, Sl.v y, Sl.v z]), .bool d]) ∧ newS f0 [(Value.string (ByteArray.mk #[])), .int .i64 0, .int .i64 0, .int .i64 0, (Sl.v Sl.nil), (Sl.v Sl.nil), (Sl.v Sl.nil)] 47 fun g0 f1=>stw f1 g0 [.string s, .int .i64 t, .int .i64 u, .int .i64 v, Sl.v x, Sl.v y, Sl.v z] fun g=>((d = true → f8 11 g) ∧ (d = false → ∃ g2, (d5 = some g2) ∧ ∃ a0, ldc g g2 [Sl.v a0] ∧ ((128 ≤ (a0.len : Int) → f8 26 g) ∧ (¬ (128 ≤ (a0.len : Int)) → loop1 0 g fun c4 d6 f2=>bnd d6.drew fun (a : World)=>∃ c8, (d5 = some c8) ∧ ∃ c9, ldc a c8 [Sl.v c9] ∧ bnd (decide (c4 < (c9.len : Int))) fun (d0 : Bool)=>∃ d1, grd d0 (d5 = some d1) ∧ ∃ a1, grd d0 (ldc a d1 [Sl.v a1]) ∧ ∃ e7, grd d0 (a1.a = some e7 ∧ (0 : Int) ≤ c4 ∧ c4 < (a1.len : Int)) ∧ ∃ a2 a3 a4 a5 a6 a7 a8, grd d0 (ldc a (e7.add (c4.toNat * 7)) [.string a2, .int .i64 a3, .int .i64 a4, .int .i64 a5, Sl.v a6, Sl.v a7, Sl.v a8]) ∧ ∃ a9 b0 b1 b2 b3 b4 b5, grd d0 (ldc a e8 [.string a9, .int .i64 b0, .int .i64 b1, .int .i64 b2, Sl.v b3, Sl.v b4, Sl.v b5]) ∧ gCall d0 (fun (c : Bool) (b : World)=>(((d0 && c) = true → f2 (wrapI (c4 + 1)) b) ∧ ((d0 && c) = false → ∃ d2, (d5 = some d2) ∧ ∃ b6, ldc b d2 [Sl.v b6] ∧ ((0 : Int) ≤ c4 ∧ c4 ≤ (b6.cap : Int)) ∧ appS Tryz.prog 22 22 Sl.nil (Sl.v (Sl.cut b6 0 c4.toNat 7)) b fun f3 c5=>∃ b7 b8 b9 c0 c1 c2 c3, ldc c5 e8 [.string b7, .int .i64 b8, .int .i64 b9, .int .i64 c0, Sl.v c1, Sl.v c2, Sl.v c3] ∧ newS c5 [.string b7, .int .i64 b8, .int .i64 b9, .int .i64 c0, Sl.v c1, Sl.v c2, Sl.v c3] 47 fun f4 d7=>appS Tryz.prog 22 22 f3 (Sl.v (Sl.mk (some f4) 1 1)) d7 fun f5 c6=>∃ d3, (d5 = some d3) ∧ ∃ e, ldc c6 d3 [Sl.v e] ∧ ((0 : Int) ≤ c4 ∧ c4 ≤ (e.len : Int)) ∧ appS Tryz.prog 22 22 f5 (Sl.v (Sl.cut e c4.toNat e.len 7)) c6 fun f6 d8=>∃ d4, (d5 = some d4) ∧ stw d8 d4 [Sl.v f6] fun d9=>f8 0 d9))) (fun g1=>callS Tryz.prog 89 [(.agg #[.string a2, .int .i64 a3, .int .i64 a4, .int .i64 a5, Sl.v a6, Sl.v a7, Sl.v a8]), (.agg #[.string a9, .int .i64 b0, .int .i64 b1, .int .i64 b2, Sl.v b3, Sl.v b4, Sl.v b5])] a fun f7 b=>∃ c, f7 = .bool c ∧ g1 c b) (fun g1=>g1 false a)))))))
theorem halyardref08_Catalog_Put.go {c : Option Addr} {h : ByteArray} {u a0 a1 : Int} {a2 a3 a4 : Sl} {w : World} {k : Value → World → Prop} (a7 : halyardref08_Catalog_Put c h u a0 a1 a2 a3 a4 w fun a5 a6=>k (Value.int .i64 a5) a6) : callS Tryz.prog 38 [.pointer c, (.agg #[.string h, .int .i64 u, .int .i64 a0, .int .i64 a1, Sl.v a2, Sl.v a3, Sl.v a4])] w k := rgo (sk := (.s (.r []) (.s (.s (.r []) (.c (.s (.r []) .o) .o)) (.s (.r []) (.s (.s (.r []) (.c (.s (.r []) .o) .o)) (.s (.s (.r []) (.c (.s (.r []) .o) .o)) (.s (.r []) (.s (.b (.l [(7, 4)] (.s (.s (.r []) (.c .o .o)) (.b (.r []))))) (.s (.r []) (.s (.r []) (.s (.r []) (.s (.r []) (.s (.r []) (.s (.r []) .o)))))))))))))) (args := [sv (Value.pointer c), sv (.agg #[.string h, .int .i64 u, .int .i64 a0, .int .i64 a1, Sl.v a2, Sl.v a3, Sl.v a4])]) Tryz.func38 (Eq.mpr (by kernel_rfl) a7)
def manifest_May (n o p q : Sl) (z : World) (a0 : Bool → World → Prop) : Prop :=
 newS z [Sl.v n, Sl.v o, Sl.v p, Sl.v q] 25 fun u k=>∃ r, ldc k u [Sl.v r] ∧ ∃ s, ldc k (u.add 1) [Sl.v s] ∧ ∃ t, ldc k (u.add 2) [Sl.v t] ∧ callS Tryz.prog 90 [Sl.v r, Sl.v s, Sl.v t] k fun a1 i=>∃ j, a1 = .bool j ∧ ∃ l, grd j (ldc i (u.add 3) [Sl.v l]) ∧ gCall j (fun (b : Bool) (a : World)=>bnd (j && b) fun (x : Bool)=>∃ d e f g, grd x (ldc a u [Sl.v d, Sl.v e, Sl.v f, Sl.v g]) ∧ gCall x (fun (c : ByteArray) (h : World)=>a0 (x && (decide ((c.size : Int) ≤ 4096))) h) (fun m=>callS Tryz.prog 91 [(.agg #[Sl.v d, Sl.v e, Sl.v f, Sl.v g])] a fun v h=>∃ c, v = .string c ∧ m c h) (fun m=>m (ByteArray.mk #[]) a)) (fun m=>callS Tryz.prog 90 [Sl.v l, (Sl.v Sl.nil), (Sl.v Sl.nil)] i fun y a=>∃ b, y = .bool b ∧ m b a) (fun m=>m false i)
theorem manifest_May.go {h u a0 a1 : Sl} {w : World} {k : Value → World → Prop} (a4 : manifest_May h u a0 a1 w fun a2 a3=>k (Value.bool a2) a3) : callS Tryz.prog 39 [(.agg #[Sl.v h, Sl.v u, Sl.v a0, Sl.v a1])] w k := rgo (sk := (.s (.r []) (.s (.r [10]) .o))) (args := [sv (.agg #[Sl.v h, Sl.v u, Sl.v a0, Sl.v a1])]) Tryz.func39 (Eq.mpr (by kernel_rfl) a4)
def resolve_search_begin (a : Option Addr) (g : World) (j : World → Prop) : Prop :=
 ∃ i, (a = some i) ∧ ∃ c, ldc g (i.add 9) [Sl.v c] ∧ ∃ d, (a = some d) ∧ ∃ b, ldc g (d.add 7) [Sl.v b] ∧ ∃ e, (a = some e) ∧ stw g (e.add 11) [(Value.int .i64 (b.len : Int))] fun h=>callS Tryz.prog 92 [.pointer a, (Value.int .i64 (c.len : Int))] h fun k f=>k = (Value.tuple #[]) ∧ j f
theorem resolve_search_begin.go {h : Option Addr} {w : World} {k : Value → World → Prop} (a0 : resolve_search_begin h w fun  u=>k (Value.tuple #[]) u) : callS Tryz.prog 40 [.pointer h] w k := rgo (sk := (.s (.r []) (.s (.r []) (.r [])))) (args := [sv (Value.pointer h)]) Tryz.func40 (Eq.mpr (by kernel_rfl) a0)
def resolve_search_choice (c5 : Option Addr) (e1 : ByteArray) (e2 : Int) (e3 : Sl) (g8 : World) (g5 : Int → ByteArray → Sl → Bool → Int → World → Prop) : Prop :=
 newS g8 [.string e1, .int .i64 e2, Sl.v e3] 61 fun f3 g4=>newS g4 [.int .i64 0, (Value.string (ByteArray.mk #[])), (Sl.v Sl.nil), .bool false, .int .i64 0] 94 fun c6 b9=>∃ g6, (c5 = some g6) ∧ ∃ p, ldc b9 (g6.add 9) [Sl.v p] ∧ ∃ c7, ldc b9 f3 [.string c7] ∧ newS b9 [.int .i64 0, (Value.string (ByteArray.mk #[])), (Sl.v Sl.nil), .bool false, .int .i64 0] 94 fun a0 f6=>stw f6 a0 [(Value.int .i64 (p.len : Int)), .string c7, (Sl.v Sl.nil), .bool false, .int .i64 0] fun f7=>join (fun (g7 : Addr) (f4 : Bool) (z : World)=>((f4 = true → join (fun (c8 : World)=>∃ e f a g q, ldc c8 a0 [.int .i64 e, .string f, Sl.v a, .bool g, .int .i64 q] ∧ stw c8 c6 [.int .i64 e, .string f, Sl.v a, .bool g, .int .i64 q] fun c0=>∃ r s d t a1, ldc c0 c6 [.int .i64 r, .string s, Sl.v d, .bool t, .int .i64 a1] ∧ g5 r s d t a1 c0) fun f8=>∃ c9, ldc z (f3.add 2) [Sl.v c9] ∧ ∃ a2 a3 a4, ldc z g7 [.int .i64 a2, .int .i64 a3, .int .i64 a4] ∧ callS Tryz.prog 54 [Sl.v c9, (.agg #[.int .i64 a2, .int .i64 a3, .int .i64 a4])] z fun f9 y=>∃ a5, f9 = .bool a5 ∧ ((a5 = true → ∃ a6 a7 a8, ldc y g7 [.int .i64 a6, .int .i64 a7, .int .i64 a8] ∧ newS y [.int .i64 a6, .int .i64 a7, .int .i64 a8] 45 fun g0 e4=>stw e4 (a0.add 2) [(Sl.v (Sl.mk (some g0) 1 1))] fun e5=>f8 e5) ∧ (a5 = false → f8 y))) ∧ (f4 = false → bnd z.drew fun (h : World)=>∃ d0, (c5 = some d0) ∧ ∃ d1, ldc h d0 [.pointer d1] ∧ ∃ d2, ldc h f3 [.string d2] ∧ ∃ d3, ldc h (f3.add 2) [Sl.v d3] ∧ ∃ d4, (c5 = some d4) ∧ ∃ d5, ldc h (d4.add 6) [Sl.v d5] ∧ callS Tryz.prog 21 [.pointer d1, .string d2, Sl.v d3, Sl.v d5] h fun g1 e6=>∃ d6, g1 = (Sl.v d6) ∧ stw e6 (a0.add 2) [Sl.v d6] fun c1=>∃ d7, ldc c1 (f3.add 1) [.int .i64 d7] ∧ stw c1 (a0.add 3) [(Value.bool (d7 == 2))] fun c2=>∃ i j b k u, ldc c2 a0 [.int .i64 i, .string j, Sl.v b, .bool k, .int .i64 u] ∧ stw c2 c6 [.int .i64 i, .string j, Sl.v b, .bool k, .int .i64 u] fun c3=>∃ l m c n v, ldc c3 c6 [.int .i64 l, .string m, Sl.v c, .bool n, .int .i64 v] ∧ g5 l m c n v c3))) fun c4=>bnd f7.drew fun (o : World)=>∃ d8, (c5 = some d8) ∧ ∃ a9, ldc o (d8.add 8) [Sl.v a9] ∧ ∃ f5, (a9.a = some f5 ∧ (0 : Int) ≤ (p.len : Int) ∧ (p.len : Int) < (a9.len : Int)) ∧ ∃ b0, ldc o ((f5.add ((p.len : Int).toNat * 6)).add 4) [Sl.v b0] ∧ ∃ b1, ldc o f3 [.string b1] ∧ ((callS Tryz.prog 93 [Sl.v b0, .string b1] o fun g2 e7=>∃ b2 b3 b4 b5, g2 = (Value.tuple #[(.agg #[.int .i64 b2, .int .i64 b3, .int .i64 b4]), .bool b5]) ∧ newS e7 [.int .i64 0, .int .i64 0, .int .i64 0] 45 fun d9 e8=>stw e8 d9 [.int .i64 b2, .int .i64 b3, .int .i64 b4] fun e9=>c4 d9 b5 e9) ∧ (newS o [.int .i64 0, .int .i64 0, .int .i64 0] 45 fun e0 f0=>callS Tryz.prog 93 [Sl.v b0, .string b1] f0 fun g3 f1=>∃ b6 b7 b8 x, g3 = (Value.tuple #[(.agg #[.int .i64 b6, .int .i64 b7, .int .i64 b8]), .bool x]) ∧ stw f1 e0 [.int .i64 b6, .int .i64 b7, .int .i64 b8] fun f2=>c4 e0 x f2))
theorem resolve_search_choice.go {a1 : Option Addr} {h : ByteArray} {u : Int} {a0 : Sl} {w : World} {k : Value → World → Prop} (a8 : resolve_search_choice a1 h u a0 w fun a2 a3 a4 a5 a6 a7=>k (.agg #[.int .i64 a2, .string a3, Sl.v a4, .bool a5, .int .i64 a6]) a7) : callS Tryz.prog 41 [.pointer a1, (.agg #[.string h, .int .i64 u, Sl.v a0])] w k := rgo (sk := (.s (.r []) (.s (.r []) (.s (.r []) (.s (.j [(7, 0), (8, 5)] (.r []) (.s (.r []) (.c (.j [] (.s (.r []) (.c (.r []) .o)) (.s (.r []) .o)) .o))) (.s (.r []) (.s (.r []) (.s (.r []) .o)))))))) (args := [sv (Value.pointer a1), sv (.agg #[.string h, .int .i64 u, Sl.v a0])]) Tryz.func41 (Eq.mpr (by kernel_rfl) a8)
def resolve_search_bind (d : Option Addr) (a8 : Int) (m5 : World) (m7 : Int → World → Prop) : Prop :=
 ∃ n0, (d = some n0) ∧ ∃ g, ldc m5 (n0.add 9) [Sl.v g] ∧ ∃ l0, (d = some l0) ∧ ∃ a9, ldc m5 (l0.add 8) [Sl.v a9] ∧ ∃ l1, (a9.a = some l1 ∧ (0 : Int) ≤ (g.len : Int) ∧ (g.len : Int) < (a9.len : Int)) ∧ ∃ h6, ldc m5 ((l1.add ((g.len : Int).toNat * 6)).add 4) [Sl.v h6] ∧ callS Tryz.prog 94 [Sl.v h6] m5 fun n1 m9=>∃ h7, n1 = (Sl.v h7) ∧ bnd m9.drew fun (b0 : World)=>∃ l2, (d = some l2) ∧ ∃ c, ldc b0 (l2.add 7) [Sl.v c] ∧ ∃ l3, (d = some l3) ∧ ∃ h, ldc b0 (l3.add 11) [.int .i64 h] ∧ ((0 : Int) ≤ h ∧ h ≤ (c.len : Int)) ∧ loop2 h7 0 b0 fun e n a1 l4=>((n < ((Sl.cut c h.toNat c.len 5).len : Int) → join (fun (g7 : Sl) (i9 : World)=>l4 g7 (wrapI (n + 1)) i9) fun l5=>∃ b1, ((Sl.cut c h.toNat c.len 5).a = some b1 ∧ (0 : Int) ≤ n ∧ n < ((Sl.cut c h.toNat c.len 5).len : Int)) ∧ ∃ i j b k v, ldc a1 (b1.add (n.toNat * 5)) [.int .i64 i, .string j, Sl.v b, .bool k, .int .i64 v] ∧ newS a1 [.int .i64 0, (Value.string (ByteArray.mk #[])), (Sl.v Sl.nil), .bool false, .int .i64 0] 94 fun j0 j1=>stw j1 j0 [.int .i64 i, .string j, Sl.v b, .bool k, .int .i64 v] fun g4=>∃ h8, ldc g4 (j0.add 1) [.string h8] ∧ callS Tryz.prog 93 [Sl.v e, .string h8] g4 fun l6 j2=>∃ b2 b3 b4 b5, l6 = (Value.tuple #[(.agg #[.int .i64 b2, .int .i64 b3, .int .i64 b4]), .bool b5]) ∧ newS j2 [.int .i64 0, .int .i64 0, .int .i64 0] 45 fun l7 j3=>stw j3 l7 [.int .i64 b2, .int .i64 b3, .int .i64 b4] fun r=>bnd (!b5) fun (m6 : Bool)=>∃ b6, grd m6 (ldc r (j0.add 4) [.int .i64 b6]) ∧ ∃ b7, grd m6 (ldc r (j0.add 2) [Sl.v b7]) ∧ (((m6 && (decide (b6 < (b7.len : Int)))) = true → bnd r.drew fun (l : World)=>∃ h9, ldc l (j0.add 1) [.string h9] ∧ ∃ b8, ldc l (j0.add 2) [Sl.v b8] ∧ ∃ a2, ldc l (j0.add 4) [.int .i64 a2] ∧ ∃ b9, (b8.a = some b9 ∧ (0 : Int) ≤ a2 ∧ a2 < (b8.len : Int)) ∧ ∃ c0 c1 c2, ldc l (b9.add (a2.toNat * 3)) [.int .i64 c0, .int .i64 c1, .int .i64 c2] ∧ newS l [.string h9, .int .i64 c0, .int .i64 c1, .int .i64 c2] 84 fun l8 j4=>appS Tryz.prog 26 26 e (Sl.v (Sl.mk (some l8) 1 1)) j4 fun l9 j5=>l5 l9 j5) ∧ ((m6 && (decide (b6 < (b7.len : Int)))) = false → l5 e r))) ∧ (¬ (n < ((Sl.cut c h.toNat c.len 5).len : Int)) → callS Tryz.prog 72 [Sl.v e, (Value.func (.func 95) #[] #[])] a1 fun m0 j6=>m0 = (Value.tuple #[]) ∧ loop2 Sl.nil 0 j6 fun a o s g8=>((o < (e.len : Int) → ∃ c3, (e.a = some c3 ∧ (0 : Int) ≤ o ∧ o < (e.len : Int)) ∧ ∃ c4 c5 c6 c7, ldc s (c3.add (o.toNat * 4)) [.string c4, .int .i64 c5, .int .i64 c6, .int .i64 c7] ∧ newS s [(Value.string (ByteArray.mk #[])), .int .i64 0, .int .i64 0, .int .i64 0] 84 fun a4 j7=>stw j7 a4 [.string c4, .int .i64 c5, .int .i64 c6, .int .i64 c7] fun j8=>bnd j8.drew fun (p : World)=>∃ i0, (d = some i0) ∧ ∃ i1, ldc p i0 [.pointer i1] ∧ ∃ i2, (d = some i2) ∧ ∃ c8 c9 d0 d1, ldc p (i2.add 1) [Sl.v c8, Sl.v c9, Sl.v d0, Sl.v d1] ∧ ∃ d2 d3 d4 d5, ldc p a4 [.string d2, .int .i64 d3, .int .i64 d4, .int .i64 d5] ∧ callS Tryz.prog 96 [.pointer i1, (.agg #[Sl.v c8, Sl.v c9, Sl.v d0, Sl.v d1]), Sl.v e, (.agg #[.string d2, .int .i64 d3, .int .i64 d4, .int .i64 d5])] p fun m1 t=>∃ i3 x, m1 = (Value.tuple #[Sl.v i3, .bool x]) ∧ (((!x) = true → m7 33 t) ∧ ((!x) = false → ∃ d6, ldc t a4 [.string d6] ∧ ∃ d7 d8 d9, ldc t (a4.add 1) [.int .i64 d7, .int .i64 d8, .int .i64 d9] ∧ newS t [.string d6, .int .i64 d7, .int .i64 d8, .int .i64 d9, Sl.v i3, (Sl.v Sl.nil)] 64 fun m2 j9=>appS Tryz.prog 36 36 a (Sl.v (Sl.mk (some m2) 1 1)) j9 fun k0 k1=>g8 k0 (wrapI (o + 1)) k1))) ∧ (¬ (o < (e.len : Int)) → ∃ i4, (d = some i4) ∧ ∃ e0, ldc s (i4.add 8) [Sl.v e0] ∧ loop2 Sl.nil 0 s fun a5 f u g9=>((f < (a.len : Int) → ∃ e1, (a.a = some e1 ∧ (0 : Int) ≤ f ∧ f < (a.len : Int)) ∧ ∃ e2 e3 e4 e5 e6 e7, ldc u (e1.add (f.toNat * 6)) [.string e2, .int .i64 e3, .int .i64 e4, .int .i64 e5, Sl.v e6, Sl.v e7] ∧ newS u [(Value.string (ByteArray.mk #[])), .int .i64 0, .int .i64 0, .int .i64 0, (Sl.v Sl.nil), (Sl.v Sl.nil)] 64 fun a6 k2=>stw k2 a6 [.string e2, .int .i64 e3, .int .i64 e4, .int .i64 e5, Sl.v e6, Sl.v e7] fun g5=>∃ i5, (d = some i5) ∧ ∃ e8, ldc g5 (i5.add 8) [Sl.v e8] ∧ callS Tryz.prog 66 [Sl.v e8, (Value.func (.func 97) #[] #[(Value.pointer (some a6))])] g5 fun m3 m=>∃ q, m3 = .int .i64 q ∧ join (fun (m8 : Int) (e9 : World)=>∃ f0, ldc e9 a6 [.string f0] ∧ newS e9 [.string f0, .int .i64 m8] 81 fun m4 k3=>appS Tryz.prog 62 62 a5 (Sl.v (Sl.mk (some m4) 1 1)) k3 fun k4 k5=>g9 k4 (wrapI (f + 1)) k5) fun g6=>((q < 0 → ∃ i6, (d = some i6) ∧ ∃ y, ldc m (i6.add 8) [Sl.v y] ∧ (((y.len : Int) = a8 → m7 32 m) ∧ (¬ ((y.len : Int) = a8) → ∃ i7, (d = some i7) ∧ ∃ f1, ldc m (i7.add 8) [Sl.v f1] ∧ bnd m.drew fun (z : World)=>∃ i8, (d = some i8) ∧ ∃ f2, ldc z (i8.add 8) [Sl.v f2] ∧ ∃ f3 f4 f5 f6 f7 f8, ldc z a6 [.string f3, .int .i64 f4, .int .i64 f5, .int .i64 f6, Sl.v f7, Sl.v f8] ∧ newS z [.string f3, .int .i64 f4, .int .i64 f5, .int .i64 f6, Sl.v f7, Sl.v f8] 64 fun k6 h0=>appS Tryz.prog 36 36 f2 (Sl.v (Sl.mk (some k6) 1 1)) h0 fun k7 h1=>∃ f9, (d = some f9) ∧ stw h1 (f9.add 8) [Sl.v k7] fun h2=>g6 (f1.len : Int) h2))) ∧ (¬ (q < 0) → g6 q m))) ∧ (¬ (f < (a.len : Int)) → ∃ g0, (d = some g0) ∧ ∃ a0, ldc u (g0.add 8) [Sl.v a0] ∧ ∃ a3, (a0.a = some a3 ∧ (0 : Int) ≤ (g.len : Int) ∧ (g.len : Int) < (a0.len : Int)) ∧ stw u ((a3.add ((g.len : Int).toNat * 6)).add 5) [Sl.v a5] fun a7=>∃ g1, (d = some g1) ∧ ∃ g2, ldc a7 (g1.add 9) [Sl.v g2] ∧ newS a7 [(Value.int .i64 (e0.len : Int))] 3 fun k8 h3=>appS Tryz.prog 68 68 g2 (Sl.v (Sl.mk (some k8) 1 1)) h3 fun k9 h4=>∃ g3, (d = some g3) ∧ stw h4 (g3.add 9) [Sl.v k9] fun h5=>m7 0 h5))))))
theorem resolve_search_bind.go {u : Option Addr} {h : Int} {w : World} {k : Value → World → Prop} (a2 : resolve_search_bind u h w fun a0 a1=>k (Value.int .i64 a0) a1) : callS Tryz.prog 42 [.pointer u, .int .i64 h] w k := rgo (sk := (.s (.r []) (.s (.r []) (.s (.r []) (.s (.s (.r []) (.b (.l [(6, 27), (45, 4)] (.s (.r []) (.s (.c .o .o) (.j [(6, 27)] (.b (.s (.r []) (.s (.r []) (.s (.r []) (.c (.r []) .o))))) (.r []))))))) (.s (.r []) (.s (.r []) (.s (.s (.r []) (.b (.l [(11, 37), (83, 4)] (.s (.r []) (.s (.c .o .o) (.s (.b (.s (.r []) (.s (.r []) (.s (.s (.r []) (.c (.s (.r []) .o) .o)) (.r []))))) (.r []))))))) (.s (.r []) (.s (.r []) (.s (.s (.r []) (.b (.l [(17, 63), (120, 4)] (.s (.r []) (.s (.c .o .o) (.s (.b (.s (.r []) (.s (.r []) (.j [(20, 4)] (.s (.r []) (.c (.s (.s (.r []) (.c (.s (.r []) .o) .o)) (.s (.r []) (.r []))) .o)) (.r []))))) (.r []))))))) (.s (.r []) (.s (.r []) (.s (.r []) .o)))))))))))))) (args := [sv (Value.pointer u), sv (Value.int .i64 h)]) Tryz.func42 (Eq.mpr (by kernel_rfl) a2)
def resolve_choice_many (b : Int) (c : ByteArray) (a : Sl) (d : Bool) (g : Int) (l : World) (k : Int → World → Prop) : Prop :=
 newS l [.int .i64 b, .string c, Sl.v a, .bool d, .int .i64 g] 94 fun j e=>∃ h, ldc e (j.add 3) [.bool h] ∧ ((h = true → ∃ i, ldc e (j.add 2) [Sl.v i] ∧ k (wrapI ((i.len : Int) + 1)) e) ∧ (h = false → ∃ f, ldc e (j.add 2) [Sl.v f] ∧ k (f.len : Int) e))
theorem resolve_choice_many.go {u : Int} {a0 : ByteArray} {h : Sl} {a1 : Bool} {a2 : Int} {w : World} {k : Value → World → Prop} (a5 : resolve_choice_many u a0 h a1 a2 w fun a3 a4=>k (Value.int .i64 a3) a4) : callS Tryz.prog 43 [(.agg #[.int .i64 u, .string a0, Sl.v h, .bool a1, .int .i64 a2])] w k := rgo (sk := (.s (.r []) (.s (.s (.r []) (.c (.s (.r []) .o) .o)) (.s (.r []) .o)))) (args := [sv (.agg #[.int .i64 u, .string a0, Sl.v h, .bool a1, .int .i64 a2])]) Tryz.func43 (Eq.mpr (by kernel_rfl) a5)
def resolve_search_back (b : Option Addr) (c9 : World) (d0 : World → Prop) : Prop :=
 bnd c9.drew fun (b4 : World)=>∃ c8, (b = some c8) ∧ ∃ b5, ldc b4 (c8.add 7) [Sl.v b5] ∧ ∃ c2, (b = some c2) ∧ ∃ f, ldc b4 (c2.add 7) [Sl.v f] ∧ ∃ c3, (b5.a = some c3 ∧ (0 : Int) ≤ (wrapI ((f.len : Int) - 1)) ∧ (wrapI ((f.len : Int) - 1)) < (b5.len : Int)) ∧ newS b4 [.pointer none] 151 fun b6 c5=>stw c5 b6 [(Value.pointer (some (c3.add ((wrapI ((f.len : Int) - 1)).toNat * 5))))] fun q=>∃ j, ldc q b6 [.pointer j] ∧ ∃ c4, (j = some c4) ∧ ∃ s, ldc q (c4.add 4) [.int .i64 s] ∧ ∃ t, (j = some t) ∧ stw q (t.add 4) [(Value.int .i64 (wrapI (s + 1)))] fun b7=>join (fun (e : World)=>∃ u, ldc e b6 [.pointer u] ∧ ∃ v, (u = some v) ∧ ∃ x, ldc e v [.int .i64 x] ∧ callS Tryz.prog 92 [.pointer b, .int .i64 x] e fun d1 r=>d1 = (Value.tuple #[]) ∧ ∃ y, (b = some y) ∧ ∃ z, ldc r (y.add 7) [Sl.v z] ∧ callS Tryz.prog 98 [Sl.v z, (Value.func (.func 99) #[] #[(Value.pointer (some b6))])] r fun c6 b8=>∃ a0, c6 = .int .i64 a0 ∧ ∃ a1, (b = some a1) ∧ stw b8 (a1.add 11) [.int .i64 a0] fun b9=>d0 b9) fun c7=>bnd b7.drew fun (c : World)=>∃ a2, ldc c b6 [.pointer a2] ∧ ∃ a3, (a2 = some a3) ∧ ∃ k, ldc c a3 [.int .i64 k] ∧ ∃ a4, (b = some a4) ∧ ∃ l, ldc c (a4.add 9) [Sl.v l] ∧ ((k < (l.len : Int) → bnd c.drew fun (a : World)=>∃ a5, (b = some a5) ∧ ∃ m, ldc a (a5.add 8) [Sl.v m] ∧ ∃ a6, (b = some a6) ∧ ∃ n, ldc a (a6.add 9) [Sl.v n] ∧ ∃ a7, ldc a b6 [.pointer a7] ∧ ∃ a8, (a7 = some a8) ∧ ∃ g, ldc a a8 [.int .i64 g] ∧ ∃ o, (n.a = some o ∧ (0 : Int) ≤ g ∧ g < (n.len : Int)) ∧ ∃ h, ldc a (o.add (g.toNat * 1)) [.int .i64 h] ∧ ((0 : Int) ≤ h ∧ h ≤ (m.cap : Int)) ∧ ∃ a9, (b = some a9) ∧ stw a (a9.add 8) [(Sl.v (Sl.cut m 0 h.toNat 6))] fun c0=>bnd c0.drew fun (d : World)=>∃ b0, (b = some b0) ∧ ∃ p, ldc d (b0.add 9) [Sl.v p] ∧ ∃ b1, ldc d b6 [.pointer b1] ∧ ∃ b2, (b1 = some b2) ∧ ∃ i, ldc d b2 [.int .i64 i] ∧ ((0 : Int) ≤ i ∧ i ≤ (p.cap : Int)) ∧ ∃ b3, (b = some b3) ∧ stw d (b3.add 9) [(Sl.v (Sl.cut p 0 i.toNat 1))] fun c1=>c7 c1) ∧ (¬ (k < (l.len : Int)) → c7 c))
theorem resolve_search_back.go {h : Option Addr} {w : World} {k : Value → World → Prop} (a0 : resolve_search_back h w fun  u=>k (Value.tuple #[]) u) : callS Tryz.prog 44 [.pointer h] w k := rgo (sk := (.s (.r []) (.s (.r []) (.j [] (.s (.r []) (.c (.s (.r []) (.r [])) .o)) (.s (.r []) (.r [])))))) (args := [sv (Value.pointer h)]) Tryz.func44 (Eq.mpr (by kernel_rfl) a0)
def pack_May (b2 : ByteArray) (b3 b4 b5 : Int) (b6 b7 b8 : Sl) (c9 : World) (d0 : Bool → World → Prop) : Prop :=
 newS c9 [.string b2, .int .i64 b3, .int .i64 b4, .int .i64 b5, Sl.v b6, Sl.v b7, Sl.v b8] 47 fun a5 c1=>∃ b9, ldc c1 a5 [.string b9] ∧ callS Tryz.prog 100 [.string b9] c1 fun d1 a2=>∃ a3, d1 = .bool a3 ∧ ∃ n o p, grd a3 (ldc a2 (a5.add 1) [.int .i64 n, .int .i64 o, .int .i64 p]) ∧ gCall a3 (fun (a4 : Bool) (f : World)=>bnd (a3 && a4) fun (c6 : Bool)=>∃ a6, grd c6 (ldc f (a5.add 4) [Sl.v a6]) ∧ gCall c6 (fun (i : Bool) (g : World)=>bnd (c6 && i) fun (q : Bool)=>∃ a7, grd q (ldc g (a5.add 5) [Sl.v a7]) ∧ gCall q (fun (j : Bool) (c : World)=>bnd (q && j) fun (r : Bool)=>∃ a8, grd r (ldc c (a5.add 6) [Sl.v a8]) ∧ gCall r (fun (k : Bool) (a : World)=>bnd (r && k) fun (e : Bool)=>∃ a9, grd e (ldc a (a5.add 4) [Sl.v a9]) ∧ ∃ b0, grd e (ldc a (a5.add 5) [Sl.v b0]) ∧ ∃ b1, grd e (ldc a (a5.add 6) [Sl.v b1]) ∧ gCall e (fun (c0 : Addr) (s : World)=>gCall e (fun (l : Bool) (d : World)=>bnd (e && l) fun (t : Bool)=>∃ u v x y z a0 a1, grd t (ldc d a5 [.string u, .int .i64 v, .int .i64 x, .int .i64 y, Sl.v z, Sl.v a0, Sl.v a1]) ∧ gCall t (fun (m : ByteArray) (h : World)=>d0 (t && (decide ((m.size : Int) ≤ 4096))) h) (fun b=>callS Tryz.prog 104 [(.agg #[.string u, .int .i64 v, .int .i64 x, .int .i64 y, Sl.v z, Sl.v a0, Sl.v a1])] d fun c2 h=>∃ m, c2 = .string m ∧ b m h) (fun b=>b (ByteArray.mk #[]) d)) (fun b=>callS Tryz.prog 103 [(Sl.v (Sl.mk (some c0) 3 3))] s fun c3 d=>∃ l, c3 = .bool l ∧ b l d) (fun b=>b false s)) (fun b=>newS a [Sl.v a9, Sl.v b0, Sl.v b1] 23 b) (fun b=>b ⟨0, 0, none⟩ a)) (fun b=>callS Tryz.prog 102 [Sl.v a8] c fun c4 a=>∃ k, c4 = .bool k ∧ b k a) (fun b=>b false c)) (fun b=>callS Tryz.prog 102 [Sl.v a7] g fun c5 c=>∃ j, c5 = .bool j ∧ b j c) (fun b=>b false g)) (fun b=>callS Tryz.prog 102 [Sl.v a6] f fun c7 g=>∃ i, c7 = .bool i ∧ b i g) (fun b=>b false f)) (fun b=>callS Tryz.prog 101 [(.agg #[.int .i64 n, .int .i64 o, .int .i64 p])] a2 fun c8 f=>∃ a4, c8 = .bool a4 ∧ b a4 f) (fun b=>b false a2)
theorem pack_May.go {h : ByteArray} {u a0 a1 : Int} {a2 a3 a4 : Sl} {w : World} {k : Value → World → Prop} (a7 : pack_May h u a0 a1 a2 a3 a4 w fun a5 a6=>k (Value.bool a5) a6) : callS Tryz.prog 45 [(.agg #[.string h, .int .i64 u, .int .i64 a0, .int .i64 a1, Sl.v a2, Sl.v a3, Sl.v a4])] w k := rgo (sk := (.s (.r []) (.s (.r [6]) .o))) (args := [sv (.agg #[.string h, .int .i64 u, .int .i64 a0, .int .i64 a1, Sl.v a2, Sl.v a3, Sl.v a4])]) Tryz.func45 (Eq.mpr (by kernel_rfl) a7)
def catalog_copied (y : ByteArray) (z a0 a1 : Int) (a2 a3 a4 : Sl) (b6 : World) (b7 : ByteArray → Int → Int → Int → Sl → Sl → Sl → World → Prop) : Prop :=
 newS b6 [.string y, .int .i64 z, .int .i64 a0, .int .i64 a1, Sl.v a2, Sl.v a3, Sl.v a4] 47 fun t b4=>newS b4 [(Value.string (ByteArray.mk #[])), .int .i64 0, .int .i64 0, .int .i64 0, (Sl.v Sl.nil), (Sl.v Sl.nil), (Sl.v Sl.nil)] 47 fun a9 b0=>bnd b0.drew fun (a : World)=>∃ a5, ldc a (t.add 4) [Sl.v a5] ∧ ∃ a6, ldc a (t.add 5) [Sl.v a6] ∧ ∃ l, ldc a (t.add 6) [Sl.v l] ∧ callX Tryz.prog 105 [Sl.v a5] a fun b8 b1=>∃ a7, b8 = (Sl.v a7) ∧ callX Tryz.prog 105 [Sl.v a6] b1 fun b5 b2=>∃ a8, b5 = (Sl.v a8) ∧ callS Tryz.prog 105 [Sl.v l] b2 fun b3 u=>∃ m, b3 = (Sl.v m) ∧ stw u (t.add 4) [Sl.v a7] fun v=>stw v (t.add 5) [Sl.v a8] fun x=>stw x (t.add 6) [Sl.v m] fun j=>∃ b c d e f g h, ldc j t [.string b, .int .i64 c, .int .i64 d, .int .i64 e, Sl.v f, Sl.v g, Sl.v h] ∧ stw j a9 [.string b, .int .i64 c, .int .i64 d, .int .i64 e, Sl.v f, Sl.v g, Sl.v h] fun k=>∃ n o p i q r s, ldc k a9 [.string n, .int .i64 o, .int .i64 p, .int .i64 i, Sl.v q, Sl.v r, Sl.v s] ∧ b7 n o p i q r s k
theorem catalog_copied.go {h : ByteArray} {u a0 a1 : Int} {a2 a3 a4 : Sl} {w : World} {k : Value → World → Prop} (b3 : catalog_copied h u a0 a1 a2 a3 a4 w fun a5 a6 a7 a8 a9 b0 b1 b2=>k (.agg #[.string a5, .int .i64 a6, .int .i64 a7, .int .i64 a8, Sl.v a9, Sl.v b0, Sl.v b1]) b2) : callS Tryz.prog 46 [(.agg #[.string h, .int .i64 u, .int .i64 a0, .int .i64 a1, Sl.v a2, Sl.v a3, Sl.v a4])] w k := rgo (sk := (.s (.r []) (.s (.r []) (.s (.r []) .o)))) (args := [sv (.agg #[.string h, .int .i64 u, .int .i64 a0, .int .i64 a1, Sl.v a2, Sl.v a3, Sl.v a4])]) Tryz.func46 (Eq.mpr (by kernel_rfl) b3)
def halyardref05_List (h : Sl) (a4 : World) (a3 : Bool → World → Prop) : Prop :=
 loop1 0 a4 fun e y z=>((e < (h.len : Int) → bnd y.drew fun (m : World)=>∃ x, (h.a = some x ∧ (0 : Int) ≤ e ∧ e < (h.len : Int)) ∧ ∃ n, ldc m (x.add (e.toNat * 2)) [.string n] ∧ callS Tryz.prog 106 [.string n] m fun a5 l=>∃ o, a5 = .bool o ∧ bnd (!o) fun (a1 : Bool)=>∃ p, grd (!a1) (h.a = some p ∧ (0 : Int) ≤ e ∧ e < (h.len : Int)) ∧ ∃ q, grd (!a1) (ldc l ((p.add (e.toNat * 2)).add 1) [Sl.v q]) ∧ gCall (!a1) (fun (g : Bool) (a : World)=>bnd (a1 || (!g)) fun (u : Bool)=>∃ i, grd (!u) (h.a = some i ∧ (0 : Int) ≤ e ∧ e < (h.len : Int)) ∧ ∃ r, grd (!u) (ldc a ((i.add (e.toNat * 2)).add 1) [Sl.v r]) ∧ bnd (u || ((r.len : Int) == 0)) fun (b : Bool)=>bnd (decide (0 < e)) fun (c : Bool)=>∃ j, grd ((!b) && c) (h.a = some j ∧ (0 : Int) ≤ (wrapI (e - 1)) ∧ (wrapI (e - 1)) < (h.len : Int)) ∧ ∃ s, grd ((!b) && c) (ldc a (j.add ((wrapI (e - 1)).toNat * 2)) [.string s]) ∧ ∃ k, grd ((!b) && c) (h.a = some k ∧ (0 : Int) ≤ e ∧ e < (h.len : Int)) ∧ ∃ t, grd ((!b) && c) (ldc a (k.add (e.toNat * 2)) [.string t]) ∧ gCall ((!b) && c) (fun (f : Bool) (d : World)=>(((b || (c && (!f))) = true → a3 false d) ∧ ((b || (c && (!f))) = false → z (wrapI (e + 1)) d))) (fun v=>callS Tryz.prog 108 [.string s, .string t] a fun a0 d=>∃ f, a0 = .bool f ∧ v f d) (fun v=>v false a)) (fun v=>callS Tryz.prog 107 [Sl.v q] l fun a2 a=>∃ g, a2 = .bool g ∧ v g a) (fun v=>v false l)) ∧ (¬ (e < (h.len : Int)) → a3 (decide ((h.len : Int) ≤ 16)) y))
theorem halyardref05_List.go {l : Sl} {w : World} {k : Value → World → Prop} (a0 : halyardref05_List l w fun h u=>k (Value.bool h) u) : callS Tryz.prog 47 [Sl.v l] w k := rgo (sk := (.s (.r []) (.s (.s (.r []) (.b (.l [(3, 4)] (.s (.s (.r []) (.c .o .o)) (.s (.b (.s (.r []) (.c (.s (.r []) .o) .o))) (.r [])))))) (.s (.r []) .o)))) (args := [sv (Sl.v l)]) Tryz.func47 (Eq.mpr (by kernel_rfl) a0)
def halyardref05_Apart (l m : Sl) (o : World) (n : Bool → World → Prop) : Prop :=
 loop1 0 o fun h j k=>((h < (l.len : Int) → loop1 0 j fun b f g=>((b < (m.len : Int) → bnd f.drew fun (a : World)=>∃ i, (l.a = some i ∧ (0 : Int) ≤ h ∧ h < (l.len : Int)) ∧ ∃ c, ldc a (i.add (h.toNat * 2)) [.string c] ∧ ∃ e, (m.a = some e ∧ (0 : Int) ≤ b ∧ b < (m.len : Int)) ∧ ∃ d, ldc a (e.add (b.toNat * 2)) [.string d] ∧ ((c = d → n false a) ∧ (¬ (c = d) → g (wrapI (b + 1)) a))) ∧ (¬ (b < (m.len : Int)) → k (wrapI (h + 1)) f))) ∧ (¬ (h < (l.len : Int)) → n true j))
theorem halyardref05_Apart.go {a b : Sl} {w : World} {k : Value → World → Prop} (a0 : halyardref05_Apart a b w fun h u=>k (Value.bool h) u) : callS Tryz.prog 48 [Sl.v a, Sl.v b] w k := rgo (sk := (.s (.r []) (.s (.s (.r []) (.b (.l [(5, 4)] (.s (.s (.r []) (.c .o .o)) (.s (.b (.s (.r []) (.b (.l [(6, 4)] (.s (.s (.r []) (.c .o .o)) (.s (.b (.s (.r []) (.c (.s (.r []) .o) .o))) (.r []))))))) (.r [])))))) (.s (.r []) .o)))) (args := [sv (Sl.v a), sv (Sl.v b)]) Tryz.func48 (Eq.mpr (by kernel_rfl) a0)
def halyardref06_text (j k l m : Sl) (x : World) (y : ByteArray → World → Prop) : Prop :=
 newS x [Sl.v j, Sl.v k, Sl.v l, Sl.v m] 25 fun t u=>bnd u.drew fun (a : World)=>∃ n, ldc a t [Sl.v n] ∧ ∃ o, ldc a (t.add 1) [Sl.v o] ∧ ∃ f, ldc a (t.add 2) [Sl.v f] ∧ ∃ g, ldc a (t.add 3) [Sl.v g] ∧ callX Tryz.prog 109 [(Value.string (ByteArray.mk #[110, 101, 101, 100, 115])), Sl.v n] a fun z p=>∃ c, z = .string c ∧ ((((ByteArray.mk #[112, 114, 111, 106, 101, 99, 116, 10]).size + c.size : Nat) : Int) ≤ maxI) ∧ callX Tryz.prog 109 [(Value.string (ByteArray.mk #[100, 101, 118])), Sl.v o] p fun v q=>∃ d, v = .string d ∧ (((((ByteArray.mk #[112, 114, 111, 106, 101, 99, 116, 10]) ++ c).size + d.size : Nat) : Int) ≤ maxI) ∧ callX Tryz.prog 109 [(Value.string (ByteArray.mk #[108, 105, 107, 101, 115])), Sl.v f] q fun r h=>∃ b, r = .string b ∧ ((((((ByteArray.mk #[112, 114, 111, 106, 101, 99, 116, 10]) ++ c) ++ d).size + b.size : Nat) : Int) ≤ maxI) ∧ callS Tryz.prog 109 [(Value.string (ByteArray.mk #[112, 105, 110, 115])), Sl.v g] h fun s i=>∃ e, s = .string e ∧ (((((((ByteArray.mk #[112, 114, 111, 106, 101, 99, 116, 10]) ++ c) ++ d) ++ b).size + e.size : Nat) : Int) ≤ maxI) ∧ y (((((ByteArray.mk #[112, 114, 111, 106, 101, 99, 116, 10]) ++ c) ++ d) ++ b) ++ e) i
theorem halyardref06_text.go {h u a0 a1 : Sl} {w : World} {k : Value → World → Prop} (a4 : halyardref06_text h u a0 a1 w fun a2 a3=>k (Value.string a2) a3) : callS Tryz.prog 49 [(.agg #[Sl.v h, Sl.v u, Sl.v a0, Sl.v a1])] w k := rgo (sk := (.s (.r []) (.s (.r []) .o))) (args := [sv (.agg #[Sl.v h, Sl.v u, Sl.v a0, Sl.v a1])]) Tryz.func49 (Eq.mpr (by kernel_rfl) a4)
def slices_DeleteFunc_apiVersionapiVersion (a : Sl) (r : Value) (a7 : World) (a5 : Sl → World → Prop) : Prop :=
 callS Tryz.prog 112 [Sl.v a, r] a7 fun a8 y=>∃ b, a8 = .int .i64 b ∧ ((b = (-1) → a5 a y) ∧ (¬ (b = (-1)) → loop2 b (wrapI (b + 1)) y fun o c p z=>((c < (a.len : Int) → join (fun (a2 : Int) (v : World)=>z a2 (wrapI (c + 1)) v) fun a0=>∃ x, (a.a = some x ∧ (0 : Int) ≤ c ∧ c < (a.len : Int)) ∧ ∃ d e f, ldc p (x.add (c.toNat * 3)) [.int .i64 d, .int .i64 e, .int .i64 f] ∧ newS p [.int .i64 0, .int .i64 0, .int .i64 0] 45 fun a3 a1=>stw a1 a3 [.int .i64 d, .int .i64 e, .int .i64 f] fun s=>∃ g h i, ldc s a3 [.int .i64 g, .int .i64 h, .int .i64 i] ∧ callV Tryz.prog r [(.agg #[.int .i64 g, .int .i64 h, .int .i64 i])] s fun a4 q=>∃ j, a4 = .bool j ∧ (((!j) = true → ∃ k l m, ldc q a3 [.int .i64 k, .int .i64 l, .int .i64 m] ∧ ∃ n, (a.a = some n ∧ (0 : Int) ≤ o ∧ o < (a.len : Int)) ∧ stw q (n.add (o.toNat * 3)) [.int .i64 k, .int .i64 l, .int .i64 m] fun t=>a0 (wrapI (o + 1)) t) ∧ ((!j) = false → a0 o q))) ∧ (¬ (c < (a.len : Int)) → ((0 : Int) ≤ o ∧ o ≤ (a.len : Int)) ∧ semS Tryz.prog (Builtin.clear_ #[57] 0 #[(Sl.v (Sl.cut a o.toNat a.len 3))]) p fun a6 u=>((0 : Int) ≤ o ∧ o ≤ (a.cap : Int)) ∧ a5 (Sl.cut a 0 o.toNat 3) u))))
set_option maxHeartbeats 8000000 in
theorem slices_DeleteFunc_apiVersionapiVersion.sound (vs : Sl) (del : Value) (w : World) (R : Sl → World → Prop) (h : slices_DeleteFunc_apiVersionapiVersion vs del w R) : callS Tryz.prog 51 [(Sl.v vs), del] w (fun v w'=>∃ (r0 : Sl), v = (Sl.v r0) ∧ R r0 w') := by
 unfold slices_DeleteFunc_apiVersionapiVersion at h
 refine calls_of_vc 42 rfl Tryz.func51 rfl (by kernel_rfl) (by simp) ?_
 refine Vc.seq ?_
 refine Vc.region ?_
 refine vcL_pure rfl rfl (Sl.v Sl.nil) (fun w=>by kernel_rfl) ?_
 refine vcL_nil ?_
 refine Vc.seq ?_
 refine Vc.region ?_
 refine vcL_purs 2 [(9, del), (8, (Sl.v vs))] (by kernel_rfl) ?_
 refine vcL_eff rfl (opVC_call rfl (by kernel_rfl) (callS.mono h fun v vw h=>?_))
 obtain ⟨t10, rfl, h⟩ := h
 refine vcL_pure rfl rfl (Value.int .i64 t10) (fun w=>by kernel_rfl) ?_
 refine vcL_nil ?_
 refine Vc.seq ?_
 refine Vc.seq ?_
 refine Vc.region ?_
 refine vcL_purs 2 [(12, (Value.bool (t10 == (-1)))), (11, (Value.int .i64 t10))] (by kernel_rfl) ?_
 refine vcL_nil ?_
 refine Vc.cond (t10 == (-1)) (by kernel_rfl) (fun hb=>?_) (fun hb=>?_)
 ·have h := h.1 (eq_of_beq hb)
  refine Vc.seq ?_
  refine Vc.region ?_
  refine vcL_purs 2 [(4, (Sl.v vs)), (13, (Sl.v vs))] (by kernel_rfl) ?_
  refine vcL_nil ?_
  refine Vc.ret ?_
  refine outs_ret ?_
  refine done_mk (Sl.v vs) (res1 (resC_tmp (by kernel_rfl))) ?_
  exact ⟨vs, rfl, h⟩
 ·have h := h.2 (ne_of_beq_false hb)
  refine Vc.skip ?_
  refine Vc.seq ?_
  refine Vc.seq ?_
  refine Vc.region ?_
  refine vcL_purs 3 [(6, (Value.int .i64 (wrapI (t10 + 1)))), (15, (Value.int .i64 (wrapI (t10 + 1)))), (14, (Value.int .i64 t10))] (by kernel_rfl) ?_
  refine vcL_nil ?_
  refine Vc.block ?_
  obtain ⟨vI, mu, h, hr⟩ := h
  refine Vc.loopJ (σ := Int × Int) [5, 6] [7, 16, 17, 18, 19, 20, 21, 22, 23, 24, 25, 26, 27, 28, 29, 30, 31, 32, 33, 34, 35] (fun s=>[(5, (Value.int .i64 s.1)), (6, (Value.int .i64 s.2))]) (fun s w=>vI s.1 s.2 w) (fun s w=>mu s.1 s.2 w) (t10, (wrapI (t10 + 1))) h (fun _ => rfl) (by kernel_rfl) ?_
  rintro ⟨i, vj⟩ vw1 j h
  have h := hr i vj vw1 h
  refine Vc.seq ?_
  refine Vc.seq ?_
  refine Vc.region ?_
  refine vcL_purs 4 [(19, (Value.bool (decide (vj < (vs.len : Int))))), (18, (Value.int .i64 (vs.len : Int))), (17, (Sl.v vs)), (16, (Value.int .i64 vj))] (by kernel_rfl) ?_
  refine vcL_nil ?_
  refine Vc.cond (decide (vj < (vs.len : Int))) (by kernel_rfl) (fun hb=>?_) (fun hb=>?_)
  ·have h := h.1 (of_decide_eq_true hb)
   refine Vc.skip ?_
   obtain ⟨vJ, hJ, h⟩ := join_elim h
   refine Vc.seqJ (σ := Int) [5] [7, 22, 23, 24, 25, 26, 27, 28, 29, 30, 31, 32, 33, 34, 35] (fun s=>[(5, (Value.int .i64 s))]) (fun s w=>vJ s w) (fun _ => rfl) ?_ ?_
   ·refine Vc.block ?_
    refine Vc.seq ?_
    refine Vc.region ?_
    refine vcL_purs 2 [(23, (Value.int .i64 vj)), (22, (Sl.v vs))] (by kernel_rfl) ?_
    obtain ⟨ad, hi, h⟩ := h
    refine vcL_pure rfl rfl (Value.pointer (some (ad.add (vj.toNat * 3)))) (fun w=>by exact exec_indexAt (s := vs) (el := 45) rfl (by kernel_rfl) (by kernel_rfl) (by kernel_rfl) (fun w=>by kernel_rfl) (hi).1 (hi).2.1 (hi).2.2 w) ?_
    obtain ⟨zz22, zz23, zz24, hc, h⟩ := h
    refine vcL_val rfl rfl (Value.agg #[(Value.int .i64 zz22), (Value.int .i64 zz23), (Value.int .i64 zz24)]) (exec_load rfl (by kernel_rfl) (run_loadN (fun w=>by kernel_rfl) (fun w=>by kernel_rfl) ((hc)))) ?_
    refine vcL_eff rfl (opVC_new rfl (fun a=>Value.pointer (some a)) (by kernel_rfl) (newS.mono h fun a vw4 hx h=>?_))
    refine vcL_eff rfl (opVC_store rfl rfl (a := a) (by kernel_rfl) (v := (Value.agg #[(Value.int .i64 zz22), (Value.int .i64 zz23), (Value.int .i64 zz24)])) (by kernel_rfl) [(Value.int .i64 zz22), (Value.int .i64 zz23), (Value.int .i64 zz24)] (by kernel_rfl) (fun w=>by kernel_rfl) (by kernel_rfl) (stw.mono h fun vw5 h=>?_))
    refine vcL_nil ?_
    refine Vc.seq ?_
    refine Vc.region ?_
    refine vcL_pure rfl rfl del (fun w=>by kernel_rfl) ?_
    obtain ⟨zz3r, zz3s, zz3t, hc6, h⟩ := h
    refine vcL_val rfl rfl (Value.agg #[(Value.int .i64 zz3r), (Value.int .i64 zz3s), (Value.int .i64 zz3t)]) (exec_load rfl (by kernel_rfl) (run_loadN (fun w=>by kernel_rfl) (fun w=>by kernel_rfl) ((hc6)))) ?_
    refine vcL_eff rfl (opVC_callV rfl rfl (fv := del) (by kernel_rfl) (args := [(Value.agg #[(Value.int .i64 zz3r), (Value.int .i64 zz3s), (Value.int .i64 zz3t)])]) (by kernel_rfl) (callV.mono h fun v8 vw7 h=>?_))
    obtain ⟨t28, rfl, h⟩ := h
    refine vcL_pure rfl rfl (Value.bool (!t28)) (fun w=>by kernel_rfl) ?_
    refine vcL_nil ?_
    refine Vc.cond (!t28) (by kernel_rfl) (fun hb=>?_) (fun hb=>?_)
    ·have h := h.1 (hb)
     refine Vc.seq ?_
     refine Vc.region ?_
     refine vcL_purs 2 [(31, (Value.int .i64 i)), (30, (Sl.v vs))] (by kernel_rfl) ?_
     obtain ⟨zz25, zz26, zz27, hc10, h⟩ := h
     refine vcL_val rfl rfl (Value.agg #[(Value.int .i64 zz25), (Value.int .i64 zz26), (Value.int .i64 zz27)]) (exec_load rfl (by kernel_rfl) (run_loadN (fun w=>by kernel_rfl) (fun w=>by kernel_rfl) ((hc10)))) ?_
     obtain ⟨ad11, hi12, h⟩ := h
     refine vcL_pure rfl rfl (Value.pointer (some (ad11.add (i.toNat * 3)))) (fun w=>by exact exec_indexAt (s := vs) (el := 45) rfl (by kernel_rfl) (by kernel_rfl) (by kernel_rfl) (fun w=>by kernel_rfl) (hi12).1 (hi12).2.1 (hi12).2.2 w) ?_
     refine vcL_eff rfl (opVC_store rfl rfl (a := (ad11.add (i.toNat * 3))) (by kernel_rfl) (v := (Value.agg #[(Value.int .i64 zz25), (Value.int .i64 zz26), (Value.int .i64 zz27)])) (by kernel_rfl) [(Value.int .i64 zz25), (Value.int .i64 zz26), (Value.int .i64 zz27)] (by kernel_rfl) (fun w=>by kernel_rfl) (by kernel_rfl) (stw.mono h fun vw13 h=>?_))
     refine vcL_nil ?_
     refine Vc.region ?_
     refine vcL_purs 3 [(5, (Value.int .i64 (wrapI (i + 1)))), (35, (Value.int .i64 (wrapI (i + 1)))), (34, (Value.int .i64 i))] (by kernel_rfl) ?_
     refine vcL_nil ?_
     exact ⟨(wrapI (i + 1)), 16, ⟨rfl, by kernel_rfl, by kernel_rfl, by kernel_rfl⟩, h⟩
    ·have h := h.2 (hb)
     refine Vc.skip ?_
     exact ⟨i, 9, ⟨rfl, by kernel_rfl, by kernel_rfl, by kernel_rfl⟩, h⟩
   ·intro i2 vw3 j h
    subst hJ
    refine Vc.region ?_
    refine vcL_purs 3 [(6, (Value.int .i64 (wrapI (vj + 1)))), (21, (Value.int .i64 (wrapI (vj + 1)))), (20, (Value.int .i64 vj))] (by kernel_rfl) ?_
    refine vcL_nil ?_
    exact ⟨(i2, (wrapI (vj + 1))), 46, ⟨rfl, by kernel_rfl, by kernel_rfl, by kernel_rfl⟩, h⟩
  ·have h := h.2 (of_decide_eq_false hb)
   refine Vc.exit ?_
   refine outOf_hit ?_
   refine Vc.seq ?_
   refine Vc.region ?_
   refine vcL_purs 2 [(37, (Value.int .i64 i)), (36, (Sl.v vs))] (by kernel_rfl) ?_
   obtain ⟨hi14, h⟩ := h
   refine vcL_pure rfl rfl (Sl.v (Sl.cut vs i.toNat vs.len 3)) (fun w=>by exact exec_slSlL (s := vs) (el := 45) (k1 := .i64) rfl (by kernel_rfl) (by kernel_rfl) (by kernel_rfl) (fun w=>by kernel_rfl) (hi14) w) ?_
   refine vcL_eff rfl (opVC_sem0 rfl (c := Builtin.clear_ #[57] 0 #[(Sl.v (Sl.cut vs i.toNat vs.len 3))]) (by kernel_rfl) (semS.mono h fun v16 vw15 h=>?_))
   refine vcL_nil ?_
   refine Vc.seq ?_
   refine Vc.region ?_
   refine vcL_purs 2 [(40, (Value.int .i64 i)), (39, (Sl.v vs))] (by kernel_rfl) ?_
   obtain ⟨hi17, h⟩ := h
   refine vcL_pure rfl rfl (Sl.v (Sl.cut vs 0 i.toNat 3)) (fun w=>by exact exec_slSlH (s := vs) (el := 45) (k2 := .i64) rfl (by kernel_rfl) (by kernel_rfl) (by kernel_rfl) (fun w=>by kernel_rfl) (hi17) w) ?_
   refine vcL_pure rfl rfl (Sl.v (Sl.cut vs 0 i.toNat 3)) (fun w=>by kernel_rfl) ?_
   refine vcL_nil ?_
   refine Vc.ret ?_
   refine outs_ret ?_
   refine done_mk (Sl.v (Sl.cut vs 0 i.toNat 3)) (res1 (resC_tmp (by kernel_rfl))) ?_
   exact ⟨(Sl.cut vs 0 i.toNat 3), rfl, h⟩
theorem slices_DeleteFunc_apiVersionapiVersion.go {u : Sl} {h : Value} {w : World} {k : Value → World → Prop} (a1 : slices_DeleteFunc_apiVersionapiVersion u h w fun a0 a2=>k (Sl.v a0) a2) : callS Tryz.prog 51 [Sl.v u, h] w k := (slices_DeleteFunc_apiVersionapiVersion.sound u h w _ a1).mono (by rintro _ _ ⟨a0, rfl, a1⟩; exact a1)
def catalog_Catalog_Versions (c5 : Option Addr) (e : ByteArray) (c3 : World) (c6 : Sl → World → Prop) : Prop :=
 ∃ c4, (c5 = some c4) ∧ ∃ n, ldc c3 c4 [.map n] ∧ semS Tryz.prog (Instr.range 102 (Value.map n)) c3 fun c7 c0=>∃ q, c7 = (Value.pointer (some q)) ∧ loop1 Sl.nil c0 fun d b5 p=>semS Tryz.prog (Instr.next (Value.pointer (some q)) false 0) b5 fun c1 m=>∃ r c s t u v x y z a0 a1 a2, c1 = nextV r (.agg #[.string c, .int .i64 s, .int .i64 t, .int .i64 u]) (.agg #[.string v, .int .i64 x, .int .i64 y, .int .i64 z, Sl.v a0, Sl.v a1, Sl.v a2]) ∧ ((r = true → ∃ a f g h a3 a4 a5 a6 a7 a8 a9, (stabS Tryz.prog (Instr.entry (Value.pointer (some q))) m (Value.tuple #[(.agg #[.string a, .int .i64 f, .int .i64 g, .int .i64 h]), (.agg #[.string a3, .int .i64 a4, .int .i64 a5, .int .i64 a6, Sl.v a7, Sl.v a8, Sl.v a9])])) ∧ newS m [(Value.string (ByteArray.mk #[])), .int .i64 0, .int .i64 0, .int .i64 0] 100 fun c2 b0=>stw b0 c2 [.string a, .int .i64 f, .int .i64 g, .int .i64 h] fun b=>∃ i, ldc b c2 [.string i] ∧ ((i = e → ∃ j k l, ldc b (c2.add 1) [.int .i64 j, .int .i64 k, .int .i64 l] ∧ newS b [.int .i64 j, .int .i64 k, .int .i64 l] 45 fun b6 b1=>appS Tryz.prog 57 57 d (Sl.v (Sl.mk (some b6) 1 1)) b1 fun b7 b2=>p b7 b2) ∧ (¬ (i = e) → p d b))) ∧ (r = false → callS Tryz.prog 113 [Sl.v d, (Value.func (.func 64) #[] #[])] m fun b8 b3=>b8 = (Value.tuple #[]) ∧ callS Tryz.prog 59 [Sl.v d] b3 fun b9 b4=>∃ o, b9 = (Sl.v o) ∧ c6 o b4))
set_option maxHeartbeats 8000000 in
theorem catalog_Catalog_Versions.sound (c : Option Addr) (name : ByteArray) (w : World) (R : Sl → World → Prop) (h : catalog_Catalog_Versions c name w R) : callS Tryz.prog 52 [(Value.pointer c), (Value.string name)] w (fun v w'=>∃ (r0 : Sl), v = (Sl.v r0) ∧ R r0 w') := by
 unfold catalog_Catalog_Versions at h
 refine calls_of_vc 29 rfl Tryz.func52 rfl (by kernel_rfl) (by simp) ?_
 refine Vc.seq ?_
 refine Vc.region ?_
 refine vcL_pure rfl rfl (Sl.v Sl.nil) (fun w=>by kernel_rfl) ?_
 refine vcL_nil ?_
 refine Vc.seq ?_
 refine Vc.region ?_
 refine vcL_pure rfl rfl (Sl.v Sl.nil) (fun w=>by kernel_rfl) ?_
 refine vcL_nil ?_
 refine Vc.seq ?_
 refine Vc.seq ?_
 refine Vc.region ?_
 refine vcL_pure rfl rfl (Value.pointer c) (fun w=>by kernel_rfl) ?_
 obtain ⟨p, hp, h⟩ := h
 refine vcL_pure rfl rfl (Value.pointer (some p)) (fun w=>by exact exec_nilCheck rfl (by kernel_rfl) (hp) w) ?_
 refine vcL_pure rfl rfl (Value.pointer (some p)) (fun w=>by kernel_rfl) ?_
 obtain ⟨t10, hc, h⟩ := h
 refine vcL_val rfl rfl (Value.map t10) (exec_load rfl (by kernel_rfl) (run_load1 (fun w=>by kernel_rfl) ((hc)))) ?_
 refine vcL_eff rfl (opVC_sem rfl (c := Instr.range 102 (Value.map t10)) (by kernel_rfl) (semS.mono h fun v vw h=>?_))
 obtain ⟨it, rfl, h⟩ := h
 refine vcL_nil ?_
 refine Vc.block ?_
 obtain ⟨vI, mu, h, hr⟩ := h
 refine Vc.loopJ (σ := Sl) [5] [6, 12, 13, 14, 15, 16, 17, 18, 19, 20, 21, 22, 23, 24] (fun s=>[(5, (Sl.v s))]) (fun s w=>vI s w) (fun s w=>mu s w) Sl.nil h (fun _ => rfl) (by kernel_rfl) ?_
 intro out vw1 j h
 have h := hr out vw1 h
 refine Vc.seq ?_
 refine Vc.region ?_
 refine vcL_eff rfl (opVC_sem rfl (c := Instr.next (Value.pointer (some it)) false 0) (by kernel_rfl) (semS.mono h fun v3 vw2 h=>?_))
 obtain ⟨ok, key_name, zz1l, zz1m, zz1n, zz2c, zz2f, zz2g, zz2h, zz2b, zz2e, zz2d, rfl, h⟩ := h
 refine vcL_pure rfl rfl (Value.bool ok) (fun w=>by cases ok <;> kernel_rfl) ?_
 refine vcL_nil ?_
 refine Vc.seq ?_
 refine Vc.cond ok (by kernel_rfl) (fun hb=>?_) (fun hb=>?_)
 ·have hq := h.1 (hb)
  clear h
  subst hb
  have h := hq
  clear hq
  refine Vc.skip ?_
  refine Vc.block ?_
  refine Vc.seq ?_
  refine Vc.region ?_
  obtain ⟨key_name4, zz1v, zz1w, zz1x, zz5z, zz62, zz63, zz64, zz5y, zz61, zz60, hl, h⟩ := h
  refine vcL_val rfl rfl (Value.tuple #[(Value.agg #[(Value.string key_name4), (Value.int .i64 zz1v), (Value.int .i64 zz1w), (Value.int .i64 zz1x)]), (Value.agg #[(Value.string zz5z), (Value.int .i64 zz62), (Value.int .i64 zz63), (Value.int .i64 zz64), (Sl.v zz5y), (Sl.v zz61), (Sl.v zz60)])]) (exec_sem (c := Instr.entry (Value.pointer (some it))) (by kernel_rfl) ((hl) _ (Ext.refl _))) ?_
  refine vcL_pure rfl rfl (Value.agg #[(Value.string key_name4), (Value.int .i64 zz1v), (Value.int .i64 zz1w), (Value.int .i64 zz1x)]) (fun w=>by kernel_rfl) ?_
  refine vcL_eff rfl (opVC_new rfl (fun a=>Value.pointer (some a)) (by kernel_rfl) (newS.mono h fun a vw15 hx h=>?_))
  refine vcL_eff rfl (opVC_store rfl rfl (a := a) (by kernel_rfl) (v := (Value.agg #[(Value.string key_name4), (Value.int .i64 zz1v), (Value.int .i64 zz1w), (Value.int .i64 zz1x)])) (by kernel_rfl) [(Value.string key_name4), (Value.int .i64 zz1v), (Value.int .i64 zz1w), (Value.int .i64 zz1x)] (by kernel_rfl) (fun w=>by kernel_rfl) (by kernel_rfl) (stw.mono h fun vw16 h=>?_))
  refine vcL_nil ?_
  refine Vc.seq ?_
  refine Vc.region ?_
  refine vcL_pure rfl rfl (Value.pointer (some a)) (fun w=>by kernel_rfl) ?_
  obtain ⟨t17, hc17, h⟩ := h
  refine vcL_val rfl rfl (Value.string t17) (exec_load rfl (by kernel_rfl) (run_load1 (fun w=>by kernel_rfl) ((hc17)))) ?_
  refine vcL_purs 2 [(19, (Value.bool (bEq t17 name))), (18, (Value.string name))] (by kernel_rfl) ?_
  refine vcL_nil ?_
  refine Vc.cond (bEq t17 name) (by kernel_rfl) (fun hb=>?_) (fun hb=>?_)
  ·have h := h.1 (bEq_iff.1 hb)
   refine Vc.region ?_
   refine vcL_purs 2 [(21, (Value.pointer (some (a.add 1)))), (20, (Sl.v out))] (by kernel_rfl) ?_
   obtain ⟨zz56, zz57, zz58, hc18, h⟩ := h
   refine vcL_val rfl rfl (Value.agg #[(Value.int .i64 zz56), (Value.int .i64 zz57), (Value.int .i64 zz58)]) (exec_load rfl (by kernel_rfl) (run_loadN (fun w=>by kernel_rfl) (fun w=>by kernel_rfl) ((hc18)))) ?_
   refine vcL_eff rfl (opVC_new rfl (fun a=>Value.slice (some a) 1 1) (by kernel_rfl) (newS.mono h fun a19 vw20 hx h=>?_))
   refine vcL_eff rfl (opVC_sem rfl (c := Builtin.append_ #[57, 57] 57 #[(Sl.v out), (Sl.v (Sl.mk (some a19) 1 1))]) (by kernel_rfl) (appS.elim (ty := 57) h fun t24 vw21 h=>?_))
   refine vcL_pure rfl rfl (Sl.v t24) (fun w=>by kernel_rfl) ?_
   refine vcL_nil ?_
   exact ⟨t24, 30, ⟨rfl, by kernel_rfl, by kernel_rfl, by kernel_rfl⟩, h⟩
  ·have h := h.2 (bEq_false.1 hb)
   refine Vc.skip ?_
   exact ⟨out, 24, ⟨rfl, by kernel_rfl, by kernel_rfl, by kernel_rfl⟩, h⟩
 ·have hq := h.2 (hb)
  clear h
  subst hb
  have h := hq
  clear hq
  refine Vc.exit ?_
  refine outOf_hit ?_
  refine Vc.seq ?_
  refine Vc.region ?_
  refine vcL_pure rfl rfl (Sl.v out) (fun w=>by kernel_rfl) ?_
  refine vcL_eff rfl (opVC_call rfl (by kernel_rfl) (callS.mono h fun v23 vw22 h=>?_))
  obtain ⟨rfl, h⟩ := h
  refine vcL_nil ?_
  refine Vc.seq ?_
  refine Vc.region ?_
  refine vcL_pure rfl rfl (Sl.v out) (fun w=>by kernel_rfl) ?_
  refine vcL_eff rfl (opVC_call rfl (by kernel_rfl) (callS.mono h fun v25 vw24 h=>?_))
  obtain ⟨t28, rfl, h⟩ := h
  refine vcL_pure rfl rfl (Sl.v t28) (fun w=>by kernel_rfl) ?_
  refine vcL_nil ?_
  refine Vc.ret ?_
  refine outs_ret ?_
  refine done_mk (Sl.v t28) (res1 (resC_tmp (by kernel_rfl))) ?_
  exact ⟨t28, rfl, h⟩
theorem catalog_Catalog_Versions.go {c : Option Addr} {h : ByteArray} {w : World} {k : Value → World → Prop} (a0 : catalog_Catalog_Versions c h w fun u a1=>k (Sl.v u) a1) : callS Tryz.prog 52 [.pointer c, .string h] w k := (catalog_Catalog_Versions.sound c h w _ a0).mono (by rintro _ _ ⟨u, rfl, a0⟩; exact a0)
def catalog_Catalog_Candidates_1 (e f g : Int) (k : Addr) (l : World) (m : Bool → World → Prop) : Prop :=
 newS l [.int .i64 e, .int .i64 f, .int .i64 g] 45 fun n d=>∃ h, ldc d k [Sl.v h] ∧ ∃ a b c, ldc d n [.int .i64 a, .int .i64 b, .int .i64 c] ∧ callS Tryz.prog 54 [Sl.v h, (.agg #[.int .i64 a, .int .i64 b, .int .i64 c])] d fun o j=>∃ i, o = .bool i ∧ m (!i) j
theorem catalog_Catalog_Candidates_1.go {h u a0 : Int} {a1 : Addr} {w : World} {k : Value → World → Prop} (a4 : catalog_Catalog_Candidates_1 h u a0 a1 w fun a2 a3=>k (Value.bool a2) a3) : callS Tryz.prog 53 [(.agg #[.int .i64 h, .int .i64 u, .int .i64 a0]), (Value.pointer (some a1))] w k := rgo (sk := (.s (.r []) (.s (.r []) .o))) (args := [sv (.agg #[.int .i64 h, .int .i64 u, .int .i64 a0]), sa a1]) Tryz.func53 (Eq.mpr (by kernel_rfl) a4)
def span_In (q : Sl) (k l m : Int) (t : World) (u : Bool → World → Prop) : Prop :=
 newS t [.int .i64 k, .int .i64 l, .int .i64 m] 45 fun s n=>callS Tryz.prog 114 [Sl.v q] n fun v g=>∃ h, v = .bool h ∧ ∃ c d e, grd h (ldc g s [.int .i64 c, .int .i64 d, .int .i64 e]) ∧ gCall h (fun (i : Bool) (a : World)=>bnd (h && i) fun (r : Bool)=>gCall r (fun (b : Bool) (f : World)=>u (r && b) f) (fun j=>callS Tryz.prog 115 [Sl.v q, (Value.func (.func 116) #[] #[(Value.pointer (some s))])] a fun o f=>∃ b, o = .bool b ∧ j b f) (fun j=>j false a)) (fun j=>callS Tryz.prog 101 [(.agg #[.int .i64 c, .int .i64 d, .int .i64 e])] g fun p a=>∃ i, p = .bool i ∧ j i a) (fun j=>j false g)
theorem span_In.go {l : Sl} {h u a0 : Int} {w : World} {k : Value → World → Prop} (a3 : span_In l h u a0 w fun a1 a2=>k (Value.bool a1) a2) : callS Tryz.prog 54 [Sl.v l, (.agg #[.int .i64 h, .int .i64 u, .int .i64 a0])] w k := rgo (sk := (.s (.r []) (.s (.r [7]) .o))) (args := [sv (Sl.v l), sv (.agg #[.int .i64 h, .int .i64 u, .int .i64 a0])]) Tryz.func54 (Eq.mpr (by kernel_rfl) a3)
def slices_SortStableFunc_apiVersionapiVersion (c : Sl) (a : Value) (d : World) (e : World → Prop) : Prop :=
 callS Tryz.prog 117 [Sl.v c, (Value.int .i64 (c.len : Int)), a] d fun f b=>f = (Value.tuple #[]) ∧ e b
theorem slices_SortStableFunc_apiVersionapiVersion.go {x : Sl} {h : Value} {w : World} {k : Value → World → Prop} (a0 : slices_SortStableFunc_apiVersionapiVersion x h w fun  u=>k (Value.tuple #[]) u) : callS Tryz.prog 55 [Sl.v x, h] w k := rgo (sk := (.r [])) (args := [sv (Sl.v x), sv h]) Tryz.func55 (Eq.mpr (by kernel_rfl) a0)
def catalog_Catalog_Candidates_2 (q r s t u v : Int) (x y : Addr) (a8 : World) (a9 : Int → World → Prop) : Prop :=
 newS a8 [.int .i64 q, .int .i64 r, .int .i64 s] 45 fun b0 a6=>newS a6 [.int .i64 t, .int .i64 u, .int .i64 v] 45 fun a7 a1=>bnd a1.drew fun (a : World)=>∃ z, ldc a x [Sl.v z] ∧ ∃ a0, ldc a y [.string a0] ∧ ∃ b c d, ldc a a7 [.int .i64 b, .int .i64 c, .int .i64 d] ∧ ∃ h, ldc a x [Sl.v h] ∧ ∃ i, ldc a y [.string i] ∧ ∃ e f g, ldc a b0 [.int .i64 e, .int .i64 f, .int .i64 g] ∧ callX Tryz.prog 58 [Sl.v z, (.agg #[.string a0, .int .i64 b, .int .i64 c, .int .i64 d])] a fun b1 a2=>∃ j, b1 = .bool j ∧ callX Tryz.prog 57 [.bool j] a2 fun a3 n=>∃ k, a3 = .int .i64 k ∧ callS Tryz.prog 58 [Sl.v h, (.agg #[.string i, .int .i64 e, .int .i64 f, .int .i64 g])] n fun a4 o=>∃ l, a4 = .bool l ∧ callS Tryz.prog 57 [.bool l] o fun a5 p=>∃ m, a5 = .int .i64 m ∧ a9 (wrapI (k - m)) p
theorem catalog_Catalog_Candidates_2.go {h u a0 a1 a2 a3 : Int} {a4 a5 : Addr} {w : World} {k : Value → World → Prop} (a8 : catalog_Catalog_Candidates_2 h u a0 a1 a2 a3 a4 a5 w fun a6 a7=>k (Value.int .i64 a6) a7) : callS Tryz.prog 56 [(.agg #[.int .i64 h, .int .i64 u, .int .i64 a0]), (.agg #[.int .i64 a1, .int .i64 a2, .int .i64 a3]), (Value.pointer (some a4)), (Value.pointer (some a5))] w k := rgo (sk := (.s (.r []) (.s (.r []) .o))) (args := [sv (.agg #[.int .i64 h, .int .i64 u, .int .i64 a0]), sv (.agg #[.int .i64 a1, .int .i64 a2, .int .i64 a3]), sa a4, sa a5]) Tryz.func56 (Eq.mpr (by kernel_rfl) a8)
def catalog_order (a : Bool) (b : World) (c : Int → World → Prop) : Prop :=
 ((a = true → c 1 b) ∧ (a = false → c 0 b))
theorem catalog_order.go {h : Bool} {w : World} {k : Value → World → Prop} (a1 : catalog_order h w fun u a0=>k (Value.int .i64 u) a0) : callS Tryz.prog 57 [.bool h] w k := rgo (sk := (.s (.r []) (.s (.s (.r []) (.c (.s (.r []) .o) .o)) (.s (.r []) .o)))) (args := [sv (Value.bool h)]) Tryz.func57 (Eq.mpr (by kernel_rfl) a1)
def slices_Contains_apiPinapiPin (l : Sl) (e : ByteArray) (f g h : Int) (m : World) (n : Bool → World → Prop) : Prop :=
 newS m [.string e, .int .i64 f, .int .i64 g, .int .i64 h] 84 fun o j=>∃ a b c d, ldc j o [.string a, .int .i64 b, .int .i64 c, .int .i64 d] ∧ callS Tryz.prog 118 [Sl.v l, (.agg #[.string a, .int .i64 b, .int .i64 c, .int .i64 d])] j fun p k=>∃ i, p = .int .i64 i ∧ n (decide (0 ≤ i)) k
theorem slices_Contains_apiPinapiPin.go {a2 : Sl} {h : ByteArray} {u a0 a1 : Int} {w : World} {k : Value → World → Prop} (a5 : slices_Contains_apiPinapiPin a2 h u a0 a1 w fun a3 a4=>k (Value.bool a3) a4) : callS Tryz.prog 58 [Sl.v a2, (.agg #[.string h, .int .i64 u, .int .i64 a0, .int .i64 a1])] w k := rgo (sk := (.s (.r []) (.s (.r []) .o))) (args := [sv (Sl.v a2), sv (.agg #[.string h, .int .i64 u, .int .i64 a0, .int .i64 a1])]) Tryz.func58 (Eq.mpr (by kernel_rfl) a5)
def slices_Clip_apiVersionapiVersion (a : Sl) (b : World) (c : Sl → World → Prop) : Prop :=
 ((0 : Int) ≤ 0 ∧ 0 ≤ (a.len : Int) ∧ (a.len : Int) ≤ (a.len : Int) ∧ (a.len : Int) ≤ (a.cap : Int)) ∧ c (Sl.mk (if (a.len : Int).toNat = 0 then a.a else a.a.map (·.add (0 * 3))) ((a.len : Int).toNat - 0) ((a.len : Int).toNat - 0)) b
theorem slices_Clip_apiVersionapiVersion.go {h : Sl} {w : World} {k : Value → World → Prop} (a1 : slices_Clip_apiVersionapiVersion h w fun u a0=>k (Sl.v u) a0) : callS Tryz.prog 59 [Sl.v h] w k := rgo (sk := (.s (.r []) (.s (.r []) .o))) (args := [sv (Sl.v h)]) Tryz.func59 (Eq.mpr (by kernel_rfl) a1)
def cmp_Or_int (a : Sl) (h : World) (g : Int → World → Prop) : Prop :=
 loop1 0 h fun c d f=>((c < (a.len : Int) → ∃ e, (a.a = some e ∧ (0 : Int) ≤ c ∧ c < (a.len : Int)) ∧ ∃ b, ldc d (e.add (c.toNat * 1)) [.int .i64 b] ∧ ((¬ b = 0 → g b d) ∧ (¬ (¬ b = 0) → f (wrapI (c + 1)) d))) ∧ (¬ (c < (a.len : Int)) → g 0 d))
theorem cmp_Or_int.go {h : Sl} {w : World} {k : Value → World → Prop} (a1 : cmp_Or_int h w fun u a0=>k (Value.int .i64 u) a0) : callS Tryz.prog 62 [Sl.v h] w k := rgo (sk := (.s (.r []) (.s (.r []) (.s (.s (.r []) (.b (.l [(8, 4)] (.s (.r []) (.s (.c .o .o) (.s (.b (.s (.r []) (.s (.r []) (.c (.s (.r []) .o) .o)))) (.r []))))))) (.s (.r []) .o))))) (args := [sv (Sl.v h)]) Tryz.func62 (Eq.mpr (by kernel_rfl) a1)
def catalog_falling (h i j k l m : Int) (r : World) (s : Int → World → Prop) : Prop :=
 newS r [.int .i64 h, .int .i64 i, .int .i64 j] 45 fun t p=>newS p [.int .i64 k, .int .i64 l, .int .i64 m] 45 fun q g=>∃ a b c, ldc g q [.int .i64 a, .int .i64 b, .int .i64 c] ∧ ∃ d e f, ldc g t [.int .i64 d, .int .i64 e, .int .i64 f] ∧ callS Tryz.prog 75 [(.agg #[.int .i64 a, .int .i64 b, .int .i64 c]), (.agg #[.int .i64 d, .int .i64 e, .int .i64 f])] g fun u o=>∃ n, u = .int .i64 n ∧ s n o
theorem catalog_falling.go {h u a0 a1 a2 a3 : Int} {w : World} {k : Value → World → Prop} (a6 : catalog_falling h u a0 a1 a2 a3 w fun a4 a5=>k (Value.int .i64 a4) a5) : callS Tryz.prog 64 [(.agg #[.int .i64 h, .int .i64 u, .int .i64 a0]), (.agg #[.int .i64 a1, .int .i64 a2, .int .i64 a3])] w k := rgo (sk := (.s (.r []) (.s (.r []) .o))) (args := [sv (.agg #[.int .i64 h, .int .i64 u, .int .i64 a0]), sv (.agg #[.int .i64 a1, .int .i64 a2, .int .i64 a3])]) Tryz.func64 (Eq.mpr (by kernel_rfl) a6)
def slices_IndexFunc_apiNodeapiNode (i : Sl) (o : Value) (p : World) (n : Int → World → Prop) : Prop :=
 loop1 0 p fun a k m=>((a < (i.len : Int) → ∃ l, (i.a = some l ∧ (0 : Int) ≤ a ∧ a < (i.len : Int)) ∧ ∃ b c d e f g, ldc k (l.add (a.toNat * 6)) [.string b, .int .i64 c, .int .i64 d, .int .i64 e, Sl.v f, Sl.v g] ∧ callV Tryz.prog o [(.agg #[.string b, .int .i64 c, .int .i64 d, .int .i64 e, Sl.v f, Sl.v g])] k fun q j=>∃ h, q = .bool h ∧ ((h = true → n a j) ∧ (h = false → m (wrapI (a + 1)) j))) ∧ (¬ (a < (i.len : Int)) → n (-1) k))
theorem slices_IndexFunc_apiNodeapiNode.go {h : Sl} {f : Value} {w : World} {k : Value → World → Prop} (a1 : slices_IndexFunc_apiNodeapiNode h f w fun u a0=>k (Value.int .i64 u) a0) : callS Tryz.prog 66 [Sl.v h, f] w k := rgo (sk := (.s (.r []) (.s (.s (.r []) (.b (.l [(8, 4)] (.s (.r []) (.s (.c .o .o) (.s (.b (.s (.r []) (.s (.r []) (.c (.s (.r []) .o) .o)))) (.r []))))))) (.s (.r []) .o)))) (args := [sv (Sl.v h), sv f]) Tryz.func66 (Eq.mpr (by kernel_rfl) a1)
def slices_Equal_apiPinapiPin (k l : Sl) (r : World) (q : Bool → World → Prop) : Prop :=
 ((¬ (k.len : Int) = (l.len : Int) → q false r) ∧ (¬ (¬ (k.len : Int) = (l.len : Int)) → loop1 0 r fun a o p=>((a < (k.len : Int) → bnd o.drew fun (j : World)=>∃ n, (k.a = some n ∧ (0 : Int) ≤ a ∧ a < (k.len : Int)) ∧ ∃ b c d e, ldc j (n.add (a.toNat * 4)) [.string b, .int .i64 c, .int .i64 d, .int .i64 e] ∧ ∃ m, (l.a = some m ∧ (0 : Int) ≤ a ∧ a < (l.len : Int)) ∧ ∃ f g h i, ldc j (m.add (a.toNat * 4)) [.string f, .int .i64 g, .int .i64 h, .int .i64 i] ∧ (((!((bEq b f) && (((c == g) && ((d == h) && ((e == i) && true))) && true))) = true → q false j) ∧ ((!((bEq b f) && (((c == g) && ((d == h) && ((e == i) && true))) && true))) = false → p (wrapI (a + 1)) j))) ∧ (¬ (a < (k.len : Int)) → q true o))))
theorem slices_Equal_apiPinapiPin.go {s1 h : Sl} {w : World} {k : Value → World → Prop} (a1 : slices_Equal_apiPinapiPin s1 h w fun u a0=>k (Value.bool u) a0) : callS Tryz.prog 68 [Sl.v s1, Sl.v h] w k := rgo (sk := (.s (.r []) (.s (.s (.r []) (.c (.s (.r []) .o) .o)) (.s (.s (.r []) (.b (.l [(13, 4)] (.s (.r []) (.s (.c .o .o) (.s (.b (.s (.r []) (.s (.r []) (.c (.s (.r []) .o) .o)))) (.r []))))))) (.s (.r []) .o))))) (args := [sv (Sl.v s1), sv (Sl.v h)]) Tryz.func68 (Eq.mpr (by kernel_rfl) a1)
def vers_Compare (n o p q r s : Int) (a5 : World) (a6 : Int → World → Prop) : Prop :=
 newS a5 [.int .i64 n, .int .i64 o, .int .i64 p] 45 fun a3 a4=>newS a4 [.int .i64 q, .int .i64 r, .int .i64 s] 45 fun i x=>bnd x.drew fun (a : World)=>∃ t, ldc a a3 [.int .i64 t] ∧ ∃ u, ldc a i [.int .i64 u] ∧ ∃ b, ldc a (a3.add 1) [.int .i64 b] ∧ ∃ c, ldc a (i.add 1) [.int .i64 c] ∧ ∃ d, ldc a (a3.add 2) [.int .i64 d] ∧ ∃ e, ldc a (i.add 2) [.int .i64 e] ∧ callX Tryz.prog 126 [.int .i64 t, .int .i64 u] a fun a7 y=>∃ v, a7 = .int .i64 v ∧ callX Tryz.prog 126 [.int .i64 b, .int .i64 c] y fun z j=>∃ f, z = .int .i64 f ∧ callS Tryz.prog 126 [.int .i64 d, .int .i64 e] j fun a0 k=>∃ g, a0 = .int .i64 g ∧ newS k [.int .i64 v, .int .i64 f, .int .i64 g] 3 fun a1 l=>callS Tryz.prog 62 [(Sl.v (Sl.mk (some a1) 3 3))] l fun a2 m=>∃ h, a2 = .int .i64 h ∧ a6 h m
theorem vers_Compare.go {h u a0 a1 a2 a3 : Int} {w : World} {k : Value → World → Prop} (a6 : vers_Compare h u a0 a1 a2 a3 w fun a4 a5=>k (Value.int .i64 a4) a5) : callS Tryz.prog 75 [(.agg #[.int .i64 h, .int .i64 u, .int .i64 a0]), (.agg #[.int .i64 a1, .int .i64 a2, .int .i64 a3])] w k := rgo (sk := (.s (.r []) (.s (.r []) .o))) (args := [sv (.agg #[.int .i64 h, .int .i64 u, .int .i64 a0]), sv (.agg #[.int .i64 a1, .int .i64 a2, .int .i64 a3])]) Tryz.func75 (Eq.mpr (by kernel_rfl) a6)
def wants_OfRoot (m n o p : Sl) (g : Bool) (a0 : World) (a1 : Sl → World → Prop) : Prop :=
 newS a0 [Sl.v m, Sl.v n, Sl.v o, Sl.v p] 25 fun y r=>∃ q, ldc r y [Sl.v q] ∧ newS r [Sl.v q] 23 fun s f=>join (fun (k : Sl) (a : World)=>∃ b c d e, ldc a y [Sl.v b, Sl.v c, Sl.v d, Sl.v e] ∧ ∃ h, ldc a (y.add 2) [Sl.v h] ∧ callS Tryz.prog 129 [(.agg #[Sl.v b, Sl.v c, Sl.v d, Sl.v e]), Sl.v k, Sl.v h] a fun a2 t=>∃ i, a2 = (Sl.v i) ∧ a1 i t) fun u=>((g = true → ∃ j, ldc f (y.add 1) [Sl.v j] ∧ newS f [Sl.v j] 23 fun z v=>appS Tryz.prog 176 176 (Sl.mk (some s) 1 1) (Sl.v (Sl.mk (some z) 1 1)) v fun x l=>u x l) ∧ (g = false → u (Sl.mk (some s) 1 1) f))
theorem wants_OfRoot.go {h u a0 a1 : Sl} {dev : Bool} {w : World} {k : Value → World → Prop} (a4 : wants_OfRoot h u a0 a1 dev w fun a2 a3=>k (Sl.v a2) a3) : callS Tryz.prog 80 [(.agg #[Sl.v h, Sl.v u, Sl.v a0, Sl.v a1]), .bool dev] w k := rgo (sk := (.s (.r []) (.s (.r []) (.j [(5, 177)] (.s (.r []) (.c (.r []) .o)) (.s (.r []) .o))))) (args := [sv (.agg #[Sl.v h, Sl.v u, Sl.v a0, Sl.v a1]), sv (Value.bool dev)]) Tryz.func80 (Eq.mpr (by kernel_rfl) a4)
def catalog_Catalog_Get (c3 : Option Addr) (b1 : ByteArray) (b3 b4 b5 : Int) (c4 : World) (c5 : ByteArray → Int → Int → Int → Sl → Sl → Sl → Bool → World → Prop) : Prop :=
 newS c4 [.int .i64 b3, .int .i64 b4, .int .i64 b5] 45 fun c6 c1=>newS c1 [(Value.string (ByteArray.mk #[])), .int .i64 0, .int .i64 0, .int .i64 0, (Sl.v Sl.nil), (Sl.v Sl.nil), (Sl.v Sl.nil)] 47 fun b6 b7=>bnd b7.drew fun (a : World)=>∃ c2, (c3 = some c2) ∧ ∃ a3, ldc a c2 [.map a3] ∧ ∃ b c d, ldc a c6 [.int .i64 b, .int .i64 c, .int .i64 d] ∧ ∃ e f g h i j k l, (stabS Tryz.prog (Instr.lookup 102 (Value.map a3) (.agg #[.string b1, .int .i64 b, .int .i64 c, .int .i64 d]) true) a (Value.tuple #[(.agg #[.string e, .int .i64 f, .int .i64 g, .int .i64 h, Sl.v i, Sl.v j, Sl.v k]), .bool l])) ∧ newS a [(Value.string (ByteArray.mk #[])), .int .i64 0, .int .i64 0, .int .i64 0, (Sl.v Sl.nil), (Sl.v Sl.nil), (Sl.v Sl.nil)] 47 fun b8 b9=>stw b9 b8 [.string e, .int .i64 f, .int .i64 g, .int .i64 h, Sl.v i, Sl.v j, Sl.v k] fun b0=>∃ m n o p q r s, ldc b0 b8 [.string m, .int .i64 n, .int .i64 o, .int .i64 p, Sl.v q, Sl.v r, Sl.v s] ∧ callS Tryz.prog 46 [(.agg #[.string m, .int .i64 n, .int .i64 o, .int .i64 p, Sl.v q, Sl.v r, Sl.v s])] b0 fun c0 b2=>∃ t u v x y z a0, c0 = (.agg #[.string t, .int .i64 u, .int .i64 v, .int .i64 x, Sl.v y, Sl.v z, Sl.v a0]) ∧ stw b2 b6 [.string t, .int .i64 u, .int .i64 v, .int .i64 x, Sl.v y, Sl.v z, Sl.v a0] fun a2=>∃ a4 a5 a6 a1 a7 a8 a9, ldc a2 b6 [.string a4, .int .i64 a5, .int .i64 a6, .int .i64 a1, Sl.v a7, Sl.v a8, Sl.v a9] ∧ c5 a4 a5 a6 a1 a7 a8 a9 l a2
theorem catalog_Catalog_Get.go {c : Option Addr} {h : ByteArray} {u a0 a1 : Int} {w : World} {k : Value → World → Prop} (b1 : catalog_Catalog_Get c h u a0 a1 w fun a2 a3 a4 a5 a6 a7 a8 a9 b0=>k (Value.tuple #[(.agg #[.string a2, .int .i64 a3, .int .i64 a4, .int .i64 a5, Sl.v a6, Sl.v a7, Sl.v a8]), .bool a9]) b0) : callS Tryz.prog 81 [.pointer c, .string h, (.agg #[.int .i64 u, .int .i64 a0, .int .i64 a1])] w k := rgo (sk := (.s (.r []) (.s (.r []) (.s (.r []) .o)))) (args := [sv (Value.pointer c), sv (Value.string h), sv (.agg #[.int .i64 u, .int .i64 a0, .int .i64 a1])]) Tryz.func81 (Eq.mpr (by kernel_rfl) b1)
def wants_Of (i : ByteArray) (j k l : Int) (m n o p q r s : Sl) (a0 : World) (a1 : Sl → World → Prop) : Prop :=
 newS a0 [.string i, .int .i64 j, .int .i64 k, .int .i64 l, Sl.v m, Sl.v n, Sl.v o] 47 fun z v=>newS v [Sl.v p, Sl.v q, Sl.v r, Sl.v s] 25 fun x e=>∃ a b c d, ldc e x [Sl.v a, Sl.v b, Sl.v c, Sl.v d] ∧ ∃ t, ldc e (z.add 4) [Sl.v t] ∧ newS e [Sl.v t] 23 fun y h=>∃ f, ldc h (z.add 6) [Sl.v f] ∧ callS Tryz.prog 129 [(.agg #[Sl.v a, Sl.v b, Sl.v c, Sl.v d]), (Sl.v (Sl.mk (some y) 1 1)), Sl.v f] h fun a2 u=>∃ g, a2 = (Sl.v g) ∧ a1 g u
theorem wants_Of.go {h : ByteArray} {u a0 a1 : Int} {a2 a3 a4 a5 a6 a7 a8 : Sl} {w : World} {k : Value → World → Prop} (b1 : wants_Of h u a0 a1 a2 a3 a4 a5 a6 a7 a8 w fun a9 b0=>k (Sl.v a9) b0) : callS Tryz.prog 82 [(.agg #[.string h, .int .i64 u, .int .i64 a0, .int .i64 a1, Sl.v a2, Sl.v a3, Sl.v a4]), (.agg #[Sl.v a5, Sl.v a6, Sl.v a7, Sl.v a8])] w k := rgo (sk := (.s (.r []) (.s (.r []) .o))) (args := [sv (.agg #[.string h, .int .i64 u, .int .i64 a0, .int .i64 a1, Sl.v a2, Sl.v a3, Sl.v a4]), sv (.agg #[Sl.v a5, Sl.v a6, Sl.v a7, Sl.v a8])]) Tryz.func82 (Eq.mpr (by kernel_rfl) b1)
def halyardref08_Catalog_Get (c6 : Option Addr) (b6 : ByteArray) (b8 b9 c0 : Int) (d0 : World) (c8 : ByteArray → Int → Int → Int → Sl → Sl → Sl → Bool → World → Prop) : Prop :=
 newS d0 [.int .i64 b8, .int .i64 b9, .int .i64 c0] 45 fun d1 c7=>newS c7 [(Value.string (ByteArray.mk #[])), .int .i64 0, .int .i64 0, .int .i64 0, (Sl.v Sl.nil), (Sl.v Sl.nil), (Sl.v Sl.nil)] 47 fun a7 c4=>loop1 0 c4 fun h a4 c5=>∃ c9, (c6 = some c9) ∧ ∃ i, ldc a4 c9 [Sl.v i] ∧ ((h < (i.len : Int) → bnd a4.drew fun (a : World)=>∃ c1, (c6 = some c1) ∧ ∃ j, ldc a c1 [Sl.v j] ∧ ∃ c2, (j.a = some c2 ∧ (0 : Int) ≤ h ∧ h < (j.len : Int)) ∧ ∃ a8, ldc a (c2.add (h.toNat * 7)) [.string a8] ∧ bnd (bEq a8 b6) fun (b7 : Bool)=>∃ c3, grd b7 (c6 = some c3) ∧ ∃ k, grd b7 (ldc a c3 [Sl.v k]) ∧ ∃ l, grd b7 (k.a = some l ∧ (0 : Int) ≤ h ∧ h < (k.len : Int)) ∧ ∃ b c d, grd b7 (ldc a ((l.add (h.toNat * 7)).add 1) [.int .i64 b, .int .i64 c, .int .i64 d]) ∧ ∃ e f g, grd b7 (ldc a d1 [.int .i64 e, .int .i64 f, .int .i64 g]) ∧ (((b7 && ((b == e) && ((c == f) && ((d == g) && true)))) = true → ∃ a9, (c6 = some a9) ∧ ∃ m, ldc a a9 [Sl.v m] ∧ ∃ n, (m.a = some n ∧ (0 : Int) ≤ h ∧ h < (m.len : Int)) ∧ ∃ o p q r s t u, ldc a (n.add (h.toNat * 7)) [.string o, .int .i64 p, .int .i64 q, .int .i64 r, Sl.v s, Sl.v t, Sl.v u] ∧ stw a a7 [.string o, .int .i64 p, .int .i64 q, .int .i64 r, Sl.v s, Sl.v t, Sl.v u] fun a5=>∃ b0 b1 b2 v b3 b4 b5, ldc a5 a7 [.string b0, .int .i64 b1, .int .i64 b2, .int .i64 v, Sl.v b3, Sl.v b4, Sl.v b5] ∧ c8 b0 b1 b2 v b3 b4 b5 true a5) ∧ ((b7 && ((b == e) && ((c == f) && ((d == g) && true)))) = false → c5 (wrapI (h + 1)) a))) ∧ (¬ (h < (i.len : Int)) → stw a4 a7 [(Value.string (ByteArray.mk #[])), .int .i64 0, .int .i64 0, .int .i64 0, (Sl.v Sl.nil), (Sl.v Sl.nil), (Sl.v Sl.nil)] fun a6=>∃ x y z a0 a1 a2 a3, ldc a6 a7 [.string x, .int .i64 y, .int .i64 z, .int .i64 a0, Sl.v a1, Sl.v a2, Sl.v a3] ∧ c8 x y z a0 a1 a2 a3 false a6))
theorem halyardref08_Catalog_Get.go {c : Option Addr} {h : ByteArray} {u a0 a1 : Int} {w : World} {k : Value → World → Prop} (b1 : halyardref08_Catalog_Get c h u a0 a1 w fun a2 a3 a4 a5 a6 a7 a8 a9 b0=>k (Value.tuple #[(.agg #[.string a2, .int .i64 a3, .int .i64 a4, .int .i64 a5, Sl.v a6, Sl.v a7, Sl.v a8]), .bool a9]) b0) : callS Tryz.prog 85 [.pointer c, .string h, (.agg #[.int .i64 u, .int .i64 a0, .int .i64 a1])] w k := rgo (sk := (.s (.r []) (.s (.s (.r []) (.b (.l [(8, 4)] (.s (.s (.r []) (.c .o .o)) (.s (.b (.s (.r []) (.c (.s (.r []) .o) .o))) (.r [])))))) (.s (.r []) .o)))) (args := [sv (Value.pointer c), sv (Value.string h), sv (.agg #[.int .i64 u, .int .i64 a0, .int .i64 a1])]) Tryz.func85 (Eq.mpr (by kernel_rfl) b1)
def halyardref05_May (b8 : ByteArray) (b9 c0 c1 : Int) (c2 c3 c4 : Sl) (d8 : World) (d7 : Bool → World → Prop) : Prop :=
 newS d8 [.string b8, .int .i64 b9, .int .i64 c0, .int .i64 c1, Sl.v c2, Sl.v c3, Sl.v c4] 47 fun t c7=>∃ c5, ldc c7 t [.string c5] ∧ callS Tryz.prog 106 [.string c5] c7 fun d9 a7=>∃ c6, d9 = .bool c6 ∧ bnd (!c6) fun (d4 : Bool)=>∃ u v x, grd (!d4) (ldc a7 (t.add 1) [.int .i64 u, .int .i64 v, .int .i64 x]) ∧ gCall (!d4) (fun (l : Bool) (g : World)=>bnd (d4 || (!l)) fun (b7 : Bool)=>∃ a8, grd (!b7) (ldc g (t.add 4) [Sl.v a8]) ∧ gCall (!b7) (fun (m : Bool) (h : World)=>bnd (b7 || (!m)) fun (y : Bool)=>∃ a9, grd (!y) (ldc h (t.add 5) [Sl.v a9]) ∧ gCall (!y) (fun (n : Bool) (d : World)=>bnd (y || (!n)) fun (o : Bool)=>∃ b0, grd (!o) (ldc d (t.add 6) [Sl.v b0]) ∧ gCall (!o) (fun (i : Bool) (a : World)=>(((o || (!i)) = true → d7 false a) ∧ ((o || (!i)) = false → ∃ b1, ldc a (t.add 4) [Sl.v b1] ∧ ∃ b2, ldc a (t.add 5) [Sl.v b2] ∧ callS Tryz.prog 48 [Sl.v b1, Sl.v b2] a fun c8 f=>∃ j, c8 = .bool j ∧ ∃ b3, grd j (ldc f (t.add 4) [Sl.v b3]) ∧ ∃ b4, grd j (ldc f (t.add 6) [Sl.v b4]) ∧ gCall j (fun (p : Bool) (b : World)=>bnd (j && p) fun (q : Bool)=>∃ b5, grd q (ldc b (t.add 5) [Sl.v b5]) ∧ ∃ b6, grd q (ldc b (t.add 6) [Sl.v b6]) ∧ gCall q (fun (r : Bool) (e : World)=>bnd (q && r) fun (z : Bool)=>∃ a0 a1 a2 a3 a4 a5 a6, grd z (ldc e t [.string a0, .int .i64 a1, .int .i64 a2, .int .i64 a3, Sl.v a4, Sl.v a5, Sl.v a6]) ∧ gCall z (fun (s : ByteArray) (k : World)=>d7 (z && (decide ((s.size : Int) ≤ 4096))) k) (fun c=>callS Tryz.prog 137 [(.agg #[.string a0, .int .i64 a1, .int .i64 a2, .int .i64 a3, Sl.v a4, Sl.v a5, Sl.v a6])] e fun c9 k=>∃ s, c9 = .string s ∧ c s k) (fun c=>c (ByteArray.mk #[]) e)) (fun c=>callS Tryz.prog 48 [Sl.v b5, Sl.v b6] b fun d0 e=>∃ r, d0 = .bool r ∧ c r e) (fun c=>c false b)) (fun c=>callS Tryz.prog 48 [Sl.v b3, Sl.v b4] f fun d1 b=>∃ p, d1 = .bool p ∧ c p b) (fun c=>c false f)))) (fun c=>callS Tryz.prog 47 [Sl.v b0] d fun d2 a=>∃ i, d2 = .bool i ∧ c i a) (fun c=>c false d)) (fun c=>callS Tryz.prog 47 [Sl.v a9] h fun d3 d=>∃ n, d3 = .bool n ∧ c n d) (fun c=>c false h)) (fun c=>callS Tryz.prog 47 [Sl.v a8] g fun d5 h=>∃ m, d5 = .bool m ∧ c m h) (fun c=>c false g)) (fun c=>callS Tryz.prog 136 [(.agg #[.int .i64 u, .int .i64 v, .int .i64 x])] a7 fun d6 g=>∃ l, d6 = .bool l ∧ c l g) (fun c=>c false a7)
theorem halyardref05_May.go {h : ByteArray} {u a0 a1 : Int} {a2 a3 a4 : Sl} {w : World} {k : Value → World → Prop} (a7 : halyardref05_May h u a0 a1 a2 a3 a4 w fun a5 a6=>k (Value.bool a5) a6) : callS Tryz.prog 88 [(.agg #[.string h, .int .i64 u, .int .i64 a0, .int .i64 a1, Sl.v a2, Sl.v a3, Sl.v a4])] w k := rgo (sk := (.s (.r []) (.s (.s (.r []) (.c (.s (.r []) .o) .o)) (.s (.r [37]) (.s (.r []) .o))))) (args := [sv (.agg #[.string h, .int .i64 u, .int .i64 a0, .int .i64 a1, Sl.v a2, Sl.v a3, Sl.v a4])]) Tryz.func88 (Eq.mpr (by kernel_rfl) a7)
def halyardref08_ahead (u : ByteArray) (v x y : Int) (l m n : Sl) (z : ByteArray) (a0 a1 a2 : Int) (o p q : Sl) (a9 : World) (a8 : Bool → World → Prop) : Prop :=
 newS a9 [.string u, .int .i64 v, .int .i64 x, .int .i64 y, Sl.v l, Sl.v m, Sl.v n] 47 fun a6 a7=>newS a7 [.string z, .int .i64 a0, .int .i64 a1, .int .i64 a2, Sl.v o, Sl.v p, Sl.v q] 47 fun t a=>∃ r, ldc a a6 [.string r] ∧ ∃ s, ldc a t [.string s] ∧ ((¬ r = s → ∃ h, ldc a a6 [.string h] ∧ ∃ i, ldc a t [.string i] ∧ callS Tryz.prog 138 [.string h, .string i] a fun b0 a3=>∃ j, b0 = .bool j ∧ a8 j a3) ∧ (¬ (¬ r = s) → ∃ b c d, ldc a (a6.add 1) [.int .i64 b, .int .i64 c, .int .i64 d] ∧ ∃ e f g, ldc a (t.add 1) [.int .i64 e, .int .i64 f, .int .i64 g] ∧ callS Tryz.prog 139 [(.agg #[.int .i64 b, .int .i64 c, .int .i64 d]), (.agg #[.int .i64 e, .int .i64 f, .int .i64 g])] a fun a4 a5=>∃ k, a4 = .int .i64 k ∧ a8 (decide (0 < k)) a5))
theorem halyardref08_ahead.go {a4 : ByteArray} {a5 a6 a7 : Int} {h u a0 : Sl} {a8 : ByteArray} {a9 b0 b1 : Int} {a1 a2 a3 : Sl} {w : World} {k : Value → World → Prop} (b4 : halyardref08_ahead a4 a5 a6 a7 h u a0 a8 a9 b0 b1 a1 a2 a3 w fun b2 b3=>k (Value.bool b2) b3) : callS Tryz.prog 89 [(.agg #[.string a4, .int .i64 a5, .int .i64 a6, .int .i64 a7, Sl.v h, Sl.v u, Sl.v a0]), (.agg #[.string a8, .int .i64 a9, .int .i64 b0, .int .i64 b1, Sl.v a1, Sl.v a2, Sl.v a3])] w k := rgo (sk := (.s (.r []) (.s (.s (.r []) (.c (.s (.r []) .o) .o)) (.s (.r []) .o)))) (args := [sv (.agg #[.string a4, .int .i64 a5, .int .i64 a6, .int .i64 a7, Sl.v h, Sl.v u, Sl.v a0]), sv (.agg #[.string a8, .int .i64 a9, .int .i64 b0, .int .i64 b1, Sl.v a1, Sl.v a2, Sl.v a3])]) Tryz.func89 (Eq.mpr (by kernel_rfl) b4)
def manifest_may (c0 c1 c2 : Sl) (c3 : World) (b8 : Bool → World → Prop) : Prop :=
 newS c3 [Sl.v c0, Sl.v c1, Sl.v c2] 23 fun z b9=>loop2 Sl.nil 0 b9 fun b d k b3=>((d < ((Sl.mk (some z) 3 3).len : Int) → ∃ b2, ((Sl.mk (some z) 3 3).a = some b2 ∧ (0 : Int) ≤ d ∧ d < ((Sl.mk (some z) 3 3).len : Int)) ∧ ∃ a, ldc k (b2.add (d.toNat * 1)) [Sl.v a] ∧ bnd (decide (16 < (a.len : Int))) fun (a6 : Bool)=>gCall (!a6) (fun (g : Bool) (i : World)=>(((a6 || (!g)) = true → b8 false i) ∧ ((a6 || (!g)) = false → loop1 0 i fun e v a7=>((e < (a.len : Int) → ∃ a2, (a.a = some a2 ∧ (0 : Int) ≤ e ∧ e < (a.len : Int)) ∧ ∃ m n, ldc v (a2.add (e.toNat * 2)) [.string m, Sl.v n] ∧ newS v [(Value.string (ByteArray.mk #[])), (Sl.v Sl.nil)] 88 fun l a8=>stw a8 l [.string m, Sl.v n] fun x=>∃ a3, ldc x l [.string a3] ∧ callS Tryz.prog 100 [.string a3] x fun b4 h=>∃ a4, b4 = .bool a4 ∧ bnd (!a4) fun (o : Bool)=>∃ a5, grd (!o) (ldc h (l.add 1) [Sl.v a5]) ∧ gCall (!o) (fun (j : Bool) (c : World)=>bnd (o || (!j)) fun (p : Bool)=>∃ q, grd (!p) (ldc c (l.add 1) [Sl.v q]) ∧ (((p || ((q.len : Int) == 0)) = true → b8 false c) ∧ ((p || ((q.len : Int) == 0)) = false → a7 (wrapI (e + 1)) c))) (fun a9=>callS Tryz.prog 114 [Sl.v a5] h fun b5 c=>∃ j, b5 = .bool j ∧ a9 j c) (fun a9=>a9 false h)) ∧ (¬ (e < (a.len : Int)) → appS Tryz.prog 23 23 b (Sl.v a) v fun b6 b0=>b3 b6 (wrapI (d + 1)) b0))))) (fun a9=>callS Tryz.prog 141 [Sl.v a, (Value.func (.func 140) #[] #[])] k fun c4 i=>∃ g, c4 = .bool g ∧ a9 g i) (fun a9=>a9 false k)) ∧ (¬ (d < ((Sl.mk (some z) 3 3).len : Int)) → callS Tryz.prog 142 [Sl.v b, (Value.func (.func 140) #[] #[])] k fun b7 b1=>b7 = (Value.tuple #[]) ∧ loop1 1 b1 fun a0 y a1=>((a0 < (b.len : Int) → bnd y.drew fun (f : World)=>∃ r, (b.a = some r ∧ (0 : Int) ≤ a0 ∧ a0 < (b.len : Int)) ∧ ∃ s, ldc f (r.add (a0.toNat * 2)) [.string s] ∧ ∃ t, (b.a = some t ∧ (0 : Int) ≤ (wrapI (a0 - 1)) ∧ (wrapI (a0 - 1)) < (b.len : Int)) ∧ ∃ u, ldc f (t.add ((wrapI (a0 - 1)).toNat * 2)) [.string u] ∧ ((s = u → b8 false f) ∧ (¬ (s = u) → a1 (wrapI (a0 + 1)) f))) ∧ (¬ (a0 < (b.len : Int)) → b8 true y))))
theorem manifest_may.go {a b c : Sl} {w : World} {k : Value → World → Prop} (a0 : manifest_may a b c w fun h u=>k (Value.bool h) u) : callS Tryz.prog 90 [Sl.v a, Sl.v b, Sl.v c] w k := rgo (sk := (.s (.r []) (.s (.r []) (.s (.r []) (.s (.s (.r []) (.b (.l [(8, 24), (19, 4)] (.s (.r []) (.s (.c .o .o) (.s (.b (.s (.r []) (.s (.s (.r []) (.c (.s (.r []) .o) .o)) (.s (.s (.r []) (.b (.l [(34, 4)] (.s (.r []) (.s (.c .o .o) (.s (.b (.s (.r []) (.s (.r []) (.c (.s (.r []) .o) .o)))) (.r []))))))) (.r []))))) (.r []))))))) (.s (.r []) (.s (.s (.r []) (.b (.l [(13, 4)] (.s (.s (.r []) (.c .o .o)) (.s (.b (.s (.r []) (.c (.s (.r []) .o) .o))) (.r [])))))) (.s (.r []) .o)))))))) (args := [sv (Sl.v a), sv (Sl.v b), sv (Sl.v c)]) Tryz.func90 (Eq.mpr (by kernel_rfl) a0)
def manifest_text (a4 a5 a6 a7 : Sl) (c3 : World) (c4 : ByteArray → World → Prop) : Prop :=
 newS c3 [Sl.v a4, Sl.v a5, Sl.v a6, Sl.v a7] 25 fun c5 c0=>newS c0 [.pointer none, (Sl.v Sl.nil)] 190 fun x b1=>callS Tryz.prog 143 [(Value.pointer (some x)), (Value.string (ByteArray.mk #[112, 114, 111, 106, 101, 99, 116, 10]))] b1 fun c6 b2=>∃ b9 a8, c6 = (Value.tuple #[.int .i64 b9, a8]) ∧ callS Tryz.prog 144 [(Value.pointer (some c5))] b2 fun c1 b3=>∃ l, c1 = (Sl.v l) ∧ loop1 0 b3 fun e p b4=>((e < (l.len : Int) → ∃ a9, (l.a = some a9 ∧ (0 : Int) ≤ e ∧ e < (l.len : Int)) ∧ ∃ a b, ldc p (a9.add (e.toNat * 2)) [.string a, .pointer b] ∧ newS p [(Value.string (ByteArray.mk #[])), .pointer none] 200 fun y b5=>stw b5 y [.string a, .pointer b] fun i=>∃ s, ldc i (y.add 1) [.pointer s] ∧ ∃ c2, (s = some c2) ∧ ∃ h, ldc i c2 [Sl.v h] ∧ loop1 0 i fun f j r=>((f < (h.len : Int) → ∃ m, (h.a = some m ∧ (0 : Int) ≤ f ∧ f < (h.len : Int)) ∧ ∃ n o, ldc j (m.add (f.toNat * 2)) [.string n, Sl.v o] ∧ newS j [(Value.string (ByteArray.mk #[])), (Sl.v Sl.nil)] 88 fun q z=>stw z q [.string n, Sl.v o] fun a0=>bnd a0.drew fun (g : World)=>∃ c, ldc g y [.string c] ∧ (((c.size + (ByteArray.mk #[32]).size : Nat) : Int) ≤ maxI) ∧ ∃ d, ldc g q [.string d] ∧ ((((c ++ (ByteArray.mk #[32])).size + d.size : Nat) : Int) ≤ maxI) ∧ (((((c ++ (ByteArray.mk #[32])) ++ d).size + (ByteArray.mk #[32]).size : Nat) : Int) ≤ maxI) ∧ ∃ t, ldc g (q.add 1) [Sl.v t] ∧ callX Tryz.prog 145 [Sl.v t] g fun b6 a1=>∃ k, b6 = .string k ∧ ((((((c ++ (ByteArray.mk #[32])) ++ d) ++ (ByteArray.mk #[32])).size + k.size : Nat) : Int) ≤ maxI) ∧ (((((((c ++ (ByteArray.mk #[32])) ++ d) ++ (ByteArray.mk #[32])) ++ k).size + (ByteArray.mk #[10]).size : Nat) : Int) ≤ maxI) ∧ callS Tryz.prog 143 [(Value.pointer (some x)), (Value.string (((((c ++ (ByteArray.mk #[32])) ++ d) ++ (ByteArray.mk #[32])) ++ k) ++ (ByteArray.mk #[10])))] a1 fun b7 a2=>∃ b0 v, b7 = (Value.tuple #[.int .i64 b0, v]) ∧ r (wrapI (f + 1)) a2) ∧ (¬ (f < (h.len : Int)) → b4 (wrapI (e + 1)) j))) ∧ (¬ (e < (l.len : Int)) → callS Tryz.prog 146 [(Value.pointer (some x))] p fun b8 a3=>∃ u, b8 = .string u ∧ c4 u a3))
theorem manifest_text.go {h u a0 a1 : Sl} {w : World} {k : Value → World → Prop} (a4 : manifest_text h u a0 a1 w fun a2 a3=>k (Value.string a2) a3) : callS Tryz.prog 91 [(.agg #[Sl.v h, Sl.v u, Sl.v a0, Sl.v a1])] w k := rgo (sk := (.s (.r []) (.s (.r []) (.s (.r []) (.s (.s (.r []) (.b (.l [(11, 4)] (.s (.r []) (.s (.c .o .o) (.s (.b (.s (.r []) (.s (.r []) (.b (.l [(20, 4)] (.s (.r []) (.s (.c .o .o) (.s (.b (.s (.r []) (.r []))) (.r []))))))))) (.r []))))))) (.s (.r []) .o)))))) (args := [sv (.agg #[Sl.v h, Sl.v u, Sl.v a0, Sl.v a1])]) Tryz.func91 (Eq.mpr (by kernel_rfl) a4)
def resolve_search_want (b : Option Addr) (c : Int) (e7 : World) (e8 : World → Prop) : Prop :=
 ((c = 0 → bnd e7.drew fun (c6 : World)=>∃ e9, (b = some e9) ∧ ∃ h i j k, ldc c6 (e9.add 1) [Sl.v h, Sl.v i, Sl.v j, Sl.v k] ∧ ∃ d6, (b = some d6) ∧ ∃ b7, ldc c6 (d6.add 5) [.bool b7] ∧ callS Tryz.prog 80 [(.agg #[Sl.v h, Sl.v i, Sl.v j, Sl.v k]), .bool b7] c6 fun f1 e0=>∃ b8, f1 = (Sl.v b8) ∧ ∃ d7, (b = some d7) ∧ stw e0 (d7.add 10) [Sl.v b8] fun e1=>e8 e1) ∧ (¬ (c = 0) → join (fun (e6 : Addr) (d8 : World)=>bnd d8.drew fun (d : World)=>∃ l m n o p q r, ldc d e6 [.string l, .int .i64 m, .int .i64 n, .int .i64 o, Sl.v p, Sl.v q, Sl.v r] ∧ ∃ b9, (b = some b9) ∧ ∃ s t u v, ldc d (b9.add 1) [Sl.v s, Sl.v t, Sl.v u, Sl.v v] ∧ callS Tryz.prog 82 [(.agg #[.string l, .int .i64 m, .int .i64 n, .int .i64 o, Sl.v p, Sl.v q, Sl.v r]), (.agg #[Sl.v s, Sl.v t, Sl.v u, Sl.v v])] d fun e2 c8=>∃ c0, e2 = (Sl.v c0) ∧ ∃ c1, (b = some c1) ∧ stw c8 (c1.add 10) [Sl.v c0] fun c9=>e8 c9) fun e3=>bnd e7.drew fun (a : World)=>∃ c2, (b = some c2) ∧ ∃ x, ldc a c2 [.pointer x] ∧ ∃ c3, (b = some c3) ∧ ∃ y, ldc a (c3.add 8) [Sl.v y] ∧ ∃ d9, (y.a = some d9 ∧ (0 : Int) ≤ c ∧ c < (y.len : Int)) ∧ ∃ z, ldc a (d9.add (c.toNat * 6)) [.string z] ∧ ∃ c4, (b = some c4) ∧ ∃ a0, ldc a (c4.add 8) [Sl.v a0] ∧ ∃ a1, (a0.a = some a1 ∧ (0 : Int) ≤ c ∧ c < (a0.len : Int)) ∧ ∃ e f g, ldc a ((a1.add (c.toNat * 6)).add 1) [.int .i64 e, .int .i64 f, .int .i64 g] ∧ ((callS Tryz.prog 81 [.pointer x, .string z, (.agg #[.int .i64 e, .int .i64 f, .int .i64 g])] a fun e4 d0=>∃ a2 a3 a4 a5 a6 a7 a8 c7, e4 = (Value.tuple #[(.agg #[.string a2, .int .i64 a3, .int .i64 a4, .int .i64 a5, Sl.v a6, Sl.v a7, Sl.v a8]), .bool c7]) ∧ newS d0 [(Value.string (ByteArray.mk #[])), .int .i64 0, .int .i64 0, .int .i64 0, (Sl.v Sl.nil), (Sl.v Sl.nil), (Sl.v Sl.nil)] 47 fun f0 d1=>stw d1 f0 [.string a2, .int .i64 a3, .int .i64 a4, .int .i64 a5, Sl.v a6, Sl.v a7, Sl.v a8] fun d2=>e3 f0 d2) ∧ (newS a [(Value.string (ByteArray.mk #[])), .int .i64 0, .int .i64 0, .int .i64 0, (Sl.v Sl.nil), (Sl.v Sl.nil), (Sl.v Sl.nil)] 47 fun c5 d3=>callS Tryz.prog 81 [.pointer x, .string z, (.agg #[.int .i64 e, .int .i64 f, .int .i64 g])] d3 fun e5 d4=>∃ a9 b0 b1 b2 b3 b4 b5 b6, e5 = (Value.tuple #[(.agg #[.string a9, .int .i64 b0, .int .i64 b1, .int .i64 b2, Sl.v b3, Sl.v b4, Sl.v b5]), .bool b6]) ∧ stw d4 c5 [.string a9, .int .i64 b0, .int .i64 b1, .int .i64 b2, Sl.v b3, Sl.v b4, Sl.v b5] fun d5=>e3 c5 d5))))
theorem resolve_search_want.go {h : Option Addr} {u : Int} {w : World} {k : Value → World → Prop} (a1 : resolve_search_want h u w fun  a0=>k (Value.tuple #[]) a0) : callS Tryz.prog 92 [.pointer h, .int .i64 u] w k := rgo (sk := (.s (.s (.r []) (.c (.s (.r []) .o) .o)) (.j [(4, 0)] (.r []) (.r [])))) (args := [sv (Value.pointer h), sv (Value.int .i64 u)]) Tryz.func92 (Eq.mpr (by kernel_rfl) a1)
def resolve_told (z : Sl) (c : ByteArray) (a3 : World) (a2 : Int → Int → Int → Bool → World → Prop) : Prop :=
 newS a3 [.int .i64 0, .int .i64 0, .int .i64 0] 45 fun a0 a1=>loop1 0 a1 fun a r x=>((a < (z.len : Int) → ∃ v, (z.a = some v ∧ (0 : Int) ≤ a ∧ a < (z.len : Int)) ∧ ∃ d e f g, ldc r (v.add (a.toNat * 4)) [.string d, .int .i64 e, .int .i64 f, .int .i64 g] ∧ newS r [(Value.string (ByteArray.mk #[])), .int .i64 0, .int .i64 0, .int .i64 0] 84 fun u y=>stw y u [.string d, .int .i64 e, .int .i64 f, .int .i64 g] fun b=>∃ h, ldc b u [.string h] ∧ ((h = c → ∃ i j k, ldc b (u.add 1) [.int .i64 i, .int .i64 j, .int .i64 k] ∧ stw b a0 [.int .i64 i, .int .i64 j, .int .i64 k] fun s=>∃ l m n, ldc s a0 [.int .i64 l, .int .i64 m, .int .i64 n] ∧ a2 l m n true s) ∧ (¬ (h = c) → x (wrapI (a + 1)) b))) ∧ (¬ (a < (z.len : Int)) → stw r a0 [.int .i64 0, .int .i64 0, .int .i64 0] fun t=>∃ o p q, ldc t a0 [.int .i64 o, .int .i64 p, .int .i64 q] ∧ a2 o p q false t))
theorem resolve_told.go {l : Sl} {h : ByteArray} {w : World} {k : Value → World → Prop} (a4 : resolve_told l h w fun u a0 a1 a2 a3=>k (Value.tuple #[(.agg #[.int .i64 u, .int .i64 a0, .int .i64 a1]), .bool a2]) a3) : callS Tryz.prog 93 [Sl.v l, .string h] w k := rgo (sk := (.s (.r []) (.s (.s (.r []) (.b (.l [(10, 4)] (.s (.r []) (.s (.c .o .o) (.s (.b (.s (.r []) (.s (.r []) (.c (.s (.r []) .o) .o)))) (.r []))))))) (.s (.r []) .o)))) (args := [sv (Sl.v l), sv (Value.string h)]) Tryz.func93 (Eq.mpr (by kernel_rfl) a4)
def slices_Clone_apiPinapiPin (a : Sl) (e : World) (f : Sl → World → Prop) : Prop :=
 ((a.a = none → f Sl.nil e) ∧ (¬ (a.a = none) → newS e [] 84 fun g c=>appS Tryz.prog 26 26 (Sl.mk (some g) 0 0) (Sl.v a) c fun d b=>f d b))
theorem slices_Clone_apiPinapiPin.go {h : Sl} {w : World} {k : Value → World → Prop} (a1 : slices_Clone_apiPinapiPin h w fun u a0=>k (Sl.v u) a0) : callS Tryz.prog 94 [Sl.v h] w k := rgo (sk := (.s (.r []) (.s (.s (.r []) (.c (.s (.r []) .o) .o)) (.s (.r []) .o)))) (args := [sv (Sl.v h)]) Tryz.func94 (Eq.mpr (by kernel_rfl) a1)
def resolve_search_bind_1 (b : ByteArray) (c d e : Int) (f : ByteArray) (g h i : Int) (p : World) (q : Int → World → Prop) : Prop :=
 newS p [.string b, .int .i64 c, .int .i64 d, .int .i64 e] 84 fun r n=>newS n [.string f, .int .i64 g, .int .i64 h, .int .i64 i] 84 fun o a=>∃ j, ldc a r [.string j] ∧ ∃ k, ldc a o [.string k] ∧ callS Tryz.prog 74 [.string j, .string k] a fun s m=>∃ l, s = .int .i64 l ∧ q l m
theorem resolve_search_bind_1.go {h : ByteArray} {u a0 a1 : Int} {a2 : ByteArray} {a3 a4 a5 : Int} {w : World} {k : Value → World → Prop} (a8 : resolve_search_bind_1 h u a0 a1 a2 a3 a4 a5 w fun a6 a7=>k (Value.int .i64 a6) a7) : callS Tryz.prog 95 [(.agg #[.string h, .int .i64 u, .int .i64 a0, .int .i64 a1]), (.agg #[.string a2, .int .i64 a3, .int .i64 a4, .int .i64 a5])] w k := rgo (sk := (.s (.r []) (.s (.r []) .o))) (args := [sv (.agg #[.string h, .int .i64 u, .int .i64 a0, .int .i64 a1]), sv (.agg #[.string a2, .int .i64 a3, .int .i64 a4, .int .i64 a5])]) Tryz.func95 (Eq.mpr (by kernel_rfl) a8)
def wants_Context (k6 : Option Addr) (i0 i1 i2 i3 d : Sl) (i4 : ByteArray) (i5 i6 i7 : Int) (l2 : World) (k7 : Sl → Bool → World → Prop) : Prop :=
 newS l2 [Sl.v i0, Sl.v i1, Sl.v i2, Sl.v i3] 25 fun l4 k8=>newS k8 [.string i4, .int .i64 i5, .int .i64 i6, .int .i64 i7] 84 fun k9 e6=>((k6 = none → k7 Sl.nil false e6) ∧ (¬ (k6 = none) → ∃ x y z a0, ldc e6 k9 [.string x, .int .i64 y, .int .i64 z, .int .i64 a0] ∧ newS e6 [.string x, .int .i64 y, .int .i64 z, .int .i64 a0] 84 fun l0 i9=>loop3 (Sl.mk (some l0) 1 1) Sl.nil 0 i9 fun f c f1 g0 j0=>((f1 < (f.len : Int) → join (fun (l3 : Addr) (t : Bool) (u : World)=>(((!t) = true → k7 Sl.nil false u) ∧ ((!t) = false → ∃ a1 a2 a3 a4 a5 a6 a7, ldc u l3 [.string a1, .int .i64 a2, .int .i64 a3, .int .i64 a4, Sl.v a5, Sl.v a6, Sl.v a7] ∧ ∃ a8 a9 b0 b1, ldc u l4 [Sl.v a8, Sl.v a9, Sl.v b0, Sl.v b1] ∧ callS Tryz.prog 149 [(.agg #[.string a1, .int .i64 a2, .int .i64 a3, .int .i64 a4, Sl.v a5, Sl.v a6, Sl.v a7]), (.agg #[Sl.v a8, Sl.v a9, Sl.v b0, Sl.v b1])] u fun l5 j1=>∃ k, l5 = (Sl.v k) ∧ loop3 f c 0 j1 fun j a g r f2=>((g < (k.len : Int) → join (fun (f0 l : Sl) (g3 : World)=>f2 f0 l (wrapI (g + 1)) g3) fun j2=>∃ i8, (k.a = some i8 ∧ (0 : Int) ≤ g ∧ g < (k.len : Int)) ∧ ∃ b2 b3, ldc r (i8.add (g.toNat * 2)) [.string b2, Sl.v b3] ∧ newS r [(Value.string (ByteArray.mk #[])), (Sl.v Sl.nil)] 88 fun v g4=>stw g4 v [.string b2, Sl.v b3] fun e7=>∃ f3, ldc e7 v [.string f3] ∧ callS Tryz.prog 147 [.string f3] e7 fun j3 g5=>∃ f4, j3 = f4 ∧ callS Tryz.prog 150 [Sl.v d, f4] g5 fun j4 g6=>∃ b, j4 = .int .i64 b ∧ bnd g6.drew fun (h : World)=>bnd (decide (b < 0)) fun (h9 : Bool)=>∃ f5, grd (!h9) (ldc h (v.add 1) [Sl.v f5]) ∧ ∃ b4, grd (!h9) (d.a = some b4 ∧ (0 : Int) ≤ b ∧ b < (d.len : Int)) ∧ ∃ b5 b6 b7, grd (!h9) (ldc h ((b4.add (b.toNat * 4)).add 1) [.int .i64 b5, .int .i64 b6, .int .i64 b7]) ∧ gCall (!h9) (fun (m : Bool) (e : World)=>(((h9 || (!m)) = true → k7 Sl.nil false e) ∧ ((h9 || (!m)) = false → ∃ f6, ldc e v [.string f6] ∧ callS Tryz.prog 147 [.string f6] e fun j5 g7=>∃ f7, j5 = f7 ∧ callS Tryz.prog 151 [Sl.v a, f7] g7 fun j6 s=>∃ b8, j6 = .bool b8 ∧ (((!b8) = true → ∃ b9, (d.a = some b9 ∧ (0 : Int) ≤ b ∧ b < (d.len : Int)) ∧ ∃ f8 c0 c1 c2, ldc s (b9.add (b.toNat * 4)) [.string f8, .int .i64 c0, .int .i64 c1, .int .i64 c2] ∧ newS s [.string f8, .int .i64 c0, .int .i64 c1, .int .i64 c2] 84 fun j7 g8=>appS Tryz.prog 26 26 a (Sl.v (Sl.mk (some j7) 1 1)) g8 fun j8 e8=>∃ c3, (d.a = some c3 ∧ (0 : Int) ≤ b ∧ b < (d.len : Int)) ∧ ∃ c4 c5 c6 c7, ldc e8 (c3.add (b.toNat * 4)) [.string c4, .int .i64 c5, .int .i64 c6, .int .i64 c7] ∧ newS e8 [.string c4, .int .i64 c5, .int .i64 c6, .int .i64 c7] 84 fun j9 g9=>appS Tryz.prog 26 26 j (Sl.v (Sl.mk (some j9) 1 1)) g9 fun k0 h0=>j2 k0 j8 h0) ∧ ((!b8) = false → j2 j a s))))) (fun l1=>callS Tryz.prog 54 [Sl.v f5, (.agg #[.int .i64 b5, .int .i64 b6, .int .i64 b7])] h fun k1 e=>∃ m, k1 = .bool m ∧ l1 m e) (fun l1=>l1 false h)) ∧ (¬ (g < (k.len : Int)) → j0 j a (wrapI (f1 + 1)) r))))) fun e9=>bnd g0.drew fun (i : World)=>∃ c8, (f.a = some c8 ∧ (0 : Int) ≤ f1 ∧ f1 < (f.len : Int)) ∧ ∃ c9, ldc i (c8.add (f1.toNat * 4)) [.string c9] ∧ ∃ d0, (f.a = some d0 ∧ (0 : Int) ≤ f1 ∧ f1 < (f.len : Int)) ∧ ∃ o p q, ldc i ((d0.add (f1.toNat * 4)).add 1) [.int .i64 o, .int .i64 p, .int .i64 q] ∧ ((callS Tryz.prog 81 [.pointer k6, .string c9, (.agg #[.int .i64 o, .int .i64 p, .int .i64 q])] i fun k2 h1=>∃ d1 d2 d3 d4 d5 d6 d7 d8, k2 = (Value.tuple #[(.agg #[.string d1, .int .i64 d2, .int .i64 d3, .int .i64 d4, Sl.v d5, Sl.v d6, Sl.v d7]), .bool d8]) ∧ newS h1 [(Value.string (ByteArray.mk #[])), .int .i64 0, .int .i64 0, .int .i64 0, (Sl.v Sl.nil), (Sl.v Sl.nil), (Sl.v Sl.nil)] 47 fun g1 h2=>stw h2 g1 [.string d1, .int .i64 d2, .int .i64 d3, .int .i64 d4, Sl.v d5, Sl.v d6, Sl.v d7] fun h3=>e9 g1 d8 h3) ∧ (newS i [(Value.string (ByteArray.mk #[])), .int .i64 0, .int .i64 0, .int .i64 0, (Sl.v Sl.nil), (Sl.v Sl.nil), (Sl.v Sl.nil)] 47 fun g2 h4=>callS Tryz.prog 81 [.pointer k6, .string c9, (.agg #[.int .i64 o, .int .i64 p, .int .i64 q])] h4 fun k3 h5=>∃ d9 e0 e1 e2 e3 e4 e5 n, k3 = (Value.tuple #[(.agg #[.string d9, .int .i64 e0, .int .i64 e1, .int .i64 e2, Sl.v e3, Sl.v e4, Sl.v e5]), .bool n]) ∧ stw h5 g2 [.string d9, .int .i64 e0, .int .i64 e1, .int .i64 e2, Sl.v e3, Sl.v e4, Sl.v e5] fun h6=>e9 g2 n h6))) ∧ (¬ (f1 < (f.len : Int)) → callS Tryz.prog 72 [Sl.v c, (Value.func (.func 152) #[] #[])] g0 fun k4 h7=>k4 = (Value.tuple #[]) ∧ callS Tryz.prog 153 [Sl.v c] h7 fun k5 h8=>∃ f9, k5 = (Sl.v f9) ∧ k7 f9 true h8))))
theorem wants_Context.go {c : Option Addr} {h u a0 a1 env : Sl} {a2 : ByteArray} {a3 a4 a5 : Int} {w : World} {k : Value → World → Prop} (a9 : wants_Context c h u a0 a1 env a2 a3 a4 a5 w fun a6 a7 a8=>k (Value.tuple #[Sl.v a6, .bool a7]) a8) : callS Tryz.prog 96 [.pointer c, (.agg #[Sl.v h, Sl.v u, Sl.v a0, Sl.v a1]), Sl.v env, (.agg #[.string a2, .int .i64 a3, .int .i64 a4, .int .i64 a5])] w k := rgo (sk := (.s (.r []) (.s (.s (.r []) (.c (.s (.r []) .o) .o)) (.s (.r []) (.s (.r []) (.s (.r []) (.s (.s (.r []) (.b (.l [(11, 27), (12, 27), (13, 4)] (.s (.s (.r []) (.c .o .o)) (.s (.b (.j [(14, 0), (15, 5)] (.r []) (.s (.s (.r []) (.c (.s (.r []) .o) .o)) (.s (.r []) (.b (.l [(11, 27), (12, 27), (50, 4)] (.s (.r []) (.s (.c .o .o) (.j [(11, 27), (12, 27)] (.b (.s (.r []) (.s (.r []) (.s (.s (.r []) (.c (.s (.r []) .o) .o)) (.s (.r []) (.c (.s (.r []) (.r [])) .o)))))) (.r [])))))))))) (.r [])))))) (.s (.r []) (.s (.r []) .o))))))))) (args := [sv (Value.pointer c), sv (.agg #[Sl.v h, Sl.v u, Sl.v a0, Sl.v a1]), sv (Sl.v env), sv (.agg #[.string a2, .int .i64 a3, .int .i64 a4, .int .i64 a5])]) Tryz.func96 (Eq.mpr (by kernel_rfl) a9)
def resolve_search_bind_2 (m : ByteArray) (n o p : Int) (q r : Sl) (s : Addr) (z : World) (a0 : Bool → World → Prop) : Prop :=
 newS z [.string m, .int .i64 n, .int .i64 o, .int .i64 p, Sl.v q, Sl.v r] 64 fun x a=>∃ t, ldc a s [.string t] ∧ ∃ u, ldc a x [.string u] ∧ bnd (bEq t u) fun (v : Bool)=>∃ c d e, grd v (ldc a (s.add 1) [.int .i64 c, .int .i64 d, .int .i64 e]) ∧ ∃ f g h, grd v (ldc a (x.add 1) [.int .i64 f, .int .i64 g, .int .i64 h]) ∧ bnd (v && ((c == f) && ((d == g) && ((e == h) && true)))) fun (j : Bool)=>∃ k, grd j (ldc a (s.add 4) [Sl.v k]) ∧ ∃ l, grd j (ldc a (x.add 4) [Sl.v l]) ∧ gCall j (fun (b : Bool) (i : World)=>a0 (j && b) i) (fun y=>callS Tryz.prog 68 [Sl.v k, Sl.v l] a fun a1 i=>∃ b, a1 = .bool b ∧ y b i) (fun y=>y false a)
theorem resolve_search_bind_2.go {h : ByteArray} {u a0 a1 : Int} {a2 a3 : Sl} {a4 : Addr} {w : World} {k : Value → World → Prop} (a7 : resolve_search_bind_2 h u a0 a1 a2 a3 a4 w fun a5 a6=>k (Value.bool a5) a6) : callS Tryz.prog 97 [(.agg #[.string h, .int .i64 u, .int .i64 a0, .int .i64 a1, Sl.v a2, Sl.v a3]), (Value.pointer (some a4))] w k := rgo (sk := (.s (.r []) (.s (.r []) .o))) (args := [sv (.agg #[.string h, .int .i64 u, .int .i64 a0, .int .i64 a1, Sl.v a2, Sl.v a3]), sa a4]) Tryz.func97 (Eq.mpr (by kernel_rfl) a7)
def slices_IndexFunc_resolvechoiceresolvechoice (h : Sl) (n : Value) (o : World) (m : Int → World → Prop) : Prop :=
 loop1 0 o fun f j l=>((f < (h.len : Int) → ∃ k, (h.a = some k ∧ (0 : Int) ≤ f ∧ f < (h.len : Int)) ∧ ∃ b c a d e, ldc j (k.add (f.toNat * 5)) [.int .i64 b, .string c, Sl.v a, .bool d, .int .i64 e] ∧ callV Tryz.prog n [(.agg #[.int .i64 b, .string c, Sl.v a, .bool d, .int .i64 e])] j fun p i=>∃ g, p = .bool g ∧ ((g = true → m f i) ∧ (g = false → l (wrapI (f + 1)) i))) ∧ (¬ (f < (h.len : Int)) → m (-1) j))
theorem slices_IndexFunc_resolvechoiceresolvechoice.go {h : Sl} {f : Value} {w : World} {k : Value → World → Prop} (a1 : slices_IndexFunc_resolvechoiceresolvechoice h f w fun u a0=>k (Value.int .i64 u) a0) : callS Tryz.prog 98 [Sl.v h, f] w k := rgo (sk := (.s (.r []) (.s (.s (.r []) (.b (.l [(8, 4)] (.s (.r []) (.s (.c .o .o) (.s (.b (.s (.r []) (.s (.r []) (.c (.s (.r []) .o) .o)))) (.r []))))))) (.s (.r []) .o)))) (args := [sv (Sl.v h), sv f]) Tryz.func98 (Eq.mpr (by kernel_rfl) a1)
def resolve_search_back_1 (c : Int) (d : ByteArray) (a : Sl) (e : Bool) (f : Int) (j : Addr) (m : World) (n : Bool → World → Prop) : Prop :=
 newS m [.int .i64 c, .string d, Sl.v a, .bool e, .int .i64 f] 94 fun o k=>bnd k.drew fun (b : World)=>∃ g, ldc b o [.int .i64 g] ∧ ∃ h, ldc b j [.pointer h] ∧ ∃ l, (h = some l) ∧ ∃ i, ldc b l [.int .i64 i] ∧ n (g == i) b
theorem resolve_search_back_1.go {u : Int} {a0 : ByteArray} {h : Sl} {a1 : Bool} {a2 : Int} {a3 : Addr} {w : World} {k : Value → World → Prop} (a6 : resolve_search_back_1 u a0 h a1 a2 a3 w fun a4 a5=>k (Value.bool a4) a5) : callS Tryz.prog 99 [(.agg #[.int .i64 u, .string a0, Sl.v h, .bool a1, .int .i64 a2]), (Value.pointer (some a3))] w k := rgo (sk := (.s (.r []) (.s (.r []) .o))) (args := [sv (.agg #[.int .i64 u, .string a0, Sl.v h, .bool a1, .int .i64 a2]), sa a3]) Tryz.func99 (Eq.mpr (by kernel_rfl) a6)
end Go.Hal.SE
