/- Lemmas for the claim K08r: how the program's functions run, and what they answer; no condition but those that each theorem names. -/
import Derived.WalkKit
import Derived.Deep.LoopGhost
set_option linter.unusedVariables false
set_option linter.unusedSimpArgs false
namespace Go.Hal
open Go Go.RowKit
def Ext (w w' : World) : Prop := Below w.heap.size w w'
theorem Ext.refl (w : World) : Ext w w := Below.refl _ _
theorem Ext.size {w w' : World} (h : Ext w w') : w.heap.size ≤ w'.heap.size := Below.size h
theorem Ext.trans {a b c : World} (h : Ext a b) (k : Ext b c) : Ext a c := Below.trans h (Below.mono k h.size)
theorem Ext.trans' {a b c : World} (h : Ext a b) (k : Below a.heap.size b c) : Ext a c := Below.trans h k
theorem Ext.block {w w' : World} (h : Ext w w') {b : Nat} (hb : b < w.heap.size) : w'.heap[b]? = w.heap[b]? := Below.block h b hb
theorem Ext.alloc (w : World) (o : Obj) : Ext w (w.alloc o) := Below.alloc (Below.refl _ _) (Nat.le_refl _) o
theorem Ext.drew (w : World) : Ext w w.drew := Below.drew (Below.refl _ _)
theorem Ext.cell {w w' : World} (h : Ext w w') {a : Addr} {v : Value} (hc : w.cell? a = some v) : w'.cell? a = some v :=
  (World.cell?_of_block (h.block (World.block_lt_of_cell? w a hc))).trans hc
section orders
variable {P : Program} {ops : Array Oper} {Q : Exit → Act → World → Prop} {md : Region.Mode} {X : Nat → Bool}
def wpAnyX (P : Program) (md : Region.Mode) (ops : Array Oper) (Q : Exit → Act → World → Prop) (X : Nat → Bool) : Nat → Array Bool → Act → World → Prop
  | 0, listed, a, w => Region.ready md ops listed = [] ∧ Q .normal a w
  | fuel + 1, listed, a, w => (Region.ready md ops listed = [] → Q .normal a w) ∧
      ∀ i ∈ Region.ready md ops listed, wpOp P ops Q i (fun a' w' => (X i = true → Ext w w') ∧ wpAnyX P md ops Q X fuel (listed.setIfInBounds i true) a' w') a w
theorem wpAny_of_X : ∀ (fuel : Nat) (listed : Array Bool) (a : Act) (w : World), wpAnyX P md ops Q X fuel listed a w → wpAny P md ops Q fuel listed a w
  | 0, _, _, _, h => h
  | fuel + 1, _, _, _, h => ⟨h.1, fun i hi => wpOp_mono (fun a' w' h' => wpAny_of_X fuel _ a' w' h'.2) (h.2 i hi)⟩
def YieldsX (P : Program) (ops : Array Oper) (pu : Bool) (o : Oper) (v : Value) (a : Act) (w : World) : Prop :=
  (Region.wanted o (yielded ops a.tmps) = true ∧ ∀ w', (pu = true ∨ Ext w w') → (execOp a.eval o).run P w' = .ok (.value v) w') ∨
  (Region.wanted o (yielded ops a.tmps) = false ∧ v = undef)
variable {pu : Bool}
theorem YieldsX.later {o : Oper} {v : Value} {a : Act} {w w' : World} (h : YieldsX P ops pu o v a w) (hx : pu = true ∨ Ext w w') : YieldsX P ops pu o v a w' :=
  h.imp (fun ⟨h1, h2⟩ => ⟨h1, fun _ hx' => h2 _ (by rcases hx with h | h <;> rcases hx' with k | k <;> first | exact .inl h | exact .inl k | exact .inr (h.trans k))⟩) id
theorem YieldsX.of_same {o : Oper} {v : Value} {a a' : Act} {w : World} (hy : YieldsX P ops pu o v a w) (he : execOp a'.eval o = execOp a.eval o)
    (hw : Region.wanted o (yielded ops a'.tmps) = Region.wanted o (yielded ops a.tmps)) : YieldsX P ops pu o v a' w := by
  unfold YieldsX at *
  rw [he, hw]
  exact hy
theorem YieldsX.wpOp {i : Nat} {o : Oper} {v : Value} {a : Act} {w : World} (hi : ops[i]? = some o) (hy : YieldsX P ops pu o v a w)
    {K : Act → World → Prop} (h : K (a.put o.dst v) w) : wpOp P ops Q i K a w := by
  unfold Go.wpOp
  simp only [hi]
  rcases hy with ⟨hw, hv⟩ | ⟨hw, rfl⟩
  · simp only [hw, if_true, Oper.wp, hv w (.inr (Ext.refl w)), Oper.upon]; exact .inl h
  · simp only [hw, Bool.false_eq_true, if_false]; exact h
theorem wpOp_putX {j : Nat} {oi oj : Oper} {v : Value} (hj : ops[j]? = some oj) (hap : oi.apart ops oj = true)
    (hsi : ∀ cs b, oi.op ≠ .select cs b) (hsj : ∀ cs b, oj.op ≠ .select cs b)
    (hQ : ∀ c a w, Q (.panic c) (a.put oi.dst v) w → Q (.panic c) a w) {K : Act → World → Prop} {a : Act} {w : World} (hK : ∀ a' w', K a' w' → pu = true ∨ Ext w w')
    (hy : YieldsX P ops pu oi v a w) (h : wpOp P ops Q j K (a.put oi.dst v) w) :
    wpOp P ops Q j (fun a' w' => YieldsX P ops pu oi v a' w' ∧ K (a'.put oi.dst v) w') a w := by
  obtain ⟨h1, h2, h3⟩ := Oper.apart_spec hap
  have keep : ∀ u w', K ((a.put oi.dst v).put oj.dst u) w' → YieldsX P ops pu oi v (a.put oj.dst u) w' ∧ K ((a.put oj.dst u).put oi.dst v) w' := fun u w' hk =>
    ⟨(hy.of_same (execOp_put oi hsi a oj.dst u h3) (wanted_put oi a oj.dst u h3)).later (hK _ _ hk), by rw [← Act.put_comm a v u h2]; exact hk⟩
  unfold wpOp at *
  simp only [hj] at *
  rw [wanted_put oj a oi.dst v h1] at h
  split
  · rename_i hw
    simp only [hw, if_true] at h
    rcases h with h | ⟨hasks, hlets⟩
    case inr => exact .inr ⟨by unfold Oper.asks at *; rw [execOp_put oj hsj a oi.dst v h1] at hasks; exact hasks, hlets⟩
    refine .inl ?_
    unfold Oper.wp at *
    rw [execOp_put oj hsj a oi.dst v h1] at h
    generalize (execOp a.eval oj).run P w = r at *
    cases r with
    | ok n w' =>
      cases n <;> simp only [Oper.upon] at h ⊢
      case value u => exact keep u w' h
      case skip => exact keep _ w' h
      case defer d =>
        refine ⟨((hy.of_same (a' := { a with defers := d :: a.defers }) rfl rfl).of_same (execOp_put oi hsi _ oj.dst _ h3) (wanted_put oi _ oj.dst _ h3)).later (hK _ _ h), ?_⟩
        rw [← Act.put_comm _ v undef h2, ← Act.put_defers]
        exact h
      case enter f args =>
        refine Calls.mono h fun e w'' he => ?_
        cases e with
        | returned u => exact keep u w'' he
        | panicked c => exact hQ _ _ _ he
        | outgrown => exact he
      case row row args => exact Rows.mono h fun u w'' he => keep u w'' he
    | halt x w' =>
      cases x <;> simp only [Oper.upon] at h ⊢
      case panic u => exact hQ _ _ _ h
  · rename_i hw
    simp only [hw] at h
    exact keep _ w h
def Closed (md : Region.Mode) (ops : Array Oper) (listed : Array Bool) : Prop :=
  ∀ k o, ops[k]? = some o → listed.getD k false = true → ∀ e ∈ o.after, Region.binds md e = true → listed.getD e.on false = true
theorem Closed.set {listed : Array Bool} (h : Closed md ops listed) {i : Nat} (hi : i ∈ Region.ready md ops listed) : Closed md ops (listed.setIfInBounds i true) := by
  intro k o ho hk e he hb
  by_cases hki : i = k
  · subst hki
    obtain ⟨_, o', ho', hall⟩ := mem_ready.1 hi
    obtain rfl : o = o' := by rw [ho] at ho'; exact Option.some.inj ho'
    exact getD_set_true (hall e he hb)
  · rw [getD_set_ne false hki] at hk
    exact getD_set_true (h k o ho hk e he hb)
def depOk (md : Region.Mode) (ops : Array Oper) (tab : Array Nat) : Bool :=
  (List.range ops.size).all fun j => match ops[j]? with
    | none => true
    | some o => (List.range ops.size).all fun i => !(tab.getD j 0).testBit i ||
        o.after.any fun e => Region.binds md e && decide (e.on < j) && (e.on == i || (tab.getD e.on 0).testBit i)
theorem dep_not {tab : Array Nat} (hd : depOk md ops tab = true) {listed : Array Bool} (hc : Closed md ops listed) {i : Nat} (hi : listed.getD i false = false) (hin : i < ops.size) :
    ∀ (n j : Nat) (o : Oper), j < n → ops[j]? = some o → (∀ e ∈ o.after, Region.binds md e = true → listed.getD e.on false = true) → (tab.getD j 0).testBit i = false := by
  intro n
  induction n with
  | zero => intro j o h; omega
  | succ n ih =>
    intro j o hj ho hall
    cases hb : (tab.getD j 0).testBit i with
    | false => rfl
    | true =>
      exfalso
      have hjs : j < ops.size := (Array.getElem?_eq_some_iff.1 ho).1
      simp only [depOk, List.all_eq_true, List.mem_range] at hd
      have h1 := hd j hjs
      rw [ho] at h1
      simp only [List.all_eq_true, List.mem_range] at h1
      have h2 := h1 i hin
      rw [hb] at h2
      simp only [Bool.not_true, Bool.false_or] at h2
      obtain ⟨e, he, h3⟩ := Array.any_eq_true'.1 h2
      simp only [Bool.and_eq_true, Bool.or_eq_true, decide_eq_true_eq, beq_iff_eq] at h3
      obtain ⟨⟨hbd, hlt⟩, h4⟩ := h3
      have hl := hall e he hbd
      rcases h4 with h4 | h4
      · rw [h4, hi] at hl; cases hl
      · have hes : e.on < ops.size := by omega
        have hoe : ops[e.on]? = some ops[e.on] := Array.getElem?_eq_getElem hes
        have := ih e.on _ (by omega) hoe (hc e.on _ hoe hl)
        rw [this] at h4; cases h4
theorem wpAnyX_first {tab : Array Nat} (hd : depOk md ops tab = true) {i : Nat} {oi : Oper} {v : Value} (hi : ops[i]? = some oi) (hsel : ∀ (j : Nat) (o : Oper) cs b, ops[j]? = some o → o.op ≠ .select cs b)
    (hQ : ∀ c a w, Q (.panic c) (a.put oi.dst v) w → Q (.panic c) a w) :
    ∀ (fuel : Nat) (listed : Array Bool) (a : Act) (w : World), listed.size = ops.size → Closed md ops listed →
      (∀ j oj, ops[j]? = some oj → j ≠ i → listed.getD j true = false → (tab.getD j 0).testBit i = false → oi.apart ops oj = true ∧ (pu = true ∨ X j = true)) →
      i ∈ Region.ready md ops listed → YieldsX P ops pu oi v a w →
      wpAnyX P md ops Q X fuel (listed.setIfInBounds i true) (a.put oi.dst v) w → wpAnyX P md ops Q X (fuel + 1) listed a w := by
  intro fuel
  induction fuel with
  | zero =>
    intro listed a w _ _ _ hr hy H
    refine ⟨fun h => (by rw [h] at hr; cases hr), fun j hj => ?_⟩
    by_cases hji : j = i
    · subst hji; exact hy.wpOp hi ⟨fun _ => Ext.refl w, H⟩
    · have := ready_mono hj hji
      rw [H.1] at this
      cases this
  | succ fuel ih =>
    intro listed a w hsz hcl hfree hr hy H
    refine ⟨fun h => (by rw [h] at hr; cases hr), fun j hj => ?_⟩
    by_cases hji : j = i
    · subst hji; exact hy.wpOp hi ⟨fun _ => Ext.refl w, H⟩
    · have h1 := H.2 j (ready_mono hj hji)
      obtain ⟨hjun, oj, hoj, hall⟩ := mem_ready.1 hj
      have hin : i < ops.size := (Array.getElem?_eq_some_iff.1 hi).1
      have hiun : listed.getD i false = false := by
        have h0 := (mem_ready.1 hr).1
        have : i < listed.size := by omega
        simp [this] at h0 ⊢; exact h0
      have hfr := hfree j oj hoj hji hjun (dep_not hd hcl hiun hin _ j oj (Nat.lt_succ_self j) hoj hall)
      have h2 := wpOp_putX (pu := pu) hoj hfr.1 (fun cs b => hsel i oi cs b hi) (fun cs b => hsel j oj cs b hoj) hQ (fun _ _ h => hfr.2.imp id h.1) hy h1
      have hfree' : ∀ k ok, ops[k]? = some ok → k ≠ i → (listed.setIfInBounds j true).getD k true = false →
          (tab.getD k 0).testBit i = false → oi.apart ops ok = true ∧ (pu = true ∨ X k = true) := fun k ok hk hki hun hno => by
        refine hfree k ok hk hki ?_ hno
        by_cases hjk : j = k
        · subst hjk; exact hjun
        · rw [getD_set_ne true hjk] at hun; exact hun
      refine wpOp_mono (fun a' w' h3 => ⟨h3.2.1, ih (listed.setIfInBounds j true) a' w' (by simpa using hsz) (hcl.set hj) hfree' (ready_mono hr (Ne.symm hji)) h3.1 ?_⟩) h2
      rw [Array.setIfInBounds_comm _ _ hji]
      exact h3.2.2
end orders
end Go.Hal
namespace Go.Hal
open Go Go.RowKit
structure Env where
  l : List (Nat × Value)
  base : Nat → Value
def look : List (Nat × Value) → (Nat → Value) → Nat → Value
  | [], b, t => b t
  | p :: r, b, t => bif Nat.beq p.1 t then p.2 else look r b t
namespace Env
def get (e : Env) (t : Nat) : Value := look e.l e.base t
def set (e : Env) (d : Nat) (v : Value) : Env := ⟨(d, v) :: e.l, e.base⟩
def put (e : Env) (d : Option Nat) (v : Value) : Env := match d with | some d => e.set d v | none => e
def eval (e : Env) : Operand → Value
  | .tmp t => e.get t
  | .const v => v
  | .global g => .pointer (some ⟨g, 0, none⟩)
  | .func f => .func (.func f) #[] #[]
def yields (e : Env) (ops : Array Oper) (j : Nat) : Option Bool :=
  match (ops[j]?).bind (·.dst) with
  | some d => match e.get d with | .bool b => some b | _ => none
  | none => none
theorem get_set (e : Env) (d : Nat) (v : Value) (t : Nat) : (e.set d v).get t = if d = t then v else e.get t := by
  simp only [get, set, look]
  by_cases h : d = t
  · subst h; simp
  · have : Nat.beq d t = false := by cases hb : Nat.beq d t with
      | false => rfl
      | true => exact absurd (Nat.eq_of_beq_eq_true hb) h
    simp [this, h]
end Env
structure Agrees (n : Nat) (a : Act) (e : Env) : Prop where
  size : a.tmps.size = n
  defers : a.defers = []
  get : ∀ t, a.tmps.getD t undef = e.get t
theorem Agrees.eval {n : Nat} {a : Act} {e : Env} (h : Agrees n a e) : a.eval = e.eval := by
  funext x
  cases x with
  | tmp t => exact h.get t
  | _ => rfl
theorem Agrees.yields {n : Nat} {a : Act} {e : Env} (h : Agrees n a e) (ops : Array Oper) : yielded ops a.tmps = e.yields ops := by
  funext j
  unfold yielded Env.yields
  cases hd : (ops[j]?).bind (·.dst) with
  | none => rfl
  | some d =>
    have h1 := h.get d
    rw [Array.getD_eq_getD_getElem?] at h1
    simp only [Option.bind_some]
    rw [← h1]
    cases hx : a.tmps[d]? with
    | none => rfl
    | some x => cases x <;> rfl
theorem Agrees.put {n : Nat} {a : Act} {e : Env} (h : Agrees n a e) {d : Option Nat} (hd : d.all (fun x => decide (x < n)) = true) (v : Value) : Agrees n (a.put d v) (e.put d v) := by
  cases d with
  | none => exact h
  | some d =>
    have hd' : d < n := by simpa using hd
    refine ⟨by simp [Act.put, h.size], h.defers, fun t => ?_⟩
    simp only [Act.put, Env.put, Env.get_set]
    have hds : d < a.tmps.size := by rw [h.size]; exact hd'
    by_cases hdt : d = t
    · subst hdt; simp [Array.getD, hds]
    · rw [if_neg hdt, ← h.get t]
      simp [Array.getElem?_setIfInBounds_ne hdt]
def lift (n : Nat) (K : Env → World → Prop) : Act → World → Prop := fun a w => ∃ e, Agrees n a e ∧ K e w
def post (n : Nat) (K : Env → World → Prop) (X : Exit → Env → World → Prop) : Exit → Act → World → Prop
  | .normal => lift n K
  | .panic _ => fun _ _ => False
  | .outgrown => fun _ _ => False
  | x => lift n (X x)
def upto (o : Oper) (e : Env) (k : Env → World → Prop) (P : Program) : Result Next → Prop
  | .ok (.value v) w' => k (e.put o.dst v) w'
  | .ok .skip w' => k (e.put o.dst undef) w'
  | .ok (.enter f args) w' => Calls P f args w' fun ed w'' => ∃ v, ed = .returned v ∧ k (e.put o.dst v) w''
  | _ => False
def opVC (P : Program) (o : Oper) (e : Env) (w : World) (k : Env → World → Prop) : Prop := upto o e k P ((execOp e.eval o).run P w)
def Oper.fits (n : Nat) (o : Oper) : Bool := o.dst.all (fun x => decide (x < n))
theorem opVC_sound {P : Program} {n : Nat} {o : Oper} {a : Act} {e : Env} {w : World} {k : Env → World → Prop} {Q : Exit → Act → World → Prop}
    (hf : Oper.fits n o = true) (h : Agrees n a e) (hv : opVC P o e w k) : o.wp P a w (lift n k) Q := by
  unfold opVC at hv
  unfold Oper.wp
  rw [h.eval]
  generalize (execOp e.eval o).run P w = r at *
  cases r with
  | ok x w' =>
    cases x <;> simp only [upto] at hv <;> simp only [Oper.upon]
    case value v => exact ⟨_, h.put hf v, hv⟩
    case skip => exact ⟨_, h.put hf _, hv⟩
    case enter f args =>
      refine Calls.mono hv fun ed w'' hh => ?_
      obtain ⟨v, rfl, hk⟩ := hh
      exact ⟨_, h.put hf v, hk⟩
  | halt x w' => simp only [upto] at hv
def vcL (P : Program) (ops : Array Oper) : List Oper → Env → World → (Env → World → Prop) → Prop
  | [], e, w, K => K e w
  | o :: r, e, w, K => if Region.wanted o (e.yields ops) then opVC P o e w fun e' w' => vcL P ops r e' w' K else vcL P ops r (e.put o.dst undef) w K
theorem vcL_sound {P : Program} {n : Nat} {ops : Array Oper} {Q : Exit → Act → World → Prop} {K : Env → World → Prop} (hQ : Q .normal = lift n K) :
    ∀ (l : List Oper) (a : Act) (e : Env) (w : World), l.all (Oper.fits n) = true → Agrees n a e → vcL P ops l e w K → wpList P ops Q l a w
  | [], a, e, w, _, h, hv => by
    show Q .normal a w
    rw [hQ]; exact ⟨e, h, hv⟩
  | o :: r, a, e, w, hf, h, hv => by
    rw [List.all_cons, Bool.and_eq_true] at hf
    unfold wpList
    rw [h.yields ops]
    unfold vcL at hv
    split
    · rename_i hw
      rw [if_pos hw] at hv
      refine .inl (Oper.wp_mono (fun a' w' hh => ?_) (opVC_sound (Q := Q) hf.1 h hv))
      obtain ⟨e', h', hv'⟩ := hh
      exact vcL_sound hQ r a' e' w' hf.2 h' hv'
    · rename_i hw
      rw [if_neg hw] at hv
      exact vcL_sound hQ r _ _ w hf.2 (h.put hf.1 _) hv
inductive Sched where
  | fin
  | pur (i : Nat) (s : Sched)
  | val (i : Nat) (s : Sched)
  | eff (i : Nat) (s : Sched) (others : Sched)
  | stop
def YieldsE (P : Program) (ops : Array Oper) (pu : Bool) (o : Oper) (v : Value) (e : Env) (w : World) : Prop :=
  (Region.wanted o (e.yields ops) = true ∧ ∀ w', (pu = true ∨ Ext w w') → (execOp e.eval o).run P w' = .ok (.value v) w') ∨
  (Region.wanted o (e.yields ops) = false ∧ v = undef)
def vcS (P : Program) (ops : Array Oper) (X : Nat → Bool) : Sched → Env → World → (Env → World → Prop) → Prop
  | .fin, e, w, K => K e w
  | .stop, _, _, _ => True
  | .pur i s, e, w, K => match ops[i]? with
    | some o => ∃ v, YieldsE P ops true o v e w ∧ vcS P ops X s (e.put o.dst v) w K
    | none => False
  | .val i s, e, w, K => match ops[i]? with
    | some o => ∃ v, YieldsE P ops false o v e w ∧ vcS P ops X s (e.put o.dst v) w K
    | none => False
  | .eff i s alt, e, w, K => (match ops[i]? with
    | some o => if Region.wanted o (e.yields ops) then opVC P o e w fun e' w' => (X i = true → Ext w w') ∧ vcS P ops X s e' w' K else vcS P ops X s (e.put o.dst undef) w K
    | none => False) ∧ vcS P ops X alt e w K
def Sched.alts : Sched → List Nat
  | .eff i _ alt => i :: alt.alts
  | _ => []
def freeX (ops : Array Oper) (tab : Array Nat) (X : Nat → Bool) (pu : Bool) (listed : Array Bool) (i : Nat) : Bool :=
  match ops[i]? with
  | none => false
  | some oi => (List.range ops.size).all fun j => j == i || listed.getD j true || (tab.getD j 0).testBit i || match ops[j]? with
      | some oj => oi.apart ops oj && (pu || X j)
      | none => true
def okS (ops : Array Oper) (tab : Array Nat) (X : Nat → Bool) : Sched → Nat → Array Bool → Bool → Bool
  | .fin, _, listed, _ => (Region.ready .any ops listed).isEmpty
  | .stop, _, _, top => !top
  | .pur i s, n + 1, listed, _ => (Region.ready .any ops listed).contains i && freeX ops tab X true listed i && okS ops tab X s n (listed.setIfInBounds i true) true
  | .val i s, n + 1, listed, _ => (Region.ready .any ops listed).contains i && freeX ops tab X false listed i && okS ops tab X s n (listed.setIfInBounds i true) true
  | .eff i s alt, n + 1, listed, top => (!top || (!(Region.ready .any ops listed).isEmpty && (Region.ready .any ops listed).all ((i :: alt.alts).contains ·))) && okS ops tab X s n (listed.setIfInBounds i true) true && okS ops tab X alt (n + 1) listed false
  | _, 0, _, _ => false
def regOk (ops : Array Oper) (X : Nat → Bool) (s : Sched) : Bool :=
  Region.noSelect ops && depOk .any ops (Region.before ops) && okS ops (Region.before ops) X s ops.size (Array.replicate ops.size false) true
section
variable {P : Program} {n : Nat} {ops : Array Oper} {Q : Exit → Act → World → Prop} {K : Env → World → Prop} {X : Nat → Bool}
theorem YieldsE.act {pu : Bool} {o : Oper} {v : Value} {e : Env} {a : Act} {w : World} (h : Agrees n a e) (hy : YieldsE P ops pu o v e w) : YieldsX P ops pu o v a w := by
  unfold YieldsX
  rw [h.yields ops, h.eval]
  exact hy
theorem freeX_spec {tab : Array Nat} {pu : Bool} {listed : Array Bool} {i : Nat} {oi : Oper} (hi : ops[i]? = some oi) (h : freeX ops tab X pu listed i = true) (j : Nat) (oj : Oper) (hj : ops[j]? = some oj)
    (hne : j ≠ i) (hun : listed.getD j true = false) (ht : (tab.getD j 0).testBit i = false) : oi.apart ops oj = true ∧ (pu = true ∨ X j = true) := by
  simp only [freeX, hi, List.all_eq_true, List.mem_range] at h
  have h1 := h j (Array.getElem?_eq_some_iff.1 hj).1
  rw [Array.getD_eq_getD_getElem?] at ht
  simpa [hj, hne, hun, ht] using h1
theorem vcS_sound (hQn : Q .normal = lift n K) (hQp : ∀ c a w, ¬ Q (.panic c) a w) (hsel : Region.noSelect ops = true) {tab : Array Nat} (hd : depOk .any ops tab = true)
    (hfit : ∀ (i : Nat) (o : Oper), ops[i]? = some o → Oper.fits n o = true) :
    ∀ (s : Sched) (fuel : Nat) (listed : Array Bool) (top : Bool) (a : Act) (e : Env) (w : World), listed.size = ops.size → Closed .any ops listed → okS ops tab X s fuel listed top = true → Agrees n a e → vcS P ops X s e w K →
      (top = true → wpAnyX P .any ops Q X fuel listed a w) ∧
      (∀ i ∈ s.alts, i ∈ Region.ready .any ops listed → ∀ f, fuel = f + 1 → wpOp P ops Q i (fun a' w' => (X i = true → Ext w w') ∧ wpAnyX P .any ops Q X f (listed.setIfInBounds i true) a' w') a w) := by
  intro s
  induction s with
  | fin =>
    intro fuel listed top a e w hsz hcl hok hag hv
    refine ⟨fun _ => ?_, fun i hi => by cases hi⟩
    have hr : Region.ready .any ops listed = [] := by
      cases fuel <;> simpa [okS] using hok
    have hq : Q .normal a w := by rw [hQn]; exact ⟨e, hag, hv⟩
    cases fuel with
    | zero => exact ⟨hr, hq⟩
    | succ f => exact ⟨fun _ => hq, by rw [hr]; intro i hi; cases hi⟩
  | stop =>
    intro fuel listed top a e w hsz hcl hok hag hv
    refine ⟨fun ht => ?_, fun i hi => by cases hi⟩
    subst ht
    cases fuel <;> simp [okS] at hok
  | pur i s ih =>
    intro fuel listed top a e w hsz hcl hok hag hv
    refine ⟨fun _ => ?_, fun i hi => by cases hi⟩
    cases fuel with
    | zero => simp [okS] at hok
    | succ f =>
      simp only [okS, Bool.and_eq_true, List.contains_iff_mem] at hok
      obtain ⟨⟨hr, hfr⟩, hok'⟩ := hok
      simp only [vcS] at hv
      cases ho : ops[i]? with
      | none => rw [ho] at hv; exact hv.elim
      | some o =>
        rw [ho] at hv
        obtain ⟨v, hy, hv'⟩ := hv
        refine wpAnyX_first (pu := true) hd ho (fun j o cs b h => Region.noSelect_spec hsel j o cs b h) (fun c a w h => (hQp c _ w h).elim) f listed a w hsz hcl (fun j oj => freeX_spec ho hfr j oj) hr (hy.act hag) ?_
        exact (ih f _ true _ _ w (by simpa using hsz) (hcl.set hr) hok' (hag.put (hfit i o ho) v) hv').1 rfl
  | val i s ih =>
    intro fuel listed top a e w hsz hcl hok hag hv
    refine ⟨fun _ => ?_, fun i hi => by cases hi⟩
    cases fuel with
    | zero => simp [okS] at hok
    | succ f =>
      simp only [okS, Bool.and_eq_true, List.contains_iff_mem] at hok
      obtain ⟨⟨hr, hfr⟩, hok'⟩ := hok
      simp only [vcS] at hv
      cases ho : ops[i]? with
      | none => rw [ho] at hv; exact hv.elim
      | some o =>
        rw [ho] at hv
        obtain ⟨v, hy, hv'⟩ := hv
        refine wpAnyX_first (pu := false) hd ho (fun j o cs b h => Region.noSelect_spec hsel j o cs b h) (fun c a w h => (hQp c _ w h).elim) f listed a w hsz hcl (fun j oj => freeX_spec ho hfr j oj) hr (hy.act hag) ?_
        exact (ih f _ true _ _ w (by simpa using hsz) (hcl.set hr) hok' (hag.put (hfit i o ho) v) hv').1 rfl
  | eff i s alt ih iha =>
    intro fuel listed top a e w hsz hcl hok hag hv
    cases fuel with
    | zero => simp [okS] at hok
    | succ f =>
      simp only [okS, Bool.and_eq_true] at hok
      obtain ⟨⟨htop, hok1⟩, hok2⟩ := hok
      simp only [vcS] at hv
      obtain ⟨hv1, hv2⟩ := hv
      have second : ∀ j ∈ (Sched.eff i s alt).alts, j ∈ Region.ready .any ops listed → ∀ f', f + 1 = f' + 1 → wpOp P ops Q j (fun a' w' => (X j = true → Ext w w') ∧ wpAnyX P .any ops Q X f' (listed.setIfInBounds j true) a' w') a w := by
        intro j hj hr f' hff
        obtain rfl : f = f' := by omega
        simp only [Sched.alts, List.mem_cons] at hj
        rcases hj with rfl | hj
        · unfold wpOp
          cases ho : ops[j]? with
          | none => rw [ho] at hv1; exact hv1.elim
          | some o =>
            rw [ho] at hv1
            have hf := hfit j o ho
            simp only [hag.yields ops]
            by_cases hw : Region.wanted o (e.yields ops) = true
            · simp only [hw, if_true] at hv1 ⊢
              refine .inl (Oper.wp_mono (fun a' w' hh => ?_) (opVC_sound (Q := Q) hf hag hv1))
              obtain ⟨e', h', hx, hv'⟩ := hh
              exact ⟨hx, (ih f _ true _ _ w' (by simpa using hsz) (hcl.set hr) hok1 h' hv').1 rfl⟩
            · simp only [hw, if_false, Bool.false_eq_true] at hv1 ⊢
              exact ⟨fun _ => Ext.refl w, (ih f _ true _ _ w (by simpa using hsz) (hcl.set hr) hok1 (hag.put hf _) hv1).1 rfl⟩
        · exact (iha (f + 1) listed false a e w hsz hcl hok2 hag hv2).2 j hj hr f rfl
      refine ⟨fun ht => ?_, second⟩
      subst ht
      simp only [Bool.not_true, Bool.false_or, Bool.and_eq_true, List.all_eq_true, List.contains_iff_mem] at htop
      exact ⟨fun h0 => by rw [h0] at htop; simp at htop, fun j hj => second j (htop.2 j hj) hj f rfl⟩
end
end Go.Hal
namespace Go.Hal
open Go Go.RowKit
def Code.fits (n : Nat) : Code → Bool
  | .region _ ops _ => ops.toList.all (Oper.fits n)
  | .seq a b => Code.fits n a && Code.fits n b
  | .cond _ a b => Code.fits n a && Code.fits n b
  | .block _ c => Code.fits n c
  | .loop c => Code.fits n c
  | .scope c => Code.fits n c
  | _ => true
def Vc (P : Program) (n : Nat) (c : Code) (e : Env) (w : World) (K : Env → World → Prop) (X : Exit → Env → World → Prop) : Prop :=
  Code.fits n c = true → ∀ a, Agrees n a e → c.wp P (post n K X) a w
section
variable {P : Program} {n : Nat} {e : Env} {w : World} {K : Env → World → Prop} {X : Exit → Env → World → Prop}
theorem Vc.skip (h : K e w) : Vc P n .skip e w K X := fun _ _ ha => wp_skip ⟨e, ha, h⟩
theorem Vc.label {l : Nat} (h : K e w) : Vc P n (.label l) e w K X := fun _ _ ha => wp_label ⟨e, ha, h⟩
theorem Vc.ret (h : X .ret e w) : Vc P n .ret e w K X := fun _ _ ha => wp_ret ⟨e, ha, h⟩
theorem Vc.exit {id : Nat} (h : X (.exit id) e w) : Vc P n (.exit id) e w K X := fun _ _ ha => wp_exit ⟨e, ha, h⟩
theorem Vc.goto {l : Nat} (h : X (.goto l) e w) : Vc P n (.goto l) e w K X := fun _ _ ha => wp_goto ⟨e, ha, h⟩
theorem Vc.seq {x y : Code} (h : Vc P n x e w (fun e w => Vc P n y e w K X) X) : Vc P n (.seq x y) e w K X := fun hf a ha => by
  simp only [Code.fits, Bool.and_eq_true] at hf
  refine wp_seq (wp_mono (h hf.1 a ha) fun ex a' w' hq => ?_)
  cases ex with
  | normal => obtain ⟨e', ha', hv⟩ := hq; exact hv hf.2 a' ha'
  | _ => exact hq
theorem Vc.condT {c : Operand} {x y : Code} (hc : e.eval c = .bool true) (h : Vc P n x e w K X) : Vc P n (.cond c x y) e w K X := fun hf a ha => by
  simp only [Code.fits, Bool.and_eq_true] at hf
  exact wp_cond_true (by rw [ha.eval]; exact hc) (h hf.1 a ha)
theorem Vc.condF {c : Operand} {x y : Code} (hc : e.eval c = .bool false) (h : Vc P n y e w K X) : Vc P n (.cond c x y) e w K X := fun hf a ha => by
  simp only [Code.fits, Bool.and_eq_true] at hf
  exact wp_cond_false (by rw [ha.eval]; exact hc) (h hf.2 a ha)
theorem Vc.cond {c : Operand} {x y : Code} (t : Bool) (hc : e.eval c = .bool t) (h1 : t = true → Vc P n x e w K X) (h2 : t = false → Vc P n y e w K X) : Vc P n (.cond c x y) e w K X := by
  cases t
  · exact Vc.condF hc (h2 rfl)
  · exact Vc.condT hc (h1 rfl)
def outOf (id : Nat) (K : Env → World → Prop) (X : Exit → Env → World → Prop) : Exit → Env → World → Prop
  | .exit i => bif Nat.beq i id then K else X (.exit i)
  | x => X x
theorem Vc.block {id : Nat} {c : Code} (h : Vc P n c e w K (outOf id K X)) : Vc P n (.block id c) e w K X := fun hf a ha => by
  refine wp_block (wp_mono (h hf a ha) fun ex a' w' hq => ?_)
  cases ex with
  | exit i =>
    obtain ⟨e', ha', hv⟩ := hq
    simp only [outOf] at hv
    show if i = id then post n K X .normal a' w' else post n K X (.exit i) a' w'
    cases hb : Nat.beq i id with
    | true => rw [hb] at hv; rw [if_pos (Nat.eq_of_beq_eq_true hb)]; exact ⟨e', ha', hv⟩
    | false => rw [hb] at hv; rw [if_neg (Nat.ne_of_beq_eq_false hb)]; exact ⟨e', ha', hv⟩
  | _ => exact hq
theorem Vc.loop {c : Code} (I : Env → World → Prop) (μ : Env → World → Nat) (h0 : I e w) (round : ∀ e w, I e w → Vc P n c e w (fun e' w' => I e' w' ∧ μ e' w' < μ e w) X) : Vc P n (.loop c) e w K X := fun hf a ha => by
  refine wp_loop_ghost (fun m a w => ∃ e, Agrees n a e ∧ I e w ∧ μ e w = m) (μ e w) ⟨e, ha, h0, rfl⟩ fun m a' w' hI => ?_
  obtain ⟨e', ha', hi, hm⟩ := hI
  refine wp_mono (round e' w' hi hf a' ha') fun ex a2 w2 hq => ?_
  cases ex with
  | normal => obtain ⟨e2, ha2, hi2, hlt⟩ := hq; exact ⟨μ e2 w2, by rw [← hm]; exact hlt, e2, ha2, hi2, rfl⟩
  | _ => exact hq
theorem Vc.region {id : Nat} {l : List Oper} (h : vcL P l.toArray l e w K) : Vc P n (.region id l.toArray false) e w K X := fun hf a ha => by
  refine wp_region_lit (vcL_sound (K := K) rfl l a e w (by simpa [Code.fits] using hf) ha h)
theorem Vc.draw {id : Nat} {l : List Oper} (hm : P.follows .mixedOrders = true) (X' : Nat → Bool) (s : Sched) (hok : regOk l.toArray X' s = true) (h : vcS P l.toArray X' s e w.drew K) : Vc P n (.region id l.toArray true) e w K X := fun hf a ha => by
  simp only [regOk, Bool.and_eq_true] at hok
  obtain ⟨⟨hsel, hd⟩, hs⟩ := hok
  refine wp_region_any hm (wpAny_of_X (X := X') _ _ _ _ ?_)
  refine (vcS_sound (n := n) (K := K) (X := X') (Q := post n K X) rfl (fun c a w h => h) hsel hd (fun i o ho => ?_) s _ _ true a e w.drew (by simp) ?_ hs ha h).1 rfl
  · simp only [Code.fits, List.all_eq_true] at hf
    exact hf o (by simpa using Array.mem_of_getElem? ho)
  · intro k o _ hk
    simp only [Array.getD_eq_getD_getElem?, Array.getElem?_replicate] at hk
    split at hk <;> simp at hk
theorem Vc.mono {c : Code} {K' : Env → World → Prop} {X' : Exit → Env → World → Prop} (h : Vc P n c e w K X) (hK : ∀ e w, K e w → K' e w) (hX : ∀ x e w, X x e w → X' x e w) : Vc P n c e w K' X' := fun hf a ha =>
  wp_mono (h hf a ha) fun ex a' w' hq => by
    cases ex with
    | normal => obtain ⟨e', h1, h2⟩ := hq; exact ⟨e', h1, hK _ _ h2⟩
    | panic c => exact hq
    | outgrown => exact hq
    | exit i => obtain ⟨e', h1, h2⟩ := hq; exact ⟨e', h1, hX _ _ _ h2⟩
    | goto l => obtain ⟨e', h1, h2⟩ := hq; exact ⟨e', h1, hX _ _ _ h2⟩
    | ret => obtain ⟨e', h1, h2⟩ := hq; exact ⟨e', h1, hX _ _ _ h2⟩
end
def initL : Nat → List Value → List (Nat × Value)
  | _, [] => []
  | k, v :: r => (k, v) :: initL (k + 1) r
def Env.init (args : List Value) : Env := ⟨initL 0 args, fun _ => undef⟩
theorem look_initL (l : List Value) (b : Nat → Value) : ∀ (k t : Nat), look (initL k l) b t = if k ≤ t then (l[t - k]?).getD (b t) else b t := by
  induction l with
  | nil => intro k t; simp [initL, look]
  | cons v r ih =>
    intro k t
    simp only [initL, look]
    by_cases h : k = t
    · subst h; simp
    · have : Nat.beq k t = false := by
        cases hb : Nat.beq k t with
        | false => rfl
        | true => exact absurd (Nat.eq_of_beq_eq_true hb) h
      rw [this, cond_false, ih]
      by_cases hk : k ≤ t
      · have h1 : k + 1 ≤ t := by omega
        have h2 : t - k = (t - (k + 1)) + 1 := by omega
        simp [hk, h1, h2]
      · simp [hk, show ¬ k + 1 ≤ t by omega]
def resE (rs : Array ResultVar) (g : Nat → Value) : Sem Value := do
  let vs ← rs.mapM fun
    | .tmp t => pure (g t)
    | .cell a t => do loadVar t (← asAddr (g a))
  pure (if h : vs.size = 1 then vs[0] else .tuple vs)
theorem results_eq (fn : Func) (tmps : Array Value) : results fn tmps = resE fn.results (fun t => tmps.getD t undef) := rfl
def done (P : Program) (fn : Func) (R : Value → World → Prop) : Env → World → Prop := fun e w => ∃ v, (resE fn.results e.get).run P w = .ok v w ∧ R v w
def outs (D : Env → World → Prop) : Exit → Env → World → Prop
  | .ret => D
  | _ => fun _ _ => False
theorem calls_of_vc {P : Program} {f : FuncId} {fn : Func} {c : Code} {args : List Value} {w : World} {R : Value → World → Prop} (n : Nat) (hn : fn.ntmps = n) (hf : P.funcs[f]? = some fn) (hb : fn.body = some c) (hfit : Code.fits n c = true) (hargs : args.length ≤ n)
    (h : Vc P n c (Env.init args) w (done P fn R) (outs (done P fn R))) :
    Calls P f args.toArray w fun e w' => ∃ v, e = .returned v ∧ R v w' := by
  subst hn
  refine calls_of_wp hf hb ?_
  have hag : Agrees fn.ntmps { tmps := args.toArray ++ Array.replicate (fn.ntmps - args.toArray.size) undef, defers := [] } (Env.init args) := by
    refine ⟨by simp; omega, rfl, fun t => ?_⟩
    simp only [Env.init, Env.get, look_initL, Array.getD_eq_getD_getElem?, Nat.zero_le, if_true, Nat.sub_zero]
    rw [Array.getElem?_append]
    split
    · simp at *
    · rename_i hlt
      simp only [List.size_toArray, Nat.not_lt] at hlt
      rw [List.getElem?_eq_none hlt, Array.getElem?_replicate]
      split <;> rfl
  refine wp_mono (h hfit _ hag) fun ex a w' hq => ?_
  have fin : ∀ e', Agrees fn.ntmps a e' → done P fn R e' w' → a.defers = [] ∧ ∃ v, (results fn a.tmps).run P w' = .ok v w' ∧ ∃ v', Ending.returned v = .returned v' ∧ R v' w' := fun e' ha hd => by
    obtain ⟨v, h1, h2⟩ := hd
    refine ⟨ha.defers, v, ?_, v, rfl, h2⟩
    rw [results_eq]
    have : (fun t => a.tmps.getD t undef) = e'.get := funext ha.get
    rw [this]; exact h1
  cases ex with
  | normal => obtain ⟨e', ha, hd⟩ := hq; exact fin e' ha hd
  | ret => obtain ⟨e', ha, hd⟩ := hq; exact fin e' ha hd
  | exit i => obtain ⟨_, _, hd⟩ := hq; exact hd.elim
  | goto l => obtain ⟨_, _, hd⟩ := hq; exact hd.elim
  | panic c => exact hq.elim
  | outgrown => exact hq.elim
end Go.Hal
namespace Go.Hal
open Go Go.RowKit
structure Sl where
  a : Option Addr
  len : Nat
  cap : Nat
  deriving DecidableEq
def Sl.v (s : Sl) : Value := .slice s.a s.len s.cap
def Sl.nil : Sl := ⟨none, 0, 0⟩
def wrapI (x : Int) : Int := IntKind.i64.wrap x
def ldc (w : World) (a : Addr) (cs : List Value) : Prop := ∀ (j : Nat) (v : Value), cs[j]? = some v → w.cell? (a.add j) = some v
def splice (cur : Array Value) (o : Nat) (cs : List Value) : Array Value := (cur.toList.take o ++ cs ++ cur.toList.drop (o + cs.length)).toArray
def stw (w : World) (a : Addr) (cs : List Value) (k : World → Prop) : Prop :=
  ∃ cur t, w.heap[a.block]? = some (.cells cur t (0, 0)) ∧ a.spot = none ∧ a.off + cs.length ≤ cur.size ∧ k (w.setRow a.block (splice cur a.off cs))
def semS (P : Program) (s : Sem Value) (w : World) (k : Value → World → Prop) : Prop := ∃ v w', s.run P w = .ok v w' ∧ k v w'
def semU (P : Program) (s : Sem Unit) (w : World) (k : World → Prop) : Prop := ∃ w', s.run P w = .ok () w' ∧ k w'
def callS (P : Program) (f : FuncId) (args : List Value) (w : World) (k : Value → World → Prop) : Prop := Calls P f args.toArray w fun ed w' => ∃ v, ed = .returned v ∧ k v w'
def callX (P : Program) (f : FuncId) (args : List Value) (w : World) (k : Value → World → Prop) : Prop := callS P f args w fun v w' => Ext w w' ∧ k v w'
def Enters (P : Program) (g : FuncId) : Prop := ∀ args w, (callFunc g args).run P w = .ok (.enter g args) w
def callV (P : Program) (f : Value) (args : List Value) (w : World) (k : Value → World → Prop) : Prop := ∃ g cap, f = .func (.func g) #[] cap ∧ Enters P g ∧ callS P g (args ++ cap.toList) w k
def bnd {α : Sort _} (x : α) (k : α → Prop) : Prop := ∀ y, y = x → k y
def join {τ : Sort _} (R : τ) (b : τ → Prop) : Prop := b R
def grd (g : Bool) (p : Prop) : Prop := g = true → p
theorem callS.mono {P : Program} {f : FuncId} {args : List Value} {w : World} {k k' : Value → World → Prop} (h : callS P f args w k) (hk : ∀ v w', k v w' → k' v w') : callS P f args w k' :=
  Calls.mono h fun _ _ ⟨v, he, h⟩ => ⟨v, he, hk _ _ h⟩
theorem ldc.ext {w w' : World} {a : Addr} {cs : List Value} (h : ldc w a cs) (hx : Ext w w') : ldc w' a cs := fun j v hj => hx.cell (h j v hj)
section
variable {P : Program} {ops : Array Oper} {o : Oper} {r : List Oper} {e : Env} {w : World} {K : Env → World → Prop} {X : Nat → Bool} {i : Nat} {s alt : Sched}
theorem vcL_nil (h : K e w) : vcL P ops [] e w K := h
theorem wanted_none (hg : o.guard = none) : Region.wanted o (e.yields ops) = true := by simp [Region.wanted, hg]
theorem vcL_pure (hg : o.guard = none) {d : Nat} (hd : o.dst = some d) (v : Value) (hr : ∀ w, (execOp e.eval o).run P w = .ok (.value v) w) (h : vcL P ops r (e.set d v) w K) : vcL P ops (o :: r) e w K := by
  unfold vcL
  rw [if_pos (wanted_none hg), opVC, hr w]
  rw [show e.set d v = e.put o.dst v by rw [hd]; rfl] at h
  exact h
theorem vcL_val (hg : o.guard = none) {d : Nat} (hd : o.dst = some d) (v : Value) (hr : (execOp e.eval o).run P w = .ok (.value v) w) (h : vcL P ops r (e.set d v) w K) : vcL P ops (o :: r) e w K := by
  unfold vcL
  rw [if_pos (wanted_none hg), opVC, hr]
  rw [show e.set d v = e.put o.dst v by rw [hd]; rfl] at h
  exact h
theorem vcL_eff (hg : o.guard = none) (h : opVC P o e w fun e' w' => vcL P ops r e' w' K) : vcL P ops (o :: r) e w K := by
  unfold vcL
  rw [if_pos (wanted_none hg)]
  exact h
theorem vcL_guard (g : Bool) (hw : Region.wanted o (e.yields ops) = g) {d : Nat} (hd : o.dst = some d) (v : Value) (hr : g = true → (execOp e.eval o).run P w = .ok (.value v) w) (h : vcL P ops r (e.set d (bif g then v else undef)) w K) : vcL P ops (o :: r) e w K := by
  unfold vcL
  rw [hw]
  cases g with
  | true => rw [if_pos rfl, opVC, hr rfl]; simpa [upto, hd, Env.put] using h
  | false => simpa [hd, Env.put] using h
theorem vcL_effG (g : Bool) (hw : Region.wanted o (e.yields ops) = g) (h1 : g = true → opVC P o e w fun e' w' => vcL P ops r e' w' K) {d : Nat} (hd : o.dst = some d) (h2 : g = false → vcL P ops r (e.set d undef) w K) : vcL P ops (o :: r) e w K := by
  unfold vcL
  rw [hw]
  cases g with
  | true => exact h1 rfl
  | false => simpa [hd, Env.put] using h2 rfl
theorem list_get {l : List Oper} (hi : l[i]? = some o) : l.toArray[i]? = some o := by rw [List.getElem?_toArray]; exact hi
theorem vcS_pure {l : List Oper} (hi : l[i]? = some o) (hg : o.guard = none) {d : Nat} (hd : o.dst = some d) (v : Value) (hr : ∀ w, (execOp e.eval o).run P w = .ok (.value v) w) (h : vcS P l.toArray X s (e.set d v) w K) : vcS P l.toArray X (.pur i s) e w K := by
  unfold vcS
  rw [list_get hi]
  exact ⟨v, .inl ⟨wanted_none hg, fun w' _ => hr w'⟩, by rw [hd]; exact h⟩
theorem vcS_guard {l : List Oper} (hi : l[i]? = some o) (g : Bool) (hw : Region.wanted o (e.yields l.toArray) = g) {d : Nat} (hd : o.dst = some d) (v : Value) (hr : g = true → ∀ w, (execOp e.eval o).run P w = .ok (.value v) w) (h : vcS P l.toArray X s (e.set d (bif g then v else undef)) w K) : vcS P l.toArray X (.pur i s) e w K := by
  unfold vcS
  rw [list_get hi]
  refine ⟨_, ?_, by rw [hd]; exact h⟩
  cases g with
  | true => exact .inl ⟨hw, fun w' _ => hr rfl w'⟩
  | false => exact .inr ⟨hw, rfl⟩
theorem vcS_val {l : List Oper} (hi : l[i]? = some o) (hg : o.guard = none) {d : Nat} (hd : o.dst = some d) (v : Value) (hr : ∀ w', Ext w w' → (execOp e.eval o).run P w' = .ok (.value v) w') (h : vcS P l.toArray X s (e.set d v) w K) : vcS P l.toArray X (.val i s) e w K := by
  unfold vcS
  rw [list_get hi]
  exact ⟨v, .inl ⟨wanted_none hg, fun w' hx => hr w' (by simpa using hx)⟩, by rw [hd]; exact h⟩
theorem vcS_valG {l : List Oper} (hi : l[i]? = some o) (g : Bool) (hw : Region.wanted o (e.yields l.toArray) = g) {d : Nat} (hd : o.dst = some d) (v : Value) (hr : g = true → ∀ w', Ext w w' → (execOp e.eval o).run P w' = .ok (.value v) w') (h : vcS P l.toArray X s (e.set d (bif g then v else undef)) w K) : vcS P l.toArray X (.val i s) e w K := by
  unfold vcS
  rw [list_get hi]
  refine ⟨_, ?_, by rw [hd]; exact h⟩
  cases g with
  | true => exact .inl ⟨hw, fun w' hx => hr rfl w' (by simpa using hx)⟩
  | false => exact .inr ⟨hw, rfl⟩
theorem vcS_eff {l : List Oper} (hi : l[i]? = some o) (hg : o.guard = none) (h : opVC P o e w fun e' w' => (X i = true → Ext w w') ∧ vcS P l.toArray X s e' w' K) (ha : vcS P l.toArray X alt e w K) : vcS P l.toArray X (.eff i s alt) e w K := by
  unfold vcS
  rw [list_get hi]
  simp only [wanted_none hg, if_true]
  exact ⟨h, ha⟩
theorem vcS_effG {l : List Oper} (hi : l[i]? = some o) (g : Bool) (hw : Region.wanted o (e.yields l.toArray) = g) (h1 : g = true → opVC P o e w fun e' w' => (X i = true → Ext w w') ∧ vcS P l.toArray X s e' w' K) {d : Nat} (hd : o.dst = some d) (h2 : g = false → vcS P l.toArray X s (e.set d undef) w K) (ha : vcS P l.toArray X alt e w K) : vcS P l.toArray X (.eff i s alt) e w K := by
  unfold vcS
  rw [list_get hi]
  simp only [hw]
  refine ⟨?_, ha⟩
  cases g with
  | true => exact h1 rfl
  | false => simpa [hd, Env.put] using h2 rfl
theorem vcS_fin (h : K e w) : vcS P ops X .fin e w K := h
theorem vcS_stop : vcS P ops X .stop e w K := trivial
theorem wanted_g {j : Nat} {want : Bool} (hg : o.guard = some (j, want)) {d : Nat} (hd : (ops[j]?).bind (·.dst) = some d) (b : Bool) (hb : e.get d = .bool b) (g : Bool) (h : g = (b == want)) : Region.wanted o (e.yields ops) = g := by
  subst h
  simp only [Region.wanted, hg, Env.yields, hd, hb]
  cases b <;> cases want <;> rfl
theorem wanted_gg {j : Nat} {want : Bool} (hg : o.guard = some (j, want)) {d : Nat} (hd : (ops[j]?).bind (·.dst) = some d) (g0 b : Bool) (hb : e.get d = bif g0 then .bool b else undef) (g : Bool) (h : g = (g0 && (b == want))) : Region.wanted o (e.yields ops) = g := by
  subst h
  simp only [Region.wanted, hg, Env.yields, hd, hb]
  cases g0 <;> cases b <;> cases want <;> rfl
theorem run_load1 {t : TypeId} {a : Addr} {v : Value} (hagg : ∀ w, (isAgg t).run P w = .ok false w) (hc : ldc w a [v]) : (Instr.loadAt t (.pointer (some a))).run P w = .ok v w := by
  have h0 := hc 0 v rfl
  simp only [Addr.add, if_true] at h0
  simp [Instr.loadAt, Instr.sureAddr, loadVar, Sem.run_bind, hagg, load, Sem.run, h0]
theorem run_loadN {t : TypeId} {a : Addr} {cs : List Value} (hagg : ∀ w, (isAgg t).run P w = .ok true w) (hs : ∀ w, (Go.sizeOf t).run P w = .ok cs.length w) (hc : ldc w a cs) : (Instr.loadAt t (.pointer (some a))).run P w = .ok (.agg cs.toArray) w := by
  have h := run_loadCells_list (P := P) (w := w) a cs hc
  simp [Instr.loadAt, Instr.sureAddr, loadVar, Sem.run_bind, hagg, hs, h]
theorem exec_load {t : TypeId} {x : Operand} {a : Addr} {v : Value} (ho : o.op = .load t x) (hx : e.eval x = .pointer (some a)) (h : (Instr.loadAt t (.pointer (some a))).run P w = .ok v w) : (execOp e.eval o).run P w = .ok (.value v) w := by
  simp [execOp, ho, hx, Sem.run_bind, h]
theorem run_indexAt {t el : TypeId} {k : Nat} {s : Sl} {ad : Addr} {n : Int} (ht : P.underlying t = some (.slice el)) (hs : ∀ w, (Go.sizeOf el).run P w = .ok k w) (ha : s.a = some ad) (h0 : 0 ≤ n) (h1 : n < s.len) (w : World) :
    (Instr.indexAt t s.v (.int .i64 n)).run P w = .ok (.pointer (some (ad.add (n.toNat * k)))) w := by
  simp [Instr.indexAt, asIntOf, Sl.v, run_underlying ht, ha, h0, h1, hs, Sem.run_bind]
theorem exec_indexAt {t el : TypeId} {x y : Operand} {k : Nat} {s : Sl} {ad : Addr} {n : Int} (ho : o.op = .indexAddr t x y) (hx : e.eval x = s.v) (hy : e.eval y = .int .i64 n) (ht : P.underlying t = some (.slice el)) (hs : ∀ w, (Go.sizeOf el).run P w = .ok k w)
    (ha : s.a = some ad) (h0 : 0 ≤ n) (h1 : n < s.len) (w : World) : (execOp e.eval o).run P w = .ok (.value (.pointer (some (ad.add (n.toNat * k))))) w := by
  simp [execOp, ho, hx, hy, Sem.run_bind, run_indexAt ht hs ha h0 h1]
theorem put_set {d : Nat} (hd : o.dst = some d) (v : Value) : e.put o.dst v = e.set d v := by rw [hd]; rfl
theorem put_none (hd : o.dst = none) (v : Value) : e.put o.dst v = e := by rw [hd]; rfl
theorem opVC_run {d : Nat} (hd : o.dst = some d) {v : Value} {w' : World} (hr : (execOp e.eval o).run P w = .ok (.value v) w') (h : K (e.set d v) w') : opVC P o e w K := by rw [opVC, hr, upto, put_set hd]; exact h
theorem opVC_sem {d : Nat} (hd : o.dst = some d) {c : Sem Value} (hs : execOp e.eval o = c.bind fun v => Sem.pure (Next.value v)) (h : semS P c w fun v w' => K (e.set d v) w') : opVC P o e w K := by
  obtain ⟨v, w', hr, hk⟩ := h
  rw [opVC, hs]
  have : (Sem.bind c fun v => Sem.pure (Next.value v)).run P w = .ok (Next.value v) w' := by
    rw [Sem.run_bind' P, hr]; rfl
  rw [this, upto, put_set hd]; exact hk
theorem opVC_semU (hd : o.dst = none) {c : Sem Unit} (hs : execOp e.eval o = c.bind fun _ => Sem.pure Next.skip) (h : semU P c w fun w' => K e w') : opVC P o e w K := by
  obtain ⟨w', hr, hk⟩ := h
  rw [opVC, hs]
  have : (Sem.bind c fun _ => Sem.pure Next.skip).run P w = .ok Next.skip w' := by
    rw [Sem.run_bind' P, hr]; rfl
  rw [this, upto, put_none hd]; exact hk
theorem opVC_call {d : Nat} (hd : o.dst = some d) {f : FuncId} {args : List Value} (hr : (execOp e.eval o).run P w = .ok (.enter f args.toArray) w) (h : callS P f args w fun v w' => K (e.set d v) w') : opVC P o e w K := by
  rw [opVC, hr, upto]
  refine Calls.mono h fun ed w' ⟨v, he, hk⟩ => ⟨v, he, by rw [put_set hd]; exact hk⟩
theorem run_store {t : TypeId} {a : Addr} {v : Value} {cs : List Value} {cur : Array Value} {te : TypeId} (hcs : v.cells.toList = cs) (hs : ∀ w, (Go.sizeOf t).run P w = .ok cs.length w) (h1 : cs.all Value.oneCell' = true)
    (hb : w.heap[a.block]? = some (.cells cur te (0, 0))) (hsp : a.spot = none) (hl : a.off + cs.length ≤ cur.size) : (Instr.storeAt t (.pointer (some a)) v).run P w = .ok () (w.setRow a.block (splice cur a.off cs)) := by
  subst hcs
  have hz : v.cells.size = v.cells.toList.length := by simp
  have h := run_storeCells_at (P := P) a.block a.off te v.cells.toList 0 cur w hb (by simpa using hl) (List.all_eq_true.1 h1)
  obtain ⟨bl, off, sp⟩ := a
  simp only at hsp; subst hsp
  simp only [Nat.add_zero] at h
  simp only [Array.length_toList] at hs
  simp [Instr.storeAt, Instr.sureAddr, storeVar, Sem.run_bind, hs, h, splice]
theorem opVC_store (hd : o.dst = none) {t : TypeId} {x y : Operand} (ho : o.op = .store t x y) {a : Addr} (ha : e.eval x = .pointer (some a)) {v : Value} (hv : e.eval y = v) (cs : List Value) (hcs : v.cells.toList = cs) (hs : ∀ w, (Go.sizeOf t).run P w = .ok cs.length w) (h1 : cs.all Value.oneCell' = true)
    (h : stw w a cs fun w' => K e w') : opVC P o e w K := by
  obtain ⟨cur, te, hb, hsp, hl, hk⟩ := h
  have := run_store (P := P) hcs hs h1 hb hsp hl
  rw [opVC]
  have hq : (execOp e.eval o).run P w = .ok .skip (w.setRow a.block (splice cur a.off cs)) := by simp [execOp, ho, ha, hv, Sem.run_bind, this]
  rw [hq, upto, put_none hd]
  exact hk
end
def resC (r : ResultVar) (g : Nat → Value) : Sem Value := match r with
  | .tmp t => pure (g t)
  | .cell a t => do loadVar t (← asAddr (g a))
section
variable {P : Program} {w : World} {g : Nat → Value} {r1 r2 r3 : ResultVar} {v1 v2 v3 : Value}
theorem resE_eq (rs : Array ResultVar) : resE rs g = (do let vs ← rs.mapM (resC · g); pure (if h : vs.size = 1 then vs[0] else .tuple vs)) := by
  unfold resE; rfl
theorem res0 : (resE #[] g).run P w = .ok (.tuple #[]) w := by simp [resE]
theorem res1 (h1 : (resC r1 g).run P w = .ok v1 w) : (resE #[r1] g).run P w = .ok v1 w := by simp [resE_eq, Sem.run_bind, h1]
theorem res2 (h1 : (resC r1 g).run P w = .ok v1 w) (h2 : (resC r2 g).run P w = .ok v2 w) : (resE #[r1, r2] g).run P w = .ok (.tuple #[v1, v2]) w := by simp [resE_eq, Sem.run_bind, h1, h2]
theorem resC_tmp {t : Nat} (h : g t = v1) : (resC (.tmp t) g).run P w = .ok v1 w := by subst h; rfl
theorem resC_cell {s t : Nat} {a : Addr} (hg : g s = .pointer (some a)) (h : (Instr.loadAt t (.pointer (some a))).run P w = .ok v1 w) : (resC (.cell s t) g).run P w = .ok v1 w := by
  simp only [Instr.loadAt, Instr.sureAddr, Sem.run_bind, Sem.run_pure, Result.andThen_ok] at h
  simp [resC, hg, asAddr, Sem.run_bind, h]
theorem done_mk {fn : Func} {R : Value → World → Prop} {e : Env} (v : Value) (h : (resE fn.results e.get).run P w = .ok v w) (hR : R v w) : done P fn R e w := ⟨v, h, hR⟩
end
def memN : List Nat → Nat → Bool
  | [], _ => false
  | x :: r, t => bif Nat.beq x t then true else memN r t
def _root_.Go.Hal.Env.over (e : Env) (h : List (Nat × Value)) : Env := ⟨h ++ e.l, e.base⟩
def Back {σ : Type} (W : List Nat) (H : σ → (Nat → Value) → List (Nat × Value)) (e e' : Env) (s : σ) (k : Nat) : Prop :=
  e'.base = e.base ∧ e'.l.drop k = e.l ∧ (e'.l.take k).all (fun p => memN W p.1) = true ∧ (H s e'.get).map (·.2) = (H s e'.get).map (fun p => e'.get p.1)
theorem look_append (l l' : List (Nat × Value)) (b : Nat → Value) (t : Nat) : look (l ++ l') b t = look l (look l' b) t := by
  induction l with
  | nil => rfl
  | cons p r ih => simp only [List.cons_append, look, ih]
theorem look_not {l : List (Nat × Value)} {b : Nat → Value} {t : Nat} (h : memN (l.map (·.1)) t = false) : look l b t = b t := by
  induction l with
  | nil => rfl
  | cons p r ih =>
    simp only [List.map_cons, memN] at h
    simp only [look]
    cases hb : Nat.beq p.1 t with
    | true => rw [hb] at h; cases h
    | false => rw [hb] at h; exact ih h
theorem look_vals {l : List (Nat × Value)} {b g : Nat → Value} (h : l.map (·.2) = l.map (fun p => g p.1)) {t : Nat} (ht : memN (l.map (·.1)) t = true) : look l b t = g t := by
  induction l with
  | nil => cases ht
  | cons p r ih =>
    simp only [List.map_cons, List.cons.injEq] at h
    simp only [List.map_cons, memN] at ht
    simp only [look]
    cases hb : Nat.beq p.1 t with
    | true => rw [cond_true, h.1, Nat.eq_of_beq_eq_true hb]
    | false => rw [hb] at ht; exact ih h.2 ht
theorem memN_sub {l : List (Nat × Value)} {W : List Nat} (h : l.all (fun p => memN W p.1) = true) {t : Nat} (ht : memN W t = false) : memN (l.map (·.1)) t = false := by
  induction l with
  | nil => rfl
  | cons p r ih =>
    simp only [List.all_cons, Bool.and_eq_true] at h
    simp only [List.map_cons, memN]
    cases hb : Nat.beq p.1 t with
    | true =>
      have := Nat.eq_of_beq_eq_true hb
      rw [this, ht] at h; cases h.1
    | false => exact ih h.2
theorem Back.get {σ : Type} {W : List Nat} {H : σ → (Nat → Value) → List (Nat × Value)} {e e' : Env} {s : σ} {k : Nat} (hH : ∀ s j, (H s j).map (·.1) = W) (h : Back W H e e' s k) (t : Nat) :
    e'.get t = (e.over (H s e'.get)).get t := by
  obtain ⟨h1, h2, h3, h4⟩ := h
  simp only [Env.over, Env.get, look_append]
  cases ht : memN W t with
  | true => rw [look_vals h4 (by rw [hH]; exact ht)]; rfl
  | false =>
    rw [look_not (l := H s _) (by rw [hH]; exact ht)]
    have : e'.l = e'.l.take k ++ e.l := by rw [← h2, List.take_append_drop]
    rw [this, look_append, h1, look_not (memN_sub h3 ht)]
theorem Vc.congr {P : Program} {n : Nat} {c : Code} {e e' : Env} {w : World} {K : Env → World → Prop} {X : Exit → Env → World → Prop} (he : ∀ t, e.get t = e'.get t) (h : Vc P n c e' w K X) : Vc P n c e w K X :=
  fun hf a ha => h hf a ⟨ha.size, ha.defers, fun t => (ha.get t).trans (he t)⟩
section
variable {P : Program} {n : Nat} {e : Env} {w : World} {K : Env → World → Prop} {X : Exit → Env → World → Prop} {σ : Type}
theorem Vc.seqM {a b : Code} (W : List Nat) (H : σ → (Nat → Value) → List (Nat × Value)) (J : σ → World → Prop) (hH : ∀ s j, (H s j).map (·.1) = W)
    (first : Vc P n a e w (fun e' w' => ∃ s k, Back W H e e' s k ∧ J s w') X) (rest : ∀ s w j, J s w → Vc P n b (e.over (H s j)) w K X) : Vc P n (.seq a b) e w K X :=
  Vc.seq (Vc.mono first (fun e' w' ⟨s, k, hb, hj⟩ => Vc.congr (hb.get hH) (rest s w' _ hj)) fun _ _ _ h => h)
theorem Vc.loopM {c : Code} (W : List Nat) (H : σ → (Nat → Value) → List (Nat × Value)) (I : σ → World → Prop) (μ : σ → World → Nat) (s0 : σ) (h0 : I s0 w) (hH : ∀ s j, (H s j).map (·.1) = W)
    (hi : (H s0 e.get).map (·.2) = (H s0 e.get).map (fun p => e.get p.1))
    (round : ∀ s w j, I s w → Vc P n c (e.over (H s j)) w (fun e' w' => ∃ s' k, Back W H e e' s' k ∧ I s' w' ∧ μ s' w' < μ s w) X) : Vc P n (.loop c) e w K X := fun hf a ha => by
  refine wp_loop_ghost (fun m a w => ∃ s k e', Agrees n a e' ∧ Back W H e e' s k ∧ I s w ∧ μ s w = m) (μ s0 w) ⟨s0, 0, e, ha, ⟨rfl, rfl, rfl, hi⟩, h0, rfl⟩ fun m a' w' hI => ?_
  obtain ⟨s, k, e', ha', hb, hi', hm⟩ := hI
  refine wp_mono (Vc.congr (hb.get hH) (round s w' _ hi') hf a' ha') fun ex a2 w2 hq => ?_
  cases ex with
  | normal => obtain ⟨e2, ha2, s2, k2, hb2, hi2, hlt⟩ := hq; exact ⟨μ s2 w2, by rw [← hm]; exact hlt, s2, k2, e2, ha2, hb2, hi2, rfl⟩
  | _ => exact hq
end
theorem Vc.scope {P : Program} {n : Nat} {e : Env} {w : World} {K : Env → World → Prop} {X : Exit → Env → World → Prop} {c : Code} (h : Vc P n c e w K (fun x => match x with | .goto _ => fun _ _ => False | x => X x)) : Vc P n (.scope c) e w K X := fun hf a ha =>
  wp_scope_straight (wp_mono (h hf a ha) fun ex a' w' hq => by
    cases ex with
    | goto l => obtain ⟨_, _, h⟩ := hq; exact h.elim
    | _ => exact hq)
theorem join_elim {τ : Sort _} {R : τ} {b : τ → Prop} (h : join R b) : ∃ J, J = R ∧ b J := ⟨R, rfl, h⟩
theorem outOf_hit {id : Nat} {K : Env → World → Prop} {X : Exit → Env → World → Prop} {e : Env} {w : World} (h : K e w) : outOf id K X (.exit id) e w := by
  simp only [outOf]
  have : Nat.beq id id = true := by simp
  rw [this]; exact h
theorem outOf_miss {id i : Nat} {K : Env → World → Prop} {X : Exit → Env → World → Prop} {e : Env} {w : World} (hn : Nat.beq i id = false) (h : X (.exit i) e w) : outOf id K X (.exit i) e w := by
  simp only [outOf]
  rw [hn]; exact h
theorem outOf_ret {id : Nat} {K : Env → World → Prop} {X : Exit → Env → World → Prop} {e : Env} {w : World} (h : X .ret e w) : outOf id K X .ret e w := h
theorem outs_ret {D : Env → World → Prop} {e : Env} {w : World} (h : D e w) : outs D .ret e w := h
theorem eqT (b : Bool) : b = (b == true) := by cases b <;> rfl
theorem eqF (b : Bool) : (!b) = (b == false) := by cases b <;> rfl
theorem eqTT (g b : Bool) : (g && b) = (g && (b == true)) := by cases b <;> rfl
theorem ne_of_beq_false {x y : Int} (h : (x == y) = false) : ¬ x = y := by simpa using h
theorem ne_of_nbeq {x y : Int} (h : (!(x == y)) = true) : ¬ x = y := by simpa using h
theorem nne_of_nbeq {x y : Int} (h : (!(x == y)) = false) : ¬ ¬ x = y := by simpa using h
theorem isNone_false {α : Type} {o : Option α} (h : o.isNone = false) : ¬ o = none := by intro h'; subst h'; cases h
theorem semS.mono {P : Program} {s : Sem Value} {w : World} {k k' : Value → World → Prop} (h : semS P s w k) (hk : ∀ v w', k v w' → k' v w') : semS P s w k' := let ⟨v, w', hr, h'⟩ := h; ⟨v, w', hr, hk _ _ h'⟩
theorem semU.mono {P : Program} {s : Sem Unit} {w : World} {k k' : World → Prop} (h : semU P s w k) (hk : ∀ w', k w' → k' w') : semU P s w k' := let ⟨w', hr, h'⟩ := h; ⟨w', hr, hk _ h'⟩
theorem stw.mono {w : World} {a : Addr} {cs : List Value} {k k' : World → Prop} (h : stw w a cs k) (hk : ∀ w', k w' → k' w') : stw w a cs k' := let ⟨cur, t, h1, h2, h3, h4⟩ := h; ⟨cur, t, h1, h2, h3, hk _ h4⟩
def newS (w : World) (cs : List Value) (t : TypeId) (k : Addr → World → Prop) : Prop := ∀ a w', a = ⟨w.heap.size, 0, none⟩ → w' = w.alloc (.cells cs.toArray t) → k a w'
theorem newS.mono {w : World} {cs : List Value} {t : TypeId} {k k' : Addr → World → Prop} (h : newS w cs t k) (hk : ∀ a w', Ext w w' → k a w' → k' a w') : newS w cs t k' := fun a w' ha hw => hk a w' (hw ▸ Ext.alloc _ _) (h a w' ha hw)
def appS (P : Program) (t t2 : TypeId) (s : Sl) (x : Value) (w : World) (k : Sl → World → Prop) : Prop := ∀ ty, semS P (Builtin.append_ #[t, t2] ty #[s.v, x]) w fun v w' => ∃ r : Sl, v = r.v ∧ k r w'
def stabS (P : Program) (s : Sem Value) (w : World) (v : Value) : Prop := ∀ w', Ext w w' → s.run P w' = .ok v w'
section
variable {P : Program} {o : Oper} {e : Env} {w : World} {K : Env → World → Prop}
theorem appS.elim {t t2 ty : TypeId} {s : Sl} {x : Value} {k : Sl → World → Prop} {k' : Value → World → Prop} (h : appS P t t2 s x w k) (hk : ∀ r w', k r w' → k' (Sl.v r) w') : semS P (Builtin.append_ #[t, t2] ty #[s.v, x]) w k' :=
  semS.mono (h ty) fun v w' ⟨r, hv, h'⟩ => hv ▸ hk r w' h'
theorem opVC_new {d : Nat} (hd : o.dst = some d) (F : Addr → Value) {cs : List Value} {t : TypeId} (hr : (execOp e.eval o).run P w = .ok (.value (F ⟨w.heap.size, 0, none⟩)) (w.alloc (.cells cs.toArray t))) (h : newS w cs t fun a w' => K (e.set d (F a)) w') : opVC P o e w K :=
  opVC_run hd hr (h _ _ rfl rfl)
theorem exec_sem {c : Sem Value} (hs : execOp e.eval o = c.bind fun v => Sem.pure (Next.value v)) {v : Value} (h : c.run P w = .ok v w) : (execOp e.eval o).run P w = .ok (.value v) w := by
  rw [hs, Sem.run_bind' P, h]; rfl
theorem exec_callV {f : Operand} {xs : Array Operand} {ts : Array TypeId} {fv : Value} {g : FuncId} {cap : Array Value} {args : List Value} (ho : o.op = .call { callee := .value f, args := xs, argTypes := ts }) (hf : e.eval f = fv) (hv : fv = .func (.func g) #[] cap) (ha : (xs.map e.eval) = args.toArray) (he : Enters P g) :
    (execOp e.eval o).run P w = .ok (.enter g (args ++ cap.toList).toArray) w := by
  subst hv
  have h := he (args.toArray ++ cap) w
  simp only [execOp, ho, resolve, hf, Deferred.ofValue, ha, Sem.run_bind, Sem.run_pure, Result.andThen_ok, invoke, Array.empty_append]
  rw [h]; simp
end
def bAt (s : ByteArray) (i : Int) : Int := ((s.data.toList.getD i.toNat 0).toNat : Int)
def Sl.cut (s : Sl) (l h size : Nat) : Sl := ⟨if s.cap = l then s.a else s.a.map (·.add (l * size)), h - l, s.cap - l⟩
section
variable {P : Program} {o : Oper} {e : Env}
end
def gCall {τ : Sort _} (g : Bool) (k : τ) (A B : τ → Prop) : Prop := (g = true → A k) ∧ (g = false → B k)
theorem gCall_elim {τ : Sort _} {g : Bool} {k : τ} {A B : τ → Prop} (h : gCall g k A B) : ∃ J, J = k ∧ (g = true → A J) ∧ (g = false → B J) := ⟨k, rfl, h⟩
section
variable {P : Program} {ops : Array Oper} {o : Oper} {r : List Oper} {e : Env} {w : World} {K : Env → World → Prop} {X : Nat → Bool} {i : Nat} {s alt : Sched}
theorem upto_mono {k k' : Env → World → Prop} (hk : ∀ e w, k e w → k' e w) : ∀ {x : Result Next}, upto o e k P x → upto o e k' P x
  | .ok (.value _) _, h => hk _ _ h
  | .ok .skip _, h => hk _ _ h
  | .ok (.enter _ _) _, h => Calls.mono h fun _ _ ⟨v, he, h'⟩ => ⟨v, he, hk _ _ h'⟩
theorem opVC_mono {k k' : Env → World → Prop} (h : opVC P o e w k) (hk : ∀ e w, k e w → k' e w) : opVC P o e w k' := upto_mono hk h
theorem vcL_effJ {σ : Type} (g : Bool) (hw : Region.wanted o (e.yields ops) = g) {d : Nat} (hd : o.dst = some d) (J : σ → World → Prop) (V : σ → Value) (rest : ∀ s w', J s w' → vcL P ops r (e.set d (bif g then V s else undef)) w' K)
    (hT : g = true → opVC P o e w fun e' w' => ∃ s, e' = e.set d (V s) ∧ J s w') (hF : g = false → ∃ s, J s w) : vcL P ops (o :: r) e w K := by
  refine vcL_effG g hw (fun hg => opVC_mono (hT hg) fun e' w' ⟨s, he, hj⟩ => ?_) hd fun hg => ?_
  · have := rest s w' hj
    rw [hg] at this; rw [he]; exact this
  · obtain ⟨s, hj⟩ := hF hg
    have := rest s w hj
    rw [hg] at this; exact this
theorem vcS_effJ {l : List Oper} {σ : Type} (hi : l[i]? = some o) (g : Bool) (hw : Region.wanted o (e.yields l.toArray) = g) {d : Nat} (hd : o.dst = some d) (J : σ → World → Prop) (V : σ → Value) (rest : ∀ s' w', J s' w' → vcS P l.toArray X s (e.set d (bif g then V s' else undef)) w' K)
    (hT : g = true → opVC P o e w fun e' w' => (X i = true → Ext w w') ∧ ∃ s', e' = e.set d (V s') ∧ J s' w') (hF : g = false → ∃ s', J s' w) (ha : vcS P l.toArray X alt e w K) : vcS P l.toArray X (.eff i s alt) e w K := by
  refine vcS_effG hi g hw (fun hg => opVC_mono (hT hg) fun e' w' ⟨hx, s', he, hj⟩ => ⟨hx, ?_⟩) hd (fun hg => ?_) ha
  · have := rest s' w' hj
    rw [hg] at this; rw [he]; exact this
  · obtain ⟨s', hj⟩ := hF hg
    have := rest s' w hj
    rw [hg] at this; exact this
end
def nextV (ok : Bool) (k v : Value) : Value := bif ok then .tuple #[.bool true, k, v] else .tuple #[.bool false]
def bEq (a b : ByteArray) : Bool := a.toList == b.toList
def bLt (a b : ByteArray) : Bool := Op.bytesLess a.toList b.toList
theorem bEq_iff {a b : ByteArray} : bEq a b = true ↔ a = b := by
  rw [bEq, beq_iff_eq, ByteArray.toList_eq, ByteArray.toList_eq]
  constructor
  · intro h
    obtain ⟨⟨x⟩⟩ := a
    obtain ⟨⟨y⟩⟩ := b
    simp only at h
    rw [h]
  · intro h; rw [h]
theorem bEq_false {a b : ByteArray} : bEq a b = false ↔ ¬ a = b := by rw [← bEq_iff]; cases bEq a b <;> simp
def goMax (a b : Int) : Int := if b > a then b else a
def goMin (a b : Int) : Int := if b < a then b else a
def maxI : Int := IntKind.i64.max
section
variable {P : Program} {o : Oper} {e : Env}
theorem exec_str_add {t t' : TypeId} {x y : Operand} {a b : ByteArray} (ho : o.op = .binOp .add t x y t') (hx : e.eval x = .string a) (hy : e.eval y = .string b) (h : ((a.size + b.size : Nat) : Int) ≤ maxI) (w : World) :
    (execOp e.eval o).run P w = .ok (.value (.string (a ++ b))) w := by
  have h' : ¬ (((a.size + b.size : Nat) : Int) > IntKind.i64.max) := by unfold maxI at h; omega
  simp [execOp, ho, hx, hy, Sem.run_bind, eqGuard, binOp, Op.stringOp]
  have hm : maxI = 9223372036854775807 := rfl
  rw [hm] at h
  simpa using h
theorem sliceBound_run {k : IntKind} {i : Int} {y : Nat} {c : BoundsCode} (h : 0 ≤ i ∧ i ≤ (y : Int)) (w : World) : (Instr.sliceBound (.int k i) y c).run P w = .ok i.toNat w := by
  simp [Instr.sliceBound, asIntOf, Sem.run_bind, h]
section
variable {t el : TypeId} {s : Sl} {n : Nat} {x lo hi : Operand} {k1 k2 : IntKind} {l h : Int}
theorem exec_slSlL (ho : o.op = .slice t x (some lo) none none) (hx : e.eval x = s.v) (hl : e.eval lo = .int k1 l) (ht : P.underlying t = some (.slice el)) (hs : ∀ w, (Go.sizeOf el).run P w = .ok n w) (hb : 0 ≤ l ∧ l ≤ (s.len : Int)) (w : World) : (execOp e.eval o).run P w = .ok (.value (Sl.v (s.cut l.toNat s.len n))) w := by
  simp [execOp, ho, hx, hl, Instr.sliceAt, Instr.slice, run_underlying ht, Sem.run_bind, Sl.v, Instr.sliceBounds, hs, Sl.cut, sliceBound_run hb]
theorem exec_slSlH (ho : o.op = .slice t x none (some hi) none) (hx : e.eval x = s.v) (hh : e.eval hi = .int k2 h) (ht : P.underlying t = some (.slice el)) (hs : ∀ w, (Go.sizeOf el).run P w = .ok n w) (hb : 0 ≤ h ∧ h ≤ (s.cap : Int)) (w : World) : (execOp e.eval o).run P w = .ok (.value (Sl.v (s.cut 0 h.toNat n))) w := by
  simp [execOp, ho, hx, hh, Instr.sliceAt, Instr.slice, run_underlying ht, Sem.run_bind, Sl.v, Instr.sliceBounds, hs, Sl.cut, sliceBound_run hb]
theorem exec_slSlHM {mx : Operand} {k3 : IntKind} {m : Int} (ho : o.op = .slice t x none (some hi) (some mx)) (hx : e.eval x = s.v) (hh : e.eval hi = .int k2 h) (hm : e.eval mx = .int k3 m) (ht : P.underlying t = some (.slice el)) (hs : ∀ w, (Go.sizeOf el).run P w = .ok n w) (hb : (0 : Int) ≤ 0 ∧ 0 ≤ h ∧ h ≤ m ∧ m ≤ (s.cap : Int)) (w : World) :
    (execOp e.eval o).run P w = .ok (.value (Sl.v ⟨if m.toNat = 0 then s.a else s.a.map (·.add (0 * n)), h.toNat - 0, m.toNat - 0⟩)) w := by
  have h0 : 0 ≤ m ∧ m ≤ (s.cap : Int) := ⟨by omega, hb.2.2.2⟩
  have h1 : 0 ≤ h ∧ h ≤ (m.toNat : Int) := ⟨by omega, by omega⟩
  simp [execOp, ho, hx, hh, hm, Instr.sliceAt, Instr.slice, run_underlying ht, Sem.run_bind, Sl.v, Instr.sliceBounds, hs, sliceBound_run h0, sliceBound_run h1]
end
section
variable {t : TypeId} {s : ByteArray} {x lo hi : Operand} {k1 k2 : IntKind} {l h : Int}
end
end
theorem exec_indexArr {P : Program} {o : Oper} {e : Env} {t el : TypeId} {x y : Operand} {k : IntKind} {m : Nat} {xs : List Int} {i : Int} (ho : o.op = .index t x y) (hx : e.eval x = .agg (xs.map (Value.int k)).toArray) (hy : e.eval y = .int .i64 i) (ht : P.underlying t = some (.array m el)) (hs : ∀ w, (Go.sizeOf el).run P w = .ok 1 w) (ha : ∀ w, (isAgg el).run P w = .ok false w)
    (hl : m = xs.length) (h0 : 0 ≤ i) (h1 : i < m) (w : World) : (execOp e.eval o).run P w = .ok (.value (.int k (List.getD xs i.toNat 0))) w := by
  have hn : i.toNat < xs.length := by omega
  have hi2 : (List.getD xs i.toNat 0) = xs[i.toNat] := by rw [List.getD_eq_getElem?_getD, List.getElem?_eq_getElem hn]; rfl
  rw [hi2]
  simp [execOp, ho, hx, hy, Instr.index, asIntOf, run_underlying ht, Sem.run_bind, h0, h1, hs, part, ha, hn]
def runP (P : Program) : List Oper → Env → World → List (Nat × Value) → Option (List (Nat × Value) × World)
  | [], _, w, acc => some (acc, w)
  | o :: r, e, w, acc => match o.guard, o.dst, (execOp (Env.mk (acc ++ e.l) e.base).eval o).run P w with
    | none, some d, .ok (.value v) w' => runP P r e w' ((d, v) :: acc)
    | _, _, _ => none
theorem runP_sound {P : Program} {ops : Array Oper} {K : Env → World → Prop} (r : List Oper) (e : Env) : ∀ (l : List Oper) (w w' : World) (acc ps : List (Nat × Value)), runP P l e w acc = some (ps, w') → vcL P ops r ⟨ps ++ e.l, e.base⟩ w' K → vcL P ops (l ++ r) ⟨acc ++ e.l, e.base⟩ w K
  | [], w, w', acc, ps, h, hk => by simp only [runP, Option.some.injEq, Prod.mk.injEq] at h; obtain ⟨rfl, rfl⟩ := h; exact hk
  | o :: l, w, w', acc, ps, h, hk => by
    simp only [runP] at h
    split at h
    · rename_i d v w2 hg hd hr
      have := runP_sound (P := P) (ops := ops) (K := K) r e l w2 w' _ ps h hk
      rw [List.cons_append]
      exact vcL_eff hg (opVC_run hd hr this)
    · cases h
theorem vcL_purs {P : Program} {ops : Array Oper} {K : Env → World → Prop} {L : List Oper} {e : Env} {w : World} (k : Nat) (ps : List (Nat × Value)) (h : runP P (L.take k) e w [] = some (ps, w)) (hk : vcL P ops (L.drop k) (e.over ps) w K) : vcL P ops L e w K := by
  have := runP_sound (P := P) (ops := ops) (K := K) (L.drop k) e (L.take k) w w [] ps h hk
  rw [List.take_append_drop] at this
  exact this
def junk : List Nat → (Nat → Value) → List (Nat × Value)
  | [], _ => []
  | d :: r, j => (d, j d) :: junk r j
theorem junk_fst (D : List Nat) (j : Nat → Value) : (junk D j).map (·.1) = D := by induction D with | nil => rfl | cons d r ih => simp [junk, ih]
section
variable {P : Program} {n : Nat} {e : Env} {w : World} {K : Env → World → Prop} {X : Exit → Env → World → Prop} {σ : Type}
theorem Vc.seqJ {a b : Code} (Cs D : List Nat) (C : σ → List (Nat × Value)) (J : σ → World → Prop) (hC : ∀ s, (C s).map (·.1) = Cs)
    (first : Vc P n a e w (fun e' w' => ∃ s k, Back (Cs ++ D) (fun s j => C s ++ junk D j) e e' s k ∧ J s w') X) (rest : ∀ s w j, J s w → Vc P n b (e.over (C s ++ junk D j)) w K X) : Vc P n (.seq a b) e w K X :=
  Vc.seqM (Cs ++ D) (fun s j => C s ++ junk D j) J (fun s j => by rw [List.map_append, hC, junk_fst]) first rest
theorem Vc.loopJ {c : Code} (Cs D : List Nat) (C : σ → List (Nat × Value)) (I : σ → World → Prop) (μ : σ → World → Nat) (s0 : σ) (h0 : I s0 w) (hC : ∀ s, (C s).map (·.1) = Cs)
    (hi : (C s0 ++ junk D e.get).map (·.2) = (C s0 ++ junk D e.get).map (fun p => e.get p.1))
    (round : ∀ s w j, I s w → Vc P n c (e.over (C s ++ junk D j)) w (fun e' w' => ∃ s' k, Back (Cs ++ D) (fun s j => C s ++ junk D j) e e' s' k ∧ I s' w' ∧ μ s' w' < μ s w) X) : Vc P n (.loop c) e w K X :=
  Vc.loopM (Cs ++ D) (fun s j => C s ++ junk D j) I μ s0 h0 (fun s j => by rw [List.map_append, hC, junk_fst]) hi round
end
theorem callV.mono {P : Program} {f : Value} {args : List Value} {w : World} {k k' : Value → World → Prop} (h : callV P f args w k) (hk : ∀ v w', k v w' → k' v w') : callV P f args w k' := let ⟨g, cap, h1, h2, h3⟩ := h; ⟨g, cap, h1, h2, h3.mono hk⟩
theorem opVC_callV {P : Program} {o : Oper} {e : Env} {w : World} {K : Env → World → Prop} {d : Nat} (hd : o.dst = some d) {f : Operand} {xs : Array Operand} {ts : Array TypeId} (ho : o.op = .call { callee := .value f, args := xs, argTypes := ts }) {fv : Value} (hf : e.eval f = fv) {args : List Value} (ha : (xs.map e.eval) = args.toArray)
    (h : callV P fv args w fun v w' => K (e.set d v) w') : opVC P o e w K := by
  obtain ⟨g, cap, h1, h2, h3⟩ := h
  exact opVC_call hd (exec_callV ho hf h1 ha h2) h3
theorem opVC_sem0 {P : Program} {o : Oper} {e : Env} {w : World} {K : Env → World → Prop} (hd : o.dst = none) {c : Sem Value} (hs : execOp e.eval o = c.bind fun v => Sem.pure (Next.value v)) (h : semS P c w fun _ w' => K e w') : opVC P o e w K := by
  obtain ⟨v, w', hr, hk⟩ := h
  rw [opVC, hs]
  have : (Sem.bind c fun v => Sem.pure (Next.value v)).run P w = .ok (Next.value v) w' := by
    rw [Sem.run_bind' P, hr]; rfl
  rw [this, upto, put_none hd]; exact hk
section
variable {P : Program} {w : World} {d : Nat} {xs ys : Array Value}
theorem eqF_nil : (Op.eqFields d xs ys []).run P w = .ok true w := by simp [Op.eqFields]
theorem eqF_cons {f : Field} {fs : List Field} {x y : Value} {b c : Bool} (hn : (f.name != "_") = true) (hx : (part f.type xs f.offset).run P w = .ok x w) (hy : (part f.type ys f.offset).run P w = .ok y w) (hr : (Op.equalIn d f.type x y).run P w = .ok b w) (h : (Op.eqFields d xs ys fs).run P w = .ok c w) :
    (Op.eqFields d xs ys (f :: fs)).run P w = .ok (b && c) w := by
  have hn' : f.name ≠ "_" := by simpa using hn
  simp only [Op.eqFields, if_pos hn', Sem.run_bind, hx, hy, hr, Result.andThen_ok]
  cases b
  · simp
  · simpa using h
theorem eqS {t : TypeId} {fs : List Field} {r : Result Bool} (ht : P.underlying t = some (.struct (P.fieldsOf t))) (hp : P.stoodInHeld t = false) (hf : (P.fieldsOf t).toList = fs) (h : (Op.eqFields d xs ys fs).run P w = r) : (Op.equalIn (d + 1) t (.agg xs) (.agg ys)).run P w = r := by
  rw [run_equalIn_struct w d t xs ys ht hp, hf]; exact h
theorem exec_struct_eq {o : Oper} {e : Env} {t t' : TypeId} {x y : Operand} {b : Bool} (ho : o.op = .binOp .eql t x y t') (hx : e.eval x = .agg xs) (hy : e.eval y = .agg ys) (hg : P.eqGuardType P.depth t = false) (h : (Op.equalIn 10000 t (.agg xs) (.agg ys)).run P w = .ok b w) : (execOp e.eval o).run P w = .ok (.value (.bool b)) w := by
  simp only [execOp, ho, hx, hy, Sem.run_bind, run_eqGuard_agg w .eql t x y xs ys hg, Result.andThen_ok, run_eql_struct, h, Sem.run_pure]
theorem exec_struct_neq {o : Oper} {e : Env} {t t' : TypeId} {x y : Operand} {b : Bool} (ho : o.op = .binOp .neq t x y t') (hx : e.eval x = .agg xs) (hy : e.eval y = .agg ys) (hg : P.eqGuardType P.depth t = false) (h : (Op.equalIn 10000 t (.agg xs) (.agg ys)).run P w = .ok b w) : (execOp e.eval o).run P w = .ok (.value (.bool (!b))) w := by
  simp only [execOp, ho, hx, hy, Sem.run_bind, run_eqGuard_agg w .neq t x y xs ys hg, Result.andThen_ok, run_neq_struct, h, Sem.run_pure]
end
theorem exec_nilCheck {P : Program} {o : Oper} {e : Env} {x : Operand} {p : Option Addr} {a : Addr} (ho : o.op = .nilCheck x) (hx : e.eval x = .pointer p) (hp : p = some a) (w : World) : (execOp e.eval o).run P w = .ok (.value (.pointer (some a))) w := by
  subst hp
  simp [execOp, ho, hx]
theorem vcL_guardP {P : Program} {ops : Array Oper} {o : Oper} {r : List Oper} {e : Env} {w : World} {K : Env → World → Prop} (g : Bool) (hw : Region.wanted o (e.yields ops) = g) {d : Nat} (hd : o.dst = some d) (v : Value) (hr : g = true → ∀ w, (execOp e.eval o).run P w = .ok (.value v) w) (h : vcL P ops r (e.set d (bif g then v else undef)) w K) : vcL P ops (o :: r) e w K :=
  vcL_guard g hw hd v (fun hg => hr hg w) h
def loop0 (w : World) (body : World → (World → Prop) → Prop) : Prop := ∃ (I : World → Prop) (μ : World → Nat), I w ∧ ∀ w, I w → body w fun w' => I w' ∧ μ w' < μ w
def loop1 {α : Type} (a : α) (w : World) (body : α → World → (α → World → Prop) → Prop) : Prop := ∃ (I : α → World → Prop) (μ : α → World → Nat), I a w ∧ ∀ a w, I a w → body a w fun a' w' => I a' w' ∧ μ a' w' < μ a w
def loop2 {α β : Type} (a : α) (b : β) (w : World) (body : α → β → World → (α → β → World → Prop) → Prop) : Prop := ∃ (I : α → β → World → Prop) (μ : α → β → World → Nat), I a b w ∧ ∀ a b w, I a b w → body a b w fun a' b' w' => I a' b' w' ∧ μ a' b' w' < μ a b w
def loop3 {α β γ : Type} (a : α) (b : β) (c : γ) (w : World) (body : α → β → γ → World → (α → β → γ → World → Prop) → Prop) : Prop := ∃ (I : α → β → γ → World → Prop) (μ : α → β → γ → World → Nat), I a b c w ∧ ∀ a b c w, I a b c w → body a b c w fun a' b' c' w' => I a' b' c' w' ∧ μ a' b' c' w' < μ a b c w
def loop4 {α β γ δ : Type} (a : α) (b : β) (c : γ) (d : δ) (w : World) (body : α → β → γ → δ → World → (α → β → γ → δ → World → Prop) → Prop) : Prop := ∃ (I : α → β → γ → δ → World → Prop) (μ : α → β → γ → δ → World → Nat), I a b c d w ∧ ∀ a b c d w, I a b c d w → body a b c d w fun a' b' c' d' w' => I a' b' c' d' w' ∧ μ a' b' c' d' w' < μ a b c d w
def loop5 {α β γ δ ε : Type} (a : α) (b : β) (c : γ) (d : δ) (x : ε) (w : World) (body : α → β → γ → δ → ε → World → (α → β → γ → δ → ε → World → Prop) → Prop) : Prop := ∃ (I : α → β → γ → δ → ε → World → Prop) (μ : α → β → γ → δ → ε → World → Nat), I a b c d x w ∧ ∀ a b c d x w, I a b c d x w → body a b c d x w fun a' b' c' d' x' w' => I a' b' c' d' x' w' ∧ μ a' b' c' d' x' w' < μ a b c d x w
end Go.Hal
