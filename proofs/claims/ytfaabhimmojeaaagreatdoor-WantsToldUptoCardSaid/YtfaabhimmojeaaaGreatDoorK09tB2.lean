/- Lemmas for the claim K09t: how the program's functions run, and what they answer; no condition but those that each theorem names. -/
import Derived.Test.YtfaabhimmojeaaaGreatDoorK09tB1
set_option linter.unusedVariables false
set_option linter.unusedSimpArgs false
namespace Go.Hal
open Go Go.RowKit Go.Proofs Go.Shelf
structure Rest (S : Nat → Prop) (w w' : World) : Prop where
  size : w.heap.size ≤ w'.heap.size
  out : w'.os = w.os ∧ w'.tape = w.tape ∧ w'.output = w.output
  same : ∀ b, b < w.heap.size → ¬ S b → w'.heap[b]? = w.heap[b]?
section
variable {S T : Nat → Prop} {w w' w2 : World}
theorem Rest.refl (S : Nat → Prop) (w : World) : Rest S w w := ⟨Nat.le_refl _, ⟨rfl, rfl, rfl⟩, fun _ _ _ => rfl⟩
theorem Rest.trans (h : Rest S w w') (k : Rest S w' w2) : Rest S w w2 :=
  ⟨Nat.le_trans h.size k.size, ⟨k.out.1.trans h.out.1, k.out.2.1.trans h.out.2.1, k.out.2.2.trans h.out.2.2⟩, fun b hb hn => (k.same b (Nat.lt_of_lt_of_le hb h.size) hn).trans (h.same b hb hn)⟩
theorem Rest.of_ext (hx : Ext w w') : Rest S w w' := ⟨hx.size, ⟨(hx.but 0).2.1, (hx.but 0).2.2.1, (hx.but 0).2.2.2.1⟩, fun b hb _ => hx.block hb⟩
theorem Rest.of_but {g : Nat} (h : But g w w') (hg : S g) : Rest S w w' := ⟨h.1, ⟨h.2.1, h.2.2.1, h.2.2.2.1⟩, fun b hb hn => h.2.2.2.2 b hb fun e => hn (e ▸ hg)⟩
theorem Rest.mono (h : Rest S w w') (hs : ∀ b, b < w.heap.size → S b → T b) : Rest T w w' := ⟨h.size, h.out, fun b hb hn => h.same b hb fun hS => hn (hs b hb hS)⟩
theorem Rest.keep (h : Rest S w w') (hn : ∀ b, T b → ¬ S b) : Keep T w w' := fun b hb hl => h.same b hl (hn b hb)
theorem Rest.ext {w0 : World} (h : Rest S w w') (hx : Ext w0 w) (hs : ∀ b, S b → w0.heap.size ≤ b) : Ext w0 w' :=
  hx.trans' ⟨h.out.1, h.out.2.1, h.out.2.2, h.size, fun b hb => h.same b (Nat.lt_of_lt_of_le hb hx.size) fun hS => by have := hs b hS; omega⟩
theorem Rest.box {a : Addr} {cs : List Value} (h : Rest S w w') (hb : BoxAt w a cs) (hn : ¬ S a.block) : BoxAt w' a cs := hb.keep (S := fun b => b = a.block) rfl fun b e hl => h.same b hl (e ▸ hn)
end
def Alike (v v' : Value) : Prop := v' = v ∨ (∃ s s', v = .string s ∧ v' = .string s') ∨ ∃ n n', v = .int .i64 n ∧ v' = .int .i64 n'
theorem Alike.refl (v : Value) : Alike v v := .inl rfl
theorem Alike.trans {a b c : Value} (h : Alike a b) (k : Alike b c) : Alike a c := by
  rcases h with rfl | ⟨s, s', rfl, rfl⟩ | ⟨s, s', rfl, rfl⟩
  · exact k
  · rcases k with rfl | ⟨t, t', _, rfl⟩ | ⟨t, t', h, _⟩
    · exact .inr (.inl ⟨_, _, rfl, rfl⟩)
    · exact .inr (.inl ⟨_, _, rfl, rfl⟩)
    · cases h
  · rcases k with rfl | ⟨t, t', h, _⟩ | ⟨t, t', _, rfl⟩
    · exact .inr (.inr ⟨_, _, rfl, rfl⟩)
    · cases h
    · exact .inr (.inr ⟨_, _, rfl, rfl⟩)
theorem Alike.sl {s : Sl} {v : Value} (h : Alike s.v v) : v = s.v := by
  rcases h with h | ⟨_, _, h, _⟩ | ⟨_, _, h, _⟩
  · exact h
  · cases h
  · cases h
theorem Alike.int {n : Int} {v : Value} (h : Alike (.int .i64 n) v) (m : Int) : Alike v (.int .i64 m) := by
  rcases h with rfl | ⟨_, _, h, _⟩ | ⟨_, n', _, rfl⟩
  · exact .inr (.inr ⟨_, _, rfl, rfl⟩)
  · cases h
  · exact .inr (.inr ⟨_, _, rfl, rfl⟩)
structure Wrote (S : Nat → Prop) (w w' : World) : Prop where
  rest : Rest S w w'
  alike : ∀ (b : Nat) (cur : Array Value) (t : TypeId), w.heap[b]? = some (.cells cur t (0, 0)) → ∃ (cur' : Array Value) (t' : TypeId), w'.heap[b]? = some (.cells cur' t' (0, 0)) ∧ cur'.size = cur.size ∧ ∀ (j : Nat) v, cur[j]? = some v → ∃ v', cur'[j]? = some v' ∧ Alike v v'
theorem Wrote.refl (S : Nat → Prop) (w : World) : Wrote S w w := ⟨Rest.refl _ _, fun b cur t h => ⟨cur, t, h, rfl, fun j v hj => ⟨v, hj, .refl v⟩⟩⟩
theorem Wrote.st {S : Nat → Prop} {w0 w : World} {g o : Nat} {cur : Array Value} {t : TypeId} {cs : List Value} {k : World → Prop} (h : Wrote S w0 w) (hg : w.heap[g]? = some (.cells cur t (0, 0))) (hS : S g) (hl : o + cs.length ≤ cur.size)
    (ha : ∀ (j : Nat) v, cs[j]? = some v → ∃ u, cur[o + j]? = some u ∧ Alike u v) (hk : ∀ w', Wrote S w0 w' → k w') : stw w ((⟨g, 0, none⟩ : Addr).add o) cs k := by
  have hb : BoxAt w ⟨g, 0, none⟩ cur.toList := ⟨t, rfl, rfl, by simpa using hg⟩
  refine stw.intro hb (by simpa using hl) fun w' b hsz hb' => hk w' ⟨h.rest.trans (Rest.of_but b hS), fun c curc tc hc => ?_⟩
  obtain ⟨cur1, t1, h1, h2, h3⟩ := h.alike c curc tc hc
  by_cases hcg : c = g
  · subst hcg
    rw [hg] at h1
    simp only [Option.some.injEq, Obj.cells.injEq] at h1
    obtain ⟨rfl, rfl, _⟩ := h1
    obtain ⟨t', _, _, hh⟩ := hb'
    have hlen : (cur.toList.take o).length = o := by rw [List.length_take, Array.length_toList (xs := cur)]; omega
    refine ⟨_, t', hh, ?_, fun j v hj => ?_⟩
    · have e2 : (cur.toList.take o ++ cs ++ cur.toList.drop (o + cs.length)).length = cur.size := by rw [List.length_append, List.length_append, hlen, List.length_drop, Array.length_toList (xs := cur)]; omega
      rw [List.size_toArray, e2]; exact h2
    · obtain ⟨v1, e1, e2⟩ := h3 j v hj
      rw [List.getElem?_toArray]
      rcases Nat.lt_or_ge j o with hjo | hjo
      · refine ⟨v1, ?_, e2⟩
        rw [List.append_assoc, List.getElem?_append_left (by omega), List.getElem?_take_of_lt hjo, Array.getElem?_toList]; exact e1
      · rcases Nat.lt_or_ge j (o + cs.length) with hj2 | hj2
        · obtain ⟨u, u1, u2⟩ := ha (j - o) cs[j - o] (List.getElem?_eq_getElem (by omega))
          rw [Nat.add_sub_cancel' hjo, e1, Option.some.injEq] at u1
          subst u1
          refine ⟨cs[j - o], ?_, e2.trans u2⟩
          rw [List.getElem?_append_left (by rw [List.length_append, hlen]; omega), List.getElem?_append_right (by omega), hlen]
          exact List.getElem?_eq_getElem (by omega)
        · refine ⟨v1, ?_, e2⟩
          rw [List.getElem?_append_right (by rw [List.length_append, hlen]; omega), List.length_append, hlen, List.getElem?_drop, Nat.add_sub_cancel' hj2, Array.getElem?_toList]; exact e1
  · have hcl := lt_of_block h1
    exact ⟨cur1, t1, (b.2.2.2.2 c hcl hcg).trans h1, h2, h3⟩
theorem SlP.now {α : Type} {E : Enc α} {S : Nat → Prop} {w : World} {s : Sl} {l : List α} (h : SlP E w S s l) {i : Nat} (hi : i < l.length) :
    ∃ (g : Nat) (cs : List Value), s.a = some ⟨g, 0, none⟩ ∧ S g ∧ E.rep w S l[i] cs ∧ ∀ w', Wrote S w w' → ∃ (cur : Array Value) (t : TypeId), w'.heap[g]? = some (.cells cur t (0, 0)) ∧ i * E.n + E.n ≤ cur.size ∧ ∀ (j : Nat) v, cs[j]? = some v → ∃ v', cur[i * E.n + j]? = some v' ∧ Alike v v' := by
  rcases h.2 with h0 | ⟨g, cur, t, ha, hS, hg, hsz⟩
  · subst h0; simp at hi
  obtain ⟨ad, cs, h1, h2, h3, h4⟩ := h.1.get (List.getElem?_eq_getElem hi)
  rw [ha, Option.some.injEq] at h1
  subst h1
  refine ⟨g, cs, ha, hS, h3, fun w' hw => ?_⟩
  obtain ⟨cur', t', hg', hs', hal⟩ := hw.alike g cur t hg
  refine ⟨cur', t', hg', ?_, fun j v hj => hal _ v ?_⟩
  · rw [hs']
    have : (i + 1) * E.n ≤ l.length * E.n := Nat.mul_le_mul_right _ hi
    rw [Nat.add_mul] at this; omega
  · have hc := h4 j v hj
    have e : ((⟨g, 0, none⟩ : Addr).add (i * E.n)).add j = ⟨g, i * E.n + j, none⟩ := by
      rw [add_add]; unfold Addr.add; split <;> simp_all
    rw [e] at hc
    simpa [World.cell?, hg] using hc
theorem cell_at {w : World} {g : Nat} {cur : Array Value} {t : TypeId} (hg : w.heap[g]? = some (.cells cur t (0, 0))) (j : Nat) : w.cell? ⟨g, j, none⟩ = cur[j]? := by simp [World.cell?, hg]
end Go.Hal
namespace Go.Hal
open Go Go.RowKit Go.Proofs Go.Shelf
theorem depNow {S : Nat → Prop} {w : World} {s : Sl} {l : List Dep} (h : SlP depP w S s l) {i : Nat} (hi : i < l.length) :
    ∃ (g : Nat) (u : Sl), s.a = some ⟨g, 0, none⟩ ∧ S g ∧ SlP spanE w S u l[i].range ∧ ∀ w', Wrote S w w' → ldc w' (((⟨g, 0, none⟩ : Addr).add (i * 2)).add 1) [u.v] := by
  obtain ⟨g, cs, h1, h2, ⟨h5, u, rfl, h6⟩, h7⟩ := h.now hi
  have e2 : depP.n = 2 := rfl
  refine ⟨g, u, h1, h2, h6, fun w' hw j v hj => ?_⟩
  obtain ⟨cur, t, h3, h4, h8⟩ := h7 w' hw
  rw [e2] at h4 h8
  obtain ⟨v', k1, k2⟩ := h8 1 u.v rfl
  obtain rfl := k2.sl
  have hj0 : j = 0 := by
    rcases j with _ | j
    · rfl
    · simp at hj
  subst hj0
  simp only [List.getElem?_cons_zero, Option.some.injEq] at hj
  subst hj
  have e : (((⟨g, 0, none⟩ : Addr).add (i * 2)).add 1).add 0 = ⟨g, i * 2 + 1, none⟩ := by
    rw [add_add, add_add]; unfold Addr.add; split <;> simp_all
  rw [e, cell_at h3]; exact k1
theorem six_ints (c0 c1 c2 c3 c4 c5 : Int) {j : Nat} (hj : j < 6) : ∃ n, ([.int .i64 c0, .int .i64 c1, .int .i64 c2, .int .i64 c3, .int .i64 c4, .int .i64 c5] : List Value)[j]? = some (.int .i64 n) := by
  obtain rfl | rfl | rfl | rfl | rfl | rfl : j = 0 ∨ j = 1 ∨ j = 2 ∨ j = 3 ∨ j = 4 ∨ j = 5 := by omega
  all_goals exact ⟨_, rfl⟩
theorem spanOver {S : Nat → Prop} {w w' : World} {s : Sl} {l : List Span} {k : World → Prop} (h : SlP spanE w S s l) (hw : Wrote S w w') {i : Nat} (hi : i < l.length) {ad : Addr} (ha : s.a = some ad) {c0 c1 c2 c3 c4 c5 : Int} (hk : ∀ w2, Wrote S w w2 → k w2) :
    stw w' (ad.add (i * 6)) [.int .i64 c0, .int .i64 c1, .int .i64 c2, .int .i64 c3, .int .i64 c4, .int .i64 c5] k := by
  obtain ⟨g, cs, h1, h2, ⟨rfl, _⟩, h7⟩ := h.now hi
  obtain ⟨cur, t, h3, h4, h8⟩ := h7 w' hw
  have e6 : spanE.n = 6 := rfl
  rw [e6] at h4 h8
  rw [ha, Option.some.injEq] at h1
  subst h1
  refine hw.st h3 h2 (by simp; omega) (fun j v hj => ?_) hk
  have hjl : j < 6 := (List.getElem?_eq_some_iff.1 hj).1
  obtain ⟨n, e1⟩ := six_ints c0 c1 c2 c3 c4 c5 hjl
  rw [e1, Option.some.injEq] at hj
  subst hj
  obtain ⟨m, e2⟩ := six_ints l[i].lo.ma l[i].lo.mi l[i].lo.pa l[i].hi.ma l[i].hi.mi l[i].hi.pa hjl
  obtain ⟨v', k1, k2⟩ := h8 j _ e2
  exact ⟨v', k1, k2.int _⟩
end Go.Hal
namespace Go.Hal
open Go Go.RowKit Go.Proofs Go.Shelf
def nA : ByteArray := ⟨#[97]⟩
def kA : Pack := ⟨nA, v1, [], [], []⟩
theorem FlatO.vers {w : World} {lo : Nat} {s : Sl} {l : List Ver} (h : FlatO Ver.c 24 w lo s l) : SlR verE w (fun b => lo ≤ b ∧ b < w.heap.size) s l :=
  FlatO.read (E := verE) h (fun _ => rfl) fun _ _ _ _ => ⟨rfl, trivial⟩
end Go.Hal
namespace Go.Hal
open Go Go.RowKit Go.Proofs Go.Shelf
theorem takeEqB {α : Type} [DecidableEq α] {a b : List α} {i : Nat} (h1 : i < a.length) (h2 : i < b.length) : decide (a.take (i + 1) = b.take (i + 1)) = (decide (a.take i = b.take i) && decide (a[i] = b[i])) := by
  rw [List.take_succ_eq_append_getElem h1, List.take_succ_eq_append_getElem h2, Bool.eq_iff_iff, Bool.and_eq_true, decide_eq_true_eq, decide_eq_true_eq, decide_eq_true_eq]
  constructor
  · intro h
    obtain ⟨e1, e2⟩ := List.append_inj h (by rw [List.length_take, List.length_take]; omega)
    exact ⟨e1, by simpa using e2⟩
  · rintro ⟨e1, e2⟩
    rw [e1, e2]
end Go.Hal
namespace Go.Hal
open Go Go.RowKit Go.Proofs Go.Shelf
theorem RowB.stp {α : Type} {f : α → List Value} {k : Nat} {w : World} {g : Nat} {l : List α} {tail : List Value} (hk : ∀ x, (f x).length = k) (h : RowB f w g l tail) {i : Nat} (hi : i < l.length) {x : α} {cs0 cs r : List Value} (h0 : f l[i] = cs0 ++ r) (h1 : f x = cs ++ r) (hl : cs.length = cs0.length) {K : World → Prop}
    (hK : ∀ w', But g w w' → RowB f w' g (l.set i x) tail → K w') : stw w ((⟨g, 0, none⟩ : Addr).add (i * k)) cs K := by
  have hl1 := flat_take hk hi
  have e := flat_split (f := f) i hi tail
  have hlen : cs0.length + r.length = k := by rw [← List.length_append, ← h0, hk]
  refine stw.intro (o := i * k) (old := (l.map f).flatten ++ tail) h (by rw [e]; simp only [List.length_append, hl1, hk]; omega) fun w' hb hs hx => hK w' hb ?_
  have e2 := flat_split (f := f) (l := l.set i x) i (by simpa using hi) tail
  have t3 : (l.set i x).take i = l.take i := by rw [List.take_set_of_le (Nat.le_refl _)]
  have t4 : (l.set i x).drop (i + 1) = l.drop (i + 1) := by rw [List.drop_set_of_lt (by omega)]
  rw [t3, t4, List.getElem_set_self, h1] at e2
  have e3 : ((l.map f).flatten ++ tail).take (i * k) ++ cs ++ ((l.map f).flatten ++ tail).drop (i * k + cs.length) = ((l.set i x).map f).flatten ++ tail := by
    rw [e2, e, h0]
    generalize ((List.map f (List.take i l)).flatten) = A at *
    generalize ((List.map f (List.drop (i + 1) l)).flatten ++ tail) = C at *
    rw [← hl1, hl, List.append_assoc A, List.take_left' rfl, List.append_assoc cs0, ← List.drop_drop, List.drop_left' rfl, List.drop_left' rfl]
    simp only [List.append_assoc]
  unfold RowB
  rw [← e3]; exact hx
end Go.Hal
namespace Go.Hal
open Go Go.RowKit Go.Proofs Go.Shelf
theorem slvInj {s t : Sl} (h : s.v = t.v) : s = t := by
  obtain ⟨a, n, c⟩ := s
  obtain ⟨a', n', c'⟩ := t
  simpa [Sl.v] using h
theorem wantEqB (a b : Want) : (bEq a.name b.name && (a.kind == b.kind) && decide (a.range = b.range)) = decide (a = b) := by
  obtain ⟨a1, a2, a3⟩ := a; obtain ⟨b1, b2, b3⟩ := b
  rw [Bool.eq_iff_iff]
  simp only [Bool.and_eq_true, bEq_iff, beq_iff_eq, decide_eq_true_eq, Want.mk.injEq, and_assoc]
theorem wantC_of {y : WantC} {x : Want} {u : Sl} (hc : StW.cells y = [.string x.name, .int .i64 x.kind, u.v]) : y = ⟨x.name, x.kind, u⟩ := by
  obtain ⟨yn, yk, yr⟩ := y
  have hc : [Value.string yn, .int .i64 yk, yr.v] = [.string x.name, .int .i64 x.kind, u.v] := hc
  simp only [List.cons.injEq, Value.string.injEq, Value.int.injEq, true_and, and_true] at hc
  rw [hc.1, hc.2.1, slvInj hc.2.2]
set_option maxHeartbeats 2000000 in
theorem lists09_se {s t : Sl} {L M : List Want} {S T : Nat → Prop} {lo : Nat} {w : World} {R : Bool → World → Prop} (hlo : lo ≤ w.heap.size) (hS : ∀ b, S b → lo ≤ b ∧ b < w.heap.size) (hs : SepW w S s L) (hLm : L.length ≤ maxLen) (hM : SlR wantE w T t M) (hTS : ∀ b, T b → ¬ S b)
    (hR : ∀ w', Below lo w w' → R (decide (L = M)) w') : SE.halyardlaw09_lists s t w R := by
  unfold SE.halyardlaw09_lists
  obtain ⟨h1, _, h5⟩ := hs
  have hbl := hM.len
  have hfin : ∀ w', Rest S w w' → ∀ same, same = (decide (L.length = M.length) && decide (L.take L.length = M.take L.length)) → R same w' := fun w' hw same hs => by
    have e : (decide (L.length = M.length) && decide (L.take L.length = M.take L.length)) = decide (L = M) := by
      rw [Bool.eq_iff_iff, Bool.and_eq_true, decide_eq_true_eq, decide_eq_true_eq, decide_eq_true_eq, List.take_length]
      constructor
      · rintro ⟨e1, e2⟩
        rw [e1, List.take_length] at e2; exact e2
      · rintro rfl; exact ⟨rfl, by rw [List.take_length]⟩
    rw [hs, e]
    exact hR w' ⟨hw.out.1, hw.out.2.1, hw.out.2.2, hw.size, fun b hb => hw.same b (by omega) fun h => by have := (hS b h).1; omega⟩
  have hstart : ((s.len : Int) == (t.len : Int)) = (decide (L.length = M.length) && decide (L.take 0 = M.take 0)) := by
    rw [h1, hbl, Bool.eq_iff_iff]; simp; omega
  rcases h5 with rfl | ⟨g, tail, z, ha, hg, hrow, hz, hrel, hdj⟩
  · refine loop2.up (N := 0) (Nat.zero_le _) (fun same i w' => w' = w ∧ same = _) ⟨rfl, hstart⟩ fun same i w' nxt hi ⟨hw, hs⟩ hn => ⟨fun hlt => ?_, fun _ => ?_⟩
    · rw [h1] at hlt; simp at hlt; omega
    · subst hw; exact hfin _ (Rest.refl _ _) _ hs
  · have hzl : z.length = L.length := by rw [← hz, List.length_map]
    refine loop2.up (N := L.length) hLm (fun same i w' => Rest S w w' ∧ (∃ l', RowB StW.cells w' g l' tail ∧ l'.length = L.length ∧ ∀ j, i ≤ j → l'[j]? = (z.map Prod.fst)[j]?) ∧ (∀ j (h : j < z.length), i ≤ j → wantP.rep w' z[j].2.2 z[j].2.1 (StW.cells z[j].1)) ∧ same = (decide (L.length = M.length) && decide (L.take i = M.take i)))
      ⟨Rest.refl _ _, ⟨_, hrow, by rw [List.length_map, hzl], fun _ _ => rfl⟩, fun j h _ => (hrel _ (List.getElem_mem h)).2.2.1, hstart⟩ fun same i w1 nxt hi ⟨hr1, ⟨l', hw1, hl1, hj⟩, hp1, hs⟩ hn => ⟨fun hlt => bnd.drew fun w2 x2 => ?_, fun hge => ?_⟩
    · have hlt' : i < L.length := by omega
      have hiz : i < z.length := by omega
      have hLi : z[i].2.1 = L[i] := by simp [← hz]
      have hzi := hrel _ (List.getElem_mem hiz)
      have hr2 : Rest S w w2 := hr1.trans (Rest.of_ext x2)
      have hw2 := hw1.ext x2
      have hi1 : l'[i]? = some z[i].1 := by rw [hj i (Nat.le_refl _), List.getElem?_map, List.getElem?_eq_getElem hiz]; rfl
      have hil : i < l'.length := by omega
      have hpi := wantP.keep (hp1 i hiz (Nat.le_refl _)) (x2.keep _)
      have hMw := hM.keep (hr2.keep hTS)
      obtain ⟨hN, v, hc, hv⟩ := hpi
      rw [hLi] at hN hc hv
      have hcell := wantC_of hc
      have hload := hw2.ld' (f := StW.cells) (k := 3) (fun _ => rfl) hi1
      rw [hcell] at hload
      have hx : ∃ (ad2 : Addr) (u : Want) (tu : Sl), (same = true → (t.a = some ad2 ∧ (0 : Int) ≤ (i : Int) ∧ (i : Int) < (t.len : Int)) ∧ ldc w2 (ad2.add (i * 3)) [.string u.name, .int .i64 u.kind, tu.v] ∧ SlR spanE w2 T tu u.range) ∧ (same && decide (L[i] = u)) = (decide (L.length = M.length) && decide (L.take (i + 1) = M.take (i + 1))) := by
        cases hsame : same with
        | false =>
          refine ⟨⟨g, 0, none⟩, L[i], Sl.nil, (fun h => by cases h), ?_⟩
          rw [hsame] at hs
          by_cases hll : L.length = M.length
          · have hi2 : i < M.length := by omega
            rw [takeEqB hlt' hi2, ← Bool.and_assoc, ← hs]; rfl
          · simp [hll]
        | true =>
          rw [hsame] at hs
          have h6 := Bool.and_eq_true_iff.1 hs.symm
          have hll : L.length = M.length := by simpa using h6.1
          have hi2 : i < M.length := by omega
          obtain ⟨ad2, tu, k1, _, _, k2, k5⟩ := wantEl hMw hi2
          refine ⟨ad2, M[i], tu, fun _ => ⟨⟨k1, by omega, by omega⟩, k5 _ (Ext.refl _), k2⟩, ?_⟩
          rw [takeEqB hlt' hi2, ← Bool.and_assoc, ← hs]
      obtain ⟨ad2, u, tu, hu, hnext⟩ := hx
      refine ⟨_, fun _ => ⟨ha, by omega, hlt⟩, L[i].name, fun _ => hload.pre rfl, ad2, fun h => (hu h).1, u.name, fun h => (hu h).2.1.pre rfl, fun b5 hb5 => ?_⟩
      have hg5 : b5 = true → same = true := fun h => by rw [hb5] at h; exact (Bool.and_eq_true_iff.1 h).1
      refine ⟨_, fun _ => ⟨ha, by omega, hlt⟩, L[i].kind, fun _ => hload.mid (k := 1) rfl, ad2, fun h => (hu (hg5 h)).1, u.kind, fun h => (hu (hg5 h)).2.1.mid (k := 1) rfl, fun b12 hb12 => ?_⟩
      have hg12 : b12 = true → same = true := fun h => by rw [hb12] at h; exact hg5 (Bool.and_eq_true_iff.1 h).1
      refine ⟨_, fun _ => ⟨ha, by omega, hlt⟩, v, fun _ => hload.mid (k := 2) rfl, ad2, fun h => (hu (hg12 h)).1, tu, fun h => (hu (hg12 h)).2.1.mid (k := 2) rfl, ?_⟩
      refine gCall.intro (decide (L[i].range = u.range)) (fun hsm q hq => ?_) fun t57 w5 x5 ht57 => ?_
      · exact SE.halyardref05_Spans.go (r05Spans_se (S := fun b => z[i].2.2 b ∨ T b) (hv.1.mono fun _ h => .inl h) ((hu (hg12 hsm)).2.2.mono fun _ h => .inr h) fun w' hx => ⟨_, rfl, hq _ hx⟩)
      · have hw5 := hw2.ext x5
        have hr5 : Rest S w w5 := hr2.trans (Rest.of_ext x5)
        have hv5 := hv.ext x5
        have hvl := hv5.1.len
        have hgi : ¬ z[i].2.2 g := fun h => (hzi.2.2.2 g h).2 rfl
        have hval : (b12 && t57) = (decide (L.length = M.length) && decide (L.take (i + 1) = M.take (i + 1))) := by
          rw [← hnext, ← wantEqB]
          cases hb : b12 with
          | false =>
            rw [hb12, hb5] at hb
            rw [← Bool.and_assoc, ← Bool.and_assoc, hb]; rfl
          | true =>
            rw [ht57 hb]
            rw [hb12, hb5] at hb
            rw [← Bool.and_assoc, ← Bool.and_assoc, hb]
        refine loop1.up hv5.1.max (fun k w' => Wrote z[i].2.2 w5 w') (Wrote.refl _ _) fun k w6 nxt2 hk hw6 hn2 => ?_
        have hrow6 : RowB StW.cells w6 g l' tail := hw6.rest.box hw5 hgi
        have hload6 := hrow6.ld' (f := StW.cells) (k := 3) (fun _ => rfl) hi1
        rw [hcell] at hload6
        refine ⟨_, ⟨ha, by omega, hlt⟩, v, hload6.mid (k := 2) rfl, fun hklt => ?_, fun hkge => ?_⟩
        · have hklt' : k < L[i].range.length := by omega
          obtain ⟨g4, _, hua, _⟩ := hv5.now hklt'
          exact ⟨_, ⟨ha, by omega, hlt⟩, v, hload6.mid (k := 2) rfl, _, ⟨hua, by omega, hklt⟩, spanOver hv5 hw6 hklt' hua fun w7 hw7 => hn2 hklt' _ hw7⟩
        · refine ⟨_, ⟨ha, by omega, hlt⟩, ?_⟩
          have hr9 := hw6.rest
          have hrS9 : Rest S w w6 := hr5.trans (hr9.mono fun b _ hb => (hzi.2.2.2 b hb).1)
          have hli : l'[i] = z[i].1 := by rw [List.getElem?_eq_getElem hil, Option.some.injEq] at hi1; exact hi1
          refine hrow6.stp (f := StW.cells) (k := 3) (fun _ => rfl) (i := i) hil (x := ⟨⟨#[63]⟩, L[i].kind, v⟩) (cs0 := [.string L[i].name]) (cs := [.string ⟨#[63]⟩]) (r := [.int .i64 L[i].kind, v.v]) (by rw [hli, hcell]; rfl) rfl rfl fun w10 b10 hw10 => ?_
          refine hn hlt' _ _ ⟨hrS9.trans (Rest.of_but b10 hg), ⟨_, hw10, by simp [hl1], fun j hij => ?_⟩, fun j hjz hij => ?_, hval⟩
          · rw [List.getElem?_set_ne (by omega)]; exact hj j (by omega)
          · have hdis := List.pairwise_iff_getElem.1 hdj i j hiz hjz (by omega)
            have hgj : ¬ z[j].2.2 g := fun h => ((hrel _ (List.getElem_mem hjz)).2.2.2 g h).2 rfl
            have r1 := wantP.keep (hp1 j hjz (by omega)) ((x2.trans x5).keep _)
            exact wantP.keep (wantP.keep r1 (hr9.keep fun b hb hc => hdis b hc hb)) (b10.keep hgj)
    · have : i = L.length := by omega
      subst this
      exact hfin _ hr1 _ hs
end Go.Hal
namespace Go.Hal
open Go Go.RowKit Go.Proofs Go.Shelf
theorem SepW.ext {w w' : World} {S : Nat → Prop} {s : Sl} {L : List Want} (h : SepW w S s L) (hx : Ext w w') : SepW w' S s L := by
  obtain ⟨h1, h0, h2⟩ := h
  refine ⟨h1, h0, h2.imp id fun ⟨g, tail, z, e1, e2, e3, e4, e5, e6⟩ => ⟨g, tail, z, e1, e2, e3.ext hx, e4, fun q hq => ?_, e6⟩⟩
  obtain ⟨f1, f2, f3, f4⟩ := e5 q hq
  exact ⟨f1, f2, wantP.keep f3 (hx.keep _), f4⟩
theorem wantsOf_len (over a b : List Dep) : (wantsOf over a b).length = a.length + b.length := by
  unfold wantsOf
  rw [stSort_len, List.length_append, List.length_map, List.length_map]
theorem rootMust_len (m : Mani) (dev : Bool) : (rootMust m dev).length ≤ m.deps.length + m.dev.length := by
  unfold rootMust
  split
  · rw [List.length_append]; exact Nat.le_refl _
  · omega
theorem decT {α : Type} [DecidableEq α] (x : α) : decide (x = x) = true := decide_eq_true rfl
set_option maxHeartbeats 4000000 in
theorem wantsTold_se {p : Pack} {m : Mani} {pD pP pO mD mDev mOpt mOv : Sl} {dev : Bool} {S : Nat → Prop} {w : World} {R : Bool → World → Prop} (ht : Tab w) (hS : Old S w) (hD : SlR depE w S pD p.deps) (hP : SlR depE w S pP p.peers) (hO : SlR depE w S pO p.opt)
    (hmD : SlR depE w S mD m.deps) (hmE : SlR depE w S mDev m.dev) (hmO : SlR depE w S mOpt m.opt) (hV : SlR depE w S mOv m.over) (hb1 : (p.deps.length + p.opt.length) * 48 ≤ room) (hb2 : (m.deps.length + m.dev.length + m.opt.length) * 48 ≤ room)
    (hR : ∀ w', Ext w w' → R true w') : SE.halyardlaw09_WantsTold p.name p.v.ma p.v.mi p.v.pa pD pP pO mD mDev mOpt mOv dev w R := by
  unfold SE.halyardlaw09_WantsTold
  refine newS.intro fun a w1 x1 ha _ _ => newS.intro fun a1 w2 x2 ha1 _ _ => ?_
  have x02 := x1.trans x2
  refine loop1.up (N := 2) (by rw [maxLen_eq]; omega) (fun _ w' => Ext w2 w') (Ext.refl _) fun r w3 nxt hr x23 hn => ⟨fun hlt => bnd.drew fun w4 x34 => ?_, fun hge => ?_⟩
  · have x24 := x23.trans x34
    have x04 := x02.trans x24
    have hm1 : (wantsOf m.over p.deps p.opt).length ≤ maxLen := by rw [wantsOf_len, maxLen_eq]; unfold room at hb1; omega
    have hm2 : (wantsOf m.over (rootMust m dev) m.opt).length ≤ maxLen := by have := rootMust_len m dev; rw [wantsOf_len, maxLen_eq]; unfold room at hb2; omega
    refine ⟨p.name, p.v.ma, p.v.mi, p.v.pa, pD, pP, pO, BoxAt.at0 ha (x2.trans x24) rfl, mD, mDev, mOpt, mOv, BoxAt.at0 ha1 x24 rfl, p.name, p.v.ma, p.v.mi, p.v.pa, pD, pP, pO, BoxAt.at0 ha (x2.trans x24) rfl, mD, mDev, mOpt, mOv, BoxAt.at0 ha1 x24 rfl, ?_⟩
    refine callX.intro (SE.wants_Of.go (wantsOf_se (hS.ext x04.size) (hD.ext x04) (hO.ext x04) (hV.ext x04) hb1 fun t5 w5 x45 h5 => ⟨x45, _, rfl, ?_⟩))
    have x05 := x04.trans x45
    refine SE.halyardref09_Of.go (r09Of_se (hS.ext x05.size) (hD.ext x05) (hO.ext x05) (hV.ext x05) hb1 fun t6 w6 x56 h6 => ⟨_, rfl, ?_⟩)
    have s4 := x04.size; have s45 := x45.size; have s56 := x56.size
    refine SE.halyardlaw09_lists.go (lists09_se (lo := w4.heap.size) (by omega) (fun b hb => ⟨hb.1, by omega⟩) (h5.ext x56) hm1 h6 (fun b hb h => ?_) fun w7 bel7 => ⟨_, rfl, ?_⟩)
    · rcases hb with hb | hb
      · have := hS b hb; omega
      · omega
    have x47 : Ext w4 w7 := (x45.trans x56).trans' bel7
    have x27 := x24.trans x47
    have x07 := x02.trans x27
    rw [decT]
    refine bound ⟨mD, mDev, mOpt, mOv, fun _ => BoxAt.at0 ha1 x27 rfl, mD, mDev, mOpt, mOv, fun _ => BoxAt.at0 ha1 x27 rfl, fun _ => ?_, (fun h => by cases h)⟩
    refine callX.intro (SE.wants_OfRoot.go (wantsOfRoot_se (hS.ext x07.size) (hmD.ext x07) (hmE.ext x07) (hmO.ext x07) (hV.ext x07) hb2 fun t8 w8 x78 h8 => ⟨x78, _, rfl, fun _ => ?_, (fun h => by cases h)⟩))
    have x08 := x07.trans x78
    refine SE.halyardref09_OfRoot.go (r09OfRoot_se (hS.ext x08.size) (hmD.ext x08) (hmE.ext x08) (hmO.ext x08) (hV.ext x08) hb2 fun t9 w9 x89 h9 => ⟨_, rfl, fun _ => ?_, (fun h => by cases h)⟩)
    have s7 := x07.size; have s78 := x78.size; have s89 := x89.size
    refine SE.halyardlaw09_lists.go (lists09_se (lo := w7.heap.size) (by omega) (fun b hb => ⟨hb.1, by omega⟩) (h8.ext x89) hm2 h9 (fun b hb h => ?_) fun w10 bel10 => ⟨_, rfl, ?_⟩)
    · rcases hb with hb | hb
      · have := hS b hb; omega
      · omega
    have x710 : Ext w7 w10 := (x78.trans x89).trans' bel10
    have x210 := x27.trans x710
    have x010 := x02.trans x210
    rw [decT]
    refine ⟨(fun h => by cases h), fun _ => ⟨p.name, p.v.ma, p.v.mi, p.v.pa, pD, pP, pO, BoxAt.at0 ha (x2.trans x210) rfl, mD, mDev, mOpt, mOv, BoxAt.at0 ha1 x210 rfl, ?_⟩⟩
    refine SE.wants_Peers.go (wantsPeers_se (hS.ext x010.size) (hV.ext x010) (hP.ext x010) fun t11 w11 x1011 h11 => ⟨_, rfl, ?_⟩)
    have x211 := x210.trans x1011
    have x011 := x02.trans x211
    refine ⟨p.name, p.v.ma, p.v.mi, p.v.pa, pD, pP, pO, BoxAt.at0 ha (x2.trans x211) rfl, mD, mDev, mOpt, mOv, BoxAt.at0 ha1 x211 rfl, ?_⟩
    refine SE.halyardref09_Peers.go (refPeers_se (hS.ext x011.size) (hV.ext x011) (hP.ext x011) fun t12 w12 x1112 h12 => ⟨_, rfl, ?_⟩)
    refine SE.halyardref05_Deps.go (r05Deps_se (S := fun _ => True) ((h11.dep.ext x1112).mono fun _ _ => trivial) (h12.mono fun _ _ => trivial) fun w13 x1213 => ⟨_, rfl, ?_⟩)
    rw [decT]
    have x1113 := x1112.trans x1213
    have x213 := x211.trans x1113
    have hp13 := h11.ext x1113
    have hpl := hp13.1.len
    have s10 := x010.size; have s1011 := x1011.size; have s1113 := x1113.size
    have hnew : ∀ b, (w10.heap.size ≤ b ∧ b < w11.heap.size) → w2.heap.size ≤ b := fun b hb => by have := x210.size; omega
    refine ⟨(fun h => by cases h), fun _ => ?_⟩
    refine loop1.up hp13.1.max (fun i w' => Wrote (fun b => w10.heap.size ≤ b ∧ b < w11.heap.size) w13 w') (Wrote.refl _ _) fun i w14 nxt2 hi hw14 hn2 => ⟨fun hilt => ?_, fun hige => ?_⟩
    · have hlt' : i < (peersOf m.over p.peers).length := by omega
      obtain ⟨g, u, h1, _, hu, hld⟩ := depNow hp13 hlt'
      have hul := hu.1.len
      refine loop1.up hu.1.max (fun k w' => Wrote (fun b => w10.heap.size ≤ b ∧ b < w11.heap.size) w13 w') hw14 fun k w15 nxt3 hk hw15 hn3 => ?_
      refine ⟨_, ⟨h1, by omega, by omega⟩, u, hld _ hw15, fun hklt => ?_, fun hkge => hn2 hlt' _ hw15⟩
      have hklt' : k < (peersOf m.over p.peers)[i].range.length := by omega
      obtain ⟨g4, _, hua, _⟩ := hu.now hklt'
      exact ⟨_, ⟨h1, by omega, by omega⟩, u, hld _ hw15, _, ⟨hua, by omega, hklt⟩, spanOver hu hw15 hklt' hua fun w16 hw16 => hn3 hklt' _ hw16⟩
    · have x214 : Ext w2 w14 := hw14.rest.ext x213 hnew
      have hdl := hmD.len
      refine loop1.up hmD.max (fun i w' => Ext w2 w') x214 fun i w15 nxt2 hi x215 hn2 => ⟨mD, BoxAt.at0 ha1 x215 rfl, fun hilt => bnd.drew fun w16 x1516 => ?_, fun hige => ?_⟩
      · have hlt' : i < m.deps.length := by omega
        have x216 := x215.trans x1516
        have x016 := x02.trans x216
        obtain ⟨ad, t, hda, _, hN, hrg, hc⟩ := depEl hmD hlt'
        refine ⟨mD, mDev, mOpt, mOv, BoxAt.at0 ha1 x216 rfl, mD, BoxAt.at0 ha1 x216 rfl, ad, ⟨hda, by omega, hilt⟩, m.deps[i].name, t, hc _ x016, ?_⟩
        refine SE.wants_Range.go (wantsRange_se (hS.ext x016.size) (hV.ext x016) (hrg.ext x016) fun t17 w17 x1617 h17 => ⟨_, rfl, bnd.drew fun w18 x1718 => ?_⟩)
        have x1618 := x1617.trans x1718
        have x218 := x216.trans x1618
        have x018 := x02.trans x218
        refine ⟨mD, mDev, mOpt, mOv, BoxAt.at0 ha1 x218 rfl, mD, BoxAt.at0 ha1 x218 rfl, ad, ⟨hda, by omega, hilt⟩, m.deps[i].name, t, hc _ x018, ?_⟩
        refine SE.halyardref09_Range.go (refRange_se (hV.ext x018) (hrg.ext x018) fun t19 w19 x1819 h19 => ⟨_, rfl, ?_⟩)
        have x1719 := x1718.trans x1819
        refine SE.halyardref05_Spans.go (r05Spans_se (S := fun _ => True) ((h17.1.ext x1719).mono fun _ _ => trivial) (h19.mono fun _ _ => trivial) fun w20 x1920 => ⟨_, rfl, ?_⟩)
        rw [decT]
        have x1720 := x1719.trans x1920
        have hr20 := h17.ext x1720
        have hrl := hr20.1.len
        have x220 := (x216.trans x1617).trans x1720
        refine ⟨(fun h => by cases h), fun _ => ?_⟩
        refine loop1.up hr20.1.max (fun k w' => Wrote (fun b => w16.heap.size ≤ b ∧ b < w17.heap.size) w20 w') (Wrote.refl _ _) fun k w21 nxt3 hk hw21 hn3 => ⟨fun hklt => ?_, fun hkge => ?_⟩
        · have hklt' : k < (overOf m.over m.deps[i].name m.deps[i].range).length := by omega
          obtain ⟨g4, _, hua, _⟩ := hr20.now hklt'
          exact ⟨_, ⟨hua, by omega, hklt⟩, spanOver hr20 hw21 hklt' hua fun w22 hw22 => hn3 hklt' _ hw22⟩
        · have s16 := x216.size
          exact hn2 hlt' _ (hw21.rest.ext x220 fun b hb => by omega)
      · exact hn (by omega) _ x215
  · refine SE.halyardlaw09_known.go (known09_se (ht.ext (x02.trans x23)) fun w4 x4 => ⟨_, rfl, hR _ (x02.trans (x23.trans x4))⟩)
end Go.Hal
