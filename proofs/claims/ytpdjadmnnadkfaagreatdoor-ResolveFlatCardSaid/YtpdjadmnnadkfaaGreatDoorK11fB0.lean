/- Lemmas for the claim K11f: how the program's functions run, and what they answer; no condition but those that each theorem names. -/
import Derived.Maps.AppendAt
import Derived.WalkKit
import Derived.ProofKit
import Derived.OpenShut
import Derived.Deep.Slices
import Derived.ChangeCalls
import Derived.Deep.DeepHandedRow
import Derived.Test.YtpdjadmnnadkfaaGreatDoorProg
import Derived.Shelf.Strings.SlTrimAscii
import Derived.Shelf.Strings.OnBuilder
import Derived.Shelf.Strings.BuilderK
import Derived.Shelf.LaysM
import Derived.Shelf.Strconv.Itoa3
import Derived.Shelf.Small.Strs
import Derived.Ground.NamesProg
import Derived.Lib.ItoaNum
import Derived.Laws.BytesArg
import Derived.Test.YtpdjadmnnadkfaaGreatDoorCards
import Derived.Lib.LaidTab
import Derived.Stop.LaidErr
import Derived.MakeChecks
import Derived.SevenTiedAt
import Derived.Shelf.Abstract
import Derived.Test.YtpdjadmnnadkfaaGreatDoorK11fA0
import Derived.Test.YtpdjadmnnadkfaaGreatDoorK11fS0
import Derived.Test.YtpdjadmnnadkfaaGreatDoorK11fS1
import Derived.Test.YtpdjadmnnadkfaaGreatDoorK11fT
set_option linter.unusedVariables false
set_option linter.unusedSimpArgs false
namespace Go.Hal
open Go Go.RowKit
def Keep (S : Nat → Prop) (w w' : World) : Prop := ∀ b, S b → b < w.heap.size → w'.heap[b]? = w.heap[b]?
theorem Ext.keep {w w' : World} (h : Ext w w') (S : Nat → Prop) : Keep S w w' := fun _ _ hb => h.block hb
theorem Keep.cell {S : Nat → Prop} {w w' : World} (h : Keep S w w') {a : Addr} {v : Value} (hs : S a.block) (hc : w.cell? a = some v) : w'.cell? a = some v :=
  (World.cell?_of_block (h a.block hs (World.block_lt_of_cell? w a hc))).trans hc
theorem add_block (a : Addr) (n : Nat) : (a.add n).block = a.block := by unfold Addr.add; split <;> rfl
theorem add_add (a : Addr) (m n : Nat) : (a.add m).add n = a.add (m + n) := by
  obtain ⟨b, o, s⟩ := a
  unfold Addr.add
  by_cases hm : m = 0 <;> by_cases hn : n = 0 <;> simp [hm, hn]; omega
theorem add_zero (a : Addr) : a.add 0 = a := rfl
theorem ldc.keep {S : Nat → Prop} {w w' : World} {a : Addr} {cs : List Value} (h : ldc w a cs) (hs : S a.block) (hk : Keep S w w') : ldc w' a cs :=
  fun j v hj => hk.cell (by rw [add_block]; exact hs) (h j v hj)
theorem ldc.sub {w : World} {a : Addr} {cs : List Value} (h : ldc w a cs) (k m : Nat) : ldc w (a.add k) ((cs.drop k).take m) := fun j v hj => by
  rw [add_add]
  refine h (k + j) v ?_
  rw [List.getElem?_take] at hj
  split at hj
  · rw [List.getElem?_drop] at hj; exact hj
  · cases hj
theorem ldc.of {w : World} {a a' : Addr} {cs cs' : List Value} (h : ldc w a cs) (ha : a' = a) (hc : cs' = cs) : ldc w a' cs' := by subst ha hc; exact h
theorem ldc.inj {w : World} {a : Addr} {cs cs' : List Value} (h : ldc w a cs) (h' : ldc w a cs') (hl : cs.length = cs'.length) : cs = cs' := by
  apply List.ext_getElem?
  intro j
  by_cases hj : j < cs.length
  · have h1 := h j _ (List.getElem?_eq_getElem hj)
    have h2 := h' j _ (List.getElem?_eq_getElem (by omega))
    rw [List.getElem?_eq_getElem hj, List.getElem?_eq_getElem (by omega)]
    rw [h1] at h2; exact h2
  · rw [List.getElem?_eq_none (by omega), List.getElem?_eq_none (by omega)]
structure Enc (α : Type) where
  n : Nat
  bytes : Nat
  rep : World → (Nat → Prop) → α → List Value → Prop
  len : ∀ {w S x cs}, rep w S x cs → cs.length = n
  one : ∀ {w S x cs}, rep w S x cs → ∀ v ∈ cs, v.oneCell' = true
  mono : ∀ {w S S' x cs}, rep w S x cs → (∀ b, S b → S' b) → rep w S' x cs
  keep : ∀ {w w' S x cs}, rep w S x cs → Keep S w w' → rep w' S x cs
def room : Nat := 140737489403904
def SlR {α : Type} (E : Enc α) (w : World) (S : Nat → Prop) (s : Sl) (l : List α) : Prop :=
  s.len = l.length ∧ l.length ≤ s.cap ∧ s.cap ≤ maxLen ∧ l.length * E.bytes ≤ room ∧
  (l = [] ∨ ∃ ad, s.a = some ad ∧ S ad.block ∧ ∀ (i : Nat) (x : α), l[i]? = some x → ∃ cs, E.rep w S x cs ∧ ldc w (ad.add (i * E.n)) cs)
section
variable {α : Type} {E : Enc α} {w w' : World} {S S' : Nat → Prop} {s : Sl} {l : List α}
theorem SlR.len (h : SlR E w S s l) : s.len = l.length := h.1
theorem SlR.mono (h : SlR E w S s l) (hs : ∀ b, S b → S' b) : SlR E w S' s l :=
  ⟨h.1, h.2.1, h.2.2.1, h.2.2.2.1, h.2.2.2.2.imp id fun ⟨ad, h1, h2, h3⟩ => ⟨ad, h1, hs _ h2, fun i x hx => let ⟨cs, h4, h5⟩ := h3 i x hx; ⟨cs, E.mono h4 hs, h5⟩⟩⟩
theorem SlR.keep (h : SlR E w S s l) (hk : Keep S w w') : SlR E w' S s l :=
  ⟨h.1, h.2.1, h.2.2.1, h.2.2.2.1, h.2.2.2.2.imp id fun ⟨ad, h1, h2, h3⟩ => ⟨ad, h1, h2, fun i x hx => let ⟨cs, h4, h5⟩ := h3 i x hx; ⟨cs, E.keep h4 hk, h5.keep (by rw [add_block]; exact h2) hk⟩⟩⟩
theorem SlR.ext (h : SlR E w S s l) (hx : Ext w w') : SlR E w' S s l := h.keep (hx.keep S)
theorem SlR.nil (hS : True) : SlR E w S Sl.nil ([] : List α) := ⟨rfl, Nat.zero_le _, Nat.zero_le _, by simp, .inl rfl⟩
theorem SlR.get (h : SlR E w S s l) {i : Nat} {x : α} (hx : l[i]? = some x) : ∃ ad cs, s.a = some ad ∧ S ad.block ∧ E.rep w S x cs ∧ ldc w (ad.add (i * E.n)) cs := by
  rcases h.2.2.2.2 with h0 | ⟨ad, h1, h2, h3⟩
  · subst h0; simp at hx
  · obtain ⟨cs, h4, h5⟩ := h3 i x hx
    exact ⟨ad, cs, h1, h2, h4, h5⟩
end
def BoxAt (w : World) (a : Addr) (cs : List Value) : Prop := ∃ t, a.off = 0 ∧ a.spot = none ∧ w.heap[a.block]? = some (.cells cs.toArray t (0, 0))
section
variable {w w' : World} {a : Addr} {cs : List Value}
theorem BoxAt.lt (h : BoxAt w a cs) : a.block < w.heap.size := by obtain ⟨t, _, _, h⟩ := h; exact lt_of_block h
theorem BoxAt.ldc (h : BoxAt w a cs) : ldc w a cs := fun j v hj => by
  obtain ⟨t, ho, hs, hb⟩ := h
  obtain ⟨b, o, s⟩ := a
  simp only at ho hs hb
  subst ho hs
  have : (Addr.add ⟨b, 0, none⟩ j) = ⟨b, j, none⟩ := by unfold Addr.add; split <;> simp_all
  rw [this]
  simp [World.cell?, hb, hj]
theorem BoxAt.ext (h : BoxAt w a cs) (hx : Ext w w') : BoxAt w' a cs := by
  obtain ⟨t, ho, hs, hb⟩ := h
  exact ⟨t, ho, hs, (hx.block (lt_of_block hb)).trans hb⟩
theorem BoxAt.keep {S : Nat → Prop} (h : BoxAt w a cs) (hs : S a.block) (hx : Keep S w w') : BoxAt w' a cs := by
  obtain ⟨t, ho, hs', hb⟩ := h
  exact ⟨t, ho, hs', (hx _ hs (lt_of_block hb)).trans hb⟩
end
theorem newS.intro {w : World} {cs : List Value} {t : TypeId} {k : Addr → World → Prop} (h : ∀ a w', Ext w w' → BoxAt w' a cs → a.block = w.heap.size → w'.heap.size = w.heap.size + 1 → k a w') : newS w cs t k := fun a w' ha hw => by
  subst ha hw
  refine h _ _ (Ext.alloc _ _) ⟨t, rfl, rfl, ?_⟩ rfl (by simp)
  exact heap_alloc_new w _
def But (g : Nat) (w w' : World) : Prop := w.heap.size ≤ w'.heap.size ∧ w'.os = w.os ∧ w'.tape = w.tape ∧ w'.output = w.output ∧ ∀ b, b < w.heap.size → b ≠ g → w'.heap[b]? = w.heap[b]?
theorem But.keep {g : Nat} {w w' : World} (h : But g w w') {S : Nat → Prop} (hs : ¬ S g) : Keep S w w' := fun b hb hl => h.2.2.2.2 b hl fun e => hs (e ▸ hb)
theorem But.below {g B : Nat} {w w' : World} (h : But g w w') (hB : B ≤ w.heap.size) (hg : B ≤ g) : Below B w w' := ⟨h.2.1, h.2.2.1, h.2.2.2.1, h.1, fun b hb => h.2.2.2.2 b (by omega) (by omega)⟩
theorem But.box {g : Nat} {w w' : World} {a : Addr} {cs : List Value} (h : But g w w') (hb : BoxAt w a cs) (hne : a.block ≠ g) : BoxAt w' a cs := hb.keep (S := fun b => b ≠ g) hne (fun b hb hl => h.2.2.2.2 b hl hb)
theorem stw.intro {w : World} {a : Addr} {o : Nat} {old cs : List Value} {k : World → Prop} (hb : BoxAt w a old) (hl : o + cs.length ≤ old.length)
    (h : ∀ w', But a.block w w' → w'.heap.size = w.heap.size → BoxAt w' a (old.take o ++ cs ++ old.drop (o + cs.length)) → k w') : stw w (a.add o) cs k := by
  obtain ⟨t, ho, hs, hh⟩ := hb
  obtain ⟨b, of, sp⟩ := a
  simp only at ho hs hh
  subst ho hs
  have ha : (Addr.add ⟨b, 0, none⟩ o) = ⟨b, o, none⟩ := by unfold Addr.add; split <;> simp_all
  rw [ha]
  refine ⟨_, t, hh, rfl, by simpa using hl, h _ ⟨?_, rfl, rfl, rfl, fun c hc hne => setRow_other w b c _ hne⟩ ?_ ⟨t, rfl, rfl, ?_⟩⟩
  · simp [World.setRow]
  · simp [World.setRow]
  · rw [setRow_heap w b old.toArray _ t _ hh]
    simp [splice]
end Go.Hal
namespace Go.Hal
open Go Go.RowKit
theorem maxLen_eq : maxLen = 9223372036854775807 := rfl
theorem wrapI_eq {x : Int} (h0 : -9223372036854775808 ≤ x) (h1 : x ≤ 9223372036854775807) : wrapI x = x := by
  simp only [wrapI, IntKind.wrap, IntKind.bits, IntKind.signed, Bool.true_and, decide_eq_true_eq]
  have e1 : (2 : Int) ^ (64 - 1) = 9223372036854775808 := rfl
  have e2 : (2 : Int) ^ 64 = 18446744073709551616 := rfl
  split <;> rename_i h <;> simp only [ge_iff_le, decide_eq_true_eq, e1, e2] at h ⊢ <;> omega
theorem wrapI_add1 {x : Int} {n : Nat} (h0 : 0 ≤ x) (h1 : x < n) (h2 : n ≤ maxLen) : wrapI (x + 1) = x + 1 := wrapI_eq (by omega) (by rw [maxLen_eq] at h2; omega)
@[ext] structure Ver where
  ma : Int
  mi : Int
  pa : Int
  deriving DecidableEq
structure Pin where
  name : ByteArray
  v : Ver
  deriving DecidableEq
structure Span where
  lo : Ver
  hi : Ver
  deriving DecidableEq
structure Dep where
  name : ByteArray
  range : List Span
  deriving DecidableEq
structure Pack where
  name : ByteArray
  v : Ver
  deps : List Dep
  peers : List Dep
  opt : List Dep
  deriving DecidableEq
structure Mani where
  deps : List Dep
  dev : List Dep
  opt : List Dep
  over : List Dep
  deriving DecidableEq
structure Want where
  name : ByteArray
  kind : Int
  range : List Span
  deriving DecidableEq
def Ver.c (v : Ver) : List Value := [.int .i64 v.ma, .int .i64 v.mi, .int .i64 v.pa]
def flatE {α : Type} (n bytes : Nat) (f : α → List Value) (ok : α → Prop) (hn : ∀ x, (f x).length = n) (h1 : ∀ x, ∀ v ∈ f x, v.oneCell' = true) : Enc α where
  n := n
  bytes := bytes
  rep := fun _ _ x cs => cs = f x ∧ ok x
  len := fun h => by rw [h.1, hn]
  one := fun h => by rw [h.1]; exact h1 _
  mono := fun h _ => h
  keep := fun h _ => h
def Str (s : ByteArray) : Prop := s.size ≤ maxLen
def intE : Enc Int := flatE 1 8 (fun x => [.int .i64 x]) (fun _ => True) (fun _ => rfl) (fun _ v hv => by simp at hv; subst hv; rfl)
def verE : Enc Ver := flatE 3 24 Ver.c (fun _ => True) (fun _ => rfl) (fun _ v hv => by simp [Ver.c] at hv; rcases hv with rfl | rfl | rfl <;> rfl)
def spanE : Enc Span := flatE 6 48 (fun s => s.lo.c ++ s.hi.c) (fun _ => True) (fun _ => rfl) (fun _ v hv => by simp [Ver.c] at hv; rcases hv with rfl | rfl | rfl | rfl | rfl | rfl <;> rfl)
def pinE : Enc Pin := flatE 4 40 (fun p => .string p.name :: p.v.c) (fun p => Str p.name) (fun _ => rfl) (fun _ v hv => by simp [Ver.c] at hv; rcases hv with rfl | rfl | rfl | rfl <;> rfl)
def depE : Enc Dep where
  n := 2
  bytes := 40
  rep := fun w S d cs => Str d.name ∧ ∃ s, cs = [.string d.name, s.v] ∧ SlR spanE w S s d.range
  len := fun ⟨_, s, h, _⟩ => by rw [h]; rfl
  one := fun ⟨_, s, h, _⟩ v hv => by rw [h] at hv; simp [Sl.v] at hv; rcases hv with rfl | rfl <;> rfl
  mono := fun ⟨h0, s, h, hr⟩ hs => ⟨h0, s, h, hr.mono hs⟩
  keep := fun ⟨h0, s, h, hr⟩ hk => ⟨h0, s, h, hr.keep hk⟩
def packE : Enc Pack where
  n := 7
  bytes := 112
  rep := fun w S p cs => Str p.name ∧ ∃ d e o, cs = .string p.name :: p.v.c ++ [Sl.v d, Sl.v e, Sl.v o] ∧ SlR depE w S d p.deps ∧ SlR depE w S e p.peers ∧ SlR depE w S o p.opt
  len := fun ⟨_, d, e, o, h, _⟩ => by rw [h]; rfl
  one := fun ⟨_, d, e, o, h, _⟩ v hv => by rw [h] at hv; simp [Sl.v, Ver.c] at hv; rcases hv with rfl | rfl | rfl | rfl | rfl | rfl | rfl <;> rfl
  mono := fun ⟨h0, d, e, o, h, a, b, c⟩ hs => ⟨h0, d, e, o, h, a.mono hs, b.mono hs, c.mono hs⟩
  keep := fun ⟨h0, d, e, o, h, a, b, c⟩ hk => ⟨h0, d, e, o, h, a.keep hk, b.keep hk, c.keep hk⟩
def wantE : Enc Want where
  n := 3
  bytes := 48
  rep := fun w S d cs => Str d.name ∧ ∃ s, cs = [.string d.name, .int .i64 d.kind, s.v] ∧ SlR spanE w S s d.range
  len := fun ⟨_, s, h, _⟩ => by rw [h]; rfl
  one := fun ⟨_, s, h, _⟩ v hv => by rw [h] at hv; simp [Sl.v] at hv; rcases hv with rfl | rfl | rfl <;> rfl
  mono := fun ⟨h0, s, h, hr⟩ hs => ⟨h0, s, h, hr.mono hs⟩
  keep := fun ⟨h0, s, h, hr⟩ hk => ⟨h0, s, h, hr.keep hk⟩
theorem toList_data (a : ByteArray) : a.toList = a.data.toList := ByteArray.toList_eq a
theorem size_data (a : ByteArray) : a.data.toList.length = a.size := by rw [Array.length_toList]; rfl
theorem bAt_eq {a : ByteArray} {i : Nat} (h : i < a.size) : bAt a (i : Int) = ((a.data.toList[i]'(by rw [size_data]; exact h)).toNat : Int) := by
  rw [bAt, List.getD_eq_getElem?_getD, Int.toNat_natCast, List.getElem?_eq_getElem (by rw [size_data]; exact h)]; rfl
theorem bytesLess_app (p x y : List UInt8) : Op.bytesLess (p ++ x) (p ++ y) = Op.bytesLess x y := by
  induction p with
  | nil => rfl
  | cons a p ih =>
    show (decide (a < a) || (a == a && Op.bytesLess (p ++ x) (p ++ y))) = _
    rw [ih]
    simp
end Go.Hal
namespace Go.Hal
open Go Go.RowKit
theorem cap_one {need old : Nat} (h : old < need) : Builtin.nextslicecap need old = need ∨ Builtin.nextslicecap need old + 2 ≤ 2 * need := by
  unfold Builtin.nextslicecap
  split
  · exact .inl rfl
  · right
    split
    · omega
    · rw [growBy_four]
      repeat' split
      all_goals omega
theorem cap_two {need old : Nat} (h : old < need) : Builtin.nextslicecap need old ≤ need + (need + 768) / 4 ∨ Builtin.nextslicecap need old ≤ 512 := by
  unfold Builtin.nextslicecap
  split
  · omega
  · split
    · omega
    · rw [growBy_four]
      repeat' split
      all_goals omega
theorem cap_fits {need old bytes : Nat} (h : old < need) (hb : need * bytes ≤ room) : Builtin.nextslicecap need old * bytes ≤ 281474976710656 := by
  unfold room at hb
  rcases cap_one h with h1 | h1
  · rw [h1]; omega
  · by_cases hB : 1048576 ≤ bytes
    · have h2 : (Builtin.nextslicecap need old + 2) * bytes ≤ 2 * need * bytes := Nat.mul_le_mul_right _ h1
      rw [Nat.add_mul, Nat.mul_assoc] at h2
      omega
    · rcases cap_two h with h3 | h3
      · have h4 : 4 * Builtin.nextslicecap need old * bytes ≤ (5 * need + 768) * bytes := Nat.mul_le_mul_right _ (by omega)
        have e1 : 4 * Builtin.nextslicecap need old * bytes = 4 * (Builtin.nextslicecap need old * bytes) := Nat.mul_assoc _ _ _
        have e2 : (5 * need + 768) * bytes = 5 * (need * bytes) + 768 * bytes := by rw [Nat.add_mul, Nat.mul_assoc]
        omega
      · have h4 : Builtin.nextslicecap need old * bytes ≤ 512 * bytes := Nat.mul_le_mul_right _ h3
        omega
theorem append_ownR {P : Program} {w : World} {lo : Nat} {t ty e : TypeId} {i : TypeInfo} {z : Value} (ht : P.underlying t = some (.slice e)) (hi : P.info? e = some i) (hz : i.zero = some z) (hzs : z.cells.size = i.size) (hsz : 0 < i.size)
    {v : Value} {n : Nat} {xs : List Value} (ho : w.ownsRow lo e i.size v n xs) {a : Addr} {m c : Nat} {news : List Value} (hl : news.length = m * i.size) (hn : ∀ (j : Nat) (u : Value), news[j]? = some u → w.cell? (a.add j) = some u) (h1 : ∀ u ∈ news, u.oneCell' = true)
    (hm : n + m ≤ maxLen) (hb : (n + m) * i.bytes ≤ room) (hlo : lo ≤ w.heap.size) :
    ∃ v' w', (Builtin.append_ #[t, t] ty #[v, .slice (some a) m c]).run P w = .ok v' w' ∧ w'.ownsRow lo e i.size v' (n + m) (xs ++ news) ∧ w.grownBy w' v.ownBlock ∧ (v'.ownBlock = v.ownBlock ∨ v'.ownBlock = some w.heap.size) := by
  have hm' : n + m ≤ 9223372036854775807 := by rw [maxLen_eq] at hm; exact hm
  have hall : (xs ++ news).length = (n + m) * i.size := by rw [List.length_append, ho.1, hl, Nat.add_mul]
  have fresh : ∀ old : Nat, w.grownBy (w.drew.alloc (.cells (xs.toArray ++ news.toArray ++ Builtin.zeroCells z.cells (grownCap w (n + m) old e - (n + m))) e)) v.ownBlock ∧
      (w.drew.alloc (.cells (xs.toArray ++ news.toArray ++ Builtin.zeroCells z.cells (grownCap w (n + m) old e - (n + m))) e)).ownsRow lo e i.size (.slice (some ⟨w.heap.size, 0, none⟩) (n + m) (grownCap w (n + m) old e)) (n + m) (xs ++ news) := fun old => by
    have hc := grownCap_ge w (n + m) old e
    refine ⟨⟨rfl, rfl, rfl, by simp, fun b hbl _ => heap_alloc_old w.drew _ hbl⟩, hall, .inr ⟨w.heap.size, _, _, rfl, hlo, heap_alloc_new w.drew _, hc, grownCap_le_maxLen w (n + m) old e hm, ?_, ?_⟩⟩
    · have e1 : (xs.toArray ++ news.toArray).size = (n + m) * i.size := by simpa using hall
      rw [Array.size_append, e1, size_zeroCells, hzs, ← Nat.add_mul]
      congr 1; omega
    · have e2 : (xs.toArray ++ news.toArray ++ Builtin.zeroCells z.cells (grownCap w (n + m) old e - (n + m))).toList = (xs ++ news) ++ (Builtin.zeroCells z.cells (grownCap w (n + m) old e - (n + m))).toList := by simp
      rw [e2, ← hall]; exact List.take_left
  rcases ho.2 with ⟨rfl, rfl⟩ | ⟨g, cap, cur, rfl, hgl, hg, hnc, hcm, hcs, htk⟩
  · obtain rfl : xs = [] := List.eq_nil_of_length_eq_zero (by simpa using ho.1)
    rcases Nat.eq_zero_or_pos m with rfl | hpos
    · obtain rfl : news = [] := List.eq_nil_of_length_eq_zero (by simpa using hl)
      exact ⟨.slice none 0 0, w, by simp [Builtin.append_, run_underlying ht, sizeOf, typeInfo, hi, Builtin.lenOf, Builtin.firstCells, loadCells, loadCellsFrom], World.ownsRow_nil w lo e i.size, ⟨rfl, rfl, rfl, Nat.le_refl _, fun _ _ _ => rfl⟩, .inl rfl⟩
    · have hr := run_append_nil (P := P) w t ty e i z ht hi hz a m c news hl hn hpos (by omega) (by unfold room at hb; rw [Nat.zero_add] at hb; omega)
      have hf := fresh 0
      simp only [Nat.zero_add, List.nil_append, Array.empty_append] at hf ⊢
      exact ⟨_, _, hr, hf.2, hf.1, .inr rfl⟩
  · by_cases hroom : n + m ≤ cap
    · have hfit : n * i.size + news.length ≤ cur.size := by rw [hl, hcs, ← Nat.add_mul]; exact Nat.mul_le_mul_right _ hroom
      have hr := run_append_room (P := P) w t ty e i ht hi g n cap cur hg a m c news hl hn h1 hroom hfit
      refine ⟨_, _, hr, ⟨hall, .inr ⟨g, cap, _, rfl, hgl, setRow_heap w g cur _ e _ hg, hroom, hcm, ?_, ?_⟩⟩, ⟨rfl, rfl, rfl, by simp, fun b _ hne => setRow_other w g b _ (fun h => hne (by rw [h]; rfl))⟩, .inl rfl⟩
      · simp only [List.size_toArray, List.length_append, List.length_take, List.length_drop, Array.length_toList]; omega
      · rw [htk, ← hall]; exact List.take_left
    · have hold : ∀ (j : Nat) (u : Value), xs[j]? = some u → w.cell? ((⟨g, 0, none⟩ : Addr).add j) = some u := ho.cells (g := g) rfl
      have hr := run_append_grow (P := P) w t ty e i z ht hi hz ⟨g, 0, none⟩ n cap xs ho.1 hold a m c news hl hn (by omega) (by omega) (cap_fits (by omega) hb)
      have hf := fresh cap
      exact ⟨_, _, hr, hf.2, hf.1, .inr rfl⟩
end Go.Hal
namespace Go.Hal
open Go Go.RowKit
def ApT (P : Program) (t e : TypeId) (n bytes : Nat) : Prop := P.underlying t = some (.slice e) ∧ ∃ i z, P.info? e = some i ∧ i.zero = some z ∧ i.size = n ∧ i.bytes = bytes ∧ z.cells.size = n ∧ 0 < n
theorem apT_mk {P : Program} {t e : TypeId} {n bytes : Nat} {z : Value} (h1 : P.underlying t = some (.slice e)) (h2 : (P.info? e).map (fun i => (i.zero, i.size, i.bytes)) = some (some z, n, bytes)) (h3 : z.cells.size = n) (h4 : 0 < n) : ApT P t e n bytes := by
  cases hi : P.info? e with
  | none => rw [hi] at h2; cases h2
  | some i =>
    rw [hi] at h2
    simp only [Option.map_some, Option.some.injEq, Prod.mk.injEq] at h2
    exact ⟨h1, i, z, hi, h2.1, h2.2.1, h2.2.2, h3, h4⟩
structure OwnS {α : Type} (E : Enc α) (T : TypeId) (w : World) (lo : Nat) (S : Nat → Prop) (s : Sl) (l : List α) : Prop where
  row : ∃ css : List (List Value), w.ownsRow lo T E.n s.v s.len css.flatten ∧ css.length = l.length ∧ ∀ (i : Nat) (x : α), l[i]? = some x → ∃ cs, css[i]? = some cs ∧ E.rep w S x cs
  len : s.len = l.length
  lt : ∀ b, S b → b < w.heap.size
  apart : ∀ ad, s.a = some ad → ¬ S ad.block
section
variable {α : Type} {E : Enc α} {T : TypeId} {w w' : World} {lo : Nat} {S S' : Nat → Prop} {s : Sl} {l : List α}
theorem OwnS.nil (w : World) (lo : Nat) : OwnS E T w lo (fun _ => False) Sl.nil ([] : List α) :=
  ⟨⟨[], World.ownsRow_nil _ _ _ _, rfl, fun i x h => by simp at h⟩, rfl, fun _ h => h.elim, fun _ h => by cases h⟩
theorem OwnS.block (h : OwnS E T w lo S s l) {ad : Addr} (ha : s.a = some ad) : lo ≤ ad.block ∧ ad.block < w.heap.size ∧ ad = ⟨ad.block, 0, none⟩ := by
  obtain ⟨css, ho, _⟩ := h.row
  have h1 := ho.lt ad.block (by simp [Value.ownBlock, Sl.v, ha])
  refine ⟨h1.1, h1.2, ?_⟩
  rcases ho.2 with ⟨hv, _⟩ | ⟨g, cap, cur, hv, _⟩
  · simp [Sl.v, ha] at hv
  · simp [Sl.v, ha] at hv; rw [hv.1]
theorem OwnS.keep (h : OwnS E T w lo S s l) (hsz : w.heap.size ≤ w'.heap.size) (hk : ∀ b, b < w.heap.size → (S b ∨ ∃ ad, s.a = some ad ∧ b = ad.block) → w'.heap[b]? = w.heap[b]?) : OwnS E T w' lo S s l := by
  obtain ⟨css, ho, hl, hr⟩ := h.row
  refine ⟨⟨css, ⟨ho.1, ?_⟩, hl, fun i x hx => let ⟨cs, h1, h2⟩ := hr i x hx; ⟨cs, h1, E.keep h2 fun b hb hlt => hk b hlt (.inl hb)⟩⟩, h.len, fun b hb => Nat.lt_of_lt_of_le (h.lt b hb) hsz, h.apart⟩
  rcases ho.2 with h0 | ⟨g, cap, cur, hv, h1, h2, h3⟩
  · exact .inl h0
  · refine .inr ⟨g, cap, cur, hv, h1, ?_, h3⟩
    rw [hk g (lt_of_block h2) (.inr ⟨⟨g, 0, none⟩, by simp [Sl.v] at hv; exact hv.1, rfl⟩)]
    exact h2
theorem OwnS.ext (h : OwnS E T w lo S s l) (hx : Ext w w') : OwnS E T w' lo S s l := h.keep hx.size fun b hb _ => hx.block hb
theorem OwnS.mono (h : OwnS E T w lo S s l) (hs : ∀ b, S b → S' b) (hlt : ∀ b, S' b → b < w.heap.size) (hap : ∀ ad, s.a = some ad → ¬ S' ad.block) : OwnS E T w lo S' s l := by
  obtain ⟨css, ho, hl, hr⟩ := h.row
  exact ⟨⟨css, ho, hl, fun i x hx => let ⟨cs, h1, h2⟩ := hr i x hx; ⟨cs, h1, E.mono h2 hs⟩⟩, h.len, hlt, hap⟩
theorem flatten_get {css : List (List Value)} {n : Nat} (hn : ∀ cs ∈ css, cs.length = n) {i : Nat} {cs : List Value} (hi : css[i]? = some cs) {j : Nat} {v : Value} (hj : cs[j]? = some v) : css.flatten[i * n + j]? = some v := by
  induction css generalizing i with
  | nil => simp at hi
  | cons c r ih =>
    have hc : c.length = n := hn c (List.mem_cons_self ..)
    cases i with
    | zero =>
      simp only [List.getElem?_cons_zero, Option.some.injEq] at hi
      subst hi
      have hjl : j < c.length := (List.getElem?_eq_some_iff.1 hj).1
      rw [List.flatten_cons, Nat.zero_mul, Nat.zero_add, List.getElem?_append_left hjl]; exact hj
    | succ i =>
      rw [List.getElem?_cons_succ] at hi
      have := ih (fun cs h => hn cs (List.mem_cons_of_mem _ h)) hi
      rw [List.flatten_cons, List.getElem?_append_right (by rw [hc, Nat.add_mul]; omega)]
      rw [show (i + 1) * n + j - c.length = i * n + j by rw [hc, Nat.add_mul]; omega]
      exact this
theorem OwnS.read (h : OwnS E T w lo S s l) (hb : l.length * E.bytes ≤ room) (hm : l.length ≤ maxLen) : SlR E w (fun b => S b ∨ ∃ ad, s.a = some ad ∧ b = ad.block) s l := by
  obtain ⟨css, ho, hl, hr⟩ := h.row
  rcases ho.2 with ⟨hv, hn⟩ | ⟨g, cap, cur, hv, hg, hh, hc, hcm, hcs, ht⟩
  · have h0 : l = [] := List.eq_nil_of_length_eq_zero (by rw [← h.len]; exact hn)
    subst h0
    simp [Sl.v] at hv
    exact ⟨h.len, by simp, by rw [hv.2.2]; exact Nat.zero_le _, hb, .inl rfl⟩
  · simp [Sl.v] at hv
    obtain ⟨ha, hcap⟩ := hv
    subst hcap
    refine ⟨h.len, by rw [← h.len]; exact hc, hcm, hb, .inr ⟨_, ha, .inr ⟨_, ha, rfl⟩, fun i x hx => ?_⟩⟩
    obtain ⟨cs, h1, h2⟩ := hr i x hx
    refine ⟨cs, E.mono h2 fun _ h => .inl h, fun j v hj => ?_⟩
    have hall : ∀ cs ∈ css, cs.length = E.n := by
      intro cs hcs
      obtain ⟨k, hk, he⟩ := List.mem_iff_getElem.1 hcs
      have hkl : k < l.length := by rw [← hl]; exact hk
      obtain ⟨cs', h3, h4⟩ := hr k _ (List.getElem?_eq_getElem hkl)
      rw [List.getElem?_eq_getElem hk, he, Option.some.injEq] at h3
      rw [h3]; exact E.len h4
    rw [add_add]
    exact ho.cells (g := g) (by simp [Value.ownBlock, Sl.v, ha]) _ _ (flatten_get hall h1 hj)
theorem OwnS.app {P : Program} {t e : TypeId} {k : Sl → World → Prop} {a : Addr} {cs : List Value} {x : α} (h : OwnS E e w lo S s l) (hT : ApT P t e E.n E.bytes) (hlo : lo ≤ w.heap.size) (hx : E.rep w S' x cs) (hc : ldc w a cs) (hS' : ∀ b, S' b → b < w.heap.size) (hap : ∀ ad, s.a = some ad → ¬ S' ad.block)
    (hb : (l.length + 1) * E.bytes ≤ room) (hm : l.length + 1 ≤ maxLen)
    (hk : ∀ (r : Sl) (w' : World), OwnS E e w' lo (fun b => S b ∨ S' b) r (l ++ [x]) → w.heap.size ≤ w'.heap.size → w'.os = w.os → w'.tape = w.tape → w'.output = w.output →
      (∀ b, b < w.heap.size → (∀ ad, s.a = some ad → b ≠ ad.block) → w'.heap[b]? = w.heap[b]?) → (∀ ad, r.a = some ad → (s.a = some ad ∨ w.heap.size ≤ ad.block)) → k r w') : appS P t t s (Sl.v ⟨some a, 1, 1⟩) w k := by
  intro ty
  obtain ⟨css, ho, hl, hr⟩ := h.row
  obtain ⟨ht, i, z, hi, hz, hsz, hby, hzs, hn0⟩ := hT
  have hlen := E.len hx
  have hnl := h.len
  obtain ⟨v', w', hrun, hown, hgr, hblk⟩ := append_ownR (P := P) (ty := ty) (m := 1) (c := 1) ht hi hz (by rw [hsz]; exact hzs) (by rw [hsz]; exact hn0) (by rw [hsz]; exact ho) (by rw [hsz, hlen, Nat.one_mul]) (fun j u hj => hc j u hj) (E.one hx) (by omega) (by rw [hnl, hby]; exact hb) hlo
  rw [hsz] at hown
  have hv' : ∃ r : Sl, v' = r.v ∧ r.len = s.len + 1 := by
    rcases hown.2 with ⟨hv, hn⟩ | ⟨g, cap, cur, hv, _⟩
    · omega
    · exact ⟨⟨_, _, _⟩, hv, rfl⟩
  obtain ⟨r, rfl, hrl⟩ := hv'
  have hreg : ∀ ad, r.a = some ad → (s.a = some ad ∨ w.heap.size ≤ ad.block) := by
    intro ad had
    have hab : s.v.ownBlock = some ad.block ∨ w.heap.size ≤ ad.block := by
      have h0 : (Sl.v r).ownBlock = some ad.block := by simp [Value.ownBlock, Sl.v, had]
      rcases hblk with hb | hb
      · left; rw [← hb]; exact h0
      · right; rw [h0, Option.some.injEq] at hb; omega
    rcases hab with hab | hab
    · left
      have h2 : ad = ⟨ad.block, 0, none⟩ := by
        rcases hown.2 with ⟨hv, _⟩ | ⟨g, cap, cur, hv, _⟩
        · simp [Sl.v, had] at hv
        · simp [Sl.v, had] at hv; rw [hv.1]
      cases hsa : s.a with
      | none => simp [Value.ownBlock, Sl.v, hsa] at hab
      | some ad' =>
        simp [Value.ownBlock, Sl.v, hsa] at hab
        have := (h.block hsa).2.2
        rw [this, hab, ← h2]
    · exact .inr hab
  refine ⟨_, w', hrun, r, rfl, hk r w' ?_ hgr.size hgr.os hgr.tape hgr.output ?_ hreg⟩
  · have hold : ∀ b, b < w.heap.size → (S b ∨ S' b) → w'.heap[b]? = w.heap[b]? := fun b hbl hbs => by
      refine hgr.block b hbl ?_
      simp only [Value.ownBlock, Sl.v]
      cases hsa : s.a with
      | none => simp
      | some ad =>
        simp only [ne_eq, Option.some.injEq]
        rintro rfl
        rcases hbs with hbs | hbs
        · exact h.apart _ hsa hbs
        · exact hap _ hsa hbs
    refine ⟨⟨css ++ [cs], ?_, by simp [hl], fun j y hj => ?_⟩, by simp [hrl, hnl], fun b hbs => ?_, fun ad had hbs => ?_⟩
    · rw [hrl, List.flatten_append]; simpa using hown
    · rw [List.getElem?_append] at hj
      split at hj
      · rename_i hjl
        obtain ⟨cs', h1, h2⟩ := hr j y hj
        exact ⟨cs', by rw [List.getElem?_append_left (by omega)]; exact h1, E.keep (E.mono h2 fun _ h => .inl h) fun b hb hlt => hold b hlt hb⟩
      · rename_i hjl
        have hj0 : j - l.length = 0 := by
          rcases Nat.eq_zero_or_pos (j - l.length) with h0 | h0
          · exact h0
          · rw [List.getElem?_eq_none (by simp; omega)] at hj; cases hj
        rw [hj0] at hj
        simp only [List.getElem?_cons_zero, Option.some.injEq] at hj
        subst hj
        exact ⟨cs, by rw [List.getElem?_append_right (by omega), hl, hj0]; rfl, E.keep (E.mono hx fun _ h => .inr h) fun b hb hlt => hold b hlt hb⟩
    · have : b < w.heap.size := by
        rcases hbs with hbs | hbs
        · exact h.lt b hbs
        · exact hS' b hbs
      have := hgr.size; omega
    · rcases hreg ad had with h1 | h1
      · rcases hbs with hbs | hbs
        · exact h.apart ad h1 hbs
        · exact hap ad h1 hbs
      · have : ad.block < w.heap.size := by
          rcases hbs with hbs | hbs
          · exact h.lt _ hbs
          · exact hS' _ hbs
        omega
  · intro b hbl hne
    refine hgr.block b hbl ?_
    simp only [Value.ownBlock, Sl.v]
    cases hsa : s.a with
    | none => simp
    | some ad => simp only [ne_eq, Option.some.injEq]; exact hne ad hsa
theorem OwnS.push {P : Program} {t e : TypeId} {k : Sl → World → Prop} {a : Addr} {cs : List Value} {x : α} (h : OwnS E e w lo S s l) (hT : ApT P t e E.n E.bytes) (hlo : lo ≤ w.heap.size) (hx : E.rep w S' x cs) (hc : ldc w a cs) (hS' : ∀ b, S' b → b < w.heap.size) (hap : ∀ ad, s.a = some ad → ¬ S' ad.block)
    (hb : (l.length + 1) * E.bytes ≤ room) (hm : l.length + 1 ≤ maxLen)
    (hk : ∀ (r : Sl) (w' : World), OwnS E e w' lo (fun b => S b ∨ S' b) r (l ++ [x]) → Below lo w w' → (∀ b, b < w.heap.size → (∀ ad, s.a = some ad → b ≠ ad.block) → w'.heap[b]? = w.heap[b]?) → (∀ ad, r.a = some ad → (s.a = some ad ∨ w.heap.size ≤ ad.block)) → k r w') : appS P t t s (Sl.v ⟨some a, 1, 1⟩) w k :=
  h.app hT hlo hx hc hS' hap hb hm fun r w' h1 h2 h3 h4 h5 h6 h7 => hk r w' h1 ⟨h3, h4, h5, h2, fun b hb => h6 b (by omega) fun ad ha e => by have := (h.block ha).1; omega⟩ h6 h7
end
theorem callX.intro {P : Program} {f : FuncId} {args : List Value} {w : World} {k : Value → World → Prop} (h : callS P f args w fun v w' => Ext w w' ∧ k v w') : callX P f args w k := h
def Old (S : Nat → Prop) (w : World) : Prop := ∀ b, S b → b < w.heap.size
theorem Old.ext {S : Nat → Prop} {w w' : World} (h : Old S w) (hx : w.heap.size ≤ w'.heap.size) : Old S w' := fun b hb => Nat.lt_of_lt_of_le (h b hb) hx
end Go.Hal
namespace Go.Hal
open Go Go.RowKit
theorem bnd.drew {w : World} {k : World → Prop} (h : ∀ w', Ext w w' → k w') : bnd w.drew k := fun _ e => h _ (e ▸ Ext.drew w)
theorem ldc.pre {w : World} {a : Addr} {cs cs' r : List Value} (h : ldc w a cs) (hp : cs = cs' ++ r) : ldc w a cs' := fun j v hj => h j v (by
  subst hp; rw [List.getElem?_append_left (List.getElem?_eq_some_iff.1 hj).1]; exact hj)
theorem ldc.mid {w : World} {a : Addr} {k : Nat} {cs cs' r : List Value} (h : ldc w a cs) (hp : cs.drop k = cs' ++ r) : ldc w (a.add k) cs' := fun j v hj => by
  rw [add_add]
  refine h (k + j) v ?_
  rw [← List.getElem?_drop, hp, List.getElem?_append_left (List.getElem?_eq_some_iff.1 hj).1]; exact hj
theorem BoxAt.at0 {w w' : World} {a : Addr} {cs cs' r : List Value} (h : BoxAt w a cs) (hx : Ext w w') (hp : cs = cs' ++ r) : Go.Hal.ldc w' a cs' := (h.ext hx).ldc.pre hp
theorem BoxAt.at1 {w w' : World} {a : Addr} {k : Nat} {cs cs' r : List Value} (h : BoxAt w a cs) (hx : Ext w w') (hp : cs.drop k = cs' ++ r) : Go.Hal.ldc w' (a.add k) cs' := (h.ext hx).ldc.mid hp
theorem gCall.intro {τ : Type} {g : Bool} {w : World} {k : τ → World → Prop} {A : (τ → World → Prop) → Prop} {d : τ} (val : τ) (hA : g = true → ∀ q : τ → World → Prop, (∀ w', Ext w w' → q val w') → A q)
    (hk : ∀ t w', Ext w w' → (g = true → t = val) → k t w') : gCall g k A (fun q => q d w) :=
  ⟨fun hg => hA hg _ fun w' hx => hk _ _ hx fun _ => rfl, fun hg => hk _ _ (Ext.refl _) fun h => by rw [hg] at h; cases h⟩
theorem stw0.intro {w : World} {a : Addr} {old cs : List Value} {k : World → Prop} (hb : BoxAt w a old) (hl : cs.length ≤ old.length) (h : ∀ w', But a.block w w' → w'.heap.size = w.heap.size → BoxAt w' a (cs ++ old.drop cs.length) → k w') : stw w a cs k := by
  have := stw.intro (o := 0) (cs := cs) (k := k) hb (by omega) fun w' h1 h2 h3 => h w' h1 h2 (by simpa using h3)
  simpa [add_zero] using this
theorem But.ext {g : Nat} {w0 w w' : World} (h : But g w w') (hx : Ext w0 w) (hg : w0.heap.size ≤ g) : Ext w0 w' := hx.trans' (h.below hx.size hg)
theorem bound {α : Sort _} {x : α} {k : α → Prop} (h : k x) : bnd x k := fun _ e => e ▸ h
theorem loop1.up {w : World} {body : Int → World → (Int → World → Prop) → Prop} {N : Nat} (hN : N ≤ maxLen) (I : Nat → World → Prop) (h0 : I 0 w)
    (hs : ∀ (n : Nat) w' (nxt : Int → World → Prop), n ≤ N → I n w' → (n < N → ∀ w'', I (n + 1) w'' → nxt (wrapI ((n : Int) + 1)) w'') → body n w' nxt) : loop1 0 w body :=
  ⟨fun i w' => ∃ n : Nat, i = n ∧ n ≤ N ∧ I n w', fun i _ => N - i.toNat, ⟨0, rfl, Nat.zero_le _, h0⟩, fun i w' ⟨n, hi, hn, hI⟩ => by
    subst hi
    refine hs n w' _ hn hI fun hlt w'' h => ?_
    rw [wrapI_add1 (n := N) (by omega) (by omega) hN]
    exact ⟨⟨n + 1, by omega, by omega, h⟩, by show N - ((n : Int) + 1).toNat < N - (n : Int).toNat; omega⟩⟩
theorem loop2.up {α : Type} {a : α} {w : World} {body : α → Int → World → (α → Int → World → Prop) → Prop} {N : Nat} (hN : N ≤ maxLen) (I : α → Nat → World → Prop) (h0 : I a 0 w)
    (hs : ∀ (a : α) (n : Nat) w' (nxt : α → Int → World → Prop), n ≤ N → I a n w' → (n < N → ∀ a' w'', I a' (n + 1) w'' → nxt a' (wrapI ((n : Int) + 1)) w'') → body a n w' nxt) : loop2 a 0 w body :=
  ⟨fun a i w' => ∃ n : Nat, i = n ∧ n ≤ N ∧ I a n w', fun _ i _ => N - i.toNat, ⟨0, rfl, Nat.zero_le _, h0⟩, fun a i w' ⟨n, hi, hn, hI⟩ => by
    subst hi
    refine hs a n w' _ hn hI fun hlt a' w'' h => ?_
    rw [wrapI_add1 (n := N) (by omega) (by omega) hN]
    exact ⟨⟨n + 1, by omega, by omega, h⟩, by show N - ((n : Int) + 1).toNat < N - (n : Int).toNat; omega⟩⟩
theorem SlR.max {α : Type} {E : Enc α} {w : World} {S : Nat → Prop} {s : Sl} {l : List α} (h : SlR E w S s l) : l.length ≤ maxLen := Nat.le_trans h.2.1 h.2.2.1
theorem SlR.el {α : Type} {E : Enc α} {w : World} {S : Nat → Prop} {s : Sl} {l : List α} (h : SlR E w S s l) {n : Nat} (hn : n < l.length) :
    ∃ ad cs, s.a = some ad ∧ S ad.block ∧ E.rep w S l[n] cs ∧ ∀ w', Ext w w' → ldc w' (ad.add (n * E.n)) cs := by
  obtain ⟨ad, cs, h1, h2, h3, h4⟩ := h.get (List.getElem?_eq_getElem hn)
  exact ⟨ad, cs, h1, h2, h3, fun w' hx => h4.ext hx⟩
theorem spanEl {w : World} {S : Nat → Prop} {s : Sl} {l : List Span} (h : SlR spanE w S s l) {n : Nat} (hn : n < l.length) :
    ∃ ad, s.a = some ad ∧ S ad.block ∧ ∀ w', Ext w w' → ldc w' (ad.add (n * 6)) [.int .i64 l[n].lo.ma, .int .i64 l[n].lo.mi, .int .i64 l[n].lo.pa, .int .i64 l[n].hi.ma, .int .i64 l[n].hi.mi, .int .i64 l[n].hi.pa] := by
  obtain ⟨ad, cs, h1, h2, ⟨rfl, _⟩, h4⟩ := h.el hn
  exact ⟨ad, h1, h2, h4⟩
theorem depEl {w : World} {S : Nat → Prop} {s : Sl} {l : List Dep} (h : SlR depE w S s l) {n : Nat} (hn : n < l.length) :
    ∃ ad t, s.a = some ad ∧ S ad.block ∧ Str l[n].name ∧ SlR spanE w S t l[n].range ∧ ∀ w', Ext w w' → ldc w' (ad.add (n * 2)) [.string l[n].name, t.v] := by
  obtain ⟨ad, cs, h1, h2, ⟨h0, t, rfl, h5⟩, h4⟩ := h.el hn
  exact ⟨ad, t, h1, h2, h0, h5, h4⟩
theorem join.intro {τ : Sort _} {R : τ} {b : τ → Prop} (h : b R) : join R b := h
theorem join.named {τ : Sort _} {R : τ} {b : τ → Prop} (h : ∀ J, J = R → b J) : join R b := h R rfl
def None' : Nat → Prop := fun _ => False
theorem OwnS.zero {α : Type} {E : Enc α} {T : TypeId} (w : World) : OwnS E T w w.heap.size None' Sl.nil ([] : List α) := OwnS.nil _ _
theorem OwnS.pushF {α : Type} {E : Enc α} {P : Program} {w0 w : World} {t e : TypeId} {s : Sl} {l : List α} {x : α} {cs : List Value} {a : Addr} {k : Sl → World → Prop} (h : OwnS E e w w0.heap.size None' s l) (x0 : Ext w0 w) (hT : ApT P t e E.n E.bytes)
    (hx : E.rep w None' x cs) (hc : ldc w a cs) (h1 : 1 ≤ E.bytes) (hb : (l.length + 1) * E.bytes ≤ room) (hk : ∀ r w', OwnS E e w' w0.heap.size None' r (l ++ [x]) → Ext w0 w' → k r w') : appS P t t s (Sl.v ⟨some a, 1, 1⟩) w k := by
  have hm : l.length + 1 ≤ maxLen := by
    have : (l.length + 1) * 1 ≤ (l.length + 1) * E.bytes := Nat.mul_le_mul_left _ h1
    rw [maxLen_eq]; unfold room at hb; omega
  exact h.push hT x0.size hx hc (fun _ h => h.elim) (fun _ _ h => h.elim) hb hm fun r w' own bel _ _ => hk r w' (own.mono (fun _ h => h.elim id id) (fun _ h => h.elim) (fun _ _ h => h.elim)) (x0.trans' bel)
theorem OwnS.readF {α : Type} {E : Enc α} {T : TypeId} {w : World} {lo : Nat} {s : Sl} {l : List α} (h : OwnS E T w lo None' s l) (h1 : 1 ≤ E.bytes) (hb : l.length * E.bytes ≤ room) : SlR E w (fun b => lo ≤ b) s l := by
  have hm : l.length ≤ maxLen := by
    have : l.length * 1 ≤ l.length * E.bytes := Nat.mul_le_mul_left _ h1
    rw [maxLen_eq]; unfold room at hb; omega
  refine (h.read hb hm).mono fun b hb => ?_
  rcases hb with hb | ⟨ad, ha, rfl⟩
  · exact hb.elim
  · exact (h.block ha).1
def rkE : Enc (Int × Int) := flatE 2 16 (fun x => [.int .i64 x.1, .int .i64 x.2]) (fun _ => True) (fun _ => rfl) (fun _ v hv => by simp at hv; rcases hv with rfl | rfl <;> rfl)
def strE : Enc ByteArray := flatE 1 16 (fun x => [.string x]) (fun x => Str x) (fun _ => rfl) (fun _ v hv => by simp at hv; subst hv; rfl)
theorem rkEl {w : World} {S : Nat → Prop} {s : Sl} {l : List (Int × Int)} (h : SlR rkE w S s l) {n : Nat} (hn : n < l.length) :
    ∃ ad, s.a = some ad ∧ S ad.block ∧ ∀ w', Ext w w' → ldc w' (ad.add (n * 2)) [.int .i64 l[n].1, .int .i64 l[n].2] := by
  obtain ⟨ad, cs, h1, h2, ⟨rfl, _⟩, h4⟩ := h.el hn
  exact ⟨ad, h1, h2, h4⟩
theorem add_plain (b j : Nat) : Addr.add ⟨b, 0, none⟩ j = ⟨b, j, none⟩ := by unfold Addr.add; split <;> simp_all
end Go.Hal
namespace Go.Hal
open Go Go.RowKit
theorem Ext.but {w w' : World} (h : Ext w w') (g : Nat) : But g w w' := ⟨h.size, h.os, h.tape, h.output, fun b hb _ => h.block hb⟩
theorem But.trans {g : Nat} {a b c : World} (h : But g a b) (k : But g b c) : But g a c :=
  ⟨Nat.le_trans h.1 k.1, k.2.1.trans h.2.1, k.2.2.1.trans h.2.2.1, k.2.2.2.1.trans h.2.2.2.1, fun x hx hne => (k.2.2.2.2 x (by have := h.1; omega) hne).trans (h.2.2.2.2 x hx hne)⟩
end Go.Hal
namespace Go.Hal
structure Ord3 {α : Type} (c : α → α → Int) : Prop where
  flip : ∀ x y, c x y < 0 ↔ 0 < c y x
  trans : ∀ x y z, c x y ≤ 0 → c y z ≤ 0 → c x z ≤ 0
def Ah {α : Type} (c : α → α → Int) (x y : α × Nat) : Prop := c x.1 y.1 < 0 ∨ (c x.1 y.1 = 0 ∧ x.2 < y.2)
section
variable {α : Type} {c : α → α → Int}
theorem Ord3.zero (h : Ord3 c) {x y : α} : c x y = 0 ↔ c y x = 0 := by
  have h1 := h.flip x y; have h2 := h.flip y x
  constructor <;> intro h0 <;> omega
theorem Ord3.lt_of (h : Ord3 c) {x y z : α} (h1 : c x y < 0) (h2 : c y z ≤ 0) : c x z < 0 := by
  have hxz := h.trans x y z (by omega) h2
  rcases Int.lt_or_eq_of_le hxz with h3 | h3
  · exact h3
  · exfalso
    have h4 := h.trans y z x h2 (by rw [h.zero.1 h3]; exact Int.le_refl _)
    have := (h.flip x y).1 h1
    omega
theorem Ord3.lt_of' (h : Ord3 c) {x y z : α} (h1 : c x y ≤ 0) (h2 : c y z < 0) : c x z < 0 := by
  have hxz := h.trans x y z h1 (by omega)
  rcases Int.lt_or_eq_of_le hxz with h3 | h3
  · exact h3
  · exfalso
    have h4 := h.trans z x y (by rw [h.zero.1 h3]; exact Int.le_refl _) h1
    have := (h.flip y z).1 h2
    omega
theorem Ah.trans (h : Ord3 c) {x y z : α × Nat} (h1 : Ah c x y) (h2 : Ah c y z) : Ah c x z := by
  rcases h1 with h1 | ⟨h1, h1'⟩ <;> rcases h2 with h2 | ⟨h2, h2'⟩
  · exact .inl (h.lt_of h1 (by omega))
  · exact .inl (h.lt_of h1 (by omega))
  · exact .inl (h.lt_of' (by omega) h2)
  · refine .inr ⟨?_, by omega⟩
    have a := h.trans _ _ _ (show c x.1 y.1 ≤ 0 by omega) (show c y.1 z.1 ≤ 0 by omega)
    have b := h.trans _ _ _ (show c z.1 y.1 ≤ 0 by rw [h.zero.1 h2]; omega) (show c y.1 x.1 ≤ 0 by rw [h.zero.1 h1]; omega)
    have := h.flip z.1 x.1; have := h.flip x.1 z.1
    omega
theorem Ah.not (h : Ord3 c) {x y : α × Nat} (h1 : Ah c x y) : ¬ Ah c y x := fun h2 => by
  rcases h1 with h1 | ⟨h1, h1'⟩ <;> rcases h2 with h2 | ⟨h2, h2'⟩
  · have := (h.flip _ _).1 h1; omega
  · have := h.zero.1 h2; omega
  · have := h.zero.1 h1; omega
  · omega
theorem Ah.right (h : Ord3 c) {x y : α × Nat} (hi : x.2 < y.2) : (c y.1 x.1 < 0 → Ah c y x) ∧ (¬ c y.1 x.1 < 0 → Ah c x y) :=
  ⟨fun h1 => .inl h1, fun h1 => by
    have h2 := h.flip y.1 x.1; have h3 := h.flip x.1 y.1
    by_cases h0 : c x.1 y.1 = 0
    · exact .inr ⟨h0, hi⟩
    · exact .inl (by omega)⟩
def stIns (c : α → α → Int) (x : α) : List α → List α
  | [] => [x]
  | y :: r => if c x y ≤ 0 then x :: y :: r else y :: stIns c x r
def stSort (c : α → α → Int) : List α → List α
  | [] => []
  | x :: r => stIns c x (stSort c r)
theorem stIns_perm (x : α) (l : List α) : (stIns c x l).Perm (x :: l) := by
  induction l with
  | nil => exact List.Perm.refl _
  | cons y r ih =>
    unfold stIns
    split
    · exact List.Perm.refl _
    · exact (ih.cons y).trans (List.Perm.swap x y r)
theorem stSort_perm (l : List α) : (stSort c l).Perm l := by
  induction l with
  | nil => exact List.Perm.refl _
  | cons x r ih => exact (stIns_perm x _).trans (ih.cons x)
def nums : Nat → List α → List (α × Nat)
  | _, [] => []
  | k, x :: r => (x, k) :: nums (k + 1) r
def cN (c : α → α → Int) (x y : α × Nat) : Int := c x.1 y.1
theorem nums_fst (k : Nat) (l : List α) : (nums k l).map Prod.fst = l := by
  induction l generalizing k with
  | nil => rfl
  | cons x r ih => simp [nums, ih]
theorem nums_snd (k : Nat) (l : List α) : ∀ x ∈ nums k l, k ≤ x.2 ∧ x.2 < k + l.length := by
  induction l generalizing k with
  | nil => intro x h; cases h
  | cons a r ih =>
    intro x h
    rcases List.mem_cons.1 h with rfl | h
    · simp
    · have := ih (k + 1) x h
      simp; omega
theorem nums_len (k : Nat) (l : List α) : (nums k l).length = l.length := by
  induction l generalizing k with
  | nil => rfl
  | cons x r ih => simp [nums, ih]
theorem nums_rise (k : Nat) (l : List α) : (nums k l).Pairwise fun x y => x.2 < y.2 := by
  induction l generalizing k with
  | nil => exact .nil
  | cons a r ih =>
    refine .cons (fun x h => ?_) (ih _)
    have := (nums_snd (k + 1) r x h).1
    show k < x.2
    omega
theorem stIns_fst (x : α × Nat) (l : List (α × Nat)) : (stIns (cN c) x l).map Prod.fst = stIns c x.1 (l.map Prod.fst) := by
  induction l with
  | nil => rfl
  | cons y r ih =>
    have e : cN c x y = c x.1 y.1 := rfl
    by_cases h : c x.1 y.1 ≤ 0
    · rw [stIns, if_pos (by rw [e]; exact h)]; simp only [List.map_cons]; rw [stIns, if_pos h]
    · rw [stIns, if_neg (by rw [e]; exact h)]; simp only [List.map_cons]; rw [stIns, if_neg h, ih]
theorem stSort_fst (l : List (α × Nat)) : (stSort (cN c) l).map Prod.fst = stSort c (l.map Prod.fst) := by
  induction l with
  | nil => rfl
  | cons x r ih => simp only [stSort, List.map_cons, stIns_fst, ih]
theorem stIns_sorted (h : Ord3 c) {x : α × Nat} {l : List (α × Nat)} (hl : l.Pairwise (Ah c)) (hx : ∀ y ∈ l, x.2 < y.2) : (stIns (cN c) x l).Pairwise (Ah c) := by
  induction l with
  | nil => exact List.pairwise_singleton _ _
  | cons y r ih =>
    obtain ⟨h1, h2⟩ := List.pairwise_cons.1 hl
    have hxy := hx y (.head _)
    unfold stIns
    split
    · rename_i hc
      have hc : c x.1 y.1 ≤ 0 := hc
      have a : Ah c x y := by
        rcases Int.lt_or_eq_of_le hc with h3 | h3
        · exact .inl h3
        · exact .inr ⟨h3, hxy⟩
      refine .cons (fun z hz => ?_) hl
      rcases List.mem_cons.1 hz with rfl | hz
      · exact a
      · exact a.trans h (h1 z hz)
    · rename_i hc
      have hc : ¬ c x.1 y.1 ≤ 0 := hc
      refine .cons (fun z hz => ?_) (ih h2 fun y hy => hx y (.tail _ hy))
      rcases List.mem_cons.1 ((stIns_perm x r).mem_iff.1 hz) with rfl | hz
      · exact .inl ((h.flip _ _).2 (by omega))
      · exact h1 z hz
theorem stSort_sorted (h : Ord3 c) {l : List (α × Nat)} (hl : l.Pairwise fun x y => x.2 < y.2) : (stSort (cN c) l).Pairwise (Ah c) := by
  induction l with
  | nil => exact .nil
  | cons x r ih =>
    obtain ⟨h1, h2⟩ := List.pairwise_cons.1 hl
    exact stIns_sorted h (ih h2) fun y hy => h1 y ((stSort_perm r).mem_iff.1 hy)
theorem sorted_one {β : Type} {R : β → β → Prop} (hn : ∀ x y, R x y → ¬ R y x) : ∀ {l m : List β}, l.Pairwise R → m.Pairwise R → l.Perm m → l = m
  | [], m, _, _, hp => (List.nil_perm.1 hp).symm
  | x :: r, [], _, _, hp => (List.perm_nil.1 hp)
  | x :: r, y :: s, h1, h2, hp => by
    obtain ⟨a1, a2⟩ := List.pairwise_cons.1 h1
    obtain ⟨b1, b2⟩ := List.pairwise_cons.1 h2
    have e : x = y := by
      rcases List.mem_cons.1 (hp.mem_iff.1 (.head _)) with e | hx
      · exact e
      · rcases List.mem_cons.1 (hp.mem_iff.2 (List.mem_cons_self (a := y) (l := s))) with e | hy
        · exact e.symm
        · exact absurd (b1 x hx) (hn _ _ (a1 y hy))
    subst e
    rw [sorted_one hn a2 b2 (List.perm_cons x |>.1 hp)]
theorem stSort_of (h : Ord3 c) {l : List α} {m : List (α × Nat)} (hp : m.Perm (nums 0 l)) (hs : m.Pairwise (Ah c)) : m.map Prod.fst = stSort c l := by
  have := sorted_one (fun x y h1 => Ah.not h h1) hs (stSort_sorted h (nums_rise 0 l)) (hp.trans (stSort_perm _).symm)
  rw [this, stSort_fst, nums_fst]
theorem stSort_sorted' (h : Ord3 c) (l : List α) : (stSort c l).Pairwise fun x y => c x y ≤ 0 := by
  have := stSort_sorted h (nums_rise 0 l)
  have e := stSort_fst (c := c) (nums 0 l)
  rw [nums_fst] at e
  rw [← e, List.pairwise_map]
  refine this.imp fun {x y} h => ?_
  rcases h with h | h <;> omega
end
def sg {α : Type} (z : List α) (i n : Nat) : List α := (z.drop i).take n
theorem sg_split {α : Type} (z : List α) (i n : Nat) : z = z.take i ++ sg z i n ++ z.drop (i + n) := by
  unfold sg
  rw [List.append_assoc, ← List.drop_drop, List.take_append_drop, List.take_append_drop]
theorem sg_left {α : Type} {A M B : List α} {i n : Nat} (h : i + n ≤ A.length) : sg (A ++ M ++ B) i n = sg A i n := by
  unfold sg
  rw [List.append_assoc, List.drop_append_of_le_length (by omega), List.take_append_of_le_length (by rw [List.length_drop]; omega)]
theorem sg_self {α : Type} {A M B : List α} {i n : Nat} (h : A.length = i) (hn : M.length = n) : sg (A ++ M ++ B) i n = M := by
  subst h; subst hn
  unfold sg
  rw [List.append_assoc, List.drop_left, List.take_left]
theorem sg_last {α : Type} {A M : List α} {i n : Nat} (h : A.length = i) (hn : M.length ≤ n) : sg (A ++ M) i n = M := by
  subst h
  unfold sg
  rw [List.drop_left, List.take_of_length_le hn]
theorem sg_nil {α : Type} {z : List α} {i n : Nat} (h : z.length ≤ i) : sg z i n = [] := by unfold sg; rw [List.drop_eq_nil_of_le h]; simp
theorem sg_len {α : Type} {z : List α} {i n : Nat} (h : i + n ≤ z.length) : (sg z i n).length = n := by unfold sg; rw [List.length_take, List.length_drop]; omega
theorem sg_app {α : Type} {z : List α} {i n m : Nat} : sg z i (n + m) = sg z i n ++ sg z (i + n) m := by unfold sg; rw [List.take_add, List.drop_drop]
theorem sg_mem {α : Type} {z : List α} {i n : Nat} {x : α} (h : x ∈ sg z i n) : ∃ j, ∃ hj : j < z.length, i ≤ j ∧ j < i + n ∧ z[j] = x := by
  obtain ⟨k, hk, rfl⟩ := List.mem_iff_getElem.1 h
  unfold sg at hk ⊢
  rw [List.length_take, List.length_drop] at hk
  exact ⟨i + k, by omega, by omega, by omega, by rw [List.getElem_take, List.getElem_drop]⟩
structure Chunks {α : Type} (c : α → α → Int) (n : Nat) (z z0 : List (α × Nat)) (k : Nat) : Prop where
  perm : ∀ i < k, (sg z (i * n) n).Perm (sg z0 (i * n) n)
  sort : ∀ i < k, (sg z (i * n) n).Pairwise (Ah c)
theorem half {i j : Nat} (h : i + j < 9223372036854775808) : Go.IntKind.wrap .i64 (Int.fdiv (Go.IntKind.wrap .u64 (wrapI ((i : Int) + (j : Int)))) (2 ^ 1)) = (((i + j) / 2 : Nat) : Int) := by
  rw [wrapI_eq (by omega) (by omega)]
  have e1 : Go.IntKind.wrap .u64 ((i : Int) + (j : Int)) = (i : Int) + (j : Int) := by
    simp only [Go.IntKind.wrap, Go.IntKind.bits, Go.IntKind.signed, Bool.false_and, Bool.false_eq_true, if_false]
    omega
  rw [e1]
  have e2 : Int.fdiv ((i : Int) + (j : Int)) (2 ^ 1) = (((i + j) / 2 : Nat) : Int) := by
    rw [Int.fdiv_eq_ediv_of_nonneg _ (by decide)]; omega
  rw [e2]
  exact wrapI_eq (by omega) (by omega)
end Go.Hal
namespace Go.Hal
open Go Go.RowKit
theorem flat_len {α β : Type} {k : Nat} (f : α → List β) (hk : ∀ x, (f x).length = k) (l : List α) : ((l.map f).flatten).length = l.length * k := by
  induction l with
  | nil => simp
  | cons a l ih => simp [ih, hk, Nat.add_mul, Nat.add_comm]
def RowB {α : Type} (f : α → List Value) (w : World) (g : Nat) (l : List α) (tail : List Value) : Prop := BoxAt w ⟨g, 0, none⟩ ((l.map f).flatten ++ tail)
section
variable {α : Type} {f : α → List Value} {k : Nat} {w w' : World} {g : Nat} {l : List α} {tail : List Value}
theorem RowB.ext (h : RowB f w g l tail) (hx : Ext w w') : RowB f w' g l tail := BoxAt.ext h hx
theorem RowB.lt (h : RowB f w g l tail) : g < w.heap.size := BoxAt.lt h
theorem flat_split (i : Nat) (hi : i < l.length) (tail : List Value) :
    (l.map f).flatten ++ tail = (((l.take i).map f).flatten) ++ f l[i] ++ (((l.drop (i + 1)).map f).flatten ++ tail) := by
  have h : l = l.take i ++ l[i] :: l.drop (i + 1) := by rw [← List.drop_eq_getElem_cons hi, List.take_append_drop]
  have h2 : (l.map f).flatten = ((l.take i).map f).flatten ++ (f l[i] ++ ((l.drop (i + 1)).map f).flatten) := by
    conv => lhs; rw [h]
    rw [List.map_append, List.map_cons, List.flatten_append, List.flatten_cons]
  rw [h2]; simp only [List.append_assoc]
theorem flat_take (hk : ∀ x, (f x).length = k) {i : Nat} (hi : i < l.length) : (((l.take i).map f).flatten).length = i * k := by rw [flat_len f hk, List.length_take, Nat.min_eq_left (by omega)]
theorem RowB.ld (hk : ∀ x, (f x).length = k) (h : RowB f w g l tail) {i : Nat} (hi : i < l.length) : ldc w ((⟨g, 0, none⟩ : Addr).add (i * k)) (f l[i]) := by
  refine BoxAt.at1 h (Ext.refl _) (r := ((l.drop (i + 1)).map f).flatten ++ tail) ?_
  have hl := flat_take hk hi
  rw [flat_split i hi, List.append_assoc, List.drop_append_of_le_length (by rw [hl]; exact Nat.le_refl _), List.drop_eq_nil_of_le (by rw [hl]; exact Nat.le_refl _), List.nil_append]
theorem RowB.ld' (hk : ∀ x, (f x).length = k) (h : RowB f w g l tail) {i : Nat} {x : α} (hi : l[i]? = some x) : ldc w ((⟨g, 0, none⟩ : Addr).add (i * k)) (f x) := by
  obtain ⟨h1, rfl⟩ := List.getElem?_eq_some_iff.1 hi
  exact h.ld hk h1
theorem RowB.st (hk : ∀ x, (f x).length = k) (h : RowB f w g l tail) {i : Nat} (hi : i < l.length) {x : α} {K : World → Prop} (hK : ∀ w', But g w w' → RowB f w' g (l.set i x) tail → K w') : stw w ((⟨g, 0, none⟩ : Addr).add (i * k)) (f x) K := by
  have hl1 := flat_take hk hi
  have e := flat_split (f := f) i hi tail
  refine stw.intro (o := i * k) (old := (l.map f).flatten ++ tail) h (by rw [e, hk]; simp only [List.length_append, hl1, hk]; omega) fun w' hb hs hx => hK w' hb ?_
  have e2 := flat_split (f := f) (l := l.set i x) i (by simpa using hi) tail
  have e3 : ((l.map f).flatten ++ tail).take (i * k) ++ f x ++ ((l.map f).flatten ++ tail).drop (i * k + (f x).length) = ((l.set i x).map f).flatten ++ tail := by
    rw [e2, e, hk]
    have t1 : (((l.take i).map f).flatten ++ f l[i] ++ (((l.drop (i + 1)).map f).flatten ++ tail)).take (i * k) = ((l.take i).map f).flatten := by
      rw [List.append_assoc, List.take_append_of_le_length (by rw [hl1]; exact Nat.le_refl _), List.take_of_length_le (by rw [hl1]; exact Nat.le_refl _)]
    have t2 : (((l.take i).map f).flatten ++ f l[i] ++ (((l.drop (i + 1)).map f).flatten ++ tail)).drop (i * k + k) = ((l.drop (i + 1)).map f).flatten ++ tail := by
      rw [List.drop_append_of_le_length (by simp only [List.length_append, hl1, hk]; omega), List.drop_eq_nil_of_le (by simp only [List.length_append, hl1, hk]; omega), List.nil_append]
    have t3 : (l.set i x).take i = l.take i := by rw [List.take_set_of_le (Nat.le_refl _)]
    have t4 : (l.set i x).drop (i + 1) = l.drop (i + 1) := by rw [List.drop_set_of_lt (by omega)]
    rw [t1, t2, t3, t4, List.getElem_set_self]
  unfold RowB
  rw [← e3]; exact hx
end
theorem swap_adj {α : Type} (A B : List α) (y x : α) : ((A ++ y :: x :: B).set (A.length + 1) y).set A.length x = A ++ x :: y :: B := by
  simp [List.set_append]
theorem swap_adj' {α : Type} (A B : List α) (y x : α) : ((A ++ y :: x :: B).set A.length x).set (A.length + 1) y = A ++ x :: y :: B := by
  simp [List.set_append]
theorem swap_far {α : Type} (A B C : List α) (x y : α) : ((A ++ x :: (B ++ y :: C)).set A.length y).set (A.length + 1 + B.length) x = A ++ y :: (B ++ x :: C) := by
  rw [List.set_append_right _ _ (Nat.le_refl _), Nat.sub_self, List.set_cons_zero, List.set_append_right _ _ (by omega)]
  rw [show A.length + 1 + B.length - A.length = B.length + 1 by omega, List.set_cons_succ, List.set_append_right _ _ (Nat.le_refl _), Nat.sub_self, List.set_cons_zero]
theorem get_at {α : Type} (A B : List α) (y : α) : (A ++ y :: B)[A.length]? = some y := by simp
theorem get_at1 {α : Type} (A B : List α) (y x : α) : (A ++ y :: x :: B)[A.length + 1]? = some x := by simp
theorem get_at' {α : Type} {A B : List α} {y : α} {n : Nat} (h : A.length = n) : (A ++ y :: B)[n]? = some y := by subst h; exact get_at A B y
theorem get_at1' {α : Type} {A B : List α} {y x : α} {n : Nat} (h : A.length + 1 = n) : (A ++ y :: x :: B)[n]? = some x := by subst h; exact get_at1 A B y x
theorem But.ext' {g : Nat} {w0 w w' : World} (h : But g w0 w) (hx : Ext w w') : But g w0 w' := h.trans (hx.but g)
end Go.Hal
namespace Go.Hal
open Go Go.RowKit
section
open Classical
noncomputable def leastN (p : Nat → Prop) : Nat := if h : ∃ n, p n ∧ ∀ m, p m → n ≤ m then h.choose else 0
theorem least_ex {p : Nat → Prop} : ∀ n, p n → ∃ n, p n ∧ ∀ m, p m → n ≤ m := fun n => by
  induction n using Nat.strongRecOn with
  | _ n ih =>
    intro h
    by_cases hm : ∃ m, m < n ∧ p m
    · obtain ⟨m, h1, h2⟩ := hm; exact ih m h1 h2
    · exact ⟨n, h, fun m h2 => by
        rcases Nat.lt_or_ge m n with h3 | h3
        · exact absurd ⟨m, h3, h2⟩ hm
        · exact h3⟩
theorem leastN_spec {p : Nat → Prop} {n : Nat} (h : p n) : p (leastN p) ∧ ∀ m, p m → leastN p ≤ m := by
  have hx := least_ex n h
  unfold leastN
  rw [dif_pos hx]; exact hx.choose_spec
end
theorem loop1.ghost {α : Type} {a : α} {w : World} {body : α → World → (α → World → Prop) → Prop} (J : Nat → α → World → Prop) (n : Nat) (h0 : J n a w)
    (hs : ∀ n a w nxt, J n a w → (∀ m a' w', m < n → J m a' w' → nxt a' w') → body a w nxt) : loop1 a w body :=
  ⟨fun a w => ∃ n, J n a w, fun a w => leastN fun n => J n a w, ⟨n, h0⟩, fun a w ⟨n, h⟩ => hs _ a w _ (leastN_spec (p := fun n => J n a w) h).1 fun m a' w' hm hJ => ⟨⟨m, hJ⟩, Nat.lt_of_le_of_lt ((leastN_spec (p := fun n => J n a' w') hJ).2 m hJ) hm⟩⟩
theorem loop3.ghost {α β γ : Type} {a : α} {b : β} {c : γ} {w : World} {body : α → β → γ → World → (α → β → γ → World → Prop) → Prop} (J : Nat → α → β → γ → World → Prop) (n : Nat) (h0 : J n a b c w)
    (hs : ∀ n a b c w nxt, J n a b c w → (∀ m a' b' c' w', m < n → J m a' b' c' w' → nxt a' b' c' w') → body a b c w nxt) : loop3 a b c w body :=
  ⟨fun a b c w => ∃ n, J n a b c w, fun a b c w => leastN fun n => J n a b c w, ⟨n, h0⟩, fun a b c w ⟨n, h⟩ => hs _ a b c w _ (leastN_spec (p := fun n => J n a b c w) h).1 fun m a' b' c' w' hm hJ => ⟨⟨m, hJ⟩, Nat.lt_of_le_of_lt ((leastN_spec (p := fun n => J n a' b' c' w') hJ).2 m hJ) hm⟩⟩
theorem gCall.named {τ : Sort _} {g : Bool} {k : τ} {A B : τ → Prop} (h : ∀ J, J = k → (g = true → A J) ∧ (g = false → B J)) : gCall g k A B := h k rfl
theorem OwnS.but {α : Type} {E : Enc α} {T : TypeId} {w w' : World} {lo g : Nat} {S : Nat → Prop} {s : Sl} {l : List α} (h : OwnS E T w lo S s l) (hb : But g w w') (hS : ¬ S g) (hg : ∀ ad, s.a = some ad → g ≠ ad.block) : OwnS E T w' lo S s l :=
  h.keep hb.1 fun b hlt hb' => hb.2.2.2.2 b hlt (by
    rcases hb' with hb' | ⟨ad, ha, rfl⟩
    · rintro rfl; exact hS hb'
    · exact Ne.symm (hg ad ha))
theorem OwnS.rowG {α β : Type} {E : Enc α} {T : TypeId} {w : World} {lo : Nat} {S : Nat → Prop} {s : Sl} {l : List α} (f : β → List Value) (r : β → α → Prop) (hf : ∀ x cs, E.rep w S x cs → ∃ y, cs = f y ∧ r y x) (h : OwnS E T w lo S s l) :
    (s = Sl.nil ∧ l = []) ∨ ∃ (g : Nat) (z : List (β × α)) (tail : List Value), s.a = some ⟨g, 0, none⟩ ∧ lo ≤ g ∧ z.map Prod.snd = l ∧ (∀ p ∈ z, r p.1 p.2) ∧ RowB f w g (z.map Prod.fst) tail ∧ l.length ≤ s.cap ∧ s.cap ≤ maxLen := by
  obtain ⟨css, ho, hl, hr⟩ := h.row
  rcases ho.2 with ⟨hv, hn⟩ | ⟨g, cap, cur, hv, hlo, hh, hc, hm, hcs, ht⟩
  · left
    have h0 : l = [] := List.eq_nil_of_length_eq_zero (by rw [← h.len]; exact hn)
    refine ⟨?_, h0⟩
    obtain ⟨a, n, c⟩ := s
    simp only [Sl.v, Value.slice.injEq] at hv
    obtain ⟨rfl, rfl, rfl⟩ := hv; rfl
  · right
    have hz : ∀ (css : List (List Value)) (l : List α), css.length = l.length → (∀ (i : Nat) (x : α), l[i]? = some x → ∃ cs, css[i]? = some cs ∧ E.rep w S x cs) → ∃ z : List (β × α), z.map Prod.snd = l ∧ (∀ p ∈ z, r p.1 p.2) ∧ (z.map Prod.fst).map f = css := by
      intro css
      induction css with
      | nil => intro l hl _; exact ⟨[], (List.eq_nil_of_length_eq_zero hl.symm).symm, by simp, rfl⟩
      | cons c css ih =>
        intro l hl hr
        cases l with
        | nil => cases hl
        | cons x l =>
          obtain ⟨cs, h1, h2⟩ := hr 0 x rfl
          simp only [List.getElem?_cons_zero, Option.some.injEq] at h1
          subst h1
          obtain ⟨y, hy, hyx⟩ := hf x _ h2
          obtain ⟨z, k1, k2, k3⟩ := ih l (by simpa using hl) fun i x hx => hr (i + 1) x hx
          refine ⟨(y, x) :: z, by simp [k1], fun p hp => ?_, by simp only [List.map_cons, k3, hy]⟩
          rcases List.mem_cons.1 hp with rfl | hp
          · exact hyx
          · exact k2 p hp
    obtain ⟨z, k1, k2, k3⟩ := hz css l hl hr
    simp only [Sl.v, Value.slice.injEq] at hv
    obtain ⟨ha, _, hcap⟩ := hv
    refine ⟨g, z, cur.toList.drop (css.flatten).length, ha, hlo, k1, k2, ⟨T, rfl, rfl, ?_⟩, by rw [hcap]; simpa [h.len] using hc, by rw [hcap]; exact hm⟩
    rw [k3]
    have e : css.flatten ++ cur.toList.drop css.flatten.length = cur.toList := by
      have : css.flatten = cur.toList.take css.flatten.length := by
        rw [← ht]; simp
      conv => lhs; lhs; rw [this]
      exact List.take_append_drop _ _
    rw [e]; simpa using hh
end Go.Hal
namespace Go.Hal
open Go Go.RowKit
section
variable {α : Type} {E : Enc α} {T : TypeId} {w w' : World} {lo : Nat} {S S' : Nat → Prop} {s : Sl} {l : List α}
theorem rows_of {w : World} {S : Nat → Prop} : ∀ (l : List α) (ad : Addr), (∀ (i : Nat) (x : α), l[i]? = some x → ∃ cs, E.rep w S x cs ∧ ldc w (ad.add (i * E.n)) cs) →
    ∃ css : List (List Value), css.length = l.length ∧ (∀ (i : Nat) (x : α), l[i]? = some x → ∃ cs, css[i]? = some cs ∧ E.rep w S x cs) ∧ ldc w ad css.flatten ∧ css.flatten.length = l.length * E.n
  | [], ad, _ => ⟨[], rfl, fun i x h => by simp at h, fun j v h => by simp at h, by simp⟩
  | x :: r, ad, h => by
    obtain ⟨cs, h1, h2⟩ := h 0 x rfl
    obtain ⟨css, h3, h4, h5, h6⟩ := rows_of r (ad.add E.n) fun i y hi => by
      obtain ⟨cs, a, b⟩ := h (i + 1) y (by simpa using hi)
      refine ⟨cs, a, ?_⟩
      rw [add_add, show E.n + i * E.n = (i + 1) * E.n by rw [Nat.add_mul]; omega]
      exact b
    have hl := E.len h1
    refine ⟨cs :: css, by simp [h3], fun i y hi => ?_, fun j v hj => ?_, by rw [List.flatten_cons, List.length_append, hl, h6, List.length_cons, Nat.add_mul]; omega⟩
    · cases i with
      | zero => simp at hi; subst hi; exact ⟨cs, rfl, h1⟩
      | succ i => obtain ⟨c, a, b⟩ := h4 i y (by simpa using hi); exact ⟨c, by simpa using a, b⟩
    · rw [List.flatten_cons] at hj
      by_cases hjl : j < cs.length
      · rw [List.getElem?_append_left hjl] at hj
        have := h2 j v hj
        rw [Nat.zero_mul] at this
        exact this
      · rw [List.getElem?_append_right (by omega)] at hj
        have := h5 (j - cs.length) v hj
        rw [add_add, show E.n + (j - cs.length) = j by omega] at this
        exact this
theorem rows_all {w : World} {S : Nat → Prop} {l : List α} {css : List (List Value)} (hl : css.length = l.length) (hr : ∀ (i : Nat) (x : α), l[i]? = some x → ∃ cs, css[i]? = some cs ∧ E.rep w S x cs) : ∀ u ∈ css.flatten, u.oneCell' = true := by
  intro u hu
  obtain ⟨cs, hcs, huc⟩ := List.mem_flatten.1 hu
  obtain ⟨k, hk, he⟩ := List.mem_iff_getElem.1 hcs
  have hkl : k < l.length := by rw [← hl]; exact hk
  obtain ⟨cs', h3, h4⟩ := hr k _ (List.getElem?_eq_getElem hkl)
  rw [List.getElem?_eq_getElem hk, he, Option.some.injEq] at h3
  subst h3
  exact E.one h4 u huc
theorem OwnS.appAll {P : Program} {t e : TypeId} {k : Sl → World → Prop} {x : Sl} {m : List α} (h : OwnS E e w lo S s l) (hT : ApT P t e E.n E.bytes) (hlo : lo ≤ w.heap.size) (hx : SlR E w S' x m) (hS' : ∀ b, S' b → b < w.heap.size) (hap : ∀ ad, s.a = some ad → ¬ S' ad.block)
    (hb : (l.length + m.length) * E.bytes ≤ room) (hm : l.length + m.length ≤ maxLen)
    (hk : ∀ (r : Sl) (w' : World), OwnS E e w' lo (fun b => S b ∨ S' b) r (l ++ m) → Below lo w w' → (∀ b, b < w.heap.size → (∀ ad, s.a = some ad → b ≠ ad.block) → w'.heap[b]? = w.heap[b]?) → (∀ ad, r.a = some ad → (s.a = some ad ∨ w.heap.size ≤ ad.block)) → k r w') : appS P t t s (Sl.v x) w k := by
  intro ty
  obtain ⟨css, ho, hl, hr⟩ := h.row
  obtain ⟨ht, i, z, hi, hz, hsz, hby, hzs, hn0⟩ := hT
  have hnl := h.len
  cases hxa : x.a with
  | none =>
    have hm0 : m = [] := by
      rcases hx.2.2.2.2 with h0 | ⟨ad, h1, _⟩
      · exact h0
      · rw [hxa] at h1; cases h1
    subst hm0
    have hlen : x.len = 0 := hx.1
    have hrun : (Builtin.append_ #[t, t] ty #[s.v, x.v]).run P w = .ok s.v w := by
      have hxv : x.v = .slice none 0 x.cap := by unfold Sl.v; rw [hxa, hlen]
      rw [hxv]
      rcases ho.2 with ⟨hv, _⟩ | ⟨g, cap, cur, hv, _, _, hnc, _⟩
      · rw [hv]; simp [Builtin.append_, run_underlying ht, sizeOf, typeInfo, hi, Builtin.lenOf, Builtin.firstCells]
      · rw [hv]; simp [Builtin.append_, run_underlying ht, sizeOf, typeInfo, hi, Builtin.lenOf, Builtin.firstCells, hnc, storeCells]
    refine ⟨_, w, hrun, s, rfl, hk s w ?_ (Below.refl _ _) (fun _ _ _ => rfl) fun ad ha => .inl ha⟩
    rw [List.append_nil]
    refine h.mono (fun _ h => .inl h) (fun b hb => ?_) fun ad ha hb => ?_
    · rcases hb with hb | hb
      · exact h.lt b hb
      · exact hS' b hb
    · rcases hb with hb | hb
      · exact h.apart ad ha hb
      · exact hap ad ha hb
  | some ad =>
    have hrows : ∀ (i : Nat) (y : α), m[i]? = some y → ∃ cs, E.rep w S' y cs ∧ ldc w (ad.add (i * E.n)) cs := by
      intro i y hi
      obtain ⟨ad', cs, h1, h2, h3, h4⟩ := hx.get hi
      rw [hxa, Option.some.injEq] at h1
      subst h1
      exact ⟨cs, h3, h4⟩
    obtain ⟨css2, hl2, hr2, hc2, hf2⟩ := rows_of m ad hrows
    have hxv : x.v = .slice (some ad) m.length x.cap := by unfold Sl.v; rw [hxa, hx.1]
    obtain ⟨v', w', hrun, hown, hgr, hblk⟩ := append_ownR (P := P) (ty := ty) (m := m.length) (c := x.cap) ht hi hz (by rw [hsz]; exact hzs) (by rw [hsz]; exact hn0) (by rw [hsz]; exact ho) (by rw [hsz]; exact hf2) (fun j u hj => hc2 j u hj) (rows_all hl2 hr2) (by omega) (by rw [hnl, hby]; exact hb) hlo
    rw [hsz] at hown
    have hv' : ∃ r : Sl, v' = r.v ∧ r.len = s.len + m.length := by
      rcases hown.2 with ⟨hv, hn⟩ | ⟨g, cap, cur, hv, _⟩
      · exact ⟨⟨none, 0, 0⟩, hv, hn.symm⟩
      · exact ⟨⟨_, _, _⟩, hv, rfl⟩
    obtain ⟨r, rfl, hrl⟩ := hv'
    have hreg : ∀ ad, r.a = some ad → (s.a = some ad ∨ w.heap.size ≤ ad.block) := by
      intro ad had
      have h2 : ad = ⟨ad.block, 0, none⟩ := by
        rcases hown.2 with ⟨hv, _⟩ | ⟨g, cap, cur, hv, _⟩
        · simp [Sl.v, had] at hv
        · simp [Sl.v, had] at hv; rw [hv.1]
      have hob : (Sl.v r).ownBlock = some ad.block := by simp [Value.ownBlock, Sl.v, had]
      rcases hblk with hb | hb
      · left
        rw [hob] at hb
        cases hsa : s.a with
        | none => simp [Value.ownBlock, Sl.v, hsa] at hb
        | some ad' =>
          simp [Value.ownBlock, Sl.v, hsa] at hb
          have := (h.block hsa).2.2
          rw [this, ← hb, ← h2]
      · right
        rw [hob, Option.some.injEq] at hb; omega
    have hold : ∀ b, b < w.heap.size → (∀ ad, s.a = some ad → b ≠ ad.block) → w'.heap[b]? = w.heap[b]? := by
      intro b hbl hne
      refine hgr.block b hbl ?_
      simp only [Value.ownBlock, Sl.v]
      cases hsa : s.a with
      | none => simp
      | some ad => simp only [ne_eq, Option.some.injEq]; exact hne ad hsa
    rw [hxv]
    refine ⟨_, w', hrun, r, rfl, hk r w' ?_ ⟨hgr.os, hgr.tape, hgr.output, hgr.size, fun b hb => hold b (by omega) fun ad ha e => by have := (h.block ha).1; omega⟩ hold hreg⟩
    have hkeep : ∀ b, b < w.heap.size → (S b ∨ S' b) → w'.heap[b]? = w.heap[b]? := fun b hbl hbs => hold b hbl fun ad ha e => by
      subst e
      rcases hbs with hbs | hbs
      · exact h.apart _ ha hbs
      · exact hap _ ha hbs
    refine ⟨⟨css ++ css2, ?_, by simp [hl, hl2], fun j y hj => ?_⟩, by simp [hrl, hnl], fun b hbs => ?_, fun ad had hbs => ?_⟩
    · rw [hrl, List.flatten_append]; exact hown
    · rw [List.getElem?_append] at hj
      split at hj
      · rename_i hjl
        obtain ⟨cs', h1, h2⟩ := hr j y hj
        exact ⟨cs', by rw [List.getElem?_append_left (by omega)]; exact h1, E.keep (E.mono h2 fun _ h => .inl h) fun b hb hlt => hkeep b hlt hb⟩
      · rename_i hjl
        obtain ⟨cs', h1, h2⟩ := hr2 (j - l.length) y hj
        exact ⟨cs', by rw [List.getElem?_append_right (by omega), hl]; exact h1, E.keep (E.mono h2 fun _ h => .inr h) fun b hb hlt => hkeep b hlt hb⟩
    · have : b < w.heap.size := by
        rcases hbs with hbs | hbs
        · exact h.lt b hbs
        · exact hS' b hbs
      have := hgr.size; omega
    · rcases hreg ad had with h1 | h1
      · rcases hbs with hbs | hbs
        · exact h.apart ad h1 hbs
        · exact hap ad h1 hbs
      · have : ad.block < w.heap.size := by
          rcases hbs with hbs | hbs
          · exact h.lt _ hbs
          · exact hS' _ hbs
        omega
end
end Go.Hal
namespace Go.Hal
open Go Go.RowKit
def SlP {α : Type} (E : Enc α) (w : World) (S : Nat → Prop) (s : Sl) (l : List α) : Prop :=
  SlR E w S s l ∧ (l = [] ∨ ∃ g cur t, s.a = some ⟨g, 0, none⟩ ∧ S g ∧ w.heap[g]? = some (.cells cur t (0, 0)) ∧ l.length * E.n ≤ cur.size)
section
variable {α : Type} {E : Enc α} {w w' : World} {S S' : Nat → Prop} {s : Sl} {l : List α}
theorem SlP.mono (h : SlP E w S s l) (hs : ∀ b, S b → S' b) : SlP E w S' s l := ⟨h.1.mono hs, h.2.imp id fun ⟨g, cur, t, a, b, c, d⟩ => ⟨g, cur, t, a, hs _ b, c, d⟩⟩
theorem SlP.keep (h : SlP E w S s l) (hk : Keep S w w') : SlP E w' S s l := ⟨h.1.keep hk, h.2.imp id fun ⟨g, cur, t, a, b, c, d⟩ => ⟨g, cur, t, a, b, (hk g b (lt_of_block c)).trans c, d⟩⟩
theorem SlP.ext (h : SlP E w S s l) (hx : Ext w w') : SlP E w' S s l := h.keep (hx.keep S)
theorem SlP.but {g : Nat} (h : SlP E w S s l) (hb : But g w w') (hn : ¬ S g) : SlP E w' S s l := h.keep (hb.keep hn)
theorem SlP.nil : SlP E w S Sl.nil ([] : List α) := ⟨SlR.nil trivial, .inl rfl⟩
theorem SlP.bound (hf : ∀ {w S S' x cs}, E.rep w S x cs → E.rep w S' x cs) (h : SlP E w S s l) : SlP E w (fun b => S b ∧ b < w.heap.size) s l := by
  obtain ⟨⟨h1, h2, h3, h4, h5⟩, h6⟩ := h
  rcases h6 with h6 | ⟨g, cur, t, a, b, c, d⟩
  · exact ⟨⟨h1, h2, h3, h4, .inl h6⟩, .inl h6⟩
  · refine ⟨⟨h1, h2, h3, h4, h5.imp id fun ⟨ad, k1, k2, k3⟩ => ⟨ad, k1, ⟨k2, ?_⟩, fun i x hx => let ⟨cs, e1, e2⟩ := k3 i x hx; ⟨cs, hf e1, e2⟩⟩⟩, .inr ⟨g, cur, t, a, ⟨b, lt_of_block c⟩, c, d⟩⟩
    rw [a, Option.some.injEq] at k1
    subst k1; exact lt_of_block c
theorem OwnS.readP {T : TypeId} {lo : Nat} (h : OwnS E T w lo S s l) (hb : l.length * E.bytes ≤ room) (hm : l.length ≤ maxLen) : SlP E w (fun b => S b ∨ ∃ ad, s.a = some ad ∧ b = ad.block) s l := by
  refine ⟨h.read hb hm, ?_⟩
  obtain ⟨css, ho, hl, hr⟩ := h.row
  rcases ho.2 with ⟨hv, hn⟩ | ⟨g, cap, cur, hv, hg, hh, hc, hcm, hcs, ht⟩
  · exact .inl (List.eq_nil_of_length_eq_zero (by rw [← h.len]; exact hn))
  · simp [Sl.v] at hv
    obtain ⟨ha, hcap⟩ := hv
    refine .inr ⟨g, cur, T, ha, .inr ⟨_, ha, rfl⟩, hh, ?_⟩
    rw [hcs, ← h.len]; exact Nat.mul_le_mul_right _ hc
end
def depP : Enc Dep where
  n := 2
  bytes := 40
  rep := fun w S d cs => Str d.name ∧ ∃ s, cs = [.string d.name, s.v] ∧ SlP spanE w S s d.range
  len := fun ⟨_, s, h, _⟩ => by rw [h]; rfl
  one := fun ⟨_, s, h, _⟩ v hv => by rw [h] at hv; simp [Sl.v] at hv; rcases hv with rfl | rfl <;> rfl
  mono := fun ⟨h0, s, h, hr⟩ hs => ⟨h0, s, h, hr.mono hs⟩
  keep := fun ⟨h0, s, h, hr⟩ hk => ⟨h0, s, h, hr.keep hk⟩
def packP : Enc Pack where
  n := 7
  bytes := 112
  rep := fun w S p cs => Str p.name ∧ ∃ d e o, cs = .string p.name :: p.v.c ++ [Sl.v d, Sl.v e, Sl.v o] ∧ SlP depP w S d p.deps ∧ SlP depP w S e p.peers ∧ SlP depP w S o p.opt
  len := fun ⟨_, d, e, o, h, _⟩ => by rw [h]; rfl
  one := fun ⟨_, d, e, o, h, _⟩ v hv => by rw [h] at hv; simp [Sl.v, Ver.c] at hv; rcases hv with rfl | rfl | rfl | rfl | rfl | rfl | rfl <;> rfl
  mono := fun ⟨h0, d, e, o, h, a, b, c⟩ hs => ⟨h0, d, e, o, h, a.mono hs, b.mono hs, c.mono hs⟩
  keep := fun ⟨h0, d, e, o, h, a, b, c⟩ hk => ⟨h0, d, e, o, h, a.keep hk, b.keep hk, c.keep hk⟩
def wantP : Enc Want where
  n := 3
  bytes := 48
  rep := fun w S d cs => Str d.name ∧ ∃ s, cs = [.string d.name, .int .i64 d.kind, s.v] ∧ SlP spanE w S s d.range
  len := fun ⟨_, s, h, _⟩ => by rw [h]; rfl
  one := fun ⟨_, s, h, _⟩ v hv => by rw [h] at hv; simp [Sl.v] at hv; rcases hv with rfl | rfl | rfl <;> rfl
  mono := fun ⟨h0, s, h, hr⟩ hs => ⟨h0, s, h, hr.mono hs⟩
  keep := fun ⟨h0, s, h, hr⟩ hk => ⟨h0, s, h, hr.keep hk⟩
theorem SlR.conv {α : Type} {E F : Enc α} {w : World} {S : Nat → Prop} {s : Sl} {l : List α} (h : SlR E w S s l) (hn : E.n = F.n) (hb : E.bytes = F.bytes) (hr : ∀ x ∈ l, ∀ cs, E.rep w S x cs → F.rep w S x cs) : SlR F w S s l :=
  ⟨h.1, h.2.1, h.2.2.1, by rw [← hb]; exact h.2.2.2.1, h.2.2.2.2.imp id fun ⟨ad, a, b, c⟩ => ⟨ad, a, b, fun i x hx => let ⟨cs, k1, k2⟩ := c i x hx; ⟨cs, hr x (List.mem_of_getElem? hx) cs k1, by rw [← hn]; exact k2⟩⟩⟩
theorem SlP.dep {w : World} {S : Nat → Prop} {s : Sl} {l : List Dep} (h : SlP depP w S s l) : SlR depE w S s l := h.1.conv rfl rfl fun x _ cs ⟨h0, s, h1, h2⟩ => ⟨h0, s, h1, h2.1⟩
theorem SlP.want {w : World} {S : Nat → Prop} {s : Sl} {l : List Want} (h : SlP wantP w S s l) : SlR wantE w S s l := h.1.conv rfl rfl fun x _ cs ⟨h0, s, h1, h2⟩ => ⟨h0, s, h1, h2.1⟩
end Go.Hal
namespace Go.Hal
open Go Go.RowKit Go.ChangeShapes Go.WideShapes Go.ChangeAt
def Here (W : World) : Nat → Prop := fun b => b < W.heap.size
theorem Here.old (W : World) : Old (Here W) W := fun _ h => h
section
variable {H : Type} {enc : TypeId × Value → H} {P : Program} {W : World}
def small (l : List Nat) : Prop := l.all (fun x => decide (x ≤ reachBytes)) = true
theorem small_app {a b : List Nat} : small (a ++ b) ↔ small a ∧ small b := by unfold small; rw [List.all_append, Bool.and_eq_true]
theorem small_cons {a : Nat} {b : List Nat} : small (a :: b) ↔ a ≤ reachBytes ∧ small b := by unfold small; rw [List.all_cons, Bool.and_eq_true, decide_eq_true_eq]
abbrev Tr (enc : TypeId × Value → H) (P : Program) (W : World) (n : Nat) (t : TypeId) (cs : List Value) (x : DataW H × List MemPlace) : Prop := DataW.trod enc P W 0 (fun _ => true) true n t cs = some x
def Rd (H : Type) (P : Program) (W : World) {α : Type} (E : Enc α) (t : TypeId) : Prop := ∀ (enc : TypeId × Value → H) n cs x, Tr enc P W n t cs x → small (x.1.weights P t) → ∃ y, E.rep W (Here W) y cs
def RdS (H : Type) (P : Program) (W : World) {α : Type} (E : Enc α) (t : TypeId) : Prop := ∀ (enc : TypeId × Value → H) n cs x, Tr enc P W n t cs x → small (x.1.weights P t) → ∃ (s : Sl) (l : List α), cs = [s.v] ∧ SlR E W (Here W) s l ∧ l.length * E.bytes ≤ reachBytes
theorem weightsAll_mem {e : TypeId} {l : List (DataW H)} (h : small (DataW.weightsAll P e l)) {d : DataW H} (hd : d ∈ l) : small (d.weights P e) := by
  induction l with
  | nil => cases hd
  | cons a r ih =>
    simp only [DataW.weightsAll] at h
    obtain ⟨h1, h2⟩ := small_app.1 h
    rcases List.mem_cons.1 hd with rfl | hd
    · exact h1
    · exact ih h2 hd
theorem weightsEach_get : ∀ {ts : List TypeId} {ds : List (DataW H)}, small (DataW.weightsEach P ts ds) → ∀ {i : Nat} {t : TypeId} {d : DataW H}, ts[i]? = some t → ds[i]? = some d → small (d.weights P t)
  | [], _, _, i, t, d, h1, _ => by simp at h1
  | _ :: _, [], _, i, t, d, _, h2 => by simp at h2
  | a :: ts, b :: ds, h, i, t, d, h1, h2 => by
    simp only [DataW.weightsEach] at h
    obtain ⟨k1, k2⟩ := small_app.1 h
    cases i with
    | zero =>
      simp only [List.getElem?_cons_zero, Option.some.injEq] at h1 h2
      subst h1; subst h2; exact k1
    | succ i => exact weightsEach_get k2 (i := i) (by simpa using h1) (by simpa using h2)
theorem rd_slice {α : Type} {E : Enc α} {t e : TypeId} (ht : P.underlying t = some (.slice e)) (hc : P.cellsOf e = E.n) (hb : P.bytesOf e = E.bytes) (hn : 0 < E.n) (hE : Rd H P W E e) : RdS H P W E t := by
  intro enc n cs x h hw
  rcases Go.Deep.open_slice ht h with ⟨rfl, rfl⟩ | ⟨a, len, cap, m, n', D, Pl, rfl, _, hlc, hcm, hm, rfl, hel⟩
  · exact ⟨Sl.nil, [], rfl, SlR.nil trivial, by simp [reachBytes]⟩
  · simp only [if_true] at hm
    obtain rfl : cap = m := hm.symm
    simp only [DataW.weights, ht] at hw
    obtain ⟨hw1, hw2⟩ := small_cons.1 hw
    obtain ⟨hw3, _⟩ := small_app.1 hw2
    rw [hc] at hel
    have hrow : ∀ i, i < len → ∃ y cs', E.rep W (Here W) y cs' ∧ Go.Hal.ldc W (a.add (i * E.n)) cs' := fun i hi => by
      obtain ⟨cs', h1, h2⟩ := hel i (by omega)
      obtain ⟨_, hlen, hcell⟩ := World.cells?_some h1
      obtain ⟨y, hy⟩ := hE enc n' cs' _ h2 (weightsAll_mem hw3 (List.mem_map_of_mem (List.mem_range.2 hi)))
      exact ⟨y, cs', hy, fun j v hj => by
        have hjl := (List.getElem?_eq_some_iff.1 hj).1
        exact (hcell j (by omega)).trans hj⟩
    have hlist : ∀ k, k ≤ len → ∃ l : List α, l.length = k ∧ ∀ (i : Nat) (y : α), l[i]? = some y → ∃ cs', E.rep W (Here W) y cs' ∧ Go.Hal.ldc W (a.add (i * E.n)) cs' := fun k => by
      induction k with
      | zero => intro _; exact ⟨[], rfl, by simp⟩
      | succ k ih =>
        intro hk
        obtain ⟨l, hl, hr⟩ := ih (by omega)
        obtain ⟨y, cs', h1, h2⟩ := hrow k (by omega)
        refine ⟨l ++ [y], by simp [hl], fun i z hz => ?_⟩
        rw [List.getElem?_append] at hz
        split at hz
        · exact hr i z hz
        · rename_i hi
          have : i = k := by
            have := (List.getElem?_eq_some_iff.1 hz).1
            simp at this; omega
          subst this
          simp [hl] at hz
          subst hz
          exact ⟨cs', h1, h2⟩
    obtain ⟨l, hl, hr⟩ := hlist len (Nat.le_refl _)
    have hbytes : l.length * E.bytes ≤ reachBytes := by
      refine Nat.le_trans (Nat.mul_le_mul_right _ (show l.length ≤ ((List.range len).map D).length + ((List.range (cap - len)).map fun j => D (len + j)).length by simp [hl])) ?_
      rw [hb] at hw1; exact hw1
    refine ⟨⟨some a, len, cap⟩, l, rfl, ⟨hl.symm, by rw [hl]; exact hlc, hcm, by unfold room; unfold reachBytes at hbytes; omega, ?_⟩, hbytes⟩
    rcases Nat.eq_zero_or_pos len with h0 | h0
    · left; exact List.eq_nil_of_length_eq_zero (by omega)
    · right
      refine ⟨a, rfl, ?_, hr⟩
      obtain ⟨y, hy⟩ : ∃ y, l[0]? = some y := ⟨_, List.getElem?_eq_getElem (by omega)⟩
      obtain ⟨cs', h1, h2⟩ := hr 0 y hy
      have hl0 := E.len h1
      have hc0 := h2 0 cs'[0] (List.getElem?_eq_getElem (by omega))
      have := World.block_lt_of_cell? W _ hc0
      rw [add_block, add_block] at this
      exact this
theorem rd_field {fs : Array Field} {t : TypeId} {n : Nat} {cs : List Value} {x : DataW H × List MemPlace} (ht : P.underlying t = some (.struct fs)) (h : Tr enc P W n t cs x) (hw : small (x.1.weights P t)) (i ft off c : Nat) (hf : ∃ f, fs[i]? = some f ∧ f.type = ft ∧ f.offset = off) (hc : P.cellsOf ft = c) :
    ∃ y m, Tr enc P W m ft ((cs.drop off).take c) y ∧ small (y.1.weights P ft) := by
  obtain ⟨f, hf, rfl, rfl⟩ := hf
  subst hc
  obtain ⟨xs, m, _, rfl, _, hlen, hel⟩ := DataW.trod_struct ht h
  have hi : i < xs.length := by rw [hlen]; exact (Array.getElem?_eq_some_iff.1 hf).1
  have h1 := hel i f hf
  rw [List.getElem?_eq_getElem hi] at h1
  refine ⟨xs[i], m, h1, ?_⟩
  simp only [DataW.weights, ht] at hw
  exact weightsEach_get hw (i := i) (by simp [hf]) (by simp [List.getElem?_eq_getElem hi])
theorem rd_len {fs : Array Field} {t : TypeId} {n : Nat} {cs : List Value} {x : DataW H × List MemPlace} (ht : P.underlying t = some (.struct fs)) (h : Tr enc P W n t cs x) : cs.length = P.cellsOf t := by
  obtain ⟨xs, m, _, _, hl, _⟩ := DataW.trod_struct ht h
  exact hl
theorem trodAll_below (hl : laidOutB P = true) {W' : World} (hb : Below W.heap.size W W') : ∀ {ts : List TypeId} {vs : List Value} {ds : List (DataW H)} {ps : List MemPlace}, (∀ t ∈ ts, P.readableRec t = true ∧ t < P.types.size) → (∀ x ∈ ps, x.block < W.heap.size) →
    DataW.TrodAll enc P W 0 (fun _ => true) true ts vs ds ps → DataW.TrodAll enc P W' 0 (fun b => decide (b < W.heap.size)) true ts vs ds ps
  | [], vs, ds, ps, _, _, h => by
    obtain ⟨rfl, rfl, rfl⟩ := trodAll_nil h
    exact trodAll_mk0
  | t :: ts, vs, ds, ps, hr, hlt, h => by
    obtain ⟨v, vs', d, ds', p, p', rfl, rfl, rfl, h1, h2⟩ := trodAll_cons h
    exact trodAll_cons_mk (Go.RowKit.Below.trod hl (hr t (.head _)).1 (hr t (.head _)).2 h1 hb fun x hx => hlt x (List.mem_append_left _ hx)) (trodAll_below hl hb (fun t ht => hr t (.tail _ ht)) (fun x hx => hlt x (List.mem_append_right _ hx)) h2)
theorem law_post {f : Func} {s : ChangeSpec} {W' : World} {args : Array Value} {ds gs : List (DataW H)} {before : List MemPlace} (hl : laidOutB P = true) (hr : ∀ t ∈ f.params.toList, P.readableRec t = true ∧ t < P.types.size) {bt : TypeId} (hres : f.resultTypes = #[bt]) (hbt : P.underlying bt = some .bool) (hv : s.vars = [])
    (hW : DataW.Whole enc P f.params.toList s.vars false W args.toList ds gs before) (hs : ds.length = f.params.toList.length → s.fn H ds = { results := [.lit (.bool true)], args := ds }) (hb : Ext W W') : s.post enc P f false true false false W args (.bool true) W' := by
  have hW' := hW
  obtain ⟨p, q, hA, hV, rfl, _, _⟩ := hW
  rw [hv] at hV
  obtain ⟨rfl, rfl⟩ := trodVars_none hV
  have hA : DataW.TrodAll enc P W 0 (fun _ => true) true f.params.toList args.toList ds p := hA
  have hlt : ∀ x ∈ p, x.block < W.heap.size := fun x hx => by simpa using hW'.lt x (List.mem_append_left _ hx)
  have hf := hs (Go.trodAll_length hA).2
  rw [← List.append_nil ds] at hf
  refine ⟨ds, [], _, [], p, [], hW', ?_, ?_, ?_, Go.RowKit.Below.frame hb _, (fun h => by cases h)⟩
  · rw [hf, hres]
    exact trodAll_mk1 (shut_bool hbt true)
  · rw [hf, List.append_nil]
    exact trodAll_below hl hb hr hlt hA
  · rw [hf, hv]; rfl
end
end Go.Hal
namespace Go.Hal
open Go Go.RowKit Go.ChangeShapes Go.WideShapes Go.ChangeAt Go.Proofs
theorem laidOut : laidOutB Tryz.prog = true := by kernel_rfl
section
variable {H : Type} {W : World}
theorem ceI : Tryz.prog.cellsOf 3 = 1 := by kernel_rfl
theorem ceS : Tryz.prog.cellsOf 9 = 1 := by kernel_rfl
theorem ceV : Tryz.prog.cellsOf 37 = 3 := by kernel_rfl
theorem ceSp : Tryz.prog.cellsOf 61 = 6 := by kernel_rfl
theorem ceD : Tryz.prog.cellsOf 63 = 2 := by kernel_rfl
theorem ceP : Tryz.prog.cellsOf 91 = 4 := by kernel_rfl
theorem ceK : Tryz.prog.cellsOf 39 = 7 := by kernel_rfl
theorem ceLs : Tryz.prog.cellsOf 50 = 1 := by kernel_rfl
theorem ceLd : Tryz.prog.cellsOf 23 = 1 := by kernel_rfl
theorem ceLk : Tryz.prog.cellsOf 22 = 1 := by kernel_rfl
theorem ceLp : Tryz.prog.cellsOf 26 = 1 := by kernel_rfl
theorem rdI {enc : TypeId × Value → H} {n : Nat} {cs : List Value} {x : DataW H × List MemPlace} (h : Tr enc Tryz.prog W n 3 cs x) : ∃ k, cs = [.int .i64 k] := by
  obtain ⟨k, h1, _⟩ := DataW.trod_int Tryz.underlying3 h
  exact ⟨k, h1⟩
theorem rdStr {enc : TypeId × Value → H} {n : Nat} {cs : List Value} {x : DataW H × List MemPlace} (h : Tr enc Tryz.prog W n 9 cs x) : ∃ s : ByteArray, cs = [.string s] ∧ Str s := by
  obtain ⟨s, h1, _, h2⟩ := DataW.trod_string Tryz.underlying9 h
  exact ⟨s, h1, h2⟩
theorem len3 {α : Type} {l : List α} (h : l.length = 3) : ∃ a b c, l = [a, b, c] := by
  match l, h with
  | [a, b, c], _ => exact ⟨a, b, c, rfl⟩
theorem rdVer {enc : TypeId × Value → H} {n : Nat} {cs : List Value} {x : DataW H × List MemPlace} (h : Tr enc Tryz.prog W n 37 cs x) (hw : small (x.1.weights Tryz.prog 37)) : ∃ v : Ver, cs = v.c := by
  have hl := rd_len Tryz.underlying37 h
  rw [ceV] at hl
  obtain ⟨y0, m0, h0, _⟩ := rd_field Tryz.underlying37 h hw 0 3 0 1 ⟨_, rfl, rfl, rfl⟩ ceI
  obtain ⟨y1, m1, h1, _⟩ := rd_field Tryz.underlying37 h hw 1 3 1 1 ⟨_, rfl, rfl, rfl⟩ ceI
  obtain ⟨y2, m2, h2, _⟩ := rd_field Tryz.underlying37 h hw 2 3 2 1 ⟨_, rfl, rfl, rfl⟩ ceI
  obtain ⟨a, b, c, rfl⟩ := len3 hl
  obtain ⟨k0, e0⟩ := rdI h0
  obtain ⟨k1, e1⟩ := rdI h1
  obtain ⟨k2, e2⟩ := rdI h2
  simp at e0 e1 e2
  exact ⟨⟨k0, k1, k2⟩, by rw [e0, e1, e2]; rfl⟩
theorem rdSpan : Rd H Tryz.prog W spanE 61 := by
  intro enc n cs x h hw
  have hl := rd_len Tryz.underlying61 h
  rw [ceSp] at hl
  obtain ⟨y0, m0, h0, w0⟩ := rd_field Tryz.underlying61 h hw 0 37 0 3 ⟨_, rfl, rfl, rfl⟩ ceV
  obtain ⟨y1, m1, h1, w1⟩ := rd_field Tryz.underlying61 h hw 1 37 3 3 ⟨_, rfl, rfl, rfl⟩ ceV
  obtain ⟨v0, e0⟩ := rdVer h0 w0
  obtain ⟨v1, e1⟩ := rdVer h1 w1
  refine ⟨⟨v0, v1⟩, ?_, trivial⟩
  have h3 : cs = cs.take 3 ++ (cs.drop 3).take 3 := by
    conv => lhs; rw [← List.take_append_drop 3 cs]
    rw [List.take_of_length_le (l := cs.drop 3) (by rw [List.length_drop]; omega)]
  rw [h3]
  have e0 : cs.take 3 = v0.c := e0
  rw [e0]; exact congrArg _ e1
theorem rdSpans : RdS H Tryz.prog W spanE 50 := rd_slice Tryz.underlying50 ceSp (by kernel_rfl) (by decide) rdSpan
theorem rdDep : Rd H Tryz.prog W depE 63 := by
  intro enc n cs x h hw
  have hl := rd_len Tryz.underlying63 h
  rw [ceD] at hl
  obtain ⟨y0, m0, h0, w0⟩ := rd_field Tryz.underlying63 h hw 0 9 0 1 ⟨_, rfl, rfl, rfl⟩ ceS
  obtain ⟨y1, m1, h1, w1⟩ := rd_field Tryz.underlying63 h hw 1 50 1 1 ⟨_, rfl, rfl, rfl⟩ ceLs
  obtain ⟨s, e0, hs⟩ := rdStr h0
  obtain ⟨t, l, e1, ht, _⟩ := rdSpans enc m1 _ _ h1 w1
  match cs, hl with
  | [a, b], _ =>
    simp at e0 e1
    exact ⟨⟨s, l⟩, hs, t, by rw [e0, e1], ht⟩
theorem rdDeps : RdS H Tryz.prog W depE 23 := rd_slice Tryz.underlying23 ceD (by kernel_rfl) (by decide) rdDep
theorem rdPin : Rd H Tryz.prog W pinE 91 := by
  intro enc n cs x h hw
  have hl := rd_len Tryz.underlying91 h
  rw [ceP] at hl
  obtain ⟨y0, m0, h0, w0⟩ := rd_field Tryz.underlying91 h hw 0 9 0 1 ⟨_, rfl, rfl, rfl⟩ ceS
  obtain ⟨y1, m1, h1, w1⟩ := rd_field Tryz.underlying91 h hw 1 37 1 3 ⟨_, rfl, rfl, rfl⟩ ceV
  obtain ⟨s, e0, hs⟩ := rdStr h0
  obtain ⟨v, e1⟩ := rdVer h1 w1
  match cs, hl with
  | [a, b, c, d], _ =>
    simp [Ver.c] at e0 e1
    exact ⟨⟨s, v⟩, by rw [e0, e1.1, e1.2.1, e1.2.2]; rfl, hs⟩
theorem rdPins : RdS H Tryz.prog W pinE 26 := rd_slice Tryz.underlying26 ceP (by kernel_rfl) (by decide) rdPin
theorem rdPack : Rd H Tryz.prog W packE 39 := by
  intro enc n cs x h hw
  have hl := rd_len Tryz.underlying39 h
  rw [ceK] at hl
  obtain ⟨y0, m0, h0, w0⟩ := rd_field Tryz.underlying39 h hw 0 9 0 1 ⟨_, rfl, rfl, rfl⟩ ceS
  obtain ⟨y1, m1, h1, w1⟩ := rd_field Tryz.underlying39 h hw 1 37 1 3 ⟨_, rfl, rfl, rfl⟩ ceV
  obtain ⟨y2, m2, h2, w2⟩ := rd_field Tryz.underlying39 h hw 2 23 4 1 ⟨_, rfl, rfl, rfl⟩ ceLd
  obtain ⟨y3, m3, h3, w3⟩ := rd_field Tryz.underlying39 h hw 3 23 5 1 ⟨_, rfl, rfl, rfl⟩ ceLd
  obtain ⟨y4, m4, h4, w4⟩ := rd_field Tryz.underlying39 h hw 4 23 6 1 ⟨_, rfl, rfl, rfl⟩ ceLd
  obtain ⟨s, e0, hs⟩ := rdStr h0
  obtain ⟨v, e1⟩ := rdVer h1 w1
  obtain ⟨d, ld, e2, hd, _⟩ := rdDeps enc m2 _ _ h2 w2
  obtain ⟨e, le, e3, he, _⟩ := rdDeps enc m3 _ _ h3 w3
  obtain ⟨o, lo, e4, ho, _⟩ := rdDeps enc m4 _ _ h4 w4
  match cs, hl with
  | [c0, c1, c2, c3, c4, c5, c6], _ =>
    simp [Ver.c] at e0 e1 e2 e3 e4
    exact ⟨⟨s, v, ld, le, lo⟩, hs, d, e, o, by rw [e0, e1.1, e1.2.1, e1.2.2, e2, e3, e4]; rfl, hd, he, ho⟩
theorem rdPacks : RdS H Tryz.prog W packE 22 := rd_slice Tryz.underlying22 ceK (by kernel_rfl) (by decide) rdPack
theorem rd_val {enc : TypeId × Value → H} {t : TypeId} {v : Value} {d : DataW H} {ps : List MemPlace} (h : DataW.Trod enc Tryz.prog W 0 (fun _ => true) true t v d ps) : ∃ n, Tr enc Tryz.prog W n t v.cells.toList (d, ps) := h
end
end Go.Hal
namespace Go.Hal
def prt (n : Int) : Bool := decide (0 ≤ n) && decide (n ≤ 999)
def Ver.may (v : Ver) : Bool := prt v.ma && prt v.mi && prt v.pa
def cmpI (a b : Int) : Int := if a < b then -1 else if b < a then 1 else 0
def or2 (a b : Int) : Int := if a = 0 then b else a
def Ver.cmp (a b : Ver) : Int := or2 (cmpI a.ma b.ma) (or2 (cmpI a.mi b.mi) (cmpI a.pa b.pa))
def Ver.num (v : Ver) : Int := (v.ma * 1000 + v.mi) * 1000 + v.pa
def Ver.rank (v : Ver) : Int := if v.may then v.num else 0
def atOk (n : Int) : Bool := decide (0 ≤ n) && decide (n ≤ 999999999)
def verAt (n : Int) : Ver := if atOk n then ⟨n / 1000000, n / 1000 % 1000, n % 1000⟩ else ⟨0, 0, 0⟩
theorem prt_iff {n : Int} : prt n = true ↔ 0 ≤ n ∧ n ≤ 999 := by simp [prt]
theorem Ver.may_iff {v : Ver} : v.may = true ↔ (0 ≤ v.ma ∧ v.ma ≤ 999) ∧ (0 ≤ v.mi ∧ v.mi ≤ 999) ∧ (0 ≤ v.pa ∧ v.pa ≤ 999) := by simp [Ver.may, prt_iff, and_assoc]
theorem Ver.rank_le {v : Ver} : 0 ≤ v.rank ∧ v.rank ≤ 999999999 := by
  unfold Ver.rank
  split
  · rename_i h; have := Ver.may_iff.1 h; unfold Ver.num; omega
  · omega
theorem cmpI_le {a b : Int} : cmpI a b ≤ 0 ↔ a ≤ b := by unfold cmpI; split <;> (try split) <;> omega
theorem cmpI_cases (a b : Int) : (cmpI a b = -1 ∧ a < b) ∨ (cmpI a b = 0 ∧ a = b) ∨ (cmpI a b = 1 ∧ b < a) := by unfold cmpI; split <;> (try split) <;> omega
theorem Ver.cmp_rank {a b : Ver} (ha : a.may = true) (hb : b.may = true) : a.cmp b ≤ 0 ↔ a.rank ≤ b.rank := by
  simp only [Ver.rank, ha, hb, if_true, Ver.num]
  have := Ver.may_iff.1 ha; have := Ver.may_iff.1 hb
  unfold Ver.cmp or2
  rcases cmpI_cases a.ma b.ma with h1 | h1 | h1 <;> rcases cmpI_cases a.mi b.mi with h2 | h2 | h2 <;> rcases cmpI_cases a.pa b.pa with h3 | h3 | h3 <;> simp only [h1.1, h2.1, h3.1] <;> simp <;> omega
theorem Ver.cmp_eq {a b : Ver} : a.cmp b = 0 ↔ a = b := by
  obtain ⟨a1, a2, a3⟩ := a; obtain ⟨b1, b2, b3⟩ := b
  simp only [Ver.mk.injEq, Ver.cmp]
  unfold or2
  rcases cmpI_cases a1 b1 with h1 | h1 | h1 <;> rcases cmpI_cases a2 b2 with h2 | h2 | h2 <;> rcases cmpI_cases a3 b3 with h3 | h3 | h3 <;> simp only [h1.1, h2.1, h3.1] <;> simp <;> omega
theorem verAt_of_rank {v : Ver} (h : v.may = true) : verAt v.rank = v := by
  have h' := Ver.may_iff.1 h
  have e : v.rank = v.num := by rw [Ver.rank, if_pos h]
  have hn : v.num = (v.ma * 1000 + v.mi) * 1000 + v.pa := rfl
  rw [e, verAt, if_pos (by simp [atOk]; omega)]
  obtain ⟨a, b, c⟩ := v
  simp only at hn h' ⊢
  rw [Ver.mk.injEq]; omega
theorem verEqB (a b : Ver) : ((a.ma == b.ma) && ((a.mi == b.mi) && ((a.pa == b.pa) && true))) = decide (a = b) := by
  obtain ⟨a1, a2, a3⟩ := a; obtain ⟨b1, b2, b3⟩ := b
  rw [Bool.eq_iff_iff]; simp
def spansGo : Int → List Span → Bool
  | _, [] => true
  | least, x :: r => x.lo.may && x.hi.may && decide (least ≤ x.lo.rank) && decide (x.lo.rank ≤ x.hi.rank) && spansGo (x.hi.rank + 2) r
def spansMay (l : List Span) : Bool := decide (l.length ≤ 64) && spansGo 0 l
def Span.has (n : Int) (x : Span) : Bool := decide (x.lo.rank ≤ n) && decide (n ≤ x.hi.rank)
def spansIn (l : List Span) (v : Ver) : Bool := spansMay l && (v.may && l.any (Span.has v.rank))
end Go.Hal
namespace Go.Hal
def lowC (b : UInt8) : Bool := decide (97 ≤ b.toNat) && decide (b.toNat ≤ 122)
def nameC (b : UInt8) : Bool := lowC b || (decide (48 ≤ b.toNat) && decide (b.toNat ≤ 57) || decide (b.toNat = 45))
def namePre : List UInt8 → Bool
  | [] => true
  | c :: r => lowC c && r.all nameC
def nameMay (s : ByteArray) : Bool := namePre s.toList && (!bEq s ⟨#[]⟩ && decide (s.size ≤ 16))
theorem namePre_snoc (l : List UInt8) (x : UInt8) : namePre (l ++ [x]) = (namePre l && (if l = [] then lowC x else nameC x)) := by
  cases l with
  | nil => simp [namePre]
  | cons c r => simp [namePre, Bool.and_assoc]
theorem namePre_app {l m : List UInt8} (h : namePre (l ++ m) = true) : namePre l = true := by
  cases l with
  | nil => rfl
  | cons c r => simp [namePre] at h ⊢; exact ⟨h.1, h.2.1⟩
theorem all_u8 (p : UInt8 → Bool) (h : (List.range 256).all (fun n => p (UInt8.ofNat n)) = true) (b : UInt8) : p b = true := by
  have := List.all_eq_true.1 h b.toNat (List.mem_range.2 b.toNat_lt)
  simpa using this
theorem low_nameC {b : UInt8} (h : lowC b = true) : nameC b = true := by simp [nameC, h]
end Go.Hal
namespace Go.Hal
open Go Go.RowKit Go.Proofs
theorem r02part_se {n : Int} {w : World} {R : Bool → World → Prop} (hR : ∀ w', Ext w w' → R (prt n) w') : SE.halyardref02_part n w R := by
  unfold SE.halyardref02_part
  exact bound (hR _ (Ext.refl _))
theorem r02May_se {x y z : Int} {w : World} {R : Bool → World → Prop} (hR : ∀ w', Ext w w' → R (Ver.may ⟨x, y, z⟩) w') : SE.halyardref02_May x y z w R := by
  unfold SE.halyardref02_May
  refine newS.intro fun _ _ _ hb _ _ => ?_
  refine ⟨_, (by first | exact (BoxAt.at0 (by assumption) (by (repeat (first | assumption | exact Ext.refl _ | refine Ext.trans ?_ (by assumption)))) rfl) | exact (BoxAt.at1 (by assumption) (by (repeat (first | assumption | exact Ext.refl _ | refine Ext.trans ?_ (by assumption)))) rfl)), ?_⟩
  refine SE.halyardref02_part.go (r02part_se fun w' hx => ⟨_, rfl, ?_⟩)
  refine ⟨y, fun _ => hb.at1 (by (repeat (first | assumption | exact Ext.refl _ | refine Ext.trans ?_ (by assumption)))) rfl, gCall.intro (prt y) (fun _ q hq => SE.halyardref02_part.go (r02part_se fun w' hx => ⟨_, rfl, hq _ hx⟩)) fun t w1 x1 ht => ?_⟩
  refine bound ⟨z, fun _ => hb.at1 (by (repeat (first | assumption | exact Ext.refl _ | refine Ext.trans ?_ (by assumption)))) rfl, gCall.intro (prt z) (fun _ q hq => SE.halyardref02_part.go (r02part_se fun w' hx => ⟨_, rfl, hq _ hx⟩)) fun t2 w2 x2 ht2 => ?_⟩
  have e : (prt x && t && t2) = Ver.may ⟨x, y, z⟩ := by
    unfold Ver.may
    cases h : prt x
    · rfl
    · rw [ht h]
      cases h' : prt y
      · rfl
      · rw [ht2 (by rw [h, ht h, h']; rfl)]
  rw [e]
  exact hR _ (by (repeat (first | assumption | exact Ext.refl _ | refine Ext.trans ?_ (by assumption))))
theorem tdiv_mod (n : Int) (h : 0 ≤ n) : n.tdiv 1000000 = n / 1000000 ∧ n.tdiv 1000 = n / 1000 ∧ Int.tmod n 1000 = n % 1000 := ⟨Int.tdiv_eq_ediv_of_nonneg h, Int.tdiv_eq_ediv_of_nonneg h, Int.tmod_eq_emod_of_nonneg h⟩
theorem r02Rank_se {v : Ver} {w : World} {R : Int → Bool → World → Prop} (hR : ∀ w', Ext w w' → R v.rank v.may w') : SE.halyardref02_Rank v.ma v.mi v.pa w R := by
  unfold SE.halyardref02_Rank
  refine newS.intro fun _ _ _ hb _ _ => ?_
  refine ⟨_, _, _, (by first | exact (BoxAt.at0 (by assumption) (by (repeat (first | assumption | exact Ext.refl _ | refine Ext.trans ?_ (by assumption)))) rfl) | exact (BoxAt.at1 (by assumption) (by (repeat (first | assumption | exact Ext.refl _ | refine Ext.trans ?_ (by assumption)))) rfl)), ?_⟩
  refine SE.halyardref02_May.go (r02May_se fun w' hx => ⟨_, rfl, fun h => ?_, fun h => ?_⟩)
  · have e : v.may = false := by simpa using h
    have := hR w' (by (repeat (first | assumption | exact Ext.refl _ | refine Ext.trans ?_ (by assumption))))
    simpa [Ver.rank, e] using this
  · have e : v.may = true := by simpa using h
    refine ⟨_, (by first | exact (BoxAt.at0 (by assumption) (by (repeat (first | assumption | exact Ext.refl _ | refine Ext.trans ?_ (by assumption)))) rfl) | exact (BoxAt.at1 (by assumption) (by (repeat (first | assumption | exact Ext.refl _ | refine Ext.trans ?_ (by assumption)))) rfl)), ?_⟩
    refine ⟨_, (by first | exact (BoxAt.at0 (by assumption) (by (repeat (first | assumption | exact Ext.refl _ | refine Ext.trans ?_ (by assumption)))) rfl) | exact (BoxAt.at1 (by assumption) (by (repeat (first | assumption | exact Ext.refl _ | refine Ext.trans ?_ (by assumption)))) rfl)), ?_⟩
    refine ⟨_, (by first | exact (BoxAt.at0 (by assumption) (by (repeat (first | assumption | exact Ext.refl _ | refine Ext.trans ?_ (by assumption)))) rfl) | exact (BoxAt.at1 (by assumption) (by (repeat (first | assumption | exact Ext.refl _ | refine Ext.trans ?_ (by assumption)))) rfl)), ?_⟩
    have hm := Ver.may_iff.1 e
    rw [wrapI_eq (x := v.ma * 1000) (by omega) (by omega), wrapI_eq (x := v.ma * 1000 + v.mi) (by omega) (by omega), wrapI_eq (x := (v.ma * 1000 + v.mi) * 1000) (by omega) (by omega), wrapI_eq (by omega) (by omega)]
    have := hR w' (by (repeat (first | assumption | exact Ext.refl _ | refine Ext.trans ?_ (by assumption))))
    simpa [Ver.rank, e, Ver.num] using this
theorem versMay_se {v : Ver} {w : World} {R : Bool → World → Prop} (hR : ∀ w', Ext w w' → R v.may w') : SE.vers_May v.ma v.mi v.pa w R := by
  unfold SE.vers_May
  refine newS.intro fun _ w1 _ hb _ _ => ?_
  refine ⟨_, (by first | exact (BoxAt.at0 (by assumption) (by (repeat (first | assumption | exact Ext.refl _ | refine Ext.trans ?_ (by assumption)))) rfl) | exact (BoxAt.at1 (by assumption) (by (repeat (first | assumption | exact Ext.refl _ | refine Ext.trans ?_ (by assumption)))) rfl)), ?_⟩
  refine ⟨_, (by first | exact (BoxAt.at0 (by assumption) (by (repeat (first | assumption | exact Ext.refl _ | refine Ext.trans ?_ (by assumption)))) rfl) | exact (BoxAt.at1 (by assumption) (by (repeat (first | assumption | exact Ext.refl _ | refine Ext.trans ?_ (by assumption)))) rfl)), ?_⟩
  refine ⟨_, (by first | exact (BoxAt.at0 (by assumption) (by (repeat (first | assumption | exact Ext.refl _ | refine Ext.trans ?_ (by assumption)))) rfl) | exact (BoxAt.at1 (by assumption) (by (repeat (first | assumption | exact Ext.refl _ | refine Ext.trans ?_ (by assumption)))) rfl)), ?_⟩
  refine ⟨fun i w' => Ext w1 w' ∧ (i = 0 ∨ i = 1 ∧ prt v.ma = true ∨ i = 2 ∧ prt v.ma = true ∧ prt v.mi = true ∨ i = 3 ∧ v.may = true), fun i _ => 3 - i.toNat, ⟨Ext.refl _, .inl rfl⟩, ?_⟩
  rintro i w2 ⟨x2, hi⟩
  refine ⟨fun h3 => ⟨⟨by omega, h3⟩, bound ⟨fun h => ?_, fun h => ?_⟩⟩, fun h3 => ?_⟩
  · have : v.may = false := by
      unfold Ver.may prt
      rcases hi with rfl | ⟨rfl, h1⟩ | ⟨rfl, h1, h2⟩ | ⟨rfl, _⟩ <;> simp at h <;> simp <;> omega
    rw [← this]; exact hR _ (by (repeat (first | assumption | exact Ext.refl _ | refine Ext.trans ?_ (by assumption))))
  · rw [wrapI_eq (by omega) (by omega)]
    refine ⟨⟨x2, ?_⟩, by show 3 - (i + 1).toNat < 3 - i.toNat; omega⟩
    rcases hi with rfl | ⟨rfl, h1⟩ | ⟨rfl, h1, h2⟩ | ⟨rfl, _⟩
    · refine .inr (.inl ⟨by omega, ?_⟩); simp at h; rw [prt_iff]; omega
    · refine .inr (.inr (.inl ⟨by omega, h1, ?_⟩)); simp at h; rw [prt_iff]; omega
    · refine .inr (.inr (.inr ⟨by omega, ?_⟩)); simp at h; rw [Ver.may, h1, h2, Bool.true_and, Bool.true_and, prt_iff]; omega
    · omega
  · have : v.may = true := by rcases hi with rfl | ⟨rfl, h1⟩ | ⟨rfl, h1, h2⟩ | ⟨_, h⟩ <;> first | omega | exact h
    rw [← this]; exact hR _ (by (repeat (first | assumption | exact Ext.refl _ | refine Ext.trans ?_ (by assumption))))
theorem versAt_se {n : Int} {w : World} {R : Int → Int → Int → Bool → World → Prop} (hR : ∀ w', Ext w w' → R (verAt n).ma (verAt n).mi (verAt n).pa (atOk n) w') : SE.vers_At n w R := by
  unfold SE.vers_At
  refine newS.intro fun a w1 x1 hb hab _ => bound ⟨fun h => ?_, fun h => ?_⟩
  · refine stw0.intro hb (by simp) fun w2 b2 _ hb2 => ?_
    refine ⟨_, _, _, hb2.ldc.pre rfl, ?_⟩
    have e : atOk n = false := by simp only [atOk]; simp at h ⊢; omega
    have := hR w2 (b2.ext x1 (by omega))
    simpa [verAt, e] using this
  · have e : 0 ≤ n ∧ n ≤ 999999999 := by simp at h; omega
    have ha : atOk n = true := by simp [atOk, e]
    obtain ⟨e1, e2, e3⟩ := tdiv_mod n e.1
    rw [e2, e3, wrapI_eq (x := n / 1000) (by omega) (by omega), Int.tmod_eq_emod_of_nonneg (by omega), Int.tdiv_eq_ediv_of_nonneg (by omega), wrapI_eq (by omega) (by omega)]
    have e4 : n / 1000 / 1000 = n / 1000000 := by omega
    rw [e4]
    refine stw0.intro hb (by simp) fun w2 b2 _ hb2 => ?_
    refine ⟨_, _, _, hb2.ldc.pre rfl, ?_⟩
    have := hR w2 (b2.ext x1 (by omega))
    simpa [verAt, ha] using this
theorem versRank_se {v : Ver} {w : World} {R : Int → Bool → World → Prop} (hR : ∀ w', Ext w w' → R v.rank v.may w') : SE.vers_Rank v.ma v.mi v.pa w R := by
  unfold SE.vers_Rank
  refine newS.intro fun _ _ _ hb _ _ => ?_
  refine ⟨_, _, _, (by first | exact (BoxAt.at0 (by assumption) (by (repeat (first | assumption | exact Ext.refl _ | refine Ext.trans ?_ (by assumption)))) rfl) | exact (BoxAt.at1 (by assumption) (by (repeat (first | assumption | exact Ext.refl _ | refine Ext.trans ?_ (by assumption)))) rfl)), ?_⟩
  refine SE.vers_May.go (versMay_se (v := v) fun w' hx => ⟨_, rfl, fun h => ?_, fun h => ?_⟩)
  · have e : v.may = false := by simpa using h
    have := hR w' (by (repeat (first | assumption | exact Ext.refl _ | refine Ext.trans ?_ (by assumption))))
    simpa [Ver.rank, e] using this
  · have e : v.may = true := by simpa using h
    refine ⟨_, (by first | exact (BoxAt.at0 (by assumption) (by (repeat (first | assumption | exact Ext.refl _ | refine Ext.trans ?_ (by assumption)))) rfl) | exact (BoxAt.at1 (by assumption) (by (repeat (first | assumption | exact Ext.refl _ | refine Ext.trans ?_ (by assumption)))) rfl)), ?_⟩
    refine ⟨_, (by first | exact (BoxAt.at0 (by assumption) (by (repeat (first | assumption | exact Ext.refl _ | refine Ext.trans ?_ (by assumption)))) rfl) | exact (BoxAt.at1 (by assumption) (by (repeat (first | assumption | exact Ext.refl _ | refine Ext.trans ?_ (by assumption)))) rfl)), ?_⟩
    refine ⟨_, (by first | exact (BoxAt.at0 (by assumption) (by (repeat (first | assumption | exact Ext.refl _ | refine Ext.trans ?_ (by assumption)))) rfl) | exact (BoxAt.at1 (by assumption) (by (repeat (first | assumption | exact Ext.refl _ | refine Ext.trans ?_ (by assumption)))) rfl)), ?_⟩
    have hm := Ver.may_iff.1 e
    rw [wrapI_eq (x := v.ma * 1000) (by omega) (by omega), wrapI_eq (x := v.ma * 1000 + v.mi) (by omega) (by omega), wrapI_eq (x := (v.ma * 1000 + v.mi) * 1000) (by omega) (by omega), wrapI_eq (by omega) (by omega)]
    have := hR w' (by (repeat (first | assumption | exact Ext.refl _ | refine Ext.trans ?_ (by assumption))))
    simpa [Ver.rank, e, Ver.num] using this
theorem isNaNi_se {x : Int} {w : World} {R : Bool → World → Prop} (hR : R false w) : SE.cmp_isNaN_int x w R := by
  unfold SE.cmp_isNaN_int; simpa using hR
theorem cmpInt_se {x y : Int} {w : World} {R : Int → World → Prop} (hR : R (cmpI x y) w) : SE.cmp_Compare_int x y w R := by
  unfold SE.cmp_Compare_int
  refine SE.cmp_isNaN_int.go (isNaNi_se ⟨_, rfl, SE.cmp_isNaN_int.go (isNaNi_se ⟨_, rfl, ⟨fun h => (by cases h), fun _ => ⟨fun h => (by cases h), fun _ => ⟨fun h => ?_, fun h => ⟨fun h' => ?_, fun h' => ?_⟩⟩⟩⟩⟩)⟩)
  · simpa [cmpI, h] using hR
  · simpa [cmpI, h, h'] using hR
  · simpa [cmpI, h, h'] using hR
def cmpS (a b : ByteArray) : Int := if bLt a b then -1 else if bEq a b then 0 else 1
theorem cmpOr_se {s : Sl} {l : List Int} {S : Nat → Prop} {w : World} {R : Int → World → Prop} (hs : SlR intE w S s l) (hR : R (l.foldr or2 0) w) : SE.cmp_Or_int s w R := by
  unfold SE.cmp_Or_int
  refine ⟨fun i w' => w' = w ∧ 0 ≤ i ∧ i ≤ l.length ∧ (l.drop i.toNat).foldr or2 0 = l.foldr or2 0, fun i _ => l.length - i.toNat, ⟨rfl, by omega, by omega, rfl⟩, ?_⟩
  rintro i w' ⟨rfl, h0, h1, h2⟩
  have hl := hs.len
  refine ⟨fun hlt => ?_, fun hge => ?_⟩
  · obtain ⟨x, hx⟩ : ∃ x, l[i.toNat]? = some x := ⟨_, List.getElem?_eq_getElem (by omega)⟩
    obtain ⟨ad, cs, ha, hS, ⟨rfl, _⟩, hc⟩ := hs.get hx
    have hd : l.drop i.toNat = x :: l.drop (i.toNat + 1) := by
      obtain ⟨hl, he⟩ := List.getElem?_eq_some_iff.1 hx
      rw [← he]; exact (List.drop_eq_getElem_cons hl)
    rw [hd, List.foldr_cons] at h2
    refine ⟨ad, ⟨ha, h0, hlt⟩, x, hc.pre rfl, fun hne => ?_, fun he => ?_⟩
    · rw [or2, if_neg hne] at h2
      rw [h2]; exact hR
    · have he : x = 0 := Classical.not_not.1 he
      rw [or2, if_pos he] at h2
      have := hs.2.2.1; have := hs.2.1
      rw [wrapI_add1 h0 hlt (by omega)]
      have e : (i + 1).toNat = i.toNat + 1 := by omega
      exact ⟨⟨rfl, by omega, by omega, by rw [e]; exact h2⟩, by show l.length - (i + 1).toNat < l.length - i.toNat; omega⟩
  · rw [List.drop_eq_nil_of_le (by omega)] at h2
    rw [← h2] at hR
    exact hR
end Go.Hal
/-
  DERIVED: THE SHELF's CONTRACTS AT THIS DUMP, IN PLAIN WORDS (tools/lay-plain.mjs out of 'YtpdjadmnnadkfaaGreatDoorLay.lean', which tools/lay-shelf.mjs wrote): THE SAME DECLARATIONS UNDER THE SAME NAMES: 'import', 'namespace', 'open', 'def', 'theorem' AND NOTHING ELSE: no command of the shelf's: FOR A HAND-IN. Each laying: the table of numbers ('.._ren') and one theorem, a field a fact of the dump's own or the kernel's comparison; each contract: ONE APPLICATION.
-/
namespace Go.Proofs
open Go.Shelf
def Tryz.layTL_ren : Go.Shelf.Ren := ⟨fun | 161 => 67 | 231 => 103 | 227 => 104 | 233 => 105 | 235 => 106 | 228 => 142 | 197 => 143 | 151 => 144 | 260 => 170 | 152 => 171 | 137 => 181 | 119 => 182 | 224 => 183 | 225 => 184 | 217 => 193 | 266 => 199 | n => n, fun | 9 => 9 | 4 => 4 | 3 => 3 | 5 => 5 | 117 => 173 | 116 => 172 | 0 => 0 | 124 => 176 | 105 => 205 | 21 => 21 | 119 => 235 | 46 => 157 | 139 => 238 | 138 => 237 | n => n, fun | 3 => 1 | 4 => 2 | n => n⟩
theorem Tryz.layTL : Go.Proofs.Lays.n161 Tryz.prog Tryz.layTL_ren := {
  mixed := by kernel_rfl
  f119 := Tryz.func182.trans (congrArg some (by kernel_rfl))
  f137 := Tryz.func181.trans (congrArg some (by kernel_rfl))
  f151 := Tryz.func144.trans (congrArg some (by kernel_rfl))
  f152 := Tryz.func171.trans (congrArg some (by kernel_rfl))
  f161 := Tryz.func67.trans (congrArg some (by kernel_rfl))
  f197 := Tryz.func143.trans (congrArg some (by kernel_rfl))
  f217 := Tryz.func193.trans (congrArg some (by kernel_rfl))
  f224 := Tryz.func183.trans (congrArg some (by kernel_rfl))
  f225 := Tryz.func184.trans (congrArg some (by kernel_rfl))
  f227 := Tryz.func104.trans (congrArg some (by kernel_rfl))
  f228 := Tryz.func142.trans (congrArg some (by kernel_rfl))
  f231 := Tryz.func103.trans (congrArg some (by kernel_rfl))
  f233 := Tryz.func105.trans (congrArg some (by kernel_rfl))
  f235 := Tryz.func106.trans (congrArg some (by kernel_rfl))
  f260 := Tryz.func170.trans (congrArg some (by kernel_rfl))
  f266 := Tryz.func199.trans (congrArg some (by kernel_rfl))
  t0 := Tryz.underlying0
  a0 := Tryz.isAgg0
  z0 := Tryz.sizeOf0
  v0 := Tryz.zeroValue0
  t3 := Tryz.underlying3
  a3 := Tryz.isAgg3
  z3 := Tryz.sizeOf3
  v3 := Tryz.zeroValue3
  t4 := Tryz.underlying4
  a4 := Tryz.isAgg4
  z4 := Tryz.sizeOf4
  v4 := Tryz.zeroValue4
  t5 := Tryz.underlying5
  a5 := Tryz.isAgg5
  z5 := Tryz.sizeOf5
  v5 := Tryz.zeroValue5
  t9 := Tryz.underlying9
  a9 := Tryz.isAgg9
  z9 := Tryz.sizeOf9
  v9 := Tryz.zeroValue9
  t21 := Tryz.underlying21
  a21 := Tryz.isAgg21
  z21 := Tryz.sizeOf21
  v21 := Tryz.zeroValue21
  t46 := Tryz.underlying157
  a46 := Tryz.isAgg157
  z46 := Tryz.sizeOf157
  v46 := Tryz.zeroValue157
  t105 := Tryz.underlying205
  a105 := Tryz.isAgg205
  z105 := Tryz.sizeOf205
  v105 := Tryz.zeroValue205
  t116 := Tryz.underlying172
  a116 := Tryz.isAgg172
  z116 := Tryz.sizeOf172
  t117 := Tryz.underlying173
  a117 := Tryz.isAgg173
  z117 := Tryz.sizeOf173
  v117 := Tryz.zeroValue173
  t119 := Tryz.underlying235
  a119 := Tryz.isAgg235
  z119 := Tryz.sizeOf235
  t124 := Tryz.underlying176
  a124 := Tryz.isAgg176
  z124 := Tryz.sizeOf176
  v124 := Tryz.zeroValue176
  t138 := Tryz.underlying237
  a138 := Tryz.isAgg237
  z138 := Tryz.sizeOf237
  v138 := Tryz.zeroValue237
  t139 := Tryz.underlying238
  a139 := Tryz.isAgg238
  z139 := Tryz.sizeOf238
  v139 := Tryz.zeroValue238
  g3 := by kernel_rfl
  g4 := by kernel_rfl }
def Tryz.layTr_ren : Go.Shelf.Ren := ⟨fun | 160 => 68 | 232 => 107 | 231 => 103 | 227 => 104 | 234 => 108 | 233 => 105 | 236 => 109 | 235 => 106 | 228 => 142 | 271 => 145 | 151 => 144 | 197 => 143 | 120 => 172 | 152 => 171 | 260 => 170 | 137 => 181 | 119 => 182 | 224 => 183 | 225 => 184 | 217 => 193 | 266 => 199 | n => n, fun | 9 => 9 | 4 => 4 | 3 => 3 | 5 => 5 | 117 => 173 | 116 => 172 | 0 => 0 | 124 => 176 | 21 => 21 | 105 => 205 | 46 => 157 | 119 => 235 | 139 => 238 | 138 => 237 | n => n, fun | 3 => 1 | 4 => 2 | n => n⟩
theorem Tryz.layTr : Go.Proofs.Lays.n160 Tryz.prog Tryz.layTr_ren := {
  mixed := by kernel_rfl
  f119 := Tryz.func182.trans (congrArg some (by kernel_rfl))
  f120 := Tryz.func172.trans (congrArg some (by kernel_rfl))
  f137 := Tryz.func181.trans (congrArg some (by kernel_rfl))
  f151 := Tryz.func144.trans (congrArg some (by kernel_rfl))
  f152 := Tryz.func171.trans (congrArg some (by kernel_rfl))
  f160 := Tryz.func68.trans (congrArg some (by kernel_rfl))
  f197 := Tryz.func143.trans (congrArg some (by kernel_rfl))
  f217 := Tryz.func193.trans (congrArg some (by kernel_rfl))
  f224 := Tryz.func183.trans (congrArg some (by kernel_rfl))
  f225 := Tryz.func184.trans (congrArg some (by kernel_rfl))
  f227 := Tryz.func104.trans (congrArg some (by kernel_rfl))
  f228 := Tryz.func142.trans (congrArg some (by kernel_rfl))
  f231 := Tryz.func103.trans (congrArg some (by kernel_rfl))
  f232 := Tryz.func107.trans (congrArg some (by kernel_rfl))
  f233 := Tryz.func105.trans (congrArg some (by kernel_rfl))
  f234 := Tryz.func108.trans (congrArg some (by kernel_rfl))
  f235 := Tryz.func106.trans (congrArg some (by kernel_rfl))
  f236 := Tryz.func109.trans (congrArg some (by kernel_rfl))
  f260 := Tryz.func170.trans (congrArg some (by kernel_rfl))
  f266 := Tryz.func199.trans (congrArg some (by kernel_rfl))
  f271 := Tryz.func145.trans (congrArg some (by kernel_rfl))
  t0 := Tryz.underlying0
  a0 := Tryz.isAgg0
  z0 := Tryz.sizeOf0
  v0 := Tryz.zeroValue0
  t3 := Tryz.underlying3
  a3 := Tryz.isAgg3
  z3 := Tryz.sizeOf3
  v3 := Tryz.zeroValue3
  t4 := Tryz.underlying4
  a4 := Tryz.isAgg4
  z4 := Tryz.sizeOf4
  v4 := Tryz.zeroValue4
  t5 := Tryz.underlying5
  a5 := Tryz.isAgg5
  z5 := Tryz.sizeOf5
  v5 := Tryz.zeroValue5
  t9 := Tryz.underlying9
  a9 := Tryz.isAgg9
  z9 := Tryz.sizeOf9
  v9 := Tryz.zeroValue9
  t21 := Tryz.underlying21
  a21 := Tryz.isAgg21
  z21 := Tryz.sizeOf21
  v21 := Tryz.zeroValue21
  t46 := Tryz.underlying157
  a46 := Tryz.isAgg157
  z46 := Tryz.sizeOf157
  v46 := Tryz.zeroValue157
  t105 := Tryz.underlying205
  a105 := Tryz.isAgg205
  z105 := Tryz.sizeOf205
  v105 := Tryz.zeroValue205
  t116 := Tryz.underlying172
  a116 := Tryz.isAgg172
  z116 := Tryz.sizeOf172
  t117 := Tryz.underlying173
  a117 := Tryz.isAgg173
  z117 := Tryz.sizeOf173
  v117 := Tryz.zeroValue173
  t119 := Tryz.underlying235
  a119 := Tryz.isAgg235
  z119 := Tryz.sizeOf235
  t124 := Tryz.underlying176
  a124 := Tryz.isAgg176
  z124 := Tryz.sizeOf176
  v124 := Tryz.zeroValue176
  t138 := Tryz.underlying237
  a138 := Tryz.isAgg237
  z138 := Tryz.sizeOf237
  v138 := Tryz.zeroValue237
  t139 := Tryz.underlying238
  a139 := Tryz.isAgg238
  z139 := Tryz.sizeOf238
  v139 := Tryz.zeroValue238
  g3 := by kernel_rfl
  g4 := by kernel_rfl }
def Tryz.layBS_ren : Go.Shelf.Ren := ⟨fun | 169 => 72 | n => n, fun | 70 => 130 | 9 => 9 | 0 => 0 | 72 => 133 | 37 => 131 | 127 => 178 | 3 => 3 | 5 => 5 | n => n, fun | n => n⟩
theorem Tryz.layBS : Go.Proofs.Lays.n169 Tryz.prog Tryz.layBS_ren := {
  mixed := by kernel_rfl
  f169 := Tryz.func72.trans (congrArg some (by kernel_rfl))
  t0 := Tryz.underlying0
  a0 := Tryz.isAgg0
  z0 := Tryz.sizeOf0
  v0 := Tryz.zeroValue0
  t3 := Tryz.underlying3
  a3 := Tryz.isAgg3
  z3 := Tryz.sizeOf3
  v3 := Tryz.zeroValue3
  t9 := Tryz.underlying9
  a9 := Tryz.isAgg9
  z9 := Tryz.sizeOf9
  v9 := Tryz.zeroValue9
  t37 := Tryz.underlying131
  a37 := Tryz.isAgg131
  z37 := Tryz.sizeOf131
  v37 := Tryz.zeroValue131
  t70 := Tryz.underlying130
  a70 := Tryz.isAgg130
  z70 := Tryz.sizeOf130
  v70 := Tryz.zeroValue130
  t72 := Tryz.underlying133
  a72 := Tryz.isAgg133
  z72 := Tryz.sizeOf133
  v72 := Tryz.zeroValue133
  t127 := Tryz.underlying178
  a127 := Tryz.isAgg178
  z127 := Tryz.sizeOf178
  v127 := Tryz.zeroValue178 }
def Tryz.layJo_ren : Go.Shelf.Ren := ⟨fun | 156 => 118 | 165 => 157 | 166 => 69 | 169 => 72 | 240 => 110 | 241 => 177 | 276 => 146 | 277 => 190 | n => n, fun | 31 => 181 | 9 => 9 | 3 => 3 | 4 => 4 | 0 => 0 | 20 => 20 | 72 => 133 | 76 => 136 | 70 => 130 | 37 => 131 | 75 => 135 | 127 => 178 | 164 => 208 | 5 => 5 | 80 => 140 | n => n, fun | n => n⟩
theorem Tryz.layJo : Go.Proofs.Lays.n156 Tryz.prog Tryz.layJo_ren := {
  mixed := by kernel_rfl
  f156 := Tryz.func118.trans (congrArg some (by kernel_rfl))
  f165 := Tryz.func157.trans (congrArg some (by kernel_rfl))
  f166 := Tryz.func69.trans (congrArg some (by kernel_rfl))
  f169 := Tryz.func72.trans (congrArg some (by kernel_rfl))
  f240 := Tryz.func110.trans (congrArg some (by kernel_rfl))
  f241 := Tryz.func177.trans (congrArg some (by kernel_rfl))
  f276 := Tryz.func146.trans (congrArg some (by kernel_rfl))
  f277 := Tryz.func190.trans (congrArg some (by kernel_rfl))
  t0 := Tryz.underlying0
  a0 := Tryz.isAgg0
  z0 := Tryz.sizeOf0
  v0 := Tryz.zeroValue0
  t3 := Tryz.underlying3
  a3 := Tryz.isAgg3
  z3 := Tryz.sizeOf3
  v3 := Tryz.zeroValue3
  t4 := Tryz.underlying4
  a4 := Tryz.isAgg4
  z4 := Tryz.sizeOf4
  v4 := Tryz.zeroValue4
  t9 := Tryz.underlying9
  a9 := Tryz.isAgg9
  z9 := Tryz.sizeOf9
  v9 := Tryz.zeroValue9
  t20 := Tryz.underlying20
  a20 := Tryz.isAgg20
  z20 := Tryz.sizeOf20
  v20 := Tryz.zeroValue20
  t31 := Tryz.underlying181
  a31 := Tryz.isAgg181
  z31 := Tryz.sizeOf181
  v31 := Tryz.zeroValue181
  t37 := Tryz.underlying131
  a37 := Tryz.isAgg131
  z37 := Tryz.sizeOf131
  v37 := Tryz.zeroValue131
  t70 := Tryz.underlying130
  a70 := Tryz.isAgg130
  z70 := Tryz.sizeOf130
  v70 := Tryz.zeroValue130
  t72 := Tryz.underlying133
  a72 := Tryz.isAgg133
  z72 := Tryz.sizeOf133
  v72 := Tryz.zeroValue133
  t75 := Tryz.underlying135
  a75 := Tryz.isAgg135
  z75 := Tryz.sizeOf135
  v75 := Tryz.zeroValue135
  t76 := Tryz.underlying136
  a76 := Tryz.isAgg136
  z76 := Tryz.sizeOf136
  v76 := Tryz.zeroValue136
  t127 := Tryz.underlying178
  a127 := Tryz.isAgg178
  z127 := Tryz.sizeOf178
  v127 := Tryz.zeroValue178
  t164 := Tryz.underlying208
  a164 := Tryz.isAgg208
  z164 := Tryz.sizeOf208
  v164 := Tryz.zeroValue208 }
def Tryz.layIt_ren : Go.Shelf.Ren := ⟨fun | 171 => 111 | 243 => 147 | 246 => 173 | 283 => 185 | 284 => 186 | 285 => 187 | 286 => 188 | 129 => 129 | 317 => 194 | 318 => 195 | 319 => 196 | 320 => 197 | 337 => 200 | 338 => 201 | n => n, fun | 3 => 3 | 9 => 9 | 2 => 2 | 4 => 4 | 171 => 242 | 0 => 0 | 53 => 199 | 37 => 131 | 5 => 5 | 173 => 244 | 212 => 250 | 51 => 197 | 20 => 20 | 213 => 251 | 46 => 157 | 232 => 252 | 233 => 253 | n => n, fun | 17 => 3 | 18 => 4 | 19 => 5 | n => n⟩
theorem Tryz.layIt : Go.Proofs.LaysM.n171 Tryz.prog Tryz.layIt_ren := {
  mixed := by kernel_rfl
  f129 := Tryz.func129.trans (congrArg some (by kernel_rfl))
  f171 := Tryz.func111.trans (congrArg some (by kernel_rfl))
  f243 := Tryz.func147.trans (congrArg some (by kernel_rfl))
  f246 := Tryz.func173.trans (congrArg some (by kernel_rfl))
  f283 := Tryz.func185.trans (congrArg some (by kernel_rfl))
  f284 := Tryz.func186.trans (congrArg some (by kernel_rfl))
  f285 := Tryz.func187.trans (congrArg some (by kernel_rfl))
  f286 := Tryz.func188.trans (congrArg some (by kernel_rfl))
  f317 := Tryz.func194.trans (congrArg some (by kernel_rfl))
  f318 := Tryz.func195.trans (congrArg some (by kernel_rfl))
  f319 := Tryz.func196.trans (congrArg some (by kernel_rfl))
  f320 := Tryz.func197.trans (congrArg some (by kernel_rfl))
  f337 := Tryz.func200.trans (congrArg some (by kernel_rfl))
  f338 := Tryz.func201.trans (congrArg some (by kernel_rfl))
  t0 := Tryz.underlying0
  a0 := Tryz.isAgg0
  z0 := Tryz.sizeOf0
  v0 := Tryz.zeroValue0
  t2 := Tryz.underlying2
  a2 := Tryz.isAgg2
  z2 := Tryz.sizeOf2
  v2 := Tryz.zeroValue2
  t3 := Tryz.underlying3
  a3 := Tryz.isAgg3
  z3 := Tryz.sizeOf3
  v3 := Tryz.zeroValue3
  t4 := Tryz.underlying4
  a4 := Tryz.isAgg4
  z4 := Tryz.sizeOf4
  v4 := Tryz.zeroValue4
  t5 := Tryz.underlying5
  a5 := Tryz.isAgg5
  z5 := Tryz.sizeOf5
  v5 := Tryz.zeroValue5
  t9 := Tryz.underlying9
  a9 := Tryz.isAgg9
  z9 := Tryz.sizeOf9
  v9 := Tryz.zeroValue9
  t20 := Tryz.underlying20
  a20 := Tryz.isAgg20
  z20 := Tryz.sizeOf20
  v20 := Tryz.zeroValue20
  t37 := Tryz.underlying131
  a37 := Tryz.isAgg131
  z37 := Tryz.sizeOf131
  v37 := Tryz.zeroValue131
  t46 := Tryz.underlying157
  a46 := Tryz.isAgg157
  z46 := Tryz.sizeOf157
  v46 := Tryz.zeroValue157
  t51 := Tryz.underlying197
  a51 := Tryz.isAgg197
  z51 := Tryz.sizeOf197
  v51 := Tryz.zeroValue197
  t53 := Tryz.underlying199
  a53 := Tryz.isAgg199
  z53 := Tryz.sizeOf199
  v53 := Tryz.zeroValue199
  t171 := Tryz.underlying242
  a171 := Tryz.isAgg242
  z171 := Tryz.sizeOf242
  v171 := Tryz.zeroValue242
  t173 := Tryz.underlying244
  a173 := Tryz.isAgg244
  z173 := Tryz.sizeOf244
  v173 := Tryz.zeroValue244
  t212 := Tryz.underlying250
  a212 := Tryz.isAgg250
  z212 := Tryz.sizeOf250
  v212 := Tryz.zeroValue250
  t213 := Tryz.underlying251
  a213 := Tryz.isAgg251
  z213 := Tryz.sizeOf251
  t232 := Tryz.underlying252
  a232 := Tryz.isAgg252
  z232 := Tryz.sizeOf252
  v232 := Tryz.zeroValue252
  t233 := Tryz.underlying253
  a233 := Tryz.isAgg253
  z233 := Tryz.sizeOf253
  v233 := Tryz.zeroValue253
  g17 := by kernel_rfl
  g18 := by kernel_rfl
  g19 := by kernel_rfl
  i0 := by kernel_rfl
  i2 := by kernel_rfl
  i3 := by kernel_rfl
  i4 := by kernel_rfl
  i5 := by kernel_rfl
  i9 := by kernel_rfl
  i20 := by kernel_rfl
  i37 := by kernel_rfl
  i46 := by kernel_rfl
  i51 := by kernel_rfl
  i53 := by kernel_rfl
  i171 := by kernel_rfl
  i173 := by kernel_rfl
  i212 := by kernel_rfl
  i232 := by kernel_rfl
  i233 := by kernel_rfl
  m17 := by kernel_rfl
  m18 := by kernel_rfl
  m19 := by kernel_rfl }
def Tryz.layCo_ren : Go.Shelf.Ren := ⟨fun | 106 => 49 | 213 => 87 | 265 => 130 | n => n, fun | 9 => 9 | 3 => 3 | n => n, fun | n => n⟩
theorem Tryz.layCo : Go.Proofs.Lays.n106 Tryz.prog Tryz.layCo_ren := {
  mixed := by kernel_rfl
  f106 := Tryz.func49.trans (congrArg some (by kernel_rfl))
  f213 := Tryz.func87.trans (congrArg some (by kernel_rfl))
  f265 := Tryz.func130.trans (congrArg some (by kernel_rfl))
  t3 := Tryz.underlying3
  a3 := Tryz.isAgg3
  z3 := Tryz.sizeOf3
  v3 := Tryz.zeroValue3
  t9 := Tryz.underlying9
  a9 := Tryz.isAgg9
  z9 := Tryz.sizeOf9
  v9 := Tryz.zeroValue9 }
end Go.Proofs
namespace Go.Hal
open Go Go.RowKit Go.Proofs
theorem toList_len (a : ByteArray) : a.toList.length = a.size := by rw [toList_data, size_data]
theorem bAt_toList {a : ByteArray} {i : Int} (h0 : 0 ≤ i) (h : i < a.size) : ∃ x : UInt8, a.toList[i.toNat]? = some x ∧ bAt a i = (x.toNat : Int) := by
  obtain ⟨n, rfl⟩ := Int.eq_ofNat_of_zero_le h0
  have hn : n < a.size := by omega
  refine ⟨_, ?_, bAt_eq hn⟩
  rw [toList_data, Int.toNat_natCast]
  exact List.getElem?_eq_getElem (by rw [size_data]; exact hn)
theorem less_se (a b : ByteArray) (w : World) (R : Bool → World → Prop) (ha : Str a) (hR : ∀ w', Ext w w' → R (bLt a b) w') : SE.halyardref05_less a b w R := by
  unfold SE.halyardref05_less
  refine ⟨fun i w' => Ext w w' ∧ 0 ≤ i ∧ i ≤ a.size ∧ i ≤ b.size ∧ a.toList.take i.toNat = b.toList.take i.toNat, fun i _ => a.size - i.toNat, ⟨Ext.refl _, by omega, by omega, by omega, rfl⟩, ?_⟩
  rintro i w1 ⟨hx, h0, h1, h2, h3⟩
  have sa : a.toList = a.toList.take i.toNat ++ a.toList.drop i.toNat := (List.take_append_drop _ _).symm
  have sb : b.toList = a.toList.take i.toNat ++ b.toList.drop i.toNat := by rw [h3]; exact (List.take_append_drop _ _).symm
  have hlt : bLt a b = Op.bytesLess (a.toList.drop i.toNat) (b.toList.drop i.toNat) := by
    have := bytesLess_app (a.toList.take i.toNat) (a.toList.drop i.toNat) (b.toList.drop i.toNat)
    rw [← sa, ← sb] at this; exact this
  rintro b1 hb1
  refine ⟨fun hb => ?_, fun hb => ?_⟩
  · simp only [hb1, Bool.and_eq_true, decide_eq_true_eq] at hb
    obtain ⟨x, hxa, ea⟩ := bAt_toList h0 hb.1
    obtain ⟨y, hyb, eb⟩ := bAt_toList h0 hb.2
    have da : a.toList.drop i.toNat = x :: a.toList.drop (i.toNat + 1) := by
      obtain ⟨hl, he⟩ := List.getElem?_eq_some_iff.1 hxa
      rw [← he]; exact (List.drop_eq_getElem_cons hl)
    have db : b.toList.drop i.toNat = y :: b.toList.drop (i.toNat + 1) := by
      obtain ⟨hl, he⟩ := List.getElem?_eq_some_iff.1 hyb
      rw [← he]; exact (List.drop_eq_getElem_cons hl)
    rintro w2 rfl
    refine ⟨⟨h0, hb.1⟩, ⟨h0, hb.2⟩, fun hne => ?_, fun he => ?_⟩
    · rintro w3 rfl
      refine ⟨⟨h0, hb.1⟩, ⟨h0, hb.2⟩, ?_⟩
      have hxy : x ≠ y := fun h => hne (by rw [ea, eb, h])
      have : decide (bAt a i < bAt b i) = bLt a b := by
        rw [hlt, da, db, ea, eb]
        show _ = (decide (x < y) || (x == y && _))
        have : (x == y) = false := by simpa using hxy
        rw [this, Bool.false_and, Bool.or_false]
        simp [UInt8.lt_iff_toNat_lt]
      rw [this]
      exact hR _ ((hx.trans (Ext.drew _)).trans (Ext.drew _))
    · have hxy : x = y := by
        rw [Classical.not_not, ea, eb] at he
        exact UInt8.toNat_inj.1 (by omega)
      rw [wrapI_add1 h0 hb.1 ha]
      refine ⟨⟨hx.trans (Ext.drew _), by omega, by omega, by omega, ?_⟩, by show a.size - (i + 1).toNat < a.size - i.toNat; omega⟩
      have e : (i + 1).toNat = i.toNat + 1 := by omega
      rw [e, List.take_add_one, List.take_add_one, h3, hxa, hyb, hxy]
  · have : decide ((a.size : Int) < (b.size : Int)) = bLt a b := by
      simp only [hb1, Bool.and_eq_false_iff, decide_eq_false_iff_not] at hb
      rw [hlt]
      by_cases hc : i = a.size
      · have : a.toList.drop i.toNat = [] := List.drop_eq_nil_of_le (by rw [toList_len]; omega)
        rw [this]
        cases hd : b.toList.drop i.toNat with
        | nil =>
          have hl := congrArg List.length hd
          rw [List.length_drop, toList_len] at hl
          simp only [List.length_nil] at hl
          show _ = false
          simp; omega
        | cons y r =>
          have hl := congrArg List.length hd
          rw [List.length_drop, toList_len] at hl
          simp only [List.length_cons] at hl
          show _ = true
          simp; omega
      · have : b.toList.drop i.toNat = [] := List.drop_eq_nil_of_le (by rw [toList_len]; omega)
        rw [this]
        have : Op.bytesLess (a.toList.drop i.toNat) [] = false := by cases a.toList.drop i.toNat <;> rfl
        rw [this]
        simp; omega
    rw [this]
    exact hR _ hx
end Go.Hal
namespace Go.Hal
open Go Go.RowKit Go.Proofs Go.Shelf
def cutA : ByteArray := ByteArray.mk #[97, 98, 99, 100, 101, 102, 103, 104, 105, 106, 107, 108, 109, 110, 111, 112, 113, 114, 115, 116, 117, 118, 119, 120, 121, 122]
def cutB : ByteArray := ByteArray.mk #[97, 98, 99, 100, 101, 102, 103, 104, 105, 106, 107, 108, 109, 110, 111, 112, 113, 114, 115, 116, 117, 118, 119, 120, 121, 122, 48, 49, 50, 51, 52, 53, 54, 55, 56, 57, 45]
set_option maxRecDepth 100000 in
theorem cutA_has (b : UInt8) : cutA.data.toList.contains b = lowC b := by
  have := all_u8 (fun b => cutA.data.toList.contains b == lowC b) (by decide +kernel) b
  simpa using this
set_option maxRecDepth 100000 in
theorem cutB_has (b : UInt8) : cutB.data.toList.contains b = nameC b := by
  have := all_u8 (fun b => cutB.data.toList.contains b == nameC b) (by decide +kernel) b
  simpa using this
theorem trimLeft_k {s : ByteArray} {w : World} {k : Value → World → Prop} (hk : ∀ w', Ext w w' → k (.string ⟨(s.data.toList.dropWhile lowC).toArray⟩) w') : callS Tryz.prog 67 [.string s, .string cutA] w k := by
  have h := Any.strings_TrimLeft_laid Tryz.layTL (by kernel_rfl) s cutA w (by decide) (ascii_of_all (by decide))
  have e : Lib.trimLeftS s.data.toList cutA.data.toList = s.data.toList.dropWhile lowC := by
    unfold Lib.trimLeftS
    congr 1
    funext b
    exact cutA_has b
  rw [e] at h
  exact h.mono fun e w' ⟨he, hb⟩ => ⟨_, he, hk w' hb⟩
theorem trim_k {s : ByteArray} {w : World} {k : Value → World → Prop} (hs : Str s) (hk : ∀ w', Ext w w' → k (.string ⟨(Lib.trimS s.data.toList cutB.data.toList).toArray⟩) w') : callS Tryz.prog 68 [.string s, .string cutB] w k :=
  (Any.strings_Trim_laid Tryz.layTr (by kernel_rfl) s cutB w hs (by decide) (ascii_of_all (by decide))).mono fun e w' ⟨he, hb⟩ => ⟨_, he, hk w' hb⟩
theorem dW_nil {α : Type} (p : α → Bool) (l : List α) : l.dropWhile p = [] ↔ l.all p = true := by
  induction l with
  | nil => simp
  | cons x r ih =>
    rw [List.dropWhile_cons, List.all_cons]
    cases h : p x
    · simp
    · simpa using ih
theorem beq_dec {α : Type} [BEq α] [LawfulBEq α] [DecidableEq α] (a b : α) : (a == b) = decide (a = b) := by rw [Bool.eq_iff_iff]; simp
theorem trimB_nil (l : List UInt8) : (Lib.trimS l cutB.data.toList = []) ↔ l.all nameC = true := by
  have e : (fun b => cutB.data.toList.contains b) = nameC := funext cutB_has
  unfold Lib.trimS Lib.trimLeftS Lib.trimRightS
  simp only [e]
  rw [dW_nil]
  constructor
  · intro h
    have h2 : l.reverse.dropWhile nameC = [] := by
      cases hd : l.reverse.dropWhile nameC with
      | nil => rfl
      | cons x r =>
        rw [hd] at h
        have h3 := List.all_eq_true.1 h x (by simp)
        have h4 : ∀ m : List UInt8, m.dropWhile nameC = x :: r → nameC x = false := by
          intro m
          induction m with
          | nil => intro h; cases h
          | cons y t ih =>
            rw [List.dropWhile_cons]
            cases hy : nameC y
            · intro h
              simp at h
              rw [← h.1]; exact hy
            · intro h; exact ih (by simpa using h)
        rw [h4 _ hd] at h3; cases h3
    rw [dW_nil] at h2
    exact List.all_eq_true.2 fun x hx => List.all_eq_true.1 h2 x (List.mem_reverse.2 hx)
  · intro h
    refine List.all_eq_true.2 fun x hx => ?_
    have : x ∈ l.reverse := (List.dropWhile_sublist _).mem (List.mem_reverse.1 hx)
    exact List.all_eq_true.1 h x (List.mem_reverse.1 this)
theorem name_eq (s : ByteArray) : nameMay s = ((!bEq s ⟨#[]⟩ && decide (s.size ≤ 16)) && (!bEq ⟨(s.data.toList.dropWhile lowC).toArray⟩ s && (s.data.toList.dropWhile lowC).all nameC)) := by
  unfold nameMay
  rw [Bool.and_comm]
  have hb : ∀ l : List UInt8, bEq ⟨l.toArray⟩ s = decide (l = s.data.toList) := by
    intro l
    unfold bEq
    rw [toList_data, toList_data]
    exact beq_dec ..
  cases h0 : (!bEq s ⟨#[]⟩ && decide (s.size ≤ 16))
  · rfl
  · rw [Bool.true_and, Bool.true_and, hb, toList_data]
    have hne : s.data.toList ≠ [] := by
      intro h
      simp only [Bool.and_eq_true] at h0
      have : bEq s ⟨#[]⟩ = true := by unfold bEq; rw [toList_data, toList_data, h]; rfl
      rw [this] at h0; exact absurd h0.1 (by decide)
    cases hs : s.data.toList with
    | nil => exact absurd hs hne
    | cons c r =>
      unfold namePre
      rw [List.dropWhile_cons]
      cases hc : lowC c
      · show (lowC c && _) = _
        rw [hc, if_neg (by simp)]; simp
      · have hl : ¬ r.dropWhile lowC = c :: r := by
          intro h
          have := (List.dropWhile_sublist lowC (l := r)).length_le
          rw [h] at this
          simp at this
          omega
        simp only [if_true, decide_eq_false hl, Bool.not_false, Bool.true_and]
        have : r = r.takeWhile lowC ++ r.dropWhile lowC := (List.takeWhile_append_dropWhile ..).symm
        have ht : (r.takeWhile lowC).all nameC = true := List.all_eq_true.2 fun x hx => low_nameC (by
          have := List.all_takeWhile (p := lowC) (l := r)
          exact List.all_eq_true.1 this x hx)
        rw [hc, Bool.true_and]
        calc r.all nameC = (r.takeWhile lowC ++ r.dropWhile lowC).all nameC := by rw [← this]
          _ = _ := by rw [List.all_append, ht, Bool.true_and]
theorem scanName_se {s : ByteArray} {w : World} {R : Bool → World → Prop} (hs : Str s) (hR : ∀ w', Ext w w' → R (nameMay s) w') : SE.scan_Name s w R := by
  unfold SE.scan_Name
  refine trimLeft_k fun w1 x1 => ⟨_, rfl, bound (bound (bound ?_))⟩
  have hsz : Str ⟨(s.data.toList.dropWhile lowC).toArray⟩ := by
    have h1 := (List.dropWhile_sublist lowC (l := s.data.toList)).length_le
    have h2 := size_data ⟨(s.data.toList.dropWhile lowC).toArray⟩
    have h3 := size_data s
    simp only [List.toList_toArray] at h2
    unfold Str at *
    omega
  refine gCall.intro ⟨(Lib.trimS (s.data.toList.dropWhile lowC) cutB.data.toList).toArray⟩ (fun _ q hq => trim_k hsz fun w' hx => ⟨_, rfl, hq _ hx⟩) fun t w2 x2 ht => ?_
  have : (((!bEq s ⟨#[]⟩) && decide ((s.size : Int) ≤ 16)) && (!bEq ⟨(s.data.toList.dropWhile lowC).toArray⟩ s) && bEq t ⟨#[]⟩) = nameMay s := by
    rw [name_eq]
    have e : decide ((s.size : Int) ≤ 16) = decide (s.size ≤ 16) := by
      rw [decide_eq_decide]; omega
    rw [e] at ht ⊢
    rw [Bool.and_assoc]
    cases h1 : (!bEq s ⟨#[]⟩ && decide (s.size ≤ 16))
    · rfl
    · cases h2 : (!bEq ⟨(s.data.toList.dropWhile lowC).toArray⟩ s)
      · rfl
      · rw [ht (by rw [h1, h2]; rfl), Bool.true_and, Bool.true_and, Bool.true_and]
        have h3 : bEq (⟨(Lib.trimS (s.data.toList.dropWhile lowC) cutB.data.toList).toArray⟩ : ByteArray) ⟨#[]⟩ = decide (Lib.trimS (s.data.toList.dropWhile lowC) cutB.data.toList = []) := by
          unfold bEq
          rw [toList_data, toList_data]
          exact beq_dec ..
        rw [h3]
        cases h4 : (s.data.toList.dropWhile lowC).all nameC
        · exact decide_eq_false fun h => by rw [trimB_nil] at h; rw [h] at h4; cases h4
        · exact decide_eq_true ((trimB_nil _).2 h4)
  rw [this]
  exact hR _ (by (repeat (first | assumption | exact Ext.refl _ | refine Ext.trans ?_ (by assumption))))
theorem r04Name_se {s : ByteArray} {w : World} {R : Bool → World → Prop} (hs : Str s) (hR : ∀ w', Ext w w' → R (nameMay s) w') : SE.halyardref04_Name s w R := by
  unfold SE.halyardref04_Name
  refine ⟨fun i w' => w' = w ∧ 0 ≤ i ∧ i ≤ s.size ∧ namePre (s.toList.take i.toNat) = true, fun i _ => s.size - i.toNat, ⟨rfl, by omega, by omega, rfl⟩, ?_⟩
  rintro i w' ⟨rfl, h0, h1, h2⟩
  refine ⟨fun hlt => ⟨⟨h0, hlt⟩, bound ⟨fun _ => ⟨h0, hlt⟩, ⟨h0, hlt⟩, bound ⟨fun _ => ⟨h0, hlt⟩, bound ⟨fun _ => ⟨h0, hlt⟩, bound (bound ?_)⟩⟩⟩⟩, fun hge => bound ?_⟩
  · obtain ⟨x, hx, ex⟩ := bAt_toList h0 hlt
    rw [ex]
    have hsn : namePre (s.toList.take (i.toNat + 1)) = (if i.toNat = 0 then lowC x else nameC x) := by
      rw [List.take_add_one, hx]
      show namePre (_ ++ [x]) = _
      rw [namePre_snoc, h2, Bool.true_and]
      have : s.toList.take i.toNat = [] ↔ i.toNat = 0 := by
        rw [List.take_eq_nil_iff]
        constructor
        · rintro (h | h)
          · exact h
          · rw [h] at hx; cases hx
        · exact .inl
      by_cases hc : i.toNat = 0
      · rw [if_pos hc, if_pos (this.2 hc)]
      · rw [if_neg hc, if_neg (fun h => hc (this.1 h))]
    have hcond : ((!(decide ((97 : Int) ≤ (x.toNat : Int)) && decide ((x.toNat : Int) ≤ 122))) && ((i == 0) || (!((decide ((48 : Int) ≤ (x.toNat : Int)) && decide ((x.toNat : Int) ≤ 57)) || ((x.toNat : Int) == 45))))) = !(if i.toNat = 0 then lowC x else nameC x) := by
      have e1 : (decide ((97 : Int) ≤ (x.toNat : Int)) && decide ((x.toNat : Int) ≤ 122)) = lowC x := by
        unfold lowC; congr 1 <;> rw [decide_eq_decide] <;> omega
      have e2 : (decide ((48 : Int) ≤ (x.toNat : Int)) && decide ((x.toNat : Int) ≤ 57)) = (decide (48 ≤ x.toNat) && decide (x.toNat ≤ 57)) := by congr 1 <;> rw [decide_eq_decide] <;> omega
      have e3 : ((x.toNat : Int) == 45) = decide (x.toNat = 45) := by rw [beq_dec, decide_eq_decide]; omega
      rw [e1, e2, e3]
      by_cases hc : i.toNat = 0
      · rw [if_pos hc]
        have : (i == 0) = true := by simp; omega
        rw [this]; cases lowC x <;> rfl
      · rw [if_neg hc]
        have : (i == 0) = false := by simp; omega
        rw [this]; unfold nameC; cases lowC x <;> rfl
    rw [hcond, ← hsn]
    refine ⟨fun h => ?_, fun h => ?_⟩
    · have : nameMay s = false := by
        unfold nameMay
        cases hp : namePre s.toList
        · rfl
        · rw [← List.take_append_drop (i.toNat + 1) s.toList] at hp
          rw [namePre_app hp] at h; cases h
      rw [← this]; exact hR _ (Ext.refl _)
    · rw [wrapI_add1 h0 hlt hs]
      have e : (i + 1).toNat = i.toNat + 1 := by omega
      refine ⟨⟨rfl, by omega, by omega, ?_⟩, by show s.size - (i + 1).toNat < s.size - i.toNat; omega⟩
      rw [e]
      cases hp : namePre (s.toList.take (i.toNat + 1))
      · rw [hp] at h; cases h
      · rfl
  · have hi : i.toNat = s.toList.length := by rw [toList_len]; omega
    rw [hi, List.take_length] at h2
    have : ((!bEq s ⟨#[]⟩) && decide ((s.size : Int) ≤ 16)) = nameMay s := by
      unfold nameMay
      rw [h2, Bool.true_and]
      congr 1
      rw [decide_eq_decide]; omega
    rw [this]; exact hR _ (Ext.refl _)
end Go.Hal
namespace Go.Hal
open Go Go.RowKit
def B (l : List UInt8) : ByteArray := ⟨l.toArray⟩
theorem B_data (l : List UInt8) : (B l).data.toList = l := rfl
theorem B_size (l : List UInt8) : (B l).size = l.length := by rw [← size_data]; rfl
theorem ba_ext {a b : ByteArray} (h : a.data.toList = b.data.toList) : a = b := by
  obtain ⟨⟨a⟩⟩ := a; obtain ⟨⟨b⟩⟩ := b
  simp at h; rw [h]
theorem ba_B (s : ByteArray) : s = B s.toList := by rw [toList_data]; exact ba_ext rfl
theorem app_data (a b : ByteArray) : (a ++ b).data.toList = a.data.toList ++ b.data.toList := by
  rw [ByteArray.data_append]; simp
theorem B_app (a b : List UInt8) : B a ++ B b = B (a ++ b) := ba_ext (by rw [app_data, B_data, B_data, B_data])
theorem app_lit (a : List UInt8) (b : Array UInt8) : B a ++ ByteArray.mk b = B (a ++ b.toList) := ba_ext (by rw [app_data, B_data, B_data])
theorem lit_app (a : Array UInt8) (b : List UInt8) : ByteArray.mk a ++ B b = B (a.toList ++ b) := ba_ext (by rw [app_data, B_data, B_data])
theorem lit_size (a : Array UInt8) : (ByteArray.mk a).size = a.size := rfl
theorem maxI_eq : maxI = 9223372036854775807 := rfl
def dec (n : Int) : List UInt8 := Lib.decDigits n.toNat
theorem dec_small {n : Int} (h0 : 0 ≤ n) (h1 : n < 10) : dec n = [UInt8.ofNat (48 + n.toNat)] := by
  unfold dec
  rw [Lib.decDigits, dif_pos (by omega)]
theorem dec_big {n : Int} (h1 : 10 ≤ n) : dec n = dec (n / 10) ++ [UInt8.ofNat (48 + (n % 10).toNat)] := by
  unfold dec
  rw [Lib.decDigits, dif_neg (by omega)]
  congr 2
  · omega
  · congr 2; omega
theorem dec_len {n : Int} (h0 : 0 ≤ n) (h1 : n ≤ 999) : (dec n).length ≤ 3 := by
  by_cases h : n < 10
  · rw [dec_small h0 h]; simp
  · rw [dec_big (by omega), List.length_append]
    by_cases h' : n / 10 < 10
    · rw [dec_small (by omega) h']; simp
    · rw [dec_big (by omega), dec_small (by omega) (by omega)]; simp
def verText (v : Ver) : List UInt8 := if v.may then (((dec v.ma ++ [46]) ++ dec v.mi) ++ [46]) ++ dec v.pa else []
theorem verText_len (v : Ver) : (verText v).length ≤ 11 := by
  unfold verText
  split
  · rename_i h
    have h := Ver.may_iff.1 h
    have := dec_len h.1.1 h.1.2; have := dec_len h.2.1.1 h.2.1.2; have := dec_len h.2.2.1 h.2.2.2
    simp; omega
  · simp
def oneText (x : Span) : List UInt8 :=
  if x.lo = x.hi then verText x.lo
  else if x.lo.rank = 0 ∧ x.hi.rank = 999999999 then [42]
  else if x.lo.rank = 0 then [60, 61] ++ verText x.hi
  else if x.hi.rank = 999999999 then [62, 61] ++ verText x.lo
  else (([62, 61] ++ verText x.lo) ++ [32, 60, 61]) ++ verText x.hi
theorem oneText_len (x : Span) : (oneText x).length ≤ 27 := by
  have h1 := verText_len x.lo; have h2 := verText_len x.hi
  unfold oneText
  split
  · omega
  · split
    · simp
    · split
      · simp; omega
      · split <;> simp <;> omega
def joinT : List Span → List UInt8
  | [] => []
  | [x] => oneText x
  | x :: y :: r => oneText x ++ ([32, 124, 124, 32] ++ joinT (y :: r))
def rangeText (l : List Span) : List UInt8 := if spansMay l then (if l = [] then [60, 48, 46, 48, 46, 48] else joinT l) else []
theorem joinT_snoc (l : List Span) (x : Span) : joinT (l ++ [x]) = (if l = [] then oneText x else (joinT l ++ [32, 124, 124, 32]) ++ oneText x) := by
  induction l with
  | nil => rfl
  | cons y r ih =>
    cases r with
    | nil => show oneText y ++ ([32, 124, 124, 32] ++ oneText x) = _; simp [joinT]
    | cons z t =>
      show oneText y ++ ([32, 124, 124, 32] ++ joinT ((z :: t) ++ [x])) = _
      rw [ih]
      simp [joinT]
theorem joinT_len (l : List Span) : (joinT l).length ≤ 31 * l.length := by
  induction l with
  | nil => simp [joinT]
  | cons y r ih =>
    have := oneText_len y
    cases r with
    | nil => simp [joinT]; omega
    | cons z t => simp only [joinT, List.length_append, List.length_cons, List.length_nil] at ih ⊢; omega
theorem rangeText_len (l : List Span) : (rangeText l).length ≤ 2000 := by
  unfold rangeText
  split
  · rename_i h
    unfold spansMay at h
    simp at h
    have := joinT_len l
    split <;> simp <;> omega
  · simp
def depLine (word : List UInt8) (d : Dep) : List UInt8 := ((((word ++ [32]) ++ d.name.toList) ++ [32]) ++ rangeText d.range) ++ [10]
def depLines (word : List UInt8) (l : List Dep) : List UInt8 := (l.map (depLine word)).flatten
def wNeeds : List UInt8 := [110, 101, 101, 100, 115]
def wBeside : List UInt8 := [98, 101, 115, 105, 100, 101]
def wLikes : List UInt8 := [108, 105, 107, 101, 115]
def headText (n : ByteArray) (v : Ver) : List UInt8 := ((([112, 97, 99, 107, 97, 103, 101, 32] ++ n.toList) ++ [32]) ++ verText v) ++ [10]
def packText (p : Pack) : List UInt8 := ((headText p.name p.v ++ depLines wNeeds p.deps) ++ depLines wBeside p.peers) ++ depLines wLikes p.opt
def aheadOf : Option ByteArray → ByteArray → Bool
  | none, _ => true
  | some n, m => bLt n m
def depsGo : Option ByteArray → List Dep → Bool
  | _, [] => true
  | prev, d :: r => nameMay d.name && spansMay d.range && !d.range.isEmpty && aheadOf prev d.name && depsGo (some d.name) r
def depsMay (l : List Dep) : Bool := depsGo none l && decide (l.length ≤ 16)
def apart2 (a b : List Dep) : Bool := !a.any fun x => b.any fun y => decide (x.name = y.name)
def apart3 (p : Pack) : Bool := apart2 p.deps p.peers && apart2 p.deps p.opt && apart2 p.peers p.opt
def listsMay (p : Pack) : Bool := nameMay p.name && p.v.may && depsMay p.deps && depsMay p.peers && depsMay p.opt
def packMay (p : Pack) : Bool := listsMay p && (apart3 p && decide ((packText p).length ≤ 4096))
theorem depLines_snoc (word : List UInt8) (l : List Dep) (d : Dep) : depLines word (l ++ [d]) = depLines word l ++ depLine word d := by simp [depLines]
theorem nameMay_len {n : ByteArray} (h : nameMay n = true) : n.toList.length ≤ 16 := by
  unfold nameMay at h
  simp at h
  rw [toList_data, size_data]; exact h.2.2
theorem depsGo_name {l : List Dep} {p : Option ByteArray} (h : depsGo p l = true) : ∀ d ∈ l, nameMay d.name = true ∧ spansMay d.range = true ∧ d.range ≠ [] := by
  induction l generalizing p with
  | nil => intro d hd; cases hd
  | cons x r ih =>
    intro d hd
    rw [depsGo] at h
    simp only [Bool.and_eq_true] at h
    rcases List.mem_cons.1 hd with rfl | hd
    · exact ⟨h.1.1.1.1, h.1.1.1.2, by have := h.1.1.2; simp at this; exact this⟩
    · exact ih h.2 d hd
theorem depLine_len {word : List UInt8} (hw : word.length ≤ 8) {d : Dep} (h : nameMay d.name = true) : (depLine word d).length ≤ 2030 := by
  have := nameMay_len h; have := rangeText_len d.range
  simp only [depLine, List.length_append, List.length_cons, List.length_nil]; omega
theorem depLines_len {word : List UInt8} (hw : word.length ≤ 8) {l : List Dep} (h : ∀ d ∈ l, nameMay d.name = true) : (depLines word l).length ≤ 2030 * l.length := by
  induction l with
  | nil => simp [depLines]
  | cons x r ih =>
    have h1 := ih fun d hd => h d (List.mem_cons_of_mem _ hd)
    have h2 := depLine_len hw (h x (List.mem_cons_self ..))
    simp only [depLines, List.map_cons, List.flatten_cons, List.length_append, List.length_cons] at h1 ⊢
    omega
def dpOk (prev : Option ByteArray) (d : Dep) : Bool := nameMay d.name && spansMay d.range && !d.range.isEmpty && aheadOf prev d.name
def lastN : Option ByteArray → List Dep → Option ByteArray
  | p, [] => p
  | _, d :: r => lastN (some d.name) r
theorem depsGo_snoc (l : List Dep) : ∀ (p : Option ByteArray) (d : Dep), depsGo p (l ++ [d]) = (depsGo p l && dpOk (lastN p l) d) := by
  induction l with
  | nil => intro p d; simp [depsGo, dpOk, lastN]
  | cons x r ih =>
    intro p d
    rw [List.cons_append, depsGo, depsGo, ih]
    exact (Bool.and_assoc ..).symm
theorem lastN_snoc (l : List Dep) : ∀ (p : Option ByteArray) (d : Dep), lastN p (l ++ [d]) = some d.name := by
  induction l with
  | nil => intro p d; rfl
  | cons x r ih => intro p d; exact ih _ d
theorem depsGo_app {l k : List Dep} {p : Option ByteArray} (h : depsGo p (l ++ k) = true) : depsGo p l = true := by
  induction l generalizing p with
  | nil => rfl
  | cons y r ih =>
    rw [List.cons_append, depsGo] at h
    rw [depsGo]
    simp only [Bool.and_eq_true] at h ⊢
    exact ⟨h.1, ih h.2⟩
theorem depsMay_false {l : List Dep} {i : Nat} (h : depsGo none (l.take i) = false) : depsMay l = false := by
  unfold depsMay
  cases hg : depsGo none l
  · rfl
  · rw [← List.take_append_drop i l] at hg
    rw [depsGo_app hg] at h; cases h
theorem deps_step {l : List Dep} {n : Nat} (hn : n < l.length) (hI : depsGo none (l.take n) = true) : depsGo none (l.take (n + 1)) = dpOk (lastN none (l.take n)) l[n] := by
  rw [List.take_succ_eq_append_getElem hn, depsGo_snoc, hI, Bool.true_and]
theorem lastN_take {l : List Dep} {n : Nat} (hn : n + 1 < l.length) : lastN none (l.take (n + 1)) = some l[n].name := by
  rw [List.take_succ_eq_append_getElem (by omega), lastN_snoc]
theorem depsMay_names {l : List Dep} (h : depsMay l = true) : l.length ≤ 16 ∧ ∀ d ∈ l, nameMay d.name = true ∧ spansMay d.range = true ∧ d.range ≠ [] := by
  unfold depsMay at h
  simp only [Bool.and_eq_true, decide_eq_true_eq] at h
  exact ⟨h.2, depsGo_name h.1⟩
end Go.Hal
namespace Go.Hal
open Go Go.RowKit Go.Proofs Go.Shelf
theorem u8wrap_eq {x : Int} (h0 : 0 ≤ x) (h1 : x ≤ 255) : IntKind.u8.wrap x = x := by
  simp only [IntKind.wrap, IntKind.bits, IntKind.signed, Bool.false_and]
  have e1 : (2 : Int) ^ 8 = 256 := rfl
  simp [e1]; omega
theorem conv1 {a : Addr} {w : World} {x : Int} (hb : BoxAt w a [.int .u8 x]) : stabS Tryz.prog (Go.convert 131 9 (Sl.v (Sl.mk (some a) 1 1))) w (.string (B [UInt8.ofNat x.toNat])) := fun w' hx => by
  obtain ⟨b, o, s⟩ := a
  obtain ⟨t, ho, hs, hh⟩ := hb
  simp only at ho hs hh
  subst ho hs
  have hb' : BoxAt w' ⟨b, 0, none⟩ [.int .u8 x] := BoxAt.ext ⟨t, rfl, rfl, hh⟩ hx
  exact run_convert_bytes_arg w' 131 5 Tryz.underlying131 Tryz.underlying5 b 0 1 1 [x] rfl (fun i hi => by
    have : i = 0 := by omega
    subst this
    have := hb'.ldc 0 (.int .u8 x) rfl
    exact this) _ Tryz.underlying9
theorem r02Number_se : ∀ (N : Nat) {n : Int} {w : World} {R : ByteArray → World → Prop}, 0 ≤ n → n.toNat < N → n ≤ 999 → (∀ w', Ext w w' → R (B (dec n)) w') → SE.halyardref02_Number n w R
  | 0, n, w, R, _, h, _, _ => by omega
  | N + 1, n, w, R, h0, hN, h9, hR => by
    have digit : ∀ m : Int, 0 ≤ m → m < 10 → IntKind.u8.wrap (wrapI (48 + m)) = 48 + m := fun m h1 h2 => by rw [wrapI_eq (by omega) (by omega), u8wrap_eq (by omega) (by omega)]
    have dl : ∀ m : Int, 0 ≤ m → UInt8.ofNat (48 + m).toNat = UInt8.ofNat (48 + m.toNat) := fun m h1 => by congr 1; omega
    unfold SE.halyardref02_Number
    refine ⟨fun hlt => ?_, fun hge => ?_⟩
    · rw [digit n h0 hlt]
      refine newS.intro fun a w1 x1 hb _ _ => ⟨_, conv1 hb, ?_⟩
      rw [dl n h0, ← dec_small h0 hlt]
      exact hR _ (by (repeat (first | assumption | exact Ext.refl _ | refine Ext.trans ?_ (by assumption))))
    · have hq : n.tdiv 10 = n / 10 := Int.tdiv_eq_ediv_of_nonneg h0
      have hm : Int.tmod n 10 = n % 10 := Int.tmod_eq_emod_of_nonneg h0
      rw [hq, hm, wrapI_eq (by omega) (by omega), digit (n % 10) (by omega) (by omega)]
      have hl := dec_len (n := n / 10) (by omega) (by omega)
      have hsz : ((((B (dec (n / 10))).size + (B [UInt8.ofNat (48 + n % 10).toNat]).size : Nat) : Int) ≤ maxI) := by rw [B_size, B_size, maxI_eq]; simp; omega
      have hv : B (dec (n / 10)) ++ B [UInt8.ofNat (48 + n % 10).toNat] = B (dec n) := by rw [B_app, dl _ (by omega), ← dec_big (by omega)]
      refine join.intro (bnd.drew fun w1 x1 => ⟨?_, ?_⟩)
      · refine callX.intro (SE.halyardref02_Number.go (r02Number_se N (by omega) (by omega) (by omega) fun w2 x2 => ⟨x2, _, rfl, newS.intro fun a w3 x3 hb _ _ => ⟨_, conv1 hb, hsz, ?_⟩⟩))
        rw [hv]; exact hR _ (by (repeat (first | assumption | exact Ext.refl _ | refine Ext.trans ?_ (by assumption))))
      · refine newS.intro fun a w3 x3 hb _ _ => ⟨_, conv1 hb, callX.intro (SE.halyardref02_Number.go (r02Number_se N (by omega) (by omega) (by omega) fun w2 x2 => ⟨x2, _, rfl, hsz, ?_⟩))⟩
        rw [hv]; exact hR _ (by (repeat (first | assumption | exact Ext.refl _ | refine Ext.trans ?_ (by assumption))))
theorem r02Print_se {v : Ver} {w : World} {R : ByteArray → World → Prop} (hR : ∀ w', Ext w w' → R (B (verText v)) w') : SE.halyardref02_Print v.ma v.mi v.pa w R := by
  unfold SE.halyardref02_Print
  refine newS.intro fun _ w1 x1 hb _ _ => ?_
  refine ⟨_, _, _, (by first | exact (BoxAt.at0 (by assumption) (by (repeat (first | assumption | exact Ext.refl _ | refine Ext.trans ?_ (by assumption)))) rfl) | exact (BoxAt.at1 (by assumption) (by (repeat (first | assumption | exact Ext.refl _ | refine Ext.trans ?_ (by assumption)))) rfl)), ?_⟩
  refine SE.halyardref02_May.go (r02May_se fun w2 x2 => ⟨_, rfl, fun h => ?_, fun h => bnd.drew fun w3 x3 => ?_⟩)
  · have e : v.may = false := by simpa using h
    have : verText v = [] := by unfold verText; rw [e]; rfl
    have hr := hR w2 (by (repeat (first | assumption | exact Ext.refl _ | refine Ext.trans ?_ (by assumption))))
    rw [this] at hr; exact hr
  · have e : v.may = true := by simpa using h
    have hm := Ver.may_iff.1 e
    have l1 := dec_len hm.1.1 hm.1.2; have l2 := dec_len hm.2.1.1 hm.2.1.2; have l3 := dec_len hm.2.2.1 hm.2.2.2
    have hv : verText v = (((dec v.ma ++ [46]) ++ dec v.mi) ++ [46]) ++ dec v.pa := by unfold verText; rw [e]; rfl
    refine ⟨_, (by first | exact (BoxAt.at0 (by assumption) (by (repeat (first | assumption | exact Ext.refl _ | refine Ext.trans ?_ (by assumption)))) rfl) | exact (BoxAt.at1 (by assumption) (by (repeat (first | assumption | exact Ext.refl _ | refine Ext.trans ?_ (by assumption)))) rfl)), ?_⟩
    refine ⟨_, (by first | exact (BoxAt.at0 (by assumption) (by (repeat (first | assumption | exact Ext.refl _ | refine Ext.trans ?_ (by assumption)))) rfl) | exact (BoxAt.at1 (by assumption) (by (repeat (first | assumption | exact Ext.refl _ | refine Ext.trans ?_ (by assumption)))) rfl)), ?_⟩
    refine ⟨_, (by first | exact (BoxAt.at0 (by assumption) (by (repeat (first | assumption | exact Ext.refl _ | refine Ext.trans ?_ (by assumption)))) rfl) | exact (BoxAt.at1 (by assumption) (by (repeat (first | assumption | exact Ext.refl _ | refine Ext.trans ?_ (by assumption)))) rfl)), ?_⟩
    refine callX.intro (SE.halyardref02_Number.go (r02Number_se 1000 hm.1.1 (by omega) hm.1.2 fun w4 x4 => ⟨x4, _, rfl, ?_⟩))
    refine ⟨by rw [B_size, lit_size, maxI_eq]; simp; omega, callX.intro (SE.halyardref02_Number.go (r02Number_se 1000 hm.2.1.1 (by omega) hm.2.1.2 fun w5 x5 => ⟨x5, _, rfl, ?_⟩))⟩
    simp only [app_lit, B_app]
    refine ⟨by rw [B_size, B_size, maxI_eq]; simp; omega, by rw [B_size, lit_size, maxI_eq]; simp; omega, SE.halyardref02_Number.go (r02Number_se 1000 hm.2.2.1 (by omega) hm.2.2.2 fun w6 x6 => ⟨_, rfl, ?_⟩)⟩
    simp only [B_app]
    refine ⟨by rw [B_size, B_size, maxI_eq]; simp; omega, ?_⟩
    have hr := hR w6 (by (repeat (first | assumption | exact Ext.refl _ | refine Ext.trans ?_ (by assumption))))
    rw [hv] at hr; exact hr
def Tab (w : World) : Prop := Lib.TabIs Tryz.prog w "internal/strconv.uint64pow10" .u64 Lib.pow10Tab
theorem tab_keep {w w' : World} {g : Nat} (hg : Tryz.prog.globalNamed "internal/strconv.uint64pow10" = some g) (h : Tab w) (hk : w'.heap[g]? = w.heap[g]?) : Tab w' := by
  unfold Tab Lib.TabIs World.var? at *
  rw [hg] at h ⊢
  simp only [Option.bind_some] at h ⊢
  rw [hk]; exact h
theorem Tab.ext {w w' : World} (h : Tab w) (hx : Ext w w') : Tab w' := by
  have hv := h
  unfold Tab Lib.TabIs World.var? at hv
  cases hg : Tryz.prog.globalNamed "internal/strconv.uint64pow10" with
  | none => rw [hg] at hv; cases hv
  | some g =>
    rw [hg] at hv
    simp only [Option.bind_some] at hv
    refine tab_keep hg h (hx.block ?_)
    cases hh : w.heap[g]? with
    | none => rw [hh] at hv; cases hv
    | some o => exact (Array.getElem?_eq_some_iff.1 hh).1
theorem itoa_k {n : Int} {w : World} {k : Value → World → Prop} (h0 : 0 ≤ n) (h1 : n ≤ 999) (ht : Tab w) (hk : ∀ w', Ext w w' → k (.string (B (dec n))) w') : callS Tryz.prog 111 [.int .i64 n] w k := by
  have h := Any.strconv_Itoa Tryz.layIt n (by omega) (by omega) w ht
  have e : Lib.itoa n = dec n := by unfold Lib.itoa dec; rw [if_neg (by omega)]
  rw [e] at h
  refine h.mono fun e w' ⟨he, q, os, hw⟩ => ⟨_, he, hk w' ?_⟩
  subst hw
  exact ⟨rfl, rfl, rfl, by show w.heap.size ≤ (w.heap ++ os).size; simp, fun b hb => by
    show (w.heap ++ os)[b]? = w.heap[b]?
    rw [Array.getElem?_append_left hb]⟩
theorem versPrint_se {v : Ver} {w : World} {R : ByteArray → World → Prop} (ht : Tab w) (hR : ∀ w', Ext w w' → R (B (verText v)) w') : SE.vers_Print v.ma v.mi v.pa w R := by
  unfold SE.vers_Print
  refine newS.intro fun _ w1 x1 hb _ _ => ?_
  refine ⟨_, _, _, (by first | exact (BoxAt.at0 (by assumption) (by (repeat (first | assumption | exact Ext.refl _ | refine Ext.trans ?_ (by assumption)))) rfl) | exact (BoxAt.at1 (by assumption) (by (repeat (first | assumption | exact Ext.refl _ | refine Ext.trans ?_ (by assumption)))) rfl)), ?_⟩
  refine SE.vers_May.go (versMay_se (v := v) fun w2 x2 => ⟨_, rfl, fun h => ?_, fun h => bnd.drew fun w3 x3 => ?_⟩)
  · have e : v.may = false := by simpa using h
    have : verText v = [] := by unfold verText; rw [e]; rfl
    have hr := hR w2 (by (repeat (first | assumption | exact Ext.refl _ | refine Ext.trans ?_ (by assumption))))
    rw [this] at hr; exact hr
  · have e : v.may = true := by simpa using h
    have hm := Ver.may_iff.1 e
    have l1 := dec_len hm.1.1 hm.1.2; have l2 := dec_len hm.2.1.1 hm.2.1.2; have l3 := dec_len hm.2.2.1 hm.2.2.2
    have hv : verText v = (((dec v.ma ++ [46]) ++ dec v.mi) ++ [46]) ++ dec v.pa := by unfold verText; rw [e]; rfl
    refine ⟨_, (by first | exact (BoxAt.at0 (by assumption) (by (repeat (first | assumption | exact Ext.refl _ | refine Ext.trans ?_ (by assumption)))) rfl) | exact (BoxAt.at1 (by assumption) (by (repeat (first | assumption | exact Ext.refl _ | refine Ext.trans ?_ (by assumption)))) rfl)), ?_⟩
    refine ⟨_, (by first | exact (BoxAt.at0 (by assumption) (by (repeat (first | assumption | exact Ext.refl _ | refine Ext.trans ?_ (by assumption)))) rfl) | exact (BoxAt.at1 (by assumption) (by (repeat (first | assumption | exact Ext.refl _ | refine Ext.trans ?_ (by assumption)))) rfl)), ?_⟩
    refine ⟨_, (by first | exact (BoxAt.at0 (by assumption) (by (repeat (first | assumption | exact Ext.refl _ | refine Ext.trans ?_ (by assumption)))) rfl) | exact (BoxAt.at1 (by assumption) (by (repeat (first | assumption | exact Ext.refl _ | refine Ext.trans ?_ (by assumption)))) rfl)), ?_⟩
    refine callX.intro (itoa_k hm.1.1 hm.1.2 (ht.ext (by (repeat (first | assumption | exact Ext.refl _ | refine Ext.trans ?_ (by assumption))))) fun w4 x4 => ⟨x4, _, rfl, ?_⟩)
    refine ⟨by rw [B_size, lit_size, maxI_eq]; simp; omega, callX.intro (itoa_k hm.2.1.1 hm.2.1.2 (ht.ext (by (repeat (first | assumption | exact Ext.refl _ | refine Ext.trans ?_ (by assumption))))) fun w5 x5 => ⟨x5, _, rfl, ?_⟩)⟩
    simp only [app_lit, B_app]
    refine ⟨by rw [B_size, B_size, maxI_eq]; simp; omega, by rw [B_size, lit_size, maxI_eq]; simp; omega, itoa_k hm.2.2.1 hm.2.2.2 (ht.ext (by (repeat (first | assumption | exact Ext.refl _ | refine Ext.trans ?_ (by assumption))))) fun w6 x6 => ⟨_, rfl, ?_⟩⟩
    simp only [B_app]
    refine ⟨by rw [B_size, B_size, maxI_eq]; simp; omega, ?_⟩
    have hr := hR w6 (by (repeat (first | assumption | exact Ext.refl _ | refine Ext.trans ?_ (by assumption))))
    rw [hv] at hr; exact hr
end Go.Hal
namespace Go.Hal
open Go Go.RowKit Go.ChangeShapes Go.WideShapes Go.ChangeAt Go.Proofs
theorem own : ownKnob Tryz.prog.godebug = none := by kernel_rfl
def litCells {H : Type} : DataW H → List Value
  | .lit (.int k n) => [.int k n]
  | _ => []
def rowCells {H : Type} : DataW H → List Value
  | .agg l => l.flatMap fun d => match d with
    | .agg m => m.flatMap litCells
    | d => litCells d
  | _ => []
def layAll (P : Program) (l : List (String × DataW Unit)) (h : Array Obj) : Array Obj := l.foldl (fun h x => match P.globalNamed x.1 with
  | some g => h.modify g fun
    | .cells _ t fr => .cells (rowCells x.2).toArray t fr
    | o => o
  | none => h) h
def laidAll : List (String × DataW Unit) := Go.Proofs.YtpdjadmnnadkfaaGreatDoor.Rows.resolveFlatRow.laid
noncomputable def laidWorld (os : Os) : World := { World.holding Tryz.prog os ⟨#[], #[], []⟩ with heap := layAll Tryz.prog laidAll (World.holding Tryz.prog os ⟨#[], #[], []⟩).heap }
set_option maxRecDepth 100000 in
theorem laid_met (os : Os) (args : Array Value) : laidMet Tryz.prog laidAll ((laidWorld os).forCall (fun _ _ => 0) ⟨#[], args, []⟩).memory := laidMet_of_run' 8 (by kernel_rfl) (by kernel_rfl)
set_option maxRecDepth 100000 in
theorem laid_vars (os : Os) (args : Array Value) : ((laidWorld os).forCall (fun _ _ => 0) ⟨#[], args, []⟩).variablesB Tryz.prog = true := by kernel_rfl
set_option maxRecDepth 100000 in
theorem laid_rest (os : Os) (args : Array Value) : (((laidWorld os).forCall (fun _ _ => 0) ⟨#[], args, []⟩).heap.toList.drop Tryz.prog.globals.size).take ((begin Tryz.prog (fun _ _ => 0) default).world.heap.size - Tryz.prog.globals.size) =
    (begin Tryz.prog (fun _ _ => 0) default).world.heap.toList.drop Tryz.prog.globals.size := by kernel_rfl
theorem gPow : ∃ g t, Tryz.prog.globalNamed "internal/strconv.uint64pow10" = some g ∧ (Tryz.prog.globals[g]?).map (·.type) = some t ∧ Tryz.prog.underlying t = some (.array 20 199) ∧ Tryz.prog.cellsOf t = 20 := ⟨3, 250, by kernel_rfl, by kernel_rfl, by kernel_rfl, by kernel_rfl⟩
theorem tab_of {W : World} (h : laidMetH Tryz.prog laidAll W) : Tab W := by
  obtain ⟨g, t, h1, h2, h3, h4⟩ := gPow
  rw [MakeChecks.laidMetH_plain _ _ _ (by kernel_rfl)] at h
  exact Lib.tabIs_of_head h1 h2 h3 Tryz.underlying199 (by kernel_rfl) h4 (laidMet.tail (laidMet.tail h))
end Go.Hal
namespace Go.Hal
open Go Go.RowKit Go.ChangeShapes Go.WideShapes Go.ChangeAt Go.Proofs
theorem and_tt {a b : Bool} (h1 : a = true) (h2 : b = true) : (a && b) = true := by rw [h1, h2]; rfl
theorem agg_list {cs : Array Value} {l : List Value} (h : (Value.agg cs).cells.toList = l) : cs = l.toArray := by
  have : cs.toList = l := h
  rw [← this]
end Go.Hal
namespace Go.Proofs.YtpdjadmnnadkfaaGreatDoor
open Go Go.RowKit Go.ChangeShapes Go.WideShapes Go.ChangeAt Go.Hal
theorem resolveFlat_params : Tryz.f3.params.toList = [30] := by rw [Tryz.params3]
set_option maxHeartbeats 4000000 in
theorem resolveFlat_closed : joinedFacts Tryz.pinned.checked.prog 3 Tryz.f3 (OpenSpec.ofChange Rows.resolveFlatSpec).bare Rows.resolveFlatRow = true := by
  unfold joinedFacts
  repeat' with_reducible refine and_tt ?_ ?_
  all_goals (as_aux_lemma => kernel_rfl)
theorem resolveFlat_plain (f : FuncId) (fn : Func) (hf : Tryz.pinned.checked.prog.funcNamed "halyard/halyardlaw11.ResolveFlat" = some f) (hfn : Tryz.pinned.checked.prog.funcs[f]? = some fn) :
    false = Tryz.pinned.checked.prog.looks [] ∧ ∀ (j : Nat) t, fn.params[j]? = some t → Tryz.pinned.checked.prog.wantsStandIn t = false := by
  obtain rfl : f = 3 := Option.some.inj ((show Tryz.prog.funcNamed "halyard/halyardlaw11.ResolveFlat" = some 3 by kernel_rfl).symm.trans hf) |>.symm
  obtain rfl : fn = Tryz.f3 := (Option.some.inj (Tryz.func3.symm.trans hfn)).symm
  refine ⟨by kernel_rfl, fun j t ht => ?_⟩
  have hm : t ∈ Tryz.f3.params.toList := by rw [← Array.getElem?_toList] at ht; exact List.mem_of_getElem? ht
  have hall : (Tryz.f3.params.toList.all fun t => !Tryz.prog.wantsStandIn t) = true := by kernel_rfl
  have := List.all_eq_true.1 hall t hm
  exact (show Tryz.prog.wantsStandIn t = false by simpa using this)
end Go.Proofs.YtpdjadmnnadkfaaGreatDoor
namespace Go.Proofs.YtpdjadmnnadkfaaGreatDoor
open Go
theorem goes_none {P : Program} (h : P.funcs.any Func.goes = false) (c : OpenClaim) (hs : c.start = .entering) : false = c.goesBy P := by
  have h1 : ∀ g : FuncId, (P.funcs[g]?).any Func.goes = false := fun g => by
    cases hg : P.funcs[g]? with
    | none => rfl
    | some fn =>
      obtain ⟨hl, rfl⟩ := Array.getElem?_eq_some_iff.1 hg
      have := Array.any_eq_false.1 h g hl
      simpa using this
  have h2 : ∀ f, P.goes f = false := fun f => by
    unfold Program.goes
    rw [h, Bool.and_false, Bool.or_false, List.any_eq_false]
    intro g _
    rw [h1]; simp
  unfold OpenClaim.goesBy Program.goesAt Program.goesFrom
  rw [hs]
  cases P.funcNamed c.func with
  | none => rfl
  | some f => simp [h2]
theorem resolveFlat_wf : Rows.resolveFlatRow.wfByText (OpenSpec.ofChange Rows.resolveFlatSpec) = true := by kernel_rfl
theorem resolveFlat_main : Tryz.pinned.checked.prog.mainIs = some (Rows.resolveFlatCard.stood.harness.1, Rows.resolveFlatCard.stood.harness.2.toList) := by kernel_rfl
theorem resolveFlat_goes : false = Rows.resolveFlatRow.goesBy Tryz.pinned.checked.prog := goes_none (by kernel_rfl) _ rfl
end Go.Proofs.YtpdjadmnnadkfaaGreatDoor
namespace Go.Hal
open Go Go.RowKit
theorem bl_nil (x : List UInt8) : Op.bytesLess x [] = false := by cases x <;> rfl
theorem bl_cons (a b : UInt8) (x y : List UInt8) : Op.bytesLess (a :: x) (b :: y) = (decide (a < b) || (a == b && Op.bytesLess x y)) := rfl
theorem bl_irrefl (x : List UInt8) : Op.bytesLess x x = false := by
  induction x with
  | nil => rfl
  | cons a r ih => rw [bl_cons, ih]; simp
theorem bl_trans : ∀ {x y z : List UInt8}, Op.bytesLess x y = true → Op.bytesLess y z = true → Op.bytesLess x z = true
  | _, [], _, h, _ => by rw [bl_nil] at h; cases h
  | _, _ :: _, [], _, h => by rw [bl_nil] at h; cases h
  | [], _ :: _, _ :: _, _, _ => rfl
  | a :: x, b :: y, c :: z, h1, h2 => by
    rw [bl_cons] at h1 h2 ⊢
    simp only [Bool.or_eq_true, decide_eq_true_eq, Bool.and_eq_true, beq_iff_eq] at h1 h2 ⊢
    rcases h1 with h1 | ⟨rfl, h1⟩
    · rcases h2 with h2 | ⟨rfl, h2⟩
      · exact .inl (UInt8.lt_trans h1 h2)
      · exact .inl h1
    · rcases h2 with h2 | ⟨rfl, h2⟩
      · exact .inl h2
      · exact .inr ⟨rfl, bl_trans h1 h2⟩
theorem bl_tri : ∀ {x y : List UInt8}, Op.bytesLess x y = false → Op.bytesLess y x = false → x = y
  | [], [], _, _ => rfl
  | [], _ :: _, h, _ => by cases h
  | _ :: _, [], _, h => by cases h
  | a :: x, b :: y, h1, h2 => by
    rw [bl_cons] at h1 h2
    simp only [Bool.or_eq_false_iff, decide_eq_false_iff_not, Bool.and_eq_false_iff, beq_eq_false_iff_ne] at h1 h2
    have e : a = b := by
      have := UInt8.not_lt.1 h1.1; have := UInt8.not_lt.1 h2.1
      exact UInt8.le_antisymm ‹_› ‹_›
    subst e
    have := bl_tri (x := x) (y := y) (by simpa using h1.2) (by simpa using h2.2)
    rw [this]
theorem bLt_irrefl (x : ByteArray) : bLt x x = false := bl_irrefl _
theorem bLt_trans {x y z : ByteArray} (h : bLt x y = true) (k : bLt y z = true) : bLt x z = true := bl_trans h k
theorem bLt_tri {x y : ByteArray} (h : bLt x y = false) (k : bLt y x = false) : x = y := by
  have := bl_tri h k
  rw [toList_data, toList_data] at this
  exact ba_ext this
theorem bLt_ne {x y : ByteArray} (h : bLt x y = true) : x ≠ y := fun e => by subst e; rw [bLt_irrefl] at h; cases h
theorem bLt_asymm {x y : ByteArray} (h : bLt x y = true) : bLt y x = false := by
  cases k : bLt y x
  · rfl
  · have := bLt_trans h k; rw [bLt_irrefl] at this; cases this
theorem depsGo_lt {l : List Dep} {p : Option ByteArray} (h : depsGo p l = true) : l.Pairwise (fun x y => bLt x.name y.name = true) ∧ (∀ n, p = some n → ∀ x ∈ l, bLt n x.name = true) := by
  induction l generalizing p with
  | nil => exact ⟨.nil, fun _ _ x hx => by cases hx⟩
  | cons y r ih =>
    rw [depsGo] at h
    simp only [Bool.and_eq_true] at h
    obtain ⟨ih1, ih2⟩ := ih h.2
    refine ⟨List.pairwise_cons.2 ⟨fun x hx => ih2 _ rfl x hx, ih1⟩, fun n hn x hx => ?_⟩
    subst hn
    have hy : bLt n y.name = true := h.1.2
    rcases List.mem_cons.1 hx with rfl | hx
    · exact hy
    · exact bLt_trans hy (ih2 _ rfl x hx)
theorem depsMay_nodup {l : List Dep} (h : depsMay l = true) : (l.map (·.name)).Nodup := by
  unfold depsMay at h
  simp only [Bool.and_eq_true] at h
  have := (depsGo_lt h.1).1
  rw [List.Nodup, List.pairwise_map]
  exact this.imp fun h => bLt_ne h
theorem apart2_iff {a b : List Dep} : apart2 a b = true ↔ ∀ x ∈ a.map (·.name), ∀ y ∈ b.map (·.name), x ≠ y := by
  unfold apart2
  rw [Bool.not_eq_true', List.any_eq_false]
  constructor
  · intro h x hx y hy e
    obtain ⟨d, hd, rfl⟩ := List.mem_map.1 hx
    obtain ⟨f, hf, rfl⟩ := List.mem_map.1 hy
    exact h d hd (List.any_eq_true.2 ⟨f, hf, by simpa using e⟩)
  · intro h d hd hany
    obtain ⟨f, hf, he⟩ := List.any_eq_true.1 hany
    exact h _ (List.mem_map_of_mem hd) _ (List.mem_map_of_mem hf) (by simpa using he)
theorem apart3_eq {p : Pack} (h : listsMay p = true) : decide ((p.deps ++ p.peers ++ p.opt).map (·.name)).Nodup = apart3 p := by
  unfold listsMay at h
  simp only [Bool.and_eq_true] at h
  obtain ⟨⟨⟨_, h1⟩, h2⟩, h3⟩ := h
  have n1 := depsMay_nodup h1; have n2 := depsMay_nodup h2; have n3 := depsMay_nodup h3
  unfold apart3
  rw [Bool.eq_iff_iff, decide_eq_true_eq, Bool.and_eq_true, Bool.and_eq_true, apart2_iff, apart2_iff, apart2_iff, List.map_append, List.map_append, List.nodup_append, List.nodup_append]
  constructor
  · rintro ⟨⟨_, _, h12⟩, _, h3⟩
    exact ⟨⟨h12, fun x hx y hy => h3 x (List.mem_append_left _ hx) y hy⟩, fun x hx y hy => h3 x (List.mem_append_right _ hx) y hy⟩
  · rintro ⟨⟨h12, h13⟩, h23⟩
    refine ⟨⟨n1, n2, h12⟩, n3, fun x hx y hy => ?_⟩
    rcases List.mem_append.1 hx with hx | hx
    · exact h13 x hx y hy
    · exact h23 x hx y hy
end Go.Hal
namespace Go.Hal
open Go Go.RowKit Go.Proofs
def overOf (over : List Dep) (name : ByteArray) (r : List Span) : List Span := match over with
  | [] => r
  | d :: l => if d.name = name then d.range else overOf l name r
theorem overOf_hit {l : List Dep} {name : ByteArray} {r : List Span} {i : Nat} {d : Dep} (hi : l[i]? = some d) (hd : d.name = name) (hn : ∀ k < i, ∀ e : Dep, l[k]? = some e → ¬ e.name = name) : overOf l name r = d.range := by
  induction l generalizing i with
  | nil => simp at hi
  | cons a l ih =>
    cases i with
    | zero =>
      simp only [List.getElem?_cons_zero, Option.some.injEq] at hi
      subst hi; rw [overOf, if_pos hd]
    | succ i =>
      rw [overOf, if_neg (hn 0 (by omega) a rfl)]
      exact ih hi fun k hk e he => hn (k + 1) (by omega) e he
theorem overOf_miss {l : List Dep} {name : ByteArray} {r : List Span} (hn : ∀ (k : Nat) (e : Dep), l[k]? = some e → ¬ e.name = name) : overOf l name r = r := by
  induction l with
  | nil => rfl
  | cons a l ih =>
    rw [overOf, if_neg (hn 0 a rfl)]
    exact ih fun k e he => hn (k + 1) e he
theorem SlR.lt {α : Type} {E : Enc α} {w : World} {S : Nat → Prop} {s : Sl} {l : List α} (h : SlR E w S s l) {i : Int} (h0 : 0 ≤ i) (h1 : i < (s.len : Int)) : ∃ x, l[i.toNat]? = some x := by
  rw [h.len] at h1
  exact ⟨_, List.getElem?_eq_getElem (by omega)⟩
theorem refRange_se {S : Nat → Prop} {mD mDev mOpt mOv dR : Sl} {dN : ByteArray} {over : List Dep} {dr : List Span} {w : World} {R : Sl → World → Prop} (hO : SlR depE w S mOv over) (hd : SlR spanE w S dR dr)
    (hR : ∀ t w', Ext w w' → SlR spanE w' S t (overOf over dN dr) → R t w') : SE.halyardref09_Range mD mDev mOpt mOv dN dR w R := by
  unfold SE.halyardref09_Range
  refine newS.intro fun a w1 x1 b1 _ _ => newS.intro fun a1 w2 x2 b2 _ _ => ?_
  have hx := x1.trans x2
  refine ⟨fun i w' => Ext w2 w' ∧ 0 ≤ i ∧ i ≤ over.length ∧ ∀ k < i.toNat, ∀ e : Dep, over[k]? = some e → ¬ e.name = dN, fun i _ => over.length - i.toNat, ⟨Ext.refl _, by omega, by omega, fun k hk => by omega⟩, ?_⟩
  rintro i w3 ⟨x3, h0, h1, h2⟩
  have b1 := (b1.ext x2).ext x3
  have b2 := b2.ext x3
  have x4 := Ext.drew w3
  refine ⟨_, b1.ldc.sub 3 1, fun hlt => ?_, fun hge => ⟨_, b2.ldc.sub 1 1, ?_⟩⟩
  · rintro w4 rfl
    have hO' := hO.ext ((hx.trans x3).trans x4)
    obtain ⟨d, hd'⟩ := hO.lt h0 hlt
    obtain ⟨ad, cs, ha, hS, ⟨hn, s, rfl, hs⟩, hc⟩ := hO'.get hd'
    refine ⟨_, (b1.ext x4).ldc.sub 3 1, ad, ⟨ha, h0, hlt⟩, _, hc.sub 0 1, _, (b2.ext x4).ldc.sub 0 1, fun he => ?_, fun hne => ?_⟩
    · refine ⟨_, (b1.ext x4).ldc.sub 3 1, ad, ⟨ha, h0, hlt⟩, _, hc.sub 1 1, hR _ _ ((hx.trans x3).trans x4) ?_⟩
      rw [overOf_hit hd' he h2]; exact hs
    · have hl := hO.len
      have hcap := hO.2.2.1
      have hlc := hO.2.1
      rw [wrapI_add1 h0 hlt (by omega)]
      refine ⟨⟨x3.trans x4, by omega, by omega, fun k hk e he => ?_⟩, by show over.length - (i + 1).toNat < over.length - i.toNat; omega⟩
      by_cases hki : k = i.toNat
      · subst hki; rw [hd'] at he; cases he; exact hne
      · exact h2 k (by omega) e he
  · refine hR _ _ (hx.trans x3) ?_
    rw [overOf_miss]
    · exact hd.ext (hx.trans x3)
    · intro k e he
      have hk := (List.getElem?_eq_some_iff.1 he).1
      have := hO.len
      exact h2 k (by omega) e he
end Go.Hal
namespace Go.Hal
open Go Go.RowKit Go.Proofs
theorem apDep : ApT Tryz.prog 23 63 2 40 := apT_mk (z := .agg #[.string ⟨#[]⟩, .slice none 0 0]) (by kernel_rfl) (by kernel_rfl) rfl (by decide)
def peersOf (over : List Dep) (l : List Dep) : List Dep := l.map fun d => ⟨d.name, overOf over d.name d.range⟩
end Go.Hal
namespace Go.Hal
theorem cmpS_lt {a b : ByteArray} : cmpS a b < 0 ↔ bLt a b = true := by
  unfold cmpS
  split
  · rename_i h; simp [h]
  · rename_i h
    split <;> simp [h]
theorem cmpS_zero {a b : ByteArray} : cmpS a b = 0 ↔ a = b := by
  unfold cmpS
  split
  · rename_i h; have := bLt_ne h; simp [this]
  · split
    · rename_i h; simp [bEq_iff.1 h]
    · rename_i h
      have : ¬ a = b := fun e => h (bEq_iff.2 e)
      simp [this]
theorem cmpS_le {a b : ByteArray} : cmpS a b ≤ 0 ↔ bLt b a = false := by
  constructor
  · intro h
    rcases Int.lt_or_eq_of_le h with h | h
    · exact bLt_asymm (cmpS_lt.1 h)
    · rw [cmpS_zero.1 h, bLt_irrefl]
  · intro h
    cases h1 : bLt a b
    · have := bLt_tri h1 h
      subst this
      rw [cmpS_zero.2 rfl]; omega
    · have := cmpS_lt.2 h1; omega
theorem cmpS_ord {α : Type} (f : α → ByteArray) : Ord3 (fun a b : α => cmpS (f a) (f b)) where
  flip := fun x y => by
    have h1 := @cmpS_le (f y) (f x)
    rw [cmpS_lt]
    cases h : bLt (f x) (f y)
    · have := h1.2 h
      simp; omega
    · rw [h] at h1
      simp at h1 ⊢
      omega
  trans := fun x y z h1 h2 => by
    rw [cmpS_le] at h1 h2 ⊢
    cases h : bLt (f z) (f x)
    · rfl
    · exfalso
      cases h3 : bLt (f y) (f z)
      · have := bLt_tri h3 h2
        rw [this] at h1
        rw [h1] at h; cases h
      · have := bLt_trans h3 h
        rw [this] at h1; cases h1
theorem bLt_of {a b : ByteArray} (h : cmpS a b ≤ 0) (hne : a ≠ b) : bLt a b = true := by
  cases h1 : bLt a b
  · exact absurd (bLt_tri h1 (cmpS_le.1 h)) hne
  · rfl
def sortN (l : List Pin) : List Pin := stSort (fun a b => cmpS a.name b.name) l
def Rises (l : List Pin) : Prop := l.Pairwise fun a b => bLt a.name b.name = true
theorem sortN_perm (l : List Pin) : (sortN l).Perm l := stSort_perm l
theorem sortN_rises {l : List Pin} (h : (l.map (·.name)).Nodup) : Rises (sortN l) := by
  have h1 := stSort_sorted' (cmpS_ord (α := Pin) (·.name)) l
  have h2 : ((sortN l).map (·.name)).Nodup := ((sortN_perm l).map _).nodup_iff.2 h
  rw [List.nodup_iff_pairwise_ne, List.pairwise_map] at h2
  exact (h1.and h2).imp fun h => bLt_of h.1 h.2
theorem Rises.one {l m : List Pin} (h1 : Rises l) (h2 : Rises m) (hp : l.Perm m) : l = m :=
  sorted_one (R := fun a b : Pin => bLt a.name b.name = true) (fun x y h1 h2 => by rw [bLt_asymm h1] at h2; cases h2) h1 h2 hp
theorem Rises.nodup {l : List Pin} (h : Rises l) : (l.map (·.name)).Nodup := by
  rw [List.nodup_iff_pairwise_ne, List.pairwise_map]
  exact h.imp fun h => bLt_ne h
def isN (n : ByteArray) (q : Pin) : Bool := decide (q.name = n)
def tells (env : List Pin) (n : ByteArray) : Option Ver := (env.find? (isN n)).map (·.v)
theorem tells_mem {env : List Pin} {n : ByteArray} {v : Ver} (h : tells env n = some v) : ⟨n, v⟩ ∈ env := by
  unfold tells at h
  cases hf : env.find? (isN n) with
  | none => rw [hf] at h; cases h
  | some q =>
    rw [hf] at h
    simp only [Option.map_some, Option.some.injEq] at h
    have h1 := List.find?_some hf
    simp only [isN, decide_eq_true_eq] at h1
    have h2 := List.mem_of_find?_eq_some hf
    obtain ⟨a, b⟩ := q
    simp only at h h1
    subst h; subst h1; exact h2
theorem tells_none {l : List Pin} {n : ByteArray} (h : tells l n = none) : ∀ q ∈ l, q.name ≠ n := by
  unfold tells at h
  simp only [Option.map_eq_none_iff] at h
  intro q hq
  simpa [isN] using List.find?_eq_none.1 h q hq
section
variable (get : ByteArray → Ver → Option Pack) (over : List Dep) (env : List Pin)
def ctxStep : List Dep → List Pin → Option (List Pin)
  | [], out => some out
  | d :: l, out => match tells env d.name with
    | none => none
    | some v => if spansIn d.range v then ctxStep l (if out.any (isN d.name) then out else out ++ [⟨d.name, v⟩]) else none
def ctxGo (p : Pin) : Nat → Nat → List Pin → Option (List Pin)
  | 0, _, _ => none
  | f + 1, i, out => match (p :: out)[i]? with
    | none => some out
    | some q => match get q.name q.v with
      | none => none
      | some x => match ctxStep env (peersOf over x.peers) out with
        | none => none
        | some out' => ctxGo p f (i + 1) out'
def ctx (p : Pin) : Option (List Pin) := (ctxGo get over env p (env.length + 2) 0 []).map sortN
def Stands (q : Pin) : Prop := ∃ x, get q.name q.v = some x ∧ ∀ d ∈ peersOf over x.peers, ∃ v, tells env d.name = some v ∧ spansIn d.range v = true
def Asks (q r : Pin) : Prop := ∃ x d, get q.name q.v = some x ∧ d ∈ peersOf over x.peers ∧ r.name = d.name ∧ tells env d.name = some r.v
inductive Reach (p : Pin) : Pin → Prop
  | one {r : Pin} : Asks get over env p r → Reach p r
  | more {q r : Pin} : Reach p q → Asks get over env q r → Reach p r
structure CtxI (p : Pin) (i : Nat) (out : List Pin) : Prop where
  names : (out.map (·.name)).Nodup
  told : ∀ r ∈ out, tells env r.name = some r.v
  reach : ∀ r ∈ out, Reach get over env p r
  le : i ≤ out.length + 1
  stands : ∀ (k : Nat) q, k < i → (p :: out)[k]? = some q → Stands get over env q
  asks : ∀ (k : Nat) q, k < i → (p :: out)[k]? = some q → ∀ r, Asks get over env q r → r ∈ out
end
section
variable {get : ByteArray → Ver → Option Pack} {over : List Dep} {env : List Pin} {p : Pin}
theorem ctxStep_some {out0 : List Pin} : ∀ {l : List Dep} {out out' : List Pin}, ctxStep env l out = some out' → (out.map (·.name)).Nodup → (∀ r ∈ out, tells env r.name = some r.v) →
    (out'.map (·.name)).Nodup ∧ (∀ r ∈ out', tells env r.name = some r.v) ∧ (∃ t, out' = out ++ t) ∧ (∀ d ∈ l, ∃ v, tells env d.name = some v ∧ spansIn d.range v = true ∧ (⟨d.name, v⟩ : Pin) ∈ out') ∧ ∀ r ∈ out', r ∈ out ∨ ∃ d ∈ l, r.name = d.name
  | [], out, out', h, hn, ht => by
    simp only [ctxStep, Option.some.injEq] at h
    subst h
    exact ⟨hn, ht, ⟨[], by simp⟩, (fun d h => by cases h), fun r h => .inl h⟩
  | d :: l, out, out', h, hn, ht => by
    unfold ctxStep at h
    cases hv : tells env d.name with
    | none => rw [hv] at h; cases h
    | some v =>
      rw [hv] at h
      simp only at h
      split at h
      · rename_i hin
        have key : (((if out.any (isN d.name) then out else out ++ [⟨d.name, v⟩]) : List Pin).map (·.name)).Nodup ∧ (∀ r ∈ (if out.any (isN d.name) then out else out ++ [⟨d.name, v⟩] : List Pin), tells env r.name = some r.v) ∧ (∃ t, (if out.any (isN d.name) then out else out ++ [⟨d.name, v⟩] : List Pin) = out ++ t) ∧ (⟨d.name, v⟩ : Pin) ∈ (if out.any (isN d.name) then out else out ++ [⟨d.name, v⟩] : List Pin) ∧ ∀ r ∈ (if out.any (isN d.name) then out else out ++ [⟨d.name, v⟩] : List Pin), r ∈ out ∨ r.name = d.name := by
          split
          · rename_i ha
            obtain ⟨q, hq, he⟩ := List.any_eq_true.1 ha
            simp only [isN, decide_eq_true_eq] at he
            have h1 := ht q hq
            rw [he, hv, Option.some.injEq] at h1
            refine ⟨hn, ht, ⟨[], by simp⟩, ?_, fun r h => .inl h⟩
            obtain ⟨a, b⟩ := q
            simp only at he h1
            subst he; subst h1; exact hq
          · rename_i ha
            have ha' : ∀ q ∈ out, q.name ≠ d.name := by simpa [isN] using ha
            refine ⟨?_, ?_, ⟨_, rfl⟩, by simp, ?_⟩
            · rw [List.map_append, List.nodup_append]
              refine ⟨hn, by simp, fun a h1 b h2 => ?_⟩
              obtain ⟨q, hq, rfl⟩ := List.mem_map.1 h1
              simp at h2; subst h2
              exact ha' q hq
            · intro r hr
              rcases List.mem_append.1 hr with hr | hr
              · exact ht r hr
              · simp at hr; subst hr; exact hv
            · intro r hr
              rcases List.mem_append.1 hr with hr | hr
              · exact .inl hr
              · simp at hr; subst hr; exact .inr rfl
        obtain ⟨k1, k2, ⟨t, k3⟩, k4, k5⟩ := key
        obtain ⟨r1, r2, ⟨t', r3⟩, r4, r5⟩ := ctxStep_some (out0 := out0) h k1 k2
        refine ⟨r1, r2, ⟨t ++ t', by rw [r3, k3, List.append_assoc]⟩, fun e he => ?_, fun r hr => ?_⟩
        · rcases List.mem_cons.1 he with rfl | he
          · exact ⟨v, hv, hin, by rw [r3]; exact List.mem_append_left _ k4⟩
          · exact r4 e he
        · rcases r5 r hr with h1 | ⟨e, he, h1⟩
          · rcases k5 r h1 with h2 | h2
            · exact .inl h2
            · exact .inr ⟨d, .head _, h2⟩
          · exact .inr ⟨e, .tail _ he, h1⟩
      · cases h
theorem nodup_le {α : Type} : ∀ {l m : List α}, l.Nodup → (∀ x ∈ l, x ∈ m) → l.length ≤ m.length
  | [], _, _, _ => Nat.zero_le _
  | a :: r, m, hn, hs => by
    obtain ⟨h1, h2⟩ := List.nodup_cons.1 hn
    obtain ⟨s, t, rfl⟩ := List.append_of_mem (hs a (.head _))
    have := nodup_le (l := r) (m := s ++ t) h2 fun x hx => by
      rcases List.mem_append.1 (hs x (.tail _ hx)) with h | h
      · exact List.mem_append_left _ h
      · rcases List.mem_cons.1 h with rfl | h
        · exact absurd hx h1
        · exact List.mem_append_right _ h
    simp only [List.length_append, List.length_cons] at this ⊢; omega
theorem names_le {out : List Pin} (hn : (out.map (·.name)).Nodup) (ht : ∀ r ∈ out, tells env r.name = some r.v) : out.length ≤ env.length := by
  have := nodup_le (m := env.map (·.name)) hn fun n h => by
    obtain ⟨r, hr, rfl⟩ := List.mem_map.1 h
    have := tells_mem (ht r hr)
    exact List.mem_map_of_mem (f := (·.name)) this
  simpa using this
theorem CtxI.zero : CtxI get over env p 0 [] := ⟨by simp, by simp, by simp, by simp, fun k q h => by omega, fun k q h => by omega⟩
theorem CtxI.next {i : Nat} {out out' : List Pin} {q : Pin} {x : Pack} (h : CtxI get over env p i out) (hq : (p :: out)[i]? = some q) (hx : get q.name q.v = some x) (hs : ctxStep env (peersOf over x.peers) out = some out') : CtxI get over env p (i + 1) out' := by
  obtain ⟨r1, r2, ⟨t, rfl⟩, r4, r5⟩ := ctxStep_some (out0 := []) hs h.names h.told
  have hil : i < out.length + 1 := by have := (List.getElem?_eq_some_iff.1 hq).1; simpa using this
  have hold : ∀ k q', k < i + 1 → (p :: (out ++ t))[k]? = some q' → (p :: out)[k]? = some q' := fun k q' hk h => by
    rw [← List.cons_append, List.getElem?_append_left (by simp; omega)] at h; exact h
  have hst : Stands get over env q := ⟨x, hx, fun d hd => let ⟨v, a, b, _⟩ := r4 d hd; ⟨v, a, b⟩⟩
  have has : ∀ r, Asks get over env q r → r ∈ out ++ t := fun r ⟨y, d, hy, hd, hr, hv⟩ => by
    rw [hx, Option.some.injEq] at hy
    subst hy
    obtain ⟨v, a, _, b⟩ := r4 d hd
    rw [hv, Option.some.injEq] at a
    obtain ⟨n, u⟩ := r
    simp only at hr a; subst hr; subst a; exact b
  have hrq : q = p ∨ Reach get over env p q := by
    cases i with
    | zero => simp at hq; exact .inl hq.symm
    | succ j => exact .inr (h.reach q (by rw [List.getElem?_cons_succ] at hq; exact List.mem_of_getElem? hq))
  refine ⟨r1, r2, fun r hr => ?_, by simp; omega, fun k q' hk hq' => ?_, fun k q' hk hq' r ha => ?_⟩
  · rcases r5 r hr with hr | ⟨d, hd, hn⟩
    · exact h.reach r hr
    · have ha : Asks get over env q r := ⟨x, d, hx, hd, hn, by rw [← hn]; exact r2 r hr⟩
      rcases hrq with rfl | hrq
      · exact .one ha
      · exact .more hrq ha
  · rcases Nat.lt_succ_iff_lt_or_eq.1 hk with hk' | rfl
    · exact h.stands k q' hk' (hold k q' hk hq')
    · have := hold k q' hk hq'
      rw [hq, Option.some.injEq] at this
      subst this; exact hst
  · rcases Nat.lt_succ_iff_lt_or_eq.1 hk with hk' | rfl
    · exact List.mem_append_left _ (h.asks k q' hk' (hold k q' hk hq') r ha)
    · have := hold k q' hk hq'
      rw [hq, Option.some.injEq] at this
      subst this; exact has r ha
theorem CtxI.len {i : Nat} {out : List Pin} (h : CtxI get over env p i out) : out.length ≤ env.length := names_le h.names h.told
theorem ctxGo_some : ∀ (f i : Nat) (out a : List Pin), CtxI get over env p i out → ctxGo get over env p f i out = some a → CtxI get over env p (a.length + 1) a
  | 0, _, _, _, _, h => by cases h
  | f + 1, i, out, a, hI, h => by
    unfold ctxGo at h
    cases hq : (p :: out)[i]? with
    | none =>
      rw [hq] at h
      simp only [Option.some.injEq] at h
      subst h
      have : i = out.length + 1 := by
        have h1 := List.getElem?_eq_none_iff.1 hq
        have h2 := hI.le
        simp at h1; omega
      rw [← this]; exact hI
    | some q =>
      rw [hq] at h
      simp only at h
      cases hx : get q.name q.v with
      | none => rw [hx] at h; cases h
      | some x =>
        rw [hx] at h
        simp only at h
        cases hs : ctxStep env (peersOf over x.peers) out with
        | none => rw [hs] at h; cases h
        | some out' =>
          rw [hs] at h
          exact ctxGo_some f (i + 1) out' a (hI.next hq hx hs) h
theorem ctxGo_none {f i : Nat} {out : List Pin} {q : Pin} (hq : (p :: out)[i]? = some q) (hg : get q.name q.v = none) : ctxGo get over env p (f + 1) i out = none := by
  rw [ctxGo, hq]; simp only [hg]
theorem ctxGo_fail {f i : Nat} {out : List Pin} {q : Pin} {y : Pack} (hq : (p :: out)[i]? = some q) (hg : get q.name q.v = some y) (hs : ctxStep env (peersOf over y.peers) out = none) : ctxGo get over env p (f + 1) i out = none := by
  rw [ctxGo, hq]; simp only [hg, hs]
theorem ctxGo_next {f i : Nat} {out out' : List Pin} {q : Pin} {y : Pack} (hq : (p :: out)[i]? = some q) (hg : get q.name q.v = some y) (hs : ctxStep env (peersOf over y.peers) out = some out') : ctxGo get over env p (f + 1) i out = ctxGo get over env p f (i + 1) out' := by
  rw [ctxGo, hq]; simp only [hg, hs]
theorem ctxGo_end {f i : Nat} {out : List Pin} (hq : (p :: out)[i]? = none) : ctxGo get over env p (f + 1) i out = some out := by
  rw [ctxGo, hq]
theorem ctxStep_none {d : Dep} {l : List Dep} {out : List Pin} (h : tells env d.name = none) : ctxStep env (d :: l) out = none := by
  rw [ctxStep, h]
theorem ctxStep_no {d : Dep} {l : List Dep} {out : List Pin} {v : Ver} (h : tells env d.name = some v) (hin : spansIn d.range v = false) : ctxStep env (d :: l) out = none := by
  rw [ctxStep, h]; simp [hin]
theorem ctxStep_old {d : Dep} {l : List Dep} {out : List Pin} {v : Ver} (h : tells env d.name = some v) (hin : spansIn d.range v = true) (ho : out.any (isN d.name) = true) : ctxStep env (d :: l) out = ctxStep env l out := by
  rw [ctxStep, h]; simp [hin, ho]
theorem ctxStep_new {d : Dep} {l : List Dep} {out : List Pin} {v : Ver} (h : tells env d.name = some v) (hin : spansIn d.range v = true) (ho : out.any (isN d.name) = false) : ctxStep env (d :: l) out = ctxStep env l (out ++ [⟨d.name, v⟩]) := by
  rw [ctxStep, h]; simp only [hin, ho, if_true, Bool.false_eq_true, if_false]
theorem ctx_some {a : List Pin} (h : ctx get over env p = some a) : Rises a ∧ (∀ r, r ∈ a ↔ Reach get over env p r) ∧ (∀ q, (q = p ∨ q ∈ a) → Stands get over env q) ∧ ∀ r ∈ a, tells env r.name = some r.v := by
  unfold ctx at h
  cases hg : ctxGo get over env p (env.length + 2) 0 [] with
  | none => rw [hg] at h; cases h
  | some b =>
    rw [hg] at h
    simp only [Option.map_some, Option.some.injEq] at h
    subst h
    have hI := ctxGo_some _ _ _ _ CtxI.zero hg
    have hm : ∀ r, r ∈ sortN b ↔ r ∈ b := fun r => (sortN_perm b).mem_iff
    have hidx : ∀ q, (q = p ∨ q ∈ b) → ∃ k, k < b.length + 1 ∧ (p :: b)[k]? = some q := fun q hq => by
      rcases hq with rfl | hq
      · exact ⟨0, by omega, rfl⟩
      · obtain ⟨k, hk, he⟩ := List.mem_iff_getElem.1 hq
        exact ⟨k + 1, by omega, by rw [List.getElem?_cons_succ, List.getElem?_eq_getElem hk, he]⟩
    refine ⟨sortN_rises hI.names, fun r => ⟨fun hr => hI.reach r ((hm r).1 hr), fun hr => (hm r).2 ?_⟩, fun q hq => ?_, fun r hr => hI.told r ((hm r).1 hr)⟩
    · have key : ∀ r, Reach get over env p r → r ∈ b := fun r hr => by
        induction hr with
        | one ha => obtain ⟨k, hk, he⟩ := hidx p (.inl rfl); exact hI.asks k _ hk he _ ha
        | more _ ha ih => obtain ⟨k, hk, he⟩ := hidx _ (.inr ih); exact hI.asks k _ hk he _ ha
      exact key r hr
    · obtain ⟨k, hk, he⟩ := hidx q (hq.imp id (hm q).1)
      exact hI.stands k q hk he
end
end Go.Hal
namespace Go.Hal
section
variable {α : Type} {c : α → α → Int}
def placeL (c : α → α → Int) (x : α) : List α → List α
  | [] => [x]
  | y :: m => if c x y < 0 then x :: y :: m else y :: placeL c x m
theorem place_ins (h : Ord3 c) (a x : α) (m : List α) : placeL c x (stIns c a m) = stIns c a (placeL c x m) := by
  have f1 := h.flip x a; have f2 := h.flip a x
  induction m with
  | nil =>
    simp only [stIns, placeL]
    by_cases h1 : c x a < 0
    · rw [if_pos h1, if_neg (by omega)]
    · rw [if_neg h1, if_pos (by omega)]
  | cons y r ih =>
    have f3 := h.flip x y; have f4 := h.flip a y; have f5 := h.flip y a
    by_cases h1 : c a y ≤ 0
    · have e1 : stIns c a (y :: r) = a :: y :: r := by rw [stIns, if_pos h1]
      rw [e1]
      by_cases h2 : c x a < 0
      · have h3 : c x y < 0 := h.lt_of h2 h1
        have e2 : placeL c x (y :: r) = x :: y :: r := by rw [placeL, if_pos h3]
        rw [e2, placeL, if_pos h2, stIns, if_neg (by omega), e1]
      · rw [placeL, if_neg h2]
        by_cases h3 : c x y < 0
        · have e2 : placeL c x (y :: r) = x :: y :: r := by rw [placeL, if_pos h3]
          rw [e2, stIns, if_pos (by omega)]
        · have e2 : placeL c x (y :: r) = y :: placeL c x r := by rw [placeL, if_neg h3]
          rw [e2, stIns, if_pos h1]
    · have e1 : stIns c a (y :: r) = y :: stIns c a r := by rw [stIns, if_neg h1]
      rw [e1]
      by_cases h3 : c x y < 0
      · have e2 : placeL c x (y :: r) = x :: y :: r := by rw [placeL, if_pos h3]
        have h4 : c x a < 0 := h.lt_of h3 (by omega)
        rw [e2, placeL, if_pos h3, stIns, if_neg (by omega), e1]
      · have e2 : placeL c x (y :: r) = y :: placeL c x r := by rw [placeL, if_neg h3]
        rw [e2, placeL, if_neg h3, ih, stIns, if_neg h1]
theorem stSort_snoc (h : Ord3 c) (l : List α) (x : α) : stSort c (l ++ [x]) = placeL c x (stSort c l) := by
  induction l with
  | nil => rfl
  | cons a l ih => rw [List.cons_append, stSort, ih, stSort, place_ins h]
theorem place_split {x : α} {A B : List α} (hA : ∀ y ∈ A, ¬ c x y < 0) (hB : ∀ y ∈ B, c x y < 0) : placeL c x (A ++ B) = A ++ x :: B := by
  induction A with
  | nil =>
    cases B with
    | nil => rfl
    | cons y r => rw [List.nil_append, placeL, if_pos (hB y (.head _))]; rfl
  | cons a A ih => rw [List.cons_append, placeL, if_neg (hA a (.head _)), ih fun y hy => hA y (.tail _ hy)]; rfl
end
end Go.Hal
namespace Go.Hal
open Go Go.RowKit Go.Proofs
theorem r03rank_se {v : Ver} {w : World} {R : Int → World → Prop} (hR : ∀ w', Ext w w' → R v.rank w') : SE.halyardref03_rank v.ma v.mi v.pa w R := by
  unfold SE.halyardref03_rank
  refine newS.intro fun _ _ _ hb _ _ => ?_
  refine ⟨_, _, _, (by first | exact (BoxAt.at0 (by assumption) (by (repeat (first | assumption | exact Ext.refl _ | refine Ext.trans ?_ (by assumption)))) rfl) | exact (BoxAt.at1 (by assumption) (by (repeat (first | assumption | exact Ext.refl _ | refine Ext.trans ?_ (by assumption)))) rfl)), ?_⟩
  exact SE.halyardref02_Rank.go (r02Rank_se fun w' hx => ⟨_, _, rfl, hR _ (by (repeat (first | assumption | exact Ext.refl _ | refine Ext.trans ?_ (by assumption))))⟩)
def spanOk (x : Span) : Bool := x.lo.may && x.hi.may && decide (x.lo.rank ≤ x.hi.rank)
def spansSt : Int → List Span → Int
  | m, [] => m
  | _, y :: r => spansSt (y.hi.rank + 2) r
theorem spansGo_snoc (l : List Span) : ∀ (m : Int) (x : Span), spansGo m (l ++ [x]) = (spansGo m l && (spanOk x && decide (spansSt m l ≤ x.lo.rank))) := by
  induction l with
  | nil => intro m x; simp only [List.nil_append, spansGo, spanOk, spansSt]; cases x.lo.may <;> cases x.hi.may <;> by_cases h1 : m ≤ x.lo.rank <;> by_cases h2 : x.lo.rank ≤ x.hi.rank <;> simp [h1, h2]
  | cons y r ih =>
    intro m x
    rw [List.cons_append, spansGo, spansGo, ih]
    exact (Bool.and_assoc ..).symm
theorem spansSt_snoc (l : List Span) : ∀ (m : Int) (x : Span), spansSt m (l ++ [x]) = x.hi.rank + 2 := by
  induction l with
  | nil => intro m x; rfl
  | cons y r ih => intro m x; exact ih _ x
theorem spansGo_app {l k : List Span} {m : Int} (h : spansGo m (l ++ k) = true) : spansGo m l = true := by
  induction l generalizing m with
  | nil => rfl
  | cons y r ih =>
    rw [List.cons_append, spansGo] at h
    rw [spansGo]
    simp only [Bool.and_eq_true] at h ⊢
    exact ⟨h.1, ih h.2⟩
theorem spansMay_false {l : List Span} {i : Nat} (h : spansGo 0 (l.take i) = false) : spansMay l = false := by
  unfold spansMay
  cases hg : spansGo 0 l
  · simp
  · rw [← List.take_append_drop i l] at hg
    rw [spansGo_app hg] at h; cases h
theorem spans_step {l : List Span} {n : Nat} (hn : n < l.length) (hI : spansGo 0 (l.take n) = true) : spansGo 0 (l.take (n + 1)) = (spanOk l[n] && decide (spansSt 0 (l.take n) ≤ l[n].lo.rank)) := by
  rw [List.take_succ_eq_append_getElem hn, spansGo_snoc, hI, Bool.true_and]
theorem spansMay_of {l : List Span} (h1 : l.length ≤ 64) (h2 : spansGo 0 l = true) : spansMay l = true := by simp [spansMay, h1, h2]
theorem spanMay_se {s : Sl} {l : List Span} {S : Nat → Prop} {w : World} {R : Bool → World → Prop} (hs : SlR spanE w S s l) (hR : ∀ w', Ext w w' → R (spansMay l) w') : SE.span_May s w R := by
  unfold SE.span_May
  have hl := hs.len
  refine ⟨fun h => ?_, fun h => ?_⟩
  · have : spansMay l = false := by unfold spansMay; rw [decide_eq_false (by omega)]; rfl
    rw [← this]; exact hR _ (Ext.refl _)
  have h64 : l.length ≤ 64 := by omega
  refine loop2.up hs.max (fun m i w' => Ext w w' ∧ m = spansSt 0 (l.take i) ∧ spansGo 0 (l.take i) = true) ⟨Ext.refl _, rfl, rfl⟩ fun m i w1 nxt hi ⟨x1, hm, hI⟩ hn => ⟨fun hlt => ?_, fun hge => ?_⟩
  · have hlt' : i < l.length := by omega
    obtain ⟨ad, ha, _, hc⟩ := spanEl hs hlt'
    have hst := spans_step hlt' hI
    refine ⟨ad, ⟨ha, by omega, hlt⟩, _, _, _, _, _, _, hc _ (by (repeat (first | assumption | exact Ext.refl _ | refine Ext.trans ?_ (by assumption)))), newS.intro fun a w2 x2 hb hba _ => stw0.intro hb (by simp) fun w3 b3 _ hb3 => ?_⟩
    have x3 : Ext w1 w3 := b3.ext x2 (by omega)
    refine ⟨_, _, _, hb3.at0 (Ext.refl _) rfl, SE.vers_Rank.go (versRank_se (v := l[i].lo) fun w4 x4 => ⟨_, _, rfl, ?_⟩)⟩
    refine ⟨_, _, _, hb3.at1 (by (repeat (first | assumption | exact Ext.refl _ | refine Ext.trans ?_ (by assumption)))) rfl, SE.vers_Rank.go (versRank_se (v := l[i].hi) fun w5 x5 => ⟨_, _, rfl, bound (bound (bound ?_))⟩)⟩
    have e : ((((!l[i].lo.may) || (!l[i].hi.may)) || decide (l[i].lo.rank < m)) || decide (l[i].hi.rank < l[i].lo.rank)) = !spansGo 0 (l.take (i + 1)) := by
      rw [hst, hm, spanOk]
      have e1 : decide (l[i].lo.rank < spansSt 0 (l.take i)) = !decide (spansSt 0 (l.take i) ≤ l[i].lo.rank) := by rw [← decide_not, decide_eq_decide]; omega
      have e2 : decide (l[i].hi.rank < l[i].lo.rank) = !decide (l[i].lo.rank ≤ l[i].hi.rank) := by rw [← decide_not, decide_eq_decide]; omega
      rw [e1, e2]
      cases l[i].lo.may <;> cases l[i].hi.may <;> cases decide (spansSt 0 (l.take i) ≤ l[i].lo.rank) <;> cases decide (l[i].lo.rank ≤ l[i].hi.rank) <;> rfl
    rw [e]
    have hr := Ver.rank_le (v := l[i].hi)
    rw [wrapI_eq (x := l[i].hi.rank + 2) (by omega) (by omega)]
    refine ⟨fun h => ?_, fun h => hn hlt' _ _ ⟨by (repeat (first | assumption | exact Ext.refl _ | refine Ext.trans ?_ (by assumption))), ?_, by simpa using h⟩⟩
    · rw [← spansMay_false (i := i + 1) (by simpa using h)]; exact hR _ (by (repeat (first | assumption | exact Ext.refl _ | refine Ext.trans ?_ (by assumption))))
    · rw [List.take_succ_eq_append_getElem hlt', spansSt_snoc]
  · have : i = l.length := by omega
    rw [this, List.take_length] at hI
    rw [← spansMay_of h64 hI]; exact hR _ (by (repeat (first | assumption | exact Ext.refl _ | refine Ext.trans ?_ (by assumption))))
theorem spanOf_last {l : List Span} {n : Nat} (hn : n + 1 < l.length) : spansSt 0 (l.take (n + 1)) = l[n].hi.rank + 2 := by
  rw [List.take_succ_eq_append_getElem (by omega), spansSt_snoc]
theorem r03May_se {s : Sl} {l : List Span} {S : Nat → Prop} {w : World} {R : Bool → World → Prop} (hs : SlR spanE w S s l) (hR : ∀ w', Ext w w' → R (spansMay l) w') : SE.halyardref03_May s w R := by
  unfold SE.halyardref03_May
  have hl := hs.len
  refine ⟨fun h => ?_, fun h => ?_⟩
  · have : spansMay l = false := by unfold spansMay; rw [decide_eq_false (by omega)]; rfl
    rw [← this]; exact hR _ (Ext.refl _)
  have h64 : l.length ≤ 64 := by omega
  refine loop1.up hs.max (fun i w' => Ext w w' ∧ spansGo 0 (l.take i) = true) ⟨Ext.refl _, rfl⟩ fun i w1 nxt hi ⟨x1, hI⟩ hn => ⟨fun hlt => bnd.drew fun w2 x2 => ?_, fun hge => ?_⟩
  · have hlt' : i < l.length := by omega
    obtain ⟨ad, ha, _, hc⟩ := spanEl hs hlt'
    have hst := spans_step hlt' hI
    have had : s.a = some ad ∧ (0 : Int) ≤ (i : Int) ∧ (i : Int) < (s.len : Int) := ⟨ha, by omega, hlt⟩
    refine ⟨ad, had, _, _, _, (hc _ (by (repeat (first | assumption | exact Ext.refl _ | refine Ext.trans ?_ (by assumption))))).pre rfl, SE.halyardref02_May.go (r02May_se fun w3 x3 => ⟨_, rfl, bound ?_⟩)⟩
    refine ⟨ad, fun _ => had, _, _, _, fun _ => (hc _ (by (repeat (first | assumption | exact Ext.refl _ | refine Ext.trans ?_ (by assumption))))).mid rfl, gCall.intro l[i].hi.may (fun _ q hq => SE.halyardref02_May.go (r02May_se fun w' hx => ⟨_, rfl, hq _ hx⟩)) fun t w4 x4 ht => bound ?_⟩
    refine ⟨ad, fun _ => had, _, _, _, fun _ => (hc _ (by (repeat (first | assumption | exact Ext.refl _ | refine Ext.trans ?_ (by assumption))))).pre rfl, ad, fun _ => had, _, _, _, fun _ => (hc _ (by (repeat (first | assumption | exact Ext.refl _ | refine Ext.trans ?_ (by assumption))))).mid rfl, ?_⟩
    refine gCall.intro l[i].lo.rank (fun _ q hq => callX.intro (SE.halyardref03_rank.go (r03rank_se fun w' hx => ⟨hx, _, rfl, hq _ hx⟩))) fun t2 w5 x5 ht2 => ?_
    refine gCall.intro l[i].hi.rank (fun _ q hq => SE.halyardref03_rank.go (r03rank_se fun w' hx => ⟨_, rfl, hq _ hx⟩)) fun t3 w6 x6 ht3 => ?_
    have e : (((!l[i].lo.may) || (!t)) || decide (t3 < t2)) = !spanOk l[i] := by
      unfold spanOk
      cases h1 : l[i].lo.may
      · rfl
      · rw [h1] at ht ht2 ht3
        rw [ht rfl]
        rw [ht rfl] at ht2 ht3
        cases h2 : l[i].hi.may
        · rfl
        · rw [h2] at ht2 ht3
          rw [ht2 rfl, ht3 rfl]
          have e2 : decide (l[i].hi.rank < l[i].lo.rank) = !decide (l[i].lo.rank ≤ l[i].hi.rank) := by rw [← decide_not, decide_eq_decide]; omega
          rw [e2]; cases decide (l[i].lo.rank ≤ l[i].hi.rank) <;> rfl
    rw [e]
    refine ⟨fun h => ?_, fun h => bnd.drew fun w7 x7 => bound ?_⟩
    · have : spansGo 0 (l.take (i + 1)) = false := by
        rw [hst]
        have : spanOk l[i] = false := by simpa using h
        rw [this]; rfl
      rw [← spansMay_false this]; exact hR _ (by (repeat (first | assumption | exact Ext.refl _ | refine Ext.trans ?_ (by assumption))))
    have hok : spanOk l[i] = true := by simpa using h
    rw [hok, Bool.true_and] at hst
    have hprev : (0 : Int) < i → ∃ h : i - 1 < l.length, wrapI ((i : Int) - 1) = ((i - 1 : Nat) : Int) := fun h0 => ⟨by omega, by rw [wrapI_eq (by omega) (by have := hs.max; rw [maxLen_eq] at this; omega)]; omega⟩
    have hlast : ∀ h0 : 0 < i, spansSt 0 (l.take i) = (l[i - 1]'(by omega)).hi.rank + 2 := fun h0 => by
      have := spanOf_last (l := l) (n := i - 1) (by omega)
      rw [← this]; congr 2; omega
    have hd : ∃ (ad31 : Addr) (u1 u2 u3 : Int), (decide ((0 : Int) < (i : Int)) = true → (s.a = some ad31 ∧ (0 : Int) ≤ wrapI ((i : Int) - 1) ∧ wrapI ((i : Int) - 1) < (s.len : Int)) ∧ ldc w7 ((ad31.add ((wrapI ((i : Int) - 1)).toNat * 6)).add 3) [.int .i64 u1, .int .i64 u2, .int .i64 u3] ∧ (⟨u1, u2, u3⟩ : Ver).rank = spansSt 0 (l.take i) - 2) := by
      by_cases h0 : 0 < i
      · obtain ⟨hp, ew⟩ := hprev (by omega)
        obtain ⟨ad', ha', _, hc'⟩ := spanEl hs hp
        refine ⟨ad', _, _, _, fun _ => ⟨by rw [ew]; exact ⟨ha', by omega, by omega⟩, by rw [ew]; exact (hc' _ (by (repeat (first | assumption | exact Ext.refl _ | refine Ext.trans ?_ (by assumption))))).mid rfl, ?_⟩⟩
        rw [hlast h0]; show (l[i - 1]'hp).hi.rank = _; omega
      · exact ⟨ad, 0, 0, 0, fun h => by simp at h; omega⟩
    obtain ⟨ad31, u1, u2, u3, hu⟩ := hd
    refine ⟨ad, fun _ => had, _, _, _, fun _ => (hc _ (by (repeat (first | assumption | exact Ext.refl _ | refine Ext.trans ?_ (by assumption))))).pre rfl, ad31, fun hb => (hu hb).1, u1, u2, u3, fun hb => (hu hb).2.1, ?_⟩
    refine gCall.intro l[i].lo.rank (fun _ q hq => callX.intro (SE.halyardref03_rank.go (r03rank_se fun w' hx => ⟨hx, _, rfl, hq _ hx⟩))) fun t4 w8 x8 ht4 => ?_
    refine gCall.intro (spansSt 0 (l.take i) - 2) (fun hb q hq => SE.halyardref03_rank.go (r03rank_se (v := ⟨u1, u2, u3⟩) fun w' hx => ⟨_, rfl, by rw [(hu hb).2.2]; exact hq _ hx⟩)) fun t5 w9 x9 ht5 => ?_
    have e2 : (decide ((0 : Int) < (i : Int)) && decide (t4 ≤ wrapI (t5 + 1))) = !spansGo 0 (l.take (i + 1)) := by
      rw [hst]
      by_cases h0 : 0 < i
      · have hb : decide ((0 : Int) < (i : Int)) = true := by simpa using h0
        rw [ht4 hb, ht5 hb, hb, Bool.true_and]
        have h1 := hlast h0
        have h2 := Ver.rank_le (v := l[i - 1].hi)
        rw [wrapI_eq (by omega) (by omega), ← decide_not, decide_eq_decide]; omega
      · have hb : decide ((0 : Int) < (i : Int)) = false := by simp; omega
        have hi0 : i = 0 := by omega
        subst hi0
        have := Ver.rank_le (v := l[0].lo)
        rw [hb, Bool.false_and, List.take_zero, spansSt, decide_eq_true (by omega)]; rfl
    rw [e2]
    refine ⟨fun h => ?_, fun h => hn hlt' _ ⟨by (repeat (first | assumption | exact Ext.refl _ | refine Ext.trans ?_ (by assumption))), by simpa using h⟩⟩
    rw [← spansMay_false (i := i + 1) (by simpa using h)]; exact hR _ (by (repeat (first | assumption | exact Ext.refl _ | refine Ext.trans ?_ (by assumption))))
  · have : i = l.length := by omega
    rw [this, List.take_length] at hI
    rw [← spansMay_of h64 hI]; exact hR _ (by (repeat (first | assumption | exact Ext.refl _ | refine Ext.trans ?_ (by assumption))))
end Go.Hal
namespace Go.Hal
open Go Go.RowKit Go.Proofs Go.Shelf
def idxI {α : Type} (p : α → Bool) (l : List α) : Int := match l.findIdx? p with | some i => i | none => -1
theorem idxI_hit {α : Type} {p : α → Bool} {l : List α} {n : Nat} (hn : n < l.length) (h0 : (l.take n).any p = false) (h : p l[n] = true) : idxI p l = n := by
  unfold idxI
  have : l.findIdx? p = some n := by
    rw [List.findIdx?_eq_some_iff_getElem]
    refine ⟨hn, h, fun j hj => ?_⟩
    have hm : l[j] ∈ l.take n := by
      rw [List.mem_take_iff_getElem]
      exact ⟨j, by omega, rfl⟩
    have := List.any_eq_false.1 h0 _ hm
    simpa using this
  rw [this]
theorem idxI_none {α : Type} {p : α → Bool} {l : List α} (h0 : l.any p = false) : idxI p l = -1 := by
  unfold idxI
  have : l.findIdx? p = none := by
    rw [List.findIdx?_eq_none_iff]
    intro x hx
    have := List.any_eq_false.1 h0 x hx
    simpa using this
  rw [this]
theorem idxI_any {α : Type} {p : α → Bool} {l : List α} : decide (0 ≤ idxI p l) = l.any p := by
  cases h : l.any p
  · rw [idxI_none h]; rfl
  · obtain ⟨x, hx, hp⟩ := List.any_eq_true.1 h
    unfold idxI
    cases hf : l.findIdx? p with
    | none => rw [List.findIdx?_eq_none_iff] at hf; rw [hf x hx] at hp; cases hp
    | some i => simp
theorem take_any_succ {α : Type} {p : α → Bool} {l : List α} {n : Nat} (hn : n < l.length) (h0 : (l.take n).any p = false) : (l.take (n + 1)).any p = p l[n] := by
  rw [List.take_succ_eq_append_getElem hn, List.any_append, h0]; simp
def Tells {α : Type} (f : Value) (enc : α → Value) (p : α → Bool) (l : List α) (w : World) : Prop :=
  ∀ x ∈ l, ∀ w' (k : Value → World → Prop), Ext w w' → (∀ w'', Ext w' w'' → k (.bool (p x)) w'') → callV Tryz.prog f [enc x] w' k
theorem idxSpan_se {s : Sl} {l : List Span} {f : Value} {p : Span → Bool} {S : Nat → Prop} {w : World} {R : Int → World → Prop} (hs : SlR spanE w S s l) (hf : Tells f (fun x => .agg #[.int .i64 x.lo.ma, .int .i64 x.lo.mi, .int .i64 x.lo.pa, .int .i64 x.hi.ma, .int .i64 x.hi.mi, .int .i64 x.hi.pa]) p l w)
    (hR : ∀ w', Ext w w' → R (idxI p l) w') : SE.slices_IndexFunc_apiSpanapiSpan s f w R := by
  unfold SE.slices_IndexFunc_apiSpanapiSpan
  have hl := hs.len
  refine loop1.up hs.max (fun i w' => Ext w w' ∧ (l.take i).any p = false) ⟨Ext.refl _, rfl⟩ fun i w1 nxt hi ⟨x1, hI⟩ hn => ⟨fun hlt => ?_, fun hge => ?_⟩
  · have hlt' : i < l.length := by omega
    obtain ⟨ad, ha, _, hc⟩ := spanEl hs hlt'
    refine ⟨ad, ⟨ha, by omega, hlt⟩, _, _, _, _, _, _, hc _ (by (repeat (first | assumption | exact Ext.refl _ | refine Ext.trans ?_ (by assumption)))), hf _ (List.getElem_mem hlt') _ _ x1 fun w2 x2 => ⟨_, rfl, fun h => ?_, fun h => ?_⟩⟩
    · rw [← idxI_hit hlt' hI h]; exact hR _ (by (repeat (first | assumption | exact Ext.refl _ | refine Ext.trans ?_ (by assumption))))
    · exact hn hlt' _ ⟨by (repeat (first | assumption | exact Ext.refl _ | refine Ext.trans ?_ (by assumption))), by rw [take_any_succ hlt' hI]; exact h⟩
  · have : i = l.length := by omega
    rw [this, List.take_length] at hI
    rw [← idxI_none hI]; exact hR _ (by (repeat (first | assumption | exact Ext.refl _ | refine Ext.trans ?_ (by assumption))))
theorem conSpan_se {s : Sl} {l : List Span} {f : Value} {p : Span → Bool} {S : Nat → Prop} {w : World} {R : Bool → World → Prop} (hs : SlR spanE w S s l) (hf : Tells f (fun x => .agg #[.int .i64 x.lo.ma, .int .i64 x.lo.mi, .int .i64 x.lo.pa, .int .i64 x.hi.ma, .int .i64 x.hi.mi, .int .i64 x.hi.pa]) p l w)
    (hR : ∀ w', Ext w w' → R (l.any p) w') : SE.slices_ContainsFunc_apiSpanapiSpan s f w R := by
  unfold SE.slices_ContainsFunc_apiSpanapiSpan
  exact SE.slices_IndexFunc_apiSpanapiSpan.go (idxSpan_se hs hf fun w' hx => ⟨_, rfl, by rw [idxI_any]; exact hR _ hx⟩)
theorem cmpOr3_se {s : Sl} {x y z : Int} {S : Nat → Prop} {w : World} {R : Int → World → Prop} (hs : SlR intE w S s [x, y, z]) (hR : R (or2 x (or2 y z)) w) : SE.cmp_Or_int s w R :=
  cmpOr_se hs (by
    have : [x, y, z].foldr or2 0 = or2 x (or2 y z) := by
      show or2 x (or2 y (or2 z 0)) = _
      have : or2 z 0 = z := by unfold or2; split <;> simp_all
      rw [this]
    rw [this]; exact hR)
theorem box_ints {w : World} {a : Addr} {l : List Int} (h : BoxAt w a (l.map (Value.int .i64))) (hl : l.length ≤ 1000) : SlR intE w (fun b => b = a.block) ⟨some a, l.length, l.length⟩ l :=
  ⟨rfl, Nat.le_refl _, by show l.length ≤ maxLen; rw [maxLen_eq]; omega, by show l.length * 8 ≤ room; unfold room; omega, .inr ⟨a, rfl, rfl, fun i x hx => ⟨_, ⟨rfl, trivial⟩, by
    have := h.ldc.sub i 1
    show ldc w (a.add (i * 1)) [Value.int .i64 x]
    rw [Nat.mul_one]
    refine this.of rfl ?_
    obtain ⟨hi, he⟩ := List.getElem?_eq_some_iff.1 hx
    rw [← List.map_drop, List.drop_eq_getElem_cons hi, he]; rfl⟩⟩⟩
theorem versCompare_se {a b : Ver} {w : World} {R : Int → World → Prop} (hR : ∀ w', Ext w w' → R (a.cmp b) w') : SE.vers_Compare a.ma a.mi a.pa b.ma b.mi b.pa w R := by
  unfold SE.vers_Compare
  refine newS.intro fun _ _ _ hb _ _ => newS.intro fun _ _ _ hb2 _ _ => bnd.drew fun w3 x3 => ?_
  refine ⟨_, (by first | exact (BoxAt.at0 (by assumption) (by (repeat (first | assumption | exact Ext.refl _ | refine Ext.trans ?_ (by assumption)))) rfl) | exact (BoxAt.at1 (by assumption) (by (repeat (first | assumption | exact Ext.refl _ | refine Ext.trans ?_ (by assumption)))) rfl)), ?_⟩
  refine ⟨_, (by first | exact (BoxAt.at0 (by assumption) (by (repeat (first | assumption | exact Ext.refl _ | refine Ext.trans ?_ (by assumption)))) rfl) | exact (BoxAt.at1 (by assumption) (by (repeat (first | assumption | exact Ext.refl _ | refine Ext.trans ?_ (by assumption)))) rfl)), ?_⟩
  refine ⟨_, (by first | exact (BoxAt.at0 (by assumption) (by (repeat (first | assumption | exact Ext.refl _ | refine Ext.trans ?_ (by assumption)))) rfl) | exact (BoxAt.at1 (by assumption) (by (repeat (first | assumption | exact Ext.refl _ | refine Ext.trans ?_ (by assumption)))) rfl)), ?_⟩
  refine ⟨_, (by first | exact (BoxAt.at0 (by assumption) (by (repeat (first | assumption | exact Ext.refl _ | refine Ext.trans ?_ (by assumption)))) rfl) | exact (BoxAt.at1 (by assumption) (by (repeat (first | assumption | exact Ext.refl _ | refine Ext.trans ?_ (by assumption)))) rfl)), ?_⟩
  refine ⟨_, (by first | exact (BoxAt.at0 (by assumption) (by (repeat (first | assumption | exact Ext.refl _ | refine Ext.trans ?_ (by assumption)))) rfl) | exact (BoxAt.at1 (by assumption) (by (repeat (first | assumption | exact Ext.refl _ | refine Ext.trans ?_ (by assumption)))) rfl)), ?_⟩
  refine ⟨_, (by first | exact (BoxAt.at0 (by assumption) (by (repeat (first | assumption | exact Ext.refl _ | refine Ext.trans ?_ (by assumption)))) rfl) | exact (BoxAt.at1 (by assumption) (by (repeat (first | assumption | exact Ext.refl _ | refine Ext.trans ?_ (by assumption)))) rfl)), ?_⟩
  refine callX.intro (SE.cmp_Compare_int.go (cmpInt_se ⟨Ext.refl _, _, rfl, callX.intro (SE.cmp_Compare_int.go (cmpInt_se ⟨Ext.refl _, _, rfl, SE.cmp_Compare_int.go (cmpInt_se ⟨_, rfl, ?_⟩)⟩))⟩))
  refine newS.intro fun a16 w4 x4 hb4 _ _ => SE.cmp_Or_int.go (cmpOr3_se (box_ints (l := [_, _, _]) hb4 (by simp)) ⟨_, rfl, ?_⟩)
  exact hR _ (by (repeat (first | assumption | exact Ext.refl _ | refine Ext.trans ?_ (by assumption))))
theorem spanIn1_se {x : Span} {v : Ver} {c0 : Addr} {w : World} {R : Bool → World → Prop} (hc : ldc w c0 v.c) (hR : ∀ w', Ext w w' → R (decide (x.lo.cmp v ≤ 0) && decide (v.cmp x.hi ≤ 0)) w') : SE.span_In_1 x.lo.ma x.lo.mi x.lo.pa x.hi.ma x.hi.mi x.hi.pa c0 w R := by
  unfold SE.span_In_1
  refine newS.intro fun _ w1 x1 hb _ _ => ?_
  refine ⟨_, _, _, (by first | exact (BoxAt.at0 (by assumption) (by (repeat (first | assumption | exact Ext.refl _ | refine Ext.trans ?_ (by assumption)))) rfl) | exact (BoxAt.at1 (by assumption) (by (repeat (first | assumption | exact Ext.refl _ | refine Ext.trans ?_ (by assumption)))) rfl)), ?_⟩
  refine ⟨v.ma, v.mi, v.pa, hc.ext x1, SE.vers_Compare.go (versCompare_se (a := x.lo) (b := v) fun w2 x2 => ⟨_, rfl, bound ⟨v.ma, v.mi, v.pa, fun _ => hc.ext (by (repeat (first | assumption | exact Ext.refl _ | refine Ext.trans ?_ (by assumption)))), x.hi.ma, x.hi.mi, x.hi.pa, fun _ => hb.at1 (by (repeat (first | assumption | exact Ext.refl _ | refine Ext.trans ?_ (by assumption)))) rfl, ?_⟩⟩)⟩
  refine gCall.intro (v.cmp x.hi) (fun _ q hq => SE.vers_Compare.go (versCompare_se fun w' hx => ⟨_, rfl, hq _ hx⟩)) fun t w3 x3 ht => ?_
  have e : (decide (x.lo.cmp v ≤ 0) && decide (t ≤ 0)) = (decide (x.lo.cmp v ≤ 0) && decide (v.cmp x.hi ≤ 0)) := by
    cases h : decide (x.lo.cmp v ≤ 0)
    · rfl
    · rw [ht h]
  rw [e]; exact hR _ (by (repeat (first | assumption | exact Ext.refl _ | refine Ext.trans ?_ (by assumption))))
theorem enters157 : Enters Tryz.prog 63 := enters_of Tryz.func63 (by kernel_rfl) rfl
theorem spanIn_se {s : Sl} {l : List Span} {v : Ver} {S : Nat → Prop} {w : World} {R : Bool → World → Prop} (hs : SlR spanE w S s l) (hR : ∀ w', Ext w w' → R (spansIn l v) w') : SE.span_In s v.ma v.mi v.pa w R := by
  unfold SE.span_In
  refine newS.intro fun a w1 x1 hb _ _ => SE.span_May.go (spanMay_se (hs.ext x1) fun w2 x2 => ⟨_, rfl, v.ma, v.mi, v.pa, fun _ => hb.at0 (by (repeat (first | assumption | exact Ext.refl _ | refine Ext.trans ?_ (by assumption)))) rfl, ?_⟩)
  refine gCall.intro v.may (fun _ q hq => SE.vers_May.go (versMay_se (v := v) fun w' hx => ⟨_, rfl, hq _ hx⟩)) fun t w3 x3 ht => bound ?_
  have hf : Tells (.func (.func 63) #[] #[.pointer (some a)]) (fun x : Span => .agg #[.int .i64 x.lo.ma, .int .i64 x.lo.mi, .int .i64 x.lo.pa, .int .i64 x.hi.ma, .int .i64 x.hi.mi, .int .i64 x.hi.pa]) (fun x => decide (x.lo.cmp v ≤ 0) && decide (v.cmp x.hi ≤ 0)) l w3 := by
    intro x _ w' k hx hk
    refine ⟨_, _, rfl, enters157, ?_⟩
    exact SE.span_In_1.go (spanIn1_se (v := v) (hb.at0 (by (repeat (first | assumption | exact Ext.refl _ | refine Ext.trans ?_ (by assumption)))) rfl) hk)
  refine gCall.intro (l.any _) (fun _ q hq => SE.slices_ContainsFunc_apiSpanapiSpan.go (conSpan_se (hs.ext (by (repeat (first | assumption | exact Ext.refl _ | refine Ext.trans ?_ (by assumption))))) hf fun w' hx => ⟨_, rfl, hq _ hx⟩)) fun t2 w4 x4 ht2 => ?_
  have e : ((spansMay l && t) && t2) = spansIn l v := by
    unfold spansIn
    cases h : spansMay l
    · rfl
    · rw [h] at ht ht2
      rw [ht rfl] at ht2 ⊢
      cases h' : v.may
      · rfl
      · rw [h'] at ht2
        rw [ht2 rfl]
        show l.any _ = l.any _
        have hm : ∀ x ∈ l, x.lo.may = true ∧ x.hi.may = true := by
          have : ∀ (l : List Span) m, spansGo m l = true → ∀ x ∈ l, x.lo.may = true ∧ x.hi.may = true := by
            intro l
            induction l with
            | nil => intro m _ x hx; cases hx
            | cons y r ih =>
              intro m h x hx
              rw [spansGo] at h
              simp only [Bool.and_eq_true] at h
              rcases List.mem_cons.1 hx with rfl | hx
              · exact ⟨h.1.1.1.1, h.1.1.1.2⟩
              · exact ih _ h.2 x hx
          unfold spansMay at h
          simp only [Bool.and_eq_true] at h
          exact this l 0 h.2
        rw [Bool.eq_iff_iff, List.any_eq_true, List.any_eq_true]
        constructor
        · rintro ⟨x, hx, hp⟩
          refine ⟨x, hx, ?_⟩
          simp only [Bool.and_eq_true, decide_eq_true_eq, Span.has] at hp ⊢
          rwa [Ver.cmp_rank (hm x hx).1 h', Ver.cmp_rank h' (hm x hx).2] at hp
        · rintro ⟨x, hx, hp⟩
          refine ⟨x, hx, ?_⟩
          simp only [Bool.and_eq_true, decide_eq_true_eq, Span.has] at hp ⊢
          rwa [Ver.cmp_rank (hm x hx).1 h', Ver.cmp_rank h' (hm x hx).2]
  rw [e]; exact hR _ (by (repeat (first | assumption | exact Ext.refl _ | refine Ext.trans ?_ (by assumption))))
end Go.Hal
namespace Go.Hal
open Go Go.RowKit Go.Proofs Go.Shelf
theorem spansMay_el {l : List Span} (h : spansMay l = true) : ∀ x ∈ l, x.lo.may = true ∧ x.hi.may = true := by
  have : ∀ (l : List Span) m, spansGo m l = true → ∀ x ∈ l, x.lo.may = true ∧ x.hi.may = true := by
    intro l
    induction l with
    | nil => intro m _ x hx; cases hx
    | cons y r ih =>
      intro m h x hx
      rw [spansGo] at h
      simp only [Bool.and_eq_true] at h
      rcases List.mem_cons.1 hx with rfl | hx
      · exact ⟨h.1.1.1.1, h.1.1.1.2⟩
      · exact ih _ h.2 x hx
  unfold spansMay at h
  simp only [Bool.and_eq_true] at h
  exact this l 0 h.2
theorem spansMay_len {l : List Span} (h : spansMay l = true) : l.length ≤ 64 := by
  unfold spansMay at h
  simp only [Bool.and_eq_true, decide_eq_true_eq] at h
  exact h.1
def preT (l : List Span) (i : Nat) : List UInt8 := joinT (l.take i) ++ (if 0 < i then [32, 124, 124, 32] else [])
theorem joinT_take {l : List Span} {i : Nat} (h : i < l.length) : joinT (l.take (i + 1)) = preT l i ++ oneText l[i] := by
  rw [List.take_succ_eq_append_getElem h, joinT_snoc]
  unfold preT
  by_cases h0 : 0 < i
  · rw [if_neg, if_pos h0]
    intro h1
    rw [List.take_eq_nil_iff] at h1
    rcases h1 with h1 | h1
    · omega
    · rw [h1] at h; simp at h
  · have : i = 0 := by omega
    subst this
    simp [joinT]
theorem preT_len {l : List Span} {i : Nat} (h : i ≤ l.length) : (preT l i).length ≤ 31 * i + 4 := by
  have := joinT_len (l.take i)
  rw [List.length_take, Nat.min_eq_left h] at this
  unfold preT
  split <;> simp <;> omega
set_option maxHeartbeats 2000000 in
theorem r03Print_se {s : Sl} {l : List Span} {S : Nat → Prop} {w : World} {R : ByteArray → World → Prop} (hs : SlR spanE w S s l) (hR : ∀ w', Ext w w' → R (B (rangeText l)) w') : SE.halyardref03_Print s w R := by
  unfold SE.halyardref03_Print
  have hl := hs.len
  refine SE.halyardref03_May.go (r03May_se hs fun w1 x1 => ⟨_, rfl, fun h => ?_, fun h => ?_⟩)
  · have e : spansMay l = false := by simpa using h
    have : rangeText l = [] := by unfold rangeText; rw [e]; rfl
    have hr := hR w1 (by (repeat (first | assumption | exact Ext.refl _ | refine Ext.trans ?_ (by assumption))))
    rw [this] at hr; exact hr
  have hm : spansMay l = true := by simpa using h
  have h64 := spansMay_len hm
  refine ⟨fun h => ?_, fun h => ?_⟩
  · have : rangeText l = [60, 48, 46, 48, 46, 48] := by unfold rangeText; rw [hm, if_pos rfl, if_pos (List.eq_nil_of_length_eq_zero (by omega))]
    have hr := hR w1 (by (repeat (first | assumption | exact Ext.refl _ | refine Ext.trans ?_ (by assumption))))
    rw [this] at hr; exact hr
  have hne : l ≠ [] := fun h0 => h (by rw [hl, h0]; rfl)
  have hrt : rangeText l = joinT l := by unfold rangeText; rw [hm, if_pos rfl, if_neg hne]
  refine loop2.up hs.max (fun out i w' => Ext w w' ∧ out = B (joinT (l.take i))) ⟨by (repeat (first | assumption | exact Ext.refl _ | refine Ext.trans ?_ (by assumption))), rfl⟩ fun out i w2 nxt hi ⟨x2, hI⟩ hn => ⟨fun hlt => ?_, fun hge => ?_⟩
  · have hlt' : i < l.length := by omega
    obtain ⟨ad, ha, _, hc⟩ := spanEl hs hlt'
    obtain ⟨m1, m2⟩ := spansMay_el hm _ (List.getElem_mem hlt')
    have had : s.a = some ad ∧ (0 : Int) ≤ (i : Int) ∧ (i : Int) < (s.len : Int) := ⟨ha, by omega, hlt⟩
    have hpl := preT_len (l := l) (i := i) (by omega)
    have h27 := oneText_len l[i]
    have v1 := verText_len l[i].lo; have v2 := verText_len l[i].hi
    subst hI
    refine join.named fun J hJ => join.named fun J2 hJ2 => ?_
    have hk : ∀ t w3, Ext w w3 → t = B (preT l i ++ oneText l[i]) → J t w3 := fun t w3 x3 ht => by
      rw [hJ]; exact hn hlt' _ _ ⟨x3, by rw [ht, joinT_take hlt']⟩
    have key : ∀ w3, Ext w w3 → J2 (B (preT l i)) w3 := by
      intro w3 x3
      rw [hJ2]
      refine ⟨ad, had, _, _, _, (hc _ (by (repeat (first | assumption | exact Ext.refl _ | refine Ext.trans ?_ (by assumption))))).pre rfl, SE.halyardref02_Print.go (r02Print_se (v := l[i].lo) fun w4 x4 => ⟨_, rfl, ?_⟩)⟩
      refine ⟨by rw [B_size, lit_size, maxI_eq]; simp; omega, ad, had, _, _, _, (hc _ (by (repeat (first | assumption | exact Ext.refl _ | refine Ext.trans ?_ (by assumption))))).mid rfl, SE.halyardref02_Print.go (r02Print_se (v := l[i].hi) fun w5 x5 => ⟨_, rfl, ?_⟩)⟩
      refine ⟨by rw [B_size, lit_size, maxI_eq]; simp; omega, ad, had, _, _, _, (hc _ (by (repeat (first | assumption | exact Ext.refl _ | refine Ext.trans ?_ (by assumption))))).pre rfl, SE.halyardref03_rank.go (r03rank_se (v := l[i].lo) fun w6 x6 => ⟨_, rfl, ?_⟩)⟩
      refine ⟨ad, had, _, _, _, (hc _ (by (repeat (first | assumption | exact Ext.refl _ | refine Ext.trans ?_ (by assumption))))).mid rfl, SE.halyardref03_rank.go (r03rank_se (v := l[i].hi) fun w7 x7 => ⟨_, rfl, bnd.drew fun w8 x8 => ?_⟩)⟩
      refine ⟨ad, had, _, _, _, (hc _ (by (repeat (first | assumption | exact Ext.refl _ | refine Ext.trans ?_ (by assumption))))).pre rfl, ad, had, _, _, _, (hc _ (by (repeat (first | assumption | exact Ext.refl _ | refine Ext.trans ?_ (by assumption))))).mid rfl, ?_⟩
      rw [verEqB]
      refine ⟨fun h => ⟨ad, had, _, _, _, (hc _ (by (repeat (first | assumption | exact Ext.refl _ | refine Ext.trans ?_ (by assumption))))).pre rfl, SE.halyardref02_Print.go (r02Print_se (v := l[i].lo) fun w9 x9 => ⟨_, rfl, ?_⟩)⟩, fun h => bound ⟨fun h2 => ?_, fun h2 => ?_⟩⟩
      · have e : oneText l[i] = verText l[i].lo := by unfold oneText; rw [if_pos (by simpa using h)]
        refine ⟨by rw [B_size, B_size, maxI_eq]; omega, hk _ _ (by (repeat (first | assumption | exact Ext.refl _ | refine Ext.trans ?_ (by assumption)))) (by rw [e, B_app])⟩
      · have e : oneText l[i] = [42] := by unfold oneText; rw [if_neg (by simpa using h), if_pos (by simpa using h2)]
        refine ⟨by rw [B_size, lit_size, maxI_eq]; simp; omega, hk _ _ (by (repeat (first | assumption | exact Ext.refl _ | refine Ext.trans ?_ (by assumption)))) (by rw [e, app_lit])⟩
      · have h2 : ¬ (l[i].lo.rank = 0 ∧ l[i].hi.rank = 999999999) := by simpa using h2
        refine ⟨fun h3 => ?_, fun h3 => ⟨fun h4 => ?_, fun h4 => ?_⟩⟩
        · have e : oneText l[i] = [60, 61] ++ verText l[i].hi := by unfold oneText; rw [if_neg (by simpa using h), if_neg h2, if_pos h3]
          refine ⟨by simp only [lit_app]; rw [B_size, B_size, maxI_eq]; simp; omega, hk _ _ (by (repeat (first | assumption | exact Ext.refl _ | refine Ext.trans ?_ (by assumption)))) (by rw [e, lit_app, B_app])⟩
        · have e : oneText l[i] = [62, 61] ++ verText l[i].lo := by unfold oneText; rw [if_neg (by simpa using h), if_neg h2, if_neg h3, if_pos h4]
          refine ⟨by simp only [lit_app]; rw [B_size, B_size, maxI_eq]; simp; omega, hk _ _ (by (repeat (first | assumption | exact Ext.refl _ | refine Ext.trans ?_ (by assumption)))) (by rw [e, lit_app, B_app])⟩
        · have e : oneText l[i] = (([62, 61] ++ verText l[i].lo) ++ [32, 60, 61]) ++ verText l[i].hi := by unfold oneText; rw [if_neg (by simpa using h), if_neg h2, if_neg h3, if_neg h4]
          simp only [lit_app, app_lit, B_app]
          refine ⟨by rw [B_size, B_size, maxI_eq]; simp; omega, by rw [B_size, lit_size, maxI_eq]; simp; omega, by rw [B_size, B_size, maxI_eq]; simp; omega, hk _ _ (by (repeat (first | assumption | exact Ext.refl _ | refine Ext.trans ?_ (by assumption)))) (by rw [e]; simp)⟩
    have e0 : preT l i = joinT (l.take i) ++ (if 0 < i then [32, 124, 124, 32] else []) := rfl
    have hjl := joinT_len (l.take i)
    rw [List.length_take, Nat.min_eq_left (by omega)] at hjl
    refine ⟨fun h0 => ⟨by rw [B_size, lit_size, maxI_eq]; simp; omega, ?_⟩, fun h0 => ?_⟩
    · rw [if_pos (by omega)] at e0
      rw [app_lit]
      have := key w2 x2
      rw [e0] at this; exact this
    · rw [if_neg (by omega), List.append_nil] at e0
      have := key w2 x2
      rw [e0] at this; exact this
  · have : i = l.length := by omega
    rw [this, List.take_length, ← hrt] at hI
    rw [hI]; exact hR _ (by (repeat (first | assumption | exact Ext.refl _ | refine Ext.trans ?_ (by assumption))))
theorem apRk : ApT Tryz.prog 182 185 2 16 := apT_mk (z := .agg #[.int .i64 0, .int .i64 0]) (by kernel_rfl) (by kernel_rfl) rfl (by decide)
theorem apStr : ApT Tryz.prog 181 9 1 16 := apT_mk (z := .string ⟨#[]⟩) (by kernel_rfl) (by kernel_rfl) rfl (by decide)
def numsOf (l : List Span) : List (Int × Int) := l.map fun x => (x.lo.rank, x.hi.rank)
theorem numbers_se {s : Sl} {l : List Span} {S : Nat → Prop} {w : World} {R : Sl → World → Prop} (hs : SlR spanE w S s l) (hR : ∀ t w', Ext w w' → OwnS rkE 185 w' w.heap.size None' t (numsOf l) → R t w') : SE.span_numbers s w R := by
  unfold SE.span_numbers
  have hl := hs.len
  refine loop2.up hs.max (fun out i w' => Ext w w' ∧ OwnS rkE 185 w' w.heap.size None' out (numsOf (l.take i))) ⟨Ext.refl _, OwnS.zero _⟩ fun out i w1 nxt hi ⟨x1, own⟩ hn => ⟨fun hlt => ?_, fun hge => ?_⟩
  · have hlt' : i < l.length := by omega
    obtain ⟨ad, ha, _, hc⟩ := spanEl hs hlt'
    refine ⟨ad, ⟨ha, by omega, hlt⟩, _, _, _, _, _, _, hc _ (by (repeat (first | assumption | exact Ext.refl _ | refine Ext.trans ?_ (by assumption)))), newS.intro fun a w2 x2 hb hba _ => stw0.intro hb (by simp) fun w3 b3 _ hb3 => ?_⟩
    have x3 : Ext w1 w3 := b3.ext x2 (by omega)
    refine ⟨_, _, _, hb3.at0 (Ext.refl _) rfl, SE.vers_Rank.go (versRank_se (v := l[i].lo) fun w4 x4 => ⟨_, _, rfl, ?_⟩)⟩
    refine ⟨_, _, _, hb3.at1 (by (repeat (first | assumption | exact Ext.refl _ | refine Ext.trans ?_ (by assumption)))) rfl, SE.vers_Rank.go (versRank_se (v := l[i].hi) fun w5 x5 => ⟨_, _, rfl, newS.intro fun a9 w6 x6 hb6 _ _ => ?_⟩)⟩
    have x16 : Ext w1 w6 := by (repeat (first | assumption | exact Ext.refl _ | refine Ext.trans ?_ (by assumption)))
    refine (own.ext x16).pushF (x1.trans x16) apRk (x := (l[i].lo.rank, l[i].hi.rank)) ⟨rfl, trivial⟩ hb6.ldc (by decide) ?_ fun r w7 own7 x7 => hn hlt' _ _ ⟨x7, ?_⟩
    · have := hs.2.2.2.1
      have e : spanE.bytes = 48 := rfl
      have e' : rkE.bytes = 16 := rfl
      rw [e] at this
      rw [e']; simp [numsOf]; omega
    · rw [List.take_succ_eq_append_getElem hlt', numsOf, List.map_append]; exact own7
  · have : i = l.length := by omega
    rw [this, List.take_length] at own
    exact hR _ _ x1 own
theorem joinT_lib (x : Span) (r : List Span) : joinT (x :: r) = oneText x ++ Lib.joinTail [32, 124, 124, 32] (r.map oneText) := by
  induction r generalizing x with
  | nil => simp [joinT, Lib.joinTail]
  | cons y t ih =>
    show oneText x ++ ([32, 124, 124, 32] ++ joinT (y :: t)) = _
    rw [ih]; simp [Lib.joinTail]
theorem join_lib (l : List Span) : Lib.join ((l.map fun x => B (oneText x)).map (·.data.toList)) [32, 124, 124, 32] = joinT l := by
  have : (l.map fun x => B (oneText x)).map (·.data.toList) = l.map oneText := by rw [List.map_map]; rfl
  rw [this]
  cases l with
  | nil => rfl
  | cons x r => rw [List.map_cons, Lib.join_cons, joinT_lib]
theorem join_k {s : Sl} {l : List Span} {w w0 : World} {k : Value → World → Prop} (h : OwnS strE 9 w w0.heap.size None' s (l.map fun x => B (oneText x))) (h64 : l.length ≤ 64) (hne : l ≠ []) (hk : ∀ w', Ext w w' → k (.string (B (joinT l))) w') :
    callS Tryz.prog 118 [Sl.v s, .string (ByteArray.mk #[32, 124, 124, 32])] w k := by
  have hr := h.readF (by decide) (by show _ * 16 ≤ room; rw [List.length_map]; unfold room; omega)
  have hlen := hr.len
  rw [List.length_map] at hlen
  obtain ⟨ad, cs, ha, _, _, _⟩ := hr.el (n := 0) (by rw [List.length_map]; exact List.length_pos_iff.2 hne)
  have hb := h.block ha
  have hbk : ad = ⟨ad.block, 0, none⟩ := hb.2.2
  have hj := join_lib l
  have e : Sl.v s = .slice (some ⟨ad.block, 0, none⟩) (l.map fun x => B (oneText x)).length s.cap := by
    unfold Sl.v
    rw [ha, hlen, List.length_map, ← hbk]
  rw [e]
  have hc : ∀ (j : Nat) x, (l.map fun x => B (oneText x))[j]? = some x → w.cell? ⟨ad.block, 0 + j, none⟩ = some (.string x) := by
    intro j x hx
    obtain ⟨ad', cs, ha', _, ⟨rfl, _⟩, hc⟩ := hr.get hx
    rw [ha, Option.some.injEq] at ha'
    subst ha'
    have := hc 0 (.string x) rfl
    rw [hbk, add_add] at this
    have e2 : (Addr.add ⟨ad.block, 0, none⟩ (j * strE.n + 0)) = ⟨ad.block, 0 + j, none⟩ := by
      show Addr.add _ (j * 1 + 0) = _
      rw [add_plain, Nat.mul_one, Nat.add_zero, Nat.zero_add]
    rw [e2] at this; exact this
  have hjl := joinT_len l
  have hcon := Any.strings_Join Tryz.layJo ({ sizeBuilder := by kernel_rfl, liesBuilder := by kernel_rfl, t5 := Tryz.underlying5, a5 := Tryz.isAgg5, z5 := Tryz.sizeOf5, v5 := Tryz.zeroValue5, infoByte := by kernel_rfl, cellsByte := by kernel_rfl, sizeByte := by kernel_rfl, neB5 := by decide } : Builder.Extra Tryz.prog Tryz.layJo_ren) ad.block 0 s.cap (l.map fun x => B (oneText x)) (ByteArray.mk #[32, 124, 124, 32]) w hc hb.2.1
    (by rw [List.length_map]; omega) (by have := hr.2.1; exact this) (by
      have : (ByteArray.mk #[32, 124, 124, 32]).data.toList = [32, 124, 124, 32] := rfl
      rw [this, hj]; omega)
  have e3 : (ByteArray.mk #[32, 124, 124, 32]).data.toList = [32, 124, 124, 32] := rfl
  rw [e3, hj] at hcon
  exact hcon.mono fun e w' ⟨he, hb⟩ => ⟨_, he, hk w' hb⟩
set_option maxHeartbeats 2000000 in
theorem spanPrint_se {s : Sl} {l : List Span} {S : Nat → Prop} {w : World} {R : ByteArray → World → Prop} (ht : Tab w) (hs : SlR spanE w S s l) (hR : ∀ w', Ext w w' → R (B (rangeText l)) w') : SE.span_Print s w R := by
  unfold SE.span_Print
  have hl := hs.len
  refine SE.span_May.go (spanMay_se hs fun w1 x1 => ⟨_, rfl, fun h => ?_, fun h => ?_⟩)
  · have e : spansMay l = false := by simpa using h
    have : rangeText l = [] := by unfold rangeText; rw [e]; rfl
    have hr := hR w1 (by (repeat (first | assumption | exact Ext.refl _ | refine Ext.trans ?_ (by assumption))))
    rw [this] at hr; exact hr
  have hm : spansMay l = true := by simpa using h
  have h64 := spansMay_len hm
  refine SE.span_numbers.go (numbers_se (hs.ext x1) fun nums w2 x2 ownN => ⟨_, rfl, ?_⟩)
  have hN := ownN.readF (by decide) (by show _ * 16 ≤ room; unfold numsOf; rw [List.length_map]; unfold room; omega)
  have hlN : (numsOf l).length = l.length := by unfold numsOf; rw [List.length_map]
  have hlN' := hN.len
  refine loop2.up hN.max (fun out i w' => Ext w2 w' ∧ OwnS strE 9 w' w2.heap.size None' out ((l.take i).map fun x => B (oneText x))) ⟨Ext.refl _, OwnS.zero _⟩ fun out i w3 nxt hi ⟨x3, own⟩ hn => ⟨fun hlt => ?_, fun hge => ?_⟩
  · have hlt' : i < l.length := by omega
    have hltN : i < (numsOf l).length := by omega
    obtain ⟨ad, ha, _, hc⟩ := rkEl hN hltN
    have hel : (numsOf l)[i] = (l[i].lo.rank, l[i].hi.rank) := by simp [numsOf]
    rw [hel] at hc
    obtain ⟨m1, m2⟩ := spansMay_el hm _ (List.getElem_mem hlt')
    have v1 := verText_len l[i].lo; have v2 := verText_len l[i].hi
    refine join.named fun J hJ => ?_
    have push : ∀ (t : ByteArray) w4, Ext w3 w4 → t = B (oneText l[i]) → newS w4 [.string t] 9 fun a w5 => appS Tryz.prog 181 181 out (Sl.v (Sl.mk (some a) 1 1)) w5 fun r w6 => J r w6 := by
      intro t w4 x4 ht'
      refine newS.intro fun a w5 x5 hb5 _ _ => ?_
      refine (own.ext (x4.trans x5)).pushF (x3.trans (x4.trans x5)) apStr (x := t) ⟨rfl, ?_⟩ hb5.ldc (by decide) ?_ fun r w7 own7 x7 => ?_
      · have := oneText_len l[i]
        rw [ht']; show (B (oneText l[i])).size ≤ maxLen; rw [B_size, maxLen_eq]; omega
      · show (_ + 1) * 16 ≤ room
        rw [List.length_map, List.length_take, Nat.min_eq_left (by omega)]; unfold room; omega
      · rw [hJ]
        refine hn hltN _ _ ⟨x7, ?_⟩
        rw [List.take_succ_eq_append_getElem hlt', List.map_append]
        rw [ht'] at own7; exact own7
    clear hJ
    refine ⟨ad, ⟨ha, by omega, hlt⟩, _, _, hc _ (by (repeat (first | assumption | exact Ext.refl _ | refine Ext.trans ?_ (by assumption)))), newS.intro fun a w4 x4 hb hba _ => stw0.intro hb (by simp) fun w5 b5 _ hb5 => ?_⟩
    have x5 : Ext w3 w5 := b5.ext x4 (by omega)
    have t5 : Tab w5 := ht.ext (by (repeat (first | assumption | exact Ext.refl _ | refine Ext.trans ?_ (by assumption))))
    refine ⟨_, hb5.at0 (Ext.refl _) rfl, SE.vers_At.go (versAt_se fun w6 x6 => ⟨_, _, _, _, rfl, ?_⟩)⟩
    rw [verAt_of_rank m1]
    refine newS.intro fun a13 w7 x7 hb13 ha13 _ => stw0.intro hb13 (by simp) fun w8 b8 _ hb13 => ?_
    have x8 : Ext w6 w8 := b8.ext x7 (by omega)
    refine ⟨_, hb5.at1 (by (repeat (first | assumption | exact Ext.refl _ | refine Ext.trans ?_ (by assumption)))) rfl, SE.vers_At.go (versAt_se fun w9 x9 => ⟨_, _, _, _, rfl, ?_⟩)⟩
    rw [verAt_of_rank m2]
    refine newS.intro fun a20 w10 x10 hb20 ha20 _ => stw0.intro hb20 (by simp) fun w11 b11 _ hb20 => ?_
    have x11 : Ext w9 w11 := b11.ext x10 (by omega)
    have t11 : Tab w11 := t5.ext (by (repeat (first | assumption | exact Ext.refl _ | refine Ext.trans ?_ (by assumption))))
    refine ⟨_, hb5.at0 (by (repeat (first | assumption | exact Ext.refl _ | refine Ext.trans ?_ (by assumption)))) rfl, _, hb5.at1 (by (repeat (first | assumption | exact Ext.refl _ | refine Ext.trans ?_ (by assumption)))) rfl, fun h => ?_, fun h => ⟨_, _, hb5.at0 (by (repeat (first | assumption | exact Ext.refl _ | refine Ext.trans ?_ (by assumption)))) rfl, fun h2 => ?_, fun h2 => ⟨_, hb5.at0 (by (repeat (first | assumption | exact Ext.refl _ | refine Ext.trans ?_ (by assumption)))) rfl, fun h3 => ?_, fun h3 => ⟨_, hb5.at1 (by (repeat (first | assumption | exact Ext.refl _ | refine Ext.trans ?_ (by assumption)))) rfl, fun h4 => ?_, fun h4 => bnd.drew fun w12 x12 => ?_⟩⟩⟩⟩
    · have h : l[i].lo.rank = l[i].hi.rank := h
      have he : l[i].lo = l[i].hi := by rw [← verAt_of_rank m1, ← verAt_of_rank m2, h]
      have e : oneText l[i] = verText l[i].lo := by unfold oneText; rw [if_pos he]
      exact ⟨_, _, _, hb13.at0 (by (repeat (first | assumption | exact Ext.refl _ | refine Ext.trans ?_ (by assumption)))) rfl, SE.vers_Print.go (versPrint_se t11 fun w13 x13 => ⟨_, rfl, push _ _ (by (repeat (first | assumption | exact Ext.refl _ | refine Ext.trans ?_ (by assumption)))) (by rw [e])⟩)⟩
    all_goals have hne : ¬ l[i].lo = l[i].hi := fun he => h (by rw [he])
    · have e : oneText l[i] = [42] := by unfold oneText; rw [if_neg hne, if_pos (by simpa using h2)]
      exact push _ _ (by (repeat (first | assumption | exact Ext.refl _ | refine Ext.trans ?_ (by assumption)))) (by rw [e]; rfl)
    all_goals have h2' : ¬ (l[i].lo.rank = 0 ∧ l[i].hi.rank = 999999999) := by simpa using h2
    · have e : oneText l[i] = [60, 61] ++ verText l[i].hi := by unfold oneText; rw [if_neg hne, if_neg h2', if_pos h3]
      refine ⟨_, _, _, hb20.at0 (by (repeat (first | assumption | exact Ext.refl _ | refine Ext.trans ?_ (by assumption)))) rfl, SE.vers_Print.go (versPrint_se t11 fun w13 x13 => ⟨_, rfl, by rw [B_size, lit_size, maxI_eq]; simp; omega, ?_⟩)⟩
      exact push _ _ (by (repeat (first | assumption | exact Ext.refl _ | refine Ext.trans ?_ (by assumption)))) (by rw [e, lit_app])
    · have e : oneText l[i] = [62, 61] ++ verText l[i].lo := by unfold oneText; rw [if_neg hne, if_neg h2', if_neg h3, if_pos h4]
      refine ⟨_, _, _, hb13.at0 (by (repeat (first | assumption | exact Ext.refl _ | refine Ext.trans ?_ (by assumption)))) rfl, SE.vers_Print.go (versPrint_se t11 fun w13 x13 => ⟨_, rfl, by rw [B_size, lit_size, maxI_eq]; simp; omega, ?_⟩)⟩
      exact push _ _ (by (repeat (first | assumption | exact Ext.refl _ | refine Ext.trans ?_ (by assumption)))) (by rw [e, lit_app])
    · have e : oneText l[i] = (([62, 61] ++ verText l[i].lo) ++ [32, 60, 61]) ++ verText l[i].hi := by unfold oneText; rw [if_neg hne, if_neg h2', if_neg h3, if_neg h4]
      refine ⟨_, _, _, hb13.at0 (by (repeat (first | assumption | exact Ext.refl _ | refine Ext.trans ?_ (by assumption)))) rfl, _, _, _, hb20.at0 (by (repeat (first | assumption | exact Ext.refl _ | refine Ext.trans ?_ (by assumption)))) rfl, callX.intro (SE.vers_Print.go (versPrint_se (t11.ext (by (repeat (first | assumption | exact Ext.refl _ | refine Ext.trans ?_ (by assumption))))) fun w13 x13 => ⟨x13, _, rfl, ?_⟩))⟩
      simp only [lit_app, app_lit]
      refine ⟨by rw [B_size, lit_size, maxI_eq]; simp; omega, by rw [B_size, lit_size, maxI_eq]; simp; omega, SE.vers_Print.go (versPrint_se ((t11.ext x12).ext x13) fun w14 x14 => ⟨_, rfl, ?_⟩)⟩
      simp only [B_app]
      refine ⟨by rw [B_size, B_size, maxI_eq]; simp; omega, push _ _ (by (repeat (first | assumption | exact Ext.refl _ | refine Ext.trans ?_ (by assumption)))) (by rw [e])⟩
  · have hi' : i = l.length := by omega
    rw [hi', List.take_length] at own
    have hol := (own.readF (by decide) (by show _ * 16 ≤ room; rw [List.length_map]; unfold room; omega)).len
    rw [List.length_map] at hol
    refine ⟨fun h => ?_, fun h => ?_⟩
    · have : rangeText l = [60, 48, 46, 48, 46, 48] := by unfold rangeText; rw [hm, if_pos rfl, if_pos (List.eq_nil_of_length_eq_zero (by omega))]
      have hr := hR w3 (by (repeat (first | assumption | exact Ext.refl _ | refine Ext.trans ?_ (by assumption))))
      rw [this] at hr; exact hr
    · have hne : l ≠ [] := fun h0 => h (by rw [hol, h0]; rfl)
      have hrt : rangeText l = joinT l := by unfold rangeText; rw [hm, if_pos rfl, if_neg hne]
      rw [hrt] at hR
      exact join_k own h64 hne fun w4 x4 => ⟨_, rfl, hR _ (by (repeat (first | assumption | exact Ext.refl _ | refine Ext.trans ?_ (by assumption))))⟩
end Go.Hal
