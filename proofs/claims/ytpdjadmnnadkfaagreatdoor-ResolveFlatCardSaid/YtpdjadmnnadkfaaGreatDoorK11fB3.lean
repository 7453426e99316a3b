/- Lemmas for the claim K11f: how the program's functions run, and what they answer; no condition but those that each theorem names. -/
import Derived.Shelf.SlSortCmp.NoneTotal
import Derived.Ground.SlsfProg
import Derived.Test.YtpdjadmnnadkfaaGreatDoorProg
import Derived.Test.YtpdjadmnnadkfaaGreatDoorK11fB2
set_option linter.unusedVariables false
set_option linter.unusedSimpArgs false
namespace Go.Hal
open Go Go.RowKit Go.Proofs Go.Shelf
def Oth (s : Sl) (w w' : World) : Prop := w.heap.size ≤ w'.heap.size ∧ ∀ b, b < w.heap.size → (∀ ad, s.a = some ad → b ≠ ad.block) → w'.heap[b]? = w.heap[b]?
section
variable {α : Type} {E : Enc α} {T : TypeId} {w w' : World} {lo : Nat} {Q : Nat → Prop} {s x : Sl} {l : List α}
theorem OwnS.oth (h : OwnS E T w lo Q x l) (ho : Oth s w w') (hA : Apart x s) (hQ : ∀ ad, s.a = some ad → ¬ Q ad.block) : OwnS E T w' lo Q x l :=
  h.keep ho.1 fun b hlt hb => ho.2 b hlt fun ad ha e => by
    rcases hb with hb | ⟨ad', ha', rfl⟩
    · exact hQ ad ha (e ▸ hb)
    · exact hA _ _ ha' ha e
theorem SlR.oth (h : SlR E w Q x l) (ho : Oth s w w') (hQ : ∀ ad, s.a = some ad → ¬ Q ad.block) : SlR E w' Q x l :=
  h.keep fun b hb hlt => ho.2 b hlt fun ad ha e => hQ ad ha (e ▸ hb)
theorem BoxAt.oth {a : Addr} {cs : List Value} (h : BoxAt w a cs) (ho : Oth s w w') (hne : ∀ ad, s.a = some ad → a.block ≠ ad.block) : BoxAt w' a cs :=
  h.keep (S := fun b => b = a.block) rfl fun b hb hlt => ho.2 b hlt fun ad ha e => hne ad ha (hb ▸ e)
theorem Sl.regA {r : Sl} {y : Sl} {β : Type} {F : Enc β} {U : TypeId} {m : List β} (reg : ∀ ad, r.a = some ad → (s.a = some ad ∨ w.heap.size ≤ ad.block)) (hA : Apart s y) (hy : OwnS F U w lo Q y m) : Apart r y := fun a b ha hb => by
  rcases reg a ha with h | h
  · exact hA a b h hb
  · have := (hy.block hb).2.1; omega
theorem Sl.regO {r : Sl} {g : Nat} (reg : ∀ ad, r.a = some ad → (s.a = some ad ∨ w.heap.size ≤ ad.block)) (hO : Off s g) (hg : g < w.heap.size) : Off r g := fun a ha => by
  rcases reg a ha with h | h
  · exact hO a h
  · omega
end
section
variable {w : World} {lo g : Nat} {stk nds ahd ws : Sl} {Q : Nat → Prop} {s : St} {P : Program}
theorem Sr0.pushNd {a : Addr} {cs : List Value} {x : Node} {t : TypeId} {k : Sl → World → Prop} (h : Sr0 w lo g stk nds ahd ws Q s) (hT : ApT P t 55 6 88) (hlo : lo ≤ w.heap.size) (hg : g < w.heap.size) (hx : nodeE.rep w Q x cs) (hc : ldc w a cs) (hn : s.ns.length ≤ 1000)
    (hk : ∀ (r : Sl) (w' : World), Sr0 w' lo g stk r ahd ws Q { s with ns := s.ns ++ [x] } → Below lo w w' → Oth nds w w' → (∀ ad, r.a = some ad → (nds.a = some ad ∨ w.heap.size ≤ ad.block)) → k r w') : appS P t t nds (Sl.v ⟨some a, 1, 1⟩) w k := by
  have hmx := maxLen_eq
  refine h.nodes.push (E := nodeE) hT hlo hx hc h.nodes.lt h.nodes.apart (by show (s.ns.length + 1) * 88 ≤ room; unfold room; omega) (by omega) fun r w' own bel oth reg => ?_
  have ho : Oth nds w w' := ⟨bel.size, oth⟩
  have hQ := h.nodes.apart
  refine hk r w' ⟨h.stack.oth ho h.a1 hQ, own.mono (fun b hb => hb.elim id id) (fun b hb => Nat.lt_of_lt_of_le (h.nodes.lt b hb) bel.size) (fun ad ha hb => ?_), h.ahead.oth ho h.a3.swap hQ, h.wants.oth ho hQ, h.q, (Sl.regA reg h.a1.swap h.stack).swap, h.a2, Sl.regA reg h.a3 h.ahead, h.o1, Sl.regO reg h.o2 hg, h.o3⟩ bel ho reg
  rcases reg ad ha with h1 | h1
  · exact hQ ad h1 hb
  · have := h.nodes.lt _ hb; omega
theorem Sr0.pushCh {a : Addr} {cs : List Value} {x : Ch} {t : TypeId} {k : Sl → World → Prop} (h : Sr0 w lo g stk nds ahd ws Q s) (hT : ApT P t 78 5 64) (hlo : lo ≤ w.heap.size) (hg : g < w.heap.size) (hx : chE.rep w Q x cs) (hc : ldc w a cs) (hn : s.stack.length ≤ 100000)
    (hk : ∀ (r : Sl) (w' : World), Sr0 w' lo g r nds ahd ws Q { s with stack := s.stack ++ [x] } → Below lo w w' → Oth stk w w' → k r w') : appS P t t stk (Sl.v ⟨some a, 1, 1⟩) w k := by
  have hmx := maxLen_eq
  refine h.stack.push (E := chE) hT hlo hx hc h.stack.lt h.stack.apart (by show (s.stack.length + 1) * 64 ≤ room; unfold room; omega) (by omega) fun r w' own bel oth reg => ?_
  have ho : Oth stk w w' := ⟨bel.size, oth⟩
  have hQ := h.stack.apart
  refine hk r w' ⟨own.mono (fun b hb => hb.elim id id) (fun b hb => Nat.lt_of_lt_of_le (h.stack.lt b hb) bel.size) (fun ad ha hb => ?_), h.nodes.oth ho h.a1.swap hQ, h.ahead.oth ho h.a2.swap hQ, h.wants.oth ho hQ, h.q, Sl.regA reg h.a1 h.nodes, Sl.regA reg h.a2 h.ahead, h.a3, Sl.regO reg h.o1 hg, h.o2, h.o3⟩ bel ho
  rcases reg ad ha with h1 | h1
  · exact hQ ad h1 hb
  · have := h.stack.lt _ hb; omega
theorem Sr0.pushAh {a : Addr} {x : Nat} {t : TypeId} {k : Sl → World → Prop} (h : Sr0 w lo g stk nds ahd ws Q s) (hT : ApT P t 3 1 8) (hlo : lo ≤ w.heap.size) (hg : g < w.heap.size) (hc : ldc w a [.int .i64 (x : Int)]) (hn : s.ahead.length ≤ 100000)
    (hk : ∀ (r : Sl) (w' : World), Sr0 w' lo g stk nds r ws Q { s with ahead := s.ahead ++ [x] } → Below lo w w' → Oth ahd w w' → k r w') : appS P t t ahd (Sl.v ⟨some a, 1, 1⟩) w k := by
  have hmx := maxLen_eq
  refine h.ahead.push (E := intE) (x := (x : Int)) hT hlo ⟨rfl, trivial⟩ hc h.ahead.lt h.ahead.apart (by show ((s.ahead.map Int.ofNat).length + 1) * 8 ≤ room; rw [List.length_map]; unfold room; omega) (by rw [List.length_map]; omega) fun r w' own bel oth reg => ?_
  have ho : Oth ahd w w' := ⟨bel.size, oth⟩
  have hQ := h.ahead.apart
  refine hk r w' ⟨h.stack.oth ho h.a2 hQ, h.nodes.oth ho h.a3 hQ, ?_, h.wants.oth ho hQ, h.q, h.a1, (Sl.regA reg h.a2.swap h.stack).swap, (Sl.regA reg h.a3.swap h.nodes).swap, h.o1, h.o2, Sl.regO reg h.o3 hg⟩ bel ho
  have e : (s.ahead ++ [x]).map Int.ofNat = s.ahead.map Int.ofNat ++ [(x : Int)] := by rw [List.map_append]; rfl
  show OwnS intE 3 w' lo Q r ((s.ahead ++ [x]).map Int.ofNat)
  rw [e]
  refine own.mono (fun b hb => hb.elim id id) (fun b hb => Nat.lt_of_lt_of_le (h.ahead.lt b hb) bel.size) (fun ad ha hb => ?_)
  rcases reg ad ha with h1 | h1
  · exact hQ ad h1 hb
  · have := h.ahead.lt _ hb; omega
theorem Sr0.oth {w' : World} {x : Sl} (h : Sr0 w lo g stk nds ahd ws Q s) (ho : Oth x w w') (h1 : Apart stk x) (h2 : Apart nds x) (h3 : Apart ahd x) (hQ : ∀ ad, x.a = some ad → ¬ Q ad.block) : Sr0 w' lo g stk nds ahd ws Q s :=
  ⟨h.stack.oth ho h1 hQ, h.nodes.oth ho h2 hQ, h.ahead.oth ho h3 hQ, h.wants.oth ho hQ, h.q, h.a1, h.a2, h.a3, h.o1, h.o2, h.o3⟩
theorem Sr0.addQ {P : Nat → Prop} (h : Sr0 w lo g stk nds ahd ws Q s) (hP : ∀ b, P b → lo ≤ b ∧ b ≠ g ∧ b < w.heap.size) (h1 : ∀ ad, stk.a = some ad → ¬ P ad.block) (h2 : ∀ ad, nds.a = some ad → ¬ P ad.block) (h3 : ∀ ad, ahd.a = some ad → ¬ P ad.block) : Sr0 w lo g stk nds ahd ws (fun b => Q b ∨ P b) s :=
  have key : ∀ {α : Type} {E : Enc α} {T : TypeId} {x : Sl} {l : List α}, OwnS E T w lo Q x l → (∀ ad, x.a = some ad → ¬ P ad.block) → OwnS E T w lo (fun b => Q b ∨ P b) x l := fun o hn => o.mono (fun _ h => .inl h) (fun b hb => hb.elim (o.lt b) fun hb => (hP b hb).2.2) fun ad ha hb => hb.elim (o.apart ad ha) (hn ad ha)
  ⟨key h.stack h1, key h.nodes h2, key h.ahead h3, h.wants.mono fun _ h => .inl h, fun b hb => hb.elim (h.q b) fun hb => ⟨(hP b hb).1, (hP b hb).2.1⟩, h.a1, h.a2, h.a3, h.o1, h.o2, h.o3⟩
end
theorem setEdges_app {ns a : List Node} {k : Nat} {es : List Edge} (hk : k < ns.length) : (ns ++ a).set k { ns[k] with edges := es } = setEdges ns k es ++ a := by
  rw [List.set_append_left _ _ hk]
  congr 1
  unfold setEdges
  apply List.ext_getElem?
  intro i
  rw [List.getElem?_modify, List.getElem?_set]
  by_cases h : k = i
  · subst h
    rw [if_pos rfl, if_pos hk, List.getElem?_eq_getElem hk]; simp
  · rw [if_neg h]
    cases ns[i]? with
    | none => rfl
    | some n => simp [h]
theorem tells_any {e : List Pin} {n : ByteArray} : (tells e n).isSome = e.any (isN n) := by
  unfold tells
  rw [Option.isSome_map]
  cases h : e.any (isN n)
  · simp only [Bool.eq_false_iff, ne_eq, List.find?_isSome, not_exists, not_and]
    intro x hx hp
    have := List.any_eq_false.1 h x hx
    exact this hp
  · obtain ⟨x, hx, hp⟩ := List.any_eq_true.1 h
    rw [List.find?_isSome]
    exact ⟨x, hx, hp⟩
theorem addC_told {e : List Pin} {c : Ch} {v : Ver} (h : tells e c.name = some v) : addC e c = e := by
  unfold addC addO
  have : e.any (isN c.name) = true := by rw [← tells_any, h]; rfl
  cases c.vs[c.i]? with
  | none => rfl
  | some v => dsimp only; rw [if_pos this]
theorem addC_new {e : List Pin} {c : Ch} (h : tells e c.name = none) (hi : c.i < c.vs.length) : addC e c = e ++ [⟨c.name, c.vs[c.i]⟩] := by
  unfold addC addO
  have : e.any (isN c.name) = false := by rw [← tells_any, h]; rfl
  rw [List.getElem?_eq_getElem hi]
  dsimp only
  rw [if_neg (by rw [this]; decide)]
theorem addC_none {e : List Pin} {c : Ch} (hi : ¬ c.i < c.vs.length) : addC e c = e := by
  unfold addC addO
  rw [List.getElem?_eq_none (by omega)]
theorem addC_names {e : List Pin} {c : Ch} (h : (e.map (·.name)).Nodup) : ((addC e c).map (·.name)).Nodup := by
  cases ht : tells e c.name with
  | some v => rw [addC_told ht]; exact h
  | none =>
    by_cases hi : c.i < c.vs.length
    · rw [addC_new ht hi, List.map_append, List.nodup_append]
      refine ⟨h, by simp, fun a ha b hb => ?_⟩
      simp only [List.map_cons, List.map_nil, List.mem_singleton] at hb
      subst hb
      obtain ⟨x, hx, rfl⟩ := List.mem_map.1 ha
      exact tells_none ht x hx
    · rw [addC_none hi]; exact h
theorem addC_len (e : List Pin) (c : Ch) : (addC e c).length ≤ e.length + 1 := by
  cases ht : tells e c.name with
  | some v => rw [addC_told ht]; omega
  | none =>
    by_cases hi : c.i < c.vs.length
    · rw [addC_new ht hi, List.length_append]; simp
    · rw [addC_none hi]; omega
theorem targets_cons {q : Quest} {env r : List Pin} {p : Pin} {c : List Pin} (h : ctxRes q.L q.m.over env p = some c) : targets q env (p :: r) = (targets q env r).map fun xs => ⟨p.name, p.v, c, []⟩ :: xs := by
  rw [targets, h]
theorem targets_stop {q : Quest} {env r : List Pin} {p : Pin} (h : ctxRes q.L q.m.over env p = none) : targets q env (p :: r) = none := by
  rw [targets, h]
theorem putK_hit {N : Nat} {ks : List NKey} {x : Node} {xs : List Node} {i : Nat} (h : ks.findIdx? (fun y => decide (y = x.key)) = some i) : putK N ks (x :: xs) = (putK N ks xs).map fun r => (r.1, ⟨x.name, (i : Int)⟩ :: r.2) := by
  rw [putK, h]
theorem putK_full {N : Nat} {ks : List NKey} {x : Node} {xs : List Node} (h : ks.findIdx? (fun y => decide (y = x.key)) = none) (hN : ks.length = N) : putK N ks (x :: xs) = none := by
  rw [putK, h]
  dsimp only
  rw [if_pos hN]
theorem putK_new {N : Nat} {ks : List NKey} {x : Node} {xs : List Node} (h : ks.findIdx? (fun y => decide (y = x.key)) = none) (hN : ¬ ks.length = N) : putK N ks (x :: xs) = (putK N (ks ++ [x.key]) xs).map fun r => (x :: r.1, ⟨x.name, (ks.length : Int)⟩ :: r.2) := by
  rw [putK, h]
  dsimp only
  rw [if_neg hN]
theorem findIdx_key (ns : List Node) (x : Node) : (ns.map Node.key).findIdx? (fun y => decide (y = x.key)) = ns.findIdx? (fun y => decide (y.key = x.key)) := by
  rw [List.findIdx?_map]; rfl
end Go.Hal
namespace Go.Hal
open Go Go.RowKit Go.Proofs Go.Shelf
section
variable {w : World} {lo : Nat} {sp : Addr} {K : K7} {q : Quest} {s : St}
set_option maxHeartbeats 16000000 in
theorem bind_se {R : Int → World → Prop} (hC : Cs w lo q K) (h : SrAt w lo sp K s) (hI : InvS q 0 s) (hN : q.N ≤ 128) (hD : q.D ≤ 4096)
    (hgraph : ∀ w', q.bind s.ns s.ahead.length s.env = .graph → Ext w w' → R 33 w')
    (hmany : ∀ w', q.bind s.ns s.ahead.length s.env = .many → Below lo w w' → R 32 w')
    (hok : ∀ w' ns', q.bind s.ns s.ahead.length s.env = .ok ns' → Below lo w w' → SrAt w' lo sp K { s with ns := ns', ahead := s.ahead ++ [s.ns.length] } → R 0 w') :
    SE.resolve_search_bind (some sp) (q.N : Int) w R := by
  unfold SE.resolve_search_bind
  obtain ⟨stk, nds, ahd, ws, Q, hb, hlo, h0⟩ := h
  have hsl := h0.stack.len
  have hal := h0.ahead.len
  have hnl := h0.nodes.len
  rw [List.length_map] at hal
  have hk := hI.a
  have hnN := hI.n
  have hg := lo_lt hb
  have hmx := maxLen_eq
  have hx : s.ns[s.ahead.length]? = some s.ns[s.ahead.length] := List.getElem?_eq_getElem hk
  obtain ⟨ad, cs, hna, ⟨hNx, c, e, rfl, hctx, _⟩, hcx⟩ := h0.nodes.el hx
  have hcA := ctxAt_el hx
  have hcf := hI.c _ (List.getElem_mem hk)
  have henv : s.env = (s.stack.drop s.first).foldl addC s.ns[s.ahead.length].ctx := by unfold St.env; rw [hcA]
  have hsk : s.stack.length ≤ 4096 := by have := hI.k; have := hI.d; omega
  have hctxS : ∀ p ∈ s.ns[s.ahead.length].ctx, Str p.name := fun p hp => by
    obtain ⟨i, hi, rfl⟩ := List.mem_iff_getElem.1 hp
    obtain ⟨_, _, _, h, _⟩ := pinEl hctx hi
    exact h
  obtain ⟨S, r, hcat, hS, hrl, hcp⟩ := hC.cat
  refine ⟨sp, rfl, ahd, BoxAt.at1 hb (k := 9) (Ext.refl _) rfl, sp, rfl, nds, BoxAt.at1 hb (k := 8) (Ext.refl _) rfl, ad, ⟨hna, by omega, by omega⟩, c, by rw [hal]; exact (hcx _ (Ext.refl _)).mid (k := 4) rfl, ?_⟩
  refine SE.slices_Clone_apiPinapiPin.go (clonePin_se (S := Q) h0.nodes.lt hctx fun t w1 x1 own1 => ⟨_, rfl, bnd.drew fun w2 x2 => ⟨sp, rfl, stk, BoxAt.at1 hb (k := 7) (x1.trans x2) rfl, sp, rfl, (s.first : Int), BoxAt.at1 hb (k := 11) (x1.trans x2) rfl, ⟨by omega, by have := hI.f; omega⟩, ?_⟩⟩)
  have hCut : SlR chE w (fun b => Q b ∨ ∃ ad, stk.a = some ad ∧ b = ad.block) (Sl.cut stk s.first stk.len 5) ((s.stack.take stk.len).drop s.first) := SlR.cut (E := chE) (h0.stack.read (by show s.stack.length * 64 ≤ room; unfold room; omega) (by omega)) (by have := hI.f; omega) (by omega)
  rw [List.take_of_length_le (by omega)] at hCut
  have ef : ((s.first : Int)).toNat = s.first := Int.toNat_natCast _
  rw [ef]
  generalize hcs : Sl.cut stk s.first stk.len 5 = cutS at hCut ⊢
  have hLl : (s.stack.drop s.first).length ≤ 4096 := by rw [List.length_drop]; omega
  generalize hL : s.stack.drop s.first = L at *
  have hcl := hCut.len
  have hsz1 := x1.size
  have hsz2 := x2.size
  refine loop2.up hCut.max (fun env i w' => Ext w w' ∧ OwnS pinE 91 w' w.heap.size None' env ((L.take i).foldl addC s.ns[s.ahead.length].ctx) ∧ (((L.take i).foldl addC s.ns[s.ahead.length].ctx).map (·.name)).Nodup ∧ (∀ p ∈ (L.take i).foldl addC s.ns[s.ahead.length].ctx, Str p.name) ∧ ((L.take i).foldl addC s.ns[s.ahead.length].ctx).length ≤ 2048 + i)
    ⟨x1.trans x2, own1.ext x2, hcf.1, hctxS, hcf.2⟩ fun env i w3 nxt hi ⟨x3, own3, hnd, hst, hlen⟩ hn => ⟨fun hlt => join.named fun J hJ => ?_, fun hge => ?_⟩
  · have hlt' : i < L.length := by omega
    obtain ⟨ad16, cs16, ha16, _, ⟨hNc, v, rfl, hv⟩, hcc⟩ := hCut.el hlt'
    have estep : (L.take (i + 1)).foldl addC s.ns[s.ahead.length].ctx = addC ((L.take i).foldl addC s.ns[s.ahead.length].ctx) L[i] := by
      rw [List.take_succ_eq_append_getElem hlt', List.foldl_append]; rfl
    rw [estep] at hn
    generalize (L.take i).foldl addC s.ns[s.ahead.length].ctx = A at *
    generalize L[i] = ch at *
    have hs3 := x3.size
    have kJ : ∀ env' w', Ext w w' → OwnS pinE 91 w' w.heap.size None' env' (addC A ch) → J env' w' := fun env' w' x' o' => by
      subst hJ
      refine hn hlt' _ _ ⟨x', o', addC_names hnd, fun p hp => ?_, by have := addC_len A ch; omega⟩
      cases ht : tells A ch.name with
      | some v => rw [addC_told ht] at hp; exact hst p hp
      | none =>
        by_cases hi : ch.i < ch.vs.length
        · rw [addC_new ht hi] at hp
          rcases List.mem_append.1 hp with hp | hp
          · exact hst p hp
          · simp only [List.mem_singleton] at hp; subst hp; exact hNc
        · rw [addC_none hi] at hp; exact hst p hp
    clear hJ
    have eP : pinE.bytes = 40 := rfl
    have hEnv : SlR pinE w3 (fun b => w.heap.size ≤ b) env A := own3.readF (by decide) (by rw [eP]; unfold room; omega)
    refine ⟨ad16, ⟨ha16, by omega, hlt⟩, _, _, v, _, _, hcc _ x3, newS.intro fun a w4 x4 hb4 hab4 _ => stw0.intro hb4 (by simp) fun w5 b5 _ hb5 => ⟨_, hb5.at1 (k := 1) (Ext.refl _) rfl, ?_⟩⟩
    have x35 : Ext w3 w5 := b5.ext x4 (by omega)
    have x05 := x3.trans x35
    refine SE.resolve_told.go (rsTold_se (hEnv.ext x35) (fun v' w6 ht x6 => ⟨_, _, _, _, rfl, newS.intro fun a25 w7 x7 hb7 hab7 _ => stw0.intro hb7 (by simp) fun w8 b8 _ hb8 => bound ?_⟩) fun w6 ht x6 => ⟨_, _, _, _, rfl, newS.intro fun a25 w7 x7 hb7 hab7 _ => stw0.intro hb7 (by simp) fun w8 b8 _ hb8 => bound ?_⟩)
    · have x58 : Ext w5 w8 := x6.trans (b8.ext x7 (by omega))
      refine ⟨0, (fun h => by cases h), Sl.nil, (fun h => by cases h), (fun h => by cases h), fun _ => kJ _ _ (x05.trans x58) ?_⟩
      rw [addC_told ht]
      exact own3.ext (x35.trans x58)
    · have x58 : Ext w5 w8 := x6.trans (b8.ext x7 (by omega))
      have x08 := x05.trans x58
      have hvl := hv.len
      refine ⟨(ch.i : Int), fun _ => hb5.at1 (k := 4) x58 rfl, v, fun _ => hb5.at1 (k := 2) x58 rfl, fun hh => ?_, fun hh => ?_⟩
      · have hci : ch.i < ch.vs.length := by simp at hh; omega
        obtain ⟨ad34, cs34, ha34, _, ⟨hcs34, _⟩, hcv⟩ := hv.el hci
        subst hcs34
        refine bnd.drew fun w9 x9 => ⟨_, hb5.at1 (k := 1) (x58.trans x9) rfl, v, hb5.at1 (k := 2) (x58.trans x9) rfl, (ch.i : Int), hb5.at1 (k := 4) (x58.trans x9) rfl, ad34, ⟨ha34, by omega, by omega⟩, _, _, _, hcv _ (x08.trans x9), newS.intro fun a37 w10 x10 hb10 _ _ => ?_⟩
        refine (own3.ext (((x35.trans x58).trans x9).trans x10)).pushF (((x08.trans x9).trans x10)) apPin (x := ⟨ch.name, ch.vs[ch.i]⟩) ⟨rfl, hNc⟩ hb10.ldc (by decide) (by rw [eP]; unfold room; omega) fun r' w11 own11 x11 => kJ r' w11 x11 ?_
        rw [addC_new ht hci]
        exact own11
      · have hci : ¬ ch.i < ch.vs.length := by simp at hh; omega
        refine kJ _ _ x08 ?_
        rw [addC_none hci]
        exact own3.ext (x35.trans x58)
  · have hiL : i = L.length := by omega
    rw [hiL, List.take_length, ← henv] at own3 hnd hst hlen
    have hs3 := x3.size
    have hEl : s.env.length ≤ 7000 := by omega
    generalize hE0 : s.env = E0 at *
    have hF : FlatO pinC 40 w3 w.heap.size env E0 := FlatO.of (E := pinE) (f := pinC) (bytes := 40) (fun x cs h => h.1) own3 (by unfold room; omega)
    refine sortPinB_k hF hs3 hnd fun w4 b4 hF4 => ⟨rfl, ?_⟩
    have x04 : Ext w w4 := x3.trans' b4
    have hs4 := x04.size
    have hstS : ∀ p ∈ sortN E0, Str p.name := fun p hp => hst p ((sortN_perm E0).mem_iff.1 hp)
    have hE : SlR pinE w4 (fun b => w.heap.size ≤ b ∧ b < w4.heap.size) env (sortN E0) := hF4.pins hstS
    have hESl : (sortN E0).length ≤ 7000 := by rw [(sortN_perm E0).length_eq]; exact hEl
    have hbind : q.bind s.ns s.ahead.length E0 = match targets q (sortN E0) (sortN E0) with
      | none => .graph
      | some xs => match putK q.N (s.ns.map Node.key) xs with
        | none => .many
        | some r => .ok (setEdges s.ns s.ahead.length r.2 ++ r.1) := rfl
    generalize sortN E0 = ES at *
    clear own3 hnd hst hlen hF hF4 hctxS hn b4 x3 hs3 hi hge own1
    have hel := hE.len
    refine loop2.up hE.max (fun tg i w' => Ext w4 w' ∧ ∃ (SS : Nat → Prop) (done : List Node), OwnS nodeE 55 w' w4.heap.size SS tg done ∧ (∀ b, SS b → w4.heap.size ≤ b) ∧ targets q ES ES = (targets q ES (ES.drop i)).map (fun r => done ++ r) ∧ done.length = i)
      ⟨Ext.refl _, None', [], OwnS.nil _ _, fun _ h => h.elim, by rw [List.drop_zero]; cases targets q ES ES <;> rfl, rfl⟩ fun tg i w5 nxt hi ⟨x5, SS, done, own5, hSS, htg, hdl⟩ hn => ⟨fun hlt => ?_, fun hge => ?_⟩
    · have hlt' : i < ES.length := by omega
      obtain ⟨ad6, ha6, _, hNp, hc6⟩ := pinEl hE hlt'
      rw [List.drop_eq_getElem_cons hlt'] at htg
      generalize ES[i] = p at *
      have hs5 := x5.size
      refine ⟨ad6, ⟨ha6, by omega, hlt⟩, _, _, _, _, hc6 _ x5, newS.intro fun a6 w6 x6 hb6 hab6 _ => stw0.intro hb6 (by simp) fun w7 b7 _ hb7 => bnd.drew fun w8 x8 => ?_⟩
      have x57 : Ext w5 w7 := b7.ext x6 (by omega)
      have x58 := x57.trans x8
      have x48 := x5.trans x58
      have x08 := x04.trans x48
      have hs8 := x58.size
      refine ⟨sp, rfl, some K.cp, BoxAt.at0 hb x08 rfl, sp, rfl, K.mD, K.mDev, K.mOpt, K.mOv, BoxAt.at1 hb (k := 1) x08 rfl, _, _, _, _, hb7.at0 (r := []) x8 rfl, ?_⟩
      have hC8 := hC.below (x08.below' lo hC.le)
      refine SE.wants_Context.go (wantsContext_se (hcat.ext x08) hC8.old (S3 := fun b => w.heap.size ≤ b ∧ b < w4.heap.size) (fun b hb => by have := x48.size; omega) hC8.over (hE.ext x48) hNp (fun cx t w9 hres x9 hF9 hst9 => ⟨_, _, rfl, (fun h => by cases h), fun _ => ?_⟩) fun w9 hres x9 => ⟨_, _, rfl, fun _ => ?_, (fun h => by cases h)⟩)
      · have hs9 := x9.size
        have x79 := x8.trans x9
        refine ⟨_, hb7.at0 x79 rfl, _, _, _, hb7.at1 (k := 1) (r := []) x79 rfl, newS.intro fun a10 w10 x10 hb10 hab10 _ => ?_⟩
        have x510 := (x58.trans x9).trans x10
        have hs10 := x10.size
        refine (own5.ext x510).push (E := nodeE) apNode (x := ⟨p.name, p.v, cx, []⟩) (S' := fun b => w8.heap.size ≤ b ∧ b < w9.heap.size) (by have := x510.size; omega) ⟨hNp, t, Sl.nil, rfl, (hF9.pins hst9).ext x10, SlR.nil trivial⟩ hb10.ldc (fun b hb => by omega) (fun ad had hb => by have := (own5.block had).2.1; omega) (by show (done.length + 1) * 88 ≤ room; unfold room; omega) (by omega) fun r' w11 own11 bel11 oth11 reg11 => ?_
        refine hn hlt' _ _ ⟨(x5.trans x510).trans' bel11, _, done ++ [⟨p.name, p.v, cx, []⟩], own11, fun b hb => ?_, ?_, by rw [List.length_append, hdl]; rfl⟩
        · rcases hb with hb | hb
          · exact hSS b hb
          · omega
        · rw [htg, targets_cons hres, Option.map_map]
          congr 1
          funext r
          simp
      · refine hgraph w9 ?_ (x08.trans x9)
        rw [hbind, htg, targets_stop hres]; rfl
    · have hiL : i = ES.length := by omega
      have htg' : targets q ES ES = some done := by
        rw [htg, hiL, List.drop_length, targets]; simp
      rw [htg'] at hbind
      dsimp only at hbind
      clear htg hn htg'
      have hs5 := x5.size
      have x05 := x04.trans x5
      have hs05 := x05.size
      generalize done = xs at *
      have hxl : xs.length ≤ 7000 := by omega
      obtain ⟨ST, hST, hSTb⟩ : ∃ ST, SlR nodeE w5 ST tg xs ∧ ∀ b, ST b → w4.heap.size ≤ b ∧ b < w5.heap.size := ⟨_, own5.read (by show xs.length * 88 ≤ room; unfold room; omega) (by omega), fun b hb => by
        rcases hb with hb | ⟨ad, had, rfl⟩
        · exact ⟨hSS b hb, own5.lt b hb⟩
        · exact ⟨(own5.block had).1, (own5.block had).2.1⟩⟩
      have hndb : ∀ ad, nds.a = some ad → ad.block < w.heap.size := fun ad had => (h0.nodes.block had).2.1
      have hahb : ∀ ad, ahd.a = some ad → ad.block < w.heap.size := fun ad had => (h0.ahead.block had).2.1
      have hstb : ∀ ad, stk.a = some ad → ad.block < w.heap.size := fun ad had => (h0.stack.block had).2.1
      obtain ⟨Q2, h5, hQ2, hQS⟩ : ∃ Q2, Sr0 w5 lo sp.block stk nds ahd ws Q2 s ∧ (∀ b, Q2 b → b < w5.heap.size) ∧ ∀ b, ST b → Q2 b := ⟨_, h0.grow x05 hC.le hg, fun b hb => by
        rcases hb with hb | hb
        · have := h0.nodes.lt b hb; omega
        · exact hb.2, fun b hb => .inr ⟨by have := hSTb b hb; omega, (hSTb b hb).2⟩⟩
      have htl := hST.len
      refine ⟨sp, rfl, nds, BoxAt.at1 hb (k := 8) x05 rfl, ?_⟩
      refine loop2.up hST.max (fun eg i w' => ∃ (nds' : Sl) (added : List Node) (es : List Edge), BoxAt w' sp (srCells K stk nds' ahd ws s.first) ∧ Sr0 w' lo sp.block stk nds' ahd ws Q2 { s with ns := s.ns ++ added } ∧ (∀ ad, nds'.a = some ad → ad.block < w.heap.size ∨ w5.heap.size ≤ ad.block) ∧ Below lo w5 w' ∧ (∀ b, w.heap.size ≤ b → b < w5.heap.size → w'.heap[b]? = w5.heap[b]?) ∧
          OwnS edgeE 115 w' w5.heap.size None' eg es ∧ Apart eg nds' ∧ putK q.N (s.ns.map Node.key) xs = (putK q.N ((s.ns ++ added).map Node.key) (xs.drop i)).map (fun r => (added ++ r.1, es ++ r.2)) ∧ es.length = i ∧ (s.ns ++ added).length ≤ q.N)
        ⟨nds, [], [], hb.ext x05, by rw [List.append_nil]; exact h5, fun ad had => .inl (hndb ad had), Below.refl _ _, fun _ _ _ => rfl, OwnS.nil _ _, fun _ _ h => (by cases h), by rw [List.append_nil, List.drop_zero]; cases putK q.N (s.ns.map Node.key) xs <;> rfl, rfl, by rw [List.append_nil]; exact hnN⟩
        fun eg i w6 nxt hi ⟨nds', added, es, hb6, h6, hnb6, bel6, mid6, own6, hA6, hpk, hesl, hnl6⟩ hn => ⟨fun hlt => ?_, fun hge => ?_⟩
      · have hlt' : i < xs.length := by omega
        have hs6 := bel6.size
        have hT6 : SlR nodeE w6 ST tg xs := hST.keep fun b hb hbl => mid6 b (by have := hSTb b hb; omega) hbl
        obtain ⟨ad7, cs7, ha7, _, ⟨hNy, cy, ey, rfl, hcy, hey⟩, hcc7⟩ := hT6.el hlt'
        rw [List.drop_eq_getElem_cons hlt'] at hpk
        have hnl6' := h6.nodes.len
        generalize xs[i] = x at *
        refine ⟨ad7, ⟨ha7, by omega, hlt⟩, _, _, _, _, cy, ey, hcc7 _ (Ext.refl _), newS.intro fun a7 w7 x7 hb7 hab7 _ => stw0.intro hb7 (by simp) fun w8 b8 _ hb8 => ?_⟩
        have hs7 := x7.size
        have x68 : Ext w6 w8 := b8.ext x7 (by omega)
        have hs8 := x68.size
        have hnds : SlR nodeE w8 (fun b => Q2 b ∨ ∃ ad, nds'.a = some ad ∧ b = ad.block) nds' (s.ns ++ added) := (h6.nodes.ext x68).read (by show (s.ns ++ added).length * 88 ≤ room; unfold room; omega) (by show (s.ns ++ added).length ≤ maxLen; omega)
        have hsp6 : sp.block < w.heap.size := hg
        have x58s : w5.heap.size ≤ w8.heap.size := by omega
        refine ⟨sp, rfl, nds', BoxAt.at1 hb6 (k := 8) x68 rfl, SE.slices_IndexFunc_apiNodeapiNode.go (idxNode_se (p := fun y => decide (y.key = x.key)) hnds (fun y _ c' e' w'' k hx'' hcy' hk => ⟨_, _, rfl, entersBind2, SE.resolve_search_bind_2.go (bind2_se (x := x) (y := y) (hb8.ext hx'') ((hcy.ext x68).ext hx'') hcy' hk)⟩) fun w9 x9 => ⟨_, rfl, join.named fun J hJ => ?_⟩)⟩
        have x69 := x68.trans x9
        have hs9 := x69.size
        have hb9 := hb8.ext x9
        have kJ : ∀ (to : Int) (w10 : World) (nds2 : Sl) (added2 : List Node), BoxAt w10 a7 [.string x.name, .int .i64 x.v.ma, .int .i64 x.v.mi, .int .i64 x.v.pa, cy.v, ey.v] → BoxAt w10 sp (srCells K stk nds2 ahd ws s.first) → Sr0 w10 lo sp.block stk nds2 ahd ws Q2 { s with ns := s.ns ++ added2 } → (∀ ad, nds2.a = some ad → ad.block < w.heap.size ∨ w5.heap.size ≤ ad.block) → Below lo w5 w10 → (∀ b, w.heap.size ≤ b → b < w5.heap.size → w10.heap[b]? = w5.heap[b]?) →
            OwnS edgeE 115 w10 w5.heap.size None' eg es → Apart eg nds2 → putK q.N (s.ns.map Node.key) xs = (putK q.N ((s.ns ++ added2).map Node.key) (xs.drop (i + 1))).map (fun r => (added2 ++ r.1, (es ++ [⟨x.name, to⟩]) ++ r.2)) → (s.ns ++ added2).length ≤ q.N → J to w10 := by
          subst hJ
          intro to w10 nds2 added2 hb10 hsp10 h10 hnb10 bel10 mid10 own10 hA10 hpk10 hnl10
          refine ⟨_, hb10.at0 (Ext.refl _) rfl, newS.intro fun a11 w11 x11 hb11 hab11 _ => ?_⟩
          have hs10 := bel10.size
          have hs11 := x11.size
          have bel11 : Below lo w5 w11 := Below.trans bel10 (x11.below' lo (by have := hC.le; omega))
          refine (own10.ext x11).push (E := edgeE) apEdge (x := ⟨x.name, to⟩) (S' := None') (by omega) ⟨rfl, hNy⟩ hb11.ldc (fun _ h => h.elim) (fun _ _ h => h.elim) (by show (es.length + 1) * 24 ≤ room; unfold room; omega) (by omega) fun r' w12 own12 bel12 oth12 reg12 => ?_
          have hs12 := bel12.size
          have ho : Oth eg w11 w12 := ⟨bel12.size, oth12⟩
          have hegb : ∀ ad, eg.a = some ad → w5.heap.size ≤ ad.block := fun ad had => (own10.block had).1
          refine hn hlt' r' w12 ⟨nds2, added2, es ++ [⟨x.name, to⟩], (hsp10.ext x11).oth ho (fun ad had => by have := hegb ad had; omega), (h10.ext x11).oth ho (fun a b ha hb => by have := hstb a ha; have := hegb b hb; omega) hA10.swap (fun a b ha hb => by have := hahb a ha; have := hegb b hb; omega) (fun ad had hq => by have := hegb ad had; have := hQ2 _ hq; omega), hnb10,
            Below.trans bel11 (Below.mono bel12 (by have := hC.le; omega)), fun b h1 h2 => ?_, own12.mono (fun _ h => h.elim id id) (fun _ h => h.elim) (fun _ _ h => h.elim), Sl.regA reg12 hA10 (h10.nodes.ext x11), hpk10, by rw [List.length_append, hesl]; rfl, hnl10⟩
          rw [oth12 b (by omega) fun ad had e => by have := hegb ad had; omega, x11.block (by omega)]
          exact mid10 b h1 h2
        clear hJ
        have hkey := findIdx_key (s.ns ++ added) x
        have hnlN : (s.ns ++ added).length = s.ns.length + added.length := List.length_append
        cases hf : (s.ns ++ added).findIdx? (fun y => decide (y.key = x.key)) with
        | some j =>
          have hidx : idxI (fun y : Node => decide (y.key = x.key)) (s.ns ++ added) = (j : Int) := by unfold idxI; rw [hf]
          rw [hidx]
          rw [hf] at hkey
          refine ⟨fun h => by omega, fun _ => kJ (j : Int) w9 nds' added hb9 (hb6.ext x69) (h6.ext x69) hnb6 (Below.trans bel6 (x69.below' lo (by have := hC.le; omega))) (fun b h1 h2 => by rw [x69.block (by omega)]; exact mid6 b h1 h2) (own6.ext x69) hA6 ?_ hnl6⟩
          rw [hpk, putK_hit hkey, Option.map_map]
          congr 1
          funext r
          simp
        | none =>
          have hidx : idxI (fun y : Node => decide (y.key = x.key)) (s.ns ++ added) = -1 := by unfold idxI; rw [hf]
          rw [hidx]
          rw [hf] at hkey
          have hlen6 : nds'.len = (s.ns ++ added).length := hnl6'
          refine ⟨fun _ => ⟨sp, rfl, nds', BoxAt.at1 hb6 (k := 8) x69 rfl, fun hfull => ?_, fun hnf => ?_⟩, fun h => absurd (by decide) h⟩
          · refine hmany w9 ?_ (Below.trans (Below.trans (x05.below' lo hC.le) bel6) (x69.below' lo (by have := hC.le; omega)))
            rw [hbind, hpk, putK_full hkey (by rw [List.length_map]; omega)]; rfl
          · refine ⟨sp, rfl, nds', BoxAt.at1 hb6 (k := 8) x69 rfl, bnd.drew fun w10 x10 => ⟨sp, rfl, nds', BoxAt.at1 hb6 (k := 8) (x69.trans x10) rfl, _, _, _, _, cy, ey, hb9.at0 (r := []) x10 rfl, newS.intro fun a11 w11 x11 hb11 hab11 _ => ?_⟩⟩
            have hs10 := x10.size
            have hs11 := x11.size
            have x611 := (x69.trans x10).trans x11
            have bel11 : Below lo w5 w11 := Below.trans bel6 (x611.below' lo (by have := hC.le; omega))
            refine Sr0.pushNd (x := x) (h6.ext x611) apNode (by have := hC.le; omega) (by omega) ⟨hNy, cy, ey, rfl, (hcy.ext x611).mono hQS, (hey.ext x611).mono hQS⟩ hb11.ldc (by show (s.ns ++ added).length ≤ 1000; omega) fun r' w12 h12 bel12 ho12 reg12 => ?_
            have hs12 := bel12.size
            have hnne : ∀ ad, nds'.a = some ad → ad.block < w11.heap.size := fun ad had => by have := (h6.nodes.block had).2.1; omega
            have hne7 : ∀ ad, nds'.a = some ad → a7.block ≠ ad.block := fun ad had => by have := (h6.nodes.block had).2.1; omega
            have hb12 : BoxAt w12 sp (srCells K stk nds' ahd ws s.first) := (hb6.ext x611).oth ho12 fun ad had e => h6.o2 ad had e.symm
            refine ⟨sp, rfl, ?_⟩
            refine stw.intro (o := 8) hb12 (by show 9 ≤ 12; omega) fun w13 b13 hz13 hb13 => ?_
            have hs13 := b13.1
            have hne7' : a7.block ≠ sp.block := by omega
            have hrb : ∀ ad, r'.a = some ad → ad.block < w.heap.size ∨ w5.heap.size ≤ ad.block := fun ad had => by
              rcases reg12 ad had with h | h
              · exact hnb6 ad h
              · right; omega
            have hA12 : Apart eg r' := (Sl.regA reg12 hA6.swap (own6.ext x611)).swap
            have hto : ((nds'.len : Int)) = (((s.ns ++ added).map Node.key).length : Int) := by rw [List.length_map, hlen6]
            rw [hto]
            refine kJ _ w13 r' (added ++ [x]) (b13.box ((hb9.ext (x10.trans x11)).oth ho12 hne7) hne7') hb13 ?_ hrb (Below.trans (Below.trans bel11 bel12) (b13.below (by have := hC.le; omega) hlo)) (fun b h1 h2 => ?_) ?_ hA12 ?_ ?_
            · have h13 := h12.but b13
              have e1 : s.ns ++ added ++ [x] = s.ns ++ (added ++ [x]) := List.append_assoc _ _ _
              rw [← e1]; exact h13
            · rw [b13.2.2.2.2 b (by omega) (by omega), ho12.2 b (by omega) fun ad had e => by rcases hnb6 ad had with h | h <;> omega, x611.block (by omega)]
              exact mid6 b h1 h2
            · exact ((own6.ext x611).oth ho12 hA6 fun _ _ h => h.elim).but b13 (fun h => h.elim) fun ad had => by have := (own6.block had).1; omega
            · have e2 : (s.ns ++ (added ++ [x])).map Node.key = (s.ns ++ added).map Node.key ++ [x.key] := by rw [← List.append_assoc]; exact List.map_append
              rw [hpk, putK_new hkey (by rw [List.length_map]; omega), Option.map_map, e2]
              congr 1
              funext r
              simp
            · rw [List.length_append, List.length_append]
              rw [List.length_singleton]
              omega
      · have hiX : i = xs.length := by omega
        have hpk' : putK q.N (s.ns.map Node.key) xs = some (added, es) := by
          rw [hpk, hiX, List.drop_length, putK]; simp
        rw [hpk'] at hbind
        dsimp only at hbind
        clear hpk hpk' hn
        have hs6 := bel6.size
        have hnlN : (s.ns ++ added).length = s.ns.length + added.length := List.length_append
        have hk6 : s.ahead.length < (s.ns ++ added).length := by omega
        have hx6 : (s.ns ++ added)[s.ahead.length]? = some (s.ns ++ added)[s.ahead.length] := List.getElem?_eq_getElem hk6
        obtain ⟨ad8, cs8, ha8, _, _⟩ := h6.nodes.el hx6
        have hnl6' : nds'.len = (s.ns ++ added).length := h6.nodes.len
        have heg := own6.read (by show es.length * 24 ≤ room; unfold room; omega) (by omega)
        have hegb : ∀ ad, eg.a = some ad → w5.heap.size ≤ ad.block ∧ ad.block < w6.heap.size := fun ad had => ⟨(own6.block had).1, (own6.block had).2.1⟩
        have h7 := h6.addQ (P := fun b => ∃ ad, eg.a = some ad ∧ b = ad.block) (fun b ⟨ad, had, e⟩ => by have := hegb ad had; have := hC.le; subst e; exact ⟨by omega, by omega, by omega⟩) (fun a ha ⟨b, hb, e⟩ => by have := hstb a ha; have := hegb b hb; omega) (fun a ha ⟨b, hb, e⟩ => hA6 b a hb ha e.symm) (fun a ha ⟨b, hb, e⟩ => by have := hahb a ha; have := hegb b hb; omega)
        have heg7 : SlR edgeE w6 (fun b => Q2 b ∨ ∃ ad, eg.a = some ad ∧ b = ad.block) eg es := heg.mono fun b hb => by
          rcases hb with hb | hb
          · exact hb.elim
          · exact .inr hb
        generalize hQ3 : (fun b => Q2 b ∨ ∃ ad, eg.a = some ad ∧ b = ad.block) = Q3 at h7 heg7
        refine ⟨sp, rfl, nds', BoxAt.at1 hb6 (k := 8) (Ext.refl _) rfl, ad8, ⟨ha8, by omega, by omega⟩, ?_⟩
        rw [hal]
        have hgx : (s.ns ++ added)[s.ahead.length] = s.ns[s.ahead.length] := List.getElem_append_left hk
        refine h7.nodes.setEl (i := s.ahead.length) (x := { s.ns[s.ahead.length] with edges := es }) (o := 5) (new := [eg.v]) hk6 ha8 (fun cs hcs => ?_) (by show 5 + 1 ≤ 6; omega) fun w7 b7 hz7 own7 => ?_
        · rw [hgx] at hcs
          obtain ⟨k1, c', e', rfl, k2, k3⟩ := hcs
          exact ⟨k1, c', eg, rfl, k2, heg7⟩
        have hset : (s.ns ++ added).set s.ahead.length { s.ns[s.ahead.length] with edges := es } = setEdges s.ns s.ahead.length es ++ added := setEdges_app hk
        have own7' : OwnS nodeE 55 w7 lo Q3 nds' (setEdges s.ns s.ahead.length es ++ added) := by rw [← hset]; exact own7
        have hQ8 := h7.nodes.apart ad8 ha8
        have h8 : Sr0 w7 lo sp.block stk nds' ahd ws Q3 { s with ns := setEdges s.ns s.ahead.length es ++ added } := ⟨h7.stack.but b7 hQ8 fun a ha e => h7.a1 a ad8 ha ha8 e.symm, own7', h7.ahead.but b7 hQ8 fun a ha => h7.a3 ad8 a ha8 ha, h7.wants.but b7 hQ8, h7.q, h7.a1, h7.a2, h7.a3, h7.o1, h7.o2, h7.o3⟩
        have hb7 := b7.box hb6 (fun e => h6.o2 ad8 ha8 e.symm)
        have hs7 := b7.1
        have hl8 : lo ≤ ad8.block := (h7.nodes.block ha8).1
        have bel7 : Below lo w w7 := Below.trans (Below.trans (x05.below' lo hC.le) bel6) (b7.below (by have := hC.le; omega) hl8)
        refine ⟨sp, rfl, ahd, BoxAt.at1 hb7 (k := 9) (Ext.refl _) rfl, newS.intro fun a9 w9 x9 hb9 hab9 _ => ?_⟩
        have hs9 := x9.size
        rw [hnl] at hb9
        have hlo9 : lo ≤ w9.heap.size := by have := hC.le; omega
        refine Sr0.pushAh (x := s.ns.length) (h8.ext x9) apInt hlo9 (by omega) hb9.ldc (by show s.ahead.length ≤ 100000; omega) fun r' w10 h10 bel10 ho10 => ⟨sp, rfl, ?_⟩
        have hb10 : BoxAt w10 sp (srCells K stk nds' ahd ws s.first) := (hb7.ext x9).oth ho10 fun ad had e => h0.o3 ad had e.symm
        have hs10 := bel10.size
        refine stw.intro (o := 9) hb10 (by show 10 ≤ 12; omega) fun w11 b11 _ hb11 => hok w11 _ hbind ?_ ⟨stk, nds', r', ws, Q3, hb11, hlo, h10.but b11⟩
        exact Below.trans (Below.trans (Below.trans bel7 (x9.below' lo (by have := hC.le; omega))) bel10) (b11.below (by have := hC.le; omega) hlo)
end
end Go.Hal
namespace Go.Hal
def wDev : List UInt8 := [100, 101, 118]
def wPins : List UInt8 := [112, 105, 110, 115]
def pjText : List UInt8 := [112, 114, 111, 106, 101, 99, 116, 10]
def maniText (m : Mani) : List UInt8 := (((pjText ++ depLines wNeeds m.deps) ++ depLines wDev m.dev) ++ depLines wLikes m.opt) ++ depLines wPins m.over
def maniLists (m : Mani) : Bool := depsMay m.deps && depsMay m.dev && depsMay m.opt && depsMay m.over
def maniApart (m : Mani) : Bool := apart2 m.deps m.dev && apart2 m.deps m.opt && apart2 m.dev m.opt
def maniMay (m : Mani) : Bool := maniLists m && (maniApart m && decide ((maniText m).length ≤ 4096))
def sortedN : List Dep → Bool
  | [] => true
  | [_] => true
  | x :: y :: r => !decide (cmpS y.name x.name < 0) && sortedN (y :: r)
def okD (d : Dep) : Bool := nameMay d.name && spansMay d.range && !d.range.isEmpty
def wk (l : List Dep) : Bool := decide (l.length ≤ 16) && sortedN l && l.all okD
def may3 (a b c : List Dep) : Bool := depsMay a && depsMay b && depsMay c && decide ((a ++ b ++ c).map (·.name)).Nodup
theorem depsGo_wk : ∀ {l : List Dep} {p : Option ByteArray}, depsGo p l = true → sortedN l = true ∧ l.all okD = true
  | [], _, _ => ⟨rfl, rfl⟩
  | [x], p, h => by
    rw [depsGo] at h
    simp only [Bool.and_eq_true] at h
    exact ⟨rfl, by simp [okD, h.1.1.1.1, h.1.1.1.2, h.1.1.2]⟩
  | x :: y :: r, p, h => by
    rw [depsGo] at h
    simp only [Bool.and_eq_true] at h
    obtain ⟨h1, h2⟩ := depsGo_wk h.2
    rw [depsGo] at h
    simp only [Bool.and_eq_true, aheadOf] at h
    refine ⟨?_, ?_⟩
    · rw [sortedN, h1]
      have h3 : bLt x.name y.name = true := h.2.1.2
      have h4 : ¬ cmpS y.name x.name < 0 := fun hc => by rw [cmpS_lt, bLt_asymm h3] at hc; cases hc
      simp [h4]
    · rw [List.all_cons, h2]
      simp [okD, h.1.1.1.1, h.1.1.1.2, h.1.1.2]
theorem depsMay_wk {l : List Dep} (h : depsMay l = true) : wk l = true := by
  unfold depsMay at h
  simp only [Bool.and_eq_true] at h
  obtain ⟨h1, h2⟩ := depsGo_wk h.1
  unfold wk
  rw [h1, h2, h.2]; rfl
theorem wk_go : ∀ {l : List Dep} {p : Option ByteArray}, sortedN l = true → l.all okD = true → (l.map (·.name)).Nodup → (∀ x, l.head? = some x → aheadOf p x.name = true) → depsGo p l = true
  | [], _, _, _, _, _ => rfl
  | [x], p, _, h2, _, h4 => by
    rw [depsGo, depsGo, h4 x rfl]
    simp [okD] at h2
    simp [h2]
  | x :: y :: r, p, h1, h2, h3, h4 => by
    rw [sortedN] at h1
    rw [List.all_cons] at h2
    rw [Bool.and_eq_true] at h1 h2
    rw [List.map_cons, List.nodup_cons] at h3
    rw [depsGo, h4 x rfl, wk_go h1.2 h2.2 h3.2 fun z hz => ?_]
    · have := h2.1
      unfold okD at this
      rw [this]; rfl
    · simp only [List.head?_cons, Option.some.injEq] at hz
      subst hz
      show bLt x.name y.name = true
      have h5 : ¬ cmpS y.name x.name < 0 := by simpa using h1.1
      have hO := cmpS_ord (α := ByteArray) id
      have := hO.flip y.name x.name
      have := hO.flip x.name y.name
      simp only [id] at *
      refine bLt_of (by omega) fun e => h3.1 ?_
      rw [e]; simp
theorem wk_may {l : List Dep} (h : wk l = true) (hn : (l.map (·.name)).Nodup) : depsMay l = true := by
  unfold wk at h
  simp only [Bool.and_eq_true] at h
  unfold depsMay
  rw [wk_go h.1.2 h.2 hn fun _ _ => rfl, h.1.1]; rfl
theorem wk_may3 {a b c : List Dep} (ha : wk a = true) (hb : wk b = true) (hc : wk c = true) : may3 a b c = decide ((a ++ b ++ c).map (·.name)).Nodup := by
  unfold may3
  cases h : decide ((a ++ b ++ c).map (·.name)).Nodup
  · rw [Bool.and_false]
  · have hn := of_decide_eq_true h
    rw [List.map_append, List.map_append, List.nodup_append, List.nodup_append] at hn
    rw [wk_may ha hn.1.1, wk_may hb hn.1.2.1, wk_may hc hn.2.1]; rfl
theorem may3_false {a b c : List Dep} (h : wk a = false ∨ wk b = false ∨ wk c = false) : may3 a b c = false := by
  cases hm : may3 a b c
  · rfl
  · unfold may3 at hm
    simp only [Bool.and_eq_true] at hm
    rcases h with h | h | h
    · rw [depsMay_wk hm.1.1.1] at h; cases h
    · rw [depsMay_wk hm.1.1.2] at h; cases h
    · rw [depsMay_wk hm.1.2] at h; cases h
theorem may3_eq (a b c : List Dep) : may3 a b c = (depsMay a && depsMay b && depsMay c && (apart2 a b && apart2 a c && apart2 b c)) := by
  unfold may3
  cases h : (depsMay a && depsMay b && depsMay c)
  · simp
  · simp only [Bool.and_eq_true] at h
    rw [Bool.true_and, Bool.true_and, Bool.eq_iff_iff, decide_eq_true_eq, Bool.and_eq_true, Bool.and_eq_true, apart2_iff, apart2_iff, apart2_iff]
    have h1 := depsMay_nodup h.1.1; have h2 := depsMay_nodup h.1.2; have h3 := depsMay_nodup h.2
    rw [List.map_append, List.map_append, List.nodup_append, List.nodup_append]
    constructor
    · rintro ⟨⟨_, _, h4⟩, _, h5⟩
      exact ⟨⟨h4, fun x hx y hy => h5 x (List.mem_append_left _ hx) y hy⟩, fun x hx y hy => h5 x (List.mem_append_right _ hx) y hy⟩
    · rintro ⟨⟨h4, h5⟩, h6⟩
      exact ⟨⟨h1, h2, h4⟩, h3, fun x hx y hy => (List.mem_append.1 hx).elim (fun hx => h5 x hx y hy) fun hx => h6 x hx y hy⟩
theorem may_one (l : List Dep) : may3 l [] [] = depsMay l := by
  rw [may3_eq]
  have : apart2 l [] = true := by rw [apart2_iff]; intro x _ y hy; simp at hy
  have h2 : apart2 ([] : List Dep) [] = true := rfl
  have h3 : depsMay [] = true := rfl
  rw [this, h2, h3]; simp
theorem maniMay_eq (m : Mani) : maniMay m = ((may3 m.deps m.dev m.opt && may3 m.over [] []) && decide ((maniText m).length ≤ 4096)) := by
  rw [may_one, may3_eq]
  unfold maniMay maniLists maniApart
  cases depsMay m.deps <;> cases depsMay m.dev <;> cases depsMay m.opt <;> cases depsMay m.over <;> simp
theorem maniMay_lists {m : Mani} (h : maniMay m = true) : depsMay m.deps = true ∧ depsMay m.dev = true ∧ depsMay m.opt = true ∧ depsMay m.over = true ∧ maniApart m = true := by
  unfold maniMay maniLists at h
  simp only [Bool.and_eq_true] at h
  exact ⟨h.1.1.1.1, h.1.1.1.2, h.1.1.2, h.1.2, h.2.1⟩
theorem maniMay_small {m : Mani} (h : maniMay m = true) : m.deps.length + m.dev.length + m.opt.length ≤ 48 := by
  obtain ⟨h1, h2, h3, _⟩ := maniMay_lists h
  have := (depsMay_names h1).1; have := (depsMay_names h2).1; have := (depsMay_names h3).1
  omega
end Go.Hal
/-
  DERIVED: THE SHELF's CONTRACTS AT THIS DUMP, IN PLAIN WORDS (tools/lay-plain.mjs out of 'YtpdjadmnnadkfaaGreatDoorLay4.lean', which tools/lay-shelf.mjs wrote): THE SAME DECLARATIONS UNDER THE SAME NAMES: 'import', 'namespace', 'open', 'def', 'theorem' AND NOTHING ELSE: no command of the shelf's: FOR A HAND-IN. Each laying: the table of numbers ('.._ren') and one theorem, a field a fact of the dump's own or the kernel's comparison; each contract: ONE APPLICATION.
-/
namespace Go.Proofs
open Go.Shelf
def Tryz.laySd_ren : Go.Shelf.Ren := ⟨fun | 6 => 79 | 15 => 86 | 14 => 115 | 28 => 128 | 29 => 129 | 20 => 149 | 21 => 150 | 22 => 151 | 23 => 152 | 24 => 153 | 25 => 154 | 26 => 155 | 27 => 156 | 46 => 174 | 47 => 162 | 48 => 163 | 49 => 175 | 50 => 176 | 57 => 189 | n => n, fun | 22 => 23 | 24 => 63 | 25 => 144 | 3 => 3 | 39 => 157 | 0 => 0 | 53 => 197 | 55 => 199 | 4 => 4 | 46 => 191 | 45 => 190 | 50 => 164 | 5 => 5 | 9 => 9 | 66 => 218 | 70 => 222 | 76 => 231 | 77 => 232 | n => n, fun | n => n⟩
theorem Tryz.laySd : Go.Proofs.SlLaysF0.n6 Tryz.prog Tryz.laySd_ren := {
  mixed := by kernel_rfl
  f6 := ⟨Tryz.f79.name, by decide, Tryz.func79.trans (congrArg some (by kernel_rfl))⟩
  f14 := ⟨Tryz.f115.name, by decide, Tryz.func115.trans (congrArg some (by kernel_rfl))⟩
  f15 := Tryz.func86.trans (congrArg some (by kernel_rfl))
  f20 := ⟨Tryz.f149.name, by decide, Tryz.func149.trans (congrArg some (by kernel_rfl))⟩
  f21 := ⟨Tryz.f150.name, by decide, Tryz.func150.trans (congrArg some (by kernel_rfl))⟩
  f22 := ⟨Tryz.f151.name, by decide, Tryz.func151.trans (congrArg some (by kernel_rfl))⟩
  f23 := ⟨Tryz.f152.name, by decide, Tryz.func152.trans (congrArg some (by kernel_rfl))⟩
  f24 := ⟨Tryz.f153.name, by decide, Tryz.func153.trans (congrArg some (by kernel_rfl))⟩
  f25 := ⟨Tryz.f154.name, by decide, Tryz.func154.trans (congrArg some (by kernel_rfl))⟩
  f26 := ⟨Tryz.f155.name, by decide, Tryz.func155.trans (congrArg some (by kernel_rfl))⟩
  f27 := ⟨Tryz.f156.name, by decide, Tryz.func156.trans (congrArg some (by kernel_rfl))⟩
  f28 := Tryz.func128.trans (congrArg some (by kernel_rfl))
  f29 := Tryz.func129.trans (congrArg some (by kernel_rfl))
  f46 := ⟨Tryz.f174.name, by decide, Tryz.func174.trans (congrArg some (by kernel_rfl))⟩
  f47 := Tryz.func162.trans (congrArg some (by kernel_rfl))
  f48 := Tryz.func163.trans (congrArg some (by kernel_rfl))
  f49 := ⟨Tryz.f175.name, by decide, Tryz.func175.trans (congrArg some (by kernel_rfl))⟩
  f50 := ⟨Tryz.f176.name, by decide, Tryz.func176.trans (congrArg some (by kernel_rfl))⟩
  f57 := ⟨Tryz.f189.name, by decide, Tryz.func189.trans (congrArg some (by kernel_rfl))⟩
  t0 := Tryz.underlying0
  a0 := Tryz.isAgg0
  z0 := Tryz.sizeOf0
  v0 := Tryz.zeroValue0
  t3 := Tryz.underlying3
  a3 := Tryz.isAgg3
  z3 := Tryz.sizeOf3
  v3 := Tryz.zeroValue3
  t4 := Tryz.underlying4
  a4 := Tryz.isAgg4
  z4 := Tryz.sizeOf4
  v4 := Tryz.zeroValue4
  t5 := Tryz.underlying5
  a5 := Tryz.isAgg5
  z5 := Tryz.sizeOf5
  v5 := Tryz.zeroValue5
  t9 := Tryz.underlying9
  a9 := Tryz.isAgg9
  z9 := Tryz.sizeOf9
  v9 := Tryz.zeroValue9
  t22 := Tryz.underlying23
  a22 := Tryz.isAgg23
  z22 := Tryz.sizeOf23
  v22 := Tryz.zeroValue23
  t25 := Tryz.underlying144
  a25 := Tryz.isAgg144
  z25 := Tryz.sizeOf144
  v25 := Tryz.zeroValue144
  t39 := Tryz.underlying157
  a39 := Tryz.isAgg157
  z39 := Tryz.sizeOf157
  v39 := Tryz.zeroValue157
  t45 := Tryz.underlying190
  a45 := Tryz.isAgg190
  z45 := Tryz.sizeOf190
  v45 := Tryz.zeroValue190
  t46 := Tryz.underlying191
  a46 := Tryz.isAgg191
  z46 := Tryz.sizeOf191
  v46 := Tryz.zeroValue191
  t50 := Tryz.underlying164
  a50 := Tryz.isAgg164
  z50 := Tryz.sizeOf164
  v50 := Tryz.zeroValue164
  t53 := Tryz.underlying197
  a53 := Tryz.isAgg197
  z53 := Tryz.sizeOf197
  v53 := Tryz.zeroValue197
  t55 := Tryz.underlying199
  a55 := Tryz.isAgg199
  z55 := Tryz.sizeOf199
  v55 := Tryz.zeroValue199
  t66 := Tryz.underlying218
  a66 := Tryz.isAgg218
  z66 := Tryz.sizeOf218
  v66 := Tryz.zeroValue218
  t70 := Tryz.underlying222
  a70 := Tryz.isAgg222
  z70 := Tryz.sizeOf222
  v70 := Tryz.zeroValue222
  t76 := Tryz.underlying231
  a76 := Tryz.isAgg231
  z76 := Tryz.sizeOf231
  v76 := Tryz.zeroValue231
  t77 := Tryz.underlying232
  a77 := Tryz.isAgg232
  z77 := Tryz.sizeOf232
  v77 := Tryz.zeroValue232 }
end Go.Proofs
namespace Go.Hal
open Go Go.RowKit Go.Proofs Go.Shelf
instance : Inhabited Sl := ⟨Sl.nil⟩
theorem may1_gr {a b : ByteArray × Sl} {w : World} {R : Int → World → Prop} (hR : ∀ w', Gr w w' → R (cmpS a.1 b.1) w') : SE.manifest_may_1 a.1 a.2 b.1 b.2 w R := by
  unfold SE.manifest_may_1
  refine newS.gr fun _ w1 x1 hb => newS.gr fun _ w2 x2 hb2 => ⟨_, Gr.at0 hb x2 rfl, _, Gr.at0 hb2 (Gr.refl _) rfl, strCmp_k ⟨_, rfl, hR _ (x1.trans x2)⟩⟩
theorem entersMay1 : Enters Tryz.prog 77 := enters_of Tryz.func77 (by kernel_rfl) rfl
theorem may1_se {a b : ByteArray} {s t : Sl} {w : World} {R : Int → World → Prop} (hR : ∀ w', Ext w w' → R (cmpS a b) w') : SE.manifest_may_1 a s b t w R := by
  unfold SE.manifest_may_1
  refine newS.intro fun _ w1 x1 hb _ _ => newS.intro fun _ w2 x2 hb2 _ _ => ⟨_, hb.at0 x2 rfl, _, hb2.at0 (Ext.refl _) rfl, strCmp_k ⟨_, rfl, hR _ (x1.trans x2)⟩⟩
theorem sortedN_drop {l : List Dep} {i : Nat} (hi : i < l.length) (h0 : 0 < i) : sortedN (l.drop (i - 1)) = (!decide (cmpS l[i].name (l[i - 1]'(by omega)).name < 0) && sortedN (l.drop i)) := by
  have h1 : l.drop (i - 1) = l[i - 1]'(by omega) :: l.drop i := by
    rw [List.drop_eq_getElem_cons (by omega : i - 1 < l.length)]
    congr 2; omega
  rw [h1, List.drop_eq_getElem_cons hi, sortedN]
theorem sortedN_false {l : List Dep} : ∀ {i : Nat}, sortedN (l.drop i) = false → sortedN l = false := by
  intro i
  induction i generalizing l with
  | zero => intro h; simpa using h
  | succ i ih =>
    intro h
    cases l with
    | nil => simp at h; exact h
    | cons x r =>
      rw [List.drop_succ_cons] at h
      have := ih h
      cases r with
      | nil => cases this
      | cons y r => rw [sortedN, this, Bool.and_false]
theorem isSorted_se {s : Sl} {l : List Dep} {S : Nat → Prop} {w : World} {R : Bool → World → Prop} (hs : SlR depE w S s l) (hR : ∀ w', Ext w w' → R (sortedN l) w') : SE.slices_IsSortedFunc_apiDepapiDep s (.func (.func 77) #[] #[]) w R := by
  unfold SE.slices_IsSortedFunc_apiDepapiDep
  have hl := hs.len
  have hm := hs.max
  have hmx := maxLen_eq
  refine loop1.ghost (fun n i w' => Ext w w' ∧ ((l = [] ∧ i = -1) ∨ (i = (n : Int) ∧ n < l.length ∧ sortedN (l.drop n) = true))) (l.length - 1) ⟨Ext.refl _, ?_⟩ fun n i w1 nxt ⟨x1, hJ⟩ hn => ⟨fun hlt => ?_, fun hge => ?_⟩
  · rw [wrapI_eq (by omega) (by omega)]
    by_cases h0 : l = []
    · left; subst h0; rw [hl]; exact ⟨rfl, rfl⟩
    · right
      have : 0 < l.length := List.length_pos_iff.2 h0
      refine ⟨by omega, by omega, ?_⟩
      rw [List.drop_eq_getElem_cons (by omega), List.drop_eq_nil_of_le (by omega)]; rfl
  · rcases hJ with ⟨_, rfl⟩ | ⟨rfl, hnl, hI⟩
    · omega
    have h0 : 0 < n := by omega
    have ew : wrapI ((n : Int) - 1) = ((n - 1 : Nat) : Int) := by rw [wrapI_eq (by omega) (by omega)]; omega
    rw [ew]
    obtain ⟨ad, t, ha, _, hnm, _, hc⟩ := depEl hs hnl
    obtain ⟨ad2, t2, ha2, _, hnm2, _, hc2⟩ := depEl hs (n := n - 1) (by omega)
    have hstep := sortedN_drop hnl h0
    refine bnd.drew fun w2 x2 => ⟨ad, ⟨ha, by omega, by omega⟩, _, t, hc _ (x1.trans x2), ad2, ⟨ha2, by omega, by omega⟩, _, t2, hc2 _ (x1.trans x2), _, _, rfl, entersMay1, SE.manifest_may_1.go (may1_se fun w3 x3 => ⟨_, rfl, fun hneg => ?_, fun hpos => ?_⟩)⟩
    · rw [decide_eq_true hneg, Bool.not_true, Bool.false_and] at hstep
      have := hR w3 ((x1.trans x2).trans x3)
      rw [sortedN_false hstep] at this; exact this
    · rw [decide_eq_false hpos, hI] at hstep
      exact hn (n - 1) _ _ (by omega) ⟨(x1.trans x2).trans x3, .inr ⟨rfl, by omega, hstep⟩⟩
  · have hs : sortedN l = true := by
      rcases hJ with ⟨rfl, _⟩ | ⟨rfl, hnl, hI⟩
      · rfl
      · have : n = 0 := by omega
        subst this; simpa using hI
    have := hR w1 x1
    rw [hs] at this; exact this
theorem sortDep_k {w : World} {lo : Nat} {S : Nat → Prop} {s : Sl} {l : List Dep} {K : Value → World → Prop} (h : OwnS depE 63 w lo S s l) (hlo : lo ≤ w.heap.size) (hlen : l.length ≤ 1000)
    (hK : ∀ w' (z : List (ByteArray × Sl)), Below lo w w' → (z.map (·.1)).Perm (l.map (·.name)) → z.Pairwise (fun x y => cmpS x.1 y.1 ≤ 0) → (z = [] ∨ ∃ g tail, s.a = some ⟨g, 0, none⟩ ∧ RowB (fun x : ByteArray × Sl => [.string x.1, Sl.v x.2]) w' g z tail) → K (.tuple #[]) w') :
    callS Tryz.prog 79 [Sl.v s, .func (.func 77) #[] #[]] w K := by
  have hsl := h.len
  rcases h.rowG (fun x : ByteArray × Sl => [.string x.1, Sl.v x.2]) (fun y x => y.1 = x.name) (fun x cs (hx : depE.rep w S x cs) => by obtain ⟨_, t, hcs, _⟩ := hx; exact ⟨(x.name, t), hcs, rfl⟩) with ⟨rfl, rfl⟩ | ⟨g, z, tail, ha, hg, hz, hr, hrow, hc, hcm⟩
  · refine (AnyF.slices_SortFunc_none Tryz.laySd none 0 _ w).mono fun e w' ⟨he, hw⟩ => ⟨_, he, ?_⟩
    subst hw
    exact hK _ [] (Below.refl _ _) (List.Perm.refl _) List.Pairwise.nil (.inl rfl)
  · obtain ⟨a, n, c⟩ := s
    simp only at ha hsl
    subst ha
    have hzl : (z.map Prod.fst).length = l.length := by rw [← hz]; simp
    have hnm : (z.map Prod.fst).map (·.1) = l.map (·.name) := by
      rw [← hz, List.map_map, List.map_map]
      exact List.map_congr_left fun p hp => hr p hp
    subst hsl
    rw [← hzl]
    have hO := cmpS_ord (α := ByteArray × Sl) (·.1)
    refine sortFunc_k Tryz.laySd (k := 2) (fun w => by kernel_rfl) (fun w => by kernel_rfl) (f := fun x : ByteArray × Sl => [.string x.1, Sl.v x.2]) (fun _ => rfl) (fun x v hv => by simp [Sl.v] at hv; rcases hv with rfl | rfl <;> rfl) (fun a b => cmpS a.1 b.1) (swo_ltOf hO.flip hO.trans) 77 #[] entersMay1 (fun w0 x y hb _ => ?_) hrow (by omega) rfl fun l' w' hp hs b hr' => ?_
    · have h := SE.manifest_may_1.go (k := fun v w' => v = .int .i64 (cmpS x.1 y.1) ∧ Gr w0 w') (may1_gr (a := x) (b := y) (w := w0) fun w' h => ⟨rfl, h⟩)
      exact Calls.mono h fun e w' ⟨v, he, hv, hg⟩ => ⟨by rw [he, hv], hg⟩
    · refine hK w' l' (b.below hlo hg) ?_ (hs.imp fun {a b} h => by have := hO.flip b a; have := hO.flip a b; omega) (.inr ⟨g, tail, rfl, hr'⟩)
      rw [← hnm]
      exact hp.map _
theorem okB {d : Dep} {t2 : Bool} {n : Int} (h2 : nameMay d.name = true → t2 = spansMay d.range) (hn : (n == 0) = d.range.isEmpty) : (((!nameMay d.name) || (!t2)) || (n == 0)) = !okD d := by
  unfold okD
  rw [hn]
  cases h1 : nameMay d.name
  · simp
  · rw [h2 h1]
    cases spansMay d.range <;> cases d.range.isEmpty <;> rfl
set_option maxHeartbeats 4000000 in
theorem may3_se {sa sb sc : Sl} {la lb lc : List Dep} {S : Nat → Prop} {w : World} {R : Bool → World → Prop} (hS : Old S w) (ha : SlR depE w S sa la) (hb : SlR depE w S sb lb) (hc : SlR depE w S sc lc) (hR : ∀ w', Ext w w' → R (may3 la lb lc) w') : SE.manifest_may sa sb sc w R := by
  unfold SE.manifest_may
  have hmx := maxLen_eq
  have e40 : depE.bytes = 40 := rfl
  refine newS.intro fun a1 w1 x1 hb1 hab1 _ => ?_
  have hs1 := x1.size
  have hwkl : ∀ {l : List Dep}, wk l = true → l.length ≤ 16 := fun h => by
    unfold wk at h
    simp only [Bool.and_eq_true, decide_eq_true_eq] at h
    exact h.1.1
  refine loop2.up (N := 3) (by decide) (fun all i w' => Ext w w' ∧ Ext w1 w' ∧ ∃ (S' : Nat → Prop) (pre : List Dep), OwnS depE 63 w' w1.heap.size S' all pre ∧ (i = 0 → pre = []) ∧ (i = 1 → pre = la) ∧ (i = 2 → pre = la ++ lb) ∧ (i = 3 → pre = la ++ lb ++ lc) ∧ (0 < i → wk la = true) ∧ (1 < i → wk lb = true) ∧ (2 < i → wk lc = true))
    ⟨x1, Ext.refl _, None', [], (OwnS.nil _ _), fun _ => rfl, fun h => by omega, fun h => by omega, fun h => by omega, fun h => by omega, fun h => by omega, fun h => by omega⟩ fun all i w2 nxt hi ⟨x2, x12, S', pre, own, p0, p1, p2, p3, k0, k1, k2⟩ hn => ⟨fun hlt => ?_, fun hge => ?_⟩
  · have hlt' : i < 3 := by
      have : ((Sl.mk (some a1) 3 3).len : Int) = 3 := rfl
      omega
    have hl3 := lists3 (i := i) (hb1.ext x12)
    have hcase : i = 0 ∨ i = 1 ∨ i = 2 := by omega
    obtain ⟨t, l, hld, hs, q0, q1, q2, hbad, hpre⟩ : ∃ t l, ldc w2 (a1.add (i * 1)) [Sl.v t] ∧ SlR depE w S t l ∧ (i = 0 → l = la) ∧ (i = 1 → l = lb) ∧ (i = 2 → l = lc) ∧ (wk l = false → may3 la lb lc = false) ∧ pre.length ≤ 32 := by
      rcases hcase with rfl | rfl | rfl
      · exact ⟨sa, la, hl3.1 rfl, ha, fun _ => rfl, fun h => by omega, fun h => by omega, fun h => may3_false (.inl h), by rw [p0 rfl]; simp⟩
      · exact ⟨sb, lb, hl3.2.1 rfl, hb, fun h => by omega, fun _ => rfl, fun h => by omega, fun h => may3_false (.inr (.inl h)), by rw [p1 rfl]; have := hwkl (k0 (by omega)); omega⟩
      · exact ⟨sc, lc, hl3.2.2 rfl, hc, fun h => by omega, fun h => by omega, fun _ => rfl, fun h => may3_false (.inr (.inr h)), by rw [p2 rfl, List.length_append]; have := hwkl (k0 (by omega)); have := hwkl (k1 (by omega)); omega⟩
    have hsl := hs.len
    refine ⟨a1, ⟨rfl, by omega, hlt⟩, t, hld, bound ?_⟩
    refine gCall.intro (sortedN l) (fun _ q hq => SE.slices_IsSortedFunc_apiDepapiDep.go (isSorted_se (hs.ext x2) fun w' hx => ⟨_, rfl, hq _ hx⟩)) fun t2 w3 x3 ht2 => ?_
    have x03 := x2.trans x3
    have hfalse : ∀ w', Ext w w' → wk l = false → R false w' := fun w' hx h => by
      have := hR w' hx
      rw [hbad h] at this; exact this
    refine ⟨fun h => hfalse w3 x03 ?_, fun h => ?_⟩
    · unfold wk
      cases h16 : decide ((16 : Int) < (t.len : Int))
      · rw [h16] at ht2 h
        rw [ht2 rfl] at h
        have : sortedN l = false := by simpa using h
        rw [this]; simp
      · have : ¬ l.length ≤ 16 := by simp at h16; omega
        simp [this]
    · have h16 : l.length ≤ 16 := by simp at h; omega
      have hd : decide ((16 : Int) < (t.len : Int)) = false := by simp; omega
      rw [hd] at ht2 h
      rw [ht2 rfl] at h
      have hso : sortedN l = true := by simpa using h
      refine loop1.up hs.max (fun j w' => Ext w3 w' ∧ (l.take j).all okD = true) ⟨Ext.refl _, rfl⟩ fun j w4 nxt2 hj ⟨x4, hI⟩ hn2 => ⟨fun hlt2 => ?_, fun hge2 => ?_⟩
      · have hlj : j < l.length := by omega
        obtain ⟨ad, tr, had, _, hnm, hr, hcc⟩ := depEl hs hlj
        have x04 := x03.trans x4
        refine ⟨ad, ⟨had, by omega, hlt2⟩, _, tr, hcc _ x04, newS.intro fun a5 w5 x5 hb5 hab5 _ => stw0.intro hb5 (by simp) fun w6 b6 _ hb6 => ⟨_, hb6.at0 (Ext.refl _) rfl, ?_⟩⟩
        have x46 : Ext w4 w6 := b6.ext x5 (by omega)
        have x06 := x04.trans x46
        refine SE.scan_Name.go (scanName_se hnm fun w7 x7 => ⟨_, rfl, bound ⟨tr, fun _ => hb6.at1 (k := 1) (r := []) x7 rfl, ?_⟩⟩)
        refine gCall.intro (spansMay l[j].range) (fun _ q hq => SE.span_May.go (spanMay_se (hr.ext (x06.trans x7)) fun w' hx => ⟨_, rfl, hq _ hx⟩)) fun t3 w8 x8 ht3 => bound ⟨tr, fun _ => hb6.at1 (k := 1) (r := []) (x7.trans x8) rfl, ?_⟩
        have e0 : ((tr.len : Int) == 0) = l[j].range.isEmpty := by
          rw [hr.len]
          cases l[j].range <;> simp
          omega
        have e1 := okB (d := l[j]) (t2 := t3) (n := (tr.len : Int)) (fun h1 => ht3 (by rw [h1]; rfl)) e0
        rw [e1]
        have hst : (l.take (j + 1)).all okD = okD l[j] := by rw [List.take_succ_eq_append_getElem hlj, List.all_append, hI]; simp
        refine ⟨fun hh => hfalse w8 ((x06.trans x7).trans x8) ?_, fun hh => hn2 hlj _ ⟨(x4.trans x46).trans (x7.trans x8), by rw [hst]; simpa using hh⟩⟩
        have hbadj : okD l[j] = false := by simpa using hh
        unfold wk
        have : l.all okD = false := by
          rw [List.all_eq_false]
          exact ⟨l[j], List.getElem_mem hlj, by rw [hbadj]; decide⟩
        rw [this, Bool.and_false]
      · have hjl : j = l.length := by omega
        rw [hjl, List.take_length] at hI
        have hwk : wk l = true := by
          unfold wk
          rw [hso, hI, decide_eq_true h16]; rfl
        have x24 := x3.trans x4
        have x04 := x2.trans x24
        have hs4 := x04.size
        refine (own.ext x24).appAll apDep (x12.trans x24).size (hs.ext x04) (hS.ext hs4) (fun ad had hb => by have := (own.block had).1; have := hS _ hb; omega) (by rw [e40]; unfold room; omega) (by omega) fun r' w9 own9 bel9 _ _ => ?_
        refine hn hlt' _ _ ⟨x1.trans ((x12.trans x24).trans' bel9), (x12.trans x24).trans' bel9, _, pre ++ l, own9, fun h => by omega, fun h => ?_, fun h => ?_, fun h => ?_, fun _ => ?_, fun h => ?_, fun h => ?_⟩
        · have : i = 0 := by omega
          rw [p0 this, q0 this]; rfl
        · have : i = 1 := by omega
          rw [p1 this, q1 this]
        · have : i = 2 := by omega
          rw [p2 this, q2 this]
        · rcases Nat.eq_zero_or_pos i with h0 | h0
          · rw [← q0 h0]; exact hwk
          · exact k0 h0
        · rcases Nat.lt_or_ge 1 i with h0 | h0
          · exact k1 h0
          · have : i = 1 := by omega
            rw [← q1 this]; exact hwk
        · have : i = 2 := by omega
          rw [← q2 this]; exact hwk
  · have hi3 : i = 3 := by
      have : ((Sl.mk (some a1) 3 3).len : Int) = 3 := rfl
      omega
    rw [wk_may3 (k0 (by omega)) (k1 (by omega)) (k2 (by omega)), ← p3 hi3] at hR
    have hpl : pre.length ≤ 1000 := by
      rw [p3 hi3, List.length_append, List.length_append]
      have := hwkl (k0 (by omega)); have := hwkl (k1 (by omega)); have := hwkl (k2 (by omega)); omega
    clear p0 p1 p2 p3 k0 k1 k2 hn
    refine sortDep_k own x12.size hpl fun w3 z b3 hzp hzs hz => ⟨rfl, ?_⟩
    have x03 : Ext w w3 := x1.trans (x12.trans' b3)
    have hal := own.len
    have hzl : z.length = pre.length := by have := hzp.length_eq; simpa using this
    have hone : ∀ w', Ext w w' → ∀ b, (b = true ↔ (z.map (·.1)).Nodup) → R b w' := fun w' hx b hb => by
      have h1 := hR w' hx
      have : b = decide (pre.map (·.name)).Nodup := by rw [Bool.eq_iff_iff, hb, decide_eq_true_eq]; exact hzp.nodup_iff
      rw [this]; exact h1
    have hread : ∀ i (hi : i < z.length), ∃ ad, all.a = some ad ∧ ∀ w', Ext w3 w' → ldc w' (ad.add (i * 2)) [.string z[i].1] := fun i hi => by
      rcases hz with rfl | ⟨g, tail, hga, hrow⟩
      · exact absurd hi (Nat.not_lt_zero _)
      · exact ⟨_, hga, fun w' hx => (RowB.ld (k := 2) (fun _ => rfl) (hrow.ext hx) hi).pre rfl⟩
    have hone1 : ∀ {i j : Nat} (hi : i < z.length) (hj : j < z.length), i < j → cmpS z[i].1 z[j].1 ≤ 0 := fun hi hj hij => List.pairwise_iff_getElem.1 hzs _ _ hi hj hij
    refine loop1.ghost (fun m i w' => ∃ k : Nat, i = (k : Int) ∧ 1 ≤ k ∧ m = z.length - k ∧ Ext w3 w' ∧ (z.take k).Pairwise (fun x y => bLt x.1 y.1 = true)) (z.length - 1) ⟨1, rfl, Nat.le_refl _, rfl, Ext.refl _, ?_⟩ fun m i w4 nxt ⟨k, hik, hk1, hm, x4, hP⟩ hn => ⟨fun hlt => ?_, fun hge => ?_⟩
    · cases z with
      | nil => exact List.Pairwise.nil
      | cons x r => simp
    · subst hik
      have hkz : k < z.length := by omega
      have ew : wrapI ((k : Int) - 1) = ((k - 1 : Nat) : Int) := by rw [wrapI_eq (by omega) (by omega)]; omega
      rw [ew]
      obtain ⟨ad, hga, hc1⟩ := hread k hkz
      obtain ⟨ad', hga', hc2⟩ := hread (k - 1) (by omega)
      refine bnd.drew fun w5 x5 => ⟨ad, ⟨hga, by omega, by omega⟩, _, hc1 _ (x4.trans x5), ad', ⟨hga', by omega, by omega⟩, _, hc2 _ (x4.trans x5), fun he => ?_, fun hne => ?_⟩
      · refine hone _ (x03.trans (x4.trans x5)) false ⟨(fun h => by cases h), fun h => ?_⟩
        rw [List.nodup_iff_pairwise_ne, List.pairwise_map] at h
        exact absurd he.symm (List.pairwise_iff_getElem.1 h (k - 1) k (by omega) hkz (by omega))
      · have hadj := hone1 (i := k - 1) (j := k) (by omega) hkz (by omega)
        have hb1 : bLt (z[k - 1]'(by omega)).1 z[k].1 = true := bLt_of hadj fun e => hne e.symm
        refine hn (z.length - (k + 1)) _ _ (by omega) ⟨k + 1, by rw [wrapI_eq (by omega) (by omega)]; omega, by omega, rfl, x4.trans x5, ?_⟩
        rw [List.take_succ_eq_append_getElem hkz, List.pairwise_append]
        refine ⟨hP, List.pairwise_singleton _ _, fun x hx y hy => ?_⟩
        simp only [List.mem_singleton] at hy
        subst hy
        obtain ⟨j, hj, rfl⟩ := List.mem_iff_getElem.1 hx
        rw [List.length_take] at hj
        rw [List.getElem_take]
        by_cases hjk : j = k - 1
        · subst hjk; exact hb1
        · have hjl : j < (z.take k).length := by rw [List.length_take]; exact hj
          have hkl : k - 1 < (z.take k).length := by rw [List.length_take]; omega
          have h2 := List.pairwise_iff_getElem.1 hP j (k - 1) hjl hkl (by omega)
          rw [List.getElem_take, List.getElem_take] at h2
          exact bLt_trans h2 hb1
    · subst hik
      refine hone _ (x03.trans x4) true ⟨fun _ => ?_, fun _ => rfl⟩
      rw [List.take_of_length_le (by omega)] at hP
      rw [List.nodup_iff_pairwise_ne, List.pairwise_map]
      exact hP.imp fun h => bLt_ne h
end Go.Hal
namespace Go.Hal
open Go Go.RowKit Go.Proofs Go.Shelf
def BoxT (T : TypeId) (w : World) (a : Addr) (cs : List Value) : Prop := a.off = 0 ∧ a.spot = none ∧ w.heap[a.block]? = some (.cells cs.toArray T (0, 0))
theorem BoxT.box {T : TypeId} {w : World} {a : Addr} {cs : List Value} (h : BoxT T w a cs) : BoxAt w a cs := ⟨T, h⟩
theorem BoxT.ext {T : TypeId} {w w' : World} {a : Addr} {cs : List Value} (h : BoxT T w a cs) (hx : Ext w w') : BoxT T w' a cs := ⟨h.1, h.2.1, (hx.block (lt_of_block h.2.2)).trans h.2.2⟩
theorem newS.introT {w : World} {cs : List Value} {t : TypeId} {k : Addr → World → Prop} (h : ∀ a w', Ext w w' → BoxT t w' a cs → a.block = w.heap.size → w'.heap.size = w.heap.size + 1 → k a w') : newS w cs t k := fun a w' ha hw => by
  subst ha hw
  exact h _ _ (Ext.alloc _ _) ⟨rfl, rfl, heap_alloc_new w _⟩ rfl (by simp)
theorem stw0.introT {T : TypeId} {w : World} {a : Addr} {old cs : List Value} {k : World → Prop} (hb : BoxT T w a old) (hl : cs.length = old.length) (h : ∀ w', But a.block w w' → w'.heap.size = w.heap.size → BoxT T w' a cs → k w') : stw w a cs k := by
  obtain ⟨ho, hs, hh⟩ := hb
  obtain ⟨b, of, sp⟩ := a
  simp only at ho hs hh
  subst ho hs
  refine ⟨_, T, hh, rfl, by simp [hl], h _ ⟨?_, rfl, rfl, rfl, fun c hc hne => setRow_other w b c _ hne⟩ ?_ ⟨rfl, rfl, ?_⟩⟩
  · simp [World.setRow]
  · simp [World.setRow]
  · rw [setRow_heap w b old.toArray _ T _ hh]
    have : old.drop cs.length = [] := by rw [hl]; exact List.drop_length
    simp [splice, this]
theorem Bld.lt {b : Nat} {l : List UInt8} {w : World} (h : Bld b l w) : b < w.heap.size := by
  rcases h with ⟨_, _, h, _⟩ | ⟨_, _, h, _⟩ <;> exact lt_of_block h
theorem bldWrite_kt {b : Nat} {l m : List UInt8} {w0 w : World} {k : Value → World → Prop} (hB : Bld b l w) (h0 : w0.heap.size = b) (x0 : Ext w0 w) (hl : l.length + m.length ≤ 140737488355328)
    (hk : ∀ w' n, Ext w0 w' → Bld b (l ++ m) w' → (∀ T a cs, T ≠ 5 → a.block ≠ b → BoxT T w a cs → BoxT T w' a cs) → k (.tuple #[.int .i64 n, .nilIface]) w') : callS Tryz.prog 69 [.pointer (some ⟨b, 0, none⟩), .string (B m)] w k := by
  have h := Any.Builder_WriteString_k { Tryz.layJo with } bldX b b (Lib.byteCells l) (B m) w hB (by rw [Lib.byteCells_length, B_size]; exact hl) (by have := x0.size; omega)
  refine h.mono fun e w' ⟨he, hb, hbel, hoth⟩ => ⟨_, he, hk w' _ (x0.trans' (by rw [h0]; exact hbel)) (.inr ?_) fun T a cs hT ha hbx => ⟨hbx.1, hbx.2.1, hoth _ _ hbx.2.2 (fun e => ha (Option.some.inj e)) fun c fz e => ?_⟩⟩
  · have e : Lib.byteCells l ++ Lib.strCells (B m) = Lib.byteCells (l ++ m) := by rw [Lib.strCells_eq, B_data]; simp [Lib.byteCells]
    rw [e] at hb; exact hb
  · simp only [Obj.cells.injEq] at e
    exact hT e.2.1
def partT : TypeId := 152
theorem parts_se {a : Addr} {w : World} {R : Sl → World → Prop} (hR : ∀ a' w', Ext w w' → BoxT partT w' a' [.string (B wNeeds), .pointer (some a), .string (B wDev), .pointer (some (a.add 1)), .string (B wLikes), .pointer (some (a.add 2)), .string (B wPins), .pointer (some (a.add 3))] → w.heap.size ≤ a'.block → R ⟨some a', 4, 4⟩ w') : SE.manifest_parts (some a) w R := by
  unfold SE.manifest_parts
  exact bnd.drew fun w1 x1 => ⟨a, rfl, a, rfl, a, rfl, a, rfl, newS.introT fun a' w2 x2 hb hab _ => hR a' w2 (x1.trans x2) hb (by have := x1.size; omega)⟩
def mt (m : Mani) (i : Nat) : List UInt8 := match i with
  | 0 => pjText
  | 1 => pjText ++ depLines wNeeds m.deps
  | 2 => (pjText ++ depLines wNeeds m.deps) ++ depLines wDev m.dev
  | 3 => ((pjText ++ depLines wNeeds m.deps) ++ depLines wDev m.dev) ++ depLines wLikes m.opt
  | _ => maniText m
set_option maxHeartbeats 4000000 in
theorem maniText_se {m : Mani} {d e o v : Sl} {S : Nat → Prop} {w : World} {R : ByteArray → World → Prop} (ht : Tab w) (hm : maniLists m = true) (hd : SlR depE w S d m.deps) (he : SlR depE w S e m.dev) (ho : SlR depE w S o m.opt) (hv : SlR depE w S v m.over)
    (hR : ∀ w', Ext w w' → R (B (maniText m)) w') : SE.manifest_text d e o v w R := by
  unfold SE.manifest_text
  unfold maniLists at hm
  simp only [Bool.and_eq_true] at hm
  obtain ⟨⟨⟨h1, h2⟩, h3⟩, h4⟩ := hm
  have n1 := depsMay_names h1; have n2 := depsMay_names h2; have n3 := depsMay_names h3; have n4 := depsMay_names h4
  have l1 := depLines_len (word := wNeeds) (by decide) fun d hd => (n1.2 d hd).1
  have l2 := depLines_len (word := wDev) (by decide) fun d hd => (n2.2 d hd).1
  have l3 := depLines_len (word := wLikes) (by decide) fun d hd => (n3.2 d hd).1
  refine newS.intro fun a w1 x1 hb _ _ => ?_
  intro a1 w2 ha1 hw2
  subst ha1
  have x2 : Ext w1 w2 := hw2 ▸ Ext.alloc _ _
  have hB2 : Bld w1.heap.size [] w2 := hw2 ▸ bld_new w1
  have t1 : Tab w1 := ht.ext x1
  have hpj : (ByteArray.mk #[112, 114, 111, 106, 101, 99, 116, 10]) = B pjText := rfl
  rw [hpj]
  refine bldWrite_k (m := pjText) hB2 rfl x2 (by decide) fun w3 n3' x3 hB3 => ⟨_, _, rfl, ?_⟩
  refine SE.manifest_parts.go (parts_se (a := a) fun ap w4 x4 hbp hapb => ⟨_, rfl, ?_⟩)
  have hs13 := hB3.lt
  have hTne : partT ≠ 5 := by decide
  have x14 := x3.trans x4
  have hpjl : pjText.length = 8 := rfl
  refine loop1.up (N := 4) (by decide) (fun i w' => Ext w1 w' ∧ BoxT partT w' ap [.string (B wNeeds), .pointer (some a), .string (B wDev), .pointer (some (a.add 1)), .string (B wLikes), .pointer (some (a.add 2)), .string (B wPins), .pointer (some (a.add 3))] ∧ Bld w1.heap.size (mt m i) w') ⟨x14, hbp, by simpa [mt] using hB3.ext x4⟩ fun i w5 nxt hi ⟨x5, hbp5, hB5⟩ hn => ⟨fun hlt => ?_, fun hge => ?_⟩
  · have hlt' : i < 4 := by
      have : ((Sl.mk (some ap) 4 4).len : Int) = 4 := rfl
      omega
    obtain ⟨wd, k, t, l, hp, hl5, hs, hdm, hwd, hmt, hml⟩ : ∃ (wd : List UInt8) (k : Nat) (t : Sl) (l : List Dep), ldc w5 (ap.add (i * 2)) [.string (B wd), .pointer (some (a.add k))] ∧ (∀ w', Ext w5 w' → ldc w' (a.add k) [Sl.v t]) ∧ SlR depE w S t l ∧ depsMay l = true ∧ wd.length ≤ 8 ∧ mt m (i + 1) = mt m i ++ depLines wd l ∧ (mt m i).length ≤ 1000000 := by
      have hcase : i = 0 ∨ i = 1 ∨ i = 2 ∨ i = 3 := by omega
      rcases hcase with rfl | rfl | rfl | rfl
      · exact ⟨wNeeds, 0, d, m.deps, hbp5.box.at1 (k := 0) (Ext.refl _) rfl, fun w' hx => hb.at1 (k := 0) (x5.trans hx) rfl, hd, h1, by decide, rfl, by simp [mt, hpjl]⟩
      · exact ⟨wDev, 1, e, m.dev, hbp5.box.at1 (k := 2) (Ext.refl _) rfl, fun w' hx => hb.at1 (k := 1) (x5.trans hx) rfl, he, h2, by decide, rfl, by simp [mt, hpjl]; omega⟩
      · exact ⟨wLikes, 2, o, m.opt, hbp5.box.at1 (k := 4) (Ext.refl _) rfl, fun w' hx => hb.at1 (k := 2) (x5.trans hx) rfl, ho, h3, by decide, rfl, by simp [mt, hpjl]; omega⟩
      · exact ⟨wPins, 3, v, m.over, hbp5.box.at1 (k := 6) (Ext.refl _) rfl, fun w' hx => hb.at1 (k := 3) (x5.trans hx) rfl, hv, h4, by decide, rfl, by simp [mt, hpjl]; omega⟩
    rw [hmt] at hn
    generalize mt m i = t0 at *
    refine ⟨ap, ⟨rfl, by omega, hlt⟩, _, _, hp, newS.introT fun a8 w6 x6 hb6 hab6 _ => stw0.introT hb6 rfl fun w7 b7 _ hb7 => ?_⟩
    have x57 : Ext w5 w7 := b7.ext x6 (by omega)
    have x17 := x5.trans x57
    have x07 := x1.trans x17
    refine ⟨_, hb7.box.at1 (k := 1) (Ext.refl _) rfl, _, rfl, t, hl5 _ x57, ?_⟩
    have hsl := hs.len
    obtain ⟨h16, hok⟩ := depsMay_names hdm
    refine loop1.up hs.max (fun j w' => Ext w1 w' ∧ BoxT partT w' a8 [.string (B wd), .pointer (some (a.add k))] ∧ BoxT partT w' ap [.string (B wNeeds), .pointer (some a), .string (B wDev), .pointer (some (a.add 1)), .string (B wLikes), .pointer (some (a.add 2)), .string (B wPins), .pointer (some (a.add 3))] ∧ Bld w1.heap.size (t0 ++ depLines wd (l.take j)) w') ⟨x17, hb7, hbp5.ext x57, by simpa [depLines] using hB5.ext x57⟩ fun j w8 nxt2 hj ⟨x8, hb8, hbp8, hI⟩ hn2 => ⟨fun hlt2 => ?_, fun hge2 => ?_⟩
    · have hlj : j < l.length := by omega
      obtain ⟨ad, tr, had, _, hnm, hr, hc⟩ := depEl hs hlj
      have hdj := hok _ (List.getElem_mem hlj)
      have q1 := depLines_len hwd (l := l.take j) fun d hd => (hok d (List.mem_of_mem_take hd)).1
      rw [List.length_take, Nat.min_eq_left (by omega)] at q1
      have q2 := nameMay_len hdj.1
      have q3 := rangeText_len l[j].range
      have x08 := x1.trans x8
      refine ⟨ad, ⟨had, by omega, hlt2⟩, _, tr, hc _ x08, newS.intro fun a9 w9 x9 hb9 hab9 _ => stw0.intro hb9 (by simp) fun w10 b10 _ hb10 => bnd.drew fun w11 x11 => ?_⟩
      have x810 : Ext w8 w10 := b10.ext x9 (by omega)
      have x811 := x810.trans x11
      refine ⟨_, hb8.box.at0 x811 rfl, ?_⟩
      rw [app_lit]
      refine ⟨by rw [B_size, lit_size, maxI_eq]; simp; omega, _, hb10.at0 x11 rfl, ?_⟩
      rw [ba_B l[j].name, B_app, app_lit]
      refine ⟨by rw [B_size, B_size, maxI_eq]; simp; omega, by rw [B_size, lit_size, maxI_eq]; simp; omega, tr, hb10.at1 x11 rfl, callX.intro (SE.span_Print.go (spanPrint_se (ht.ext (x08.trans x811)) (hr.ext (x08.trans x811)) fun w12 x12 => ⟨x12, _, rfl, ?_⟩))⟩
      rw [B_app, app_lit]
      have hln : (((((wd ++ [32]) ++ l[j].name.toList) ++ [32]) ++ rangeText l[j].range) ++ [10]).length ≤ 2030 := by simp; omega
      refine ⟨by rw [B_size, B_size, maxI_eq]; simp; omega, by rw [B_size, lit_size, maxI_eq]; simp; omega, bldWrite_kt (m := (((((wd ++ [32]) ++ l[j].name.toList) ++ [32]) ++ rangeText l[j].range) ++ [10])) (hI.ext (x811.trans x12)) rfl (x8.trans (x811.trans x12)) (by rw [List.length_append]; omega) fun w13 n13 x13 hB13 keep => ⟨_, _, rfl, hn2 hlj _ ⟨x13, keep _ _ _ hTne (by have := hbp5.box.lt; omega) (hb8.ext (x811.trans x12)), keep _ _ _ hTne (by omega) (hbp8.ext (x811.trans x12)), ?_⟩⟩⟩
      · rw [List.take_succ_eq_append_getElem hlj, depLines_snoc, depLine, ← List.append_assoc]
        exact hB13
    · have hjl : j = l.length := by omega
      rw [hjl, List.take_length] at hI
      exact hn hlt' _ ⟨x8, hbp8, hI⟩
  · have hi4 : i = 4 := by
      have : ((Sl.mk (some ap) 4 4).len : Int) = 4 := rfl
      omega
    subst hi4
    exact bldString_k hB5 rfl x5 fun w9 x9 => ⟨_, rfl, hR _ (x1.trans x9)⟩
set_option maxHeartbeats 2000000 in
theorem maniMay_se {m : Mani} {d e o v : Sl} {S : Nat → Prop} {w : World} {R : Bool → World → Prop} (ht : Tab w) (hS : Old S w) (hd : SlR depE w S d m.deps) (he : SlR depE w S e m.dev) (ho : SlR depE w S o m.opt) (hv : SlR depE w S v m.over)
    (hR : ∀ w', Ext w w' → R (maniMay m) w') : SE.manifest_May d e o v w R := by
  unfold SE.manifest_May
  refine newS.intro fun a w1 x1 hb _ _ => ⟨d, hb.at0 (Ext.refl _) rfl, e, hb.at1 (k := 1) (Ext.refl _) rfl, o, hb.at1 (k := 2) (Ext.refl _) rfl, ?_⟩
  refine SE.manifest_may.go (may3_se (hS.ext x1.size) (hd.ext x1) (he.ext x1) (ho.ext x1) fun w2 x2 => ⟨_, rfl, v, fun _ => hb.at1 (k := 3) (r := []) x2 rfl, ?_⟩)
  refine gCall.intro (may3 m.over [] []) (fun _ q hq => SE.manifest_may.go (may3_se (hS.ext (x1.trans x2).size) (hv.ext (x1.trans x2)) (SlR.nil trivial) (SlR.nil trivial) fun w' hx => ⟨_, rfl, hq _ hx⟩)) fun t3 w3 x3 ht3 => bound ⟨d, e, o, v, fun _ => hb.at0 (r := []) (x2.trans x3) rfl, ?_⟩
  have x03 := (x1.trans x2).trans x3
  have e1 : (may3 m.deps m.dev m.opt && t3) = (may3 m.deps m.dev m.opt && may3 m.over [] []) := by
    cases h : may3 m.deps m.dev m.opt
    · rfl
    · rw [ht3 h]
  rw [e1]
  have hl : (may3 m.deps m.dev m.opt && may3 m.over [] []) = true → maniLists m = true := fun h => by
    rw [may_one, may3_eq] at h
    simp only [Bool.and_eq_true] at h
    unfold maniLists
    simp [h]
  refine gCall.intro (B (maniText m)) (fun hg q hq => SE.manifest_text.go (maniText_se (ht.ext x03) (hl hg) (hd.ext x03) (he.ext x03) (ho.ext x03) (hv.ext x03) fun w' hx => ⟨_, rfl, hq _ hx⟩)) fun t4 w4 x4 ht4 => ?_
  have e2 : ((may3 m.deps m.dev m.opt && may3 m.over [] []) && decide ((t4.size : Int) ≤ 4096)) = maniMay m := by
    rw [maniMay_eq]
    cases h : (may3 m.deps m.dev m.opt && may3 m.over [] [])
    · rfl
    · rw [ht4 h, B_size, Bool.true_and, Bool.true_and, decide_eq_decide]; omega
  rw [e2]; exact hR _ (x03.trans x4)
end Go.Hal
namespace Go.Hal
open Go Go.RowKit Go.Proofs Go.Shelf
def EndN (q : Quest) : Nat → Lb → St → Stp → Prop
  | 0, l, s, r => q.step l s = r ∧ ∀ l1 s1, r ≠ .go l1 s1
  | n + 1, l, s, r => ∃ l1 s1, q.step l s = .go l1 s1 ∧ EndN q n l1 s1 r
theorem End.steps {q : Quest} {l : Lb} {s : St} {r : Stp} (h : q.End l s r) : ∃ n, EndN q n l s r := by
  induction h with
  | done h => exact ⟨0, h, (fun _ _ h => by cases h)⟩
  | err h => exact ⟨0, h, (fun _ _ h => by cases h)⟩
  | step h _ ih =>
    obtain ⟨n, hn⟩ := ih
    exact ⟨n + 1, _, _, h, hn⟩
theorem EndN.go {q : Quest} {n : Nat} {l l1 : Lb} {s s1 : St} {r : Stp} (h : EndN q n l s r) (hs : q.step l s = .go l1 s1) : ∃ m, m < n ∧ EndN q m l1 s1 r := by
  cases n with
  | zero =>
    obtain ⟨h1, h2⟩ := h
    rw [hs] at h1
    exact absurd h1.symm (h2 _ _)
  | succ n =>
    obtain ⟨l2, s2, h1, h2⟩ := h
    rw [hs] at h1
    cases h1
    exact ⟨n, Nat.lt_succ_self n, h2⟩
theorem EndN.fin {q : Quest} {n : Nat} {l : Lb} {s : St} {r r' : Stp} (h : EndN q n l s r) (hs : q.step l s = r') (hr : ∀ l1 s1, r' ≠ .go l1 s1) : r = r' := by
  cases n with
  | zero => rw [← hs]; exact h.1.symm
  | succ n =>
    obtain ⟨l2, s2, h1, _⟩ := h
    rw [hs] at h1
    exact absurd h1 (hr _ _)
theorem gotos2.ghost {α β : Type} {first : (Nat → α → β → World → Prop) → Prop} {pass : Nat → α → β → World → (Nat → α → β → World → Prop) → Prop} (J : Nat → Nat → α → β → World → Prop) (h0 : first fun l a b w => ∃ n, J n l a b w)
    (hs : ∀ n l a b w nxt, J n l a b w → (∀ m l' a' b' w', m < n → J m l' a' b' w' → nxt l' a' b' w') → pass l a b w nxt) : gotos2 first pass :=
  ⟨fun l a b w => ∃ n, J n l a b w, fun l a b w => leastN fun n => J n l a b w, h0, fun l a b w ⟨n, h⟩ => hs _ l a b w _ (leastN_spec (p := fun n => J n l a b w) h).1 fun m l' a' b' w' hm hJ => ⟨⟨m, hJ⟩, Nat.lt_of_le_of_lt ((leastN_spec (p := fun n => J n l' a' b' w') hJ).2 m hJ) hm⟩⟩
def lbN : Lb → Nat
  | .next => 1
  | .tri => 0
  | .back => 2
def resOf (L : List Pack) (m : Mani) (dev : Bool) (pins : List Pin) (D N : Int) : Stp :=
  if maniMay m = true ∧ 1 ≤ D ∧ D ≤ 4096 ∧ 1 ≤ N ∧ N ≤ 128 then Quest.res ⟨L, m, dev, pins, D.toNat, N.toNat⟩ else .err 1
theorem Sr0.setStk {w : World} {lo g : Nat} {stk nds ahd ws stk' : Sl} {Q : Nat → Prop} {s : St} {l1 : List Ch} (h : Sr0 w lo g stk nds ahd ws Q s) (e1 : stk'.a = stk.a) (h1 : OwnS chE 78 w lo Q stk' l1) : Sr0 w lo g stk' nds ahd ws Q { s with stack := l1 } :=
  ⟨h1, h.nodes, h.ahead, h.wants, h.q, fun a b ha hb => h.a1 a b (e1 ▸ ha) hb, fun a b ha hb => h.a2 a b (e1 ▸ ha) hb, h.a3, fun a ha => h.o1 a (e1 ▸ ha), h.o2, h.o3⟩
structure RunC (w0 : World) (q : Quest) (a1 a3 : Addr) (D N d3 d4 : Int) (lo : Nat) (K : K7) (w : World) : Prop where
  wl : w0.heap.size ≤ lo
  ext : Ext w0 w
  cs : Cs w lo q K
  b1 : BoxAt w a1 [.int .i64 D, .int .i64 N, .int .i64 d3, .int .i64 d4]
  l1 : a1.block < lo
  b3 : BoxAt w a3 [Sl.v Sl.nil]
  l3 : a3.block < lo
  n3 : w0.heap.size ≤ a3.block
theorem RunC.below {w0 w w' : World} {q : Quest} {a1 a3 : Addr} {D N d3 d4 : Int} {lo : Nat} {K : K7} (h : RunC w0 q a1 a3 D N d3 d4 lo K w) (hb : Below lo w w') : RunC w0 q a1 a3 D N d3 d4 lo K w' :=
  ⟨h.wl, h.ext.trans' (Below.mono hb h.wl), h.cs.below hb, h.b1.below hb h.l1, h.l1, h.b3.below hb h.l3, h.l3, h.n3⟩
def RunJ (w0 : World) (q : Quest) (a1 a3 : Addr) (D N d3 d4 : Int) (n l : Nat) (vs : Option Addr) (d : Int) (w : World) : Prop :=
  ∃ lo sp K lb s, l = lbN lb ∧ vs = some sp ∧ d = (s.dec : Int) ∧ RunC w0 q a1 a3 D N d3 d4 lo K w ∧ SrAt w lo sp K s ∧ InvL q lb s ∧ EndN q n lb s q.res
set_option maxHeartbeats 16000000 in
theorem run_se {L : List Pack} {m : Mani} {dev : Bool} {pins : List Pin} {S SA : Nat → Prop} {cp : Addr} {rr : Nat} {mD mDev mOpt mOv pS : Sl} {D N d3 d4 : Int} {w0 : World} {R : Sl → Int → Int → World → Prop} (ht : Tab w0) (hSA : Old SA w0)
    (hcat : CatL w0 S cp rr L) (hS : Old S w0) (hrr : rr < w0.heap.size) (hcp : cp.block < w0.heap.size) (hd : SlR depE w0 SA mD m.deps) (he : SlR depE w0 SA mDev m.dev) (ho : SlR depE w0 SA mOpt m.opt) (hv : SlR depE w0 SA mOv m.over) (hp : SlR pinE w0 SA pS pins)
    (herr : ∀ e w', resOf L m dev pins D N = .err e → Ext w0 w' → R Sl.nil 0 e w')
    (hdone : ∀ ns t nds w', resOf L m dev pins D N = .done ns t → Ext w0 w' → SlR nodeE w' (fun b => w0.heap.size ≤ b ∧ b < w'.heap.size) nds ns → R nds (t : Int) 0 w') :
    SE.resolve_Run (some cp) mD mDev mOpt mOv dev pS D N d3 d4 w0 R := by
  unfold SE.resolve_Run
  have hmx := maxLen_eq
  have hGood : GoodL L := hcat.good
  refine newS.intro fun a wa xa ha haa _ => newS.intro fun a1 wb xb hb1 hb1b _ => newS.intro fun a3 wc xc ha3 ha3b _ => ?_
  have x0c := xa.trans (xb.trans xc)
  have xac := xb.trans xc
  have hsa := xa.size; have hsb := xb.size; have hsc := xc.size
  have hl3 := ha3.lt
  have hCl : ∀ n r p, (cands L n r p).length ≤ 1000 := fun n r p => Nat.le_trans (cands_le hGood n r p) (by omega)
  generalize hq : (⟨L, m, dev, pins, D.toNat, N.toNat⟩ : Quest) = q
  have hqL : q.L = L := by rw [← hq]
  have hqN : q.N = N.toNat := by rw [← hq]
  have hqD : q.D = D.toNat := by rw [← hq]
  rw [← hqL] at hGood hCl
  refine gotos2.ghost (fun n l vs d w => (maniMay m = true ∧ 1 ≤ D ∧ D ≤ 4096 ∧ 1 ≤ N ∧ N ≤ 128) ∧ RunJ w0 q a1 a3 D N d3 d4 n l vs d w) ?first ?pass
  case first =>
    refine bound ⟨mD, mDev, mOpt, mOv, fun _ => ha.at0 (r := []) xac rfl, ?_⟩
    refine gCall.intro (maniMay m) (fun _ q' hq' => SE.manifest_May.go (maniMay_se (ht.ext x0c) (hSA.ext x0c.size) (hd.ext x0c) (he.ext x0c) (ho.ext x0c) (hv.ext x0c) fun w' hx => ⟨_, rfl, hq' _ hx⟩)) fun t1 wd xd ht1 => ?_
    have x0d := x0c.trans xd
    have x1d := xc.trans xd
    have hsd := x0d.size
    have hsd' := xd.size
    have ht1' := ht1 rfl
    subst ht1'
    refine bound ⟨D, fun _ => hb1.at0 x1d rfl, bound ⟨D, fun _ => hb1.at0 x1d rfl, bound ⟨N, fun _ => hb1.at1 (k := 1) x1d rfl, bound ⟨N, fun _ => hb1.at1 (k := 1) x1d rfl, fun hbad => ?_, fun hgood => ?_⟩⟩⟩⟩
    · have hno : ¬ (maniMay m = true ∧ 1 ≤ D ∧ D ≤ 4096 ∧ 1 ≤ N ∧ N ≤ 128) := fun ⟨h1, h2, h3, h4, h5⟩ => by
        rw [h1] at hbad
        simp at hbad
        omega
      refine stw0.intro (ha3.ext xd) (by simp) fun we be _ hbe => ⟨Sl.nil, hbe.at0 (r := []) (Ext.refl _) rfl, herr 1 we ?_ (be.ext x0d (by omega))⟩
      unfold resOf
      rw [if_neg hno]
    · have hok : maniMay m = true ∧ 1 ≤ D ∧ D ≤ 4096 ∧ 1 ≤ N ∧ N ≤ 128 := by
        simp at hgood
        obtain ⟨⟨⟨⟨h1, h2⟩, h3⟩, h4⟩, h5⟩ := hgood
        exact ⟨h1, by omega, by omega, by omega, by omega⟩
      have hres : resOf L m dev pins D N = q.res := by
        unfold resOf
        rw [if_pos hok, hq]
      refine ⟨mD, mDev, mOpt, mOv, ha.at0 (r := []) (xac.trans xd) rfl, ?_⟩
      refine newS.own (E := nodeE) (x := rootNode) ⟨by show (0 : Nat) ≤ maxLen; omega, Sl.nil, Sl.nil, rfl, SlR.nil trivial, SlR.nil trivial⟩ fun a17 wf xf ownR h17 => newS.intro fun sp w xg hbx hspb _ => ?_
      have hsf := xf.size; have hsg := xg.size
      have xdg := xf.trans xg
      have x0g := x0d.trans xdg
      generalize hlo' : wd.heap.size = lo at *
      have hwlo : lo ≤ w.heap.size := by omega
      have hm : q.m = m := by rw [← hq]
      have hdev : q.dev = dev := by rw [← hq]
      have hpins : q.pins = pins := by rw [← hq]
      have hup : ∀ b, SA b → b < lo := fun b hb => by have := hSA b hb; omega
      have hCs : Cs w lo q ⟨cp, mD, mDev, mOpt, mOv, dev, pS⟩ := ⟨⟨S, rr, by rw [hqL]; exact hcat.ext x0g, fun b hb => by have := hS b hb; omega, by omega, by show cp.block < lo; omega⟩, by rw [hm]; exact (hd.ext x0g).mono hup, by rw [hm]; exact (he.ext x0g).mono hup, by rw [hm]; exact (ho.ext x0g).mono hup, by rw [hm]; exact (hv.ext x0g).mono hup, by rw [hpins]; exact (hp.ext x0g).mono hup, hdev.symm, hwlo, by rw [hm]; exact maniMay_small hok.1⟩
      generalize hK : (⟨cp, mD, mDev, mOpt, mOv, dev, pS⟩ : K7) = K at hCs
      have hRC : RunC w0 q a1 a3 D N d3 d4 lo K w := ⟨by omega, x0g, hCs, hb1.ext (x1d.trans xdg), by have := hb1.lt; omega, (ha3.ext xd).ext xdg, by omega, by omega⟩
      have hlo : lo ≤ sp.block := by omega
      have hnil : ∀ {α : Type} {E : Enc α} {T : TypeId}, OwnS E T w lo None' Sl.nil ([] : List α) := fun {α E T} => OwnS.nil _ _
      have h00 : Sr0 w lo sp.block Sl.nil ⟨some a17, 1, 1⟩ Sl.nil Sl.nil None' ⟨[], [rootNode], [], [], 0, 0⟩ := ⟨hnil, ownR.ext xg, hnil, SlR.nil trivial, fun _ h => h.elim, (fun _ _ h => by cases h), (fun _ _ h => by cases h), (fun _ _ _ h => by cases h), (fun _ h => by cases h), fun ad had e => (by simp only [Option.some.injEq] at had; subst had; have := (ownR.block rfl).2.1; omega), (fun _ h => by cases h)⟩
      have hbx0 : BoxAt w sp (srCells K Sl.nil ⟨some a17, 1, 1⟩ Sl.nil Sl.nil 0) := by rw [← hK]; exact hbx
      refine SE.resolve_search_begin.go (begin_se (s := ⟨[], [rootNode], [], [], 0, 0⟩) hCs ⟨_, _, _, _, _, hbx0, hlo, h00⟩ (by show 0 < 1; omega) fun wh belh hsah => ⟨rfl, ?_⟩)
      have hRC2 := hRC.below belh
      clear hbx hbx0 h00 hCs hRC
      obtain ⟨n, hEnd⟩ := End.steps (run_end' (q := q) (by omega))
      have hI : InvL q .next q.start := InvL.start (by omega)
      have hI : InvS q 0 q.start := hI
      have hsah : SrAt wh lo sp K q.start := hsah
      obtain ⟨stk, nds, ahd, ws, Q, hbx, hlo2, h0⟩ := hsah
      have hCs := hRC2.cs
      have hsl := h0.stack.len
      have hwl := h0.wants.len
      have hskl : q.start.stack.length ≤ 4096 := Nat.zero_le _
      have hg := lo_lt hbx
      have hfs := hI.f
      have hwr : wrapI ((stk.len : Int) - (q.start.first : Int)) = ((q.start.stack.length - q.start.first : Nat) : Int) := by rw [wrapI_eq (by omega) (by omega)]; omega
      have hN : q.N ≤ 128 := by omega
      have hD : q.D ≤ 4096 := by omega
      have hlim : ∀ w', Below lo wh w' → ldc w' (a1.add 1) [.int .i64 (q.N : Int)] := fun w' hb => by
        have e : (q.N : Int) = N := by omega
        rw [e]; exact (hRC2.below hb).b1.at1 (k := 1) (Ext.refl _) rfl
      have hErr : ∀ (e : Int) w', Below lo wh w' → q.res = .err e → stw w' a3 [Sl.v Sl.nil] fun vw => ∃ r : Sl, ldc vw a3 [Sl.v r] ∧ R r 0 e vw := fun e w' hb hr => by
        have h := hRC2.below hb
        exact stw0.intro h.b3 (by simp) fun we be _ hbe => ⟨Sl.nil, hbe.at0 (r := []) (Ext.refl _) rfl, herr e we (hres.trans hr) (be.ext h.ext h.n3)⟩
      have hDone : ∀ ns t nds w' (Q2 : Nat → Prop), Below lo wh w' → OwnS nodeE 55 w' lo Q2 nds ns → (∀ b, Q2 b → lo ≤ b) → ns.length ≤ 128 → q.res = .done ns t → stw w' a3 [Sl.v nds] fun vw => ∃ r : Sl, ldc vw a3 [Sl.v r] ∧ R r (t : Int) 0 vw := fun ns t nds w' Q2 hb ho hQ hl hr => by
        have h := hRC2.below hb
        have hrd := ho.read (by show ns.length * 88 ≤ room; unfold room; omega) (by omega)
        have h3 := h.l3; have hlo3 := h.wl
        refine stw0.intro h.b3 (by simp) fun we be _ hbe => ⟨nds, hbe.at0 (r := []) (Ext.refl _) rfl, hdone ns t nds we (hres.trans hr) (be.ext h.ext h.n3) ?_⟩
        have hs9 := be.1
        have hin : ∀ b, (Q2 b ∨ ∃ ad, nds.a = some ad ∧ b = ad.block) → lo ≤ b ∧ b < w'.heap.size := fun b hb => by
          rcases hb with hb | ⟨ad, had, rfl⟩
          · exact ⟨hQ b hb, ho.lt b hb⟩
          · exact ⟨(ho.block had).1, (ho.block had).2.1⟩
        exact (hrd.but be fun h => by have := hin _ h; omega).mono fun b hb => by have := hin b hb; omega
      have NX : ∀ (lb : Lb) (s' : St) w' m', m' < n → Below lo wh w' → SrAt w' lo sp K s' → InvL q lb s' → EndN q m' lb s' q.res → ∃ n, (maniMay m = true ∧ 1 ≤ D ∧ D ≤ 4096 ∧ 1 ≤ N ∧ N ≤ 128) ∧ RunJ w0 q a1 a3 D N d3 d4 n (lbN lb) (some sp) (s'.dec : Int) w' := fun lb s' w' m' hm hb hsa hi hE => ⟨m', hok, lo, sp, K, lb, s', rfl, rfl, rfl, hRC2.below hb, hsa, hi, hE⟩
      refine bnd.drew fun w1 x1 => ⟨stk, BoxAt.at1 hbx (k := 7) x1 rfl, (q.start.first : Int), BoxAt.at1 hbx (k := 11) x1 rfl, ws, BoxAt.at1 hbx (k := 10) x1 rfl, ?_⟩
      rw [hwr]
      have x1s := x1.size
      refine ⟨fun hlt => ?_, fun hge => ?_⟩
      · have hlt' : q.start.stack.length - q.start.first < q.start.ws.length := by omega
        obtain ⟨adw, tw, hwa, _, hwN, hwR, hwc⟩ := wantEl (h0.wants) hlt'
        have hstep : q.step .next q.start = .go .tri { q.start with stack := q.start.stack ++ [q.ch q.start.ahead.length (ctxAt q.start.ns q.start.ahead.length) q.start.ws[q.start.stack.length - q.start.first]] } := by
          rw [Quest.step, List.getElem?_eq_getElem hlt']
        generalize hwt : q.start.ws[q.start.stack.length - q.start.first] = wt at *
        have hInv' := InvL.step (l := .next) (l' := .tri) hGood hCl hI hstep
        refine bnd.drew fun w2 x2 => ⟨stk, BoxAt.at1 hbx (k := 7) (x1.trans x2) rfl, ws, BoxAt.at1 hbx (k := 10) (x1.trans x2) rfl, adw, ⟨hwa, by omega, by omega⟩, _, _, tw, by rw [Int.toNat_natCast]; exact hwc _ (x1.trans x2), ?_⟩
        have x02 := x1.trans x2
        have hC2 := hCs.below (x02.below' lo hCs.le)
        have hs2 := x02.size
        refine callX.intro (SE.resolve_search_choice.go (choice_se (s := q.start) (wt := wt) (rs := tw) hC2 ⟨stk, nds, ahd, ws, Q, hbx.ext x02, hlo, h0.ext x02⟩ hI.a hwN (SR := Q) (fun b hb => by have := h0.nodes.lt b hb; omega) (hwR.ext x02) fun v w3 x3 hv => ⟨x3, _, _, v, _, _, rfl, newS.intro fun a4 w4 x4 hb4 hab4 _ => ?_⟩))
        have x24 := x3.trans x4
        have x04 := x02.trans x24
        have hs3 := x3.size; have hs4 := x4.size
        have h4 := (h0.ext x02).grow x24 hC2.le (by omega)
        refine Sr0.pushCh (x := q.ch q.start.ahead.length (ctxAt q.start.ns q.start.ahead.length) wt) h4 apCh (by have := hC2.le; omega) (by omega) ⟨hwN, v, rfl, (hv.ext x4).mono fun b hb => .inr ⟨by omega, by omega⟩⟩ hb4.ldc (by omega) fun r' w5 h5 bel5 ho5 => ?_
        have hb5 : BoxAt w5 sp (srCells K stk nds ahd ws q.start.first) := (hbx.ext x04).oth ho5 fun ad had e => h0.o1 ad had e.symm
        have hs5 := bel5.size
        refine stw.intro (o := 7) hb5 (by show 8 ≤ 12; omega) fun w6 b6 _ hb6 => ?_
        have bel6 : Below lo wh w6 := Below.trans (Below.trans (x04.below' lo hCs.le) bel5) (b6.below (by have := hCs.le; omega) hlo)
        obtain ⟨m', hm', hE'⟩ := hEnd.go hstep
        exact NX .tri { q.start with stack := q.start.stack ++ [q.ch q.start.ahead.length (ctxAt q.start.ns q.start.ahead.length) wt] } w6 m' hm' bel6 ⟨r', nds, ahd, ws, _, hb6, hlo, h5.but b6⟩ hInv' hE'
      · have hnone : q.start.ws[q.start.stack.length - q.start.first]? = none := List.getElem?_eq_none (by omega)
        refine ⟨(q.N : Int), hlim _ (x1.below' lo hCs.le), ?_⟩
        have hC1 := hCs.below (x1.below' lo hCs.le)
        refine SE.resolve_search_bind.go (bind_se (s := q.start) hC1 ⟨stk, nds, ahd, ws, Q, hbx.ext x1, hlo, h0.ext x1⟩ hI hN hD (fun w2 hb x2 => ⟨_, rfl, fun _ => ?_, fun h => absurd rfl h⟩) (fun w2 hb bel2 => ⟨_, rfl, fun h => by omega, fun _ => ⟨fun _ => ?_, fun h => absurd rfl h⟩⟩) fun w2 ns' hb bel2 hsa2 => ⟨_, rfl, fun h => by omega, fun _ => ⟨fun h => by omega, fun _ => bnd.drew fun w3 x3 => ?_⟩⟩)
        · have hstep : q.step .next q.start = .go .back (q.start) := by rw [Quest.step, hnone]; dsimp only; rw [hb]
          obtain ⟨m', hm', hE'⟩ := hEnd.go hstep
          have x02 := x1.trans x2
          exact NX .back q.start w2 m' hm' (x02.below' lo hCs.le) ⟨stk, nds, ahd, ws, Q, hbx.ext x02, hlo, h0.ext x02⟩ (InvL.step (l := .next) (l' := .back) hGood hCl hI hstep) hE'
        · have hstep : q.step .next q.start = .err 32 := by rw [Quest.step, hnone]; dsimp only; rw [hb]
          exact hErr 32 w2 (Below.trans (x1.below' lo hCs.le) bel2) (hEnd.fin hstep (fun _ _ h => by cases h))
        · obtain ⟨stk2, nds2, ahd2, ws2, Q2, hb2, hlo2, h2⟩ := hsa2
          have bel3 : Below lo wh w3 := Below.trans (Below.trans (x1.below' lo hCs.le) bel2) (x3.below' lo (by have := hCs.le; have := bel2.size; omega))
          have hal2 : ahd2.len = ((q.start.ahead ++ [q.start.ns.length]).map Int.ofNat).length := h2.ahead.len
          have hnl2 : nds2.len = ns'.length := h2.nodes.len
          rw [List.length_map, List.length_append, List.length_singleton] at hal2
          refine ⟨ahd2, BoxAt.at1 hb2 (k := 9) x3 rfl, nds2, BoxAt.at1 hb2 (k := 8) x3 rfl, fun heq => ?_, fun hne => ?_⟩
          · have hstep : q.step .next q.start = .done ns' q.start.dec := by
              rw [Quest.step, hnone]; dsimp only; rw [hb]; dsimp only
              rw [if_pos (by omega)]
            have hnsl := (bind_len hb hI.n).2
            refine ⟨nds2, BoxAt.at1 hb2 (k := 8) x3 rfl, ?_⟩
            exact hDone ns' q.start.dec nds2 w3 Q2 bel3 (h2.nodes.ext x3) (fun b hb => (h2.q b hb).1) (by omega) (hEnd.fin hstep (fun _ _ h => by cases h))
          · have hstep : q.step .next q.start = .go .next { q.start with ns := ns', ahead := q.start.ahead ++ [q.start.ns.length], ws := q.wants ns' (q.start.ahead.length + 1), first := q.start.stack.length } := by
              rw [Quest.step, hnone]; dsimp only; rw [hb]; dsimp only
              rw [if_neg (by omega)]
            obtain ⟨m', hm', hE'⟩ := hEnd.go hstep
            have hInv' := InvL.step (l := .next) (l' := .next) hGood hCl hI hstep
            refine SE.resolve_search_begin.go (begin_se (hCs.below bel3) ⟨stk2, nds2, ahd2, ws2, Q2, hb2.ext x3, hlo2, h2.ext x3⟩ hInv'.a fun w4 bel4 hsa4 => ⟨rfl, ?_⟩)
            have e1 : (q.start.ahead ++ [q.start.ns.length]).length = q.start.ahead.length + 1 := by rw [List.length_append, List.length_singleton]
            refine NX .next { q.start with ns := ns', ahead := q.start.ahead ++ [q.start.ns.length], ws := q.wants ns' (q.start.ahead.length + 1), first := q.start.stack.length } w4 m' hm' (Below.trans bel3 bel4) ?_ hInv' hE'
            rw [← e1]; exact hsa4
  case pass =>
    intro n l vs d w nxt ⟨hok, lo, sp, K, lb, s, hlb, hvs, hdd, hRC2, hsa, hI, hEnd⟩ hn
    subst hvs hdd
    have hres : resOf L m dev pins D N = q.res := by
      unfold resOf
      rw [if_pos hok, hq]
    obtain ⟨stk, nds, ahd, ws, Q, hbx, hlo, h0⟩ := hsa
    have hCs := hRC2.cs
    have hsl := h0.stack.len
    have hwl := h0.wants.len
    have hg := lo_lt hbx
    have hN : q.N ≤ 128 := by omega
    have hD : q.D ≤ 4096 := by omega
    have hlim : ∀ w', Below lo w w' → ldc w' (a1.add 1) [.int .i64 (q.N : Int)] := fun w' hb => by
      have e : (q.N : Int) = N := by omega
      rw [e]; exact (hRC2.below hb).b1.at1 (k := 1) (Ext.refl _) rfl
    have hErr : ∀ (e : Int) w', Below lo w w' → q.res = .err e → stw w' a3 [Sl.v Sl.nil] fun vw => ∃ r : Sl, ldc vw a3 [Sl.v r] ∧ R r 0 e vw := fun e w' hb hr => by
      have h := hRC2.below hb
      exact stw0.intro h.b3 (by simp) fun we be _ hbe => ⟨Sl.nil, hbe.at0 (r := []) (Ext.refl _) rfl, herr e we (hres.trans hr) (be.ext h.ext h.n3)⟩
    have hDone : ∀ ns t nds w' (Q2 : Nat → Prop), Below lo w w' → OwnS nodeE 55 w' lo Q2 nds ns → (∀ b, Q2 b → lo ≤ b) → ns.length ≤ 128 → q.res = .done ns t → stw w' a3 [Sl.v nds] fun vw => ∃ r : Sl, ldc vw a3 [Sl.v r] ∧ R r (t : Int) 0 vw := fun ns t nds w' Q2 hb ho hQ hl hr => by
      have h := hRC2.below hb
      have hrd := ho.read (by show ns.length * 88 ≤ room; unfold room; omega) (by omega)
      have h3 := h.l3; have hlo3 := h.wl
      refine stw0.intro h.b3 (by simp) fun we be _ hbe => ⟨nds, hbe.at0 (r := []) (Ext.refl _) rfl, hdone ns t nds we (hres.trans hr) (be.ext h.ext h.n3) ?_⟩
      have hs9 := be.1
      have hin : ∀ b, (Q2 b ∨ ∃ ad, nds.a = some ad ∧ b = ad.block) → lo ≤ b ∧ b < w'.heap.size := fun b hb => by
        rcases hb with hb | ⟨ad, had, rfl⟩
        · exact ⟨hQ b hb, ho.lt b hb⟩
        · exact ⟨(ho.block had).1, (ho.block had).2.1⟩
      exact (hrd.but be fun h => by have := hin _ h; omega).mono fun b hb => by have := hin b hb; omega
    have NX : ∀ (lb : Lb) (s' : St) w' m', m' < n → Below lo w w' → SrAt w' lo sp K s' → InvL q lb s' → EndN q m' lb s' q.res → nxt (lbN lb) (some sp) (s'.dec : Int) w' := fun lb s' w' m' hm hb hsa hi hE => hn m' _ _ _ _ hm ⟨hok, lo, sp, K, lb, s', rfl, rfl, rfl, hRC2.below hb, hsa, hi, hE⟩
    cases lb with
    | next =>
      have hI : InvS q 0 s := hI
      have hskl : s.stack.length ≤ 4096 := by have := hI.k; have := hI.d; omega
      have hfs := hI.f
      have hwr : wrapI ((stk.len : Int) - (s.first : Int)) = ((s.stack.length - s.first : Nat) : Int) := by rw [wrapI_eq (by omega) (by omega)]; omega
      subst hlb
      refine ⟨fun _ => ?_, fun h => absurd h (by decide), fun h => absurd h (by decide)⟩
      refine bnd.drew fun w1 x1 => ⟨sp, rfl, stk, BoxAt.at1 hbx (k := 7) x1 rfl, sp, rfl, (s.first : Int), BoxAt.at1 hbx (k := 11) x1 rfl, sp, rfl, ws, BoxAt.at1 hbx (k := 10) x1 rfl, ?_⟩
      rw [hwr]
      have x1s := x1.size
      refine ⟨fun hlt => ?_, fun hge => ?_⟩
      · have hlt' : s.stack.length - s.first < s.ws.length := by omega
        obtain ⟨adw, tw, hwa, _, hwN, hwR, hwc⟩ := wantEl (h0.wants) hlt'
        have hstep : q.step .next s = .go .tri { s with stack := s.stack ++ [q.ch s.ahead.length (ctxAt s.ns s.ahead.length) s.ws[s.stack.length - s.first]] } := by
          rw [Quest.step, List.getElem?_eq_getElem hlt']
        generalize hwt : s.ws[s.stack.length - s.first] = wt at *
        have hInv' := InvL.step (l := .next) (l' := .tri) hGood hCl hI hstep
        refine bnd.drew fun w2 x2 => ⟨sp, rfl, stk, BoxAt.at1 hbx (k := 7) (x1.trans x2) rfl, sp, rfl, ws, BoxAt.at1 hbx (k := 10) (x1.trans x2) rfl, adw, ⟨hwa, by omega, by omega⟩, _, _, tw, by rw [Int.toNat_natCast]; exact hwc _ (x1.trans x2), ?_⟩
        have x02 := x1.trans x2
        have hC2 := hCs.below (x02.below' lo hCs.le)
        have hs2 := x02.size
        refine callX.intro (SE.resolve_search_choice.go (choice_se (s := s) (wt := wt) (rs := tw) hC2 ⟨stk, nds, ahd, ws, Q, hbx.ext x02, hlo, h0.ext x02⟩ hI.a hwN (SR := Q) (fun b hb => by have := h0.nodes.lt b hb; omega) (hwR.ext x02) fun v w3 x3 hv => ⟨x3, _, _, v, _, _, rfl, newS.intro fun a4 w4 x4 hb4 hab4 _ => ?_⟩))
        have x24 := x3.trans x4
        have x04 := x02.trans x24
        have hs3 := x3.size; have hs4 := x4.size
        have h4 := (h0.ext x02).grow x24 hC2.le (by omega)
        refine Sr0.pushCh (x := q.ch s.ahead.length (ctxAt s.ns s.ahead.length) wt) h4 apCh (by have := hC2.le; omega) (by omega) ⟨hwN, v, rfl, (hv.ext x4).mono fun b hb => .inr ⟨by omega, by omega⟩⟩ hb4.ldc (by omega) fun r' w5 h5 bel5 ho5 => ?_
        have hb5 : BoxAt w5 sp (srCells K stk nds ahd ws s.first) := (hbx.ext x04).oth ho5 fun ad had e => h0.o1 ad had e.symm
        have hs5 := bel5.size
        refine ⟨sp, rfl, ?_⟩
        refine stw.intro (o := 7) hb5 (by show 8 ≤ 12; omega) fun w6 b6 _ hb6 => ?_
        have bel6 : Below lo w w6 := Below.trans (Below.trans (x04.below' lo hCs.le) bel5) (b6.below (by have := hCs.le; omega) hlo)
        obtain ⟨m', hm', hE'⟩ := hEnd.go hstep
        exact NX .tri { s with stack := s.stack ++ [q.ch s.ahead.length (ctxAt s.ns s.ahead.length) wt] } w6 m' hm' bel6 ⟨r', nds, ahd, ws, _, hb6, hlo, h5.but b6⟩ hInv' hE'
      · have hnone : s.ws[s.stack.length - s.first]? = none := List.getElem?_eq_none (by omega)
        refine ⟨(q.N : Int), hlim _ (x1.below' lo hCs.le), ?_⟩
        have hC1 := hCs.below (x1.below' lo hCs.le)
        refine SE.resolve_search_bind.go (bind_se (s := s) hC1 ⟨stk, nds, ahd, ws, Q, hbx.ext x1, hlo, h0.ext x1⟩ hI hN hD (fun w2 hb x2 => ⟨_, rfl, fun _ => ?_, fun h => absurd rfl h⟩) (fun w2 hb bel2 => ⟨_, rfl, fun h => by omega, fun _ => ⟨fun _ => ?_, fun h => absurd rfl h⟩⟩) fun w2 ns' hb bel2 hsa2 => ⟨_, rfl, fun h => by omega, fun _ => ⟨fun h => by omega, fun _ => bnd.drew fun w3 x3 => ?_⟩⟩)
        · have hstep : q.step .next s = .go .back (s) := by rw [Quest.step, hnone]; dsimp only; rw [hb]
          obtain ⟨m', hm', hE'⟩ := hEnd.go hstep
          have x02 := x1.trans x2
          exact NX .back s w2 m' hm' (x02.below' lo hCs.le) ⟨stk, nds, ahd, ws, Q, hbx.ext x02, hlo, h0.ext x02⟩ (InvL.step (l := .next) (l' := .back) hGood hCl hI hstep) hE'
        · have hstep : q.step .next s = .err 32 := by rw [Quest.step, hnone]; dsimp only; rw [hb]
          exact hErr 32 w2 (Below.trans (x1.below' lo hCs.le) bel2) (hEnd.fin hstep (fun _ _ h => by cases h))
        · obtain ⟨stk2, nds2, ahd2, ws2, Q2, hb2, hlo2, h2⟩ := hsa2
          have bel3 : Below lo w w3 := Below.trans (Below.trans (x1.below' lo hCs.le) bel2) (x3.below' lo (by have := hCs.le; have := bel2.size; omega))
          have hal2 : ahd2.len = ((s.ahead ++ [s.ns.length]).map Int.ofNat).length := h2.ahead.len
          have hnl2 : nds2.len = ns'.length := h2.nodes.len
          rw [List.length_map, List.length_append, List.length_singleton] at hal2
          refine ⟨sp, rfl, ahd2, BoxAt.at1 hb2 (k := 9) x3 rfl, sp, rfl, nds2, BoxAt.at1 hb2 (k := 8) x3 rfl, fun heq => ?_, fun hne => ?_⟩
          · have hstep : q.step .next s = .done ns' s.dec := by
              rw [Quest.step, hnone]; dsimp only; rw [hb]; dsimp only
              rw [if_pos (by omega)]
            have hnsl := (bind_len hb hI.n).2
            refine ⟨sp, rfl, nds2, BoxAt.at1 hb2 (k := 8) x3 rfl, ?_⟩
            exact hDone ns' s.dec nds2 w3 Q2 bel3 (h2.nodes.ext x3) (fun b hb => (h2.q b hb).1) (by omega) (hEnd.fin hstep (fun _ _ h => by cases h))
          · have hstep : q.step .next s = .go .next { s with ns := ns', ahead := s.ahead ++ [s.ns.length], ws := q.wants ns' (s.ahead.length + 1), first := s.stack.length } := by
              rw [Quest.step, hnone]; dsimp only; rw [hb]; dsimp only
              rw [if_neg (by omega)]
            obtain ⟨m', hm', hE'⟩ := hEnd.go hstep
            have hInv' := InvL.step (l := .next) (l' := .next) hGood hCl hI hstep
            refine SE.resolve_search_begin.go (begin_se (hCs.below bel3) ⟨stk2, nds2, ahd2, ws2, Q2, hb2.ext x3, hlo2, h2.ext x3⟩ hInv'.a fun w4 bel4 hsa4 => ⟨rfl, ?_⟩)
            have e1 : (s.ahead ++ [s.ns.length]).length = s.ahead.length + 1 := by rw [List.length_append, List.length_singleton]
            refine NX .next { s with ns := ns', ahead := s.ahead ++ [s.ns.length], ws := q.wants ns' (s.ahead.length + 1), first := s.stack.length } w4 m' hm' (Below.trans bel3 bel4) ?_ hInv' hE'
            rw [← e1]; exact hsa4
    | tri =>
      have hI : InvS q 1 s := hI
      subst hlb
      refine ⟨fun h => absurd h (by decide), fun _ => ?_, fun h => absurd h (by decide)⟩
      have hskl : s.stack.length ≤ 4097 := by have := hI.k; have := hI.d; omega
      have hfs := hI.f
      obtain ⟨c, hl⟩ : ∃ c, s.stack.getLast? = some c := by
        cases h : s.stack.getLast? with
        | none => rw [List.getLast?_eq_none_iff] at h; rw [h] at hfs; simp at hfs
        | some c => exact ⟨c, rfl⟩
      obtain ⟨pre, hpre⟩ : ∃ pre, s.stack = pre ++ [c] := List.getLast?_eq_some_iff.1 hl
      have hpl : s.stack.length = pre.length + 1 := by rw [hpre, List.length_append, List.length_singleton]
      have hx : s.stack[pre.length]? = some c := by rw [hpre]; simp
      obtain ⟨ad, cs, hna, ⟨hNx, v, rfl, hv'⟩, hcx⟩ := h0.stack.el hx
      have hw1 : wrapI ((stk.len : Int) - 1) = (pre.length : Int) := by rw [hsl, hpl, wrapI_eq (by omega) (by omega)]; omega
      have hvs : c.vs.length ≤ 1000 := hI.v c.vs (List.mem_map_of_mem (by rw [hpre]; simp))
      have hcap := (h0.stack.read (by show s.stack.length * 64 ≤ room; unfold room; omega) (by omega)).2.1
      refine bnd.drew fun w1 x1 => ⟨sp, rfl, stk, BoxAt.at1 hbx (k := 7) x1 rfl, sp, rfl, stk, BoxAt.at1 hbx (k := 7) x1 rfl, ad, ⟨hna, by rw [hw1]; omega, by rw [hw1]; omega⟩, _, _, v, _, _, by rw [hw1, Int.toNat_natCast]; exact hcx _ x1, newS.intro fun a4 w2 x2 hb2 hab2 _ => stw0.intro hb2 (by simp) fun w3 b3 _ hb3 => bnd.drew fun w4 x4 => ⟨(c.i : Int), hb3.at1 (k := 4) x4 rfl, _, _, v, _, _, hb3.at0 (r := []) x4 rfl, ?_⟩⟩
      have x13 : Ext w1 w3 := b3.ext x2 (by omega)
      have x04 := x1.trans (x13.trans x4)
      refine callX.intro (SE.resolve_choice_many.go (chMany_se (c := c) (hv'.ext x04) hvs fun w5 x5 => ⟨x5, _, rfl, fun hlt => ?_, fun hge => ?_⟩))
      · have hlt' : c.i < c.many := by omega
        have x05 := x04.trans x5
        have bel5 := x05.below' lo hCs.le
        refine ⟨D, (hRC2.below bel5).b1.at0 (Ext.refl _) rfl, fun heq => ?_, fun hne => ?_⟩
        · have hstep : q.step .tri s = .err 31 := by
            rw [Quest.step, hl]; dsimp only
            rw [if_pos hlt', if_pos (by omega)]
          exact hErr 31 w5 bel5 (hEnd.fin hstep (fun _ _ h => by cases h))
        · have hstep : q.step .tri s = .go .next { s with dec := s.dec + 1 } := by
            rw [Quest.step, hl]; dsimp only
            rw [if_pos hlt', if_neg (by omega)]
          obtain ⟨m', hm', hE'⟩ := hEnd.go hstep
          have e1 : wrapI ((s.dec : Int) + 1) = ((s.dec + 1 : Nat) : Int) := by have := hI.d; rw [wrapI_eq (by omega) (by omega)]; omega
          rw [e1]
          exact NX .next { s with dec := s.dec + 1 } w5 m' hm' bel5 ⟨stk, nds, ahd, ws, Q, hbx.ext x05, hlo, ⟨(h0.ext x05).1, (h0.ext x05).2, (h0.ext x05).3, (h0.ext x05).4, (h0.ext x05).5, (h0.ext x05).6, (h0.ext x05).7, (h0.ext x05).8, (h0.ext x05).9, (h0.ext x05).10, (h0.ext x05).11⟩⟩ (InvL.step (l := .tri) (l' := .next) hGood hCl hI hstep) hE'
      · have hge' : ¬ c.i < c.many := by omega
        have hstep : q.step .tri s = .go .back { s with stack := s.stack.dropLast } := by
          rw [Quest.step, hl]; dsimp only
          rw [if_neg hge']
        obtain ⟨m', hm', hE'⟩ := hEnd.go hstep
        have hI' : InvS q 0 { s with stack := s.stack.dropLast } := InvL.step (l := .tri) (l' := .back) hGood hCl hI hstep
        have hdl : s.stack.dropLast = pre := by rw [hpre, List.dropLast_concat]
        rw [hdl] at hI' hE' hstep
        refine bnd.drew fun w6 x6 => ?_
        have x06 := (x04.trans x5).trans x6
        have hs6 := x06.size
        refine ⟨sp, rfl, stk, BoxAt.at1 hbx (k := 7) x06 rfl, sp, rfl, stk, BoxAt.at1 hbx (k := 7) x06 rfl, ⟨by rw [hw1]; omega, by rw [hw1]; omega⟩, sp, rfl, ?_⟩
        rw [hw1, Int.toNat_natCast]
        refine stw.intro (o := 7) (hbx.ext x06) (by show 8 ≤ 12; omega) fun w7 b7 _ hb7 => ?_
        have htk := OwnS.take (E := chE) ((h0.ext x06).but b7).stack (n := pre.length) (by omega)
        have htk2 : s.stack.take pre.length = pre := by rw [hpre]; simp
        rw [htk2] at htk
        have h7 : Sr0 w7 lo sp.block (Sl.cut stk 0 pre.length 5) nds ahd ws Q { s with stack := pre } := Sr0.setStk ((h0.ext x06).but b7) cut_a htk
        have bel7 : Below lo w w7 := (x06.below' lo hCs.le).trans (b7.below (by have := hCs.le; omega) hlo)
        have hb7' : BoxAt w7 sp (srCells K (Sl.cut stk 0 pre.length 5) nds ahd ws s.first) := hb7
        have hcl : (Sl.cut stk 0 pre.length 5).len = pre.length := htk.len
        refine ⟨sp, rfl, Sl.cut stk 0 pre.length 5, BoxAt.at1 hb7' (k := 7) (Ext.refl _) rfl, fun h00 => ?_, fun hnz => ?_⟩
        · have hp0 : pre = [] := List.eq_nil_of_length_eq_zero (by omega)
          have hstep2 : q.step .back { s with stack := pre } = .err 30 := by subst hp0; rfl
          exact hErr 30 w7 bel7 (hE'.fin hstep2 (fun _ _ h => by cases h))
        · obtain ⟨c2, hl2⟩ : ∃ c2, pre.getLast? = some c2 := by
            cases h : pre.getLast? with
            | none => rw [List.getLast?_eq_none_iff] at h; exact absurd (by rw [hcl, h]; rfl) hnz
            | some c => exact ⟨c, rfl⟩
          have hstep2 : q.step .back { s with stack := pre } = .go .tri (backTo q { s with stack := pre } c2.node) := by rw [step_back_eq]; show (match pre.getLast? with | none => _ | some c => _) = _; rw [hl2]
          obtain ⟨m2, hm2, hE2⟩ := hE'.go hstep2
          refine SE.resolve_search_back.go (back_se (s := { s with stack := pre }) (c := c2) (hCs.below bel7) ⟨_, nds, ahd, ws, Q, hb7', hlo, h7⟩ hI' hl2 hN hD fun w8 bel8 hsa8 => ⟨rfl, ?_⟩)
          exact NX .tri (backTo q { s with stack := pre } c2.node) w8 m2 (by omega) (bel7.trans bel8) hsa8 (InvL.step (l := .back) (l' := .tri) hGood hCl hI' hstep2) hE2
    | back =>
      have hI : InvS q 0 s := hI
      subst hlb
      refine ⟨fun h => absurd h (by decide), fun h => absurd h (by decide), fun _ => ?_⟩
      refine ⟨sp, rfl, stk, BoxAt.at1 hbx (k := 7) (Ext.refl _) rfl, fun h00 => ?_, fun hnz => ?_⟩
      · have hp0 : s.stack = [] := List.eq_nil_of_length_eq_zero (by omega)
        have hstep2 : q.step .back s = .err 30 := by rw [step_back_eq, hp0]; rfl
        exact hErr 30 w (Below.refl _ _) (hEnd.fin hstep2 (fun _ _ h => by cases h))
      · obtain ⟨c2, hl2⟩ : ∃ c2, s.stack.getLast? = some c2 := by
          cases h : s.stack.getLast? with
          | none => rw [List.getLast?_eq_none_iff] at h; exact absurd (by rw [hsl, h]; rfl) hnz
          | some c => exact ⟨c, rfl⟩
        have hstep2 : q.step .back s = .go .tri (backTo q s c2.node) := by rw [step_back_eq, hl2]
        obtain ⟨m2, hm2, hE2⟩ := hEnd.go hstep2
        refine SE.resolve_search_back.go (back_se (s := s) (c := c2) hCs ⟨stk, nds, ahd, ws, Q, hbx, hlo, h0⟩ hI hl2 hN hD fun w8 bel8 hsa8 => ⟨rfl, ?_⟩)
        exact NX .tri (backTo q s c2.node) w8 m2 hm2 bel8 hsa8 (InvL.step (l := .back) (l' := .tri) hGood hCl hI hstep2) hE2
end Go.Hal
namespace Go.Hal
open Go Go.RowKit Go.Proofs Go.Shelf
def Stp.ns : Stp → List Node
  | .done ns _ => ns
  | _ => []
def Stp.dec : Stp → Int
  | .done _ t => (t : Int)
  | _ => 0
def Stp.code : Stp → Int
  | .err e => e
  | _ => 0
theorem run11_se {L : List Pack} {m : Mani} {dev : Bool} {pins : List Pin} {S SA : Nat → Prop} {cp : Addr} {rr : Nat} {mD mDev mOpt mOv pS : Sl} {D N d3 d4 : Int} {w0 : World} {R : Sl → Int → Int → World → Prop} (ht : Tab w0) (hSA : Old SA w0)
    (hcat : CatL w0 S cp rr L) (hd : SlR depE w0 SA mD m.deps) (he : SlR depE w0 SA mDev m.dev) (ho : SlR depE w0 SA mOpt m.opt) (hv : SlR depE w0 SA mOv m.over) (hp : SlR pinE w0 SA pS pins)
    (hR : ∀ nds w', Ext w0 w' → SlR nodeE w' (fun b => w0.heap.size ≤ b ∧ b < w'.heap.size) nds (resOf L m dev pins D N).ns → R nds (resOf L m dev pins D N).dec (resOf L m dev pins D N).code w') :
    SE.resolve_Run (some cp) mD mDev mOpt mOv dev pS D N d3 d4 w0 R := by
  have hl := hcat.lt
  refine run_se ht hSA hcat hl.2.2.1 hl.1 hl.2.1 hd he ho hv hp (fun e w' hr hx => ?_) fun ns t nds w' hr hx hs => ?_
  · have h := hR Sl.nil w' hx
    rw [hr] at h
    exact h (SlR.nil trivial)
  · have h := hR nds w' hx
    rw [hr] at h
    exact h hs
theorem nodeEl {w : World} {S : Nat → Prop} {s : Sl} {l : List Node} (h : SlR nodeE w S s l) {n : Nat} (hn : n < l.length) :
    ∃ ad c e, s.a = some ad ∧ Str l[n].name ∧ SlR pinE w S c l[n].ctx ∧ SlR edgeE w S e l[n].edges ∧ ∀ w', Ext w w' → ldc w' (ad.add (n * 6)) [.string l[n].name, .int .i64 l[n].v.ma, .int .i64 l[n].v.mi, .int .i64 l[n].v.pa, Sl.v c, Sl.v e] := by
  obtain ⟨ad, cs, h1, h2, ⟨h0, c, e, rfl, h5, h6⟩, h4⟩ := h.el hn
  exact ⟨ad, c, e, h1, h0, h5, h6, h4⟩
end Go.Hal
namespace Go.Hal
open Go Go.RowKit Go.Proofs Go.Shelf
def n11 : ByteArray := ⟨#[97]⟩
def u11 : Ver := ⟨1, 0, 0⟩
def k11 : Pack := ⟨n11, u11, [], [], []⟩
def s11 : Span := ⟨⟨0, 0, 0⟩, ⟨999, 999, 999⟩⟩
def m11 : Mani := ⟨[⟨n11, [s11]⟩], [], [], []⟩
def known11 : Stp := resOf [k11] m11 true [] 9 9
def knB : Bool := decide (known11.code = 0) && decide (known11.dec = 1) && decide (known11.ns.length = 2) && decide (known11.ns[1]?.map (·.v) = some u11) && decide (known11.ns[0]?.map (·.edges.length) = some 1)
theorem k11_cat : (refPut [] k11).2 = [k11] := by decide +kernel
set_option maxRecDepth 100000 in
theorem knB_true : knB = true := by decide +kernel
theorem kn_facts : known11.code = 0 ∧ known11.dec = 1 ∧ known11.ns.length = 2 ∧ known11.ns[1]?.map (·.v) = some u11 ∧ known11.ns[0]?.map (·.edges.length) = some 1 := by
  have h := knB_true
  unfold knB at h
  simp only [Bool.and_eq_true, decide_eq_true_eq] at h
  exact ⟨h.1.1.1.1, h.1.1.1.2, h.1.1.2, h.1.2, h.2⟩
set_option maxHeartbeats 2000000 in
theorem known11_se {w : World} {R : Bool → World → Prop} (ht : Tab w) (hR : ∀ w', Ext w w' → R true w') : SE.halyardlaw11_known w R := by
  unfold SE.halyardlaw11_known
  have strA : Str n11 := by unfold Str n11; rw [maxLen_eq]; decide
  refine SE.catalog_New.go (catNew_L fun p r w1 x1 hC h1 _ => ⟨_, rfl, (fun h => by cases h), fun _ => newS.intro fun a w2 x2 ha hab _ => stw0.intro ha (by simp) fun w3 b3 _ ha3 => ?_⟩)
  have s1 := x1.size
  have x13 : Ext w1 w3 := b3.ext x2 (by omega)
  have x03 := x1.trans x13
  have ha3 : BoxAt w3 a [.int .i64 u11.ma, .int .i64 u11.mi, .int .i64 u11.pa] := ha3
  have har : a.block ≠ r := by have := hC.lt.1; omega
  refine ⟨_, _, _, ha3.ldc.pre (r := []) rfl, SE.catalog_Catalog_Put.go (catPut_L (x := k11) (S2 := None') (ht.ext x03) (hC.ext x13) strA (fun _ h => h.elim) (SlR.nil trivial) (SlR.nil trivial) (SlR.nil trivial) fun S4 w4 b4 hC4 _ _ => ⟨_, rfl, ?_⟩)⟩
  rw [k11_cat] at hC4
  have x04 : Ext w w4 := b4.ext x03 h1
  have ha4 := b4.box ha3 har
  refine newS.intro fun a6 w5 x5 hb6 _ _ => newS.intro fun a8 w6 x6 hb8 _ _ => ?_
  have x46 := x5.trans x6
  have x06 := x04.trans x46
  have hr6 : spanE.bytes ≤ room := by decide
  have hr8 : depE.bytes ≤ room := by decide
  have hsp := (box_one (E := spanE) (S := None') (x := s11) hb6 ⟨rfl, trivial⟩ hr6).ext x6
  have hdp := box_one (E := depE) (S := fun b => None' b ∨ b = a6.block) (x := ⟨n11, [s11]⟩) hb8 ⟨strA, _, rfl, hsp⟩ hr8
  have l6 := hb6.lt; have l8 := hb8.lt; have s6 := x6.size
  refine SE.resolve_Run.go (run11_se (L := [k11]) (m := m11) (pins := []) (SA := fun b => (None' b ∨ b = a6.block) ∨ b = a8.block) (ht.ext x06) (fun b hb => ?_) (hC4.ext x46) hdp (SlR.nil trivial) (SlR.nil trivial) (SlR.nil trivial) (SlR.nil trivial) fun nds w7 x7 hs => ⟨_, _, _, rfl, ?_⟩)
  · rcases hb with (hb | rfl) | rfl
    · exact hb.elim
    · omega
    · exact l8
  have hk : resOf [k11] m11 true [] 9 9 = known11 := rfl
  rw [hk] at hs ⊢
  obtain ⟨k1, k2, k3, k4, k5⟩ := kn_facts
  rw [k1, k2]
  generalize known11.ns = ns at *
  refine newS.intro fun a9 w8 x8 hb9 _ _ => stw0.intro hb9 (by simp) fun w9 b9 _ hb9 => bnd.drew fun w10 x10 => bound (bound ?_)
  have hn1 : 1 < ns.length := by omega
  have hn0 : 0 < ns.length := by omega
  have e1 : ns[1].v = u11 := by rw [List.getElem?_eq_getElem hn1] at k4; simpa using k4
  have e0 : ns[0].edges.length = 1 := by rw [List.getElem?_eq_getElem hn0] at k5; simpa using k5
  have hsl := hs.len
  obtain ⟨ad1, c1, g1, q1, _, _, _, l1⟩ := nodeEl hs hn1
  obtain ⟨ad0, c0, g0, q0, _, _, z0, l0⟩ := nodeEl hs hn0
  have x79 : Ext w7 w9 := b9.ext x8 (by omega)
  have x710 := x79.trans x10
  have x410 := (x46.trans x7).trans x710
  have z0l := z0.len
  refine ⟨nds, fun _ => hb9.at0 (r := []) x10 rfl, bound ⟨nds, fun _ => hb9.at0 (r := []) x10 rfl, ad1, fun _ => ⟨q1, by omega, by omega⟩, ns[1].v.ma, ns[1].v.mi, ns[1].v.pa, fun _ => (l1 _ x710).mid (k := 1) rfl, u11.ma, u11.mi, u11.pa, fun _ => (ha4.ext x410).at0 (r := []) (Ext.refl _) rfl, bound ⟨nds, fun _ => hb9.at0 (r := []) x10 rfl, ad0, fun _ => ⟨q0, by omega, by omega⟩, g0, fun _ => (l0 _ x710).mid (k := 5) (r := []) rfl, ?_⟩⟩⟩
  have h := hR w10 (x04.trans x410)
  have e2 : (nds.len : Int) = 2 := by omega
  have e3 : (g0.len : Int) = 1 := by omega
  rw [e1, e2, e3]
  exact h
end Go.Hal
namespace Go.Hal
def Quest.withD (q : Quest) (D : Nat) : Quest := { q with D := D }
def Quest.withN (q : Quest) (N : Nat) : Quest := { q with N := N }
def Cuts (D' : Nat) (o o' : Out) : Prop := match o with
  | .out => True
  | .err _ => True
  | .fail t' => (t' ≤ D' → o' = .fail t') ∧ (D' < t' → o' = .err 31)
  | .done ns t' => (t' ≤ D' → o' = .done ns t') ∧ (D' < t' → o' = .err 31)
def CutN (N' : Nat) (o o' : Out) : Prop := match o with
  | .out => True
  | .err _ => True
  | .fail t' => o' = .fail t' ∨ o' = .err 32
  | .done ns t' => (ns.length ≤ N' → o' = .done ns t' ∨ o' = .err 32) ∧ (N' < ns.length → o' = .err 32)
end Go.Hal
namespace Go.Hal
open Go Go.RowKit Go.Proofs Go.Shelf
theorem resOf_of {L : List Pack} {m : Mani} {dev : Bool} {pins : List Pin} {D N : Int} (hok : maniMay m = true ∧ 1 ≤ D ∧ D ≤ 4096 ∧ 1 ≤ N ∧ N ≤ 128) : resOf L m dev pins D N = (Quest.mk L m dev pins D.toNat N.toNat).res := by
  unfold resOf
  rw [if_pos hok]
theorem res_done {q : Quest} {ns : List Node} {t : Nat} (h : q.run = .done ns t) : q.res = .done ns t := by unfold Quest.res; rw [h]
end Go.Hal
namespace Go.Hal
def FlatL (L : List Pack) : Prop := ∀ x ∈ L, x.deps = [] ∧ x.peers = [] ∧ x.opt = []
section
variable {q : Quest}
theorem flat_wants (h : FlatL q.L) {ns : List Node} {k : Nat} (hk : k ≠ 0) : q.wants ns k = [] := by
  unfold Quest.wants wantsK
  rw [if_neg hk]
  cases keyAt ns k with
  | none => rfl
  | some x =>
    dsimp only
    cases hg : getL q.L x.1 x.2.1 with
    | none => rfl
    | some p =>
      obtain ⟨h1, h2, h3⟩ := h p (getL_some hg).1
      dsimp only
      rw [h1, h3]; rfl
theorem flat_ctx (h : FlatL q.L) {env : List Pin} {p : Pin} (hp : (getL q.L p.name p.v).isSome = true) : ctxRes q.L q.m.over env p = some [] := by
  unfold ctxRes ctx
  obtain ⟨x, hx⟩ := Option.isSome_iff_exists.1 hp
  obtain ⟨_, h2, _⟩ := h x (getL_some hx).1
  have e1 : ctxGo (getL q.L) q.m.over env p (env.length + 2) 0 [] = some [] := by
    rw [ctxGo]
    show (match getL q.L p.name p.v with
      | none => none
      | some x => match ctxStep env (peersOf q.m.over x.peers) [] with
        | none => none
        | some out' => ctxGo (getL q.L) q.m.over env p (env.length + 1) 1 out') = some []
    rw [hx]
    dsimp only
    rw [h2]
    show ctxGo (getL q.L) q.m.over env p (env.length + 1) 1 [] = some []
    rw [ctxGo]; rfl
  rw [e1]; rfl
def leaf (p : Pin) : Node := ⟨p.name, p.v, [], []⟩
theorem flat_targets (h : FlatL q.L) {env : List Pin} : ∀ {l : List Pin}, (∀ p ∈ l, (getL q.L p.name p.v).isSome = true) → targets q env l = some (l.map leaf)
  | [], _ => rfl
  | p :: r, hl => by
    rw [targets, flat_ctx h (hl p (.head _))]
    dsimp only
    rw [flat_targets h fun x hx => hl x (.tail _ hx)]; rfl
theorem putK_leaf {N : Nat} : ∀ {e : List Pin} {ks : List NKey}, (e.map (·.name)).Nodup → (∀ x ∈ ks, ∀ p ∈ e, x.1 ≠ p.name) → ks.length + e.length ≤ N → ∃ es, putK N ks (e.map leaf) = some (e.map leaf, es)
  | [], ks, _, _, _ => ⟨[], rfl⟩
  | p :: r, ks, hn, hk, hl => by
    rw [List.map_cons, putK]
    have hf : ks.findIdx? (fun y => decide (y = (leaf p).key)) = none := by
      rw [List.findIdx?_eq_none_iff]
      intro x hx
      simp only [decide_eq_false_iff_not]
      exact fun e => hk x hx p (.head _) (by rw [e]; rfl)
    rw [hf]
    dsimp only
    rw [if_neg (by simp at hl; omega)]
    rw [List.map_cons] at hn
    obtain ⟨h1, h2⟩ := List.nodup_cons.1 hn
    obtain ⟨es, he⟩ := putK_leaf (N := N) (e := r) (ks := ks ++ [(leaf p).key]) h2 (fun x hx y hy => by
      rcases List.mem_append.1 hx with hx | hx
      · exact hk x hx y (.tail _ hy)
      · rw [List.mem_singleton] at hx
        subst hx
        exact fun e => h1 (List.mem_map.2 ⟨y, hy, e.symm⟩)) (by simp at hl ⊢; omega)
    rw [he]
    exact ⟨_, rfl⟩
theorem flat_tail (h : FlatL q.L) : ∀ (f : Nat) (ns : List Node) (k t : Nat), k ≠ 0 → k < ns.length → ns.length ≤ k + f → (∀ i x, k ≤ i → ns[i]? = some x → x.ctx = [] ∧ x.edges = []) → q.go f ns k [] [] t = .done ns t
  | 0, ns, k, t, _, hk, hl, _ => by omega
  | f + 1, ns, k, t, h0, hk, hl, hx => by
    have hs : setEdges ns k [] = ns := by
      apply List.ext_getElem?
      intro i
      unfold setEdges
      rw [List.getElem?_modify]
      by_cases hi : k = i
      · subst hi
        cases hn : ns[k]? with
        | none => rfl
        | some x =>
          have := (hx k x (Nat.le_refl _) hn).2
          obtain ⟨a, b, c, d⟩ := x
          simp only at this
          subst this
          simp
      · cases ns[i]? <;> simp [hi]
    have hb : q.bind ns k [] = .ok ns := by
      unfold Quest.bind
      show (match putK q.N (ns.map Node.key) [] with | none => Bnd.many | some r => .ok (setEdges ns k r.2 ++ r.1)) = _
      rw [putK]
      show Bnd.ok (setEdges ns k [] ++ []) = _
      rw [hs, List.append_nil]
    rw [Quest.go, hb]
    dsimp only
    split
    · rfl
    · have hc : ctxAt ns (k + 1) = [] := by
        unfold ctxAt keyAt
        rw [List.getElem?_map]
        cases hn : ns[k + 1]? with
        | none => rfl
        | some x => exact (hx (k + 1) x (by omega) hn).1
      rw [flat_wants h (by omega), hc]
      exact flat_tail h f ns (k + 1) t (by omega) (by omega) (by omega) fun i x hi => hx i x (by omega)
def Bad (q : Quest) (w : Want) : Prop := cands q.L w.name w.range q.pins = [] ∧ ¬ w.kind = 2
def fstO (q : Quest) (w : Want) : Option Ver := (cands q.L w.name w.range q.pins).head?
def firsts (q : Quest) : List Want → List Pin
  | [] => []
  | w :: l => match fstO q w with
    | none => firsts q l
    | some v => ⟨w.name, v⟩ :: firsts q l
theorem firsts_names (l : List Want) : ((firsts q l).map (·.name)).Sublist (l.map (·.name)) := by
  induction l with
  | nil => exact .slnil
  | cons w l ih =>
    rw [firsts]
    cases fstO q w with
    | none => exact ih.cons _
    | some v => exact ih.cons_cons _
theorem firsts_there {l : List Want} : ∀ p ∈ firsts q l, (getL q.L p.name p.v).isSome = true ∧ p.name ∈ l.map (·.name) := by
  induction l with
  | nil => exact fun p h => by cases h
  | cons w l ih =>
    rw [firsts]
    intro p hp
    cases hv : fstO q w with
    | none =>
      rw [hv] at hp
      exact ⟨(ih p hp).1, .tail _ (ih p hp).2⟩
    | some v =>
      rw [hv] at hp
      rcases List.mem_cons.1 hp with rfl | hp
      · unfold fstO at hv
        have hm := List.mem_of_mem_head? hv
        unfold cands at hm
        have : v ∈ versOf w.name q.L := by
          rcases List.mem_append.1 hm with h | h
          · exact (List.mem_filter.1 (List.mem_filter.1 h).1).1
          · exact (List.mem_filter.1 (List.mem_filter.1 h).1).1
        unfold versOf at this
        obtain ⟨x, hx, e⟩ := List.mem_map.1 this
        rw [List.mem_filter] at hx
        have hn : x.name = w.name := by simpa [hasN] using hx.2
        refine ⟨?_, .head _⟩
        unfold getL
        rw [List.find?_isSome]
        exact ⟨x, hx.1, by simp [sameKey, hn, e]⟩
      · exact ⟨(ih p hp).1, .tail _ (ih p hp).2⟩
theorem root_cand (w : Want) : q.cand (ctxAt [rootNode] 0) w = (cands q.L w.name w.range q.pins, decide (w.kind = 2)) := rfl
theorem addO_new {e : List Pin} {n : ByteArray} {v : Ver} (h : ∀ p ∈ e, p.name ≠ n) : addO e n (some v) = e ++ [⟨n, v⟩] := by
  unfold addO
  dsimp only
  rw [if_neg]
  rw [List.any_eq_true]
  rintro ⟨p, hp, h2⟩
  simp [isN] at h2
  exact h p hp h2
theorem flat_done (h : FlatL q.L) : ∀ (f : Nat) (l : List Want) (e : List Pin) (t : Nat), (∀ w ∈ l, ¬ Bad q w) → ((e.map (·.name)) ++ l.map (·.name)).Nodup → Rises (e ++ firsts q l) → (∀ p ∈ e, (getL q.L p.name p.v).isSome = true) → (∀ p ∈ e ++ firsts q l, p.name ≠ rootNode.name) →
    t + l.length ≤ q.D → 1 + e.length + l.length ≤ q.N → l.length + e.length + l.length + 3 ≤ f → ∃ es, q.go f [rootNode] 0 l e t = .done (⟨⟨#[]⟩, ⟨0, 0, 0⟩, [], es⟩ :: (e ++ firsts q l).map leaf) (t + l.length)
  | 0, _, _, _, _, _, _, _, _, _, _, hf => by omega
  | f + 1, [], e, t, _, hn, hr, ht, hz, hD, hN, hf => by
    rw [firsts, List.append_nil] at hr hz ⊢
    have hso : sortN e = e := (sortN_rises hr.nodup).one hr (sortN_perm e)
    obtain ⟨es, he⟩ := putK_leaf (N := q.N) (e := e) (ks := [rootNode].map Node.key) hr.nodup (fun x hx p hp => by
      rw [List.map_cons, List.map_nil, List.mem_singleton] at hx
      subst hx
      exact fun e => hz p hp e.symm) (by simp at hN ⊢; omega)
    have hb : q.bind [rootNode] 0 e = .ok (⟨⟨#[]⟩, ⟨0, 0, 0⟩, [], es⟩ :: e.map leaf) := by
      unfold Quest.bind
      rw [hso, flat_targets h ht]
      dsimp only
      rw [he]; rfl
    refine ⟨es, ?_⟩
    rw [Quest.go, hb]
    dsimp only
    split
    · rfl
    · rename_i hlen
      have hc : ctxAt (⟨⟨#[]⟩, ⟨0, 0, 0⟩, [], es⟩ :: e.map leaf) 1 = [] := by
        unfold ctxAt keyAt
        rw [List.getElem?_map, List.getElem?_cons_succ, List.getElem?_map]
        cases e[0]? <;> rfl
      rw [flat_wants h (by decide), hc]
      refine flat_tail h f _ 1 t (by decide) (by simp only [List.length_cons, List.length_map] at hlen ⊢; omega) (by simp only [List.length_cons, List.length_map, List.length_nil] at hf ⊢; omega) fun i x hi hx => ?_
      obtain ⟨j, rfl⟩ : ∃ j, i = j + 1 := ⟨i - 1, by omega⟩
      rw [List.getElem?_cons_succ, List.getElem?_map] at hx
      obtain ⟨p, _, rfl⟩ := Option.map_eq_some_iff.1 hx
      exact ⟨rfl, rfl⟩
  | f + 1, w :: l, e, t, hb, hn, hr, ht, hz, hD, hN, hf => by
    rw [Quest.go, root_cand]
    have hw := hb w (.head _)
    simp only [List.length_cons] at hD hN hf
    have hD1 : ¬ t = q.D := by omega
    have hnew : ∀ p ∈ e, p.name ≠ w.name := fun p hp he => (List.nodup_append.1 hn).2.2 p.name (List.mem_map.2 ⟨p, hp, rfl⟩) w.name (.head _) he
    have e3 : t + (w :: l).length = t + 1 + l.length := by simp only [List.length_cons]; omega
    cases hc : cands q.L w.name w.range q.pins with
    | nil =>
      have hk : w.kind = 2 := Classical.byContradiction fun hk => hw ⟨hc, hk⟩
      have ho : opts (([] : List Ver), decide (w.kind = 2)) = [none] := by rw [hk]; rfl
      have hfs : firsts q (w :: l) = firsts q l := by rw [firsts]; unfold fstO; rw [hc]; rfl
      rw [hfs] at hr hz
      obtain ⟨es, ih⟩ := flat_done h f l e (t + 1) (fun x hx => hb x (.tail _ hx)) (by
        rw [List.map_cons] at hn
        exact hn.sublist (List.Sublist.append (.refl _) (List.sublist_cons_self _ _))) hr ht hz (by omega) (by omega) (by omega)
      refine ⟨es, ?_⟩
      rw [ho, tryAll, if_neg hD1, hfs, e3]
      show (match q.go f [rootNode] 0 l e (t + 1) with | .fail t' => tryAll q.D _ [] t' | r => r) = _
      rw [ih]
    | cons v vs =>
      have ho : opts (v :: vs, decide (w.kind = 2)) = some v :: opts (vs, decide (w.kind = 2)) := rfl
      have hfs : firsts q (w :: l) = ⟨w.name, v⟩ :: firsts q l := by rw [firsts]; unfold fstO; rw [hc]; rfl
      rw [hfs] at hr hz
      have hth : (getL q.L w.name v).isSome = true := (firsts_there (q := q) (l := [w]) ⟨w.name, v⟩ (by rw [firsts]; unfold fstO; rw [hc]; exact .head _)).1
      have e2 : e ++ ⟨w.name, v⟩ :: firsts q l = (e ++ [⟨w.name, v⟩]) ++ firsts q l := by rw [List.append_assoc]; rfl
      rw [e2] at hr hz
      obtain ⟨es, ih⟩ := flat_done h f l (e ++ [⟨w.name, v⟩]) (t + 1) (fun x hx => hb x (.tail _ hx)) (by
        rw [List.map_append, List.append_assoc]; exact hn) hr (fun p hp => by
        rcases List.mem_append.1 hp with hp | hp
        · exact ht p hp
        · rw [List.mem_singleton] at hp; subst hp; exact hth) hz (by omega) (by simp; omega) (by simp; omega)
      refine ⟨es, ?_⟩
      rw [ho, tryAll, if_neg hD1, hfs, e3, e2]
      show (match q.go f [rootNode] 0 l (addO e w.name (some v)) (t + 1) with | .fail t' => tryAll q.D _ _ t' | r => r) = _
      rw [addO_new hnew, ih]
def Fails : Out → Prop
  | .fail _ => True
  | .err e => e = 31
  | _ => False
theorem try_fails {D : Nat} {k : Option Ver → Nat → Out} (h : ∀ o t, Fails (k o t) ∨ k o t = .out) : ∀ (os : List (Option Ver)) (t : Nat), Fails (tryAll D k os t) ∨ tryAll D k os t = .out
  | [], _ => .inl trivial
  | o :: os, t => by
    rw [tryAll]
    split
    · exact .inl rfl
    · have h1 := h o (t + 1)
      revert h1
      cases k o (t + 1) with
      | fail t' => exact fun _ => try_fails h os t'
      | err e => exact fun h => h
      | done _ _ => exact fun h => h
      | out => exact fun h => h
theorem flat_bad : ∀ (f : Nat) (l : List Want) (e : List Pin) (t : Nat), (∃ w ∈ l, Bad q w) → Fails (q.go f [rootNode] 0 l e t) ∨ q.go f [rootNode] 0 l e t = .out
  | 0, _, _, _, _ => .inr rfl
  | f + 1, [], _, _, ⟨_, h, _⟩ => by cases h
  | f + 1, w :: l, e, t, ⟨x, hx, hb⟩ => by
    rw [Quest.go, root_cand]
    rcases List.mem_cons.1 hx with rfl | hx
    · have ho : opts (cands q.L x.name x.range q.pins, decide (x.kind = 2)) = [] := by rw [hb.1, decide_eq_false hb.2]; rfl
      rw [ho]; exact .inl trivial
    · exact try_fails (fun o t => flat_bad f l _ t ⟨x, hx, hb⟩) _ _
theorem flat_first : ∀ (f : Nat) (pre : List Want) (w : Want) (l : List Want) (e : List Pin) (t : Nat), (∀ x ∈ pre, cands q.L x.name x.range q.pins = [] ∧ x.kind = 2) → Bad q w → t + pre.length ≤ q.D → pre.length + 1 ≤ f → ∃ t', q.go f [rootNode] 0 (pre ++ w :: l) e t = .fail t'
  | 0, _, _, _, _, _, _, _, _, hf => by omega
  | f + 1, [], w, l, e, t, _, hb, _, _ => by
    rw [List.nil_append, Quest.go, root_cand]
    have ho : opts (cands q.L w.name w.range q.pins, decide (w.kind = 2)) = [] := by rw [hb.1, decide_eq_false hb.2]; rfl
    rw [ho]; exact ⟨t, rfl⟩
  | f + 1, x :: pre, w, l, e, t, hp, hb, hD, hf => by
    rw [List.cons_append, Quest.go, root_cand]
    obtain ⟨h1, h2⟩ := hp x (.head _)
    have ho : opts (cands q.L x.name x.range q.pins, decide (x.kind = 2)) = [none] := by rw [h1, h2]; rfl
    simp only [List.length_cons] at hD hf
    obtain ⟨t', ht⟩ := flat_first f pre w l e (t + 1) (fun y hy => hp y (.tail _ hy)) hb (by omega) (by omega)
    rw [ho, tryAll, if_neg (by omega)]
    refine ⟨t', ?_⟩
    show (match q.go f [rootNode] 0 (pre ++ w :: l) e (t + 1) with | .fail t' => tryAll q.D _ [] t' | r => r) = _
    rw [ht]; rfl
end
end Go.Hal
namespace Go.Hal
open Go Go.RowKit Go.Proofs Go.Shelf
set_option maxHeartbeats 2000000 in
theorem r06text_se {m : Mani} {d e o v : Sl} {S : Nat → Prop} {w : World} {R : ByteArray → World → Prop} (hm : maniLists m = true) (hd : SlR depE w S d m.deps) (he : SlR depE w S e m.dev) (ho : SlR depE w S o m.opt) (hv : SlR depE w S v m.over)
    (hR : ∀ w', Ext w w' → R (B (maniText m)) w') : SE.halyardref06_text d e o v w R := by
  unfold SE.halyardref06_text
  unfold maniLists at hm
  simp only [Bool.and_eq_true] at hm
  obtain ⟨⟨⟨h1, h2⟩, h3⟩, h4⟩ := hm
  have n1 := depsMay_names h1; have n2 := depsMay_names h2; have n3 := depsMay_names h3; have n4 := depsMay_names h4
  have l1 := depLines_len (word := wNeeds) (by decide) fun d hd => (n1.2 d hd).1
  have l2 := depLines_len (word := wDev) (by decide) fun d hd => (n2.2 d hd).1
  have l3 := depLines_len (word := wLikes) (by decide) fun d hd => (n3.2 d hd).1
  have l4 := depLines_len (word := wPins) (by decide) fun d hd => (n4.2 d hd).1
  refine newS.intro fun a w1 x1 hb _ _ => bnd.drew fun w2 x2 => ?_
  refine ⟨d, hb.at0 (by (repeat (first | assumption | exact Ext.refl _ | refine Ext.trans ?_ (by assumption)))) rfl, e, hb.at1 (by (repeat (first | assumption | exact Ext.refl _ | refine Ext.trans ?_ (by assumption)))) rfl, o, hb.at1 (by (repeat (first | assumption | exact Ext.refl _ | refine Ext.trans ?_ (by assumption)))) rfl, v, hb.at1 (by (repeat (first | assumption | exact Ext.refl _ | refine Ext.trans ?_ (by assumption)))) rfl, callX.intro (SE.halyardref05_Lines.go (word := B wNeeds) (r05Lines_se (by decide) h1 (hd.ext (by (repeat (first | assumption | exact Ext.refl _ | refine Ext.trans ?_ (by assumption))))) fun w3 x3 => ⟨x3, _, rfl, ?_⟩))⟩
  simp only [lit_app]
  refine ⟨by rw [lit_size, B_size, maxI_eq]; simp; omega, callX.intro (SE.halyardref05_Lines.go (word := B wDev) (r05Lines_se (by decide) h2 (he.ext (by (repeat (first | assumption | exact Ext.refl _ | refine Ext.trans ?_ (by assumption))))) fun w4 x4 => ⟨x4, _, rfl, ?_⟩))⟩
  simp only [B_app]
  refine ⟨by rw [B_size, B_size, maxI_eq]; simp; omega, callX.intro (SE.halyardref05_Lines.go (word := B wLikes) (r05Lines_se (by decide) h3 (ho.ext (by (repeat (first | assumption | exact Ext.refl _ | refine Ext.trans ?_ (by assumption))))) fun w5 x5 => ⟨x5, _, rfl, ?_⟩))⟩
  simp only [B_app]
  refine ⟨by rw [B_size, B_size, maxI_eq]; simp; omega, SE.halyardref05_Lines.go (word := B wPins) (r05Lines_se (by decide) h4 (hv.ext (by (repeat (first | assumption | exact Ext.refl _ | refine Ext.trans ?_ (by assumption))))) fun w6 x6 => ⟨_, rfl, ?_⟩)⟩
  simp only [B_app]
  refine ⟨by rw [B_size, B_size, maxI_eq]; simp; omega, ?_⟩
  have := hR w6 (by (repeat (first | assumption | exact Ext.refl _ | refine Ext.trans ?_ (by assumption))))
  simpa [maniText, pjText] using this
set_option maxHeartbeats 2000000 in
theorem r06May_se {m : Mani} {d e o v : Sl} {S : Nat → Prop} {w : World} {R : Bool → World → Prop} (hd : SlR depE w S d m.deps) (he : SlR depE w S e m.dev) (ho : SlR depE w S o m.opt) (hv : SlR depE w S v m.over)
    (hR : ∀ w', Ext w w' → R (maniMay m) w') : SE.halyardref06_May d e o v w R := by
  unfold SE.halyardref06_May
  refine newS.intro fun _ w1 x1 hb _ _ => ?_
  refine ⟨d, hb.at0 (by (repeat (first | assumption | exact Ext.refl _ | refine Ext.trans ?_ (by assumption)))) rfl, SE.halyardref05_List.go (r05List_se (hd.ext (by (repeat (first | assumption | exact Ext.refl _ | refine Ext.trans ?_ (by assumption))))) fun w2 x2 => ⟨_, rfl, bound ?_⟩)⟩
  refine ⟨e, fun _ => hb.at1 (by (repeat (first | assumption | exact Ext.refl _ | refine Ext.trans ?_ (by assumption)))) rfl, gCall.intro (depsMay m.dev) (fun _ q hq => SE.halyardref05_List.go (r05List_se (he.ext (by (repeat (first | assumption | exact Ext.refl _ | refine Ext.trans ?_ (by assumption))))) fun w' hx => ⟨_, rfl, hq _ hx⟩)) fun t2 w3 x3 ht2 => bound ?_⟩
  refine ⟨o, fun _ => hb.at1 (by (repeat (first | assumption | exact Ext.refl _ | refine Ext.trans ?_ (by assumption)))) rfl, gCall.intro (depsMay m.opt) (fun _ q hq => SE.halyardref05_List.go (r05List_se (ho.ext (by (repeat (first | assumption | exact Ext.refl _ | refine Ext.trans ?_ (by assumption))))) fun w' hx => ⟨_, rfl, hq _ hx⟩)) fun t3 w4 x4 ht3 => bound ?_⟩
  refine ⟨v, fun _ => hb.at1 (by (repeat (first | assumption | exact Ext.refl _ | refine Ext.trans ?_ (by assumption)))) rfl, gCall.intro (depsMay m.over) (fun _ q hq => SE.halyardref05_List.go (r05List_se (hv.ext (by (repeat (first | assumption | exact Ext.refl _ | refine Ext.trans ?_ (by assumption))))) fun w' hx => ⟨_, rfl, hq _ hx⟩)) fun t4 w5 x5 ht4 => ?_⟩
  have e1 : ((((!depsMay m.deps) || (!t2)) || (!t3)) || (!t4)) = !maniLists m := by
    unfold maniLists
    cases h1 : depsMay m.deps
    · simp
    rw [h1] at ht2 ht3 ht4
    rw [ht2 rfl] at ht3 ht4 ⊢
    cases h2 : depsMay m.dev
    · simp
    rw [h2] at ht3 ht4
    rw [ht3 rfl] at ht4 ⊢
    cases h3 : depsMay m.opt
    · simp
    rw [h3] at ht4
    rw [ht4 rfl]
    simp
  rw [e1]
  refine ⟨fun h => ?_, fun h => ?_⟩
  · have : maniMay m = false := by
      unfold maniMay
      have : maniLists m = false := by simpa using h
      rw [this]; rfl
    rw [← this]; exact hR _ (by (repeat (first | assumption | exact Ext.refl _ | refine Ext.trans ?_ (by assumption))))
  have hm : maniLists m = true := by simpa using h
  refine ⟨d, hb.at0 (by (repeat (first | assumption | exact Ext.refl _ | refine Ext.trans ?_ (by assumption)))) rfl, e, hb.at1 (by (repeat (first | assumption | exact Ext.refl _ | refine Ext.trans ?_ (by assumption)))) rfl, SE.halyardref05_Apart.go (r05Apart_se (hd.ext (by (repeat (first | assumption | exact Ext.refl _ | refine Ext.trans ?_ (by assumption))))) (he.ext (by (repeat (first | assumption | exact Ext.refl _ | refine Ext.trans ?_ (by assumption))))) fun w6 x6 => ⟨_, rfl, ?_⟩)⟩
  refine ⟨d, fun _ => hb.at0 (by (repeat (first | assumption | exact Ext.refl _ | refine Ext.trans ?_ (by assumption)))) rfl, o, fun _ => hb.at1 (by (repeat (first | assumption | exact Ext.refl _ | refine Ext.trans ?_ (by assumption)))) rfl, gCall.intro (apart2 m.deps m.opt) (fun _ q hq => SE.halyardref05_Apart.go (r05Apart_se (hd.ext (by (repeat (first | assumption | exact Ext.refl _ | refine Ext.trans ?_ (by assumption))))) (ho.ext (by (repeat (first | assumption | exact Ext.refl _ | refine Ext.trans ?_ (by assumption))))) fun w' hx => ⟨_, rfl, hq _ hx⟩)) fun t5 w7 x7 ht5 => bound ?_⟩
  refine ⟨e, fun _ => hb.at1 (by (repeat (first | assumption | exact Ext.refl _ | refine Ext.trans ?_ (by assumption)))) rfl, o, fun _ => hb.at1 (by (repeat (first | assumption | exact Ext.refl _ | refine Ext.trans ?_ (by assumption)))) rfl, gCall.intro (apart2 m.dev m.opt) (fun _ q hq => SE.halyardref05_Apart.go (r05Apart_se (he.ext (by (repeat (first | assumption | exact Ext.refl _ | refine Ext.trans ?_ (by assumption))))) (ho.ext (by (repeat (first | assumption | exact Ext.refl _ | refine Ext.trans ?_ (by assumption))))) fun w' hx => ⟨_, rfl, hq _ hx⟩)) fun t6 w8 x8 ht6 => bound ?_⟩
  have e2 : ((apart2 m.deps m.dev && t5) && t6) = maniApart m := by
    unfold maniApart
    cases h1 : apart2 m.deps m.dev
    · rfl
    rw [h1] at ht5 ht6
    rw [ht5 rfl] at ht6 ⊢
    cases h2 : apart2 m.deps m.opt
    · rfl
    rw [h2] at ht6
    rw [ht6 rfl]
  rw [e2]
  refine ⟨d, e, o, v, fun _ => hb.at0 (r := []) (by (repeat (first | assumption | exact Ext.refl _ | refine Ext.trans ?_ (by assumption)))) rfl, gCall.intro (B (maniText m)) (fun _ q hq => SE.halyardref06_text.go (r06text_se hm (hd.ext (by (repeat (first | assumption | exact Ext.refl _ | refine Ext.trans ?_ (by assumption))))) (he.ext (by (repeat (first | assumption | exact Ext.refl _ | refine Ext.trans ?_ (by assumption))))) (ho.ext (by (repeat (first | assumption | exact Ext.refl _ | refine Ext.trans ?_ (by assumption))))) (hv.ext (by (repeat (first | assumption | exact Ext.refl _ | refine Ext.trans ?_ (by assumption))))) fun w' hx => ⟨_, rfl, hq _ hx⟩)) fun t7 w9 x9 ht7 => ?_⟩
  have e3 : (maniApart m && decide ((t7.size : Int) ≤ 4096)) = maniMay m := by
    unfold maniMay
    rw [hm, Bool.true_and]
    cases h1 : maniApart m
    · rfl
    rw [ht7 h1, B_size, Bool.true_and, Bool.true_and, decide_eq_decide]; omega
  rw [e3]; exact hR _ (by (repeat (first | assumption | exact Ext.refl _ | refine Ext.trans ?_ (by assumption))))
end Go.Hal
namespace Go.Hal
theorem nameMay_ne {n : ByteArray} (h : nameMay n = true) : n ≠ rootNode.name := by
  rintro rfl
  revert h
  unfold nameMay
  rw [show bEq rootNode.name ⟨#[]⟩ = true from bEq_iff.2 rfl]
  simp
theorem wantsOf_fine {over a b : List Dep} (hn : ((a ++ b).map (·.name)).Nodup) (hm : ∀ d ∈ a ++ b, nameMay d.name = true) : ((wantsOf over a b).map Want.name).Nodup ∧ ∀ w ∈ wantsOf over a b, nameMay w.name = true ∧ (w.kind = 1 ∨ w.kind = 2) := by
  unfold wantsOf
  have hp := stSort_perm (c := cW) (a.map (wantOf 1 over) ++ b.map (wantOf 2 over))
  refine ⟨(hp.map Want.name).nodup_iff.2 ?_, fun w hw => ?_⟩
  · have : (a.map (wantOf 1 over) ++ b.map (wantOf 2 over)).map Want.name = (a ++ b).map (·.name) := by
      rw [List.map_append, List.map_append, List.map_map, List.map_map]; rfl
    rw [this]; exact hn
  · rcases List.mem_append.1 (hp.mem_iff.1 hw) with h | h
    · obtain ⟨d, hd, rfl⟩ := List.mem_map.1 h
      exact ⟨hm d (List.mem_append_left _ hd), .inl rfl⟩
    · obtain ⟨d, hd, rfl⟩ := List.mem_map.1 h
      exact ⟨hm d (List.mem_append_right _ hd), .inr rfl⟩
theorem app_fine {a b : List Dep} (ha : depsMay a = true) (hb : depsMay b = true) (h : apart2 a b = true) : ((a ++ b).map (·.name)).Nodup ∧ ∀ d ∈ a ++ b, nameMay d.name = true := by
  refine ⟨?_, fun d hd => ?_⟩
  · rw [List.map_append, List.nodup_append]
    exact ⟨depsMay_nodup ha, depsMay_nodup hb, apart2_iff.1 h⟩
  · rcases List.mem_append.1 hd with hd | hd
    · exact ((depsMay_names ha).2 d hd).1
    · exact ((depsMay_names hb).2 d hd).1
theorem wants_fine {q : Quest} (hG : GoodL q.L) (hm : maniMay q.m = true) (ns : List Node) (k : Nat) : ((q.wants ns k).map Want.name).Nodup ∧ ∀ w ∈ q.wants ns k, nameMay w.name = true ∧ (w.kind = 1 ∨ w.kind = 2) := by
  unfold Quest.wants wantsK
  split
  · obtain ⟨h1, h2, h3, _, h4⟩ := maniMay_lists hm
    unfold maniApart at h4
    simp only [Bool.and_eq_true] at h4
    obtain ⟨⟨a1, a2⟩, a3⟩ := h4
    refine wantsOf_fine ?_ ?_
    · unfold rootMust
      split
      · rw [List.map_append, List.map_append, List.nodup_append, List.nodup_append]
        refine ⟨⟨depsMay_nodup h1, depsMay_nodup h2, apart2_iff.1 a1⟩, depsMay_nodup h3, fun x hx y hy => ?_⟩
        rcases List.mem_append.1 hx with hx | hx
        · exact apart2_iff.1 a2 x hx y hy
        · exact apart2_iff.1 a3 x hx y hy
      · exact (app_fine h1 h3 a2).1
    · unfold rootMust
      split
      · intro d hd
        rcases List.mem_append.1 hd with hd | hd
        · exact (app_fine h1 h2 a1).2 d hd
        · exact ((depsMay_names h3).2 d hd).1
      · exact (app_fine h1 h3 a2).2
  · split
    · exact ⟨by simp, fun w hw => by cases hw⟩
    · split
      · exact ⟨by simp, fun w hw => by cases hw⟩
      · rename_i p hp
        have := hG.may p (getL_some hp).1
        unfold packMay listsMay apart3 at this
        simp only [Bool.and_eq_true] at this
        obtain ⟨⟨⟨⟨_, d1⟩, d2⟩, d3⟩, ⟨⟨_, b2⟩, _⟩, _⟩ := this
        obtain ⟨q1, q2⟩ := app_fine d1 d3 b2
        exact wantsOf_fine q1 q2
end Go.Hal
namespace Go.Hal
open Go Go.RowKit Go.Proofs Go.Shelf
def bareP (x : Pack) : Pack := ⟨x.name, x.v, [], [], []⟩
theorem catOf_mem {l : List Pack} : ∀ x ∈ catOf l, x ∈ l := by
  have key : ∀ (l L : List Pack), ∀ x ∈ l.foldl (fun L x => (refPut L x).2) L, x ∈ L ∨ x ∈ l := fun l => by
    induction l with
    | nil => exact fun L x h => .inl h
    | cons y r ih =>
      intro L x h
      rcases ih _ x h with h | h
      · have : ∀ x ∈ (refPut L y).2, x ∈ L ∨ x = y := fun x hx => by
          unfold refPut at hx
          split at hx
          · exact .inl hx
          · split at hx
            · exact .inl hx
            · split at hx
              · exact .inl hx
              · have := (putAt_perm y L).mem_iff.1 hx
                rcases List.mem_append.1 this with h | h
                · exact .inl h
                · exact .inr (by simpa using h)
        rcases this x h with h | h
        · exact .inl h
        · exact .inr (h ▸ .head _)
      · exact .inr (.tail _ h)
  intro x hx
  rcases key l [] x hx with h | h
  · cases h
  · exact h
theorem flatL_bare (lp : List Pack) : FlatL (catOf (lp.map bareP)) := fun x hx => by
  obtain ⟨y, _, rfl⟩ := List.mem_map.1 (catOf_mem x hx)
  exact ⟨rfl, rfl, rfl⟩
section
variable {q : Quest}
theorem firsts_app (a b : List Want) : firsts q (a ++ b) = firsts q a ++ firsts q b := by
  induction a with
  | nil => rfl
  | cons w a ih =>
    rw [List.cons_append, firsts, firsts, ih]
    cases fstO q w <;> rfl
theorem cands_nil {L : List Pack} {n : ByteArray} {r : List Span} {P : List Pin} : cands L n r P = [] ↔ cands L n r [] = [] := by
  unfold cands
  dsimp only
  generalize (versOf n L).filter (spansIn r) = a
  have e : ∀ P, (a.filter (pinB P n) ++ a.filter fun v => !pinB P n v) = [] ↔ a = [] := fun P => by
    constructor
    · intro h
      have hp := List.filter_append_perm (pinB P n) a
      rw [h] at hp
      exact (hp.symm.eq_nil)
    · rintro rfl; rfl
  rw [e, e]
theorem wantsOf_sorted (over a b : List Dep) : (wantsOf over a b).Pairwise fun x y => cW x y ≤ 0 := stSort_sorted' cW_ord _
theorem firsts_rises {l : List Want} (hs : l.Pairwise fun x y => cW x y ≤ 0) (hn : (l.map Want.name).Nodup) : Rises (firsts q l) := by
  have h1 : l.Pairwise fun x y => bLt x.name y.name = true := by
    rw [List.nodup_iff_pairwise_ne, List.pairwise_map] at hn
    exact (hs.and hn).imp fun h => bLt_of h.1 h.2
  have h2 : (l.map Want.name).Pairwise fun x y => bLt x y = true := by rw [List.pairwise_map]; exact h1
  have h3 := h2.sublist (firsts_names (q := q) l)
  rw [List.pairwise_map] at h3
  exact h3
end
theorem flat_law {L : List Pack} {m : Mani} {dev : Bool} {pins : List Pin} (hG : GoodL L) (hF : FlatL L) (hm : maniMay m = true) :
    let q := Quest.mk L m dev pins 4096 128
    let l := wantsOf m.over (rootMust m dev) m.opt
    ((∀ w ∈ l, ¬ Bad q w) → ∃ es, resOf L m dev pins 4096 128 = .done (⟨⟨#[]⟩, ⟨0, 0, 0⟩, [], es⟩ :: (firsts q l).map leaf) l.length) ∧
    ((∃ w ∈ l, Bad q w) → ∃ c, resOf L m dev pins 4096 128 = .err c ∧ (c = 30 ∨ c = 31)) ∧
    (∀ pre w post, l = pre ++ w :: post → (∀ x ∈ pre, cands L x.name x.range pins = [] ∧ x.kind = 2) → Bad q w → resOf L m dev pins 4096 128 = .err 30) ∧ l.length ≤ 48 ∧ (∀ w ∈ l, w.kind = 1 ∨ w.kind = 2) ∧ (l.map Want.name).Nodup := by
  intro q l
  have hw := wants_fine (q := q) hG hm [rootNode] 0
  have hl : q.wants [rootNode] 0 = l := rfl
  rw [hl] at hw
  have h48 : l.length ≤ 48 := by
    show (wantsOf m.over (rootMust m dev) m.opt).length ≤ 48
    rw [wantsOf_len']
    have := rootMust_len' m dev
    have := maniMay_small hm
    omega
  have hr : resOf L m dev pins 4096 128 = q.res := resOf_of ⟨hm, by omega, by omega, by omega, by omega⟩
  have hfine := run_fine (q := q) (by show 1 ≤ 128; decide)
  have hrun : q.run = q.go 4226 [rootNode] 0 l [] 0 := rfl
  refine ⟨fun hnb => ?_, fun hb => ?_, fun pre w post hl' hp hb => ?_, h48, fun w h => (hw.2 w h).2, hw.1⟩
  · obtain ⟨es, he⟩ := flat_done (q := q) hF 4226 l [] 0 hnb (by simpa using hw.1) (by
      rw [List.nil_append]
      exact firsts_rises (wantsOf_sorted _ _ _) hw.1) (fun p hp => by cases hp) (fun p hp => by
      rw [List.nil_append] at hp
      obtain ⟨w, hwl, hwn⟩ := List.mem_map.1 (firsts_there p hp).2
      rw [← hwn]
      exact nameMay_ne (hw.2 w hwl).1) (by show 0 + l.length ≤ 4096; omega) (by show 1 + 0 + l.length ≤ 128; omega) (by simp; omega)
    refine ⟨es, ?_⟩
    rw [hr]
    have := res_done (hrun.trans he)
    rw [this]
    simp
  · have h := flat_bad (q := q) 4226 l [] 0 hb
    rw [← hrun] at h
    rw [hr]
    unfold Quest.res
    revert h hfine
    cases q.run with
    | fail t => exact fun _ _ => ⟨30, rfl, .inl rfl⟩
    | err e => exact fun _ h => ⟨e, rfl, .inr (by rcases h with h | h; exact h; cases h)⟩
    | done a b => exact fun _ h => by rcases h with h | h; exact h.elim; cases h
    | out => exact fun h _ => h.elim
  · obtain ⟨t', ht⟩ := flat_first (q := q) 4226 pre w post [] 0 hp hb (by
      have : pre.length ≤ l.length := by rw [hl']; simp
      show 0 + pre.length ≤ 4096; omega) (by
      have : pre.length ≤ l.length := by rw [hl']; simp
      omega)
    rw [hr]
    unfold Quest.res
    rw [hrun, hl', ht]
set_option maxHeartbeats 8000000 in
theorem resolveFlat_se {sP mD mDev mOpt mOv pS : Sl} {lp : List Pack} {m : Mani} {dev : Bool} {pins : List Pin} {D N d3 d4 : Int} {SA : Nat → Prop} {w : World} {R : Bool → World → Prop} (ht : Tab w) (hA : Old SA w) (hP : SlR packE w SA sP lp)
    (hd : SlR depE w SA mD m.deps) (he : SlR depE w SA mDev m.dev) (ho : SlR depE w SA mOpt m.opt) (hv : SlR depE w SA mOv m.over) (hp : SlR pinE w SA pS pins)
    (hR : ∀ w', Ext w w' → R true w') : SE.halyardlaw11_ResolveFlat sP mD mDev mOpt mOv dev pS D N d3 d4 w R := by
  unfold SE.halyardlaw11_ResolveFlat
  have hmx := maxLen_eq
  have hPl := hP.len
  refine newS.intro fun a w1 x1 ha hab _ => SE.catalog_New.go (catNew_L fun p r w2 x2 hC0 hr1 hp1 => ⟨_, rfl, bound ?_⟩)
  refine gCall.intro true (fun _ k hk => SE.halyardlaw11_known.go (known11_se (ht.ext (x1.trans x2)) fun w' hx => ⟨_, rfl, hk _ hx⟩)) fun t1 w3 x3 ht1 => ?_
  have ht1' := ht1 rfl
  subst ht1'
  refine ⟨(fun h => by cases h), fun _ => ?_⟩
  have s1 := x1.size; have s2 := x2.size; have s3 := x3.size
  refine loop1.up hP.max (fun i w' => Ext w1 w' ∧ ∃ S, CatL w' S p r (catOf ((lp.take i).map bareP))) ⟨x2.trans x3, None', hC0.ext x3⟩ fun i w4 nxt hi ⟨x4, S, hC4⟩ hn => ⟨sP, ha.at0 x4 rfl, fun hlt => ?_, fun hge => ?_⟩
  · have hlt' : i < lp.length := by omega
    have x04 := x1.trans x4
    obtain ⟨ad, d, e, o, hsa, _, hN, _, _, _, hc⟩ := packEl hP hlt'
    refine bnd.drew fun w5 x5 => ⟨sP, ha.at0 (x4.trans x5) rfl, ad, ⟨hsa, by omega, hlt⟩, _, (hc _ (x04.trans x5)).pre rfl, sP, ha.at0 (x4.trans x5) rfl, ad, ⟨hsa, by omega, hlt⟩, _, _, _, (hc _ (x04.trans x5)).mid (k := 1) rfl, ?_⟩
    refine SE.catalog_Catalog_Put.go (catPut_L (x := bareP lp[i]) (S2 := None') (ht.ext (x04.trans x5)) (hC4.ext x5) hN (fun _ h => h.elim) (SlR.nil trivial) (SlR.nil trivial) (SlR.nil trivial) fun S' w6 b6 hC6 _ _ => ⟨_, rfl, hn hlt' w6 ⟨b6.ext (x4.trans x5) (by omega), S', ?_⟩⟩)
    rw [List.take_succ_eq_append_getElem hlt', List.map_append, List.map_cons, List.map_nil, catOf_snoc]
    exact hC6
  · have hil : i = lp.length := by omega
    rw [hil, List.take_length] at hC4
    have hflat := flatL_bare lp
    have hgood := hC4.good
    generalize catOf (lp.map bareP) = L at hC4 hflat hgood
    have x04 := x1.trans x4
    refine ⟨mD, mDev, mOpt, mOv, ha.at1 (k := 1) x4 rfl, SE.halyardref06_May.go (r06May_se (hd.ext x04) (he.ext x04) (ho.ext x04) (hv.ext x04) fun w5 x5 => ⟨_, rfl, fun _ => hR _ (x04.trans x5), fun hmay => ?_⟩)⟩
    have hm : maniMay m = true := by simpa using hmay
    obtain ⟨lawA, lawB, lawC, h48, hkind, hnd⟩ := flat_law (dev := dev) (pins := pins) hgood hflat hm
    have x15 := x4.trans x5
    have x05 := x04.trans x5
    have hsm := maniMay_small hm
    refine ⟨mD, mDev, mOpt, mOv, ha.at1 (k := 1) x15 rfl, dev, ha.at1 (k := 5) x15 rfl, pS, ha.at1 (k := 6) x15 rfl, ?_⟩
    refine SE.resolve_Run.go (run11_se (ht.ext x05) (hA.ext x05.size) (hC4.ext x5) (hd.ext x05) (he.ext x05) (ho.ext x05) (hv.ext x05) (hp.ext x05) fun g w6 x6 hg => ⟨_, _, _, rfl, ?_⟩)
    generalize hr : resOf L m dev pins 4096 128 = rr at *
    refine newS.intro fun a7 w7 x7 hb7 _ _ => stw0.intro hb7 (by simp) fun w8 b8 _ hb8 => ?_
    have x68 : Ext w6 w8 := b8.ext x7 (by omega)
    have x58 := x6.trans x68
    have x18 := x15.trans x58
    have x08 := x05.trans x58
    refine ⟨mD, mDev, mOpt, mOv, ha.at1 (k := 1) x18 rfl, dev, ha.at1 (k := 5) x18 rfl, SE.halyardref09_OfRoot.go (r09OfRoot_se (hA.ext x08.size) (hd.ext x08) (he.ext x08) (ho.ext x08) (hv.ext x08) (by unfold room; omega) fun ls w9 x9 hls => ⟨_, rfl, ?_⟩)⟩
    generalize hl : wantsOf m.over (rootMust m dev) m.opt = l at *
    generalize hq : Quest.mk L m dev pins 4096 128 = q at *
    have hqL : q.L = L := by rw [← hq]
    have hqp : q.pins = pins := by rw [← hq]
    have hll := hls.len
    have x09 := x08.trans x9
    have x19 := x18.trans x9
    have x89 := x9
    have hg9 := hg.ext (x68.trans x9)
    have s9 := x09.size
    have hS9 : Old (fun b => SA b ∨ (w8.heap.size ≤ b ∧ b < w9.heap.size)) w9 := fun b hb => by
      rcases hb with hb | hb
      · exact hA.ext s9 b hb
      · exact hb.2
    have hgl := hg.len
    by_cases hbad : ∃ w ∈ l, Bad q w
    · -- something must be that nothing serves
      obtain ⟨c, hc, hc'⟩ := lawB hbad
      subst hc
      have hg0 : g.len = 0 := hgl
      refine loop2.up hls.max (fun vat i w' => Ext w9 w' ∧ vat = 1 ∧ ∀ x ∈ l.take i, cands L x.name x.range pins = [] ∧ x.kind = 2) ⟨Ext.refl _, rfl, fun x hx => by cases hx⟩ fun vat i w10 nxt hi ⟨x10, hvat, hI⟩ hn => ⟨fun hlt => join.intro ?_, fun hge => ?_⟩
      · subst hvat
        have hlt' : i < l.length := by omega
        obtain ⟨ad, t, hla, _, hN, hrg, hlc⟩ := wantEl hls hlt'
        refine bnd.drew fun w11 x11 => ?_
        have x911 := x10.trans x11
        have x111 := x19.trans x911
        have x011 := x09.trans x911
        refine ⟨ad, ⟨hla, by omega, hlt⟩, _, (hlc _ x911).pre rfl, ad, ⟨hla, by omega, hlt⟩, _, (hlc _ x911).mid (k := 2) (r := []) rfl, pS, ha.at1 (k := 6) x111 rfl, ?_⟩
        refine SE.catalog_Catalog_Candidates.go (catCands_se (((hC4.ext x5).ext (x58.trans x9)).ext x911) (hS9.ext x911.size) (hA.ext x011.size) (hrg.ext x911) (hp.ext x011) fun cs w12 x12 hcs => ⟨_, rfl, ?_⟩)
        have hcl := (flatVers hcs).len
        have x912 := x911.trans x12
        refine ⟨fun h0 => ?_, fun h0 => ?_⟩
        · have hc0 : cands L l[i].name l[i].range pins = [] := List.eq_nil_of_length_eq_zero (by omega)
          refine ⟨ad, ⟨hla, by omega, hlt⟩, _, (hlc _ x912).mid (k := 1) rfl, fun hk => ?_, fun hk => ?_⟩
          · have hrr : Stp.err c = .err 30 := lawC (l.take i) l[i] (l.drop (i + 1)) (by rw [← List.drop_eq_getElem_cons hlt', List.take_append_drop]) hI ⟨by rw [hqL, hqp]; exact hc0, by omega⟩
            cases hrr
            refine bound ⟨g, fun _ => hb8.at0 (r := []) (x89.trans x912) rfl, bound ?_⟩
            rw [hg0]
            exact hR _ (x09.trans x912)
          · refine hn hlt' 1 w12 ⟨x912, rfl, fun x hx => ?_⟩
            rw [List.take_succ_eq_append_getElem hlt'] at hx
            rcases List.mem_append.1 hx with hx | hx
            · exact hI x hx
            · simp only [List.mem_singleton] at hx
              subst hx
              refine ⟨hc0, ?_⟩
              rcases hkind _ (List.getElem_mem hlt') with h | h
              · exact absurd h hk
              · exact h
        · refine bnd.drew fun w13 x13 => ?_
          have x913 := x912.trans x13
          have e1 : (decide ((g.len : Int) ≤ 1)) = true := by rw [hg0]; rfl
          refine ⟨g, hb8.at0 (r := []) (x89.trans x913) rfl, bound ?_⟩
          rw [e1]
          refine ⟨Sl.nil, (fun h => by cases h), ⟨0, 0, none⟩, (fun h => by cases h), ⟨#[]⟩, (fun h => by cases h), ⟨0, 0, none⟩, (fun h => by cases h), ⟨#[]⟩, (fun h => by cases h), bound ?_⟩
          rw [Bool.true_or]
          refine ⟨Sl.nil, (fun h => by cases h), ⟨0, 0, none⟩, (fun h => by cases h), 0, 0, 0, (fun h => by cases h), ⟨0, 0, none⟩, (fun h => by cases h), 0, 0, 0, (fun h => by cases h), bound ?_⟩
          rw [Bool.true_or]
          refine ⟨Sl.nil, (fun h => by cases h), ⟨0, 0, none⟩, (fun h => by cases h), Sl.nil, (fun h => by cases h), fun _ => ?_, fun h => (by simp at h)⟩
          refine ⟨fun must vk w' => ∃ k : Nat, vk = k ∧ i ≤ k ∧ k ≤ l.length ∧ Ext w13 w' ∧ (must = true ∨ ∀ x ∈ (l.take k).drop i, ¬ Bad q x), fun _ vk _ => l.length - vk.toNat, ⟨i, rfl, Nat.le_refl _, by omega, Ext.refl _, .inr fun x hx => by
            rw [List.drop_eq_nil_of_le (by rw [List.length_take]; omega)] at hx; cases hx⟩, fun must vk w14 ⟨k, hvk, hik, hkl, x14, hM⟩ => ?_⟩
          subst hvk
          have x914 := x913.trans x14
          refine ⟨fun hlt2 => ?_, fun hge2 => ?_⟩
          · have hlt3 : k < l.length := by omega
            obtain ⟨ad2, t2, hla2, _, _, hrg2, hlc2⟩ := wantEl hls hlt3
            refine bnd.drew fun w15 x15' => ?_
            have x915 := x914.trans x15'
            refine ⟨ad2, ⟨hla2, by omega, hlt2⟩, _, (hlc2 _ x915).pre rfl, ad2, ⟨hla2, by omega, hlt2⟩, _, (hlc2 _ x915).mid (k := 2) (r := []) rfl, ?_⟩
            refine SE.catalog_Catalog_Candidates.go (catCands_se (lp := []) (S2 := None') (((hC4.ext x5).ext (x58.trans x9)).ext x915) (hS9.ext x915.size) (fun _ h => h.elim) (hrg2.ext x915) (SlR.nil trivial) fun cs2 w16 x16 hcs2 => ⟨_, rfl, bound ?_⟩)
            have hcl2 := (flatVers hcs2).len
            have x916 := x915.trans x16
            refine ⟨ad2, fun _ => ⟨hla2, by omega, hlt2⟩, _, fun _ => (hlc2 _ x916).mid (k := 1) rfl, ?_⟩
            have ek : wrapI ((k : Int) + 1) = ((k + 1 : Nat) : Int) := by rw [wrapI_eq (by omega) (by omega)]; omega
            rw [ek]
            refine ⟨⟨k + 1, rfl, by omega, by omega, (x14.trans x15').trans x16, ?_⟩, by show l.length - ((k + 1 : Nat) : Int).toNat < l.length - (k : Int).toNat; omega⟩
            rcases hM with hM | hM
            · left; rw [hM]; rfl
            · by_cases hbk : Bad q l[k]
              · left
                obtain ⟨b1, b2⟩ := hbk
                rw [hqL, hqp, cands_nil] at b1
                rw [b1] at hcl2
                have hk1 : l[k].kind = 1 := by
                  rcases hkind _ (List.getElem_mem hlt3) with h | h
                  · exact h
                  · exact absurd h b2
                have : (cs2.len : Int) = 0 := by rw [hcl2]; rfl
                rw [this, hk1]
                simp
              · right
                intro x hx
                rw [List.take_succ_eq_append_getElem hlt3, List.drop_append_of_le_length (by rw [List.length_take]; omega)] at hx
                rcases List.mem_append.1 hx with hx | hx
                · exact hM x hx
                · simp only [List.mem_singleton] at hx; subst hx; exact hbk
          · have hkl2 : k = l.length := by omega
            subst hkl2
            rw [List.take_length] at hM
            have hmust : must = true := by
              rcases hM with hM | hM
              · exact hM
              · exfalso
                obtain ⟨x, hx, hbx⟩ := hbad
                rw [← List.take_append_drop i l] at hx
                rcases List.mem_append.1 hx with hx | hx
                · exact hbx.2 (hI x hx).2
                · exact hM x hx hbx
            subst hmust
            refine bound ?_
            have h := hR _ (x09.trans x914)
            rcases hc' with rfl | rfl
            · exact h
            · exact h
      · -- all gone through, none bad: not so
        have hil2 : i = l.length := by omega
        rw [hil2, List.take_length] at hI
        obtain ⟨x, hx, hbx⟩ := hbad
        exact absurd (hI x hx).2 hbx.2
    · -- each gets its first candidate
      have hnb : ∀ w ∈ l, ¬ Bad q w := fun w hw hb => hbad ⟨w, hw, hb⟩
      obtain ⟨es, hes⟩ := lawA hnb
      subst hes
      have hgd : SlR nodeE w9 (fun b => w5.heap.size ≤ b ∧ b < w6.heap.size) g (⟨⟨#[]⟩, ⟨0, 0, 0⟩, [], es⟩ :: (firsts q l).map leaf) := hg9
      have hgl2 := hgd.len
      simp only [List.length_cons, List.length_map] at hgl2
      have hfl : (firsts q l).length ≤ l.length := by have := (firsts_names (q := q) l).length_le; simpa using this
      refine loop2.up hls.max (fun vat i w' => Ext w9 w' ∧ vat = ((1 + (firsts q (l.take i)).length : Nat) : Int)) ⟨Ext.refl _, rfl⟩ fun vat i w10 nxt hi ⟨x10, hvat⟩ hn => ⟨fun hlt => join.intro ?_, fun hge => ?_⟩
      · subst hvat
        have hlt' : i < l.length := by omega
        have hsplit : firsts q l = firsts q (l.take i) ++ firsts q (l.drop i) := by rw [← firsts_app, List.take_append_drop]
        have hstep : firsts q (l.take (i + 1)) = firsts q (l.take i) ++ firsts q [l[i]] := by rw [List.take_succ_eq_append_getElem hlt', firsts_app]
        have htl : (firsts q (l.take i)).length ≤ i := by
          have := (firsts_names (q := q) (l.take i)).length_le
          simp only [List.length_map, List.length_take] at this; omega
        obtain ⟨ad, t, hla, _, hN, hrg, hlc⟩ := wantEl hls hlt'
        refine bnd.drew fun w11 x11 => ?_
        have x911 := x10.trans x11
        have x111 := x19.trans x911
        have x011 := x09.trans x911
        refine ⟨ad, ⟨hla, by omega, hlt⟩, _, (hlc _ x911).pre rfl, ad, ⟨hla, by omega, hlt⟩, _, (hlc _ x911).mid (k := 2) (r := []) rfl, pS, ha.at1 (k := 6) x111 rfl, ?_⟩
        refine SE.catalog_Catalog_Candidates.go (catCands_se (((hC4.ext x5).ext (x58.trans x9)).ext x911) (hS9.ext x911.size) (hA.ext x011.size) (hrg.ext x911) (hp.ext x011) fun cs w12 x12 hcs => ⟨_, rfl, ?_⟩)
        have hcv := flatVers hcs
        have hcl := hcv.len
        have x912 := x911.trans x12
        refine ⟨fun h0 => ?_, fun h0 => ?_⟩
        · have hc0 : cands L l[i].name l[i].range pins = [] := List.eq_nil_of_length_eq_zero (by omega)
          have hf0 : firsts q [l[i]] = [] := by
            rw [firsts]; unfold fstO; rw [hqL, hqp, hc0]; rfl
          refine ⟨ad, ⟨hla, by omega, hlt⟩, _, (hlc _ x912).mid (k := 1) rfl, fun hk => ?_, fun hk => ?_⟩
          · exact absurd ⟨by rw [hqL, hqp]; exact hc0, by omega⟩ (hnb _ (List.getElem_mem hlt'))
          · exact hn hlt' _ w12 ⟨x912, by rw [hstep, hf0, List.append_nil]⟩
        · obtain ⟨v, vs, hcc⟩ : ∃ v vs, cands L l[i].name l[i].range pins = v :: vs := by
            cases hcc : cands L l[i].name l[i].range pins with
            | nil => rw [hcc] at hcl; exact absurd (by rw [hcl]; rfl) h0
            | cons v vs => exact ⟨v, vs, rfl⟩
          have hf1 : firsts q [l[i]] = [⟨l[i].name, v⟩] := by
            rw [firsts]; unfold fstO; rw [hqL, hqp, hcc]; rfl
          have hf2 : firsts q (l.drop i) = ⟨l[i].name, v⟩ :: firsts q (l.drop (i + 1)) := by
            rw [List.drop_eq_getElem_cons hlt', firsts]; unfold fstO; rw [hqL, hqp, hcc]; rfl
          have hfl2 : 1 + (firsts q (l.take i)).length < (⟨⟨#[]⟩, ⟨0, 0, 0⟩, [], es⟩ :: (firsts q l).map leaf).length := by
            rw [hsplit, hf2]; simp; omega
          have hnode : (⟨⟨#[]⟩, ⟨0, 0, 0⟩, [], es⟩ :: (firsts q l).map leaf)[1 + (firsts q (l.take i)).length] = leaf ⟨l[i].name, v⟩ := by
            apply Option.some.inj
            rw [← List.getElem?_eq_getElem hfl2, Nat.add_comm, List.getElem?_cons_succ, hsplit, hf2, List.map_append, List.getElem?_append_right (by simp)]
            simp
          obtain ⟨gad, gc, ge, hga, _, hgc, hge, hgn⟩ := nodeEl hgd hfl2
          rw [hnode] at hgc hge hgn
          have hgel := hge.len
          rw [hcc] at hcv
          obtain ⟨cad, ccs, hca, _, ⟨hccs, _⟩, hcc2⟩ := hcv.el (n := 0) (by simp)
          subst hccs
          refine bnd.drew fun w13 x13 => ?_
          have x913 := x912.trans x13
          have hlen1 : firsts q l ≠ [] := by rw [hsplit, hf2]; simp
          have hgl3 : g.len = 1 + (firsts q (l.take i)).length + (1 + (firsts q (l.drop (i + 1))).length) := by
            rw [hgl2, hsplit, hf2]; simp; omega
          have e1 : (decide ((g.len : Int) ≤ ((1 + (firsts q (l.take i)).length : Nat) : Int))) = false := by
            rw [decide_eq_false_iff_not]; omega
          have hgx : ∃ k, k = 1 + (firsts q (l.take i)).length := ⟨_, rfl⟩
          obtain ⟨kk, hkk⟩ := hgx
          rw [← hkk] at e1 hgn ⊢
          have hkk2 : kk < g.len := by omega
          refine ⟨g, hb8.at0 (r := []) (x89.trans x913) rfl, bound ?_⟩
          rw [e1]
          refine ⟨g, fun _ => hb8.at0 (r := []) (x89.trans x913) rfl, gad, fun _ => ⟨hga, by omega, by omega⟩, _, fun _ => (hgn _ x913).pre rfl, ad, fun _ => ⟨hla, by omega, hlt⟩, _, fun _ => (hlc _ x913).pre rfl, bound ?_⟩
          have e2 : (false || !bEq (leaf ⟨l[i].name, v⟩).name l[i].name) = false := by
            rw [show bEq (leaf ⟨l[i].name, v⟩).name l[i].name = true from bEq_iff.2 rfl]; rfl
          rw [e2]
          refine ⟨g, fun _ => hb8.at0 (r := []) (x89.trans x913) rfl, gad, fun _ => ⟨hga, by omega, by omega⟩, _, _, _, fun _ => (hgn _ x913).mid (k := 1) rfl, cad, fun _ => ⟨hca, by omega, by omega⟩, v.ma, v.mi, v.pa, fun _ => (hcc2 _ x13).of (by simp) rfl, bound ?_⟩
          have e3 : (false || !((leaf ⟨l[i].name, v⟩).v.ma == v.ma && ((leaf ⟨l[i].name, v⟩).v.mi == v.mi && ((leaf ⟨l[i].name, v⟩).v.pa == v.pa && true)))) = false := by simp [leaf]
          rw [e3]
          have hge0 : ge.len = 0 := hgel
          refine ⟨g, fun _ => hb8.at0 (r := []) (x89.trans x913) rfl, gad, fun _ => ⟨hga, by omega, by omega⟩, ge, fun _ => (hgn _ x913).mid (k := 5) (r := []) rfl, fun h => ?_, fun _ => ?_⟩
          · rw [hge0] at h; simp at h
          · have ek : wrapI ((kk : Int) + 1) = ((1 + (firsts q (l.take (i + 1))).length : Nat) : Int) := by
              rw [wrapI_eq (by omega) (by omega), hstep, hf1]; simp; omega
            rw [ek]
            exact hn hlt' _ w13 ⟨x913, rfl⟩
      · have hil2 : i = l.length := by omega
        rw [hil2, List.take_length] at hvat
        subst hvat
        refine bound (bound ⟨g, fun _ => hb8.at0 (r := []) (x89.trans x10) rfl, ?_⟩)
        have h := hR _ (x09.trans x10)
        have e1 : (((1 + (firsts q l).length : Nat) : Int) == (g.len : Int)) = true := by
          rw [beq_iff_eq, hgl2]; omega
        have e2 : ((l.length : Int) == (ls.len : Int)) = true := by rw [beq_iff_eq, hll]
        simp only [Stp.code, Stp.dec]
        rw [e1, e2]
        exact h
end Go.Hal
namespace Go.Hal
open Go Go.RowKit Go.ChangeShapes Go.WideShapes Go.ChangeAt Go.Proofs Go.Proofs.YtpdjadmnnadkfaaGreatDoor
section
variable {H : Type} {enc : TypeId × Value → H} {P : Program} {W : World}
end
section
variable {H : Type} {W : World} {enc : TypeId × Value → H}
theorem rdBool {n : Nat} {cs : List Value} {x : DataW H × List MemPlace} (h : Tr enc Tryz.prog W n 4 cs x) : ∃ b, cs = [.bool b] := by
  obtain ⟨b, h1, _⟩ := DataW.trod_bool Tryz.underlying4 h
  exact ⟨b, h1⟩
end
end Go.Hal
namespace Go.Hal
open Go Go.RowKit Go.ChangeShapes Go.WideShapes Go.ChangeAt Go.Proofs
section
variable {H : Type} {W : World} {enc : TypeId × Value → H}
theorem rdMani {n : Nat} {cs : List Value} {x : DataW H × List MemPlace} (h1 : Tr enc Tryz.prog W n 25 cs x) (w1 : small (x.1.weights Tryz.prog 25)) :
    ∃ (m : Mani) (a b c d : Sl), cs = [a.v, b.v, c.v, d.v] ∧ SlR depE W (Here W) a m.deps ∧ SlR depE W (Here W) b m.dev ∧ SlR depE W (Here W) c m.opt ∧ SlR depE W (Here W) d m.over := by
  have hl := rd_len Tryz.underlying25 h1
  have hc : Tryz.prog.cellsOf 25 = 4 := by kernel_rfl
  rw [hc] at hl
  obtain ⟨z0, k0, g0, v0⟩ := rd_field Tryz.underlying25 h1 w1 0 23 0 1 ⟨_, rfl, rfl, rfl⟩ ceLd
  obtain ⟨z1, k1, g1, v1⟩ := rd_field Tryz.underlying25 h1 w1 1 23 1 1 ⟨_, rfl, rfl, rfl⟩ ceLd
  obtain ⟨z2, k2, g2, v2⟩ := rd_field Tryz.underlying25 h1 w1 2 23 2 1 ⟨_, rfl, rfl, rfl⟩ ceLd
  obtain ⟨z3, k3, g3, v3⟩ := rd_field Tryz.underlying25 h1 w1 3 23 3 1 ⟨_, rfl, rfl, rfl⟩ ceLd
  obtain ⟨b, lb, f0, hb, _⟩ := rdDeps enc k0 _ _ g0 v0
  obtain ⟨c, lc, f1, hc', _⟩ := rdDeps enc k1 _ _ g1 v1
  obtain ⟨d, ld, f2, hd, _⟩ := rdDeps enc k2 _ _ g2 v2
  obtain ⟨e, le, f3, he, _⟩ := rdDeps enc k3 _ _ g3 v3
  match cs, hl with
  | [c1, c2, c3, c4], _ =>
    simp at f0 f1 f2 f3
    exact ⟨⟨lb, lc, ld, le⟩, b, c, d, e, by rw [f0, f1, f2, f3], hb, hc', hd, he⟩
theorem rdLimits {n : Nat} {cs : List Value} {x : DataW H × List MemPlace} (h1 : Tr enc Tryz.prog W n 28 cs x) (w1 : small (x.1.weights Tryz.prog 28)) :
    ∃ a b c d : Int, cs = [.int .i64 a, .int .i64 b, .int .i64 c, .int .i64 d] := by
  have hl := rd_len Tryz.underlying28 h1
  have hc : Tryz.prog.cellsOf 28 = 4 := by kernel_rfl
  rw [hc] at hl
  obtain ⟨z0, k0, g0, v0⟩ := rd_field Tryz.underlying28 h1 w1 0 3 0 1 ⟨_, rfl, rfl, rfl⟩ (by kernel_rfl)
  obtain ⟨z1, k1, g1, v1⟩ := rd_field Tryz.underlying28 h1 w1 1 3 1 1 ⟨_, rfl, rfl, rfl⟩ (by kernel_rfl)
  obtain ⟨z2, k2, g2, v2⟩ := rd_field Tryz.underlying28 h1 w1 2 3 2 1 ⟨_, rfl, rfl, rfl⟩ (by kernel_rfl)
  obtain ⟨z3, k3, g3, v3⟩ := rd_field Tryz.underlying28 h1 w1 3 3 3 1 ⟨_, rfl, rfl, rfl⟩ (by kernel_rfl)
  obtain ⟨a, f0⟩ := rdI g0
  obtain ⟨b, f1⟩ := rdI g1
  obtain ⟨c, f2⟩ := rdI g2
  obtain ⟨d, f3⟩ := rdI g3
  match cs, hl with
  | [c1, c2, c3, c4], _ =>
    simp at f0 f1 f2 f3
    exact ⟨a, b, c, d, by rw [f0, f1, f2, f3]⟩
theorem rdWorld11 {n : Nat} {cs : List Value} {x : DataW H × List MemPlace} (h : Tr enc Tryz.prog W n 30 cs x) (hw : small (x.1.weights Tryz.prog 30)) :
    ∃ (sP mD mE mO mV pS : Sl) (dev : Bool) (D N d3 d4 : Int) (lp : List Pack) (m : Mani) (pins : List Pin), cs = [sP.v, mD.v, mE.v, mO.v, mV.v, .bool dev, pS.v, .int .i64 D, .int .i64 N, .int .i64 d3, .int .i64 d4] ∧ SlR packE W (Here W) sP lp ∧
      SlR depE W (Here W) mD m.deps ∧ SlR depE W (Here W) mE m.dev ∧ SlR depE W (Here W) mO m.opt ∧ SlR depE W (Here W) mV m.over ∧ SlR pinE W (Here W) pS pins := by
  have hl := rd_len Tryz.underlying30 h
  have hc : Tryz.prog.cellsOf 30 = 11 := by kernel_rfl
  rw [hc] at hl
  obtain ⟨y0, m0, h0, w0⟩ := rd_field Tryz.underlying30 h hw 0 22 0 1 ⟨_, rfl, rfl, rfl⟩ ceLk
  obtain ⟨y1, m1, h1, w1⟩ := rd_field Tryz.underlying30 h hw 1 25 1 4 ⟨_, rfl, rfl, rfl⟩ (by kernel_rfl)
  obtain ⟨y2, m2, h2, w2⟩ := rd_field Tryz.underlying30 h hw 2 4 5 1 ⟨_, rfl, rfl, rfl⟩ (by kernel_rfl)
  obtain ⟨y3, m3, h3, w3⟩ := rd_field Tryz.underlying30 h hw 3 26 6 1 ⟨_, rfl, rfl, rfl⟩ ceLp
  obtain ⟨y4, m4, h4, w4⟩ := rd_field Tryz.underlying30 h hw 4 28 7 4 ⟨_, rfl, rfl, rfl⟩ (by kernel_rfl)
  obtain ⟨a, lp, e0, hp, _⟩ := rdPacks enc m0 _ _ h0 w0
  obtain ⟨m, mD, mE, mO, mV, e1, q1, q2, q3, q4⟩ := rdMani h1 w1
  obtain ⟨dev, e2⟩ := rdBool h2
  obtain ⟨pS, pins, e3, q5, _⟩ := rdPins enc m3 _ _ h3 w3
  obtain ⟨D, N, d3, d4, e4⟩ := rdLimits h4 w4
  match cs, hl with
  | [c0, c1, c2, c3, c4, c5, c6, c7, c8, c9, c10], _ =>
    simp at e0 e1 e2 e3 e4
    exact ⟨a, mD, mE, mO, mV, pS, dev, D, N, d3, d4, lp, m, pins, by rw [e0, e1.1, e1.2.1, e1.2.2.1, e1.2.2.2, e2, e3, e4.1, e4.2.1, e4.2.2.1, e4.2.2.2], hp, q1, q2, q3, q4, q5⟩
end
end Go.Hal
