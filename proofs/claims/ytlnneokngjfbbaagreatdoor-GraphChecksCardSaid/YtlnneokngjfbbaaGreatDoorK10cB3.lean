/- Lemmas for the claim K10c: how the program's functions run, and what they answer; no condition but those that each theorem names. -/
import Derived.Test.YtlnneokngjfbbaaGreatDoorProg
import Derived.Laws.MakeOwn
import Derived.Test.YtlnneokngjfbbaaGreatDoorK10cB2
set_option linter.unusedVariables false
set_option linter.unusedSimpArgs false
namespace Go.Hal
open Go Go.RowKit Go.Proofs Go.Shelf
theorem OwnS.lowr {α : Type} {E : Enc α} {T : TypeId} {w : World} {lo lo' : Nat} {S : Nat → Prop} {s : Sl} {l : List α} (h : OwnS E T w lo S s l) (hl : lo' ≤ lo) : OwnS E T w lo' S s l := by
  obtain ⟨css, ho, k1, k2⟩ := h.row
  exact ⟨⟨css, ⟨ho.1, ho.2.imp id fun ⟨g, cap, cur, hv, hg, r⟩ => ⟨g, cap, cur, hv, Nat.le_trans hl hg, r⟩⟩, k1, k2⟩, h.len, h.lt, h.apart⟩
def ofN (l : List Nat) : List Int := l.map fun k : Nat => (k : Int)
theorem ofN_len (l : List Nat) : (ofN l).length = l.length := List.length_map _
theorem mem_ofN {l : List Nat} {t : Int} : t ∈ ofN l ↔ ∃ k ∈ l, (k : Int) = t := List.mem_map
def kvI (p : Int × Int) : Value × Value := (.int .i64 p.1, .int .i64 p.2)
structure RA (w0 : World) (a : Addr) (r : Nat) (s : Sl) (w' : World) (out : List Nat) (so : Sl) : Prop where
  x : Ext w0 w'
  box : BoxAt w' a [s.v]
  map : ∃ m : List (Int × Int), MapR intV w' r (m.map kvI) ∧ m.map (·.1) = ofN out
  own : OwnS intE 3 w' w0.heap.size None' so (ofN out)
  ap : ∀ ad, so.a = some ad → ad.block ≠ r ∧ ad.block ≠ a.block
  ne : r ≠ a.block
  lr : w0.heap.size ≤ r
  la : w0.heap.size ≤ a.block
section
variable {w0 w w' : World} {a : Addr} {r : Nat} {s so : Sl} {out : List Nat}
theorem RA.ext (h : RA w0 a r s w out so) (hx : Ext w w') : RA w0 a r s w' out so :=
  ⟨h.x.trans hx, h.box.ext hx, by obtain ⟨m, h1, h2⟩ := h.map; exact ⟨m, h1.ext hx, h2⟩, h.own.ext hx, h.ap, h.ne, h.lr, h.la⟩
theorem RA.seen (h : RA w0 a r s w out so) (t : Int) : ∃ v : Int, (Instr.lookup 127 (.map (some r)) (.int .i64 t) true).run Tryz.prog w = .ok (.tuple #[.int .i64 v, .bool (decide (t ∈ ofN out))]) w := by
  obtain ⟨m, h1, h2⟩ := h.map
  rcases lookup_run intT h1 (k := .int .i64 t) ⟨_, rfl⟩ with ⟨hn, hr⟩ | ⟨v, hin, hr⟩
  · refine ⟨0, ?_⟩
    rw [hr true, decide_eq_false]
    · rfl
    · intro hm
      rw [← h2] at hm
      obtain ⟨p, hp, he⟩ := List.mem_map.1 hm
      exact hn (kvI p) (List.mem_map_of_mem hp) (by show Value.int .i64 p.1 = _; rw [he])
  · obtain ⟨p, hp, he⟩ := List.mem_map.1 hin
    simp only [kvI, Prod.mk.injEq, Value.int.injEq, true_and] at he
    obtain ⟨he1, he2⟩ := he
    refine ⟨p.2, ?_⟩
    rw [hr true, decide_eq_true, ← he2]
    · rfl
    · rw [← h2]; exact List.mem_map.2 ⟨p, hp, he1⟩
theorem RA.put (h : RA w0 a r s w out so) {k : Nat} {i : Int} (hk : k ∉ out) (hl : out.length + 1 ≤ 2000000000000) {b : Addr} {e : ByteArray} (hb : BoxAt w b [.string e, .int .i64 (k : Int)]) (hbr : b.block ≠ r) {J : Sl → World → Prop}
    (hJ : ∀ so' w', RA w0 a r s w' (out ++ [k]) so' → J so' w') :
    semU Tryz.prog (Instr.mapUpdate 127 (.map (some r)) (.int .i64 (k : Int)) (.int .i64 i)) w fun vw31 => ∃ (t65 : Int), (ldc vw31 (b.add 1) [(Value.int .i64 t65)]) ∧ newS vw31 [(Value.int .i64 t65)] 3 fun a33 vw34 => appS Tryz.prog 68 68 so (Sl.v (Sl.mk (some a33) 1 1)) vw34 fun t67 vw35 => J t67 vw35 := by
  obtain ⟨m, h1, h2⟩ := h.map
  refine update_new intT h1 ⟨_, rfl⟩ (fun p hp he => ?_) fun w1 b1 hs1 hM => ?_
  · obtain ⟨q, hq, rfl⟩ := List.mem_map.1 hp
    simp only [kvI, Value.int.injEq, true_and] at he
    have : q.1 ∈ ofN out := by rw [← h2]; exact List.mem_map_of_mem hq
    rw [he] at this
    obtain ⟨j, hj, e⟩ := mem_ofN.1 this
    have : j = k := by omega
    subst this; exact hk hj
  · have hb1 := b1.box hb hbr
    refine ⟨_, hb1.ldc.mid (k := 1) (r := []) rfl, newS.intro fun a2 w2 x2 hb2 hab2 _ => ?_⟩
    have x1 : Ext w0 w1 := b1.ext h.x h.lr
    have o1 : OwnS intE 3 w1 w0.heap.size None' so (ofN out) := h.own.but b1 (fun h => h) fun ad had => Ne.symm (h.ap ad had).1
    have hlt := h.map
    have hrl := h1.lt
    have hal := h.box.lt
    have s1 := x1.size
    have s2 := x2.size
    have eb : intE.bytes = 8 := rfl
    refine (o1.ext x2).push apInt (by omega) (x := (k : Int)) (S' := None') ⟨rfl, trivial⟩ (hb2.ldc.pre (r := []) rfl) (fun _ h => h.elim) (fun _ _ h => h.elim) (by rw [ofN_len, eb]; unfold room; omega) (by rw [ofN_len, maxLen_eq]; omega) fun so' w3 o3 bel3 oth3 reg3 => hJ so' w3 ?_
    have x03 : Ext w0 w3 := (x1.trans x2).trans' bel3
    have keep : ∀ b', b' < w2.heap.size → (b' = r ∨ b' = a.block) → w3.heap[b']? = w2.heap[b']? := fun b' hlt hc => oth3 b' hlt fun ad had e => by
      obtain ⟨q1, q2⟩ := h.ap ad had
      rcases hc with rfl | rfl
      · exact q1 e.symm
      · exact q2 e.symm
    have hsz1 : w.heap.size ≤ w1.heap.size := b1.1
    refine ⟨x03, ?_, ⟨m ++ [((k : Int), i)], ?_, ?_⟩, ?_, fun ad had => ?_, h.ne, h.lr, h.la⟩
    · exact ((b1.box h.box (Ne.symm h.ne)).ext x2).keep (S := fun b' => b' = a.block) rfl fun b' hb' hlt => keep b' hlt (.inr hb')
    · rw [List.map_append]
      exact (hM.ext x2).of (keep r (by omega) (.inl rfl))
    · rw [List.map_append, h2]; simp [ofN]
    · have : ofN (out ++ [k]) = ofN out ++ [(k : Int)] := by simp [ofN]
      rw [this]
      exact OwnS.flat (fun h => h) o3
    · rcases reg3 ad had with q | q
      · exact h.ap ad q
      · exact ⟨by omega, by omega⟩
end
theorem stepB_not {n : Nat} {out : List Nat} {e : Edge} (h : ¬ (0 ≤ e.to ∧ e.to < (n : Int) ∧ e.to.toNat ∉ out)) : stepB n out e = out := by unfold stepB; rw [if_neg h]
theorem stepB_new {n k : Nat} {out : List Nat} {e : Edge} (h : e.to = (k : Int)) (hk : k < n) (hn : k ∉ out) : stepB n out e = out ++ [k] := by
  unfold stepB
  have : e.to.toNat = k := by omega
  rw [this, if_pos ⟨by omega, by omega, hn⟩]
theorem nodup_lt {out : List Nat} {n : Nat} (h : out.Nodup) (hl : ∀ k ∈ out, k < n) : out.length ≤ n := by
  have := nodup_le h (m := List.range n) fun x hx => List.mem_range.2 (hl x hx)
  rwa [List.length_range] at this
set_option maxHeartbeats 4000000 in
theorem reach_se {s : Sl} {g : List Node} {S : Nat → Prop} {w : World} {R : Sl → World → Prop} (hs : SlR nodeE w S s g)
    (hR : ∀ t l w', Ext w w' → ReachAre g l → SlR intE w' (fun b => w.heap.size ≤ b ∧ b < w'.heap.size) t l → R t w') : SE.graph_Reach s w R := by
  unfold SE.graph_Reach
  have hsl := hs.len
  have hgm : g.length ≤ 1000000000000 + 600000000000 := by
    have := hs.2.2.2.1
    have eb : nodeE.bytes = 88 := rfl
    rw [eb] at this
    unfold room at this; omega
  have hgm2 : g.length ≤ 1600000000000 := by omega
  refine newS.intro fun a w1 x1 hb1 hab1 _ => ⟨s, hb1.ldc.pre (r := []) rfl, fun h0 => ?_, fun h0 => ?_⟩
  · have hg : g = [] := List.eq_nil_of_length_eq_zero (by omega)
    subst hg
    exact hR _ [] w1 x1 ⟨.nil, fun y => by simp [bfs]⟩ (SlR.nil trivial)
  · have hg : g ≠ [] := fun e => by subst e; exact h0 (by rw [hsl]; rfl)
    have hgl : 0 < g.length := Nat.pos_of_ne_zero fun h => hg (List.eq_nil_of_length_eq_zero h)
    refine makeMap_intro (K := intV) fun r w2 x2 hr2 hM2 => ⟨some r, rfl, ?_⟩
    refine update_new intT hM2 ⟨0, rfl⟩ (fun p hp => by cases hp) fun w3 b3 hs3 hM3 => ?_
    have al := hb1.lt
    have sz2 := x2.size
    have x13 : Ext w1 w3 := b3.ext x2 (by omega)
    refine newS.own (E := intE) (x := 0) ⟨rfl, trivial⟩ fun a3 w4 x4 o4 ha4 => ?_
    have x14 := x13.trans x4
    have x04 := x1.trans x14
    have hrl := hM3.lt
    have s13 := x13.size
    have start : RA w a r s w4 [0] ⟨some a3, 1, 1⟩ := ⟨x04, hb1.ext x14, ⟨[(0, 0)], hM3.ext x4, rfl⟩, o4.lowr (by have := x1.size; omega), fun ad had => by
      simp only [Option.some.injEq] at had
      subst had
      have := x13.size
      exact ⟨by omega, by omega⟩, by omega, by have := x1.size; omega, by omega⟩
    refine loop2.ghost (fun f so i w' => ∃ (n : Nat) (out : List Nat), i = (n : Int) ∧ RA w a r s w' out so ∧ BfsI g n out ∧ n ≤ out.length ∧ g.length < f + n ∧ bfsGo g f n out = bfs g) (g.length + 1) ⟨0, [0], rfl, start, BfsI.start hg, Nat.zero_le _, by omega, by unfold bfs; rw [if_neg hg]⟩ fun f so i w5 nxt ⟨n, out, hi, hA, hB, hn, hf, hgo⟩ hnx => ?_
    subst hi
    have hol := hA.own.len
    rw [ofN_len] at hol
    have hoL := hB.len
    obtain ⟨f, rfl⟩ : ∃ f', f = f' + 1 := ⟨f - 1, by omega⟩
    refine ⟨fun hlt => bnd.drew fun w6 x6 => ?_, fun hge => ?_⟩
    · have hlt' : n < out.length := by omega
      have hk : out[n]? = some out[n] := List.getElem?_eq_getElem hlt'
      have hkg : out[n] < g.length := hB.lt _ (List.getElem_mem hlt')
      rw [bfsGo_next hk] at hgo
      have hA6 := hA.ext x6
      obtain ⟨ad, cs, had, ⟨rfl, _⟩, hc⟩ := hA6.own.el (i := n) (x := (out[n] : Int)) (by simp [ofN, hk])
      obtain ⟨ag, c, e, hag, _, _, he, hcg⟩ := nodeEl hs hkg
      have hel := he.len
      have hes : edgesAt g out[n] = g[out[n]].edges := by unfold edgesAt; rw [List.getElem?_eq_getElem hkg]
      have hfold := foldB (g := g) (p := out[n])
      refine ⟨s, hA6.box.ldc.pre (r := []) rfl, ad, ⟨had, by omega, by omega⟩, _, by rw [Int.toNat_natCast]; exact hc _ (Ext.refl _), ag, ⟨hag, by omega, by omega⟩, e, by rw [Int.toNat_natCast]; exact (hcg _ hA6.x).mid (k := 5) (r := []) rfl, ?_⟩
      refine loop2.up he.max (fun so' t w' => RA w a r s w' ((g[out[n]].edges.take t).foldl (stepB g.length) out) so') hA6 fun so' t w7 nxt' ht hA7 hn' => ?_
      have hfo := hfold (g[out[n]].edges.take t) out (fun e he => by rw [hes]; exact List.mem_of_mem_take he) (List.getElem_mem hlt') hB.nodup hB.lt hB.from_
      generalize hO : (g[out[n]].edges.take t).foldl (stepB g.length) out = O at hA7 hfo
      refine ⟨fun hlt2 => join.named fun J hJ => ?_, fun hge2 => ?_⟩
      · have hlt2' : t < g[out[n]].edges.length := by omega
        obtain ⟨ae, hae, hce⟩ := edgeEl he hlt2'
        have hstep : (g[out[n]].edges.take (t + 1)).foldl (stepB g.length) out = stepB g.length O g[out[n]].edges[t] := by
          rw [List.take_succ_eq_append_getElem hlt2', List.foldl_append, hO]; rfl
        have hJ' : ∀ so2 w8, RA w a r s w8 (stepB g.length O g[out[n]].edges[t]) so2 → J so2 w8 := fun so2 w8 h => by
          subst hJ
          exact hn' hlt2' so2 w8 (by rw [hstep]; exact h)
        generalize g[out[n]].edges[t] = ed at *
        refine ⟨ae, ⟨hae, by omega, hlt2⟩, _, _, hce _ hA7.x, newS.set rfl fun a20 w8 x8 hb8 hab8 => ⟨_, hb8.at1 (k := 1) (r := []) (Ext.refl _) rfl, ?_⟩⟩
        have hA8 := hA7.ext x8
        obtain ⟨v, hrun⟩ := hA8.seen ed.to
        refine ⟨_, _, hrun, v, _, rfl, bound ⟨_, fun _ => hb8.at1 (k := 1) (r := []) (Ext.refl _) rfl, bound ⟨_, fun _ => hb8.at1 (k := 1) (r := []) (Ext.refl _) rfl, s, fun _ => hA8.box.ldc.pre (r := []) rfl, fun hc => ?_, fun hc => ?_⟩⟩⟩
        · simp only [Bool.and_eq_true, Bool.not_eq_true', decide_eq_true_eq, decide_eq_false_iff_not] at hc
          obtain ⟨⟨c1, c2⟩, c3⟩ := hc
          obtain ⟨m, hm⟩ : ∃ m : Nat, ed.to = (m : Int) := ⟨ed.to.toNat, by omega⟩
          have hmn : m ∉ O := fun h => c1 (mem_ofN.2 ⟨m, h, hm.symm⟩)
          have hmg : m < g.length := by omega
          have hOl := nodup_lt hfo.1 hfo.2.1
          rw [hm] at hb8
          refine ⟨_, hb8.at1 (k := 1) (r := []) (Ext.refl _) rfl, hA8.put hmn (by
            have := nodup_lt (out := O ++ [m]) (n := g.length) (by rw [List.nodup_append]; exact ⟨hfo.1, by simp, fun x hx y hy => by simp at hy; subst hy; exact fun e => hmn (e ▸ hx)⟩) (fun k hk => by
              rcases List.mem_append.1 hk with hk | hk
              · exact hfo.2.1 k hk
              · simp at hk; omega)
            rw [List.length_append, List.length_singleton] at this; omega) hb8 (by obtain ⟨_, q, _⟩ := hA7.map; have := q.lt; omega) fun so2 w9 hA9 => hJ' so2 w9 ?_⟩
          rw [stepB_new hm hmg hmn]; exact hA9
        · refine hJ' so' w8 ?_
          rw [stepB_not]
          · exact hA8
          · rintro ⟨q1, q2, q3⟩
            have : ¬ ed.to ∈ ofN O := fun h => by
              obtain ⟨k, hk, e⟩ := mem_ofN.1 h
              have : ed.to.toNat = k := by omega
              rw [this] at q3; exact q3 hk
            rw [decide_eq_false this, decide_eq_true q1] at hc
            simp at hc; omega
      · have : t = g[out[n]].edges.length := by omega
        rw [this, List.take_length] at hO
        subst hO
        rw [hes] at hgo
        have e1 : wrapI ((n : Int) + 1) = ((n + 1 : Nat) : Int) := by rw [wrapI_eq (by omega) (by omega)]; omega
        rw [e1]
        have hB' := hB.next hk
        rw [hes] at hB'
        refine hnx f so' _ w7 (by omega) ⟨n + 1, _, rfl, hA7, hB', ?_, by omega, hgo⟩
        obtain ⟨tl, htl⟩ := hfo.2.2.2.1
        rw [htl, List.length_append]; omega
    · have hnn : n = out.length := by omega
      rw [bfsGo_end (by rw [hnn]; exact List.getElem?_eq_none (Nat.le_refl _))] at hgo
      subst hgo
      have hfl : FlatO intC 8 w5 w.heap.size so (ofN (bfs g)) := FlatO.of (E := intE) (fun x cs h => h.1) hA.own (by rw [ofN_len]; unfold room; omega)
      refine sortInt_k hfl hA.x.size fun w6 bel6 hfl6 => ⟨rfl, ?_⟩
      have x06 := hA.x.trans' bel6
      exact hR so _ w6 x06 (ReachAre.of_perm (sortI_perm _) (sortI_le _)) (FlatO.read (E := intE) hfl6 (fun _ => rfl) fun _ _ _ _ => ⟨rfl, trivial⟩)
end Go.Hal
namespace Go.Hal
open Go Go.RowKit Go.Proofs Go.Shelf
def ToR (g : List Node) (e : Edge) : Prop := ∃ (j : Nat) (y : Node), e.to = (j : Int) ∧ 1 ≤ j ∧ g[j]? = some y ∧ y.name = e.name
theorem riseT_se {e : Sl} {l : List Edge} {S : Nat → Prop} {w w1 : World} {t : Nat} (he : SlR edgeE w S e l) (hx : Ext w w1) (ht : t < l.length) : ∃ (ad : Addr) (n : ByteArray), (decide ((0 : Int) < (t : Int)) = true → e.a = some ad ∧ (0 : Int) ≤ wrapI ((t : Int) - 1) ∧ wrapI ((t : Int) - 1) < (e.len : Int)) ∧
    (decide ((0 : Int) < (t : Int)) = true → ldc w1 (ad.add ((wrapI ((t : Int) - 1)).toNat * 2)) [.string n]) ∧ ((decide ((0 : Int) < (t : Int)) && !bLt n l[t].name) = false ↔ (0 < t → bLt l[t - 1].name l[t].name = true)) := by
  have hl := he.len
  rcases Nat.eq_zero_or_pos t with rfl | h0
  · exact ⟨⟨0, 0, none⟩, ⟨#[]⟩, (fun h => by cases h), (fun h => by cases h), fun _ h => by omega, fun _ => rfl⟩
  · obtain ⟨ad, ha, hc⟩ := edgeEl he (n := t - 1) (by omega)
    rw [wrap_pred h0 ht he.max]
    refine ⟨ad, l[t - 1].name, fun _ => ⟨ha, by omega, by omega⟩, fun _ => (hc _ hx).pre rfl, fun h _ => ?_, fun h => ?_⟩
    · rw [decide_eq_true (by omega : (0 : Int) < (t : Int)), Bool.true_and] at h
      simpa using h
    · rw [h h0]; simp
set_option maxHeartbeats 4000000 in
theorem formed_se {s : Sl} {g : List Node} {S : Nat → Prop} {w : World} {R : Bool → World → Prop} (hs : SlR nodeE w S s g) (hR : ∀ (b : Bool) w', Ext w w' → (b = true ↔ Formed g) → R b w') : SE.graph_formed s w R := by
  unfold SE.graph_formed
  have hsl := hs.len
  have hbad : ∀ w', Ext w w' → ¬ Formed g → R false w' := fun w' hx h => hR false w' hx ⟨(fun h => by cases h), fun hf => absurd hf h⟩
  refine newS.intro fun a w1 x1 hb1 hab1 _ => ⟨s, hb1.ldc.pre (r := []) rfl, bound ⟨s, fun _ => hb1.ldc.pre (r := []) rfl, fun hc => ?_, fun hc => ?_⟩⟩
  · refine hbad w1 x1 fun hF => ?_
    obtain ⟨q1, q2⟩ := hF.len
    rw [decide_eq_false (by omega), decide_eq_false (by omega)] at hc
    cases hc
  simp only [Bool.or_eq_false_iff, decide_eq_false_iff_not] at hc
  obtain ⟨hc1, hc2⟩ := hc
  have hg0 : 0 < g.length := by omega
  have hg128 : g.length ≤ 128 := by omega
  obtain ⟨ad0, c0, e0, ha0, _, hcx0, _, hc0⟩ := nodeEl hs hg0
  have hcl0 := hcx0.len
  refine ⟨s, hb1.ldc.pre (r := []) rfl, ad0, ⟨ha0, by omega, by omega⟩, _, _, _, _, _, _, hc0 _ x1, newS.set rfl fun a4 w2 x2 hb2 _ => ⟨_, hb2.at0 (Ext.refl _) rfl, bound ⟨_, _, _, fun _ => hb2.at1 (k := 1) (Ext.refl _) rfl, bound ⟨c0, fun _ => hb2.at1 (k := 4) (Ext.refl _) rfl, ?_⟩⟩⟩⟩
  have x02 : Ext w w2 := x1.trans x2
  have hroot : (∃ x, g[0]? = some x ∧ x.key = rootNode.key) ↔ ((!bEq g[0].name ⟨#[]⟩ || !((g[0].v.ma == 0) && ((g[0].v.mi == 0) && ((g[0].v.pa == 0) && true)))) || decide (0 < (c0.len : Int))) = false := by
    have e1 : g[0]? = some g[0] := List.getElem?_eq_getElem hg0
    rw [e1]
    generalize g[0] = z at *
    obtain ⟨n, ⟨p, q, r⟩, cx, ed⟩ := z
    have hcl0 : c0.len = cx.length := hcl0
    simp only [Option.some.injEq, exists_eq_left', Node.key, rootNode, Prod.mk.injEq, Ver.mk.injEq, Bool.or_eq_false_iff, Bool.not_eq_false', bEq_iff, Bool.and_eq_true, beq_iff_eq, decide_eq_false_iff_not, and_true]
    constructor
    · rintro ⟨h1, ⟨h2, h3, h4⟩, h5⟩
      subst h5
      exact ⟨⟨h1, h2, h3, h4⟩, by simp at hcl0; omega⟩
    · rintro ⟨⟨h1, h2, h3, h4⟩, h5⟩
      exact ⟨h1, ⟨h2, h3, h4⟩, List.eq_nil_of_length_eq_zero (by omega)⟩
  refine ⟨fun hc => hbad w2 x02 fun hF => ?_, fun hc => ?_⟩
  · rw [hroot.1 hF.root] at hc; cases hc
  have hrt := hroot.2 hc
  have hb1' : ∀ w', Ext w2 w' → ldc w' a [s.v] := fun w' hx => (hb1.ext (x2.trans hx)).ldc.pre (r := []) rfl
  refine ⟨s, hb1' _ (Ext.refl _), ?_⟩
  refine loop1.up hs.max (fun i w' => Ext w2 w' ∧ ∀ j (hj : j < g.length), j < i → NodeOk g j g[j]) ⟨Ext.refl _, fun j _ h => by omega⟩ fun i w3 nxt hi ⟨x3, hI⟩ hn => ⟨fun hlt => ?_, fun hge => ?_⟩
  · have hlt' : i < g.length := by omega
    have hgi : g[i]? = some g[i] := List.getElem?_eq_getElem hlt'
    obtain ⟨ad, c, e, ha, _, hcx, he, hcn⟩ := nodeEl hs hlt'
    have hel := he.len
    have hbadN : ∀ w', Ext w w' → ¬ NodeOk g i g[i] → R false w' := fun w' hx h => hbad w' hx fun hF => h (hF.nodes i _ hgi)
    have x03 : Ext w w3 := x02.trans x3
    refine ⟨ad, ⟨ha, by omega, hlt⟩, _, _, _, _, _, _, hcn _ x03, newS.set rfl fun a17 w4 x4 hb4 _ => ⟨c, hb4.at1 (k := 4) (Ext.refl _) rfl, ?_⟩⟩
    have x04 : Ext w w4 := x03.trans x4
    refine SE.graph_rises.go (rises_se (hcx.ext x04) fun b22 w5 x5 hb22 => ⟨_, rfl, bound (bound ?_)⟩)
    have x05 : Ext w w5 := x04.trans x5
    refine ⟨s, fun _ => hb1' _ (by (first | assumption | exact Ext.refl _ | solve_by_elim (maxDepth := 40) only [*, Ext.trans])), _, fun _ => hb4.at0 x5 rfl, _, _, _, fun _ => hb4.at1 (k := 1) x5 rfl, c, fun _ => hb4.at1 (k := 4) x5 rfl, ?_⟩
    refine gCall.intro (keyI g g[i].key) (fun _ q hq => SE.graph_Find.go (find_se (hs.ext x05) (hcx.ext x05) fun w6 x6 => ⟨_, rfl, hq w6 x6⟩)) fun t60 w6 x6 ht => ?_
    have x06 : Ext w w6 := x05.trans x6
    have hfind : (!(!b22) && decide ((0 : Int) < (i : Int))) = true → ((t60 == (i : Int)) = true ↔ (i ≠ 0 → keyIx g g[i].key = some i)) := fun h => by
      rw [ht h]
      simp only [Bool.not_not, Bool.and_eq_true, decide_eq_true_eq] at h
      unfold keyI
      cases hk : keyIx g g[i].key with
      | none => simp only [beq_iff_eq]; exact ⟨fun h => by omega, fun h' => by cases h' (by omega)⟩
      | some j =>
        simp only [beq_iff_eq, Option.some.injEq]
        exact ⟨fun h _ => by omega, fun h' => by rw [h' (by omega)]⟩
    refine ⟨fun hc => hbadN w6 x06 fun hN => ?_, fun hc => ?_⟩
    · have h1 : b22 = true := hb22.2 hN.ctx
      subst h1
      simp only [Bool.not_true, Bool.false_or, Bool.and_eq_true, decide_eq_true_eq, Bool.not_eq_true'] at hc
      obtain ⟨c1, c2⟩ := hc
      have := (hfind (by simpa using c1)).2 hN.find
      rw [c2] at this; cases this
    have hcN : Rises g[i].ctx ∧ (i ≠ 0 → keyIx g g[i].key = some i) := by
      simp only [Bool.or_eq_false_iff, Bool.not_eq_false'] at hc
      obtain ⟨c1, c2⟩ := hc
      subst c1
      refine ⟨hb22.1 rfl, fun h0 => ?_⟩
      have h0' : (0 : Int) < (i : Int) := by omega
      have hd : decide ((0 : Int) < (i : Int)) = true := decide_eq_true h0'
      rw [hd, Bool.true_and] at c2
      exact (hfind (by rw [hd]; rfl)).1 (by simpa using c2) h0
    clear hfind ht hc
    refine ⟨e, (hb4.ext (x5.trans x6)).ldc.mid (k := 5) (r := []) rfl, ?_⟩
    refine loop1.up he.max (fun t w' => Ext w6 w' ∧ RiseN Edge.name (g[i].edges.take t) ∧ ∀ ed ∈ g[i].edges.take t, ToR g ed) ⟨Ext.refl _, .nil, fun _ h => by cases h⟩ fun t w7 nxt' ht ⟨x7, hI1, hI2⟩ hn' => ⟨fun hlt2 => ?_, fun hge2 => ?_⟩
    · have hlt2' : t < g[i].edges.length := by omega
      have x07 : Ext w w7 := x06.trans x7
      obtain ⟨ae, hae, hce⟩ := edgeEl he hlt2'
      refine ⟨ae, ⟨hae, by omega, hlt2⟩, _, _, hce _ x07, newS.set rfl fun a37 w8 x8 hb8 _ => bnd.drew fun w9 x9 => bound ?_⟩
      have x09 : Ext w w9 := x07.trans (x8.trans x9)
      have x29 : Ext w2 w9 := by (first | assumption | exact Ext.refl _ | solve_by_elim (maxDepth := 40) only [*, Ext.trans])
      have x49 : Ext w4 w9 := by (first | assumption | exact Ext.refl _ | solve_by_elim (maxDepth := 40) only [*, Ext.trans])
      obtain ⟨ad43, n82, p1, p2, p3⟩ := riseT_se he x09 hlt2'
      refine ⟨e, fun _ => (hb4.ext x49).ldc.mid (k := 5) (r := []) rfl, ad43, p1, n82, p2, _, fun _ => hb8.at0 x9 rfl, bound ?_⟩
      have gr := hb8.at1 (k := 1) (r := []) (cs' := [.int .i64 g[i].edges[t].to]) x9 rfl
      generalize hpv : (decide ((0 : Int) < (t : Int)) && !bLt n82 g[i].edges[t].name) = b47 at *
      refine ⟨_, fun _ => gr, bound ⟨_, fun _ => gr, s, fun _ => hb1' _ x29, bound ?_⟩⟩
      by_cases hH : b47 = false ∧ 1 ≤ g[i].edges[t].to ∧ g[i].edges[t].to < (g.length : Int)
      · obtain ⟨q1, q2, q3⟩ := hH
        obtain ⟨m, hm, e1, e2, e3⟩ := at_nat hs (by omega : 0 ≤ g[i].edges[t].to) q3
        obtain ⟨ad5, _, _, ha5, _, _, _, hc5⟩ := nodeEl hs hm
        refine ⟨s, fun _ => hb1' _ x29, _, fun _ => gr, ad5, fun _ => ⟨ha5, by omega, by omega⟩, _, fun _ => by rw [e2]; exact (hc5 _ x09).pre rfl, _, fun _ => hb8.at0 x9 rfl, ?_⟩
        have e47 : (b47 || decide (g[i].edges[t].to < 1) || decide ((s.len : Int) ≤ g[i].edges[t].to)) = false := by
          rw [q1, decide_eq_false (by omega), decide_eq_false (by omega)]; rfl
        rw [e47, Bool.false_or]
        have htr : ToR g g[i].edges[t] ↔ g[m].name = g[i].edges[t].name := by
          constructor
          · rintro ⟨j, y, h1, h2, h3, h4⟩
            have : j = m := by omega
            subst this
            rw [List.getElem?_eq_getElem hm] at h3
            cases h3; exact h4
          · intro h; exact ⟨m, g[m], e1, by omega, List.getElem?_eq_getElem hm, h⟩
        refine ⟨fun hc => hbadN w9 x09 fun hN => ?_, fun hc => hn' hlt2' w9 ⟨by (first | assumption | exact Ext.refl _ | solve_by_elim (maxDepth := 40) only [*, Ext.trans]), ?_, fun ed hed => ?_⟩⟩
        · have := htr.1 (hN.to _ (List.getElem_mem hlt2'))
          rw [bEq_iff.2 this] at hc; cases hc
        · rcases Nat.eq_zero_or_pos t with h0 | h0
          · subst h0; exact rise_one
          · exact rise_step h0 hlt2' hI1 (p3.1 q1 h0)
        · rw [List.take_succ_eq_append_getElem hlt2'] at hed
          rcases List.mem_append.1 hed with h | h
          · exact hI2 ed h
          · rw [List.mem_singleton] at h
            subst h
            exact htr.2 (bEq_iff.1 (by simpa using hc))
      · have e47 : (b47 || decide (g[i].edges[t].to < 1) || decide ((s.len : Int) ≤ g[i].edges[t].to)) = true := by
          cases b47 with
          | true => rfl
          | false =>
            simp only [true_and, Bool.false_or, Bool.or_eq_true, decide_eq_true_eq] at hH ⊢
            omega
        rw [e47]
        refine ⟨s, (fun h => by cases h), 0, (fun h => by cases h), ad0, (fun h => by cases h), ⟨#[]⟩, (fun h => by cases h), ⟨#[]⟩, (fun h => by cases h), fun _ => hbadN w9 x09 fun hN => hH ?_, (fun h => by cases h)⟩
        refine ⟨p3.2 fun h0 => ?_, ?_⟩
        · exact List.pairwise_iff_getElem.1 hN.rise (t - 1) t (by omega) hlt2' (by omega)
        · obtain ⟨j, y, h1, h2, h3, _⟩ := hN.to _ (List.getElem_mem hlt2')
          have := (List.getElem?_eq_some_iff.1 h3).1
          omega
    · rw [List.take_of_length_le (by omega)] at hI1 hI2
      refine hn hlt' w7 ⟨by (first | assumption | exact Ext.refl _ | solve_by_elim (maxDepth := 40) only [*, Ext.trans]), fun j hj hji => ?_⟩
      rcases Nat.lt_succ_iff_lt_or_eq.1 hji with h | h
      · exact hI j hj h
      · subst h; exact ⟨hcN.1, hcN.2, hI1, hI2⟩
  · have x03 : Ext w w3 := x02.trans x3
    refine bnd.drew fun w4 x4 => ⟨s, hb1' _ (x3.trans x4), s, hb1' _ (x3.trans x4), callX.intro (SE.graph_Reach.go (reach_se (hs.ext (x03.trans x4)) fun t l w5 x5 hr ht => ⟨x5, t, rfl, ?_⟩))⟩
    refine hR _ w5 ((x03.trans x4).trans x5) ?_
    have h1 := ht.len
    have h2 := hr.len
    rw [beq_iff_eq]
    constructor
    · intro h
      exact ⟨⟨hg0, hg128⟩, hrt, fun j x hj => by
        obtain ⟨hj', rfl⟩ := List.getElem?_eq_some_iff.1 hj
        exact hI j hj' (by omega), by omega⟩
    · intro hF
      have := hF.reach
      omega
end Go.Hal
namespace Go.Hal
open Go Go.RowKit Go.Proofs Go.Shelf
theorem pinStr {w : World} {S : Nat → Prop} {s : Sl} {l : List Pin} (h : SlR pinE w S s l) : ∀ q ∈ l, Str q.name := fun q hq => by
  obtain ⟨n, hn, rfl⟩ := List.mem_iff_getElem.1 hq
  obtain ⟨_, _, _, h1, _⟩ := pinEl h hn
  exact h1
theorem find_none_of {α : Type} {p : α → Bool} {l : List α} (h : l.any p = false) : l.find? p = none := by
  rw [List.find?_eq_none]
  intro x hx
  have := List.any_eq_false.1 h x hx
  simpa using this
theorem idx_find {α : Type} (p : α → Bool) (l : List α) : (idxI p l = -1 ∧ l.find? p = none) ∨ ∃ k, ∃ hk : k < l.length, idxI p l = (k : Int) ∧ l.find? p = some l[k] := by
  by_cases h : idxI p l = -1
  · refine .inl ⟨h, find_none_of ?_⟩
    rw [← idxI_any, h]; rfl
  · obtain ⟨n, hn, e, ht, hp⟩ := idxI_cases h
    exact .inr ⟨n, hn, e, find_hit hn (find_none_of ht) hp⟩
theorem envGo_none {out r : List Pin} {x : Pin} (h : out.find? (isN x.name) = none) : envGo out (x :: r) = envGo (out ++ [x]) r := by
  conv => lhs; unfold envGo
  rw [h]
theorem envGo_same {out r : List Pin} {x y : Pin} (h : out.find? (isN x.name) = some y) (he : y = x) : envGo out (x :: r) = envGo out r := by
  conv => lhs; unfold envGo
  rw [h]; dsimp only; rw [if_pos he]
theorem envGo_diff {out r : List Pin} {x y : Pin} (h : out.find? (isN x.name) = some y) (he : y ≠ x) : envGo out (x :: r) = none := by
  conv => lhs; unfold envGo
  rw [h]; dsimp only; rw [if_neg he]
def edgePin (g : List Node) (e : Edge) : Option Pin := (g[e.to.toNat]?).map fun y => ⟨e.name, y.v⟩
theorem OwnS.pins {w : World} {lo : Nat} {T : TypeId} {s : Sl} {l : List Pin} (h : OwnS pinE T w lo None' s l) (hl : l.length ≤ 1000000000000) : SlR pinE w (fun b => lo ≤ b) s l := h.readF (by decide) (by show l.length * 40 ≤ room; unfold room; omega)
set_option maxHeartbeats 4000000 in
theorem environment_se {s : Sl} {g : List Node} {k : Nat} {x : Node} {S : Nat → Prop} {w : World} {R : Sl → Bool → World → Prop} (hS : Old S w) (hs : SlR nodeE w S s g) (hk : g[k]? = some x) (hv : ToOk g x) (hn : (x.ctx.map (·.name)).Nodup) (hb : x.ctx.length + x.edges.length ≤ 1000000)
    (h1 : ∀ env t w', envOf g x = some env → Ext w w' → FlatO pinC 40 w' w.heap.size t env → (∀ q ∈ env, Str q.name) → R t true w') (h0 : ∀ w', envOf g x = none → Ext w w' → R Sl.nil false w') : SE.graph_environment s (k : Int) w R := by
  unfold SE.graph_environment
  have hsl := hs.len
  obtain ⟨hkl, rfl⟩ := List.getElem?_eq_some_iff.1 hk
  obtain ⟨ad, c, e, ha, _, hcx, he, hc⟩ := nodeEl hs hkl
  have hel := he.len
  refine newS.intro fun a w1 x1 hb1 hab1 _ => ⟨s, hb1.ldc.pre (r := []) rfl, ad, ⟨ha, by omega, by omega⟩, c, (hc _ x1).mid (k := 4) rfl, ?_⟩
  refine SE.slices_Clone_apiPinapiPin.go (clonePin_se (hS.ext x1.size) (hcx.ext x1) fun t17 w2 x2 o2 => ⟨_, rfl, ?_⟩)
  have x02 := x1.trans x2
  refine ⟨s, (hb1.ext x2).ldc.pre (r := []) rfl, ad, ⟨ha, by omega, by omega⟩, e, (hc _ x02).mid (k := 5) (r := []) rfl, ?_⟩
  have hst : ∀ q ∈ g[k].ctx, Str q.name := pinStr hcx
  refine loop2.up he.max (fun so t w' => ∃ o : List Pin, Ext w1 w' ∧ OwnS pinE 84 w' w1.heap.size None' so o ∧ envGo o ((g[k].edges.drop t).filterMap (edgePin g)) = envGo g[k].ctx (envPins g g[k]) ∧ (o.map (·.name)).Nodup ∧ (∀ q ∈ o, Str q.name) ∧ o.length ≤ g[k].ctx.length + t)
    ⟨_, x2, o2, rfl, hn, hst, Nat.le_refl _⟩ fun so t w3 nxt ht ⟨o, x3, o3, hgo, hnd, hso, hol⟩ hnx => ⟨fun hlt => join.named fun J hJ => ?_, fun hge => ?_⟩
  · have hlt' : t < g[k].edges.length := by omega
    have hJ' : ∀ (so' : Sl) w' (o' : List Pin), Ext w1 w' → OwnS pinE 84 w' w1.heap.size None' so' o' → envGo o' ((g[k].edges.drop (t + 1)).filterMap (edgePin g)) = envGo g[k].ctx (envPins g g[k]) → (o'.map (·.name)).Nodup → (∀ q ∈ o', Str q.name) → o'.length ≤ g[k].ctx.length + (t + 1) → J so' w' := fun so' w' o' q1 q2 q3 q4 q5 q6 => by
      subst hJ
      exact hnx hlt' so' w' ⟨o', q1, q2, q3, q4, q5, q6⟩
    clear hJ hnx
    have x03 := x1.trans x3
    obtain ⟨ae, hae, hce⟩ := edgeEl he hlt'
    obtain ⟨_, _, _, _, ⟨_, hen⟩, _⟩ := he.el hlt'
    obtain ⟨t0, t1⟩ := hv _ (List.getElem_mem hlt')
    obtain ⟨m, hm, e1, e2, e3⟩ := at_nat hs t0 t1
    obtain ⟨ad5, _, _, ha5, _, _, _, hc5⟩ := nodeEl hs hm
    rw [List.drop_eq_getElem_cons hlt'] at hgo
    have hpin : edgePin g g[k].edges[t] = some ⟨g[k].edges[t].name, g[m].v⟩ := by unfold edgePin; rw [e3]; rfl
    rw [List.filterMap_cons_some hpin] at hgo
    generalize g[k].edges[t] = ed at *
    refine ⟨ae, ⟨hae, by omega, hlt⟩, _, _, hce _ x03, newS.set rfl fun a13 w4 x4 hb4 hab4 => bnd.drew fun w5 x5 => ?_⟩
    have x05 := x03.trans (x4.trans x5)
    have hb5 := hb4.ext x5
    refine ⟨_, hb5.at0 (Ext.refl _) rfl, s, (hb1.ext (x3.trans (x4.trans x5))).ldc.pre (r := []) rfl, _, hb5.at1 (k := 1) (r := []) (Ext.refl _) rfl, ad5, ⟨ha5, by omega, by omega⟩, g[m].v.ma, g[m].v.mi, g[m].v.pa, by rw [e2]; exact (hc5 _ x05).mid (k := 1) rfl, newS.set rfl fun a23 w6 x6 hb6 _ => ?_⟩
    have x36 := x4.trans (x5.trans x6)
    have hread := (o3.ext x36).pins (by omega)
    refine SE.slices_IndexFunc_apiPinapiPin.go (idxPin_se (p := isN ed.name) hread (fun q _ w7 k7 hx7 hk7 => ⟨_, _, rfl, entersEnv1, SE.graph_environment_1.go (env1_se (q := q) ((hb5.ext x6).ext hx7) hk7)⟩) fun w7 x7 => ⟨_, rfl, ?_⟩)
    have x37 := x36.trans x7
    rcases idx_find (isN ed.name) o with ⟨i1, i2⟩ | ⟨i, hi, i1, i2⟩
    · rw [i1]
      refine ⟨fun _ => ?_, fun h => absurd (by decide) h⟩
      rw [envGo_none i2] at hgo
      refine ⟨_, _, _, _, (hb6.ext x7).ldc.pre (r := []) rfl, newS.intro fun a30 w8 x8 hb8 _ _ => ?_⟩
      have s8 := (x3.trans (x37.trans x8)).size
      have eb : pinE.bytes = 40 := rfl
      refine (o3.ext (x37.trans x8)).push apPin s8 (x := ⟨ed.name, g[m].v⟩) (S' := None') ⟨rfl, hen⟩ (hb8.ldc.pre (r := []) rfl) (fun _ h => h.elim) (fun _ _ h => h.elim) (by rw [eb]; unfold room; omega) (by rw [maxLen_eq]; omega) fun so' w9 o9 bel9 _ _ => ?_
      have x89 : Ext w1 w9 := (x3.trans (x37.trans x8)).trans' bel9
      refine hJ' so' w9 _ x89 (OwnS.flat (fun h => h) o9) hgo ?_ (fun q hq => ?_) (by rw [List.length_append, List.length_singleton]; omega)
      · rw [List.map_append, List.nodup_append]
        refine ⟨hnd, by simp, fun a ha b hb => ?_⟩
        simp only [List.map_cons, List.map_nil, List.mem_singleton] at hb
        subst hb
        obtain ⟨q, hq, rfl⟩ := List.mem_map.1 ha
        have := List.find?_eq_none.1 i2 q hq
        intro h; exact this (by simp [isN, h])
      · rcases List.mem_append.1 hq with hq | hq
        · exact hso q hq
        · rw [List.mem_singleton] at hq; subst hq; exact hen
    · rw [i1]
      refine ⟨fun h => by omega, fun _ => bnd.drew fun w8 x8 => ?_⟩
      have hread8 := (o3.ext (x37.trans x8)).pins (by omega)
      have hrl := hread8.len
      obtain ⟨ap, hap, _, _, hcp⟩ := pinEl hread8 hi
      refine ⟨ap, ⟨hap, by omega, by omega⟩, _, _, _, _, by rw [Int.toNat_natCast]; exact hcp _ (Ext.refl _), _, _, _, _, (hb6.ext (x7.trans x8)).ldc.pre (r := []) rfl, ?_⟩
      have ep : (!((bEq o[i].name ed.name) && (((o[i].v.ma == g[m].v.ma) && ((o[i].v.mi == g[m].v.mi) && ((o[i].v.pa == g[m].v.pa) && true))) && true))) = !decide (o[i] = ⟨ed.name, g[m].v⟩) := pinNe (y := ⟨ed.name, g[m].v⟩)
      rw [ep]
      have x08 := x03.trans (x37.trans x8)
      refine ⟨fun hq => h0 w8 ?_ x08, fun hq => ?_⟩
      · unfold envOf
        rw [← hgo, envGo_diff i2 (by simpa using hq)]; rfl
      · rw [envGo_same i2 (by simpa using hq)] at hgo
        exact hJ' so w8 o (x3.trans (x37.trans x8)) (o3.ext (x37.trans x8)) hgo hnd hso (by omega)
  · rw [List.drop_eq_nil_of_le (by omega)] at hgo
    have hgo : some o = envGo g[k].ctx (envPins g g[k]) := hgo
    have x03 := x1.trans x3
    have hfl : FlatO pinC 40 w3 w.heap.size so o := FlatO.of (E := pinE) (fun x cs h => h.1) (o3.lowr x1.size) (by unfold room; omega)
    refine sortPinE_k hfl x03.size hnd fun w4 bel4 hfl4 => ⟨rfl, ?_⟩
    refine h1 (sortN o) so w4 ?_ (x03.trans' bel4) hfl4 fun q hq => hso q ((sortN_perm o).mem_iff.1 hq)
    unfold envOf
    rw [← hgo]; rfl
end Go.Hal
namespace Go.Hal
open Go Go.RowKit Go.Proofs Go.MapKept
section
variable {P : Program} {mt : TypeId} {K : Value → Prop} {zero : Value} {w w' : World} {r : Nat} {m : List (Value × Value)}
theorem update_old2 (T : KeyT P mt K zero) (h : MapR K w r m) {k v u : Value} (hk : K k) (hm : (k, u) ∈ m) {c : World → Prop} (hc' : ∀ w' m', But r w w' → w'.heap.size = w.heap.size → MapR K w' r m' → (k, v) ∈ m' → m'.map (·.1) = m.map (·.1) → (∀ p ∈ m', p = (k, v) ∨ p ∈ m) → c w') : semU P (Instr.mapUpdate mt (.map (some r)) k v) w c := by
  obtain ⟨kt, et, hu, hz, hc, hf⟩ := T.und
  obtain ⟨es, clock, hb, hs, rfl, hks⟩ := h
  rcases hf k hk es.toList hks w with ⟨hn, _⟩ | ⟨j, e, hj, he, hr⟩
  · obtain ⟨e, he, h1⟩ := List.mem_map.1 hm
    exact absurd (congrArg Prod.fst h1) (hn e he)
  · have hje : es[j]? = some e := by simpa using hj
    have hsame : ∀ e', es[j]? = some e' → e'.key = k := fun e' h => by rw [hje] at h; cases h; exact he
    have hst : (Instr.keyThatStays (((es[j]?).map (·.key)).getD k) k).run P w = .ok k w := by
      rw [hje]
      simp only [Option.map_some, Option.getD_some, he]
      simp [Instr.keyThatStays, T.stay k hk]
    refine ⟨{ w with heap := w.heap.setIfInBounds r (.map (es.modify j fun e => { e with key := k, val := v }) clock) }, ?_, hc' _ ((es.modify j fun e => { e with key := k, val := v }).toList.map fun e => (e.key, e.val)) ⟨?_, rfl, rfl, rfl, ?_⟩ ?_ ?_ ?_ ?_ ?_⟩
    · simp only [Instr.mapUpdate, Sem.run_bind, run_underlying hu, Result.andThen, Go.MapKept.run_getObj_map hb, hc k hk, hr]
      rw [hst]
      simp [run_setObj_map _ hb]
    · simp
    · intro b hbl hne'
      exact (heap_set hb).2 b hne'
    · simp
    · refine ⟨_, _, (heap_set hb).1, stamped_modify hs j _ (fun _ _ => rfl) (fun e' _ h => (hsame e' h).symm), rfl, fun x hx => ?_⟩
      have hkeys := modify_keys (es := es) j (fun e => { e with key := k, val := v }) (fun e' h => (hsame e' h).symm)
      have : x.key ∈ (es.modify j fun e => { e with key := k, val := v }).toList.map (·.key) := List.mem_map.2 ⟨x, hx, rfl⟩
      rw [hkeys] at this
      obtain ⟨y, hy, hxy⟩ := List.mem_map.1 this
      rw [← hxy]; exact hks y hy
    · have hjl : j < es.size := (Array.getElem?_eq_some_iff.1 hje).1
      refine List.mem_map.2 ⟨{ e with key := k, val := v }, ?_, rfl⟩
      refine List.mem_of_getElem? (i := j) ?_
      simp [Array.getElem?_modify, hje]
    · rw [List.map_map, List.map_map]
      exact modify_keys (es := es) j (fun e => { e with key := k, val := v }) (fun e' h => (hsame e' h).symm)
    · intro p hp
      obtain ⟨x, hx, rfl⟩ := List.mem_map.1 hp
      obtain ⟨i, hi, rfl⟩ := List.mem_iff_getElem.1 hx
      have hi' : i < es.size := by simpa using hi
      by_cases hij : i = j
      · subst hij
        left
        simp [Array.getElem_modify]
      · right
        refine List.mem_map.2 ⟨es[i], by simp, ?_⟩
        simp [Array.getElem_modify, Ne.symm hij]
end
def kvS (p : ByteArray × Int) : Value × Value := (.string p.1, .int .i64 p.2)
def NM (w : World) (r : Nat) (ks : List ByteArray) : Prop := ∃ m : List (ByteArray × Int), MapR strV w r (m.map kvS) ∧ (∀ n, n ∈ m.map (·.1) ↔ n ∈ ks) ∧ ∀ p ∈ m, p.2 ≠ 0
theorem NM.ext {w w' : World} {r : Nat} {ks : List ByteArray} (h : NM w r ks) (hx : Ext w w') : NM w' r ks := by
  obtain ⟨m, h1, h2⟩ := h
  exact ⟨m, h1.ext hx, h2⟩
theorem NM.lt {w : World} {r : Nat} {ks : List ByteArray} (h : NM w r ks) : r < w.heap.size := by
  obtain ⟨m, h1, _⟩ := h
  exact h1.lt
theorem NM.look {w : World} {r : Nat} {ks : List ByteArray} (h : NM w r ks) (n : ByteArray) : ∃ v : Int, (Instr.lookup 178 (.map (some r)) (.string n) false).run Tryz.prog w = .ok (.int .i64 v) w ∧ (v = 0 ↔ n ∉ ks) := by
  obtain ⟨m, h1, h2, h3⟩ := h
  rcases lookup_run strT h1 (k := .string n) ⟨_, rfl⟩ with ⟨hn, hr⟩ | ⟨v, hin, hr⟩
  · refine ⟨0, hr false, fun _ hk => ?_, fun _ => rfl⟩
    obtain ⟨p, hp, e⟩ := List.mem_map.1 ((h2 n).2 hk)
    exact hn (kvS p) (List.mem_map_of_mem hp) (by show Value.string p.1 = _; rw [e])
  · obtain ⟨p, hp, e⟩ := List.mem_map.1 hin
    simp only [kvS, Prod.mk.injEq, Value.string.injEq] at e
    obtain ⟨e1, e2⟩ := e
    subst e2
    refine ⟨p.2, hr false, fun h => absurd h (h3 p hp), fun h => absurd ((h2 n).1 (List.mem_map.2 ⟨p, hp, e1⟩)) h⟩
theorem NM.put {w : World} {r : Nat} {ks : List ByteArray} (h : NM w r ks) (n : ByteArray) {v : Int} (hv : v ≠ 0) {c : World → Prop} (hc : ∀ w', But r w w' → w'.heap.size = w.heap.size → NM w' r (ks ++ [n]) → c w') :
    semU Tryz.prog (Instr.mapUpdate 178 (.map (some r)) (.string n) (.int .i64 v)) w c := by
  obtain ⟨m, h1, h2, h3⟩ := h
  rcases lookup_run strT h1 (k := .string n) ⟨_, rfl⟩ with ⟨hn, _⟩ | ⟨u, hin, _⟩
  · refine update_new strT h1 ⟨_, rfl⟩ hn fun w' b hs hM => hc w' b hs ⟨m ++ [(n, v)], by rw [List.map_append]; exact hM, fun k => ?_, fun p hp => ?_⟩
    · rw [List.map_append, List.mem_append, List.mem_append, h2]; simp
    · rcases List.mem_append.1 hp with hp | hp
      · exact h3 p hp
      · simp only [List.mem_singleton] at hp; subst hp; exact hv
  · refine update_old2 strT h1 ⟨_, rfl⟩ hin fun w' m' b hs hM hk hkeys hall => ?_
    have hall' : ∀ p ∈ m', ∃ q : ByteArray × Int, p = kvS q ∧ q.2 ≠ 0 := fun p hp => by
      rcases hall p hp with rfl | hp
      · exact ⟨(n, v), rfl, hv⟩
      · obtain ⟨q, hq, rfl⟩ := List.mem_map.1 hp
        exact ⟨q, rfl, h3 q hq⟩
    obtain ⟨m2, e2, h4⟩ : ∃ m2 : List (ByteArray × Int), m' = m2.map kvS ∧ ∀ q ∈ m2, q.2 ≠ 0 := by
      clear hM hk hkeys hall
      induction m' with
      | nil => exact ⟨[], rfl, fun _ h => by cases h⟩
      | cons a l ih =>
        obtain ⟨q, rfl, hq⟩ := hall' a (.head _)
        obtain ⟨m2, rfl, h5⟩ := ih fun p hp => hall' p (.tail _ hp)
        exact ⟨q :: m2, rfl, fun x hx => by rcases List.mem_cons.1 hx with rfl | hx; exact hq; exact h5 x hx⟩
    subst e2
    refine hc w' b hs ⟨m2, hM, fun k => ?_, h4⟩
    have e : (m2.map kvS).map (·.1) = (m2.map (·.1)).map Value.string := by rw [List.map_map, List.map_map]; rfl
    have e' : (m.map kvS).map (·.1) = (m.map (·.1)).map Value.string := by rw [List.map_map, List.map_map]; rfl
    rw [e, e'] at hkeys
    have hk1 : m2.map (·.1) = m.map (·.1) := (List.map_inj_right (f := Value.string) fun x y h => by cases h; rfl).1 hkeys
    rw [hk1, h2, List.mem_append, List.mem_singleton]
    constructor
    · exact .inl
    · rintro (h | rfl)
      · exact h
      · obtain ⟨q, hq, e⟩ := List.mem_map.1 hin
        simp only [kvS, Prod.mk.injEq, Value.string.injEq] at e
        rw [← e.1]; exact (h2 _).1 (List.mem_map_of_mem hq)
end Go.Hal
namespace Go.Hal
open Go Go.RowKit Go.Proofs Go.Shelf
def OwnOk (g : List Node) (x : Node) (l : List Want) : Prop := ∀ w ∈ l, (edgeTo g x w.name = none → w.kind ≠ 1) ∧ ∀ y, edgeTo g x w.name = some y → spansIn w.range y.v = true
def CtxOk (g : List Node) (x : Node) (l : List Pin) : Prop := ∀ p ∈ l, ∃ y, edgeTo g x p.name = some y ∧ y.v = p.v
def EdgeOk (L : List Pack) (over : List Dep) (g : List Node) (ws : List Want) (x : Node) (env : List Pin) (e : Edge) : Prop :=
  (e.name ∈ ws.map Want.name ∨ e.name ∈ x.ctx.map Pin.name) ∧ ∃ y, g[e.to.toNat]? = some y ∧ ctxRes L over env ⟨y.name, y.v⟩ = some y.ctx
theorem ownOk_step {g : List Node} {x : Node} {l : List Want} {i : Nat} (hi : i < l.length) (h : OwnOk g x (l.take i)) (h1 : (edgeTo g x l[i].name = none → l[i].kind ≠ 1) ∧ ∀ y, edgeTo g x l[i].name = some y → spansIn l[i].range y.v = true) : OwnOk g x (l.take (i + 1)) := fun w hw => by
  rw [List.take_succ_eq_append_getElem hi] at hw
  rcases List.mem_append.1 hw with hw | hw
  · exact h w hw
  · rw [List.mem_singleton] at hw; subst hw; exact h1
theorem ctxOk_step {g : List Node} {x : Node} {l : List Pin} {i : Nat} (hi : i < l.length) (h : CtxOk g x (l.take i)) (h1 : ∃ y, edgeTo g x l[i].name = some y ∧ y.v = l[i].v) : CtxOk g x (l.take (i + 1)) := fun w hw => by
  rw [List.take_succ_eq_append_getElem hi] at hw
  rcases List.mem_append.1 hw with hw | hw
  · exact h w hw
  · rw [List.mem_singleton] at hw; subst hw; exact h1
set_option maxHeartbeats 8000000 in
theorem sound_se {s o : Sl} {g : List Node} {ws : List Want} {k : Nat} {x : Node} {S T SC SM : Nat → Prop} {p : Addr} {r : Nat} {L : List Pack} {m : Mani} {mD mDev mOpt mOv : Sl} {w : World} {R : Bool → World → Prop}
    (hS : Old S w) (hs : SlR nodeE w S s g) (hk : g[k]? = some x) (hT : Old T w) (ho : SlR wantE w T o ws) (hC : CatL w SC p r L) (hSM : Old SM w) (hO : SlR depE w SM mOv m.over) (hto : ∀ e ∈ x.edges, ToR g e) (hrc : Rises x.ctx) (hb : x.edges.length ≤ 1000)
    (hkind : ∀ w ∈ ws, w.kind ≠ 0) (hR : ∀ (b : Bool) w', Ext w w' → (b = true ↔ SoundAt L m.over g ws x) → R b w') : SE.graph_sound s (k : Int) o (some p) mD mDev mOpt mOv w R := by
  unfold SE.graph_sound
  have hsl := hs.len
  have hol := ho.len
  have hv : ToOk g x := fun e he => by
    obtain ⟨j, y, h1, h2, h3, _⟩ := hto e he
    have := (List.getElem?_eq_some_iff.1 h3).1
    omega
  obtain ⟨hkl, hgx⟩ := List.getElem?_eq_some_iff.1 hk
  obtain ⟨ad, c, e, ha, _, hcx, he, hc⟩ := nodeEl hs hkl
  rw [hgx] at hcx he hc
  have hcl := hcx.len
  have hel := he.len
  have hbad : ∀ w', Ext w w' → ¬ SoundAt L m.over g ws x → R false w' := fun w' hx h => hR false w' hx ⟨(fun h => by cases h), fun hf => absurd hf h⟩
  refine newS.intro fun a w1 x1 hb1 hab1 _ => newS.intro fun a1 w2 x2 hb2 hab2 _ => ⟨s, hb1.at0 (r := []) x2 rfl, ad, ⟨ha, by omega, by omega⟩, _, _, _, _, _, _, hc _ (x1.trans x2), newS.set rfl fun a4 w3 x3 hb3 hab3 => ?_⟩
  refine makeMap_intro (K := strV) fun mp w4 x4 hmp hM => ⟨some mp, rfl, ?_⟩
  have hNM : NM w4 mp [] := ⟨[], hM, fun _ => by simp, fun _ h => by cases h⟩
  have x04 : Ext w w4 := x1.trans (x2.trans (x3.trans x4))
  have s03 := (x1.trans (x2.trans x3)).size
  have s3 := x3.size; have s2 := x2.size; have s1 := x1.size
  have b1l := hb1.lt; have b2l := hb2.lt; have b3l := hb3.lt
  have hm3 : w3.heap.size ≤ mp := by omega
  have KA : ∀ w', Ext w3 w' → BoxAt w' a [s.v] ∧ BoxAt w' a1 [mD.v, mDev.v, mOpt.v, mOv.v] ∧ BoxAt w' a4 [.string x.name, .int .i64 x.v.ma, .int .i64 x.v.mi, .int .i64 x.v.pa, c.v, e.v] := fun w' hx => ⟨hb1.ext (x2.trans (x3.trans hx)), hb2.ext (x3.trans hx), hb3.ext hx⟩
  have x03 : Ext w w3 := x1.trans (x2.trans x3)
  refine loop1.up ho.max (fun i w' => Ext w3 w' ∧ NM w' mp ((ws.take i).map Want.name) ∧ OwnOk g x (ws.take i)) ⟨x4, hNM, fun _ h => by cases h⟩ fun i w5 nxt hi ⟨x5, hN5, hI⟩ hn => ⟨fun hlt => ?_, fun hge => ?_⟩
  · have hlt' : i < ws.length := by omega
    obtain ⟨aw, t, haw, _, hwn, hwr, hcw⟩ := wantEl ho hlt'
    have hmem : ws[i] ∈ ws := List.getElem_mem hlt'
    have hbadW : ∀ w', Ext w w' → ¬ ((edgeTo g x ws[i].name = none → ws[i].kind ≠ 1) ∧ ∀ y, edgeTo g x ws[i].name = some y → spansIn ws[i].range y.v = true) → R false w' := fun w' hx h => hbad w' hx fun hs => h (hs.own _ hmem)
    have hgood := fun h => hn hlt' (w'' := h)
    have hkz := hkind _ hmem
    have hstep := ownOk_step hlt' hI
    have hnames : (ws.take (i + 1)).map Want.name = (ws.take i).map Want.name ++ [ws[i].name] := by rw [List.take_succ_eq_append_getElem hlt', List.map_append]; rfl
    have x05 := x03.trans x5
    refine ⟨aw, ⟨haw, by omega, hlt⟩, _, _, t, hcw _ x05, newS.set rfl fun a12 w6 x6 hb6 hab6 => ⟨_, hb6.at0 (Ext.refl _) rfl, _, hb6.at1 (k := 1) (Ext.refl _) rfl, ?_⟩⟩
    have hN5l := hN5.lt
    refine (hN5.ext x6).put ws[i].name hkz fun w7 b7 hs7 hN7 => ?_
    have x37 : Ext w3 w7 := b7.ext (x5.trans x6) hm3
    have hb7 := b7.box hb6 (by omega)
    have x07 := x03.trans x37
    rw [← hnames] at hN7
    refine ⟨s, (KA _ x37).1.ldc.pre (r := []) rfl, _, hb7.at0 (Ext.refl _) rfl, ?_⟩
    have fin : ∀ w', Ext w7 w' → ((edgeTo g x ws[i].name = none → ws[i].kind ≠ 1) ∧ ∀ y, edgeTo g x ws[i].name = some y → spansIn ws[i].range y.v = true) → nxt (wrapI ((i : Int) + 1)) w' := fun w' hx h => hn hlt' w' ⟨x37.trans hx, hN7.ext hx, hstep h⟩
    clear hn hgood hstep
    refine SE.graph_edge.go (edge_se (hs.ext x07) hk hv (fun y cy ey w8 x8 hy => ⟨_, _, _, _, cy, ey, true, rfl, ?_⟩) fun w8 x8 hy => ⟨_, _, _, _, _, _, false, rfl, ?_⟩)
    · refine newS.set rfl fun a22 w9 x9 hb9 _ => bound ⟨ws[i].kind, (fun h => by cases h), bound ⟨t, fun _ => (hb7.ext (x8.trans x9)).at1 (k := 2) (r := []) (Ext.refl _) rfl, _, _, _, fun _ => hb9.at1 (k := 1) (Ext.refl _) rfl, ?_⟩⟩
      have x79 := x8.trans x9
      refine gCall.intro (spansIn ws[i].range y.v) (fun _ q hq => SE.span_In.go (spanIn_se ((hwr.ext x07).ext x79) fun w10 x10 => ⟨_, rfl, hq w10 x10⟩)) fun t67 w10 x10 ht => ?_
      have htt : t67 = spansIn ws[i].range y.v := ht rfl
      have hiff : ((edgeTo g x ws[i].name = none → ws[i].kind ≠ 1) ∧ ∀ y, edgeTo g x ws[i].name = some y → spansIn ws[i].range y.v = true) ↔ t67 = true := by
        rw [hy, htt]
        exact ⟨fun h => h.2 y rfl, fun h => ⟨(fun h => by cases h), fun z hz => by cases hz; exact h⟩⟩
      refine ⟨fun hq => hbadW w10 (x07.trans (x79.trans x10)) fun h => ?_, fun hq => fin w10 (x79.trans x10) (hiff.2 (by simpa using hq))⟩
      rw [hiff.1 h] at hq; cases hq
    · refine newS.set rfl fun a22 w9 x9 hb9 _ => bound ⟨ws[i].kind, fun _ => (hb7.ext (x8.trans x9)).at1 (k := 1) (Ext.refl _) rfl, bound ⟨t, fun _ => (hb7.ext (x8.trans x9)).at1 (k := 2) (r := []) (Ext.refl _) rfl, _, _, _, fun _ => hb9.at1 (k := 1) (Ext.refl _) rfl, ?_⟩⟩
      have x79 := x8.trans x9
      have hiff : ((edgeTo g x ws[i].name = none → ws[i].kind ≠ 1) ∧ ∀ y, edgeTo g x ws[i].name = some y → spansIn ws[i].range y.v = true) ↔ ws[i].kind ≠ 1 := by
        rw [hy]
        exact ⟨fun h => h.1 rfl, fun h => ⟨fun _ => h, fun z hz => by cases hz⟩⟩
      refine ⟨fun h => by simp at h, fun _ => ⟨fun hq => hbadW w9 (x07.trans x79) fun h => ?_, fun hq => fin w9 x79 (hiff.2 fun h => ?_)⟩⟩
      · have := hiff.1 h
        simp at hq; exact this hq
      · rw [h] at hq; cases hq
  · rw [List.take_of_length_le (by omega)] at hI hN5
    have x05 := x03.trans x5
    refine ⟨c, (KA _ x5).2.2.at1 (k := 4) (Ext.refl _) rfl, ?_⟩
    refine loop1.up hcx.max (fun i w' => Ext w3 w' ∧ NM w' mp (ws.map Want.name ++ (x.ctx.take i).map Pin.name) ∧ CtxOk g x (x.ctx.take i)) ⟨x5, by simpa using hN5, fun _ h => by cases h⟩ fun i w6 nxt hi6 ⟨x6, hN6, hI6⟩ hn => ⟨fun hlt => ?_, fun hge6 => ?_⟩
    · have hlt' : i < x.ctx.length := by omega
      obtain ⟨ap, hap, _, hpn, hcp⟩ := pinEl hcx hlt'
      have hmem : x.ctx[i] ∈ x.ctx := List.getElem_mem hlt'
      have hbadP : ∀ w', Ext w w' → ¬ (∃ y, edgeTo g x x.ctx[i].name = some y ∧ y.v = x.ctx[i].v) → R false w' := fun w' hx h => hbad w' hx fun hs => h (hs.ctx _ hmem)
      have hstep := ctxOk_step hlt' hI6
      have hnames : ws.map Want.name ++ (x.ctx.take (i + 1)).map Pin.name = (ws.map Want.name ++ (x.ctx.take i).map Pin.name) ++ [x.ctx[i].name] := by rw [List.take_succ_eq_append_getElem hlt', List.map_append, List.append_assoc]; rfl
      have x06 := x03.trans x6
      refine ⟨ap, ⟨hap, by omega, hlt⟩, _, _, _, _, hcp _ x06, newS.set rfl fun a38 w7 x7 hb7 hab7 => ⟨_, hb7.at0 (Ext.refl _) rfl, ?_⟩⟩
      have hN6l := hN6.lt
      refine (hN6.ext x7).put x.ctx[i].name (v := 1) (by decide) fun w8 b8 hs8 hN8 => ?_
      have x38 : Ext w3 w8 := b8.ext (x6.trans x7) hm3
      have hb8 := b8.box hb7 (by omega)
      have x08 := x03.trans x38
      rw [← hnames] at hN8
      refine ⟨s, (KA _ x38).1.ldc.pre (r := []) rfl, _, hb8.at0 (Ext.refl _) rfl, ?_⟩
      have fin : ∀ w', Ext w8 w' → (∃ y, edgeTo g x x.ctx[i].name = some y ∧ y.v = x.ctx[i].v) → nxt (wrapI ((i : Int) + 1)) w' := fun w' hx h => hn hlt' w' ⟨x38.trans hx, hN8.ext hx, hstep h⟩
      clear hn hstep
      refine SE.graph_edge.go (edge_se (hs.ext x08) hk hv (fun y cy ey w9 x9 hy => ⟨_, _, _, _, cy, ey, true, rfl, ?_⟩) fun w9 x9 hy => ⟨_, _, _, _, _, _, false, rfl, ?_⟩)
      · refine newS.set rfl fun a48 w10 x10 hb10 _ => bound ⟨_, _, _, fun _ => hb10.at1 (k := 1) (Ext.refl _) rfl, _, _, _, fun _ => (hb8.ext (x9.trans x10)).at1 (k := 1) (r := []) (Ext.refl _) rfl, ?_⟩
        have ev : ((y.v.ma == x.ctx[i].v.ma) && ((y.v.mi == x.ctx[i].v.mi) && ((y.v.pa == x.ctx[i].v.pa) && true))) = decide (y.v = x.ctx[i].v) := verB
        rw [ev]
        refine ⟨fun hq => hbadP w10 (x08.trans (x9.trans x10)) fun ⟨z, hz, hzv⟩ => ?_, fun hq => fin w10 (x9.trans x10) ⟨y, hy, by simpa using hq⟩⟩
        rw [hy] at hz; cases hz
        rw [decide_eq_true hzv] at hq; cases hq
      · refine newS.set rfl fun a48 w10 x10 hb10 _ => bound ⟨0, 0, 0, (fun h => by cases h), 0, 0, 0, (fun h => by cases h), fun hq => hbadP w10 (x08.trans (x9.trans x10)) fun ⟨z, hz, _⟩ => ?_, fun hq => by cases hq⟩
        rw [hy] at hz; cases hz
    · rw [List.take_of_length_le (by omega)] at hI6 hN6
      have x06 := x03.trans x6
      refine ⟨s, (KA _ x6).1.ldc.pre (r := []) rfl, ?_⟩
      have hcb : x.ctx.length ≤ x.edges.length := by
        have := nodup_le hrc.nodup (m := x.edges.map Edge.name) fun n hn => by
          obtain ⟨q, hq, rfl⟩ := List.mem_map.1 hn
          obtain ⟨y, hy, _⟩ := hI6 q hq
          obtain ⟨ed, h1, h2, _⟩ := edgeTo_some hy
          exact List.mem_map.2 ⟨ed, h1, h2⟩
        simpa using this
      refine SE.graph_environment.go (environment_se (hS.ext x06.size) (hs.ext x06) hk hv hrc.nodup (by omega) (fun env t w7 henv x7 hfl hstr => ⟨t, true, rfl, (fun h => by cases h), fun _ => ?_⟩) fun w7 henv x7 => ⟨_, false, rfl, fun _ => hbad w7 (x06.trans x7) fun hs => ?_, (fun h => by cases h)⟩)
      · refine ⟨e, (KA _ (x6.trans x7)).2.2.at1 (k := 5) (r := []) (Ext.refl _) rfl, ?_⟩
        have x07 := x06.trans x7
        have hpins := hfl.pins hstr
        refine loop1.up he.max (fun i w' => Ext w7 w' ∧ ∀ ed ∈ x.edges.take i, EdgeOk L m.over g ws x env ed) ⟨Ext.refl _, fun _ h => by cases h⟩ fun i w8 nxt hi8 ⟨x8, hI8⟩ hn => ⟨fun hlt => ?_, fun hge8 => ?_⟩
        · have hlt' : i < x.edges.length := by omega
          obtain ⟨ae, hae, hce⟩ := edgeEl he hlt'
          have hmem : x.edges[i] ∈ x.edges := List.getElem_mem hlt'
          have hbadE : ∀ w', Ext w w' → ¬ EdgeOk L m.over g ws x env x.edges[i] → R false w' := fun w' hx h => hbad w' hx fun hs => by
            obtain ⟨env', h1, h2⟩ := hs.env
            rw [henv] at h1
            cases h1
            exact h (h2 _ hmem)
          have fin : ∀ w', Ext w7 w' → EdgeOk L m.over g ws x env x.edges[i] → nxt (wrapI ((i : Int) + 1)) w' := fun w' hx h => hn hlt' w' ⟨hx, fun ed hed => by
            rw [List.take_succ_eq_append_getElem hlt'] at hed
            rcases List.mem_append.1 hed with hed | hed
            · exact hI8 ed hed
            · rw [List.mem_singleton] at hed; subst hed; exact h⟩
          clear hn
          obtain ⟨j, y, e1, e2, e3, e4⟩ := hto _ hmem
          obtain ⟨hjl, hgj⟩ := List.getElem?_eq_some_iff.1 e3
          obtain ⟨ad5, c5, g5, ha5, hyn, hyc, _, hc5⟩ := nodeEl hs hjl
          rw [hgj] at hyn hyc hc5
          have etn : x.edges[i].to.toNat = j := by omega
          generalize x.edges[i] = ed at *
          have x08 := x07.trans x8
          refine ⟨ae, ⟨hae, by omega, hlt⟩, _, _, hce _ x08, newS.set rfl fun a64 w9 x9 hb9 _ => ⟨s, (KA _ (x6.trans (x7.trans (x8.trans x9)))).1.ldc.pre (r := []) rfl, _, hb9.at1 (k := 1) (r := []) (Ext.refl _) rfl, ad5, ⟨ha5, by omega, by omega⟩, y.name, y.v.ma, y.v.mi, y.v.pa, c5, g5, by rw [etn]; exact hc5 _ (x08.trans x9), newS.set rfl fun a72 w10 x10 hb10 _ => ?_⟩⟩
          have x010 := x08.trans (x9.trans x10)
          refine ⟨mD, mDev, mOpt, mOv, (KA _ (x6.trans (x7.trans (x8.trans (x9.trans x10))))).2.1.ldc.pre (r := []) rfl, _, hb10.at0 (Ext.refl _) rfl, _, _, _, hb10.at1 (k := 1) (Ext.refl _) rfl, ?_⟩
          have x710 := x8.trans (x9.trans x10)
          have hmid : ∀ (t130 : Sl) (ok : Bool) w11, Ext w10 w11 → (ok = true → ∃ S', ∃ a, ctxRes L m.over env ⟨y.name, y.v⟩ = some a ∧ SlR pinE w11 S' t130 a) → (ok = false → ctxRes L m.over env ⟨y.name, y.v⟩ = none) → ∃ (t135 : ByteArray), (ldc w11 a64 [(Value.string t135)]) ∧ semS Tryz.prog (Instr.lookup 178 (Value.map (some mp)) (Value.string t135) false) w11 fun v83 vw82 => ∃ (t136 : Int), v83 = (Value.int .i64 t136) ∧ bnd (t136 == 0) fun (b84 : Bool) => bnd (b84 || (!ok)) fun (b85 : Bool) => ∃ (t145 : Sl), grd (!b85) (ldc vw82 (a72.add 4) [(Sl.v t145)]) ∧ gCall (!b85) (fun (t146 : Bool) (vw87 : World) => (((b85 || (!t146)) = true → R false vw87) ∧ ((b85 || (!t146)) = false → nxt (wrapI ((i : Int) + 1)) vw87))) (fun q => callS Tryz.prog 68 [(Sl.v t130), (Sl.v t145)] vw82 fun v88 vw87 => ∃ (t146 : Bool), v88 = (Value.bool t146) ∧ q t146 vw87) (fun q => q false vw82) := by
            intro t130 ok w11 x11 hok1 hok0
            obtain ⟨v, hrun, hv0⟩ := (hN6.ext ((x7.trans x710).trans x11)).look ed.name
            refine ⟨_, (hb9.ext (x10.trans x11)).at0 (Ext.refl _) rfl, _, _, hrun, v, rfl, bound (bound ⟨c5, fun _ => (hb10.ext x11).at1 (k := 4) (Ext.refl _) rfl, ?_⟩)⟩
            have hnm : (v == 0) = true ↔ ¬ (ed.name ∈ ws.map Want.name ∨ ed.name ∈ x.ctx.map Pin.name) := by
              rw [beq_iff_eq, hv0, List.mem_append]
            have hbadT : ((v == 0) || !ok) = true → ¬ EdgeOk L m.over g ws x env ed := fun hq hE => by
              rcases Bool.or_eq_true_iff.1 hq with h | h
              · exact hnm.1 h hE.1
              · obtain ⟨_, z, hz, hzc⟩ := hE
                rw [etn, e3] at hz
                cases hz
                rw [hok0 (by simpa using h)] at hzc; cases hzc
            cases hq : ((v == 0) || !ok) with
            | true =>
              refine ⟨(fun h => by cases h), fun _ => ⟨fun _ => hbadE w11 (x010.trans x11) (hbadT hq), (fun h => by cases h)⟩⟩
            | false =>
              have hok : ok = true := by
                rcases Bool.or_eq_false_iff.1 hq with ⟨_, h⟩
                simpa using h
              obtain ⟨S', l, hl1, hl2⟩ := hok1 hok
              have hin : ed.name ∈ ws.map Want.name ∨ ed.name ∈ x.ctx.map Pin.name := by
                rcases Bool.or_eq_false_iff.1 hq with ⟨h, _⟩
                exact Classical.not_not.1 fun hn => by rw [hnm.2 hn] at h; cases h
              refine ⟨fun _ => SE.slices_Equal_apiPinapiPin.go (eqPins_se hl2 ((hyc.ext x010).ext x11) fun w12 x12 => ⟨_, rfl, fun h => hbadE w12 ((x010.trans x11).trans x12) fun hE => ?_, fun h => fin w12 ((x710.trans x11).trans x12) ⟨hin, y, by rw [etn, e3], ?_⟩⟩), (fun h => by cases h)⟩
              · obtain ⟨_, z, hz, hzc⟩ := hE
                rw [etn, e3] at hz
                cases hz
                rw [hl1] at hzc
                rw [decide_eq_true (Option.some.inj hzc)] at h; cases h
              · have h : decide (l = y.ctx) = true := by simpa using h
                rw [hl1, of_decide_eq_true h]
          refine SE.wants_Context.go (wantsContext_se (S2 := SM) (S3 := fun b => w6.heap.size ≤ b ∧ b < w7.heap.size) (pn := ⟨y.name, y.v⟩) (hC.ext x010) (hSM.ext x010.size) (fun b hb => by have := x710.size; omega) (hO.ext x010) (hpins.ext x710) hyn (fun l t w11 hl x11 hfl' hst' => ⟨t, true, rfl, hmid t true w11 x11 (fun _ => ⟨_, l, hl, hfl'.pins hst'⟩) (fun h => by cases h)⟩) fun w11 hl x11 => ⟨_, false, rfl, hmid _ false w11 x11 (fun h => by cases h) fun _ => hl⟩)
        · rw [List.take_of_length_le (by omega)] at hI8
          exact hR true w8 (x07.trans x8) ⟨fun _ => ⟨hI, hI6, env, henv, hI8⟩, fun _ => rfl⟩
      · obtain ⟨env, h1, _⟩ := hs.env
        rw [henv] at h1; cases h1
end Go.Hal
namespace Go.Hal
open Go Go.RowKit Go.Proofs Go.Shelf
theorem wantsOf_kind {over a b : List Dep} {w : Want} (h : w ∈ wantsOf over a b) : w.kind = 1 ∨ w.kind = 2 := by
  unfold wantsOf at h
  rw [(stSort_perm _).mem_iff, List.mem_append] at h
  rcases h with h | h
  · obtain ⟨d, _, rfl⟩ := List.mem_map.1 h; exact .inl rfl
  · obtain ⟨d, _, rfl⟩ := List.mem_map.1 h; exact .inr rfl
theorem wants_kind {q : Quest} {ns : List Node} {k : Nat} {w : Want} (h : w ∈ q.wants ns k) : w.kind = 1 ∨ w.kind = 2 := by
  unfold Quest.wants wantsK at h
  split at h
  · exact wantsOf_kind h
  · split at h
    · cases h
    · split at h
      · cases h
      · exact wantsOf_kind h
theorem node_edges {g : List Node} {i : Nat} {x : Node} (h : NodeOk g i x) : x.edges.length ≤ g.length := by
  have hn : (x.edges.map fun e => e.to.toNat).Nodup := by
    rw [List.nodup_iff_pairwise_ne, List.pairwise_map, List.pairwise_iff_getElem]
    intro a b ha hb hab he
    have h1 : bLt x.edges[a].name x.edges[b].name = true := List.pairwise_iff_getElem.1 h.rise a b ha hb hab
    obtain ⟨j, y, p1, _, p2, p3⟩ := h.to _ (List.getElem_mem ha)
    obtain ⟨j', y', q1, _, q2, q3⟩ := h.to _ (List.getElem_mem hb)
    have : j = j' := by omega
    subst this
    rw [p2] at q2
    cases q2
    rw [← p3, ← q3, bLt_irrefl] at h1; cases h1
  have := nodup_le hn (m := List.range g.length) fun n hm => by
    obtain ⟨e, he, rfl⟩ := List.mem_map.1 hm
    obtain ⟨j, y, p1, _, p2, _⟩ := h.to e he
    have := (List.getElem?_eq_some_iff.1 p2).1
    rw [List.mem_range]; omega
  simpa using this
theorem wants_at {q : Quest} {g : List Node} {i : Nat} {x : Node} {p : Pack} (hi : i ≠ 0) (hx : g[i]? = some x) (hp : getL q.L x.name x.v = some p) : q.wants g i = wantsOf q.m.over p.deps p.opt := by
  unfold Quest.wants wantsK keyAt
  rw [if_neg hi, List.getElem?_map, hx]
  show (match getL q.L x.name x.v with | none => [] | some p => wantsOf q.m.over p.deps p.opt) = _
  rw [hp]
set_option maxHeartbeats 8000000 in
theorem check_se {s : Sl} {q : Quest} {g : List Node} {S SC SM : Nat → Prop} {p : Addr} {r : Nat} {mD mDev mOpt mOv : Sl} {w : World} {R : Int → World → Prop} (ht : Tab w)
    (hS : Old S w) (hs : SlR nodeE w S s g) (hC : CatL w SC p r q.L) (hSM : Old SM w) (hD : SlR depE w SM mD q.m.deps) (hE : SlR depE w SM mDev q.m.dev) (hP : SlR depE w SM mOpt q.m.opt) (hO : SlR depE w SM mOv q.m.over)
    (hR : ∀ w', Ext w w' → R (checkOf q g) w') : SE.graph_Check s (some p) mD mDev mOpt mOv q.dev w R := by
  unfold SE.graph_Check
  have hsl := hs.len
  refine newS.intro fun a w1 x1 hb1 hab1 _ => newS.intro fun a1 w2 x2 hb2 hab2 _ => bound ⟨mD, mDev, mOpt, mOv, fun _ => hb2.ldc.pre (r := []) rfl, ?_⟩
  have x02 := x1.trans x2
  refine gCall.intro (maniMay q.m) (fun _ k hk => SE.manifest_May.go (maniMay_se (m := q.m) (ht.ext x02) (hSM.ext x02.size) (hD.ext x02) (hE.ext x02) (hP.ext x02) (hO.ext x02) fun w3 x3 => ⟨_, rfl, hk w3 x3⟩)) fun t18 w3 x3 ht18 => ?_
  have ht18 := ht18 rfl
  subst ht18
  have x03 := x02.trans x3
  refine ⟨fun hq => ?_, fun hq => ?_⟩
  · have := hR w3 x03
    have hm : maniMay q.m = false := by simpa using hq
    unfold checkOf at this
    rw [if_neg (by rw [hm]; decide)] at this
    exact this
  have hm : maniMay q.m = true := by simpa using hq
  have hsmall := maniMay_small hm
  have good : Sol q g → ∀ w', Ext w w' → R 0 w' := fun hs w' hx => by
    have := hR w' hx
    unfold checkOf at this
    rw [if_pos hm, if_pos hs] at this
    exact this
  have bad : ¬ Sol q g → ∀ w', Ext w w' → R 33 w' := fun hs w' hx => by
    have := hR w' hx
    unfold checkOf at this
    rw [if_pos hm, if_neg hs] at this
    exact this
  clear hR hq
  have KA : ∀ w', Ext w2 w' → BoxAt w' a [s.v] ∧ BoxAt w' a1 [mD.v, mDev.v, mOpt.v, mOv.v] := fun w' hx => ⟨hb1.ext (x2.trans hx), hb2.ext hx⟩
  refine ⟨s, (KA _ x3).1.ldc.pre (r := []) rfl, SE.graph_formed.go (formed_se (hs.ext x03) fun b w4 x4 hf => ⟨b, rfl, fun hb => ?_, fun hb => ?_⟩)⟩
  · refine bad (fun h => ?_) w4 (x03.trans x4)
    rw [hf.2 h.formed] at hb; cases hb
  have hF : Formed g := hf.1 (by simpa using hb)
  have x04 := x03.trans x4
  have x24 := x3.trans x4
  refine ⟨s, (KA _ x24).1.ldc.pre (r := []) rfl, ?_⟩
  refine loop1.up hs.max (fun i w' => Ext w2 w' ∧ ∀ j x, g[j]? = some x → j < i → (j ≠ 0 → (getL q.L x.name x.v).isSome = true) ∧ SoundAt q.L q.m.over g (q.wants g j) x) ⟨x24, fun j x _ h => by omega⟩ fun i w5 nxt hi ⟨x5, hI⟩ hn => ⟨fun hlt => ?_, fun hge => ?_⟩
  · have hlt' : i < g.length := by omega
    have hgi : g[i]? = some g[i] := List.getElem?_eq_getElem hlt'
    have hno := hF.nodes i _ hgi
    have hedg := node_edges hno
    have hgl := hF.len
    obtain ⟨ad, c, e, ha, hnm, hcx, he, hcn⟩ := nodeEl hs hlt'
    have x05 := x02.trans x5
    have fin : ∀ w', Ext w2 w' → (i ≠ 0 → (getL q.L g[i].name g[i].v).isSome = true) → SoundAt q.L q.m.over g (q.wants g i) g[i] → nxt (wrapI ((i : Int) + 1)) w' := fun w' hx h1 h2 => hn hlt' w' ⟨hx, fun j x hj hji => by
      rcases Nat.lt_succ_iff_lt_or_eq.1 hji with h | h
      · exact hI j x hj h
      · subst h
        rw [hgi] at hj; cases hj
        exact ⟨h1, h2⟩⟩
    refine ⟨ad, ⟨ha, by omega, hlt⟩, _, _, _, _, _, _, hcn _ x05, newS.set rfl fun a11 w6 x6 hb6 hab6 => ?_⟩
    have x26 := x5.trans x6
    have x06 := x02.trans x26
    refine ⟨mD, mDev, mOpt, mOv, (KA _ x26).2.ldc.pre (r := []) rfl, ?_⟩
    refine SE.wants_OfRoot.go (wantsOfRoot_se (m := q.m) (hSM.ext x06.size) (hD.ext x06) (hE.ext x06) (hP.ext x06) (hO.ext x06) (by unfold room; omega) fun t34 w7 x7 hsep => ⟨_, rfl, join.named fun J hJ => ?_⟩)
    have hrt := hsep.read (by rw [wantsOf_len']; have := rootMust_len' q.m q.dev; unfold room; omega)
    have x27 := x26.trans x7
    have x07 := x02.trans x27
    have hJ' : ∀ (T : Nat → Prop) own w', Ext w2 w' → Old T w' → SlR wantE w' T own (q.wants g i) → (i ≠ 0 → (getL q.L g[i].name g[i].v).isSome = true) → J own w' := by
      subst hJ
      intro T own w8 x8 hT hown hthere
      have x08 := x02.trans x8
      refine ⟨s, (KA _ x8).1.ldc.pre (r := []) rfl, mD, mDev, mOpt, mOv, (KA _ x8).2.ldc.pre (r := []) rfl, ?_⟩
      refine SE.graph_sound.go (sound_se (ws := q.wants g i) (m := q.m) (hS.ext x08.size) (hs.ext x08) hgi hT hown (hC.ext x08) (hSM.ext x08.size) (hO.ext x08) (fun ed hed => hno.to ed hed) hno.ctx (by omega) (fun w hw => by rcases wants_kind hw with h | h <;> omega) fun b w9 x9 hb => ⟨b, rfl, fun hq => ?_, fun hq => fin w9 (x8.trans x9) hthere (hb.1 (by simpa using hq))⟩)
      refine bad (fun h => ?_) w9 (x08.trans x9)
      rw [hb.2 (h.nodes i _ hgi)] at hq; cases hq
    clear hJ hn fin
    refine ⟨fun h0 => ?_, fun h0 => ?_⟩
    · have hi0 : i ≠ 0 := by omega
      refine ⟨_, (hb6.ext x7).at0 (Ext.refl _) rfl, _, _, _, (hb6.ext x7).at1 (k := 1) (Ext.refl _) rfl, ?_⟩
      refine SE.catalog_Catalog_Get.go (catGet_se (n := g[i].name) (v := g[i].v) (hC.ext x07) fun d e o w8 x8 _ hd he ho => ⟨_, _, _, _, d, e, o, _, rfl, newS.set rfl fun a31 w9 x9 hb9 _ => ?_⟩)
      have x79 := x8.trans x9
      have x29 := x27.trans x79
      have x09 := x02.trans x29
      cases hget : getL q.L g[i].name g[i].v with
      | none =>
        refine ⟨fun _ => bad (fun h => ?_) w9 x09, (fun h => by cases h)⟩
        have := h.there i _ hgi hi0
        rw [hget] at this; cases this
      | some pk =>
        have hD : getD q.L g[i].name g[i].v = pk := by unfold getD; rw [hget]; rfl
        rw [hD] at hb9 hd ho
        refine ⟨(fun h => by cases h), fun _ => ?_⟩
        obtain ⟨g1, g2, g3⟩ := getD_small hC.good g[i].name g[i].v
        rw [hD] at g1 g2 g3
        refine ⟨_, _, _, _, d, e, o, hb9.ldc.pre (r := []) rfl, mD, mDev, mOpt, mOv, (KA _ x29).2.ldc.pre (r := []) rfl, ?_⟩
        refine SE.wants_Of.go (wantsOf_se (p := pk) (S := fun b => b < w9.heap.size) (fun b h => h) ((hd.dep.ext x9).mono fun b h => by have := x9.size; omega) ((ho.dep.ext x9).mono fun b h => by have := x9.size; omega) ((hO.ext x09).mono fun b h => (hSM.ext x09.size) b h) (by unfold room; omega) fun t50 w10 x10 hsep2 => ⟨_, rfl, ?_⟩)
        have hrt2 := hsep2.read (by rw [wantsOf_len']; unfold room; omega)
        have hw : q.wants g i = wantsOf q.m.over pk.deps pk.opt := wants_at hi0 hgi hget
        rw [← hw] at hrt2
        exact hJ' _ t50 w10 (x29.trans x10) (fun b hb => hb.2) hrt2 fun _ => by rw [hget]; rfl
    · have hi0 : i = 0 := by omega
      have hw : q.wants g i = wantsOf q.m.over (rootMust q.m q.dev) q.m.opt := by subst hi0; rfl
      rw [← hw] at hrt
      exact hJ' _ t34 w7 x27 (fun b hb => hb.2) hrt fun h => absurd hi0 h
  · refine good ⟨hF, fun j x hj h0 => ?_, fun j x hj => ?_⟩ w5 (x02.trans x5)
    · have := (List.getElem?_eq_some_iff.1 hj).1
      exact (hI j x hj (by omega)).1 h0
    · have := (List.getElem?_eq_some_iff.1 hj).1
      exact (hI j x hj (by omega)).2
end Go.Hal
namespace Go.Hal
open Go Go.RowKit Go.Proofs Go.MapKept
theorem eqKeyG (n m : ByteArray) (v u : Ver) (w : World) : (Op.equal 133 (keyV n v) (keyV m u)).run Tryz.prog w = .ok (decide (n = m ∧ v = u)) w := by
  have h : (Op.equalIn (9997 + 3) 133 (keyV n v) (keyV m u)).run Tryz.prog w = .ok ((bEq n m) && (((v.ma == u.ma) && ((v.mi == u.mi) && ((v.pa == u.pa) && true))) && true)) w :=
    (eqS (by kernel_rfl) (by kernel_rfl) (fs := [⟨ "name", 9, 0, false, "", "halyard/graph", 0⟩, ⟨ "version", 45, 1, false, "", "halyard/graph", 16⟩]) (by kernel_rfl) (eqF_cons (x := (Value.string n)) (y := (Value.string m)) rfl (by kernel_rfl) (by kernel_rfl) (run_equalIn_string w _ 9 n m (by kernel_rfl)) (eqF_cons (x := (Value.agg #[(Value.int .i64 v.ma), (Value.int .i64 v.mi), (Value.int .i64 v.pa)])) (y := (Value.agg #[(Value.int .i64 u.ma), (Value.int .i64 u.mi), (Value.int .i64 u.pa)])) rfl (by kernel_rfl) (by kernel_rfl) (eqS (by kernel_rfl) (by kernel_rfl) (fs := [⟨ "Major", 3, 0, false, "", "", 0⟩, ⟨ "Minor", 3, 1, false, "", "", 8⟩, ⟨ "Patch", 3, 2, false, "", "", 16⟩]) (by kernel_rfl) (eqF_cons (x := (Value.int .i64 v.ma)) (y := (Value.int .i64 u.ma)) rfl (by kernel_rfl) (by kernel_rfl) (run_equalIn_int w _ 3 .i64 .i64 v.ma u.ma (by kernel_rfl)) (eqF_cons (x := (Value.int .i64 v.mi)) (y := (Value.int .i64 u.mi)) rfl (by kernel_rfl) (by kernel_rfl) (run_equalIn_int w _ 3 .i64 .i64 v.mi u.mi (by kernel_rfl)) (eqF_cons (x := (Value.int .i64 v.pa)) (y := (Value.int .i64 u.pa)) rfl (by kernel_rfl) (by kernel_rfl) (run_equalIn_int w _ 3 .i64 .i64 v.pa u.pa (by kernel_rfl)) eqF_nil)))) eqF_nil)))
  have e : ((bEq n m) && (((v.ma == u.ma) && ((v.mi == u.mi) && ((v.pa == u.pa) && true))) && true)) = decide (n = m ∧ v = u) := by
    rw [verEqB, Bool.and_true, Bool.eq_iff_iff, Bool.and_eq_true, bEq_iff, decide_eq_true_eq, decide_eq_true_eq]
  rw [e] at h
  exact h
theorem askKeyG (n : ByteArray) (v : Ver) (w : World) : ∀ (l : List MapEntry) (i : Nat), (∀ x ∈ l, isKeyV x.key) → ((∀ x ∈ l, x.key ≠ keyV n v) ∧ (Instr.findAsking 133 (keyV n v) l i).run Tryz.prog w = .ok none w) ∨
    ∃ (j : Nat) (e : MapEntry), l[j]? = some e ∧ e.key = keyV n v ∧ (Instr.findAsking 133 (keyV n v) l i).run Tryz.prog w = .ok (some (i + j, e.val)) w
  | [], i, _ => .inl ⟨by simp, by simp [Instr.findAsking]⟩
  | e :: es, i, h => by
    obtain ⟨m, u, hk⟩ := h e (.head _)
    have hq := eqKeyG n m v u w
    rw [← hk] at hq
    by_cases he : n = m ∧ v = u
    · refine .inr ⟨0, e, rfl, by rw [hk]; exact keyV_inj.2 ⟨he.1.symm, he.2.symm⟩, ?_⟩
      simp only [Instr.findAsking, Sem.run_bind, hq, Result.andThen, decide_eq_true he]
      rfl
    · have hne : e.key ≠ keyV n v := fun q => by
        rw [hk] at q
        have := keyV_inj.1 q
        exact he ⟨this.1.symm, this.2.symm⟩
      have hrun : (Instr.findAsking 133 (keyV n v) (e :: es) i).run Tryz.prog w = (Instr.findAsking 133 (keyV n v) es (i + 1)).run Tryz.prog w := by
        simp only [Instr.findAsking, Sem.run_bind, hq, Result.andThen, decide_eq_false he]
        rfl
      rcases askKeyG n v w es (i + 1) (fun x hx => h x (.tail _ hx)) with ⟨h1, h2⟩ | ⟨j, e', h1, h2, h3⟩
      · exact .inl ⟨fun x hx => by
          cases hx with
          | head => exact hne
          | tail _ hx => exact h1 x hx, by rw [hrun]; exact h2⟩
      · exact .inr ⟨j + 1, e', by simpa using h1, h2, by rw [hrun, h3, show i + 1 + j = i + (j + 1) by omega]⟩
theorem chkKeyG (n : ByteArray) (v : Ver) (e : Bool) (w : World) : (Instr.checkKey e 10000 133 (keyV n v)).run Tryz.prog w = .ok () w := by
  have hs : (Instr.checkKey e 9999 9 (.string n)).run Tryz.prog w = .ok () w := run_checkKey (d := .string) (k := .string n) Tryz.underlying9 trivial e 9998
  unfold keyV
  rw [Instr.checkKey]
  simp only [Sem.run_bind, run_underlying Tryz.underlying133, Result.andThen]
  simp [Sem.run_bind, Result.andThen, part, run_underlying Tryz.underlying9, run_underlying Tryz.underlying45, hs, chkVer v e w]
theorem keyTG : KeyT Tryz.prog 131 isKeyV (.int .i64 0) where
  und := ⟨133, 3, Tryz.underlying131, Tryz.zeroValue3, fun k ⟨n, v, h⟩ e w => by subst h; exact chkKeyG n v e w, fun k ⟨n, v, h⟩ l hl w => by
    subst h
    have hfn : ∀ l : List MapEntry, (Instr.findKey 133 (keyV n v) l).run Tryz.prog w = (Instr.findAsking 133 (keyV n v) l 0).run Tryz.prog w := by
      intro l
      cases l with
      | nil => simp [Instr.findKey, Instr.findNow, Instr.findAsking, run_underlying Tryz.underlying133, Sem.run_bind, Result.andThen]
      | cons e es => simp [Instr.findKey, Instr.findNow, Instr.sameNow, run_underlying Tryz.underlying133, Sem.run_bind, Result.andThen]
    rw [hfn]
    rcases askKeyG n v w l 0 hl with h | ⟨j, e, h1, h2, h3⟩
    · exact .inl h
    · exact .inr ⟨j, e, h1, h2, by rw [Nat.zero_add] at h3; exact h3⟩⟩
  stay := fun k ⟨n, v, h⟩ => by subst h; simp [keyV, Instr.sameBits, Go.MapKept.bytes_beq]
end Go.Hal
namespace Go.Hal
open Go Go.RowKit Go.Proofs Go.Shelf
theorem eqEdges_se {s t : Sl} {a b : List Edge} {S T : Nat → Prop} {w : World} {R : Bool → World → Prop} (hs : SlR edgeE w S s a) (ht : SlR edgeE w T t b) (hR : ∀ w', Ext w w' → R (decide (a = b)) w') : SE.slices_Equal_apiEdgeapiEdge s t w R := by
  unfold SE.slices_Equal_apiEdgeapiEdge
  have h1 := hs.len
  have h2 := ht.len
  refine ⟨fun h => ?_, fun h => ?_⟩
  · have : ¬ a = b := fun e => by subst e; omega
    have h3 := hR w (Ext.refl _)
    rw [decide_eq_false this] at h3; exact h3
  have hll : a.length = b.length := by
    have := Classical.not_not.1 h
    omega
  refine loop1.up hs.max (fun i w' => Ext w w' ∧ a.take i = b.take i) ⟨Ext.refl _, rfl⟩ fun i w1 nxt hi ⟨x1, hI⟩ hn => ⟨fun hlt => bnd.drew fun w2 x2 => ?_, fun hge => ?_⟩
  · have k1 : i < a.length := by omega
    have k2 : i < b.length := by omega
    obtain ⟨ad, ha, hc⟩ := edgeEl hs k1
    obtain ⟨ad2, ha2, hc2⟩ := edgeEl ht k2
    refine ⟨ad, ⟨ha, by omega, hlt⟩, _, _, hc _ (x1.trans x2), ad2, ⟨ha2, by omega, by omega⟩, _, _, hc2 _ (x1.trans x2), ?_⟩
    rw [edgeNe]
    refine ⟨fun h => ?_, fun h => ?_⟩
    · have hne : ¬ a = b := fun e => by subst e; simp at h
      have h3 := hR w2 (x1.trans x2)
      rw [decide_eq_false hne] at h3; exact h3
    · exact hn k1 _ ⟨x1.trans x2, take_step k1 k2 hI (by simpa using h)⟩
  · have : i = a.length := by omega
    subst this
    rw [List.take_length, List.take_of_length_le (by omega)] at hI
    have h3 := hR w1 x1
    rw [decide_eq_true hI] at h3; exact h3
theorem nodeEq {x y : Node} : decide (x = y) = (bEq x.name y.name && decide (x.v = y.v) && decide (x.ctx = y.ctx) && decide (x.edges = y.edges)) := by
  obtain ⟨n, v, c, e⟩ := x
  obtain ⟨n', v', c', e'⟩ := y
  rw [Bool.eq_iff_iff]
  simp only [decide_eq_true_eq, Node.mk.injEq, Bool.and_eq_true, bEq_iff]
  exact ⟨fun ⟨a, b, c, d⟩ => ⟨⟨⟨a, b⟩, c⟩, d⟩, fun ⟨⟨⟨a, b⟩, c⟩, d⟩ => ⟨a, b, c, d⟩⟩
theorem gsame_se {x y : Node} {cx ex cy ey : Sl} {S T : Nat → Prop} {w : World} {R : Bool → World → Prop} (h1 : SlR pinE w S cx x.ctx) (h2 : SlR edgeE w S ex x.edges) (h3 : SlR pinE w T cy y.ctx) (h4 : SlR edgeE w T ey y.edges)
    (hR : ∀ w', Ext w w' → R (decide (x = y)) w') : SE.graph_same x.name x.v.ma x.v.mi x.v.pa cx ex y.name y.v.ma y.v.mi y.v.pa cy ey w R := by
  unfold SE.graph_same
  rw [nodeEq] at hR
  refine newS.intro fun a w1 x1 hb _ _ => newS.intro fun a1 w2 x2 hb2 _ _ => ⟨_, hb.at0 x2 rfl, _, hb2.at0 (Ext.refl _) rfl, bound ⟨_, _, _, fun _ => hb.at1 (k := 1) x2 rfl, _, _, _, fun _ => hb2.at1 (k := 1) (Ext.refl _) rfl, bound ⟨cx, fun _ => hb.at1 (k := 4) x2 rfl, cy, fun _ => hb2.at1 (k := 4) (Ext.refl _) rfl, ?_⟩⟩⟩
  have x02 := x1.trans x2
  have ev : ((x.v.ma == y.v.ma) && ((x.v.mi == y.v.mi) && ((x.v.pa == y.v.pa) && true))) = decide (x.v = y.v) := verB
  rw [ev]
  refine gCall.intro (decide (x.ctx = y.ctx)) (fun _ q hq => SE.slices_Equal_apiPinapiPin.go (eqPins_se (h1.ext x02) (h3.ext x02) fun w' hx => ⟨_, rfl, hq _ hx⟩)) fun t w3 x3 ht => bound ⟨ex, fun _ => hb.at1 (k := 5) (r := []) (x2.trans x3) rfl, ey, fun _ => hb2.at1 (k := 5) (r := []) x3 rfl, ?_⟩
  refine gCall.intro (decide (x.edges = y.edges)) (fun _ q hq => SE.slices_Equal_apiEdgeapiEdge.go (eqEdges_se (h2.ext (x02.trans x3)) (h4.ext (x02.trans x3)) fun w' hx => ⟨_, rfl, hq _ hx⟩)) fun t' w4 x4 ht' => ?_
  have h5 := hR w4 ((x02.trans x3).trans x4)
  cases hg : (bEq x.name y.name && decide (x.v = y.v)) with
  | false => rw [hg] at h5; exact h5
  | true =>
    rw [hg] at h5 ht ht'
    have ht := ht rfl
    subst ht
    cases hc : decide (x.ctx = y.ctx) with
    | false => rw [hc] at h5; exact h5
    | true =>
      rw [hc] at h5 ht'
      have ht' := ht' rfl
      subst ht'
      exact h5
theorem entersSame : Enters Tryz.prog 78 := enters_of Tryz.func78 (by kernel_rfl) rfl
theorem gSame_se {s t : Sl} {a b : List Node} {S T : Nat → Prop} {w : World} {R : Bool → World → Prop} (hs : SlR nodeE w S s a) (ht : SlR nodeE w T t b) (hR : ∀ w', Ext w w' → R (decide (a = b)) w') : SE.graph_Same s t w R := by
  unfold SE.graph_Same
  refine newS.intro fun p w1 x1 hb _ _ => newS.intro fun p1 w2 x2 hb2 _ _ => ⟨s, hb.at0 (r := []) x2 rfl, t, hb2.at0 (r := []) (Ext.refl _) rfl, SE.slices_EqualFunc_apiNodeapiNodeapiNodeapiNode.go ?_⟩
  have x02 := x1.trans x2
  unfold SE.slices_EqualFunc_apiNodeapiNodeapiNodeapiNode
  have h1 := hs.len
  have h2 := ht.len
  have hf : ¬ a = b → ∀ w', Ext w w' → R false w' := fun hne w' hx => by
    have h3 := hR w' hx
    rw [decide_eq_false hne] at h3; exact h3
  refine ⟨fun h => ⟨_, rfl, hf (fun e => by subst e; omega) w2 x02⟩, fun h => ?_⟩
  have hll : a.length = b.length := by
    have := Classical.not_not.1 h
    omega
  refine loop1.up hs.max (fun i w' => Ext w2 w' ∧ a.take i = b.take i) ⟨Ext.refl _, rfl⟩ fun i w3 nxt hi ⟨x3, hI⟩ hn => ⟨fun hlt => ?_, fun hge => ?_⟩
  · have k1 : i < a.length := by omega
    have k2 : i < b.length := by omega
    have x03 := x02.trans x3
    obtain ⟨ad, c, e, ha, _, hc, he, hx⟩ := nodeEl hs k1
    obtain ⟨ad2, c2, e2, ha2, _, hc2, he2, hx2⟩ := nodeEl ht k2
    refine ⟨ad, ⟨ha, by omega, hlt⟩, _, _, _, _, _, _, hx _ x03, newS.set rfl fun a4 w4 x4 hb4 _ => ?_⟩
    refine ⟨ad2, ⟨ha2, by omega, by omega⟩, _, _, _, _, _, _, hx2 _ (x03.trans x4), newS.set rfl fun a5 w5 x5 hb5 _ => ?_⟩
    have x05 := x03.trans (x4.trans x5)
    refine ⟨_, _, _, _, c, e, (hb4.ext x5).ldc.pre (r := []) rfl, _, _, _, _, c2, e2, hb5.ldc.pre (r := []) rfl, _, _, rfl, entersSame, SE.graph_same.go (gsame_se (hc.ext x05) (he.ext x05) (hc2.ext x05) (he2.ext x05) fun w6 x6 => ⟨_, rfl, fun hq => ?_, fun hq => ?_⟩)⟩
    · refine ⟨_, rfl, hf (fun hh => ?_) w6 (x05.trans x6)⟩
      have : a[i] = b[i] := by subst hh; rfl
      rw [decide_eq_true this] at hq; cases hq
    · exact hn k1 w6 ⟨x3.trans (x4.trans (x5.trans x6)), take_step k1 k2 hI (by simpa using hq)⟩
  · have : i = a.length := by omega
    subst this
    rw [List.take_length, List.take_of_length_le (by omega)] at hI
    have h3 := hR w3 (x02.trans x3)
    rw [decide_eq_true hI] at h3; exact ⟨_, rfl, h3⟩
theorem intEl {w : World} {S : Nat → Prop} {s : Sl} {l : List Int} (h : SlR intE w S s l) {n : Nat} (hn : n < l.length) : ∃ ad, s.a = some ad ∧ ∀ w', Ext w w' → ldc w' (ad.add (n * 1)) [.int .i64 l[n]] := by
  obtain ⟨ad, cs, h1, h2, ⟨rfl, _⟩, h4⟩ := h.el hn
  exact ⟨ad, h1, h4⟩
theorem pins1_gr {a b : Pin} {w : World} {R : Int → World → Prop} (hR : ∀ w', Gr w w' → R (cPin a b) w') : SE.graph_Pins_1 a.name a.v.ma a.v.mi a.v.pa b.name b.v.ma b.v.mi b.v.pa w R := by
  unfold SE.graph_Pins_1
  refine newS.gr fun _ w1 x1 hb => newS.gr fun _ w2 x2 hb2 => bnd.gr fun w3 x3 => ?_
  have x13 := x2.trans x3
  refine ⟨_, Gr.at0 hb x13 rfl, _, Gr.at0 hb2 x3 rfl, _, _, _, Gr.at1 hb x13 rfl, _, _, _, Gr.at1 hb2 x3 rfl, ?_⟩
  refine callX.intro (strCmp_k ⟨Ext.refl _, _, rfl, SE.vers_Compare.go (versCompare_gr (a := a.v) (b := b.v) fun w4 x4 => ⟨_, rfl, ?_⟩)⟩)
  exact newS.gr fun _ w5 x5 hb5 => SE.cmp_Or_int.go (cmpOr2_se (box_ints (l := [_, _]) hb5 (by simp)) ⟨_, rfl, hR _ (x1.trans (x13.trans (x4.trans x5)))⟩)
theorem entersPins1 : Enters Tryz.prog 73 := enters_of Tryz.func73 (by kernel_rfl) rfl
theorem sortPinG_k {w : World} {lo : Nat} {s : Sl} {l : List Pin} {K : Value → World → Prop} (h : FlatO pinC 40 w lo s l) (hlo : lo ≤ w.heap.size)
    (hK : ∀ l' w', l'.Perm l → l'.Pairwise (fun x y => ¬ cPin y x < 0) → Below lo w w' → FlatO pinC 40 w' lo s l' → K (.tuple #[]) w') :
    callS Tryz.prog 72 [Sl.v s, .func (.func 73) #[] #[]] w K := by
  obtain ⟨h1, h2, h3, h4, h5⟩ := h
  obtain ⟨a, n, c⟩ := s
  simp only at h1 h2 h3 h5
  subst h1
  rcases h5 with rfl | ⟨g, tail, ha, hg, hr⟩
  · refine (AnyF.slices_SortFunc_none Tryz.laySp a c _ w).mono fun e w' ⟨he, hw⟩ => ⟨_, he, ?_⟩
    subst hw
    exact hK [] _ (List.Perm.refl _) .nil (Below.refl _ _) ⟨rfl, h2, h3, h4, .inl rfl⟩
  · subst ha
    refine sortFunc_k Tryz.laySp (k := 4) isAggP sizeOfP (f := pinC) (fun _ => rfl) (fun x v hv => by simp [pinC] at hv; rcases hv with rfl | rfl | rfl | rfl <;> rfl) cPin (swo_ltOf cPin_ord.flip cPin_ord.trans) 73 #[] entersPins1 (fun w0 x y hb _ => ?_) hr (by unfold room at h4; omega) rfl fun l' w' hp hs b hr' => ?_
    · have h := SE.graph_Pins_1.go (k := fun v w' => v = .int .i64 (cPin x y) ∧ Gr w0 w') (pins1_gr (a := x) (b := y) (w := w0) fun w' h => ⟨rfl, h⟩)
      exact Calls.mono h fun e w' ⟨v, he, hv, hg⟩ => ⟨by rw [he, hv], hg⟩
    · have hl := hp.length_eq
      exact hK l' w' hp hs (b.below hlo hg) ⟨hl.symm, by rw [hl]; exact h2, h3, by rw [hl]; exact h4, .inr ⟨g, tail, rfl, hg, hr'⟩⟩
def kvG (p : Pin × Int) : Value × Value := (keyV p.1.name p.1.v, .int .i64 p.2)
structure PA (w0 : World) (r : Nat) (w' : World) (out : List Pin) (so : Sl) : Prop where
  x : Ext w0 w'
  map : ∃ m : List (Pin × Int), MapR isKeyV w' r (m.map kvG) ∧ m.map (·.1) = out
  own : OwnS pinE 84 w' w0.heap.size None' so out
  ap : ∀ ad, so.a = some ad → ad.block ≠ r
  lr : w0.heap.size ≤ r
section
variable {w0 w w' : World} {r : Nat} {so : Sl} {out : List Pin}
theorem PA.ext (h : PA w0 r w out so) (hx : Ext w w') : PA w0 r w' out so :=
  ⟨h.x.trans hx, by obtain ⟨m, h1, h2⟩ := h.map; exact ⟨m, h1.ext hx, h2⟩, h.own.ext hx, h.ap, h.lr⟩
theorem PA.seen (h : PA w0 r w out so) (p : Pin) : ∃ v : Int, (Instr.lookup 131 (.map (some r)) (keyV p.name p.v) true).run Tryz.prog w = .ok (.tuple #[.int .i64 v, .bool (decide (p ∈ out))]) w := by
  obtain ⟨m, h1, h2⟩ := h.map
  rcases lookup_run keyTG h1 (k := keyV p.name p.v) ⟨_, _, rfl⟩ with ⟨hn, hr⟩ | ⟨v, hin, hr⟩
  · refine ⟨0, ?_⟩
    rw [hr true, decide_eq_false]
    · rfl
    · intro hm
      rw [← h2] at hm
      obtain ⟨q, hq, rfl⟩ := List.mem_map.1 hm
      exact hn (kvG q) (List.mem_map_of_mem hq) rfl
  · obtain ⟨q, hq, he⟩ := List.mem_map.1 hin
    simp only [kvG, Prod.mk.injEq] at he
    obtain ⟨he1, he2⟩ := he
    obtain ⟨e1, e2⟩ := keyV_inj.1 he1
    have hqp : q.1 = p := by
      obtain ⟨⟨a, b⟩, c⟩ := q
      obtain ⟨n, u⟩ := p
      simp only at e1 e2
      rw [e1, e2]
    refine ⟨q.2, ?_⟩
    rw [hr true, decide_eq_true, ← he2]
    · rfl
    · rw [← h2]; exact List.mem_map.2 ⟨q, hq, hqp⟩
theorem PA.put (h : PA w0 r w out so) {p : Pin} {i : Int} (hp : p ∉ out) (hN : Str p.name) (hl : out.length + 1 ≤ 3000000000000) {b : Addr} {l : List Value} (hb : BoxAt w b (.string p.name :: .int .i64 p.v.ma :: .int .i64 p.v.mi :: .int .i64 p.v.pa :: l)) (hbr : b.block ≠ r) {J : Sl → World → Prop}
    (hJ : ∀ so' w', PA w0 r w' (out ++ [p]) so' → J so' w') :
    semU Tryz.prog (Instr.mapUpdate 131 (.map (some r)) (keyV p.name p.v) (.int .i64 i)) w fun vw17 => ∃ (t44 : ByteArray), (ldc vw17 b [(Value.string t44)]) ∧ ∃ (x y z : Int), (ldc vw17 (b.add 1) [(Value.int .i64 x), (Value.int .i64 y), (Value.int .i64 z)]) ∧ newS vw17 [(Value.string t44), (Value.int .i64 x), (Value.int .i64 y), (Value.int .i64 z)] 84 fun a20 vw21 => appS Tryz.prog 26 26 so (Sl.v (Sl.mk (some a20) 1 1)) vw21 fun t49 vw22 => J t49 vw22 := by
  obtain ⟨m, h1, h2⟩ := h.map
  refine update_new keyTG h1 ⟨_, _, rfl⟩ (fun q hq he => ?_) fun w1 b1 hs1 hM => ?_
  · obtain ⟨q', hq', rfl⟩ := List.mem_map.1 hq
    obtain ⟨e1, e2⟩ := keyV_inj.1 he
    refine hp ?_
    rw [← h2]
    refine List.mem_map.2 ⟨q', hq', ?_⟩
    obtain ⟨⟨a, b⟩, c⟩ := q'
    obtain ⟨n, u⟩ := p
    simp only at e1 e2
    rw [e1, e2]
  · have hb1 := b1.box hb hbr
    refine ⟨_, hb1.at0 (Ext.refl _) rfl, _, _, _, hb1.at1 (k := 1) (Ext.refl _) rfl, newS.intro fun a2 w2 x2 hb2 _ _ => ?_⟩
    have x1 : Ext w0 w1 := b1.ext h.x h.lr
    have o1 : OwnS pinE 84 w1 w0.heap.size None' so out := h.own.but b1 (fun h => h) fun ad had => Ne.symm (h.ap ad had)
    have hrl := h1.lt
    have s1 := x1.size
    have s2 := x2.size
    have eb : pinE.bytes = 40 := rfl
    refine (o1.ext x2).push apPin (by omega) (x := p) (S' := None') ⟨rfl, hN⟩ (hb2.ldc.pre (r := []) rfl) (fun _ h => h.elim) (fun _ _ h => h.elim) (by rw [eb]; unfold room; omega) (by rw [maxLen_eq]; omega) fun so' w3 o3 bel3 oth3 reg3 => hJ so' w3 ?_
    have hsz1 : w.heap.size ≤ w1.heap.size := b1.1
    refine ⟨(x1.trans x2).trans' bel3, ⟨m ++ [(p, i)], ?_, ?_⟩, OwnS.flat (fun h => h) o3, fun ad had => ?_, h.lr⟩
    · rw [List.map_append]
      exact (hM.ext x2).of (oth3 r (by omega) fun ad had e => h.ap ad had e.symm)
    · rw [List.map_append, h2]; rfl
    · rcases reg3 ad had with q | q
      · exact h.ap ad q
      · omega
end
set_option maxHeartbeats 4000000 in
theorem gPins_se {s : Sl} {g : List Node} {S : Nat → Prop} {w : World} {R : Sl → World → Prop} (hs : SlR nodeE w S s g)
    (hR : ∀ t l w', Ext w w' → (g ≠ [] → PinsAre g l) → (g = [] → l = []) → SlR pinE w' (fun b => w.heap.size ≤ b ∧ b < w'.heap.size) t l → R t w') : SE.graph_Pins s w R := by
  unfold SE.graph_Pins
  have hsl := hs.len
  have hgm : g.length ≤ 1600000000000 := by
    have := hs.2.2.2.1
    have eb : nodeE.bytes = 88 := rfl
    rw [eb] at this
    unfold room at this; omega
  refine newS.intro fun a w1 x1 hb1 hab1 _ => ⟨s, hb1.ldc.pre (r := []) rfl, fun h0 => ?_, fun h0 => ?_⟩
  · have hg : g = [] := List.eq_nil_of_length_eq_zero (by omega)
    exact hR _ [] w1 x1 (fun h => absurd hg h) (fun _ => rfl) (SlR.nil trivial)
  · have hg : g ≠ [] := fun e => by subst e; exact h0 (by rw [hsl]; rfl)
    have hgl : 0 < g.length := Nat.pos_of_ne_zero fun h => hg (List.eq_nil_of_length_eq_zero h)
    refine makeMap_intro (K := isKeyV) fun r w2 x2 hr2 hM2 => ⟨some r, rfl, s, (hb1.ext x2).ldc.pre (r := []) rfl, ⟨by omega, by omega⟩, ?_⟩
    have x02 := x1.trans x2
    have hc : SlR nodeE w S (Sl.cut s ((1 : Int).toNat) s.len 6) ((g.take s.len).drop 1) := hs.cut (by omega) (by omega)
    rw [hsl, List.take_length] at hc
    have hc : SlR nodeE w S (Sl.cut s ((1 : Int).toNat) s.len 6) (g.drop 1) := by rw [hsl]; exact hc
    generalize Sl.cut s ((1 : Int).toNat) s.len 6 = sc at hc ⊢
    have hcl := hc.len
    have hdl : (g.drop 1).length = g.length - 1 := List.length_drop
    generalize hL : g.drop 1 = L at hc hcl hdl
    have al := hb1.lt
    refine loop2.up hc.max (fun so t w' => ∃ out : List Pin, PA w r w' out so ∧ out.Nodup ∧ (∀ y, y ∈ out ↔ y ∈ (L.take t).map npin) ∧ out.length ≤ t)
      ⟨[], ⟨x02, ⟨[], hM2, rfl⟩, (OwnS.zero w2).lowr (by have := x02.size; omega), (fun ad h => by cases h), by have := x1.size; omega⟩, List.nodup_nil, fun y => by simp, Nat.le_refl _⟩ fun so t w3 nxt ht ⟨out, hA, hnd, hmem, hol⟩ hn => ⟨fun hlt => join.named fun J hJ => ?_, fun hge => ?_⟩
    · have hlt' : t < L.length := by omega
      have hJ' : ∀ so' w' out', PA w r w' out' so' → out'.Nodup → (∀ y, y ∈ out' ↔ y ∈ (L.take (t + 1)).map npin) → out'.length ≤ t + 1 → J so' w' := fun so' w' out' q1 q2 q3 q4 => by
        subst hJ
        exact hn hlt' so' w' ⟨out', q1, q2, q3, q4⟩
      clear hJ hn
      obtain ⟨ad, c, e, ha, hN, _, _, hcn⟩ := nodeEl hc hlt'
      have htk : (L.take (t + 1)).map npin = (L.take t).map npin ++ [npin L[t]] := by rw [List.take_succ_eq_append_getElem hlt', List.map_append]; rfl
      rw [htk] at hJ'
      generalize L[t] = x at *
      refine ⟨ad, ⟨ha, by omega, hlt⟩, _, _, _, _, c, e, hcn _ hA.x, newS.set rfl fun a8 w4 x4 hb4 hab4 => ?_⟩
      refine ⟨_, hb4.at0 (Ext.refl _) rfl, _, _, _, hb4.at1 (k := 1) (Ext.refl _) rfl, ?_⟩
      have hA4 := hA.ext x4
      obtain ⟨v, hrun⟩ := hA4.seen (npin x)
      refine ⟨_, _, hrun, v, _, rfl, fun hq => ?_, fun hq => ?_⟩
      · have hnot : npin x ∉ out := by simpa using hq
        refine ⟨_, hb4.at0 (Ext.refl _) rfl, _, _, _, hb4.at1 (k := 1) (Ext.refl _) rfl, ?_⟩
        refine hA4.put (p := npin x) hnot hN (by omega) hb4 (by obtain ⟨_, q, _⟩ := hA.map; have := q.lt; omega) fun so' w5 hA5 => hJ' so' w5 _ hA5 ?_ (fun y => ?_) (by rw [List.length_append, List.length_singleton]; omega)
        · rw [List.nodup_append]
          refine ⟨hnd, by simp, fun a ha b hb => ?_⟩
          rw [List.mem_singleton] at hb
          subst hb
          exact fun e => hnot (e ▸ ha)
        · rw [List.mem_append, List.mem_append, hmem]
      · have hin : npin x ∈ out := by simpa using hq
        refine hJ' so w4 out hA4 hnd (fun y => ?_) (by omega)
        rw [List.mem_append, ← hmem, List.mem_singleton]
        exact ⟨.inl, fun h => h.elim id fun h => h ▸ hin⟩
    · rw [List.take_of_length_le (by omega), ← hL] at hmem
      have hfl : FlatO pinC 40 w3 w.heap.size so out := FlatO.of (E := pinE) (fun x cs h => h.1) hA.own (by unfold room; omega)
      have hso : ∀ q ∈ out, Str q.name := fun q hq => by
        obtain ⟨x, hx, rfl⟩ := List.mem_map.1 ((hmem q).1 hq)
        obtain ⟨n, hn', rfl⟩ := List.mem_iff_getElem.1 (List.mem_of_mem_drop hx)
        obtain ⟨_, _, _, _, h1, _⟩ := nodeEl hs hn'
        exact h1
      refine sortPinG_k hfl hA.x.size fun l' w4 hp hsort bel4 hfl4 => ⟨rfl, ?_⟩
      refine hR so l' w4 (hA.x.trans' bel4) (fun _ => ⟨.of cPin_ord (fun h => cPin_zero.1 h) (hp.nodup_iff.2 hnd) hsort, fun y => by rw [hp.mem_iff, hmem]⟩) (fun h => absurd h hg) ?_
      exact FlatO.read (E := pinE) hfl4 (fun _ => rfl) fun _ _ x hx => ⟨rfl, hso x (hp.mem_iff.1 hx)⟩
end Go.Hal
namespace Go.Hal
def eM : Mani := ⟨[], [], [], []⟩
def q10 : Quest := ⟨[], eM, true, [], 0, 0⟩
def nodeA : Node := ⟨⟨#[97]⟩, ⟨0, 0, 0⟩, [], []⟩
theorem eM_may : maniMay eM = true := by decide +kernel
theorem sol_one : Sol q10 [rootNode] := by
  have h0 : ∀ (i : Nat) (x : Node), ([rootNode] : List Node)[i]? = some x → i = 0 ∧ x = rootNode := fun i x h => by
    cases i with
    | zero => exact ⟨rfl, by simpa using h.symm⟩
    | succ i => simp at h
  refine ⟨⟨⟨by decide, by decide⟩, ⟨rootNode, rfl, rfl⟩, fun i x h => ?_, by decide⟩, fun i x h hi => absurd (h0 i x h).1 hi, fun i x h => ?_⟩
  · obtain ⟨rfl, rfl⟩ := h0 i x h
    exact ⟨.nil, fun h => absurd rfl h, .nil, fun e he => by cases he⟩
  · obtain ⟨rfl, rfl⟩ := h0 i x h
    refine ⟨fun w hw => ?_, (fun p hp => by cases hp), [], rfl, (fun e he => by cases he)⟩
    have : q10.wants [rootNode] 0 = [] := rfl
    rw [this] at hw; cases hw
theorem not_two : ¬ Sol q10 [rootNode, nodeA] := fun h => by
  have h1 := h.formed.reach
  revert h1
  decide
theorem check_one : checkOf q10 [rootNode] = 0 := by
  unfold checkOf
  rw [if_pos (show maniMay q10.m = true from eM_may), if_pos sol_one]
theorem check_two : checkOf q10 [rootNode, nodeA] = 33 := by
  unfold checkOf
  rw [if_pos (show maniMay q10.m = true from eM_may), if_neg not_two]
end Go.Hal
namespace Go.Hal
inductive All2 {α β : Type} (R : α → β → Prop) : List α → List β → Prop
  | nil : All2 R [] []
  | cons {a : α} {b : β} {l : List α} {m : List β} (h : R a b) (k : All2 R l m) : All2 R (a :: l) (b :: m)
theorem All2.imp {α β : Type} {R S : α → β → Prop} {l : List α} {m : List β} (h : All2 R l m) (hi : ∀ a b, R a b → S a b) : All2 S l m := by
  induction h with
  | nil => exact .nil
  | cons h _ ih => exact .cons (hi _ _ h) ih
theorem All2.left {α β : Type} {R : α → β → Prop} {l : List α} {m : List β} (h : All2 R l m) : ∀ a ∈ l, ∃ b ∈ m, R a b := by
  induction h with
  | nil => intro a h; cases h
  | cons h _ ih =>
    intro x hx
    rcases List.mem_cons.1 hx with rfl | hx
    · exact ⟨_, .head _, h⟩
    · obtain ⟨b, hb, hr⟩ := ih x hx; exact ⟨b, .tail _ hb, hr⟩
theorem All2.map {α β γ : Type} {R : α → β → Prop} {f : α → γ} {g : β → γ} {l : List α} {m : List β} (h : All2 R l m) (hi : ∀ a b, R a b → f a = g b) : l.map f = m.map g := by
  induction h with
  | nil => rfl
  | cons h _ ih => rw [List.map_cons, List.map_cons, hi _ _ h, ih]
theorem All2.filterMap {α β γ : Type} {R : α → β → Prop} {f : α → Option γ} {g : β → γ} {l : List α} {m : List β} (h : All2 R l m) (hi : ∀ a b, R a b → f a = some (g b)) : l.filterMap f = m.map g := by
  induction h with
  | nil => rfl
  | cons h _ ih => rw [List.filterMap_cons, hi _ _ h, List.map_cons, ih]
def pinOf (x : Node) : Pin := ⟨x.name, x.v⟩
def EdgeAt (K : List NKey) (e : Edge) (x : Node) : Prop := e.name = x.name ∧ ∃ j : Nat, e.to = (j : Int) ∧ K[j]? = some x.key
structure NodeSet (q : Quest) (ns : List Node) (i : Nat) (x : Node) : Prop where
  rise : RiseN Edge.name x.edges
  to : ∀ e ∈ x.edges, ∃ (j : Nat) (y : Node), e.to = (j : Int) ∧ 1 ≤ j ∧ ns[j]? = some y ∧ y.name = e.name
  sound : SoundAt q.L q.m.over ns (q.wants ns i) x
structure Hold (q : Quest) (ns : List Node) (k : Nat) : Prop where
  pos : 0 < ns.length
  len : ns.length ≤ q.N
  root : ∃ x, ns[0]? = some x ∧ x.key = rootNode.key
  nodup : (ns.map Node.key).Nodup
  there : ∀ (i : Nat) (x : Node), ns[i]? = some x → i ≠ 0 → (getL q.L x.name x.v).isSome = true
  ctx : ∀ (i : Nat) (x : Node), ns[i]? = some x → Rises x.ctx
  set_ : ∀ (i : Nat) (x : Node), ns[i]? = some x → i < k → NodeSet q ns i x
  led : ∀ j, j ≠ 0 → j < ns.length → ∃ i, i < k ∧ i < j ∧ Leads ns i j
structure EnvP (q : Quest) (ns : List Node) (k : Nat) (dn : List Want) (e : List Pin) : Prop where
  nodup : (e.map (·.name)).Nodup
  ctx : ∀ p ∈ ctxAt ns k, p ∈ e
  from_ : ∀ p ∈ e, p ∈ ctxAt ns k ∨ p.name ∈ dn.map Want.name
  own : ∀ w ∈ dn, (∃ v, (⟨w.name, v⟩ : Pin) ∈ e ∧ spansIn w.range v = true) ∨ (w.kind = 2 ∧ ∀ p ∈ e, p.name ≠ w.name)
section
variable {q : Quest}
theorem pin_one {e : List Pin} (hn : (e.map (·.name)).Nodup) {a b : Pin} (ha : a ∈ e) (hb : b ∈ e) (h : a.name = b.name) : a = b := by
  have h1 := tells_of hn ha
  have h2 := tells_of hn hb
  rw [h, h2] at h1
  obtain ⟨n, v⟩ := a
  obtain ⟨n', v'⟩ := b
  simp only [Option.some.injEq] at h1 h
  rw [h, h1]
theorem EnvP.choose {ns : List Node} {k : Nat} {dn : List Want} {e : List Pin} {w : Want} {o : Option Ver} (h : EnvP q ns k dn e) (hw : w.name ∉ dn.map Want.name) (ho : o ∈ opts (q.cand (ctxAt ns k) w)) : EnvP q ns k (dn ++ [w]) (addO e w.name o) := by
  have old : ∀ e' : List Pin, (∀ p ∈ e, p ∈ e') → (∀ p ∈ e', p ∈ e ∨ p.name = w.name) → ∀ x ∈ dn, (∃ v, (⟨x.name, v⟩ : Pin) ∈ e' ∧ spansIn x.range v = true) ∨ (x.kind = 2 ∧ ∀ p ∈ e', p.name ≠ x.name) := fun e' h1 h2 x hx => by
    rcases h.own x hx with ⟨v, a, b⟩ | ⟨a, b⟩
    · exact .inl ⟨v, h1 _ a, b⟩
    · refine .inr ⟨a, fun p hp => ?_⟩
      rcases h2 p hp with hp | hp
      · exact b p hp
      · rw [hp]; rintro hx'; exact hw (hx' ▸ List.mem_map_of_mem (f := Want.name) hx)
  have fr : ∀ p ∈ e, p ∈ ctxAt ns k ∨ p.name ∈ (dn ++ [w]).map Want.name := fun p hp => (h.from_ p hp).imp id fun h => by rw [List.map_append]; exact List.mem_append_left _ h
  unfold Quest.cand at ho
  cases ht : tells (ctxAt ns k) w.name with
  | some v =>
    rw [ht] at ho
    have hm := h.ctx _ (tells_mem ht)
    unfold opts at ho
    dsimp only at ho
    split at ho
    · rename_i hin
      simp only [List.map_cons, List.map_nil, Bool.false_eq_true, if_false, List.append_nil, List.mem_singleton] at ho
      subst ho
      have ha : e.any (isN w.name) = true := List.any_eq_true.2 ⟨_, hm, by simp [isN]⟩
      have e1 : addO e w.name (some v) = e := by unfold addO; dsimp only; rw [if_pos ha]
      rw [e1]
      refine ⟨h.nodup, h.ctx, fr, fun x hx => ?_⟩
      rcases List.mem_append.1 hx with hx | hx
      · exact old e (fun _ h => h) (fun _ h => .inl h) x hx
      · simp only [List.mem_singleton] at hx; subst hx
        exact .inl ⟨v, hm, hin⟩
    · simp at ho
  | none =>
    rw [ht] at ho
    have hno : ∀ p ∈ e, p.name ≠ w.name := fun p hp hpe => by
      rcases h.from_ p hp with h1 | h1
      · exact tells_none ht p h1 hpe
      · exact hw (hpe ▸ h1)
    unfold opts at ho
    rcases List.mem_append.1 ho with ho | ho
    · obtain ⟨v, hv, rfl⟩ := List.mem_map.1 ho
      have hin : spansIn w.range v = true := by
        unfold cands at hv
        dsimp only at hv
        rcases List.mem_append.1 hv with hv | hv
        · exact (List.mem_filter.1 (List.mem_filter.1 hv).1).2
        · exact (List.mem_filter.1 (List.mem_filter.1 hv).1).2
      have ha : ¬ e.any (isN w.name) = true := fun ha => by
        obtain ⟨p, hp, hq⟩ := List.any_eq_true.1 ha
        exact hno p hp (by simpa [isN] using hq)
      have e1 : addO e w.name (some v) = e ++ [⟨w.name, v⟩] := by unfold addO; dsimp only; rw [if_neg ha]
      rw [e1]
      refine ⟨?_, fun p hp => List.mem_append_left _ (h.ctx p hp), fun p hp => ?_, fun x hx => ?_⟩
      · rw [List.map_append, List.nodup_append]
        refine ⟨h.nodup, by simp, fun a ha b hb => ?_⟩
        obtain ⟨p, hp, rfl⟩ := List.mem_map.1 ha
        simp at hb; subst hb
        exact hno p hp
      · rcases List.mem_append.1 hp with hp | hp
        · exact fr p hp
        · simp only [List.mem_singleton] at hp; subst hp
          right; simp
      · rcases List.mem_append.1 hx with hx | hx
        · refine old _ (fun p hp => List.mem_append_left _ hp) (fun p hp => ?_) x hx
          rcases List.mem_append.1 hp with hp | hp
          · exact .inl hp
          · simp only [List.mem_singleton] at hp; subst hp; exact .inr rfl
        · simp only [List.mem_singleton] at hx; subst hx
          exact .inl ⟨v, by simp, hin⟩
    · dsimp only at ho
      cases hk : decide (w.kind = 2) with
      | true =>
        rw [hk] at ho
        have ho : o ∈ [none] := ho
        simp only [List.mem_singleton] at ho
        subst ho
        have e1 : addO e w.name none = e := rfl
        rw [e1]
        refine ⟨h.nodup, h.ctx, fr, fun x hx => ?_⟩
        rcases List.mem_append.1 hx with hx | hx
        · exact old e (fun _ h => h) (fun _ h => .inl h) x hx
        · simp only [List.mem_singleton] at hx; subst hx
          exact .inr ⟨by simpa using hk, hno⟩
      | false =>
        rw [hk] at ho
        have ho : o ∈ ([] : List (Option Ver)) := ho
        cases ho
structure Grown (k : Nat) (g g' : List Node) : Prop where
  key : ∀ (j : Nat) (x : Node), g[j]? = some x → ∃ x' : Node, g'[j]? = some x' ∧ x'.key = x.key
  same : ∀ j, j < g.length → j ≠ k → g'[j]? = g[j]?
theorem key_eq {x y : Node} (h : x.key = y.key) : x.name = y.name ∧ x.v = y.v ∧ x.ctx = y.ctx := by
  simp only [Node.key, Prod.mk.injEq] at h
  exact h
theorem filterMap_same {α β : Type} {f g : α → Option β} : ∀ {l : List α}, (∀ x ∈ l, f x = g x) → l.filterMap f = l.filterMap g
  | [], _ => rfl
  | a :: r, h => by rw [List.filterMap_cons, List.filterMap_cons, h a (.head _), filterMap_same fun x hx => h x (.tail _ hx)]
theorem NodeSet.grow {k : Nat} {g g' : List Node} (hg : Grown k g g') {i : Nat} {x : Node} (h : NodeSet q g i x) (hi : g[i]? = some x) : NodeSet q g' i x := by
  have tgt : ∀ e ∈ x.edges, ∃ y y', g[e.to.toNat]? = some y ∧ g'[e.to.toNat]? = some y' ∧ y'.key = y.key ∧ y.name = e.name := fun e he => by
    obtain ⟨j, y, h1, h2, h3, h4⟩ := h.to e he
    obtain ⟨y', h5, h6⟩ := hg.key j y h3
    rw [h1, Int.toNat_natCast]
    exact ⟨y, y', h3, h5, h6, h4⟩
  have hw : q.wants g' i = q.wants g i := by
    unfold Quest.wants keyAt
    obtain ⟨x', h1, h2⟩ := hg.key i x hi
    rw [List.getElem?_map, List.getElem?_map, h1, hi, Option.map_some, Option.map_some, h2]
  have hE : ∀ n, (edgeTo g' x n).map Node.key = (edgeTo g x n).map Node.key := fun n => by
    unfold edgeTo
    cases hf : x.edges.find? fun e => decide (e.name = n) with
    | none => rfl
    | some e =>
      obtain ⟨y, y', h1, h2, h3, _⟩ := tgt e (List.mem_of_find?_eq_some hf)
      simp only [Option.bind_some, h1, h2, Option.map_some, h3]
  have hP : envPins g' x = envPins g x := by
    unfold envPins
    refine filterMap_same fun e he => ?_
    obtain ⟨y, y', h1, h2, h3, _⟩ := tgt e he
    rw [h1, h2, Option.map_some, Option.map_some, (key_eq h3).2.1]
  refine ⟨h.rise, fun e he => ?_, ?_⟩
  · obtain ⟨j, y, h1, h2, h3, h4⟩ := h.to e he
    obtain ⟨y', h5, h6⟩ := hg.key j y h3
    exact ⟨j, y', h1, h2, h5, (key_eq h6).1.trans h4⟩
  · rw [hw]
    refine ⟨fun w hw => ?_, fun p hp => ?_, ?_⟩
    · obtain ⟨a, b⟩ := h.sound.own w hw
      refine ⟨fun hn => a ?_, fun y' hy => ?_⟩
      · have := hE w.name
        rw [hn] at this
        cases he : edgeTo g x w.name with
        | none => rfl
        | some y => rw [he] at this; cases this
      · have := hE w.name
        rw [hy] at this
        cases he : edgeTo g x w.name with
        | none => rw [he] at this; cases this
        | some y =>
          rw [he] at this
          simp only [Option.map_some, Option.some.injEq] at this
          rw [(key_eq this).2.1]; exact b y he
    · obtain ⟨y, a, b⟩ := h.sound.ctx p hp
      have := hE p.name
      rw [a] at this
      cases he : edgeTo g' x p.name with
      | none => rw [he] at this; cases this
      | some y' =>
        rw [he] at this
        simp only [Option.map_some, Option.some.injEq] at this
        exact ⟨y', rfl, (key_eq this).2.1.trans b⟩
    · obtain ⟨env, a, b⟩ := h.sound.env
      refine ⟨env, by unfold envOf at a ⊢; rw [hP]; exact a, fun e he => ?_⟩
      obtain ⟨c, y, d, f⟩ := b e he
      obtain ⟨y2, y', h1, h2, h3, _⟩ := tgt e he
      rw [d] at h1
      cases h1
      obtain ⟨k1, k2, k3⟩ := key_eq h3
      exact ⟨c, y', h2, by rw [k1, k2, k3]; exact f⟩
end
end Go.Hal
namespace Go.Hal
def NotFail : Out → Prop
  | .fail _ => False
  | _ => True
section
variable {q : Quest} {g : List Node}
structure NodeFacts (q : Quest) (g : List Node) (i : Nat) (x : Node) (env : List Pin) : Prop where
  rises : Rises env
  mem : ∀ p, p ∈ env ↔ ∃ ed ∈ x.edges, ∃ (j : Nat) (y : Node), ed.to = (j : Int) ∧ 1 ≤ j ∧ g[j]? = some y ∧ y.name = ed.name ∧ p = ⟨ed.name, y.v⟩
  ctx : ∀ p ∈ x.ctx, p ∈ env
  to : ∀ ed ∈ x.edges, ∃ (j : Nat) (y : Node), ed.to = (j : Int) ∧ 1 ≤ j ∧ g[j]? = some y ∧ y.name = ed.name ∧ ctxRes q.L q.m.over env ⟨y.name, y.v⟩ = some y.ctx ∧ (ed.name ∈ (q.wants g i).map Want.name ∨ ed.name ∈ x.ctx.map Pin.name)
  own : ∀ w ∈ q.wants g i, (∃ v, (⟨w.name, v⟩ : Pin) ∈ env ∧ spansIn w.range v = true) ∨ (w.kind ≠ 1 ∧ ∀ p ∈ env, p.name ≠ w.name)
def Within (g ns : List Node) : Prop := ∀ i x, ns[i]? = some x → ∃ j y, g[j]? = some y ∧ y.key = x.key ∧ (i = 0 → j = 0) ∧ (i ≠ 0 → j ≠ 0)
structure Guided (ctx : List Pin) (env : List Pin) (dn : List Want) (e : List Pin) : Prop where
  nodup : (e.map (·.name)).Nodup
  ctx : ∀ p ∈ ctx, p ∈ e
  sub : ∀ p ∈ e, p ∈ env
  own : ∀ w ∈ dn, ∀ v, (⟨w.name, v⟩ : Pin) ∈ env → (⟨w.name, v⟩ : Pin) ∈ e
theorem mem_versOf {L : List Pack} {n : ByteArray} {v : Ver} (h : (getL L n v).isSome = true) : v ∈ versOf n L := by
  obtain ⟨x, hx⟩ := Option.isSome_iff_exists.1 h
  obtain ⟨h1, h2, h3⟩ := getL_some hx
  unfold versOf
  exact List.mem_map.2 ⟨x, List.mem_filter.2 ⟨h1, by simp [hasN, h2]⟩, h3⟩
theorem Guided.choose (hS : Sol q g) {i : Nat} {x : Node} {env : List Pin} (hF : NodeFacts q g i x env) {dn : List Want} {e : List Pin} {w : Want} (h : Guided x.ctx env dn e) (hw : w ∈ q.wants g i) (hk : w.kind = 1 ∨ w.kind = 2) :
    ∃ o ∈ opts (q.cand x.ctx w), Guided x.ctx env (dn ++ [w]) (addO e w.name o) := by
  have keep : ∀ e' : List Pin, (∀ p ∈ e, p ∈ e') → (∀ v, (⟨w.name, v⟩ : Pin) ∈ env → (⟨w.name, v⟩ : Pin) ∈ e') → ∀ y ∈ dn ++ [w], ∀ v, (⟨y.name, v⟩ : Pin) ∈ env → (⟨y.name, v⟩ : Pin) ∈ e' := fun e' h1 h2 y hy v hv => by
    rcases List.mem_append.1 hy with hy | hy
    · exact h1 _ (h.own y hy v hv)
    · simp only [List.mem_singleton] at hy; subst hy; exact h2 v hv
  unfold Quest.cand
  cases ht : tells x.ctx w.name with
  | some u =>
    dsimp only
    have hu : (⟨w.name, u⟩ : Pin) ∈ env := hF.ctx _ (tells_mem ht)
    rcases hF.own w hw with ⟨v, a, b⟩ | ⟨_, b⟩
    · have huv := pin_one hF.rises.nodup hu a rfl
      cases huv
      rw [if_pos b]
      have hme := h.ctx _ (tells_mem ht)
      have ha : e.any (isN w.name) = true := List.any_eq_true.2 ⟨_, hme, by simp [isN]⟩
      refine ⟨some u, by simp [opts], ?_⟩
      have e1 : addO e w.name (some u) = e := by unfold addO; dsimp only; rw [if_pos ha]
      rw [e1]
      exact ⟨h.nodup, h.ctx, h.sub, keep e (fun _ h => h) fun v hv => by rw [pin_one hF.rises.nodup hv hu rfl]; exact hme⟩
    · exact absurd rfl (b _ hu)
  | none =>
    dsimp only
    rcases hF.own w hw with ⟨v, a, b⟩ | ⟨a, b⟩
    · have hth : (getL q.L w.name v).isSome = true := by
        obtain ⟨ed, c1, j, y, d1, d2, d3, d4, d5⟩ := (hF.mem _).1 a
        have := hS.there j y d3 (by omega)
        rw [d4] at this
        simp only [Pin.mk.injEq] at d5
        rw [d5.1, d5.2]; exact this
      have hc : v ∈ cands q.L w.name w.range q.pins := by
        unfold cands
        dsimp only
        have hm : v ∈ (versOf w.name q.L).filter (spansIn w.range) := List.mem_filter.2 ⟨mem_versOf hth, b⟩
        rw [List.mem_append]
        cases hp : pinB q.pins w.name v with
        | true => exact .inl (List.mem_filter.2 ⟨hm, hp⟩)
        | false => exact .inr (List.mem_filter.2 ⟨hm, by rw [hp]; rfl⟩)
      refine ⟨some v, by unfold opts; exact List.mem_append_left _ (List.mem_map_of_mem hc), ?_⟩
      unfold addO
      dsimp only
      by_cases ha : e.any (isN w.name) = true
      · rw [if_pos ha]
        obtain ⟨p, hp, hpn⟩ := List.any_eq_true.1 ha
        simp only [isN, decide_eq_true_eq] at hpn
        refine ⟨h.nodup, h.ctx, h.sub, keep e (fun _ h => h) fun v' hv' => ?_⟩
        rw [← pin_one hF.rises.nodup (h.sub p hp) hv' hpn]; exact hp
      · rw [if_neg ha]
        have hno : ∀ p ∈ e, p.name ≠ w.name := fun p hp he => ha (List.any_eq_true.2 ⟨p, hp, by simp [isN, he]⟩)
        refine ⟨?_, fun p hp => List.mem_append_left _ (h.ctx p hp), fun p hp => ?_, keep _ (fun p hp => List.mem_append_left _ hp) fun v' hv' => ?_⟩
        · rw [List.map_append, List.nodup_append]
          refine ⟨h.nodup, by simp, fun a' ha' b' hb' => ?_⟩
          obtain ⟨p, hp, rfl⟩ := List.mem_map.1 ha'
          simp at hb'; subst hb'
          exact hno p hp
        · rcases List.mem_append.1 hp with hp | hp
          · exact h.sub p hp
          · simp only [List.mem_singleton] at hp; subst hp; exact a
        · have := pin_one hF.rises.nodup a hv' rfl
          cases this
          simp
    · have hk2 : w.kind = 2 := by rcases hk with hk | hk; exact absurd hk a; exact hk
      refine ⟨none, by unfold opts; simp [hk2], ?_⟩
      exact ⟨h.nodup, h.ctx, h.sub, keep e (fun _ h => h) fun v hv => absurd rfl (b _ hv)⟩
end
end Go.Hal
namespace Go.Hal
theorem Rises.hi {l : List Pin} (hr : Rises l) {n : ByteArray} {i : Nat} (hhi : ∀ h : i < l.length, bLt l[i].name n = false) : ∀ q ∈ l.drop i, bLt q.name n = false ∧ (q.name = n → ∃ h : i < l.length, l[i].name = n) := fun q hq => by
  obtain ⟨j, hj, rfl⟩ := List.mem_iff_getElem.1 hq
  rw [List.length_drop] at hj
  rw [List.getElem_drop]
  have hil : i < l.length := by omega
  have h0 := hhi hil
  rcases Nat.eq_zero_or_pos j with rfl | hj0
  · exact ⟨h0, fun h => ⟨hil, h⟩⟩
  · have h1 : bLt l[i].name l[i + j].name = true := List.pairwise_iff_getElem.1 hr i (i + j) hil (by omega) (by omega)
    refine ⟨?_, fun h => ?_⟩
    · cases h2 : bLt l[i + j].name n
      · rfl
      · rw [bLt_trans h1 h2] at h0; cases h0
    · rw [h, h0] at h1; cases h1
structure AtN (l : List Pin) (n : ByteArray) (i : Nat) : Prop where
  le : i ≤ l.length
  lo : ∀ k (h : k < l.length), k < i → bLt l[k].name n = true
  hi : ∀ h : i < l.length, bLt l[i].name n = false
theorem AtN.below {l : List Pin} {n : ByteArray} {i : Nat} (h : AtN l n i) : ∀ q ∈ l.take i, bLt q.name n = true := fun q hq => by
  obtain ⟨j, hj, rfl⟩ := List.mem_iff_getElem.1 hq
  rw [List.length_take] at hj
  rw [List.getElem_take]
  exact h.lo j (by omega) (by omega)
theorem AtN.none {l : List Pin} {n : ByteArray} {i : Nat} (h : AtN l n i) (hr : Rises l) (hne : ∀ h : i < l.length, l[i].name ≠ n) : ∀ q ∈ l, q.name ≠ n := fun q hq e => by
  rw [← List.take_append_drop i l] at hq
  rcases List.mem_append.1 hq with hq | hq
  · have := h.below q hq
    rw [e, bLt_irrefl] at this; cases this
  · obtain ⟨h1, h2⟩ := (hr.hi h.hi q hq).2 e
    exact hne h1 h2
theorem ins_rises {l : List Pin} (hr : Rises l) {p : Pin} {i : Nat} (h : AtN l p.name i) (hne : ∀ h : i < l.length, l[i].name ≠ p.name) : Rises (l.take i ++ p :: l.drop i) := by
  have hno := h.none hr hne
  refine List.pairwise_append.2 ⟨hr.sub (List.take_sublist _ _), List.pairwise_cons.2 ⟨fun q hq => ?_, hr.sub (List.drop_sublist _ _)⟩, fun a ha b hb => ?_⟩
  · have h1 := (hr.hi h.hi q hq).1
    cases h2 : bLt p.name q.name
    · exact absurd (bLt_tri h1 h2) (hno q (List.mem_of_mem_drop hq))
    · rfl
  · have ha' := h.below a ha
    rcases List.mem_cons.1 hb with rfl | hb
    · exact ha'
    · have h1 := (hr.hi h.hi b hb).1
      cases h2 : bLt p.name b.name
      · exact absurd (bLt_tri h1 h2) (hno b (List.mem_of_mem_drop hb))
      · exact bLt_trans ha' h2
theorem ins_sortN {e : List Pin} (hn : (e.map (·.name)).Nodup) {p : Pin} {i : Nat} (h : AtN (sortN e) p.name i) (hne : ∀ h : i < (sortN e).length, (sortN e)[i].name ≠ p.name) :
    (sortN e).take i ++ p :: (sortN e).drop i = sortN (e ++ [p]) ∧ (∀ q ∈ e, q.name ≠ p.name) := by
  have hr := sortN_rises hn
  have hno : ∀ q ∈ e, q.name ≠ p.name := fun q hq => h.none hr hne q ((sortN_perm e).mem_iff.2 hq)
  refine ⟨?_, hno⟩
  have hn2 : ((e ++ [p]).map (·.name)).Nodup := by
    rw [List.map_append, List.nodup_append]
    refine ⟨hn, by simp, fun a ha b hb => ?_⟩
    obtain ⟨q, hq, rfl⟩ := List.mem_map.1 ha
    simp only [List.map_cons, List.map_nil, List.mem_singleton] at hb
    subst hb
    exact hno q hq
  refine (ins_rises hr h hne).one (sortN_rises hn2) ?_
  have h1 : ((sortN e).take i ++ p :: (sortN e).drop i).Perm (p :: sortN e) := by
    have := @List.perm_middle _ p ((sortN e).take i) ((sortN e).drop i)
    rwa [List.take_append_drop] at this
  refine h1.trans (((sortN_perm e).cons p).trans ?_)
  refine List.Perm.trans ?_ (sortN_perm (e ++ [p])).symm
  exact (List.perm_append_singleton p e).symm
theorem addO_eq (e : List Pin) (n : ByteArray) (v : Ver) : addO e n (some v) = if e.any (isN n) then e else e ++ [⟨n, v⟩] := rfl
theorem any_no {e : List Pin} {n : ByteArray} (h : ∀ q ∈ e, q.name ≠ n) : e.any (isN n) = false := by
  rw [List.any_eq_false]
  intro x hx hp
  exact h x hx (by simpa [isN] using hp)
theorem any_yes {e : List Pin} {q : Pin} {n : ByteArray} (h : q ∈ e) (hq : q.name = n) : e.any (isN n) = true := List.any_eq_true.2 ⟨q, h, by simpa [isN] using hq⟩
theorem with_new {e : List Pin} (hn : (e.map (·.name)).Nodup) {p : Pin} {i : Nat} (h : AtN (sortN e) p.name i) (hne : ∀ h : i < (sortN e).length, (sortN e)[i].name ≠ p.name) : (sortN e).take i ++ p :: (sortN e).drop i = sortN (addO e p.name (some p.v)) ∧ addO e p.name (some p.v) = e ++ [p] ∧ e.any (isN p.name) = false := by
  obtain ⟨h1, h2⟩ := ins_sortN hn h hne
  have h3 := any_no h2
  rw [addO_eq, h3]
  exact ⟨h1, rfl, rfl⟩
theorem with_old {e : List Pin} {p : Pin} {i : Nat} (h : i < (sortN e).length) (he : (sortN e)[i].name = p.name) : addO e p.name (some p.v) = e ∧ e.any (isN p.name) = true := by
  have h3 := any_yes ((sortN_perm e).mem_iff.1 (List.getElem_mem h)) he
  rw [addO_eq, h3]
  exact ⟨rfl, rfl⟩
theorem addO_names {e : List Pin} (hn : (e.map (·.name)).Nodup) (n : ByteArray) (o : Option Ver) : ((addO e n o).map (·.name)).Nodup := by
  cases o with
  | none => exact hn
  | some v =>
    rw [addO_eq]
    cases h : e.any (isN n)
    · rw [if_neg (by decide), List.map_append, List.nodup_append]
      refine ⟨hn, by simp, fun a ha b hb => ?_⟩
      obtain ⟨q, hq, rfl⟩ := List.mem_map.1 ha
      simp only [List.map_cons, List.map_nil, List.mem_singleton] at hb
      subst hb
      have := List.any_eq_false.1 h q hq
      simpa [isN] using this
    · rw [if_pos rfl]; exact hn
structure PlaceAt (ns : List Node) (k : NKey) (i : Nat) : Prop where
  one : 1 ≤ i
  le : i ≤ ns.length
  lo : ∀ j (h : j < ns.length), 1 ≤ j → j < i → ns[j].key ≠ k
  hit : ∀ h : i < ns.length, ns[i].key = k
end Go.Hal
namespace Go.Hal
def PinsI (g : List Node) (i : Nat) (out : List Pin) : Prop := StrictL cPin out ∧ ∀ y, y ∈ out ↔ y ∈ ((g.take i).drop 1).map npin
theorem take_drop_succ {α : Type} {l : List α} {i : Nat} (h1 : 1 ≤ i) (hi : i < l.length) : (l.take (i + 1)).drop 1 = (l.take i).drop 1 ++ [l[i]] := by
  rw [List.take_succ_eq_append_getElem hi, List.drop_append_of_le_length (by rw [List.length_take]; omega)]
theorem PinsI.new {g : List Node} {i k : Nat} {out : List Pin} (h : PinsI g i out) (h1 : 1 ≤ i) (hi : i < g.length) (hA : AtC cPin out (npin g[i]) k) (hne : ∀ h : k < out.length, out[k] ≠ npin g[i]) : PinsI g (i + 1) (out.take k ++ npin g[i] :: out.drop k) := by
  refine ⟨hA.ins cPin_ord (fun h => cPin_zero.1 h) h.1 hne, fun y => ?_⟩
  rw [mem_ins, take_drop_succ h1 hi, List.map_append, List.mem_append, h.2 y]
  simp
theorem edgeTo_edge {g : List Node} {x : Node} (hr : RiseN Edge.name x.edges) (hv : ∀ e ∈ x.edges, ∃ (j : Nat) (y : Node), e.to = (j : Int) ∧ 1 ≤ j ∧ g[j]? = some y ∧ y.name = e.name) {e : Edge} (he : e ∈ x.edges) : ∃ y, g[e.to.toNat]? = some y ∧ edgeTo g x e.name = some y := by
  obtain ⟨j, y, h1, _, h2, _⟩ := hv e he
  have : g[e.to.toNat]? = some y := by rw [h1]; exact h2
  exact ⟨y, this, edgeTo_of hr he this⟩
structure EnvI (g : List Node) (x : Node) (names : List ByteArray) (i : Nat) (e : List Pin) : Prop where
  nodup : (e.map (·.name)).Nodup
  mem : ∀ y : Pin, y ∈ e ↔ ∃ n ∈ names.take i, ∃ z, edgeTo g x n = some z ∧ y = ⟨n, z.v⟩
theorem EnvI.start (g : List Node) (x : Node) (names : List ByteArray) : EnvI g x names 0 [] := ⟨List.nodup_nil, fun y => ⟨(fun h => by cases h), fun ⟨n, h, _⟩ => by cases h⟩⟩
theorem EnvI.step {g : List Node} {x z : Node} {names : List ByteArray} {i : Nat} {e : List Pin} (h : EnvI g x names i e) (hi : i < names.length) (hz : edgeTo g x names[i] = some z) : EnvI g x names (i + 1) (addO e names[i] (some z.v)) := by
  refine ⟨addO_names h.nodup _ _, fun y => ?_⟩
  rw [List.take_succ_eq_append_getElem hi, addO_eq]
  have hone : ∀ n ∈ names.take i ++ [names[i]], n ∈ names.take i ∨ n = names[i] := fun n hn => by
    rcases List.mem_append.1 hn with hn | hn
    · exact .inl hn
    · exact .inr (List.mem_singleton.1 hn)
  cases ha : e.any (isN names[i]) with
  | true =>
    obtain ⟨q, hq, hqn⟩ := List.any_eq_true.1 ha
    simp only [isN, decide_eq_true_eq] at hqn
    simp only [if_true]
    rw [h.mem]
    constructor
    · rintro ⟨n, hn, r⟩; exact ⟨n, List.mem_append_left _ hn, r⟩
    · rintro ⟨n, hn, z', hz', rfl⟩
      rcases hone n hn with hn | rfl
      · exact ⟨n, hn, z', hz', rfl⟩
      · obtain ⟨n', hn', z2, hz2, rfl⟩ := (h.mem q).1 hq
        simp only at hqn
        subst hqn
        exact ⟨_, hn', z', hz', rfl⟩
  | false =>
    simp only [Bool.false_eq_true, if_false, List.mem_append, List.mem_singleton]
    rw [h.mem]
    constructor
    · rintro (⟨n, hn, r⟩ | rfl)
      · exact ⟨n, .inl hn, r⟩
      · exact ⟨_, .inr rfl, z, hz, rfl⟩
    · rintro ⟨n, hn | rfl, z', hz', rfl⟩
      · exact .inl ⟨n, hn, z', hz', rfl⟩
      · rw [hz] at hz'; cases hz'; exact .inr rfl
theorem EnvI.done {g : List Node} {x : Node} {e : List Pin} (hr : RiseN Edge.name x.edges) (hv : ∀ e ∈ x.edges, ∃ (j : Nat) (y : Node), e.to = (j : Int) ∧ 1 ≤ j ∧ g[j]? = some y ∧ y.name = e.name) (hc : ∀ p ∈ x.ctx, ∃ y, edgeTo g x p.name = some y ∧ y.v = p.v)
    (h : EnvI g x (x.ctx.map Pin.name ++ x.edges.map Edge.name) (x.ctx.map Pin.name ++ x.edges.map Edge.name).length e) : sortN e = envPins g x := by
  have hrise := envPins_rise (g := g) hr
  refine (sortN_rises h.nodup).eq_of_mem hrise fun y => ?_
  rw [(sortN_perm _).mem_iff, h.mem, List.take_length, mem_envPins]
  constructor
  · rintro ⟨n, _, z, hz, rfl⟩
    obtain ⟨e', he', rfl, h3⟩ := edgeTo_some hz
    exact ⟨e', he', z, h3, rfl⟩
  · rintro ⟨e', he', z, hz, rfl⟩
    exact ⟨e'.name, List.mem_append_right _ (List.mem_map_of_mem he'), z, edgeTo_of hr he' hz, rfl⟩
theorem EnvI.len {g : List Node} {x : Node} {names : List ByteArray} {i : Nat} {e : List Pin} (h : EnvI g x names i e) : e.length ≤ names.length := by
  have := nodup_le h.nodup (m := names.take i) fun n hn => by
    obtain ⟨p, hp, rfl⟩ := List.mem_map.1 hn
    obtain ⟨n', h1, _, _, rfl⟩ := (h.mem p).1 hp
    exact h1
  simp at this; omega
def toOf (x : Node) (n : ByteArray) : Int := match x.edges.find? fun e => decide (e.name = n) with
  | some e => e.to
  | none => -1
theorem toOf_edgeTo {g : List Node} {x : Node} {i : Nat} (hN : NodeOk g i x) {n : ByteArray} {y : Node} (h : edgeTo g x n = some y) : ∃ j : Nat, toOf x n = (j : Int) ∧ 1 ≤ j ∧ g[j]? = some y := by
  unfold edgeTo at h
  unfold toOf
  obtain ⟨e, h1, h2⟩ := Option.bind_eq_some_iff.1 h
  rw [h1]
  obtain ⟨j, z, h3, h4, h5, _⟩ := hN.to e (List.mem_of_find?_eq_some h1)
  exact ⟨j, h3, h4, by rw [h3] at h2; exact h2⟩
end Go.Hal
namespace Go.Hal
open Go Go.RowKit Go.Proofs Go.Shelf
set_option maxHeartbeats 8000000 in
theorem catalogs10_se {SA : Nat → Prop} {sP mD mDev mOpt mOv : Sl} {dv : Bool} {lp : List Pack} {w : World} {R : Option Addr → Option Addr → Bool → World → Prop} (ht : Tab w) (hA : Old SA w) (hP : SlR packE w SA sP lp)
    (hR : ∀ p r q w', Ext w w' → Both w' w.heap.size SA p r q (catOf lp) → R (some p) (some q) true w') : SE.halyardlaw10_World_catalogs sP mD mDev mOpt mOv dv w R := by
  unfold SE.halyardlaw10_World_catalogs
  have hl := hP.len
  refine newS.intro fun a w1 x1 ha _ _ => SE.catalog_New.go (catNew_L fun p r w2 x2 hC h1 h2 => ⟨_, rfl, newS.intro fun q w3 x3 hq hqb _ => ⟨(fun h => by cases h), fun _ => ?_⟩⟩)
  have x03 := x1.trans (x2.trans x3)
  have s1 := x1.size; have s2 := x2.size; have s3 := x3.size
  have hcl := hC.lt
  refine loop1.up hP.max (fun i w' => Ext w w' ∧ BoxAt w' a [Sl.v sP, Sl.v mD, Sl.v mDev, Sl.v mOpt, Sl.v mOv, .bool dv] ∧ a.block < w2.heap.size ∧ Both w' w1.heap.size SA p r q (catOf (lp.take i)))
    ⟨x03, ha.ext (x2.trans x3), by have := ha.lt; omega, ⟨None', hC.ext x3, fun _ h => h.elim, fun h => h⟩, ⟨None', ⟨⟨Sl.nil, hq, SlR.nil trivial⟩, fun h => h, fun _ h => h.elim, GoodL.nil⟩, fun _ h => h.elim, fun h => h⟩, ⟨h1, h2, by omega⟩, by omega, by omega⟩ fun i w4 nxt hi ⟨x4, ha4, hal, hB⟩ hn => ⟨sP, ha4.ldc.pre (r := [_, _, _, _, _]) rfl, fun hlt0 => bnd.drew fun w4' xd => ?_, fun hge => ?_⟩
  · have hlt : i < lp.length := by omega
    have hlt2 : (i : Int) < (sP.len : Int) := by omega
    obtain ⟨ad, d, e, o, hsa, _, hN, hd, he, ho, hc⟩ := packEl hP hlt
    have x4' := x4.trans xd
    have ha4' := ha4.ext xd
    obtain ⟨⟨S, hCa, hSlo, hSq⟩, ⟨T, hRe, hTlo, hTr⟩, ⟨hr1, hp1, hq1⟩, hne1, hne2⟩ := hB.ext xd
    have hcl4 := hCa.lt
    have hql4 : q.block < w4'.heap.size := by obtain ⟨s, hb, _⟩ := hRe.at_; exact hb.lt
    have xd' := xd.size
    have tail : ∀ (k : Value → World → Prop), (∀ w5 (_ : Ext w w5), BoxAt w5 a [Sl.v sP, Sl.v mD, Sl.v mDev, Sl.v mOpt, Sl.v mOv, .bool dv] → (∀ k2 : Value → World → Prop, (∀ w6, nxt (wrapI ((i : Int) + 1)) w6 → k2 (.int .i64 (refPut (catOf (lp.take i)) lp[i]).1) w6) → callS Tryz.prog 38 [.pointer (some q), .agg #[.string lp[i].name, .int .i64 lp[i].v.ma, .int .i64 lp[i].v.mi, .int .i64 lp[i].v.pa, d.v, e.v, o.v]] w5 k2) → k (.int .i64 (refPut (catOf (lp.take i)) lp[i]).1) w5) →
        callS Tryz.prog 16 [.pointer (some p), .agg #[.string lp[i].name, .int .i64 lp[i].v.ma, .int .i64 lp[i].v.mi, .int .i64 lp[i].v.pa, d.v, e.v, o.v]] w4' k := fun k hk => by
      refine SE.catalog_Catalog_Put.go (catPut_L (x := lp[i]) (S2 := SA) (ht.ext x4') hCa hN (hA.ext x4'.size) (hd.ext x4') (he.ext x4') (ho.ext x4') fun S' w5 b5 hC5 hs hs' => ?_)
      have x5 : Ext w w5 := b5.ext x4' (by omega)
      have s5 := b5.1
      have ha5 := b5.box ha4' (by omega)
      have hRe5 : RefR w5 T q (catOf (lp.take i)) := hRe.stay b5.1 fun b hb hb' => b5.2.2.2.2 b hb (by
        rcases hb' with hb' | rfl
        · rintro rfl; exact hTr hb'
        · exact hne2)
      have hSq5 : ¬ S' q.block := fun h => by
        rcases hs' _ h with h | h
        · exact hSq h
        · omega
      have hCl5 := hC5.lt
      have hqA : ¬ SA q.block := fun h => by have := hA _ h; omega
      refine hk w5 x5 ha5 fun k2 hk2 => ?_
      refine SE.halyardref08_Catalog_Put.go (r08Put_se (x := lp[i]) (S2 := SA) hRe5 hN (hA.ext x5.size) hqA (hd.ext x5) (he.ext x5) (ho.ext x5) fun w6 b6 hRe6 => hk2 w6 (hn hlt w6 ?_))
      have x6 : Ext w w6 := b6.ext x5 (by omega)
      have e1 : catOf (lp.take (i + 1)) = (refPut (catOf (lp.take i)) lp[i]).2 := by rw [List.take_succ_eq_append_getElem hlt, catOf_snoc]
      rw [e1]
      have s6 := b6.1
      refine ⟨x6, b6.box ha5 (by omega), hal, ⟨S', hC5.stay b6.1 fun b hb hb' => b6.2.2.2.2 b hb (by
        rcases hb' with hb' | rfl | rfl
        · rintro rfl; exact hSq5 hb'
        · exact Ne.symm hne1
        · exact Ne.symm hne2), fun b hb => ?_, hSq5⟩, ⟨_, hRe6, fun b hb => ?_, fun hb => ?_⟩, ⟨hr1, hp1, hq1⟩, hne1, hne2⟩
      · rcases hs' b hb with h | h
        · exact hSlo b h
        · omega
      · rcases hb with (hb | hb) | hb
        · exact hTlo b hb
        · exact .inl hb
        · right; omega
      · rcases hb with (hb | hb) | hb
        · exact hTr hb
        · have := hA _ hb; omega
        · omega
    clear hn
    refine ⟨sP, ha4'.ldc.pre rfl, ad, ⟨hsa, by omega, hlt2⟩, _, _, _, _, _, _, _, (hc _ x4').pre rfl, ?_, sP, ha4'.ldc.pre rfl, ad, ⟨hsa, by omega, hlt2⟩, ?_, _, _, _, _, _, _, _, (hc _ x4').pre rfl, ?_⟩
    · refine tail _ fun w5 x5 ha5 hk => ⟨_, rfl, sP, ha5.ldc.pre rfl, ad, ⟨hsa, by omega, hlt2⟩, _, _, _, _, _, _, _, (hc _ x5).pre rfl, hk _ fun w6 h6 => ⟨_, rfl, fun h => absurd rfl h, fun _ => h6⟩⟩
    · refine tail _ fun w5 x5 ha5 hk => ⟨_, rfl, _, _, _, _, _, _, _, (hc _ x5).pre rfl, hk _ fun w6 h6 => ⟨_, rfl, fun h => absurd rfl h, fun _ => h6⟩⟩
    · refine tail _ fun w5 x5 ha5 hk => ⟨_, rfl, hk _ fun w6 h6 => ⟨_, rfl, fun h => absurd rfl h, fun _ => h6⟩⟩
  · have : i = lp.length := by omega
    rw [this, List.take_length] at hB
    refine hR p r q w4 x4 ?_
    obtain ⟨⟨S, hCa, hSlo, hSq⟩, ⟨T, hRe, hTlo, hTr⟩, ⟨hr1, hp1, hq1⟩, hne⟩ := hB
    exact ⟨⟨S, hCa, fun b hb => by have := hSlo b hb; omega, hSq⟩, ⟨T, hRe, fun b hb => (hTlo b hb).imp id fun h => by omega, hTr⟩, ⟨by omega, by omega, by omega⟩, hne⟩
theorem gCall.introP {τ : Type} {g : Bool} {w : World} {k : τ → World → Prop} {A : (τ → World → Prop) → Prop} {d : τ} (P : τ → Prop) (hA : g = true → ∀ q : τ → World → Prop, (∀ t w', Ext w w' → P t → q t w') → A q)
    (hk : ∀ t w', Ext w w' → (g = true → P t) → k t w') : gCall g k A (fun q => q d w) :=
  ⟨fun hg => hA hg _ fun t w' hx hp => hk _ _ hx fun _ => hp, fun hg => hk _ _ (Ext.refl _) fun h => by rw [hg] at h; cases h⟩
theorem checkNone_se {s mD mDev mOpt mOv : Sl} {dev : Bool} {w : World} {R : Int → World → Prop} (hR : ∀ w', Ext w w' → R 1 w') : SE.graph_Check s none mD mDev mOpt mOv dev w R := by
  unfold SE.graph_Check
  refine newS.intro fun a w1 x1 hb1 hab1 _ => newS.intro fun a1 w2 x2 hb2 hab2 _ => bound ⟨mD, mDev, mOpt, mOv, fun _ => hb2.ldc.pre (r := []) rfl, ?_⟩
  refine gCall.intro false (fun h => by cases h) fun t18 w3 x3 _ => ⟨fun _ => hR w3 (x1.trans (x2.trans x3)), (fun h => by cases h)⟩
theorem rootNode_rep {w : World} {S : Nat → Prop} : nodeE.rep w S rootNode [.string ⟨#[]⟩, .int .i64 0, .int .i64 0, .int .i64 0, Sl.v Sl.nil, Sl.v Sl.nil] :=
  ⟨by unfold Str rootNode; rw [maxLen_eq]; decide, Sl.nil, Sl.nil, rfl, SlR.nil trivial, SlR.nil trivial⟩
theorem nodeA_rep {w : World} {S : Nat → Prop} : nodeE.rep w S nodeA [.string ⟨#[97]⟩, .int .i64 0, .int .i64 0, .int .i64 0, Sl.v Sl.nil, Sl.v Sl.nil] :=
  ⟨by unfold Str nodeA; rw [maxLen_eq]; decide, Sl.nil, Sl.nil, rfl, SlR.nil trivial, SlR.nil trivial⟩
theorem two_read {w : World} {a : Addr} (hb : BoxAt w a [.string ⟨#[]⟩, .int .i64 0, .int .i64 0, .int .i64 0, Sl.v Sl.nil, Sl.v Sl.nil, .string ⟨#[97]⟩, .int .i64 0, .int .i64 0, .int .i64 0, Sl.v Sl.nil, Sl.v Sl.nil]) : SlR nodeE w (fun b => b = a.block) ⟨some a, 2, 2⟩ [rootNode, nodeA] :=
  ⟨rfl, Nat.le_refl _, by show 2 ≤ maxLen; rw [maxLen_eq]; omega, by decide, .inr ⟨a, rfl, rfl, fun i y hy => by
    match i, hy with
    | 0, hy =>
      simp only [List.getElem?_cons_zero, Option.some.injEq] at hy
      subst hy
      exact ⟨_, rootNode_rep, by rw [Nat.zero_mul]; exact hb.ldc.pre rfl⟩
    | 1, hy =>
      simp at hy
      subst hy
      exact ⟨_, nodeA_rep, hb.ldc.mid (k := 6) (r := []) rfl⟩
    | k + 2, hy => simp at hy⟩⟩
theorem pins_two {l : List Pin} (h : PinsAre [rootNode, nodeA] l) : l.length = 1 := by
  have : l = [npin nodeA] := by
    refine h.one (g := [rootNode, nodeA]) ⟨List.pairwise_singleton _ _, fun y => by simp⟩
  rw [this]; rfl
set_option maxHeartbeats 4000000 in
theorem lives10_se {w : World} {R : Bool → World → Prop} (ht : Tab w) (hR : ∀ w', Ext w w' → R true w') : SE.halyardlaw10_lives w R := by
  unfold SE.halyardlaw10_lives
  refine SE.catalog_New.go (catNew_L fun p r w1 x1 hC h1 _ => ⟨_, rfl, (fun h => by cases h), fun _ => ?_⟩)
  refine newS.intro fun a w2 x2 hb2 _ _ => newS.set rfl fun a2 w3 x3 hb3 _ => newS.intro fun a5 w4 x4 hb4 _ _ => newS.set rfl fun a7 w5 x5 hb5 _ => ?_
  have x15 : Ext w1 w5 := x2.trans (x3.trans (x4.trans x5))
  have x05 := x1.trans x15
  have one : ∀ w', Ext w5 w' → SlR nodeE w' (fun b => None' b ∨ b = a.block) ⟨some a, 1, 1⟩ [rootNode] := fun w' hx => (box_one (E := nodeE) (S := None') hb2 rootNode_rep (by decide)).ext (x3.trans (x4.trans (x5.trans hx)))
  have two : ∀ w', Ext w5 w' → SlR nodeE w' (fun b => b = a5.block) ⟨some a5, 2, 2⟩ [rootNode, nodeA] := fun w' hx => (two_read hb4).ext (x5.trans hx)
  have l2 := hb2.lt; have l4 := hb4.lt
  have s25 : w2.heap.size ≤ w5.heap.size := (x3.trans (x4.trans x5)).size
  have s45 := x5.size
  have o1 : ∀ w', Ext w5 w' → Old (fun b => None' b ∨ b = a.block) w' := fun w' hx b hb => by
    have := hx.size
    rcases hb with hb | rfl
    · exact hb.elim
    · omega
  have o2 : ∀ w', Ext w5 w' → Old (fun b => b = a5.block) w' := fun w' hx b hb => by
    have := hx.size
    subst hb; omega
  have nn : Old None' w5 := fun _ h => h.elim
  have hL : catOf [] = [] := rfl
  have hb3' : ∀ w', Ext w5 w' → ldc w' a2 [Sl.v ⟨some a, 1, 1⟩] := fun w' hx => (hb3.ext (x4.trans (x5.trans hx))).ldc.pre (r := []) rfl
  have hb5' : ∀ w', Ext w5 w' → ldc w' a7 [Sl.v ⟨some a5, 2, 2⟩] := fun w' hx => (hb5.ext hx).ldc.pre (r := []) rfl
  refine ⟨_, hb3' _ (Ext.refl _), SE.graph_Check.go (check_se (q := q10) (ht.ext x05) (o1 _ (Ext.refl _)) (one _ (Ext.refl _)) (hC.ext x15) nn (SlR.nil trivial) (SlR.nil trivial) (SlR.nil trivial) (SlR.nil trivial) fun w6 x6 => ⟨_, rfl, ?_⟩)⟩
  rw [check_one]
  refine bound ⟨_, fun _ => hb5' _ x6, ?_⟩
  refine gCall.intro (33 : Int) (fun _ k hk => SE.graph_Check.go (check_se (q := q10) (ht.ext (x05.trans x6)) (o2 _ x6) (two _ x6) ((hC.ext x15).ext x6) (nn.ext x6.size) (SlR.nil trivial) (SlR.nil trivial) (SlR.nil trivial) (SlR.nil trivial) fun w7 x7 => ⟨_, rfl, by rw [check_two]; exact hk w7 x7⟩)) fun t7 w7 x7 ht7 => ?_
  have ht7 := ht7 rfl
  subst ht7
  have x57 := x6.trans x7
  refine bound ⟨_, fun _ => hb3' _ x57, ?_⟩
  refine gCall.intro (1 : Int) (fun _ k hk => SE.graph_Check.go (checkNone_se fun w8 x8 => ⟨_, rfl, hk w8 x8⟩)) fun t8 w8 x8 ht8 => ?_
  have ht8 := ht8 rfl
  subst ht8
  have x58 := x57.trans x8
  refine bound ⟨_, fun _ => hb5' _ x58, ?_⟩
  refine gCall.introP (fun (t : Sl) => t.len = 1) (fun _ k hk => SE.graph_Pins.go (gPins_se (two _ x58) fun t l w9 x9 h1 _ hs => ⟨_, rfl, hk t w9 x9 (by rw [hs.len]; exact pins_two (h1 (by simp)))⟩)) fun t9 w9 x9 ht9 => ?_
  have ht9 : t9.len = 1 := ht9 rfl
  have x59 := x58.trans x9
  refine bound ⟨_, fun _ => hb3' _ x59, _, fun _ => hb3' _ x59, ?_⟩
  refine gCall.intro true (fun _ k hk => SE.graph_Same.go (gSame_se (one _ x59) (one _ x59) fun w10 x10 => ⟨_, rfl, by rw [decide_eq_true rfl]; exact hk w10 x10⟩)) fun t10 w10 x10 ht10 => ?_
  have e9 : (((t9.len : Nat) : Int) == 1) = true := by rw [ht9]; rfl
  rw [e9] at ht10 ⊢
  have ht10 := ht10 rfl
  subst ht10
  exact hR w10 (x05.trans (x59.trans x10))
end Go.Hal
namespace Go.Hal
open Go Go.RowKit Go.Proofs Go.Shelf
end Go.Hal
namespace Go.Hal
open Go Go.RowKit
structure Rest (S : Nat → Prop) (w w' : World) : Prop where
  size : w.heap.size ≤ w'.heap.size
  out : w'.os = w.os ∧ w'.tape = w.tape ∧ w'.output = w.output
  same : ∀ b, b < w.heap.size → ¬ S b → w'.heap[b]? = w.heap[b]?
section
variable {S T : Nat → Prop} {w w' w2 : World}
end
end Go.Hal
namespace Go.Hal
open Go Go.RowKit Go.Proofs Go.Shelf
def Alike (v v' : Value) : Prop := v' = v ∨ (∃ s s', v = .string s ∧ v' = .string s') ∨ ∃ n n', v = .int .i64 n ∧ v' = .int .i64 n'
theorem Alike.sl {s : Sl} {v : Value} (h : Alike s.v v) : v = s.v := by
  rcases h with h | ⟨_, _, h, _⟩ | ⟨_, _, h, _⟩
  · exact h
  · cases h
  · cases h
theorem Alike.int {n : Int} {v : Value} (h : Alike (.int .i64 n) v) (m : Int) : Alike v (.int .i64 m) := by
  rcases h with rfl | ⟨_, _, h, _⟩ | ⟨_, n', _, rfl⟩
  · exact .inr (.inr ⟨_, _, rfl, rfl⟩)
  · cases h
  · exact .inr (.inr ⟨_, _, rfl, rfl⟩)
structure Wrote (S : Nat → Prop) (w w' : World) : Prop where
  rest : Rest S w w'
  alike : ∀ (b : Nat) (cur : Array Value) (t : TypeId), w.heap[b]? = some (.cells cur t (0, 0)) → ∃ (cur' : Array Value) (t' : TypeId), w'.heap[b]? = some (.cells cur' t' (0, 0)) ∧ cur'.size = cur.size ∧ ∀ (j : Nat) v, cur[j]? = some v → ∃ v', cur'[j]? = some v' ∧ Alike v v'
end Go.Hal
namespace Go.Hal
open Go Go.RowKit Go.Proofs Go.Shelf
end Go.Hal
namespace Go.Hal
open Go Go.RowKit Go.Proofs Go.Shelf
end Go.Hal
namespace Go.Hal
open Go Go.RowKit Go.Proofs Go.Shelf
def fulP (name : ByteArray) (n : Int) (k : Nat) : Pack := ⟨name, verAt (n + k), [], [], []⟩
def fulL (name : ByteArray) (n : Int) : Nat → List Pack
  | 0 => []
  | k + 1 => (refPut (fulL name n k) (fulP name n k)).2
def bareC (name : ByteArray) (v : Ver) : List Value := [.string name, .int .i64 v.ma, .int .i64 v.mi, .int .i64 v.pa, Sl.nil.v, Sl.nil.v, Sl.nil.v]
structure FulI (w0 w : World) (a p : Addr) (r : Nat) (name : ByteArray) (L : List Pack) : Prop where
  ext : Ext w0 w
  cat : ∃ S, CatL w S p r L ∧ ¬ S a.block
  box : ∃ v, BoxAt w a (bareC name v)
end Go.Hal
namespace Go.Hal
open Go Go.RowKit Go.Proofs Go.Shelf
def boolC (b : Bool) : List Value := [.bool b]
end Go.Hal
namespace Go.Hal
open Go Go.RowKit Go.Proofs Go.Shelf
end Go.Hal
namespace Go.Hal
open Go Go.RowKit Go.Proofs Go.Shelf
theorem r09tells_se {s : Sl} {l : List Pin} {n : ByteArray} {S : Nat → Prop} {w : World} {R : Int → Int → Int → Bool → World → Prop} (hs : SlR pinE w S s l)
    (hsome : ∀ v w', tells l n = some v → Ext w w' → R v.ma v.mi v.pa true w') (hnone : ∀ w', tells l n = none → Ext w w' → R 0 0 0 false w') : SE.halyardref09_tells s n w R := by
  unfold SE.halyardref09_tells
  have hl := hs.len
  refine newS.intro fun a w1 x1 ha hab _ => ?_
  refine loop1.up hs.max (fun i w' => Ext w1 w' ∧ (l.take i).find? (isN n) = none) ⟨Ext.refl _, rfl⟩ fun i w2 nxt hi ⟨x2, hI⟩ hn => ⟨fun hlt => ?_, fun hge => ?_⟩
  · have hlt' : i < l.length := by omega
    have x02 := x1.trans x2
    obtain ⟨ad, hsa, _, hN, hc⟩ := pinEl hs hlt'
    refine ⟨ad, ⟨hsa, by omega, hlt⟩, _, (hc _ x02).pre rfl, fun he => ?_, fun he => ?_⟩
    · refine ⟨ad, ⟨hsa, by omega, hlt⟩, l[i].v.ma, l[i].v.mi, l[i].v.pa, (hc _ x02).mid (k := 1) (r := []) rfl, stw0.intro (ha.ext x2) (by simp) fun w5 b5 _ hb5 => ⟨_, _, _, hb5.at0 (r := []) (Ext.refl _) rfl, ?_⟩⟩
      have hf := find_hit (p := isN n) hlt' hI (by simp [isN, he])
      exact hsome l[i].v w5 (by unfold tells; rw [hf]; rfl) (b5.ext x02 (by omega))
    · refine hn hlt' _ ⟨x2, ?_⟩
      rw [take_find_succ hlt' hI, if_neg (by simp [isN, he])]
  · have : i = l.length := by omega
    rw [this, List.take_length] at hI
    refine stw0.intro (ha.ext x2) (by simp) fun w3 b3 _ hb3 => ⟨_, _, _, hb3.at0 (r := []) (Ext.refl _) rfl, hnone w3 (by unfold tells; rw [hI]; rfl) (b3.ext (x1.trans x2) (by omega))⟩
theorem insPins {s : Sl} {L : List Pin} {p : Pin} {i : Nat} {a : Addr} {w : World} {S : Nat → Prop} {K : Sl → World → Prop} (hS : Old S w) (hs : SlR pinE w S s L) (hi : i ≤ L.length) (ha : BoxAt w a (pinC p)) (hN : Str p.name) (hb : L.length ≤ 3000000000000)
    (hK : ∀ t w', Ext w w' → SlR pinE w' (fun b => w.heap.size ≤ b ∧ b < w'.heap.size) t (L.take i ++ p :: L.drop i) → K t w') :
    ((0 : Int) ≤ (i : Int) ∧ (i : Int) ≤ (s.cap : Int)) ∧ appS Tryz.prog 26 26 Sl.nil (Sl.v (Sl.cut s 0 (i : Int).toNat 4)) w fun t42 vw12 => ∃ (n : ByteArray) (x y z : Int), (ldc vw12 a [(Value.string n), (Value.int .i64 x), (Value.int .i64 y), (Value.int .i64 z)]) ∧ newS vw12 [(Value.string n), (Value.int .i64 x), (Value.int .i64 y), (Value.int .i64 z)] 84 fun a14 vw15 =>
      appS Tryz.prog 26 26 t42 (Sl.v (Sl.mk (some a14) 1 1)) vw15 fun t46 vw16 => ((0 : Int) ≤ (i : Int) ∧ (i : Int) ≤ (s.len : Int)) ∧ appS Tryz.prog 26 26 t46 (Sl.v (Sl.cut s (i : Int).toNat s.len 4)) vw16 fun t51 vw18 => K t51 vw18 := by
  have hl := hs.len
  have hcap : L.length ≤ s.cap := hs.2.1
  have eb : pinE.bytes = 40 := rfl
  refine ⟨by omega, ?_⟩
  have hc1 : SlR pinE w S (Sl.cut s 0 i 4) ((L.take i).drop 0) := hs.cut (Nat.zero_le _) hi
  rw [List.drop_zero] at hc1
  have hc2 : SlR pinE w S (Sl.cut s i s.len 4) ((L.take s.len).drop i) := hs.cut (by omega) (by omega)
  rw [hl, List.take_length] at hc2
  have htl : (L.take i).length = i := by rw [List.length_take]; omega
  have hdl : (L.drop i).length = L.length - i := List.length_drop
  rw [Int.toNat_natCast, hl]
  have fresh : ∀ {s' : Sl} {l' : List Pin} {w' : World}, OwnS pinE 84 w' w.heap.size None' s' l' → ∀ ad, s'.a = some ad → ¬ S ad.block := fun o ad h hSb => by
    have := (o.block h).1; have := hS _ hSb; omega
  refine (OwnS.zero (E := pinE) (T := 84) w).appAll apPin (Nat.le_refl _) hc1 hS (fun ad h => by cases h) (by rw [htl, eb]; simp; unfold room; omega) (by rw [htl, maxLen_eq]; simp; omega) fun r1 w1 o1 bel1 _ _ => ?_
  have x1 : Ext w w1 := (Ext.refl w).trans' bel1
  rw [List.nil_append] at o1
  have o1 := OwnS.flat (fun h => h) o1
  refine ⟨_, _, _, _, (ha.ext x1).ldc.pre (r := []) rfl, newS.intro fun a2 w2 x2 hb2 _ _ => ?_⟩
  refine (o1.ext x2).push apPin (x1.trans x2).size (x := p) (S' := None') ⟨rfl, hN⟩ (hb2.ldc.pre (r := []) rfl) (fun _ h => h.elim) (fun _ _ h => h.elim) (by rw [htl, eb]; unfold room; omega) (by rw [htl, maxLen_eq]; omega) fun r2 w3 o2 bel2 _ _ => ?_
  have o2 := OwnS.flat (fun h => h) o2
  have x3 : Ext w w3 := (x1.trans x2).trans' bel2
  refine ⟨by omega, o2.appAll apPin x3.size (hc2.ext x3) (hS.ext x3.size) (fresh o2) (by rw [List.length_append, htl, hdl, eb, List.length_singleton]; unfold room; omega) (by rw [List.length_append, htl, hdl, maxLen_eq, List.length_singleton]; omega) fun r3 w4 o3 bel3 _ _ => ?_⟩
  have o3 := OwnS.flat (fun h => h) o3
  have x4 : Ext w w4 := x3.trans' bel3
  rw [List.append_assoc, List.singleton_append] at o3
  have hlen : (L.take i ++ p :: L.drop i).length = L.length + 1 := by rw [List.length_append, List.length_cons, htl, hdl]; omega
  refine hK r3 w4 x4 ((o3.read (by rw [hlen, eb]; unfold room; omega) (by rw [hlen, maxLen_eq]; omega)).mono fun b hb => ?_)
  rcases hb with hb | ⟨ad, had, rfl⟩
  · exact hb.elim
  · have := o3.block had; exact ⟨this.1, this.2.1⟩
theorem atN_step {L : List Pin} {n : ByteArray} {i : Nat} (hi : i < L.length) (h : ∀ k (h : k < L.length), k < i → bLt L[k].name n = true) (h1 : bLt L[i].name n = true) : ∀ k (h : k < L.length), k < i + 1 → bLt L[k].name n = true := fun k hk hki => by
  rcases Nat.lt_succ_iff_lt_or_eq.1 hki with h2 | h2
  · exact h k hk h2
  · subst h2; exact h1
end Go.Hal
namespace Go.Hal
open Go Go.RowKit Go.Proofs Go.Shelf
theorem r10pins_se {s t : Sl} {a b : List Pin} {S T : Nat → Prop} {w : World} {R : Bool → World → Prop} (hs : SlR pinE w S s a) (ht : SlR pinE w T t b) (hR : ∀ w', Ext w w' → R (decide (a = b)) w') : SE.halyardref10_pins s t w R := by
  unfold SE.halyardref10_pins
  have h1 := hs.len
  have h2 := ht.len
  refine ⟨fun h => ?_, fun h => ?_⟩
  · have : ¬ a = b := fun e => by subst e; omega
    have h3 := hR w (Ext.refl _)
    rw [decide_eq_false this] at h3; exact h3
  have hll : a.length = b.length := by
    have := Classical.not_not.1 h
    omega
  refine loop1.up hs.max (fun i w' => Ext w w' ∧ a.take i = b.take i) ⟨Ext.refl _, rfl⟩ fun i w1 nxt hi ⟨x1, hI⟩ hn => ⟨fun hlt => bnd.drew fun w2 x2 => ?_, fun hge => ?_⟩
  · have k1 : i < a.length := by omega
    have k2 : i < b.length := by omega
    obtain ⟨ad, ha, _, _, hc⟩ := pinEl hs k1
    obtain ⟨ad2, ha2, _, _, hc2⟩ := pinEl ht k2
    refine ⟨ad, ⟨ha, by omega, hlt⟩, _, _, _, _, hc _ (x1.trans x2), ad2, ⟨ha2, by omega, by omega⟩, _, _, _, _, hc2 _ (x1.trans x2), ?_⟩
    rw [pinNe]
    refine ⟨fun h => ?_, fun h => ?_⟩
    · have hne : ¬ a = b := fun e => by subst e; simp at h
      have h3 := hR w2 (x1.trans x2)
      rw [decide_eq_false hne] at h3; exact h3
    · exact hn k1 _ ⟨x1.trans x2, take_step k1 k2 hI (by simpa using h)⟩
  · have : i = a.length := by omega
    subst this
    rw [List.take_length, List.take_of_length_le (by omega)] at hI
    have h3 := hR w1 x1
    rw [decide_eq_true hI] at h3; exact h3
theorem nkeyEq {x y : Node} : decide (x.key = y.key) = (bEq x.name y.name && decide (x.v = y.v) && decide (x.ctx = y.ctx)) := by
  rw [Bool.eq_iff_iff]
  simp only [Node.key, decide_eq_true_eq, Prod.mk.injEq, Bool.and_eq_true, bEq_iff]
  exact ⟨fun ⟨a, b, c⟩ => ⟨⟨a, b⟩, c⟩, fun ⟨⟨a, b⟩, c⟩ => ⟨a, b, c⟩⟩
theorem alike_se {x y : Node} {cx ex cy ey : Sl} {S T : Nat → Prop} {w : World} {R : Bool → World → Prop} (hx : SlR pinE w S cx x.ctx) (hy : SlR pinE w T cy y.ctx) (hR : ∀ w', Ext w w' → R (decide (x.key = y.key)) w') :
    SE.halyardref10_alike x.name x.v.ma x.v.mi x.v.pa cx ex y.name y.v.ma y.v.mi y.v.pa cy ey w R := by
  unfold SE.halyardref10_alike
  rw [nkeyEq] at hR
  refine newS.intro fun a w1 x1 hb _ _ => newS.intro fun a1 w2 x2 hb2 _ _ => ⟨cx, hb.at1 (k := 4) x2 rfl, cy, hb2.at1 (k := 4) (Ext.refl _) rfl, SE.halyardref10_pins.go (r10pins_se (hx.ext (x1.trans x2)) (hy.ext (x1.trans x2)) fun w3 x3 => ⟨_, rfl, _, hb.at0 (x2.trans x3) rfl, _, hb2.at0 x3 rfl, bound ⟨_, _, _, fun _ => hb.at1 (k := 1) (x2.trans x3) rfl, _, _, _, fun _ => hb2.at1 (k := 1) x3 rfl, bound ?_⟩⟩)⟩
  have ev : ((x.v.ma == y.v.ma) && ((x.v.mi == y.v.mi) && ((x.v.pa == y.v.pa) && true))) = decide (x.v = y.v) := verB
  rw [ev]
  exact hR w3 (x1.trans (x2.trans x3))
theorem keyIx_hit {g : List Node} {k : NKey} {i : Nat} (hi : i < g.length) (h : g[i].key = k) (h0 : ∀ j (hj : j < g.length), j < i → g[j].key ≠ k) : keyIx g k = some i := by
  unfold keyIx
  rw [List.findIdx?_eq_some_iff_getElem]
  exact ⟨hi, decide_eq_true h, fun j hj => by simpa using h0 j (by omega) hj⟩
theorem keyIx_none {g : List Node} {k : NKey} (h : ∀ j (hj : j < g.length), g[j].key ≠ k) : keyIx g k = none := by
  unfold keyIx
  rw [List.findIdx?_eq_none_iff]
  intro x hx
  obtain ⟨j, hj, rfl⟩ := List.mem_iff_getElem.1 hx
  exact decide_eq_false (h j hj)
theorem r10Find_se {s t : Sl} {g : List Node} {n : ByteArray} {v : Ver} {l : List Pin} {S T : Nat → Prop} {w : World} {R : Int → World → Prop} (hs : SlR nodeE w S s g) (ht : SlR pinE w T t l) (hR : ∀ w', Ext w w' → R (keyI g (n, v, l)) w') : SE.halyardref10_Find s n v.ma v.mi v.pa t w R := by
  unfold SE.halyardref10_Find
  have hsl := hs.len
  refine newS.intro fun a w1 x1 hb1 _ _ => newS.intro fun a1 w2 x2 hb2 _ _ => ⟨_, _, _, hb2.ldc.pre (r := []) rfl, newS.set rfl fun a3 w3 x3 hb3 _ => ?_⟩
  have x03 := x1.trans (x2.trans x3)
  refine loop1.up hs.max (fun i w' => Ext w3 w' ∧ ∀ j (hj : j < g.length), j < i → g[j].key ≠ (n, v, l)) ⟨Ext.refl _, fun j _ h => by omega⟩ fun i w4 nxt hi ⟨x4, hI⟩ hn => ⟨s, (hb1.ext (x2.trans (x3.trans x4))).ldc.pre (r := []) rfl, fun hlt => bnd.drew fun w5 x5 => ?_, fun hge => ?_⟩
  · have hlt' : i < g.length := by omega
    have x35 := x4.trans x5
    obtain ⟨ad, c, e, ha, _, hc, _, hcn⟩ := nodeEl hs hlt'
    refine ⟨s, (hb1.ext (x2.trans (x3.trans x35))).ldc.pre (r := []) rfl, ad, ⟨ha, by omega, hlt⟩, _, _, _, _, c, e, hcn _ (x03.trans x35), _, _, _, _, _, _, (hb3.ext x35).ldc.pre (r := []) rfl, ?_⟩
    refine SE.halyardref10_alike.go (alike_se (x := g[i]) (y := ⟨n, v, l, []⟩) (hc.ext (x03.trans x35)) (ht.ext (x03.trans x35)) fun w6 x6 => ⟨_, rfl, fun hq => ?_, fun hq => ?_⟩)
    · have hk : g[i].key = (n, v, l) := of_decide_eq_true hq
      have h := hR w6 (x03.trans (x35.trans x6))
      unfold keyI at h
      rw [keyIx_hit hlt' hk hI] at h; exact h
    · refine hn hlt' w6 ⟨x35.trans x6, fun j hj hji => ?_⟩
      rcases Nat.lt_succ_iff_lt_or_eq.1 hji with h | h
      · exact hI j hj h
      · subst h; exact of_decide_eq_false hq
  · have h := hR w4 (x03.trans x4)
    unfold keyI at h
    rw [keyIx_none fun j hj => hI j hj (by omega)] at h; exact h
theorem r10in_se {s : Sl} {l : List Int} {n : Int} {S : Nat → Prop} {w : World} {R : Bool → World → Prop} (hs : SlR intE w S s l) (hR : ∀ w', Ext w w' → R (decide (n ∈ l)) w') : SE.halyardref10_in s n w R := by
  unfold SE.halyardref10_in
  have hl := hs.len
  refine loop1.up hs.max (fun i w' => Ext w w' ∧ n ∉ l.take i) ⟨Ext.refl _, by simp⟩ fun i w1 nxt hi ⟨x1, hI⟩ hn => ⟨fun hlt => ?_, fun hge => ?_⟩
  · have k1 : i < l.length := by omega
    obtain ⟨ad, ha, hc⟩ := intEl hs k1
    refine ⟨ad, ⟨ha, by omega, hlt⟩, _, hc _ x1, fun h => ?_, fun h => ?_⟩
    · have h3 := hR w1 x1
      rw [decide_eq_true (h ▸ List.getElem_mem k1)] at h3; exact h3
    · refine hn k1 _ ⟨x1, fun hm => ?_⟩
      rw [List.take_succ_eq_append_getElem k1, List.mem_append, List.mem_singleton] at hm
      exact hm.elim hI fun e => h e.symm
  · rw [List.take_of_length_le (by omega)] at hI
    have h3 := hR w1 x1
    rw [decide_eq_false hI] at h3; exact h3
theorem OwnS.ints {w : World} {lo : Nat} {T : TypeId} {s : Sl} {l : List Int} (h : OwnS intE T w lo None' s l) (hl : l.length ≤ 3000000000000) : SlR intE w (fun b => lo ≤ b) s l := h.readF (by decide) (by show l.length * 8 ≤ room; unfold room; omega)
theorem ofN_mem {l : List Nat} {k : Nat} : (k : Int) ∈ ofN l ↔ k ∈ l := by
  rw [mem_ofN]
  exact ⟨fun ⟨j, h1, h2⟩ => by
    have : j = k := by omega
    exact this ▸ h1, fun h => ⟨k, h, rfl⟩⟩
theorem range_filter_succ {p : Nat → Bool} {i : Nat} : (List.range (i + 1)).filter p = (List.range i).filter p ++ if p i = true then [i] else [] := by
  rw [List.range_succ, List.filter_append]
  congr 1
  by_cases h : p i = true <;> simp [h]
set_option maxHeartbeats 4000000 in
theorem r10Reach_se {s : Sl} {g : List Node} {S : Nat → Prop} {w : World} {R : Sl → World → Prop} (hs : SlR nodeE w S s g)
    (hR : ∀ t l w', Ext w w' → ReachAre g l → SlR intE w' (fun b => w.heap.size ≤ b) t l → R t w') : SE.halyardref10_Reach s w R := by
  unfold SE.halyardref10_Reach
  have hsl := hs.len
  have hgm : g.length ≤ 1600000000000 := by
    have := hs.2.2.2.1
    have eb : nodeE.bytes = 88 := rfl
    rw [eb] at this
    unfold room at this; omega
  refine newS.intro fun a w1 x1 hb1 hab1 _ => ⟨s, hb1.ldc.pre (r := []) rfl, fun h0 => ?_, fun h0 => ?_⟩
  · have hg : g = [] := List.eq_nil_of_length_eq_zero (by omega)
    subst hg
    exact hR _ [] w1 x1 ⟨.nil, fun y => by simp [bfs]⟩ (SlR.nil trivial)
  · have hg : g ≠ [] := fun e => by subst e; exact h0 (by rw [hsl]; rfl)
    have hgl : 0 < g.length := Nat.pos_of_ne_zero fun h => hg (List.eq_nil_of_length_eq_zero h)
    refine newS.own (E := intE) (x := 0) ⟨rfl, trivial⟩ fun a3 w4 x4 o4 ha4 => ?_
    refine loop2.ghost (fun f so i w' => ∃ (n : Nat) (out : List Nat), i = (n : Int) ∧ Ext w1 w' ∧ OwnS intE 3 w' w1.heap.size None' so (ofN out) ∧ BfsI g n out ∧ n ≤ out.length ∧ g.length < f + n ∧ bfsGo g f n out = bfs g) (g.length + 1) ⟨0, [0], rfl, x4, o4, BfsI.start hg, Nat.zero_le _, by omega, by unfold bfs; rw [if_neg hg]⟩ fun f so i w5 nxt ⟨n, out, hi, x5, o5, hB, hn, hf, hgo⟩ hnx => ?_
    subst hi
    have hol := o5.len
    rw [ofN_len] at hol
    have hoL := hB.len
    obtain ⟨f, rfl⟩ : ∃ f', f = f' + 1 := ⟨f - 1, by omega⟩
    refine ⟨fun hlt => bnd.drew fun w6 x6 => ?_, fun hge => ?_⟩
    · have hlt' : n < out.length := by omega
      have hk : out[n]? = some out[n] := List.getElem?_eq_getElem hlt'
      have hkg : out[n] < g.length := hB.lt _ (List.getElem_mem hlt')
      rw [bfsGo_next hk] at hgo
      have x16 := x5.trans x6
      obtain ⟨ad, cs, had, ⟨rfl, _⟩, hc⟩ := (o5.ext x6).el (i := n) (x := (out[n] : Int)) (by simp [ofN, hk])
      obtain ⟨ag, c, e, hag, _, _, he, hcg⟩ := nodeEl hs hkg
      have hel := he.len
      have hes : edgesAt g out[n] = g[out[n]].edges := by unfold edgesAt; rw [List.getElem?_eq_getElem hkg]
      have hfold := foldB (g := g) (p := out[n])
      refine ⟨s, (hb1.ext x16).ldc.pre (r := []) rfl, ad, ⟨had, by omega, by omega⟩, _, by rw [Int.toNat_natCast]; exact hc _ (Ext.refl _), ag, ⟨hag, by omega, by omega⟩, e, by rw [Int.toNat_natCast]; exact (hcg _ (x1.trans x16)).mid (k := 5) (r := []) rfl, ?_⟩
      refine loop2.up he.max (fun so' t w' => Ext w1 w' ∧ OwnS intE 3 w' w1.heap.size None' so' (ofN ((g[out[n]].edges.take t).foldl (stepB g.length) out))) ⟨x16, o5.ext x6⟩ fun so' t w7 nxt' ht ⟨x7, o7⟩ hn' => ?_
      have hfo := hfold (g[out[n]].edges.take t) out (fun e he => by rw [hes]; exact List.mem_of_mem_take he) (List.getElem_mem hlt') hB.nodup hB.lt hB.from_
      generalize hO : (g[out[n]].edges.take t).foldl (stepB g.length) out = O at o7 hfo
      have hOl := nodup_lt hfo.1 hfo.2.1
      refine ⟨fun hlt2 => join.named fun J hJ => ?_, fun hge2 => ?_⟩
      · have hlt2' : t < g[out[n]].edges.length := by omega
        obtain ⟨ae, hae, hce⟩ := edgeEl he hlt2'
        have hstep : (g[out[n]].edges.take (t + 1)).foldl (stepB g.length) out = stepB g.length O g[out[n]].edges[t] := by
          rw [List.take_succ_eq_append_getElem hlt2', List.foldl_append, hO]; rfl
        have hJ' : ∀ so2 w8, Ext w1 w8 → OwnS intE 3 w8 w1.heap.size None' so2 (ofN (stepB g.length O g[out[n]].edges[t])) → J so2 w8 := fun so2 w8 h1 h2 => by
          subst hJ
          exact hn' hlt2' so2 w8 ⟨h1, by rw [hstep]; exact h2⟩
        generalize g[out[n]].edges[t] = ed at *
        refine ⟨ae, ⟨hae, by omega, hlt2⟩, _, (hce _ (x1.trans x7)).mid (k := 1) (r := []) rfl, ?_⟩
        refine SE.halyardref10_in.go (r10in_se (o7.ints (by rw [ofN_len]; omega)) fun w8 x8 => ⟨_, rfl, bound ⟨s, fun _ => (hb1.ext (x7.trans x8)).ldc.pre (r := []) rfl, bound ⟨fun hc => ?_, fun hc => ?_⟩⟩⟩)
        · simp only [Bool.and_eq_true, Bool.not_eq_true', decide_eq_true_eq, decide_eq_false_iff_not] at hc
          obtain ⟨⟨c1, c2⟩, c3⟩ := hc
          obtain ⟨m, hm⟩ : ∃ m : Nat, ed.to = (m : Int) := ⟨ed.to.toNat, by omega⟩
          have hmn : m ∉ O := fun h => c3 (mem_ofN.2 ⟨m, h, hm.symm⟩)
          have hmg : m < g.length := by omega
          rw [stepB_new hm hmg hmn] at hJ'
          refine newS.intro fun a9 w9 x9 hb9 _ _ => ?_
          rw [hm] at hb9
          refine (o7.ext (x8.trans x9)).pushF (x7.trans (x8.trans x9)) apInt (x := (m : Int)) ⟨rfl, trivial⟩ (hb9.ldc.pre (r := []) rfl) (by decide) (by rw [ofN_len]; show (O.length + 1) * 8 ≤ room; unfold room; omega) fun r w10 o10 x10 => hJ' r w10 x10 ?_
          have : ofN (O ++ [m]) = ofN O ++ [(m : Int)] := by simp [ofN]
          rw [this]; exact o10
        · refine hJ' so' w8 (x7.trans x8) ?_
          rw [stepB_not]
          · exact o7.ext x8
          · rintro ⟨q1, q2, q3⟩
            have : ¬ ed.to ∈ ofN O := fun h => by
              obtain ⟨k, hk, e⟩ := mem_ofN.1 h
              have : ed.to.toNat = k := by omega
              rw [this] at q3; exact q3 hk
            rw [decide_eq_false this, decide_eq_true q1, decide_eq_true (by omega : ed.to < ((s.len : Nat) : Int))] at hc
            cases hc
      · have : t = g[out[n]].edges.length := by omega
        rw [this, List.take_length] at hO
        subst hO
        rw [hes] at hgo
        have e1 : wrapI ((n : Int) + 1) = ((n + 1 : Nat) : Int) := by rw [wrapI_eq (by omega) (by omega)]; omega
        rw [e1]
        have hB' := hB.next hk
        rw [hes] at hB'
        refine hnx f so' _ w7 (by omega) ⟨n + 1, _, rfl, x7, o7, hB', ?_, by omega, hgo⟩
        obtain ⟨tl, htl⟩ := hfo.2.2.2.1
        rw [htl, List.length_append]; omega
    · have hnn : n = out.length := by omega
      rw [bfsGo_end (by rw [hnn]; exact List.getElem?_eq_none (Nat.le_refl _))] at hgo
      subst hgo
      have hseen := o5.ints (by rw [ofN_len]; omega)
      have s5 := x5.size
      refine loop2.up hs.max (fun so' t w' => Ext w5 w' ∧ OwnS intE 3 w' w5.heap.size None' so' (ofN ((List.range t).filter fun k => decide (k ∈ bfs g)))) ⟨Ext.refl _, OwnS.zero _⟩ fun so' t w7 nxt' ht ⟨x7, o7⟩ hn' => ⟨s, (hb1.ext (x5.trans x7)).ldc.pre (r := []) rfl, fun hlt2 => join.named fun J hJ => ?_, fun hge2 => ?_⟩
      · have hlt2' : t < g.length := by omega
        have hfl : ((List.range t).filter fun k => decide (k ∈ bfs g)).length ≤ t := by
          have := List.length_filter_le (fun k => decide (k ∈ bfs g)) (List.range t)
          rwa [List.length_range] at this
        refine SE.halyardref10_in.go (r10in_se (hseen.ext x7) fun w8 x8 => ⟨_, rfl, fun hq => ?_, fun hq => ?_⟩)
        · have hin : t ∈ bfs g := ofN_mem.1 (of_decide_eq_true hq)
          refine newS.intro fun a9 w9 x9 hb9 _ _ => ?_
          refine (o7.ext (x8.trans x9)).pushF (x7.trans (x8.trans x9)) apInt (x := (t : Int)) ⟨rfl, trivial⟩ (hb9.ldc.pre (r := []) rfl) (by decide) (by rw [ofN_len]; show (_ + 1) * 8 ≤ room; unfold room; omega) fun r w10 o10 x10 => ?_
          subst hJ
          refine hn' hlt2' r w10 ⟨x10, ?_⟩
          rw [range_filter_succ, if_pos (decide_eq_true hin)]
          have : ofN (((List.range t).filter fun k => decide (k ∈ bfs g)) ++ [t]) = ofN ((List.range t).filter fun k => decide (k ∈ bfs g)) ++ [(t : Int)] := by simp [ofN]
          rw [this]; exact o10
        · have hin : ¬ t ∈ bfs g := fun h => of_decide_eq_false hq (ofN_mem.2 h)
          subst hJ
          refine hn' hlt2' so' w8 ⟨x7.trans x8, ?_⟩
          rw [range_filter_succ, if_neg (fun h => hin (of_decide_eq_true h)), List.append_nil]
          exact o7.ext x8
      · have htg : t = g.length := by omega
        rw [htg] at o7
        have hfl : ((List.range g.length).filter fun k => decide (k ∈ bfs g)).length ≤ g.length := by
          have := List.length_filter_le (fun k => decide (k ∈ bfs g)) (List.range g.length)
          rwa [List.length_range] at this
        exact hR so' _ w7 (x1.trans (x5.trans x7)) (ReachAre.filter g) ((o7.ints (by rw [ofN_len]; omega)).mono fun b hb => by have := x1.size; omega)
end Go.Hal
namespace Go.Hal
open Go Go.RowKit Go.Proofs Go.Shelf
theorem riseU_se {e : Sl} {l : List Edge} {S : Nat → Prop} {w w1 : World} {t : Nat} (he : SlR edgeE w S e l) (hx : Ext w w1) (ht : t < l.length) (b0 : Bool) : ∃ (ad : Addr) (n : ByteArray), ((!b0 && decide ((0 : Int) < (t : Int))) = true → e.a = some ad ∧ (0 : Int) ≤ wrapI ((t : Int) - 1) ∧ wrapI ((t : Int) - 1) < (e.len : Int)) ∧
    ((!b0 && decide ((0 : Int) < (t : Int))) = true → ldc w1 (ad.add ((wrapI ((t : Int) - 1)).toNat * 2)) [.string n]) ∧ ((decide ((0 : Int) < (t : Int)) && !bLt n l[t].name) = false ↔ (0 < t → bLt l[t - 1].name l[t].name = true)) := by
  have hl := he.len
  rcases Nat.eq_zero_or_pos t with rfl | h0
  · exact ⟨⟨0, 0, none⟩, ⟨#[]⟩, fun h => by simp at h, fun h => by simp at h, fun _ h => by omega, fun _ => rfl⟩
  · obtain ⟨ad, ha, hc⟩ := edgeEl he (n := t - 1) (by omega)
    rw [wrap_pred h0 ht he.max]
    refine ⟨ad, l[t - 1].name, fun _ => ⟨ha, by omega, by omega⟩, fun _ => (hc _ hx).pre rfl, fun h _ => ?_, fun h => ?_⟩
    · rw [decide_eq_true (by omega : (0 : Int) < (t : Int)), Bool.true_and] at h
      simpa using h
    · rw [h h0]; simp
set_option maxHeartbeats 8000000 in
theorem r10formed_se {s : Sl} {g : List Node} {S : Nat → Prop} {w : World} {R : Bool → World → Prop} (hs : SlR nodeE w S s g) (hR : ∀ (b : Bool) w', Ext w w' → (b = true ↔ Formed g) → R b w') : SE.halyardref10_formed s w R := by
  unfold SE.halyardref10_formed
  have hsl := hs.len
  have hbad : ∀ w', Ext w w' → ¬ Formed g → R false w' := fun w' hx h => hR false w' hx ⟨(fun h => by cases h), fun hf => absurd hf h⟩
  refine newS.intro fun a w1 x1 hb1 hab1 _ => ⟨s, hb1.ldc.pre (r := []) rfl, bound ⟨s, fun _ => hb1.ldc.pre (r := []) rfl, fun hc => ?_, fun hc => ?_⟩⟩
  · refine hbad w1 x1 fun hF => ?_
    obtain ⟨q1, q2⟩ := hF.len
    rw [decide_eq_false (by omega), decide_eq_false (by omega)] at hc
    cases hc
  simp only [Bool.or_eq_false_iff, decide_eq_false_iff_not] at hc
  obtain ⟨hc1, hc2⟩ := hc
  have hg0 : 0 < g.length := by omega
  have hg128 : g.length ≤ 128 := by omega
  obtain ⟨ad0, c0, e0, ha0, _, hcx0, _, hc0⟩ := nodeEl hs hg0
  refine ⟨s, hb1.ldc.pre (r := []) rfl, ad0, ⟨ha0, by omega, by omega⟩, _, _, _, _, c0, e0, hc0 _ x1, ?_⟩
  refine SE.halyardref10_alike.go (alike_se (x := g[0]) (y := rootNode) (T := None') (hcx0.ext x1) (SlR.nil trivial) fun w2 x2 => ⟨_, rfl, fun hc => ?_, fun hc => ?_⟩)
  · refine hbad w2 (x1.trans x2) fun hF => ?_
    obtain ⟨x, h1, h2⟩ := hF.root
    rw [List.getElem?_eq_getElem hg0] at h1
    cases h1
    rw [decide_eq_true h2] at hc; cases hc
  have hrt : ∃ x, g[0]? = some x ∧ x.key = rootNode.key := ⟨_, List.getElem?_eq_getElem hg0, by simpa using hc⟩
  have x02 : Ext w w2 := x1.trans x2
  have hb1' : ∀ w', Ext w2 w' → ldc w' a [s.v] := fun w' hx => (hb1.ext (x2.trans hx)).ldc.pre (r := []) rfl
  refine loop1.up hs.max (fun i w' => Ext w2 w' ∧ ∀ j (hj : j < g.length), j < i → NodeOk g j g[j]) ⟨Ext.refl _, fun j _ h => by omega⟩ fun i w3 nxt hi ⟨x3, hI⟩ hn => ⟨s, hb1' _ x3, fun hlt => ?_, fun hge => ?_⟩
  · have hlt' : i < g.length := by omega
    have hgi : g[i]? = some g[i] := List.getElem?_eq_getElem hlt'
    obtain ⟨ad, c, e, ha, _, hcx, he, hcn⟩ := nodeEl hs hlt'
    have hel := he.len
    have hcl := hcx.len
    have hbadN : ∀ w', Ext w w' → ¬ NodeOk g i g[i] → R false w' := fun w' hx h => hbad w' hx fun hF => h (hF.nodes i _ hgi)
    have x03 : Ext w w3 := x02.trans x3
    refine ⟨s, hb1' _ x3, ad, ⟨ha, by omega, hlt⟩, _, _, _, _, c, e, hcn _ x03, newS.set rfl fun a17 w4 x4 hb4 _ => bound ?_⟩
    have x04 : Ext w w4 := x03.trans x4
    refine ⟨s, fun _ => hb1' _ (x3.trans x4), _, fun _ => hb4.at0 (Ext.refl _) rfl, _, _, _, fun _ => hb4.at1 (k := 1) (Ext.refl _) rfl, c, fun _ => hb4.at1 (k := 4) (Ext.refl _) rfl, ?_⟩
    refine gCall.intro (keyI g g[i].key) (fun _ q hq => SE.halyardref10_Find.go (r10Find_se (hs.ext x04) (hcx.ext x04) fun w6 x6 => ⟨_, rfl, hq w6 x6⟩)) fun t60 w5 x5 ht => ?_
    have x05 : Ext w w5 := x04.trans x5
    have hfind : decide ((0 : Int) < (i : Int)) = true → ((t60 == (i : Int)) = true ↔ (i ≠ 0 → keyIx g g[i].key = some i)) := fun h => by
      rw [ht h]
      simp only [decide_eq_true_eq] at h
      unfold keyI
      cases hk : keyIx g g[i].key with
      | none => simp only [beq_iff_eq]; exact ⟨fun h => by omega, fun h' => by cases h' (by omega)⟩
      | some j =>
        simp only [beq_iff_eq, Option.some.injEq]
        exact ⟨fun h _ => by omega, fun h' => by rw [h' (by omega)]⟩
    refine ⟨fun hc => hbadN w5 x05 fun hN => ?_, fun hc => ?_⟩
    · rw [Bool.and_eq_true] at hc
      obtain ⟨c1, c2⟩ := hc
      rw [(hfind c1).2 hN.find] at c2; cases c2
    have hcF : i ≠ 0 → keyIx g g[i].key = some i := fun h0 => by
      have hd : decide ((0 : Int) < (i : Int)) = true := decide_eq_true (by omega)
      rw [hd, Bool.true_and] at hc
      exact (hfind hd).1 (by simpa using hc) h0
    clear hfind ht hc
    refine loop1.from1 hcx.max (fun t w' => Ext w5 w' ∧ RiseN Pin.name (g[i].ctx.take t)) ⟨Ext.refl _, rise_one⟩ fun t w6 nxt' t1 ht ⟨x6, hI6⟩ hn' => ⟨c, hb4.at1 (k := 4) (x5.trans x6) rfl, fun hlt2 => bnd.drew fun w7 x7 => ?_, fun hge2 => ?_⟩
    · have hlt2' : t < g[i].ctx.length := by omega
      obtain ⟨ap, hap, _, _, hcp⟩ := pinEl hcx (n := t - 1) (by omega)
      obtain ⟨aq, haq, _, _, hcq⟩ := pinEl hcx hlt2'
      have x57 := x6.trans x7
      have x07 := x05.trans x57
      rw [wrap_pred t1 hlt2' hcx.max]
      refine ⟨c, hb4.at1 (k := 4) (x5.trans x57) rfl, ap, ⟨hap, by omega, by omega⟩, _, (hcp _ x07).pre rfl, c, hb4.at1 (k := 4) (x5.trans x57) rfl, aq, ⟨haq, by omega, hlt2⟩, _, (hcq _ x07).pre rfl, fun hc => hbadN w7 x07 fun hN => ?_, fun hc => hn' hlt2' w7 ⟨x57, rise_step t1 hlt2' hI6 (by simpa using hc)⟩⟩
      exact rise_not t1 hlt2' (by simpa using hc) hN.ctx
    rw [List.take_of_length_le (by omega)] at hI6
    have hcR : Rises g[i].ctx := hI6
    clear hI6 hn'
    have x06 := x05.trans x6
    have x46 := x5.trans x6
    refine loop1.up he.max (fun t w' => Ext w6 w' ∧ RiseN Edge.name (g[i].edges.take t) ∧ ∀ ed ∈ g[i].edges.take t, ToR g ed) ⟨Ext.refl _, .nil, fun _ h => by cases h⟩ fun t w7 nxt' ht ⟨x7, hI1, hI2⟩ hn' => ⟨e, hb4.at1 (k := 5) (r := []) (x46.trans x7) rfl, fun hlt2 => ?_, fun hge2 => ?_⟩
    · have hlt2' : t < g[i].edges.length := by omega
      have x07 : Ext w w7 := x06.trans x7
      have x47 := x46.trans x7
      obtain ⟨ae, hae, hce⟩ := edgeEl he hlt2'
      refine ⟨e, hb4.at1 (k := 5) (r := []) x47 rfl, ae, ⟨hae, by omega, hlt2⟩, _, (hce _ x07).mid (k := 1) (r := []) rfl, bnd.drew fun w9 x9 => bound ?_⟩
      have x09 := x07.trans x9
      have x49 := x47.trans x9
      have x29 : Ext w2 w9 := x3.trans (x4.trans x49)
      refine ⟨s, fun _ => hb1' _ x29, bound ?_⟩
      by_cases hH : 1 ≤ g[i].edges[t].to ∧ g[i].edges[t].to < (g.length : Int)
      · obtain ⟨q2, q3⟩ := hH
        obtain ⟨m, hm, e1, e2, e3⟩ := at_nat hs (by omega : 0 ≤ g[i].edges[t].to) q3
        obtain ⟨ad5, _, _, ha5, _, _, _, hc5⟩ := nodeEl hs hm
        have e45 : (decide (g[i].edges[t].to < 1) || decide ((s.len : Int) ≤ g[i].edges[t].to)) = false := by
          rw [decide_eq_false (by omega), decide_eq_false (by omega)]; rfl
        rw [e45]
        refine ⟨s, fun _ => hb1' _ x29, ad5, fun _ => ⟨ha5, by omega, by omega⟩, g[m].name, fun _ => by rw [e2]; exact (hc5 _ x09).pre rfl, e, fun _ => hb4.at1 (k := 5) (r := []) x49 rfl, ae, fun _ => ⟨hae, by omega, hlt2⟩, g[i].edges[t].name, fun _ => (hce _ x09).pre rfl, bound (bound ?_)⟩
        rw [Bool.false_or]
        obtain ⟨ad43, n82, p1, p2, p3⟩ := riseU_se he x09 hlt2' (!bEq g[m].name g[i].edges[t].name)
        refine ⟨e, fun _ => hb4.at1 (k := 5) (r := []) x49 rfl, ad43, p1, n82, p2, e, fun _ => hb4.at1 (k := 5) (r := []) x49 rfl, ae, fun _ => ⟨hae, by omega, hlt2⟩, g[i].edges[t].name, fun _ => (hce _ x09).pre rfl, ?_⟩
        have htr : ToR g g[i].edges[t] ↔ g[m].name = g[i].edges[t].name := by
          constructor
          · rintro ⟨j, y, h1, h2, h3, h4⟩
            have : j = m := by omega
            subst this
            rw [List.getElem?_eq_getElem hm] at h3
            cases h3; exact h4
          · intro h; exact ⟨m, g[m], e1, by omega, List.getElem?_eq_getElem hm, h⟩
        refine ⟨fun hc => hbadN w9 x09 fun hN => ?_, fun hc => ?_⟩
        · have k1 := htr.1 (hN.to _ (List.getElem_mem hlt2'))
          have k2 := p3.2 fun h0 => List.pairwise_iff_getElem.1 hN.rise (t - 1) t (by omega) hlt2' (by omega)
          rw [bEq_iff.2 k1, k2] at hc; cases hc
        · rw [Bool.or_eq_false_iff, Bool.not_eq_false'] at hc
          obtain ⟨k1, k2⟩ := hc
          refine hn' hlt2' w9 ⟨x7.trans x9, ?_, fun ed hed => ?_⟩
          · rcases Nat.eq_zero_or_pos t with h0 | h0
            · subst h0; exact rise_one
            · exact rise_step h0 hlt2' hI1 (p3.1 k2 h0)
          · rw [List.take_succ_eq_append_getElem hlt2'] at hed
            rcases List.mem_append.1 hed with h | h
            · exact hI2 ed h
            · rw [List.mem_singleton] at h
              subst h
              exact htr.2 (bEq_iff.1 k1)
      · have e45 : (decide (g[i].edges[t].to < 1) || decide ((s.len : Int) ≤ g[i].edges[t].to)) = true := by
          simp only [Bool.or_eq_true, decide_eq_true_eq]
          omega
        rw [e45]
        refine ⟨s, (fun h => by cases h), ad0, (fun h => by cases h), ⟨#[]⟩, (fun h => by cases h), s, (fun h => by cases h), ad0, (fun h => by cases h), ⟨#[]⟩, (fun h => by cases h), bound (bound ?_)⟩
        rw [Bool.true_or]
        refine ⟨s, (fun h => by cases h), ad0, (fun h => by cases h), ⟨#[]⟩, (fun h => by cases h), s, (fun h => by cases h), ad0, (fun h => by cases h), ⟨#[]⟩, (fun h => by cases h), fun _ => hbadN w9 x09 fun hN => hH ?_, (fun h => by cases h)⟩
        obtain ⟨j, y, h1, h2, h3, _⟩ := hN.to _ (List.getElem_mem hlt2')
        have := (List.getElem?_eq_some_iff.1 h3).1
        omega
    · rw [List.take_of_length_le (by omega)] at hI1 hI2
      refine hn hlt' w7 ⟨x3.trans (x4.trans (x46.trans x7)), fun j hj hji => ?_⟩
      rcases Nat.lt_succ_iff_lt_or_eq.1 hji with h | h
      · exact hI j hj h
      · subst h; exact ⟨hcR, hcF, hI1, hI2⟩
  · have x03 : Ext w w3 := x02.trans x3
    refine bnd.drew fun w4 x4 => ⟨s, hb1' _ (x3.trans x4), s, hb1' _ (x3.trans x4), callX.intro (SE.halyardref10_Reach.go (r10Reach_se (hs.ext (x03.trans x4)) fun t l w5 x5 hr ht => ⟨x5, t, rfl, ?_⟩))⟩
    refine hR _ w5 ((x03.trans x4).trans x5) ?_
    have h1 := ht.len
    have h2 := hr.len
    rw [beq_iff_eq]
    constructor
    · intro h
      exact ⟨⟨hg0, hg128⟩, hrt, fun j x hj => by
        obtain ⟨hj', rfl⟩ := List.getElem?_eq_some_iff.1 hj
        exact hI j hj' (by omega), by omega⟩
    · intro hF
      have := hF.reach
      omega
theorem r10edge_se {x : Node} {n : ByteArray} {c e : Sl} {S : Nat → Prop} {w : World} {R : Int → World → Prop} (he : SlR edgeE w S e x.edges) (hR : ∀ w', Ext w w' → R (toOf x n) w') : SE.halyardref10_edge x.name x.v.ma x.v.mi x.v.pa c e n w R := by
  unfold SE.halyardref10_edge
  have hel := he.len
  refine newS.intro fun a w1 x1 hb _ _ => ?_
  refine loop1.up he.max (fun i w' => Ext w1 w' ∧ (x.edges.take i).find? (fun e => decide (e.name = n)) = none) ⟨Ext.refl _, rfl⟩ fun i w2 nxt hi ⟨x2, hI⟩ hn => ⟨e, hb.at1 (k := 5) (r := []) x2 rfl, fun hlt => ?_, fun hge => ?_⟩
  · have hlt' : i < x.edges.length := by omega
    obtain ⟨ae, hae, hce⟩ := edgeEl he hlt'
    have x02 := x1.trans x2
    refine ⟨e, hb.at1 (k := 5) (r := []) x2 rfl, ae, ⟨hae, by omega, hlt⟩, _, (hce _ x02).pre rfl, fun hq => ?_, fun hq => ?_⟩
    · refine ⟨e, hb.at1 (k := 5) (r := []) x2 rfl, ae, ⟨hae, by omega, hlt⟩, _, (hce _ x02).mid (k := 1) (r := []) rfl, ?_⟩
      have hf := find_hit hlt' hI (decide_eq_true hq)
      have h := hR w2 x02
      unfold toOf at h
      rw [hf] at h; exact h
    · refine hn hlt' _ ⟨x2, ?_⟩
      rw [take_find_succ hlt' hI, decide_eq_false hq]; rfl
  · rw [List.take_of_length_le (by omega)] at hI
    have h := hR w2 (x1.trans x2)
    unfold toOf at h
    rw [hI] at h; exact h
set_option maxHeartbeats 4000000 in
theorem r10env_se {s c e : Sl} {g : List Node} {i0 : Nat} {x y : Node} {n : ByteArray} {S : Nat → Prop} {w : World} {R : Int → Int → Int → Int → World → Prop} (hs : SlR nodeE w S s g) (hc : SlR pinE w S c x.ctx) (he : SlR edgeE w S e x.edges) (hN : NodeOk g i0 x)
    (hy : edgeTo g x n = some y) (hv : ∀ p ∈ x.ctx, p.name = n → p.v = y.v) (hR : ∀ w', Ext w w' → R y.v.ma y.v.mi y.v.pa 1 w') : SE.halyardref10_env s x.name x.v.ma x.v.mi x.v.pa c e n w R := by
  unfold SE.halyardref10_env
  have hcl := hc.len
  have hsl := hs.len
  refine newS.intro fun a w1 x1 hb1 _ _ => newS.intro fun a1 w2 x2 hb2 _ _ => newS.intro fun a3 w3 x3 hb3 _ _ => newS.set rfl fun a5 w4 x4 hb4 hab4 => ?_
  have x03 := x1.trans (x2.trans x3)
  have x04 := x03.trans x4
  have g1 : ∀ w', Ext w3 w' → ldc w' a [s.v] := fun w' hx => (hb1.ext (x2.trans (x3.trans hx))).ldc.pre (r := []) rfl
  have g2 : ∀ w', Ext w3 w' → BoxAt w' a1 [.string x.name, .int .i64 x.v.ma, .int .i64 x.v.mi, .int .i64 x.v.pa, c.v, e.v] := fun w' hx => hb2.ext (x3.trans hx)
  have lo : w3.heap.size ≤ a5.block := by omega
  obtain ⟨j, hj, hj1, hjy⟩ := toOf_edgeTo hN hy
  obtain ⟨hjl, hjz⟩ := List.getElem?_eq_some_iff.1 hjy
  obtain ⟨ad5, c5, e5, had5, _, _, _, hcn5⟩ := nodeEl hs hjl
  rw [hjz] at hcn5
  refine loop2.up hc.max (fun (many : Int) i w' => Ext w3 w' ∧ ((many = 0 ∧ (∀ p ∈ x.ctx.take i, p.name ≠ n) ∧ BoxAt w' a5 [.int .i64 0, .int .i64 0, .int .i64 0]) ∨ (many = 1 ∧ (∃ p ∈ x.ctx.take i, p.name = n) ∧ BoxAt w' a5 [.int .i64 y.v.ma, .int .i64 y.v.mi, .int .i64 y.v.pa])))
    ⟨x4, .inl ⟨rfl, (fun p h => by cases h), hb4⟩⟩ fun many i w5 nxt hi ⟨x5, hI⟩ hn => ⟨c, (g2 _ x5).at1 (k := 4) (Ext.refl _) rfl, fun hlt => join.named fun J hJ => ?_, fun hge => ?_⟩
  · have hlt' : i < x.ctx.length := by omega
    obtain ⟨ap, hap, _, _, hcp⟩ := pinEl hc hlt'
    have htk : ∀ p, p ∈ x.ctx.take (i + 1) ↔ p ∈ x.ctx.take i ∨ p = x.ctx[i] := fun p => by rw [List.take_succ_eq_append_getElem hlt', List.mem_append, List.mem_singleton]
    refine ⟨c, (g2 _ x5).at1 (k := 4) (Ext.refl _) rfl, ap, ⟨hap, by omega, hlt⟩, _, (hcp _ (x03.trans x5)).pre rfl, fun hq => ?_, fun hq => ?_⟩
    · have hnone : many = 0 ∧ BoxAt w5 a5 [.int .i64 0, .int .i64 0, .int .i64 0] := by
        rcases hI with ⟨h1, _, h2⟩ | ⟨_, ⟨p, hp, hpn⟩, _⟩
        · exact ⟨h1, h2⟩
        · obtain ⟨k, hk, hkp⟩ := List.mem_iff_getElem.1 hp
          rw [List.length_take] at hk
          rw [List.getElem_take] at hkp
          have h1 : bLt x.ctx[k].name x.ctx[i].name = true := List.pairwise_iff_getElem.1 hN.ctx k i (by omega) hlt' (by omega)
          rw [hkp, hpn, hq, bLt_irrefl] at h1; cases h1
      obtain ⟨h1, h2⟩ := hnone
      have hpv := hv _ (List.getElem_mem hlt') hq
      refine ⟨c, (g2 _ x5).at1 (k := 4) (Ext.refl _) rfl, ap, ⟨hap, by omega, hlt⟩, _, _, _, (hcp _ (x03.trans x5)).mid (k := 1) (r := []) rfl, stw0.intro h2 (by simp) fun w6 b6 _ hb6 => ?_⟩
      subst hJ
      rw [hpv] at hb6
      refine hn hlt' _ w6 ⟨b6.ext x5 lo, .inr ⟨by rw [h1]; rfl, ⟨_, (htk _).2 (.inr rfl), hq⟩, hb6⟩⟩
    · subst hJ
      refine hn hlt' _ w5 ⟨x5, ?_⟩
      rcases hI with ⟨h1, h2, h3⟩ | ⟨h1, ⟨p, hp, hpn⟩, h3⟩
      · exact .inl ⟨h1, fun p hp => ((htk p).1 hp).elim (h2 p) fun h => h ▸ hq, h3⟩
      · exact .inr ⟨h1, ⟨p, (htk p).2 (.inl hp), hpn⟩, h3⟩
  · refine ⟨_, _, _, _, c, e, (g2 _ x5).ldc.pre (r := []) rfl, SE.halyardref10_edge.go (r10edge_se (he.ext (x03.trans x5)) fun w6 x6 => ⟨_, rfl, join.named fun J hJ => bnd.drew fun w7 x7 => bound (bound ?_)⟩)⟩
    have x37 := x5.trans (x6.trans x7)
    have fin : ∀ w', Ext w3 w' → BoxAt w' a5 [.int .i64 y.v.ma, .int .i64 y.v.mi, .int .i64 y.v.pa] → J 1 w' := fun w8 x8 hb8 => by
      subst hJ
      refine ⟨_, _, _, hb8.ldc.pre (r := []) rfl, stw0.intro (hb3.ext x8) (by simp) fun w9 b9 _ hb9 => ⟨_, _, _, hb9.ldc.pre (r := []) rfl, hR w9 (b9.ext (x03.trans x8) ?_)⟩⟩
      have h1 := hb3.lt
      have h2 := (x1.trans x2).size
      have h3 := hb2.lt
      omega
    clear hJ hn
    rw [hj]
    have ht : decide ((0 : Int) ≤ (j : Int)) = true := decide_eq_true (by omega)
    rw [ht]
    have ld : ∀ w', Ext w3 w' → ldc w' ((ad5.add (((j : Nat) : Int).toNat * 6)).add 1) [.int .i64 y.v.ma, .int .i64 y.v.mi, .int .i64 y.v.pa] := fun w' hx => by rw [Int.toNat_natCast]; exact (hcn5 _ (x03.trans hx)).mid (k := 1) rfl
    rcases hI with ⟨h1, h2, h3⟩ | ⟨h1, _, h3⟩
    · subst h1
      refine ⟨s, (fun h => by cases h), ad5, (fun h => by cases h), 0, 0, 0, (fun h => by cases h), 0, 0, 0, (fun h => by cases h), fun _ => ?_, (fun h => by cases h)⟩
      refine ⟨s, g1 _ x37, ad5, ⟨had5, by omega, by omega⟩, _, _, _, ld _ x37, stw0.intro (h3.ext (x6.trans x7)) (by simp) fun w8 b8 _ hb8 => fin w8 (b8.ext x37 lo) hb8⟩
    · subst h1
      have h7 := h3.ext (x6.trans x7)
      refine ⟨s, fun _ => g1 _ x37, ad5, fun _ => ⟨had5, by omega, by omega⟩, y.v.ma, y.v.mi, y.v.pa, fun _ => ld _ x37, y.v.ma, y.v.mi, y.v.pa, fun _ => h7.ldc.pre (r := []) rfl, fun hq => ?_, fun _ => fin w7 x37 h7⟩
      simp at hq
end Go.Hal
namespace Go.Hal
open Go Go.RowKit Go.Proofs Go.Shelf
theorem strEl {w : World} {S : Nat → Prop} {s : Sl} {l : List ByteArray} (h : SlR strE w S s l) {n : Nat} (hn : n < l.length) : ∃ ad, s.a = some ad ∧ Str l[n] ∧ ∀ w', Ext w w' → ldc w' (ad.add (n * 1)) [.string l[n]] := by
  obtain ⟨ad, cs, h1, h2, ⟨rfl, h3⟩, h4⟩ := h.el hn
  exact ⟨ad, h1, h3, h4⟩
theorem insA {s : Sl} {L : List Pin} {i : Nat} {w : World} {S : Nat → Prop} {K : Sl → World → Prop} (hS : Old S w) (hs : SlR pinE w S s L) (hi : i ≤ L.length) (hb : L.length ≤ 3000000000000) (hK : ∀ t w', Ext w w' → OwnS pinE 84 w' w.heap.size None' t (L.take i) → K t w') :
    ((0 : Int) ≤ (i : Int) ∧ (i : Int) ≤ (s.cap : Int)) ∧ appS Tryz.prog 26 26 Sl.nil (Sl.v (Sl.cut s 0 (i : Int).toNat 4)) w K := by
  have hcap : L.length ≤ s.cap := hs.2.1
  have eb : pinE.bytes = 40 := rfl
  refine ⟨by omega, ?_⟩
  have hc1 : SlR pinE w S (Sl.cut s 0 i 4) ((L.take i).drop 0) := hs.cut (Nat.zero_le _) hi
  rw [List.drop_zero] at hc1
  have htl : (L.take i).length = i := by rw [List.length_take]; omega
  rw [Int.toNat_natCast]
  refine (OwnS.zero (E := pinE) (T := 84) w).appAll apPin (Nat.le_refl _) hc1 hS (fun ad h => by cases h) (by rw [htl, eb]; simp; unfold room; omega) (by rw [htl, maxLen_eq]; simp; omega) fun r1 w1 o1 bel1 _ _ => ?_
  rw [List.nil_append] at o1
  exact hK r1 w1 ((Ext.refl w).trans' bel1) (OwnS.flat (fun h => h) o1)
theorem insB {s t : Sl} {L : List Pin} {p : Pin} {i : Nat} {w0 w : World} {S : Nat → Prop} {K : Sl → World → Prop} (o1 : OwnS pinE 84 w w0.heap.size None' t (L.take i)) (x0 : Ext w0 w) (hS : Old S w0) (hs : SlR pinE w0 S s L) (hi : i ≤ L.length) (hN : Str p.name) (hb : L.length ≤ 3000000000000)
    (hK : ∀ r w', Ext w0 w' → SlR pinE w' (fun b => w0.heap.size ≤ b ∧ b < w'.heap.size) r (L.take i ++ p :: L.drop i) → K r w') :
    newS w [(Value.string p.name), (Value.int .i64 p.v.ma), (Value.int .i64 p.v.mi), (Value.int .i64 p.v.pa)] 84 fun a14 vw15 => appS Tryz.prog 26 26 t (Sl.v (Sl.mk (some a14) 1 1)) vw15 fun t46 vw16 => ((0 : Int) ≤ (i : Int) ∧ (i : Int) ≤ (s.len : Int)) ∧ appS Tryz.prog 26 26 t46 (Sl.v (Sl.cut s (i : Int).toNat s.len 4)) vw16 K := by
  have hl := hs.len
  have eb : pinE.bytes = 40 := rfl
  have hc2 : SlR pinE w0 S (Sl.cut s i s.len 4) ((L.take s.len).drop i) := hs.cut (by omega) (by omega)
  rw [hl, List.take_length] at hc2
  have htl : (L.take i).length = i := by rw [List.length_take]; omega
  have hdl : (L.drop i).length = L.length - i := List.length_drop
  have fresh : ∀ {s' : Sl} {l' : List Pin} {w' : World}, OwnS pinE 84 w' w0.heap.size None' s' l' → ∀ ad, s'.a = some ad → ¬ S ad.block := fun o ad h hSb => by
    have := (o.block h).1; have := hS _ hSb; omega
  rw [Int.toNat_natCast, hl]
  refine newS.intro fun a2 w2 x2 hb2 _ _ => ?_
  refine (o1.ext x2).push apPin (x0.trans x2).size (x := p) (S' := None') ⟨rfl, hN⟩ (hb2.ldc.pre (r := []) rfl) (fun _ h => h.elim) (fun _ _ h => h.elim) (by rw [htl, eb]; unfold room; omega) (by rw [htl, maxLen_eq]; omega) fun r2 w3 o2 bel2 _ _ => ?_
  have o2 := OwnS.flat (fun h => h) o2
  have x3 : Ext w0 w3 := (x0.trans x2).trans' bel2
  refine ⟨by omega, o2.appAll apPin x3.size (hc2.ext x3) (hS.ext x3.size) (fresh o2) (by rw [List.length_append, htl, hdl, eb, List.length_singleton]; unfold room; omega) (by rw [List.length_append, htl, hdl, maxLen_eq, List.length_singleton]; omega) fun r3 w4 o3 bel3 _ _ => ?_⟩
  have o3 := OwnS.flat (fun h => h) o3
  have x4 : Ext w0 w4 := x3.trans' bel3
  rw [List.append_assoc, List.singleton_append] at o3
  have hlen : (L.take i ++ p :: L.drop i).length = L.length + 1 := by rw [List.length_append, List.length_cons, htl, hdl]; omega
  refine hK r3 w4 x4 ((o3.read (by rw [hlen, eb]; unfold room; omega) (by rw [hlen, maxLen_eq]; omega)).mono fun b hb => ?_)
  rcases hb with hb | ⟨ad, had, rfl⟩
  · exact hb.elim
  · have := o3.block had; exact ⟨this.1, this.2.1⟩
set_option maxHeartbeats 8000000 in
theorem r10Env_se {s c e : Sl} {g : List Node} {i0 : Nat} {x : Node} {S : Nat → Prop} {w : World} {R : Sl → Bool → World → Prop} (hs : SlR nodeE w S s g) (hc : SlR pinE w S c x.ctx) (he : SlR edgeE w S e x.edges) (hN : NodeOk g i0 x)
    (hctx : ∀ p ∈ x.ctx, ∃ y, edgeTo g x p.name = some y ∧ y.v = p.v) (hb1 : x.ctx.length ≤ 1000) (hb2 : x.edges.length ≤ 1000)
    (hR : ∀ t w', Ext w w' → SlR pinE w' (fun b => w.heap.size ≤ b ∧ b < w'.heap.size) t (envPins g x) → R t true w') : SE.halyardref10_Env s x.name x.v.ma x.v.mi x.v.pa c e w R := by
  unfold SE.halyardref10_Env
  have hcl := hc.len
  have hel := he.len
  refine newS.intro fun a w1 x1 hba _ _ => newS.intro fun a1 w2 x2 hba1 _ _ => ?_
  have x02 := x1.trans x2
  have g1 : ∀ w', Ext w2 w' → ldc w' a [s.v] := fun w' hx => (hba.ext (x2.trans hx)).ldc.pre (r := []) rfl
  have g2 : ∀ w', Ext w2 w' → BoxAt w' a1 [.string x.name, .int .i64 x.v.ma, .int .i64 x.v.mi, .int .i64 x.v.pa, c.v, e.v] := fun w' hx => hba1.ext hx
  refine loop2.up hc.max (fun so i w' => Ext w2 w' ∧ OwnS strE 9 w' w2.heap.size None' so ((x.ctx.take i).map Pin.name)) ⟨Ext.refl _, OwnS.zero _⟩ fun so i w3 nxt hi ⟨x3, o3⟩ hn => ⟨c, (g2 _ x3).at1 (k := 4) (Ext.refl _) rfl, fun hlt => ?_, fun hge => ?_⟩
  · have hlt' : i < x.ctx.length := by omega
    obtain ⟨ap, hap, _, hst, hcp⟩ := pinEl hc hlt'
    refine ⟨c, (g2 _ x3).at1 (k := 4) (Ext.refl _) rfl, ap, ⟨hap, by omega, hlt⟩, _, (hcp _ (x02.trans x3)).pre rfl, newS.intro fun a6 w4 x4 hb4 _ _ => ?_⟩
    refine (o3.ext x4).pushF (x3.trans x4) apStr (x := x.ctx[i].name) ⟨rfl, hst⟩ (hb4.ldc.pre (r := []) rfl) (by decide) (by rw [List.length_map, List.length_take]; show (_ + 1) * 16 ≤ room; unfold room; omega) fun r w5 o5 x5 => hn hlt' r w5 ⟨x5, ?_⟩
    rw [List.take_succ_eq_append_getElem hlt', List.map_append]; exact o5
  rw [List.take_of_length_le (by omega)] at o3
  clear hn
  refine loop2.up he.max (fun so i w' => Ext w2 w' ∧ OwnS strE 9 w' w2.heap.size None' so (x.ctx.map Pin.name ++ (x.edges.take i).map Edge.name)) ⟨x3, by simpa using o3⟩ fun so i w4 nxt hi ⟨x4, o4⟩ hn => ⟨e, (g2 _ x4).at1 (k := 5) (r := []) (Ext.refl _) rfl, fun hlt => ?_, fun hge => ?_⟩
  · have hlt' : i < x.edges.length := by omega
    obtain ⟨ae, hae, hce⟩ := edgeEl he hlt'
    obtain ⟨_, _, _, _, ⟨_, hst⟩, _⟩ := he.el hlt'
    refine ⟨e, (g2 _ x4).at1 (k := 5) (r := []) (Ext.refl _) rfl, ae, ⟨hae, by omega, hlt⟩, _, (hce _ (x02.trans x4)).pre rfl, newS.intro fun a6 w5 x5 hb5 _ _ => ?_⟩
    refine (o4.ext x5).pushF (x4.trans x5) apStr (x := x.edges[i].name) ⟨rfl, hst⟩ (hb5.ldc.pre (r := []) rfl) (by decide) (by rw [List.length_append, List.length_map, List.length_map, List.length_take]; show (_ + 1) * 16 ≤ room; unfold room; omega) fun r w6 o6 x6 => hn hlt' r w6 ⟨x6, ?_⟩
    rw [List.take_succ_eq_append_getElem hlt', List.map_append, ← List.append_assoc]; exact o6
  rw [List.take_of_length_le (by omega)] at o4
  clear hn
  have hnl : (x.ctx.map Pin.name ++ x.edges.map Edge.name).length = x.ctx.length + x.edges.length := by rw [List.length_append, List.length_map, List.length_map]
  have hnames := o4.readF (by decide) (by rw [hnl]; show _ * 16 ≤ room; unfold room; omega)
  have hto : ∀ n ∈ x.ctx.map Pin.name ++ x.edges.map Edge.name, ∃ z, edgeTo g x n = some z ∧ ∀ p ∈ x.ctx, p.name = n → p.v = z.v := fun n hn => by
    rcases List.mem_append.1 hn with hn | hn
    · obtain ⟨p, hp, rfl⟩ := List.mem_map.1 hn
      obtain ⟨z, hz, hzv⟩ := hctx p hp
      exact ⟨z, hz, fun q hq hqn => by
        have : q = p := RiseN.inj (f := Pin.name) hN.ctx hq hp hqn
        rw [this, hzv]⟩
    · obtain ⟨ed, hed, rfl⟩ := List.mem_map.1 hn
      obtain ⟨z, _, hz⟩ := edgeTo_edge hN.rise hN.to hed
      exact ⟨z, hz, fun q hq hqn => by
        obtain ⟨z', hz', hzv⟩ := hctx q hq
        rw [hqn, hz] at hz'
        cases hz'; exact hzv.symm⟩
  have hdone := fun en => EnvI.done (g := g) (x := x) (e := en) hN.rise hN.to hctx
  generalize hNS : x.ctx.map Pin.name ++ x.edges.map Edge.name = ns at *
  have hnsl := hnames.len
  have x04 := x02.trans x4
  refine loop2.up hnames.max (fun out i w' => ∃ en, Ext w4 w' ∧ SlR pinE w' (fun b => w.heap.size ≤ b ∧ b < w'.heap.size) out (sortN en) ∧ EnvI g x ns i en) ⟨[], Ext.refl _, SlR.nil trivial, EnvI.start g x ns⟩ fun out i w5 nxt hi ⟨en, x5, ho, hE⟩ hn => ⟨fun hlt => join.named fun J hJ => join.named fun J2 hJ2 => bnd.drew fun w6 x6 => ?_, fun hge => ?_⟩
  · have hlt' : i < ns.length := by omega
    obtain ⟨an, han, hst, hcn⟩ := strEl hnames hlt'
    obtain ⟨z, hz, hzv⟩ := hto _ (List.getElem_mem hlt')
    have hel' := hE.len
    have hsl : (sortN en).length = en.length := (sortN_perm en).length_eq
    have hol := ho.len
    have hJ' : ∀ out' w', Ext w4 w' → SlR pinE w' (fun b => w.heap.size ≤ b ∧ b < w'.heap.size) out' (sortN (addO en ns[i] (some z.v))) → J out' w' := fun out' w' q1 q2 => by
      subst hJ
      exact hn hlt' out' w' ⟨_, q1, q2, hE.step hlt' hz⟩
    have hnd := hE.nodup
    clear hJ hn hE
    generalize hnm : ns[i] = nm at *
    have fin : ∀ (v : Addr) w', Ext w5 w' → BoxAt w' v [.int .i64 z.v.ma, .int .i64 z.v.mi, .int .i64 z.v.pa] → J2 v 1 w' := by
      subst hJ2
      intro v w7 x7 hbv
      refine ⟨fun h => absurd rfl h, fun _ => ?_⟩
      have x47 := x5.trans x7
      have x07 := x04.trans x47
      have ho7 : SlR pinE w7 (fun b => w.heap.size ≤ b ∧ b < w7.heap.size) out (sortN en) := (ho.ext x7).mono fun b hb => ⟨hb.1, by have := x7.size; omega⟩
      refine loop1.up ho.max (fun k w' => Ext w7 w' ∧ ∀ j (h : j < (sortN en).length), j < k → bLt (sortN en)[j].name nm = true) ⟨Ext.refl _, fun j _ h => by omega⟩ fun k w8 nxt2 hk ⟨x8, hK⟩ hn2 => bnd.drew fun w9 x9 => bound ?_
      have x79 := x8.trans x9
      have fin2 : ∀ w', Ext w7 w' → AtN (sortN en) nm k → bnd w'.drew fun (vw36 : World) => bnd (decide ((k : Int) < (out.len : Int))) fun (b37 : Bool) => ∃ (ad38 : Addr), grd b37 (out.a = some ad38 ∧ (0 : Int) ≤ (k : Int) ∧ (k : Int) < (out.len : Int)) ∧ ∃ (t92 : ByteArray), grd b37 (ldc vw36 (ad38.add ((k : Int).toNat * 4)) [(Value.string t92)]) ∧ ∃ (ad41 : Addr), grd b37 (so.a = some ad41 ∧ (0 : Int) ≤ (i : Int) ∧ (i : Int) < (so.len : Int)) ∧ ∃ (t96 : ByteArray), grd b37 (ldc vw36 (ad41.add ((i : Int).toNat * 1)) [(Value.string t96)]) ∧ (((b37 && (bEq t92 t96)) = true → J out vw36) ∧ ((b37 && (bEq t92 t96)) = false → ((0 : Int) ≤ (k : Int) ∧ (k : Int) ≤ (out.cap : Int)) ∧ appS Tryz.prog 26 26 Sl.nil (Sl.v (Sl.cut out 0 (k : Int).toNat 4)) vw36 fun t103 vw45 => bnd vw45.drew fun (vw46 : World) => ∃ (ad47 : Addr), (so.a = some ad47 ∧ (0 : Int) ≤ (i : Int) ∧ (i : Int) < (so.len : Int)) ∧ ∃ (t108 : ByteArray), (ldc vw46 (ad47.add ((i : Int).toNat * 1)) [(Value.string t108)]) ∧ ∃ (t109_Major : Int) (t109_Minor : Int) (t109_Patch : Int), (ldc vw46 v [(Value.int .i64 t109_Major), (Value.int .i64 t109_Minor), (Value.int .i64 t109_Patch)]) ∧ newS vw46 [(Value.string t108), (Value.int .i64 t109_Major), (Value.int .i64 t109_Minor), (Value.int .i64 t109_Patch)] 84 fun a51 vw52 => appS Tryz.prog 26 26 t103 (Sl.v (Sl.mk (some a51) 1 1)) vw52 fun t112 vw53 => ((0 : Int) ≤ (k : Int) ∧ (k : Int) ≤ (out.len : Int)) ∧ appS Tryz.prog 26 26 t112 (Sl.v (Sl.cut out (k : Int).toNat out.len 4)) vw53 fun t117 vw55 => J t117 vw55)) := by
        intro w10 x10 hA
        refine bnd.drew fun w11 x11 => bound ?_
        have x7b := x10.trans x11
        have x4b := x47.trans x7b
        have hob : SlR pinE w11 (fun b => w.heap.size ≤ b ∧ b < w11.heap.size) out (sortN en) := (ho7.ext x7b).mono fun b hb => ⟨hb.1, by have := x7b.size; omega⟩
        have new : (∀ h : k < (sortN en).length, (sortN en)[k].name ≠ nm) → ((0 : Int) ≤ (k : Int) ∧ (k : Int) ≤ (out.cap : Int)) ∧ appS Tryz.prog 26 26 Sl.nil (Sl.v (Sl.cut out 0 (k : Int).toNat 4)) w11 fun t103 vw45 => bnd vw45.drew fun (vw46 : World) => ∃ (ad47 : Addr), (so.a = some ad47 ∧ (0 : Int) ≤ (i : Int) ∧ (i : Int) < (so.len : Int)) ∧ ∃ (t108 : ByteArray), (ldc vw46 (ad47.add ((i : Int).toNat * 1)) [(Value.string t108)]) ∧ ∃ (t109_Major : Int) (t109_Minor : Int) (t109_Patch : Int), (ldc vw46 v [(Value.int .i64 t109_Major), (Value.int .i64 t109_Minor), (Value.int .i64 t109_Patch)]) ∧ newS vw46 [(Value.string t108), (Value.int .i64 t109_Major), (Value.int .i64 t109_Minor), (Value.int .i64 t109_Patch)] 84 fun a51 vw52 => appS Tryz.prog 26 26 t103 (Sl.v (Sl.mk (some a51) 1 1)) vw52 fun t112 vw53 => ((0 : Int) ≤ (k : Int) ∧ (k : Int) ≤ (out.len : Int)) ∧ appS Tryz.prog 26 26 t112 (Sl.v (Sl.cut out (k : Int).toNat out.len 4)) vw53 fun t117 vw55 => J t117 vw55 := fun hne =>
          insA (fun b hb => hb.2) hob hA.le (by omega) fun t w12 x12 o12 => bnd.drew fun w13 x13 => ⟨an, ⟨han, by omega, hlt⟩, nm, by rw [Int.toNat_natCast]; exact hcn _ (x4b.trans (x12.trans x13)), z.v.ma, z.v.mi, z.v.pa, (hbv.ext (x7b.trans (x12.trans x13))).ldc.pre (r := []) rfl,
            insB (p := ⟨nm, z.v⟩) (o12.ext x13) (x12.trans x13) (fun b hb => hb.2) hob hA.le hst (by omega) fun r w14 x14 hr => hJ' r w14 (x4b.trans x14) (by
              have e := (with_new (p := ⟨nm, z.v⟩) hnd hA hne).1
              rw [e] at hr
              exact hr.mono fun b hb => ⟨by have := (x04.trans x4b).size; omega, hb.2⟩)⟩
        have hle := hA.le
        by_cases hk2 : k < (sortN en).length
        · obtain ⟨ap, hap, _, _, hcp⟩ := pinEl hob hk2
          refine ⟨ap, fun _ => ⟨hap, by omega, by omega⟩, _, fun _ => by rw [Int.toNat_natCast]; exact (hcp _ (Ext.refl _)).pre rfl, an, fun _ => ⟨han, by omega, hlt⟩, nm, fun _ => by rw [Int.toNat_natCast]; exact hcn _ x4b, fun hq => ?_, fun hq => new fun _ hee => ?_⟩
          · rw [Bool.and_eq_true, bEq_iff] at hq
            have e := (with_old (p := ⟨nm, z.v⟩) hk2 hq.2).1
            exact hJ' out w11 x4b (by rw [show addO en nm (some z.v) = en from e]; exact hob)
          · rw [decide_eq_true (by omega : (k : Int) < (out.len : Int)), bEq_iff.2 hee] at hq; cases hq
        · have hd : decide ((k : Int) < (out.len : Int)) = false := decide_eq_false (by omega)
          rw [hd]
          exact ⟨⟨0, 0, none⟩, (fun h => by cases h), ⟨#[]⟩, (fun h => by cases h), ⟨0, 0, none⟩, (fun h => by cases h), ⟨#[]⟩, (fun h => by cases h), (fun h => by cases h), fun _ => new fun h => absurd h hk2⟩
      by_cases hk2 : k < (sortN en).length
      · have hd : decide ((k : Int) < (out.len : Int)) = true := decide_eq_true (by omega)
        rw [hd] at fin2 ⊢
        obtain ⟨ap, hap, _, _, hcp⟩ := pinEl ho7 hk2
        refine ⟨ap, fun _ => ⟨hap, by omega, by omega⟩, _, fun _ => (hcp _ x79).pre rfl, an, fun _ => ⟨han, by omega, hlt⟩, nm, fun _ => hcn _ (x47.trans x79), fun hq => hn2 hk2 w9 ⟨x79, fun j hj hjk => ?_⟩, fun hq => fin2 w9 x79 ⟨hk, hK, fun _ => by simpa using hq⟩⟩
        rcases Nat.lt_succ_iff_lt_or_eq.1 hjk with h | h
        · exact hK j hj h
        · subst h; simpa using hq
      · have hd : decide ((k : Int) < (out.len : Int)) = false := decide_eq_false (by omega)
        rw [hd] at fin2 ⊢
        exact ⟨⟨0, 0, none⟩, (fun h => by cases h), ⟨#[]⟩, (fun h => by cases h), ⟨0, 0, none⟩, (fun h => by cases h), ⟨#[]⟩, (fun h => by cases h), (fun h => by cases h), fun _ => fin2 w9 x79 ⟨hk, hK, fun h => absurd h hk2⟩⟩
    clear hJ2
    have x46 := x5.trans x6
    have x06 := x04.trans x46
    refine ⟨s, g1 _ (x4.trans x46), _, _, _, _, c, e, (g2 _ (x4.trans x46)).ldc.pre (r := []) rfl, an, ⟨han, by omega, hlt⟩, nm, hcn _ x46, ?_, ?_⟩
    · exact SE.halyardref10_env.go (r10env_se (hs.ext x06) (hc.ext x06) (he.ext x06) hN hz hzv fun w7 x7 => ⟨_, _, _, _, rfl, newS.set rfl fun a66 w8 x8 hb8 _ => fin a66 w8 (x6.trans (x7.trans x8)) hb8⟩)
    · refine newS.intro fun a69 w7 x7 hb7 hab7 _ => ?_
      exact SE.halyardref10_env.go (r10env_se (hs.ext (x06.trans x7)) (hc.ext (x06.trans x7)) (he.ext (x06.trans x7)) hN hz hzv fun w8 x8 => ⟨_, _, _, _, rfl, stw0.intro (hb7.ext x8) (by simp) fun w9 b9 _ hb9 => fin a69 w9 (b9.ext (x6.trans (x7.trans x8)) (by have := x6.size; omega)) hb9⟩)
  · have hil : i = ns.length := by omega
    rw [hil] at hE
    have := hdone en hE
    rw [this] at ho
    exact hR out w5 (x04.trans x5) ho
end Go.Hal
namespace Go.Hal
open Go Go.RowKit Go.Proofs Go.Shelf
set_option maxHeartbeats 1000000 in
theorem pinned_se {s : Sl} {e : List Pin} {p : Pin} {S : Nat → Prop} {w : World} {R : Sl → Bool → World → Prop} (hS : Old S w) (hs : SlR pinE w S s (sortN e)) (hn : (e.map (·.name)).Nodup) (hN : Str p.name) (hb : e.length ≤ 1000000000000)
    (hold : ∀ w', Ext w w' → e.any (isN p.name) = true → R s false w') (hnew : ∀ t w', Ext w w' → e.any (isN p.name) = false → SlR pinE w' (fun b => w.heap.size ≤ b ∧ b < w'.heap.size) t (sortN (e ++ [p])) → R t true w') : SE.halyardref09_pinned s p.name p.v.ma p.v.mi p.v.pa w R := by
  unfold SE.halyardref09_pinned
  have hl := hs.len
  have hle : (sortN e).length = e.length := (sortN_perm e).length_eq
  refine newS.intro fun a w1 x1 ha hab _ => ?_
  refine loop1.up hs.max (fun i w' => Ext w1 w' ∧ ∀ k (h : k < (sortN e).length), k < i → bLt (sortN e)[k].name p.name = true) ⟨Ext.refl _, fun k _ h => by omega⟩ fun i w2 nxt hi ⟨x2, hI⟩ hn' => bnd.drew fun w3 x3 => bound ?_
  have x13 := x2.trans x3
  have fin : ∀ w', Ext w1 w' → AtN (sortN e) p.name i → bnd w'.drew fun (vw5 : World) => bnd (decide ((i : Int) < (s.len : Int))) fun (b6 : Bool) => ∃ (ad7 : Addr), grd b6 (s.a = some ad7 ∧ (0 : Int) ≤ (i : Int) ∧ (i : Int) < (s.len : Int)) ∧ ∃ (t32 : ByteArray), grd b6 (ldc vw5 (ad7.add ((i : Int).toNat * 4)) [(Value.string t32)]) ∧ ∃ (t34 : ByteArray), grd b6 (ldc vw5 a [(Value.string t34)]) ∧ (((b6 && (bEq t32 t34)) = true → R s false vw5) ∧ ((b6 && (bEq t32 t34)) = false → ((0 : Int) ≤ (i : Int) ∧ (i : Int) ≤ (s.cap : Int)) ∧ appS Tryz.prog 26 26 Sl.nil (Sl.v (Sl.cut s 0 (i : Int).toNat 4)) vw5 fun t42 vw12 => ∃ (t44_Name : ByteArray) (t44_Version_Major : Int) (t44_Version_Minor : Int) (t44_Version_Patch : Int), (ldc vw12 a [(Value.string t44_Name), (Value.int .i64 t44_Version_Major), (Value.int .i64 t44_Version_Minor), (Value.int .i64 t44_Version_Patch)]) ∧ newS vw12 [(Value.string t44_Name), (Value.int .i64 t44_Version_Major), (Value.int .i64 t44_Version_Minor), (Value.int .i64 t44_Version_Patch)] 84 fun a14 vw15 => appS Tryz.prog 26 26 t42 (Sl.v (Sl.mk (some a14) 1 1)) vw15 fun t46 vw16 => ((0 : Int) ≤ (i : Int) ∧ (i : Int) ≤ (s.len : Int)) ∧ appS Tryz.prog 26 26 t46 (Sl.v (Sl.cut s (i : Int).toNat s.len 4)) vw16 fun t51 vw18 => R t51 true vw18)) := by
    intro w' hx hA
    refine bnd.drew fun w4 x4 => bound ?_
    have x14 := hx.trans x4
    have x04 := x1.trans x14
    have s04 := x04.size
    have new : (∀ h : i < (sortN e).length, (sortN e)[i].name ≠ p.name) → ((0 : Int) ≤ (i : Int) ∧ (i : Int) ≤ (s.cap : Int)) ∧ appS Tryz.prog 26 26 Sl.nil (Sl.v (Sl.cut s 0 (i : Int).toNat 4)) w4 fun t42 vw12 => ∃ (t44_Name : ByteArray) (t44_Version_Major : Int) (t44_Version_Minor : Int) (t44_Version_Patch : Int), (ldc vw12 a [(Value.string t44_Name), (Value.int .i64 t44_Version_Major), (Value.int .i64 t44_Version_Minor), (Value.int .i64 t44_Version_Patch)]) ∧ newS vw12 [(Value.string t44_Name), (Value.int .i64 t44_Version_Major), (Value.int .i64 t44_Version_Minor), (Value.int .i64 t44_Version_Patch)] 84 fun a14 vw15 => appS Tryz.prog 26 26 t42 (Sl.v (Sl.mk (some a14) 1 1)) vw15 fun t46 vw16 => ((0 : Int) ≤ (i : Int) ∧ (i : Int) ≤ (s.len : Int)) ∧ appS Tryz.prog 26 26 t46 (Sl.v (Sl.cut s (i : Int).toNat s.len 4)) vw16 fun t51 vw18 => R t51 true vw18 := fun hne =>
      insPins (p := p) (hS.ext s04) (hs.ext x04) hA.le (ha.ext x14) hN (by omega) fun t w5 x5 ht => by
        obtain ⟨q1, q2, q3⟩ := with_new hn hA hne
        rw [q1, q2] at ht
        exact hnew t w5 (x04.trans x5) q3 (ht.mono fun b hb => ⟨by omega, hb.2⟩)
    by_cases hlt : i < (sortN e).length
    · obtain ⟨ad, hsa, _, _, hc⟩ := pinEl hs hlt
      refine ⟨ad, fun _ => ⟨hsa, by omega, by omega⟩, _, fun _ => (hc _ x04).pre rfl, _, fun _ => ha.at0 x14 rfl, fun hq => ?_, fun hq => new fun _ he => ?_⟩
      · rw [Bool.and_eq_true, bEq_iff] at hq
        exact hold w4 x04 (with_old (p := p) hlt hq.2).2
      · rw [decide_eq_true (by omega : (i : Int) < (s.len : Int)), bEq_iff.2 he] at hq; cases hq
    · have hd : decide ((i : Int) < (s.len : Int)) = false := decide_eq_false (by omega)
      rw [hd]
      exact ⟨⟨0, 0, none⟩, (fun h => by cases h), ⟨#[]⟩, (fun h => by cases h), ⟨#[]⟩, (fun h => by cases h), (fun h => by cases h), fun _ => new fun h => absurd h hlt⟩
  by_cases hlt : i < (sortN e).length
  · have hd : decide ((i : Int) < (s.len : Int)) = true := decide_eq_true (by omega)
    rw [hd] at fin ⊢
    obtain ⟨ad, hsa, _, hst, hc⟩ := pinEl hs hlt
    refine ⟨ad, fun _ => ⟨hsa, by omega, by omega⟩, _, fun _ => (hc _ (x1.trans x13)).pre rfl, _, fun _ => ha.at0 x13 rfl, ?_⟩
    refine gCall.intro (bLt (sortN e)[i].name p.name) (fun _ k hk => SE.halyardref05_Less.go (r05less_se hst fun w' hx => ⟨_, rfl, hk w' hx⟩)) fun t19 w4 x4 ht => ?_
    rw [ht rfl]
    refine ⟨fun hq => hn' hlt w4 ⟨x13.trans x4, atN_step hlt hI (by simpa using hq)⟩, fun hq => ?_⟩
    exact fin w4 (x13.trans x4) ⟨hi, hI, fun _ => by simpa using hq⟩
  · have hd : decide ((i : Int) < (s.len : Int)) = false := decide_eq_false (by omega)
    rw [hd] at fin ⊢
    refine ⟨⟨0, 0, none⟩, (fun h => by cases h), ⟨#[]⟩, (fun h => by cases h), ⟨#[]⟩, (fun h => by cases h), ?_⟩
    refine gCall.intro false (fun h => by cases h) fun t19 w4 x4 _ => ?_
    exact ⟨(fun h => by cases h), fun _ => fin w4 (x13.trans x4) ⟨hi, hI, fun h => absurd h hlt⟩⟩
end Go.Hal
namespace Go.Hal
open Go Go.RowKit Go.Proofs Go.Shelf
theorem depBound {w : World} {S : Nat → Prop} {s : Sl} {l : List Dep} (h : SlR depE w S s l) : SlR depE w (fun b => S b ∧ b < w.heap.size) s l := by
  obtain ⟨h1, h2, h3, h4, h5⟩ := h
  refine ⟨h1, h2, h3, h4, ?_⟩
  rcases h5 with h0 | ⟨ad, ha, hs, hel⟩
  · exact .inl h0
  · rcases Nat.eq_zero_or_pos l.length with h0 | h0
    · exact .inl (List.eq_nil_of_length_eq_zero h0)
    · refine .inr ⟨ad, ha, ⟨hs, ?_⟩, fun i x hx => ?_⟩
      · obtain ⟨cs, ⟨_, t, rfl, _⟩, hl⟩ := hel 0 l[0] (List.getElem?_eq_getElem h0)
        have := World.block_lt_of_cell? w _ (hl 0 _ rfl)
        rwa [add_block, add_block] at this
      · obtain ⟨cs, ⟨k0, t, rfl, k1⟩, hl⟩ := hel i x hx
        exact ⟨_, ⟨k0, t, rfl, k1.bound (fun h => h) (by decide)⟩, hl⟩
set_option maxHeartbeats 8000000 in
theorem r09Context_se {SC SM SE3 : Nat → Prop} {c : Addr} {L : List Pack} {mD mDev mOpt mOv envS : Sl} {over : List Dep} {env : List Pin} {pn : Pin} {w : World} {R : Sl → Bool → World → Prop} (hC : RefR w SC c L) (hSM : Old SM w) (hSE : Old SE3 w)
    (hO : SlR depE w SM mOv over) (hE : SlR pinE w SE3 envS env) (hpn : Str pn.name)
    (hsome : ∀ a t w', ctxRes L over env pn = some a → Ext w w' → SlR pinE w' (fun b => w.heap.size ≤ b ∧ b < w'.heap.size) t a → R t true w')
    (hnone : ∀ w', ctxRes L over env pn = none → Ext w w' → R Sl.nil false w') : SE.halyardref09_Context (some c) mD mDev mOpt mOv envS pn.name pn.v.ma pn.v.mi pn.v.pa w R := by
  unfold SE.halyardref09_Context
  have hG := hC.good
  have hel := hE.len
  refine newS.intro fun a w1 x1 ha hab _ => newS.intro fun a1 w2 x2 ha1 hab1 _ => ⟨_, _, _, _, ha1.ldc.pre (r := []) rfl, newS.intro fun a3 w3 x3 hb3 hab3 _ => ?_⟩
  have x12 := x2.trans x3
  have x03 := x1.trans x12
  have hgo0 : ∀ o, ctxGo (getL L) over env pn (env.length + 2) 0 [] = o → ctxRes L over env pn = o.map sortN := fun o h => by
    show ctx (getL L) over env pn = _
    unfold ctx; rw [h]
  have start : SlR pinE w3 (fun b => w.heap.size ≤ b ∧ b < w3.heap.size) ⟨some a3, 1, 1⟩ ((pn :: []).drop 0) := by
    have := box_one (E := pinE) (S := None') (x := pn) hb3 ⟨rfl, hpn⟩ (by decide)
    have s0 := (x1.trans x2).size
    have l3 := hb3.lt
    exact this.mono fun b hb => by
      rcases hb with hb | rfl
      · exact hb.elim
      · exact ⟨by omega, l3⟩
  refine loop2.ghost (fun f so rs w' => ∃ (i : Nat) (out : List Pin), Ext w1 w' ∧ SlR pinE w' (fun b => w.heap.size ≤ b ∧ b < w'.heap.size) so (sortN out) ∧ SlR pinE w' (fun b => w.heap.size ≤ b ∧ b < w'.heap.size) rs ((pn :: out).drop i) ∧ CtxI (getL L) over env pn i out ∧ ctxGo (getL L) over env pn f i out = ctxGo (getL L) over env pn (env.length + 2) 0 [] ∧ env.length + 2 ≤ f + i)
    (env.length + 2) ⟨0, [], x12, SlR.nil trivial, start, CtxI.zero, rfl, by omega⟩ fun f so rs w4 nxt ⟨i, out, x4, hso, hrs, hI, hgo, hf⟩ hnx => ?_
  have hrl := hrs.len
  rw [List.length_drop, List.length_cons] at hrl
  have hil := hI.le
  have hol := hI.len
  have hbnd := ctx_bound hG hI
  obtain ⟨f, rfl⟩ : ∃ f', f = f' + 1 := ⟨f - 1, by omega⟩
  have x04 := x1.trans x4
  refine ⟨fun hlt => join.named fun J hJ => bnd.drew fun w5 x5 => ?_, fun hge => ?_⟩
  · have hi : i < (pn :: out).length := by rw [List.length_cons]; omega
    have hq : (pn :: out)[i]? = some (pn :: out)[i] := List.getElem?_eq_getElem hi
    have hd : (pn :: out).drop i = (pn :: out)[i] :: out.drop i := by
      rw [List.drop_eq_getElem_cons hi]; rfl
    generalize (pn :: out)[i] = q at hq hd
    rw [hd] at hrs
    obtain ⟨ar, har, _, hqs, hcr⟩ := pinEl hrs (n := 0) (by simp)
    have hcr : ∀ w', Ext w4 w' → ldc w' (ar.add (0 * 4)) (pinC q) := hcr
    have x05 := x04.trans x5
    have x15 := x4.trans x5
    have e0 : ((0 : Int)).toNat = 0 := rfl
    refine ⟨ar, ⟨har, by omega, hlt⟩, q.name, (hcr _ x5).pre rfl, ar, ⟨har, by omega, hlt⟩, q.v.ma, q.v.mi, q.v.pa, (hcr _ x5).mid (k := 1) (r := []) rfl, ?_⟩
    have key : ∀ (x : Addr) (d e o : Sl) (w6 : World), Ext w5 w6 → BoxAt w6 x [.string (getD L q.name q.v).name, .int .i64 (getD L q.name q.v).v.ma, .int .i64 (getD L q.name q.v).v.mi, .int .i64 (getD L q.name q.v).v.pa, d.v, e.v, o.v] →
        SlR depE w6 SC e (getD L q.name q.v).peers → J x (getL L q.name q.v).isSome w6 := by
      subst hJ
      intro x d e o w6 x6 hbx hpe
      have x06 := x05.trans x6
      have x46 := x5.trans x6
      cases hget : getL L q.name q.v with
      | none =>
        refine ⟨fun _ => hnone w6 ?_ x06, (fun h => by cases h)⟩
        rw [hgo0 none (by rw [← hgo]; exact ctxGo_none hq hget)]; rfl
      | some y =>
        have hD : getD L q.name q.v = y := by unfold getD; rw [hget]; rfl
        rw [hD] at hbx hpe
        have hrs6 : SlR pinE w6 (fun b => w.heap.size ≤ b ∧ b < w6.heap.size) rs (q :: out.drop i) := (hrs.ext x46).mono fun b hb => ⟨hb.1, by have := x46.size; omega⟩
        have hc := hrs6.cut (a := 1) (b := (q :: out.drop i).length) (by simp) (Nat.le_refl _)
        rw [List.take_length, List.drop_one, List.tail_cons, ← hrs6.len] at hc
        have hdl : (out.drop i).length = out.length - i := List.length_drop
        have eb : pinE.bytes = 40 := rfl
        refine ⟨(fun h => by cases h), fun _ => ⟨by omega, ?_⟩⟩
        refine (OwnS.zero (E := pinE) (T := 84) w6).appAll apPin (Nat.le_refl _) hc (fun b hb => hb.2) (fun ad h => by cases h) (by rw [hdl, eb]; simp; unfold room; omega) (by rw [hdl, maxLen_eq]; simp; omega) fun t44 w7 o7 bel7 _ _ => ?_
        rw [List.nil_append] at o7
        have o7 := OwnS.flat (fun h => h) o7
        have x7 : Ext w6 w7 := (Ext.refl w6).trans' bel7
        have x67 := x7
        have x07 := x06.trans x7
        have x17 : Ext w1 w7 := (x15.trans x6).trans x7
        refine ⟨_, _, _, _, d, e, o, (hbx.ext x7).ldc.pre (r := []) rfl, mD, mDev, mOpt, mOv, (ha.ext x17).ldc.pre (r := []) rfl, ?_⟩
        refine SE.halyardref09_Peers.go (refPeers_se (S := fun b => SC b ∨ SM b) (over := over) (peers := y.peers) (fun b hb => by
          have s1 := x07.size
          rcases hb with hb | hb
          · have := hC.old b hb; omega
          · have := hSM b hb; omega) ((hO.ext x07).mono fun b hb => .inr hb) ((hpe.ext x7).mono fun b hb => .inl hb) fun t47 w8 x8 hpeers => ⟨t47, rfl, ?_⟩)
        have x68 := x7.trans x8
        have x08 := x07.trans x8
        have s6 := x06.size
        have s7 := x7.size
        have s8 := x8.size
        have hpl := hpeers.len
        have hpmax := hpeers.max
        have hpb : (peersOf over y.peers).length ≤ 16 := by
          have h1 := congrArg List.length (peers_names over y.peers)
          rw [List.length_map, List.length_map] at h1
          obtain ⟨_, _, _, h2, _⟩ := may_lists (hG.may y (getL_some hget).1)
          have := (depsMay_names h2).1
          omega
        have hSP : ∀ b, ((SC b ∨ SM b) ∨ w7.heap.size ≤ b) → b < w6.heap.size ∨ w7.heap.size ≤ b := fun b hb => by
          rcases hb with (hb | hb) | hb
          · have := hC.old b hb; omega
          · have := hSM b hb; omega
          · exact .inr hb
        have hpeers : SlR depE w8 (fun b => (b < w6.heap.size ∨ w7.heap.size ≤ b) ∧ b < w8.heap.size) t47 (peersOf over y.peers) := by
          exact (depBound hpeers).mono fun b hb => ⟨hSP b hb.1, hb.2⟩
        generalize hPP : peersOf over y.peers = peers at *
        have hstep0 : ctxStep env (peers.drop 0) out = ctxStep env peers out := rfl
        have hnames0 := hI.names
        have htold0 := hI.told
        refine loop3.ghost (fun n so vn k w' => ∃ (j : Nat) (O : List Pin) (So : Nat → Prop), k = (j : Int) ∧ n = peers.length - j ∧ j ≤ peers.length ∧ Ext w6 w' ∧ w8.heap.size ≤ w'.heap.size ∧ SlR pinE w' So so (sortN O) ∧ (∀ b, So b → w.heap.size ≤ b ∧ b < w'.heap.size) ∧ OwnS pinE 84 w' w6.heap.size None' vn (O.drop i) ∧
            (∀ ad, vn.a = some ad → ¬ So ad.block ∧ (ad.block < w7.heap.size ∨ w8.heap.size ≤ ad.block)) ∧ SlR depE w' (fun b => (b < w6.heap.size ∨ w7.heap.size ≤ b) ∧ b < w8.heap.size) t47 peers ∧ ctxStep env (peers.drop j) O = ctxStep env peers out ∧ (O.map (·.name)).Nodup ∧ i ≤ O.length ∧ O.length ≤ out.length + j)
          peers.length ⟨0, out, fun b => w.heap.size ≤ b ∧ b < w6.heap.size, rfl, by omega, Nat.zero_le _, x68, Nat.le_refl _, (hso.ext (x46.trans x68)).mono fun b hb => ⟨hb.1, by have := x46.size; omega⟩, fun b hb => ⟨hb.1, by omega⟩, o7.ext x8, fun ad had => by
            have := o7.block had
            exact ⟨by omega, .inl this.2.1⟩, hpeers, rfl, hnames0, by omega, Nat.le_refl _⟩ fun n so' vn k w9 nxt' ⟨j, O, So, hk, hn, hjl, x9, s9, hsO, hSo, oV, hap, hP9, hst, hnd, hiO, hOl⟩ hnx' => ?_
        subst hk
        have x09 := x06.trans x9
        have hOl2 : O.length ≤ 4096 := by omega
        refine ⟨fun hlt3 => join.named fun J3 hJ3 => ?_, fun hge3 => ?_⟩
        · have hj : j < peers.length := by omega
          obtain ⟨adp, tr, hpa, _, hds, hdr, hcp⟩ := depEl hP9 hj
          have hdr0 : peers.drop j = peers[j] :: peers.drop (j + 1) := List.drop_eq_getElem_cons hj
          rw [hdr0] at hst
          generalize peers[j] = dd at *
          have bad : ∀ w', Ext w w' → ctxStep env (dd :: peers.drop (j + 1)) O = none → R Sl.nil false w' := fun w' hx h => hnone w' (by
            rw [h] at hst
            rw [hgo0 none (by rw [← hgo]; exact ctxGo_fail hq hget (by rw [hPP]; exact hst.symm))]; rfl) hx
          have hJ' : ∀ (so2 vn2 : Sl) w' (O2 : List Pin) (So2 : Nat → Prop), Ext w6 w' → w8.heap.size ≤ w'.heap.size → SlR pinE w' So2 so2 (sortN O2) → (∀ b, So2 b → w.heap.size ≤ b ∧ b < w'.heap.size) → OwnS pinE 84 w' w6.heap.size None' vn2 (O2.drop i) →
              (∀ ad, vn2.a = some ad → ¬ So2 ad.block ∧ (ad.block < w7.heap.size ∨ w8.heap.size ≤ ad.block)) → SlR depE w' (fun b => (b < w6.heap.size ∨ w7.heap.size ≤ b) ∧ b < w8.heap.size) t47 peers → ctxStep env (peers.drop (j + 1)) O2 = ctxStep env peers out → (O2.map (·.name)).Nodup → i ≤ O2.length → O2.length ≤ out.length + (j + 1) → J3 so2 vn2 w' := fun so2 vn2 w' O2 So2 q1 q2 q3 q4 q5 q6 q7 q8 q9 q10 q11 => by
            subst hJ3
            refine hnx' (peers.length - (j + 1)) so2 vn2 _ w' (by omega) ⟨j + 1, O2, So2, ?_, rfl, hj, q1, q2, q3, q4, q5, q6, q7, q8, q9, q10, q11⟩
            rw [wrapI_eq (by omega) (by omega)]; omega
          clear hJ3 hnx'
          refine ⟨adp, ⟨hpa, by omega, hlt3⟩, _, by rw [Int.toNat_natCast]; exact (hcp _ (Ext.refl _)).pre rfl, ?_⟩
          refine SE.halyardref09_tells.go (r09tells_se (hE.ext x09) (fun v w10 hv x10 => ⟨_, _, _, true, rfl, newS.set rfl fun a22 w11 x11 hb11 hab11 => bnd.drew fun w12 x12 => bound ⟨adp, fun _ => ⟨hpa, by omega, hlt3⟩, tr, fun _ => by rw [Int.toNat_natCast]; exact (hcp _ (x10.trans (x11.trans x12))).mid (k := 1) (r := []) rfl, v.ma, v.mi, v.pa, fun _ => (hb11.ext x12).ldc.pre (r := []) rfl, ?_⟩⟩) fun w10 hv x10 => ⟨_, _, _, false, rfl, newS.set rfl fun a22 w11 x11 hb11 _ => bnd.drew fun w12 x12 => bound ⟨adp, (fun h => by cases h), tr, (fun h => by cases h), 0, 0, 0, (fun h => by cases h), ?_⟩⟩)
          · have x912 := x10.trans (x11.trans x12)
            refine gCall.intro (spansIn dd.range v) (fun _ k hk => SE.halyardref03_In.go (r03In_se (hdr.ext x912) fun w' hx => ⟨_, rfl, hk w' hx⟩)) fun t73 w13 x13 ht => ?_
            rw [ht rfl]
            have x913 := x912.trans x13
            refine ⟨fun hq2 => bad w13 (x09.trans x913) (ctxStep_no hv (by simpa using hq2)), fun hq2 => bnd.drew fun w14 x14 => ?_⟩
            have hin : spansIn dd.range v = true := by simpa using hq2
            have x914 := x913.trans x14
            have hb14 := hb11.ext (x12.trans (x13.trans x14))
            refine ⟨adp, ⟨hpa, by omega, hlt3⟩, _, by rw [Int.toNat_natCast]; exact (hcp _ x914).pre rfl, v.ma, v.mi, v.pa, hb14.ldc.pre (r := []) rfl, ?_⟩
            refine SE.halyardref09_pinned.go (pinned_se (e := O) (p := ⟨dd.name, v⟩) (S := So) (fun b hb => by have := (hSo b hb).2; have := x914.size; omega) (hsO.ext x914) hnd hds (by omega) (fun w15 x15 hany => ⟨so', false, rfl, (fun h => by cases h), fun _ => ?_⟩) fun t85 w15 x15 hany ht85 => ⟨t85, true, rfl, fun _ => bnd.drew fun w16 x16 => ?_, (fun h => by cases h)⟩)
            · have x915 := x914.trans x15
              have s915 := x915.size
              rw [ctxStep_old hv hin hany] at hst
              exact hJ' so' vn w15 O So (x9.trans x915) (by omega) (hsO.ext x915) (fun b hb => ⟨(hSo b hb).1, by have := (hSo b hb).2; omega⟩) (oV.ext x915) hap (hP9.ext x915) hst hnd hiO (by omega)
            · have x916 := x914.trans (x15.trans x16)
              have s914 := x914.size
              have s15 := x15.size
              have s16 := x16.size
              rw [ctxStep_new hv hin hany] at hst
              refine ⟨adp, ⟨hpa, by omega, hlt3⟩, _, by rw [Int.toNat_natCast]; exact (hcp _ x916).pre rfl, v.ma, v.mi, v.pa, (hb14.ext (x15.trans x16)).ldc.pre (r := []) rfl, newS.intro fun a48 w17 x17 hb17 hab17 _ => ?_⟩
              have x917 := x916.trans x17
              have s17 := x17.size
              have s917 := x917.size
              have s69 := x9.size
              have hOd : (O.drop i).length = O.length - i := List.length_drop
              refine (oV.ext x917).push apPin (by omega) (x := ⟨dd.name, v⟩) (S' := None') ⟨rfl, hds⟩ (hb17.ldc.pre (r := []) rfl) (fun _ h => h.elim) (fun _ _ h => h.elim) (by rw [hOd, eb]; unfold room; omega) (by rw [hOd, maxLen_eq]; omega) fun vn2 w18 o18 bel18 oth18 reg18 => ?_
              have o18 := OwnS.flat (fun h => h) o18
              have hoth : Oth vn w17 w18 := ⟨bel18.size, oth18⟩
              have s18 := bel18.size
              have x618 : Ext w6 w18 := (x9.trans x917).trans' bel18
              have ht85' := (ht85.ext (x16.trans x17))
              have hvb : ∀ ad, vn.a = some ad → ad.block < w9.heap.size := fun ad had => (oV.block had).2.1
              refine hJ' t85 vn2 w18 (O ++ [⟨dd.name, v⟩]) (fun b => w14.heap.size ≤ b ∧ b < w15.heap.size) x618 (by omega) (ht85'.oth hoth fun ad had hb => by have := hvb ad had; omega) (fun b hb => ⟨by have := x09.size; omega, by omega⟩) ?_ (fun ad had => ?_) ((hP9.ext x917).oth hoth fun ad had hb => by
                  have := (hap ad had).2; have := (oV.block had).1; omega) hst ?_ (by rw [List.length_append]; omega) (by rw [List.length_append, List.length_singleton]; omega)
              · rw [List.drop_append_of_le_length hiO]; exact o18
              · rcases reg18 ad had with h | h
                · have h1 := hvb ad h
                  exact ⟨by omega, (hap ad h).2⟩
                · exact ⟨by omega, .inr (by omega)⟩
              · rw [List.map_append, List.nodup_append]
                refine ⟨hnd, by simp, fun a ha b hb => ?_⟩
                simp only [List.map_cons, List.map_nil, List.mem_singleton] at hb
                subst hb
                obtain ⟨z, hz, rfl⟩ := List.mem_map.1 ha
                have := List.any_eq_false.1 hany z hz
                intro he; exact this (by simp [isN, he])
          · refine gCall.intro false (fun h => by cases h) fun t73 w13 x13 _ => ⟨fun _ => bad w13 (x09.trans ((x10.trans (x11.trans x12)).trans x13)) (ctxStep_none hv), (fun h => by cases h)⟩
        · have hj : j = peers.length := by omega
          rw [hj, List.drop_length] at hst
          have hst' : ctxStep env (peersOf over y.peers) out = some O := by rw [hPP]; exact hst.symm
          rw [ctxGo_next hq hget hst'] at hgo
          have hI2 := hI.next hq hget hst'
          have s69 := x9.size
          have hrd := oV.read (by rw [List.length_drop]; show _ * 40 ≤ room; unfold room; omega) (by rw [List.length_drop, maxLen_eq]; omega)
          refine hnx f so' vn w9 (by omega) ⟨i + 1, O, (x15.trans x6).trans x9, hsO.mono hSo, hrd.mono fun b hb => ?_, hI2, hgo, by omega⟩
          rcases hb with hb | ⟨ad, had, rfl⟩
          · exact hb.elim
          · have := oV.block had; exact ⟨by omega, this.2.1⟩
    have hD5 := fun (k : ∀ d e o w', Ext w5 w' → Str (getD L q.name q.v).name → SlR depE w' SC d (getD L q.name q.v).deps → SlR depE w' SC e (getD L q.name q.v).peers → SlR depE w' SC o (getD L q.name q.v).opt → True) => k
    refine ⟨SE.halyardref08_Catalog_Get.go (r08Get_se (n := q.name) (v := q.v) (hC.ext x05) fun d e o w6 x6 _ hd he ho => ⟨_, _, _, _, d, e, o, _, rfl, newS.set rfl fun a63 w7 x7 hb7 _ => key a63 d e o w7 (x6.trans x7) hb7 (he.ext x7)⟩), newS.intro fun a66 w6 x6 hb6 hab6 _ => SE.halyardref08_Catalog_Get.go (r08Get_se (n := q.name) (v := q.v) (hC.ext (x05.trans x6)) fun d e o w7 x7 _ hd he ho => ⟨_, _, _, _, d, e, o, _, rfl, stw0.intro (hb6.ext x7) (by simp) fun w8 b8 _ hb8 => ?_⟩)⟩
    have x58 : Ext w5 w8 := b8.ext (x6.trans x7) (by omega)
    refine key a66 d e o w8 x58 hb8 (he.but b8 fun h => ?_)
    have := hC.old _ h
    have := x05.size
    omega
  · have hnn : (pn :: out)[i]? = none := List.getElem?_eq_none (by rw [List.length_cons]; omega)
    rw [ctxGo_end hnn] at hgo
    exact hsome (sortN out) so w4 (by rw [hgo0 (some out) hgo.symm]; rfl) x04 hso
end Go.Hal
namespace Go.Hal
open Go Go.RowKit Go.Proofs Go.Shelf
set_option maxHeartbeats 2000000 in
theorem r06text_se {m : Mani} {d e o v : Sl} {S : Nat → Prop} {w : World} {R : ByteArray → World → Prop} (hm : maniLists m = true) (hd : SlR depE w S d m.deps) (he : SlR depE w S e m.dev) (ho : SlR depE w S o m.opt) (hv : SlR depE w S v m.over)
    (hR : ∀ w', Ext w w' → R (B (maniText m)) w') : SE.halyardref06_text d e o v w R := by
  unfold SE.halyardref06_text
  unfold maniLists at hm
  simp only [Bool.and_eq_true] at hm
  obtain ⟨⟨⟨h1, h2⟩, h3⟩, h4⟩ := hm
  have n1 := depsMay_names h1; have n2 := depsMay_names h2; have n3 := depsMay_names h3; have n4 := depsMay_names h4
  have l1 := depLines_len (word := wNeeds) (by decide) fun d hd => (n1.2 d hd).1
  have l2 := depLines_len (word := wDev) (by decide) fun d hd => (n2.2 d hd).1
  have l3 := depLines_len (word := wLikes) (by decide) fun d hd => (n3.2 d hd).1
  have l4 := depLines_len (word := wPins) (by decide) fun d hd => (n4.2 d hd).1
  refine newS.intro fun a w1 x1 hb _ _ => bnd.drew fun w2 x2 => ?_
  refine ⟨d, hb.at0 (by (repeat (first | assumption | exact Ext.refl _ | refine Ext.trans ?_ (by assumption)))) rfl, e, hb.at1 (by (repeat (first | assumption | exact Ext.refl _ | refine Ext.trans ?_ (by assumption)))) rfl, o, hb.at1 (by (repeat (first | assumption | exact Ext.refl _ | refine Ext.trans ?_ (by assumption)))) rfl, v, hb.at1 (by (repeat (first | assumption | exact Ext.refl _ | refine Ext.trans ?_ (by assumption)))) rfl, callX.intro (SE.halyardref05_Lines.go (word := B wNeeds) (r05Lines_se (by decide) h1 (hd.ext (by (repeat (first | assumption | exact Ext.refl _ | refine Ext.trans ?_ (by assumption))))) fun w3 x3 => ⟨x3, _, rfl, ?_⟩))⟩
  simp only [lit_app]
  refine ⟨by rw [lit_size, B_size, maxI_eq]; simp; omega, callX.intro (SE.halyardref05_Lines.go (word := B wDev) (r05Lines_se (by decide) h2 (he.ext (by (repeat (first | assumption | exact Ext.refl _ | refine Ext.trans ?_ (by assumption))))) fun w4 x4 => ⟨x4, _, rfl, ?_⟩))⟩
  simp only [B_app]
  refine ⟨by rw [B_size, B_size, maxI_eq]; simp; omega, callX.intro (SE.halyardref05_Lines.go (word := B wLikes) (r05Lines_se (by decide) h3 (ho.ext (by (repeat (first | assumption | exact Ext.refl _ | refine Ext.trans ?_ (by assumption))))) fun w5 x5 => ⟨x5, _, rfl, ?_⟩))⟩
  simp only [B_app]
  refine ⟨by rw [B_size, B_size, maxI_eq]; simp; omega, SE.halyardref05_Lines.go (word := B wPins) (r05Lines_se (by decide) h4 (hv.ext (by (repeat (first | assumption | exact Ext.refl _ | refine Ext.trans ?_ (by assumption))))) fun w6 x6 => ⟨_, rfl, ?_⟩)⟩
  simp only [B_app]
  refine ⟨by rw [B_size, B_size, maxI_eq]; simp; omega, ?_⟩
  have := hR w6 (by (repeat (first | assumption | exact Ext.refl _ | refine Ext.trans ?_ (by assumption))))
  simpa [maniText, pjText] using this
set_option maxHeartbeats 2000000 in
theorem r06May_se {m : Mani} {d e o v : Sl} {S : Nat → Prop} {w : World} {R : Bool → World → Prop} (hd : SlR depE w S d m.deps) (he : SlR depE w S e m.dev) (ho : SlR depE w S o m.opt) (hv : SlR depE w S v m.over)
    (hR : ∀ w', Ext w w' → R (maniMay m) w') : SE.halyardref06_May d e o v w R := by
  unfold SE.halyardref06_May
  refine newS.intro fun _ w1 x1 hb _ _ => ?_
  refine ⟨d, hb.at0 (by (repeat (first | assumption | exact Ext.refl _ | refine Ext.trans ?_ (by assumption)))) rfl, SE.halyardref05_List.go (r05List_se (hd.ext (by (repeat (first | assumption | exact Ext.refl _ | refine Ext.trans ?_ (by assumption))))) fun w2 x2 => ⟨_, rfl, bound ?_⟩)⟩
  refine ⟨e, fun _ => hb.at1 (by (repeat (first | assumption | exact Ext.refl _ | refine Ext.trans ?_ (by assumption)))) rfl, gCall.intro (depsMay m.dev) (fun _ q hq => SE.halyardref05_List.go (r05List_se (he.ext (by (repeat (first | assumption | exact Ext.refl _ | refine Ext.trans ?_ (by assumption))))) fun w' hx => ⟨_, rfl, hq _ hx⟩)) fun t2 w3 x3 ht2 => bound ?_⟩
  refine ⟨o, fun _ => hb.at1 (by (repeat (first | assumption | exact Ext.refl _ | refine Ext.trans ?_ (by assumption)))) rfl, gCall.intro (depsMay m.opt) (fun _ q hq => SE.halyardref05_List.go (r05List_se (ho.ext (by (repeat (first | assumption | exact Ext.refl _ | refine Ext.trans ?_ (by assumption))))) fun w' hx => ⟨_, rfl, hq _ hx⟩)) fun t3 w4 x4 ht3 => bound ?_⟩
  refine ⟨v, fun _ => hb.at1 (by (repeat (first | assumption | exact Ext.refl _ | refine Ext.trans ?_ (by assumption)))) rfl, gCall.intro (depsMay m.over) (fun _ q hq => SE.halyardref05_List.go (r05List_se (hv.ext (by (repeat (first | assumption | exact Ext.refl _ | refine Ext.trans ?_ (by assumption))))) fun w' hx => ⟨_, rfl, hq _ hx⟩)) fun t4 w5 x5 ht4 => ?_⟩
  have e1 : ((((!depsMay m.deps) || (!t2)) || (!t3)) || (!t4)) = !maniLists m := by
    unfold maniLists
    cases h1 : depsMay m.deps
    · simp
    rw [h1] at ht2 ht3 ht4
    rw [ht2 rfl] at ht3 ht4 ⊢
    cases h2 : depsMay m.dev
    · simp
    rw [h2] at ht3 ht4
    rw [ht3 rfl] at ht4 ⊢
    cases h3 : depsMay m.opt
    · simp
    rw [h3] at ht4
    rw [ht4 rfl]
    simp
  rw [e1]
  refine ⟨fun h => ?_, fun h => ?_⟩
  · have : maniMay m = false := by
      unfold maniMay
      have : maniLists m = false := by simpa using h
      rw [this]; rfl
    rw [← this]; exact hR _ (by (repeat (first | assumption | exact Ext.refl _ | refine Ext.trans ?_ (by assumption))))
  have hm : maniLists m = true := by simpa using h
  refine ⟨d, hb.at0 (by (repeat (first | assumption | exact Ext.refl _ | refine Ext.trans ?_ (by assumption)))) rfl, e, hb.at1 (by (repeat (first | assumption | exact Ext.refl _ | refine Ext.trans ?_ (by assumption)))) rfl, SE.halyardref05_Apart.go (r05Apart_se (hd.ext (by (repeat (first | assumption | exact Ext.refl _ | refine Ext.trans ?_ (by assumption))))) (he.ext (by (repeat (first | assumption | exact Ext.refl _ | refine Ext.trans ?_ (by assumption))))) fun w6 x6 => ⟨_, rfl, ?_⟩)⟩
  refine ⟨d, fun _ => hb.at0 (by (repeat (first | assumption | exact Ext.refl _ | refine Ext.trans ?_ (by assumption)))) rfl, o, fun _ => hb.at1 (by (repeat (first | assumption | exact Ext.refl _ | refine Ext.trans ?_ (by assumption)))) rfl, gCall.intro (apart2 m.deps m.opt) (fun _ q hq => SE.halyardref05_Apart.go (r05Apart_se (hd.ext (by (repeat (first | assumption | exact Ext.refl _ | refine Ext.trans ?_ (by assumption))))) (ho.ext (by (repeat (first | assumption | exact Ext.refl _ | refine Ext.trans ?_ (by assumption))))) fun w' hx => ⟨_, rfl, hq _ hx⟩)) fun t5 w7 x7 ht5 => bound ?_⟩
  refine ⟨e, fun _ => hb.at1 (by (repeat (first | assumption | exact Ext.refl _ | refine Ext.trans ?_ (by assumption)))) rfl, o, fun _ => hb.at1 (by (repeat (first | assumption | exact Ext.refl _ | refine Ext.trans ?_ (by assumption)))) rfl, gCall.intro (apart2 m.dev m.opt) (fun _ q hq => SE.halyardref05_Apart.go (r05Apart_se (he.ext (by (repeat (first | assumption | exact Ext.refl _ | refine Ext.trans ?_ (by assumption))))) (ho.ext (by (repeat (first | assumption | exact Ext.refl _ | refine Ext.trans ?_ (by assumption))))) fun w' hx => ⟨_, rfl, hq _ hx⟩)) fun t6 w8 x8 ht6 => bound ?_⟩
  have e2 : ((apart2 m.deps m.dev && t5) && t6) = maniApart m := by
    unfold maniApart
    cases h1 : apart2 m.deps m.dev
    · rfl
    rw [h1] at ht5 ht6
    rw [ht5 rfl] at ht6 ⊢
    cases h2 : apart2 m.deps m.opt
    · rfl
    rw [h2] at ht6
    rw [ht6 rfl]
  rw [e2]
  refine ⟨d, e, o, v, fun _ => hb.at0 (r := []) (by (repeat (first | assumption | exact Ext.refl _ | refine Ext.trans ?_ (by assumption)))) rfl, gCall.intro (B (maniText m)) (fun _ q hq => SE.halyardref06_text.go (r06text_se hm (hd.ext (by (repeat (first | assumption | exact Ext.refl _ | refine Ext.trans ?_ (by assumption))))) (he.ext (by (repeat (first | assumption | exact Ext.refl _ | refine Ext.trans ?_ (by assumption))))) (ho.ext (by (repeat (first | assumption | exact Ext.refl _ | refine Ext.trans ?_ (by assumption))))) (hv.ext (by (repeat (first | assumption | exact Ext.refl _ | refine Ext.trans ?_ (by assumption))))) fun w' hx => ⟨_, rfl, hq _ hx⟩)) fun t7 w9 x9 ht7 => ?_⟩
  have e3 : (maniApart m && decide ((t7.size : Int) ≤ 4096)) = maniMay m := by
    unfold maniMay
    rw [hm, Bool.true_and]
    cases h1 : maniApart m
    · rfl
    rw [ht7 h1, B_size, Bool.true_and, Bool.true_and, decide_eq_decide]; omega
  rw [e3]; exact hR _ (by (repeat (first | assumption | exact Ext.refl _ | refine Ext.trans ?_ (by assumption))))
end Go.Hal
