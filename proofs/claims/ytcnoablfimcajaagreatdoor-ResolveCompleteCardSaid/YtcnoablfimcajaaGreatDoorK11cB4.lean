/- Lemmas for the claim K11c: how the program's functions run, and what they answer; no condition but those that each theorem names. -/
import Derived.Shelf.Sort.Plain
import Derived.Shelf.Slices.In.SortNone
import Derived.Ground.NamesProg
import Derived.Test.YtcnoablfimcajaaGreatDoorProg
import Derived.Test.YtcnoablfimcajaaGreatDoorK11cB3
set_option linter.unusedVariables false
set_option linter.unusedSimpArgs false
namespace Go.Hal
def npin (x : Node) : Pin:=⟨x.name,x.v⟩
def cPin (a b : Pin) : Int:=or2 (cmpS a.name b.name) (a.v.cmp b.v)
def StrictL {α : Type} (c : α → α → Int) (l : List α) : Prop:=l.Pairwise fun a b=>c a b < 0
theorem StrictL.nodup {α : Type} {c : α → α → Int} (hc : Ord3 c) {l : List α} (h : StrictL c l) : l.Nodup:=by
 rw [List.nodup_iff_pairwise_ne]
 refine h.imp fun {a b} h e=>?_
 subst e
 have:=(hc.flip a a).1 h
 omega
theorem StrictL.of {α : Type} {c : α → α → Int} (hc : Ord3 c) (h0 : ∀ {a b},c a b = 0 → a = b) {l : List α} (hn : l.Nodup) (hs : l.Pairwise fun x y=>¬ c y x < 0) : StrictL c l:=by
 rw [List.nodup_iff_pairwise_ne] at hn
 refine (hn.and hs).imp fun {a b} ⟨h1,h2⟩=>?_
 have h3 : c a b ≠ 0:=fun h=>h1 (h0 h)
 have h4:=hc.flip b a
 omega
structure AtC {α : Type} (c : α → α → Int) (l : List α) (x : α) (i : Nat) : Prop where
 le : i ≤ l.length
 lo : ∀ k (h : k < l.length),k < i → c l[k] x < 0
 hi : ∀ h : i < l.length,¬ c l[i] x < 0
def PinsAre (g : List Node) (l : List Pin) : Prop:=StrictL cPin l ∧ ∀ y,y ∈ l ↔ y ∈ (g.drop 1).map npin
theorem cmpI_lt {a b : Int} : cmpI a b < 0 ↔ a < b:=by
 rcases cmpI_cases a b with ⟨h1,h2⟩ | ⟨h1,h2⟩ | ⟨h1,h2⟩ <;> rw [h1] <;> omega
def ReachAre (g : List Node) (l : List Int) : Prop:=StrictL cmpI l ∧ ∀ y,y ∈ l ↔ ∃ k ∈ bfs g,y = (k : Int)
theorem bfs_nodup (g : List Node) : (bfs g).Nodup:=by
 by_cases h : g = []
 ·unfold bfs; rw [if_pos h]; exact List.nodup_nil
 ·exact (bfs_ok h).1
theorem ReachAre.of_perm {g : List Node} {l : List Int} (hp : l.Perm ((bfs g).map fun k : Nat=>(k : Int))) (hs : l.Pairwise (· ≤ ·)) : ReachAre g l:=by
 have hn : ((bfs g).map fun k : Nat=>(k : Int)).Nodup:=by
  rw [List.nodup_iff_pairwise_ne,List.pairwise_map]
  have:=bfs_nodup g
  rw [List.nodup_iff_pairwise_ne] at this
  exact this.imp fun {a b} h e=>h (by omega)
 refine ⟨.of cmpI_ord (fun h=>cmpI_eq.1 h) (hp.nodup_iff.2 hn) (hs.imp fun {a b} h=>?_),fun y=>?_⟩
 ·rw [cmpI_lt]; omega
 ·rw [hp.mem_iff,List.mem_map]
  exact ⟨fun ⟨k,h1,h2⟩=>⟨k,h1,h2.symm⟩,fun ⟨k,h1,h2⟩=>⟨k,h1,h2.symm⟩⟩
theorem ReachAre.len {g : List Node} {l : List Int} (h : ReachAre g l) : l.length = (bfs g).length:=by
 have hn : ((bfs g).map fun k : Nat=>(k : Int)).Nodup:=by
  rw [List.nodup_iff_pairwise_ne,List.pairwise_map]
  have:=bfs_nodup g
  rw [List.nodup_iff_pairwise_ne] at this
  exact this.imp fun {a b} h e=>h (by omega)
 have hp : l.Perm ((bfs g).map fun k : Nat=>(k : Int)):=(List.perm_ext_iff_of_nodup (h.1.nodup cmpI_ord) hn).2 fun y=>by
  rw [h.2,List.mem_map]
  exact ⟨fun ⟨k,h1,h2⟩=>⟨k,h1,h2.symm⟩,fun ⟨k,h1,h2⟩=>⟨k,h1,h2.symm⟩⟩
 rw [hp.length_eq,List.length_map]
theorem ReachAre.filter (g : List Node) : ReachAre g (((List.range g.length).filter fun k=>decide (k ∈ bfs g)).map fun k : Nat=>(k : Int)):=by
 refine ⟨?_,fun y=>?_⟩
 ·unfold StrictL
  rw [List.pairwise_map]
  refine (List.Pairwise.filter _ (List.pairwise_lt_range (n:=g.length))).imp fun {a b} h=>?_
  rw [cmpI_lt]; omega
 ·simp only [List.mem_map,List.mem_filter,List.mem_range,decide_eq_true_eq]
  constructor
  ·rintro ⟨k,⟨_,h⟩,rfl⟩; exact ⟨k,h,rfl⟩
  ·rintro ⟨k,h,rfl⟩
   refine ⟨k,⟨?_,h⟩,rfl⟩
   by_cases hg : g = []
   ·unfold bfs at h; rw [if_pos hg] at h; cases h
   ·exact (bfs_ok hg).2.1 k h
theorem bfsGo_end {g : List Node} {f i : Nat} {out : List Nat} (h : out[i]? = none) : bfsGo g (f + 1) i out = out:=by
 unfold bfsGo; rw [h]
theorem bfsGo_next {g : List Node} {f i k : Nat} {out : List Nat} (h : out[i]? = some k) : bfsGo g (f + 1) i out = bfsGo g f (i + 1) ((edgesAt g k).foldl (stepB g.length) out):=by
 conv=>lhs; unfold bfsGo
 rw [h]
end Go.Hal
namespace Go.Hal
open Go Go.RowKit Go.Proofs Go.Shelf
theorem newS.set {w : World} {zs cs : List Value} {t : TypeId} {k : Addr → World → Prop} (hl : cs.length = zs.length) (h : ∀ a w',Ext w w' → BoxAt w' a cs → a.block = w.heap.size → k a w') : newS w zs t fun a w1=>stw w1 a cs fun w2=>k a w2 :=
 newS.intro fun a w1 x1 ha hab hsz=>stw0.intro ha (by omega) fun w2 b2 hz ha2=>h a w2 (b2.ext x1 (by omega)) (by rw [hl,List.drop_length,List.append_nil] at ha2; exact ha2) hab
theorem loop1.from1 {w : World} {body : Int → World → (Int → World → Prop) → Prop} {N : Nat} (hN : N ≤ maxLen) (I : Nat → World → Prop) (h0 : I 1 w)
  (hs : ∀ (n : Nat) w' (nxt : Int → World → Prop),1 ≤ n → (n ≤ N ∨ n = 1) → I n w' → (n < N → ∀ w'',I (n + 1) w'' → nxt (wrapI ((n : Int) + 1)) w'') → body n w' nxt) : loop1 1 w body :=
 loop1.ghost (fun m i w'=>∃ n : Nat,i = (n : Int) ∧ 1 ≤ n ∧ (n ≤ N ∨ n = 1) ∧ m = N - n ∧ I n w') (N - 1) ⟨1,rfl,Nat.le_refl _,.inr rfl,rfl,h0⟩ fun m i w' nxt ⟨n,hi,h1,h2,hm,hI⟩ hn=>by
  subst hi
  refine hs n w' nxt h1 h2 hI fun hlt w'' hI'=>?_
  refine hn (N - (n + 1)) _ w'' (by omega) ⟨n + 1,?_,by omega,.inl hlt,rfl,hI'⟩
  rw [maxLen_eq] at hN
  rw [wrapI_eq (by omega) (by omega)]; omega
theorem wrap_pred {i N : Nat} (h1 : 1 ≤ i) (h2 : i < N) (hN : N ≤ maxLen) : wrapI ((i : Int) - 1) = ((i - 1 : Nat) : Int):=by
 rw [maxLen_eq] at hN
 rw [wrapI_eq (by omega) (by omega)]; omega
theorem rise_step {α : Type} {f : α → ByteArray} {l : List α} {i : Nat} (h1 : 1 ≤ i) (hi : i < l.length) (hI : RiseN f (l.take i)) (h : bLt (f l[i - 1]) (f l[i]) = true) : RiseN f (l.take (i + 1)):=by
 have e : l.take i = l.take (i - 1) ++ [l[i - 1]]:=by
  have:=List.take_succ_eq_append_getElem (l:=l) (i:=i - 1) (by omega)
  rwa [Nat.sub_add_cancel h1] at this
 rw [List.take_succ_eq_append_getElem hi,e]
 rw [e] at hI
 exact riseN_snoc hI h
theorem rise_not {α : Type} {f : α → ByteArray} {l : List α} {i : Nat} (h1 : 1 ≤ i) (hi : i < l.length) (h : bLt (f l[i - 1]) (f l[i]) = false) : ¬ RiseN f l:=fun hr=>by
 have:=List.pairwise_iff_getElem.1 hr (i - 1) i (by omega) hi (by omega)
 rw [h] at this; cases this
theorem rise_one {α : Type} {f : α → ByteArray} {l : List α} : RiseN f (l.take 1):=by
 cases l with
 | nil=>exact .nil
 | cons a r=>exact List.pairwise_singleton _ _
theorem rises_se {s : Sl} {l : List Pin} {S : Nat → Prop} {w : World} {R : Bool → World → Prop} (hs : SlR pinE w S s l) (hR : ∀ (b : Bool) w',Ext w w' → (b = true ↔ Rises l) → R b w') : SE.graph_rises s w R:=by
 unfold SE.graph_rises
 have hl:=hs.len
 have hm:=hs.max
 refine loop1.from1 hm (fun i w'=>Ext w w' ∧ RiseN Pin.name (l.take i)) ⟨Ext.refl _,rise_one⟩ fun i w1 nxt h1 hi ⟨x1,hI⟩ hn=>⟨fun hlt=>bnd.drew fun w2 x2=>?_,fun hge=>?_⟩
 ·have hlt' : i < l.length:=by omega
  obtain ⟨ad,ha,_,_,hc⟩:=pinEl hs (n:=i - 1) (by omega)
  obtain ⟨ad2,ha2,_,_,hc2⟩:=pinEl hs hlt'
  rw [wrap_pred h1 hlt' hm]
  refine ⟨ad,⟨ha,by omega,by omega⟩,_,(hc _ (by (repeat (first | assumption | exact Ext.refl _ | refine Ext.trans ?_ (by assumption))))).pre rfl,ad2,⟨ha2,by omega,hlt⟩,_,(hc2 _ (by (repeat (first | assumption | exact Ext.refl _ | refine Ext.trans ?_ (by assumption))))).pre rfl,fun h=>?_,fun h=>?_⟩
  ·exact hR false w2 (by (repeat (first | assumption | exact Ext.refl _ | refine Ext.trans ?_ (by assumption)))) ⟨(fun h=>by cases h),fun hr=>absurd hr (rise_not h1 hlt' (by simpa using h))⟩
  ·exact hn hlt' _ ⟨by (repeat (first | assumption | exact Ext.refl _ | refine Ext.trans ?_ (by assumption))),rise_step h1 hlt' hI (by simpa using h)⟩
 ·rw [List.take_of_length_le (by omega)] at hI
  exact hR true w1 x1 ⟨fun _ => hI,fun _ => rfl⟩
def ToOk (g : List Node) (x : Node) : Prop:=∀ e ∈ x.edges,0 ≤ e.to ∧ e.to < (g.length : Int)
theorem at_nat {s : Sl} {w : World} {S : Nat → Prop} {g : List Node} (hs : SlR nodeE w S s g) {t : Int} (h0 : 0 ≤ t) (h1 : t < (g.length : Int)) : ∃ (n : Nat) (hn : n < g.length),t = (n : Int) ∧ t.toNat = n ∧ g[t.toNat]? = some g[n] :=
 ⟨t.toNat,by omega,by omega,rfl,List.getElem?_eq_getElem (by omega)⟩
theorem edge_se {s : Sl} {g : List Node} {k : Nat} {x : Node} {n : ByteArray} {S : Nat → Prop} {w : World} {R : ByteArray → Int → Int → Int → Sl → Sl → Bool → World → Prop} (hs : SlR nodeE w S s g) (hk : g[k]? = some x) (hv : ToOk g x)
  (h1 : ∀ y c e w',Ext w w' → edgeTo g x n = some y → R y.name y.v.ma y.v.mi y.v.pa c e true w') (h0 : ∀ w',Ext w w' → edgeTo g x n = none → R ⟨#[]⟩ 0 0 0 Sl.nil Sl.nil false w') : SE.graph_edge s (k : Int) n w R:=by
 unfold SE.graph_edge
 have hsl:=hs.len
 obtain ⟨hkl,rfl⟩:=List.getElem?_eq_some_iff.1 hk
 obtain ⟨ad,c,e,ha,_,_,he,hc⟩:=nodeEl hs hkl
 have hel:=he.len
 refine newS.intro fun a w1 x1 hb1 _ _ => newS.intro fun a1 w2 x2 hb2 hab _ => ?_
 have x02:=x1.trans x2
 have s1:=x1.size
 refine ⟨s,hb1.at0 (r:=[]) x2 rfl,ad,⟨ha,by omega,by omega⟩,e,(hc _ x02).mid (k:=5) (r:=[]) rfl,?_⟩
 refine loop1.up he.max (fun i w'=>Ext w2 w' ∧ (g[k].edges.take i).find? (fun e=>decide (e.name = n)) = none) ⟨Ext.refl _,rfl⟩ fun i w3 nxt hi ⟨x3,hI⟩ hn=>⟨fun hlt=>?_,fun hge=>?_⟩
 ·have hlt' : i < g[k].edges.length:=by omega
  obtain ⟨ae,hae,hce⟩:=edgeEl he hlt'
  refine ⟨ae,⟨hae,by omega,hlt⟩,_,_,hce _ (by (repeat (first | assumption | exact Ext.refl _ | refine Ext.trans ?_ (by assumption)))),newS.set rfl fun a8 w4 x4 hb4 _ => ⟨_,hb4.at0 (Ext.refl _) rfl,fun hq=>?_,fun hq=>?_⟩⟩
  ·obtain ⟨t0,t1⟩:=hv _ (List.getElem_mem hlt')
   obtain ⟨m,hm,e1,e2,e3⟩:=at_nat hs t0 t1
   obtain ⟨ad2,c2,g2,ha2,_,_,_,hc2⟩:=nodeEl hs hm
   have x04 : Ext w w4:=by (repeat (first | assumption | exact Ext.refl _ | refine Ext.trans ?_ (by assumption)))
   refine ⟨s,hb1.at0 (r:=[]) (x2.trans (x3.trans x4)) rfl,_,hb4.at1 (k:=1) (r:=[]) (Ext.refl _) rfl,ad2,⟨ha2,by omega,by omega⟩,_,_,_,_,_,_,by rw [e2]; exact hc2 _ x04,?_⟩
   refine stw0.intro (hb2.ext (x3.trans x4)) (by simp) fun w5 b5 _ hb5=>⟨_,_,_,_,_,_,hb5.ldc.pre (r:=[]) rfl,h1 g[m] _ _ w5 (b5.ext x04 (by omega)) ?_⟩
   have hf:=find_hit hlt' hI (decide_eq_true hq)
   unfold edgeTo
   rw [hf]; exact e3
  ·refine hn hlt' _ ⟨by (repeat (first | assumption | exact Ext.refl _ | refine Ext.trans ?_ (by assumption))),?_⟩
   rw [take_find_succ hlt' hI,decide_eq_false hq]; rfl
 ·rw [List.take_of_length_le (by omega)] at hI
  have x03 : Ext w w3:=by (repeat (first | assumption | exact Ext.refl _ | refine Ext.trans ?_ (by assumption)))
  refine stw0.intro (hb2.ext x3) (by simp) fun w5 b5 _ hb5=>⟨_,_,_,_,_,_,hb5.ldc.pre (r:=[]) rfl,h0 w5 (b5.ext x03 (by omega)) ?_⟩
  unfold edgeTo
  rw [hI]; rfl
def keyI (g : List Node) (k : NKey) : Int:=match keyIx g k with
 | some i=>i
 | none=>-1
theorem find1_se {y : Node} {n : ByteArray} {v : Ver} {l : List Pin} {cy ey t : Sl} {c0 c1 c2 : Addr} {S T : Nat → Prop} {w : World} {R : Bool → World → Prop} (h0 : BoxAt w c0 [.string n]) (h1 : BoxAt w c1 v.c) (h2 : BoxAt w c2 [t.v]) (hy : SlR pinE w S cy y.ctx) (ht : SlR pinE w T t l)
  (hR : ∀ w',Ext w w' → R (decide (y.key = (n,v,l))) w') : SE.graph_Find_1 y.name y.v.ma y.v.mi y.v.pa cy ey c0 c1 c2 w R:=by
 unfold SE.graph_Find_1
 have e : decide (y.key = (n,v,l)) = (bEq y.name n && decide (y.v = v) && decide (y.ctx = l)):=by
  rw [Bool.eq_iff_iff]
  simp only [Node.key,decide_eq_true_eq,Prod.mk.injEq,Bool.and_eq_true,bEq_iff]
  exact ⟨fun ⟨a,b,c⟩=>⟨⟨a,b⟩,c⟩,fun ⟨⟨a,b⟩,c⟩=>⟨a,b,c⟩⟩
 rw [e] at hR
 refine newS.intro fun a w1 x1 hb _ _ => ⟨_,hb.at0 (Ext.refl _) rfl,_,h0.at0 (r:=[]) x1 rfl,bound ⟨_,_,_,fun _ => hb.at1 (k:=1) (Ext.refl _) rfl,_,_,_,fun _ => h1.at0 (r:=[]) x1 rfl,bound ?_⟩⟩
 have ev : ((y.v.ma == v.ma) && ((y.v.mi == v.mi) && ((y.v.pa == v.pa) && true))) = decide (y.v = v):=verB
 rw [ev]
 refine ⟨cy,fun _ => hb.at1 (k:=4) (Ext.refl _) rfl,t,fun _ => h2.at0 (r:=[]) x1 rfl,?_⟩
 refine gCall.intro (decide (y.ctx = l)) (fun _ q hq=>SE.slices_Equal_apiPinapiPin.go (eqPins_se (hy.ext x1) (ht.ext x1) fun w' hx=>⟨_,rfl,hq _ hx⟩)) fun t w2 x2 ht=>?_
 have h3:=hR w2 (x1.trans x2)
 cases hg : (bEq y.name n && decide (y.v = v))
 ·rw [hg] at h3; exact h3
 ·rw [hg] at h3 ht
  rw [ht rfl]; exact h3
theorem entersFind1 : Enters Tryz.prog 155:=enters_of Tryz.func155 (by kernel_rfl) rfl
theorem find_se {s t : Sl} {g : List Node} {n : ByteArray} {v : Ver} {l : List Pin} {S T : Nat → Prop} {w : World} {R : Int → World → Prop} (hs : SlR nodeE w S s g) (ht : SlR pinE w T t l) (hR : ∀ w',Ext w w' → R (keyI g (n,v,l)) w') : SE.graph_Find s n v.ma v.mi v.pa t w R:=by
 unfold SE.graph_Find
 refine newS.intro fun a w1 x1 hb1 _ _ => newS.intro fun a1 w2 x2 hb2 _ _ => newS.intro fun a3 w3 x3 hb3 _ _ => newS.intro fun a5 w4 x4 hb4 _ _ => ?_
 have x04 : Ext w w4:=by (repeat (first | assumption | exact Ext.refl _ | refine Ext.trans ?_ (by assumption)))
 refine ⟨s,hb1.at0 (r:=[]) (x2.trans (x3.trans x4)) rfl,SE.slices_IndexFunc_apiNodeapiNode.go (idxNode_se (p:=fun y=>decide (y.key = (n,v,l))) (hs.ext x04) (fun y _ c' e' w5 k x5 hcy hk=>⟨_,_,rfl,entersFind1,SE.graph_Find_1.go (find1_se (hb2.ext (x3.trans (x4.trans x5))) (hb3.ext (x4.trans x5)) (hb4.ext x5) hcy ((ht.ext x04).ext x5) hk)⟩) fun w6 x6=>⟨_,rfl,?_⟩)⟩
 exact hR w6 (x04.trans x6)
theorem env1_se {q : Pin} {n : ByteArray} {to : Int} {c0 : Addr} {w : World} {R : Bool → World → Prop} (hc : BoxAt w c0 [.string n,.int .i64 to]) (hR : ∀ w',Ext w w' → R (isN n q) w') : SE.graph_environment_1 q.name q.v.ma q.v.mi q.v.pa c0 w R:=by
 unfold SE.graph_environment_1
 refine newS.intro fun a w1 x1 hb _ _ => ⟨_,hb.at0 (Ext.refl _) rfl,n,hc.at0 x1 rfl,?_⟩
 have e : bEq q.name n = isN n q:=by
  unfold isN
  rw [Bool.eq_iff_iff,bEq_iff,decide_eq_true_eq]
 rw [e]; exact hR _ x1
theorem entersEnv1 : Enters Tryz.prog 161:=enters_of Tryz.func161 (by kernel_rfl) rfl
theorem env2_gr {a b : Pin} {w : World} {R : Int → World → Prop} (hR : ∀ w',Gr w w' → R (cmpS a.name b.name) w') : SE.graph_environment_2 a.name a.v.ma a.v.mi a.v.pa b.name b.v.ma b.v.mi b.v.pa w R:=by
 unfold SE.graph_environment_2
 refine newS.gr fun _ w1 x1 hb=>newS.gr fun _ w2 x2 hb2=>⟨_,Gr.at0 hb x2 rfl,_,Gr.at0 hb2 (Gr.refl _) rfl,strCmp_k ⟨_,rfl,hR _ (x1.trans x2)⟩⟩
theorem entersEnv2 : Enters Tryz.prog 162:=enters_of Tryz.func162 (by kernel_rfl) rfl
theorem sortPinE_k {w : World} {lo : Nat} {s : Sl} {l : List Pin} {K : Value → World → Prop} (h : FlatO pinC 40 w lo s l) (hlo : lo ≤ w.heap.size) (hn : (l.map (·.name)).Nodup)
  (hK : ∀ w',Below lo w w' → FlatO pinC 40 w' lo s (sortN l) → K (.tuple #[]) w') :
  callS Tryz.prog 66 [Sl.v s,.func (.func 162) #[] #[]] w K:=by
 obtain ⟨h1,h2,h3,h4,h5⟩:=h
 obtain ⟨a,n,c⟩:=s
 simp only at h1 h2 h3 h5
 subst h1
 rcases h5 with rfl | ⟨g,tail,ha,hg,hr⟩
 ·refine (AnyF.slices_SortFunc_none Tryz.laySp a c _ w).mono fun e w' ⟨he,hw⟩=>⟨_,he,?_⟩
  subst hw
  exact hK _ (Below.refl _ _) ⟨rfl,h2,h3,h4,.inl rfl⟩
 ·subst ha
  have hO:=cmpS_ord (α := Pin) (·.name)
  refine sortFunc_k Tryz.laySp (k:=4) isAggP sizeOfP (f:=pinC) (fun _ => rfl) (fun x v hv=>by simp [pinC] at hv; rcases hv with rfl | rfl | rfl | rfl <;> rfl) (fun a b=>cmpS a.name b.name) (swo_ltOf hO.flip hO.trans) 162 #[] entersEnv2 (fun w0 x y hb _ => ?_) hr (by unfold room at h4; omega) rfl fun l' w' hp hs b hr'=>?_
  ·have h:=SE.graph_environment_2.go (k:=fun v w'=>v = .int .i64 (cmpS x.name y.name) ∧ Gr w0 w') (env2_gr (a:=x) (b:=y) (w:=w0) fun w' h=>⟨rfl,h⟩)
   exact Calls.mono h fun e w' ⟨v,he,hv,hg⟩=>⟨by rw [he,hv],hg⟩
  ·have e : l' = sortN l:=by
    refine Rises.one ?_ (sortN_rises hn) (hp.trans (sortN_perm l).symm)
    have hn' : (l'.map (·.name)).Nodup:=(hp.map _).nodup_iff.2 hn
    rw [List.nodup_iff_pairwise_ne,List.pairwise_map] at hn'
    exact (hs.and hn').imp fun {a b} h=>bLt_of (by have:=hO.flip b a; have:=hO.flip a b; omega) h.2
   subst e
   have hl:=(sortN_perm l).length_eq
   exact hK w' (b.below hlo hg) ⟨hl.symm,by rw [hl]; exact h2,h3,by rw [hl]; exact h4,.inr ⟨g,tail,rfl,hg,hr'⟩⟩
end Go.Hal
namespace Go.Hal
open Go Go.RowKit Go.Proofs Go.MapKept
def intV (v : Value) : Prop:=∃ x : Int,v = .int .i64 x
theorem intT : KeyT Tryz.prog 215 intV (.int .i64 0) where
 und:=⟨3,3,Tryz.underlying215,Tryz.zeroValue3,fun k ⟨x,h⟩ e w=>by subst h; exact run_checkKey (d:=.int .i64) (k:=.int .i64 x) Tryz.underlying3 rfl e 9999,fun k ⟨x,h⟩ l hl w=>by
  subst h
  rcases findNow_spec (d:=.int .i64) (k:=.int .i64 x) rfl l 0 (fun y hy=>by obtain ⟨t,ht⟩:=hl y hy; rw [ht]; rfl) with ⟨h1,h2⟩ | ⟨j,e,h1,h2,h3⟩
  ·exact .inl ⟨h2,run_findKey Tryz.underlying3 h1⟩
  ·exact .inr ⟨j,e,h2,h3,run_findKey Tryz.underlying3 (by rw [Nat.zero_add] at h1; exact h1)⟩⟩
 stay:=fun k ⟨x,h⟩=>by subst h; exact sameBits_self (d:=.int .i64) (k:=.int .i64 x) rfl _
end Go.Hal
/-
 DERIVED: THE SHELF's CONTRACTS AT THIS DUMP,IN PLAIN WORDS (tools/lay-plain.mjs out of 'YtcnoablfimcajaaGreatDoorLay5.lean',which tools/lay-shelf.mjs wrote): THE SAME DECLARATIONS UNDER THE SAME NAMES: 'import','namespace','open','def','theorem' AND NOTHING ELSE: no command of the shelf's: FOR A HAND-IN. Each laying: the table of numbers ('.._ren') and one theorem,a field a fact of the dump's own or the kernel's comparison; each contract: ONE APPLICATION.
-/
namespace Go.Proofs
open Go.Shelf
def Tryz.laySi_ren : Go.Shelf.Ren:=⟨fun | 189=>156 | 125=>98 | 257=>208 | 128=>153 | 129=>154 | 294=>238 | 295=>239 | 296=>240 | 297=>241 | 298=>242 | 299=>243 | 216=>244 | 300=>245 | 301=>246 | 328=>259 | 329=>204 | 330=>205 | 331=>260 | 332=>261 | 215=>201 | 343=>273 | n=>n,fun | 28=>77 | 3=>3 | 46=>155 | 0=>0 | 51=>212 | 53=>214 | 4=>4 | 183=>206 | 182=>205 | 131=>199 | 5=>5 | 9=>9 | 218=>252 | 222=>256 | 228=>276 | 229=>277 | n=>n,fun | n=>n⟩
theorem Tryz.laySi : Go.Proofs.Lays.n189 Tryz.prog Tryz.laySi_ren:={
 mixed:=by kernel_rfl
 f125:=Tryz.func98.trans (congrArg some (by kernel_rfl))
 f128:=Tryz.func153.trans (congrArg some (by kernel_rfl))
 f129:=Tryz.func154.trans (congrArg some (by kernel_rfl))
 f189:=Tryz.func156.trans (congrArg some (by kernel_rfl))
 f215:=Tryz.func201.trans (congrArg some (by kernel_rfl))
 f216:=Tryz.func244.trans (congrArg some (by kernel_rfl))
 f257:=Tryz.func208.trans (congrArg some (by kernel_rfl))
 f294:=Tryz.func238.trans (congrArg some (by kernel_rfl))
 f295:=Tryz.func239.trans (congrArg some (by kernel_rfl))
 f296:=Tryz.func240.trans (congrArg some (by kernel_rfl))
 f297:=Tryz.func241.trans (congrArg some (by kernel_rfl))
 f298:=Tryz.func242.trans (congrArg some (by kernel_rfl))
 f299:=Tryz.func243.trans (congrArg some (by kernel_rfl))
 f300:=Tryz.func245.trans (congrArg some (by kernel_rfl))
 f301:=Tryz.func246.trans (congrArg some (by kernel_rfl))
 f328:=Tryz.func259.trans (congrArg some (by kernel_rfl))
 f329:=Tryz.func204.trans (congrArg some (by kernel_rfl))
 f330:=Tryz.func205.trans (congrArg some (by kernel_rfl))
 f331:=Tryz.func260.trans (congrArg some (by kernel_rfl))
 f332:=Tryz.func261.trans (congrArg some (by kernel_rfl))
 f343:=Tryz.func273.trans (congrArg some (by kernel_rfl))
 t0:=Tryz.underlying0
 a0:=Tryz.isAgg0
 z0:=Tryz.sizeOf0
 v0:=Tryz.zeroValue0
 t3:=Tryz.underlying3
 a3:=Tryz.isAgg3
 z3:=Tryz.sizeOf3
 v3:=Tryz.zeroValue3
 t4:=Tryz.underlying4
 a4:=Tryz.isAgg4
 z4:=Tryz.sizeOf4
 v4:=Tryz.zeroValue4
 t5:=Tryz.underlying5
 a5:=Tryz.isAgg5
 z5:=Tryz.sizeOf5
 v5:=Tryz.zeroValue5
 t9:=Tryz.underlying9
 a9:=Tryz.isAgg9
 z9:=Tryz.sizeOf9
 v9:=Tryz.zeroValue9
 t28:=Tryz.underlying77
 a28:=Tryz.isAgg77
 z28:=Tryz.sizeOf77
 v28:=Tryz.zeroValue77
 t46:=Tryz.underlying155
 a46:=Tryz.isAgg155
 z46:=Tryz.sizeOf155
 v46:=Tryz.zeroValue155
 t51:=Tryz.underlying212
 a51:=Tryz.isAgg212
 z51:=Tryz.sizeOf212
 v51:=Tryz.zeroValue212
 t53:=Tryz.underlying214
 a53:=Tryz.isAgg214
 z53:=Tryz.sizeOf214
 v53:=Tryz.zeroValue214
 t131:=Tryz.underlying199
 a131:=Tryz.isAgg199
 z131:=Tryz.sizeOf199
 v131:=Tryz.zeroValue199
 t182:=Tryz.underlying205
 a182:=Tryz.isAgg205
 z182:=Tryz.sizeOf205
 v182:=Tryz.zeroValue205
 t183:=Tryz.underlying206
 a183:=Tryz.isAgg206
 z183:=Tryz.sizeOf206
 v183:=Tryz.zeroValue206
 t218:=Tryz.underlying252
 a218:=Tryz.isAgg252
 z218:=Tryz.sizeOf252
 v218:=Tryz.zeroValue252
 t222:=Tryz.underlying256
 a222:=Tryz.isAgg256
 z222:=Tryz.sizeOf256
 v222:=Tryz.zeroValue256
 t228:=Tryz.underlying276
 a228:=Tryz.isAgg276
 z228:=Tryz.sizeOf276
 v228:=Tryz.zeroValue276
 t229:=Tryz.underlying277
 a229:=Tryz.isAgg277
 z229:=Tryz.sizeOf277
 v229:=Tryz.zeroValue277 }
end Go.Proofs
namespace Go.Hal
open Go Go.RowKit Go.Proofs Go.Shelf Go.Lib Go.Sort
def intC (x : Int) : List Value:=[.int .i64 x]
def sortI (l : List Int) : List Int:=l.mergeSort fun x y=>decide (x ≤ y)
theorem sortI_perm (l : List Int) : (sortI l).Perm l:=List.mergeSort_perm l _
theorem sortI_le (l : List Int) : (sortI l).Pairwise (· ≤ ·):=by
 have:=List.pairwise_mergeSort (le:=fun x y : Int=>decide (x ≤ y)) (fun a b c h1 h2=>by simp at *; omega) (fun a b=>by simp; omega) l
 exact this.imp fun h=>by simpa using h
theorem flatI (l : List Int) : (l.map intC).flatten = l.map (Value.int .i64):=by
 induction l with
 | nil=>rfl
 | cons a l ih=>rw [List.map_cons,List.flatten_cons,ih]; rfl
theorem holds_of_rowI {w : World} {g : Nat} {l : List Int} {tail : List Value} (h : RowB intC w g l tail) : Go.Sort.Holds (Value.int .i64) w g 0 l.toArray:=by
 obtain ⟨t,_,_,hb⟩:=h
 rw [flatI] at hb
 intro j hj
 have hj' : j < l.length:=by simpa using hj
 constructor
 ·simp only [World.cell?,hb,Nat.zero_add]
  rw [List.getElem?_toArray,List.getElem?_append_left (by rw [List.length_map]; exact hj'),List.getElem?_map,List.getElem?_eq_getElem hj',getElem!_pos l.toArray j hj]
  rfl
 ·simp [World.frozen?,hb]
theorem row_putI {w : World} {g n : Nat} {l l' : List Int} {tail : List Value} {os : Array Obj} (h : RowB intC w g l tail) (hl : l'.length = l.length) :
  But g w (grow (putRow (Value.int .i64) (Sort.ahead w n) g 0 l'.toArray) os) ∧ RowB intC (grow (putRow (Value.int .i64) (Sort.ahead w n) g 0 l'.toArray) os) g l' tail:=by
 obtain ⟨t,_,_,hb⟩:=h
 have hgl : g < w.heap.size:=(Array.getElem?_eq_some_iff.1 hb).1
 have hh : (grow (putRow (Value.int .i64) (Sort.ahead w n) g 0 l'.toArray) os).heap = w.heap.modify g (onCells (putCells (Value.int .i64) 0 l'.toArray)) ++ os:=rfl
 refine ⟨⟨by rw [hh]; simp,rfl,rfl,rfl,fun b hbl hne=>?_⟩,⟨t,rfl,rfl,?_⟩⟩
 ·rw [hh,Array.getElem?_append_left (by simpa using hbl),Array.getElem?_modify,if_neg (Ne.symm hne)]
 ·rw [hh,Array.getElem?_append_left (by simpa using hgl),Array.getElem?_modify,if_pos rfl,hb]
  simp only [Option.map_some,onCells,Option.some.injEq,Obj.cells.injEq,and_true]
  apply Array.ext_getElem?
  intro j
  rw [flatI,flatI]
  simp only [putCells,Array.getElem?_mapIdx,List.getElem?_toArray,Nat.zero_le,true_and,Nat.zero_add,Nat.sub_zero,List.size_toArray]
  by_cases hj : j < l'.length
  ·rw [List.getElem?_append_left (by rw [List.length_map,← hl]; exact hj),List.getElem?_append_left (by rw [List.length_map]; exact hj),List.getElem?_map,List.getElem?_map,List.getElem?_eq_getElem (by rw [← hl]; exact hj),List.getElem?_eq_getElem hj]
   simp only [Option.map_some,if_pos hj]
   rw [getElem!_pos l'.toArray j (by simpa using hj)]
   rfl
  ·rw [List.getElem?_append_right (by rw [List.length_map,← hl]; omega),List.getElem?_append_right (by rw [List.length_map]; omega),List.length_map,List.length_map,hl]
   cases tail[j - l.length]? with
   | none=>rfl
   | some v=>simp only [Option.map_some]; rw [if_neg (by rw [← hl]; exact hj)]
theorem sortInt_k {w : World} {lo : Nat} {s : Sl} {l : List Int} {K : Value → World → Prop} (h : FlatO intC 8 w lo s l) (hlo : lo ≤ w.heap.size)
  (hK : ∀ w',Below lo w w' → FlatO intC 8 w' lo s (sortI l) → K (.tuple #[]) w') : callS Tryz.prog 156 [Sl.v s] w K:=by
 obtain ⟨h1,h2,h3,h4,h5⟩:=h
 obtain ⟨a,n,c⟩:=s
 simp only at h1 h2 h3 h5
 subst h1
 have hl:=(sortI_perm l).length_eq
 rcases h5 with rfl | ⟨g,tail,ha,hg,hr⟩
 ·refine (Any.slices_Sort_int_none Tryz.laySi a c w).mono fun e w' ⟨he,hw⟩=>⟨_,he,?_⟩
  subst hw
  have e0 : sortI [] = []:=List.length_eq_zero_iff.1 hl
  exact hK _ (Below.refl _ _) ⟨by rw [e0],by rw [e0]; exact h2,h3,by rw [e0]; exact h4,.inl e0⟩
 ·subst ha
  refine (Any.slices_Sort_int Tryz.laySi g 0 c l w (holds_of_rowI hr) hr.lt (by unfold room at h4; omega)).mono fun e w' ⟨he,n,os,hw⟩=>⟨_,he,?_⟩
  obtain ⟨k1,k2⟩:=row_putI (n:=n) (os:=os) hr hl
  subst hw
  exact hK _ (k1.below hlo hg) ⟨hl.symm,by rw [hl]; exact h2,h3,by rw [hl]; exact h4,.inr ⟨g,tail,rfl,hg,k2⟩⟩
end Go.Hal
namespace Go.Hal
open Go Go.RowKit Go.Proofs Go.Shelf
theorem OwnS.lowr {α : Type} {E : Enc α} {T : TypeId} {w : World} {lo lo' : Nat} {S : Nat → Prop} {s : Sl} {l : List α} (h : OwnS E T w lo S s l) (hl : lo' ≤ lo) : OwnS E T w lo' S s l:=by
 obtain ⟨css,ho,k1,k2⟩:=h.row
 exact ⟨⟨css,⟨ho.1,ho.2.imp id fun ⟨g,cap,cur,hv,hg,r⟩=>⟨g,cap,cur,hv,Nat.le_trans hl hg,r⟩⟩,k1,k2⟩,h.len,h.lt,h.apart⟩
def ofN (l : List Nat) : List Int:=l.map fun k : Nat=>(k : Int)
theorem ofN_len (l : List Nat) : (ofN l).length = l.length:=List.length_map _
theorem mem_ofN {l : List Nat} {t : Int} : t ∈ ofN l ↔ ∃ k ∈ l,(k : Int) = t:=List.mem_map
def kvI (p : Int × Int) : Value × Value:=(.int .i64 p.1,.int .i64 p.2)
structure RA (w0 : World) (a : Addr) (r : Nat) (s : Sl) (w' : World) (out : List Nat) (so : Sl) : Prop where
 x : Ext w0 w'
 box : BoxAt w' a [s.v]
 map : ∃ m : List (Int × Int),MapR intV w' r (m.map kvI) ∧ m.map (·.1) = ofN out
 own : OwnS intE 3 w' w0.heap.size None' so (ofN out)
 ap : ∀ ad,so.a = some ad → ad.block ≠ r ∧ ad.block ≠ a.block
 ne : r ≠ a.block
 lr : w0.heap.size ≤ r
 la : w0.heap.size ≤ a.block
section
variable {w0 w w' : World} {a : Addr} {r : Nat} {s so : Sl} {out : List Nat}
theorem RA.ext (h : RA w0 a r s w out so) (hx : Ext w w') : RA w0 a r s w' out so :=
 ⟨h.x.trans hx,h.box.ext hx,by obtain ⟨m,h1,h2⟩:=h.map; exact ⟨m,h1.ext hx,h2⟩,h.own.ext hx,h.ap,h.ne,h.lr,h.la⟩
theorem RA.seen (h : RA w0 a r s w out so) (t : Int) : ∃ v : Int,(Instr.lookup 215 (.map (some r)) (.int .i64 t) true).run Tryz.prog w = .ok (.tuple #[.int .i64 v,.bool (decide (t ∈ ofN out))]) w:=by
 obtain ⟨m,h1,h2⟩:=h.map
 rcases lookup_run intT h1 (k:=.int .i64 t) ⟨_,rfl⟩ with ⟨hn,hr⟩ | ⟨v,hin,hr⟩
 ·refine ⟨0,?_⟩
  rw [hr true,decide_eq_false]
  ·rfl
  ·intro hm
   rw [← h2] at hm
   obtain ⟨p,hp,he⟩:=List.mem_map.1 hm
   exact hn (kvI p) (List.mem_map_of_mem hp) (by show Value.int .i64 p.1 = _; rw [he])
 ·obtain ⟨p,hp,he⟩:=List.mem_map.1 hin
  simp only [kvI,Prod.mk.injEq,Value.int.injEq,true_and] at he
  obtain ⟨he1,he2⟩:=he
  refine ⟨p.2,?_⟩
  rw [hr true,decide_eq_true,← he2]
  ·rfl
  ·rw [← h2]; exact List.mem_map.2 ⟨p,hp,he1⟩
theorem RA.put (h : RA w0 a r s w out so) {k : Nat} {i : Int} (hk : k ∉ out) (hl : out.length + 1 ≤ 2000000000000) {b : Addr} {e : ByteArray} (hb : BoxAt w b [.string e,.int .i64 (k : Int)]) (hbr : b.block ≠ r) {J : Sl → World → Prop}
  (hJ : ∀ so' w',RA w0 a r s w' (out ++ [k]) so' → J so' w') :
  semU Tryz.prog (Instr.mapUpdate 215 (.map (some r)) (.int .i64 (k : Int)) (.int .i64 i)) w fun vw31=>∃ (t65 : Int),(ldc vw31 (b.add 1) [(Value.int .i64 t65)]) ∧ newS vw31 [(Value.int .i64 t65)] 3 fun a33 vw34=>appS Tryz.prog 77 77 so (Sl.v (Sl.mk (some a33) 1 1)) vw34 fun t67 vw35=>J t67 vw35:=by
 obtain ⟨m,h1,h2⟩:=h.map
 refine update_new intT h1 ⟨_,rfl⟩ (fun p hp he=>?_) fun w1 b1 hs1 hM=>?_
 ·obtain ⟨q,hq,rfl⟩:=List.mem_map.1 hp
  simp only [kvI,Value.int.injEq,true_and] at he
  have : q.1 ∈ ofN out:=by rw [← h2]; exact List.mem_map_of_mem hq
  rw [he] at this
  obtain ⟨j,hj,e⟩:=mem_ofN.1 this
  have : j = k:=by omega
  subst this; exact hk hj
 ·have hb1:=b1.box hb hbr
  refine ⟨_,hb1.ldc.mid (k:=1) (r:=[]) rfl,newS.intro fun a2 w2 x2 hb2 hab2 _ => ?_⟩
  have x1 : Ext w0 w1:=b1.ext h.x h.lr
  have o1 : OwnS intE 3 w1 w0.heap.size None' so (ofN out):=h.own.but b1 (fun h=>h) fun ad had=>Ne.symm (h.ap ad had).1
  have hlt:=h.map
  have hrl:=h1.lt
  have hal:=h.box.lt
  have s1:=x1.size
  have s2:=x2.size
  have eb : intE.bytes = 8:=rfl
  refine (o1.ext x2).push apInt (by omega) (x:=(k : Int)) (S':=None') ⟨rfl,trivial⟩ (hb2.ldc.pre (r:=[]) rfl) (fun _ h=>h.elim) (fun _ _ h=>h.elim) (by rw [ofN_len,eb]; unfold room; omega) (by rw [ofN_len,maxLen_eq]; omega) fun so' w3 o3 bel3 oth3 reg3=>hJ so' w3 ?_
  have x03 : Ext w0 w3:=(x1.trans x2).trans' bel3
  have keep : ∀ b',b' < w2.heap.size → (b' = r ∨ b' = a.block) → w3.heap[b']? = w2.heap[b']? := fun b' hlt hc=>oth3 b' hlt fun ad had e=>by
   obtain ⟨q1,q2⟩:=h.ap ad had
   rcases hc with rfl | rfl
   ·exact q1 e.symm
   ·exact q2 e.symm
  have hsz1 : w.heap.size ≤ w1.heap.size:=b1.1
  refine ⟨x03,?_,⟨m ++ [((k : Int),i)],?_,?_⟩,?_,fun ad had=>?_,h.ne,h.lr,h.la⟩
  ·exact ((b1.box h.box (Ne.symm h.ne)).ext x2).keep (S:=fun b'=>b' = a.block) rfl fun b' hb' hlt=>keep b' hlt (.inr hb')
  ·rw [List.map_append]
   exact (hM.ext x2).of (keep r (by omega) (.inl rfl))
  ·rw [List.map_append,h2]; simp [ofN]
  ·have : ofN (out ++ [k]) = ofN out ++ [(k : Int)]:=by simp [ofN]
   rw [this]
   exact OwnS.flat (fun h=>h) o3
  ·rcases reg3 ad had with q | q
   ·exact h.ap ad q
   ·exact ⟨by omega,by omega⟩
end
theorem stepB_not {n : Nat} {out : List Nat} {e : Edge} (h : ¬ (0 ≤ e.to ∧ e.to < (n : Int) ∧ e.to.toNat ∉ out)) : stepB n out e = out:=by unfold stepB; rw [if_neg h]
theorem stepB_new {n k : Nat} {out : List Nat} {e : Edge} (h : e.to = (k : Int)) (hk : k < n) (hn : k ∉ out) : stepB n out e = out ++ [k]:=by
 unfold stepB
 have : e.to.toNat = k:=by omega
 rw [this,if_pos ⟨by omega,by omega,hn⟩]
theorem nodup_lt {out : List Nat} {n : Nat} (h : out.Nodup) (hl : ∀ k ∈ out,k < n) : out.length ≤ n:=by
 have:=nodup_le h (m:=List.range n) fun x hx=>List.mem_range.2 (hl x hx)
 rwa [List.length_range] at this
set_option maxHeartbeats 4000000 in
theorem reach_se {s : Sl} {g : List Node} {S : Nat → Prop} {w : World} {R : Sl → World → Prop} (hs : SlR nodeE w S s g)
  (hR : ∀ t l w',Ext w w' → ReachAre g l → SlR intE w' (fun b=>w.heap.size ≤ b ∧ b < w'.heap.size) t l → R t w') : SE.graph_Reach s w R:=by
 unfold SE.graph_Reach
 have hsl:=hs.len
 have hgm : g.length ≤ 1000000000000 + 600000000000:=by
  have:=hs.2.2.2.1
  have eb : nodeE.bytes = 88:=rfl
  rw [eb] at this
  unfold room at this; omega
 have hgm2 : g.length ≤ 1600000000000:=by omega
 refine newS.intro fun a w1 x1 hb1 hab1 _ => ⟨s,hb1.ldc.pre (r:=[]) rfl,fun h0=>?_,fun h0=>?_⟩
 ·have hg : g = []:=List.eq_nil_of_length_eq_zero (by omega)
  subst hg
  exact hR _ [] w1 x1 ⟨.nil,fun y=>by simp [bfs]⟩ (SlR.nil trivial)
 ·have hg : g ≠ []:=fun e=>by subst e; exact h0 (by rw [hsl]; rfl)
  have hgl : 0 < g.length:=Nat.pos_of_ne_zero fun h=>hg (List.eq_nil_of_length_eq_zero h)
  refine makeMap_intro (K:=intV) fun r w2 x2 hr2 hM2=>⟨some r,rfl,?_⟩
  refine update_new intT hM2 ⟨0,rfl⟩ (fun p hp=>by cases hp) fun w3 b3 hs3 hM3=>?_
  have al:=hb1.lt
  have sz2:=x2.size
  have x13 : Ext w1 w3:=b3.ext x2 (by omega)
  refine newS.own (E:=intE) (x:=0) ⟨rfl,trivial⟩ fun a3 w4 x4 o4 ha4=>?_
  have x14:=x13.trans x4
  have x04:=x1.trans x14
  have hrl:=hM3.lt
  have s13:=x13.size
  have start : RA w a r s w4 [0] ⟨some a3,1,1⟩:=⟨x04,hb1.ext x14,⟨[(0,0)],hM3.ext x4,rfl⟩,o4.lowr (by have:=x1.size; omega),fun ad had=>by
   simp only [Option.some.injEq] at had
   subst had
   have:=x13.size
   exact ⟨by omega,by omega⟩,by omega,by have:=x1.size; omega,by omega⟩
  refine loop2.ghost (fun f so i w'=>∃ (n : Nat) (out : List Nat),i = (n : Int) ∧ RA w a r s w' out so ∧ BfsI g n out ∧ n ≤ out.length ∧ g.length < f + n ∧ bfsGo g f n out = bfs g) (g.length + 1) ⟨0,[0],rfl,start,BfsI.start hg,Nat.zero_le _,by omega,by unfold bfs; rw [if_neg hg]⟩ fun f so i w5 nxt ⟨n,out,hi,hA,hB,hn,hf,hgo⟩ hnx=>?_
  subst hi
  have hol:=hA.own.len
  rw [ofN_len] at hol
  have hoL:=hB.len
  obtain ⟨f,rfl⟩ : ∃ f',f = f' + 1:=⟨f - 1,by omega⟩
  refine ⟨fun hlt=>bnd.drew fun w6 x6=>?_,fun hge=>?_⟩
  ·have hlt' : n < out.length:=by omega
   have hk : out[n]? = some out[n]:=List.getElem?_eq_getElem hlt'
   have hkg : out[n] < g.length:=hB.lt _ (List.getElem_mem hlt')
   rw [bfsGo_next hk] at hgo
   have hA6:=hA.ext x6
   obtain ⟨ad,cs,had,⟨rfl,_⟩,hc⟩:=hA6.own.el (i:=n) (x:=(out[n] : Int)) (by simp [ofN,hk])
   obtain ⟨ag,c,e,hag,_,_,he,hcg⟩:=nodeEl hs hkg
   have hel:=he.len
   have hes : edgesAt g out[n] = g[out[n]].edges:=by unfold edgesAt; rw [List.getElem?_eq_getElem hkg]
   have hfold:=foldB (g:=g) (p:=out[n])
   refine ⟨s,hA6.box.ldc.pre (r:=[]) rfl,ad,⟨had,by omega,by omega⟩,_,by rw [Int.toNat_natCast]; exact hc _ (Ext.refl _),ag,⟨hag,by omega,by omega⟩,e,by rw [Int.toNat_natCast]; exact (hcg _ hA6.x).mid (k:=5) (r:=[]) rfl,?_⟩
   refine loop2.up he.max (fun so' t w'=>RA w a r s w' ((g[out[n]].edges.take t).foldl (stepB g.length) out) so') hA6 fun so' t w7 nxt' ht hA7 hn'=>?_
   have hfo:=hfold (g[out[n]].edges.take t) out (fun e he=>by rw [hes]; exact List.mem_of_mem_take he) (List.getElem_mem hlt') hB.nodup hB.lt hB.from_
   generalize hO : (g[out[n]].edges.take t).foldl (stepB g.length) out = O at hA7 hfo
   refine ⟨fun hlt2=>join.named fun J hJ=>?_,fun hge2=>?_⟩
   ·have hlt2' : t < g[out[n]].edges.length:=by omega
    obtain ⟨ae,hae,hce⟩:=edgeEl he hlt2'
    have hstep : (g[out[n]].edges.take (t + 1)).foldl (stepB g.length) out = stepB g.length O g[out[n]].edges[t]:=by
     rw [List.take_succ_eq_append_getElem hlt2',List.foldl_append,hO]; rfl
    have hJ' : ∀ so2 w8,RA w a r s w8 (stepB g.length O g[out[n]].edges[t]) so2 → J so2 w8:=fun so2 w8 h=>by
     subst hJ
     exact hn' hlt2' so2 w8 (by rw [hstep]; exact h)
    generalize g[out[n]].edges[t] = ed at *
    refine ⟨ae,⟨hae,by omega,hlt2⟩,_,_,hce _ hA7.x,newS.set rfl fun a20 w8 x8 hb8 hab8=>⟨_,hb8.at1 (k:=1) (r:=[]) (Ext.refl _) rfl,?_⟩⟩
    have hA8:=hA7.ext x8
    obtain ⟨v,hrun⟩:=hA8.seen ed.to
    refine ⟨_,_,hrun,v,_,rfl,bound ⟨_,fun _ => hb8.at1 (k:=1) (r:=[]) (Ext.refl _) rfl,bound ⟨_,fun _ => hb8.at1 (k:=1) (r:=[]) (Ext.refl _) rfl,s,fun _ => hA8.box.ldc.pre (r:=[]) rfl,fun hc=>?_,fun hc=>?_⟩⟩⟩
    ·simp only [Bool.and_eq_true,Bool.not_eq_true',decide_eq_true_eq,decide_eq_false_iff_not] at hc
     obtain ⟨⟨c1,c2⟩,c3⟩:=hc
     obtain ⟨m,hm⟩ : ∃ m : Nat,ed.to = (m : Int):=⟨ed.to.toNat,by omega⟩
     have hmn : m ∉ O:=fun h=>c1 (mem_ofN.2 ⟨m,h,hm.symm⟩)
     have hmg : m < g.length:=by omega
     have hOl:=nodup_lt hfo.1 hfo.2.1
     rw [hm] at hb8
     refine ⟨_,hb8.at1 (k:=1) (r:=[]) (Ext.refl _) rfl,hA8.put hmn (by
      have:=nodup_lt (out:=O ++ [m]) (n:=g.length) (by rw [List.nodup_append]; exact ⟨hfo.1,by simp,fun x hx y hy=>by simp at hy; subst hy; exact fun e=>hmn (e ▸ hx)⟩) (fun k hk=>by
       rcases List.mem_append.1 hk with hk | hk
       ·exact hfo.2.1 k hk
       ·simp at hk; omega)
      rw [List.length_append,List.length_singleton] at this; omega) hb8 (by obtain ⟨_,q,_⟩:=hA7.map; have:=q.lt; omega) fun so2 w9 hA9=>hJ' so2 w9 ?_⟩
     rw [stepB_new hm hmg hmn]; exact hA9
    ·refine hJ' so' w8 ?_
     rw [stepB_not]
     ·exact hA8
     ·rintro ⟨q1,q2,q3⟩
      have : ¬ ed.to ∈ ofN O:=fun h=>by
       obtain ⟨k,hk,e⟩:=mem_ofN.1 h
       have : ed.to.toNat = k:=by omega
       rw [this] at q3; exact q3 hk
      rw [decide_eq_false this,decide_eq_true q1] at hc
      simp at hc; omega
   ·have : t = g[out[n]].edges.length:=by omega
    rw [this,List.take_length] at hO
    subst hO
    rw [hes] at hgo
    have e1 : wrapI ((n : Int) + 1) = ((n + 1 : Nat) : Int):=by rw [wrapI_eq (by omega) (by omega)]; omega
    rw [e1]
    have hB':=hB.next hk
    rw [hes] at hB'
    refine hnx f so' _ w7 (by omega) ⟨n + 1,_,rfl,hA7,hB',?_,by omega,hgo⟩
    obtain ⟨tl,htl⟩:=hfo.2.2.2.1
    rw [htl,List.length_append]; omega
  ·have hnn : n = out.length:=by omega
   rw [bfsGo_end (by rw [hnn]; exact List.getElem?_eq_none (Nat.le_refl _))] at hgo
   subst hgo
   have hfl : FlatO intC 8 w5 w.heap.size so (ofN (bfs g)):=FlatO.of (E:=intE) (fun x cs h=>h.1) hA.own (by rw [ofN_len]; unfold room; omega)
   refine sortInt_k hfl hA.x.size fun w6 bel6 hfl6=>⟨rfl,?_⟩
   have x06:=hA.x.trans' bel6
   exact hR so _ w6 x06 (ReachAre.of_perm (sortI_perm _) (sortI_le _)) (FlatO.read (E:=intE) hfl6 (fun _ => rfl) fun _ _ _ _ => ⟨rfl,trivial⟩)
end Go.Hal
namespace Go.Hal
open Go Go.RowKit Go.Proofs Go.Shelf
def ToR (g : List Node) (e : Edge) : Prop:=∃ (j : Nat) (y : Node),e.to = (j : Int) ∧ 1 ≤ j ∧ g[j]? = some y ∧ y.name = e.name
theorem riseT_se {e : Sl} {l : List Edge} {S : Nat → Prop} {w w1 : World} {t : Nat} (he : SlR edgeE w S e l) (hx : Ext w w1) (ht : t < l.length) : ∃ (ad : Addr) (n : ByteArray),(decide ((0 : Int) < (t : Int)) = true → e.a = some ad ∧ (0 : Int) ≤ wrapI ((t : Int) - 1) ∧ wrapI ((t : Int) - 1) < (e.len : Int)) ∧
  (decide ((0 : Int) < (t : Int)) = true → ldc w1 (ad.add ((wrapI ((t : Int) - 1)).toNat * 2)) [.string n]) ∧ ((decide ((0 : Int) < (t : Int)) && !bLt n l[t].name) = false ↔ (0 < t → bLt l[t - 1].name l[t].name = true)):=by
 have hl:=he.len
 rcases Nat.eq_zero_or_pos t with rfl | h0
 ·exact ⟨⟨0,0,none⟩,⟨#[]⟩,(fun h=>by cases h),(fun h=>by cases h),fun _ h=>by omega,fun _ => rfl⟩
 ·obtain ⟨ad,ha,hc⟩:=edgeEl he (n:=t - 1) (by omega)
  rw [wrap_pred h0 ht he.max]
  refine ⟨ad,l[t - 1].name,fun _ => ⟨ha,by omega,by omega⟩,fun _ => (hc _ hx).pre rfl,fun h _ => ?_,fun h=>?_⟩
  ·rw [decide_eq_true (by omega : (0 : Int) < (t : Int)),Bool.true_and] at h
   simpa using h
  ·rw [h h0]; simp
set_option maxHeartbeats 4000000 in
theorem formed_se {s : Sl} {g : List Node} {S : Nat → Prop} {w : World} {R : Bool → World → Prop} (hs : SlR nodeE w S s g) (hR : ∀ (b : Bool) w',Ext w w' → (b = true ↔ Formed g) → R b w') : SE.graph_formed s w R:=by
 unfold SE.graph_formed
 have hsl:=hs.len
 have hbad : ∀ w',Ext w w' → ¬ Formed g → R false w':=fun w' hx h=>hR false w' hx ⟨(fun h=>by cases h),fun hf=>absurd hf h⟩
 refine newS.intro fun a w1 x1 hb1 hab1 _ => ⟨s,hb1.ldc.pre (r:=[]) rfl,bound ⟨s,fun _ => hb1.ldc.pre (r:=[]) rfl,fun hc=>?_,fun hc=>?_⟩⟩
 ·refine hbad w1 x1 fun hF=>?_
  obtain ⟨q1,q2⟩:=hF.len
  rw [decide_eq_false (by omega),decide_eq_false (by omega)] at hc
  cases hc
 simp only [Bool.or_eq_false_iff,decide_eq_false_iff_not] at hc
 obtain ⟨hc1,hc2⟩:=hc
 have hg0 : 0 < g.length:=by omega
 have hg128 : g.length ≤ 128:=by omega
 obtain ⟨ad0,c0,e0,ha0,_,hcx0,_,hc0⟩:=nodeEl hs hg0
 have hcl0:=hcx0.len
 refine ⟨s,hb1.ldc.pre (r:=[]) rfl,ad0,⟨ha0,by omega,by omega⟩,_,_,_,_,_,_,hc0 _ x1,newS.set rfl fun a4 w2 x2 hb2 _ => ⟨_,hb2.at0 (Ext.refl _) rfl,bound ⟨_,_,_,fun _ => hb2.at1 (k:=1) (Ext.refl _) rfl,bound ⟨c0,fun _ => hb2.at1 (k:=4) (Ext.refl _) rfl,?_⟩⟩⟩⟩
 have x02 : Ext w w2:=x1.trans x2
 have hroot : (∃ x,g[0]? = some x ∧ x.key = rootNode.key) ↔ ((!bEq g[0].name ⟨#[]⟩ || !((g[0].v.ma == 0) && ((g[0].v.mi == 0) && ((g[0].v.pa == 0) && true)))) || decide (0 < (c0.len : Int))) = false:=by
  have e1 : g[0]? = some g[0]:=List.getElem?_eq_getElem hg0
  rw [e1]
  generalize g[0] = z at *
  obtain ⟨n,⟨p,q,r⟩,cx,ed⟩:=z
  have hcl0 : c0.len = cx.length:=hcl0
  simp only [Option.some.injEq,exists_eq_left',Node.key,rootNode,Prod.mk.injEq,Ver.mk.injEq,Bool.or_eq_false_iff,Bool.not_eq_false',bEq_iff,Bool.and_eq_true,beq_iff_eq,decide_eq_false_iff_not,and_true]
  constructor
  ·rintro ⟨h1,⟨h2,h3,h4⟩,h5⟩
   subst h5
   exact ⟨⟨h1,h2,h3,h4⟩,by simp at hcl0; omega⟩
  ·rintro ⟨⟨h1,h2,h3,h4⟩,h5⟩
   exact ⟨h1,⟨h2,h3,h4⟩,List.eq_nil_of_length_eq_zero (by omega)⟩
 refine ⟨fun hc=>hbad w2 x02 fun hF=>?_,fun hc=>?_⟩
 ·rw [hroot.1 hF.root] at hc; cases hc
 have hrt:=hroot.2 hc
 have hb1' : ∀ w',Ext w2 w' → ldc w' a [s.v]:=fun w' hx=>(hb1.ext (x2.trans hx)).ldc.pre (r:=[]) rfl
 refine ⟨s,hb1' _ (Ext.refl _),?_⟩
 refine loop1.up hs.max (fun i w'=>Ext w2 w' ∧ ∀ j (hj : j < g.length),j < i → NodeOk g j g[j]) ⟨Ext.refl _,fun j _ h=>by omega⟩ fun i w3 nxt hi ⟨x3,hI⟩ hn=>⟨fun hlt=>?_,fun hge=>?_⟩
 ·have hlt' : i < g.length:=by omega
  have hgi : g[i]? = some g[i]:=List.getElem?_eq_getElem hlt'
  obtain ⟨ad,c,e,ha,_,hcx,he,hcn⟩:=nodeEl hs hlt'
  have hel:=he.len
  have hbadN : ∀ w',Ext w w' → ¬ NodeOk g i g[i] → R false w':=fun w' hx h=>hbad w' hx fun hF=>h (hF.nodes i _ hgi)
  have x03 : Ext w w3:=x02.trans x3
  refine ⟨ad,⟨ha,by omega,hlt⟩,_,_,_,_,_,_,hcn _ x03,newS.set rfl fun a17 w4 x4 hb4 _ => ⟨c,hb4.at1 (k:=4) (Ext.refl _) rfl,?_⟩⟩
  have x04 : Ext w w4:=x03.trans x4
  refine SE.graph_rises.go (rises_se (hcx.ext x04) fun b22 w5 x5 hb22=>⟨_,rfl,bound (bound ?_)⟩)
  have x05 : Ext w w5:=x04.trans x5
  refine ⟨s,fun _ => hb1' _ (by (first | assumption | exact Ext.refl _ | solve_by_elim (maxDepth:=40) only [*,Ext.trans])),_,fun _ => hb4.at0 x5 rfl,_,_,_,fun _ => hb4.at1 (k:=1) x5 rfl,c,fun _ => hb4.at1 (k:=4) x5 rfl,?_⟩
  refine gCall.intro (keyI g g[i].key) (fun _ q hq=>SE.graph_Find.go (find_se (hs.ext x05) (hcx.ext x05) fun w6 x6=>⟨_,rfl,hq w6 x6⟩)) fun t60 w6 x6 ht=>?_
  have x06 : Ext w w6:=x05.trans x6
  have hfind : (!(!b22) && decide ((0 : Int) < (i : Int))) = true → ((t60 == (i : Int)) = true ↔ (i ≠ 0 → keyIx g g[i].key = some i)):=fun h=>by
   rw [ht h]
   simp only [Bool.not_not,Bool.and_eq_true,decide_eq_true_eq] at h
   unfold keyI
   cases hk : keyIx g g[i].key with
   | none=>simp only [beq_iff_eq]; exact ⟨fun h=>by omega,fun h'=>by cases h' (by omega)⟩
   | some j =>
    simp only [beq_iff_eq,Option.some.injEq]
    exact ⟨fun h _ => by omega,fun h'=>by rw [h' (by omega)]⟩
  refine ⟨fun hc=>hbadN w6 x06 fun hN=>?_,fun hc=>?_⟩
  ·have h1 : b22 = true:=hb22.2 hN.ctx
   subst h1
   simp only [Bool.not_true,Bool.false_or,Bool.and_eq_true,decide_eq_true_eq,Bool.not_eq_true'] at hc
   obtain ⟨c1,c2⟩:=hc
   have:=(hfind (by simpa using c1)).2 hN.find
   rw [c2] at this; cases this
  have hcN : Rises g[i].ctx ∧ (i ≠ 0 → keyIx g g[i].key = some i):=by
   simp only [Bool.or_eq_false_iff,Bool.not_eq_false'] at hc
   obtain ⟨c1,c2⟩:=hc
   subst c1
   refine ⟨hb22.1 rfl,fun h0=>?_⟩
   have h0' : (0 : Int) < (i : Int):=by omega
   have hd : decide ((0 : Int) < (i : Int)) = true:=decide_eq_true h0'
   rw [hd,Bool.true_and] at c2
   exact (hfind (by rw [hd]; rfl)).1 (by simpa using c2) h0
  clear hfind ht hc
  refine ⟨e,(hb4.ext (x5.trans x6)).ldc.mid (k:=5) (r:=[]) rfl,?_⟩
  refine loop1.up he.max (fun t w'=>Ext w6 w' ∧ RiseN Edge.name (g[i].edges.take t) ∧ ∀ ed ∈ g[i].edges.take t,ToR g ed) ⟨Ext.refl _,.nil,fun _ h=>by cases h⟩ fun t w7 nxt' ht ⟨x7,hI1,hI2⟩ hn'=>⟨fun hlt2=>?_,fun hge2=>?_⟩
  ·have hlt2' : t < g[i].edges.length:=by omega
   have x07 : Ext w w7:=x06.trans x7
   obtain ⟨ae,hae,hce⟩:=edgeEl he hlt2'
   refine ⟨ae,⟨hae,by omega,hlt2⟩,_,_,hce _ x07,newS.set rfl fun a37 w8 x8 hb8 _ => bnd.drew fun w9 x9=>bound ?_⟩
   have x09 : Ext w w9:=x07.trans (x8.trans x9)
   have x29 : Ext w2 w9:=by (first | assumption | exact Ext.refl _ | solve_by_elim (maxDepth:=40) only [*,Ext.trans])
   have x49 : Ext w4 w9:=by (first | assumption | exact Ext.refl _ | solve_by_elim (maxDepth:=40) only [*,Ext.trans])
   obtain ⟨ad43,n82,p1,p2,p3⟩:=riseT_se he x09 hlt2'
   refine ⟨e,fun _ => (hb4.ext x49).ldc.mid (k:=5) (r:=[]) rfl,ad43,p1,n82,p2,_,fun _ => hb8.at0 x9 rfl,bound ?_⟩
   have gr:=hb8.at1 (k:=1) (r:=[]) (cs':=[.int .i64 g[i].edges[t].to]) x9 rfl
   generalize hpv : (decide ((0 : Int) < (t : Int)) && !bLt n82 g[i].edges[t].name) = b47 at *
   refine ⟨_,fun _ => gr,bound ⟨_,fun _ => gr,s,fun _ => hb1' _ x29,bound ?_⟩⟩
   by_cases hH : b47 = false ∧ 1 ≤ g[i].edges[t].to ∧ g[i].edges[t].to < (g.length : Int)
   ·obtain ⟨q1,q2,q3⟩:=hH
    obtain ⟨m,hm,e1,e2,e3⟩:=at_nat hs (by omega : 0 ≤ g[i].edges[t].to) q3
    obtain ⟨ad5,_,_,ha5,_,_,_,hc5⟩:=nodeEl hs hm
    refine ⟨s,fun _ => hb1' _ x29,_,fun _ => gr,ad5,fun _ => ⟨ha5,by omega,by omega⟩,_,fun _ => by rw [e2]; exact (hc5 _ x09).pre rfl,_,fun _ => hb8.at0 x9 rfl,?_⟩
    have e47 : (b47 || decide (g[i].edges[t].to < 1) || decide ((s.len : Int) ≤ g[i].edges[t].to)) = false:=by
     rw [q1,decide_eq_false (by omega),decide_eq_false (by omega)]; rfl
    rw [e47,Bool.false_or]
    have htr : ToR g g[i].edges[t] ↔ g[m].name = g[i].edges[t].name:=by
     constructor
     ·rintro ⟨j,y,h1,h2,h3,h4⟩
      have : j = m:=by omega
      subst this
      rw [List.getElem?_eq_getElem hm] at h3
      cases h3; exact h4
     ·intro h; exact ⟨m,g[m],e1,by omega,List.getElem?_eq_getElem hm,h⟩
    refine ⟨fun hc=>hbadN w9 x09 fun hN=>?_,fun hc=>hn' hlt2' w9 ⟨by (first | assumption | exact Ext.refl _ | solve_by_elim (maxDepth:=40) only [*,Ext.trans]),?_,fun ed hed=>?_⟩⟩
    ·have:=htr.1 (hN.to _ (List.getElem_mem hlt2'))
     rw [bEq_iff.2 this] at hc; cases hc
    ·rcases Nat.eq_zero_or_pos t with h0 | h0
     ·subst h0; exact rise_one
     ·exact rise_step h0 hlt2' hI1 (p3.1 q1 h0)
    ·rw [List.take_succ_eq_append_getElem hlt2'] at hed
     rcases List.mem_append.1 hed with h | h
     ·exact hI2 ed h
     ·rw [List.mem_singleton] at h
      subst h
      exact htr.2 (bEq_iff.1 (by simpa using hc))
   ·have e47 : (b47 || decide (g[i].edges[t].to < 1) || decide ((s.len : Int) ≤ g[i].edges[t].to)) = true:=by
     cases b47 with
     | true=>rfl
     | false =>
      simp only [true_and,Bool.false_or,Bool.or_eq_true,decide_eq_true_eq] at hH ⊢
      omega
    rw [e47]
    refine ⟨s,(fun h=>by cases h),0,(fun h=>by cases h),ad0,(fun h=>by cases h),⟨#[]⟩,(fun h=>by cases h),⟨#[]⟩,(fun h=>by cases h),fun _ => hbadN w9 x09 fun hN=>hH ?_,(fun h=>by cases h)⟩
    refine ⟨p3.2 fun h0=>?_,?_⟩
    ·exact List.pairwise_iff_getElem.1 hN.rise (t - 1) t (by omega) hlt2' (by omega)
    ·obtain ⟨j,y,h1,h2,h3,_⟩:=hN.to _ (List.getElem_mem hlt2')
     have:=(List.getElem?_eq_some_iff.1 h3).1
     omega
  ·rw [List.take_of_length_le (by omega)] at hI1 hI2
   refine hn hlt' w7 ⟨by (first | assumption | exact Ext.refl _ | solve_by_elim (maxDepth:=40) only [*,Ext.trans]),fun j hj hji=>?_⟩
   rcases Nat.lt_succ_iff_lt_or_eq.1 hji with h | h
   ·exact hI j hj h
   ·subst h; exact ⟨hcN.1,hcN.2,hI1,hI2⟩
 ·have x03 : Ext w w3:=x02.trans x3
  refine bnd.drew fun w4 x4=>⟨s,hb1' _ (x3.trans x4),s,hb1' _ (x3.trans x4),callX.intro (SE.graph_Reach.go (reach_se (hs.ext (x03.trans x4)) fun t l w5 x5 hr ht=>⟨x5,t,rfl,?_⟩))⟩
  refine hR _ w5 ((x03.trans x4).trans x5) ?_
  have h1:=ht.len
  have h2:=hr.len
  rw [beq_iff_eq]
  constructor
  ·intro h
   exact ⟨⟨hg0,hg128⟩,hrt,fun j x hj=>by
    obtain ⟨hj',rfl⟩:=List.getElem?_eq_some_iff.1 hj
    exact hI j hj' (by omega),by omega⟩
  ·intro hF
   have:=hF.reach
   omega
end Go.Hal
namespace Go.Hal
open Go Go.RowKit Go.Proofs Go.Shelf
theorem pinStr {w : World} {S : Nat → Prop} {s : Sl} {l : List Pin} (h : SlR pinE w S s l) : ∀ q ∈ l,Str q.name:=fun q hq=>by
 obtain ⟨n,hn,rfl⟩:=List.mem_iff_getElem.1 hq
 obtain ⟨_,_,_,h1,_⟩:=pinEl h hn
 exact h1
theorem find_none_of {α : Type} {p : α → Bool} {l : List α} (h : l.any p = false) : l.find? p = none:=by
 rw [List.find?_eq_none]
 intro x hx
 have:=List.any_eq_false.1 h x hx
 simpa using this
theorem idx_find {α : Type} (p : α → Bool) (l : List α) : (idxI p l = -1 ∧ l.find? p = none) ∨ ∃ k,∃ hk : k < l.length,idxI p l = (k : Int) ∧ l.find? p = some l[k]:=by
 by_cases h : idxI p l = -1
 ·refine .inl ⟨h,find_none_of ?_⟩
  rw [← idxI_any,h]; rfl
 ·obtain ⟨n,hn,e,ht,hp⟩:=idxI_cases h
  exact .inr ⟨n,hn,e,find_hit hn (find_none_of ht) hp⟩
theorem envGo_none {out r : List Pin} {x : Pin} (h : out.find? (isN x.name) = none) : envGo out (x :: r) = envGo (out ++ [x]) r:=by
 conv=>lhs; unfold envGo
 rw [h]
theorem envGo_same {out r : List Pin} {x y : Pin} (h : out.find? (isN x.name) = some y) (he : y = x) : envGo out (x :: r) = envGo out r:=by
 conv=>lhs; unfold envGo
 rw [h]; dsimp only; rw [if_pos he]
theorem envGo_diff {out r : List Pin} {x y : Pin} (h : out.find? (isN x.name) = some y) (he : y ≠ x) : envGo out (x :: r) = none:=by
 conv=>lhs; unfold envGo
 rw [h]; dsimp only; rw [if_neg he]
def edgePin (g : List Node) (e : Edge) : Option Pin:=(g[e.to.toNat]?).map fun y=>⟨e.name,y.v⟩
theorem OwnS.pins {w : World} {lo : Nat} {T : TypeId} {s : Sl} {l : List Pin} (h : OwnS pinE T w lo None' s l) (hl : l.length ≤ 1000000000000) : SlR pinE w (fun b=>lo ≤ b) s l:=h.readF (by decide) (by show l.length * 40 ≤ room; unfold room; omega)
set_option maxHeartbeats 4000000 in
theorem environment_se {s : Sl} {g : List Node} {k : Nat} {x : Node} {S : Nat → Prop} {w : World} {R : Sl → Bool → World → Prop} (hS : Old S w) (hs : SlR nodeE w S s g) (hk : g[k]? = some x) (hv : ToOk g x) (hn : (x.ctx.map (·.name)).Nodup) (hb : x.ctx.length + x.edges.length ≤ 1000000)
  (h1 : ∀ env t w',envOf g x = some env → Ext w w' → FlatO pinC 40 w' w.heap.size t env → (∀ q ∈ env,Str q.name) → R t true w') (h0 : ∀ w',envOf g x = none → Ext w w' → R Sl.nil false w') : SE.graph_environment s (k : Int) w R:=by
 unfold SE.graph_environment
 have hsl:=hs.len
 obtain ⟨hkl,rfl⟩:=List.getElem?_eq_some_iff.1 hk
 obtain ⟨ad,c,e,ha,_,hcx,he,hc⟩:=nodeEl hs hkl
 have hel:=he.len
 refine newS.intro fun a w1 x1 hb1 hab1 _ => ⟨s,hb1.ldc.pre (r:=[]) rfl,ad,⟨ha,by omega,by omega⟩,c,(hc _ x1).mid (k:=4) rfl,?_⟩
 refine SE.slices_Clone_apiPinapiPin.go (clonePin_se (hS.ext x1.size) (hcx.ext x1) fun t17 w2 x2 o2=>⟨_,rfl,?_⟩)
 have x02:=x1.trans x2
 refine ⟨s,(hb1.ext x2).ldc.pre (r:=[]) rfl,ad,⟨ha,by omega,by omega⟩,e,(hc _ x02).mid (k:=5) (r:=[]) rfl,?_⟩
 have hst : ∀ q ∈ g[k].ctx,Str q.name:=pinStr hcx
 refine loop2.up he.max (fun so t w'=>∃ o : List Pin,Ext w1 w' ∧ OwnS pinE 67 w' w1.heap.size None' so o ∧ envGo o ((g[k].edges.drop t).filterMap (edgePin g)) = envGo g[k].ctx (envPins g g[k]) ∧ (o.map (·.name)).Nodup ∧ (∀ q ∈ o,Str q.name) ∧ o.length ≤ g[k].ctx.length + t)
  ⟨_,x2,o2,rfl,hn,hst,Nat.le_refl _⟩ fun so t w3 nxt ht ⟨o,x3,o3,hgo,hnd,hso,hol⟩ hnx=>⟨fun hlt=>join.named fun J hJ=>?_,fun hge=>?_⟩
 ·have hlt' : t < g[k].edges.length:=by omega
  have hJ' : ∀ (so' : Sl) w' (o' : List Pin),Ext w1 w' → OwnS pinE 67 w' w1.heap.size None' so' o' → envGo o' ((g[k].edges.drop (t + 1)).filterMap (edgePin g)) = envGo g[k].ctx (envPins g g[k]) → (o'.map (·.name)).Nodup → (∀ q ∈ o',Str q.name) → o'.length ≤ g[k].ctx.length + (t + 1) → J so' w':=fun so' w' o' q1 q2 q3 q4 q5 q6=>by
   subst hJ
   exact hnx hlt' so' w' ⟨o',q1,q2,q3,q4,q5,q6⟩
  clear hJ hnx
  have x03:=x1.trans x3
  obtain ⟨ae,hae,hce⟩:=edgeEl he hlt'
  obtain ⟨_,_,_,_,⟨_,hen⟩,_⟩:=he.el hlt'
  obtain ⟨t0,t1⟩:=hv _ (List.getElem_mem hlt')
  obtain ⟨m,hm,e1,e2,e3⟩:=at_nat hs t0 t1
  obtain ⟨ad5,_,_,ha5,_,_,_,hc5⟩:=nodeEl hs hm
  rw [List.drop_eq_getElem_cons hlt'] at hgo
  have hpin : edgePin g g[k].edges[t] = some ⟨g[k].edges[t].name,g[m].v⟩:=by unfold edgePin; rw [e3]; rfl
  rw [List.filterMap_cons_some hpin] at hgo
  generalize g[k].edges[t] = ed at *
  refine ⟨ae,⟨hae,by omega,hlt⟩,_,_,hce _ x03,newS.set rfl fun a13 w4 x4 hb4 hab4=>bnd.drew fun w5 x5=>?_⟩
  have x05:=x03.trans (x4.trans x5)
  have hb5:=hb4.ext x5
  refine ⟨_,hb5.at0 (Ext.refl _) rfl,s,(hb1.ext (x3.trans (x4.trans x5))).ldc.pre (r:=[]) rfl,_,hb5.at1 (k:=1) (r:=[]) (Ext.refl _) rfl,ad5,⟨ha5,by omega,by omega⟩,g[m].v.ma,g[m].v.mi,g[m].v.pa,by rw [e2]; exact (hc5 _ x05).mid (k:=1) rfl,newS.set rfl fun a23 w6 x6 hb6 _ => ?_⟩
  have x36:=x4.trans (x5.trans x6)
  have hread:=(o3.ext x36).pins (by omega)
  refine SE.slices_IndexFunc_apiPinapiPin.go (idxPin_se (p:=isN ed.name) hread (fun q _ w7 k7 hx7 hk7=>⟨_,_,rfl,entersEnv1,SE.graph_environment_1.go (env1_se (q:=q) ((hb5.ext x6).ext hx7) hk7)⟩) fun w7 x7=>⟨_,rfl,?_⟩)
  have x37:=x36.trans x7
  rcases idx_find (isN ed.name) o with ⟨i1,i2⟩ | ⟨i,hi,i1,i2⟩
  ·rw [i1]
   refine ⟨fun _ => ?_,fun h=>absurd (by decide) h⟩
   rw [envGo_none i2] at hgo
   refine ⟨_,_,_,_,(hb6.ext x7).ldc.pre (r:=[]) rfl,newS.intro fun a30 w8 x8 hb8 _ _ => ?_⟩
   have s8:=(x3.trans (x37.trans x8)).size
   have eb : pinE.bytes = 40:=rfl
   refine (o3.ext (x37.trans x8)).push apPin s8 (x:=⟨ed.name,g[m].v⟩) (S':=None') ⟨rfl,hen⟩ (hb8.ldc.pre (r:=[]) rfl) (fun _ h=>h.elim) (fun _ _ h=>h.elim) (by rw [eb]; unfold room; omega) (by rw [maxLen_eq]; omega) fun so' w9 o9 bel9 _ _ => ?_
   have x89 : Ext w1 w9:=(x3.trans (x37.trans x8)).trans' bel9
   refine hJ' so' w9 _ x89 (OwnS.flat (fun h=>h) o9) hgo ?_ (fun q hq=>?_) (by rw [List.length_append,List.length_singleton]; omega)
   ·rw [List.map_append,List.nodup_append]
    refine ⟨hnd,by simp,fun a ha b hb=>?_⟩
    simp only [List.map_cons,List.map_nil,List.mem_singleton] at hb
    subst hb
    obtain ⟨q,hq,rfl⟩:=List.mem_map.1 ha
    have:=List.find?_eq_none.1 i2 q hq
    intro h; exact this (by simp [isN,h])
   ·rcases List.mem_append.1 hq with hq | hq
    ·exact hso q hq
    ·rw [List.mem_singleton] at hq; subst hq; exact hen
  ·rw [i1]
   refine ⟨fun h=>by omega,fun _ => bnd.drew fun w8 x8=>?_⟩
   have hread8:=(o3.ext (x37.trans x8)).pins (by omega)
   have hrl:=hread8.len
   obtain ⟨ap,hap,_,_,hcp⟩:=pinEl hread8 hi
   refine ⟨ap,⟨hap,by omega,by omega⟩,_,_,_,_,by rw [Int.toNat_natCast]; exact hcp _ (Ext.refl _),_,_,_,_,(hb6.ext (x7.trans x8)).ldc.pre (r:=[]) rfl,?_⟩
   have ep : (!((bEq o[i].name ed.name) && (((o[i].v.ma == g[m].v.ma) && ((o[i].v.mi == g[m].v.mi) && ((o[i].v.pa == g[m].v.pa) && true))) && true))) = !decide (o[i] = ⟨ed.name,g[m].v⟩):=pinNe (y:=⟨ed.name,g[m].v⟩)
   rw [ep]
   have x08:=x03.trans (x37.trans x8)
   refine ⟨fun hq=>h0 w8 ?_ x08,fun hq=>?_⟩
   ·unfold envOf
    rw [← hgo,envGo_diff i2 (by simpa using hq)]; rfl
   ·rw [envGo_same i2 (by simpa using hq)] at hgo
    exact hJ' so w8 o (x3.trans (x37.trans x8)) (o3.ext (x37.trans x8)) hgo hnd hso (by omega)
 ·rw [List.drop_eq_nil_of_le (by omega)] at hgo
  have hgo : some o = envGo g[k].ctx (envPins g g[k]):=hgo
  have x03:=x1.trans x3
  have hfl : FlatO pinC 40 w3 w.heap.size so o:=FlatO.of (E:=pinE) (fun x cs h=>h.1) (o3.lowr x1.size) (by unfold room; omega)
  refine sortPinE_k hfl x03.size hnd fun w4 bel4 hfl4=>⟨rfl,?_⟩
  refine h1 (sortN o) so w4 ?_ (x03.trans' bel4) hfl4 fun q hq=>hso q ((sortN_perm o).mem_iff.1 hq)
  unfold envOf
  rw [← hgo]; rfl
end Go.Hal
namespace Go.Hal
open Go Go.RowKit Go.Proofs Go.MapKept
section
variable {P : Program} {mt : TypeId} {K : Value → Prop} {zero : Value} {w w' : World} {r : Nat} {m : List (Value × Value)}
theorem update_old2 (T : KeyT P mt K zero) (h : MapR K w r m) {k v u : Value} (hk : K k) (hm : (k,u) ∈ m) {c : World → Prop} (hc' : ∀ w' m',But r w w' → w'.heap.size = w.heap.size → MapR K w' r m' → (k,v) ∈ m' → m'.map (·.1) = m.map (·.1) → (∀ p ∈ m',p = (k,v) ∨ p ∈ m) → c w') : semU P (Instr.mapUpdate mt (.map (some r)) k v) w c:=by
 obtain ⟨kt,et,hu,hz,hc,hf⟩:=T.und
 obtain ⟨es,clock,hb,hs,rfl,hks⟩:=h
 rcases hf k hk es.toList hks w with ⟨hn,_⟩ | ⟨j,e,hj,he,hr⟩
 ·obtain ⟨e,he,h1⟩:=List.mem_map.1 hm
  exact absurd (congrArg Prod.fst h1) (hn e he)
 ·have hje : es[j]? = some e:=by simpa using hj
  have hsame : ∀ e',es[j]? = some e' → e'.key = k:=fun e' h=>by rw [hje] at h; cases h; exact he
  have hst : (Instr.keyThatStays (((es[j]?).map (·.key)).getD k) k).run P w = .ok k w:=by
   rw [hje]
   simp only [Option.map_some,Option.getD_some,he]
   simp [Instr.keyThatStays,T.stay k hk]
  refine ⟨{ w with heap:=w.heap.setIfInBounds r (.map (es.modify j fun e=>{ e with key:=k,val:=v }) clock) },?_,hc' _ ((es.modify j fun e=>{ e with key:=k,val:=v }).toList.map fun e=>(e.key,e.val)) ⟨?_,rfl,rfl,rfl,?_⟩ ?_ ?_ ?_ ?_ ?_⟩
  ·simp only [Instr.mapUpdate,Sem.run_bind,run_underlying hu,Result.andThen,Go.MapKept.run_getObj_map hb,hc k hk,hr]
   rw [hst]
   simp [run_setObj_map _ hb]
  ·simp
  ·intro b hbl hne'
   exact (heap_set hb).2 b hne'
  ·simp
  ·refine ⟨_,_,(heap_set hb).1,stamped_modify hs j _ (fun _ _ => rfl) (fun e' _ h=>(hsame e' h).symm),rfl,fun x hx=>?_⟩
   have hkeys:=modify_keys (es:=es) j (fun e=>{ e with key:=k,val:=v }) (fun e' h=>(hsame e' h).symm)
   have : x.key ∈ (es.modify j fun e=>{ e with key:=k,val:=v }).toList.map (·.key):=List.mem_map.2 ⟨x,hx,rfl⟩
   rw [hkeys] at this
   obtain ⟨y,hy,hxy⟩:=List.mem_map.1 this
   rw [← hxy]; exact hks y hy
  ·have hjl : j < es.size:=(Array.getElem?_eq_some_iff.1 hje).1
   refine List.mem_map.2 ⟨{ e with key:=k,val:=v },?_,rfl⟩
   refine List.mem_of_getElem? (i:=j) ?_
   simp [Array.getElem?_modify,hje]
  ·rw [List.map_map,List.map_map]
   exact modify_keys (es:=es) j (fun e=>{ e with key:=k,val:=v }) (fun e' h=>(hsame e' h).symm)
  ·intro p hp
   obtain ⟨x,hx,rfl⟩:=List.mem_map.1 hp
   obtain ⟨i,hi,rfl⟩:=List.mem_iff_getElem.1 hx
   have hi' : i < es.size:=by simpa using hi
   by_cases hij : i = j
   ·subst hij
    left
    simp [Array.getElem_modify]
   ·right
    refine List.mem_map.2 ⟨es[i],by simp,?_⟩
    simp [Array.getElem_modify,Ne.symm hij]
end
def kvS (p : ByteArray × Int) : Value × Value:=(.string p.1,.int .i64 p.2)
def NM (w : World) (r : Nat) (ks : List ByteArray) : Prop:=∃ m : List (ByteArray × Int),MapR strV w r (m.map kvS) ∧ (∀ n,n ∈ m.map (·.1) ↔ n ∈ ks) ∧ ∀ p ∈ m,p.2 ≠ 0
theorem NM.ext {w w' : World} {r : Nat} {ks : List ByteArray} (h : NM w r ks) (hx : Ext w w') : NM w' r ks:=by
 obtain ⟨m,h1,h2⟩:=h
 exact ⟨m,h1.ext hx,h2⟩
theorem NM.lt {w : World} {r : Nat} {ks : List ByteArray} (h : NM w r ks) : r < w.heap.size:=by
 obtain ⟨m,h1,_⟩:=h
 exact h1.lt
theorem NM.look {w : World} {r : Nat} {ks : List ByteArray} (h : NM w r ks) (n : ByteArray) : ∃ v : Int,(Instr.lookup 161 (.map (some r)) (.string n) false).run Tryz.prog w = .ok (.int .i64 v) w ∧ (v = 0 ↔ n ∉ ks):=by
 obtain ⟨m,h1,h2,h3⟩:=h
 rcases lookup_run strT h1 (k:=.string n) ⟨_,rfl⟩ with ⟨hn,hr⟩ | ⟨v,hin,hr⟩
 ·refine ⟨0,hr false,fun _ hk=>?_,fun _ => rfl⟩
  obtain ⟨p,hp,e⟩:=List.mem_map.1 ((h2 n).2 hk)
  exact hn (kvS p) (List.mem_map_of_mem hp) (by show Value.string p.1 = _; rw [e])
 ·obtain ⟨p,hp,e⟩:=List.mem_map.1 hin
  simp only [kvS,Prod.mk.injEq,Value.string.injEq] at e
  obtain ⟨e1,e2⟩:=e
  subst e2
  refine ⟨p.2,hr false,fun h=>absurd h (h3 p hp),fun h=>absurd ((h2 n).1 (List.mem_map.2 ⟨p,hp,e1⟩)) h⟩
theorem NM.put {w : World} {r : Nat} {ks : List ByteArray} (h : NM w r ks) (n : ByteArray) {v : Int} (hv : v ≠ 0) {c : World → Prop} (hc : ∀ w',But r w w' → w'.heap.size = w.heap.size → NM w' r (ks ++ [n]) → c w') :
  semU Tryz.prog (Instr.mapUpdate 161 (.map (some r)) (.string n) (.int .i64 v)) w c:=by
 obtain ⟨m,h1,h2,h3⟩:=h
 rcases lookup_run strT h1 (k:=.string n) ⟨_,rfl⟩ with ⟨hn,_⟩ | ⟨u,hin,_⟩
 ·refine update_new strT h1 ⟨_,rfl⟩ hn fun w' b hs hM=>hc w' b hs ⟨m ++ [(n,v)],by rw [List.map_append]; exact hM,fun k=>?_,fun p hp=>?_⟩
  ·rw [List.map_append,List.mem_append,List.mem_append,h2]; simp
  ·rcases List.mem_append.1 hp with hp | hp
   ·exact h3 p hp
   ·simp only [List.mem_singleton] at hp; subst hp; exact hv
 ·refine update_old2 strT h1 ⟨_,rfl⟩ hin fun w' m' b hs hM hk hkeys hall=>?_
  have hall' : ∀ p ∈ m',∃ q : ByteArray × Int,p = kvS q ∧ q.2 ≠ 0:=fun p hp=>by
   rcases hall p hp with rfl | hp
   ·exact ⟨(n,v),rfl,hv⟩
   ·obtain ⟨q,hq,rfl⟩:=List.mem_map.1 hp
    exact ⟨q,rfl,h3 q hq⟩
  obtain ⟨m2,e2,h4⟩ : ∃ m2 : List (ByteArray × Int),m' = m2.map kvS ∧ ∀ q ∈ m2,q.2 ≠ 0:=by
   clear hM hk hkeys hall
   induction m' with
   | nil=>exact ⟨[],rfl,fun _ h=>by cases h⟩
   | cons a l ih =>
    obtain ⟨q,rfl,hq⟩:=hall' a (.head _)
    obtain ⟨m2,rfl,h5⟩:=ih fun p hp=>hall' p (.tail _ hp)
    exact ⟨q :: m2,rfl,fun x hx=>by rcases List.mem_cons.1 hx with rfl | hx; exact hq; exact h5 x hx⟩
  subst e2
  refine hc w' b hs ⟨m2,hM,fun k=>?_,h4⟩
  have e : (m2.map kvS).map (·.1) = (m2.map (·.1)).map Value.string:=by rw [List.map_map,List.map_map]; rfl
  have e' : (m.map kvS).map (·.1) = (m.map (·.1)).map Value.string:=by rw [List.map_map,List.map_map]; rfl
  rw [e,e'] at hkeys
  have hk1 : m2.map (·.1) = m.map (·.1):=(List.map_inj_right (f:=Value.string) fun x y h=>by cases h; rfl).1 hkeys
  rw [hk1,h2,List.mem_append,List.mem_singleton]
  constructor
  ·exact .inl
  ·rintro (h | rfl)
   ·exact h
   ·obtain ⟨q,hq,e⟩:=List.mem_map.1 hin
    simp only [kvS,Prod.mk.injEq,Value.string.injEq] at e
    rw [← e.1]; exact (h2 _).1 (List.mem_map_of_mem hq)
end Go.Hal
namespace Go.Hal
open Go Go.RowKit Go.Proofs Go.Shelf
def OwnOk (g : List Node) (x : Node) (l : List Want) : Prop:=∀ w ∈ l,(edgeTo g x w.name = none → w.kind ≠ 1) ∧ ∀ y,edgeTo g x w.name = some y → spansIn w.range y.v = true
def CtxOk (g : List Node) (x : Node) (l : List Pin) : Prop:=∀ p ∈ l,∃ y,edgeTo g x p.name = some y ∧ y.v = p.v
def EdgeOk (L : List Pack) (over : List Dep) (g : List Node) (ws : List Want) (x : Node) (env : List Pin) (e : Edge) : Prop :=
 (e.name ∈ ws.map Want.name ∨ e.name ∈ x.ctx.map Pin.name) ∧ ∃ y,g[e.to.toNat]? = some y ∧ ctxRes L over env ⟨y.name,y.v⟩ = some y.ctx
theorem ownOk_step {g : List Node} {x : Node} {l : List Want} {i : Nat} (hi : i < l.length) (h : OwnOk g x (l.take i)) (h1 : (edgeTo g x l[i].name = none → l[i].kind ≠ 1) ∧ ∀ y,edgeTo g x l[i].name = some y → spansIn l[i].range y.v = true) : OwnOk g x (l.take (i + 1)):=fun w hw=>by
 rw [List.take_succ_eq_append_getElem hi] at hw
 rcases List.mem_append.1 hw with hw | hw
 ·exact h w hw
 ·rw [List.mem_singleton] at hw; subst hw; exact h1
theorem ctxOk_step {g : List Node} {x : Node} {l : List Pin} {i : Nat} (hi : i < l.length) (h : CtxOk g x (l.take i)) (h1 : ∃ y,edgeTo g x l[i].name = some y ∧ y.v = l[i].v) : CtxOk g x (l.take (i + 1)):=fun w hw=>by
 rw [List.take_succ_eq_append_getElem hi] at hw
 rcases List.mem_append.1 hw with hw | hw
 ·exact h w hw
 ·rw [List.mem_singleton] at hw; subst hw; exact h1
set_option maxHeartbeats 8000000 in
theorem sound_se {s o : Sl} {g : List Node} {ws : List Want} {k : Nat} {x : Node} {S T SC SM : Nat → Prop} {p : Addr} {r : Nat} {L : List Pack} {m : Mani} {mD mDev mOpt mOv : Sl} {w : World} {R : Bool → World → Prop}
  (hS : Old S w) (hs : SlR nodeE w S s g) (hk : g[k]? = some x) (hT : Old T w) (ho : SlR wantE w T o ws) (hC : CatL w SC p r L) (hSM : Old SM w) (hO : SlR depE w SM mOv m.over) (hto : ∀ e ∈ x.edges,ToR g e) (hrc : Rises x.ctx) (hb : x.edges.length ≤ 1000)
  (hkind : ∀ w ∈ ws,w.kind ≠ 0) (hR : ∀ (b : Bool) w',Ext w w' → (b = true ↔ SoundAt L m.over g ws x) → R b w') : SE.graph_sound s (k : Int) o (some p) mD mDev mOpt mOv w R:=by
 unfold SE.graph_sound
 have hsl:=hs.len
 have hol:=ho.len
 have hv : ToOk g x:=fun e he=>by
  obtain ⟨j,y,h1,h2,h3,_⟩:=hto e he
  have:=(List.getElem?_eq_some_iff.1 h3).1
  omega
 obtain ⟨hkl,hgx⟩:=List.getElem?_eq_some_iff.1 hk
 obtain ⟨ad,c,e,ha,_,hcx,he,hc⟩:=nodeEl hs hkl
 rw [hgx] at hcx he hc
 have hcl:=hcx.len
 have hel:=he.len
 have hbad : ∀ w',Ext w w' → ¬ SoundAt L m.over g ws x → R false w':=fun w' hx h=>hR false w' hx ⟨(fun h=>by cases h),fun hf=>absurd hf h⟩
 refine newS.intro fun a w1 x1 hb1 hab1 _ => newS.intro fun a1 w2 x2 hb2 hab2 _ => ⟨s,hb1.at0 (r:=[]) x2 rfl,ad,⟨ha,by omega,by omega⟩,_,_,_,_,_,_,hc _ (x1.trans x2),newS.set rfl fun a4 w3 x3 hb3 hab3=>?_⟩
 refine makeMap_intro (K:=strV) fun mp w4 x4 hmp hM=>⟨some mp,rfl,?_⟩
 have hNM : NM w4 mp []:=⟨[],hM,fun _ => by simp,fun _ h=>by cases h⟩
 have x04 : Ext w w4:=x1.trans (x2.trans (x3.trans x4))
 have s03:=(x1.trans (x2.trans x3)).size
 have s3:=x3.size; have s2:=x2.size; have s1:=x1.size
 have b1l:=hb1.lt; have b2l:=hb2.lt; have b3l:=hb3.lt
 have hm3 : w3.heap.size ≤ mp:=by omega
 have KA : ∀ w',Ext w3 w' → BoxAt w' a [s.v] ∧ BoxAt w' a1 [mD.v,mDev.v,mOpt.v,mOv.v] ∧ BoxAt w' a4 [.string x.name,.int .i64 x.v.ma,.int .i64 x.v.mi,.int .i64 x.v.pa,c.v,e.v]:=fun w' hx=>⟨hb1.ext (x2.trans (x3.trans hx)),hb2.ext (x3.trans hx),hb3.ext hx⟩
 have x03 : Ext w w3:=x1.trans (x2.trans x3)
 refine loop1.up ho.max (fun i w'=>Ext w3 w' ∧ NM w' mp ((ws.take i).map Want.name) ∧ OwnOk g x (ws.take i)) ⟨x4,hNM,fun _ h=>by cases h⟩ fun i w5 nxt hi ⟨x5,hN5,hI⟩ hn=>⟨fun hlt=>?_,fun hge=>?_⟩
 ·have hlt' : i < ws.length:=by omega
  obtain ⟨aw,t,haw,_,hwn,hwr,hcw⟩:=wantEl ho hlt'
  have hmem : ws[i] ∈ ws:=List.getElem_mem hlt'
  have hbadW : ∀ w',Ext w w' → ¬ ((edgeTo g x ws[i].name = none → ws[i].kind ≠ 1) ∧ ∀ y,edgeTo g x ws[i].name = some y → spansIn ws[i].range y.v = true) → R false w':=fun w' hx h=>hbad w' hx fun hs=>h (hs.own _ hmem)
  have hgood:=fun h=>hn hlt' (w'':=h)
  have hkz:=hkind _ hmem
  have hstep:=ownOk_step hlt' hI
  have hnames : (ws.take (i + 1)).map Want.name = (ws.take i).map Want.name ++ [ws[i].name]:=by rw [List.take_succ_eq_append_getElem hlt',List.map_append]; rfl
  have x05:=x03.trans x5
  refine ⟨aw,⟨haw,by omega,hlt⟩,_,_,t,hcw _ x05,newS.set rfl fun a12 w6 x6 hb6 hab6=>⟨_,hb6.at0 (Ext.refl _) rfl,_,hb6.at1 (k:=1) (Ext.refl _) rfl,?_⟩⟩
  have hN5l:=hN5.lt
  refine (hN5.ext x6).put ws[i].name hkz fun w7 b7 hs7 hN7=>?_
  have x37 : Ext w3 w7:=b7.ext (x5.trans x6) hm3
  have hb7:=b7.box hb6 (by omega)
  have x07:=x03.trans x37
  rw [← hnames] at hN7
  refine ⟨s,(KA _ x37).1.ldc.pre (r:=[]) rfl,_,hb7.at0 (Ext.refl _) rfl,?_⟩
  have fin : ∀ w',Ext w7 w' → ((edgeTo g x ws[i].name = none → ws[i].kind ≠ 1) ∧ ∀ y,edgeTo g x ws[i].name = some y → spansIn ws[i].range y.v = true) → nxt (wrapI ((i : Int) + 1)) w':=fun w' hx h=>hn hlt' w' ⟨x37.trans hx,hN7.ext hx,hstep h⟩
  clear hn hgood hstep
  refine SE.graph_edge.go (edge_se (hs.ext x07) hk hv (fun y cy ey w8 x8 hy=>⟨_,_,_,_,cy,ey,true,rfl,?_⟩) fun w8 x8 hy=>⟨_,_,_,_,_,_,false,rfl,?_⟩)
  ·refine newS.set rfl fun a22 w9 x9 hb9 _ => bound ⟨ws[i].kind,(fun h=>by cases h),bound ⟨t,fun _ => (hb7.ext (x8.trans x9)).at1 (k:=2) (r:=[]) (Ext.refl _) rfl,_,_,_,fun _ => hb9.at1 (k:=1) (Ext.refl _) rfl,?_⟩⟩
   have x79:=x8.trans x9
   refine gCall.intro (spansIn ws[i].range y.v) (fun _ q hq=>SE.span_In.go (spanIn_se ((hwr.ext x07).ext x79) fun w10 x10=>⟨_,rfl,hq w10 x10⟩)) fun t67 w10 x10 ht=>?_
   have htt : t67 = spansIn ws[i].range y.v:=ht rfl
   have hiff : ((edgeTo g x ws[i].name = none → ws[i].kind ≠ 1) ∧ ∀ y,edgeTo g x ws[i].name = some y → spansIn ws[i].range y.v = true) ↔ t67 = true:=by
    rw [hy,htt]
    exact ⟨fun h=>h.2 y rfl,fun h=>⟨(fun h=>by cases h),fun z hz=>by cases hz; exact h⟩⟩
   refine ⟨fun hq=>hbadW w10 (x07.trans (x79.trans x10)) fun h=>?_,fun hq=>fin w10 (x79.trans x10) (hiff.2 (by simpa using hq))⟩
   rw [hiff.1 h] at hq; cases hq
  ·refine newS.set rfl fun a22 w9 x9 hb9 _ => bound ⟨ws[i].kind,fun _ => (hb7.ext (x8.trans x9)).at1 (k:=1) (Ext.refl _) rfl,bound ⟨t,fun _ => (hb7.ext (x8.trans x9)).at1 (k:=2) (r:=[]) (Ext.refl _) rfl,_,_,_,fun _ => hb9.at1 (k:=1) (Ext.refl _) rfl,?_⟩⟩
   have x79:=x8.trans x9
   have hiff : ((edgeTo g x ws[i].name = none → ws[i].kind ≠ 1) ∧ ∀ y,edgeTo g x ws[i].name = some y → spansIn ws[i].range y.v = true) ↔ ws[i].kind ≠ 1:=by
    rw [hy]
    exact ⟨fun h=>h.1 rfl,fun h=>⟨fun _ => h,fun z hz=>by cases hz⟩⟩
   refine ⟨fun h=>by simp at h,fun _ => ⟨fun hq=>hbadW w9 (x07.trans x79) fun h=>?_,fun hq=>fin w9 x79 (hiff.2 fun h=>?_)⟩⟩
   ·have:=hiff.1 h
    simp at hq; exact this hq
   ·rw [h] at hq; cases hq
 ·rw [List.take_of_length_le (by omega)] at hI hN5
  have x05:=x03.trans x5
  refine ⟨c,(KA _ x5).2.2.at1 (k:=4) (Ext.refl _) rfl,?_⟩
  refine loop1.up hcx.max (fun i w'=>Ext w3 w' ∧ NM w' mp (ws.map Want.name ++ (x.ctx.take i).map Pin.name) ∧ CtxOk g x (x.ctx.take i)) ⟨x5,by simpa using hN5,fun _ h=>by cases h⟩ fun i w6 nxt hi6 ⟨x6,hN6,hI6⟩ hn=>⟨fun hlt=>?_,fun hge6=>?_⟩
  ·have hlt' : i < x.ctx.length:=by omega
   obtain ⟨ap,hap,_,hpn,hcp⟩:=pinEl hcx hlt'
   have hmem : x.ctx[i] ∈ x.ctx:=List.getElem_mem hlt'
   have hbadP : ∀ w',Ext w w' → ¬ (∃ y,edgeTo g x x.ctx[i].name = some y ∧ y.v = x.ctx[i].v) → R false w':=fun w' hx h=>hbad w' hx fun hs=>h (hs.ctx _ hmem)
   have hstep:=ctxOk_step hlt' hI6
   have hnames : ws.map Want.name ++ (x.ctx.take (i + 1)).map Pin.name = (ws.map Want.name ++ (x.ctx.take i).map Pin.name) ++ [x.ctx[i].name]:=by rw [List.take_succ_eq_append_getElem hlt',List.map_append,List.append_assoc]; rfl
   have x06:=x03.trans x6
   refine ⟨ap,⟨hap,by omega,hlt⟩,_,_,_,_,hcp _ x06,newS.set rfl fun a38 w7 x7 hb7 hab7=>⟨_,hb7.at0 (Ext.refl _) rfl,?_⟩⟩
   have hN6l:=hN6.lt
   refine (hN6.ext x7).put x.ctx[i].name (v:=1) (by decide) fun w8 b8 hs8 hN8=>?_
   have x38 : Ext w3 w8:=b8.ext (x6.trans x7) hm3
   have hb8:=b8.box hb7 (by omega)
   have x08:=x03.trans x38
   rw [← hnames] at hN8
   refine ⟨s,(KA _ x38).1.ldc.pre (r:=[]) rfl,_,hb8.at0 (Ext.refl _) rfl,?_⟩
   have fin : ∀ w',Ext w8 w' → (∃ y,edgeTo g x x.ctx[i].name = some y ∧ y.v = x.ctx[i].v) → nxt (wrapI ((i : Int) + 1)) w':=fun w' hx h=>hn hlt' w' ⟨x38.trans hx,hN8.ext hx,hstep h⟩
   clear hn hstep
   refine SE.graph_edge.go (edge_se (hs.ext x08) hk hv (fun y cy ey w9 x9 hy=>⟨_,_,_,_,cy,ey,true,rfl,?_⟩) fun w9 x9 hy=>⟨_,_,_,_,_,_,false,rfl,?_⟩)
   ·refine newS.set rfl fun a48 w10 x10 hb10 _ => bound ⟨_,_,_,fun _ => hb10.at1 (k:=1) (Ext.refl _) rfl,_,_,_,fun _ => (hb8.ext (x9.trans x10)).at1 (k:=1) (r:=[]) (Ext.refl _) rfl,?_⟩
    have ev : ((y.v.ma == x.ctx[i].v.ma) && ((y.v.mi == x.ctx[i].v.mi) && ((y.v.pa == x.ctx[i].v.pa) && true))) = decide (y.v = x.ctx[i].v):=verB
    rw [ev]
    refine ⟨fun hq=>hbadP w10 (x08.trans (x9.trans x10)) fun ⟨z,hz,hzv⟩=>?_,fun hq=>fin w10 (x9.trans x10) ⟨y,hy,by simpa using hq⟩⟩
    rw [hy] at hz; cases hz
    rw [decide_eq_true hzv] at hq; cases hq
   ·refine newS.set rfl fun a48 w10 x10 hb10 _ => bound ⟨0,0,0,(fun h=>by cases h),0,0,0,(fun h=>by cases h),fun hq=>hbadP w10 (x08.trans (x9.trans x10)) fun ⟨z,hz,_⟩=>?_,fun hq=>by cases hq⟩
    rw [hy] at hz; cases hz
  ·rw [List.take_of_length_le (by omega)] at hI6 hN6
   have x06:=x03.trans x6
   refine ⟨s,(KA _ x6).1.ldc.pre (r:=[]) rfl,?_⟩
   have hcb : x.ctx.length ≤ x.edges.length:=by
    have:=nodup_le hrc.nodup (m:=x.edges.map Edge.name) fun n hn=>by
     obtain ⟨q,hq,rfl⟩:=List.mem_map.1 hn
     obtain ⟨y,hy,_⟩:=hI6 q hq
     obtain ⟨ed,h1,h2,_⟩:=edgeTo_some hy
     exact List.mem_map.2 ⟨ed,h1,h2⟩
    simpa using this
   refine SE.graph_environment.go (environment_se (hS.ext x06.size) (hs.ext x06) hk hv hrc.nodup (by omega) (fun env t w7 henv x7 hfl hstr=>⟨t,true,rfl,(fun h=>by cases h),fun _ => ?_⟩) fun w7 henv x7=>⟨_,false,rfl,fun _ => hbad w7 (x06.trans x7) fun hs=>?_,(fun h=>by cases h)⟩)
   ·refine ⟨e,(KA _ (x6.trans x7)).2.2.at1 (k:=5) (r:=[]) (Ext.refl _) rfl,?_⟩
    have x07:=x06.trans x7
    have hpins:=hfl.pins hstr
    refine loop1.up he.max (fun i w'=>Ext w7 w' ∧ ∀ ed ∈ x.edges.take i,EdgeOk L m.over g ws x env ed) ⟨Ext.refl _,fun _ h=>by cases h⟩ fun i w8 nxt hi8 ⟨x8,hI8⟩ hn=>⟨fun hlt=>?_,fun hge8=>?_⟩
    ·have hlt' : i < x.edges.length:=by omega
     obtain ⟨ae,hae,hce⟩:=edgeEl he hlt'
     have hmem : x.edges[i] ∈ x.edges:=List.getElem_mem hlt'
     have hbadE : ∀ w',Ext w w' → ¬ EdgeOk L m.over g ws x env x.edges[i] → R false w':=fun w' hx h=>hbad w' hx fun hs=>by
      obtain ⟨env',h1,h2⟩:=hs.env
      rw [henv] at h1
      cases h1
      exact h (h2 _ hmem)
     have fin : ∀ w',Ext w7 w' → EdgeOk L m.over g ws x env x.edges[i] → nxt (wrapI ((i : Int) + 1)) w':=fun w' hx h=>hn hlt' w' ⟨hx,fun ed hed=>by
      rw [List.take_succ_eq_append_getElem hlt'] at hed
      rcases List.mem_append.1 hed with hed | hed
      ·exact hI8 ed hed
      ·rw [List.mem_singleton] at hed; subst hed; exact h⟩
     clear hn
     obtain ⟨j,y,e1,e2,e3,e4⟩:=hto _ hmem
     obtain ⟨hjl,hgj⟩:=List.getElem?_eq_some_iff.1 e3
     obtain ⟨ad5,c5,g5,ha5,hyn,hyc,_,hc5⟩:=nodeEl hs hjl
     rw [hgj] at hyn hyc hc5
     have etn : x.edges[i].to.toNat = j:=by omega
     generalize x.edges[i] = ed at *
     have x08:=x07.trans x8
     refine ⟨ae,⟨hae,by omega,hlt⟩,_,_,hce _ x08,newS.set rfl fun a64 w9 x9 hb9 _ => ⟨s,(KA _ (x6.trans (x7.trans (x8.trans x9)))).1.ldc.pre (r:=[]) rfl,_,hb9.at1 (k:=1) (r:=[]) (Ext.refl _) rfl,ad5,⟨ha5,by omega,by omega⟩,y.name,y.v.ma,y.v.mi,y.v.pa,c5,g5,by rw [etn]; exact hc5 _ (x08.trans x9),newS.set rfl fun a72 w10 x10 hb10 _ => ?_⟩⟩
     have x010:=x08.trans (x9.trans x10)
     refine ⟨mD,mDev,mOpt,mOv,(KA _ (x6.trans (x7.trans (x8.trans (x9.trans x10))))).2.1.ldc.pre (r:=[]) rfl,_,hb10.at0 (Ext.refl _) rfl,_,_,_,hb10.at1 (k:=1) (Ext.refl _) rfl,?_⟩
     have x710:=x8.trans (x9.trans x10)
     have hmid : ∀ (t130 : Sl) (ok : Bool) w11,Ext w10 w11 → (ok = true → ∃ S',∃ a,ctxRes L m.over env ⟨y.name,y.v⟩ = some a ∧ SlR pinE w11 S' t130 a) → (ok = false → ctxRes L m.over env ⟨y.name,y.v⟩ = none) → ∃ (t135 : ByteArray),(ldc w11 a64 [(Value.string t135)]) ∧ semS Tryz.prog (Instr.lookup 161 (Value.map (some mp)) (Value.string t135) false) w11 fun v83 vw82=>∃ (t136 : Int),v83 = (Value.int .i64 t136) ∧ bnd (t136 == 0) fun (b84 : Bool)=>bnd (b84 || (!ok)) fun (b85 : Bool)=>∃ (t145 : Sl),grd (!b85) (ldc vw82 (a72.add 4) [(Sl.v t145)]) ∧ gCall (!b85) (fun (t146 : Bool) (vw87 : World)=>(((b85 || (!t146)) = true → R false vw87) ∧ ((b85 || (!t146)) = false → nxt (wrapI ((i : Int) + 1)) vw87))) (fun q=>callS Tryz.prog 72 [(Sl.v t130),(Sl.v t145)] vw82 fun v88 vw87=>∃ (t146 : Bool),v88 = (Value.bool t146) ∧ q t146 vw87) (fun q=>q false vw82):=by
      intro t130 ok w11 x11 hok1 hok0
      obtain ⟨v,hrun,hv0⟩:=(hN6.ext ((x7.trans x710).trans x11)).look ed.name
      refine ⟨_,(hb9.ext (x10.trans x11)).at0 (Ext.refl _) rfl,_,_,hrun,v,rfl,bound (bound ⟨c5,fun _ => (hb10.ext x11).at1 (k:=4) (Ext.refl _) rfl,?_⟩)⟩
      have hnm : (v == 0) = true ↔ ¬ (ed.name ∈ ws.map Want.name ∨ ed.name ∈ x.ctx.map Pin.name):=by
       rw [beq_iff_eq,hv0,List.mem_append]
      have hbadT : ((v == 0) || !ok) = true → ¬ EdgeOk L m.over g ws x env ed:=fun hq hE=>by
       rcases Bool.or_eq_true_iff.1 hq with h | h
       ·exact hnm.1 h hE.1
       ·obtain ⟨_,z,hz,hzc⟩:=hE
        rw [etn,e3] at hz
        cases hz
        rw [hok0 (by simpa using h)] at hzc; cases hzc
      cases hq : ((v == 0) || !ok) with
      | true =>
       refine ⟨(fun h=>by cases h),fun _ => ⟨fun _ => hbadE w11 (x010.trans x11) (hbadT hq),(fun h=>by cases h)⟩⟩
      | false =>
       have hok : ok = true:=by
        rcases Bool.or_eq_false_iff.1 hq with ⟨_,h⟩
        simpa using h
       obtain ⟨S',l,hl1,hl2⟩:=hok1 hok
       have hin : ed.name ∈ ws.map Want.name ∨ ed.name ∈ x.ctx.map Pin.name:=by
        rcases Bool.or_eq_false_iff.1 hq with ⟨h,_⟩
        exact Classical.not_not.1 fun hn=>by rw [hnm.2 hn] at h; cases h
       refine ⟨fun _ => SE.slices_Equal_apiPinapiPin.go (eqPins_se hl2 ((hyc.ext x010).ext x11) fun w12 x12=>⟨_,rfl,fun h=>hbadE w12 ((x010.trans x11).trans x12) fun hE=>?_,fun h=>fin w12 ((x710.trans x11).trans x12) ⟨hin,y,by rw [etn,e3],?_⟩⟩),(fun h=>by cases h)⟩
       ·obtain ⟨_,z,hz,hzc⟩:=hE
        rw [etn,e3] at hz
        cases hz
        rw [hl1] at hzc
        rw [decide_eq_true (Option.some.inj hzc)] at h; cases h
       ·have h : decide (l = y.ctx) = true:=by simpa using h
        rw [hl1,of_decide_eq_true h]
     refine SE.wants_Context.go (wantsContext_se (S2:=SM) (S3:=fun b=>w6.heap.size ≤ b ∧ b < w7.heap.size) (pn:=⟨y.name,y.v⟩) (hC.ext x010) (hSM.ext x010.size) (fun b hb=>by have:=x710.size; omega) (hO.ext x010) (hpins.ext x710) hyn (fun l t w11 hl x11 hfl' hst'=>⟨t,true,rfl,hmid t true w11 x11 (fun _ => ⟨_,l,hl,hfl'.pins hst'⟩) (fun h=>by cases h)⟩) fun w11 hl x11=>⟨_,false,rfl,hmid _ false w11 x11 (fun h=>by cases h) fun _ => hl⟩)
    ·rw [List.take_of_length_le (by omega)] at hI8
     exact hR true w8 (x07.trans x8) ⟨fun _ => ⟨hI,hI6,env,henv,hI8⟩,fun _ => rfl⟩
   ·obtain ⟨env,h1,_⟩:=hs.env
    rw [henv] at h1; cases h1
end Go.Hal
namespace Go.Hal
open Go Go.RowKit Go.Proofs Go.Shelf
theorem wantsOf_kind {over a b : List Dep} {w : Want} (h : w ∈ wantsOf over a b) : w.kind = 1 ∨ w.kind = 2:=by
 unfold wantsOf at h
 rw [(stSort_perm _).mem_iff,List.mem_append] at h
 rcases h with h | h
 ·obtain ⟨d,_,rfl⟩:=List.mem_map.1 h; exact .inl rfl
 ·obtain ⟨d,_,rfl⟩:=List.mem_map.1 h; exact .inr rfl
theorem wants_kind {q : Quest} {ns : List Node} {k : Nat} {w : Want} (h : w ∈ q.wants ns k) : w.kind = 1 ∨ w.kind = 2:=by
 unfold Quest.wants wantsK at h
 split at h
 ·exact wantsOf_kind h
 ·split at h
  ·cases h
  ·split at h
   ·cases h
   ·exact wantsOf_kind h
theorem node_edges {g : List Node} {i : Nat} {x : Node} (h : NodeOk g i x) : x.edges.length ≤ g.length:=by
 have hn : (x.edges.map fun e=>e.to.toNat).Nodup:=by
  rw [List.nodup_iff_pairwise_ne,List.pairwise_map,List.pairwise_iff_getElem]
  intro a b ha hb hab he
  have h1 : bLt x.edges[a].name x.edges[b].name = true:=List.pairwise_iff_getElem.1 h.rise a b ha hb hab
  obtain ⟨j,y,p1,_,p2,p3⟩:=h.to _ (List.getElem_mem ha)
  obtain ⟨j',y',q1,_,q2,q3⟩:=h.to _ (List.getElem_mem hb)
  have : j = j':=by omega
  subst this
  rw [p2] at q2
  cases q2
  rw [← p3,← q3,bLt_irrefl] at h1; cases h1
 have:=nodup_le hn (m:=List.range g.length) fun n hm=>by
  obtain ⟨e,he,rfl⟩:=List.mem_map.1 hm
  obtain ⟨j,y,p1,_,p2,_⟩:=h.to e he
  have:=(List.getElem?_eq_some_iff.1 p2).1
  rw [List.mem_range]; omega
 simpa using this
theorem wants_at {q : Quest} {g : List Node} {i : Nat} {x : Node} {p : Pack} (hi : i ≠ 0) (hx : g[i]? = some x) (hp : getL q.L x.name x.v = some p) : q.wants g i = wantsOf q.m.over p.deps p.opt:=by
 unfold Quest.wants wantsK keyAt
 rw [if_neg hi,List.getElem?_map,hx]
 show (match getL q.L x.name x.v with | none=>[] | some p=>wantsOf q.m.over p.deps p.opt) = _
 rw [hp]
set_option maxHeartbeats 8000000 in
theorem check_se {s : Sl} {q : Quest} {g : List Node} {S SC SM : Nat → Prop} {p : Addr} {r : Nat} {mD mDev mOpt mOv : Sl} {w : World} {R : Int → World → Prop} (ht : Tab w)
  (hS : Old S w) (hs : SlR nodeE w S s g) (hC : CatL w SC p r q.L) (hSM : Old SM w) (hD : SlR depE w SM mD q.m.deps) (hE : SlR depE w SM mDev q.m.dev) (hP : SlR depE w SM mOpt q.m.opt) (hO : SlR depE w SM mOv q.m.over)
  (hR : ∀ w',Ext w w' → R (checkOf q g) w') : SE.graph_Check s (some p) mD mDev mOpt mOv q.dev w R:=by
 unfold SE.graph_Check
 have hsl:=hs.len
 refine newS.intro fun a w1 x1 hb1 hab1 _ => newS.intro fun a1 w2 x2 hb2 hab2 _ => bound ⟨mD,mDev,mOpt,mOv,fun _ => hb2.ldc.pre (r:=[]) rfl,?_⟩
 have x02:=x1.trans x2
 refine gCall.intro (maniMay q.m) (fun _ k hk=>SE.manifest_May.go (maniMay_se (m:=q.m) (ht.ext x02) (hSM.ext x02.size) (hD.ext x02) (hE.ext x02) (hP.ext x02) (hO.ext x02) fun w3 x3=>⟨_,rfl,hk w3 x3⟩)) fun t18 w3 x3 ht18=>?_
 have ht18:=ht18 rfl
 subst ht18
 have x03:=x02.trans x3
 refine ⟨fun hq=>?_,fun hq=>?_⟩
 ·have:=hR w3 x03
  have hm : maniMay q.m = false:=by simpa using hq
  unfold checkOf at this
  rw [if_neg (by rw [hm]; decide)] at this
  exact this
 have hm : maniMay q.m = true:=by simpa using hq
 have hsmall:=maniMay_small hm
 have good : Sol q g → ∀ w',Ext w w' → R 0 w':=fun hs w' hx=>by
  have:=hR w' hx
  unfold checkOf at this
  rw [if_pos hm,if_pos hs] at this
  exact this
 have bad : ¬ Sol q g → ∀ w',Ext w w' → R 33 w':=fun hs w' hx=>by
  have:=hR w' hx
  unfold checkOf at this
  rw [if_pos hm,if_neg hs] at this
  exact this
 clear hR hq
 have KA : ∀ w',Ext w2 w' → BoxAt w' a [s.v] ∧ BoxAt w' a1 [mD.v,mDev.v,mOpt.v,mOv.v]:=fun w' hx=>⟨hb1.ext (x2.trans hx),hb2.ext hx⟩
 refine ⟨s,(KA _ x3).1.ldc.pre (r:=[]) rfl,SE.graph_formed.go (formed_se (hs.ext x03) fun b w4 x4 hf=>⟨b,rfl,fun hb=>?_,fun hb=>?_⟩)⟩
 ·refine bad (fun h=>?_) w4 (x03.trans x4)
  rw [hf.2 h.formed] at hb; cases hb
 have hF : Formed g:=hf.1 (by simpa using hb)
 have x04:=x03.trans x4
 have x24:=x3.trans x4
 refine ⟨s,(KA _ x24).1.ldc.pre (r:=[]) rfl,?_⟩
 refine loop1.up hs.max (fun i w'=>Ext w2 w' ∧ ∀ j x,g[j]? = some x → j < i → (j ≠ 0 → (getL q.L x.name x.v).isSome = true) ∧ SoundAt q.L q.m.over g (q.wants g j) x) ⟨x24,fun j x _ h=>by omega⟩ fun i w5 nxt hi ⟨x5,hI⟩ hn=>⟨fun hlt=>?_,fun hge=>?_⟩
 ·have hlt' : i < g.length:=by omega
  have hgi : g[i]? = some g[i]:=List.getElem?_eq_getElem hlt'
  have hno:=hF.nodes i _ hgi
  have hedg:=node_edges hno
  have hgl:=hF.len
  obtain ⟨ad,c,e,ha,hnm,hcx,he,hcn⟩:=nodeEl hs hlt'
  have x05:=x02.trans x5
  have fin : ∀ w',Ext w2 w' → (i ≠ 0 → (getL q.L g[i].name g[i].v).isSome = true) → SoundAt q.L q.m.over g (q.wants g i) g[i] → nxt (wrapI ((i : Int) + 1)) w':=fun w' hx h1 h2=>hn hlt' w' ⟨hx,fun j x hj hji=>by
   rcases Nat.lt_succ_iff_lt_or_eq.1 hji with h | h
   ·exact hI j x hj h
   ·subst h
    rw [hgi] at hj; cases hj
    exact ⟨h1,h2⟩⟩
  refine ⟨ad,⟨ha,by omega,hlt⟩,_,_,_,_,_,_,hcn _ x05,newS.set rfl fun a11 w6 x6 hb6 hab6=>?_⟩
  have x26:=x5.trans x6
  have x06:=x02.trans x26
  refine ⟨mD,mDev,mOpt,mOv,(KA _ x26).2.ldc.pre (r:=[]) rfl,?_⟩
  refine SE.wants_OfRoot.go (wantsOfRoot_se (m:=q.m) (hSM.ext x06.size) (hD.ext x06) (hE.ext x06) (hP.ext x06) (hO.ext x06) (by unfold room; omega) fun t34 w7 x7 hsep=>⟨_,rfl,join.named fun J hJ=>?_⟩)
  have hrt:=hsep.read (by rw [wantsOf_len']; have:=rootMust_len' q.m q.dev; unfold room; omega)
  have x27:=x26.trans x7
  have x07:=x02.trans x27
  have hJ' : ∀ (T : Nat → Prop) own w',Ext w2 w' → Old T w' → SlR wantE w' T own (q.wants g i) → (i ≠ 0 → (getL q.L g[i].name g[i].v).isSome = true) → J own w':=by
   subst hJ
   intro T own w8 x8 hT hown hthere
   have x08:=x02.trans x8
   refine ⟨s,(KA _ x8).1.ldc.pre (r:=[]) rfl,mD,mDev,mOpt,mOv,(KA _ x8).2.ldc.pre (r:=[]) rfl,?_⟩
   refine SE.graph_sound.go (sound_se (ws:=q.wants g i) (m:=q.m) (hS.ext x08.size) (hs.ext x08) hgi hT hown (hC.ext x08) (hSM.ext x08.size) (hO.ext x08) (fun ed hed=>hno.to ed hed) hno.ctx (by omega) (fun w hw=>by rcases wants_kind hw with h | h <;> omega) fun b w9 x9 hb=>⟨b,rfl,fun hq=>?_,fun hq=>fin w9 (x8.trans x9) hthere (hb.1 (by simpa using hq))⟩)
   refine bad (fun h=>?_) w9 (x08.trans x9)
   rw [hb.2 (h.nodes i _ hgi)] at hq; cases hq
  clear hJ hn fin
  refine ⟨fun h0=>?_,fun h0=>?_⟩
  ·have hi0 : i ≠ 0:=by omega
   refine ⟨_,(hb6.ext x7).at0 (Ext.refl _) rfl,_,_,_,(hb6.ext x7).at1 (k:=1) (Ext.refl _) rfl,?_⟩
   refine SE.catalog_Catalog_Get.go (catGet_se (n:=g[i].name) (v:=g[i].v) (hC.ext x07) fun d e o w8 x8 _ hd he ho=>⟨_,_,_,_,d,e,o,_,rfl,newS.set rfl fun a31 w9 x9 hb9 _ => ?_⟩)
   have x79:=x8.trans x9
   have x29:=x27.trans x79
   have x09:=x02.trans x29
   cases hget : getL q.L g[i].name g[i].v with
   | none =>
    refine ⟨fun _ => bad (fun h=>?_) w9 x09,(fun h=>by cases h)⟩
    have:=h.there i _ hgi hi0
    rw [hget] at this; cases this
   | some pk =>
    have hD : getD q.L g[i].name g[i].v = pk:=by unfold getD; rw [hget]; rfl
    rw [hD] at hb9 hd ho
    refine ⟨(fun h=>by cases h),fun _ => ?_⟩
    obtain ⟨g1,g2,g3⟩:=getD_small hC.good g[i].name g[i].v
    rw [hD] at g1 g2 g3
    refine ⟨_,_,_,_,d,e,o,hb9.ldc.pre (r:=[]) rfl,mD,mDev,mOpt,mOv,(KA _ x29).2.ldc.pre (r:=[]) rfl,?_⟩
    refine SE.wants_Of.go (wantsOf_se (p:=pk) (S:=fun b=>b < w9.heap.size) (fun b h=>h) ((hd.dep.ext x9).mono fun b h=>by have:=x9.size; omega) ((ho.dep.ext x9).mono fun b h=>by have:=x9.size; omega) ((hO.ext x09).mono fun b h=>(hSM.ext x09.size) b h) (by unfold room; omega) fun t50 w10 x10 hsep2=>⟨_,rfl,?_⟩)
    have hrt2:=hsep2.read (by rw [wantsOf_len']; unfold room; omega)
    have hw : q.wants g i = wantsOf q.m.over pk.deps pk.opt:=wants_at hi0 hgi hget
    rw [← hw] at hrt2
    exact hJ' _ t50 w10 (x29.trans x10) (fun b hb=>hb.2) hrt2 fun _ => by rw [hget]; rfl
  ·have hi0 : i = 0:=by omega
   have hw : q.wants g i = wantsOf q.m.over (rootMust q.m q.dev) q.m.opt:=by subst hi0; rfl
   rw [← hw] at hrt
   exact hJ' _ t34 w7 x27 (fun b hb=>hb.2) hrt fun h=>absurd hi0 h
 ·refine good ⟨hF,fun j x hj h0=>?_,fun j x hj=>?_⟩ w5 (x02.trans x5)
  ·have:=(List.getElem?_eq_some_iff.1 hj).1
   exact (hI j x hj (by omega)).1 h0
  ·have:=(List.getElem?_eq_some_iff.1 hj).1
   exact (hI j x hj (by omega)).2
end Go.Hal
namespace Go.Hal
inductive All2 {α β : Type} (R : α → β → Prop) : List α → List β → Prop
 | nil : All2 R [] []
 | cons {a : α} {b : β} {l : List α} {m : List β} (h : R a b) (k : All2 R l m) : All2 R (a :: l) (b :: m)
theorem All2.imp {α β : Type} {R S : α → β → Prop} {l : List α} {m : List β} (h : All2 R l m) (hi : ∀ a b,R a b → S a b) : All2 S l m:=by
 induction h with
 | nil=>exact .nil
 | cons h _ ih=>exact .cons (hi _ _ h) ih
theorem All2.left {α β : Type} {R : α → β → Prop} {l : List α} {m : List β} (h : All2 R l m) : ∀ a ∈ l,∃ b ∈ m,R a b:=by
 induction h with
 | nil=>intro a h; cases h
 | cons h _ ih =>
  intro x hx
  rcases List.mem_cons.1 hx with rfl | hx
  ·exact ⟨_,.head _,h⟩
  ·obtain ⟨b,hb,hr⟩:=ih x hx; exact ⟨b,.tail _ hb,hr⟩
theorem All2.map {α β γ : Type} {R : α → β → Prop} {f : α → γ} {g : β → γ} {l : List α} {m : List β} (h : All2 R l m) (hi : ∀ a b,R a b → f a = g b) : l.map f = m.map g:=by
 induction h with
 | nil=>rfl
 | cons h _ ih=>rw [List.map_cons,List.map_cons,hi _ _ h,ih]
theorem All2.filterMap {α β γ : Type} {R : α → β → Prop} {f : α → Option γ} {g : β → γ} {l : List α} {m : List β} (h : All2 R l m) (hi : ∀ a b,R a b → f a = some (g b)) : l.filterMap f = m.map g:=by
 induction h with
 | nil=>rfl
 | cons h _ ih=>rw [List.filterMap_cons,hi _ _ h,List.map_cons,ih]
def pinOf (x : Node) : Pin:=⟨x.name,x.v⟩
theorem targets_get {q : Quest} {env : List Pin} : ∀ {ps : List Pin} {xs : List Node},targets q env ps = some xs → xs.map pinOf = ps ∧ ∀ x ∈ xs,ctxRes q.L q.m.over env (pinOf x) = some x.ctx
 | [],xs,h=>by rw [targets] at h; cases h; exact ⟨rfl,fun x h=>by cases h⟩
 | p :: r,xs,h=>by
  rw [targets] at h
  cases h1 : ctxRes q.L q.m.over env p with
  | none=>rw [h1] at h; cases h
  | some c =>
   rw [h1] at h
   obtain ⟨ys,h2,rfl⟩:=Option.map_eq_some_iff.1 h
   obtain ⟨k1,k2⟩:=targets_get h2
   refine ⟨by rw [List.map_cons,k1]; rfl,fun x hx=>?_⟩
   rcases List.mem_cons.1 hx with rfl | hx
   ·exact h1
   ·exact k2 x hx
def EdgeAt (K : List NKey) (e : Edge) (x : Node) : Prop:=e.name = x.name ∧ ∃ j : Nat,e.to = (j : Int) ∧ K[j]? = some x.key
theorem putK_spec {N : Nat} : ∀ {xs : List Node} {ks : List NKey} {r : List Node × List Edge},putK N ks xs = some r → ks.length ≤ N →
  All2 (EdgeAt (ks ++ r.1.map Node.key)) r.2 xs ∧ (ks.Nodup → (ks ++ r.1.map Node.key).Nodup) ∧ (∀ y ∈ r.1,y ∈ xs) ∧ (∀ j,ks.length ≤ j → j < ks.length + r.1.length → ∃ e ∈ r.2,e.to = (j : Int)) ∧ ks.length + r.1.length ≤ N
 | [],ks,r,h,hN=>by
  rw [putK] at h
  cases h
  exact ⟨.nil,by simp,(fun y h=>by cases h),fun j h1 h2=>by simp at h2; omega,by simpa using hN⟩
 | x :: xs,ks,r,h,hN=>by
  rw [putK] at h
  cases hf : ks.findIdx? fun y=>decide (y = x.key) with
  | some i =>
   rw [hf] at h
   obtain ⟨r',h1,rfl⟩:=Option.map_eq_some_iff.1 h
   obtain ⟨k1,k2,k3,k4,k5⟩:=putK_spec h1 hN
   obtain ⟨hi,hp,_⟩:=List.findIdx?_eq_some_iff_getElem.1 hf
   simp only [decide_eq_true_eq] at hp
   refine ⟨.cons ⟨rfl,i,rfl,?_⟩ k1,k2,fun y hy=>.tail _ (k3 y hy),fun j a b=>?_,k5⟩
   ·rw [List.getElem?_append_left hi,List.getElem?_eq_getElem hi,hp]
   ·obtain ⟨e,he,hj⟩:=k4 j a b
    exact ⟨e,.tail _ he,hj⟩
  | none =>
   rw [hf] at h
   dsimp only at h
   by_cases hne : ks.length = N
   ·rw [if_pos hne] at h; cases h
   ·rw [if_neg hne] at h
    obtain ⟨r',h1,rfl⟩:=Option.map_eq_some_iff.1 h
    have hno : x.key ∉ ks:=fun hm=>by
     have:=List.findIdx?_eq_none_iff.1 hf x.key hm
     simp at this
    obtain ⟨k1,k2,k3,k4,k5⟩:=putK_spec h1 (by rw [List.length_append]; simp; omega)
    have e1 : ks ++ (x :: r'.1).map Node.key = ks ++ [x.key] ++ r'.1.map Node.key:=by simp
    refine ⟨?_,fun hnd=>?_,fun y hy=>?_,fun j a b=>?_,?_⟩
    ·show All2 (EdgeAt (ks ++ (x :: r'.1).map Node.key)) _ _
     rw [e1]
     refine .cons ⟨rfl,ks.length,rfl,?_⟩ k1
     rw [List.append_assoc,List.getElem?_append_right (Nat.le_refl _)]
     simp
    ·show (ks ++ (x :: r'.1).map Node.key).Nodup
     rw [e1]
     refine k2 (List.nodup_append.2 ⟨hnd,by simp,fun a ha b hb=>?_⟩)
     simp only [List.mem_singleton] at hb
     subst hb
     rintro rfl; exact hno ha
    ·rcases List.mem_cons.1 hy with rfl | hy
     ·exact .head _
     ·exact .tail _ (k3 y hy)
    ·simp only [List.length_append,List.length_cons,List.length_nil] at k4 b
     by_cases hj : j = ks.length
     ·subst hj; exact ⟨_,.head _,rfl⟩
     ·obtain ⟨e,he,hh⟩:=k4 j (by omega) (by omega)
      exact ⟨e,.tail _ he,hh⟩
    ·simp only [List.length_append,List.length_cons,List.length_nil] at k5 ⊢; omega
structure NodeSet (q : Quest) (ns : List Node) (i : Nat) (x : Node) : Prop where
 rise : RiseN Edge.name x.edges
 to : ∀ e ∈ x.edges,∃ (j : Nat) (y : Node),e.to = (j : Int) ∧ 1 ≤ j ∧ ns[j]? = some y ∧ y.name = e.name
 sound : SoundAt q.L q.m.over ns (q.wants ns i) x
structure Hold (q : Quest) (ns : List Node) (k : Nat) : Prop where
 pos : 0 < ns.length
 len : ns.length ≤ q.N
 root : ∃ x,ns[0]? = some x ∧ x.key = rootNode.key
 nodup : (ns.map Node.key).Nodup
 there : ∀ (i : Nat) (x : Node),ns[i]? = some x → i ≠ 0 → (getL q.L x.name x.v).isSome = true
 ctx : ∀ (i : Nat) (x : Node),ns[i]? = some x → Rises x.ctx
 set_ : ∀ (i : Nat) (x : Node),ns[i]? = some x → i < k → NodeSet q ns i x
 led : ∀ j,j ≠ 0 → j < ns.length → ∃ i,i < k ∧ i < j ∧ Leads ns i j
structure EnvP (q : Quest) (ns : List Node) (k : Nat) (dn : List Want) (e : List Pin) : Prop where
 nodup : (e.map (·.name)).Nodup
 ctx : ∀ p ∈ ctxAt ns k,p ∈ e
 from_ : ∀ p ∈ e,p ∈ ctxAt ns k ∨ p.name ∈ dn.map Want.name
 own : ∀ w ∈ dn,(∃ v,(⟨w.name,v⟩ : Pin) ∈ e ∧ spansIn w.range v = true) ∨ (w.kind = 2 ∧ ∀ p ∈ e,p.name ≠ w.name)
section
variable {q : Quest}
theorem pin_one {e : List Pin} (hn : (e.map (·.name)).Nodup) {a b : Pin} (ha : a ∈ e) (hb : b ∈ e) (h : a.name = b.name) : a = b:=by
 have h1:=tells_of hn ha
 have h2:=tells_of hn hb
 rw [h,h2] at h1
 obtain ⟨n,v⟩:=a
 obtain ⟨n',v'⟩:=b
 simp only [Option.some.injEq] at h1 h
 rw [h,h1]
structure Grown (k : Nat) (g g' : List Node) : Prop where
 key : ∀ (j : Nat) (x : Node),g[j]? = some x → ∃ x' : Node,g'[j]? = some x' ∧ x'.key = x.key
 same : ∀ j,j < g.length → j ≠ k → g'[j]? = g[j]?
theorem key_eq {x y : Node} (h : x.key = y.key) : x.name = y.name ∧ x.v = y.v ∧ x.ctx = y.ctx:=by
 simp only [Node.key,Prod.mk.injEq] at h
 exact h
end
end Go.Hal
namespace Go.Hal
def NotFail : Out → Prop
 | .fail _ => False
 | _ => True
theorem try_one {D : Nat} {k : Option Ver → Nat → Out} : ∀ {os : List (Option Ver)} {t : Nat},(∃ o ∈ os,∀ t,NotFail (k o t)) → NotFail (tryAll D k os t)
 | [],t,h=>by obtain ⟨o,ho,_⟩:=h; cases ho
 | o :: os,t,h=>by
  rw [tryAll]
  by_cases hD : t = D
  ·rw [if_pos hD]; trivial
  ·rw [if_neg hD]
   cases hk : k o (t + 1) with
   | fail s =>
    obtain ⟨o',ho,h'⟩:=h
    rcases List.mem_cons.1 ho with rfl | ho
    ·have:=h' (t + 1); rw [hk] at this; exact this.elim
    ·exact try_one ⟨o',ho,h'⟩
   | done a b=>trivial
   | err _ => trivial
   | out=>trivial
section
variable {q : Quest} {g : List Node}
structure NodeFacts (q : Quest) (g : List Node) (i : Nat) (x : Node) (env : List Pin) : Prop where
 rises : Rises env
 mem : ∀ p,p ∈ env ↔ ∃ ed ∈ x.edges,∃ (j : Nat) (y : Node),ed.to = (j : Int) ∧ 1 ≤ j ∧ g[j]? = some y ∧ y.name = ed.name ∧ p = ⟨ed.name,y.v⟩
 ctx : ∀ p ∈ x.ctx,p ∈ env
 to : ∀ ed ∈ x.edges,∃ (j : Nat) (y : Node),ed.to = (j : Int) ∧ 1 ≤ j ∧ g[j]? = some y ∧ y.name = ed.name ∧ ctxRes q.L q.m.over env ⟨y.name,y.v⟩ = some y.ctx ∧ (ed.name ∈ (q.wants g i).map Want.name ∨ ed.name ∈ x.ctx.map Pin.name)
 own : ∀ w ∈ q.wants g i,(∃ v,(⟨w.name,v⟩ : Pin) ∈ env ∧ spansIn w.range v = true) ∨ (w.kind ≠ 1 ∧ ∀ p ∈ env,p.name ≠ w.name)
theorem Sol.facts (h : Sol q g) {i : Nat} {x : Node} (hx : g[i]? = some x) : ∃ env,NodeFacts q g i x env:=by
 have hn:=h.formed.nodes i x hx
 have hs:=h.nodes i x hx
 obtain ⟨env,he,hed⟩:=hs.env
 unfold envOf at he
 obtain ⟨e0,h1,rfl⟩:=Option.map_eq_some_iff.1 he
 obtain ⟨⟨t,a1,a2⟩,a3,a4⟩:=envGo_some h1
 have hnd:=a4 hn.ctx.nodup
 have mem : ∀ p,p ∈ sortN e0 ↔ p ∈ e0:=fun p=>(sortN_perm e0).mem_iff
 have pin : ∀ p,p ∈ envPins g x ↔ ∃ ed ∈ x.edges,∃ (j : Nat) (y : Node),ed.to = (j : Int) ∧ 1 ≤ j ∧ g[j]? = some y ∧ y.name = ed.name ∧ p = ⟨ed.name,y.v⟩:=fun p=>by
  unfold envPins
  rw [List.mem_filterMap]
  constructor
  ·rintro ⟨ed,hed',hp⟩
   obtain ⟨j,y,b1,b2,b3,b4⟩:=hn.to ed hed'
   rw [b1,Int.toNat_natCast,b3] at hp
   cases hp
   exact ⟨ed,hed',j,y,b1,b2,b3,b4,rfl⟩
  ·rintro ⟨ed,hed',j,y,b1,b2,b3,b4,rfl⟩
   exact ⟨ed,hed',by rw [b1,Int.toNat_natCast,b3]; rfl⟩
 have hcp : ∀ p ∈ x.ctx,p ∈ envPins g x:=fun p hp=>by
  obtain ⟨y,hy,hv⟩:=hs.ctx p hp
  obtain ⟨ed,b1,b2,b3⟩:=edgeTo_some hy
  obtain ⟨j,y',c1,c2,c3,c4⟩:=hn.to ed b1
  rw [c1,Int.toNat_natCast,c3] at b3
  cases b3
  refine (pin p).2 ⟨ed,b1,j,y,c1,c2,c3,c4,?_⟩
  rw [b2,hv]
 have key : ∀ p,p ∈ sortN e0 ↔ p ∈ envPins g x:=fun p=>by
  rw [mem]
  refine ⟨fun hp=>?_,fun hp=>a3 p hp⟩
  rw [a1] at hp
  rcases List.mem_append.1 hp with hp | hp
  ·exact hcp p hp
  ·exact a2 p hp
 refine ⟨sortN e0,sortN_rises hnd,fun p=>(key p).trans (pin p),fun p hp=>(key p).2 (hcp p hp),fun ed he'=>?_,fun w hw=>?_⟩
 ·obtain ⟨j,y,c1,c2,c3,c4⟩:=hn.to ed he'
  obtain ⟨d1,y',d2,d3⟩:=hed ed he'
  rw [c1,Int.toNat_natCast,c3] at d2
  cases d2
  exact ⟨j,y,c1,c2,c3,c4,d3,d1⟩
 ·obtain ⟨b1,b2⟩:=hs.own w hw
  cases ho : edgeTo g x w.name with
  | some y =>
   obtain ⟨ed,c1,c2,c3⟩:=edgeTo_some ho
   obtain ⟨j,y',d1,d2,d3,d4⟩:=hn.to ed c1
   rw [d1,Int.toNat_natCast,d3] at c3
   cases c3
   exact .inl ⟨y.v,(key _).2 ((pin _).2 ⟨ed,c1,j,y,d1,d2,d3,d4,by rw [c2]⟩),b2 y ho⟩
  | none =>
   refine .inr ⟨b1 ho,fun p hp hpn=>?_⟩
   obtain ⟨ed,c1,j,y,d1,d2,d3,d4,rfl⟩:=(pin p).1 ((key p).1 hp)
   have:=edgeTo_of hn.rise c1 (y:=y) (by rw [d1,Int.toNat_natCast]; exact d3)
   simp only at hpn
   rw [hpn,ho] at this; cases this
def Within (g ns : List Node) : Prop:=∀ i x,ns[i]? = some x → ∃ j y,g[j]? = some y ∧ y.key = x.key ∧ (i = 0 → j = 0) ∧ (i ≠ 0 → j ≠ 0)
theorem sameWants (q : Quest) {ns : List Node} {i j : Nat} {x y : Node} (hx : ns[i]? = some x) (hy : g[j]? = some y) (hk : y.key = x.key) (h0 : i = 0 → j = 0) (h1 : i ≠ 0 → j ≠ 0) : q.wants ns i = q.wants g j:=by
 unfold Quest.wants wantsK keyAt
 rw [List.getElem?_map,List.getElem?_map,hx,hy,Option.map_some,Option.map_some,hk]
 by_cases h : i = 0
 ·rw [if_pos h,if_pos (h0 h)]
 ·rw [if_neg h,if_neg (h1 h)]
structure Guided (ctx : List Pin) (env : List Pin) (dn : List Want) (e : List Pin) : Prop where
 nodup : (e.map (·.name)).Nodup
 ctx : ∀ p ∈ ctx,p ∈ e
 sub : ∀ p ∈ e,p ∈ env
 own : ∀ w ∈ dn,∀ v,(⟨w.name,v⟩ : Pin) ∈ env → (⟨w.name,v⟩ : Pin) ∈ e
theorem mem_versOf {L : List Pack} {n : ByteArray} {v : Ver} (h : (getL L n v).isSome = true) : v ∈ versOf n L:=by
 obtain ⟨x,hx⟩:=Option.isSome_iff_exists.1 h
 obtain ⟨h1,h2,h3⟩:=getL_some hx
 unfold versOf
 exact List.mem_map.2 ⟨x,List.mem_filter.2 ⟨h1,by simp [hasN,h2]⟩,h3⟩
theorem Guided.choose (hS : Sol q g) {i : Nat} {x : Node} {env : List Pin} (hF : NodeFacts q g i x env) {dn : List Want} {e : List Pin} {w : Want} (h : Guided x.ctx env dn e) (hw : w ∈ q.wants g i) (hk : w.kind = 1 ∨ w.kind = 2) :
  ∃ o ∈ opts (q.cand x.ctx w),Guided x.ctx env (dn ++ [w]) (addO e w.name o):=by
 have keep : ∀ e' : List Pin,(∀ p ∈ e,p ∈ e') → (∀ v,(⟨w.name,v⟩ : Pin) ∈ env → (⟨w.name,v⟩ : Pin) ∈ e') → ∀ y ∈ dn ++ [w],∀ v,(⟨y.name,v⟩ : Pin) ∈ env → (⟨y.name,v⟩ : Pin) ∈ e':=fun e' h1 h2 y hy v hv=>by
  rcases List.mem_append.1 hy with hy | hy
  ·exact h1 _ (h.own y hy v hv)
  ·simp only [List.mem_singleton] at hy; subst hy; exact h2 v hv
 unfold Quest.cand
 cases ht : tells x.ctx w.name with
 | some u =>
  dsimp only
  have hu : (⟨w.name,u⟩ : Pin) ∈ env:=hF.ctx _ (tells_mem ht)
  rcases hF.own w hw with ⟨v,a,b⟩ | ⟨_,b⟩
  ·have huv:=pin_one hF.rises.nodup hu a rfl
   cases huv
   rw [if_pos b]
   have hme:=h.ctx _ (tells_mem ht)
   have ha : e.any (isN w.name) = true:=List.any_eq_true.2 ⟨_,hme,by simp [isN]⟩
   refine ⟨some u,by simp [opts],?_⟩
   have e1 : addO e w.name (some u) = e:=by unfold addO; dsimp only; rw [if_pos ha]
   rw [e1]
   exact ⟨h.nodup,h.ctx,h.sub,keep e (fun _ h=>h) fun v hv=>by rw [pin_one hF.rises.nodup hv hu rfl]; exact hme⟩
  ·exact absurd rfl (b _ hu)
 | none =>
  dsimp only
  rcases hF.own w hw with ⟨v,a,b⟩ | ⟨a,b⟩
  ·have hth : (getL q.L w.name v).isSome = true:=by
    obtain ⟨ed,c1,j,y,d1,d2,d3,d4,d5⟩:=(hF.mem _).1 a
    have:=hS.there j y d3 (by omega)
    rw [d4] at this
    simp only [Pin.mk.injEq] at d5
    rw [d5.1,d5.2]; exact this
   have hc : v ∈ cands q.L w.name w.range q.pins:=by
    unfold cands
    dsimp only
    have hm : v ∈ (versOf w.name q.L).filter (spansIn w.range):=List.mem_filter.2 ⟨mem_versOf hth,b⟩
    rw [List.mem_append]
    cases hp : pinB q.pins w.name v with
    | true=>exact .inl (List.mem_filter.2 ⟨hm,hp⟩)
    | false=>exact .inr (List.mem_filter.2 ⟨hm,by rw [hp]; rfl⟩)
   refine ⟨some v,by unfold opts; exact List.mem_append_left _ (List.mem_map_of_mem hc),?_⟩
   unfold addO
   dsimp only
   by_cases ha : e.any (isN w.name) = true
   ·rw [if_pos ha]
    obtain ⟨p,hp,hpn⟩:=List.any_eq_true.1 ha
    simp only [isN,decide_eq_true_eq] at hpn
    refine ⟨h.nodup,h.ctx,h.sub,keep e (fun _ h=>h) fun v' hv'=>?_⟩
    rw [← pin_one hF.rises.nodup (h.sub p hp) hv' hpn]; exact hp
   ·rw [if_neg ha]
    have hno : ∀ p ∈ e,p.name ≠ w.name:=fun p hp he=>ha (List.any_eq_true.2 ⟨p,hp,by simp [isN,he]⟩)
    refine ⟨?_,fun p hp=>List.mem_append_left _ (h.ctx p hp),fun p hp=>?_,keep _ (fun p hp=>List.mem_append_left _ hp) fun v' hv'=>?_⟩
    ·rw [List.map_append,List.nodup_append]
     refine ⟨h.nodup,by simp,fun a' ha' b' hb'=>?_⟩
     obtain ⟨p,hp,rfl⟩:=List.mem_map.1 ha'
     simp at hb'; subst hb'
     exact hno p hp
    ·rcases List.mem_append.1 hp with hp | hp
     ·exact h.sub p hp
     ·simp only [List.mem_singleton] at hp; subst hp; exact a
    ·have:=pin_one hF.rises.nodup a hv' rfl
     cases this
     simp
  ·have hk2 : w.kind = 2:=by rcases hk with hk | hk; exact absurd hk a; exact hk
   refine ⟨none,by unfold opts; simp [hk2],?_⟩
   exact ⟨h.nodup,h.ctx,h.sub,keep e (fun _ h=>h) fun v hv=>absurd rfl (b _ hv)⟩
theorem targets_all {env : List Pin} : ∀ {ps : List Pin},(∀ p ∈ ps,∃ c,ctxRes q.L q.m.over env p = some c) → ∃ xs,targets q env ps = some xs
 | [],_ => ⟨[],rfl⟩
 | p :: r,h=>by
  obtain ⟨c,hc⟩:=h p (.head _)
  obtain ⟨xs,hx⟩:=targets_all (fun p hp=>h p (.tail _ hp))
  exact ⟨_,by rw [targets,hc]; dsimp only; rw [hx]; rfl⟩
theorem Guided.full {i : Nat} {x : Node} {env : List Pin} (hF : NodeFacts q g i x env) {e : List Pin} (h : Guided x.ctx env (q.wants g i) e) : sortN e = env:=by
 refine Rises.eq_of_mem (sortN_rises h.nodup) hF.rises fun p=>?_
 rw [(sortN_perm e).mem_iff]
 refine ⟨h.sub p,fun hp=>?_⟩
 obtain ⟨ed,c1,j,y,d1,d2,d3,d4,rfl⟩:=(hF.mem p).1 hp
 obtain ⟨_,_,_,_,_,_,_,hn⟩:=hF.to ed c1
 rcases hn with hn | hn
 ·obtain ⟨w,hw,hwn⟩:=List.mem_map.1 hn
  have:=h.own w hw y.v (by rw [hwn]; exact hp)
  rw [hwn] at this; exact this
 ·obtain ⟨p',hp',hpn⟩:=List.mem_map.1 hn
  have:=pin_one hF.rises.nodup (hF.ctx p' hp') hp hpn
  rw [← this]; exact h.ctx p' hp'
theorem bind_guided (hS : Sol q g) {ns : List Node} {k i : Nat} {x0 x : Node} {env e : List Pin} (hW : Within g ns) (hk : ns[k]? = some x0) (hF : NodeFacts q g i x env) (h : Guided x.ctx env (q.wants g i) e) (hN : ns.length ≤ q.N) :
  q.bind ns k e ≠ .graph ∧ ∀ ns',q.bind ns k e = .ok ns' → Within g ns' ∧ k < ns'.length ∧ ns'.length ≤ q.N:=by
 have hfull:=h.full hF
 unfold Quest.bind
 rw [hfull]
 obtain ⟨xs,hxs⟩:=targets_all (q:=q) (env:=env) (ps:=env) fun p hp=>by
  obtain ⟨ed,c1,j,y,d1,d2,d3,d4,rfl⟩:=(hF.mem p).1 hp
  obtain ⟨j',y',e1,e2,e3,e4,e5,_⟩:=hF.to ed c1
  have : j' = j:=by omega
  subst this
  rw [d3] at e3
  cases e3
  exact ⟨_,by rw [← d4]; exact e5⟩
 rw [hxs]
 dsimp only
 obtain ⟨t1,t2⟩:=targets_get hxs
 cases hp : putK q.N (ns.map Node.key) xs with
 | none=>exact ⟨(fun h=>by cases h),fun ns' h=>by cases h⟩
 | some r =>
  refine ⟨fun h=>(by cases h),fun ns' hns'=>?_⟩
  cases hns'
  obtain ⟨_,_,p3,_,p5⟩:=putK_spec hp (by rw [List.length_map]; exact hN)
  rw [List.length_map] at p5
  have hkl:=(List.getElem?_eq_some_iff.1 hk).1
  refine ⟨fun j y hy=>?_,by rw [List.length_append,setEdges_len]; omega,by rw [List.length_append,setEdges_len]; exact p5⟩
  by_cases hj : j < ns.length
  ·have hkey : y.key = (ns[j]'hj).key:=by
    have h1 : ((setEdges ns k r.2 ++ r.1).map Node.key)[j]? = some y.key:=by rw [List.getElem?_map,hy]; rfl
    rw [List.map_append,setEdges_key,List.getElem?_append_left (by rw [List.length_map]; exact hj),List.getElem?_map,List.getElem?_eq_getElem hj] at h1
    simp only [Option.map_some,Option.some.injEq] at h1
    exact h1.symm
   obtain ⟨j',y',a,b,c,d⟩:=hW j _ (List.getElem?_eq_getElem hj)
   exact ⟨j',y',a,b.trans hkey.symm,c,d⟩
  ·rw [List.getElem?_append_right (by rw [setEdges_len]; omega)] at hy
   have hm:=p3 y (List.mem_of_getElem? hy)
   have hpe : pinOf y ∈ env:=by rw [← t1]; exact List.mem_map_of_mem hm
   obtain ⟨ed,c1,j1,y1,d1,d2,d3,d4,d5⟩:=(hF.mem _).1 hpe
   obtain ⟨j',y',e1,e2,e3,e4,e5,_⟩:=hF.to ed c1
   have : j' = j1:=by omega
   subst this
   rw [d3] at e3
   cases e3
   simp only [pinOf,Pin.mk.injEq] at d5
   have hc:=t2 y hm
   have hc2 : (⟨y1.name,y1.v⟩ : Pin) = pinOf y:=by unfold pinOf; rw [d4,d5.1,d5.2]
   rw [hc2,hc] at e5
   have e5:=Option.some.inj e5
   refine ⟨j',y1,d3,?_,fun h=>?_,fun _ => by omega⟩
   ·unfold Node.key; rw [d4,← d5.1,← d5.2,e5]
   ·subst h; omega
theorem go_complete (hS : Sol q g) (hK : ∀ ns k,∀ w ∈ q.wants ns k,w.kind = 1 ∨ w.kind = 2) : ∀ (f : Nat) (ns : List Node) (k i : Nat) (x0 x : Node) (env : List Pin) (dn l : List Want) (e : List Pin) (t : Nat),
  Within g ns → ns.length ≤ q.N → ns[k]? = some x0 → g[i]? = some x → x.key = x0.key → (k = 0 → i = 0) → (k ≠ 0 → i ≠ 0) → NodeFacts q g i x env → q.wants ns k = dn ++ l → Guided x.ctx env dn e → NotFail (q.go f ns k l e t)
 | 0,_,_,_,_,_,_,_,_,_,_,_,_,_,_,_,_,_,_,_,_ => by rw [Quest.go]; trivial
 | f + 1,ns,k,i,x0,x,env,dn,[],e,t,hW,hN,hk,hi,hkey,h0,h1,hF,hd,hg=>by
  rw [List.append_nil,sameWants q hk hi hkey h0 h1] at hd
  subst hd
  obtain ⟨b1,b2⟩:=bind_guided hS hW hk hF hg hN
  rw [Quest.go]
  cases hb : q.bind ns k e with
  | graph=>exact absurd hb b1
  | many=>trivial
  | ok ns1 =>
   dsimp only
   obtain ⟨c1,c2,c3⟩:=b2 ns1 hb
   by_cases hl : k + 1 = ns1.length
   ·rw [if_pos hl]; trivial
   ·rw [if_neg hl]
    have hk1 : k + 1 < ns1.length:=by omega
    obtain ⟨j,y,d1,d2,d3,d4⟩:=c1 (k + 1) _ (List.getElem?_eq_getElem hk1)
    obtain ⟨env',hF'⟩:=hS.facts d1
    have hc : ctxAt ns1 (k + 1) = y.ctx:=by
     unfold ctxAt keyAt
     rw [List.getElem?_map,List.getElem?_eq_getElem hk1,Option.map_some,← d2]; rfl
    refine go_complete hS hK f ns1 (k + 1) j _ y env' [] _ _ t c1 c3 (List.getElem?_eq_getElem hk1) d1 d2 d3 d4 hF' rfl ?_
    rw [hc]
    exact ⟨((hS.formed.nodes j y d1).ctx).nodup,fun p hp=>hp,fun p hp=>hF'.ctx p hp,fun w hw=>by cases hw⟩
 | f + 1,ns,k,i,x0,x,env,dn,w :: l,e,t,hW,hN,hk,hi,hkey,h0,h1,hF,hd,hg=>by
  rw [Quest.go]
  have hw : w ∈ q.wants g i:=by rw [← sameWants q hk hi hkey h0 h1,hd]; simp
  obtain ⟨o,ho,hg'⟩:=hg.choose hS hF hw (hK g i w hw)
  have hc : ctxAt ns k = x.ctx:=by
   unfold ctxAt keyAt
   rw [List.getElem?_map,hk,Option.map_some,← hkey]; rfl
  refine try_one ⟨o,by rw [hc]; exact ho,fun t'=>?_⟩
  exact go_complete hS hK f ns k i x0 x env (dn ++ [w]) l _ t' hW hN hk hi hkey h0 h1 hF (by rw [hd]; simp) hg'
theorem complete_law (hS : Sol q g) (hK : ∀ ns k,∀ w ∈ q.wants ns k,w.kind = 1 ∨ w.kind = 2) (h1 : 1 ≤ q.N) : NotFail q.run:=by
 obtain ⟨x,hx,hk⟩:=hS.formed.root
 obtain ⟨env,hF⟩:=hS.facts hx
 have hc : x.ctx = []:=(key_eq hk).2.2
 refine go_complete hS hK _ [rootNode] 0 0 rootNode x env [] _ _ _ (fun i y hy=>?_) (by simpa using h1) rfl hx hk (fun _ => rfl) (fun h=>absurd rfl h) hF rfl ⟨by simp,(fun p hp=>by rw [hc] at hp; cases hp),(fun p hp=>by cases hp),(fun w hw=>by cases hw)⟩
 have h0 : i = 0:=by
  have:=(List.getElem?_eq_some_iff.1 hy).1
  simp at this; omega
 subst h0
 cases hy
 exact ⟨0,x,hx,hk,fun _ => rfl,fun h=>absurd rfl h⟩
end
end Go.Hal
namespace Go.Hal
theorem wantsOf_fine {over a b : List Dep} (hn : ((a ++ b).map (·.name)).Nodup) (hm : ∀ d ∈ a ++ b,nameMay d.name = true) : ((wantsOf over a b).map Want.name).Nodup ∧ ∀ w ∈ wantsOf over a b,nameMay w.name = true ∧ (w.kind = 1 ∨ w.kind = 2):=by
 unfold wantsOf
 have hp:=stSort_perm (c:=cW) (a.map (wantOf 1 over) ++ b.map (wantOf 2 over))
 refine ⟨(hp.map Want.name).nodup_iff.2 ?_,fun w hw=>?_⟩
 ·have : (a.map (wantOf 1 over) ++ b.map (wantOf 2 over)).map Want.name = (a ++ b).map (·.name):=by
   rw [List.map_append,List.map_append,List.map_map,List.map_map]; rfl
  rw [this]; exact hn
 ·rcases List.mem_append.1 (hp.mem_iff.1 hw) with h | h
  ·obtain ⟨d,hd,rfl⟩:=List.mem_map.1 h
   exact ⟨hm d (List.mem_append_left _ hd),.inl rfl⟩
  ·obtain ⟨d,hd,rfl⟩:=List.mem_map.1 h
   exact ⟨hm d (List.mem_append_right _ hd),.inr rfl⟩
theorem app_fine {a b : List Dep} (ha : depsMay a = true) (hb : depsMay b = true) (h : apart2 a b = true) : ((a ++ b).map (·.name)).Nodup ∧ ∀ d ∈ a ++ b,nameMay d.name = true:=by
 refine ⟨?_,fun d hd=>?_⟩
 ·rw [List.map_append,List.nodup_append]
  exact ⟨depsMay_nodup ha,depsMay_nodup hb,apart2_iff.1 h⟩
 ·rcases List.mem_append.1 hd with hd | hd
  ·exact ((depsMay_names ha).2 d hd).1
  ·exact ((depsMay_names hb).2 d hd).1
theorem wants_fine {q : Quest} (hG : GoodL q.L) (hm : maniMay q.m = true) (ns : List Node) (k : Nat) : ((q.wants ns k).map Want.name).Nodup ∧ ∀ w ∈ q.wants ns k,nameMay w.name = true ∧ (w.kind = 1 ∨ w.kind = 2):=by
 unfold Quest.wants wantsK
 split
 ·obtain ⟨h1,h2,h3,_,h4⟩:=maniMay_lists hm
  unfold maniApart at h4
  simp only [Bool.and_eq_true] at h4
  obtain ⟨⟨a1,a2⟩,a3⟩:=h4
  refine wantsOf_fine ?_ ?_
  ·unfold rootMust
   split
   ·rw [List.map_append,List.map_append,List.nodup_append,List.nodup_append]
    refine ⟨⟨depsMay_nodup h1,depsMay_nodup h2,apart2_iff.1 a1⟩,depsMay_nodup h3,fun x hx y hy=>?_⟩
    rcases List.mem_append.1 hx with hx | hx
    ·exact apart2_iff.1 a2 x hx y hy
    ·exact apart2_iff.1 a3 x hx y hy
   ·exact (app_fine h1 h3 a2).1
  ·unfold rootMust
   split
   ·intro d hd
    rcases List.mem_append.1 hd with hd | hd
    ·exact (app_fine h1 h2 a1).2 d hd
    ·exact ((depsMay_names h3).2 d hd).1
   ·exact (app_fine h1 h3 a2).2
 ·split
  ·exact ⟨by simp,fun w hw=>by cases hw⟩
  ·split
   ·exact ⟨by simp,fun w hw=>by cases hw⟩
   ·rename_i p hp
    have:=hG.may p (getL_some hp).1
    unfold packMay listsMay apart3 at this
    simp only [Bool.and_eq_true] at this
    obtain ⟨⟨⟨⟨_,d1⟩,d2⟩,d3⟩,⟨⟨_,b2⟩,_⟩,_⟩:=this
    obtain ⟨q1,q2⟩:=app_fine d1 d3 b2
    exact wantsOf_fine q1 q2
end Go.Hal
namespace Go.Hal
open Go Go.RowKit Go.Proofs Go.Shelf
theorem complete_facts {L : List Pack} {m : Mani} {dev : Bool} {pins : List Pin} {D N : Int} {g : List Node} (hG : GoodL L) (h : (resOf L m dev pins D N).code = 30) : checkOf ⟨L,m,dev,pins,D.toNat,N.toNat⟩ g ≠ 0:=fun hc=>by
 have hok : maniMay m = true ∧ 1 ≤ D ∧ D ≤ 4096 ∧ 1 ≤ N ∧ N ≤ 128:=Classical.byContradiction fun hno=>by
  unfold resOf at h
  rw [if_neg hno] at h
  cases h
 rw [resOf_of hok] at h
 generalize hq : Quest.mk L m dev pins D.toNat N.toNat = q at h hc
 have hqL : q.L = L:=by rw [← hq]
 have hqm : q.m = m:=by rw [← hq]
 have hqN : q.N = N.toNat:=by rw [← hq]
 have hw:=fun ns k=>wants_fine (q:=q) (by rw [hqL]; exact hG) (by rw [hqm]; exact hok.1) ns k
 have hS : Sol q g:=Classical.byContradiction fun hno=>by
  unfold checkOf at hc
  rw [if_pos (by rw [hqm]; exact hok.1),if_neg hno] at hc
  cases hc
 have hf:=run_fine (q:=q) (by omega)
 have hn:=complete_law hS (fun ns k w h=>((hw ns k).2 w h).2) (by omega)
 unfold Quest.res at h
 cases hr : q.run with
 | out=>rw [hr] at h; cases h
 | fail t=>rw [hr] at hn; exact hn
 | done ns t=>rw [hr] at h; cases h
 | err e =>
  rw [hr] at h hf
  have : e = 30:=h
  rcases hf with h1 | h1 <;> omega
set_option maxHeartbeats 4000000 in
theorem resolveComplete_se {sP mD mDev mOpt mOv pS gS : Sl} {lp : List Pack} {m : Mani} {dev : Bool} {pins : List Pin} {g : List Node} {D N d3 d4 : Int} {SA : Nat → Prop} {w : World} {R : Bool → World → Prop} (ht : Tab w) (hA : Old SA w) (hP : SlR packE w SA sP lp)
  (hd : SlR depE w SA mD m.deps) (he : SlR depE w SA mDev m.dev) (ho : SlR depE w SA mOpt m.opt) (hv : SlR depE w SA mOv m.over) (hp : SlR pinE w SA pS pins) (hg : SlR nodeE w SA gS g)
  (hR : ∀ w',Ext w w' → R true w') : SE.halyardlaw11_ResolveComplete sP mD mDev mOpt mOv dev pS D N d3 d4 gS w R:=by
 unfold SE.halyardlaw11_ResolveComplete
 refine newS.intro fun a w0 x0 ha hab _ => newS.intro fun ag w1 xg hbg _ _ => ⟨sP,mD,mDev,mOpt,mOv,dev,pS,D,N,d3,d4,ha.at0 (r:=[]) xg rfl,?_⟩
 have x1:=x0.trans xg
 refine SE.halyardlaw11_World_both.go (both11_se (ht.ext x1) (hA.ext x1.size) (hP.ext x1) fun p r q w2 x2 hB=>⟨_,_,rfl,bound ?_⟩)
 refine gCall.intro true (fun _ k hk=>SE.halyardlaw11_known.go (known11_se (ht.ext (x1.trans x2)) fun w' hx=>⟨_,rfl,hk _ hx⟩)) fun t1 w3 x3 ht1=>?_
 have ht1':=ht1 rfl
 subst ht1'
 refine ⟨(fun h=>by cases h),fun _ => ?_⟩
 obtain ⟨⟨S,hcat,_,_⟩,_,_,_⟩:=hB
 have x03:=(x1.trans x2).trans x3
 have x13:=x2.trans x3
 have xg3:=xg.trans x13
 refine ⟨mD,mDev,mOpt,mOv,ha.at1 (k:=1) xg3 rfl,dev,ha.at1 (k:=5) xg3 rfl,pS,ha.at1 (k:=6) xg3 rfl,D,N,d3,d4,ha.at1 (k:=7) (r:=[]) xg3 rfl,?_⟩
 refine SE.resolve_Run.go (run11_se (ht.ext x03) (hA.ext x03.size) (hcat.ext x3) (hd.ext x03) (he.ext x03) (ho.ext x03) (hv.ext x03) (hp.ext x03) fun g1 w4 x4 hg1=>⟨_,_,_,rfl,newS.set rfl fun a5 w5 x5 hb5 hab5=>bound ?_⟩)
 have hgood:=hcat.good
 have x35:=x4.trans x5
 have x05:=x03.trans x35
 have hfacts:=complete_facts (m:=m) (dev:=dev) (pins:=pins) (D:=D) (N:=N) (g:=g) hgood
 generalize resOf (catOf lp) m dev pins D N = r1 at *
 refine ⟨gS,fun _ => (hbg.ext (x13.trans x35)).ldc.pre (r:=[]) rfl,mD,mDev,mOpt,mOv,fun _ => ha.at1 (k:=1) (xg3.trans x35) rfl,dev,fun _ => ha.at1 (k:=5) (xg3.trans x35) rfl,?_⟩
 refine gCall.intro (checkOf ⟨catOf lp,m,dev,pins,D.toNat,N.toNat⟩ g) (fun _ k hk=>SE.graph_Check.go (check_se (q:=⟨catOf lp,m,dev,pins,D.toNat,N.toNat⟩) (ht.ext x05) (hA.ext x05.size) (hg.ext x05) ((hcat.ext x3).ext x35) (hA.ext x05.size) (hd.ext x05) (he.ext x05) (ho.ext x05) (hv.ext x05) fun w6 x6=>⟨_,rfl,hk w6 x6⟩)) fun t44 w6 x6 ht44=>?_
 have : ((!(r1.code == 30)) || !(t44 == 0)) = true:=by
  cases hc : (r1.code == 30) with
  | false=>rfl
  | true =>
   rw [ht44 (by rw [hc]; rfl)]
   have hne:=hfacts (by simpa using hc)
   simp [hne]
 rw [this]
 exact hR w6 (x05.trans x6)
end Go.Hal
namespace Go.Hal
open Go Go.RowKit Go.ChangeShapes Go.WideShapes Go.ChangeAt Go.Proofs Go.Proofs.YtcnoablfimcajaaGreatDoor
section
variable {H : Type} {enc : TypeId × Value → H} {P : Program} {W : World}
end
section
variable {H : Type} {W : World} {enc : TypeId × Value → H}
theorem rdBool {n : Nat} {cs : List Value} {x : DataW H × List MemPlace} (h : Tr enc Tryz.prog W n 4 cs x) : ∃ b,cs = [.bool b]:=by
 obtain ⟨b,h1,_⟩:=DataW.trod_bool Tryz.underlying4 h
 exact ⟨b,h1⟩
end
end Go.Hal
namespace Go.Hal
open Go Go.RowKit Go.ChangeShapes Go.WideShapes Go.ChangeAt Go.Proofs
section
variable {H : Type} {W : World} {enc : TypeId × Value → H}
theorem rdMani {n : Nat} {cs : List Value} {x : DataW H × List MemPlace} (h1 : Tr enc Tryz.prog W n 25 cs x) (w1 : small (x.1.weights Tryz.prog 25)) :
  ∃ (m : Mani) (a b c d : Sl),cs = [a.v,b.v,c.v,d.v] ∧ SlR depE W (Here W) a m.deps ∧ SlR depE W (Here W) b m.dev ∧ SlR depE W (Here W) c m.opt ∧ SlR depE W (Here W) d m.over:=by
 have hl:=rd_len Tryz.underlying25 h1
 have hc : Tryz.prog.cellsOf 25 = 4:=by kernel_rfl
 rw [hc] at hl
 obtain ⟨z0,k0,g0,v0⟩:=rd_field Tryz.underlying25 h1 w1 0 23 0 1 ⟨_,rfl,rfl,rfl⟩ ceLd
 obtain ⟨z1,k1,g1,v1⟩:=rd_field Tryz.underlying25 h1 w1 1 23 1 1 ⟨_,rfl,rfl,rfl⟩ ceLd
 obtain ⟨z2,k2,g2,v2⟩:=rd_field Tryz.underlying25 h1 w1 2 23 2 1 ⟨_,rfl,rfl,rfl⟩ ceLd
 obtain ⟨z3,k3,g3,v3⟩:=rd_field Tryz.underlying25 h1 w1 3 23 3 1 ⟨_,rfl,rfl,rfl⟩ ceLd
 obtain ⟨b,lb,f0,hb,_⟩:=rdDeps enc k0 _ _ g0 v0
 obtain ⟨c,lc,f1,hc',_⟩:=rdDeps enc k1 _ _ g1 v1
 obtain ⟨d,ld,f2,hd,_⟩:=rdDeps enc k2 _ _ g2 v2
 obtain ⟨e,le,f3,he,_⟩:=rdDeps enc k3 _ _ g3 v3
 match cs,hl with
 | [c1,c2,c3,c4],_ =>
  simp at f0 f1 f2 f3
  exact ⟨⟨lb,lc,ld,le⟩,b,c,d,e,by rw [f0,f1,f2,f3],hb,hc',hd,he⟩
theorem rdLimits {n : Nat} {cs : List Value} {x : DataW H × List MemPlace} (h1 : Tr enc Tryz.prog W n 28 cs x) (w1 : small (x.1.weights Tryz.prog 28)) :
  ∃ a b c d : Int,cs = [.int .i64 a,.int .i64 b,.int .i64 c,.int .i64 d]:=by
 have hl:=rd_len Tryz.underlying28 h1
 have hc : Tryz.prog.cellsOf 28 = 4:=by kernel_rfl
 rw [hc] at hl
 obtain ⟨z0,k0,g0,v0⟩:=rd_field Tryz.underlying28 h1 w1 0 3 0 1 ⟨_,rfl,rfl,rfl⟩ (by kernel_rfl)
 obtain ⟨z1,k1,g1,v1⟩:=rd_field Tryz.underlying28 h1 w1 1 3 1 1 ⟨_,rfl,rfl,rfl⟩ (by kernel_rfl)
 obtain ⟨z2,k2,g2,v2⟩:=rd_field Tryz.underlying28 h1 w1 2 3 2 1 ⟨_,rfl,rfl,rfl⟩ (by kernel_rfl)
 obtain ⟨z3,k3,g3,v3⟩:=rd_field Tryz.underlying28 h1 w1 3 3 3 1 ⟨_,rfl,rfl,rfl⟩ (by kernel_rfl)
 obtain ⟨a,f0⟩:=rdI g0
 obtain ⟨b,f1⟩:=rdI g1
 obtain ⟨c,f2⟩:=rdI g2
 obtain ⟨d,f3⟩:=rdI g3
 match cs,hl with
 | [c1,c2,c3,c4],_ =>
  simp at f0 f1 f2 f3
  exact ⟨a,b,c,d,by rw [f0,f1,f2,f3]⟩
theorem rdWorld11 {n : Nat} {cs : List Value} {x : DataW H × List MemPlace} (h : Tr enc Tryz.prog W n 30 cs x) (hw : small (x.1.weights Tryz.prog 30)) :
  ∃ (sP mD mE mO mV pS : Sl) (dev : Bool) (D N d3 d4 : Int) (lp : List Pack) (m : Mani) (pins : List Pin),cs = [sP.v,mD.v,mE.v,mO.v,mV.v,.bool dev,pS.v,.int .i64 D,.int .i64 N,.int .i64 d3,.int .i64 d4] ∧ SlR packE W (Here W) sP lp ∧
   SlR depE W (Here W) mD m.deps ∧ SlR depE W (Here W) mE m.dev ∧ SlR depE W (Here W) mO m.opt ∧ SlR depE W (Here W) mV m.over ∧ SlR pinE W (Here W) pS pins:=by
 have hl:=rd_len Tryz.underlying30 h
 have hc : Tryz.prog.cellsOf 30 = 11:=by kernel_rfl
 rw [hc] at hl
 obtain ⟨y0,m0,h0,w0⟩:=rd_field Tryz.underlying30 h hw 0 22 0 1 ⟨_,rfl,rfl,rfl⟩ ceLk
 obtain ⟨y1,m1,h1,w1⟩:=rd_field Tryz.underlying30 h hw 1 25 1 4 ⟨_,rfl,rfl,rfl⟩ (by kernel_rfl)
 obtain ⟨y2,m2,h2,w2⟩:=rd_field Tryz.underlying30 h hw 2 4 5 1 ⟨_,rfl,rfl,rfl⟩ (by kernel_rfl)
 obtain ⟨y3,m3,h3,w3⟩:=rd_field Tryz.underlying30 h hw 3 26 6 1 ⟨_,rfl,rfl,rfl⟩ ceLp
 obtain ⟨y4,m4,h4,w4⟩:=rd_field Tryz.underlying30 h hw 4 28 7 4 ⟨_,rfl,rfl,rfl⟩ (by kernel_rfl)
 obtain ⟨a,lp,e0,hp,_⟩:=rdPacks enc m0 _ _ h0 w0
 obtain ⟨m,mD,mE,mO,mV,e1,q1,q2,q3,q4⟩:=rdMani h1 w1
 obtain ⟨dev,e2⟩:=rdBool h2
 obtain ⟨pS,pins,e3,q5,_⟩:=rdPins enc m3 _ _ h3 w3
 obtain ⟨D,N,d3,d4,e4⟩:=rdLimits h4 w4
 match cs,hl with
 | [c0,c1,c2,c3,c4,c5,c6,c7,c8,c9,c10],_ =>
  simp at e0 e1 e2 e3 e4
  exact ⟨a,mD,mE,mO,mV,pS,dev,D,N,d3,d4,lp,m,pins,by rw [e0,e1.1,e1.2.1,e1.2.2.1,e1.2.2.2,e2,e3,e4.1,e4.2.1,e4.2.2.1,e4.2.2.2],hp,q1,q2,q3,q4,q5⟩
end
end Go.Hal
namespace Go.Hal
open Go Go.RowKit Go.ChangeShapes Go.WideShapes Go.ChangeAt Go.Proofs
section
variable {H : Type} {W : World}
theorem ceE : Tryz.prog.cellsOf 90 = 2:=by kernel_rfl
theorem ceN : Tryz.prog.cellsOf 65 = 6:=by kernel_rfl
theorem ceG : Tryz.prog.cellsOf 38 = 1:=by kernel_rfl
theorem ceLe : Tryz.prog.cellsOf 63 = 1:=by kernel_rfl
theorem ceLn : Tryz.prog.cellsOf 36 = 1:=by kernel_rfl
theorem rdEdge : Rd H Tryz.prog W edgeE 90:=by
 intro enc n cs x h hw
 have hl:=rd_len Tryz.underlying90 h
 rw [ceE] at hl
 obtain ⟨y0,m0,h0,w0⟩:=rd_field Tryz.underlying90 h hw 0 9 0 1 ⟨_,rfl,rfl,rfl⟩ ceS
 obtain ⟨y1,m1,h1,w1⟩:=rd_field Tryz.underlying90 h hw 1 3 1 1 ⟨_,rfl,rfl,rfl⟩ ceI
 obtain ⟨s,e0,hs⟩:=rdStr h0
 obtain ⟨k,e1⟩:=rdI h1
 match cs,hl with
 | [a,b],_ =>
  simp at e0 e1
  exact ⟨⟨s,k⟩,by rw [e0,e1],hs⟩
theorem rdEdges : RdS H Tryz.prog W edgeE 63:=rd_slice Tryz.underlying63 ceE (by kernel_rfl) (by decide) rdEdge
theorem rdNode : Rd H Tryz.prog W nodeE 65:=by
 intro enc n cs x h hw
 have hl:=rd_len Tryz.underlying65 h
 rw [ceN] at hl
 obtain ⟨y0,m0,h0,w0⟩:=rd_field Tryz.underlying65 h hw 0 9 0 1 ⟨_,rfl,rfl,rfl⟩ ceS
 obtain ⟨y1,m1,h1,w1⟩:=rd_field Tryz.underlying65 h hw 1 46 1 3 ⟨_,rfl,rfl,rfl⟩ ceV
 obtain ⟨y2,m2,h2,w2⟩:=rd_field Tryz.underlying65 h hw 2 26 4 1 ⟨_,rfl,rfl,rfl⟩ ceLp
 obtain ⟨y3,m3,h3,w3⟩:=rd_field Tryz.underlying65 h hw 3 63 5 1 ⟨_,rfl,rfl,rfl⟩ ceLe
 obtain ⟨s,e0,hs⟩:=rdStr h0
 obtain ⟨v,e1⟩:=rdVer h1 w1
 obtain ⟨c,lc,e2,hc,_⟩:=rdPins enc m2 _ _ h2 w2
 obtain ⟨e,le,e3,he,_⟩:=rdEdges enc m3 _ _ h3 w3
 match cs,hl with
 | [c0,c1,c2,c3,c4,c5],_ =>
  simp [Ver.c] at e0 e1 e2 e3
  exact ⟨⟨s,v,lc,le⟩,hs,c,e,by rw [e0,e1.1,e1.2.1,e1.2.2,e2,e3],hc,he⟩
theorem rdNodes : RdS H Tryz.prog W nodeE 36:=rd_slice Tryz.underlying36 ceN (by kernel_rfl) (by decide) rdNode
theorem rdGraph {enc : TypeId × Value → H} {n : Nat} {cs : List Value} {x : DataW H × List MemPlace} (h : Tr enc Tryz.prog W n 38 cs x) (hw : small (x.1.weights Tryz.prog 38)) :
  ∃ (s : Sl) (g : List Node),cs = [s.v] ∧ SlR nodeE W (Here W) s g:=by
 have hl:=rd_len Tryz.underlying38 h
 rw [ceG] at hl
 obtain ⟨y0,m0,h0,w0⟩:=rd_field Tryz.underlying38 h hw 0 36 0 1 ⟨_,rfl,rfl,rfl⟩ ceLn
 obtain ⟨s,l,e0,hs,_⟩:=rdNodes enc m0 _ _ h0 w0
 match cs,hl with
 | [c0],_ =>
  simp at e0
  exact ⟨s,l,by rw [e0],hs⟩
end
end Go.Hal
