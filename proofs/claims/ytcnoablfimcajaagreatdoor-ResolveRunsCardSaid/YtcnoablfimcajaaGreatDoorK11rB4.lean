/- Lemmas for the claim K11r: how the program's functions run, and what they answer; no condition but those that each theorem names. -/
import Derived.Test.YtcnoablfimcajaaGreatDoorProg
import Derived.Laws.MakeOwn
import Derived.Test.YtcnoablfimcajaaGreatDoorK11rB3
set_option linter.unusedVariables false
set_option linter.unusedSimpArgs false
set_option maxHeartbeats 16000000
namespace Go.Hal
open Go.Proofs.Tryz
open Go Go.RowKit Go.Proofs Go.Shelf
def EndN (q : Quest) : Nat → Lb → St → Stp → Prop
 | 0,l,s,r=>q.step l s = r ∧ ∀ l1 s1,r ≠ .go l1 s1
 | n + 1,l,s,r=>∃ l1 s1,q.step l s = .go l1 s1 ∧ EndN q n l1 s1 r
theorem End.steps {q : Quest} {l : Lb} {s : St} {r : Stp} (h : q.End l s r) : ∃ n,EndN q n l s r:=by
 induction h with
 | done h=>exact ⟨0,h,(fun _ _ h=>by cases h)⟩
 | err h=>exact ⟨0,h,(fun _ _ h=>by cases h)⟩
 | step h _ ih =>
  obtain ⟨n,hn⟩:=ih
  exact ⟨n + 1,_,_,h,hn⟩
theorem EndN.go {q : Quest} {n : Nat} {l l1 : Lb} {s s1 : St} {r : Stp} (h : EndN q n l s r) (hs : q.step l s = .go l1 s1) : ∃ m,m < n ∧ EndN q m l1 s1 r:=by
 cases n with
 | zero =>
  obtain ⟨h1,h2⟩:=h
  rw [hs] at h1
  exact absurd h1.symm (h2 _ _)
 | succ n =>
  obtain ⟨l2,s2,h1,h2⟩:=h
  rw [hs] at h1
  cases h1
  exact ⟨n,Nat.lt_succ_self n,h2⟩
theorem EndN.fin {q : Quest} {n : Nat} {l : Lb} {s : St} {r r' : Stp} (h : EndN q n l s r) (hs : q.step l s = r') (hr : ∀ l1 s1,r' ≠ .go l1 s1) : r = r':=by
 cases n with
 | zero=>rw [← hs]; exact h.1.symm
 | succ n =>
  obtain ⟨l2,s2,h1,_⟩:=h
  rw [hs] at h1
  exact absurd h1 (hr _ _)
theorem gotos2.ghost {α β : Type} {first : (Nat → α → β → World → Prop) → Prop} {pass : Nat → α → β → World → (Nat → α → β → World → Prop) → Prop} (J : Nat → Nat → α → β → World → Prop) (h0 : first fun l a b w=>∃ n,J n l a b w)
  (hs : ∀ n l a b w nxt,J n l a b w → (∀ m l' a' b' w',m < n → J m l' a' b' w' → nxt l' a' b' w') → pass l a b w nxt) : gotos2 first pass :=
 ⟨fun l a b w=>∃ n,J n l a b w,fun l a b w=>Zko fun n=>J n l a b w,h0,fun l a b w ⟨n,h⟩=>hs _ l a b w _ (Zd3 (p:=fun n=>J n l a b w) h).1 fun m l' a' b' w' hm hJ=>⟨⟨m,hJ⟩,Nat.lt_of_le_of_lt ((Zd3 (p:=fun n=>J n l' a' b' w') hJ).2 m hJ) hm⟩⟩
def lbN : Lb → Nat
 | .next=>1
 | .tri=>0
 | .back=>2
def Zg2 (L : List Pack) (m : Mani) (dev : Bool) (pins : List Pin) (D N : Int) : Stp :=
 if Zcf m = true ∧ 1 ≤ D ∧ D ≤ 4096 ∧ 1 ≤ N ∧ N ≤ 128 then Quest.res ⟨L,m,dev,pins,D.toNat,N.toNat⟩ else .err 1
theorem Sr0.setStk {w : World} {lo g : Nat} {stk nds ahd ws stk' : Sl} {Q : Nat → Prop} {s : St} {l1 : List Ch} (h : Sr0 w lo g stk nds ahd ws Q s) (e1 : stk'.a = stk.a) (h1 : OwnS chE 81 w lo Q stk' l1) : Sr0 w lo g stk' nds ahd ws Q { s with stack:=l1 } :=
 ⟨h1,h.nodes,h.ahead,h.wants,h.q,fun a b ha hb=>h.a1 a b (e1 ▸ ha) hb,fun a b ha hb=>h.a2 a b (e1 ▸ ha) hb,h.a3,fun a ha=>h.o1 a (e1 ▸ ha),h.o2,h.o3⟩
structure RunC (w0 : World) (q : Quest) (a1 a3 : Addr) (D N d3 d4 : Int) (lo : Nat) (K : K7) (w : World) : Prop where
 wl : w0.heap.size ≤ lo
 ext : Ext w0 w
 cs : Cs w lo q K
 b1 : BoxAt w a1 [.int .i64 D,.int .i64 N,.int .i64 d3,.int .i64 d4]
 l1 : a1.block < lo
 b3 : BoxAt w a3 [Sl.v Sl.nil]
 l3 : a3.block < lo
 n3 : w0.heap.size ≤ a3.block
theorem RunC.below {w0 w w' : World} {q : Quest} {a1 a3 : Addr} {D N d3 d4 : Int} {lo : Nat} {K : K7} (h : RunC w0 q a1 a3 D N d3 d4 lo K w) (hb : Below lo w w') : RunC w0 q a1 a3 D N d3 d4 lo K w' :=
 ⟨h.wl,h.ext.trans' (Below.mono hb h.wl),h.cs.below hb,h.b1.below hb h.l1,h.l1,h.b3.below hb h.l3,h.l3,h.n3⟩
def RunJ (w0 : World) (q : Quest) (a1 a3 : Addr) (D N d3 d4 : Int) (n l : Nat) (vs : Option Addr) (d : Int) (w : World) : Prop :=
 ∃ lo sp K lb s,l = lbN lb ∧ vs = some sp ∧ d = (s.dec : Int) ∧ RunC w0 q a1 a3 D N d3 d4 lo K w ∧ SrAt w lo sp K s ∧ InvL q lb s ∧ EndN q n lb s q.res
theorem Zz4 {L : List Pack} {m : Mani} {dev : Bool} {pins : List Pin} {S SA : Nat → Prop} {cp : Addr} {rr : Nat} {mD mDev mOpt mOv pS : Sl} {D N d3 d4 : Int} {w0 : World} {R : Sl → Int → Int → World → Prop} (ht : Tab w0) (hSA : Old SA w0)
  (hcat : CatL w0 S cp rr L) (hS : Old S w0) (hrr : rr < w0.heap.size) (hcp : cp.block < w0.heap.size) (hd : SlR depE w0 SA mD m.deps) (he : SlR depE w0 SA mDev m.dev) (ho : SlR depE w0 SA mOpt m.opt) (hv : SlR depE w0 SA mOv m.over) (hp : SlR pinE w0 SA pS pins)
  (herr : ∀ e w',Zg2 L m dev pins D N = .err e → Ext w0 w' → R Sl.nil 0 e w')
  (hdone : ∀ ns t nds w',Zg2 L m dev pins D N = .done ns t → Ext w0 w' → SlR nodeE w' (fun b=>w0.heap.size ≤ b ∧ b < w'.heap.size) nds ns → R nds (t : Int) 0 w') :
  SE.Zbx (some cp) mD mDev mOpt mOv dev pS D N d3 d4 w0 R:=by
 unfold SE.Zbx
 have hmx:=Zd
 have hGood : GoodL L:=hcat.good
 refine newS.intro fun a wa xa ha haa _ => newS.intro fun a1 wb xb hb1 hb1b _ => newS.intro fun a3 wc xc ha3 ha3b _ => ?_
 have x0c:=xa.trans (xb.trans xc)
 have xac:=xb.trans xc
 have hsa:=xa.size; have hsb:=xb.size; have hsc:=xc.size
 have hl3:=ha3.lt
 have hCl : ∀ n r p,(Zib L n r p).length ≤ 1000:=fun n r p=>Nat.le_trans (Zmk hGood n r p) (by omega)
 generalize hq : (⟨L,m,dev,pins,D.toNat,N.toNat⟩ : Quest) = q
 have hqL : q.L = L:=by rw [← hq]
 have hqN : q.N = N.toNat:=by rw [← hq]
 have hqD : q.D = D.toNat:=by rw [← hq]
 rw [← hqL] at hGood hCl
 refine gotos2.ghost (fun n l vs d w=>(Zcf m = true ∧ 1 ≤ D ∧ D ≤ 4096 ∧ 1 ≤ N ∧ N ≤ 128) ∧ RunJ w0 q a1 a3 D N d3 d4 n l vs d w) ?first ?pass
 case first =>
  refine bound ⟨mD,mDev,mOpt,mOv,fun _ => ha.at0 (r:=[]) xac rfl,?_⟩
  refine gCall.intro (Zcf m) (fun _ q' hq'=>SE.Zfb.go (Zru (ht.ext x0c) (hSA.ext x0c.size) (hd.ext x0c) (he.ext x0c) (ho.ext x0c) (hv.ext x0c) fun w' hx=>⟨_,rfl,hq' _ hx⟩)) fun t1 wd xd ht1=>?_
  have x0d:=x0c.trans xd
  have x1d:=xc.trans xd
  have hsd:=x0d.size
  have hsd':=xd.size
  have ht1':=ht1 rfl
  subst ht1'
  refine bound ⟨D,fun _ => hb1.at0 x1d rfl,bound ⟨D,fun _ => hb1.at0 x1d rfl,bound ⟨N,fun _ => hb1.at1 (k:=1) x1d rfl,bound ⟨N,fun _ => hb1.at1 (k:=1) x1d rfl,fun hbad=>?_,fun hgood=>?_⟩⟩⟩⟩
  ·have hno : ¬ (Zcf m = true ∧ 1 ≤ D ∧ D ≤ 4096 ∧ 1 ≤ N ∧ N ≤ 128):=fun ⟨h1,h2,h3,h4,h5⟩=>by
    rw [h1] at hbad
    simp at hbad
    omega
   refine stw0.intro (ha3.ext xd) (by simp) fun we be _ hbe=>⟨Sl.nil,hbe.at0 (r:=[]) (Ext.refl _) rfl,herr 1 we ?_ (be.ext x0d (by omega))⟩
   unfold Zg2
   rw [if_neg hno]
  ·have hok : Zcf m = true ∧ 1 ≤ D ∧ D ≤ 4096 ∧ 1 ≤ N ∧ N ≤ 128:=by
    simp at hgood
    obtain ⟨⟨⟨⟨h1,h2⟩,h3⟩,h4⟩,h5⟩:=hgood
    exact ⟨h1,by omega,by omega,by omega,by omega⟩
   have hres : Zg2 L m dev pins D N = q.res:=by
    unfold Zg2
    rw [if_pos hok,hq]
   refine ⟨mD,mDev,mOpt,mOv,ha.at0 (r:=[]) (xac.trans xd) rfl,?_⟩
   refine newS.own (E:=nodeE) (x:=rootNode) ⟨by show (0 : Nat) ≤ maxLen; omega,Sl.nil,Sl.nil,rfl,SlR.nil trivial,SlR.nil trivial⟩ fun a17 wf xf ownR h17=>newS.intro fun sp w xg hbx hspb _ => ?_
   have hsf:=xf.size; have hsg:=xg.size
   have xdg:=xf.trans xg
   have x0g:=x0d.trans xdg
   generalize hlo' : wd.heap.size = lo at *
   have hwlo : lo ≤ w.heap.size:=by omega
   have hm : q.m = m:=by rw [← hq]
   have hdev : q.dev = dev:=by rw [← hq]
   have hpins : q.pins = pins:=by rw [← hq]
   have hup : ∀ b,SA b → b < lo:=fun b hb=>by have:=hSA b hb; omega
   have hCs : Cs w lo q ⟨cp,mD,mDev,mOpt,mOv,dev,pS⟩:=⟨⟨S,rr,by rw [hqL]; exact hcat.ext x0g,fun b hb=>by have:=hS b hb; omega,by omega,by show cp.block < lo; omega⟩,by rw [hm]; exact (hd.ext x0g).mono hup,by rw [hm]; exact (he.ext x0g).mono hup,by rw [hm]; exact (ho.ext x0g).mono hup,by rw [hm]; exact (hv.ext x0g).mono hup,by rw [hpins]; exact (hp.ext x0g).mono hup,hdev.symm,hwlo,by rw [hm]; exact Zg6 hok.1⟩
   generalize hK : (⟨cp,mD,mDev,mOpt,mOv,dev,pS⟩ : K7) = K at hCs
   have hRC : RunC w0 q a1 a3 D N d3 d4 lo K w:=⟨by omega,x0g,hCs,hb1.ext (x1d.trans xdg),by have:=hb1.lt; omega,(ha3.ext xd).ext xdg,by omega,by omega⟩
   have hlo : lo ≤ sp.block:=by omega
   have hnil : ∀ {α : Type} {E : Enc α} {T : TypeId},OwnS E T w lo None' Sl.nil ([] : List α):=fun {α E T}=>OwnS.nil _ _
   have h00 : Sr0 w lo sp.block Sl.nil ⟨some a17,1,1⟩ Sl.nil Sl.nil None' ⟨[],[rootNode],[],[],0,0⟩:=⟨hnil,ownR.ext xg,hnil,SlR.nil trivial,fun _ h=>h.elim,(fun _ _ h=>by cases h),(fun _ _ h=>by cases h),(fun _ _ _ h=>by cases h),(fun _ h=>by cases h),fun ad had e=>(by simp only [Option.some.injEq] at had; subst had; have:=(ownR.block rfl).2.1; omega),(fun _ h=>by cases h)⟩
   have hbx0 : BoxAt w sp (Zef K Sl.nil ⟨some a17,1,1⟩ Sl.nil Sl.nil 0):=by rw [← hK]; exact hbx
   refine SE.Zbb.go (Zmh (s:=⟨[],[rootNode],[],[],0,0⟩) hCs ⟨_,_,_,_,_,hbx0,hlo,h00⟩ (by show 0 < 1; omega) fun wh belh hsah=>⟨rfl,?_⟩)
   have hRC2:=hRC.below belh
   clear hbx hbx0 h00 hCs hRC
   obtain ⟨n,hEnd⟩:=End.steps (Zws (q:=q) (by omega))
   have hI : InvL q .next q.start:=InvL.start (by omega)
   have hI : InvS q 0 q.start:=hI
   have hsah : SrAt wh lo sp K q.start:=hsah
   obtain ⟨stk,nds,ahd,ws,Q,hbx,hlo2,h0⟩:=hsah
   have hCs:=hRC2.cs
   have hsl:=h0.stack.len
   have hwl:=h0.wants.len
   have hskl : q.start.stack.length ≤ 4096:=Nat.zero_le _
   have hg:=Zrs hbx
   have hfs:=hI.f
   have hwr : Za ((stk.len : Int) - (q.start.first : Int)) = ((q.start.stack.length - q.start.first : Nat) : Int):=by rw [Zb (by omega) (by omega)]; omega
   have hN : q.N ≤ 128:=by omega
   have hD : q.D ≤ 4096:=by omega
   have hlim : ∀ w',Below lo wh w' → ldc w' (a1.add 1) [.int .i64 (q.N : Int)]:=fun w' hb=>by
    have e : (q.N : Int) = N:=by omega
    rw [e]; exact (hRC2.below hb).b1.at1 (k:=1) (Ext.refl _) rfl
   have hErr : ∀ (e : Int) w',Below lo wh w' → q.res = .err e → stw w' a3 [Sl.v Sl.nil] fun vw=>∃ r : Sl,ldc vw a3 [Sl.v r] ∧ R r 0 e vw:=fun e w' hb hr=>by
    have h:=hRC2.below hb
    exact stw0.intro h.b3 (by simp) fun we be _ hbe=>⟨Sl.nil,hbe.at0 (r:=[]) (Ext.refl _) rfl,herr e we (hres.trans hr) (be.ext h.ext h.n3)⟩
   have hDone : ∀ ns t nds w' (Q2 : Nat → Prop),Below lo wh w' → OwnS nodeE 65 w' lo Q2 nds ns → (∀ b,Q2 b → lo ≤ b) → ns.length ≤ 128 → q.res = .done ns t → stw w' a3 [Sl.v nds] fun vw=>∃ r : Sl,ldc vw a3 [Sl.v r] ∧ R r (t : Int) 0 vw:=fun ns t nds w' Q2 hb ho hQ hl hr=>by
    have h:=hRC2.below hb
    have hrd:=ho.read (by show ns.length * 88 ≤ room; unfold room; omega) (by omega)
    have h3:=h.l3; have hlo3:=h.wl
    refine stw0.intro h.b3 (by simp) fun we be _ hbe=>⟨nds,hbe.at0 (r:=[]) (Ext.refl _) rfl,hdone ns t nds we (hres.trans hr) (be.ext h.ext h.n3) ?_⟩
    have hs9:=be.1
    have hin : ∀ b,(Q2 b ∨ ∃ ad,nds.a = some ad ∧ b = ad.block) → lo ≤ b ∧ b < w'.heap.size:=fun b hb=>by
     rcases hb with hb | ⟨ad,had,rfl⟩
     ·exact ⟨hQ b hb,ho.lt b hb⟩
     ·exact ⟨(ho.block had).1,(ho.block had).2.1⟩
    exact (hrd.but be fun h=>by have:=hin _ h; omega).mono fun b hb=>by have:=hin b hb; omega
   have NX : ∀ (lb : Lb) (s' : St) w' m',m' < n → Below lo wh w' → SrAt w' lo sp K s' → InvL q lb s' → EndN q m' lb s' q.res → ∃ n,(Zcf m = true ∧ 1 ≤ D ∧ D ≤ 4096 ∧ 1 ≤ N ∧ N ≤ 128) ∧ RunJ w0 q a1 a3 D N d3 d4 n (lbN lb) (some sp) (s'.dec : Int) w':=fun lb s' w' m' hm hb hsa hi hE=>⟨m',hok,lo,sp,K,lb,s',rfl,rfl,rfl,hRC2.below hb,hsa,hi,hE⟩
   refine bnd.drew fun w1 x1=>⟨stk,BoxAt.at1 hbx (k:=7) x1 rfl,(q.start.first : Int),BoxAt.at1 hbx (k:=11) x1 rfl,ws,BoxAt.at1 hbx (k:=10) x1 rfl,?_⟩
   rw [hwr]
   have x1s:=x1.size
   refine ⟨fun hlt=>?_,fun hge=>?_⟩
   ·have hlt' : q.start.stack.length - q.start.first < q.start.ws.length:=by omega
    obtain ⟨adw,tw,hwa,_,hwN,hwR,hwc⟩:=Zoq (h0.wants) hlt'
    have hstep : q.step .next q.start = .go .tri { q.start with stack:=q.start.stack ++ [q.ch q.start.ahead.length (ctxAt q.start.ns q.start.ahead.length) q.start.ws[q.start.stack.length - q.start.first]] }:=by
     rw [Quest.step,List.getElem?_eq_getElem hlt']
    generalize hwt : q.start.ws[q.start.stack.length - q.start.first] = wt at *
    have hInv':=InvL.step (l:=.next) (l':=.tri) hGood hCl hI hstep
    refine bnd.drew fun w2 x2=>⟨stk,BoxAt.at1 hbx (k:=7) (x1.trans x2) rfl,ws,BoxAt.at1 hbx (k:=10) (x1.trans x2) rfl,adw,⟨hwa,by omega,by omega⟩,_,_,tw,by rw [Int.toNat_natCast]; exact hwc _ (x1.trans x2),?_⟩
    have x02:=x1.trans x2
    have hC2:=hCs.below (x02.below' lo hCs.le)
    have hs2:=x02.size
    refine callX.intro (SE.Zbv.go (Zng (s:=q.start) (wt:=wt) (rs:=tw) hC2 ⟨stk,nds,ahd,ws,Q,hbx.ext x02,hlo,h0.ext x02⟩ hI.a hwN (SR:=Q) (fun b hb=>by have:=h0.nodes.lt b hb; omega) (hwR.ext x02) fun v w3 x3 hv=>⟨x3,_,_,v,_,_,rfl,newS.intro fun a4 w4 x4 hb4 hab4 _ => ?_⟩))
    have x24:=x3.trans x4
    have x04:=x02.trans x24
    have hs3:=x3.size; have hs4:=x4.size
    have h4:=(h0.ext x02).grow x24 hC2.le (by omega)
    refine Sr0.pushCh (x:=q.ch q.start.ahead.length (ctxAt q.start.ns q.start.ahead.length) wt) h4 apCh (by have:=hC2.le; omega) (by omega) ⟨hwN,v,rfl,(hv.ext x4).mono fun b hb=>.inr ⟨by omega,by omega⟩⟩ hb4.ldc (by omega) fun r' w5 h5 bel5 ho5=>?_
    have hb5 : BoxAt w5 sp (Zef K stk nds ahd ws q.start.first):=(hbx.ext x04).oth ho5 fun ad had e=>h0.o1 ad had e.symm
    have hs5:=bel5.size
    refine stw.intro (o:=7) hb5 (by show 8 ≤ 12; omega) fun w6 b6 _ hb6=>?_
    have bel6 : Below lo wh w6:=Below.trans (Below.trans (x04.below' lo hCs.le) bel5) (b6.below (by have:=hCs.le; omega) hlo)
    obtain ⟨m',hm',hE'⟩:=hEnd.go hstep
    exact NX .tri { q.start with stack:=q.start.stack ++ [q.ch q.start.ahead.length (ctxAt q.start.ns q.start.ahead.length) wt] } w6 m' hm' bel6 ⟨r',nds,ahd,ws,_,hb6,hlo,h5.but b6⟩ hInv' hE'
   ·have hnone : q.start.ws[q.start.stack.length - q.start.first]? = none:=List.getElem?_eq_none (by omega)
    refine ⟨(q.N : Int),hlim _ (x1.below' lo hCs.le),?_⟩
    have hC1:=hCs.below (x1.below' lo hCs.le)
    refine SE.Zb5.go (Zso (s:=q.start) hC1 ⟨stk,nds,ahd,ws,Q,hbx.ext x1,hlo,h0.ext x1⟩ hI hN hD (fun w2 hb x2=>⟨_,rfl,fun _ => ?_,fun h=>absurd rfl h⟩) (fun w2 hb bel2=>⟨_,rfl,fun h=>by omega,fun _ => ⟨fun _ => ?_,fun h=>absurd rfl h⟩⟩) fun w2 ns' hb bel2 hsa2=>⟨_,rfl,fun h=>by omega,fun _ => ⟨fun h=>by omega,fun _ => bnd.drew fun w3 x3=>?_⟩⟩)
    ·have hstep : q.step .next q.start = .go .back (q.start):=by rw [Quest.step,hnone]; dsimp only; rw [hb]
     obtain ⟨m',hm',hE'⟩:=hEnd.go hstep
     have x02:=x1.trans x2
     exact NX .back q.start w2 m' hm' (x02.below' lo hCs.le) ⟨stk,nds,ahd,ws,Q,hbx.ext x02,hlo,h0.ext x02⟩ (InvL.step (l:=.next) (l':=.back) hGood hCl hI hstep) hE'
    ·have hstep : q.step .next q.start = .err 32:=by rw [Quest.step,hnone]; dsimp only; rw [hb]
     exact hErr 32 w2 (Below.trans (x1.below' lo hCs.le) bel2) (hEnd.fin hstep (fun _ _ h=>by cases h))
    ·obtain ⟨stk2,nds2,ahd2,ws2,Q2,hb2,hlo2,h2⟩:=hsa2
     have bel3 : Below lo wh w3:=Below.trans (Below.trans (x1.below' lo hCs.le) bel2) (x3.below' lo (by have:=hCs.le; have:=bel2.size; omega))
     have hal2 : ahd2.len = ((q.start.ahead ++ [q.start.ns.length]).map Int.ofNat).length:=h2.ahead.len
     have hnl2 : nds2.len = ns'.length:=h2.nodes.len
     rw [List.length_map,List.length_append,List.length_singleton] at hal2
     refine ⟨ahd2,BoxAt.at1 hb2 (k:=9) x3 rfl,nds2,BoxAt.at1 hb2 (k:=8) x3 rfl,fun heq=>?_,fun hne=>?_⟩
     ·have hstep : q.step .next q.start = .done ns' q.start.dec:=by
       rw [Quest.step,hnone]; dsimp only; rw [hb]; dsimp only
       rw [if_pos (by omega)]
      have hnsl:=(Zjv hb hI.n).2
      refine ⟨nds2,BoxAt.at1 hb2 (k:=8) x3 rfl,?_⟩
      exact hDone ns' q.start.dec nds2 w3 Q2 bel3 (h2.nodes.ext x3) (fun b hb=>(h2.q b hb).1) (by omega) (hEnd.fin hstep (fun _ _ h=>by cases h))
     ·have hstep : q.step .next q.start = .go .next { q.start with ns:=ns',ahead:=q.start.ahead ++ [q.start.ns.length],ws:=q.wants ns' (q.start.ahead.length + 1),first:=q.start.stack.length }:=by
       rw [Quest.step,hnone]; dsimp only; rw [hb]; dsimp only
       rw [if_neg (by omega)]
      obtain ⟨m',hm',hE'⟩:=hEnd.go hstep
      have hInv':=InvL.step (l:=.next) (l':=.next) hGood hCl hI hstep
      refine SE.Zbb.go (Zmh (hCs.below bel3) ⟨stk2,nds2,ahd2,ws2,Q2,hb2.ext x3,hlo2,h2.ext x3⟩ hInv'.a fun w4 bel4 hsa4=>⟨rfl,?_⟩)
      have e1 : (q.start.ahead ++ [q.start.ns.length]).length = q.start.ahead.length + 1:=by rw [List.length_append,List.length_singleton]
      refine NX .next { q.start with ns:=ns',ahead:=q.start.ahead ++ [q.start.ns.length],ws:=q.wants ns' (q.start.ahead.length + 1),first:=q.start.stack.length } w4 m' hm' (Below.trans bel3 bel4) ?_ hInv' hE'
      rw [← e1]; exact hsa4
 case pass =>
  intro n l vs d w nxt ⟨hok,lo,sp,K,lb,s,hlb,hvs,hdd,hRC2,hsa,hI,hEnd⟩ hn
  subst hvs hdd
  have hres : Zg2 L m dev pins D N = q.res:=by
   unfold Zg2
   rw [if_pos hok,hq]
  obtain ⟨stk,nds,ahd,ws,Q,hbx,hlo,h0⟩:=hsa
  have hCs:=hRC2.cs
  have hsl:=h0.stack.len
  have hwl:=h0.wants.len
  have hg:=Zrs hbx
  have hN : q.N ≤ 128:=by omega
  have hD : q.D ≤ 4096:=by omega
  have hlim : ∀ w',Below lo w w' → ldc w' (a1.add 1) [.int .i64 (q.N : Int)]:=fun w' hb=>by
   have e : (q.N : Int) = N:=by omega
   rw [e]; exact (hRC2.below hb).b1.at1 (k:=1) (Ext.refl _) rfl
  have hErr : ∀ (e : Int) w',Below lo w w' → q.res = .err e → stw w' a3 [Sl.v Sl.nil] fun vw=>∃ r : Sl,ldc vw a3 [Sl.v r] ∧ R r 0 e vw:=fun e w' hb hr=>by
   have h:=hRC2.below hb
   exact stw0.intro h.b3 (by simp) fun we be _ hbe=>⟨Sl.nil,hbe.at0 (r:=[]) (Ext.refl _) rfl,herr e we (hres.trans hr) (be.ext h.ext h.n3)⟩
  have hDone : ∀ ns t nds w' (Q2 : Nat → Prop),Below lo w w' → OwnS nodeE 65 w' lo Q2 nds ns → (∀ b,Q2 b → lo ≤ b) → ns.length ≤ 128 → q.res = .done ns t → stw w' a3 [Sl.v nds] fun vw=>∃ r : Sl,ldc vw a3 [Sl.v r] ∧ R r (t : Int) 0 vw:=fun ns t nds w' Q2 hb ho hQ hl hr=>by
   have h:=hRC2.below hb
   have hrd:=ho.read (by show ns.length * 88 ≤ room; unfold room; omega) (by omega)
   have h3:=h.l3; have hlo3:=h.wl
   refine stw0.intro h.b3 (by simp) fun we be _ hbe=>⟨nds,hbe.at0 (r:=[]) (Ext.refl _) rfl,hdone ns t nds we (hres.trans hr) (be.ext h.ext h.n3) ?_⟩
   have hs9:=be.1
   have hin : ∀ b,(Q2 b ∨ ∃ ad,nds.a = some ad ∧ b = ad.block) → lo ≤ b ∧ b < w'.heap.size:=fun b hb=>by
    rcases hb with hb | ⟨ad,had,rfl⟩
    ·exact ⟨hQ b hb,ho.lt b hb⟩
    ·exact ⟨(ho.block had).1,(ho.block had).2.1⟩
   exact (hrd.but be fun h=>by have:=hin _ h; omega).mono fun b hb=>by have:=hin b hb; omega
  have NX : ∀ (lb : Lb) (s' : St) w' m',m' < n → Below lo w w' → SrAt w' lo sp K s' → InvL q lb s' → EndN q m' lb s' q.res → nxt (lbN lb) (some sp) (s'.dec : Int) w':=fun lb s' w' m' hm hb hsa hi hE=>hn m' _ _ _ _ hm ⟨hok,lo,sp,K,lb,s',rfl,rfl,rfl,hRC2.below hb,hsa,hi,hE⟩
  cases lb with
  | next =>
   have hI : InvS q 0 s:=hI
   have hskl : s.stack.length ≤ 4096:=by have:=hI.k; have:=hI.d; omega
   have hfs:=hI.f
   have hwr : Za ((stk.len : Int) - (s.first : Int)) = ((s.stack.length - s.first : Nat) : Int):=by rw [Zb (by omega) (by omega)]; omega
   subst hlb
   refine ⟨fun _ => ?_,fun h=>absurd h (by decide),fun h=>absurd h (by decide)⟩
   refine bnd.drew fun w1 x1=>⟨sp,rfl,stk,BoxAt.at1 hbx (k:=7) x1 rfl,sp,rfl,(s.first : Int),BoxAt.at1 hbx (k:=11) x1 rfl,sp,rfl,ws,BoxAt.at1 hbx (k:=10) x1 rfl,?_⟩
   rw [hwr]
   have x1s:=x1.size
   refine ⟨fun hlt=>?_,fun hge=>?_⟩
   ·have hlt' : s.stack.length - s.first < s.ws.length:=by omega
    obtain ⟨adw,tw,hwa,_,hwN,hwR,hwc⟩:=Zoq (h0.wants) hlt'
    have hstep : q.step .next s = .go .tri { s with stack:=s.stack ++ [q.ch s.ahead.length (ctxAt s.ns s.ahead.length) s.ws[s.stack.length - s.first]] }:=by
     rw [Quest.step,List.getElem?_eq_getElem hlt']
    generalize hwt : s.ws[s.stack.length - s.first] = wt at *
    have hInv':=InvL.step (l:=.next) (l':=.tri) hGood hCl hI hstep
    refine bnd.drew fun w2 x2=>⟨sp,rfl,stk,BoxAt.at1 hbx (k:=7) (x1.trans x2) rfl,sp,rfl,ws,BoxAt.at1 hbx (k:=10) (x1.trans x2) rfl,adw,⟨hwa,by omega,by omega⟩,_,_,tw,by rw [Int.toNat_natCast]; exact hwc _ (x1.trans x2),?_⟩
    have x02:=x1.trans x2
    have hC2:=hCs.below (x02.below' lo hCs.le)
    have hs2:=x02.size
    refine callX.intro (SE.Zbv.go (Zng (s:=s) (wt:=wt) (rs:=tw) hC2 ⟨stk,nds,ahd,ws,Q,hbx.ext x02,hlo,h0.ext x02⟩ hI.a hwN (SR:=Q) (fun b hb=>by have:=h0.nodes.lt b hb; omega) (hwR.ext x02) fun v w3 x3 hv=>⟨x3,_,_,v,_,_,rfl,newS.intro fun a4 w4 x4 hb4 hab4 _ => ?_⟩))
    have x24:=x3.trans x4
    have x04:=x02.trans x24
    have hs3:=x3.size; have hs4:=x4.size
    have h4:=(h0.ext x02).grow x24 hC2.le (by omega)
    refine Sr0.pushCh (x:=q.ch s.ahead.length (ctxAt s.ns s.ahead.length) wt) h4 apCh (by have:=hC2.le; omega) (by omega) ⟨hwN,v,rfl,(hv.ext x4).mono fun b hb=>.inr ⟨by omega,by omega⟩⟩ hb4.ldc (by omega) fun r' w5 h5 bel5 ho5=>?_
    have hb5 : BoxAt w5 sp (Zef K stk nds ahd ws s.first):=(hbx.ext x04).oth ho5 fun ad had e=>h0.o1 ad had e.symm
    have hs5:=bel5.size
    refine ⟨sp,rfl,?_⟩
    refine stw.intro (o:=7) hb5 (by show 8 ≤ 12; omega) fun w6 b6 _ hb6=>?_
    have bel6 : Below lo w w6:=Below.trans (Below.trans (x04.below' lo hCs.le) bel5) (b6.below (by have:=hCs.le; omega) hlo)
    obtain ⟨m',hm',hE'⟩:=hEnd.go hstep
    exact NX .tri { s with stack:=s.stack ++ [q.ch s.ahead.length (ctxAt s.ns s.ahead.length) wt] } w6 m' hm' bel6 ⟨r',nds,ahd,ws,_,hb6,hlo,h5.but b6⟩ hInv' hE'
   ·have hnone : s.ws[s.stack.length - s.first]? = none:=List.getElem?_eq_none (by omega)
    refine ⟨(q.N : Int),hlim _ (x1.below' lo hCs.le),?_⟩
    have hC1:=hCs.below (x1.below' lo hCs.le)
    refine SE.Zb5.go (Zso (s:=s) hC1 ⟨stk,nds,ahd,ws,Q,hbx.ext x1,hlo,h0.ext x1⟩ hI hN hD (fun w2 hb x2=>⟨_,rfl,fun _ => ?_,fun h=>absurd rfl h⟩) (fun w2 hb bel2=>⟨_,rfl,fun h=>by omega,fun _ => ⟨fun _ => ?_,fun h=>absurd rfl h⟩⟩) fun w2 ns' hb bel2 hsa2=>⟨_,rfl,fun h=>by omega,fun _ => ⟨fun h=>by omega,fun _ => bnd.drew fun w3 x3=>?_⟩⟩)
    ·have hstep : q.step .next s = .go .back (s):=by rw [Quest.step,hnone]; dsimp only; rw [hb]
     obtain ⟨m',hm',hE'⟩:=hEnd.go hstep
     have x02:=x1.trans x2
     exact NX .back s w2 m' hm' (x02.below' lo hCs.le) ⟨stk,nds,ahd,ws,Q,hbx.ext x02,hlo,h0.ext x02⟩ (InvL.step (l:=.next) (l':=.back) hGood hCl hI hstep) hE'
    ·have hstep : q.step .next s = .err 32:=by rw [Quest.step,hnone]; dsimp only; rw [hb]
     exact hErr 32 w2 (Below.trans (x1.below' lo hCs.le) bel2) (hEnd.fin hstep (fun _ _ h=>by cases h))
    ·obtain ⟨stk2,nds2,ahd2,ws2,Q2,hb2,hlo2,h2⟩:=hsa2
     have bel3 : Below lo w w3:=Below.trans (Below.trans (x1.below' lo hCs.le) bel2) (x3.below' lo (by have:=hCs.le; have:=bel2.size; omega))
     have hal2 : ahd2.len = ((s.ahead ++ [s.ns.length]).map Int.ofNat).length:=h2.ahead.len
     have hnl2 : nds2.len = ns'.length:=h2.nodes.len
     rw [List.length_map,List.length_append,List.length_singleton] at hal2
     refine ⟨sp,rfl,ahd2,BoxAt.at1 hb2 (k:=9) x3 rfl,sp,rfl,nds2,BoxAt.at1 hb2 (k:=8) x3 rfl,fun heq=>?_,fun hne=>?_⟩
     ·have hstep : q.step .next s = .done ns' s.dec:=by
       rw [Quest.step,hnone]; dsimp only; rw [hb]; dsimp only
       rw [if_pos (by omega)]
      have hnsl:=(Zjv hb hI.n).2
      refine ⟨sp,rfl,nds2,BoxAt.at1 hb2 (k:=8) x3 rfl,?_⟩
      exact hDone ns' s.dec nds2 w3 Q2 bel3 (h2.nodes.ext x3) (fun b hb=>(h2.q b hb).1) (by omega) (hEnd.fin hstep (fun _ _ h=>by cases h))
     ·have hstep : q.step .next s = .go .next { s with ns:=ns',ahead:=s.ahead ++ [s.ns.length],ws:=q.wants ns' (s.ahead.length + 1),first:=s.stack.length }:=by
       rw [Quest.step,hnone]; dsimp only; rw [hb]; dsimp only
       rw [if_neg (by omega)]
      obtain ⟨m',hm',hE'⟩:=hEnd.go hstep
      have hInv':=InvL.step (l:=.next) (l':=.next) hGood hCl hI hstep
      refine SE.Zbb.go (Zmh (hCs.below bel3) ⟨stk2,nds2,ahd2,ws2,Q2,hb2.ext x3,hlo2,h2.ext x3⟩ hInv'.a fun w4 bel4 hsa4=>⟨rfl,?_⟩)
      have e1 : (s.ahead ++ [s.ns.length]).length = s.ahead.length + 1:=by rw [List.length_append,List.length_singleton]
      refine NX .next { s with ns:=ns',ahead:=s.ahead ++ [s.ns.length],ws:=q.wants ns' (s.ahead.length + 1),first:=s.stack.length } w4 m' hm' (Below.trans bel3 bel4) ?_ hInv' hE'
      rw [← e1]; exact hsa4
  | tri =>
   have hI : InvS q 1 s:=hI
   subst hlb
   refine ⟨fun h=>absurd h (by decide),fun _ => ?_,fun h=>absurd h (by decide)⟩
   have hskl : s.stack.length ≤ 4097:=by have:=hI.k; have:=hI.d; omega
   have hfs:=hI.f
   obtain ⟨c,hl⟩ : ∃ c,s.stack.getLast? = some c:=by
    cases h : s.stack.getLast? with
    | none=>rw [List.getLast?_eq_none_iff] at h; rw [h] at hfs; simp at hfs
    | some c=>exact ⟨c,rfl⟩
   obtain ⟨pre,hpre⟩ : ∃ pre,s.stack = pre ++ [c]:=List.getLast?_eq_some_iff.1 hl
   have hpl : s.stack.length = pre.length + 1:=by rw [hpre,List.length_append,List.length_singleton]
   have hx : s.stack[pre.length]? = some c:=by rw [hpre]; simp
   obtain ⟨ad,cs,hna,⟨hNx,v,rfl,hv'⟩,hcx⟩:=h0.stack.el hx
   have hw1 : Za ((stk.len : Int) - 1) = (pre.length : Int):=by rw [hsl,hpl,Zb (by omega) (by omega)]; omega
   have hvs : c.vs.length ≤ 1000:=hI.v c.vs (List.mem_map_of_mem (by rw [hpre]; simp))
   have hcap:=(h0.stack.read (by show s.stack.length * 64 ≤ room; unfold room; omega) (by omega)).2.1
   refine bnd.drew fun w1 x1=>⟨sp,rfl,stk,BoxAt.at1 hbx (k:=7) x1 rfl,sp,rfl,stk,BoxAt.at1 hbx (k:=7) x1 rfl,ad,⟨hna,by rw [hw1]; omega,by rw [hw1]; omega⟩,_,_,v,_,_,by rw [hw1,Int.toNat_natCast]; exact hcx _ x1,newS.intro fun a4 w2 x2 hb2 hab2 _ => stw0.intro hb2 (by simp) fun w3 b3 _ hb3=>bnd.drew fun w4 x4=>⟨(c.i : Int),hb3.at1 (k:=4) x4 rfl,_,_,v,_,_,hb3.at0 (r:=[]) x4 rfl,?_⟩⟩
   have x13 : Ext w1 w3:=b3.ext x2 (by omega)
   have x04:=x1.trans (x13.trans x4)
   refine callX.intro (SE.Zcr.go (Zsv (c:=c) (hv'.ext x04) hvs fun w5 x5=>⟨x5,_,rfl,fun hlt=>?_,fun hge=>?_⟩))
   ·have hlt' : c.i < c.many:=by omega
    have x05:=x04.trans x5
    have bel5:=x05.below' lo hCs.le
    refine ⟨D,(hRC2.below bel5).b1.at0 (Ext.refl _) rfl,fun heq=>?_,fun hne=>?_⟩
    ·have hstep : q.step .tri s = .err 31:=by
      rw [Quest.step,hl]; dsimp only
      rw [if_pos hlt',if_pos (by omega)]
     exact hErr 31 w5 bel5 (hEnd.fin hstep (fun _ _ h=>by cases h))
    ·have hstep : q.step .tri s = .go .next { s with dec:=s.dec + 1 }:=by
      rw [Quest.step,hl]; dsimp only
      rw [if_pos hlt',if_neg (by omega)]
     obtain ⟨m',hm',hE'⟩:=hEnd.go hstep
     have e1 : Za ((s.dec : Int) + 1) = ((s.dec + 1 : Nat) : Int):=by have:=hI.d; rw [Zb (by omega) (by omega)]; omega
     rw [e1]
     exact NX .next { s with dec:=s.dec + 1 } w5 m' hm' bel5 ⟨stk,nds,ahd,ws,Q,hbx.ext x05,hlo,⟨(h0.ext x05).1,(h0.ext x05).2,(h0.ext x05).3,(h0.ext x05).4,(h0.ext x05).5,(h0.ext x05).6,(h0.ext x05).7,(h0.ext x05).8,(h0.ext x05).9,(h0.ext x05).10,(h0.ext x05).11⟩⟩ (InvL.step (l:=.tri) (l':=.next) hGood hCl hI hstep) hE'
   ·have hge' : ¬ c.i < c.many:=by omega
    have hstep : q.step .tri s = .go .back { s with stack:=s.stack.dropLast }:=by
     rw [Quest.step,hl]; dsimp only
     rw [if_neg hge']
    obtain ⟨m',hm',hE'⟩:=hEnd.go hstep
    have hI' : InvS q 0 { s with stack:=s.stack.dropLast }:=InvL.step (l:=.tri) (l':=.back) hGood hCl hI hstep
    have hdl : s.stack.dropLast = pre:=by rw [hpre,List.dropLast_concat]
    rw [hdl] at hI' hE' hstep
    refine bnd.drew fun w6 x6=>?_
    have x06:=(x04.trans x5).trans x6
    have hs6:=x06.size
    refine ⟨sp,rfl,stk,BoxAt.at1 hbx (k:=7) x06 rfl,sp,rfl,stk,BoxAt.at1 hbx (k:=7) x06 rfl,⟨by rw [hw1]; omega,by rw [hw1]; omega⟩,sp,rfl,?_⟩
    rw [hw1,Int.toNat_natCast]
    refine stw.intro (o:=7) (hbx.ext x06) (by show 8 ≤ 12; omega) fun w7 b7 _ hb7=>?_
    have htk:=OwnS.take (E:=chE) ((h0.ext x06).but b7).stack (n:=pre.length) (by omega)
    have htk2 : s.stack.take pre.length = pre:=by rw [hpre]; simp
    rw [htk2] at htk
    have h7 : Sr0 w7 lo sp.block (Sl.cut stk 0 pre.length 5) nds ahd ws Q { s with stack:=pre }:=Sr0.setStk ((h0.ext x06).but b7) Zxw htk
    have bel7 : Below lo w w7:=(x06.below' lo hCs.le).trans (b7.below (by have:=hCs.le; omega) hlo)
    have hb7' : BoxAt w7 sp (Zef K (Sl.cut stk 0 pre.length 5) nds ahd ws s.first):=hb7
    have hcl : (Sl.cut stk 0 pre.length 5).len = pre.length:=htk.len
    refine ⟨sp,rfl,Sl.cut stk 0 pre.length 5,BoxAt.at1 hb7' (k:=7) (Ext.refl _) rfl,fun h00=>?_,fun hnz=>?_⟩
    ·have hp0 : pre = []:=List.eq_nil_of_length_eq_zero (by omega)
     have hstep2 : q.step .back { s with stack:=pre } = .err 30:=by subst hp0; rfl
     exact hErr 30 w7 bel7 (hE'.fin hstep2 (fun _ _ h=>by cases h))
    ·obtain ⟨c2,hl2⟩ : ∃ c2,pre.getLast? = some c2:=by
      cases h : pre.getLast? with
      | none=>rw [List.getLast?_eq_none_iff] at h; exact absurd (by rw [hcl,h]; rfl) hnz
      | some c=>exact ⟨c,rfl⟩
     have hstep2 : q.step .back { s with stack:=pre } = .go .tri (Zjb q { s with stack:=pre } c2.node):=by rw [Zfg]; show (match pre.getLast? with | none=>_ | some c=>_) = _; rw [hl2]
     obtain ⟨m2,hm2,hE2⟩:=hE'.go hstep2
     refine SE.Zb4.go (Zsm (s:={ s with stack:=pre }) (c:=c2) (hCs.below bel7) ⟨_,nds,ahd,ws,Q,hb7',hlo,h7⟩ hI' hl2 hN hD fun w8 bel8 hsa8=>⟨rfl,?_⟩)
     exact NX .tri (Zjb q { s with stack:=pre } c2.node) w8 m2 (by omega) (bel7.trans bel8) hsa8 (InvL.step (l:=.back) (l':=.tri) hGood hCl hI' hstep2) hE2
  | back =>
   have hI : InvS q 0 s:=hI
   subst hlb
   refine ⟨fun h=>absurd h (by decide),fun h=>absurd h (by decide),fun _ => ?_⟩
   refine ⟨sp,rfl,stk,BoxAt.at1 hbx (k:=7) (Ext.refl _) rfl,fun h00=>?_,fun hnz=>?_⟩
   ·have hp0 : s.stack = []:=List.eq_nil_of_length_eq_zero (by omega)
    have hstep2 : q.step .back s = .err 30:=by rw [Zfg,hp0]; rfl
    exact hErr 30 w (Below.refl _ _) (hEnd.fin hstep2 (fun _ _ h=>by cases h))
   ·obtain ⟨c2,hl2⟩ : ∃ c2,s.stack.getLast? = some c2:=by
     cases h : s.stack.getLast? with
     | none=>rw [List.getLast?_eq_none_iff] at h; exact absurd (by rw [hsl,h]; rfl) hnz
     | some c=>exact ⟨c,rfl⟩
    have hstep2 : q.step .back s = .go .tri (Zjb q s c2.node):=by rw [Zfg,hl2]
    obtain ⟨m2,hm2,hE2⟩:=hEnd.go hstep2
    refine SE.Zb4.go (Zsm (s:=s) (c:=c2) hCs ⟨stk,nds,ahd,ws,Q,hbx,hlo,h0⟩ hI hl2 hN hD fun w8 bel8 hsa8=>⟨rfl,?_⟩)
    exact NX .tri (Zjb q s c2.node) w8 m2 hm2 bel8 hsa8 (InvL.step (l:=.back) (l':=.tri) hGood hCl hI hstep2) hE2
end Go.Hal
namespace Go.Hal
open Go.Proofs.Tryz
open Go Go.RowKit Go.Proofs Go.Shelf
theorem Zsr {SA : Nat → Prop} {sP mD mDev mOpt mOv pS : Sl} {dv : Bool} {D N d3 d4 : Int} {lp : List Pack} {w : World} {R : Option Addr → Option Addr → World → Prop} (ht : Tab w) (hA : Old SA w) (hP : SlR packE w SA sP lp)
  (hR : ∀ p r q w',Ext w w' → Both w' w.heap.size SA p r q (Zml lp) → R (some p) (some q) w') : SE.Zbw sP mD mDev mOpt mOv dv pS D N d3 d4 w R:=by
 unfold SE.Zbw
 have hl:=hP.len
 refine newS.intro fun a w1 x1 ha _ _ => SE.Zei.go (catNew_L fun p r w2 x2 hC h1 h2=>⟨_,rfl,newS.intro fun q w3 x3 hq hqb _ => ?_⟩)
 have x03:=x1.trans (x2.trans x3)
 have s1:=x1.size; have s2:=x2.size; have s3:=x3.size
 have hcl:=hC.lt
 refine loop1.up hP.max (fun i w'=>Ext w w' ∧ BoxAt w' a [Sl.v sP,Sl.v mD,Sl.v mDev,Sl.v mOpt,Sl.v mOv,.bool dv,Sl.v pS,.int .i64 D,.int .i64 N,.int .i64 d3,.int .i64 d4] ∧ a.block < w2.heap.size ∧ Both w' w1.heap.size SA p r q (Zml (lp.take i)))
  ⟨x03,ha.ext (x2.trans x3),by have:=ha.lt; omega,⟨None',hC.ext x3,fun _ h=>h.elim,fun h=>h⟩,⟨None',⟨⟨Sl.nil,hq,SlR.nil trivial⟩,fun h=>h,fun _ h=>h.elim,GoodL.nil⟩,fun _ h=>h.elim,fun h=>h⟩,⟨h1,h2,by omega⟩,by omega,by omega⟩ fun i w4 nxt hi ⟨x4,ha4,hal,hB⟩ hn=>?_
 have hnone : (!(Option.isNone (some p : Option Addr))) = true:=rfl
 refine ⟨sP,ha4.ldc.pre rfl,bound ⟨fun h=>?_,fun h=>?_⟩⟩
 ·have hlt : i < lp.length:=by simp at h; omega
  have hlt2 : (i : Int) < (sP.len : Int):=by omega
  obtain ⟨ad,d,e,o,hsa,_,hN,hd,he,ho,hc⟩:=Zqs hP hlt
  obtain ⟨⟨S,hCa,hSlo,hSq⟩,⟨T,hRe,hTlo,hTr⟩,⟨hr1,hp1,hq1⟩,hne1,hne2⟩:=hB
  have hcl4:=hCa.lt
  have hql4 : q.block < w4.heap.size:=by obtain ⟨s,hb,_⟩:=hRe.at_; exact hb.lt
  refine ⟨sP,ha4.ldc.pre rfl,ad,⟨hsa,by omega,hlt2⟩,_,_,_,_,_,_,_,(hc _ x4).pre rfl,?_⟩
  refine SE.Zbo.go (Zqi (x:=lp[i]) (S2:=SA) (ht.ext x4) hCa hN (hA.ext x4.size) (hd.ext x4) (he.ext x4) (ho.ext x4) fun S' w5 b5 hC5 hs hs'=>⟨_,rfl,?_⟩)
  have x5 : Ext w w5:=b5.ext x4 (by omega)
  have s5:=b5.1
  have ha5:=b5.box ha4 (by omega)
  have hRe5 : RefR w5 T q (Zml (lp.take i)):=hRe.stay b5.1 fun b hb hb'=>b5.2.2.2.2 b hb (by
   rcases hb' with hb' | rfl
   ·rintro rfl; exact hTr hb'
   ·exact hne2)
  have hSq5 : ¬ S' q.block:=fun h=>by
   rcases hs' _ h with h | h
   ·exact hSq h
   ·omega
  have hCl5:=hC5.lt
  have hqA : ¬ SA q.block:=fun h=>by have:=hA _ h; omega
  refine ⟨sP,ha5.ldc.pre rfl,ad,⟨hsa,by omega,hlt2⟩,_,_,_,_,_,_,_,(hc _ x5).pre rfl,?_⟩
  refine SE.Zbt.go (Zt8 (x:=lp[i]) (S2:=SA) hRe5 hN (hA.ext x5.size) hqA (hd.ext x5) (he.ext x5) (ho.ext x5) fun w6 b6 hRe6=>⟨_,rfl,hn hlt w6 ?_⟩)
  have x6 : Ext w w6:=b6.ext x5 (by omega)
  have e1 : Zml (lp.take (i + 1)) = (Zee (Zml (lp.take i)) lp[i]).2:=by rw [List.take_succ_eq_append_getElem hlt,Zrf]
  rw [e1]
  have s6:=b6.1
  refine ⟨x6,b6.box ha5 (by omega),hal,⟨S',hC5.stay b6.1 fun b hb hb'=>b6.2.2.2.2 b hb (by
   rcases hb' with hb' | rfl | rfl
   ·rintro rfl; exact hSq5 hb'
   ·exact Ne.symm hne1
   ·exact Ne.symm hne2),fun b hb=>?_,hSq5⟩,⟨_,hRe6,fun b hb=>?_,fun hb=>?_⟩,⟨hr1,hp1,hq1⟩,hne1,hne2⟩
  ·rcases hs' b hb with h | h
   ·exact hSlo b h
   ·omega
  ·rcases hb with (hb | hb) | hb
   ·exact hTlo b hb
   ·exact .inl hb
   ·right; omega
  ·rcases hb with (hb | hb) | hb
   ·exact hTr hb
   ·have:=hA _ hb; omega
   ·omega
 ·have : i = lp.length:=by simp at h; omega
  rw [this,List.take_length] at hB
  refine hR p r q w4 x4 ?_
  obtain ⟨⟨S,hCa,hSlo,hSq⟩,⟨T,hRe,hTlo,hTr⟩,⟨hr1,hp1,hq1⟩,hne⟩:=hB
  exact ⟨⟨S,hCa,fun b hb=>by have:=hSlo b hb; omega,hSq⟩,⟨T,hRe,fun b hb=>(hTlo b hb).imp id fun h=>by omega,hTr⟩,⟨by omega,by omega,by omega⟩,hne⟩
def Stp.ns : Stp → List Node
 | .done ns _ => ns
 | _ => []
def Stp.dec : Stp → Int
 | .done _ t=>(t : Int)
 | _ => 0
def Stp.code : Stp → Int
 | .err e=>e
 | _ => 0
theorem Zqy {L : List Pack} {m : Mani} {dev : Bool} {pins : List Pin} {S SA : Nat → Prop} {cp : Addr} {rr : Nat} {mD mDev mOpt mOv pS : Sl} {D N d3 d4 : Int} {w0 : World} {R : Sl → Int → Int → World → Prop} (ht : Tab w0) (hSA : Old SA w0)
  (hcat : CatL w0 S cp rr L) (hd : SlR depE w0 SA mD m.deps) (he : SlR depE w0 SA mDev m.dev) (ho : SlR depE w0 SA mOpt m.opt) (hv : SlR depE w0 SA mOv m.over) (hp : SlR pinE w0 SA pS pins)
  (hR : ∀ nds w',Ext w0 w' → SlR nodeE w' (fun b=>w0.heap.size ≤ b ∧ b < w'.heap.size) nds (Zg2 L m dev pins D N).ns → R nds (Zg2 L m dev pins D N).dec (Zg2 L m dev pins D N).code w') :
  SE.Zbx (some cp) mD mDev mOpt mOv dev pS D N d3 d4 w0 R:=by
 have hl:=hcat.lt
 refine Zz4 ht hSA hcat hl.2.2.1 hl.1 hl.2.1 hd he ho hv hp (fun e w' hr hx=>?_) fun ns t nds w' hr hx hs=>?_
 ·have h:=hR Sl.nil w' hx
  rw [hr] at h
  exact h (SlR.nil trivial)
 ·have h:=hR nds w' hx
  rw [hr] at h
  exact h hs
theorem Zjf {w : World} {S : Nat → Prop} {s : Sl} {l : List Node} (h : SlR nodeE w S s l) {n : Nat} (hn : n < l.length) :
  ∃ ad c e,s.a = some ad ∧ Str l[n].name ∧ SlR pinE w S c l[n].ctx ∧ SlR edgeE w S e l[n].edges ∧ ∀ w',Ext w w' → ldc w' (ad.add (n * 6)) [.string l[n].name,.int .i64 l[n].v.ma,.int .i64 l[n].v.mi,.int .i64 l[n].v.pa,Sl.v c,Sl.v e]:=by
 obtain ⟨ad,cs,h1,h2,⟨h0,c,e,rfl,h5,h6⟩,h4⟩:=h.el hn
 exact ⟨ad,c,e,h1,h0,h5,h6,h4⟩
theorem Zxc {w : World} {S : Nat → Prop} {s : Sl} {l : List Edge} (h : SlR edgeE w S s l) {n : Nat} (hn : n < l.length) :
  ∃ ad,s.a = some ad ∧ ∀ w',Ext w w' → ldc w' (ad.add (n * 2)) [.string l[n].name,.int .i64 l[n].to]:=by
 obtain ⟨ad,cs,h1,h2,⟨rfl,h3⟩,h4⟩:=h.el hn
 exact ⟨ad,h1,h4⟩
theorem Ziq {α : Type} {a b : List α} {i : Nat} (h1 : i < a.length) (h2 : i < b.length) (hI : a.take i = b.take i) (he : a[i] = b[i]) : a.take (i + 1) = b.take (i + 1):=by
 rw [List.take_succ_eq_append_getElem h1,List.take_succ_eq_append_getElem h2,hI,he]
theorem Zzw {x y : Pin} : (!((bEq x.name y.name) && (((x.v.ma == y.v.ma) && ((x.v.mi == y.v.mi) && ((x.v.pa == y.v.pa) && true))) && true))) = !decide (x = y):=by
 congr 1
 rw [Bool.eq_iff_iff]
 obtain ⟨n,⟨p,q,r⟩⟩:=x
 obtain ⟨n',⟨p',q',r'⟩⟩:=y
 simp [Zck]
theorem Zzl {x y : Edge} : (!((bEq x.name y.name) && ((x.to == y.to) && true))) = !decide (x = y):=by
 congr 1
 rw [Bool.eq_iff_iff]
 obtain ⟨n,p⟩:=x
 obtain ⟨n',p'⟩:=y
 simp [Zck]
theorem Zr2 {s t : Sl} {a b : List Node} {S T : Nat → Prop} {w : World} {R : Bool → World → Prop} (hs : SlR nodeE w S s a) (ht : SlR nodeE w T t b) (hR : ∀ w',Ext w w' → R (decide (a = b)) w') : SE.Zc8 s t w R:=by
 unfold SE.Zc8
 have h1:=hs.len
 have h2:=ht.len
 have hf : ¬ a = b → ∀ w',Ext w w' → R false w':=fun hne w' hx=>by
  have h3:=hR w' hx
  rw [decide_eq_false hne] at h3; exact h3
 refine newS.intro fun p w1 x1 hp _ _ => newS.intro fun q w2 x2 hq _ _ => ⟨s,hp.at0 (r:=[]) x2 rfl,t,hq.at0 (r:=[]) (Ext.refl _) rfl,fun h=>hf (fun e=>by subst e; omega) w2 (x1.trans x2),fun h=>?_⟩
 have x02:=x1.trans x2
 have hll : a.length = b.length:=by
  have:=Classical.not_not.1 h
  omega
 refine loop1.up hs.max (fun i w'=>Ext w2 w' ∧ a.take i = b.take i) ⟨Ext.refl _,rfl⟩ fun i w3 nxt hi ⟨x3,hI⟩ hn=>⟨s,hp.at0 (r:=[]) (x2.trans x3) rfl,fun hlt=>?_,fun hge=>?_⟩
 ·have k1 : i < a.length:=by omega
  have k2 : i < b.length:=by omega
  have x03:=x02.trans x3
  obtain ⟨ad,c,e,ha,hN,hc,he,hx⟩:=Zjf hs k1
  obtain ⟨ad2,c2,e2,ha2,hN2,hc2,he2,hx2⟩:=Zjf ht k2
  have hcl:=hc.len; have hcl2:=hc2.len; have hel:=he.len; have hel2:=he2.len
  refine ⟨s,hp.at0 (r:=[]) (x2.trans x3) rfl,ad,⟨ha,by omega,hlt⟩,_,_,_,_,c,e,hx _ x03,newS.intro fun a3 w4 x4 hb4 hab4 _ => stw0.intro hb4 (by simp) fun w5 b5 _ hb5=>?_⟩
  have x35 : Ext w3 w5:=b5.ext x4 (by omega)
  have x05:=x03.trans x35
  refine ⟨t,hq.at0 (r:=[]) (x3.trans x35) rfl,ad2,⟨ha2,by omega,by omega⟩,_,_,_,_,c2,e2,hx2 _ x05,newS.intro fun a6 w6 x6 hb6 hab6 _ => stw0.intro hb6 (by simp) fun w7 b7 _ hb7=>?_⟩
  have x57 : Ext w5 w7:=b7.ext x6 (by omega)
  have x07:=x05.trans x57
  have hb5:=hb5.ext x57
  have hab : a = b → a[i] = b[i]:=fun h=>by subst h; rfl
  refine ⟨_,hb5.at0 (Ext.refl _) rfl,_,hb7.at0 (Ext.refl _) rfl,bound ⟨_,_,_,fun _ => hb5.at1 (k:=1) (Ext.refl _) rfl,_,_,_,fun _ => hb7.at1 (k:=1) (Ext.refl _) rfl,bound ⟨c,fun _ => hb5.at1 (k:=4) (Ext.refl _) rfl,c2,fun _ => hb7.at1 (k:=4) (Ext.refl _) rfl,bound ⟨e,fun _ => hb5.at1 (k:=5) (r:=[]) (Ext.refl _) rfl,e2,fun _ => hb7.at1 (k:=5) (r:=[]) (Ext.refl _) rfl,?_⟩⟩⟩⟩
  have ev : ((a[i].v.ma == b[i].v.ma) && ((a[i].v.mi == b[i].v.mi) && ((a[i].v.pa == b[i].v.pa) && true))) = decide (a[i].v = b[i].v):=verB
  rw [ev]
  refine ⟨fun hbad=>hf (fun hh=>?_) w7 x07,fun hgood=>?_⟩
  ·have h3:=hab hh
   rw [h3] at hbad hcl hel
   have h4 : (c.len : Int) = (c2.len : Int):=by omega
   have h5 : (e.len : Int) = (e2.len : Int):=by omega
   simp [h4,h5] at hbad
   exact absurd (Zck.2 rfl) (by rw [hbad]; decide)
  ·simp only [Bool.or_eq_false_iff,Bool.not_eq_false',decide_eq_true_eq,beq_iff_eq] at hgood
   obtain ⟨⟨⟨g1,g2⟩,g3⟩,g4⟩:=hgood
   have hnm:=Zck.1 g1
   have hcc : a[i].ctx.length = b[i].ctx.length:=by omega
   have hee : a[i].edges.length = b[i].edges.length:=by omega
   refine loop1.up hc.max (fun j w'=>Ext w7 w' ∧ a[i].ctx.take j = b[i].ctx.take j) ⟨Ext.refl _,rfl⟩ fun j w8 nxt2 hj ⟨x8,hJ⟩ hn2=>⟨c,hb5.at1 (k:=4) x8 rfl,fun hlt2=>?_,fun hge2=>?_⟩
   ·have j1 : j < a[i].ctx.length:=by omega
    have j2 : j < b[i].ctx.length:=by omega
    obtain ⟨ap,hap,_,_,hcp⟩:=Zg0 hc j1
    obtain ⟨aq,haq,_,_,hcq⟩:=Zg0 hc2 j2
    refine bnd.drew fun w9 x9=>⟨c,hb5.at1 (k:=4) (x8.trans x9) rfl,ap,⟨hap,by omega,by omega⟩,_,_,_,_,hcp _ (x07.trans (x8.trans x9)),c2,hb7.at1 (k:=4) (x8.trans x9) rfl,aq,⟨haq,by omega,by omega⟩,_,_,_,_,hcq _ (x07.trans (x8.trans x9)),?_⟩
    rw [Zzw]
    refine ⟨fun hbad=>hf (fun hh=>?_) w9 (x07.trans (x8.trans x9)),fun hgood=>hn2 j1 _ ⟨x8.trans x9,Ziq j1 j2 hJ (by simpa using hgood)⟩⟩
    have h3:=hab hh
    have h4 : a[i].ctx[j] = b[i].ctx[j]:=by simp only [h3]
    rw [decide_eq_true h4] at hbad; cases hbad
   ·have hjl : j = a[i].ctx.length:=by omega
    rw [hjl,List.take_length,List.take_of_length_le (by omega)] at hJ
    refine loop1.up he.max (fun j w'=>Ext w7 w' ∧ a[i].edges.take j = b[i].edges.take j) ⟨x8,rfl⟩ fun j w10 nxt3 hj ⟨x10,hK⟩ hn3=>⟨e,hb5.at1 (k:=5) (r:=[]) x10 rfl,fun hlt3=>?_,fun hge3=>?_⟩
    ·have j1 : j < a[i].edges.length:=by omega
     have j2 : j < b[i].edges.length:=by omega
     obtain ⟨ap,hap,hcp⟩:=Zxc he j1
     obtain ⟨aq,haq,hcq⟩:=Zxc he2 j2
     refine bnd.drew fun w11 x11=>⟨e,hb5.at1 (k:=5) (r:=[]) (x10.trans x11) rfl,ap,⟨hap,by omega,by omega⟩,_,_,hcp _ (x07.trans (x10.trans x11)),e2,hb7.at1 (k:=5) (r:=[]) (x10.trans x11) rfl,aq,⟨haq,by omega,by omega⟩,_,_,hcq _ (x07.trans (x10.trans x11)),?_⟩
     rw [Zzl]
     refine ⟨fun hbad=>hf (fun hh=>?_) w11 (x07.trans (x10.trans x11)),fun hgood=>hn3 j1 _ ⟨x10.trans x11,Ziq j1 j2 hK (by simpa using hgood)⟩⟩
     have h3:=hab hh
     have h4 : a[i].edges[j] = b[i].edges[j]:=by simp only [h3]
     rw [decide_eq_true h4] at hbad; cases hbad
    ·have hjl : j = a[i].edges.length:=by omega
     rw [hjl,List.take_length,List.take_of_length_le (by omega)] at hK
     refine hn k1 w10 ⟨(x3.trans x35).trans (x57.trans x10),Ziq k1 k2 hI ?_⟩
     generalize a[i] = x at *
     generalize b[i] = y at *
     obtain ⟨n1,v1,c1,e1⟩:=x
     obtain ⟨n2,v2,c2,e2⟩:=y
     simp only at hnm g2 hJ hK
     rw [hnm,g2,hJ,hK]
 ·have : i = a.length:=by omega
  subst this
  rw [List.take_length,List.take_of_length_le (by omega)] at hI
  have h3:=hR w3 (x02.trans x3)
  rw [decide_eq_true hI] at h3; exact h3
end Go.Hal
namespace Go.Hal
open Go.Proofs.Tryz
def RiseN {α : Type} (f : α → ByteArray) (l : List α) : Prop:=l.Pairwise fun a b=>bLt (f a) (f b) = true
theorem RiseN.inj {α : Type} {f : α → ByteArray} {l : List α} (h : RiseN f l) {a b : α} (ha : a ∈ l) (hb : b ∈ l) (he : f a = f b) : a = b:=by
 obtain ⟨i,hi,rfl⟩:=List.mem_iff_getElem.1 ha
 obtain ⟨j,hj,rfl⟩:=List.mem_iff_getElem.1 hb
 have hp:=List.pairwise_iff_getElem.1 h
 rcases Nat.lt_trichotomy i j with hij | rfl | hij
 ·exact absurd he (Zli (hp i j hi hj hij))
 ·rfl
 ·exact absurd he.symm (Zli (hp j i hj hi hij))
def Zi0 (g : List Node) (k : Nat) : List Edge:=match g[k]? with
 | some x=>x.edges
 | none=>[]
def Zhw (n : Nat) (out : List Nat) (e : Edge) : List Nat:=if 0 ≤ e.to ∧ e.to < (n : Int) ∧ e.to.toNat ∉ out then out ++ [e.to.toNat] else out
def Zsn (g : List Node) : Nat → Nat → List Nat → List Nat
 | 0,_,out=>out
 | f + 1,i,out=>match out[i]? with
  | none=>out
  | some k=>Zsn g f (i + 1) ((Zi0 g k).foldl (Zhw g.length) out)
def bfs (g : List Node) : List Nat:=if g = [] then [] else Zsn g (g.length + 1) 0 [0]
def Zor (g : List Node) (k j : Nat) : Prop:=∃ e ∈ Zi0 g k,e.to = (j : Int)
structure BfsI (g : List Node) (i : Nat) (out : List Nat) : Prop where
 nodup : out.Nodup
 lt : ∀ k ∈ out,k < g.length
 root : out[0]? = some 0
 from_ : ∀ k ∈ out,k = 0 ∨ ∃ p ∈ out,Zor g p k
 done : ∀ (a k : Nat),a < i → out[a]? = some k → ∀ j,j < g.length → Zor g k j → j ∈ out
theorem Zx3 {g : List Node} {p : Nat} : ∀ (es : List Edge) (out : List Nat),(∀ e ∈ es,e ∈ Zi0 g p) → p ∈ out → out.Nodup → (∀ k ∈ out,k < g.length) → (∀ k ∈ out,k = 0 ∨ ∃ p ∈ out,Zor g p k) →
  (es.foldl (Zhw g.length) out).Nodup ∧ (∀ k ∈ es.foldl (Zhw g.length) out,k < g.length) ∧ (∀ k ∈ es.foldl (Zhw g.length) out,k = 0 ∨ ∃ p ∈ es.foldl (Zhw g.length) out,Zor g p k) ∧ (∃ t,es.foldl (Zhw g.length) out = out ++ t) ∧ ∀ e ∈ es,∀ j : Nat,j < g.length → e.to = (j : Int) → j ∈ es.foldl (Zhw g.length) out
 | [],out,_,_,h1,h2,h3=>⟨h1,h2,h3,⟨[],by simp⟩,fun e h=>by cases h⟩
 | e :: es,out,hes,hp,h1,h2,h3=>by
  rw [List.foldl_cons]
  have he:=hes e (.head _)
  have key : (Zhw g.length out e).Nodup ∧ (∀ k ∈ Zhw g.length out e,k < g.length) ∧ (∀ k ∈ Zhw g.length out e,k = 0 ∨ ∃ p ∈ Zhw g.length out e,Zor g p k) ∧ (∃ t,Zhw g.length out e = out ++ t) ∧ ∀ j : Nat,j < g.length → e.to = (j : Int) → j ∈ Zhw g.length out e:=by
   unfold Zhw
   split
   ·rename_i h
    obtain ⟨q1,q2,q3⟩:=h
    refine ⟨?_,fun k hk=>?_,fun k hk=>?_,⟨_,rfl⟩,fun j hj hej=>?_⟩
    ·rw [List.nodup_append]
     refine ⟨h1,by simp,fun a ha b hb=>?_⟩
     simp only [List.mem_singleton] at hb
     subst hb
     rintro rfl; exact q3 ha
    ·rcases List.mem_append.1 hk with hk | hk
     ·exact h2 k hk
     ·simp only [List.mem_singleton] at hk; subst hk; omega
    ·rcases List.mem_append.1 hk with hk | hk
     ·rcases h3 k hk with h | ⟨p',hp',hl⟩
      ·exact .inl h
      ·exact .inr ⟨p',List.mem_append_left _ hp',hl⟩
     ·simp only [List.mem_singleton] at hk
      subst hk
      exact .inr ⟨p,List.mem_append_left _ hp,e,he,by omega⟩
    ·rw [hej]; simp
   ·rename_i h
    refine ⟨h1,h2,h3,⟨[],by simp⟩,fun j hj hej=>?_⟩
    apply Classical.byContradiction
    intro hno
    exact h ⟨by omega,by omega,by rw [hej]; simpa using hno⟩
  obtain ⟨k1,k2,k3,⟨t,k4⟩,k5⟩:=key
  obtain ⟨r1,r2,r3,⟨t',r4⟩,r5⟩:=Zx3 es (Zhw g.length out e) (fun e' h=>hes e' (.tail _ h)) (by rw [k4]; exact List.mem_append_left _ hp) k1 k2 k3
  refine ⟨r1,r2,r3,⟨t ++ t',by rw [r4,k4,List.append_assoc]⟩,fun e' he' j hj hej=>?_⟩
  rcases List.mem_cons.1 he' with rfl | he'
  ·rw [r4]; exact List.mem_append_left _ (k5 j hj hej)
  ·exact r5 e' he' j hj hej
theorem BfsI.next {g : List Node} {i k : Nat} {out : List Nat} (h : BfsI g i out) (hk : out[i]? = some k) : BfsI g (i + 1) ((Zi0 g k).foldl (Zhw g.length) out):=by
 obtain ⟨r1,r2,r3,⟨t,r4⟩,r5⟩:=Zx3 (g:=g) (p:=k) (Zi0 g k) out (fun _ h=>h) (List.mem_of_getElem? hk) h.nodup h.lt h.from_
 have hil:=(List.getElem?_eq_some_iff.1 hk).1
 refine ⟨r1,r2,?_,r3,fun a k' ha hk' j hj hl=>?_⟩
 ·rw [r4,List.getElem?_append_left (by have:=(List.getElem?_eq_some_iff.1 h.root).1; omega)]; exact h.root
 ·rw [r4,List.getElem?_append_left (by omega)] at hk'
  rcases Nat.lt_succ_iff_lt_or_eq.1 ha with ha | rfl
  ·rw [r4]; exact List.mem_append_left _ (h.done a k' ha hk' j hj hl)
  ·rw [hk] at hk'
   cases hk'
   obtain ⟨e,he,hto⟩:=hl
   exact r5 e he j hj hto
theorem BfsI.len {g : List Node} {i : Nat} {out : List Nat} (h : BfsI g i out) : out.length ≤ g.length:=by
 have:=Zjy (m:=List.range g.length) h.nodup fun k hk=>List.mem_range.2 (h.lt k hk)
 simpa using this
theorem Zqd {g : List Node} : ∀ (f i : Nat) (out : List Nat),BfsI g i out → i ≤ out.length → g.length < f + i → ∃ n,(Zsn g f i out).length ≤ n ∧ BfsI g n (Zsn g f i out)
 | 0,i,out,h,hi,hf=>by have:=h.len; omega
 | f + 1,i,out,h,hi,hf=>by
  unfold Zsn
  cases hk : out[i]? with
  | none=>exact ⟨i,List.getElem?_eq_none_iff.1 hk,h⟩
  | some k =>
   obtain ⟨_,_,_,⟨t,r4⟩,_⟩:=Zx3 (g:=g) (p:=k) (Zi0 g k) out (fun _ h=>h) (List.mem_of_getElem? hk) h.nodup h.lt h.from_
   have hil:=(List.getElem?_eq_some_iff.1 hk).1
   exact Zqd f (i + 1) _ (h.next hk) (by rw [r4,List.length_append]; omega) (by omega)
theorem BfsI.start {g : List Node} (hg : g ≠ []) : BfsI g 0 [0]:=by
 have : 0 < g.length:=List.length_pos_iff.2 hg
 exact ⟨by simp,fun k hk=>by simp at hk; omega,rfl,fun k hk=>.inl (by simpa using hk),fun a k ha=>by omega⟩
theorem Zzc {g : List Node} (hg : g ≠ []) : (bfs g).Nodup ∧ (∀ k ∈ bfs g,k < g.length) ∧ 0 ∈ bfs g ∧ (∀ k ∈ bfs g,k = 0 ∨ ∃ p ∈ bfs g,Zor g p k) ∧ ∀ k ∈ bfs g,∀ j,j < g.length → Zor g k j → j ∈ bfs g:=by
 unfold bfs
 rw [if_neg hg]
 obtain ⟨n,hn,h⟩:=Zqd (g.length + 1) 0 [0] (BfsI.start hg) (by simp) (by omega)
 refine ⟨h.nodup,h.lt,List.mem_of_getElem? h.root,h.from_,fun k hk j hj hl=>?_⟩
 obtain ⟨a,ha,he⟩:=List.mem_iff_getElem.1 hk
 exact h.done a k (by omega) (by rw [List.getElem?_eq_getElem ha,he]) j hj hl
def Zzt (g : List Node) (k : NKey) : Option Nat:=g.findIdx? fun y=>decide (y.key = k)
structure NodeOk (g : List Node) (i : Nat) (x : Node) : Prop where
 ctx : Rises x.ctx
 find : i ≠ 0 → Zzt g x.key = some i
 rise : RiseN Edge.name x.edges
 to : ∀ e ∈ x.edges,∃ (j : Nat) (y : Node),e.to = (j : Int) ∧ 1 ≤ j ∧ g[j]? = some y ∧ y.name = e.name
structure Formed (g : List Node) : Prop where
 len : 1 ≤ g.length ∧ g.length ≤ 128
 root : ∃ x,g[0]? = some x ∧ x.key = rootNode.key
 nodes : ∀ i x,g[i]? = some x → NodeOk g i x
 reach : (bfs g).length = g.length
def Zs5 (g : List Node) (x : Node) (n : ByteArray) : Option Node:=(x.edges.find? fun e=>decide (e.name = n)).bind fun e=>g[e.to.toNat]?
def Zx0 (g : List Node) (x : Node) : List Pin:=x.edges.filterMap fun e=>(g[e.to.toNat]?).map fun y=>⟨e.name,y.v⟩
def Zxz : List Pin → List Pin → Option (List Pin)
 | out,[]=>some out
 | out,x :: r=>match out.find? (isN x.name) with
  | none=>Zxz (out ++ [x]) r
  | some y=>if y = x then Zxz out r else none
def Z0k (g : List Node) (x : Node) : Option (List Pin):=(Zxz x.ctx (Zx0 g x)).map Zal
structure SoundAt (L : List Pack) (over : List Dep) (g : List Node) (ws : List Want) (x : Node) : Prop where
 own : ∀ w ∈ ws,(Zs5 g x w.name = none → w.kind ≠ 1) ∧ ∀ y,Zs5 g x w.name = some y → Z3 w.range y.v = true
 ctx : ∀ p ∈ x.ctx,∃ y,Zs5 g x p.name = some y ∧ y.v = p.v
 env : ∃ env,Z0k g x = some env ∧ ∀ e ∈ x.edges,(e.name ∈ ws.map Want.name ∨ e.name ∈ x.ctx.map Pin.name) ∧ ∃ y,g[e.to.toNat]? = some y ∧ Zc4 L over env ⟨y.name,y.v⟩ = some y.ctx
structure Sol (q : Quest) (g : List Node) : Prop where
 formed : Formed g
 there : ∀ i x,g[i]? = some x → i ≠ 0 → (getL q.L x.name x.v).isSome = true
 nodes : ∀ i x,g[i]? = some x → SoundAt q.L q.m.over g (q.wants g i) x
open Classical in
noncomputable def Z0j (q : Quest) (g : List Node) : Int:=if Zcf q.m = true then (if Sol q g then 0 else 33) else 1
end Go.Hal
namespace Go.Hal
open Go.Proofs.Tryz
def npin (x : Node) : Pin:=⟨x.name,x.v⟩
def cPin (a b : Pin) : Int:=or2 (cmpS a.name b.name) (a.v.cmp b.v)
def Zos {α : Type} (c : α → α → Int) (l : List α) : Prop:=l.Pairwise fun a b=>c a b < 0
structure AtC {α : Type} (c : α → α → Int) (l : List α) (x : α) (i : Nat) : Prop where
 le : i ≤ l.length
 lo : ∀ k (h : k < l.length),k < i → c l[k] x < 0
 hi : ∀ h : i < l.length,¬ c l[i] x < 0
def Z0f (g : List Node) (l : List Pin) : Prop:=Zos cPin l ∧ ∀ y,y ∈ l ↔ y ∈ (g.drop 1).map npin
theorem Zxt {a b : Int} : cmpI a b < 0 ↔ a < b:=by
 rcases cmpI_cases a b with ⟨h1,h2⟩ | ⟨h1,h2⟩ | ⟨h1,h2⟩ <;> rw [h1] <;> omega
def ReachAre (g : List Node) (l : List Int) : Prop:=Zos cmpI l ∧ ∀ y,y ∈ l ↔ ∃ k ∈ bfs g,y = (k : Int)
theorem ReachAre.filter (g : List Node) : ReachAre g (((List.range g.length).filter fun k=>decide (k ∈ bfs g)).map fun k : Nat=>(k : Int)):=by
 refine ⟨?_,fun y=>?_⟩
 ·unfold Zos
  rw [List.pairwise_map]
  refine (List.Pairwise.filter _ (List.pairwise_lt_range (n:=g.length))).imp fun {a b} h=>?_
  rw [Zxt]; omega
 ·simp only [List.mem_map,List.mem_filter,List.mem_range,decide_eq_true_eq]
  constructor
  ·rintro ⟨k,⟨_,h⟩,rfl⟩; exact ⟨k,h,rfl⟩
  ·rintro ⟨k,h,rfl⟩
   refine ⟨k,⟨?_,h⟩,rfl⟩
   by_cases hg : g = []
   ·unfold bfs at h; rw [if_pos hg] at h; cases h
   ·exact (Zzc hg).2.1 k h
end Go.Hal
namespace Go.Hal
open Go.Proofs.Tryz
open Go Go.RowKit Go.Proofs Go.Shelf
theorem newS.set {w : World} {zs cs : List Value} {t : TypeId} {k : Addr → World → Prop} (hl : cs.length = zs.length) (h : ∀ a w',Ext w w' → BoxAt w' a cs → a.block = w.heap.size → k a w') : newS w zs t fun a w1=>stw w1 a cs fun w2=>k a w2 :=
 newS.intro fun a w1 x1 ha hab hsz=>stw0.intro ha (by omega) fun w2 b2 hz ha2=>h a w2 (b2.ext x1 (by omega)) (by rw [hl,List.drop_length,List.append_nil] at ha2; exact ha2) hab
theorem loop1.from1 {w : World} {body : Int → World → (Int → World → Prop) → Prop} {N : Nat} (hN : N ≤ maxLen) (I : Nat → World → Prop) (h0 : I 1 w)
  (hs : ∀ (n : Nat) w' (nxt : Int → World → Prop),1 ≤ n → (n ≤ N ∨ n = 1) → I n w' → (n < N → ∀ w'',I (n + 1) w'' → nxt (Za ((n : Int) + 1)) w'') → body n w' nxt) : loop1 1 w body :=
 loop1.ghost (fun m i w'=>∃ n : Nat,i = (n : Int) ∧ 1 ≤ n ∧ (n ≤ N ∨ n = 1) ∧ m = N - n ∧ I n w') (N - 1) ⟨1,rfl,Nat.le_refl _,.inr rfl,rfl,h0⟩ fun m i w' nxt ⟨n,hi,h1,h2,hm,hI⟩ hn=>by
  subst hi
  refine hs n w' nxt h1 h2 hI fun hlt w'' hI'=>?_
  refine hn (N - (n + 1)) _ w'' (by omega) ⟨n + 1,?_,by omega,.inl hlt,rfl,hI'⟩
  rw [Zd] at hN
  rw [Zb (by omega) (by omega)]; omega
def ToOk (g : List Node) (x : Node) : Prop:=∀ e ∈ x.edges,0 ≤ e.to ∧ e.to < (g.length : Int)
def keyI (g : List Node) (k : NKey) : Int:=match Zzt g k with
 | some i=>i
 | none=>-1
end Go.Hal
namespace Go.Hal
open Go.Proofs.Tryz
open Go Go.RowKit Go.Proofs Go.Shelf
end Go.Hal
namespace Go.Hal
open Go.Proofs.Tryz
open Go Go.RowKit
structure Rest (S : Nat → Prop) (w w' : World) : Prop where
 size : w.heap.size ≤ w'.heap.size
 out : w'.os = w.os ∧ w'.tape = w.tape ∧ w'.output = w.output
 same : ∀ b,b < w.heap.size → ¬ S b → w'.heap[b]? = w.heap[b]?
section
variable {S T : Nat → Prop} {w w' w2 : World}
end
end Go.Hal
namespace Go.Hal
open Go.Proofs.Tryz
open Go Go.RowKit Go.Proofs Go.Shelf
def Alike (v v' : Value) : Prop:=v' = v ∨ (∃ s s',v = .string s ∧ v' = .string s') ∨ ∃ n n',v = .int .i64 n ∧ v' = .int .i64 n'
theorem Alike.sl {s : Sl} {v : Value} (h : Alike s.v v) : v = s.v:=by
 rcases h with h | ⟨_,_,h,_⟩ | ⟨_,_,h,_⟩
 ·exact h
 ·cases h
 ·cases h
theorem Alike.int {n : Int} {v : Value} (h : Alike (.int .i64 n) v) (m : Int) : Alike v (.int .i64 m):=by
 rcases h with rfl | ⟨_,_,h,_⟩ | ⟨_,n',_,rfl⟩
 ·exact .inr (.inr ⟨_,_,rfl,rfl⟩)
 ·cases h
 ·exact .inr (.inr ⟨_,_,rfl,rfl⟩)
structure Wrote (S : Nat → Prop) (w w' : World) : Prop where
 rest : Rest S w w'
 alike : ∀ (b : Nat) (cur : Array Value) (t : TypeId),w.heap[b]? = some (.cells cur t (0,0)) → ∃ (cur' : Array Value) (t' : TypeId),w'.heap[b]? = some (.cells cur' t' (0,0)) ∧ cur'.size = cur.size ∧ ∀ (j : Nat) v,cur[j]? = some v → ∃ v',cur'[j]? = some v' ∧ Alike v v'
theorem SlP.now {α : Type} {E : Enc α} {S : Nat → Prop} {w : World} {s : Sl} {l : List α} (h : SlP E w S s l) {i : Nat} (hi : i < l.length) :
  ∃ (g : Nat) (cs : List Value),s.a = some ⟨g,0,none⟩ ∧ S g ∧ E.rep w S l[i] cs ∧ ∀ w',Wrote S w w' → ∃ (cur : Array Value) (t : TypeId),w'.heap[g]? = some (.cells cur t (0,0)) ∧ i * E.n + E.n ≤ cur.size ∧ ∀ (j : Nat) v,cs[j]? = some v → ∃ v',cur[i * E.n + j]? = some v' ∧ Alike v v':=by
 rcases h.2 with h0 | ⟨g,cur,t,ha,hS,hg,hsz⟩
 ·subst h0; simp at hi
 obtain ⟨ad,cs,h1,h2,h3,h4⟩:=h.1.get (List.getElem?_eq_getElem hi)
 rw [ha,Option.some.injEq] at h1
 subst h1
 refine ⟨g,cs,ha,hS,h3,fun w' hw=>?_⟩
 obtain ⟨cur',t',hg',hs',hal⟩:=hw.alike g cur t hg
 refine ⟨cur',t',hg',?_,fun j v hj=>hal _ v ?_⟩
 ·rw [hs']
  have : (i + 1) * E.n ≤ l.length * E.n:=Nat.mul_le_mul_right _ hi
  rw [Nat.add_mul] at this; omega
 ·have hc:=h4 j v hj
  have e : ((⟨g,0,none⟩ : Addr).add (i * E.n)).add j = ⟨g,i * E.n + j,none⟩:=by
   rw [Zfs]; unfold Addr.add; split <;> simp_all
  rw [e] at hc
  simpa [World.cell?,hg] using hc
end Go.Hal
namespace Go.Hal
open Go.Proofs.Tryz
open Go Go.RowKit Go.Proofs Go.Shelf
end Go.Hal
namespace Go.Hal
open Go.Proofs.Tryz
open Go Go.RowKit Go.Proofs Go.Shelf
theorem Zi9 {L : List Pack} (n : ByteArray) : (Zdl n L).length ≤ L.length:=by
 unfold Zdl
 rw [List.length_map]
 exact List.length_filter_le _ _
theorem r08Versions_se {n : ByteArray} {S : Nat → Prop} {q : Addr} {L : List Pack} {w : World} {R : Sl → World → Prop} (hC : RefR w S q L)
  (hR : ∀ t w',Ext w w' → SlR verE w' (fun b=>w.heap.size ≤ b ∧ b < w'.heap.size) t (Zdl n L) → R t w') : SE.Zaq (some q) n w R:=by
 unfold SE.Zaq
 obtain ⟨s,hb,hs⟩:=hC.at_
 have hl:=hs.len
 have hLl:=hC.good.le
 refine loop2.up hs.max (fun out i w'=>Ext w w' ∧ OwnS verE 46 w' w.heap.size None' out (Zdl n (L.take i))) ⟨Ext.refl _,OwnS.zero _⟩ fun out i w1 nxt hi ⟨x1,own⟩ hn=>?_
 have hb1:=hb.ext x1
 refine ⟨q,rfl,s,hb1.ldc.pre (r:=[]) rfl,fun hlt=>?_,fun hge=>?_⟩
 ·have hlt' : i < L.length:=by omega
  obtain ⟨ad,d,e,o,hsa,_,hN,_,_,_,hc⟩:=Zqs hs hlt'
  have hstep : Zdl n (L.take (i + 1)) = Zdl n (L.take i) ++ (if L[i].name = n then [L[i].v] else []):=by
   unfold Zdl
   rw [List.take_succ_eq_append_getElem hlt',List.filter_append,List.map_append,List.filter_cons]
   by_cases h : L[i].name = n <;> simp [hasN,h]
  refine join.named fun J hJ=>⟨q,rfl,s,hb1.ldc.pre (r:=[]) rfl,ad,⟨hsa,by omega,hlt⟩,L[i].name,(hc _ x1).pre rfl,fun h=>?_,fun h=>?_⟩
  ·refine ⟨q,rfl,s,hb1.ldc.pre (r:=[]) rfl,ad,⟨hsa,by omega,hlt⟩,_,_,_,(hc _ x1).mid (k:=1) rfl,newS.intro fun a w2 x2 hb2 ha2 _ => ?_⟩
   have s1:=x1.size
   have hvl : (Zdl n (L.take i)).length ≤ 128:=Nat.le_trans (Zi9 n) (by rw [List.length_take]; omega)
   refine (own.ext x2).push Zrd (x1.trans x2).size (x:=L[i].v) (S':=None') (cs:=L[i].v.c) ⟨rfl,trivial⟩ (hb2.ldc.pre (r:=[]) rfl) (fun _ h=>h.elim) (fun _ _ h=>h.elim) (by have e : verE.bytes = 24:=rfl; rw [e]; unfold room; omega) (by rw [Zd]; omega) fun r w3 own3 bel _ _ => ?_
   subst hJ
   refine hn hlt' _ _ ⟨(x1.trans x2).trans' bel,?_⟩
   rw [hstep,if_pos h]
   exact own3.flat fun h=>h
  ·subst hJ
   refine hn hlt' _ _ ⟨x1,?_⟩
   rw [hstep,if_neg h,List.append_nil]; exact own
 ·have : i = L.length:=by omega
  rw [this,List.take_length] at own
  have hvl : (Zdl n L).length ≤ 128:=Nat.le_trans (Zi9 n) hLl
  refine hR _ _ x1 ((own.read (by have e : verE.bytes = 24:=rfl; rw [e]; unfold room; omega) (by rw [Zd]; omega)).mono fun b hb=>?_)
  rcases hb with hb | ⟨ad,ha,rfl⟩
  ·exact hb.elim
  ·have:=own.block ha; exact ⟨this.1,this.2.1⟩
end Go.Hal
namespace Go.Hal
open Go.Proofs.Tryz
open Go Go.RowKit Go.Proofs Go.Shelf
def fulP (name : ByteArray) (n : Int) (k : Nat) : Pack:=⟨name,verAt (n + k),[],[],[]⟩
def fulL (name : ByteArray) (n : Int) : Nat → List Pack
 | 0=>[]
 | k + 1=>(Zee (fulL name n k) (fulP name n k)).2
def Z0i (name : ByteArray) (v : Ver) : List Value:=[.string name,.int .i64 v.ma,.int .i64 v.mi,.int .i64 v.pa,Sl.nil.v,Sl.nil.v,Sl.nil.v]
structure FulI (w0 w : World) (a p : Addr) (r : Nat) (name : ByteArray) (L : List Pack) : Prop where
 ext : Ext w0 w
 cat : ∃ S,CatL w S p r L ∧ ¬ S a.block
 box : ∃ v,BoxAt w a (Z0i name v)
end Go.Hal
namespace Go.Hal
open Go.Proofs.Tryz
open Go Go.RowKit Go.Proofs Go.Shelf
def Z04 (b : Bool) : List Value:=[.bool b]
end Go.Hal
namespace Go.Hal
open Go.Proofs.Tryz
open Go Go.RowKit Go.Proofs Go.Shelf
theorem loop3.up {α β : Type} {a : α} {b : β} {w : World} {body : α → β → Int → World → (α → β → Int → World → Prop) → Prop} {N : Nat} (hN : N ≤ maxLen) (I : α → β → Nat → World → Prop) (h0 : I a b 0 w)
  (hs : ∀ (a : α) (b : β) (n : Nat) w' (nxt : α → β → Int → World → Prop),n ≤ N → I a b n w' → (n < N → ∀ a' b' w'',I a' b' (n + 1) w'' → nxt a' b' (Za ((n : Int) + 1)) w'') → body a b n w' nxt) : loop3 a b 0 w body :=
 ⟨fun a b i w'=>∃ n : Nat,i = n ∧ n ≤ N ∧ I a b n w',fun _ _ i _ => N - i.toNat,⟨0,rfl,Nat.zero_le _,h0⟩,fun a b i w' ⟨n,hi,hn,hI⟩=>by
  subst hi
  refine hs a b n w' _ hn hI fun hlt a' b' w'' h=>?_
  rw [Zeq (n:=N) (by omega) (by omega) hN]
  exact ⟨⟨n + 1,by omega,by omega,h⟩,by show N - ((n : Int) + 1).toNat < N - (n : Int).toNat; omega⟩⟩
theorem Zoa {s : Sl} {l : List Pin} {n : ByteArray} {v : Ver} {S : Nat → Prop} {w : World} {R : Bool → World → Prop} (hs : SlR pinE w S s l) (hR : ∀ w',Ext w w' → R (pinB l n v) w') : SE.Zcn s n v.ma v.mi v.pa w R:=by
 unfold SE.Zcn
 have hl:=hs.len
 refine newS.intro fun a w1 x1 ha _ _ => loop1.up hs.max (fun i w'=>Ext w1 w' ∧ pinB (l.take i) n v = false) ⟨Ext.refl _,rfl⟩ fun i w2 nxt hi ⟨x2,hI⟩ hn=>⟨fun hlt=>bnd.drew fun w3 x3=>?_,fun hge=>?_⟩
 ·have hlt' : i < l.length:=by omega
  have x13:=x2.trans x3
  obtain ⟨ad,hsa,_,_,hc⟩:=Zg0 hs hlt'
  have hc3:=hc _ (x1.trans x13)
  refine ⟨ad,⟨hsa,by omega,hlt⟩,_,hc3.pre rfl,bound ⟨ad,fun _ => ⟨hsa,by omega,hlt⟩,_,_,_,fun _ => hc3.mid (k:=1) rfl,_,_,_,fun _ => BoxAt.at0 ha x13 rfl,?_⟩⟩
  have e : (bEq l[i].name n && ((l[i].v.ma == v.ma) && ((l[i].v.mi == v.mi) && ((l[i].v.pa == v.pa) && true)))) = decide (l[i] = ⟨n,v⟩):=by
   rw [← Zxg l[i] ⟨n,v⟩]; simp only [Bool.and_true]
  rw [e]
  have hstep : pinB (l.take (i + 1)) n v = (pinB (l.take i) n v || decide (l[i] = ⟨n,v⟩)):=by
   rw [List.take_succ_eq_append_getElem hlt']
   unfold pinB
   rw [Bool.eq_iff_iff]
   simp only [List.mem_append,List.mem_singleton,Bool.or_eq_true,decide_eq_true_eq]
   exact or_congr Iff.rfl ⟨Eq.symm,Eq.symm⟩
  refine ⟨fun h=>?_,fun h=>hn hlt' _ ⟨x13,by rw [hstep,hI,h]; rfl⟩⟩
  have : pinB l n v = true:=by
   unfold pinB
   rw [decide_eq_true_eq] at h ⊢
   rw [← h]; exact List.getElem_mem hlt'
  rw [← this]; exact hR _ (x1.trans x13)
 ·have : i = l.length:=by omega
  rw [this,List.take_length] at hI
  rw [← hI]; exact hR _ (x1.trans x2)
theorem Zpv {n : ByteArray} {l pins : Sl} {ll : List Span} {lp : List Pin} {S S1 S2 : Nat → Prop} {q : Addr} {L : List Pack} {w : World} {R : Sl → World → Prop} (hC : RefR w S q L) (hl : SlR spanE w S1 l ll) (hp : SlR pinE w S2 pins lp)
  (hR : ∀ t w',Ext w w' → SlR verE w' (fun b=>w.heap.size ≤ b ∧ b < w'.heap.size) t (Zib L n ll lp) → R t w') : SE.Zag (some q) n l pins w R:=by
 unfold SE.Zag
 refine SE.Zaq.go (r08Versions_se hC fun t w1 x1 hT=>⟨_,rfl,?_⟩)
 have hLl:=hC.good.le
 have hvl : (Zdl n L).length ≤ 128:=Nat.le_trans (Zi9 n) hLl
 have htl:=hT.len
 have eb : verE.bytes = 24:=rfl
 have hcand : Zib L n ll lp = ((Zdl n L).filter (Z3 ll)).filter (pinB lp n) ++ ((Zdl n L).filter (Z3 ll)).filter fun v=>!pinB lp n v:=rfl
 generalize hV : Zdl n L = V at *
 have hb1 : ∀ i,(((V.take i).filter (Z3 ll)).filter (pinB lp n)).length ≤ 128:=fun i=>by
  have a:=List.length_filter_le (pinB lp n) ((V.take i).filter (Z3 ll)); have b:=List.length_filter_le (Z3 ll) (V.take i); have c:=List.length_take_le' i V; omega
 have hb2 : ∀ i,(((V.take i).filter (Z3 ll)).filter fun v=>!pinB lp n v).length ≤ 128:=fun i=>by
  have a:=List.length_filter_le (fun v=>!pinB lp n v) ((V.take i).filter (Z3 ll)); have b:=List.length_filter_le (Z3 ll) (V.take i); have c:=List.length_take_le' i V; omega
 refine loop3.up (N:=V.length) (by rw [Zd]; omega) (fun fi ot i w'=>Ext w1 w' ∧ OwnS verE 46 w' w1.heap.size None' fi (((V.take i).filter (Z3 ll)).filter (pinB lp n)) ∧ OwnS verE 46 w' w1.heap.size None' ot (((V.take i).filter (Z3 ll)).filter fun v=>!pinB lp n v) ∧ Apart fi ot)
  ⟨Ext.refl _,OwnS.nil _ _,OwnS.nil _ _,fun _ _ h=>by cases h⟩ fun fi ot i w2 nxt hi ⟨x2,o1,o2,hA⟩ hn=>⟨fun hlt=>?_,fun hge=>?_⟩
 ·have hlt' : i < V.length:=by omega
  have x02:=x1.trans x2
  obtain ⟨ad,hta,_,_,hc⟩:=Z0d hT hlt'
  have hs1 : ((V.take (i + 1)).filter (Z3 ll)).filter (pinB lp n) = ((V.take i).filter (Z3 ll)).filter (pinB lp n) ++ (if Z3 ll V[i] && pinB lp n V[i] then [V[i]] else []):=by
   rw [List.take_succ_eq_append_getElem hlt',List.filter_append,List.filter_append,List.filter_cons]
   cases h1 : Z3 ll V[i] <;> cases h2 : pinB lp n V[i] <;> simp [h2]
  have hs2 : (((V.take (i + 1)).filter (Z3 ll)).filter fun v=>!pinB lp n v) = (((V.take i).filter (Z3 ll)).filter fun v=>!pinB lp n v) ++ (if Z3 ll V[i] && !pinB lp n V[i] then [V[i]] else []):=by
   rw [List.take_succ_eq_append_getElem hlt',List.filter_append,List.filter_append,List.filter_cons]
   cases h1 : Z3 ll V[i] <;> cases h2 : pinB lp n V[i] <;> simp [h2]
  have g1:=hb1 i; have g2:=hb2 i
  refine join.named fun J hJ=>⟨ad,⟨hta,by omega,hlt⟩,_,_,_,hc _ x2,SE.Zcm.go (Zm3 (v:=V[i]) (hl.ext x02) fun w3 x3=>⟨_,rfl,fun h=>?_,fun h=>?_⟩)⟩
  ·have h : Z3 ll V[i] = false:=by simpa using h
   subst hJ
   refine hn hlt' _ _ _ ⟨x2.trans x3,?_,?_,hA⟩
   ·rw [hs1,h]; simpa using o1.ext x3
   ·rw [hs2,h]; simpa using o2.ext x3
  ·have h : Z3 ll V[i] = true:=by simpa using h
   have x23:=x2.trans x3
   refine ⟨ad,⟨hta,by omega,hlt⟩,_,_,_,hc _ x23,SE.Zcn.go (Zoa (v:=V[i]) (hp.ext (x02.trans x3)) fun w4 x4=>⟨_,rfl,fun hp'=>?_,fun hp'=>?_⟩)⟩
   ·have x24:=x23.trans x4
    refine ⟨ad,⟨hta,by omega,hlt⟩,_,_,_,hc _ x24,newS.intro fun a w5 x5 hb5 _ _ => ?_⟩
    have x25:=x3.trans (x4.trans x5)
    refine OwnS.pushA (x:=V[i]) (cs:=V[i].c) (o1.ext x25) (o2.ext x25) hA (x2.trans x25).size Zrd ⟨rfl,trivial⟩ (hb5.ldc.pre (r:=[]) rfl) (by rw [eb]; unfold room; omega) (by rw [Zd]; omega) fun r w6 p1 p2 pA bel _ _ => ?_
    subst hJ
    refine hn hlt' _ _ _ ⟨(x2.trans x25).trans' bel,?_,?_,pA⟩
    ·rw [hs1,h,hp']; exact p1
    ·rw [hs2,h,hp']; simpa using p2
   ·have x24:=x23.trans x4
    refine ⟨ad,⟨hta,by omega,hlt⟩,_,_,_,hc _ x24,newS.intro fun a w5 x5 hb5 _ _ => ?_⟩
    have x25:=x3.trans (x4.trans x5)
    refine OwnS.pushA (x:=V[i]) (cs:=V[i].c) (o2.ext x25) (o1.ext x25) hA.swap (x2.trans x25).size Zrd ⟨rfl,trivial⟩ (hb5.ldc.pre (r:=[]) rfl) (by rw [eb]; unfold room; omega) (by rw [Zd]; omega) fun r w6 p2 p1 pA bel _ _ => ?_
    subst hJ
    refine hn hlt' _ _ _ ⟨(x2.trans x25).trans' bel,?_,?_,pA.swap⟩
    ·rw [hs1,h,hp']; simpa using p1
    ·rw [hs2,h,hp']; exact p2
 ·have : i = V.length:=by omega
  rw [this,List.take_length] at o1 o2
  have g1:=hb1 V.length; have g2:=hb2 V.length
  rw [List.take_length] at g1 g2
  have hr2:=o2.read (by rw [eb]; unfold room; omega) (by rw [Zd]; omega)
  have x02:=x1.trans x2
  refine o1.appAll (S':=fun b=>∃ ad,ot.a = some ad ∧ b = ad.block) Zrd x2.size (hr2.mono fun b hb=>hb.elim (fun h=>h.elim) id) (fun b ⟨ad,h1,h2⟩=>by have:=(o2.block h1).2.1; omega) (fun ad h1 ⟨ad2,h2,h3⟩=>hA _ _ h1 h2 h3) (by rw [eb]; unfold room; omega) (by rw [Zd]; omega) fun r w3 o3 bel _ _ => ?_
  have o4:=o3.flat fun h=>h
  rw [← hcand] at o4
  have s1:=x1.size
  refine hR _ _ (x1.trans (x2.trans' bel)) ((o4.read (by rw [hcand,List.length_append,eb]; unfold room; omega) (by rw [hcand,List.length_append,Zd]; omega)).mono fun b hb=>?_)
  rcases hb with hb | ⟨ad,ha,rfl⟩
  ·exact hb.elim
  ·have:=o4.block ha; exact ⟨by omega,this.2.1⟩
end Go.Hal
namespace Go.Hal
open Go.Proofs.Tryz
open Go Go.RowKit Go.Proofs Go.Shelf
theorem Zkt {s : Sl} {l : List Pin} {n : ByteArray} {S : Nat → Prop} {w : World} {R : Int → Int → Int → Bool → World → Prop} (hs : SlR pinE w S s l)
  (hsome : ∀ v w',tells l n = some v → Ext w w' → R v.ma v.mi v.pa true w') (hnone : ∀ w',tells l n = none → Ext w w' → R 0 0 0 false w') : SE.Zcx s n w R:=by
 unfold SE.Zcx
 have hl:=hs.len
 refine newS.intro fun a w1 x1 ha hab _ => ?_
 refine loop1.up hs.max (fun i w'=>Ext w1 w' ∧ (l.take i).find? (isN n) = none) ⟨Ext.refl _,rfl⟩ fun i w2 nxt hi ⟨x2,hI⟩ hn=>⟨fun hlt=>?_,fun hge=>?_⟩
 ·have hlt' : i < l.length:=by omega
  have x02:=x1.trans x2
  obtain ⟨ad,hsa,_,hN,hc⟩:=Zg0 hs hlt'
  refine ⟨ad,⟨hsa,by omega,hlt⟩,_,(hc _ x02).pre rfl,fun he=>?_,fun he=>?_⟩
  ·refine ⟨ad,⟨hsa,by omega,hlt⟩,l[i].v.ma,l[i].v.mi,l[i].v.pa,(hc _ x02).mid (k:=1) (r:=[]) rfl,stw0.intro (ha.ext x2) (by simp) fun w5 b5 _ hb5=>⟨_,_,_,hb5.at0 (r:=[]) (Ext.refl _) rfl,?_⟩⟩
   have hf:=Zmr (p:=isN n) hlt' hI (by simp [isN,he])
   exact hsome l[i].v w5 (by unfold tells; rw [hf]; rfl) (b5.ext x02 (by omega))
  ·refine hn hlt' _ ⟨x2,?_⟩
   rw [Ze7 hlt' hI,if_neg (by simp [isN,he])]
 ·have : i = l.length:=by omega
  rw [this,List.take_length] at hI
  refine stw0.intro (ha.ext x2) (by simp) fun w3 b3 _ hb3=>⟨_,_,_,hb3.at0 (r:=[]) (Ext.refl _) rfl,hnone w3 (by unfold tells; rw [hI]; rfl) (b3.ext (x1.trans x2) (by omega))⟩
theorem Zl3 {s : Sl} {l : List Pin} {n : ByteArray} {S : Nat → Prop} {w : World} {R : Int → Int → Int → Bool → World → Prop} (hs : SlR pinE w S s l)
  (hsome : ∀ v w',tells l n = some v → Ext w w' → R v.ma v.mi v.pa true w') (hnone : ∀ w',tells l n = none → Ext w w' → R 0 0 0 false w') : SE.Zda s n w R:=Zkt hs hsome hnone
theorem Ztj {s : Sl} {L : List Pin} {p : Pin} {i : Nat} {a : Addr} {w : World} {S : Nat → Prop} {K : Sl → World → Prop} (hS : Old S w) (hs : SlR pinE w S s L) (hi : i ≤ L.length) (ha : BoxAt w a (pinC p)) (hN : Str p.name) (hb : L.length ≤ 1000000000000)
  (hK : ∀ t w',Ext w w' → SlR pinE w' (fun b=>w.heap.size ≤ b ∧ b < w'.heap.size) t (L.take i ++ p :: L.drop i) → K t w') :
  ((0 : Int) ≤ (i : Int) ∧ (i : Int) ≤ (s.cap : Int)) ∧ appS prog 26 26 Sl.nil (Sl.v (Sl.cut s 0 (i : Int).toNat 4)) w fun t42 vw12=>∃ (n : ByteArray) (x y z : Int),(ldc vw12 a [(Value.string n),(Value.int .i64 x),(Value.int .i64 y),(Value.int .i64 z)]) ∧ newS vw12 [(Value.string n),(Value.int .i64 x),(Value.int .i64 y),(Value.int .i64 z)] 67 fun a14 vw15 =>
   appS prog 26 26 t42 (Sl.v (Sl.mk (some a14) 1 1)) vw15 fun t46 vw16=>((0 : Int) ≤ (i : Int) ∧ (i : Int) ≤ (s.len : Int)) ∧ appS prog 26 26 t46 (Sl.v (Sl.cut s (i : Int).toNat s.len 4)) vw16 fun t51 vw18=>K t51 vw18:=by
 have hl:=hs.len
 have hcap : L.length ≤ s.cap:=hs.2.1
 have eb : pinE.bytes = 40:=rfl
 refine ⟨by omega,?_⟩
 have hc1 : SlR pinE w S (Sl.cut s 0 i 4) ((L.take i).drop 0):=hs.cut (Nat.zero_le _) hi
 rw [List.drop_zero] at hc1
 have hc2 : SlR pinE w S (Sl.cut s i s.len 4) ((L.take s.len).drop i):=hs.cut (by omega) (by omega)
 rw [hl,List.take_length] at hc2
 have htl : (L.take i).length = i:=by rw [List.length_take]; omega
 have hdl : (L.drop i).length = L.length - i:=List.length_drop
 rw [Int.toNat_natCast,hl]
 have fresh : ∀ {s' : Sl} {l' : List Pin} {w' : World},OwnS pinE 67 w' w.heap.size None' s' l' → ∀ ad,s'.a = some ad → ¬ S ad.block:=fun o ad h hSb=>by
  have:=(o.block h).1; have:=hS _ hSb; omega
 refine (OwnS.zero (E:=pinE) (T:=67) w).appAll Zmf (Nat.le_refl _) hc1 hS (fun ad h=>by cases h) (by rw [htl,eb]; simp; unfold room; omega) (by rw [htl,Zd]; simp; omega) fun r1 w1 o1 bel1 _ _ => ?_
 have x1 : Ext w w1:=(Ext.refl w).trans' bel1
 rw [List.nil_append] at o1
 have o1:=OwnS.flat (fun h=>h) o1
 refine ⟨_,_,_,_,(ha.ext x1).ldc.pre (r:=[]) rfl,newS.intro fun a2 w2 x2 hb2 _ _ => ?_⟩
 refine (o1.ext x2).push Zmf (x1.trans x2).size (x:=p) (S':=None') ⟨rfl,hN⟩ (hb2.ldc.pre (r:=[]) rfl) (fun _ h=>h.elim) (fun _ _ h=>h.elim) (by rw [htl,eb]; unfold room; omega) (by rw [htl,Zd]; omega) fun r2 w3 o2 bel2 _ _ => ?_
 have o2:=OwnS.flat (fun h=>h) o2
 have x3 : Ext w w3:=(x1.trans x2).trans' bel2
 refine ⟨by omega,o2.appAll Zmf x3.size (hc2.ext x3) (hS.ext x3.size) (fresh o2) (by rw [List.length_append,htl,hdl,eb,List.length_singleton]; unfold room; omega) (by rw [List.length_append,htl,hdl,Zd,List.length_singleton]; omega) fun r3 w4 o3 bel3 _ _ => ?_⟩
 have o3:=OwnS.flat (fun h=>h) o3
 have x4 : Ext w w4:=x3.trans' bel3
 rw [List.append_assoc,List.singleton_append] at o3
 have hlen : (L.take i ++ p :: L.drop i).length = L.length + 1:=by rw [List.length_append,List.length_cons,htl,hdl]; omega
 refine hK r3 w4 x4 ((o3.read (by rw [hlen,eb]; unfold room; omega) (by rw [hlen,Zd]; omega)).mono fun b hb=>?_)
 rcases hb with hb | ⟨ad,had,rfl⟩
 ·exact hb.elim
 ·have:=o3.block had; exact ⟨this.1,this.2.1⟩
theorem Zqc {L : List Pin} {n : ByteArray} {i : Nat} (hi : i < L.length) (h : ∀ k (h : k < L.length),k < i → bLt L[k].name n = true) (h1 : bLt L[i].name n = true) : ∀ k (h : k < L.length),k < i + 1 → bLt L[k].name n = true:=fun k hk hki=>by
 rcases Nat.lt_succ_iff_lt_or_eq.1 hki with h2 | h2
 ·exact h k hk h2
 ·subst h2; exact h1
theorem Zy0 {s : Sl} {e : List Pin} {p : Pin} {S : Nat → Prop} {w : World} {R : Sl → World → Prop} (hS : Old S w) (hs : SlR pinE w S s (Zal e)) (hn : (e.map (·.name)).Nodup) (hN : Str p.name) (hb : e.length ≤ 1000000000000)
  (hR : ∀ t w',Ext w w' → SlR pinE w' (fun b=>S b ∨ (w.heap.size ≤ b ∧ b < w'.heap.size)) t (Zal (addO e p.name (some p.v))) → R t w') : SE.Zdb s p.name p.v.ma p.v.mi p.v.pa w R:=by
 unfold SE.Zdb
 have hl:=hs.len
 have hle : (Zal e).length = e.length:=(Zbe e).length_eq
 refine newS.intro fun a w1 x1 ha hab _ => ?_
 refine loop1.up hs.max (fun i w'=>Ext w1 w' ∧ ∀ k (h : k < (Zal e).length),k < i → bLt (Zal e)[k].name p.name = true) ⟨Ext.refl _,fun k _ h=>by omega⟩ fun i w2 nxt hi ⟨x2,hI⟩ hn'=>bnd.drew fun w3 x3=>bound ?_
 have x13:=x2.trans x3
 have fin : ∀ w',Ext w1 w' → AtN (Zal e) p.name i → bnd w'.drew fun (vw5 : World)=>bnd (decide ((i : Int) < (s.len : Int))) fun (b6 : Bool)=>∃ (ad7 : Addr),grd b6 (s.a = some ad7 ∧ (0 : Int) ≤ (i : Int) ∧ (i : Int) < (s.len : Int)) ∧ ∃ (t32 : ByteArray),grd b6 (ldc vw5 (ad7.add ((i : Int).toNat * 4)) [(Value.string t32)]) ∧ ∃ (t34 : ByteArray),grd b6 (ldc vw5 a [(Value.string t34)]) ∧ (((b6 && (bEq t32 t34)) = true → R s vw5) ∧ ((b6 && (bEq t32 t34)) = false → ((0 : Int) ≤ (i : Int) ∧ (i : Int) ≤ (s.cap : Int)) ∧ appS prog 26 26 Sl.nil (Sl.v (Sl.cut s 0 (i : Int).toNat 4)) vw5 fun t42 vw12=>∃ (t44_Name : ByteArray) (t44_Version_Major : Int) (t44_Version_Minor : Int) (t44_Version_Patch : Int),(ldc vw12 a [(Value.string t44_Name),(Value.int .i64 t44_Version_Major),(Value.int .i64 t44_Version_Minor),(Value.int .i64 t44_Version_Patch)]) ∧ newS vw12 [(Value.string t44_Name),(Value.int .i64 t44_Version_Major),(Value.int .i64 t44_Version_Minor),(Value.int .i64 t44_Version_Patch)] 67 fun a14 vw15=>appS prog 26 26 t42 (Sl.v (Sl.mk (some a14) 1 1)) vw15 fun t46 vw16=>((0 : Int) ≤ (i : Int) ∧ (i : Int) ≤ (s.len : Int)) ∧ appS prog 26 26 t46 (Sl.v (Sl.cut s (i : Int).toNat s.len 4)) vw16 fun t51 vw18=>R t51 vw18)):=by
  intro w' hx hA
  refine bnd.drew fun w4 x4=>bound ?_
  have x14:=hx.trans x4
  have x04:=x1.trans x14
  have s04:=x04.size
  have new : (∀ h : i < (Zal e).length,(Zal e)[i].name ≠ p.name) → ((0 : Int) ≤ (i : Int) ∧ (i : Int) ≤ (s.cap : Int)) ∧ appS prog 26 26 Sl.nil (Sl.v (Sl.cut s 0 (i : Int).toNat 4)) w4 fun t42 vw12=>∃ (t44_Name : ByteArray) (t44_Version_Major : Int) (t44_Version_Minor : Int) (t44_Version_Patch : Int),(ldc vw12 a [(Value.string t44_Name),(Value.int .i64 t44_Version_Major),(Value.int .i64 t44_Version_Minor),(Value.int .i64 t44_Version_Patch)]) ∧ newS vw12 [(Value.string t44_Name),(Value.int .i64 t44_Version_Major),(Value.int .i64 t44_Version_Minor),(Value.int .i64 t44_Version_Patch)] 67 fun a14 vw15=>appS prog 26 26 t42 (Sl.v (Sl.mk (some a14) 1 1)) vw15 fun t46 vw16=>((0 : Int) ≤ (i : Int) ∧ (i : Int) ≤ (s.len : Int)) ∧ appS prog 26 26 t46 (Sl.v (Sl.cut s (i : Int).toNat s.len 4)) vw16 fun t51 vw18=>R t51 vw18:=fun hne =>
   Ztj (p:=p) (hS.ext s04) (hs.ext x04) hA.le (ha.ext x14) hN (by omega) fun t w5 x5 ht=>by
    rw [(Zq9 hn hA hne).1] at ht
    exact hR t w5 (x04.trans x5) (ht.mono fun b hb=>.inr ⟨by omega,hb.2⟩)
  by_cases hlt : i < (Zal e).length
  ·obtain ⟨ad,hsa,_,_,hc⟩:=Zg0 hs hlt
   refine ⟨ad,fun _ => ⟨hsa,by omega,by omega⟩,_,fun _ => (hc _ x04).pre rfl,_,fun _ => ha.at0 x14 rfl,fun hq=>?_,fun hq=>new fun _ he=>?_⟩
   ·rw [Bool.and_eq_true,Zck] at hq
    have:=(Zra (p:=p) hlt hq.2).1
    have h2:=hR s w4 x04 (by rw [this]; exact (hs.ext x04).mono fun b hb=>.inl hb)
    exact h2
   ·rw [decide_eq_true (by omega : (i : Int) < (s.len : Int)),Zck.2 he] at hq; cases hq
  ·have hd : decide ((i : Int) < (s.len : Int)) = false:=decide_eq_false (by omega)
   rw [hd]
   exact ⟨⟨0,0,none⟩,(fun h=>by cases h),⟨#[]⟩,(fun h=>by cases h),⟨#[]⟩,(fun h=>by cases h),(fun h=>by cases h),fun _ => new fun h=>absurd h hlt⟩
 by_cases hlt : i < (Zal e).length
 ·have hd : decide ((i : Int) < (s.len : Int)) = true:=decide_eq_true (by omega)
  rw [hd] at fin ⊢
  obtain ⟨ad,hsa,_,hst,hc⟩:=Zg0 hs hlt
  refine ⟨ad,fun _ => ⟨hsa,by omega,by omega⟩,_,fun _ => (hc _ (x1.trans x13)).pre rfl,_,fun _ => ha.at0 x13 rfl,?_⟩
  refine gCall.intro (bLt (Zal e)[i].name p.name) (fun _ k hk=>SE.Zbs.go (r05less_se hst fun w' hx=>⟨_,rfl,hk w' hx⟩)) fun t19 w4 x4 ht=>?_
  rw [ht rfl]
  refine ⟨fun hq=>hn' hlt w4 ⟨x13.trans x4,Zqc hlt hI (by simpa using hq)⟩,fun hq=>?_⟩
  exact fin w4 (x13.trans x4) ⟨hi,hI,fun _ => by simpa using hq⟩
 ·have hd : decide ((i : Int) < (s.len : Int)) = false:=decide_eq_false (by omega)
  rw [hd] at fin ⊢
  refine ⟨⟨0,0,none⟩,(fun h=>by cases h),⟨#[]⟩,(fun h=>by cases h),⟨#[]⟩,(fun h=>by cases h),?_⟩
  refine gCall.intro false (fun h=>by cases h) fun t19 w4 x4 _ => ?_
  exact ⟨(fun h=>by cases h),fun _ => fin w4 (x13.trans x4) ⟨hi,hI,fun h=>absurd h hlt⟩⟩
theorem Zr4 {s t : Sl} {a b : List Pin} {S T : Nat → Prop} {w : World} {R : Bool → World → Prop} (hs : SlR pinE w S s a) (ht : SlR pinE w T t b) (hR : ∀ w',Ext w w' → R (decide (a = b)) w') : SE.Zc9 s t w R:=by
 unfold SE.Zc9
 have h1:=hs.len
 have h2:=ht.len
 refine ⟨fun h=>?_,fun h=>?_⟩
 ·have : ¬ a = b:=fun e=>by subst e; omega
  have h3:=hR w (Ext.refl _)
  rw [decide_eq_false this] at h3; exact h3
 have hll : a.length = b.length:=by
  have:=Classical.not_not.1 h
  omega
 refine loop1.up hs.max (fun i w'=>Ext w w' ∧ a.take i = b.take i) ⟨Ext.refl _,rfl⟩ fun i w1 nxt hi ⟨x1,hI⟩ hn=>⟨fun hlt=>bnd.drew fun w2 x2=>?_,fun hge=>?_⟩
 ·have k1 : i < a.length:=by omega
  have k2 : i < b.length:=by omega
  obtain ⟨ad,ha,_,_,hc⟩:=Zg0 hs k1
  obtain ⟨ad2,ha2,_,_,hc2⟩:=Zg0 ht k2
  refine ⟨ad,⟨ha,by omega,hlt⟩,_,_,_,_,hc _ (x1.trans x2),ad2,⟨ha2,by omega,by omega⟩,_,_,_,_,hc2 _ (x1.trans x2),?_⟩
  rw [Zzw]
  refine ⟨fun h=>?_,fun h=>?_⟩
  ·have hne : ¬ a = b:=fun e=>by subst e; simp at h
   have h3:=hR w2 (x1.trans x2)
   rw [decide_eq_false hne] at h3; exact h3
  ·exact hn k1 _ ⟨x1.trans x2,Ziq k1 k2 hI (by simpa using h)⟩
 ·have : i = a.length:=by omega
  subst this
  rw [List.take_length,List.take_of_length_le (by omega)] at hI
  have h3:=hR w1 x1
  rw [decide_eq_true hI] at h3; exact h3
theorem Zwi {s t : Sl} {ns : List Node} {p : Pin} {l : List Pin} {S T : Nat → Prop} {w : World} {R : Int → World → Prop} (hs : SlR nodeE w S s ns) (ht : SlR pinE w T t l) (h0 : 1 ≤ ns.length)
  (hR : ∀ (i : Nat) w',Ext w w' → PlaceAt ns (p.name,p.v,l) i → R (i : Int) w') : SE.Zcy s p.name p.v.ma p.v.mi p.v.pa t w R:=by
 unfold SE.Zcy
 have hl:=hs.len
 refine newS.intro fun a w1 x1 ha hab _ => ?_
 refine loop1.from1 hs.max (fun i w'=>Ext w1 w' ∧ ∀ j (h : j < ns.length),1 ≤ j → j < i → ns[j].key ≠ (p.name,p.v,l)) ⟨Ext.refl _,fun j _ h1 h2=>by omega⟩ fun i w2 nxt h1 hi ⟨x2,hI⟩ hn=>⟨fun hlt=>bnd.drew fun w3 x3=>?_,fun hge=>?_⟩
 ·have hlt' : i < ns.length:=by omega
  obtain ⟨ad,c,e,hsa,_,hcx,_,hc⟩:=Zjf hs hlt'
  have x13:=x2.trans x3
  have x03:=x1.trans x13
  have ek : decide (ns[i].key = (p.name,p.v,l)) = (bEq ns[i].name p.name && decide (ns[i].v = p.v) && decide (ns[i].ctx = l)):=by
   rw [Bool.eq_iff_iff]
   simp only [Node.key,decide_eq_true_eq,Prod.mk.injEq,Bool.and_eq_true,Zck]
   exact ⟨fun ⟨a,b,c⟩=>⟨⟨a,b⟩,c⟩,fun ⟨⟨a,b⟩,c⟩=>⟨a,b,c⟩⟩
  refine ⟨ad,⟨hsa,by omega,hlt⟩,_,(hc _ x03).pre rfl,_,ha.at0 x13 rfl,bound ⟨ad,fun _ => ⟨hsa,by omega,hlt⟩,_,_,_,fun _ => (hc _ x03).mid (k:=1) rfl,_,_,_,fun _ => ha.at1 (k:=1) (r:=[]) x13 rfl,bound ?_⟩⟩
  have ev : ((ns[i].v.ma == p.v.ma) && ((ns[i].v.mi == p.v.mi) && ((ns[i].v.pa == p.v.pa) && true))) = decide (ns[i].v = p.v):=verB
  rw [ev]
  refine ⟨ad,fun _ => ⟨hsa,by omega,hlt⟩,c,fun _ => (hc _ x03).mid (k:=4) rfl,?_⟩
  refine gCall.intro (decide (ns[i].ctx = l)) (fun _ k hk=>SE.Zc9.go (Zr4 (hcx.ext x03) (ht.ext x03) fun w' hx=>⟨_,rfl,hk w' hx⟩)) fun t39 w4 x4 ht39=>?_
  have e39 : (bEq ns[i].name p.name && decide (ns[i].v = p.v) && t39) = decide (ns[i].key = (p.name,p.v,l)):=by
   rw [ek]
   cases hg : (bEq ns[i].name p.name && decide (ns[i].v = p.v))
   ·rfl
   ·rw [ht39 hg]
  rw [e39]
  refine ⟨fun hq=>hR i w4 (x03.trans x4) ⟨h1,by omega,hI,fun _ => of_decide_eq_true hq⟩,fun hq=>hn hlt' w4 ⟨x13.trans x4,fun j hj j1 j2=>?_⟩⟩
  rcases Nat.lt_succ_iff_lt_or_eq.1 j2 with h2 | h2
  ·exact hI j hj j1 h2
  ·subst h2; exact of_decide_eq_false hq
 ·have hge' : ns.length ≤ i:=by omega
  rw [hl]
  exact hR ns.length w2 (x1.trans x2) ⟨h0,Nat.le_refl _,fun j hj j1 _ => hI j hj j1 (by omega),fun h=>absurd h (Nat.lt_irrefl _)⟩
end Go.Hal
namespace Go.Hal
open Go.Proofs.Tryz
open Go Go.RowKit Go.Proofs Go.Shelf
theorem Zt2 {s : Sl} {e : List Pin} {p : Pin} {S : Nat → Prop} {w : World} {R : Sl → Bool → World → Prop} (hS : Old S w) (hs : SlR pinE w S s (Zal e)) (hn : (e.map (·.name)).Nodup) (hN : Str p.name) (hb : e.length ≤ 1000000000000)
  (hold : ∀ w',Ext w w' → e.any (isN p.name) = true → R s false w') (hnew : ∀ t w',Ext w w' → e.any (isN p.name) = false → SlR pinE w' (fun b=>w.heap.size ≤ b ∧ b < w'.heap.size) t (Zal (e ++ [p])) → R t true w') : SE.Zcp s p.name p.v.ma p.v.mi p.v.pa w R:=by
 unfold SE.Zcp
 have hl:=hs.len
 have hle : (Zal e).length = e.length:=(Zbe e).length_eq
 refine newS.intro fun a w1 x1 ha hab _ => ?_
 refine loop1.up hs.max (fun i w'=>Ext w1 w' ∧ ∀ k (h : k < (Zal e).length),k < i → bLt (Zal e)[k].name p.name = true) ⟨Ext.refl _,fun k _ h=>by omega⟩ fun i w2 nxt hi ⟨x2,hI⟩ hn'=>bnd.drew fun w3 x3=>bound ?_
 have x13:=x2.trans x3
 have fin : ∀ w',Ext w1 w' → AtN (Zal e) p.name i → bnd w'.drew fun (vw5 : World)=>bnd (decide ((i : Int) < (s.len : Int))) fun (b6 : Bool)=>∃ (ad7 : Addr),grd b6 (s.a = some ad7 ∧ (0 : Int) ≤ (i : Int) ∧ (i : Int) < (s.len : Int)) ∧ ∃ (t32 : ByteArray),grd b6 (ldc vw5 (ad7.add ((i : Int).toNat * 4)) [(Value.string t32)]) ∧ ∃ (t34 : ByteArray),grd b6 (ldc vw5 a [(Value.string t34)]) ∧ (((b6 && (bEq t32 t34)) = true → R s false vw5) ∧ ((b6 && (bEq t32 t34)) = false → ((0 : Int) ≤ (i : Int) ∧ (i : Int) ≤ (s.cap : Int)) ∧ appS prog 26 26 Sl.nil (Sl.v (Sl.cut s 0 (i : Int).toNat 4)) vw5 fun t42 vw12=>∃ (t44_Name : ByteArray) (t44_Version_Major : Int) (t44_Version_Minor : Int) (t44_Version_Patch : Int),(ldc vw12 a [(Value.string t44_Name),(Value.int .i64 t44_Version_Major),(Value.int .i64 t44_Version_Minor),(Value.int .i64 t44_Version_Patch)]) ∧ newS vw12 [(Value.string t44_Name),(Value.int .i64 t44_Version_Major),(Value.int .i64 t44_Version_Minor),(Value.int .i64 t44_Version_Patch)] 67 fun a14 vw15=>appS prog 26 26 t42 (Sl.v (Sl.mk (some a14) 1 1)) vw15 fun t46 vw16=>((0 : Int) ≤ (i : Int) ∧ (i : Int) ≤ (s.len : Int)) ∧ appS prog 26 26 t46 (Sl.v (Sl.cut s (i : Int).toNat s.len 4)) vw16 fun t51 vw18=>R t51 true vw18)):=by
  intro w' hx hA
  refine bnd.drew fun w4 x4=>bound ?_
  have x14:=hx.trans x4
  have x04:=x1.trans x14
  have s04:=x04.size
  have new : (∀ h : i < (Zal e).length,(Zal e)[i].name ≠ p.name) → ((0 : Int) ≤ (i : Int) ∧ (i : Int) ≤ (s.cap : Int)) ∧ appS prog 26 26 Sl.nil (Sl.v (Sl.cut s 0 (i : Int).toNat 4)) w4 fun t42 vw12=>∃ (t44_Name : ByteArray) (t44_Version_Major : Int) (t44_Version_Minor : Int) (t44_Version_Patch : Int),(ldc vw12 a [(Value.string t44_Name),(Value.int .i64 t44_Version_Major),(Value.int .i64 t44_Version_Minor),(Value.int .i64 t44_Version_Patch)]) ∧ newS vw12 [(Value.string t44_Name),(Value.int .i64 t44_Version_Major),(Value.int .i64 t44_Version_Minor),(Value.int .i64 t44_Version_Patch)] 67 fun a14 vw15=>appS prog 26 26 t42 (Sl.v (Sl.mk (some a14) 1 1)) vw15 fun t46 vw16=>((0 : Int) ≤ (i : Int) ∧ (i : Int) ≤ (s.len : Int)) ∧ appS prog 26 26 t46 (Sl.v (Sl.cut s (i : Int).toNat s.len 4)) vw16 fun t51 vw18=>R t51 true vw18:=fun hne =>
   Ztj (p:=p) (hS.ext s04) (hs.ext x04) hA.le (ha.ext x14) hN (by omega) fun t w5 x5 ht=>by
    obtain ⟨q1,q2,q3⟩:=Zq9 hn hA hne
    rw [q1,q2] at ht
    exact hnew t w5 (x04.trans x5) q3 (ht.mono fun b hb=>⟨by omega,hb.2⟩)
  by_cases hlt : i < (Zal e).length
  ·obtain ⟨ad,hsa,_,_,hc⟩:=Zg0 hs hlt
   refine ⟨ad,fun _ => ⟨hsa,by omega,by omega⟩,_,fun _ => (hc _ x04).pre rfl,_,fun _ => ha.at0 x14 rfl,fun hq=>?_,fun hq=>new fun _ he=>?_⟩
   ·rw [Bool.and_eq_true,Zck] at hq
    exact hold w4 x04 (Zra (p:=p) hlt hq.2).2
   ·rw [decide_eq_true (by omega : (i : Int) < (s.len : Int)),Zck.2 he] at hq; cases hq
  ·have hd : decide ((i : Int) < (s.len : Int)) = false:=decide_eq_false (by omega)
   rw [hd]
   exact ⟨⟨0,0,none⟩,(fun h=>by cases h),⟨#[]⟩,(fun h=>by cases h),⟨#[]⟩,(fun h=>by cases h),(fun h=>by cases h),fun _ => new fun h=>absurd h hlt⟩
 by_cases hlt : i < (Zal e).length
 ·have hd : decide ((i : Int) < (s.len : Int)) = true:=decide_eq_true (by omega)
  rw [hd] at fin ⊢
  obtain ⟨ad,hsa,_,hst,hc⟩:=Zg0 hs hlt
  refine ⟨ad,fun _ => ⟨hsa,by omega,by omega⟩,_,fun _ => (hc _ (x1.trans x13)).pre rfl,_,fun _ => ha.at0 x13 rfl,?_⟩
  refine gCall.intro (bLt (Zal e)[i].name p.name) (fun _ k hk=>SE.Zbs.go (r05less_se hst fun w' hx=>⟨_,rfl,hk w' hx⟩)) fun t19 w4 x4 ht=>?_
  rw [ht rfl]
  refine ⟨fun hq=>hn' hlt w4 ⟨x13.trans x4,Zqc hlt hI (by simpa using hq)⟩,fun hq=>?_⟩
  exact fin w4 (x13.trans x4) ⟨hi,hI,fun _ => by simpa using hq⟩
 ·have hd : decide ((i : Int) < (s.len : Int)) = false:=decide_eq_false (by omega)
  rw [hd] at fin ⊢
  refine ⟨⟨0,0,none⟩,(fun h=>by cases h),⟨#[]⟩,(fun h=>by cases h),⟨#[]⟩,(fun h=>by cases h),?_⟩
  refine gCall.intro false (fun h=>by cases h) fun t19 w4 x4 _ => ?_
  exact ⟨(fun h=>by cases h),fun _ => fin w4 (x13.trans x4) ⟨hi,hI,fun h=>absurd h hlt⟩⟩
end Go.Hal
namespace Go.Hal
open Go.Proofs.Tryz
open Go Go.RowKit Go.Proofs Go.Shelf
theorem Zvr {w : World} {S : Nat → Prop} {s : Sl} {l : List Dep} (h : SlR depE w S s l) : SlR depE w (fun b=>S b ∧ b < w.heap.size) s l:=by
 obtain ⟨h1,h2,h3,h4,h5⟩:=h
 refine ⟨h1,h2,h3,h4,?_⟩
 rcases h5 with h0 | ⟨ad,ha,hs,hel⟩
 ·exact .inl h0
 ·rcases Nat.eq_zero_or_pos l.length with h0 | h0
  ·exact .inl (List.eq_nil_of_length_eq_zero h0)
  ·refine .inr ⟨ad,ha,⟨hs,?_⟩,fun i x hx=>?_⟩
   ·obtain ⟨cs,⟨_,t,rfl,_⟩,hl⟩:=hel 0 l[0] (List.getElem?_eq_getElem h0)
    have:=World.block_lt_of_cell? w _ (hl 0 _ rfl)
    rwa [Zdr,Zdr] at this
   ·obtain ⟨cs,⟨k0,t,rfl,k1⟩,hl⟩:=hel i x hx
    exact ⟨_,⟨k0,t,rfl,k1.bound (fun h=>h) (by decide)⟩,hl⟩
theorem Zm4 {SC SM SE3 : Nat → Prop} {c : Addr} {L : List Pack} {mD mDev mOpt mOv envS : Sl} {over : List Dep} {env : List Pin} {pn : Pin} {w : World} {R : Sl → Bool → World → Prop} (hC : RefR w SC c L) (hSM : Old SM w) (hSE : Old SE3 w)
  (hO : SlR depE w SM mOv over) (hE : SlR pinE w SE3 envS env) (hpn : Str pn.name)
  (hsome : ∀ a t w',Zc4 L over env pn = some a → Ext w w' → SlR pinE w' (fun b=>w.heap.size ≤ b ∧ b < w'.heap.size) t a → R t true w')
  (hnone : ∀ w',Zc4 L over env pn = none → Ext w w' → R Sl.nil false w') : SE.Zce (some c) mD mDev mOpt mOv envS pn.name pn.v.ma pn.v.mi pn.v.pa w R:=by
 unfold SE.Zce
 have hG:=hC.good
 have hel:=hE.len
 refine newS.intro fun a w1 x1 ha hab _ => newS.intro fun a1 w2 x2 ha1 hab1 _ => ⟨_,_,_,_,ha1.ldc.pre (r:=[]) rfl,newS.intro fun a3 w3 x3 hb3 hab3 _ => ?_⟩
 have x12:=x2.trans x3
 have x03:=x1.trans x12
 have hgo0 : ∀ o,Zgn (getL L) over env pn (env.length + 2) 0 [] = o → Zc4 L over env pn = o.map Zal:=fun o h=>by
  show ctx (getL L) over env pn = _
  unfold ctx; rw [h]
 have start : SlR pinE w3 (fun b=>w.heap.size ≤ b ∧ b < w3.heap.size) ⟨some a3,1,1⟩ ((pn :: []).drop 0):=by
  have:=Ziw (E:=pinE) (S:=None') (x:=pn) hb3 ⟨rfl,hpn⟩ (by decide)
  have s0:=(x1.trans x2).size
  have l3:=hb3.lt
  exact this.mono fun b hb=>by
   rcases hb with hb | rfl
   ·exact hb.elim
   ·exact ⟨by omega,l3⟩
 refine loop2.ghost (fun f so rs w'=>∃ (i : Nat) (out : List Pin),Ext w1 w' ∧ SlR pinE w' (fun b=>w.heap.size ≤ b ∧ b < w'.heap.size) so (Zal out) ∧ SlR pinE w' (fun b=>w.heap.size ≤ b ∧ b < w'.heap.size) rs ((pn :: out).drop i) ∧ CtxI (getL L) over env pn i out ∧ Zgn (getL L) over env pn f i out = Zgn (getL L) over env pn (env.length + 2) 0 [] ∧ env.length + 2 ≤ f + i)
  (env.length + 2) ⟨0,[],x12,SlR.nil trivial,start,CtxI.zero,rfl,by omega⟩ fun f so rs w4 nxt ⟨i,out,x4,hso,hrs,hI,hgo,hf⟩ hnx=>?_
 have hrl:=hrs.len
 rw [List.length_drop,List.length_cons] at hrl
 have hil:=hI.le
 have hol:=hI.len
 have hbnd:=Zki hG hI
 obtain ⟨f,rfl⟩ : ∃ f',f = f' + 1:=⟨f - 1,by omega⟩
 have x04:=x1.trans x4
 refine ⟨fun hlt=>join.named fun J hJ=>bnd.drew fun w5 x5=>?_,fun hge=>?_⟩
 ·have hi : i < (pn :: out).length:=by rw [List.length_cons]; omega
  have hq : (pn :: out)[i]? = some (pn :: out)[i]:=List.getElem?_eq_getElem hi
  have hd : (pn :: out).drop i = (pn :: out)[i] :: out.drop i:=by
   rw [List.drop_eq_getElem_cons hi]; rfl
  generalize (pn :: out)[i] = q at hq hd
  rw [hd] at hrs
  obtain ⟨ar,har,_,hqs,hcr⟩:=Zg0 hrs (n:=0) (by simp)
  have hcr : ∀ w',Ext w4 w' → ldc w' (ar.add (0 * 4)) (pinC q):=hcr
  have x05:=x04.trans x5
  have x15:=x4.trans x5
  have e0 : ((0 : Int)).toNat = 0:=rfl
  refine ⟨ar,⟨har,by omega,hlt⟩,q.name,(hcr _ x5).pre rfl,ar,⟨har,by omega,hlt⟩,q.v.ma,q.v.mi,q.v.pa,(hcr _ x5).mid (k:=1) (r:=[]) rfl,?_⟩
  have key : ∀ (x : Addr) (d e o : Sl) (w6 : World),Ext w5 w6 → BoxAt w6 x [.string (getD L q.name q.v).name,.int .i64 (getD L q.name q.v).v.ma,.int .i64 (getD L q.name q.v).v.mi,.int .i64 (getD L q.name q.v).v.pa,d.v,e.v,o.v] →
    SlR depE w6 SC e (getD L q.name q.v).peers → J x (getL L q.name q.v).isSome w6:=by
   subst hJ
   intro x d e o w6 x6 hbx hpe
   have x06:=x05.trans x6
   have x46:=x5.trans x6
   cases hget : getL L q.name q.v with
   | none =>
    refine ⟨fun _ => hnone w6 ?_ x06,(fun h=>by cases h)⟩
    rw [hgo0 none (by rw [← hgo]; exact Zln hq hget)]; rfl
   | some y =>
    have hD : getD L q.name q.v = y:=by unfold getD; rw [hget]; rfl
    rw [hD] at hbx hpe
    have hrs6 : SlR pinE w6 (fun b=>w.heap.size ≤ b ∧ b < w6.heap.size) rs (q :: out.drop i):=(hrs.ext x46).mono fun b hb=>⟨hb.1,by have:=x46.size; omega⟩
    have hc:=hrs6.cut (a:=1) (b:=(q :: out.drop i).length) (by simp) (Nat.le_refl _)
    rw [List.take_length,List.drop_one,List.tail_cons,← hrs6.len] at hc
    have hdl : (out.drop i).length = out.length - i:=List.length_drop
    have eb : pinE.bytes = 40:=rfl
    refine ⟨(fun h=>by cases h),fun _ => ⟨by omega,?_⟩⟩
    refine (OwnS.zero (E:=pinE) (T:=67) w6).appAll Zmf (Nat.le_refl _) hc (fun b hb=>hb.2) (fun ad h=>by cases h) (by rw [hdl,eb]; simp; unfold room; omega) (by rw [hdl,Zd]; simp; omega) fun t44 w7 o7 bel7 _ _ => ?_
    rw [List.nil_append] at o7
    have o7:=OwnS.flat (fun h=>h) o7
    have x7 : Ext w6 w7:=(Ext.refl w6).trans' bel7
    have x67:=x7
    have x07:=x06.trans x7
    have x17 : Ext w1 w7:=(x15.trans x6).trans x7
    refine ⟨_,_,_,_,d,e,o,(hbx.ext x7).ldc.pre (r:=[]) rfl,mD,mDev,mOpt,mOv,(ha.ext x17).ldc.pre (r:=[]) rfl,?_⟩
    refine SE.Zcw.go (Zpz (S:=fun b=>SC b ∨ SM b) (over:=over) (peers:=y.peers) (fun b hb=>by
     have s1:=x07.size
     rcases hb with hb | hb
     ·have:=hC.old b hb; omega
     ·have:=hSM b hb; omega) ((hO.ext x07).mono fun b hb=>.inr hb) ((hpe.ext x7).mono fun b hb=>.inl hb) fun t47 w8 x8 hpeers=>⟨t47,rfl,?_⟩)
    have x68:=x7.trans x8
    have x08:=x07.trans x8
    have s6:=x06.size
    have s7:=x7.size
    have s8:=x8.size
    have hpl:=hpeers.len
    have hpmax:=hpeers.max
    have hpb : (Za7 over y.peers).length ≤ 16:=by
     have h1:=congrArg List.length (Zkr over y.peers)
     rw [List.length_map,List.length_map] at h1
     obtain ⟨_,_,_,h2,_⟩:=Zhh (hG.may y (Ze8 hget).1)
     have:=(Zk h2).1
     omega
    have hSP : ∀ b,((SC b ∨ SM b) ∨ w7.heap.size ≤ b) → b < w6.heap.size ∨ w7.heap.size ≤ b:=fun b hb=>by
     rcases hb with (hb | hb) | hb
     ·have:=hC.old b hb; omega
     ·have:=hSM b hb; omega
     ·exact .inr hb
    have hpeers : SlR depE w8 (fun b=>(b < w6.heap.size ∨ w7.heap.size ≤ b) ∧ b < w8.heap.size) t47 (Za7 over y.peers):=by
     exact (Zvr hpeers).mono fun b hb=>⟨hSP b hb.1,hb.2⟩
    generalize hPP : Za7 over y.peers = peers at *
    have hstep0 : Za5 env (peers.drop 0) out = Za5 env peers out:=rfl
    have hnames0:=hI.names
    have htold0:=hI.told
    refine loop3.ghost (fun n so vn k w'=>∃ (j : Nat) (O : List Pin) (So : Nat → Prop),k = (j : Int) ∧ n = peers.length - j ∧ j ≤ peers.length ∧ Ext w6 w' ∧ w8.heap.size ≤ w'.heap.size ∧ SlR pinE w' So so (Zal O) ∧ (∀ b,So b → w.heap.size ≤ b ∧ b < w'.heap.size) ∧ OwnS pinE 67 w' w6.heap.size None' vn (O.drop i) ∧
      (∀ ad,vn.a = some ad → ¬ So ad.block ∧ (ad.block < w7.heap.size ∨ w8.heap.size ≤ ad.block)) ∧ SlR depE w' (fun b=>(b < w6.heap.size ∨ w7.heap.size ≤ b) ∧ b < w8.heap.size) t47 peers ∧ Za5 env (peers.drop j) O = Za5 env peers out ∧ (O.map (·.name)).Nodup ∧ i ≤ O.length ∧ O.length ≤ out.length + j)
     peers.length ⟨0,out,fun b=>w.heap.size ≤ b ∧ b < w6.heap.size,rfl,by omega,Nat.zero_le _,x68,Nat.le_refl _,(hso.ext (x46.trans x68)).mono fun b hb=>⟨hb.1,by have:=x46.size; omega⟩,fun b hb=>⟨hb.1,by omega⟩,o7.ext x8,fun ad had=>by
      have:=o7.block had
      exact ⟨by omega,.inl this.2.1⟩,hpeers,rfl,hnames0,by omega,Nat.le_refl _⟩ fun n so' vn k w9 nxt' ⟨j,O,So,hk,hn,hjl,x9,s9,hsO,hSo,oV,hap,hP9,hst,hnd,hiO,hOl⟩ hnx'=>?_
    subst hk
    have x09:=x06.trans x9
    have hOl2 : O.length ≤ 4096:=by omega
    refine ⟨fun hlt3=>join.named fun J3 hJ3=>?_,fun hge3=>?_⟩
    ·have hj : j < peers.length:=by omega
     obtain ⟨adp,tr,hpa,_,hds,hdr,hcp⟩:=Zgp hP9 hj
     have hdr0 : peers.drop j = peers[j] :: peers.drop (j + 1):=List.drop_eq_getElem_cons hj
     rw [hdr0] at hst
     generalize peers[j] = dd at *
     have bad : ∀ w',Ext w w' → Za5 env (dd :: peers.drop (j + 1)) O = none → R Sl.nil false w':=fun w' hx h=>hnone w' (by
      rw [h] at hst
      rw [hgo0 none (by rw [← hgo]; exact Zll hq hget (by rw [hPP]; exact hst.symm))]; rfl) hx
     have hJ' : ∀ (so2 vn2 : Sl) w' (O2 : List Pin) (So2 : Nat → Prop),Ext w6 w' → w8.heap.size ≤ w'.heap.size → SlR pinE w' So2 so2 (Zal O2) → (∀ b,So2 b → w.heap.size ≤ b ∧ b < w'.heap.size) → OwnS pinE 67 w' w6.heap.size None' vn2 (O2.drop i) →
       (∀ ad,vn2.a = some ad → ¬ So2 ad.block ∧ (ad.block < w7.heap.size ∨ w8.heap.size ≤ ad.block)) → SlR depE w' (fun b=>(b < w6.heap.size ∨ w7.heap.size ≤ b) ∧ b < w8.heap.size) t47 peers → Za5 env (peers.drop (j + 1)) O2 = Za5 env peers out → (O2.map (·.name)).Nodup → i ≤ O2.length → O2.length ≤ out.length + (j + 1) → J3 so2 vn2 w':=fun so2 vn2 w' O2 So2 q1 q2 q3 q4 q5 q6 q7 q8 q9 q10 q11=>by
      subst hJ3
      refine hnx' (peers.length - (j + 1)) so2 vn2 _ w' (by omega) ⟨j + 1,O2,So2,?_,rfl,hj,q1,q2,q3,q4,q5,q6,q7,q8,q9,q10,q11⟩
      rw [Zb (by omega) (by omega)]; omega
     clear hJ3 hnx'
     refine ⟨adp,⟨hpa,by omega,hlt3⟩,_,by rw [Int.toNat_natCast]; exact (hcp _ (Ext.refl _)).pre rfl,?_⟩
     refine SE.Zcx.go (Zkt (hE.ext x09) (fun v w10 hv x10=>⟨_,_,_,true,rfl,newS.set rfl fun a22 w11 x11 hb11 hab11=>bnd.drew fun w12 x12=>bound ⟨adp,fun _ => ⟨hpa,by omega,hlt3⟩,tr,fun _ => by rw [Int.toNat_natCast]; exact (hcp _ (x10.trans (x11.trans x12))).mid (k:=1) (r:=[]) rfl,v.ma,v.mi,v.pa,fun _ => (hb11.ext x12).ldc.pre (r:=[]) rfl,?_⟩⟩) fun w10 hv x10=>⟨_,_,_,false,rfl,newS.set rfl fun a22 w11 x11 hb11 _ => bnd.drew fun w12 x12=>bound ⟨adp,(fun h=>by cases h),tr,(fun h=>by cases h),0,0,0,(fun h=>by cases h),?_⟩⟩)
     ·have x912:=x10.trans (x11.trans x12)
      refine gCall.intro (Z3 dd.range v) (fun _ k hk=>SE.Zcm.go (Zm3 (hdr.ext x912) fun w' hx=>⟨_,rfl,hk w' hx⟩)) fun t73 w13 x13 ht=>?_
      rw [ht rfl]
      have x913:=x912.trans x13
      refine ⟨fun hq2=>bad w13 (x09.trans x913) (Zlo hv (by simpa using hq2)),fun hq2=>bnd.drew fun w14 x14=>?_⟩
      have hin : Z3 dd.range v = true:=by simpa using hq2
      have x914:=x913.trans x14
      have hb14:=hb11.ext (x12.trans (x13.trans x14))
      refine ⟨adp,⟨hpa,by omega,hlt3⟩,_,by rw [Int.toNat_natCast]; exact (hcp _ x914).pre rfl,v.ma,v.mi,v.pa,hb14.ldc.pre (r:=[]) rfl,?_⟩
      refine SE.Zcp.go (Zt2 (e:=O) (p:=⟨dd.name,v⟩) (S:=So) (fun b hb=>by have:=(hSo b hb).2; have:=x914.size; omega) (hsO.ext x914) hnd hds (by omega) (fun w15 x15 hany=>⟨so',false,rfl,(fun h=>by cases h),fun _ => ?_⟩) fun t85 w15 x15 hany ht85=>⟨t85,true,rfl,fun _ => bnd.drew fun w16 x16=>?_,(fun h=>by cases h)⟩)
      ·have x915:=x914.trans x15
       have s915:=x915.size
       rw [Zkh hv hin hany] at hst
       exact hJ' so' vn w15 O So (x9.trans x915) (by omega) (hsO.ext x915) (fun b hb=>⟨(hSo b hb).1,by have:=(hSo b hb).2; omega⟩) (oV.ext x915) hap (hP9.ext x915) hst hnd hiO (by omega)
      ·have x916:=x914.trans (x15.trans x16)
       have s914:=x914.size
       have s15:=x15.size
       have s16:=x16.size
       rw [Zkg hv hin hany] at hst
       refine ⟨adp,⟨hpa,by omega,hlt3⟩,_,by rw [Int.toNat_natCast]; exact (hcp _ x916).pre rfl,v.ma,v.mi,v.pa,(hb14.ext (x15.trans x16)).ldc.pre (r:=[]) rfl,newS.intro fun a48 w17 x17 hb17 hab17 _ => ?_⟩
       have x917:=x916.trans x17
       have s17:=x17.size
       have s917:=x917.size
       have s69:=x9.size
       have hOd : (O.drop i).length = O.length - i:=List.length_drop
       refine (oV.ext x917).push Zmf (by omega) (x:=⟨dd.name,v⟩) (S':=None') ⟨rfl,hds⟩ (hb17.ldc.pre (r:=[]) rfl) (fun _ h=>h.elim) (fun _ _ h=>h.elim) (by rw [hOd,eb]; unfold room; omega) (by rw [hOd,Zd]; omega) fun vn2 w18 o18 bel18 oth18 reg18=>?_
       have o18:=OwnS.flat (fun h=>h) o18
       have hoth : Oth vn w17 w18:=⟨bel18.size,oth18⟩
       have s18:=bel18.size
       have x618 : Ext w6 w18:=(x9.trans x917).trans' bel18
       have ht85':=(ht85.ext (x16.trans x17))
       have hvb : ∀ ad,vn.a = some ad → ad.block < w9.heap.size:=fun ad had=>(oV.block had).2.1
       refine hJ' t85 vn2 w18 (O ++ [⟨dd.name,v⟩]) (fun b=>w14.heap.size ≤ b ∧ b < w15.heap.size) x618 (by omega) (ht85'.oth hoth fun ad had hb=>by have:=hvb ad had; omega) (fun b hb=>⟨by have:=x09.size; omega,by omega⟩) ?_ (fun ad had=>?_) ((hP9.ext x917).oth hoth fun ad had hb=>by
         have:=(hap ad had).2; have:=(oV.block had).1; omega) hst ?_ (by rw [List.length_append]; omega) (by rw [List.length_append,List.length_singleton]; omega)
       ·rw [List.drop_append_of_le_length hiO]; exact o18
       ·rcases reg18 ad had with h | h
        ·have h1:=hvb ad h
         exact ⟨by omega,(hap ad h).2⟩
        ·exact ⟨by omega,.inr (by omega)⟩
       ·rw [List.map_append,List.nodup_append]
        refine ⟨hnd,by simp,fun a ha b hb=>?_⟩
        simp only [List.map_cons,List.map_nil,List.mem_singleton] at hb
        subst hb
        obtain ⟨z,hz,rfl⟩:=List.mem_map.1 ha
        have:=List.any_eq_false.1 hany z hz
        intro he; exact this (by simp [isN,he])
     ·refine gCall.intro false (fun h=>by cases h) fun t73 w13 x13 _ => ⟨fun _ => bad w13 (x09.trans ((x10.trans (x11.trans x12)).trans x13)) (Zjc hv),(fun h=>by cases h)⟩
    ·have hj : j = peers.length:=by omega
     rw [hj,List.drop_length] at hst
     have hst' : Za5 env (Za7 over y.peers) out = some O:=by rw [hPP]; exact hst.symm
     rw [Zlm hq hget hst'] at hgo
     have hI2:=hI.next hq hget hst'
     have s69:=x9.size
     have hrd:=oV.read (by rw [List.length_drop]; show _ * 40 ≤ room; unfold room; omega) (by rw [List.length_drop,Zd]; omega)
     refine hnx f so' vn w9 (by omega) ⟨i + 1,O,(x15.trans x6).trans x9,hsO.mono hSo,hrd.mono fun b hb=>?_,hI2,hgo,by omega⟩
     rcases hb with hb | ⟨ad,had,rfl⟩
     ·exact hb.elim
     ·have:=oV.block had; exact ⟨by omega,this.2.1⟩
  have hD5:=fun (k : ∀ d e o w',Ext w5 w' → Str (getD L q.name q.v).name → SlR depE w' SC d (getD L q.name q.v).deps → SlR depE w' SC e (getD L q.name q.v).peers → SlR depE w' SC o (getD L q.name q.v).opt → True)=>k
  refine ⟨SE.Zz.go (Zhl (n:=q.name) (v:=q.v) (hC.ext x05) fun d e o w6 x6 _ hd he ho=>⟨_,_,_,_,d,e,o,_,rfl,newS.set rfl fun a63 w7 x7 hb7 _ => key a63 d e o w7 (x6.trans x7) hb7 (he.ext x7)⟩),newS.intro fun a66 w6 x6 hb6 hab6 _ => SE.Zz.go (Zhl (n:=q.name) (v:=q.v) (hC.ext (x05.trans x6)) fun d e o w7 x7 _ hd he ho=>⟨_,_,_,_,d,e,o,_,rfl,stw0.intro (hb6.ext x7) (by simp) fun w8 b8 _ hb8=>?_⟩)⟩
  have x58 : Ext w5 w8:=b8.ext (x6.trans x7) (by omega)
  refine key a66 d e o w8 x58 hb8 (he.but b8 fun h=>?_)
  have:=hC.old _ h
  have:=x05.size
  omega
 ·have hnn : (pn :: out)[i]? = none:=List.getElem?_eq_none (by rw [List.length_cons]; omega)
  rw [Znk hnn] at hgo
  exact hsome (Zal out) so w4 (by rw [hgo0 (some out) hgo.symm]; rfl) x04 hso
end Go.Hal
namespace Go.Hal
open Go.Proofs.Tryz
end Go.Hal
namespace Go.Hal
open Go.Proofs.Tryz
open Go Go.RowKit Go.Proofs Go.Shelf
def Nb (sp : Addr) (w : World) : Nat → Prop:=fun b=>b < w.heap.size ∧ b ≠ sp.block
section
variable {α : Type} {E : Enc α} {w w' : World} {sp : Addr} {s : Sl} {l : List α}
theorem SlR.nbBut (h : SlR E w (Nb sp w) s l) (hb : But sp.block w w') : SlR E w' (Nb sp w') s l:=(h.but hb fun h=>h.2 rfl).mono fun b h=>⟨by have:=hb.1; have:=h.1; omega,h.2⟩
theorem SlR.nbExt (h : SlR E w (Nb sp w) s l) (hx : Ext w w') : SlR E w' (Nb sp w') s l:=(h.ext hx).mono fun b h=>⟨by have:=hx.size; have:=h.1; omega,h.2⟩
theorem SlR.nbNew (h : SlR E w' (fun b=>w.heap.size ≤ b ∧ b < w'.heap.size) s l) (hs : sp.block < w.heap.size) : SlR E w' (Nb sp w') s l:=h.mono fun b hb=>⟨hb.2,by omega⟩
end
theorem Nb.old (sp : Addr) (w : World) : Old (Nb sp w) w:=fun _ h=>h.1
def srch (K : K7) (D N d3 d4 t err : Int) (fnd : Sl) : List Value:=[.pointer (some K.cp),K.mD.v,K.mDev.v,K.mOpt.v,K.mOv.v,.bool K.dev,K.pS.v,.int .i64 D,.int .i64 N,.int .i64 d3,.int .i64 d4,.int .i64 t,.int .i64 err,fnd.v]
structure Cx (w : World) (sp : Addr) (q : Quest) (K : K7) : Prop where
 cat : ∃ SC,RefR w SC K.cp q.L ∧ ¬ SC sp.block ∧ K.cp.block ≠ sp.block
 deps : SlR depE w (Nb sp w) K.mD q.m.deps
 dv : SlR depE w (Nb sp w) K.mDev q.m.dev
 opt : SlR depE w (Nb sp w) K.mOpt q.m.opt
 over : SlR depE w (Nb sp w) K.mOv q.m.over
 pins : SlR pinE w (Nb sp w) K.pS q.pins
 dev : K.dev = q.dev
 lt : sp.block < w.heap.size
 may : Zcf q.m = true
section
variable {w w' : World} {sp : Addr} {q : Quest} {K : K7}
theorem Cx.but (h : Cx w sp q K) (hb : But sp.block w w') : Cx w' sp q K:=by
 obtain ⟨SC,h1,h2,h3⟩:=h.cat
 exact ⟨⟨SC,h1.stay hb.1 fun b hlt hc=>hb.2.2.2.2 b hlt (by
  rcases hc with hc | rfl
  ·rintro rfl; exact h2 hc
  ·exact h3),h2,h3⟩,h.deps.nbBut hb,h.dv.nbBut hb,h.opt.nbBut hb,h.over.nbBut hb,h.pins.nbBut hb,h.dev,by have:=h.lt; have:=hb.1; omega,h.may⟩
theorem Cx.ext (h : Cx w sp q K) (hx : Ext w w') : Cx w' sp q K:=h.but (hx.but _)
theorem Cx.good (h : Cx w sp q K) : GoodL q.L:=by obtain ⟨_,h1,_⟩:=h.cat; exact h1.good
theorem Zpx {k : Nat} {x : Node} {nds : Sl} {ns : List Node} {D N d3 d4 t err : Int} {fnd : Sl} {R : Sl → World → Prop} (hC : Cx w sp q K) (hb : BoxAt w sp (srch K D N d3 d4 t err fnd)) (hs : SlR nodeE w (Nb sp w) nds ns) (hk : ns[k]? = some x)
  (hR : ∀ t w',Ext w w' → SlR wantE w' (Nb sp w') t (q.wants ns k) → R t w') : SE.Zbh (some sp) nds (k : Int) w R:=by
 unfold SE.Zbh
 have hsm:=Zg6 hC.may
 have hsp:=hC.lt
 refine ⟨fun hk0=>bnd.drew fun w1 x1=>⟨sp,rfl,K.mD,K.mDev,K.mOpt,K.mOv,hb.at1 (k:=1) x1 rfl,sp,rfl,K.dev,hb.at1 (k:=5) x1 rfl,?_⟩,fun hk0=>?_⟩
 ·have hk0' : k = 0:=by omega
  subst hk0'
  refine SE.Zco.go (Zob (m:=q.m) (Nb.old sp w1) (hC.deps.nbExt x1) (hC.dv.nbExt x1) (hC.opt.nbExt x1) (hC.over.nbExt x1) (by unfold room; omega) fun t w2 x2 ht=>⟨_,rfl,hR t w2 (x1.trans x2) ?_⟩)
  rw [hC.dev] at ht
  have s1:=x1.size
  have s2:=x2.size
  exact ht.mono fun b h=>by
   rcases h with h | h
   ·exact ⟨by have:=h.1; omega,h.2⟩
   ·exact ⟨h.2,by omega⟩
 ·have hk0' : k ≠ 0:=by omega
  obtain ⟨hkl,hgx⟩:=List.getElem?_eq_some_iff.1 hk
  obtain ⟨ad,c,e,ha,hN,_,_,hc⟩:=Zjf hs hkl
  rw [hgx] at hN hc
  have hnl:=hs.len
  obtain ⟨SC,hcat,hSC,hcp⟩:=hC.cat
  obtain ⟨g1,g2,g3⟩:=Zlv hcat.good x.name x.v
  refine join.named fun J hJ=>bnd.drew fun w1 x1=>?_
  refine ⟨sp,rfl,_,hb.at0 x1 rfl,ad,⟨ha,by omega,by omega⟩,_,(hc _ x1).pre rfl,ad,⟨ha,by omega,by omega⟩,x.v.ma,x.v.mi,x.v.pa,(hc _ x1).mid (k:=1) rfl,?_⟩
  have key : ∀ (a : Addr) (d e o : Sl) (w3 : World),Ext w w3 → BoxAt w3 a [.string (getD q.L x.name x.v).name,.int .i64 (getD q.L x.name x.v).v.ma,.int .i64 (getD q.L x.name x.v).v.mi,.int .i64 (getD q.L x.name x.v).v.pa,d.v,e.v,o.v] →
    SlR depE w3 SC d (getD q.L x.name x.v).deps → SlR depE w3 SC o (getD q.L x.name x.v).opt → J a w3:=by
   subst hJ
   intro a d e o w3 x3 hba hd ho
   refine bnd.drew fun w4 x4=>?_
   have x04:=x3.trans x4
   have s04:=x04.size
   have hcl : ∀ b,SC b → Nb sp w4 b:=fun b h=>⟨by have:=hcat.old b h; omega,by rintro rfl; exact hSC h⟩
   refine ⟨_,_,_,_,d,e,o,hba.at0 (r:=[]) x4 rfl,sp,rfl,K.mD,K.mDev,K.mOpt,K.mOv,hb.at1 (k:=1) x04 rfl,?_⟩
   refine SE.Zd2.go (Zwl (p:=getD q.L x.name x.v) (Nb.old sp w4) ((hd.ext x4).mono hcl) ((ho.ext x4).mono hcl) (hC.over.nbExt x04) (by unfold room; omega) fun t w5 x5 ht=>⟨_,rfl,hR t w5 (x04.trans x5) ?_⟩)
   rw [Zmb hk0' hk]
   have s5:=x5.size
   exact ht.mono fun b h=>by
    rcases h with h | h
    ·exact ⟨by have:=h.1; omega,h.2⟩
    ·exact ⟨h.2,by omega⟩
  refine ⟨SE.Zz.go (Zhl (n:=x.name) (v:=x.v) (hcat.ext x1) fun d e o w3 x3 _ hd he ho=>⟨_,_,_,_,_,_,_,_,rfl,newS.set rfl fun a w4 x4 hb4 _ => key a d e o w4 (x1.trans (x3.trans x4)) hb4 (hd.ext x4) (ho.ext x4)⟩),newS.intro fun a w3 x3 hb3 hab _ => SE.Zz.go (Zhl (n:=x.name) (v:=x.v) ((hcat.ext x1).ext x3) fun d e o w4 x4 _ hd he ho=>⟨_,_,_,_,_,_,_,_,rfl,stw0.intro (hb3.ext x4) (by simp) fun w5 b5 _ hb5=>?_⟩)⟩
  have x15 : Ext w1 w5:=b5.ext (x3.trans x4) (by omega)
  have hna : ¬ SC a.block:=fun h=>by have:=(hcat.ext x1).old _ h; omega
  exact key a d e o w5 (x1.trans x15) hb5 (hd.but b5 hna) (ho.but b5 hna)
end
def Post (q : Quest) (sp : Addr) (K : K7) (d3 d4 : Int) (w : World) (o : Out) (b : Bool) (w' : World) : Prop:=But sp.block w w' ∧ (match o with
 | .fail t=>b = false ∧ t ≤ q.D ∧ BoxAt w' sp (srch K q.D q.N d3 d4 t 0 Sl.nil)
 | .done ns t=>b = true ∧ ∃ fnd,BoxAt w' sp (srch K q.D q.N d3 d4 t 0 fnd) ∧ SlR nodeE w' (Nb sp w') fnd ns
 | .err c=>b = true ∧ ∃ (t : Int) (fnd : Sl),BoxAt w' sp (srch K q.D q.N d3 d4 t c fnd)
 | .out=>False)
theorem But.trans' {g : Nat} {a b c : World} (h : But g a b) (k : But g b c) : But g a c :=
 ⟨Nat.le_trans h.1 k.1,k.2.1.trans h.2.1,k.2.2.1.trans h.2.2.1,k.2.2.2.1.trans h.2.2.2.1,fun x hx hn=>(k.2.2.2.2 x (by have:=h.1; omega) hn).trans (h.2.2.2.2 x hx hn)⟩
theorem Post.from {q : Quest} {sp : Addr} {K : K7} {d3 d4 : Int} {w0 w w' : World} {o : Out} {b : Bool} (h : Post q sp K d3 d4 w o b w') (hb : But sp.block w0 w) : Post q sp K d3 d4 w0 o b w':=⟨hb.trans' h.1,h.2⟩
structure NsOk (q : Quest) (ns : List Node) : Prop where
 len : ns.length ≤ q.N
 big : q.N ≤ 128
 root : ∃ x,ns[0]? = some x ∧ x.key = rootNode.key
 ctx : ∀ x ∈ ns,Rises x.ctx ∧ x.ctx.length ≤ 2048
def Zmd (q : Quest) (f : Nat) : Prop:=∀ (sp : Addr) (K : K7) (d3 d4 : Int) (ns : List Node) (k : Nat) (ws : List Want) (vk : Nat) (e : List Pin) (t : Nat) (nds wss es : Sl) (w : World),
 Cx w sp q K → BoxAt w sp (srch K q.D q.N d3 d4 t 0 Sl.nil) → NsOk q ns → k < ns.length → vk ≤ ws.length → ws.length ≤ 64 → (∀ x ∈ ws,Str x.name) → (e.map (·.name)).Nodup → (∀ p ∈ e,Str p.name) → e.length ≤ 2048 + vk → t ≤ q.D → q.D ≤ 4096 → q.go f ns k (ws.drop vk) e t ≠ .out →
 SlR nodeE w (Nb sp w) nds ns → SlR wantE w (Nb sp w) wss ws → SlR pinE w (Nb sp w) es (Zal e) →
 callS prog 75 [.pointer (some sp),nds.v,.int .i64 k,wss.v,.int .i64 vk,es.v] w fun v w'=>∃ b,v = .bool b ∧ Post q sp K d3 d4 w (q.go f ns k (ws.drop vk) e t) b w'
theorem Zu1 {q : Quest} {ns : List Node} {k : Nat} (hG : GoodL q.L) (hm : Zcf q.m = true) : (q.wants ns k).length ≤ 64:=by
 have hsm:=Zg6 hm
 unfold Quest.wants Zu0
 split
 ·rw [Zgm]; have:=Zim q.m q.dev; omega
 ·split
  ·exact Nat.zero_le _
  ·split
   ·exact Nat.zero_le _
   ·rename_i p hp
    rw [Zgm]
    obtain ⟨_,_,h1,h2,h3⟩:=Zhh (hG.may p (Ze8 hp).1)
    have:=(Zk h1).1
    have:=(Zk h3).1
    omega
theorem Zyy {w : World} {S : Nat → Prop} {s : Sl} {l : List Want} (h : SlR wantE w S s l) : ∀ x ∈ l,Str x.name:=fun x hx=>by
 obtain ⟨n,hn,rfl⟩:=List.mem_iff_getElem.1 hx
 obtain ⟨_,_,_,_,h1,_⟩:=Zoq h hn
 exact h1
theorem Zyf {w : World} {S : Nat → Prop} {s : Sl} {l : List Pin} (h : SlR pinE w S s l) : ∀ q ∈ l,Str q.name:=fun q hq=>by
 obtain ⟨n,hn,rfl⟩:=List.mem_iff_getElem.1 hq
 obtain ⟨_,_,_,h1,_⟩:=Zg0 h hn
 exact h1
theorem Zod {q : Quest} {f : Nat} (hf : Zmd q f) {sp : Addr} {K : K7} {d3 d4 : Int} {ns : List Node} {k t : Nat} {nds : Sl} {w : World} {R : Bool → World → Prop} (hC : Cx w sp q K) (hb : BoxAt w sp (srch K q.D q.N d3 d4 t 0 Sl.nil)) (hN : NsOk q ns) (hk : k ≤ ns.length) (ht : t ≤ q.D) (hD : q.D ≤ 4096)
  (hs : SlR nodeE w (Nb sp w) nds ns) (hne : k < ns.length → q.go f ns k (q.wants ns k) (ctxAt ns k) t ≠ .out)
  (hR : ∀ b w',Post q sp K d3 d4 w (if k = ns.length then .done ns t else q.go f ns k (q.wants ns k) (ctxAt ns k) t) b w' → R b w') : SE.Zan (some sp) nds (k : Int) w R:=by
 unfold SE.Zan
 have hsl:=hs.len
 refine ⟨fun h=>⟨sp,rfl,?_⟩,fun h=>?_⟩
 ·have hkn : k = ns.length:=by omega
  rw [if_pos hkn] at hR
  refine stw.intro (o:=13) hb (by show 14 ≤ 14; omega) fun w1 b1 _ hb1=>hR true w1 ⟨b1,rfl,nds,hb1,hs.nbBut b1⟩
 ·have hkn : k < ns.length:=by omega
  rw [if_neg (by omega)] at hR
  have hkx : ns[k]? = some ns[k]:=List.getElem?_eq_getElem hkn
  obtain ⟨ad,c,e,ha,_,hcx,_,hc⟩:=Zjf hs hkn
  refine bnd.drew fun w1 x1=>⟨ad,⟨ha,by omega,by omega⟩,c,(hc _ x1).mid (k:=4) rfl,?_⟩
  refine callX.intro (SE.Zbh.go (Zpx (hC.ext x1) (hb.ext x1) (hs.nbExt x1) hkx fun ws w2 x2 hws=>⟨x2,ws,rfl,?_⟩))
  have x02:=x1.trans x2
  have hctx : ctxAt ns k = ns[k].ctx:=by unfold ctxAt keyAt; rw [List.getElem?_map,hkx]; rfl
  obtain ⟨q1,q2⟩:=hN.ctx _ (List.getElem_mem hkn)
  have hcs : SlR pinE w2 (Nb sp w2) c (Zal (ctxAt ns k)):=by rw [hctx,Zr8 q1]; exact hcx.nbExt x02
  refine (hf sp K d3 d4 ns k (q.wants ns k) 0 (ctxAt ns k) t nds ws c w2 (hC.ext x02) (hb.ext x02) hN hkn (Nat.zero_le _) (Zu1 hC.good hC.may) (Zyy hws) (by rw [hctx]; exact q1.nodup) (by rw [hctx]; exact Zyf hcx) (by rw [hctx]; omega) ht hD (hne hkn) (hs.nbExt x02) hws hcs).mono fun v w3 ⟨b,hv,hP⟩=>⟨b,hv,hR b w3 (hP.from (x02.but _))⟩
end Go.Hal
namespace Go.Hal
open Go.Proofs.Tryz
open Go Go.RowKit Go.Proofs Go.Shelf
def ctxE : Enc (List Pin) where
 n:=1
 bytes:=24
 rep:=fun w S l cs=>∃ s : Sl,cs = [s.v] ∧ SlR pinE w S s l
 len:=fun ⟨_,h,_⟩=>by rw [h]; rfl
 one:=fun ⟨s,h,_⟩ v hv=>by rw [h] at hv; simp [Sl.v] at hv; subst hv; rfl
 mono:=fun ⟨s,h,hr⟩ hs=>⟨s,h,hr.mono hs⟩
 keep:=fun ⟨s,h,hr⟩ hk=>⟨s,h,hr.keep hk⟩
theorem Zy7 : ApT prog 235 26 1 24:=Zga (z:=.slice none 0 0) (by kernel_rfl) (by kernel_rfl) rfl (by decide)
inductive CtxsAre (q : Quest) (env : List Pin) : List Pin → List (List Pin) → Prop
 | nil : CtxsAre q env [] []
 | snoc {ps : List Pin} {cs : List (List Pin)} {p : Pin} {c : List Pin} (h : CtxsAre q env ps cs) (k : Zc4 q.L q.m.over env p = some c) : CtxsAre q env (ps ++ [p]) (cs ++ [c])
def mkNd (p : Pin) (c : List Pin) : Node:=⟨p.name,p.v,c,[]⟩
theorem Zjp {q : Quest} {env : List Pin} {p : Pin} {c : List Pin} (hc : Zc4 q.L q.m.over env p = some c) : ∀ {ps : List Pin},targets q env (ps ++ [p]) = (targets q env ps).map fun xs=>xs ++ [mkNd p c]
 | []=>by rw [List.nil_append,Zfh hc]; rfl
 | a :: r=>by
  rw [List.cons_append]
  cases ha : Zc4 q.L q.m.over env a with
  | none=>rw [Zgk ha,Zgk ha]; rfl
  | some d =>
   rw [Zfh ha,Zfh ha,Zjp hc]
   cases targets q env r <;> rfl
theorem CtxsAre.len {q : Quest} {env ps : List Pin} {cs : List (List Pin)} (h : CtxsAre q env ps cs) : cs.length = ps.length:=by
 induction h with
 | nil=>rfl
 | snoc _ _ ih=>simp [ih]
theorem CtxsAre.targets {q : Quest} {env ps : List Pin} {cs : List (List Pin)} (h : CtxsAre q env ps cs) : targets q env ps = some (List.zipWith mkNd ps cs):=by
 induction h with
 | nil=>rfl
 | snoc h k ih =>
  rw [Zjp k,ih,Option.map_some,List.zipWith_append h.len.symm]
  rfl
theorem CtxsAre.get {q : Quest} {env ps : List Pin} {cs : List (List Pin)} (h : CtxsAre q env ps cs) : ∀ (i : Nat) (h1 : i < ps.length) (h2 : i < cs.length),Zc4 q.L q.m.over env ps[i] = some cs[i]:=by
 induction h with
 | nil=>intro i h1; simp at h1
 | snoc h k ih =>
  rename_i ps cs p c
  intro i h1 h2
  have hl:=h.len
  by_cases hi : i < ps.length
  ·rw [List.getElem_append_left hi,List.getElem_append_left (by omega)]
   exact ih i hi (by omega)
  ·have : i = ps.length:=by simp at h1; omega
   subst this
   rw [List.getElem_append_right (Nat.le_refl _),List.getElem_append_right (by omega)]
   simpa [hl] using k
theorem Zjo {q : Quest} {env : List Pin} : ∀ {ps : List Pin},(∃ p ∈ ps,Zc4 q.L q.m.over env p = none) → targets q env ps = none
 | [],h=>by obtain ⟨p,hp,_⟩:=h; cases hp
 | a :: r,h=>by
  cases ha : Zc4 q.L q.m.over env a with
  | none=>exact Zgk ha
  | some d =>
   rw [Zfh ha,Zjo]
   ·rfl
   ·obtain ⟨p,hp,hn⟩:=h
    rcases List.mem_cons.1 hp with rfl | hp
    ·rw [ha] at hn; cases hn
    ·exact ⟨p,hp,hn⟩
theorem Znl {L : List Pack} (hG : GoodL L) {over : List Dep} {env c : List Pin} {p : Pin} (h : Zc4 L over env p = some c) : Rises c ∧ c.length ≤ 2048:=⟨(Zmn h).1,(Zkf hG h).2⟩
theorem Zr3 {q : Quest} {f : Nat} (hf : Zmd q f) {sp : Addr} {K : K7} {d3 d4 : Int} {ns : List Node} {k t : Nat} {e : List Pin} {nds es : Sl} {w : World} {R : Bool → World → Prop} (hC : Cx w sp q K) (hb : BoxAt w sp (srch K q.D q.N d3 d4 t 0 Sl.nil)) (hN : NsOk q ns) (hk : k < ns.length)
  (hel : e.length ≤ 2200) (ht : t ≤ q.D) (hD : q.D ≤ 4096) (hs : SlR nodeE w (Nb sp w) nds ns) (hes : SlR pinE w (Nb sp w) es (Zal e)) (hne : q.go (f + 1) ns k [] e t ≠ .out)
  (hR : ∀ b w',Post q sp K d3 d4 w (q.go (f + 1) ns k [] e t) b w' → R b w') : SE.Zbu (some sp) nds (k : Int) es w R:=by
 unfold SE.Zbu
 have hbd : q.bind ns k e = match targets q (Zal e) (Zal e) with | none=>.graph | some xs=>match putK q.N (ns.map Node.key) xs with | none=>.many | some r=>.ok (Zby ns k r.2 ++ r.1):=rfl
 rw [Quest.go] at hne hR
 have hle : (Zal e).length = e.length:=(Zbe e).length_eq
 generalize Zal e = E at *
 have hEl:=hes.len
 have hsp:=hC.lt
 have hG:=hC.good
 refine loop2.up hes.max (fun cs i w'=>Ext w w' ∧ ∃ (l : List (List Pin)) (Q : Nat → Prop),OwnS ctxE 26 w' w.heap.size Q cs l ∧ (∀ b,Q b → w.heap.size ≤ b) ∧ CtxsAre q E (E.take i) l) ⟨Ext.refl _,[],None',OwnS.zero w,fun _ h=>h.elim,.nil⟩ fun cs i w1 nxt hi ⟨x1,l,Q,oC,hQ,hA⟩ hn=>⟨fun hlt=>bnd.drew fun w2 x2=>?_,fun hge=>?_⟩
 ·have hlt' : i < E.length:=by omega
  obtain ⟨ad,had,_,hst,hc⟩:=Zg0 hes hlt'
  have x02:=x1.trans x2
  have hC2:=hC.ext x02
  have hll:=hA.len
  rw [List.length_take] at hll
  refine ⟨sp,rfl,_,hb.at0 x02 rfl,sp,rfl,K.mD,K.mDev,K.mOpt,K.mOv,hb.at1 (k:=1) x02 rfl,ad,⟨had,by omega,hlt⟩,_,_,_,_,hc _ x02,?_⟩
  obtain ⟨SC,hcat,_,_⟩:=hC2.cat
  refine SE.Zce.go (Zm4 (pn:=E[i]) hcat (Nb.old sp w2) (Nb.old sp w2) hC2.over (hes.nbExt x02) hst (fun a t37 w3 ha x3 ht37=>⟨t37,true,rfl,(fun h=>by cases h),fun _ => newS.intro fun ax w4 x4 hb4 hab4 _ => ?_⟩) fun w3 ha x3=>⟨_,false,rfl,fun _ => ?_,(fun h=>by cases h)⟩)
  ·have x24:=x3.trans x4
   have x14:=x2.trans x24
   have s3:=x3.size
   have s14:=x14.size
   have s02:=x02.size
   have eb : ctxE.bytes = 24:=rfl
   have hlim : l.length ≤ 2200:=by omega
   refine (oC.ext x14).push Zy7 (by have:=x1.size; omega) (x:=a) (S':=fun b=>w2.heap.size ≤ b ∧ b < w3.heap.size) ⟨t37,rfl,ht37.ext x4⟩ (hb4.ldc.pre (r:=[]) rfl) (fun b hb=>by have:=x4.size; omega) (fun ad' had' hb=>by
    have:=(oC.block had').2.1
    have:=x2.size; omega) (by rw [eb]; unfold room; omega) (by rw [Zd]; omega) fun cs2 w5 o5 bel5 _ _ => ?_
   have x05 : Ext w w5:=(x1.trans x14).trans' bel5
   refine hn hlt' cs2 w5 ⟨x05,l ++ [a],_,o5,fun b hb=>?_,?_⟩
   ·rcases hb with hb | hb
    ·exact hQ b hb
    ·omega
   ·rw [List.take_succ_eq_append_getElem hlt']; exact hA.snoc ha
  ·have hg : q.bind ns k e = .graph:=by rw [hbd,Zjo ⟨_,List.getElem_mem hlt',ha⟩]
   rw [hg] at hR
   exact hR false w3 ⟨(x02.trans x3).but _,rfl,ht,hb.ext (x02.trans x3)⟩
 ·rw [List.take_of_length_le (by omega)] at hA
  clear hn
  have hll:=hA.len
  have s1:=x1.size
  have hcs : SlR ctxE w1 (Nb sp w1) cs l:=(oC.read (by show l.length * 24 ≤ room; unfold room; omega) (by rw [Zd]; omega)).mono fun b hb=>by
   rcases hb with hb | ⟨ad,had,rfl⟩
   ·have:=hQ b hb; exact ⟨oC.lt b hb,by omega⟩
   ·have:=oC.block had; exact ⟨this.2.1,by omega⟩
  rw [hA.targets] at hbd
  have hnl:=hN.len
  have hnb:=hN.big
  have hs1:=hs.nbExt x1
  have eN : nodeE.bytes = 88:=rfl
  have eE : edgeE.bytes = 24:=rfl
  refine (OwnS.zero (E:=nodeE) (T:=65) w1).appAll Zqa (Nat.le_refl _) hs1 (Nb.old sp w1) (fun ad h=>by cases h) (by rw [eN]; simp; unfold room; omega) (by rw [Zd]; simp; omega) fun out0 w2 o2 bel2 _ _ => ?_
  rw [List.nil_append] at o2
  have x2 : Ext w1 w2:=(Ext.refl w1).trans' bel2
  have o2 : OwnS nodeE 65 w2 w1.heap.size (Nb sp w1) out0 ns:=o2.mono (fun b hb=>hb.elim (fun h=>h.elim) id) (fun b hb=>by have:=x2.size; have:=hb.1; omega) (fun ad had hb=>by have:=(o2.block had).1; have:=hb.1; omega)
  have hzl : (List.zipWith mkNd E l).length = E.length:=by rw [List.length_zipWith]; omega
  have hzg : ∀ (i : Nat) (h1 : i < E.length) (h2 : i < l.length),(List.zipWith mkNd E l)[i]? = some (mkNd E[i] l[i]):=fun i h1 h2=>by
   rw [List.getElem?_eq_getElem (by omega),List.getElem_zipWith]
  generalize hxs : List.zipWith mkNd E l = xs at *
  have hrk : ∀ (p : Pin) (c : List Pin),Zc4 q.L q.m.over E p = some c → ∀ (m : List Node) (h : 0 < (ns ++ m).length),(ns ++ m)[0].key ≠ (p.name,p.v,c):=fun p c hc m h he=>by
   obtain ⟨x,hx,hk0⟩:=hN.root
   have h1 : (ns ++ m)[0]? = some x:=by rw [List.getElem?_append_left (by omega)]; exact hx
   rw [List.getElem?_eq_getElem h] at h1
   cases h1
   rw [hk0] at he
   have:=congrArg (·.1) he
   exact Ztf hG (Znm hc) this.symm
  refine loop3.up hes.max (fun so se i w'=>∃ (added : List Node) (ed : List Edge),Ext w1 w' ∧ OwnS nodeE 65 w' w1.heap.size (Nb sp w1) so (ns ++ added) ∧ OwnS edgeE 90 w' w1.heap.size None' se ed ∧ Apart so se ∧ (ns ++ added).length ≤ q.N ∧ (∀ x ∈ added,Rises x.ctx ∧ x.ctx.length ≤ 2048) ∧ ed.length = i ∧
    putK q.N (ns.map Node.key) xs = (putK q.N ((ns ++ added).map Node.key) (xs.drop i)).map fun r=>(added ++ r.1,ed ++ r.2))
   ⟨[],[],x2,by rw [List.append_nil]; exact o2,OwnS.nil _ _,(fun _ _ _ h=>by cases h),by rw [List.append_nil]; exact hnl,(fun _ h=>by cases h),rfl,by rw [List.append_nil,List.drop_zero]; cases putK q.N (ns.map Node.key) xs <;> rfl⟩ fun so se i w3 nxt hi3 ⟨added,ed,x3,oN,oE,hap,hlN,hadc,hedl,hput⟩ hnx=>⟨fun hlt=>bnd.drew fun w4 x4=>?_,fun hge3=>?_⟩
  ·have hlt' : i < E.length:=by omega
   have hil : i < l.length:=by omega
   obtain ⟨ad,had,_,hst,hc⟩:=Zg0 hes hlt'
   obtain ⟨ac,ccs,hac,_,⟨t63,rfl,ht63⟩,hcc⟩:=hcs.el hil
   have hctx:=hA.get i hlt' hil
   have x34:=x3.trans x4
   have x04:=x1.trans x34
   have hcsl:=hcs.len
   have oN4:=oN.ext x4
   have hread:=oN4.read (by rw [eN]; unfold room; omega) (by rw [Zd]; omega)
   have hxd : xs.drop i = mkNd E[i] l[i] :: xs.drop (i + 1):=by
    obtain ⟨h1,h2⟩:=List.getElem?_eq_some_iff.1 (hzg i hlt' hil)
    rw [List.drop_eq_getElem_cons h1,h2]
   rw [hxd] at hput
   refine ⟨ad,⟨had,by omega,hlt⟩,_,_,_,_,hc _ x04,ac,⟨hac,by omega,by omega⟩,t63,hcc _ x34,?_⟩
   have hnlen : 1 ≤ (ns ++ added).length:=by rw [List.length_append]; omega
   refine SE.Zcy.go (Zwi (p:=E[i]) hread (ht63.ext x34) hnlen fun pl w5 x5 hpl=>⟨_,rfl,join.named fun J hJ=>?_⟩)
   have hfind:=hpl.find (hrk E[i] l[i] hctx added)
   have hsol:=oN.len
   have x35:=x4.trans x5
   have x15:=x34.trans x5
   have hkey : (mkNd E[i] l[i]).key = (E[i].name,E[i].v,l[i]):=rfl
   have s15:=x15.size
   have hJ' : ∀ (so' : Sl) w' (added' : List Node),Ext w1 w' → OwnS nodeE 65 w' w1.heap.size (Nb sp w1) so' (ns ++ added') → OwnS edgeE 90 w' w1.heap.size None' se ed → Apart so' se → (ns ++ added').length ≤ q.N → (∀ x ∈ added',Rises x.ctx ∧ x.ctx.length ≤ 2048) →
     putK q.N (ns.map Node.key) xs = (putK q.N ((ns ++ added').map Node.key) (xs.drop (i + 1))).map (fun r=>(added' ++ r.1,ed ++ (⟨E[i].name,(pl : Int)⟩ :: r.2))) → J so' w':=by
    subst hJ
    intro so' w6 added' x6 q1 q2 q3 q4 q5 q6
    have x06:=x1.trans x6
    have s16:=x6.size
    refine ⟨ad,⟨had,by omega,hlt⟩,_,(hc _ x06).pre rfl,newS.intro fun a28 w7 x7 hb7 hab7 _ => ?_⟩
    refine (q2.ext x7).push Zw7 (by have:=x7.size; omega) (x:=⟨E[i].name,(pl : Int)⟩) (S':=None') ⟨rfl,hst⟩ (hb7.ldc.pre (r:=[]) rfl) (fun _ h=>h.elim) (fun _ _ h=>h.elim) (by rw [eE,hedl]; unfold room; omega) (by rw [Zd,hedl]; omega) fun se2 w8 o8 bel8 oth8 reg8=>?_
    have o8:=OwnS.flat (fun h=>h) o8
    have hoth : Oth se w7 w8:=⟨bel8.size,oth8⟩
    have x18 : Ext w1 w8:=(x6.trans x7).trans' bel8
    have q1':=q1.ext x7
    refine hnx hlt' so' se2 w8 ⟨added',_,x18,q1'.oth hoth q3 (fun a ha hQb=>by have:=(q2.block ha).1; have:=hQb.1; omega),o8,fun a b ha hb'=>?_,q4,q5,by rw [List.length_append,List.length_singleton,hedl],?_⟩
    ·rcases reg8 b hb' with h | h
     ·exact q3 a b ha h
     ·have:=(q1'.block ha).2.1; omega
    ·rw [q6]
     congr 1
     funext r
     rw [List.append_assoc]; rfl
   clear hJ hnx
   refine ⟨fun hq=>?_,fun hq=>?_⟩
   ·have hpe : pl = (ns ++ added).length:=by omega
    have hnone:=hfind.2 hpe
    rw [← hkey] at hnone
    refine ⟨sp,rfl,q.N,?_,fun hq2=>⟨sp,rfl,?_⟩,fun hq2=>bnd.drew fun w6 x6=>?_⟩
    ·have:=hb.at1 (k:=8) (cs':=[.int .i64 (q.N : Int)]) (x1.trans x15) rfl
     rw [Zfs]; exact this
    ·have hfull : ((ns ++ added).map Node.key).length = q.N:=by rw [List.length_map]; omega
     rw [Zn9 hnone hfull] at hput
     have hm : q.bind ns k e = .many:=by rw [hbd]; dsimp only; rw [hput]; rfl
     rw [hm] at hR
     refine stw.intro (o:=12) (hb.ext (x1.trans x15)) (by show 13 ≤ 14; omega) fun w6 b6 _ hb6=>hR true w6 ⟨((x1.trans x15).but _).trans' b6,rfl,(t : Int),Sl.nil,hb6⟩
    ·have hnf : ¬ ((ns ++ added).map Node.key).length = q.N:=by rw [List.length_map]; omega
     rw [Zqw hnone hnf] at hput
     have x16:=x15.trans x6
     have x06:=x1.trans x16
     refine ⟨ad,⟨had,by omega,hlt⟩,_,(hc _ x06).pre rfl,ad,⟨had,by omega,hlt⟩,E[i].v.ma,E[i].v.mi,E[i].v.pa,(hc _ x06).mid (k:=1) (r:=[]) rfl,ac,⟨hac,by omega,by omega⟩,t63,hcc _ x16,newS.intro fun a47 w7 x7 hb7 hab7 _ => ?_⟩
     have x37:=x35.trans (x6.trans x7)
     have s67:=(x16.trans x7).size
     have hrep : nodeE.rep w7 (Nb sp w1) (mkNd E[i] l[i]) [.string E[i].name,.int .i64 E[i].v.ma,.int .i64 E[i].v.mi,.int .i64 E[i].v.pa,t63.v,Sl.nil.v]:=⟨hst,t63,Sl.nil,rfl,ht63.ext (x16.trans x7),SlR.nil trivial⟩
     have hlN2 : (ns ++ added).length + 1 ≤ q.N:=by rw [List.length_map] at hnf; omega
     refine (oN.ext x37).push Zqa s67 (x:=mkNd E[i] l[i]) (S':=Nb sp w1) hrep (hb7.ldc.pre (r:=[]) rfl) (fun b hb=>by have:=hb.1; omega) (fun a ha hb=>by have:=(oN.block ha).1; have:=hb.1; omega) (by rw [eN]; unfold room; omega) (by rw [Zd]; omega) fun so2 w8 o8 bel8 oth8 reg8=>?_
     have o8 : OwnS nodeE 65 w8 w1.heap.size (Nb sp w1) so2 (ns ++ (added ++ [mkNd E[i] l[i]])):=by
      rw [← List.append_assoc]
      exact o8.mono (fun b hb=>hb.elim id id) (fun b hb=>by have:=hb.1; have:=bel8.size; omega) (fun a ha hb=>by have:=(o8.block ha).1; have:=hb.1; omega)
     have hoth : Oth so w7 w8:=⟨bel8.size,oth8⟩
     have x18 : Ext w1 w8:=(x16.trans x7).trans' bel8
     have oE7:=oE.ext x37
     refine hJ' so2 w8 (added ++ [mkNd E[i] l[i]]) x18 o8 (oE7.oth hoth hap.swap fun _ _ h=>h.elim) (fun a b ha hb'=>?_) (by rw [← List.append_assoc,List.length_append,List.length_singleton]; exact hlN2) (fun x hx=>?_) ?_
     ·rcases reg8 a ha with h | h
      ·exact hap a b h hb'
      ·have:=(oE7.block hb').2.1; omega
     ·rcases List.mem_append.1 hx with hx | hx
      ·exact hadc x hx
      ·rw [List.mem_singleton] at hx; subst hx; exact Znl hG hctx
     ·rw [hput,Option.map_map]
      have e1 : (ns ++ added).map Node.key ++ [(mkNd E[i] l[i]).key] = (ns ++ (added ++ [mkNd E[i] l[i]])).map Node.key:=by rw [← List.append_assoc,List.map_append (l₂ := [mkNd E[i] l[i]])]; rfl
      rw [e1]
      congr 1
      funext r
      show (added ++ (mkNd E[i] l[i] :: r.1),ed ++ ((⟨E[i].name,_⟩ : Edge) :: r.2)) = _
      rw [List.append_assoc,hpe,List.length_map]; rfl
   ·have hpl2 : pl < (ns ++ added).length:=by have:=hpl.le; omega
    have hsome:=hfind.1 hpl2
    rw [← hkey] at hsome
    rw [Zqv hsome,Option.map_map] at hput
    exact hJ' so w5 added x15 (oN.ext x35) (oE.ext x35) hap hlN hadc hput
  ·have hdn : xs.drop i = []:=List.drop_eq_nil_of_le (by omega)
   rw [hdn] at hput
   have hput : putK q.N (ns.map Node.key) xs = some (added,ed):=by rw [hput,putK]; simp
   have hbok : q.bind ns k e = .ok (Zby ns k ed ++ added):=by rw [hbd]; dsimp only; rw [hput]
   rw [hbok] at hR hne
   dsimp only at hR hne
   have hk6 : k < (ns ++ added).length:=by rw [List.length_append]; omega
   have hgx : (ns ++ added)[k] = ns[k]:=List.getElem_append_left hk
   have hsol:=oN.len
   have oN' : OwnS nodeE 65 w3 w1.heap.size (fun b=>Nb sp w1 b ∨ ∃ ad,se.a = some ad ∧ b = ad.block) so (ns ++ added):=oN.mono (fun b hb=>.inl hb) (fun b hb=>by
    rcases hb with hb | ⟨ad,had,rfl⟩
    ·exact oN.lt b hb
    ·exact (oE.block had).2.1) (fun a ha hb=>by
    rcases hb with hb | ⟨ad,had,he⟩
    ·exact oN.apart a ha hb
    ·exact hap a ad ha had he)
   obtain ⟨ad50,cs50,had50,_,_⟩:=oN'.el (i:=k) (x:=ns[k]) (by rw [List.getElem?_eq_getElem hk6,hgx])
   refine ⟨ad50,⟨had50,by omega,by omega⟩,?_⟩
   have hrdE:=oE.read (by rw [eE,hedl]; unfold room; omega) (by rw [Zd,hedl]; omega)
   refine oN'.setEl (i:=k) (x:={ ns[k] with edges:=ed }) (o:=5) (new:=[se.v]) hk6 had50 (fun cs' hcs'=>?_) (by show 5 + 1 ≤ 6; omega) fun w4 b4 hz4 o4=>?_
   ·rw [hgx] at hcs'
    obtain ⟨k1,c',e',rfl,k2,k3⟩:=hcs'
    exact ⟨k1,c',se,rfl,k2,hrdE.mono fun b hb=>.inr (hb.elim (fun h=>h.elim) id)⟩
   ·have hset : (ns ++ added).set k { ns[k] with edges:=ed } = Zby ns k ed ++ added:=Zjh hk
    rw [hset] at o4
    have hl50:=(oN.block had50).1
    have x4 : Ext w1 w4:=b4.ext x3 hl50
    have x04:=x1.trans x4
    have s4:=x4.size
    have hln : (Zby ns k ed ++ added).length = (ns ++ added).length:=by rw [List.length_append,Zd6,List.length_append]
    have hrdN : SlR nodeE w4 (Nb sp w4) so (Zby ns k ed ++ added):=(o4.read (by rw [hln,eN]; unfold room; omega) (by rw [hln,Zd]; omega)).mono fun b hb=>by
     rcases hb with (hb | ⟨ad,had,rfl⟩) | ⟨ad,had,rfl⟩
     ·exact ⟨by have:=hb.1; omega,hb.2⟩
     ·have:=oE.block had; have:=b4.1; exact ⟨by omega,by omega⟩
     ·have:=o4.block had; exact ⟨this.2.1,by omega⟩
    have hN' : NsOk q (Zby ns k ed ++ added):=by
     refine ⟨by rw [hln]; exact hlN,hN.big,?_,fun x hx=>?_⟩
     ·obtain ⟨x,hx,hxk⟩:=hN.root
      have h1:=congrArg (fun l : List NKey=>l[0]?) (Zfd ns k ed)
      simp only [List.getElem?_map] at h1
      rw [hx] at h1
      cases h2 : (Zby ns k ed)[0]? with
      | none=>rw [h2] at h1; cases h1
      | some y =>
       rw [h2] at h1
       have : y.key = x.key:=Option.some.inj h1
       refine ⟨y,?_,this.trans hxk⟩
       rw [List.getElem?_append_left (List.getElem?_eq_some_iff.1 h2).1]; exact h2
     ·rcases List.mem_append.1 hx with hx | hx
      ·obtain ⟨y,hy,he⟩:=Zji hx
       rw [← he]; exact hN.ctx y hy
      ·exact hadc x hx
    have ew : Za ((k : Int) + 1) = ((k + 1 : Nat) : Int):=by rw [Zb (by omega) (by omega)]; omega
    rw [ew]
    refine SE.Zan.go (Zod hf (k:=k + 1) (hC.ext x04) (hb.ext x04) hN' (by rw [hln]; omega) ht hD hrdN (fun h=>?_) fun b w5 hP=>⟨b,rfl,hR b w5 (hP.from (x04.but _))⟩)
    rw [if_neg (by omega)] at hne
    exact hne
end Go.Hal
namespace Go.Hal
open Go.Proofs.Tryz
open Go Go.RowKit Go.Proofs Go.Shelf
theorem Ztz {x : List Ver × Bool} {i : Nat} (h : i < x.1.length) : (opts x).drop i = some x.1[i] :: (opts x).drop (i + 1):=by
 have hl : i < (opts x).length:=by unfold opts; rw [List.length_append,List.length_map]; omega
 rw [List.drop_eq_getElem_cons hl]
 congr 1
 have : (opts x)[i]? = some (some x.1[i]):=by
  unfold opts
  rw [List.getElem?_append_left (by rw [List.length_map]; exact h),List.getElem?_map,List.getElem?_eq_getElem h]; rfl
 rw [List.getElem?_eq_getElem hl] at this
 exact Option.some.inj this
theorem Zty {V : List Ver} : (opts (V,true)).drop V.length = [none]:=by
 unfold opts
 rw [List.drop_append_of_le_length (by simp),List.drop_of_length_le (by simp)]; rfl
theorem Zwg {V : List Ver} : (opts (V,false)).drop V.length = []:=List.drop_of_length_le (by simp [opts])
theorem Zn5 {V : List Ver} {b : Bool} : (opts (V,b)).drop (V.length + 1) = []:=List.drop_of_length_le (by cases b <;> simp [opts])
theorem Zww {D : Nat} {k : Option Ver → Nat → Out} {o : Option Ver} {os : List (Option Ver)} {t : Nat} (h : t = D) : Zez D k (o :: os) t = .err 31:=by rw [Zez,if_pos h]
theorem Zwx {D : Nat} {k : Option Ver → Nat → Out} {o : Option Ver} {os : List (Option Ver)} {t : Nat} (h : t ≠ D) : Zez D k (o :: os) t = match k o (t + 1) with | .fail t'=>Zez D k os t' | r=>r:=by rw [Zez,if_neg h]; rfl
theorem Zu7 {e : List Pin} {n : ByteArray} {o : Option Ver} (h : ∀ p ∈ e,Str p.name) (hn : Str n) : ∀ p ∈ addO e n o,Str p.name:=fun p hp=>by
 unfold addO at hp
 split at hp
 ·exact h p hp
 ·split at hp
  ·exact h p hp
  ·rcases List.mem_append.1 hp with hp | hp
   ·exact h p hp
   ·rw [List.mem_singleton] at hp; subst hp; exact hn
theorem Znh (q : Quest) : ∀ f,Zmd q f
 | 0=>fun sp K d3 d4 ns k ws vk e t nds wss es w _ _ _ _ _ _ _ _ _ _ _ _ hne=>absurd (by rw [Quest.go]) hne
 | f + 1=>fun sp K d3 d4 ns k ws vk e t nds wss es w hC hb hN hk hvk hwl hwS hnd hstr hel ht hD hne hs hw hes=>by
  have hf:=Znh q f
  have hwsl:=hw.len
  have hG:=hC.good
  have hsp:=hC.lt
  refine SE.Zb1.go ?_
  unfold SE.Zb1
  refine ⟨fun hv=>?_,fun hv=>?_⟩
  ·have hvl : vk = ws.length:=by omega
   rw [hvl,List.drop_length] at hne ⊢
   exact SE.Zbu.go (Zr3 hf hC hb hN hk (by omega) ht hD hs hes hne fun b w' hP=>⟨b,rfl,b,rfl,hP⟩)
  ·have hvl : vk < ws.length:=by omega
   have hdr : ws.drop vk = ws[vk] :: ws.drop (vk + 1):=List.drop_eq_getElem_cons hvl
   obtain ⟨ad,tr,had,_,hwn,hwr,hcw⟩:=Zoq hw hvl
   have hwm : ws[vk] ∈ ws:=List.getElem_mem hvl
   rw [hdr] at hne ⊢
   generalize ws[vk] = wt at *
   rw [Quest.go] at hne ⊢
   have hkx : ns[k]? = some ns[k]:=List.getElem?_eq_getElem hk
   obtain ⟨an,cx,ex,han,_,hcx,_,hcn⟩:=Zjf hs hk
   have hctx : ctxAt ns k = ns[k].ctx:=by unfold ctxAt keyAt; rw [List.getElem?_map,hkx]; rfl
   have hnl:=hs.len
   rw [hctx] at hne ⊢
   generalize hkf : (fun (o : Option Ver) (t : Nat)=>q.go f ns k (ws.drop (vk + 1)) (addO e wt.name o) t) = kf at *
   refine ⟨ad,⟨had,by omega,by omega⟩,_,_,tr,hcw _ (Ext.refl _),newS.set rfl fun a w2 x2 ha hab=>⟨_,ha.at1 (k:=1) (Ext.refl _) rfl,?_⟩⟩
   have hals : a.block ≠ sp.block:=by omega
   generalize hgoal : Zez q.D kf (opts (q.cand ns[k].ctx wt)) t = res at *
   refine join.named fun J57 hJ57=>?_
   have key57 : ∀ (v4 : Addr) (is : Bool) w5,Ext w2 w5 → (is = true → ∃ v,tells ns[k].ctx wt.name = some v ∧ BoxAt w5 v4 v.c) → (is = false → tells ns[k].ctx wt.name = none) → J57 v4 is w5:=by
    subst hJ57
    intro v4 is w5 x5 his1 his0
    refine join.named fun J34 hJ34=>?_
    have x05:=x2.trans x5
    have key34 : ∀ (vsl : Sl) (V : List Ver) (may : Bool) w6,Ext w5 w6 → SlR verE w6 (Nb sp w6) vsl V → V.length ≤ 1000 → q.cand ns[k].ctx wt = (V,may) → J34 vsl may w6:=by
     subst hJ34
     intro vsl V may w6 x6 hV hVl hcand
     rw [hcand] at hgoal
     have hvl6:=hV.len
     have x06:=x05.trans x6
     have x26:=x5.trans x6
     have ha6:=ha.ext x26
     have hal6:=ha6.lt
     have hsp6:=x06.size
     refine loop1.up (N:=V.length + 1) (by rw [Zd]; omega) (fun i w'=>∃ ti : Nat,But sp.block w6 w' ∧ BoxAt w' sp (srch K q.D q.N d3 d4 ti 0 Sl.nil) ∧ ti ≤ q.D ∧ Zez q.D kf ((opts (V,may)).drop i) ti = res) ⟨t,(Ext.refl w6).but _,hb.ext x06,ht,by rw [List.drop_zero]; exact hgoal⟩ fun i w7 nxt hi ⟨ti,b7,hb7,hti,htry⟩ hn=>⟨fun hle=>bound ?_,fun hgt=>?_⟩
     ·have hiV : i ≤ V.length:=by omega
      have b07 : But sp.block w w7:=(x06.but _).trans' b7
      by_cases hend : i = V.length ∧ may = false
      ·obtain ⟨h1,h2⟩:=hend
       subst h1 h2
       rw [Zwg,Zez] at htry
       have e1 : (((V.length : Int) == (vsl.len : Int)) && !false) = true:=by rw [hvl6]; simp
       refine ⟨fun _ => ?_,fun h=>by rw [e1] at h; cases h⟩
       rw [← htry]
       exact ⟨_,rfl,b07,rfl,hti,hb7⟩
      ·obtain ⟨o,ho1,ho2,ho3⟩ : ∃ o,(opts (V,may)).drop i = o :: (opts (V,may)).drop (i + 1) ∧ (∀ h : i < V.length,o = some V[i]) ∧ (¬ i < V.length → o = none):=by
        by_cases hlt : i < V.length
        ·exact ⟨some V[i],Ztz (x:=(V,may)) hlt,fun _ => rfl,fun h=>absurd hlt h⟩
        ·have hiv : i = V.length:=by omega
         have hm : may = true:=by
          cases may with
          | true=>rfl
          | false=>exact absurd ⟨hiv,rfl⟩ hend
         subst hm hiv
         exact ⟨none,by rw [Zty,Zn5],fun h=>absurd h hlt,fun _ => rfl⟩
       rw [ho1] at htry
       refine ⟨fun h=>?_,fun _ => bnd.drew fun w8 x8=>?_⟩
       ·rw [Bool.and_eq_true] at h
        obtain ⟨h1,h2⟩:=h
        have h1:=eq_of_beq h1
        exact absurd ⟨by omega,by simpa using h2⟩ hend
       ·have b8 : But sp.block w6 w8:=b7.trans' (x8.but _)
        have b08 : But sp.block w w8:=(x06.but _).trans' b8
        have hb8:=hb7.ext x8
        refine ⟨sp,rfl,ti,hb8.at1 (k:=11) (Ext.refl _) rfl,sp,rfl,q.D,hb8.at1 (k:=7) (Ext.refl _) rfl,fun hq=>⟨sp,rfl,?_⟩,fun hq=>⟨sp,rfl,ti,hb8.at1 (k:=11) (Ext.refl _) rfl,sp,rfl,?_⟩⟩
        ·have hq' : ti = q.D:=by omega
         rw [Zww hq'] at htry
         refine stw.intro (o:=12) hb8 (by show 13 ≤ 14; omega) fun w9 b9 _ hb9=>?_
         rw [← htry]
         exact ⟨_,rfl,b08.trans' b9,rfl,_,_,hb9⟩
        ·have hq' : ti ≠ q.D:=by omega
         rw [Zwx hq'] at htry
         have ew : Za ((ti : Int) + 1) = ((ti + 1 : Nat) : Int):=by rw [Zb (by omega) (by omega)]; omega
         rw [ew]
         refine stw.intro (o:=11) hb8 (by show 12 ≤ 14; omega) fun w9 b9 _ hb9=>?_
         have hb9 : BoxAt w9 sp (srch K q.D q.N d3 d4 ((ti + 1 : Nat) : Int) 0 Sl.nil):=hb9
         have b69:=b8.trans' b9
         have b09:=b08.trans' b9
         have ha9:=b69.box ha6 hals
         have hne2 : kf o (ti + 1) ≠ .out:=fun h=>by
          rw [h] at htry
          exact hne htry.symm
         refine join.named fun J hJ=>?_
         have keyJ : ∀ (vn : Sl) w22,Ext w9 w22 → SlR pinE w22 (Nb sp w22) vn (Zal (addO e wt.name o)) → J vn w22:=by
          subst hJ
          intro vn w22 x22 hvn
          have b022:=b09.trans' (x22.but _)
          have ev : Za ((vk : Int) + 1) = ((vk + 1 : Nat) : Int):=by rw [Zb (by omega) (by omega)]; omega
          rw [ev]
          have hal:=Zu6 e wt.name o
          have hcall:=hf sp K d3 d4 ns k ws (vk + 1) (addO e wt.name o) (ti + 1) nds wss vn w22 (hC.but b022) (hb9.ext x22) hN hk (by omega) hwl hwS (Zrc hnd wt.name o) (Zu7 hstr hwn) (by omega) (by omega) hD (by rw [← hkf] at hne2; exact hne2) (hs.nbBut b022) (hw.nbBut b022) hvn
          refine hcall.mono fun v w23 ⟨b,hv2,hP⟩=>⟨b,hv2,?_⟩
          have hP : Post q sp K d3 d4 w22 (kf o (ti + 1)) b w23:=by rw [← hkf]; exact hP
          have hb023:=b022.trans' hP.1
          obtain ⟨hP1,hP2⟩:=hP
          cases hr : kf o (ti + 1) with
          | out=>exact absurd hr hne2
          | fail t' =>
           rw [hr] at hP2 htry
           obtain ⟨rfl,htD,hb23⟩:=hP2
           refine ⟨(fun h=>by cases h),fun _ => hn (by omega) w23 ⟨t',(b69.trans' (x22.but _)).trans' hP1,hb23,htD,htry⟩⟩
          | done ns' t' =>
           rw [hr] at hP2 htry
           obtain ⟨rfl,hP3⟩:=hP2
           refine ⟨fun _ => ?_,(fun h=>by cases h)⟩
           rw [← htry]
           exact ⟨_,rfl,hb023,rfl,hP3⟩
          | err c =>
           rw [hr] at hP2 htry
           obtain ⟨rfl,hP3⟩:=hP2
           refine ⟨fun _ => ?_,(fun h=>by cases h)⟩
           rw [← htry]
           exact ⟨_,rfl,hb023,rfl,hP3⟩
         clear hJ
         refine ⟨fun hlt=>bnd.drew fun w10 x10=>?_,fun hlt=>?_⟩
         ·have hlt' : i < V.length:=by omega
          rw [ho2 hlt'] at keyJ
          have hV10:=(hV.nbBut b69).nbExt x10
          obtain ⟨av,hav,_,_,hcv⟩:=Z0d hV10 hlt'
          have b010:=b09.trans' (x10.but _)
          have hsp10 : sp.block < w10.heap.size:=by have:=b010.1; omega
          refine ⟨_,(ha9.ext x10).at0 (Ext.refl _) rfl,av,⟨hav,by omega,by omega⟩,V[i].ma,V[i].mi,V[i].pa,by rw [Int.toNat_natCast]; exact hcv _ (Ext.refl _),?_⟩
          refine SE.Zdb.go (Zy0 (e:=e) (p:=⟨wt.name,V[i]⟩) (Nb.old sp w10) (hes.nbBut b010) hnd hwn (by omega) fun t117 w11 x11 ht117=>⟨_,rfl,keyJ t117 w11 (x10.trans x11) (ht117.mono fun b hb=>?_)⟩)
          have:=x11.size
          rcases hb with hb | hb
          ·exact ⟨by have:=hb.1; omega,hb.2⟩
          ·exact ⟨hb.2,by omega⟩
         ·rw [ho3 (by omega)] at keyJ
          exact keyJ es w9 (Ext.refl _) (hes.nbBut b09)
     ·have hi' : i = V.length + 1:=by omega
      rw [hi',Zn5,Zez] at htry
      rw [← htry]
      exact ⟨_,rfl,(x06.but _).trans' b7,rfl,hti,hb7⟩
    clear hJ34
    have hsp5:=x05.size
    refine ⟨fun h=>?_,fun h=>?_⟩
    ·obtain ⟨v,hv1,hv2⟩:=his1 h
     refine ⟨tr,(ha.ext x5).at1 (k:=2) (r:=[]) (Ext.refl _) rfl,v.ma,v.mi,v.pa,hv2.ldc.pre (r:=[]) rfl,?_⟩
     refine SE.Zcm.go (Zm3 (hwr.ext x05) fun w6 x6=>⟨_,rfl,fun h1=>?_,fun h1=>?_⟩)
     ·refine ⟨v.ma,v.mi,v.pa,(hv2.ext x6).ldc.pre (r:=[]) rfl,newS.intro fun a42 w7 x7 hb42 hab42 _ => ?_⟩
      have eb : verE.bytes = 24:=rfl
      refine (OwnS.zero (E:=verE) (T:=46) w7).push Zrd (Nat.le_refl _) (x:=v) (S':=None') ⟨rfl,trivial⟩ (hb42.ldc.pre (r:=[]) rfl) (fun _ h=>h.elim) (fun _ _ h=>h.elim) (by rw [eb]; simp; unfold room; omega) (by rw [Zd]; simp) fun t56 w8 o8 bel8 _ _ => ?_
      have x78 : Ext w7 w8:=(Ext.refl w7).trans' bel8
      have hrd:=o8.read (by rw [eb]; simp; unfold room; omega) (by rw [Zd]; simp)
      refine key34 t56 [v] false w8 (x6.trans (x7.trans x78)) (hrd.mono fun b hb=>?_) (by simp) ?_
      ·rcases hb with hb | ⟨ad8,had8,rfl⟩
       ·rcases hb with hb | hb <;> exact hb.elim
       ·have:=o8.block had8
        have:=(x6.trans x7).size
        exact ⟨by omega,by omega⟩
      ·unfold Quest.cand; rw [hv1]; dsimp only; rw [if_pos h1]
     ·refine key34 Sl.nil [] false w6 x6 (SlR.nil trivial) (by simp) ?_
      unfold Quest.cand; rw [hv1]; dsimp only; rw [if_neg (by rw [h1]; decide)]
    ·have hv0:=his0 h
     refine bnd.drew fun w6 x6=>⟨sp,rfl,_,hb.at0 (x05.trans x6) rfl,_,(ha.ext (x5.trans x6)).at0 (Ext.refl _) rfl,tr,(ha.ext (x5.trans x6)).at1 (k:=2) (r:=[]) (Ext.refl _) rfl,sp,rfl,K.pS,hb.at1 (k:=6) (x05.trans x6) rfl,?_⟩
     have x06:=x05.trans x6
     have hC6:=hC.ext x06
     obtain ⟨SC,hcat,_,_⟩:=hC6.cat
     refine SE.Zag.go (Zpv (n:=wt.name) (ll:=wt.range) (lp:=q.pins) hcat (hwr.ext x06) hC6.pins fun t69 w7 x7 ht69=>⟨_,rfl,key34 t69 _ _ w7 (x6.trans x7) (ht69.nbNew hC6.lt) (Nat.le_trans (Zmk hG wt.name wt.range q.pins) (by omega)) ?_⟩)
     unfold Quest.cand; rw [hv0]; dsimp only
     congr 1
   clear hJ57
   refine bnd.drew fun w3 x3=>⟨an,⟨han,by omega,by omega⟩,cx,(hcn _ (x2.trans x3)).mid (k:=4) rfl,_,(ha.ext x3).at0 (Ext.refl _) rfl,?_,?_⟩
   ·refine SE.Zda.go (Zl3 (hcx.ext (x2.trans x3)) (fun v w4 hv x4=>⟨_,_,_,_,rfl,newS.set rfl fun a67 w5 x5 hb5 _ => key57 a67 true w5 (x3.trans (x4.trans x5)) (fun _ => ⟨v,hv,hb5⟩) (fun h=>by cases h)⟩) fun w4 hv x4=>⟨_,_,_,_,rfl,newS.set rfl fun a67 w5 x5 hb5 _ => key57 a67 false w5 (x3.trans (x4.trans x5)) (fun h=>by cases h) fun _ => hv⟩)
   ·refine newS.intro fun a70 w4 x4 hb4 hab4 _ => SE.Zda.go (Zl3 (hcx.ext ((x2.trans x3).trans x4)) (fun v w5 hv x5=>⟨_,_,_,_,rfl,stw0.intro (hb4.ext x5) (by simp) fun w6 b6 _ hb6=>key57 a70 true w6 (b6.ext (x3.trans (x4.trans x5)) (by have:=x3.size; omega)) (fun _ => ⟨v,hv,hb6⟩) (fun h=>by cases h)⟩) fun w5 hv x5=>⟨_,_,_,_,rfl,stw0.intro (hb4.ext x5) (by simp) fun w6 b6 _ hb6=>key57 a70 false w6 (b6.ext (x3.trans (x4.trans x5)) (by have:=x3.size; omega)) (fun h=>by cases h) fun _ => hv⟩)
end Go.Hal
namespace Go.Hal
open Go.Proofs.Tryz
open Go Go.RowKit Go.Proofs Go.Shelf
theorem Zr1 {m : Mani} {d e o v : Sl} {S : Nat → Prop} {w : World} {R : ByteArray → World → Prop} (hm : Zdc m = true) (hd : SlR depE w S d m.deps) (he : SlR depE w S e m.dev) (ho : SlR depE w S o m.opt) (hv : SlR depE w S v m.over)
  (hR : ∀ w',Ext w w' → R (B (Zgd m)) w') : SE.Zc7 d e o v w R:=by
 unfold SE.Zc7
 unfold Zdc at hm
 simp only [Bool.and_eq_true] at hm
 obtain ⟨⟨⟨h1,h2⟩,h3⟩,h4⟩:=hm
 have n1:=Zk h1; have n2:=Zk h2; have n3:=Zk h3; have n4:=Zk h4
 have l1:=Zat (word:=wNeeds) (by decide) fun d hd=>(n1.2 d hd).1
 have l2:=Zat (word:=wDev) (by decide) fun d hd=>(n2.2 d hd).1
 have l3:=Zat (word:=wLikes) (by decide) fun d hd=>(n3.2 d hd).1
 have l4:=Zat (word:=wPins) (by decide) fun d hd=>(n4.2 d hd).1
 refine newS.intro fun a w1 x1 hb _ _ => bnd.drew fun w2 x2=>?_
 refine ⟨d,hb.at0 (by (repeat (first | assumption | exact Ext.refl _ | refine Ext.trans ?_ (by assumption)))) rfl,e,hb.at1 (by (repeat (first | assumption | exact Ext.refl _ | refine Ext.trans ?_ (by assumption)))) rfl,o,hb.at1 (by (repeat (first | assumption | exact Ext.refl _ | refine Ext.trans ?_ (by assumption)))) rfl,v,hb.at1 (by (repeat (first | assumption | exact Ext.refl _ | refine Ext.trans ?_ (by assumption)))) rfl,callX.intro (SE.Z9.go (word:=B wNeeds) (Zem (by decide) h1 (hd.ext (by (repeat (first | assumption | exact Ext.refl _ | refine Ext.trans ?_ (by assumption))))) fun w3 x3=>⟨x3,_,rfl,?_⟩))⟩
 simp only [Zfz]
 refine ⟨by rw [Zay,Zn,Zv]; simp; omega,callX.intro (SE.Z9.go (word:=B wDev) (Zem (by decide) h2 (he.ext (by (repeat (first | assumption | exact Ext.refl _ | refine Ext.trans ?_ (by assumption))))) fun w4 x4=>⟨x4,_,rfl,?_⟩))⟩
 simp only [Zfk]
 refine ⟨by rw [Zn,Zn,Zv]; simp; omega,callX.intro (SE.Z9.go (word:=B wLikes) (Zem (by decide) h3 (ho.ext (by (repeat (first | assumption | exact Ext.refl _ | refine Ext.trans ?_ (by assumption))))) fun w5 x5=>⟨x5,_,rfl,?_⟩))⟩
 simp only [Zfk]
 refine ⟨by rw [Zn,Zn,Zv]; simp; omega,SE.Z9.go (word:=B wPins) (Zem (by decide) h4 (hv.ext (by (repeat (first | assumption | exact Ext.refl _ | refine Ext.trans ?_ (by assumption))))) fun w6 x6=>⟨_,rfl,?_⟩)⟩
 simp only [Zfk]
 refine ⟨by rw [Zn,Zn,Zv]; simp; omega,?_⟩
 have:=hR w6 (by (repeat (first | assumption | exact Ext.refl _ | refine Ext.trans ?_ (by assumption))))
 simpa [Zgd,pjText] using this
theorem Zt7 {m : Mani} {d e o v : Sl} {S : Nat → Prop} {w : World} {R : Bool → World → Prop} (hd : SlR depE w S d m.deps) (he : SlR depE w S e m.dev) (ho : SlR depE w S o m.opt) (hv : SlR depE w S v m.over)
  (hR : ∀ w',Ext w w' → R (Zcf m) w') : SE.Zdu d e o v w R:=by
 unfold SE.Zdu
 refine newS.intro fun _ w1 x1 hb _ _ => ?_
 refine ⟨d,hb.at0 (by (repeat (first | assumption | exact Ext.refl _ | refine Ext.trans ?_ (by assumption)))) rfl,SE.Zaf.go (Ze4 (hd.ext (by (repeat (first | assumption | exact Ext.refl _ | refine Ext.trans ?_ (by assumption))))) fun w2 x2=>⟨_,rfl,bound ?_⟩)⟩
 refine ⟨e,fun _ => hb.at1 (by (repeat (first | assumption | exact Ext.refl _ | refine Ext.trans ?_ (by assumption)))) rfl,gCall.intro (Zo m.dev) (fun _ q hq=>SE.Zaf.go (Ze4 (he.ext (by (repeat (first | assumption | exact Ext.refl _ | refine Ext.trans ?_ (by assumption))))) fun w' hx=>⟨_,rfl,hq _ hx⟩)) fun t2 w3 x3 ht2=>bound ?_⟩
 refine ⟨o,fun _ => hb.at1 (by (repeat (first | assumption | exact Ext.refl _ | refine Ext.trans ?_ (by assumption)))) rfl,gCall.intro (Zo m.opt) (fun _ q hq=>SE.Zaf.go (Ze4 (ho.ext (by (repeat (first | assumption | exact Ext.refl _ | refine Ext.trans ?_ (by assumption))))) fun w' hx=>⟨_,rfl,hq _ hx⟩)) fun t3 w4 x4 ht3=>bound ?_⟩
 refine ⟨v,fun _ => hb.at1 (by (repeat (first | assumption | exact Ext.refl _ | refine Ext.trans ?_ (by assumption)))) rfl,gCall.intro (Zo m.over) (fun _ q hq=>SE.Zaf.go (Ze4 (hv.ext (by (repeat (first | assumption | exact Ext.refl _ | refine Ext.trans ?_ (by assumption))))) fun w' hx=>⟨_,rfl,hq _ hx⟩)) fun t4 w5 x5 ht4=>?_⟩
 have e1 : ((((!Zo m.deps) || (!t2)) || (!t3)) || (!t4)) = !Zdc m:=by
  unfold Zdc
  cases h1 : Zo m.deps
  ·simp
  rw [h1] at ht2 ht3 ht4
  rw [ht2 rfl] at ht3 ht4 ⊢
  cases h2 : Zo m.dev
  ·simp
  rw [h2] at ht3 ht4
  rw [ht3 rfl] at ht4 ⊢
  cases h3 : Zo m.opt
  ·simp
  rw [h3] at ht4
  rw [ht4 rfl]
  simp
 rw [e1]
 refine ⟨fun h=>?_,fun h=>?_⟩
 ·have : Zcf m = false:=by
   unfold Zcf
   have : Zdc m = false:=by simpa using h
   rw [this]; rfl
  rw [← this]; exact hR _ (by (repeat (first | assumption | exact Ext.refl _ | refine Ext.trans ?_ (by assumption))))
 have hm : Zdc m = true:=by simpa using h
 refine ⟨d,hb.at0 (by (repeat (first | assumption | exact Ext.refl _ | refine Ext.trans ?_ (by assumption)))) rfl,e,hb.at1 (by (repeat (first | assumption | exact Ext.refl _ | refine Ext.trans ?_ (by assumption)))) rfl,SE.Zak.go (Ze3 (hd.ext (by (repeat (first | assumption | exact Ext.refl _ | refine Ext.trans ?_ (by assumption))))) (he.ext (by (repeat (first | assumption | exact Ext.refl _ | refine Ext.trans ?_ (by assumption))))) fun w6 x6=>⟨_,rfl,?_⟩)⟩
 refine ⟨d,fun _ => hb.at0 (by (repeat (first | assumption | exact Ext.refl _ | refine Ext.trans ?_ (by assumption)))) rfl,o,fun _ => hb.at1 (by (repeat (first | assumption | exact Ext.refl _ | refine Ext.trans ?_ (by assumption)))) rfl,gCall.intro (Zc2 m.deps m.opt) (fun _ q hq=>SE.Zak.go (Ze3 (hd.ext (by (repeat (first | assumption | exact Ext.refl _ | refine Ext.trans ?_ (by assumption))))) (ho.ext (by (repeat (first | assumption | exact Ext.refl _ | refine Ext.trans ?_ (by assumption))))) fun w' hx=>⟨_,rfl,hq _ hx⟩)) fun t5 w7 x7 ht5=>bound ?_⟩
 refine ⟨e,fun _ => hb.at1 (by (repeat (first | assumption | exact Ext.refl _ | refine Ext.trans ?_ (by assumption)))) rfl,o,fun _ => hb.at1 (by (repeat (first | assumption | exact Ext.refl _ | refine Ext.trans ?_ (by assumption)))) rfl,gCall.intro (Zc2 m.dev m.opt) (fun _ q hq=>SE.Zak.go (Ze3 (he.ext (by (repeat (first | assumption | exact Ext.refl _ | refine Ext.trans ?_ (by assumption))))) (ho.ext (by (repeat (first | assumption | exact Ext.refl _ | refine Ext.trans ?_ (by assumption))))) fun w' hx=>⟨_,rfl,hq _ hx⟩)) fun t6 w8 x8 ht6=>bound ?_⟩
 have e2 : ((Zc2 m.deps m.dev && t5) && t6) = Zf0 m:=by
  unfold Zf0
  cases h1 : Zc2 m.deps m.dev
  ·rfl
  rw [h1] at ht5 ht6
  rw [ht5 rfl] at ht6 ⊢
  cases h2 : Zc2 m.deps m.opt
  ·rfl
  rw [h2] at ht6
  rw [ht6 rfl]
 rw [e2]
 refine ⟨d,e,o,v,fun _ => hb.at0 (r:=[]) (by (repeat (first | assumption | exact Ext.refl _ | refine Ext.trans ?_ (by assumption)))) rfl,gCall.intro (B (Zgd m)) (fun _ q hq=>SE.Zc7.go (Zr1 hm (hd.ext (by (repeat (first | assumption | exact Ext.refl _ | refine Ext.trans ?_ (by assumption))))) (he.ext (by (repeat (first | assumption | exact Ext.refl _ | refine Ext.trans ?_ (by assumption))))) (ho.ext (by (repeat (first | assumption | exact Ext.refl _ | refine Ext.trans ?_ (by assumption))))) (hv.ext (by (repeat (first | assumption | exact Ext.refl _ | refine Ext.trans ?_ (by assumption))))) fun w' hx=>⟨_,rfl,hq _ hx⟩)) fun t7 w9 x9 ht7=>?_⟩
 have e3 : (Zf0 m && decide ((t7.size : Int) ≤ 4096)) = Zcf m:=by
  unfold Zcf
  rw [hm,Bool.true_and]
  cases h1 : Zf0 m
  ·rfl
  rw [ht7 h1,Zn,Bool.true_and,Bool.true_and,decide_eq_decide]; omega
 rw [e3]; exact hR _ (by (repeat (first | assumption | exact Ext.refl _ | refine Ext.trans ?_ (by assumption))))
end Go.Hal
namespace Go.Hal
open Go.Proofs.Tryz
open Go Go.RowKit Go.Proofs Go.Shelf
theorem Zvh {w : World} {a ad : Addr} {x u v : Value} (hb : BoxAt w a [x]) (h0 : w.cell? (ad.add 0) = some u) (h1 : w.cell? (ad.add 1) = some v) : ad.block ≠ a.block:=fun e=>by
 obtain ⟨t,_,_,hh⟩:=hb
 have e0 : ad.add 0 = ad:=rfl
 have e1 : ad.add 1 = ⟨ad.block,ad.off + 1,none⟩:=rfl
 rw [e0] at h0
 rw [e1] at h1
 unfold World.cell? at h0 h1
 rw [e,hh] at h0
 dsimp only at h1
 rw [e,hh] at h1
 dsimp only at h0 h1
 split at h0
 ·cases h0
 ·have a0:=(Array.getElem?_eq_some_iff.1 h0).1
  simp only [Option.isSome_none,Bool.false_eq_true,if_false] at h1
  have a1:=(Array.getElem?_eq_some_iff.1 h1).1
  simp at a0 a1
theorem SlR.apartBox {α : Type} {E : Enc α} {w : World} {S S' : Nat → Prop} {s : Sl} {l : List α} {a : Addr} {x : Value} (h : SlR E w S s l) (hn : 2 ≤ E.n) (hb : BoxAt w a [x]) (hS : ∀ b,S b → b ≠ a.block → S' b) (hf : ∀ y ∈ l,∀ cs,E.rep w S y cs → E.rep w S' y cs) : SlR E w S' s l:=by
 obtain ⟨h1,h2,h3,h4,h5⟩:=h
 refine ⟨h1,h2,h3,h4,?_⟩
 rcases h5 with h0 | ⟨ad,ha,hs,hel⟩
 ·exact .inl h0
 ·rcases Nat.eq_zero_or_pos l.length with h0 | h0
  ·exact .inl (List.eq_nil_of_length_eq_zero h0)
  ·refine .inr ⟨ad,ha,hS _ hs ?_,fun i y hy=>?_⟩
   ·obtain ⟨cs,hr,hl⟩:=hel 0 l[0] (List.getElem?_eq_getElem h0)
    rw [Nat.zero_mul] at hl
    have hcl:=E.len hr
    have c0:=hl 0 cs[0] (List.getElem?_eq_getElem (by omega))
    have c1:=hl 1 cs[1] (List.getElem?_eq_getElem (by omega))
    have e0 : ad.add 0 = ad:=rfl
    rw [e0] at c0 c1
    exact Zvh hb c0 c1
   ·obtain ⟨cs,hr,hl⟩:=hel i y hy
    exact ⟨cs,hf y (List.mem_of_getElem? hy) cs hr,hl⟩
theorem Zpn {w : World} {S : Nat → Prop} {s : Sl} {l : List Node} {a : Addr} {x : Value} (h : SlR nodeE w S s l) (hb : BoxAt w a [x]) : SlR nodeE w (fun b=>S b ∧ b ≠ a.block) s l :=
 h.apartBox (by decide) hb (fun b h1 h2=>⟨h1,h2⟩) fun y _ cs ⟨h0,c,e,hcs,hc,he⟩=>⟨h0,c,e,hcs,hc.apartBox (by decide) hb (fun b h1 h2=>⟨h1,h2⟩) (fun _ _ _ h=>h),he.apartBox (by decide) hb (fun b h1 h2=>⟨h1,h2⟩) (fun _ _ _ h=>h)⟩
theorem Zt9 {L : List Pack} {m : Mani} {dev : Bool} {pins : List Pin} {SC SA : Nat → Prop} {cp : Addr} {mD mDev mOpt mOv pS : Sl} {D N d3 d4 : Int} {w : World} {R : Sl → Int → Int → World → Prop} (hSA : Old SA w)
  (hcat : RefR w SC cp L) (hd : SlR depE w SA mD m.deps) (he : SlR depE w SA mDev m.dev) (ho : SlR depE w SA mOpt m.opt) (hv : SlR depE w SA mOv m.over) (hp : SlR pinE w SA pS pins)
  (hR : ∀ nds T w',Ext w w' → SlR nodeE w' T nds (Zg2 L m dev pins D N).ns → R nds (Zg2 L m dev pins D N).dec (Zg2 L m dev pins D N).code w') :
  SE.Zbn (some cp) mD mDev mOpt mOv dev pS D N d3 d4 w R:=by
 unfold SE.Zbn
 refine newS.intro fun a w1 x1 ha hab _ => newS.intro fun a1 w2 x2 ha1 hab1 _ => newS.intro fun a3 w3 x3 ha3 hab3 _ => bound ⟨mD,mDev,mOpt,mOv,fun _ => ha.at0 (r:=[]) (x2.trans x3) rfl,?_⟩
 have x03:=x1.trans (x2.trans x3)
 have s1:=x1.size; have s2:=x2.size; have s3:=x3.size
 have hcpl : cp.block < w.heap.size:=by obtain ⟨s,hb,_⟩:=hcat.at_; exact hb.lt
 refine gCall.intro (Zcf m) (fun _ k hk=>SE.Zdu.go (Zt7 (hd.ext x03) (he.ext x03) (ho.ext x03) (hv.ext x03) fun w4 x4=>⟨_,rfl,hk w4 x4⟩)) fun t19 w4 x4 ht=>?_
 have ht:=ht rfl
 subst ht
 have x04:=x03.trans x4
 have x14 : Ext w1 w4:=x2.trans (x3.trans x4)
 have x24 : Ext w2 w4:=x3.trans x4
 refine bound ⟨D,fun _ => ha1.at0 x24 rfl,bound ⟨D,fun _ => ha1.at0 x24 rfl,bound ⟨N,fun _ => ha1.at1 (k:=1) x24 rfl,bound ⟨N,fun _ => ha1.at1 (k:=1) x24 rfl,fun hq=>?_,fun hq=>?_⟩⟩⟩⟩
 ·have hno : ¬ (Zcf m = true ∧ 1 ≤ D ∧ D ≤ 4096 ∧ 1 ≤ N ∧ N ≤ 128):=fun ⟨h1,h2,h3,h4,h5⟩=>by
   rw [h1,decide_eq_false (by omega),decide_eq_false (by omega),decide_eq_false (by omega),decide_eq_false (by omega)] at hq
   cases hq
  have hr : Zg2 L m dev pins D N = .err 1:=by unfold Zg2; rw [if_neg hno]
  rw [hr] at hR
  refine stw0.intro (ha3.ext x4) (by simp) fun w5 b5 _ hb5=>⟨Sl.nil,hb5.ldc.pre (r:=[]) rfl,hR Sl.nil (fun _ => True) w5 (b5.ext x04 (by omega)) (SlR.nil trivial)⟩
 ·have hok : Zcf m = true ∧ 1 ≤ D ∧ D ≤ 4096 ∧ 1 ≤ N ∧ N ≤ 128:=by
   simp only [Bool.or_eq_false_iff,Bool.not_eq_false',decide_eq_false_iff_not,Option.isNone_some,Bool.false_or] at hq
   obtain ⟨⟨⟨⟨h1,h2⟩,h3⟩,h4⟩,h5⟩:=hq
   exact ⟨h1,by omega,by omega,by omega,by omega⟩
  have hr : Zg2 L m dev pins D N = (Quest.mk L m dev pins D.toNat N.toNat).res:=by unfold Zg2; rw [if_pos hok]
  rw [hr] at hR
  obtain ⟨hm,hD1,hD2,hN1,hN2⟩:=hok
  obtain ⟨Dn,rfl⟩ : ∃ n : Nat,D = (n : Int):=⟨D.toNat,by omega⟩
  obtain ⟨Nn,rfl⟩ : ∃ n : Nat,N = (n : Int):=⟨N.toNat,by omega⟩
  rw [Int.toNat_natCast,Int.toNat_natCast] at hR
  generalize hqq : Quest.mk L m dev pins Dn Nn = q at hR
  have hqL : q.L = L:=by rw [← hqq]
  have hqm : q.m = m:=by rw [← hqq]
  have hqd : q.dev = dev:=by rw [← hqq]
  have hqp : q.pins = pins:=by rw [← hqq]
  have hqD : q.D = Dn:=by rw [← hqq]
  have hqN : q.N = Nn:=by rw [← hqq]
  refine ⟨mD,mDev,mOpt,mOv,ha.at0 (r:=[]) x14 rfl,Dn,Nn,d3,d4,ha1.at0 (r:=[]) x24 rfl,newS.intro fun sp w5 x5 hsp hspb _ => newS.intro fun a20 w6 x6 hb20 hab20 _ => ?_⟩
  have s4:=x4.size; have s5:=x5.size; have s6:=x6.size
  have x06:=x04.trans (x5.trans x6)
  have hspl:=hsp.lt
  have hnb : ∀ b,b < w.heap.size → Nb sp w6 b:=fun b h=>⟨by omega,by omega⟩
  have hC : Cx w6 sp q ⟨cp,mD,mDev,mOpt,mOv,dev,pS⟩:=⟨⟨SC,by rw [hqL]; exact hcat.ext x06,fun h=>by have:=hcat.old _ h; omega,by show cp.block ≠ sp.block; omega⟩,
   by rw [hqm]; exact (hd.ext x06).mono fun b h=>hnb b (hSA b h),by rw [hqm]; exact (he.ext x06).mono fun b h=>hnb b (hSA b h),by rw [hqm]; exact (ho.ext x06).mono fun b h=>hnb b (hSA b h),by rw [hqm]; exact (hv.ext x06).mono fun b h=>hnb b (hSA b h),by rw [hqp]; exact (hp.ext x06).mono fun b h=>hnb b (hSA b h),hqd.symm,by omega,by rw [hqm]; exact hm⟩
  have hb : BoxAt w6 sp (srch ⟨cp,mD,mDev,mOpt,mOv,dev,pS⟩ q.D q.N d3 d4 ((0 : Nat) : Int) 0 Sl.nil):=by rw [hqD,hqN]; exact hsp.ext x6
  have hnds : SlR nodeE w6 (Nb sp w6) ⟨some a20,1,1⟩ [rootNode]:=(Ziw (E:=nodeE) (S:=None') (x:=rootNode) hb20 ⟨by unfold Str rootNode; rw [Zd]; decide,Sl.nil,Sl.nil,rfl,SlR.nil trivial,SlR.nil trivial⟩ (by decide)).mono fun b h=>by
   rcases h with h | rfl
   ·exact h.elim
   ·exact ⟨hb20.lt,by omega⟩
  have hNs : NsOk q [rootNode]:=⟨by show 1 ≤ q.N; omega,by omega,⟨rootNode,rfl,rfl⟩,fun x hx=>by
   rw [List.mem_singleton] at hx; subst hx
   exact ⟨.nil,Nat.zero_le _⟩⟩
  have hfine:=Zqz (q:=q) (by omega)
  have hrun : q.run = q.go q.fuel [rootNode] 0 (q.wants [rootNode] 0) (ctxAt [rootNode] 0) 0:=rfl
  refine SE.Zan.go (Zod (Znh q q.fuel) (k:=0) hC hb hNs (Nat.zero_le _) (Nat.zero_le _) (by omega) hnds (fun _ h=>?_) fun b w7 hP=>⟨b,rfl,?_⟩)
  ·rw [← hrun] at h; rw [h] at hfine; exact hfine
  rw [if_neg (by simp),← hrun] at hP
  obtain ⟨b67,hP⟩:=hP
  have x46 : Ext w4 w7:=b67.ext (x5.trans x6) (by omega)
  have x07:=x04.trans x46
  have ha37:=ha3.ext (x4.trans x46)
  have ha3s : a3.block ≠ sp.block:=by have:=ha3.lt; omega
  have done : ∀ (t12 : Int) (nd : Sl) (w' : World) (T : Nat → Prop) (n : List Node),Ext w w' → BoxAt w' a3 [nd.v] → SlR nodeE w' T nd n → n = q.res.ns → t12 = q.res.code → ∃ (r_Nodes : Sl),ldc w' a3 [(Sl.v r_Nodes)] ∧ R r_Nodes q.res.dec t12 w':=fun t12 nd w' T n hx hbx hsl hn ht=>⟨nd,hbx.ldc.pre (r:=[]) rfl,by rw [ht]; exact hR nd T w' hx (by rw [← hn]; exact hsl)⟩
  unfold Quest.res at done
  cases hrr : q.run with
  | out=>rw [hrr] at hfine; exact hfine.elim
  | fail t =>
   rw [hrr] at hP done
   obtain ⟨rfl,_,_⟩:=hP
   refine ⟨fun _ => stw0.intro ha37 (by simp) fun w8 b8 _ hb8=>done 30 Sl.nil w8 (fun _ => True) [] (b8.ext x07 (by omega)) hb8 (SlR.nil trivial) rfl rfl,(fun h=>by cases h)⟩
  | done ns t =>
   rw [hrr] at hP done
   obtain ⟨rfl,fnd,hb7,hfs⟩:=hP
   refine ⟨(fun h=>by cases h),fun _ => ⟨0,hb7.at1 (k:=12) (Ext.refl _) rfl,fun h=>absurd rfl h,fun _ => join.named fun J hJ=>bnd.drew fun w8 x8=>?_⟩⟩
   have keyJ : ∀ w',Ext w w' → BoxAt w' a3 [fnd.v] → (∃ T,SlR nodeE w' T fnd ns) → J t 0 w':=by
    subst hJ
    intro w' hx hbx ⟨T,hT⟩
    exact done 0 fnd w' T ns hx hbx hT rfl rfl
   clear hJ
   have hfa:=Zpn (hfs.ext x8) (ha37.ext x8)
   have x08:=x07.trans x8
   refine ⟨fnd,hb7.at1 (k:=13) (r:=[]) x8 rfl,⟨_,hb7.at1 (k:=11) x8 rfl,stw0.intro (ha37.ext x8) (by simp) fun w9 b9 _ hb9=>keyJ w9 (b9.ext x08 (by omega)) hb9 ⟨_,hfa.but b9 fun h=>h.2 rfl⟩⟩,stw0.intro (ha37.ext x8) (by simp) fun w9 b9 _ hb9=>⟨_,(b9.box (hb7.ext x8) (Ne.symm ha3s)).at1 (k:=11) (Ext.refl _) rfl,keyJ w9 (b9.ext x08 (by omega)) hb9 ⟨_,hfa.but b9 fun h=>h.2 rfl⟩⟩⟩
  | err c =>
   rw [hrr] at hP done hfine
   obtain ⟨rfl,t,fnd,hb7⟩:=hP
   have hc0 : ¬ c = 0:=by rcases hfine with h | h <;> omega
   refine ⟨(fun h=>by cases h),fun _ => ⟨c,hb7.at1 (k:=12) (Ext.refl _) rfl,fun _ => join.named fun J hJ=>bnd.drew fun w8 x8=>?_,fun h=>absurd hc0 h⟩⟩
   have keyJ : ∀ w',Ext w w' → BoxAt w' a3 [Sl.nil.v] → J 0 c w':=by
    subst hJ
    intro w' hx hbx
    exact done c Sl.nil w' (fun _ => True) [] hx hbx (SlR.nil trivial) rfl rfl
   clear hJ
   have x08:=x07.trans x8
   refine ⟨⟨c,hb7.at1 (k:=12) x8 rfl,stw0.intro (ha37.ext x8) (by simp) fun w9 b9 _ hb9=>keyJ w9 (b9.ext x08 (by omega)) hb9⟩,stw0.intro (ha37.ext x8) (by simp) fun w9 b9 _ hb9=>⟨c,(b9.box (hb7.ext x8) (Ne.symm ha3s)).at1 (k:=12) (Ext.refl _) rfl,keyJ w9 (b9.ext x08 (by omega)) hb9⟩⟩
end Go.Hal
namespace Go.Hal
open Go.Proofs.Tryz
open Go Go.RowKit Go.Proofs Go.Shelf
def n11 : ByteArray:=⟨#[97]⟩
def u11 : Ver:=⟨1,0,0⟩
def k11 : Pack:=⟨n11,u11,[],[],[]⟩
def s11 : Span:=⟨⟨0,0,0⟩,⟨999,999,999⟩⟩
def m11 : Mani:=⟨[⟨n11,[s11]⟩],[],[],[]⟩
def known11 : Stp:=Zg2 [k11] m11 true [] 9 9
def knB : Bool:=decide (known11.code = 0) && decide (known11.dec = 1) && decide (known11.ns.length = 2) && decide (known11.ns[1]?.map (·.v) = some u11) && decide (known11.ns[0]?.map (·.edges.length) = some 1)
theorem Zx6 : (Zee [] k11).2 = [k11]:=by decide +kernel
set_option maxRecDepth 100000 in
theorem Zv6 : knB = true:=by decide +kernel
theorem Zv7 : known11.code = 0 ∧ known11.dec = 1 ∧ known11.ns.length = 2 ∧ known11.ns[1]?.map (·.v) = some u11 ∧ known11.ns[0]?.map (·.edges.length) = some 1:=by
 have h:=Zv6
 unfold knB at h
 simp only [Bool.and_eq_true,decide_eq_true_eq] at h
 exact ⟨h.1.1.1.1,h.1.1.1.2,h.1.1.2,h.1.2,h.2⟩
theorem Zrq {w : World} {R : Bool → World → Prop} (ht : Tab w) (hR : ∀ w',Ext w w' → R true w') : SE.Zct w R:=by
 unfold SE.Zct
 have strA : Str n11:=by unfold Str n11; rw [Zd]; decide
 refine SE.Zei.go (catNew_L fun p r w1 x1 hC h1 _ => ⟨_,rfl,(fun h=>by cases h),fun _ => newS.intro fun a w2 x2 ha hab _ => stw0.intro ha (by simp) fun w3 b3 _ ha3=>?_⟩)
 have s1:=x1.size
 have x13 : Ext w1 w3:=b3.ext x2 (by omega)
 have x03:=x1.trans x13
 have ha3 : BoxAt w3 a [.int .i64 u11.ma,.int .i64 u11.mi,.int .i64 u11.pa]:=ha3
 have har : a.block ≠ r:=by have:=hC.lt.1; omega
 refine ⟨_,_,_,ha3.ldc.pre (r:=[]) rfl,SE.Zbo.go (Zqi (x:=k11) (S2:=None') (ht.ext x03) (hC.ext x13) strA (fun _ h=>h.elim) (SlR.nil trivial) (SlR.nil trivial) (SlR.nil trivial) fun S4 w4 b4 hC4 _ _ => ⟨_,rfl,?_⟩)⟩
 rw [Zx6] at hC4
 have x04 : Ext w w4:=b4.ext x03 h1
 have ha4:=b4.box ha3 har
 refine newS.intro fun a6 w5 x5 hb6 _ _ => newS.intro fun a8 w6 x6 hb8 _ _ => ?_
 have x46:=x5.trans x6
 have x06:=x04.trans x46
 have hr6 : spanE.bytes ≤ room:=by decide
 have hr8 : depE.bytes ≤ room:=by decide
 have hsp:=(Ziw (E:=spanE) (S:=None') (x:=s11) hb6 ⟨rfl,trivial⟩ hr6).ext x6
 have hdp:=Ziw (E:=depE) (S:=fun b=>None' b ∨ b = a6.block) (x:=⟨n11,[s11]⟩) hb8 ⟨strA,_,rfl,hsp⟩ hr8
 have l6:=hb6.lt; have l8:=hb8.lt; have s6:=x6.size
 refine SE.Zbx.go (Zqy (L:=[k11]) (m:=m11) (pins:=[]) (SA:=fun b=>(None' b ∨ b = a6.block) ∨ b = a8.block) (ht.ext x06) (fun b hb=>?_) (hC4.ext x46) hdp (SlR.nil trivial) (SlR.nil trivial) (SlR.nil trivial) (SlR.nil trivial) fun nds w7 x7 hs=>⟨_,_,_,rfl,?_⟩)
 ·rcases hb with (hb | rfl) | rfl
  ·exact hb.elim
  ·omega
  ·exact l8
 have hk : Zg2 [k11] m11 true [] 9 9 = known11:=rfl
 rw [hk] at hs ⊢
 obtain ⟨k1,k2,k3,k4,k5⟩:=Zv7
 rw [k1,k2]
 generalize known11.ns = ns at *
 refine newS.intro fun a9 w8 x8 hb9 _ _ => stw0.intro hb9 (by simp) fun w9 b9 _ hb9=>bnd.drew fun w10 x10=>bound (bound ?_)
 have hn1 : 1 < ns.length:=by omega
 have hn0 : 0 < ns.length:=by omega
 have e1 : ns[1].v = u11:=by rw [List.getElem?_eq_getElem hn1] at k4; simpa using k4
 have e0 : ns[0].edges.length = 1:=by rw [List.getElem?_eq_getElem hn0] at k5; simpa using k5
 have hsl:=hs.len
 obtain ⟨ad1,c1,g1,q1,_,_,_,l1⟩:=Zjf hs hn1
 obtain ⟨ad0,c0,g0,q0,_,_,z0,l0⟩:=Zjf hs hn0
 have x79 : Ext w7 w9:=b9.ext x8 (by omega)
 have x710:=x79.trans x10
 have x410:=(x46.trans x7).trans x710
 have z0l:=z0.len
 refine ⟨nds,fun _ => hb9.at0 (r:=[]) x10 rfl,bound ⟨nds,fun _ => hb9.at0 (r:=[]) x10 rfl,ad1,fun _ => ⟨q1,by omega,by omega⟩,ns[1].v.ma,ns[1].v.mi,ns[1].v.pa,fun _ => (l1 _ x710).mid (k:=1) rfl,u11.ma,u11.mi,u11.pa,fun _ => (ha4.ext x410).at0 (r:=[]) (Ext.refl _) rfl,bound ⟨nds,fun _ => hb9.at0 (r:=[]) x10 rfl,ad0,fun _ => ⟨q0,by omega,by omega⟩,g0,fun _ => (l0 _ x710).mid (k:=5) (r:=[]) rfl,?_⟩⟩⟩
 have h:=hR w10 (x04.trans x410)
 have e2 : (nds.len : Int) = 2:=by omega
 have e3 : (g0.len : Int) = 1:=by omega
 rw [e1,e2,e3]
 exact h
end Go.Hal
namespace Go.Hal
open Go.Proofs.Tryz
open Go Go.RowKit Go.Proofs Go.Shelf
theorem runNone_se {mD mDev mOpt mOv pS : Sl} {dev : Bool} {D N d3 d4 : Int} {w : World} {R : Sl → Int → Int → World → Prop} (hR : ∀ w',Ext w w' → R Sl.nil 0 1 w') : SE.Zbx none mD mDev mOpt mOv dev pS D N d3 d4 w R:=by
 unfold SE.Zbx
 refine newS.intro fun a w1 x1 ha hab _ => newS.intro fun a1 w2 x2 ha1 hab1 _ => newS.intro fun a3 w3 x3 ha3 hab3 _ => ⟨fun _ _ _ _ => False,fun _ _ _ _ => 0,?_,fun _ _ _ _ h=>h.elim⟩
 have x03:=x1.trans (x2.trans x3)
 have s1:=x1.size; have s2:=x2.size
 refine bound ⟨Sl.nil,Sl.nil,Sl.nil,Sl.nil,(fun h=>by cases h),?_⟩
 refine gCall.intro false (fun h=>by cases h) fun t1 w4 x4 _ => bound ⟨0,(fun h=>by cases h),bound ⟨0,(fun h=>by cases h),bound ⟨0,(fun h=>by cases h),bound ⟨0,(fun h=>by cases h),fun _ => ?_,(fun h=>by cases h)⟩⟩⟩⟩
 exact stw0.intro (ha3.ext x4) (by simp) fun w5 b5 _ hb5=>⟨Sl.nil,hb5.ldc.pre (r:=[]) rfl,hR w5 (b5.ext (x03.trans x4) (by omega))⟩
theorem Zld {sP mD mDev mOpt mOv pS : Sl} {lp : List Pack} {m : Mani} {dev : Bool} {pins : List Pin} {D N d3 d4 : Int} {SA : Nat → Prop} {w : World} {R : Bool → World → Prop} (ht : Tab w) (hA : Old SA w) (hP : SlR packE w SA sP lp)
  (hd : SlR depE w SA mD m.deps) (he : SlR depE w SA mDev m.dev) (ho : SlR depE w SA mOpt m.opt) (hv : SlR depE w SA mOv m.over) (hp : SlR pinE w SA pS pins)
  (hR : ∀ w',Ext w w' → R true w') : SE.Zbr sP mD mDev mOpt mOv dev pS D N d3 d4 w R:=by
 unfold SE.Zbr
 refine newS.intro fun a w1 x1 ha hab _ => ⟨sP,mD,mDev,mOpt,mOv,dev,pS,D,N,d3,d4,ha.at0 (r:=[]) (Ext.refl _) rfl,?_⟩
 refine SE.Zbw.go (Zsr (ht.ext x1) (hA.ext x1.size) (hP.ext x1) fun p r q w2 x2 hB=>⟨_,_,rfl,bound ?_⟩)
 refine gCall.intro true (fun _ k hk=>SE.Zct.go (Zrq (ht.ext (x1.trans x2)) fun w' hx=>⟨_,rfl,hk _ hx⟩)) fun t1 w3 x3 ht1=>?_
 have ht1':=ht1 rfl
 subst ht1'
 refine ⟨(fun h=>by cases h),fun _ => ?_⟩
 obtain ⟨⟨S,hcat,_,_⟩,⟨T,href,_,_⟩,_,_⟩:=hB
 have x03:=(x1.trans x2).trans x3
 have x13:=x2.trans x3
 refine ⟨mD,mDev,mOpt,mOv,ha.at1 (k:=1) x13 rfl,dev,ha.at1 (k:=5) x13 rfl,pS,ha.at1 (k:=6) x13 rfl,D,N,d3,d4,ha.at1 (k:=7) (r:=[]) x13 rfl,?_⟩
 refine SE.Zbx.go (Zqy (ht.ext x03) (hA.ext x03.size) (hcat.ext x3) (hd.ext x03) (he.ext x03) (ho.ext x03) (hv.ext x03) (hp.ext x03) fun g1 w4 x4 hg1=>⟨_,_,_,rfl,newS.set rfl fun a5 w5 x5 hb5 hab5=>?_⟩)
 have x35:=x4.trans x5
 have x05:=x03.trans x35
 have x15:=x13.trans x35
 refine ⟨mD,mDev,mOpt,mOv,ha.at1 (k:=1) x15 rfl,dev,ha.at1 (k:=5) x15 rfl,pS,ha.at1 (k:=6) x15 rfl,D,N,d3,d4,ha.at1 (k:=7) (r:=[]) x15 rfl,?_⟩
 refine SE.Zbn.go (Zt9 (hA.ext x05.size) ((href.ext x3).ext x35) (hd.ext x05) (he.ext x05) (ho.ext x05) (hv.ext x05) (hp.ext x05) fun g2 T2 w6 x6 hg2=>⟨_,_,_,rfl,newS.set rfl fun a7 w7 x7 hb7 hab7=>?_⟩)
 have x57:=x6.trans x7
 have x07:=x05.trans x57
 have x17:=x15.trans x57
 refine ⟨mD,mDev,mOpt,mOv,ha.at1 (k:=1) x17 rfl,dev,ha.at1 (k:=5) x17 rfl,pS,ha.at1 (k:=6) x17 rfl,D,N,d3,d4,ha.at1 (k:=7) (r:=[]) x17 rfl,?_⟩
 refine SE.Zbx.go (runNone_se fun w8 x8=>⟨_,_,_,rfl,newS.set rfl fun a9 w9 x9 hb9 hab9=>?_⟩)
 have x79:=x8.trans x9
 have x09:=x07.trans x79
 generalize Zg2 (Zml lp) m dev pins D N = r1 at *
 refine ⟨g1,(hb5.ext (x57.trans x79)).ldc.pre (r:=[]) rfl,g2,(hb7.ext x79).ldc.pre (r:=[]) rfl,?_⟩
 refine SE.Zc8.go (Zr2 (hg1.ext (x5.trans (x57.trans x79))) (hg2.ext (x7.trans x79)) fun w10 x10=>⟨_,rfl,bound (bound ⟨Sl.nil,fun _ => (hb9.ext x10).ldc.pre (r:=[]) rfl,bound (bound ?_)⟩)⟩)
 have e : (((((decide (r1.ns = r1.ns) && (r1.dec == r1.dec)) && (r1.code == r1.code)) && (((Sl.nil.len : Nat) : Int) == 0)) && ((0 : Int) == 0)) && ((1 : Int) == 1)) = true:=by
  rw [decide_eq_true rfl]; simp [Sl.nil]
 rw [e]
 exact hR w10 (x09.trans x10)
end Go.Hal
namespace Go.Hal
open Go.Proofs.Tryz
open Go Go.RowKit Go.ChangeShapes Go.WideShapes Go.ChangeAt Go.Proofs Go.Proofs.YtcnoablfimcajaaGreatDoor
section
variable {H : Type} {enc : TypeId × Value → H} {P : Program} {W : World}
end
section
variable {H : Type} {W : World} {enc : TypeId × Value → H}
theorem Zzx {n : Nat} {cs : List Value} {x : DataW H × List MemPlace} (h : Tr enc prog W n 4 cs x) : ∃ b,cs = [.bool b]:=by
 obtain ⟨b,h1,_⟩:=DataW.trod_bool underlying4 h
 exact ⟨b,h1⟩
end
end Go.Hal
namespace Go.Hal
open Go.Proofs.Tryz
open Go Go.RowKit Go.ChangeShapes Go.WideShapes Go.ChangeAt Go.Proofs
section
variable {H : Type} {W : World} {enc : TypeId × Value → H}
theorem Zzy {n : Nat} {cs : List Value} {x : DataW H × List MemPlace} (h1 : Tr enc prog W n 25 cs x) (w1 : small (x.1.weights prog 25)) :
  ∃ (m : Mani) (a b c d : Sl),cs = [a.v,b.v,c.v,d.v] ∧ SlR depE W (Here W) a m.deps ∧ SlR depE W (Here W) b m.dev ∧ SlR depE W (Here W) c m.opt ∧ SlR depE W (Here W) d m.over:=by
 have hl:=Zjg underlying25 h1
 have hc : prog.cellsOf 25 = 4:=by kernel_rfl
 rw [hc] at hl
 obtain ⟨z0,k0,g0,v0⟩:=Za8 underlying25 h1 w1 0 23 0 1 ⟨_,rfl,rfl,rfl⟩ ceLd
 obtain ⟨z1,k1,g1,v1⟩:=Za8 underlying25 h1 w1 1 23 1 1 ⟨_,rfl,rfl,rfl⟩ ceLd
 obtain ⟨z2,k2,g2,v2⟩:=Za8 underlying25 h1 w1 2 23 2 1 ⟨_,rfl,rfl,rfl⟩ ceLd
 obtain ⟨z3,k3,g3,v3⟩:=Za8 underlying25 h1 w1 3 23 3 1 ⟨_,rfl,rfl,rfl⟩ ceLd
 obtain ⟨b,lb,f0,hb,_⟩:=Zku enc k0 _ _ g0 v0
 obtain ⟨c,lc,f1,hc',_⟩:=Zku enc k1 _ _ g1 v1
 obtain ⟨d,ld,f2,hd,_⟩:=Zku enc k2 _ _ g2 v2
 obtain ⟨e,le,f3,he,_⟩:=Zku enc k3 _ _ g3 v3
 match cs,hl with
 | [c1,c2,c3,c4],_ =>
  simp at f0 f1 f2 f3
  exact ⟨⟨lb,lc,ld,le⟩,b,c,d,e,by rw [f0,f1,f2,f3],hb,hc',hd,he⟩
theorem Zwm {n : Nat} {cs : List Value} {x : DataW H × List MemPlace} (h1 : Tr enc prog W n 28 cs x) (w1 : small (x.1.weights prog 28)) :
  ∃ a b c d : Int,cs = [.int .i64 a,.int .i64 b,.int .i64 c,.int .i64 d]:=by
 have hl:=Zjg underlying28 h1
 have hc : prog.cellsOf 28 = 4:=by kernel_rfl
 rw [hc] at hl
 obtain ⟨z0,k0,g0,v0⟩:=Za8 underlying28 h1 w1 0 3 0 1 ⟨_,rfl,rfl,rfl⟩ (by kernel_rfl)
 obtain ⟨z1,k1,g1,v1⟩:=Za8 underlying28 h1 w1 1 3 1 1 ⟨_,rfl,rfl,rfl⟩ (by kernel_rfl)
 obtain ⟨z2,k2,g2,v2⟩:=Za8 underlying28 h1 w1 2 3 2 1 ⟨_,rfl,rfl,rfl⟩ (by kernel_rfl)
 obtain ⟨z3,k3,g3,v3⟩:=Za8 underlying28 h1 w1 3 3 3 1 ⟨_,rfl,rfl,rfl⟩ (by kernel_rfl)
 obtain ⟨a,f0⟩:=rdI g0
 obtain ⟨b,f1⟩:=rdI g1
 obtain ⟨c,f2⟩:=rdI g2
 obtain ⟨d,f3⟩:=rdI g3
 match cs,hl with
 | [c1,c2,c3,c4],_ =>
  simp at f0 f1 f2 f3
  exact ⟨a,b,c,d,by rw [f0,f1,f2,f3]⟩
theorem Zua {n : Nat} {cs : List Value} {x : DataW H × List MemPlace} (h : Tr enc prog W n 30 cs x) (hw : small (x.1.weights prog 30)) :
  ∃ (sP mD mE mO mV pS : Sl) (dev : Bool) (D N d3 d4 : Int) (lp : List Pack) (m : Mani) (pins : List Pin),cs = [sP.v,mD.v,mE.v,mO.v,mV.v,.bool dev,pS.v,.int .i64 D,.int .i64 N,.int .i64 d3,.int .i64 d4] ∧ SlR packE W (Here W) sP lp ∧
   SlR depE W (Here W) mD m.deps ∧ SlR depE W (Here W) mE m.dev ∧ SlR depE W (Here W) mO m.opt ∧ SlR depE W (Here W) mV m.over ∧ SlR pinE W (Here W) pS pins:=by
 have hl:=Zjg underlying30 h
 have hc : prog.cellsOf 30 = 11:=by kernel_rfl
 rw [hc] at hl
 obtain ⟨y0,m0,h0,w0⟩:=Za8 underlying30 h hw 0 22 0 1 ⟨_,rfl,rfl,rfl⟩ ceLk
 obtain ⟨y1,m1,h1,w1⟩:=Za8 underlying30 h hw 1 25 1 4 ⟨_,rfl,rfl,rfl⟩ (by kernel_rfl)
 obtain ⟨y2,m2,h2,w2⟩:=Za8 underlying30 h hw 2 4 5 1 ⟨_,rfl,rfl,rfl⟩ (by kernel_rfl)
 obtain ⟨y3,m3,h3,w3⟩:=Za8 underlying30 h hw 3 26 6 1 ⟨_,rfl,rfl,rfl⟩ ceLp
 obtain ⟨y4,m4,h4,w4⟩:=Za8 underlying30 h hw 4 28 7 4 ⟨_,rfl,rfl,rfl⟩ (by kernel_rfl)
 obtain ⟨a,lp,e0,hp,_⟩:=Zyh enc m0 _ _ h0 w0
 obtain ⟨m,mD,mE,mO,mV,e1,q1,q2,q3,q4⟩:=Zzy h1 w1
 obtain ⟨dev,e2⟩:=Zzx h2
 obtain ⟨pS,pins,e3,q5,_⟩:=Zz0 enc m3 _ _ h3 w3
 obtain ⟨D,N,d3,d4,e4⟩:=Zwm h4 w4
 match cs,hl with
 | [c0,c1,c2,c3,c4,c5,c6,c7,c8,c9,c10],_ =>
  simp at e0 e1 e2 e3 e4
  exact ⟨a,mD,mE,mO,mV,pS,dev,D,N,d3,d4,lp,m,pins,by rw [e0,e1.1,e1.2.1,e1.2.2.1,e1.2.2.2,e2,e3,e4.1,e4.2.1,e4.2.2.1,e4.2.2.2],hp,q1,q2,q3,q4,q5⟩
end
end Go.Hal
