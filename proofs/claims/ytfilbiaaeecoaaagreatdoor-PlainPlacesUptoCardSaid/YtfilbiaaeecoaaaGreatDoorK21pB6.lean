/- Lemmas for the claim K21p: how the program's functions run, and what they answer; no condition but those that each theorem names. -/
import Derived.Test.YtfilbiaaeecoaaaGreatDoorK21pB5
set_option linter.unusedVariables false
set_option linter.unusedSimpArgs false
set_option maxHeartbeats 16000000
open Go Go.RowKit Go.Proofs Go.Shelf Go.Hal Go.Proofs.Tryz
variable {a:ByteArray} {D M l1 l2 op:Int} {ps:List ByteArray} {l:List Rk} {cs xs:List Value} {b base n s u:Nat} {S SC:Nat→Prop} {P:Program} {g so:Sl} {R:Sl→Int→World→Prop} {e t:TypeId} {A W w:World}
namespace Go.Hal
theorem loop2.none{α β:Type}{a:α}{b:β}{body:α→β→World→(α→β→World→Prop)→Prop}(h: ∀a0,body a b w a0):loop2 a b w body:=
 ⟨λx y v=>x=a∧y=b∧v=w,λ_ _ _=>0,⟨rfl,rfl,rfl⟩,λx y v hx=>by obtain⟨rfl,rfl,rfl⟩:=hx; exact h _⟩
section
variable {s u:Sl} {S:Nat→Prop} {w:World}
theorem Zsw{R:Int→World→Prop}(hs:SlR dirE w S s [d21])(hR: ∀w',Ext w w'→R 0 w'):SE.Zfv s w R:=by
 unfold SE.Zfv
 have b0:s.len=1:=hs.len
 refine newS.intro λa w1 x1 a0 _ _=>⟨s,a0.ldc.pre (r:=[]) rfl,bound ⟨s,λ_=>a0.ldc.pre (r:=[]) rfl,λhc=>?_,λhc=>⟨s,a0.ldc.pre (r:=[]) rfl,loop1.once (λi v=>i=1∧Ext w1 v) (λa9 hn=>⟨λa7=>?_,λh=>by omega⟩) λi v a9 h=>⟨λa7=>by omega,λ_=>hR v (x1.trans h.2)⟩⟩⟩⟩
 ·rw[decide_eq_false oM,decide_eq_false oM]at hc; cases hc
 obtain⟨ad,ps,dd,ee,oo,ha,_,b1,hp,hd,he,ho,hc⟩:=dirEl hs (n:=0) dC
 refine⟨ad,⟨ha,oM,a7⟩,_,_,_,_,_,_,_,_,_,hc _ x1,newS.set rfl λa5 w3 x3 a4 _=>join.named λJ hJ=>⟨λ_=>⟨ps,a4.at0 xR rfl,bound ⟨_,_,_,_,dd,ee,oo,λ_=>a4.at1 (k:=1) xR rfl,?_⟩⟩,λh=>absurd rfl h⟩⟩
 have a6:=x1.trans x3
 have a8:ps.len=0:=hp.len
 rw[a8]
 refine gCall.intro true (λ_ q hq=>SE.Zfy.go (Zh2 (p:=Zx) (q:=Zx) (T:=None') (hd.ext a6) (he.ext a6) (ho.ext a6) (SlR.nil trivial) (SlR.nil trivial) (SlR.nil trivial) λw4 x4=>⟨_,rfl,hq w4 x4⟩)) λt w4 x4 ht=>bound ⟨_,λ_=>a4.at1 (k:=8) (r:=[]) x4 rfl,?_⟩
 rw[ht rfl,hJ]
 exact⟨nO,λ_=>hn _ _ ⟨rfl,x3.trans x4⟩⟩
theorem Zyr{R:Bool→World→Prop}(hs:SlR nodeE w S s [rootNode])(hR: ∀w',Ext w w'→R true w'):SE.Zf9 s w R:=by
 unfold SE.Zf9
 have a8:s.len=1:=hs.len
 refine newS.intro λa w1 x1 a0 _ _=>⟨s,a0.ldc.pre (r:=[]) rfl,loop1.once (λi v=>i=1∧Ext w1 v) (λa5 hn=>⟨λa4=>?_,λh=>by omega⟩) λi v a5 h=>⟨λa4=>by omega,λ_=>⟨s,a0.at0 (r:=[]) h.2 rfl,?_⟩⟩⟩
 ·obtain⟨ad,c,e,ha,_,_,he,a7⟩:=Zed hs (n:=0) dC
  have a9:e.len=0:=he.len
  exact⟨ad,⟨ha,oM,a4⟩,_,_,_,_,_,_,a7 _ x1,newS.set rfl λa3 w3 x3 a6 _=>⟨e,a6.at1 (k:=5) (r:=[]) xR rfl,loop1.none λa5=>⟨λh=>by omega,λ_=>hn _ _ ⟨rfl,x3⟩⟩⟩⟩
 ·rw[a8]; exact hR v (x1.trans h.2)
theorem Zw8(hs:SlR dirE w S s [d21])(hg:SlR nodeE w S u [rootNode])(hR: ∀m lo w',Ext w w'→OwnS intE 3 w' lo None' m [0]→R m 0 w'):SE.Zje s u w R:=by
 unfold SE.Zje
 have c5:s.len=1:=hs.len
 have c6:u.len=1:=hg.len
 refine newS.intro λa w1 x1 b2 _ _=>newS.intro λa1 w2 x2 b3 _ _=>⟨s,b2.at0 (r:=[]) x2 rfl,SE.Zfv.go (Zsw (hs.ext (x1.trans x2)) λw3 x3=>⟨_,rfl,λh=>absurd rfl h,λ_=>⟨u,b3.at0 (r:=[]) x3 rfl,SE.Zf9.go (Zyr (hg.ext (x1.trans (x2.trans x3))) λw4 x4=>⟨_,rfl,nO,λ_=>⟨s,b2.at0 (r:=[]) (x2.trans (x3.trans x4)) rfl,?_⟩⟩)⟩⟩)⟩
 have b6:=x1.trans (x2.trans (x3.trans x4))
 rw[show(s.len:Int)=((1:Nat):Int) by omega]
 refine Z1n dC λm w5 x5 o5 ⟨b0,a0⟩=>?_
 have c4:m.len=1:=o5.len
 refine loop1.once (λi v=>i=1∧Ext w4 v∧OwnS intE 3 v w4.heap.size None' m [-1]) (λa5 hn=>⟨λa4=>⟨b0,⟨a0,oM,a4⟩,o5.setInt (i:=0) (x:=-1) dC a0 λw7 b7 _ a8 o7=>hn _ _ ⟨rfl,b7.ext x5 a8,o7⟩⟩,λh=>by omega⟩) λi v a5 ⟨hi,hx,ho⟩=>⟨λa4=>by omega,λ_=>⟨b0,⟨a0,oM,oM⟩,ho.setInt (i:=0) (x:=0) dC a0 λw7 b7 _ a8 o7=>newS.intro λb8 w8 x8 h8 _ _=> ?_⟩⟩
 have a9:Ext w4 w8:=(b7.ext hx a8).trans x8
 have o8:OwnS intE 3 w8 w4.heap.size None' m [0]:=o7.ext x8
 refine loop1.once (λ(r:Sl) v=>r.len=0∧Ext w8 v) (λa5 hn=>⟨λa4=>?_,λh=>absurd (show(0:Int)<((1:Nat):Int) by decide) h⟩) λr v a5 ⟨hr,hx⟩=>⟨λa4=>by omega,λ_=>hR m _ v (b6.trans (a9.trans hx)) (o8.ext hx)⟩
 obtain⟨b1,a7,b5⟩:=Z6r o8 (i:=0) dC
 obtain⟨b9,cg,eg,c1,_,_,c2,b4⟩:=Zed hg (n:=0) dC
 have c3:eg.len=0:=c2.len
 refine⟨b8,⟨rfl,by decide,by simp⟩,0,h8.at0 (r:=[]) xR rfl,⟨by decide,by simp⟩,bnd.drew λc7 a6=>⟨u,b3.at0 (r:=[]) (x3.trans (x4.trans (a9.trans a6))) rfl,b1,⟨a7,by decide,oM⟩,0,b5 _ a6,b9,⟨c1,by decide,oM⟩,eg,(b4 _ (b6.trans (a9.trans a6))).mid (k:=5) (r:=[]) rfl,loop2.none λa5=>⟨λh=>by omega,λ_=>hn _ _ ⟨rfl,a6⟩⟩⟩⟩
theorem Zza{d e o v:Sl}{pr:Bool}{R:Bool→World→Prop}(hs:SlR dirE w S s [d21])(hg:SlR nodeE w S u [rootNode])(hR: ∀w',Ext w w'→R true w'):SE.Zgw d e o v u s pr w R:=by
 unfold SE.Zgw
 have b2:s.len=1:=hs.len
 refine newS.intro λa w1 x1 a0 _ _=>⟨s,a0.at1 (k:=5) xR rfl,u,a0.at1 (k:=4) xR rfl,SE.Zje.go (Zw8 (hs.ext x1) (hg.ext x1) λm lo w2 x2 own=>⟨m,0,rfl,λh=>absurd rfl h,λ_=>⟨s,a0.at1 (k:=5) x2 rfl,loop1.once (λi v=>i=1∧Ext w2 v) (λb0 hn=>⟨λa7=>?_,λh=>by omega⟩) λi v b0 h=>⟨λa7=>by omega,λ_=>hR v (x1.trans (x2.trans h.2))⟩⟩⟩)⟩
 obtain⟨ad,ps,dd,ee,oo,ha,_,_,hp,_,_,_,hc⟩:=dirEl hs (n:=0) dC
 obtain⟨a8,a5,a6⟩:=Z6r own (i:=0) dC
 have b1:m.len=1:=own.len
 refine⟨ad,⟨ha,oM,a7⟩,_,_,_,_,_,_,_,_,_,hc _ (x1.trans x2),newS.set rfl λa4 w4 x4 a9 _=>bnd.drew λw5 x5=>⟨a8,⟨a5,oM,oM⟩,0,a6 _ (x4.trans x5),_,a9.at1 (k:=8) (r:=[]) x5 rfl,bound (bound ⟨s,λh=>by simp at h,ad,λh=>by simp at h,ps,λh=>by simp at h,ps,λh=>by simp at h,gCall.intro ⟨#[]⟩ (λh=>by simp at h) λb3 w6 x6 h6=>gCall.intro ⟨#[]⟩ (λh=>by simp at h) λb4 w7 x7 h7=>⟨λh=>?_,λ_=>hn _ _ ⟨rfl,x4.trans (x5.trans (x6.trans x7))⟩⟩⟩)⟩⟩
 cases h
theorem Z01(ht:Tab w)(hs:SlR dirE w S s [d21])(hg:SlR nodeE w S u [rootNode])(hR: ∀w',Ext w w'→R Sl.nil 0 w'):SE.Zhz Sl.nil Sl.nil Sl.nil Sl.nil u s false w R:=by
 unfold SE.Zhz
 refine newS.intro λa w1 x1 a0 _ _=>⟨_,_,_,_,a0.at0 xR rfl,SE.Zfl.go (Zua (m:=⟨[],[],[],[]⟩) (S:=None') (ht.ext x1) (λ_ h=>h.elim) (SlR.nil trivial) (SlR.nil trivial) (SlR.nil trivial) (SlR.nil trivial) λw2 x2=>⟨_,_,rfl,λhc=>absurd (by decide+kernel) hc,λ_=>⟨u,a0.at1 (k:=4) x2 rfl,SE.Zix.go (Zse (hg.ext (x1.trans x2)) λt w3 x3=>⟨_,_,rfl,bound ⟨_,_,_,_,_,_,_,λ_=>a0.at0 (r:=[]) (x2.trans x3) rfl,gCall.intro true (λ_ q hq=>SE.Zgw.go (Zza (hs.ext (x1.trans (x2.trans x3))) (hg.ext (x1.trans (x2.trans x3))) λw4 x4=>⟨_,rfl,hq w4 x4⟩)) λa6 w4 x4 a5=>⟨λh=>?_,λ_=>⟨_,_,_,_,_,_,_,a0.at0 (r:=[]) (x2.trans (x3.trans x4)) rfl,?_⟩⟩⟩⟩)⟩⟩)⟩
 ·rw[a5 rfl]at h; cases h
 have a4:=x1.trans (x2.trans (x3.trans x4))
 exact SE.Zh0.go (Z33 (m:=⟨[],[],[],[]⟩) (T:=[d21]) (g:=[rootNode]) (pr:=false) (S':=None') (SlR.nil trivial) (SlR.nil trivial) (SlR.nil trivial) (SlR.nil trivial) (hs.ext a4) (hg.ext a4) λw5 x5=>⟨_,rfl,λ_=>hR w5 (a4.trans x5),nO⟩)
end
section
variable {n:ByteArray} {s t:Sl} {S:Nat→Prop} {w:World}
theorem without0_se{R:Sl→World→Prop}(hR: ∀w',Ext w w'→R Sl.nil w'):SE.Zcs Sl.nil n w R:=by
 unfold SE.Zcs
 refine newS.intro λa w1 x1 _ _ _=>SE.Zck.go ?_
 unfold SE.Zck
 refine⟨λ_=>⟨_,rfl,SE.Zp.go ?_⟩,λh=>absurd rfl h⟩
 unfold SE.Zp
 refine SE.Zbu.go ?_
 unfold SE.Zbu
 exact loop1.none λa0=>⟨λh=>absurd h dC,λ_=>⟨_,rfl,λ_=>⟨_,rfl,hR w1 x1⟩,λh=>absurd rfl h⟩⟩
theorem bare0_se{R:Sl→Sl→Sl→Sl→World→Prop}(hR: ∀w',Ext w w'→R Sl.nil Sl.nil Sl.nil Sl.nil w'):SE.Zhr Sl.nil Sl.nil Sl.nil Sl.nil n w R:=by
 unfold SE.Zhr
 refine newS.intro λa w1 x1 a0 b2 _=>newS.intro λa1 w2 x2 a7 b3 _=>bnd.drew λw3 x3=>⟨_,a0.at0 (x2.trans x3) rfl,_,a0.at1 (x2.trans x3) rfl,_,a0.at1 (x2.trans x3) rfl,?_⟩
 refine callX.intro (SE.Zcs.go (without0_se λw4 x4=>⟨x4,_,rfl,callX.intro (SE.Zcs.go (without0_se λw5 x5=>⟨x5,_,rfl,SE.Zcs.go (without0_se λw6 x6=>⟨_,rfl,?_⟩)⟩))⟩))
 have s1:=x1.size
 have a4:=x3.trans (x4.trans (x5.trans x6))
 refine stw0.intro (a0.ext (x2.trans a4)) sI λw7 b7 _ a8=>stw.intro a8 sI λw8 b8 _ a9=>stw.intro a9 sI λw9 b9 _ b0=>⟨_,_,_,_,b0.at0 (r:=[]) xR rfl,stw0.intro (b9.box (b8.box (b7.box (a7.ext a4) oM) oM) oM) sI λb1 a6 _ a5=>⟨_,_,_,_,a5.at0 xR rfl,hR b1 ?_⟩⟩
 have s2:=x2.size
 exact a6.ext (b9.ext (b8.ext (b7.ext (x1.trans (x2.trans a4)) oM) oM) oM) oM
theorem Z6b{d:Dep}{dr:Sl}{R:Sl→World→Prop}(hn:Str d.name)(hS:Old S w)(hd:SlR spanE w S dr d.range)
  (hR: ∀t w',Ext w w'→SlR depE w' (λb=>S b∨(w.heap.size≤b∧b<w'.heap.size)) t [d]→R t w'):SE.Zi4 Sl.nil d.name dr w R:=by
 unfold SE.Zi4
 refine newS.intro λa w1 x1 a4 _ _=>join.named λJ hJ=>bnd.drew λw3 x3=>⟨_,a4.at0 x3 rfl,_,_,a4.at0 x3 rfl,?_⟩
 have a7:=x1.trans x3
 have push: ∀{a8:Addr} {w5:World},Ext w w5→BoxAt w5 a8 [.string d.name,dr.v]→appS prog 51 51 Sl.nil (Sl.v (Sl.mk (some a8) 1 1)) w5 λb2 a6=>J b2 a6:=by
  intro a8 w5 x5 hb
  refine((OwnS.zero (E:=Z9y) (T:=202) w).ext x5).push Z3m x5.size (x:=(d.name,dr)) (S':=None') (cs:=[.string d.name,dr.v]) ⟨rfl,trivial⟩ (hb.ldc.pre (r:=[]) rfl) (λ_ h=>h.elim) (λ_ _ h=>h.elim) (by decide+kernel) (by decide+kernel) λr w6 a5 bel _ _=> ?_
  have a0:Below w.heap.size w w6:=Below.trans x5 bel
  subst hJ
  refine Zzk (z:=[((d.name,dr),d)]) (a5.rawT.flat (bytes:=40) (by show 1*40≤room; decide+kernel)) a0.size λz' w7 hp b4 b7 b1=>⟨rfl,?_⟩
  obtain rfl:=List.perm_singleton.1 hp
  refine hR r w7 (Below.trans a0 b7) (flatDeps b1 λp hp=>?_)
  rw[ci]at hp
  subst hp
  exact⟨rfl,hn,(hd.below a0 hS).below b7 hS⟩
 exact⟨callX.intro (SE.Zcs.go (without0_se λw4 x4=>⟨x4,_,rfl,newS.intro λa8 w5 x5 b0 _ _=>push (a7.trans (x4.trans x5)) b0⟩)),
  newS.intro λb3 w4 x4 a9 _ _=>callX.intro (SE.Zcs.go (without0_se λw5 x5=>⟨x5,_,rfl,push (a7.trans (x4.trans x5)) (a9.ext x5)⟩))⟩
theorem Zxt{R:Sl→World→Prop}(hs:SlR nodeE w S s [rootNode])(hR: ∀w',Ext w w'→R Sl.nil w'):SE.Zho s w R:=by
 unfold SE.Zho
 have a4:s.len=1:=hs.len
 refine newS.intro λa w1 x1 a0 _ _=>⟨s,a0.ldc.pre (r:=[]) rfl,λh0=>by omega,λ_=>Zjq (K:=Zq4) λr w2 x2 _ _=>⟨some r,rfl,s,(a0.ext x2).ldc.pre (r:=[]) rfl,⟨by decide,oM⟩,loop2.none λa5=>⟨λh=>?_,λ_=> ?_⟩⟩⟩
 ·have:(Sl.cut s ((1:Int).toNat) s.len 6).len=0:=by unfold Sl.cut; simp[a4]
  omega
 ·refine(AnyF.slices_SortFunc_none Tryz.laySp none 0 _ w2).mono λe w' ⟨he,hw⟩=>⟨_,he,rfl,?_⟩
  subst hw
  exact hR _ (x1.trans x2)
end
def P21:List Pack:=[Zx,k11]
theorem strA:Str n11:=by unfold Str n11; rw[Zd]; decide
section
variable {w:World} {p:Addr} {S Q:Nat→Prop} {c:PC} {t:Sl}
end
def star0:ByteArray:=⟨#[42]⟩
def StarW(t:ByteArray):Prop:=t=star0
theorem Zk2:Zcv barB star0= [star0]∧Zcv spB star0= [star0]:=by decide+kernel
theorem StarW.piece{b t:ByteArray}(ha:StarW a)(hb:b∈Zcv barB a)(ht:t∈Zcv spB b):StarW t:=by
 rw[ha,Zk2.1,ci]at hb
 rw[hb,Zk2.2,ci]at ht
 exact ht
def WordS(t:List UInt8)(x:Rk):Prop:=t= [42]∧x=(0,999999999)
theorem WordS.one{t:List UInt8}{a b:Rk}(h:WordS t a)(k:WordS t b):a=b:=h.2.trans k.2.symm
theorem WordS.in{t:List UInt8}{a:Rk}(h:WordS t a):(0≤a.1∧a.1≤1000000000)∧(-1≤a.2∧a.2≤999999999):=by
 rw[h.2]; decide
attribute [local go_sem] Oper.semAt_some
namespace Star
def sqV(a:Nat):Value:=.func (.func 331) #[] #[.pointer (some ⟨a+1,0,none⟩),.pointer (some ⟨a,0,none⟩),.pointer (some ⟨a+2,0,none⟩)]
def sqW(w:World)(s sep:ByteArray):World:=((w.alloc (.cells #[.string s] 9)).alloc (.cells #[.string sep] 9)).alloc (.cells #[.int .i64 0] 3)
theorem Zuy(n:Nat)(hn:1≤n)(s sep:ByteArray)(w:World):CallsIn Fence.wide n prog 294 #[.string s,.string sep,.int .i64 0] w λe w'=>e= .returned (sqV w.heap.size)∧w'=sqW w s sep:=by
 refine callsIn_of_wp func294 rfl trivial ?_ rfl
 simp only[Tryz.ntmps294,ia,dq,fa,Nat.reduceAdd,Nat.reduceSub,jl,jk,ju,jp,em,dz]
 gi_wp2
 go_ret
 exact⟨rfl,rfl⟩
theorem Zoa(n:Nat)(hn:2≤n)(s sep:ByteArray)(w:World):CallsIn Fence.wide n prog 255 #[.string s,.string sep] w λe w'=>e= .returned (sqV w.heap.size)∧w'=sqW w s sep:=by
 have h1:1≤n - 1:=oM
 refine callsIn_of_wp func255 rfl trivial ?_ rfl
 simp only[Tryz.ntmps255,ia,dq,fa,Nat.reduceAdd,Nat.reduceSub,jl,jk,ju,jp,em,dz]
 gi_wp2
 refine⟨trivial,λh=>(by cases h),(Zuy (n - 1) h1 s sep w).mono ?_⟩
 rintro e w' ⟨rfl,rfl⟩
 gi_wp2
 go_ret
 exact⟨rfl,rfl⟩
structure InW(ps:List ByteArray)(k:Nat)(x:Rk)(b:Bool):Prop where
 ok: ∀t∈ps.take k,t.size≠0→ ∃a,WordS t.data.toList a
 some:b=true↔ ∃t∈ps.take k,t.size≠0
 lo:0≤x.1∧x.1≤1000000000
 hi: -1≤x.2∧x.2≤999999999
 has: ∀n:Int,(x.1≤n∧n≤x.2)↔(0≤n∧n≤999999999∧ ∀t∈ps.take k,t.size≠0→ ∀a,WordS t.data.toList a→a.1≤n∧n≤a.2)
theorem InW.start(ps:List ByteArray):InW ps 0 (0,999999999) false:=⟨by simp,by simp,by simp,by simp,λn=>by simp⟩
theorem Zgq{α:Type}{ps:List α}{k:Nat}(h:k<ps.length){t:α}:t∈ps.take (k+1)↔t∈ps.take k∨t=ps[k]:=by
 rw[bu h,dj,ci]
theorem InW.skip{k:Nat}{x:Rk}{b:Bool}(h:InW ps k x b)(hk:k<ps.length)(h0:ps[k].size=0):InW ps (k+1) x b:=by
 have e: ∀t,(t∈ps.take (k+1)∧t.size≠0)↔(t∈ps.take k∧t.size≠0):=λt=>by
  rw[Zgq hk]
  constructor
  ·rintro⟨h1|rfl,h2⟩
   ·exact⟨h1,h2⟩
   ·exact absurd h0 h2
  ·exact λ⟨h1,h2⟩=>⟨.inl h1,h2⟩
 refine⟨λt ht hn=>h.ok t ((e t).1 ⟨ht,hn⟩).1 hn,?_,h.lo,h.hi,λn=>?_⟩
 ·rw[h.some]; exact⟨λ⟨t,ht⟩=>⟨t,(e t).2 ht⟩,λ⟨t,ht⟩=>⟨t,(e t).1 ht⟩⟩
 ·rw[h.has]
  exact and_congr_right λ_=>and_congr_right λ_=>⟨λg t ht hn=>g t ((e t).1 ⟨ht,hn⟩).1 hn,λg t ht hn=>g t ((e t).2 ⟨ht,hn⟩).1 hn⟩
theorem InW.word{k:Nat}{x a:Rk}{b:Bool}(h:InW ps k x b)(hk:k<ps.length)(h0:ps[k].size≠0)(hw:WordS ps[k].data.toList a):InW ps (k+1) (max x.1 a.1,min x.2 a.2) true:=by
 obtain⟨h1,h2⟩:=hw.in
 have hl:=h.lo
 have hh:=h.hi
 refine⟨λt ht hn=>?_,?_,?_,?_,λn=>?_⟩
 ·rcases(Zgq hk).1 ht with h3|rfl
  ·exact h.ok t h3 hn
  ·exact⟨a,hw⟩
 ·simp only[true_iff]; exact⟨_,(Zgq hk).2 (.inr rfl),h0⟩
 ·simp only; omega
 ·simp only; omega
 ·simp only
  have e:=h.has n
  have e1:(max x.1 a.1≤n∧n≤min x.2 a.2)↔(x.1≤n∧n≤x.2)∧(a.1≤n∧n≤a.2):=oM
  rw[e1,e]
  constructor
  ·rintro⟨⟨g1,g2,g3⟩,g4⟩
   refine⟨g1,g2,λt ht hn c hc=>?_⟩
   rcases(Zgq hk).1 ht with h3|rfl
   ·exact g3 t h3 hn c hc
   ·rw[←hw.one hc]; exact g4
  ·rintro⟨g1,g2,g3⟩
   exact⟨⟨g1,g2,λt ht hn c hc=>g3 t ((Zgq hk).2 (.inl ht)) hn c hc⟩,g3 _ ((Zgq hk).2 (.inr rfl)) h0 a hw⟩
def Zw9(a:ByteArray):Prop:=(∃t∈Zcv spB a,t.size≠0)∧ ∀t∈Zcv spB a,t.size≠0→ ∃x,WordS t.data.toList x
def Zvc(a:ByteArray)(n:Int):Prop:=0≤n∧n≤999999999∧ ∀t∈Zcv spB a,t.size≠0→ ∀x,WordS t.data.toList x→x.1≤n∧n≤x.2
structure InA(ps:List ByteArray)(k:Nat)(l:List Rk):Prop where
 ok: ∀a∈ps.take k,Zw9 a
 len:l.length≤k
 inn:rkIn l
 le: ∀x∈l,x.1≤x.2
 has: ∀n,hasR n l=true↔ ∃a∈ps.take k,Zvc a n
theorem InA.start(ps:List ByteArray):InA ps 0 []:=⟨by simp,df _,λx hx=>(by cases hx),λx hx=>(by cases hx),λn=>by simp[hasR]⟩
theorem Z08{n:Int}{x:Rk}:hasR n (l++ [x])=true↔hasR n l=true∨(x.1≤n∧n≤x.2):=by
 simp[hasR,List.any_append]
theorem InA.step{k:Nat}{x:Rk}(h:InA ps k l)(hk:k<ps.length)(hw:InW (Zcv spB ps[k]) (Zcv spB ps[k]).length x true):
  (x.1≤x.2→InA ps (k+1) (l++ [x]))∧(¬x.1≤x.2→InA ps (k+1) l):=by
 have ht:(Zcv spB ps[k]).take (Zcv spB ps[k]).length=Zcv spB ps[k]:=cu
 have a6:Zw9 ps[k]:=by
  have h1:=hw.ok; have h2:=hw.some
  rw[ht]at h1 h2
  exact⟨h2.1 rfl,h1⟩
 have a4: ∀n,(x.1≤n∧n≤x.2)↔Zvc ps[k] n:=λn=>by
  have:=hw.has n
  rw[ht]at this
  exact this
 have a0: ∀a∈ps.take (k+1),Zw9 a:=λa ha=>by
  rcases(Zgq hk).1 ha with h1|rfl
  ·exact h.ok a h1
  ·exact a6
 have hl:=hw.lo
 have hh:=hw.hi
 have a5: ∀n,(∃a∈ps.take (k+1),Zvc a n)↔(hasR n l=true∨(x.1≤n∧n≤x.2)):=λn=>by
  rw[h.has,a4]
  constructor
  ·rintro⟨a,ha,hn⟩
   rcases(Zgq hk).1 ha with h1|rfl
   ·exact .inl ⟨a,h1,hn⟩
   ·exact .inr hn
  ·rintro(⟨a,ha,hn⟩|hn)
   ·exact⟨a,(Zgq hk).2 (.inl ha),hn⟩
   ·exact⟨_,(Zgq hk).2 (.inr rfl),hn⟩
 refine⟨λhx=>⟨a0,by have:=h.len; simp; omega,λy hy=>?_,λy hy=>?_,λn=>?_⟩,λhx=>⟨a0,by have:=h.len; omega,h.inn,h.le,λn=>?_⟩⟩
 ·rcases dj.1 hy with h1|h1
  ·exact h.inn y h1
  ·rw[ci]at h1; subst h1; omega
 ·rcases dj.1 hy with h1|h1
  ·exact h.le y h1
  ·rw[ci]at h1; subst h1; exact hx
 ·rw[Z08,a5]
 ·rw[a5]; constructor
  ·exact .inl
  ·rintro(h1|h1)
   ·exact h1
   ·omega
def Zxa(text:ByteArray):Prop:=text.size≤4096∧ ∀a∈Zcv barB text,Zw9 a
theorem Zp5(sep:ByteArray): ∀(k:Nat) (s:ByteArray),∀t∈Lib.splitB sep 0 k s,t.size≤s.size
 |0,s,t,h=>by rw[Lib.splitB_zero,ci]at h; rw[h]; exact df _
 |k+1,s,t,h=>by
  rcases Lib.indexB_cases s sep with a0|⟨i,a0,a4⟩
  ·rw[Lib.splitB_miss _ _ _ _ a0,ci]at h; rw[h]; exact df _
  ·rw[Lib.splitB_hit _ _ _ _ i a0]at h
   rcases du.1 h with rfl|h
   ·rw[ja]; omega
   ·have:=Zp5 sep k _ t h
    rw[ja]at this; omega
theorem Zqx{sep s t:ByteArray}(h:t∈Zcv sep s):t.size≤s.size:=Zp5 sep _ s t h
theorem Ztg(sep:ByteArray)(h1:1≤sep.size)(s:ByteArray):(Zcv sep s).length≤s.size+1:=Lib.splitB_length_le sep 0 s.size s
def WordC(w:World):Prop:=∀(t:ByteArray) (W:World),StarW t→t.size≤4096→Ext w W→Calls prog 256 #[.string t] W λe w'=>Ext W w'∧
 ((∃x:Rk,WordS t.data.toList x∧e= .returned (.tuple #[.agg #[.int .i64 x.1,.int .i64 x.2],.bool true]))∨((∀x,¬WordS t.data.toList x)∧e= .returned (.tuple #[.agg #[.int .i64 0,.int .i64 0],.bool false])))
def Ziq:Value:=.slice none 0 0
def IA(w:World)(text:ByteArray)(k:Nat)(W:World):Prop:=
 ∃(l:List Rk) (v:Value),InA (Zcv barB text) k l∧Boxed W (w.heap.size+1+1) 307 v∧W.ownsRow (w.heap.size+8) 310 2 v l.length (Zf3 l)∧Below w.heap.size w W∧
  Boxed W w.heap.size 200 Ziq∧Boxed W (w.heap.size+1) 38 (.int .i64 0)∧W.heap[w.heap.size+6]? =some (.deferred (some []))∧w.heap.size+7≤W.heap.size
def XA(w:World)(text:ByteArray)(c:Code)(W:World):Prop:=
 c= .ret∧ ¬Zxa text∧Below w.heap.size w W∧Boxed W w.heap.size 200 Ziq∧Boxed W (w.heap.size+1) 38 (.int .i64 21)∧W.heap[w.heap.size+6]? =some (.deferred (some []))∧w.heap.size+7≤W.heap.size
theorem Zy9{B:World}{size k:Nat}{v:Value}(h:A.ownsRow base e size v k xs)(ht:Tu b A B)(hb:b<base):B.ownsRow base e size v k xs:=by
 refine h.kept ht ?_
 rcases h.2 with⟨rfl,_⟩|⟨g,cap,a0,rfl,hg,_⟩
 ·exact .inl rfl
 ·refine .inr λe'=>?_
  have:g=b:=by simpa[Value.ownBlock]using e'
  omega
theorem Zl3{B:World}(h:Below s w A)(ht:Tu b A B)(hb:s≤b)(hs:s≤w.heap.size):Below s w B:=h.grown ht (co hs h.size) λk e=>by cases e; exact hb
theorem Zfp{B:World}{k:Nat}{v:Value}(h:Boxed A k t v)(ht:Tu b A B)(a0:k≠b):Boxed B k t v:=h.kept ht (by simpa using a0)
theorem IA.tu{text:ByteArray}{k:Nat}{B:World}(hb:b=w.heap.size+1+1+1∨b=w.heap.size+7):IA w text k A→Tu b A B→IA w text k B:=by
 rintro⟨l,v,h1,h2,h3,h4,h5,h6,h7,h8⟩ ht
 exact⟨l,v,h1,Zfp h2 ht oM,Zy9 h3 ht oM,Zl3 h4 ht oM nR,Zfp h5 ht oM,Zfp h6 ht oM,ht.at h7 oM,co h8 (World.grownBy.size ht)⟩
theorem XA.tu{text:ByteArray}{c:Code}{B:World}(hb:b=w.heap.size+1+1+1∨b=w.heap.size+7):XA w text c A→Tu b A B→XA w text c B:=by
 rintro⟨h1,h2,h4,h5,h6,h7,h8⟩ ht
 exact⟨h1,h2,Zl3 h4 ht oM nR,Zfp h5 ht oM,Zfp h6 ht oM,ht.at h7 oM,co h8 (World.grownBy.size ht)⟩
structure StA(w:World)(text:ByteArray)(V:World):Prop where
 size:V.heap.size=w.heap.size+6
 out:Boxed V w.heap.size 200 Ziq
 err:Boxed V (w.heap.size+1) 38 (.int .i64 0)
 all:Boxed V (w.heap.size+1+1) 307 Ziq
 str:Boxed V (w.heap.size+1+1+1) 9 (.string text)
 sep:Boxed V (w.heap.size+1+1+1+1) 9 (.string barB)
 sav:Boxed V (w.heap.size+1+1+1+2) 3 (.int .i64 0)
 bel:Below w.heap.size w V
theorem stA(w:World)(a0:ByteArray):StA w a0 (sqW (((w.alloc (.cells #[Ziq] 200)).alloc (.cells #[.int .i64 0] 38)).alloc (.cells #[Ziq] 307)) a0 barB):=by
 unfold sqW
 have b0:=Boxed.new w 200 Ziq
 have b1:=Boxed.new (w.alloc (.cells #[Ziq] 200)) 38 (.int .i64 0)
 have b2:=Boxed.new ((w.alloc (.cells #[Ziq] 200)).alloc (.cells #[.int .i64 0] 38)) 307 Ziq
 generalize hA:((w.alloc (.cells #[Ziq] 200)).alloc (.cells #[.int .i64 0] 38)).alloc (.cells #[Ziq] 307)=A at*
 have hs:A.heap.size=w.heap.size+1+1+1:=by rw[←hA]; simp
 have hb:Below w.heap.size w A:=by rw[←hA]; exact(((Below.refl _ w).alloc nR _).alloc sI _).alloc (by simp; omega) _
 have b3:=Boxed.new A 9 (.string a0)
 have b4:=Boxed.new (A.alloc (.cells #[.string a0] 9)) 9 (.string barB)
 have b5:=Boxed.new ((A.alloc (.cells #[.string a0] 9)).alloc (.cells #[.string barB] 9)) 3 (.int .i64 0)
 simp only[World.size_alloc,hs]at b1 b2 b3 b4 b5
 have c0:Boxed A w.heap.size 200 Ziq:=by rw[←hA]; exact(b0.alloc _).alloc _
 have c1:Boxed A (w.heap.size+1) 38 (.int .i64 0):=by rw[←hA]; exact b1.alloc _
 exact⟨by simp[hs],((c0.alloc _).alloc _).alloc _,((c1.alloc _).alloc _).alloc _,((b2.alloc _).alloc _).alloc _,(b3.alloc _).alloc _,b4.alloc _,b5,((hb.alloc oM _).alloc (by simp; omega) _).alloc (by simp; omega) _⟩
structure StB(W:World)(a:ByteArray)(V:World):Prop where
 size:V.heap.size=W.heap.size+5
 one:V.heap[W.heap.size]? =some (.cells #[.int .i64 0,.int .i64 999999999] 310 (0,0))
 some:Boxed V (W.heap.size+1) 4 (.bool false)
 str:Boxed V (W.heap.size+1+1) 9 (.string a)
 sep:Boxed V (W.heap.size+1+1+1) 9 (.string spB)
 sav:Boxed V (W.heap.size+1+1+2) 3 (.int .i64 0)
 bel:Below W.heap.size W V
theorem Zoo{k:Nat}{o:Obj}(h:W.heap[k]? =some o)(o':Obj):(W.alloc o').heap[k]? =some o:=(Below.heap_alloc _ _ _ (de.1 h).1).trans h
theorem stB(W:World)(a:ByteArray):StB W a (sqW ((W.alloc (.cells #[.int .i64 0,.int .i64 999999999] 310)).alloc (.cells #[.bool false] 4)) a spB):=by
 unfold sqW
 have b0:=World.alloc_heap_new W (.cells #[.int .i64 0,.int .i64 999999999] 310)
 have b1:=Boxed.new (W.alloc (.cells #[.int .i64 0,.int .i64 999999999] 310)) 4 (.bool false)
 generalize hA:(W.alloc (.cells #[.int .i64 0,.int .i64 999999999] 310)).alloc (.cells #[.bool false] 4)=A at*
 have hs:A.heap.size=W.heap.size+1+1:=by rw[←hA]; simp
 have hb:Below W.heap.size W A:=by rw[←hA]; exact((Below.refl _ W).alloc nR _).alloc sI _
 have b3:=Boxed.new A 9 (.string a)
 have b4:=Boxed.new (A.alloc (.cells #[.string a] 9)) 9 (.string spB)
 have b5:=Boxed.new ((A.alloc (.cells #[.string a] 9)).alloc (.cells #[.string spB] 9)) 3 (.int .i64 0)
 simp only[World.size_alloc,hs]at b1 b3 b4 b5
 have c0:A.heap[W.heap.size]? =some (.cells #[.int .i64 0,.int .i64 999999999] 310 (0,0)):=by rw[←hA]; exact Zoo b0 _
 exact⟨by simp[hs],Zoo (Zoo (Zoo c0 _) _) _,((b1.alloc _).alloc _).alloc _,(b3.alloc _).alloc _,b4.alloc _,b5,((hb.alloc oM _).alloc (by simp; omega) _).alloc (by simp; omega) _⟩
def IB(W:World)(a:ByteArray)(j:Nat)(W':World):Prop:=
 ∃(x:Rk) (b:Bool),InW (Zcv spB a) j x b∧W'.heap[W.heap.size]? =some (.cells #[.int .i64 x.1,.int .i64 x.2] 310 (0,0))∧Boxed W' (W.heap.size+1) 4 (.bool b)∧Below W.heap.size W W'∧W.heap.size+5≤W'.heap.size
structure ButR(s:Nat)(W W':World):Prop where
 os:W'.os=W.os
 tape:W'.tape=W.tape
 output:W'.output=W.output
 size:W.heap.size≤W'.heap.size
 block: ∀k,k<W.heap.size→k≠s→k≠s+1→W'.heap[k]? =W.heap[k]?
def XB(w W:World)(a:ByteArray)(c:Code)(W':World):Prop:=
 c= .ret∧(∃t∈Zcv spB a,t.size≠0∧ ∀x,¬WordS t.data.toList x)∧Boxed W' w.heap.size 200 Ziq∧Boxed W' (w.heap.size+1) 38 (.int .i64 21)∧ButR w.heap.size W W'
theorem IB.tu{k:Nat}{B:World}(hb:b=W.heap.size+1+1∨b=W.heap.size+5):IB W a k A→Tu b A B→IB W a k B:=by
 rintro⟨x,y,h1,h2,h3,h4,h5⟩ ht
 exact⟨x,y,h1,ht.at h2 oM,Zfp h3 ht oM,Zl3 h4 ht oM nR,co h5 (World.grownBy.size ht)⟩
theorem XB.tu{c:Code}{B:World}(hw:w.heap.size+7≤W.heap.size)(hb:b=W.heap.size+1+1∨b=W.heap.size+5):XB w W a c A→Tu b A B→XB w W a c B:=by
 rintro⟨h1,h2,h3,h4,h5⟩ ht
 exact⟨h1,h2,Zfp h3 ht oM,Zfp h4 ht oM,⟨(World.grownBy.os ht).trans h5.os,(World.grownBy.tape ht).trans h5.tape,(World.grownBy.output ht).trans h5.output,co h5.size (World.grownBy.size ht),λk hk h6 h7=>
  (World.grownBy.block ht k (iv hk h5.size) (by simp; omega)).trans (h5.block k hk h6 h7)⟩⟩
theorem Z9t{B:World}{x y:Value}{s:TypeId}{b:Value}(hx:Ext A B)(h:A.heap[u]? =some (.cells #[x,y] t (0,0)))(hb:Boxed A (u+1) s b):
  B.cell? ⟨u,0,none⟩=some x∧B.cell? ⟨u,1,none⟩=some y∧B.frozen? ⟨u,0,none⟩=false∧B.frozen? ⟨u,1,none⟩=false∧B.cell? ⟨u+1,0,none⟩=some b∧B.frozen? ⟨u+1,0,none⟩=false:=by
 have h2:B.heap[u]? =_:=(hx.block (de.1 h).1).trans h
 have a0:Boxed B (u+1) s b:=(hx.block hb.lt).trans hb
 exact⟨by simp[World.cell?,h2],by simp[World.cell?,h2],by simp[World.frozen?,h2],by simp[World.frozen?,h2],a0.cell,a0.frozen⟩
structure Two(u:Nat)(A B:World):Prop where
 os:B.os=A.os
 tape:B.tape=A.tape
 output:B.output=A.output
 size:A.heap.size≤B.heap.size
 block: ∀k,k<A.heap.size→k≠u→k≠u+1→B.heap[k]? =A.heap[k]?
theorem Two.below{B:World}(h:Below s w A)(t:Two u A B)(hs:s≤u)(hw:s≤w.heap.size):Below s w B:=⟨t.os.trans h.os,t.tape.trans h.tape,t.output.trans h.output,co h.size t.size,λk hk=>(t.block k (by have:=h.size; omega) oM oM).trans (h.block k hk)⟩
theorem Two.ext{B C:World}(h:Ext A B)(t:Two u B C)(hu:u+1<A.heap.size):Two u A C:=⟨t.os.trans h.os,t.tape.trans h.tape,t.output.trans h.output,co h.size t.size,λk hk h1 h2=>(t.block k (by have:=h.size; omega) h1 h2).trans (h.block hk)⟩
theorem setB{x y p q r b:Value}{s:TypeId}(h:A.heap[u]? =some (.cells #[x,y] t (0,0)))(hb:Boxed A (u+1) s b):
  (((A.setCell ⟨u,0,none⟩ p).setCell ⟨u,1,none⟩ q).setCell ⟨u+1,0,none⟩ r).heap[u]? =some (.cells #[p,q] t (0,0))∧Boxed (((A.setCell ⟨u,0,none⟩ p).setCell ⟨u,1,none⟩ q).setCell ⟨u+1,0,none⟩ r) (u+1) s r∧Two u A (((A.setCell ⟨u,0,none⟩ p).setCell ⟨u,1,none⟩ q).setCell ⟨u+1,0,none⟩ r):=by
 obtain⟨a6,hk⟩:=de.1 h
 have o: ∀(B:World) (a:Addr) (v:Value) (k:Nat),k≠a.block→(B.setCell a v).heap[k]? =B.heap[k]? :=λB a v k hk=>Below.heap_setCell B a v k hk
 have e1:(A.setCell ⟨u,0,none⟩ p).heap[u]? =some (.cells #[p,y] t (0,0)):=by
  show(A.heap.modify u _)[u]? =_
  rw[Array.getElem?_eq_getElem (by rw[Array.size_modify]; exact a6),Array.getElem_modify_self,hk]
  rfl
 obtain⟨a0,a5⟩:=de.1 e1
 have e2:((A.setCell ⟨u,0,none⟩ p).setCell ⟨u,1,none⟩ q).heap[u]? =some (.cells #[p,q] t (0,0)):=by
  show((A.setCell ⟨u,0,none⟩ p).heap.modify u _)[u]? =_
  rw[Array.getElem?_eq_getElem (by rw[Array.size_modify]; exact a0),Array.getElem_modify_self,a5]
  rfl
 have a4:Boxed ((A.setCell ⟨u,0,none⟩ p).setCell ⟨u,1,none⟩ q) (u+1) s b:=((o _ _ _ _ sI).trans (o _ _ _ _ sI)).trans hb
 refine⟨(o _ _ _ _ sI).trans e2,a4.set r,rfl,rfl,rfl,by simp[World.setCell],λk hk h1 h2=>(o _ _ _ _ (by simpa using h2)).trans ((o _ _ _ _ (by simpa using h1)).trans (o _ _ _ _ (by simpa using h1)))⟩
theorem Zb4{B:World}{k:Nat}{v:Value}(h:Boxed A k t v)(hx:Below n A B)(hk:k<n):Boxed B k t v:=(hx.block k hk).trans h
theorem setR{p q x y:Value}{s:TypeId}(h:Boxed A u t x)(hb:Boxed A (u+1) s y):
  Boxed ((A.setCell ⟨u,0,none⟩ p).setCell ⟨u+1,0,none⟩ q) u t p∧Boxed ((A.setCell ⟨u,0,none⟩ p).setCell ⟨u+1,0,none⟩ q) (u+1) s q∧Two u A ((A.setCell ⟨u,0,none⟩ p).setCell ⟨u+1,0,none⟩ q):=by
 have o: ∀(B:World) (a:Addr) (v:Value) (k:Nat),k≠a.block→(B.setCell a v).heap[k]? =B.heap[k]? :=λB a v k hk=>Below.heap_setCell B a v k hk
 have h1:=h.set p
 have a0:Boxed (A.setCell ⟨u,0,none⟩ p) (u+1) s y:=(o _ _ _ _ sI).trans hb
 refine⟨(o _ _ _ _ sI).trans h1,a0.set q,rfl,rfl,rfl,by simp[World.setCell],λk hk h1 h2=>(o _ _ _ _ (by simpa using h2)).trans (o _ _ _ _ (by simpa using h1))⟩
theorem Two.butR{B:World}(h:Below W.heap.size W A)(t:Two s A B):ButR s W B:=⟨t.os.trans h.os,t.tape.trans h.tape,t.output.trans h.output,co h.size t.size,λk hk h1 h2=>(t.block k (by have:=h.size; omega) h1 h2).trans (h.block k hk)⟩
theorem ButR.below{B:World}(h:Below s w A)(t:ButR s A B)(hw:s≤w.heap.size):Below s w B:=⟨t.os.trans h.os,t.tape.trans h.tape,t.output.trans h.output,co h.size t.size,λk hk=>(t.block k (by have:=h.size; omega) oM oM).trans (h.block k hk)⟩
structure OneB(n b:Nat)(A B:World):Prop where
 os:B.os=A.os
 tape:B.tape=A.tape
 output:B.output=A.output
 size:A.heap.size≤B.heap.size
 block: ∀k,k<n→k≠b→B.heap[k]? =A.heap[k]?
theorem OneB.below{B:World}(h:Below s w A)(t:OneB n b A B)(hs:s≤b)(hn:s≤n):Below s w B:=⟨t.os.trans h.os,t.tape.trans h.tape,t.output.trans h.output,co h.size t.size,λk hk=>(t.block k oM oM).trans (h.block k hk)⟩
theorem Zml{B:World}{size k:Nat}{v:Value}(h:A.ownsRow base e size v k xs)(hb:Below A.heap.size A B):B.ownsRow base e size v k xs:=
 ⟨h.1,h.2.imp id λ⟨g,cap,a0,h1,h2,h3,h4⟩=>⟨g,cap,a0,h1,h2,(hb.block g (de.1 h3).1).trans h3,h4⟩⟩
theorem Z0b{w1:World}{n₀ B:Nat}{size:Nat}{v v':Value}{k m:Nat}{ys:List Value}{tmp:Obj}
  (hv:Boxed W B t v) (a7:t≠e) (a5:W.ownsRow n₀ e size v k xs) (b0:n₀≤W.heap.size)
  (a4:w1.ownsRow n₀ e size v' m ys) (a0:(W.alloc tmp).grownBy w1 v.ownBlock):
  Boxed w1 B t v∧Boxed (w1.setCell ⟨B,0,none⟩ v') B t v'∧(w1.setCell ⟨B,0,none⟩ v').ownsRow n₀ e size v' m ys∧OneB n₀ B W (w1.setCell ⟨B,0,none⟩ v'):=by
 have a6:Boxed w1 B t v:=(hv.alloc tmp).kept a0 (hv.not_row a7 a5)
 refine⟨a6,a6.set v',a4.kept (grownBy_setCell' w1 B v') (.inr (a6.not_row a7 a4).symm),by have:=World.grownBy.os a0; exact this,by have:=World.grownBy.tape a0; exact this,by have:=World.grownBy.output a0; exact this,?_,λj hj hb=>?_⟩
 ·have:=World.grownBy.size a0
  simp[World.setCell]at this ⊢
  omega
 ·refine(Below.heap_setCell w1 _ v' j hb).trans ((World.grownBy.block a0 j (by simp; omega) λe'=>?_).trans (Below.heap_alloc W tmp j oM))
  rcases a5.2 with⟨rfl,_⟩|⟨g,cap,a8,rfl,a9,_⟩
  ·simp[Value.ownBlock]at e'
  ·have:j=g:=by simpa[Value.ownBlock]using e'
   omega
theorem Z4l{v:Value}(h:W.ownsRow base 310 2 v l.length (Zf3 l))(a0:rkIn l)(hl:l.length≤1000000):
  Calls prog 258 #[v] W λe w'=>∃(t:Sl) (m:List Rk),e= .returned t.v∧Ext W w'∧m.Perm l∧Zwv m∧SlR rkE w' (λb=>W.heap.size≤b∧b<w'.heap.size) t (Zoj m):=by
 obtain⟨s,rfl,own⟩:=OwnS.rkMk h
 have eb:rkE.bytes=16:=rfl
 have hj:callS prog 258 [s.v] W λv w'=>∃(t:Sl) (m:List Rk),v=t.v∧Ext W w'∧m.Perm l∧Zwv m∧SlR rkE w' (λb=>W.heap.size≤b∧b<w'.heap.size) t (Zoj m):=by
  refine SE.Zh7.go (joined_se own a0 hl λt w' m hx hp hr ow=>⟨t,m,rfl,hx,hp,hr,?_⟩)
  have a4:(Zoj m).length≤1000000:=by
   have hm:m.length≤1000000:=by rw[hp.length_eq]; exact hl
   cases m with
   |nil=>simp[Zoj]
   |cons y r=>have:=Zyv r y; simp only[dq]at hm; show(Zmb y r).length≤1000000; omega
  refine(ow.read (by rw[eb]; unfold room; omega) (by rw[Zd]; omega)).mono λb hb=>?_
  rcases hb with h|⟨ad,ha,rfl⟩
  ·exact h.elim
  ·have:=ow.block ha; exact⟨this.1,this.2.1⟩
 exact Calls.mono hj λe w' ⟨v,he,t,m,hv,r⟩=>⟨t,m,by rw[he,hv],r⟩
theorem fit_c{t:Sl}(h:SlR rkE W S t l):
  Calls prog 257 #[t.v] W λe w'=>∃(s:Sl) (er:Int),e= .returned (.tuple #[s.v,.int .i64 er])∧Ext W w'∧((s=Sl.nil∧er=26∧64<l.length)∨(er=0∧l.length≤64∧SlR spanE w' (λb=>W.heap.size≤b∧b<w'.heap.size) s (Zgp l))):=by
 have hf:callS prog 257 [t.v] W λv w'=>∃(s:Sl) (er:Int),v= .tuple #[s.v,.int .i64 er]∧Ext W w'∧((s=Sl.nil∧er=26∧64<l.length)∨(er=0∧l.length≤64∧SlR spanE w' (λb=>W.heap.size≤b∧b<w'.heap.size) s (Zgp l))):=by
  refine SE.Zov.go ?_
  unfold SE.Zov
  have hl:=h.len
  exact⟨λhg=>⟨Sl.nil,26,rfl,Ext.refl _,.inl ⟨rfl,rfl,oM⟩⟩,λhg=>SE.Zja.go (spans_se h oM λt w' hx ht=>⟨t,rfl,t,0,rfl,hx,.inr ⟨rfl,oM,ht⟩⟩)⟩
 exact Calls.mono hf λe w' ⟨v,he,s,er,hv,r⟩=>⟨s,er,by rw[he,hv],r⟩
def ParseR(w:World)(text:ByteArray)(e:Ending)(W':World):Prop:=
 Ext w W'∧ ∃(s:Sl) (er:Int),e= .returned (.tuple #[s.v,.int .i64 er])∧((s=Sl.nil∧er=21∧ ¬Zxa text)∨
  (text.size≤4096∧ ∃l m,InA (Zcv barB text) (Zcv barB text).length l∧m.Perm l∧Zwv m∧((s=Sl.nil∧er=26∧64<(Zoj m).length)∨
   (er=0∧(Zoj m).length≤64∧SlR spanE W' (λb=>w.heap.size≤b∧b<W'.heap.size) s (Zgp (Zoj m))))))
set_option maxRecDepth 100000 in
theorem parse_in(n:Nat)(hn:12≤n)(a0:ByteArray)(w:World)(f7:a0.size≤4096)(m:Int)(hm:w.cell? ⟨0,0,none⟩=some (.int .i64 m))(e0:WordC w)(g6:StarW a0):
  CallsIn Fence.wide n prog 204 #[.string a0] w (ParseR w a0):=by
 have h1:1≤n:=oM
 obtain⟨i0,hi,i2,i3,i4⟩:=info_parts (show(prog.info? 310).map (λi=>(i.zero,i.size,i.bytes))=some (some (.agg #[.int .i64 0,.int .i64 0]),2,16) by kernel_rfl)
 refine callsIn_of_wp_marks func204 rfl trivial ?_ rfl
 simp only[Tryz.ntmps204,ia,dq,fa,Nat.reduceAdd,Nat.reduceSub,jl,jk,ju,jp,em,dz]
 have g5:(a0.size:Int)≤4096:=oM
 gi_wp2_with (refine⟨trivial,?_⟩; gi_at_call 255; refine(Zoa (n - 1) oM _ _ _).mono ?_; rintro e w' ⟨rfl,rfl⟩)
 have b5:=stA w a0
 obtain⟨V,hV⟩: ∃V,sqW (((w.alloc (.cells #[Ziq] 200)).alloc (.cells #[.int .i64 0] 38)).alloc (.cells #[Ziq] 307)) a0 barB=V:=⟨_,rfl⟩
 rw[hV]at b5
 have c6:=hV
 unfold Ziq barB at c6
 rw[c6]
 clear hV c6
 have h4:0<w.heap.size:=World.block_lt_of_cell? _ _ hm
 have f9: ∀{W:World},Below w.heap.size w W→W.cell? ⟨0,0,none⟩=some (.int .i64 m):=λh=>(h.cell (p:=⟨0,0,none⟩) h4).trans hm
 have f5:=b5.size
 have g4:=Zp6 (n - 1) oM barB dC (w.heap.size+1+1+1+1) (w.heap.size+1+1+1) (w.heap.size+1+1+1+2) oM oM a0 f7 m oM (V.alloc (.deferred (some []))) (b5.sep.alloc _) (b5.str.alloc _) (b5.sav.alloc _) (f9 (b5.bel.alloc oM _))
 have hD:(V.alloc (.deferred (some []))).heap[w.heap.size+6]? =some (.deferred (some [])):=by rw[←f5]; exact World.alloc_heap_new V _
 have d5:(V.alloc (.deferred (some []))).heap.size=w.heap.size+7:=by rw[World.size_alloc,f5]
 refine Z6x (r₀:=none) (D:=V.heap.size) (λfn=>Z4f _ _ _ _ fn) (gf:=331) rfl (enters_of func331 kR rfl) g4 rfl oM (λk hk=>?ks)
  (IA w a0) (XA w a0) (λk A B b hb h ht=>h.tu (hb.imp id λe=>e.trans d5) ht) (λc A B b hb h ht=>h.tu (hb.imp id λe=>e.trans d5) ht)
  ⟨[],Ziq,InA.start _,b5.all.alloc _,World.ownsRow_nil _ _ _ _,b5.bel.alloc oM _,b5.out.alloc _,b5.err.alloc _,hD,oM⟩ ?a1 ?assign ?body ?done ?stop
 case ks=>
  simp only[du,mf,or_false]at hk
  omega
 case assign=>
  intro x W K hK
  gi_wp2
  exact hK
 case body=>
  rintro k hk W ⟨g8,d2,j6⟩ ⟨l,v,hA,c9,c8,hB,b7,b6,b9,d8⟩
  rw[d5]at d2
  have h5:=(de.1 d2).1
  have n1:1≤n - 1 - 1:=oM
  have n2:1≤n - 1 - 1 - 1:=oM
  gi_wp2_with (refine⟨trivial,?_⟩; gi_at_call 255; refine(CallsIn.inRound (F:=Fence.wide) _ (Zoa (n - 1 - 1 - 1) oM _ _ _)).mono ?_; rintro e w' ⟨rfl,rfl⟩)
  have a7:=stB W (Zcv barB a0)[k]
  obtain⟨V2,hV⟩: ∃V2,sqW ((W.alloc (.cells #[.int .i64 0,.int .i64 999999999] 310)).alloc (.cells #[.bool false] 4)) (Zcv barB a0)[k] spB=V2:=⟨_,rfl⟩
  rw[hV]at a7
  have c6:=hV
  unfold spB at c6
  rw[c6]
  clear hV c6
  have e6:=a7.size
  have g9:V2.heap[(V.alloc (.deferred (some []))).heap.size]? =some (.loop g8):=by rw[d5]; exact(a7.bel.block _ oM).trans d2
  have e5:(Zcv barB a0)[k].size≤4096:=co (Zqx (cj hk)) f7
  have f6:=Zp6 (n - 1 - 1 - 1) oM spB dC (W.heap.size+1+1+1) (W.heap.size+1+1) (W.heap.size+1+1+2) oM oM (Zcv barB a0)[k] e5 m oM V2 a7.sep a7.str a7.sav (f9 (hB.trans (a7.bel.mono oM)))
  refine Z6x (r₀:=some (V.alloc (.deferred (some []))).heap.size) (D:=g8.defers) (w₀:=V2) (mark:=[]) (λfn=>run_enterLoop_inner g9 fn _ _ _ _) (gf:=331) rfl (enters_of func331 kR rfl) f6 rfl oM (λk hk=>?ks2)
   (IB W (Zcv barB a0)[k]) (XB w W (Zcv barB a0)[k]) (λj A B b hb h ht=>h.tu (hb.imp id λe=>e.trans e6) ht) (λc A B b hb h ht=>h.tu oM (hb.imp id λe=>e.trans e6) ht)
   ⟨_,_,InW.start _,a7.one,a7.some,a7.bel,oM⟩ ?a2 ?assign2 ?body2 ?done2 ?stop2
  case ks2=>
   simp only[du,mf,or_false]at hk
   omega
  case assign2=>
   intro x W K hK
   gi_wp2
   exact hK
  case body2=>
   rintro j hj W' ⟨j0,d3,i7⟩ ⟨x,b,hW,b4,a9,a4,d7⟩
   have d9:(Zcv spB (Zcv barB a0)[k])[j].size≤4096:=co (Zqx (cj hj)) e5
   generalize ht:(Zcv spB (Zcv barB a0)[k])[j]=t at d9 ⊢
   by_cases h0:t.size=0
   ·have h9:t=ByteArray.mk #[]:=by
     obtain⟨⟨l⟩⟩:=t
     simp[ByteArray.size]at h0
     rw[h0]
    subst h9
    gi_wp2
    exact⟨rfl,λ_ _=>rfl,x,b,hW.skip hj (by rw[ht]; rfl),b4,a9,a4,d7⟩
   ·have j1: ¬t=ByteArray.mk #[]:=by rintro rfl; exact h0 rfl
    have j7:t.toList.isEmpty=false:=by
     rw[Lib.toList_data]
     cases h:t.data.toList with
     |nil=>have:=Lib.size_eq t; rw[h,fa]at this; omega
     |cons _ _=>rfl
    by_cases hx: ∃a,WordS t.data.toList a
    ·obtain⟨a,ha⟩:=hx
     have hc:Calls prog 256 #[.string t] W' λe w'=>e= .returned (.tuple #[.agg #[.int .i64 a.1,.int .i64 a.2],.bool true])∧Ext W' w':=by
      refine(e0 t W' (StarW.piece g6 (cj hk) (by rw[←ht]; exact cj hj)) d9 (hB.trans (a4.mono oM))).mono ?_
      rintro e w' ⟨b8,⟨y,hy,rfl⟩|⟨hn,_⟩⟩
      ·rw[hy.one ha]; exact⟨rfl,b8⟩
      ·exact absurd ha (hn a)
     have n3:1≤n - 1 - 1 - 1 - 1:=oM
     gi_wp2_with (refine⟨trivial,?_⟩; gi_at_call 256; refine(CallsIn.inRound (F:=Fence.wide) _ (callsIn_wide.2 hc)).mono ?_; rintro e w' ⟨rfl,b8⟩; obtain⟨c1,c2,f1,f2,cs,fs⟩:=Z9t (b8.trans (Ext.alloc w' (.cells #[.int .i64 a.1,.int .i64 a.2] 310))) b4 a9)
     have x2:=b8.trans (Ext.alloc w' (.cells #[.int .i64 a.1,.int .i64 a.2] 310))
     have f4:=(x2.block (de.1 b4).1).trans b4
     have e2:=Zb4 a9 x2 a9.lt
     obtain⟨k1,k2,k3⟩:=setB (p:=.int .i64 (max x.1 a.1)) (q:=.int .i64 (min x.2 a.2)) (r:=.bool true) f4 e2
     have k4:=k3.ext x2 a9.lt
     refine⟨?_,?_,(max x.1 a.1,min x.2 a.2),true,hW.word hj (by rw[ht]; exact h0) (by rw[ht]; exact ha),k1,k2,Two.below a4 k4 nR nR,co d7 k4.size⟩
     ·exact k4.block _ (de.1 d3).1 oM oM
     ·intro q hq
      simp only[du,mf,or_false]at hq
      exact k4.block _ oM oM oM
    ·have hc:Calls prog 256 #[.string t] W' λe w'=>e= .returned (.tuple #[.agg #[.int .i64 0,.int .i64 0],.bool false])∧Ext W' w':=by
      refine(e0 t W' (StarW.piece g6 (cj hk) (by rw[←ht]; exact cj hj)) d9 (hB.trans (a4.mono oM))).mono ?_
      rintro e w' ⟨b8,⟨y,hy,_⟩|⟨_,he⟩⟩
      ·exact absurd ⟨y,hy⟩ hx
      ·exact⟨he,b8⟩
     have n3:1≤n - 1 - 1 - 1 - 1:=oM
     have b0:=Zb4 b7 a4 oM
     have a8:=Zb4 b6 a4 oM
     gi_wp2_with (refine⟨trivial,?_⟩; gi_at_call 256; refine(CallsIn.inRound (F:=Fence.wide) _ (callsIn_wide.2 hc)).mono ?_; rintro e w' ⟨rfl,b8⟩; have x2:=b8.trans (Ext.alloc w' (.cells #[.int .i64 0,.int .i64 0] 310)); have c1:=(Zb4 b0 x2 b0.lt).cell; have c2:=(Zb4 b0 x2 b0.lt).frozen; have c3:=(Zb4 a8 x2 a8.lt).cell; have c4:=(Zb4 a8 x2 a8.lt).frozen)
     have x2:=b8.trans (Ext.alloc w' (.cells #[.int .i64 0,.int .i64 0] 310))
     obtain⟨k1,k2,k3⟩:=setR (p:=Ziq) (q:=.int .i64 21) (Zb4 b0 x2 b0.lt) (Zb4 a8 x2 a8.lt)
     have k4:=k3.ext x2 a8.lt
     exact⟨k4.block _ (de.1 d3).1 oM oM,rfl,⟨t,by rw[←ht]; exact cj hj,h0,λy hy=>hx ⟨y,hy⟩⟩,k1,k2,k4.butR a4⟩
  case stop2=>
   rintro c W2 ⟨rfl,⟨t,ht,h0,hx⟩,b1,b2,hr⟩
   gi_wp2
   exact⟨by rw[d5]; exact hr.block _ h5 oM oM,rfl,λh=>by
    obtain⟨y,hy⟩:=(h.2 _ (cj hk)).2 t ht h0
    exact hx y hy,ButR.below hB hr nR,b1,b2,(hr.block _ (de.1 b9).1 oM oM).trans b9,co d8 hr.size⟩
  case done2=>
   rintro W2 ⟨x,b,hW,b4,a9,a4,d7⟩
   have j3:=a9.cell
   have a6:=Zb4 b7 a4 oM
   have a5:=Zb4 b6 a4 oM
   have e3:=hB.trans (a4.mono (by omega:w.heap.size≤W.heap.size))
   have b3:=(a4.block _ (de.1 b9).1).trans b9
   cases b with
   |false=>
    have c1:=a6.cell
    have c2:=a6.frozen
    have c3:=a5.cell
    have c4:=a5.frozen
    gi_wp2
    obtain⟨k1,k2,k3⟩:=setR (p:=Ziq) (q:=.int .i64 21) a6 a5
    exact⟨(k3.block _ oM oM oM).trans (a4.block _ oM),rfl,λh=>by
     have:=hW.some
     rw[cu]at this
     exact absurd (this.2 (h.2 _ (cj hk)).1) sI,ButR.below hB (k3.butR a4) nR,k1,k2,(k3.block _ (de.1 b3).1 oM oM).trans b3,co oM k3.size⟩
   |true=>
    have d6:=hA.step hk hW
    have c1:W2.cell? ⟨W.heap.size,0,none⟩=some (.int .i64 x.1):=by simp[World.cell?,b4]
    have c2:W2.cell? ⟨W.heap.size,1,none⟩=some (.int .i64 x.2):=by simp[World.cell?,b4]
    have c5:=Zb4 c9 a4 oM
    by_cases f8:x.1≤x.2
    ·have e7:=d6.1 f8
     have h3:=c5.cell
     have d4:=Zml c8 a4
     have i6:=hA.len
     have h6:l.length≤4096:=by
      have:=Ztg barB dC a0
      omega
     gi_wp2_with (gi_at_builtin; refine wpListIn_append_own _ rfl _ _ 307 rfl (w.heap.size+8) 310 i0 (.agg #[.int .i64 0,.int .i64 0]) 2 16 underlying307 hi i2 i3 i4 rfl dC _ _ _ rfl (d4.alloc _) ⟨W2.heap.size,0,none⟩ 1 1 [.int .i64 x.1,.int .i64 x.2] rfl rfl (λj u hj=>by rw[show(⟨W2.heap.size,0,none⟩:Addr).add j=⟨W2.heap.size,j,none⟩ by unfold Addr.add; split<;>simp_all]; rw[World.cell?_alloc_mark,jr]; exact hj) (by simp[Value.oneCell']) (by rw[Zq9]; omega) oM (by simp; omega) ?_; intro v' w1 d0 f0 _; obtain⟨g',i5,rfl⟩:=ownsRow_succ d0; obtain⟨g7,i1,h8,c7⟩:=Z0b c5 dC d4 oM d0 f0; have j2:=g7.cell; have j4:=g7.frozen)
     exact⟨(c7.block _ oM oM).trans (a4.block _ oM),λq hq=>by
      simp only[du,mf,or_false]at hq
      exact(c7.block _ oM oM).trans (a4.block _ oM),l++ [x],_,e7,i1,by rw[Zpw]; simpa using h8,OneB.below e3 c7 oM oM,(c7.block _ oM oM).trans a6,(c7.block _ oM oM).trans a5,(c7.block _ oM oM).trans b3,co oM c7.size⟩
    ·have e7:=d6.2 f8
     gi_wp2
     exact⟨a4.block _ oM,λq hq=>by
      simp only[du,mf,or_false]at hq
      exact a4.block _ oM,l,v,e7,c5,Zml c8 a4,e3,a6,a5,b3,oM⟩
 case stop=>
  rintro c W ⟨rfl,h7,hB,b7,b6,b9,d8⟩
  gi_wp2
  refine⟨by simp,.inl ⟨_,_,rfl,run_takeDeferred (by rw[f5]; exact b9),?_⟩⟩
  have hp:=Tu.put W V.heap.size (.deferred none)
  have e8:=(Zfp b7 hp oM).cell
  have e9:=(Zfp b6 hp oM).cell
  refine⟨.tuple #[Ziq,.int .i64 21],?_,Zl3 hB hp oM nR,Sl.nil,21,rfl,.inl ⟨rfl,rfl,h7⟩⟩
  simp[results,Tryz.f204,go_sem,e8,e9]
 case done=>
  rintro W ⟨l,v,hA,c9,c8,hB,b7,b6,b9,d8⟩
  have h3:=c9.cell
  have j5:=hA.len
  have h6:=Ztg barB dC a0
  gi_wp2
  refine⟨trivial,(callsIn_wide.2 (Z4l c8 hA.inn oM)).mono ?_⟩
  rintro e w1 ⟨t,m',rfl,x1,hp,hr,hm⟩
  gi_wp2
  refine⟨trivial,(callsIn_wide.2 (fit_c hm)).mono ?_⟩
  rintro e w2 ⟨⟨a2,l2,k2⟩,er,rfl,x2,g0⟩
  dsimp only[Sl.v]
  have e1:=x1.trans x2
  have a6:=Zb4 b7 e1 oM
  have a5:=Zb4 b6 e1 oM
  have b3:=(e1.block oM).trans b9
  have c1:=a6.cell
  have c2:=a6.frozen
  have c3:=a5.cell
  have c4:=a5.frozen
  gi_wp2
  obtain⟨q1,q2,q3⟩:=setR (p:=.slice a2 l2 k2) (q:=.int .i64 er) a6 a5
  have e4:=(q3.block _ (de.1 b3).1 oM oM).trans b3
  refine⟨by simp,.inl ⟨_,_,rfl,run_takeDeferred e4,?_⟩⟩
  generalize hX:(w2.setCell ⟨w.heap.size,0,none⟩ (.slice a2 l2 k2)).setCell ⟨w.heap.size+1,0,none⟩ (.int .i64 er)=X at q1 q2 q3 e4 ⊢
  have d1:=Tu.put X (w.heap.size+6) (.deferred none)
  have e8:=(Zfp q1 d1 oM).cell
  have e9:=(Zfp q2 d1 oM).cell
  have h2:=Two.below (hB.trans (e1.mono oM)) q3 nR nR
  refine⟨.tuple #[.slice a2 l2 k2,.int .i64 er],?_,Zl3 h2 d1 oM nR,⟨a2,l2,k2⟩,er,rfl,.inr ⟨f7,l,m',hA,hp,hr,g0.imp id λ⟨g1,g2,g3⟩=>⟨g1,g2,?_⟩⟩⟩
  ·simp[results,Tryz.f204,go_sem,e8,e9]
  ·have i9:=e1.size
   have j8:=x1.size
   have g5:=World.grownBy.size d1
   have hq:=q3.size
   refine(g3.keep (w':=X.putObj (w.heap.size+6) (.deferred none)) λb hb hl=>?_).mono λb hb=>⟨by have:=hb.1; omega,by have:=hb.2; omega⟩
   have h1:=hb.1
   exact(World.grownBy.block d1 b oM (by simp; omega)).trans (q3.block b hl oM oM)
end Star
end Go.Hal
namespace Go.Hal
theorem Zzy(w:World):Star.WordC w:=λt W ht _ hx=>by
 obtain rfl:t=star0:=ht
 have h:callS prog 256 [.string star0] W λu w'=>Ext W w'∧u= .tuple #[.agg #[.int .i64 0,.int .i64 999999999],.bool true]:=SE.Zmt.go (by
  unfold SE.Zmt
  exact newS.intro λa w1 x1 hb a4 _=>⟨λ_=>stw0.intro hb sI λw2 b2 _ h2=>⟨_,_,h2.at0 (r:=[]) xR rfl,b2.ext x1 oM,rfl⟩,λh=>absurd rfl h⟩)
 exact Calls.mono h λe w' ⟨u,he,a0,hu⟩=>⟨a0,.inl ⟨(0,999999999),⟨rfl,rfl⟩,by rw[he,hu]⟩⟩
theorem Z5v(h:Star.InA [star0] 1 l):l= [(0,999999999)]:=by
 have hh: ∀n:Int,0≤n→n≤999999999→hasR n l=true:=λn h1 h2=>(h.has n).2 ⟨star0,by simp,h1,h2,λt ht _ x hx=>by rw[hx.2]; exact⟨h1,h2⟩⟩
 have h0:=hh 0 dC dC
 have h9:=hh 999999999 dC dC
 have hl:=h.len
 have hi:=h.inn
 match l,hl with
 | [],_=>cases h0
 | [(a,b)],_=>
  simp[hasR]at h0 h9
  have:=hi _ (ci.2 rfl)
  simp only at this
  rw[show a=0 by omega,show b=999999999 by omega]
theorem Z41{K:Value→World→Prop}(hg:Gl w)(a4: ∀s w',Ext w w'→SlR spanE w' (λb=>w.heap.size≤b∧b<w'.heap.size) s [s11]→K (.tuple #[Sl.v s,.int .i64 0]) w'):callS prog 204 [.string star0] w K:=by
 have h:Calls prog 204 #[.string star0] w (Star.ParseR w star0):=by
  obtain⟨m,hm⟩:=hg.mx
  exact callsIn_wide.1 (Star.parse_in 12 nR star0 w dC m hm (Zzy w) rfl)
 refine Calls.mono h λe w' ⟨hx,s,er,he,hr⟩=>⟨_,he,?_⟩
 rcases hr with⟨rfl,rfl,hn⟩|⟨_,l,m,hA,hp,_,hh⟩
 ·refine absurd ⟨by decide,λa ha=>?_⟩ hn
  rw[Zk2.1,ci]at ha
  subst ha
  refine⟨⟨star0,by rw[Zk2.2]; simp,by decide⟩,λt ht _=>⟨_,?_,rfl⟩⟩
  rw[Zk2.2,ci]at ht
  rw[ht]; rfl
 ·rw[Zk2.1]at hA
  rw[Z5v hA]at hp
  obtain rfl:=List.perm_singleton.1 hp
  rcases hh with⟨_,_,a0⟩|⟨rfl,_,a5⟩
  ·exact absurd a0 (by decide+kernel)
  ·exact a4 s w' hx (by rw[show [s11]=Zgp (Zoj [(0,999999999)]) by decide+kernel]; exact a5)
section
variable {p:ByteArray} {n:Int} {w:World}
theorem Z7j{k:Int}{R:ByteArray→Sl→Int→World→Prop}(hg:Gl w)(h1: ∀t w',Ext w w'→SlR spanE w' (λb=>w.heap.size≤b∧b<w'.heap.size) t [s11]→R n11 t 0 w'):SE.Zkt 3 n11 star0 k p n w R:=by
 unfold SE.Zkt
 refine newS.intro λa w1 x1 a0 a6 _=>newS.intro λa1 w2 x2 a4 a7 _=>⟨_,a0.at1 x2 rfl,Z41 (hg.ext (x1.trans x2)) λs w3 x3 hs=>⟨_,_,rfl,bound ⟨λh=>?_,λ_=>⟨_,a0.at1 (x2.trans x3) rfl,stw0.intro (a4.ext x3) sI λw4 b4 _ a5=>⟨_,_,a5.at0 xR rfl,?_⟩⟩⟩⟩⟩
 ·rw[show s.len=1 from hs.len]at h; exact absurd h dC
 have s1:=x1.size; have s2:=x2.size
 refine h1 s w4 (b4.ext (x1.trans (x2.trans x3)) oM) ((hs.but b4 λhb=>?_).mono λb hb=>⟨oM,by have:=b4.1; omega⟩)
 have:=hb.1
 have:=a4.lt
 omega
def Job0(w w':World)(d:Sl):Prop:=SlR depE w' (λb=>w.heap.size≤b∧b<w'.heap.size) d m11.deps
theorem Zz5{pS:Sl}{old:Option Addr}{R:Sl→Sl→Sl→Sl→Sl→Option Addr→Bool→Int→World→Prop}(hg:Gl w)(hR: ∀d w',Ext w w'→Job0 w w' d→R d Sl.nil Sl.nil Sl.nil pS old false 0 w'):
  SE.Zh6 Sl.nil Sl.nil Sl.nil Sl.nil pS old false 3 n11 star0 0 p n w R:=by
 unfold SE.Zh6
 refine newS.intro λa w1 x1 ha d6 _=>newS.intro λa1 w2 x2 h1 d4 _=>newS.intro λa3 w4 x4 h4 d5 _=>⟨_,h1.at1 x4 rfl,SE.Zep.go (scanName_se strA λw5 x5=>⟨_,rfl,λh=>absurd h (by decide+kernel),λ_=>⟨_,_,_,_,_,_,(h1.ext (x4.trans x5)).at0 (r:=[]) xR rfl,?_⟩⟩)⟩
 have b7:=x1.trans (x2.trans (x4.trans x5))
 have s1:=x1.size; have s2:=x2.size; have s4:=x4.size; have s5:=x5.size
 refine SE.Zkt.go (Z7j (hg.ext b7) λtr c7 b8 c5=>⟨_,_,_,rfl,newS.intro λd2 e2 d0 c2 b3 _=>stw0.intro c2 sI λc8 c1 _ c3=>⟨λh=>absurd rfl h,λ_=> ?_⟩⟩)
 have b2:Ext c7 c8:=c1.ext d0 oM
 have a0:=b8.trans b2
 have d7:=b8.size; have d8:=b2.size
 refine⟨_,_,_,_,(ha.ext (x2.trans (x4.trans (x5.trans a0)))).at0 xR rfl,_,(h1.ext (x4.trans (x5.trans a0))).at1 xR rfl,SE.Zhr.go (bare0_se λe3 a6=>⟨_,_,_,_,rfl,stw0.intro (ha.ext (x2.trans (x4.trans (x5.trans (a0.trans a6))))) sI λb6 a4 _ b4=>join.named λJ hJ=>?_⟩)⟩
 have a7:=a0.trans a6
 have k1:=a4.box (h1.ext (x4.trans (x5.trans a7))) oM
 have k3:=a4.box (h4.ext (x5.trans a7)) oM
 have c6:=a4.box (c3.ext a6) (by have:=b3; omega)
 have d9:=a6.size; have e6:=a4.1
 have al:=ha.lt
 have d1:Ext w b6:=a4.ext (b7.trans a7) oM
 refine⟨0,k1.at1 xR rfl,λ_=>⟨_,b4.at0 xR rfl,_,_,c6.at0 xR rfl,SE.Zi4.go (Z6b (d:=⟨n11,[s11]⟩) (S:=λb=>w5.heap.size≤b∧b<b6.heap.size) strA (λb hb=>hb.2) ?_ λt e4 b0 ht=>⟨_,rfl,stw0.intro (b4.ext b0) sI λa5 a9 _ b5=>?_⟩)⟩,λh=>absurd rfl h⟩
 ·exact(((c5.ext b2).ext a6).but a4 λhb=>by have:=hb.1; omega).mono λb hb=>⟨hb.1,by have:=hb.2; omega⟩
 have e0:=b0.size; have e7:=a9.1
 have b9:Ext w a5:=a9.ext (d1.trans b0) oM
 have hd:SlR depE a5 (λb=>w5.heap.size≤b∧b<a5.heap.size) t m11.deps:=(ht.but a9 λhb=>by rcases hb with hb|hb<;>omega).mono λb hb=>by rcases hb with hb|hb<;>omega
 have hO:Old (λb=>w5.heap.size≤b∧b<a5.heap.size) a5:=λb hb=>hb.2
 rw[hJ]
 refine⟨_,_,_,_,b5.at0 xR rfl,SE.Ze5.go (Zni (m:=m11) (hg.ext b9).tab hO hd (SlR.nil trivial) (SlR.nil trivial) (SlR.nil trivial) λe5 a8=>⟨_,rfl,λh=>absurd h (by decide+kernel),λ_=>⟨_,_,_,_,_,_,_,(b5.ext a8).at0 (r:=[]) xR rfl,stw0.intro ((a9.box (k3.ext b0) oM).ext a8) sI λc9 b1 _ c4=>⟨_,_,_,_,_,_,_,c4.at0 xR rfl,?_⟩⟩⟩)⟩
 have e1:=a8.size; have e8:=b1.1
 have d3:=h4.lt
 exact hR t c9 (b1.ext (b9.trans a8) oM) (((hd.ext a8).but b1 λhb=>by have:=hb.1; omega).mono λb hb=>⟨oM,oM⟩)
def Cmd0(w w':World)(t:Sl)(c:Int)(d e o v pt:Sl)(old:Option Addr)(pr:Bool):Prop:=
 c=0→Job0 w w' d∧e=Sl.nil∧o=Sl.nil∧v=Sl.nil∧pt=Sl.nil∧pr=false∧ ∃ao,old=some ao∧w.heap.size≤ao.block∧ao.block<w'.heap.size∧ldc w' ao [Sl.v t]
theorem Z45{k:Int}{rg:ByteArray}{t:Sl}{R:Sl→Sl→Sl→Sl→Sl→Option Addr→Bool→Int→World→Prop}(hg:Gl w)(b7:op=4∨op=3∧k=0∧rg=star0)(hG:SlR nodeE w S g [rootNode])
  (hR: ∀d e o v pt old pr w',Ext w w'→Cmd0 w w' t (if op=4 then 50 else 0) d e o v pt old pr→R d e o v pt old pr (if op=4 then 50 else 0) w'):
  SE.Zf0 Sl.nil Sl.nil Sl.nil Sl.nil g t false op n11 rg k p n w R:=by
 unfold SE.Zf0
 refine newS.intro λa w1 x1 ha c9 _=>newS.intro λa1 w2 x2 h1 c7 _=>newS.intro λa3 w4 x4 h4 c8 _=>join.named λJ hJ=>bnd.drew λw5 x5=>?_
 have c2:=x1.trans (x2.trans x4)
 have a4:=c2.trans x5
 have s1:=x1.size; have s2:=x2.size; have s4:=x4.size; have s5:=x5.size
 have ab:=ha.lt; have c5:=h1.lt; have c6:=h4.lt
 have a6:=ha.ext (x2.trans (x4.trans x5))
 have key: ∀{w':World} {aj:Addr},Ext w5 w'→w5.heap.size≤aj.block→BoxAt w' aj (jobC Sl.nil Sl.nil Sl.nil Sl.nil Sl.nil (some (a.add 5)) false)→J aj w':=by
  subst hJ
  intro w' aj hx b5 hj
  have b1:=a6.ext hx
  have a0:=h1.ext (x4.trans (x5.trans hx))
  have b3:=h4.ext (x5.trans hx)
  have q:=hx.size
  have d0:=hj.lt
  rcases b7 with rfl|⟨rfl,rfl,rfl⟩
  ·refine⟨4,a0.at0 xR rfl,λh=>absurd h dC,λ_=>⟨λh=>absurd h dC,λ_=>⟨λ_=>⟨_,a0.at1 xR rfl,SE.Zep.go (scanName_se strA λw6 x6=>⟨_,rfl,λh=>absurd h (by decide+kernel),λ_=>⟨_,_,_,_,(b1.ext x6).at0 xR rfl,_,(a0.ext x6).at1 xR rfl,SE.Zhr.go (bare0_se λd3 a8=>⟨_,_,_,_,rfl,stw0.intro (hj.ext (x6.trans a8)) (by simp[jobC]) λc1 b0 _ b4=>⟨_,_,_,_,b4.at0 xR rfl,_,_,_,_,(b0.box (b1.ext (x6.trans a8)) oM).at0 xR rfl,?_⟩⟩)⟩⟩)⟩,λh=>absurd rfl h⟩⟩⟩
   have c3:Ext w c1:=b0.ext (a4.trans (hx.trans (x6.trans a8))) oM
   refine SE.Zff.go (Zkl (m:=⟨[],[],[],[]⟩) (k:=⟨[],[],[],[]⟩) (S:=None') (T:=None') (SlR.nil trivial) (SlR.nil trivial) (SlR.nil trivial) (SlR.nil trivial) (SlR.nil trivial) (SlR.nil trivial) (SlR.nil trivial) (SlR.nil trivial) λd4 b2=>⟨_,rfl,λ_=> ?_,λh=>absurd h (by decide+kernel)⟩)
   exact JobOut.mk (b4.ext b2) ((b0.box (b3.ext (x6.trans a8)) oM).ext b2) rfl λw8 b8=>hR _ _ _ _ _ _ _ w8 (b8.ext (c3.trans b2) oM) nO
  ·refine⟨3,a0.at0 xR rfl,λh=>absurd h dC,λ_=>⟨λ_=>⟨_,_,_,_,_,_,_,hj.at0 (r:=[]) xR rfl,_,_,_,_,_,_,a0.at0 (r:=[]) xR rfl,SE.Zh6.go (Zz5 (hg.ext (a4.trans hx)) λd d2 a7 hd=>⟨_,_,_,_,_,_,_,_,rfl,stw0.intro (b3.ext a7) sI λb9 a5 _ b6=>⟨_,_,_,_,_,_,_,b6.at0 xR rfl,?_⟩⟩)⟩,λh=>absurd rfl h⟩⟩
   have d1:=a7.size; have d5:=a5.1
   have a9:=a4.trans hx
   have c4:=a9.size
   refine hR d _ _ _ _ _ _ b9 (a5.ext (a9.trans a7) oM) λ_=>⟨(SlR.but hd a5 λhb=>by have:=hb.1; omega).mono λb hb=>⟨by have:=hb.1; omega,by have:=hb.2; omega⟩,rfl,rfl,rfl,rfl,rfl,_,rfl,?_,?_,(a5.box (b1.ext a7) oM).at1 xR rfl⟩
   all_goals rw[Zel]; omega
 refine⟨_,_,_,_,a6.at0 xR rfl,_,a6.at1 xR rfl,_,a6.at1 xR rfl,?_,?_⟩
 ·refine callX.intro (SE.Zho.go (Zxt (hG.ext a4) λw6 x6=>⟨x6,_,rfl,newS.intro λaj w7 x7 hj b5 _=>stw0.intro hj sI λw8 b8 _ h8=>?_⟩))
  have q6:=x6.size; have q7:=x7.size
  exact key (x6.trans (b8.ext x7 oM)) oM h8
 ·refine newS.intro λaj w7 x7 hj b5 _=>callX.intro (SE.Zho.go (Zxt (hG.ext (a4.trans x7)) λw6 x6=>⟨x6,_,rfl,stw0.intro (hj.ext x6) sI λw8 b8 _ h8=>?_⟩))
  have q6:=x6.size; have q7:=x7.size
  exact key (b8.ext (x7.trans x6) oM) oM h8
end
theorem Z1y{S0:Nat→Prop}{cp ao:Addr}{r:Nat}{u:Sl}(ht:Tab w)(a0:CatL w SC cp r [k11])(hS:Old S0 w)(hg:SlR nodeE w S0 u g21)(a5:S0 ao.block)(a6:ldc w ao [Sl.v so])(a7:SlR dirE w S0 so [d21])
  (hR: ∀t w',Ext w w'→t.len=2→R t 0 w'):SE.Zc6 u (some cp) l1 l2 9 99 (some ao) w R:=
 Zpr (L:=[k11]) (G:=g21) (old:=some [d21]) ht a0 hS hg ⟨a5,so,a6,a7⟩ (λT hT d hd=>by
  cases hT
  rw[ci.1 hd]; exact eh _) dC λc T t w' hx a4 a8=>by
  have hp:Zcm [k11] g21= [Zx,k11]:=by decide+kernel
  rw[hp]at a4
  have h:PlaceR g21 [Zx,k11] (some [d21]) 9 99 0 (f21.dirs.map (dirOf [Zx,k11])):=.ok ⟨by decide,by decide,by decide,by decide⟩ (λT hT=>by cases hT; exact tree21) Z79 Z90 Z5u
  obtain⟨rfl,rfl⟩:=a4.one h
  exact hR t w' hx a8.len
theorem Z91{cp:Addr}{r:Nat}{k n:Int}{rg pk:ByteArray}{t:Sl}{R:Sl→Sl→Sl→Sl→Sl→Sl→Bool→Int→Int→Int→Int→World→Prop}
  (hg:Gl w) (f9:op=4∨op=3∧k=0∧rg=star0) (hS:Old S w) (hG:SlR nodeE w S g [rootNode]) (hT:SlR dirE w S t [d21]) (c8:CatL w SC cp r [k11])
  (hR: ∀d e o v g' u w',Ext w w'→(op≠4→u.len=2)→R d e o v g' u false (if op=4 then 50 else 0) (if op=4 then 0 else 1) (if op=4 then 0 else 2) (if op=4 then 0 else 1) w'):
  SE.Zmo Sl.nil Sl.nil Sl.nil Sl.nil g t false (some cp) op n11 rg k pk n 9 9 9 99 w R:=by
 unfold SE.Zmo
 refine newS.intro λa w1 x1 ha j4 _=>newS.intro λa1 w2 x2 h1 j0 _=>newS.intro λa3 w4 x4 h3 j1 _=>newS.intro λa5 w6 x6 h5 j2 _=>newS.intro λa7 w8 x8 h7 j3 _=> ?_
 have e5:=x4.trans (x6.trans x8)
 have c5:=x2.trans e5
 have b1:=x1.trans c5
 have s1:=x1.size; have s2:=x2.size; have s4:=x4.size; have s6:=x6.size; have s8:=x8.size
 have ab:=ha.lt; have i4:=h3.lt; have i5:=h5.lt; have i6:=h7.lt
 refine⟨_,_,_,_,_,_,_,(ha.ext c5).at0 (r:=[]) xR rfl,SE.Zhz.go (Z01 (hg.ext b1).tab (hT.ext b1) (hG.ext b1) λw9 x9=>⟨_,_,rfl,bound ⟨9,9,9,99,λ_=>(h3.ext (x6.trans (x8.trans x9))).at0 (r:=[]) xR rfl,gCall.intro true (λ_ q hq=>SE.Zgz.go (plim_se λb w' hx hb=>⟨_,rfl,?_⟩)) λk0 g2 g5 ht=>bound ⟨λh=>?_,λ_=> ?_⟩⟩⟩)⟩
 ·have:b=true:=hb.2 ⟨by decide,by decide,by decide,by decide,by decide,by decide,by decide,by decide⟩
  rw[this]; exact hq w' hx
 ·rw[ht rfl]at h; cases h
 have a8:=x9.trans g5
 have d0:=b1.trans a8
 have h8:=a8.size
 refine⟨_,_,_,_,_,_,_,(ha.ext (c5.trans a8)).at0 (r:=[]) xR rfl,_,_,_,_,_,_,(h1.ext (e5.trans a8)).at0 (r:=[]) xR rfl,SE.Zf0.go (Z45 (S:=S) (hg.ext d0) f9 (hG.ext d0) λd' e' o' v' pt old pr e3 e4 c9=>⟨_,_,_,_,_,_,_,_,rfl,newS.intro λi3 k3 g6 f4 h0 _=>stw0.intro f4 sI λc3 e9 _ c2=>⟨λhc=>?_,λhc=>?_⟩⟩)⟩
 all_goals
  have c6:Ext e3 c3:=e9.ext g6 oM
  have a6:=(a8.trans e4).trans c6
  have j5:=e4.size; have j6:=c6.size; have i0:=a6.size
  have b7:=b1.trans a6
 ·have h4:op=4:=Classical.byContradiction λh=>hc (if_neg h)
  subst h4
  refine⟨_,_,_,_,_,_,_,(ha.ext (c5.trans a6)).at0 (r:=[]) xR rfl,stw0.intro (h5.ext (x8.trans a6)) sI λk6 b9 _ h9=>stw0.intro (b9.box (h7.ext a6) oM) sI λg1 d7 _ f2=>⟨_,_,_,_,_,_,_,(d7.box h9 oM).at0 xR rfl,_,_,_,_,f2.at0 xR rfl,?_⟩⟩
  have z9:=b9.1
  exact hR _ _ _ _ _ _ g1 (d7.ext (b9.ext b7 oM) oM) λh=>absurd rfl h
 ·have h4:op≠4:=λh=>hc (by rw[if_pos h]; decide)
  rw[if_neg h4]at c9
  simp only[if_neg h4]at hR
  obtain⟨hj,rfl,rfl,rfl,rfl,rfl,ao,rfl,i7,i9,f7⟩:=c9 rfl
  let S2:=λb=>S b∨(g2.heap.size≤b∧b<e3.heap.size)
  have hO:Old S2 c3:=λb hb=>hb.elim (λh=>by have:=hS b h; omega) λh=>by omega
  have hm:SlR depE c3 S2 d' m11.deps:=(SlR.ext hj c6).mono λb hb=>.inr hb
  refine⟨_,_,_,_,c2.at0 xR rfl,_,c2.at1 xR rfl,_,c2.at1 xR rfl,9,9,9,99,(h3.ext (x6.trans (x8.trans a6))).at0 (r:=[]) xR rfl,SE.Zfz.go (Zwk (L:=[k11]) (m:=m11) (dev:=true) (pins:=[]) (SA:=S2) (hg.ext b7).tab hO (c8.ext b7) hm (SlR.nil trivial) (SlR.nil trivial) (SlR.nil trivial) (SlR.nil trivial) λa0 d4 d5 b4=>?_)⟩
  obtain⟨k1,k2,_⟩:=Z4n
  have hk:Zsr [k11] m11 true [] 9 9=known11:=rfl
  rw[hk]at b4 ⊢
  rw[ns21]at b4
  rw[k1,k2]
  refine⟨_,_,_,rfl,newS.intro λe7 k4 g7 f5 h2 _=>stw0.intro f5 sI λc4 f0 _ d3=>⟨λh=>absurd rfl h,λ_=> ?_⟩⟩
  have c7:Ext d4 c4:=f0.ext g7 oM
  have b2:=(a6.trans d5).trans c7
  have j8:=c7.size; have j7:=d5.size; have i1:=b2.size
  have b8:=b1.trans b2
  have c1:Ext c3 c4:=d5.trans c7
  have a9:=c2.ext c1
  have d9:SlR nodeE c4 (λb=>b<d4.heap.size) a0 g21:=(b4.ext c7).mono λb hb=>by omega
  have f8:a0.len=2:=d9.len
  refine⟨_,d3.at0 xR rfl,9,9,9,99,(h3.ext (x6.trans (x8.trans b2))).at0 (r:=[]) xR rfl,_,a9.at1 xR rfl,SE.Zc6.go (Z1y (hg.ext b8).tab (c8.ext b8) (S0:=λb=>b<d4.heap.size) (λb hb=>by omega) d9 oM (f7.ext (c6.trans c1)) ((hT.ext b8).mono λb hb=>by have:=hS b hb; omega) λt g3 e6 e0=>⟨_,_,rfl,newS.intro λe8 k5 g8 f6 h6 _=>stw0.intro f6 sI λg4 f1 _ d8=>⟨λh=>absurd rfl h,λ_=>join.named λJ hJ=>bnd.drew λb0 d6=>?_⟩⟩)⟩
  have j9:=e6.size
  have g9:Ext g3 g4:=f1.ext g8 oM
  have a4:Ext c4 b0:=(e6.trans g9).trans d6
  have b3:=b2.trans a4
  have i2:=b3.size; have g0:=a4.size
  have q5:=h5.ext (x8.trans b3)
  have q7:=h7.ext b3
  have key: ∀{wb wc:World},But a5.block b0 wb→BoxAt wb a5 [Sl.v d',Sl.v Sl.nil,Sl.v Sl.nil,Sl.v Sl.nil,Sl.v a0,Sl.v t,.bool false]→But a7.block wb wc→BoxAt wc a7 [.int .i64 0,.int .i64 1,.int .i64 (a0.len:Int),.int .i64 (Za ((t.len:Int) - 1))]→J wc:=by
   subst hJ
   intro wb wc bb kb bc kc
   have zb:=bb.1
   rw[f8,e0]at kc
   exact⟨_,_,_,_,_,_,_,(bc.box kb oM).at0 xR rfl,0,1,2,1,kc.at0 xR rfl,hR _ _ _ _ _ _ wc (bc.ext (bb.ext (b1.trans b3) oM) oM) λ_=>e0⟩
  have e1: ∀{wb:World},But a5.block b0 wb→BoxAt wb e7 [Sl.v a0]:=λb=>b.box (d3.ext a4) oM
  have e2: ∀{wb:World},But a5.block b0 wb→BoxAt wb e8 [Sl.v t]:=λb=>b.box (d8.ext d6) oM
  have b5: ∀{K:World→Prop},(∀wb,But a5.block b0 wb→BoxAt wb a5 [Sl.v d',Sl.v Sl.nil,Sl.v Sl.nil,Sl.v Sl.nil,Sl.v a0,Sl.v t,.bool false]→K wb)→stw b0 a5 [Sl.v d',Sl.v Sl.nil,Sl.v Sl.nil,Sl.v Sl.nil,Sl.v a0,Sl.v t,.bool false] K:=λhK=>stw0.intro q5 sI λwb b _ hb=>hK wb b hb
  have b6: ∀{wb:World},But a5.block b0 wb→BoxAt wb a5 [Sl.v d',Sl.v Sl.nil,Sl.v Sl.nil,Sl.v Sl.nil,Sl.v a0,Sl.v t,.bool false]→stw wb a7 [.int .i64 0,.int .i64 1,.int .i64 (a0.len:Int),.int .i64 (Za ((t.len:Int) - 1))] λwc=>J wc:=λb hb=>stw0.intro (b.box q7 oM) sI λwc bc _ hc=>key b hb bc hc
  have d1:=(d3.ext a4).at0 (r:=[]) xR rfl
  have d2:=(d8.ext d6).at0 (r:=[]) xR rfl
  refine⟨_,_,_,_,(a9.ext a4).at0 xR rfl,a0,d1,t,d2,_,(a9.ext a4).at1 xR rfl,?_⟩
  refine⟨⟨a0,d1,⟨t,d2,b5 λwb b hb=>b6 b hb⟩,b5 λwb b hb=>⟨t,(e2 b).at0 (r:=[]) xR rfl,b6 b hb⟩⟩,⟨t,d2,⟨a0,d1,b5 λwb b hb=>b6 b hb⟩,b5 λwb b hb=>⟨a0,(e1 b).at0 (r:=[]) xR rfl,b6 b hb⟩⟩,b5 λwb b hb=>?_⟩
  exact⟨a0,(e1 b).at0 (r:=[]) xR rfl,t,(e2 b).at0 (r:=[]) xR rfl,b6 b hb⟩
theorem Z6n{kd n:Int}{rg pk:ByteArray}{p:Addr}{r:Nat}{t:Sl}{K:Value→World→Prop}(hg:Gl w)(a0:CatL w SC p r [k11])(hE:Emp w g t)(a4:op=4∨op=3∧kd=0∧rg=star0)
  (k: ∀d e o v g' u w',Ext w w'→(op≠4→u.len=2)→K (.tuple #[.agg #[Sl.v d,Sl.v e,Sl.v o,Sl.v v,Sl.v g',Sl.v u,.bool false],.agg #[.int .i64 (if op=4 then 50 else 0),.int .i64 (if op=4 then 0 else 1),.int .i64 (if op=4 then 0 else 2),.int .i64 (if op=4 then 0 else 1)]]) w'):
  callS prog 12 [.agg #[Sl.v Sl.nil,Sl.v Sl.nil,Sl.v Sl.nil,Sl.v Sl.nil,Sl.v g,Sl.v t,.bool false],.pointer (some p),.agg #[.int .i64 op,.string n11,.string rg,.int .i64 kd,.string pk,.int .i64 n],.agg #[.int .i64 9,.int .i64 9,.int .i64 9,.int .i64 99]] w K:=
 SE.Zmo.go (Z91 (S:=λb=>b<w.heap.size) hg a4 (λb hb=>hb) hE.g hE.t a0 k)
theorem Zhj{wB:World}{a b:Addr}{za zb ca cb:List Value}{J:World→Prop}(x:Ext wB w)(ha:BoxAt w a za)(hb:BoxAt w b zb)(la:ca.length=za.length)(lb:cb.length=zb.length)(h1:wB.heap.size≤a.block)(h2:wB.heap.size≤b.block)(a0:a.block≠b.block)
  (k: ∀w',Ext wB w'→BoxAt w' a ca→BoxAt w' b cb→J w'):stw w a ca λw1=>stw w1 b cb J:=by
 refine stw0.intro ha (mr la) λw1 b1 a4 k1=>?_
 have y1:=b1.ext x h1
 refine stw0.intro (b1.box hb (λe=>a0 e.symm)) (mr lb) λw2 b2 a5 k2=>?_
 rw[la,ix,dp]at k1
 rw[lb,ix,dp]at k2
 exact k w2 (b2.ext y1 h2) (b2.box k1 a0) k2
theorem Zy1{R:Bool→World→Prop}(hg:Gl w)(hR: ∀w',Ext w w'→R true w'):SE.Zda w R:=by
 unfold SE.Zda
 refine newS.intro λa w1 x1 ha bo _=> ?_
 have hp:=Zm3 (E:=packE) (S:=None') (x:=k11) ha ⟨strA,Sl.nil,Sl.nil,Sl.nil,rfl,SlR.nil trivial,SlR.nil trivial,SlR.nil trivial⟩ dC
 have l1:=ha.lt
 refine SE.Zcw.go (Zs6 (lp:=[k11]) (hg.ext x1).tab (λb hb=>?_) hp λp r q w2 x2 hB=>⟨_,_,rfl,nO,λ_=>newS.intro λa2 w3 x3 h2 bn _=>stw0.intro h2 sI λw4 b4 bp h4=>?_⟩)
 ·rcases hb with hb|rfl
  ·exact hb.elim
  ·exact l1
 have g9:Zqg [k11]= [k11]:=by
  have:=Z7x
  exact this
 rw[g9]at hB
 obtain⟨⟨SC,h0,_,_⟩,_⟩:=hB
 have s1:=x1.size; have s2:=x2.size; have s3:=x3.size
 have i9:Ext w2 w4:=b4.ext x3 oM
 have g8:=(x1.trans x2).trans i9
 have i7:=hg.ext g8
 have i6:=h0.ext i9
 have h4:BoxAt w4 a2 [.int .i64 9,.int .i64 9,.int .i64 9,.int .i64 99]:=h4
 clear ha bo hp l1 h0 h2 bn i9 s1 s2 s3 x1 x2 x3 b4 bp g9 hg
 have b5: ∀{wX:World} {K:Value→World→Prop},(∀g t w',Ext wX w'→Emp w' g t→wX.heap.size≤w'.heap.size→K (.agg #[Sl.v Sl.nil,Sl.v Sl.nil,Sl.v Sl.nil,Sl.v Sl.nil,Sl.v g,Sl.v t,.bool false]) w')→callX prog 13 [] wX K:=λhK=>callX.intro (SE.Zdh.go (refEmpty_se λg t w' x h=>⟨x,hK g t w' x h x.size⟩))
 have b1: ∀{wX:World} {g t:Sl} {K:Value→World→Prop},Ext w4 wX→Emp wX g t→(∀d e o v g' u w',Ext wX w'→u.len=2→wX.heap.size≤w'.heap.size→K (.tuple #[.agg #[Sl.v d,Sl.v e,Sl.v o,Sl.v v,Sl.v g',Sl.v u,.bool false],.agg #[.int .i64 0,.int .i64 1,.int .i64 2,.int .i64 1]]) w')→
   callS prog 12 [.agg #[Sl.v Sl.nil,Sl.v Sl.nil,Sl.v Sl.nil,Sl.v Sl.nil,Sl.v g,Sl.v t,.bool false],.pointer (some p),.agg #[.int .i64 3,.string (ByteArray.mk #[97]),.string (ByteArray.mk #[42]),.int .i64 0,.string (ByteArray.mk #[]),.int .i64 0],.agg #[.int .i64 9,.int .i64 9,.int .i64 9,.int .i64 99]] wX K:=λ{wX g t K} x hE hK=>
  Z6n (i7.ext x) (i6.ext x) hE (.inr ⟨rfl,rfl,rfl⟩) λd e o v g' u w' x' hl=>hK d e o v g' u w' x' (hl dC) x'.size
 have b2: ∀{wX:World} {g t:Sl} {K:Value→World→Prop},Ext w4 wX→Emp wX g t→(∀d e o v g' u w',Ext wX w'→True→wX.heap.size≤w'.heap.size→K (.tuple #[.agg #[Sl.v d,Sl.v e,Sl.v o,Sl.v v,Sl.v g',Sl.v u,.bool false],.agg #[.int .i64 50,.int .i64 0,.int .i64 0,.int .i64 0]]) w')→
   callS prog 12 [.agg #[Sl.v Sl.nil,Sl.v Sl.nil,Sl.v Sl.nil,Sl.v Sl.nil,Sl.v g,Sl.v t,.bool false],.pointer (some p),.agg #[.int .i64 4,.string (ByteArray.mk #[97]),.string (ByteArray.mk #[]),.int .i64 0,.string (ByteArray.mk #[]),.int .i64 0],.agg #[.int .i64 9,.int .i64 9,.int .i64 9,.int .i64 99]] wX K:=λ{wX g t K} x hE hK=>
  Z6n (i7.ext x) (i6.ext x) hE (.inl rfl) λd e o v g' u w' x' hl=>hK d e o v g' u w' x' trivial x'.size
 clear i7 i6
 refine join.named λJ1 r0=>?_
 have k1: ∀(vs a5:Addr) (w6:World),Ext w4 w6→(∃(d e o v g t:Sl) (pr:Bool),BoxAt w6 vs [Sl.v d,Sl.v e,Sl.v o,Sl.v v,Sl.v g,Sl.v t,.bool pr]∧t.len=2)→BoxAt w6 a5 [.int .i64 0,.int .i64 1,.int .i64 2,.int .i64 1]→J1 vs a5 w6:=by
  subst r0
  intro vs a5 w6 x6 ⟨d,e,o,v,g,t,pr,h6,ht⟩ h5
  refine join.named λJ2 r1=>?_
  have k2: ∀(b:Addr) (w7:World),Ext w6 w7→BoxAt w7 b [.int .i64 50,.int .i64 0,.int .i64 0,.int .i64 0]→J2 b w7:=by
   subst r1
   intro b w7 x7 h7
   refine⟨0,1,2,1,(h5.ext x7).at0 (r:=[]) xR rfl,bound ⟨t,λ_=>(h6.ext x7).at1 (k:=5) xR rfl,bound ⟨50,0,0,0,λ_=>h7.at0 (r:=[]) xR rfl,?_⟩⟩⟩
   have hr:=hR w7 (g8.trans (x6.trans x7))
   rw[ht]
   exact hr
  clear r1 hR h6 h5 ht b1
  refine bnd.drew λw7 x7=>⟨9,9,9,99,(h4.ext (x6.trans x7)).at0 (r:=[]) xR rfl,?_⟩
  have s7:=x7.size
  clear h4 g8
  exact⟨(b5 λq5 u4 y5 a0 b3 s6=>⟨_,_,_,_,_,_,_,rfl,⟨(b2 (x6.trans (x7.trans (a0))) (b3.ext xR) λn2 o4 r2 w9 f102 v0 y6 d7 g5 s8=>⟨_,_,_,_,_,_,_,_,_,_,_,rfl,⟨(newS.intro λj0 y7 g6 e8 l0 av=>(newS.intro λj1 y8 d8 e9 l5 aw=>(Zhj (x7.trans (a0.trans (d7.trans (g6.trans (d8))))) (e8.ext (d8)) (e9.ext xR) rfl rfl oM oM oM λw x ha hb=>k2 _ w x hb))),(newS.intro λj2 y9 g7 f0 l6 ax=>(newS.intro λj3 z0 d9 f1 l7 ay=>(Zhj (x7.trans (a0.trans (d7.trans (g7.trans (d9))))) (f1.ext xR) (f0.ext (d9)) rfl rfl oM oM oM λw x ha hb=>k2 _ w x hb)))⟩⟩),(newS.intro λj4 z1 a4 d3 l8 az=>⟨(b2 (x6.trans (x7.trans (a0.trans (a4)))) (b3.ext (a4)) λn3 o5 r3 x0 p5 v2 z2 e0 h1 s9=>⟨_,_,_,_,_,_,_,_,_,_,_,rfl,(newS.intro λj5 z3 e1 f2 l9 ba=>(Zhj (x7.trans (a0.trans (a4.trans (e0.trans (e1))))) (d3.ext (e0.trans (e1))) (f2.ext xR) rfl rfl oM oM oM λw x ha hb=>k2 _ w x hb))⟩),(newS.intro λj6 z4 b6 f4 m0 bb=>(b2 (x6.trans (x7.trans (a0.trans (a4.trans (b6))))) (b3.ext (a4.trans (b6))) λn4 o6 r4 x4 p6 v3 z5 c5 h3 t0=>⟨_,_,_,_,_,_,_,_,_,_,_,rfl,(Zhj (x7.trans (a0.trans (a4.trans (b6.trans (c5))))) (d3.ext (b6.trans (c5))) (f4.ext (c5)) rfl rfl oM oM oM λw x ha hb=>k2 _ w x hb)⟩))⟩),(newS.intro λj7 z6 a6 d4 m1 bc=>⟨(b2 (x6.trans (x7.trans (a0.trans (a6)))) (b3.ext (a6)) λn5 o7 r5 x5 p7 v4 z7 e2 h8 t1=>⟨_,_,_,_,_,_,_,_,_,_,_,rfl,(newS.intro λj8 z8 e3 f5 m2 bd=>(Zhj (x7.trans (a0.trans (a6.trans (e2.trans (e3))))) (f5.ext xR) (d4.ext (e2.trans (e3))) rfl rfl oM oM oM λw x ha hb=>k2 _ w x hb))⟩),(newS.intro λj9 z9 b7 f6 m3 be=>(b2 (x6.trans (x7.trans (a0.trans (a6.trans (b7))))) (b3.ext (a6.trans (b7))) λn7 o8 r6 x8 p8 v5 aa c6 h9 t3=>⟨_,_,_,_,_,_,_,_,_,_,_,rfl,(Zhj (x7.trans (a0.trans (a6.trans (b7.trans (c6))))) (f6.ext (c6)) (d4.ext (b7.trans (c6))) rfl rfl oM oM oM λw x ha hb=>k2 _ w x hb)⟩))⟩)⟩⟩),(newS.intro λk0 ab a7 c3 m4 bf=>⟨(b5 λq6 u5 ac a8 d5 t4=>⟨_,_,_,_,_,_,_,rfl,⟨(b2 (x6.trans (x7.trans (a7.trans (a8)))) (d5.ext xR) λn8 o9 r7 x9 p9 v6 ae e4 i0 t5=>⟨_,_,_,_,_,_,_,_,_,_,_,rfl,(newS.intro λk3 af e5 f7 m5 bg=>(Zhj (x7.trans (a7.trans (a8.trans (e4.trans (e5))))) (c3.ext (a8.trans (e4.trans (e5)))) (f7.ext xR) rfl rfl oM oM oM λw x ha hb=>k2 _ w x hb))⟩),(newS.intro λk4 ag b8 f8 m6 bh=>(b2 (x6.trans (x7.trans (a7.trans (a8.trans (b8))))) (d5.ext (b8)) λn9 p0 r8 y0 q0 v7 ah c7 i1 t6=>⟨_,_,_,_,_,_,_,_,_,_,_,rfl,(Zhj (x7.trans (a7.trans (a8.trans (b8.trans (c7))))) (c3.ext (a8.trans (b8.trans (c7)))) (f8.ext (c7)) rfl rfl oM oM oM λw x ha hb=>k2 _ w x hb)⟩))⟩⟩),(newS.intro λk5 ai c8 f9 m7 bi=>(b5 λq7 u6 aj b9 g0 t7=>⟨_,_,_,_,_,_,_,rfl,(b2 (x6.trans (x7.trans (a7.trans (c8.trans (b9))))) (g0.ext xR) λo0 p1 r9 y1 q1 v8 ak c9 i2 t8=>⟨_,_,_,_,_,_,_,_,_,_,_,rfl,(Zhj (x7.trans (a7.trans (c8.trans (b9.trans (c9))))) (c3.ext (c8.trans (b9.trans (c9)))) (f9.ext (b9.trans (c9))) rfl rfl oM oM oM λw x ha hb=>k2 _ w x hb)⟩)⟩))⟩),(newS.intro λk6 al a9 c4 m8 bj=>⟨(b5 λq8 u7 am b0 d6 t9=>⟨_,_,_,_,_,_,_,rfl,⟨(b2 (x6.trans (x7.trans (a9.trans (b0)))) (d6.ext xR) λo1 p2 s0 y2 q2 v9 an e6 i3 u0=>⟨_,_,_,_,_,_,_,_,_,_,_,rfl,(newS.intro λk7 ao e7 g1 m9 bk=>(Zhj (x7.trans (a9.trans (b0.trans (e6.trans (e7))))) (g1.ext xR) (c4.ext (b0.trans (e6.trans (e7)))) rfl rfl oM oM oM λw x ha hb=>k2 _ w x hb))⟩),(newS.intro λk8 ap c1 g2 n0 bl=>(b2 (x6.trans (x7.trans (a9.trans (b0.trans (c1))))) (d6.ext (c1)) λo2 p3 s4 y3 q3 w5 aq d0 i4 u1=>⟨_,_,_,_,_,_,_,_,_,_,_,rfl,(Zhj (x7.trans (a9.trans (b0.trans (c1.trans (d0))))) (g2.ext (d0)) (c4.ext (b0.trans (c1.trans (d0)))) rfl rfl oM oM oM λw x ha hb=>k2 _ w x hb)⟩))⟩⟩),(newS.intro λk9 ar d1 g3 n1 bm=>(b5 λq9 u9 aS c2 g4 u2=>⟨_,_,_,_,_,_,_,rfl,(b2 (x6.trans (x7.trans (a9.trans (d1.trans (c2))))) (g4.ext xR) λo3 p4 s5 y4 q4 w8 au d2 i5 u3=>⟨_,_,_,_,_,_,_,_,_,_,_,rfl,(Zhj (x7.trans (a9.trans (d1.trans (c2.trans (d2))))) (g3.ext (c2.trans (d2))) (c4.ext (d1.trans (c2.trans (d2)))) rfl rfl oM oM oM λw x ha hb=>k2 _ w x hb)⟩)⟩))⟩)⟩
 clear r0 b2 hR
 refine bnd.drew λw7 x7=>⟨9,9,9,99,(h4.ext x7).at0 (r:=[]) xR rfl,?_⟩
 have s7:=x7.size
 clear h4 g8
 exact⟨(b5 λq5 u4 y5 a0 b3 s6=>⟨_,_,_,_,_,_,_,rfl,⟨(b1 (x7.trans (a0)) (b3.ext xR) λn2 o4 r2 w9 f102 v0 y6 d7 g5 s8=>⟨_,_,_,_,_,_,_,_,_,_,_,rfl,⟨(newS.intro λj0 y7 g6 e8 l0 av=>(newS.intro λj1 y8 d8 e9 l5 aw=>(Zhj (x7.trans (a0.trans (d7.trans (g6.trans (d8))))) (e8.ext (d8)) (e9.ext xR) rfl rfl oM oM oM λw x ha hb=>k1 _ _ w x ⟨_,_,_,_,_,_,_,ha,g5⟩ hb))),(newS.intro λj2 y9 g7 f0 l6 ax=>(newS.intro λj3 z0 d9 f1 l7 ay=>(Zhj (x7.trans (a0.trans (d7.trans (g7.trans (d9))))) (f1.ext xR) (f0.ext (d9)) rfl rfl oM oM oM λw x ha hb=>k1 _ _ w x ⟨_,_,_,_,_,_,_,ha,g5⟩ hb)))⟩⟩),(newS.intro λj4 z1 a4 d3 l8 az=>⟨(b1 (x7.trans (a0.trans (a4))) (b3.ext (a4)) λn3 o5 r3 x0 p5 v2 z2 e0 h1 s9=>⟨_,_,_,_,_,_,_,_,_,_,_,rfl,(newS.intro λj5 z3 e1 f2 l9 ba=>(Zhj (x7.trans (a0.trans (a4.trans (e0.trans (e1))))) (d3.ext (e0.trans (e1))) (f2.ext xR) rfl rfl oM oM oM λw x ha hb=>k1 _ _ w x ⟨_,_,_,_,_,_,_,ha,h1⟩ hb))⟩),(newS.intro λj6 z4 b6 f4 m0 bb=>(b1 (x7.trans (a0.trans (a4.trans (b6)))) (b3.ext (a4.trans (b6))) λn4 o6 r4 x4 p6 v3 z5 c5 h3 t0=>⟨_,_,_,_,_,_,_,_,_,_,_,rfl,(Zhj (x7.trans (a0.trans (a4.trans (b6.trans (c5))))) (d3.ext (b6.trans (c5))) (f4.ext (c5)) rfl rfl oM oM oM λw x ha hb=>k1 _ _ w x ⟨_,_,_,_,_,_,_,ha,h3⟩ hb)⟩))⟩),(newS.intro λj7 z6 a6 d4 m1 bc=>⟨(b1 (x7.trans (a0.trans (a6))) (b3.ext (a6)) λn5 o7 r5 x5 p7 v4 z7 e2 h8 t1=>⟨_,_,_,_,_,_,_,_,_,_,_,rfl,(newS.intro λj8 z8 e3 f5 m2 bd=>(Zhj (x7.trans (a0.trans (a6.trans (e2.trans (e3))))) (f5.ext xR) (d4.ext (e2.trans (e3))) rfl rfl oM oM oM λw x ha hb=>k1 _ _ w x ⟨_,_,_,_,_,_,_,ha,h8⟩ hb))⟩),(newS.intro λj9 z9 b7 f6 m3 be=>(b1 (x7.trans (a0.trans (a6.trans (b7)))) (b3.ext (a6.trans (b7))) λn7 o8 r6 x8 p8 v5 aa c6 h9 t3=>⟨_,_,_,_,_,_,_,_,_,_,_,rfl,(Zhj (x7.trans (a0.trans (a6.trans (b7.trans (c6))))) (f6.ext (c6)) (d4.ext (b7.trans (c6))) rfl rfl oM oM oM λw x ha hb=>k1 _ _ w x ⟨_,_,_,_,_,_,_,ha,h9⟩ hb)⟩))⟩)⟩⟩),(newS.intro λk0 ab a7 c3 m4 bf=>⟨(b5 λq6 u5 ac a8 d5 t4=>⟨_,_,_,_,_,_,_,rfl,⟨(b1 (x7.trans (a7.trans (a8))) (d5.ext xR) λn8 o9 r7 x9 p9 v6 ae e4 i0 t5=>⟨_,_,_,_,_,_,_,_,_,_,_,rfl,(newS.intro λk3 af e5 f7 m5 bg=>(Zhj (x7.trans (a7.trans (a8.trans (e4.trans (e5))))) (c3.ext (a8.trans (e4.trans (e5)))) (f7.ext xR) rfl rfl oM oM oM λw x ha hb=>k1 _ _ w x ⟨_,_,_,_,_,_,_,ha,i0⟩ hb))⟩),(newS.intro λk4 ag b8 f8 m6 bh=>(b1 (x7.trans (a7.trans (a8.trans (b8)))) (d5.ext (b8)) λn9 p0 r8 y0 q0 v7 ah c7 i1 t6=>⟨_,_,_,_,_,_,_,_,_,_,_,rfl,(Zhj (x7.trans (a7.trans (a8.trans (b8.trans (c7))))) (c3.ext (a8.trans (b8.trans (c7)))) (f8.ext (c7)) rfl rfl oM oM oM λw x ha hb=>k1 _ _ w x ⟨_,_,_,_,_,_,_,ha,i1⟩ hb)⟩))⟩⟩),(newS.intro λk5 ai c8 f9 m7 bi=>(b5 λq7 u6 aj b9 g0 t7=>⟨_,_,_,_,_,_,_,rfl,(b1 (x7.trans (a7.trans (c8.trans (b9)))) (g0.ext xR) λo0 p1 r9 y1 q1 v8 ak c9 i2 t8=>⟨_,_,_,_,_,_,_,_,_,_,_,rfl,(Zhj (x7.trans (a7.trans (c8.trans (b9.trans (c9))))) (c3.ext (c8.trans (b9.trans (c9)))) (f9.ext (b9.trans (c9))) rfl rfl oM oM oM λw x ha hb=>k1 _ _ w x ⟨_,_,_,_,_,_,_,ha,i2⟩ hb)⟩)⟩))⟩),(newS.intro λk6 al a9 c4 m8 bj=>⟨(b5 λq8 u7 am b0 d6 t9=>⟨_,_,_,_,_,_,_,rfl,⟨(b1 (x7.trans (a9.trans (b0))) (d6.ext xR) λo1 p2 s0 y2 q2 v9 an e6 i3 u0=>⟨_,_,_,_,_,_,_,_,_,_,_,rfl,(newS.intro λk7 ao e7 g1 m9 bk=>(Zhj (x7.trans (a9.trans (b0.trans (e6.trans (e7))))) (g1.ext xR) (c4.ext (b0.trans (e6.trans (e7)))) rfl rfl oM oM oM λw x ha hb=>k1 _ _ w x ⟨_,_,_,_,_,_,_,ha,i3⟩ hb))⟩),(newS.intro λk8 ap c1 g2 n0 bl=>(b1 (x7.trans (a9.trans (b0.trans (c1)))) (d6.ext (c1)) λo2 p3 s4 y3 q3 w5 aq d0 i4 u1=>⟨_,_,_,_,_,_,_,_,_,_,_,rfl,(Zhj (x7.trans (a9.trans (b0.trans (c1.trans (d0))))) (g2.ext (d0)) (c4.ext (b0.trans (c1.trans (d0)))) rfl rfl oM oM oM λw x ha hb=>k1 _ _ w x ⟨_,_,_,_,_,_,_,ha,i4⟩ hb)⟩))⟩⟩),(newS.intro λk9 ar d1 g3 n1 bm=>(b5 λq9 u9 aS c2 g4 u2=>⟨_,_,_,_,_,_,_,rfl,(b1 (x7.trans (a9.trans (d1.trans (c2)))) (g4.ext xR) λo3 p4 s5 y4 q4 w8 au d2 i5 u3=>⟨_,_,_,_,_,_,_,_,_,_,_,rfl,(Zhj (x7.trans (a9.trans (d1.trans (c2.trans (d2))))) (g3.ext (c2.trans (d2))) (c4.ext (d1.trans (c2.trans (d2)))) rfl rfl oM oM oM λw x ha hb=>k1 _ _ w x ⟨_,_,_,_,_,_,_,ha,i5⟩ hb)⟩)⟩))⟩)⟩
theorem Z16{u:Sl}{lk:Bool}{G:List Node}{L:List Pack}{old:Option (List Dir)}{S0:Nat→Prop}{q:Addr}(hS:Old S0 w)(hg:SlR nodeE w S0 u G)(a7:RefR w SC q L)(ho:OldS w S0 old so lk)(hG:G.length≤1000000000)
  (hR: ∀c T t w',Ext w w'→PlaceR G (Zcm L G) old D M c T→SlR dirE w' (λb=>b<w'.heap.size) t T→R t c w'):SE.Zdj u (some q) l1 l2 D M so lk w R:=by
 unfold SE.Zdj
 refine newS.intro λa w1 x1 ha c1 _=>newS.intro λa1 w2 x2 b0 b6 _=>newS.intro λa3 w3 x3 b1 b7 _=>newS.intro λa5 w4 x4 b2 b9 _=>bnd.drew λw5 x5=>?_
 have a9:=x4.trans x5
 have a8:=x3.trans a9
 have a6:=x2.trans a8
 have a4:=x1.trans a6
 have s1:=x1.size; have s2:=x2.size; have s3:=x3.size
 refine⟨u,ha.at0 (r:=[]) a6 rfl,u,ha.at0 (r:=[]) a6 rfl,l1,l2,D,M,b0.at0 (r:=[]) a8 rfl,so,b1.at0 (r:=[]) a9 rfl,callX.intro (SE.Zdi.go (Z15 (hg.ext a4) (a7.ext a4) hG λps w6 x6 b5=>⟨x6,_,rfl,?_⟩))⟩
 have a0:=a4.trans x6
 have c3:=a0.size
 refine SE.Zen.go (Z14 (S0:=λb=>b<w6.heap.size) (old:=old) (λb hb=>hb) ((hg.ext a0).mono λb hb=>by have:=hS b hb; omega) b5 ((ho.ext a0).mono λb hb=>by have:=hS b hb; omega) λc T t w7 x7 b4 ht=>⟨_,_,rfl,?_⟩)
 have h5:=b2.ext (x5.trans (x6.trans x7))
 have u5:Unf w7 a5.block:=Z2z h5 (by simp[Sl.v]) (.inr (by simp[Sl.v]))
 refine stw0.intro h5 sI λw8 b8 c2 b3=>⟨t,b3.ldc.pre (r:=[]) rfl,hR c T t w8 (b8.ext (a0.trans x7) oM) b4 (((Z60 u5 ht).but b8 λh=>h.2 rfl).mono λb hb=>by have h1:b<w7.heap.size:=hb.1; have:=b8.1; omega)⟩
theorem pplaceNone_se{u:Sl}(hR: ∀w',Ext w w'→R Sl.nil 1 w'):SE.Zc6 u none l1 l2 D M none w R:=by
 unfold SE.Zc6
 refine newS.intro λa w1 x1 ha a8 _=>newS.intro λa1 w2 x2 a7 a5 _=>newS.intro λa3 w3 x3 a0 a6 _=>bound ⟨0,nO,bound ⟨0,nO,bound ⟨0,nO,bound ⟨0,nO,λ_=> ?_,nO⟩⟩⟩⟩
 have s1:=x1.size; have s2:=x2.size
 exact stw0.intro a0 sI λw5 b5 _ a4=>⟨Sl.nil,a4.ldc.pre (r:=[]) rfl,hR w5 (b5.ext (x1.trans (x2.trans x3)) oM)⟩
theorem Zqm{gS sP:Sl}{lk:Bool}{g:List Node}{lp:List Pack}{T:List Dir}{SA:Nat→Prop}{R:Bool→World→Prop}(hg:Gl w)(hA:Old SA w)(hG:SlR nodeE w SA gS g)(hP:SlR packE w SA sP lp)(hT:SlR dirE w SA so T)
  (hb: ∀d∈T,d.path.length≤4000000000000) (b5:g.length≤1000000000) (hR: ∀w',Ext w w'→R true w'):SE.Zbw gS sP l1 l2 D M so lk w R:=by
 unfold SE.Zbw
 refine newS.intro λa w1 x1 ha f8 _=>⟨sP,ha.at1 (k:=1) xR rfl,?_⟩
 refine SE.Zcw.go (Zs6 (hg.ext x1).tab (hA.ext x1.size) (hP.ext x1) λp r q w2 x2 hB=>⟨_,_,rfl,bound ?_⟩)
 refine gCall.intro true (λ_ k hk=>SE.Zda.go (Zy1 (hg.ext (x1.trans x2)) λw' hx=>⟨_,rfl,hk _ hx⟩)) λt1 w3 x3 e8=>?_
 have d0:=e8 rfl
 subst d0
 refine⟨nO,λ_=> ?_⟩
 obtain⟨⟨S,b3,_,_⟩,⟨Q,c9,_,_⟩,_,_⟩:=hB
 have f1:=(x1.trans x2).trans x3
 have d2:=x2.trans x3
 refine⟨so,ha.at1 (k:=6) d2 rfl,newS.set rfl λa6 w4 x4 c6 f5=>?_⟩
 have a5:=f1.trans x4
 have b1:=d2.trans x4
 have c8:Old (λb=>b<w4.heap.size) w4:=λb hb=>hb
 have up: ∀{b:Nat},SA b→b<w4.heap.size:=λhb=>by have:=hA _ hb; have:=a5.size; omega
 refine⟨gS,ha.at0 b1 rfl,l1,l2,D,M,ha.at1 (k:=2) b1 rfl,?_⟩
 refine SE.Zc6.go (Zpr (old:=none) (hg.ext a5).tab ((b3.ext x3).ext x4) c8 ((hG.ext a5).mono λb hb=>up hb) trivial (λT h=>by cases h) b5 λc1 T1 t1 w5 x5 e4 d8=>⟨_,_,rfl,newS.set rfl λc2 w6 x6 a7 d4=>join.named λJ hJ=>?_⟩)
 have a4:=x5.trans x6
 have b6:=a5.trans a4
 have b7:=b1.trans a4
 have g1:=a5.size; have s5:=x5.size
 have b4: ∀(c:Int) (T2:List Dir) (t2:Sl) (w7:World),Ext w4 w7→BoxAt w7 c2 [Sl.v t2]→SlR dirE w7 (λb=>b<w7.heap.size) t2 T2→PlaceR g (Zcm (Zqg lp) g) (if lk then some T else none) D M c T2→J c w7:=by
  subst hJ
  intro c T2 t2 w7 b9 a9 d9 e5
  have b0:=a5.trans b9
  have a8:=b1.trans b9
  refine⟨gS,ha.at0 a8 rfl,l1,l2,D,M,ha.at1 (k:=2) a8 rfl,so,ha.at1 (k:=6) a8 rfl,lk,ha.at1 (k:=7) (r:=[]) a8 rfl,?_⟩
  refine SE.Zdj.go (Z16 (old:=if lk then some T else none) (hA.ext b0.size) (hG.ext b0) ((c9.ext x3).ext (x4.trans b9)) (by
   cases lk with
   |false=>rfl
   |true=>exact⟨rfl,hT.ext b0⟩) b5 λc3 T3 t3 w8 x8 e6 e0=>⟨_,_,rfl,newS.set rfl λf6 w9 x9 c4 d5=>?_⟩)
  obtain⟨e1,e2⟩:=e5.one e6
  subst e1 e2
  have b2:=x8.trans x9
  have d3:=a8.trans b2
  refine⟨gS,ha.at0 d3 rfl,l1,l2,D,M,ha.at1 (k:=2) d3 rfl,?_⟩
  refine SE.Zc6.go (pplaceNone_se λg3 f2=>⟨_,_,rfl,newS.set rfl λf7 g4 f4 c5 d6=>?_⟩)
  have a0:=f2.trans f4
  refine⟨t2,(a9.ext (b2.trans a0)).at0 (r:=[]) xR rfl,t3,(c4.ext a0).at0 (r:=[]) xR rfl,?_⟩
  refine SE.Zdb.go (Z50 (d9.ext (b2.trans a0)) (e0.ext (x9.trans a0)) λf0 d1=>⟨_,rfl,bound ⟨Sl.nil,λ_=>(c5.ext d1).at0 (r:=[]) xR rfl,bound ?_⟩⟩)
  have e:(((true&&(c==c))&&(((Sl.nil.len:Nat):Int)==0))&&((1:Int)==1))=true:=by simp[Sl.nil]
  rw[e]
  exact hR f0 ((b0.trans (b2.trans a0)).trans d1)
 clear hJ
 refine⟨lk,ha.at1 (k:=7) (r:=[]) b7 rfl,λhl=>?_,λhl=>?_⟩
 ·subst hl
  refine⟨gS,ha.at0 b7 rfl,l1,l2,D,M,ha.at1 (k:=2) b7 rfl,?_⟩
  have g2:=a4.size
  have l6:=c6.lt
  refine SE.Zc6.go (Zpr (old:=some T) (S0:=λb=>b<w6.heap.size) (hg.ext b6).tab ((b3.ext x3).ext (x4.trans a4)) (λb hb=>hb) ((hG.ext b6).mono λb hb=>by have:=up hb; omega) (by
   refine⟨by show a6.block<w6.heap.size; omega,so,(c6.ext a4).at0 (r:=[]) xR rfl,(hT.ext b6).mono λb hb=>by have:=up hb; omega⟩) (λT' h d hd=>by cases h; exact hb d hd) b5 λc7 T7 t7 w7 x7 e7 e3=>⟨_,_,rfl,?_⟩)
  have a9:=a7.ext x7
  have e9:Unf w7 c2.block:=Z2z a9 (by simp[Sl.v]) (.inr (by simp[Sl.v]))
  have g0:=a7.lt
  refine stw0.intro a9 sI λw8 b8 f9 d7=>?_
  exact b4 c7 T7 t7 w8 (b8.ext (a4.trans x7) oM) d7 (((Z60 e9 e3).but b8 λh=>h.2 rfl).mono λb hb=>by have h1:b<w7.heap.size:=hb.1; have:=b8.1; omega) e7
 ·subst hl
  exact b4 c1 T1 t1 w6 a4 a7 ((d8.ext x6).mono λb hb=>by have:=x6.size; omega) e4
end Go.Hal
namespace Go.Hal
open Go.ChangeShapes Go.WideShapes Go.ChangeAt
section
variable {H:Type} {W:World} {enc:TypeId×Value→H}
theorem Z5h{x:DataW H×List MemPlace}(h1:Tr enc prog W n 27 cs x)(w1:small (x.1.weights prog 27)):
  ∃a b c d:Int,cs= [.int .i64 a,.int .i64 b,.int .i64 c,.int .i64 d]:=by
 have hl:=Zi7 underlying27 h1
 have hc:prog.cellsOf 27=4:=kR
 rw[hc]at hl
 obtain⟨z0,k0,g0,v0⟩:=Za5 underlying27 h1 w1 0 3 0 1 ⟨_,rfl,rfl,rfl⟩ kR
 obtain⟨z1,k1,g1,v1⟩:=Za5 underlying27 h1 w1 1 3 1 1 ⟨_,rfl,rfl,rfl⟩ kR
 obtain⟨z2,k2,g2,v2⟩:=Za5 underlying27 h1 w1 2 3 2 1 ⟨_,rfl,rfl,rfl⟩ kR
 obtain⟨z3,k3,g3,v3⟩:=Za5 underlying27 h1 w1 3 3 3 1 ⟨_,rfl,rfl,rfl⟩ kR
 obtain⟨a,f0⟩:=rdI g0
 obtain⟨b,f1⟩:=rdI g1
 obtain⟨c,f2⟩:=rdI g2
 obtain⟨d,f3⟩:=rdI g3
 match cs,hl with
 | [c1,c2,c3,c4],_=>
  simp at f0 f1 f2 f3
  exact⟨a,b,c,d,by rw[f0,f1,f2,f3]⟩
end
theorem Zt2{g:Nat}{k:IntKind}{zero:Array Value}(h:w.ShapedOpen P)(hg:g<P.globals.size)
  (h0:((begin P (λ_ _=>0) default).world.heap[g]?).bind Obj.row? =some (zero,t)) (hz:zero.size=1)
  (hb:P.buildable t=true) (hc:P.cellTypes P.depth t=some [t]) (hu:P.underlying t=some (.int k)): ∃n,w.cell? ⟨g,0,none⟩=some (.int k n):=by
 obtain⟨cs,hh,hs,hr⟩:=h.1 g zero t hg h0
 obtain⟨ts,a6,_,a5⟩:=hr hb
 rw[hc]at a6
 cases a6
 have h1:0<cs.size:=oM
 obtain⟨u,a7,a0⟩:=a5 0 cs[0] (by simp[h1])
 have:u=t:=by simpa using a7.symm
 subst this
 have a4:w.cell? ⟨g,0,none⟩=some cs[0]:=by simp[World.cell?,hh,h1]
 rw[a4]
 unfold Cell.ok at a0
 rw[hu]at a0
 cases hv:cs[0]<;>rw[hv]at a0<;>first|(obtain⟨rfl,_⟩:=a0; exact⟨_,rfl⟩)|simp at a0
theorem gMx:prog.globals.size>0∧((begin prog (λ_ _=>0) default).world.heap[0]?).bind Obj.row? =some (#[.int .i64 0],3)∧prog.buildable 3=true∧prog.cellTypes prog.depth 3=some [3]∧prog.underlying 3=some (.int .i64):=
 ⟨of_decide_eq_true kR,kR,kR,kR,kR⟩
theorem Z6q{n nm:String}{text:List UInt8}{r:List (String×DataW Unit)}{g:Nat}
  (h:laidMet P ((n,.iface nm (.ptr (.agg [.lit (.string text)])))::r) W) (hg:P.globalNamed n=some g) {ti tp te ts:TypeId} {ms:Array (String×TypeId)} {f:Field}
  (ht:(P.globals[g]?).map (·.type)=some ti) (hi:P.underlying ti=some (.interface ms)) (a0: ∀u,P.typeName? 3 u=some nm→u=tp)
  (hp:P.underlying tp=some (.pointer te)) (he:P.underlying te=some (.struct #[f])) (a6:f.type=ts) (a5:f.offset=0) (hs:P.underlying ts=some .string) (hc:P.cellsOf te=1) (a4:P.cellsOf ts=1):
  ∃ev,W.cell? ⟨g,0,none⟩=some ev∧(ev= .nilIface∨ ∃te pe,ev= .iface te pe):=by
 obtain⟨a,s,hv,_⟩:=laid_sentinel h hg ht hi a0 hp he a6 a5 hs hc a4
 exact⟨_,World.var?_cell hg hv 0,.inr ⟨_,_,rfl⟩⟩
theorem starE: "*" ++ "errors.errorString" = "*errors.errorString" :=by decide
theorem rowE(u:TypeId)(h:prog.typeName? 3 u=some "*errors.errorString"):u=443:=
 typeName_ptr_named (nm:= "errors.errorString") (by rw[starE]; kernel_rfl) kR dC u (by rw[starE]; exact h)
theorem gl_of(h:laidMetH prog Zpi W)(a0:W.ShapedOpen prog):Gl W:=by
 refine⟨tab_of h,?_,?_,?_⟩
 ·obtain⟨h1,h2,h3,h4,h5⟩:=gMx
  exact Zt2 a0 h1 h2 rfl h3 h4 h5
 ·rw[MakeChecks.laidMetH_plain _ _ _ kR]at h
  exact Z6q (g:=6) (laidMet.tail (laidMet.tail (laidMet.tail (laidMet.tail (laidMet.tail h))))) kR (ti:=132) kR underlying132 rowE underlying443 underlying445 rfl rfl underlying9 kR kR
 ·rw[MakeChecks.laidMetH_plain _ _ _ kR]at h
  exact Z6q (g:=7) (laidMet.tail (laidMet.tail (laidMet.tail (laidMet.tail h)))) kR (ti:=132) kR underlying132 rowE underlying443 underlying445 rfl rfl underlying9 kR kR
section
variable {H:Type} {W:World} {enc:TypeId×Value→H}
end
section
variable {H:Type} {W:World}
theorem ceE:prog.cellsOf 80=2:=kR
theorem ceN:prog.cellsOf 76=6:=kR
theorem ceG:prog.cellsOf 24=1:=kR
theorem ceLe:prog.cellsOf 74=1:=kR
theorem ceLn:prog.cellsOf 22=1:=kR
theorem rdEdge:Rd H prog W edgeE 80:=by
 intro enc n cs x h hw
 have hl:=Zi7 underlying80 h
 rw[ceE]at hl
 obtain⟨y0,m0,h0,w0⟩:=Za5 underlying80 h hw 0 9 0 1 ⟨_,rfl,rfl,rfl⟩ ceS
 obtain⟨y1,m1,h1,w1⟩:=Za5 underlying80 h hw 1 3 1 1 ⟨_,rfl,rfl,rfl⟩ ceI
 obtain⟨s,e0,hs⟩:=Zws h0
 obtain⟨k,e1⟩:=rdI h1
 match cs,hl with
 | [a,b],_=>
  simp at e0 e1
  exact⟨⟨s,k⟩,by rw[e0,e1],hs⟩
theorem Z8d:RdS H prog W edgeE 74:=Zju underlying74 ceE kR dC rdEdge
theorem rdNode:Rd H prog W nodeE 76:=by
 intro enc n cs x h hw
 have hl:=Zi7 underlying76 h
 rw[ceN]at hl
 obtain⟨y0,m0,h0,w0⟩:=Za5 underlying76 h hw 0 9 0 1 ⟨_,rfl,rfl,rfl⟩ ceS
 obtain⟨y1,m1,h1,w1⟩:=Za5 underlying76 h hw 1 50 1 3 ⟨_,rfl,rfl,rfl⟩ ceV
 obtain⟨y2,m2,h2,w2⟩:=Za5 underlying76 h hw 2 73 4 1 ⟨_,rfl,rfl,rfl⟩ ceLp
 obtain⟨y3,m3,h3,w3⟩:=Za5 underlying76 h hw 3 74 5 1 ⟨_,rfl,rfl,rfl⟩ ceLe
 obtain⟨s,e0,hs⟩:=Zws h0
 obtain⟨v,e1⟩:=Zze h1 w1
 obtain⟨c,lc,e2,hc,_⟩:=rdPins enc m2 _ _ h2 w2
 obtain⟨e,le,e3,he,_⟩:=Z8d enc m3 _ _ h3 w3
 match cs,hl with
 | [c0,c1,c2,c3,c4,c5],_=>
  simp[Ver.c]at e0 e1 e2 e3
  exact⟨⟨s,v,lc,le⟩,hs,c,e,by rw[e0,e1.1,e1.2.1,e1.2.2,e2,e3],hc,he⟩
theorem Z8e:RdS H prog W nodeE 22:=Zju underlying22 ceN kR dC rdNode
end
end Go.Hal
namespace Go.Hal
open Go.ChangeShapes Go.WideShapes Go.ChangeAt Go.Proofs.YtfilbiaaeecoaaaGreatDoor
section
variable {H:Type} {W:World}
theorem Z17{α:Type}{E:Enc α}{enc:TypeId×Value→H}{x:DataW H×List MemPlace}{Q:DataW H→Prop}(ht:P.underlying t=some (.slice e))(hc:P.cellsOf e=E.n)(hb:P.bytesOf e=E.bytes)(hn:0<E.n)(h:Tr enc P W n t cs x)(hw:small (x.1.weights P t))
  (hQ: ∀l r,x.1= .slice l r→ ∀d∈l,Q d) (hE: ∀n' cs' (y:DataW H×List MemPlace),Tr enc P W n' e cs' y→small (y.1.weights P e)→Q y.1→ ∃z,E.rep W (Here W) z cs'): ∃(s:Sl) (l:List α),cs= [s.v]∧SlR E W (Here W) s l∧l.length*E.bytes≤reachBytes:=by
 rcases Go.Deep.open_slice ht h with⟨rfl,rfl⟩|⟨a,len,cap,m,n',D,Pl,rfl,_,b1,b0,hm,rfl,a6⟩
 ·exact⟨Sl.nil,[],rfl,SlR.nil trivial,by simp[reachBytes]⟩
 ·simp only[if_true]at hm
  obtain rfl:cap=m:=hm.symm
  simp only[DataW.weights,ht]at hw
  obtain⟨a8,b2⟩:=Zrn.1 hw
  obtain⟨b3,_⟩:=Zms.1 b2
  rw[hc]at a6
  have a7: ∀i,i<len→ ∃y cs',E.rep W (Here W) y cs'∧Go.Hal.ldc W (a.add (i*E.n)) cs':=λi hi=>by
   obtain⟨cs',h1,h2⟩:=a6 i oM
   obtain⟨_,b4,a4⟩:=World.cells?_some h1
   obtain⟨y,hy⟩:=hE n' cs' _ h2 (Zlm b3 (fp (jx.2 hi))) (hQ _ _ rfl _ (fp (jx.2 hi)))
   exact⟨y,cs',hy,λj v hj=>by
    have b5:=(ce.1 hj).1
    exact(a4 j oM).trans hj⟩
  have a5: ∀k,k≤len→ ∃l:List α,l.length=k∧ ∀(i:Nat) (y:α),l[i]? =some y→ ∃cs',E.rep W (Here W) y cs'∧Go.Hal.ldc W (a.add (i*E.n)) cs':=λk=>by
   induction k with
   |zero=>intro _; exact⟨[],rfl,by simp⟩
   |succ k ih=>
    intro hk
    obtain⟨l,hl,hr⟩:=ih oM
    obtain⟨y,cs',h1,h2⟩:=a7 k oM
    refine⟨l++ [y],by simp[hl],λi z hz=>?_⟩
    rw[kq]at hz
    split at hz
    ·exact hr i z hz
    ·rename_i hi
     have:i=k:=by
      have:=(ce.1 hz).1
      simp at this; omega
     subst this
     simp[hl]at hz
     subst hz
     exact⟨cs',h1,h2⟩
  obtain⟨l,hl,hr⟩:=a5 len nR
  have a0:l.length*E.bytes≤reachBytes:=by
   refine co (fb _ (show l.length≤((List.range len).map D).length+((List.range (cap - len)).map λj=>D (len+j)).length by simp[hl])) ?_
   rw[hb]at a8; exact a8
  refine⟨⟨some a,len,cap⟩,l,rfl,⟨hl.symm,by rw[hl]; exact b1,b0,by unfold room; unfold reachBytes at a0; omega,?_⟩,a0⟩
  rcases fo len with h0|h0
  ·left; exact cq oM
  ·right
   refine⟨a,rfl,?_,hr⟩
   obtain⟨y,hy⟩: ∃y,l[0]? =some y:=⟨_,bq oM⟩
   obtain⟨cs',h1,h2⟩:=hr 0 y hy
   have b6:=E.len h1
   have a9:=h2 0 cs'[0] (bq oM)
   have:=World.block_lt_of_cell? W _ a9
   rw[Zel,Zel]at this
   exact this
def encB{α:Type}(E:Enc α)(f:α→Nat)(B:Nat):Enc α:=⟨E.n,E.bytes,λw S y cs=>E.rep w S y cs∧f y≤B,λh=>E.len h.1,λh=>E.one h.1,λh hs=>⟨E.mono h.1 hs,h.2⟩,λh k=>⟨E.keep h.1 k,h.2⟩⟩
theorem Z34{α:Type}{E:Enc α}{f:α→Nat}{B:Nat}{s:Sl}{l:List α}(h:SlR (encB E f B) W S s l):SlR E W S s l∧ ∀y∈l,f y≤B:=by
 obtain⟨h1,h2,h3,h4,h5⟩:=h
 rcases h5 with rfl|⟨a,k1,k2,k3⟩
 ·exact⟨⟨h1,h2,h3,h4,.inl rfl⟩,λy hy=>by cases hy⟩
 ·refine⟨⟨h1,h2,h3,h4,.inr ⟨a,k1,k2,λi y hy=>(let⟨cs,q1,q2⟩:=k3 i y hy;⟨cs,q1.1,q2⟩)⟩⟩,λy hy=>?_⟩
  obtain⟨i,hi⟩:=ip hy
  obtain⟨cs,q1,_⟩:=k3 i y hi
  exact q1.2
theorem ceDi:prog.cellsOf 69=9:=kR
theorem ceTr:prog.cellsOf 30=1:=kR
theorem ceLs':prog.cellsOf 67=1:=kR
theorem ceLdi:prog.cellsOf 28=1:=kR
theorem rdPath:RdS H prog W strE 67:=Zju underlying67 ceS kR dC λenc n cs x h hw=>by
 obtain⟨s,e,hs⟩:=Zws h
 exact⟨s,e,hs⟩
theorem rdDir1{enc:TypeId×Value→H}{x:DataW H×List MemPlace}(h:Tr enc prog W n 69 cs x)(hw:small (x.1.weights prog 69)): ∃d:Dir,dirE.rep W (Here W) d cs∧d.path.length≤Rows.uptoBulk x.1:=by
 have hl:=Zi7 underlying69 h
 rw[ceDi]at hl
 obtain⟨y0,m0,h0,w0,b0⟩:=Zfn underlying69 h hw 0 67 0 1 ⟨_,rfl,rfl,rfl⟩ ceLs'
 obtain⟨y1,m1,h1,w1⟩:=Za5 underlying69 h hw 1 53 1 7 ⟨_,rfl,rfl,rfl⟩ ceK
 obtain⟨y2,m2,h2,w2⟩:=Za5 underlying69 h hw 2 3 8 1 ⟨_,rfl,rfl,rfl⟩ ceI
 obtain⟨s,p,e0,hs,_⟩:=rdPath enc m0 _ _ h0 w0
 obtain⟨k,d,e,o,e1,hk,hd,he,ho,_⟩:=Z8f h1 w1
 obtain⟨i,e2⟩:=rdI h2
 have hp:p.length≤Rows.uptoBulk x.1:=by
  have:=Zwt underlying67 h0 e0
  rw[hs.len]at this
  omega
 match cs,hl with
 | [c0,c1,c2,c3,c4,c5,c6,c7,c8],_=>
  simp[Ver.c]at e0 e1 e2
  exact⟨⟨p,k,i⟩,⟨hk,s,d,e,o,by rw[e0,e1.1,e1.2.1,e1.2.2.1,e1.2.2.2.1,e1.2.2.2.2.1,e1.2.2.2.2.2.1,e1.2.2.2.2.2.2,e2],hs,hd,he,ho⟩,hp⟩
theorem Z8c{enc:TypeId×Value→H}{x:DataW H×List MemPlace}(h:Tr enc prog W n 28 cs x)(hw:small (x.1.weights prog 28)): ∃(s:Sl) (l:List Dir),cs= [s.v]∧SlR dirE W (Here W) s l∧ ∀d∈l,d.path.length≤Rows.uptoBulk x.1:=by
 obtain⟨s,l,e,hs,_⟩:=Z17 (E:=encB dirE (λd=>d.path.length) (Rows.uptoBulk x.1)) (Q:=λd=>Rows.uptoBulk d≤Rows.uptoBulk x.1) underlying28 ceDi kR (by show 0<9; decide) h hw (λl r e d hd=>by
  rw[e]
  have:=Zs7 hd
  simp only[Rows.uptoBulk]
  omega) λn' cs' y h1 h2 hq=>by
   obtain⟨d,k1,k2⟩:=rdDir1 h1 h2
   exact⟨d,k1,co k2 hq⟩
 obtain⟨k1,k2⟩:=Z34 hs
 exact⟨s,l,e,k1,k2⟩
theorem Z8i{enc:TypeId×Value→H}{x:DataW H×List MemPlace}(h:Tr enc prog W n 30 cs x)(hw:small (x.1.weights prog 30)): ∃(s:Sl) (l:List Dir),cs= [s.v]∧SlR dirE W (Here W) s l∧ ∀d∈l,d.path.length≤Rows.uptoBulk x.1:=by
 have hl:=Zi7 underlying30 h
 rw[ceTr]at hl
 obtain⟨y0,m0,h0,w0,b0⟩:=Zfn underlying30 h hw 0 28 0 1 ⟨_,rfl,rfl,rfl⟩ ceLdi
 obtain⟨s,l,e0,hs,hb⟩:=Z8c h0 w0
 match cs,hl with
 | [c0],_=>
  simp at e0
  exact⟨s,l,by rw[e0],hs,λd hd=>co (hb d hd) b0⟩
theorem Z5g{enc:TypeId×Value→H}{x:DataW H×List MemPlace}(h:Tr enc prog W n 24 cs x)(hw:small (x.1.weights prog 24)):
  ∃(s:Sl) (g:List Node),cs= [s.v]∧SlR nodeE W (Here W) s g∧g.length≤Rows.uptoBulk x.1:=by
 have hl:=Zi7 underlying24 h
 rw[ceG]at hl
 obtain⟨y0,m0,h0,w0,b0⟩:=Zfn underlying24 h hw 0 22 0 1 ⟨_,rfl,rfl,rfl⟩ ceLn
 obtain⟨s,l,e0,hs,_⟩:=Z8e enc m0 _ _ h0 w0
 have:=Zwt underlying22 h0 e0
 rw[hs.len]at this
 match cs,hl with
 | [c0],_=>
  simp at e0
  exact⟨s,l,by rw[e0],hs,oM⟩
end
section
variable {H:Type} {W:World} {enc:TypeId×Value→H}
theorem Zzd{x:DataW H×List MemPlace}(h:Tr enc prog W n 32 cs x)(hw:small (x.1.weights prog 32)):
  ∃(gS sP so:Sl) (lk:Bool) (l1 l2 D M:Int) (g:List Node) (lp:List Pack) (T:List Dir),cs= [gS.v,sP.v,.int .i64 l1,.int .i64 l2,.int .i64 D,.int .i64 M,so.v,.bool lk]∧SlR nodeE W (Here W) gS g∧SlR packE W (Here W) sP lp∧SlR dirE W (Here W) so T∧
   g.length≤Rows.uptoBulk x.1∧ ∀d∈T,d.path.length≤Rows.uptoBulk x.1:=by
 have hl:=Zi7 underlying32 h
 have hc:prog.cellsOf 32=8:=kR
 rw[hc]at hl
 obtain⟨y0,m0,h0,w0,b0⟩:=Zfn underlying32 h hw 0 24 0 1 ⟨_,rfl,rfl,rfl⟩ ceG
 obtain⟨y1,m1,h1,w1⟩:=Za5 underlying32 h hw 1 25 1 1 ⟨_,rfl,rfl,rfl⟩ ceLk
 obtain⟨y2,m2,h2,w2⟩:=Za5 underlying32 h hw 2 27 2 4 ⟨_,rfl,rfl,rfl⟩ kR
 obtain⟨y3,m3,h3,w3,b3⟩:=Zfn underlying32 h hw 3 30 6 1 ⟨_,rfl,rfl,rfl⟩ ceTr
 obtain⟨y4,m4,h4,w4⟩:=Za5 underlying32 h hw 4 4 7 1 ⟨_,rfl,rfl,rfl⟩ kR
 obtain⟨gS,g,e0,hg,kg⟩:=Z5g h0 w0
 obtain⟨sP,lp,e1,hp,_⟩:=Z8g enc m1 _ _ h1 w1
 obtain⟨l1,l2,D,M,e2⟩:=Z5h h2 w2
 obtain⟨so,T,e3,ht,kt⟩:=Z8i h3 w3
 obtain⟨lk,e4⟩:=rdBool h4
 match cs,hl with
 | [c0,c1,c2,c3,c4,c5,c6,c7],_=>
  simp at e0 e1 e2 e3 e4
  exact⟨gS,sP,so,lk,l1,l2,D,M,g,lp,T,by rw[e0,e1,e2.1,e2.2.1,e2.2.2.1,e2.2.2.2,e3,e4],hg,hp,ht,co kg b0,λd hd=>co (kt d hd) b3⟩
end
end Go.Hal
