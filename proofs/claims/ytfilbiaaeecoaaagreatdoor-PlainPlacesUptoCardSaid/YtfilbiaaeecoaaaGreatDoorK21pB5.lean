/- Lemmas for the claim K21p: how the program's functions run, and what they answer; no condition but those that each theorem names. -/
import Derived.RangeFuncNested
import Derived.Shelf.Strings.Split
import Derived.Shelf.Strconv.AtoiAll
import Derived.Ground.NamesProg
import Derived.Test.YtfilbiaaeecoaaaGreatDoorProg
import Derived.RangeFuncCalls
import Derived.RangeFuncLeaves
import Derived.Shelf.Abstract
import Derived.WalkKit
import Derived.OwnWalkIn
import Derived.TacticsInMore
import Derived.LoopNIn
import Derived.LoopIn
import Derived.RangeFuncBox
import Derived.RangeFuncGives
import Derived.Maps.AppendAt
import Derived.Shelf.SlSortCmp.NoneTotal
import Derived.Ground.SlsfProg
import Derived.Lib.AtoiAll
import Derived.Laws.IdiomCopy
import Derived.ArgAppend
import Derived.Test.YtfilbiaaeecoaaaGreatDoorK21pB4
set_option linter.unusedVariables false
set_option linter.unusedSimpArgs false
set_option maxHeartbeats 16000000
open Go Go.RowKit Go.Proofs Go.Shelf Go.Hal Go.Proofs.Tryz
variable {a a3 ad:Addr} {R:Bool→World→Prop} {D:Int} {G g:List Hal.Node} {L P:List Pack} {cs:List Value} {V:List Ver} {m:Mani} {i lo n:Nat} {S S' SC:Nat→Prop} {ol:Option Addr} {d e o s t u:Sl} {A w w':World}
namespace Go.Hal
theorem Ze6(L:List Pack)(g:List Node):(Zcm L g).length=g.length:=by simp[Zcm]
theorem Zpp(hi:i<g.length):(Zcm L g)[i]? =some (if i=0 then Zx else getD L g[i].name g[i].v):=by
 unfold Zcm
 rw[fi,List.getElem?_range hi,gv,bq hi]
 rfl
theorem Zn2(hi:i<g.length):(Zcm L g).take (i+1)=(Zcm L g).take i++ [if i=0 then Zx else getD L g[i].name g[i].v]:=by
 have hl:i<(Zcm L g).length:=by rw[Ze6]; exact hi
 have h:=Zpp (L:=L) hi
 rw[bq hl,cw]at h
 rw[bu hl,h]
theorem Sl.v_inj(h:s.v=t.v):s=t:=by
 obtain⟨a,b,c⟩:=s
 obtain⟨d,e,f⟩:=t
 simp only[Sl.v,Value.slice.injEq]at h
 obtain⟨rfl,rfl,rfl⟩:=h; rfl
theorem DirRp.path{y:DirC×Dir}(h:DirRp w S y):SlR strE w S y.1.ps y.2.path:=by
 obtain⟨⟨_,ps,d,e,o,hc,hp,_⟩,_⟩:=h
 unfold dirC at hc
 simp only[List.cons.injEq]at hc
 rw[Sl.v_inj hc.1]; exact hp
theorem Ztn:Zfj prog 20:=enters_of func20 kR rfl
theorem Zum{x y:DirC×Dir}(hx:DirRp w S x)(hy:DirRp w S y):Calls prog 20 #[.agg (dirC x.1).toArray,.agg (dirC y.1).toArray] w λe w'=>e= .returned (.int .i64 (cDir x.2 y.2))∧Ext w w':=by
 have h1:=hx.path
 have h2:=hy.path
 obtain⟨⟨ps,nm,ma,mi,pa,d,e,o,nd⟩,x⟩:=x
 obtain⟨⟨a0,a8,a5,a6,a9,d',e',o',a7⟩,y⟩:=y
 have h:callS prog 20 [.agg #[Sl.v ps,.string nm,.int .i64 ma,.int .i64 mi,.int .i64 pa,Sl.v d,Sl.v e,Sl.v o,.int .i64 nd],.agg #[Sl.v a0,.string a8,.int .i64 a5,.int .i64 a6,.int .i64 a9,Sl.v d',Sl.v e',Sl.v o',.int .i64 a7]] w (λv w'=>v= .int .i64 (cDir x y)∧Ext w w'):=SE.Zhh.go (by
  unfold SE.Zhh
  refine newS.intro λa w1 x1 hb _ _=>newS.intro λa1 w2 x2 a4 _ _=>bnd.drew λw3 x3=>⟨ps,hb.at0 (x2.trans x3) rfl,a0,a4.at0 x3 rfl,callX.intro (SE.Zg5.go (Zjz (h1.ext (x1.trans (x2.trans x3))) hx.2 λw4 x4=>⟨x4,_,rfl,SE.Zg5.go (Zjz (h2.ext (x1.trans (x2.trans (x3.trans x4)))) hy.2 λw5 x5=>⟨_,rfl,Zjw ⟨_,rfl,rfl,x1.trans (x2.trans (x3.trans (x4.trans x5)))⟩⟩)⟩))⟩)
 exact Calls.mono h λe w' ⟨v,he,hv,hg⟩=>⟨by rw[he,hv],hg⟩
section
variable {w0:World} {p:Addr} {S:Nat→Prop} {c0:PC} {G:List Node} {P:List Pack} {old:Option (List Dir)}
theorem MlV.edges{E:Enc Stl}{T:TypeId}{c:PC}{s:PlS}(h:MlV E T w lo p S c G P old s){nd:Nat}{x:Node}(hx:G[nd]? =some x):
  ∃ad ct e,c.u.a=some ad∧nd<c.u.len∧SlR pinE w S ct x.ctx∧SlR edgeE w S e x.edges∧ ∀w',Ext w w'→ldc w' (ad.add (nd*6)) [.string x.name,.int .i64 x.v.ma,.int .i64 x.v.mi,.int .i64 x.v.pa,Sl.v ct,Sl.v e]:=by
 obtain⟨hl,rfl⟩:=ce.1 hx
 obtain⟨ad,ct,e,h1,_,h2,h3,h4⟩:=Zed h.g hl
 exact⟨ad,ct,e,h1,by rw[h.g.len]; exact hl,h2,h3,h4⟩
theorem Zwi{R:Sl→Int→World→Prop}(h0:MlV Zlq 122 w0 w.heap.size p S c0 G P old pl0)(d1:PlaceOk G P)(k6:LimP c0.l3 c0.l4)(hO:Zrx old)
  (ha:BoxAt w0 a [c0.u.v]) (q5:a.block<a3.block) (n3:BoxAt w0 a3 [Sl.nil.v]) (q7:a3.block<p.block) (hw:w.heap.size≤a.block) (e7: ∀ad,c0.dr.a=some ad→a3.block<ad.block) (l9: ∀ad,c0.st.a=some ad→a3.block<ad.block) (n1: ¬S a3.block) (x0:Ext w w0)
  (hR: ∀c T t w',Ext w w'→PlaceR G P old c0.l3 c0.l4 c T→SlR dirE w' (λb=>b<w'.heap.size) t T→R t c w'):
  loop1 0 w0 λb1 d0 i2=>∃(i5:Sl),(ldc d0 (p.add 7) [(Sl.v i5)])∧((b1<(i5.len:Int)→loop1 1 d0 λkind g2 i3=>((kind≤3→bnd g2.drew λ(c1:World)=>∃(d8:Sl),(ldc c1 a [(Sl.v d8)])∧ ∃(d9:Sl),(ldc c1 (p.add 7) [(Sl.v d9)])∧ ∃(f1:Addr),(d9.a=some f1∧(0:Int)≤b1∧b1<(d9.len:Int))∧ ∃(c8:Int),(ldc c1 ((f1.add (b1.toNat*9)).add 8) [(Value.int .i64 c8)])∧ ∃(f2:Addr),(d8.a=some f2∧(0:Int)≤c8∧c8<(d8.len:Int))∧ ∃(b6:Sl),(ldc c1 ((f2.add (c8.toNat*6)).add 5) [(Sl.v b6)])∧loop1 0 c1 λb4 e3 i4=>((b4<(b6.len:Int)→join (λ(m5:World)=>i4 (Za (b4+1)) m5) λg1=>∃(f4:Addr),(b6.a=some f4∧(0:Int)≤b4∧b4<(b6.len:Int))∧ ∃(a5:ByteArray) (b7:Int),(ldc e3 (f4.add (b4.toNat*2)) [(Value.string a5),(Value.int .i64 b7)])∧newS e3 [(Value.string (ByteArray.mk #[])),(Value.int .i64 0)] 80 λe6 m6=>stw m6 e6 [(Value.string a5),(Value.int .i64 b7)] λg3=>∃(a6:ByteArray) (b8:Int),(ldc g3 e6 [(Value.string a6),(Value.int .i64 b8)])∧callS prog 17 [(Value.pointer (some p)),(Value.int .i64 b1),(Value.agg #[(Value.string a6),(Value.int .i64 b8)])] g3 λo7 e4=>∃(e0:Int),o7=(Value.int .i64 e0)∧((¬e0=kind→g1 e4)∧(¬(¬e0=kind)→ ∃(a7:ByteArray) (b9:Int),(ldc e4 e6 [(Value.string a7),(Value.int .i64 b9)])∧callS prog 18 [(Value.pointer (some p)),(Value.int .i64 b1),(Value.agg #[(Value.string a7),(Value.int .i64 b9)]),(Value.int .i64 kind)] e4 λo8 g4=>∃(c9:Int),o8=(Value.int .i64 c9)∧((¬c9=0→stw g4 a3 [(Sl.v Sl.nil)] λa8=>∃(b2:Sl),ldc a8 a3 [(Sl.v b2)]∧R b2 c9 a8)∧(¬(¬c9=0)→g1 g4)))))∧(¬(b4<(b6.len:Int))→i3 (Za (kind+1)) e3)))∧(¬(kind≤3)→i2 (Za (b1+1)) g2)))∧(¬(b1<(i5.len:Int))→ ∃(f9:Sl),(ldc d0 (p.add 7) [(Sl.v f9)])∧callS prog 19 [(Sl.v f9),(Value.func (.func 20) #[] #[])] d0 λo9 g5=>o9=(Value.tuple #[])∧ ∃(g0:Sl),(ldc g5 (p.add 7) [(Sl.v g0)])∧stw g5 a3 [(Sl.v g0)] λg6=>∃(b0:Sl),ldc g6 a3 [(Sl.v b0)]∧R b0 0 g6)):=by
 have hg:=d1.grPl
 obtain⟨i7,i9,j1,j2⟩:=k6
 have p9:=d1.len
 have n9:=h0.lo_le
 have p0:=h0.box.lt
 generalize hI:plI G P old c0.l3 c0.l4=I
 have b5:I.g=G:=by rw[←hI]; rfl
 have q0:I.maxD=c0.l3:=by rw[←hI]; rfl
 have j9:GrPl I.g:=by rw[b5]; exact hg
 have keep: ∀{c w'},Mv w.heap.size p c0 w0 c w'→Ext w w'∧BoxAt w' a [c0.u.v]∧BoxAt w' a3 [Sl.nil.v]∧c.u=c0.u∧c.l3=c0.l3∧c.l4=c0.l4:=λ{c w'} m=>by
  refine⟨x0.trans' m.bel,m.box ha oM (λad h=>by have:=e7 ad h; omega) λad h=>by have:=l9 ad h; omega,m.box n3 oM (λad h=>by have:=e7 ad h; omega) λad h=>by have:=l9 ad h; omega,?_,?_,?_⟩<;>rw[m.same]
 have fin: ∀{c w' e5 code T t},Mv w.heap.size p c0 w0 c w'→Ext w' e5→PlaceR G P old c0.l3 c0.l4 code T→SlR dirE e5 (λb=>b<e5.heap.size∧b≠a3.block) t T→stw e5 a3 [Sl.v t] λa8=>∃r:Sl,ldc a8 a3 [Sl.v r]∧R r code a8:=λ{c w' e5 code T t} m x hP ht=>by
  obtain⟨k1,_,k2,_⟩:=keep m
  exact stw0.intro (k2.ext x) sI λw3 b3 o4 g9=>⟨t,g9.ldc.pre (r:=[]) rfl,hR code T t w3 (b3.ext (k1.trans x) oM) hP ((ht.but b3 λh=>h.2 rfl).mono λb hb=>by have:=hb.1; have:=b3.1; omega)⟩
 refine loop1.ghost (λn b1 w1=>∃(a0:Nat) (c:PC) (s:PlS),b1=(a0:Int)∧n=400 - a0∧MlV Zlq 122 w1 w.heap.size p S c G P old s∧Mv w.heap.size p c0 w0 c w1∧PInv G s a0∧(∀u∈s.done,u.src<a0)∧Zo1 I s∧s.done.length≤a0*128∧a0≤s.dirs.length∧ ∀code t,DirsR I a0 s code t→DirsR I 0 pl0 code t) 400
  ⟨0,c0,pl0,rfl,rfl,h0,Mv.of xR n9,PInv.start hg.pos,(λu hu=>by cases hu),Z6y oM,df _,eh _,λ_ _ h=>h⟩ λn b1 w1 s0 ⟨a0,c,s,hv,hn,h1,m1,g7,l8,l7,p1,q6,h8⟩ o0=>?_
 subst hv
 have r7:s.dirs.length≤257:=by have:=l7.2; omega
 have q9:c.dr.len=s.dirs.length:=Zm8 (h1.read oM ⟨by show _*32≤room; unfold room; omega,by rw[Zd]; omega⟩)
 refine⟨c.dr,h1.box.at1 (k:=7) xR rfl,λr2=>?_,λh6=>?_⟩
 ·have c2:a0<s.dirs.length:=oM
  obtain⟨nd,d3⟩: ∃nd,nd=nodeAt s.dirs a0:=⟨_,rfl⟩
  have l0:nd<G.length:=by
   rw[d3,Zd1 (bq c2)]
   exact g7.node _ (cj c2)
  have f0:G[nd]? =some G[nd]:=bq l0
  have e8:Z1 I.g nd=G[nd].edges:=by rw[b5]; exact Zhn f0
  have n5:G[nd].edges.length≤128:=by
   have:=d1.edges_le nd
   rw[Zhn f0]at this
   omega
  have r4:(Zge I.g nd).length≤128:=by rw[Zrc,e8]; exact n5
  have stop: ∀{c' w' s' code t e r},Mv w.heap.size p c0 w0 c' w'→Turn I a0 nd s (e::r) s'→EdgeR I s' a0 e (kindE I.g nd e) code t→code≠0→stw w' a3 [Sl.v Sl.nil] λa8=>∃r:Sl,ldc a8 a3 [Sl.v r]∧R r code a8:=λ{c' w' s' code t e r} m ht hE hc=>
   fin m xR (.stop ⟨i7,i9,j1,j2⟩ hO d1 (by
    rw[hI]
    exact h8 code t (.stop c2 (by rw[←d3]; exact ht.stop hE hc) hc)) hc) (SlR.nil trivial)
  refine loop1.ghost (λn kind w2=>∃(k:Nat) (c':PC) (s':PlS),kind=(k:Int)∧1≤k∧k≤4∧n=4 - k∧MlV Zlq 122 w2 w.heap.size p S c' G P old s'∧Mv w.heap.size p c0 w0 c' w2∧Turn I a0 nd s (if k≤3 then Zku I.g nd k 0 else []) s') 3
   ⟨1,c,s,rfl,df _,oM,rfl,h1,m1,Turn.start j9 (by rw[b5]; exact g7) l7 l8⟩ λn2 kind w2 p5 ⟨k,c',s',hk,r0,r1,r3,h2,m2,a9⟩ l5=>?_
  subst hk
  refine⟨λh9=>bnd.drew λw3 x3=>?_,λh9=>?_⟩
  ·have k0:k≤3:=oM
   rw[if_pos k0]at a9
   obtain⟨kx,kb,_,ku,_,_⟩:=keep m2
   obtain⟨c6,k9⟩:=a9.node c2
   have r5:=a9.small.2
   have j5:=a9.cnt
   obtain⟨m9,ct,es,o3,r9,_,j8,k5⟩:=h2.edges f0
   have e9:=h2.read oM ⟨by show _*32≤room; unfold room; omega,by rw[Zd]; omega⟩
   obtain⟨ad,_,_,_,_,n4,_,_,_,_,_,_,j6⟩:=e9.dirEl c6
   have p2:=Zm8 e9
   have e1:nodeAt s'.dirs a0=s'.dirs[a0].node:=Zd1 (bq c6)
   have e2:s'.dirs[a0].node=nd:=by rw[←e1,k9,d3]
   rw[e2]at j6
   have p3:=j8.len
   refine⟨c0.u,kb.at0 (r:=[]) x3 rfl,c'.dr,h2.box.at1 (k:=7) x3 rfl,ad,⟨n4,oM,oM⟩,(nd:Int),by rw[bw]; exact(j6 _ x3).mid (k:=8) (r:=[]) rfl,m9,⟨by rw[←ku]; exact o3,oM,by rw[←ku]; omega⟩,es,by rw[bw]; exact(k5 _ x3).mid (k:=5) (r:=[]) rfl,?_⟩
   refine loop1.up (N:=G[nd].edges.length) (by rw[Zd]; omega) (λj w4=>∃(c4:PC) (s4:PlS),MlV Zlq 122 w4 w.heap.size p S c4 G P old s4∧Mv w.heap.size p c0 w0 c4 w4∧SlR edgeE w4 S es G[nd].edges∧Turn I a0 nd s (Zku I.g nd k j) s4)
    ⟨c',s',h2.ext x3,m2.trans (Mv.of x3 h2.lo_le),j8.ext x3,a9⟩ λj w4 p6 hj ⟨c4,s4,h4,m4,d5,a4⟩ f7=>⟨λk7=>join.named λJ hJ=>?_,λp4=>?_⟩
   ·have d2:j<G[nd].edges.length:=oM
    obtain⟨m8,j3,f8,k4⟩:=Zhx d5 d2
    have k8:G[nd].edges[j]∈Z1 G nd:=by rw[Zhn f0]; exact cj d2
    have h6:=hg.edge k8
    obtain⟨d4,f6⟩:=a4.node c2
    have r6:=a4.small.2
    have q8:=a4.cnt
    have d7:j<(Z1 I.g nd).length:=by rw[e8]; exact d2
    have n7:(Z1 I.g nd)[j]=G[nd].edges[j]:=by simp only[e8]
    have c3:=Zrj (g:=I.g) (nd:=nd) (k:=k) d7
    have f5:=Zus (g:=I.g) (nd:=nd) (k:=k) d7
    rw[n7]at c3 f5
    have j0: ∀(w5:World) (c5:PC) (s5:PlS),MlV Zlq 122 w5 w.heap.size p S c5 G P old s5→Mv w.heap.size p c0 w0 c5 w5→SlR edgeE w5 S es G[nd].edges→Turn I a0 nd s (Zku I.g nd k (j+1)) s5→J w5:=λw5 c5 s5 q1 q2 q3 q4=>by
     rw[hJ]; exact f7 d2 w5 ⟨c5,s5,q1,q2,q3,q4⟩
    clear hJ f7
    generalize G[nd].edges[j]=e at*
    refine⟨m8,⟨j3,oM,k7⟩,e.name,e.to,by rw[bw]; exact k4 _ xR,newS.set rfl λe6 w5 x5 j4 _=>⟨e.name,e.to,j4.at0 (r:=[]) xR rfl,?_⟩⟩
    have h5:=h4.ext x5
    have l6:=h5.read oM ⟨by show _*32≤room; unfold room; omega,by rw[Zd]; omega⟩
    refine SE.Zd4.go (Z48 (e:=e) l6 d4 (by have:=a4.inv.node; rw[b5]at this; exact this) f8 h6 λw6 x6=>⟨_,rfl,λhk=>?_,λhk=>?_⟩)
    ·rw[f6,←d3]at hk
     rw[b5]at c3
     have i6:=x5.trans x6
     refine j0 w6 c4 s4 (h4.ext i6) (m4.trans (Mv.of i6 h4.lo_le)) (d5.ext i6) ?_
     rw[b5]at a4 ⊢
     rw[←c3 (λh=>hk (by rw[h]))]; exact a4
    ·rw[f6,←d3]at hk
     have hk:=fj.1 hk
     have i0:kindE I.g nd e=k:=by rw[b5]; omega
     rw[f5 i0]at a4
     refine⟨e.name,e.to,j4.at0 (r:=[]) x6 rfl,?_⟩
     obtain⟨_,_,_,_,o5,o6⟩:=keep m4
     refine SE.Zd2.go (Z46 (k:=k) (D:=c0.l3) (M:=c0.l4) (h5.ext x6) (by have:=a4.inv; rw[b5]at this; exact this) d4 (a4.new e (.head _)) f8 h6 d1.packs oM oM oM o5 o6 λc7 w7 code s7 hE h7 m7=>⟨code,rfl,λhc=>?_,λhc=>?_⟩)
     ·rw[hI,←i0]at hE
      exact stop ((m4.trans (Mv.of (x5.trans x6) h4.lo_le)).trans m7) a4 hE hc
     ·have hc:=fj.1 hc
      subst hc
      rw[hI,←i0]at hE
      exact j0 w7 c7 s7 h7 ((m4.trans (Mv.of (x5.trans x6) h4.lo_le)).trans m7) ((d5.ext (x5.trans x6)).keep ((h5.ext x6).mv m7)) (a4.step j9 d4 hE)
   ·have d2:j=G[nd].edges.length:=oM
    refine l5 (4 - (k+1)) _ w4 oM ⟨k+1,c4,s4,?_,oM,oM,rfl,h4,m4,?_⟩
    ·rw[Zc oM oM]; omega
    ·have d7:(Z1 I.g nd).length≤j:=by rw[e8,d2]; exact df _
     by_cases h9:k=3
     ·subst h9
      rw[Zrh d7]at a4
      rw[if_neg oM]; exact a4
     ·rw[Zri d7 oM]at a4
      rw[if_pos oM]; exact a4
  ·have k3: ¬k≤3:=oM
   rw[if_neg k3]at a9
   obtain⟨c6,_⟩:=a9.node c2
   have j5:=a9.cnt
   have j7:=a9.done
   rw[d3]at j7
   have d6:=a9.inv
   rw[b5]at d6
   simp only[fa,jt]at j5
   refine o0 (400 - (a0+1)) _ w2 oM ⟨a0+1,c',s',?_,rfl,h2,m2,d6.next,λu hu=>by have:=(d6.src u hu).1; omega,a9.small,oM,c6,λcode t ht=>h8 code t (.next c2 j7 ht)⟩
   rw[Zc oM oM]; omega
 ·have h3:DirsR I 0 pl0 0 s:=h8 0 s (.fin oM)
  obtain⟨D,o,p7,p8,n0⟩:=h1.dr
  obtain⟨kx,kb,m0,_,_,_⟩:=keep m1
  have i1: ∀d∈s.dirs,d.path.length≤257:=λd hm=>by
   obtain⟨i,hi⟩:=ip hm
   have:=g7.plen i d hi
   have:=(ce.1 hi).1
   omega
  refine⟨c.dr,h1.box.at1 (k:=7) xR rfl,?_⟩
  refine Z2m o h1.lo_le (by rw[cm]; omega) (λd hd=>?_) Ztn (λw' S' x y hx hy=>Zum hx hy) λl' w2 hp hs bel oth e9=>⟨rfl,c.dr,?_,?_⟩
  ·obtain⟨b,hb,rfl⟩:=fh.1 hd
   have:=i1 b hb
   show b.path.length≤_
   omega
  ·have:BoxAt w2 p c.c:=h1.box.keep (S:=λb=>∀ad,c.dr.a=some ad→b≠ad.block) (λad ha e=>(h1.drP ad ha).1 e.symm) λb hb hl=>oth b hl hb
   exact this.at1 (k:=7) xR rfl
  ·have m3:BoxAt w2 a3 [Sl.nil.v]:=m0.keep (S:=λb=>∀ad,c.dr.a=some ad→b≠ad.block) (λad ha e=>by
    rcases m1.dr ad ha with q|q
    ·have:=e7 ad q; omega
    ·omega) λb hb hl=>oth b hl hb
   have o2:SortedD s.dirs (l'.map drOf):=by
    refine⟨?_,?_⟩
    ·have:=hp.map drOf
     rwa [Zk8]at this
    ·rw[fy]; exact hs
   have n8:(l'.map drOf).map (dirOf P)=l':=by
    rw[gc]
    conv=>rhs; rw[←List.map_id l']
    refine jo λx hx=>?_
    obtain⟨b,_,rfl⟩:=fh.1 (hp.mem_iff.1 hx)
    show dirOf P (drOf (dirOf P b))=_
    rw[Zm9]; rfl
   have o1:PlaceR G P old c0.l3 c0.l4 0 l':=by
    have:=PlaceR.ok (old:=old) (D:=c0.l3) (M:=c0.l4) ⟨i7,i9,j1,j2⟩ hO d1 (by rw[hI]; exact h3) o2
    rwa [n8]at this
   have r8:=Below.size bel
   refine stw0.intro m3 sI λw3 b3 o4 g9=>⟨c.dr,g9.ldc.pre (r:=[]) rfl,hR 0 l' c.dr w3 (b3.ext (kx.trans' bel) oM) o1 ?_⟩
   refine(e9.but b3 λhb=>?_).mono λb hb=>?_
   ·rcases hb with hb|⟨ad,g8,he⟩
    ·rcases n0 _ hb with q|q
     ·exact n1 q
     ·omega
    ·rcases m1.dr ad g8 with q|q
     ·have:=e7 ad q; omega
     ·have:=m0.lt; have:=h0.box.lt; have:=m1.size; omega
   ·have:=b3.1
    rcases hb with hb|⟨ad,g8,rfl⟩
    ·have:=o.lt b hb; omega
    ·have:=(o.block g8).2.1; omega
end
theorem Zzz:packE.rep w S Zx [.string ⟨#[]⟩,.int .i64 0,.int .i64 0,.int .i64 0,Sl.nil.v,Sl.nil.v,Sl.nil.v]:=
 ⟨by unfold Str Zx; rw[Zd]; decide,Sl.nil,Sl.nil,Sl.nil,rfl,SlR.nil trivial,SlR.nil trivial,SlR.nil trivial⟩
theorem Zyl(h:0<P.length→P[0]? =some Zx):pl0.dirs.map (dirOf P)= [⟨[],Zx,0⟩]:=by
 have:P.getD 0 Zx=Zx:=by
  rw[iq]
  by_cases hl:0<P.length
  ·rw[h hl]; rfl
  ·rw[mb oM]; rfl
 show [dirOf P ⟨[],0⟩]=_
 unfold dirOf
 rw[this]; rfl
theorem OwnS.low{α:Type}{E:Enc α}{T:TypeId}{lo':Nat}{l:List α}(h:OwnS E T w lo S s l)(hl:lo'≤lo):OwnS E T w lo' S s l:=by
 obtain⟨css,ho,k1,k2⟩:=h.row
 refine⟨⟨css,⟨ho.1,ho.2.imp id λ⟨g,cap,a0,hv,hg,r⟩=>⟨g,cap,a0,hv,co hl hg,r⟩⟩,k1,k2⟩,h.len,h.lt,h.apart⟩
theorem OldR.mono{old:Option (List Dir)}(h:OldR w S old ol)(hs: ∀b,S b→S' b):OldR w S' old ol:=by
 unfold OldR at*
 split at h
 ·trivial
 ·obtain⟨k1,so,k2,k3⟩:=h
  exact⟨hs _ k1,so,k2,k3.mono hs⟩
 ·exact h.elim
theorem OldR.ok{old:Option (List Dir)}(h:OldR w S old ol):(ol=none∧old=none)∨ ∃ao T so,ol=some ao∧old=some T∧ldc w ao [Sl.v so]∧SlR dirE w S so T:=by
 cases ol with
 |none=>exact .inl ⟨rfl,h.none_⟩
 |some ao=>
  obtain⟨a0,T,h1,h2,_,so,h3,h4⟩:=h.some_ sI
  exact .inr ⟨a0,T,so,h1,h2,h3,h4⟩
theorem Zpr{S0:Nat→Prop}{cp:Addr}{r:Nat}{old:Option (List Dir)}{l1 l2 M:Int}{R:Sl→Int→World→Prop}(ht:Tab w)(d2:CatL w SC cp r L)(hS:Old S0 w)(hg:SlR nodeE w S0 u G)(g2:OldR w S0 old ol)
  (hb: ∀T,old=some T→ ∀d∈T,d.path.length≤4000000000000) (hG:G.length≤1000000000)
  (hR: ∀c T t w',Ext w w'→PlaceR G (Zcm L G) old D M c T→SlR dirE w' (λb=>b<w'.heap.size) t T→R t c w'):SE.Zc6 u (some cp) l1 l2 D M ol w R:=by
 unfold SE.Zc6
 have l6:=hg.len
 refine newS.intro λa w1 x1 ha k9 _=>newS.intro λa1 w2 x2 b2 j8 _=>newS.intro λa3 w3 x3 c4 j9 _=>bound ⟨D,λ_=>b2.at1 (k:=2) x3 rfl,bound ⟨D,λ_=>b2.at1 (k:=2) x3 rfl,bound ⟨M,λ_=>b2.at1 (k:=3) (r:=[]) x3 rfl,bound ⟨M,λ_=>b2.at1 (k:=3) (r:=[]) x3 rfl,λhc=>?_,λhc=>bound ?_⟩⟩⟩⟩
 ·have b0:=x1.trans (x2.trans x3)
  have e2: ¬LimP D M:=λ⟨h1,h2,h3,h4⟩=>by
   rw[decide_eq_false oM,decide_eq_false oM,decide_eq_false oM,decide_eq_false oM]at hc
   cases hc
  exact stw0.intro c4 sI λw4 b4 _ e1=>⟨Sl.nil,e1.ldc.pre (r:=[]) rfl,hR 1 [] Sl.nil w4 (b4.ext b0 (by have:=x1.size; have:=x2.size; omega)) (.arg e2) (SlR.nil trivial)⟩
 have b7:LimP D M:=by
  simp only[dx,decide_eq_false_iff_not,Option.isNone_some]at hc
  obtain⟨⟨⟨⟨_,h2⟩,h3⟩,h4⟩,h5⟩:=hc
  exact⟨oM,oM,oM,oM⟩
 have b0:=x1.trans (x2.trans x3)
 have s1:=x1.size; have s2:=x2.size; have s3:=x3.size
 obtain⟨p0,t0,T0,i7,j0,h8,a9⟩: ∃(p0:Addr) (t0:Sl) (T0:List Dir),((!Option.isNone ol)=true→ol=some p0)∧((!Option.isNone ol)=true→ldc w3 p0 [t0.v])∧((!Option.isNone ol)=true→SlR dirE w3 S0 t0 T0)∧(((!Option.isNone ol)=true∧old=some T0)∨((!Option.isNone ol)=false∧old=none)):=by
  rcases g2.ok with⟨rfl,h⟩|⟨ao,T,so,rfl,h2,h3,h4⟩
  ·exact⟨⟨0,0,none⟩,Sl.nil,[],nO,nO,nO,.inr ⟨rfl,h⟩⟩
  ·exact⟨ao,so,T,λ_=>rfl,λ_=>h3.ext b0,λ_=>h4.ext b0,.inl ⟨rfl,h2⟩⟩
 refine⟨p0,i7,t0,j0,gCall.named λJ hJ=>?_⟩
 have d6: ∀(e6:Int) (c7:World),Ext w3 c7→((!Option.isNone ol)=true→e6=Znv T0)→J e6 c7:=by
  subst hJ
  intro e6 c7 b1 d8
  have x0:=b0.trans b1
  refine⟨λhc=>?_,λhc=>?_⟩
  ·have e2: ¬Zrx old:=λhO=>by
    rcases a9 with⟨h1,h2⟩|⟨h1,h2⟩
    ·rw[h1,d8 h1,Zkf (hO T0 h2)]at hc; cases hc
    ·rw[h1]at hc; cases hc
   exact stw0.intro (c4.ext b1) sI λw4 b4 _ e1=>⟨Sl.nil,e1.ldc.pre (r:=[]) rfl,hR 42 [] Sl.nil w4 (b4.ext x0 oM) (.tree b7 e2) (SlR.nil trivial)⟩
  have hO:Zrx old:=λT hT=>by
   rcases a9 with⟨h1,h2⟩|⟨h1,h2⟩
   ·rw[h1,d8 h1]at hc
    rw[h2]at hT
    cases hT
    exact Zo8.1 (by simpa using hc)
   ·rw[h2]at hT; cases hT
  clear hc d8
  refine⟨u,ha.at0 (r:=[]) (x2.trans (x3.trans b1)) rfl,l1,l2,D,M,b2.at0 (r:=[]) (x3.trans b1) rfl,?_⟩
  refine newS.ownL (E:=dirE) (f:=λ_=> [Sl.nil.v,.string ⟨#[]⟩,.int .i64 0,.int .i64 0,.int .i64 0,Sl.nil.v,Sl.nil.v,Sl.nil.v,.int .i64 0]) (l:=[⟨[],Zx,0⟩]) (λx hx w S=>by rw[ci.1 hx]; exact Zjv) rfl sI λa6 w4 x4 o4 i0=>newS.intro λa5 w5 x5 f8 i1 k4=>⟨u,ha.at0 (r:=[]) (x2.trans (x3.trans (b1.trans (x4.trans x5)))) rfl,?_⟩
  have e9:=b1.trans (x4.trans x5)
  have j5:=b0.trans e9
  have m6:=b1.size; have s4:=x4.size; have s5:=x5.size
  have l3:=c4.lt
  have l9:=ha.lt
  have m1:=f8.lt
  have m0:a6.block<w4.heap.size:=(o4.block rfl).2.1
  have l0:=d2.lt
  refine loop1.up hg.max (λi w'=>∃(ps:Sl) (Q:Nat→Prop),Ext w w'∧w5.heap.size≤w'.heap.size∧(∀b,b<w5.heap.size→b≠a5.block→w'.heap[b]? =w5.heap[b]?)∧BoxAt w' a5 (PC.c ⟨u,ps,l1,l2,D,M,ol,⟨some a6,1,1⟩,Sl.nil⟩)∧OwnS packE 53 w' w5.heap.size Q ps ((Zcm L G).take i)∧ ∀b,Q b→w5.heap.size≤b)
   ⟨Sl.nil,None',j5,df _,λ_ _ _=>rfl,f8,OwnS.zero w5,λ_ h=>h.elim⟩ λi w6 m3 hi ⟨ps,Q,a4,s6,e3,c5,o6,e0⟩ i6=>⟨λi5=>?_,λl5=>?_⟩
  ·have b6:i<G.length:=oM
   obtain⟨ad,ct,es,a0,l8,_,_,i4⟩:=Zed (hg.ext a4) b6
   have j1:=Zn2 (L:=L) b6
   have l7:=o6.len
   have d5:((Zcm L G).take i).length=i:=by rw[cd,Ze6]; omega
   refine⟨ad,⟨a0,oM,i5⟩,_,_,_,_,ct,es,by rw[bw]; exact i4 _ xR,newS.set rfl λk7 w7 x7 f9 _=>newS.intro λh6 w8 x8 b3 i2 _=>join.named λJ2 f1=>?_⟩
   have c8:=x7.trans x8
   have m7:=c8.size
   have s7:=x7.size
   have key: ∀(w9:World) (n:ByteArray) (v:Ver) (d e o:Sl) (pk:Pack) (Q':Nat→Prop),Ext w6 w9→BoxAt w9 h6 [.string n,.int .i64 v.ma,.int .i64 v.mi,.int .i64 v.pa,d.v,e.v,o.v]→packE.rep w9 Q' pk [.string n,.int .i64 v.ma,.int .i64 v.mi,.int .i64 v.pa,d.v,e.v,o.v]→(∀b,Q' b→w6.heap.size≤b∧b<w9.heap.size)→pk=(if i=0 then Zx else getD L G[i].name G[i].v)→J2 w9:=by
    subst f1
    intro w9 n v d e o pk Q' f0 i3 g4 c3 i9
    refine bnd.drew λe7 e8=>⟨ps,c5.at1 (k:=1) (f0.trans e8) rfl,n,v.ma,v.mi,v.pa,d,e,o,i3.at0 (r:=[]) e8 rfl,newS.intro λk8 m9 j7 f5 _ _=> ?_⟩
    have b9:=e8.trans j7
    have a7:=f0.trans b9
    have k5:=a7.size
    have m8:=f0.size
    have k6:=b9.size
    refine(o6.ext a7).push Zs1 oM (x:=pk) (S':=Q') (packE.keep g4 (b9.keep _)) (f5.ldc.pre (r:=[]) rfl) (λb hb=>by have:=c3 b hb; omega) (λad a0 hb=>by have:=(o6.block a0).2.1; have:=c3 _ hb; omega) (by rw[d5]; show _*112≤room; unfold room; omega) (by rw[d5,Zd]; omega) λr g7 j3 a8 e4 e5=>?_
    have m4:=Below.size a8
    have c6: ∀ad,ps.a=some ad→ad.block≠a5.block:=λad a0=>by have:=(o6.block a0).1; omega
    have f6:BoxAt g7 a5 (PC.c ⟨u,ps,l1,l2,D,M,ol,⟨some a6,1,1⟩,Sl.nil⟩):=(c5.ext a7).keep (S:=λb=>∀ad,ps.a=some ad→b≠ad.block) (λad a0 e=>c6 ad a0 e.symm) λb hb hl=>e4 b hl hb
    refine stw.intro (old:=PC.c ⟨u,ps,l1,l2,D,M,ol,⟨some a6,1,1⟩,Sl.nil⟩) f6 (o:=1) (by show 1+1≤9; omega) λj4 c2 k3 f7=>?_
    have g5: ∀ad,r.a=some ad→ad.block≠a5.block:=λad a0=>by
     rcases e5 ad a0 with q|q
     ·exact c6 ad q
     ·omega
    have m5:=c2.1
    have g8:Ext w g7:=(a4.trans a7).trans' (a8.mono oM)
    refine i6 b6 j4 ⟨r,λb=>Q b∨Q' b,c2.ext g8 oM,oM,λb hb d1=>?_,f7,?_,λb hb=>?_⟩
    ·rw[c2.2.2.2.2 b oM d1,a8.block b hb,a7.block oM,e3 b hb d1]
    ·rw[j1,←i9]
     exact j3.but c2 (λhb=>by
      rcases hb with hb|hb
      ·have:=e0 _ hb; omega
      ·have:=c3 _ hb; omega) λad a0=>Ne.symm (g5 ad a0)
    ·rcases hb with hb|hb
     ·exact e0 b hb
     ·have:=c3 b hb; omega
   clear f1
   refine⟨λh0=>?_,λh0=>?_⟩
   ·have d7: ¬i=0:=oM
    refine⟨_,f9.at0 x8 rfl,_,_,_,f9.at1 (k:=1) x8 rfl,?_⟩
    refine SE.Zaq.go (Zke (n:=G[i].name) (v:=G[i].v) (d2.ext (a4.trans c8)) λd e o w9 x9 hN hd he ho=>⟨_,_,_,_,d,e,o,_,rfl,?_⟩)
    have m2:=b3.lt
    have s9:=x9.size
    refine stw0.intro (b3.ext x9) sI λe7 c1 k0 f4=>?_
    have g9:Ext w6 e7:=c1.ext (c8.trans x9) oM
    refine key e7 _ (getD L G[i].name G[i].v).v d e o (getD L G[i].name G[i].v) (λb=>w8.heap.size≤b∧b<w9.heap.size) g9 f4 ⟨hN,d,e,o,rfl,hd.dep.but c1 oM,he.dep.but c1 oM,ho.dep.but c1 oM⟩ (λb hb=>⟨oM,oM⟩) (by rw[if_neg d7])
   ·have d7:i=0:=oM
    exact key w8 ⟨#[]⟩ ⟨0,0,0⟩ Sl.nil Sl.nil Sl.nil Zx None' c8 b3 Zzz (λ_ h=>h.elim) (by rw[if_pos d7])
  ·have b6:i=G.length:=oM
   subst b6
   have hP:(Zcm L G).take G.length=Zcm L G:=dg (by rw[Ze6]; exact df _)
   rw[hP]at o6
   have d9:=Ze6 L G
   have hz:0<G.length→(Zcm L G)[0]? =some Zx:=λh=>by rw[Zpp h,if_pos rfl]
   have g6:=o6.read (by rw[d9]; show _*112≤room; unfold room; omega) (by rw[d9,Zd]; omega)
   have j2:Keep (λb=>b<w5.heap.size∧b≠a5.block) w5 w6:=λb hb _=>e3 b hb.1 hb.2
   have d3:OldR w6 S0 old ol:=g2.ext a4
   have d4: ∀ad,ps.a=some ad→w5.heap.size≤ad.block∧ad.block<w6.heap.size:=λad a0=>⟨(o6.block a0).1,(o6.block a0).2.1⟩
   have oD:OwnS dirE 69 w6 w.heap.size None' ⟨some a6,1,1⟩ [⟨[],Zx,0⟩]:=by
    have h1:=o4.ext x5
    refine OwnS.low (lo:=c7.heap.size) (h1.keep s6 λb hb hq=>?_) (by have:=x0.size; omega)
    rcases hq with hq|⟨ad,a0,rfl⟩
    ·exact hq.elim
    ·cases a0
     exact e3 _ hb oM
   have g0: ∀{b:Addr} {cs:List Value},BoxAt w5 b cs→b.block≠a5.block→BoxAt w6 b cs:=λ{b cs} h c6=>h.keep (S:=λb=>b<w5.heap.size∧b≠a5.block) ⟨h.lt,c6⟩ j2
   have h9:=g0 (ha.ext (x2.trans (x3.trans e9))) oM
   have d0:=g0 (c4.ext e9) oM
   have eD:pl0.dirs.map (dirOf (Zcm L G))= [⟨[],Zx,0⟩]:=Zyl λh=>hz oM
   have f2: ∀b,S0 b→b<w6.heap.size:=λb hb=>by have:=hS b hb; have:=a4.size; omega
   have g3:PlV Zlq w6 a5 (λb=>b<w6.heap.size) ⟨u,ps,l1,l2,D,M,ol,⟨some a6,1,1⟩,Sl.nil⟩ G (Zcm L G) old pl0:=by
    refine⟨c5,(hg.ext a4).mono f2,g6.mono λb hb=>?_,?_,SlR.nil trivial,d3.mono f2,λb hb=>hb⟩
    ·rcases hb with hb|⟨ad,a0,rfl⟩
     ·exact o6.lt b hb
     ·exact(d4 ad a0).2
    ·have:=oD.read (by show 1*144≤room; unfold room; decide) (by rw[Zd]; decide)
     show SlR dirE w6 _ _ (pl0.dirs.map (dirOf (Zcm L G)))
     rw[eD]
     refine this.mono λb hb=>?_
     rcases hb with hb|⟨ad,a0,rfl⟩
     ·exact hb.elim
     ·cases a0; omega
   refine SE.Zeo.go (Z8a (ht.ext a4) g3 d9 hz λb w7 x7 g1=>⟨b,rfl,λhq=>?_,λhq=>?_⟩)
   ·have j6:=a4.trans x7
    exact stw0.intro (d0.ext x7) sI λw8 b8 _ b3=>⟨Sl.nil,b3.ldc.pre (r:=[]) rfl,hR 33 [] Sl.nil w8 (b8.ext j6 oM) (.graph b7 hO λhp=>by rw[g1.2 hp]at hq; cases hq) (SlR.nil trivial)⟩
   ·have h7:PlaceOk G (Zcm L G):=g1.1 (by simpa using hq)
    have s7:=x7.size
    have c9: ∀b,S0 b→b<w.heap.size∨(w5.heap.size≤b∧b<w6.heap.size):=λb hb=>.inl (hS b hb)
    have h0:MlV Zlq 122 w7 w.heap.size a5 (λb=>b<w.heap.size∨(w5.heap.size≤b∧b<w6.heap.size)) ⟨u,ps,l1,l2,D,M,ol,⟨some a6,1,1⟩,Sl.nil⟩ G (Zcm L G) old pl0:=by
     refine⟨c5.ext x7,oM,(hg.ext (a4.trans x7)).mono c9,(g6.ext x7).mono λb hb=>.inr ?_,(d3.ext x7).mono c9,λb hb=>by have:=a4.size; omega,oM,⟨None',?_,(λh=>h),(λ_ h=>by cases h),(λ_ h=>h.elim)⟩,OwnS.nil _ _,λad a0=>?_,(λad a0=>by cases a0),(λ_ _ _ h=>by cases h)⟩
     ·rcases hb with hb|⟨ad,a0,rfl⟩
      ·exact⟨e0 b hb,o6.lt b hb⟩
      ·exact d4 ad a0
     ·show OwnS dirE _ w7 _ _ _ (pl0.dirs.map (dirOf (Zcm L G)))
      rw[eD]; exact oD.ext x7
     ·cases a0; exact⟨oM,oM⟩
    exact Zwi (c0:=⟨u,ps,l1,l2,D,M,ol,⟨some a6,1,1⟩,Sl.nil⟩) h0 h7 b7 hO (h9.ext x7) oM (d0.ext x7) oM oM (λad a0=>(by cases a0; omega)) (λad a0=>(by cases a0)) oM (a4.trans x7) hR
 refine⟨λb5=>?_,λb5=>d6 0 w3 xR λh=>by rw[b5]at h; cases h⟩
 refine SE.Zfv.go (Zu8 (ht.ext b0) (h8 b5) (λd hd=>?_) λw4 x4=>⟨_,rfl,d6 _ w4 x4 λ_=>rfl⟩)
 rcases a9 with⟨_,h2⟩|⟨h1,_⟩
 ·exact hb T0 h2 d hd
 ·rw[h1]at b5; cases b5
theorem Z13{p:Addr}{c0:RC}{old:Option (List Dir)}{R:Sl→Int→World→Prop}{w0:World}(h0:RMl w0 w.heap.size p S c0 G P old pl0)(b1:PlaceOk G P)(j0:LimP c0.l3 c0.l4)(hO:Zrx old)
  (ha:BoxAt w0 a [c0.u.v]) (o8:a.block<a3.block) (h5:BoxAt w0 a3 [Sl.nil.v]) (p0:a3.block<p.block) (hw:w.heap.size≤a.block) (f4: ∀ad,c0.dr.a=some ad→a3.block<ad.block) (j6: ∀ad,c0.st.a=some ad→a3.block<ad.block) (k6: ¬S a3.block) (x0:Ext w w0)
  (hR: ∀c T t w',Ext w w'→PlaceR G P old c0.l3 c0.l4 c T→SlR dirE w' (λb=>b<w'.heap.size) t T→R t c w'):
  loop1 0 w0 λa8 c3 j8=>∃(g1:Sl),(ldc c3 (p.add 8) [(Sl.v g1)])∧((a8<(g1.len:Int)→bnd c3.drew λ(b5:World)=>∃(g2:Sl),(ldc b5 a [(Sl.v g2)])∧ ∃(g3:Sl),(ldc b5 (p.add 8) [(Sl.v g3)])∧ ∃(ad:Addr),(g3.a=some ad∧(0:Int)≤a8∧a8<(g3.len:Int))∧ ∃(d9:Int),(ldc b5 ((ad.add (a8.toNat*9)).add 8) [(Value.int .i64 d9)])∧ ∃(e0:Addr),(g2.a=some e0∧(0:Int)≤d9∧d9<(g2.len:Int))∧ ∃(d3:Sl),(ldc b5 ((e0.add (d9.toNat*6)).add 5) [(Sl.v d3)])∧loop1 1 b5 λkind e8 f9=>((kind≤3→loop1 0 e8 λvk d4 g0=>((vk<(d3.len:Int)→ ∃(e1:Addr),(d3.a=some e1∧(0:Int)≤vk∧vk<(d3.len:Int))∧ ∃(a5:ByteArray) (b4:Int),(ldc d4 (e1.add (vk.toNat*2)) [(Value.string a5),(Value.int .i64 b4)])∧callS prog 57 [(Value.pointer (some p)),(Value.int .i64 a8),(Value.agg #[(Value.string a5),(Value.int .i64 b4)]),(Value.int .i64 kind)] d4 λn5 e9=>∃(c2:Int),n5=(Value.int .i64 c2)∧((¬c2=0→stw e9 a3 [(Sl.v Sl.nil)] λf0=>∃(a9:Sl),ldc f0 a3 [(Sl.v a9)]∧R a9 c2 f0)∧(¬(¬c2=0)→g0 (Za (vk+1)) e9)))∧(¬(vk<(d3.len:Int))→f9 (Za (kind+1)) d4)))∧(¬(kind≤3)→j8 (Za (a8+1)) e8)))∧(¬(a8<(g1.len:Int))→ ∃(a6:Sl),(ldc c3 (p.add 8) [(Sl.v a6)])∧callS prog 58 [(Value.agg #[(Sl.v a6)])] c3 λn7 k0=>∃(a7:Sl),n7=(Value.agg #[(Sl.v a7)])∧stw k0 a3 [(Sl.v a7)] λf1=>∃(b0:Sl),ldc f1 a3 [(Sl.v b0)]∧R b0 0 f1)):=by
 have hg:=b1.grPl
 obtain⟨g4,g5,g8,g9⟩:=j0
 have o6:=b1.len
 have l9:=h0.lo_le
 have n8:=h0.box.lt
 generalize hI:plI G P old c0.l3 c0.l4=I
 have c6:I.g=G:=by rw[←hI]; rfl
 have o7:I.maxD=c0.l3:=by rw[←hI]; rfl
 have i2:GrPl I.g:=by rw[c6]; exact hg
 have keep: ∀{c w'},RMv w.heap.size p c0 w0 c w'→Ext w w'∧BoxAt w' a [c0.u.v]∧BoxAt w' a3 [Sl.nil.v]∧c.u=c0.u∧c.l3=c0.l3∧c.l4=c0.l4:=λ{c w'} m=>by
  refine⟨x0.trans' m.bel,m.box ha oM (λad h=>by have:=f4 ad h; omega) λad h=>by have:=j6 ad h; omega,m.box h5 oM (λad h=>by have:=f4 ad h; omega) λad h=>by have:=j6 ad h; omega,?_,?_,?_⟩<;>rw[m.same]
 have fin: ∀{c w' d5 code T t},RMv w.heap.size p c0 w0 c w'→Ext w' d5→PlaceR G P old c0.l3 c0.l4 code T→SlR dirE d5 (λb=>b<d5.heap.size∧b≠a3.block) t T→stw d5 a3 [Sl.v t] λb6=>∃r:Sl,ldc b6 a3 [Sl.v r]∧R r code b6:=λ{c w' d5 code T t} m x hP ht=>by
  obtain⟨k1,_,k2,_⟩:=keep m
  exact stw0.intro (k2.ext x) sI λw3 b3 q5 k9=>⟨t,k9.ldc.pre (r:=[]) rfl,hR code T t w3 (b3.ext (k1.trans x) oM) hP ((ht.but b3 λh=>h.2 rfl).mono λb hb=>by have:=hb.1; have:=b3.1; omega)⟩
 refine loop1.ghost (λn a8 w1=>∃(a0:Nat) (c:RC) (s:PlS),a8=(a0:Int)∧n=400 - a0∧RMl w1 w.heap.size p S c G P old s∧RMv w.heap.size p c0 w0 c w1∧PInv G s a0∧(∀u∈s.done,u.src<a0)∧Zo1 I s∧s.done.length≤a0*128∧a0≤s.dirs.length∧ ∀code t,DirsR I a0 s code t→DirsR I 0 pl0 code t) 400
  ⟨0,c0,pl0,rfl,rfl,h0,RMv.of xR l9,PInv.start hg.pos,(λu hu=>by cases hu),Z6y oM,df _,eh _,λ_ _ h=>h⟩ λn a8 w1 j8 ⟨a0,c,s,hv,hn,h1,m1,g6,j5,j4,n9,o9,f5⟩ m3=>?_
 subst hv
 have p9:s.dirs.length≤257:=by have:=j4.2; omega
 have e7:=h1.read oM ⟨by unfold room; omega,by rw[Zd]; omega⟩
 have p2:c.dr.len=s.dirs.length:=e7.dlen
 refine⟨c.dr,h1.box.at1 (k:=8) xR rfl,λp5=>bnd.drew λw2 x2=>?_,λi3=>?_⟩
 ·have b7:a0<s.dirs.length:=oM
  obtain⟨nd,d1⟩: ∃nd,nd=nodeAt s.dirs a0:=⟨_,rfl⟩
  have e5:nd<G.length:=by
   rw[d1,Zd1 (bq b7)]
   exact g6.node _ (cj b7)
  have f8:G[nd]? =some G[nd]:=bq e5
  have d6:Z1 I.g nd=G[nd].edges:=by rw[c6]; exact Zhn f8
  have l5:G[nd].edges.length≤128:=by
   have:=b1.edges_le nd
   rw[Zhn f8]at this
   omega
  have p7:(Zge I.g nd).length≤128:=by rw[Zrc,d6]; exact l5
  obtain⟨k4,ct,es,m9,_,_,d7,i9⟩:=Zed h1.g e5
  have o0:=d7.len
  have q0:=h1.g.len
  obtain⟨_,n0,_,ku,_,_⟩:=keep m1
  obtain⟨ad,_,k8,l8,_,_,h9⟩:=e7.at_ b7
  rw[←d1]at h9
  refine⟨c0.u,n0.at0 (r:=[]) x2 rfl,c.dr,h1.box.at1 (k:=8) x2 rfl,ad,⟨k8,l8⟩,(nd:Int),by rw[bw]; exact h9 _ x2,k4,⟨by rw[←ku]; exact m9,oM,by rw[←ku]; omega⟩,es,by rw[bw]; exact(i9 _ x2).mid (k:=5) (r:=[]) rfl,?_⟩
  have h1:=h1.ext x2
  have m1:=m1.trans (RMv.of x2 (by have:=m1.size; omega))
  have d7:=d7.ext x2
  have stop: ∀{c' w' s' code t e r},RMv w.heap.size p c0 w0 c' w'→Turn I a0 nd s (e::r) s'→EdgeR I s' a0 e (kindE I.g nd e) code t→code≠0→stw w' a3 [Sl.v Sl.nil] λb6=>∃r:Sl,ldc b6 a3 [Sl.v r]∧R r code b6:=λ{c' w' s' code t e r} m ht hE hc=>
   fin m xR (.stop ⟨g4,g5,g8,g9⟩ hO b1 (by
    rw[hI]
    exact f5 code t (.stop b7 (by rw[←d1]; exact ht.stop hE hc) hc)) hc) (SlR.nil trivial)
  refine loop1.ghost (λn kind w3=>∃(k:Nat) (c':RC) (s':PlS),kind=(k:Int)∧1≤k∧k≤4∧n=4 - k∧RMl w3 w.heap.size p S c' G P old s'∧RMv w.heap.size p c0 w0 c' w3∧SlR edgeE w3 S es G[nd].edges∧Turn I a0 nd s (if k≤3 then Zku I.g nd k 0 else []) s') 3
   ⟨1,c,s,rfl,df _,oM,rfl,h1,m1,d7,Turn.start i2 (by rw[c6]; exact g6) j4 j5⟩ λn2 kind w3 o3 ⟨k,c',s',hk,p3,p4,p6,h2,m2,i1,b2⟩ j3=>?_
  subst hk
  refine⟨λf6=>?_,λf6=>?_⟩
  ·have i4:k≤3:=oM
   rw[if_pos i4]at b2
   refine loop1.up (N:=G[nd].edges.length) (by rw[Zd]; omega) (λj w4=>∃(c4:RC) (s4:PlS),RMl w4 w.heap.size p S c4 G P old s4∧RMv w.heap.size p c0 w0 c4 w4∧SlR edgeE w4 S es G[nd].edges∧Turn I a0 nd s (Zku I.g nd k j) s4)
    ⟨c',s',h2,m2,i1,b2⟩ λj w4 j9 hj ⟨c4,s4,h4,m4,b9,a4⟩ e6=>⟨λj1=>?_,λo1=>?_⟩
   ·have c8:j<G[nd].edges.length:=oM
    obtain⟨k3,h6,j7,i7⟩:=Zhx b9 c8
    have e3:G[nd].edges[j]∈Z1 G nd:=by rw[Zhn f8]; exact cj c8
    have i3:=hg.edge e3
    have e4:=b1.edgeAt e3
    obtain⟨e2,j2⟩:=a4.node b7
    have p8:=a4.small.2
    have p1:=a4.cnt
    have d0:j<(Z1 I.g nd).length:=by rw[d6]; exact c8
    have l6:(Z1 I.g nd)[j]=G[nd].edges[j]:=by simp only[d6]
    have d2:=Zrj (g:=I.g) (nd:=nd) (k:=k) d0
    have c1:=Zus (g:=I.g) (nd:=nd) (k:=k) d0
    rw[l6]at d2 c1
    have g7: ∀(w5:World) (c5:RC) (s5:PlS),RMl w5 w.heap.size p S c5 G P old s5→RMv w.heap.size p c0 w0 c5 w5→SlR edgeE w5 S es G[nd].edges→Turn I a0 nd s (Zku I.g nd k (j+1)) s5→j9 (Za ((j:Int)+1)) w5:=λw5 c5 s5 q1 q2 q3 q4=>e6 c8 w5 ⟨c5,s5,q1,q2,q3,q4⟩
    clear e6
    generalize G[nd].edges[j]=e at*
    obtain⟨_,_,_,_,n3,n4⟩:=keep m4
    have d8:kindE G (nodeAt s4.dirs a0) e=kindE I.g nd e:=by rw[j2,←d1,c6]
    have f7:kindE I.g nd e=k→NewL s4 a0 e.name:=λb8=>by
     rw[c1 b8]at a4
     exact a4.new e (.head _)
    refine⟨k3,⟨h6,oM,j1⟩,e.name,e.to,by rw[bw]; exact i7 _ xR,?_⟩
    refine SE.Zb7.go (Z8l (k:=k) (D:=c0.l3) (M:=c0.l4) h4 (by have:=a4.inv; rw[c6]at this; exact this) e2 (λh=>f7 (d8.symm.trans h)) j7 i3 b1.packs e4.1 (Z9w b1) e4.2 oM oM oM n3 n4 (λm0 w7 x7=>⟨0,rfl,λhc=>absurd rfl hc,λ_=> ?_⟩) λi6 c7 w7 code s7 hE h7 m7=>⟨code,rfl,λhc=>?_,λhc=>?_⟩)
    ·refine g7 w7 c4 s4 (h4.ext x7) (m4.trans (RMv.of x7 h4.lo_le)) (b9.ext x7) ?_
     rw[←d2 (λh=>m0 (d8.trans h))]; exact a4
    ·have b8:kindE I.g nd e=k:=d8.symm.trans i6
     rw[c1 b8]at a4
     rw[hI,←b8]at hE
     exact stop (m4.trans m7) a4 hE hc
    ·have b8:kindE I.g nd e=k:=d8.symm.trans i6
     rw[c1 b8]at a4
     have hc:=fj.1 hc
     subst hc
     rw[hI,←b8]at hE
     exact g7 w7 c7 s7 h7 (m4.trans m7) (b9.keep (h4.mv m7)) (a4.step i2 e2 hE)
   ·have c8:j=G[nd].edges.length:=oM
    refine j3 (4 - (k+1)) _ w4 oM ⟨k+1,c4,s4,?_,oM,oM,rfl,h4,m4,b9,?_⟩
    ·rw[Zc oM oM]; omega
    ·have d0:(Z1 I.g nd).length≤j:=by rw[d6,c8]; exact df _
     by_cases f6:k=3
     ·subst f6
      rw[Zrh d0]at a4
      rw[if_neg oM]; exact a4
     ·rw[Zri d0 oM]at a4
      rw[if_pos oM]; exact a4
  ·have i5: ¬k≤3:=oM
   rw[if_neg i5]at b2
   obtain⟨h8,_⟩:=b2.node b7
   have l0:=b2.cnt
   have i0:=b2.done
   rw[d1]at i0
   have c9:=b2.inv
   rw[c6]at c9
   simp only[fa,jt]at l0
   refine m3 (400 - (a0+1)) _ w3 oM ⟨a0+1,c',s',?_,rfl,h2,m2,c9.next,λu hu=>by have:=(c9.src u hu).1; omega,b2.small,oM,h8,λcode t ht=>f5 code t (.next b7 i0 ht)⟩
   rw[Zc oM oM]; omega
 ·have f2:DirsR I 0 pl0 0 s:=f5 0 s (.fin oM)
  obtain⟨D,o,o4,o5,k5⟩:=h1.dr
  obtain⟨kx,kb,n1,_,_,_⟩:=keep m1
  have ho:=o.read (by rw[cm]; show _*144≤room; unfold room; omega) (by rw[cm,Zd]; omega)
  have o2:=n1.lt
  refine⟨c.dr,h1.box.at1 (k:=8) xR rfl,?_⟩
  refine SE.Zc1.go (Zup (S:=λb=>b<w1.heap.size∧b≠a3.block) (ho.mono λb hb=>?_) (λb hb=>hb.1) (by rw[cm]; omega) λt T' w2 x2 hp m6 k7=>⟨t,rfl,?_⟩)
  ·rcases hb with hb|⟨ad,h3,rfl⟩
   ·refine⟨o.lt b hb,λe=>?_⟩
    rcases k5 _ hb with q|q
    ·exact k6 (e▸q)
    ·omega
   ·refine⟨(o.block h3).2.1,λe=>?_⟩
    rcases m1.dr ad h3 with q|q
    ·have:=f4 ad q; omega
    ·have:=h5.lt; omega
  ·have m8:SortedD s.dirs (T'.map drOf):=by
    refine⟨?_,?_⟩
    ·have:=hp.map drOf
     rwa [Zk8]at this
    ·rw[fy]; exact m6
   have l7:(T'.map drOf).map (dirOf P)=T':=by
    rw[gc]
    conv=>rhs; rw[←List.map_id T']
    refine jo λx hx=>?_
    obtain⟨b,_,rfl⟩:=fh.1 (hp.mem_iff.1 hx)
    show dirOf P (drOf (dirOf P b))=_
    rw[Zm9]; rfl
   have m5:PlaceR G P old c0.l3 c0.l4 0 T':=by
    have:=PlaceR.ok (old:=old) (D:=c0.l3) (M:=c0.l4) ⟨g4,g5,g8,g9⟩ hO b1 (by rw[hI]; exact f2) m8
    rwa [l7]at this
   exact fin m1 x2 m5 (k7.mono λb hb=>⟨hb.1,λe=>hb.2.elim (λh=>h.2 e) λh=>by omega⟩)
theorem Z14{ps so:Sl}{lk:Bool}{old:Option (List Dir)}{l1 l2 M:Int}{S0:Nat→Prop}{R:Sl→Int→World→Prop}(hS:Old S0 w)(hg:SlR nodeE w S0 u G)(hp:SlR packE w S0 ps P)(ho:OldS w S0 old so lk)
  (hR: ∀c T t w',Ext w w'→PlaceR G P old D M c T→SlR dirE w' (λb=>b<w'.heap.size) t T→R t c w'):SE.Zen u ps l1 l2 D M so lk w R:=by
 unfold SE.Zen
 refine newS.intro λa w1 x1 ha d7 _=>newS.intro λa1 w2 x2 a6 d2 _=>newS.intro λa3 w3 x3 c1 d3 _=>newS.intro λa5 w4 x4 a7 d4 _=> ?_
 have b1:=x2.trans (x3.trans x4)
 have b0:=x3.trans x4
 have a4:=x1.trans b1
 have s1:=x1.size; have s2:=x2.size; have s3:=x3.size; have s4:=x4.size
 refine⟨D,a6.at1 (k:=2) b0 rfl,bound ⟨D,λ_=>a6.at1 (k:=2) b0 rfl,bound ⟨M,λ_=>a6.at1 (k:=3) (r:=[]) b0 rfl,bound ⟨M,λ_=>a6.at1 (k:=3) (r:=[]) b0 rfl,λhc=>?_,λhc=>join.named λJ hJ=>?_⟩⟩⟩⟩
 ·have c9: ¬LimP D M:=λ⟨h1,h2,h3,h4⟩=>by
   rw[decide_eq_false oM,decide_eq_false oM,decide_eq_false oM,decide_eq_false oM]at hc
   cases hc
  exact stw0.intro a7 sI λw5 b5 _ c8=>⟨Sl.nil,c8.ldc.pre (r:=[]) rfl,hR 1 [] Sl.nil w5 (b5.ext a4 oM) (.arg c9) (SlR.nil trivial)⟩
 have a8:LimP D M:=by
  simp only[dx,decide_eq_false_iff_not]at hc
  obtain⟨⟨⟨h2,h3⟩,h4⟩,h5⟩:=hc
  exact⟨oM,oM,oM,oM⟩
 clear hc
 have b2: ∀w5,Ext w4 w5→Zrx old→J w5:=by
  subst hJ
  intro w5 x5 hO
  have c3:=a4.trans x5
  have s5:=x5.size
  refine⟨u,ha.at0 (r:=[]) (b1.trans x5) rfl,SE.Zem.go (Z8k (hg.ext c3) (hp.ext c3) λb w6 x6 hb=>⟨b,rfl,λhf=>?_,λhf=>?_⟩)⟩
  ·have a0:=x5.trans x6
   exact stw0.intro (a7.ext a0) sI λw7 b7 _ b6=>⟨Sl.nil,b6.ldc.pre (r:=[]) rfl,hR 33 [] Sl.nil w7 (b7.ext (a4.trans a0) oM) (.graph a8 hO λhF=>by rw[hb.2 hF]at hf; cases hf) (SlR.nil trivial)⟩
  ·have b8:PlaceOk G P:=hb.1 (by simpa using hf)
   have a0:=x5.trans x6
   have d1:=a4.trans a0
   have s6:=x6.size
   refine⟨u,ha.at0 (r:=[]) (b1.trans a0) rfl,l1,l2,D,M,a6.at0 (r:=[]) (b0.trans a0) rfl,so,c1.at0 (r:=[]) (x4.trans a0) rfl,?_⟩
   refine newS.ownL (E:=dirE) (f:=λ_=> [Sl.nil.v,.string ⟨#[]⟩,.int .i64 0,.int .i64 0,.int .i64 0,Sl.nil.v,Sl.nil.v,Sl.nil.v,.int .i64 0]) (l:=[⟨[],Zx,0⟩]) (λx hx w S=>by rw[ci.1 hx]; exact Zjv) rfl sI λb3 w7 x7 o7 b4=>newS.intro λc6 w8 x8 c2 c7 d5=>?_
   have c5:=x7.trans x8
   have a9:=d1.trans c5
   have c4:=a0.trans c5
   have s7:=x7.size; have s8:=x8.size
   have d9:b3.block<w7.heap.size:=(o7.block rfl).2.1
   have d6:w6.heap.size≤b3.block:=by rw[b4]; exact df _
   have l5:=a7.lt; have d8:=ha.lt
   have e0:=c2.lt
   have o8:=o7.ext x8
   refine Z13 (w:=w) (w0:=w8) (a:=a) (a3:=a5) (p:=c6) (S:=S0) (c0:=⟨u,ps,l1,l2,D,M,so,lk,⟨some b3,1,1⟩,Sl.nil⟩) (P:=P) (old:=old) ⟨c2,oM,hg.ext a9,hp.ext a9,ho.ext a9,hS.ext a9.size,λh=>by have:=hS _ h; omega,⟨None',?_,λh=>h,(λad h=>by cases h),λb h=>h.elim⟩,?_,λad h=>?_,(λad h=>by cases h),(λ_ _ _ h=>by cases h)⟩ b8 a8 hO (ha.ext (b1.trans c4)) oM (a7.ext c4) oM oM (λad h=>?_) (λad h=>by cases h) (λh=>by have:=hS _ h; omega) a9 hR
   ·have:(pl0.dirs.map (dirOf P))= [⟨[],Zx,0⟩]:=by
     show [dirOf P ⟨[],0⟩]=_
     unfold dirOf
     have h0:P.getD 0 Zx=Zx:=by rw[iq,b8.zero]; rfl
     rw[h0]; rfl
    rw[this]
    exact o8.low oM
   ·exact OwnS.nil _ _
   ·cases h
    exact⟨oM,λh=>by have:=hS _ h; omega⟩
   ·cases h; omega
 clear hJ
 refine⟨λhl=>?_,λhl=>b2 w4 xR λT hT=>?_⟩
 ·obtain⟨T,hT,d0⟩: ∃T,old=some T∧SlR dirE w S0 so T:=by
   cases old with
   |none=>have:lk=false:=ho; rw[this]at hl; cases hl
   |some T=>exact⟨T,rfl,ho.2⟩
  refine⟨so,c1.at0 (r:=[]) x4 rfl,SE.Zdf.go (Zwp (d0.ext a4) λw5 x5=>⟨_,rfl,λhc=>?_,λhc=>b2 w5 x5 λT' b9=>?_⟩)⟩
  ·exact stw0.intro (a7.ext x5) sI λw7 b7 _ b6=>⟨Sl.nil,b6.ldc.pre (r:=[]) rfl,hR 42 [] Sl.nil w7 (b7.ext (a4.trans x5) (by have:=x5.size; omega)) (.tree a8 λhO=>hc (Zkf (hO T hT))) (SlR.nil trivial)⟩
  ·rw[hT]at b9
   cases b9
   exact Zo8.1 (fj.1 hc)
 ·subst hT
  have:=ho.1
  rw[hl]at this; cases this
def packC(x:Pack)(d e o:Sl):List Value:=[.string x.name,.int .i64 x.v.ma,.int .i64 x.v.mi,.int .i64 x.v.pa,d.v,e.v,o.v]
theorem Z15{q:Addr}{R:Sl→World→Prop}(hg:SlR nodeE w S u G)(a0:RefR w SC q L)(hG:G.length≤1000000000)
  (hR: ∀t w',Ext w w'→SlR packE w' (λb=>b<w'.heap.size) t (Zcm L G)→R t w'):SE.Zdi u (some q) w R:=by
 unfold SE.Zdi
 have e2:=hg.len
 have eb:packE.bytes=112:=rfl
 have d2:(λb=>SC b∨SC b)=SC:=funext λb=>propext ⟨λh=>h.elim id id,.inl⟩
 refine newS.intro λa w1 x1 c7 e0 _=> ?_
 refine loop2.up (N:=G.length) (by rw[Zd]; omega) (λout i w'=>Ext w1 w'∧OwnS packE 53 w' w1.heap.size SC out ((Zcm L G).take i)) ⟨Ext.refl _,(OwnS.zero (E:=packE) (T:=53) w1).mono (λ_ h=>h.elim) (a0.old.ext x1.size) (λad h=>by cases h)⟩ λout i w2 e8 hi ⟨x2,o2⟩ hn=>⟨u,(c7.ext x2).ldc.pre (r:=[]) rfl,λc8=>newS.set rfl λa2 w3 x3 b2 d6=>join.named λJ hJ=>?_,λe1=>?_⟩
 ·have b0:i<G.length:=oM
  have d1:=x1.trans x2
  have c9:((Zcm L G).take i).length=i:=by rw[cd,Ze6]; omega
  have e9:=d1.size
  have b5: ∀(x:Pack) (d e o:Sl) w5,Ext w2 w5→w5.heap.size>a2.block→OwnS packE 53 w5 w1.heap.size SC out ((Zcm L G).take i)→BoxAt w5 a2 (packC x d e o)→Str x.name→SlR depE w5 SC d x.deps→SlR depE w5 SC e x.peers→SlR depE w5 SC o x.opt→x=(if i=0 then Zx else getD L G[i].name G[i].v)→J w5:=by
   subst hJ
   intro x d e o w5 x5 e5 o5 a8 a7 hd he ho hx
   refine⟨_,_,_,_,d,e,o,a8.ldc.pre (r:=[]) rfl,newS.intro λa6 w6 x6 a9 _ _=> ?_⟩
   have c1:=(x2.trans x5).trans x6
   have d5:=x1.trans c1
   have s1:=x1.size
   refine(o5.ext x6).push Zs1 c1.size (x:=x) (S':=SC) ⟨a7,d,e,o,rfl,hd.ext x6,he.ext x6,ho.ext x6⟩ (a9.ldc.pre (r:=[]) rfl) (a0.old.ext d5.size) (λad b8 hb=>by have:=(o5.block b8).1; have:=a0.old _ hb; omega) (by rw[eb,c9]; unfold room; omega) (by rw[c9,Zd]; omega) λr w7 o7 bel _ _=> ?_
   rw[d2]at o7
   refine hn b0 r w7 ⟨c1.trans' bel,?_⟩
   rw[Zn2 b0,←hx]; exact o7
  clear hJ hn
  refine⟨λd9=>join.named λJ2 c5=>bnd.drew λw4 x4=>?_,λhz=>?_⟩
  ·have b9:i≠0:=oM
   have c2:=x3.trans x4
   obtain⟨c4,cg,eg,c6,e4,_,_,b4⟩:=Zed hg b0
   have l3:=b2.lt; have s4:=x4.size; have s3:=x3.size
   have b3: ∀(qa:Addr) (d e o:Sl) w5,Ext w4 w5→qa.block≠a2.block→BoxAt w5 qa (packC (getD L G[i].name G[i].v) d e o)→Str (getD L G[i].name G[i].v).name→SlR depE w5 SC d (getD L G[i].name G[i].v).deps→SlR depE w5 SC e (getD L G[i].name G[i].v).peers→SlR depE w5 SC o (getD L G[i].name G[i].v).opt→J2 qa w5:=by
    subst c5
    intro qa d e o w5 x5 e3 a8 a7 hd he ho
    refine⟨_,_,_,_,d,e,o,a8.ldc.pre (r:=[]) rfl,stw0.intro (b2.ext (x4.trans x5)) sI λw6 b6 e6 a9=>?_⟩
    have c3:=c2.trans x5
    have s5:=c3.size
    have a4: ¬SC a2.block:=λh=>by have:=a0.old _ h; omega
    have d4: ∀ad,out.a=some ad→a2.block≠ad.block:=λad h=>by have:=(o2.block h).2.1; omega
    exact b5 _ d e o w6 (b6.ext c3 oM) (by have:=x5.size; omega) ((o2.ext c3).but b6 a4 d4) a9 a7 (hd.but b6 a4) (he.but b6 a4) (ho.but b6 a4) (by rw[if_neg b9])
   clear c5 b5
   have b1:=d1.trans c2
   have d0:ldc w4 a [Sl.v u]:=(c7.ext (x2.trans c2)).ldc.pre (r:=[]) rfl
   refine⟨u,d0,c4,⟨c6,oM,c8⟩,G[i].name,by rw[bw]; exact(b4 _ b1).pre rfl,u,d0,c4,⟨c6,oM,c8⟩,G[i].v.ma,G[i].v.mi,G[i].v.pa,by rw[bw]; exact(b4 _ b1).mid (k:=1) rfl,?_,?_⟩
   ·refine SE.Zak.go (Zpu (a0.ext b1) λd e o w5 x5 a7 hd he ho=>⟨_,_,_,_,d,e,o,_,rfl,newS.set rfl λa6 w6 x6 a9 d8=>?_⟩)
    have s5:=x5.size
    exact b3 a6 d e o w6 (x5.trans x6) oM a9 a7 (hd.ext x6) (he.ext x6) (ho.ext x6)
   ·refine newS.intro λa5 w5 x5 a8 d7 _=>SE.Zak.go (Zpu (a0.ext (b1.trans x5)) λd e o w6 x6 a7 hd he ho=>⟨_,_,_,_,d,e,o,_,rfl,stw0.intro (a8.ext x6) sI λw7 b7 e7 d3=>?_⟩)
    have s5:=x5.size; have s6:=x6.size; have l5:=a8.lt; have f0:=b1.size
    have a4: ¬SC a5.block:=λh=>by have:=a0.old _ h; omega
    exact b3 a5 d e o w7 (b7.ext (x5.trans x6) oM) oM d3 a7 (hd.but b7 a4) (he.but b7 a4) (ho.but b7 a4)
  ·have b9:i=0:=oM
   exact b5 Zx Sl.nil Sl.nil Sl.nil w3 x3 b2.lt (o2.ext x3) b2 (by unfold Str Zx; rw[Zd]; decide) (SlR.nil trivial) (SlR.nil trivial) (SlR.nil trivial) (by rw[if_pos b9])
 ·have b0:i=G.length:=oM
  subst b0
  rw[dg (by rw[Ze6]; exact df _)]at o2
  refine hR out w2 (x1.trans x2) ((o2.read (by rw[eb,Ze6]; unfold room; omega) (by rw[Ze6,Zd]; omega)).mono λb hb=>?_)
  rcases hb with hb|⟨ad,b8,rfl⟩
  ·have:=a0.old _ hb; have:=(x1.trans x2).size; omega
  ·exact(o2.block b8).2.1
theorem Zrl{T:List Dir}(hs:SlR dirE w S s T)(ht:SlR dirE w S t T)(hR: ∀w',Ext w w'→R true w'):SE.Zch s t w R:=by
 unfold SE.Zch
 have d4:=hs.len; have d5:=ht.len
 refine newS.intro λa w1 x1 a8 _ _=>newS.intro λa1 w2 x2 a9 _ _=>loop1.up hs.max (λ_ w'=>Ext w2 w') xR λi w3 d6 hi x3 hn=>⟨s,a8.at0 (r:=[]) (x2.trans x3) rfl,λb9=>?_,λd2=>hR w3 ((x1.trans x2).trans x3)⟩
 have b7:i<T.length:=oM
 refine loop2.up ht.max (λ(f:Bool) k w'=>Ext w2 w'∧(i<k→f=true)) ⟨x3,λh=>by omega⟩ λf k w4 d1 hk ⟨x4,hf⟩ c5=>⟨t,a9.at0 (r:=[]) x4 rfl,λa7=>bnd.drew λw5 x5=>?_,λd0=>?_⟩
 ·have b8:k<T.length:=oM
  have a5:=x4.trans x5
  have a4:=(x1.trans x2).trans a5
  obtain⟨b1,pi,di,ei,oi,b3,_,_,c8,c1,c3,c6,b5⟩:=dirEl hs b7
  obtain⟨b2,pk,dk,ek,ok,b4,_,_,c9,c2,c4,c7,b6⟩:=dirEl ht b8
  have b0:i=k→T[i]=T[k]:=λh=>by subst h; rfl
  refine⟨s,a8.at0 (r:=[]) (x2.trans a5) rfl,b1,⟨b3,oM,b9⟩,pi,by rw[bw]; exact(b5 _ a4).pre rfl,t,a9.at0 (r:=[]) a5 rfl,b2,⟨b4,oM,a7⟩,pk,by rw[bw]; exact(b6 _ a4).pre rfl,?_⟩
  refine SE.Zcg.go (r12Path_se (c8.ext a4) (c9.ext a4) λw6 x6=>⟨_,rfl,bnd.drew λw7 x7=>?_⟩)
  have a6:=a5.trans (x6.trans x7)
  have a0:=(x1.trans x2).trans a6
  generalize T[i]=u at*
  generalize T[k]=v at*
  refine⟨s,a8.at0 (r:=[]) (x2.trans a6) rfl,b1,⟨b3,oM,b9⟩,u.pack.name,u.pack.v.ma,u.pack.v.mi,u.pack.v.pa,di,ei,oi,by rw[bw]; exact(b5 _ a0).mid (k:=1) rfl,t,a9.at0 (r:=[]) a6 rfl,b2,⟨b4,oM,a7⟩,v.pack.name,v.pack.v.ma,v.pack.v.mi,v.pack.v.pa,dk,ek,ok,by rw[bw]; exact(b6 _ a0).mid (k:=1) rfl,?_⟩
  refine SE.Zbx.go (Zlb (p:=u.pack) (q:=v.pack) (c1.ext a0) (c3.ext a0) (c6.ext a0) (c2.ext a0) (c4.ext a0) (c7.ext a0) λw8 x8=>⟨_,rfl,c5 b8 _ w8 ⟨a6.trans x8,λd3=>?_⟩⟩)
  by_cases h:i<k
  ·rw[hf h]; rfl
  ·have e:=b0 oM
   subst e
   simp
 ·rw[hf oM]
  exact⟨nO,λ_=>hn b7 w4 x4⟩
theorem Zw4{T:List Dir}(hs:SlR dirE w S s T)(ht:SlR dirE w S t T)(hR: ∀w',Ext w w'→R true w'):SE.Zdy s t w R:=by
 unfold SE.Zdy
 refine newS.intro λa w1 x1 a5 _ _=>newS.intro λa1 w2 x2 a6 _ _=>⟨s,a5.at0 (r:=[]) x2 rfl,t,a6.at0 (r:=[]) xR rfl,?_⟩
 have a0:=x1.trans x2
 refine SE.Zch.go (Zrl (hs.ext a0) (ht.ext a0) λw3 x3=>⟨_,rfl,t,λ_=>a6.at0 (r:=[]) x3 rfl,s,λ_=>a5.at0 (r:=[]) (x2.trans x3) rfl,?_⟩)
 have a4:=a0.trans x3
 refine gCall.intro true (λ_ k hk=>SE.Zch.go (Zrl (ht.ext a4) (hs.ext a4) λw4 x4=>⟨_,rfl,hk w4 x4⟩)) λb w4 x4 hb=>?_
 rw[hb rfl]
 exact hR w4 (a4.trans x4)
theorem Z50{T:List Dir}{Q:Nat→Prop}(hs:SlR dirE w S s T)(ht:SlR dirE w Q t T)(hR: ∀w',Ext w w'→R true w'):SE.Zdb s t w R:=by
 unfold SE.Zdb
 have c1:=hs.len; have c2:=ht.len
 refine newS.intro λa w1 x1 a5 _ _=>newS.intro λa1 w2 x2 a6 _ _=>⟨s,a5.at0 (r:=[]) x2 rfl,t,a6.at0 (r:=[]) xR rfl,λb6=>absurd oM b6,λ_=> ?_⟩
 refine loop1.up hs.max (λ_ w'=>Ext w2 w') xR λi w3 c3 hi x3 hn=>⟨s,a5.at0 (r:=[]) (x2.trans x3) rfl,λb5=>bnd.drew λw4 x4=>?_,λb9=>?_⟩
 ·have a7:i<T.length:=oM
  have a4:=x3.trans x4
  have a0:=(x1.trans x2).trans a4
  obtain⟨a9,pi,_,_,_,b1,_,_,b7,_,_,_,b3⟩:=dirEl hs a7
  obtain⟨b0,pk,_,_,_,b2,_,_,b8,_,_,_,b4⟩:=dirEl ht a7
  refine⟨s,a5.at0 (r:=[]) (x2.trans a4) rfl,a9,⟨b1,oM,b5⟩,T[i].node,by rw[bw]; exact(b3 _ a0).mid (k:=8) (r:=[]) rfl,t,a6.at0 (r:=[]) a4 rfl,b0,⟨b2,oM,oM⟩,T[i].node,by rw[bw]; exact(b4 _ a0).mid (k:=8) (r:=[]) rfl,bound ?_⟩
  have e:(!(T[i].node==T[i].node))=false:=by rw[beq_self_eq_true]; rfl
  rw[e]
  refine⟨s,λ_=>a5.at0 (r:=[]) (x2.trans a4) rfl,a9,λ_=>⟨b1,oM,b5⟩,pi,λ_=>by rw[bw]; exact(b3 _ a0).pre rfl,t,λ_=>a6.at0 (r:=[]) a4 rfl,b0,λ_=>⟨b2,oM,oM⟩,pk,λ_=>by rw[bw]; exact(b4 _ a0).pre rfl,?_⟩
  refine gCall.intro true (λ_ k hk=>SE.Zcg.go (r12Path_se (b7.ext a0) (b8.ext a0) λw5 x5=>⟨_,rfl,?_⟩)) λb w5 x5 hb=>?_
  ·rw[decide_eq_true rfl]; exact hk w5 x5
  ·rw[hb rfl]
   exact⟨nO,λ_=>hn a7 w5 (a4.trans x5)⟩
 ·have a8:=(x1.trans x2).trans x3
  refine⟨s,a5.at0 (r:=[]) (x2.trans x3) rfl,t,a6.at0 (r:=[]) x3 rfl,SE.Zdy.go (Zw4 (S:=λb=>S b∨Q b) ((hs.ext a8).mono λ_=> .inl) ((ht.ext a8).mono λ_=> .inr) λw4 x4=>⟨_,rfl,hR w4 (a8.trans x4)⟩)⟩
def Tu(b:Nat)(A B:World):Prop:=A.grownBy B (some b)
def Zz2(ks:List Nat)(A B:World):Prop:=∀k∈ks,B.heap[k]? =A.heap[k]?
def wideR(r:Option Nat):Fence:={Fence.wide with round:=r}
theorem Tu.put(W:World)(l:Nat)(o:Obj):Tu l W (W.putObj l o):=grownBy_putObj' W l o
theorem Tu.alloc(W:World)(b:Nat)(o:Obj):Tu b W (W.alloc o):=World.grownBy_alloc W o _
theorem Tu.at{b k:Nat}{B:World}{o:Obj}(h:Tu b A B)(hk:A.heap[k]? =some o)(a0:k≠b):B.heap[k]? =some o:=(World.grownBy.block h k (de.1 hk).1 (by simpa using a0)).trans hk
def SeqB{α:Type}(n:Nat)(P:Program)(gf:Nat)(lb:Array Value)(enc:α→Value)(zs:List α)(bs:Nat)(ks:List Nat)(w0:World):Prop:=
 ∀(l:Nat) (J:Nat→World→Prop) (Jx:World→Prop) (W:World),Zz2 ks w0 W→(∀k A B,J k A→Tu bs A B→J k B)→(∀A B,Jx A→Tu bs A B→Jx B)→
  (∀k (h:k<zs.length) W1,J k W1→YieldAt Fence.wide (n - 1) P l #[enc zs[k]] W1 λe W'=>
   (e= .returned (.bool true)∧J (k+1) W'∧Zz2 ks W1 W')∨(e= .returned (.bool false)∧Jx W'))→
  J 0 W→CallsIn Fence.wide n P gf (#[.func (.yield l) #[] #[]]++lb) W λe W'=>(∃v,e= .returned v)∧(J zs.length W'∨Jx W')
def postB(l:Nat)(ks:List Nat)(I:Nat→World→Prop)(Ix:Code→World→Prop)(k:Nat)(W:World):Exit→Act→World→Prop
 | .normal,_,W'=>W'.heap[l]? =W.heap[l]? ∧Zz2 ks W W'∧I k W'
 | .ret,_,W'=>W'.heap[l]? =W.heap[l]? ∧Ix .ret W'
 | .exit id,_,W'=>W'.heap[l]? =W.heap[l]? ∧Ix (.exit id) W'
 |_,_,_=>False
theorem Z6x{α:Type}{P:Program}{g:Operand}{ps:Array Tmp}{assign body:Code}{Q:Exit→Act→World→Prop}{a:Act}{w₀:World}{r₀:Option Nat}{mark:List Deferred}{D:Nat}
  (he: ∀fn,(Instr.enterLoop fn a.tmps ps assign body r₀).run P w= .ok (w₀.heap.size,mark) (w₀.alloc (.loop {state:=.ready,pending:=none,fn,tmps:=a.tmps,params:=ps,assign,body,defers:=D})))
  {gf:Nat} {lb:Array Value} (hg:a.eval g= .func (.func gf) #[] lb) (eg: ∀args w,(callFunc gf args).run P w= .ok (.enter gf args) w)
  {enc:α→Value} {zs:List α} {bs:Nat} {ks:List Nat} (b9:SeqB (n - 1) P gf lb enc zs bs ks w₀) (c3:ps.size=1)
  (c5:bs<w₀.heap.size) (b5: ∀k∈ks,k<w₀.heap.size)
  (I:Nat→World→Prop) (Ix:Code→World→Prop) (hI: ∀k A B b,(b=bs∨b=w₀.heap.size)→I k A→Tu b A B→I k B) (a9: ∀c A B b,(b=bs∨b=w₀.heap.size)→Ix c A→Tu b A B→Ix c B)
  (h0:I 0 w₀) (a₁:α→Act)
  (a6: ∀(x:α) (W:World) (K:Act→World→Prop),K (a₁ x) W→
   assign.wpIn (Fence.wide.inRound w₀.heap.size) (n - 1 - 1) P (Exit.then K (λ_ _ _=>False)) {tmps:=(ps.zip #[enc x]).foldl (λt (p,v)=>t.setIfInBounds p v) a.tmps,defers:=[]} W)
  (b2: ∀k (h:k<zs.length) (W:World),(∃r:Loop,W.heap[w₀.heap.size]? =some (.loop r)∧r.defers=D)→I k W→
   body.wpIn (Fence.wide.inRound w₀.heap.size) (n - 1 - 1) P (postB w₀.heap.size ks I Ix (k+1) W) (a₁ zs[k]) W)
  (b3: ∀W,I zs.length W→Q .normal {a with defers:=mark++a.defers} W)
  (b4: ∀c W,Ix c W→c.wpIn (wideR r₀) n P Q {a with defers:=mark++a.defers} W):
  (Code.rangeFunc g ps assign body).wpIn (wideR r₀) n P Q a w:=by
 refine wpIn_rangeFunc λfn c6=>?_
 generalize hl:w₀.heap.size=l at*
 obtain⟨a5,a0⟩: ∃a5:LoopState→Option Code→Loop,a5=λst pe=>{state:=st,pending:=pe,fn,tmps:=a.tmps,params:=ps,assign,body,defers:=D}:=⟨_,rfl⟩
 obtain⟨W1,b0⟩: ∃W1,w₀.alloc (.loop (a5 .ready none))=W1:=⟨_,rfl⟩
 have c1:W1.heap[l]? =some (.loop (a5 .ready none)):=by rw[←b0,←hl]; exact World.alloc_heap_new w₀ _
 refine⟨l,mark,W1,{target:=.fn (.func gf) lb,args:=#[.func (.yield l) #[] #[]]},W1,gf,#[.func (.yield l) #[] #[]]++lb,W1,?_,?_,λ_ _=>trivial,?_,nO,?_⟩
 ·rw[←b0,a0]; exact he fn
 ·simp only[resolve,hg]
  simp[go_sem]
 ·simp[invoke,go_sem,eg]
 have b8:l≠bs:=oM
 refine CallsIn.mono (b9 l (λk W=>I k W∧W.heap[l]? =some (.loop (a5 .ready none))) (λW=>∃c,Ix c W∧W.heap[l]? =some (.loop (a5 .done (some c)))) W1 ?_ ?_ ?_ ?_ ⟨?_,c1⟩) ?_
 ·intro k hk
  rw[←b0]; exact Below.heap_alloc _ _ _ (by rw[hl]; exact b5 k hk)
 ·exact λk A B ⟨h1,h2⟩ ht=>⟨hI k A B bs (.inl rfl) h1 ht,ht.at h2 b8⟩
 ·exact λA B ⟨c,h1,h2⟩ ht=>⟨c,a9 c A B bs (.inl rfl) h1 ht,ht.at h2 b8⟩
 ·rintro k hk W ⟨hi,hL⟩
  have hy:=run_yield (P:=P) (args:=#[enc zs[k]]) hL (by rw[a0]; exact c3.symm)
  rw[a0]at hy
  refine⟨fn,_,assign,body,hy,roundIn_of_wpIn trivial (a6 _ W _ ⟨_,run_beginRound hL (by rw[a0]),?_⟩)⟩
  have c2:=(de.1 hL).1
  have b6:(W.putObj l (.loop {a5 .ready none with state:=.busy})).heap[l]? =some (.loop {a5 .ready none with state:=.busy}):=World.putObj_heap_same c2
  refine wpIn_mono (b2 k hk _ ⟨_,b6,by rw[a0]⟩ (hI k _ _ l (.inr rfl) hi (Tu.put W l _))) ?_
  have fin: ∀(a4:Option Code) (W3:World),W3.heap[l]? =(W.putObj l (.loop {a5 .ready none with state:=.busy})).heap[l]? →
    (Instr.endRound l a4).run P W3= .ok (.bool a4.isNone) (W3.putObj l (.loop (a5 (if a4.isNone then .ready else .done) a4)))∧
    (W3.putObj l (.loop (a5 (if a4.isNone then .ready else .done) a4))).heap[l]? =some (.loop (a5 (if a4.isNone then .ready else .done) a4)):=λa4 W3 h3=>by
   have b7:=h3.trans b6
   have:=run_endRound (P:=P) a4 b7
   rw[a0]at this ⊢
   exact⟨this,World.putObj_heap_same (de.1 b7).1⟩
  have b1: ∀k∈ks,k≠l:=λk hk=>Nat.ne_of_lt (b5 k hk)
  rintro e a3 W3 hp
  cases e with
  |normal=>
   obtain⟨h3,c4,a7⟩:=hp
   obtain⟨hr,a8⟩:=fin none W3 h3
   exact⟨_,_,hr,.inl ⟨rfl,⟨hI _ _ _ l (.inr rfl) a7 (Tu.put _ _ _),a8⟩,λj hj=>by
    rw[World.putObj_heap_other (b1 j hj),c4 j hj,World.putObj_heap_other (b1 j hj)]⟩⟩
  |ret=>
   obtain⟨h3,a7⟩:=hp
   obtain⟨hr,a8⟩:=fin (some .ret) W3 h3
   exact⟨_,_,hr,.inr ⟨rfl,.ret,a9 _ _ _ l (.inr rfl) a7 (Tu.put _ _ _),a8⟩⟩
  |exit id=>
   obtain⟨h3,a7⟩:=hp
   obtain⟨hr,a8⟩:=fin (some (.exit id)) W3 h3
   exact⟨_,_,hr,.inr ⟨rfl,.exit id,a9 _ _ _ l (.inr rfl) a7 (Tu.put _ _ _),a8⟩⟩
  |goto t=>exact hp.elim
  |panic ch=>exact hp.elim
  |outgrown=>exact hp.elim
 ·rw[←b0]; exact hI 0 _ _ l (.inr rfl) h0 (Tu.alloc _ _ _)
 ·rintro e W2 ⟨⟨v,rfl⟩,(⟨hi,hL⟩|⟨c,hi,hL⟩)⟩
  ·exact⟨none,_,by have:=run_endLoop (P:=P) hL (by rw[a0]; simp); rw[a0]at this; exact this,b3 _ (hI _ _ _ l (.inr rfl) hi (Tu.put _ _ _))⟩
  ·exact⟨some c,_,by have:=run_endLoop (P:=P) hL (by rw[a0]; simp); rw[a0]at this; exact this,b4 c _ (a9 c _ _ l (.inr rfl) hi (Tu.put _ _ _))⟩
theorem Z4f{P:Program}(tmps:Array Value)(ps:Array Tmp)(assign body:Code)(fn:FuncId):(Instr.enterLoop fn tmps ps assign body none).run P w=
  .ok ((w.alloc (.deferred (some []))).heap.size,[{target:=.collected w.heap.size,args:=#[]}]) ((w.alloc (.deferred (some []))).alloc (.loop {state:=.ready,pending:=none,fn,tmps,params:=ps,assign,body,defers:=w.heap.size})):=by
 rw[World.size_alloc]; exact run_enterLoop_outer _ _ _ _ _
end Go.Hal
/-
 DERIVED:THE SHELF's CONTRACTS AT THIS DUMP,IN PLAIN WORDS (tools/lay-plain.mjs out of 'YtfilbiaaeecoaaaGreatDoorLay9.lean',which tools/lay-shelf.mjs wrote):THE SAME DECLARATIONS UNDER THE SAME NAMES:'import','namespace','open','def','theorem' AND NOTHING ELSE:no command of the shelf's:FOR A HAND-IN. Each laying:the table of numbers ('.._ren') and one theorem,a field a fact of the dump's own or the kernel's comparison; each contract:ONE APPLICATION.
-/
namespace Go.Proofs
def Tryz.layIx_ren:Go.Shelf.Ren:=⟨λ|143=>332|219=>351|217=>347|225=>323|224=>322|267=>368|266=>367|314=>389|n=>n,λ|9=>9|3=>3|4=>4|5=>5|46=>125|146=>430|51=>187|n=>n,λ|1=>0|n=>n⟩
theorem Tryz.layIx:Go.Proofs.Lays.n143 prog Tryz.layIx_ren:={
 mixed:=kR
 f143:=func332.trans kS
 f217:=func347.trans kS
 f219:=func351.trans kS
 f224:=func322.trans kS
 f225:=func323.trans kS
 f266:=func367.trans kS
 f267:=func368.trans kS
 f314:=func389.trans kS
 t3:=underlying3
 a3:=Tryz.isAgg3
 z3:=Tryz.sizeOf3
 v3:=Tryz.zeroValue3
 t4:=underlying4
 a4:=Tryz.isAgg4
 z4:=Tryz.sizeOf4
 v4:=Tryz.zeroValue4
 t5:=underlying5
 a5:=Tryz.isAgg5
 z5:=Tryz.sizeOf5
 v5:=Tryz.zeroValue5
 t9:=underlying9
 a9:=Tryz.isAgg9
 z9:=Tryz.sizeOf9
 v9:=Tryz.zeroValue9
 t46:=underlying125
 a46:=Tryz.isAgg125
 z46:=Tryz.sizeOf125
 v46:=Tryz.zeroValue125
 t51:=underlying187
 a51:=Tryz.isAgg187
 z51:=Tryz.sizeOf187
 v51:=Tryz.zeroValue187
 t146:=underlying430
 a146:=Tryz.isAgg430
 z146:=Tryz.sizeOf430
 v146:=Tryz.zeroValue430
 g1:=by kernel_rfl}
def Tryz.laySS_ren:Go.Shelf.Ren:=⟨λ|146=>333|221=>352|268=>369|138=>370|143=>332|195=>390|197=>222|218=>391|219=>351|260=>279|217=>347|225=>323|224=>322|267=>368|266=>367|314=>389|n=>n,λ|9=>9|31=>67|3=>3|4=>4|0=>0|105=>304|21=>21|5=>5|46=>125|119=>383|139=>386|138=>385|146=>430|51=>187|n=>n,λ|1=>0|3=>1|4=>2|n=>n⟩
theorem Tryz.laySS:Go.Proofs.Lays.n146 prog Tryz.laySS_ren:={
 mixed:=kR
 f138:=func370.trans kS
 f143:=func332.trans kS
 f146:=func333.trans kS
 f195:=func390.trans kS
 f197:=func222.trans kS
 f217:=func347.trans kS
 f218:=func391.trans kS
 f219:=func351.trans kS
 f221:=func352.trans kS
 f224:=func322.trans kS
 f225:=func323.trans kS
 f260:=func279.trans kS
 f266:=func367.trans kS
 f267:=func368.trans kS
 f268:=func369.trans kS
 f314:=func389.trans kS
 t0:=underlying0
 a0:=Tryz.isAgg0
 z0:=Tryz.sizeOf0
 v0:=Tryz.zeroValue0
 t3:=underlying3
 a3:=Tryz.isAgg3
 z3:=Tryz.sizeOf3
 v3:=Tryz.zeroValue3
 t4:=underlying4
 a4:=Tryz.isAgg4
 z4:=Tryz.sizeOf4
 v4:=Tryz.zeroValue4
 t5:=underlying5
 a5:=Tryz.isAgg5
 z5:=Tryz.sizeOf5
 v5:=Tryz.zeroValue5
 t9:=underlying9
 a9:=Tryz.isAgg9
 z9:=Tryz.sizeOf9
 v9:=Tryz.zeroValue9
 t21:=underlying21
 a21:=Tryz.isAgg21
 z21:=Tryz.sizeOf21
 v21:=Tryz.zeroValue21
 t31:=underlying67
 a31:=Tryz.isAgg67
 z31:=Tryz.sizeOf67
 v31:=Tryz.zeroValue67
 t46:=underlying125
 a46:=Tryz.isAgg125
 z46:=Tryz.sizeOf125
 v46:=Tryz.zeroValue125
 t51:=underlying187
 a51:=Tryz.isAgg187
 z51:=Tryz.sizeOf187
 v51:=Tryz.zeroValue187
 t105:=underlying304
 a105:=Tryz.isAgg304
 z105:=Tryz.sizeOf304
 v105:=Tryz.zeroValue304
 t119:=underlying383
 a119:=Tryz.isAgg383
 z119:=Tryz.sizeOf383
 t138:=underlying385
 a138:=Tryz.isAgg385
 z138:=Tryz.sizeOf385
 v138:=Tryz.zeroValue385
 t139:=underlying386
 a139:=Tryz.isAgg386
 z139:=Tryz.sizeOf386
 v139:=Tryz.zeroValue386
 t146:=underlying430
 a146:=Tryz.isAgg430
 z146:=Tryz.sizeOf430
 v146:=Tryz.zeroValue430
 g1:=kR
 g3:=kR
 g4:=by kernel_rfl}
def Tryz.layAt_ren:Go.Shelf.Ren:=⟨λ|172=>334|244=>353|245=>354|247=>371|279=>372|280=>373|281=>374|282=>375|287=>392|316=>393|171=>130|205=>394|321=>399|322=>400|243=>190|246=>234|283=>283|284=>284|285=>285|286=>286|129=>105|317=>325|318=>326|319=>327|320=>328|337=>349|338=>350|n=>n,λ|9=>9|3=>3|75=>132|76=>133|4=>4|5=>5|167=>417|37=>127|0=>0|85=>418|2=>2|168=>420|53=>189|175=>433|46=>125|210=>437|127=>190|145=>445|143=>443|21=>21|171=>354|173=>356|212=>390|51=>187|20=>20|213=>391|232=>414|233=>415|80=>135|n=>n,λ|15=>6|16=>7|17=>3|18=>4|19=>5|n=>n⟩
theorem Tryz.layAt:Go.Proofs.LaysC.n172 prog Tryz.layAt_ren:={
 mixed:=kR
 f129:=func105.trans kS
 f171:=func130.trans kS
 f172:=func334.trans kS
 f205:=func394.trans kS
 f243:=func190.trans kS
 f244:=func353.trans kS
 f245:=func354.trans kS
 f246:=func234.trans kS
 f247:=func371.trans kS
 f279:=func372.trans kS
 f280:=func373.trans kS
 f281:=func374.trans kS
 f282:=func375.trans kS
 f283:=func283.trans kS
 f284:=func284.trans kS
 f285:=func285.trans kS
 f286:=func286.trans kS
 f287:=func392.trans kS
 f316:=func393.trans kS
 f317:=func325.trans kS
 f318:=func326.trans kS
 f319:=func327.trans kS
 f320:=func328.trans kS
 f321:=func399.trans kS
 f322:=func400.trans kS
 f337:=func349.trans kS
 f338:=func350.trans kS
 t0:=underlying0
 a0:=Tryz.isAgg0
 z0:=Tryz.sizeOf0
 v0:=Tryz.zeroValue0
 t2:=underlying2
 a2:=Tryz.isAgg2
 z2:=Tryz.sizeOf2
 v2:=Tryz.zeroValue2
 t3:=underlying3
 a3:=Tryz.isAgg3
 z3:=Tryz.sizeOf3
 v3:=Tryz.zeroValue3
 t4:=underlying4
 a4:=Tryz.isAgg4
 z4:=Tryz.sizeOf4
 v4:=Tryz.zeroValue4
 t5:=underlying5
 a5:=Tryz.isAgg5
 z5:=Tryz.sizeOf5
 v5:=Tryz.zeroValue5
 t9:=underlying9
 a9:=Tryz.isAgg9
 z9:=Tryz.sizeOf9
 v9:=Tryz.zeroValue9
 t20:=underlying20
 a20:=Tryz.isAgg20
 z20:=Tryz.sizeOf20
 v20:=Tryz.zeroValue20
 t21:=underlying21
 a21:=Tryz.isAgg21
 z21:=Tryz.sizeOf21
 v21:=Tryz.zeroValue21
 t37:=underlying127
 a37:=Tryz.isAgg127
 z37:=Tryz.sizeOf127
 v37:=Tryz.zeroValue127
 t46:=underlying125
 a46:=Tryz.isAgg125
 z46:=Tryz.sizeOf125
 v46:=Tryz.zeroValue125
 t51:=underlying187
 a51:=Tryz.isAgg187
 z51:=Tryz.sizeOf187
 v51:=Tryz.zeroValue187
 t53:=underlying189
 a53:=Tryz.isAgg189
 z53:=Tryz.sizeOf189
 v53:=Tryz.zeroValue189
 t75:=underlying132
 a75:=Tryz.isAgg132
 z75:=Tryz.sizeOf132
 v75:=Tryz.zeroValue132
 t76:=underlying133
 a76:=Tryz.isAgg133
 z76:=Tryz.sizeOf133
 v76:=Tryz.zeroValue133
 t85:=underlying418
 a85:=Tryz.isAgg418
 z85:=Tryz.sizeOf418
 v85:=Tryz.zeroValue418
 t127:=underlying190
 a127:=Tryz.isAgg190
 z127:=Tryz.sizeOf190
 v127:=Tryz.zeroValue190
 t143:=underlying443
 a143:=Tryz.isAgg443
 z143:=Tryz.sizeOf443
 v143:=Tryz.zeroValue443
 t145:=underlying445
 a145:=Tryz.isAgg445
 z145:=Tryz.sizeOf445
 v145:=Tryz.zeroValue445
 t167:=underlying417
 a167:=Tryz.isAgg417
 z167:=Tryz.sizeOf417
 v167:=Tryz.zeroValue417
 t168:=underlying420
 a168:=Tryz.isAgg420
 z168:=Tryz.sizeOf420
 v168:=Tryz.zeroValue420
 t171:=underlying354
 a171:=Tryz.isAgg354
 z171:=Tryz.sizeOf354
 v171:=Tryz.zeroValue354
 t173:=underlying356
 a173:=Tryz.isAgg356
 z173:=Tryz.sizeOf356
 v173:=Tryz.zeroValue356
 t175:=underlying433
 a175:=Tryz.isAgg433
 z175:=Tryz.sizeOf433
 v175:=Tryz.zeroValue433
 t210:=underlying437
 a210:=Tryz.isAgg437
 z210:=Tryz.sizeOf437
 v210:=Tryz.zeroValue437
 t212:=underlying390
 a212:=Tryz.isAgg390
 z212:=Tryz.sizeOf390
 v212:=Tryz.zeroValue390
 t213:=underlying391
 a213:=Tryz.isAgg391
 z213:=Tryz.sizeOf391
 t232:=underlying414
 a232:=Tryz.isAgg414
 z232:=Tryz.sizeOf414
 v232:=Tryz.zeroValue414
 t233:=underlying415
 a233:=Tryz.isAgg415
 z233:=Tryz.sizeOf415
 v233:=Tryz.zeroValue415
 g15:=kR
 g16:=kR
 g17:=kR
 g18:=kR
 g19:=kR
 t80:=underlying135
 a80:=Tryz.isAgg135
 z80:=Tryz.sizeOf135
 v80:=Tryz.zeroValue135
 i0:=kR
 i2:=kR
 i3:=kR
 i4:=kR
 i5:=kR
 i9:=kR
 i20:=kR
 i21:=kR
 i37:=kR
 i46:=kR
 i51:=kR
 i53:=kR
 i75:=kR
 i76:=kR
 i80:=kR
 i85:=kR
 i127:=kR
 i143:=kR
 i145:=kR
 i167:=kR
 i168:=kR
 i171:=kR
 i173:=kR
 i175:=kR
 i210:=kR
 i212:=kR
 i232:=kR
 i233:=kR
 m15:=kR
 m16:=kR
 m17:=kR
 m18:=kR
 m19:=kR
 c0:=kR
 c2:=kR
 c3:=kR
 c4:=kR
 c5:=kR
 c9:=kR
 c20:=kR
 c21:=kR
 c37:=kR
 c46:=kR
 c51:=kR
 c53:=kR
 c75:=kR
 c76:=kR
 c80:=kR
 c85:=kR
 c127:=kR
 c143:=kR
 c145:=kR
 c167:=kR
 c168:=kR
 c171:=kR
 c173:=kR
 c175:=kR
 c210:=kR
 c212:=kR
 c213:=kR
 c232:=kR
 c233:=by kernel_rfl}
end Go.Proofs
namespace Go.Hal
theorem Zp4{sep:ByteArray}(h1:1≤sep.size): ∀(k j:Nat) (s:ByteArray),s.size≤k→s.size≤j→Lib.splitB sep 0 k s=Lib.splitB sep 0 j s
 |k,j,s,hk,hj=>by
  rcases Lib.indexB_cases s sep with a0|⟨i,a0,a4⟩
  ·rw[Lib.splitB_miss _ _ _ _ a0,Lib.splitB_miss _ _ _ _ a0]
  ·match k,j with
   |0,_=>omega
   |k+1,0=>omega
   |k+1,j+1=>
    rw[Lib.splitB_hit _ _ _ _ i a0,Lib.splitB_hit _ _ _ _ i a0,Zp4 h1 k j _ (by rw[ja]; omega) (by rw[ja]; omega)]
termination_by k=>k
def Zcv(sep s:ByteArray):List ByteArray:=Lib.splitB sep 0 s.size s
theorem Zyj{sep s:ByteArray}(h:Lib.indexB s sep= -1):Zcv sep s= [s]:=Lib.splitB_miss _ _ _ _ h
theorem Z0l{sep s:ByteArray}(h1:1≤sep.size)(h:Lib.indexB s sep=i)(hr:i+sep.size≤s.size):Zcv sep s=s.extract 0 i::Zcv sep (s.extract (i+sep.size) s.size):=by
 unfold Zcv
 obtain⟨k,hk⟩: ∃k,s.size=k+1:=⟨s.size - 1,oM⟩
 rw[hk,Lib.splitB_hit _ _ _ _ i h,←hk,jt]
 rw[Zp4 h1 k (s.extract (i+sep.size) s.size).size _ (by rw[ja]; omega) nR]
attribute [local go_sem] Oper.semAt_some
def strvO:Option Value→Nat
 |some (.string s)=>s.size
 |_=>0
def strLen:Option Obj→Nat
 |some (.cells cs _ _)=>strvO cs[0]?
 |_=>0
theorem Boxed.same{B:World}{b:Nat}{t:TypeId}{v:Value}(h:Boxed A b t v)(hs:B.heap[b]? =A.heap[b]?):Boxed B b t v:=hs.trans h
set_option maxRecDepth 100000 in
theorem Zp6(n:Nat)(hn:1≤n)(sep:ByteArray)(h1:1≤sep.size)(bp bs bz:Nat)(b9:bp≠bs)(c5:bz≠bs)(a0:ByteArray)(ht:a0.size≤4096)(m:Int)(gm:bs≠0)(w0:World)
  (hp:Boxed w0 bp 9 (.string sep)) (hs:Boxed w0 bs 9 (.string a0)) (hz:Boxed w0 bz 3 (.int .i64 0)) (hm:w0.cell? ⟨0,0,none⟩=some (.int .i64 m)):
  SeqB n prog 331 #[.pointer (some ⟨bp,0,none⟩),.pointer (some ⟨bs,0,none⟩),.pointer (some ⟨bz,0,none⟩)] Value.string (Zcv sep a0) bs [bp,bs,bz,0] w0:=by
 intro l J Jx W a5 hJ d2 hY h0
 have kp:=Boxed.same hp (a5 bp sI)
 have ks:=Boxed.same hs (a5 bs sI)
 have kz:=Boxed.same hz (a5 bz sI)
 have km:W.cell? ⟨0,0,none⟩=some (.int .i64 m):=(World.cell?_of_block (a5 _ sI)).trans hm
 have d4:((sep.size:Int)==0)=false:=beq_eq_false_iff_ne.2 oM
 have c9:=kp.cell
 clear a5 hp hs hz hm
 refine callsIn_of_wp func331 rfl trivial ?_ rfl
 simp only[Tryz.ntmps331,ia,dq,fa,Nat.reduceAdd,Nat.reduceSub,jl,jk,ju,jp,em,dz]
 gi_wp2
 gi_loopw [] (λwr=>∃(k:Nat) (rest:ByteArray),J k wr∧Boxed wr bp 9 (.string sep)∧Boxed wr bs 9 (.string rest)∧Boxed wr bz 3 (.int .i64 0)∧wr.cell? ⟨0,0,none⟩=some (.int .i64 m)∧rest.size≤4096∧(Zcv sep a0).drop k=Zcv sep rest)
  (λwr=>strLen (wr.heap[bs]?))
 case atStart=>exact⟨0,a0,h0,kp,ks,kz,km,ht,rfl⟩
 case round=>
  obtain⟨k,rest,b6,kp,ks,kz,km,d3,a4⟩:=hrel
  have cp:=kp.cell
  have cs:=ks.cell
  have cz:=kz.cell
  rcases Lib.indexB_cases rest sep with b0|⟨i,b0,b5⟩
  ·have b2:=Zyj b0
   have hk:k+1=(Zcv sep a0).length:=by
    have:=congrArg List.length a4
    rw[b2,dh]at this
    simp only[dq,fa]at this
    omega
   have a6:(Zcv sep a0)[k]=rest:=by
    have:=fq (xs:=Zcv sep a0) (i:=k) (j:=0) (h:=by rw[a4,b2]; simp)
    simp only[a4,b2,List.getElem_cons_zero,jt]at this
    exact this.symm
   obtain⟨fn,tmps,assign,body,hy,hR⟩:=hY k oM wr b6
   rw[a6]at hy
   have HA:Aside (k+1=(Zcv sep a0).length):=hk
   clear hk a4 b2 a6
   gi_wp2_with (refine⟨trivial,?_⟩; gi_at_call 332; refine(callsIn_wide.2 (Any.strings_Index Tryz.layIx rest sep m wr oM km)).mono ?_; rintro e w' ⟨rfl,rfl⟩; rw[show Lib.index rest.data.toList sep.data.toList= -1 from b0])
   refine hR.mono ?_
   rintro e W3 (⟨rfl,b4,b1⟩|⟨rfl,a7⟩)
   ·gi_wp2
    go_end0
    exact⟨⟨_,rfl⟩,.inl (HA.out▸b4)⟩
   ·gi_wp2
    go_end0
    exact⟨⟨_,rfl⟩,.inr a7⟩
  ·have a8:=Z0l h1 b0 b5
   have hk:k<(Zcv sep a0).length:=by
    have:=congrArg List.length a4
    rw[a8,dh]at this
    simp only[dq]at this
    omega
   have a6:(Zcv sep a0)[k]=rest.extract 0 i:=by
    have:=fq (xs:=Zcv sep a0) (i:=k) (j:=0) (h:=by rw[a4,a8]; simp)
    simp only[a4,a8,List.getElem_cons_zero,jt]at this
    exact this.symm
   have a9:(Zcv sep a0).drop (k+1)=Zcv sep (rest.extract (i+sep.size) rest.size):=by
    rw[←gk,a4,a8,List.drop_one,List.tail_cons]
   obtain⟨fn,tmps,assign,body,hy,hR⟩:=hY k hk wr b6
   rw[a6]at hy
   have HA:Aside ((Zcv sep a0).drop (k+1)=Zcv sep (rest.extract (i+sep.size) rest.size)):=a9
   clear hk a4 a8 a6 a9
   have c0: ¬((i:Int)<0):=oM
   have c1:(0:Int)≤ ↑i:=oM
   have c2:(↑i:Int)≤ ↑rest.size:=oM
   have c3:(0:Int)≤ ↑i+ ↑sep.size:=oM
   have c4:(↑i+ ↑sep.size:Int)≤ ↑rest.size:=oM
   have c7:(↑i+ ↑sep.size:Int)≤9223372036854775807:=oM
   gi_wp2_with (refine⟨trivial,?_⟩; gi_at_call 332; refine(callsIn_wide.2 (Any.strings_Index Tryz.layIx rest sep m wr oM km)).mono ?_; rintro e w' ⟨rfl,rfl⟩; rw[show Lib.index rest.data.toList sep.data.toList=i from b0])
   refine hR.mono ?_
   rintro e W3 (⟨rfl,b4,b1⟩|⟨rfl,a7⟩)
   ·have b8:=Boxed.same kp (b1 bp sI)
    have b3:=Boxed.same ks (b1 bs sI)
    have c6:=Boxed.same kz (b1 bz sI)
    have b7:W3.cell? ⟨0,0,none⟩=some (.int .i64 m):=(World.cell?_of_block (b1 _ sI)).trans km
    have d0:=b8.cell
    have d1:=b3.cell
    have c8:=b3.frozen
    gi_wp2
    go_roundw
    case rel=>
     have ht:=grownBy_setCell' W3 bs (.string (rest.extract (i+sep.size) rest.size))
     exact⟨k+1,rest.extract (i+sep.size) rest.size,hJ _ _ _ b4 ht,b8.kept ht (by simpa using b9),b3.set _,c6.kept ht (by simpa using c5),(World.cell?_of_block (ht.block _ (World.block_lt_of_cell? _ _ b7) (by simp; omega))).trans b7,by rw[ja]; omega,HA.out⟩
    case measure=>
     have e1:=ks
     have e2:=b3.set (.string (rest.extract (i+sep.size) rest.size))
     unfold Boxed at e1 e2
     rw[e1,e2]
     show(rest.extract (i+sep.size) rest.size).size<rest.size
     rw[ja]; omega
   ·gi_wp2
    refine bodyPost_ret (results_none rfl _ _ _) rfl ?_
    exact⟨⟨_,rfl⟩,.inr a7⟩
end Go.Hal
namespace Go.Hal
abbrev Rk:=Int×Int
def hasR(n:Int)(l:List Rk):Bool:=l.any λx=>decide (x.1≤n)&&decide (n≤x.2)
def rkIn(l:List Rk):Prop:=∀x∈l,0≤x.1∧x.1≤999999999∧0≤x.2∧x.2≤999999999
def one(a b:Rk):List Rk:=if max a.1 b.1≤min a.2 b.2 then [(max a.1 b.1,min a.2 b.2)]else []
def Zmb:Rk→List Rk→List Rk
 |y,[]=>[y]
 |y,x::r=>if x.1≤y.2+1 then Zmb (y.1,max y.2 x.2) r else y::Zmb x r
def Zoj:List Rk→List Rk
 | []=>[]
 |y::r=>Zmb y r
def Zwv(l:List Rk):Prop:=l.Pairwise λa b=>a.1≤b.1
theorem Zyv(r:List Rk): ∀(y:Rk),(Zmb y r).length≤r.length+1:=by
 induction r with
 |nil=>intro y; exact df _
 |cons x r ih=>
  intro y
  rw[Zmb]
  split
  ·have:=ih (y.1,max y.2 x.2); simp only[dq]; omega
  ·have:=ih x; simp only[dq]; omega
def Zgp(l:List Rk):List Span:=l.map λx=>⟨Zly x.1,Zly x.2⟩
end Go.Hal
namespace Go.Hal
end Go.Hal
namespace Go.Hal
def spB:ByteArray:=ByteArray.mk #[32]
def barB:ByteArray:=ByteArray.mk #[124,124]
end Go.Hal
namespace Go.Proofs
open Go.Maps
attribute [local go_sem] Oper.semAt_some
theorem Zq9:maxLen=9223372036854775807:=rfl
def rkV(x:Int×Int):Value:=.agg #[.int .i64 x.1,.int .i64 x.2]
set_option maxRecDepth 100000 in
theorem Zww(F:Fence)(n:Nat)(hF:F.fn 337)(b1:F.round=none)(hn:1≤n)(l Bs n₀ b off len cap:Nat)(zs:List (Int×Int))(b2:zs.length=len)(a7:len*16≤140737488351232)(hb:b<n₀)(J Jx:List (Int×Int)→World→Prop)
  (hJ: ∀pre W W',J pre W→Below W.heap.size W W'→J pre W')
  (hY: ∀pre x W,J pre W→pre.length<len→YieldAt F (n - 1) prog l #[rkV x] W λe W'=>(e= .returned (.bool true)∧J (pre++ [x]) W'∧Below n₀ W W')∨(e= .returned (.bool false)∧Jx (pre++ [x]) W'))
  (W:World) (b0:n₀≤W.heap.size) (b3:W.cell? ⟨Bs,0,none⟩=some (.slice (some ⟨b,off,none⟩) len cap)) (hc: ∀j (h:j<zs.length),W.cell? ⟨b,off+j*2,none⟩=some (.int .i64 zs[j].1)∧W.cell? ⟨b,off+j*2+1,none⟩=some (.int .i64 zs[j].2)) (h0:J [] W):
  CallsIn F n prog 337 #[.func (.yield l) #[] #[],.pointer (some ⟨Bs,0,none⟩)] W λe W'=>(∃v,e= .returned v)∧((∃ys,ys=zs∧J ys W')∨(∃pre,pre<+:zs∧Jx pre W')):=by
 refine callsIn_of_wp func337 rfl hF ?_ b1
 simp only[Tryz.ntmps337,ia,dq,fa,Nat.reduceAdd,Nat.reduceSub,jl,jk,ju,jp,em,dz]
 gi_wp2
 gi_loopw [7] (λi wr=>∃k:Nat,k≤len∧i= .int .i64 k∧J (zs.take k) wr∧Below n₀ W wr)
  (λi _=>len - (intOf i).toNat)
 case atStart=>exact⟨0,eh _,rfl,h0,Below.refl _ _⟩
 case round=>
  obtain⟨k,hk,rfl,a6,a4⟩:=hrel
  by_cases b4:k<len
  ·have a0:k<zs.length:=oM
   have c1:wr.cell? ⟨b,off+k*2,none⟩=some (.int .i64 zs[k].1):=(a4.cell (p:=⟨b,off+k*2,none⟩) hb).trans (hc k a0).1
   have c2:wr.cell? ⟨b,off+k*2+1,none⟩=some (.int .i64 zs[k].2):=(a4.cell (p:=⟨b,off+k*2+1,none⟩) hb).trans (hc k a0).2
   obtain⟨fn,tmps,assign,body,hy,hR⟩:=hY (zs.take k) zs[k] (wr.alloc (.cells #[.int .i64 zs[k].1,.int .i64 zs[k].2] 310)) (hJ _ _ _ a6 (Below.alloc (Below.refl _ _) nR _)) (by rw[cd]; omega)
   unfold rkV at hy
   have hx:=Below.alloc a4 (co b0 a4.size) (.cells #[.int .i64 zs[k].1,.int .i64 zs[k].2] 310)
   gi_wp2
   refine hR.mono ?_
   rintro e W3 (⟨rfl,a8,a9⟩|⟨rfl,a5⟩)
   ·gi_wp2
    go_roundw
    case rel=>exact⟨k+1,oM,by simp,by rw[bu a0]; exact a8,hx.trans a9⟩
    case measure=>simp[intOf]; omega
   ·gi_wp2
    refine bodyPost_ret (results_none rfl _ _ _) rfl ?_
    rw[←bu a0]at a5
    exact⟨⟨_,rfl⟩,.inr ⟨_,me _ _,a5⟩⟩
  ·obtain rfl:k=len:=oM
   gi_wp2
   go_end0
   refine⟨⟨_,rfl⟩,.inl ⟨zs,rfl,?_⟩⟩
   rw[dg oM]at a6
   exact a6
def RkS(n₀:Nat)(W:World)(sv:Value)(zs:List (Int×Int)):Prop:=
 (sv= .slice none 0 0∧zs= [])∨ ∃b off cap,sv= .slice (some ⟨b,off,none⟩) zs.length cap∧b<n₀∧ ∀j (h:j<zs.length),W.cell? ⟨b,off+j*2,none⟩=some (.int .i64 zs[j].1)∧W.cell? ⟨b,off+j*2+1,none⟩=some (.int .i64 zs[j].2)
theorem RkS.below{n₀:Nat}{B:World}(h:Below n₀ A B){sv:Value}{zs:List (Int×Int)}:RkS n₀ A sv zs→RkS n₀ B sv zs
 | .inl e=>.inl e
 | .inr ⟨b,off,cap,e,hb,hc⟩=>.inr ⟨b,off,cap,e,hb,λj hj=>⟨(h.cell (p:=⟨b,off+j*2,none⟩) hb).trans (hc j hj).1,(h.cell (p:=⟨b,off+j*2+1,none⟩) hb).trans (hc j hj).2⟩⟩
set_option maxRecDepth 100000 in
theorem Zpx(F:Fence)(n:Nat)(hF:F.fn 337)(a4:F.round=none)(l Bs:Nat)(J:List (Int×Int)→World→Prop)(W:World)(a5:W.cell? ⟨Bs,0,none⟩=some (.slice none 0 0))(h0:J [] W):
  CallsIn F n prog 337 #[.func (.yield l) #[] #[],.pointer (some ⟨Bs,0,none⟩)] W λe W'=>(∃v,e= .returned v)∧J [] W':=by
 refine callsIn_of_wp func337 rfl hF ?_ a4
 simp only[Tryz.ntmps337,ia,dq,fa,Nat.reduceAdd,Nat.reduceSub,jl,jk,ju,jp,em,dz]
 gi_wp2
 gi_loopw [7] (λi wr=>i= .int .i64 0∧J [] wr) (λ_ _=>0)
 case atStart=>exact⟨rfl,h0⟩
 case round=>
  obtain⟨rfl,a0⟩:=hrel
  gi_wp2
  go_end0
  exact⟨⟨_,rfl⟩,a0⟩
theorem Zqo(F:Fence)(n:Nat)(hF:F.fn 337)(a6:F.round=none)(hn:1≤n)(Bs n₀:Nat)(sv:Value)(zs:List (Int×Int))(a0:zs.length*16≤140737488351232)(w:World)(a5:n₀≤w.heap.size)(a7:Bs<w.heap.size)
  (a8:w.cell? ⟨Bs,0,none⟩=some sv) (hI:RkS n₀ w sv zs):
  SeqStopsK F n prog 337 #[.pointer (some ⟨Bs,0,none⟩)] (λx=>#[rkV x]) (Below n₀) (λys=>ys=zs) (λpre=>pre<+:zs) zs.length w:=λl J Jx W hW hJ _ hY h0=>by
 have a4:=(hW.cell (p:=⟨Bs,0,none⟩) a7).trans a8
 rcases hI.below (hW.mono a5)with⟨rfl,rfl⟩|⟨b,off,cap,rfl,hb,a9⟩
 ·exact(Zpx F n hF a6 l Bs J W a4 h0).mono λe W' ⟨he,hj⟩=>⟨he,.inl ⟨_,rfl,hj⟩⟩
 ·exact Zww F n hF a6 hn l Bs n₀ b off zs.length cap zs rfl a0 hb J Jx (λpre W W' h hb=>hJ pre W W' none h ⟨hb.os,hb.tape,hb.output,hb.size,λk hk _=>hb.block k hk⟩ (λr e=>by cases e)) hY W (co a5 hW.size) a4 a9 h0
def Zf3(l:List (Int×Int)):List Value:=(l.map λx=>[Value.int .i64 x.1,.int .i64 x.2]).flatten
theorem Zpw(l:List (Int×Int))(x:Int×Int):Zf3 (l++ [x])=Zf3 l++ [Value.int .i64 x.1,.int .i64 x.2]:=by simp[Zf3]
set_option maxRecDepth 100000 in
theorem Zqn(F:Fence)(n:Nat)(hF:F.fn 355)(b1:F.fn 337)(a9:F.round=none)(hn:3≤n)(Bs:Nat)(sv:Value)(zs:List (Int×Int))(hz:zs.length≤1000000)(w:World)(b4:Bs<w.heap.size)
  (b5:w.cell? ⟨Bs,0,none⟩=some sv) (hI:RkS w.heap.size w sv zs):
  CallsIn F n prog 355 #[.slice none 0 0,.func (.func 337) #[] #[.pointer (some ⟨Bs,0,none⟩)]] w λe W'=>∃v,e= .returned v∧W'.ownsRow w.heap.size 310 2 v zs.length (Zf3 zs)∧Below w.heap.size w W':=by
 have h1:1≤n:=oM
 obtain⟨i0,hi,c2,c3,c4⟩:=info_parts (show(prog.info? 310).map (λi=>(i.zero,i.size,i.bytes))=some (some (.agg #[.int .i64 0,.int .i64 0]),2,16) by kernel_rfl)
 refine callsIn_of_wp_marks func355 rfl hF ?_ a9
 simp only[Tryz.ntmps355,ia,dq,fa,Nat.reduceAdd,Nat.reduceSub,jl,jk,ju,jp,em,dz]
 gi_wp2
 have bO:=Boxed.new w 307 (.slice none 0 0)
 have a7:Below w.heap.size w (w.alloc (.cells #[.slice none 0 0] 307)):=(Below.refl _ w).alloc nR _
 refine wpIn_rangeFunc_ownH a9 h1 (gf:=337) (lb:=#[.pointer (some ⟨Bs,0,none⟩)]) rfl b1 (enters_of func337 kR rfl)
  (Zqo F (n - 1) b1 a9 oM Bs w.heap.size sv zs oM _ sI (by simp; omega) ((a7.cell (p:=⟨Bs,0,none⟩) b4).trans b5) (hI.below a7)) belowK_t (belowK_b sI) (Below.refl _ _) (λ_=>rfl)
  (λpre W=>(∃v,Boxed W w.heap.size 307 v∧W.ownsRow w.heap.size 310 2 v pre.length (Zf3 pre)∧True)∧Below w.heap.size w W)
  (λ_ _ _=>False)
  (OwnFrom.and (Own.from (holdsRow_own w.heap.size w.heap.size 307 310 2 (λpre=>pre.length) (λpre=>Zf3 pre) (λ_ _=>True)) _) (ownFrom_below nR sI))
  (λ_ _ _ _ _ hs _ _=>hs)
  ⟨⟨_,bO,World.ownsRow_nil _ _ _ _,trivial⟩,a7⟩
  (λx a' W=>∃Bx,W.heap[Bx]? =some (.cells #[.int .i64 x.1,.int .i64 x.2] 310 (0,0))∧a'={tmps:=#[.slice none 0 0,.func (.func 337) #[] #[.pointer (some ⟨Bs,0,none⟩)],.pointer (some ⟨w.heap.size,0,none⟩),undef,.slice none 0 0,.pointer (some ⟨Bx,0,none⟩),.func (.func 337) #[] #[.pointer (some ⟨Bs,0,none⟩)],rkV x,undef,undef,undef,undef,undef],defers:=[]})
  (λx a' _ X Y row hs hg hr=>by
   obtain⟨Bx,h2,h3⟩:=hs
   refine⟨Bx,(hg.block Bx (de.1 h2).1 (λe=>?_)).trans h2,h3⟩
   obtain⟨o,ho,b6⟩:=(hr Bx e.symm).2
   rw[h2]at ho; cases ho; cases b6)
  ?assign ?body ?done ?stop
 case assign=>
  rintro l pre x W K ⟨⟨v,a6,a0,_⟩,a4⟩ hK
  unfold rkV at hK ⊢
  gi_wp2
  exact hK _ _ ((KeepsOthers.alloc _ _).from _) ((Below.refl _ W).alloc a4.size _) ⟨⟨v,a6.alloc _,a0.alloc _,trivial⟩,a4.alloc a4.size _⟩ ⟨W.heap.size,World.alloc_heap_new W _,rfl⟩
 case body=>
  rintro l pre x a' W hl ⟨r,hr⟩ ⟨⟨v,a6,a0,_⟩,a4⟩ ⟨Bx,b0,rfl⟩ d0
  have b7:=a6.cell
  have c6:W.cell? ⟨Bx,0,none⟩=some (.int .i64 x.1):=by simp[World.cell?,b0]
  have c7:W.cell? ⟨Bx,1,none⟩=some (.int .i64 x.2):=by simp[World.cell?,b0]
  gi_wp2_with (gi_at_builtin; refine wpListIn_append_own _ rfl _ _ 307 rfl w.heap.size 310 i0 (.agg #[.int .i64 0,.int .i64 0]) 2 16 underlying307 hi c2 c3 c4 rfl dC _ _ _ rfl (a0.alloc _) ⟨W.heap.size,0,none⟩ 1 1 [.int .i64 x.1,.int .i64 x.2] rfl rfl (λj u hj=>by rw[show(⟨W.heap.size,0,none⟩:Addr).add j=⟨W.heap.size,j,none⟩ by unfold Addr.add; split<;>simp_all]; rw[World.cell?_alloc_mark,jr]; exact hj) (by simp[Value.oneCell']) (by rw[Zq9]; omega) oM (by have:=a4.size; simp; omega) ?_; intro v' w1 a5 a8 _; obtain⟨g',c5,rfl⟩:=ownsRow_succ a5; obtain⟨b3,c1,b9,b8,b2⟩:=a6.appended dC a0 a4.size nR a5 a8; have c8:=b3.cell; have c9:=b3.frozen)
  exact⟨b8.from _,b2,⟨_,c1,by rw[Zpw]; simpa using b9,trivial⟩,a4.trans b2⟩
 case done=>
  rintro D ys W hD rfl ⟨⟨v,hv,a0,_⟩,hB⟩ hK
  have b7:=hv.cell
  gi_wp2
  refine⟨by simp,.inl ⟨_,_,rfl,run_takeDeferred hK,?_⟩⟩
  exact⟨_,results_tmp rfl _ _ _,v,rfl,ownsRow_putObj a0 _ hK rfl,hB.trans (belowK_b (w:=w) nR W D _ _ (by simp at hD; omega) hK rfl rfl)⟩
 case stop=>
  rintro D c pre W _ _ h _
  exact h.elim
end Go.Proofs
namespace Go.Hal
end Go.Hal
/-
 DERIVED:THE SHELF's CONTRACTS AT THIS DUMP,IN PLAIN WORDS (tools/lay-plain.mjs out of 'YtfilbiaaeecoaaaGreatDoorLay3.lean',which tools/lay-shelf.mjs wrote):THE SAME DECLARATIONS UNDER THE SAME NAMES:'import','namespace','open','def','theorem' AND NOTHING ELSE:no command of the shelf's:FOR A HAND-IN. Each laying:the table of numbers ('.._ren') and one theorem,a field a fact of the dump's own or the kernel's comparison; each contract:ONE APPLICATION.
-/
namespace Go.Proofs
def Tryz.laySr_ren:Go.Shelf.Ren:=⟨λ|6=>336|15=>50|14=>356|28=>104|29=>105|20=>376|21=>377|22=>378|23=>379|24=>380|25=>381|26=>382|27=>383|46=>395|47=>161|48=>162|49=>396|50=>397|57=>401|n=>n,λ|22=>307|24=>310|25=>370|3=>3|39=>125|0=>0|53=>187|55=>189|4=>4|46=>180|45=>179|50=>184|5=>5|9=>9|66=>243|70=>247|76=>300|77=>301|n=>n,λ|n=>n⟩
theorem Tryz.laySr:Go.Proofs.SlLaysF0.n6 prog Tryz.laySr_ren:={
 mixed:=kR
 f6:=⟨Tryz.f336.name,by decide,func336.trans kS⟩
 f14:=⟨Tryz.f356.name,by decide,func356.trans kS⟩
 f15:=func50.trans kS
 f20:=⟨Tryz.f376.name,by decide,func376.trans kS⟩
 f21:=⟨Tryz.f377.name,by decide,func377.trans kS⟩
 f22:=⟨Tryz.f378.name,by decide,func378.trans kS⟩
 f23:=⟨Tryz.f379.name,by decide,func379.trans kS⟩
 f24:=⟨Tryz.f380.name,by decide,func380.trans kS⟩
 f25:=⟨Tryz.f381.name,by decide,func381.trans kS⟩
 f26:=⟨Tryz.f382.name,by decide,func382.trans kS⟩
 f27:=⟨Tryz.f383.name,by decide,func383.trans kS⟩
 f28:=func104.trans kS
 f29:=func105.trans kS
 f46:=⟨Tryz.f395.name,by decide,func395.trans kS⟩
 f47:=func161.trans kS
 f48:=func162.trans kS
 f49:=⟨Tryz.f396.name,by decide,func396.trans kS⟩
 f50:=⟨Tryz.f397.name,by decide,func397.trans kS⟩
 f57:=⟨Tryz.f401.name,by decide,func401.trans kS⟩
 t0:=underlying0
 a0:=Tryz.isAgg0
 z0:=Tryz.sizeOf0
 v0:=Tryz.zeroValue0
 t3:=underlying3
 a3:=Tryz.isAgg3
 z3:=Tryz.sizeOf3
 v3:=Tryz.zeroValue3
 t4:=underlying4
 a4:=Tryz.isAgg4
 z4:=Tryz.sizeOf4
 v4:=Tryz.zeroValue4
 t5:=underlying5
 a5:=Tryz.isAgg5
 z5:=Tryz.sizeOf5
 v5:=Tryz.zeroValue5
 t9:=underlying9
 a9:=Tryz.isAgg9
 z9:=Tryz.sizeOf9
 v9:=Tryz.zeroValue9
 t22:=underlying307
 a22:=Tryz.isAgg307
 z22:=Tryz.sizeOf307
 v22:=Tryz.zeroValue307
 t25:=underlying370
 a25:=Tryz.isAgg370
 z25:=Tryz.sizeOf370
 v25:=Tryz.zeroValue370
 t39:=underlying125
 a39:=Tryz.isAgg125
 z39:=Tryz.sizeOf125
 v39:=Tryz.zeroValue125
 t45:=underlying179
 a45:=Tryz.isAgg179
 z45:=Tryz.sizeOf179
 v45:=Tryz.zeroValue179
 t46:=underlying180
 a46:=Tryz.isAgg180
 z46:=Tryz.sizeOf180
 v46:=Tryz.zeroValue180
 t50:=underlying184
 a50:=Tryz.isAgg184
 z50:=Tryz.sizeOf184
 v50:=Tryz.zeroValue184
 t53:=underlying187
 a53:=Tryz.isAgg187
 z53:=Tryz.sizeOf187
 v53:=Tryz.zeroValue187
 t55:=underlying189
 a55:=Tryz.isAgg189
 z55:=Tryz.sizeOf189
 v55:=Tryz.zeroValue189
 t66:=underlying243
 a66:=Tryz.isAgg243
 z66:=Tryz.sizeOf243
 v66:=Tryz.zeroValue243
 t70:=underlying247
 a70:=Tryz.isAgg247
 z70:=Tryz.sizeOf247
 v70:=Tryz.zeroValue247
 t76:=underlying300
 a76:=Tryz.isAgg300
 z76:=Tryz.sizeOf300
 v76:=Tryz.zeroValue300
 t77:=underlying301
 a77:=Tryz.isAgg301
 z77:=Tryz.sizeOf301
 v77:=Tryz.zeroValue301}
end Go.Proofs
namespace Go.Hal
def rkC(x:Rk):List Value:=[.int .i64 x.1,.int .i64 x.2]
theorem Z2d(l:List Rk):Zf3 l=(l.map rkC).flatten:=rfl
theorem rkFlat_len(l:List Rk):(Zf3 l).length=l.length*2:=by rw[Z2d,Zic rkC (k:=2) λ_=>rfl]
theorem Zzi(l:List Rk): ∀{i:Nat} (hi:i<l.length) (v:Int),(Zf3 l).set (i*2+1) (.int .i64 v)=Zf3 (l.set i (l[i].1,v)):=by
 induction l with
 |nil=>intro i hi; simp at hi
 |cons x r ih=>
  intro i hi v
  cases i with
  |zero=>rfl
  |succ i=>
   have e:(i+1)*2+1=(i*2+1)+1+1:=oM
   have a0:i<r.length:=by simpa using hi
   have h:=ih a0 v
   show([Value.int .i64 x.1,.int .i64 x.2]++Zf3 r).set _ _= [Value.int .i64 x.1,.int .i64 x.2]++Zf3 (r.set i (r[i].1,v))
   rw[e,←h]; rfl
section
variable {T:TypeId} {w:World} {lo:Nat} {S:Nat→Prop} {s:Sl} {l:List Rk}
theorem OwnS.rkRow(h:OwnS rkE T w lo S s l):w.ownsRow lo T 2 s.v s.len (Zf3 l):=by
 obtain⟨css,ho,hl,hr⟩:=h.row
 have e:css=l.map rkC:=by
  apply List.ext_getElem (by simp[hl])
  intro i h1 h2
  obtain⟨cs,k1,k2⟩:=hr i (l[i]'(by simpa using h2)) (bq (by simpa using h2))
  rw[bq h1,cw]at k1
  rw[k1,lf]; exact k2.1
 rw[e]at ho; exact ho
theorem OwnS.rkMk{v:Value}(h:w.ownsRow lo T 2 v l.length (Zf3 l)): ∃s:Sl,v=s.v∧OwnS rkE T w lo None' s l:=by
 have h1: ∃s:Sl,v=s.v∧s.len=l.length:=by
  rcases h.2 with⟨hv,hn⟩|⟨g,cap,a0,hv,_⟩
  ·exact⟨Sl.nil,hv,hn.symm⟩
  ·exact⟨⟨some ⟨g,0,none⟩,l.length,cap⟩,hv,rfl⟩
 obtain⟨s,rfl,hs⟩:=h1
 refine⟨s,rfl,⟨l.map rkC,by rw[hs]; exact h,by simp,λi x hx=>⟨rkC x,by rw[fi,hx]; rfl,rfl,trivial⟩⟩,hs,λ_ h=>h.elim,λ_ _ h=>h.elim⟩
theorem OwnS.setHi{v:Int}{K:World→Prop}(h:OwnS rkE T w lo None' s l)(hi:i<l.length)(ha:s.a=some ad)(hK: ∀w',But ad.block w w'→OwnS rkE T w' lo None' s (l.set i (l[i].1,v))→K w'):stw w ((ad.add (i*2)).add 1) [.int .i64 v] K:=by
 have ho:=h.rkRow
 have hl:=h.len
 rcases ho.2 with⟨hv,_⟩|⟨g,cap,a0,hv,hg,hh,hc,a8,a9,ht⟩
 ·simp[Sl.v]at hv; rw[hv.1]at ha; cases ha
 ·have a7:ad=⟨g,0,none⟩:=by simp[Sl.v]at hv; rw[hv.1]at ha; exact(gu ha).symm
  subst a7
  have a4:i*2+1+1≤a0.size:=oM
  rw[Zfq,Zkb]
  refine⟨a0,T,hh,rfl,by simpa using a4,hK _ ⟨by simp[World.setRow],rfl,rfl,rfl,λc hc b0=>setRow_other w g c _ b0⟩ ?_⟩
  have a6:(Zjb a0 (i*2+1) [.int .i64 v]).toList=a0.toList.set (i*2+1) (.int .i64 v):=by
   unfold Zjb
   rw[List.set_eq_take_append_cons_drop,if_pos (by rw[gq (xs:=a0)]; omega)]
   simp
  have a5:(w.setRow g (Zjb a0 (i*2+1) [.int .i64 v])).ownsRow lo T 2 s.v (l.set i (l[i].1,v)).length (Zf3 (l.set i (l[i].1,v))):=by
   refine⟨rkFlat_len _,.inr ⟨g,cap,_,by rw[hv,fw,hl],hg,setRow_heap w g a0 _ T _ hh,by rw[fw,←hl]; exact hc,a8,?_,?_⟩⟩
   ·rw[←gq,a6,fw,gq (xs:=a0)]; exact a9
   ·rw[a6,List.take_set,fw,←hl,ht,Zzi l hi]
  obtain⟨s',e,own⟩:=OwnS.rkMk a5
  have:s'=s:=by
   obtain⟨a,n,c⟩:=s
   obtain⟨a',n',c'⟩:=s'
   simpa[Sl.v,eq_comm]using e
  subst this
  exact own
end
theorem spans_se{l:List Rk}{R:Sl→World→Prop}(hs:SlR rkE w S s l)(hl:l.length≤64)(hR: ∀t w',Ext w w'→SlR spanE w' (λb=>w.heap.size≤b∧b<w'.heap.size) t (Zgp l)→R t w'):SE.Zja s w R:=by
 unfold SE.Zja
 have d3:=hs.len
 have eb:spanE.bytes=48:=rfl
 refine loop2.up hs.max (λout i w'=>Ext w w'∧OwnS spanE 210 w' w.heap.size None' out (Zgp (l.take i))) ⟨Ext.refl _,OwnS.zero _⟩ λout i w1 d4 hi ⟨x1,own⟩ hn=>⟨λc2=>?_,λd2=>?_⟩
 ·have a4:i<l.length:=oM
  obtain⟨ad,c3,_,hc⟩:=rkEl hs a4
  refine⟨ad,⟨c3,oM,c2⟩,_,_,hc _ x1,newS.intro λa w2 x2 b4 c9 _=>stw0.intro b4 sI λw3 b3 _ b0=>?_⟩
  have c5:Ext w1 w3:=b3.ext x2 oM
  refine⟨_,b0.at0 xR rfl,SE.Zky.go (versAt_se λw4 x4=>⟨_,_,_,_,rfl,newS.intro λa5 w5 x5 b5 d0 _=>stw0.intro b5 sI λw6 b6 _ b7=>?_⟩)⟩
  have c6:Ext w4 w6:=b6.ext x5 oM
  have b1:=x4.trans c6
  refine⟨_,BoxAt.at1 b0 (k:=1) b1 rfl,SE.Zky.go (versAt_se λw7 x7=>⟨_,_,_,_,rfl,newS.intro λa8 w8 x8 b8 d1 _=>stw0.intro b8 sI λw9 b9 _ c1=>?_⟩)⟩
  have c7:Ext w7 w9:=b9.ext x8 oM
  have b2:=x7.trans c7
  refine⟨_,_,_,b7.at0 (r:=[]) b2 rfl,_,_,_,c1.at0 (r:=[]) xR rfl,newS.intro λc8 d5 c4 a9 _ _=> ?_⟩
  have a6:=c5.trans (b1.trans (b2.trans c4))
  have a0:(Zgp (l.take i)).length=i:=by unfold Zgp; rw[cm,cd]; omega
  refine(own.ext a6).push Z6i (x1.trans a6).size (x:=⟨Zly l[i].1,Zly l[i].2⟩) (S':=None') (cs:=(Zly l[i].1).c++(Zly l[i].2).c) ⟨rfl,trivial⟩ (a9.ldc.pre (r:=[]) rfl) (λ_ h=>h.elim) (λ_ _ h=>h.elim) (by rw[a0,eb]; unfold room; omega) (by rw[a0,Zd]; omega) λr d6 a7 bel _ _=>hn a4 _ _ ⟨(x1.trans a6).trans' bel,?_⟩
  have e:Zgp (l.take (i+1))=Zgp (l.take i)++ [⟨Zly l[i].1,Zly l[i].2⟩]:=by
   unfold Zgp
   rw[bu a4,ec]; rfl
  rw[e]
  exact a7.mono (λ_ h=>h.elim id id) (λ_ h=>h.elim) (λ_ _ h=>h.elim)
 ·have:i=l.length:=oM
  rw[this,cu]at own
  have a0:(Zgp l).length=l.length:=by unfold Zgp; rw[cm]
  refine hR _ _ x1 ((own.read (by rw[a0,eb]; unfold room; omega) (by rw[a0,Zd]; omega)).mono λb hb=>?_)
  rcases hb with hb|⟨ad,ha,rfl⟩
  ·exact hb.elim
  ·have:=own.block ha; exact⟨this.1,this.2.1⟩
theorem Z4d(a b:Int):Z7u a b=max a b:=by unfold Z7u; split<;>omega
theorem Zzh{l:List Rk}{j:Nat}(h:j<l.length):(Zf3 l)[j*2]? =some (.int .i64 l[j].1)∧(Zf3 l)[j*2+1]? =some (.int .i64 l[j].2):=by
 have a0: ∀cs∈l.map rkC,cs.length=2:=λcs hc=>by obtain⟨x,_,rfl⟩:=fh.1 hc; rfl
 have hi:(l.map rkC)[j]? =some (rkC l[j]):=by rw[fi,bq h]; rfl
 exact⟨Zjn a0 hi (j:=0) rfl,Zjn a0 hi (j:=1) rfl⟩
theorem OwnS.lower{α:Type}{E:Enc α}{T:TypeId}{lo':Nat}{l:List α}(h:OwnS E T w lo S s l)(hl:lo'≤lo):OwnS E T w lo' S s l:=by
 obtain⟨css,ho,k1,k2⟩:=h.row
 refine⟨⟨css,⟨ho.1,ho.2.imp id λ⟨g,cap,a0,hv,hg,r⟩=>⟨g,cap,a0,hv,co hl hg,r⟩⟩,k1,k2⟩,h.len,h.lt,h.apart⟩
theorem collect_se{l:List Rk}{T:TypeId}{R:Sl→World→Prop}(h:OwnS rkE T w lo S s l)(ha:BoxAt w a [s.v])(hl:l.length≤1000000)
  (hR: ∀t w',Ext w w'→OwnS rkE 310 w' w.heap.size None' t l→R t w'):SE.Zb2 (.func (.func 337) #[] #[.pointer (some a)]) w R:=by
 unfold SE.Zb2
 have hI:RkS w.heap.size w s.v l:=by
  have ho:=h.rkRow
  rcases ho.2 with⟨hv,hn⟩|⟨g,cap,a8,hv,hg,hh,hc,a9,b0,ht⟩
  ·exact .inl ⟨hv,cq (by rw[←h.len]; exact hn)⟩
  ·refine .inr ⟨g,0,cap,by rw[hv,h.len],lt_of_block hh,λj hj=>?_⟩
   have a4:=ho.cells (g:=g) (by rw[hv]; rfl)
   obtain⟨k1,k2⟩:=Zzh hj
   have c1:=a4 _ _ k1
   have c2:=a4 _ _ k2
   rw[Zkb]at c1 c2
   rw[jy]
   exact⟨c1,c2⟩
 have a5:w.cell? ⟨a.block,0,none⟩=some s.v:=by
  obtain⟨t,_,_,hb⟩:=ha
  simp[World.cell?,hb]
 have a7:a=⟨a.block,0,none⟩:=by
  obtain⟨t,h1,h2,_⟩:=ha
  obtain⟨b,o,sp⟩:=a
  simp only at h1 h2
  subst h1 h2; rfl
 have a0:=callsIn_wide.1 (Zqn Fence.wide 3 trivial trivial rfl nR a.block s.v l hl w ha.lt a5 hI)
 rw[←a7]at a0
 refine Calls.mono a0 λe w' ⟨v,he,a6,hb⟩=>⟨v,he,?_⟩
 obtain⟨t,rfl,own⟩:=OwnS.rkMk a6
 exact⟨t,rfl,hR t w' hb own⟩
abbrev Rk0:Type:={x:Rk//0≤x.1∧x.1≤999999999}
instance:Inhabited Rk0:=⟨⟨(0,0),by decide⟩⟩
theorem Zqi:Zfj prog 299:=enters_of func299 kR rfl
theorem isAggR: ∀w,(isAgg 310).run prog w= .ok true w:=λw=>by kernel_rfl
theorem Z8q: ∀w,(Go.sizeOf 310).run prog w= .ok 2 w:=λw=>by kernel_rfl
theorem Zyz{a b:Rk0}{R:Int→World→Prop}(hR: ∀w',Gr w w'→R (a.1.1 - b.1.1) w'):SE.Zf5 a.1.1 a.1.2 b.1.1 b.1.2 w R:=by
 unfold SE.Zf5
 have ha:=a.2; have hb:=b.2
 refine newS.gr λ_ w1 x1 a0=>newS.gr λ_ w2 x2 a4=>⟨_,Gr.at0 a0 x2 rfl,_,Gr.at0 a4 (Gr.refl _) rfl,?_⟩
 rw[Zc oM oM]
 exact hR _ (x1.trans x2)
theorem Z1h: ∀{l:List Rk},rkIn l→ ∃la:List Rk0,la.map Subtype.val=l
 | [],_=>⟨[],rfl⟩
 |x::r,h=>by
  obtain⟨la,e⟩:=Z1h (l:=r) λy hy=>h y (.tail _ hy)
  have hx:=h x (.head _)
  exact⟨⟨x,hx.1,hx.2.1⟩::la,by rw[fg,e]⟩
def rkF(x:Rk0):List Value:=rkC x.1
theorem Z2c{la:List Rk0}:la.map rkF=(la.map Subtype.val).map rkC:=by rw[gc]; rfl
theorem Z5t{l:List Rk}{K:Value→World→Prop}(h:OwnS rkE 310 w lo None' s l)(a7:lo≤w.heap.size)(a6:rkIn l)(hl:l.length≤1000000)
  (hK: ∀l' w',l'.Perm l→Zwv l'→Below lo w w'→SlR rkE w' (λb=>lo≤b∧b<w'.heap.size) s l'→K (.tuple #[]) w'):
  callS prog 336 [Sl.v s,.func (.func 299) #[] #[]] w K:=by
 have eb:rkE.bytes=16:=rfl
 have hF:FlatO rkC 16 w lo s l:=FlatO.of (E:=rkE) (λx cs h=>h.1) h (by unfold room; omega)
 obtain⟨h1,h2,h3,h4,h5⟩:=hF
 obtain⟨a,n,c⟩:=s
 simp only at h1 h2 h3 h5
 subst h1
 rcases h5 with rfl|⟨g,tail,ha,hg,hr⟩
 ·refine(AnyF.slices_SortFunc_none Tryz.laySr a c _ w).mono λe w' ⟨he,hw⟩=>⟨_,he,?_⟩
  subst hw
  exact hK [] _ (fx _) .nil (Below.refl _ _) ⟨rfl,h2,h3,by simp,.inl rfl⟩
 ·subst ha
  obtain⟨la,rfl⟩:=Z1h a6
  have a8:RowB rkF w g la tail:=by
   unfold RowB at hr ⊢
   rw[Z2c]; exact hr
  rw[cm]at*
  refine Zgo Tryz.laySr (k:=2) isAggR Z8q (f:=rkF) (λ_=>rfl) (λx v hv=>by simp[rkF,rkC]at hv; rcases hv with rfl|rfl<;>rfl) (λa b=>a.1.1 - b.1.1) (Zjx (λx y=>by omega) (λx y z=>by omega)) 299 #[] Zqi (λw0 x y hb _=> ?_) a8 oM rfl λl' w' hp hs b a4=>?_
  ·have h:=SE.Zf5.go (k:=λv w'=>v= .int .i64 (x.1.1 - y.1.1)∧Gr w0 w') (Zyz (a:=x) (b:=y) (w:=w0) λw' h=>⟨rfl,h⟩)
   exact Calls.mono h λe w' ⟨v,he,hv,hg⟩=>⟨by rw[he,hv],hg⟩
  ·have a9:RowB rkC w' g (l'.map Subtype.val) tail:=by
    unfold RowB at a4 ⊢
    rw[←Z2c]; exact a4
   have a0:=hp.length_eq
   have a5:FlatO rkC rkE.bytes w' lo ⟨some ⟨g,0,none⟩,la.length,c⟩ (l'.map Subtype.val):=⟨by simp[a0],by simp[a0]; exact h2,h3,by rw[cm,a0]; exact h4,.inr ⟨g,tail,rfl,hg,a9⟩⟩
   refine hK (l'.map Subtype.val) w' (hp.map _) ?_ (b.below a7 hg) (a5.read (λ_=>rfl) λw S x _=>⟨rfl,trivial⟩)
   unfold Zwv
   rw[fy]
   exact hs.imp λ{x y} h=>by omega
theorem Z2o{l:List Rk}{T:TypeId}{R:Sl→World→Prop}(h:OwnS rkE T w lo S s l)(ha:BoxAt w a [s.v])(a0:rkIn l)(hl:l.length≤1000000)
  (hR: ∀t w' m,Ext w w'→m.Perm l→Zwv m→SlR rkE w' (λb=>w.heap.size≤b∧b<w'.heap.size) t m→R t w'):SE.Zbf (.func (.func 337) #[] #[.pointer (some a)]) (.func (.func 299) #[] #[]) w R:=by
 unfold SE.Zbf
 refine SE.Zb2.go (collect_se h ha hl λt w1 x1 own=>⟨_,rfl,Z5t own x1.size a0 hl λm w2 hp hs bel hr=>⟨rfl,hR t w2 m (x1.trans' bel) hp hs hr⟩⟩)
def Zya(m:List Rk)(n:Nat)(done:List Rk):Prop:=(n=0∧done= [])∨ ∃d y,done=d++ [y]∧Zoj m=d++Zmb y (m.drop n)
theorem Zv8{m:List Rk}(hn:n<m.length)(h0:n=0):Zya m (n+1) [m[n]]:=by
 subst h0
 refine .inr ⟨[],m[0],rfl,?_⟩
 cases m with
 |nil=>simp at hn
 |cons y r=>rfl
theorem Zyw{m:List Rk}{d:List Rk}{y:Rk}(hn:n<m.length)(h:Zoj m=d++Zmb y (m.drop n)):
  (m[n].1≤y.2+1→Zya m (n+1) (d++ [(y.1,max y.2 m[n].2)]))∧(¬m[n].1≤y.2+1→Zya m (n+1) (d++ [y]++ [m[n]])):=by
 rw[dm hn,Zmb]at h
 refine⟨λhl=>.inr ⟨d,_,rfl,?_⟩,λhl=>.inr ⟨d++ [y],m[n],rfl,?_⟩⟩
 ·rw[if_pos hl]at h; exact h
 ·rw[if_neg hl]at h; rw[h,cc]; rfl
theorem joined_se{l:List Rk}{T:TypeId}{R:Sl→World→Prop}(h:OwnS rkE T w lo S s l)(c8:rkIn l)(hl:l.length≤1000000)
  (hR: ∀t w' m,Ext w w'→m.Perm l→Zwv m→OwnS rkE 310 w' w.heap.size None' t (Zoj m)→R t w'):SE.Zh7 s w R:=by
 unfold SE.Zh7
 have eb:rkE.bytes=16:=rfl
 refine SE.Za9.go ?_
 unfold SE.Za9
 refine newS.intro λa w1 x1 ha _ _=>⟨_,rfl,SE.Zbf.go (Z2o (h.ext x1) ha c8 hl λt w2 m x2 hp hs hm=>⟨_,rfl,?_⟩)⟩
 have d3:=x1.trans x2
 have f6:=hm.len
 have f7:m.length≤1000000:=by rw[hp.length_eq]; exact hl
 have e6:rkIn m:=λx hx=>c8 x (hp.mem_iff.1 hx)
 refine loop2.up hm.max (λout i w'=>Ext w2 w'∧ ∃done,OwnS rkE 310 w' w2.heap.size None' out done∧Zya m i done∧done.length≤i∧rkIn done) ⟨Ext.refl _,[],OwnS.zero _,.inl ⟨rfl,rfl⟩,df _,λx hx=>by cases hx⟩ λout i w3 f9 hi ⟨x3,done,own,hJ,f4,c4⟩ hn=>⟨λe4=>?_,λf5=>?_⟩
 ·have a5:i<m.length:=oM
  obtain⟨ad,e5,_,hc⟩:=rkEl hm a5
  have e8:=e6 _ (cj a5)
  refine join.named λJ d7=>⟨ad,⟨e5,oM,e4⟩,m[i].1,m[i].2,hc _ x3,newS.intro λa4 w4 x4 d9 f2 _=>stw0.intro d9 sI λw5 b5 _ c1=>bnd.drew λw6 x6=>?_⟩
  have f1:Ext w3 w5:=b5.ext x4 oM
  have d4:=f1.trans x6
  have c6:=x3.trans d4
  have b4:=own.ext d4
  have c5:=own.len
  have step: ∀b3 w7 a0,Ext w2 w7→OwnS rkE 310 w7 w2.heap.size None' b3 a0→Zya m (i+1) a0→a0.length≤i+1→rkIn a0→J b3 w7:=by
   subst d7
   intro b3 w7 a0 x7 d0 d8 e3 e2
   exact hn a5 _ _ ⟨x7,a0,d0,d8,e3,e2⟩
  have push:Zya m (i+1) (done++ [m[i]])→ ∃(a9:Int) (a8:Int),(ldc w6 a4 [(Value.int .i64 a9),(Value.int .i64 a8)])∧newS w6 [(Value.int .i64 a9),(Value.int .i64 a8)] 310 λd5 d1=>appS prog 307 307 out (Sl.v (Sl.mk (some d5) 1 1)) d1 λe9 d2=>J e9 d2:=λd6=>by
   refine⟨m[i].1,m[i].2,c1.at0 (r:=[]) x6 rfl,newS.intro λa7 w7 x7 e1 _ _=> ?_⟩
   refine(b4.ext x7).push apRk (c6.trans x7).size (x:=m[i]) (S':=None') (cs:=[.int .i64 m[i].1,.int .i64 m[i].2]) ⟨rfl,trivial⟩ (e1.ldc.pre (r:=[]) rfl) (λ_ h=>h.elim) (λ_ _ h=>h.elim) (by rw[eb]; unfold room; omega) (by rw[Zd]; omega) λr w8 b6 bel _ _=>step _ _ _ ((c6.trans x7).trans' bel) (b6.mono (λ_ h=>h.elim id id) (λ_ h=>h.elim) (λ_ _ h=>h.elim)) d6 (by simp; omega) λx hx=>?_
   rcases dj.1 hx with hx|hx
   ·exact c4 x hx
   ·rw[ci]at hx; subst hx; exact e8
  rcases hJ with⟨h0,rfl⟩|⟨d,y,rfl,hd⟩
  ·have e0:Za ((out.len:Int) - 1)= -1:=by rw[c5]; decide
   rw[e0]
   have b9:decide ((0:Int)≤ -1)=false:=by decide
   rw[b9]
   refine bound ⟨m[i].1,nO,⟨0,0,none⟩,nO,0,nO,λh=>by simp at h,λ_=>push ?_⟩
   exact Zv8 a5 h0
  ·have a6:(d++ [y]).length=d.length+1:=by simp
   have e0:Za ((out.len:Int) - 1)=(d.length:Int):=by rw[c5,a6,Zc oM oM]; omega
   rw[e0]
   have b9:decide ((0:Int)≤(d.length:Int))=true:=by rw[decide_eq_true_eq]; omega
   rw[b9]
   have e7:=b4.read (by rw[a6,eb]; unfold room; omega) (by rw[a6,Zd]; omega)
   have c7:d.length<(d++ [y]).length:=oM
   obtain⟨b7,b1,_,c3⟩:=rkEl e7 c7
   have hy:(d++ [y])[d.length]=y:=by simp
   have f8:=c4 y sI
   rw[hy]at c3
   have c2:=c3 _ xR
   have c9:Za (y.2+1)=y.2+1:=Zc oM oM
   have b2:(d.length:Int)<(out.len:Int):=by rw[c5,a6]; omega
   obtain⟨j1,j2⟩:=Zyw a5 hd
   refine bound ⟨m[i].1,λ_=>c1.at0 x6 rfl,b7,λ_=>⟨b1,oM,b2⟩,y.2,λ_=>c2.mid (k:=1) rfl,λb0=>?_,λb0=>push ?_⟩
   ·rw[c9,dw,decide_eq_true_eq]at b0
    refine bnd.drew λw7 x7=>⟨b7,⟨b1,oM,b2⟩,y.2,(c3 _ x7).mid (k:=1) rfl,m[i].2,BoxAt.at1 c1 (k:=1) (x6.trans x7) rfl,b7,⟨b1,oM,b2⟩,?_⟩
    rw[Z4d]
    have f0:=c6.trans x7
    refine(b4.ext x7).setHi (i:=d.length) c7 b1 λw8 b8 b6=>step _ _ _ ?_ b6 ?_ ?_ ?_
    ·have:=(own.block b1).1
     exact b8.ext f0 this
    ·have e:(d++ [y]).set d.length ((d++ [y])[d.length].1,max y.2 m[i].2)=d++ [(y.1,max y.2 m[i].2)]:=by
      rw[hy,lz _ _ nR]; simp
     rw[e]; exact j1 b0
    ·rw[fw]; omega
    ·intro x hx
     rcases List.mem_or_eq_of_mem_set hx with hx|rfl
     ·exact c4 x hx
     ·rw[hy]; simp only; omega
   ·refine j2 λh=>?_
    rw[c9,dw,decide_eq_false_iff_not]at b0
    exact b0 h
 ·have:i=m.length:=oM
  subst this
  have hd:done=Zoj m:=by
   rcases hJ with⟨h0,rfl⟩|⟨d,y,rfl,hd⟩
   ·rw[cq h0]; rfl
   ·rw[hd,ix]; rfl
  subst hd
  refine hR _ _ m (d3.trans x3) hp hs (OwnS.lower own d3.size)
attribute [local go_sem] Oper.semAt_some
structure Two(u:Nat)(A B:World):Prop where
 os:B.os=A.os
 tape:B.tape=A.tape
 output:B.output=A.output
 size:A.heap.size≤B.heap.size
 block: ∀k,k<A.heap.size→k≠u→k≠u+1→B.heap[k]? =A.heap[k]?
end Go.Hal
namespace Go.Hal
def pre(acc:List UInt8):List (List UInt8)→List (List UInt8)
 |h::t=>(acc++h)::t
 | []=>[acc]
end Go.Hal
namespace Go.Hal
structure Gl(w:World):Prop where
 tab:Tab w
 mx: ∃m,w.cell? ⟨0,0,none⟩=some (.int .i64 m)
 syn: ∃ev,w.cell? ⟨6,0,none⟩=some ev∧(ev= .nilIface∨ ∃te pe,ev= .iface te pe)
 rng: ∃ev,w.cell? ⟨7,0,none⟩=some ev∧(ev= .nilIface∨ ∃te pe,ev= .iface te pe)
theorem Gl.ext(h:Gl w)(hx:Ext w w'):Gl w':=by
 obtain⟨h1,⟨m,h2⟩,⟨e,h3,a0⟩,⟨e',h4,a4⟩⟩:=h
 exact⟨h1.ext hx,⟨m,hx.cell h2⟩,⟨e,hx.cell h3,a0⟩,⟨e',hx.cell h4,a4⟩⟩
attribute [local go_sem] Oper.semAt_some
end Go.Hal
namespace Go.Hal
attribute [local go_sem] Oper.semAt_some
end Go.Hal
namespace Go.Hal
end Go.Hal
namespace Go.Hal
def RowT{α:Type}(T:TypeId)(f:α→List Value)(w:World)(g:Nat)(l:List α)(tail:List Value):Prop:=w.heap[g]? =some (.cells ((l.map f).flatten++tail).toArray T (0,0))
section
variable {α:Type} {T:TypeId} {f:α→List Value} {k g:Nat} {w w':World} {l:List α} {tail:List Value}
theorem RowT.row(h:RowT T f w g l tail):RowB f w g l tail:=⟨T,rfl,rfl,h⟩
end
def RawT{α:Type}(T:TypeId)(f:α→List Value)(k:Nat)(w:World)(lo:Nat)(s:Sl)(l:List α):Prop:=w.ownsRow lo T k s.v s.len ((l.map f).flatten)∧s.len=l.length
section
variable {α:Type} {T:TypeId} {f:α→List Value} {k lo:Nat} {w w':World} {s:Sl} {l:List α}
theorem RawT.cases(h:RawT T f k w lo s l):(s=Sl.nil∧l= [])∨ ∃g tail,s.a=some ⟨g,0,none⟩∧lo≤g∧RowT T f w g l tail∧l.length≤s.cap∧s.cap≤maxLen∧((l.map f).flatten++tail).length=s.cap*k:=by
 obtain⟨ho,hl⟩:=h
 obtain⟨a,n,c⟩:=s
 simp only at hl
 rcases ho.2 with⟨hv,hn⟩|⟨g,cap,a0,hv,hg,hh,hc,hm,a4,ht⟩
 ·simp only[Sl.v,Value.slice.injEq]at hv
  simp only at hn
  obtain⟨rfl,rfl,rfl⟩:=hv
  exact .inl ⟨rfl,cq hl.symm⟩
 ·simp only[Sl.v,Value.slice.injEq]at hv
  obtain⟨rfl,_,rfl⟩:=hv
  have e:(l.map f).flatten++a0.toList.drop (n*k)=a0.toList:=by rw[←ht]; exact dc _ _
  refine .inr ⟨g,a0.toList.drop (n*k),rfl,hg,?_,by rw[←hl]; exact hc,hm,by rw[e,gq]; exact a4⟩
  unfold RowT
  rw[e,jj]; exact hh
theorem RawT.flat{bytes:Nat}(h:RawT T f k w lo s l)(hb:l.length*bytes≤room):FlatO f bytes w lo s l:=by
 have hl:=h.2
 rcases h.cases with⟨rfl,rfl⟩|⟨g,tail,ha,hg,hr,hc,hm,_⟩
 ·exact⟨rfl,df _,eh _,hb,.inl rfl⟩
 ·exact⟨hl,hc,hm,hb,.inr ⟨g,tail,ha,hg,hr.row⟩⟩
end
abbrev DepC:=ByteArray×Sl
def depC(x:DepC):List Value:=[.string x.1,x.2.v]
instance:Inhabited DepC:=⟨(⟨#[]⟩,Sl.nil)⟩
def Z9y:Enc DepC:=Zoi 2 40 depC (λ_=>True) (λ_=>rfl) (λx v hv=>by simp[depC,Sl.v]at hv; rcases hv with rfl|rfl<;>rfl)
end Go.Hal
/-
 DERIVED:THE SHELF's CONTRACTS AT THIS DUMP,IN PLAIN WORDS (tools/lay-plain.mjs out of 'YtfilbiaaeecoaaaGreatDoorLayD.lean',which tools/lay-shelf.mjs wrote):THE SAME DECLARATIONS UNDER THE SAME NAMES:'import','namespace','open','def','theorem' AND NOTHING ELSE:no command of the shelf's:FOR A HAND-IN. Each laying:the table of numbers ('.._ren') and one theorem,a field a fact of the dump's own or the kernel's comparison; each contract:ONE APPLICATION.
-/
namespace Go.Proofs
def Tryz.layDp_ren:Go.Shelf.Ren:=⟨λ|6=>205|15=>50|14=>259|28=>104|29=>105|20=>300|21=>301|22=>302|23=>303|24=>304|25=>305|26=>306|27=>307|46=>338|47=>161|48=>162|49=>339|50=>340|57=>357|n=>n,λ|22=>51|24=>202|25=>285|3=>3|39=>125|0=>0|53=>187|55=>189|4=>4|46=>180|45=>179|50=>184|5=>5|9=>9|66=>243|70=>247|76=>300|77=>301|n=>n,λ|n=>n⟩
theorem Tryz.layDp:Go.Proofs.SlLaysF0.n6 prog Tryz.layDp_ren:={
 mixed:=kR
 f6:=⟨Tryz.f205.name,by decide,func205.trans kS⟩
 f14:=⟨Tryz.f259.name,by decide,func259.trans kS⟩
 f15:=func50.trans kS
 f20:=⟨Tryz.f300.name,by decide,func300.trans kS⟩
 f21:=⟨Tryz.f301.name,by decide,func301.trans kS⟩
 f22:=⟨Tryz.f302.name,by decide,func302.trans kS⟩
 f23:=⟨Tryz.f303.name,by decide,func303.trans kS⟩
 f24:=⟨Tryz.f304.name,by decide,func304.trans kS⟩
 f25:=⟨Tryz.f305.name,by decide,func305.trans kS⟩
 f26:=⟨Tryz.f306.name,by decide,func306.trans kS⟩
 f27:=⟨Tryz.f307.name,by decide,func307.trans kS⟩
 f28:=func104.trans kS
 f29:=func105.trans kS
 f46:=⟨Tryz.f338.name,by decide,func338.trans kS⟩
 f47:=func161.trans kS
 f48:=func162.trans kS
 f49:=⟨Tryz.f339.name,by decide,func339.trans kS⟩
 f50:=⟨Tryz.f340.name,by decide,func340.trans kS⟩
 f57:=⟨Tryz.f357.name,by decide,func357.trans kS⟩
 t0:=underlying0
 a0:=Tryz.isAgg0
 z0:=Tryz.sizeOf0
 v0:=Tryz.zeroValue0
 t3:=underlying3
 a3:=Tryz.isAgg3
 z3:=Tryz.sizeOf3
 v3:=Tryz.zeroValue3
 t4:=underlying4
 a4:=Tryz.isAgg4
 z4:=Tryz.sizeOf4
 v4:=Tryz.zeroValue4
 t5:=underlying5
 a5:=Tryz.isAgg5
 z5:=Tryz.sizeOf5
 v5:=Tryz.zeroValue5
 t9:=underlying9
 a9:=Tryz.isAgg9
 z9:=Tryz.sizeOf9
 v9:=Tryz.zeroValue9
 t22:=underlying51
 a22:=Tryz.isAgg51
 z22:=Tryz.sizeOf51
 v22:=Tryz.zeroValue51
 t25:=underlying285
 a25:=Tryz.isAgg285
 z25:=Tryz.sizeOf285
 v25:=Tryz.zeroValue285
 t39:=underlying125
 a39:=Tryz.isAgg125
 z39:=Tryz.sizeOf125
 v39:=Tryz.zeroValue125
 t45:=underlying179
 a45:=Tryz.isAgg179
 z45:=Tryz.sizeOf179
 v45:=Tryz.zeroValue179
 t46:=underlying180
 a46:=Tryz.isAgg180
 z46:=Tryz.sizeOf180
 v46:=Tryz.zeroValue180
 t50:=underlying184
 a50:=Tryz.isAgg184
 z50:=Tryz.sizeOf184
 v50:=Tryz.zeroValue184
 t53:=underlying187
 a53:=Tryz.isAgg187
 z53:=Tryz.sizeOf187
 v53:=Tryz.zeroValue187
 t55:=underlying189
 a55:=Tryz.isAgg189
 z55:=Tryz.sizeOf189
 v55:=Tryz.zeroValue189
 t66:=underlying243
 a66:=Tryz.isAgg243
 z66:=Tryz.sizeOf243
 v66:=Tryz.zeroValue243
 t70:=underlying247
 a70:=Tryz.isAgg247
 z70:=Tryz.sizeOf247
 v70:=Tryz.zeroValue247
 t76:=underlying300
 a76:=Tryz.isAgg300
 z76:=Tryz.sizeOf300
 v76:=Tryz.zeroValue300
 t77:=underlying301
 a77:=Tryz.isAgg301
 z77:=Tryz.sizeOf301
 v77:=Tryz.zeroValue301}
end Go.Proofs
namespace Go.Hal
open Go.Sort
def RawOk(w:World)(S:Nat→Prop)(p:DepC×Dep):Prop:=p.1.1=p.2.name∧Str p.2.name∧SlR spanE w S p.1.2 p.2.range
theorem flatDeps{z:List (DepC×Dep)}(h:FlatO depC 40 w lo s (z.map Prod.fst))(hz: ∀p∈z,RawOk w S p):SlR depE w (λb=>S b∨(lo≤b∧b<w.heap.size)) s (z.map Prod.snd):=by
 obtain⟨h1,h2,h3,h4,h5⟩:=h
 rw[cm]at h1 h2 h4
 refine⟨by rw[cm]; exact h1,by rw[cm]; exact h2,h3,by rw[cm]; exact h4,?_⟩
 rcases h5 with h5|⟨g,tail,ha,hg,hr⟩
 ·rw[List.map_eq_nil_iff]at h5; subst h5; exact .inl rfl
 ·refine .inr ⟨_,ha,.inr ⟨hg,hr.lt⟩,λi x hx=>?_⟩
  rw[fi]at hx
  cases hi:z[i]? with
  |none=>rw[hi]at hx; cases hx
  |some p=>
   rw[hi]at hx
   obtain rfl:p.2=x:=gu hx
   obtain⟨e1,e2,e3⟩:=hz p (ez hi)
   have hp:(z.map Prod.fst)[i]? =some p.1:=by rw[fi,hi]; rfl
   exact⟨depC p.1,⟨e2,p.1.2,by rw[←e1]; rfl,e3.mono λb hb=>.inl hb⟩,RowB.ld' (f:=depC) (k:=2) (λ_=>rfl) hr hp⟩
theorem Z7w: ∀w,(isAgg 202).run prog w= .ok true w:=λw=>by kernel_rfl
theorem Z5s: ∀w,(Go.sizeOf 202).run prog w= .ok 2 w:=λw=>by kernel_rfl
theorem Z6c{a b:DepC}{R:Int→World→Prop}(hR: ∀w',Gr w w'→R (cmpS a.1 b.1) w'):SE.Zg0 a.1 a.2 b.1 b.2 w R:=by
 unfold SE.Zg0
 refine newS.gr λ_ w1 x1 hb=>newS.gr λ_ w2 x2 a0=>⟨_,Gr.at0 hb x2 rfl,_,Gr.at0 a0 (Gr.refl _) rfl,Zjw ⟨_,rfl,hR _ (x1.trans x2)⟩⟩
theorem Zvz:Zfj prog 206:=enters_of func206 kR rfl
theorem Zzk{z:List (DepC×Dep)}{K:Value→World→Prop}(h:FlatO depC 40 w lo s (z.map Prod.fst))(a4:lo≤w.heap.size)
  (hK: ∀(z':List (DepC×Dep)) w',z'.Perm z→z'.Pairwise (λx y=>¬cmpS y.1.1 x.1.1<0)→Below lo w w'→FlatO depC 40 w' lo s (z'.map Prod.fst)→K (.tuple #[]) w'):
  callS prog 205 [Sl.v s,.func (.func 206) #[] #[]] w K:=by
 obtain⟨h1,h2,h3,h4,h5⟩:=h
 rw[cm]at h1 h2 h4
 obtain⟨a,n,c⟩:=s
 simp only at h1 h2 h3 h5
 subst h1
 rcases h5 with h5|⟨g,tail,ha,hg,hr⟩
 ·rw[List.map_eq_nil_iff]at h5; subst h5
  refine(AnyF.slices_SortFunc_none Tryz.layDp a c _ w).mono λe w' ⟨he,hw⟩=>⟨_,he,?_⟩
  subst hw
  exact hK [] _ (fx _) .nil (Below.refl _ _) ⟨rfl,h2,h3,h4,.inl rfl⟩
 ·subst ha
  have hO:=Zhf (α:=DepC×Dep) (·.1.1)
  have a5:RowB (λp:DepC×Dep=>depC p.1) w g z tail:=by
   unfold RowB at*
   rw[gc]at hr; exact hr
  haveI:Inhabited (DepC×Dep):=⟨((⟨#[]⟩,Sl.nil),⟨⟨#[]⟩,[]⟩)⟩
  refine Zgo Tryz.layDp (k:=2) Z7w Z5s (f:=λp:DepC×Dep=>depC p.1) (λ_=>rfl) (λx v hv=>by simp[depC,Sl.v]at hv; rcases hv with rfl|rfl<;>rfl) (λa b=>cmpS a.1.1 b.1.1) (Zjx hO.flip hO.trans) 206 #[] Zvz (λw0 x y hb _=> ?_) a5 (by unfold room at h4; omega) rfl λl' w' hp hs b a6=>?_
  ·have h:=SE.Zg0.go (k:=λv w'=>v= .int .i64 (cmpS x.1.1 y.1.1)∧Gr w0 w') (Z6c (a:=x.1) (b:=y.1) (w:=w0) λw' h=>⟨rfl,h⟩)
   exact Calls.mono h λe w' ⟨v,he,hv,hg⟩=>⟨by rw[he,hv],hg⟩
  ·have a0:=hp.length_eq
   refine hK l' w' hp hs (b.below a4 hg) ⟨by rw[cm]; exact a0.symm,by rw[cm,a0]; exact h2,h3,by rw[cm,a0]; exact h4,.inr ⟨g,tail,rfl,hg,?_⟩⟩
   unfold RowB at*
   rw[gc]; exact a6
theorem OwnS.rawT{l:List DepC}(h:OwnS Z9y 202 w lo S s l):RawT 202 depC 2 w lo s l:=by
 obtain⟨css,ho,hl,hr⟩:=h.row
 have e:css=l.map depC:=by
  apply List.ext_getElem (by simp[hl])
  intro i h1 h2
  obtain⟨cs,k1,k2⟩:=hr i (l[i]'(by simpa using h2)) (bq (by simpa using h2))
  rw[bq h1,cw]at k1
  rw[k1,lf]; exact k2.1
 rw[e]at ho
 exact⟨ho,h.len⟩
section
variable {w w':World} {lo:Nat} {s:Sl} {l:List Int}
end
section
variable {w w':World} {lo:Nat} {m rest:Sl} {M Q:List Int}
theorem Z6r(h:OwnS intE 3 w lo None' m M)(hi:i<M.length): ∃ad,m.a=some ad∧ ∀w',Ext w w'→ldc w' (ad.add (i*1)) [.int .i64 M[i]]:=by
 obtain⟨ad,cs,h1,⟨rfl,_⟩,h3⟩:=h.el (bq hi)
 exact⟨ad,h1,h3⟩
end
theorem Zt9(n:Nat):(madeCells (Value.int .i64 0).cells (n*1))=(((List.replicate n (0:Int)).map λx=>[Value.int .i64 x]).flatten).toArray:=by
 have e:((List.replicate n (0:Int)).map λx=>[Value.int .i64 x]).flatten=List.replicate n (Value.int .i64 0):=by
  induction n with
  |zero=>rfl
  |succ n ih=>rw[mo,fg,ge,ih,mo]; rfl
 rw[e]
 unfold madeCells
 apply Array.ext
 ·simp
 ·intro i h1 h2
  have:(Value.int .i64 0).cells= #[Value.int .i64 0]:=rfl
  simp[this,Nat.mod_one]
theorem Z4g:(prog.info? 3).map (λi=>(i.zero,i.size,i.bytes))=some (some (.int .i64 0),1,8):=kR
theorem Z1n{R:Sl→World→Prop}(hn:n≤1000000)(hR: ∀t w',Ext w w'→OwnS intE 3 w' w.heap.size None' t (List.replicate n 0)→(∃ad,t.a=some ad)→R t w'):
  semS prog (Instr.makeSlice 158 (Value.int .i64 (n:Int)) (Value.int .i64 (n:Int))) w λv w'=>∃t:Sl,v=Sl.v t∧R t w':=by
 obtain⟨i,h2,hi⟩:=iy.1 Z4g
 simp only[Prod.mk.injEq]at hi
 obtain⟨h3,h5,h6⟩:=hi
 refine⟨_,_,run_make w 158 3 i (.int .i64 0) underlying158 h2 h3 .i64 .i64 n n oM (Int.le_refl _) (by rw[h6]; omega) oM,⟨some ⟨w.heap.size,0,none⟩,n,n⟩,by simp[Sl.v],hR _ _ (Ext.alloc _ _) ?_ ⟨_,rfl⟩⟩
 have ef:((List.replicate n (0:Int)).map λx=>[Value.int .i64 x]).flatten.length=n*1:=by rw[Zic (k:=1) _ (λ_=>rfl),List.length_replicate]
 refine⟨⟨(List.replicate n (0:Int)).map λx=>[Value.int .i64 x],⟨ef,.inr ⟨w.heap.size,n,_,rfl,df _,heap_alloc_new w _,df _,by rw[Zd]; omega,?_,?_⟩⟩,by simp,λi x hx=>?_⟩,by simp,λ_ h=>h.elim,λ_ _ h=>h.elim⟩
 ·rw[bw,h5,Zt9]
  rw[ia]; exact ef
 ·rw[bw,h5,Zt9]
  show List.take (n*1) _=_
  rw[mn]
  exact dg (by rw[ef]; exact df _)
 ·rw[fi,hx]
  exact⟨_,rfl,rfl,trivial⟩
theorem OwnS.setInt{m:Sl}{M:List Int}(h:OwnS intE 3 w lo None' m M){x:Int}(hi:i<M.length)(ha:m.a=some ad){K:World→Prop}
  (hK: ∀w',But ad.block w w'→w'.heap.size=w.heap.size→lo≤ad.block→OwnS intE 3 w' lo None' m (M.set i x)→K w'):stw w (ad.add (i*1)) [.int .i64 x] K:=by
 have hs:=h.setEl (i:=i) (x:=x) (o:=0) (new:=[.int .i64 x]) hi ha (λcs a0=>by
  obtain⟨rfl,_⟩:=a0
  exact⟨rfl,trivial⟩) (by show 0+1≤1; omega) (K:=K) λw' hb hz o=>hK w' hb hz (h.block ha).1 o
 rw[add_zero]at hs
 exact hs
theorem newS.setT{zs:List Value}{t:TypeId}{k:Addr→World→Prop}(hl:cs.length=zs.length)(h: ∀a w',Ext w w'→BoxT t w' a cs→a.block=w.heap.size→k a w'):newS w zs t λa w1=>stw w1 a cs λw2=>k a w2:=
 newS.introT λa w1 x1 ha a4 a5=>stw0.introT ha hl λw2 b2 hz a0=>h a w2 (b2.ext x1 oM) a0 a4
end Go.Hal
namespace Go.Hal
def Z9d(D N Di P:Int):Prop:=1≤D∧D≤4096∧1≤N∧N≤128∧LimP Di P
end Go.Hal
namespace Go.Hal
theorem plim_se{N Di P:Int}(hR: ∀b w',Ext w w'→(b=true↔Z9d D N Di P)→R b w'):SE.Zgz D N Di P w R:=by
 unfold SE.Zgz
 have r:=Ext.refl
 refine newS.intro λa w1 x1 ha _ _=>⟨D,ha.at0 (r _) rfl,bound ⟨D,λ_=>ha.at0 (r _) rfl,bound ⟨N,λ_=>ha.at1 (r _) rfl,bound ⟨N,λ_=>ha.at1 (r _) rfl,bound ⟨Di,λ_=>ha.at1 (r _) rfl,bound ⟨Di,λ_=>ha.at1 (r _) rfl,bound ⟨P,λ_=>ha.at1 (r _) rfl,bound ⟨P,λ_=>ha.at1 (r _) rfl,hR _ w1 x1 ?_⟩⟩⟩⟩⟩⟩⟩⟩
 unfold Z9d LimP
 simp only[bx,decide_eq_true_eq,and_assoc]
structure ManS(w:World)(S:Nat→Prop)(d e o v:Sl)(m:Mani):Prop where
 d:SlR depE w S d m.deps
 e:SlR depE w S e m.dev
 o:SlR depE w S o m.opt
 v:SlR depE w S v m.over
theorem ManS.ext{v:Sl}(h:ManS w S d e o v m)(hx:Ext w w'):ManS w' S d e o v m:=⟨h.d.ext hx,h.e.ext hx,h.o.ext hx,h.v.ext hx⟩
theorem ManS.mono{v:Sl}(h:ManS w S d e o v m)(hs: ∀b,S b→S' b):ManS w S' d e o v m:=⟨h.d.mono hs,h.e.mono hs,h.o.mono hs,h.v.mono hs⟩
def jobC(d e o v p:Sl)(old:Option Addr)(pr:Bool):List Value:=[Sl.v d,Sl.v e,Sl.v o,Sl.v v,Sl.v p,.pointer old,.bool pr]
def JobOut(w:World)(a a3:Addr)(c:Int)(R:Sl→Sl→Sl→Sl→Sl→Option Addr→Bool→Int→World→Prop):Prop:=
 ∃(d e o v p:Sl) (old:Option Addr) (pr:Bool),ldc w a [Sl.v d,Sl.v e,Sl.v o,Sl.v v,Sl.v p,.pointer old,.bool pr]∧stw w a3 [Sl.v d,Sl.v e,Sl.v o,Sl.v v,Sl.v p,.pointer old,.bool pr] λw'=>
  ∃(d e o v p:Sl) (old:Option Addr) (pr:Bool),ldc w' a3 [Sl.v d,Sl.v e,Sl.v o,Sl.v v,Sl.v p,.pointer old,.bool pr]∧R d e o v p old pr c w'
theorem JobOut.mk{c:Int}{R:Sl→Sl→Sl→Sl→Sl→Option Addr→Bool→Int→World→Prop}{v p:Sl}{old:Option Addr}{pr:Bool}(ha:BoxAt w a (jobC d e o v p old pr))(h3:BoxAt w a3 cs)(hl:cs.length=7)
  (hR: ∀w',But a3.block w w'→R d e o v p old pr c w'):JobOut w a a3 c R:=
 ⟨d,e,o,v,p,old,pr,ha.at0 (r:=[]) xR rfl,stw0.intro h3 (by rw[hl]; exact df _) λw' b _ hb=>⟨d,e,o,v,p,old,pr,hb.at0 xR rfl,hR w' b⟩⟩
theorem RowB.getSl{g:Nat}{l:List Sl}{tail:List Value}(h:RowB slC w g l tail)(hi:i<l.length): ∀w',Ext w w'→ldc w' ((⟨g,0,none⟩:Addr).add (i*1)) [l[i].v]:=λw' hx=>(h.ext hx).ld (k:=1) (λ_=>rfl) hi
theorem Z44{q:Quest}{f:Nat}(hf:Zoz q f){sp:Addr}{K:K7}{d3 d4:Int}{ns:List Node}{k t:Nat}{ch:List Pin}{nds chs:Sl}{R:World→Prop}(hC:CxP w sp q K)(hb:BoxAt w sp (srchP K q.D q.N d3 d4 t false 0 Sl.nil))(hN:NsOk q ns)(hk:k<ns.length)
  (y1:ch.length≤64) (ht:t≤q.D) (hD:q.D≤4096) (hs:SlR nodeE w (Nb sp w) nds ns) (k8:SlR pinE w (Nb sp w) chs ch) (d1:q.go (f+1) ns k [] (envC (Zj7 ns k) ch) t≠ .out)
  (hR: ∀w',PostP q sp K d3 d4 w (q.go (f+1) ns k [] (envC (Zj7 ns k) ch) t) w'→R w'):SE.Zd7 (some sp) nds (k:Int) chs w R:=by
 unfold SE.Zd7
 have s5:ns[k]? =some ns[k]:=bq hk
 have l5:Zj7 ns k=ns[k].ctx:=by unfold Zj7 Zy0; rw[fi,s5]; rfl
 rw[l5]at d1 hR
 have z2:=hs.len
 have t4:=hC.lt
 have hG:=hC.good
 have s9:=hN.len
 have z1:=hN.big
 obtain⟨an,cx,ex,r1,_,l6,_,r3⟩:=Zed hs hk
 obtain⟨r4,v2⟩:=hN.ctx _ (cj hk)
 refine⟨an,⟨r1,oM,oM⟩,cx,(r3 _ xR).mid (k:=4) rfl,Z76 (Nb.old sp w) l6 k8 oM oM λso w1 x1 o1=>?_⟩
 have r6:=Zyn r4.nodup ch
 have y3:=Zxe ns[k].ctx ch
 have r7:=Z36 (Zxs l6) (Zxs k8)
 generalize y2:envC ns[k].ctx ch=e at*
 have f7:q.bind ns k e=match targets q (Zi8 e) (Zi8 e)with|none=>.graph|some xs=>match putK q.N (ns.map Node.key) xs with|none=>.many|some r=>.ok (Zdt ns k r.2++r.1):=rfl
 rw[Quest.go]at d1 hR
 have y9:(Zi8 e).length=e.length:=(Zes e).length_eq
 have i1:FlatO pinC 40 w1 w.heap.size so e:=FlatO.of (E:=pinE) (λx cs h=>h.1) o1 (by unfold room; omega)
 refine Zzm i1 x1.size r6 λw2 j5 l7=>⟨rfl,?_⟩
 have t5: ∀p∈Zi8 e,Str p.name:=λp hp=>r7 p ((Zes e).mem_iff.1 hp)
 have x2:Ext w w2:=x1.trans' j5
 have d2:=l7.pins t5
 generalize Zi8 e=E at*
 have p9:=d2.len
 have s2:=x2.size
 have u9:SlR pinE w2 (Nb sp w2) so E:=d2.nbNew t4
 rw[p9]
 refine(Z4u (n:=E.length) oM λg w3 x3 hg g8=>?_:semS prog _ w2 λv w'=>∃t:Sl,v=Sl.v t∧_)
 have u3:=x2.trans x3
 have s3:=x3.size
 have y6:=g8.lt
 have y7:g≠sp.block:=oM
 have r9:w.heap.size≤g:=oM
 refine loop1.up (N:=E.length) (by rw[Zd]; omega) (λi w'=>Ext w w'∧Ext w2 w'∧ ∃(c7:List Sl) (l:List (List Pin)),RowB slC w' g c7 []∧c7.length=E.length∧CtxsAre q E (E.take i) l∧ ∀j (h1:j<c7.length) (h2:j<l.length),SlR pinE w' (λb=>g<b∧b<w'.heap.size) c7[j] l[j])
  ⟨u3,x3,_,[],g8,by simp,.nil,λj _ h2=>by simp at h2⟩ λi w4 o9 hi ⟨x4,e9,c7,l,f5,o2,hA,l0⟩ hn=>⟨λi4=>?_,λy5=>?_⟩
 ·have a6:i<E.length:=oM
  obtain⟨ad,a9,_,f9,hc⟩:=Zlh d2 a6
  have m5:=hA.len
  rw[cd]at m5
  refine⟨ad,⟨a9,oM,oM⟩,_,_,_,_,hc _ e9,newS.set rfl λv7 w5 x5 r2 _=>bnd.drew λw6 x6=>?_⟩
  have g2:=x5.trans x6
  have j0:=x4.trans g2
  have j6:=hC.ext j0
  obtain⟨SC,r,k7,_,_,_⟩:=j6.cat
  have z6:=g2.size
  refine⟨sp,rfl,_,hb.at0 j0 rfl,sp,rfl,K.mD,K.mDev,K.mOpt,K.mOv,hb.at1 (k:=1) j0 rfl,_,_,_,_,(r2.ext x6).ldc.pre (r:=[]) rfl,?_⟩
  have q0:=d2.ext (e9.trans g2)
  have fin: ∀(c8:Sl) (ok:Bool) w7 (c:List Pin),Ext w6 w7→SlR pinE w7 (λb=>g<b∧b<w7.heap.size) c8 c→(ok=true→Ze3 q.L q.m.over E E[i]=some c)→(ok=false→Ze3 q.L q.m.over E E[i]=none)→
    ∃(g3:Addr),((⟨some ⟨g,0,none⟩,E.length,E.length⟩:Sl).a=some g3∧(0:Int)≤(i:Int)∧(i:Int)<(((⟨some ⟨g,0,none⟩,E.length,E.length⟩:Sl).len:Nat):Int))∧stw w7 (g3.add ((i:Int).toNat*1)) [(Sl.v c8)] λh3=>(((!ok)=true→R h3)∧((!ok)=false→o9 (Za ((i:Int)+1)) h3)):=by
   intro c8 ok w7 c x7 d8 n0 m9
   have b4:=g2.trans x7
   have e8:=x4.trans b4
   refine⟨⟨g,0,none⟩,⟨rfl,oM,by show(i:Int)<(E.length:Int); omega⟩,?_⟩
   rw[bw]
   refine(f5.ext b4).st (k:=1) (λ_=>rfl) (i:=i) oM (x:=c8) λw8 b8 q9=>?_
   have j3:Ext w w8:=b8.ext e8 r9
   have u5:Ext w2 w8:=b8.ext (e9.trans b4) oM
   have s8:=b8.1
   refine⟨λhq=>?_,λhq=>hn a6 w8 ⟨j3,u5,_,l++ [c],q9,by rw[fw]; exact o2,?_,λj h1 h2=>?_⟩⟩
   ·have i5:ok=false:=by simpa using hq
    have r8:q.bind ns k e= .graph:=by rw[f7,Zod ⟨_,cj a6,m9 i5⟩]
    rw[r8]at hR
    exact hR w8 ⟨j3.but _,ht,hb.ext j3⟩
   ·have i5:ok=true:=by simpa using hq
    rw[bu a6]; exact hA.snoc (n0 i5)
   ·rw[br,fl]at h2
    have z7:=b4.size
    by_cases hj:j<l.length
    ·rw[List.getElem_set_ne oM,lh hj]
     rw[fw]at h1
     exact(((l0 j h1 hj).ext b4).but b8 λh=>by have:=h.1; omega).mono λb hb=>⟨hb.1,by have:=hb.2; omega⟩
    ·have s0:j=i:=oM
     subst s0
     rw[List.getElem_set_self,List.getElem_append_right oM]
     have e1: [c][j - l.length]'(by simp; omega)=c:=by simp
     rw[e1]
     exact(d8.but b8 λh=>by have:=h.1; omega).mono λb hb=>⟨hb.1,by have:=hb.2; omega⟩
  have y4:=f5.lt
  refine SE.Zgb.go (Zqd (pn:=E[i]) k7 (Nb.old sp w6) (S3:=λb=>w.heap.size≤b∧b<w2.heap.size) (λb hb=>by have:=hb.2; have:=e9.size; omega) j6.over q0 f9 (λc c8 w7 d8 x7 l8 o4=>⟨c8,true,rfl,fin c8 true w7 c x7 ((l8.pins o4).mono λb hb=>⟨by have:=hb.1; omega,hb.2⟩) (λ_=>d8) nO⟩) λw7 d8 x7=>⟨_,false,rfl,fin _ false w7 [] x7 (SlR.nil trivial) nO λ_=>d8⟩)
 rw[dg oM]at hA
 clear hn
 have m5:=hA.len
 have s4:=x4.size
 have v9:=hC.ext x4
 have t3:=hs.nbExt x4
 rw[hA.targets]at f7
 have eN:nodeE.bytes=88:=rfl
 have eE:edgeE.bytes=24:=rfl
 refine SE.Zbd.go (Zs8 (Nb.old sp w4) t3 λout0 w5 x5 o5=>⟨_,rfl,?_⟩)
 have z8:=x4.trans x5
 have z5:(List.zipWith mkNd E l).length=E.length:=by rw[List.length_zipWith]; omega
 have t9: ∀(i:Nat) (h1:i<E.length) (h2:i<l.length),(List.zipWith mkNd E l)[i]? =some (mkNd E[i] l[i]):=λi h1 h2=>by
  rw[bq oM,List.getElem_zipWith]
 generalize z3:List.zipWith mkNd E l=xs at*
 have t1: ∀(p:Pin) (c:List Pin),Ze3 q.L q.m.over E p=some c→ ∀(m:List Node) (h:0<(ns++m).length),(ns++m)[0].key≠(p.name,p.v,c):=λp c hc m h he=>by
  obtain⟨x,hx,s1⟩:=hN.root
  have h1:(ns++m)[0]? =some x:=by rw[dt oM]; exact hx
  rw[bq h]at h1
  cases h1
  rw[s1]at he
  have:=congrArg (·.1) he
  exact Z05 hG (Ztd hc) this.symm
 have j7:=d2.ext e9
 have x0:=j7.ext x5
 refine loop3.up (N:=E.length) (by rw[Zd]; omega) (λb0 se i w'=>∃(a0:List Node) (ed:List Edge),Ext w4 w'∧OwnS nodeE 76 w' w4.heap.size (Nb sp w4) b0 (ns++a0)∧OwnS edgeE 80 w' w4.heap.size None' se ed∧Apart b0 se∧(ns++a0).length≤q.N∧(∀x∈a0,Rises x.ctx∧x.ctx.length≤2048)∧ed.length=i∧
   putK q.N (ns.map Node.key) xs=(putK q.N ((ns++a0).map Node.key) (xs.drop i)).map λr=>(a0++r.1,ed++r.2))
  ⟨[],[],x5,by rw[dp]; exact o5,OwnS.nil _ _,(λ_ _ _ h=>by cases h),by rw[dp]; exact s9,(λ_ h=>by cases h),rfl,by rw[dp,gz]; cases putK q.N (ns.map Node.key) xs<;>rfl⟩ λb0 se i w6 o9 y8 ⟨a0,ed,x6,oN,oE,f6,m3,d5,b5,a5⟩ m8=>⟨λi4=>?_,λv3=>?_⟩
 ·have a6:i<E.length:=oM
  have i3:i<l.length:=oM
  have g6:i<c7.length:=oM
  obtain⟨ad,a9,_,f9,hc⟩:=Zlh j7 a6
  have d9:=hA.get i a6 i3
  have n9:=l0 i g6 i3
  have t7:xs.drop i=mkNd E[i] l[i]::xs.drop (i+1):=by
   obtain⟨h1,h2⟩:=ce.1 (t9 i a6 i3)
   rw[dm h1,h2]
  rw[t7]at a5
  have t0:1≤(ns++a0).length:=by rw[br]; omega
  have n8:=t1 E[i] l[i] d9 a0
  have k9:=Ztc hG d9
  have g4:=λw' (hx:Ext w4 w')=>f5.getSl g6 w' hx
  generalize E[i]=p at*
  generalize y0:l[i]=c at*
  generalize c7[i]=sc at*
  have g7:(mkNd p c).key=(p.name,p.v,c):=rfl
  refine⟨ad,⟨a9,oM,oM⟩,_,_,_,_,hc _ x6,newS.set rfl λf2 w7 x7 d7 v0=>?_⟩
  have b4:=x6.trans x7
  have u0:=oN.ext x7
  have i7:=u0.read (by rw[eN]; unfold room; omega) (by rw[Zd]; omega)
  have o3:=oN.len
  have s6:=x6.size; have s7:=x7.size
  refine loop1.from1 (N:=(ns++a0).length) (by rw[Zd]; omega) (λn w'=>Ext w7 w'∧ ∀j (h:j<(ns++a0).length),1≤j→j<n→(ns++a0)[j].key≠(p.name,p.v,c)) ⟨Ext.refl _,λj _ h1 h2=>by omega⟩ λn w8 v5 h1 z0 ⟨x8,j8⟩ m6=>bnd.drew λw9 x9=>bound ?_
  have c9:=x8.trans x9
  have p5:=b4.trans c9
  obtain⟨a8,x,f4,e5,o6,t6,o8,g9⟩: ∃(a8:Addr) (x:Node) (f4:Sl),(n<(ns++a0).length→b0.a=some a8)∧(∀h:n<(ns++a0).length,(ns++a0)[n]=x)∧(n<(ns++a0).length→ ∃S,SlR pinE w9 S f4 x.ctx)∧(n<(ns++a0).length→ldc w9 (a8.add (n*6)) [.string x.name])∧(n<(ns++a0).length→ldc w9 ((a8.add (n*6)).add 1) [.int .i64 x.v.ma,.int .i64 x.v.mi,.int .i64 x.v.pa]∧ldc w9 ((a8.add (n*6)).add 4) [f4.v]):=by
   by_cases b1:n<(ns++a0).length
   ·obtain⟨a',c',e',p7,_,p8,_,h8⟩:=Zed i7 b1
    exact⟨a',_,c',λ_=>p7,λ_=>rfl,λ_=>⟨_,p8.ext c9⟩,λ_=>(h8 _ c9).pre rfl,λ_=>⟨(h8 _ c9).mid (k:=1) rfl,(h8 _ c9).mid (k:=4) rfl⟩⟩
   ·exact⟨⟨0,0,none⟩,rootNode,Sl.nil,λh=>absurd h b1,λh=>absurd h b1,λh=>absurd h b1,λh=>absurd h b1,λh=>absurd h b1⟩
  have k5:=d7.ext c9
  refine⟨a8,λh=>⟨e5 (by have:=of_decide_eq_true h; omega),oM,of_decide_eq_true h⟩,x.name,λh=>by rw[bw]; exact o8 (by have:=of_decide_eq_true h; omega),p.name,λ_=>k5.at0 xR rfl,bound ?_⟩
  have gt: ∀{b c:Bool},(b&&c)=true→b=true:=λh=>(Bool.and_eq_true_iff.1 h).1
  refine⟨a8,λh=>⟨e5 (by have:=of_decide_eq_true (gt h); omega),oM,of_decide_eq_true (gt h)⟩,x.v.ma,x.v.mi,x.v.pa,λh=>by rw[bw]; exact(g9 (by have:=of_decide_eq_true (gt h); omega)).1,p.v.ma,p.v.mi,p.v.pa,λ_=>k5.at1 (k:=1) xR rfl,bound ?_⟩
  have ev:((x.v.ma==p.v.ma)&&((x.v.mi==p.v.mi)&&((x.v.pa==p.v.pa)&&true)))=decide (x.v=p.v):=verB
  rw[ev]
  refine⟨a8,λh=>⟨e5 (by have:=of_decide_eq_true (gt h); omega),oM,of_decide_eq_true (gt h)⟩,f4,λh=>by rw[bw]; exact(g9 (by have:=of_decide_eq_true (gt h); omega)).2,⟨g,0,none⟩,λ_=>⟨rfl,oM,by show(i:Int)<(E.length:Int); omega⟩,sc,λ_=>by rw[bw]; exact g4 _ p5,?_⟩
  refine gCall.intro (decide (x.ctx=c)) (λhg q' hq=>SE.Zbr.go (by
   obtain⟨S',r0⟩:=t6 (by have:=of_decide_eq_true (gt hg); omega)
   exact Z0x r0 (n9.ext p5) λw' hx=>⟨_,rfl,hq _ hx⟩)) λp3 p4 u4 d0=>?_
  have c1:=c9.trans u4
  have h4:=b4.trans c1
  have l9:(decide ((n:Int)<(b0.len:Int))&&((!bEq x.name p.name|| !decide (x.v=p.v))|| !p3))=(decide (n<(ns++a0).length)&& !decide (x.key=(p.name,p.v,c))):=by
   have e1:decide ((n:Int)<(b0.len:Int))=decide (n<(ns++a0).length):=decide_eq_decide.2 oM
   rw[e1]at d0 ⊢
   cases hd:decide (n<(ns++a0).length)with
   |false=>rfl
   |true=>
    rw[hd]at d0
    rw[dw,dw]
    have e2:decide (x.key=(p.name,p.v,c))=(bEq x.name p.name&&decide (x.v=p.v)&&decide (x.ctx=c)):=by
     rw[ep]
     simp only[Node.key,decide_eq_true_eq,Prod.mk.injEq,bx,Zap]
     exact⟨λ⟨a,b,c⟩=>⟨⟨a,b⟩,c⟩,λ⟨⟨a,b⟩,c⟩=>⟨a,b,c⟩⟩
    rw[e2]
    cases hq1:bEq x.name p.name with
    |false=>rfl
    |true=>
     cases i6:decide (x.v=p.v)with
     |false=>rfl
     |true=>
      rw[hq1,i6]at d0
      rw[d0 rfl]
      simp
  rw[l9]
  refine⟨λhq=>?_,λhq=>join.named λJ hJ=>?_⟩
  ·rw[bx,decide_eq_true_eq,ik,decide_eq_false_iff_not]at hq
   refine m6 hq.1 p4 ⟨c1,λj hj j1 j2=>?_⟩
   rcases dn.1 j2 with h2|h2
   ·exact j8 j hj j1 h2
   ·subst h2; rw[o6 hj]; exact hq.2
  have n2:PlaceAt (ns++a0) (p.name,p.v,c) n:=⟨h1,oM,j8,λh=>by
   rw[decide_eq_true h,dw,ka,decide_eq_true_eq]at hq
   rw[o6 h]; exact hq⟩
  clear m6 l9 hq
  have e0:=n2.find n8
  have h6:=x7.trans c1
  have j9: ∀(e6:Sl) w' (a4:List Node),Ext w4 w'→BoxAt w' f2 (pinC p)→OwnS nodeE 76 w' w4.heap.size (Nb sp w4) e6 (ns++a4)→OwnS edgeE 80 w' w4.heap.size None' se ed→Apart e6 se→(ns++a4).length≤q.N→(∀x∈a4,Rises x.ctx∧x.ctx.length≤2048)→
    putK q.N (ns.map Node.key) xs=(putK q.N ((ns++a4).map Node.key) (xs.drop (i+1))).map (λr=>(a4++r.1,ed++(⟨p.name,(n:Int)⟩::r.2)))→J e6 w':=by
   subst hJ
   intro e6 i9 a4 g1 i0 q1 q2 q3 q4 q5 q6
   have s11:=g1.size
   refine⟨p.name,i0.at0 xR rfl,newS.intro λv6 g0 b9 d6 h9 _=> ?_⟩
   refine(q2.ext b9).push Z9j (by have:=b9.size; omega) (x:=⟨p.name,(n:Int)⟩) (S':=None') ⟨rfl,f9⟩ (d6.ldc.pre (r:=[]) rfl) (λ_ h=>h.elim) (λ_ _ h=>h.elim) (by rw[eE,b5]; unfold room; omega) (by rw[Zd,b5]; omega) λu2 b3 b6 a7 b2 c6=>?_
   have b6:=OwnS.flat (λh=>h) b6
   have e3:Oth se g0 b3:=⟨a7.size,b2⟩
   have f1:Ext w4 b3:=(g1.trans b9).trans' a7
   have p1:=q1.ext b9
   refine m8 a6 e6 u2 b3 ⟨a4,_,f1,p1.oth e3 q3 (λa ha q8=>by have:=(q2.block ha).1; have:=q8.1; omega),b6,λa b ha c4=>?_,q4,q5,by rw[br,fl,b5],?_⟩
   ·rcases c6 b c4 with h|h
    ·exact q3 a b ha h
    ·have:=(p1.block ha).2.1; omega
   ·rw[q6]
    congr 1
    funext r
    rw[cc]; rfl
  clear hJ m8
  have e7:=x4.trans h4
  refine⟨λhq=>?_,λhq=>?_⟩
  ·have n1:n=(ns++a0).length:=oM
   have c5:=e0.2 n1
   rw[←g7]at c5
   refine⟨sp,rfl,q.N,?_,λi6=>?_,λi6=>bnd.drew λi9 g1=>?_⟩
   ·have:=hb.at1 (k:=8) (cs':=[.int .i64 (q.N:Int)]) e7 rfl
    rw[Zfq]; exact this
   ·have i2:((ns++a0).map Node.key).length=q.N:=by rw[cm]; omega
    rw[Z11 c5 i2]at a5
    have hm:q.bind ns k e= .many:=by rw[f7]; dsimp only; rw[a5]; rfl
    rw[hm]at hR
    exact SE.Zcp.go (pend_se (hb.ext e7) λi9 p6 k4=>⟨rfl,hR i9 ⟨(e7.but _).trans' p6,(t:Int),Sl.nil,k4⟩⟩)
   ·have m7: ¬((ns++a0).map Node.key).length=q.N:=by rw[cm]; omega
    rw[Z5d c5 m7]at a5
    have c2:=c1.trans g1
    have h5:=b4.trans c2
    refine⟨_,(d7.ext c2).at0 xR rfl,_,_,_,(d7.ext c2).at1 (k:=1) xR rfl,⟨g,0,none⟩,⟨rfl,oM,by show(i:Int)<(E.length:Int); omega⟩,sc,by rw[bw]; exact g4 _ h5,newS.intro λu6 g0 b9 d6 h9 _=> ?_⟩
    have f0:=h5.trans b9
    have h7:=x7.trans (c2.trans b9)
    have u1:=f0.size
    have v4:=f5.lt
    have n7:nodeE.rep g0 (λb=>Nb sp w4 b) (mkNd p c) [.string p.name,.int .i64 p.v.ma,.int .i64 p.v.mi,.int .i64 p.v.pa,sc.v,Sl.nil.v]:=⟨f9,sc,Sl.nil,rfl,(n9.ext f0).mono λb hb=>⟨hb.2,by have:=hb.1; omega⟩,SlR.nil trivial⟩
    have m4:(ns++a0).length+1≤q.N:=by rw[cm]at m7; omega
    refine(oN.ext h7).push Z6h u1 (x:=mkNd p c) (S':=Nb sp w4) n7 (d6.ldc.pre (r:=[]) rfl) (λb hb=>by have:=hb.1; omega) (λa ha hb=>by have:=(oN.block ha).1; have:=hb.1; omega) (by rw[eN]; unfold room; omega) (by rw[Zd]; omega) λp2 b3 b6 a7 b2 c6=>?_
    have b6:OwnS nodeE 76 b3 w4.heap.size (Nb sp w4) p2 (ns++(a0++ [mkNd p c])):=by
     rw[←cc]
     exact b6.mono (λb hb=>hb.elim id id) (λb hb=>by have:=hb.1; have:=a7.size; omega) (λa ha hb=>by have:=(b6.block ha).1; have:=hb.1; omega)
    have e3:Oth b0 g0 b3:=⟨a7.size,b2⟩
    have f1:Ext w4 b3:=f0.trans' a7
    have i0:BoxAt b3 f2 (pinC p):=(d7.ext (c2.trans b9)).keep (S:=λb'=>b'=f2.block) rfl λb' c4 i4=>b2 b' i4 λv8 k0 e=>by
     have h1:=(oN.block k0).2.1
     have c4:b'=f2.block:=c4
     omega
    have h0:=oE.ext h7
    refine j9 p2 b3 (a0++ [mkNd p c]) f1 i0 b6 (h0.oth e3 f6.swap λ_ _ h=>h.elim) (λa b ha c4=>?_) (by rw[←cc,br,fl]; exact m4) (λx hx=>?_) ?_
    ·rcases c6 a ha with h|h
     ·exact f6 a b h c4
     ·have:=(h0.block c4).2.1; omega
    ·rcases dj.1 hx with hx|hx
     ·exact d5 x hx
     ·rw[ci]at hx; subst hx; exact k9
    ·rw[a5,Option.map_map]
     have e1:(ns++a0).map Node.key++ [(mkNd p c).key]=(ns++(a0++ [mkNd p c])).map Node.key:=by rw[←cc,ec (l₂:= [mkNd p c])]; rfl
     rw[e1]
     congr 1
     funext r
     show(a0++(mkNd p c::r.1),ed++((⟨p.name,_⟩:Edge)::r.2))=_
     rw[cc,n1,cm]; rfl
  ·have n3:n<(ns++a0).length:=by have:=n2.le; omega
   have e4:=e0.1 n3
   rw[←g7]at e4
   rw[Z5c e4,Option.map_map]at a5
   exact j9 b0 p4 a0 h4 (d7.ext c1) (oN.ext h6) (oE.ext h6) f6 m3 d5 a5
 ·have r5:xs.drop i= []:=gd oM
  rw[r5]at a5
  have a5:putK q.N (ns.map Node.key) xs=some (a0,ed):=by rw[a5,putK]; simp
  have k6:q.bind ns k e= .ok (Zdt ns k ed++a0):=by rw[f7]; dsimp only; rw[a5]
  rw[k6]at hR d1
  dsimp only at hR d1
  have m1:k<(ns++a0).length:=by rw[br]; omega
  have m0:(ns++a0)[k]=ns[k]:=lh hk
  have o3:=oN.len
  have p0:OwnS nodeE 76 w6 w4.heap.size (λb=>Nb sp w4 b∨ ∃ad,se.a=some ad∧b=ad.block) b0 (ns++a0):=oN.mono (λb hb=>.inl hb) (λb hb=>by
   rcases hb with hb|⟨ad,a9,rfl⟩
   ·exact oN.lt b hb
   ·exact(oE.block a9).2.1) (λa ha hb=>by
   rcases hb with hb|⟨ad,a9,he⟩
   ·exact oN.apart a ha hb
   ·exact f6 a ad ha a9 he)
  obtain⟨j4,u7,c3,_,_⟩:=p0.el (i:=k) (x:=ns[k]) (by rw[bq m1,m0])
  refine⟨j4,⟨c3,oM,oM⟩,?_⟩
  rw[bw]
  have n4:=oE.read (by rw[eE,b5]; unfold room; omega) (by rw[Zd,b5]; omega)
  refine p0.setEl (i:=k) (x:={ns[k]with edges:=ed}) (o:=5) (new:=[se.v]) m1 c3 (λcs' g5=>?_) (by show 5+1≤6; omega) λw7 b7 z4 o7=>?_
  ·rw[m0]at g5
   obtain⟨k1,c',e',rfl,k2,k3⟩:=g5
   exact⟨k1,c',se,rfl,k2,n4.mono λb hb=>.inr (hb.elim (λh=>h.elim) id)⟩
  ·have o0:(ns++a0).set k {ns[k]with edges:=ed}=Zdt ns k ed++a0:=Zuu hk
   rw[o0]at o7
   have m2:=(oN.block c3).1
   have x7:Ext w4 w7:=b7.ext x6 m2
   have e8:=x4.trans x7
   have s7:=x7.size
   have f8:(Zdt ns k ed++a0).length=(ns++a0).length:=by rw[br,Zn4,br]
   have n5:SlR nodeE w7 (Nb sp w7) b0 (Zdt ns k ed++a0):=(o7.read (by rw[f8,eN]; unfold room; omega) (by rw[f8,Zd]; omega)).mono λb hb=>by
    rcases hb with(hb|⟨ad,a9,rfl⟩)|⟨ad,a9,rfl⟩
    ·exact⟨by have:=hb.1; omega,hb.2⟩
    ·have:=oE.block a9; have:=b7.1; exact⟨oM,oM⟩
    ·have:=o7.block a9; exact⟨this.2.1,oM⟩
   have q7:NsOk q (Zdt ns k ed++a0):=by
    refine⟨by rw[f8]; exact m3,hN.big,?_,λx hx=>?_⟩
    ·obtain⟨x,hx,t8⟩:=hN.root
     have h1:=congrArg (λl:List NKey=>l[0]?) (Zn3 ns k ed)
     simp only[fi]at h1
     rw[hx]at h1
     cases h2:(Zdt ns k ed)[0]? with
     |none=>rw[h2]at h1; cases h1
     |some y=>
      rw[h2]at h1
      have:y.key=x.key:=gu h1
      refine⟨y,?_,this.trans t8⟩
      rw[dt (ce.1 h2).1]; exact h2
    ·rcases dj.1 hx with hx|hx
     ·obtain⟨y,hy,he⟩:=Zuv hx
      rw[←he]; exact hN.ctx y hy
     ·exact d5 x hx
   have ew:Za ((k:Int)+1)=((k+1:Nat):Int):=by rw[Zc oM oM]; omega
   rw[ew]
   refine SE.Zcj.go (Zrf hf (k:=k+1) (hC.ext e8) (hb.ext e8) q7 (by rw[f8]; omega) ht hD n5 (λh=>?_) λw8 hP=>⟨rfl,hR w8 (hP.from (e8.but _))⟩)
   rw[if_neg oM]at d1
   exact d1
theorem Z1t{x:List Ver×Bool}(h:i<x.1.length):(opts x).drop i=some x.1[i]::(opts x).drop (i+1):=by
 have hl:i<(opts x).length:=by unfold opts; rw[br,cm]; omega
 rw[dm hl]
 congr 1
 have:(opts x)[i]? =some (some x.1[i]):=by
  unfold opts
  rw[dt (by rw[cm]; exact h),fi,bq h]; rfl
 rw[bq hl]at this
 exact gu this
theorem Z1s:(opts (V,true)).drop V.length= [none]:=by
 unfold opts
 rw[ji sI,List.drop_of_length_le sI]; rfl
theorem Z40:(opts (V,false)).drop V.length= []:=List.drop_of_length_le (by simp[opts])
theorem Zug{b:Bool}:(opts (V,b)).drop (V.length+1)= []:=List.drop_of_length_le (by cases b<;>simp[opts])
theorem Z51{D:Nat}{k:Option Ver→Nat→Out}{o:Option Ver}{os:List (Option Ver)}{t:Nat}(h:t=D):Zj5 D k (o::os) t= .err 31:=by rw[Zj5,if_pos h]
theorem Z52{D:Nat}{k:Option Ver→Nat→Out}{o:Option Ver}{os:List (Option Ver)}{t:Nat}(h:t≠D):Zj5 D k (o::os) t=match k o (t+1)with| .fail t'=>Zj5 D k os t'|r=>r:=by rw[Zj5,if_neg h]; rfl
theorem Zqv(q:Quest): ∀f,Zoz q f
 |0=>λsp K d3 d4 ns k ws ch t i2 c1 j4 w _ _ _ _ _ _ _ _ b6=>absurd (by rw[Quest.go]) b6
 |f+1=>λsp K d3 d4 ns k ws ch t i2 c1 j4 w hC hb hN hk m1 m0 ht hD b6 hs hw c9=>by
  have hf:=Zqv q f
  have b2:=hw.len
  have hG:=hC.good
  have o2:=hC.lt
  refine SE.Zei.go ?_
  unfold SE.Zei
  refine⟨λhv=>?_,λhv=>?_⟩
  ·have m2:ws= []:=cq oM
   subst m2
   exact SE.Zd7.go (Z44 hf hC hb hN hk (by simpa using m1) ht hD hs c9 b6 λw' hP=>⟨rfl,rfl,hP⟩)
  ·obtain⟨wt,rest,rfl⟩: ∃a r,ws=a::r:=by
    cases ws with
    |nil=>exact absurd (by rw[b2]; rfl) hv
    |cons a r=>exact⟨a,r,rfl⟩
   obtain⟨ad,tr,k0,_,f6,f7,h0⟩:=Z61 hw (n:=0) sI
   simp only[List.getElem_cons_zero]at f6 f7 h0
   rw[Quest.go]at b6 ⊢
   have k8:ns[k]? =some ns[k]:=bq hk
   obtain⟨an,cx,ex,k3,_,h3,_,k5⟩:=Zed hs hk
   have g9:Zj7 ns k=ns[k].ctx:=by unfold Zj7 Zy0; rw[fi,k8]; rfl
   have o1:=hs.len
   have f5:SlR Zzv w (Nb sp w) (Sl.cut c1 ((1:Int).toNat) c1.len 3) rest:=by
    have h:=hw.cut (a:=1) (b:=c1.len) (by rw[b2]; simp) oM
    rw[b2,cu]at h
    rw[b2]; exact h
   have o0:(wt::rest).length=rest.length+1:=rfl
   generalize h9:(λ(o:Option Ver) (t:Nat)=>q.go f ns k rest (addO (envC (Zj7 ns k) ch) wt.name o) t)=kf at*
   refine⟨ad,⟨k0,oM,oM⟩,_,_,tr,h0 _ xR,newS.set rfl λa w2 x2 ha n7=>bnd.drew λw3 x3=>?_⟩
   have b0:=x2.trans x3
   have g4:=hC.ext b0
   obtain⟨SC,r,g7,_,_,_⟩:=g4.cat
   have d7:a.block≠sp.block:=oM
   rw[g9]at b6 ⊢
   generalize c7:Zj5 q.D kf (opts (q.cand ns[k].ctx wt)) t=res at*
   refine⟨sp,rfl,_,hb.at0 b0 rfl,_,ha.at0 x3 rfl,tr,ha.at1 (k:=2) (r:=[]) x3 rfl,sp,rfl,K.pS,hb.at1 (k:=6) b0 rfl,?_⟩
   refine SE.Zbk.go (Zvl (n:=wt.name) (ll:=wt.range) (lp:=q.pins) g7 ((Nb.old sp w).ext b0.size) (Nb.old sp w3) (f7.ext b0) g4.pins λi4 w4 x4 h6=>⟨_,rfl,?_⟩)
   have d1:=b0.trans x4
   have i7:=x3.trans x4
   have j6:SlR verE w4 (Nb sp w4) i4 (Zr4 q.L wt.name wt.range q.pins):=(FlatO.read (E:=verE) h6 (λ_=>rfl) λ_ _ x _=>⟨rfl,trivial⟩).nbNew (by have:=b0.size; omega)
   clear h6
   refine join.named λj1 d6=>?_
   have a5: ∀(v4:Addr) (told:Bool) w5,Ext w4 w5→(told=true→ ∃v,tells ns[k].ctx wt.name=some v∧BoxAt w5 v4 v.c)→(told=false→tells ns[k].ctx wt.name=none)→j1 v4 told w5:=by
    subst d6
    intro v4 told w5 x5 h8 h7
    refine join.named λj0 d5=>?_
    have f8:=d1.trans x5
    have i9:=i7.trans x5
    have a7: ∀(a8:Sl) (V:List Ver) (may:Bool) w6,Ext w5 w6→SlR verE w6 (Nb sp w6) a8 V→V.length≤1000→q.cand ns[k].ctx wt=(V,may)→may=(decide (wt.kind=2)&& !told)→j0 a8 w6:=by
     subst d5
     intro a8 V may w6 x6 hV n5 f0 i0
     rw[f0]at c7
     have n3:=hV.len
     have d2:=f8.trans x6
     have m8:=i9.trans x6
     have e9:=ha.ext m8
     have n0:=e9.lt
     have n2:=d2.size
     refine loop1.up (N:=V.length+1) (by rw[Zd]; omega) (λi w'=>∃ti:Nat,But sp.block w6 w'∧BoxAt w' sp (srchP K q.D q.N d3 d4 ti false 0 Sl.nil)∧ti≤q.D∧Zj5 q.D kf ((opts (V,may)).drop i) ti=res) ⟨t,(Ext.refl w6).but _,hb.ext d2,ht,by rw[gz]; exact c7⟩ λi w7 o4 hi ⟨ti,b7,c4,l7,a0⟩ hn=>bound (bound ?_)
     have j3:But sp.block w w7:=(d2.but _).trans' b7
     have j7:=b7.box e9 d7
     refine⟨wt.kind,λ_=>j7.at1 (k:=1) xR rfl,bound ?_⟩
     have f1:(decide ((i:Int)<(a8.len:Int))||((((i:Int)==(a8.len:Int))&&(wt.kind==2))&& !told))=(decide (i<V.length)||(decide (i=V.length)&&may)):=by
      have e1:decide ((i:Int)<(a8.len:Int))=decide (i<V.length):=decide_eq_decide.2 oM
      have e2:((i:Int)==(a8.len:Int))=decide (i=V.length):=by
       rw[ep,beq_iff_eq,decide_eq_true_eq]; omega
      have e3:(wt.kind==2)=decide (wt.kind=2):=by rw[ep,beq_iff_eq,decide_eq_true_eq]
      rw[e1,e2,e3,i0,kw]
     rw[f1]
     refine⟨λhq=>bnd.drew λw8 x8=>?_,λhq=>?_⟩
     ·obtain⟨o,k9,l0,l5⟩: ∃o,(opts (V,may)).drop i=o::(opts (V,may)).drop (i+1)∧(∀h:i<V.length,o=some V[i])∧(¬i<V.length→o=none):=by
       by_cases b5:i<V.length
       ·exact⟨some V[i],Z1t (x:=(V,may)) b5,λ_=>rfl,λh=>absurd b5 h⟩
       ·rw[decide_eq_false b5,li,bx,decide_eq_true_eq]at hq
        obtain⟨f2,hm⟩:=hq
        subst hm f2
        exact⟨none,by rw[Z1s,Zug],λh=>absurd h b5,λ_=>rfl⟩
      have n8:i≤V.length:=by
       rw[jd,decide_eq_true_eq,bx,decide_eq_true_eq]at hq
       rcases hq with h|h
       ·omega
       ·omega
      rw[k9]at a0
      have b8:But sp.block w6 w8:=b7.trans' (x8.but _)
      have g3:But sp.block w w8:=(d2.but _).trans' b8
      have a6:=c4.ext x8
      refine⟨sp,rfl,ti,a6.at1 (k:=11) xR rfl,sp,rfl,q.D,a6.at1 (k:=7) xR rfl,λhq=>?_,λhq=>⟨sp,rfl,ti,a6.at1 (k:=11) xR rfl,sp,rfl,?_⟩⟩
      ·have f4:ti=q.D:=oM
       rw[Z51 f4]at a0
       rw[←a0]
       exact SE.Zcp.go (pend_se a6 λw9 b9 c5=>⟨rfl,rfl,g3.trans' b9,_,_,c5⟩)
      ·have f4:ti≠q.D:=oM
       rw[Z52 f4]at a0
       have ew:Za ((ti:Int)+1)=((ti+1:Nat):Int):=by rw[Zc oM oM]; omega
       rw[ew]
       refine stw.intro (o:=11) a6 (by show 12≤15; omega) λw9 b9 _ c5=>?_
       have c5:BoxAt w9 sp (srchP K q.D q.N d3 d4 ((ti+1:Nat):Int) false 0 Sl.nil):=c5
       have e7:=b8.trans' b9
       have e6:=g3.trans' b9
       have j8:=e7.box e9 d7
       have g8:=c9.nbBut e6
       have c8:kf o (ti+1)≠ .out:=λh=>by
        rw[h]at a0
        exact b6 a0.symm
       refine SE.Za0.go (clonePin_se (Nb.old sp w9) g8 λm4 m5 f9 i3=>⟨_,rfl,join.named λJ hJ=>?_⟩)
       have b3: ∀(vn:Sl) a9 (c2:List Pin),Ext w9 a9→SlR pinE a9 (Nb sp a9) vn c2→c2.length≤ch.length+1→envC (Zj7 ns k) c2=addO (envC (Zj7 ns k) ch) wt.name o→J vn a9:=by
        subst hJ
        intro vn a9 c2 g1 l9 n9 h4
        have b1:=e6.trans' (g1.but _)
        refine⟨⟨oM,oM⟩,?_⟩
        have c6:=hf sp K d3 d4 ns k rest c2 (ti+1) i2 (Sl.cut c1 ((1:Int).toNat) c1.len 3) vn a9 (hC.but b1) (c5.ext g1) hN hk oM (λx hx=>m0 x (.tail _ hx)) oM hD (by rw[h4]; rw[←h9]at c8; exact c8) (hs.nbBut b1) (f5.nbBut b1) l9
        rw[h4]at c6
        refine c6.mono λv i5 ⟨d0,hP⟩=>⟨d0,?_⟩
        have hP:PostP q sp K d3 d4 a9 (kf o (ti+1)) i5:=by rw[←h9]; exact hP
        have c3:=b1.trans' hP.1
        obtain⟨j5,b4⟩:=hP
        cases hr:kf o (ti+1)with
        |out=>exact absurd hr c8
        |fail t'=>
         rw[hr]at b4 a0
         obtain⟨l6,a4⟩:=b4
         exact⟨sp,rfl,false,a4.at1 (k:=12) xR rfl,nO,λ_=>hn oM i5 ⟨t',(e7.trans' (g1.but _)).trans' j5,a4,l6,a0⟩⟩
        |done o3 t'=>
         rw[hr]at b4 a0
         obtain⟨e8,a4,k7⟩:=b4
         refine⟨sp,rfl,true,a4.at1 (k:=12) xR rfl,λ_=> ?_,nO⟩
         rw[←a0]
         exact⟨rfl,c3,e8,a4,k7⟩
        |err c=>
         rw[hr]at b4 a0
         obtain⟨t',e8,a4⟩:=b4
         refine⟨sp,rfl,true,a4.at1 (k:=12) xR rfl,λ_=> ?_,nO⟩
         rw[←a0]
         exact⟨rfl,c3,t',e8,a4⟩
       clear hJ
       have e0:sp.block<w9.heap.size:=by have:=e6.1; omega
       refine⟨λb5=>bnd.drew λo5 g0=>?_,λb5=>?_⟩
       ·have d9:i<V.length:=oM
        rw[l0 d9]at b3
        have e4:=f9.trans g0
        obtain⟨av,k4,_,_,k6⟩:=verEl ((hV.nbBut e7).nbExt e4) d9
        refine⟨_,(j8.ext e4).at0 xR rfl,av,⟨k4,oM,oM⟩,V[i].ma,V[i].mi,V[i].pa,by rw[bw]; exact k6 _ xR,newS.intro λn4 o6 i6 g5 _ _=> ?_⟩
        refine(i3.ext (g0.trans i6)).pushF (f9.trans (g0.trans i6)) Zz7 (x:=⟨wt.name,V[i]⟩) ⟨rfl,f6⟩ (g5.ldc.pre (r:=[]) rfl) dC (by show(ch.length+1)*40≤room; unfold room; omega) λr m6 m3 m7=>?_
        refine b3 r m6 (ch++ [⟨wt.name,V[i]⟩]) m7 ?_ sI (Ztq _ _ _)
        exact(FlatO.pins (FlatO.of (E:=pinE) (λx cs h=>h.1) m3 (by rw[br,fl]; unfold room; omega)) λp hp=>by
         rcases dj.1 hp with hp|hp
         ·exact Zxs c9 p hp
         ·rw[ci]at hp; subst hp; exact f6).nbNew e0
       ·rw[l5 oM]at b3
        exact b3 m4 m5 ch f9 ((FlatO.pins (FlatO.of (E:=pinE) (λx cs h=>h.1) i3 (by unfold room; omega)) (Zxs c9)).nbNew e0) oM rfl
     ·have h5:(opts (V,may)).drop i= []:=by
       rw[dx,decide_eq_false_iff_not,gp]at hq
       obtain⟨h1,h2⟩:=hq
       by_cases f2:i=V.length
       ·subst f2
        rcases h2 with h2|h2
        ·rw[decide_eq_true rfl]at h2; cases h2
        ·subst h2; exact Z40
       ·have:i=V.length+1:=oM
        rw[this]; exact Zug
      rw[h5,Zj5]at a0
      rw[←a0]
      exact⟨rfl,j3,l7,c4⟩
    clear d5
    have n1:=f8.size
    refine⟨λh=>?_,λh=>?_⟩
    ·obtain⟨v,i1,d0⟩:=h8 h
     refine⟨tr,(ha.ext i9).at1 (k:=2) (r:=[]) xR rfl,v.ma,v.mi,v.pa,d0.ldc.pre (r:=[]) rfl,?_⟩
     refine SE.Zlx.go (Zp1 (v:=v) (f7.ext f8) λw6 x6=>⟨_,rfl,λh1=>?_,λh1=>?_⟩)
     ·refine⟨v.ma,v.mi,v.pa,(d0.ext x6).ldc.pre (r:=[]) rfl,newS.intro λj2 w7 x7 d8 j9 _=> ?_⟩
      refine a7 ⟨some j2,1,1⟩ [v] false w7 (x6.trans x7) ((Zm3 (E:=verE) (S:=None') (x:=v) d8 ⟨rfl,trivial⟩ dC).mono λb hb=>?_) sI ?_ (by rw[h]; simp)
      ·rcases hb with hb|rfl
       ·exact hb.elim
       ·have:=d8.lt; have:=x6.size; exact⟨oM,oM⟩
      ·unfold Quest.cand; rw[i1]; dsimp only; rw[if_pos h1]
     ·refine a7 Sl.nil [] false w6 x6 (SlR.nil trivial) sI ?_ (by rw[h]; simp)
      unfold Quest.cand; rw[i1]; dsimp only; rw[if_neg (by rw[h1]; decide)]
    ·have l8:=h7 h
     refine a7 i4 _ (decide (wt.kind=2)) w5 xR (j6.nbExt x5) (co (Z3u hG wt.name wt.range q.pins) oM) ?_ (by rw[h]; simp)
     unfold Quest.cand; rw[l8]
   clear d6
   refine bnd.drew λw5 x5=>⟨an,⟨k3,oM,oM⟩,cx,(k5 _ (d1.trans x5)).mid (k:=4) rfl,_,(ha.ext (i7.trans x5)).at0 xR rfl,?_,?_⟩
   ·refine SE.Zdl.go (Zjs (h3.ext (d1.trans x5)) (λv w6 hv x6=>⟨_,_,_,_,rfl,newS.set rfl λe5 w7 x7 c4 _=>a5 e5 true w7 (x5.trans (x6.trans x7)) (λ_=>⟨v,hv,c4⟩) nO⟩) λw6 hv x6=>⟨_,_,_,_,rfl,newS.set rfl λe5 w7 x7 c4 _=>a5 e5 false w7 (x5.trans (x6.trans x7)) nO λ_=>hv⟩)
   ·refine newS.intro λg2 w6 x6 g6 m9 _=>SE.Zdl.go (Zjs (h3.ext ((d1.trans x5).trans x6)) (λv w7 hv x7=>⟨_,_,_,_,rfl,stw0.intro (g6.ext x7) sI λw8 b8 _ a6=>a5 g2 true w8 (b8.ext (x5.trans (x6.trans x7)) (by have:=x5.size; omega)) (λ_=>⟨v,hv,a6⟩) nO⟩) λw7 hv x7=>⟨_,_,_,_,rfl,stw0.intro (g6.ext x7) sI λw8 b8 _ a6=>a5 g2 false w8 (b8.ext (x5.trans (x6.trans x7)) (by have:=x5.size; omega)) nO λ_=>hv⟩)
theorem Z3o{x u v:Value}(hb:BoxAt w a [x])(h0:w.cell? (ad.add 0)=some u)(h1:w.cell? (ad.add 1)=some v):ad.block≠a.block:=λe=>by
 obtain⟨t,_,_,hh⟩:=hb
 have e0:ad.add 0=ad:=rfl
 have e1:ad.add 1=⟨ad.block,ad.off+1,none⟩:=rfl
 rw[e0]at h0
 rw[e1]at h1
 unfold World.cell? at h0 h1
 rw[e,hh]at h0
 dsimp only at h1
 rw[e,hh]at h1
 dsimp only at h0 h1
 split at h0
 ·cases h0
 ·have a0:=(de.1 h0).1
  simp only[Option.isSome_none,jf,if_false]at h1
  have a1:=(de.1 h1).1
  simp at a0 a1
theorem SlR.apartBox{α:Type}{E:Enc α}{l:List α}{x:Value}(h:SlR E w S s l)(hn:2≤E.n)(hb:BoxAt w a [x])(hS: ∀b,S b→b≠a.block→S' b)(hf: ∀y∈l,∀cs,E.rep w S y cs→E.rep w S' y cs):SlR E w S' s l:=by
 obtain⟨h1,h2,h3,h4,h5⟩:=h
 refine⟨h1,h2,h3,h4,?_⟩
 rcases h5 with h0|⟨ad,ha,hs,a0⟩
 ·exact .inl h0
 ·rcases fo l.length with h0|h0
  ·exact .inl (cq h0)
  ·refine .inr ⟨ad,ha,hS _ hs ?_,λi y hy=>?_⟩
   ·obtain⟨cs,hr,hl⟩:=a0 0 l[0] (bq h0)
    rw[jg]at hl
    have a4:=E.len hr
    have c0:=hl 0 cs[0] (bq oM)
    have c1:=hl 1 cs[1] (bq oM)
    have e0:ad.add 0=ad:=rfl
    rw[e0]at c0 c1
    exact Z3o hb c0 c1
   ·obtain⟨cs,hr,hl⟩:=a0 i y hy
    exact⟨cs,hf y (ez hy) cs hr,hl⟩
theorem Zwd{l:List Node}{x:Value}(h:SlR nodeE w S s l)(hb:BoxAt w a [x]):SlR nodeE w (λb=>S b∧b≠a.block) s l:=
 h.apartBox dC hb (λb h1 h2=>⟨h1,h2⟩) λy _ cs ⟨h0,c,e,a0,hc,he⟩=>⟨h0,c,e,a0,hc.apartBox dC hb (λb h1 h2=>⟨h1,h2⟩) (λ_ _ _ h=>h),he.apartBox dC hb (λb h1 h2=>⟨h1,h2⟩) (λ_ _ _ h=>h)⟩
theorem Zwk{dev:Bool}{pins:List Pin}{SA:Nat→Prop}{cp:Addr}{r:Nat}{mD mDev mOpt mOv pS:Sl}{N d3 d4:Int}{R:Sl→Int→Int→World→Prop}(f8:Tab w)(b0:Old SA w)
  (c6:CatL w SC cp r L) (hd:SlR depE w SA mD m.deps) (he:SlR depE w SA mDev m.dev) (ho:SlR depE w SA mOpt m.opt) (hv:SlR depE w SA mOv m.over) (hp:SlR pinE w SA pS pins)
  (hR: ∀d8 w',Ext w w'→SlR nodeE w' (λb=>w.heap.size≤b∧b<w'.heap.size∨b<w.heap.size) d8 (Zsr L m dev pins D N).ns→R d8 (Zsr L m dev pins D N).dec (Zsr L m dev pins D N).code w'):
  SE.Zfz (some cp) mD mDev mOpt mOv dev pS D N d3 d4 w R:=by
 unfold SE.Zfz
 refine newS.intro λa w1 x1 ha g8 _=>newS.intro λa1 w2 x2 b4 g0 _=>newS.intro λa3 w3 x3 c8 g1 _=>bound ⟨mD,mDev,mOpt,mOv,λ_=>ha.at0 (r:=[]) (x2.trans x3) rfl,?_⟩
 have a9:=x1.trans (x2.trans x3)
 have s1:=x1.size; have s2:=x2.size; have s3:=x3.size
 have e8:=c6.lt
 refine gCall.intro (Zef m) (λ_ k hk=>SE.Ze5.go (Zni (m:=m) (f8.ext a9) (b0.ext a9.size) (hd.ext a9) (he.ext a9) (ho.ext a9) (hv.ext a9) λw4 x4=>⟨_,rfl,hk w4 x4⟩)) λg9 w4 x4 ht=>?_
 have ht:=ht rfl
 subst ht
 have d0:=a9.trans x4
 have f9:Ext w1 w4:=x2.trans (x3.trans x4)
 have c3:Ext w2 w4:=x3.trans x4
 refine bound ⟨D,λ_=>b4.at0 c3 rfl,bound ⟨D,λ_=>b4.at0 c3 rfl,bound ⟨N,λ_=>b4.at1 (k:=1) c3 rfl,bound ⟨N,λ_=>b4.at1 (k:=1) c3 rfl,λhq=>?_,λhq=>?_⟩⟩⟩⟩
 ·have f0: ¬(Zef m=true∧1≤D∧D≤4096∧1≤N∧N≤128):=λ⟨h1,h2,h3,h4,h5⟩=>by
   rw[h1,decide_eq_false oM,decide_eq_false oM,decide_eq_false oM,decide_eq_false oM]at hq
   cases hq
  have hr:Zsr L m dev pins D N= .err 1:=by unfold Zsr; rw[if_neg f0]
  rw[hr]at hR
  refine stw0.intro (c8.ext x4) sI λw5 b5 _ e5=>⟨Sl.nil,e5.ldc.pre (r:=[]) rfl,hR Sl.nil w5 (b5.ext d0 oM) (SlR.nil trivial)⟩
 ·have d6:Zef m=true∧1≤D∧D≤4096∧1≤N∧N≤128:=by
   simp only[dx,ka,decide_eq_false_iff_not,Option.isNone_some,li]at hq
   obtain⟨⟨⟨⟨h1,h2⟩,h3⟩,h4⟩,h5⟩:=hq
   exact⟨h1,oM,oM,oM,oM⟩
  have hr:Zsr L m dev pins D N=(Quest.mk L m dev pins D.toNat N.toNat).res:=by unfold Zsr; rw[if_pos d6]
  rw[hr]at hR
  obtain⟨hm,g4,g5,g6,g7⟩:=d6
  obtain⟨Dn,rfl⟩: ∃n:Nat,D=(n:Int):=⟨D.toNat,oM⟩
  obtain⟨Nn,rfl⟩: ∃n:Nat,N=(n:Int):=⟨N.toNat,oM⟩
  rw[bw,bw]at hR
  generalize b1:Quest.mk L m dev pins Dn Nn=q at hR
  have f2:q.L=L:=by rw[←b1]
  have c1:q.m=m:=by rw[←b1]
  have f5:q.dev=dev:=by rw[←b1]
  have f6:q.pins=pins:=by rw[←b1]
  have f1:q.D=Dn:=by rw[←b1]
  have f4:q.N=Nn:=by rw[←b1]
  refine⟨mD,mDev,mOpt,mOv,ha.at0 (r:=[]) f9 rfl,Dn,Nn,d3,d4,b4.at0 (r:=[]) c3 rfl,newS.intro λsp w5 x5 d7 g2 _=>newS.intro λe0 w6 x6 c5 e4 _=> ?_⟩
  have s4:=x4.size; have s5:=x5.size; have s6:=x6.size
  have b2:=d0.trans (x5.trans x6)
  have g3:=d7.lt
  have b7: ∀b,b<w.heap.size→Nb sp w6 b:=λb h=>⟨oM,oM⟩
  have hC:CxP w6 sp q ⟨cp,mD,mDev,mOpt,mOv,dev,pS⟩:=⟨⟨SC,r,by rw[f2]; exact c6.ext b2,λh=>by have:=e8.2.2.1 _ h; omega,by show cp.block≠sp.block; omega,oM⟩,
   by rw[c1]; exact(hd.ext b2).mono λb h=>b7 b (b0 b h),by rw[c1]; exact(he.ext b2).mono λb h=>b7 b (b0 b h),by rw[c1]; exact(ho.ext b2).mono λb h=>b7 b (b0 b h),by rw[c1]; exact(hv.ext b2).mono λb h=>b7 b (b0 b h),by rw[f6]; exact(hp.ext b2).mono λb h=>b7 b (b0 b h),f5.symm,oM,by rw[c1]; exact hm⟩
  have hb:BoxAt w6 sp (srchP ⟨cp,mD,mDev,mOpt,mOv,dev,pS⟩ q.D q.N d3 d4 ((0:Nat):Int) false 0 Sl.nil):=by rw[f1,f4]; exact d7.ext x6
  have d5:SlR nodeE w6 (Nb sp w6) ⟨some e0,1,1⟩ [rootNode]:=(Zm3 (E:=nodeE) (S:=None') (x:=rootNode) c5 ⟨by unfold Str rootNode; rw[Zd]; decide,Sl.nil,Sl.nil,rfl,SlR.nil trivial,SlR.nil trivial⟩ dC).mono λb h=>by
   rcases h with h|rfl
   ·exact h.elim
   ·exact⟨c5.lt,oM⟩
  have e2:NsOk q [rootNode]:=⟨by show 1≤q.N; omega,oM,⟨rootNode,rfl,rfl⟩,λx hx=>by
   rw[ci]at hx; subst hx
   exact⟨.nil,eh _⟩⟩
  have a0:=Z5p (q:=q) oM
  have c7:q.run=q.go q.fuel [rootNode] 0 (q.wants [rootNode] 0) (Zj7 [rootNode] 0) 0:=rfl
  refine SE.Zcj.go (Zrf (Zqv q q.fuel) (k:=0) hC hb e2 (eh _) (eh _) oM d5 (λ_ h=>?_) λw7 hP=>⟨rfl,?_⟩)
  ·rw[←c7]at h; rw[h]at a0; exact a0
  rw[if_neg sI,←c7]at hP
  obtain⟨e1,hP⟩:=hP
  have d9:Ext w4 w7:=e1.ext (x5.trans x6) oM
  have d1:=d0.trans d9
  have a5:=c8.ext (x4.trans d9)
  have c4:a3.block≠sp.block:=by have:=c8.lt; omega
  have done: ∀(c9:Int) (nd:Sl) (w':World) (T:Nat→Prop) (n:List Node),Ext w w'→BoxAt w' a3 [nd.v]→SlR nodeE w' T nd n→(∀b,T b→b<w'.heap.size)→n=q.res.ns→c9=q.res.code→ ∃(a7:Sl),ldc w' a3 [(Sl.v a7)]∧R a7 q.res.dec c9 w':=λc9 nd w' T n hx b6 f7 hT hn ht=>⟨nd,b6.ldc.pre (r:=[]) rfl,by rw[ht]; exact hR nd w' hx (by rw[←hn]; exact f7.mono λb hb=>by have:=hT b hb; omega)⟩
  unfold Quest.res at done
  cases hrr:q.run with
  |out=>rw[hrr]at a0; exact a0.elim
  |fail t=>
   rw[hrr]at hP done
   obtain⟨_,a4⟩:=hP
   refine⟨false,a4.at1 (k:=12) xR rfl,λ_=>stw0.intro a5 sI λw8 b8 _ e6=>done 30 Sl.nil w8 None' [] (b8.ext d1 oM) e6 (SlR.nil trivial) (λ_ h=>h.elim) rfl rfl,nO⟩
  |done ns t=>
   rw[hrr]at hP done
   obtain⟨b3,a4,e9⟩:=hP
   refine⟨true,a4.at1 (k:=12) xR rfl,nO,λ_=>⟨0,a4.at1 (k:=13) xR rfl,λh=>absurd rfl h,λ_=>join.named λJ hJ=>bnd.drew λw8 x8=>?_⟩⟩
   have a6: ∀w',Ext w w'→BoxAt w' a3 [b3.v]→(∃T,SlR nodeE w' T b3 ns∧ ∀b,T b→b<w'.heap.size)→J t 0 w':=by
    subst hJ
    intro w' hx b6 ⟨T,hT,e3⟩
    exact done 0 b3 w' T ns hx b6 hT e3 rfl rfl
   clear hJ
   have d2:=Zwd (e9.ext x8) (a5.ext x8)
   have c2:=d1.trans x8
   have s8:=x8.size
   refine⟨b3,a4.at1 (k:=14) (r:=[]) x8 rfl,⟨_,a4.at1 (k:=11) x8 rfl,stw0.intro (a5.ext x8) sI λw9 b9 _ a8=>a6 w9 (b9.ext c2 oM) a8 ⟨_,d2.but b9 λh=>h.2 rfl,λb hb=>by have:=hb.1.1; have:=b9.1; omega⟩⟩,stw0.intro (a5.ext x8) sI λw9 b9 _ a8=>⟨_,(b9.box (a4.ext x8) (Ne.symm c4)).at1 (k:=11) xR rfl,a6 w9 (b9.ext c2 oM) a8 ⟨_,d2.but b9 λh=>h.2 rfl,λb hb=>by have:=hb.1.1; have:=b9.1; omega⟩⟩⟩
  |err c=>
   rw[hrr]at hP done a0
   obtain⟨t,b3,a4⟩:=hP
   have e7: ¬c=0:=by rcases a0 with h|h<;>omega
   refine⟨true,a4.at1 (k:=12) xR rfl,nO,λ_=>⟨c,a4.at1 (k:=13) xR rfl,λ_=>join.named λJ hJ=>bnd.drew λw8 x8=>?_,λh=>absurd e7 h⟩⟩
   have a6: ∀w',Ext w w'→BoxAt w' a3 [Sl.nil.v]→J 0 c w':=by
    subst hJ
    intro w' hx b6
    exact done c Sl.nil w' None' [] hx b6 (SlR.nil trivial) (λ_ h=>h.elim) rfl rfl
   clear hJ
   have c2:=d1.trans x8
   refine⟨⟨c,a4.at1 (k:=13) x8 rfl,stw0.intro (a5.ext x8) sI λw9 b9 _ a8=>a6 w9 (b9.ext c2 oM) a8⟩,stw0.intro (a5.ext x8) sI λw9 b9 _ a8=>⟨c,(b9.box (a4.ext x8) (Ne.symm c4)).at1 (k:=13) xR rfl,a6 w9 (b9.ext c2 oM) a8⟩⟩
def emptyB(s:Stt):Bool:=decide (s.m=⟨[],[],[],[]⟩)&&(decide (s.g.length=1)&&(decide (s.T.length=1)&& !s.pruned))
theorem Z33{T:List Dir}{pr:Bool}{v:Sl}{Q:Nat→Prop}(hd:SlR depE w S' d m.deps)(he:SlR depE w S' e m.dev)(ho:SlR depE w S' o m.opt)(hv:SlR depE w S' v m.over)
  (hs:SlR dirE w S s T) (hg:SlR nodeE w Q u g) (hR: ∀w',Ext w w'→R (emptyB ⟨m,g,T,pr⟩) w'):SE.Zh0 d e o v u s pr w R:=by
 unfold SE.Zh0
 have a5:=hs.len
 have a4:=hg.len
 refine newS.intro λa w1 x1 a0 _ _=>⟨d,e,o,v,a0.at0 xR rfl,?_⟩
 refine SE.Zff.go (Zkl (m:=m) (k:=⟨[],[],[],[]⟩) (S:=S') (T:=λ_=>False) (hd.ext x1) (he.ext x1) (ho.ext x1) (hv.ext x1) (SlR.nil trivial) (SlR.nil trivial) (SlR.nil trivial) (SlR.nil trivial) λw2 x2=>⟨_,rfl,u,λ_=>a0.at1 (k:=4) x2 rfl,bound ⟨s,λ_=>a0.at1 (k:=5) x2 rfl,bound ⟨pr,λ_=>a0.at1 (k:=6) (r:=[]) x2 rfl,?_⟩⟩⟩)
 have h:=hR w2 (x1.trans x2)
 have e1:((u.len:Int)==1)=decide (g.length=1):=by rw[ep,beq_iff_eq,decide_eq_true_iff]; omega
 have e2:((s.len:Int)==1)=decide (T.length=1):=by rw[ep,beq_iff_eq,decide_eq_true_iff]; omega
 rw[e1,e2]
 unfold emptyB at h
 rw[kw,kw]
 exact h
def n11:ByteArray:=⟨#[97]⟩
def u11:Ver:=⟨1,0,0⟩
def k11:Pack:=⟨n11,u11,[],[],[]⟩
def s11:Span:=⟨⟨0,0,0⟩,⟨999,999,999⟩⟩
def m11:Mani:=⟨[⟨n11,[s11]⟩],[],[],[]⟩
def known11:Stp:=Zsr [k11] m11 true [] 9 9
def knB:Bool:=decide (known11.code=0)&&decide (known11.dec=1)&&decide (known11.ns.length=2)&&decide (known11.ns[1]?.map (·.v)=some u11)&&decide (known11.ns[0]?.map (·.edges.length)=some 1)
theorem Z7x:(Zfo [] k11).2= [k11]:=by decide+kernel
set_option maxRecDepth 100000 in
theorem Z4m:knB=true:=by decide+kernel
theorem Z4n:known11.code=0∧known11.dec=1∧known11.ns.length=2∧known11.ns[1]?.map (·.v)=some u11∧known11.ns[0]?.map (·.edges.length)=some 1:=by
 have h:=Z4m
 unfold knB at h
 simp only[bx,decide_eq_true_eq]at h
 exact⟨h.1.1.1.1,h.1.1.1.2,h.1.1.2,h.1.2,h.2⟩
end Go.Hal
namespace Go.Hal
end Go.Hal
namespace Go.Hal
structure Unf(w:World)(q:Nat):Prop where
 str: ∀a t,a.block=q→w.cell? a≠some (.string t)
 num: ∀a,a.block=q→ ∀x:Span,¬ldc w a (x.lo.c++x.hi.c)
def OffQ(S:Nat→Prop)(q:Nat)(b:Nat):Prop:=S b∧b≠q
section
variable {α:Type} {E:Enc α} {w:World} {S:Nat→Prop} {q:Nat} {s:Sl} {l:List α}
theorem SlR.unf(hE: ∀x cs,E.rep w S x cs→E.rep w (OffQ S q) x cs∧ ∀ad,ldc w ad cs→ad.block≠q)(h:SlR E w S s l):SlR E w (OffQ S q) s l:=by
 obtain⟨h1,h2,h3,h4,h5⟩:=h
 refine⟨h1,h2,h3,h4,?_⟩
 rcases h5 with h5|⟨ad,ha,hS,a0⟩
 ·exact .inl h5
 ·cases l with
  |nil=>exact .inl rfl
  |cons x r=>
   obtain⟨cs,hr,hl⟩:=a0 0 x rfl
   have a4:=(hE x cs hr).2 _ hl
   rw[Zel]at a4
   exact .inr ⟨ad,ha,⟨hS,a4⟩,λi y hy=>let⟨cs,h1,h2⟩:=a0 i y hy;⟨cs,(hE y cs h1).1,h2⟩⟩
theorem Unf.at(hq:Unf w q){k:Nat}{t:ByteArray}(hk:cs[k]? =some (.string t))(hl:ldc w ad cs):ad.block≠q:=λe=>by
 have:=hl k _ hk
 exact hq.str (ad.add k) t (by rw[Zel]; exact e) this
end
section
variable {w:World} {S:Nat→Prop} {q:Nat} {s:Sl}
theorem unfStr{l:List ByteArray}(hq:Unf w q)(h:SlR strE w S s l):SlR strE w (OffQ S q) s l:=h.unf λx cs hr=>⟨hr,λad hl=>hq.at (k:=0) (t:=x) (by have h1:=hr.1; subst h1; rfl) hl⟩
theorem Z8w{l:List Span}(hq:Unf w q)(h:SlR spanE w S s l):SlR spanE w (OffQ S q) s l:=h.unf λx cs hr=>⟨hr,λad hl e=>hq.num ad e x (by have h1:=hr.1; subst h1; exact hl)⟩
theorem Z2y{l:List Dep}(hq:Unf w q)(h:SlR depE w S s l):SlR depE w (OffQ S q) s l:=h.unf λx cs ⟨h0,u,hc,hu⟩=>⟨⟨h0,u,hc,Z8w hq hu⟩,λad hl=>hq.at (k:=0) (t:=x.name) (by rw[hc]; rfl) hl⟩
theorem Z60{l:List Dir}(hq:Unf w q)(h:SlR dirE w S s l):SlR dirE w (OffQ S q) s l:=h.unf λx cs ⟨h0,ps,d,e,o,hc,h1,h2,h3,h4⟩=>⟨⟨h0,ps,d,e,o,hc,unfStr hq h1,Z2y hq h2,Z2y hq h3,Z2y hq h4⟩,λad hl=>hq.at (k:=1) (t:=x.pack.name) (by rw[hc]; rfl) hl⟩
end
theorem Z2z(h:BoxAt w a cs)(hs: ∀t,Value.string t∉cs)(hn:cs.length<6∨ ∀k n,Value.int k n∉cs):Unf w a.block:=by
 obtain⟨T,ho,a0,hh⟩:=h
 have cell: ∀(b:Addr) v,b.block=a.block→w.cell? b=some v→v∈cs∧b.off<cs.length∧b.spot=none:=λb v hb hc=>by
  unfold World.cell? at hc
  rw[hb,hh]at hc
  simp only at hc
  split at hc
  ·cases hc
  ·rename_i a0
   rw[jr]at hc
   exact⟨ez hc,(ce.1 hc).1,by simpa using a0⟩
 refine⟨λb t hb hc=>hs t (cell b _ hb hc).1,λb hb x hl=>?_⟩
 have h0:=cell _ _ (by rw[Zel]; exact hb) (hl 0 _ rfl)
 have h5:=cell _ _ (by rw[Zel]; exact hb) (hl 5 _ rfl)
 rcases hn with hn|hn
 ·obtain⟨bb,off,sp⟩:=b
  have a4:sp=none:=by
   have:=h0.2.2
   rw[add_zero]at this
   exact this
  subst a4
  have:=h5.2.1
  have e:(Addr.add ⟨bb,off,none⟩ 5)=⟨bb,off+5,none⟩:=by unfold Addr.add; split<;>simp_all
  rw[e]at this
  simp only at this
  omega
 ·exact hn _ _ h0.1
structure SttS(w:World)(S:Nat→Prop)(d e o v g t:Sl)(s:Stt):Prop where
 m:ManS w S d e o v s.m
 g:SlR nodeE w S g s.g
 t:SlR dirE w S t s.T
theorem SttS.ext{v g:Sl}{s:Stt}(h:SttS w S d e o v g t s)(hx:Ext w w'):SttS w' S d e o v g t s:=⟨h.m.ext hx,h.g.ext hx,h.t.ext hx⟩
theorem SttS.mono{v g:Sl}{s:Stt}(h:SttS w S d e o v g t s)(hs: ∀b,S b→S' b):SttS w S' d e o v g t s:=⟨h.m.mono hs,h.g.mono hs,h.t.mono hs⟩
def d21:Dir:=⟨[],Zx,0⟩
def s21:Stt:=⟨⟨[],[],[],[]⟩,[rootNode],[d21],false⟩
def e21:Edge:=⟨n11,1⟩
def g21:List Node:=[⟨⟨#[]⟩,⟨0,0,0⟩,[],[e21]⟩,⟨n11,u11,[],[]⟩]
set_option maxRecDepth 100000 in
theorem ns21:known11.ns=g21:=by decide+kernel
theorem one_at{α:Type}{x y:α}(h: [x][i]? =some y)(h0:i≠0):False:=by
 have:=(ce.1 h).1
 simp at this; omega
theorem tree21:TreeOk [d21]:=⟨by decide,rfl,λi d h h0=>(one_at h h0).elim⟩
theorem Z79:PlaceOk g21 [Zx,k11]:=by
 refine⟨by decide,rfl,⟨_,rfl,rfl⟩,rfl,λi x hx=>?_⟩
 match i,hx with
 |0,hx=>
  cases hx
  refine⟨λh=>absurd rfl h,List.Pairwise.nil,im _ _,λe he=>?_,(λq hq=>nomatch hq)⟩
  obtain rfl:=ci.1 he
  exact⟨1,_,rfl,by decide,rfl,rfl⟩
 |1,hx=>
  cases hx
  exact⟨λ_=>⟨k11,rfl,by decide+kernel,rfl,rfl⟩,List.Pairwise.nil,List.Pairwise.nil,(λe he=>nomatch he),(λq hq=>nomatch hq)⟩
 |i+2,hx=>exact absurd (ce.1 hx).1 (by simp[g21])
def i21:PlI:=plI g21 [Zx,k11] (some [d21]) 9 99
def f21:PlS:=⟨[⟨[],0⟩,⟨[n11],1⟩],[⟨0,n11,1⟩]⟩
theorem Z94:EdgeR i21 pl0 0 e21 (kindE i21.g 0 e21) 0 f21:=by
 have hk:kindE i21.g 0 e21=2:=by decide+kernel
 rw[hk]
 have a0:Zbv pl0.dirs [n11]=none:=by decide+kernel
 exact .put 0 (λto h=>by
  have h1:=h.1
  have h2:Zb8 pl0.dirs (Zb pl0.dirs 0) e21.name (Zb pl0.dirs 0).length=none:=by decide+kernel
  rw[h2]at h1; cases h1) dC (λ_=>⟨⟨eh _,λk _ hk=>by
   have h0:k=0:=by have:(Zb pl0.dirs 0).length=0:=rfl; omega
   subst h0; exact a0,(λt ht=>nomatch ht)⟩,λm hm hl=>by
   have h0:m=0:=by have:=hm.le; have:(Zb pl0.dirs 0).length=0:=rfl; omega
   subst h0; exact hl,λm _ _=>eh m⟩) nO (by decide+kernel) dC
theorem Z90:DirsR i21 0 pl0 0 f21:=by
 have o0:Zge i21.g (nodeAt pl0.dirs 0)= [e21]:=by decide+kernel
 have o1:Zge i21.g (nodeAt f21.dirs 1)= []:=by decide+kernel
 refine .next (t:=f21) dC ?_ (.next (t:=f21) dC ?_ (.fin dC))
 ·rw[o0]; exact .cons Z94 (.nil _)
 ·rw[o1]; exact .nil _
theorem Z5u:SortedD f21.dirs f21.dirs:=⟨.refl _,by decide+kernel⟩
theorem Zs6{SA:Nat→Prop}{sP:Sl}{lp:List Pack}{R:Option Addr→Option Addr→World→Prop}(ht:Tab w)(hA:Old SA w)(hP:SlR packE w SA sP lp)
  (hR: ∀p r q w',Ext w w'→Both w' w.heap.size SA p r q (Zqg lp)→R (some p) (some q) w'):SE.Zcw sP w R:=by
 unfold SE.Zcw
 have hl:=hP.len
 refine SE.Zgh.go (catNew_L λp r w2 x2 hC h1 h2=>⟨_,rfl,newS.intro λq w3 x3 hq d3 _=> ?_⟩)
 have c8:=x2.trans x3
 have s2:=x2.size; have s3:=x3.size
 have d2:=hC.lt
 refine loop1.up hP.max (λi w'=>Ext w w'∧Both w' w.heap.size SA p r q (Zqg (lp.take i)))
  ⟨c8,⟨None',hC.ext x3,λ_ h=>h.elim,λh=>h⟩,⟨None',⟨⟨Sl.nil,hq,SlR.nil trivial⟩,λh=>h,λ_ h=>h.elim,GoodL.nil⟩,λ_ h=>h.elim,λh=>h⟩,⟨h1,h2,oM⟩,oM,oM⟩ λi w4 d4 hi ⟨x4,hB⟩ hn=>?_
 have c3:(!(Option.isNone (some p:Option Addr)))=true:=rfl
 refine bound ⟨λh=>?_,λh=>?_⟩
 ·have a8:i<lp.length:=by simp at h; omega
  have a6:(i:Int)<(sP.len:Int):=oM
  obtain⟨ad,d,e,o,c1,_,hN,hd,he,ho,hc⟩:=Zmm hP a8
  obtain⟨⟨S,b0,b4,c2⟩,⟨T,b1,b7,b8⟩,⟨c7,c4,c5⟩,a7,a4⟩:=hB
  have d0:=b0.lt
  have d1:q.block<w4.heap.size:=by obtain⟨s,hb,_⟩:=b1.at_; exact hb.lt
  refine⟨ad,⟨c1,oM,a6⟩,_,_,_,_,_,_,_,(hc _ x4).pre rfl,?_⟩
  refine SE.Zcc.go (Z3w (x:=lp[i]) (S2:=SA) (ht.ext x4) b0 hN (hA.ext x4.size) (hd.ext x4) (he.ext x4) (ho.ext x4) λS' w5 b5 a9 hs b9=>⟨_,rfl,?_⟩)
  have x5:Ext w w5:=b5.ext x4 oM
  have s5:=b5.1
  have b2:RefR w5 T q (Zqg (lp.take i)):=b1.stay b5.1 λb hb a0=>b5.2.2.2.2 b hb (by
   rcases a0 with a0|rfl
   ·rintro rfl; exact b8 a0
   ·exact a4)
  have a5: ¬S' q.block:=λh=>by
   rcases b9 _ h with h|h
   ·exact c2 h
   ·omega
  have c9:=a9.lt
  have c6: ¬SA q.block:=λh=>by have:=hA _ h; omega
  refine⟨ad,⟨c1,oM,a6⟩,_,_,_,_,_,_,_,(hc _ x5).pre rfl,?_⟩
  refine SE.Zby.go (Z12 (x:=lp[i]) (S2:=SA) b2 hN (hA.ext x5.size) c6 (hd.ext x5) (he.ext x5) (ho.ext x5) λw6 b6 b3=>⟨_,rfl,hn a8 w6 ?_⟩)
  have x6:Ext w w6:=b6.ext x5 oM
  have e1:Zqg (lp.take (i+1))=(Zfo (Zqg (lp.take i)) lp[i]).2:=by rw[bu a8,Zyd]
  rw[e1]
  have s6:=b6.1
  refine⟨x6,⟨S',a9.stay b6.1 λb hb a0=>b6.2.2.2.2 b hb (by
   rcases a0 with a0|rfl|rfl
   ·rintro rfl; exact a5 a0
   ·exact Ne.symm a7
   ·exact Ne.symm a4),λb hb=>?_,a5⟩,⟨_,b3,λb hb=>?_,λhb=>?_⟩,⟨c7,c4,c5⟩,a7,a4⟩
  ·rcases b9 b hb with h|h
   ·exact b4 b h
   ·omega
  ·rcases hb with(hb|hb)|hb
   ·exact b7 b hb
   ·exact .inl hb
   ·right; omega
  ·rcases hb with(hb|hb)|hb
   ·exact b8 hb
   ·have:=hA _ hb; omega
   ·omega
 ·have:i=lp.length:=by simp at h; omega
  rw[this,cu]at hB
  exact hR p r q w4 x4 hB
def Emp(w:World)(g t:Sl):Prop:=SttS w (λb=>b<w.heap.size) Sl.nil Sl.nil Sl.nil Sl.nil g t s21
theorem Emp.ext{g:Sl}(h:Emp w g t)(hx:Ext w w'):Emp w' g t:=(SttS.ext h hx).mono λb hb=>iv hb hx.size
theorem refEmpty_se{R:Sl→Sl→Sl→Sl→Sl→Sl→Bool→World→Prop}(hR: ∀g t w',Ext w w'→Emp w' g t→R Sl.nil Sl.nil Sl.nil Sl.nil g t false w'):SE.Zdh w R:=by
 unfold SE.Zdh
 refine newS.intro λa w1 x1 h1 a0 _=>newS.intro λa2 w2 x2 h2 a4 _=>newS.intro λa3 w3 x3 h3 a5 _=> ?_
 have s1:=x1.size; have s2:=x2.size; have s3:=x3.size
 refine stw0.intro (h1.ext (x2.trans x3)) sI λw4 b4 a6 h4=>⟨_,_,_,_,_,_,_,h4.at0 xR rfl,?_⟩
 have l1:=h1.lt
 have k2:=b4.box (h2.ext x3) oM
 have k3:=b4.box h3 oM
 have l2:=k2.lt; have l3:=k3.lt
 have hg:=Zm3 (E:=nodeE) (S:=None') (x:=rootNode) k2 ⟨by unfold Str rootNode; rw[Zd]; decide,Sl.nil,Sl.nil,rfl,SlR.nil trivial,SlR.nil trivial⟩ dC
 have ht:=Zm3 (E:=dirE) (S:=None') (x:=d21) k3 Zjv dC
 refine hR _ _ w4 (b4.ext (x1.trans (x2.trans x3)) oM) ⟨⟨SlR.nil trivial,SlR.nil trivial,SlR.nil trivial,SlR.nil trivial⟩,hg.mono λb hb=>?_,ht.mono λb hb=>?_⟩
 ·rcases hb with hb|rfl
  ·exact hb.elim
  ·exact l2
 ·rcases hb with hb|rfl
  ·exact hb.elim
  ·exact l3
theorem loop1.none{α:Type}{a:α}{body:α→World→(α→World→Prop)→Prop}(h: ∀a0,body a w a0):loop1 a w body:=
 ⟨λx v=>x=a∧v=w,λ_ _=>0,⟨rfl,rfl⟩,λx v hx=>by obtain⟨rfl,rfl⟩:=hx; exact h _⟩
theorem loop1.once{α:Type}{a:α}{body:α→World→(α→World→Prop)→Prop}(P:α→World→Prop)(h0: ∀a0,(∀x v,P x v→a0 x v)→body a w a0)(h1: ∀x v a0,P x v→body x v a0):loop1 a w body:=by
 classical
 refine⟨λx v=>P x v∨(x=a∧v=w),λx v=>if P x v then 0 else 1,.inr ⟨rfl,rfl⟩,λx v hx=>?_⟩
 by_cases hp:P x v
 ·exact h1 x v _ hp
 ·obtain⟨rfl,rfl⟩:=hx.resolve_left hp
  refine h0 _ λy u hy=>⟨.inl hy,?_⟩
  show(if P y u then 0 else 1)<(if P x v then 0 else 1)
  rw[if_pos hy,if_neg hp]; exact Nat.zero_lt_one
theorem rises0{n:Int}{f:Value}(h:n=0)(hR:R true w):SE.Zhp n f w R:=by
 unfold SE.Zhp
 subst h
 exact loop1.none λa0=>⟨λh=>by omega,λ_=>hR⟩
theorem Zt7{n:ByteArray}{x y z many:Int}{c:Sl}(hc:c.len=0)(he:e.len=0)(hR: ∀w',Ext w w'→R true w'):SE.Zkk n x y z c e many w R:=by
 unfold SE.Zkk
 refine newS.intro λa w1 x1 a0 _ _=>⟨c,a0.at1 (k:=4) xR rfl,SE.Zhp.go (rises0 oM ⟨_,rfl,bound ⟨e,λ_=>a0.at1 (k:=5) (r:=[]) xR rfl,gCall.intro true (λ_ q hq=>SE.Zhp.go (rises0 oM ⟨_,rfl,hq w1 xR⟩)) λt w2 x2 ht=>⟨λh=>?_,λ_=>⟨c,a0.at1 (k:=4) x2 rfl,loop1.none λa4=>⟨λh=>by omega,λ_=>⟨e,a0.at1 (k:=5) (r:=[]) x2 rfl,loop1.none λa4=>⟨λh=>by omega,λ_=>hR w2 (x1.trans x2)⟩⟩⟩⟩⟩⟩⟩)⟩
 rw[ht rfl]at h; cases h
section
variable {s:Sl} {S:Nat→Prop} {w:World}
theorem Zv9(hs:SlR nodeE w S s [rootNode])(hR: ∀w',Ext w w'→R true w'):SE.Zme s w R:=by
 unfold SE.Zme
 have b3:s.len=1:=hs.len
 refine newS.intro λa w1 x1 a4 _ _=>⟨s,a4.ldc.pre (r:=[]) rfl,bound ⟨s,λ_=>a4.ldc.pre (r:=[]) rfl,λhc=>?_,λhc=>⟨s,a4.ldc.pre (r:=[]) rfl,loop1.once (λi v=>i=1∧Ext w1 v) (λb2 hn=>⟨λa8=>?_,λh=>by omega⟩) λi v b2 h=>⟨λa8=>by omega,λ_=>hR v (x1.trans h.2)⟩⟩⟩⟩
 ·rw[decide_eq_false oM,decide_eq_false oM]at hc; cases hc
 obtain⟨ad,c,e,ha,b1,a7,a9,b0⟩:=Zed hs (n:=0) dC
 refine⟨ad,⟨ha,oM,a8⟩,_,_,_,_,_,_,b0 _ x1,newS.set rfl λa5 w5 x5 a0 _=>⟨_,a0.at0 xR rfl,SE.Zep.go (scanName_se b1 λw6 x6=>⟨_,rfl,_,_,_,λ_=>a0.at1 (k:=1) x6 rfl,gCall.intro false (λh=>absurd h (by decide+kernel)) λt w7 x7 _=>join.named λJ hJ=>⟨λ_=>⟨_,a0.at0 (x6.trans x7) rfl,bound ⟨_,_,_,λ_=>a0.at1 (k:=1) (x6.trans x7) rfl,bound ⟨c,λ_=>a0.at1 (k:=4) (x6.trans x7) rfl,?_⟩⟩⟩,λh=>absurd rfl h⟩⟩)⟩⟩
 have e1:(((bEq ([rootNode]:List Node)[0].name (ByteArray.mk #[]))&&((([rootNode]:List Node)[0].v.ma==0)&&((([rootNode]:List Node)[0].v.mi==0)&&((([rootNode]:List Node)[0].v.pa==0)&&true))))&&((c.len:Int)==0))=true:=by
  rw[show c.len=0 from a7.len]; decide+kernel
 rw[e1,hJ]
 have a6:=x6.trans x7
 exact bound ⟨_,_,_,_,c,e,λ_=>a0.at0 (r:=[]) a6 rfl,s,λ_=>a4.at0 (r:=[]) (x5.trans a6) rfl,gCall.intro true (λ_ q hq=>SE.Zkk.go (Zt7 a7.len a9.len λw9 x9=>⟨_,rfl,hq w9 x9⟩)) λt w9 x9 h9=>⟨λh=>(by rw[h9 rfl]at h; cases h),λ_=>hn _ _ ⟨rfl,x5.trans (a6.trans x9)⟩⟩⟩
theorem Zse{R:ByteArray→Int→World→Prop}(hs:SlR nodeE w S s [rootNode])(hR: ∀t w',Ext w w'→R t 0 w'):SE.Zix s w R:=by
 unfold SE.Zix
 have b9:s.len=1:=hs.len
 refine newS.intro λa w1 x1 a5 _ _=>⟨s,a5.ldc.pre (r:=[]) rfl,SE.Zme.go (Zv9 (hs.ext x1) λw2 x2=>⟨_,rfl,nO,λ_=> ?_⟩)⟩
 have a9:=x1.trans x2
 intro ab w3 b2 a8
 subst b2
 have x3:Ext w2 w3:=a8▸Ext.alloc _ _
 have b0:Bld w2.heap.size [] w3:=a8▸Zr2 w2
 refine Zhl (m:=tLock) b0 rfl x3 dC λw4 n4 x4 a4=>⟨_,_,rfl,s,a5.at0 (r:=[]) (x2.trans x4) rfl,loop1.once (λi v=>i=1∧Ext w2 v∧ ∃t,Bld w2.heap.size t v) (λa0 hn=>⟨λa7=>?_,λh=>by omega⟩) λi v a0 ⟨_,h2,t,hB⟩=>⟨λa7=>by omega,λ_=>Zji hB rfl h2 λw9 x9=>⟨_,rfl,hR _ _ (a9.trans x9)⟩⟩⟩
 obtain⟨ad,c,e,ha,_,b4,b5,b6⟩:=Zed hs (n:=0) dC
 refine⟨ad,⟨ha,oM,a7⟩,_,_,_,_,_,_,b6 _ (a9.trans x4),newS.setT rfl λa6 w6 x6 b3 b7=>join.named λJ hJ=>⟨λ_=>Zo5 (m:=[114,111,111,116,10]) (a4.ext x6) rfl (x4.trans x6) dC λw7 n7 x7 b1 keep=>⟨_,_,rfl,?_⟩,λh=>absurd rfl h⟩⟩
 have b8:=a4.lt
 have k7:=(keep _ _ _ dC oM b3).box
 rw[hJ]
 have h1:c.len=0:=b4.len
 have h2:e.len=0:=b5.len
 exact⟨c,k7.at1 (k:=4) xR rfl,loop1.none λa0=>⟨λh=>by omega,λ_=>⟨e,k7.at1 (k:=5) (r:=[]) xR rfl,loop1.none λa0=>⟨λh=>by omega,λ_=>hn _ _ ⟨rfl,x7,_,b1⟩⟩⟩⟩⟩
end
end Go.Hal
