/- Lemmas for the claim K21r: how the program's functions run, and what they answer; no condition but those that each theorem names. -/
import Derived.Test.YtdjiedhnoanbpaaGreatDoorProg
import Derived.Test.YtdjiedhnoanbpaaGreatDoorK21rB4
set_option linter.unusedVariables false
set_option linter.unusedSimpArgs false
set_option maxHeartbeats 16000000
namespace Go.Hal
open Go.Proofs.Tryz
open Go Go.RowKit Go.Proofs Go.Shelf
theorem Zxv{w:World}{S:Nat→Prop}:packE.rep w S Ze1 [.string ⟨#[]⟩,.int .i64 0,.int .i64 0,.int .i64 0,Sl.nil.v,Sl.nil.v,Sl.nil.v]:=
 ⟨by unfold Str Ze1; rw[Zb]; decide,Sl.nil,Sl.nil,Sl.nil,rfl,SlR.nil trivial,SlR.nil trivial,SlR.nil trivial⟩
theorem OwnS.low{α:Type}{E:Enc α}{T:TypeId}{w:World}{lo lo':Nat}{S:Nat→Prop}{s:Sl}{l:List α}(h:OwnS E T w lo S s l)(hl:lo'≤lo):OwnS E T w lo' S s l:=by
 obtain⟨css,ho,k1,k2⟩:=h.row
 refine⟨⟨css,⟨ho.1,ho.2.imp id λ⟨g,cap,cur,hv,hg,r⟩=>⟨g,cap,cur,hv,Nat.le_trans hl hg,r⟩⟩,k1,k2⟩,h.len,h.lt,h.apart⟩
theorem OldR.mono{w:World}{S S':Nat→Prop}{old:Option (List Dir)}{ol:Option Addr}(h:OldR w S old ol)(hs: ∀b,S b→S' b):OldR w S' old ol:=by
 unfold OldR at*
 split at h
 ·trivial
 ·obtain⟨k1,so,k2,k3⟩:=h
  exact⟨hs _ k1,so,k2,k3.mono hs⟩
 ·exact h.elim
theorem RowB.getSl{w:World}{g:Nat}{l:List Sl}{tail:List Value}(h:RowB slC w g l tail){i:Nat}(hi:i<l.length): ∀w',Ext w w'→ldc w' ((⟨g,0,none⟩:Addr).add (i*1)) [l[i].v]:=λw' hx=>(h.ext hx).ld (k:=1) (λ_=>rfl) hi
theorem Z2o{q:Quest}{f:Nat}(hf:Znh q f){sp:Addr}{K:K7}{d3 d4:Int}{ns:List Node}{k t:Nat}{ch:List Pin}{nds chs:Sl}{w:World}{R:World→Prop}(hC:CxP w sp q K)(hb:BoxAt w sp (srchP K q.D q.N d3 d4 t false 0 Sl.nil))(hN:NsOk q ns)(hk:k<ns.length)
  (hcl:ch.length≤64) (ht:t≤q.D) (hD:q.D≤4096) (hs:SlR nodeE w (Nb sp w) nds ns) (hch:SlR pinE w (Nb sp w) chs ch) (hne:q.go (f+1) ns k [] (envC (Zf0 ns k) ch) t≠ .out)
  (hR: ∀w',PostP q sp K d3 d4 w (q.go (f+1) ns k [] (envC (Zf0 ns k) ch) t) w'→R w'):SE.Zdt (some sp) nds (k:Int) chs w R:=by
 unfold SE.Zdt
 have hkx:ns[k]? =some ns[k]:=List.getElem?_eq_getElem hk
 have hctx:Zf0 ns k=ns[k].ctx:=by unfold Zf0 Zsl; rw[List.getElem?_map,hkx]; rfl
 rw[hctx]at hne hR
 have hsl:=hs.len
 have hsp:=hC.lt
 have hG:=hC.good
 have hnl:=hN.len
 have hnb:=hN.big
 obtain⟨an,cx,ex,han,_,hcx,_,hcn⟩:=Zff hs hk
 obtain⟨hcr,hcl2⟩:=hN.ctx _ (List.getElem_mem hk)
 refine⟨an,⟨han,oM,oM⟩,cx,(hcn _ xR).mid (k:=4) rfl,Z5d (Nb.old sp w) hcx hch oM oM λso w1 x1 o1=>?_⟩
 have hen:=Zwn hcr.nodup ch
 have hel:=Zvc ns[k].ctx ch
 have hes:=Z1u (Zvp hcx) (Zvp hch)
 generalize hee:envC ns[k].ctx ch=e at*
 have hbd:q.bind ns k e=match targets q (Zaw e) (Zaw e)with|none=>.graph|some xs=>match putK q.N (ns.map Node.key) xs with|none=>.many|some r=>.ok (Zbz ns k r.2++r.1):=rfl
 rw[Quest.go]at hne hR
 have hle:(Zaw e).length=e.length:=(Zbk e).length_eq
 have hflat:FlatO pinC 40 w1 w.heap.size so e:=FlatO.of (E:=pinE) (λx cs h=>h.1) o1 (by unfold room; omega)
 refine Zxm hflat x1.size hen λw2 bel2 hfl2=>⟨rfl,?_⟩
 have hss: ∀p∈Zaw e,Str p.name:=λp hp=>hes p ((Zbk e).mem_iff.1 hp)
 have x2:Ext w w2:=x1.trans' bel2
 have hE2:=hfl2.pins hss
 generalize Zaw e=E at*
 have hEl:=hE2.len
 have s2:=x2.size
 have hE2':SlR pinE w2 (Nb sp w2) so E:=hE2.nbNew hsp
 rw[hEl]
 refine(Z2e (n:=E.length) oM λg w3 x3 hg hrow=>?_:semS prog _ w2 λv w'=>∃t:Sl,v=Sl.v t∧_)
 have x03:=x2.trans x3
 have s3:=x3.size
 have hgl:=hrow.lt
 have hgs:g≠sp.block:=oM
 have hgw:w.heap.size≤g:=oM
 refine loop1.up (N:=E.length) (by rw[Zb]; omega) (λi w'=>Ext w w'∧Ext w2 w'∧ ∃(sls:List Sl) (l:List (List Pin)),RowB slC w' g sls []∧sls.length=E.length∧CtxsAre q E (E.take i) l∧ ∀j (h1:j<sls.length) (h2:j<l.length),SlR pinE w' (λb=>g<b∧b<w'.heap.size) sls[j] l[j])
  ⟨x03,x3,_,[],hrow,by simp,.nil,λj _ h2=>by simp at h2⟩ λi w4 nxt hi ⟨x4,x24,sls,l,hR4,hsls,hA,hcs⟩ hn=>⟨λhlt=>?_,λhge=>?_⟩
 ·have hlt':i<E.length:=oM
  obtain⟨ad,had,_,hst,hc⟩:=Zhz hE2 hlt'
  have hll:=hA.len
  rw[List.length_take]at hll
  refine⟨ad,⟨had,oM,oM⟩,_,_,_,_,hc _ x24,newS.set rfl λa30 w5 x5 hb5 _=>bnd.drew λw6 x6=>?_⟩
  have x46:=x5.trans x6
  have x06:=x4.trans x46
  have hC6:=hC.ext x06
  obtain⟨SC,r,hcat,_,_,_⟩:=hC6.cat
  have s46:=x46.size
  refine⟨sp,rfl,_,hb.at0 x06 rfl,sp,rfl,K.mD,K.mDev,K.mOpt,K.mOv,hb.at1 (k:=1) x06 rfl,_,_,_,_,(hb5.ext x6).ldc.pre (r:=[]) rfl,?_⟩
  have hEx:=hE2.ext (x24.trans x46)
  have fin: ∀(t72:Sl) (ok:Bool) w7 (c:List Pin),Ext w6 w7→SlR pinE w7 (λb=>g<b∧b<w7.heap.size) t72 c→(ok=true→Zdg q.L q.m.over E E[i]=some c)→(ok=false→Zdg q.L q.m.over E E[i]=none)→
    ∃(ad42:Addr),((⟨some ⟨g,0,none⟩,E.length,E.length⟩:Sl).a=some ad42∧(0:Int)≤(i:Int)∧(i:Int)<(((⟨some ⟨g,0,none⟩,E.length,E.length⟩:Sl).len:Nat):Int))∧stw w7 (ad42.add ((i:Int).toNat*1)) [(Sl.v t72)] λvw44=>(((!ok)=true→R vw44)∧((!ok)=false→nxt (Za ((i:Int)+1)) vw44)):=by
   intro t72 ok w7 c x7 hc7 hok1 hok0
   have x47:=x46.trans x7
   have x07:=x4.trans x47
   refine⟨⟨g,0,none⟩,⟨rfl,oM,by show(i:Int)<(E.length:Int); omega⟩,?_⟩
   rw[Int.toNat_natCast]
   refine(hR4.ext x47).st (k:=1) (λ_=>rfl) (i:=i) oM (x:=t72) λw8 b8 hR8=>?_
   have x08:Ext w w8:=b8.ext x07 hgw
   have x28:Ext w2 w8:=b8.ext (x24.trans x47) oM
   have s8:=b8.1
   refine⟨λhq=>?_,λhq=>hn hlt' w8 ⟨x08,x28,_,l++ [c],hR8,by rw[List.length_set]; exact hsls,?_,λj h1 h2=>?_⟩⟩
   ·have hok:ok=false:=by simpa using hq
    have hg0:q.bind ns k e= .graph:=by rw[hbd,Zj4 ⟨_,List.getElem_mem hlt',hok0 hok⟩]
    rw[hg0]at hR
    exact hR w8 ⟨x08.but _,ht,hb.ext x08⟩
   ·have hok:ok=true:=by simpa using hq
    rw[List.take_succ_eq_append_getElem hlt']; exact hA.snoc (hok1 hok)
   ·rw[List.length_append,List.length_singleton]at h2
    have s47:=x47.size
    by_cases hj:j<l.length
    ·rw[List.getElem_set_ne oM,List.getElem_append_left hj]
     rw[List.length_set]at h1
     exact(((hcs j h1 hj).ext x47).but b8 λh=>by have:=h.1; omega).mono λb hb=>⟨hb.1,by have:=hb.2; omega⟩
    ·have hji:j=i:=oM
     subst hji
     rw[List.getElem_set_self,List.getElem_append_right oM]
     have e1: [c][j - l.length]'(by simp; omega)=c:=by simp
     rw[e1]
     exact(hc7.but b8 λh=>by have:=h.1; omega).mono λb hb=>⟨hb.1,by have:=hb.2; omega⟩
  have hg4:=hR4.lt
  refine SE.Zfu.go (Zox (pn:=E[i]) hcat (Nb.old sp w6) (S3:=λb=>w.heap.size≤b∧b<w2.heap.size) (λb hb=>by have:=hb.2; have:=x24.size; omega) hC6.over hEx hst (λc t72 w7 hc7 x7 hfl7 hst7=>⟨t72,true,rfl,fin t72 true w7 c x7 ((hfl7.pins hst7).mono λb hb=>⟨by have:=hb.1; omega,hb.2⟩) (λ_=>hc7) nO⟩) λw7 hc7 x7=>⟨_,false,rfl,fin _ false w7 [] x7 (SlR.nil trivial) nO λ_=>hc7⟩)
 rw[List.take_of_length_le oM]at hA
 clear hn
 have hll:=hA.len
 have s4:=x4.size
 have hC4:=hC.ext x4
 have hs4:=hs.nbExt x4
 rw[hA.targets]at hbd
 have eN:nodeE.bytes=88:=rfl
 have eE:edgeE.bytes=24:=rfl
 refine SE.Za7.go (Zrq (Nb.old sp w4) hs4 λout0 w5 x5 o5=>⟨_,rfl,?_⟩)
 have x05:=x4.trans x5
 have hzl:(List.zipWith mkNd E l).length=E.length:=by rw[List.length_zipWith]; omega
 have hzg: ∀(i:Nat) (h1:i<E.length) (h2:i<l.length),(List.zipWith mkNd E l)[i]? =some (mkNd E[i] l[i]):=λi h1 h2=>by
  rw[List.getElem?_eq_getElem oM,List.getElem_zipWith]
 generalize hxs:List.zipWith mkNd E l=xs at*
 have hrk: ∀(p:Pin) (c:List Pin),Zdg q.L q.m.over E p=some c→ ∀(m:List Node) (h:0<(ns++m).length),(ns++m)[0].key≠(p.name,p.v,c):=λp c hc m h he=>by
  obtain⟨x,hx,hk0⟩:=hN.root
  have h1:(ns++m)[0]? =some x:=by rw[List.getElem?_append_left oM]; exact hx
  rw[List.getElem?_eq_getElem h]at h1
  cases h1
  rw[hk0]at he
  have:=congrArg (·.1) he
  exact Zsc hG (Zmo hc) this.symm
 have hE4:=hE2.ext x24
 have hE5:=hE4.ext x5
 refine loop3.up (N:=E.length) (by rw[Zb]; omega) (λso3 se i w'=>∃(added:List Node) (ed:List Edge),Ext w4 w'∧OwnS nodeE 72 w' w4.heap.size (Nb sp w4) so3 (ns++added)∧OwnS edgeE 80 w' w4.heap.size None' se ed∧Apart so3 se∧(ns++added).length≤q.N∧(∀x∈added,Rises x.ctx∧x.ctx.length≤2048)∧ed.length=i∧
   putK q.N (ns.map Node.key) xs=(putK q.N ((ns++added).map Node.key) (xs.drop i)).map λr=>(added++r.1,ed++r.2))
  ⟨[],[],x5,by rw[List.append_nil]; exact o5,OwnS.nil _ _,(λ_ _ _ h=>by cases h),by rw[List.append_nil]; exact hnl,(λ_ h=>by cases h),rfl,by rw[List.append_nil,List.drop_zero]; cases putK q.N (ns.map Node.key) xs<;>rfl⟩ λso3 se i w6 nxt hi6 ⟨added,ed,x6,oN,oE,hap,hlN,hadc,hedl,hput⟩ hnx=>⟨λhlt=>?_,λhge3=>?_⟩
 ·have hlt':i<E.length:=oM
  have hil:i<l.length:=oM
  have hisl:i<sls.length:=oM
  obtain⟨ad,had,_,hst,hc⟩:=Zhz hE4 hlt'
  have hctx2:=hA.get i hlt' hil
  have hsc:=hcs i hisl hil
  have hxd:xs.drop i=mkNd E[i] l[i]::xs.drop (i+1):=by
   obtain⟨h1,h2⟩:=List.getElem?_eq_some_iff.1 (hzg i hlt' hil)
   rw[List.drop_eq_getElem_cons h1,h2]
  rw[hxd]at hput
  have hnlen:1≤(ns++added).length:=by rw[List.length_append]; omega
  have hrks:=hrk E[i] l[i] hctx2 added
  have hcrs:=Zmn hG hctx2
  have hacs:=λw' (hx:Ext w4 w')=>hR4.getSl hisl w' hx
  generalize E[i]=p at*
  generalize hcc:l[i]=c at*
  generalize sls[i]=sc at*
  have hkey:(mkNd p c).key=(p.name,p.v,c):=rfl
  refine⟨ad,⟨had,oM,oM⟩,_,_,_,_,hc _ x6,newS.set rfl λa54 w7 x7 hb7 hab7=>?_⟩
  have x47:=x6.trans x7
  have oN7:=oN.ext x7
  have hread:=oN7.read (by rw[eN]; unfold room; omega) (by rw[Zb]; omega)
  have hsol:=oN.len
  have s6:=x6.size; have s7:=x7.size
  refine loop1.from1 (N:=(ns++added).length) (by rw[Zb]; omega) (λn w'=>Ext w7 w'∧ ∀j (h:j<(ns++added).length),1≤j→j<n→(ns++added)[j].key≠(p.name,p.v,c)) ⟨Ext.refl _,λj _ h1 h2=>by omega⟩ λn w8 nxt2 h1 hn8 ⟨x8,hI8⟩ hn2=>bnd.drew λw9 x9=>bound ?_
  have x79:=x8.trans x9
  have x49:=x47.trans x79
  obtain⟨ad60,x,cxx,hx60,hxl,hxc,hxs',hxd'⟩: ∃(ad60:Addr) (x:Node) (cxx:Sl),(n<(ns++added).length→so3.a=some ad60)∧(∀h:n<(ns++added).length,(ns++added)[n]=x)∧(n<(ns++added).length→ ∃S,SlR pinE w9 S cxx x.ctx)∧(n<(ns++added).length→ldc w9 (ad60.add (n*6)) [.string x.name])∧(n<(ns++added).length→ldc w9 ((ad60.add (n*6)).add 1) [.int .i64 x.v.ma,.int .i64 x.v.mi,.int .i64 x.v.pa]∧ldc w9 ((ad60.add (n*6)).add 4) [cxx.v]):=by
   by_cases hlt9:n<(ns++added).length
   ·obtain⟨a',c',e',h1',_,h2',_,h3'⟩:=Zff hread hlt9
    exact⟨a',_,c',λ_=>h1',λ_=>rfl,λ_=>⟨_,h2'.ext x79⟩,λ_=>(h3' _ x79).pre rfl,λ_=>⟨(h3' _ x79).mid (k:=1) rfl,(h3' _ x79).mid (k:=4) rfl⟩⟩
   ·exact⟨⟨0,0,none⟩,rootNode,Sl.nil,λh=>absurd h hlt9,λh=>absurd h hlt9,λh=>absurd h hlt9,λh=>absurd h hlt9,λh=>absurd h hlt9⟩
  have hb9:=hb7.ext x79
  refine⟨ad60,λh=>⟨hx60 (by have:=of_decide_eq_true h; omega),oM,of_decide_eq_true h⟩,x.name,λh=>by rw[Int.toNat_natCast]; exact hxs' (by have:=of_decide_eq_true h; omega),p.name,λ_=>hb9.at0 xR rfl,bound ?_⟩
  have gt: ∀{b c:Bool},(b&&c)=true→b=true:=λh=>(Bool.and_eq_true_iff.1 h).1
  refine⟨ad60,λh=>⟨hx60 (by have:=of_decide_eq_true (gt h); omega),oM,of_decide_eq_true (gt h)⟩,x.v.ma,x.v.mi,x.v.pa,λh=>by rw[Int.toNat_natCast]; exact(hxd' (by have:=of_decide_eq_true (gt h); omega)).1,p.v.ma,p.v.mi,p.v.pa,λ_=>hb9.at1 (k:=1) xR rfl,bound ?_⟩
  have ev:((x.v.ma==p.v.ma)&&((x.v.mi==p.v.mi)&&((x.v.pa==p.v.pa)&&true)))=decide (x.v=p.v):=verB
  rw[ev]
  refine⟨ad60,λh=>⟨hx60 (by have:=of_decide_eq_true (gt h); omega),oM,of_decide_eq_true (gt h)⟩,cxx,λh=>by rw[Int.toNat_natCast]; exact(hxd' (by have:=of_decide_eq_true (gt h); omega)).2,⟨g,0,none⟩,λ_=>⟨rfl,oM,by show(i:Int)<(E.length:Int); omega⟩,sc,λ_=>by rw[Int.toNat_natCast]; exact hacs _ x49,?_⟩
  refine gCall.intro (decide (x.ctx=c)) (λhg q' hq=>SE.Zbp.go (by
   obtain⟨S',hS'⟩:=hxc (by have:=of_decide_eq_true (gt hg); omega)
   exact Zyu hS' (hsc.ext x49) λw' hx=>⟨_,rfl,hq _ hx⟩)) λt121 w10 x10 ht10=>?_
  have x710:=x79.trans x10
  have x410:=x47.trans x710
  have hgo:(decide ((n:Int)<(so3.len:Int))&&((!bEq x.name p.name|| !decide (x.v=p.v))|| !t121))=(decide (n<(ns++added).length)&& !decide (x.key=(p.name,p.v,c))):=by
   have e1:decide ((n:Int)<(so3.len:Int))=decide (n<(ns++added).length):=decide_eq_decide.2 oM
   rw[e1]at ht10 ⊢
   cases hd:decide (n<(ns++added).length)with
   |false=>rfl
   |true=>
    rw[hd]at ht10
    rw[Bool.true_and,Bool.true_and]
    have e2:decide (x.key=(p.name,p.v,c))=(bEq x.name p.name&&decide (x.v=p.v)&&decide (x.ctx=c)):=by
     rw[Bool.eq_iff_iff]
     simp only[Node.key,decide_eq_true_eq,Prod.mk.injEq,Bool.and_eq_true,Zca]
     exact⟨λ⟨a,b,c⟩=>⟨⟨a,b⟩,c⟩,λ⟨⟨a,b⟩,c⟩=>⟨a,b,c⟩⟩
    rw[e2]
    cases hq1:bEq x.name p.name with
    |false=>rfl
    |true=>
     cases hq2:decide (x.v=p.v)with
     |false=>rfl
     |true=>
      rw[hq1,hq2]at ht10
      rw[ht10 rfl]
      simp
  rw[hgo]
  refine⟨λhq=>?_,λhq=>join.named λJ hJ=>?_⟩
  ·rw[Bool.and_eq_true,decide_eq_true_eq,Bool.not_eq_true',decide_eq_false_iff_not]at hq
   refine hn2 hq.1 w10 ⟨x710,λj hj j1 j2=>?_⟩
   rcases Nat.lt_succ_iff_lt_or_eq.1 j2 with h2|h2
   ·exact hI8 j hj j1 h2
   ·subst h2; rw[hxl hj]; exact hq.2
  have hpl:PlaceAt (ns++added) (p.name,p.v,c) n:=⟨h1,oM,hI8,λh=>by
   rw[decide_eq_true h,Bool.true_and,Bool.not_eq_false',decide_eq_true_eq]at hq
   rw[hxl h]; exact hq⟩
  clear hn2 hgo hq
  have hfind:=hpl.find hrks
  have x610:=x7.trans x710
  have hJ': ∀(so':Sl) w' (added':List Node),Ext w4 w'→BoxAt w' a54 (pinC p)→OwnS nodeE 72 w' w4.heap.size (Nb sp w4) so' (ns++added')→OwnS edgeE 80 w' w4.heap.size None' se ed→Apart so' se→(ns++added').length≤q.N→(∀x∈added',Rises x.ctx∧x.ctx.length≤2048)→
    putK q.N (ns.map Node.key) xs=(putK q.N ((ns++added').map Node.key) (xs.drop (i+1))).map (λr=>(added'++r.1,ed++(⟨p.name,(n:Int)⟩::r.2)))→J so' w':=by
   subst hJ
   intro so' w11 added' x11 hbx q1 q2 q3 q4 q5 q6
   have s11:=x11.size
   refine⟨p.name,hbx.at0 xR rfl,newS.intro λa28 w12 x12 hb12 hab12 _=> ?_⟩
   refine(q2.ext x12).push Z3m (by have:=x12.size; omega) (x:=⟨p.name,(n:Int)⟩) (S':=None') ⟨rfl,hst⟩ (hb12.ldc.pre (r:=[]) rfl) (λ_ h=>h.elim) (λ_ _ h=>h.elim) (by rw[eE,hedl]; unfold room; omega) (by rw[Zb,hedl]; omega) λse2 w13 o13 bel13 oth13 reg13=>?_
   have o13:=OwnS.flat (λh=>h) o13
   have hoth:Oth se w12 w13:=⟨bel13.size,oth13⟩
   have x413:Ext w4 w13:=(x11.trans x12).trans' bel13
   have q1':=q1.ext x12
   refine hnx hlt' so' se2 w13 ⟨added',_,x413,q1'.oth hoth q3 (λa ha hQb=>by have:=(q2.block ha).1; have:=hQb.1; omega),o13,λa b ha hb'=>?_,q4,q5,by rw[List.length_append,List.length_singleton,hedl],?_⟩
   ·rcases reg13 b hb' with h|h
    ·exact q3 a b ha h
    ·have:=(q1'.block ha).2.1; omega
   ·rw[q6]
    congr 1
    funext r
    rw[List.append_assoc]; rfl
  clear hJ hnx
  have x010:=x4.trans x410
  refine⟨λhq=>?_,λhq=>?_⟩
  ·have hpe:n=(ns++added).length:=oM
   have hnone:=hfind.2 hpe
   rw[←hkey]at hnone
   refine⟨sp,rfl,q.N,?_,λhq2=>?_,λhq2=>bnd.drew λw11 x11=>?_⟩
   ·have:=hb.at1 (k:=8) (cs':=[.int .i64 (q.N:Int)]) x010 rfl
    rw[Zfi]; exact this
   ·have hfull:((ns++added).map Node.key).length=q.N:=by rw[List.length_map]; omega
    rw[Zs0 hnone hfull]at hput
    have hm:q.bind ns k e= .many:=by rw[hbd]; dsimp only; rw[hput]; rfl
    rw[hm]at hR
    exact SE.Zce.go (pend_se (hb.ext x010) λw11 b11 hb11=>⟨rfl,hR w11 ⟨(x010.but _).trans' b11,(t:Int),Sl.nil,hb11⟩⟩)
   ·have hnf: ¬((ns++added).map Node.key).length=q.N:=by rw[List.length_map]; omega
    rw[Zvu hnone hnf]at hput
    have x711:=x710.trans x11
    have x411:=x47.trans x711
    refine⟨_,(hb7.ext x711).at0 xR rfl,_,_,_,(hb7.ext x711).at1 (k:=1) xR rfl,⟨g,0,none⟩,⟨rfl,oM,by show(i:Int)<(E.length:Int); omega⟩,sc,by rw[Int.toNat_natCast]; exact hacs _ x411,newS.intro λa101 w12 x12 hb12 hab12 _=> ?_⟩
    have x412:=x411.trans x12
    have x612:=x7.trans (x711.trans x12)
    have s12:=x412.size
    have hgl4:=hR4.lt
    have hrep:nodeE.rep w12 (λb=>Nb sp w4 b) (mkNd p c) [.string p.name,.int .i64 p.v.ma,.int .i64 p.v.mi,.int .i64 p.v.pa,sc.v,Sl.nil.v]:=⟨hst,sc,Sl.nil,rfl,(hsc.ext x412).mono λb hb=>⟨hb.2,by have:=hb.1; omega⟩,SlR.nil trivial⟩
    have hlN2:(ns++added).length+1≤q.N:=by rw[List.length_map]at hnf; omega
    refine(oN.ext x612).push Zu4 s12 (x:=mkNd p c) (S':=Nb sp w4) hrep (hb12.ldc.pre (r:=[]) rfl) (λb hb=>by have:=hb.1; omega) (λa ha hb=>by have:=(oN.block ha).1; have:=hb.1; omega) (by rw[eN]; unfold room; omega) (by rw[Zb]; omega) λso2 w13 o13 bel13 oth13 reg13=>?_
    have o13:OwnS nodeE 72 w13 w4.heap.size (Nb sp w4) so2 (ns++(added++ [mkNd p c])):=by
     rw[←List.append_assoc]
     exact o13.mono (λb hb=>hb.elim id id) (λb hb=>by have:=hb.1; have:=bel13.size; omega) (λa ha hb=>by have:=(o13.block ha).1; have:=hb.1; omega)
    have hoth:Oth so3 w12 w13:=⟨bel13.size,oth13⟩
    have x413:Ext w4 w13:=x412.trans' bel13
    have hbx:BoxAt w13 a54 (pinC p):=(hb7.ext (x711.trans x12)).keep (S:=λb'=>b'=a54.block) rfl λb' hb' hlt=>oth13 b' hlt λad' had' e=>by
     have h1:=(oN.block had').2.1
     have hb':b'=a54.block:=hb'
     omega
    have oE12:=oE.ext x612
    refine hJ' so2 w13 (added++ [mkNd p c]) x413 hbx o13 (oE12.oth hoth hap.swap λ_ _ h=>h.elim) (λa b ha hb'=>?_) (by rw[←List.append_assoc,List.length_append,List.length_singleton]; exact hlN2) (λx hx=>?_) ?_
    ·rcases reg13 a ha with h|h
     ·exact hap a b h hb'
     ·have:=(oE12.block hb').2.1; omega
    ·rcases List.mem_append.1 hx with hx|hx
     ·exact hadc x hx
     ·rw[List.mem_singleton]at hx; subst hx; exact hcrs
    ·rw[hput,Option.map_map]
     have e1:(ns++added).map Node.key++ [(mkNd p c).key]=(ns++(added++ [mkNd p c])).map Node.key:=by rw[←List.append_assoc,List.map_append (l₂:= [mkNd p c])]; rfl
     rw[e1]
     congr 1
     funext r
     show(added++(mkNd p c::r.1),ed++((⟨p.name,_⟩:Edge)::r.2))=_
     rw[List.append_assoc,hpe,List.length_map]; rfl
  ·have hpl2:n<(ns++added).length:=by have:=hpl.le; omega
   have hsome:=hfind.1 hpl2
   rw[←hkey]at hsome
   rw[Zvt hsome,Option.map_map]at hput
   exact hJ' so3 w10 added x410 (hb7.ext x710) (oN.ext x610) (oE.ext x610) hap hlN hadc hput
 ·have hdn:xs.drop i= []:=List.drop_eq_nil_of_le oM
  rw[hdn]at hput
  have hput:putK q.N (ns.map Node.key) xs=some (added,ed):=by rw[hput,putK]; simp
  have hbok:q.bind ns k e= .ok (Zbz ns k ed++added):=by rw[hbd]; dsimp only; rw[hput]
  rw[hbok]at hR hne
  dsimp only at hR hne
  have hk6:k<(ns++added).length:=by rw[List.length_append]; omega
  have hgx:(ns++added)[k]=ns[k]:=List.getElem_append_left hk
  have hsol:=oN.len
  have oN':OwnS nodeE 72 w6 w4.heap.size (λb=>Nb sp w4 b∨ ∃ad,se.a=some ad∧b=ad.block) so3 (ns++added):=oN.mono (λb hb=>.inl hb) (λb hb=>by
   rcases hb with hb|⟨ad,had,rfl⟩
   ·exact oN.lt b hb
   ·exact(oE.block had).2.1) (λa ha hb=>by
   rcases hb with hb|⟨ad,had,he⟩
   ·exact oN.apart a ha hb
   ·exact hap a ad ha had he)
  obtain⟨ad50,cs50,had50,_,_⟩:=oN'.el (i:=k) (x:=ns[k]) (by rw[List.getElem?_eq_getElem hk6,hgx])
  refine⟨ad50,⟨had50,oM,oM⟩,?_⟩
  rw[Int.toNat_natCast]
  have hrdE:=oE.read (by rw[eE,hedl]; unfold room; omega) (by rw[Zb,hedl]; omega)
  refine oN'.setEl (i:=k) (x:={ns[k]with edges:=ed}) (o:=5) (new:=[se.v]) hk6 had50 (λcs' hcs'=>?_) (by show 5+1≤6; omega) λw7 b7 hz7 o7=>?_
  ·rw[hgx]at hcs'
   obtain⟨k1,c',e',rfl,k2,k3⟩:=hcs'
   exact⟨k1,c',se,rfl,k2,hrdE.mono λb hb=>.inr (hb.elim (λh=>h.elim) id)⟩
  ·have hset:(ns++added).set k {ns[k]with edges:=ed}=Zbz ns k ed++added:=Zmt hk
   rw[hset]at o7
   have hl50:=(oN.block had50).1
   have x7:Ext w4 w7:=b7.ext x6 hl50
   have x07:=x4.trans x7
   have s7:=x7.size
   have hln:(Zbz ns k ed++added).length=(ns++added).length:=by rw[List.length_append,Zj1,List.length_append]
   have hrdN:SlR nodeE w7 (Nb sp w7) so3 (Zbz ns k ed++added):=(o7.read (by rw[hln,eN]; unfold room; omega) (by rw[hln,Zb]; omega)).mono λb hb=>by
    rcases hb with(hb|⟨ad,had,rfl⟩)|⟨ad,had,rfl⟩
    ·exact⟨by have:=hb.1; omega,hb.2⟩
    ·have:=oE.block had; have:=b7.1; exact⟨oM,oM⟩
    ·have:=o7.block had; exact⟨this.2.1,oM⟩
   have hN':NsOk q (Zbz ns k ed++added):=by
    refine⟨by rw[hln]; exact hlN,hN.big,?_,λx hx=>?_⟩
    ·obtain⟨x,hx,hxk⟩:=hN.root
     have h1:=congrArg (λl:List NKey=>l[0]?) (Zj0 ns k ed)
     simp only[List.getElem?_map]at h1
     rw[hx]at h1
     cases h2:(Zbz ns k ed)[0]? with
     |none=>rw[h2]at h1; cases h1
     |some y=>
      rw[h2]at h1
      have:y.key=x.key:=Option.some.inj h1
      refine⟨y,?_,this.trans hxk⟩
      rw[List.getElem?_append_left (List.getElem?_eq_some_iff.1 h2).1]; exact h2
    ·rcases List.mem_append.1 hx with hx|hx
     ·obtain⟨y,hy,he⟩:=Zmu hx
      rw[←he]; exact hN.ctx y hy
     ·exact hadc x hx
   have ew:Za ((k:Int)+1)=((k+1:Nat):Int):=by rw[Zc oM oM]; omega
   rw[ew]
   refine SE.Zb6.go (Zp5 hf (k:=k+1) (hC.ext x07) (hb.ext x07) hN' (by rw[hln]; omega) ht hD hrdN (λh=>?_) λw8 hP=>⟨rfl,hR w8 (hP.from (x07.but _))⟩)
   rw[if_neg oM]at hne
   exact hne
theorem Zph(q:Quest): ∀f,Znh q f
 |0=>λsp K d3 d4 ns k ws ch t nds wss chs w _ _ _ _ _ _ _ _ hne=>absurd (by rw[Quest.go]) hne
 |f+1=>λsp K d3 d4 ns k ws ch t nds wss chs w hC hb hN hk hwl hwS ht hD hne hs hw hch=>by
  have hf:=Zph q f
  have hwsl:=hw.len
  have hG:=hC.good
  have hsp:=hC.lt
  refine SE.Zd5.go ?_
  unfold SE.Zd5
  refine⟨λhv=>?_,λhv=>?_⟩
  ·have hws:ws= []:=List.eq_nil_of_length_eq_zero oM
   subst hws
   exact SE.Zdt.go (Z2o hf hC hb hN hk (by simpa using hwl) ht hD hs hch hne λw' hP=>⟨rfl,rfl,hP⟩)
  ·obtain⟨wt,rest,rfl⟩: ∃a r,ws=a::r:=by
    cases ws with
    |nil=>exact absurd (by rw[hwsl]; rfl) hv
    |cons a r=>exact⟨a,r,rfl⟩
   obtain⟨ad,tr,had,_,hwn,hwr,hcw⟩:=Zwa hw (n:=0) sI
   simp only[List.getElem_cons_zero]at hwn hwr hcw
   rw[Quest.go]at hne ⊢
   have hkx:ns[k]? =some ns[k]:=List.getElem?_eq_getElem hk
   obtain⟨an,cx,ex,han,_,hcx,_,hcn⟩:=Zff hs hk
   have hctx:Zf0 ns k=ns[k].ctx:=by unfold Zf0 Zsl; rw[List.getElem?_map,hkx]; rfl
   have hnl:=hs.len
   have hrest:SlR wantE w (Nb sp w) (Sl.cut wss ((1:Int).toNat) wss.len 3) rest:=by
    have h:=hw.cut (a:=1) (b:=wss.len) (by rw[hwsl]; simp) oM
    rw[hwsl,List.take_length]at h
    rw[hwsl]; exact h
   have hll:(wt::rest).length=rest.length+1:=rfl
   generalize hkf:(λ(o:Option Ver) (t:Nat)=>q.go f ns k rest (addO (envC (Zf0 ns k) ch) wt.name o) t)=kf at*
   refine⟨ad,⟨had,oM,oM⟩,_,_,tr,hcw _ xR,newS.set rfl λa w2 x2 ha hab=>bnd.drew λw3 x3=>?_⟩
   have x03:=x2.trans x3
   have hC3:=hC.ext x03
   obtain⟨SC,r,hcat,_,_,_⟩:=hC3.cat
   have hals:a.block≠sp.block:=oM
   rw[hctx]at hne ⊢
   generalize hgoal:Zgt q.D kf (opts (q.cand ns[k].ctx wt)) t=res at*
   refine⟨sp,rfl,_,hb.at0 x03 rfl,_,ha.at0 x3 rfl,tr,ha.at1 (k:=2) (r:=[]) x3 rfl,sp,rfl,K.pS,hb.at1 (k:=6) x03 rfl,?_⟩
   refine SE.Zbg.go (Ztr (n:=wt.name) (ll:=wt.range) (lp:=q.pins) hcat ((Nb.old sp w).ext x03.size) (Nb.old sp w3) (hwr.ext x03) hC3.pins λt39 w4 x4 hfl=>⟨_,rfl,?_⟩)
   have x04:=x03.trans x4
   have x24:=x3.trans x4
   have hV4:SlR verE w4 (Nb sp w4) t39 (Znq q.L wt.name wt.range q.pins):=(FlatO.read (E:=verE) hfl (λ_=>rfl) λ_ _ x _=>⟨rfl,trivial⟩).nbNew (by have:=x03.size; omega)
   clear hfl
   refine join.named λJ57 hJ57=>?_
   have key57: ∀(v4:Addr) (told:Bool) w5,Ext w4 w5→(told=true→ ∃v,tells ns[k].ctx wt.name=some v∧BoxAt w5 v4 v.c)→(told=false→tells ns[k].ctx wt.name=none)→J57 v4 told w5:=by
    subst hJ57
    intro v4 told w5 x5 his1 his0
    refine join.named λJ34 hJ34=>?_
    have x05:=x04.trans x5
    have x25:=x24.trans x5
    have key34: ∀(vsl:Sl) (V:List Ver) (may:Bool) w6,Ext w5 w6→SlR verE w6 (Nb sp w6) vsl V→V.length≤1000→q.cand ns[k].ctx wt=(V,may)→may=(decide (wt.kind=2)&& !told)→J34 vsl w6:=by
     subst hJ34
     intro vsl V may w6 x6 hV hVl hcand hmay
     rw[hcand]at hgoal
     have hvl6:=hV.len
     have x06:=x05.trans x6
     have x26:=x25.trans x6
     have ha6:=ha.ext x26
     have hal6:=ha6.lt
     have hsp6:=x06.size
     refine loop1.up (N:=V.length+1) (by rw[Zb]; omega) (λi w'=>∃ti:Nat,But sp.block w6 w'∧BoxAt w' sp (srchP K q.D q.N d3 d4 ti false 0 Sl.nil)∧ti≤q.D∧Zgt q.D kf ((opts (V,may)).drop i) ti=res) ⟨t,(Ext.refl w6).but _,hb.ext x06,ht,by rw[List.drop_zero]; exact hgoal⟩ λi w7 nxt hi ⟨ti,b7,hb7,hti,htry⟩ hn=>bound (bound ?_)
     have b07:But sp.block w w7:=(x06.but _).trans' b7
     have ha7:=b7.box ha6 hals
     refine⟨wt.kind,λ_=>ha7.at1 (k:=1) xR rfl,bound ?_⟩
     have hcond:(decide ((i:Int)<(vsl.len:Int))||((((i:Int)==(vsl.len:Int))&&(wt.kind==2))&& !told))=(decide (i<V.length)||(decide (i=V.length)&&may)):=by
      have e1:decide ((i:Int)<(vsl.len:Int))=decide (i<V.length):=decide_eq_decide.2 oM
      have e2:((i:Int)==(vsl.len:Int))=decide (i=V.length):=by
       rw[Bool.eq_iff_iff,beq_iff_eq,decide_eq_true_eq]; omega
      have e3:(wt.kind==2)=decide (wt.kind=2):=by rw[Bool.eq_iff_iff,beq_iff_eq,decide_eq_true_eq]
      rw[e1,e2,e3,hmay,Bool.and_assoc]
     rw[hcond]
     refine⟨λhq=>bnd.drew λw8 x8=>?_,λhq=>?_⟩
     ·obtain⟨o,ho1,ho2,ho3⟩: ∃o,(opts (V,may)).drop i=o::(opts (V,may)).drop (i+1)∧(∀h:i<V.length,o=some V[i])∧(¬i<V.length→o=none):=by
       by_cases hlt:i<V.length
       ·exact⟨some V[i],Zsv (x:=(V,may)) hlt,λ_=>rfl,λh=>absurd hlt h⟩
       ·rw[decide_eq_false hlt,Bool.false_or,Bool.and_eq_true,decide_eq_true_eq]at hq
        obtain⟨hiv,hm⟩:=hq
        subst hm hiv
        exact⟨none,by rw[Zsu,Zln],λh=>absurd h hlt,λ_=>rfl⟩
      have hiV:i≤V.length:=by
       rw[Bool.or_eq_true,decide_eq_true_eq,Bool.and_eq_true,decide_eq_true_eq]at hq
       rcases hq with h|h
       ·omega
       ·omega
      rw[ho1]at htry
      have b8:But sp.block w6 w8:=b7.trans' (x8.but _)
      have b08:But sp.block w w8:=(x06.but _).trans' b8
      have hb8:=hb7.ext x8
      refine⟨sp,rfl,ti,hb8.at1 (k:=11) xR rfl,sp,rfl,q.D,hb8.at1 (k:=7) xR rfl,λhq=>?_,λhq=>⟨sp,rfl,ti,hb8.at1 (k:=11) xR rfl,sp,rfl,?_⟩⟩
      ·have hq':ti=q.D:=oM
       rw[Zv6 hq']at htry
       rw[←htry]
       exact SE.Zce.go (pend_se hb8 λw9 b9 hb9=>⟨rfl,rfl,b08.trans' b9,_,_,hb9⟩)
      ·have hq':ti≠q.D:=oM
       rw[Zv7 hq']at htry
       have ew:Za ((ti:Int)+1)=((ti+1:Nat):Int):=by rw[Zc oM oM]; omega
       rw[ew]
       refine stw.intro (o:=11) hb8 (by show 12≤15; omega) λw9 b9 _ hb9=>?_
       have hb9:BoxAt w9 sp (srchP K q.D q.N d3 d4 ((ti+1:Nat):Int) false 0 Sl.nil):=hb9
       have b69:=b8.trans' b9
       have b09:=b08.trans' b9
       have ha9:=b69.box ha6 hals
       have hch9:=hch.nbBut b09
       have hne2:kf o (ti+1)≠ .out:=λh=>by
        rw[h]at htry
        exact hne htry.symm
       refine SE.Zat.go (clonePin_se (Nb.old sp w9) hch9 λt99 w10 x10 o10=>⟨_,rfl,join.named λJ hJ=>?_⟩)
       have keyJ: ∀(vn:Sl) w22 (ch2:List Pin),Ext w9 w22→SlR pinE w22 (Nb sp w22) vn ch2→ch2.length≤ch.length+1→envC (Zf0 ns k) ch2=addO (envC (Zf0 ns k) ch) wt.name o→J vn w22:=by
        subst hJ
        intro vn w22 ch2 x22 hvn hl2 he2
        have b022:=b09.trans' (x22.but _)
        refine⟨⟨oM,oM⟩,?_⟩
        have hcall:=hf sp K d3 d4 ns k rest ch2 (ti+1) nds (Sl.cut wss ((1:Int).toNat) wss.len 3) vn w22 (hC.but b022) (hb9.ext x22) hN hk oM (λx hx=>hwS x (.tail _ hx)) oM hD (by rw[he2]; rw[←hkf]at hne2; exact hne2) (hs.nbBut b022) (hrest.nbBut b022) hvn
        rw[he2]at hcall
        refine hcall.mono λv w23 ⟨hv2,hP⟩=>⟨hv2,?_⟩
        have hP:PostP q sp K d3 d4 w22 (kf o (ti+1)) w23:=by rw[←hkf]; exact hP
        have hb023:=b022.trans' hP.1
        obtain⟨hP1,hP2⟩:=hP
        cases hr:kf o (ti+1)with
        |out=>exact absurd hr hne2
        |fail t'=>
         rw[hr]at hP2 htry
         obtain⟨htD,hb23⟩:=hP2
         exact⟨sp,rfl,false,hb23.at1 (k:=12) xR rfl,nO,λ_=>hn oM w23 ⟨t',(b69.trans' (x22.but _)).trans' hP1,hb23,htD,htry⟩⟩
        |done ns' t'=>
         rw[hr]at hP2 htry
         obtain⟨fnd,hb23,hfn⟩:=hP2
         refine⟨sp,rfl,true,hb23.at1 (k:=12) xR rfl,λ_=> ?_,nO⟩
         rw[←htry]
         exact⟨rfl,hb023,fnd,hb23,hfn⟩
        |err c=>
         rw[hr]at hP2 htry
         obtain⟨t',fnd,hb23⟩:=hP2
         refine⟨sp,rfl,true,hb23.at1 (k:=12) xR rfl,λ_=> ?_,nO⟩
         rw[←htry]
         exact⟨rfl,hb023,t',fnd,hb23⟩
       clear hJ
       have hspw:sp.block<w9.heap.size:=by have:=b09.1; omega
       refine⟨λhlt=>bnd.drew λw11 x11=>?_,λhlt=>?_⟩
       ·have hlt':i<V.length:=oM
        rw[ho2 hlt']at keyJ
        have x911:=x10.trans x11
        obtain⟨av,hav,_,_,hcv⟩:=Z56 ((hV.nbBut b69).nbExt x911) hlt'
        refine⟨_,(ha9.ext x911).at0 xR rfl,av,⟨hav,oM,oM⟩,V[i].ma,V[i].mi,V[i].pa,by rw[Int.toNat_natCast]; exact hcv _ xR,newS.intro λa52 w12 x12 hb12 _ _=> ?_⟩
        refine(o10.ext (x11.trans x12)).pushF (x10.trans (x11.trans x12)) Zoz (x:=⟨wt.name,V[i]⟩) ⟨rfl,hwn⟩ (hb12.ldc.pre (r:=[]) rfl) dC (by show(ch.length+1)*40≤room; unfold room; omega) λr w13 o13 x13=>?_
        refine keyJ r w13 (ch++ [⟨wt.name,V[i]⟩]) x13 ?_ sI (Zr4 _ _ _)
        exact(FlatO.pins (FlatO.of (E:=pinE) (λx cs h=>h.1) o13 (by rw[List.length_append,List.length_singleton]; unfold room; omega)) λp hp=>by
         rcases List.mem_append.1 hp with hp|hp
         ·exact Zvp hch p hp
         ·rw[List.mem_singleton]at hp; subst hp; exact hwn).nbNew hspw
       ·rw[ho3 oM]at keyJ
        exact keyJ t99 w10 ch x10 ((FlatO.pins (FlatO.of (E:=pinE) (λx cs h=>h.1) o10 (by unfold room; omega)) (Zvp hch)).nbNew hspw) oM rfl
     ·have hend:(opts (V,may)).drop i= []:=by
       rw[Bool.or_eq_false_iff,decide_eq_false_iff_not,Bool.and_eq_false_iff]at hq
       obtain⟨h1,h2⟩:=hq
       by_cases hiv:i=V.length
       ·subst hiv
        rcases h2 with h2|h2
        ·rw[decide_eq_true rfl]at h2; cases h2
        ·subst h2; exact Zvm
       ·have:i=V.length+1:=oM
        rw[this]; exact Zln
      rw[hend,Zgt]at htry
      rw[←htry]
      exact⟨rfl,b07,hti,hb7⟩
    clear hJ34
    have hsp5:=x05.size
    refine⟨λh=>?_,λh=>?_⟩
    ·obtain⟨v,hv1,hv2⟩:=his1 h
     refine⟨tr,(ha.ext x25).at1 (k:=2) (r:=[]) xR rfl,v.ma,v.mi,v.pa,hv2.ldc.pre (r:=[]) rfl,?_⟩
     refine SE.Zk0.go (Zoo (v:=v) (hwr.ext x05) λw6 x6=>⟨_,rfl,λh1=>?_,λh1=>?_⟩)
     ·refine⟨v.ma,v.mi,v.pa,(hv2.ext x6).ldc.pre (r:=[]) rfl,newS.intro λa42 w7 x7 hb42 hab42 _=> ?_⟩
      refine key34 ⟨some a42,1,1⟩ [v] false w7 (x6.trans x7) ((Zjj (E:=verE) (S:=None') (x:=v) hb42 ⟨rfl,trivial⟩ dC).mono λb hb=>?_) sI ?_ (by rw[h]; simp)
      ·rcases hb with hb|rfl
       ·exact hb.elim
       ·have:=hb42.lt; have:=x6.size; exact⟨oM,oM⟩
      ·unfold Quest.cand; rw[hv1]; dsimp only; rw[if_pos h1]
     ·refine key34 Sl.nil [] false w6 x6 (SlR.nil trivial) sI ?_ (by rw[h]; simp)
      unfold Quest.cand; rw[hv1]; dsimp only; rw[if_neg (by rw[h1]; decide)]
    ·have hv0:=his0 h
     refine key34 t39 _ (decide (wt.kind=2)) w5 xR (hV4.nbExt x5) (Nat.le_trans (Zvb hG wt.name wt.range q.pins) oM) ?_ (by rw[h]; simp)
     unfold Quest.cand; rw[hv0]
   clear hJ57
   refine bnd.drew λw5 x5=>⟨an,⟨han,oM,oM⟩,cx,(hcn _ (x04.trans x5)).mid (k:=4) rfl,_,(ha.ext (x24.trans x5)).at0 xR rfl,?_,?_⟩
   ·refine SE.Zc7.go (Zi7 (hcx.ext (x04.trans x5)) (λv w6 hv x6=>⟨_,_,_,_,rfl,newS.set rfl λa67 w7 x7 hb7 _=>key57 a67 true w7 (x5.trans (x6.trans x7)) (λ_=>⟨v,hv,hb7⟩) nO⟩) λw6 hv x6=>⟨_,_,_,_,rfl,newS.set rfl λa67 w7 x7 hb7 _=>key57 a67 false w7 (x5.trans (x6.trans x7)) nO λ_=>hv⟩)
   ·refine newS.intro λa70 w6 x6 hb6 hab6 _=>SE.Zc7.go (Zi7 (hcx.ext ((x04.trans x5).trans x6)) (λv w7 hv x7=>⟨_,_,_,_,rfl,stw0.intro (hb6.ext x7) sI λw8 b8 _ hb8=>key57 a70 true w8 (b8.ext (x5.trans (x6.trans x7)) (by have:=x5.size; omega)) (λ_=>⟨v,hv,hb8⟩) nO⟩) λw7 hv x7=>⟨_,_,_,_,rfl,stw0.intro (hb6.ext x7) sI λw8 b8 _ hb8=>key57 a70 false w8 (b8.ext (x5.trans (x6.trans x7)) (by have:=x5.size; omega)) nO λ_=>hv⟩)
theorem Zod{L:List Pack}{m:Mani}{dev:Bool}{pins:List Pin}{SC SA:Nat→Prop}{cp:Addr}{r:Nat}{mD mDev mOpt mOv pS:Sl}{D N d3 d4:Int}{w:World}{R:Sl→Int→Int→World→Prop}(htb:Tab w)(hSA:Old SA w)
  (hcat:CatL w SC cp r L) (hd:SlR depE w SA mD m.deps) (he:SlR depE w SA mDev m.dev) (ho:SlR depE w SA mOpt m.opt) (hv:SlR depE w SA mOv m.over) (hp:SlR pinE w SA pS pins)
  (hR: ∀nds w',Ext w w'→SlR nodeE w' (λb=>w.heap.size≤b∧b<w'.heap.size∨b<w.heap.size) nds (Zjz L m dev pins D N).ns→R nds (Zjz L m dev pins D N).dec (Zjz L m dev pins D N).code w'):
  SE.Zci (some cp) mD mDev mOpt mOv dev pS D N d3 d4 w R:=by
 unfold SE.Zci
 refine newS.intro λa w1 x1 ha hab _=>newS.intro λa1 w2 x2 ha1 hab1 _=>newS.intro λa3 w3 x3 ha3 hab3 _=>bound ⟨mD,mDev,mOpt,mOv,λ_=>ha.at0 (r:=[]) (x2.trans x3) rfl,?_⟩
 have x03:=x1.trans (x2.trans x3)
 have s1:=x1.size; have s2:=x2.size; have s3:=x3.size
 have hcl:=hcat.lt
 refine gCall.intro (Zb1 m) (λ_ k hk=>SE.Zen.go (Zme (m:=m) (htb.ext x03) (hSA.ext x03.size) (hd.ext x03) (he.ext x03) (ho.ext x03) (hv.ext x03) λw4 x4=>⟨_,rfl,hk w4 x4⟩)) λt19 w4 x4 ht=>?_
 have ht:=ht rfl
 subst ht
 have x04:=x03.trans x4
 have x14:Ext w1 w4:=x2.trans (x3.trans x4)
 have x24:Ext w2 w4:=x3.trans x4
 refine bound ⟨D,λ_=>ha1.at0 x24 rfl,bound ⟨D,λ_=>ha1.at0 x24 rfl,bound ⟨N,λ_=>ha1.at1 (k:=1) x24 rfl,bound ⟨N,λ_=>ha1.at1 (k:=1) x24 rfl,λhq=>?_,λhq=>?_⟩⟩⟩⟩
 ·have hno: ¬(Zb1 m=true∧1≤D∧D≤4096∧1≤N∧N≤128):=λ⟨h1,h2,h3,h4,h5⟩=>by
   rw[h1,decide_eq_false oM,decide_eq_false oM,decide_eq_false oM,decide_eq_false oM]at hq
   cases hq
  have hr:Zjz L m dev pins D N= .err 1:=by unfold Zjz; rw[if_neg hno]
  rw[hr]at hR
  refine stw0.intro (ha3.ext x4) sI λw5 b5 _ hb5=>⟨Sl.nil,hb5.ldc.pre (r:=[]) rfl,hR Sl.nil w5 (b5.ext x04 oM) (SlR.nil trivial)⟩
 ·have hok:Zb1 m=true∧1≤D∧D≤4096∧1≤N∧N≤128:=by
   simp only[Bool.or_eq_false_iff,Bool.not_eq_false',decide_eq_false_iff_not,Option.isNone_some,Bool.false_or]at hq
   obtain⟨⟨⟨⟨h1,h2⟩,h3⟩,h4⟩,h5⟩:=hq
   exact⟨h1,oM,oM,oM,oM⟩
  have hr:Zjz L m dev pins D N=(Quest.mk L m dev pins D.toNat N.toNat).res:=by unfold Zjz; rw[if_pos hok]
  rw[hr]at hR
  obtain⟨hm,hD1,hD2,hN1,hN2⟩:=hok
  obtain⟨Dn,rfl⟩: ∃n:Nat,D=(n:Int):=⟨D.toNat,oM⟩
  obtain⟨Nn,rfl⟩: ∃n:Nat,N=(n:Int):=⟨N.toNat,oM⟩
  rw[Int.toNat_natCast,Int.toNat_natCast]at hR
  generalize hqq:Quest.mk L m dev pins Dn Nn=q at hR
  have hqL:q.L=L:=by rw[←hqq]
  have hqm:q.m=m:=by rw[←hqq]
  have hqd:q.dev=dev:=by rw[←hqq]
  have hqp:q.pins=pins:=by rw[←hqq]
  have hqD:q.D=Dn:=by rw[←hqq]
  have hqN:q.N=Nn:=by rw[←hqq]
  refine⟨mD,mDev,mOpt,mOv,ha.at0 (r:=[]) x14 rfl,Dn,Nn,d3,d4,ha1.at0 (r:=[]) x24 rfl,newS.intro λsp w5 x5 hsp hspb _=>newS.intro λa20 w6 x6 hb20 hab20 _=> ?_⟩
  have s4:=x4.size; have s5:=x5.size; have s6:=x6.size
  have x06:=x04.trans (x5.trans x6)
  have hspl:=hsp.lt
  have hnb: ∀b,b<w.heap.size→Nb sp w6 b:=λb h=>⟨oM,oM⟩
  have hC:CxP w6 sp q ⟨cp,mD,mDev,mOpt,mOv,dev,pS⟩:=⟨⟨SC,r,by rw[hqL]; exact hcat.ext x06,λh=>by have:=hcl.2.2.1 _ h; omega,by show cp.block≠sp.block; omega,oM⟩,
   by rw[hqm]; exact(hd.ext x06).mono λb h=>hnb b (hSA b h),by rw[hqm]; exact(he.ext x06).mono λb h=>hnb b (hSA b h),by rw[hqm]; exact(ho.ext x06).mono λb h=>hnb b (hSA b h),by rw[hqm]; exact(hv.ext x06).mono λb h=>hnb b (hSA b h),by rw[hqp]; exact(hp.ext x06).mono λb h=>hnb b (hSA b h),hqd.symm,oM,by rw[hqm]; exact hm⟩
  have hb:BoxAt w6 sp (srchP ⟨cp,mD,mDev,mOpt,mOv,dev,pS⟩ q.D q.N d3 d4 ((0:Nat):Int) false 0 Sl.nil):=by rw[hqD,hqN]; exact hsp.ext x6
  have hnds:SlR nodeE w6 (Nb sp w6) ⟨some a20,1,1⟩ [rootNode]:=(Zjj (E:=nodeE) (S:=None') (x:=rootNode) hb20 ⟨by unfold Str rootNode; rw[Zb]; decide,Sl.nil,Sl.nil,rfl,SlR.nil trivial,SlR.nil trivial⟩ dC).mono λb h=>by
   rcases h with h|rfl
   ·exact h.elim
   ·exact⟨hb20.lt,oM⟩
  have hNs:NsOk q [rootNode]:=⟨by show 1≤q.N; omega,oM,⟨rootNode,rfl,rfl⟩,λx hx=>by
   rw[List.mem_singleton]at hx; subst hx
   exact⟨.nil,Nat.zero_le _⟩⟩
  have hfine:=Zvy (q:=q) oM
  have hrun:q.run=q.go q.fuel [rootNode] 0 (q.wants [rootNode] 0) (Zf0 [rootNode] 0) 0:=rfl
  refine SE.Zb6.go (Zp5 (Zph q q.fuel) (k:=0) hC hb hNs (Nat.zero_le _) (Nat.zero_le _) oM hnds (λ_ h=>?_) λw7 hP=>⟨rfl,?_⟩)
  ·rw[←hrun]at h; rw[h]at hfine; exact hfine
  rw[if_neg sI,←hrun]at hP
  obtain⟨b67,hP⟩:=hP
  have x46:Ext w4 w7:=b67.ext (x5.trans x6) oM
  have x07:=x04.trans x46
  have ha37:=ha3.ext (x4.trans x46)
  have ha3s:a3.block≠sp.block:=by have:=ha3.lt; omega
  have done: ∀(t12:Int) (nd:Sl) (w':World) (T:Nat→Prop) (n:List Node),Ext w w'→BoxAt w' a3 [nd.v]→SlR nodeE w' T nd n→(∀b,T b→b<w'.heap.size)→n=q.res.ns→t12=q.res.code→ ∃(r_Nodes:Sl),ldc w' a3 [(Sl.v r_Nodes)]∧R r_Nodes q.res.dec t12 w':=λt12 nd w' T n hx hbx hsl hT hn ht=>⟨nd,hbx.ldc.pre (r:=[]) rfl,by rw[ht]; exact hR nd w' hx (by rw[←hn]; exact hsl.mono λb hb=>by have:=hT b hb; omega)⟩
  unfold Quest.res at done
  cases hrr:q.run with
  |out=>rw[hrr]at hfine; exact hfine.elim
  |fail t=>
   rw[hrr]at hP done
   obtain⟨_,hb7⟩:=hP
   refine⟨false,hb7.at1 (k:=12) xR rfl,λ_=>stw0.intro ha37 sI λw8 b8 _ hb8=>done 30 Sl.nil w8 None' [] (b8.ext x07 oM) hb8 (SlR.nil trivial) (λ_ h=>h.elim) rfl rfl,nO⟩
  |done ns t=>
   rw[hrr]at hP done
   obtain⟨fnd,hb7,hfs⟩:=hP
   refine⟨true,hb7.at1 (k:=12) xR rfl,nO,λ_=>⟨0,hb7.at1 (k:=13) xR rfl,λh=>absurd rfl h,λ_=>join.named λJ hJ=>bnd.drew λw8 x8=>?_⟩⟩
   have keyJ: ∀w',Ext w w'→BoxAt w' a3 [fnd.v]→(∃T,SlR nodeE w' T fnd ns∧ ∀b,T b→b<w'.heap.size)→J t 0 w':=by
    subst hJ
    intro w' hx hbx ⟨T,hT,hT2⟩
    exact done 0 fnd w' T ns hx hbx hT hT2 rfl rfl
   clear hJ
   have hfa:=Zn9 (hfs.ext x8) (ha37.ext x8)
   have x08:=x07.trans x8
   have s8:=x8.size
   refine⟨fnd,hb7.at1 (k:=14) (r:=[]) x8 rfl,⟨_,hb7.at1 (k:=11) x8 rfl,stw0.intro (ha37.ext x8) sI λw9 b9 _ hb9=>keyJ w9 (b9.ext x08 oM) hb9 ⟨_,hfa.but b9 λh=>h.2 rfl,λb hb=>by have:=hb.1.1; have:=b9.1; omega⟩⟩,stw0.intro (ha37.ext x8) sI λw9 b9 _ hb9=>⟨_,(b9.box (hb7.ext x8) (Ne.symm ha3s)).at1 (k:=11) xR rfl,keyJ w9 (b9.ext x08 oM) hb9 ⟨_,hfa.but b9 λh=>h.2 rfl,λb hb=>by have:=hb.1.1; have:=b9.1; omega⟩⟩⟩
  |err c=>
   rw[hrr]at hP done hfine
   obtain⟨t,fnd,hb7⟩:=hP
   have hc0: ¬c=0:=by rcases hfine with h|h<;>omega
   refine⟨true,hb7.at1 (k:=12) xR rfl,nO,λ_=>⟨c,hb7.at1 (k:=13) xR rfl,λ_=>join.named λJ hJ=>bnd.drew λw8 x8=>?_,λh=>absurd hc0 h⟩⟩
   have keyJ: ∀w',Ext w w'→BoxAt w' a3 [Sl.nil.v]→J 0 c w':=by
    subst hJ
    intro w' hx hbx
    exact done c Sl.nil w' None' [] hx hbx (SlR.nil trivial) (λ_ h=>h.elim) rfl rfl
   clear hJ
   have x08:=x07.trans x8
   refine⟨⟨c,hb7.at1 (k:=13) x8 rfl,stw0.intro (ha37.ext x8) sI λw9 b9 _ hb9=>keyJ w9 (b9.ext x08 oM) hb9⟩,stw0.intro (ha37.ext x8) sI λw9 b9 _ hb9=>⟨c,(b9.box (hb7.ext x8) (Ne.symm ha3s)).at1 (k:=13) xR rfl,keyJ w9 (b9.ext x08 oM) hb9⟩⟩
theorem presolveNone_se{mD mDev mOpt mOv pS:Sl}{dev:Bool}{D N d3 d4:Int}{w:World}{R:Sl→Int→Int→World→Prop}(hR: ∀w',Ext w w'→R Sl.nil 0 1 w'):SE.Zci none mD mDev mOpt mOv dev pS D N d3 d4 w R:=by
 unfold SE.Zci
 refine newS.intro λa w1 x1 ha hab _=>newS.intro λa1 w2 x2 ha1 hab1 _=>newS.intro λa3 w3 x3 ha3 hab3 _=>bound ⟨mD,mDev,mOpt,mOv,λ_=>ha.at0 (r:=[]) (x2.trans x3) rfl,?_⟩
 have s1:=x1.size; have s2:=x2.size
 refine gCall.intro false nO λt19 w4 x4 _=>bound ⟨0,nO,bound ⟨0,nO,bound ⟨0,nO,bound ⟨0,nO,λ_=> ?_,nO⟩⟩⟩⟩
 exact stw0.intro (ha3.ext x4) sI λw5 b5 _ hb5=>⟨Sl.nil,hb5.ldc.pre (r:=[]) rfl,hR w5 (b5.ext (x1.trans (x2.trans (x3.trans x4))) oM)⟩
def emptyB(s:Stt):Bool:=decide (s.m=⟨[],[],[],[]⟩)&&(decide (s.g.length=1)&&(decide (s.T.length=1)&& !s.pruned))
theorem Z1s{m:Mani}{T:List Dir}{g:List Node}{pr:Bool}{d e o v s u:Sl}{S S' Q:Nat→Prop}{w:World}{R:Bool→World→Prop}(hd:SlR depE w S' d m.deps)(he:SlR depE w S' e m.dev)(ho:SlR depE w S' o m.opt)(hv:SlR depE w S' v m.over)
  (hs:SlR dirE w S s T) (hg:SlR nodeE w Q u g) (hR: ∀w',Ext w w'→R (emptyB ⟨m,g,T,pr⟩) w'):SE.Zhi d e o v u s pr w R:=by
 unfold SE.Zhi
 have hsl:=hs.len
 have hgl:=hg.len
 refine newS.intro λa w1 x1 hb1 _ _=>⟨d,e,o,v,hb1.at0 xR rfl,?_⟩
 refine SE.Zez.go (Zjq (m:=m) (k:=⟨[],[],[],[]⟩) (S:=S') (T:=λ_=>False) (hd.ext x1) (he.ext x1) (ho.ext x1) (hv.ext x1) (SlR.nil trivial) (SlR.nil trivial) (SlR.nil trivial) (SlR.nil trivial) λw2 x2=>⟨_,rfl,u,λ_=>hb1.at1 (k:=4) x2 rfl,bound ⟨s,λ_=>hb1.at1 (k:=5) x2 rfl,bound ⟨pr,λ_=>hb1.at1 (k:=6) (r:=[]) x2 rfl,?_⟩⟩⟩)
 have h:=hR w2 (x1.trans x2)
 have e1:((u.len:Int)==1)=decide (g.length=1):=by rw[Bool.eq_iff_iff,beq_iff_eq,decide_eq_true_iff]; omega
 have e2:((s.len:Int)==1)=decide (T.length=1):=by rw[Bool.eq_iff_iff,beq_iff_eq,decide_eq_true_iff]; omega
 rw[e1,e2]
 unfold emptyB at h
 rw[Bool.and_assoc,Bool.and_assoc]
 exact h
def n11:ByteArray:=⟨#[97]⟩
def u11:Ver:=⟨1,0,0⟩
def k11:Pack:=⟨n11,u11,[],[],[]⟩
def s11:Span:=⟨⟨0,0,0⟩,⟨999,999,999⟩⟩
def m11:Mani:=⟨[⟨n11,[s11]⟩],[],[],[]⟩
def known11:Stp:=Zjz [k11] m11 true [] 9 9
def knB:Bool:=decide (known11.code=0)&&decide (known11.dec=1)&&decide (known11.ns.length=2)&&decide (known11.ns[1]?.map (·.v)=some u11)&&decide (known11.ns[0]?.map (·.edges.length)=some 1)
theorem Z43:(Ze9 [] k11).2= [k11]:=by decide+kernel
set_option maxRecDepth 100000 in
theorem Z17:knB=true:=by decide+kernel
theorem Z18:known11.code=0∧known11.dec=1∧known11.ns.length=2∧known11.ns[1]?.map (·.v)=some u11∧known11.ns[0]?.map (·.edges.length)=some 1:=by
 have h:=Z17
 unfold knB at h
 simp only[Bool.and_eq_true,decide_eq_true_eq]at h
 exact⟨h.1.1.1.1,h.1.1.1.2,h.1.1.2,h.1.2,h.2⟩
end Go.Hal
namespace Go.Hal
open Go.Proofs.Tryz
end Go.Hal
namespace Go.Hal
open Go.Proofs.Tryz
open Go Go.RowKit Go.Proofs Go.Shelf
section
variable {α:Type} {E:Enc α} {w:World} {S:Nat→Prop} {q:Nat} {s:Sl} {l:List α}
end
section
variable {w:World} {S:Nat→Prop} {q:Nat} {s:Sl}
end
structure SttS(w:World)(S:Nat→Prop)(d e o v g t:Sl)(s:Stt):Prop where
 m:ManS w S d e o v s.m
 g:SlR nodeE w S g s.g
 t:SlR dirE w S t s.T
theorem SttS.ext{w w':World}{S:Nat→Prop}{d e o v g t:Sl}{s:Stt}(h:SttS w S d e o v g t s)(hx:Ext w w'):SttS w' S d e o v g t s:=⟨h.m.ext hx,h.g.ext hx,h.t.ext hx⟩
theorem SttS.mono{w:World}{S S':Nat→Prop}{d e o v g t:Sl}{s:Stt}(h:SttS w S d e o v g t s)(hs: ∀b,S b→S' b):SttS w S' d e o v g t s:=⟨h.m.mono hs,h.g.mono hs,h.t.mono hs⟩
def d21:Dir:=⟨[],Ze1,0⟩
def s21:Stt:=⟨⟨[],[],[],[]⟩,[rootNode],[d21],false⟩
def e21:Edge:=⟨n11,1⟩
def g21:List Node:=[⟨⟨#[]⟩,⟨0,0,0⟩,[],[e21]⟩,⟨n11,u11,[],[]⟩]
set_option maxRecDepth 100000 in
theorem ns21:known11.ns=g21:=by decide+kernel
def f21:PlS:=⟨[⟨[],0⟩,⟨[n11],1⟩],[⟨0,n11,1⟩]⟩
theorem Zro{SA:Nat→Prop}{sP:Sl}{lp:List Pack}{w:World}{R:Option Addr→Option Addr→World→Prop}(ht:Tab w)(hA:Old SA w)(hP:SlR packE w SA sP lp)
  (hR: ∀p r q w',Ext w w'→Both w' w.heap.size SA p r q (Zo1 lp)→R (some p) (some q) w'):SE.Zcl sP w R:=by
 unfold SE.Zcl
 have hl:=hP.len
 refine SE.Zfy.go (catNew_L λp r w2 x2 hC h1 h2=>⟨_,rfl,newS.intro λq w3 x3 hq hqb _=> ?_⟩)
 have x03:=x2.trans x3
 have s2:=x2.size; have s3:=x3.size
 have hcl:=hC.lt
 refine loop1.up hP.max (λi w'=>Ext w w'∧Both w' w.heap.size SA p r q (Zo1 (lp.take i)))
  ⟨x03,⟨None',hC.ext x3,λ_ h=>h.elim,λh=>h⟩,⟨None',⟨⟨Sl.nil,hq,SlR.nil trivial⟩,λh=>h,λ_ h=>h.elim,GoodL.nil⟩,λ_ h=>h.elim,λh=>h⟩,⟨h1,h2,oM⟩,oM,oM⟩ λi w4 nxt hi ⟨x4,hB⟩ hn=>?_
 have hnone:(!(Option.isNone (some p:Option Addr)))=true:=rfl
 refine bound ⟨λh=>?_,λh=>?_⟩
 ·have hlt:i<lp.length:=by simp at h; omega
  have hlt2:(i:Int)<(sP.len:Int):=oM
  obtain⟨ad,d,e,o,hsa,_,hN,hd,he,ho,hc⟩:=Zp3 hP hlt
  obtain⟨⟨S,hCa,hSlo,hSq⟩,⟨T,hRe,hTlo,hTr⟩,⟨hr1,hp1,hq1⟩,hne1,hne2⟩:=hB
  have hcl4:=hCa.lt
  have hql4:q.block<w4.heap.size:=by obtain⟨s,hb,_⟩:=hRe.at_; exact hb.lt
  refine⟨ad,⟨hsa,oM,hlt2⟩,_,_,_,_,_,_,_,(hc _ x4).pre rfl,?_⟩
  refine SE.Zb4.go (Z1j (x:=lp[i]) (S2:=SA) (ht.ext x4) hCa hN (hA.ext x4.size) (hd.ext x4) (he.ext x4) (ho.ext x4) λS' w5 b5 hC5 hs hs'=>⟨_,rfl,?_⟩)
  have x5:Ext w w5:=b5.ext x4 oM
  have s5:=b5.1
  have hRe5:RefR w5 T q (Zo1 (lp.take i)):=hRe.stay b5.1 λb hb hb'=>b5.2.2.2.2 b hb (by
   rcases hb' with hb'|rfl
   ·rintro rfl; exact hTr hb'
   ·exact hne2)
  have hSq5: ¬S' q.block:=λh=>by
   rcases hs' _ h with h|h
   ·exact hSq h
   ·omega
  have hCl5:=hC5.lt
  have hqA: ¬SA q.block:=λh=>by have:=hA _ h; omega
  refine⟨ad,⟨hsa,oM,hlt2⟩,_,_,_,_,_,_,_,(hc _ x5).pre rfl,?_⟩
  refine SE.Zbu.go (Zz3 (x:=lp[i]) (S2:=SA) hRe5 hN (hA.ext x5.size) hqA (hd.ext x5) (he.ext x5) (ho.ext x5) λw6 b6 hRe6=>⟨_,rfl,hn hlt w6 ?_⟩)
  have x6:Ext w w6:=b6.ext x5 oM
  have e1:Zo1 (lp.take (i+1))=(Ze9 (Zo1 (lp.take i)) lp[i]).2:=by rw[List.take_succ_eq_append_getElem hlt,Zwg]
  rw[e1]
  have s6:=b6.1
  refine⟨x6,⟨S',hC5.stay b6.1 λb hb hb'=>b6.2.2.2.2 b hb (by
   rcases hb' with hb'|rfl|rfl
   ·rintro rfl; exact hSq5 hb'
   ·exact Ne.symm hne1
   ·exact Ne.symm hne2),λb hb=>?_,hSq5⟩,⟨_,hRe6,λb hb=>?_,λhb=>?_⟩,⟨hr1,hp1,hq1⟩,hne1,hne2⟩
  ·rcases hs' b hb with h|h
   ·exact hSlo b h
   ·omega
  ·rcases hb with(hb|hb)|hb
   ·exact hTlo b hb
   ·exact .inl hb
   ·right; omega
  ·rcases hb with(hb|hb)|hb
   ·exact hTr hb
   ·have:=hA _ hb; omega
   ·omega
 ·have:i=lp.length:=by simp at h; omega
  rw[this,List.take_length]at hB
  exact hR p r q w4 x4 hB
def Emp(w:World)(g t:Sl):Prop:=SttS w (λb=>b<w.heap.size) Sl.nil Sl.nil Sl.nil Sl.nil g t s21
theorem Emp.ext{w w':World}{g t:Sl}(h:Emp w g t)(hx:Ext w w'):Emp w' g t:=(SttS.ext h hx).mono λb hb=>Nat.lt_of_lt_of_le hb hx.size
theorem refEmpty_se{w:World}{R:Sl→Sl→Sl→Sl→Sl→Sl→Bool→World→Prop}(hR: ∀g t w',Ext w w'→Emp w' g t→R Sl.nil Sl.nil Sl.nil Sl.nil g t false w'):SE.Zc4 w R:=by
 unfold SE.Zc4
 refine newS.intro λa w1 x1 h1 h1b _=>newS.intro λa2 w2 x2 h2 h2b _=>newS.intro λa3 w3 x3 h3 h3b _=> ?_
 have s1:=x1.size; have s2:=x2.size; have s3:=x3.size
 refine stw0.intro (h1.ext (x2.trans x3)) sI λw4 b4 hz4 h4=>⟨_,_,_,_,_,_,_,h4.at0 xR rfl,?_⟩
 have l1:=h1.lt
 have k2:=b4.box (h2.ext x3) oM
 have k3:=b4.box h3 oM
 have l2:=k2.lt; have l3:=k3.lt
 have hg:=Zjj (E:=nodeE) (S:=None') (x:=rootNode) k2 ⟨by unfold Str rootNode; rw[Zb]; decide,Sl.nil,Sl.nil,rfl,SlR.nil trivial,SlR.nil trivial⟩ dC
 have ht:=Zjj (E:=dirE) (S:=None') (x:=d21) k3 Zkz dC
 refine hR _ _ w4 (b4.ext (x1.trans (x2.trans x3)) oM) ⟨⟨SlR.nil trivial,SlR.nil trivial,SlR.nil trivial,SlR.nil trivial⟩,hg.mono λb hb=>?_,ht.mono λb hb=>?_⟩
 ·rcases hb with hb|rfl
  ·exact hb.elim
  ·exact l2
 ·rcases hb with hb|rfl
  ·exact hb.elim
  ·exact l3
theorem loop1.none{α:Type}{a:α}{w:World}{body:α→World→(α→World→Prop)→Prop}(h: ∀nxt,body a w nxt):loop1 a w body:=
 ⟨λx v=>x=a∧v=w,λ_ _=>0,⟨rfl,rfl⟩,λx v hx=>by obtain⟨rfl,rfl⟩:=hx; exact h _⟩
theorem loop1.once{α:Type}{a:α}{w:World}{body:α→World→(α→World→Prop)→Prop}(P:α→World→Prop)(h0: ∀nxt,(∀x v,P x v→nxt x v)→body a w nxt)(h1: ∀x v nxt,P x v→body x v nxt):loop1 a w body:=by
 classical
 refine⟨λx v=>P x v∨(x=a∧v=w),λx v=>if P x v then 0 else 1,.inr ⟨rfl,rfl⟩,λx v hx=>?_⟩
 by_cases hp:P x v
 ·exact h1 x v _ hp
 ·obtain⟨rfl,rfl⟩:=hx.resolve_left hp
  refine h0 _ λy u hy=>⟨.inl hy,?_⟩
  show(if P y u then 0 else 1)<(if P x v then 0 else 1)
  rw[if_pos hy,if_neg hp]; exact Nat.zero_lt_one
theorem rises0{n:Int}{f:Value}{w:World}{R:Bool→World→Prop}(h:n=0)(hR:R true w):SE.Zg7 n f w R:=by
 unfold SE.Zg7
 subst h
 exact loop1.none λnxt=>⟨λh=>by omega,λ_=>hR⟩
theorem Zsm{n:ByteArray}{x y z many:Int}{c e:Sl}{w:World}{R:Bool→World→Prop}(hc:c.len=0)(he:e.len=0)(hR: ∀w',Ext w w'→R true w'):SE.Zjp n x y z c e many w R:=by
 unfold SE.Zjp
 refine newS.intro λa w1 x1 hb1 _ _=>⟨c,hb1.at1 (k:=4) xR rfl,SE.Zg7.go (rises0 oM ⟨_,rfl,bound ⟨e,λ_=>hb1.at1 (k:=5) (r:=[]) xR rfl,gCall.intro true (λ_ q hq=>SE.Zg7.go (rises0 oM ⟨_,rfl,hq w1 xR⟩)) λt w2 x2 ht=>⟨λh=>?_,λ_=>⟨c,hb1.at1 (k:=4) x2 rfl,loop1.none λnxt=>⟨λh=>by omega,λ_=>⟨e,hb1.at1 (k:=5) (r:=[]) x2 rfl,loop1.none λnxt=>⟨λh=>by omega,λ_=>hR w2 (x1.trans x2)⟩⟩⟩⟩⟩⟩⟩)⟩
 rw[ht rfl]at h; cases h
section
variable {s:Sl} {S:Nat→Prop} {w:World}
theorem Zt9{R:Bool→World→Prop}(hs:SlR nodeE w S s [rootNode])(hR: ∀w',Ext w w'→R true w'):SE.Zli s w R:=by
 unfold SE.Zli
 have hsl:s.len=1:=hs.len
 refine newS.intro λa w1 x1 hb1 _ _=>⟨s,hb1.ldc.pre (r:=[]) rfl,bound ⟨s,λ_=>hb1.ldc.pre (r:=[]) rfl,λhc=>?_,λhc=>⟨s,hb1.ldc.pre (r:=[]) rfl,loop1.once (λi v=>i=1∧Ext w1 v) (λnxt hn=>⟨λhlt=>?_,λh=>by omega⟩) λi v nxt h=>⟨λhlt=>by omega,λ_=>hR v (x1.trans h.2)⟩⟩⟩⟩
 ·rw[decide_eq_false oM,decide_eq_false oM]at hc; cases hc
 obtain⟨ad,c,e,ha,hst,hc',he',hld⟩:=Zff hs (n:=0) dC
 refine⟨ad,⟨ha,oM,hlt⟩,_,_,_,_,_,_,hld _ x1,newS.set rfl λa5 w5 x5 hb5 _=>⟨_,hb5.at0 xR rfl,SE.Zep.go (scanName_se hst λw6 x6=>⟨_,rfl,_,_,_,λ_=>hb5.at1 (k:=1) x6 rfl,gCall.intro false (λh=>absurd h (by decide+kernel)) λt w7 x7 _=>join.named λJ hJ=>⟨λ_=>⟨_,hb5.at0 (x6.trans x7) rfl,bound ⟨_,_,_,λ_=>hb5.at1 (k:=1) (x6.trans x7) rfl,bound ⟨c,λ_=>hb5.at1 (k:=4) (x6.trans x7) rfl,?_⟩⟩⟩,λh=>absurd rfl h⟩⟩)⟩⟩
 have e1:(((bEq ([rootNode]:List Node)[0].name (ByteArray.mk #[]))&&((([rootNode]:List Node)[0].v.ma==0)&&((([rootNode]:List Node)[0].v.mi==0)&&((([rootNode]:List Node)[0].v.pa==0)&&true))))&&((c.len:Int)==0))=true:=by
  rw[show c.len=0 from hc'.len]; decide+kernel
 rw[e1,hJ]
 have x57:=x6.trans x7
 exact bound ⟨_,_,_,_,c,e,λ_=>hb5.at0 (r:=[]) x57 rfl,s,λ_=>hb1.at0 (r:=[]) (x5.trans x57) rfl,gCall.intro true (λ_ q hq=>SE.Zjp.go (Zsm hc'.len he'.len λw9 x9=>⟨_,rfl,hq w9 x9⟩)) λt w9 x9 h9=>⟨λh=>(by rw[h9 rfl]at h; cases h),λ_=>hn _ _ ⟨rfl,x5.trans (x57.trans x9)⟩⟩⟩
theorem Zq1{R:ByteArray→Int→World→Prop}(hs:SlR nodeE w S s [rootNode])(hR: ∀t w',Ext w w'→R t 0 w'):SE.Zin s w R:=by
 unfold SE.Zin
 have hsl:s.len=1:=hs.len
 refine newS.intro λa w1 x1 hb1 _ _=>⟨s,hb1.ldc.pre (r:=[]) rfl,SE.Zli.go (Zt9 (hs.ext x1) λw2 x2=>⟨_,rfl,nO,λ_=> ?_⟩)⟩
 have x02:=x1.trans x2
 intro ab w3 hab hw3
 subst hab
 have x3:Ext w2 w3:=hw3▸Ext.alloc _ _
 have hB3:Bld w2.heap.size [] w3:=hw3▸Zqm w2
 refine Zg4 (m:=Z8k) hB3 rfl x3 dC λw4 n4 x4 hB4=>⟨_,_,rfl,s,hb1.at0 (r:=[]) (x2.trans x4) rfl,loop1.once (λi v=>i=1∧Ext w2 v∧ ∃t,Bld w2.heap.size t v) (λnxt hn=>⟨λhlt=>?_,λh=>by omega⟩) λi v nxt ⟨_,h2,t,hB⟩=>⟨λhlt=>by omega,λ_=>Ziz hB rfl h2 λw9 x9=>⟨_,rfl,hR _ _ (x02.trans x9)⟩⟩⟩
 obtain⟨ad,c,e,ha,_,hc',he',hld⟩:=Zff hs (n:=0) dC
 refine⟨ad,⟨ha,oM,hlt⟩,_,_,_,_,_,_,hld _ (x02.trans x4),newS.setT rfl λa6 w6 x6 hb6 hab6=>join.named λJ hJ=>⟨λ_=>Znp (m:=[114,111,111,116,10]) (hB4.ext x6) rfl (x4.trans x6) dC λw7 n7 x7 hB7 keep=>⟨_,_,rfl,?_⟩,λh=>absurd rfl h⟩⟩
 have hbl:=hB4.lt
 have k7:=(keep _ _ _ dC oM hb6).box
 rw[hJ]
 have h1:c.len=0:=hc'.len
 have h2:e.len=0:=he'.len
 exact⟨c,k7.at1 (k:=4) xR rfl,loop1.none λnxt=>⟨λh=>by omega,λ_=>⟨e,k7.at1 (k:=5) (r:=[]) xR rfl,loop1.none λnxt=>⟨λh=>by omega,λ_=>hn _ _ ⟨rfl,x7,_,hB7⟩⟩⟩⟩⟩
end
theorem loop2.none{α β:Type}{a:α}{b:β}{w:World}{body:α→β→World→(α→β→World→Prop)→Prop}(h: ∀nxt,body a b w nxt):loop2 a b w body:=
 ⟨λx y v=>x=a∧y=b∧v=w,λ_ _ _=>0,⟨rfl,rfl,rfl⟩,λx y v hx=>by obtain⟨rfl,rfl,rfl⟩:=hx; exact h _⟩
section
variable {s u:Sl} {S:Nat→Prop} {w:World}
theorem Zly{R:Int→World→Prop}(hs:SlR dirE w S s [d21])(hR: ∀w',Ext w w'→R 0 w'):SE.Zhd s w R:=by
 unfold SE.Zhd
 have hsl:s.len=1:=hs.len
 refine newS.intro λa w1 x1 hb1 _ _=>⟨s,hb1.ldc.pre (r:=[]) rfl,bound ⟨s,λ_=>hb1.ldc.pre (r:=[]) rfl,λhc=>?_,λhc=>⟨s,hb1.ldc.pre (r:=[]) rfl,loop1.once (λi v=>i=1∧Ext w1 v) (λnxt hn=>⟨λhlt=>?_,λh=>by omega⟩) λi v nxt h=>⟨λhlt=>by omega,λ_=>hR v (x1.trans h.2)⟩⟩⟩⟩
 ·rw[decide_eq_false oM,decide_eq_false oM]at hc; cases hc
 obtain⟨ad,ps,dd,ee,oo,ha,_,hst,hp,hd,he,ho,hc⟩:=dirEl hs (n:=0) dC
 refine⟨ad,⟨ha,oM,hlt⟩,_,_,_,_,_,_,_,_,_,hc _ x1,newS.set rfl λa5 w3 x3 hb3 _=>join.named λJ hJ=>⟨λ_=>⟨ps,hb3.at0 xR rfl,bound ⟨_,_,_,_,dd,ee,oo,λ_=>hb3.at1 (k:=1) xR rfl,?_⟩⟩,λh=>absurd rfl h⟩⟩
 have x03:=x1.trans x3
 have hpl:ps.len=0:=hp.len
 rw[hpl]
 refine gCall.intro true (λ_ q hq=>SE.Zhm.go (Zkw (p:=Ze1) (q:=Ze1) (T:=None') (hd.ext x03) (he.ext x03) (ho.ext x03) (SlR.nil trivial) (SlR.nil trivial) (SlR.nil trivial) λw4 x4=>⟨_,rfl,hq w4 x4⟩)) λt w4 x4 ht=>bound ⟨_,λ_=>hb3.at1 (k:=8) (r:=[]) x4 rfl,?_⟩
 rw[ht rfl,hJ]
 exact⟨nO,λ_=>hn _ _ ⟨rfl,x3.trans x4⟩⟩
theorem Zws{R:Bool→World→Prop}(hs:SlR nodeE w S s [rootNode])(hR: ∀w',Ext w w'→R true w'):SE.Zft s w R:=by
 unfold SE.Zft
 have hsl:s.len=1:=hs.len
 refine newS.intro λa w1 x1 hb1 _ _=>⟨s,hb1.ldc.pre (r:=[]) rfl,loop1.once (λi v=>i=1∧Ext w1 v) (λnxt hn=>⟨λhlt=>?_,λh=>by omega⟩) λi v nxt h=>⟨λhlt=>by omega,λ_=>⟨s,hb1.at0 (r:=[]) h.2 rfl,?_⟩⟩⟩
 ·obtain⟨ad,c,e,ha,_,_,he,hld⟩:=Zff hs (n:=0) dC
  have hel:e.len=0:=he.len
  exact⟨ad,⟨ha,oM,hlt⟩,_,_,_,_,_,_,hld _ x1,newS.set rfl λa3 w3 x3 hb3 _=>⟨e,hb3.at1 (k:=5) (r:=[]) xR rfl,loop1.none λnxt=>⟨λh=>by omega,λ_=>hn _ _ ⟨rfl,x3⟩⟩⟩⟩
 ·rw[hsl]; exact hR v (x1.trans h.2)
theorem Zu1{R:Sl→Int→World→Prop}(hs:SlR dirE w S s [d21])(hg:SlR nodeE w S u [rootNode])(hR: ∀m lo w',Ext w w'→OwnS intE 3 w' lo None' m [0]→R m 0 w'):SE.Ziv s u w R:=by
 unfold SE.Ziv
 have hsl:s.len=1:=hs.len
 have hul:u.len=1:=hg.len
 refine newS.intro λa w1 x1 hb1 _ _=>newS.intro λa1 w2 x2 hb2 _ _=>⟨s,hb1.at0 (r:=[]) x2 rfl,SE.Zhd.go (Zly (hs.ext (x1.trans x2)) λw3 x3=>⟨_,rfl,λh=>absurd rfl h,λ_=>⟨u,hb2.at0 (r:=[]) x3 rfl,SE.Zft.go (Zws (hg.ext (x1.trans (x2.trans x3))) λw4 x4=>⟨_,rfl,nO,λ_=>⟨s,hb1.at0 (r:=[]) (x2.trans (x3.trans x4)) rfl,?_⟩⟩)⟩⟩)⟩
 have x04:=x1.trans (x2.trans (x3.trans x4))
 rw[show(s.len:Int)=((1:Nat):Int) by omega]
 refine Zzk dC λm w5 x5 o5 ⟨adm,hadm⟩=>?_
 have hml:m.len=1:=o5.len
 refine loop1.once (λi v=>i=1∧Ext w4 v∧OwnS intE 3 v w4.heap.size None' m [-1]) (λnxt hn=>⟨λhlt=>⟨adm,⟨hadm,oM,hlt⟩,o5.setInt (i:=0) (x:=-1) dC hadm λw7 b7 _ hl7 o7=>hn _ _ ⟨rfl,b7.ext x5 hl7,o7⟩⟩,λh=>by omega⟩) λi v nxt ⟨hi,hx,ho⟩=>⟨λhlt=>by omega,λ_=>⟨adm,⟨hadm,oM,oM⟩,ho.setInt (i:=0) (x:=0) dC hadm λw7 b7 _ hl7 o7=>newS.intro λa16 w8 x8 h8 _ _=> ?_⟩⟩
 have x8':Ext w4 w8:=(b7.ext hx hl7).trans x8
 have o8:OwnS intE 3 w8 w4.heap.size None' m [0]:=o7.ext x8
 refine loop1.once (λ(r:Sl) v=>r.len=0∧Ext w8 v) (λnxt hn=>⟨λhlt=>?_,λh=>absurd (show(0:Int)<((1:Nat):Int) by decide) h⟩) λr v nxt ⟨hr,hx⟩=>⟨λhlt=>by omega,λ_=>hR m _ v (x04.trans (x8'.trans hx)) (o8.ext hx)⟩
 obtain⟨adm',hadm',hldm⟩:=Z3x o8 (i:=0) dC
 obtain⟨adg,cg,eg,hag,_,_,heg,hldg⟩:=Zff hg (n:=0) dC
 have hel:eg.len=0:=heg.len
 refine⟨a16,⟨rfl,by decide,by simp⟩,0,h8.at0 (r:=[]) xR rfl,⟨by decide,by simp⟩,bnd.drew λw10 x10=>⟨u,hb2.at0 (r:=[]) (x3.trans (x4.trans (x8'.trans x10))) rfl,adm',⟨hadm',by decide,oM⟩,0,hldm _ x10,adg,⟨hag,by decide,oM⟩,eg,(hldg _ (x04.trans (x8'.trans x10))).mid (k:=5) (r:=[]) rfl,loop2.none λnxt=>⟨λh=>by omega,λ_=>hn _ _ ⟨rfl,x10⟩⟩⟩⟩
theorem Zw7{d e o v:Sl}{pr:Bool}{R:Bool→World→Prop}(hs:SlR dirE w S s [d21])(hg:SlR nodeE w S u [rootNode])(hR: ∀w',Ext w w'→R true w'):SE.Zgf d e o v u s pr w R:=by
 unfold SE.Zgf
 have hsl:s.len=1:=hs.len
 refine newS.intro λa w1 x1 hb1 _ _=>⟨s,hb1.at1 (k:=5) xR rfl,u,hb1.at1 (k:=4) xR rfl,SE.Ziv.go (Zu1 (hs.ext x1) (hg.ext x1) λm lo w2 x2 own=>⟨m,0,rfl,λh=>absurd rfl h,λ_=>⟨s,hb1.at1 (k:=5) x2 rfl,loop1.once (λi v=>i=1∧Ext w2 v) (λnxt hn=>⟨λhlt=>?_,λh=>by omega⟩) λi v nxt h=>⟨λhlt=>by omega,λ_=>hR v (x1.trans (x2.trans h.2))⟩⟩⟩)⟩
 obtain⟨ad,ps,dd,ee,oo,ha,_,_,hp,_,_,_,hc⟩:=dirEl hs (n:=0) dC
 obtain⟨adm,hadm,hldm⟩:=Z3x own (i:=0) dC
 have hml:m.len=1:=own.len
 refine⟨ad,⟨ha,oM,hlt⟩,_,_,_,_,_,_,_,_,_,hc _ (x1.trans x2),newS.set rfl λa4 w4 x4 hb4 _=>bnd.drew λw5 x5=>⟨adm,⟨hadm,oM,oM⟩,0,hldm _ (x4.trans x5),_,hb4.at1 (k:=8) (r:=[]) x5 rfl,bound (bound ⟨s,λh=>by simp at h,ad,λh=>by simp at h,ps,λh=>by simp at h,ps,λh=>by simp at h,gCall.intro ⟨#[]⟩ (λh=>by simp at h) λt45 w6 x6 h6=>gCall.intro ⟨#[]⟩ (λh=>by simp at h) λt48 w7 x7 h7=>⟨λh=>?_,λ_=>hn _ _ ⟨rfl,x4.trans (x5.trans (x6.trans x7))⟩⟩⟩)⟩⟩
 cases h
theorem Zyy{R:Sl→Int→World→Prop}(ht:Tab w)(hs:SlR dirE w S s [d21])(hg:SlR nodeE w S u [rootNode])(hR: ∀w',Ext w w'→R Sl.nil 0 w'):SE.Zhh Sl.nil Sl.nil Sl.nil Sl.nil u s false w R:=by
 unfold SE.Zhh
 refine newS.intro λa w1 x1 hb1 _ _=>⟨_,_,_,_,hb1.at0 xR rfl,SE.Ze7.go (Zsp (m:=⟨[],[],[],[]⟩) (S:=None') (ht.ext x1) (λ_ h=>h.elim) (SlR.nil trivial) (SlR.nil trivial) (SlR.nil trivial) (SlR.nil trivial) λw2 x2=>⟨_,_,rfl,λhc=>absurd (by decide+kernel) hc,λ_=>⟨u,hb1.at1 (k:=4) x2 rfl,SE.Zin.go (Zq1 (hg.ext (x1.trans x2)) λt w3 x3=>⟨_,_,rfl,bound ⟨_,_,_,_,_,_,_,λ_=>hb1.at0 (r:=[]) (x2.trans x3) rfl,gCall.intro true (λ_ q hq=>SE.Zgf.go (Zw7 (hs.ext (x1.trans (x2.trans x3))) (hg.ext (x1.trans (x2.trans x3))) λw4 x4=>⟨_,rfl,hq w4 x4⟩)) λt31 w4 x4 h31=>⟨λh=>?_,λ_=>⟨_,_,_,_,_,_,_,hb1.at0 (r:=[]) (x2.trans (x3.trans x4)) rfl,?_⟩⟩⟩⟩)⟩⟩)⟩
 ·rw[h31 rfl]at h; cases h
 have x04:=x1.trans (x2.trans (x3.trans x4))
 exact SE.Zhi.go (Z1s (m:=⟨[],[],[],[]⟩) (T:=[d21]) (g:=[rootNode]) (pr:=false) (S':=None') (SlR.nil trivial) (SlR.nil trivial) (SlR.nil trivial) (SlR.nil trivial) (hs.ext x04) (hg.ext x04) λw5 x5=>⟨_,rfl,λ_=>hR w5 (x04.trans x5),nO⟩)
end
section
variable {n:ByteArray} {s t:Sl} {S:Nat→Prop} {w:World}
theorem without0_se{R:Sl→World→Prop}(hR: ∀w',Ext w w'→R Sl.nil w'):SE.Zcj Sl.nil n w R:=by
 unfold SE.Zcj
 refine newS.intro λa w1 x1 _ _ _=>SE.Zb8.go ?_
 unfold SE.Zb8
 refine⟨λ_=>⟨_,rfl,SE.Zo.go ?_⟩,λh=>absurd rfl h⟩
 unfold SE.Zo
 refine SE.Zbs.go ?_
 unfold SE.Zbs
 exact loop1.none λnxt=>⟨λh=>absurd h dC,λ_=>⟨_,rfl,λ_=>⟨_,rfl,hR w1 x1⟩,λh=>absurd rfl h⟩⟩
theorem bare0_se{R:Sl→Sl→Sl→Sl→World→Prop}(hR: ∀w',Ext w w'→R Sl.nil Sl.nil Sl.nil Sl.nil w'):SE.Zg9 Sl.nil Sl.nil Sl.nil Sl.nil n w R:=by
 unfold SE.Zg9
 refine newS.intro λa w1 x1 hb1 ha1 _=>newS.intro λa1 w2 x2 hb2 ha2 _=>bnd.drew λw3 x3=>⟨_,hb1.at0 (x2.trans x3) rfl,_,hb1.at1 (x2.trans x3) rfl,_,hb1.at1 (x2.trans x3) rfl,?_⟩
 refine callX.intro (SE.Zcj.go (without0_se λw4 x4=>⟨x4,_,rfl,callX.intro (SE.Zcj.go (without0_se λw5 x5=>⟨x5,_,rfl,SE.Zcj.go (without0_se λw6 x6=>⟨_,rfl,?_⟩)⟩))⟩))
 have s1:=x1.size
 have x26:=x3.trans (x4.trans (x5.trans x6))
 refine stw0.intro (hb1.ext (x2.trans x26)) sI λw7 b7 _ hb7=>stw.intro hb7 sI λw8 b8 _ hb8=>stw.intro hb8 sI λw9 b9 _ hb9=>⟨_,_,_,_,hb9.at0 (r:=[]) xR rfl,stw0.intro (b9.box (b8.box (b7.box (hb2.ext x26) oM) oM) oM) sI λw10 b10 _ hb10=>⟨_,_,_,_,hb10.at0 xR rfl,hR w10 ?_⟩⟩
 have s2:=x2.size
 exact b10.ext (b9.ext (b8.ext (b7.ext (x1.trans (x2.trans x26)) oM) oM) oM) oM
theorem Z3g{d:Dep}{dr:Sl}{R:Sl→World→Prop}(hn:Str d.name)(hS:Old S w)(hd:SlR spanE w S dr d.range)
  (hR: ∀t w',Ext w w'→SlR depE w' (λb=>S b∨(w.heap.size≤b∧b<w'.heap.size)) t [d]→R t w'):SE.Zir Sl.nil d.name dr w R:=by
 unfold SE.Zir
 refine newS.intro λa w1 x1 hb1 _ _=>join.named λJ hJ=>bnd.drew λw3 x3=>⟨_,hb1.at0 x3 rfl,_,_,hb1.at0 x3 rfl,?_⟩
 have x13:=x1.trans x3
 have push: ∀{a8:Addr} {w5:World},Ext w w5→BoxAt w5 a8 [.string d.name,dr.v]→appS prog 23 23 Sl.nil (Sl.v (Sl.mk (some a8) 1 1)) w5 λt12 vw10=>J t12 vw10:=by
  intro a8 w5 x5 hb
  refine((OwnS.zero (E:=Z6w) (T:=152) w).ext x5).push Zx2 x5.size (x:=(d.name,dr)) (S':=None') (cs:=[.string d.name,dr.v]) ⟨rfl,trivial⟩ (hb.ldc.pre (r:=[]) rfl) (λ_ h=>h.elim) (λ_ _ h=>h.elim) (by decide+kernel) (by decide+kernel) λr w6 own6 bel _ _=> ?_
  have hb06:Below w.heap.size w w6:=Below.trans x5 bel
  subst hJ
  refine Zxj (z:=[((d.name,dr),d)]) (own6.rawT.flat (bytes:=40) (by show 1*40≤room; decide+kernel)) hb06.size λz' w7 hp hpw b7 hf7=>⟨rfl,?_⟩
  obtain rfl:=List.perm_singleton.1 hp
  refine hR r w7 (Below.trans hb06 b7) (flatDeps hf7 λp hp=>?_)
  rw[List.mem_singleton]at hp
  subst hp
  exact⟨rfl,hn,(hd.below hb06 hS).below b7 hS⟩
 exact⟨callX.intro (SE.Zcj.go (without0_se λw4 x4=>⟨x4,_,rfl,newS.intro λa8 w5 x5 hb5 _ _=>push (x13.trans (x4.trans x5)) hb5⟩)),
  newS.intro λa11 w4 x4 hb4 _ _=>callX.intro (SE.Zcj.go (without0_se λw5 x5=>⟨x5,_,rfl,push (x13.trans (x4.trans x5)) (hb4.ext x5)⟩))⟩
theorem Zvq{R:Sl→World→Prop}(hs:SlR nodeE w S s [rootNode])(hR: ∀w',Ext w w'→R Sl.nil w'):SE.Zg6 s w R:=by
 unfold SE.Zg6
 have hsl:s.len=1:=hs.len
 refine newS.intro λa w1 x1 hb1 _ _=>⟨s,hb1.ldc.pre (r:=[]) rfl,λh0=>by omega,λ_=>Zi5 (K:=Zpt) λr w2 x2 _ _=>⟨some r,rfl,s,(hb1.ext x2).ldc.pre (r:=[]) rfl,⟨by decide,oM⟩,loop2.none λnxt=>⟨λh=>?_,λ_=> ?_⟩⟩⟩
 ·have:(Sl.cut s ((1:Int).toNat) s.len 6).len=0:=by unfold Sl.cut; simp[hsl]
  omega
 ·refine(AnyF.slices_SortFunc_none Tryz.laySp none 0 _ w2).mono λe w' ⟨he,hw⟩=>⟨_,he,rfl,?_⟩
  subst hw
  exact hR _ (x1.trans x2)
end
theorem loop2.once{α β:Type}{a:α}{b:β}{w:World}{body:α→β→World→(α→β→World→Prop)→Prop}(P:α→β→World→Prop)(h0: ∀nxt,(∀x y v,P x y v→nxt x y v)→body a b w nxt)(h1: ∀x y v nxt,P x y v→body x y v nxt):loop2 a b w body:=by
 classical
 refine⟨λx y v=>P x y v∨(x=a∧y=b∧v=w),λx y v=>if P x y v then 0 else 1,.inr ⟨rfl,rfl,rfl⟩,λx y v hx=>?_⟩
 by_cases hp:P x y v
 ·exact h1 x y v _ hp
 ·obtain⟨rfl,rfl,rfl⟩:=hx.resolve_left hp
  refine h0 _ λx' y' u hy=>⟨.inl hy,?_⟩
  show(if P x' y' u then 0 else 1)<(if P x y v then 0 else 1)
  rw[if_pos hy,if_neg hp]; exact Nat.zero_lt_one
def P21:List Pack:=[Ze1,k11]
abbrev Zri:Option (List Dir):=some [d21]
theorem no11:optI (Zn1 pl0.dirs [n11])= -1:=by decide+kernel
theorem strA:Str n11:=by unfold Str n11; rw[Zb]; decide
section
variable {w:World} {p:Addr} {S Q:Nat→Prop} {c:PC} {t:Sl}
theorem Zw1{R:Int→World→Prop}(h:PlV Zw0 w p S c g21 P21 Zri pl0)(hQ:Old Q w)(ht:SlR strE w Q t [])(hR: ∀w',Ext w w'→R (-1) w'):SE.Zcw (some p) t n11 w R:=by
 unfold SE.Zcw
 have htl:t.len=0:=ht.len
 refine SE.Zc6.go (pinside_se hQ ht strA sI λt1 w1 x1 o1=>⟨_,rfl,SE.Zco.go (Zvo (h.ext x1) (o1.strs dC) λw2 x2=>⟨_,rfl,bound ⟨λ_=> ?_,λhc=>?_⟩⟩)⟩)
 ·have:=hR w2 (x1.trans x2)
  rwa [←no11]at this
 ·rw[htl]at hc; simp at hc
theorem Z1y{R:Bool→World→Prop}(h:PlV Zw0 w p S c g21 P21 Zri pl0)(hQ:Old Q w)(ht:SlR strE w Q t [])(hR: ∀w',Ext w w'→R true w'):SE.Zdq (some p) t 0 n11 w R:=by
 unfold SE.Zdq
 have htl:t.len=0:=ht.len
 have hsl:c.st.len=0:=h.st.len
 refine loop1.once (λi v=>i=1∧Ext w v) (λnxt hn=>⟨λ_=>⟨⟨oM,oM⟩,?_⟩,λh=>by omega⟩) λi v nxt ⟨hi,x⟩=>⟨λh=>by omega,λ_=>⟨p,rfl,c.st,h.ld x 8 (r:=[]) rfl,loop1.none λnxt=>⟨λh=>by omega,λ_=>hR v x⟩⟩⟩
 have hcut:=ht.cut (a:=0) (b:=0) (Nat.zero_le _) (Nat.zero_le _)
 refine SE.Zc6.go (pinside_se hQ hcut strA sI λt2 w2 x2 o2=>⟨_,rfl,SE.Zco.go (Zvo (h.ext x2) (o2.strs dC) λw3 x3=>⟨_,rfl,λhc=>?_,λ_=>hn _ _ ⟨rfl,x2.trans x3⟩⟩)⟩)
 have:(0:Int)≤optI (Zn1 pl0.dirs [n11]):=hc
 rw[no11]at this; omega
theorem Z24{R:Sl→World→Prop}(h:PlV Zw0 w p S c g21 P21 Zri pl0)(hQ:Old Q w)(ht:SlR strE w Q t [])(hR: ∀w',Ext w w'→R (Sl.cut t 0 0 1) w'):SE.Zds (some p) t n11 1 w R:=by
 unfold SE.Zds
 have htl:t.len=0:=ht.len
 have hfl: ∀{w:World} {S S':Nat→Prop} {x:Sl} {cs:List Value},slcE.rep w S x cs→slcE.rep w S' x cs:=λh=>h
 refine newS.intro λa w1 x1 hb1 _ _=> ?_
 rw[htl]
 refine loop2.once (λso i v=>i=1∧Ext w1 v∧OwnS slcE 102 v w1.heap.size None' so [Sl.cut t 0 0 1]) (λnxt hn=>⟨λ_=>join.named λJ hJ=>⟨_,hb1.at0 xR rfl,SE.Zdq.go (Z1y (h.ext x1) (hQ.ext x1.size) (ht.ext x1) λw3 x3=>⟨_,rfl,λ_=>⟨⟨oM,oM⟩,newS.intro λa4 w4 x4 hb4 _ _=> ?_⟩,nO⟩)⟩,λh=>absurd dC h⟩) λso i w2 nxt ⟨hi,x2,o2⟩=>⟨λh=>by subst hi; exact absurd h dC,λ_=> ?_⟩
 ·refine((OwnS.zero (E:=slcE) (T:=102) w1).ext (x3.trans x4)).pushF (x3.trans x4) Z74 (x:=Sl.cut t 0 0 1) ⟨rfl,trivial⟩ (hb4.ldc.pre (r:=[]) rfl) dC (by decide+kernel) λr w5 o5 x5=>?_
  rw[hJ]
  exact hn _ _ _ ⟨rfl,x5,o5⟩
 have hol:so.len=1:=o2.len
 obtain⟨ad,cs,ha,⟨rfl,_⟩,hld⟩:=o2.el (i:=0) (x:=Sl.cut t 0 0 1) rfl
 have x02:=x1.trans x2
 obtain⟨ao,T,hao,hoT,hab,so2,hlso,hrso⟩:=OldR.some_ (old:=Zri) h.old (by
  intro h0
  have:=h.old
  rw[h0]at this
  exact this)
 cases hoT
 refine join.named λJ hJ=>loop1.once (λi v=>i=1∧Ext w2 v) (λnxt hn=>⟨λhlt=>⟨ad,⟨ha,oM,hlt⟩,_,hld _ xR,p,rfl,c.ol,h.ld x02 6 rfl,λh0=>?_,λ_=>bnd.drew λw4 x4=>?_⟩,λh=>by omega⟩) λi v nxt ⟨hi,x⟩=>⟨λh=>by omega,λ_=> ?_⟩
 ·rw[hao]at h0; cases h0
 ·have x04:=x02.trans x4
  have hcut:SlR strE w4 Q (Sl.cut t 0 0 1) []:=(ht.ext x04).cut (a:=0) (b:=0) (Nat.zero_le _) (Nat.zero_le _)
  refine⟨p,rfl,c.ol,h.ld x04 6 rfl,ao,hao,so2,hlso.ext x04,_,hb1.at0 (x2.trans x4) rfl,callX.intro (SE.Zc6.go (pinside_se (hQ.ext x04.size) hcut strA sI λt5 w5 x5 o5=>⟨x5,_,rfl,SE.Zj6.go (Zuw (hrso.ext (x04.trans x5)) (o5.strs dC) λw6 x6=>⟨_,rfl,bnd.drew λw7 x7=>bound ?_⟩)⟩))⟩
  have e:decide (0≤Zyz [d21] ([]++ [n11]))=false:=by decide+kernel
  rw[e]
  refine⟨p,nO,none,nO,p,nO,t,nO,ad,nO,⟨#[]⟩,0,0,0,t,t,t,nO,p,nO,t,nO,0,nO,ad,nO,⟨#[]⟩,0,0,0,t,t,t,nO,gCall.intro true nO λt75 w8 x8 _=>⟨nO,λ_=>hn _ _ ⟨rfl,x4.trans (x5.trans (x6.trans (x7.trans x8)))⟩⟩⟩
 ·rw[hJ]
  exact⟨ad,⟨ha,by decide,oM⟩,_,hld _ x,hR v (x02.trans x)⟩
end
def star0:ByteArray:=⟨#[42]⟩
def StarW(t:ByteArray):Prop:=t=star0
theorem Zkb:Zar barB star0= [star0]∧Zar spB star0= [star0]:=by decide+kernel
theorem StarW.piece{a b t:ByteArray}(ha:StarW a)(hb:b∈Zar barB a)(ht:t∈Zar spB b):StarW t:=by
 rw[ha,Zkb.1,List.mem_singleton]at hb
 rw[hb,Zkb.2,List.mem_singleton]at ht
 exact ht
def WordS(t:List UInt8)(x:Rk):Prop:=t= [42]∧x=(0,999999999)
theorem WordS.one{t:List UInt8}{a b:Rk}(h:WordS t a)(k:WordS t b):a=b:=h.2.trans k.2.symm
theorem WordS.in{t:List UInt8}{a:Rk}(h:WordS t a):(0≤a.1∧a.1≤1000000000)∧(-1≤a.2∧a.2≤999999999):=by
 rw[h.2]; decide
attribute [local go_sem] Oper.semAt_some
namespace Star
def sqV(a:Nat):Value:=.func (.func 345) #[] #[.pointer (some ⟨a+1,0,none⟩),.pointer (some ⟨a,0,none⟩),.pointer (some ⟨a+2,0,none⟩)]
def sqW(w:World)(s sep:ByteArray):World:=((w.alloc (.cells #[.string s] 9)).alloc (.cells #[.string sep] 9)).alloc (.cells #[.int .i64 0] 3)
theorem Zj3(n:Nat)(hn:1≤n)(s sep:ByteArray)(w:World):CallsIn Fence.wide n prog 317 #[.string s,.string sep,.int .i64 0] w λe w'=>e= .returned (sqV w.heap.size)∧w'=sqW w s sep:=by
 refine callsIn_of_wp func317 rfl trivial ?_ rfl
 simp only[Tryz.ntmps317,List.size_toArray,List.length_cons,List.length_nil,Nat.reduceAdd,Nat.reduceSub,Array.replicate_succ,Array.replicate_zero,List.push_toArray,List.append_toArray,List.nil_append,List.cons_append]
 gi_wp2
 go_ret
 exact⟨rfl,rfl⟩
theorem Zgm(n:Nat)(hn:2≤n)(s sep:ByteArray)(w:World):CallsIn Fence.wide n prog 278 #[.string s,.string sep] w λe w'=>e= .returned (sqV w.heap.size)∧w'=sqW w s sep:=by
 have h1:1≤n - 1:=oM
 refine callsIn_of_wp func278 rfl trivial ?_ rfl
 simp only[Tryz.ntmps278,List.size_toArray,List.length_cons,List.length_nil,Nat.reduceAdd,Nat.reduceSub,Array.replicate_succ,Array.replicate_zero,List.push_toArray,List.append_toArray,List.nil_append,List.cons_append]
 gi_wp2
 refine⟨trivial,λh=>(by cases h),(Zj3 (n - 1) h1 s sep w).mono ?_⟩
 rintro e w' ⟨rfl,rfl⟩
 gi_wp2
 go_ret
 exact⟨rfl,rfl⟩
structure InW(ps:List ByteArray)(k:Nat)(x:Rk)(b:Bool):Prop where
 ok: ∀t∈ps.take k,t.size≠0→ ∃a,WordS t.data.toList a
 some:b=true↔ ∃t∈ps.take k,t.size≠0
 lo:0≤x.1∧x.1≤1000000000
 hi: -1≤x.2∧x.2≤999999999
 has: ∀n:Int,(x.1≤n∧n≤x.2)↔(0≤n∧n≤999999999∧ ∀t∈ps.take k,t.size≠0→ ∀a,WordS t.data.toList a→a.1≤n∧n≤a.2)
theorem InW.start(ps:List ByteArray):InW ps 0 (0,999999999) false:=⟨by simp,by simp,by simp,by simp,λn=>by simp⟩
theorem Zb9{α:Type}{ps:List α}{k:Nat}(h:k<ps.length){t:α}:t∈ps.take (k+1)↔t∈ps.take k∨t=ps[k]:=by
 rw[List.take_succ_eq_append_getElem h,List.mem_append,List.mem_singleton]
theorem InW.skip{ps:List ByteArray}{k:Nat}{x:Rk}{b:Bool}(h:InW ps k x b)(hk:k<ps.length)(h0:ps[k].size=0):InW ps (k+1) x b:=by
 have e: ∀t,(t∈ps.take (k+1)∧t.size≠0)↔(t∈ps.take k∧t.size≠0):=λt=>by
  rw[Zb9 hk]
  constructor
  ·rintro⟨h1|rfl,h2⟩
   ·exact⟨h1,h2⟩
   ·exact absurd h0 h2
  ·exact λ⟨h1,h2⟩=>⟨.inl h1,h2⟩
 refine⟨λt ht hn=>h.ok t ((e t).1 ⟨ht,hn⟩).1 hn,?_,h.lo,h.hi,λn=>?_⟩
 ·rw[h.some]; exact⟨λ⟨t,ht⟩=>⟨t,(e t).2 ht⟩,λ⟨t,ht⟩=>⟨t,(e t).1 ht⟩⟩
 ·rw[h.has]
  exact and_congr_right λ_=>and_congr_right λ_=>⟨λg t ht hn=>g t ((e t).1 ⟨ht,hn⟩).1 hn,λg t ht hn=>g t ((e t).2 ⟨ht,hn⟩).1 hn⟩
theorem InW.word{ps:List ByteArray}{k:Nat}{x a:Rk}{b:Bool}(h:InW ps k x b)(hk:k<ps.length)(h0:ps[k].size≠0)(hw:WordS ps[k].data.toList a):InW ps (k+1) (max x.1 a.1,min x.2 a.2) true:=by
 obtain⟨h1,h2⟩:=hw.in
 have hl:=h.lo
 have hh:=h.hi
 refine⟨λt ht hn=>?_,?_,?_,?_,λn=>?_⟩
 ·rcases(Zb9 hk).1 ht with h3|rfl
  ·exact h.ok t h3 hn
  ·exact⟨a,hw⟩
 ·simp only[true_iff]; exact⟨_,(Zb9 hk).2 (.inr rfl),h0⟩
 ·simp only; omega
 ·simp only; omega
 ·simp only
  have e:=h.has n
  have e1:(max x.1 a.1≤n∧n≤min x.2 a.2)↔(x.1≤n∧n≤x.2)∧(a.1≤n∧n≤a.2):=oM
  rw[e1,e]
  constructor
  ·rintro⟨⟨g1,g2,g3⟩,g4⟩
   refine⟨g1,g2,λt ht hn c hc=>?_⟩
   rcases(Zb9 hk).1 ht with h3|rfl
   ·exact g3 t h3 hn c hc
   ·rw[←hw.one hc]; exact g4
  ·rintro⟨g1,g2,g3⟩
   exact⟨⟨g1,g2,λt ht hn c hc=>g3 t ((Zb9 hk).2 (.inl ht)) hn c hc⟩,g3 _ ((Zb9 hk).2 (.inr rfl)) h0 a hw⟩
def Zk3(a:ByteArray):Prop:=(∃t∈Zar spB a,t.size≠0)∧ ∀t∈Zar spB a,t.size≠0→ ∃x,WordS t.data.toList x
def Zkp(a:ByteArray)(n:Int):Prop:=0≤n∧n≤999999999∧ ∀t∈Zar spB a,t.size≠0→ ∀x,WordS t.data.toList x→x.1≤n∧n≤x.2
structure InA(ps:List ByteArray)(k:Nat)(l:List Rk):Prop where
 ok: ∀a∈ps.take k,Zk3 a
 len:l.length≤k
 inn:rkIn l
 le: ∀x∈l,x.1≤x.2
 has: ∀n,hasR n l=true↔ ∃a∈ps.take k,Zkp a n
theorem InA.start(ps:List ByteArray):InA ps 0 []:=⟨by simp,Nat.le_refl _,λx hx=>(by cases hx),λx hx=>(by cases hx),λn=>by simp[hasR]⟩
theorem Zn4{n:Int}{l:List Rk}{x:Rk}:hasR n (l++ [x])=true↔hasR n l=true∨(x.1≤n∧n≤x.2):=by
 simp[hasR,List.any_append]
theorem InA.step{ps:List ByteArray}{k:Nat}{l:List Rk}{x:Rk}(h:InA ps k l)(hk:k<ps.length)(hw:InW (Zar spB ps[k]) (Zar spB ps[k]).length x true):
  (x.1≤x.2→InA ps (k+1) (l++ [x]))∧(¬x.1≤x.2→InA ps (k+1) l):=by
 have ht:(Zar spB ps[k]).take (Zar spB ps[k]).length=Zar spB ps[k]:=List.take_length
 have hok:Zk3 ps[k]:=by
  have h1:=hw.ok; have h2:=hw.some
  rw[ht]at h1 h2
  exact⟨h2.1 rfl,h1⟩
 have hhas: ∀n,(x.1≤n∧n≤x.2)↔Zkp ps[k] n:=λn=>by
  have:=hw.has n
  rw[ht]at this
  exact this
 have hall: ∀a∈ps.take (k+1),Zk3 a:=λa ha=>by
  rcases(Zb9 hk).1 ha with h1|rfl
  ·exact h.ok a h1
  ·exact hok
 have hl:=hw.lo
 have hh:=hw.hi
 have hst: ∀n,(∃a∈ps.take (k+1),Zkp a n)↔(hasR n l=true∨(x.1≤n∧n≤x.2)):=λn=>by
  rw[h.has,hhas]
  constructor
  ·rintro⟨a,ha,hn⟩
   rcases(Zb9 hk).1 ha with h1|rfl
   ·exact .inl ⟨a,h1,hn⟩
   ·exact .inr hn
  ·rintro(⟨a,ha,hn⟩|hn)
   ·exact⟨a,(Zb9 hk).2 (.inl ha),hn⟩
   ·exact⟨_,(Zb9 hk).2 (.inr rfl),hn⟩
 refine⟨λhx=>⟨hall,by have:=h.len; simp; omega,λy hy=>?_,λy hy=>?_,λn=>?_⟩,λhx=>⟨hall,by have:=h.len; omega,h.inn,h.le,λn=>?_⟩⟩
 ·rcases List.mem_append.1 hy with h1|h1
  ·exact h.inn y h1
  ·rw[List.mem_singleton]at h1; subst h1; omega
 ·rcases List.mem_append.1 hy with h1|h1
  ·exact h.le y h1
  ·rw[List.mem_singleton]at h1; subst h1; exact hx
 ·rw[Zn4,hst]
 ·rw[hst]; constructor
  ·exact .inl
  ·rintro(h1|h1)
   ·exact h1
   ·omega
def Zk5(text:ByteArray):Prop:=text.size≤4096∧ ∀a∈Zar barB text,Zk3 a
theorem Zht(sep:ByteArray): ∀(k:Nat) (s:ByteArray),∀t∈Lib.splitB sep 0 k s,t.size≤s.size
 |0,s,t,h=>by rw[Lib.splitB_zero,List.mem_singleton]at h; rw[h]; exact Nat.le_refl _
 |k+1,s,t,h=>by
  rcases Lib.indexB_cases s sep with hix|⟨i,hix,hroom⟩
  ·rw[Lib.splitB_miss _ _ _ _ hix,List.mem_singleton]at h; rw[h]; exact Nat.le_refl _
  ·rw[Lib.splitB_hit _ _ _ _ i hix]at h
   rcases List.mem_cons.1 h with rfl|h
   ·rw[ByteArray.size_extract]; omega
   ·have:=Zht sep k _ t h
    rw[ByteArray.size_extract]at this; omega
theorem Zik{sep s t:ByteArray}(h:t∈Zar sep s):t.size≤s.size:=Zht sep _ s t h
theorem Zjm(sep:ByteArray)(h1:1≤sep.size)(s:ByteArray):(Zar sep s).length≤s.size+1:=Lib.splitB_length_le sep 0 s.size s
def WordC(w:World):Prop:=∀(t:ByteArray) (W:World),StarW t→t.size≤4096→Ext w W→Calls prog 279 #[.string t] W λe w'=>Ext W w'∧
 ((∃x:Rk,WordS t.data.toList x∧e= .returned (.tuple #[.agg #[.int .i64 x.1,.int .i64 x.2],.bool true]))∨((∀x,¬WordS t.data.toList x)∧e= .returned (.tuple #[.agg #[.int .i64 0,.int .i64 0],.bool false])))
def Zc9:Value:=.slice none 0 0
def IA(w:World)(text:ByteArray)(k:Nat)(W:World):Prop:=
 ∃(l:List Rk) (v:Value),InA (Zar barB text) k l∧Boxed W (w.heap.size+1+1) 233 v∧W.ownsRow (w.heap.size+8) 236 2 v l.length (Zfa l)∧Below w.heap.size w W∧
  Boxed W w.heap.size 150 Zc9∧Boxed W (w.heap.size+1) 39 (.int .i64 0)∧W.heap[w.heap.size+6]? =some (.deferred (some []))∧w.heap.size+7≤W.heap.size
def XA(w:World)(text:ByteArray)(c:Code)(W:World):Prop:=
 c= .ret∧ ¬Zk5 text∧Below w.heap.size w W∧Boxed W w.heap.size 150 Zc9∧Boxed W (w.heap.size+1) 39 (.int .i64 21)∧W.heap[w.heap.size+6]? =some (.deferred (some []))∧w.heap.size+7≤W.heap.size
theorem Zmh{A B:World}{base b:Nat}{e:TypeId}{size k:Nat}{v:Value}{xs:List Value}(h:A.ownsRow base e size v k xs)(ht:Tu b A B)(hb:b<base):B.ownsRow base e size v k xs:=by
 refine h.kept ht ?_
 rcases h.2 with⟨rfl,_⟩|⟨g,cap,cur,rfl,hg,_⟩
 ·exact .inl rfl
 ·refine .inr λe'=>?_
  have:g=b:=by simpa[Value.ownBlock]using e'
  omega
theorem Zfk{A B w:World}{b s:Nat}(h:Below s w A)(ht:Tu b A B)(hb:s≤b)(hs:s≤w.heap.size):Below s w B:=h.grown ht (Nat.le_trans hs h.size) λk e=>by cases e; exact hb
theorem Zbr{A B:World}{b k:Nat}{t:TypeId}{v:Value}(h:Boxed A k t v)(ht:Tu b A B)(hne:k≠b):Boxed B k t v:=h.kept ht (by simpa using hne)
theorem IA.tu{w:World}{text:ByteArray}{k:Nat}{A B:World}{b:Nat}(hb:b=w.heap.size+1+1+1∨b=w.heap.size+7):IA w text k A→Tu b A B→IA w text k B:=by
 rintro⟨l,v,h1,h2,h3,h4,h5,h6,h7,h8⟩ ht
 exact⟨l,v,h1,Zbr h2 ht oM,Zmh h3 ht oM,Zfk h4 ht oM nR,Zbr h5 ht oM,Zbr h6 ht oM,ht.at h7 oM,Nat.le_trans h8 (World.grownBy.size ht)⟩
theorem XA.tu{w:World}{text:ByteArray}{c:Code}{A B:World}{b:Nat}(hb:b=w.heap.size+1+1+1∨b=w.heap.size+7):XA w text c A→Tu b A B→XA w text c B:=by
 rintro⟨h1,h2,h4,h5,h6,h7,h8⟩ ht
 exact⟨h1,h2,Zfk h4 ht oM nR,Zbr h5 ht oM,Zbr h6 ht oM,ht.at h7 oM,Nat.le_trans h8 (World.grownBy.size ht)⟩
structure StA(w:World)(text:ByteArray)(V:World):Prop where
 size:V.heap.size=w.heap.size+6
 out:Boxed V w.heap.size 150 Zc9
 err:Boxed V (w.heap.size+1) 39 (.int .i64 0)
 all:Boxed V (w.heap.size+1+1) 233 Zc9
 str:Boxed V (w.heap.size+1+1+1) 9 (.string text)
 sep:Boxed V (w.heap.size+1+1+1+1) 9 (.string barB)
 sav:Boxed V (w.heap.size+1+1+1+2) 3 (.int .i64 0)
 bel:Below w.heap.size w V
theorem stA(w:World)(text:ByteArray):StA w text (sqW (((w.alloc (.cells #[Zc9] 150)).alloc (.cells #[.int .i64 0] 39)).alloc (.cells #[Zc9] 233)) text barB):=by
 unfold sqW
 have b0:=Boxed.new w 150 Zc9
 have b1:=Boxed.new (w.alloc (.cells #[Zc9] 150)) 39 (.int .i64 0)
 have b2:=Boxed.new ((w.alloc (.cells #[Zc9] 150)).alloc (.cells #[.int .i64 0] 39)) 233 Zc9
 generalize hA:((w.alloc (.cells #[Zc9] 150)).alloc (.cells #[.int .i64 0] 39)).alloc (.cells #[Zc9] 233)=A at*
 have hs:A.heap.size=w.heap.size+1+1+1:=by rw[←hA]; simp
 have hb:Below w.heap.size w A:=by rw[←hA]; exact(((Below.refl _ w).alloc nR _).alloc sI _).alloc (by simp; omega) _
 have b3:=Boxed.new A 9 (.string text)
 have b4:=Boxed.new (A.alloc (.cells #[.string text] 9)) 9 (.string barB)
 have b5:=Boxed.new ((A.alloc (.cells #[.string text] 9)).alloc (.cells #[.string barB] 9)) 3 (.int .i64 0)
 simp only[World.size_alloc,hs]at b1 b2 b3 b4 b5
 have c0:Boxed A w.heap.size 150 Zc9:=by rw[←hA]; exact(b0.alloc _).alloc _
 have c1:Boxed A (w.heap.size+1) 39 (.int .i64 0):=by rw[←hA]; exact b1.alloc _
 exact⟨by simp[hs],((c0.alloc _).alloc _).alloc _,((c1.alloc _).alloc _).alloc _,((b2.alloc _).alloc _).alloc _,(b3.alloc _).alloc _,b4.alloc _,b5,((hb.alloc oM _).alloc (by simp; omega) _).alloc (by simp; omega) _⟩
structure StB(W:World)(a:ByteArray)(V:World):Prop where
 size:V.heap.size=W.heap.size+5
 one:V.heap[W.heap.size]? =some (.cells #[.int .i64 0,.int .i64 999999999] 236 (0,0))
 some:Boxed V (W.heap.size+1) 4 (.bool false)
 str:Boxed V (W.heap.size+1+1) 9 (.string a)
 sep:Boxed V (W.heap.size+1+1+1) 9 (.string spB)
 sav:Boxed V (W.heap.size+1+1+2) 3 (.int .i64 0)
 bel:Below W.heap.size W V
theorem Zgv{W:World}{k:Nat}{o:Obj}(h:W.heap[k]? =some o)(o':Obj):(W.alloc o').heap[k]? =some o:=(Below.heap_alloc _ _ _ (Array.getElem?_eq_some_iff.1 h).1).trans h
theorem stB(W:World)(a:ByteArray):StB W a (sqW ((W.alloc (.cells #[.int .i64 0,.int .i64 999999999] 236)).alloc (.cells #[.bool false] 4)) a spB):=by
 unfold sqW
 have b0:=World.alloc_heap_new W (.cells #[.int .i64 0,.int .i64 999999999] 236)
 have b1:=Boxed.new (W.alloc (.cells #[.int .i64 0,.int .i64 999999999] 236)) 4 (.bool false)
 generalize hA:(W.alloc (.cells #[.int .i64 0,.int .i64 999999999] 236)).alloc (.cells #[.bool false] 4)=A at*
 have hs:A.heap.size=W.heap.size+1+1:=by rw[←hA]; simp
 have hb:Below W.heap.size W A:=by rw[←hA]; exact((Below.refl _ W).alloc nR _).alloc sI _
 have b3:=Boxed.new A 9 (.string a)
 have b4:=Boxed.new (A.alloc (.cells #[.string a] 9)) 9 (.string spB)
 have b5:=Boxed.new ((A.alloc (.cells #[.string a] 9)).alloc (.cells #[.string spB] 9)) 3 (.int .i64 0)
 simp only[World.size_alloc,hs]at b1 b3 b4 b5
 have c0:A.heap[W.heap.size]? =some (.cells #[.int .i64 0,.int .i64 999999999] 236 (0,0)):=by rw[←hA]; exact Zgv b0 _
 exact⟨by simp[hs],Zgv (Zgv (Zgv c0 _) _) _,((b1.alloc _).alloc _).alloc _,(b3.alloc _).alloc _,b4.alloc _,b5,((hb.alloc oM _).alloc (by simp; omega) _).alloc (by simp; omega) _⟩
def IB(W:World)(a:ByteArray)(j:Nat)(W':World):Prop:=
 ∃(x:Rk) (b:Bool),InW (Zar spB a) j x b∧W'.heap[W.heap.size]? =some (.cells #[.int .i64 x.1,.int .i64 x.2] 236 (0,0))∧Boxed W' (W.heap.size+1) 4 (.bool b)∧Below W.heap.size W W'∧W.heap.size+5≤W'.heap.size
structure ButR(s:Nat)(W W':World):Prop where
 os:W'.os=W.os
 tape:W'.tape=W.tape
 output:W'.output=W.output
 size:W.heap.size≤W'.heap.size
 block: ∀k,k<W.heap.size→k≠s→k≠s+1→W'.heap[k]? =W.heap[k]?
def XB(w W:World)(a:ByteArray)(c:Code)(W':World):Prop:=
 c= .ret∧(∃t∈Zar spB a,t.size≠0∧ ∀x,¬WordS t.data.toList x)∧Boxed W' w.heap.size 150 Zc9∧Boxed W' (w.heap.size+1) 39 (.int .i64 21)∧ButR w.heap.size W W'
theorem IB.tu{W:World}{a:ByteArray}{k:Nat}{A B:World}{b:Nat}(hb:b=W.heap.size+1+1∨b=W.heap.size+5):IB W a k A→Tu b A B→IB W a k B:=by
 rintro⟨x,y,h1,h2,h3,h4,h5⟩ ht
 exact⟨x,y,h1,ht.at h2 oM,Zbr h3 ht oM,Zfk h4 ht oM nR,Nat.le_trans h5 (World.grownBy.size ht)⟩
theorem XB.tu{w W:World}{a:ByteArray}{c:Code}{A B:World}{b:Nat}(hw:w.heap.size+7≤W.heap.size)(hb:b=W.heap.size+1+1∨b=W.heap.size+5):XB w W a c A→Tu b A B→XB w W a c B:=by
 rintro⟨h1,h2,h3,h4,h5⟩ ht
 exact⟨h1,h2,Zbr h3 ht oM,Zbr h4 ht oM,⟨(World.grownBy.os ht).trans h5.os,(World.grownBy.tape ht).trans h5.tape,(World.grownBy.output ht).trans h5.output,Nat.le_trans h5.size (World.grownBy.size ht),λk hk h6 h7=>
  (World.grownBy.block ht k (Nat.lt_of_lt_of_le hk h5.size) (by simp; omega)).trans (h5.block k hk h6 h7)⟩⟩
theorem Zyb{A B:World}{u:Nat}{x y:Value}{t s:TypeId}{b:Value}(hx:Ext A B)(h:A.heap[u]? =some (.cells #[x,y] t (0,0)))(hb:Boxed A (u+1) s b):
  B.cell? ⟨u,0,none⟩=some x∧B.cell? ⟨u,1,none⟩=some y∧B.frozen? ⟨u,0,none⟩=false∧B.frozen? ⟨u,1,none⟩=false∧B.cell? ⟨u+1,0,none⟩=some b∧B.frozen? ⟨u+1,0,none⟩=false:=by
 have h2:B.heap[u]? =_:=(hx.block (Array.getElem?_eq_some_iff.1 h).1).trans h
 have hb2:Boxed B (u+1) s b:=(hx.block hb.lt).trans hb
 exact⟨by simp[World.cell?,h2],by simp[World.cell?,h2],by simp[World.frozen?,h2],by simp[World.frozen?,h2],hb2.cell,hb2.frozen⟩
structure Two(u:Nat)(A B:World):Prop where
 os:B.os=A.os
 tape:B.tape=A.tape
 output:B.output=A.output
 size:A.heap.size≤B.heap.size
 block: ∀k,k<A.heap.size→k≠u→k≠u+1→B.heap[k]? =A.heap[k]?
theorem Two.below{u s:Nat}{A B w:World}(h:Below s w A)(t:Two u A B)(hs:s≤u)(hw:s≤w.heap.size):Below s w B:=⟨t.os.trans h.os,t.tape.trans h.tape,t.output.trans h.output,Nat.le_trans h.size t.size,λk hk=>(t.block k (by have:=h.size; omega) oM oM).trans (h.block k hk)⟩
theorem Two.ext{u:Nat}{A B C:World}(h:Ext A B)(t:Two u B C)(hu:u+1<A.heap.size):Two u A C:=⟨t.os.trans h.os,t.tape.trans h.tape,t.output.trans h.output,Nat.le_trans h.size t.size,λk hk h1 h2=>(t.block k (by have:=h.size; omega) h1 h2).trans (h.block hk)⟩
theorem setB{A:World}{u:Nat}{x y p q r b:Value}{t s:TypeId}(h:A.heap[u]? =some (.cells #[x,y] t (0,0)))(hb:Boxed A (u+1) s b):
  (((A.setCell ⟨u,0,none⟩ p).setCell ⟨u,1,none⟩ q).setCell ⟨u+1,0,none⟩ r).heap[u]? =some (.cells #[p,q] t (0,0))∧Boxed (((A.setCell ⟨u,0,none⟩ p).setCell ⟨u,1,none⟩ q).setCell ⟨u+1,0,none⟩ r) (u+1) s r∧Two u A (((A.setCell ⟨u,0,none⟩ p).setCell ⟨u,1,none⟩ q).setCell ⟨u+1,0,none⟩ r):=by
 obtain⟨hlt,hk⟩:=Array.getElem?_eq_some_iff.1 h
 have o: ∀(B:World) (a:Addr) (v:Value) (k:Nat),k≠a.block→(B.setCell a v).heap[k]? =B.heap[k]? :=λB a v k hk=>Below.heap_setCell B a v k hk
 have e1:(A.setCell ⟨u,0,none⟩ p).heap[u]? =some (.cells #[p,y] t (0,0)):=by
  show(A.heap.modify u _)[u]? =_
  rw[Array.getElem?_eq_getElem (by rw[Array.size_modify]; exact hlt),Array.getElem_modify_self,hk]
  rfl
 obtain⟨hlt2,hk2⟩:=Array.getElem?_eq_some_iff.1 e1
 have e2:((A.setCell ⟨u,0,none⟩ p).setCell ⟨u,1,none⟩ q).heap[u]? =some (.cells #[p,q] t (0,0)):=by
  show((A.setCell ⟨u,0,none⟩ p).heap.modify u _)[u]? =_
  rw[Array.getElem?_eq_getElem (by rw[Array.size_modify]; exact hlt2),Array.getElem_modify_self,hk2]
  rfl
 have hb2:Boxed ((A.setCell ⟨u,0,none⟩ p).setCell ⟨u,1,none⟩ q) (u+1) s b:=((o _ _ _ _ sI).trans (o _ _ _ _ sI)).trans hb
 refine⟨(o _ _ _ _ sI).trans e2,hb2.set r,rfl,rfl,rfl,by simp[World.setCell],λk hk h1 h2=>(o _ _ _ _ (by simpa using h2)).trans ((o _ _ _ _ (by simpa using h1)).trans (o _ _ _ _ (by simpa using h1)))⟩
theorem Zq{A B:World}{n k:Nat}{t:TypeId}{v:Value}(h:Boxed A k t v)(hx:Below n A B)(hk:k<n):Boxed B k t v:=(hx.block k hk).trans h
theorem setR{A:World}{u:Nat}{p q x y:Value}{t s:TypeId}(h:Boxed A u t x)(hb:Boxed A (u+1) s y):
  Boxed ((A.setCell ⟨u,0,none⟩ p).setCell ⟨u+1,0,none⟩ q) u t p∧Boxed ((A.setCell ⟨u,0,none⟩ p).setCell ⟨u+1,0,none⟩ q) (u+1) s q∧Two u A ((A.setCell ⟨u,0,none⟩ p).setCell ⟨u+1,0,none⟩ q):=by
 have o: ∀(B:World) (a:Addr) (v:Value) (k:Nat),k≠a.block→(B.setCell a v).heap[k]? =B.heap[k]? :=λB a v k hk=>Below.heap_setCell B a v k hk
 have h1:=h.set p
 have hb1:Boxed (A.setCell ⟨u,0,none⟩ p) (u+1) s y:=(o _ _ _ _ sI).trans hb
 refine⟨(o _ _ _ _ sI).trans h1,hb1.set q,rfl,rfl,rfl,by simp[World.setCell],λk hk h1 h2=>(o _ _ _ _ (by simpa using h2)).trans (o _ _ _ _ (by simpa using h1))⟩
theorem Two.butR{s:Nat}{W A B:World}(h:Below W.heap.size W A)(t:Two s A B):ButR s W B:=⟨t.os.trans h.os,t.tape.trans h.tape,t.output.trans h.output,Nat.le_trans h.size t.size,λk hk h1 h2=>(t.block k (by have:=h.size; omega) h1 h2).trans (h.block k hk)⟩
theorem ButR.below{s:Nat}{w A B:World}(h:Below s w A)(t:ButR s A B)(hw:s≤w.heap.size):Below s w B:=⟨t.os.trans h.os,t.tape.trans h.tape,t.output.trans h.output,Nat.le_trans h.size t.size,λk hk=>(t.block k (by have:=h.size; omega) oM oM).trans (h.block k hk)⟩
structure OneB(n b:Nat)(A B:World):Prop where
 os:B.os=A.os
 tape:B.tape=A.tape
 output:B.output=A.output
 size:A.heap.size≤B.heap.size
 block: ∀k,k<n→k≠b→B.heap[k]? =A.heap[k]?
theorem OneB.below{n b s:Nat}{w A B:World}(h:Below s w A)(t:OneB n b A B)(hs:s≤b)(hn:s≤n):Below s w B:=⟨t.os.trans h.os,t.tape.trans h.tape,t.output.trans h.output,Nat.le_trans h.size t.size,λk hk=>(t.block k oM oM).trans (h.block k hk)⟩
theorem Zfm{A B:World}{base:Nat}{e:TypeId}{size k:Nat}{v:Value}{xs:List Value}(h:A.ownsRow base e size v k xs)(hb:Below A.heap.size A B):B.ownsRow base e size v k xs:=
 ⟨h.1,h.2.imp id λ⟨g,cap,cur,h1,h2,h3,h4⟩=>⟨g,cap,cur,h1,h2,(hb.block g (Array.getElem?_eq_some_iff.1 h3).1).trans h3,h4⟩⟩
theorem Znl{W w1:World}{n₀ B:Nat}{t e:TypeId}{size:Nat}{v v':Value}{k m:Nat}{xs ys:List Value}{tmp:Obj}
  (hv:Boxed W B t v) (hte:t≠e) (hrow:W.ownsRow n₀ e size v k xs) (hn₀:n₀≤W.heap.size)
  (hown':w1.ownsRow n₀ e size v' m ys) (hgrow:(W.alloc tmp).grownBy w1 v.ownBlock):
  Boxed w1 B t v∧Boxed (w1.setCell ⟨B,0,none⟩ v') B t v'∧(w1.setCell ⟨B,0,none⟩ v').ownsRow n₀ e size v' m ys∧OneB n₀ B W (w1.setCell ⟨B,0,none⟩ v'):=by
 have hv1:Boxed w1 B t v:=(hv.alloc tmp).kept hgrow (hv.not_row hte hrow)
 refine⟨hv1,hv1.set v',hown'.kept (grownBy_setCell' w1 B v') (.inr (hv1.not_row hte hown').symm),by have:=World.grownBy.os hgrow; exact this,by have:=World.grownBy.tape hgrow; exact this,by have:=World.grownBy.output hgrow; exact this,?_,λj hj hb=>?_⟩
 ·have:=World.grownBy.size hgrow
  simp[World.setCell]at this ⊢
  omega
 ·refine(Below.heap_setCell w1 _ v' j hb).trans ((World.grownBy.block hgrow j (by simp; omega) λe'=>?_).trans (Below.heap_alloc W tmp j oM))
  rcases hrow.2 with⟨rfl,_⟩|⟨g,cap,cur,rfl,hb',_⟩
  ·simp[Value.ownBlock]at e'
  ·have:j=g:=by simpa[Value.ownBlock]using e'
   omega
theorem Zqz{W:World}{v:Value}{l:List Rk}{base:Nat}(h:W.ownsRow base 236 2 v l.length (Zfa l))(hin:rkIn l)(hl:l.length≤1000000):
  Calls prog 281 #[v] W λe w'=>∃(t:Sl) (m:List Rk),e= .returned t.v∧Ext W w'∧m.Perm l∧Zoi m∧SlR rkE w' (λb=>W.heap.size≤b∧b<w'.heap.size) t (Zi4 m):=by
 obtain⟨s,rfl,own⟩:=OwnS.rkMk h
 have eb:rkE.bytes=16:=rfl
 have hj:callS prog 281 [s.v] W λv w'=>∃(t:Sl) (m:List Rk),v=t.v∧Ext W w'∧m.Perm l∧Zoi m∧SlR rkE w' (λb=>W.heap.size≤b∧b<w'.heap.size) t (Zi4 m):=by
  refine SE.Zf9.go (joined_se own hin hl λt w' m hx hp hr ow=>⟨t,m,rfl,hx,hp,hr,?_⟩)
  have hjl:(Zi4 m).length≤1000000:=by
   have hm:m.length≤1000000:=by rw[hp.length_eq]; exact hl
   cases m with
   |nil=>simp[Zi4]
   |cons y r=>have:=Zpv r y; simp only[List.length_cons]at hm; show(Zkm y r).length≤1000000; omega
  refine(ow.read (by rw[eb]; unfold room; omega) (by rw[Zb]; omega)).mono λb hb=>?_
  rcases hb with h|⟨ad,ha,rfl⟩
  ·exact h.elim
  ·have:=ow.block ha; exact⟨this.1,this.2.1⟩
 exact Calls.mono hj λe w' ⟨v,he,t,m,hv,r⟩=>⟨t,m,by rw[he,hv],r⟩
theorem Z4x{W:World}{t:Sl}{l:List Rk}{S:Nat→Prop}(h:SlR rkE W S t l):
  Calls prog 280 #[t.v] W λe w'=>∃(s:Sl) (er:Int),e= .returned (.tuple #[s.v,.int .i64 er])∧Ext W w'∧((s=Sl.nil∧er=26∧64<l.length)∨(er=0∧l.length≤64∧SlR spanE w' (λb=>W.heap.size≤b∧b<w'.heap.size) s (Ze2 l))):=by
 have hf:callS prog 280 [t.v] W λv w'=>∃(s:Sl) (er:Int),v= .tuple #[s.v,.int .i64 er]∧Ext W w'∧((s=Sl.nil∧er=26∧64<l.length)∨(er=0∧l.length≤64∧SlR spanE w' (λb=>W.heap.size≤b∧b<w'.heap.size) s (Ze2 l))):=by
  refine SE.Zkh.go ?_
  unfold SE.Zkh
  have hl:=h.len
  exact⟨λhg=>⟨Sl.nil,26,rfl,Ext.refl _,.inl ⟨rfl,rfl,oM⟩⟩,λhg=>SE.Zhb.go (spans_se h oM λt w' hx ht=>⟨t,rfl,t,0,rfl,hx,.inr ⟨rfl,oM,ht⟩⟩)⟩
 exact Calls.mono hf λe w' ⟨v,he,s,er,hv,r⟩=>⟨s,er,by rw[he,hv],r⟩
def ParseR(w:World)(text:ByteArray)(e:Ending)(W':World):Prop:=
 Ext w W'∧ ∃(s:Sl) (er:Int),e= .returned (.tuple #[s.v,.int .i64 er])∧((s=Sl.nil∧er=21∧ ¬Zk5 text)∨
  (text.size≤4096∧ ∃l m,InA (Zar barB text) (Zar barB text).length l∧m.Perm l∧Zoi m∧((s=Sl.nil∧er=26∧64<(Zi4 m).length)∨
   (er=0∧(Zi4 m).length≤64∧SlR spanE W' (λb=>w.heap.size≤b∧b<W'.heap.size) s (Ze2 (Zi4 m))))))
set_option maxRecDepth 100000 in
theorem parse_in(n:Nat)(hn:12≤n)(text:ByteArray)(w:World)(hsz:text.size≤4096)(m:Int)(hm:w.cell? ⟨0,0,none⟩=some (.int .i64 m))(hword:WordC w)(htx:StarW text):
  CallsIn Fence.wide n prog 196 #[.string text] w (ParseR w text):=by
 have h1:1≤n:=oM
 obtain⟨i0,hi,hz0,hz1,hz2⟩:=info_parts (show(prog.info? 236).map (λi=>(i.zero,i.size,i.bytes))=some (some (.agg #[.int .i64 0,.int .i64 0]),2,16) by kernel_rfl)
 refine callsIn_of_wp_marks func196 rfl trivial ?_ rfl
 simp only[Tryz.ntmps196,List.size_toArray,List.length_cons,List.length_nil,Nat.reduceAdd,Nat.reduceSub,Array.replicate_succ,Array.replicate_zero,List.push_toArray,List.append_toArray,List.nil_append,List.cons_append]
 have hsz':(text.size:Int)≤4096:=oM
 gi_wp2_with (refine⟨trivial,?_⟩; gi_at_call 278; refine(Zgm (n - 1) oM _ _ _).mono ?_; rintro e w' ⟨rfl,rfl⟩)
 have hst:=stA w text
 obtain⟨V,hV⟩: ∃V,sqW (((w.alloc (.cells #[Zc9] 150)).alloc (.cells #[.int .i64 0] 39)).alloc (.cells #[Zc9] 233)) text barB=V:=⟨_,rfl⟩
 rw[hV]at hst
 have hV':=hV
 unfold Zc9 barB at hV'
 rw[hV']
 clear hV hV'
 have hgm:0<w.heap.size:=World.block_lt_of_cell? _ _ hm
 have hmV: ∀{W:World},Below w.heap.size w W→W.cell? ⟨0,0,none⟩=some (.int .i64 m):=λh=>(h.cell (p:=⟨0,0,none⟩) hgm).trans hm
 have hsV:=hst.size
 have hseq:=Zi9 (n - 1) oM barB dC (w.heap.size+1+1+1+1) (w.heap.size+1+1+1) (w.heap.size+1+1+1+2) oM oM text hsz m oM (V.alloc (.deferred (some []))) (hst.sep.alloc _) (hst.str.alloc _) (hst.sav.alloc _) (hmV (hst.bel.alloc oM _))
 have hD:(V.alloc (.deferred (some []))).heap[w.heap.size+6]? =some (.deferred (some [])):=by rw[←hsV]; exact World.alloc_heap_new V _
 have hs7:(V.alloc (.deferred (some []))).heap.size=w.heap.size+7:=by rw[World.size_alloc,hsV]
 refine Zvw (r₀:=none) (D:=V.heap.size) (λfn=>Zvg _ _ _ _ fn) (gf:=345) rfl (enters_of func345 kR rfl) hseq rfl oM (λk hk=>?ks)
  (IA w text) (XA w text) (λk A B b hb h ht=>h.tu (hb.imp id λe=>e.trans hs7) ht) (λc A B b hb h ht=>h.tu (hb.imp id λe=>e.trans hs7) ht)
  ⟨[],Zc9,InA.start _,hst.all.alloc _,World.ownsRow_nil _ _ _ _,hst.bel.alloc oM _,hst.out.alloc _,hst.err.alloc _,hD,oM⟩ ?a1 ?assign ?body ?done ?stop
 case ks=>
  simp only[List.mem_cons,List.mem_nil_iff,or_false]at hk
  omega
 case assign=>
  intro x W K hK
  gi_wp2
  exact hK
 case body=>
  rintro k hk W ⟨rec,hrec,hrd⟩ ⟨l,v,hA,bAll,hrow,hB,bOut,bErr,hDf,hsz8⟩
  rw[hs7]at hrec
  have hlW:=(Array.getElem?_eq_some_iff.1 hrec).1
  have n1:1≤n - 1 - 1:=oM
  have n2:1≤n - 1 - 1 - 1:=oM
  gi_wp2_with (refine⟨trivial,?_⟩; gi_at_call 278; refine(CallsIn.inRound (F:=Fence.wide) _ (Zgm (n - 1 - 1 - 1) oM _ _ _)).mono ?_; rintro e w' ⟨rfl,rfl⟩)
  have hst2:=stB W (Zar barB text)[k]
  obtain⟨V2,hV⟩: ∃V2,sqW ((W.alloc (.cells #[.int .i64 0,.int .i64 999999999] 236)).alloc (.cells #[.bool false] 4)) (Zar barB text)[k] spB=V2:=⟨_,rfl⟩
  rw[hV]at hst2
  have hV':=hV
  unfold spB at hV'
  rw[hV']
  clear hV hV'
  have hsV2:=hst2.size
  have hL2:V2.heap[(V.alloc (.deferred (some []))).heap.size]? =some (.loop rec):=by rw[hs7]; exact(hst2.bel.block _ oM).trans hrec
  have hasz:(Zar barB text)[k].size≤4096:=Nat.le_trans (Zik (List.getElem_mem hk)) hsz
  have hseq2:=Zi9 (n - 1 - 1 - 1) oM spB dC (W.heap.size+1+1+1) (W.heap.size+1+1) (W.heap.size+1+1+2) oM oM (Zar barB text)[k] hasz m oM V2 hst2.sep hst2.str hst2.sav (hmV (hB.trans (hst2.bel.mono oM)))
  refine Zvw (r₀:=some (V.alloc (.deferred (some []))).heap.size) (D:=rec.defers) (w₀:=V2) (mark:=[]) (λfn=>run_enterLoop_inner hL2 fn _ _ _ _) (gf:=345) rfl (enters_of func345 kR rfl) hseq2 rfl oM (λk hk=>?ks2)
   (IB W (Zar barB text)[k]) (XB w W (Zar barB text)[k]) (λj A B b hb h ht=>h.tu (hb.imp id λe=>e.trans hsV2) ht) (λc A B b hb h ht=>h.tu oM (hb.imp id λe=>e.trans hsV2) ht)
   ⟨_,_,InW.start _,hst2.one,hst2.some,hst2.bel,oM⟩ ?a2 ?assign2 ?body2 ?done2 ?stop2
  case ks2=>
   simp only[List.mem_cons,List.mem_nil_iff,or_false]at hk
   omega
  case assign2=>
   intro x W K hK
   gi_wp2
   exact hK
  case body2=>
   rintro j hj W' ⟨rec2,hrec2,hrd2⟩ ⟨x,b,hW,hone,hsome,hB2,hsz2⟩
   have htsz:(Zar spB (Zar barB text)[k])[j].size≤4096:=Nat.le_trans (Zik (List.getElem_mem hj)) hasz
   generalize ht:(Zar spB (Zar barB text)[k])[j]=t at htsz ⊢
   by_cases h0:t.size=0
   ·have ht0:t=ByteArray.mk #[]:=by
     obtain⟨⟨l⟩⟩:=t
     simp[ByteArray.size]at h0
     rw[h0]
    subst ht0
    gi_wp2
    exact⟨rfl,λ_ _=>rfl,x,b,hW.skip hj (by rw[ht]; rfl),hone,hsome,hB2,hsz2⟩
   ·have h0': ¬t=ByteArray.mk #[]:=by rintro rfl; exact h0 rfl
    have hte:t.toList.isEmpty=false:=by
     rw[Lib.toList_data]
     cases h:t.data.toList with
     |nil=>have:=Lib.size_eq t; rw[h,List.length_nil]at this; omega
     |cons _ _=>rfl
    by_cases hx: ∃a,WordS t.data.toList a
    ·obtain⟨a,ha⟩:=hx
     have hc:Calls prog 279 #[.string t] W' λe w'=>e= .returned (.tuple #[.agg #[.int .i64 a.1,.int .i64 a.2],.bool true])∧Ext W' w':=by
      refine(hword t W' (StarW.piece htx (List.getElem_mem hk) (by rw[←ht]; exact List.getElem_mem hj)) htsz (hB.trans (hB2.mono oM))).mono ?_
      rintro e w' ⟨hxw,⟨y,hy,rfl⟩|⟨hn,_⟩⟩
      ·rw[hy.one ha]; exact⟨rfl,hxw⟩
      ·exact absurd ha (hn a)
     have n3:1≤n - 1 - 1 - 1 - 1:=oM
     gi_wp2_with (refine⟨trivial,?_⟩; gi_at_call 279; refine(CallsIn.inRound (F:=Fence.wide) _ (callsIn_wide.2 hc)).mono ?_; rintro e w' ⟨rfl,hxw⟩; obtain⟨c1,c2,f1,f2,cs,fs⟩:=Zyb (hxw.trans (Ext.alloc w' (.cells #[.int .i64 a.1,.int .i64 a.2] 236))) hone hsome)
     have x2:=hxw.trans (Ext.alloc w' (.cells #[.int .i64 a.1,.int .i64 a.2] 236))
     have hone2:=(x2.block (Array.getElem?_eq_some_iff.1 hone).1).trans hone
     have hsome2:=Zq hsome x2 hsome.lt
     obtain⟨k1,k2,k3⟩:=setB (p:=.int .i64 (max x.1 a.1)) (q:=.int .i64 (min x.2 a.2)) (r:=.bool true) hone2 hsome2
     have k4:=k3.ext x2 hsome.lt
     refine⟨?_,?_,(max x.1 a.1,min x.2 a.2),true,hW.word hj (by rw[ht]; exact h0) (by rw[ht]; exact ha),k1,k2,Two.below hB2 k4 nR nR,Nat.le_trans hsz2 k4.size⟩
     ·exact k4.block _ (Array.getElem?_eq_some_iff.1 hrec2).1 oM oM
     ·intro q hq
      simp only[List.mem_cons,List.mem_nil_iff,or_false]at hq
      exact k4.block _ oM oM oM
    ·have hc:Calls prog 279 #[.string t] W' λe w'=>e= .returned (.tuple #[.agg #[.int .i64 0,.int .i64 0],.bool false])∧Ext W' w':=by
      refine(hword t W' (StarW.piece htx (List.getElem_mem hk) (by rw[←ht]; exact List.getElem_mem hj)) htsz (hB.trans (hB2.mono oM))).mono ?_
      rintro e w' ⟨hxw,⟨y,hy,_⟩|⟨_,he⟩⟩
      ·exact absurd ⟨y,hy⟩ hx
      ·exact⟨he,hxw⟩
     have n3:1≤n - 1 - 1 - 1 - 1:=oM
     have bOut':=Zq bOut hB2 oM
     have bErr':=Zq bErr hB2 oM
     gi_wp2_with (refine⟨trivial,?_⟩; gi_at_call 279; refine(CallsIn.inRound (F:=Fence.wide) _ (callsIn_wide.2 hc)).mono ?_; rintro e w' ⟨rfl,hxw⟩; have x2:=hxw.trans (Ext.alloc w' (.cells #[.int .i64 0,.int .i64 0] 236)); have c1:=(Zq bOut' x2 bOut'.lt).cell; have c2:=(Zq bOut' x2 bOut'.lt).frozen; have c3:=(Zq bErr' x2 bErr'.lt).cell; have c4:=(Zq bErr' x2 bErr'.lt).frozen)
     have x2:=hxw.trans (Ext.alloc w' (.cells #[.int .i64 0,.int .i64 0] 236))
     obtain⟨k1,k2,k3⟩:=setR (p:=Zc9) (q:=.int .i64 21) (Zq bOut' x2 bOut'.lt) (Zq bErr' x2 bErr'.lt)
     have k4:=k3.ext x2 bErr'.lt
     exact⟨k4.block _ (Array.getElem?_eq_some_iff.1 hrec2).1 oM oM,rfl,⟨t,by rw[←ht]; exact List.getElem_mem hj,h0,λy hy=>hx ⟨y,hy⟩⟩,k1,k2,k4.butR hB2⟩
  case stop2=>
   rintro c W2 ⟨rfl,⟨t,ht,h0,hx⟩,b1,b2,hr⟩
   gi_wp2
   exact⟨by rw[hs7]; exact hr.block _ hlW oM oM,rfl,λh=>by
    obtain⟨y,hy⟩:=(h.2 _ (List.getElem_mem hk)).2 t ht h0
    exact hx y hy,ButR.below hB hr nR,b1,b2,(hr.block _ (Array.getElem?_eq_some_iff.1 hDf).1 oM oM).trans hDf,Nat.le_trans hsz8 hr.size⟩
  case done2=>
   rintro W2 ⟨x,b,hW,hone,hsome,hB2,hsz2⟩
   have hcs:=hsome.cell
   have bOut2:=Zq bOut hB2 oM
   have bErr2:=Zq bErr hB2 oM
   have hB02:=hB.trans (hB2.mono (by omega:w.heap.size≤W.heap.size))
   have hDf2:=(hB2.block _ (Array.getElem?_eq_some_iff.1 hDf).1).trans hDf
   cases b with
   |false=>
    have c1:=bOut2.cell
    have c2:=bOut2.frozen
    have c3:=bErr2.cell
    have c4:=bErr2.frozen
    gi_wp2
    obtain⟨k1,k2,k3⟩:=setR (p:=Zc9) (q:=.int .i64 21) bOut2 bErr2
    exact⟨(k3.block _ oM oM oM).trans (hB2.block _ oM),rfl,λh=>by
     have:=hW.some
     rw[List.take_length]at this
     exact absurd (this.2 (h.2 _ (List.getElem_mem hk)).1) sI,ButR.below hB (k3.butR hB2) nR,k1,k2,(k3.block _ (Array.getElem?_eq_some_iff.1 hDf2).1 oM oM).trans hDf2,Nat.le_trans oM k3.size⟩
   |true=>
    have hstep:=hA.step hk hW
    have c1:W2.cell? ⟨W.heap.size,0,none⟩=some (.int .i64 x.1):=by simp[World.cell?,hone]
    have c2:W2.cell? ⟨W.heap.size,1,none⟩=some (.int .i64 x.2):=by simp[World.cell?,hone]
    have bAll2:=Zq bAll hB2 oM
    by_cases hle:x.1≤x.2
    ·have hA':=hstep.1 hle
     have hcv:=bAll2.cell
     have hrow2:=Zfm hrow hB2
     have hlen:=hA.len
     have hlk:l.length≤4096:=by
      have:=Zjm barB dC text
      omega
     gi_wp2_with (gi_at_builtin; refine wpListIn_append_own _ rfl _ _ 233 rfl (w.heap.size+8) 236 i0 (.agg #[.int .i64 0,.int .i64 0]) 2 16 underlying233 hi hz0 hz1 hz2 rfl dC _ _ _ rfl (hrow2.alloc _) ⟨W2.heap.size,0,none⟩ 1 1 [.int .i64 x.1,.int .i64 x.2] rfl rfl (λj u hj=>by rw[show(⟨W2.heap.size,0,none⟩:Addr).add j=⟨W2.heap.size,j,none⟩ by unfold Addr.add; split<;>simp_all]; rw[World.cell?_alloc_mark,List.getElem?_toArray]; exact hj) (by simp[Value.oneCell']) (by rw[Zmf]; omega) oM (by simp; omega) ?_; intro v' w1 hown' hgrow _; obtain⟨g',cap',rfl⟩:=ownsRow_succ hown'; obtain⟨hv1,hv2,hr2,hk2⟩:=Znl bAll2 dC hrow2 oM hown' hgrow; have hc1:=hv1.cell; have hf1:=hv1.frozen)
     exact⟨(hk2.block _ oM oM).trans (hB2.block _ oM),λq hq=>by
      simp only[List.mem_cons,List.mem_nil_iff,or_false]at hq
      exact(hk2.block _ oM oM).trans (hB2.block _ oM),l++ [x],_,hA',hv2,by rw[Zky]; simpa using hr2,OneB.below hB02 hk2 oM oM,(hk2.block _ oM oM).trans bOut2,(hk2.block _ oM oM).trans bErr2,(hk2.block _ oM oM).trans hDf2,Nat.le_trans oM hk2.size⟩
    ·have hA':=hstep.2 hle
     gi_wp2
     exact⟨hB2.block _ oM,λq hq=>by
      simp only[List.mem_cons,List.mem_nil_iff,or_false]at hq
      exact hB2.block _ oM,l,v,hA',bAll2,Zfm hrow hB2,hB02,bOut2,bErr2,hDf2,oM⟩
 case stop=>
  rintro c W ⟨rfl,hno,hB,bOut,bErr,hDf,hsz8⟩
  gi_wp2
  refine⟨by simp,.inl ⟨_,_,rfl,run_takeDeferred (by rw[hsV]; exact hDf),?_⟩⟩
  have hp:=Tu.put W V.heap.size (.deferred none)
  have hc5:=(Zbr bOut hp oM).cell
  have hc6:=(Zbr bErr hp oM).cell
  refine⟨.tuple #[Zc9,.int .i64 21],?_,Zfk hB hp oM nR,Sl.nil,21,rfl,.inl ⟨rfl,rfl,hno⟩⟩
  simp[results,Tryz.f196,go_sem,hc5,hc6]
 case done=>
  rintro W ⟨l,v,hA,bAll,hrow,hB,bOut,bErr,hDf,hsz8⟩
  have hcv:=bAll.cell
  have hln:=hA.len
  have hlk:=Zjm barB dC text
  gi_wp2
  refine⟨trivial,(callsIn_wide.2 (Zqz hrow hA.inn oM)).mono ?_⟩
  rintro e w1 ⟨t,m',rfl,x1,hp,hr,hm⟩
  gi_wp2
  refine⟨trivial,(callsIn_wide.2 (Z4x hm)).mono ?_⟩
  rintro e w2 ⟨⟨a2,l2,k2⟩,er,rfl,x2,hres⟩
  dsimp only[Sl.v]
  have x12:=x1.trans x2
  have bOut2:=Zq bOut x12 oM
  have bErr2:=Zq bErr x12 oM
  have hDf2:=(x12.block oM).trans hDf
  have c1:=bOut2.cell
  have c2:=bOut2.frozen
  have c3:=bErr2.cell
  have c4:=bErr2.frozen
  gi_wp2
  obtain⟨q1,q2,q3⟩:=setR (p:=.slice a2 l2 k2) (q:=.int .i64 er) bOut2 bErr2
  have hDf3:=(q3.block _ (Array.getElem?_eq_some_iff.1 hDf2).1 oM oM).trans hDf2
  refine⟨by simp,.inl ⟨_,_,rfl,run_takeDeferred hDf3,?_⟩⟩
  generalize hX:(w2.setCell ⟨w.heap.size,0,none⟩ (.slice a2 l2 k2)).setCell ⟨w.heap.size+1,0,none⟩ (.int .i64 er)=X at q1 q2 q3 hDf3 ⊢
  have hp2:=Tu.put X (w.heap.size+6) (.deferred none)
  have hc5:=(Zbr q1 hp2 oM).cell
  have hc6:=(Zbr q2 hp2 oM).cell
  have hb2:=Two.below (hB.trans (x12.mono oM)) q3 nR nR
  refine⟨.tuple #[.slice a2 l2 k2,.int .i64 er],?_,Zfk hb2 hp2 oM nR,⟨a2,l2,k2⟩,er,rfl,.inr ⟨hsz,l,m',hA,hp,hr,hres.imp id λ⟨g1,g2,g3⟩=>⟨g1,g2,?_⟩⟩⟩
  ·simp[results,Tryz.f196,go_sem,hc5,hc6]
  ·have hw12:=x12.size
   have hx1:=x1.size
   have hsz':=World.grownBy.size hp2
   have hq:=q3.size
   refine(g3.keep (w':=X.putObj (w.heap.size+6) (.deferred none)) λb hb hl=>?_).mono λb hb=>⟨by have:=hb.1; omega,by have:=hb.2; omega⟩
   have h1:=hb.1
   exact(World.grownBy.block hp2 b oM (by simp; omega)).trans (q3.block b hl oM oM)
end Star
end Go.Hal
namespace Go.Hal
open Go.Proofs.Tryz
open Go Go.RowKit Go.Proofs Go.Shelf
theorem Zxu(w:World):Star.WordC w:=λt W ht _ hx=>by
 obtain rfl:t=star0:=ht
 have h:callS prog 279 [.string star0] W λu w'=>Ext W w'∧u= .tuple #[.agg #[.int .i64 0,.int .i64 999999999],.bool true]:=SE.Zlv.go (by
  unfold SE.Zlv
  exact newS.intro λa w1 x1 hb hab _=>⟨λ_=>stw0.intro hb sI λw2 b2 _ h2=>⟨_,_,h2.at0 (r:=[]) xR rfl,b2.ext x1 oM,rfl⟩,λh=>absurd rfl h⟩)
 exact Calls.mono h λe w' ⟨u,he,hx',hu⟩=>⟨hx',.inl ⟨(0,999999999),⟨rfl,rfl⟩,by rw[he,hu]⟩⟩
theorem Z25{l:List Rk}(h:Star.InA [star0] 1 l):l= [(0,999999999)]:=by
 have hh: ∀n:Int,0≤n→n≤999999999→hasR n l=true:=λn h1 h2=>(h.has n).2 ⟨star0,by simp,h1,h2,λt ht _ x hx=>by rw[hx.2]; exact⟨h1,h2⟩⟩
 have h0:=hh 0 dC dC
 have h9:=hh 999999999 dC dC
 have hl:=h.len
 have hi:=h.inn
 match l,hl with
 | [],_=>cases h0
 | [(a,b)],_=>
  simp[hasR]at h0 h9
  have:=hi _ (List.mem_singleton.2 rfl)
  simp only at this
  rw[show a=0 by omega,show b=999999999 by omega]
theorem Z2m{w:World}{K:Value→World→Prop}(hg:Gl w)(hok: ∀s w',Ext w w'→SlR spanE w' (λb=>w.heap.size≤b∧b<w'.heap.size) s [s11]→K (.tuple #[Sl.v s,.int .i64 0]) w'):callS prog 196 [.string star0] w K:=by
 have h:Calls prog 196 #[.string star0] w (Star.ParseR w star0):=by
  obtain⟨m,hm⟩:=hg.mx
  exact callsIn_wide.1 (Star.parse_in 12 nR star0 w dC m hm (Zxu w) rfl)
 refine Calls.mono h λe w' ⟨hx,s,er,he,hr⟩=>⟨_,he,?_⟩
 rcases hr with⟨rfl,rfl,hn⟩|⟨_,l,m,hA,hp,_,hh⟩
 ·refine absurd ⟨by decide,λa ha=>?_⟩ hn
  rw[Zkb.1,List.mem_singleton]at ha
  subst ha
  refine⟨⟨star0,by rw[Zkb.2]; simp,by decide⟩,λt ht _=>⟨_,?_,rfl⟩⟩
  rw[Zkb.2,List.mem_singleton]at ht
  rw[ht]; rfl
 ·rw[Zkb.1]at hA
  rw[Z25 hA]at hp
  obtain rfl:=List.perm_singleton.1 hp
  rcases hh with⟨_,_,h64⟩|⟨rfl,_,hsl⟩
  ·exact absurd h64 (by decide+kernel)
  ·exact hok s w' hx (by rw[show [s11]=Ze2 (Zi4 [(0,999999999)]) by decide+kernel]; exact hsl)
section
variable {p:ByteArray} {n:Int} {w:World}
theorem Z4p{k:Int}{R:ByteArray→Sl→Int→World→Prop}(hg:Gl w)(h1: ∀t w',Ext w w'→SlR spanE w' (λb=>w.heap.size≤b∧b<w'.heap.size) t [s11]→R n11 t 0 w'):SE.Zjx 3 n11 star0 k p n w R:=by
 unfold SE.Zjx
 refine newS.intro λa w1 x1 hb1 ha1 _=>newS.intro λa1 w2 x2 hb2 ha2 _=>⟨_,hb1.at1 x2 rfl,Z2m (hg.ext (x1.trans x2)) λs w3 x3 hs=>⟨_,_,rfl,bound ⟨λh=>?_,λ_=>⟨_,hb1.at1 (x2.trans x3) rfl,stw0.intro (hb2.ext x3) sI λw4 b4 _ hb4=>⟨_,_,hb4.at0 xR rfl,?_⟩⟩⟩⟩⟩
 ·rw[show s.len=1 from hs.len]at h; exact absurd h dC
 have s1:=x1.size; have s2:=x2.size
 refine h1 s w4 (b4.ext (x1.trans (x2.trans x3)) oM) ((hs.but b4 λhb=>?_).mono λb hb=>⟨oM,by have:=b4.1; omega⟩)
 have:=hb.1
 have:=hb2.lt
 omega
def Job0(w w':World)(d:Sl):Prop:=SlR depE w' (λb=>w.heap.size≤b∧b<w'.heap.size) d m11.deps
theorem Zx0{pS:Sl}{old:Option Addr}{R:Sl→Sl→Sl→Sl→Sl→Option Addr→Bool→Int→World→Prop}(hg:Gl w)(hR: ∀d w',Ext w w'→Job0 w w' d→R d Sl.nil Sl.nil Sl.nil pS old false 0 w'):
  SE.Zhr Sl.nil Sl.nil Sl.nil Sl.nil pS old false 3 n11 star0 0 p n w R:=by
 unfold SE.Zhr
 refine newS.intro λa w1 x1 ha hab _=>newS.intro λa1 w2 x2 h1 h1b _=>newS.intro λa3 w4 x4 h4 h4b _=>⟨_,h1.at1 x4 rfl,SE.Zep.go (scanName_se strA λw5 x5=>⟨_,rfl,λh=>absurd h (by decide+kernel),λ_=>⟨_,_,_,_,_,_,(h1.ext (x4.trans x5)).at0 (r:=[]) xR rfl,?_⟩⟩)⟩
 have x05:=x1.trans (x2.trans (x4.trans x5))
 have s1:=x1.size; have s2:=x2.size; have s4:=x4.size; have s5:=x5.size
 refine SE.Zjx.go (Z4p (hg.ext x05) λtr w10 x10 hsp=>⟨_,_,_,rfl,newS.intro λa13 w14 x14 h13 h13b _=>stw0.intro h13 sI λw15 b15 _ h15=>⟨λh=>absurd rfl h,λ_=> ?_⟩⟩)
 have y15:Ext w10 w15:=b15.ext x14 oM
 have x515:=x10.trans y15
 have s10:=x10.size; have s15:=y15.size
 refine⟨_,_,_,_,(ha.ext (x2.trans (x4.trans (x5.trans x515)))).at0 xR rfl,_,(h1.ext (x4.trans (x5.trans x515))).at1 xR rfl,SE.Zg9.go (bare0_se λw28 x28=>⟨_,_,_,_,rfl,stw0.intro (ha.ext (x2.trans (x4.trans (x5.trans (x515.trans x28))))) sI λw31 b31 _ h31=>join.named λJ hJ=>?_⟩)⟩
 have x528:=x515.trans x28
 have k1:=b31.box (h1.ext (x4.trans (x5.trans x528))) oM
 have k3:=b31.box (h4.ext (x5.trans x528)) oM
 have k13:=b31.box (h15.ext x28) (by have:=h13b; omega)
 have s28:=x28.size; have z31:=b31.1
 have al:=ha.lt
 have y31:Ext w w31:=b31.ext (x05.trans x528) oM
 refine⟨0,k1.at1 xR rfl,λ_=>⟨_,h31.at0 xR rfl,_,_,k13.at0 xR rfl,SE.Zir.go (Z3g (d:=⟨n11,[s11]⟩) (S:=λb=>w5.heap.size≤b∧b<w31.heap.size) strA (λb hb=>hb.2) ?_ λt w60 x60 ht=>⟨_,rfl,stw0.intro (h31.ext x60) sI λw63 b63 _ h63=>?_⟩)⟩,λh=>absurd rfl h⟩
 ·exact(((hsp.ext y15).ext x28).but b31 λhb=>by have:=hb.1; omega).mono λb hb=>⟨hb.1,by have:=hb.2; omega⟩
 have s60:=x60.size; have z63:=b63.1
 have y63:Ext w w63:=b63.ext (y31.trans x60) oM
 have hd:SlR depE w63 (λb=>w5.heap.size≤b∧b<w63.heap.size) t m11.deps:=(ht.but b63 λhb=>by rcases hb with hb|hb<;>omega).mono λb hb=>by rcases hb with hb|hb<;>omega
 have hO:Old (λb=>w5.heap.size≤b∧b<w63.heap.size) w63:=λb hb=>hb.2
 rw[hJ]
 refine⟨_,_,_,_,h63.at0 xR rfl,SE.Zen.go (Zme (m:=m11) (hg.ext y63).tab hO hd (SlR.nil trivial) (SlR.nil trivial) (SlR.nil trivial) λw64 x64=>⟨_,rfl,λh=>absurd h (by decide+kernel),λ_=>⟨_,_,_,_,_,_,_,(h63.ext x64).at0 (r:=[]) xR rfl,stw0.intro ((b63.box (k3.ext x60) oM).ext x64) sI λw65 b65 _ h65=>⟨_,_,_,_,_,_,_,h65.at0 xR rfl,?_⟩⟩⟩)⟩
 have s64:=x64.size; have z65:=b65.1
 have a3l:=h4.lt
 exact hR t w65 (b65.ext (y63.trans x64) oM) (((hd.ext x64).but b65 λhb=>by have:=hb.1; omega).mono λb hb=>⟨oM,oM⟩)
def Cmd0(w w':World)(t:Sl)(c:Int)(d e o v pt:Sl)(old:Option Addr)(pr:Bool):Prop:=
 c=0→Job0 w w' d∧e=Sl.nil∧o=Sl.nil∧v=Sl.nil∧pt=Sl.nil∧pr=false∧ ∃ao,old=some ao∧w.heap.size≤ao.block∧ao.block<w'.heap.size∧ldc w' ao [Sl.v t]
theorem Z2p{op k:Int}{rg:ByteArray}{g t:Sl}{S:Nat→Prop}{R:Sl→Sl→Sl→Sl→Sl→Option Addr→Bool→Int→World→Prop}(hg:Gl w)(hop:op=4∨op=3∧k=0∧rg=star0)(hG:SlR nodeE w S g [rootNode])
  (hR: ∀d e o v pt old pr w',Ext w w'→Cmd0 w w' t (if op=4 then 50 else 0) d e o v pt old pr→R d e o v pt old pr (if op=4 then 50 else 0) w'):
  SE.Zfn Sl.nil Sl.nil Sl.nil Sl.nil g t false op n11 rg k p n w R:=by
 unfold SE.Zfn
 refine newS.intro λa w1 x1 ha hab _=>newS.intro λa1 w2 x2 h1 h1b _=>newS.intro λa3 w4 x4 h4 h4b _=>join.named λJ hJ=>bnd.drew λw5 x5=>?_
 have x04:=x1.trans (x2.trans x4)
 have x05:=x04.trans x5
 have s1:=x1.size; have s2:=x2.size; have s4:=x4.size; have s5:=x5.size
 have ab:=ha.lt; have a1b:=h1.lt; have a3b:=h4.lt
 have ha5:=ha.ext (x2.trans (x4.trans x5))
 have key: ∀{w':World} {aj:Addr},Ext w5 w'→w5.heap.size≤aj.block→BoxAt w' aj (jobC Sl.nil Sl.nil Sl.nil Sl.nil Sl.nil (some (a.add 5)) false)→J aj w':=by
  subst hJ
  intro w' aj hx hjb hj
  have hax:=ha5.ext hx
  have h1x:=h1.ext (x4.trans (x5.trans hx))
  have h3x:=h4.ext (x5.trans hx)
  have q:=hx.size
  have hjl:=hj.lt
  rcases hop with rfl|⟨rfl,rfl,rfl⟩
  ·refine⟨4,h1x.at0 xR rfl,λh=>absurd h dC,λ_=>⟨λh=>absurd h dC,λ_=>⟨λ_=>⟨_,h1x.at1 xR rfl,SE.Zep.go (scanName_se strA λw6 x6=>⟨_,rfl,λh=>absurd h (by decide+kernel),λ_=>⟨_,_,_,_,(hax.ext x6).at0 xR rfl,_,(h1x.ext x6).at1 xR rfl,SE.Zg9.go (bare0_se λw37 x37=>⟨_,_,_,_,rfl,stw0.intro (hj.ext (x6.trans x37)) (by simp[jobC]) λw40 b40 _ h40=>⟨_,_,_,_,h40.at0 xR rfl,_,_,_,_,(b40.box (hax.ext (x6.trans x37)) oM).at0 xR rfl,?_⟩⟩)⟩⟩)⟩,λh=>absurd rfl h⟩⟩⟩
   have y40:Ext w w40:=b40.ext (x05.trans (hx.trans (x6.trans x37))) oM
   refine SE.Zez.go (Zjq (m:=⟨[],[],[],[]⟩) (k:=⟨[],[],[],[]⟩) (S:=None') (T:=None') (SlR.nil trivial) (SlR.nil trivial) (SlR.nil trivial) (SlR.nil trivial) (SlR.nil trivial) (SlR.nil trivial) (SlR.nil trivial) (SlR.nil trivial) λw43 x43=>⟨_,rfl,λ_=> ?_,λh=>absurd h (by decide+kernel)⟩)
   exact JobOut.mk (h40.ext x43) ((b40.box (h3x.ext (x6.trans x37)) oM).ext x43) rfl λw8 b8=>hR _ _ _ _ _ _ _ w8 (b8.ext (y40.trans x43) oM) nO
  ·refine⟨3,h1x.at0 xR rfl,λh=>absurd h dC,λ_=>⟨λ_=>⟨_,_,_,_,_,_,_,hj.at0 (r:=[]) xR rfl,_,_,_,_,_,_,h1x.at0 (r:=[]) xR rfl,SE.Zhr.go (Zx0 (hg.ext (x05.trans hx)) λd w11 x11 hd=>⟨_,_,_,_,_,_,_,_,rfl,stw0.intro (h3x.ext x11) sI λw12 b12 _ h12=>⟨_,_,_,_,_,_,_,h12.at0 xR rfl,?_⟩⟩)⟩,λh=>absurd rfl h⟩⟩
   have q11:=x11.size; have z12:=b12.1
   have x011:=x05.trans hx
   have s011:=x011.size
   refine hR d _ _ _ _ _ _ w12 (b12.ext (x011.trans x11) oM) λ_=>⟨(SlR.but hd b12 λhb=>by have:=hb.1; omega).mono λb hb=>⟨by have:=hb.1; omega,by have:=hb.2; omega⟩,rfl,rfl,rfl,rfl,rfl,_,rfl,?_,?_,(b12.box (hax.ext x11) oM).at1 xR rfl⟩
   all_goals rw[Ze5]; omega
 refine⟨_,_,_,_,ha5.at0 xR rfl,_,ha5.at1 xR rfl,_,ha5.at1 xR rfl,?_,?_⟩
 ·refine callX.intro (SE.Zg6.go (Zvq (hG.ext x05) λw6 x6=>⟨x6,_,rfl,newS.intro λaj w7 x7 hj hjb _=>stw0.intro hj sI λw8 b8 _ h8=>?_⟩))
  have q6:=x6.size; have q7:=x7.size
  exact key (x6.trans (b8.ext x7 oM)) oM h8
 ·refine newS.intro λaj w7 x7 hj hjb _=>callX.intro (SE.Zg6.go (Zvq (hG.ext (x05.trans x7)) λw6 x6=>⟨x6,_,rfl,stw0.intro (hj.ext x6) sI λw8 b8 _ h8=>?_⟩))
  have q6:=x6.size; have q7:=x7.size
  exact key (b8.ext (x7.trans x6) oM) oM h8
end
section
variable {w:World} {lo:Nat} {p:Addr} {S:Nat→Prop} {c:PC}
abbrev Ml0(w:World)(lo:Nat)(p:Addr)(S:Nat→Prop)(c:PC)(s:PlS):Prop:=MlV Zw0 229 w lo p S c g21 P21 Zri s
theorem Ml0.read{s:PlS}(h:Ml0 w lo p S c s)(hd:s.dirs.length≤2)(hs:s.done.length≤1):PlV Zw0 w p (λb=>b<w.heap.size) c g21 P21 Zri s:=
 MlV.read h oM ⟨by show _*32≤room; unfold room; omega,by rw[Zb]; omega⟩
theorem Z1q{R:Int→World→Prop}(h:Ml0 w lo p S c pl0)(hl3:c.l3=9)(hl4:c.l4=99)(hR: ∀c' w',Ml0 w' lo p S c' f21→Mv lo p c w c' w'→R 0 w'):SE.Zdp (some p) 0 n11 1 2 w R:=by
 unfold SE.Zdp
 have hrd:=h.read dC dC
 obtain⟨ad,qs,_,_,_,had,_,_,hqs,_,_,_,hcd⟩:=hrd.dirEl (i:=0) dC
 obtain⟨adP,dP,eP,oP,haP,_,hNP,hdP,heP,hoP,hcP⟩:=Zp3 h.pk (n:=1) dC
 have hdl:c.dr.len=1:=Zqt hrd
 have hpl:c.ps.len=2:=h.pk.len
 have hlo:=h.lo_le
 have hpb:=h.box.lt
 have hqs:SlR strE w (λb=>b<w.heap.size) qs []:=hqs
 have hOld: ∀w',Ext w w'→Old (λb=>b<w.heap.size) w':=λw' x b hb=>by have:=x.size; omega
 refine newS.intro λa w1 x1 hb1 hab _=>⟨p,rfl,c.dr,hrd.ld x1 7 rfl,ad,⟨had,by decide,oM⟩,qs,(hcd _ x1).pre rfl,n11,hb1.at0 xR rfl,SE.Zcw.go (Zw1 (hrd.ext x1) (hOld w1 x1) (hqs.ext x1) λw2 x2=>⟨_,rfl,bnd.drew λw3 x3=>bound ?_⟩)⟩
 rw[show decide ((0:Int)≤ -1)=false from rfl]
 refine⟨p,nO,c.dr,nO,ad,nO,0,nO,0,nO,bound (bound (gCall.intro true nO λt49 w4 x4 _=>bound ⟨λhc=>by simp at hc,λ_=>join.named λJ hJ=>?_⟩))⟩
 have x14:=x2.trans (x3.trans x4)
 have x04:=x1.trans x14
 have mv0: ∀w',Ext w w'→Mv lo p c w c w':=λw' x=>Mv.of x hlo
 have keyJ: ∀(c19:PC) (w19:World),Ml0 w19 lo p S c19 ⟨f21.dirs,[]⟩→Mv lo p c w c19 w19→BoxAt w19 a [.string n11,.int .i64 1]→J 1 w19:=by
  subst hJ
  intro c19 w19 h19 m19 hb19
  refine bnd.drew λw20 x20=>⟨p,rfl,c19.st,h19.box.at1 (k:=8) (r:=[]) x20 rfl,n11,hb19.at0 x20 rfl,newS.intro λa25 w26 x26 hb26 _ _=> ?_⟩
  have x:=x20.trans x26
  exact(MlV.ext h19 x).pushS Z6l (x:=⟨0,n11,1⟩) (λw=>⟨rfl,strA⟩) (λh=>h) (hb26.ldc.pre (r:=[]) rfl) ⟨by decide+kernel,by decide+kernel⟩ λr w30 h30 m30=>hR _ w30 h30 (m19.trans ((Mv.of x h19.lo_le).trans m30))
 clear hJ
 refine⟨λ_=>join.named λJ2 hJ2=>⟨λ_=>⟨n11,1,hb1.at0 (r:=[]) x14 rfl,SE.Zds.go (Z24 (hrd.ext x04) (hOld _ x04) (hqs.ext x04) λw5 x5=>⟨_,rfl,?_⟩)⟩,λh=>absurd rfl h⟩,λh=>by simp at h⟩
 have x05:=x04.trans x5
 have x15:=x14.trans x5
 have hhome:SlR strE w5 (λb=>b<w.heap.size) (Sl.cut qs 0 0 1) []:=(hqs.ext x05).cut (a:=0) (b:=0) (Nat.zero_le _) (Nat.zero_le _)
 rw[hJ2]
 refine join.named λJ3 hJ3=>bnd.drew λw66 x66=>?_
 have key3: ∀(d:Addr) (np:Sl) (w34:World),Ext w w34→Ext w1 w34→BoxAt w34 d [np.v,.string k11.name,.int .i64 k11.v.ma,.int .i64 k11.v.mi,.int .i64 k11.v.pa,dP.v,eP.v,oP.v,.int .i64 1]→SlR strE w34 (λb=>w.heap.size≤b∧b<w34.heap.size) np [n11]→J3 d w34:=by
  subst hJ3
  intro d np w34 x34 x134 hbd hnp
  refine bnd.drew λw35 x35=>⟨np,hbd.at0 x35 rfl,p,rfl,c.l4,by rw[Zfi]; exact h.box.at1 (k:=5) (x34.trans x35) rfl,callX.intro (SE.Zhu.go (Zk1 (hnp.ext x35) dC λw36 x36=>⟨x36,_,rfl,λhlong=>?_,λhok=>bnd.drew λw37 x37=>?_⟩))⟩
  ·rw[hl4]at hlong
   exact absurd hlong (by decide+kernel)
  have x347:=x35.trans (x36.trans x37)
  have x37':=x34.trans x347
  refine⟨p,rfl,c.dr,hrd.ld x37' 7 rfl,p,rfl,c.l3,by rw[Zfi]; exact h.box.at1 (k:=4) x37' rfl,λhdeep=>by omega,λ_=>⟨p,rfl,c.dr,hrd.ld x37' 7 rfl,bnd.drew λw38 x38=>⟨p,rfl,c.dr,hrd.ld (x37'.trans x38) 7 rfl,np,_,_,_,_,dP,eP,oP,_,(hbd.ext (x347.trans x38)).ldc.pre (r:=[]) rfl,newS.intro λa58 w39 x39 hb39 _ _=> ?_⟩⟩⟩
  have x349:=x347.trans (x38.trans x39)
  have x09:=x34.trans x349
  have s09:=x09.size
  have s349:=x349.size
  have hrep:dirE.rep w39 (λb=>S b∨(w.heap.size≤b∧b<w39.heap.size)) (Zqs P21 ⟨[n11],1⟩) [np.v,.string k11.name,.int .i64 k11.v.ma,.int .i64 k11.v.mi,.int .i64 k11.v.pa,dP.v,eP.v,oP.v,.int .i64 1]:=
   ⟨hNP,np,dP,eP,oP,rfl,(hnp.ext x349).mono λb hb=>.inr ⟨hb.1,oM⟩,(hdP.ext x09).mono λ_ h=>.inl h,(heP.ext x09).mono λ_ h=>.inl h,(hoP.ext x09).mono λ_ h=>.inl h⟩
  have hdb: ∀ad,c.dr.a=some ad→ad.block<w.heap.size:=λad ha=>by
   obtain⟨D,o,_⟩:=h.dr
   exact(o.block ha).2.1
  have hsb: ∀ad,c.st.a=some ad→ad.block<w.heap.size:=λad ha=>(h.st.block ha).2.1
  refine(MlV.ext h x09).pushD (x:=⟨[n11],1⟩) hrep (hb39.ldc.pre (r:=[]) rfl) (λb hb=>?_) dC λr w63 h63 m63=>?_
  ·rcases hb with hb|hb
   ·have:=h.lt b hb
    exact⟨oM,λe=>h.nS (e▸hb),λad ha e=>(h.drP ad ha).2 (e▸hb),λad ha e=>(h.stP ad ha).2 (e▸hb),.inl hb⟩
   ·exact⟨hb.2,oM,λad ha e=>by have:=hdb ad ha; omega,λad ha e=>by have:=hsb ad ha; omega,.inr oM⟩
  ·rw[show((c.dr.len:Nat):Int)=1 by omega]
   exact keyJ _ w63 h63 ((mv0 w39 x09).trans m63) (m63.box (hb1.ext (x134.trans x349)) oM (λad ha e=>by have:=hdb ad ha; omega) λad ha e=>by have:=hsb ad ha; omega)
 clear hJ3
 have x06:=x05.trans x66
 have x16:=x15.trans x66
 have s06:=x06.size
 refine⟨n11,hb1.at0 x16 rfl,p,rfl,c.ps,h.box.at1 (k:=1) x06 rfl,1,hb1.at1 (k:=1) (r:=[]) x16 rfl,adP,⟨haP,by decide,oM⟩,_,_,_,_,dP,eP,oP,hcP _ x06,1,hb1.at1 (k:=1) (r:=[]) x16 rfl,?_,?_⟩
 ·refine callX.intro (SE.Zc6.go (pinside_se (hOld _ x06) (hhome.ext x66) strA sI λt w76 x76 o76=>⟨x76,_,rfl,newS.set rfl λa79 w81 x81 hb81 _=> ?_⟩))
  have x:=x76.trans x81
  exact key3 a79 t w81 (x06.trans x) (x16.trans x) hb81 (((o76.strsB dC).ext x81).mono λb hb=>⟨oM,by have:=x81.size; omega⟩)
 ·refine newS.intro λa82 w83 x83 hb83 hab83 _=>callX.intro (SE.Zc6.go (pinside_se (hOld _ (x06.trans x83)) ((hhome.ext x66).ext x83) strA sI λt w84 x84 o84=>⟨x84,_,rfl,stw0.intro (hb83.ext x84) nR λw88 b88 hz88 hb88=>?_⟩))
  have s83:=hb83.lt; have s84:=x84.size
  have x68:Ext w66 w88:=b88.ext (x83.trans x84) oM
  exact key3 a82 t w88 (x06.trans x68) (x16.trans x68) hb88 (((o84.strsB dC).but b88 oM).mono λb hb=>⟨oM,oM⟩)
end
theorem prises0{n:Int}{f:Value}{w:World}{R:Bool→World→Prop}(h:n≤1)(hR:R true w):SE.Zf3 n f w R:=by
 unfold SE.Zf3
 exact loop1.none λnxt=>⟨λh=>by omega,λ_=>hR⟩
theorem Z2s{s:PlS}{w:World}{p:Addr}{S:Nat→Prop}{c:PC}{R:Bool→World→Prop}(ht:Tab w)(h:PlV Zw0 w p S c g21 P21 Zri s)(hR: ∀w',Ext w w'→R true w'):SE.Zec (some p) w R:=by
 unfold SE.Zec
 have hgl:c.u.len=2:=h.g.len
 have hpl:c.ps.len=2:=h.pk.len
 refine⟨p,rfl,c.u,h.ld0 xR,bound ⟨λhc=>?_,λhc=>⟨p,rfl,c.u,h.ld0 xR,loop1.up (N:=2) (by rw[Zb]; decide) (λi w'=>Ext w w') xR λi w1 nxt hi x1 hn=>⟨λhlt=>?_,λ_=>hR w1 x1⟩⟩⟩⟩
 ·rw[decide_eq_false oM,decide_eq_false oM]at hc; cases hc
 have hil:i<g21.length:=by show i<2; omega
 have hip:i<P21.length:=hil
 have hi2:i=0∨i=1:=by have:i<2:=hil; omega
 obtain⟨ad,cs,es,had,hst,hcs,hes,hld⟩:=Zff h.g hil
 obtain⟨adP,dP,eP,oP,haP,_,hNP,hdP,heP,hoP,hcP⟩:=Zp3 h.pk hip
 obtain⟨adm,_,_,hadm,_,_,_,hldm⟩:=Zff h.g (n:=1) dC
 have hel: ∀e∈g21[i].edges,e=e21:=by rcases hi2 with rfl|rfl<;>intro e he<;>simp[g21]at he; exact he
 have hcl:cs.len=0:=by
  have:=hcs.len
  rcases hi2 with rfl|rfl<;>simpa[g21]using this
 have hsl:=hes.len
 have hsl1:es.len≤1:=by rcases hi2 with rfl|rfl<;>simp[g21]at hsl<;>omega
 refine⟨ad,⟨had,oM,oM⟩,_,_,_,_,cs,es,by rw[Int.toNat_natCast]; exact hld _ x1,newS.set rfl λa w2 x2 hb2 _=>bnd.drew λw3 x3=>bound ⟨_,λ_=>hb2.at0 x3 rfl,bound ⟨_,_,_,λ_=>hb2.at1 (k:=1) x3 rfl,bound ⟨cs,λ_=>hb2.at1 (k:=4) x3 rfl,λb15 hb15=>bound ?_⟩⟩⟩⟩
 obtain rfl:b15=false:=by
  rw[hb15,hcl]
  rcases hi2 with rfl|rfl<;>kernel_rfl
 have x03:=x1.trans (x2.trans x3)
 refine⟨p,λ_=>rfl,c.ps,λ_=>h.ld x03 1 rfl,adP,λ_=>⟨haP,oM,oM⟩,P21[i].name,P21[i].v.ma,P21[i].v.mi,P21[i].v.pa,dP,eP,oP,λ_=>by rw[Int.toNat_natCast]; exact hcP _ x03,gCall.intro (Zcv P21[i]) (λ_ q hq=>SE.Zke.go (Zp4 (p:=P21[i]) (ht.ext x03) hNP (hdP.ext x03) (heP.ext x03) (hoP.ext x03) λw4 x4=>⟨_,rfl,hq w4 x4⟩)) λt64 w4 x4 h64=>bound ?_⟩
 have x04:=x03.trans x4
 have hb4:=hb2.ext (x3.trans x4)
 refine⟨p,λ_=>rfl,c.ps,λ_=>h.ld x04 1 rfl,adP,λ_=>⟨haP,oM,oM⟩,P21[i].name,λ_=>by rw[Int.toNat_natCast]; exact(hcP _ x04).pre rfl,_,λ_=>hb4.at0 xR rfl,bound ⟨p,λ_=>rfl,c.ps,λ_=>h.ld x04 1 rfl,adP,λ_=>⟨haP,oM,oM⟩,P21[i].v.ma,P21[i].v.mi,P21[i].v.pa,λ_=>by rw[Int.toNat_natCast]; exact(hcP _ x04).mid (k:=1) rfl,_,_,_,λ_=>hb4.at1 (k:=1) xR rfl,λhc=>?_,λ_=>⟨cs,hb4.at1 (k:=4) xR rfl,SE.Zf3.go (prises0 oM ⟨_,rfl,bound ⟨es,λ_=>hb4.at1 (k:=5) (r:=[]) xR rfl,gCall.intro true (λ_ q hq=>SE.Zf3.go (prises0 oM ⟨_,rfl,hq w4 xR⟩)) λt105 w6 x6 h105=>⟨λhq=>?_,λ_=> ?_⟩⟩⟩)⟩⟩⟩
 ·rcases hi2 with rfl|rfl
  ·cases hc
  ·rw[h64 rfl]at hc
   have e:(true&&((!Zcv k11|| !bEq n11 n11)|| !((u11.ma==u11.ma)&&((u11.mi==u11.mi)&&((u11.pa==u11.pa)&&true)))))=false:=by decide+kernel
   exact absurd (e.symm.trans hc) dC
 ·rw[h105 rfl]at hq; cases hq
 have x06:=x04.trans x6
 refine⟨es,hb4.at1 (k:=5) (r:=[]) x6 rfl,loop1.up hes.max (λj w'=>Ext w6 w') xR λj w7 nxt7 hj x7 hn7=>⟨λhlt7=>?_,λ_=>⟨cs,hb4.at1 (k:=4) (x6.trans x7) rfl,loop1.none λnxt=>⟨λh=>by omega,λ_=>hn oM w7 (x06.trans x7)⟩⟩⟩⟩
 have hjl:j<g21[i].edges.length:=oM
 obtain⟨ade,hade,_,hlde⟩:=Zyn hes hjl
 have he:=hel _ (List.getElem_mem hjl)
 have hlde:=λw' (x:Ext w w')=>(congrArg (λe:Edge=>ldc w' (ade.add (j*2)) [.string e.name,.int .i64 e.to]) he).mp (hlde w' x)
 have x07:=x06.trans x7
 refine⟨ade,⟨hade,oM,hlt7⟩,n11,1,by rw[Int.toNat_natCast]; exact hlde _ x07,newS.set rfl λa8 w8 x8 hb8 _=>bnd.drew λw9 x9=>?_⟩
 have x09:=x07.trans (x8.trans x9)
 exact⟨1,hb8.at1 (k:=1) (r:=[]) x9 rfl,bound ⟨1,λ_=>hb8.at1 (k:=1) (r:=[]) x9 rfl,bound ⟨p,λ_=>rfl,c.u,λ_=>h.ld0 x09,1,λ_=>hb8.at1 (k:=1) (r:=[]) x9 rfl,adm,λ_=>⟨hadm,by decide,by rw[hgl]; decide⟩,n11,λ_=>(hldm _ x09).pre rfl,n11,λ_=>hb8.at0 x9 rfl,λhq=>absurd hq (by rw[hgl]; decide+kernel),λ_=>hn7 hjl w9 (x7.trans (x8.trans x9))⟩⟩⟩
theorem Z8b{s:PlS}(h:s=pl0∨s=f21):Z44 g21 (Zss s.dirs 0) e21=2:=by rcases h with rfl|rfl<;>decide+kernel
theorem Zzw{SC S0:Nat→Prop}{cp ao:Addr}{r:Nat}{u so:Sl}{l1 l2:Int}{w:World}{R:Sl→Int→World→Prop}(ht:Tab w)(hcat:CatL w SC cp r [k11])(hS:Old S0 w)(hg:SlR nodeE w S0 u g21)(hoS:S0 ao.block)(hol:ldc w ao [Sl.v so])(hso:SlR dirE w S0 so [d21])
  (hR: ∀t w',Ext w w'→t.len=2→R t 0 w'):SE.Zhq u (some cp) l1 l2 9 99 (some ao) w R:=by
 unfold SE.Zhq
 have hgl:u.len=2:=hg.len
 refine newS.intro λa w1 x1 ha hab _=>newS.intro λa1 w2 x2 ha1 hab1 _=>newS.intro λa3 w3 x3 ha3 hab3 _=>bound ⟨9,λ_=>ha1.at1 (k:=2) x3 rfl,bound ⟨9,λ_=>ha1.at1 (k:=2) x3 rfl,bound ⟨99,λ_=>ha1.at1 (k:=3) (r:=[]) x3 rfl,bound ⟨99,λ_=>ha1.at1 (k:=3) (r:=[]) x3 rfl,(λhc=>by simp at hc),λhc=>bound ⟨ao,λ_=>rfl,so,λ_=>hol.ext (x1.trans (x2.trans x3)),?_⟩⟩⟩⟩⟩
 have x03:=x1.trans (x2.trans x3)
 have s1:=x1.size; have s2:=x2.size; have s3:=x3.size
 refine gCall.intro 0 (λ_ q hq=>SE.Zhd.go (Zly (hso.ext x03) λw4 x4=>⟨_,rfl,hq w4 x4⟩)) λt48 w15 x15 h48=>⟨λh=>?_,λ_=> ?_⟩
 ·rw[h48 rfl]at h; cases h
 refine⟨u,ha.at0 (r:=[]) (x2.trans (x3.trans x15)) rfl,l1,l2,9,99,ha1.at0 (r:=[]) (x3.trans x15) rfl,?_⟩
 refine newS.ownL (E:=dirE) (f:=λ_=> [Sl.nil.v,.string ⟨#[]⟩,.int .i64 0,.int .i64 0,.int .i64 0,Sl.nil.v,Sl.nil.v,Sl.nil.v,.int .i64 0]) (l:=[d21]) (λx hx w S=>by rw[List.mem_singleton.1 hx]; exact Zkz) rfl sI λa21 w4 x4 o4 hab21=>newS.intro λa23 w5 x5 hb5 hab23 hz23=>⟨u,ha.at0 (r:=[]) (x2.trans (x3.trans (x15.trans (x4.trans x5)))) rfl,?_⟩
 have x35:=x15.trans (x4.trans x5)
 have x05:=x03.trans x35
 have s15:=x15.size; have s4:=x4.size; have s5:=x5.size
 have l3:=ha3.lt
 have l1':=ha.lt
 have l23:=hb5.lt
 have l21:a21.block<w4.heap.size:=(o4.block rfl).2.1
 let c0:=λps:Sl=>(⟨u,ps,l1,l2,9,99,some ao,⟨some a21,1,1⟩,Sl.nil⟩:PC)
 refine loop1.up (N:=2) (by rw[Zb]; decide) (λi w'=>∃(ps:Sl) (Q:Nat→Prop),Ext w w'∧w5.heap.size≤w'.heap.size∧(∀b,b<w5.heap.size→b≠a23.block→w'.heap[b]? =w5.heap[b]?)∧BoxAt w' a23 (PC.c (c0 ps))∧OwnS packE 52 w' w5.heap.size Q ps (P21.take i)∧ ∀b,Q b→w5.heap.size≤b)
  ⟨Sl.nil,None',x05,Nat.le_refl _,λ_ _ _=>rfl,hb5,OwnS.zero w5,λ_ h=>h.elim⟩ λi w6 nxt hi ⟨ps,Q,x06,s6,kp6,hb6,o6,hQ6⟩ hnx=>⟨λhlt=>?_,λhge=>?_⟩
 ·have hi2:i<2:=oM
  have hil:i<g21.length:=hi2
  obtain⟨ad,ct,es,had,hst,_,_,hld⟩:=Zff (hg.ext x06) hil
  have htk:P21.take (i+1)=P21.take i++ [if i=0 then Ze1 else k11]:=by
   rcases(show i=0∨i=1 by omega)with rfl|rfl<;>rfl
  have hps:=o6.len
  have hpsl:(P21.take i).length=i:=by rw[List.length_take]; show min i 2=i; omega
  refine⟨ad,⟨had,oM,oM⟩,g21[i].name,g21[i].v.ma,g21[i].v.mi,g21[i].v.pa,ct,es,by rw[Int.toNat_natCast]; exact hld _ xR,newS.set rfl λa28 w7 x7 hb7 _=>newS.intro λa31 w8 x8 hb8 hab31 _=>join.named λJ2 hJ2=>?_⟩
  have x68:=x7.trans x8
  have s68:=x68.size
  have s7:=x7.size
  have key: ∀(w9:World) (n:ByteArray) (v:Ver) (d e o:Sl) (pk:Pack) (Q':Nat→Prop),Ext w6 w9→BoxAt w9 a31 [.string n,.int .i64 v.ma,.int .i64 v.mi,.int .i64 v.pa,d.v,e.v,o.v]→packE.rep w9 Q' pk [.string n,.int .i64 v.ma,.int .i64 v.mi,.int .i64 v.pa,d.v,e.v,o.v]→(∀b,Q' b→w6.heap.size≤b∧b<w9.heap.size)→pk=(if i=0 then Ze1 else k11)→J2 w9:=by
   subst hJ2
   intro w9 n v d e o pk Q' x69 hb9 hrep hQ' hpk
   refine bnd.drew λw10 x10=>⟨ps,hb6.at1 (k:=1) (x69.trans x10) rfl,n,v.ma,v.mi,v.pa,d,e,o,hb9.at0 (r:=[]) x10 rfl,newS.intro λa37 w11 x11 hb11 _ _=> ?_⟩
   have x911:=x10.trans x11
   have x611:=x69.trans x911
   have s611:=x611.size
   have s69:=x69.size
   have s911:=x911.size
   refine(o6.ext x611).push Zu5 oM (x:=pk) (S':=Q') (packE.keep hrep (x911.keep _)) (hb11.ldc.pre (r:=[]) rfl) (λb hb=>by have:=hQ' b hb; omega) (λad had hb=>by have:=(o6.block had).2.1; have:=hQ' _ hb; omega) (by rw[hpsl]; show _*112≤room; unfold room; omega) (by rw[hpsl,Zb]; omega) λr w12 o12 bel12 oth12 reg12=>?_
   have s12:=Below.size bel12
   have hne: ∀ad,ps.a=some ad→ad.block≠a23.block:=λad had=>by have:=(o6.block had).1; omega
   have hb12:BoxAt w12 a23 (PC.c (c0 ps)):=(hb6.ext x611).keep (S:=λb=>∀ad,ps.a=some ad→b≠ad.block) (λad had e=>hne ad had e.symm) λb hb hl=>oth12 b hl hb
   refine stw.intro (old:=PC.c (c0 ps)) hb12 (o:=1) (by show 1+1≤9; omega) λw13 b13 hz13 hb13=>?_
   have hrne: ∀ad,r.a=some ad→ad.block≠a23.block:=λad had=>by
    rcases reg12 ad had with q|q
    ·exact hne ad q
    ·omega
   have s13:=b13.1
   have x012:Ext w w12:=(x06.trans x611).trans' (bel12.mono oM)
   refine hnx hi2 w13 ⟨r,λb=>Q b∨Q' b,b13.ext x012 oM,oM,λb hb hbne=>?_,hb13,?_,λb hb=>?_⟩
   ·rw[b13.2.2.2.2 b oM hbne,bel12.block b hb,x611.block oM,kp6 b hb hbne]
   ·rw[htk,←hpk]
    exact o12.but b13 (λhb=>by
     rcases hb with hb|hb
     ·have:=hQ6 _ hb; omega
     ·have:=hQ' _ hb; omega) λad had=>Ne.symm (hrne ad had)
   ·rcases hb with hb|hb
    ·exact hQ6 b hb
    ·have:=hQ' b hb; omega
  clear hJ2
  refine⟨λh0=>?_,λh0=>?_⟩
  ·obtain rfl:i=1:=oM
   refine⟨_,hb7.at0 x8 rfl,_,_,_,hb7.at1 (k:=1) x8 rfl,?_⟩
   refine SE.Zam.go (Zjk (n:=n11) (v:=u11) (hcat.ext (x06.trans x68)) λd e o w9 x9 hN hd he ho=>⟨_,_,_,_,d,e,o,_,rfl,?_⟩)
   have l31:=hb8.lt
   have s9:=x9.size
   refine stw0.intro (hb8.ext x9) sI λw10 b10 hz10 hb10=>?_
   have x610:Ext w6 w10:=b10.ext (x68.trans x9) oM
   exact key w10 _ (getD [k11] n11 u11).v d e o (getD [k11] n11 u11) (λb=>w8.heap.size≤b∧b<w9.heap.size) x610 hb10 ⟨hN,d,e,o,rfl,hd.dep.but b10 oM,he.dep.but b10 oM,ho.dep.but b10 oM⟩ (λb hb=>⟨oM,oM⟩) (by decide+kernel)
  ·obtain rfl:i=0:=oM
   exact key w8 ⟨#[]⟩ ⟨0,0,0⟩ Sl.nil Sl.nil Sl.nil Ze1 None' x68 hb8 Zxv (λ_ h=>h.elim) rfl
 ·have hil:i=2:=oM
  subst hil
  have o6:OwnS packE 52 w6 w5.heap.size Q ps P21:=o6
  have rd6:=o6.read (by decide+kernel) (by decide+kernel)
  have kpS:Keep (λb=>b<w5.heap.size∧b≠a23.block) w5 w6:=λb hb _=>kp6 b hb.1 hb.2
  have hpsb: ∀ad,ps.a=some ad→w5.heap.size≤ad.block∧ad.block<w6.heap.size:=λad had=>⟨(o6.block had).1,(o6.block had).2.1⟩
  have oD:OwnS dirE 104 w6 w.heap.size None' ⟨some a21,1,1⟩ [d21]:=by
   have h1:=o4.ext x5
   refine OwnS.low (lo:=w15.heap.size) (h1.keep s6 λb hb hq=>?_) oM
   rcases hq with hq|⟨ad,had,rfl⟩
   ·exact hq.elim
   ·cases had
    exact kp6 _ hb oM
  have hbk: ∀{b:Addr} {cs:List Value},BoxAt w5 b cs→b.block≠a23.block→BoxAt w6 b cs:=λ{b cs} h hne=>h.keep (S:=λb=>b<w5.heap.size∧b≠a23.block) ⟨h.lt,hne⟩ kpS
  have ha6:=hbk (ha.ext (x2.trans (x3.trans x35))) oM
  have ha36:=hbk (ha3.ext x35) oM
  have hSb: ∀b,S0 b→b<w.heap.size:=hS
  have hol6:OldR w6 S0 Zri (some ao):=⟨hoS,so,hol.ext x06,hso.ext x06⟩
  have h0:Ml0 w6 w.heap.size a23 (λb=>b<w.heap.size∨(w5.heap.size≤b∧b<w6.heap.size)) (c0 ps) pl0:=by
   refine⟨hb6,oM,(hg.ext x06).mono λb hb=>.inl (hSb b hb),rd6.mono λb hb=>.inr ?_,hol6.mono λb hb=>.inl (hSb b hb),λb hb=>by have:=x06.size; omega,oM,⟨None',oD,(λh=>h),(λ_ h=>by cases h),(λ_ h=>h.elim)⟩,OwnS.nil _ _,λad had=>?_,(λad had=>by cases had),(λ_ _ _ h=>by cases h)⟩
   ·rcases hb with hb|⟨ad,had,rfl⟩
    ·exact⟨hQ6 b hb,o6.lt b hb⟩
    ·exact hpsb ad had
   ·cases had; exact⟨oM,oM⟩
  refine SE.Zec.go (Z2s (ht.ext x06) (h0.read dC dC) λw7 x7=>⟨_,rfl,nO,λ_=> ?_⟩)
  have h7:=MlV.ext h0 x7
  have x07:=x06.trans x7
  have ha7:=ha6.ext x7
  have ha37:=ha36.ext x7
  have keep: ∀{c w'},Mv w.heap.size a23 (c0 ps) w7 c w'→Ext w w'∧BoxAt w' a [u.v]∧BoxAt w' a3 [Sl.nil.v]∧c.u=u∧c.l3=9∧c.l4=99:=λ{c w'} m=>by
   refine⟨x07.trans' m.bel,m.box ha7 oM (λad h=>by cases h; omega) (λad h=>by cases h),m.box ha37 oM (λad h=>by cases h; omega) (λad h=>by cases h),?_,?_,?_⟩<;>rw[m.same]
  generalize (λb=>b<w.heap.size∨(w5.heap.size≤b∧b<w6.heap.size))=S at*
  refine loop1.ghost (λn vat w1=>∃(i:Nat) (c:PC) (s:PlS),vat=(i:Int)∧i≤2∧n=2 - i∧s=(if i=0 then pl0 else f21)∧Ml0 w1 w.heap.size a23 S c s∧Mv w.heap.size a23 (c0 ps) w7 c w1) 2
   ⟨0,c0 ps,pl0,rfl,oM,rfl,rfl,h7,Mv.of xR h7.lo_le⟩ λn vat w8 nxt8 ⟨i,c,s,hv,hi8,hn8,hs8,h8,m8⟩ hnx8=>?_
  subst hv
  have hsd:s.dirs.length=(if i=0 then 1 else 2)∧s.done.length≤1:=by rw[hs8]; split<;>exact⟨rfl,by decide⟩
  have hdl:c.dr.len=s.dirs.length:=Zqt (h8.read (by rw[hsd.1]; split<;>omega) hsd.2)
  refine⟨c.dr,h8.box.at1 (k:=7) xR rfl,λhlt8=>?_,λhge8=>?_⟩
  ·have hi1:i<2:=by rw[hdl,hsd.1]at hlt8; split at hlt8<;>omega
   have hil:i<g21.length:=hi1
   refine loop1.ghost (λn kind w2=>∃(k:Nat) (c':PC) (s':PlS),kind=(k:Int)∧1≤k∧k≤4∧n=4 - k∧s'=(if i=0∧k≤2 then pl0 else f21)∧Ml0 w2 w.heap.size a23 S c' s'∧Mv w.heap.size a23 (c0 ps) w7 c' w2) 3
    ⟨1,c,s,rfl,Nat.le_refl _,oM,rfl,by rw[hs8]; simp,h8,m8⟩ λn2 kind w9 nxt9 ⟨k,c',s',hk,hk1,hk4,hn2,hs9,h9,m9⟩ hnx9=>?_
   subst hk
   refine⟨λhk3=>bnd.drew λw10 x10=>?_,λhk3=>?_⟩
   ·obtain⟨_,kb,_,ku,kl3,kl4⟩:=keep m9
    have hs9':s'=pl0∨s'=f21:=by rw[hs9]; split; exact .inl rfl; exact .inr rfl
    have hsd9:s'.dirs.length≤2∧s'.done.length≤1∧i<s'.dirs.length:=by
     rw[hs9]
     split
     ·rename_i h; exact⟨by decide,by decide,by rw[h.1]; decide⟩
     ·exact⟨by decide,by decide,hi1⟩
    have hrd:=h9.read hsd9.1 hsd9.2.1
    obtain⟨ad,_,_,_,_,had,_,_,_,_,_,_,hcd⟩:=hrd.dirEl hsd9.2.2
    obtain⟨adu,ct,es,hua,_,_,hes,hldu⟩:=Zff h9.g hil
    have hnd:s'.dirs[i].node=i:=by
     rcases hs9' with rfl|rfl
     ·have:i=0:=by have:=hsd9.2.2; simp[pl0]at this; omega
      subst this; rfl
     ·rcases(show i=0∨i=1 by omega)with rfl|rfl<;>rfl
    rw[hnd]at hcd
    have hdl9:=Zqt hrd
    have hul:c'.u.len=2:=h9.g.len
    refine⟨u,kb.at0 (r:=[]) x10 rfl,c'.dr,h9.box.at1 (k:=7) x10 rfl,ad,⟨had,oM,oM⟩,(i:Int),by rw[Int.toNat_natCast]; exact(hcd _ x10).mid (k:=8) (r:=[]) rfl,adu,⟨by rw[←ku]; exact hua,oM,by rw[←ku]; omega⟩,es,by rw[Int.toNat_natCast]; exact(hldu _ x10).mid (k:=5) (r:=[]) rfl,?_⟩
    have hesl:=hes.len
    have nx: ∀{w':World} {c4:PC} {s4:PlS},s4=(if i=0∧k+1≤2 then pl0 else f21)→Ml0 w' w.heap.size a23 S c4 s4→Mv w.heap.size a23 (c0 ps) w7 c4 w'→nxt9 (Za ((k:Int)+1)) w':=λq1 q2 q3=>by
     refine hnx9 (4 - (k+1)) _ _ oM ⟨k+1,_,_,?_,oM,oM,rfl,q1,q2,q3⟩
     rw[Zc oM oM]; omega
    have m10:=m9.trans (Mv.of x10 h9.lo_le)
    rcases(show i=0∨i=1 by omega)with rfl|rfl
    ·have hesl:es.len=1:=hesl
     refine loop1.once (λj v=>j=1∧ ∃c4,Ml0 v w.heap.size a23 S c4 (if k+1≤2 then pl0 else f21)∧Mv w.heap.size a23 (c0 ps) w7 c4 v) (λnxt hn=>⟨λhlt=>join.named λJ hJ=>?_,λh=>by omega⟩) λj v nxt ⟨hj,c4,q1,q2⟩=>⟨λh=>by omega,λ_=>nx sI q1 q2⟩
     obtain⟨ade,hade,_,hlde⟩:=Zyn hes (n:=0) (by show 0<1; decide)
     refine⟨ade,⟨hade,oM,hlt⟩,n11,1,hlde _ x10,newS.set rfl λa77 w11 x11 hb11 _=>⟨n11,1,hb11.at0 (r:=[]) xR rfl,SE.Zdr.go (Z2q (i:=0) (e:=e21) (hrd.ext (x10.trans x11)) hsd9.2.2 (by rcases hs9' with rfl|rfl<;>decide) strA dC λw12 x12=>?_)⟩⟩
     rw[Z8b hs9']
     have x912:=x10.trans (x11.trans x12)
     rw[hJ]
     refine⟨_,rfl,λhk=>hn _ _ ⟨rfl,c',?_,m9.trans (Mv.of x912 h9.lo_le)⟩,λhk=>⟨n11,1,hb11.at0 (r:=[]) x12 rfl,?_⟩⟩
     ·have e:s'=(if k+1≤2 then pl0 else f21):=by
       rw[hs9]
       have:k≠2:=λh=>hk (by rw[h])
       by_cases h1:k≤1
       ·rw[if_pos ⟨rfl,oM⟩,if_pos oM]
       ·rw[if_neg oM,if_neg oM]
      rw[←e]; exact MlV.ext h9 x912
     ·obtain rfl:k=2:=by have:=Classical.not_not.1 hk; omega
      have e:s'=pl0:=by rw[hs9]; rfl
      subst e
      exact SE.Zdp.go (Z1q (MlV.ext h9 x912) kl3 kl4 λc5 w13 h13 m13=>⟨0,rfl,λh=>absurd rfl h,λ_=>hn _ _ ⟨rfl,c5,h13,(m9.trans (Mv.of x912 h9.lo_le)).trans m13⟩⟩)
    ·have hesl:es.len=0:=hesl
     exact loop1.none λnxt=>⟨λh=>by omega,λ_=>nx (by rw[hs9]; simp) (MlV.ext h9 x10) m10⟩
   ·refine hnx8 (2 - (i+1)) _ w9 oM ⟨i+1,c',s',?_,oM,rfl,?_,h9,m9⟩
    ·rw[Zc oM oM]; omega
    ·rw[hs9,if_neg oM,if_neg oM]
  ·have hi2:i=2:=by rw[hdl,hsd.1]at hge8; split at hge8<;>omega
   subst hi2
   have hs8:s=f21:=hs8
   subst hs8
   obtain⟨D,o,hDp,hDs,hDl⟩:=h8.dr
   obtain⟨kx,_,kb3,_,_,_⟩:=keep m8
   refine⟨c.dr,h8.box.at1 (k:=7) xR rfl,Z0i o h8.lo_le dC (λd hd=>?_) Zr1 (λw' S' x y hx hy=>Zsz hx hy) λl' w9 hp hs bel oth hrd=>⟨rfl,c.dr,?_,?_⟩⟩
   ·have hd:d∈ [(⟨[],Ze1,0⟩:Dir),⟨[n11],k11,1⟩]:=hd
    simp only[List.mem_cons,List.not_mem_nil,or_false]at hd
    rcases hd with rfl|rfl<;>decide
   ·have:BoxAt w9 a23 c.c:=h8.box.keep (S:=λb=>∀ad,c.dr.a=some ad→b≠ad.block) (λad ha e=>(h8.drP ad ha).1 e.symm) λb hb hl=>oth b hl hb
    exact this.at1 (k:=7) xR rfl
   ·have kb3':BoxAt w9 a3 [Sl.nil.v]:=kb3.keep (S:=λb=>∀ad,c.dr.a=some ad→b≠ad.block) (λad ha e=>by
     rcases m8.dr ad ha with q|q
     ·cases q; omega
     ·have:=ha37.lt; omega) λb hb hl=>oth b hl hb
    exact stw0.intro kb3' sI λw10 b10 _ hb10=>⟨c.dr,hb10.ldc.pre (r:=[]) rfl,hR c.dr w10 (b10.ext (kx.trans' bel) oM) hdl⟩
theorem Z6x{SC:Nat→Prop}{cp:Addr}{r:Nat}{op k n:Int}{rg pk:ByteArray}{g t:Sl}{S:Nat→Prop}{w:World}{R:Sl→Sl→Sl→Sl→Sl→Sl→Bool→Int→Int→Int→Int→World→Prop}
  (hg:Gl w) (hop:op=4∨op=3∧k=0∧rg=star0) (hS:Old S w) (hG:SlR nodeE w S g [rootNode]) (hT:SlR dirE w S t [d21]) (hcat:CatL w SC cp r [k11])
  (hR: ∀d e o v g' u w',Ext w w'→(op≠4→u.len=2)→R d e o v g' u false (if op=4 then 50 else 0) (if op=4 then 0 else 1) (if op=4 then 0 else 2) (if op=4 then 0 else 1) w'):
  SE.Zlr Sl.nil Sl.nil Sl.nil Sl.nil g t false (some cp) op n11 rg k pk n 9 9 9 99 w R:=by
 unfold SE.Zlr
 refine newS.intro λa w1 x1 ha hab _=>newS.intro λa1 w2 x2 h1 h1b _=>newS.intro λa3 w4 x4 h3 h3b _=>newS.intro λa5 w6 x6 h5 h5b _=>newS.intro λa7 w8 x8 h7 h7b _=> ?_
 have x28:=x4.trans (x6.trans x8)
 have x18:=x2.trans x28
 have x08:=x1.trans x18
 have s1:=x1.size; have s2:=x2.size; have s4:=x4.size; have s6:=x6.size; have s8:=x8.size
 have ab:=ha.lt; have a3b:=h3.lt; have a5b:=h5.lt; have a7b:=h7.lt
 refine⟨_,_,_,_,_,_,_,(ha.ext x18).at0 (r:=[]) xR rfl,SE.Zhh.go (Zyy (hg.ext x08).tab (hT.ext x08) (hG.ext x08) λw9 x9=>⟨_,_,rfl,bound ⟨9,9,9,99,λ_=>(h3.ext (x6.trans (x8.trans x9))).at0 (r:=[]) xR rfl,gCall.intro true (λ_ q hq=>SE.Zgh.go (plim_se λb w' hx hb=>⟨_,rfl,?_⟩)) λt26 w11 x11 ht=>bound ⟨λh=>?_,λ_=> ?_⟩⟩⟩)⟩
 ·have:b=true:=hb.2 ⟨by decide,by decide,by decide,by decide,by decide,by decide,by decide,by decide⟩
  rw[this]; exact hq w' hx
 ·rw[ht rfl]at h; cases h
 have x811:=x9.trans x11
 have x011:=x08.trans x811
 have q811:=x811.size
 refine⟨_,_,_,_,_,_,_,(ha.ext (x18.trans x811)).at0 (r:=[]) xR rfl,_,_,_,_,_,_,(h1.ext (x28.trans x811)).at0 (r:=[]) xR rfl,SE.Zfn.go (Z2p (S:=S) (hg.ext x011) hop (hG.ext x011) λd' e' o' v' pt old pr w22 x22 hcmd=>⟨_,_,_,_,_,_,_,_,rfl,newS.intro λa25 w26 x26 h25 h25b _=>stw0.intro h25 sI λw27 b27 _ h27=>⟨λhc=>?_,λhc=>?_⟩⟩)⟩
 all_goals
  have y27:Ext w22 w27:=b27.ext x26 oM
  have x827:=(x811.trans x22).trans y27
  have q22:=x22.size; have q27:=y27.size; have q827:=x827.size
  have x027:=x08.trans x827
 ·have h4:op=4:=Classical.byContradiction λh=>hc (if_neg h)
  subst h4
  refine⟨_,_,_,_,_,_,_,(ha.ext (x18.trans x827)).at0 (r:=[]) xR rfl,stw0.intro (h5.ext (x8.trans x827)) sI λw9' b9 _ h9=>stw0.intro (b9.box (h7.ext x827) oM) sI λw10 b10 _ h10=>⟨_,_,_,_,_,_,_,(b10.box h9 oM).at0 xR rfl,_,_,_,_,h10.at0 xR rfl,?_⟩⟩
  have z9:=b9.1
  exact hR _ _ _ _ _ _ w10 (b10.ext (b9.ext x027 oM) oM) λh=>absurd rfl h
 ·have h4:op≠4:=λh=>hc (by rw[if_pos h]; decide)
  rw[if_neg h4]at hcmd
  simp only[if_neg h4]at hR
  obtain⟨hj,rfl,rfl,rfl,rfl,rfl,ao,rfl,ao1,ao2,hao⟩:=hcmd rfl
  let S2:=λb=>S b∨(w11.heap.size≤b∧b<w22.heap.size)
  have hO:Old S2 w27:=λb hb=>hb.elim (λh=>by have:=hS b h; omega) λh=>by omega
  have hm:SlR depE w27 S2 d' m11.deps:=(SlR.ext hj y27).mono λb hb=>.inr hb
  refine⟨_,_,_,_,h27.at0 xR rfl,_,h27.at1 xR rfl,_,h27.at1 xR rfl,9,9,9,99,(h3.ext (x6.trans (x8.trans x827))).at0 (r:=[]) xR rfl,SE.Zci.go (Zod (L:=[k11]) (m:=m11) (dev:=true) (pins:=[]) (SA:=S2) (hg.ext x027).tab hO (hcat.ext x027) hm (SlR.nil trivial) (SlR.nil trivial) (SlR.nil trivial) (SlR.nil trivial) λnds w48 x48 hnds=>?_)⟩
  obtain⟨k1,k2,_⟩:=Z18
  have hk:Zjz [k11] m11 true [] 9 9=known11:=rfl
  rw[hk]at hnds ⊢
  rw[ns21]at hnds
  rw[k1,k2]
  refine⟨_,_,_,rfl,newS.intro λa51 w52 x52 h51 h51b _=>stw0.intro h51 sI λw53 b53 _ h53=>⟨λh=>absurd rfl h,λ_=> ?_⟩⟩
  have y53:Ext w48 w53:=b53.ext x52 oM
  have x853:=(x827.trans x48).trans y53
  have q53:=y53.size; have q48:=x48.size; have q853:=x853.size
  have x053:=x08.trans x853
  have x2753:Ext w27 w53:=x48.trans y53
  have h2553:=h27.ext x2753
  have hnd:SlR nodeE w53 (λb=>b<w48.heap.size) nds g21:=(hnds.ext y53).mono λb hb=>by omega
  have hnl:nds.len=2:=hnd.len
  refine⟨_,h53.at0 xR rfl,9,9,9,99,(h3.ext (x6.trans (x8.trans x853))).at0 (r:=[]) xR rfl,_,h2553.at1 xR rfl,SE.Zhq.go (Zzw (hg.ext x053).tab (hcat.ext x053) (S0:=λb=>b<w48.heap.size) (λb hb=>by omega) hnd oM (hao.ext (y27.trans x2753)) ((hT.ext x053).mono λb hb=>by have:=hS b hb; omega) λt w73 x73 htl=>⟨_,_,rfl,newS.intro λa76 w77 x77 h76 h76b _=>stw0.intro h76 sI λw78 b78 _ h78=>⟨λh=>absurd rfl h,λ_=>join.named λJ hJ=>bnd.drew λw80 x80=>?_⟩⟩)⟩
  have q73:=x73.size
  have y78:Ext w73 w78:=b78.ext x77 oM
  have y5380:Ext w53 w80:=(x73.trans y78).trans x80
  have x880:=x853.trans y5380
  have s880:=x880.size; have s5380:=y5380.size
  have q5:=h5.ext (x8.trans x880)
  have q7:=h7.ext x880
  have key: ∀{wb wc:World},But a5.block w80 wb→BoxAt wb a5 [Sl.v d',Sl.v Sl.nil,Sl.v Sl.nil,Sl.v Sl.nil,Sl.v nds,Sl.v t,.bool false]→But a7.block wb wc→BoxAt wc a7 [.int .i64 0,.int .i64 1,.int .i64 (nds.len:Int),.int .i64 (Za ((t.len:Int) - 1))]→J wc:=by
   subst hJ
   intro wb wc bb kb bc kc
   have zb:=bb.1
   rw[hnl,htl]at kc
   exact⟨_,_,_,_,_,_,_,(bc.box kb oM).at0 xR rfl,0,1,2,1,kc.at0 xR rfl,hR _ _ _ _ _ _ wc (bc.ext (bb.ext (x08.trans x880) oM) oM) λ_=>htl⟩
  have r51: ∀{wb:World},But a5.block w80 wb→BoxAt wb a51 [Sl.v nds]:=λb=>b.box (h53.ext y5380) oM
  have r76: ∀{wb:World},But a5.block w80 wb→BoxAt wb a76 [Sl.v t]:=λb=>b.box (h78.ext x80) oM
  have st5: ∀{K:World→Prop},(∀wb,But a5.block w80 wb→BoxAt wb a5 [Sl.v d',Sl.v Sl.nil,Sl.v Sl.nil,Sl.v Sl.nil,Sl.v nds,Sl.v t,.bool false]→K wb)→stw w80 a5 [Sl.v d',Sl.v Sl.nil,Sl.v Sl.nil,Sl.v Sl.nil,Sl.v nds,Sl.v t,.bool false] K:=λhK=>stw0.intro q5 sI λwb b _ hb=>hK wb b hb
  have st7: ∀{wb:World},But a5.block w80 wb→BoxAt wb a5 [Sl.v d',Sl.v Sl.nil,Sl.v Sl.nil,Sl.v Sl.nil,Sl.v nds,Sl.v t,.bool false]→stw wb a7 [.int .i64 0,.int .i64 1,.int .i64 (nds.len:Int),.int .i64 (Za ((t.len:Int) - 1))] λwc=>J wc:=λb hb=>stw0.intro (b.box q7 oM) sI λwc bc _ hc=>key b hb bc hc
  have g51:=(h53.ext y5380).at0 (r:=[]) xR rfl
  have g76:=(h78.ext x80).at0 (r:=[]) xR rfl
  refine⟨_,_,_,_,(h2553.ext y5380).at0 xR rfl,nds,g51,t,g76,_,(h2553.ext y5380).at1 xR rfl,?_⟩
  refine⟨⟨nds,g51,⟨t,g76,st5 λwb b hb=>st7 b hb⟩,st5 λwb b hb=>⟨t,(r76 b).at0 (r:=[]) xR rfl,st7 b hb⟩⟩,⟨t,g76,⟨nds,g51,st5 λwb b hb=>st7 b hb⟩,st5 λwb b hb=>⟨nds,(r51 b).at0 (r:=[]) xR rfl,st7 b hb⟩⟩,st5 λwb b hb=>?_⟩
  exact⟨nds,(r51 b).at0 (r:=[]) xR rfl,t,(r76 b).at0 (r:=[]) xR rfl,st7 b hb⟩
theorem Z3r{op kd n:Int}{rg pk:ByteArray}{SC:Nat→Prop}{p:Addr}{r:Nat}{w:World}{g t:Sl}{K:Value→World→Prop}(hg:Gl w)(hcat:CatL w SC p r [k11])(hE:Emp w g t)(hop:op=4∨op=3∧kd=0∧rg=star0)
  (k: ∀d e o v g' u w',Ext w w'→(op≠4→u.len=2)→K (.tuple #[.agg #[Sl.v d,Sl.v e,Sl.v o,Sl.v v,Sl.v g',Sl.v u,.bool false],.agg #[.int .i64 (if op=4 then 50 else 0),.int .i64 (if op=4 then 0 else 1),.int .i64 (if op=4 then 0 else 2),.int .i64 (if op=4 then 0 else 1)]]) w'):
  callS prog 12 [.agg #[Sl.v Sl.nil,Sl.v Sl.nil,Sl.v Sl.nil,Sl.v Sl.nil,Sl.v g,Sl.v t,.bool false],.pointer (some p),.agg #[.int .i64 op,.string n11,.string rg,.int .i64 kd,.string pk,.int .i64 n],.agg #[.int .i64 9,.int .i64 9,.int .i64 9,.int .i64 99]] w K:=
 SE.Zlr.go (Z6x (S:=λb=>b<w.heap.size) hg hop (λb hb=>hb) hE.g hE.t hcat k)
theorem Zg2{wB w:World}{a b:Addr}{za zb ca cb:List Value}{J:World→Prop}(x:Ext wB w)(ha:BoxAt w a za)(hb:BoxAt w b zb)(la:ca.length=za.length)(lb:cb.length=zb.length)(h1:wB.heap.size≤a.block)(h2:wB.heap.size≤b.block)(hne:a.block≠b.block)
  (k: ∀w',Ext wB w'→BoxAt w' a ca→BoxAt w' b cb→J w'):stw w a ca λw1=>stw w1 b cb J:=by
 refine stw0.intro ha (Nat.le_of_eq la) λw1 b1 hz1 k1=>?_
 have y1:=b1.ext x h1
 refine stw0.intro (b1.box hb (λe=>hne e.symm)) (Nat.le_of_eq lb) λw2 b2 hz2 k2=>?_
 rw[la,List.drop_length,List.append_nil]at k1
 rw[lb,List.drop_length,List.append_nil]at k2
 exact k w2 (b2.ext y1 h2) (b2.box k1 hne) k2
theorem Zwy{w:World}{R:Bool→World→Prop}(hg:Gl w)(hR: ∀w',Ext w w'→R true w'):SE.Zcy w R:=by
 unfold SE.Zcy
 refine newS.intro λa w1 x1 ha hab _=> ?_
 have hp:=Zjj (E:=packE) (S:=None') (x:=k11) ha ⟨strA,Sl.nil,Sl.nil,Sl.nil,rfl,SlR.nil trivial,SlR.nil trivial,SlR.nil trivial⟩ dC
 have l1:=ha.lt
 refine SE.Zcl.go (Zro (lp:=[k11]) (hg.ext x1).tab (λb hb=>?_) hp λp r q w2 x2 hB=>⟨_,_,rfl,nO,λ_=>newS.intro λa2 w3 x3 h2 h2b _=>stw0.intro h2 sI λw4 b4 hz4 h4=>?_⟩)
 ·rcases hb with hb|rfl
  ·exact hb.elim
  ·exact l1
 have ecat:Zo1 [k11]= [k11]:=by
  have:=Z43
  exact this
 rw[ecat]at hB
 obtain⟨⟨SC,hcat,_,_⟩,_⟩:=hB
 have s1:=x1.size; have s2:=x2.size; have s3:=x3.size
 have x24:Ext w2 w4:=b4.ext x3 oM
 have x04:=(x1.trans x2).trans x24
 have hg4:=hg.ext x04
 have hc4:=hcat.ext x24
 have h4:BoxAt w4 a2 [.int .i64 9,.int .i64 9,.int .i64 9,.int .i64 99]:=h4
 clear ha hab hp l1 hcat h2 h2b x24 s1 s2 s3 x1 x2 x3 b4 hz4 ecat hg
 have hEmp: ∀{wX:World} {K:Value→World→Prop},(∀g t w',Ext wX w'→Emp w' g t→wX.heap.size≤w'.heap.size→K (.agg #[Sl.v Sl.nil,Sl.v Sl.nil,Sl.v Sl.nil,Sl.v Sl.nil,Sl.v g,Sl.v t,.bool false]) w')→callX prog 13 [] wX K:=λhK=>callX.intro (SE.Zc4.go (refEmpty_se λg t w' x h=>⟨x,hK g t w' x h x.size⟩))
 have hAdd: ∀{wX:World} {g t:Sl} {K:Value→World→Prop},Ext w4 wX→Emp wX g t→(∀d e o v g' u w',Ext wX w'→u.len=2→wX.heap.size≤w'.heap.size→K (.tuple #[.agg #[Sl.v d,Sl.v e,Sl.v o,Sl.v v,Sl.v g',Sl.v u,.bool false],.agg #[.int .i64 0,.int .i64 1,.int .i64 2,.int .i64 1]]) w')→
   callS prog 12 [.agg #[Sl.v Sl.nil,Sl.v Sl.nil,Sl.v Sl.nil,Sl.v Sl.nil,Sl.v g,Sl.v t,.bool false],.pointer (some p),.agg #[.int .i64 3,.string (ByteArray.mk #[97]),.string (ByteArray.mk #[42]),.int .i64 0,.string (ByteArray.mk #[]),.int .i64 0],.agg #[.int .i64 9,.int .i64 9,.int .i64 9,.int .i64 99]] wX K:=λ{wX g t K} x hE hK=>
  Z3r (hg4.ext x) (hc4.ext x) hE (.inr ⟨rfl,rfl,rfl⟩) λd e o v g' u w' x' hl=>hK d e o v g' u w' x' (hl dC) x'.size
 have hRem: ∀{wX:World} {g t:Sl} {K:Value→World→Prop},Ext w4 wX→Emp wX g t→(∀d e o v g' u w',Ext wX w'→True→wX.heap.size≤w'.heap.size→K (.tuple #[.agg #[Sl.v d,Sl.v e,Sl.v o,Sl.v v,Sl.v g',Sl.v u,.bool false],.agg #[.int .i64 50,.int .i64 0,.int .i64 0,.int .i64 0]]) w')→
   callS prog 12 [.agg #[Sl.v Sl.nil,Sl.v Sl.nil,Sl.v Sl.nil,Sl.v Sl.nil,Sl.v g,Sl.v t,.bool false],.pointer (some p),.agg #[.int .i64 4,.string (ByteArray.mk #[97]),.string (ByteArray.mk #[]),.int .i64 0,.string (ByteArray.mk #[]),.int .i64 0],.agg #[.int .i64 9,.int .i64 9,.int .i64 9,.int .i64 99]] wX K:=λ{wX g t K} x hE hK=>
  Z3r (hg4.ext x) (hc4.ext x) hE (.inl rfl) λd e o v g' u w' x' hl=>hK d e o v g' u w' x' trivial x'.size
 clear hg4 hc4
 refine join.named λJ1 hJ1=>?_
 have k1: ∀(vs a5:Addr) (w6:World),Ext w4 w6→(∃(d e o v g t:Sl) (pr:Bool),BoxAt w6 vs [Sl.v d,Sl.v e,Sl.v o,Sl.v v,Sl.v g,Sl.v t,.bool pr]∧t.len=2)→BoxAt w6 a5 [.int .i64 0,.int .i64 1,.int .i64 2,.int .i64 1]→J1 vs a5 w6:=by
  subst hJ1
  intro vs a5 w6 x6 ⟨d,e,o,v,g,t,pr,h6,ht⟩ h5
  refine join.named λJ2 hJ2=>?_
  have k2: ∀(b:Addr) (w7:World),Ext w6 w7→BoxAt w7 b [.int .i64 50,.int .i64 0,.int .i64 0,.int .i64 0]→J2 b w7:=by
   subst hJ2
   intro b w7 x7 h7
   refine⟨0,1,2,1,(h5.ext x7).at0 (r:=[]) xR rfl,bound ⟨t,λ_=>(h6.ext x7).at1 (k:=5) xR rfl,bound ⟨50,0,0,0,λ_=>h7.at0 (r:=[]) xR rfl,?_⟩⟩⟩
   have hr:=hR w7 (x04.trans (x6.trans x7))
   rw[ht]
   exact hr
  clear hJ2 hR h6 h5 ht hAdd
  refine bnd.drew λw7 x7=>⟨9,9,9,99,(h4.ext (x6.trans x7)).at0 (r:=[]) xR rfl,?_⟩
  have s7:=x7.size
  clear h4 x04
  exact⟨(hEmp λg101 t101 w101 x101 h101 s101=>⟨_,_,_,_,_,_,_,rfl,⟨(hRem (x6.trans (x7.trans (x101))) (h101.ext xR) λd102 e102 o102 v102 f102 u102 w102 x102 l102 s102=>⟨_,_,_,_,_,_,_,_,_,_,_,rfl,⟨(newS.intro λa103 w103 x103 h103 b103 z103=>(newS.intro λa104 w104 x104 h104 b104 z104=>(Zg2 (x7.trans (x101.trans (x102.trans (x103.trans (x104))))) (h103.ext (x104)) (h104.ext xR) rfl rfl oM oM oM λw x ha hb=>k2 _ w x hb))),(newS.intro λa106 w106 x106 h106 b106 z106=>(newS.intro λa107 w107 x107 h107 b107 z107=>(Zg2 (x7.trans (x101.trans (x102.trans (x106.trans (x107))))) (h107.ext xR) (h106.ext (x107)) rfl rfl oM oM oM λw x ha hb=>k2 _ w x hb)))⟩⟩),(newS.intro λa109 w109 x109 h109 b109 z109=>⟨(hRem (x6.trans (x7.trans (x101.trans (x109)))) (h101.ext (x109)) λd110 e110 o110 v110 f110 u110 w110 x110 l110 s110=>⟨_,_,_,_,_,_,_,_,_,_,_,rfl,(newS.intro λa111 w111 x111 h111 b111 z111=>(Zg2 (x7.trans (x101.trans (x109.trans (x110.trans (x111))))) (h109.ext (x110.trans (x111))) (h111.ext xR) rfl rfl oM oM oM λw x ha hb=>k2 _ w x hb))⟩),(newS.intro λa113 w113 x113 h113 b113 z113=>(hRem (x6.trans (x7.trans (x101.trans (x109.trans (x113))))) (h101.ext (x109.trans (x113))) λd114 e114 o114 v114 f114 u114 w114 x114 l114 s114=>⟨_,_,_,_,_,_,_,_,_,_,_,rfl,(Zg2 (x7.trans (x101.trans (x109.trans (x113.trans (x114))))) (h109.ext (x113.trans (x114))) (h113.ext (x114)) rfl rfl oM oM oM λw x ha hb=>k2 _ w x hb)⟩))⟩),(newS.intro λa116 w116 x116 h116 b116 z116=>⟨(hRem (x6.trans (x7.trans (x101.trans (x116)))) (h101.ext (x116)) λd117 e117 o117 v117 f117 u117 w117 x117 l117 s117=>⟨_,_,_,_,_,_,_,_,_,_,_,rfl,(newS.intro λa118 w118 x118 h118 b118 z118=>(Zg2 (x7.trans (x101.trans (x116.trans (x117.trans (x118))))) (h118.ext xR) (h116.ext (x117.trans (x118))) rfl rfl oM oM oM λw x ha hb=>k2 _ w x hb))⟩),(newS.intro λa120 w120 x120 h120 b120 z120=>(hRem (x6.trans (x7.trans (x101.trans (x116.trans (x120))))) (h101.ext (x116.trans (x120))) λd121 e121 o121 v121 f121 u121 w121 x121 l121 s121=>⟨_,_,_,_,_,_,_,_,_,_,_,rfl,(Zg2 (x7.trans (x101.trans (x116.trans (x120.trans (x121))))) (h120.ext (x121)) (h116.ext (x120.trans (x121))) rfl rfl oM oM oM λw x ha hb=>k2 _ w x hb)⟩))⟩)⟩⟩),(newS.intro λa123 w123 x123 h123 b123 z123=>⟨(hEmp λg124 t124 w124 x124 h124 s124=>⟨_,_,_,_,_,_,_,rfl,⟨(hRem (x6.trans (x7.trans (x123.trans (x124)))) (h124.ext xR) λd125 e125 o125 v125 f125 u125 w125 x125 l125 s125=>⟨_,_,_,_,_,_,_,_,_,_,_,rfl,(newS.intro λa126 w126 x126 h126 b126 z126=>(Zg2 (x7.trans (x123.trans (x124.trans (x125.trans (x126))))) (h123.ext (x124.trans (x125.trans (x126)))) (h126.ext xR) rfl rfl oM oM oM λw x ha hb=>k2 _ w x hb))⟩),(newS.intro λa128 w128 x128 h128 b128 z128=>(hRem (x6.trans (x7.trans (x123.trans (x124.trans (x128))))) (h124.ext (x128)) λd129 e129 o129 v129 f129 u129 w129 x129 l129 s129=>⟨_,_,_,_,_,_,_,_,_,_,_,rfl,(Zg2 (x7.trans (x123.trans (x124.trans (x128.trans (x129))))) (h123.ext (x124.trans (x128.trans (x129)))) (h128.ext (x129)) rfl rfl oM oM oM λw x ha hb=>k2 _ w x hb)⟩))⟩⟩),(newS.intro λa131 w131 x131 h131 b131 z131=>(hEmp λg132 t132 w132 x132 h132 s132=>⟨_,_,_,_,_,_,_,rfl,(hRem (x6.trans (x7.trans (x123.trans (x131.trans (x132))))) (h132.ext xR) λd133 e133 o133 v133 f133 u133 w133 x133 l133 s133=>⟨_,_,_,_,_,_,_,_,_,_,_,rfl,(Zg2 (x7.trans (x123.trans (x131.trans (x132.trans (x133))))) (h123.ext (x131.trans (x132.trans (x133)))) (h131.ext (x132.trans (x133))) rfl rfl oM oM oM λw x ha hb=>k2 _ w x hb)⟩)⟩))⟩),(newS.intro λa135 w135 x135 h135 b135 z135=>⟨(hEmp λg136 t136 w136 x136 h136 s136=>⟨_,_,_,_,_,_,_,rfl,⟨(hRem (x6.trans (x7.trans (x135.trans (x136)))) (h136.ext xR) λd137 e137 o137 v137 f137 u137 w137 x137 l137 s137=>⟨_,_,_,_,_,_,_,_,_,_,_,rfl,(newS.intro λa138 w138 x138 h138 b138 z138=>(Zg2 (x7.trans (x135.trans (x136.trans (x137.trans (x138))))) (h138.ext xR) (h135.ext (x136.trans (x137.trans (x138)))) rfl rfl oM oM oM λw x ha hb=>k2 _ w x hb))⟩),(newS.intro λa140 w140 x140 h140 b140 z140=>(hRem (x6.trans (x7.trans (x135.trans (x136.trans (x140))))) (h136.ext (x140)) λd141 e141 o141 v141 f141 u141 w141 x141 l141 s141=>⟨_,_,_,_,_,_,_,_,_,_,_,rfl,(Zg2 (x7.trans (x135.trans (x136.trans (x140.trans (x141))))) (h140.ext (x141)) (h135.ext (x136.trans (x140.trans (x141)))) rfl rfl oM oM oM λw x ha hb=>k2 _ w x hb)⟩))⟩⟩),(newS.intro λa143 w143 x143 h143 b143 z143=>(hEmp λg144 t144 w144 x144 h144 s144=>⟨_,_,_,_,_,_,_,rfl,(hRem (x6.trans (x7.trans (x135.trans (x143.trans (x144))))) (h144.ext xR) λd145 e145 o145 v145 f145 u145 w145 x145 l145 s145=>⟨_,_,_,_,_,_,_,_,_,_,_,rfl,(Zg2 (x7.trans (x135.trans (x143.trans (x144.trans (x145))))) (h143.ext (x144.trans (x145))) (h135.ext (x143.trans (x144.trans (x145)))) rfl rfl oM oM oM λw x ha hb=>k2 _ w x hb)⟩)⟩))⟩)⟩
 clear hJ1 hRem hR
 refine bnd.drew λw7 x7=>⟨9,9,9,99,(h4.ext x7).at0 (r:=[]) xR rfl,?_⟩
 have s7:=x7.size
 clear h4 x04
 exact⟨(hEmp λg101 t101 w101 x101 h101 s101=>⟨_,_,_,_,_,_,_,rfl,⟨(hAdd (x7.trans (x101)) (h101.ext xR) λd102 e102 o102 v102 f102 u102 w102 x102 l102 s102=>⟨_,_,_,_,_,_,_,_,_,_,_,rfl,⟨(newS.intro λa103 w103 x103 h103 b103 z103=>(newS.intro λa104 w104 x104 h104 b104 z104=>(Zg2 (x7.trans (x101.trans (x102.trans (x103.trans (x104))))) (h103.ext (x104)) (h104.ext xR) rfl rfl oM oM oM λw x ha hb=>k1 _ _ w x ⟨_,_,_,_,_,_,_,ha,l102⟩ hb))),(newS.intro λa106 w106 x106 h106 b106 z106=>(newS.intro λa107 w107 x107 h107 b107 z107=>(Zg2 (x7.trans (x101.trans (x102.trans (x106.trans (x107))))) (h107.ext xR) (h106.ext (x107)) rfl rfl oM oM oM λw x ha hb=>k1 _ _ w x ⟨_,_,_,_,_,_,_,ha,l102⟩ hb)))⟩⟩),(newS.intro λa109 w109 x109 h109 b109 z109=>⟨(hAdd (x7.trans (x101.trans (x109))) (h101.ext (x109)) λd110 e110 o110 v110 f110 u110 w110 x110 l110 s110=>⟨_,_,_,_,_,_,_,_,_,_,_,rfl,(newS.intro λa111 w111 x111 h111 b111 z111=>(Zg2 (x7.trans (x101.trans (x109.trans (x110.trans (x111))))) (h109.ext (x110.trans (x111))) (h111.ext xR) rfl rfl oM oM oM λw x ha hb=>k1 _ _ w x ⟨_,_,_,_,_,_,_,ha,l110⟩ hb))⟩),(newS.intro λa113 w113 x113 h113 b113 z113=>(hAdd (x7.trans (x101.trans (x109.trans (x113)))) (h101.ext (x109.trans (x113))) λd114 e114 o114 v114 f114 u114 w114 x114 l114 s114=>⟨_,_,_,_,_,_,_,_,_,_,_,rfl,(Zg2 (x7.trans (x101.trans (x109.trans (x113.trans (x114))))) (h109.ext (x113.trans (x114))) (h113.ext (x114)) rfl rfl oM oM oM λw x ha hb=>k1 _ _ w x ⟨_,_,_,_,_,_,_,ha,l114⟩ hb)⟩))⟩),(newS.intro λa116 w116 x116 h116 b116 z116=>⟨(hAdd (x7.trans (x101.trans (x116))) (h101.ext (x116)) λd117 e117 o117 v117 f117 u117 w117 x117 l117 s117=>⟨_,_,_,_,_,_,_,_,_,_,_,rfl,(newS.intro λa118 w118 x118 h118 b118 z118=>(Zg2 (x7.trans (x101.trans (x116.trans (x117.trans (x118))))) (h118.ext xR) (h116.ext (x117.trans (x118))) rfl rfl oM oM oM λw x ha hb=>k1 _ _ w x ⟨_,_,_,_,_,_,_,ha,l117⟩ hb))⟩),(newS.intro λa120 w120 x120 h120 b120 z120=>(hAdd (x7.trans (x101.trans (x116.trans (x120)))) (h101.ext (x116.trans (x120))) λd121 e121 o121 v121 f121 u121 w121 x121 l121 s121=>⟨_,_,_,_,_,_,_,_,_,_,_,rfl,(Zg2 (x7.trans (x101.trans (x116.trans (x120.trans (x121))))) (h120.ext (x121)) (h116.ext (x120.trans (x121))) rfl rfl oM oM oM λw x ha hb=>k1 _ _ w x ⟨_,_,_,_,_,_,_,ha,l121⟩ hb)⟩))⟩)⟩⟩),(newS.intro λa123 w123 x123 h123 b123 z123=>⟨(hEmp λg124 t124 w124 x124 h124 s124=>⟨_,_,_,_,_,_,_,rfl,⟨(hAdd (x7.trans (x123.trans (x124))) (h124.ext xR) λd125 e125 o125 v125 f125 u125 w125 x125 l125 s125=>⟨_,_,_,_,_,_,_,_,_,_,_,rfl,(newS.intro λa126 w126 x126 h126 b126 z126=>(Zg2 (x7.trans (x123.trans (x124.trans (x125.trans (x126))))) (h123.ext (x124.trans (x125.trans (x126)))) (h126.ext xR) rfl rfl oM oM oM λw x ha hb=>k1 _ _ w x ⟨_,_,_,_,_,_,_,ha,l125⟩ hb))⟩),(newS.intro λa128 w128 x128 h128 b128 z128=>(hAdd (x7.trans (x123.trans (x124.trans (x128)))) (h124.ext (x128)) λd129 e129 o129 v129 f129 u129 w129 x129 l129 s129=>⟨_,_,_,_,_,_,_,_,_,_,_,rfl,(Zg2 (x7.trans (x123.trans (x124.trans (x128.trans (x129))))) (h123.ext (x124.trans (x128.trans (x129)))) (h128.ext (x129)) rfl rfl oM oM oM λw x ha hb=>k1 _ _ w x ⟨_,_,_,_,_,_,_,ha,l129⟩ hb)⟩))⟩⟩),(newS.intro λa131 w131 x131 h131 b131 z131=>(hEmp λg132 t132 w132 x132 h132 s132=>⟨_,_,_,_,_,_,_,rfl,(hAdd (x7.trans (x123.trans (x131.trans (x132)))) (h132.ext xR) λd133 e133 o133 v133 f133 u133 w133 x133 l133 s133=>⟨_,_,_,_,_,_,_,_,_,_,_,rfl,(Zg2 (x7.trans (x123.trans (x131.trans (x132.trans (x133))))) (h123.ext (x131.trans (x132.trans (x133)))) (h131.ext (x132.trans (x133))) rfl rfl oM oM oM λw x ha hb=>k1 _ _ w x ⟨_,_,_,_,_,_,_,ha,l133⟩ hb)⟩)⟩))⟩),(newS.intro λa135 w135 x135 h135 b135 z135=>⟨(hEmp λg136 t136 w136 x136 h136 s136=>⟨_,_,_,_,_,_,_,rfl,⟨(hAdd (x7.trans (x135.trans (x136))) (h136.ext xR) λd137 e137 o137 v137 f137 u137 w137 x137 l137 s137=>⟨_,_,_,_,_,_,_,_,_,_,_,rfl,(newS.intro λa138 w138 x138 h138 b138 z138=>(Zg2 (x7.trans (x135.trans (x136.trans (x137.trans (x138))))) (h138.ext xR) (h135.ext (x136.trans (x137.trans (x138)))) rfl rfl oM oM oM λw x ha hb=>k1 _ _ w x ⟨_,_,_,_,_,_,_,ha,l137⟩ hb))⟩),(newS.intro λa140 w140 x140 h140 b140 z140=>(hAdd (x7.trans (x135.trans (x136.trans (x140)))) (h136.ext (x140)) λd141 e141 o141 v141 f141 u141 w141 x141 l141 s141=>⟨_,_,_,_,_,_,_,_,_,_,_,rfl,(Zg2 (x7.trans (x135.trans (x136.trans (x140.trans (x141))))) (h140.ext (x141)) (h135.ext (x136.trans (x140.trans (x141)))) rfl rfl oM oM oM λw x ha hb=>k1 _ _ w x ⟨_,_,_,_,_,_,_,ha,l141⟩ hb)⟩))⟩⟩),(newS.intro λa143 w143 x143 h143 b143 z143=>(hEmp λg144 t144 w144 x144 h144 s144=>⟨_,_,_,_,_,_,_,rfl,(hAdd (x7.trans (x135.trans (x143.trans (x144)))) (h144.ext xR) λd145 e145 o145 v145 f145 u145 w145 x145 l145 s145=>⟨_,_,_,_,_,_,_,_,_,_,_,rfl,(Zg2 (x7.trans (x135.trans (x143.trans (x144.trans (x145))))) (h143.ext (x144.trans (x145))) (h135.ext (x143.trans (x144.trans (x145)))) rfl rfl oM oM oM λw x ha hb=>k1 _ _ w x ⟨_,_,_,_,_,_,_,ha,l145⟩ hb)⟩)⟩))⟩)⟩
theorem Zm5{sP mD mDev mOpt mOv pS:Sl}{lp:List Pack}{m:Mani}{dev:Bool}{pins:List Pin}{D N d3 d4:Int}{SA:Nat→Prop}{w:World}{R:Bool→World→Prop}(hg:Gl w)(hA:Old SA w)(hP:SlR packE w SA sP lp)
  (hd:SlR depE w SA mD m.deps) (he:SlR depE w SA mDev m.dev) (ho:SlR depE w SA mOpt m.opt) (hv:SlR depE w SA mOv m.over) (hp:SlR pinE w SA pS pins)
  (hR: ∀w',Ext w w'→R true w'):SE.Zbh sP mD mDev mOpt mOv dev pS D N d3 d4 w R:=by
 unfold SE.Zbh
 refine newS.intro λa w1 x1 ha hab _=>⟨sP,ha.at0 xR rfl,?_⟩
 refine SE.Zcl.go (Zro (hg.ext x1).tab (hA.ext x1.size) (hP.ext x1) λp r q w2 x2 hB=>⟨_,_,rfl,bound ?_⟩)
 refine gCall.intro true (λ_ k hk=>SE.Zcy.go (Zwy (hg.ext (x1.trans x2)) λw' hx=>⟨_,rfl,hk _ hx⟩)) λt1 w3 x3 ht1=>?_
 have ht1':=ht1 rfl
 subst ht1'
 refine⟨nO,λ_=> ?_⟩
 obtain⟨⟨S,hcat,_,_⟩,⟨T,href,_,_⟩,_,_⟩:=hB
 have x03:=(x1.trans x2).trans x3
 have x13:=x2.trans x3
 refine⟨mD,mDev,mOpt,mOv,ha.at1 (k:=1) x13 rfl,dev,ha.at1 (k:=5) x13 rfl,pS,ha.at1 (k:=6) x13 rfl,D,N,d3,d4,ha.at1 (k:=7) (r:=[]) x13 rfl,?_⟩
 refine SE.Zci.go (Zod (hg.ext x03).tab (hA.ext x03.size) (hcat.ext x3) (hd.ext x03) (he.ext x03) (ho.ext x03) (hv.ext x03) (hp.ext x03) λg1 w4 x4 hg1=>⟨_,_,_,rfl,newS.set rfl λa5 w5 x5 hb5 hab5=>?_⟩)
 have x35:=x4.trans x5
 have x05:=x03.trans x35
 have x15:=x13.trans x35
 refine⟨mD,mDev,mOpt,mOv,ha.at1 (k:=1) x15 rfl,dev,ha.at1 (k:=5) x15 rfl,pS,ha.at1 (k:=6) x15 rfl,D,N,d3,d4,ha.at1 (k:=7) (r:=[]) x15 rfl,?_⟩
 refine SE.Zeb.go (Zz4 (hA.ext x05.size) ((href.ext x3).ext x35) (hd.ext x05) (he.ext x05) (ho.ext x05) (hv.ext x05) (hp.ext x05) λg2 T2 w6 x6 hg2=>⟨_,_,_,rfl,newS.set rfl λa7 w7 x7 hb7 hab7=>?_⟩)
 have x57:=x6.trans x7
 have x07:=x05.trans x57
 have x17:=x15.trans x57
 refine⟨mD,mDev,mOpt,mOv,ha.at1 (k:=1) x17 rfl,dev,ha.at1 (k:=5) x17 rfl,pS,ha.at1 (k:=6) x17 rfl,D,N,d3,d4,ha.at1 (k:=7) (r:=[]) x17 rfl,?_⟩
 refine SE.Zci.go (presolveNone_se λw8 x8=>⟨_,_,_,rfl,newS.set rfl λa9 w9 x9 hb9 hab9=>?_⟩)
 have x79:=x8.trans x9
 have x09:=x07.trans x79
 generalize Zjz (Zo1 lp) m dev pins D N=r1 at*
 refine⟨g1,(hb5.ext (x57.trans x79)).ldc.pre (r:=[]) rfl,g2,(hb7.ext x79).ldc.pre (r:=[]) rfl,?_⟩
 refine SE.Zdk.go (Zxa (hg1.ext (x5.trans (x57.trans x79))) (hg2.ext (x7.trans x79)) λw10 x10=>⟨_,rfl,bound (bound ⟨Sl.nil,λ_=>(hb9.ext x10).ldc.pre (r:=[]) rfl,bound (bound ?_)⟩)⟩)
 have e:(((((decide (r1.ns=r1.ns)&&(r1.dec==r1.dec))&&(r1.code==r1.code))&&(((Sl.nil.len:Nat):Int)==0))&&((0:Int)==0))&&((1:Int)==1))=true:=by
  rw[decide_eq_true rfl]; simp[Sl.nil]
 rw[e]
 exact hR w10 (x09.trans x10)
end Go.Hal
namespace Go.Hal
open Go.Proofs.Tryz
open Go Go.RowKit Go.ChangeShapes Go.WideShapes Go.ChangeAt Go.Proofs Go.Proofs.YtdjiedhnoanbpaaGreatDoor
section
variable {H:Type} {enc:TypeId×Value→H} {P:Program} {W:World}
end
section
variable {H:Type} {W:World} {enc:TypeId×Value→H}
theorem Z7i{n:Nat}{cs:List Value}{x:DataW H×List MemPlace}(h:Tr enc prog W n 4 cs x): ∃b,cs= [.bool b]:=by
 obtain⟨b,h1,_⟩:=DataW.trod_bool underlying4 h
 exact⟨b,h1⟩
end
section
variable {H:Type} {W:World} {enc:TypeId×Value→H}
theorem Z7j{n:Nat}{cs:List Value}{x:DataW H×List MemPlace}(h1:Tr enc prog W n 25 cs x)(w1:Zg1 (x.1.weights prog 25)):
  ∃(m:Mani) (a b c d:Sl),cs= [a.v,b.v,c.v,d.v]∧SlR depE W (Here W) a m.deps∧SlR depE W (Here W) b m.dev∧SlR depE W (Here W) c m.opt∧SlR depE W (Here W) d m.over:=by
 have hl:=Zms underlying25 h1
 have hc:prog.cellsOf 25=4:=kR
 rw[hc]at hl
 obtain⟨z0,k0,g0,v0⟩:=Zbf underlying25 h1 w1 0 23 0 1 ⟨_,rfl,rfl,rfl⟩ ceLd
 obtain⟨z1,k1,g1,v1⟩:=Zbf underlying25 h1 w1 1 23 1 1 ⟨_,rfl,rfl,rfl⟩ ceLd
 obtain⟨z2,k2,g2,v2⟩:=Zbf underlying25 h1 w1 2 23 2 1 ⟨_,rfl,rfl,rfl⟩ ceLd
 obtain⟨z3,k3,g3,v3⟩:=Zbf underlying25 h1 w1 3 23 3 1 ⟨_,rfl,rfl,rfl⟩ ceLd
 obtain⟨b,lb,f0,hb,_⟩:=Zog enc k0 _ _ g0 v0
 obtain⟨c,lc,f1,hc',_⟩:=Zog enc k1 _ _ g1 v1
 obtain⟨d,ld,f2,hd,_⟩:=Zog enc k2 _ _ g2 v2
 obtain⟨e,le,f3,he,_⟩:=Zog enc k3 _ _ g3 v3
 match cs,hl with
 | [c1,c2,c3,c4],_=>
  simp at f0 f1 f2 f3
  exact⟨⟨lb,lc,ld,le⟩,b,c,d,e,by rw[f0,f1,f2,f3],hb,hc',hd,he⟩
theorem Z2w{n:Nat}{cs:List Value}{x:DataW H×List MemPlace}(h1:Tr enc prog W n 28 cs x)(w1:Zg1 (x.1.weights prog 28)):
  ∃a b c d:Int,cs= [.int .i64 a,.int .i64 b,.int .i64 c,.int .i64 d]:=by
 have hl:=Zms underlying28 h1
 have hc:prog.cellsOf 28=4:=kR
 rw[hc]at hl
 obtain⟨z0,k0,g0,v0⟩:=Zbf underlying28 h1 w1 0 3 0 1 ⟨_,rfl,rfl,rfl⟩ kR
 obtain⟨z1,k1,g1,v1⟩:=Zbf underlying28 h1 w1 1 3 1 1 ⟨_,rfl,rfl,rfl⟩ kR
 obtain⟨z2,k2,g2,v2⟩:=Zbf underlying28 h1 w1 2 3 2 1 ⟨_,rfl,rfl,rfl⟩ kR
 obtain⟨z3,k3,g3,v3⟩:=Zbf underlying28 h1 w1 3 3 3 1 ⟨_,rfl,rfl,rfl⟩ kR
 obtain⟨a,f0⟩:=rdI g0
 obtain⟨b,f1⟩:=rdI g1
 obtain⟨c,f2⟩:=rdI g2
 obtain⟨d,f3⟩:=rdI g3
 match cs,hl with
 | [c1,c2,c3,c4],_=>
  simp at f0 f1 f2 f3
  exact⟨a,b,c,d,by rw[f0,f1,f2,f3]⟩
end
theorem Zsh{P:Program}{w:World}{g:Nat}{t:TypeId}{k:IntKind}{zero:Array Value}(h:w.ShapedOpen P)(hg:g<P.globals.size)
  (h0:((begin P (λ_ _=>0) default).world.heap[g]?).bind Obj.row? =some (zero,t)) (hz:zero.size=1)
  (hb:P.buildable t=true) (hc:P.cellTypes P.depth t=some [t]) (hu:P.underlying t=some (.int k)): ∃n,w.cell? ⟨g,0,none⟩=some (.int k n):=by
 obtain⟨cs,hh,hs,hr⟩:=h.1 g zero t hg h0
 obtain⟨ts,hts,_,hall⟩:=hr hb
 rw[hc]at hts
 cases hts
 have h1:0<cs.size:=oM
 obtain⟨u,hu',hok⟩:=hall 0 cs[0] (by simp[h1])
 have:u=t:=by simpa using hu'.symm
 subst this
 have hcell:w.cell? ⟨g,0,none⟩=some cs[0]:=by simp[World.cell?,hh,h1]
 rw[hcell]
 unfold Cell.ok at hok
 rw[hu]at hok
 cases hv:cs[0]<;>rw[hv]at hok<;>first|(obtain⟨rfl,_⟩:=hok; exact⟨_,rfl⟩)|simp at hok
theorem gMx:prog.globals.size>0∧((begin prog (λ_ _=>0) default).world.heap[0]?).bind Obj.row? =some (#[.int .i64 0],3)∧prog.buildable 3=true∧prog.cellTypes prog.depth 3=some [3]∧prog.underlying 3=some (.int .i64):=
 ⟨of_decide_eq_true kR,kR,kR,kR,kR⟩
theorem Z3w{P:Program}{n nm:String}{text:List UInt8}{r:List (String×DataW Unit)}{W:World}{g:Nat}
  (h:laidMet P ((n,.iface nm (.ptr (.agg [.lit (.string text)])))::r) W) (hg:P.globalNamed n=some g) {ti tp te ts:TypeId} {ms:Array (String×TypeId)} {f:Field}
  (ht:(P.globals[g]?).map (·.type)=some ti) (hi:P.underlying ti=some (.interface ms)) (hrow: ∀u,P.typeName? 3 u=some nm→u=tp)
  (hp:P.underlying tp=some (.pointer te)) (he:P.underlying te=some (.struct #[f])) (hft:f.type=ts) (hfo:f.offset=0) (hs:P.underlying ts=some .string) (hc:P.cellsOf te=1) (hcs:P.cellsOf ts=1):
  ∃ev,W.cell? ⟨g,0,none⟩=some ev∧(ev= .nilIface∨ ∃te pe,ev= .iface te pe):=by
 obtain⟨a,s,hv,_⟩:=laid_sentinel h hg ht hi hrow hp he hft hfo hs hc hcs
 exact⟨_,World.var?_cell hg hv 0,.inr ⟨_,_,rfl⟩⟩
theorem Z7q: "*" ++ "errors.errorString" = "*errors.errorString" :=by decide
theorem rowE(u:TypeId)(h:prog.typeName? 3 u=some "*errors.errorString"):u=437:=
 typeName_ptr_named (nm:= "errors.errorString") (by rw[Z7q]; kernel_rfl) kR dC u (by rw[Z7q]; exact h)
theorem Z8a{W:World}(h:laidMetH prog Zn5 W)(hsh:W.ShapedOpen prog):Gl W:=by
 refine⟨tab_of h,?_,?_,?_⟩
 ·obtain⟨h1,h2,h3,h4,h5⟩:=gMx
  exact Zsh hsh h1 h2 rfl h3 h4 h5
 ·rw[MakeChecks.laidMetH_plain _ _ _ kR]at h
  exact Z3w (g:=6) (laidMet.tail (laidMet.tail (laidMet.tail (laidMet.tail (laidMet.tail h))))) kR (ti:=163) kR underlying163 rowE underlying437 underlying439 rfl rfl underlying9 kR kR
 ·rw[MakeChecks.laidMetH_plain _ _ _ kR]at h
  exact Z3w (g:=7) (laidMet.tail (laidMet.tail (laidMet.tail (laidMet.tail h)))) kR (ti:=163) kR underlying163 rowE underlying437 underlying439 rfl rfl underlying9 kR kR
section
variable {H:Type} {W:World} {enc:TypeId×Value→H}
theorem Zz5{n:Nat}{cs:List Value}{x:DataW H×List MemPlace}(h:Tr enc prog W n 30 cs x)(hw:Zg1 (x.1.weights prog 30)):
  ∃(sP mD mE mO mV pS:Sl) (dev:Bool) (D N d3 d4:Int) (lp:List Pack) (m:Mani) (pins:List Pin),cs= [sP.v,mD.v,mE.v,mO.v,mV.v,.bool dev,pS.v,.int .i64 D,.int .i64 N,.int .i64 d3,.int .i64 d4]∧SlR packE W (Here W) sP lp∧
   SlR depE W (Here W) mD m.deps∧SlR depE W (Here W) mE m.dev∧SlR depE W (Here W) mO m.opt∧SlR depE W (Here W) mV m.over∧SlR pinE W (Here W) pS pins:=by
 have hl:=Zms underlying30 h
 have hc:prog.cellsOf 30=11:=kR
 rw[hc]at hl
 obtain⟨y0,m0,h0,w0⟩:=Zbf underlying30 h hw 0 22 0 1 ⟨_,rfl,rfl,rfl⟩ ceLk
 obtain⟨y1,m1,h1,w1⟩:=Zbf underlying30 h hw 1 25 1 4 ⟨_,rfl,rfl,rfl⟩ kR
 obtain⟨y2,m2,h2,w2⟩:=Zbf underlying30 h hw 2 4 5 1 ⟨_,rfl,rfl,rfl⟩ kR
 obtain⟨y3,m3,h3,w3⟩:=Zbf underlying30 h hw 3 26 6 1 ⟨_,rfl,rfl,rfl⟩ ceLp
 obtain⟨y4,m4,h4,w4⟩:=Zbf underlying30 h hw 4 28 7 4 ⟨_,rfl,rfl,rfl⟩ kR
 obtain⟨a,lp,e0,hp,_⟩:=Z5i enc m0 _ _ h0 w0
 obtain⟨m,mD,mE,mO,mV,e1,q1,q2,q3,q4⟩:=Z7j h1 w1
 obtain⟨dev,e2⟩:=Z7i h2
 obtain⟨pS,pins,e3,q5,_⟩:=Z7l enc m3 _ _ h3 w3
 obtain⟨D,N,d3,d4,e4⟩:=Z2w h4 w4
 match cs,hl with
 | [c0,c1,c2,c3,c4,c5,c6,c7,c8,c9,c10],_=>
  simp at e0 e1 e2 e3 e4
  exact⟨a,mD,mE,mO,mV,pS,dev,D,N,d3,d4,lp,m,pins,by rw[e0,e1.1,e1.2.1,e1.2.2.1,e1.2.2.2,e2,e3,e4.1,e4.2.1,e4.2.2.1,e4.2.2.2],hp,q1,q2,q3,q4,q5⟩
end
end Go.Hal
