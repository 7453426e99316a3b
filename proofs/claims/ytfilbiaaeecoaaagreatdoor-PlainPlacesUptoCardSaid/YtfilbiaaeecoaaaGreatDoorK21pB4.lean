/- Lemmas for the claim K21p: how the program's functions run, and what they answer; no condition but those that each theorem names. -/
import Derived.Laws.MakeOwn
import Derived.Test.YtfilbiaaeecoaaaGreatDoorProg
import Derived.Lone
import Derived.RunT
import Derived.StepT
import Derived.Calls
import Derived.Test.YtfilbiaaeecoaaaGreatDoorK21pB3
set_option linter.unusedVariables false
set_option linter.unusedSimpArgs false
set_option maxHeartbeats 16000000
open Go Go.RowKit Go.Proofs Go.Shelf Go.Hal Go.Proofs.Tryz
variable {a:Addr} {es:Array Event} {lk:Bool} {R:Bool→World→Prop} {nm:ByteArray} {e:Hal.Edge} {D M a1 a2 a3:Int} {G g:List Hal.Node} {P:List Pack} {l:List Stl} {cs:List Value} {m m':Machine} {h i j lo n nd src to:Nat} {Q S:Nat→Prop} {c':PC} {I:PlI} {s:PlS} {p:Program} {cg eg so u:Sl} {t:TypeId} {w w':World} {K:World→Prop}
namespace Go.Hal
def slC(s:Sl):List Value:=[s.v]
theorem Z4t(n:Nat):(madeCells (Value.slice none 0 0).cells (n*1))=(((List.replicate n Sl.nil).map slC).flatten).toArray:=by
 have e:((List.replicate n Sl.nil).map slC).flatten=List.replicate n (Value.slice none 0 0):=by
  induction n with
  |zero=>rfl
  |succ n ih=>rw[mo,fg,ge,ih,mo]; rfl
 rw[e]
 unfold madeCells
 apply Array.ext
 ·simp
 ·intro i h1 h2
  have:(Value.slice none 0 0).cells= #[Value.slice none 0 0]:=rfl
  simp[this,Nat.mod_one]
theorem Z1b:(prog.info? 73).map (λi=>(i.zero,i.size,i.bytes))=some (some (.slice none 0 0),1,24):=kR
theorem Z4u{R:Sl→World→Prop}(hn:n≤1000000)(hR: ∀g w',Ext w w'→g=w.heap.size→RowB slC w' g (List.replicate n Sl.nil) []→R ⟨some ⟨g,0,none⟩,n,n⟩ w'):
  semS prog (Instr.makeSlice 339 (Value.int .i64 (n:Int)) (Value.int .i64 (n:Int))) w λv w'=>∃t:Sl,v=Sl.v t∧R t w':=by
 obtain⟨i,h2,hi⟩:=iy.1 Z1b
 simp only[Prod.mk.injEq]at hi
 obtain⟨h3,h5,h6⟩:=hi
 refine⟨_,_,run_make w 339 73 i (.slice none 0 0) underlying339 h2 h3 .i64 .i64 n n oM (Int.le_refl _) (by rw[h6]; omega) oM,⟨some ⟨w.heap.size,0,none⟩,n,n⟩,by simp[Sl.v],?_⟩
 refine newS.intro (cs:=((List.replicate n Sl.nil).map slC).flatten++ []) (t:=73) (k:=λa w'=>R ⟨some a,n,n⟩ w') (λa w' hx hb ha hs=>?_) _ _ rfl ?_
 ·have a4:=hb
  obtain⟨t,h0,a0,_⟩:=a4
  obtain⟨b,o,s⟩:=a
  simp only at h0 a0 ha
  subst h0 a0
  exact hR b w' hx ha hb
 ·rw[dp,←Z4t,bw,h5]
theorem Zs8{s:Sl}{l:List Node}{R:Sl→World→Prop}(hS:Old S w)(hs:SlR nodeE w S s l)(hR: ∀t w',Ext w w'→OwnS nodeE 76 w' w.heap.size S t l→R t w'):SE.Zbd s w R:=by
 unfold SE.Zbd
 refine⟨λh=>?_,λh=>?_⟩
 ·have:l= []:=by
   rcases hs.2.2.2.2 with h0|⟨ad,h1,_⟩
   ·exact h0
   ·rw[h]at h1; cases h1
  subst this
  exact hR _ _ xR ((OwnS.nil _ _).mono (λ_ h=>h.elim) hS λ_ h=>by cases h)
 ·intro a w1 ha hw
  subst ha
  have x1:Ext w w1:=hw▸Ext.alloc _ _
  have own:OwnS nodeE 76 w1 w.heap.size None' ⟨some ⟨w.heap.size,0,none⟩,0,0⟩ []:=hw▸OwnS.empty w
  refine own.appAll Z6h x1.size (hs.ext x1) (hS.ext x1.size) (λad ha hb=>?_) (by simpa using hs.2.2.2.1) (by simpa using hs.max) λr w2 a0 bel _ _=> ?_
  ·simp only[cw]at ha
   subst ha
   have:=hS _ hb
   simp at this
  ·have x2:=x1.trans' bel
   exact hR r w2 x2 (a0.mono (λb h=>h.elim (λh=>h.elim) id) (hS.ext x2.size) λad a4 hb=>by have:=(a0.block a4).1; have:=hS _ hb; omega)
theorem Z1x{a b:Pin}{R:Int→World→Prop}(hR: ∀w',Gr w w'→R (cmpS a.name b.name) w'):SE.Zc7 a.name a.v.ma a.v.mi a.v.pa b.name b.v.ma b.v.mi b.v.pa w R:=by
 unfold SE.Zc7
 refine newS.gr λ_ w1 x1 hb=>newS.gr λ_ w2 x2 a0=>⟨_,Gr.at0 hb x2 rfl,_,Gr.at0 a0 (Gr.refl _) rfl,Zjw ⟨_,rfl,hR _ (x1.trans x2)⟩⟩
theorem Ztk:Zfj prog 265:=enters_of func265 kR rfl
theorem Zzm{s:Sl}{l:List Pin}{K:Value→World→Prop}(h:FlatO pinC 40 w lo s l)(a4:lo≤w.heap.size)(hn:(l.map (·.name)).Nodup)
  (hK: ∀w',Below lo w w'→FlatO pinC 40 w' lo s (Zi8 l)→K (.tuple #[]) w'):
  callS prog 139 [Sl.v s,.func (.func 265) #[] #[]] w K:=by
 obtain⟨h1,h2,h3,h4,h5⟩:=h
 obtain⟨a,n,c⟩:=s
 simp only at h1 h2 h3 h5
 subst h1
 rcases h5 with rfl|⟨g,tail,ha,hg,hr⟩
 ·refine(AnyF.slices_SortFunc_none Tryz.laySp a c _ w).mono λe w' ⟨he,hw⟩=>⟨_,he,?_⟩
  subst hw
  exact hK _ (Below.refl _ _) ⟨rfl,h2,h3,h4,.inl rfl⟩
 ·subst ha
  have hO:=Zhf (α:=Pin) (·.name)
  refine Zgo Tryz.laySp (k:=4) Z6s Z2j (f:=pinC) (λ_=>rfl) (λx v hv=>by simp[pinC]at hv; rcases hv with rfl|rfl|rfl|rfl<;>rfl) (λa b=>cmpS a.name b.name) (Zjx hO.flip hO.trans) 265 #[] Ztk (λw0 x y hb _=> ?_) hr (by unfold room at h4; omega) rfl λl' w' hp hs b a5=>?_
  ·have h:=SE.Zc7.go (k:=λv w'=>v= .int .i64 (cmpS x.name y.name)∧Gr w0 w') (Z1x (a:=x) (b:=y) (w:=w0) λw' h=>⟨rfl,h⟩)
   exact Calls.mono h λe w' ⟨v,he,hv,hg⟩=>⟨by rw[he,hv],hg⟩
  ·have e:l'=Zi8 l:=by
    refine Rises.one ?_ (Zlw hn) (hp.trans (Zes l).symm)
    have a0:(l'.map (·.name)).Nodup:=(hp.map _).nodup_iff.2 hn
    rw[fe,fy]at a0
    exact(hs.and a0).imp λ{a b} h=>Zs4 (by have:=hO.flip b a; have:=hO.flip a b; omega) h.2
   subst e
   have hl:=(Zes l).length_eq
   exact hK w' (b.below a4 hg) ⟨hl.symm,by rw[hl]; exact h2,h3,by rw[hl]; exact h4,.inr ⟨g,tail,rfl,hg,a5⟩⟩
theorem Z2w{e:List Pin}{n:ByteArray}:(∃v,tells e n=some v∧e.any (isN n)=true)∨(tells e n=none∧e.any (isN n)=false):=by
 cases h:tells e n with
 |some v=>exact .inl ⟨v,rfl,Z67 (Zu6 h) rfl⟩
 |none=>exact .inr ⟨rfl,Z9h (Zzq h)⟩
theorem Z76{c chs:Sl}{l ch:List Pin}{T:Nat→Prop}{R:Sl→World→Prop}(hS:Old S w)(hc:SlR pinE w S c l)(b0:SlR pinE w T chs ch)(hl:l.length≤4000)(d8:ch.length≤4000)
  (hR: ∀t w',Ext w w'→OwnS pinE 111 w' w.heap.size None' t (envC l ch)→R t w'):
  callS prog 219 [c.v] w λv vw=>∃(b1:Sl),v=(Sl.v b1)∧loop2 b1 0 vw λenv a0 b2 b7=>((a0<(chs.len:Int)→join (λ(b5:Sl) (d5:World)=>b7 b5 (Za (a0+1)) d5) λvJ=>∃(b4:Addr),(chs.a=some b4∧(0:Int)≤a0∧a0<(chs.len:Int))∧ ∃(n:ByteArray) (x y z:Int),(ldc b2 (b4.add (a0.toNat*4)) [(Value.string n),(Value.int .i64 x),(Value.int .i64 y),(Value.int .i64 z)])∧newS b2 [(Value.string (ByteArray.mk #[])),(Value.int .i64 0),(Value.int .i64 0),(Value.int .i64 0)] 111 λa d6=>stw d6 a [(Value.string n),(Value.int .i64 x),(Value.int .i64 y),(Value.int .i64 z)] λc4=>∃(b8:ByteArray),(ldc c4 a [(Value.string b8)])∧callS prog 217 [(Sl.v env),(Value.string b8)] c4 λd4 b9=>∃(p q r:Int) (a6:Bool),d4=(Value.tuple #[(Value.agg #[(Value.int .i64 p),(Value.int .i64 q),(Value.int .i64 r)]),(Value.bool a6)])∧newS b9 [(Value.int .i64 0),(Value.int .i64 0),(Value.int .i64 0)] 50 λa9 c1=>stw c1 a9 [(Value.int .i64 p),(Value.int .i64 q),(Value.int .i64 r)] λa7=>(((!a6)=true→ ∃(n:ByteArray) (x y z:Int),(ldc a7 a [(Value.string n),(Value.int .i64 x),(Value.int .i64 y),(Value.int .i64 z)])∧newS a7 [(Value.string n),(Value.int .i64 x),(Value.int .i64 y),(Value.int .i64 z)] 111 λb3 c2=>appS prog 73 73 env (Sl.v (Sl.mk (some b3) 1 1)) c2 λd3 c3=>vJ d3 c3)∧((!a6)=false→vJ env a7)))∧(¬(a0<(chs.len:Int))→R env b2)):=by
 have d7:=b0.len
 refine SE.Za0.go (clonePin_se hS hc λb1 w1 x1 o1=>⟨_,rfl,?_⟩)
 refine loop2.up b0.max (λso i w'=>Ext w w'∧OwnS pinE 111 w' w.heap.size None' so (envC l (ch.take i))) ⟨x1,o1⟩ λso i w2 b7 hi ⟨x2,o2⟩ hn=>⟨λd0=>join.named λJ hJ=>?_,λe0=>?_⟩
 ·have a5:i<ch.length:=oM
  obtain⟨ap,c7,_,d1,c9⟩:=Zlh b0 a5
  have d2:ch.take (i+1)=ch.take i++ [ch[i]]:=bu a5
  have a4: ∀a8 w',Ext w w'→OwnS pinE 111 w' w.heap.size None' a8 (addO (envC l (ch.take i)) ch[i].name (some ch[i].v))→J a8 w':=λa8 w' h1 h2=>by
   subst hJ
   refine hn a5 a8 w' ⟨h1,?_⟩
   rw[d2,Ztq]; exact h2
  have d9:=Zxe l (ch.take i)
  have e1:(ch.take i).length≤ch.length:=by rw[cd]; omega
  clear hJ hn
  rw[Zry]at a4
  generalize ch[i]=p at*
  generalize envC l (ch.take i)=e at*
  refine⟨ap,⟨c7,oM,d0⟩,_,_,_,_,c9 _ x2,newS.set rfl λa w3 x3 b6 _=>⟨_,b6.at0 xR rfl,?_⟩⟩
  have c5:=x2.trans x3
  have o3:=o2.ext x3
  rcases Z2w (e:=e) (n:=p.name)with⟨v,h1,h2⟩|⟨h1,h2⟩
  ·refine SE.Zdl.go (Zjs (o3.pins oM) (λv' w4 hv x4=>⟨_,_,_,_,rfl,newS.set rfl λa9 w5 x5 _ _=>⟨nO,λ_=> ?_⟩⟩) λw4 hv x4=>by rw[h1]at hv; cases hv)
   rw[h2]at a4
   exact a4 so w5 (c5.trans (x4.trans x5)) (o3.ext (x4.trans x5))
  ·refine SE.Zdl.go (Zjs (o3.pins oM) (λv' w4 hv x4=>by rw[h1]at hv; cases hv) λw4 hv x4=>⟨_,_,_,_,rfl,newS.set rfl λa9 w5 x5 _ _=>⟨λ_=> ?_,nO⟩⟩)
   rw[h2]at a4
   refine⟨_,_,_,_,(b6.ext (x4.trans x5)).ldc.pre (r:=[]) rfl,newS.intro λb3 w6 x6 c8 _ _=> ?_⟩
   have c6:=x4.trans (x5.trans x6)
   refine(o3.ext c6).pushF (c5.trans c6) Zz7 (x:=p) ⟨rfl,d1⟩ (c8.ldc.pre (r:=[]) rfl) dC (by show(e.length+1)*40≤room; unfold room; omega) λr w7 o7 x7=>a4 r w7 x7 o7
 ·rw[dg oM]at o2
  exact hR so w2 x2 o2
def lookC(t:Stl):List Value:=[.int .i64 (t.src:Int),.int .i64 (t.dst:Int),.string t.label]
def Zlq:Enc Stl:=Zoi 3 32 lookC (λt=>Str t.label) (λ_=>rfl) (λ_ v hv=>by simp[lookC]at hv; rcases hv with rfl|rfl|rfl<;>rfl)
theorem Z6u{s:Sl}(h:SlR Zlq w S s l)(hn:n<l.length): ∃ad,s.a=some ad∧Str l[n].label∧ ∀w',Ext w w'→ldc w' (ad.add (n*3)) [.int .i64 (l[n].src:Int),.int .i64 (l[n].dst:Int),.string l[n].label]:=by
 obtain⟨ad,cs,h1,h2,⟨rfl,h3⟩,h4⟩:=h.el hn
 exact⟨ad,h1,h3,h4⟩
theorem Zx6{p f:Path}(hn:n≤p.length):p.take n<+:f↔n≤f.length∧f.take n=p.take n:=by
 constructor
 ·intro h
  have h1:=h.length_le
  rw[cd,gw hn]at h1
  refine⟨h1,?_⟩
  have:=ls.1 h
  rw[cd,gw hn]at this
  exact this.symm
 ·rintro⟨h1,h2⟩
  rw[←h2]; exact me _ _
def Zqt(s:PlS):Prop:=∀t∈s.done,t.src<s.dirs.length∧t.dst<s.dirs.length
section
variable {w:World} {p:Addr} {S Q:Nat→Prop} {c:PC} {G:List Node} {P:List Pack} {old:Option (List Dir)} {s:PlS}
theorem Z47{t:Sl}{q:Path}{x:ByteArray}(h:PlV Zlq w p S c G P old s)(hd:Zqt s)(hQ:Old Q w)(ht:SlR strE w Q t q)(hx:Str x)(hn:n≤q.length)(hb:q.length≤4000000)
  (hR: ∀(b:Bool) w',Ext w w'→(b=true↔Spot s q x n)→R b w'):SE.Zd3 (some p) t (n:Int) x w R:=by
 unfold SE.Zd3
 have f7:=ht.len
 have d9:q.length≤t.cap:=ht.2.1
 have a7: ∀w',Ext w w'→ ¬Spot s q x n→R false w':=λw' hx h=>hR false w' hx ⟨nO,λhf=>absurd hf h⟩
 refine loop1.ghost (λm i w'=>∃k:Nat,i=(k:Int)∧n≤k∧k≤q.length+1∧m=q.length+1 - k∧Ext w w'∧ ∀j,n≤j→j<k→Zbv s.dirs (q.take j++ [x])=none) (q.length+1 - n) ⟨n,rfl,df _,oM,rfl,Ext.refl _,λj h1 h2=>by omega⟩ λm i w1 f8 ⟨k,hi,d1,f4,hm,x1,hI⟩ d5=>?_
 subst hi
 refine⟨λf5=>?_,λf1=>?_⟩
 ·have a6:k≤q.length:=oM
  refine⟨⟨oM,oM⟩,?_⟩
  rw[bw]
  have a8:=(ht.ext x1).cut (a:=0) (b:=k) (eh _) a6
  rw[gz]at a8
  refine SE.Zcu.go (pinside_se (hQ.ext x1.size) a8 hx (by rw[cd]; omega) λt2 w2 x2 o2=>⟨_,rfl,SE.Zci.go (Zsm (h.ext (x1.trans x2)) (o2.strs (by rw[br,cd,fl]; omega)) λw3 x3=>⟨_,rfl,λhc=>?_,λhc=>?_⟩)⟩)
  ·refine a7 w3 (x1.trans (x2.trans x3)) λhF=>?_
   rw[hF.clear k d1 a6]at hc
   exact absurd hc dC
  ·have b2:Zbv s.dirs (q.take k++ [x])=none:=by
    cases hf:Zbv s.dirs (q.take k++ [x])with
    |none=>rfl
    |some j=>rw[hf]at hc; exact absurd (Zgk.2 ⟨j,rfl⟩) hc
   refine d5 (q.length+1 - (k+1)) _ w3 oM ⟨k+1,?_,oM,oM,rfl,x1.trans (x2.trans x3),λj h1 h2=>?_⟩
   ·rw[Zc oM oM]; omega
   ·by_cases hj:j=k
    ·subst hj; exact b2
    ·exact hI j h1 oM
 ·have a6:k=q.length+1:=oM
  subst a6
  have b4:=h.st
  have e7:=b4.len
  refine⟨p,rfl,c.st,h.ld x1 8 (r:=[]) rfl,?_⟩
  refine loop1.up b4.max (λi w'=>Ext w1 w'∧ ∀u∈s.done.take i,u.label=x→q.take n<+:Zb s.dirs u.src→n<(Zb s.dirs u.dst).length) ⟨Ext.refl _,λ_ h=>by cases h⟩ λi w2 e8 f2 ⟨x2,hK⟩ d4=>⟨λd3=>?_,λf0=>?_⟩
  ·have a5:i<s.done.length:=oM
   obtain⟨ad,ha,f6,d2⟩:=Z6u b4 a5
   have b0:=cj a5
   obtain⟨c3,c4⟩:=hd _ b0
   have c5:=x1.trans x2
   obtain⟨c6,qs,_,_,_,has,_,_,b3,_,_,_,c9⟩:=h.dirEl c3
   obtain⟨c7,qt,_,_,_,c8,_,_,d6,_,_,_,d0⟩:=h.dirEl c4
   have e9:=Zm8 h
   have e5:=b3.len
   have e6:=d6.len
   have e0:(s.dirs[s.done[i].src]).path.length≤qs.cap:=b3.2.1
   have e1:Zb s.dirs s.done[i].src=(s.dirs[s.done[i].src]).path:=Zbl (bq c3)
   have e2:Zb s.dirs s.done[i].dst=(s.dirs[s.done[i].dst]).path:=Zbl (bq c4)
   have b5:s.done.take (i+1)=s.done.take i++ [s.done[i]]:=bu a5
   have a0: ¬(s.done[i].label=x→q.take n<+:Zb s.dirs s.done[i].src→n<(Zb s.dirs s.done[i].dst).length)→ ¬Spot s q x n:=λh1 h2=>h1 λa b=>h2.keep _ b0 a b
   rw[e1,e2,Zx6 hn]at a0
   have b8:(s.done[i].label=x→q.take n<+:Zb s.dirs s.done[i].src→n<(Zb s.dirs s.done[i].dst).length)→ ∀u∈s.done.take (i+1),u.label=x→q.take n<+:Zb s.dirs u.src→n<(Zb s.dirs u.dst).length:=λh1 u hu=>by
    rw[b5]at hu
    rcases dj.1 hu with hu|hu
    ·exact hK u hu
    ·rw[ci.1 hu]; exact h1
   rw[e1,e2,Zx6 hn]at b8
   generalize s.done[i]=d at*
   generalize (s.dirs[d.src]).path=ps at*
   generalize (s.dirs[d.dst]).path=pt at*
   refine⟨ad,⟨ha,oM,d3⟩,(d.src:Int),(d.dst:Int),d.label,by rw[bw]; exact d2 _ c5,newS.set rfl λa3 w3 x3 b1 _=>bnd.drew λw4 x4=>?_⟩
   have b6:=c5.trans (x3.trans x4)
   refine⟨p,rfl,c.dr,h.ld b6 7 rfl,_,b1.at0 x4 rfl,c6,⟨has,oM,oM⟩,qs,by rw[bw]; exact(c9 _ b6).pre rfl,bnd.drew λw5 x5=>⟨_,b1.at1 (k:=2) (r:=[]) (x4.trans x5) rfl,bound (bound ⟨λ_=>⟨oM,?_⟩,λ_=>⟨oM,oM⟩,?_⟩)⟩⟩
   ·rename_i hg
    simp only[bx,decide_eq_true_eq]at hg
    omega
   have a4:=b6.trans x5
   refine gCall.intro (decide (ps.take n=q.take n)) (λhg r hr=>?_) λd7 w6 x6 b7=>bound ⟨p,λ_=>rfl,c.dr,λ_=>h.ld (a4.trans x6) 7 rfl,(d.dst:Int),λ_=>b1.at1 (k:=1) (x4.trans (x5.trans x6)) rfl,c7,λ_=>⟨c8,oM,oM⟩,qt,λ_=>by rw[bw]; exact(d0 _ (a4.trans x6)).pre rfl,?_⟩
   ·simp only[bx,decide_eq_true_eq]at hg
    rw[bw]
    have c1:=(b3.ext a4).cut (a:=0) (b:=n) (eh _) oM
    have c2:=(ht.ext a4).cut (a:=0) (b:=n) (eh _) hn
    rw[gz]at c1 c2
    exact SE.Zaf.go (eqStrs_se c1 c2 λw6 x6=>⟨_,rfl,hr w6 x6⟩)
   have d8:=a4.trans x6
   have a9:(((bEq d.label x&&decide ((n:Int)≤(qs.len:Int)))&&d7)&&decide ((qt.len:Int)≤(n:Int)))=false↔(d.label=x→(n≤ps.length∧ps.take n=q.take n)→n<pt.length):=by
    by_cases hl:d.label=x
    ·have e3:bEq d.label x=true:=Zap.2 hl
     by_cases b9:n≤ps.length
     ·have e4:decide ((n:Int)≤(qs.len:Int))=true:=decide_eq_true oM
      rw[e3,e4]at b7 ⊢
      rw[b7 rfl]
      by_cases he:ps.take n=q.take n
      ·rw[decide_eq_true he]
       simp only[dw,decide_eq_false_iff_not]
       exact⟨λh1 _ _=>by omega,λh1=>by have:=h1 hl ⟨b9,he⟩; omega⟩
      ·rw[decide_eq_false he]
       simp[he]
     ·rw[decide_eq_false (show ¬(n:Int)≤(qs.len:Int) by omega)]
      simp[b9]
    ·have e3:bEq d.label x=false:=by
      rw[il]; exact λh=>hl (Zap.1 h)
     rw[e3]
     simp[hl]
   refine⟨λhc=>a7 w6 d8 (a0 λh1=>?_),λhc=>d4 a5 w6 ⟨x2.trans (x3.trans (x4.trans (x5.trans x6))),b8 (a9.1 hc)⟩⟩
   rw[a9.2 h1]at hc; cases hc
  ·rw[dg oM]at hK
   exact hR true w2 (x1.trans x2) ⟨λ_=>⟨hn,λk h1 h2=>hI k h1 oM,hK⟩,λ_=>rfl⟩
end
theorem Z7a(q:Pin)(n:ByteArray):bEq q.name n=isN n q:=by
 rw[ep,Zap]
 unfold isN
 simp
theorem Ztm:Zfj prog 44:=enters_of func44 kR rfl
def Zvd(s:PlS):Prop:=∀t∈s.done,∀u∈s.done,t.src=u.src→t.label=u.label→t=u
theorem Zu2(h:Zvd s){a d:Nat}{x:ByteArray}:Zom s a x=some d↔⟨a,x,d⟩∈s.done:=by
 unfold Zom
 constructor
 ·intro he
  obtain⟨t,h1,h2⟩:=iy.1 he
  have h3:=ic h1
  have h4:=js h1
  simp only[decide_eq_true_eq]at h4
  obtain⟨u,y,v⟩:=t
  simp only at h2 h4
  obtain⟨rfl,rfl⟩:=h4
  subst h2
  exact h3
 ·intro hm
  cases hf:s.done.find? λt=>decide (t.src=a∧t.label=x)with
  |none=>
   rw[gn]at hf
   exact absurd sI (hf _ hm)
  |some t=>
   have h3:=ic hf
   have h4:=js hf
   simp only[decide_eq_true_eq]at h4
   rw[h t h3 _ hm h4.1 h4.2]; rfl
section
variable {w:World} {p:Addr} {S Q:Nat→Prop} {c:PC} {G:List Node} {P:List Pack} {old:Option (List Dir)} {s:PlS}
theorem Z48{E:Enc Stl}{R:Int→World→Prop}(h:PlV E w p S c G P old s)(hi:i<s.dirs.length)(c2: ∀d∈s.dirs,d.node<G.length)(hx:Str e.name)(c6:0≤e.to∧e.to<(G.length:Int))
  (hR: ∀w',Ext w w'→R (kindE G (nodeAt s.dirs i) e:Nat) w'):SE.Zd4 (some p) (i:Int) e.name e.to w R:=by
 unfold SE.Zd4
 have c4:=Zm8 h
 have c5:=h.g.len
 obtain⟨ad,_,_,_,_,ha,_,_,_,_,_,_,hc⟩:=h.dirEl hi
 have e1:nodeAt s.dirs i=s.dirs[i].node:=Zd1 (bq hi)
 have hn:s.dirs[i].node<G.length:=c2 _ (cj hi)
 rw[e1]at hR
 generalize s.dirs[i].node=nd at*
 obtain⟨b1,cg,eg,b5,_,b8,_,a9⟩:=Zed h.g hn
 obtain⟨en,a8⟩: ∃en:Nat,e.to=(en:Int):=⟨e.to.toNat,oM⟩
 have a6:en<G.length:=oM
 obtain⟨b2,ct,et,b6,_,b9,_,b0⟩:=Zed h.g a6
 have c3:=b9.len
 have b3:Ziw G nd=G[nd].ctx:=by unfold Ziw; rw[bq hn]
 have b4:Ziw G e.to.toNat=G[en].ctx:=by rw[a8,bw]; unfold Ziw; rw[bq a6]
 unfold kindE at hR
 rw[b3,b4]at hR
 refine newS.intro λa w1 x1 a7 _ _=>bnd.drew λw2 x2=>?_
 have a0:=x1.trans x2
 refine⟨p,rfl,c.u,h.ld0 a0,p,rfl,c.dr,h.ld a0 7 rfl,ad,⟨ha,oM,oM⟩,(nd:Int),by rw[bw]; exact(hc _ a0).mid (k:=8) (r:=[]) rfl,b1,⟨b5,oM,oM⟩,cg,by rw[bw]; exact(a9 _ a0).mid (k:=4) rfl,?_⟩
 refine SE.Z0.go (Zta (p:=isN e.name) (b8.ext a0) (λq _ w3 k3 x3 c1=>⟨_,_,rfl,Ztm,SE.Zeh.go ?_⟩) λw3 x3=>⟨_,rfl,λhk=>?_,λhk=>bnd.drew λw4 x4=>?_⟩)
 ·unfold SE.Zeh
  refine newS.intro λa4 w4 x4 b7 _ _=>⟨_,b7.at0 xR rfl,e.name,a7.at0 (x2.trans (x3.trans x4)) rfl,?_⟩
  rw[Z7a]
  exact c1 w4 x4
 ·have:=hR w3 (a0.trans x3)
  rw[if_pos hk]at this; exact this
 ·rw[if_neg (by rw[hk]; decide)]at hR
  have a5:=a0.trans (x3.trans x4)
  refine⟨p,rfl,c.u,h.ld0 a5,e.to,a7.at1 (k:=1) (r:=[]) (x2.trans (x3.trans x4)) rfl,b2,⟨b6,oM,oM⟩,ct,by rw[a8,bw]; exact(b0 _ a5).mid (k:=4) rfl,λh0=>?_,λh0=>?_⟩
  ·have:=hR w4 a5
   rw[if_pos oM]at this; exact this
  ·have:=hR w4 a5
   rw[if_neg oM]at this; exact this
theorem Zpa{t:Sl}{x:Stl}(hs:SlR Zlq w S t l)(hR: ∀w',Ext w w'→R (decide (x∈l)) w'):SE.Z9 t (x.src:Int) (x.dst:Int) x.label w R:=by
 unfold SE.Z9
 refine newS.intro λa w1 x1 a5 _ _=>⟨_,_,_,a5.at0 (r:=[]) xR rfl,SE.Zbj.go ?_⟩
 unfold SE.Zbj
 have hl:=hs.len
 refine newS.intro λa2 w2 x2 a6 _ _=> ?_
 refine loop1.up hs.max (λi w'=>Ext w2 w'∧x∉l.take i) ⟨Ext.refl _,nO⟩ λi w3 b0 hi ⟨x3,hI⟩ hn=>⟨λa8=>bnd.drew λw4 x4=>?_,λa9=>?_⟩
 ·have a0:i<l.length:=oM
  obtain⟨ad,ha,_,a7⟩:=Z6u hs a0
  have a4:=(x1.trans x2).trans (x3.trans x4)
  refine⟨_,_,_,a6.at0 (r:=[]) (x3.trans x4) rfl,ad,⟨ha,oM,a8⟩,_,_,_,by rw[bw]; exact a7 _ a4,?_⟩
  have e:(((x.src:Int)==(l[i].src:Int))&&(((x.dst:Int)==(l[i].dst:Int))&&((bEq x.label l[i].label)&&true)))=decide (x=l[i]):=by
   obtain⟨u,y,v⟩:=x
   cases l[i]with
   |mk u' y' v'=>
    rw[ep]
    simp only[bx,beq_iff_eq,Zap,decide_eq_true_eq,Stl.mk.injEq,and_true]
    constructor
    ·rintro⟨h1,h2,h3⟩; exact⟨oM,h3,oM⟩
    ·rintro⟨h1,h2,h3⟩; exact⟨oM,oM,h2⟩
  rw[e]
  refine⟨λhq=>⟨_,rfl,?_⟩,λhq=>hn a0 w4 ⟨x3.trans x4,λhm=>?_⟩⟩
  ·have:=hR w4 a4
   rw[decide_eq_true (by rw[of_decide_eq_true hq]; exact cj a0)]at this
   rw[decide_eq_true oM]; exact this
  ·rw[bu a0]at hm
   rcases dj.1 hm with hm|hm
   ·exact hI hm
   ·exact of_decide_eq_false hq (ci.1 hm)
 ·rw[dg oM]at hI
  have:=hR w3 ((x1.trans x2).trans x3)
  rw[decide_eq_false hI]at this
  exact⟨_,rfl,this⟩
theorem Z5a(hG:I.g=G)(h:PlV Zlq w p S c G P old s)(h1:Zvd s)(a9:to<s.dirs.length)(d8: ∀d∈s.dirs,d.node<G.length)(hb: ∀d∈s.dirs,d.path.length≤4000000)
  (hR: ∀(b:Bool) w',Ext w w'→(b=true↔Sees I s i to)→R b w'):SE.Zd5 (some p) (i:Int) (to:Int) w R:=by
 unfold SE.Zd5
 have e6:=Zm8 h
 have e8:=h.g.len
 obtain⟨ad,qs,_,_,_,ha,_,_,c4,_,_,_,hc⟩:=h.dirEl a9
 have e1:nodeAt s.dirs to=s.dirs[to].node:=Zd1 (bq a9)
 have e2:Zb s.dirs to=s.dirs[to].path:=Zbl (bq a9)
 have hn:s.dirs[to].node<G.length:=d8 _ (cj a9)
 have b8:=hb _ (cj a9)
 have hS:Sees I s i to↔ ∀q∈Ziw G s.dirs[to].node,∃d,⟨i,q.name,d⟩∈s.done∧Zb8 s.dirs s.dirs[to].path q.name s.dirs[to].path.length=some d:=by
  unfold Sees
  rw[hG,e1,e2]
  exact⟨λh q hq=>by obtain⟨d,h2,h3⟩:=h q hq; exact⟨d,(Zu2 h1).1 h2,h3⟩,λh q hq=>by obtain⟨d,h2,h3⟩:=h q hq; exact⟨d,(Zu2 h1).2 h2,h3⟩⟩
 have a7: ∀w',Ext w w'→ ¬Sees I s i to→R false w':=λw' hx h=>hR false w' hx ⟨nO,λhf=>absurd hf h⟩
 rw[hS]at a7 hR
 generalize s.dirs[to].node=nd at*
 generalize s.dirs[to].path=pt at*
 obtain⟨c7,cg,eg,d1,_,b3,_,c1⟩:=Zed h.g hn
 have e5:=b3.len
 have c9:Ziw G nd=G[nd].ctx:=by unfold Ziw; rw[bq hn]
 rw[c9]at a7 hR
 generalize G[nd].ctx=cx at*
 refine bnd.drew λw1 x1=>⟨p,rfl,c.u,h.ld0 x1,p,rfl,c.dr,h.ld x1 7 rfl,ad,⟨ha,oM,oM⟩,(nd:Int),by rw[bw]; exact(hc _ x1).mid (k:=8) (r:=[]) rfl,c7,⟨d1,oM,oM⟩,cg,by rw[bw]; exact(c1 _ x1).mid (k:=4) rfl,?_⟩
 refine loop1.up b3.max (λk w'=>Ext w1 w'∧ ∀q∈cx.take k,∃d,⟨i,q.name,d⟩∈s.done∧Zb8 s.dirs pt q.name pt.length=some d) ⟨Ext.refl _,λ_ h=>by cases h⟩ λk w2 e0 hk ⟨x2,hI⟩ d7=>⟨λd6=>?_,λe7=>?_⟩
 ·have b2:k<cx.length:=oM
  obtain⟨c8,d2,_,c5,c2⟩:=Zlh b3 b2
  have c3:=cj b2
  have d9:cx.take (k+1)=cx.take k++ [cx[k]]:=bu b2
  have c6:=x1.trans x2
  have b9: ∀w',Ext w w'→Ext w1 w'→(∃d,⟨i,cx[k].name,d⟩∈s.done∧Zb8 s.dirs pt cx[k].name pt.length=some d)→e0 (Za ((k:Int)+1)) w':=λw' _ x' hd=>d7 b2 w' ⟨x',λq hq=>by
   rw[d9]at hq
   rcases dj.1 hq with hq|hq
   ·exact hI q hq
   ·rw[ci.1 hq]; exact hd⟩
  have a8: ∀w',Ext w w'→ ¬(∃d,⟨i,cx[k].name,d⟩∈s.done∧Zb8 s.dirs pt cx[k].name pt.length=some d)→R false w':=λw' hx b4=>a7 w' hx λhF=>b4 (hF _ c3)
  generalize cx[k]=q at*
  refine⟨c8,⟨d2,oM,d6⟩,q.name,q.v.ma,q.v.mi,q.v.pa,by rw[bw]; exact c2 _ c6,newS.set rfl λa3 w3 x3 b6 _=>join.named λJ hJ=>bnd.drew λw4 x4=>?_⟩
  have a0:=c6.trans (x3.trans x4)
  have b5: ∀(a5:Addr) w5,Ext w4 w5→BoxAt w5 a5 [.int .i64 (i:Int),.int .i64 (optI (Zb8 s.dirs pt q.name pt.length)),.string q.name]→J a5 w5:=λa5 w5 x5 a4=>by
   rw[hJ]
   have b0:=a0.trans x5
   refine bnd.drew λw6 x6=>⟨_,a4.at1 (k:=1) x6 rfl,bound ?_⟩
   have b1:=b0.trans x6
   have e3:Ext w1 w6:=x2.trans (x3.trans (x4.trans (x5.trans x6)))
   cases hlk:Zb8 s.dirs pt q.name pt.length with
   |none=>
    have b4: ¬ ∃d,(⟨i,q.name,d⟩:Stl)∈s.done∧Zb8 s.dirs pt q.name pt.length=some d:=λ⟨d,_,h2⟩=>by rw[hlk]at h2; cases h2
    refine⟨p,nO,c.st,nO,0,0,⟨#[]⟩,nO,?_⟩
    exact gCall.intro true nO λt w7 x7 _=>⟨λ_=>a8 w7 (b1.trans x7) b4,nO⟩
   |some d=>
    have d5:decide ((optI (some d))<0)=false:=decide_eq_false (by show ¬((d:Nat):Int)<0; omega)
    rw[hlk]at a4
    rw[d5]
    refine⟨p,λ_=>rfl,c.st,λ_=>h.ld b1 8 (r:=[]) rfl,(i:Int),(d:Int),q.name,λ_=>a4.at0 (r:=[]) x6 rfl,?_⟩
    refine gCall.intro (decide ((⟨i,q.name,d⟩:Stl)∈s.done)) (λ_ r hr=>SE.Z9.go (Zpa (x:=⟨i,q.name,d⟩) (h.st.ext b1) λw7 x7=>⟨_,rfl,hr w7 x7⟩)) λe9 w7 x7 d0=>?_
    rw[d0 rfl]
    refine⟨λhq=>a8 w7 (b1.trans x7) λ⟨d',h2,h3⟩=>?_,λhq=>b9 w7 (b1.trans x7) (e3.trans x7) ⟨d,by simpa using hq,hlk⟩⟩
    rw[hlk]at h3
    cases h3
    rw[decide_eq_true h2]at hq; cases hq
  refine⟨p,rfl,c.dr,h.ld a0 7 rfl,ad,⟨ha,oM,oM⟩,qs,by rw[bw]; exact(hc _ a0).pre rfl,q.name,b6.at0 x4 rfl,q.name,b6.at0 x4 rfl,?_,?_⟩
  ·refine callX.intro (SE.Zat.go (Zk9 c5 pt.length (h.ext a0) (h.lt.ext a0.size) (c4.ext a0) rfl b8 λw5 x5=>⟨x5,_,rfl,newS.set rfl λa6 w6 x6 d3 _=>b5 a6 w6 (x5.trans x6) d3⟩))
  ·refine newS.intro λa5 w5 x5 a4 e4 _=> ?_
   have b0:=a0.trans x5
   refine callX.intro (SE.Zat.go (Zk9 c5 pt.length (h.ext b0) (h.lt.ext b0.size) (c4.ext b0) rfl b8 λw6 x6=>⟨x6,_,rfl,stw0.intro (a4.ext x6) nR λw7 b7 _ d4=>b5 a5 w7 ?_ d4⟩))
   exact b7.ext (x5.trans x6) oM
 ·rw[dg oM]at hI
  exact hR true w2 (x1.trans x2) ⟨λ_=>hI,λ_=>rfl⟩
end
def slcE:Enc Sl:=Zoi 1 24 slC (λ_=>True) (λ_=>rfl) (λ_ v hv=>by simp[slC,Sl.v]at hv; subst hv; rfl)
theorem apSls:ApT prog 175 67 1 24:=Zhv (z:=.slice none 0 0) kR kR rfl dC
theorem OldR.none_{old:Option (List Dir)}(h:OldR w S old none):old=none:=by
 cases old with
 |none=>rfl
 |some T=>exact h.elim
theorem OldR.some_{old:Option (List Dir)}{ol:Option Addr}(h:OldR w S old ol)(h0: ¬ol=none): ∃ao T,ol=some ao∧old=some T∧S ao.block∧ ∃so,ldc w ao [Sl.v so]∧SlR dirE w S so T:=by
 cases ol with
 |none=>exact absurd rfl h0
 |some ao=>
  cases old with
  |none=>exact h.elim
  |some T=>exact⟨ao,T,rfl,rfl,h⟩
def Zlg(old:Option (List Dir))(P:List Pack)(p:Path)(k:Nat):Bool:=match old with
 |none=>false
 |some T=>match Zbv (T.map drOf) p with
  |none=>false
  |some j=>decide (T[j]?.map Dir.pack=P[k]?)
section
variable {w:World} {p:Addr} {S Q:Nat→Prop} {c:PC} {G:List Node} {P:List Pack} {old:Option (List Dir)} {s:PlS}
theorem Z5b{t:Sl}{q:Path}{k:Nat}{R:Sl→World→Prop}(h:PlV Zlq w p S c G P old s)(hd:Zqt s)(hQ:Old Q w)(ht:SlR strE w Q t q)(hx:Str e.name)(hk:e.to=(k:Int))(d0:k<P.length)(hb:q.length≤4000000)
  (f1: ∃n,Spot s q e.name n) (hR: ∀n w',Ext w w'→Best s q e.name (λn=>Zlg old P (q.take n++ [e.name]) k) n→R (Sl.cut t 0 n 1) w'):SE.Zd6 (some p) t e.name e.to w R:=by
 unfold SE.Zd6
 have g7:=ht.len
 have g1:q.length≤t.cap:=ht.2.1
 have g6:=h.pk.len
 refine newS.intro λa w1 x1 b8 _ _=> ?_
 have ew:Za ((t.len:Int)+1)=((q.length+1:Nat):Int):=by rw[Zc oM oM]; omega
 rw[ew]
 have g4: ∀{w:World} {S S':Nat→Prop} {x:Sl} {cs:List Value},slcE.rep w S x cs→slcE.rep w S' x cs:=λh=>h
 refine loop2.up (N:=q.length+1) (by rw[Zd]; omega) (λso i w'=>∃ns:List Nat,Ext w1 w'∧OwnS slcE 67 w' w1.heap.size None' so (ns.map λn=>Sl.cut t 0 n 1)∧(∀n,n∈ns↔n<i∧Spot s q e.name n)∧ns.Pairwise (· < ·)∧ns.length≤i) ⟨[],Ext.refl _,OwnS.zero _,λn=>by simp,.nil,df _⟩ λso i w2 g8 hi ⟨ns,x2,o2,b3,b4,g5⟩ hn=>⟨λd1=>join.named λJ hJ=>?_,λf2=>?_⟩
 ·have b1:i<q.length+1:=oM
  have c3:=x1.trans x2
  refine⟨e.name,b8.at0 x2 rfl,?_⟩
  refine SE.Zd3.go (Z47 (h.ext c3) hd (hQ.ext c3.size) (ht.ext c3) hx oM hb λb w3 x3 c7=>⟨b,rfl,λb0=>?_,λb0=>?_⟩)
  ·have a8:=c7.1 b0
   refine⟨⟨oM,oM⟩,newS.intro λa4 w4 x4 c8 _ _=> ?_⟩
   rw[bw]at c8
   refine(o2.ext (x3.trans x4)).pushF (x2.trans (x3.trans x4)) apSls (x:=Sl.cut t 0 i 1) ⟨rfl,trivial⟩ (c8.ldc.pre (r:=[]) rfl) dC (by rw[cm]; show(ns.length+1)*24≤room; unfold room; omega) λr w5 o5 x5=>?_
   rw[hJ]
   refine hn b1 r w5 ⟨ns++ [i],x5,by rw[ec]; exact o5,λn=>?_,?_,by simp; omega⟩
   ·rw[dj,ci,b3]
    constructor
    ·rintro(⟨h1,h2⟩|rfl)
     ·exact⟨oM,h2⟩
     ·exact⟨oM,a8⟩
    ·rintro⟨h1,h2⟩
     rcases dn.1 h1 with h3|h3
     ·exact .inl ⟨h3,h2⟩
     ·exact .inr h3
   ·rw[eu]
    refine⟨b4,im _ _,λa ha b hb=>?_⟩
    rw[ci.1 hb]
    exact((b3 a).1 ha).1
  ·have a8: ¬Spot s q e.name i:=λhs=>by rw[c7.2 hs]at b0; cases b0
   rw[hJ]
   refine hn b1 so w3 ⟨ns,x2.trans x3,o2.ext x3,λn=>?_,b4,oM⟩
   rw[b3]
   constructor
   ·rintro⟨h1,h2⟩; exact⟨oM,h2⟩
   ·rintro⟨h1,h2⟩
    rcases dn.1 h1 with h3|h3
    ·exact⟨h3,h2⟩
    ·subst h3; exact absurd h2 a8
 ·have b1:i=q.length+1:=oM
  subst b1
  have a6: ∀n,n∈ns↔Spot s q e.name n:=λn=>by
   rw[b3]
   exact⟨λ⟨_,h⟩=>h,λh=>⟨by have:=h.le; omega,h⟩⟩
  have f8:=o2.len
  rw[cm]at f8
  have b7:0<ns.length:=by
   obtain⟨n,hn⟩:=f1
   exact ig.2 λe=>by have:=(a6 n).2 hn; rw[e]at this; cases this
  have c9: ∀j (hj:j<ns.length),∃ad,so.a=some ad∧ ∀w',Ext w2 w'→ldc w' (ad.add (j*1)) [Sl.v (Sl.cut t 0 ns[j] 1)]:=λj hj=>by
   obtain⟨ad,cs,h1,⟨rfl,_⟩,h3⟩:=o2.el (x:=Sl.cut t 0 ns[j] 1) (by rw[fi,bq hj]; rfl)
   exact⟨ad,h1,h3⟩
  refine join.named λJ hJ=>?_
  have c5: ∀w3,Ext w2 w3→(∀j (hj:j<ns.length),Zlg old P (q.take ns[j]++ [e.name]) k=false)→J w3:=λw3 x3 c2=>by
   rw[hJ]
   obtain⟨ad,ha,c1⟩:=c9 0 b7
   exact⟨ad,⟨ha,Int.le_refl _,oM⟩,_,c1 _ x3,hR _ w3 (x1.trans (x2.trans x3)) (Best.none a6 b4 b7 c2)⟩
  refine loop1.up (N:=ns.length) (by rw[Zd]; omega) (λj w'=>Ext w2 w'∧ ∀i (hi:i<ns.length),i<j→Zlg old P (q.take ns[i]++ [e.name]) k=false) ⟨Ext.refl _,λi _ h=>by omega⟩ λj w3 d5 hj ⟨x3,hI⟩ f5=>⟨λd1=>?_,λf2=>c5 w3 x3 λi hi=>hI i hi oM⟩
  have b2:j<ns.length:=oM
  obtain⟨ad,ha,c1⟩:=c9 j b2
  have a8:Spot s q e.name ns[j]:=(a6 _).1 (cj b2)
  have f4:=a8.le
  have d7:=(x1.trans x2).trans x3
  refine⟨ad,⟨ha,oM,d1⟩,Sl.cut t 0 ns[j] 1,by rw[bw]; exact c1 _ x3,p,rfl,c.ol,h.ld d7 6 rfl,λh0=>?_,λh0=>?_⟩
  ·have f9:old=none:=by
    have:=h.old
    rw[h0]at this
    exact this.none_
   exact c5 w3 x3 λi hi=>by rw[f9]; rfl
  ·obtain⟨ao,T,c6,f7,g3,d6,b6,a7⟩:=h.old.some_ h0
   have g2:=a7.len
   refine bnd.drew λw4 x4=>?_
   have a9:=d7.trans x4
   have b5:=(ht.ext a9).cut (a:=0) (b:=ns[j]) (eh _) f4
   rw[gz]at b5
   refine⟨p,rfl,c.ol,h.ld a9 6 rfl,ao,c6,d6,b6.ext a9,e.name,b8.at0 (x2.trans (x3.trans x4)) rfl,callX.intro (SE.Zcu.go (pinside_se (hQ.ext a9.size) b5 hx (by rw[cd]; omega) λt5 w5 x5 o5=>⟨x5,_,rfl,?_⟩))⟩
   have d8:=a9.trans x5
   refine SE.Zg4.go (Zjy (a7.ext d8) (o5.strs (by rw[br,cd,fl]; omega)) λw6 x6=>⟨_,rfl,bnd.drew λw7 x7=>bound ?_⟩)
   have a5:=d8.trans (x6.trans x7)
   have d9:Ext w2 w7:=x3.trans (x4.trans (x5.trans (x6.trans x7)))
   rw[Zgu]
   have a0:Zlg old P (q.take ns[j]++ [e.name]) k=match Zbv (T.map drOf) (q.take ns[j]++ [e.name])with
    |none=>false
    |some i=>decide (T[i]?.map Dir.pack=P[k]?):=by rw[f7]; rfl
   have d3:Zlg old P (q.take ns[j]++ [e.name]) k=false→ ∀w8,Ext w7 w8→d5 (Za ((j:Int)+1)) w8:=λc2 w8 x8=>f5 b2 w8 ⟨d9.trans x8,λi hi b9=>by
    rcases dn.1 b9 with h'|h'
    ·exact hI i hi h'
    ·subst h'; exact c2⟩
   cases hf:Zbv (T.map drOf) (q.take ns[j]++ [e.name])with
   |none=>
    rw[hf]at a0
    refine⟨p,nO,none,nO,p,nO,t,nO,ad,nO,⟨#[]⟩,0,0,0,t,t,t,nO,p,nO,t,nO,0,nO,ad,nO,⟨#[]⟩,0,0,0,t,t,t,nO,?_⟩
    exact gCall.intro true nO λg0 w8 x8 _=>⟨λh=>(by cases h),λ_=>d3 a0 w8 x8⟩
   |some m=>
    rw[hf]at a0
    have d2:m<T.length:=by
     obtain⟨d,h1,_⟩:=Zdu hf
     have:=(ce.1 h1).1
     rwa [cm]at this
    have a0:Zlg old P (q.take ns[j]++ [e.name]) k=decide (T[m].pack=P[k]):=by
     rw[a0]
     show decide (T[m]?.map Dir.pack=P[k]?)=_
     rw[bq d2,bq d0,gv]
     simp only[cw]
    obtain⟨c4,qT,dT,eT,oT,e4,_,_,_,e8,f0,d4,e6⟩:=dirEl a7 d2
    obtain⟨e1,dP,eP,oP,e3,_,_,e7,e9,f6,e5⟩:=Zmm h.pk d0
    have e0:decide (0≤optI (some m))=true:=decide_eq_true (by show(0:Int)≤(m:Int); omega)
    rw[e0]
    refine⟨p,λ_=>rfl,c.ol,λ_=>h.ld a5 6 rfl,ao,λ_=>c6,d6,λ_=>b6.ext a5,c4,λ_=>⟨e4,by show(0:Int)≤(m:Int); omega,by show(m:Int)<_; omega⟩,T[m].pack.name,T[m].pack.v.ma,T[m].pack.v.mi,T[m].pack.v.pa,dT,eT,oT,λ_=> ?_,p,λ_=>rfl,c.ps,λ_=>h.ld a5 1 rfl,e.to,λ_=>b8.at1 (k:=1) (r:=[]) (d9.trans xR |>(x2.trans ·)) rfl,e1,λ_=>⟨e3,oM,oM⟩,P[k].name,P[k].v.ma,P[k].v.mi,P[k].v.pa,dP,eP,oP,λ_=>by rw[hk,bw]; exact e5 _ a5,?_⟩
    ·show ldc w7 ((c4.add (m*9)).add 1) _
     exact(e6 _ a5).mid (k:=1) rfl
    refine gCall.intro (decide (T[m].pack=P[k])) (λ_ r hr=>SE.Zfy.go (Zh2 (p:=T[m].pack) (q:=P[k]) (e8.ext a5) (f0.ext a5) (d4.ext a5) (e7.ext a5) (e9.ext a5) (f6.ext a5) λw8 x8=>⟨_,rfl,hr w8 x8⟩)) λg0 w8 x8 e2=>?_
    rw[e2 rfl,←a0]
    refine⟨λhq=>?_,λhq=>d3 (by simpa using hq) w8 x8⟩
    exact hR ns[j] w8 (a5.trans x8) (Best.first a6 b4 b2 (by simpa using hq) λi hi b9=>hI i hi b9)
end
structure MlV(E:Enc Stl)(T:TypeId)(w:World)(lo:Nat)(p:Addr)(S:Nat→Prop)(c:PC)(G:List Node)(P:List Pack)(old:Option (List Dir))(s:PlS):Prop where
 box:BoxAt w p c.c
 plo:lo≤p.block
 g:SlR nodeE w S c.u G
 pk:SlR packE w S c.ps P
 old:OldR w S old c.ol
 lt:Old S w
 nS: ¬S p.block
 dr: ∃D,OwnS dirE 69 w lo D c.dr (s.dirs.map (dirOf P))∧ ¬D p.block∧(∀ad,c.st.a=some ad→ ¬D ad.block)∧ ∀b,D b→S b∨p.block<b
 st:OwnS E T w lo None' c.st s.done
 drP: ∀ad,c.dr.a=some ad→ad.block≠p.block∧ ¬S ad.block
 stP: ∀ad,c.st.a=some ad→ad.block≠p.block∧ ¬S ad.block
 apart: ∀a b,c.dr.a=some a→c.st.a=some b→a.block≠b.block
section
variable {E:Enc Stl} {T:TypeId} {w w':World} {lo:Nat} {p:Addr} {S:Nat→Prop} {c:PC} {G:List Node} {P:List Pack} {old:Option (List Dir)} {s:PlS}
theorem MlV.ext(h:MlV E T w lo p S c G P old s)(hx:Ext w w'):MlV E T w' lo p S c G P old s:=by
 obtain⟨D,h1,h2⟩:=h.dr
 exact⟨h.box.ext hx,h.plo,h.g.ext hx,h.pk.ext hx,h.old.ext hx,h.lt.ext hx.size,h.nS,⟨D,h1.ext hx,h2⟩,h.st.ext hx,h.drP,h.stP,h.apart⟩
theorem MlV.read(h:MlV E T w lo p S c G P old s)(hd:s.dirs.length≤1000)(hs:s.done.length*E.bytes≤room∧s.done.length≤maxLen):PlV E w p (λb=>b<w.heap.size) c G P old s:=by
 obtain⟨D,h1,_⟩:=h.dr
 have r1:=h1.read (by rw[cm]; show s.dirs.length*144≤room; unfold room; omega) (by rw[cm,Zd]; omega)
 have r2:=h.st.read hs.1 hs.2
 refine⟨h.box,h.g.mono λb hb=>h.lt b hb,h.pk.mono λb hb=>h.lt b hb,r1.mono λb hb=>?_,r2.mono λb hb=>?_,?_,λb hb=>hb⟩
 ·rcases hb with hb|⟨ad,ha,rfl⟩
  ·exact h1.lt b hb
  ·exact(h1.block ha).2.1
 ·rcases hb with hb|⟨ad,ha,rfl⟩
  ·exact hb.elim
  ·exact(h.st.block ha).2.1
 ·have ho:=h.old
  unfold OldR at ho ⊢
  split at ho
  ·trivial
  ·obtain⟨k1,so,k2,k3⟩:=ho
   exact⟨h.lt _ k1,so,k2,k3.mono λb hb=>h.lt b hb⟩
  ·exact ho
theorem OldR.keep{ol:Option Addr}(h:OldR w S old ol)(hk:Keep S w w'):OldR w' S old ol:=by
 unfold OldR at*
 split at h
 ·trivial
 ·obtain⟨h1,so,h2,h3⟩:=h
  exact⟨h1,so,h2.keep h1 hk,h3.keep hk⟩
 ·exact h
structure Mv(lo:Nat)(p:Addr)(c:PC)(w:World)(c':PC)(w':World):Prop where
 bel:Below lo w w'
 oth: ∀b,b<w.heap.size→b≠p.block→(∀ad,c.dr.a=some ad→b≠ad.block)→(∀ad,c.st.a=some ad→b≠ad.block)→w'.heap[b]? =w.heap[b]?
 dr: ∀ad,c'.dr.a=some ad→c.dr.a=some ad∨w.heap.size≤ad.block
 st: ∀ad,c'.st.a=some ad→c.st.a=some ad∨w.heap.size≤ad.block
 same:c'={c with dr:=c'.dr,st:=c'.st}
theorem Mv.size(h:Mv lo p c w c' w'):w.heap.size≤w'.heap.size:=Below.size h.bel
theorem Mv.of{c:PC}(hx:Ext w w')(hl:lo≤w.heap.size):Mv lo p c w c w':=⟨Below.mono hx hl,λ_ hb _ _ _=>hx.block hb,λ_ h=>.inl h,λ_ h=>.inl h,rfl⟩
theorem Mv.trans{c1 c2:PC}{w1 w2:World}(h:Mv lo p c w c1 w1)(k:Mv lo p c1 w1 c2 w2):Mv lo p c w c2 w2:=by
 have hs:=h.size
 refine⟨Below.trans h.bel k.bel,λb hb h1 h2 h3=>?_,λad ha=>?_,λad ha=>?_,?_⟩
 ·rw[k.oth b oM h1 (λad ha e=>?_) λad ha e=>?_,h.oth b hb h1 h2 h3]
  ·rcases h.dr ad ha with q|q
   ·exact h2 ad q e
   ·omega
  ·rcases h.st ad ha with q|q
   ·exact h3 ad q e
   ·omega
 ·rcases k.dr ad ha with q|q
  ·exact h.dr ad q
  ·right; omega
 ·rcases k.st ad ha with q|q
  ·exact h.st ad q
  ·right; omega
 ·rw[k.same,h.same]
theorem Mv.box(h:Mv lo p c w c' w')(hb:BoxAt w a cs)(h1:a.block≠p.block)(h2: ∀ad,c.dr.a=some ad→a.block≠ad.block)(h3: ∀ad,c.st.a=some ad→a.block≠ad.block):BoxAt w' a cs:=
 hb.keep (S:=λb=>b≠p.block∧(∀ad,c.dr.a=some ad→b≠ad.block)∧ ∀ad,c.st.a=some ad→b≠ad.block) ⟨h1,h2,h3⟩ λb hb hl=>h.oth b hl hb.1 hb.2.1 hb.2.2
theorem MlV.lo_le(h:MlV E T w lo p S c G P old s):lo≤w.heap.size:=by have:=h.plo; have:=h.box.lt; omega
theorem MlV.mv(h:MlV E T w lo p S c G P old s)(k:Mv lo p c w c' w'):Keep S w w':=λb hb hl=>k.oth b hl (λe=>h.nS (e▸hb)) (λad ha e=>(h.drP ad ha).2 (e▸hb)) λad ha e=>(h.stP ad ha).2 (e▸hb)
theorem MlV.pushD{x:Dr}(h:MlV E T w lo p S c G P old s)(hx:dirE.rep w Q (dirOf P x) cs)(hc:ldc w a cs)
  (hQ: ∀b,Q b→b<w.heap.size∧b≠p.block∧(∀ad,c.dr.a=some ad→b≠ad.block)∧(∀ad,c.st.a=some ad→b≠ad.block)∧(S b∨p.block<b)) (hl:s.dirs.length≤1000)
  (hk: ∀r w',MlV E T w' lo p S {c with dr:=r} G P old ⟨s.dirs++ [x],s.done⟩→Mv lo p c w {c with dr:=r} w'→K w'):
  appS prog 28 28 c.dr (Sl.v ⟨some a,1,1⟩) w λt w1=>∃p1:Addr,some p=some p1∧stw w1 (p1.add 7) [Sl.v t] K:=by
 obtain⟨D,o,a6,a9,a8⟩:=h.dr
 have b3:=h.box.lt
 refine o.push Zz6 h.lo_le hx hc (λb hb=>(hQ b hb).1) (λad ha hb=>(hQ _ hb).2.2.1 ad ha rfl) (by rw[cm]; show _*144≤room; unfold room; omega) (by rw[cm,Zd]; omega) λr w1 o1 bel oth a5=>⟨p,rfl,?_⟩
 have b4:=Below.size bel
 have b0:BoxAt w1 p c.c:=h.box.keep (S:=λb=>∀ad,c.dr.a=some ad→b≠ad.block) (λad ha e=>(h.drP ad ha).1 e.symm) λb hb hl=>oth b hl hb
 refine stw.intro (old:=c.c) b0 (o:=7) (by show 7+1≤9; omega) λw2 b2 b6 b1=>?_
 have b5:=b2.1
 have a0: ∀b,b<w.heap.size→b≠p.block→(∀ad,c.dr.a=some ad→b≠ad.block)→w2.heap[b]? =w.heap[b]? :=λb hb h1 h2=>(b2.2.2.2.2 b oM h1).trans (oth b hb h2)
 have mv:Mv lo p c w {c with dr:=r} w2:=⟨Below.trans bel (b2.below (by have:=h.lo_le; omega) h.plo),λb hb h1 h2 _=>a0 b hb h1 h2,a5,λ_ h=>.inl h,rfl⟩
 have a4:=h.mv mv
 have a7: ∀ad,r.a=some ad→ad.block≠p.block∧ ¬S ad.block:=λad ha=>by
  rcases a5 ad ha with q|q
  ·exact h.drP ad q
  ·exact⟨oM,λhS=>by have:=h.lt _ hS; omega⟩
 refine hk r w2 ⟨b1,h.plo,h.g.keep a4,h.pk.keep a4,h.old.keep a4,λb hb=>by have:=h.lt b hb; omega,h.nS,⟨λb=>D b∨Q b,?_,λhb=>?_,λad ha hb=>?_,λb hb=>?_⟩,?_,a7,h.stP,λu v hu hv=>?_⟩ mv
 ·have:=o1.but b2 (λhb=>?_) λad ha=>Ne.symm (a7 ad ha).1
  ·rw[←List.map_singleton (f:=dirOf P),←ec]at this
   exact this
  ·rcases hb with hb|hb
   ·exact a6 hb
   ·exact(hQ _ hb).2.1 rfl
 ·rcases hb with hb|hb
  ·exact a6 hb
  ·exact(hQ _ hb).2.1 rfl
 ·rcases hb with hb|hb
  ·exact a9 ad ha hb
  ·exact(hQ _ hb).2.2.2.1 ad ha rfl
 ·rcases hb with hb|hb
  ·exact a8 b hb
  ·exact(hQ b hb).2.2.2.2
 ·refine h.st.keep mv.size λb hb hq=>?_
  rcases hq with hq|⟨ad,ha,rfl⟩
  ·exact hq.elim
  ·exact a0 _ hb (h.stP ad ha).1 λd hd e=>h.apart d ad hd ha e.symm
 ·rcases a5 u hu with q|q
  ·exact h.apart u v q hv
  ·have:=(h.st.block hv).2.1; omega
theorem MlV.pushSO{x:Stl}(h:MlV E T w lo p S c G P old s)(hT:ApT prog t T E.n E.bytes)(hx: ∀w,E.rep w None' x cs)(b3: ∀{w S S' x cs},E.rep w S x cs→E.rep w S' x cs)(hc:ldc w a cs)(hl:(s.done.length+1)*E.bytes≤room∧s.done.length+1≤maxLen)
  (hk: ∀r w',MlV E T w' lo p S {c with st:=r} G P old ⟨s.dirs,s.done++ [x]⟩→Mv lo p c w {c with st:=r} w'→(∀b,b<w.heap.size→b≠p.block→(∀ad,c.st.a=some ad→b≠ad.block)→w'.heap[b]? =w.heap[b]?)→K w'):
  appS prog t t c.st (Sl.v ⟨some a,1,1⟩) w λt w1=>∃p1:Addr,some p=some p1∧stw w1 (p1.add 8) [Sl.v t] K:=by
 obtain⟨D,o,a6,a7,a9⟩:=h.dr
 have b4:=h.box.lt
 refine h.st.push hT h.lo_le (hx w) hc (λb hb=>hb.elim) (λad ha hb=>hb) hl.1 hl.2 λr w1 o1 bel oth a4=>⟨p,rfl,?_⟩
 have o1:=o1.flat b3
 have b5:=Below.size bel
 have b0:BoxAt w1 p c.c:=h.box.keep (S:=λb=>∀ad,c.st.a=some ad→b≠ad.block) (λad ha e=>(h.stP ad ha).1 e.symm) λb hb hl=>oth b hl hb
 refine stw.intro (old:=c.c) b0 (o:=8) (by show 8+1≤9; omega) λw2 b2 b7 b1=>?_
 have b6:=b2.1
 have a0: ∀b,b<w.heap.size→b≠p.block→(∀ad,c.st.a=some ad→b≠ad.block)→w2.heap[b]? =w.heap[b]? :=λb hb h1 h2=>(b2.2.2.2.2 b oM h1).trans (oth b hb h2)
 have mv:Mv lo p c w {c with st:=r} w2:=⟨Below.trans bel (b2.below (by have:=h.lo_le; omega) h.plo),λb hb h1 _ h3=>a0 b hb h1 h3,λ_ h=>.inl h,a4,rfl⟩
 have a5:=h.mv mv
 have a8: ∀ad,r.a=some ad→ad.block≠p.block∧ ¬S ad.block:=λad ha=>by
  rcases a4 ad ha with q|q
  ·exact h.stP ad q
  ·exact⟨oM,λhS=>by have:=h.lt _ hS; omega⟩
 refine hk r w2 ⟨b1,h.plo,h.g.keep a5,h.pk.keep a5,h.old.keep a5,λb hb=>by have:=h.lt b hb; omega,h.nS,⟨D,?_,a6,λad ha hb=>?_,a9⟩,o1.but b2 (λh=>h) λad ha=>Ne.symm (a8 ad ha).1,h.drP,a8,λu v hu hv=>?_⟩ mv a0
 ·refine o.keep mv.size λb hb hq=>?_
  rcases hq with hq|⟨ad,ha,rfl⟩
  ·exact a0 b hb (λe=>a6 (e▸hq)) λd hd e=>a7 d hd (e▸hq)
  ·exact a0 _ hb (h.drP ad ha).1 λd hd e=>h.apart ad d ha hd e
 ·rcases a4 ad ha with q|q
  ·exact a7 ad q hb
  ·have:=o.lt _ hb; omega
 ·rcases a4 v hv with q|q
  ·exact h.apart u v hu q
  ·have:=(o.block hu).2.1; omega
theorem MlV.pushS{x:Stl}(h:MlV E T w lo p S c G P old s)(hT:ApT prog t T E.n E.bytes)(hx: ∀w,E.rep w None' x cs)(a0: ∀{w S S' x cs},E.rep w S x cs→E.rep w S' x cs)(hc:ldc w a cs)(hl:(s.done.length+1)*E.bytes≤room∧s.done.length+1≤maxLen)
  (hk: ∀r w',MlV E T w' lo p S {c with st:=r} G P old ⟨s.dirs,s.done++ [x]⟩→Mv lo p c w {c with st:=r} w'→K w'):
  appS prog t t c.st (Sl.v ⟨some a,1,1⟩) w λt w1=>∃p1:Addr,some p=some p1∧stw w1 (p1.add 8) [Sl.v t] K:=h.pushSO hT hx a0 hc hl λr w' a b _=>hk r w' a b
end
theorem PInv.plen{a:Nat}(h:PInv g s a): ∀(i:Nat) (d:Dr),s.dirs[i]? =some d→d.path.length≤i:=λi=>by
 induction i using Nat.strongRecOn with
 |ind i ih=>
  intro d hd
  by_cases h0:d.path= []
  ·rw[h0]; exact eh _
  ·obtain⟨j,h1,h2⟩:=h.up i d _ _ hd (List.dropLast_concat_getLast h0).symm
   obtain⟨e,h3,h4⟩:=Zdu h2
   have:=ih j h1 e h3
   rw[h4,List.length_dropLast]at this
   have:=ig.2 h0
   omega
end Go.Hal
namespace Go.Hal
def Zcm(L:List Pack)(g:List Node):List Pack:=(List.range g.length).map λi=>if i=0 then Zx else match g[i]? with
 |some x=>(getL L x.name x.v).getD Zx
 |none=>Zx
end Go.Hal
namespace Go.Hal
def plI(G:List Node)(P:List Pack)(old:Option (List Dir))(D M:Int):PlI:=⟨G,Zlg old P,λp=>(Z5 p).length,M,D⟩
def pl0:PlS:=⟨[⟨[],0⟩],[]⟩
def LimP(D M:Int):Prop:=1≤D∧D≤256∧1≤M∧M≤1024
def Zrx(old:Option (List Dir)):Prop:=∀T,old=some T→TreeOk T
inductive PlaceR (G:List Node) (P:List Pack) (old:Option (List Dir)) (D M:Int):Int→List Dir→Prop
 |arg: ¬LimP D M→PlaceR G P old D M 1 []
 |tree:LimP D M→ ¬Zrx old→PlaceR G P old D M 42 []
 |graph:LimP D M→Zrx old→ ¬PlaceOk G P→PlaceR G P old D M 33 []
 |stop {c:Int} {s:PlS}:LimP D M→Zrx old→PlaceOk G P→DirsR (plI G P old D M) 0 pl0 c s→c≠0→PlaceR G P old D M c []
 |ok {s:PlS} {es:List Dr}:LimP D M→Zrx old→PlaceOk G P→DirsR (plI G P old D M) 0 pl0 0 s→SortedD s.dirs es→PlaceR G P old D M 0 (es.map (dirOf P))
theorem PlaceOk.grPl{ps:List Pack}(h:PlaceOk g ps):GrPl g:=by
 have hl:=h.len
 refine⟨oM,λx hx=>?_,λx hx e he=>?_⟩
 ·obtain⟨i,hi⟩:=ip hx
  exact(h.node i x hi).edges
 ·obtain⟨i,hi⟩:=ip hx
  obtain⟨j,y,h1,_,h3,_⟩:=(h.node i x hi).edge e he
  have:=(ce.1 h3).1
  omega
theorem PlaceR.one{old:Option (List Dir)}{c d:Int}{T U:List Dir}(h:PlaceR G P old D M c T)(k:PlaceR G P old D M d U):c=d∧T=U:=by
 cases h with
 |arg h1=>
  cases k with
  |arg=>exact⟨rfl,rfl⟩
  |tree k1=>exact absurd k1 h1
  |graph k1=>exact absurd k1 h1
  |stop k1=>exact absurd k1 h1
  |ok k1=>exact absurd k1 h1
 |tree h1 h2=>
  cases k with
  |arg k1=>exact absurd h1 k1
  |tree=>exact⟨rfl,rfl⟩
  |graph k1 k2=>exact absurd k2 h2
  |stop k1 k2=>exact absurd k2 h2
  |ok k1 k2=>exact absurd k2 h2
 |graph h1 h2 h3=>
  cases k with
  |arg k1=>exact absurd h1 k1
  |tree k1 k2=>exact absurd h2 k2
  |graph=>exact⟨rfl,rfl⟩
  |stop k1 k2 k3=>exact absurd k3 h3
  |ok k1 k2 k3=>exact absurd k3 h3
 |stop h1 h2 h3 h4 h5=>
  cases k with
  |arg k1=>exact absurd h1 k1
  |tree k1 k2=>exact absurd h2 k2
  |graph k1 k2 k3=>exact absurd h3 k3
  |stop k1 k2 k3 k4 k5=>exact⟨(h4.one k4).1,rfl⟩
  |ok k1 k2 k3 k4 k5=>exact absurd (h4.one k4).1 h5
 |ok h1 h2 h3 h4 h5=>
  cases k with
  |arg k1=>exact absurd h1 k1
  |tree k1 k2=>exact absurd h2 k2
  |graph k1 k2 k3=>exact absurd h3 k3
  |stop k1 k2 k3 k4 k5=>exact absurd (h4.one k4).1.symm k5
  |ok k1 k2 k3 k4 k5=>
   have e:=(h4.one k4).2
   subst e
   have hd:=(DirsR.placed (I:=plI G P old D M) h3.grPl h4).dirsOk h3
   exact⟨rfl,by rw[h5.one hd k5]⟩
end Go.Hal
namespace Go.Hal
theorem gCall.holds{τ:Type}{g:Bool}{k:τ→World→Prop}{A:(τ→World→Prop)→Prop}{d:τ}(P:τ→Prop)(hA:g=true→ ∀q:τ→World→Prop,(∀t w',Ext w w'→P t→q t w')→A q)
  (hk: ∀t w',Ext w w'→(g=true→P t)→k t w'):gCall g k A (λq=>q d w):=
 ⟨λhg=>hA hg _ λt w' hx hp=>hk _ _ hx λ_=>hp,λhg=>hk _ _ xR λh=>by rw[hg]at h; cases h⟩
theorem Zhx{s:Sl}{l:List Edge}(h:SlR edgeE w S s l)(hn:n<l.length):
  ∃ad,s.a=some ad∧Str l[n].name∧ ∀w',Ext w w'→ldc w' (ad.add (n*2)) [.string l[n].name,.int .i64 l[n].to]:=by
 obtain⟨ad,cs,h1,h2,⟨rfl,h3⟩,h4⟩:=h.el hn
 exact⟨ad,h1,h3,h4⟩
def Z71(m:Mani):Int:=if Zef m then 0 else 25
def Z72(m:Mani):ByteArray:=if Zef m then B (Zk7 m)else⟨#[]⟩
theorem Zql{m:Mani}(h:Zef m=true):Zgy m=true:=by
 unfold Zef at h
 rw[bx]at h; exact h.1
theorem Zua{m:Mani}{d e o v:Sl}{R:ByteArray→Int→World→Prop}(ht:Tab w)(hS:Old S w)(hd:SlR depE w S d m.deps)(he:SlR depE w S e m.dev)(ho:SlR depE w S o m.opt)(hv:SlR depE w S v m.over)
  (hR: ∀w',Ext w w'→R (Z72 m) (Z71 m) w'):SE.Zfl d e o v w R:=by
 unfold SE.Zfl
 refine newS.intro λa w1 x1 a4 _ _=>⟨d,e,o,v,a4.ldc.pre (r:=[]) rfl,?_⟩
 refine SE.Ze5.go (Zni (m:=m) (ht.ext x1) (hS.ext x1.size) (hd.ext x1) (he.ext x1) (ho.ext x1) (hv.ext x1) λw2 x2=>⟨_,rfl,λh=>?_,λh=>?_⟩)
 ·have h:Zef m=false:=by simpa using h
  have hr:=hR w2 (x1.trans x2)
  unfold Z72 Z71 at hr
  rw[h]at hr; exact hr
 ·have h:Zef m=true:=by simpa using h
  have a0:=x1.trans x2
  refine⟨d,e,o,v,(a4.ext x2).ldc.pre (r:=[]) rfl,?_⟩
  refine SE.Zfg.go (Zpm (m:=m) (ht.ext a0) (Zql h) (hd.ext a0) (he.ext a0) (ho.ext a0) (hv.ext a0) λw3 x3=>⟨_,rfl,?_⟩)
  have hr:=hR w3 (a0.trans x3)
  unfold Z72 Z71 at hr
  rw[h]at hr; exact hr
theorem Z9k:ApT prog 70 122 3 32:=Zhv (z:=.agg #[.int .i64 0,.int .i64 0,.string ⟨#[]⟩]) kR kR rfl dC
theorem OwnS.strsB{T:TypeId}{s:Sl}{l:List ByteArray}(h:OwnS strE T w lo None' s l)(hl:l.length≤5000000000000):SlR strE w (λb=>lo≤b∧b<w.heap.size) s l:=
 (h.read (by show l.length*16≤room; unfold room; omega) (by rw[Zd]; omega)).mono λb hb=>by
  rcases hb with hb|⟨ad,ha,rfl⟩
  ·exact hb.elim
  ·have:=h.block ha; exact⟨this.1,this.2.1⟩
section
variable {w:World} {lo:Nat} {p:Addr} {S:Nat→Prop} {c:PC} {G:List Node} {P:List Pack} {old:Option (List Dir)} {s:PlS}
theorem Z46{k:Nat}{R:Int→World→Prop}(h:MlV Zlq 122 w lo p S c G P old s)(hI:PInv G s src)(ha:src<s.dirs.length)(hx:NewL s src e.name)(c5:Str e.name)(p8:0≤e.to∧e.to<(G.length:Int))(hP:P.length=G.length)
  (hk:k=1∨k=2∨k=3) (hd:s.dirs.length≤1000) (hs:s.done.length≤1000000) (m5:c.l3=D) (m6:c.l4=M)
  (hR: ∀c' w' code s',EdgeR (plI G P old D M) s src e k code s'→MlV Zlq 122 w' lo p S c' G P old s'→Mv lo p c w c' w'→R code w'):SE.Zd2 (some p) (src:Int) e.name e.to (k:Int) w R:=by
 unfold SE.Zd2
 subst m5 m6
 have a0:=h.read hd ⟨by show _*32≤room; unfold room; omega,by rw[Zd]; omega⟩
 have f4:Zqt s:=λt ht=>(hI.src t ht).2
 have h8:Zvd s:=λt ht u hu=>hI.uniq t ht u hu
 have c4: ∀d∈s.dirs,d.path.length≤1000:=λd hm=>by
  obtain⟨i,hi⟩:=ip hm
  have:=hI.plen i d hi
  have:=(ce.1 hi).1
  omega
 have i6: ∀d∈s.dirs,d.path.length≤4000000:=λd hm=>co (c4 d hm) dC
 obtain⟨ad,qs,_,_,_,l5,_,_,d3,_,_,_,l7⟩:=a0.dirEl ha
 have e1:Zb s.dirs src=s.dirs[src].path:=Zbl (bq ha)
 have p7:=c4 _ (cj ha)
 have n3:=hI.spot (bq ha) hx
 have m1:=Zm8 a0
 have p6:=h.pk.len
 have m8:=h.lo_le
 have p5:=h.box.lt
 obtain⟨en,f8⟩: ∃en:Nat,e.to=(en:Int):=⟨e.to.toNat,oM⟩
 have b8:en<P.length:=oM
 have e6:e.to.toNat=en:=oM
 obtain⟨k5,dP,eP,oP,k9,_,k8,l9,m2,m9,l6⟩:=Zmm h.pk b8
 have m3:P.getD en Zx=P[en]:=by rw[iq,bq b8]; rfl
 generalize hq:s.dirs[src].path=q at*
 generalize b5:plI G P old c.l3 c.l4=I at*
 have a7: ∀to,Right I s src e k to↔Zb8 s.dirs q e.name q.length=some to∧(nodeAt s.dirs to:Int)=e.to∧(k=3→Sees I s src to):=λto=>by unfold Right; rw[e1]
 have b2: ∀w',Ext w w'→Old (λb=>b<w.heap.size) w':=λw' x b hb=>by have:=x.size; omega
 refine newS.intro λa w1 x1 a8 p3 _=>⟨p,rfl,c.dr,a0.ld x1 7 rfl,ad,⟨l5,oM,oM⟩,qs,by rw[bw]; exact(l7 _ x1).pre rfl,e.name,a8.at0 xR rfl,?_⟩
 refine SE.Zat.go (Zk9 c5 q.length (a0.ext x1) (b2 w1 x1) (d3.ext x1) rfl oM λw2 x2=>⟨_,rfl,bnd.drew λw3 x3=>bound ?_⟩)
 generalize m7:Zb8 s.dirs q e.name q.length=lk at*
 have g5:=x2.trans x3
 have d6:=x1.trans g5
 obtain⟨i,hi,j2⟩: ∃i,i<s.dirs.length∧ ∀j,lk=some j→j=i:=by
  cases hl:lk with
  |none=>exact⟨src,ha,λ_ h=>by cases h⟩
  |some j=>exact⟨j,Zsf (m7.trans hl),λk hk=>by cases hk; rfl⟩
 obtain⟨k6,_,_,_,_,h9,_,_,_,_,_,_,l8⟩:=a0.dirEl hi
 have e2:nodeAt s.dirs i=s.dirs[i].node:=Zd1 (bq hi)
 have c2:decide (0≤optI lk)=true→lk=some i∧optI lk=(i:Int):=λhg=>by
  obtain⟨j,hj⟩:=Zgk.1 (of_decide_eq_true hg)
  have:=j2 j hj
  subst this
  exact⟨hj,by rw[hj]; rfl⟩
 refine⟨p,λ_=>rfl,c.dr,λ_=>a0.ld d6 7 rfl,k6,λhg=>⟨h9,by rw[(c2 hg).2]; omega,by rw[(c2 hg).2]; omega⟩,(s.dirs[i].node:Int),λhg=>by rw[(c2 hg).2,bw]; exact(l8 _ d6).mid (k:=8) (r:=[]) rfl,e.to,λ_=>a8.at1 (k:=1) (r:=[]) g5 rfl,bound (bound ?_)⟩
 refine gCall.holds (λt=>t=true↔Sees I s src i) (λhg q' n1=>?_) λj4 w4 x4 b7=>bound ?_
 ·simp only[bx]at hg
  rw[(c2 hg.1.1).2]
  exact SE.Zd5.go (Z5a (I:=I) (by rw[←b5]; rfl) (a0.ext d6) h8 hi hI.node i6 λb w5 x5 hb=>⟨b,rfl,n1 b w5 x5 hb⟩)
 have d7:=g5.trans x4
 have a4:=d6.trans x4
 have hf:((decide (0≤optI lk)&&((s.dirs[i].node:Int)==e.to))&&(decide ((k:Int)<3)||j4))=true↔ ∃to,Right I s src e k to:=by
  constructor
  ·intro hg
   simp only[bx,jd]at hg
   obtain⟨⟨g1,g2⟩,g3⟩:=hg
   refine⟨i,(a7 i).2 ⟨(c2 g1).1,by rw[e2]; exact eq_of_beq g2,λi7=>?_⟩⟩
   have b3:decide ((k:Int)<3)=false:=decide_eq_false oM
   rw[g1,g2,b3]at b7
   rw[b3]at g3
   exact(b7 rfl).1 (by simpa using g3)
  ·rintro⟨to,ht⟩
   obtain⟨g1,g2,g3⟩:=(a7 to).1 ht
   have:=j2 to g1
   subst this
   have h1:decide (0≤optI lk)=true:=decide_eq_true (Zgk.2 ⟨_,g1⟩)
   have h2:((s.dirs[to].node:Int)==e.to)=true:=by rw[e2]at g2; rw[g2]; exact beq_self_eq_true _
   rw[h1,h2]at b7 ⊢
   by_cases i7:k=3
   ·have b3:decide ((k:Int)<3)=false:=decide_eq_false oM
    rw[b3]at b7 ⊢
    rw[(b7 rfl).2 (g3 i7)]; rfl
   ·rw[decide_eq_true (show(k:Int)<3 by omega)]; rfl
 generalize ((decide (0≤optI lk)&&((s.dirs[i].node:Int)==e.to))&&(decide ((k:Int)<3)||j4))=f at*
 have c6: ∀w',Ext w w'→Mv lo p c w c w':=λw' x=>Mv.of x m8
 refine⟨λhc=>?_,λhc=>join.named λJ hJ=>?_⟩
 ·simp only[bx,ik,beq_iff_eq]at hc
  exact hR c w4 33 s (.lost (λto ht=>by rw[hf.2 ⟨to,ht⟩]at hc; cases hc.1) oM) (h.ext a4) (c6 w4 a4)
 have f0: ∀(to:Nat) (d2:PC) (d5:PlS) (c7:World),MlV Zlq 122 c7 lo p S d2 G P old d5→Mv lo p c w d2 c7→BoxAt c7 a [.string e.name,.int .i64 e.to]→d5.done=s.done→EdgeR I s src e k 0 ⟨d5.dirs,s.done++ [⟨src,e.name,to⟩]⟩→J (to:Int) c7:=by
  subst hJ
  intro to d2 d5 c7 f1 n4 i0 f7 hE
  refine bnd.drew λq3 g6=>⟨p,rfl,d2.st,f1.box.at1 (k:=8) (r:=[]) g6 rfl,e.name,i0.at0 g6 rfl,newS.intro λp1 q4 o4 i1 _ _=> ?_⟩
  have x:=g6.trans o4
  refine(f1.ext x).pushS Z9k (x:=⟨src,e.name,to⟩) (λw=>⟨rfl,c5⟩) (λh=>h) (i1.ldc.pre (r:=[]) rfl) ⟨by rw[f7]; show _*32≤room; unfold room; omega,by rw[f7,Zd]; omega⟩ λr n9 h5 n5=>?_
  rw[f7]at h5
  exact hR _ n9 0 _ hE h5 (n4.trans ((Mv.of x f1.lo_le).trans n5))
 clear hJ
 refine⟨λa9=>join.named λJ2 h6=>?_,λa9=>?_⟩
 rotate_left
 ·obtain⟨to,ht⟩:=hf.1 (by simpa using a9)
  have g1:=((a7 to).1 ht).1
  have e3:optI lk=(to:Int):=by rw[g1]; rfl
  rw[e3]
  exact f0 to c s w4 (h.ext a4) (c6 w4 a4) (a8.ext d7) rfl (.found to ht)
 have g0: ∀to,¬Right I s src e k to:=λto ht=>by rw[hf.2 ⟨to,ht⟩]at a9; cases a9
 have f9:k≠1:=λhk=>by
  subst hk
  rw[a9]at hc
  exact absurd hc dC
 have e8: ∀(n:Nat) (c3:Sl) (c8:World),Ext w c8→Ext w1 c8→SlR strE c8 (λb=>b<w.heap.size) c3 (q.take n)→(k=2→Best s q e.name (λn=>I.like (q.take n++ [e.name]) e.to.toNat) n)→(k=3→n=q.length)→J2 c3 c8:=by
  subst h6
  intro n c3 c8 o5 j7 b9 a6 h3
  have o8:(q.take n++ [e.name]).length≤1001:=by rw[br,cd,fl]; omega
  have p4:(q.take n).length≤1000:=by rw[cd]; omega
  have f6:k=2→Best s (Zb s.dirs src) e.name (λn=>I.like ((Zb s.dirs src).take n++ [e.name]) e.to.toNat) n:=by rw[e1]; exact a6
  have f2:k=3→n=(Zb s.dirs src).length:=by rw[e1]; exact h3
  refine join.named λJ3 h7=>?_
  have e9: ∀(d:Addr) (np:Sl) (b1:World),Ext w b1→Ext w1 b1→BoxAt b1 d [np.v,.string P[en].name,.int .i64 P[en].v.ma,.int .i64 P[en].v.mi,.int .i64 P[en].v.pa,dP.v,eP.v,oP.v,.int .i64 e.to]→SlR strE b1 (λb=>w.heap.size≤b∧b<b1.heap.size) np (q.take n++ [e.name])→J3 d b1:=by
   subst h7
   intro d np b1 d8 j8 i5 i9
   refine bnd.drew λq5 d1=>⟨np,i5.at0 d1 rfl,p,rfl,c.l4,by rw[Zfq]; exact h.box.at1 (k:=5) (d8.trans d1) rfl,callX.intro (SE.Zg5.go (Zjz (i9.ext d1) oM λo0 g7=>⟨g7,_,rfl,λc1=>?_,λn0=>bnd.drew λo1 o6=>?_⟩))⟩
   ·rw[Zk]at c1
    have x:=d8.trans (d1.trans g7)
    exact hR c o0 40 s (.long n g0 f9 f6 f2 (by rw[e1,←b5]; exact c1)) (h.ext x) (c6 _ x)
   rw[Zk]at n0
   have e7:(I.tlen ((Zb s.dirs src).take n++ [e.name]):Int)≤I.maxP:=by rw[e1,←b5]; show((Z5 (q.take n++ [e.name])).length:Int)≤c.l4; omega
   have d0:=d1.trans (g7.trans o6)
   have a5:=d8.trans d0
   refine⟨p,rfl,c.dr,a0.ld a5 7 rfl,p,rfl,c.l3,by rw[Zfq]; exact h.box.at1 (k:=4) a5 rfl,λm0=>?_,λn2=>?_⟩
   ·exact hR c o1 41 s (.deep n g0 f9 f6 f2 e7 (by rw[←b5]; show c.l3<(s.dirs.length:Int); omega)) (h.ext a5) (c6 _ a5)
   have d4:(s.dirs.length:Int)≤I.maxD:=by rw[←b5]; show(s.dirs.length:Int)≤c.l3; omega
   refine⟨p,rfl,c.dr,a0.ld a5 7 rfl,bnd.drew λq6 g8=>⟨p,rfl,c.dr,a0.ld (a5.trans g8) 7 rfl,np,_,_,_,_,dP,eP,oP,_,(i5.ext (d0.trans g8)).ldc.pre (r:=[]) rfl,newS.intro λp2 g4 o7 i2 _ _=> ?_⟩⟩
   have b4:=d0.trans (g8.trans o7)
   have b6:=d8.trans b4
   have q0:=b6.size
   have p0:=b4.size
   have j1:dirE.rep g4 (λb=>S b∨(w.heap.size≤b∧b<g4.heap.size)) (dirOf P ⟨q.take n++ [e.name],e.to.toNat⟩) [np.v,.string P[en].name,.int .i64 P[en].v.ma,.int .i64 P[en].v.mi,.int .i64 P[en].v.pa,dP.v,eP.v,oP.v,.int .i64 e.to]:=by
    rw[e6,f8]
    have j0:(dirOf P ⟨q.take n++ [e.name],en⟩)=⟨q.take n++ [e.name],P[en],(en:Int)⟩:=by unfold dirOf; rw[m3]
    rw[j0]
    exact⟨k8,np,dP,eP,oP,rfl,(i9.ext b4).mono λb hb=>.inr ⟨hb.1,oM⟩,(l9.ext b6).mono λ_ h=>.inl h,(m2.ext b6).mono λ_ h=>.inl h,(m9.ext b6).mono λ_ h=>.inl h⟩
   refine(h.ext b6).pushD (x:=⟨q.take n++ [e.name],e.to.toNat⟩) j1 (i2.ldc.pre (r:=[]) rfl) (λb hb=>?_) hd λr o2 k7 j3=>?_
   ·rcases hb with hb|hb
    ·have:=h.lt b hb
     exact⟨oM,λe=>h.nS (e▸hb),λad ha e=>(h.drP ad ha).2 (e▸hb),λad ha e=>(h.stP ad ha).2 (e▸hb),.inl hb⟩
    ·refine⟨hb.2,oM,λad ha e=>?_,λad ha e=>?_,.inr oM⟩
     ·obtain⟨D,o,_⟩:=h.dr
      have:=(o.block ha).2.1; omega
     ·have:=(h.st.block ha).2.1; omega
   ·rw[m1]
    refine f0 s.dirs.length _ ⟨s.dirs++ [⟨q.take n++ [e.name],e.to.toNat⟩],s.done⟩ o2 k7 ((c6 g4 b6).trans j3) (j3.box (a8.ext (j8.trans b4)) oM (λad ha e=>?_) λad ha e=>?_) rfl ?_
    ·obtain⟨D,o,_⟩:=h.dr
     have:=(o.block ha).2.1; omega
    ·have:=(h.st.block ha).2.1; omega
    ·have:=EdgeR.put n g0 f9 f6 f2 e7 d4
     rw[e1]at this
     exact this
  clear h7
  refine bnd.drew λj5 d9=>?_
  have b0:=o5.trans d9
  have c9:=j7.trans d9
  have f5:Old (λb=>b<w.heap.size) j5:=b2 _ b0
  refine⟨e.name,a8.at0 c9 rfl,p,rfl,c.ps,h.box.at1 (k:=1) b0 rfl,e.to,a8.at1 (k:=1) (r:=[]) c9 rfl,k5,⟨k9,oM,oM⟩,_,_,_,_,dP,eP,oP,by rw[f8,bw]; exact l6 _ b0,e.to,a8.at1 (k:=1) (r:=[]) c9 rfl,?_,?_⟩
  ·refine callX.intro (SE.Zcu.go (pinside_se f5 (b9.ext d9) c5 oM λt q7 k0 n7=>⟨k0,_,rfl,newS.set rfl λk3 o3 g9 i3 _=> ?_⟩))
   have x:=k0.trans g9
   exact e9 k3 t o3 (b0.trans x) (c9.trans x) i3 (((n7.strsB oM).ext g9).mono λb hb=>⟨by have:=b0.size; omega,by have:=g9.size; omega⟩)
  ·refine newS.intro λk4 q8 h0 e4 l0 _=>callX.intro (SE.Zcu.go (pinside_se (b2 _ (b0.trans h0)) ((b9.ext d9).ext h0) c5 oM λt q9 e0 n8=>⟨e0,_,rfl,stw0.intro (e4.ext e0) nR λj6 h4 o9 i4=>?_⟩))
   have p9:=b0.size; have q1:=e4.lt; have q2:=e0.size
   have j9:Ext j5 j6:=h4.ext (h0.trans e0) oM
   exact e9 k4 t j6 (b0.trans j9) (c9.trans j9) i4 (((n8.strsB oM).but h4 oM).mono λb hb=>⟨oM,oM⟩)
 clear h6
 refine⟨λm4=>⟨e.name,e.to,a8.at0 (r:=[]) d7 rfl,?_⟩,λm4=>?_⟩
 ·refine SE.Zd6.go (Z5b (k:=en) (a0.ext a4) f4 (b2 _ a4) (d3.ext a4) c5 f8 b8 oM ⟨_,n3⟩ λn w5 x5 a6=>⟨_,rfl,?_⟩)
  have e5:=(d3.ext (a4.trans x5)).cut (a:=0) (b:=n) (eh _) a6.spot.le
  rw[gz]at e5
  refine e8 n _ w5 (a4.trans x5) (d7.trans x5) e5 (λ_=> ?_) (λh3=>by omega)
  rw[e6,←b5]; exact a6
 ·refine e8 q.length qs w4 a4 d7 (by rw[cu]; exact d3.ext a4) (λh2=>by omega) λ_=>rfl
end
end Go.Hal
namespace Go.Hal
theorem Zmw{α:Type}{p:α→Bool}: ∀{l:List α} {x:α},x∈l.takeWhile p→p x=true
 | [],x,h=>by cases h
 |a::l,x,h=>by
  cases hp:p a with
  |true=>
   rw[List.takeWhile_cons_of_pos hp]at h
   rcases du.1 h with rfl|h
   ·exact hp
   ·exact Zmw h
  |false=>rw[List.takeWhile_cons_of_neg (by rw[hp]; simp)]at h; cases h
end Go.Hal
namespace Go.Hal
end Go.Hal
namespace Go.Hal
structure SpotR(s:PlS)(home src:Nat)(x:ByteArray):Prop where
 above:Zb s.dirs home<+:Zb s.dirs src
 clear: ∀i,i<s.dirs.length→Zb s.dirs home<+:Zb s.dirs i→Zb s.dirs i<+:Zb s.dirs src→Zbv s.dirs (Zb s.dirs i++ [x])=none
 keep: ∀t∈s.done,t.label=x→Zb s.dirs home<+:Zb s.dirs t.src→(Zb s.dirs home).length<(Zb s.dirs t.dst).length
theorem Zla{p f:Path}(h:p<+:f):f.take p.length=p:=(ls.1 h).symm
theorem Z2q{a home:Nat}{x:ByteArray}(hI:PInv g s a)(hs:src<s.dirs.length):SpotR s home src x↔Zb s.dirs home<+:Zb s.dirs src∧Spot s (Zb s.dirs src) x (Zb s.dirs home).length:=by
 have es:Zb s.dirs src=(s.dirs[src]).path:=Zbl (bq hs)
 constructor
 ·intro h
  have ht:=Zla h.above
  refine⟨h.above,h.above.length_le,λk h1 h2=>?_,λt a0 hl hp=>h.keep t a0 hl (by rw[ht]at hp; exact hp)⟩
  obtain⟨j,_,hj⟩:=hI.above _ src _ (bq hs) rfl k (by rw[←es]; exact h2)
  obtain⟨d,h3,h4⟩:=Zdu hj
  have hp:Zb s.dirs j=(Zb s.dirs src).take k:=by rw[Zbl h3,h4,es]
  rw[←hp]
  refine h.clear j (ce.1 h3).1 ?_ (by rw[hp]; exact me _ _)
  rw[hp,←ht]
  exact List.take_prefix_take_left h1
 ·rintro⟨h0,h⟩
  have ht:=Zla h0
  refine⟨h0,λi _ h1 h2=>?_,λt a0 hl hp=>h.keep t a0 hl (by rw[ht]; exact hp)⟩
  rw[←Zla h2]
  exact h.clear _ h1.length_le h2.length_le
theorem OverI.congr{p:Path}{x:ByteArray}{like:Nat→Bool}{seen seen':Nat→Prop}{b:Option Nat}(h:OverI s p x like seen b)(he: ∀m,seen m↔seen' m):OverI s p x like seen' b:=by
 have:seen=seen':=funext λm=>propext (he m)
 rw[←this]; exact h
structure BestI(s:PlS)(p:Path)(x:ByteArray)(like:Nat→Bool)(i:Nat)(b:Option Nat)(lk:Bool):Prop where
 over:OverI s p x like (λm=>m≤p.length∧ ∃j,j<i∧Zb s.dirs j=p.take m) (b.map λj=>(Zb s.dirs j).length)
 ok: ∀j,b=some j→j<i∧Zb s.dirs j<+:p∧lk=like (Zb s.dirs j).length
 no:b=none→lk=false
section
variable {s:PlS} {p:Path} {x:ByteArray} {like:Nat→Bool} {i:Nat} {b:Option Nat} {lk:Bool}
theorem BestI.start:BestI s p x like 0 none false:=⟨⟨(λn h=>by cases h),λ_ m ⟨_,j,h,_⟩=>by omega⟩,(λj h=>by cases h),λ_=>rfl⟩
theorem Zss(h:Zb s.dirs i<+:p)(m:Nat):((m≤p.length∧ ∃j,j<i∧Zb s.dirs j=p.take m)∨m=(Zb s.dirs i).length)↔(m≤p.length∧ ∃j,j<i+1∧Zb s.dirs j=p.take m):=by
 constructor
 ·rintro(⟨h1,j,h2,h3⟩|rfl)
  ·exact⟨h1,j,oM,h3⟩
  ·exact⟨h.length_le,i,oM,(Zla h).symm⟩
 ·rintro⟨h1,j,h2,h3⟩
  rcases dn.1 h2 with h4|h4
  ·exact .inl ⟨h1,j,h4,h3⟩
  ·subst h4
   right
   rw[h3,cd,gw h1]
theorem Z5q(h: ¬Zb s.dirs i<+:p)(m:Nat):(m≤p.length∧ ∃j,j<i∧Zb s.dirs j=p.take m)↔(m≤p.length∧ ∃j,j<i+1∧Zb s.dirs j=p.take m):=by
 constructor
 ·rintro⟨h1,j,h2,h3⟩
  exact⟨h1,j,oM,h3⟩
 ·rintro⟨h1,j,h2,h3⟩
  rcases dn.1 h2 with h4|h4
  ·exact⟨h1,j,h4,h3⟩
  ·subst h4
   exact absurd (by rw[h3]; exact me _ _) h
theorem BestI.step{ok liked near:Bool}(h:BestI s p x like i b lk)(a4:ok=true↔Zb s.dirs i<+:p∧Spot s p x (Zb s.dirs i).length)(hl:Zb s.dirs i<+:p→liked=like (Zb s.dirs i).length)
  (hn:near=true↔ ∀j,b=some j→(Zb s.dirs i).length<(Zb s.dirs j).length):
  ((ok&&((liked&& !lk)||((liked==lk)&&near)))=true→BestI s p x like (i+1) (some i) liked)∧((ok&&((liked&& !lk)||((liked==lk)&&near)))=false→BestI s p x like (i+1) b lk):=by
 have old: ∀{o:OverI s p x like (λm=>m≤p.length∧ ∃j,j<i+1∧Zb s.dirs j=p.take m) (b.map λj=>(Zb s.dirs j).length)},BestI s p x like (i+1) b lk:=λ{o}=>⟨o,λj hj=>by obtain⟨h1,h2⟩:=h.ok j hj; exact⟨oM,h2⟩,h.no⟩
 by_cases hp:Zb s.dirs i<+:p
 ·have hL:=hl hp
  by_cases hs:Spot s p x (Zb s.dirs i).length
  ·have e1:ok=true:=a4.2 ⟨hp,hs⟩
   subst e1
   rw[dw]
   constructor
   ·intro hc
    refine⟨(h.over.put hs λn a0=>?_).congr (Zss hp),λj hj=>by cases hj; exact⟨oM,hp,hL⟩,nO⟩
    cases hb:b with
    |none=>rw[hb]at a0; cases a0
    |some j=>
     rw[hb]at a0
     cases a0
     obtain⟨_,_,h3⟩:=h.ok j hb
     rw[←h3,←hL]
     simp only[jd,bx,ik,beq_iff_eq]at hc
     rcases hc with⟨c1,c2⟩|⟨c1,c2⟩
     ·rw[c1,c2]; exact⟨λ_=>rfl,nO⟩
     ·rw[c1]; exact⟨id,λ_=>Nat.le_of_lt (hn.1 c2 j hb)⟩
   ·intro hc
    cases hb:b with
    |none=>
     have h1:=h.no hb
     have h2:near=true:=hn.2 λj hj=>by rw[hb]at hj; cases hj
     rw[h1,h2]at hc
     cases liked<;>simp at hc
    |some j=>
     obtain⟨_,_,h3⟩:=h.ok j hb
     rw[←hb]
     refine @old ?_
     rw[hb]
     have ho:=h.over
     rw[hb]at ho
     refine(ho.stay (k:=(Zb s.dirs i).length) ?_).congr (Zss hp)
     rw[←h3,←hL]
     simp only[dx]at hc
     obtain⟨c1,c2⟩:=hc
     refine⟨λhl=>?_,λhe=>?_⟩
     ·rw[hl]at c1
      cases lk with
      |true=>rfl
      |false=>cases c1
     ·rw[he]at c2
      simp only[beq_self_eq_true,dw]at c2
      rcases lw (Zb s.dirs i).length (Zb s.dirs j).length with h4|h4
      ·have:=hn.2 (λj' a5=>by rw[hb]at a5; cases a5; exact h4)
       rw[c2]at this; cases this
      ·exact h4
  ·have e1:ok=false:=by rw[il]; exact λh=>hs (a4.1 h).2
   subst e1
   exact⟨λh=>by simp at h,λ_=> @old ((h.over.skip hs).congr (Zss hp))⟩
 ·have e1:ok=false:=by rw[il]; exact λh=>hp (a4.1 h).1
  subst e1
  exact⟨λh=>by simp at h,λ_=> @old (h.over.congr (Z5q hp))⟩
theorem BestI.fin(h:BestI s p x like s.dirs.length b lk)(a0: ∀m,m≤p.length→ ∃j,j<s.dirs.length∧Zb s.dirs j=p.take m)(hs: ∃n,Spot s p x n): ∃j n,b=some j∧j<s.dirs.length∧Zb s.dirs j=p.take n∧Best s p x like n:=by
 obtain⟨n,h1,h2⟩:=h.over.fin (λm hm=>⟨hm.le,a0 m hm.le⟩) hs
 cases hb:b with
 |none=>rw[hb]at h1; cases h1
 |some j=>
  rw[hb]at h1
  cases h1
  obtain⟨h3,h4,_⟩:=h.ok j hb
  exact⟨j,_,rfl,h3,(Zla h4).symm,h2⟩
end
theorem PInv.allAbove{a:Nat}(hI:PInv g s a)(hs:src<s.dirs.length): ∀m,m≤(Zb s.dirs src).length→ ∃j,j<s.dirs.length∧Zb s.dirs j=(Zb s.dirs src).take m:=λm hm=>by
 have es:Zb s.dirs src=(s.dirs[src]).path:=Zbl (bq hs)
 rw[es]at hm ⊢
 obtain⟨j,_,hj⟩:=hI.above _ src _ (bq hs) rfl m hm
 obtain⟨d,h3,h4⟩:=Zdu hj
 exact⟨j,(ce.1 h3).1,by rw[Zbl h3,h4]⟩
theorem Zma{α:Type}{c:α→α→Int}(hc:Ord3 c){l:List α}{x:α}(h:l.Pairwise λa b=>¬c b a<0):
  (l.takeWhile (λy=>!decide (c x y<0))++x::l.dropWhile (λy=>!decide (c x y<0))).Pairwise (λa b=>¬c b a<0)∧(l.takeWhile (λy=>!decide (c x y<0))++x::l.dropWhile (λy=>!decide (c x y<0))).Perm (l++ [x]):=by
 constructor
 ·refine eu.2 ⟨List.Pairwise.sublist (List.takeWhile_sublist _) h,ga.2 ⟨λy hy=>?_,List.Pairwise.sublist (jz _) h⟩,λa ha b hb=>?_⟩
  ·
   have key: ∀(l:List α),(l.Pairwise λa b=>¬c b a<0)→y∈l.dropWhile (λy=>!decide (c x y<0))→ ¬c y x<0:=by
    intro l
    induction l with
    |nil=>intro _ hy; cases hy
    |cons z l ih=>
     intro h hy
     obtain⟨h1,h2⟩:=ga.1 h
     by_cases hz:c x z<0
     ·rw[List.dropWhile_cons_of_neg (by simpa using hz)]at hy
      have a4: ¬c z x<0:=by rw[hc.flip z x]; omega
      rcases du.1 hy with rfl|hy
      ·exact a4
      ·intro a0
       have h3:=h1 y hy
       have h4:=hc.trans y x z oM oM
       have h5:c z y=0:=hc.zero.1 oM
       have h6:=hc.trans x z y oM oM
       have h7:=(hc.flip y x).1 a0
       omega
     ·rw[List.dropWhile_cons_of_pos (by simpa using hz)]at hy
      exact ih h2 hy
   exact key l h hy
  ·rcases du.1 hb with rfl|hb
   ·have:=Zmw ha
    simpa using this
   ·have hp:=jw (p:=λy=>!decide (c x y<0)) (l:=l)
    rw[←hp]at h
    exact(eu.1 h).2.2 a ha b hb
 ·have:=List.perm_middle (a:=x) (l₁:=l.takeWhile λy=>!decide (c x y<0)) (l₂:=l.dropWhile λy=>!decide (c x y<0))
  rw[jw]at this
  exact this.trans (iz x l).symm
end Go.Hal
namespace Go.Hal
theorem gCall.yes{τ:Sort _}{k:τ}{A B:τ→Prop}(h:A k):gCall true k A B:=⟨λ_=>h,nO⟩
theorem gCall.no{τ:Sort _}{k:τ}{A B:τ→Prop}(h:B k):gCall false k A B:=⟨nO,λ_=>h⟩
def NmsI{α:Type}(nm:α→ByteArray)(l:List α)(i:Nat):Prop:=RiseN nm (l.take i)∧ ∀q∈l.take i,Zn (nm q)=true
theorem Zxr{α:Type}{nm:α→ByteArray}{l:List α}:NmsI nm l 0:=⟨.nil,λ_ h=>nomatch h⟩
theorem Zxq{α:Type}{nm:α→ByteArray}{l:List α}(hi:i<l.length){t:ByteArray}(ht:0<i→t=nm (l[i - 1]'oM)):
  ((!Zn (nm l[i])||(decide (0<(i:Int))&& !bLt t (nm l[i])))=false→NmsI nm l i→NmsI nm l (i+1))∧((!Zn (nm l[i])||(decide (0<(i:Int))&& !bLt t (nm l[i])))=true→ ¬NmsI nm l l.length):=by
 constructor
 ·intro hc ⟨h1,h2⟩
  simp only[dx,ka,gp,decide_eq_false_iff_not]at hc
  refine⟨?_,λq hq=>?_⟩
  ·by_cases h0:i=0
   ·subst h0; exact Zx0
   ·refine Zut oM hi h1 ?_
    rcases hc.2 with h3|h3
    ·omega
    ·rw[ht oM]at h3; exact h3
  ·rw[bu hi]at hq
   rcases dj.1 hq with hq|hq
   ·exact h2 q hq
   ·rw[ci.1 hq]; exact hc.1
 ·intro hc ⟨h1,h2⟩
  rw[cu]at h1 h2
  simp only[jd,ik,bx,decide_eq_true_eq]at hc
  rcases hc with h3|⟨h3,h4⟩
  ·rw[h2 _ (cj hi)]at h3; cases h3
  ·rw[ht oM]at h4
   exact Zxz oM hi h4 h1
structure NodeR(G:List Node)(P:List Pack)(i:Nat)(x:Node):Prop where
 root:i=0→x.key=rootNode.key∧P[0]? =some Zx
 pl:NodePl G P i x
 cn: ∀q∈x.ctx,Zn q.name=true
 en: ∀e∈x.edges,Zn e.name=true
theorem PlaceOk.ctxName(h:PlaceOk G P){x:Node}(hx:G[i]? =some x): ∀q∈x.ctx,Zn q.name=true:=λq hq=>by
 obtain⟨y,hy,_⟩:=(h.node i x hx).full q hq
 obtain⟨ed,h1,h2,_⟩:=Zvv hy
 rw[←h2]; exact h.name hx h1
theorem PlaceOk.nodeR(h:PlaceOk G P){x:Node}(hx:G[i]? =some x):NodeR G P i x:=
 ⟨λh0=>by
  subst h0
  obtain⟨y,h1,h2⟩:=h.root
  rw[hx]at h1; cases h1
  exact⟨h2,h.zero⟩,h.node i x hx,h.ctxName hx,λe he=>h.name hx he⟩
theorem Z9w(h:PlaceOk G P)(k:Nat): ∀q∈Ziw G k,Zn q.name=true:=λq hq=>by
 unfold Ziw at hq
 split at hq
 ·rename_i x hx; exact h.ctxName hx q hq
 ·cases hq
theorem PlaceOk.edgeAt(h:PlaceOk G P){k:Nat}(he:e∈Z1 G k):Zn e.name=true∧ ∀y,G[e.to.toNat]? =some y→y.name=e.name:=by
 unfold Z1 at he
 split at he
 ·rename_i x hx
  refine⟨h.name hx he,λy hy=>?_⟩
  obtain⟨j,z,h1,_,h3,h4⟩:=(h.node k x hx).edge e he
  rw[h1,bw,h3]at hy
  cases hy; exact h4
 ·cases he
theorem Zi2(hb: ∀d∈s.dirs,d.path.length≤n)(hi:i<s.dirs.length):(Zb s.dirs i).length≤n:=by rw[Zbl (bq hi)]; exact hb _ (cj hi)
end Go.Hal
namespace Go.Hal
structure RC where
 u:Sl
 ps:Sl
 l1:Int
 l2:Int
 l3:Int
 l4:Int
 so:Sl
 lk:Bool
 dr:Sl
 st:Sl
def RC.c(c:RC):List Value:=[c.u.v,c.ps.v,.int .i64 c.l1,.int .i64 c.l2,.int .i64 c.l3,.int .i64 c.l4,c.so.v,.bool c.lk,c.dr.v,c.st.v]
def OldS(w:World)(S:Nat→Prop)(old:Option (List Dir))(so:Sl)(lk:Bool):Prop:=match old with
 |none=>lk=false
 |some T=>lk=true∧SlR dirE w S so T
def setC(t:Stl):List Value:=[.int .i64 (t.src:Int),.string t.label,.int .i64 (t.dst:Int)]
def setE:Enc Stl:=Zoi 3 32 setC (λt=>Str t.label) (λ_=>rfl) (λ_ v hv=>by simp[setC]at hv; rcases hv with rfl|rfl|rfl<;>rfl)
theorem setEl{s:Sl}(h:SlR setE w S s l)(hn:n<l.length): ∃ad,s.a=some ad∧Str l[n].label∧ ∀w',Ext w w'→ldc w' (ad.add (n*3)) [.int .i64 (l[n].src:Int),.string l[n].label,.int .i64 (l[n].dst:Int)]:=by
 obtain⟨ad,cs,h1,h2,⟨rfl,h3⟩,h4⟩:=h.el hn
 exact⟨ad,h1,h3,h4⟩
structure RlV(w:World)(p:Addr)(S:Nat→Prop)(c:RC)(G:List Node)(P:List Pack)(old:Option (List Dir))(s:PlS):Prop where
 box:BoxAt w p c.c
 g:SlR nodeE w S c.u G
 pk:SlR packE w S c.ps P
 dr:SlR dirE w S c.dr (s.dirs.map (dirOf P))
 st:SlR setE w S c.st s.done
 old:OldS w S old c.so c.lk
 lt:Old S w
section
variable {w w':World} {p:Addr} {S:Nat→Prop} {c:RC} {G:List Node} {P:List Pack} {old:Option (List Dir)} {s:PlS}
theorem OldS.ext(h:OldS w S old so lk)(hx:Ext w w'):OldS w' S old so lk:=by
 cases old with
 |none=>exact h
 |some T=>exact⟨h.1,h.2.ext hx⟩
theorem OldS.mono{S':Nat→Prop}(h:OldS w S old so lk)(hs: ∀b,S b→S' b):OldS w S' old so lk:=by
 cases old with
 |none=>exact h
 |some T=>exact⟨h.1,h.2.mono hs⟩
theorem OldS.keep(h:OldS w S old so lk)(hk:Keep S w w'):OldS w' S old so lk:=by
 cases old with
 |none=>exact h
 |some T=>exact⟨h.1,h.2.keep hk⟩
theorem RlV.ext(h:RlV w p S c G P old s)(hx:Ext w w'):RlV w' p S c G P old s:=⟨h.box.ext hx,h.g.ext hx,h.pk.ext hx,h.dr.ext hx,h.st.ext hx,h.old.ext hx,h.lt.ext hx.size⟩
theorem RlV.ld(h:RlV w p S c G P old s)(hx:Ext w w')(k:Nat){r:List Value}(hp:c.c.drop k=cs++r):ldc w' (p.add k) cs:=h.box.at1 hx hp
theorem RlV.ld0(h:RlV w p S c G P old s)(hx:Ext w w'):ldc w' p [c.u.v]:=h.box.at0 hx rfl
theorem RlV.dlen(h:RlV w p S c G P old s):c.dr.len=s.dirs.length:=by rw[h.dr.len,cm]
theorem RlV.dirEl(h:RlV w p S c G P old s)(hi:i<s.dirs.length):
  ∃ad q d e o,c.dr.a=some ad∧S ad.block∧Str (P.getD s.dirs[i].node Zx).name∧SlR strE w S q s.dirs[i].path∧SlR depE w S d (P.getD s.dirs[i].node Zx).deps∧SlR depE w S e (P.getD s.dirs[i].node Zx).peers∧SlR depE w S o (P.getD s.dirs[i].node Zx).opt∧
   ∀w',Ext w w'→ldc w' (ad.add (i*9)) [q.v,.string (P.getD s.dirs[i].node Zx).name,.int .i64 (P.getD s.dirs[i].node Zx).v.ma,.int .i64 (P.getD s.dirs[i].node Zx).v.mi,.int .i64 (P.getD s.dirs[i].node Zx).v.pa,d.v,e.v,o.v,.int .i64 (s.dirs[i].node:Int)]:=by
 have hl:i<(s.dirs.map (dirOf P)).length:=by simpa using hi
 have:=Go.Hal.dirEl h.dr hl
 rw[lf]at this
 exact this
theorem RlV.at_(h:RlV w p S c G P old s)(hi:i<s.dirs.length):
  ∃ad q,c.dr.a=some ad∧((0:Int)≤(i:Int)∧(i:Int)<(c.dr.len:Int))∧SlR strE w S q (Zb s.dirs i)∧(∀w',Ext w w'→ldc w' (ad.add (i*9)) [q.v])∧ ∀w',Ext w w'→ldc w' ((ad.add (i*9)).add 8) [.int .i64 (nodeAt s.dirs i:Int)]:=by
 obtain⟨ad,q,_,_,_,h1,_,_,h2,_,_,_,h3⟩:=h.dirEl hi
 have hl:=h.dlen
 rw[Zbl (bq hi),Zd1 (bq hi)]
 exact⟨ad,q,h1,⟨oM,oM⟩,h2,λw' x=>(h3 w' x).pre rfl,λw' x=>(h3 w' x).mid (k:=8) (r:=[]) rfl⟩
theorem rabove_se(hv:RlV w p S c G P old s)(hh:h<s.dirs.length)(hi:i<s.dirs.length)(hR: ∀w',Ext w w'→R (decide (Zb s.dirs h<+:Zb s.dirs i)) w'):SE.Z3 (some p) (h:Int) (i:Int) w R:=by
 unfold SE.Z3
 obtain⟨a6,qh,a8,b2,a5,b0,_⟩:=hv.at_ hh
 obtain⟨a7,qi,a9,b3,a4,b1,_⟩:=hv.at_ hi
 have l1:=a5.len; have l2:=a4.len; have cap:=a4.2.1
 generalize Zb s.dirs h=ph at*
 generalize Zb s.dirs i=pi at*
 refine⟨p,rfl,c.dr,hv.ld xR 8 rfl,a6,⟨a8,b2⟩,qh,by rw[bw]; exact b0 _ xR,p,rfl,c.dr,hv.ld xR 8 rfl,a7,⟨a9,b3⟩,qi,by rw[bw]; exact b1 _ xR,λb5=>?_,λb4=>⟨⟨oM,oM⟩,?_⟩⟩
 ·have:=hR w xR
  rw[decide_eq_false (λhp=>by have:=hp.length_le; omega)]at this; exact this
 ·rw[bw,l1]
  have a0:=a4.cut (a:=0) (b:=ph.length) (eh _) oM
  rw[gz]at a0
  refine SE.Zcg.go (r12Path_se a5 a0 λw1 x1=>⟨_,rfl,?_⟩)
  have:=hR w1 x1
  have e:decide (ph<+:pi)=decide (ph=pi.take ph.length):=by rw[decide_eq_decide]; exact ls
  rw[e]at this; exact this
theorem rinside_se{x:ByteArray}{R:Sl→World→Prop}(hv:RlV w p S c G P old s)(hh:h<s.dirs.length)(hx:Str x)(hb: ∀d∈s.dirs,d.path.length≤4000000)(hR: ∀t w',Ext w w'→OwnS strE 9 w' w.heap.size None' t (Zb s.dirs h++ [x])→R t w'):SE.Zab (some p) (h:Int) x w R:=by
 unfold SE.Zab
 obtain⟨a0,qh,a4,a6,a7,a5,_⟩:=hv.at_ hh
 have a8:(Zb s.dirs h).length≤4000000:=by rw[Zbl (bq hh)]; exact hb _ (cj hh)
 exact⟨p,rfl,c.dr,hv.ld xR 8 rfl,a0,⟨a4,a6⟩,qh,by rw[bw]; exact a5 _ xR,Zph (OwnS.zero w) xR hv.lt a7 hx oM hR⟩
theorem Z5o{x:ByteArray}(hv:RlV w p S c G P old s)(hd:Zqt s)(hh:h<s.dirs.length)(hi:i<s.dirs.length)(hx:Str x)(hb: ∀d∈s.dirs,d.path.length≤4000000)
  (hR: ∀(b:Bool) w',Ext w w'→(b=true↔SpotR s h i x)→R b w'):SE.Zb1 (some p) (h:Int) (i:Int) x w R:=by
 unfold SE.Zb1
 have a5: ∀w',Ext w w'→ ¬SpotR s h i x→R false w':=λw' hx h=>hR false w' hx ⟨nO,λhf=>absurd hf h⟩
 have d6:=hv.dlen
 have c7:s.dirs.length≤maxLen:=by have:=hv.dr.max; rwa [cm]at this
 refine SE.Z3.go (rabove_se hv hh hi λw1 x1=>⟨_,rfl,λhc=>a5 w1 x1 λhF=>?_,λhc=>?_⟩)
 ·rw[decide_eq_true hF.above]at hc; cases hc
 have c2:Zb s.dirs h<+:Zb s.dirs i:=by simpa using hc
 refine loop1.up c7 (λj w'=>Ext w w'∧ ∀k,k<j→Zb s.dirs h<+:Zb s.dirs k→Zb s.dirs k<+:Zb s.dirs i→Zbv s.dirs (Zb s.dirs k++ [x])=none) ⟨x1,λk h=>by omega⟩ λj w2 d7 hj ⟨x2,hI⟩ hn=>⟨p,rfl,c.dr,hv.ld x2 8 rfl,λb5=>?_,λc8=>?_⟩
 ·have a4:j<s.dirs.length:=oM
  refine SE.Z3.go (rabove_se (hv.ext x2) hh a4 λw3 x3=>⟨_,rfl,SE.Z3.go (rabove_se (hv.ext (x2.trans x3)) a4 hi λw4 x4=>⟨_,rfl,bnd.drew λw5 x5=>bound ?_⟩)⟩)
  have a0:=(x2.trans x3).trans (x4.trans x5)
  refine⟨p,λ_=>rfl,c.dr,λ_=>hv.ld a0 8 rfl,?_⟩
  by_cases hq:Zb s.dirs h<+:Zb s.dirs j∧Zb s.dirs j<+:Zb s.dirs i
  ·rw[decide_eq_true hq.1,decide_eq_true hq.2]
   refine gCall.yes (callX.intro (SE.Zab.go (rinside_se (hv.ext a0) a4 hx hb λt w6 x6 o6=>⟨x6,_,rfl,gCall.yes (SE.Zbi.go (Zi6 ((hv.dr.ext a0).ext x6) (o6.strs (by have:=Zi2 hb a4; rw[br,fl]; omega)) λw7 x7=>⟨_,rfl,λhg=>?_,λhg=>?_⟩))⟩)))
   all_goals rw[Zgu,Zk8]at hg
   ·have hg:decide (0≤optI (Zbv s.dirs (Zb s.dirs j++ [x])))=true:=hg
    obtain⟨m,hm⟩:=Zgk.1 (of_decide_eq_true hg)
    refine a5 w7 (a0.trans (x6.trans x7)) λhF=>?_
    rw[hF.clear j a4 hq.1 hq.2]at hm; cases hm
   ·have hg:decide (0≤optI (Zbv s.dirs (Zb s.dirs j++ [x])))=false:=hg
    have b4:Zbv s.dirs (Zb s.dirs j++ [x])=none:=by
     cases hf:Zbv s.dirs (Zb s.dirs j++ [x])with
     |none=>rfl
     |some m=>rw[hf]at hg; exact absurd (Zgk.2 ⟨m,rfl⟩) (of_decide_eq_false hg)
    refine hn a4 w7 ⟨a0.trans (x6.trans x7),λk hk h1 h2=>?_⟩
    rcases dn.1 hk with h3|h3
    ·exact hI k h3 h1 h2
    ·subst h3; exact b4
  ·have e:(decide (Zb s.dirs h<+:Zb s.dirs j)&&decide (Zb s.dirs j<+:Zb s.dirs i))=false:=by
    rw[←Bool.decide_and]; exact decide_eq_false hq
   rw[e]
   refine gCall.no (gCall.no ⟨nO,λ_=>hn a4 w5 ⟨a0,λk hk h1 h2=>?_⟩⟩)
   rcases dn.1 hk with h3|h3
   ·exact hI k h3 h1 h2
   ·subst h3; exact absurd ⟨h1,h2⟩ hq
 ·have a4:j=s.dirs.length:=oM
  subst a4
  have d4:=hv.st.len
  refine loop1.up hv.st.max (λk w'=>Ext w w'∧ ∀u∈s.done.take k,u.label=x→Zb s.dirs h<+:Zb s.dirs u.src→(Zb s.dirs h).length<(Zb s.dirs u.dst).length) ⟨x2,(λ_ h=>by cases h)⟩ λk w3 d5 hk ⟨x3,hK⟩ d0=>⟨p,rfl,c.st,hv.ld x3 9 (r:=[]) rfl,λb5=>?_,λc8=>?_⟩
  ·have a7:k<s.done.length:=oM
   obtain⟨ad,ha,_,b3⟩:=setEl hv.st a7
   have a9:=cj a7
   obtain⟨d3,b7⟩:=hd _ a9
   have b0: ¬(s.done[k].label=x→Zb s.dirs h<+:Zb s.dirs s.done[k].src→(Zb s.dirs h).length<(Zb s.dirs s.done[k].dst).length)→ ¬SpotR s h i x:=λh1 h2=>h1 (h2.keep _ a9)
   have c1:(s.done[k].label=x→Zb s.dirs h<+:Zb s.dirs s.done[k].src→(Zb s.dirs h).length<(Zb s.dirs s.done[k].dst).length)→ ∀u∈s.done.take (k+1),u.label=x→Zb s.dirs h<+:Zb s.dirs u.src→(Zb s.dirs h).length<(Zb s.dirs u.dst).length:=λh1 u hu=>by
    rw[bu a7]at hu
    rcases dj.1 hu with hu|hu
    ·exact hK u hu
    ·rw[ci.1 hu]; exact h1
   generalize s.done[k]=d at*
   obtain⟨b9,qt,c4,b6,d2,c6,_⟩:=hv.at_ b7
   obtain⟨b8,qh,c3,c9,d1,c5,_⟩:=hv.at_ hh
   have l1:=d2.len; have l2:=d1.len
   have b1:=Zi2 hb b7; have b2:=Zi2 hb hh
   have a6:(0:Int)≤(k:Int)∧(k:Int)<(c.st.len:Int):=⟨oM,b5⟩
   refine⟨p,rfl,c.st,hv.ld x3 9 (r:=[]) rfl,ad,⟨ha,a6⟩,(d.src:Int),by rw[bw]; exact(b3 _ x3).pre rfl,?_⟩
   refine SE.Z3.go (rabove_se (hv.ext x3) hh d3 λw4 x4=>⟨_,rfl,bnd.drew λw5 x5=>?_⟩)
   have a0:=x3.trans (x4.trans x5)
   refine⟨p,rfl,c.st,hv.ld a0 9 (r:=[]) rfl,ad,⟨ha,a6⟩,d.label,by rw[bw]; exact(b3 _ a0).mid (k:=1) rfl,bound (bound ?_)⟩
   refine⟨p,λ_=>rfl,c.dr,λ_=>hv.ld a0 8 rfl,p,λ_=>rfl,c.st,λ_=>hv.ld a0 9 (r:=[]) rfl,ad,λ_=>⟨ha,a6⟩,(d.dst:Int),λ_=>by rw[bw]; exact(b3 _ a0).mid (k:=2) (r:=[]) rfl,b9,λ_=>⟨c4,b6⟩,qt,λ_=>by rw[bw]; exact c6 _ a0,p,λ_=>rfl,c.dr,λ_=>hv.ld a0 8 rfl,b8,λ_=>⟨c3,c9⟩,qh,λ_=>by rw[bw]; exact c5 _ a0,?_⟩
   have ew:Za ((qt.len:Int) - 1)=(qt.len:Int) - 1:=Zc oM oM
   rw[ew]
   have a8:((bEq d.label x&&decide (Zb s.dirs h<+:Zb s.dirs d.src))&&decide ((qt.len:Int) - 1<(qh.len:Int)))=false↔(d.label=x→Zb s.dirs h<+:Zb s.dirs d.src→(Zb s.dirs h).length<(Zb s.dirs d.dst).length):=by
    rw[il]
    simp only[ne_eq,bx,Zap,decide_eq_true_eq]
    constructor
    ·intro hh h1 h2
     rcases lw (Zb s.dirs h).length (Zb s.dirs d.dst).length with h3|h3
     ·exact h3
     ·exact absurd ⟨⟨h1,h2⟩,oM⟩ hh
    ·rintro hh ⟨⟨h1,h2⟩,h3⟩
     have:=hh h1 h2
     omega
   refine⟨λhc=>a5 w5 a0 (b0 λh1=>?_),λhc=>d0 a7 w5 ⟨a0,c1 (a8.1 hc)⟩⟩
   rw[a8.2 h1]at hc; cases hc
  ·rw[dg oM]at hK
   exact hR true w3 x3 ⟨λ_=>⟨c2,hI,hK⟩,λ_=>rfl⟩
end
theorem Z2u{a k:Nat}{x:ByteArray}(hk:k<s.done.length)(h: ∀u∈s.done.take k,¬(u.src=a∧u.label=x))(hc:s.done[k].src=a∧s.done[k].label=x):Zom s a x=some s.done[k].dst:=by
 have e:s.done.find? (λt=>decide (t.src=a∧t.label=x))=some s.done[k]:=by
  conv=>lhs; rw[←dc k s.done]
  rw[ly,gn.2 (λu hu=>by simpa using h u hu),dm hk,List.find?_cons_of_pos (by simpa using hc)]
  rfl
 unfold Zom
 rw[e]; rfl
theorem Z5w{a:Nat}{x:ByteArray}(h: ∀u∈s.done,¬(u.src=a∧u.label=x)):Zom s a x=none:=by
 unfold Zom
 rw[gn.2 (λu hu=>by simpa using h u hu)]; rfl
section
variable {w w':World} {p:Addr} {S:Nat→Prop} {c:RC} {G:List Node} {P:List Pack} {old:Option (List Dir)} {s:PlS}
theorem Z2e{k:Nat}{x:ByteArray}{dP eP oP:Sl}(hv:RlV w p S c G P old s)(hh:h<s.dirs.length)(hx:Str x)(hb: ∀d∈s.dirs,d.path.length≤4000000)(hk:k<P.length)(b5:SlR depE w S dP P[k].deps)(b7:SlR depE w S eP P[k].peers)(c1:SlR depE w S oP P[k].opt)
  (hR: ∀w',Ext w w'→R (Zlg old P (Zb s.dirs h++ [x]) k) w'):SE.Zbo (some p) (h:Int) x P[k].name P[k].v.ma P[k].v.mi P[k].v.pa dP eP oP w R:=by
 unfold SE.Zbo
 have ho:=hv.old
 refine newS.intro λa w1 x1 b3 _ _=>⟨p,rfl,c.lk,hv.ld x1 7 rfl,λhl=>?_,λhl=>bnd.drew λw2 x2=>?_⟩
 ·have hn:old=none:=by
   cases old with
   |none=>rfl
   |some T=>have:=ho.1; rw[this]at hl; cases hl
  have:=hR w1 x1
  rw[hn]at this; exact this
 ·obtain⟨T,hT,a7⟩: ∃T,old=some T∧SlR dirE w S c.so T:=by
   cases old with
   |none=>have:c.lk=false:=ho; rw[this]at hl; cases hl
   |some T=>exact⟨T,rfl,ho.2⟩
  have a5:=x1.trans x2
  have c2:=a7.len
  have c3:=Zi2 hb hh
  have a0:Zlg old P (Zb s.dirs h++ [x]) k=match Zbv (T.map drOf) (Zb s.dirs h++ [x])with
    |none=>false
    |some i=>decide (T[i]?.map Dir.pack=P[k]?):=by rw[hT]; rfl
  refine⟨p,rfl,c.so,hv.ld a5 6 rfl,callX.intro (SE.Zab.go (rinside_se (hv.ext a5) hh hx hb λt w6 x6 o6=>⟨x6,_,rfl,SE.Zbi.go (Zi6 (a7.ext (a5.trans x6)) (o6.strs (by rw[br,fl]; omega)) λw7 x7=>⟨_,rfl,λa6=>?_,λb9=>bnd.drew λw8 x8=>?_⟩)⟩))⟩
  all_goals
   have b0:=a5.trans (x6.trans x7)
  ·rw[Zgu]at a6
   cases hf:Zbv (T.map drOf) (Zb s.dirs h++ [x])with
   |none=>
    have:=hR w7 b0
    rw[a0,hf]at this; exact this
   |some i=>rw[hf]at a6; exact absurd (show(0:Int)≤optI (some i)from Zgk.2 ⟨i,rfl⟩) oM
  ·rw[Zgu]at b9
   obtain⟨m,hf⟩:=Zgk.1 (show(0:Int)≤optI (Zbv (T.map drOf) (Zb s.dirs h++ [x])) by omega)
   have a8:m<T.length:=by
    obtain⟨d,h1,_⟩:=Zdu hf
    have:=(ce.1 h1).1
    rwa [cm]at this
   have a4:=b0.trans x8
   rw[hf]at a0
   have a0:Zlg old P (Zb s.dirs h++ [x]) k=decide (T[m].pack=P[k]):=by
    rw[a0]
    show decide (T[m]?.map Dir.pack=P[k]?)=_
    rw[bq a8,bq hk,gv]
    simp only[cw]
   obtain⟨b1,qT,dT,eT,oT,b2,_,_,_,b6,b8,a9,b4⟩:=dirEl a7 a8
   have ef:Zgd T (Zb s.dirs h++ [x])=(m:Int):=by rw[Zgu,hf]; rfl
   rw[ef]
   refine⟨p,rfl,c.so,hv.ld a4 6 rfl,b1,⟨b2,oM,oM⟩,T[m].pack.name,T[m].pack.v.ma,T[m].pack.v.mi,T[m].pack.v.pa,dT,eT,oT,by rw[bw]; exact(b4 _ a4).mid (k:=1) rfl,P[k].name,P[k].v.ma,P[k].v.mi,P[k].v.pa,dP,eP,oP,(b3.ext (x2.trans (x6.trans (x7.trans x8)))).at0 (r:=[]) xR rfl,?_⟩
   refine SE.Zbx.go (Zlb (p:=T[m].pack) (q:=P[k]) (b6.ext a4) (b8.ext a4) (a9.ext a4) (b5.ext a4) (b7.ext a4) (c1.ext a4) λw9 x9=>⟨_,rfl,?_⟩)
   have:=hR w9 (a4.trans x9)
   rw[a0]at this; exact this
theorem Z5f{x:ByteArray}{R:Int→World→Prop}(hv:RlV w p S c G P old s)(hI:PInv G s src)(hs:src<s.dirs.length)(hb: ∀d∈s.dirs,d.path.length≤4000000)(d7:to<G.length)(hk:to<P.length)(hn:G[to].name=x)
  (d0: ∃n,Spot s (Zb s.dirs src) x n) (hR: ∀j n w',Ext w w'→j<s.dirs.length→Zb s.dirs j=(Zb s.dirs src).take n→Best s (Zb s.dirs src) x (λn=>Zlg old P ((Zb s.dirs src).take n++ [x]) to) n→R (j:Int) w'):SE.Zal (some p) (src:Int) (to:Int) w R:=by
 unfold SE.Zal
 have e3:=hv.g.len
 have e6:=hv.pk.len
 have e1:=hv.dlen
 have c8:s.dirs.length≤maxLen:=by have:=hv.dr.max; rwa [cm]at this
 have hD:Zqt s:=λt ht=>(hI.src t ht).2
 obtain⟨c1,cg,eg,c4,b0,_,_,b6⟩:=Zed hv.g d7
 obtain⟨b9,dP,eP,oP,c2,_,d9,c7,c9,d4,c5⟩:=Zmm hv.pk hk
 rw[hn]at b0
 refine⟨p,rfl,c.u,hv.ld0 xR,c1,⟨c4,oM,oM⟩,x,by rw[bw,←hn]; exact(b6 _ xR).pre rfl,?_⟩
 refine loop3.up c8 (λ(bi:Int) (lk:Bool) j w'=>Ext w w'∧ ∃b,bi=optI b∧BestI s (Zb s.dirs src) x (λn=>Zlg old P ((Zb s.dirs src).take n++ [x]) to) j b lk) ⟨Ext.refl _,none,rfl,BestI.start⟩ λbi lk j w1 e7 hj ⟨x1,b,b4,hB⟩ d3=>⟨p,rfl,c.dr,hv.ld x1 8 rfl,λe4=>join.named λJ hJ=>?_,λe2=>?_⟩
 ·have a4:j<s.dirs.length:=oM
  subst b4
  refine SE.Zb1.go (Z5o (hv.ext x1) hD a4 hs b0 hb λok w2 x2 a9=>⟨_,rfl,p,rfl,c.ps,hv.ld (x1.trans x2) 1 rfl,b9,⟨c2,oM,oM⟩,P[to].name,P[to].v.ma,P[to].v.mi,P[to].v.pa,dP,eP,oP,by rw[bw]; exact c5 _ (x1.trans x2),?_⟩)
  have a6:=x1.trans x2
  refine SE.Zbo.go (Z2e (hv.ext a6) a4 b0 hb hk (c7.ext a6) (c9.ext a6) (d4.ext a6) λw3 x3=>⟨_,rfl,bnd.drew λw4 x4=>?_⟩)
  have a0:=a6.trans (x3.trans x4)
  obtain⟨a8,qi,b3,b7,d6,b5,_⟩:=hv.at_ a4
  have l1:=d6.len
  rw[Z2q hI hs]at a9
  have b8:Zb s.dirs j<+:Zb s.dirs src→Zlg old P (Zb s.dirs j++ [x]) to=Zlg old P ((Zb s.dirs src).take (Zb s.dirs j).length++ [x]) to:=λhp=>by rw[Zla hp]
  generalize d2:Zlg old P (Zb s.dirs j++ [x]) to=d8 at*
  have a7: ∀(b':Option Nat) (b1:Bool) w',Ext w w'→BestI s (Zb s.dirs src) x (λn=>Zlg old P ((Zb s.dirs src).take n++ [x]) to) (j+1) b' b1→J (optI b') b1 w':=λb' b1 w' x' h'=>by rw[hJ]; exact d3 a4 _ _ w' ⟨x',b',rfl,h'⟩
  cases b with
  |none=>
   have a5:=hB.step (near:=true) a9 b8 ⟨(λ_ j' h=>by cases h),λ_=>rfl⟩
   refine bound ⟨p,λ_=>rfl,c.dr,λ_=>hv.ld a0 8 rfl,a8,λ_=>⟨b3,b7⟩,qi,λ_=>by rw[bw]; exact b5 _ a0,p,λ_=>rfl,c.dr,λ_=>hv.ld a0 8 rfl,a8,λh=>absurd h dC,qi,λh=>absurd h dC,bound (bound ?_)⟩
   have e:(decide (optI none<0)||decide ((qi.len:Int)<(qi.len:Int)))=true:=rfl
   rw[e]
   exact⟨λhc=>a7 (some j) _ w4 a0 (a5.1 hc),λhc=>a7 none _ w4 a0 (a5.2 hc)⟩
  |some m=>
   obtain⟨e5,_,_⟩:=hB.ok m rfl
   obtain⟨b2,qb,c3,d1,d5,c6,_⟩:=hv.at_ (show m<s.dirs.length by omega)
   have l2:=d5.len
   have e0:decide (optI (some m)<0)=false:=decide_eq_false (by show ¬(m:Int)<0; omega)
   have a5:=hB.step (near:=decide ((qi.len:Int)<(qb.len:Int))) a9 b8 (by
    rw[decide_eq_true_iff]
    exact⟨λh j' h'=>by cases h'; omega,λh=>by have:=h m rfl; omega⟩)
   rw[e0]
   refine bound ⟨p,λ_=>rfl,c.dr,λ_=>hv.ld a0 8 rfl,a8,λ_=>⟨b3,b7⟩,qi,λ_=>by rw[bw]; exact b5 _ a0,p,λ_=>rfl,c.dr,λ_=>hv.ld a0 8 rfl,b2,λ_=>⟨c3,d1⟩,qb,λ_=>by show ldc w4 (b2.add ((m:Int).toNat*9)) _; rw[bw]; exact c6 _ a0,bound (bound ?_)⟩
   rw[li]
   exact⟨λhc=>a7 (some j) _ w4 a0 (a5.1 hc),λhc=>a7 (some m) _ w4 a0 (a5.2 hc)⟩
 ·have a4:j=s.dirs.length:=oM
  subst a4
  obtain⟨m,n,rfl,h2,h3,h4⟩:=hB.fin (hI.allAbove hs) d0
  rw[b4]
  exact hR m n w1 x1 h2 h3 h4
theorem Zwx{x:ByteArray}{R:Int→World→Prop}(hv:RlV w p S c G P old s)(hR: ∀w',Ext w w'→R (optI (Zom s src x)) w'):SE.Zba (some p) (src:Int) x w R:=by
 unfold SE.Zba
 have a7:=hv.st.len
 refine loop1.up hv.st.max (λk w'=>Ext w w'∧ ∀u∈s.done.take k,¬(u.src=src∧u.label=x)) ⟨Ext.refl _,(λ_ h=>by cases h)⟩ λk w1 a9 hk ⟨x1,hI⟩ hn=>⟨p,rfl,c.st,hv.ld x1 9 (r:=[]) rfl,λa6=>?_,λa8=>?_⟩
 ·have a4:k<s.done.length:=oM
  obtain⟨ad,ha,_,a5⟩:=setEl hv.st a4
  have a0:(0:Int)≤(k:Int)∧(k:Int)<(c.st.len:Int):=⟨oM,a6⟩
  refine⟨p,rfl,c.st,hv.ld x1 9 (r:=[]) rfl,ad,⟨ha,a0⟩,(s.done[k].src:Int),by rw[bw]; exact(a5 _ x1).pre rfl,bound ⟨p,λ_=>rfl,c.st,λ_=>hv.ld x1 9 (r:=[]) rfl,ad,λ_=>⟨ha,a0⟩,s.done[k].label,λ_=>by rw[bw]; exact(a5 _ x1).mid (k:=1) rfl,λhc=>?_,λhc=>?_⟩⟩
  ·simp only[bx,beq_iff_eq,Zap]at hc
   refine⟨p,rfl,c.st,hv.ld x1 9 (r:=[]) rfl,ad,⟨ha,a0⟩,(s.done[k].dst:Int),by rw[bw]; exact(a5 _ x1).mid (k:=2) (r:=[]) rfl,?_⟩
   have:=hR w1 x1
   rw[Z2u a4 hI ⟨oM,hc.2⟩]at this
   exact this
  ·refine hn a4 w1 ⟨x1,λu hu=>?_⟩
   rw[bu a4]at hu
   rcases dj.1 hu with hu|hu
   ·exact hI u hu
   ·rw[ci.1 hu]
    rintro⟨h1,h2⟩
    rw[h1,h2]at hc
    simp[Zap.2]at hc
 ·rw[dg oM]at hI
  have:=hR w1 x1
  rw[Z5w hI]at this
  exact this
theorem Z5n(hG:I.g=G)(hv:RlV w p S c G P old s)(a4:to<s.dirs.length)(c9: ∀d∈s.dirs,d.node<G.length)(hb: ∀d∈s.dirs,d.path.length≤4000000)(a8: ∀k,∀q∈Ziw G k,Zn q.name=true)
  (hR: ∀(b:Bool) w',Ext w w'→(b=true↔Sees I s src to)→R b w'):SE.Zb0 (some p) (to:Int) (src:Int) w R:=by
 unfold SE.Zb0
 have d5:=hv.dlen
 have d7:=hv.g.len
 obtain⟨ad,qs,ha,hl,_,_,c5⟩:=hv.at_ a4
 have hn:nodeAt s.dirs to<G.length:=by rw[Zd1 (bq a4)]; exact c9 _ (cj a4)
 have a0: ∀w',Ext w w'→ ¬Sees I s src to→R false w':=λw' hx h=>hR false w' hx ⟨nO,λhf=>absurd hf h⟩
 have a8:=a8 (nodeAt s.dirs to)
 unfold Sees at a0 hR
 rw[hG]at a0 hR
 obtain⟨c2,cg,eg,c4,_,b4,_,b9⟩:=Zed hv.g hn
 have d4:=b4.len
 have c3:Ziw G (nodeAt s.dirs to)=G[nodeAt s.dirs to].ctx:=by unfold Ziw; rw[bq hn]
 rw[c3]at a0 hR a8
 have c6: ∀q:ByteArray,Zn q=true→Zy3 (s.dirs.map (dirOf P)) to q=optI (Zb8 s.dirs (Zb s.dirs to) q (Zb s.dirs to).length):=λq hq=>by
  have hl:to<(s.dirs.map (dirOf P)).length:=by simpa using a4
  rw[Zoq hl,hq,if_pos rfl,Zk8]
  have:((s.dirs.map (dirOf P))[to]).path=Zb s.dirs to:=by
   rw[lf,Zbl (bq a4)]; rfl
  rw[this]
 generalize d8:nodeAt s.dirs to=nd at*
 refine bnd.drew λw1 x1=>⟨p,rfl,c.u,hv.ld0 x1,p,rfl,c.dr,hv.ld x1 8 rfl,ad,⟨ha,hl⟩,(nd:Int),by rw[bw]; exact c5 _ x1,c2,⟨c4,oM,oM⟩,_,_,_,_,cg,eg,by rw[bw]; exact b9 _ x1,newS.set rfl λa w2 x2 b3 _=> ?_⟩
 generalize G[nd].ctx=cx at*
 have b5:=x1.trans x2
 refine loop1.up b4.max (λk w'=>Ext w2 w'∧ ∀q∈cx.take k,∃d,Zom s src q.name=some d∧Zb8 s.dirs (Zb s.dirs to) q.name (Zb s.dirs to).length=some d) ⟨Ext.refl _,(λ_ h=>by cases h)⟩ λk w3 d3 hk ⟨x3,hI⟩ c8=>⟨cg,b3.at1 (k:=4) x3 rfl,λc7=>?_,λd6=>?_⟩
 ·have a7:k<cx.length:=oM
  obtain⟨b2,b7,_,d1,a9⟩:=Zlh b4 a7
  have b0:=cj a7
  have d2:cx.take (k+1)=cx.take k++ [cx[k]]:=bu a7
  have c1:=b5.trans x3
  have hq:=a8 _ b0
  have b8: ∀w',Ext w2 w'→(∃d,Zom s src cx[k].name=some d∧Zb8 s.dirs (Zb s.dirs to) cx[k].name (Zb s.dirs to).length=some d)→d3 (Za ((k:Int)+1)) w':=λw' x' hd=>c8 a7 w' ⟨x',λq hq=>by
   rw[d2]at hq
   rcases dj.1 hq with hq|hq
   ·exact hI q hq
   ·rw[ci.1 hq]; exact hd⟩
  have a6: ∀w',Ext w w'→ ¬(∃d,Zom s src cx[k].name=some d∧Zb8 s.dirs (Zb s.dirs to) cx[k].name (Zb s.dirs to).length=some d)→R false w':=λw' hx d0=>a0 w' hx λhF=>d0 (hF _ b0)
  generalize cx[k]=q at*
  have b1:(0:Int)≤(k:Int)∧(k:Int)<(cg.len:Int):=⟨oM,c7⟩
  refine⟨cg,b3.at1 (k:=4) x3 rfl,b2,⟨b7,b1⟩,q.name,by rw[bw]; exact(a9 _ c1).pre rfl,SE.Zba.go (Zwx (hv.ext c1) λw4 x4=>⟨_,rfl,bnd.drew λw5 x5=>bound ?_⟩)⟩
  have b6:=x3.trans (x4.trans x5)
  have a5:=b5.trans b6
  cases hst:Zom s src q.name with
  |none=>
   refine⟨p,nO,Sl.nil,nO,Sl.nil,nO,b2,nO,q.name,nO,gCall.no ⟨λ_=>a6 w5 a5 (λ⟨d,h1,_⟩=>by rw[hst]at h1; cases h1),nO⟩⟩
  |some d=>
   have e0:decide (optI (some d)<0)=false:=decide_eq_false (by show ¬(d:Int)<0; omega)
   rw[e0]
   refine⟨p,λ_=>rfl,c.dr,λ_=>hv.ld a5 8 rfl,cg,λ_=>b3.at1 (k:=4) b6 rfl,b2,λ_=>⟨b7,b1⟩,q.name,λ_=>by rw[bw]; exact(a9 _ a5).pre rfl,gCall.yes (SE.Zcy.go (Zrg (hv.lt.ext a5.size) (hv.dr.ext a5) (by simpa using a4) d1 (λd hd=>by
    obtain⟨y,hy,rfl⟩:=fh.1 hd
    have:=hb y hy
    show y.path.length≤_
    omega) λw6 x6=>⟨_,rfl,?_⟩))⟩
   rw[c6 _ hq]
   have e1:(false|| !(optI (Zb8 s.dirs (Zb s.dirs to) q.name (Zb s.dirs to).length)==optI (some d)))= !decide (Zb8 s.dirs (Zb s.dirs to) q.name (Zb s.dirs to).length=some d):=by
    rw[li]
    congr 1
    rw[ep,beq_iff_eq,decide_eq_true_iff]
    constructor
    ·intro h
     cases hl:Zb8 s.dirs (Zb s.dirs to) q.name (Zb s.dirs to).length with
     |none=>rw[hl]at h; have h:(-1:Int)=(d:Int):=h; omega
     |some m=>rw[hl]at h; have h:(m:Int)=(d:Int):=h; congr 1; omega
    ·intro h; rw[h]
   dsimp only
   rw[e1]
   refine⟨λhc=>a6 w6 (a5.trans x6) λ⟨d',h1,h2⟩=>?_,λhc=>b8 w6 (b6.trans x6) ⟨d,hst,by simpa using hc⟩⟩
   rw[hst]at h1
   cases h1
   rw[decide_eq_true h2]at hc; cases hc
 ·rw[dg oM]at hI
  exact hR true w3 (b5.trans x3) ⟨λ_=>hI,λ_=>rfl⟩
end
theorem apSet:ApT prog 138 198 3 32:=Zhv (z:=.agg #[.int .i64 0,.string ⟨#[]⟩,.int .i64 0]) kR kR rfl dC
structure RMl(w:World)(lo:Nat)(p:Addr)(S:Nat→Prop)(c:RC)(G:List Node)(P:List Pack)(old:Option (List Dir))(s:PlS):Prop where
 box:BoxAt w p c.c
 plo:lo≤p.block
 g:SlR nodeE w S c.u G
 pk:SlR packE w S c.ps P
 old:OldS w S old c.so c.lk
 lt:Old S w
 nS: ¬S p.block
 dr: ∃D,OwnS dirE 69 w lo D c.dr (s.dirs.map (dirOf P))∧ ¬D p.block∧(∀ad,c.st.a=some ad→ ¬D ad.block)∧ ∀b,D b→S b∨p.block<b
 st:OwnS setE 198 w lo None' c.st s.done
 drP: ∀ad,c.dr.a=some ad→ad.block≠p.block∧ ¬S ad.block
 stP: ∀ad,c.st.a=some ad→ad.block≠p.block∧ ¬S ad.block
 apart: ∀a b,c.dr.a=some a→c.st.a=some b→a.block≠b.block
section
variable {w w':World} {lo:Nat} {p:Addr} {S:Nat→Prop} {c:RC} {G:List Node} {P:List Pack} {old:Option (List Dir)} {s:PlS}
theorem RMl.ext(h:RMl w lo p S c G P old s)(hx:Ext w w'):RMl w' lo p S c G P old s:=by
 obtain⟨D,h1,h2⟩:=h.dr
 exact⟨h.box.ext hx,h.plo,h.g.ext hx,h.pk.ext hx,h.old.ext hx,h.lt.ext hx.size,h.nS,⟨D,h1.ext hx,h2⟩,h.st.ext hx,h.drP,h.stP,h.apart⟩
theorem RMl.read(h:RMl w lo p S c G P old s)(hd:s.dirs.length≤1000)(hs:s.done.length*32≤room∧s.done.length≤maxLen):RlV w p (λb=>b<w.heap.size) c G P old s:=by
 obtain⟨D,h1,_⟩:=h.dr
 have r1:=h1.read (by rw[cm]; show s.dirs.length*144≤room; unfold room; omega) (by rw[cm,Zd]; omega)
 have r2:=h.st.read hs.1 hs.2
 refine⟨h.box,h.g.mono λb hb=>h.lt b hb,h.pk.mono λb hb=>h.lt b hb,r1.mono λb hb=>?_,r2.mono λb hb=>?_,?_,λb hb=>hb⟩
 ·rcases hb with hb|⟨ad,ha,rfl⟩
  ·exact h1.lt b hb
  ·exact(h1.block ha).2.1
 ·rcases hb with hb|⟨ad,ha,rfl⟩
  ·exact hb.elim
  ·exact(h.st.block ha).2.1
 ·exact h.old.mono λb hb=>h.lt b hb
structure RMv(lo:Nat)(p:Addr)(c:RC)(w:World)(c':RC)(w':World):Prop where
 bel:Below lo w w'
 oth: ∀b,b<w.heap.size→b≠p.block→(∀ad,c.dr.a=some ad→b≠ad.block)→(∀ad,c.st.a=some ad→b≠ad.block)→w'.heap[b]? =w.heap[b]?
 dr: ∀ad,c'.dr.a=some ad→c.dr.a=some ad∨w.heap.size≤ad.block
 st: ∀ad,c'.st.a=some ad→c.st.a=some ad∨w.heap.size≤ad.block
 same:c'={c with dr:=c'.dr,st:=c'.st}
theorem RMv.size{c':RC}(h:RMv lo p c w c' w'):w.heap.size≤w'.heap.size:=Below.size h.bel
theorem RMv.of{c:RC}(hx:Ext w w')(hl:lo≤w.heap.size):RMv lo p c w c w':=⟨Below.mono hx hl,λ_ hb _ _ _=>hx.block hb,λ_ h=>.inl h,λ_ h=>.inl h,rfl⟩
theorem RMv.trans{c1 c2:RC}{w1 w2:World}(h:RMv lo p c w c1 w1)(k:RMv lo p c1 w1 c2 w2):RMv lo p c w c2 w2:=by
 have hs:=h.size
 refine⟨Below.trans h.bel k.bel,λb hb h1 h2 h3=>?_,λad ha=>?_,λad ha=>?_,?_⟩
 ·rw[k.oth b oM h1 (λad ha e=>?_) λad ha e=>?_,h.oth b hb h1 h2 h3]
  ·rcases h.dr ad ha with q|q
   ·exact h2 ad q e
   ·omega
  ·rcases h.st ad ha with q|q
   ·exact h3 ad q e
   ·omega
 ·rcases k.dr ad ha with q|q
  ·exact h.dr ad q
  ·right; omega
 ·rcases k.st ad ha with q|q
  ·exact h.st ad q
  ·right; omega
 ·rw[k.same,h.same]
theorem RMv.box{c':RC}(h:RMv lo p c w c' w')(hb:BoxAt w a cs)(h1:a.block≠p.block)(h2: ∀ad,c.dr.a=some ad→a.block≠ad.block)(h3: ∀ad,c.st.a=some ad→a.block≠ad.block):BoxAt w' a cs:=
 hb.keep (S:=λb=>b≠p.block∧(∀ad,c.dr.a=some ad→b≠ad.block)∧ ∀ad,c.st.a=some ad→b≠ad.block) ⟨h1,h2,h3⟩ λb hb hl=>h.oth b hl hb.1 hb.2.1 hb.2.2
theorem RMl.lo_le(h:RMl w lo p S c G P old s):lo≤w.heap.size:=by have:=h.plo; have:=h.box.lt; omega
theorem RMl.mv{c':RC}(h:RMl w lo p S c G P old s)(k:RMv lo p c w c' w'):Keep S w w':=λb hb hl=>k.oth b hl (λe=>h.nS (e▸hb)) (λad ha e=>(h.drP ad ha).2 (e▸hb)) λad ha e=>(h.stP ad ha).2 (e▸hb)
theorem RMl.pushD{x:Dr}(h:RMl w lo p S c G P old s)(hx:dirE.rep w Q (dirOf P x) cs)(hc:ldc w a cs)
  (hQ: ∀b,Q b→b<w.heap.size∧b≠p.block∧(∀ad,c.dr.a=some ad→b≠ad.block)∧(∀ad,c.st.a=some ad→b≠ad.block)∧(S b∨p.block<b)) (hl:s.dirs.length≤1000)
  (hk: ∀r w',RMl w' lo p S {c with dr:=r} G P old ⟨s.dirs++ [x],s.done⟩→RMv lo p c w {c with dr:=r} w'→K w'):
  appS prog 28 28 c.dr (Sl.v ⟨some a,1,1⟩) w λt w1=>∃p1:Addr,some p=some p1∧stw w1 (p1.add 8) [Sl.v t] K:=by
 obtain⟨D,o,a6,a9,a8⟩:=h.dr
 have b3:=h.box.lt
 refine o.push Zz6 h.lo_le hx hc (λb hb=>(hQ b hb).1) (λad ha hb=>(hQ _ hb).2.2.1 ad ha rfl) (by rw[cm]; show _*144≤room; unfold room; omega) (by rw[cm,Zd]; omega) λr w1 o1 bel oth a5=>⟨p,rfl,?_⟩
 have b4:=Below.size bel
 have b0:BoxAt w1 p c.c:=h.box.keep (S:=λb=>∀ad,c.dr.a=some ad→b≠ad.block) (λad ha e=>(h.drP ad ha).1 e.symm) λb hb hl=>oth b hl hb
 refine stw.intro (old:=c.c) b0 (o:=8) (by show 8+1≤10; omega) λw2 b2 b6 b1=>?_
 have b5:=b2.1
 have a0: ∀b,b<w.heap.size→b≠p.block→(∀ad,c.dr.a=some ad→b≠ad.block)→w2.heap[b]? =w.heap[b]? :=λb hb h1 h2=>(b2.2.2.2.2 b oM h1).trans (oth b hb h2)
 have mv:RMv lo p c w {c with dr:=r} w2:=⟨Below.trans bel (b2.below (by have:=h.lo_le; omega) h.plo),λb hb h1 h2 _=>a0 b hb h1 h2,a5,λ_ h=>.inl h,rfl⟩
 have a4:=h.mv mv
 have a7: ∀ad,r.a=some ad→ad.block≠p.block∧ ¬S ad.block:=λad ha=>by
  rcases a5 ad ha with q|q
  ·exact h.drP ad q
  ·exact⟨oM,λhS=>by have:=h.lt _ hS; omega⟩
 refine hk r w2 ⟨b1,h.plo,h.g.keep a4,h.pk.keep a4,h.old.keep a4,λb hb=>by have:=h.lt b hb; omega,h.nS,⟨λb=>D b∨Q b,?_,λhb=>?_,λad ha hb=>?_,λb hb=>?_⟩,?_,a7,h.stP,λu v hu hv=>?_⟩ mv
 ·have:=o1.but b2 (λhb=>?_) λad ha=>Ne.symm (a7 ad ha).1
  ·rw[←List.map_singleton (f:=dirOf P),←ec]at this
   exact this
  ·rcases hb with hb|hb
   ·exact a6 hb
   ·exact(hQ _ hb).2.1 rfl
 ·rcases hb with hb|hb
  ·exact a6 hb
  ·exact(hQ _ hb).2.1 rfl
 ·rcases hb with hb|hb
  ·exact a9 ad ha hb
  ·exact(hQ _ hb).2.2.2.1 ad ha rfl
 ·rcases hb with hb|hb
  ·exact a8 b hb
  ·exact(hQ b hb).2.2.2.2
 ·refine h.st.keep mv.size λb hb hq=>?_
  rcases hq with hq|⟨ad,ha,rfl⟩
  ·exact hq.elim
  ·exact a0 _ hb (h.stP ad ha).1 λd hd e=>h.apart d ad hd ha e.symm
 ·rcases a5 u hu with q|q
  ·exact h.apart u v q hv
  ·have:=(h.st.block hv).2.1; omega
theorem RMl.pushS{x:Stl}(h:RMl w lo p S c G P old s)(hx: ∀w,setE.rep w None' x cs)(hc:ldc w a cs)(hl:(s.done.length+1)*32≤room∧s.done.length+1≤maxLen)
  (hk: ∀r w',RMl w' lo p S {c with st:=r} G P old ⟨s.dirs,s.done++ [x]⟩→RMv lo p c w {c with st:=r} w'→K w'):
  appS prog 138 138 c.st (Sl.v ⟨some a,1,1⟩) w λt w1=>∃p1:Addr,some p=some p1∧stw w1 (p1.add 9) [Sl.v t] K:=by
 obtain⟨D,o,a6,a7,a9⟩:=h.dr
 have b3:=h.box.lt
 refine h.st.push apSet h.lo_le (hx w) hc (λb hb=>hb.elim) (λad ha hb=>hb) hl.1 hl.2 λr w1 o1 bel oth a4=>⟨p,rfl,?_⟩
 have o1:=OwnS.flat (λh=>h) o1
 have b4:=Below.size bel
 have b0:BoxAt w1 p c.c:=h.box.keep (S:=λb=>∀ad,c.st.a=some ad→b≠ad.block) (λad ha e=>(h.stP ad ha).1 e.symm) λb hb hl=>oth b hl hb
 refine stw.intro (old:=c.c) b0 (o:=9) (by show 9+1≤10; omega) λw2 b2 b6 b1=>?_
 have b5:=b2.1
 have a0: ∀b,b<w.heap.size→b≠p.block→(∀ad,c.st.a=some ad→b≠ad.block)→w2.heap[b]? =w.heap[b]? :=λb hb h1 h2=>(b2.2.2.2.2 b oM h1).trans (oth b hb h2)
 have mv:RMv lo p c w {c with st:=r} w2:=⟨Below.trans bel (b2.below (by have:=h.lo_le; omega) h.plo),λb hb h1 _ h3=>a0 b hb h1 h3,λ_ h=>.inl h,a4,rfl⟩
 have a5:=h.mv mv
 have a8: ∀ad,r.a=some ad→ad.block≠p.block∧ ¬S ad.block:=λad ha=>by
  rcases a4 ad ha with q|q
  ·exact h.stP ad q
  ·exact⟨oM,λhS=>by have:=h.lt _ hS; omega⟩
 refine hk r w2 ⟨b1,h.plo,h.g.keep a5,h.pk.keep a5,h.old.keep a5,λb hb=>by have:=h.lt b hb; omega,h.nS,⟨D,?_,a6,λad ha hb=>?_,a9⟩,o1.but b2 (λh=>h) λad ha=>Ne.symm (a8 ad ha).1,h.drP,a8,λu v hu hv=>?_⟩ mv
 ·refine o.keep mv.size λb hb hq=>?_
  rcases hq with hq|⟨ad,ha,rfl⟩
  ·exact a0 b hb (λe=>a6 (e▸hq)) λd hd e=>a7 d hd (e▸hq)
  ·exact a0 _ hb (h.drP ad ha).1 λd hd e=>h.apart ad d ha hd e
 ·rcases a4 ad ha with q|q
  ·exact a7 ad q hb
  ·have:=o.lt _ hb; omega
 ·rcases a4 v hv with q|q
  ·exact h.apart u v hu q
  ·have:=(o.block hu).2.1; omega
end
theorem Zzc{x:ByteArray}{cx:List Pin}(hc:SlR pinE w S cg cx)(hR: ∀w',Ext w w'→R (cx.any (isN x)) w'):SE.Zc4 nm a1 a2 a3 cg eg x w R:=by
 unfold SE.Zc4
 have hl:=hc.len
 refine newS.intro λa w1 x1 a4 _ _=>loop1.up hc.max (λk w'=>Ext w1 w'∧(cx.take k).any (isN x)=false) ⟨Ext.refl _,rfl⟩ λk w2 a9 hk ⟨x2,hI⟩ hn=>⟨cg,a4.at1 (k:=4) x2 rfl,λa6=>?_,λa8=>?_⟩
 ·have a0:k<cx.length:=oM
  obtain⟨ad,ha,_,_,a5⟩:=Zlh hc a0
  refine⟨cg,a4.at1 (k:=4) x2 rfl,ad,⟨ha,oM,a6⟩,cx[k].name,by rw[bw]; exact(a5 _ (x1.trans x2)).pre rfl,λhe=>?_,λa7=>hn a0 w2 ⟨x2,?_⟩⟩
  ·have:=hR w2 (x1.trans x2)
   rw[ir.2 ⟨cx[k],cj a0,by unfold isN; simpa using he⟩]at this
   exact this
  ·rw[Zdm a0 hI]
   unfold isN; simpa using a7
 ·rw[dg oM]at hI
  have:=hR w2 (x1.trans x2)
  rw[hI]at this; exact this
section
variable {w:World} {lo:Nat} {p:Addr} {S:Nat→Prop} {c:RC} {G:List Node} {P:List Pack} {old:Option (List Dir)} {s:PlS}
theorem Z8m{k:Nat}{x:ByteArray}{R:Int→Int→World→Prop}(hv:RMl w lo p S c G P old s)(hd:s.dirs.length≤1000)(hs:s.done.length≤1000000)(hb: ∀d∈s.dirs,d.path.length≤1000)(hh:h<s.dirs.length)(hk:k<G.length)(hP:k<P.length)(hn:G[k].name=x)
  (h1: ∀w',Ext w w'→c.l4<((Z5 (Zb s.dirs h++ [x])).length:Int)→R 0 40 w')
  (h2: ∀w',Ext w w'→((Z5 (Zb s.dirs h++ [x])).length:Int)≤c.l4→c.l3<(s.dirs.length:Int)→R 0 41 w')
  (h3: ∀r w',((Z5 (Zb s.dirs h++ [x])).length:Int)≤c.l4→(s.dirs.length:Int)≤c.l3→RMl w' lo p S {c with dr:=r} G P old ⟨s.dirs++ [⟨Zb s.dirs h++ [x],k⟩],s.done⟩→RMv lo p c w {c with dr:=r} w'→R (s.dirs.length:Int) 0 w'):
  SE.Zas (some p) (h:Int) (k:Int) w R:=by
 unfold SE.Zas
 have a0:=hv.read hd ⟨by unfold room; omega,by rw[Zd]; omega⟩
 have b0: ∀d∈s.dirs,d.path.length≤4000000:=λd hm=>co (hb d hm) dC
 have d8:=Zi2 hb hh
 have d4:=a0.dlen
 have d5:=hv.g.len; have d3:=hv.pk.len
 have c9:=hv.lo_le
 obtain⟨b8,_,_,c2,b5,_,_,b1⟩:=Zed hv.g hk
 rw[hn]at b5
 obtain⟨b7,dP,eP,oP,c1,_,b9,c5,c7,d0,c4⟩:=Zmm hv.pk hP
 have c8:P.getD k Zx=P[k]:=by rw[iq,bq hP]; rfl
 refine⟨p,rfl,c.u,a0.ld0 xR,b8,⟨c2,oM,oM⟩,x,by rw[bw,←hn]; exact(b1 _ xR).pre rfl,?_⟩
 refine SE.Zab.go (rinside_se a0 hh b5 b0 λnp w1 x1 o1=>⟨_,rfl,bnd.drew λw2 x2=>?_⟩)
 have a9:=x1.trans x2
 generalize hq:Zb s.dirs h++ [x]=q at*
 have d9:q.length≤1001:=by rw[←hq,br,fl]; omega
 have b2:SlR strE w1 (λb=>w.heap.size≤b∧b<w1.heap.size) np q:=o1.strsB oM
 refine⟨p,rfl,c.l4,by rw[Zfq]; exact hv.box.at1 (k:=5) a9 rfl,callX.intro (SE.Zbz.go (Zlc (b2.ext x2) λw3 x3=>⟨x3,_,rfl,λa5=>?_,λd1=>bnd.drew λw4 x4=>?_⟩))⟩
 ·rw[Zk]at a5
  exact h1 w3 (a9.trans x3) a5
 rw[Zk]at d1
 have a7:=a9.trans (x3.trans x4)
 have ew:Za ((c.dr.len:Int) - 1)=(s.dirs.length:Int) - 1:=by rw[Zc oM oM]; omega
 refine⟨p,rfl,c.dr,a0.ld a7 8 rfl,p,rfl,c.l3,by rw[Zfq]; exact hv.box.at1 (k:=4) a7 rfl,?_⟩
 rw[ew]
 refine⟨λc6=>h2 w4 a7 oM oM,λd2=>bnd.drew λw5 x5=>?_⟩
 have a8:=a7.trans x5
 refine⟨p,rfl,c.dr,a0.ld a8 8 rfl,p,rfl,c.ps,a0.ld a8 1 rfl,b7,⟨c1,oM,oM⟩,_,_,_,_,dP,eP,oP,by rw[bw]; exact c4 _ a8,newS.intro λa6 w6 x6 c3 _ _=> ?_⟩
 have a4:=a8.trans x6
 have b6:=x2.trans (x3.trans (x4.trans (x5.trans x6)))
 have e0:=a4.size; have s1:=x1.size; have e1:=b6.size
 have b4:dirE.rep w6 (λb=>S b∨(w.heap.size≤b∧b<w6.heap.size)) (dirOf P ⟨q,k⟩) [np.v,.string P[k].name,.int .i64 P[k].v.ma,.int .i64 P[k].v.mi,.int .i64 P[k].v.pa,dP.v,eP.v,oP.v,.int .i64 (k:Int)]:=by
  have b3:(dirOf P ⟨q,k⟩)=⟨q,P[k],(k:Int)⟩:=by unfold dirOf; rw[c8]
  rw[b3]
  exact⟨b9,np,dP,eP,oP,rfl,(b2.ext b6).mono λb hb=>.inr ⟨hb.1,oM⟩,(c5.ext a4).mono λ_ h=>.inl h,(c7.ext a4).mono λ_ h=>.inl h,(d0.ext a4).mono λ_ h=>.inl h⟩
 refine(hv.ext a4).pushD (x:=⟨q,k⟩) b4 (c3.ldc.pre (r:=[]) rfl) (λb hb=>?_) hd λr w7 h7 m7=>?_
 ·have d7:=hv.box.lt
  rcases hb with hb|hb
  ·have:=hv.lt b hb
   exact⟨oM,λe=>hv.nS (e▸hb),λad ha e=>(hv.drP ad ha).2 (e▸hb),λad ha e=>(hv.stP ad ha).2 (e▸hb),.inl hb⟩
  ·refine⟨hb.2,oM,λad ha e=>?_,λad ha e=>?_,.inr oM⟩
   ·obtain⟨D,o,_⟩:=hv.dr
    have:=(o.block ha).2.1; omega
   ·have:=(hv.st.block ha).2.1; omega
 ·have d6:r.len=s.dirs.length+1:=by
   obtain⟨D,o,_⟩:=h7.dr
   have:r.len=((s.dirs++ [(⟨q,k⟩:Dr)]).map (dirOf P)).length:=o.len
   simpa using this
  refine⟨p,rfl,r,h7.box.at1 (k:=8) xR rfl,?_⟩
  have e7:Za ((r.len:Int) - 1)=(s.dirs.length:Int):=by rw[Zc oM oM]; omega
  rw[e7]
  exact h3 r w7 oM oM h7 ((RMv.of a4 c9).trans m7)
theorem Z8l{k:Nat}{R:Int→World→Prop}(h:RMl w lo p S c G P old s)(hI:PInv G s src)(ha:src<s.dirs.length)(hx:kindE G (nodeAt s.dirs src) e=k→NewL s src e.name)(i0:Str e.name)(o8:0≤e.to∧e.to<(G.length:Int))(hP:P.length=G.length)
  (n0:Zn e.name=true) (m7: ∀k,∀q∈Ziw G k,Zn q.name=true) (n2: ∀y,G[e.to.toNat]? =some y→y.name=e.name)
  (hk:k=1∨k=2∨k=3) (hd:s.dirs.length≤1000) (hs:s.done.length≤1000000) (l9:c.l3=D) (m0:c.l4=M)
  (h0:kindE G (nodeAt s.dirs src) e≠k→ ∀w',Ext w w'→R 0 w')
  (hR:kindE G (nodeAt s.dirs src) e=k→ ∀c' w' code s',EdgeR (plI G P old D M) s src e k code s'→RMl w' lo p S c' G P old s'→RMv lo p c w c' w'→R code w'):SE.Zb7 (some p) (src:Int) e.name e.to (k:Int) w R:=by
 unfold SE.Zb7
 subst l9 m0
 have a4:=h.read hd ⟨by unfold room; omega,by rw[Zd]; omega⟩
 have j9:Zqt s:=λt ht=>(hI.src t ht).2
 have a9: ∀d∈s.dirs,d.path.length≤1000:=λd hm=>by
  obtain⟨i,hi⟩:=ip hm
  have:=hI.plen i d hi
  have:=(ce.1 hi).1
  omega
 have e0: ∀d∈s.dirs,d.path.length≤4000000:=λd hm=>co (a9 d hm) dC
 have f1: ∀d∈s.dirs.map (dirOf P),d.path.length≤4000000000000:=λd hm=>by
  obtain⟨y,hy,rfl⟩:=fh.1 hm
  have:=a9 y hy
  show y.path.length≤_
  omega
 obtain⟨ad,qs,k3,k5,o7,o0,k9⟩:=a4.at_ ha
 have o1:=a4.dlen
 have o5:=h.pk.len; have o2:=h.g.len
 have m4:=h.lo_le
 have o4:=h.box.lt
 obtain⟨en,f5⟩: ∃en:Nat,e.to=(en:Int):=⟨e.to.toNat,oM⟩
 have b0:en<G.length:=oM
 have e1:en<P.length:=oM
 have b6:e.to.toNat=en:=oM
 have e2:G[en].name=e.name:=n2 _ (by rw[b6]; exact bq b0)
 have hn:nodeAt s.dirs src<G.length:=by rw[Zd1 (bq ha)]; exact hI.node _ (cj ha)
 obtain⟨j4,cg,eg,k4,_,l0,_,h7⟩:=Zed h.g hn
 obtain⟨j6,ct,et,k6,_,l6,_,h8⟩:=Zed h.g b0
 have n7:=l6.len
 have j7:Ziw G (nodeAt s.dirs src)=G[nodeAt s.dirs src].ctx:=by unfold Ziw; rw[bq hn]
 have j8:Ziw G e.to.toNat=G[en].ctx:=by rw[b6]; unfold Ziw; rw[bq b0]
 have d5:kindE G (nodeAt s.dirs src) e=if G[nodeAt s.dirs src].ctx.any (isN e.name)then 1 else if G[en].ctx.length=0 then 2 else 3:=by unfold kindE; rw[j7,j8]
 generalize o3:nodeAt s.dirs src=nd at*
 generalize hq:Zb s.dirs src=q at*
 have o6:q.length≤1000:=by rw[←hq]; exact Zi2 a9 ha
 generalize c1:plI G P old c.l3 c.l4=I at*
 have k0:I.g=G:=by rw[←c1]; rfl
 have a0: ∀to,Right I s src e k to↔Zb8 s.dirs q e.name q.length=some to∧(nodeAt s.dirs to:Int)=e.to∧(k=3→Sees I s src to):=λto=>by unfold Right; rw[hq]
 have d0: ∀w',Ext w w'→RMv lo p c w c w':=λw' x=>RMv.of x m4
 refine newS.intro λa w1 x1 b2 n9 _=>bnd.drew λw2 x2=>?_
 have d2:=x1.trans x2
 refine⟨p,rfl,c.u,a4.ld0 d2,p,rfl,c.dr,a4.ld d2 8 rfl,ad,⟨k3,k5⟩,(nd:Int),by rw[bw]; exact k9 _ d2,j4,⟨k4,oM,oM⟩,_,_,_,_,cg,eg,by rw[bw]; exact h7 _ d2,newS.set rfl λa3 w3 x3 k7 _=> ?_⟩
 have i9:=d2.trans x3
 refine⟨_,_,_,_,cg,eg,k7.at0 (r:=[]) xR rfl,e.name,b2.at0 (x2.trans x3) rfl,?_⟩
 refine SE.Zc4.go (Zzc (l0.ext i9) λw4 x4=>⟨_,rfl,join.named λJ hJ=>?_⟩)
 have d3:=i9.trans x4
 have d8:=x2.trans (x3.trans x4)
 have c8: ∀w5,Ext w w5→Ext w1 w5→J ((kindE G nd e:Nat):Int) w5:=by
  subst hJ
  intro w5 j0 j2
  refine⟨λm8=>h0 (λhe=>m8 (by rw[he])) w5 j0,λl7=>bnd.drew λw6 x6=>?_⟩
  have h6:kindE G nd e=k:=by have:=fj.1 l7; omega
  have hR:=hR h6
  have n3:Spot s q e.name q.length:=by
   rw[←hq,Zbl (bq ha)]
   exact hI.spot (bq ha) (hx h6)
  clear h0 hx
  have d7:=j0.trans x6
  refine⟨p,rfl,c.dr,a4.ld d7 8 rfl,e.name,b2.at0 (j2.trans x6) rfl,?_⟩
  refine SE.Zcy.go (Zrg (a4.lt.ext d7.size) (a4.dr.ext d7) (by simpa using ha) i0 f1 λw7 x7=>⟨_,rfl,bnd.drew λw8 x8=>bound ?_⟩)
  have d4:=d7.trans (x7.trans x8)
  have g5:=j2.trans (x6.trans (x7.trans x8))
  have m1:Zy3 (s.dirs.map (dirOf P)) src e.name=optI (Zb8 s.dirs q e.name q.length):=by
   have hl:src<(s.dirs.map (dirOf P)).length:=by simpa using ha
   rw[Zoq hl,n0,if_pos rfl,Zk8]
   have:((s.dirs.map (dirOf P))[src]).path=q:=by
    rw[lf,←hq,Zbl (bq ha)]; rfl
   rw[this]
  rw[m1]
  generalize m3:Zb8 s.dirs q e.name q.length=lk at*
  obtain⟨i,hi,g0⟩: ∃i,i<s.dirs.length∧ ∀j,lk=some j→j=i:=by
   cases hl:lk with
   |none=>exact⟨src,ha,(λ_ h=>by cases h)⟩
   |some j=>exact⟨j,Zsf (m3.trans hl),λk hk=>by cases hk; rfl⟩
  obtain⟨j5,_,h4,m2,_,_,l5⟩:=a4.at_ hi
  have d6:decide (0≤optI lk)=true→lk=some i∧optI lk=(i:Int):=λhg=>by
   obtain⟨j,hj⟩:=Zgk.1 (of_decide_eq_true hg)
   have:=g0 j hj
   subst this
   exact⟨hj,by rw[hj]; rfl⟩
  refine⟨p,λ_=>rfl,c.dr,λ_=>a4.ld d4 8 rfl,j5,λhg=>⟨h4,by rw[(d6 hg).2]; exact m2⟩,(nodeAt s.dirs i:Int),λhg=>by rw[(d6 hg).2,bw]; exact l5 _ d4,e.to,λ_=>b2.at1 (k:=1) (r:=[]) g5 rfl,join.named λJ2 g8=>?_⟩
  have fin: ∀(to:Nat) (c9:RC) (s9:PlS) (w9:World) (K:Int→World→Prop),(K=λ(to:Int) (i4:World)=>bnd i4.drew λ(d1:World)=>∃(i1:Addr),(some p=some i1)∧ ∃(e7:Sl),(ldc d1 (i1.add 9) [(Sl.v e7)])∧ ∃(e8:ByteArray),(ldc d1 a [(Value.string e8)])∧newS d1 [(Value.int .i64 (src:Int)),(Value.string e8),(Value.int .i64 to)] 198 λj3 i5=>appS prog 138 138 e7 (Sl.v (Sl.mk (some j3) 1 1)) i5 λi3 i6=>∃(i2:Addr),(some p=some i2)∧stw i6 (i2.add 9) [(Sl.v i3)] λi7=>R 0 i7)→
    RMl w9 lo p S c9 G P old s9→RMv lo p c w c9 w9→BoxAt w9 a [.string e.name,.int .i64 e.to]→s9.done=s.done→EdgeR I s src e k 0 ⟨s9.dirs,s.done++ [⟨src,e.name,to⟩]⟩→K (to:Int) w9:=by
   intro to c9 s9 w9 K hK h9 m9 k8 f4 hE
   subst hK
   refine bnd.drew λa5 b9=>⟨p,rfl,c9.st,h9.box.at1 (k:=9) (r:=[]) b9 rfl,e.name,k8.at0 b9 rfl,newS.intro λn8 b8 b5 h5 _ _=> ?_⟩
   have x:=b9.trans b5
   refine(h9.ext x).pushS (x:=⟨src,e.name,to⟩) (λw=>⟨rfl,i0⟩) (h5.ldc.pre (r:=[]) rfl) ⟨by rw[f4]; unfold room; omega,by rw[f4,Zd]; omega⟩ λr n5 g7 n4=>?_
   rw[f4]at g7
   exact hR _ n5 0 _ hE g7 (m9.trans ((RMv.of x h9.lo_le).trans n4))
  have e6: ∀(f:Bool) w9,Ext w w9→Ext w1 w9→(f=true↔ ∃to,Right I s src e k to)→J2 f w9:=by
   subst g8
   intro f w9 b4 d9 hf
   refine bound ⟨λhc=>?_,λhc=>join.named λJ3 g9=>⟨λn1=>?_,λc7=>?_⟩⟩
   ·simp only[bx,ik,beq_iff_eq]at hc
    exact hR c w9 33 s (.lost (λto ht=>by rw[hf.2 ⟨to,ht⟩]at hc; cases hc.1) oM) (h.ext b4) (d0 w9 b4)
   ·have f6:f=false:=by simpa using n1
    have c5: ∀to,¬Right I s src e k to:=λto ht=>by rw[hf.2 ⟨to,ht⟩]at f6; cases f6
    have f8:k≠1:=λhk=>by subst hk; rw[f6]at hc; exact absurd hc dC
    refine join.named λJ4 h1=>?_
    have e5: ∀(hm n:Nat) a5,Ext w a5→Ext w1 a5→hm<s.dirs.length→Zb s.dirs hm=q.take n→(k=2→Best s q e.name (λn=>I.like (q.take n++ [e.name]) e.to.toNat) n)→(k=3→n=q.length)→J4 (hm:Int) a5:=by
     subst h1
     intro hm n a5 a6 j1 m5 b7 a7 h3
     have f0:k=2→Best s (Zb s.dirs src) e.name (λn=>I.like ((Zb s.dirs src).take n++ [e.name]) e.to.toNat) n:=by rw[hq]; exact a7
     have e9:k=3→n=(Zb s.dirs src).length:=by rw[hq]; exact h3
     have c2:BoxAt a5 a [.string e.name,.int .i64 e.to]:=b2.ext j1
     refine⟨e.to,c2.at1 (k:=1) (r:=[]) xR rfl,?_⟩
     have f7: ∀{R':Int→Int→World→Prop},SE.Zas (some p) (hm:Int) (en:Int) a5 R'→SE.Zas (some p) (hm:Int) e.to a5 R':=λh=>by rw[f5]; exact h
     have b3:I.maxP=c.l4:=by rw[←c1]; rfl
     have c4:I.maxD=c.l3:=by rw[←c1]; rfl
     have g4: ∀q',I.tlen q'=(Z5 q').length:=λq'=>by rw[←c1]; rfl
     refine SE.Zas.go (f7 (Z8m (x:=e.name) (h.ext a6) hd hs a9 m5 b0 e1 e2 (λb8 b5 c3=>⟨_,_,rfl,λ_=> ?_,λh=>absurd dC h⟩) (λb8 b5 b1 f2=>⟨_,_,rfl,λ_=> ?_,λh=>absurd dC h⟩) λr b8 b1 f9 g6 m11=>⟨_,_,rfl,λh=>absurd rfl h,λ_=> ?_⟩))
     ·rw[b7]at c3
      exact hR c b8 40 s (.long n c5 f8 f0 e9 (by rw[hq,b3,g4]; exact c3)) (h.ext (a6.trans b5)) (d0 _ (a6.trans b5))
     ·rw[b7]at b1
      exact hR c b8 41 s (.deep n c5 f8 f0 e9 (by rw[hq,b3,g4]; exact b1) (by rw[c4]; exact f2)) (h.ext (a6.trans b5)) (d0 _ (a6.trans b5))
     ·rw[b7]at b1 g6
      refine fin s.dirs.length _ ⟨s.dirs++ [⟨q.take n++ [e.name],en⟩],s.done⟩ b8 J3 g9 g6 ((d0 a5 a6).trans m11) (m11.box c2 oM (λad ha e=>?_) λad ha e=>?_) rfl ?_
      ·obtain⟨D,o,_⟩:=h.dr
       have:=(o.block ha).2.1; omega
      ·have:=(h.st.block ha).2.1; omega
      ·have:=EdgeR.put (I:=I) n c5 f8 f0 e9 (by rw[hq,b3,g4]; exact b1) (by rw[c4]; exact f9)
       rw[hq,b6]at this
       exact this
    clear h1
    refine⟨λl8=>⟨e.to,b2.at1 (k:=1) (r:=[]) d9 rfl,?_⟩,λl8=>?_⟩
    ·have f7: ∀{R':Int→World→Prop},SE.Zal (some p) (src:Int) (en:Int) w9 R'→SE.Zal (some p) (src:Int) e.to w9 R':=λh=>by rw[f5]; exact h
     refine SE.Zal.go (f7 (Z5f (x:=e.name) (a4.ext b4) hI ha e0 b0 e1 e2 (by rw[hq]; exact⟨_,n3⟩) λj n a5 b9 hj b7 a7=>⟨_,rfl,?_⟩))
     rw[hq]at b7 a7
     refine e5 j n a5 (b4.trans b9) (d9.trans b9) hj b7 (λ_=> ?_) (λh3=>by omega)
     rw[b6,←c1]; exact a7
    ·exact e5 src q.length w9 b4 d9 ha (by rw[cu]; exact hq) (λh2=>by omega) λ_=>rfl
   ·have c7:f=true:=by simpa using c7
    obtain⟨to,ht⟩:=hf.1 c7
    have g1:=((a0 to).1 ht).1
    have e3:optI lk=(to:Int):=by rw[g1]; rfl
    rw[e3]
    exact fin to c s w9 J3 g9 (h.ext b4) (d0 w9 b4) (b2.ext d9) rfl (.found to ht)
  clear g8
  have c6:decide (0≤optI lk)=true→((nodeAt s.dirs i:Int)==e.to)=true→ ∀t:Bool,(k=3→(t=true↔Sees I s src i))→(k≠3→t=true)→(t=true↔ ∃to,Right I s src e k to):=λg1 g2 t h3 m6=>by
   constructor
   ·intro ht
    exact⟨i,(a0 i).2 ⟨(d6 g1).1,by simpa using g2,λa8=>(h3 a8).1 ht⟩⟩
   ·rintro⟨to,ht⟩
    obtain⟨q1,q2,q3⟩:=(a0 to).1 ht
    have:=g0 to q1
    subst this
    by_cases a8:k=3
    ·exact(h3 a8).2 (q3 a8)
    ·exact m6 a8
  refine bound ⟨λhc=>?_,λhc=>?_⟩
  ·simp only[bx,beq_iff_eq]at hc
   obtain⟨⟨g1,g2⟩,g3⟩:=hc
   have a8:k=3:=oM
   have e4:optI lk=(i:Int):=(d6 g1).2
   rw[e4]
   refine SE.Zb0.go (Z5n (I:=I) (src:=src) k0 (a4.ext d4) hi hI.node e0 m7 λb w9 x9 hb=>⟨b,rfl,?_⟩)
   exact e6 b w9 (d4.trans x9) (g5.trans x9) (c6 g1 (by simpa using g2) b (λ_=>hb) λh=>absurd a8 h)
  ·refine e6 _ w8 d4 g5 ?_
   by_cases g1:decide (0≤optI lk)=true
   ·rw[g1,dw]at hc ⊢
    by_cases g2:((nodeAt s.dirs i:Int)==e.to)=true
    ·rw[g2]at hc ⊢
     refine c6 g1 g2 true (λa8=>?_) λ_=>rfl
     rw[a8]at hc
     exact absurd hc dC
    ·rw[il.2 g2]
     refine⟨nO,λ⟨to,ht⟩=>?_⟩
     obtain⟨q1,q2,_⟩:=(a0 to).1 ht
     have:=g0 to q1
     subst this
     exact absurd (by simpa using q2) g2
   ·rw[il.2 g1]
    refine⟨nO,λ⟨to,ht⟩=>?_⟩
    exact absurd (decide_eq_true (Zgk.2 ⟨to,((a0 to).1 ht).1⟩)) g1
 clear hJ
 refine⟨λhb=>?_,λhb=>bnd.drew λw5 x5=>?_⟩
 ·rw[Bool.not_not]at hb
  have:=c8 w4 d3 d8
  rw[d5,if_pos hb]at this; exact this
 ·rw[Bool.not_not]at hb
  rw[if_neg (by rw[hb]; decide)]at d5
  refine⟨p,rfl,c.u,a4.ld0 (d3.trans x5),e.to,b2.at1 (k:=1) (r:=[]) (d8.trans x5) rfl,j6,⟨k6,oM,oM⟩,ct,by rw[f5,bw]; exact(h8 _ (d3.trans x5)).mid (k:=4) rfl,λhp=>?_,λhp=>?_⟩
  ·have:=c8 w5 (d3.trans x5) (d8.trans x5)
   rw[d5,if_neg oM]at this; exact this
  ·have:=c8 w5 (d3.trans x5) (d8.trans x5)
   rw[d5,if_pos oM]at this; exact this
end
theorem Zun{α:Type}{l:List α}{nm:α→ByteArray}{f:Value}{n:Int}(hn:n=(l.length:Int))(hm:l.length≤maxLen)
  (hf: ∀(i:Nat) (h:i<l.length) w' (k:Value→World→Prop),Ext w w'→(∀a0,Ext w' a0→k (.string (nm l[i])) a0)→callV prog f [.int .i64 i] w' k)
  (hR: ∀(b:Bool) w',Ext w w'→(b=true↔RiseN nm l)→R b w'):SE.Zgm n f w R:=by
 unfold SE.Zgm
 subst hn
 refine loop1.from1 hm (λi w'=>Ext w w'∧RiseN nm (l.take i)) ⟨Ext.refl _,Zx0⟩ λi w1 a6 h1 hi ⟨x1,hI⟩ hn=>⟨λa5=>?_,λa4=>?_⟩
 ·have hl:i<l.length:=oM
  rw[Z3b h1 hl hm]
  refine hf (i - 1) oM w1 _ x1 λw2 x2=>⟨_,rfl,hf i hl w2 _ (x1.trans x2) λw3 x3=>⟨_,rfl,λh=>?_,λh=>?_⟩⟩
  ·exact hR false w3 (x1.trans (x2.trans x3)) ⟨nO,λg=>absurd g (Zxz h1 hl (by simpa using h))⟩
  ·exact hn hl w3 ⟨x1.trans (x2.trans x3),Zut h1 hl hI (by simpa using h)⟩
 ·rw[dg oM]at hI
  exact hR true w1 x1 ⟨λ_=>hI,λ_=>rfl⟩
theorem Zyt{s:Sl}{l:List Edge}{f:Value}{q:Edge→Bool}{R:Int→World→Prop}(hs:SlR edgeE w S s l)
  (hf: ∀x∈l,∀w' (k:Value→World→Prop),Ext w w'→(∀a4,Ext w' a4→k (.bool (q x)) a4)→callV prog f [.agg #[.string x.name,.int .i64 x.to]] w' k)
  (hR: ∀w',Ext w w'→R (idxI q l) w'):SE.Zam s f w R:=by
 unfold SE.Zam
 have hl:=hs.len
 refine loop1.up hs.max (λi w'=>Ext w w'∧(l.take i).any q=false) ⟨Ext.refl _,rfl⟩ λi w1 a7 hi ⟨x1,hI⟩ hn=>⟨λa5=>?_,λa6=>?_⟩
 ·have a0:i<l.length:=oM
  obtain⟨ad,ha,_,hc⟩:=Zhx hs a0
  refine⟨ad,⟨ha,oM,a5⟩,_,_,hc _ x1,hf _ (cj a0) _ _ x1 λw2 x2=>⟨_,rfl,λh=>?_,λh=>?_⟩⟩
  ·rw[←Zjo a0 hI h]; exact hR _ (x1.trans x2)
  ·exact hn a0 _ ⟨x1.trans x2,by rw[Zdm a0 hI]; exact h⟩
 ·have:i=l.length:=oM
  rw[this,cu]at hI
  rw[←Zgv hI]; exact hR _ x1
theorem Zvw:Zfj prog 39:=enters_of func39 kR rfl
theorem Zvx:Zfj prog 40:=enters_of func40 kR rfl
theorem Zvy:Zfj prog 42:=enters_of func42 kR rfl
theorem Zjl{x:Node}{n:ByteArray}:Znx g x n=(x.edges.find? λe=>decide (e.name=n)).bind λe=>g[e.to.toNat]? :=rfl
section
variable {E:Enc Stl} {w:World} {p:Addr} {S:Nat→Prop} {c:PC} {G:List Node} {P:List Pack} {old:Option (List Dir)} {s:PlS}
theorem Z8a(ht:Tab w)(h:PlV E w p S c G P old s)(hP:P.length=G.length)(hz:0<G.length→P[0]? =some Zx)(hR: ∀(b:Bool) w',Ext w w'→(b=true↔PlaceOk G P)→R b w'):SE.Zeo (some p) w R:=by
 unfold SE.Zeo
 have k8:=h.g.len
 have l0:=h.pk.len
 have d6: ∀w',Ext w w'→ ¬PlaceOk G P→R false w':=λw' hx h=>hR false w' hx ⟨nO,λhf=>absurd hf h⟩
 refine⟨p,rfl,c.u,h.ld0 xR,bound ⟨λhc=>d6 w xR λhF=>?_,λhc=>?_⟩⟩
 ·have:=hF.len
  rw[decide_eq_false oM,decide_eq_false oM]at hc
  cases hc
 simp only[dx,decide_eq_false_iff_not]at hc
 have c6:0<G.length:=oM
 refine⟨p,rfl,c.u,h.ld0 xR,?_⟩
 refine loop1.up h.g.max (λi w'=>Ext w w'∧ ∀j (hj:j<G.length),j<i→(j=0→G[j].key=rootNode.key)∧NodePl G P j G[j]) ⟨Ext.refl _,λj _ h=>by omega⟩ λi w1 j9 hi ⟨x1,hI⟩ hn=>⟨λj4=>?_,λk7=>?_⟩
 ·have c3:i<G.length:=oM
  have d7:i<P.length:=oM
  obtain⟨ad,cs,es,i4,l5,c8,b3,j3⟩:=Zed h.g c3
  obtain⟨d8,dP,eP,oP,e3,_,i3,i9,j0,j8,e6⟩:=Zmm h.pk d7
  have j7: ∀w',Ext w w'→(i=0→G[i].key=rootNode.key)→NodePl G P i G[i]→j9 (Za ((i:Int)+1)) w':=λw' x k1 k2=>hn c3 w' ⟨x,λj hj j2=>by
   rcases dn.1 j2 with h'|h'
   ·exact hI j hj h'
   ·subst h'; exact⟨k1,k2⟩⟩
  have d0: ∀w',Ext w w'→((i=0→G[i].key=rootNode.key)→ ¬NodePl G P i G[i])→R false w':=λw' x k=>d6 w' x λhF=>k (λh0=>by
   obtain⟨y,h1,h2⟩:=hF.root
   subst h0
   rw[bq c3]at h1
   cases h1; exact h2) (hF.node i _ (bq c3))
  have f8:P[i]? =some P[i]:=bq d7
  clear hn hI
  generalize G[i]=x at*
  generalize P[i]=pk at*
  have g5:=c8.len
  have k6:=b3.len
  refine⟨ad,⟨i4,oM,j4⟩,_,_,_,_,cs,es,by rw[bw]; exact j3 _ x1,newS.set rfl λa w2 x2 i5 _=>bnd.drew λw3 x3=>bound ?_⟩
  have b4:=x1.trans (x2.trans x3)
  have d2:=i5.ext x3
  refine⟨x.name,λ_=>d2.at0 xR rfl,bound ⟨x.v.ma,x.v.mi,x.v.pa,λ_=>d2.at1 (k:=1) xR rfl,bound ⟨cs,λ_=>d2.at1 (k:=4) xR rfl,bound (bound ⟨p,λ_=>rfl,c.ps,λ_=>h.ld b4 1 rfl,d8,λ_=>⟨e3,oM,oM⟩,pk.name,pk.v.ma,pk.v.mi,pk.v.pa,dP,eP,oP,λ_=>by rw[bw]; exact e6 _ b4,?_⟩)⟩⟩⟩
  refine gCall.intro (Zbb pk) (λ_ q hq=>SE.Zjr.go (Znl (ht.ext b4) i3 (i9.ext b4) (j0.ext b4) (j8.ext b4) λw4 x4=>⟨_,rfl,hq w4 x4⟩)) λh7 w4 x4 f7=>bound ?_
  have b7:=b4.trans x4
  have a5:=d2.ext x4
  refine⟨p,λ_=>rfl,c.ps,λ_=>h.ld b7 1 rfl,d8,λ_=>⟨e3,oM,oM⟩,pk.name,λ_=>by rw[bw]; exact(e6 _ b7).pre rfl,x.name,λ_=>a5.at0 xR rfl,bound ⟨p,λ_=>rfl,c.ps,λ_=>h.ld b7 1 rfl,d8,λ_=>⟨e3,oM,oM⟩,pk.v.ma,pk.v.mi,pk.v.pa,λ_=>by rw[bw]; exact(e6 _ b7).mid (k:=1) rfl,x.v.ma,x.v.mi,x.v.pa,λ_=>a5.at1 (k:=1) xR rfl,?_⟩⟩
  have f5:((x.v.ma==0)&&((x.v.mi==0)&&((x.v.pa==0)&&true)))=decide (x.v=⟨0,0,0⟩):=verB
  have f6:((pk.v.ma==x.v.ma)&&((pk.v.mi==x.v.mi)&&((pk.v.pa==x.v.pa)&&true)))=decide (pk.v=x.v):=verB
  have b2:((((i:Int)==0)&&((!bEq x.name (ByteArray.mk #[])|| !((x.v.ma==0)&&((x.v.mi==0)&&((x.v.pa==0)&&true))))||decide (0<(cs.len:Int))))||(decide (0<(i:Int))&&(((!h7)|| !bEq pk.name x.name)|| !((pk.v.ma==x.v.ma)&&((pk.v.mi==x.v.mi)&&((pk.v.pa==x.v.pa)&&true))))))=false↔(i=0→x.key=rootNode.key)∧(i≠0→Zbb pk=true∧pk.name=x.name∧pk.v=x.v):=by
   rw[f5,f6]
   by_cases h0:i=0
   ·subst h0
    rw[decide_eq_false (show ¬(0:Int)<((0:Nat):Int) by omega)]
    have ek:x.key=rootNode.key↔x.name=⟨#[]⟩∧x.v=⟨0,0,0⟩∧x.ctx= []:=by
     unfold Node.key rootNode
     simp only[Prod.mk.injEq]
    rw[ek]
    have e0:(((0:Nat):Int)==0)=true:=rfl
    rw[e0]
    simp[Zap,and_assoc]
    intro _ _
    exact⟨λh=>cq oM,λh=>by rw[h]at g5; simpa using g5⟩
   ·rw[decide_eq_true (show(0:Int)<(i:Int) by omega)]
    have e9:((i:Int)==0)=false:=by rw[beq_eq_false_iff_ne]; omega
    have i2: ∀b,(!(((i:Int)==0)&&b)&&true)=true:=λb=>by rw[e9]; rfl
    have h5:h7=Zbb pk:=f7 (by rw[decide_eq_true (show(0:Int)<(i:Int) by omega)]; exact i2 _)
    rw[h5,e9]
    simp[h0,Zap,and_assoc]
  refine⟨λhq=>d0 w4 b7 λk1 k2=>?_,λhq=>?_⟩
  ·rw[b2.2 ⟨k1,λh0=>by
    obtain⟨y,q1,q2,q3,q4⟩:=k2.pack h0
    rw[f8]at q1
    cases q1; exact⟨q2,q3,q4⟩⟩]at hq
   cases hq
  obtain⟨e8,e7⟩:=b2.1 hq
  clear b2 hq f7 f5 f6
  refine⟨cs,a5.at1 (k:=4) xR rfl,?_⟩
  refine SE.Zgm.go (Zun (l:=x.ctx) (nm:=Pin.name) oM c8.max (λj hj w' q x' hq=>⟨_,_,rfl,Zvw,SE.Zf1.go ?_⟩) λb5 w5 x5 e5=>⟨b5,rfl,bound ?_⟩)
  ·obtain⟨b0,e4,_,_,a6⟩:=Zlh c8 hj
   exact⟨cs,a5.at1 (k:=4) x' rfl,b0,⟨e4,oM,oM⟩,_,by rw[bw]; exact(a6 _ (b7.trans x')).pre rfl,hq _ xR⟩
  have f4:=b7.trans x5
  refine⟨es,λ_=>a5.at1 (k:=5) (r:=[]) x5 rfl,?_⟩
  refine gCall.holds (λt=>t=true↔RiseN Edge.name x.edges) (λhg q hq=>SE.Zgm.go (Zun (l:=x.edges) (nm:=Edge.name) oM b3.max (λj hj w' r x' hr=>⟨_,_,rfl,Zvx,SE.Zf2.go ?_⟩) λb6 w6 x6 c1=>⟨b6,rfl,hq b6 w6 x6 c1⟩)) λh6 w6 x6 b8=>⟨λhq=>?_,λhq=>?_⟩
  ·obtain⟨b0,e4,_,a6⟩:=Zhx b3 hj
   exact⟨es,a5.at1 (k:=5) (r:=[]) (x5.trans x') rfl,b0,⟨e4,oM,oM⟩,_,by rw[bw]; exact(a6 _ (f4.trans x')).pre rfl,hr _ xR⟩
  ·refine d0 w6 (f4.trans x6) λ_ k2=>?_
   rw[e5.2 k2.ctx]at hq b8
   rw[(b8 rfl).2 k2.edges]at hq
   cases hq
  have g4:b5=true:=by
   cases b5 with
   |true=>rfl
   |false=>cases hq
  subst g4
  have f0:h6=true:=by simpa using hq
  subst f0
  have i7:=e5.1 rfl
  have j1:=(b8 rfl).1 rfl
  clear hq e5 b8
  have h8:=f4.trans x6
  have c1:=a5.ext (x5.trans x6)
  refine⟨es,c1.at1 (k:=5) (r:=[]) xR rfl,?_⟩
  refine loop1.up b3.max (λj w'=>Ext w6 w'∧ ∀e∈x.edges.take j,∃(m:Nat) (y:Node),e.to=(m:Int)∧1≤m∧G[m]? =some y∧y.name=e.name) ⟨Ext.refl _,λ_ h=>by cases h⟩ λj w7 k4 hj ⟨x7,hJ⟩ j5=>⟨λg9=>?_,λk0=>?_⟩
  ·have a0:j<x.edges.length:=oM
   obtain⟨i0,f9,_,g7⟩:=Zhx b3 a0
   have b9:=cj a0
   have f1:x.edges.take (j+1)=x.edges.take j++ [x.edges[j]]:=bu a0
   have d1:=h8.trans x7
   generalize x.edges[j]=e at*
   refine⟨i0,⟨f9,oM,g9⟩,e.name,e.to,by rw[bw]; exact g7 _ d1,newS.set rfl λa8 w8 x8 i6 _=>bnd.drew λw9 x9=>?_⟩
   have c5:=d1.trans (x8.trans x9)
   have b1:=i6.ext x9
   obtain⟨m,hm,h4⟩: ∃m,m<G.length∧(0≤e.to∧e.to<(G.length:Int)→e.to=(m:Int)):=by
    by_cases hq:0≤e.to∧e.to<(G.length:Int)
    ·exact⟨e.to.toNat,oM,λ_=>by omega⟩
    ·exact⟨0,c6,λh=>absurd h hq⟩
   obtain⟨d9,_,_,c7,_,_,_,c9⟩:=Zed h.g hm
   have d3:((!(decide (e.to<1)||decide ((c.u.len:Int)≤e.to)))=true)→e.to=(m:Int)∧1≤m:=λhg=>by
    simp only[ik,dx,decide_eq_false_iff_not]at hg
    have:=h4 ⟨oM,oM⟩
    exact⟨this,oM⟩
   refine⟨e.to,b1.at1 (k:=1) (r:=[]) xR rfl,bound ⟨e.to,λ_=>b1.at1 (k:=1) (r:=[]) xR rfl,bound ⟨p,λ_=>rfl,c.u,λ_=>h.ld0 c5,e.to,λ_=>b1.at1 (k:=1) (r:=[]) xR rfl,d9,λhg=>⟨c7,by have:=(d3 hg).1; omega,by have:=(d3 hg).1; omega⟩,G[m].name,λhg=>by rw[(d3 hg).1,bw]; exact(c9 _ c5).pre rfl,e.name,λ_=>b1.at0 xR rfl,λhq=>?_,λhq=>?_⟩⟩⟩
   ·refine d0 w9 c5 λ_ k2=>?_
    obtain⟨m',y,q1,q2,q3,q4⟩:=k2.edge e b9
    have k9:=(ce.1 q3).1
    have:m=m':=by have:=h4 ⟨oM,oM⟩; omega
    subst this
    rw[bq hm]at q3
    cases q3
    rw[decide_eq_false oM,decide_eq_false oM,Zap.2 q4]at hq
    cases hq
   ·rw[dx]at hq
    obtain⟨g1,g2⟩:=d3 (by rw[hq.1]; rfl)
    refine j5 a0 w9 ⟨x7.trans (x8.trans x9),λe' c2=>?_⟩
    rw[f1]at c2
    rcases dj.1 c2 with c2|c2
    ·exact hJ e' c2
    ·rw[ci.1 c2]
     exact⟨m,G[m],g1,g2,bq hm,Zap.1 (by simpa using hq.2)⟩
  ·have a0:j=x.edges.length:=oM
   rw[a0,cu]at hJ
   have d1:=h8.trans x7
   refine⟨cs,c1.at1 (k:=4) x7 rfl,?_⟩
   refine loop1.up c8.max (λj w'=>Ext w7 w'∧ ∀q∈x.ctx.take j,∃y,Znx G x q.name=some y∧y.v=q.v) ⟨Ext.refl _,λ_ h=>by cases h⟩ λj w8 k5 hj ⟨x8,hK⟩ j6=>⟨λh3=>?_,λk3=>?_⟩
   ·have a0:j<x.ctx.length:=oM
    obtain⟨b0,g3,_,_,a6⟩:=Zlh c8 a0
    have b9:=cj a0
    have f1:x.ctx.take (j+1)=x.ctx.take j++ [x.ctx[j]]:=bu a0
    have h9:=d1.trans x8
    generalize x.ctx[j]=q at*
    refine⟨b0,⟨g3,oM,h3⟩,q.name,q.v.ma,q.v.mi,q.v.pa,by rw[bw]; exact a6 _ h9,newS.set rfl λa9 w9 x9 b1 _=>⟨es,c1.at1 (k:=5) (r:=[]) (x7.trans (x8.trans x9)) rfl,?_⟩⟩
    have c5:=h9.trans x9
    refine SE.Zam.go (Zyt (q:=λe=>decide (e.name=q.name)) (b3.ext c5) (λe he w' k x' hk=>⟨_,_,rfl,Zvy,SE.Zey.go ?_⟩) λl6 d4=>⟨_,rfl,bnd.drew λf2 d5=>bound ?_⟩)
    ·unfold SE.Zey
     refine newS.intro λa4 w4 x4 a5 _ _=>⟨_,a5.at0 xR rfl,q.name,b1.at0 (x'.trans x4) rfl,?_⟩
     have:bEq e.name q.name=decide (e.name=q.name):=by rw[ep,Zap,decide_eq_true_iff]
     rw[this]; exact hk w4 x4
    have a7:=c5.trans (d4.trans d5)
    rcases Zxi (λe:Edge=>decide (e.name=q.name)) x.edges with⟨e1,e2⟩|⟨k,hk,e1,e2⟩
    ·rw[e1]
     refine⟨p,nO,c.u,nO,es,nO,b0,nO,0,nO,b0,nO,0,0,0,nO,0,0,0,nO,λ_=>d0 f2 a7 λ_ k2=>?_,λhq=>?_⟩
     ·obtain⟨y,q1,_⟩:=k2.full q b9
      rw[Zjl,e2]at q1; cases q1
     ·exact absurd hq sI
    ·rw[e1]
     obtain⟨i1,g0,_,g8⟩:=Zhx b3 hk
     obtain⟨m,y,q1,q2,q3,q4⟩:=hJ _ (cj hk)
     have hm:=(ce.1 q3).1
     obtain⟨d9,_,_,c7,_,_,_,c9⟩:=Zed h.g hm
     rw[bq hm]at q3
     cases q3
     have g6:Znx G x q.name=some G[m]:=by
      rw[Zjl,e2,mc,q1,bw]
      exact bq hm
     refine⟨p,λ_=>rfl,c.u,λ_=>h.ld0 a7,es,λ_=>c1.at1 (k:=5) (r:=[]) (x7.trans (x8.trans (x9.trans (d4.trans d5)))) rfl,i1,λ_=>⟨g0,oM,oM⟩,x.edges[k].to,λ_=>by rw[bw]; exact(g8 _ a7).mid (k:=1) (r:=[]) rfl,d9,λ_=>⟨c7,oM,oM⟩,G[m].v.ma,G[m].v.mi,G[m].v.pa,λ_=>by rw[q1,bw]; exact(c9 _ a7).mid (k:=1) rfl,q.v.ma,q.v.mi,q.v.pa,λ_=>b1.at1 (k:=1) (r:=[]) (d4.trans d5) rfl,?_⟩
     have ev:((G[m].v.ma==q.v.ma)&&((G[m].v.mi==q.v.mi)&&((G[m].v.pa==q.v.pa)&&true)))=decide (G[m].v=q.v):=verB
     rw[ev,decide_eq_false (show ¬((k:Int)<0) by omega)]
     refine⟨λhq=>d0 f2 a7 λ_ k2=>?_,λhq=>j6 a0 f2 ⟨x8.trans (x9.trans (d4.trans d5)),λq' c4=>?_⟩⟩
     ·obtain⟨y,r1,r2⟩:=k2.full q b9
      rw[g6]at r1
      cases r1
      rw[decide_eq_true r2]at hq; cases hq
     ·rw[f1]at c4
      rcases dj.1 c4 with c4|c4
      ·exact hK q' c4
      ·rw[ci.1 c4]
       exact⟨_,g6,of_decide_eq_true (by simpa using hq)⟩
   ·have a0:j=x.ctx.length:=oM
    rw[a0,cu]at hK
    exact j7 w8 (d1.trans x8) e8 ⟨λh0=>⟨pk,f8,e7 h0⟩,i7,j1,hJ,hK⟩
 ·have c3:i=G.length:=oM
  subst c3
  refine hR true w1 x1 ⟨λ_=>⟨oM,hP,⟨G[0],bq c6,(hI 0 c6 c6).1 rfl⟩,hz c6,λj y hy=>?_⟩,λ_=>rfl⟩
  obtain⟨hj,rfl⟩:=ce.1 hy
  exact(hI j hj hj).2
end
theorem Z2h{cx:List Pin}{ex:List Edge}(hc:SlR pinE w S cg cx)(he:SlR edgeE w S eg ex)(hR: ∀(b:Bool) w',Ext w w'→(b=true↔NmsI Pin.name cx cx.length∧NmsI Edge.name ex ex.length)→R b w'):SE.Zdg nm a1 a2 a3 cg eg w R:=by
 unfold SE.Zdg
 have hl:=hc.len; have c3:=he.len
 have hm:=hc.max; have b7:=he.max
 rw[Zd]at hm b7
 have b3: ∀w',Ext w w'→ ¬(NmsI Pin.name cx cx.length∧NmsI Edge.name ex ex.length)→R false w':=λw' hx h=>hR false w' hx ⟨nO,λhf=>absurd hf h⟩
 refine newS.intro λa w1 x1 a7 _ _=>loop1.up hc.max (λk w'=>Ext w1 w'∧NmsI Pin.name cx k) ⟨Ext.refl _,Zxr⟩ λk w2 c4 hk ⟨x2,hI⟩ hn=>⟨cg,a7.at1 (k:=4) x2 rfl,λb0=>?_,λb6=>?_⟩
 ·have a4:k<cx.length:=oM
  obtain⟨ad,ha,_,a6,a9⟩:=Zlh hc a4
  have b9:=x1.trans x2
  refine⟨cg,a7.at1 (k:=4) x2 rfl,ad,⟨ha,oM,b0⟩,cx[k].name,by rw[bw]; exact(a9 _ b9).pre rfl,SE.Zay.go (r04Name_se a6 λw3 x3=>⟨_,rfl,bnd.drew λw4 x4=>bound (bound ?_)⟩)⟩
  have b2:=x2.trans (x3.trans x4)
  have b4:=x1.trans b2
  obtain⟨t,a0,a8,ht,a5⟩: ∃(t:ByteArray) (a0:Addr),(decide (0<(k:Int))=true→cg.a=some a0∧(0:Int)≤Za ((k:Int) - 1)∧Za ((k:Int) - 1)<(cg.len:Int))∧(∀h:0<k,t=(cx[k - 1]'oM).name)∧(decide (0<(k:Int))=true→ldc w4 (a0.add ((Za ((k:Int) - 1)).toNat*4)) [.string t]):=by
   by_cases h0:k=0
   ·subst h0
    exact⟨⟨#[]⟩,ad,λh=>absurd h dC,λh=>absurd h dC,λh=>absurd h dC⟩
   ·obtain⟨a0,a8,_,_,a5⟩:=Zlh hc (show k - 1<cx.length by omega)
    have e:Za ((k:Int) - 1)=((k - 1:Nat):Int):=by rw[Zc oM oM]; omega
    rw[e]
    exact⟨_,a0,λ_=>⟨a8,oM,oM⟩,λ_=>rfl,λ_=>by rw[bw]; exact(a5 _ b4).pre rfl⟩
  have hg: ∀{b c:Bool},((!b)&&c)=true→c=true:=λ{b c} h=>by cases b<;>simp at h; exact h
  have a6:=Zxq (nm:=Pin.name) a4 ht
  refine⟨cg,λ_=>a7.at1 (k:=4) b2 rfl,a0,λh=>a8 (hg h),t,λh=>a5 (hg h),cg,λ_=>a7.at1 (k:=4) b2 rfl,ad,λ_=>⟨ha,oM,b0⟩,cx[k].name,λ_=>by rw[bw]; exact(a9 _ b4).pre rfl,λhq=>b3 w4 b4 λhF=>a6.2 hq hF.1,λhq=>hn a4 w4 ⟨b2,a6.1 hq hI⟩⟩
 ·have a4:k=cx.length:=oM
  subst a4
  refine loop1.up he.max (λk w'=>Ext w1 w'∧NmsI Edge.name ex k) ⟨x2,Zxr⟩ λk w3 c2 hk ⟨x3,hJ⟩ b8=>⟨eg,a7.at1 (k:=5) (r:=[]) x3 rfl,λb0=>?_,λb6=>?_⟩
  ·have a4:k<ex.length:=oM
   obtain⟨ad,ha,a6,a9⟩:=Zhx he a4
   have c1:=x1.trans x3
   refine⟨eg,a7.at1 (k:=5) (r:=[]) x3 rfl,ad,⟨ha,oM,b0⟩,ex[k].name,by rw[bw]; exact(a9 _ c1).pre rfl,SE.Zay.go (r04Name_se a6 λw4 x4=>⟨_,rfl,bnd.drew λw5 x5=>bound (bound ?_)⟩)⟩
   have b1:=x3.trans (x4.trans x5)
   have b5:=x1.trans b1
   obtain⟨t,a0,a8,ht,a5⟩: ∃(t:ByteArray) (a0:Addr),(decide (0<(k:Int))=true→eg.a=some a0∧(0:Int)≤Za ((k:Int) - 1)∧Za ((k:Int) - 1)<(eg.len:Int))∧(∀h:0<k,t=(ex[k - 1]'oM).name)∧(decide (0<(k:Int))=true→ldc w5 (a0.add ((Za ((k:Int) - 1)).toNat*2)) [.string t]):=by
    by_cases h0:k=0
    ·subst h0
     exact⟨⟨#[]⟩,ad,λh=>absurd h dC,λh=>absurd h dC,λh=>absurd h dC⟩
    ·obtain⟨a0,a8,_,a5⟩:=Zhx he (show k - 1<ex.length by omega)
     have e:Za ((k:Int) - 1)=((k - 1:Nat):Int):=by rw[Zc oM oM]; omega
     rw[e]
     exact⟨_,a0,λ_=>⟨a8,oM,oM⟩,λ_=>rfl,λ_=>by rw[bw]; exact(a5 _ b5).pre rfl⟩
   have hg: ∀{b c:Bool},((!b)&&c)=true→c=true:=λ{b c} h=>by cases b<;>simp at h; exact h
   have a6:=Zxq (nm:=Edge.name) a4 ht
   refine⟨eg,λ_=>a7.at1 (k:=5) (r:=[]) b1 rfl,a0,λh=>a8 (hg h),t,λh=>a5 (hg h),eg,λ_=>a7.at1 (k:=5) (r:=[]) b1 rfl,ad,λ_=>⟨ha,oM,b0⟩,ex[k].name,λ_=>by rw[bw]; exact(a9 _ b5).pre rfl,λhq=>b3 w5 b5 λhF=>a6.2 hq hF.2,λhq=>b8 a4 w5 ⟨b1,a6.1 hq hJ⟩⟩
  ·have a4:k=ex.length:=oM
   subst a4
   exact hR true w3 (x1.trans x3) ⟨λ_=>⟨hI,hJ⟩,λ_=>rfl⟩
theorem Z5i{x:ByteArray}{ex:List Edge}{R:Int→World→Prop}(he:SlR edgeE w S eg ex)(hR: ∀w',Ext w w'→R (idxI (λe:Edge=>decide (e.name=x)) ex) w'):SE.Zdz nm a1 a2 a3 cg eg x w R:=by
 unfold SE.Zdz
 have hl:=he.len
 refine newS.intro λa w1 x1 a4 _ _=>loop1.up he.max (λk w'=>Ext w1 w'∧(ex.take k).any (λe=>decide (e.name=x))=false) ⟨Ext.refl _,rfl⟩ λk w2 a8 hk ⟨x2,hI⟩ hn=>⟨eg,a4.at1 (k:=5) (r:=[]) x2 rfl,λa6=>?_,λa7=>?_⟩
 ·have a0:k<ex.length:=oM
  obtain⟨ad,ha,_,a5⟩:=Zhx he a0
  refine⟨eg,a4.at1 (k:=5) (r:=[]) x2 rfl,ad,⟨ha,oM,a6⟩,ex[k].name,by rw[bw]; exact(a5 _ (x1.trans x2)).pre rfl,λhq=>?_,λhq=>hn a0 w2 ⟨x2,?_⟩⟩
  ·rw[←Zjo (p:=λe:Edge=>decide (e.name=x)) a0 hI (by simpa using hq)]
   exact hR w2 (x1.trans x2)
  ·rw[Zdm a0 hI]
   simpa using hq
 ·rw[dg oM]at hI
  rw[←Zgv hI]
  exact hR w2 (x1.trans x2)
theorem Z5j{ps:Sl}(hg:SlR nodeE w S u G)(hp:SlR packE w S ps P)(hi:i<G.length)(hP:P.length=G.length)(hR: ∀(b:Bool) w',Ext w w'→(b=true↔NodeR G P i G[i])→R b w'):SE.Zd0 u ps (i:Int) w R:=by
 unfold SE.Zd0
 have j1:=hg.len
 have j3:=hp.len
 have d5:i<P.length:=oM
 have a4: ∀w',Ext w w'→ ¬NodeR G P i G[i]→R false w':=λw' hx h=>hR false w' hx ⟨nO,λhf=>absurd hf h⟩
 obtain⟨ad,cs,es,h9,j4,c7,b1,i1⟩:=Zed hg hi
 obtain⟨c2,dP,eP,oP,c3,_,h8,g5,g6,h3,c6⟩:=Zmm hp d5
 have e4:P[i]? =some P[i]:=bq d5
 have f7:i=0→P[0]? =some P[i]:=λh=>by subst h; exact e4
 generalize G[i]=x at*
 generalize P[i]=pk at*
 have g0:=c7.len
 have j0:=b1.len
 refine newS.intro λa w1 x1 c4 _ _=>⟨u,c4.at0 (r:=[]) xR rfl,ad,⟨h9,oM,oM⟩,_,_,_,_,cs,es,by rw[bw]; exact i1 _ x1,newS.set rfl λa2 w2 x2 f9 _=> ?_⟩
 have b3:=x1.trans x2
 refine⟨c2,⟨c3,oM,oM⟩,pk.name,pk.v.ma,pk.v.mi,pk.v.pa,dP,eP,oP,by rw[bw]; exact c6 _ b3,?_⟩
 refine SE.Zbx.go (Zlb (p:=pk) (q:=Zx) (g5.ext b3) (g6.ext b3) (h3.ext b3) (SlR.nil trivial) (SlR.nil trivial) (SlR.nil trivial) λw3 x3=>⟨_,rfl,c2,⟨c3,oM,oM⟩,pk.name,pk.v.ma,pk.v.mi,pk.v.pa,dP,eP,oP,by rw[bw]; exact c6 _ (b3.trans x3),?_⟩)
 have c9:=b3.trans x3
 refine SE.Zco.go (Zpt (p:=pk) h8 (g5.ext c9) (g6.ext c9) (h3.ext c9) λw4 x4=>⟨_,rfl,_,_,_,_,cs,es,(f9.ext (x3.trans x4)).at0 (r:=[]) xR rfl,?_⟩)
 have f0:=c9.trans x4
 refine SE.Zdg.go (Z2h (c7.ext f0) (b1.ext f0) λi4 w5 x5 e3=>⟨_,rfl,bound ?_⟩)
 have h4:=f0.trans x5
 have c5:=f9.ext (x3.trans (x4.trans x5))
 refine⟨x.name,λ_=>c5.at0 xR rfl,bound ⟨x.v.ma,x.v.mi,x.v.pa,λ_=>c5.at1 (k:=1) xR rfl,bound ⟨cs,λ_=>c5.at1 (k:=4) xR rfl,bound ?_⟩⟩⟩
 have f5:((x.v.ma==0)&&((x.v.mi==0)&&((x.v.pa==0)&&true)))=decide (x.v=⟨0,0,0⟩):=verB
 have ek:x.key=rootNode.key↔x.name=⟨#[]⟩∧x.v=⟨0,0,0⟩∧x.ctx= []:=by
  unfold Node.key rootNode
  simp only[Prod.mk.injEq]
 have b7:(cs.len:Int)=0↔x.ctx= []:=⟨λh=>cq oM,λh=>by rw[h]at g0; simpa using g0⟩
 rw[f5]
 have a5:(((i:Int)==0)&&(((!bEq x.name (ByteArray.mk #[])|| !decide (x.v=⟨0,0,0⟩))|| !((cs.len:Int)==0))|| !decide (pk=Zx)))=false↔(i=0→x.key=rootNode.key∧pk=Zx):=by
  rw[ek,←b7]
  by_cases h0:i=0
  ·subst h0
   simp[Zap,and_assoc]
  ·have e9:((i:Int)==0)=false:=by rw[beq_eq_false_iff_ne]; omega
   rw[e9]
   simp[h0]
 refine⟨λhq=>a4 w5 h4 λhF=>?_,λhq=>bnd.drew λw6 x6=>bound (bound ?_)⟩
 ·rw[a5.2 λh0=>⟨(hF.root h0).1,by have:=(hF.root h0).2; rw[f7 h0]at this; exact gu this⟩]at hq
  cases hq
 have b9:=a5.1 hq
 clear a5 hq f5 ek b7
 have b4:=h4.trans x6
 have a8:=c5.ext x6
 refine⟨c2,λ_=>⟨c3,oM,oM⟩,pk.name,λ_=>by rw[bw]; exact(c6 _ b4).pre rfl,x.name,λ_=>a8.at0 xR rfl,bound ⟨c2,λ_=>⟨c3,oM,oM⟩,pk.v.ma,pk.v.mi,pk.v.pa,λ_=>by rw[bw]; exact(c6 _ b4).mid (k:=1) rfl,x.v.ma,x.v.mi,x.v.pa,λ_=>a8.at1 (k:=1) xR rfl,?_⟩⟩
 have f6:((pk.v.ma==x.v.ma)&&((pk.v.mi==x.v.mi)&&((pk.v.pa==x.v.pa)&&true)))=decide (pk.v=x.v):=verB
 rw[f6]
 have a6:(decide (0<(i:Int))&&(((!Zbb pk)|| !bEq pk.name x.name)|| !decide (pk.v=x.v)))=false↔(i≠0→Zbb pk=true∧pk.name=x.name∧pk.v=x.v):=by
  by_cases h0:i=0
  ·subst h0; simp
  ·rw[decide_eq_true (show(0:Int)<(i:Int) by omega)]
   simp[h0,Zap,and_assoc]
 refine⟨λhq=>a4 w6 b4 λhF=>?_,λhq=>?_⟩
 ·rw[a6.2 λh0=>by
   obtain⟨y,q1,q2,q3,q4⟩:=hF.pl.pack h0
   rw[e4]at q1
   cases q1; exact⟨q2,q3,q4⟩]at hq
  cases hq
 have e6:=a6.1 hq
 clear a6 hq f6
 refine⟨λhq=>a4 w6 b4 λhF=>?_,λhq=>?_⟩
 ·rw[e3.2 ⟨⟨by rw[cu]; exact hF.pl.ctx,by rw[cu]; exact hF.cn⟩,by rw[cu]; exact hF.pl.edges,by rw[cu]; exact hF.en⟩]at hq
  cases hq
 have ht:i4=true:=by simpa using hq
 obtain⟨⟨g4,g3⟩,g9,g8⟩:=e3.1 ht
 rw[cu]at g4 g3 g9 g8
 clear e3 hq ht
 refine loop1.up b1.max (λj w'=>Ext w6 w'∧ ∀e∈x.edges.take j,∃(m:Nat) (y:Node),e.to=(m:Int)∧1≤m∧G[m]? =some y∧y.name=e.name) ⟨Ext.refl _,(λ_ h=>by cases h)⟩ λj w7 i7 hj ⟨x7,hJ⟩ i2=>⟨es,a8.at1 (k:=5) (r:=[]) x7 rfl,λd8=>?_,λi5=>?_⟩
 ·have a0:j<x.edges.length:=oM
  obtain⟨f4,d2,_,d6⟩:=Zhx b1 a0
  have a9:=cj a0
  have e7:x.edges.take (j+1)=x.edges.take j++ [x.edges[j]]:=bu a0
  have c1:=b4.trans x7
  generalize x.edges[j]=e at*
  refine⟨es,a8.at1 (k:=5) (r:=[]) x7 rfl,f4,⟨d2,oM,d8⟩,e.to,by rw[bw]; exact(d6 _ c1).mid (k:=1) (r:=[]) rfl,bnd.drew λw8 x8=>bound ?_⟩
  have f1:=c1.trans x8
  have h6:=(x2.trans (x3.trans (x4.trans (x5.trans x6)))).trans (x7.trans x8)
  have i0:=a8.ext (x7.trans x8)
  obtain⟨m,hm,h2⟩: ∃m,m<G.length∧(0≤e.to∧e.to<(G.length:Int)→e.to=(m:Int)):=by
   by_cases hq:0≤e.to∧e.to<(G.length:Int)
   ·exact⟨e.to.toNat,oM,λ_=>by omega⟩
   ·exact⟨i,hi,λh=>absurd h hq⟩
  obtain⟨e0,_,_,b6,_,_,_,b8⟩:=Zed hg hm
  have c8:((!(decide (e.to<1)||decide ((u.len:Int)≤e.to)))=true)→e.to=(m:Int)∧1≤m:=λhg=>by
   simp only[ik,dx,decide_eq_false_iff_not]at hg
   have:=h2 ⟨oM,oM⟩
   exact⟨this,oM⟩
  refine⟨u,λ_=>c4.at0 (r:=[]) h6 rfl,bound ⟨u,λ_=>c4.at0 (r:=[]) h6 rfl,e0,λhg=>⟨b6,by have:=(c8 hg).1; omega,by have:=(c8 hg).1; omega⟩,G[m].name,λhg=>by rw[(c8 hg).1,bw]; exact(b8 _ f1).pre rfl,es,λ_=>i0.at1 (k:=5) (r:=[]) xR rfl,f4,λ_=>⟨d2,oM,d8⟩,e.name,λ_=>by rw[bw]; exact(d6 _ f1).pre rfl,λhq=>?_,λhq=>?_⟩⟩
  ·refine a4 w8 f1 λhF=>?_
   obtain⟨m',y,q1,q2,q3,q4⟩:=hF.pl.edge e a9
   have j2:=(ce.1 q3).1
   have:m=m':=by have:=h2 ⟨oM,oM⟩; omega
   subst this
   rw[bq hm]at q3
   cases q3
   rw[decide_eq_false oM,decide_eq_false oM,Zap.2 q4]at hq
   cases hq
  ·rw[dx]at hq
   obtain⟨g1,g2⟩:=c8 (by rw[hq.1]; rfl)
   refine i2 a0 w8 ⟨x7.trans x8,λe' b0=>?_⟩
   rw[e7]at b0
   rcases dj.1 b0 with b0|b0
   ·exact hJ e' b0
   ·rw[ci.1 b0]
    exact⟨m,G[m],g1,g2,bq hm,Zap.1 (by simpa using hq.2)⟩
 ·have a0:j=x.edges.length:=oM
  rw[a0,cu]at hJ
  have c1:=b4.trans x7
  refine loop1.up c7.max (λj w'=>Ext w7 w'∧ ∀q∈x.ctx.take j,∃y,Znx G x q.name=some y∧y.v=q.v) ⟨Ext.refl _,(λ_ h=>by cases h)⟩ λj w8 i9 hj ⟨x8,hK⟩ i3=>⟨cs,a8.at1 (k:=4) (x7.trans x8) rfl,λd9=>bnd.drew λw9 x9=>?_,λi6=>?_⟩
  ·have a0:j<x.ctx.length:=oM
   obtain⟨b5,d3,_,_,d7⟩:=Zlh c7 a0
   have a9:=cj a0
   have e7:x.ctx.take (j+1)=x.ctx.take j++ [x.ctx[j]]:=bu a0
   have f2:=c1.trans (x8.trans x9)
   have e5:=a8.ext (x7.trans (x8.trans x9))
   generalize x.ctx[j]=q at*
   refine⟨_,_,_,_,cs,es,e5.at0 (r:=[]) xR rfl,cs,e5.at1 (k:=4) xR rfl,b5,⟨d3,oM,d9⟩,q.name,by rw[bw]; exact(d7 _ f2).pre rfl,?_⟩
   refine SE.Zdz.go (Z5i (b1.ext f2) λj5 d0=>⟨_,rfl,bnd.drew λe8 d1=>bound ?_⟩)
   have a7:=f2.trans (d0.trans d1)
   have d4:=e5.ext (d0.trans d1)
   have h5:=(x2.trans (x3.trans (x4.trans (x5.trans x6)))).trans ((x7.trans (x8.trans x9)).trans (d0.trans d1))
   rcases Zxi (λe:Edge=>decide (e.name=q.name)) x.edges with⟨e1,e2⟩|⟨k,hk,e1,e2⟩
   ·rw[e1]
    refine⟨u,nO,es,nO,b5,nO,0,nO,b5,nO,0,0,0,nO,cs,nO,b5,nO,0,0,0,nO,λ_=>a4 e8 a7 λhF=>?_,λhq=>?_⟩
    ·obtain⟨y,q1,_⟩:=hF.pl.full q a9
     rw[Zjl,e2]at q1; cases q1
    ·exact absurd hq sI
   ·rw[e1]
    obtain⟨h7,f8,_,h1⟩:=Zhx b1 hk
    obtain⟨m,y,q1,q2,q3,q4⟩:=hJ _ (cj hk)
    have hm:=(ce.1 q3).1
    obtain⟨e0,_,_,b6,_,_,_,b8⟩:=Zed hg hm
    rw[bq hm]at q3
    cases q3
    have g7:Znx G x q.name=some G[m]:=by
     rw[Zjl,e2,mc,q1,bw]
     exact bq hm
    refine⟨u,λ_=>c4.at0 (r:=[]) h5 rfl,es,λ_=>d4.at1 (k:=5) (r:=[]) xR rfl,h7,λ_=>⟨f8,oM,oM⟩,x.edges[k].to,λ_=>by rw[bw]; exact(h1 _ a7).mid (k:=1) (r:=[]) rfl,e0,λ_=>⟨b6,oM,oM⟩,G[m].v.ma,G[m].v.mi,G[m].v.pa,λ_=>by rw[q1,bw]; exact(b8 _ a7).mid (k:=1) rfl,cs,λ_=>d4.at1 (k:=4) xR rfl,b5,λ_=>⟨d3,oM,d9⟩,q.v.ma,q.v.mi,q.v.pa,λ_=>by rw[bw]; exact(d7 _ a7).mid (k:=1) (r:=[]) rfl,?_⟩
    have ev:((G[m].v.ma==q.v.ma)&&((G[m].v.mi==q.v.mi)&&((G[m].v.pa==q.v.pa)&&true)))=decide (G[m].v=q.v):=verB
    rw[ev,decide_eq_false (show ¬((k:Int)<0) by omega)]
    refine⟨λhq=>a4 e8 a7 λhF=>?_,λhq=>i3 a0 e8 ⟨x8.trans (x9.trans (d0.trans d1)),λq' b2=>?_⟩⟩
    ·obtain⟨y,r1,r2⟩:=hF.pl.full q a9
     rw[g7]at r1
     cases r1
     rw[decide_eq_true r2]at hq; cases hq
    ·rw[e7]at b2
     rcases dj.1 b2 with b2|b2
     ·exact hK q' b2
     ·rw[ci.1 b2]
      exact⟨_,g7,of_decide_eq_true (by simpa using hq)⟩
  ·have a0:j=x.ctx.length:=oM
   rw[a0,cu]at hK
   exact hR true w8 (c1.trans x8) ⟨λ_=>⟨λh0=>⟨(b9 h0).1,by rw[f7 h0,(b9 h0).2]⟩,⟨λh0=>⟨pk,e4,e6 h0⟩,g4,g9,hJ,hK⟩,g3,g8⟩,λ_=>rfl⟩
theorem Z8k{ps:Sl}(hg:SlR nodeE w S u G)(hp:SlR packE w S ps P)(hR: ∀(b:Bool) w',Ext w w'→(b=true↔PlaceOk G P)→R b w'):SE.Zem u ps w R:=by
 unfold SE.Zem
 have b0:=hg.len
 have b2:=hp.len
 have a5: ∀w',Ext w w'→ ¬PlaceOk G P→R false w':=λw' hx h=>hR false w' hx ⟨nO,λhf=>absurd hf h⟩
 refine newS.intro λa w1 x1 a0 _ _=>⟨u,a0.at0 (r:=[]) xR rfl,bound ⟨u,λ_=>a0.at0 (r:=[]) xR rfl,bound ⟨u,λ_=>a0.at0 (r:=[]) xR rfl,λhq=>a5 w1 x1 λhF=>?_,λhq=>?_⟩⟩⟩
 ·have h1:=hF.len; have h2:=hF.packs
  rw[decide_eq_false oM,decide_eq_false oM,show((ps.len:Int)==(u.len:Int))=true by rw[beq_iff_eq]; omega]at hq
  cases hq
 ·simp only[dx,decide_eq_false_iff_not,ka,beq_iff_eq]at hq
  have hP:P.length=G.length:=oM
  refine loop1.up hg.max (λi w'=>Ext w1 w'∧ ∀j (hj:j<G.length),j<i→NodeR G P j G[j]) ⟨Ext.refl _,λj _ h=>by omega⟩ λi w2 b3 hi ⟨x2,hI⟩ hn=>⟨u,a0.at0 (r:=[]) x2 rfl,λb1=>?_,λa9=>?_⟩
  ·have a4:i<G.length:=oM
   have a7:=x1.trans x2
   refine⟨u,a0.at0 (r:=[]) x2 rfl,SE.Zd0.go (Z5j (hg.ext a7) (hp.ext a7) a4 hP λb w3 x3 hb=>⟨b,rfl,λhf=>a5 w3 (a7.trans x3) λhF=>?_,λhf=>hn a4 w3 ⟨x2.trans x3,λj hj a8=>?_⟩⟩)⟩
   ·rw[hb.2 (hF.nodeR (bq a4))]at hf; cases hf
   ·rcases dn.1 a8 with h'|h'
    ·exact hI j hj h'
    ·subst h'; exact hb.1 (by simpa using hf)
  ·have a4:i=G.length:=oM
   subst a4
   have a6:0<G.length:=oM
   have h0:=(hI 0 a6 a6).root rfl
   refine hR true w2 (x1.trans x2) ⟨λ_=>⟨oM,hP,⟨G[0],bq a6,h0.1⟩,h0.2,λj y hy=>?_⟩,λ_=>rfl⟩
   obtain⟨hj,rfl⟩:=ce.1 hy
   exact(hI j hj hj).pl
def rW{α:Type}:Result α→World
 | .ok _ w=>w
 | .halt _ w=>w
theorem Z0c{α:Type}(w:World)(a:Ask α):w.drawn≤(w.ask a).2.drawn:=by
 fun_induction World.ask w a with
 |case1=>exact df _
 |case2 w a0 range k q h ih=>exact ih
 |case3 w a0 range k q h ih=>exact co (Nat.le_succ _) ih
theorem Zu4(w:World)(c:Sys):w.drawn≤(w.sys c).2.drawn:=by
 have h:=Z0c w (Kernel.perform c w.os)
 unfold World.sys
 split
 ·exact df _
 ·rename_i r os w' hr
  rw[hr]at h; exact h
theorem Zqa{at_:Addr}{u:TypeId}{k:Addr}{v:Value}{b:Bool}{l:List Addr}(h:w.viewStore p at_ u k v b= .ok (w',l)):w'.drawn=w.drawn:=by
 unfold World.viewStore at h
 simp only[bind,Except.bind,pure,Except.pure,throw,throwThe,MonadExceptOf.throw]at h
 repeat' first
  |(simp at h; done)
  |(simp only[Except.ok.injEq,Prod.mk.injEq]at h; obtain⟨rfl,_⟩:=h; rfl)
  |split at h
theorem Zqk{v:Value}{b:Bool}{l:List Addr}(h:w.farStore p a v b= .ok (w',l)):w'.drawn=w.drawn:=by
 unfold World.farStore at h
 split at h
 ·split at h
  ·rename_i r hr
   simp only[Except.ok.injEq]at h
   subst h
   exact Zqa hr
  ·cases h
 ·cases h
theorem Zst(w:World)(a:Addr)(v:Value):(w.setCell a v).drawn=w.drawn:=by
 unfold World.setCell
 repeat' first|rfl|split
theorem Ztx(w:World)(a:Addr)(n:Nat):(w.freeze a n).drawn=w.drawn:=by
 unfold World.freeze
 repeat' first|rfl|split
theorem Zmr{α:Type}(p:Program)(s:Sem α)(w:World):w.drawn≤(rW (s.run p w)).drawn:=by
 fun_induction Sem.run p s w
 all_goals first
  |exact df _
  |assumption
  |skip
 all_goals try (rename_i ih; rw[Zst]at ih; exact ih)
 all_goals try (rename_i ih; rw[Ztx]at ih; exact ih)
 all_goals try (rename_i ih; exact co (Nat.le_succ _) ih)
 all_goals try (rename_i ih; exact co (Zu4 _ _) ih)
 all_goals try (rename_i h ih; have:=Zqk h; omega)
 all_goals skip
theorem Zzj{α:Type}(p:Program)(s:Sem α)(w:World)(es:Array Event):w.drawn≤(rW (s.runT p w es).1).drawn:=by
 rw[Sem.runT_fst]; exact Zmr p s w
def gD(n:Nat):GStep→Prop
 | .go _ w _| .comm _ _ _ _ w _| .spawn _ _ w _| .count _ w _| .timer _ _ w _| .alone _ _ w _| .newcoro _ _ _ w _| .coroswitch _ _ _ w _| .collect _ w _| .watch _ w _| .ended _ w _=>n≤w.drawn
theorem Zl8{s:GStep}(h:gD n s):gD n (GStep.after es s):=by cases s<;>exact h
theorem Z0r(h:n≤w.drawn)(fd:Nat)(a0:ByteArray)(o:Outcome):gD n (endWith w fd a0 o):=by
 have h1:=Zu4 w (.write fd a0)
 unfold endWith
 simp only[]
 split
 all_goals (rename_i hs; rw[hs]at h1)
 ·split<;>exact co h h1
 ·exact co h h1
 ·exact co h h1
theorem Zna(h:n≤w.drawn)(fr:Frame)(m:String):gD n (endThrow fr m w):=h
theorem Zjm(h:n≤w.drawn)(p:Program)(fr:Frame)(v:Value):gD n (endPrinting p fr v w):=by
 unfold endPrinting
 simp only[]
 split<;>exact h
theorem rD{α:Type}{s:Sem α}{a:α}(h:s.run p w= .ok a w'):w.drawn≤w'.drawn:=by have:=Zmr p s w; rw[h]at this; exact this
theorem rDh{α:Type}{s:Sem α}{x:Halt}(h:s.run p w= .halt x w'):w.drawn≤w'.drawn:=by have:=Zmr p s w; rw[h]at this; exact this
theorem Zqy(h:n≤w.drawn)(p:Program)(fr:Frame)(a0:List Frame)(d:Option Dying)(m:String):gD n (endFatal p fr a0 d m w):=by
 unfold endFatal
 simp only[]
 split
 ·rename_i hr; exact co h (rD hr)
 ·rename_i hr; exact co h (rDh hr)
 ·rename_i hr; exact co h (rDh hr)
theorem tD{α:Type}{s:Sem α}{a:α}(h:(s.runT p w es).1= .ok a w'):w.drawn≤w'.drawn:=by rw[Sem.runT_fst]at h; exact rD h
theorem tDh{α:Type}{s:Sem α}{x:Halt}(h:(s.runT p w es).1= .halt x w'):w.drawn≤w'.drawn:=by rw[Sem.runT_fst]at h; exact rDh h
theorem Z3c(h:n≤w.drawn)(p:Program)(fr:Frame)(d:Dying)(f:Fatal):gD n (writeOn p fr d f w):=by
 unfold writeOn
 simp only[]
 split
 ·exact h
 ·split
  all_goals (rename_i hr; have hr:=congrArg Prod.fst hr)
  ·exact co h (tD hr)
  ·exact co h (tDh hr)
  ·exact co h (tDh hr)
  ·exact co h (tDh hr)
theorem die_D(h:n≤w.drawn)(p:Program)(fr:Frame)(d:Dying):gD n (die p fr d w):=by
 unfold die
 simp only[]
 repeat' first
  |exact h
  |exact Z3c h _ _ _ _
  |exact Z0r h _ _ _
  |exact Zjm h _ _ _
  |apply Zl8
  |(rename_i hr; exact co h (rD hr))
  |(rename_i hr; exact co h (rDh hr))
  |(rename_i hr; exact co h (tD hr))
  |(rename_i hr; exact co h (tDh hr))
  |(rename_i hr; exact Zjm (co h (tDh hr)) _ _ _)
  |split
 all_goals skip
theorem Zk3(h:n≤w.drawn)(p:Program)(a5:Bool)(fr:Frame)(a0:List Frame)(a4:Option Dying)(v:Value):gD n (doReturn p a5 fr a0 a4 v w):=by
 unfold doReturn
 simp only[]
 repeat' first
  |exact h
  |split
theorem Zqf(h:n≤w.drawn)(p:Program)(fr:Frame)(a0:List Frame)(a4:Option Dying)(d:Deferred):gD n (callDeferred p fr a0 a4 d w):=by
 unfold callDeferred
 simp only[]
 repeat' first
  |exact h
  |apply Zl8
  |exact co h (tD (by assumption))
  |exact co h (tDh (by assumption))
  |exact Zqy (co h (tDh (by assumption))) _ _ _ _ _
  |exact Zna (co h (tDh (by assumption))) _ _
  |split
theorem Z54(h:n≤w.drawn)(p:Program)(a5:Bool)(fr:Frame)(a0:List Frame)(a4:Option Dying):gD n (unwind p a5 fr a0 a4 w):=by
 unfold unwind
 simp only[]
 repeat' first
  |exact h
  |exact Zqf h _ _ _ _ _
  |exact Zjm h _ _ _
  |exact Zk3 h _ _ _ _ _ _
  |apply Zl8
  |(rename_i hr; exact co h (rD hr))
  |(rename_i hr; exact co h (rDh hr))
  |(rename_i hr; exact co h (tD hr))
  |(rename_i hr; exact co h (tDh hr))
  |(rename_i hr; exact Zk3 (co h (tD hr)) _ _ _ _ _ _)
  |split
theorem Z7n(h:n≤w.drawn)(p:Program)(fr:Frame)(a0:List Frame)(a4:Option Dying)(g:Nat):gD n (early p fr a0 a4 g w):=by
 unfold early
 simp only[]
 repeat' first
  |exact h
  |exact co h (rD (by assumption))
  |exact co h (rDh (by assumption))
  |(simp only[gD]; exact co h (rD (by assumption)))
  |split
theorem Zvh(h:n≤w.drawn)(p:Program)(a0:Bool)(fr:Frame)(a4:List Frame)(a5:Option Dying)(s:Sem Next):gD n (stepG.apply p a0 fr a4 a5 s w):=by
 unfold stepG.apply
 simp only[]
 apply Zl8
 have hk:w.drawn≤(rW (if a0=true then s.runT p w #[]else(s.run p w,#[])).1).drawn:=by
  split
  ·exact Zzj _ _ _ _
  ·exact Zmr _ _ _
 revert hk
 generalize (if a0=true then s.runT p w #[]else(s.run p w,#[])).1=r
 intro hk
 repeat' first
  |exact co h hk
  |exact Zqy (co h hk) _ _ _ _ _
  |exact Z7n (co h hk) _ _ _ _ _
  |exact Zna (co h hk) _ _
  |split
theorem Z95{α:Type}{o:Option α}{d:GStep}{f:α→GStep}(h:gD n d)(hf: ∀x,gD n (f x)):gD n (o.elim d f):=by
 cases o with
 |none=>exact h
 |some x=>exact hf x
theorem oper_D(h:n≤w.drawn)(p:Program)(a4:Bool)(fr:Frame)(a0:List Frame)(a5:Option Dying):gD n (stepG.oper p a4 fr a0 a5 w):=by
 unfold stepG.oper
 repeat' first
  |exact h
  |exact Zvh h _ _ _ _ _ _
  |split
theorem Z96(h:n≤w.drawn)(p:Program)(a6 a4:Bool)(fr:Frame)(a0:List Frame)(a5:Option Dying):gD n (stepG.exec p a6 a4 fr a0 a5 w):=by
 unfold stepG.exec
 simp only[]
 repeat' first
  |exact h
  |exact Zvh h _ _ _ _ _ _
  |exact Zvh (co h (tD (by assumption))) _ _ _ _ _ _
  |exact oper_D h _ _ _ _ _
  |exact Zk3 h _ _ _ _ _ _
  |exact Zk3 (co h (tD (by assumption))) _ _ _ _ _ _
  |exact co h (tD (by assumption))
  |exact co h (tDh (by assumption))
  |exact co h (rD (by assumption))
  |exact co h (rDh (by assumption))
  |apply Zl8
  |refine Z95 ?_ λ_=> ?_
  |split
theorem Z8s(p:Program)(a4:Bool)(g:Goroutine)(w:World)(a0:Bool):gD w.drawn (stepG p a4 g w a0):=by
 unfold stepG
 simp only[]
 repeat' first
  |exact die_D nR _ _ _
  |exact Z96 nR _ _ _ _ _ _
  |exact Z54 nR _ _ _ _ _
  |split
def sD(n:Nat)(s:Stepped):Prop:=∀m,s= .next m→n≤m.world.drawn
theorem Zw7{rest:Go.Rest}{cases:Array CommCase}(h:waitingAt rest cases w=some w'):w'.drawn=w.drawn:=by
 unfold waitingAt at h
 repeat' first
  |(simp at h; done)
  |(simp only[cw]at h; subst h; rfl)
  |split at h
theorem Zr5(h:n≤w.drawn)(p:Program)(rest:Go.Rest)(gs:Array Goroutine)(i:Nat)(g:Goroutine)(cases:Array CommCase)(a0:Bool)(a4:CommShape):sD n (communicate p rest gs i g cases a0 a4 w).1:=by
 intro m' h'
 unfold communicate at h'
 simp only[]at h'
 repeat' first
  |(simp at h'; done)
  |(simp only[Stepped.next.injEq]at h'; subst h'; simp only[]; first|exact h|exact co h (rD (by assumption))|exact co h (rDh (by assumption))|exact co h (co (rD (by assumption)) (rDh (by assumption)))|exact co h (mr (Zw7 (by assumption)).symm)|exact co (co h (rD (by assumption))) (rD (s:=choose _) (by assumption))|skip)
  |split at h'
 all_goals skip
theorem Z6v(h:n≤w.drawn)(p:Program)(gs:Array Goroutine)(rest:Go.Rest):sD n (Go.look p gs rest w):=by
 intro m' h'
 unfold Go.look at h'
 simp only[]at h'
 repeat' first
  |(simp at h'; done)
  |(simp only[Stepped.next.injEq]at h'; subst h'; simp only[]; first|exact h|exact co h (rD (by assumption))|skip)
  |split at h'
 all_goals skip
theorem Z7m(w:World)(c:Nat):(drain w c).2.drawn=w.drawn:=by
 unfold drain; split<;>rfl
theorem Zxy(m:Machine)(k:Nat)(t:Timer)(a b:Nat):(retime m k t a b).2.world.drawn=m.world.drawn:=by
 unfold retime
 simp only[]
 split<;>simp[Z7m]
theorem Z4z(h:timerOp.opened m a=some m'):m'.world.drawn=m.world.drawn:=by
 unfold timerOp.opened at h
 repeat' first
  |(simp at h; done)
  |(simp only[cw]at h; subst h; rfl)
  |split at h
theorem Z1q{m0:Machine}{f:Nat→Timer→Value×Machine}{v:Value}(hf: ∀k t,n≤(f k t).2.world.drawn)(h:timerOp.named m0 a f= .ok (v,m')):n≤m'.world.drawn:=by
 unfold timerOp.named at h
 split at h
 ·rename_i k hk
  have:=hf k (m0.rest.timers.getD k default)
  simp only[Except.ok.injEq]at h
  rw[h]at this; exact this
 ·cases h
theorem Zu7(h:n≤m.world.drawn)(op:TimerOp){v:Value}(h':timerOp m op= .ok (v,m')):n≤m'.world.drawn:=by
 unfold timerOp at h'
 simp only[]at h'
 repeat' first
  |(simp at h'; done)
  |(simp only[Except.ok.injEq,Prod.mk.injEq]at h'; obtain⟨_,rfl⟩:=h'; exact h)
  |(refine Z1q (n:=n) (λk t=>?_) h'; rw[Zxy]; exact h)
  |(refine Z1q (n:=n) (λk t=>?_) h'; rw[Zxy,Z4z (by assumption)]; exact h)
  |split at h'
 all_goals skip
theorem Z8n(p:Program)(m:Machine)(i:Nat)(b:Bool):sD m.world.drawn (runT p m i b).1:=by
 intro m' h
 simp only[runT]at h
 revert h
 generalize m.gs.swapAt! _ _=gg
 have hg:=Z8s p (i==0) gg.1 m.world b
 revert hg
 generalize stepG p _ gg.1 m.world b=s
 intro hg h
 cases s<;>simp only[]at h
 all_goals first
  |(simp at h; done)
  |exact Zr5 hg _ _ _ _ _ _ _ _ _ h
  |exact Z6v hg _ _ _ _ h
  |(simp only[Stepped.next.injEq]at h; subst h; exact hg)
  |(repeat' first
    |(simp at h; done)
    |(simp only[Stepped.next.injEq]at h; subst h; exact hg)
    |(simp only[Stepped.next.injEq]at h; subst h; rename_i hq; refine Zu7 (n:=m.world.drawn) ?_ _ hq; exact hg)
    |(simp only[Stepped.next.injEq]at h; subst h; rename_i hq; have:=congrArg (gD m.world.drawn) hq; exact this.mp (Zna hg _ _))
    |split at h)
 all_goals (simp only[Stepped.next.injEq]at h; subst h; rename_i hq; have hz:=Zu7 (n:=m.world.drawn) (m:={world:=_,gs:=_,rest:=_}) (by exact hg) _ hq; exact hz)
theorem Z8o(h:n≤m.world.drawn)(p:Program)(k:Nat):sD n (serve p m k):=by
 intro m' h'
 unfold serve at h'
 simp only[]at h'
 repeat' first
  |(simp at h'; done)
  |(simp only[Stepped.next.injEq]at h'; subst h'; exact h)
  |split at h'
def mD(n:Nat):Move→Prop
 | .goroutine m _=>n≤m.world.drawn
 | .machine s _=>sD n s
theorem Z0s{o:Outcome}:sD n (.ended o w):=λ_ h=>by cases h
theorem rDt{α:Type}{s:Sem α}{a:α}(h:s.run p w= .ok a w')(k:n≤w.drawn):n≤w'.drawn:=co k (rD h)
theorem rDa{α:Type}{s:Sem α}{t:Nat}{a:α}(h:s.run p (m.advanceTo t).world= .ok a w')(k:n≤m.world.drawn):n≤w'.drawn:=co k (rD (w:=(m.advanceTo t).world) h)
theorem Zvi(h:n≤m.world.drawn)(p:Program):mD n (askOn p m):=by
 unfold askOn
 simp only[]
 repeat' first
  |exact Z0s
  |exact h
  |exact Z8o (co h (rD (by assumption))) _ _
  |((try simp only[mD]); first|exact rDt (by assumption) h|exact rDt (by assumption) (rDt (by assumption) h)|exact rDt (by assumption) (rDt (by assumption) (rDt (by assumption) h))|exact rDt (by assumption) (rDt (by assumption) (rDt (by assumption) (rDt (by assumption) h)))|(refine rDa (by assumption) ?_; exact rDt (by assumption) (rDt (by assumption) h))|(refine rDt (by assumption) (rDa (by assumption) ?_); exact rDt (by assumption) (rDt (by assumption) h)))
  |(intro m' h'; simp only[Stepped.next.injEq]at h'; subst h'; simp only[Machine.advanceTo]; first|exact rDt (by assumption) h|exact rDt (by assumption) (rDt (by assumption) h))
  |split
 all_goals skip
theorem Z9o(h:n≤m.world.drawn)(p:Program):mD n (ask p m):=by
 unfold ask
 repeat' first
  |exact Zvi h p
  |exact Zvi (m:=Machine.mk _ _ _) (rDt (by assumption) h) p
  |exact Zvi (Z6v (rDt (by assumption) h) _ _ _ _ (by assumption)) p
  |exact Z0s
  |(intro m' h'; exact(‹∀a0:Machine,Go.look _ _ _ _=Stepped.next a0→False› m' h').elim)
  |split
theorem move_D(h:n≤m.world.drawn)(p:Program):mD n (move p m):=by
 unfold move
 repeat' first
  |exact Z0s
  |exact h
  |exact Z9o h p
  |(refine Z9o ?_ p; exact h)
  |split
theorem step_D(p:Program)(m m':Machine)(h:step p m= .next m'):m.world.drawn≤m'.world.drawn:=by
 have hm:=move_D (df m.world.drawn) p
 unfold step stepT at h
 split at h
 ·rename_i m1 i he
  rw[he]at hm
  exact co hm (Z8n p m1 i _ _ h)
 ·rename_i s ops he
  rw[he]at hm
  exact hm _ h
theorem Z8t(h:Steps p m m'):m.world.drawn≤m'.world.drawn:=by
 obtain⟨n,hn⟩:=h
 induction n generalizing m with
 |zero=>simp[runN]at hn; rw[hn]; exact df _
 |succ n ih=>
  simp only[runN]at hn
  cases hs:step p m with
  |next m1=>rw[hs]at hn; exact co (step_D _ _ _ hs) (ih hn)
  |ended o w=>rw[hs]at hn; simp at hn
theorem Z7d{P:Program}{f:FuncId}{args:Array Value}{R:Ending→World→Prop}(h:Calls P f args w R):Calls P f args w λe w'=>R e w'∧(∀v,e= .returned v→w.drawn≤w'.drawn):=λcs=>by
 obtain⟨e,w',fr,hR,hc,hf,hl⟩:=h cs
 refine⟨e,w',fr,⟨hR,λv hv=>?_⟩,hc,hf,hl⟩
 subst hv
 exact Z8t hc
end Go.Hal
namespace Go.Hal
open Go.Lib Go.Sort
theorem newS.ownL{α:Type}{E:Enc α}{f:α→List Value}{l:List α}{k:Addr→World→Prop}(hE: ∀x∈l,∀w S,E.rep w S x (f x))(a5:cs=(l.map f).flatten)(hl:l.length≤1000)
  (h: ∀a w',Ext w w'→OwnS E t w' w.heap.size None' ⟨some a,l.length,l.length⟩ l→a.block=w.heap.size→k a w'):newS w cs t k:=λa w' ha hw=>by
 subst ha hw a5
 have a4: ∀cs∈l.map f,cs.length=E.n:=λcs hc=>by
  obtain⟨x,hx,rfl⟩:=fh.1 hc
  exact E.len (hE x hx w None')
 have a0:((l.map f).flatten).length=l.length*E.n:=by
  have: ∀(m:List (List Value)),(∀c∈m,c.length=E.n)→m.flatten.length=m.length*E.n:=by
   intro m
   induction m with
   |nil=>intro _; simp
   |cons c m ih=>intro hm; rw[ge,br,hm c (.head _),ih λx hx=>hm x (.tail _ hx),dq,gh]; omega
  rw[this _ a4,cm]
 refine h _ _ (Ext.alloc _ _) ⟨⟨l.map f,⟨a0,.inr ⟨w.heap.size,l.length,_,rfl,df _,heap_alloc_new w _,df _,by rw[Zd]; omega,by simpa using a0,?_⟩⟩,by simp,λi x hx=>?_⟩,rfl,λ_ h=>h.elim,λ_ _ h=>h.elim⟩ rfl
 ·rw[mn,dg (mr a0)]
 ·rw[fi,hx]
  exact⟨_,rfl,E.keep (hE x (ez hx) w None') ((Ext.alloc w _).keep _)⟩
theorem Ext.gr(h:Ext w w')(hd:w.drawn≤w'.drawn):Gr w w':=by
 obtain⟨h1,h2,h3,h4,h5⟩:=h
 refine⟨w'.drawn - w.drawn,w'.heap.extract w.heap.size w'.heap.size,?_⟩
 have hh:w'.heap=w.heap++w'.heap.extract w.heap.size w'.heap.size:=by
  apply Array.ext_getElem?
  intro i
  rcases lw i w.heap.size with hi|hi
  ·rw[jq hi]; exact h5 i hi
  ·rw[Array.getElem?_append_right hi,Array.getElem?_extract]
   split
   ·congr 1; omega
   ·rw[Array.getElem?_eq_none oM]
 have a0:w'.drawn=w.drawn+(w'.drawn - w.drawn):=oM
 obtain⟨hp,tp,dr,os,out⟩:=w'
 simp only at h1 h2 h3 hh a0
 subst h1 h2 h3
 unfold grow World.drewN
 simp only[World.mk.injEq,and_true,true_and]
 exact⟨hh,a0⟩
structure DirC where
 ps:Sl
 nm:ByteArray
 ma:Int
 mi:Int
 pa:Int
 d:Sl
 e:Sl
 o:Sl
 nd:Int
def dirC(x:DirC):List Value:=[x.ps.v,.string x.nm,.int .i64 x.ma,.int .i64 x.mi,.int .i64 x.pa,x.d.v,x.e.v,x.o.v,.int .i64 x.nd]
def cDir(a b:Dir):Int:=cDr (drOf a) (drOf b)
theorem cDir_ord:Ord3 cDir:=cDr_ord.comap drOf
def DirRp(w:World)(S:Nat→Prop)(y:DirC×Dir):Prop:=dirE.rep w S y.2 (dirC y.1)∧y.2.path.length≤4000000000000
abbrev DirV(w:World)(S:Nat→Prop):Type:={y:DirC×Dir//DirRp w S y}
def Z7l(y:DirV w S):List Value:=dirC y.1.1
theorem Zx4{α:Type}{P:α→Prop}: ∀(l:List α),(∀i∈l,P i)→ ∃z:List {i:α//P i},z.map Subtype.val=l
 | [],_=>⟨[],rfl⟩
 |i::l,h=>by
  obtain⟨z,hz⟩:=Zx4 l λj hj=>h j (.tail _ hj)
  exact⟨⟨i,h i (.head _)⟩::z,by rw[fg,hz]⟩
theorem Z7v: ∀w,(isAgg 69).run prog w= .ok true w:=λw=>by kernel_rfl
theorem Z5r: ∀w,(Go.sizeOf 69).run prog w= .ok 9 w:=λw=>by kernel_rfl
theorem RowB.same{α β:Type}{f:α→List Value}{h:β→List Value}{g:Nat}{l:List α}{m:List β}{tail:List Value}(k:RowB f w g l tail)(e:l.map f=m.map h):RowB h w g m tail:=by
 unfold RowB at*
 rw[←e]; exact k
theorem Z2m{gf:Nat}{s:Sl}{l:List Dir}{K:Value→World→Prop}(h:OwnS dirE 69 w lo Q s l)(b1:lo≤w.heap.size)(hl:l.length≤1000000)(hb: ∀d∈l,d.path.length≤4000000000000)
  (eg: ∀args w,(callFunc gf args).run prog w= .ok (.enter gf args) w)
  (a6: ∀(w0:World) (S:Nat→Prop) (x y:DirC×Dir),DirRp w0 S x→DirRp w0 S y→Calls prog gf #[.agg (dirC x.1).toArray,.agg (dirC y.1).toArray] w0 λe w'=>e= .returned (.int .i64 (cDir x.2 y.2))∧Ext w0 w')
  (hK: ∀(l':List Dir) w',l'.Perm l→l'.Pairwise (λx y=>¬cDir y x<0)→Below lo w w'→(∀b,b<w.heap.size→(∀ad,s.a=some ad→b≠ad.block)→w'.heap[b]? =w.heap[b]?)→SlR dirE w' (λb=>Q b∨ ∃ad,s.a=some ad∧b=ad.block) s l'→K (.tuple #[]) w'):
  callS prog 19 [Sl.v s,.func (.func gf) #[] #[]] w K:=by
 have b6:=h.read (by show l.length*144≤room; unfold room; omega) (by rw[Zd]; omega)
 rcases h.rowG dirC (λy x=>DirRp w Q (y,x)∨ ¬x.path.length≤4000000000000) (λx cs hr=>by
  have b4:=hr
  obtain⟨h0,ps,d,e,o,rfl,r⟩:=hr
  refine⟨⟨ps,_,_,_,_,d,e,o,_⟩,rfl,?_⟩
  by_cases hx:x.path.length≤4000000000000
  ·exact .inl ⟨b4,hx⟩
  ·exact .inr hx)with⟨rfl,rfl⟩|⟨g,z,tail,hsa,hg,hzl,hzr,hrow,hc,hm⟩
 ·refine(AnyF.slices_SortFunc_none Tryz.layDi none 0 _ w).mono λe w' ⟨he,hw⟩=>⟨_,he,?_⟩
  subst hw
  exact hK [] _ (fx _) .nil (Below.refl _ _) (λ_ _ _=>rfl) b6
 ·obtain⟨a,n,c⟩:=s
  simp only at hsa hc hm
  have a7:=h.len
  simp only at a7
  subst hsa a7
  have a5: ¬Q g:=h.apart _ rfl
  obtain⟨zv,a4⟩:=Zx4 (P:=DirRp w Q) z λp hp=>by
   rcases hzr p hp with h1|h1
   ·exact h1
   ·exact absurd (hb p.2 (by rw[←hzl]; exact fp hp)) h1
  have a8:zv.length=l.length:=by rw[←hzl,←a4,cm,cm]
  haveI:Inhabited (DirV w Q):=⟨⟨(⟨Sl.nil,⟨#[]⟩,0,0,0,Sl.nil,Sl.nil,Sl.nil,0⟩,⟨[],Zx,0⟩),Zjv,eh _⟩⟩
  have a0:RowB (Z7l (w:=w) (S:=Q)) w g zv tail:=hrow.same (by rw[←a4,gc,gc]; rfl)
  rw[←a8]
  refine Zgo Tryz.layDi (k:=9) Z7v Z5r (f:=Z7l (w:=w) (S:=Q)) (λ_=>rfl) (λx v hv=>by simp[Z7l,dirC,Sl.v]at hv; rcases hv with rfl|rfl|rfl|rfl|rfl|rfl|rfl|rfl|rfl<;>rfl) (λa b=>cDir a.1.2 b.1.2) (Zjx (λx y=>cDir_ord.flip _ _) (λx y z=>cDir_ord.trans _ _ _)) gf #[] eg (λw0 x y a9 _=> ?_) a0 oM rfl λl' w' hp hs b b3=>?_
  ·have k:Keep Q w w0:=a9.keep a5
   refine(Z7d (a6 w0 Q x.1 y.1 ⟨dirE.keep x.2.1 k,x.2.2⟩ ⟨dirE.keep y.2.1 k,y.2.2⟩)).mono λe w' ⟨⟨he,hx⟩,hd⟩=>⟨he,hx.gr (hd _ he)⟩
  ·have k:Keep Q w w':=b.keep a5
   refine hK ((l'.map Subtype.val).map Prod.snd) w' ?_ ?_ (b.below b1 hg) (λc hc b2=>b.2.2.2.2 c hc (b2 _ rfl)) ?_
   ·rw[←hzl,←a4]
    exact(hp.map _).map _
   ·rw[fy,fy]
    exact hs
   ·have b5:RowB dirC w' g ((l'.map Subtype.val).map Prod.fst) tail:=b3.same (by rw[gc,gc]; rfl)
    have b0:l'.length=zv.length:=hp.length_eq
    have:=RowB.read (E:=dirE) (S:=Q) (cap:=c) b5 (λ_=>rfl) (λp hp=>by
     obtain⟨q,_,rfl⟩:=fh.1 hp
     exact dirE.keep q.2.1 k) (by rw[cm]; omega) hm (by rw[cm]; show _*144≤room; unfold room; omega)
    rw[cm,b0,a8]at this
    exact this.mono λb hb=>hb.imp id λe=>⟨⟨g,0,none⟩,rfl,e⟩
theorem Z9z{a b:Dir}:(bLt (B (Z5 a.path)) (B (Z5 b.path))||bEq (B (Z5 a.path)) (B (Z5 b.path)))= !decide (cDir b a<0):=by
 have h:cDir b a<0↔bLt (B (Z5 b.path)) (B (Z5 a.path))=true:=by
  show cmpS _ _<0↔_
  rw[Zm5]; rfl
 rw[ep,ik,decide_eq_false_iff_not,h,jd,Zap]
 constructor
 ·rintro(h1|h1)
  ·rw[Zl2 h1]; decide
  ·rw[h1,Zk0]; decide
 ·intro h1
  cases h2:bLt (B (Z5 a.path)) (B (Z5 b.path))with
  |true=>exact .inl rfl
  |false=>exact .inr (Zr0 h2 (by simpa using h1))
theorem Zup{T:List Dir}{R:Sl→World→Prop}(hs:SlR dirE w S u T)(hS:Old S w)(hl:T.length≤1000)
  (hR: ∀t T' w',Ext w w'→T'.Perm T→T'.Pairwise (λx y=>¬cDir y x<0)→SlR dirE w' (λb=>b<w'.heap.size∧(S b∨w.heap.size≤b)) t T'→R t w'):SE.Zc1 u w R:=by
 unfold SE.Zc1
 have j0:=hs.len
 have eb:dirE.bytes=144:=rfl
 refine newS.intro λa w1 x1 c8 i6 _=>newS.intro λa1 w2 x2 d8 i1 _=> ?_
 have s1:=x1.size; have s2:=x2.size
 have f1:=x1.trans x2
 refine loop2.up (N:=T.length) (by rw[Zd]; omega) (λout i w'=>∃L:List Dir,Ext w2 w'∧SlR dirE w' (λb=>(b<w'.heap.size∧b≠a1.block)∧(S b∨w.heap.size≤b)) out L∧L.Perm (T.take i)∧L.Pairwise (λx y=>¬cDir y x<0)) ⟨[],Ext.refl _,SlR.nil trivial,.refl _,.nil⟩ λout i w3 e6 hi ⟨L,x3,hL,hp,d0⟩ hn=>⟨u,(c8.ext (x2.trans x3)).ldc.pre (r:=[]) rfl,λe0=>?_,λi7=>?_⟩
 ·have b3:i<T.length:=oM
  have i4:L.length=i:=by rw[hp.length_eq,cd]; omega
  have h3:=hL.len
  have i2:L.length≤out.cap:=hL.2.1
  obtain⟨c4,qi,di,ei,oi,d7,_,g0,e2,g8,g9,h2,d9⟩:=dirEl hs b3
  have i5:T[i]? =some T[i]:=bq b3
  have h7:T.take (i+1)=T.take i++ [T[i]]:=bu b3
  have e5: ∀w',Ext w3 w'→Ext w w':=λw' x=>(f1.trans x3).trans x
  have c9: ∀t w',Ext w2 w'→SlR dirE w' (λb=>(b<w'.heap.size∧b≠a1.block)∧(S b∨w.heap.size≤b)) t (L.takeWhile (λy=>!decide (cDir T[i] y<0))++T[i]::L.dropWhile (λy=>!decide (cDir T[i] y<0)))→e6 t (Za ((i:Int)+1)) w':=λt w' x' h'=>hn b3 t w' ⟨_,x',h',by
   rw[h7]
   exact(Zma cDir_ord d0).2.trans (hp.append_right _),(Zma cDir_ord d0).1⟩
  clear hn
  generalize T[i]=d at*
  refine loop1.up (N:=L.length) (by rw[Zd]; omega) (λk w'=>Ext w3 w'∧ ∀y∈L.take k,(!decide (cDir d y<0))=true) ⟨Ext.refl _,(λ_ h=>by cases h)⟩ λk w4 i3 hk ⟨x4,hI⟩ h0=>bnd.drew λw5 x5=>bound ?_
  have b6:=x4.trans x5
  have f2:=e5 _ b6
  have g6:ldc w5 a [Sl.v u]:=(c8.ext (x2.trans (x3.trans b6))).ldc.pre (r:=[]) rfl
  have c6: ∀w6,Ext w3 w6→(∀y,L[k]? =some y→(!decide (cDir d y<0))=false)→((0:Int)≤(k:Int)∧(k:Int)≤(out.cap:Int))∧appS prog 28 28 Sl.nil (Sl.v (Sl.cut out 0 (k:Int).toNat 9)) w6 λh8 b8=>∃(d2:Sl),(ldc b8 a [(Sl.v d2)])∧ ∃(c5:Addr),(d2.a=some c5∧(0:Int)≤(i:Int)∧(i:Int)<(d2.len:Int))∧ ∃(b2:Sl) (b0:ByteArray) (a0:Int) (a4:Int) (a5:Int) (a9:Sl) (a7:Sl) (a6:Sl) (b1:Int),(ldc b8 (c5.add ((i:Int).toNat*9)) [(Sl.v b2),(Value.string b0),(Value.int .i64 a0),(Value.int .i64 a4),(Value.int .i64 a5),(Sl.v a9),(Sl.v a7),(Sl.v a6),(Value.int .i64 b1)])∧newS b8 [(Sl.v b2),(Value.string b0),(Value.int .i64 a0),(Value.int .i64 a4),(Value.int .i64 a5),(Sl.v a9),(Sl.v a7),(Sl.v a6),(Value.int .i64 b1)] 69 λf8 e7=>appS prog 28 28 h8 (Sl.v (Sl.mk (some f8) 1 1)) e7 λh9 e8=>((0:Int)≤(k:Int)∧(k:Int)≤(out.len:Int))∧appS prog 28 28 h9 (Sl.v (Sl.cut out (k:Int).toNat out.len 9)) e8 λi0 e9=>e6 i0 (Za ((i:Int)+1)) e9:=by
   intro w6 c3 h1
   obtain⟨h5,h6⟩:=Zob (p:=λy=>!decide (cDir d y<0)) (l:=L) hk hI h1
   rw[h5,h6]at c9
   have d6:=hL.ext c3
   have c1:=d6.cut (a:=0) (b:=k) (eh _) hk
   have c2:=d6.cut (a:=k) (b:=L.length) hk nR
   rw[gz]at c1
   rw[cu]at c2
   have b5:(L.take k).length=k:=by rw[cd]; omega
   have d1:(L.drop k).length=L.length - k:=dh
   have f4:=e5 _ c3
   have j4:=c3.size; have j2:=f4.size
   rw[bw]
   refine⟨⟨oM,oM⟩,?_⟩
   refine(OwnS.zero (E:=dirE) (T:=69) w6).appAll Zz6 nR c1 (λb (hb:(b<w3.heap.size∧b≠a1.block)∧(S b∨w.heap.size≤b))=>by have:=hb.1.1; omega) (λad h=>by cases h) (by rw[eb,b5]; unfold room; simp; omega) (by rw[b5,Zd]; simp; omega) λr1 w7 o1 d3 _ _=> ?_
   rw[em]at o1
   have x7:Ext w6 w7:=d3
   have f5:=f4.trans x7
   have s7:=x7.size
   refine⟨u,(c8.ext (x2.trans (x3.trans (c3.trans x7)))).ldc.pre (r:=[]) rfl,c4,⟨d7,oM,e0⟩,qi,_,_,_,_,di,ei,oi,_,by rw[bw]; exact d9 _ f5,newS.intro λa8 w8 x8 g5 _ _=> ?_⟩
   have b9:=f5.trans x8
   have s8:=x8.size
   have e1:Old S w8:=hS.ext b9.size
   have e4:dirE.rep w8 S d [qi.v,.string d.pack.name,.int .i64 d.pack.v.ma,.int .i64 d.pack.v.mi,.int .i64 d.pack.v.pa,di.v,ei.v,oi.v,.int .i64 d.node]:=⟨g0,qi,di,ei,oi,rfl,e2.ext b9,g8.ext b9,g9.ext b9,h2.ext b9⟩
   have fresh: ∀{s':Sl} {l':List Dir} {Q:Nat→Prop} {w':World},OwnS dirE 69 w' w6.heap.size Q s' l'→ ∀ad,s'.a=some ad→ ¬S ad.block∧ ¬((ad.block<w3.heap.size∧ad.block≠a1.block)∧(S ad.block∨w.heap.size≤ad.block)):=λo ad h=>by
    have:=(o.block h).1
    exact⟨λg1=>by have:=hS _ g1; omega,λh=>by have:=h.1.1; omega⟩
   refine(o1.ext x8).push (x:=d) (S':=S) Zz6 (x7.trans x8).size e4 (g5.ldc.pre (r:=[]) rfl) e1 (λad h=>(fresh o1 ad h).1) (by rw[eb,b5]; unfold room; omega) (by rw[b5,Zd]; omega) λr2 w9 o2 d4 _ _=> ?_
   have x9:Ext w6 w9:=(x7.trans x8).trans' d4
   have l2:(L.take k++ [d]).length=k+1:=by rw[br,b5]; rfl
   have s9:=x9.size
   refine⟨⟨oM,oM⟩,?_⟩
   rw[h3]
   refine o2.appAll Zz6 x9.size (c2.ext x9) (λb (hb:(b<w3.heap.size∧b≠a1.block)∧(S b∨w.heap.size≤b))=>by have:=hb.1.1; omega) (λad h=>(fresh o2 ad h).2) (by rw[eb,l2,d1]; unfold room; omega) (by rw[l2,d1,Zd]; omega) λr3 f0 o3 d5 _ _=> ?_
   have f6:Ext w6 f0:=x9.trans' d5
   have j3:=f6.size
   have e3:(L.take k++ [d])++L.drop k=L.take k++d::L.drop k:=by simp
   rw[e3]at o3
   have c7:(L.take k++d::L.drop k).length=L.length+1:=by rw[br,dq,b5,d1]; omega
   refine c9 r3 f0 (x3.trans (c3.trans f6)) ((o3.read (by rw[eb,c7]; unfold room; omega) (by rw[c7,Zd]; omega)).mono λb hb=>?_)
   have l3:=d8.lt
   have s3:=x3.size
   rcases hb with(((hb|hb)|hb)|hb)|⟨ad,g2,rfl⟩
   ·exact hb.elim
   ·have hb:(b<w3.heap.size∧b≠a1.block)∧(S b∨w.heap.size≤b):=hb
    exact⟨⟨by have:=hb.1.1; omega,hb.1.2⟩,hb.2⟩
   ·have:=hS b hb; exact⟨⟨oM,oM⟩,.inl hb⟩
   ·have hb:(b<w3.heap.size∧b≠a1.block)∧(S b∨w.heap.size≤b):=hb
    exact⟨⟨by have:=hb.1.1; omega,hb.1.2⟩,hb.2⟩
   ·have:=o3.block g2
    exact⟨⟨this.2.1,oM⟩,.inr oM⟩
  clear c9
  by_cases b7:k<L.length
  ·obtain⟨f9,qk,_,_,_,g3,_,_,h4,_,_,_,g7⟩:=dirEl hL b7
   rw[decide_eq_true (show(k:Int)<(out.len:Int) by omega)]
   refine⟨f9,λ_=>⟨g3,oM,oM⟩,qk,λ_=>by rw[bw]; exact(g7 _ b6).pre rfl,u,λ_=>g6,c4,λ_=>⟨d7,oM,e0⟩,qi,λ_=>by rw[bw]; exact(d9 _ f2).pre rfl,?_⟩
   refine gCall.yes (callX.intro (SE.Zbz.go (Zlc (h4.ext b6) λw6 x6=>⟨x6,_,rfl,gCall.yes (SE.Zbz.go (Zlc (e2.ext (f2.trans x6)) λw7 x7=>⟨_,rfl,?_⟩))⟩)))
   have f7:=b6.trans (x6.trans x7)
   have e:(true&&(bLt (B (Z5 L[k].path)) (B (Z5 d.path))||bEq (B (Z5 L[k].path)) (B (Z5 d.path))))= !decide (cDir d L[k]<0):=by rw[dw]; exact Z9z
   refine⟨λhc=>h0 b7 w7 ⟨f7,λy hy=>?_⟩,λhc=>c6 w7 f7 λy hy=>?_⟩
   ·rw[e]at hc
    rw[bu b7]at hy
    rcases dj.1 hy with hy|hy
    ·exact hI y hy
    ·rw[ci.1 hy]; exact hc
   ·rw[e]at hc
    rw[bq b7]at hy
    cases hy; exact hc
  ·rw[decide_eq_false (show ¬(k:Int)<(out.len:Int) by omega)]
   refine⟨c4,nO,qi,nO,u,nO,c4,nO,qi,nO,gCall.no (gCall.no ⟨nO,λ_=>c6 w5 b6 λy hy=>?_⟩)⟩
   have:=(ce.1 hy).1
   exact absurd this b7
 ·have b3:i=T.length:=oM
  subst b3
  rw[cu]at hp
  have i9:=hp.length_eq
  refine stw0.intro (d8.ext x3) sI λw4 b4 j1 g4=>⟨out,g4.ldc.pre (r:=[]) rfl,hR out L w4 (b4.ext (f1.trans x3) oM) hp d0 ((hL.but b4 λhb=>hb.1.2 rfl).mono λb hb=>⟨by have:=b4.1; have:=hb.1.1; omega,hb.2⟩)⟩
end Go.Hal
namespace Go.Hal
theorem PlaceOk.edges_le{ps:List Pack}(h:PlaceOk g ps)(k:Nat):(Z1 g k).length≤g.length:=by
 unfold Z1
 split
 ·rename_i x hx
  have:=Zor (h.node k x hx).edges.nodup (m:=g.map Node.name) λn hn=>by
   obtain⟨e,he,rfl⟩:=fh.1 hn
   obtain⟨j,y,_,_,h3,h4⟩:=(h.node k x hx).edge e he
   rw[←h4]
   exact fp (ez h3)
  simpa using this
 ·exact eh _
theorem Zrc(g:List Node)(k:Nat):(Zge g k).length=(Z1 g k).length:=by
 unfold Zge
 simp only[br]
 generalize Z1 g k=es
 induction es with
 |nil=>rfl
 |cons e es ih=>
  rcases Zfx g k e with h|h|h<;>simp[h]<;>omega
theorem EdgeR.cnt{t:PlS}{a k:Nat}{c:Int}(h:EdgeR I s a e k c t):t.done.length≤s.done.length+1:=by
 cases h<;>simp
structure Turn(I:PlI)(a nd:Nat)(s0:PlS)(r:List Edge)(s:PlS):Prop where
 inv:PInv I.g s a
 grow: ∃l,s.dirs=s0.dirs++l
 new: ∀e∈r,NewL s a e.name
 nodup:(r.map Edge.name).Nodup
 mem: ∀e∈r,e∈Z1 I.g nd
 small:Zo1 I s
 cnt:s.done.length+r.length≤s0.done.length+(Zge I.g nd).length
 go: ∀c t,EdgesR I a nd s r c t→EdgesR I a nd s0 (Zge I.g nd) c t
section
variable {I:PlI} {a nd:Nat} {s0 s t:PlS} {e:Edge} {r:List Edge}
theorem Turn.start(hg:GrPl I.g)(hI:PInv I.g s a)(hs:Zo1 I s)(a0: ∀u∈s.done,u.src<a):Turn I a nd s (Zge I.g nd) s:=
 ⟨hI,⟨[],by simp⟩,λ_ _ v hv h=>by have:=a0 v hv; omega,Zn1 hg _,λ_ he=>Ziz.1 he,hs,df _,λ_ _ h=>h⟩
theorem Turn.step(h:Turn I a nd s0 (e::r) s)(hg:GrPl I.g)(ha:a<s.dirs.length)(hE:EdgeR I s a e (kindE I.g nd e) 0 t):Turn I a nd s0 r t:=by
 obtain⟨h1,h2⟩:=hE.inv (Zfx _ _ _) h.inv ha (h.new e (.head _)) (hg.edge (h.mem e (.head _)))
 obtain⟨l,hl⟩:=h.grow
 obtain⟨m,hm⟩:=h2.dirs
 have a4:=h.nodup
 rw[fg,lj]at a4
 have hc:=h.cnt
 have a5:=hE.cnt
 rw[dq]at hc
 exact⟨h1,⟨l++m,by rw[hm,hl,cc]⟩,λe' a0=>h2.new _ (λhn=>a4.1 (hn▸fp a0)) (h.new e' (.tail _ a0)),a4.2,λe' a0=>h.mem e' (.tail _ a0),hE.small h.small,oM,λc u hu=>h.go c u (.cons hE hu)⟩
theorem Turn.stop{c:Int}(h:Turn I a nd s0 (e::r) s)(hE:EdgeR I s a e (kindE I.g nd e) c t)(hc:c≠0):EdgesR I a nd s0 (Zge I.g nd) c t:=h.go c t (.stop hE hc)
theorem Turn.done(h:Turn I a nd s0 [] s):EdgesR I a nd s0 (Zge I.g nd) 0 s:=h.go 0 s (.nil s)
theorem Turn.node(h:Turn I a nd s0 r s)(ha:a<s0.dirs.length):a<s.dirs.length∧nodeAt s.dirs a=nodeAt s0.dirs a:=by
 obtain⟨l,hl⟩:=h.grow
 rw[hl,Zgj ha,br]
 exact⟨oM,rfl⟩
end
def Zku(g:List Node)(nd k j:Nat):List Edge:=((Z1 g nd).drop j).filter (λe=>kindE g nd e==k)++(if k=1 then(Z1 g nd).filter (λe=>kindE g nd e==2)++(Z1 g nd).filter (λe=>kindE g nd e==3)else if k=2 then(Z1 g nd).filter (λe=>kindE g nd e==3)else [])
theorem Zri{k:Nat}(h:(Z1 g nd).length≤j)(hk:k=1∨k=2):Zku g nd k j=Zku g nd (k+1) 0:=by
 unfold Zku
 rw[gd h]
 rcases hk with rfl|rfl<;>simp
theorem Zrh(h:(Z1 g nd).length≤j):Zku g nd 3 j= []:=by
 unfold Zku
 rw[gd h]
 simp
theorem Zus{k:Nat}(h:j<(Z1 g nd).length)(hk:kindE g nd (Z1 g nd)[j]=k):Zku g nd k j=(Z1 g nd)[j]::Zku g nd k (j+1):=by
 unfold Zku
 rw[dm h,List.filter_cons_of_pos (by rw[hk]; exact beq_self_eq_true _)]
 rfl
theorem Zrj{k:Nat}(h:j<(Z1 g nd).length)(hk:kindE g nd (Z1 g nd)[j]≠k):Zku g nd k j=Zku g nd k (j+1):=by
 unfold Zku
 rw[dm h,List.filter_cons_of_neg (by simpa using hk)]
theorem Zhn{k:Nat}{x:Node}(h:g[k]? =some x):Z1 g k=x.edges:=by unfold Z1; rw[h]
theorem Z6y(h:0≤I.maxD):Zo1 I pl0:=⟨λd hd=>by
 rw[pl0,ci]at hd
 rw[hd]; exact .inl rfl,by show((1:Nat):Int)≤_; omega⟩
end Go.Hal
