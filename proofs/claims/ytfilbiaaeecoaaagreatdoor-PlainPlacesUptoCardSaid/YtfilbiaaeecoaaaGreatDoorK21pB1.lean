/- Lemmas for the claim K21p: how the program's functions run, and what they answer; no condition but those that each theorem names. -/
import Derived.MapKept
import Derived.Test.YtfilbiaaeecoaaaGreatDoorProg
import Derived.WideKeyRuns
import Derived.Shelf.SlSortCmp.NoneTotal
import Derived.Ground.SlsfProg
import Derived.Laws.CopyRow
import Derived.Test.YtfilbiaaeecoaaaGreatDoorK21pB0
set_option linter.unusedVariables false
set_option linter.unusedSimpArgs false
set_option maxHeartbeats 16000000
open Go Go.RowKit Go.Proofs Go.Shelf Go.Hal Go.Proofs.Tryz
variable {a p:Addr} {R:Bool→World→Prop} {n:ByteArray} {left:List (Value×Value)} {L ps:List Pack} {l:List Span} {cs tail:List Value} {b g i it lo r:Nat} {S:Nat→Prop} {d e o s:Sl} {et kt:TypeId} {f:Value} {K:Value→World→Prop} {w w' w0:World}
namespace Go.Hal
theorem Zp2(h:Zaa l=true): ∀x∈l,x.lo.may=true∧x.hi.may=true:=by
 have: ∀(l:List Span) m,Zcq m l=true→ ∀x∈l,x.lo.may=true∧x.hi.may=true:=by
  intro l
  induction l with
  |nil=>intro m _ x hx; cases hx
  |cons y r ih=>
   intro m h x hx
   rw[Zcq]at h
   simp only[bx]at h
   rcases du.1 hx with rfl|hx
   ·exact⟨h.1.1.1.1,h.1.1.1.2⟩
   ·exact ih _ h.2 x hx
 unfold Zaa at h
 simp only[bx]at h
 exact this l 0 h.2
theorem Zn8(h:Zaa l=true):l.length≤64:=by
 unfold Zaa at h
 simp only[bx,decide_eq_true_eq]at h
 exact h.1
def preT(l:List Span)(i:Nat):List UInt8:=Zh1 (l.take i)++(if 0<i then [32,124,124,32]else [])
theorem Zyy(h:i<l.length):Zh1 (l.take (i+1))=preT l i++Zae l[i]:=by
 rw[bu h,Zyx]
 unfold preT
 by_cases h0:0<i
 ·rw[if_neg,if_pos h0]
  intro h1
  rw[List.take_eq_nil_iff]at h1
  rcases h1 with h1|h1
  ·omega
  ·rw[h1]at h; simp at h
 ·have:i=0:=oM
  subst this
  simp[Zh1]
theorem Z49(h:i≤l.length):(preT l i).length≤31*i+4:=by
 have:=Zmc (l.take i)
 rw[cd,gw h]at this
 unfold preT
 split<;>simp<;>omega
theorem Zwm{R:ByteArray→World→Prop}(hs:SlR spanE w S s l)(hR: ∀w',Ext w w'→R (B (Zbp l)) w'):SE.Zdc s w R:=by
 unfold SE.Zdc
 have hl:=hs.len
 refine SE.Zc8.go (r03May_se hs λw1 x1=>⟨_,rfl,λh=>?_,λh=>?_⟩)
 ·have e:Zaa l=false:=by simpa using h
  have:Zbp l= []:=by unfold Zbp; rw[e]; rfl
  have hr:=hR w1 xT
  rw[this]at hr; exact hr
 have hm:Zaa l=true:=by simpa using h
 have b1:=Zn8 hm
 refine⟨λh=>?_,λh=>?_⟩
 ·have:Zbp l= [60,48,46,48,46,48]:=by unfold Zbp; rw[hm,if_pos rfl,if_pos (cq oM)]
  have hr:=hR w1 xT
  rw[this]at hr; exact hr
 have a8:l≠ []:=λh0=>h (by rw[hl,h0]; rfl)
 have a9:Zbp l=Zh1 l:=by unfold Zbp; rw[hm,if_pos rfl,if_neg a8]
 refine loop2.up hs.max (λout i w'=>Ext w w'∧out=B (Zh1 (l.take i))) ⟨xT,rfl⟩ λout i w2 b4 hi ⟨x2,hI⟩ hn=>⟨λa7=>?_,λb2=>?_⟩
 ·have a4:i<l.length:=oM
  obtain⟨ad,ha,_,hc⟩:=Zll hs a4
  obtain⟨m1,m2⟩:=Zp2 hm _ (cj a4)
  have a0:s.a=some ad∧(0:Int)≤(i:Int)∧(i:Int)<(s.len:Int):=⟨ha,oM,a7⟩
  have b3:=Z49 (l:=l) (i:=i) oM
  have b0:=Zlr l[i]
  have v1:=Zek l[i].lo; have v2:=Zek l[i].hi
  subst hI
  refine join.named λJ hJ=>join.named λJ2 a5=>?_
  have hk: ∀t w3,Ext w w3→t=B (preT l i++Zae l[i])→J t w3:=λt w3 x3 ht=>by
   rw[hJ]; exact hn a4 _ _ ⟨x3,by rw[ht,Zyy a4]⟩
  have key: ∀w3,Ext w w3→J2 (B (preT l i)) w3:=by
   intro w3 x3
   rw[a5]
   refine⟨ad,a0,_,_,_,(hc _ xT).pre rfl,SE.Zbm.go (Zjt (v:=l[i].lo) λw4 x4=>⟨_,rfl,?_⟩)⟩
   refine⟨by rw[Zk,Za7,Zw]; simp; omega,ad,a0,_,_,_,(hc _ xT).mid rfl,SE.Zbm.go (Zjt (v:=l[i].hi) λw5 x5=>⟨_,rfl,?_⟩)⟩
   refine⟨by rw[Zk,Za7,Zw]; simp; omega,ad,a0,_,_,_,(hc _ xT).pre rfl,SE.Zax.go (r03rank_se (v:=l[i].lo) λw6 x6=>⟨_,rfl,?_⟩)⟩
   refine⟨ad,a0,_,_,_,(hc _ xT).mid rfl,SE.Zax.go (r03rank_se (v:=l[i].hi) λw7 x7=>⟨_,rfl,bnd.drew λw8 x8=>?_⟩)⟩
   refine⟨ad,a0,_,_,_,(hc _ xT).pre rfl,ad,a0,_,_,_,(hc _ xT).mid rfl,?_⟩
   rw[Zp9]
   refine⟨λh=>⟨ad,a0,_,_,_,(hc _ xT).pre rfl,SE.Zbm.go (Zjt (v:=l[i].lo) λw9 x9=>⟨_,rfl,?_⟩)⟩,λh=>bound ⟨λh2=>?_,λh2=>?_⟩⟩
   ·have e:Zae l[i]=Zca l[i].lo:=by unfold Zae; rw[if_pos (by simpa using h)]
    refine⟨by rw[Zk,Zk,Zw]; omega,hk _ _ xT (by rw[e,Zhc])⟩
   ·have e:Zae l[i]= [42]:=by unfold Zae; rw[if_neg (by simpa using h),if_pos (by simpa using h2)]
    refine⟨by rw[Zk,Za7,Zw]; simp; omega,hk _ _ xT (by rw[e,Zee])⟩
   ·have h2: ¬(l[i].lo.rank=0∧l[i].hi.rank=999999999):=by simpa using h2
    refine⟨λh3=>?_,λh3=>⟨λh4=>?_,λh4=>?_⟩⟩
    ·have e:Zae l[i]= [60,61]++Zca l[i].hi:=by unfold Zae; rw[if_neg (by simpa using h),if_neg h2,if_pos h3]
     refine⟨by simp only[Zip]; rw[Zk,Zk,Zw]; simp; omega,hk _ _ xT (by rw[e,Zip,Zhc])⟩
    ·have e:Zae l[i]= [62,61]++Zca l[i].lo:=by unfold Zae; rw[if_neg (by simpa using h),if_neg h2,if_neg h3,if_pos h4]
     refine⟨by simp only[Zip]; rw[Zk,Zk,Zw]; simp; omega,hk _ _ xT (by rw[e,Zip,Zhc])⟩
    ·have e:Zae l[i]=(([62,61]++Zca l[i].lo)++ [32,60,61])++Zca l[i].hi:=by unfold Zae; rw[if_neg (by simpa using h),if_neg h2,if_neg h3,if_neg h4]
     simp only[Zip,Zee,Zhc]
     refine⟨by rw[Zk,Zk,Zw]; simp; omega,by rw[Zk,Za7,Zw]; simp; omega,by rw[Zk,Zk,Zw]; simp; omega,hk _ _ xT (by rw[e]; simp)⟩
  have e0:preT l i=Zh1 (l.take i)++(if 0<i then [32,124,124,32]else []):=rfl
  have a6:=Zmc (l.take i)
  rw[cd,gw oM]at a6
  refine⟨λh0=>⟨by rw[Zk,Za7,Zw]; simp; omega,?_⟩,λh0=>?_⟩
  ·rw[if_pos oM]at e0
   rw[Zee]
   have:=key w2 x2
   rw[e0]at this; exact this
  ·rw[if_neg oM,dp]at e0
   have:=key w2 x2
   rw[e0]at this; exact this
 ·have:i=l.length:=oM
  rw[this,cu,←a9]at hI
  rw[hI]; exact hR _ xT
theorem apRk:ApT prog 307 310 2 16:=Zhv (z:=.agg #[.int .i64 0,.int .i64 0]) kR kR rfl dC
theorem Zz8:ApT prog 67 9 1 16:=Zhv (z:=.string ⟨#[]⟩) kR kR rfl dC
def Zlk(l:List Span):List (Int×Int):=l.map λx=>(x.lo.rank,x.hi.rank)
theorem Zy7{R:Sl→World→Prop}(hs:SlR spanE w S s l)(hR: ∀t w',Ext w w'→OwnS rkE 310 w' w.heap.size None' t (Zlk l)→R t w'):SE.Zg3 s w R:=by
 unfold SE.Zg3
 have hl:=hs.len
 refine loop2.up hs.max (λout i w'=>Ext w w'∧OwnS rkE 310 w' w.heap.size None' out (Zlk (l.take i))) ⟨Ext.refl _,OwnS.zero _⟩ λout i w1 b2 hi ⟨x1,own⟩ hn=>⟨λa8=>?_,λb1=>?_⟩
 ·have a0:i<l.length:=oM
  obtain⟨ad,ha,_,hc⟩:=Zll hs a0
  refine⟨ad,⟨ha,oM,a8⟩,_,_,_,_,_,_,hc _ xT,newS.intro λa w2 x2 hb b0 _=>stw0.intro hb sI λw3 b3 _ a4=>?_⟩
  have x3:Ext w1 w3:=b3.ext x2 oM
  refine⟨_,_,_,a4.at0 xR rfl,SE.Zg6.go (Zj1 (v:=l[i].lo) λw4 x4=>⟨_,_,rfl,?_⟩)⟩
  refine⟨_,_,_,a4.at1 xT rfl,SE.Zg6.go (Zj1 (v:=l[i].hi) λw5 x5=>⟨_,_,rfl,newS.intro λa9 w6 x6 a7 _ _=> ?_⟩)⟩
  have a6:Ext w1 w6:=xT
  refine(own.ext a6).pushF (x1.trans a6) apRk (x:=(l[i].lo.rank,l[i].hi.rank)) ⟨rfl,trivial⟩ a7.ldc dC ?_ λr w7 a5 x7=>hn a0 _ _ ⟨x7,?_⟩
  ·have:=hs.2.2.2.1
   have e:spanE.bytes=48:=rfl
   have e':rkE.bytes=16:=rfl
   rw[e]at this
   rw[e']; simp[Zlk]; omega
  ·rw[bu a0,Zlk,ec]; exact a5
 ·have:i=l.length:=oM
  rw[this,cu]at own
  exact hR _ _ x1 own
theorem Z1d(x:Span)(r:List Span):Zh1 (x::r)=Zae x++Lib.joinTail [32,124,124,32] (r.map Zae):=by
 induction r generalizing x with
 |nil=>simp[Zh1,Lib.joinTail]
 |cons y t ih=>
  show Zae x++([32,124,124,32]++Zh1 (y::t))=_
  rw[ih]; simp[Lib.joinTail]
theorem Z4k(l:List Span):Lib.join ((l.map λx=>B (Zae x)).map (·.data.toList)) [32,124,124,32]=Zh1 l:=by
 have:(l.map λx=>B (Zae x)).map (·.data.toList)=l.map Zae:=by rw[gc]; rfl
 rw[this]
 cases l with
 |nil=>rfl
 |cons x r=>rw[fg,Lib.join_cons,Z1d]
theorem join_k{k:Value→World→Prop}(h:OwnS strE 9 w w0.heap.size None' s (l.map λx=>B (Zae x)))(b0:l.length≤64)(a8:l≠ [])(hk: ∀w',Ext w w'→k (.string (B (Zh1 l))) w'):
  callS prog 229 [Sl.v s,.string (ByteArray.mk #[32,124,124,32])] w k:=by
 have hr:=h.readF dC (by show _*16≤room; rw[cm]; unfold room; omega)
 have a4:=hr.len
 rw[cm]at a4
 obtain⟨ad,cs,ha,_,_,_⟩:=hr.el (n:=0) (by rw[cm]; exact ig.2 a8)
 have hb:=h.block ha
 have a7:ad=⟨ad.block,0,none⟩:=hb.2.2
 have hj:=Z4k l
 have e:Sl.v s= .slice (some ⟨ad.block,0,none⟩) (l.map λx=>B (Zae x)).length s.cap:=by
  unfold Sl.v
  rw[ha,a4,cm,←a7]
 rw[e]
 have hc: ∀(j:Nat) x,(l.map λx=>B (Zae x))[j]? =some x→w.cell? ⟨ad.block,0+j,none⟩=some (.string x):=by
  intro j x hx
  obtain⟨a9,cs,a6,_,⟨rfl,_⟩,hc⟩:=hr.get hx
  rw[ha,cw]at a6
  subst a6
  have:=hc 0 (.string x) rfl
  rw[a7,Zfq]at this
  have e2:(Addr.add ⟨ad.block,0,none⟩ (j*strE.n+0))=⟨ad.block,0+j,none⟩:=by
   show Addr.add _ (j*1+0)=_
   rw[Zkb,Nat.mul_one,jt,jy]
  rw[e2]at this; exact this
 have b1:=Zmc l
 have a0:=Any.strings_Join Tryz.layJo ({sizeBuilder:=by kernel_rfl,liesBuilder:=by kernel_rfl,t5:=underlying5,a5:=Tryz.isAgg5,z5:=Tryz.sizeOf5,v5:=Tryz.zeroValue5,infoByte:=by kernel_rfl,cellsByte:=by kernel_rfl,sizeByte:=by kernel_rfl,neB5:=by decide}:Builder.Extra prog Tryz.layJo_ren) ad.block 0 s.cap (l.map λx=>B (Zae x)) (ByteArray.mk #[32,124,124,32]) w hc hb.2.1
  (by rw[cm]; omega) (by have:=hr.2.1; exact this) (by
   have:(ByteArray.mk #[32,124,124,32]).data.toList= [32,124,124,32]:=rfl
   rw[this,hj]; omega)
 have e3:(ByteArray.mk #[32,124,124,32]).data.toList= [32,124,124,32]:=rfl
 rw[e3,hj]at a0
 exact a0.mono λe w' ⟨he,hb⟩=>⟨_,he,hk w' hb⟩
theorem Zn7{R:ByteArray→World→Prop}(ht:Tab w)(hs:SlR spanE w S s l)(hR: ∀w',Ext w w'→R (B (Zbp l)) w'):SE.Zhs s w R:=by
 unfold SE.Zhs
 have hl:=hs.len
 refine SE.Zij.go (spanMay_se hs λw1 x1=>⟨_,rfl,λh=>?_,λh=>?_⟩)
 ·have e:Zaa l=false:=by simpa using h
  have:Zbp l= []:=by unfold Zbp; rw[e]; rfl
  have hr:=hR w1 xT
  rw[this]at hr; exact hr
 have hm:Zaa l=true:=by simpa using h
 have c2:=Zn8 hm
 refine SE.Zg3.go (Zy7 (hs.ext x1) λnums w2 x2 b7=>⟨_,rfl,?_⟩)
 have hN:=b7.readF dC (by show _*16≤room; unfold Zlk; rw[cm]; unfold room; omega)
 have d6:(Zlk l).length=l.length:=by unfold Zlk; rw[cm]
 have d1:=hN.len
 refine loop2.up hN.max (λout i w'=>Ext w2 w'∧OwnS strE 9 w' w2.heap.size None' out ((l.take i).map λx=>B (Zae x))) ⟨Ext.refl _,OwnS.zero _⟩ λout i w3 d7 hi ⟨x3,own⟩ hn=>⟨λc5=>?_,λd5=>?_⟩
 ·have a9:i<l.length:=oM
  have b0:i<(Zlk l).length:=oM
  obtain⟨ad,ha,_,hc⟩:=rkEl hN b0
  have c3:(Zlk l)[i]=(l[i].lo.rank,l[i].hi.rank):=by simp[Zlk]
  rw[c3]at hc
  obtain⟨m1,m2⟩:=Zp2 hm _ (cj a9)
  have v1:=Zek l[i].lo; have v2:=Zek l[i].hi
  refine join.named λJ hJ=>?_
  have push: ∀(t:ByteArray) w4,Ext w3 w4→t=B (Zae l[i])→newS w4 [.string t] 9 λa w5=>appS prog 67 67 out (Sl.v (Sl.mk (some a) 1 1)) w5 λr w6=>J r w6:=by
   intro t w4 x4 b6
   refine newS.intro λa w5 x5 a0 _ _=> ?_
   refine(own.ext (x4.trans x5)).pushF (x3.trans (x4.trans x5)) Zz8 (x:=t) ⟨rfl,?_⟩ a0.ldc dC ?_ λr w7 b1 x7=>?_
   ·have:=Zlr l[i]
    rw[b6]; show(B (Zae l[i])).size≤maxLen; rw[Zk,Zd]; omega
   ·show(_+1)*16≤room
    rw[cm,cd,gw oM]; unfold room; omega
   ·rw[hJ]
    refine hn b0 _ _ ⟨x7,?_⟩
    rw[bu a9,ec]
    rw[b6]at b1; exact b1
  clear hJ
  refine⟨ad,⟨ha,oM,c5⟩,_,_,hc _ xT,newS.intro λa w4 x4 hb d4 _=>stw0.intro hb sI λw5 b5 _ a0=>?_⟩
  have x5:Ext w3 w5:=b5.ext x4 oM
  have t5:Tab w5:=ht.ext xT
  refine⟨_,a0.at0 xR rfl,SE.Zky.go (versAt_se λw6 x6=>⟨_,_,_,_,rfl,?_⟩)⟩
  rw[Zhk m1]
  refine newS.intro λd2 w7 x7 a4 c9 _=>stw0.intro a4 sI λw8 b8 _ a4=>?_
  have x8:Ext w6 w8:=b8.ext x7 oM
  refine⟨_,a0.at1 xT rfl,SE.Zky.go (versAt_se λw9 x9=>⟨_,_,_,_,rfl,?_⟩)⟩
  rw[Zhk m2]
  refine newS.intro λd3 d8 c7 a6 d0 _=>stw0.intro a6 sI λb9 c1 _ a6=>?_
  have e1:Ext w9 b9:=c1.ext c7 oM
  have a7:Tab b9:=t5.ext xT
  refine⟨_,a0.at0 xT rfl,_,a0.at1 xT rfl,λh=>?_,λh=>⟨_,_,a0.at0 xT rfl,λh2=>?_,λh2=>⟨_,a0.at0 xT rfl,λh3=>?_,λh3=>⟨_,a0.at1 xT rfl,λh4=>?_,λh4=>bnd.drew λd9 c8=>?_⟩⟩⟩⟩
  ·have h:l[i].lo.rank=l[i].hi.rank:=h
   have he:l[i].lo=l[i].hi:=by rw[←Zhk m1,←Zhk m2,h]
   have e:Zae l[i]=Zca l[i].lo:=by unfold Zae; rw[if_pos he]
   exact⟨_,_,_,a4.at0 xT rfl,SE.Zet.go (versPrint_se a7 λb3 a8=>⟨_,rfl,push _ _ xT (by rw[e])⟩)⟩
  all_goals have a5: ¬l[i].lo=l[i].hi:=λhe=>h (by rw[he])
  ·have e:Zae l[i]= [42]:=by unfold Zae; rw[if_neg a5,if_pos (by simpa using h2)]
   exact push _ _ xT (by rw[e]; rfl)
  all_goals have b2: ¬(l[i].lo.rank=0∧l[i].hi.rank=999999999):=by simpa using h2
  ·have e:Zae l[i]= [60,61]++Zca l[i].hi:=by unfold Zae; rw[if_neg a5,if_neg b2,if_pos h3]
   refine⟨_,_,_,a6.at0 xT rfl,SE.Zet.go (versPrint_se a7 λb3 a8=>⟨_,rfl,by rw[Zk,Za7,Zw]; simp; omega,?_⟩)⟩
   exact push _ _ xT (by rw[e,Zip])
  ·have e:Zae l[i]= [62,61]++Zca l[i].lo:=by unfold Zae; rw[if_neg a5,if_neg b2,if_neg h3,if_pos h4]
   refine⟨_,_,_,a4.at0 xT rfl,SE.Zet.go (versPrint_se a7 λb3 a8=>⟨_,rfl,by rw[Zk,Za7,Zw]; simp; omega,?_⟩)⟩
   exact push _ _ xT (by rw[e,Zip])
  ·have e:Zae l[i]=(([62,61]++Zca l[i].lo)++ [32,60,61])++Zca l[i].hi:=by unfold Zae; rw[if_neg a5,if_neg b2,if_neg h3,if_neg h4]
   refine⟨_,_,_,a4.at0 xT rfl,_,_,_,a6.at0 xT rfl,callX.intro (SE.Zet.go (versPrint_se (a7.ext xT) λb3 a8=>⟨a8,_,rfl,?_⟩))⟩
   simp only[Zip,Zee]
   refine⟨by rw[Zk,Za7,Zw]; simp; omega,by rw[Zk,Za7,Zw]; simp; omega,SE.Zet.go (versPrint_se ((a7.ext c8).ext a8) λe0 e2=>⟨_,rfl,?_⟩)⟩
   simp only[Zhc]
   refine⟨by rw[Zk,Zk,Zw]; simp; omega,push _ _ xT (by rw[e])⟩
 ·have c4:i=l.length:=oM
  rw[c4,cu]at own
  have b4:=(own.readF dC (by show _*16≤room; rw[cm]; unfold room; omega)).len
  rw[cm]at b4
  refine⟨λh=>?_,λh=>?_⟩
  ·have:Zbp l= [60,48,46,48,46,48]:=by unfold Zbp; rw[hm,if_pos rfl,if_pos (cq oM)]
   have hr:=hR w3 xT
   rw[this]at hr; exact hr
  ·have a5:l≠ []:=λh0=>h (by rw[b4,h0]; rfl)
   have c6:Zbp l=Zh1 l:=by unfold Zbp; rw[hm,if_pos rfl,if_neg a5]
   rw[c6]at hR
   exact join_k own c2 a5 λw4 x4=>⟨_,rfl,hR _ xT⟩
theorem r05less_se{a b:ByteArray}(ha:Str a)(hR: ∀w',Ext w w'→R (bLt a b) w'):SE.Zdw a b w R:=by
 unfold SE.Zdw
 exact SE.Zcx.go (less_se _ _ _ _ ha λw' hx=>⟨_,rfl,hR _ hx⟩)
theorem Zxv{n:Nat}(h0:0<i)(hi:i≤n)(hn:n≤maxLen):Za ((i:Int) - 1)=((i - 1:Nat):Int):=by
 rw[Zc oM (by rw[Zd]at hn; omega)]; omega
theorem Znq{l:List Dep}(hs:SlR depE w S s l)(hR: ∀w',Ext w w'→R (Zs l) w'):SE.Zcf s w R:=by
 unfold SE.Zcf
 have hl:=hs.len
 refine loop1.up hs.max (λi w'=>Ext w w'∧Zcz none (l.take i)=true) ⟨Ext.refl _,rfl⟩ λi w1 b8 hi ⟨x1,hI⟩ hn=>⟨λb3=>bnd.drew λw2 x2=>?_,λb7=>?_⟩
 ·have a5:i<l.length:=oM
  obtain⟨ad,t,ha,_,b5,hr,hc⟩:=Zhw hs a5
  have b6:=Ztj a5 hI
  have a6:s.a=some ad∧(0:Int)≤(i:Int)∧(i:Int)<(s.len:Int):=⟨ha,oM,b3⟩
  refine⟨ad,a6,_,(hc _ xT).pre rfl,SE.Zay.go (r04Name_se b5 λw3 x3=>⟨_,rfl,bound ?_⟩)⟩
  refine⟨ad,λ_=>a6,t,λ_=>(hc _ xT).mid rfl,gCall.intro (Zaa l[i].range) (λ_ q hq=>SE.Zc8.go (r03May_se (hr.ext xT) λw' hx=>⟨_,rfl,hq _ hx⟩)) λt2 w4 x4 a8=>bound ?_⟩
  refine⟨ad,λ_=>a6,t,λ_=>(hc _ xT).mid rfl,bound (bound ?_)⟩
  have a7: ∀h0:0<i,Zok none (l.take i)=some (l[i - 1]'oM).name:=λh0=>by
   have:=Zq6 (l:=l) (n:=i - 1) oM
   rw[←this]; congr 2; omega
  have hd: ∃(a4:Addr) (u:ByteArray),(decide ((0:Int)<(i:Int))=true→(s.a=some a4∧(0:Int)≤Za ((i:Int) - 1)∧Za ((i:Int) - 1)<(s.len:Int))∧ldc w4 (a4.add ((Za ((i:Int) - 1)).toNat*2)) [.string u]∧Zok none (l.take i)=some u∧Str u):=by
   by_cases h0:0<i
   ·have ew:=Zxv h0 hi hs.max
    obtain⟨a9,t',b0,_,b4,_,b1⟩:=Zhw hs (n:=i - 1) oM
    exact⟨a9,_,λ_=>⟨by rw[ew]; exact⟨b0,oM,oM⟩,by rw[ew]; exact(b1 _ xT).pre rfl,a7 h0,b4⟩⟩
   ·exact⟨ad,⟨#[]⟩,λh=>by simp at h; omega⟩
  obtain⟨a4,u,hu⟩:=hd
  have hg: ∀{b:Bool},(!b&&decide ((0:Int)<(i:Int)))=true→decide ((0:Int)<(i:Int))=true:=λh=>by simp only[bx]at h; exact h.2
  refine⟨a4,λhb=>(hu (hg hb)).1,u,λhb=>(hu (hg hb)).2.1,ad,λ_=>a6,_,λ_=>(hc _ xT).pre rfl,?_⟩
  refine gCall.intro (bLt u l[i].name) (λhb q hq=>SE.Zcx.go (less_se _ _ _ _ (hu (hg hb)).2.2.2 λw' hx=>⟨_,rfl,hq _ hx⟩)) λt3 w5 x5 a0=>?_
  have e:((((!Zn l[i].name)||(!t2))||((t.len:Int)==0))||(decide ((0:Int)<(i:Int))&&(!t3)))= !Zcz none (l.take (i+1)):=by
   rw[b6,dpOk]
   have e0:((t.len:Int)==0)=l[i].range.isEmpty:=by
    rw[hr.len]
    cases l[i].range<;>simp
    omega
   rw[e0]at a0 ⊢
   cases h1:Zn l[i].name
   ·simp
   ·rw[h1]at a8 a0
    rw[a8 rfl]at a0 ⊢
    cases h2:Zaa l[i].range
    ·simp
    ·rw[h2]at a0
     cases h3:l[i].range.isEmpty
     ·rw[h3]at a0
      by_cases h0:0<i
      ·have hb:decide ((0:Int)<(i:Int))=true:=by simpa using h0
       rw[hb]at a0 ⊢
       rw[a0 rfl,(hu hb).2.2.1]
       simp[Zkc]
      ·have hb:decide ((0:Int)<(i:Int))=false:=by simp; omega
       have b2:i=0:=oM
       subst b2
       simp[Zok,Zkc]
     ·simp
  rw[e]
  refine⟨λh=>?_,λh=>hn a5 _ ⟨xT,by simpa using h⟩⟩
  rw[←Zl5 (i:=i+1) (by simpa using h)]; exact hR _ xT
 ·have:i=l.length:=oM
  rw[this,cu]at hI
  have e:decide ((s.len:Int)≤16)=Zs l:=by
   unfold Zs
   rw[hI,dw,decide_eq_decide]; omega
  rw[e]; exact hR _ xT
theorem Zl0{α:Type}{p:α→Bool}{l:List α}{n:Nat}(hn:n<l.length):(l.take (n+1)).any p=((l.take n).any p||p l[n]):=by
 rw[bu hn,List.any_append]; simp
theorem Zlu{t:Sl}{a b:List Dep}(hs:SlR depE w S s a)(ht:SlR depE w S t b)(hR: ∀w',Ext w w'→R (Ze1 a b) w'):SE.Zb5 s t w R:=by
 unfold SE.Zb5
 have hl:=hs.len
 have b4:=ht.len
 refine loop1.up hs.max (λi w'=>Ext w w'∧(a.take i).any (λx=>b.any λy=>decide (x.name=y.name))=false) ⟨Ext.refl _,rfl⟩ λi w1 b5 hi ⟨x1,hI⟩ hn=>⟨λa9=>?_,λb3=>?_⟩
 ·have a4:i<a.length:=oM
  obtain⟨ad,_,ha,_,_,_,hc⟩:=Zhw hs a4
  refine loop1.up ht.max (λk w'=>Ext w w'∧(b.take k).any (λy=>decide (a[i].name=y.name))=false) ⟨x1,rfl⟩ λk w2 b2 hk ⟨x2,hJ⟩ b0=>⟨λa5=>bnd.drew λw3 x3=>?_,λb1=>?_⟩
  ·have a0:k<b.length:=oM
   obtain⟨a6,_,a7,_,_,_,a8⟩:=Zhw ht a0
   refine⟨ad,⟨ha,oM,a9⟩,_,(hc _ xT).pre rfl,a6,⟨a7,oM,a5⟩,_,(a8 _ xT).pre rfl,λh=>?_,λh=>b0 a0 _ ⟨xT,?_⟩⟩
   ·have:Ze1 a b=false:=by
     unfold Ze1
     have:(a.any λx=>b.any λy=>decide (x.name=y.name))=true:=ir.2 ⟨_,cj a4,ir.2 ⟨_,cj a0,by simpa using h⟩⟩
     rw[this]; rfl
    rw[←this]; exact hR _ xT
   ·rw[Zl0 a0,hJ]; simpa using h
  ·have:k=b.length:=oM
   rw[this,cu]at hJ
   exact hn a4 _ ⟨x2,by rw[Zl0 a4,hI,hJ]; rfl⟩
 ·have:i=a.length:=oM
  rw[this,cu]at hI
  have e:Ze1 a b=true:=by unfold Ze1; rw[hI]; rfl
  rw[←e]; exact hR _ xT
theorem Zlv{wd:List UInt8}{l:List Dep}{R:ByteArray→World→Prop}(hw:wd.length≤8)(hm:Zs l=true)(hs:SlR depE w S s l)(hR: ∀w',Ext w w'→R (B (Zbh wd l)) w'):SE.Zb6 (B wd) s w R:=by
 unfold SE.Zb6
 have hl:=hs.len
 obtain⟨a7,a5⟩:=Zr hm
 refine loop2.up hs.max (λout i w'=>Ext w w'∧out=B (Zbh wd (l.take i))) ⟨Ext.refl _,rfl⟩ λout i w1 b1 hi ⟨x1,hI⟩ hn=>⟨λa6=>bnd.drew λw2 x2=>?_,λa8=>?_⟩
 ·have a0:i<l.length:=oM
  obtain⟨ad,t,ha,_,a9,hr,hc⟩:=Zhw hs a0
  have a4:s.a=some ad∧(0:Int)≤(i:Int)∧(i:Int)<(s.len:Int):=⟨ha,oM,a6⟩
  have hd:=a5 _ (cj a0)
  have h1:=Zb9 hw (l:=l.take i) λd hd=>(a5 d (iw hd)).1
  rw[cd,gw oM]at h1
  have h2:=Zdo hd.1
  have h3:=Zhi l[i].range
  subst hI
  have b0:(l[i].name).size=(l[i].name).toList.length:=(Zht _).symm
  rw[Zhc,Zee]
  refine⟨by rw[Zk,Zk,Zw]; omega,by rw[Zk,Za7,Zw]; simp; omega,ad,a4,_,(hc _ xT).pre rfl,?_⟩
  rw[ba_B l[i].name,Zhc,Zee]
  refine⟨by rw[Zk,Zk,Zw]; simp; omega,by rw[Zk,Za7,Zw]; simp; omega,ad,a4,t,(hc _ xT).mid rfl,callX.intro (SE.Zdc.go (Zwm (hr.ext xT) λw3 x3=>⟨x3,_,rfl,?_⟩))⟩
  rw[Zhc,Zee]
  refine⟨by rw[Zk,Zk,Zw]; simp; omega,by rw[Zk,Za7,Zw]; simp; omega,hn a0 _ _ ⟨xT,?_⟩⟩
  rw[bu a0,Zjk,Zlp]
  congr 1
  simp
 ·have:i=l.length:=oM
  rw[this,cu]at hI
  rw[hI]; exact hR _ xT
theorem Ztz(h:Zn n=true)(v:Ver):(Zk4 n v).length≤40:=by
 have:=Zdo h; have:=Zek v
 simp only[Zk4,br,dq,fa]; omega
theorem Zzb{p:Pack}{R:ByteArray→World→Prop}(hm:Zdk p=true)(hd:SlR depE w S d p.deps)(he:SlR depE w S e p.peers)(ho:SlR depE w S o p.opt)
  (hR: ∀w',Ext w w'→R (B (Zig p)) w'):SE.Zdx p.name p.v.ma p.v.mi p.v.pa d e o w R:=by
 unfold SE.Zdx
 unfold Zdk at hm
 simp only[bx]at hm
 obtain⟨⟨⟨⟨hn,hv⟩,h1⟩,h2⟩,h3⟩:=hm
 have n1:=Zr h1; have n2:=Zr h2; have n3:=Zr h3
 have l1:=Zb9 (word:=wNeeds) dC λd hd=>(n1.2 d hd).1
 have l2:=Zb9 (word:=Zqb) dC λd hd=>(n2.2 d hd).1
 have l3:=Zb9 (word:=wLikes) dC λd hd=>(n3.2 d hd).1
 have a0:=Zdo hn
 have a4:=Zek p.v
 refine newS.intro λ_ w1 x1 hb _ _=>bnd.drew λw2 x2=>?_
 refine⟨_,lD,?_⟩
 rw[ba_B p.name]
 simp only[Zip,Zee]
 refine⟨by rw[Za7,Zk,Zw]; simp; omega,by rw[Zk,Za7,Zw]; simp; omega,?_⟩
 refine⟨_,_,_,lD,?_⟩
 refine⟨d,hb.at1 xT rfl,e,hb.at1 xT rfl,o,hb.at1 xT rfl,callX.intro (SE.Zbm.go (Zjt (v:=p.v) λw3 x3=>⟨x3,_,rfl,?_⟩))⟩
 simp only[Zhc,Zee]
 refine⟨by rw[Zk,Zk,Zw]; simp; omega,by rw[Zk,Za7,Zw]; simp; omega,callX.intro (SE.Zb6.go (word:=B wNeeds) (Zlv dC h1 (hd.ext xT) λw4 x4=>⟨x4,_,rfl,?_⟩))⟩
 simp only[Zhc]
 refine⟨by rw[Zk,Zk,Zw]; simp; omega,callX.intro (SE.Zb6.go (word:=B Zqb) (Zlv dC h2 (he.ext xT) λw5 x5=>⟨x5,_,rfl,?_⟩))⟩
 simp only[Zhc]
 refine⟨by rw[Zk,Zk,Zw]; simp; omega,callX.intro (SE.Zb6.go (word:=B wLikes) (Zlv dC h3 (ho.ext xT) λw6 x6=>⟨x6,_,rfl,?_⟩))⟩
 simp only[Zhc]
 refine⟨by rw[Zk,Zk,Zw]; simp; omega,?_⟩
 have:=hR w6 xT
 have e:Zig p=_:=rfl
 unfold Zig Zk4 at e
 simpa[Zig,Zk4]using this
theorem Zpt{p:Pack}(hN:Str p.name)(hd:SlR depE w S d p.deps)(he:SlR depE w S e p.peers)(ho:SlR depE w S o p.opt)
  (hR: ∀w',Ext w w'→R (Zbb p) w'):SE.Zco p.name p.v.ma p.v.mi p.v.pa d e o w R:=by
 unfold SE.Zco
 refine newS.intro λ_ w1 x1 hb _ _=> ?_
 refine⟨_,lD,?_⟩
 refine SE.Zay.go (r04Name_se hN λw2 x2=>⟨_,rfl,bound ?_⟩)
 refine⟨p.v.ma,p.v.mi,p.v.pa,λ_=>hb.at1 xT rfl,gCall.intro p.v.may (λ_ q hq=>SE.Zbt.go (r02May_se λw' hx=>⟨_,rfl,hq _ hx⟩)) λt1 w3 x3 a7=>bound ?_⟩
 refine⟨d,λ_=>hb.at1 xT rfl,gCall.intro (Zs p.deps) (λ_ q hq=>SE.Zcf.go (Znq (hd.ext xT) λw' hx=>⟨_,rfl,hq _ hx⟩)) λt2 w4 x4 a5=>bound ?_⟩
 refine⟨e,λ_=>hb.at1 xT rfl,gCall.intro (Zs p.peers) (λ_ q hq=>SE.Zcf.go (Znq (he.ext xT) λw' hx=>⟨_,rfl,hq _ hx⟩)) λt3 w5 x5 a4=>bound ?_⟩
 refine⟨o,λ_=>hb.at1 xT rfl,gCall.intro (Zs p.opt) (λ_ q hq=>SE.Zcf.go (Znq (ho.ext xT) λw' hx=>⟨_,rfl,hq _ hx⟩)) λt4 w6 x6 a0=>?_⟩
 have e1:(((((!Zn p.name)||(!t1))||(!t2))||(!t3))||(!t4))= !Zdk p:=by
  unfold Zdk
  cases h1:Zn p.name
  ·simp
  rw[h1]at a7 a5 a4 a0
  rw[a7 rfl]at a5 a4 a0 ⊢
  cases h2:p.v.may
  ·simp
  rw[h2]at a5 a4 a0
  rw[a5 rfl]at a4 a0 ⊢
  cases h3:Zs p.deps
  ·simp
  rw[h3]at a4 a0
  rw[a4 rfl]at a0 ⊢
  cases h4:Zs p.peers
  ·simp
  rw[h4]at a0
  rw[a0 rfl]
  simp
 rw[e1]
 refine⟨λh=>?_,λh=>?_⟩
 ·have:Zbb p=false:=by
   unfold Zbb
   have:Zdk p=false:=by simpa using h
   rw[this]; rfl
  rw[←this]; exact hR _ xT
 have hm:Zdk p=true:=by simpa using h
 refine⟨d,hb.at1 xT rfl,e,hb.at1 xT rfl,SE.Zb5.go (Zlu (hd.ext xT) (he.ext xT) λw7 x7=>⟨_,rfl,?_⟩)⟩
 refine⟨d,λ_=>hb.at1 xT rfl,o,λ_=>hb.at1 xT rfl,gCall.intro (Ze1 p.deps p.opt) (λ_ q hq=>SE.Zb5.go (Zlu (hd.ext xT) (ho.ext xT) λw' hx=>⟨_,rfl,hq _ hx⟩)) λt5 w8 x8 a8=>bound ?_⟩
 refine⟨e,λ_=>hb.at1 xT rfl,o,λ_=>hb.at1 xT rfl,gCall.intro (Ze1 p.peers p.opt) (λ_ q hq=>SE.Zb5.go (Zlu (he.ext xT) (ho.ext xT) λw' hx=>⟨_,rfl,hq _ hx⟩)) λt6 w9 x9 a6=>bound ?_⟩
 have e2:((Ze1 p.deps p.peers&&t5)&&t6)=Zl1 p:=by
  unfold Zl1
  cases h1:Ze1 p.deps p.peers
  ·rfl
  rw[h1]at a8 a6
  rw[a8 rfl]at a6 ⊢
  cases h2:Ze1 p.deps p.opt
  ·rfl
  rw[h2]at a6
  rw[a6 rfl]
 rw[e2]
 refine⟨p.name,p.v.ma,p.v.mi,p.v.pa,d,e,o,λ_=>hb.at0 xT rfl,gCall.intro (B (Zig p)) (λ_ q hq=>SE.Zdx.go (Zzb hm (hd.ext xT) (he.ext xT) (ho.ext xT) λw' hx=>⟨_,rfl,hq _ hx⟩)) λt7 b0 b1 a9=>?_⟩
 have e3:(Zl1 p&&decide ((t7.size:Int)≤4096))=Zbb p:=by
  unfold Zbb
  rw[hm,dw]
  cases h1:Zl1 p
  ·rfl
  rw[a9 h1,Zk,dw,dw,decide_eq_decide]; omega
 rw[e3]; exact hR _ xT
theorem Z2p(x y:Span):(((x.lo.ma==y.lo.ma)&&((x.lo.mi==y.lo.mi)&&((x.lo.pa==y.lo.pa)&&true)))&&(((x.hi.ma==y.hi.ma)&&((x.hi.mi==y.hi.mi)&&((x.hi.pa==y.hi.pa)&&true)))&&true))=decide (x=y):=by
 rw[Zp9,Zp9]
 obtain⟨a,b⟩:=x; obtain⟨c,d⟩:=y
 rw[ep]; simp
theorem Zkw{α:Type}{a b:List α}{n:Nat}(ha:n<a.length)(hb:n<b.length)(h:a.take n=b.take n):a.take (n+1)=b.take (n+1)↔a[n]=b[n]:=by
 rw[bu ha,bu hb,h]
 simp only[List.append_cancel_left_eq,List.cons.injEq,and_true]
theorem Znk{α:Type}{a b:List α}{n:Nat}(ha:n<a.length)(hb:n<b.length)(h:a[n]≠b[n]):a≠b:=λe=>h (by subst e; rfl)
theorem Zwn{t:Sl}{a b:List Span}(hs:SlR spanE w S s a)(ht:SlR spanE w S t b)(hR: ∀w',Ext w w'→R (decide (a=b)) w'):SE.Zdd s t w R:=by
 unfold SE.Zdd
 have hl:=hs.len
 have a8:=ht.len
 refine⟨λh=>?_,λh=>?_⟩
 ·have:decide (a=b)=false:=decide_eq_false λe=>h (by rw[hl,a8,e])
  rw[←this]; exact hR _ xR
 have a0:a.length=b.length:=by
  have:=fj.1 h
  omega
 refine loop1.up hs.max (λi w'=>Ext w w'∧a.take i=b.take i) ⟨Ext.refl _,rfl⟩ λi w1 b1 hi ⟨x1,hI⟩ hn=>⟨λa9=>bnd.drew λw2 x2=>?_,λb0=>?_⟩
 ·have h1:i<a.length:=oM
  have h2:i<b.length:=oM
  obtain⟨ad,ha,_,hc⟩:=Zll hs h1
  obtain⟨a4,a5,_,a6⟩:=Zll ht h2
  refine⟨ad,⟨ha,oM,a9⟩,_,_,_,_,_,_,hc _ xT,a4,⟨a5,oM,oM⟩,_,_,_,_,_,_,a6 _ xT,?_⟩
  rw[Z2p]
  refine⟨λh=>?_,λh=>hn h1 _ ⟨xT,(Zkw h1 h2 hI).2 (by simpa using h)⟩⟩
  have:decide (a=b)=false:=decide_eq_false (Znk h1 h2 (by simpa using h))
  rw[←this]; exact hR _ xT
 ·have a7:i=a.length:=oM
  rw[a7,cu,a0,cu]at hI
  have:decide (a=b)=true:=decide_eq_true hI
  rw[←this]; exact hR _ xT
theorem Znp{t:Sl}{a b:List Dep}(hs:SlR depE w S s a)(ht:SlR depE w S t b)(hR: ∀w',Ext w w'→R (decide (a=b)) w'):SE.Zce s t w R:=by
 unfold SE.Zce
 have hl:=hs.len
 have b1:=ht.len
 refine⟨λh=>?_,λh=>?_⟩
 ·have:decide (a=b)=false:=decide_eq_false λe=>h (by rw[hl,b1,e])
  rw[←this]; exact hR _ xR
 have a7:a.length=b.length:=by
  have:=fj.1 h
  omega
 refine loop1.up hs.max (λi w'=>Ext w w'∧a.take i=b.take i) ⟨Ext.refl _,rfl⟩ λi w1 b5 hi ⟨x1,hI⟩ hn=>⟨λb2=>bnd.drew λw2 x2=>?_,λb4=>?_⟩
 ·have h1:i<a.length:=oM
  have h2:i<b.length:=oM
  obtain⟨ad,u,ha,_,_,hr,hc⟩:=Zhw hs h1
  obtain⟨a4,u2,a9,_,_,b3,a6⟩:=Zhw ht h2
  have a5:s.a=some ad∧(0:Int)≤(i:Int)∧(i:Int)<(s.len:Int):=⟨ha,oM,b2⟩
  have a0:t.a=some a4∧(0:Int)≤(i:Int)∧(i:Int)<(t.len:Int):=⟨a9,oM,oM⟩
  refine⟨ad,a5,_,(hc _ xT).pre rfl,a4,a0,_,(a6 _ xT).pre rfl,bound ⟨ad,λ_=>a5,u,λ_=>(hc _ xT).mid rfl,a4,λ_=>a0,u2,λ_=>(a6 _ xT).mid rfl,?_⟩⟩
  refine gCall.intro (decide (a[i].range=b[i].range)) (λ_ q hq=>SE.Zdd.go (Zwn (hr.ext xT) (b3.ext xT) λw' hx=>⟨_,rfl,hq _ hx⟩)) λt3 w3 x3 a8=>?_
  have e:((!bEq a[i].name b[i].name)||(!t3))= !decide (a[i]=b[i]):=by
   cases h1:bEq a[i].name b[i].name
   ·have: ¬a[i]=b[i]:=λe=>by rw[e,Zap.2 rfl]at h1; cases h1
    simp[this]
   ·rw[h1]at a8
    rw[a8 rfl]
    have hn:=Zap.1 h1
    have:(a[i].range=b[i].range)↔a[i]=b[i]:=by
     constructor
     ·intro h2
      generalize a[i]=x at*; generalize b[i]=y at*
      obtain⟨x1,x2⟩:=x; obtain⟨y1,y2⟩:=y
      simp only at hn h2
      rw[hn,h2]
     ·intro h; rw[h]
    simp only[this]; rfl
  rw[e]
  refine⟨λh=>?_,λh=>hn h1 _ ⟨xT,(Zkw h1 h2 hI).2 (by simpa using h)⟩⟩
  have:decide (a=b)=false:=decide_eq_false (Znk h1 h2 (by simpa using h))
  rw[←this]; exact hR _ xT
 ·have b0:i=a.length:=oM
  rw[b0,cu,a7,cu]at hI
  have:decide (a=b)=true:=decide_eq_true hI
  rw[←this]; exact hR _ xT
theorem Zlb{p q:Pack}{d' e' o':Sl}(hd:SlR depE w S d p.deps)(he:SlR depE w S e p.peers)(ho:SlR depE w S o p.opt)
  (a9:SlR depE w S d' q.deps) (b0:SlR depE w S e' q.peers) (b6:SlR depE w S o' q.opt) (hR: ∀w',Ext w w'→R (decide (p=q)) w'):SE.Zbx p.name p.v.ma p.v.mi p.v.pa d e o q.name q.v.ma q.v.mi q.v.pa d' e' o' w R:=by
 unfold SE.Zbx
 refine newS.intro λ_ w1 x1 hb _ _=>newS.intro λ_ w2 x2 a6 _ _=> ?_
 refine⟨_,hb.at0 xT rfl,_,a6.at0 xT rfl,bound ⟨p.v.ma,p.v.mi,p.v.pa,λ_=>hb.at1 xT rfl,q.v.ma,q.v.mi,q.v.pa,λ_=>a6.at1 xT rfl,bound ?_⟩⟩
 rw[Zp9]
 refine⟨d,λ_=>hb.at1 xT rfl,d',λ_=>a6.at1 xT rfl,gCall.intro (decide (p.deps=q.deps)) (λ_ q hq=>SE.Zce.go (Znp (hd.ext xT) (a9.ext xT) λw' hx=>⟨_,rfl,hq _ hx⟩)) λt1 w3 x3 a8=>bound ?_⟩
 refine⟨e,λ_=>hb.at1 xT rfl,e',λ_=>a6.at1 xT rfl,gCall.intro (decide (p.peers=q.peers)) (λ_ q hq=>SE.Zce.go (Znp (he.ext xT) (b0.ext xT) λw' hx=>⟨_,rfl,hq _ hx⟩)) λt2 w4 x4 a7=>bound ?_⟩
 refine⟨o,λ_=>hb.at1 xT rfl,o',λ_=>a6.at1 xT rfl,gCall.intro (decide (p.opt=q.opt)) (λ_ q hq=>SE.Zce.go (Znp (ho.ext xT) (b6.ext xT) λw' hx=>⟨_,rfl,hq _ hx⟩)) λt3 w5 x5 a0=>?_⟩
 have e:((((bEq p.name q.name&&decide (p.v=q.v))&&t1)&&t2)&&t3)=decide (p=q):=by
  have key:decide (p=q)=((((bEq p.name q.name&&decide (p.v=q.v))&&decide (p.deps=q.deps))&&decide (p.peers=q.peers))&&decide (p.opt=q.opt)):=by
   obtain⟨a1,a2,a3,a4,a5⟩:=p; obtain⟨b1,b2,b3,b4,b5⟩:=q
   rw[ep]
   simp only[decide_eq_true_eq,bx,Zap,Pack.mk.injEq,and_assoc]
  rw[key]
  cases h1:(bEq p.name q.name&&decide (p.v=q.v))
  ·rfl
  rw[h1]at a8 a7 a0
  rw[a8 rfl]at a7 a0 ⊢
  cases h2:decide (p.deps=q.deps)
  ·rfl
  rw[h2]at a7 a0
  rw[a7 rfl]at a0 ⊢
  cases h3:decide (p.peers=q.peers)
  ·rfl
  rw[h3]at a0
  rw[a0 rfl]
 rw[e]; exact hR _ xT
end Go.Hal
namespace Go.Hal
open Go.MapKept
structure KeyT(P:Program)(mt:TypeId)(K:Value→Prop)(zero:Value):Prop where
 und: ∃kt et,P.underlying mt=some (.map kt et)∧(∀w,(zeroValue et).run P w= .ok zero w)∧
  (∀k,K k→ ∀e w,(Instr.checkKey e 10000 kt k).run P w= .ok () w)∧
  (∀k,K k→ ∀l:List MapEntry,(∀x∈l,K x.key)→ ∀w,((∀x∈l,x.key≠k)∧(Instr.findKey kt k l).run P w= .ok none w)∨ ∃(j:Nat) (e:MapEntry),l[j]? =some e∧e.key=k∧(Instr.findKey kt k l).run P w= .ok (some (j,e.val)) w)
 stay: ∀k,K k→Instr.sameBits 10000 k k=true
def MapR(K:Value→Prop)(w:World)(r:Nat)(m:List (Value×Value)):Prop:=
 ∃es clock,w.heap[r]? =some (.map es clock)∧Stamped es clock∧es.toList.map (λe=>(e.key,e.val))=m∧ ∀x∈es.toList,K x.key
section
variable {P:Program} {mt:TypeId} {K:Value→Prop} {zero:Value} {w w':World} {r:Nat} {m:List (Value×Value)}
theorem MapR.lt(h:MapR K w r m):r<w.heap.size:=by
 obtain⟨es,a0,hb,_⟩:=h
 exact(de.1 hb).1
theorem MapR.of(h:MapR K w r m)(he:w'.heap[r]? =w.heap[r]?):MapR K w' r m:=by
 obtain⟨es,a0,hb,h2⟩:=h
 exact⟨es,a0,he.trans hb,h2⟩
theorem MapR.ext(h:MapR K w r m)(hx:Ext w w'):MapR K w' r m:=h.of (hx.block h.lt)
theorem MapR.keys(h:MapR K w r m):(m.map (·.1)).Nodup∧ ∀p∈m,K p.1:=by
 obtain⟨es,a0,_,hs,rfl,hk⟩:=h
 refine⟨?_,λp hp=>?_⟩
 ·rw[gc]; exact hs.2.2
 ·obtain⟨e,he,rfl⟩:=fh.1 hp
  exact hk e he
theorem Zjq{k:Value→World→Prop}(h: ∀r w',Ext w w'→r=w.heap.size→MapR K w' r []→k (.map (some r)) w'):semS P (Instr.makeMap mt none) w k:=
 ⟨_,_,rfl,h _ _ (Ext.alloc _ _) rfl ⟨#[],0,heap_alloc_new w _,stamped_empty 0,rfl,by simp⟩⟩
theorem Ziy(T:KeyT P mt K zero)(h:MapR K w r m){k:Value}(hk:K k):
  ((∀p∈m,p.1≠k)∧ ∀ok,(Instr.lookup mt (.map (some r)) k ok).run P w= .ok (if ok then .tuple #[zero,.bool false]else zero) w)∨
  ∃v,(k,v)∈m∧ ∀ok,(Instr.lookup mt (.map (some r)) k ok).run P w= .ok (if ok then .tuple #[v,.bool true]else v) w:=by
 obtain⟨kt,et,hu,hz,hc,hf⟩:=T.und
 obtain⟨es,a0,hb,hs,rfl,a4⟩:=h
 rcases hf k hk es.toList a4 w with⟨hn,hr⟩|⟨j,e,hj,he,hr⟩
 ·refine .inl ⟨λp hp=>?_,λok=>?_⟩
  ·obtain⟨e,he,rfl⟩:=fh.1 hp
   exact hn e he
  ·cases ok<;>simp[Instr.lookup,Sem.run_bind,run_underlying hu,Result.andThen,Go.MapKept.run_getObj_map hb,hc k hk,hr,hz]
 ·refine .inr ⟨e.val,fh.2 ⟨e,ez hj,by rw[he]⟩,λok=>?_⟩
  cases ok<;>simp[Instr.lookup,Sem.run_bind,run_underlying hu,Result.andThen,Go.MapKept.run_getObj_map hb,hc k hk,hr]
theorem Zrt(T:KeyT P mt K zero)(h:MapR K w r m){k v:Value}(hk:K k)(hn: ∀p∈m,p.1≠k){c:World→Prop}(a7: ∀w',But r w w'→w'.heap.size=w.heap.size→MapR K w' r (m++ [(k,v)])→c w'):semU P (Instr.mapUpdate mt (.map (some r)) k v) w c:=by
 obtain⟨kt,et,hu,hz,hc,hf⟩:=T.und
 obtain⟨es,a0,hb,hs,rfl,a4⟩:=h
 have a5: ∀x∈es.toList,x.key≠k:=λx hx=>hn _ (fh.2 ⟨x,hx,rfl⟩)
 rcases hf k hk es.toList a4 w with⟨_,hr⟩|⟨j,e,hj,he,hr⟩
 ·refine⟨{w with heap:=w.heap.setIfInBounds r (.map (es.push {key:=k,val:=v,born:=a0}) (a0+1))},?_,a7 _ ⟨?_,rfl,rfl,rfl,?_⟩ ?_ ?_⟩
  ·simp[Instr.mapUpdate,Sem.run_bind,run_underlying hu,Result.andThen,Go.MapKept.run_getObj_map hb,hc k hk,hr,run_setObj_map _ hb]
  ·simp
  ·intro b a8 a6
   exact(heap_set hb).2 b a6
  ·simp
  ·exact⟨_,_,(heap_set hb).1,stamped_push hs a5,by simp,λx hx=>by
    simp only[Array.toList_push,dj,ci]at hx
    rcases hx with hx|rfl
    ·exact a4 x hx
    ·exact hk⟩
 ·exact absurd he (a5 e (ez hj))
theorem Zzt(T:KeyT P mt K zero)(h:MapR K w r m){k v u:Value}(hk:K k)(hm:(k,u)∈m){c:World→Prop}(a9: ∀w' m',But r w w'→w'.heap.size=w.heap.size→MapR K w' r m'→(k,v)∈m'→m'.map (·.1)=m.map (·.1)→c w'):semU P (Instr.mapUpdate mt (.map (some r)) k v) w c:=by
 obtain⟨kt,et,hu,hz,hc,hf⟩:=T.und
 obtain⟨es,a5,hb,hs,rfl,a7⟩:=h
 rcases hf k hk es.toList a7 w with⟨hn,_⟩|⟨j,e,hj,he,hr⟩
 ·obtain⟨e,he,h1⟩:=fh.1 hm
  exact absurd (congrArg Prod.fst h1) (hn e he)
 ·have a4:es[j]? =some e:=by simpa using hj
  have a0: ∀e',es[j]? =some e'→e'.key=k:=λe' h=>by rw[a4]at h; cases h; exact he
  have b0:(Instr.keyThatStays (((es[j]?).map (·.key)).getD k) k).run P w= .ok k w:=by
   rw[a4]
   simp only[gv,Option.getD_some,he]
   simp[Instr.keyThatStays,T.stay k hk]
  refine⟨{w with heap:=w.heap.setIfInBounds r (.map (es.modify j λe=>{e with key:=k,val:=v}) a5)},?_,a9 _ ((es.modify j λe=>{e with key:=k,val:=v}).toList.map λe=>(e.key,e.val)) ⟨?_,rfl,rfl,rfl,?_⟩ ?_ ?_ ?_ ?_⟩
  ·simp only[Instr.mapUpdate,Sem.run_bind,run_underlying hu,Result.andThen,Go.MapKept.run_getObj_map hb,hc k hk,hr]
   rw[b0]
   simp[run_setObj_map _ hb]
  ·simp
  ·intro b b2 a8
   exact(heap_set hb).2 b a8
  ·simp
  ·refine⟨_,_,(heap_set hb).1,stamped_modify hs j _ (λ_ _=>rfl) (λe' _ h=>(a0 e' h).symm),rfl,λx hx=>?_⟩
   have a6:=modify_keys (es:=es) j (λe=>{e with key:=k,val:=v}) (λe' h=>(a0 e' h).symm)
   have:x.key∈(es.modify j λe=>{e with key:=k,val:=v}).toList.map (·.key):=fh.2 ⟨x,hx,rfl⟩
   rw[a6]at this
   obtain⟨y,hy,b1⟩:=fh.1 this
   rw[←b1]; exact a7 y hy
  ·have b3:j<es.size:=(de.1 a4).1
   refine fh.2 ⟨{e with key:=k,val:=v},?_,rfl⟩
   refine ez (i:=j) ?_
   simp[Array.getElem?_modify,a4]
  ·rw[gc,gc]
   exact modify_keys (es:=es) j (λe=>{e with key:=k,val:=v}) (λe' h=>(a0 e' h).symm)
theorem Z7z(hu:P.underlying mt=some (.map kt et))(h:MapR K w r m):(Builtin.len_ #[mt] 3 #[.map (some r)]).run P w= .ok (.int .i64 m.length) w:=by
 obtain⟨es,a0,hb,hs,rfl,a4⟩:=h
 simp[Builtin.len_,Sem.run_bind,run_underlying hu,Result.andThen,Go.MapKept.run_getObj_map hb,goInt]
def IterR(w:World)(it r:Nat)(left:List (Value×Value))(last:Option (Value×Value)):Prop:=
 ∃es clock seen,w.heap[r]? =some (.map es clock)∧Stamped es clock∧w.heap[it]? =some (.mapIter (some r) clock seen clock)∧
  (es.toList.filter λe=>!seen.contains e.born).map (λe=>(e.key,e.val))=left∧
  (∀p,last=some p→ ∃st,seen.back? =some st∧ ∃e,es.find? (·.born==st)=some e∧(e.key,e.val)=p)
theorem IterR.of{last:Option (Value×Value)}(h:IterR w it r left last)(h1:w'.heap[r]? =w.heap[r]?)(h2:w'.heap[it]? =w.heap[it]?):IterR w' it r left last:=by
 obtain⟨es,a0,a4,a,b,c,d⟩:=h
 exact⟨es,a0,a4,h1.trans a,b,h2.trans c,d⟩
theorem IterR.lt{last:Option (Value×Value)}(h:IterR w it r left last):r<w.heap.size∧it<w.heap.size:=by
 obtain⟨es,a0,a4,a,b,c,d⟩:=h
 exact⟨(de.1 a).1,(de.1 c).1⟩
theorem IterR.ext{last:Option (Value×Value)}(h:IterR w it r left last)(hx:Ext w w'):IterR w' it r left last:=h.of (hx.block h.lt.1) (hx.block h.lt.2)
theorem Zwq(hu:P.underlying mt=some (.map kt et))(h:MapR K w r m){k:Value→World→Prop}(hk: ∀it w',Ext w w'→it=w.heap.size→IterR w' it r m none→k (.pointer (some ⟨it,0,none⟩)) w'):semS P (Instr.range mt (.map (some r))) w k:=by
 obtain⟨es,a0,hb,hs,rfl,a4⟩:=h
 refine⟨_,w.alloc (.mapIter (some r) a0 #[] a0),?_,hk _ _ (Ext.alloc _ _) rfl ⟨es,a0,#[],?_,hs,heap_alloc_new w _,?_,λp h=>by cases h⟩⟩
 ·simp[Instr.range,Sem.run_bind,run_underlying hu,Result.andThen,Go.MapKept.run_getObj_map hb]
 ·rw[(heap_alloc w _).2 r (de.1 hb).1]; exact hb
 ·congr 1
  apply mq.2
  intro x hx; simp
theorem Z0w{p:Value×Value}(h:IterR w it r left (some p)):(Instr.entry (.pointer (some ⟨it,0,none⟩))).run P w= .ok (.tuple #[p.1,p.2]) w:=by
 obtain⟨es,a0,a4,hb,hs,hi,hl,hp⟩:=h
 obtain⟨st,h1,e,h2,rfl⟩:=hp p rfl
 have a5:(getObj it).run P w= .ok (.mapIter (some r) a0 a4 a0) w:=by simp[getObj,Sem.run,hi]
 simp[Instr.entry,Sem.run_bind,Result.andThen,a5,h1,Go.MapKept.run_getObj_map hb,h2]
theorem Zyq{α β:Type}[BEq β][LawfulBEq β](f:α→β){l:List α}(hn:(l.map f).Nodup)(hi:i<l.length):(l.filter λe=>f e != f l[i])=l.take i++l.drop (i+1):=by
 have a4:l=l.take i++l[i]::l.drop (i+1):=by rw[←dm hi,dc]
 have a0:=hn
 rw[a4,ec,fg,gi]at a0
 obtain⟨h1,h2,h3⟩:=a0
 rw[lj]at h2
 generalize l[i]=x at*
 conv=>lhs; rw[a4]
 rw[lq,List.filter_cons,if_neg sI]
 congr 1
 ·apply mq.2
  intro y hy
  have:=h3 (f y) (fp hy) (f x) sI
  simpa using this
 ·apply mq.2
  intro y hy
  have:f y≠f x:=λe=>h2.1 (e▸fp hy)
  simpa using this
theorem Znz{α β:Type}(f:α→β){l:List α}(hn:(l.map f).Nodup){x y:α}(hx:x∈l)(hy:y∈l)(h:f x=f y):x=y:=by
 induction l with
 |nil=>cases hx
 |cons a r ih=>
  rw[fg,lj]at hn
  rcases du.1 hx with a0|a0<;>rcases du.1 hy with a4|a4
  ·rw[a0,a4]
  ·subst a0; exact absurd (h▸fp a4) hn.1
  ·subst a4; exact absurd (h▸fp a0) hn.1
  ·exact ih hn.2 a0 a4
theorem Z9x(n t:Nat)(h:0<n):(Question.mapNext n).cut t<n:=Nat.mod_lt _ h
theorem Zy6{last:Option (Value×Value)}(h:IterR w it r left last){k:Value→World→Prop}
  (h0:left= []→k (.tuple #[.bool false]) w)
  (h1: ∀(p:Value×Value) (l1 l2:List (Value×Value)) w',left=l1++p::l2→(∀b,b<w.heap.size→b≠it→w'.heap[b]? =w.heap[b]?)→w'.heap.size=w.heap.size→But it w w'→IterR w' it r (l1++l2) (some p)→k (.tuple #[.bool true,p.1,p.2]) w'):
  semS P (Instr.next (.pointer (some ⟨it,0,none⟩)) false 0) w k:=by
 obtain⟨es,a0,a4,hb,hs,hi,hl,hp⟩:=h
 have c7: ∀w1:World,w1.heap=w.heap→(getObj it).run P w1= .ok (.mapIter (some r) a0 a4 a0) w1:=λw1 h=>by simp[getObj,Sem.run,h,hi]
 have hg: ∀w1:World,w1.heap=w.heap→(getObj r).run P w1= .ok (.map es a0) w1:=λw1 h=>by simp[getObj,Sem.run,h,hb]
 have b1:(!a4.isEmpty&& !es.isEmpty&&es.all (λe=>decide (e.born≥a0)))=false:=by
  cases he:es.isEmpty
  ·have b3:es.toList≠ []:=by
    intro h0
    have:es= #[]:=by rw[←jj (xs:=es),h0]
    rw[this]at he; cases he
   obtain⟨x,t,hx⟩:=List.exists_cons_of_ne_nil b3
   have d0:=hs.1 x (by rw[hx]; simp)
   have:es.all (λe=>decide (e.born≥a0))=false:=by
    rw[il]
    intro a6
    rw[Array.all_eq_true']at a6
    have:=a6 x (by rw[←ky,hx]; simp)
    simp at this; omega
   rw[this]; simp
  ·simp
 have a8: ∀x∈es.filter (λe=>!a4.contains e.born),x.born<a0:=λx hx=>hs.1 x (by
  rw[Array.mem_filter]at hx
  exact ky.2 hx.1)
 have c1:(es.filter (λe=>!a4.contains e.born)).filter (λe=>decide (e.born<a0))=es.filter (λe=>!a4.contains e.born):=by
  rw[Array.filter_eq_self]
  intro x hx
  simpa using a8 x hx
 have b8:(es.filter (λe=>!a4.contains e.born)).filter (λe=>decide (e.born≥a0))= #[]:=by
  rw[Array.filter_eq_empty_iff]
  intro x hx
  have:=a8 x hx
  simp; omega
 have hL:(es.filter (λe=>!a4.contains e.born)).toList.map (λe=>(e.key,e.val))=left:=by rw[←hl,Array.toList_filter]
 unfold semS
 simp only[Instr.next,Sem.run_bind,Result.andThen,c7 w rfl,hg w rfl,b1,c1,b8]
 generalize c6:es.filter (λe=>!a4.contains e.born)=L at*
 simp only[jf,if_false,Array.append_empty]
 by_cases hE:L= #[]
 ·have c8:left= []:=by rw[←hL,hE]; rfl
  refine⟨_,_,?_,h0 c8⟩
  rw[hE]
  simp[Sem.run_bind,Question.forced,Result.andThen]
 ·have c5:L.isEmpty=false:=by simpa using hE
  have a9:0<L.size:=by
   rcases fo L.size with h|h
   ·exact absurd (Array.eq_empty_of_size_eq_zero h) hE
   ·exact h
  rw[c5,if_neg sI,Array.empty_append,Array.size_map]
  obtain⟨i,w1,hr,b2,hw⟩: ∃i w1,(choose (.mapNext L.size)).run P w= .ok i w1∧i<L.size∧(w1=w∨w1=w.drew):=by
   rw[run_choose_drew]
   by_cases hf:(Question.mapNext L.size).forced=true
   ·exact⟨0,w,by rw[if_pos hf],a9,.inl rfl⟩
   ·exact⟨_,_,by rw[if_neg hf],Z9x _ _ a9,.inr rfl⟩
  have b6:(Array.map some L)[i]? =some (some L[i]):=by simp[b2]
  have a5:w1.heap=w.heap:=by rcases hw with rfl|rfl<;>rfl
  have c3:(setObj it (.mapIter (some r) a0 (a4.push L[i].born) a0)).run P w1= .ok () {w1 with heap:=w1.heap.setIfInBounds it (.mapIter (some r) a0 (a4.push L[i].born) a0)}:=by
   simp[setObj,Sem.run,a5,hi]
  have b4:=heap_set (w:=w1) (r:=it) (o':=.mapIter (some r) a0 (a4.push L[i].born) a0) (by rw[a5]; exact hi)
  have a7: ∀b,b<w.heap.size→b≠it→(w1.heap.setIfInBounds it (.mapIter (some r) a0 (a4.push L[i].born) a0))[b]? =w.heap[b]? :=λb _ b3=>by rw[b4.2 b b3,a5]
  have c4:(w1.heap.setIfInBounds it (.mapIter (some r) a0 (a4.push L[i].born) a0)).size=w.heap.size:=by simp[a5]
  have c9:L.toList=L.toList.take i++L[i]::L.toList.drop (i+1):=by
   have h1:i<L.toList.length:=by simpa using b2
   have h2:=dm h1
   simp only[Array.getElem_toList]at h2
   rw[←h2,dc]
  have c2:r≠it:=by
   rintro rfl
   rw[hb]at hi; cases hi
  have b0:L.toList=es.toList.filter λe=>!a4.contains e.born:=by rw[←c6,Array.toList_filter]
  have b9:(L.toList.map (·.born)).Nodup:=by rw[b0]; exact(List.filter_sublist.map _).nodup hs.2.1
  refine⟨_,{w1 with heap:=w1.heap.setIfInBounds it (.mapIter (some r) a0 (a4.push L[i].born) a0)},?_,h1 (L[i].key,L[i].val) ((L.toList.take i).map λe=>(e.key,e.val)) ((L.toList.drop (i+1)).map λe=>(e.key,e.val)) _ ?_ a7 c4 ⟨by show w.heap.size≤_; rw[c4]; exact df _,?_,?_,?_,a7⟩ ⟨es,a0,a4.push L[i].born,?_,hs,b4.1,?_,?_⟩⟩
  ·simp only[Sem.run_bind,hr,Result.andThen,b6,c3]
   rfl
  ·rw[←hL]
   conv=>lhs; rw[c9]
   simp
  ·rcases hw with rfl|rfl<;>rfl
  ·rcases hw with rfl|rfl<;>rfl
  ·rcases hw with rfl|rfl<;>rfl
  ·show(w1.heap.setIfInBounds it _)[r]? =_
   rw[b4.2 r c2,a5]; exact hb
  ·rw[←ec]
   congr 1
   have e1:(es.toList.filter λe=>!(a4.push L[i].born).contains e.born)=L.toList.filter λe=>e.born != L[i].born:=by
    rw[b0,List.filter_filter]
    apply List.filter_congr
    intro x _
    rw[Array.contains_push]
    have:(L[i].born==x.born)=(x.born==L[i].born):=by rw[ep,beq_iff_eq,beq_iff_eq]; exact eq_comm
    simp only[bne,Bool.not_or]
    rw[Bool.and_comm]
    try rfl
    try rw[this]
   rw[e1]
   have:=Zyq MapEntry.born b9 (i:=i) (by rw[gq]; exact b2)
   simpa using this
  ·rintro p h
   cases h
   refine⟨L[i].born,by simp,?_⟩
   have b7:L[i]∈es.toList:=by
    have:L[i]∈L.toList:=by simp
    rw[b0]at this
    exact(jc.1 this).1
   have b5:(es.toList.find? λx=>x.born==L[i].born).isSome:=List.find?_isSome.2 ⟨_,b7,by simp⟩
   obtain⟨e,he⟩:=Option.isSome_iff_exists.1 b5
   refine⟨e,by rw[←Array.find?_toList]; exact he,?_⟩
   have h2:=js he
   have h3:=ic he
   rw[Znz (λe:MapEntry=>e.born) hs.2.1 h3 b7 (by simpa using h2)]
end
end Go.Hal
namespace Go.Hal
open Go.MapKept
def strV(v:Value):Prop:=∃s,v= .string s
theorem strT:KeyT prog 205 strV (.int .i64 0) where
 und:=⟨9,3,underlying205,Tryz.zeroValue3,λk ⟨s,h⟩ e w=>by subst h; exact run_checkKey (d:=.string) (k:=.string s) underlying9 trivial e 9999,λk ⟨s,h⟩ l hl w=>by
  subst h
  rcases findNow_spec (d:=.string) (k:=.string s) trivial l 0 (λx hx=>by obtain⟨t,ht⟩:=hl x hx; rw[ht]; trivial)with⟨h1,h2⟩|⟨j,e,h1,h2,h3⟩
  ·exact .inl ⟨h2,run_findKey underlying9 h1⟩
  ·exact .inr ⟨j,e,h2,h3,run_findKey underlying9 (by rw[jy]at h1; exact h1)⟩⟩
 stay:=λk ⟨s,h⟩=>by subst h; exact sameBits_self (d:=.string) (k:=.string s) trivial _
def keyV(n:ByteArray)(v:Ver):Value:=.agg #[.string n,.int .i64 v.ma,.int .i64 v.mi,.int .i64 v.pa]
def Zq4(x:Value):Prop:=∃n v,x=keyV n v
theorem Zsd{m:ByteArray}{v u:Ver}:keyV n v=keyV m u↔n=m∧v=u:=by
 unfold keyV
 obtain⟨a,b,c⟩:=v; obtain⟨a',b',c'⟩:=u
 simp
theorem eqKey(n m:ByteArray)(v u:Ver)(w:World):(Op.equal 95 (keyV n v) (keyV m u)).run prog w= .ok (decide (n=m∧v=u)) w:=by
 have h:(Op.equalIn (9997+3) 95 (keyV n v) (keyV m u)).run prog w= .ok ((bEq n m)&&(((v.ma==u.ma)&&((v.mi==u.mi)&&((v.pa==u.pa)&&true)))&&true)) w:=
  (eqS kR kR (fs:= [⟨ "name",9,0,false, "", "halyard/catalog",0⟩,⟨ "version",50,1,false, "", "halyard/catalog",16⟩]) kR (Zt (x:=(Value.string n)) (y:=(Value.string m)) rfl kR kR (run_equalIn_string w _ 9 n m kR) (Zt (x:=(Value.agg #[(Value.int .i64 v.ma),(Value.int .i64 v.mi),(Value.int .i64 v.pa)])) (y:=(Value.agg #[(Value.int .i64 u.ma),(Value.int .i64 u.mi),(Value.int .i64 u.pa)])) rfl kR kR (eqS kR kR (fs:= [⟨ "Major",3,0,false, "", "",0⟩,⟨ "Minor",3,1,false, "", "",8⟩,⟨ "Patch",3,2,false, "", "",16⟩]) kR (Zt (x:=(Value.int .i64 v.ma)) (y:=(Value.int .i64 u.ma)) rfl kR kR (run_equalIn_int w _ 3 .i64 .i64 v.ma u.ma kR) (Zt (x:=(Value.int .i64 v.mi)) (y:=(Value.int .i64 u.mi)) rfl kR kR (run_equalIn_int w _ 3 .i64 .i64 v.mi u.mi kR) (Zt (x:=(Value.int .i64 v.pa)) (y:=(Value.int .i64 u.pa)) rfl kR kR (run_equalIn_int w _ 3 .i64 .i64 v.pa u.pa kR) Ze4)))) Ze4)))
 have e:((bEq n m)&&(((v.ma==u.ma)&&((v.mi==u.mi)&&((v.pa==u.pa)&&true)))&&true))=decide (n=m∧v=u):=by
  rw[Zp9,Bool.and_true,ep,bx,Zap,decide_eq_true_eq,decide_eq_true_eq]
 rw[e]at h
 exact h
theorem askKey(n:ByteArray)(v:Ver)(w:World): ∀(l:List MapEntry) (i:Nat),(∀x∈l,Zq4 x.key)→((∀x∈l,x.key≠keyV n v)∧(Instr.findAsking 95 (keyV n v) l i).run prog w= .ok none w)∨
  ∃(j:Nat) (e:MapEntry),l[j]? =some e∧e.key=keyV n v∧(Instr.findAsking 95 (keyV n v) l i).run prog w= .ok (some (i+j,e.val)) w
 | [],i,_=> .inl ⟨by simp,by simp[Instr.findAsking]⟩
 |e::es,i,h=>by
  obtain⟨m,u,hk⟩:=h e (.head _)
  have hq:=eqKey n m v u w
  rw[←hk]at hq
  by_cases he:n=m∧v=u
  ·refine .inr ⟨0,e,rfl,by rw[hk]; exact Zsd.2 ⟨he.1.symm,he.2.symm⟩,?_⟩
   simp only[Instr.findAsking,Sem.run_bind,hq,Result.andThen,decide_eq_true he]
   rfl
  ·have a4:e.key≠keyV n v:=λq=>by
    rw[hk]at q
    have:=Zsd.1 q
    exact he ⟨this.1.symm,this.2.symm⟩
   have a0:(Instr.findAsking 95 (keyV n v) (e::es) i).run prog w=(Instr.findAsking 95 (keyV n v) es (i+1)).run prog w:=by
    simp only[Instr.findAsking,Sem.run_bind,hq,Result.andThen,decide_eq_false he]
    rfl
   rcases askKey n v w es (i+1) (λx hx=>h x (.tail _ hx))with⟨h1,h2⟩|⟨j,e',h1,h2,h3⟩
   ·exact .inl ⟨λx hx=>by
     cases hx with
     |head=>exact a4
     |tail _ hx=>exact h1 x hx,by rw[a0]; exact h2⟩
   ·exact .inr ⟨j+1,e',by simpa using h1,h2,by rw[a0,h3,show i+1+j=i+(j+1) by omega]⟩
def packZ:Value:=.agg #[.string ⟨#[]⟩,.int .i64 0,.int .i64 0,.int .i64 0,.slice none 0 0,.slice none 0 0,.slice none 0 0]
theorem Z9v(v:Ver)(e:Bool)(w:World):(Instr.checkKey e 9999 50 (.agg #[.int .i64 v.ma,.int .i64 v.mi,.int .i64 v.pa])).run prog w= .ok () w:=by
 have hi: ∀x:Int,(Instr.checkKey e 9998 3 (.int .i64 x)).run prog w= .ok () w:=λx=>run_checkKey (d:=.int .i64) (k:=.int .i64 x) underlying3 rfl e 9997
 rw[Instr.checkKey]
 simp only[Sem.run_bind,run_underlying underlying50,Result.andThen]
 simp[Sem.run_bind,Result.andThen,part,run_underlying underlying3,hi]
theorem Z9u(n:ByteArray)(v:Ver)(e:Bool)(w:World):(Instr.checkKey e 10000 95 (keyV n v)).run prog w= .ok () w:=by
 have hs:(Instr.checkKey e 9999 9 (.string n)).run prog w= .ok () w:=run_checkKey (d:=.string) (k:=.string n) underlying9 trivial e 9998
 unfold keyV
 rw[Instr.checkKey]
 simp only[Sem.run_bind,run_underlying underlying95,Result.andThen]
 simp[Sem.run_bind,Result.andThen,part,run_underlying underlying9,run_underlying underlying50,hs,Z9v v e w]
theorem keyT:KeyT prog 90 Zq4 packZ where
 und:=⟨95,53,underlying90,Tryz.zeroValue53,λk ⟨n,v,h⟩ e w=>by subst h; exact Z9u n v e w,λk ⟨n,v,h⟩ l hl w=>by
  subst h
  have a0: ∀l:List MapEntry,(Instr.findKey 95 (keyV n v) l).run prog w=(Instr.findAsking 95 (keyV n v) l 0).run prog w:=by
   intro l
   cases l with
   |nil=>simp[Instr.findKey,Instr.findNow,Instr.findAsking,run_underlying underlying95,Sem.run_bind,Result.andThen]
   |cons e es=>simp[Instr.findKey,Instr.findNow,Instr.sameNow,run_underlying underlying95,Sem.run_bind,Result.andThen]
  rw[a0]
  rcases askKey n v w l 0 hl with h|⟨j,e,h1,h2,h3⟩
  ·exact .inl h
  ·exact .inr ⟨j,e,h1,h2,by rw[jy]at h3; exact h3⟩⟩
 stay:=λk ⟨n,v,h⟩=>by subst h; simp[keyV,Instr.sameBits,Go.MapKept.bytes_beq]
end Go.Hal
namespace Go.Hal
theorem Zlt{l:List Dep}(hs:SlR depE w S s l)(hR: ∀w',Ext w w'→R (Zs l) w'):SE.Zh5 s w R:=by
 unfold SE.Zh5
 have hl:=hs.len
 refine loop1.up hs.max (λi w'=>Ext w w'∧Zcz none (l.take i)=true) ⟨Ext.refl _,rfl⟩ λi w0 c1 hi ⟨x0,hI⟩ hn=>⟨λb3=>?_,λb8=>?_⟩
 ·have a4:i<l.length:=oM
  obtain⟨ad,t,ha,_,b4,hr,hc⟩:=Zhw hs a4
  have b5:=Ztj a4 hI
  refine⟨ad,⟨ha,oM,b3⟩,_,t,hc _ xT,newS.intro λa w1 x1 hb b7 _=>stw0.intro hb sI λb6 b2 _ a5=>bnd.drew λw2 x2=>?_⟩
  have c2:Ext w0 b6:=b2.ext x1 oM
  refine⟨_,a5.at0 xT rfl,SE.Zep.go (scanName_se b4 λw3 x3=>⟨_,rfl,bound ?_⟩)⟩
  refine⟨t,λ_=>a5.at1 xT rfl,gCall.intro (Zaa l[i].range) (λ_ q hq=>SE.Zij.go (spanMay_se (hr.ext xT) λw' hx=>⟨_,rfl,hq _ hx⟩)) λt2 w4 x4 a7=>bound ?_⟩
  refine⟨t,λ_=>a5.at1 xT rfl,bound (bound ?_)⟩
  have a6: ∀h0:0<i,Zok none (l.take i)=some (l[i - 1]'oM).name:=λh0=>by
   have:=Zq6 (l:=l) (n:=i - 1) oM
   rw[←this]; congr 2; omega
  have hd: ∃(a0:Addr) (u:ByteArray),(decide ((0:Int)<(i:Int))=true→(s.a=some a0∧(0:Int)≤Za ((i:Int) - 1)∧Za ((i:Int) - 1)<(s.len:Int))∧ldc w4 (a0.add ((Za ((i:Int) - 1)).toNat*2)) [.string u]∧Zok none (l.take i)=some u):=by
   by_cases h0:0<i
   ·have ew:=Zxv h0 hi hs.max
    obtain⟨a8,t',a9,_,b9,_,b0⟩:=Zhw hs (n:=i - 1) oM
    exact⟨a8,_,λ_=>⟨by rw[ew]; exact⟨a9,oM,oM⟩,by rw[ew]; exact(b0 _ xT).pre rfl,a6 h0⟩⟩
   ·exact⟨ad,⟨#[]⟩,λh=>by simp at h; omega⟩
  obtain⟨a0,u,hu⟩:=hd
  have hg: ∀{b:Bool},(!b&&decide ((0:Int)<(i:Int)))=true→decide ((0:Int)<(i:Int))=true:=λh=>by simp only[bx]at h; exact h.2
  refine⟨a0,λhb=>(hu (hg hb)).1,u,λhb=>(hu (hg hb)).2.1,_,λ_=>a5.at0 xT rfl,?_⟩
  have e:((((!Zn l[i].name)||(!t2))||((t.len:Int)==0))||(decide ((0:Int)<(i:Int))&&(!bLt u l[i].name)))= !Zcz none (l.take (i+1)):=by
   rw[b5,dpOk]
   have e0:((t.len:Int)==0)=l[i].range.isEmpty:=by
    rw[hr.len]
    cases l[i].range<;>simp
    omega
   rw[e0]
   cases h1:Zn l[i].name
   ·simp
   ·rw[h1]at a7
    rw[a7 rfl]
    cases h2:Zaa l[i].range
    ·simp
    ·cases h3:l[i].range.isEmpty
     ·by_cases h0:0<i
      ·have hb:decide ((0:Int)<(i:Int))=true:=by simpa using h0
       rw[hb,(hu hb).2.2]
       simp[Zkc]
      ·have hb:decide ((0:Int)<(i:Int))=false:=by simp; omega
       have b1:i=0:=oM
       subst b1
       simp[Zok,Zkc]
     ·simp
  rw[e]
  refine⟨λh=>?_,λh=>hn a4 _ ⟨xT,by simpa using h⟩⟩
  rw[←Zl5 (i:=i+1) (by simpa using h)]; exact hR _ xT
 ·have:i=l.length:=oM
  rw[this,cu]at hI
  have e:decide ((s.len:Int)≤16)=Zs l:=by
   unfold Zs
   rw[hI,dw,decide_eq_decide]; omega
  rw[e]; exact hR _ xT
def ones(ns:List ByteArray):List (Value×Value):=ns.map λn=>(.string n,.int .i64 1)
theorem MapR.one{K:Value→Prop}{m:List (Value×Value)}(h:MapR K w r m){k u v:Value}(h1:(k,u)∈m)(h2:(k,v)∈m):u=v:=by
 have:=Znz Prod.fst h.keys.1 h1 h2 rfl
 exact congrArg Prod.snd this
theorem Zr6{l:List Dep}{ns:List ByteArray}{k:World→Prop}(hs:SlR depE w0 S s l)(x0:Ext w0 w)(hr:w0.heap.size≤r)(hm:MapR strV w r (ones ns))(e1:ns.Nodup)
  (hf: ∀w',Ext w0 w'→ ¬(ns++l.map (·.name)).Nodup→R false w') (hk: ∀w',Ext w0 w'→(ns++l.map (·.name)).Nodup→MapR strV w' r (ones (ns++l.map (·.name)))→k w'):
  loop1 0 w λb0 c9 d3=>((b0<(s.len:Int)→ ∃(d0:Addr),(s.a=some d0∧(0:Int)≤b0∧b0<(s.len:Int))∧ ∃(a4:ByteArray) (a0:Sl),(ldc c9 (d0.add (b0.toNat*2)) [(Value.string a4),(Sl.v a0)])∧newS c9 [(Value.string (ByteArray.mk #[])),(Sl.v Sl.nil)] 202 λa e5=>stw e5 a [(Value.string a4),(Sl.v a0)] λd7=>∃(c7:ByteArray),(ldc d7 a [(Value.string c7)])∧semS prog (Instr.lookup 205 (Value.map (some r)) (Value.string c7) false) d7 λe3 d6=>∃(d4:Int),e3=(.int .i64 d4)∧semU prog (Instr.mapUpdate 205 (Value.map (some r)) (Value.string c7) (.int .i64 (Za (d4+1)))) d6 λc1=>∃(d5:ByteArray),(ldc c1 a [(Value.string d5)])∧semS prog (Instr.lookup 205 (Value.map (some r)) (Value.string d5) false) c1 λe4 c2=>∃(c8:Int),e4=(.int .i64 c8)∧((1<c8→R false c2)∧(¬(1<c8)→d3 (Za (b0+1)) c2)))∧(¬(b0<(s.len:Int))→k c9)):=by
 have hl:=hs.len
 refine loop1.up hs.max (λi w'=>Ext w0 w'∧(ns++(l.take i).map (·.name)).Nodup∧MapR strV w' r (ones (ns++(l.take i).map (·.name)))) ⟨x0,by simpa using e1,by simpa using hm⟩ λi w1 f2 hi ⟨x1,hI,hM⟩ hn=>⟨λd9=>?_,λe8=>?_⟩
 ·have a9:i<l.length:=oM
  obtain⟨ad,t,ha,_,f0,f1,hc⟩:=Zhw hs a9
  refine⟨ad,⟨ha,oM,d9⟩,_,t,hc _ xT,newS.intro λa w2 x2 hb e7 _=>stw0.intro hb sI λw3 b3 _ c4=>⟨_,c4.ldc.pre rfl,?_⟩⟩
  have x3:Ext w1 w3:=b3.ext x2 oM
  have d8:Ext w0 w3:=x1.trans x3
  have c3:=hM.ext x3
  have e9:=hM.lt
  have e6:=x2.size
  have a5:(l.take (i+1)).map (·.name)=(l.take i).map (·.name)++ [l[i].name]:=by rw[bu a9,ec]; rfl
  rcases Ziy strT c3 (k:=.string l[i].name) ⟨_,rfl⟩with⟨b9,b5⟩|⟨v,d1,b5⟩
  ·refine⟨_,_,b5 false,0,rfl,?_⟩
   refine Zrt strT c3 ⟨_,rfl⟩ b9 λw4 b4 e2 b6=>?_
   have c5:BoxAt w4 a [.string l[i].name,Sl.v t]:=b4.box c4 oM
   have c6:Ext w0 w4:=b4.ext d8 hr
   have b1:MapR strV w4 r (ones (ns++(l.take (i+1)).map (·.name))):=by
    rw[a5,←cc,ones,ec]
    exact b6
   refine⟨_,c5.ldc.pre rfl,?_⟩
   have a6:(Value.string l[i].name,Value.int .i64 1)∈ones (ns++(l.take (i+1)).map (·.name)):=by
    rw[a5,ones]; simp
   rcases Ziy strT b1 (k:=.string l[i].name) ⟨_,rfl⟩with⟨a7,_⟩|⟨v',b2,a8⟩
   ·exact absurd rfl (a7 _ a6)
   ·have hv:v'= .int .i64 1:=b1.one b2 a6
    subst hv
    refine⟨_,_,a8 false,1,rfl,λh=>absurd h dC,λ_=>hn a9 _ ⟨c6,?_,b1⟩⟩
    rw[a5,←cc,gi]
    refine⟨hI,by simp,λx hx y hy=>?_⟩
    simp only[ci]at hy
    subst hy
    intro e
    subst e
    exact b9 (.string l[i].name,.int .i64 1) (fh.2 ⟨_,hx,rfl⟩) rfl
  ·obtain⟨n,e0,b7⟩:=fh.1 d1
   simp only[Prod.mk.injEq,Value.string.injEq]at b7
   obtain⟨b7,hv⟩:=b7
   subst hv
   refine⟨_,_,b5 false,1,rfl,?_⟩
   refine Zzt strT c3 ⟨_,rfl⟩ d1 λw4 m' b4 e2 b6 a6 _=> ?_
   have c5:BoxAt w4 a [.string l[i].name,Sl.v t]:=b4.box c4 oM
   have c6:Ext w0 w4:=b4.ext d8 hr
   refine⟨_,c5.ldc.pre rfl,?_⟩
   rcases Ziy strT b6 (k:=.string l[i].name) ⟨_,rfl⟩with⟨a7,_⟩|⟨v',b2,a8⟩
   ·exact absurd rfl (a7 _ a6)
   ·have hv:v'= .int .i64 2:=b6.one b2 a6
    subst hv
    refine⟨_,_,a8 false,2,rfl,λ_=>hf _ c6 ?_,λh=>absurd dC h⟩
    intro d2
    have b8:l.map (·.name)=(l.take i).map (·.name)++(l[i].name::(l.drop (i+1)).map (·.name)):=by
     conv=>lhs; rw[←dc i l,dm a9,ec,fg]
    rw[b8,←cc,gi]at d2
    exact d2.2.2 n e0 l[i].name sI b7
 ·have:i=l.length:=oM
  rw[this,cu]at hI hM
  exact hk _ x1 hI hM
theorem Z6t(hb:BoxAt w a [Sl.v d,Sl.v e,Sl.v o]):(i=0→ldc w (a.add (i*1)) [Sl.v d])∧(i=1→ldc w (a.add (i*1)) [Sl.v e])∧(i=2→ldc w (a.add (i*1)) [Sl.v o]):=
 ⟨λh=>by subst h; exact hb.ldc.mid rfl,λh=>by subst h; exact hb.ldc.mid rfl,λh=>by subst h; exact hb.ldc.mid rfl⟩
theorem Zuh{ld le lo:List Dep}(hb:BoxAt w a [Sl.v d,Sl.v e,Sl.v o])(hd:SlR depE w S d ld)(he:SlR depE w S e le)(ho:SlR depE w S o lo)
  (hR: ∀w',Ext w w'→R (decide ((ld++le++lo).map (·.name)).Nodup) w'):SE.Zi1 (Sl.mk (some a) 3 3) w R:=by
 unfold SE.Zi1
 refine Zjq (K:=strV) λr w1 x1 b4 b1=>⟨some r,rfl,?_⟩
 have a5: ∀w',Ext w w'→ ∀l2,¬l2.Nodup→(∃t,(ld++le++lo).map (·.name)=l2++t)→R false w':=λw' hx l2 hn ⟨t,ht⟩=>by
  have:decide ((ld++le++lo).map (·.name)).Nodup=false:=decide_eq_false λh=>hn (by rw[ht,gi]at h; exact h.1)
  rw[←this]; exact hR _ hx
 refine loop1.up (N:=3) dC (λi w'=>Ext w w'∧ ∃ns:List ByteArray,ns.Nodup∧MapR strV w' r (ones ns)∧(i=0→ns= [])∧(i=1→ns=ld.map (·.name))∧(i=2→ns=(ld++le).map (·.name))∧(i=3→ns=(ld++le++lo).map (·.name)))
  ⟨x1,[],List.nodup_nil,b1,λ_=>rfl,λh=>by omega,λh=>by omega,λh=>by omega⟩ λi w2 b5 hi ⟨x2,ns,a7,hM,h0,h1,h2,h3⟩ hn=>⟨λb0=>?_,λb3=>?_⟩
 ·have b2:i<3:=by
   have:((Sl.mk (some a) 3 3).len:Int)=3:=rfl
   omega
  have a9:=Z6t (i:=i) (hb.ext x2)
  have hr:w.heap.size≤r:=oM
  have a8:i=0∨i=1∨i=2:=oM
  rcases a8 with rfl|rfl|rfl
  ·refine⟨a,⟨rfl,oM,b0⟩,d,a9.1 rfl,Zr6 hd x2 hr hM a7 (λw' hx a6=>?_) λw' hx a0 a4=>hn oM _ ⟨hx,_,a0,a4,λh=>by omega,λ_=> ?_,λh=>by omega,λh=>by omega⟩⟩
   ·exact a5 _ hx _ a6 ⟨(le++lo).map (·.name),by rw[h0 rfl]; simp⟩
   ·rw[h0 rfl]; simp
  ·refine⟨a,⟨rfl,oM,b0⟩,e,a9.2.1 rfl,Zr6 he x2 hr hM a7 (λw' hx a6=>?_) λw' hx a0 a4=>hn oM _ ⟨hx,_,a0,a4,λh=>by omega,λh=>by omega,λh=>?_,λh=>by omega⟩⟩
   ·exact a5 _ hx _ a6 ⟨lo.map (·.name),by rw[h1 rfl]; simp⟩
   ·rw[h1 rfl]; simp
  ·refine⟨a,⟨rfl,oM,b0⟩,o,a9.2.2 rfl,Zr6 ho x2 hr hM a7 (λw' hx a6=>?_) λw' hx a0 a4=>hn oM _ ⟨hx,_,a0,a4,λh=>by omega,λh=>by omega,λh=>by omega,λh=>?_⟩⟩
   ·exact a5 _ hx _ a6 ⟨[],by rw[h2 rfl]; simp⟩
   ·rw[h2 rfl]; simp
 ·have:i=3:=by
   have:((Sl.mk (some a) 3 3).len:Int)=3:=rfl
   omega
  have:decide ((ld++le++lo).map (·.name)).Nodup=true:=decide_eq_true (by rw[←h3 this]; exact a7)
  rw[←this]; exact hR _ x2
def Bld(b:Nat)(l:List UInt8)(w:World):Prop:=Lib.IsBuilderF 129 5 b b (Lib.byteCells l) w
theorem Z5l{base:Nat}{e:TypeId}{size:Nat}{v:Value}{n:Nat}{xs:List Value}(h:w.ownsRowF base e size v n xs)(hx:Ext w w'):w'.ownsRowF base e size v n xs:=by
 obtain⟨h1,h2⟩:=h
 refine⟨h1,?_⟩
 rcases h2 with h2|⟨g,cap,a0,fz,a,b,c,d⟩
 ·exact .inl h2
 ·exact .inr ⟨g,cap,a0,fz,a,b,(hx.block (de.1 c).1).trans c,d⟩
theorem Zs5{T e:TypeId}{B:Nat}{p:Value}{bs:List Value}(h:Lib.BuilderAtF T e B b p bs w)(hx:Ext w w'):Lib.BuilderAtF T e B b p bs w':=by
 obtain⟨h1,v,h2,h3,h4⟩:=h
 exact⟨h1,v,(hx.block (de.1 h2).1).trans h2,Z5l h3 hx,h4⟩
theorem Bld.ext{l:List UInt8}(h:Bld b l w)(hx:Ext w w'):Bld b l w':=h.imp (λh=>Zs5 h hx) (λh=>Zs5 h hx)
theorem Zr2(w:World):Bld w.heap.size [] (w.alloc (.cells [Value.pointer none,Sl.v Sl.nil].toArray 129)):=
 .inl ⟨df _,_,heap_alloc_new w _,⟨rfl,.inl ⟨rfl,rfl⟩⟩,by simp[Value.ownBlock,Sl.v,Sl.nil]⟩
theorem bldX:Builder.Extra prog Tryz.layJo_ren:={sizeBuilder:=by kernel_rfl,liesBuilder:=by kernel_rfl,t5:=underlying5,a5:=Tryz.isAgg5,z5:=Tryz.sizeOf5,v5:=Tryz.zeroValue5,infoByte:=by kernel_rfl,cellsByte:=by kernel_rfl,sizeByte:=by kernel_rfl,neB5:=by decide}
theorem Zhl{l m:List UInt8}{k:Value→World→Prop}(hB:Bld b l w)(h0:w0.heap.size=b)(x0:Ext w0 w)(hl:l.length+m.length≤140737488355328)
  (hk: ∀w' n,Ext w0 w'→Bld b (l++m) w'→k (.tuple #[.int .i64 n,.nilIface]) w'):callS prog 53 [.pointer (some ⟨b,0,none⟩),.string (B m)] w k:=by
 have h:=Any.Builder_WriteString_k {Tryz.layJo with} bldX b b (Lib.byteCells l) (B m) w hB (by rw[Lib.byteCells_length,Zk]; exact hl) (by have:=x0.size; omega)
 refine h.mono λe w' ⟨he,hb,a0,_⟩=>⟨_,he,hk w' _ (x0.trans' (by rw[h0]; exact a0)) (.inr ?_)⟩
 have e:Lib.byteCells l++Lib.strCells (B m)=Lib.byteCells (l++m):=by rw[Lib.strCells_eq,Zlz]; simp[Lib.byteCells]
 rw[e]at hb; exact hb
theorem Zji{l:List UInt8}{k:Value→World→Prop}(hB:Bld b l w)(h0:w0.heap.size=b)(x0:Ext w0 w)(hk: ∀w',Ext w0 w'→k (.string (B l)) w'):callS prog 54 [.pointer (some ⟨b,0,none⟩)] w k:=by
 have h:=Any.Builder_String_any_k {Tryz.layJo with} bldX b b l w hB (by have:=x0.size; omega)
 exact h.mono λe w' ⟨he,_,a0,_⟩=>⟨_,he,hk w' (x0.trans' (by rw[h0]; exact a0))⟩
theorem Zkq{wd t0:List UInt8}{l:List Dep}{R:World→Prop}(ht:Tab w0)(hw:wd.length≤8)(hm:Zs l=true)(h0:w0.heap.size=b)(x0:Ext w0 w)(hB:Bld b t0 w)(hs:SlR depE w0 S s l)(b1:t0.length≤1000000)
  (hR: ∀w',Ext w0 w'→Bld b (t0++Zbh wd l) w'→R w'):SE.Zgl (some ⟨b,0,none⟩) (B wd) s w R:=by
 unfold SE.Zgl
 have hl:=hs.len
 obtain⟨b2,a6⟩:=Zr hm
 refine loop1.up hs.max (λi w'=>Ext w0 w'∧Bld b (t0++Zbh wd (l.take i)) w') ⟨x0,by simpa[Zbh]using hB⟩ λi w1 b8 hi ⟨x1,hI⟩ hn=>⟨λa8=>?_,λb5=>?_⟩
 ·have a0:i<l.length:=oM
  obtain⟨ad,t,ha,_,b7,hr,hc⟩:=Zhw hs a0
  have hd:=a6 _ (cj a0)
  have h1:=Zb9 hw (l:=l.take i) λd hd=>(a6 d (iw hd)).1
  rw[cd,gw oM]at h1
  have h2:=Zdo hd.1
  have h3:=Zhi l[i].range
  refine⟨ad,⟨ha,oM,a8⟩,_,t,hc _ xT,newS.intro λa w2 x2 hb b4 _=>stw0.intro hb sI λa9 b3 _ a5=>bnd.drew λw3 x3=>?_⟩
  have b0:Ext w1 a9:=b3.ext x2 oM
  have a4:Ext w1 w3:=b0.trans x3
  rw[Zee]
  refine⟨by rw[Zk,Za7,Zw]; simp; omega,_,a5.at0 xT rfl,?_⟩
  rw[ba_B l[i].name,Zhc,Zee]
  refine⟨by rw[Zk,Zk,Zw]; simp; omega,by rw[Zk,Za7,Zw]; simp; omega,t,a5.at1 xT rfl,callX.intro (SE.Zhs.go (Zn7 (ht.ext (x1.trans a4)) (hr.ext (x1.trans a4)) λw4 x4=>⟨x4,_,rfl,?_⟩))⟩
  rw[Zhc,Zee]
  have b6:(((((wd++ [32])++l[i].name.toList)++ [32])++Zbp l[i].range)++ [10]).length≤2030:=by simp; omega
  refine⟨by rw[Zk,Zk,Zw]; simp; omega,by rw[Zk,Za7,Zw]; simp; omega,Zhl (m:=(((((wd++ [32])++l[i].name.toList)++ [32])++Zbp l[i].range)++ [10])) (hI.ext (a4.trans x4)) h0 (x1.trans (a4.trans x4)) (by rw[br]; omega) λw5 n x5 a7=>⟨_,_,rfl,hn a0 _ ⟨x5,?_⟩⟩⟩
  rw[bu a0,Zjk,Zlp,←cc]
  exact a7
 ·have:i=l.length:=oM
  rw[this,cu]at hI
  exact hR _ x1 hI
theorem Zwf{p:Pack}{R:ByteArray→World→Prop}(ht:Tab w)(hm:Zdk p=true)(hd:SlR depE w S d p.deps)(he:SlR depE w S e p.peers)(ho:SlR depE w S o p.opt)
  (hR: ∀w',Ext w w'→R (B (Zig p)) w'):SE.Zks p.name p.v.ma p.v.mi p.v.pa d e o w R:=by
 unfold SE.Zks
 unfold Zdk at hm
 simp only[bx]at hm
 obtain⟨⟨⟨⟨hn,hv⟩,h1⟩,h2⟩,h3⟩:=hm
 have n1:=Zr h1; have n2:=Zr h2; have n3:=Zr h3
 have l1:=Zb9 (word:=wNeeds) dC λd hd=>(n1.2 d hd).1
 have l2:=Zb9 (word:=Zqb) dC λd hd=>(n2.2 d hd).1
 have l3:=Zb9 (word:=wLikes) dC λd hd=>(n3.2 d hd).1
 have b1:=Zdo hn
 have b2:=Zek p.v
 refine newS.intro λ_ w1 x1 hb _ _=> ?_
 intro a1 w2 b0 a5
 subst b0
 have x2:Ext w1 w2:=a5▸Ext.alloc _ _
 have a6:Bld w1.heap.size [] w2:=a5▸Zr2 w1
 refine bnd.drew λw3 x3=>?_
 have a0:Ext w1 w3:=x2.trans x3
 have t1:Tab w1:=ht.ext x1
 refine⟨_,hb.at0 a0 rfl,?_⟩
 rw[ba_B p.name]
 simp only[Zip,Zee]
 refine⟨by rw[Za7,Zk,Zw]; simp; omega,by rw[Zk,Za7,Zw]; simp; omega,?_⟩
 refine⟨_,_,_,hb.at1 a0 rfl,callX.intro (SE.Zet.go (versPrint_se (v:=p.v) (t1.ext a0) λw4 x4=>⟨x4,_,rfl,?_⟩))⟩
 simp only[Zhc,Zee]
 have hh:=Ztz hn p.v
 refine⟨by rw[Zk,Zk,Zw]; simp; omega,by rw[Zk,Za7,Zw]; simp; omega,Zhl (m:=Zk4 p.name p.v) (a6.ext (x3.trans x4)) rfl (a0.trans x4) (by simp; omega) λw5 n5 x5 a4=>⟨_,_,rfl,?_⟩⟩
 rw[em]at a4
 refine⟨d,hb.at1 x5 rfl,SE.Zgl.go (word:=B wNeeds) (Zkq t1 dC h1 rfl x5 a4 (hd.ext x1) oM λw6 x6 a7=>⟨rfl,?_⟩)⟩
 refine⟨e,hb.at1 x6 rfl,SE.Zgl.go (word:=B Zqb) (Zkq t1 dC h2 rfl x6 a7 (he.ext x1) (by simp; omega) λw7 x7 a8=>⟨rfl,?_⟩)⟩
 refine⟨o,hb.at1 x7 rfl,SE.Zgl.go (word:=B wLikes) (Zkq t1 dC h3 rfl x7 a8 (ho.ext x1) (by simp; omega) λw8 x8 a9=>⟨rfl,?_⟩)⟩
 exact Zji a9 rfl x8 λw9 x9=>⟨_,rfl,hR _ (x1.trans x9)⟩
theorem Znl{p:Pack}(ht:Tab w)(hN:Str p.name)(hd:SlR depE w S d p.deps)(he:SlR depE w S e p.peers)(ho:SlR depE w S o p.opt)
  (hR: ∀w',Ext w w'→R (Zbb p) w'):SE.Zjr p.name p.v.ma p.v.mi p.v.pa d e o w R:=by
 unfold SE.Zjr
 refine newS.intro λ_ w1 x1 hb _ _=> ?_
 refine⟨_,lD,?_⟩
 refine SE.Zep.go (scanName_se hN λw2 x2=>⟨_,rfl,?_⟩)
 refine⟨p.v.ma,p.v.mi,p.v.pa,λ_=>hb.at1 xT rfl,gCall.intro p.v.may (λ_ q hq=>SE.Zil.go (Zle (v:=p.v) λw' hx=>⟨_,rfl,hq _ hx⟩)) λt1 w3 x3 a6=>bound ?_⟩
 refine⟨d,λ_=>hb.at1 xT rfl,gCall.intro (Zs p.deps) (λ_ q hq=>SE.Zh5.go (Zlt (hd.ext xT) λw' hx=>⟨_,rfl,hq _ hx⟩)) λt2 w4 x4 a5=>bound ?_⟩
 refine⟨e,λ_=>hb.at1 xT rfl,gCall.intro (Zs p.peers) (λ_ q hq=>SE.Zh5.go (Zlt (he.ext xT) λw' hx=>⟨_,rfl,hq _ hx⟩)) λt3 w5 x5 a4=>bound ?_⟩
 refine⟨o,λ_=>hb.at1 xT rfl,gCall.intro (Zs p.opt) (λ_ q hq=>SE.Zh5.go (Zlt (ho.ext xT) λw' hx=>⟨_,rfl,hq _ hx⟩)) λt4 w6 x6 a0=>?_⟩
 have e1:((((Zn p.name&&t1)&&t2)&&t3)&&t4)=Zdk p:=by
  unfold Zdk
  cases h1:Zn p.name
  ·simp
  rw[h1]at a6 a5 a4 a0
  rw[a6 rfl]at a5 a4 a0 ⊢
  cases h2:p.v.may
  ·simp
  rw[h2]at a5 a4 a0
  rw[a5 rfl]at a4 a0 ⊢
  cases h3:Zs p.deps
  ·simp
  rw[h3]at a4 a0
  rw[a4 rfl]at a0 ⊢
  cases h4:Zs p.peers
  ·simp
  rw[h4]at a0
  rw[a0 rfl]
 rw[e1]
 refine bound ⟨d,λ_=>hb.at1 xT rfl,e,λ_=>hb.at1 xT rfl,o,λ_=>hb.at1 xT rfl,?_⟩
 cases hm:Zdk p
 ·have:Zbb p=false:=by unfold Zbb; rw[hm]; rfl
  rw[this]at hR
  refine⟨λh=>by(cases h),λ_=>⟨λh=>by(cases h),λ_=>bound ?_⟩⟩
  refine⟨p.name,p.v.ma,p.v.mi,p.v.pa,d,e,o,λh=>by(cases h),⟨λh=>by(cases h),λ_=>hR _ xT⟩⟩
 ·refine⟨λ_=>newS.intro λa w7 x7 a7 _ _=>⟨λ_=>SE.Zi1.go (Zuh a7 (hd.ext xT) (he.ext xT) (ho.ext xT) λw8 x8=>⟨_,rfl,bound ?_⟩),λh=>by(cases h)⟩,λh=>by(cases h)⟩
  rw[Zz9 hm]
  refine⟨p.name,p.v.ma,p.v.mi,p.v.pa,d,e,o,λ_=>hb.at0 xT rfl,gCall.intro (B (Zig p)) (λ_ q hq=>SE.Zks.go (Zwf (ht.ext xT) hm (hd.ext xT) (he.ext xT) (ho.ext xT) λw' hx=>⟨_,rfl,hq _ hx⟩)) λt7 a9 b0 a8=>?_⟩
  have e3:((true&&Zl1 p)&&decide ((t7.size:Int)≤4096))=Zbb p:=by
   unfold Zbb
   rw[hm,dw,dw]
   cases h1:Zl1 p
   ·rfl
   rw[a8 (by rw[h1]; rfl),Zk,dw,dw,decide_eq_decide]; omega
  rw[e3]; exact hR _ xT
theorem OwnS.flat{α:Type}{E:Enc α}{T:TypeId}{l:List α}(hf: ∀{w S S' x cs},E.rep w S x cs→E.rep w S' x cs)(h:OwnS E T w lo S s l):OwnS E T w lo None' s l:=by
 obtain⟨css,ho,hl,hr⟩:=h.row
 exact⟨⟨css,ho,hl,λi x hx=>let⟨cs,a,b⟩:=hr i x hx;⟨cs,a,hf b⟩⟩,h.len,λ_ h=>h.elim,λ_ _ h=>h.elim⟩
theorem OwnS.empty{α:Type}{E:Enc α}{T:TypeId}(w:World):OwnS E T (w.alloc (.cells #[] T)) w.heap.size None' ⟨some ⟨w.heap.size,0,none⟩,0,0⟩ ([]:List α):=
 ⟨⟨[],⟨by simp,.inr ⟨w.heap.size,0,#[],rfl,df _,heap_alloc_new w _,df _,eh _,by simp,by simp⟩⟩,rfl,λi x h=>by simp at h⟩,rfl,λ_ h=>h.elim,λ_ _ h=>h.elim⟩
theorem Z6i:ApT prog 200 210 6 48:=Zhv (z:=.agg #[.int .i64 0,.int .i64 0,.int .i64 0,.int .i64 0,.int .i64 0,.int .i64 0]) kR kR rfl dC
theorem Zkg{R:Sl→World→Prop}(hS:Old S w)(hs:SlR spanE w S s l)(hR: ∀t w',Ext w w'→SlP spanE w' (λb=>w.heap.size≤b∧b<w'.heap.size) t l→R t w'):SE.Z6 s w R:=by
 unfold SE.Z6
 refine⟨λh=>?_,λh=>?_⟩
 ·have:l= []:=by
   rcases hs.2.2.2.2 with h0|⟨ad,h1,_⟩
   ·exact h0
   ·rw[h]at h1; cases h1
  subst this
  exact hR _ _ xR SlP.nil
 ·intro a w1 ha hw
  subst ha
  have x1:Ext w w1:=hw▸Ext.alloc _ _
  have own:OwnS spanE 210 w1 w.heap.size None' ⟨some ⟨w.heap.size,0,none⟩,0,0⟩ []:=hw▸OwnS.empty w
  refine own.appAll Z6i x1.size (hs.ext x1) (hS.ext x1.size) (λad ha hb=>?_) (by simpa using hs.2.2.2.1) (by simpa using hs.max) λr w2 a0 bel _ _=> ?_
  ·simp only[cw]at ha
   subst ha
   have:=hS _ hb
   simp at this
  ·rw[em]at a0
   have a4:=a0.flat λh=>h
   exact hR _ _ (x1.trans' bel) ((a4.readP hs.2.2.2.1 hs.max).mono λb hb=>by
    rcases hb with hb|⟨ad,ha,rfl⟩
    ·exact hb.elim
    ·have:=a4.block ha; exact⟨this.1,this.2.1⟩)
theorem Zo6{l:List Dep}{R:Sl→World→Prop}(hS:Old S w)(hs:SlR depE w S s l)(hR: ∀t w',Ext w w'→SlP depP w' (λb=>w.heap.size≤b∧b<w'.heap.size) t l→R t w'):SE.Zfr s w R:=by
 unfold SE.Zfr
 have hl:=hs.len
 refine loop2.up hs.max (λout i w'=>Ext w w'∧ ∃Q,OwnS depP 202 w' w.heap.size Q out (l.take i)∧ ∀b,Q b→w.heap.size≤b) ⟨Ext.refl _,_,OwnS.zero _,λ_ h=>h.elim⟩ λout i w0 c4 hi ⟨x0,Q,own,hQ⟩ hn=>⟨λb4=>?_,λc2=>?_⟩
 ·have a0:i<l.length:=oM
  obtain⟨ad,t,ha,_,b5,hr,hc⟩:=Zhw hs a0
  refine⟨ad,⟨ha,oM,b4⟩,_,t,hc _ xT,newS.intro λa w1 x1 hb c1 _=>stw0.intro hb sI λb7 b2 _ a8=>bnd.drew λw2 x2=>?_⟩
  have b8:Ext w0 b7:=b2.ext x1 oM
  have a4:Ext w0 w2:=b8.trans x2
  refine⟨_,a8.at0 xT rfl,t,a8.at1 xT rfl,callX.intro (SE.Z6.go (Zkg (hS.ext (x0.trans a4).size) (hr.ext (x0.trans a4)) λu w3 x3 hu=>⟨x3,_,rfl,?_⟩))⟩
  refine newS.intro λa7 w4 x4 b3 b9 c3=>?_
  have a6:Ext w0 w4:=a4.trans (x3.trans x4)
  have s2:=(x0.trans a4).size
  have c5:=a4.size
  have s4:=x4.size
  have b6:=(hu.ext x4).mono (S':=λb=>w2.heap.size≤b∧b<w4.heap.size) λb hb=>⟨hb.1,oM⟩
  have a5:(l.take i).length=i:=by rw[cd]; omega
  have h4:=hs.2.2.2.1
  have b0:depE.bytes=40:=rfl
  have b1:depP.bytes=40:=rfl
  refine(own.ext a6).push Z3m (x0.trans a6).size (x:=l[i]) (S':=λb=>w2.heap.size≤b∧b<w4.heap.size) ⟨b5,u,rfl,b6⟩ b3.ldc (λb hb=>hb.2) (λad ha hb=>?_) (by rw[a5]; rw[b0]at h4; rw[b1]; omega) (by rw[a5]; have:=hs.max; omega) λr w5 a9 bel _ _=>hn a0 _ _ ⟨(x0.trans a6).trans' bel,_,by rw[bu a0]; exact a9,λb hb=>?_⟩
  ·have:=(own.block ha).2.1
   omega
  ·rcases hb with hb|hb
   ·exact hQ b hb
   ·omega
 ·have:i=l.length:=oM
  rw[this,cu]at own
  refine hR _ _ x0 ((own.readP hs.2.2.2.1 hs.max).mono λb hb=>?_)
  rcases hb with hb|⟨ad,ha,rfl⟩
  ·exact⟨hQ b hb,own.lt b hb⟩
  ·have:=own.block ha
   exact⟨this.1,this.2.1⟩
theorem But.size(h:But g w w'):w.heap.size≤w'.heap.size:=h.1
theorem SlR.but{α:Type}{E:Enc α}{l:List α}(h:SlR E w S s l)(hb:But g w w')(hn: ¬S g):SlR E w' S s l:=h.keep (hb.keep hn)
theorem Ztb{p:Pack}{R:ByteArray→Int→Int→Int→Sl→Sl→Sl→World→Prop}(hS:Old S w)(hd:SlR depE w S d p.deps)(he:SlR depE w S e p.peers)(ho:SlR depE w S o p.opt)
  (hR: ∀d' e' o' w',Ext w w'→SlP depP w' (λb=>w.heap.size≤b∧b<w'.heap.size) d' p.deps→SlP depP w' (λb=>w.heap.size≤b∧b<w'.heap.size) e' p.peers→SlP depP w' (λb=>w.heap.size≤b∧b<w'.heap.size) o' p.opt→R p.name p.v.ma p.v.mi p.v.pa d' e' o' w'):
  SE.Zer p.name p.v.ma p.v.mi p.v.pa d e o w R:=by
 unfold SE.Zer
 refine newS.intro λa w1 x1 hb ha _=>newS.intro λa1 w2 x2 a6 c2 c3=>bnd.drew λw3 x3=>?_
 have a0:Ext w w3:=x1.trans (x2.trans x3)
 have s1:=x1.size; have s2:=x2.size; have s3:=x3.size
 refine⟨d,hb.at1 (x2.trans x3) rfl,e,hb.at1 (x2.trans x3) rfl,o,hb.at1 (x2.trans x3) rfl,?_⟩
 refine callX.intro (SE.Zfr.go (Zo6 (hS.ext a0.size) (hd.ext a0) λd' w4 x4 b4=>⟨x4,_,rfl,?_⟩))
 refine callX.intro (SE.Zfr.go (Zo6 (hS.ext (a0.trans x4).size) (he.ext (a0.trans x4)) λe' w5 x5 b5=>⟨x5,_,rfl,?_⟩))
 refine SE.Zfr.go (Zo6 (hS.ext (a0.trans (x4.trans x5)).size) (ho.ext (a0.trans (x4.trans x5))) λo' w6 x6 b6=>⟨_,rfl,?_⟩)
 have s4:=x4.size; have s5:=x5.size; have s6:=x6.size
 have c1:Ext w w6:=a0.trans (x4.trans (x5.trans x6))
 have k1:a.block<w3.heap.size:=by have:=hb.lt; omega
 have k2:a1.block<w3.heap.size:=by have:=a6.lt; omega
 have hD:=(b4.ext (x5.trans x6)).mono (S':=λb=>w3.heap.size≤b∧b<w6.heap.size) λb hb=>⟨hb.1,oM⟩
 have hE:=(b5.ext x6).mono (S':=λb=>w3.heap.size≤b∧b<w6.heap.size) λb hb=>⟨oM,oM⟩
 have hO:=b6.mono (S':=λb=>w3.heap.size≤b∧b<w6.heap.size) λb hb=>⟨oM,oM⟩
 have b0:BoxAt w6 a _:=hb.ext (x2.trans (x3.trans (x4.trans (x5.trans x6))))
 have a8:BoxAt w6 a1 _:=a6.ext (x3.trans (x4.trans (x5.trans x6)))
 refine stw.intro b0 sI λw7 b7 _ b1=>stw.intro b1 sI λw8 b8 _ b2=>stw.intro b2 sI λw9 b9 _ b3=>⟨_,_,_,_,_,_,_,b3.ldc.pre rfl,?_⟩
 have a5:a1.block≠a.block:=by have:=hb.lt; omega
 refine stw0.intro (b9.box (b8.box (b7.box a8 a5) a5) a5) sI λa9 a4 _ a7=>⟨_,_,_,_,_,_,_,a7.ldc.pre rfl,?_⟩
 have n1: ¬(w3.heap.size≤a.block∧a.block<w6.heap.size):=oM
 have n2: ¬(w3.heap.size≤a1.block∧a1.block<w6.heap.size):=oM
 have z7:=b7.size; have z8:=b8.size; have z9:=b9.size; have c4:=a4.size
 have up: ∀b,(w3.heap.size≤b∧b<w6.heap.size)→(w.heap.size≤b∧b<a9.heap.size):=λb hb=>⟨oM,oM⟩
 refine hR d' e' o' a9 ?_ (((((hD.but b7 n1).but b8 n1).but b9 n1).but a4 n2).mono up) (((((hE.but b7 n1).but b8 n1).but b9 n1).but a4 n2).mono up) (((((hO.but b7 n1).but b8 n1).but b9 n1).but a4 n2).mono up)
 exact a4.ext (b9.ext (b8.ext (b7.ext c1 oM) oM) oM) oM
section
variable {P:Program} {mt:TypeId} {K:Value→Prop} {zero:Value} {w:World} {r:Nat} {m:List (Value×Value)}
theorem Zt8(T:KeyT P mt K zero)(h:MapR K w r m){k:Value}(hk:K k)(hn: ∀p∈m,p.1≠k):Zmv P (Instr.lookup mt (.map (some r)) k true) w (.tuple #[zero,.bool false]):=λw' hx=>by
 rcases Ziy T (h.ext hx) hk with⟨_,hr⟩|⟨v,a0,_⟩
 ·exact hr true
 ·exact absurd rfl (hn _ a0)
theorem Zq8(T:KeyT P mt K zero)(h:MapR K w r m){k v:Value}(hk:K k)(a0:(k,v)∈m):Zmv P (Instr.lookup mt (.map (some r)) k true) w (.tuple #[v,.bool true]):=λw' hx=>by
 rcases Ziy T (h.ext hx) hk with⟨hn,_⟩|⟨u,hu,hr⟩
 ·exact absurd rfl (hn _ a0)
 ·rw[(h.ext hx).one a0 hu]; exact hr true
theorem Z4r(hu:P.underlying mt=some (.map kt et))(h:MapR K w r m):Zmv P (Builtin.len_ #[mt] 3 #[.map (some r)]) w (.int .i64 m.length):=λw' hx=>Z7z hu (h.ext hx)
end
def Zkr(x:Pack)(d e o:Sl):Value:=.agg #[.string x.name,.int .i64 x.v.ma,.int .i64 x.v.mi,.int .i64 x.v.pa,d.v,e.v,o.v]
def EntR(w:World)(S:Nat→Prop)(x:Pack)(kv:Value×Value):Prop:=∃d e o,kv=(keyV x.name x.v,Zkr x d e o)∧Str x.name∧SlR depE w S d x.deps∧SlR depE w S e x.peers∧SlR depE w S o x.opt
structure CatR(w:World)(S:Nat→Prop)(p:Addr)(r:Nat)(ps:List Pack):Prop where
 box:BoxAt w p [.map (some r)]
 map: ∃m,MapR Zq4 w r m∧m.length=ps.length∧ ∀(i:Nat) (x:Pack),ps[i]? =some x→ ∃kv,m[i]? =some kv∧EntR w S x kv
 old:Old S w
 free: ¬S r∧ ¬S p.block
 ne:p.block≠r
theorem EntR.mono{S':Nat→Prop}{x:Pack}{kv:Value×Value}(h:EntR w S x kv)(hs: ∀b,S b→S' b):EntR w S' x kv:=by
 obtain⟨d,e,o,h1,h2,h3,h4,h5⟩:=h
 exact⟨d,e,o,h1,h2,h3.mono hs,h4.mono hs,h5.mono hs⟩
theorem EntR.keep{x:Pack}{kv:Value×Value}(h:EntR w S x kv)(hk:Keep S w w'):EntR w' S x kv:=by
 obtain⟨d,e,o,h1,h2,h3,h4,h5⟩:=h
 exact⟨d,e,o,h1,h2,h3.keep hk,h4.keep hk,h5.keep hk⟩
theorem CatR.ext(h:CatR w S p r ps)(hx:Ext w w'):CatR w' S p r ps:=by
 obtain⟨m,h1,h2,h3⟩:=h.map
 exact⟨h.box.ext hx,⟨m,h1.ext hx,h2,λi x hi=>let⟨kv,a,b⟩:=h3 i x hi;⟨kv,a,b.keep (hx.keep S)⟩⟩,h.old.ext hx.size,h.free,h.ne⟩
theorem CatR.stay(h:CatR w S p r ps)(a0:w.heap.size≤w'.heap.size)(hk: ∀b,b<w.heap.size→(S b∨b=p.block∨b=r)→w'.heap[b]? =w.heap[b]?):CatR w' S p r ps:=by
 obtain⟨m,h1,h2,h3⟩:=h.map
 refine⟨h.box.keep (S:=λb=>b=p.block) rfl λb hb hl=>hk b hl (.inr (.inl hb)),⟨m,h1.of (hk r h1.lt (.inr (.inr rfl))),h2,λi x hi=>let⟨kv,a,b⟩:=h3 i x hi;⟨kv,a,b.keep λc hc hl=>hk c hl (.inl hc)⟩⟩,h.old.ext a0,h.free,h.ne⟩
def Ze7(n:ByteArray)(v:Ver)(x:Pack):Bool:=decide (x.name=n∧x.v=v)
theorem CatR.find(h:CatR w S p r ps)(n:ByteArray)(v:Ver):
  ∃m,MapR Zq4 w r m∧m.length=ps.length∧((ps.find? (Ze7 n v)=none∧ ∀kv∈m,kv.1≠keyV n v)∨ ∃x d e o,ps.find? (Ze7 n v)=some x∧(keyV n v,Zkr x d e o)∈m∧Str x.name∧SlR depE w S d x.deps∧SlR depE w S e x.peers∧SlR depE w S o x.opt):=by
 obtain⟨m,h1,h2,h3⟩:=h.map
 refine⟨m,h1,h2,?_⟩
 cases hf:ps.find? (Ze7 n v)with
 |none=>
  refine .inl ⟨rfl,λkv a5=>?_⟩
  obtain⟨i,hi,he⟩:=cy.1 a5
  have a0:i<ps.length:=oM
  obtain⟨a6,ha,d,e,o,hb,_⟩:=h3 i _ (bq a0)
  rw[bq hi,he,cw]at ha
  subst ha
  subst hb
  intro hk
  have:=gn.1 hf _ (cj a0)
  have a4:=Zsd.1 hk
  exact this (by simp[Ze7,a4.1,a4.2])
 |some x=>
  have hx:=js hf
  simp only[Ze7,decide_eq_true_eq]at hx
  obtain⟨i,hi,he⟩:=cy.1 (ic hf)
  obtain⟨kv,ha,d,e,o,hb,hr⟩:=h3 i _ (bq hi)
  rw[he]at hb hr
  subst hb
  exact .inr ⟨x,d,e,o,rfl,by rw[←hx.1,←hx.2]; exact ez ha,hr⟩
theorem Z0f{R:Option Addr→World→Prop}(hR: ∀p r w',Ext w w'→CatR w' None' p r []→w.heap.size≤r→w.heap.size≤p.block→R (some p) w'):SE.Zgh w R:=by
 unfold SE.Zgh
 refine Zjq (K:=Zq4) λr w1 x1 a0 hm=>⟨some r,rfl,newS.intro λa w2 x2 hb ha _=>hR a r w2 (x1.trans x2) ⟨hb,⟨[],hm.ext x2,rfl,λi x h=>by simp at h⟩,λ_ h=>h.elim,⟨λh=>h,λh=>h⟩,?_⟩ oM ?_⟩
 ·have:=hm.lt; omega
 ·have:=x1.size; omega
def Zi5(ps:List Pack)(x:Pack):Int×List Pack:=
 if Zbb x=false then(24,ps)else if(ps.find? (Ze7 x.name x.v)).isSome then(11,ps)else if 128≤ps.length then(26,ps)else(0,ps++ [x])
theorem CatR.add{x:Pack}{B:Nat}(h:CatR w S p r ps)(hn:ps.find? (Ze7 x.name x.v)=none)(hN:Str x.name)(hB:r<B∧p.block<B)
  (hd:SlR depE w (λb=>B≤b∧b<w.heap.size) d x.deps) (he:SlR depE w (λb=>B≤b∧b<w.heap.size) e x.peers) (ho:SlR depE w (λb=>B≤b∧b<w.heap.size) o x.opt) {c:World→Prop}
  (hc: ∀w',But r w w'→CatR w' (λb=>S b∨(B≤b∧b<w.heap.size)) p r (ps++ [x])→c w'):semU prog (Instr.mapUpdate 90 (.map (some r)) (keyV x.name x.v) (Zkr x d e o)) w c:=by
 obtain⟨m,hm,hl,hf⟩:=h.find x.name x.v
 have b0: ∀kv∈m,kv.1≠keyV x.name x.v:=by
  rcases hf with⟨_,h⟩|⟨y,_,_,_,hy,_⟩
  ·exact h
  ·rw[hn]at hy; cases hy
 obtain⟨m',a7,b3,a5⟩:=h.map
 have a9:m'=m:=by
  obtain⟨es,cl,a,_,rfl,_⟩:=hm
  obtain⟨b2,b1,a',_,rfl,_⟩:=a7
  rw[a]at a'; cases a'; rfl
 subst a9
 refine Zrt keyT hm ⟨_,_,rfl⟩ b0 λw' hb b4 a8=>hc w' hb ?_
 have hS: ¬(S r∨(B≤r∧r<w.heap.size)):=λhh=>by
  rcases hh with hh|hh
  ·exact h.free.1 hh
  ·omega
 refine⟨hb.box h.box h.ne,⟨_,a8,by simp[hl],λi y hi=>?_⟩,λb a0=>?_,⟨hS,λhh=>?_⟩,h.ne⟩
 ·rw[kq]at hi
  split at hi
  ·rename_i a6
   obtain⟨kv,a,b⟩:=a5 i y hi
   exact⟨kv,by rw[dt oM]; exact a,(b.mono λ_ h=>.inl h).keep (hb.keep hS)⟩
  ·rename_i a6
   have a4:i - ps.length=0:=by
    rcases fo (i - ps.length)with h0|h0
    ·exact h0
    ·rw[mb (by simp; omega)]at hi; cases hi
   rw[a4]at hi
   simp only[gl,cw]at hi
   subst hi
   have:EntR w (λb=>S b∨(B≤b∧b<w.heap.size)) x (keyV x.name x.v,Zkr x d e o):=⟨d,e,o,rfl,hN,hd.mono λ_ h=>.inr h,he.mono λ_ h=>.inr h,ho.mono λ_ h=>.inr h⟩
   exact⟨_,by rw[ff oM,hl,a4]; rfl,this.keep (hb.keep hS)⟩
 ·have:=hb.size
  rcases a0 with a0|a0
  ·have:=h.old b a0; omega
  ·omega
 ·rcases hh with hh|hh
  ·exact h.free.2 hh
  ·omega
theorem Z0g{x:Pack}{S2:Nat→Prop}{R:Int→World→Prop}(ht:Tab w)(hC:CatR w S p r ps)(hN:Str x.name)(c3:Old S2 w)
  (hd:SlR depE w S2 d x.deps) (he:SlR depE w S2 e x.peers) (ho:SlR depE w S2 o x.opt)
  (hR: ∀S' w',But r w w'→CatR w' S' p r (Zi5 ps x).2→(∀b,S b→S' b)→(∀b,S' b→S b∨w.heap.size≤b)→R (Zi5 ps x).1 w'):SE.Zcc (some p) x.name x.v.ma x.v.mi x.v.pa d e o w R:=by
 unfold SE.Zcc
 have d3:r<w.heap.size:=by obtain⟨m,hm,_⟩:=hC.map; exact hm.lt
 have d2:=hC.box.lt
 refine newS.intro λa w1 x1 hb _ _=>⟨_,_,_,_,_,_,_,hb.ldc.pre rfl,SE.Zjr.go (Znl (p:=x) (ht.ext x1) hN (hd.ext x1) (he.ext x1) (ho.ext x1) λw2 x2=>⟨_,rfl,λh=>?_,λh=>?_⟩)⟩
 ·have e:Zbb x=false:=by simpa using h
  have hp:Zi5 ps x=(24,ps):=by unfold Zi5; rw[if_pos e]
  have:=hR S w2 ((x1.trans x2).but r) (by rw[hp]; exact hC.ext (x1.trans x2)) (λ_ h=>h) (λ_ h=>.inl h)
  rw[hp]at this; exact this
 have a9:Zbb x=true:=by simpa using h
 have d0:=x1.trans x2
 refine⟨_,hb.at0 x2 rfl,_,_,_,hb.at1 x2 rfl,newS.intro λa4 w3 x3 b0 _ _=>stw0.intro b0 sI λw4 b4 _ b0=>bnd.drew λw5 x5=>?_⟩
 have s1:=x1.size; have s2:=x2.size; have s3:=x3.size
 have d1:Ext w2 w4:=b4.ext x3 oM
 have b9:Ext w2 w5:=d1.trans x5
 have b1:Ext w w5:=d0.trans b9
 have a8:=hC.ext b1
 refine⟨p,rfl,some r,a8.box.ldc,_,_,_,_,b0.at0 x5 rfl,?_⟩
 obtain⟨m,hm,hl,hf⟩:=a8.find x.name x.v
 rcases hf with⟨a5,c7⟩|⟨y,dy,ey,oy,b3,c6,_,_,_,_⟩
 ·refine⟨_,_,_,_,Sl.nil,Sl.nil,Sl.nil,false,Zt8 keyT hm ⟨_,_,rfl⟩ c7,newS.intro λc1 w6 x6 a0 _ _=>stw0.intro a0 sI λw7 b7 _ a0=>⟨λh=>by(cases h),λ_=> ?_⟩⟩
  have a6:Ext w5 w7:=b7.ext x6 oM
  have b6:=a8.ext a6
  refine⟨p,rfl,some r,b6.box.ldc,_,Z4r underlying90 (hm.ext a6),λh=>?_,λh=>bnd.drew λw8 x8=>?_⟩
  ·have hp:Zi5 ps x=(26,ps):=by unfold Zi5; rw[if_neg (by rw[a9]; simp),if_neg (by rw[a5]; simp),if_pos oM]
   have:=hR S w7 ((b1.trans a6).but r) (by rw[hp]; exact b6) (λ_ h=>h) (λ_ h=>.inl h)
   rw[hp]at this; exact this
  ·have hp:Zi5 ps x=(0,ps++ [x]):=by unfold Zi5; rw[if_neg (by rw[a9]; simp),if_neg (by rw[a5]; simp),if_neg oM]
   rw[hp]at hR
   have b2:Ext w5 w8:=a6.trans x8
   have a7:Ext w w8:=b1.trans b2
   have b8:=a8.ext b2
   refine⟨p,rfl,some r,b8.box.ldc,_,_,_,_,b0.at0 (x5.trans b2) rfl,_,_,_,_,_,_,_,hb.at0 (x2.trans (b9.trans b2)) rfl,?_⟩
   refine callX.intro (SE.Zer.go (Ztb (p:=x) (c3.ext a7.size) (hd.ext a7) (he.ext a7) (ho.ext a7) λd' e' o' w9 x9 c4 c5 c8=>⟨x9,_,_,_,_,d',e',o',rfl,?_⟩))
   have s8:=a7.size
   refine(b8.ext x9).add a5 hN ⟨oM,oM⟩ c4.dep c5.dep c8.dep λc9 c2 b5=>?_
   refine hR _ c9 (((a7.trans x9).but r).trans c2) b5 (λ_ h=>.inl h) λb hb=>?_
   rcases hb with hb|hb
   ·exact .inl hb
   ·right; omega
 ·refine⟨_,_,_,_,dy,ey,oy,true,Zq8 keyT hm ⟨_,_,rfl⟩ c6,newS.intro λc1 w6 x6 a0 _ _=>stw0.intro a0 sI λw7 b7 _ a0=>⟨λ_=> ?_,λh=>by(cases h)⟩⟩
  have a6:Ext w5 w7:=b7.ext x6 oM
  have hp:Zi5 ps x=(11,ps):=by unfold Zi5; rw[if_neg (by rw[a9]; simp),if_pos (by rw[b3]; rfl)]
  have:=hR S w7 ((b1.trans a6).but r) (by rw[hp]; exact a8.ext a6) (λ_ h=>h) (λ_ h=>.inl h)
  rw[hp]at this; exact this
end Go.Hal
namespace Go.Hal
theorem Ord3.comap{α β:Type}{c:β→β→Int}(h:Ord3 c)(f:α→β):Ord3 (λa b=>c (f a) (f b)):=⟨λx y=>h.flip _ _,λx y z=>h.trans _ _ _⟩
theorem Ord3.swap{α:Type}{c:α→α→Int}(h:Ord3 c):Ord3 (λa b=>c b a):=⟨λx y=>h.flip _ _,λx y z h1 h2=>h.trans _ _ _ h2 h1⟩
theorem Ord3.or{α:Type}{c d:α→α→Int}(h:Ord3 c)(k:Ord3 d):Ord3 (λa b=>or2 (c a b) (d a b)) where
 flip:=λx y=>by
  have h1:=h.flip x y; have h2:=h.flip y x; have h3:=k.flip x y
  have h0:=h.zero (x:=x) (y:=y)
  unfold or2
  by_cases hc:c x y=0
  ·simp only[hc,h0.1 hc,if_true]; exact h3
  ·have: ¬c y x=0:=λe=>hc (h0.2 e)
   simp only[hc,this,if_false]; exact h1
 trans:=λx y z h1 h2=>by
  unfold or2 at*
  have z1:=h.zero (x:=x) (y:=y); have z2:=h.zero (x:=y) (y:=z)
  by_cases a:c x y=0<;>by_cases b:c y z=0
  ·simp only[a,if_true]at h1; simp only[b,if_true]at h2
   have e1:=h.trans x y z oM oM
   have e2:=h.trans z y x (by rw[z2.1 b]; omega) (by rw[z1.1 a]; omega)
   have f1:=h.flip z x; have f2:=h.flip x z
   have:c x z=0:=oM
   simp only[this,if_true]; exact k.trans x y z h1 h2
  ·simp only[b,if_false]at h2
   have:=h.lt_of' (x:=x) (y:=y) (z:=z) oM oM
   split<;>omega
  ·simp only[a,if_false]at h1
   have:=h.lt_of (x:=x) (y:=y) (z:=z) oM oM
   split<;>omega
  ·simp only[a,if_false]at h1
   simp only[b,if_false]at h2
   have:=h.lt_of (x:=x) (y:=y) (z:=z) oM oM
   split<;>omega
theorem cmpI_ord:Ord3 cmpI:=⟨λx y=>by unfold cmpI; split<;>split<;>omega,λx y z=>by simp only[Z7g]; omega⟩
theorem Ver.cmp_ord:Ord3 Ver.cmp:=(cmpI_ord.comap Ver.ma).or ((cmpI_ord.comap Ver.mi).or (cmpI_ord.comap Ver.pa))
theorem Z1u{a b:Int}:or2 a b<0↔a<0∨(a=0∧b<0):=by unfold or2; split<;>omega
def cP(a b:Pack):Int:=or2 (cmpS a.name b.name) (b.v.cmp a.v)
theorem cP_ord:Ord3 cP:=(Zhf Pack.name).or ((Ver.cmp_ord.comap Pack.v).swap)
theorem Zvk{a b:Pack}:cP a b=0↔a.name=b.name∧a.v=b.v:=by
 unfold cP or2
 by_cases h:cmpS a.name b.name=0
 ·have e:=Zgs.1 h
  rw[if_pos h,Ver.cmp_eq]; simp[e,eq_comm]
 ·have: ¬a.name=b.name:=λe=>h (Zgs.2 e)
  simp[h,this]
def OrdL(L:List Pack):Prop:=L.Pairwise λa b=>cP a b<0
def Zfw(a b:Pack):Bool:=decide (cP a b<0)
def Zps(x:Pack)(L:List Pack):List Pack:=L.takeWhile (Zfw · x)++x::L.dropWhile (Zfw · x)
theorem Zno(x:Pack)(L:List Pack):(Zps x L).Perm (L++ [x]):=by
 unfold Zps
 refine List.perm_middle.trans ?_
 rw[jw]
 exact(iz x L).symm
theorem Zsi{α:Type}{p:α→Bool}{l:List α}{x:α}(h:x∈l.takeWhile p):p x=true:=by
 induction l with
 |nil=>cases h
 |cons a r ih=>
  rw[List.takeWhile_cons]at h
  split at h
  ·rename_i hp
   rcases du.1 h with rfl|h
   ·exact hp
   ·exact ih h
  ·cases h
theorem Z10{x:Pack}(h:OrdL L)(hn: ∀y∈L,cP y x≠0):OrdL (Zps x L):=by
 unfold Zps OrdL at*
 have a5:(L.takeWhile (Zfw · x)).Sublist L:=List.takeWhile_sublist _
 have a0:(L.dropWhile (Zfw · x)).Sublist L:=jz _
 have hd: ∀y∈L.dropWhile (Zfw · x),cP x y<0:=by
  intro y hy
  cases hD:L.dropWhile (Zfw · x)with
  |nil=>rw[hD]at hy; cases hy
  |cons a r=>
   have ha:Zfw a x=false:=by
    have:=List.head?_dropWhile_not (Zfw · x) L
    rw[hD]at this
    simpa using this
   have a4:cP x a<0:=by
    have h1: ¬cP a x<0:=by simpa[Zfw]using ha
    have h2:=hn a (a0.subset (by rw[hD]; exact .head _))
    exact(cP_ord.flip x a).2 oM
   rw[hD]at hy a0
   rcases du.1 hy with rfl|hy
   ·exact a4
   ·exact cP_ord.lt_of a4 (Int.le_of_lt ((ga.1 (h.sublist a0)).1 y hy))
 refine eu.2 ⟨h.sublist a5,ga.2 ⟨hd,h.sublist a0⟩,λa ha b hb=>?_⟩
 have a4:cP a x<0:=by simpa[Zfw]using Zsi ha
 rcases du.1 hb with rfl|hb
 ·exact a4
 ·exact cP_ord.lt_of a4 (Int.le_of_lt (hd b hb))
theorem OrdL.key(h:OrdL L){a b:Pack}(ha:a∈L)(hb:b∈L)(hn:a.name=b.name)(hv:a.v=b.v):a=b:=by
 induction L with
 |nil=>cases ha
 |cons x r ih=>
  obtain⟨h1,h2⟩:=ga.1 h
  rcases du.1 ha with e|a0<;>rcases du.1 hb with e'|a4
  ·rw[e,e']
  ·subst e; have:=h1 b a4; rw[Zvk.2 ⟨hn,hv⟩]at this; omega
  ·subst e'; have:=h1 a a0; rw[Zvk.2 ⟨hn.symm,hv.symm⟩]at this; omega
  ·exact ih h2 a0 a4
def getL(L:List Pack)(n:ByteArray)(v:Ver):Option Pack:=L.find? (Ze7 n v)
theorem Zhy{v:Ver}{x:Pack}(h:getL L n v=some x):x∈L∧x.name=n∧x.v=v:=by
 have h1:=js h
 simp only[Ze7,decide_eq_true_eq]at h1
 exact⟨ic h,h1⟩
theorem Z7s(h:OrdL L){x:Pack}(hx:x∈L):getL L x.name x.v=some x:=by
 cases hg:getL L x.name x.v with
 |none=>exact absurd (by simp[Ze7]) (gn.1 hg x hx)
 |some y=>
  obtain⟨a,b,c⟩:=Zhy hg
  rw[h.key a hx b c]
theorem Zty(h:OrdL L)(hp:L.Perm ps)(n:ByteArray)(v:Ver):ps.find? (Ze7 n v)=getL L n v:=by
 cases hg:getL L n v with
 |none=>
  rw[gn]
  intro x hx
  exact gn.1 hg x (hp.mem_iff.2 hx)
 |some x=>
  obtain⟨a,b,c⟩:=Zhy hg
  cases hf:ps.find? (Ze7 n v)with
  |none=>exact absurd (by simp[Ze7,b,c]) (gn.1 hf x (hp.mem_iff.1 a))
  |some y=>
   have h1:=js hf
   simp only[Ze7,decide_eq_true_eq]at h1
   rw[h.key (hp.mem_iff.2 (ic hf)) a (h1.1.trans b.symm) (h1.2.trans c.symm)]
structure GoodL(L:List Pack):Prop where
 ord:OrdL L
 le:L.length≤128
 may: ∀x∈L,Zbb x=true
theorem GoodL.nil:GoodL []:=⟨.nil,by simp,by simp⟩
def Zfo(L:List Pack)(x:Pack):Int×List Pack:=
 if Zbb x=false then(24,L)else if(getL L x.name x.v).isSome then(11,L)else if 128≤L.length then(26,L)else(0,Zps x L)
theorem Zpv(h:GoodL L)(x:Pack):GoodL (Zfo L x).2:=by
 unfold Zfo
 split
 ·exact h
 ·rename_i hm
  split
  ·exact h
  ·rename_i hs
   split
   ·exact h
   ·rename_i hl
    have hp:=Zno x L
    refine⟨Z10 h.ord λy hy e=>hs ?_,by show(Zps x L).length≤128; rw[hp.length_eq]; simp; omega,λy hy=>?_⟩
    ·obtain⟨h1,h2⟩:=Zvk.1 e
     rw[←h1,←h2,Z7s h.ord hy]; rfl
    ·rcases dj.1 (hp.mem_iff.1 hy)with hy|hy
     ·exact h.may y hy
     ·simp at hy; subst hy; simpa using hm
theorem Z5e(h:GoodL L)(hp:L.Perm ps)(x:Pack):(Zi5 ps x).1=(Zfo L x).1∧(Zfo L x).2.Perm (Zi5 ps x).2:=by
 unfold Zi5 Zfo
 rw[Zty h.ord hp,hp.length_eq]
 split
 ·exact⟨rfl,hp⟩
 ·split
  ·exact⟨rfl,hp⟩
  ·split
   ·exact⟨rfl,hp⟩
   ·exact⟨rfl,(Zno x L).trans (hp.append_right _)⟩
def hasN(n:ByteArray)(x:Pack):Bool:=decide (x.name=n)
def Zjd(n:ByteArray)(L:List Pack):List Ver:=(L.filter (hasN n)).map (·.v)
theorem Zvb(h:OrdL L)(n:ByteArray):(Zjd n L).Pairwise λa b=>b.cmp a<0:=by
 unfold Zjd
 rw[fy]
 have h1:(L.filter (hasN n)).Pairwise λa b=>cP a b<0:=h.sublist List.filter_sublist
 refine h1.imp_of_mem λ{a b} ha hb hc=>?_
 have ha:=(jc.1 ha).2; have hb:=(jc.1 hb).2
 simp only[hasN,decide_eq_true_eq]at ha hb
 unfold cP at hc
 rw[Z1u,ha,hb,Zgs.2 rfl]at hc
 omega
theorem Z00{l m:List Ver}(h1:l.Pairwise λa b=>¬a.cmp b<0)(h2:m.Pairwise λa b=>b.cmp a<0)(hp:l.Perm m):l=m:=by
 have hn:m.Nodup:=by
  rw[fe]
  refine h2.imp λ{a b} h e=>?_
  subst e
  have:=Ver.cmp_eq.2 (rfl:a=a); omega
 have a0:=hp.nodup_iff.2 hn
 rw[fe]at a0
 refine Zi9 (R:=λa b:Ver=>b.cmp a<0) (λx y a b=>?_) ((h1.and a0).imp λ{a b} h=>?_) h2 hp
 ·have:=Ver.cmp_ord.flip x y; have:=Ver.cmp_ord.flip y x; omega
 ·have h0:a.cmp b≠0:=λe=>h.2 (Ver.cmp_eq.1 e)
  exact(Ver.cmp_ord.flip b a).2 oM
theorem Zw6(hp:L.Perm ps)(n:ByteArray):(Zjd n L).Perm ((ps.filter (hasN n)).map (·.v)):=(hp.filter _).map _
def pinB(pins:List Pin)(n:ByteArray)(v:Ver):Bool:=decide ((⟨n,v⟩:Pin)∈pins)
def Zr4(L:List Pack)(n:ByteArray)(l:List Span)(pins:List Pin):List Ver:=
 let all:=(Zjd n L).filter (Zdp l)
 all.filter (pinB pins n)++all.filter λv=>!pinB pins n v
def ordB(b:Bool):Int:=if b then 1 else 0
def cC(pins:List Pin)(n:ByteArray)(a b:Ver):Int:=ordB (pinB pins n b) - ordB (pinB pins n a)
theorem Z9s(pins:List Pin)(n:ByteArray):Ord3 (cC pins n):=⟨λx y=>by unfold cC; omega,λx y z=>by unfold cC; omega⟩
theorem Zw2{α:Type}(p:α→Bool)(x:α)(l m:List α)(hl: ∀y∈l,p y=true)(hm: ∀y∈m,p y=false):
  Zjc (λa b=>ordB (p b) - ordB (p a)) x (l++m)=if p x then x::(l++m)else l++x::m:=by
 induction l with
 |nil=>
  rw[em]
  cases m with
  |nil=>simp[Zjc]
  |cons y r=>
   have hy:=hm y (.head _)
   unfold Zjc
   rw[hy]
   have:ordB false - ordB (p x)≤0:=by unfold ordB; cases p x<;>decide
   rw[if_pos this]; simp
 |cons y r ih=>
  have hy:=hl y (.head _)
  rw[dz,Zjc,hy]
  cases hx:p x
  ·have: ¬(ordB true - ordB false≤0):=by decide
   rw[if_neg this,ih λz hz=>hl z (.tail _ hz),hx]; simp
  ·have:ordB true - ordB true≤0:=by decide
   rw[if_pos this]; simp
theorem Zu1{α:Type}(p:α→Bool)(l:List α):Zdr (λa b=>ordB (p b) - ordB (p a)) l=l.filter p++l.filter λx=>!p x:=by
 induction l with
 |nil=>rfl
 |cons x r ih=>
  rw[Zdr,ih,Zw2 p x _ _ (λy hy=>(jc.1 hy).2) (λy hy=>by simpa using(jc.1 hy).2)]
  cases h:p x<;>simp[List.filter_cons,h]
theorem Zk1(L:List Pack)(n:ByteArray)(l:List Span)(pins:List Pin):Zdr (cC pins n) ((Zjd n L).filter (Zdp l))=Zr4 L n l pins:=Zu1 (pinB pins n) _
end Go.Hal
namespace Go.Hal
open Go.Lib Go.Sort
section
variable {α:Type} [Inhabited α]
theorem Zsc{k:Nat}(f:α→List Value)(hk: ∀x,(f x).length=k): ∀(l:List α) (j:Nat),j<l.length*k→((l.map f).flatten)[j]? =some ((f (l.toArray[j/k]!))[j%k]!)
 | [],j,h=>by simp at h
 |a::l,j,h=>by
  have a0:0<k:=by
    rcases fo k with h0|h0
    ·rw[h0]at h; simp at h
    ·exact h0
  rw[fg,ge]
  by_cases hj:j<k
  ·rw[dt (by rw[hk]; exact hj),Nat.div_eq_of_lt hj,Nat.mod_eq_of_lt hj,bq (by rw[hk]; exact hj)]
   have:(f a)[j]! =(f a)[j]'(by rw[hk]; exact hj):=getElem!_pos _ _ (by rw[hk]; exact hj)
   simp[this]
  ·rw[ff (by rw[hk]; omega),hk]
   have h1:j - k<l.length*k:=by rw[dq,gh]at h; omega
   rw[Zsc f hk l (j - k) h1]
   have h2:j/k=(j - k)/k+1:=by rw[Nat.div_eq_sub_div a0 oM]
   have h3:j%k=(j - k)%k:=Nat.mod_eq_sub_mod oM
   rw[h2,h3]
   simp
theorem Zt0{k:Nat}{f:α→List Value}(hk: ∀x,(f x).length=k){l:List α}(h:RowB f w g l tail):HoldsK f k w g 0 l.toArray:=by
 obtain⟨t,_,_,hb⟩:=h
 intro j hj
 have a0:j<l.length*k:=by simpa using hj
 rw[get_flatK _ _ _ _ (by simpa using a0)]
 have hg:=Zsc f hk l j a0
 have a4:j<((l.map f).flatten).length:=by rw[Zic f hk]; exact a0
 constructor
 ·simp only[World.cell?,hb,jy]
  rw[jr]
  rw[dt a4,hg]; rfl
 ·simp[World.frozen?,hb]
theorem Zwh{d d':Array α}(h:PermIn 0 d.size d d'):d'.toList.Perm d.toList:=by
 obtain⟨h1,_,h3⟩:=h
 have e1:d'.extract 0 d.size=d':=by rw[←h1]; simp
 have e2:d.extract 0 d.size=d:=by simp
 rw[e1,e2]at h3; exact h3
theorem Zsu{lt:α→α→Bool}{d d':Array α}(hs:d'.size=d.size)(h:SortedIn lt 0 d.size d'):d'.toList.Pairwise λx y=>lt y x=false:=by
 rw[cr]
 intro i j hi hj a0
 have a4:j<d.size:=by rw[←hs]; simpa using hj
 have:=h i j (eh _) a0 a4
 rw[getElem!_pos _ _ oM,getElem!_pos _ _ oM]at this
 simpa using this
theorem Z2f{k:Nat}{f:α→List Value}(hk: ∀x,(f x).length=k){n:Nat}{l l':List α}{os:Array Obj}(h:RowB f w g l tail)(hl:l'.length=l.length):
  But g w (sortWorldK f k w g 0 n l'.toArray os)∧RowB f (sortWorldK f k w g 0 n l'.toArray os) g l' tail∧w.drawn≤(sortWorldK f k w g 0 n l'.toArray os).drawn:=by
 obtain⟨t,_,_,hb⟩:=h
 have a4:g<w.heap.size:=(de.1 hb).1
 have hh:(sortWorldK f k w g 0 n l'.toArray os).heap=w.heap.modify g (onCells (putCells id 0 (flatK f k l'.toArray)))++os:=rfl
 refine⟨⟨by rw[hh]; simp,rfl,rfl,rfl,λb a0 a5=>?_⟩,⟨t,rfl,rfl,?_⟩,?_⟩
 ·rw[hh,jq (by simpa using a0),Array.getElem?_modify,if_neg (Ne.symm a5)]
 ·rw[hh,jq (by simpa using a4),Array.getElem?_modify,if_pos rfl,hb]
  simp only[gv,onCells,cw,Obj.cells.injEq,and_true]
  apply Array.ext_getElem?
  intro j
  simp only[putCells,Array.getElem?_mapIdx,jr,eh,true_and,jy,Nat.sub_zero,size_flatK,ia,id]
  have e1:=Zic f hk l; have e2:=Zic f hk l'
  by_cases hj:j<l'.length*k
  ·rw[dt (by rw[e1,←hl]; exact hj),dt (by rw[e2]; exact hj),bq (by rw[e1,←hl]; exact hj)]
   simp only[gv,if_pos hj]
   rw[get_flatK _ _ _ _ (by simpa using hj),Zsc f hk l' j hj]
  ·rw[ff (by rw[e1,←hl]; omega),ff (by rw[e2]; omega),e1,e2,hl]
   cases tail[j - l.length*k]? with
   |none=>rfl
   |some v=>simp only[gv]; rw[if_neg (by rw[←hl]; exact hj)]
 ·show w.drawn≤w.drawn+n
  omega
theorem Zgo{P:Program}{ρ:Ren}(L:SlLaysF0.n6 P ρ){k:Nat}(aE: ∀w,(isAgg (ρ.t 24)).run P w= .ok true w)(zE: ∀w,(Go.sizeOf (ρ.t 24)).run P w= .ok k w){f:α→List Value}(hk: ∀x,(f x).length=k)(h1: ∀x,∀v∈f x,v.oneCell'=true)
  (cf:α→α→Int) (hO:SWO (ltOf cf)) (gf:Nat) (cb:Array Value) (eg: ∀args w,(callFunc gf args).run P w= .ok (.enter gf args) w)  {cap:Nat} {l:List α}
  (a4: ∀w0 x y,But g w w0→w.drawn≤w0.drawn→Calls P gf (#[.agg (f x).toArray,.agg (f y).toArray]++cb) w0 λe w'=>e= .returned (.int .i64 (cf x y))∧ ∃q a9,w'=grow (w0.drewN q) a9)
  (hR:RowB f w g l tail) (a8:l.length<4611686018427387904)  {F:Nat} (hF:ρ.f 6=F)
  (hK: ∀l' w',l'.Perm l→l'.Pairwise (λx y=>¬cf y x<0)→But g w w'→RowB f w' g l' tail→K (.tuple #[]) w'):callS P F [Sl.v ⟨some ⟨g,0,none⟩,l.length,cap⟩,.func (.func gf) #[] cb] w K:=by
 subst hF
 have a6:g<w.heap.size:=by obtain⟨t,_,_,hb⟩:=hR; exact(de.1 hb).1
 have hC:CmpLays P gf cb f k cf g 0 l.toArray.size w:=λm os dk hs x y=>by
  have:=Z2f hk (n:=m) (os:=os) (l':=dk.toList) hR (by simpa using hs)
  exact a4 _ x y this.1 this.2.2
 have h:=AnyQ.slices_SortFunc L k aE zE f hk h1 cf hO gf cb g 0 cap l.toArray w eg hC (Zt0 hk hR) a6 (by simpa using a8)
 refine h.mono λe w' ⟨he,d',n,os,hp,hs,hw⟩=>⟨_,he,?_⟩
 have a7:=Zwh hp
 have a5:d'.toList.length=l.length:=by simpa using hp.1
 have a0:=Z2f hk (n:=n) (os:=os) (l':=d'.toList) hR a5
 rw[jj,←hw]at a0
 exact hK d'.toList w' (by simpa using a7) ((Zsu hp.1 hs).imp λh=>by simpa[ltOf]using h) a0.1 a0.2.1
omit [Inhabited α]in
theorem Zjx{cf:α→α→Int}(flip: ∀x y,cf x y<0↔0<cf y x)(trans: ∀x y z,cf x y≤0→cf y z≤0→cf x z≤0):SWO (ltOf cf) where
 irrefl x:=by
  have:=flip x x
  simp only[ltOf,decide_eq_false_iff_not]; omega
 trans x y z h1 h2:=by
  simp only[ltOf,decide_eq_true_eq]at*
  have a:=flip x y; have b:=flip y z; have c:=flip x z; have d:=flip z x; have e:=flip z y; have f:=flip y x
  have g:=trans x y z oM oM
  by_cases h0:cf x z=0
  ·have k:=trans z x y oM oM
   omega
  ·omega
 ntrans x y z h1 h2:=by
  simp only[ltOf,decide_eq_false_iff_not]at*
  have a:=flip x y; have b:=flip y z; have c:=flip x z; have d:=flip z x; have e:=flip z y; have f:=flip y x
  have:=trans z y x oM oM
  omega
end
end Go.Hal
namespace Go.Hal
open Go.Sort
def Gr(w w':World):Prop:=∃q os,w'=grow (w.drewN q) os
theorem Gr.refl(w:World):Gr w w:=⟨0,#[],by simp[World.drewN]⟩
theorem Gr.trans{a b c:World}(h:Gr a b)(k:Gr b c):Gr a c:=by
 obtain⟨q,os,rfl⟩:=h
 obtain⟨r,a0,rfl⟩:=k
 refine⟨q+r,os++a0,?_⟩
 simp[grow,World.drewN,Array.append_assoc,kh]
theorem Gr.alloc(w:World)(o:Obj):Gr w (w.alloc o):=⟨0,#[o],by simp[alloc_eq_grow,World.drewN]⟩
theorem Gr.drew(w:World):Gr w w.drew:=⟨1,#[],(grow_empty (w.drewN 1)).symm⟩
theorem Gr.ext(h:Gr w w'):Ext w w':=by
 obtain⟨q,os,rfl⟩:=h
 exact⟨rfl,rfl,rfl,by simp[grow,World.drewN],λk hk=>by simp only[grow,World.drewN]; rw[jq hk]⟩
theorem newS.gr{t:TypeId}{k:Addr→World→Prop}(h: ∀a w',Gr w w'→BoxAt w' a cs→k a w'):newS w cs t k:=λa w' ha hw=>by
 subst ha hw
 exact h _ _ (Gr.alloc _ _) ⟨t,rfl,rfl,heap_alloc_new w _⟩
theorem bnd.gr{k:World→Prop}(h: ∀w',Gr w w'→k w'):bnd w.drew k:=λ_ e=>h _ (e▸Gr.drew w)
theorem Gr.at0{cs' r:List Value}(h:BoxAt w a cs)(hx:Gr w w')(hp:cs=cs'++r):Go.Hal.ldc w' a cs':=h.at0 hx.ext hp
theorem Gr.at1{k:Nat}{cs' r:List Value}(h:BoxAt w a cs)(hx:Gr w w')(hp:cs.drop k=cs'++r):Go.Hal.ldc w' (a.add k) cs':=h.at1 hx.ext hp
theorem Zqr{a b:Ver}{R:Int→World→Prop}(hR: ∀w',Gr w w'→R (a.cmp b) w'):SE.Zdn a.ma a.mi a.pa b.ma b.mi b.pa w R:=by
 unfold SE.Zdn
 refine newS.gr λ_ w1 x1 hb=>newS.gr λ_ w2 x2 a4=>bnd.gr λw3 x3=>?_
 have a0:=x2.trans x3
 refine⟨_,Gr.at0 hb a0 rfl,_,Gr.at0 a4 x3 rfl,?_⟩
 refine⟨_,Gr.at1 hb a0 rfl,_,Gr.at1 a4 x3 rfl,?_⟩
 refine⟨_,Gr.at1 hb a0 rfl,_,Gr.at1 a4 x3 rfl,?_⟩
 refine callX.intro (SE.Zbn.go (cmpInt_se ⟨Ext.refl _,_,rfl,callX.intro (SE.Zbn.go (cmpInt_se ⟨Ext.refl _,_,rfl,SE.Zbn.go (cmpInt_se ⟨_,rfl,?_⟩)⟩))⟩))
 refine newS.gr λa6 w4 x4 a5=>SE.Zgi.go (Zs9 (Zxd (l:=[_,_,_]) a5 sI) ⟨_,rfl,?_⟩)
 exact hR _ (x1.trans (a0.trans x4))
theorem Zyp{a b:Ver}{R:Int→World→Prop}(hR: ∀w',Gr w w'→R (b.cmp a) w'):SE.Ze2 a.ma a.mi a.pa b.ma b.mi b.pa w R:=by
 unfold SE.Ze2
 refine newS.gr λ_ w1 x1 hb=>newS.gr λ_ w2 x2 a0=>?_
 refine⟨_,_,_,Gr.at0 a0 (Gr.refl _) rfl,_,_,_,Gr.at0 hb x2 rfl,SE.Zdn.go (Zqr (a:=b) (b:=a) λw3 x3=>⟨_,rfl,hR _ (x1.trans (x2.trans x3))⟩)⟩
theorem cmpL(x:List UInt8): ∀y:List UInt8,Lib.compareBytes x y=if Op.bytesLess x y=true then -1 else if x=y then 0 else 1:=by
 induction x with
 |nil=>intro y; cases y<;>simp[Lib.compareBytes,Op.bytesLess]
 |cons u x ih=>
  intro y
  cases y with
  |nil=>simp[Lib.compareBytes,Op.bytesLess]
  |cons v y=>
   rw[Zr1]
   simp only[Lib.compareBytes]
   by_cases h1:u<v
   ·simp[h1]
   ·by_cases h2:v<u
    ·have a0: ¬u=v:=λe=>by subst e; exact h1 h2
     simp[h1,h2,a0]
    ·have he:u=v:=UInt8.le_antisymm (UInt8.not_lt.1 h2) (UInt8.not_lt.1 h1)
     subst he
     simp[ih y]
theorem cmpB(a b:ByteArray):Lib.compareBytes a.data.toList b.data.toList=cmpS a b:=by
 rw[cmpL]
 have e1:Op.bytesLess a.data.toList b.data.toList=bLt a b:=by rw[←toList_data,←toList_data]; rfl
 rw[e1,cmpS]
 cases h:bLt a b
 ·simp only[jf,if_false]
  by_cases he:a=b
  ·subst he; simp[Zap.2 rfl]
  ·have h2: ¬a.data.toList=b.data.toList:=λe=>he (Zo3 e)
   have h3:bEq a b=false:=by rw[il]; exact λe=>he (Zap.1 e)
   simp[h2,h3]
 ·simp
theorem Zjw{a b:ByteArray}{k:Value→World→Prop}(hk:k (.int .i64 (cmpS a b)) w):callS prog 21 [.string a,.string b] w k:=
 (Any.strings_Compare Tryz.layCo a b w).mono λe w' ⟨he,hw⟩=>⟨_,he,by rw[hw,cmpB]; exact hk⟩
end Go.Hal
/-
 DERIVED:THE SHELF's CONTRACTS AT THIS DUMP,IN PLAIN WORDS (tools/lay-plain.mjs out of 'YtfilbiaaeecoaaaGreatDoorLay2.lean',which tools/lay-shelf.mjs wrote):THE SAME DECLARATIONS UNDER THE SAME NAMES:'import','namespace','open','def','theorem' AND NOTHING ELSE:no command of the shelf's:FOR A HAND-IN. Each laying:the table of numbers ('.._ren') and one theorem,a field a fact of the dump's own or the kernel's comparison; each contract:ONE APPLICATION.
-/
namespace Go.Proofs
def Tryz.laySv_ren:Go.Shelf.Ren:=⟨λ|6=>315|15=>50|14=>344|28=>104|29=>105|20=>345|21=>359|22=>360|23=>361|24=>362|25=>363|26=>364|27=>365|46=>385|47=>161|48=>162|49=>386|50=>387|57=>398|n=>n,λ|22=>294|24=>50|25=>149|3=>3|39=>125|0=>0|53=>187|55=>189|4=>4|46=>180|45=>179|50=>184|5=>5|9=>9|66=>243|70=>247|76=>300|77=>301|n=>n,λ|n=>n⟩
theorem Tryz.laySv:Go.Proofs.SlLaysF0.n6 prog Tryz.laySv_ren:={
 mixed:=kR
 f6:=⟨Tryz.f315.name,by decide,func315.trans kS⟩
 f14:=⟨Tryz.f344.name,by decide,func344.trans kS⟩
 f15:=func50.trans kS
 f20:=⟨Tryz.f345.name,by decide,func345.trans kS⟩
 f21:=⟨Tryz.f359.name,by decide,func359.trans kS⟩
 f22:=⟨Tryz.f360.name,by decide,func360.trans kS⟩
 f23:=⟨Tryz.f361.name,by decide,func361.trans kS⟩
 f24:=⟨Tryz.f362.name,by decide,func362.trans kS⟩
 f25:=⟨Tryz.f363.name,by decide,func363.trans kS⟩
 f26:=⟨Tryz.f364.name,by decide,func364.trans kS⟩
 f27:=⟨Tryz.f365.name,by decide,func365.trans kS⟩
 f28:=func104.trans kS
 f29:=func105.trans kS
 f46:=⟨Tryz.f385.name,by decide,func385.trans kS⟩
 f47:=func161.trans kS
 f48:=func162.trans kS
 f49:=⟨Tryz.f386.name,by decide,func386.trans kS⟩
 f50:=⟨Tryz.f387.name,by decide,func387.trans kS⟩
 f57:=⟨Tryz.f398.name,by decide,func398.trans kS⟩
 t0:=underlying0
 a0:=Tryz.isAgg0
 z0:=Tryz.sizeOf0
 v0:=Tryz.zeroValue0
 t3:=underlying3
 a3:=Tryz.isAgg3
 z3:=Tryz.sizeOf3
 v3:=Tryz.zeroValue3
 t4:=underlying4
 a4:=Tryz.isAgg4
 z4:=Tryz.sizeOf4
 v4:=Tryz.zeroValue4
 t5:=underlying5
 a5:=Tryz.isAgg5
 z5:=Tryz.sizeOf5
 v5:=Tryz.zeroValue5
 t9:=underlying9
 a9:=Tryz.isAgg9
 z9:=Tryz.sizeOf9
 v9:=Tryz.zeroValue9
 t22:=underlying294
 a22:=Tryz.isAgg294
 z22:=Tryz.sizeOf294
 v22:=Tryz.zeroValue294
 t25:=underlying149
 a25:=Tryz.isAgg149
 z25:=Tryz.sizeOf149
 v25:=Tryz.zeroValue149
 t39:=underlying125
 a39:=Tryz.isAgg125
 z39:=Tryz.sizeOf125
 v39:=Tryz.zeroValue125
 t45:=underlying179
 a45:=Tryz.isAgg179
 z45:=Tryz.sizeOf179
 v45:=Tryz.zeroValue179
 t46:=underlying180
 a46:=Tryz.isAgg180
 z46:=Tryz.sizeOf180
 v46:=Tryz.zeroValue180
 t50:=underlying184
 a50:=Tryz.isAgg184
 z50:=Tryz.sizeOf184
 v50:=Tryz.zeroValue184
 t53:=underlying187
 a53:=Tryz.isAgg187
 z53:=Tryz.sizeOf187
 v53:=Tryz.zeroValue187
 t55:=underlying189
 a55:=Tryz.isAgg189
 z55:=Tryz.sizeOf189
 v55:=Tryz.zeroValue189
 t66:=underlying243
 a66:=Tryz.isAgg243
 z66:=Tryz.sizeOf243
 v66:=Tryz.zeroValue243
 t70:=underlying247
 a70:=Tryz.isAgg247
 z70:=Tryz.sizeOf247
 v70:=Tryz.zeroValue247
 t76:=underlying300
 a76:=Tryz.isAgg300
 z76:=Tryz.sizeOf300
 v76:=Tryz.zeroValue300
 t77:=underlying301
 a77:=Tryz.isAgg301
 z77:=Tryz.sizeOf301
 v77:=Tryz.zeroValue301}
def Tryz.laySp_ren:Go.Shelf.Ren:=⟨λ|6=>139|15=>50|14=>203|28=>104|29=>105|20=>247|21=>248|22=>249|23=>250|24=>251|25=>252|26=>253|27=>254|46=>291|47=>161|48=>162|49=>292|50=>293|57=>330|n=>n,λ|22=>73|24=>111|25=>224|3=>3|39=>125|0=>0|53=>187|55=>189|4=>4|46=>180|45=>179|50=>184|5=>5|9=>9|66=>243|70=>247|76=>300|77=>301|n=>n,λ|n=>n⟩
theorem Tryz.laySp:Go.Proofs.SlLaysF0.n6 prog Tryz.laySp_ren:={
 mixed:=kR
 f6:=⟨Tryz.f139.name,by decide,func139.trans kS⟩
 f14:=⟨Tryz.f203.name,by decide,func203.trans kS⟩
 f15:=func50.trans kS
 f20:=⟨Tryz.f247.name,by decide,func247.trans kS⟩
 f21:=⟨Tryz.f248.name,by decide,func248.trans kS⟩
 f22:=⟨Tryz.f249.name,by decide,func249.trans kS⟩
 f23:=⟨Tryz.f250.name,by decide,func250.trans kS⟩
 f24:=⟨Tryz.f251.name,by decide,func251.trans kS⟩
 f25:=⟨Tryz.f252.name,by decide,func252.trans kS⟩
 f26:=⟨Tryz.f253.name,by decide,func253.trans kS⟩
 f27:=⟨Tryz.f254.name,by decide,func254.trans kS⟩
 f28:=func104.trans kS
 f29:=func105.trans kS
 f46:=⟨Tryz.f291.name,by decide,func291.trans kS⟩
 f47:=func161.trans kS
 f48:=func162.trans kS
 f49:=⟨Tryz.f292.name,by decide,func292.trans kS⟩
 f50:=⟨Tryz.f293.name,by decide,func293.trans kS⟩
 f57:=⟨Tryz.f330.name,by decide,func330.trans kS⟩
 t0:=underlying0
 a0:=Tryz.isAgg0
 z0:=Tryz.sizeOf0
 v0:=Tryz.zeroValue0
 t3:=underlying3
 a3:=Tryz.isAgg3
 z3:=Tryz.sizeOf3
 v3:=Tryz.zeroValue3
 t4:=underlying4
 a4:=Tryz.isAgg4
 z4:=Tryz.sizeOf4
 v4:=Tryz.zeroValue4
 t5:=underlying5
 a5:=Tryz.isAgg5
 z5:=Tryz.sizeOf5
 v5:=Tryz.zeroValue5
 t9:=underlying9
 a9:=Tryz.isAgg9
 z9:=Tryz.sizeOf9
 v9:=Tryz.zeroValue9
 t22:=underlying73
 a22:=Tryz.isAgg73
 z22:=Tryz.sizeOf73
 v22:=Tryz.zeroValue73
 t25:=underlying224
 a25:=Tryz.isAgg224
 z25:=Tryz.sizeOf224
 v25:=Tryz.zeroValue224
 t39:=underlying125
 a39:=Tryz.isAgg125
 z39:=Tryz.sizeOf125
 v39:=Tryz.zeroValue125
 t45:=underlying179
 a45:=Tryz.isAgg179
 z45:=Tryz.sizeOf179
 v45:=Tryz.zeroValue179
 t46:=underlying180
 a46:=Tryz.isAgg180
 z46:=Tryz.sizeOf180
 v46:=Tryz.zeroValue180
 t50:=underlying184
 a50:=Tryz.isAgg184
 z50:=Tryz.sizeOf184
 v50:=Tryz.zeroValue184
 t53:=underlying187
 a53:=Tryz.isAgg187
 z53:=Tryz.sizeOf187
 v53:=Tryz.zeroValue187
 t55:=underlying189
 a55:=Tryz.isAgg189
 z55:=Tryz.sizeOf189
 v55:=Tryz.zeroValue189
 t66:=underlying243
 a66:=Tryz.isAgg243
 z66:=Tryz.sizeOf243
 v66:=Tryz.zeroValue243
 t70:=underlying247
 a70:=Tryz.isAgg247
 z70:=Tryz.sizeOf247
 v70:=Tryz.zeroValue247
 t76:=underlying300
 a76:=Tryz.isAgg300
 z76:=Tryz.sizeOf300
 v76:=Tryz.zeroValue300
 t77:=underlying301
 a77:=Tryz.isAgg301
 z77:=Tryz.sizeOf301
 v77:=Tryz.zeroValue301}
end Go.Proofs
namespace Go.Hal
def CatL(w:World)(S:Nat→Prop)(p:Addr)(r:Nat)(L:List Pack):Prop:=∃ps,CatR w S p r ps∧L.Perm ps∧GoodL L
theorem CatL.ext(h:CatL w S p r L)(hx:Ext w w'):CatL w' S p r L:=by
 obtain⟨ps,a,b,c⟩:=h
 exact⟨ps,a.ext hx,b,c⟩
theorem CatL.good(h:CatL w S p r L):GoodL L:=by obtain⟨_,_,_,c⟩:=h; exact c
theorem catNew_L{R:Option Addr→World→Prop}(hR: ∀p r w',Ext w w'→CatL w' None' p r []→w.heap.size≤r→w.heap.size≤p.block→R (some p) w'):SE.Zgh w R:=
 Z0f λp r w' hx hC h1 h2=>hR p r w' hx ⟨[],hC,fx _,GoodL.nil⟩ h1 h2
theorem Z3w{x:Pack}{S2:Nat→Prop}{R:Int→World→Prop}(ht:Tab w)(hC:CatL w S p r L)(hN:Str x.name)(a4:Old S2 w)
  (hd:SlR depE w S2 d x.deps) (he:SlR depE w S2 e x.peers) (ho:SlR depE w S2 o x.opt)
  (hR: ∀S' w',But r w w'→CatL w' S' p r (Zfo L x).2→(∀b,S b→S' b)→(∀b,S' b→S b∨w.heap.size≤b)→R (Zfo L x).1 w'):SE.Zcc (some p) x.name x.v.ma x.v.mi x.v.pa d e o w R:=by
 obtain⟨ps,h1,h2,h3⟩:=hC
 obtain⟨e1,e2⟩:=Z5e h3 h2 x
 refine Z0g ht h1 hN a4 hd he ho λS' w' b a0 hs a5=>?_
 rw[e1]
 exact hR S' w' b ⟨_,a0,e2,Zpv h3 x⟩ hs a5
def Z88:Pack:=⟨⟨#[]⟩,⟨0,0,0⟩,[],[],[]⟩
def getD(L:List Pack)(n:ByteArray)(v:Ver):Pack:=(getL L n v).getD Z88
theorem Zke{v:Ver}{R:ByteArray→Int→Int→Int→Sl→Sl→Sl→Bool→World→Prop}(hC:CatL w S p r L)
  (hR: ∀d e o w',Ext w w'→Str (getD L n v).name→SlP depP w' (λb=>w.heap.size≤b∧b<w'.heap.size) d (getD L n v).deps→SlP depP w' (λb=>w.heap.size≤b∧b<w'.heap.size) e (getD L n v).peers→SlP depP w' (λb=>w.heap.size≤b∧b<w'.heap.size) o (getD L n v).opt→
   R (getD L n v).name (getD L n v).v.ma (getD L n v).v.mi (getD L n v).v.pa d e o (getL L n v).isSome w'):SE.Zaq (some p) n v.ma v.mi v.pa w R:=by
 unfold SE.Zaq
 obtain⟨ps,hC,hp,hg⟩:=hC
 refine newS.intro λa w1 x1 hb _ _=>newS.intro λa1 w2 x2 a9 c4 _=>bnd.drew λw3 x3=>?_
 have a8:Ext w w3:=x1.trans (x2.trans x3)
 have a4:=hC.ext a8
 refine⟨p,rfl,some r,a4.box.ldc,v.ma,v.mi,v.pa,hb.at0 (x2.trans x3) rfl,?_⟩
 obtain⟨m,hm,hl,hf⟩:=a4.find n v
 rw[Zty hg.ord hp]at hf
 have key: ∃(d e o:Sl),Zmv prog (Instr.lookup 90 (.map (some r)) (keyV n v) true) w3 (.tuple #[Zkr (getD L n v) d e o,.bool (getL L n v).isSome])∧Str (getD L n v).name∧SlR depE w3 S d (getD L n v).deps∧SlR depE w3 S e (getD L n v).peers∧SlR depE w3 S o (getD L n v).opt:=by
  rcases hf with⟨a5,c1⟩|⟨y,dy,ey,oy,a7,b9,hN,h1,h2,h3⟩
  ·unfold getD
   rw[a5]
   exact⟨Sl.nil,Sl.nil,Sl.nil,Zt8 keyT hm ⟨_,_,rfl⟩ c1,by unfold Str; exact eh _,SlR.nil trivial,SlR.nil trivial,SlR.nil trivial⟩
  ·unfold getD
   rw[a7]
   exact⟨dy,ey,oy,Zq8 keyT hm ⟨_,_,rfl⟩ b9,hN,h1,h2,h3⟩
 obtain⟨d,e,o,c3,hN,hd,he,ho⟩:=key
 generalize hY:getD L n v=y at*
 refine⟨y.name,y.v.ma,y.v.mi,y.v.pa,d,e,o,(getL L n v).isSome,c3,newS.intro λa6 w4 x4 b3 c5 _=>stw0.intro b3 sI λw5 b5 _ b2=>?_⟩
 have s3:=a8.size; have s4:=x4.size; have s2:=x2.size; have s1:=x1.size; have c7:=x3.size
 have a0:Ext w3 w5:=b5.ext x4 oM
 refine⟨_,_,_,_,_,_,_,b2.ldc.pre rfl,SE.Zer.go (Ztb (p:=y) (S:=S) ((a4.old).ext a0.size) (hd.ext a0) (he.ext a0) (ho.ext a0) λd' e' o' w6 x6 b6 b8 c2=>⟨_,_,_,_,_,_,_,rfl,?_⟩)⟩
 have b1:=a0.trans x6
 have s5:=a0.size; have s6:=x6.size
 have b0:=a9.ext (x3.trans b1)
 refine stw0.intro b0 sI λw7 b7 _ b4=>⟨_,_,_,_,_,_,_,b4.ldc.pre rfl,?_⟩
 have c6:=a9.lt
 have n1: ¬(w5.heap.size≤a1.block∧a1.block<w6.heap.size):=oM
 have s7:=b7.size
 have up: ∀b,(w5.heap.size≤b∧b<w6.heap.size)→(w.heap.size≤b∧b<w7.heap.size):=λb hb=>⟨oM,oM⟩
 exact hR d' e' o' w7 (b7.ext (a8.trans b1) oM) hN ((b6.but b7 n1).mono up) ((b8.but b7 n1).mono up) ((c2.but b7 n1).mono up)
theorem apVer:ApT prog 294 50 3 24:=Zhv (z:=.agg #[.int .i64 0,.int .i64 0,.int .i64 0]) kR kR rfl dC
theorem Zr8:Zfj prog 316:=enters_of func316 kR rfl
theorem isAggV: ∀w,(isAgg 50).run prog w= .ok true w:=λw=>by kernel_rfl
theorem Z8r: ∀w,(Go.sizeOf 50).run prog w= .ok 3 w:=λw=>by kernel_rfl
instance:Inhabited Ver:=⟨⟨0,0,0⟩⟩
instance:Inhabited Pin:=⟨⟨⟨#[]⟩,⟨0,0,0⟩⟩⟩
theorem Z2n{cap:Nat}{l:List Ver}(hR:RowB Ver.c w g l tail)(a0:l.length<4611686018427387904)
  (hK: ∀l' w',l'.Perm l→l'.Pairwise (λx y=>¬x.cmp y<0)→But g w w'→RowB Ver.c w' g l' tail→K (.tuple #[]) w'):
  callS prog 315 [Sl.v ⟨some ⟨g,0,none⟩,l.length,cap⟩,.func (.func 316) #[] #[]] w K:=by
 have hO:=Ver.cmp_ord.swap
 refine Zgo Tryz.laySv (k:=3) isAggV Z8r (f:=Ver.c) (λ_=>rfl) (λx v hv=>by simp[Ver.c]at hv; rcases hv with rfl|rfl|rfl<;>rfl) (λa b=>b.cmp a) (Zjx hO.flip hO.trans) 316 #[] Zr8 (λw0 x y hb _=> ?_) hR a0 rfl hK
 have h:=SE.Ze2.go (k:=λv w'=>v= .int .i64 (y.cmp x)∧Gr w0 w') (Zyp (a:=x) (b:=y) (w:=w0) λw' h=>⟨rfl,h⟩)
 exact Calls.mono h λe w' ⟨v,he,hv,hg⟩=>⟨by rw[he,hv],hg⟩
def FlatO{α:Type}(f:α→List Value)(bytes:Nat)(w:World)(lo:Nat)(s:Sl)(l:List α):Prop:=
 s.len=l.length∧l.length≤s.cap∧s.cap≤maxLen∧l.length*bytes≤room∧(l= []∨ ∃g tail,s.a=some ⟨g,0,none⟩∧lo≤g∧RowB f w g l tail)
section
variable {α:Type} {f:α→List Value} {bytes:Nat} {w w':World} {lo:Nat} {s:Sl} {l:List α}
theorem FlatO.read{E:Enc α}(h:FlatO f E.bytes w lo s l)(hk: ∀x,(f x).length=E.n)(hE: ∀w S,∀x∈l,E.rep w S x (f x)):SlR E w (λb=>lo≤b∧b<w.heap.size) s l:=by
 obtain⟨h1,h2,h3,h4,h5⟩:=h
 refine⟨h1,h2,h3,h4,?_⟩
 rcases h5 with h5|⟨g,tail,ha,hg,hr⟩
 ·exact .inl h5
 ·exact .inr ⟨_,ha,⟨hg,hr.lt⟩,λi x hx=>⟨f x,hE _ _ x (ez hx),hr.ld' hk hx⟩⟩
theorem FlatO.ext(h:FlatO f bytes w lo s l)(hx:Ext w w'):FlatO f bytes w' lo s l:=by
 obtain⟨h1,h2,h3,h4,h5⟩:=h
 exact⟨h1,h2,h3,h4,h5.imp id λ⟨g,tail,a,b,c⟩=>⟨g,tail,a,b,c.ext hx⟩⟩
theorem FlatO.of{E:Enc α}{T:TypeId}(hE: ∀x cs,E.rep w S x cs→cs=f x)(h:OwnS E T w lo S s l)(hb:l.length*bytes≤room):FlatO f bytes w lo s l:=by
 rcases OwnS.rowG f (λy x=>y=x) (λx cs hr=>⟨x,hE x cs hr,rfl⟩) h with⟨rfl,rfl⟩|⟨g,z,tail,ha,hg,hz,hr,hR,hc,hm⟩
 ·exact⟨rfl,df _,eh _,hb,.inl rfl⟩
 ·have e:z.map Prod.fst=l:=by
   rw[←hz]
   exact jo λp hp=>hr p hp
  rw[e]at hR
  exact⟨h.len,hc,hm,hb,.inr ⟨g,tail,ha,hg,hR⟩⟩
theorem FlatO.clip{k:Nat}(h:FlatO f bytes w lo s l):FlatO f bytes w lo (Sl.mk (if(s.len:Int).toNat=0 then s.a else s.a.map (·.add (0*k))) ((s.len:Int).toNat - 0) ((s.len:Int).toNat - 0)) l:=by
 obtain⟨h1,h2,h3,h4,h5⟩:=h
 refine⟨by simp[h1],by simp[h1],by simp[h1]; omega,h4,h5.imp id λ⟨g,tail,a,b,c⟩=>⟨g,tail,?_,b,c⟩⟩
 show(if _ then _ else _)=_
 split
 ·exact a
 ·rw[a,jg]; rfl
end
theorem Zzn{l:List Ver}(h:FlatO Ver.c 24 w lo s l)(a0:lo≤w.heap.size)
  (hK: ∀l' w',l'.Perm l→l'.Pairwise (λx y=>¬x.cmp y<0)→Below lo w w'→FlatO Ver.c 24 w' lo s l'→K (.tuple #[]) w'):
  callS prog 315 [Sl.v s,.func (.func 316) #[] #[]] w K:=by
 obtain⟨h1,h2,h3,h4,h5⟩:=h
 obtain⟨a,n,c⟩:=s
 simp only at h1 h2 h3 h5
 subst h1
 rcases h5 with rfl|⟨g,tail,ha,hg,hr⟩
 ·refine(AnyF.slices_SortFunc_none Tryz.laySv a c _ w).mono λe w' ⟨he,hw⟩=>⟨_,he,?_⟩
  subst hw
  exact hK [] _ (fx _) .nil (Below.refl _ _) ⟨rfl,h2,h3,h4,.inl rfl⟩
 ·subst ha
  refine Z2n hr (by unfold room at h4; omega) λl' w' hp hs b a4=>hK l' w' hp hs (b.below a0 hg) ⟨hp.length_eq.symm,by rw[hp.length_eq]; exact h2,h3,by rw[hp.length_eq]; exact h4,.inr ⟨g,tail,rfl,hg,a4⟩⟩
theorem Z98{α β γ:Type}{z:List (α×β)}{l1 l2:List β}{p:β}(h:z.map Prod.snd=l1++p::l2): ∃z1 x z2,z=z1++(x,p)::z2∧z1.map Prod.snd=l1∧z2.map Prod.snd=l2:=by
 obtain⟨z1,a0,rfl,e1,e2⟩:=List.map_eq_append_iff.1 h
 obtain⟨q,z2,rfl,e3,e4⟩:=List.map_eq_cons_iff.1 e2
 exact⟨z1,q.1,z2,by rw[←e3],e1,e4⟩
theorem ents{w:World}{S:Nat→Prop}: ∀{ps:List Pack} {m:List (Value×Value)},m.length=ps.length→(∀(i:Nat) (x:Pack),ps[i]? =some x→ ∃kv,m[i]? =some kv∧EntR w S x kv)→ ∃z:List (Pack×(Value×Value)),z.map Prod.fst=ps∧z.map Prod.snd=m∧ ∀q∈z,EntR w S q.1 q.2
 | [],[],_,_=>⟨[],rfl,rfl,by simp⟩
 | [],_::_,h,_=>by cases h
 |_::_,[],h,_=>by cases h
 |x::ps,kv::m,h,hel=>by
  obtain⟨a0,h1,h2⟩:=hel 0 x rfl
  simp only[gl,cw]at h1
  subst h1
  obtain⟨z,k1,k2,k3⟩:=ents (w:=w) (S:=S) (ps:=ps) (m:=m) (by simpa using h) λi y hy=>hel (i+1) y hy
  refine⟨(x,kv)::z,by simp[k1],by simp[k2],λq hq=>?_⟩
  rcases du.1 hq with rfl|hq
  ·exact h2
  ·exact k3 q hq
theorem Zqh{R:Sl→World→Prop}(hC:CatL w S p r L)
  (hR: ∀t w',Ext w w'→FlatO Ver.c 24 w' w.heap.size t (Zjd n L)→R t w'):SE.Zy (some p) n w R:=by
 unfold SE.Zy
 obtain⟨ps,hC,hp,hg⟩:=hC
 obtain⟨m,hm,hl,c8⟩:=hC.map
 refine⟨p,rfl,some r,hC.box.ldc,Zwq underlying90 hm λit w1 x1 hit hI=>⟨_,rfl,?_⟩⟩
 obtain⟨z0,d4,d5,d6⟩:=ents hl c8
 have e5:=hI.lt
 have d8:ps.length≤128:=by rw[←hp.length_eq]; exact hg.le
 refine loop1.ghost (λk out w'=>∃(z:List (Pack×(Value×Value))) (a0:List Pack) (last:Option (Value×Value)),k=z.length∧IterR w' it r (z.map Prod.snd) last∧(∀q∈z,EntR w S q.1 q.2)∧(a0++z.map Prod.fst).Perm ps∧Ext w w'∧w1.heap.size≤w'.heap.size∧OwnS verE 50 w' w1.heap.size None' out ((a0.filter (hasN n)).map (·.v))) _
  ⟨z0,[],none,rfl,by rw[d5]; exact hI,d6,by rw[d4]; exact fx _,x1,df _,OwnS.zero w1⟩ λk out w2 e6 ⟨z,a0,last,hk,c5,hz,a8,x2,d0,own⟩ hn=>?_
 have e4:a0.length≤128:=by have:=a8.length_eq; rw[br]at this; omega
 refine Zy6 c5 (λh0=>?_) λq l1 l2 w3 hq e3 d9 b4 b0=>?_
 ·have d3:z= []:=List.map_eq_nil_iff.1 h0
  subst d3
  rw[List.map_nil,dp]at a8
  refine⟨false,⟨#[]⟩,0,0,0,⟨#[]⟩,0,0,0,Sl.nil,Sl.nil,Sl.nil,rfl,nO,λ_=> ?_⟩
  have d2:=(((a8.filter (hasN n)).map (·.v)).trans (Zw6 hp n).symm)
  have a5:((a0.filter (hasN n)).map (·.v)).length*24≤room:=by
   have:=kj (hasN n) a0
   rw[cm]; unfold room; omega
  refine Zzn (FlatO.of (E:=verE) (f:=Ver.c) (bytes:=24) (λx cs h=>h.1) own a5) d0 λl' w3 c9 d1 b3 hF=>⟨rfl,?_⟩
  have e:=Z00 d1 (Zvb hg.ord n) (c9.trans d2)
  subst e
  refine SE.Za8.go ⟨⟨oM,oM,oM,by have:=hF.1; have:=hF.2.1; omega⟩,_,rfl,hR _ _ (x2.trans' ?_) ?_⟩
  ·exact Below.mono b3 (by have:=x1.size; omega)
  ·have:=hF.clip (k:=3)
   obtain⟨a,b,c,d,e⟩:=this
   exact⟨a,b,c,d,e.imp id λ⟨g,tail,a,b,c⟩=>⟨g,tail,a,co x1.size b,c⟩⟩
 ·obtain⟨z1,x,z2,d7,e1,e2⟩:=Z98 (γ:=Unit) hq
  subst d7
  obtain⟨d,e,o,b9,hN,hd,he,ho⟩:=hz (x,q) sI
  simp only at b9
  subst b9
  have b8:w.heap.size≤it:=oM
  have x3:Ext w w3:=b4.ext x2 b8
  have a9:=own.but b4 (λh=>h) (λad ha=>by have:=(own.block ha).1; omega)
  refine⟨true,x.name,x.v.ma,x.v.mi,x.v.pa,x.name,x.v.ma,x.v.mi,x.v.pa,d,e,o,rfl,λ_=> ?_,nO⟩
  refine⟨x.name,x.v.ma,x.v.mi,x.v.pa,x.name,x.v.ma,x.v.mi,x.v.pa,d,e,o,λw' hx=>Z0w (b0.ext hx),newS.intro λa w4 x4 c6 e0 _=>stw0.intro c6 sI λw5 b5 _ b7=>⟨x.name,b7.ldc.pre rfl,λb1=>?_,λb1=>?_⟩⟩
  all_goals
   have s3:=x3.size
   have s4:=x4.size
   have a7:Ext w3 w5:=b5.ext x4 oM
   have s5:=a7.size
   have c3: ∀q∈z1++z2,EntR w S q.1 q.2:=λq hq=>hz q (by
    rcases dj.1 hq with h|h
    ·exact gb _ h
    ·exact ii _ (.tail _ h))
   have c2:((a0++ [x])++(z1++z2).map Prod.fst).Perm ps:=by
    refine List.Perm.trans ?_ a8
    rw[cc,ec,ec,fg,List.singleton_append]
    exact List.perm_middle.symm.append_left a0
   have c1:(z1++z2).length<(z1++(x,keyV x.name x.v,Zkr x d e o)::z2).length:=by simp
   have b6: ∀w',IterR w' it r (l1++l2) (some (keyV x.name x.v,Zkr x d e o))→IterR w' it r ((z1++z2).map Prod.snd) (some (keyV x.name x.v,Zkr x d e o)):=λw' h=>by rw[ec,e1,e2]; exact h
  ·refine⟨_,_,_,b7.at1 (k:=1) xR rfl,newS.intro λa6 w6 x6 c7 _ _=> ?_⟩
   have b2:=a7.trans x6
   have s6:=x6.size
   have a5:(((a0.filter (hasN n)).map (·.v)).length+1)*verE.bytes≤room:=by
    have:=kj (hasN n) a0
    have hb:verE.bytes=24:=rfl
    rw[cm,hb]; unfold room; omega
   refine(a9.ext b2).push (x:=x.v) (S':=None') apVer oM ⟨rfl,trivial⟩ c7.ldc (λ_ h=>h.elim) (λ_ _ h=>h.elim) a5 (by rw[Zd]; unfold room at a5; have hb:verE.bytes=24:=rfl; rw[hb]at a5; omega) λt w7 c4 a4 _ _=> ?_
   refine hn _ _ _ (by rw[hk]; exact c1) ⟨z1++z2,a0++ [x],_,rfl,b6 _ (((b0.ext b2).of (a4.block r (by have:=hm.lt; omega)) (a4.block it oM))),c3,c2,(x3.trans b2).trans' (Below.mono a4 oM),by have:=a4.size; omega,?_⟩
   rw[lq,ec]
   have:hasN n x=true:=by simp[hasN,b1]
   simp only[List.filter_cons,this,if_true,List.filter_nil,fg,List.map_nil]
   exact c4.mono (λ_ h=>h.elim id id) (λ_ h=>h.elim) (λ_ _ h=>h.elim)
  ·refine hn _ _ _ (by rw[hk]; exact c1) ⟨z1++z2,a0++ [x],_,rfl,b6 _ (b0.ext a7),c3,c2,x3.trans a7,oM,?_⟩
   rw[lq,ec]
   have:hasN n x=false:=by simp[hasN,b1]
   simp only[List.filter_cons,this,List.filter_nil,List.map_nil,dp,jf,if_false]
   exact a9.ext a7
theorem Z1a{l:List Ver}{p:Ver→Bool}{R:Int→World→Prop}(hs:SlR verE w S s l)(hf:Zve f (λx=>.agg #[.int .i64 x.ma,.int .i64 x.mi,.int .i64 x.pa]) p l w)
  (hR: ∀w',Ext w w'→R (idxI p l) w'):SE.Zz s f w R:=by
 unfold SE.Zz
 have hl:=hs.len
 refine loop1.up hs.max (λi w'=>Ext w w'∧(l.take i).any p=false) ⟨Ext.refl _,rfl⟩ λi w1 a6 hi ⟨x1,hI⟩ hn=>⟨λa4=>?_,λa5=>?_⟩
 ·have a0:i<l.length:=oM
  obtain⟨ad,cs,ha,_,⟨rfl,_⟩,hc⟩:=hs.el a0
  refine⟨ad,⟨ha,oM,a4⟩,_,_,_,hc _ xT,hf _ (cj a0) _ _ x1 λw2 x2=>⟨_,rfl,λh=>?_,λh=>?_⟩⟩
  ·rw[←Zjo a0 hI h]; exact hR _ xT
  ·exact hn a0 _ ⟨xT,by rw[Zdm a0 hI]; exact h⟩
 ·have:i=l.length:=oM
  rw[this,cu]at hI
  rw[←Zgv hI]; exact hR _ xT
theorem Z6d(z:Array Value)(n:Nat):(Builtin.zeroCells z n).toList.length=n*z.size:=by rw[gq,size_zeroCells]
theorem Z6e{z:Array Value}(hz: ∀v∈z,v.oneCell'=true)(n:Nat): ∀v∈(Builtin.zeroCells z n).toList,v.oneCell'=true:=λv hv=>by
 simp only[Builtin.zeroCells,Array.toList_map,Array.toList_range,fh,jx]at hv
 obtain⟨i,hi,rfl⟩:=hv
 have a4:0<z.size:=by
  rcases fo z.size with h|h
  ·rw[h]at hi; simp at hi
  ·exact h
 have a0:i%z.size<z.size:=Nat.mod_lt _ a4
 have e:z[i%z.size]! =z[i%z.size]:=getElem!_pos z _ a0
 rw[e]; exact hz _ (Array.getElem_mem a0)
theorem Z0h{P:Program}{t e ty:TypeId}{z:Value}{n k:Nat}(ht:P.underlying t=some (.slice e))(hv: ∀w,(zeroValue e).run P w= .ok z w)(hz:z.cells.size=k)(h1: ∀v∈z.cells,v.oneCell'=true){o c:Nat}{front back:List Value}(ho:front.length=o)(hn:n*k≤back.length)(hB:BoxAt w ⟨g,0,none⟩ (front++back))
   (hK: ∀w' a0,But g w w'→BoxAt w' ⟨g,0,none⟩ (front++a0)→K (.tuple #[]) w'):semS P (Builtin.clear_ #[t] ty #[.slice (some ⟨g,o,none⟩) n c]) w K:=by
 obtain⟨T,_,_,hb⟩:=hB
 simp only at hb
 have a8:=(de.1 hb).1
 cases n with
 |zero=>
  refine⟨_,w,?_,hK w back ⟨df _,rfl,rfl,rfl,λ_ _ _=>rfl⟩ ⟨T,rfl,rfl,hb⟩⟩
  simp[Builtin.clear_,run_underlying ht,Sem.run_bind,Result.andThen]
 |succ n=>
  have a4:(Builtin.zeroCells z.cells (n+1)).toList.length=(n+1)*k:=by rw[Z6d,hz]
  have a5:=run_storeCells_at (P:=P) g o T (Builtin.zeroCells z.cells (n+1)).toList 0 (front++back).toArray w hb (by rw[a4,ia,br]; omega) (Z6e h1 _)
  generalize hA:(List.take (o+0) (front++back).toArray.toList++(Builtin.zeroCells z.cells (n+1)).toList++List.drop (o+0+(Builtin.zeroCells z.cells (n+1)).toList.length) (front++back).toArray.toList).toArray=A at a5
  refine⟨.tuple #[],w.setRow g A,?_,hK (w.setRow g A) ((Builtin.zeroCells z.cells (n+1)).toList++back.drop ((n+1)*k)) ⟨by simp[World.setRow],rfl,rfl,rfl,λb a7 a6=>setRow_other w g b _ a6⟩ ⟨T,rfl,rfl,?_⟩⟩
  ·simp[Builtin.clear_,run_underlying ht,hv,Sem.run_bind,Result.andThen,a5]
  ·rw[setRow_heap w g (front++back).toArray A T _ hb,←hA]
   simp only[jt,a4,cw,Obj.cells.injEq,and_true]
   rw[←ho,List.take_left]
   simp[List.drop_append]
theorem Zng{α:Type}{p:α→Bool}{l:List α}(h:idxI p l≠ -1): ∃n,∃hn:n<l.length,idxI p l=(n:Int)∧(l.take n).any p=false∧p l[n]=true:=by
 unfold idxI at*
 cases hf:l.findIdx? p with
 |none=>rw[hf]at h; exact absurd rfl h
 |some n=>
  obtain⟨hn,hp,hb⟩:=ie.1 hf
  refine⟨n,hn,rfl,?_,hp⟩
  rw[ij]
  intro x hx
  obtain⟨k,hk,rfl⟩:=cy.1 hx
  rw[cd]at hk
  rw[fm]
  exact hb k oM
theorem Zl7{α:Type}{p:α→Bool}{l:List α}(h:l.any p=false):l.filter (λx=>!p x)=l:=by
 rw[mq]
 intro x hx
 have:=ij.1 h x hx
 simpa using this
theorem zeroV: ∀w,(zeroValue 50).run prog w= .ok (.agg #[.int .i64 0,.int .i64 0,.int .i64 0]) w:=λw=>by kernel_rfl
theorem Zth{l:List Ver}{d:Ver→Bool}{R:Sl→World→Prop}(h:FlatO Ver.c 24 w lo s l)(a9:lo≤w.heap.size)
  (hf: ∀x∈l,∀w' (k:Value→World→Prop),Below lo w w'→(∀c3,Ext w' c3→k (.bool (d x)) c3)→callV prog f [.agg #[.int .i64 x.ma,.int .i64 x.mi,.int .i64 x.pa]] w' k)
  (hR: ∀t w',Below lo w w'→FlatO Ver.c 24 w' lo t (l.filter λx=>!d x)→R t w'):SE.Zf s f w R:=by
 unfold SE.Zf
 have hs:=h.read (E:=verE) (λ_=>rfl) (λ_ _ _ _=>⟨rfl,trivial⟩)
 refine SE.Zz.go (Z1a (p:=d) hs (λx hx w' k c9 hk=>hf x hx w' k (Below.mono c9 a9) hk) λw1 x1=>⟨_,rfl,λh1=>?_,λh1=>?_⟩)
 ·have:l.any d=false:=by
   rw[←Zk5,h1]; decide
  exact hR s w1 (Below.mono x1 a9) (by rw[Zl7 this]; exact h.ext x1)
 obtain⟨n,hn,e,ht,hp⟩:=Zng h1
 rw[e]
 obtain⟨k1,k2,k3,k4,k5⟩:=h
 obtain⟨g,tail,ha,hg,hr⟩: ∃g tail,s.a=some ⟨g,0,none⟩∧lo≤g∧RowB Ver.c w g l tail:=by
  rcases k5 with k5|k5
  ·subst k5; simp at hn
  ·exact k5
 have hk: ∀x:Ver,x.c.length=3:=λ_=>rfl
 have b7:(l.take (n+1)).filter (λx=>!d x)=l.take n:=by
  rw[bu hn,lq,Zl7 ht]
  simp[hp]
 rw[Zc oM (by unfold room at k4; omega)]
 refine⟨λi j w'=>∃(i' j':Nat) (z:List Ver),i=(i':Int)∧j=(j':Int)∧i'<j'∧j'≤l.length∧z.length=l.length∧i'=((l.take j').filter λx=>!d x).length∧z.take i'=(l.take j').filter (λx=>!d x)∧z.drop j'=l.drop j'∧Below lo w w'∧RowB Ver.c w' g z tail,
  λ_ j _=>l.length - j.toNat,⟨n,n+1,l,rfl,oM,oM,oM,rfl,by rw[b7,cd]; omega,by rw[b7],rfl,Below.mono x1 a9,hr.ext x1⟩,?_⟩
 rintro _ _ w2 ⟨i,j,z,rfl,rfl,c6,hj,c2,hi,a5,c1,b2,a4⟩
 refine⟨λd4=>join.named λJ hJ=>?_,λd2=>?_⟩
 ·have a0:j<l.length:=oM
  have ej:Za ((j:Int)+1)=((j+1:Nat):Int):=by rw[Zc oM (by unfold room at k4; omega)]; omega
  have a6:z.drop (j+1)=l.drop (j+1):=by rw[←gk,c1,gk]
  have b8:(l.take (j+1)).filter (λx=>!d x)=(l.take j).filter (λx=>!d x)++ [l[j]].filter (λx=>!d x):=by
   rw[bu a0,lq]
  have kJ: ∀(i':Nat) (w':World) (z':List Ver),i'<j+1→z'.length=l.length→z'.take i'=(l.take (j+1)).filter (λx=>!d x)→z'.drop (j+1)=l.drop (j+1)→Below lo w w'→RowB Ver.c w' g z' tail→J (i':Int) w':=λi' w' z' q1 q2 q3 q4 q5 q6=>by
   subst hJ
   show _∧_
   rw[ej]
   exact⟨⟨i',j+1,z',rfl,rfl,q1,oM,q2,by rw[←q3,cd]; omega,q3,q4,q5,q6⟩,by show _ - Int.toNat _<_ - Int.toNat _; omega⟩
  clear hJ
  have d0:z[j]? =some l[j]:=by
   have h1:z[j]? =(z.drop j)[0]? :=by rw[lm,jt]
   rw[h1,c1,lm,jt]
   exact bq a0
  refine⟨_,⟨ha,oM,oM⟩,_,_,_,a4.ld' hk d0,newS.intro λa w3 x3 a7 d1 _=>stw0.intro a7 sI λw4 b4 _ b1=>⟨_,_,_,b1.ldc.pre rfl,?_⟩⟩
  have c4:Ext w2 w4:=b4.ext x3 oM
  have s2:=b2.size
  have hm:l[j]∈l:=cj a0
  refine hf _ hm w4 _ (Below.trans b2 (Below.mono c4 oM)) λw5 x5=>⟨_,rfl,λhd=>?_,λhd=>?_⟩
  all_goals
   have b0:=c4.trans x5
   have s5:=b0.size
   have b5:Below lo w w5:=Below.trans b2 (Below.mono b0 oM)
   have b9:=a4.ext b0
  ·have a8:d l[j]=false:=by simpa using hd
   refine⟨_,_,_,(b1.ext x5).ldc.pre rfl,_,⟨ha,oM,oM⟩,b9.st hk (i:=i) (x:=l[j]) oM λw6 b6 c7=>?_⟩
   have ei:Za ((i:Int)+1)=((i+1:Nat):Int):=by rw[Zc oM (by unfold room at k4; omega)]; omega
   rw[ei]
   refine kJ (i+1) w6 _ oM (by rw[fw,c2]) ?_ (by rw[List.drop_set_of_lt oM,a6]) (Below.trans b5 (b6.below oM hg)) c7
   rw[b8,←a5,bu (by rw[fw]; omega),List.take_set_of_le nR,List.getElem_set_self]
   simp[a8]
  ·have a8:d l[j]=true:=by simpa using hd
   refine kJ i w5 z oM c2 ?_ a6 b5 b9
   rw[b8,←a5]; simp[a8]
 ·have a0:j=l.length:=oM
  subst a0
  rw[cu]at a5 hi
  have d3:i<l.length:=c6
  have e1:(Sl.cut s (i:Int).toNat s.len 3).v= .slice (some ⟨g,i*3,none⟩) (l.length - i) (s.cap - i):=by
   unfold Sl.cut Sl.v
   rw[bw,if_neg oM,ha,k1]
   simp only[gv,Zkb]
  rw[e1]
  refine⟨⟨oM,oM⟩,?_⟩
  have c8:(z.map Ver.c).flatten++tail=((z.take i).map Ver.c).flatten++(((z.drop i).map Ver.c).flatten++tail):=by
   conv=>lhs; rw[←dc i z]
   rw[ec,jb,cc]
  unfold RowB at a4
  rw[c8]at a4
  refine Z0h (k:=3) underlying294 zeroV rfl (λv hv=>by simp[Value.cells]at hv; rcases hv with rfl|rfl|rfl<;>rfl) (by rw[Zic _ hk,cd]; omega) (by rw[br,Zic _ hk,dh]; omega) a4 λw3 back b3 a7=>⟨⟨oM,oM⟩,?_⟩
  have s2:=b2.size
  refine hR _ w3 (Below.trans b2 (b3.below oM hg)) ?_
  have c5:(l.filter λx=>!d x).length≤l.length:=kj _ _
  refine⟨by unfold Sl.cut; simp; exact hi,by unfold Sl.cut; show _≤s.cap - 0; omega,by unfold Sl.cut; show s.cap - 0≤_; omega,?_,.inr ⟨g,back,?_,hg,?_⟩⟩
  ·have:=fb 24 c5; omega
  ·show(if _ then _ else _)=_
   split
   ·exact ha
   ·rw[ha,jg]; rfl
  ·rw[←a5]; exact a7
theorem idxPin_se{l:List Pin}{p:Pin→Bool}{R:Int→World→Prop}(hs:SlR pinE w S s l)(hf:Zve f (λx=>.agg #[.string x.name,.int .i64 x.v.ma,.int .i64 x.v.mi,.int .i64 x.v.pa]) p l w)
  (hR: ∀w',Ext w w'→R (idxI p l) w'):SE.Zad s f w R:=by
 unfold SE.Zad
 have hl:=hs.len
 refine loop1.up hs.max (λi w'=>Ext w w'∧(l.take i).any p=false) ⟨Ext.refl _,rfl⟩ λi w1 a6 hi ⟨x1,hI⟩ hn=>⟨λa4=>?_,λa5=>?_⟩
 ·have a0:i<l.length:=oM
  obtain⟨ad,cs,ha,_,⟨rfl,_⟩,hc⟩:=hs.el a0
  refine⟨ad,⟨ha,oM,a4⟩,_,_,_,_,hc _ xT,hf _ (cj a0) _ _ x1 λw2 x2=>⟨_,rfl,λh=>?_,λh=>?_⟩⟩
  ·rw[←Zjo a0 hI h]; exact hR _ xT
  ·exact hn a0 _ ⟨xT,by rw[Zdm a0 hI]; exact h⟩
 ·have:i=l.length:=oM
  rw[this,cu]at hI
  rw[←Zgv hI]; exact hR _ xT
theorem Zta{l:List Pin}{p:Pin→Bool}(hs:SlR pinE w S s l)(hf:Zve f (λx=>.agg #[.string x.name,.int .i64 x.v.ma,.int .i64 x.v.mi,.int .i64 x.v.pa]) p l w)
  (hR: ∀w',Ext w w'→R (l.any p) w'):SE.Z0 s f w R:=by
 unfold SE.Z0
 exact SE.Zad.go (idxPin_se hs hf λw' hx=>⟨_,rfl,by rw[Zk5]; exact hR _ hx⟩)
end Go.Hal
