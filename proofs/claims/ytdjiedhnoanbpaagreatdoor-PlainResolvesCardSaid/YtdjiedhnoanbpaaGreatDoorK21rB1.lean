/- Lemmas for the claim K21r: how the program's functions run, and what they answer; no condition but those that each theorem names. -/
import Derived.MapKept
import Derived.Test.YtdjiedhnoanbpaaGreatDoorProg
import Derived.WideKeyRuns
import Derived.Shelf.SlSortCmp.NoneTotal
import Derived.Ground.SlsfProg
import Derived.Laws.CopyRow
import Derived.Test.YtdjiedhnoanbpaaGreatDoorK21rB0
set_option linter.unusedVariables false
set_option linter.unusedSimpArgs false
set_option maxHeartbeats 16000000
namespace Go.Hal
open Go.Proofs.Tryz
open Go Go.RowKit Go.Proofs Go.Shelf
theorem Zop{l:List Span}(h:Z3 l=true): ∀x∈l,x.lo.may=true∧x.hi.may=true:=by
 have: ∀(l:List Span) m,Zcf m l=true→ ∀x∈l,x.lo.may=true∧x.hi.may=true:=by
  intro l
  induction l with
  |nil=>intro m _ x hx; cases hx
  |cons y r ih=>
   intro m h x hx
   rw[Zcf]at h
   simp only[Bool.and_eq_true]at h
   rcases List.mem_cons.1 hx with rfl|hx
   ·exact⟨h.1.1.1.1,h.1.1.1.2⟩
   ·exact ih _ h.2 x hx
 unfold Z3 at h
 simp only[Bool.and_eq_true]at h
 exact this l 0 h.2
theorem Zmy{l:List Span}(h:Z3 l=true):l.length≤64:=by
 unfold Z3 at h
 simp only[Bool.and_eq_true,decide_eq_true_eq]at h
 exact h.1
def preT(l:List Span)(i:Nat):List UInt8:=Zhj (l.take i)++(if 0<i then [32,124,124,32]else [])
theorem Zww{l:List Span}{i:Nat}(h:i<l.length):Zhj (l.take (i+1))=preT l i++Zab l[i]:=by
 rw[List.take_succ_eq_append_getElem h,Zwv]
 unfold preT
 by_cases h0:0<i
 ·rw[if_neg,if_pos h0]
  intro h1
  rw[List.take_eq_nil_iff]at h1
  rcases h1 with h1|h1
  ·omega
  ·rw[h1]at h; simp at h
 ·have:i=0:=oM
  subst this
  simp[Zhj]
theorem Z2t{l:List Span}{i:Nat}(h:i≤l.length):(preT l i).length≤31*i+4:=by
 have:=Zlg (l.take i)
 rw[List.length_take,Nat.min_eq_left h]at this
 unfold preT
 split<;>simp<;>omega
theorem Zuh{s:Sl}{l:List Span}{S:Nat→Prop}{w:World}{R:ByteArray→World→Prop}(hs:SlR spanE w S s l)(hR: ∀w',Ext w w'→R (B (Zbn l)) w'):SE.Zcz s w R:=by
 unfold SE.Zcz
 have hl:=hs.len
 refine SE.Zcd.go (r03May_se hs λw1 x1=>⟨_,rfl,λh=>?_,λh=>?_⟩)
 ·have e:Z3 l=false:=by simpa using h
  have:Zbn l= []:=by unfold Zbn; rw[e]; rfl
  have hr:=hR w1 xT
  rw[this]at hr; exact hr
 have hm:Z3 l=true:=by simpa using h
 have h64:=Zmy hm
 refine⟨λh=>?_,λh=>?_⟩
 ·have:Zbn l= [60,48,46,48,46,48]:=by unfold Zbn; rw[hm,if_pos rfl,if_pos (List.eq_nil_of_length_eq_zero oM)]
  have hr:=hR w1 xT
  rw[this]at hr; exact hr
 have hne:l≠ []:=λh0=>h (by rw[hl,h0]; rfl)
 have hrt:Zbn l=Zhj l:=by unfold Zbn; rw[hm,if_pos rfl,if_neg hne]
 refine loop2.up hs.max (λout i w'=>Ext w w'∧out=B (Zhj (l.take i))) ⟨xT,rfl⟩ λout i w2 nxt hi ⟨x2,hI⟩ hn=>⟨λhlt=>?_,λhge=>?_⟩
 ·have hlt':i<l.length:=oM
  obtain⟨ad,ha,_,hc⟩:=Zlu hs hlt'
  obtain⟨m1,m2⟩:=Zop hm _ (List.getElem_mem hlt')
  have had:s.a=some ad∧(0:Int)≤(i:Int)∧(i:Int)<(s.len:Int):=⟨ha,oM,hlt⟩
  have hpl:=Z2t (l:=l) (i:=i) oM
  have h27:=Zkt l[i]
  have v1:=Zd7 l[i].lo; have v2:=Zd7 l[i].hi
  subst hI
  refine join.named λJ hJ=>join.named λJ2 hJ2=>?_
  have hk: ∀t w3,Ext w w3→t=B (preT l i++Zab l[i])→J t w3:=λt w3 x3 ht=>by
   rw[hJ]; exact hn hlt' _ _ ⟨x3,by rw[ht,Zww hlt']⟩
  have key: ∀w3,Ext w w3→J2 (B (preT l i)) w3:=by
   intro w3 x3
   rw[hJ2]
   refine⟨ad,had,_,_,_,(hc _ xT).pre rfl,SE.Zbj.go (Zi8 (v:=l[i].lo) λw4 x4=>⟨_,rfl,?_⟩)⟩
   refine⟨by rw[Zl,Za2,Zs]; simp; omega,ad,had,_,_,_,(hc _ xT).mid rfl,SE.Zbj.go (Zi8 (v:=l[i].hi) λw5 x5=>⟨_,rfl,?_⟩)⟩
   refine⟨by rw[Zl,Za2,Zs]; simp; omega,ad,had,_,_,_,(hc _ xT).pre rfl,SE.Z1.go (r03rank_se (v:=l[i].lo) λw6 x6=>⟨_,rfl,?_⟩)⟩
   refine⟨ad,had,_,_,_,(hc _ xT).mid rfl,SE.Z1.go (r03rank_se (v:=l[i].hi) λw7 x7=>⟨_,rfl,bnd.drew λw8 x8=>?_⟩)⟩
   refine⟨ad,had,_,_,_,(hc _ xT).pre rfl,ad,had,_,_,_,(hc _ xT).mid rfl,?_⟩
   rw[Zqe]
   refine⟨λh=>⟨ad,had,_,_,_,(hc _ xT).pre rfl,SE.Zbj.go (Zi8 (v:=l[i].lo) λw9 x9=>⟨_,rfl,?_⟩)⟩,λh=>bound ⟨λh2=>?_,λh2=>?_⟩⟩
   ·have e:Zab l[i]=Zbi l[i].lo:=by unfold Zab; rw[if_pos (by simpa using h)]
    refine⟨by rw[Zl,Zl,Zs]; omega,hk _ _ xT (by rw[e,Zgp])⟩
   ·have e:Zab l[i]= [42]:=by unfold Zab; rw[if_neg (by simpa using h),if_pos (by simpa using h2)]
    refine⟨by rw[Zl,Za2,Zs]; simp; omega,hk _ _ xT (by rw[e,Zd1])⟩
   ·have h2: ¬(l[i].lo.rank=0∧l[i].hi.rank=999999999):=by simpa using h2
    refine⟨λh3=>?_,λh3=>⟨λh4=>?_,λh4=>?_⟩⟩
    ·have e:Zab l[i]= [60,61]++Zbi l[i].hi:=by unfold Zab; rw[if_neg (by simpa using h),if_neg h2,if_pos h3]
     refine⟨by simp only[Zhk]; rw[Zl,Zl,Zs]; simp; omega,hk _ _ xT (by rw[e,Zhk,Zgp])⟩
    ·have e:Zab l[i]= [62,61]++Zbi l[i].lo:=by unfold Zab; rw[if_neg (by simpa using h),if_neg h2,if_neg h3,if_pos h4]
     refine⟨by simp only[Zhk]; rw[Zl,Zl,Zs]; simp; omega,hk _ _ xT (by rw[e,Zhk,Zgp])⟩
    ·have e:Zab l[i]=(([62,61]++Zbi l[i].lo)++ [32,60,61])++Zbi l[i].hi:=by unfold Zab; rw[if_neg (by simpa using h),if_neg h2,if_neg h3,if_neg h4]
     simp only[Zhk,Zd1,Zgp]
     refine⟨by rw[Zl,Zl,Zs]; simp; omega,by rw[Zl,Za2,Zs]; simp; omega,by rw[Zl,Zl,Zs]; simp; omega,hk _ _ xT (by rw[e]; simp)⟩
  have e0:preT l i=Zhj (l.take i)++(if 0<i then [32,124,124,32]else []):=rfl
  have hjl:=Zlg (l.take i)
  rw[List.length_take,Nat.min_eq_left oM]at hjl
  refine⟨λh0=>⟨by rw[Zl,Za2,Zs]; simp; omega,?_⟩,λh0=>?_⟩
  ·rw[if_pos oM]at e0
   rw[Zd1]
   have:=key w2 x2
   rw[e0]at this; exact this
  ·rw[if_neg oM,List.append_nil]at e0
   have:=key w2 x2
   rw[e0]at this; exact this
 ·have:i=l.length:=oM
  rw[this,List.take_length,←hrt]at hI
  rw[hI]; exact hR _ xT
theorem apRk:ApT prog 233 236 2 16:=Zhe (z:=.agg #[.int .i64 0,.int .i64 0]) kR kR rfl dC
theorem Z4d:ApT prog 102 9 1 16:=Zhe (z:=.string ⟨#[]⟩) kR kR rfl dC
def Zkn(l:List Span):List (Int×Int):=l.map λx=>(x.lo.rank,x.hi.rank)
theorem Zw5{s:Sl}{l:List Span}{S:Nat→Prop}{w:World}{R:Sl→World→Prop}(hs:SlR spanE w S s l)(hR: ∀t w',Ext w w'→OwnS rkE 236 w' w.heap.size None' t (Zkn l)→R t w'):SE.Zgl s w R:=by
 unfold SE.Zgl
 have hl:=hs.len
 refine loop2.up hs.max (λout i w'=>Ext w w'∧OwnS rkE 236 w' w.heap.size None' out (Zkn (l.take i))) ⟨Ext.refl _,OwnS.zero _⟩ λout i w1 nxt hi ⟨x1,own⟩ hn=>⟨λhlt=>?_,λhge=>?_⟩
 ·have hlt':i<l.length:=oM
  obtain⟨ad,ha,_,hc⟩:=Zlu hs hlt'
  refine⟨ad,⟨ha,oM,hlt⟩,_,_,_,_,_,_,hc _ xT,newS.intro λa w2 x2 hb hba _=>stw0.intro hb sI λw3 b3 _ hb3=>?_⟩
  have x3:Ext w1 w3:=b3.ext x2 oM
  refine⟨_,_,_,hb3.at0 xR rfl,SE.Zgn.go (Zjd (v:=l[i].lo) λw4 x4=>⟨_,_,rfl,?_⟩)⟩
  refine⟨_,_,_,hb3.at1 xT rfl,SE.Zgn.go (Zjd (v:=l[i].hi) λw5 x5=>⟨_,_,rfl,newS.intro λa9 w6 x6 hb6 _ _=> ?_⟩)⟩
  have x16:Ext w1 w6:=xT
  refine(own.ext x16).pushF (x1.trans x16) apRk (x:=(l[i].lo.rank,l[i].hi.rank)) ⟨rfl,trivial⟩ hb6.ldc dC ?_ λr w7 own7 x7=>hn hlt' _ _ ⟨x7,?_⟩
  ·have:=hs.2.2.2.1
   have e:spanE.bytes=48:=rfl
   have e':rkE.bytes=16:=rfl
   rw[e]at this
   rw[e']; simp[Zkn]; omega
  ·rw[List.take_succ_eq_append_getElem hlt',Zkn,List.map_append]; exact own7
 ·have:i=l.length:=oM
  rw[this,List.take_length]at own
  exact hR _ _ x1 own
theorem Zzc(x:Span)(r:List Span):Zhj (x::r)=Zab x++Lib.joinTail [32,124,124,32] (r.map Zab):=by
 induction r generalizing x with
 |nil=>simp[Zhj,Lib.joinTail]
 |cons y t ih=>
  show Zab x++([32,124,124,32]++Zhj (y::t))=_
  rw[ih]; simp[Lib.joinTail]
theorem Z16(l:List Span):Lib.join ((l.map λx=>B (Zab x)).map (·.data.toList)) [32,124,124,32]=Zhj l:=by
 have:(l.map λx=>B (Zab x)).map (·.data.toList)=l.map Zab:=by rw[List.map_map]; rfl
 rw[this]
 cases l with
 |nil=>rfl
 |cons x r=>rw[List.map_cons,Lib.join_cons,Zzc]
theorem Z68{s:Sl}{l:List Span}{w w0:World}{k:Value→World→Prop}(h:OwnS strE 9 w w0.heap.size None' s (l.map λx=>B (Zab x)))(h64:l.length≤64)(hne:l≠ [])(hk: ∀w',Ext w w'→k (.string (B (Zhj l))) w'):
  callS prog 144 [Sl.v s,.string (ByteArray.mk #[32,124,124,32])] w k:=by
 have hr:=h.readF dC (by show _*16≤room; rw[List.length_map]; unfold room; omega)
 have hlen:=hr.len
 rw[List.length_map]at hlen
 obtain⟨ad,cs,ha,_,_,_⟩:=hr.el (n:=0) (by rw[List.length_map]; exact List.length_pos_iff.2 hne)
 have hb:=h.block ha
 have hbk:ad=⟨ad.block,0,none⟩:=hb.2.2
 have hj:=Z16 l
 have e:Sl.v s= .slice (some ⟨ad.block,0,none⟩) (l.map λx=>B (Zab x)).length s.cap:=by
  unfold Sl.v
  rw[ha,hlen,List.length_map,←hbk]
 rw[e]
 have hc: ∀(j:Nat) x,(l.map λx=>B (Zab x))[j]? =some x→w.cell? ⟨ad.block,0+j,none⟩=some (.string x):=by
  intro j x hx
  obtain⟨ad',cs,ha',_,⟨rfl,_⟩,hc⟩:=hr.get hx
  rw[ha,Option.some.injEq]at ha'
  subst ha'
  have:=hc 0 (.string x) rfl
  rw[hbk,Zfi]at this
  have e2:(Addr.add ⟨ad.block,0,none⟩ (j*strE.n+0))=⟨ad.block,0+j,none⟩:=by
   show Addr.add _ (j*1+0)=_
   rw[Zjh,Nat.mul_one,Nat.add_zero,Nat.zero_add]
  rw[e2]at this; exact this
 have hjl:=Zlg l
 have hcon:=Any.strings_Join Tryz.layJo ({sizeBuilder:=by kernel_rfl,liesBuilder:=by kernel_rfl,t5:=underlying5,a5:=Tryz.isAgg5,z5:=Tryz.sizeOf5,v5:=Tryz.zeroValue5,infoByte:=by kernel_rfl,cellsByte:=by kernel_rfl,sizeByte:=by kernel_rfl,neB5:=by decide}:Builder.Extra prog Tryz.layJo_ren) ad.block 0 s.cap (l.map λx=>B (Zab x)) (ByteArray.mk #[32,124,124,32]) w hc hb.2.1
  (by rw[List.length_map]; omega) (by have:=hr.2.1; exact this) (by
   have:(ByteArray.mk #[32,124,124,32]).data.toList= [32,124,124,32]:=rfl
   rw[this,hj]; omega)
 have e3:(ByteArray.mk #[32,124,124,32]).data.toList= [32,124,124,32]:=rfl
 rw[e3,hj]at hcon
 exact hcon.mono λe w' ⟨he,hb⟩=>⟨_,he,hk w' hb⟩
theorem Zmx{s:Sl}{l:List Span}{S:Nat→Prop}{w:World}{R:ByteArray→World→Prop}(ht:Tab w)(hs:SlR spanE w S s l)(hR: ∀w',Ext w w'→R (B (Zbn l)) w'):SE.Zha s w R:=by
 unfold SE.Zha
 have hl:=hs.len
 refine SE.Zh8.go (spanMay_se hs λw1 x1=>⟨_,rfl,λh=>?_,λh=>?_⟩)
 ·have e:Z3 l=false:=by simpa using h
  have:Zbn l= []:=by unfold Zbn; rw[e]; rfl
  have hr:=hR w1 xT
  rw[this]at hr; exact hr
 have hm:Z3 l=true:=by simpa using h
 have h64:=Zmy hm
 refine SE.Zgl.go (Zw5 (hs.ext x1) λnums w2 x2 ownN=>⟨_,rfl,?_⟩)
 have hN:=ownN.readF dC (by show _*16≤room; unfold Zkn; rw[List.length_map]; unfold room; omega)
 have hlN:(Zkn l).length=l.length:=by unfold Zkn; rw[List.length_map]
 have hlN':=hN.len
 refine loop2.up hN.max (λout i w'=>Ext w2 w'∧OwnS strE 9 w' w2.heap.size None' out ((l.take i).map λx=>B (Zab x))) ⟨Ext.refl _,OwnS.zero _⟩ λout i w3 nxt hi ⟨x3,own⟩ hn=>⟨λhlt=>?_,λhge=>?_⟩
 ·have hlt':i<l.length:=oM
  have hltN:i<(Zkn l).length:=oM
  obtain⟨ad,ha,_,hc⟩:=rkEl hN hltN
  have hel:(Zkn l)[i]=(l[i].lo.rank,l[i].hi.rank):=by simp[Zkn]
  rw[hel]at hc
  obtain⟨m1,m2⟩:=Zop hm _ (List.getElem_mem hlt')
  have v1:=Zd7 l[i].lo; have v2:=Zd7 l[i].hi
  refine join.named λJ hJ=>?_
  have push: ∀(t:ByteArray) w4,Ext w3 w4→t=B (Zab l[i])→newS w4 [.string t] 9 λa w5=>appS prog 102 102 out (Sl.v (Sl.mk (some a) 1 1)) w5 λr w6=>J r w6:=by
   intro t w4 x4 ht'
   refine newS.intro λa w5 x5 hb5 _ _=> ?_
   refine(own.ext (x4.trans x5)).pushF (x3.trans (x4.trans x5)) Z4d (x:=t) ⟨rfl,?_⟩ hb5.ldc dC ?_ λr w7 own7 x7=>?_
   ·have:=Zkt l[i]
    rw[ht']; show(B (Zab l[i])).size≤maxLen; rw[Zl,Zb]; omega
   ·show(_+1)*16≤room
    rw[List.length_map,List.length_take,Nat.min_eq_left oM]; unfold room; omega
   ·rw[hJ]
    refine hn hltN _ _ ⟨x7,?_⟩
    rw[List.take_succ_eq_append_getElem hlt',List.map_append]
    rw[ht']at own7; exact own7
  clear hJ
  refine⟨ad,⟨ha,oM,hlt⟩,_,_,hc _ xT,newS.intro λa w4 x4 hb hba _=>stw0.intro hb sI λw5 b5 _ hb5=>?_⟩
  have x5:Ext w3 w5:=b5.ext x4 oM
  have t5:Tab w5:=ht.ext xT
  refine⟨_,hb5.at0 xR rfl,SE.Zj7.go (versAt_se λw6 x6=>⟨_,_,_,_,rfl,?_⟩)⟩
  rw[Zg3 m1]
  refine newS.intro λa13 w7 x7 hb13 ha13 _=>stw0.intro hb13 sI λw8 b8 _ hb13=>?_
  have x8:Ext w6 w8:=b8.ext x7 oM
  refine⟨_,hb5.at1 xT rfl,SE.Zj7.go (versAt_se λw9 x9=>⟨_,_,_,_,rfl,?_⟩)⟩
  rw[Zg3 m2]
  refine newS.intro λa20 w10 x10 hb20 ha20 _=>stw0.intro hb20 sI λw11 b11 _ hb20=>?_
  have x11:Ext w9 w11:=b11.ext x10 oM
  have t11:Tab w11:=t5.ext xT
  refine⟨_,hb5.at0 xT rfl,_,hb5.at1 xT rfl,λh=>?_,λh=>⟨_,_,hb5.at0 xT rfl,λh2=>?_,λh2=>⟨_,hb5.at0 xT rfl,λh3=>?_,λh3=>⟨_,hb5.at1 xT rfl,λh4=>?_,λh4=>bnd.drew λw12 x12=>?_⟩⟩⟩⟩
  ·have h:l[i].lo.rank=l[i].hi.rank:=h
   have he:l[i].lo=l[i].hi:=by rw[←Zg3 m1,←Zg3 m2,h]
   have e:Zab l[i]=Zbi l[i].lo:=by unfold Zab; rw[if_pos he]
   exact⟨_,_,_,hb13.at0 xT rfl,SE.Zeg.go (versPrint_se t11 λw13 x13=>⟨_,rfl,push _ _ xT (by rw[e])⟩)⟩
  all_goals have hne: ¬l[i].lo=l[i].hi:=λhe=>h (by rw[he])
  ·have e:Zab l[i]= [42]:=by unfold Zab; rw[if_neg hne,if_pos (by simpa using h2)]
   exact push _ _ xT (by rw[e]; rfl)
  all_goals have h2': ¬(l[i].lo.rank=0∧l[i].hi.rank=999999999):=by simpa using h2
  ·have e:Zab l[i]= [60,61]++Zbi l[i].hi:=by unfold Zab; rw[if_neg hne,if_neg h2',if_pos h3]
   refine⟨_,_,_,hb20.at0 xT rfl,SE.Zeg.go (versPrint_se t11 λw13 x13=>⟨_,rfl,by rw[Zl,Za2,Zs]; simp; omega,?_⟩)⟩
   exact push _ _ xT (by rw[e,Zhk])
  ·have e:Zab l[i]= [62,61]++Zbi l[i].lo:=by unfold Zab; rw[if_neg hne,if_neg h2',if_neg h3,if_pos h4]
   refine⟨_,_,_,hb13.at0 xT rfl,SE.Zeg.go (versPrint_se t11 λw13 x13=>⟨_,rfl,by rw[Zl,Za2,Zs]; simp; omega,?_⟩)⟩
   exact push _ _ xT (by rw[e,Zhk])
  ·have e:Zab l[i]=(([62,61]++Zbi l[i].lo)++ [32,60,61])++Zbi l[i].hi:=by unfold Zab; rw[if_neg hne,if_neg h2',if_neg h3,if_neg h4]
   refine⟨_,_,_,hb13.at0 xT rfl,_,_,_,hb20.at0 xT rfl,callX.intro (SE.Zeg.go (versPrint_se (t11.ext xT) λw13 x13=>⟨x13,_,rfl,?_⟩))⟩
   simp only[Zhk,Zd1]
   refine⟨by rw[Zl,Za2,Zs]; simp; omega,by rw[Zl,Za2,Zs]; simp; omega,SE.Zeg.go (versPrint_se ((t11.ext x12).ext x13) λw14 x14=>⟨_,rfl,?_⟩)⟩
   simp only[Zgp]
   refine⟨by rw[Zl,Zl,Zs]; simp; omega,push _ _ xT (by rw[e])⟩
 ·have hi':i=l.length:=oM
  rw[hi',List.take_length]at own
  have hol:=(own.readF dC (by show _*16≤room; rw[List.length_map]; unfold room; omega)).len
  rw[List.length_map]at hol
  refine⟨λh=>?_,λh=>?_⟩
  ·have:Zbn l= [60,48,46,48,46,48]:=by unfold Zbn; rw[hm,if_pos rfl,if_pos (List.eq_nil_of_length_eq_zero oM)]
   have hr:=hR w3 xT
   rw[this]at hr; exact hr
  ·have hne:l≠ []:=λh0=>h (by rw[hol,h0]; rfl)
   have hrt:Zbn l=Zhj l:=by unfold Zbn; rw[hm,if_pos rfl,if_neg hne]
   rw[hrt]at hR
   exact Z68 own h64 hne λw4 x4=>⟨_,rfl,hR _ xT⟩
theorem r05less_se{a b:ByteArray}{w:World}{R:Bool→World→Prop}(ha:Str a)(hR: ∀w',Ext w w'→R (bLt a b) w'):SE.Zbt a b w R:=by
 unfold SE.Zbt
 exact SE.Zcn.go (less_se _ _ _ _ ha λw' hx=>⟨_,rfl,hR _ hx⟩)
theorem Zvs{i n:Nat}(h0:0<i)(hi:i≤n)(hn:n≤maxLen):Za ((i:Int) - 1)=((i - 1:Nat):Int):=by
 rw[Zc oM (by rw[Zb]at hn; omega)]; omega
theorem Zf5{s:Sl}{l:List Dep}{S:Nat→Prop}{w:World}{R:Bool→World→Prop}(hs:SlR depE w S s l)(hR: ∀w',Ext w w'→R (Zm l) w'):SE.Zaf s w R:=by
 unfold SE.Zaf
 have hl:=hs.len
 refine loop1.up hs.max (λi w'=>Ext w w'∧Zcp none (l.take i)=true) ⟨Ext.refl _,rfl⟩ λi w1 nxt hi ⟨x1,hI⟩ hn=>⟨λhlt=>bnd.drew λw2 x2=>?_,λhge=>?_⟩
 ·have hlt':i<l.length:=oM
  obtain⟨ad,t,ha,_,hnm,hr,hc⟩:=Zhg hs hlt'
  have hst:=Zrx hlt' hI
  have had:s.a=some ad∧(0:Int)≤(i:Int)∧(i:Int)<(s.len:Int):=⟨ha,oM,hlt⟩
  refine⟨ad,had,_,(hc _ xT).pre rfl,SE.Zcm.go (r04Name_se hnm λw3 x3=>⟨_,rfl,bound ?_⟩)⟩
  refine⟨ad,λ_=>had,t,λ_=>(hc _ xT).mid rfl,gCall.intro (Z3 l[i].range) (λ_ q hq=>SE.Zcd.go (r03May_se (hr.ext xT) λw' hx=>⟨_,rfl,hq _ hx⟩)) λt2 w4 x4 ht2=>bound ?_⟩
  refine⟨ad,λ_=>had,t,λ_=>(hc _ xT).mid rfl,bound (bound ?_)⟩
  have hlast: ∀h0:0<i,Zm3 none (l.take i)=some (l[i - 1]'oM).name:=λh0=>by
   have:=Zpw (l:=l) (n:=i - 1) oM
   rw[←this]; congr 2; omega
  have hd: ∃(ad15:Addr) (u:ByteArray),(decide ((0:Int)<(i:Int))=true→(s.a=some ad15∧(0:Int)≤Za ((i:Int) - 1)∧Za ((i:Int) - 1)<(s.len:Int))∧ldc w4 (ad15.add ((Za ((i:Int) - 1)).toNat*2)) [.string u]∧Zm3 none (l.take i)=some u∧Str u):=by
   by_cases h0:0<i
   ·have ew:=Zvs h0 hi hs.max
    obtain⟨ad',t',ha',_,hn',_,hc'⟩:=Zhg hs (n:=i - 1) oM
    exact⟨ad',_,λ_=>⟨by rw[ew]; exact⟨ha',oM,oM⟩,by rw[ew]; exact(hc' _ xT).pre rfl,hlast h0,hn'⟩⟩
   ·exact⟨ad,⟨#[]⟩,λh=>by simp at h; omega⟩
  obtain⟨ad15,u,hu⟩:=hd
  have hg: ∀{b:Bool},(!b&&decide ((0:Int)<(i:Int)))=true→decide ((0:Int)<(i:Int))=true:=λh=>by simp only[Bool.and_eq_true]at h; exact h.2
  refine⟨ad15,λhb=>(hu (hg hb)).1,u,λhb=>(hu (hg hb)).2.1,ad,λ_=>had,_,λ_=>(hc _ xT).pre rfl,?_⟩
  refine gCall.intro (bLt u l[i].name) (λhb q hq=>SE.Zcn.go (less_se _ _ _ _ (hu (hg hb)).2.2.2 λw' hx=>⟨_,rfl,hq _ hx⟩)) λt3 w5 x5 ht3=>?_
  have e:((((!Zap l[i].name)||(!t2))||((t.len:Int)==0))||(decide ((0:Int)<(i:Int))&&(!t3)))= !Zcp none (l.take (i+1)):=by
   rw[hst,dpOk]
   have e0:((t.len:Int)==0)=l[i].range.isEmpty:=by
    rw[hr.len]
    cases l[i].range<;>simp
    omega
   rw[e0]at ht3 ⊢
   cases h1:Zap l[i].name
   ·simp
   ·rw[h1]at ht2 ht3
    rw[ht2 rfl]at ht3 ⊢
    cases h2:Z3 l[i].range
    ·simp
    ·rw[h2]at ht3
     cases h3:l[i].range.isEmpty
     ·rw[h3]at ht3
      by_cases h0:0<i
      ·have hb:decide ((0:Int)<(i:Int))=true:=by simpa using h0
       rw[hb]at ht3 ⊢
       rw[ht3 rfl,(hu hb).2.2.1]
       simp[Zji]
      ·have hb:decide ((0:Int)<(i:Int))=false:=by simp; omega
       have hi0:i=0:=oM
       subst hi0
       simp[Zm3,Zji]
     ·simp
  rw[e]
  refine⟨λh=>?_,λh=>hn hlt' _ ⟨xT,by simpa using h⟩⟩
  rw[←Zk9 (i:=i+1) (by simpa using h)]; exact hR _ xT
 ·have:i=l.length:=oM
  rw[this,List.take_length]at hI
  have e:decide ((s.len:Int)≤16)=Zm l:=by
   unfold Zm
   rw[hI,Bool.true_and,decide_eq_decide]; omega
  rw[e]; exact hR _ xT
theorem Zk6{α:Type}{p:α→Bool}{l:List α}{n:Nat}(hn:n<l.length):(l.take (n+1)).any p=((l.take n).any p||p l[n]):=by
 rw[List.take_succ_eq_append_getElem hn,List.any_append]; simp
theorem Zf4{s t:Sl}{a b:List Dep}{S:Nat→Prop}{w:World}{R:Bool→World→Prop}(hs:SlR depE w S s a)(ht:SlR depE w S t b)(hR: ∀w',Ext w w'→R (Zdb a b) w'):SE.Zak s t w R:=by
 unfold SE.Zak
 have hl:=hs.len
 have hl2:=ht.len
 refine loop1.up hs.max (λi w'=>Ext w w'∧(a.take i).any (λx=>b.any λy=>decide (x.name=y.name))=false) ⟨Ext.refl _,rfl⟩ λi w1 nxt hi ⟨x1,hI⟩ hn=>⟨λhlt=>?_,λhge=>?_⟩
 ·have hlt':i<a.length:=oM
  obtain⟨ad,_,ha,_,_,_,hc⟩:=Zhg hs hlt'
  refine loop1.up ht.max (λk w'=>Ext w w'∧(b.take k).any (λy=>decide (a[i].name=y.name))=false) ⟨x1,rfl⟩ λk w2 nxt2 hk ⟨x2,hJ⟩ hn2=>⟨λhlt2=>bnd.drew λw3 x3=>?_,λhge2=>?_⟩
  ·have hlt2':k<b.length:=oM
   obtain⟨ad2,_,ha2,_,_,_,hc2⟩:=Zhg ht hlt2'
   refine⟨ad,⟨ha,oM,hlt⟩,_,(hc _ xT).pre rfl,ad2,⟨ha2,oM,hlt2⟩,_,(hc2 _ xT).pre rfl,λh=>?_,λh=>hn2 hlt2' _ ⟨xT,?_⟩⟩
   ·have:Zdb a b=false:=by
     unfold Zdb
     have:(a.any λx=>b.any λy=>decide (x.name=y.name))=true:=List.any_eq_true.2 ⟨_,List.getElem_mem hlt',List.any_eq_true.2 ⟨_,List.getElem_mem hlt2',by simpa using h⟩⟩
     rw[this]; rfl
    rw[←this]; exact hR _ xT
   ·rw[Zk6 hlt2',hJ]; simpa using h
  ·have:k=b.length:=oM
   rw[this,List.take_length]at hJ
   exact hn hlt' _ ⟨x2,by rw[Zk6 hlt',hI,hJ]; rfl⟩
 ·have:i=a.length:=oM
  rw[this,List.take_length]at hI
  have e:Zdb a b=true:=by unfold Zdb; rw[hI]; rfl
  rw[←e]; exact hR _ xT
theorem Zfc{wd:List UInt8}{s:Sl}{l:List Dep}{S:Nat→Prop}{w:World}{R:ByteArray→World→Prop}(hw:wd.length≤8)(hm:Zm l=true)(hs:SlR depE w S s l)(hR: ∀w',Ext w w'→R (B (Zbd wd l)) w'):SE.Zaa (B wd) s w R:=by
 unfold SE.Zaa
 have hl:=hs.len
 obtain⟨h16,hok⟩:=Zi hm
 refine loop2.up hs.max (λout i w'=>Ext w w'∧out=B (Zbd wd (l.take i))) ⟨Ext.refl _,rfl⟩ λout i w1 nxt hi ⟨x1,hI⟩ hn=>⟨λhlt=>bnd.drew λw2 x2=>?_,λhge=>?_⟩
 ·have hlt':i<l.length:=oM
  obtain⟨ad,t,ha,_,hnm,hr,hc⟩:=Zhg hs hlt'
  have had:s.a=some ad∧(0:Int)≤(i:Int)∧(i:Int)<(s.len:Int):=⟨ha,oM,hlt⟩
  have hd:=hok _ (List.getElem_mem hlt')
  have h1:=Zav hw (l:=l.take i) λd hd=>(hok d (List.mem_of_mem_take hd)).1
  rw[List.length_take,Nat.min_eq_left oM]at h1
  have h2:=Zd2 hd.1
  have h3:=Zg0 l[i].range
  subst hI
  have hs':(l[i].name).size=(l[i].name).toList.length:=(Zhc _).symm
  rw[Zgp,Zd1]
  refine⟨by rw[Zl,Zl,Zs]; omega,by rw[Zl,Za2,Zs]; simp; omega,ad,had,_,(hc _ xT).pre rfl,?_⟩
  rw[ba_B l[i].name,Zgp,Zd1]
  refine⟨by rw[Zl,Zl,Zs]; simp; omega,by rw[Zl,Za2,Zs]; simp; omega,ad,had,t,(hc _ xT).mid rfl,callX.intro (SE.Zcz.go (Zuh (hr.ext xT) λw3 x3=>⟨x3,_,rfl,?_⟩))⟩
  rw[Zgp,Zd1]
  refine⟨by rw[Zl,Zl,Zs]; simp; omega,by rw[Zl,Za2,Zs]; simp; omega,hn hlt' _ _ ⟨xT,?_⟩⟩
  rw[List.take_succ_eq_append_getElem hlt',Zi1,Zks]
  congr 1
  simp
 ·have:i=l.length:=oM
  rw[this,List.take_length]at hI
  rw[hI]; exact hR _ xT
theorem Zse{n:ByteArray}(h:Zap n=true)(v:Ver):(Zkd n v).length≤40:=by
 have:=Zd2 h; have:=Zd7 v
 simp only[Zkd,List.length_append,List.length_cons,List.length_nil]; omega
theorem Zw8{p:Pack}{d e o:Sl}{S:Nat→Prop}{w:World}{R:ByteArray→World→Prop}(hm:Zdd p=true)(hd:SlR depE w S d p.deps)(he:SlR depE w S e p.peers)(ho:SlR depE w S o p.opt)
  (hR: ∀w',Ext w w'→R (B (Zh5 p)) w'):SE.Zdi p.name p.v.ma p.v.mi p.v.pa d e o w R:=by
 unfold SE.Zdi
 unfold Zdd at hm
 simp only[Bool.and_eq_true]at hm
 obtain⟨⟨⟨⟨hn,hv⟩,h1⟩,h2⟩,h3⟩:=hm
 have n1:=Zi h1; have n2:=Zi h2; have n3:=Zi h3
 have l1:=Zav (word:=wNeeds) dC λd hd=>(n1.2 d hd).1
 have l2:=Zav (word:=Zov) dC λd hd=>(n2.2 d hd).1
 have l3:=Zav (word:=wLikes) dC λd hd=>(n3.2 d hd).1
 have hnl:=Zd2 hn
 have hnv:=Zd7 p.v
 refine newS.intro λ_ w1 x1 hb _ _=>bnd.drew λw2 x2=>?_
 refine⟨_,lD,?_⟩
 rw[ba_B p.name]
 simp only[Zhk,Zd1]
 refine⟨by rw[Za2,Zl,Zs]; simp; omega,by rw[Zl,Za2,Zs]; simp; omega,?_⟩
 refine⟨_,_,_,lD,?_⟩
 refine⟨d,hb.at1 xT rfl,e,hb.at1 xT rfl,o,hb.at1 xT rfl,callX.intro (SE.Zbj.go (Zi8 (v:=p.v) λw3 x3=>⟨x3,_,rfl,?_⟩))⟩
 simp only[Zgp,Zd1]
 refine⟨by rw[Zl,Zl,Zs]; simp; omega,by rw[Zl,Za2,Zs]; simp; omega,callX.intro (SE.Zaa.go (word:=B wNeeds) (Zfc dC h1 (hd.ext xT) λw4 x4=>⟨x4,_,rfl,?_⟩))⟩
 simp only[Zgp]
 refine⟨by rw[Zl,Zl,Zs]; simp; omega,callX.intro (SE.Zaa.go (word:=B Zov) (Zfc dC h2 (he.ext xT) λw5 x5=>⟨x5,_,rfl,?_⟩))⟩
 simp only[Zgp]
 refine⟨by rw[Zl,Zl,Zs]; simp; omega,callX.intro (SE.Zaa.go (word:=B wLikes) (Zfc dC h3 (ho.ext xT) λw6 x6=>⟨x6,_,rfl,?_⟩))⟩
 simp only[Zgp]
 refine⟨by rw[Zl,Zl,Zs]; simp; omega,?_⟩
 have:=hR w6 xT
 have e:Zh5 p=_:=rfl
 unfold Zh5 Zkd at e
 simpa[Zh5,Zkd]using this
theorem Zz1{p:Pack}{d e o:Sl}{S:Nat→Prop}{w:World}{R:Bool→World→Prop}(hN:Str p.name)(hd:SlR depE w S d p.deps)(he:SlR depE w S e p.peers)(ho:SlR depE w S o p.opt)
  (hR: ∀w',Ext w w'→R (Zcv p) w'):SE.Zd9 p.name p.v.ma p.v.mi p.v.pa d e o w R:=by
 unfold SE.Zd9
 refine newS.intro λ_ w1 x1 hb _ _=> ?_
 refine⟨_,lD,?_⟩
 refine SE.Zcm.go (r04Name_se hN λw2 x2=>⟨_,rfl,bound ?_⟩)
 refine⟨p.v.ma,p.v.mi,p.v.pa,λ_=>hb.at1 xT rfl,gCall.intro p.v.may (λ_ q hq=>SE.Zbb.go (r02May_se λw' hx=>⟨_,rfl,hq _ hx⟩)) λt1 w3 x3 ht1=>bound ?_⟩
 refine⟨d,λ_=>hb.at1 xT rfl,gCall.intro (Zm p.deps) (λ_ q hq=>SE.Zaf.go (Zf5 (hd.ext xT) λw' hx=>⟨_,rfl,hq _ hx⟩)) λt2 w4 x4 ht2=>bound ?_⟩
 refine⟨e,λ_=>hb.at1 xT rfl,gCall.intro (Zm p.peers) (λ_ q hq=>SE.Zaf.go (Zf5 (he.ext xT) λw' hx=>⟨_,rfl,hq _ hx⟩)) λt3 w5 x5 ht3=>bound ?_⟩
 refine⟨o,λ_=>hb.at1 xT rfl,gCall.intro (Zm p.opt) (λ_ q hq=>SE.Zaf.go (Zf5 (ho.ext xT) λw' hx=>⟨_,rfl,hq _ hx⟩)) λt4 w6 x6 ht4=>?_⟩
 have e1:(((((!Zap p.name)||(!t1))||(!t2))||(!t3))||(!t4))= !Zdd p:=by
  unfold Zdd
  cases h1:Zap p.name
  ·simp
  rw[h1]at ht1 ht2 ht3 ht4
  rw[ht1 rfl]at ht2 ht3 ht4 ⊢
  cases h2:p.v.may
  ·simp
  rw[h2]at ht2 ht3 ht4
  rw[ht2 rfl]at ht3 ht4 ⊢
  cases h3:Zm p.deps
  ·simp
  rw[h3]at ht3 ht4
  rw[ht3 rfl]at ht4 ⊢
  cases h4:Zm p.peers
  ·simp
  rw[h4]at ht4
  rw[ht4 rfl]
  simp
 rw[e1]
 refine⟨λh=>?_,λh=>?_⟩
 ·have:Zcv p=false:=by
   unfold Zcv
   have:Zdd p=false:=by simpa using h
   rw[this]; rfl
  rw[←this]; exact hR _ xT
 have hm:Zdd p=true:=by simpa using h
 refine⟨d,hb.at1 xT rfl,e,hb.at1 xT rfl,SE.Zak.go (Zf4 (hd.ext xT) (he.ext xT) λw7 x7=>⟨_,rfl,?_⟩)⟩
 refine⟨d,λ_=>hb.at1 xT rfl,o,λ_=>hb.at1 xT rfl,gCall.intro (Zdb p.deps p.opt) (λ_ q hq=>SE.Zak.go (Zf4 (hd.ext xT) (ho.ext xT) λw' hx=>⟨_,rfl,hq _ hx⟩)) λt5 w8 x8 ht5=>bound ?_⟩
 refine⟨e,λ_=>hb.at1 xT rfl,o,λ_=>hb.at1 xT rfl,gCall.intro (Zdb p.peers p.opt) (λ_ q hq=>SE.Zak.go (Zf4 (he.ext xT) (ho.ext xT) λw' hx=>⟨_,rfl,hq _ hx⟩)) λt6 w9 x9 ht6=>bound ?_⟩
 have e2:((Zdb p.deps p.peers&&t5)&&t6)=Zk7 p:=by
  unfold Zk7
  cases h1:Zdb p.deps p.peers
  ·rfl
  rw[h1]at ht5 ht6
  rw[ht5 rfl]at ht6 ⊢
  cases h2:Zdb p.deps p.opt
  ·rfl
  rw[h2]at ht6
  rw[ht6 rfl]
 rw[e2]
 refine⟨p.name,p.v.ma,p.v.mi,p.v.pa,d,e,o,λ_=>hb.at0 xT rfl,gCall.intro (B (Zh5 p)) (λ_ q hq=>SE.Zdi.go (Zw8 hm (hd.ext xT) (he.ext xT) (ho.ext xT) λw' hx=>⟨_,rfl,hq _ hx⟩)) λt7 w10 x10 ht7=>?_⟩
 have e3:(Zk7 p&&decide ((t7.size:Int)≤4096))=Zcv p:=by
  unfold Zcv
  rw[hm,Bool.true_and]
  cases h1:Zk7 p
  ·rfl
  rw[ht7 h1,Zl,Bool.true_and,Bool.true_and,decide_eq_decide]; omega
 rw[e3]; exact hR _ xT
theorem Z5r(x y:Span):(((x.lo.ma==y.lo.ma)&&((x.lo.mi==y.lo.mi)&&((x.lo.pa==y.lo.pa)&&true)))&&(((x.hi.ma==y.hi.ma)&&((x.hi.mi==y.hi.mi)&&((x.hi.pa==y.hi.pa)&&true)))&&true))=decide (x=y):=by
 rw[Zqe,Zqe]
 obtain⟨a,b⟩:=x; obtain⟨c,d⟩:=y
 rw[Bool.eq_iff_iff]; simp
theorem Ztd{α:Type}{a b:List α}{n:Nat}(ha:n<a.length)(hb:n<b.length)(h:a.take n=b.take n):a.take (n+1)=b.take (n+1)↔a[n]=b[n]:=by
 rw[List.take_succ_eq_append_getElem ha,List.take_succ_eq_append_getElem hb,h]
 simp only[List.append_cancel_left_eq,List.cons.injEq,and_true]
theorem Zw3{α:Type}{a b:List α}{n:Nat}(ha:n<a.length)(hb:n<b.length)(h:a[n]≠b[n]):a≠b:=λe=>h (by subst e; rfl)
end Go.Hal
namespace Go.Hal
open Go.Proofs.Tryz
open Go Go.RowKit Go.MapKept
structure KeyT(P:Program)(mt:TypeId)(K:Value→Prop)(zero:Value):Prop where
 und: ∃kt et,P.underlying mt=some (.map kt et)∧(∀w,(zeroValue et).run P w= .ok zero w)∧
  (∀k,K k→ ∀e w,(Instr.checkKey e 10000 kt k).run P w= .ok () w)∧
  (∀k,K k→ ∀l:List MapEntry,(∀x∈l,K x.key)→ ∀w,((∀x∈l,x.key≠k)∧(Instr.findKey kt k l).run P w= .ok none w)∨ ∃(j:Nat) (e:MapEntry),l[j]? =some e∧e.key=k∧(Instr.findKey kt k l).run P w= .ok (some (j,e.val)) w)
 stay: ∀k,K k→Instr.sameBits 10000 k k=true
def MapR(K:Value→Prop)(w:World)(r:Nat)(m:List (Value×Value)):Prop:=
 ∃es clock,w.heap[r]? =some (.map es clock)∧Stamped es clock∧es.toList.map (λe=>(e.key,e.val))=m∧ ∀x∈es.toList,K x.key
section
variable {P:Program} {mt:TypeId} {K:Value→Prop} {zero:Value} {w w':World} {r:Nat} {m:List (Value×Value)}
theorem MapR.lt(h:MapR K w r m):r<w.heap.size:=by
 obtain⟨es,clock,hb,_⟩:=h
 exact(Array.getElem?_eq_some_iff.1 hb).1
theorem MapR.of(h:MapR K w r m)(he:w'.heap[r]? =w.heap[r]?):MapR K w' r m:=by
 obtain⟨es,clock,hb,h2⟩:=h
 exact⟨es,clock,he.trans hb,h2⟩
theorem MapR.ext(h:MapR K w r m)(hx:Ext w w'):MapR K w' r m:=h.of (hx.block h.lt)
theorem MapR.keys(h:MapR K w r m):(m.map (·.1)).Nodup∧ ∀p∈m,K p.1:=by
 obtain⟨es,clock,_,hs,rfl,hk⟩:=h
 refine⟨?_,λp hp=>?_⟩
 ·rw[List.map_map]; exact hs.2.2
 ·obtain⟨e,he,rfl⟩:=List.mem_map.1 hp
  exact hk e he
theorem Zi5{k:Value→World→Prop}(h: ∀r w',Ext w w'→r=w.heap.size→MapR K w' r []→k (.map (some r)) w'):semS P (Instr.makeMap mt none) w k:=
 ⟨_,_,rfl,h _ _ (Ext.alloc _ _) rfl ⟨#[],0,heap_alloc_new w _,stamped_empty 0,rfl,by simp⟩⟩
theorem Zio(T:KeyT P mt K zero)(h:MapR K w r m){k:Value}(hk:K k):
  ((∀p∈m,p.1≠k)∧ ∀ok,(Instr.lookup mt (.map (some r)) k ok).run P w= .ok (if ok then .tuple #[zero,.bool false]else zero) w)∨
  ∃v,(k,v)∈m∧ ∀ok,(Instr.lookup mt (.map (some r)) k ok).run P w= .ok (if ok then .tuple #[v,.bool true]else v) w:=by
 obtain⟨kt,et,hu,hz,hc,hf⟩:=T.und
 obtain⟨es,clock,hb,hs,rfl,hks⟩:=h
 rcases hf k hk es.toList hks w with⟨hn,hr⟩|⟨j,e,hj,he,hr⟩
 ·refine .inl ⟨λp hp=>?_,λok=>?_⟩
  ·obtain⟨e,he,rfl⟩:=List.mem_map.1 hp
   exact hn e he
  ·cases ok<;>simp[Instr.lookup,Sem.run_bind,run_underlying hu,Result.andThen,Go.MapKept.run_getObj_map hb,hc k hk,hr,hz]
 ·refine .inr ⟨e.val,List.mem_map.2 ⟨e,List.mem_of_getElem? hj,by rw[he]⟩,λok=>?_⟩
  cases ok<;>simp[Instr.lookup,Sem.run_bind,run_underlying hu,Result.andThen,Go.MapKept.run_getObj_map hb,hc k hk,hr]
theorem Zqd(T:KeyT P mt K zero)(h:MapR K w r m){k v:Value}(hk:K k)(hn: ∀p∈m,p.1≠k){c:World→Prop}(hc': ∀w',But r w w'→w'.heap.size=w.heap.size→MapR K w' r (m++ [(k,v)])→c w'):semU P (Instr.mapUpdate mt (.map (some r)) k v) w c:=by
 obtain⟨kt,et,hu,hz,hc,hf⟩:=T.und
 obtain⟨es,clock,hb,hs,rfl,hks⟩:=h
 have hne: ∀x∈es.toList,x.key≠k:=λx hx=>hn _ (List.mem_map.2 ⟨x,hx,rfl⟩)
 rcases hf k hk es.toList hks w with⟨_,hr⟩|⟨j,e,hj,he,hr⟩
 ·refine⟨{w with heap:=w.heap.setIfInBounds r (.map (es.push {key:=k,val:=v,born:=clock}) (clock+1))},?_,hc' _ ⟨?_,rfl,rfl,rfl,?_⟩ ?_ ?_⟩
  ·simp[Instr.mapUpdate,Sem.run_bind,run_underlying hu,Result.andThen,Go.MapKept.run_getObj_map hb,hc k hk,hr,run_setObj_map _ hb]
  ·simp
  ·intro b hbl hne'
   exact(heap_set hb).2 b hne'
  ·simp
  ·exact⟨_,_,(heap_set hb).1,stamped_push hs hne,by simp,λx hx=>by
    simp only[Array.toList_push,List.mem_append,List.mem_singleton]at hx
    rcases hx with hx|rfl
    ·exact hks x hx
    ·exact hk⟩
 ·exact absurd he (hne e (List.mem_of_getElem? hj))
theorem Zxr(T:KeyT P mt K zero)(h:MapR K w r m){k v u:Value}(hk:K k)(hm:(k,u)∈m){c:World→Prop}(hc': ∀w' m',But r w w'→w'.heap.size=w.heap.size→MapR K w' r m'→(k,v)∈m'→m'.map (·.1)=m.map (·.1)→c w'):semU P (Instr.mapUpdate mt (.map (some r)) k v) w c:=by
 obtain⟨kt,et,hu,hz,hc,hf⟩:=T.und
 obtain⟨es,clock,hb,hs,rfl,hks⟩:=h
 rcases hf k hk es.toList hks w with⟨hn,_⟩|⟨j,e,hj,he,hr⟩
 ·obtain⟨e,he,h1⟩:=List.mem_map.1 hm
  exact absurd (congrArg Prod.fst h1) (hn e he)
 ·have hje:es[j]? =some e:=by simpa using hj
  have hsame: ∀e',es[j]? =some e'→e'.key=k:=λe' h=>by rw[hje]at h; cases h; exact he
  have hst:(Instr.keyThatStays (((es[j]?).map (·.key)).getD k) k).run P w= .ok k w:=by
   rw[hje]
   simp only[Option.map_some,Option.getD_some,he]
   simp[Instr.keyThatStays,T.stay k hk]
  refine⟨{w with heap:=w.heap.setIfInBounds r (.map (es.modify j λe=>{e with key:=k,val:=v}) clock)},?_,hc' _ ((es.modify j λe=>{e with key:=k,val:=v}).toList.map λe=>(e.key,e.val)) ⟨?_,rfl,rfl,rfl,?_⟩ ?_ ?_ ?_ ?_⟩
  ·simp only[Instr.mapUpdate,Sem.run_bind,run_underlying hu,Result.andThen,Go.MapKept.run_getObj_map hb,hc k hk,hr]
   rw[hst]
   simp[run_setObj_map _ hb]
  ·simp
  ·intro b hbl hne'
   exact(heap_set hb).2 b hne'
  ·simp
  ·refine⟨_,_,(heap_set hb).1,stamped_modify hs j _ (λ_ _=>rfl) (λe' _ h=>(hsame e' h).symm),rfl,λx hx=>?_⟩
   have hkeys:=modify_keys (es:=es) j (λe=>{e with key:=k,val:=v}) (λe' h=>(hsame e' h).symm)
   have:x.key∈(es.modify j λe=>{e with key:=k,val:=v}).toList.map (·.key):=List.mem_map.2 ⟨x,hx,rfl⟩
   rw[hkeys]at this
   obtain⟨y,hy,hxy⟩:=List.mem_map.1 this
   rw[←hxy]; exact hks y hy
  ·have hjl:j<es.size:=(Array.getElem?_eq_some_iff.1 hje).1
   refine List.mem_map.2 ⟨{e with key:=k,val:=v},?_,rfl⟩
   refine List.mem_of_getElem? (i:=j) ?_
   simp[Array.getElem?_modify,hje]
  ·rw[List.map_map,List.map_map]
   exact modify_keys (es:=es) j (λe=>{e with key:=k,val:=v}) (λe' h=>(hsame e' h).symm)
theorem Z46{kt et:TypeId}(hu:P.underlying mt=some (.map kt et))(h:MapR K w r m):(Builtin.len_ #[mt] 3 #[.map (some r)]).run P w= .ok (.int .i64 m.length) w:=by
 obtain⟨es,clock,hb,hs,rfl,hks⟩:=h
 simp[Builtin.len_,Sem.run_bind,run_underlying hu,Result.andThen,Go.MapKept.run_getObj_map hb,goInt]
def IterR(w:World)(it r:Nat)(left:List (Value×Value))(last:Option (Value×Value)):Prop:=
 ∃es clock seen,w.heap[r]? =some (.map es clock)∧Stamped es clock∧w.heap[it]? =some (.mapIter (some r) clock seen clock)∧
  (es.toList.filter λe=>!seen.contains e.born).map (λe=>(e.key,e.val))=left∧
  (∀p,last=some p→ ∃st,seen.back? =some st∧ ∃e,es.find? (·.born==st)=some e∧(e.key,e.val)=p)
theorem IterR.of{it:Nat}{left:List (Value×Value)}{last:Option (Value×Value)}(h:IterR w it r left last)(h1:w'.heap[r]? =w.heap[r]?)(h2:w'.heap[it]? =w.heap[it]?):IterR w' it r left last:=by
 obtain⟨es,clock,seen,a,b,c,d⟩:=h
 exact⟨es,clock,seen,h1.trans a,b,h2.trans c,d⟩
theorem IterR.lt{it:Nat}{left:List (Value×Value)}{last:Option (Value×Value)}(h:IterR w it r left last):r<w.heap.size∧it<w.heap.size:=by
 obtain⟨es,clock,seen,a,b,c,d⟩:=h
 exact⟨(Array.getElem?_eq_some_iff.1 a).1,(Array.getElem?_eq_some_iff.1 c).1⟩
theorem IterR.ext{it:Nat}{left:List (Value×Value)}{last:Option (Value×Value)}(h:IterR w it r left last)(hx:Ext w w'):IterR w' it r left last:=h.of (hx.block h.lt.1) (hx.block h.lt.2)
theorem Zul{kt et:TypeId}(hu:P.underlying mt=some (.map kt et))(h:MapR K w r m){k:Value→World→Prop}(hk: ∀it w',Ext w w'→it=w.heap.size→IterR w' it r m none→k (.pointer (some ⟨it,0,none⟩)) w'):semS P (Instr.range mt (.map (some r))) w k:=by
 obtain⟨es,clock,hb,hs,rfl,hks⟩:=h
 refine⟨_,w.alloc (.mapIter (some r) clock #[] clock),?_,hk _ _ (Ext.alloc _ _) rfl ⟨es,clock,#[],?_,hs,heap_alloc_new w _,?_,λp h=>by cases h⟩⟩
 ·simp[Instr.range,Sem.run_bind,run_underlying hu,Result.andThen,Go.MapKept.run_getObj_map hb]
 ·rw[(heap_alloc w _).2 r (Array.getElem?_eq_some_iff.1 hb).1]; exact hb
 ·congr 1
  apply List.filter_eq_self.2
  intro x hx; simp
theorem Zyt{it:Nat}{left:List (Value×Value)}{p:Value×Value}(h:IterR w it r left (some p)):(Instr.entry (.pointer (some ⟨it,0,none⟩))).run P w= .ok (.tuple #[p.1,p.2]) w:=by
 obtain⟨es,clock,seen,hb,hs,hi,hl,hp⟩:=h
 obtain⟨st,h1,e,h2,rfl⟩:=hp p rfl
 have hi':(getObj it).run P w= .ok (.mapIter (some r) clock seen clock) w:=by simp[getObj,Sem.run,hi]
 simp[Instr.entry,Sem.run_bind,Result.andThen,hi',h1,Go.MapKept.run_getObj_map hb,h2]
theorem Zwq{α β:Type}[BEq β][LawfulBEq β](f:α→β){l:List α}(hn:(l.map f).Nodup){i:Nat}(hi:i<l.length):(l.filter λe=>f e != f l[i])=l.take i++l.drop (i+1):=by
 have hsp:l=l.take i++l[i]::l.drop (i+1):=by rw[←List.drop_eq_getElem_cons hi,List.take_append_drop]
 have hn':=hn
 rw[hsp,List.map_append,List.map_cons,List.nodup_append]at hn'
 obtain⟨h1,h2,h3⟩:=hn'
 rw[List.nodup_cons]at h2
 generalize l[i]=x at*
 conv=>lhs; rw[hsp]
 rw[List.filter_append,List.filter_cons,if_neg sI]
 congr 1
 ·apply List.filter_eq_self.2
  intro y hy
  have:=h3 (f y) (List.mem_map_of_mem hy) (f x) sI
  simpa using this
 ·apply List.filter_eq_self.2
  intro y hy
  have:f y≠f x:=λe=>h2.1 (e▸List.mem_map_of_mem hy)
  simpa using this
theorem Zmr{α β:Type}(f:α→β){l:List α}(hn:(l.map f).Nodup){x y:α}(hx:x∈l)(hy:y∈l)(h:f x=f y):x=y:=by
 induction l with
 |nil=>cases hx
 |cons a r ih=>
  rw[List.map_cons,List.nodup_cons]at hn
  rcases List.mem_cons.1 hx with hx1|hx1<;>rcases List.mem_cons.1 hy with hy1|hy1
  ·rw[hx1,hy1]
  ·subst hx1; exact absurd (h▸List.mem_map_of_mem hy1) hn.1
  ·subst hy1; exact absurd (h▸List.mem_map_of_mem hx1) hn.1
  ·exact ih hn.2 hx1 hy1
theorem Z6u(n t:Nat)(h:0<n):(Question.mapNext n).cut t<n:=Nat.mod_lt _ h
theorem Zw4{it:Nat}{left:List (Value×Value)}{last:Option (Value×Value)}(h:IterR w it r left last){k:Value→World→Prop}
  (h0:left= []→k (.tuple #[.bool false]) w)
  (h1: ∀(p:Value×Value) (l1 l2:List (Value×Value)) w',left=l1++p::l2→(∀b,b<w.heap.size→b≠it→w'.heap[b]? =w.heap[b]?)→w'.heap.size=w.heap.size→But it w w'→IterR w' it r (l1++l2) (some p)→k (.tuple #[.bool true,p.1,p.2]) w'):
  semS P (Instr.next (.pointer (some ⟨it,0,none⟩)) false 0) w k:=by
 obtain⟨es,clock,seen,hb,hs,hi,hl,hp⟩:=h
 have hi': ∀w1:World,w1.heap=w.heap→(getObj it).run P w1= .ok (.mapIter (some r) clock seen clock) w1:=λw1 h=>by simp[getObj,Sem.run,h,hi]
 have hg: ∀w1:World,w1.heap=w.heap→(getObj r).run P w1= .ok (.map es clock) w1:=λw1 h=>by simp[getObj,Sem.run,h,hb]
 have hcond:(!seen.isEmpty&& !es.isEmpty&&es.all (λe=>decide (e.born≥clock)))=false:=by
  cases he:es.isEmpty
  ·have hne:es.toList≠ []:=by
    intro h0
    have:es= #[]:=by rw[←Array.toArray_toList (xs:=es),h0]
    rw[this]at he; cases he
   obtain⟨x,t,hx⟩:=List.exists_cons_of_ne_nil hne
   have hxb:=hs.1 x (by rw[hx]; simp)
   have:es.all (λe=>decide (e.born≥clock))=false:=by
    rw[Bool.eq_false_iff]
    intro hall
    rw[Array.all_eq_true']at hall
    have:=hall x (by rw[←Array.mem_toList_iff,hx]; simp)
    simp at this; omega
   rw[this]; simp
  ·simp
 have hmem: ∀x∈es.filter (λe=>!seen.contains e.born),x.born<clock:=λx hx=>hs.1 x (by
  rw[Array.mem_filter]at hx
  exact Array.mem_toList_iff.2 hx.1)
 have hold:(es.filter (λe=>!seen.contains e.born)).filter (λe=>decide (e.born<clock))=es.filter (λe=>!seen.contains e.born):=by
  rw[Array.filter_eq_self]
  intro x hx
  simpa using hmem x hx
 have hnew:(es.filter (λe=>!seen.contains e.born)).filter (λe=>decide (e.born≥clock))= #[]:=by
  rw[Array.filter_eq_empty_iff]
  intro x hx
  have:=hmem x hx
  simp; omega
 have hL:(es.filter (λe=>!seen.contains e.born)).toList.map (λe=>(e.key,e.val))=left:=by rw[←hl,Array.toList_filter]
 unfold semS
 simp only[Instr.next,Sem.run_bind,Result.andThen,hi' w rfl,hg w rfl,hcond,hold,hnew]
 generalize hLe:es.filter (λe=>!seen.contains e.born)=L at*
 simp only[Bool.false_eq_true,if_false,Array.append_empty]
 by_cases hE:L= #[]
 ·have hl0:left= []:=by rw[←hL,hE]; rfl
  refine⟨_,_,?_,h0 hl0⟩
  rw[hE]
  simp[Sem.run_bind,Question.forced,Result.andThen]
 ·have hE':L.isEmpty=false:=by simpa using hE
  have hpos:0<L.size:=by
   rcases Nat.eq_zero_or_pos L.size with h|h
   ·exact absurd (Array.eq_empty_of_size_eq_zero h) hE
   ·exact h
  rw[hE',if_neg sI,Array.empty_append,Array.size_map]
  obtain⟨i,w1,hr,hlt,hw⟩: ∃i w1,(choose (.mapNext L.size)).run P w= .ok i w1∧i<L.size∧(w1=w∨w1=w.drew):=by
   rw[run_choose_drew]
   by_cases hf:(Question.mapNext L.size).forced=true
   ·exact⟨0,w,by rw[if_pos hf],hpos,.inl rfl⟩
   ·exact⟨_,_,by rw[if_neg hf],Z6u _ _ hpos,.inr rfl⟩
  have hget:(Array.map some L)[i]? =some (some L[i]):=by simp[hlt]
  have hheap:w1.heap=w.heap:=by rcases hw with rfl|rfl<;>rfl
  have hset:(setObj it (.mapIter (some r) clock (seen.push L[i].born) clock)).run P w1= .ok () {w1 with heap:=w1.heap.setIfInBounds it (.mapIter (some r) clock (seen.push L[i].born) clock)}:=by
   simp[setObj,Sem.run,hheap,hi]
  have hso:=heap_set (w:=w1) (r:=it) (o':=.mapIter (some r) clock (seen.push L[i].born) clock) (by rw[hheap]; exact hi)
  have hbut: ∀b,b<w.heap.size→b≠it→(w1.heap.setIfInBounds it (.mapIter (some r) clock (seen.push L[i].born) clock))[b]? =w.heap[b]? :=λb _ hne=>by rw[hso.2 b hne,hheap]
  have hsz:(w1.heap.setIfInBounds it (.mapIter (some r) clock (seen.push L[i].born) clock)).size=w.heap.size:=by simp[hheap]
  have hsp:L.toList=L.toList.take i++L[i]::L.toList.drop (i+1):=by
   have h1:i<L.toList.length:=by simpa using hlt
   have h2:=List.drop_eq_getElem_cons h1
   simp only[Array.getElem_toList]at h2
   rw[←h2,List.take_append_drop]
  have hrne:r≠it:=by
   rintro rfl
   rw[hb]at hi; cases hi
  have hLs:L.toList=es.toList.filter λe=>!seen.contains e.born:=by rw[←hLe,Array.toList_filter]
  have hnod:(L.toList.map (·.born)).Nodup:=by rw[hLs]; exact(List.filter_sublist.map _).nodup hs.2.1
  refine⟨_,{w1 with heap:=w1.heap.setIfInBounds it (.mapIter (some r) clock (seen.push L[i].born) clock)},?_,h1 (L[i].key,L[i].val) ((L.toList.take i).map λe=>(e.key,e.val)) ((L.toList.drop (i+1)).map λe=>(e.key,e.val)) _ ?_ hbut hsz ⟨by show w.heap.size≤_; rw[hsz]; exact Nat.le_refl _,?_,?_,?_,hbut⟩ ⟨es,clock,seen.push L[i].born,?_,hs,hso.1,?_,?_⟩⟩
  ·simp only[Sem.run_bind,hr,Result.andThen,hget,hset]
   rfl
  ·rw[←hL]
   conv=>lhs; rw[hsp]
   simp
  ·rcases hw with rfl|rfl<;>rfl
  ·rcases hw with rfl|rfl<;>rfl
  ·rcases hw with rfl|rfl<;>rfl
  ·show(w1.heap.setIfInBounds it _)[r]? =_
   rw[hso.2 r hrne,hheap]; exact hb
  ·rw[←List.map_append]
   congr 1
   have e1:(es.toList.filter λe=>!(seen.push L[i].born).contains e.born)=L.toList.filter λe=>e.born != L[i].born:=by
    rw[hLs,List.filter_filter]
    apply List.filter_congr
    intro x _
    rw[Array.contains_push]
    have:(L[i].born==x.born)=(x.born==L[i].born):=by rw[Bool.eq_iff_iff,beq_iff_eq,beq_iff_eq]; exact eq_comm
    simp only[bne,Bool.not_or]
    rw[Bool.and_comm]
    try rfl
    try rw[this]
   rw[e1]
   have:=Zwq MapEntry.born hnod (i:=i) (by rw[Array.length_toList]; exact hlt)
   simpa using this
  ·rintro p h
   cases h
   refine⟨L[i].born,by simp,?_⟩
   have hin:L[i]∈es.toList:=by
    have:L[i]∈L.toList:=by simp
    rw[hLs]at this
    exact(List.mem_filter.1 this).1
   have hsome:(es.toList.find? λx=>x.born==L[i].born).isSome:=List.find?_isSome.2 ⟨_,hin,by simp⟩
   obtain⟨e,he⟩:=Option.isSome_iff_exists.1 hsome
   refine⟨e,by rw[←Array.find?_toList]; exact he,?_⟩
   have h2:=List.find?_some he
   have h3:=List.mem_of_find?_eq_some he
   rw[Zmr (λe:MapEntry=>e.born) hs.2.1 h3 hin (by simpa using h2)]
end
end Go.Hal
namespace Go.Hal
open Go.Proofs.Tryz
open Go Go.RowKit Go.Proofs Go.MapKept
def strV(v:Value):Prop:=∃s,v= .string s
theorem strT:KeyT prog 188 strV (.int .i64 0) where
 und:=⟨9,3,underlying188,Tryz.zeroValue3,λk ⟨s,h⟩ e w=>by subst h; exact run_checkKey (d:=.string) (k:=.string s) underlying9 trivial e 9999,λk ⟨s,h⟩ l hl w=>by
  subst h
  rcases findNow_spec (d:=.string) (k:=.string s) trivial l 0 (λx hx=>by obtain⟨t,ht⟩:=hl x hx; rw[ht]; trivial)with⟨h1,h2⟩|⟨j,e,h1,h2,h3⟩
  ·exact .inl ⟨h2,run_findKey underlying9 h1⟩
  ·exact .inr ⟨j,e,h2,h3,run_findKey underlying9 (by rw[Nat.zero_add]at h1; exact h1)⟩⟩
 stay:=λk ⟨s,h⟩=>by subst h; exact sameBits_self (d:=.string) (k:=.string s) trivial _
def keyV(n:ByteArray)(v:Ver):Value:=.agg #[.string n,.int .i64 v.ma,.int .i64 v.mi,.int .i64 v.pa]
def Zpt(x:Value):Prop:=∃n v,x=keyV n v
theorem Zq0{n m:ByteArray}{v u:Ver}:keyV n v=keyV m u↔n=m∧v=u:=by
 unfold keyV
 obtain⟨a,b,c⟩:=v; obtain⟨a',b',c'⟩:=u
 simp
theorem Z77(n m:ByteArray)(v u:Ver)(w:World):(Op.equal 86 (keyV n v) (keyV m u)).run prog w= .ok (decide (n=m∧v=u)) w:=by
 have h:(Op.equalIn (9997+3) 86 (keyV n v) (keyV m u)).run prog w= .ok ((bEq n m)&&(((v.ma==u.ma)&&((v.mi==u.mi)&&((v.pa==u.pa)&&true)))&&true)) w:=
  (eqS kR kR (fs:= [⟨ "name",9,0,false, "", "halyard/catalog",0⟩,⟨ "version",50,1,false, "", "halyard/catalog",16⟩]) kR (Zr (x:=(Value.string n)) (y:=(Value.string m)) rfl kR kR (run_equalIn_string w _ 9 n m kR) (Zr (x:=(Value.agg #[(Value.int .i64 v.ma),(Value.int .i64 v.mi),(Value.int .i64 v.pa)])) (y:=(Value.agg #[(Value.int .i64 u.ma),(Value.int .i64 u.mi),(Value.int .i64 u.pa)])) rfl kR kR (eqS kR kR (fs:= [⟨ "Major",3,0,false, "", "",0⟩,⟨ "Minor",3,1,false, "", "",8⟩,⟨ "Patch",3,2,false, "", "",16⟩]) kR (Zr (x:=(Value.int .i64 v.ma)) (y:=(Value.int .i64 u.ma)) rfl kR kR (run_equalIn_int w _ 3 .i64 .i64 v.ma u.ma kR) (Zr (x:=(Value.int .i64 v.mi)) (y:=(Value.int .i64 u.mi)) rfl kR kR (run_equalIn_int w _ 3 .i64 .i64 v.mi u.mi kR) (Zr (x:=(Value.int .i64 v.pa)) (y:=(Value.int .i64 u.pa)) rfl kR kR (run_equalIn_int w _ 3 .i64 .i64 v.pa u.pa kR) Zeh)))) Zeh)))
 have e:((bEq n m)&&(((v.ma==u.ma)&&((v.mi==u.mi)&&((v.pa==u.pa)&&true)))&&true))=decide (n=m∧v=u):=by
  rw[Zqe,Bool.and_true,Bool.eq_iff_iff,Bool.and_eq_true,Zca,decide_eq_true_eq,decide_eq_true_eq]
 rw[e]at h
 exact h
theorem askKey(n:ByteArray)(v:Ver)(w:World): ∀(l:List MapEntry) (i:Nat),(∀x∈l,Zpt x.key)→((∀x∈l,x.key≠keyV n v)∧(Instr.findAsking 86 (keyV n v) l i).run prog w= .ok none w)∨
  ∃(j:Nat) (e:MapEntry),l[j]? =some e∧e.key=keyV n v∧(Instr.findAsking 86 (keyV n v) l i).run prog w= .ok (some (i+j,e.val)) w
 | [],i,_=> .inl ⟨by simp,by simp[Instr.findAsking]⟩
 |e::es,i,h=>by
  obtain⟨m,u,hk⟩:=h e (.head _)
  have hq:=Z77 n m v u w
  rw[←hk]at hq
  by_cases he:n=m∧v=u
  ·refine .inr ⟨0,e,rfl,by rw[hk]; exact Zq0.2 ⟨he.1.symm,he.2.symm⟩,?_⟩
   simp only[Instr.findAsking,Sem.run_bind,hq,Result.andThen,decide_eq_true he]
   rfl
  ·have hne:e.key≠keyV n v:=λq=>by
    rw[hk]at q
    have:=Zq0.1 q
    exact he ⟨this.1.symm,this.2.symm⟩
   have hrun:(Instr.findAsking 86 (keyV n v) (e::es) i).run prog w=(Instr.findAsking 86 (keyV n v) es (i+1)).run prog w:=by
    simp only[Instr.findAsking,Sem.run_bind,hq,Result.andThen,decide_eq_false he]
    rfl
   rcases askKey n v w es (i+1) (λx hx=>h x (.tail _ hx))with⟨h1,h2⟩|⟨j,e',h1,h2,h3⟩
   ·exact .inl ⟨λx hx=>by
     cases hx with
     |head=>exact hne
     |tail _ hx=>exact h1 x hx,by rw[hrun]; exact h2⟩
   ·exact .inr ⟨j+1,e',by simpa using h1,h2,by rw[hrun,h3,show i+1+j=i+(j+1) by omega]⟩
def Z8f:Value:=.agg #[.string ⟨#[]⟩,.int .i64 0,.int .i64 0,.int .i64 0,.slice none 0 0,.slice none 0 0,.slice none 0 0]
theorem Z6t(v:Ver)(e:Bool)(w:World):(Instr.checkKey e 9999 50 (.agg #[.int .i64 v.ma,.int .i64 v.mi,.int .i64 v.pa])).run prog w= .ok () w:=by
 have hi: ∀x:Int,(Instr.checkKey e 9998 3 (.int .i64 x)).run prog w= .ok () w:=λx=>run_checkKey (d:=.int .i64) (k:=.int .i64 x) underlying3 rfl e 9997
 rw[Instr.checkKey]
 simp only[Sem.run_bind,run_underlying underlying50,Result.andThen]
 simp[Sem.run_bind,Result.andThen,part,run_underlying underlying3,hi]
theorem Z6s(n:ByteArray)(v:Ver)(e:Bool)(w:World):(Instr.checkKey e 10000 86 (keyV n v)).run prog w= .ok () w:=by
 have hs:(Instr.checkKey e 9999 9 (.string n)).run prog w= .ok () w:=run_checkKey (d:=.string) (k:=.string n) underlying9 trivial e 9998
 unfold keyV
 rw[Instr.checkKey]
 simp only[Sem.run_bind,run_underlying underlying86,Result.andThen]
 simp[Sem.run_bind,Result.andThen,part,run_underlying underlying9,run_underlying underlying50,hs,Z6t v e w]
theorem keyT:KeyT prog 81 Zpt Z8f where
 und:=⟨86,52,underlying81,Tryz.zeroValue52,λk ⟨n,v,h⟩ e w=>by subst h; exact Z6s n v e w,λk ⟨n,v,h⟩ l hl w=>by
  subst h
  have hfn: ∀l:List MapEntry,(Instr.findKey 86 (keyV n v) l).run prog w=(Instr.findAsking 86 (keyV n v) l 0).run prog w:=by
   intro l
   cases l with
   |nil=>simp[Instr.findKey,Instr.findNow,Instr.findAsking,run_underlying underlying86,Sem.run_bind,Result.andThen]
   |cons e es=>simp[Instr.findKey,Instr.findNow,Instr.sameNow,run_underlying underlying86,Sem.run_bind,Result.andThen]
  rw[hfn]
  rcases askKey n v w l 0 hl with h|⟨j,e,h1,h2,h3⟩
  ·exact .inl h
  ·exact .inr ⟨j,e,h1,h2,by rw[Nat.zero_add]at h3; exact h3⟩⟩
 stay:=λk ⟨n,v,h⟩=>by subst h; simp[keyV,Instr.sameBits,Go.MapKept.bytes_beq]
end Go.Hal
namespace Go.Hal
open Go.Proofs.Tryz
open Go Go.RowKit Go.Proofs Go.Shelf
theorem Zkv{s:Sl}{l:List Dep}{S:Nat→Prop}{w:World}{R:Bool→World→Prop}(hs:SlR depE w S s l)(hR: ∀w',Ext w w'→R (Zm l) w'):SE.Zhp s w R:=by
 unfold SE.Zhp
 have hl:=hs.len
 refine loop1.up hs.max (λi w'=>Ext w w'∧Zcp none (l.take i)=true) ⟨Ext.refl _,rfl⟩ λi w0 nxt hi ⟨x0,hI⟩ hn=>⟨λhlt=>?_,λhge=>?_⟩
 ·have hlt':i<l.length:=oM
  obtain⟨ad,t,ha,_,hnm,hr,hc⟩:=Zhg hs hlt'
  have hst:=Zrx hlt' hI
  refine⟨ad,⟨ha,oM,hlt⟩,_,t,hc _ xT,newS.intro λa w1 x1 hb hba _=>stw0.intro hb sI λw2' b2 _ hb2=>bnd.drew λw2 x2=>?_⟩
  have x2':Ext w0 w2':=b2.ext x1 oM
  refine⟨_,hb2.at0 xT rfl,SE.Zep.go (scanName_se hnm λw3 x3=>⟨_,rfl,bound ?_⟩)⟩
  refine⟨t,λ_=>hb2.at1 xT rfl,gCall.intro (Z3 l[i].range) (λ_ q hq=>SE.Zh8.go (spanMay_se (hr.ext xT) λw' hx=>⟨_,rfl,hq _ hx⟩)) λt2 w4 x4 ht2=>bound ?_⟩
  refine⟨t,λ_=>hb2.at1 xT rfl,bound (bound ?_)⟩
  have hlast: ∀h0:0<i,Zm3 none (l.take i)=some (l[i - 1]'oM).name:=λh0=>by
   have:=Zpw (l:=l) (n:=i - 1) oM
   rw[←this]; congr 2; omega
  have hd: ∃(ad15:Addr) (u:ByteArray),(decide ((0:Int)<(i:Int))=true→(s.a=some ad15∧(0:Int)≤Za ((i:Int) - 1)∧Za ((i:Int) - 1)<(s.len:Int))∧ldc w4 (ad15.add ((Za ((i:Int) - 1)).toNat*2)) [.string u]∧Zm3 none (l.take i)=some u):=by
   by_cases h0:0<i
   ·have ew:=Zvs h0 hi hs.max
    obtain⟨ad',t',ha',_,hn',_,hc'⟩:=Zhg hs (n:=i - 1) oM
    exact⟨ad',_,λ_=>⟨by rw[ew]; exact⟨ha',oM,oM⟩,by rw[ew]; exact(hc' _ xT).pre rfl,hlast h0⟩⟩
   ·exact⟨ad,⟨#[]⟩,λh=>by simp at h; omega⟩
  obtain⟨ad15,u,hu⟩:=hd
  have hg: ∀{b:Bool},(!b&&decide ((0:Int)<(i:Int)))=true→decide ((0:Int)<(i:Int))=true:=λh=>by simp only[Bool.and_eq_true]at h; exact h.2
  refine⟨ad15,λhb=>(hu (hg hb)).1,u,λhb=>(hu (hg hb)).2.1,_,λ_=>hb2.at0 xT rfl,?_⟩
  have e:((((!Zap l[i].name)||(!t2))||((t.len:Int)==0))||(decide ((0:Int)<(i:Int))&&(!bLt u l[i].name)))= !Zcp none (l.take (i+1)):=by
   rw[hst,dpOk]
   have e0:((t.len:Int)==0)=l[i].range.isEmpty:=by
    rw[hr.len]
    cases l[i].range<;>simp
    omega
   rw[e0]
   cases h1:Zap l[i].name
   ·simp
   ·rw[h1]at ht2
    rw[ht2 rfl]
    cases h2:Z3 l[i].range
    ·simp
    ·cases h3:l[i].range.isEmpty
     ·by_cases h0:0<i
      ·have hb:decide ((0:Int)<(i:Int))=true:=by simpa using h0
       rw[hb,(hu hb).2.2]
       simp[Zji]
      ·have hb:decide ((0:Int)<(i:Int))=false:=by simp; omega
       have hi0:i=0:=oM
       subst hi0
       simp[Zm3,Zji]
     ·simp
  rw[e]
  refine⟨λh=>?_,λh=>hn hlt' _ ⟨xT,by simpa using h⟩⟩
  rw[←Zk9 (i:=i+1) (by simpa using h)]; exact hR _ xT
 ·have:i=l.length:=oM
  rw[this,List.take_length]at hI
  have e:decide ((s.len:Int)≤16)=Zm l:=by
   unfold Zm
   rw[hI,Bool.true_and,decide_eq_decide]; omega
  rw[e]; exact hR _ xT
def ones(ns:List ByteArray):List (Value×Value):=ns.map λn=>(.string n,.int .i64 1)
theorem MapR.one{K:Value→Prop}{w:World}{r:Nat}{m:List (Value×Value)}(h:MapR K w r m){k u v:Value}(h1:(k,u)∈m)(h2:(k,v)∈m):u=v:=by
 have:=Zmr Prod.fst h.keys.1 h1 h2 rfl
 exact congrArg Prod.snd this
theorem Zqp{s:Sl}{l:List Dep}{ns:List ByteArray}{S:Nat→Prop}{w0 w:World}{r:Nat}{R:Bool→World→Prop}{k:World→Prop}(hs:SlR depE w0 S s l)(x0:Ext w0 w)(hr:w0.heap.size≤r)(hm:MapR strV w r (ones ns))(hns:ns.Nodup)
  (hf: ∀w',Ext w0 w'→ ¬(ns++l.map (·.name)).Nodup→R false w') (hk: ∀w',Ext w0 w'→(ns++l.map (·.name)).Nodup→MapR strV w' r (ones (ns++l.map (·.name)))→k w'):
  loop1 0 w λt17 vw2 nxt3=>((t17<(s.len:Int)→ ∃(ad4:Addr),(s.a=some ad4∧(0:Int)≤t17∧t17<(s.len:Int))∧ ∃(t20_Name:ByteArray) (t20_Range:Sl),(ldc vw2 (ad4.add (t17.toNat*2)) [(Value.string t20_Name),(Sl.v t20_Range)])∧newS vw2 [(Value.string (ByteArray.mk #[])),(Sl.v Sl.nil)] 152 λa vw7=>stw vw7 a [(Value.string t20_Name),(Sl.v t20_Range)] λvw8=>∃(t23:ByteArray),(ldc vw8 a [(Value.string t23)])∧semS prog (Instr.lookup 188 (Value.map (some r)) (Value.string t23) false) vw8 λv11 vw10=>∃(t24:Int),v11=(.int .i64 t24)∧semU prog (Instr.mapUpdate 188 (Value.map (some r)) (Value.string t23) (.int .i64 (Za (t24+1)))) vw10 λvw12=>∃(t28:ByteArray),(ldc vw12 a [(Value.string t28)])∧semS prog (Instr.lookup 188 (Value.map (some r)) (Value.string t28) false) vw12 λv15 vw14=>∃(t29:Int),v15=(.int .i64 t29)∧((1<t29→R false vw14)∧(¬(1<t29)→nxt3 (Za (t17+1)) vw14)))∧(¬(t17<(s.len:Int))→k vw2)):=by
 have hl:=hs.len
 refine loop1.up hs.max (λi w'=>Ext w0 w'∧(ns++(l.take i).map (·.name)).Nodup∧MapR strV w' r (ones (ns++(l.take i).map (·.name)))) ⟨x0,by simpa using hns,by simpa using hm⟩ λi w1 nxt hi ⟨x1,hI,hM⟩ hn=>⟨λhlt=>?_,λhge=>?_⟩
 ·have hlt':i<l.length:=oM
  obtain⟨ad,t,ha,_,hnm,hrg,hc⟩:=Zhg hs hlt'
  refine⟨ad,⟨ha,oM,hlt⟩,_,t,hc _ xT,newS.intro λa w2 x2 hb hba _=>stw0.intro hb sI λw3 b3 _ hb3=>⟨_,hb3.ldc.pre rfl,?_⟩⟩
  have x3:Ext w1 w3:=b3.ext x2 oM
  have x03:Ext w0 w3:=x1.trans x3
  have hM3:=hM.ext x3
  have hmr:=hM.lt
  have hsz2:=x2.size
  have hnames:(l.take (i+1)).map (·.name)=(l.take i).map (·.name)++ [l[i].name]:=by rw[List.take_succ_eq_append_getElem hlt',List.map_append]; rfl
  rcases Zio strT hM3 (k:=.string l[i].name) ⟨_,rfl⟩with⟨hnot,hrun⟩|⟨v,hin,hrun⟩
  ·refine⟨_,_,hrun false,0,rfl,?_⟩
   refine Zqd strT hM3 ⟨_,rfl⟩ hnot λw4 b4 hs4 hM4=>?_
   have hb4:BoxAt w4 a [.string l[i].name,Sl.v t]:=b4.box hb3 oM
   have hx4:Ext w0 w4:=b4.ext x03 hr
   have hM4':MapR strV w4 r (ones (ns++(l.take (i+1)).map (·.name))):=by
    rw[hnames,←List.append_assoc,ones,List.map_append]
    exact hM4
   refine⟨_,hb4.ldc.pre rfl,?_⟩
   have hin4:(Value.string l[i].name,Value.int .i64 1)∈ones (ns++(l.take (i+1)).map (·.name)):=by
    rw[hnames,ones]; simp
   rcases Zio strT hM4' (k:=.string l[i].name) ⟨_,rfl⟩with⟨hnot',_⟩|⟨v',hin',hrun'⟩
   ·exact absurd rfl (hnot' _ hin4)
   ·have hv:v'= .int .i64 1:=hM4'.one hin' hin4
    subst hv
    refine⟨_,_,hrun' false,1,rfl,λh=>absurd h dC,λ_=>hn hlt' _ ⟨hx4,?_,hM4'⟩⟩
    rw[hnames,←List.append_assoc,List.nodup_append]
    refine⟨hI,by simp,λx hx y hy=>?_⟩
    simp only[List.mem_singleton]at hy
    subst hy
    intro e
    subst e
    exact hnot (.string l[i].name,.int .i64 1) (List.mem_map.2 ⟨_,hx,rfl⟩) rfl
  ·obtain⟨n,hn1,hn2⟩:=List.mem_map.1 hin
   simp only[Prod.mk.injEq,Value.string.injEq]at hn2
   obtain⟨hn2,hv⟩:=hn2
   subst hv
   refine⟨_,_,hrun false,1,rfl,?_⟩
   refine Zxr strT hM3 ⟨_,rfl⟩ hin λw4 m' b4 hs4 hM4 hin4 _=> ?_
   have hb4:BoxAt w4 a [.string l[i].name,Sl.v t]:=b4.box hb3 oM
   have hx4:Ext w0 w4:=b4.ext x03 hr
   refine⟨_,hb4.ldc.pre rfl,?_⟩
   rcases Zio strT hM4 (k:=.string l[i].name) ⟨_,rfl⟩with⟨hnot',_⟩|⟨v',hin',hrun'⟩
   ·exact absurd rfl (hnot' _ hin4)
   ·have hv:v'= .int .i64 2:=hM4.one hin' hin4
    subst hv
    refine⟨_,_,hrun' false,2,rfl,λ_=>hf _ hx4 ?_,λh=>absurd dC h⟩
    intro hnd
    have hsplit:l.map (·.name)=(l.take i).map (·.name)++(l[i].name::(l.drop (i+1)).map (·.name)):=by
     conv=>lhs; rw[←List.take_append_drop i l,List.drop_eq_getElem_cons hlt',List.map_append,List.map_cons]
    rw[hsplit,←List.append_assoc,List.nodup_append]at hnd
    exact hnd.2.2 n hn1 l[i].name sI hn2
 ·have:i=l.length:=oM
  rw[this,List.take_length]at hI hM
  exact hk _ x1 hI hM
theorem Z3z{w:World}{a:Addr}{d e o:Sl}{i:Nat}(hb:BoxAt w a [Sl.v d,Sl.v e,Sl.v o]):(i=0→ldc w (a.add (i*1)) [Sl.v d])∧(i=1→ldc w (a.add (i*1)) [Sl.v e])∧(i=2→ldc w (a.add (i*1)) [Sl.v o]):=
 ⟨λh=>by subst h; exact hb.ldc.mid rfl,λh=>by subst h; exact hb.ldc.mid rfl,λh=>by subst h; exact hb.ldc.mid rfl⟩
theorem Zsw{a:Addr}{d e o:Sl}{ld le lo:List Dep}{S:Nat→Prop}{w:World}{R:Bool→World→Prop}(hb:BoxAt w a [Sl.v d,Sl.v e,Sl.v o])(hd:SlR depE w S d ld)(he:SlR depE w S e le)(ho:SlR depE w S o lo)
  (hR: ∀w',Ext w w'→R (decide ((ld++le++lo).map (·.name)).Nodup) w'):SE.Ziq (Sl.mk (some a) 3 3) w R:=by
 unfold SE.Ziq
 refine Zi5 (K:=strV) λr w1 x1 hr1 hm1=>⟨some r,rfl,?_⟩
 have hbad: ∀w',Ext w w'→ ∀l2,¬l2.Nodup→(∃t,(ld++le++lo).map (·.name)=l2++t)→R false w':=λw' hx l2 hn ⟨t,ht⟩=>by
  have:decide ((ld++le++lo).map (·.name)).Nodup=false:=decide_eq_false λh=>hn (by rw[ht,List.nodup_append]at h; exact h.1)
  rw[←this]; exact hR _ hx
 refine loop1.up (N:=3) dC (λi w'=>Ext w w'∧ ∃ns:List ByteArray,ns.Nodup∧MapR strV w' r (ones ns)∧(i=0→ns= [])∧(i=1→ns=ld.map (·.name))∧(i=2→ns=(ld++le).map (·.name))∧(i=3→ns=(ld++le++lo).map (·.name)))
  ⟨x1,[],List.nodup_nil,hm1,λ_=>rfl,λh=>by omega,λh=>by omega,λh=>by omega⟩ λi w2 nxt hi ⟨x2,ns,hnd,hM,h0,h1,h2,h3⟩ hn=>⟨λhlt=>?_,λhge=>?_⟩
 ·have hlt':i<3:=by
   have:((Sl.mk (some a) 3 3).len:Int)=3:=rfl
   omega
  have hl3:=Z3z (i:=i) (hb.ext x2)
  have hr:w.heap.size≤r:=oM
  have hcase:i=0∨i=1∨i=2:=oM
  rcases hcase with rfl|rfl|rfl
  ·refine⟨a,⟨rfl,oM,hlt⟩,d,hl3.1 rfl,Zqp hd x2 hr hM hnd (λw' hx hbn=>?_) λw' hx hnd' hM'=>hn oM _ ⟨hx,_,hnd',hM',λh=>by omega,λ_=> ?_,λh=>by omega,λh=>by omega⟩⟩
   ·exact hbad _ hx _ hbn ⟨(le++lo).map (·.name),by rw[h0 rfl]; simp⟩
   ·rw[h0 rfl]; simp
  ·refine⟨a,⟨rfl,oM,hlt⟩,e,hl3.2.1 rfl,Zqp he x2 hr hM hnd (λw' hx hbn=>?_) λw' hx hnd' hM'=>hn oM _ ⟨hx,_,hnd',hM',λh=>by omega,λh=>by omega,λh=>?_,λh=>by omega⟩⟩
   ·exact hbad _ hx _ hbn ⟨lo.map (·.name),by rw[h1 rfl]; simp⟩
   ·rw[h1 rfl]; simp
  ·refine⟨a,⟨rfl,oM,hlt⟩,o,hl3.2.2 rfl,Zqp ho x2 hr hM hnd (λw' hx hbn=>?_) λw' hx hnd' hM'=>hn oM _ ⟨hx,_,hnd',hM',λh=>by omega,λh=>by omega,λh=>by omega,λh=>?_⟩⟩
   ·exact hbad _ hx _ hbn ⟨[],by rw[h2 rfl]; simp⟩
   ·rw[h2 rfl]; simp
 ·have:i=3:=by
   have:((Sl.mk (some a) 3 3).len:Int)=3:=rfl
   omega
  have:decide ((ld++le++lo).map (·.name)).Nodup=true:=decide_eq_true (by rw[←h3 this]; exact hnd)
  rw[←this]; exact hR _ x2
def Bld(b:Nat)(l:List UInt8)(w:World):Prop:=Lib.IsBuilderF 161 5 b b (Lib.byteCells l) w
theorem Z2z{w w':World}{base:Nat}{e:TypeId}{size:Nat}{v:Value}{n:Nat}{xs:List Value}(h:w.ownsRowF base e size v n xs)(hx:Ext w w'):w'.ownsRowF base e size v n xs:=by
 obtain⟨h1,h2⟩:=h
 refine⟨h1,?_⟩
 rcases h2 with h2|⟨g,cap,cur,fz,a,b,c,d⟩
 ·exact .inl h2
 ·exact .inr ⟨g,cap,cur,fz,a,b,(hx.block (Array.getElem?_eq_some_iff.1 c).1).trans c,d⟩
theorem Zrn{w w':World}{T e:TypeId}{B b:Nat}{p:Value}{bs:List Value}(h:Lib.BuilderAtF T e B b p bs w)(hx:Ext w w'):Lib.BuilderAtF T e B b p bs w':=by
 obtain⟨h1,v,h2,h3,h4⟩:=h
 exact⟨h1,v,(hx.block (Array.getElem?_eq_some_iff.1 h2).1).trans h2,Z2z h3 hx,h4⟩
theorem Bld.ext{b:Nat}{l:List UInt8}{w w':World}(h:Bld b l w)(hx:Ext w w'):Bld b l w':=h.imp (λh=>Zrn h hx) (λh=>Zrn h hx)
theorem Zqm(w:World):Bld w.heap.size [] (w.alloc (.cells [Value.pointer none,Sl.v Sl.nil].toArray 161)):=
 .inl ⟨Nat.le_refl _,_,heap_alloc_new w _,⟨rfl,.inl ⟨rfl,rfl⟩⟩,by simp[Value.ownBlock,Sl.v,Sl.nil]⟩
theorem bldX:Builder.Extra prog Tryz.layJo_ren:={sizeBuilder:=by kernel_rfl,liesBuilder:=by kernel_rfl,t5:=underlying5,a5:=Tryz.isAgg5,z5:=Tryz.sizeOf5,v5:=Tryz.zeroValue5,infoByte:=by kernel_rfl,cellsByte:=by kernel_rfl,sizeByte:=by kernel_rfl,neB5:=by decide}
theorem Zg4{b:Nat}{l m:List UInt8}{w0 w:World}{k:Value→World→Prop}(hB:Bld b l w)(h0:w0.heap.size=b)(x0:Ext w0 w)(hl:l.length+m.length≤140737488355328)
  (hk: ∀w' n,Ext w0 w'→Bld b (l++m) w'→k (.tuple #[.int .i64 n,.nilIface]) w'):callS prog 77 [.pointer (some ⟨b,0,none⟩),.string (B m)] w k:=by
 have h:=Any.Builder_WriteString_k {Tryz.layJo with} bldX b b (Lib.byteCells l) (B m) w hB (by rw[Lib.byteCells_length,Zl]; exact hl) (by have:=x0.size; omega)
 refine h.mono λe w' ⟨he,hb,hbel,_⟩=>⟨_,he,hk w' _ (x0.trans' (by rw[h0]; exact hbel)) (.inr ?_)⟩
 have e:Lib.byteCells l++Lib.strCells (B m)=Lib.byteCells (l++m):=by rw[Lib.strCells_eq,Zk4]; simp[Lib.byteCells]
 rw[e]at hb; exact hb
theorem Ziz{b:Nat}{l:List UInt8}{w0 w:World}{k:Value→World→Prop}(hB:Bld b l w)(h0:w0.heap.size=b)(x0:Ext w0 w)(hk: ∀w',Ext w0 w'→k (.string (B l)) w'):callS prog 80 [.pointer (some ⟨b,0,none⟩)] w k:=by
 have h:=Any.Builder_String_any_k {Tryz.layJo with} bldX b b l w hB (by have:=x0.size; omega)
 exact h.mono λe w' ⟨he,_,hbel,_⟩=>⟨_,he,hk w' (x0.trans' (by rw[h0]; exact hbel))⟩
theorem Zju{wd t0:List UInt8}{s:Sl}{l:List Dep}{S:Nat→Prop}{b:Nat}{w0 w:World}{R:World→Prop}(ht:Tab w0)(hw:wd.length≤8)(hm:Zm l=true)(h0:w0.heap.size=b)(x0:Ext w0 w)(hB:Bld b t0 w)(hs:SlR depE w0 S s l)(hlen:t0.length≤1000000)
  (hR: ∀w',Ext w0 w'→Bld b (t0++Zbd wd l) w'→R w'):SE.Zf2 (some ⟨b,0,none⟩) (B wd) s w R:=by
 unfold SE.Zf2
 have hl:=hs.len
 obtain⟨h16,hok⟩:=Zi hm
 refine loop1.up hs.max (λi w'=>Ext w0 w'∧Bld b (t0++Zbd wd (l.take i)) w') ⟨x0,by simpa[Zbd]using hB⟩ λi w1 nxt hi ⟨x1,hI⟩ hn=>⟨λhlt=>?_,λhge=>?_⟩
 ·have hlt':i<l.length:=oM
  obtain⟨ad,t,ha,_,hnm,hr,hc⟩:=Zhg hs hlt'
  have hd:=hok _ (List.getElem_mem hlt')
  have h1:=Zav hw (l:=l.take i) λd hd=>(hok d (List.mem_of_mem_take hd)).1
  rw[List.length_take,Nat.min_eq_left oM]at h1
  have h2:=Zd2 hd.1
  have h3:=Zg0 l[i].range
  refine⟨ad,⟨ha,oM,hlt⟩,_,t,hc _ xT,newS.intro λa w2 x2 hb hba _=>stw0.intro hb sI λw3' b3 _ hb3=>bnd.drew λw3 x3=>?_⟩
  have x3':Ext w1 w3':=b3.ext x2 oM
  have x13:Ext w1 w3:=x3'.trans x3
  rw[Zd1]
  refine⟨by rw[Zl,Za2,Zs]; simp; omega,_,hb3.at0 xT rfl,?_⟩
  rw[ba_B l[i].name,Zgp,Zd1]
  refine⟨by rw[Zl,Zl,Zs]; simp; omega,by rw[Zl,Za2,Zs]; simp; omega,t,hb3.at1 xT rfl,callX.intro (SE.Zha.go (Zmx (ht.ext (x1.trans x13)) (hr.ext (x1.trans x13)) λw4 x4=>⟨x4,_,rfl,?_⟩))⟩
  rw[Zgp,Zd1]
  have hln:(((((wd++ [32])++l[i].name.toList)++ [32])++Zbn l[i].range)++ [10]).length≤2030:=by simp; omega
  refine⟨by rw[Zl,Zl,Zs]; simp; omega,by rw[Zl,Za2,Zs]; simp; omega,Zg4 (m:=(((((wd++ [32])++l[i].name.toList)++ [32])++Zbn l[i].range)++ [10])) (hI.ext (x13.trans x4)) h0 (x1.trans (x13.trans x4)) (by rw[List.length_append]; omega) λw5 n x5 hB5=>⟨_,_,rfl,hn hlt' _ ⟨x5,?_⟩⟩⟩
  rw[List.take_succ_eq_append_getElem hlt',Zi1,Zks,←List.append_assoc]
  exact hB5
 ·have:i=l.length:=oM
  rw[this,List.take_length]at hI
  exact hR _ x1 hI
theorem Zuc{p:Pack}{d e o:Sl}{S:Nat→Prop}{w:World}{R:ByteArray→World→Prop}(ht:Tab w)(hm:Zdd p=true)(hd:SlR depE w S d p.deps)(he:SlR depE w S e p.peers)(ho:SlR depE w S o p.opt)
  (hR: ∀w',Ext w w'→R (B (Zh5 p)) w'):SE.Zjw p.name p.v.ma p.v.mi p.v.pa d e o w R:=by
 unfold SE.Zjw
 unfold Zdd at hm
 simp only[Bool.and_eq_true]at hm
 obtain⟨⟨⟨⟨hn,hv⟩,h1⟩,h2⟩,h3⟩:=hm
 have n1:=Zi h1; have n2:=Zi h2; have n3:=Zi h3
 have l1:=Zav (word:=wNeeds) dC λd hd=>(n1.2 d hd).1
 have l2:=Zav (word:=Zov) dC λd hd=>(n2.2 d hd).1
 have l3:=Zav (word:=wLikes) dC λd hd=>(n3.2 d hd).1
 have hnl:=Zd2 hn
 have hnv:=Zd7 p.v
 refine newS.intro λ_ w1 x1 hb _ _=> ?_
 intro a1 w2 ha1 hw2
 subst ha1
 have x2:Ext w1 w2:=hw2▸Ext.alloc _ _
 have hB2:Bld w1.heap.size [] w2:=hw2▸Zqm w1
 refine bnd.drew λw3 x3=>?_
 have x13:Ext w1 w3:=x2.trans x3
 have t1:Tab w1:=ht.ext x1
 refine⟨_,hb.at0 x13 rfl,?_⟩
 rw[ba_B p.name]
 simp only[Zhk,Zd1]
 refine⟨by rw[Za2,Zl,Zs]; simp; omega,by rw[Zl,Za2,Zs]; simp; omega,?_⟩
 refine⟨_,_,_,hb.at1 x13 rfl,callX.intro (SE.Zeg.go (versPrint_se (v:=p.v) (t1.ext x13) λw4 x4=>⟨x4,_,rfl,?_⟩))⟩
 simp only[Zgp,Zd1]
 have hh:=Zse hn p.v
 refine⟨by rw[Zl,Zl,Zs]; simp; omega,by rw[Zl,Za2,Zs]; simp; omega,Zg4 (m:=Zkd p.name p.v) (hB2.ext (x3.trans x4)) rfl (x13.trans x4) (by simp; omega) λw5 n5 x5 hB5=>⟨_,_,rfl,?_⟩⟩
 rw[List.nil_append]at hB5
 refine⟨d,hb.at1 x5 rfl,SE.Zf2.go (word:=B wNeeds) (Zju t1 dC h1 rfl x5 hB5 (hd.ext x1) oM λw6 x6 hB6=>⟨rfl,?_⟩)⟩
 refine⟨e,hb.at1 x6 rfl,SE.Zf2.go (word:=B Zov) (Zju t1 dC h2 rfl x6 hB6 (he.ext x1) (by simp; omega) λw7 x7 hB7=>⟨rfl,?_⟩)⟩
 refine⟨o,hb.at1 x7 rfl,SE.Zf2.go (word:=B wLikes) (Zju t1 dC h3 rfl x7 hB7 (ho.ext x1) (by simp; omega) λw8 x8 hB8=>⟨rfl,?_⟩)⟩
 exact Ziz hB8 rfl x8 λw9 x9=>⟨_,rfl,hR _ (x1.trans x9)⟩
theorem Zp4{p:Pack}{d e o:Sl}{S:Nat→Prop}{w:World}{R:Bool→World→Prop}(ht:Tab w)(hN:Str p.name)(hd:SlR depE w S d p.deps)(he:SlR depE w S e p.peers)(ho:SlR depE w S o p.opt)
  (hR: ∀w',Ext w w'→R (Zcv p) w'):SE.Zke p.name p.v.ma p.v.mi p.v.pa d e o w R:=by
 unfold SE.Zke
 refine newS.intro λ_ w1 x1 hb _ _=> ?_
 refine⟨_,lD,?_⟩
 refine SE.Zep.go (scanName_se hN λw2 x2=>⟨_,rfl,?_⟩)
 refine⟨p.v.ma,p.v.mi,p.v.pa,λ_=>hb.at1 xT rfl,gCall.intro p.v.may (λ_ q hq=>SE.Zia.go (Zkj (v:=p.v) λw' hx=>⟨_,rfl,hq _ hx⟩)) λt1 w3 x3 ht1=>bound ?_⟩
 refine⟨d,λ_=>hb.at1 xT rfl,gCall.intro (Zm p.deps) (λ_ q hq=>SE.Zhp.go (Zkv (hd.ext xT) λw' hx=>⟨_,rfl,hq _ hx⟩)) λt2 w4 x4 ht2=>bound ?_⟩
 refine⟨e,λ_=>hb.at1 xT rfl,gCall.intro (Zm p.peers) (λ_ q hq=>SE.Zhp.go (Zkv (he.ext xT) λw' hx=>⟨_,rfl,hq _ hx⟩)) λt3 w5 x5 ht3=>bound ?_⟩
 refine⟨o,λ_=>hb.at1 xT rfl,gCall.intro (Zm p.opt) (λ_ q hq=>SE.Zhp.go (Zkv (ho.ext xT) λw' hx=>⟨_,rfl,hq _ hx⟩)) λt4 w6 x6 ht4=>?_⟩
 have e1:((((Zap p.name&&t1)&&t2)&&t3)&&t4)=Zdd p:=by
  unfold Zdd
  cases h1:Zap p.name
  ·simp
  rw[h1]at ht1 ht2 ht3 ht4
  rw[ht1 rfl]at ht2 ht3 ht4 ⊢
  cases h2:p.v.may
  ·simp
  rw[h2]at ht2 ht3 ht4
  rw[ht2 rfl]at ht3 ht4 ⊢
  cases h3:Zm p.deps
  ·simp
  rw[h3]at ht3 ht4
  rw[ht3 rfl]at ht4 ⊢
  cases h4:Zm p.peers
  ·simp
  rw[h4]at ht4
  rw[ht4 rfl]
 rw[e1]
 refine bound ⟨d,λ_=>hb.at1 xT rfl,e,λ_=>hb.at1 xT rfl,o,λ_=>hb.at1 xT rfl,?_⟩
 cases hm:Zdd p
 ·have:Zcv p=false:=by unfold Zcv; rw[hm]; rfl
  rw[this]at hR
  refine⟨λh=>by(cases h),λ_=>⟨λh=>by(cases h),λ_=>bound ?_⟩⟩
  refine⟨p.name,p.v.ma,p.v.mi,p.v.pa,d,e,o,λh=>by(cases h),⟨λh=>by(cases h),λ_=>hR _ xT⟩⟩
 ·refine⟨λ_=>newS.intro λa w7 x7 hb7 _ _=>⟨λ_=>SE.Ziq.go (Zsw hb7 (hd.ext xT) (he.ext xT) (ho.ext xT) λw8 x8=>⟨_,rfl,bound ?_⟩),λh=>by(cases h)⟩,λh=>by(cases h)⟩
  rw[Zx3 hm]
  refine⟨p.name,p.v.ma,p.v.mi,p.v.pa,d,e,o,λ_=>hb.at0 xT rfl,gCall.intro (B (Zh5 p)) (λ_ q hq=>SE.Zjw.go (Zuc (ht.ext xT) hm (hd.ext xT) (he.ext xT) (ho.ext xT) λw' hx=>⟨_,rfl,hq _ hx⟩)) λt7 w10 x10 ht7=>?_⟩
  have e3:((true&&Zk7 p)&&decide ((t7.size:Int)≤4096))=Zcv p:=by
   unfold Zcv
   rw[hm,Bool.true_and,Bool.true_and]
   cases h1:Zk7 p
   ·rfl
   rw[ht7 (by rw[h1]; rfl),Zl,Bool.true_and,Bool.true_and,decide_eq_decide]; omega
  rw[e3]; exact hR _ xT
theorem OwnS.flat{α:Type}{E:Enc α}{T:TypeId}{w:World}{lo:Nat}{S:Nat→Prop}{s:Sl}{l:List α}(hf: ∀{w S S' x cs},E.rep w S x cs→E.rep w S' x cs)(h:OwnS E T w lo S s l):OwnS E T w lo None' s l:=by
 obtain⟨css,ho,hl,hr⟩:=h.row
 exact⟨⟨css,ho,hl,λi x hx=>let⟨cs,a,b⟩:=hr i x hx;⟨cs,a,hf b⟩⟩,h.len,λ_ h=>h.elim,λ_ _ h=>h.elim⟩
theorem OwnS.empty{α:Type}{E:Enc α}{T:TypeId}(w:World):OwnS E T (w.alloc (.cells #[] T)) w.heap.size None' ⟨some ⟨w.heap.size,0,none⟩,0,0⟩ ([]:List α):=
 ⟨⟨[],⟨by simp,.inr ⟨w.heap.size,0,#[],rfl,Nat.le_refl _,heap_alloc_new w _,Nat.le_refl _,Nat.zero_le _,by simp,by simp⟩⟩,rfl,λi x h=>by simp at h⟩,rfl,λ_ h=>h.elim,λ_ _ h=>h.elim⟩
theorem Z3n:ApT prog 150 193 6 48:=Zhe (z:=.agg #[.int .i64 0,.int .i64 0,.int .i64 0,.int .i64 0,.int .i64 0,.int .i64 0]) kR kR rfl dC
theorem Zjl{s:Sl}{l:List Span}{S:Nat→Prop}{w:World}{R:Sl→World→Prop}(hS:Old S w)(hs:SlR spanE w S s l)(hR: ∀t w',Ext w w'→SlP spanE w' (λb=>w.heap.size≤b∧b<w'.heap.size) t l→R t w'):SE.Z4 s w R:=by
 unfold SE.Z4
 refine⟨λh=>?_,λh=>?_⟩
 ·have:l= []:=by
   rcases hs.2.2.2.2 with h0|⟨ad,h1,_⟩
   ·exact h0
   ·rw[h]at h1; cases h1
  subst this
  exact hR _ _ xR SlP.nil
 ·intro a w1 ha hw
  subst ha
  have x1:Ext w w1:=hw▸Ext.alloc _ _
  have own:OwnS spanE 193 w1 w.heap.size None' ⟨some ⟨w.heap.size,0,none⟩,0,0⟩ []:=hw▸OwnS.empty w
  refine own.appAll Z3n x1.size (hs.ext x1) (hS.ext x1.size) (λad ha hb=>?_) (by simpa using hs.2.2.2.1) (by simpa using hs.max) λr w2 own2 bel _ _=> ?_
  ·simp only[Option.some.injEq]at ha
   subst ha
   have:=hS _ hb
   simp at this
  ·rw[List.nil_append]at own2
   have own3:=own2.flat λh=>h
   exact hR _ _ (x1.trans' bel) ((own3.readP hs.2.2.2.1 hs.max).mono λb hb=>by
    rcases hb with hb|⟨ad,ha,rfl⟩
    ·exact hb.elim
    ·have:=own3.block ha; exact⟨this.1,this.2.1⟩)
theorem SlR.bound{α:Type}{E:Enc α}{w:World}{S:Nat→Prop}{s:Sl}{l:List α}(hf: ∀{w S S' x cs},E.rep w S x cs→E.rep w S' x cs)(hn:0<E.n)(h:SlR E w S s l):SlR E w (λb=>S b∧b<w.heap.size) s l:=by
 refine⟨h.1,h.2.1,h.2.2.1,h.2.2.2.1,?_⟩
 rcases h.2.2.2.2 with h0|⟨ad,h1,h2,h3⟩
 ·exact .inl h0
 ·cases l with
  |nil=>exact .inl rfl
  |cons x r=>
   refine .inr ⟨ad,h1,⟨h2,?_⟩,λi y hy=>let⟨cs,a,b⟩:=h3 i y hy;⟨cs,hf a,b⟩⟩
   obtain⟨cs,a,b⟩:=h3 0 x rfl
   have hl:=E.len a
   have hc:=b 0 cs[0] (List.getElem?_eq_getElem oM)
   have:=World.block_lt_of_cell? w _ hc
   rw[Ze5,Ze5]at this
   exact this
theorem Znr{s:Sl}{l:List Dep}{S:Nat→Prop}{w:World}{R:Sl→World→Prop}(hS:Old S w)(hs:SlR depE w S s l)(hR: ∀t w',Ext w w'→SlP depP w' (λb=>w.heap.size≤b∧b<w'.heap.size) t l→R t w'):SE.Zfb s w R:=by
 unfold SE.Zfb
 have hl:=hs.len
 refine loop2.up hs.max (λout i w'=>Ext w w'∧ ∃Q,OwnS depP 152 w' w.heap.size Q out (l.take i)∧ ∀b,Q b→w.heap.size≤b) ⟨Ext.refl _,_,OwnS.zero _,λ_ h=>h.elim⟩ λout i w0 nxt hi ⟨x0,Q,own,hQ⟩ hn=>⟨λhlt=>?_,λhge=>?_⟩
 ·have hlt':i<l.length:=oM
  obtain⟨ad,t,ha,_,hnm,hr,hc⟩:=Zhg hs hlt'
  refine⟨ad,⟨ha,oM,hlt⟩,_,t,hc _ xT,newS.intro λa w1 x1 hb hba _=>stw0.intro hb sI λw2' b2 _ hb2=>bnd.drew λw2 x2=>?_⟩
  have x2':Ext w0 w2':=b2.ext x1 oM
  have x02:Ext w0 w2:=x2'.trans x2
  refine⟨_,hb2.at0 xT rfl,t,hb2.at1 xT rfl,callX.intro (SE.Z4.go (Zjl (hS.ext (x0.trans x02).size) (hr.ext (x0.trans x02)) λu w3 x3 hu=>⟨x3,_,rfl,?_⟩))⟩
  refine newS.intro λa7 w4 x4 hb7 ha7 hsz=>?_
  have x04:Ext w0 w4:=x02.trans (x3.trans x4)
  have s2:=(x0.trans x02).size
  have s02:=x02.size
  have s4:=x4.size
  have hu':=(hu.ext x4).mono (S':=λb=>w2.heap.size≤b∧b<w4.heap.size) λb hb=>⟨hb.1,oM⟩
  have hlen:(l.take i).length=i:=by rw[List.length_take]; omega
  have h4:=hs.2.2.2.1
  have e40:depE.bytes=40:=rfl
  have e41:depP.bytes=40:=rfl
  refine(own.ext x04).push Zx2 (x0.trans x04).size (x:=l[i]) (S':=λb=>w2.heap.size≤b∧b<w4.heap.size) ⟨hnm,u,rfl,hu'⟩ hb7.ldc (λb hb=>hb.2) (λad ha hb=>?_) (by rw[hlen]; rw[e40]at h4; rw[e41]; omega) (by rw[hlen]; have:=hs.max; omega) λr w5 own5 bel _ _=>hn hlt' _ _ ⟨(x0.trans x04).trans' bel,_,by rw[List.take_succ_eq_append_getElem hlt']; exact own5,λb hb=>?_⟩
  ·have:=(own.block ha).2.1
   omega
  ·rcases hb with hb|hb
   ·exact hQ b hb
   ·omega
 ·have:i=l.length:=oM
  rw[this,List.take_length]at own
  refine hR _ _ x0 ((own.readP hs.2.2.2.1 hs.max).mono λb hb=>?_)
  rcases hb with hb|⟨ad,ha,rfl⟩
  ·exact⟨hQ b hb,own.lt b hb⟩
  ·have:=own.block ha
   exact⟨this.1,this.2.1⟩
theorem But.size{g:Nat}{w w':World}(h:But g w w'):w.heap.size≤w'.heap.size:=h.1
theorem SlR.but{α:Type}{E:Enc α}{g:Nat}{w w':World}{S:Nat→Prop}{s:Sl}{l:List α}(h:SlR E w S s l)(hb:But g w w')(hn: ¬S g):SlR E w' S s l:=h.keep (hb.keep hn)
theorem Zrt{p:Pack}{d e o:Sl}{S:Nat→Prop}{w:World}{R:ByteArray→Int→Int→Int→Sl→Sl→Sl→World→Prop}(hS:Old S w)(hd:SlR depE w S d p.deps)(he:SlR depE w S e p.peers)(ho:SlR depE w S o p.opt)
  (hR: ∀d' e' o' w',Ext w w'→SlP depP w' (λb=>w.heap.size≤b∧b<w'.heap.size) d' p.deps→SlP depP w' (λb=>w.heap.size≤b∧b<w'.heap.size) e' p.peers→SlP depP w' (λb=>w.heap.size≤b∧b<w'.heap.size) o' p.opt→R p.name p.v.ma p.v.mi p.v.pa d' e' o' w'):
  SE.Zef p.name p.v.ma p.v.mi p.v.pa d e o w R:=by
 unfold SE.Zef
 refine newS.intro λa w1 x1 hb ha _=>newS.intro λa1 w2 x2 hb1 ha1 hs2=>bnd.drew λw3 x3=>?_
 have x03:Ext w w3:=x1.trans (x2.trans x3)
 have s1:=x1.size; have s2:=x2.size; have s3:=x3.size
 refine⟨d,hb.at1 (x2.trans x3) rfl,e,hb.at1 (x2.trans x3) rfl,o,hb.at1 (x2.trans x3) rfl,?_⟩
 refine callX.intro (SE.Zfb.go (Znr (hS.ext x03.size) (hd.ext x03) λd' w4 x4 hd'=>⟨x4,_,rfl,?_⟩))
 refine callX.intro (SE.Zfb.go (Znr (hS.ext (x03.trans x4).size) (he.ext (x03.trans x4)) λe' w5 x5 he'=>⟨x5,_,rfl,?_⟩))
 refine SE.Zfb.go (Znr (hS.ext (x03.trans (x4.trans x5)).size) (ho.ext (x03.trans (x4.trans x5))) λo' w6 x6 ho'=>⟨_,rfl,?_⟩)
 have s4:=x4.size; have s5:=x5.size; have s6:=x6.size
 have x06:Ext w w6:=x03.trans (x4.trans (x5.trans x6))
 have k1:a.block<w3.heap.size:=by have:=hb.lt; omega
 have k2:a1.block<w3.heap.size:=by have:=hb1.lt; omega
 have hD:=(hd'.ext (x5.trans x6)).mono (S':=λb=>w3.heap.size≤b∧b<w6.heap.size) λb hb=>⟨hb.1,oM⟩
 have hE:=(he'.ext x6).mono (S':=λb=>w3.heap.size≤b∧b<w6.heap.size) λb hb=>⟨oM,oM⟩
 have hO:=ho'.mono (S':=λb=>w3.heap.size≤b∧b<w6.heap.size) λb hb=>⟨oM,oM⟩
 have hb6:BoxAt w6 a _:=hb.ext (x2.trans (x3.trans (x4.trans (x5.trans x6))))
 have hb61:BoxAt w6 a1 _:=hb1.ext (x3.trans (x4.trans (x5.trans x6)))
 refine stw.intro hb6 sI λw7 b7 _ hb7=>stw.intro hb7 sI λw8 b8 _ hb8=>stw.intro hb8 sI λw9 b9 _ hb9=>⟨_,_,_,_,_,_,_,hb9.ldc.pre rfl,?_⟩
 have hne:a1.block≠a.block:=by have:=hb.lt; omega
 refine stw0.intro (b9.box (b8.box (b7.box hb61 hne) hne) hne) sI λw10 b10 _ hb10=>⟨_,_,_,_,_,_,_,hb10.ldc.pre rfl,?_⟩
 have n1: ¬(w3.heap.size≤a.block∧a.block<w6.heap.size):=oM
 have n2: ¬(w3.heap.size≤a1.block∧a1.block<w6.heap.size):=oM
 have z7:=b7.size; have z8:=b8.size; have z9:=b9.size; have z10:=b10.size
 have up: ∀b,(w3.heap.size≤b∧b<w6.heap.size)→(w.heap.size≤b∧b<w10.heap.size):=λb hb=>⟨oM,oM⟩
 refine hR d' e' o' w10 ?_ (((((hD.but b7 n1).but b8 n1).but b9 n1).but b10 n2).mono up) (((((hE.but b7 n1).but b8 n1).but b9 n1).but b10 n2).mono up) (((((hO.but b7 n1).but b8 n1).but b9 n1).but b10 n2).mono up)
 exact b10.ext (b9.ext (b8.ext (b7.ext x06 oM) oM) oM) oM
section
variable {P:Program} {mt:TypeId} {K:Value→Prop} {zero:Value} {w:World} {r:Nat} {m:List (Value×Value)}
theorem Zsn(T:KeyT P mt K zero)(h:MapR K w r m){k:Value}(hk:K k)(hn: ∀p∈m,p.1≠k):Zlx P (Instr.lookup mt (.map (some r)) k true) w (.tuple #[zero,.bool false]):=λw' hx=>by
 rcases Zio T (h.ext hx) hk with⟨_,hr⟩|⟨v,hin,_⟩
 ·exact hr true
 ·exact absurd rfl (hn _ hin)
theorem Zpz(T:KeyT P mt K zero)(h:MapR K w r m){k v:Value}(hk:K k)(hin:(k,v)∈m):Zlx P (Instr.lookup mt (.map (some r)) k true) w (.tuple #[v,.bool true]):=λw' hx=>by
 rcases Zio T (h.ext hx) hk with⟨hn,_⟩|⟨u,hu,hr⟩
 ·exact absurd rfl (hn _ hin)
 ·rw[(h.ext hx).one hin hu]; exact hr true
theorem Z2c{kt et:TypeId}(hu:P.underlying mt=some (.map kt et))(h:MapR K w r m):Zlx P (Builtin.len_ #[mt] 3 #[.map (some r)]) w (.int .i64 m.length):=λw' hx=>Z46 hu (h.ext hx)
end
def Zjv(x:Pack)(d e o:Sl):Value:=.agg #[.string x.name,.int .i64 x.v.ma,.int .i64 x.v.mi,.int .i64 x.v.pa,d.v,e.v,o.v]
def EntR(w:World)(S:Nat→Prop)(x:Pack)(kv:Value×Value):Prop:=∃d e o,kv=(keyV x.name x.v,Zjv x d e o)∧Str x.name∧SlR depE w S d x.deps∧SlR depE w S e x.peers∧SlR depE w S o x.opt
structure CatR(w:World)(S:Nat→Prop)(p:Addr)(r:Nat)(ps:List Pack):Prop where
 box:BoxAt w p [.map (some r)]
 map: ∃m,MapR Zpt w r m∧m.length=ps.length∧ ∀(i:Nat) (x:Pack),ps[i]? =some x→ ∃kv,m[i]? =some kv∧EntR w S x kv
 old:Old S w
 free: ¬S r∧ ¬S p.block
 ne:p.block≠r
theorem EntR.mono{w:World}{S S':Nat→Prop}{x:Pack}{kv:Value×Value}(h:EntR w S x kv)(hs: ∀b,S b→S' b):EntR w S' x kv:=by
 obtain⟨d,e,o,h1,h2,h3,h4,h5⟩:=h
 exact⟨d,e,o,h1,h2,h3.mono hs,h4.mono hs,h5.mono hs⟩
theorem EntR.keep{w w':World}{S:Nat→Prop}{x:Pack}{kv:Value×Value}(h:EntR w S x kv)(hk:Keep S w w'):EntR w' S x kv:=by
 obtain⟨d,e,o,h1,h2,h3,h4,h5⟩:=h
 exact⟨d,e,o,h1,h2,h3.keep hk,h4.keep hk,h5.keep hk⟩
theorem CatR.ext{w w':World}{S:Nat→Prop}{p:Addr}{r:Nat}{ps:List Pack}(h:CatR w S p r ps)(hx:Ext w w'):CatR w' S p r ps:=by
 obtain⟨m,h1,h2,h3⟩:=h.map
 exact⟨h.box.ext hx,⟨m,h1.ext hx,h2,λi x hi=>let⟨kv,a,b⟩:=h3 i x hi;⟨kv,a,b.keep (hx.keep S)⟩⟩,h.old.ext hx.size,h.free,h.ne⟩
theorem CatR.stay{w w':World}{S:Nat→Prop}{p:Addr}{r:Nat}{ps:List Pack}(h:CatR w S p r ps)(hsz:w.heap.size≤w'.heap.size)(hk: ∀b,b<w.heap.size→(S b∨b=p.block∨b=r)→w'.heap[b]? =w.heap[b]?):CatR w' S p r ps:=by
 obtain⟨m,h1,h2,h3⟩:=h.map
 refine⟨h.box.keep (S:=λb=>b=p.block) rfl λb hb hl=>hk b hl (.inr (.inl hb)),⟨m,h1.of (hk r h1.lt (.inr (.inr rfl))),h2,λi x hi=>let⟨kv,a,b⟩:=h3 i x hi;⟨kv,a,b.keep λc hc hl=>hk c hl (.inl hc)⟩⟩,h.old.ext hsz,h.free,h.ne⟩
def Zeo(n:ByteArray)(v:Ver)(x:Pack):Bool:=decide (x.name=n∧x.v=v)
theorem CatR.find{w:World}{S:Nat→Prop}{p:Addr}{r:Nat}{ps:List Pack}(h:CatR w S p r ps)(n:ByteArray)(v:Ver):
  ∃m,MapR Zpt w r m∧m.length=ps.length∧((ps.find? (Zeo n v)=none∧ ∀kv∈m,kv.1≠keyV n v)∨ ∃x d e o,ps.find? (Zeo n v)=some x∧(keyV n v,Zjv x d e o)∈m∧Str x.name∧SlR depE w S d x.deps∧SlR depE w S e x.peers∧SlR depE w S o x.opt):=by
 obtain⟨m,h1,h2,h3⟩:=h.map
 refine⟨m,h1,h2,?_⟩
 cases hf:ps.find? (Zeo n v)with
 |none=>
  refine .inl ⟨rfl,λkv hkv=>?_⟩
  obtain⟨i,hi,he⟩:=List.mem_iff_getElem.1 hkv
  have hip:i<ps.length:=oM
  obtain⟨kv',ha,d,e,o,hb,_⟩:=h3 i _ (List.getElem?_eq_getElem hip)
  rw[List.getElem?_eq_getElem hi,he,Option.some.injEq]at ha
  subst ha
  subst hb
  intro hk
  have:=List.find?_eq_none.1 hf _ (List.getElem_mem hip)
  have hk':=Zq0.1 hk
  exact this (by simp[Zeo,hk'.1,hk'.2])
 |some x=>
  have hx:=List.find?_some hf
  simp only[Zeo,decide_eq_true_eq]at hx
  obtain⟨i,hi,he⟩:=List.mem_iff_getElem.1 (List.mem_of_find?_eq_some hf)
  obtain⟨kv,ha,d,e,o,hb,hr⟩:=h3 i _ (List.getElem?_eq_getElem hi)
  rw[he]at hb hr
  subst hb
  exact .inr ⟨x,d,e,o,rfl,by rw[←hx.1,←hx.2]; exact List.mem_of_getElem? ha,hr⟩
theorem Zx9{w:World}{R:Option Addr→World→Prop}(hR: ∀p r w',Ext w w'→CatR w' None' p r []→w.heap.size≤r→w.heap.size≤p.block→R (some p) w'):SE.Zfy w R:=by
 unfold SE.Zfy
 refine Zi5 (K:=Zpt) λr w1 x1 hr1 hm=>⟨some r,rfl,newS.intro λa w2 x2 hb ha _=>hR a r w2 (x1.trans x2) ⟨hb,⟨[],hm.ext x2,rfl,λi x h=>by simp at h⟩,λ_ h=>h.elim,⟨λh=>h,λh=>h⟩,?_⟩ oM ?_⟩
 ·have:=hm.lt; omega
 ·have:=x1.size; omega
def Zis(ps:List Pack)(x:Pack):Int×List Pack:=
 if Zcv x=false then(24,ps)else if(ps.find? (Zeo x.name x.v)).isSome then(11,ps)else if 128≤ps.length then(26,ps)else(0,ps++ [x])
theorem CatR.add{w:World}{S:Nat→Prop}{p:Addr}{r:Nat}{ps:List Pack}{x:Pack}{d e o:Sl}{B:Nat}(h:CatR w S p r ps)(hn:ps.find? (Zeo x.name x.v)=none)(hN:Str x.name)(hB:r<B∧p.block<B)
  (hd:SlR depE w (λb=>B≤b∧b<w.heap.size) d x.deps) (he:SlR depE w (λb=>B≤b∧b<w.heap.size) e x.peers) (ho:SlR depE w (λb=>B≤b∧b<w.heap.size) o x.opt) {c:World→Prop}
  (hc: ∀w',But r w w'→CatR w' (λb=>S b∨(B≤b∧b<w.heap.size)) p r (ps++ [x])→c w'):semU prog (Instr.mapUpdate 81 (.map (some r)) (keyV x.name x.v) (Zjv x d e o)) w c:=by
 obtain⟨m,hm,hl,hf⟩:=h.find x.name x.v
 have hno: ∀kv∈m,kv.1≠keyV x.name x.v:=by
  rcases hf with⟨_,h⟩|⟨y,_,_,_,hy,_⟩
  ·exact h
  ·rw[hn]at hy; cases hy
 obtain⟨m',hm',hl',hel⟩:=h.map
 have hmm:m'=m:=by
  obtain⟨es,cl,a,_,rfl,_⟩:=hm
  obtain⟨es',cl',a',_,rfl,_⟩:=hm'
  rw[a]at a'; cases a'; rfl
 subst hmm
 refine Zqd keyT hm ⟨_,_,rfl⟩ hno λw' hb hsz hm2=>hc w' hb ?_
 have hS: ¬(S r∨(B≤r∧r<w.heap.size)):=λhh=>by
  rcases hh with hh|hh
  ·exact h.free.1 hh
  ·omega
 refine⟨hb.box h.box h.ne,⟨_,hm2,by simp[hl],λi y hi=>?_⟩,λb hb'=>?_,⟨hS,λhh=>?_⟩,h.ne⟩
 ·rw[List.getElem?_append]at hi
  split at hi
  ·rename_i hil
   obtain⟨kv,a,b⟩:=hel i y hi
   exact⟨kv,by rw[List.getElem?_append_left oM]; exact a,(b.mono λ_ h=>.inl h).keep (hb.keep hS)⟩
  ·rename_i hil
   have hi0:i - ps.length=0:=by
    rcases Nat.eq_zero_or_pos (i - ps.length)with h0|h0
    ·exact h0
    ·rw[List.getElem?_eq_none (by simp; omega)]at hi; cases hi
   rw[hi0]at hi
   simp only[List.getElem?_cons_zero,Option.some.injEq]at hi
   subst hi
   have:EntR w (λb=>S b∨(B≤b∧b<w.heap.size)) x (keyV x.name x.v,Zjv x d e o):=⟨d,e,o,rfl,hN,hd.mono λ_ h=>.inr h,he.mono λ_ h=>.inr h,ho.mono λ_ h=>.inr h⟩
   exact⟨_,by rw[List.getElem?_append_right oM,hl,hi0]; rfl,this.keep (hb.keep hS)⟩
 ·have:=hb.size
  rcases hb' with hb'|hb'
  ·have:=h.old b hb'; omega
  ·omega
 ·rcases hh with hh|hh
  ·exact h.free.2 hh
  ·omega
theorem Zya{x:Pack}{d e o:Sl}{S S2:Nat→Prop}{p:Addr}{r:Nat}{ps:List Pack}{w:World}{R:Int→World→Prop}(ht:Tab w)(hC:CatR w S p r ps)(hN:Str x.name)(hS2:Old S2 w)
  (hd:SlR depE w S2 d x.deps) (he:SlR depE w S2 e x.peers) (ho:SlR depE w S2 o x.opt)
  (hR: ∀S' w',But r w w'→CatR w' S' p r (Zis ps x).2→(∀b,S b→S' b)→(∀b,S' b→S b∨w.heap.size≤b)→R (Zis ps x).1 w'):SE.Zb4 (some p) x.name x.v.ma x.v.mi x.v.pa d e o w R:=by
 unfold SE.Zb4
 have hrl:r<w.heap.size:=by obtain⟨m,hm,_⟩:=hC.map; exact hm.lt
 have hpl:=hC.box.lt
 refine newS.intro λa w1 x1 hb _ _=>⟨_,_,_,_,_,_,_,hb.ldc.pre rfl,SE.Zke.go (Zp4 (p:=x) (ht.ext x1) hN (hd.ext x1) (he.ext x1) (ho.ext x1) λw2 x2=>⟨_,rfl,λh=>?_,λh=>?_⟩)⟩
 ·have e:Zcv x=false:=by simpa using h
  have hp:Zis ps x=(24,ps):=by unfold Zis; rw[if_pos e]
  have:=hR S w2 ((x1.trans x2).but r) (by rw[hp]; exact hC.ext (x1.trans x2)) (λ_ h=>h) (λ_ h=>.inl h)
  rw[hp]at this; exact this
 have hmay:Zcv x=true:=by simpa using h
 have x02:=x1.trans x2
 refine⟨_,hb.at0 x2 rfl,_,_,_,hb.at1 x2 rfl,newS.intro λa4 w3 x3 hb4 _ _=>stw0.intro hb4 sI λw4 b4 _ hb4=>bnd.drew λw5 x5=>?_⟩
 have s1:=x1.size; have s2:=x2.size; have s3:=x3.size
 have x24:Ext w2 w4:=b4.ext x3 oM
 have x25:Ext w2 w5:=x24.trans x5
 have x05:Ext w w5:=x02.trans x25
 have hC5:=hC.ext x05
 refine⟨p,rfl,some r,hC5.box.ldc,_,_,_,_,hb4.at0 x5 rfl,?_⟩
 obtain⟨m,hm,hl,hf⟩:=hC5.find x.name x.v
 rcases hf with⟨hnone,hno⟩|⟨y,dy,ey,oy,hsome,hin,_,_,_,_⟩
 ·refine⟨_,_,_,_,Sl.nil,Sl.nil,Sl.nil,false,Zsn keyT hm ⟨_,_,rfl⟩ hno,newS.intro λa12 w6 x6 hb12 _ _=>stw0.intro hb12 sI λw7 b7 _ hb12=>⟨λh=>by(cases h),λ_=> ?_⟩⟩
  have x57:Ext w5 w7:=b7.ext x6 oM
  have hC7:=hC5.ext x57
  refine⟨p,rfl,some r,hC7.box.ldc,_,Z2c underlying81 (hm.ext x57),λh=>?_,λh=>bnd.drew λw8 x8=>?_⟩
  ·have hp:Zis ps x=(26,ps):=by unfold Zis; rw[if_neg (by rw[hmay]; simp),if_neg (by rw[hnone]; simp),if_pos oM]
   have:=hR S w7 ((x05.trans x57).but r) (by rw[hp]; exact hC7) (λ_ h=>h) (λ_ h=>.inl h)
   rw[hp]at this; exact this
  ·have hp:Zis ps x=(0,ps++ [x]):=by unfold Zis; rw[if_neg (by rw[hmay]; simp),if_neg (by rw[hnone]; simp),if_neg oM]
   rw[hp]at hR
   have x58:Ext w5 w8:=x57.trans x8
   have x08:Ext w w8:=x05.trans x58
   have hC8:=hC5.ext x58
   refine⟨p,rfl,some r,hC8.box.ldc,_,_,_,_,hb4.at0 (x5.trans x58) rfl,_,_,_,_,_,_,_,hb.at0 (x2.trans (x25.trans x58)) rfl,?_⟩
   refine callX.intro (SE.Zef.go (Zrt (p:=x) (hS2.ext x08.size) (hd.ext x08) (he.ext x08) (ho.ext x08) λd' e' o' w9 x9 hd' he' ho'=>⟨x9,_,_,_,_,d',e',o',rfl,?_⟩))
   have s8:=x08.size
   refine(hC8.ext x9).add hnone hN ⟨oM,oM⟩ hd'.dep he'.dep ho'.dep λw10 b10 hC10=>?_
   refine hR _ w10 (((x08.trans x9).but r).trans b10) hC10 (λ_ h=>.inl h) λb hb=>?_
   rcases hb with hb|hb
   ·exact .inl hb
   ·right; omega
 ·refine⟨_,_,_,_,dy,ey,oy,true,Zpz keyT hm ⟨_,_,rfl⟩ hin,newS.intro λa12 w6 x6 hb12 _ _=>stw0.intro hb12 sI λw7 b7 _ hb12=>⟨λ_=> ?_,λh=>by(cases h)⟩⟩
  have x57:Ext w5 w7:=b7.ext x6 oM
  have hp:Zis ps x=(11,ps):=by unfold Zis; rw[if_neg (by rw[hmay]; simp),if_pos (by rw[hsome]; rfl)]
  have:=hR S w7 ((x05.trans x57).but r) (by rw[hp]; exact hC5.ext x57) (λ_ h=>h) (λ_ h=>.inl h)
  rw[hp]at this; exact this
end Go.Hal
namespace Go.Hal
open Go.Proofs.Tryz
theorem Ord3.comap{α β:Type}{c:β→β→Int}(h:Ord3 c)(f:α→β):Ord3 (λa b=>c (f a) (f b)):=⟨λx y=>h.flip _ _,λx y z=>h.trans _ _ _⟩
theorem Ord3.swap{α:Type}{c:α→α→Int}(h:Ord3 c):Ord3 (λa b=>c b a):=⟨λx y=>h.flip _ _,λx y z h1 h2=>h.trans _ _ _ h2 h1⟩
theorem Ord3.or{α:Type}{c d:α→α→Int}(h:Ord3 c)(k:Ord3 d):Ord3 (λa b=>or2 (c a b) (d a b)) where
 flip:=λx y=>by
  have h1:=h.flip x y; have h2:=h.flip y x; have h3:=k.flip x y
  have h0:=h.zero (x:=x) (y:=y)
  unfold or2
  by_cases hc:c x y=0
  ·simp only[hc,h0.1 hc,if_true]; exact h3
  ·have: ¬c y x=0:=λe=>hc (h0.2 e)
   simp only[hc,this,if_false]; exact h1
 trans:=λx y z h1 h2=>by
  unfold or2 at*
  have z1:=h.zero (x:=x) (y:=y); have z2:=h.zero (x:=y) (y:=z)
  by_cases a:c x y=0<;>by_cases b:c y z=0
  ·simp only[a,if_true]at h1; simp only[b,if_true]at h2
   have e1:=h.trans x y z oM oM
   have e2:=h.trans z y x (by rw[z2.1 b]; omega) (by rw[z1.1 a]; omega)
   have f1:=h.flip z x; have f2:=h.flip x z
   have:c x z=0:=oM
   simp only[this,if_true]; exact k.trans x y z h1 h2
  ·simp only[b,if_false]at h2
   have:=h.lt_of' (x:=x) (y:=y) (z:=z) oM oM
   split<;>omega
  ·simp only[a,if_false]at h1
   have:=h.lt_of (x:=x) (y:=y) (z:=z) oM oM
   split<;>omega
  ·simp only[a,if_false]at h1
   simp only[b,if_false]at h2
   have:=h.lt_of (x:=x) (y:=y) (z:=z) oM oM
   split<;>omega
theorem cmpI_ord:Ord3 cmpI:=⟨λx y=>by unfold cmpI; split<;>split<;>omega,λx y z=>by simp only[Z4m]; omega⟩
theorem Ver.cmp_ord:Ord3 Ver.cmp:=(cmpI_ord.comap Ver.ma).or ((cmpI_ord.comap Ver.mi).or (cmpI_ord.comap Ver.pa))
theorem Zzr{a b:Int}:or2 a b<0↔a<0∨(a=0∧b<0):=by unfold or2; split<;>omega
def cP(a b:Pack):Int:=or2 (cmpS a.name b.name) (b.v.cmp a.v)
theorem cP_ord:Ord3 cP:=(Zgb Pack.name).or ((Ver.cmp_ord.comap Pack.v).swap)
theorem Ztq{a b:Pack}:cP a b=0↔a.name=b.name∧a.v=b.v:=by
 unfold cP or2
 by_cases h:cmpS a.name b.name=0
 ·have e:=Zhf.1 h
  rw[if_pos h,Ver.cmp_eq]; simp[e,eq_comm]
 ·have: ¬a.name=b.name:=λe=>h (Zhf.2 e)
  simp[h,this]
def OrdL(L:List Pack):Prop:=L.Pairwise λa b=>cP a b<0
def Zfj(a b:Pack):Bool:=decide (cP a b<0)
def Zoe(x:Pack)(L:List Pack):List Pack:=L.takeWhile (Zfj · x)++x::L.dropWhile (Zfj · x)
theorem Zmi(x:Pack)(L:List Pack):(Zoe x L).Perm (L++ [x]):=by
 unfold Zoe
 refine List.perm_middle.trans ?_
 rw[List.takeWhile_append_dropWhile]
 exact(List.perm_append_singleton x L).symm
theorem Zq3{α:Type}{p:α→Bool}{l:List α}{x:α}(h:x∈l.takeWhile p):p x=true:=by
 induction l with
 |nil=>cases h
 |cons a r ih=>
  rw[List.takeWhile_cons]at h
  split at h
  ·rename_i hp
   rcases List.mem_cons.1 h with rfl|h
   ·exact hp
   ·exact ih h
  ·cases h
theorem Zzz{x:Pack}{L:List Pack}(h:OrdL L)(hn: ∀y∈L,cP y x≠0):OrdL (Zoe x L):=by
 unfold Zoe OrdL at*
 have hsub1:(L.takeWhile (Zfj · x)).Sublist L:=List.takeWhile_sublist _
 have hsub2:(L.dropWhile (Zfj · x)).Sublist L:=List.dropWhile_sublist _
 have hd: ∀y∈L.dropWhile (Zfj · x),cP x y<0:=by
  intro y hy
  cases hD:L.dropWhile (Zfj · x)with
  |nil=>rw[hD]at hy; cases hy
  |cons a r=>
   have ha:Zfj a x=false:=by
    have:=List.head?_dropWhile_not (Zfj · x) L
    rw[hD]at this
    simpa using this
   have hax:cP x a<0:=by
    have h1: ¬cP a x<0:=by simpa[Zfj]using ha
    have h2:=hn a (hsub2.subset (by rw[hD]; exact .head _))
    exact(cP_ord.flip x a).2 oM
   rw[hD]at hy hsub2
   rcases List.mem_cons.1 hy with rfl|hy
   ·exact hax
   ·exact cP_ord.lt_of hax (Int.le_of_lt ((List.pairwise_cons.1 (h.sublist hsub2)).1 y hy))
 refine List.pairwise_append.2 ⟨h.sublist hsub1,List.pairwise_cons.2 ⟨hd,h.sublist hsub2⟩,λa ha b hb=>?_⟩
 have hax:cP a x<0:=by simpa[Zfj]using Zq3 ha
 rcases List.mem_cons.1 hb with rfl|hb
 ·exact hax
 ·exact cP_ord.lt_of hax (Int.le_of_lt (hd b hb))
theorem OrdL.key{L:List Pack}(h:OrdL L){a b:Pack}(ha:a∈L)(hb:b∈L)(hn:a.name=b.name)(hv:a.v=b.v):a=b:=by
 induction L with
 |nil=>cases ha
 |cons x r ih=>
  obtain⟨h1,h2⟩:=List.pairwise_cons.1 h
  rcases List.mem_cons.1 ha with e|ha'<;>rcases List.mem_cons.1 hb with e'|hb'
  ·rw[e,e']
  ·subst e; have:=h1 b hb'; rw[Ztq.2 ⟨hn,hv⟩]at this; omega
  ·subst e'; have:=h1 a ha'; rw[Ztq.2 ⟨hn.symm,hv.symm⟩]at this; omega
  ·exact ih h2 ha' hb'
def getL(L:List Pack)(n:ByteArray)(v:Ver):Option Pack:=L.find? (Zeo n v)
theorem Zge{L:List Pack}{n:ByteArray}{v:Ver}{x:Pack}(h:getL L n v=some x):x∈L∧x.name=n∧x.v=v:=by
 have h1:=List.find?_some h
 simp only[Zeo,decide_eq_true_eq]at h1
 exact⟨List.mem_of_find?_eq_some h,h1⟩
theorem Z4y{L:List Pack}(h:OrdL L){x:Pack}(hx:x∈L):getL L x.name x.v=some x:=by
 cases hg:getL L x.name x.v with
 |none=>exact absurd (by simp[Zeo]) (List.find?_eq_none.1 hg x hx)
 |some y=>
  obtain⟨a,b,c⟩:=Zge hg
  rw[h.key a hx b c]
theorem Zsd{L ps:List Pack}(h:OrdL L)(hp:L.Perm ps)(n:ByteArray)(v:Ver):ps.find? (Zeo n v)=getL L n v:=by
 cases hg:getL L n v with
 |none=>
  rw[List.find?_eq_none]
  intro x hx
  exact List.find?_eq_none.1 hg x (hp.mem_iff.2 hx)
 |some x=>
  obtain⟨a,b,c⟩:=Zge hg
  cases hf:ps.find? (Zeo n v)with
  |none=>exact absurd (by simp[Zeo,b,c]) (List.find?_eq_none.1 hf x (hp.mem_iff.1 a))
  |some y=>
   have h1:=List.find?_some hf
   simp only[Zeo,decide_eq_true_eq]at h1
   rw[h.key (hp.mem_iff.2 (List.mem_of_find?_eq_some hf)) a (h1.1.trans b.symm) (h1.2.trans c.symm)]
structure GoodL(L:List Pack):Prop where
 ord:OrdL L
 le:L.length≤128
 may: ∀x∈L,Zcv x=true
theorem GoodL.nil:GoodL []:=⟨.nil,by simp,by simp⟩
def Ze9(L:List Pack)(x:Pack):Int×List Pack:=
 if Zcv x=false then(24,L)else if(getL L x.name x.v).isSome then(11,L)else if 128≤L.length then(26,L)else(0,Zoe x L)
theorem Zoh{L:List Pack}(h:GoodL L)(x:Pack):GoodL (Ze9 L x).2:=by
 unfold Ze9
 split
 ·exact h
 ·rename_i hm
  split
  ·exact h
  ·rename_i hs
   split
   ·exact h
   ·rename_i hl
    have hp:=Zmi x L
    refine⟨Zzz h.ord λy hy e=>hs ?_,by show(Zoe x L).length≤128; rw[hp.length_eq]; simp; omega,λy hy=>?_⟩
    ·obtain⟨h1,h2⟩:=Ztq.1 e
     rw[←h1,←h2,Z4y h.ord hy]; rfl
    ·rcases List.mem_append.1 (hp.mem_iff.1 hy)with hy|hy
     ·exact h.may y hy
     ·simp at hy; subst hy; simpa using hm
theorem Z2u{L ps:List Pack}(h:GoodL L)(hp:L.Perm ps)(x:Pack):(Zis ps x).1=(Ze9 L x).1∧(Ze9 L x).2.Perm (Zis ps x).2:=by
 unfold Zis Ze9
 rw[Zsd h.ord hp,hp.length_eq]
 split
 ·exact⟨rfl,hp⟩
 ·split
  ·exact⟨rfl,hp⟩
  ·split
   ·exact⟨rfl,hp⟩
   ·exact⟨rfl,(Zmi x L).trans (hp.append_right _)⟩
def hasN(n:ByteArray)(x:Pack):Bool:=decide (x.name=n)
def Zd0(n:ByteArray)(L:List Pack):List Ver:=(L.filter (hasN n)).map (·.v)
theorem Zti{L:List Pack}(h:OrdL L)(n:ByteArray):(Zd0 n L).Pairwise λa b=>b.cmp a<0:=by
 unfold Zd0
 rw[List.pairwise_map]
 have h1:(L.filter (hasN n)).Pairwise λa b=>cP a b<0:=h.sublist List.filter_sublist
 refine h1.imp_of_mem λ{a b} ha hb hc=>?_
 have ha:=(List.mem_filter.1 ha).2; have hb:=(List.mem_filter.1 hb).2
 simp only[hasN,decide_eq_true_eq]at ha hb
 unfold cP at hc
 rw[Zzr,ha,hb,Zhf.2 rfl]at hc
 omega
theorem Zyx{l m:List Ver}(h1:l.Pairwise λa b=>¬a.cmp b<0)(h2:m.Pairwise λa b=>b.cmp a<0)(hp:l.Perm m):l=m:=by
 have hn:m.Nodup:=by
  rw[List.nodup_iff_pairwise_ne]
  refine h2.imp λ{a b} h e=>?_
  subst e
  have:=Ver.cmp_eq.2 (rfl:a=a); omega
 have hn':=hp.nodup_iff.2 hn
 rw[List.nodup_iff_pairwise_ne]at hn'
 refine Zkg (R:=λa b:Ver=>b.cmp a<0) (λx y a b=>?_) ((h1.and hn').imp λ{a b} h=>?_) h2 hp
 ·have:=Ver.cmp_ord.flip x y; have:=Ver.cmp_ord.flip y x; omega
 ·have h0:a.cmp b≠0:=λe=>h.2 (Ver.cmp_eq.1 e)
  exact(Ver.cmp_ord.flip b a).2 oM
theorem Zuz{L ps:List Pack}(hp:L.Perm ps)(n:ByteArray):(Zd0 n L).Perm ((ps.filter (hasN n)).map (·.v)):=(hp.filter _).map _
def pinB(pins:List Pin)(n:ByteArray)(v:Ver):Bool:=decide ((⟨n,v⟩:Pin)∈pins)
def Znq(L:List Pack)(n:ByteArray)(l:List Span)(pins:List Pin):List Ver:=
 let all:=(Zd0 n L).filter (Z6 l)
 all.filter (pinB pins n)++all.filter λv=>!pinB pins n v
def ordB(b:Bool):Int:=if b then 1 else 0
def cC(pins:List Pin)(n:ByteArray)(a b:Ver):Int:=ordB (pinB pins n b) - ordB (pinB pins n a)
theorem Z6r(pins:List Pin)(n:ByteArray):Ord3 (cC pins n):=⟨λx y=>by unfold cC; omega,λx y z=>by unfold cC; omega⟩
theorem Zut{α:Type}(p:α→Bool)(x:α)(l m:List α)(hl: ∀y∈l,p y=true)(hm: ∀y∈m,p y=false):
  Ze3 (λa b=>ordB (p b) - ordB (p a)) x (l++m)=if p x then x::(l++m)else l++x::m:=by
 induction l with
 |nil=>
  rw[List.nil_append]
  cases m with
  |nil=>simp[Ze3]
  |cons y r=>
   have hy:=hm y (.head _)
   unfold Ze3
   rw[hy]
   have:ordB false - ordB (p x)≤0:=by unfold ordB; cases p x<;>decide
   rw[if_pos this]; simp
 |cons y r ih=>
  have hy:=hl y (.head _)
  rw[List.cons_append,Ze3,hy]
  cases hx:p x
  ·have: ¬(ordB true - ordB false≤0):=by decide
   rw[if_neg this,ih λz hz=>hl z (.tail _ hz),hx]; simp
  ·have:ordB true - ordB true≤0:=by decide
   rw[if_pos this]; simp
theorem Zs9{α:Type}(p:α→Bool)(l:List α):Zb0 (λa b=>ordB (p b) - ordB (p a)) l=l.filter p++l.filter λx=>!p x:=by
 induction l with
 |nil=>rfl
 |cons x r ih=>
  rw[Zb0,ih,Zut p x _ _ (λy hy=>(List.mem_filter.1 hy).2) (λy hy=>by simpa using(List.mem_filter.1 hy).2)]
  cases h:p x<;>simp[List.filter_cons,h]
theorem Zka(L:List Pack)(n:ByteArray)(l:List Span)(pins:List Pin):Zb0 (cC pins n) ((Zd0 n L).filter (Z6 l))=Znq L n l pins:=Zs9 (pinB pins n) _
end Go.Hal
namespace Go.Hal
open Go.Proofs.Tryz
open Go Go.RowKit Go.Proofs Go.Shelf Go.Lib Go.Sort
section
variable {α:Type} [Inhabited α]
theorem Zqy{k:Nat}(f:α→List Value)(hk: ∀x,(f x).length=k): ∀(l:List α) (j:Nat),j<l.length*k→((l.map f).flatten)[j]? =some ((f (l.toArray[j/k]!))[j%k]!)
 | [],j,h=>by simp at h
 |a::l,j,h=>by
  have hk0:0<k:=by
    rcases Nat.eq_zero_or_pos k with h0|h0
    ·rw[h0]at h; simp at h
    ·exact h0
  rw[List.map_cons,List.flatten_cons]
  by_cases hj:j<k
  ·rw[List.getElem?_append_left (by rw[hk]; exact hj),Nat.div_eq_of_lt hj,Nat.mod_eq_of_lt hj,List.getElem?_eq_getElem (by rw[hk]; exact hj)]
   have:(f a)[j]! =(f a)[j]'(by rw[hk]; exact hj):=getElem!_pos _ _ (by rw[hk]; exact hj)
   simp[this]
  ·rw[List.getElem?_append_right (by rw[hk]; omega),hk]
   have h1:j - k<l.length*k:=by rw[List.length_cons,Nat.add_mul]at h; omega
   rw[Zqy f hk l (j - k) h1]
   have h2:j/k=(j - k)/k+1:=by rw[Nat.div_eq_sub_div hk0 oM]
   have h3:j%k=(j - k)%k:=Nat.mod_eq_sub_mod oM
   rw[h2,h3]
   simp
theorem Zsf{k:Nat}{f:α→List Value}(hk: ∀x,(f x).length=k){w:World}{g:Nat}{l:List α}{tail:List Value}(h:RowB f w g l tail):HoldsK f k w g 0 l.toArray:=by
 obtain⟨t,_,_,hb⟩:=h
 intro j hj
 have hj':j<l.length*k:=by simpa using hj
 rw[get_flatK _ _ _ _ (by simpa using hj')]
 have hg:=Zqy f hk l j hj'
 have hlt:j<((l.map f).flatten).length:=by rw[Zh1 f hk]; exact hj'
 constructor
 ·simp only[World.cell?,hb,Nat.zero_add]
  rw[List.getElem?_toArray]
  rw[List.getElem?_append_left hlt,hg]; rfl
 ·simp[World.frozen?,hb]
theorem Zud{d d':Array α}(h:PermIn 0 d.size d d'):d'.toList.Perm d.toList:=by
 obtain⟨h1,_,h3⟩:=h
 have e1:d'.extract 0 d.size=d':=by rw[←h1]; simp
 have e2:d.extract 0 d.size=d:=by simp
 rw[e1,e2]at h3; exact h3
theorem Zrd{lt:α→α→Bool}{d d':Array α}(hs:d'.size=d.size)(h:SortedIn lt 0 d.size d'):d'.toList.Pairwise λx y=>lt y x=false:=by
 rw[List.pairwise_iff_getElem]
 intro i j hi hj hij
 have hj':j<d.size:=by rw[←hs]; simpa using hj
 have:=h i j (Nat.zero_le _) hij hj'
 rw[getElem!_pos _ _ oM,getElem!_pos _ _ oM]at this
 simpa using this
theorem Z0c{k:Nat}{f:α→List Value}(hk: ∀x,(f x).length=k){w:World}{g n:Nat}{l l':List α}{tail:List Value}{os:Array Obj}(h:RowB f w g l tail)(hl:l'.length=l.length):
  But g w (sortWorldK f k w g 0 n l'.toArray os)∧RowB f (sortWorldK f k w g 0 n l'.toArray os) g l' tail∧w.drawn≤(sortWorldK f k w g 0 n l'.toArray os).drawn:=by
 obtain⟨t,_,_,hb⟩:=h
 have hgl:g<w.heap.size:=(Array.getElem?_eq_some_iff.1 hb).1
 have hh:(sortWorldK f k w g 0 n l'.toArray os).heap=w.heap.modify g (onCells (putCells id 0 (flatK f k l'.toArray)))++os:=rfl
 refine⟨⟨by rw[hh]; simp,rfl,rfl,rfl,λb hbl hne=>?_⟩,⟨t,rfl,rfl,?_⟩,?_⟩
 ·rw[hh,Array.getElem?_append_left (by simpa using hbl),Array.getElem?_modify,if_neg (Ne.symm hne)]
 ·rw[hh,Array.getElem?_append_left (by simpa using hgl),Array.getElem?_modify,if_pos rfl,hb]
  simp only[Option.map_some,onCells,Option.some.injEq,Obj.cells.injEq,and_true]
  apply Array.ext_getElem?
  intro j
  simp only[putCells,Array.getElem?_mapIdx,List.getElem?_toArray,Nat.zero_le,true_and,Nat.zero_add,Nat.sub_zero,size_flatK,List.size_toArray,id]
  have e1:=Zh1 f hk l; have e2:=Zh1 f hk l'
  by_cases hj:j<l'.length*k
  ·rw[List.getElem?_append_left (by rw[e1,←hl]; exact hj),List.getElem?_append_left (by rw[e2]; exact hj),List.getElem?_eq_getElem (by rw[e1,←hl]; exact hj)]
   simp only[Option.map_some,if_pos hj]
   rw[get_flatK _ _ _ _ (by simpa using hj),Zqy f hk l' j hj]
  ·rw[List.getElem?_append_right (by rw[e1,←hl]; omega),List.getElem?_append_right (by rw[e2]; omega),e1,e2,hl]
   cases tail[j - l.length*k]? with
   |none=>rfl
   |some v=>simp only[Option.map_some]; rw[if_neg (by rw[←hl]; exact hj)]
 ·show w.drawn≤w.drawn+n
  omega
theorem Zf7{P:Program}{ρ:Ren}(L:SlLaysF0.n6 P ρ){k:Nat}(aE: ∀w,(isAgg (ρ.t 24)).run P w= .ok true w)(zE: ∀w,(Go.sizeOf (ρ.t 24)).run P w= .ok k w){f:α→List Value}(hk: ∀x,(f x).length=k)(h1: ∀x,∀v∈f x,v.oneCell'=true)
  (cf:α→α→Int) (hO:SWO (ltOf cf)) (gf:Nat) (cb:Array Value) (eg: ∀args w,(callFunc gf args).run P w= .ok (.enter gf args) w) {w:World} {g cap:Nat} {l:List α} {tail:List Value}
  (hcmp: ∀w0 x y,But g w w0→w.drawn≤w0.drawn→Calls P gf (#[.agg (f x).toArray,.agg (f y).toArray]++cb) w0 λe w'=>e= .returned (.int .i64 (cf x y))∧ ∃q os',w'=grow (w0.drewN q) os')
  (hR:RowB f w g l tail) (hsz:l.length<4611686018427387904) {K:Value→World→Prop} {F:Nat} (hF:ρ.f 6=F)
  (hK: ∀l' w',l'.Perm l→l'.Pairwise (λx y=>¬cf y x<0)→But g w w'→RowB f w' g l' tail→K (.tuple #[]) w'):callS P F [Sl.v ⟨some ⟨g,0,none⟩,l.length,cap⟩,.func (.func gf) #[] cb] w K:=by
 subst hF
 have hgl:g<w.heap.size:=by obtain⟨t,_,_,hb⟩:=hR; exact(Array.getElem?_eq_some_iff.1 hb).1
 have hC:CmpLays P gf cb f k cf g 0 l.toArray.size w:=λm os dk hs x y=>by
  have:=Z0c hk (n:=m) (os:=os) (l':=dk.toList) hR (by simpa using hs)
  exact hcmp _ x y this.1 this.2.2
 have h:=AnyQ.slices_SortFunc L k aE zE f hk h1 cf hO gf cb g 0 cap l.toArray w eg hC (Zsf hk hR) hgl (by simpa using hsz)
 refine h.mono λe w' ⟨he,d',n,os,hp,hs,hw⟩=>⟨_,he,?_⟩
 have hps:=Zud hp
 have hlen:d'.toList.length=l.length:=by simpa using hp.1
 have hput:=Z0c hk (n:=n) (os:=os) (l':=d'.toList) hR hlen
 rw[Array.toArray_toList,←hw]at hput
 exact hK d'.toList w' (by simpa using hps) ((Zrd hp.1 hs).imp λh=>by simpa[ltOf]using h) hput.1 hput.2.1
omit [Inhabited α]in
theorem Zjb{cf:α→α→Int}(flip: ∀x y,cf x y<0↔0<cf y x)(trans: ∀x y z,cf x y≤0→cf y z≤0→cf x z≤0):SWO (ltOf cf) where
 irrefl x:=by
  have:=flip x x
  simp only[ltOf,decide_eq_false_iff_not]; omega
 trans x y z h1 h2:=by
  simp only[ltOf,decide_eq_true_eq]at*
  have a:=flip x y; have b:=flip y z; have c:=flip x z; have d:=flip z x; have e:=flip z y; have f:=flip y x
  have g:=trans x y z oM oM
  by_cases h0:cf x z=0
  ·have k:=trans z x y oM oM
   omega
  ·omega
 ntrans x y z h1 h2:=by
  simp only[ltOf,decide_eq_false_iff_not]at*
  have a:=flip x y; have b:=flip y z; have c:=flip x z; have d:=flip z x; have e:=flip z y; have f:=flip y x
  have:=trans z y x oM oM
  omega
end
end Go.Hal
namespace Go.Hal
open Go.Proofs.Tryz
open Go Go.RowKit Go.Proofs Go.Shelf Go.Sort
def Gr(w w':World):Prop:=∃q os,w'=grow (w.drewN q) os
theorem Gr.refl(w:World):Gr w w:=⟨0,#[],by simp[World.drewN]⟩
theorem Gr.trans{a b c:World}(h:Gr a b)(k:Gr b c):Gr a c:=by
 obtain⟨q,os,rfl⟩:=h
 obtain⟨r,os',rfl⟩:=k
 refine⟨q+r,os++os',?_⟩
 simp[grow,World.drewN,Array.append_assoc,Nat.add_assoc]
theorem Gr.alloc(w:World)(o:Obj):Gr w (w.alloc o):=⟨0,#[o],by simp[alloc_eq_grow,World.drewN]⟩
theorem Gr.drew(w:World):Gr w w.drew:=⟨1,#[],(grow_empty (w.drewN 1)).symm⟩
theorem Gr.ext{w w':World}(h:Gr w w'):Ext w w':=by
 obtain⟨q,os,rfl⟩:=h
 exact⟨rfl,rfl,rfl,by simp[grow,World.drewN],λk hk=>by simp only[grow,World.drewN]; rw[Array.getElem?_append_left hk]⟩
theorem newS.gr{w:World}{cs:List Value}{t:TypeId}{k:Addr→World→Prop}(h: ∀a w',Gr w w'→BoxAt w' a cs→k a w'):newS w cs t k:=λa w' ha hw=>by
 subst ha hw
 exact h _ _ (Gr.alloc _ _) ⟨t,rfl,rfl,heap_alloc_new w _⟩
theorem bnd.gr{w:World}{k:World→Prop}(h: ∀w',Gr w w'→k w'):bnd w.drew k:=λ_ e=>h _ (e▸Gr.drew w)
theorem Gr.at0{w w':World}{a:Addr}{cs cs' r:List Value}(h:BoxAt w a cs)(hx:Gr w w')(hp:cs=cs'++r):Go.Hal.ldc w' a cs':=h.at0 hx.ext hp
theorem Gr.at1{w w':World}{a:Addr}{k:Nat}{cs cs' r:List Value}(h:BoxAt w a cs)(hx:Gr w w')(hp:cs.drop k=cs'++r):Go.Hal.ldc w' (a.add k) cs':=h.at1 hx.ext hp
theorem Zpb{a b:Ver}{w:World}{R:Int→World→Prop}(hR: ∀w',Gr w w'→R (a.cmp b) w'):SE.Zc8 a.ma a.mi a.pa b.ma b.mi b.pa w R:=by
 unfold SE.Zc8
 refine newS.gr λ_ w1 x1 hb=>newS.gr λ_ w2 x2 hb2=>bnd.gr λw3 x3=>?_
 have x13:=x2.trans x3
 refine⟨_,Gr.at0 hb x13 rfl,_,Gr.at0 hb2 x3 rfl,?_⟩
 refine⟨_,Gr.at1 hb x13 rfl,_,Gr.at1 hb2 x3 rfl,?_⟩
 refine⟨_,Gr.at1 hb x13 rfl,_,Gr.at1 hb2 x3 rfl,?_⟩
 refine callX.intro (SE.Zbl.go (cmpInt_se ⟨Ext.refl _,_,rfl,callX.intro (SE.Zbl.go (cmpInt_se ⟨Ext.refl _,_,rfl,SE.Zbl.go (cmpInt_se ⟨_,rfl,?_⟩)⟩))⟩))
 refine newS.gr λa16 w4 x4 hb4=>SE.Zfz.go (Zrr (Zva (l:=[_,_,_]) hb4 sI) ⟨_,rfl,?_⟩)
 exact hR _ (x1.trans (x13.trans x4))
theorem Zwp{a b:Ver}{w:World}{R:Int→World→Prop}(hR: ∀w',Gr w w'→R (b.cmp a) w'):SE.Zel a.ma a.mi a.pa b.ma b.mi b.pa w R:=by
 unfold SE.Zel
 refine newS.gr λ_ w1 x1 hb=>newS.gr λ_ w2 x2 hb2=>?_
 refine⟨_,_,_,Gr.at0 hb2 (Gr.refl _) rfl,_,_,_,Gr.at0 hb x2 rfl,SE.Zc8.go (Zpb (a:=b) (b:=a) λw3 x3=>⟨_,rfl,hR _ (x1.trans (x2.trans x3))⟩)⟩
theorem cmpL(x:List UInt8): ∀y:List UInt8,Lib.compareBytes x y=if Op.bytesLess x y=true then -1 else if x=y then 0 else 1:=by
 induction x with
 |nil=>intro y; cases y<;>simp[Lib.compareBytes,Op.bytesLess]
 |cons u x ih=>
  intro y
  cases y with
  |nil=>simp[Lib.compareBytes,Op.bytesLess]
  |cons v y=>
   rw[Zql]
   simp only[Lib.compareBytes]
   by_cases h1:u<v
   ·simp[h1]
   ·by_cases h2:v<u
    ·have hne: ¬u=v:=λe=>by subst e; exact h1 h2
     simp[h1,h2,hne]
    ·have he:u=v:=UInt8.le_antisymm (UInt8.not_lt.1 h2) (UInt8.not_lt.1 h1)
     subst he
     simp[ih y]
theorem cmpB(a b:ByteArray):Lib.compareBytes a.data.toList b.data.toList=cmpS a b:=by
 rw[cmpL]
 have e1:Op.bytesLess a.data.toList b.data.toList=bLt a b:=by rw[←toList_data,←toList_data]; rfl
 rw[e1,cmpS]
 cases h:bLt a b
 ·simp only[Bool.false_eq_true,if_false]
  by_cases he:a=b
  ·subst he; simp[Zca.2 rfl]
  ·have h2: ¬a.data.toList=b.data.toList:=λe=>he (Zpg e)
   have h3:bEq a b=false:=by rw[Bool.eq_false_iff]; exact λe=>he (Zca.1 e)
   simp[h2,h3]
 ·simp
theorem Zja{a b:ByteArray}{w:World}{k:Value→World→Prop}(hk:k (.int .i64 (cmpS a b)) w):callS prog 72 [.string a,.string b] w k:=
 (Any.strings_Compare Tryz.layCo a b w).mono λe w' ⟨he,hw⟩=>⟨_,he,by rw[hw,cmpB]; exact hk⟩
end Go.Hal
/-
 DERIVED:THE SHELF's CONTRACTS AT THIS DUMP,IN PLAIN WORDS (tools/lay-plain.mjs out of 'YtdjiedhnoanbpaaGreatDoorLay2.lean',which tools/lay-shelf.mjs wrote):THE SAME DECLARATIONS UNDER THE SAME NAMES:'import','namespace','open','def','theorem' AND NOTHING ELSE:no command of the shelf's:FOR A HAND-IN. Each laying:the table of numbers ('.._ren') and one theorem,a field a fact of the dump's own or the kernel's comparison; each contract:ONE APPLICATION.
-/
namespace Go.Proofs
open Go.Proofs.Tryz
open Go.Shelf
def Tryz.laySv_ren:Go.Shelf.Ren:=⟨λ|6=>236|15=>114|14=>300|28=>193|29=>194|20=>301|21=>327|22=>328|23=>329|24=>330|25=>331|26=>332|27=>333|46=>353|47=>266|48=>267|49=>354|50=>355|57=>366|n=>n,λ|22=>178|24=>50|25=>122|3=>3|39=>205|0=>0|53=>281|55=>283|4=>4|46=>275|45=>274|50=>207|5=>5|9=>9|66=>329|70=>333|76=>369|77=>370|n=>n,λ|n=>n⟩
theorem Tryz.laySv:Go.Proofs.SlLaysF0.n6 prog Tryz.laySv_ren:={
 mixed:=kR
 f6:=⟨Tryz.f236.name,by decide,func236.trans kS⟩
 f14:=⟨Tryz.f300.name,by decide,func300.trans kS⟩
 f15:=func114.trans kS
 f20:=⟨Tryz.f301.name,by decide,func301.trans kS⟩
 f21:=⟨Tryz.f327.name,by decide,func327.trans kS⟩
 f22:=⟨Tryz.f328.name,by decide,func328.trans kS⟩
 f23:=⟨Tryz.f329.name,by decide,func329.trans kS⟩
 f24:=⟨Tryz.f330.name,by decide,func330.trans kS⟩
 f25:=⟨Tryz.f331.name,by decide,func331.trans kS⟩
 f26:=⟨Tryz.f332.name,by decide,func332.trans kS⟩
 f27:=⟨Tryz.f333.name,by decide,func333.trans kS⟩
 f28:=func193.trans kS
 f29:=func194.trans kS
 f46:=⟨Tryz.f353.name,by decide,func353.trans kS⟩
 f47:=func266.trans kS
 f48:=func267.trans kS
 f49:=⟨Tryz.f354.name,by decide,func354.trans kS⟩
 f50:=⟨Tryz.f355.name,by decide,func355.trans kS⟩
 f57:=⟨Tryz.f366.name,by decide,func366.trans kS⟩
 t0:=underlying0
 a0:=Tryz.isAgg0
 z0:=Tryz.sizeOf0
 v0:=Tryz.zeroValue0
 t3:=underlying3
 a3:=Tryz.isAgg3
 z3:=Tryz.sizeOf3
 v3:=Tryz.zeroValue3
 t4:=underlying4
 a4:=Tryz.isAgg4
 z4:=Tryz.sizeOf4
 v4:=Tryz.zeroValue4
 t5:=underlying5
 a5:=Tryz.isAgg5
 z5:=Tryz.sizeOf5
 v5:=Tryz.zeroValue5
 t9:=underlying9
 a9:=Tryz.isAgg9
 z9:=Tryz.sizeOf9
 v9:=Tryz.zeroValue9
 t22:=underlying178
 a22:=Tryz.isAgg178
 z22:=Tryz.sizeOf178
 v22:=Tryz.zeroValue178
 t25:=underlying122
 a25:=Tryz.isAgg122
 z25:=Tryz.sizeOf122
 v25:=Tryz.zeroValue122
 t39:=underlying205
 a39:=Tryz.isAgg205
 z39:=Tryz.sizeOf205
 v39:=Tryz.zeroValue205
 t45:=underlying274
 a45:=Tryz.isAgg274
 z45:=Tryz.sizeOf274
 v45:=Tryz.zeroValue274
 t46:=underlying275
 a46:=Tryz.isAgg275
 z46:=Tryz.sizeOf275
 v46:=Tryz.zeroValue275
 t50:=underlying207
 a50:=Tryz.isAgg207
 z50:=Tryz.sizeOf207
 v50:=Tryz.zeroValue207
 t53:=underlying281
 a53:=Tryz.isAgg281
 z53:=Tryz.sizeOf281
 v53:=Tryz.zeroValue281
 t55:=underlying283
 a55:=Tryz.isAgg283
 z55:=Tryz.sizeOf283
 v55:=Tryz.zeroValue283
 t66:=underlying329
 a66:=Tryz.isAgg329
 z66:=Tryz.sizeOf329
 v66:=Tryz.zeroValue329
 t70:=underlying333
 a70:=Tryz.isAgg333
 z70:=Tryz.sizeOf333
 v70:=Tryz.zeroValue333
 t76:=underlying369
 a76:=Tryz.isAgg369
 z76:=Tryz.sizeOf369
 v76:=Tryz.zeroValue369
 t77:=underlying370
 a77:=Tryz.isAgg370
 z77:=Tryz.sizeOf370
 v77:=Tryz.zeroValue370}
def Tryz.laySp_ren:Go.Shelf.Ren:=⟨λ|6=>115|15=>114|14=>195|28=>193|29=>194|20=>270|21=>271|22=>272|23=>273|24=>274|25=>275|26=>276|27=>277|46=>314|47=>266|48=>267|49=>315|50=>316|57=>344|n=>n,λ|22=>26|24=>78|25=>211|3=>3|39=>205|0=>0|53=>281|55=>283|4=>4|46=>275|45=>274|50=>207|5=>5|9=>9|66=>329|70=>333|76=>369|77=>370|n=>n,λ|n=>n⟩
theorem Tryz.laySp:Go.Proofs.SlLaysF0.n6 prog Tryz.laySp_ren:={
 mixed:=kR
 f6:=⟨Tryz.f115.name,by decide,func115.trans kS⟩
 f14:=⟨Tryz.f195.name,by decide,func195.trans kS⟩
 f15:=func114.trans kS
 f20:=⟨Tryz.f270.name,by decide,func270.trans kS⟩
 f21:=⟨Tryz.f271.name,by decide,func271.trans kS⟩
 f22:=⟨Tryz.f272.name,by decide,func272.trans kS⟩
 f23:=⟨Tryz.f273.name,by decide,func273.trans kS⟩
 f24:=⟨Tryz.f274.name,by decide,func274.trans kS⟩
 f25:=⟨Tryz.f275.name,by decide,func275.trans kS⟩
 f26:=⟨Tryz.f276.name,by decide,func276.trans kS⟩
 f27:=⟨Tryz.f277.name,by decide,func277.trans kS⟩
 f28:=func193.trans kS
 f29:=func194.trans kS
 f46:=⟨Tryz.f314.name,by decide,func314.trans kS⟩
 f47:=func266.trans kS
 f48:=func267.trans kS
 f49:=⟨Tryz.f315.name,by decide,func315.trans kS⟩
 f50:=⟨Tryz.f316.name,by decide,func316.trans kS⟩
 f57:=⟨Tryz.f344.name,by decide,func344.trans kS⟩
 t0:=underlying0
 a0:=Tryz.isAgg0
 z0:=Tryz.sizeOf0
 v0:=Tryz.zeroValue0
 t3:=underlying3
 a3:=Tryz.isAgg3
 z3:=Tryz.sizeOf3
 v3:=Tryz.zeroValue3
 t4:=underlying4
 a4:=Tryz.isAgg4
 z4:=Tryz.sizeOf4
 v4:=Tryz.zeroValue4
 t5:=underlying5
 a5:=Tryz.isAgg5
 z5:=Tryz.sizeOf5
 v5:=Tryz.zeroValue5
 t9:=underlying9
 a9:=Tryz.isAgg9
 z9:=Tryz.sizeOf9
 v9:=Tryz.zeroValue9
 t22:=underlying26
 a22:=Tryz.isAgg26
 z22:=Tryz.sizeOf26
 v22:=Tryz.zeroValue26
 t25:=underlying211
 a25:=Tryz.isAgg211
 z25:=Tryz.sizeOf211
 v25:=Tryz.zeroValue211
 t39:=underlying205
 a39:=Tryz.isAgg205
 z39:=Tryz.sizeOf205
 v39:=Tryz.zeroValue205
 t45:=underlying274
 a45:=Tryz.isAgg274
 z45:=Tryz.sizeOf274
 v45:=Tryz.zeroValue274
 t46:=underlying275
 a46:=Tryz.isAgg275
 z46:=Tryz.sizeOf275
 v46:=Tryz.zeroValue275
 t50:=underlying207
 a50:=Tryz.isAgg207
 z50:=Tryz.sizeOf207
 v50:=Tryz.zeroValue207
 t53:=underlying281
 a53:=Tryz.isAgg281
 z53:=Tryz.sizeOf281
 v53:=Tryz.zeroValue281
 t55:=underlying283
 a55:=Tryz.isAgg283
 z55:=Tryz.sizeOf283
 v55:=Tryz.zeroValue283
 t66:=underlying329
 a66:=Tryz.isAgg329
 z66:=Tryz.sizeOf329
 v66:=Tryz.zeroValue329
 t70:=underlying333
 a70:=Tryz.isAgg333
 z70:=Tryz.sizeOf333
 v70:=Tryz.zeroValue333
 t76:=underlying369
 a76:=Tryz.isAgg369
 z76:=Tryz.sizeOf369
 v76:=Tryz.zeroValue369
 t77:=underlying370
 a77:=Tryz.isAgg370
 z77:=Tryz.sizeOf370
 v77:=Tryz.zeroValue370}
end Go.Proofs
namespace Go.Hal
open Go.Proofs.Tryz
open Go Go.RowKit Go.Proofs Go.Shelf
def CatL(w:World)(S:Nat→Prop)(p:Addr)(r:Nat)(L:List Pack):Prop:=∃ps,CatR w S p r ps∧L.Perm ps∧GoodL L
theorem CatL.ext{w w':World}{S:Nat→Prop}{p:Addr}{r:Nat}{L:List Pack}(h:CatL w S p r L)(hx:Ext w w'):CatL w' S p r L:=by
 obtain⟨ps,a,b,c⟩:=h
 exact⟨ps,a.ext hx,b,c⟩
theorem CatL.good{w:World}{S:Nat→Prop}{p:Addr}{r:Nat}{L:List Pack}(h:CatL w S p r L):GoodL L:=by obtain⟨_,_,_,c⟩:=h; exact c
theorem catNew_L{w:World}{R:Option Addr→World→Prop}(hR: ∀p r w',Ext w w'→CatL w' None' p r []→w.heap.size≤r→w.heap.size≤p.block→R (some p) w'):SE.Zfy w R:=
 Zx9 λp r w' hx hC h1 h2=>hR p r w' hx ⟨[],hC,List.Perm.refl _,GoodL.nil⟩ h1 h2
theorem Z1j{x:Pack}{d e o:Sl}{S S2:Nat→Prop}{p:Addr}{r:Nat}{L:List Pack}{w:World}{R:Int→World→Prop}(ht:Tab w)(hC:CatL w S p r L)(hN:Str x.name)(hS2:Old S2 w)
  (hd:SlR depE w S2 d x.deps) (he:SlR depE w S2 e x.peers) (ho:SlR depE w S2 o x.opt)
  (hR: ∀S' w',But r w w'→CatL w' S' p r (Ze9 L x).2→(∀b,S b→S' b)→(∀b,S' b→S b∨w.heap.size≤b)→R (Ze9 L x).1 w'):SE.Zb4 (some p) x.name x.v.ma x.v.mi x.v.pa d e o w R:=by
 obtain⟨ps,h1,h2,h3⟩:=hC
 obtain⟨e1,e2⟩:=Z2u h3 h2 x
 refine Zya ht h1 hN hS2 hd he ho λS' w' b hC' hs hs'=>?_
 rw[e1]
 exact hR S' w' b ⟨_,hC',e2,Zoh h3 x⟩ hs hs'
def Z59:Pack:=⟨⟨#[]⟩,⟨0,0,0⟩,[],[],[]⟩
def getD(L:List Pack)(n:ByteArray)(v:Ver):Pack:=(getL L n v).getD Z59
theorem Zjk{n:ByteArray}{v:Ver}{S:Nat→Prop}{p:Addr}{r:Nat}{L:List Pack}{w:World}{R:ByteArray→Int→Int→Int→Sl→Sl→Sl→Bool→World→Prop}(hC:CatL w S p r L)
  (hR: ∀d e o w',Ext w w'→Str (getD L n v).name→SlP depP w' (λb=>w.heap.size≤b∧b<w'.heap.size) d (getD L n v).deps→SlP depP w' (λb=>w.heap.size≤b∧b<w'.heap.size) e (getD L n v).peers→SlP depP w' (λb=>w.heap.size≤b∧b<w'.heap.size) o (getD L n v).opt→
   R (getD L n v).name (getD L n v).v.ma (getD L n v).v.mi (getD L n v).v.pa d e o (getL L n v).isSome w'):SE.Zam (some p) n v.ma v.mi v.pa w R:=by
 unfold SE.Zam
 obtain⟨ps,hC,hp,hg⟩:=hC
 refine newS.intro λa w1 x1 hb _ _=>newS.intro λa1 w2 x2 hb1 ha1 _=>bnd.drew λw3 x3=>?_
 have x03:Ext w w3:=x1.trans (x2.trans x3)
 have hC3:=hC.ext x03
 refine⟨p,rfl,some r,hC3.box.ldc,v.ma,v.mi,v.pa,hb.at0 (x2.trans x3) rfl,?_⟩
 obtain⟨m,hm,hl,hf⟩:=hC3.find n v
 rw[Zsd hg.ord hp]at hf
 have key: ∃(d e o:Sl),Zlx prog (Instr.lookup 81 (.map (some r)) (keyV n v) true) w3 (.tuple #[Zjv (getD L n v) d e o,.bool (getL L n v).isSome])∧Str (getD L n v).name∧SlR depE w3 S d (getD L n v).deps∧SlR depE w3 S e (getD L n v).peers∧SlR depE w3 S o (getD L n v).opt:=by
  rcases hf with⟨hnone,hno⟩|⟨y,dy,ey,oy,hsome,hin,hN,h1,h2,h3⟩
  ·unfold getD
   rw[hnone]
   exact⟨Sl.nil,Sl.nil,Sl.nil,Zsn keyT hm ⟨_,_,rfl⟩ hno,by unfold Str; exact Nat.zero_le _,SlR.nil trivial,SlR.nil trivial,SlR.nil trivial⟩
  ·unfold getD
   rw[hsome]
   exact⟨dy,ey,oy,Zpz keyT hm ⟨_,_,rfl⟩ hin,hN,h1,h2,h3⟩
 obtain⟨d,e,o,hst,hN,hd,he,ho⟩:=key
 generalize hY:getD L n v=y at*
 refine⟨y.name,y.v.ma,y.v.mi,y.v.pa,d,e,o,(getL L n v).isSome,hst,newS.intro λa6 w4 x4 hb6 ha6 _=>stw0.intro hb6 sI λw5 b5 _ hb5=>?_⟩
 have s3:=x03.size; have s4:=x4.size; have s2:=x2.size; have s1:=x1.size; have s33:=x3.size
 have x35:Ext w3 w5:=b5.ext x4 oM
 refine⟨_,_,_,_,_,_,_,hb5.ldc.pre rfl,SE.Zef.go (Zrt (p:=y) (S:=S) ((hC3.old).ext x35.size) (hd.ext x35) (he.ext x35) (ho.ext x35) λd' e' o' w6 x6 hd' he' ho'=>⟨_,_,_,_,_,_,_,rfl,?_⟩)⟩
 have x36:=x35.trans x6
 have s5:=x35.size; have s6:=x6.size
 have hb1':=hb1.ext (x3.trans x36)
 refine stw0.intro hb1' sI λw7 b7 _ hb7=>⟨_,_,_,_,_,_,_,hb7.ldc.pre rfl,?_⟩
 have hl1:=hb1.lt
 have n1: ¬(w5.heap.size≤a1.block∧a1.block<w6.heap.size):=oM
 have s7:=b7.size
 have up: ∀b,(w5.heap.size≤b∧b<w6.heap.size)→(w.heap.size≤b∧b<w7.heap.size):=λb hb=>⟨oM,oM⟩
 exact hR d' e' o' w7 (b7.ext (x03.trans x36) oM) hN ((hd'.but b7 n1).mono up) ((he'.but b7 n1).mono up) ((ho'.but b7 n1).mono up)
theorem Zwe:ApT prog 178 50 3 24:=Zhe (z:=.agg #[.int .i64 0,.int .i64 0,.int .i64 0]) kR kR rfl dC
theorem Zqu:Zfv prog 237:=enters_of func237 kR rfl
theorem Z66: ∀w,(isAgg 50).run prog w= .ok true w:=λw=>by kernel_rfl
theorem Z5q: ∀w,(Go.sizeOf 50).run prog w= .ok 3 w:=λw=>by kernel_rfl
instance:Inhabited Ver:=⟨⟨0,0,0⟩⟩
instance:Inhabited Pin:=⟨⟨⟨#[]⟩,⟨0,0,0⟩⟩⟩
theorem Z0j{w:World}{g cap:Nat}{l:List Ver}{tail:List Value}{K:Value→World→Prop}(hR:RowB Ver.c w g l tail)(hsz:l.length<4611686018427387904)
  (hK: ∀l' w',l'.Perm l→l'.Pairwise (λx y=>¬x.cmp y<0)→But g w w'→RowB Ver.c w' g l' tail→K (.tuple #[]) w'):
  callS prog 236 [Sl.v ⟨some ⟨g,0,none⟩,l.length,cap⟩,.func (.func 237) #[] #[]] w K:=by
 have hO:=Ver.cmp_ord.swap
 refine Zf7 Tryz.laySv (k:=3) Z66 Z5q (f:=Ver.c) (λ_=>rfl) (λx v hv=>by simp[Ver.c]at hv; rcases hv with rfl|rfl|rfl<;>rfl) (λa b=>b.cmp a) (Zjb hO.flip hO.trans) 237 #[] Zqu (λw0 x y hb _=> ?_) hR hsz rfl hK
 have h:=SE.Zel.go (k:=λv w'=>v= .int .i64 (y.cmp x)∧Gr w0 w') (Zwp (a:=x) (b:=y) (w:=w0) λw' h=>⟨rfl,h⟩)
 exact Calls.mono h λe w' ⟨v,he,hv,hg⟩=>⟨by rw[he,hv],hg⟩
def FlatO{α:Type}(f:α→List Value)(bytes:Nat)(w:World)(lo:Nat)(s:Sl)(l:List α):Prop:=
 s.len=l.length∧l.length≤s.cap∧s.cap≤maxLen∧l.length*bytes≤room∧(l= []∨ ∃g tail,s.a=some ⟨g,0,none⟩∧lo≤g∧RowB f w g l tail)
section
variable {α:Type} {f:α→List Value} {bytes:Nat} {w w':World} {lo:Nat} {s:Sl} {l:List α}
theorem FlatO.read{E:Enc α}(h:FlatO f E.bytes w lo s l)(hk: ∀x,(f x).length=E.n)(hE: ∀w S,∀x∈l,E.rep w S x (f x)):SlR E w (λb=>lo≤b∧b<w.heap.size) s l:=by
 obtain⟨h1,h2,h3,h4,h5⟩:=h
 refine⟨h1,h2,h3,h4,?_⟩
 rcases h5 with h5|⟨g,tail,ha,hg,hr⟩
 ·exact .inl h5
 ·exact .inr ⟨_,ha,⟨hg,hr.lt⟩,λi x hx=>⟨f x,hE _ _ x (List.mem_of_getElem? hx),hr.ld' hk hx⟩⟩
theorem FlatO.ext(h:FlatO f bytes w lo s l)(hx:Ext w w'):FlatO f bytes w' lo s l:=by
 obtain⟨h1,h2,h3,h4,h5⟩:=h
 exact⟨h1,h2,h3,h4,h5.imp id λ⟨g,tail,a,b,c⟩=>⟨g,tail,a,b,c.ext hx⟩⟩
theorem FlatO.of{E:Enc α}{T:TypeId}{S:Nat→Prop}(hE: ∀x cs,E.rep w S x cs→cs=f x)(h:OwnS E T w lo S s l)(hb:l.length*bytes≤room):FlatO f bytes w lo s l:=by
 rcases OwnS.rowG f (λy x=>y=x) (λx cs hr=>⟨x,hE x cs hr,rfl⟩) h with⟨rfl,rfl⟩|⟨g,z,tail,ha,hg,hz,hr,hR,hc,hm⟩
 ·exact⟨rfl,Nat.le_refl _,Nat.zero_le _,hb,.inl rfl⟩
 ·have e:z.map Prod.fst=l:=by
   rw[←hz]
   exact List.map_congr_left λp hp=>hr p hp
  rw[e]at hR
  exact⟨h.len,hc,hm,hb,.inr ⟨g,tail,ha,hg,hR⟩⟩
theorem FlatO.clip{k:Nat}(h:FlatO f bytes w lo s l):FlatO f bytes w lo (Sl.mk (if(s.len:Int).toNat=0 then s.a else s.a.map (·.add (0*k))) ((s.len:Int).toNat - 0) ((s.len:Int).toNat - 0)) l:=by
 obtain⟨h1,h2,h3,h4,h5⟩:=h
 refine⟨by simp[h1],by simp[h1],by simp[h1]; omega,h4,h5.imp id λ⟨g,tail,a,b,c⟩=>⟨g,tail,?_,b,c⟩⟩
 show(if _ then _ else _)=_
 split
 ·exact a
 ·rw[a,Nat.zero_mul]; rfl
end
theorem Zxn{w:World}{lo:Nat}{s:Sl}{l:List Ver}{K:Value→World→Prop}(h:FlatO Ver.c 24 w lo s l)(hlo:lo≤w.heap.size)
  (hK: ∀l' w',l'.Perm l→l'.Pairwise (λx y=>¬x.cmp y<0)→Below lo w w'→FlatO Ver.c 24 w' lo s l'→K (.tuple #[]) w'):
  callS prog 236 [Sl.v s,.func (.func 237) #[] #[]] w K:=by
 obtain⟨h1,h2,h3,h4,h5⟩:=h
 obtain⟨a,n,c⟩:=s
 simp only at h1 h2 h3 h5
 subst h1
 rcases h5 with rfl|⟨g,tail,ha,hg,hr⟩
 ·refine(AnyF.slices_SortFunc_none Tryz.laySv a c _ w).mono λe w' ⟨he,hw⟩=>⟨_,he,?_⟩
  subst hw
  exact hK [] _ (List.Perm.refl _) .nil (Below.refl _ _) ⟨rfl,h2,h3,h4,.inl rfl⟩
 ·subst ha
  refine Z0j hr (by unfold room at h4; omega) λl' w' hp hs b hr'=>hK l' w' hp hs (b.below hlo hg) ⟨hp.length_eq.symm,by rw[hp.length_eq]; exact h2,h3,by rw[hp.length_eq]; exact h4,.inr ⟨g,tail,rfl,hg,hr'⟩⟩
theorem Z64{α β γ:Type}{z:List (α×β)}{l1 l2:List β}{p:β}(h:z.map Prod.snd=l1++p::l2): ∃z1 x z2,z=z1++(x,p)::z2∧z1.map Prod.snd=l1∧z2.map Prod.snd=l2:=by
 obtain⟨z1,z2',rfl,e1,e2⟩:=List.map_eq_append_iff.1 h
 obtain⟨q,z2,rfl,e3,e4⟩:=List.map_eq_cons_iff.1 e2
 exact⟨z1,q.1,z2,by rw[←e3],e1,e4⟩
theorem ents{w:World}{S:Nat→Prop}: ∀{ps:List Pack} {m:List (Value×Value)},m.length=ps.length→(∀(i:Nat) (x:Pack),ps[i]? =some x→ ∃kv,m[i]? =some kv∧EntR w S x kv)→ ∃z:List (Pack×(Value×Value)),z.map Prod.fst=ps∧z.map Prod.snd=m∧ ∀q∈z,EntR w S q.1 q.2
 | [],[],_,_=>⟨[],rfl,rfl,by simp⟩
 | [],_::_,h,_=>by cases h
 |_::_,[],h,_=>by cases h
 |x::ps,kv::m,h,hel=>by
  obtain⟨kv',h1,h2⟩:=hel 0 x rfl
  simp only[List.getElem?_cons_zero,Option.some.injEq]at h1
  subst h1
  obtain⟨z,k1,k2,k3⟩:=ents (w:=w) (S:=S) (ps:=ps) (m:=m) (by simpa using h) λi y hy=>hel (i+1) y hy
  refine⟨(x,kv)::z,by simp[k1],by simp[k2],λq hq=>?_⟩
  rcases List.mem_cons.1 hq with rfl|hq
  ·exact h2
  ·exact k3 q hq
theorem Zo2{n:ByteArray}{S:Nat→Prop}{p:Addr}{r:Nat}{L:List Pack}{w:World}{R:Sl→World→Prop}(hC:CatL w S p r L)
  (hR: ∀t w',Ext w w'→FlatO Ver.c 24 w' w.heap.size t (Zd0 n L)→R t w'):SE.Zw (some p) n w R:=by
 unfold SE.Zw
 obtain⟨ps,hC,hp,hg⟩:=hC
 obtain⟨m,hm,hl,hel⟩:=hC.map
 refine⟨p,rfl,some r,hC.box.ldc,Zul underlying81 hm λit w1 x1 hit hI=>⟨_,rfl,?_⟩⟩
 obtain⟨z0,hz1,hz2,hz3⟩:=ents hl hel
 have hw1:=hI.lt
 have hlen:ps.length≤128:=by rw[←hp.length_eq]; exact hg.le
 refine loop1.ghost (λk out w'=>∃(z:List (Pack×(Value×Value))) (vis:List Pack) (last:Option (Value×Value)),k=z.length∧IterR w' it r (z.map Prod.snd) last∧(∀q∈z,EntR w S q.1 q.2)∧(vis++z.map Prod.fst).Perm ps∧Ext w w'∧w1.heap.size≤w'.heap.size∧OwnS verE 50 w' w1.heap.size None' out ((vis.filter (hasN n)).map (·.v))) _
  ⟨z0,[],none,rfl,by rw[hz2]; exact hI,hz3,by rw[hz1]; exact List.Perm.refl _,x1,Nat.le_refl _,OwnS.zero w1⟩ λk out w2 nxt ⟨z,vis,last,hk,hI2,hz,hpz,x2,hs2,own⟩ hn=>?_
 have hvl:vis.length≤128:=by have:=hpz.length_eq; rw[List.length_append]at this; omega
 refine Zw4 hI2 (λh0=>?_) λq l1 l2 w3 hq hb3 hsz3 bt3 hI3=>?_
 ·have hz0:z= []:=List.map_eq_nil_iff.1 h0
  subst hz0
  rw[List.map_nil,List.append_nil]at hpz
  refine⟨false,⟨#[]⟩,0,0,0,⟨#[]⟩,0,0,0,Sl.nil,Sl.nil,Sl.nil,rfl,nO,λ_=> ?_⟩
  have hvp:=(((hpz.filter (hasN n)).map (·.v)).trans (Zuz hp n).symm)
  have hfl:((vis.filter (hasN n)).map (·.v)).length*24≤room:=by
   have:=List.length_filter_le (hasN n) vis
   rw[List.length_map]; unfold room; omega
  refine Zxn (FlatO.of (E:=verE) (f:=Ver.c) (bytes:=24) (λx cs h=>h.1) own hfl) hs2 λl' w3 hp3 hs3 bel3 hF=>⟨rfl,?_⟩
  have e:=Zyx hs3 (Zti hg.ord n) (hp3.trans hvp)
  subst e
  refine SE.Za4.go ⟨⟨oM,oM,oM,by have:=hF.1; have:=hF.2.1; omega⟩,_,rfl,hR _ _ (x2.trans' ?_) ?_⟩
  ·exact Below.mono bel3 (by have:=x1.size; omega)
  ·have:=hF.clip (k:=3)
   obtain⟨a,b,c,d,e⟩:=this
   exact⟨a,b,c,d,e.imp id λ⟨g,tail,a,b,c⟩=>⟨g,tail,a,Nat.le_trans x1.size b,c⟩⟩
 ·obtain⟨z1,x,z2,hze,e1,e2⟩:=Z64 (γ:=Unit) hq
  subst hze
  obtain⟨d,e,o,hkv,hN,hd,he,ho⟩:=hz (x,q) sI
  simp only at hkv
  subst hkv
  have hitw:w.heap.size≤it:=oM
  have x3:Ext w w3:=bt3.ext x2 hitw
  have own3:=own.but bt3 (λh=>h) (λad ha=>by have:=(own.block ha).1; omega)
  refine⟨true,x.name,x.v.ma,x.v.mi,x.v.pa,x.name,x.v.ma,x.v.mi,x.v.pa,d,e,o,rfl,λ_=> ?_,nO⟩
  refine⟨x.name,x.v.ma,x.v.mi,x.v.pa,x.name,x.v.ma,x.v.mi,x.v.pa,d,e,o,λw' hx=>Zyt (hI3.ext hx),newS.intro λa w4 x4 hb4 ha4 _=>stw0.intro hb4 sI λw5 b5 _ hb5=>⟨x.name,hb5.ldc.pre rfl,λhnm=>?_,λhnm=>?_⟩⟩
  all_goals
   have s3:=x3.size
   have s4:=x4.size
   have x35:Ext w3 w5:=b5.ext x4 oM
   have s5:=x35.size
   have hzz: ∀q∈z1++z2,EntR w S q.1 q.2:=λq hq=>hz q (by
    rcases List.mem_append.1 hq with h|h
    ·exact List.mem_append_left _ h
    ·exact List.mem_append_right _ (.tail _ h))
   have hpp:((vis++ [x])++(z1++z2).map Prod.fst).Perm ps:=by
    refine List.Perm.trans ?_ hpz
    rw[List.append_assoc,List.map_append,List.map_append,List.map_cons,List.singleton_append]
    exact List.perm_middle.symm.append_left vis
   have hlz:(z1++z2).length<(z1++(x,keyV x.name x.v,Zjv x d e o)::z2).length:=by simp
   have hIz: ∀w',IterR w' it r (l1++l2) (some (keyV x.name x.v,Zjv x d e o))→IterR w' it r ((z1++z2).map Prod.snd) (some (keyV x.name x.v,Zjv x d e o)):=λw' h=>by rw[List.map_append,e1,e2]; exact h
  ·refine⟨_,_,_,hb5.at1 (k:=1) xR rfl,newS.intro λa6 w6 x6 hb6 _ _=> ?_⟩
   have x36:=x35.trans x6
   have s6:=x6.size
   have hfl:(((vis.filter (hasN n)).map (·.v)).length+1)*verE.bytes≤room:=by
    have:=List.length_filter_le (hasN n) vis
    have hb:verE.bytes=24:=rfl
    rw[List.length_map,hb]; unfold room; omega
   refine(own3.ext x36).push (x:=x.v) (S':=None') Zwe oM ⟨rfl,trivial⟩ hb6.ldc (λ_ h=>h.elim) (λ_ _ h=>h.elim) hfl (by rw[Zb]; unfold room at hfl; have hb:verE.bytes=24:=rfl; rw[hb]at hfl; omega) λt w7 own7 bel7 _ _=> ?_
   refine hn _ _ _ (by rw[hk]; exact hlz) ⟨z1++z2,vis++ [x],_,rfl,hIz _ (((hI3.ext x36).of (bel7.block r (by have:=hm.lt; omega)) (bel7.block it oM))),hzz,hpp,(x3.trans x36).trans' (Below.mono bel7 oM),by have:=bel7.size; omega,?_⟩
   rw[List.filter_append,List.map_append]
   have:hasN n x=true:=by simp[hasN,hnm]
   simp only[List.filter_cons,this,if_true,List.filter_nil,List.map_cons,List.map_nil]
   exact own7.mono (λ_ h=>h.elim id id) (λ_ h=>h.elim) (λ_ _ h=>h.elim)
  ·refine hn _ _ _ (by rw[hk]; exact hlz) ⟨z1++z2,vis++ [x],_,rfl,hIz _ (hI3.ext x35),hzz,hpp,x3.trans x35,oM,?_⟩
   rw[List.filter_append,List.map_append]
   have:hasN n x=false:=by simp[hasN,hnm]
   simp only[List.filter_cons,this,List.filter_nil,List.map_nil,List.append_nil,Bool.false_eq_true,if_false]
   exact own3.ext x35
theorem Zy6{s:Sl}{l:List Ver}{f:Value}{p:Ver→Bool}{S:Nat→Prop}{w:World}{R:Int→World→Prop}(hs:SlR verE w S s l)(hf:Ztk f (λx=>.agg #[.int .i64 x.ma,.int .i64 x.mi,.int .i64 x.pa]) p l w)
  (hR: ∀w',Ext w w'→R (idxI p l) w'):SE.Zy s f w R:=by
 unfold SE.Zy
 have hl:=hs.len
 refine loop1.up hs.max (λi w'=>Ext w w'∧(l.take i).any p=false) ⟨Ext.refl _,rfl⟩ λi w1 nxt hi ⟨x1,hI⟩ hn=>⟨λhlt=>?_,λhge=>?_⟩
 ·have hlt':i<l.length:=oM
  obtain⟨ad,cs,ha,_,⟨rfl,_⟩,hc⟩:=hs.el hlt'
  refine⟨ad,⟨ha,oM,hlt⟩,_,_,_,hc _ xT,hf _ (List.getElem_mem hlt') _ _ x1 λw2 x2=>⟨_,rfl,λh=>?_,λh=>?_⟩⟩
  ·rw[←Zlf hlt' hI h]; exact hR _ xT
  ·exact hn hlt' _ ⟨xT,by rw[Zfq hlt' hI]; exact h⟩
 ·have:i=l.length:=oM
  rw[this,List.take_length]at hI
  rw[←Zim hI]; exact hR _ xT
theorem Z3i(z:Array Value)(n:Nat):(Builtin.zeroCells z n).toList.length=n*z.size:=by rw[Array.length_toList,size_zeroCells]
theorem Z3j{z:Array Value}(hz: ∀v∈z,v.oneCell'=true)(n:Nat): ∀v∈(Builtin.zeroCells z n).toList,v.oneCell'=true:=λv hv=>by
 simp only[Builtin.zeroCells,Array.toList_map,Array.toList_range,List.mem_map,List.mem_range]at hv
 obtain⟨i,hi,rfl⟩:=hv
 have hpos:0<z.size:=by
  rcases Nat.eq_zero_or_pos z.size with h|h
  ·rw[h]at hi; simp at hi
  ·exact h
 have hlt:i%z.size<z.size:=Nat.mod_lt _ hpos
 have e:z[i%z.size]! =z[i%z.size]:=getElem!_pos z _ hlt
 rw[e]; exact hz _ (Array.getElem_mem hlt)
theorem Zyc{P:Program}{t e ty:TypeId}{z:Value}{n k:Nat}(ht:P.underlying t=some (.slice e))(hv: ∀w,(zeroValue e).run P w= .ok z w)(hz:z.cells.size=k)(h1: ∀v∈z.cells,v.oneCell'=true){w:World}{g o c:Nat}{front back:List Value}(ho:front.length=o)(hn:n*k≤back.length)(hB:BoxAt w ⟨g,0,none⟩ (front++back))
  {K:Value→World→Prop} (hK: ∀w' back',But g w w'→BoxAt w' ⟨g,0,none⟩ (front++back')→K (.tuple #[]) w'):semS P (Builtin.clear_ #[t] ty #[.slice (some ⟨g,o,none⟩) n c]) w K:=by
 obtain⟨T,_,_,hb⟩:=hB
 simp only at hb
 have hgl:=(Array.getElem?_eq_some_iff.1 hb).1
 cases n with
 |zero=>
  refine⟨_,w,?_,hK w back ⟨Nat.le_refl _,rfl,rfl,rfl,λ_ _ _=>rfl⟩ ⟨T,rfl,rfl,hb⟩⟩
  simp[Builtin.clear_,run_underlying ht,Sem.run_bind,Result.andThen]
 |succ n=>
  have hlz:(Builtin.zeroCells z.cells (n+1)).toList.length=(n+1)*k:=by rw[Z3i,hz]
  have hst:=run_storeCells_at (P:=P) g o T (Builtin.zeroCells z.cells (n+1)).toList 0 (front++back).toArray w hb (by rw[hlz,List.size_toArray,List.length_append]; omega) (Z3j h1 _)
  generalize hA:(List.take (o+0) (front++back).toArray.toList++(Builtin.zeroCells z.cells (n+1)).toList++List.drop (o+0+(Builtin.zeroCells z.cells (n+1)).toList.length) (front++back).toArray.toList).toArray=A at hst
  refine⟨.tuple #[],w.setRow g A,?_,hK (w.setRow g A) ((Builtin.zeroCells z.cells (n+1)).toList++back.drop ((n+1)*k)) ⟨by simp[World.setRow],rfl,rfl,rfl,λb hbl hne=>setRow_other w g b _ hne⟩ ⟨T,rfl,rfl,?_⟩⟩
  ·simp[Builtin.clear_,run_underlying ht,hv,Sem.run_bind,Result.andThen,hst]
  ·rw[setRow_heap w g (front++back).toArray A T _ hb,←hA]
   simp only[Nat.add_zero,hlz,Option.some.injEq,Obj.cells.injEq,and_true]
   rw[←ho,List.take_left]
   simp[List.drop_append]
theorem Zps{α:Type}{p:α→Bool}{l:List α}(h:idxI p l≠ -1): ∃n,∃hn:n<l.length,idxI p l=(n:Int)∧(l.take n).any p=false∧p l[n]=true:=by
 unfold idxI at*
 cases hf:l.findIdx? p with
 |none=>rw[hf]at h; exact absurd rfl h
 |some n=>
  obtain⟨hn,hp,hb⟩:=List.findIdx?_eq_some_iff_getElem.1 hf
  refine⟨n,hn,rfl,?_,hp⟩
  rw[List.any_eq_false]
  intro x hx
  obtain⟨k,hk,rfl⟩:=List.mem_iff_getElem.1 hx
  rw[List.length_take]at hk
  rw[List.getElem_take]
  exact hb k oM
theorem Zlb{α:Type}{p:α→Bool}{l:List α}(h:l.any p=false):l.filter (λx=>!p x)=l:=by
 rw[List.filter_eq_self]
 intro x hx
 have:=List.any_eq_false.1 h x hx
 simpa using this
theorem Z8l: ∀w,(zeroValue 50).run prog w= .ok (.agg #[.int .i64 0,.int .i64 0,.int .i64 0]) w:=λw=>by kernel_rfl
theorem Zrv{s:Sl}{l:List Ver}{d:Ver→Bool}{f:Value}{lo:Nat}{w:World}{R:Sl→World→Prop}(h:FlatO Ver.c 24 w lo s l)(hlo:lo≤w.heap.size)
  (hf: ∀x∈l,∀w' (k:Value→World→Prop),Below lo w w'→(∀w'',Ext w' w''→k (.bool (d x)) w'')→callV prog f [.agg #[.int .i64 x.ma,.int .i64 x.mi,.int .i64 x.pa]] w' k)
  (hR: ∀t w',Below lo w w'→FlatO Ver.c 24 w' lo t (l.filter λx=>!d x)→R t w'):SE.Ze s f w R:=by
 unfold SE.Ze
 have hs:=h.read (E:=verE) (λ_=>rfl) (λ_ _ _ _=>⟨rfl,trivial⟩)
 refine SE.Zy.go (Zy6 (p:=d) hs (λx hx w' k hx' hk=>hf x hx w' k (Below.mono hx' hlo) hk) λw1 x1=>⟨_,rfl,λh1=>?_,λh1=>?_⟩)
 ·have:l.any d=false:=by
   rw[←Zle,h1]; decide
  exact hR s w1 (Below.mono x1 hlo) (by rw[Zlb this]; exact h.ext x1)
 obtain⟨n,hn,e,ht,hp⟩:=Zps h1
 rw[e]
 obtain⟨k1,k2,k3,k4,k5⟩:=h
 obtain⟨g,tail,ha,hg,hr⟩: ∃g tail,s.a=some ⟨g,0,none⟩∧lo≤g∧RowB Ver.c w g l tail:=by
  rcases k5 with k5|k5
  ·subst k5; simp at hn
  ·exact k5
 have hk: ∀x:Ver,x.c.length=3:=λ_=>rfl
 have hfk:(l.take (n+1)).filter (λx=>!d x)=l.take n:=by
  rw[List.take_succ_eq_append_getElem hn,List.filter_append,Zlb ht]
  simp[hp]
 rw[Zc oM (by unfold room at k4; omega)]
 refine⟨λi j w'=>∃(i' j':Nat) (z:List Ver),i=(i':Int)∧j=(j':Int)∧i'<j'∧j'≤l.length∧z.length=l.length∧i'=((l.take j').filter λx=>!d x).length∧z.take i'=(l.take j').filter (λx=>!d x)∧z.drop j'=l.drop j'∧Below lo w w'∧RowB Ver.c w' g z tail,
  λ_ j _=>l.length - j.toNat,⟨n,n+1,l,rfl,oM,oM,oM,rfl,by rw[hfk,List.length_take]; omega,by rw[hfk],rfl,Below.mono x1 hlo,hr.ext x1⟩,?_⟩
 rintro _ _ w2 ⟨i,j,z,rfl,rfl,hij,hj,hzl,hi,hzt,hzd,b2,hr2⟩
 refine⟨λhlt=>join.named λJ hJ=>?_,λhge=>?_⟩
 ·have hjl:j<l.length:=oM
  have ej:Za ((j:Int)+1)=((j+1:Nat):Int):=by rw[Zc oM (by unfold room at k4; omega)]; omega
  have hzd1:z.drop (j+1)=l.drop (j+1):=by rw[←List.drop_drop,hzd,List.drop_drop]
  have hft:(l.take (j+1)).filter (λx=>!d x)=(l.take j).filter (λx=>!d x)++ [l[j]].filter (λx=>!d x):=by
   rw[List.take_succ_eq_append_getElem hjl,List.filter_append]
  have kJ: ∀(i':Nat) (w':World) (z':List Ver),i'<j+1→z'.length=l.length→z'.take i'=(l.take (j+1)).filter (λx=>!d x)→z'.drop (j+1)=l.drop (j+1)→Below lo w w'→RowB Ver.c w' g z' tail→J (i':Int) w':=λi' w' z' q1 q2 q3 q4 q5 q6=>by
   subst hJ
   show _∧_
   rw[ej]
   exact⟨⟨i',j+1,z',rfl,rfl,q1,oM,q2,by rw[←q3,List.length_take]; omega,q3,q4,q5,q6⟩,by show _ - Int.toNat _<_ - Int.toNat _; omega⟩
  clear hJ
  have hzj:z[j]? =some l[j]:=by
   have h1:z[j]? =(z.drop j)[0]? :=by rw[List.getElem?_drop,Nat.add_zero]
   rw[h1,hzd,List.getElem?_drop,Nat.add_zero]
   exact List.getElem?_eq_getElem hjl
  refine⟨_,⟨ha,oM,oM⟩,_,_,_,hr2.ld' hk hzj,newS.intro λa w3 x3 hb3 ha3 _=>stw0.intro hb3 sI λw4 b4 _ hb4=>⟨_,_,_,hb4.ldc.pre rfl,?_⟩⟩
  have x24:Ext w2 w4:=b4.ext x3 oM
  have s2:=b2.size
  have hm:l[j]∈l:=List.getElem_mem hjl
  refine hf _ hm w4 _ (Below.trans b2 (Below.mono x24 oM)) λw5 x5=>⟨_,rfl,λhd=>?_,λhd=>?_⟩
  all_goals
   have x25:=x24.trans x5
   have s5:=x25.size
   have b5:Below lo w w5:=Below.trans b2 (Below.mono x25 oM)
   have hr5:=hr2.ext x25
  ·have hd':d l[j]=false:=by simpa using hd
   refine⟨_,_,_,(hb4.ext x5).ldc.pre rfl,_,⟨ha,oM,oM⟩,hr5.st hk (i:=i) (x:=l[j]) oM λw6 b6 hr6=>?_⟩
   have ei:Za ((i:Int)+1)=((i+1:Nat):Int):=by rw[Zc oM (by unfold room at k4; omega)]; omega
   rw[ei]
   refine kJ (i+1) w6 _ oM (by rw[List.length_set,hzl]) ?_ (by rw[List.drop_set_of_lt oM,hzd1]) (Below.trans b5 (b6.below oM hg)) hr6
   rw[hft,←hzt,List.take_succ_eq_append_getElem (by rw[List.length_set]; omega),List.take_set_of_le nR,List.getElem_set_self]
   simp[hd']
  ·have hd':d l[j]=true:=by simpa using hd
   refine kJ i w5 z oM hzl ?_ hzd1 b5 hr5
   rw[hft,←hzt]; simp[hd']
 ·have hjl:j=l.length:=oM
  subst hjl
  rw[List.take_length]at hzt hi
  have hil:i<l.length:=hij
  have e1:(Sl.cut s (i:Int).toNat s.len 3).v= .slice (some ⟨g,i*3,none⟩) (l.length - i) (s.cap - i):=by
   unfold Sl.cut Sl.v
   rw[Int.toNat_natCast,if_neg oM,ha,k1]
   simp only[Option.map_some,Zjh]
  rw[e1]
  refine⟨⟨oM,oM⟩,?_⟩
  have hsp:(z.map Ver.c).flatten++tail=((z.take i).map Ver.c).flatten++(((z.drop i).map Ver.c).flatten++tail):=by
   conv=>lhs; rw[←List.take_append_drop i z]
   rw[List.map_append,List.flatten_append,List.append_assoc]
  unfold RowB at hr2
  rw[hsp]at hr2
  refine Zyc (k:=3) underlying178 Z8l rfl (λv hv=>by simp[Value.cells]at hv; rcases hv with rfl|rfl|rfl<;>rfl) (by rw[Zh1 _ hk,List.length_take]; omega) (by rw[List.length_append,Zh1 _ hk,List.length_drop]; omega) hr2 λw3 back b3 hb3=>⟨⟨oM,oM⟩,?_⟩
  have s2:=b2.size
  refine hR _ w3 (Below.trans b2 (b3.below oM hg)) ?_
  have hfl:(l.filter λx=>!d x).length≤l.length:=List.length_filter_le _ _
  refine⟨by unfold Sl.cut; simp; exact hi,by unfold Sl.cut; show _≤s.cap - 0; omega,by unfold Sl.cut; show s.cap - 0≤_; omega,?_,.inr ⟨g,back,?_,hg,?_⟩⟩
  ·have:=Nat.mul_le_mul_right 24 hfl; omega
  ·show(if _ then _ else _)=_
   split
   ·exact ha
   ·rw[ha,Nat.zero_mul]; rfl
  ·rw[←hzt]; exact hb3
theorem idxPin_se{s:Sl}{l:List Pin}{f:Value}{p:Pin→Bool}{S:Nat→Prop}{w:World}{R:Int→World→Prop}(hs:SlR pinE w S s l)(hf:Ztk f (λx=>.agg #[.string x.name,.int .i64 x.v.ma,.int .i64 x.v.mi,.int .i64 x.v.pa]) p l w)
  (hR: ∀w',Ext w w'→R (idxI p l) w'):SE.Z9 s f w R:=by
 unfold SE.Z9
 have hl:=hs.len
 refine loop1.up hs.max (λi w'=>Ext w w'∧(l.take i).any p=false) ⟨Ext.refl _,rfl⟩ λi w1 nxt hi ⟨x1,hI⟩ hn=>⟨λhlt=>?_,λhge=>?_⟩
 ·have hlt':i<l.length:=oM
  obtain⟨ad,cs,ha,_,⟨rfl,_⟩,hc⟩:=hs.el hlt'
  refine⟨ad,⟨ha,oM,hlt⟩,_,_,_,_,hc _ xT,hf _ (List.getElem_mem hlt') _ _ x1 λw2 x2=>⟨_,rfl,λh=>?_,λh=>?_⟩⟩
  ·rw[←Zlf hlt' hI h]; exact hR _ xT
  ·exact hn hlt' _ ⟨xT,by rw[Zfq hlt' hI]; exact h⟩
 ·have:i=l.length:=oM
  rw[this,List.take_length]at hI
  rw[←Zim hI]; exact hR _ xT
theorem Zrs{s:Sl}{l:List Pin}{f:Value}{p:Pin→Bool}{S:Nat→Prop}{w:World}{R:Bool→World→Prop}(hs:SlR pinE w S s l)(hf:Ztk f (λx=>.agg #[.string x.name,.int .i64 x.v.ma,.int .i64 x.v.mi,.int .i64 x.v.pa]) p l w)
  (hR: ∀w',Ext w w'→R (l.any p) w'):SE.Zz s f w R:=by
 unfold SE.Zz
 exact SE.Z9.go (idxPin_se hs hf λw' hx=>⟨_,rfl,by rw[Zle]; exact hR _ hx⟩)
end Go.Hal
