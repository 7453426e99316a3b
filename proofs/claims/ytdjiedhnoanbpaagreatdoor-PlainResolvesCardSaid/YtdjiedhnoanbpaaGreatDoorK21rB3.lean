/- Lemmas for the claim K21r: how the program's functions run, and what they answer; no condition but those that each theorem names. -/
import Derived.Test.YtdjiedhnoanbpaaGreatDoorProg
import Derived.Shelf.SlSortCmp.NoneTotal
import Derived.Ground.SlsfProg
import Derived.Laws.MakeOwn
import Derived.RangeFuncNested
import Derived.Shelf.Strings.Split
import Derived.Shelf.Strconv.AtoiAll
import Derived.Ground.NamesProg
import Derived.RangeFuncCalls
import Derived.RangeFuncLeaves
import Derived.Shelf.Abstract
import Derived.WalkKit
import Derived.OwnWalkIn
import Derived.TacticsInMore
import Derived.LoopNIn
import Derived.LoopIn
import Derived.RangeFuncBox
import Derived.Test.YtdjiedhnoanbpaaGreatDoorK21rB2
set_option linter.unusedVariables false
set_option linter.unusedSimpArgs false
set_option maxHeartbeats 16000000
namespace Go.Hal
open Go.Proofs.Tryz
open Go Go.RowKit Go.Proofs Go.Shelf
theorem newS.ownS{α:Type}{E:Enc α}{w:World}{cs:List Value}{t:TypeId}{x:α}{S:Nat→Prop}{k:Addr→World→Prop}(hS:Old S w)(hx:E.rep w S x cs)(h: ∀a w',Ext w w'→OwnS E t w' w.heap.size S ⟨some a,1,1⟩ [x]→a.block=w.heap.size→k a w'):newS w cs t k:=λa w' ha hw=>by
 subst ha hw
 have hl:=E.len hx
 refine h _ _ (Ext.alloc _ _) ⟨⟨[cs],⟨by simp[hl],.inr ⟨w.heap.size,1,cs.toArray,rfl,Nat.le_refl _,heap_alloc_new w _,Nat.le_refl _,by rw[Zb]; omega,by simp[hl],?_⟩⟩,rfl,λi y hy=>?_⟩,rfl,λb hb=>by have:=hS b hb; simp; omega,λad ha hb=>?_⟩ rfl
 ·simp[hl,List.take_of_length_le (Nat.le_of_eq hl)]
 ·cases i with
  |zero=>
   simp only[List.getElem?_cons_zero,Option.some.injEq]at hy
   subst hy
   exact⟨cs,rfl,E.keep hx ((Ext.alloc w _).keep _)⟩
  |succ i=>simp at hy
 ·simp only[Option.some.injEq]at ha
  subst ha
  have:=hS _ hb
  simp at this
theorem Z6k:ApT prog 154 23 1 24:=Zhe (z:=.slice none 0 0) kR kR rfl dC
theorem Zxt{p:Pack}{pD pP pO mD mDev mOpt mOv:Sl}{over:List Dep}{S:Nat→Prop}{w:World}{R:Sl→World→Prop}(hS:Old S w)(hD:SlR depE w S pD p.deps)(hO:SlR depE w S pO p.opt)(hV:SlR depE w S mOv over)(hb:(p.deps.length+p.opt.length)*48≤room)
  (hR: ∀t w',Ext w w'→SepW w' (λb=>w.heap.size≤b∧b<w'.heap.size) t (Zgs over p.deps p.opt)→R t w'):SE.Zl0 p.name p.v.ma p.v.mi p.v.pa pD pP pO mD mDev mOpt mOv w R:=by
 unfold SE.Zl0
 refine newS.intro λa w1 x1 ha _ _=>newS.intro λa1 w2 x2 ha1 _ _=> ?_
 have x02:=x1.trans x2
 refine⟨mD,mDev,mOpt,mOv,BoxAt.at0 ha1 xR rfl,pD,BoxAt.at1 ha x2 rfl,newS.intro λa4 w3 x3 hb4 hab _=>⟨pO,BoxAt.at1 ha (x2.trans x3) rfl,?_⟩⟩
 have x03:=x02.trans x3
 have s3:=x03.size
 have hone:SlR depsE w3 (λb=>S b∨b=a4.block) ⟨some a4,1,1⟩ [p.deps]:=Zjj (E:=depsE) hb4 ⟨pD,rfl,hD.ext x03⟩ dC
 have hlt:=hb4.lt
 refine SE.Ziw.go (Zow (S:=λb=>S b∨b=a4.block) (ms:=[p.deps]) (over:=over) (ml:=p.opt) (λb hb=>?_) ((hV.ext x03).mono λ_ h=>.inl h) hone ((hO.ext x03).mono λ_ h=>.inl h) (by simpa using hb) λt w4 x4 h4=>⟨_,rfl,hR _ _ (x03.trans x4) ?_⟩)
 ·rcases hb with hb|rfl
  ·have:=hS b hb; omega
  ·exact hlt
 ·rw[List.flatten_cons,List.flatten_nil,List.append_nil]at h4
  obtain⟨k1,k0,k2⟩:=h4
  refine⟨k1,k0,k2.imp id λ⟨g,tail,z,e1,e2,e3,e4,e5,e6⟩=>⟨g,tail,z,e1,⟨oM,e2.2⟩,e3,e4,λq hq=>?_,e6⟩⟩
  obtain⟨f1,f2,f3,f4⟩:=e5 q hq
  exact⟨f1,f2,f3,λb hb=>⟨⟨by have:=(f4 b hb).1.1; omega,(f4 b hb).1.2⟩,(f4 b hb).2⟩⟩
theorem Zpc{m:Mani}{mD mDev mOpt mOv:Sl}{dev:Bool}{S:Nat→Prop}{w:World}{R:Sl→World→Prop}(hS:Old S w)(hD:SlR depE w S mD m.deps)(hE:SlR depE w S mDev m.dev)(hO:SlR depE w S mOpt m.opt)(hV:SlR depE w S mOv m.over)(hb:(m.deps.length+m.dev.length+m.opt.length)*48≤room)
  (hR: ∀t w',Ext w w'→SepW w' (λb=>w.heap.size≤b∧b<w'.heap.size) t (Zgs m.over (Zdf m dev) m.opt)→R t w'):SE.Zgo mD mDev mOpt mOv dev w R:=by
 unfold SE.Zgo
 refine newS.intro λa w1 x1 ha _ _=>⟨mD,BoxAt.at0 ha xR rfl,?_⟩
 refine newS.ownS (E:=depsE) (x:=m.deps) (S:=S) (hS.ext x1.size) ⟨mD,rfl,hD.ext x1⟩ λa1 w2 x2 own hab=>?_
 have x02:=x1.trans x2
 have s1:=x1.size; have s2:=x2.size
 have eb:depsE.bytes=24:=rfl
 refine join.named λJ hJ=>?_
 have key: ∀must w3 (ms:List (List Dep)),Ext w1 w3→SlR depsE w3 (λb=>S b∨(w.heap.size≤b∧b<w3.heap.size)) must ms→ms.flatten=Zdf m dev→J must w3:=by
  subst hJ
  intro must w3 ms x3 hms hfl
  have x03:=x1.trans x3
  have s3:=x03.size
  have hlen:(Zdf m dev).length≤m.deps.length+m.dev.length:=by
   unfold Zdf
   split
   ·rw[List.length_append]; exact Nat.le_refl _
   ·omega
  refine⟨mD,mDev,mOpt,mOv,BoxAt.at0 ha x3 rfl,mOpt,BoxAt.at1 ha x3 rfl,SE.Ziw.go (Zow (S:=λb=>S b∨(w.heap.size≤b∧b<w3.heap.size)) (over:=m.over) (ml:=m.opt) (λb hb=>?_) ((hV.ext x03).mono λ_ h=>.inl h) hms ((hO.ext x03).mono λ_ h=>.inl h) (by rw[hfl]; have:((Zdf m dev).length+m.opt.length)*48≤(m.deps.length+m.dev.length+m.opt.length)*48:=Nat.mul_le_mul_right _ oM; omega) λt w4 x4 h4=>⟨_,rfl,hR _ _ (x03.trans x4) ?_⟩)⟩
  ·rcases hb with hb|hb
   ·have:=hS b hb; omega
   ·exact hb.2
  ·rw[hfl]at h4
   obtain⟨k1,k0,k2⟩:=h4
   refine⟨k1,k0,k2.imp id λ⟨g,tail,z,e1,e2,e3,e4,e5,e6⟩=>⟨g,tail,z,e1,⟨oM,e2.2⟩,e3,e4,λq hq=>?_,e6⟩⟩
   obtain⟨f1,f2,f3,f4⟩:=e5 q hq
   exact⟨f1,f2,f3,λb hb=>⟨⟨by have:=(f4 b hb).1.1; omega,(f4 b hb).1.2⟩,(f4 b hb).2⟩⟩
 refine⟨λh=>?_,λh=>?_⟩
 ·subst h
  refine⟨mDev,BoxAt.at1 ha x2 rfl,newS.intro λa8 w3 x3 hb8 hab8 _=> ?_⟩
  refine(own.ext x3).push Z6k (x2.trans x3).size (x:=m.dev) (S':=S) ⟨mDev,rfl,hE.ext (x02.trans x3)⟩ (hb8.ldc.pre (r:=[]) rfl) (hS.ext (x02.trans x3).size) (λad ha hb=>(own.apart ad ha hb)) (by rw[eb]; unfold room; simp) (by rw[Zb]; simp) λr w4 own4 bel _ _=> ?_
  have x14:Ext w1 w4:=(x2.trans x3).trans' bel
  refine key _ _ [m.deps,m.dev] x14 ((own4.read (by rw[eb]; unfold room; simp) (by rw[Zb]; simp)).mono λb hb=>?_) (by simp[Zdf])
  rcases hb with(hb|hb)|⟨ad,ha',rfl⟩
  ·exact .inl hb
  ·exact .inl hb
  ·have:=own4.block ha'; exact .inr ⟨oM,this.2.1⟩
 ·subst h
  refine key _ _ [m.deps] x2 ((own.read (by rw[eb]; unfold room; simp) (by rw[Zb]; simp)).mono λb hb=>?_) (by simp[Zdf])
  rcases hb with hb|⟨ad,ha',rfl⟩
  ·exact .inl hb
  ·have:=own.block ha'; exact .inr ⟨oM,this.2.1⟩
theorem SepW.read{w:World}{S:Nat→Prop}{s:Sl}{L:List Want}(h:SepW w S s L)(hb:L.length*48≤room):SlR wantE w S s L:=by
 obtain⟨h1,h0,h2⟩:=h
 have hm:L.length≤maxLen:=by rw[Zb]; unfold room at hb; omega
 refine⟨h1,by rw[h0]; exact Nat.le_refl _,by rw[h0]; exact hm,hb,?_⟩
 rcases h2 with rfl|⟨g,tail,z,e1,e2,e3,e4,e5,e6⟩
 ·exact .inl rfl
 ·refine .inr ⟨_,e1,e2,λi x hx=>?_⟩
  rw[←e4,List.getElem?_map]at hx
  cases hz:z[i]? with
  |none=>rw[hz]at hx; cases hx
  |some q=>
   rw[hz]at hx
   simp only[Option.map_some,Option.some.injEq]at hx
   subst hx
   obtain⟨f1,f2,⟨f3,u,f5,f6⟩,f4⟩:=e5 q (List.mem_of_getElem? hz)
   refine⟨StW.cells q.1,⟨f3,u,f5,f6.1.mono λb hb=>(f4 b hb).1⟩,e3.ld' (f:=StW.cells) (k:=3) (λ_=>rfl) (by rw[List.getElem?_map,hz]; rfl)⟩
def edgeE:Enc Edge:=Zo6 2 24 (λx=>[.string x.name,.int .i64 x.to]) (λx=>Str x.name) (λ_=>rfl) (λ_ v hv=>by simp at hv; rcases hv with rfl|rfl<;>rfl)
def nodeE:Enc Node where
 n:=6
 bytes:=88
 rep:=λw S x cs=>Str x.name∧ ∃c e:Sl,cs= [.string x.name,.int .i64 x.v.ma,.int .i64 x.v.mi,.int .i64 x.v.pa,c.v,e.v]∧SlR pinE w S c x.ctx∧SlR edgeE w S e x.edges
 len:=λ⟨_,_,_,h,_⟩=>by rw[h]; rfl
 one:=λ⟨_,_,_,h,_⟩ v hv=>by rw[h]at hv; simp[Sl.v]at hv; rcases hv with rfl|rfl|rfl|rfl|rfl|rfl<;>rfl
 mono:=λ⟨h0,c,e,h,a,b⟩ hs=>⟨h0,c,e,h,a.mono hs,b.mono hs⟩
 keep:=λ⟨h0,c,e,h,a,b⟩ hk=>⟨h0,c,e,h,a.keep hk,b.keep hk⟩
theorem Zu4:ApT prog 36 72 6 88:=Zhe (z:=.agg #[.string ⟨#[]⟩,.int .i64 0,.int .i64 0,.int .i64 0,.slice none 0 0,.slice none 0 0]) kR kR rfl dC
theorem Z3m:ApT prog 70 80 2 24:=Zhe (z:=.agg #[.string ⟨#[]⟩,.int .i64 0]) kR kR rfl dC
structure K7 where
 cp:Addr
 mD:Sl
 mDev:Sl
 mOpt:Sl
 mOv:Sl
 dev:Bool
 pS:Sl
structure Cs(w:World)(lo:Nat)(q:Quest)(K:K7):Prop where
 cat: ∃S r,CatL w S K.cp r q.L∧(∀b,S b→b<lo)∧r<lo∧K.cp.block<lo
 deps:SlR depE w (· <lo) K.mD q.m.deps
 dv:SlR depE w (· <lo) K.mDev q.m.dev
 opt:SlR depE w (· <lo) K.mOpt q.m.opt
 over:SlR depE w (· <lo) K.mOv q.m.over
 pins:SlR pinE w (· <lo) K.pS q.pins
 dev:K.dev=q.dev
 le:lo≤w.heap.size
 Zg1:q.m.deps.length+q.m.dev.length+q.m.opt.length≤48
section
variable {w w':World} {lo g:Nat} {stk nds ahd ws:Sl} {Q:Nat→Prop} {s:St}
end
theorem Zib(over a b:List Dep):(Zgs over a b).length=a.length+b.length:=by
 unfold Zgs
 rw[Zki,List.length_append,List.length_map,List.length_map]
theorem Zls(m:Mani)(dev:Bool):(Zdf m dev).length≤m.deps.length+m.dev.length:=by
 unfold Zdf
 split
 ·rw[List.length_append]; exact Nat.le_refl _
 ·omega
section
variable {w:World} {lo:Nat} {sp:Addr} {K:K7} {q:Quest} {s:St}
theorem Zpr{L:List Pack}(hG:GoodL L)(n:ByteArray)(v:Ver):(getD L n v).deps.length≤16∧(getD L n v).peers.length≤16∧(getD L n v).opt.length≤16:=by
 unfold getD
 cases h:getL L n v with
 |none=>exact⟨Nat.zero_le _,Nat.zero_le _,Nat.zero_le _⟩
 |some p=>
  obtain⟨_,_,h1,h2,h3⟩:=Zjr (hG.may p (Zge h).1)
  exact⟨(Zi h1).1,(Zi h2).1,(Zi h3).1⟩
theorem Zqf{ns:List Node}{k:Nat}{x:Node}(hk:k≠0)(hx:ns[k]? =some x):q.wants ns k=Zgs q.m.over (getD q.L x.name x.v).deps (getD q.L x.name x.v).opt:=by
 unfold Quest.wants Z00 Zsl
 rw[if_neg hk,List.getElem?_map,hx]
 show(match getL q.L x.name x.v with|none=>[]|some p=>Zgs q.m.over p.deps p.opt)=_
 unfold getD
 cases getL q.L x.name x.v with
 |none=>rfl
 |some p=>rfl
end
section
variable {w:World} {lo:Nat} {sp:Addr} {K:K7} {q:Quest} {s:St}
end
section
variable {α:Type} {E:Enc α} {T:TypeId} {w:World} {lo:Nat} {Q:Nat→Prop} {s:Sl} {l:List α}
theorem Zn2{css:List (List Value)}{n:Nat}(h: ∀cs∈css,cs.length=n):css.flatten.length=css.length*n:=by
 induction css with
 |nil=>simp
 |cons c r ih=>rw[List.flatten_cons,List.length_append,h c (.head _),ih λx hx=>h x (.tail _ hx),List.length_cons,Nat.add_mul]; omega
theorem OwnS.rowLens(h:OwnS E T w lo Q s l){css:List (List Value)}(hl:css.length=l.length)(hr: ∀(i:Nat) (x:α),l[i]? =some x→ ∃cs,css[i]? =some cs∧E.rep w Q x cs): ∀cs∈css,cs.length=E.n:=λcs hcs=>by
 obtain⟨k,hk,rfl⟩:=List.mem_iff_getElem.1 hcs
 obtain⟨cs',h1,h2⟩:=hr k _ (List.getElem?_eq_getElem oM)
 rw[List.getElem?_eq_getElem hk,Option.some.injEq]at h1
 rw[h1]; exact E.len h2
theorem OwnS.setEl(h:OwnS E T w lo Q s l){i:Nat}(hi:i<l.length){ad:Addr}(ha:s.a=some ad){x:α}{o:Nat}{new:List Value}(hx: ∀cs,E.rep w Q l[i] cs→E.rep w Q x (cs.take o++new++cs.drop (o+new.length)))(ho:o+new.length≤E.n){K:World→Prop}
  (hK: ∀w',But ad.block w w'→w'.heap.size=w.heap.size→OwnS E T w' lo Q s (l.set i x)→K w'):stw w ((ad.add (i*E.n)).add o) new K:=by
 obtain⟨css,hrow,hl,hr⟩:=h.row
 have hlens:=h.rowLens hl hr
 have hsl:=h.len
 rcases hrow.2 with⟨hv,_⟩|⟨g,cap,cur,hv,hg,hh,hc,hcm,hcs,ht⟩
 ·simp[Sl.v]at hv; rw[hv.1]at ha; cases ha
 ·have had:ad=⟨g,0,none⟩:=by simp[Sl.v]at hv; rw[hv.1]at ha; exact(Option.some.inj ha).symm
  subst had
  have hic:i<css.length:=oM
  have hmul:(i+1)*E.n≤l.length*E.n:=Nat.mul_le_mul_right _ hi
  have hmul2:s.len*E.n≤cap*E.n:=Nat.mul_le_mul_right _ hc
  rw[Nat.add_mul]at hmul
  rw[hsl]at hmul2
  have hfit:i*E.n+o+new.length≤cur.size:=oM
  rw[Zfi,Zjh]
  have hci:=hlens css[i] (List.getElem_mem hic)
  have hA:=Zn2 (css:=css.take i) (n:=E.n) λc hc=>hlens c (List.mem_of_mem_take hc)
  rw[List.length_take,Nat.min_eq_left oM]at hA
  have e1:css.flatten=(css.take i).flatten++(css[i]++(css.drop (i+1)).flatten):=by
   conv=>lhs; rw[←List.take_append_drop i css,List.flatten_append,List.drop_eq_getElem_cons hic,List.flatten_cons]
  have e2:(css.set i (css[i].take o++new++css[i].drop (o+new.length))).flatten=(css.take i).flatten++((css[i].take o++new++css[i].drop (o+new.length))++(css.drop (i+1)).flatten):=by
   rw[List.set_eq_take_append_cons_drop,if_pos hic,List.flatten_append,List.flatten_cons]
  have hcur:cur.toList=css.flatten++cur.toList.drop (s.len*E.n):=by
   rw[←ht,List.take_append_drop]
  have hnew:(Zit cur (i*E.n+o) new).toList=(css.set i (css[i].take o++new++css[i].drop (o+new.length))).flatten++cur.toList.drop (s.len*E.n):=by
   have key: ∀(A B C D N:List Value),A.length=i*E.n→B.length=E.n→N.length=new.length→(A++(B++C)++D).take (i*E.n+o)++N++(A++(B++C)++D).drop (i*E.n+o+N.length)=A++(B.take o++N++B.drop (o+N.length)++C)++D:=by
    intro A B C D N hA hB hN
    rw[List.append_assoc A,←hA,List.take_length_add_append]
    have t1:((B++C)++D).take o=B.take o:=by rw[List.append_assoc,List.take_append_of_le_length oM]
    have t2:(A++((B++C)++D)).drop (A.length+o+N.length)=B.drop (o+N.length)++(C++D):=by
     rw[Nat.add_assoc,List.drop_length_add_append,List.append_assoc,List.drop_append_of_le_length oM]
    rw[t1,t2]
    simp[List.append_assoc]
   unfold Zit
   generalize cur.toList.drop (s.len*E.n)=D at hcur ⊢
   rw[List.toList_toArray,hcur,e1,e2]
   exact key (css.take i).flatten css[i] (css.drop (i+1)).flatten D new hA hci rfl
  refine⟨cur,T,hh,rfl,by simpa using hfit,?_⟩
  have hb:But g w (w.setRow g (Zit cur (i*E.n+o) new)):=⟨by simp[World.setRow],rfl,rfl,rfl,λc hc hne=>setRow_other w g c _ hne⟩
  have hQg: ¬Q g:=h.apart _ ha
  refine hK _ hb (by simp[World.setRow]) ⟨⟨css.set i (css[i].take o++new++css[i].drop (o+new.length)),⟨?_,.inr ⟨g,cap,_,hv,hg,setRow_heap w g cur _ T _ hh,hc,hcm,?_,?_⟩⟩,by rw[List.length_set,List.length_set,hl],λj y hy=>?_⟩,by rw[List.length_set]; exact h.len,λb hb'=>Nat.lt_of_lt_of_le (h.lt b hb') hb.1,h.apart⟩
  ·rw[Zn2 (n:=E.n),List.length_set,hl,hsl]
   intro c hc
   rcases List.mem_or_eq_of_mem_set hc with hc|rfl
   ·exact hlens c hc
   ·simp only[List.length_append,List.length_take,List.length_drop,hci]; omega
  ·have h8:=congrArg List.length hnew
   have h9:=congrArg List.length hcur
   rw[List.length_append]at h9 h8
   have e3:(css.set i (css[i].take o++new++css[i].drop (o+new.length))).flatten.length=css.flatten.length:=by
    rw[e1,e2]
    simp only[List.length_append,List.length_take,List.length_drop,hci]; omega
   rw[e3,←h9]at h8
   rw[←Array.length_toList (xs:=Zit cur (i*E.n+o) new),h8,Array.length_toList]
   exact hcs
  ·rw[hnew]
   refine List.take_left' ?_
   rw[e2]
   have:=Zn2 hlens
   rw[e1]at this
   simp only[List.length_append,List.length_take,List.length_drop,hci]at this ⊢
   rw[hl]at this
   rw[hsl]; omega
  ·rw[List.getElem?_set]at hy
   split at hy
   ·rename_i hij
    subst hij
    simp only[Option.some.injEq]at hy
    subst hy
    obtain⟨cs,k1,k2⟩:=hr i _ (List.getElem?_eq_getElem hi)
    rw[List.getElem?_eq_getElem hic,Option.some.injEq]at k1
    subst k1
    exact⟨_,by rw[List.getElem?_set_self hic],E.keep (hx _ k2) (hb.keep hQg)⟩
   ·rename_i hij
    obtain⟨cs,k1,k2⟩:=hr j y hy
    exact⟨cs,by rw[List.getElem?_set_ne hij]; exact k1,E.keep k2 (hb.keep hQg)⟩
end
def v1:Ver:=⟨1,0,0⟩
theorem Z56{w:World}{S:Nat→Prop}{s:Sl}{l:List Ver}(h:SlR verE w S s l){n:Nat}(hn:n<l.length): ∃ad,s.a=some ad∧n<s.len∧S ad.block∧ ∀w',Ext w w'→ldc w' (ad.add (n*3)) l[n].c:=by
 obtain⟨ad,cs,ha,hs,⟨rfl,_⟩,hc⟩:=h.el hn
 exact⟨ad,ha,by rw[h.len]; exact hn,hs,hc⟩
theorem Zx8(L:List Pack)(n:ByteArray)(l:List Span)(pins:List Pin):(Znq L n l pins).length=((Zd0 n L).filter (Z6 l)).length:=by
 rw[←Zka]; exact(Zeq _).length_eq
theorem Z0x{L:List Pack}(n:ByteArray):(Zd0 n L).length≤L.length:=by
 unfold Zd0
 rw[List.length_map]
 exact List.length_filter_le _ _
theorem Zvb{L:List Pack}(h:GoodL L)(n:ByteArray)(l:List Span)(pins:List Pin):(Znq L n l pins).length≤128:=by
 rw[Zx8]
 have h1:=List.length_filter_le (Z6 l) (Zd0 n L)
 have h2:=Z0x (L:=L) n
 have h3:=h.le
 omega
section
variable {w:World} {lo:Nat} {sp:Addr} {K:K7} {q:Quest} {s:St}
end
theorem clonePin_se{s:Sl}{l:List Pin}{S:Nat→Prop}{w:World}{R:Sl→World→Prop}(hS:Old S w)(hs:SlR pinE w S s l)(hR: ∀t w',Ext w w'→OwnS pinE 78 w' w.heap.size None' t l→R t w'):SE.Zat s w R:=by
 unfold SE.Zat
 refine⟨λh=>?_,λh=>?_⟩
 ·have:l= []:=by
   rcases hs.2.2.2.2 with h0|⟨ad,h1,_⟩
   ·exact h0
   ·rw[h]at h1; cases h1
  subst this
  exact hR _ _ xR (OwnS.nil _ _)
 ·intro a w1 ha hw
  subst ha
  have x1:Ext w w1:=hw▸Ext.alloc _ _
  have own:OwnS pinE 78 w1 w.heap.size None' ⟨some ⟨w.heap.size,0,none⟩,0,0⟩ []:=hw▸OwnS.empty w
  refine own.appAll Zoz x1.size (hs.ext x1) (hS.ext x1.size) (λad ha hb=>?_) (by simpa using hs.2.2.2.1) (by simpa using hs.max) λr w2 own2 bel _ _=> ?_
  ·simp only[Option.some.injEq]at ha
   subst ha
   have:=hS _ hb
   simp at this
  ·exact hR r w2 (x1.trans' bel) (OwnS.flat (λh=>h) own2)
theorem verB{a b c x y z:Int}:((a==x)&&((b==y)&&((c==z)&&true)))=decide ((⟨a,b,c⟩:Ver)=⟨x,y,z⟩):=by
 rw[Bool.eq_iff_iff]; simp
theorem Zyu{s t:Sl}{a b:List Pin}{S T:Nat→Prop}{w:World}{R:Bool→World→Prop}(hs:SlR pinE w S s a)(ht:SlR pinE w T t b)(hR: ∀w',Ext w w'→R (decide (a=b)) w'):SE.Zbp s t w R:=by
 unfold SE.Zbp
 have h1:=hs.len
 have h2:=ht.len
 refine⟨λh=>?_,λh=>?_⟩
 ·have: ¬a=b:=λe=>by subst e; omega
  have h3:=hR w xR
  rw[decide_eq_false this]at h3; exact h3
 have hll:a.length=b.length:=by
  have:=Classical.not_not.1 h
  omega
 refine loop1.up hs.max (λi w'=>Ext w w'∧a.take i=b.take i) ⟨Ext.refl _,rfl⟩ λi w1 nxt hi ⟨x1,hI⟩ hn=>⟨λhlt=>bnd.drew λw2 x2=>?_,λhge=>?_⟩
 ·have k1:i<a.length:=oM
  have k2:i<b.length:=oM
  obtain⟨ad,ha,_,_,hc⟩:=Zhz hs k1
  obtain⟨ad2,ha2,_,_,hc2⟩:=Zhz ht k2
  refine⟨ad,⟨ha,oM,hlt⟩,_,_,_,_,hc _ (x1.trans x2),ad2,⟨ha2,oM,oM⟩,_,_,_,_,hc2 _ (x1.trans x2),?_⟩
  have e:(!((bEq a[i].name b[i].name)&&(((a[i].v.ma==b[i].v.ma)&&((a[i].v.mi==b[i].v.mi)&&((a[i].v.pa==b[i].v.pa)&&true)))&&true)))= !decide (a[i]=b[i]):=by
   congr 1
   rw[Bool.eq_iff_iff]
   generalize a[i]=x; generalize b[i]=y
   obtain⟨n,⟨p,q,r⟩⟩:=x
   obtain⟨n',⟨p',q',r'⟩⟩:=y
   simp[Zca]
  rw[e]
  refine⟨λh=>?_,λh=>?_⟩
  ·have hne: ¬a=b:=λe=>by subst e; simp at h
   have h3:=hR w2 (x1.trans x2)
   rw[decide_eq_false hne]at h3; exact h3
  ·refine hn k1 _ ⟨x1.trans x2,?_⟩
   have he:a[i]=b[i]:=by simpa using h
   rw[List.take_succ_eq_append_getElem k1,List.take_succ_eq_append_getElem k2,hI,he]
 ·have:i=a.length:=oM
  subst this
  rw[List.take_length,List.take_of_length_le oM]at hI
  have h3:=hR w1 x1
  rw[decide_eq_true hI]at h3; exact h3
def Oth(s:Sl)(w w':World):Prop:=w.heap.size≤w'.heap.size∧ ∀b,b<w.heap.size→(∀ad,s.a=some ad→b≠ad.block)→w'.heap[b]? =w.heap[b]?
section
variable {α:Type} {E:Enc α} {T:TypeId} {w w':World} {lo:Nat} {Q:Nat→Prop} {s x:Sl} {l:List α}
theorem OwnS.oth(h:OwnS E T w lo Q x l)(ho:Oth s w w')(hA:Apart x s)(hQ: ∀ad,s.a=some ad→ ¬Q ad.block):OwnS E T w' lo Q x l:=
 h.keep ho.1 λb hlt hb=>ho.2 b hlt λad ha e=>by
  rcases hb with hb|⟨ad',ha',rfl⟩
  ·exact hQ ad ha (e▸hb)
  ·exact hA _ _ ha' ha e
theorem SlR.oth(h:SlR E w Q x l)(ho:Oth s w w')(hQ: ∀ad,s.a=some ad→ ¬Q ad.block):SlR E w' Q x l:=
 h.keep λb hb hlt=>ho.2 b hlt λad ha e=>hQ ad ha (e▸hb)
end
section
variable {w:World} {lo g:Nat} {stk nds ahd ws:Sl} {Q:Nat→Prop} {s:St} {P:Program}
end
theorem Zmt{ns a:List Node}{k:Nat}{es:List Edge}(hk:k<ns.length):(ns++a).set k {ns[k]with edges:=es}=Zbz ns k es++a:=by
 rw[List.set_append_left _ _ hk]
 congr 1
 unfold Zbz
 apply List.ext_getElem?
 intro i
 rw[List.getElem?_modify,List.getElem?_set]
 by_cases h:k=i
 ·subst h
  rw[if_pos rfl,if_pos hk,List.getElem?_eq_getElem hk]; simp
 ·rw[if_neg h]
  cases ns[i]? with
  |none=>rfl
  |some n=>simp[h]
theorem Zh9{q:Quest}{env r:List Pin}{p:Pin}{c:List Pin}(h:Zdg q.L q.m.over env p=some c):targets q env (p::r)=(targets q env r).map λxs=>⟨p.name,p.v,c,[]⟩::xs:=by
 rw[targets,h]
theorem Zj5{q:Quest}{env r:List Pin}{p:Pin}(h:Zdg q.L q.m.over env p=none):targets q env (p::r)=none:=by
 rw[targets,h]
theorem Zvt{N:Nat}{ks:List NKey}{x:Node}{xs:List Node}{i:Nat}(h:ks.findIdx? (λy=>decide (y=x.key))=some i):putK N ks (x::xs)=(putK N ks xs).map λr=>(r.1,⟨x.name,(i:Int)⟩::r.2):=by
 rw[putK,h]
theorem Zs0{N:Nat}{ks:List NKey}{x:Node}{xs:List Node}(h:ks.findIdx? (λy=>decide (y=x.key))=none)(hN:ks.length=N):putK N ks (x::xs)=none:=by
 rw[putK,h]
 dsimp only
 rw[if_pos hN]
theorem Zvu{N:Nat}{ks:List NKey}{x:Node}{xs:List Node}(h:ks.findIdx? (λy=>decide (y=x.key))=none)(hN: ¬ks.length=N):putK N ks (x::xs)=(putK N (ks++ [x.key]) xs).map λr=>(x::r.1,⟨x.name,(ks.length:Int)⟩::r.2):=by
 rw[putK,h]
 dsimp only
 rw[if_neg hN]
section
variable {w:World} {lo:Nat} {sp:Addr} {K:K7} {q:Quest} {s:St}
end
end Go.Hal
namespace Go.Hal
open Go.Proofs.Tryz
def wDev:List UInt8:=[100,101,118]
def wPins:List UInt8:=[112,105,110,115]
def pjText:List UInt8:=[112,114,111,106,101,99,116,10]
def Zgw(m:Mani):List UInt8:=(((pjText++Zbd wNeeds m.deps)++Zbd wDev m.dev)++Zbd wLikes m.opt)++Zbd wPins m.over
def Zc5(m:Mani):Bool:=Zm m.deps&&Zm m.dev&&Zm m.opt&&Zm m.over
def Zhl(m:Mani):Bool:=Zdb m.deps m.dev&&Zdb m.deps m.opt&&Zdb m.dev m.opt
def Zb1(m:Mani):Bool:=Zc5 m&&(Zhl m&&decide ((Zgw m).length≤4096))
def Zei:List Dep→Bool
 | []=>true
 | [_]=>true
 |x::y::r=>!decide (cmpS y.name x.name<0)&&Zei (y::r)
def okD(d:Dep):Bool:=Zap d.name&&Z3 d.range&& !d.range.isEmpty
def wk(l:List Dep):Bool:=decide (l.length≤16)&&Zei l&&l.all okD
def may3(a b c:List Dep):Bool:=Zm a&&Zm b&&Zm c&&decide ((a++b++c).map (·.name)).Nodup
theorem Zrw: ∀{l:List Dep} {p:Option ByteArray},Zcp p l=true→Zei l=true∧l.all okD=true
 | [],_,_=>⟨rfl,rfl⟩
 | [x],p,h=>by
  rw[Zcp]at h
  simp only[Bool.and_eq_true]at h
  exact⟨rfl,by simp[okD,h.1.1.1.1,h.1.1.1.2,h.1.1.2]⟩
 |x::y::r,p,h=>by
  rw[Zcp]at h
  simp only[Bool.and_eq_true]at h
  obtain⟨h1,h2⟩:=Zrw h.2
  rw[Zcp]at h
  simp only[Bool.and_eq_true,Zji]at h
  refine⟨?_,?_⟩
  ·rw[Zei,h1]
   have h3:bLt x.name y.name=true:=h.2.1.2
   have h4: ¬cmpS y.name x.name<0:=λhc=>by rw[Zkr,Znm h3]at hc; cases hc
   simp[h4]
  ·rw[List.all_cons,h2]
   simp[okD,h.1.1.1.1,h.1.1.1.2,h.1.1.2]
theorem Zl7{l:List Dep}(h:Zm l=true):wk l=true:=by
 unfold Zm at h
 simp only[Bool.and_eq_true]at h
 obtain⟨h1,h2⟩:=Zrw h.1
 unfold wk
 rw[h1,h2,h.2]; rfl
theorem Z70: ∀{l:List Dep} {p:Option ByteArray},Zei l=true→l.all okD=true→(l.map (·.name)).Nodup→(∀x,l.head? =some x→Zji p x.name=true)→Zcp p l=true
 | [],_,_,_,_,_=>rfl
 | [x],p,_,h2,_,h4=>by
  rw[Zcp,Zcp,h4 x rfl]
  simp[okD]at h2
  simp[h2]
 |x::y::r,p,h1,h2,h3,h4=>by
  rw[Zei]at h1
  rw[List.all_cons]at h2
  rw[Bool.and_eq_true]at h1 h2
  rw[List.map_cons,List.nodup_cons]at h3
  rw[Zcp,h4 x rfl,Z70 h1.2 h2.2 h3.2 λz hz=>?_]
  ·have:=h2.1
   unfold okD at this
   rw[this]; rfl
  ·simp only[List.head?_cons,Option.some.injEq]at hz
   subst hz
   show bLt x.name y.name=true
   have h5: ¬cmpS y.name x.name<0:=by simpa using h1.1
   have hO:=Zgb (α:=ByteArray) id
   have:=hO.flip y.name x.name
   have:=hO.flip x.name y.name
   simp only[id]at*
   refine Zrm oM λe=>h3.1 ?_
   rw[e]; simp
theorem Z01{l:List Dep}(h:wk l=true)(hn:(l.map (·.name)).Nodup):Zm l=true:=by
 unfold wk at h
 simp only[Bool.and_eq_true]at h
 unfold Zm
 rw[Z70 h.1.2 h.2 hn λ_ _=>rfl,h.1.1]; rfl
theorem Z58{a b c:List Dep}(ha:wk a=true)(hb:wk b=true)(hc:wk c=true):may3 a b c=decide ((a++b++c).map (·.name)).Nodup:=by
 unfold may3
 cases h:decide ((a++b++c).map (·.name)).Nodup
 ·rw[Bool.and_false]
 ·have hn:=of_decide_eq_true h
  rw[List.map_append,List.map_append,List.nodup_append,List.nodup_append]at hn
  rw[Z01 ha hn.1.1,Z01 hb hn.1.2.1,Z01 hc hn.2.1]; rfl
theorem Zmg{a b c:List Dep}(h:wk a=false∨wk b=false∨wk c=false):may3 a b c=false:=by
 cases hm:may3 a b c
 ·rfl
 ·unfold may3 at hm
  simp only[Bool.and_eq_true]at hm
  rcases h with h|h|h
  ·rw[Zl7 hm.1.1.1]at h; cases h
  ·rw[Zl7 hm.1.1.2]at h; cases h
  ·rw[Zl7 hm.1.2]at h; cases h
theorem Zua(a b c:List Dep):may3 a b c=(Zm a&&Zm b&&Zm c&&(Zdb a b&&Zdb a c&&Zdb b c)):=by
 unfold may3
 cases h:(Zm a&&Zm b&&Zm c)
 ·simp
 ·simp only[Bool.and_eq_true]at h
  rw[Bool.true_and,Bool.true_and,Bool.eq_iff_iff,decide_eq_true_eq,Bool.and_eq_true,Bool.and_eq_true,Zfx,Zfx,Zfx]
  have h1:=Zey h.1.1; have h2:=Zey h.1.2; have h3:=Zey h.2
  rw[List.map_append,List.map_append,List.nodup_append,List.nodup_append]
  constructor
  ·rintro⟨⟨_,_,h4⟩,_,h5⟩
   exact⟨⟨h4,λx hx y hy=>h5 x (List.mem_append_left _ hx) y hy⟩,λx hx y hy=>h5 x (List.mem_append_right _ hx) y hy⟩
  ·rintro⟨⟨h4,h5⟩,h6⟩
   exact⟨⟨h1,h2,h4⟩,h3,λx hx y hy=>(List.mem_append.1 hx).elim (λhx=>h5 x hx y hy) λhx=>h6 x hx y hy⟩
theorem Zzm(l:List Dep):may3 l [] []=Zm l:=by
 rw[Zua]
 have:Zdb l []=true:=by rw[Zfx]; intro x _ y hy; simp at hy
 have h2:Zdb ([]:List Dep) []=true:=rfl
 have h3:Zm []=true:=rfl
 rw[this,h2,h3]; simp
theorem Zw2(m:Mani):Zb1 m=((may3 m.deps m.dev m.opt&&may3 m.over [] [])&&decide ((Zgw m).length≤4096)):=by
 rw[Zzm,Zua]
 unfold Zb1 Zc5 Zhl
 cases Zm m.deps<;>cases Zm m.dev<;>cases Zm m.opt<;>cases Zm m.over<;>simp
theorem Zq2{m:Mani}(h:Zb1 m=true):Zm m.deps=true∧Zm m.dev=true∧Zm m.opt=true∧Zm m.over=true∧Zhl m=true:=by
 unfold Zb1 Zc5 at h
 simp only[Bool.and_eq_true]at h
 exact⟨h.1.1.1.1,h.1.1.1.2,h.1.1.2,h.1.2,h.2.1⟩
theorem Zi6{m:Mani}(h:Zb1 m=true):m.deps.length+m.dev.length+m.opt.length≤48:=by
 obtain⟨h1,h2,h3,_⟩:=Zq2 h
 have:=(Zi h1).1; have:=(Zi h2).1; have:=(Zi h3).1
 omega
end Go.Hal
/-
 DERIVED:THE SHELF's CONTRACTS AT THIS DUMP,IN PLAIN WORDS (tools/lay-plain.mjs out of 'YtdjiedhnoanbpaaGreatDoorLay4.lean',which tools/lay-shelf.mjs wrote):THE SAME DECLARATIONS UNDER THE SAME NAMES:'import','namespace','open','def','theorem' AND NOTHING ELSE:no command of the shelf's:FOR A HAND-IN. Each laying:the table of numbers ('.._ren') and one theorem,a field a fact of the dump's own or the kernel's comparison; each contract:ONE APPLICATION.
-/
namespace Go.Proofs
open Go.Proofs.Tryz
open Go.Shelf
def Tryz.laySd_ren:Go.Shelf.Ren:=⟨λ|6=>76|15=>114|14=>140|28=>193|29=>194|20=>219|21=>220|22=>221|23=>222|24=>223|25=>224|26=>225|27=>226|46=>293|47=>266|48=>267|49=>294|50=>295|57=>324|n=>n,λ|22=>23|24=>152|25=>153|3=>3|39=>205|0=>0|53=>281|55=>283|4=>4|46=>275|45=>274|50=>207|5=>5|9=>9|66=>329|70=>333|76=>369|77=>370|n=>n,λ|n=>n⟩
theorem Tryz.laySd:Go.Proofs.SlLaysF0.n6 prog Tryz.laySd_ren:={
 mixed:=kR
 f6:=⟨Tryz.f76.name,by decide,func76.trans kS⟩
 f14:=⟨Tryz.f140.name,by decide,func140.trans kS⟩
 f15:=func114.trans kS
 f20:=⟨Tryz.f219.name,by decide,func219.trans kS⟩
 f21:=⟨Tryz.f220.name,by decide,func220.trans kS⟩
 f22:=⟨Tryz.f221.name,by decide,func221.trans kS⟩
 f23:=⟨Tryz.f222.name,by decide,func222.trans kS⟩
 f24:=⟨Tryz.f223.name,by decide,func223.trans kS⟩
 f25:=⟨Tryz.f224.name,by decide,func224.trans kS⟩
 f26:=⟨Tryz.f225.name,by decide,func225.trans kS⟩
 f27:=⟨Tryz.f226.name,by decide,func226.trans kS⟩
 f28:=func193.trans kS
 f29:=func194.trans kS
 f46:=⟨Tryz.f293.name,by decide,func293.trans kS⟩
 f47:=func266.trans kS
 f48:=func267.trans kS
 f49:=⟨Tryz.f294.name,by decide,func294.trans kS⟩
 f50:=⟨Tryz.f295.name,by decide,func295.trans kS⟩
 f57:=⟨Tryz.f324.name,by decide,func324.trans kS⟩
 t0:=underlying0
 a0:=Tryz.isAgg0
 z0:=Tryz.sizeOf0
 v0:=Tryz.zeroValue0
 t3:=underlying3
 a3:=Tryz.isAgg3
 z3:=Tryz.sizeOf3
 v3:=Tryz.zeroValue3
 t4:=underlying4
 a4:=Tryz.isAgg4
 z4:=Tryz.sizeOf4
 v4:=Tryz.zeroValue4
 t5:=underlying5
 a5:=Tryz.isAgg5
 z5:=Tryz.sizeOf5
 v5:=Tryz.zeroValue5
 t9:=underlying9
 a9:=Tryz.isAgg9
 z9:=Tryz.sizeOf9
 v9:=Tryz.zeroValue9
 t22:=underlying23
 a22:=Tryz.isAgg23
 z22:=Tryz.sizeOf23
 v22:=Tryz.zeroValue23
 t25:=underlying153
 a25:=Tryz.isAgg153
 z25:=Tryz.sizeOf153
 v25:=Tryz.zeroValue153
 t39:=underlying205
 a39:=Tryz.isAgg205
 z39:=Tryz.sizeOf205
 v39:=Tryz.zeroValue205
 t45:=underlying274
 a45:=Tryz.isAgg274
 z45:=Tryz.sizeOf274
 v45:=Tryz.zeroValue274
 t46:=underlying275
 a46:=Tryz.isAgg275
 z46:=Tryz.sizeOf275
 v46:=Tryz.zeroValue275
 t50:=underlying207
 a50:=Tryz.isAgg207
 z50:=Tryz.sizeOf207
 v50:=Tryz.zeroValue207
 t53:=underlying281
 a53:=Tryz.isAgg281
 z53:=Tryz.sizeOf281
 v53:=Tryz.zeroValue281
 t55:=underlying283
 a55:=Tryz.isAgg283
 z55:=Tryz.sizeOf283
 v55:=Tryz.zeroValue283
 t66:=underlying329
 a66:=Tryz.isAgg329
 z66:=Tryz.sizeOf329
 v66:=Tryz.zeroValue329
 t70:=underlying333
 a70:=Tryz.isAgg333
 z70:=Tryz.sizeOf333
 v70:=Tryz.zeroValue333
 t76:=underlying369
 a76:=Tryz.isAgg369
 z76:=Tryz.sizeOf369
 v76:=Tryz.zeroValue369
 t77:=underlying370
 a77:=Tryz.isAgg370
 z77:=Tryz.sizeOf370
 v77:=Tryz.zeroValue370}
end Go.Proofs
namespace Go.Hal
open Go.Proofs.Tryz
open Go Go.RowKit Go.Proofs Go.Shelf
instance:Inhabited Sl:=⟨Sl.nil⟩
theorem Z5a{a b:ByteArray×Sl}{w:World}{R:Int→World→Prop}(hR: ∀w',Gr w w'→R (cmpS a.1 b.1) w'):SE.Zck a.1 a.2 b.1 b.2 w R:=by
 unfold SE.Zck
 refine newS.gr λ_ w1 x1 hb=>newS.gr λ_ w2 x2 hb2=>⟨_,Gr.at0 hb x2 rfl,_,Gr.at0 hb2 (Gr.refl _) rfl,Zja ⟨_,rfl,hR _ (x1.trans x2)⟩⟩
theorem Zpo:Zfv prog 73:=enters_of func73 kR rfl
theorem may1_se{a b:ByteArray}{s t:Sl}{w:World}{R:Int→World→Prop}(hR: ∀w',Ext w w'→R (cmpS a b) w'):SE.Zck a s b t w R:=by
 unfold SE.Zck
 refine newS.intro λ_ w1 x1 hb _ _=>newS.intro λ_ w2 x2 hb2 _ _=>⟨_,hb.at0 x2 rfl,_,hb2.at0 xR rfl,Zja ⟨_,rfl,hR _ (x1.trans x2)⟩⟩
theorem Zs5{l:List Dep}{i:Nat}(hi:i<l.length)(h0:0<i):Zei (l.drop (i - 1))=(!decide (cmpS l[i].name (l[i - 1]'oM).name<0)&&Zei (l.drop i)):=by
 have h1:l.drop (i - 1)=l[i - 1]'oM::l.drop i:=by
  rw[List.drop_eq_getElem_cons (by omega:i - 1<l.length)]
  congr 2; omega
 rw[h1,List.drop_eq_getElem_cons hi,Zei]
theorem Zre{l:List Dep}: ∀{i:Nat},Zei (l.drop i)=false→Zei l=false:=by
 intro i
 induction i generalizing l with
 |zero=>intro h; simpa using h
 |succ i ih=>
  intro h
  cases l with
  |nil=>simp at h; exact h
  |cons x r=>
   rw[List.drop_succ_cons]at h
   have:=ih h
   cases r with
   |nil=>cases this
   |cons y r=>rw[Zei,this,Bool.and_false]
theorem Zt7{s:Sl}{l:List Dep}{S:Nat→Prop}{w:World}{R:Bool→World→Prop}(hs:SlR depE w S s l)(hR: ∀w',Ext w w'→R (Zei l) w'):SE.Zad s (.func (.func 73) #[] #[]) w R:=by
 unfold SE.Zad
 have hl:=hs.len
 have hm:=hs.max
 have hmx:=Zb
 refine loop1.ghost (λn i w'=>Ext w w'∧((l= []∧i= -1)∨(i=(n:Int)∧n<l.length∧Zei (l.drop n)=true))) (l.length - 1) ⟨Ext.refl _,?_⟩ λn i w1 nxt ⟨x1,hJ⟩ hn=>⟨λhlt=>?_,λhge=>?_⟩
 ·rw[Zc oM oM]
  by_cases h0:l= []
  ·left; subst h0; rw[hl]; exact⟨rfl,rfl⟩
  ·right
   have:0<l.length:=List.length_pos_iff.2 h0
   refine⟨oM,oM,?_⟩
   rw[List.drop_eq_getElem_cons oM,List.drop_eq_nil_of_le oM]; rfl
 ·rcases hJ with⟨_,rfl⟩|⟨rfl,hnl,hI⟩
  ·omega
  have h0:0<n:=oM
  have ew:Za ((n:Int) - 1)=((n - 1:Nat):Int):=by rw[Zc oM oM]; omega
  rw[ew]
  obtain⟨ad,t,ha,_,hnm,_,hc⟩:=Zhg hs hnl
  obtain⟨ad2,t2,ha2,_,hnm2,_,hc2⟩:=Zhg hs (n:=n - 1) oM
  have hstep:=Zs5 hnl h0
  refine bnd.drew λw2 x2=>⟨ad,⟨ha,oM,oM⟩,_,t,hc _ (x1.trans x2),ad2,⟨ha2,oM,oM⟩,_,t2,hc2 _ (x1.trans x2),_,_,rfl,Zpo,SE.Zck.go (may1_se λw3 x3=>⟨_,rfl,λhneg=>?_,λhpos=>?_⟩)⟩
  ·rw[decide_eq_true hneg,Bool.not_true,Bool.false_and]at hstep
   have:=hR w3 ((x1.trans x2).trans x3)
   rw[Zre hstep]at this; exact this
  ·rw[decide_eq_false hpos,hI]at hstep
   exact hn (n - 1) _ _ oM ⟨(x1.trans x2).trans x3,.inr ⟨rfl,oM,hstep⟩⟩
 ·have hs:Zei l=true:=by
   rcases hJ with⟨rfl,_⟩|⟨rfl,hnl,hI⟩
   ·rfl
   ·have:n=0:=oM
    subst this; simpa using hI
  have:=hR w1 x1
  rw[hs]at this; exact this
theorem Z0h{w:World}{lo:Nat}{S:Nat→Prop}{s:Sl}{l:List Dep}{K:Value→World→Prop}(h:OwnS depE 152 w lo S s l)(hlo:lo≤w.heap.size)(hlen:l.length≤1000)
  (hK: ∀w' (z:List (ByteArray×Sl)),Below lo w w'→(z.map (·.1)).Perm (l.map (·.name))→z.Pairwise (λx y=>cmpS x.1 y.1≤0)→(z= []∨ ∃g tail,s.a=some ⟨g,0,none⟩∧RowB (λx:ByteArray×Sl=>[.string x.1,Sl.v x.2]) w' g z tail)→K (.tuple #[]) w'):
  callS prog 76 [Sl.v s,.func (.func 73) #[] #[]] w K:=by
 have hsl:=h.len
 rcases h.rowG (λx:ByteArray×Sl=>[.string x.1,Sl.v x.2]) (λy x=>y.1=x.name) (λx cs (hx:depE.rep w S x cs)=>by obtain⟨_,t,hcs,_⟩:=hx; exact⟨(x.name,t),hcs,rfl⟩)with⟨rfl,rfl⟩|⟨g,z,tail,ha,hg,hz,hr,hrow,hc,hcm⟩
 ·refine(AnyF.slices_SortFunc_none Tryz.laySd none 0 _ w).mono λe w' ⟨he,hw⟩=>⟨_,he,?_⟩
  subst hw
  exact hK _ [] (Below.refl _ _) (List.Perm.refl _) List.Pairwise.nil (.inl rfl)
 ·obtain⟨a,n,c⟩:=s
  simp only at ha hsl
  subst ha
  have hzl:(z.map Prod.fst).length=l.length:=by rw[←hz]; simp
  have hnm:(z.map Prod.fst).map (·.1)=l.map (·.name):=by
   rw[←hz,List.map_map,List.map_map]
   exact List.map_congr_left λp hp=>hr p hp
  subst hsl
  rw[←hzl]
  have hO:=Zgb (α:=ByteArray×Sl) (·.1)
  refine Zf7 Tryz.laySd (k:=2) (λw=>kR) (λw=>kR) (f:=λx:ByteArray×Sl=>[.string x.1,Sl.v x.2]) (λ_=>rfl) (λx v hv=>by simp[Sl.v]at hv; rcases hv with rfl|rfl<;>rfl) (λa b=>cmpS a.1 b.1) (Zjb hO.flip hO.trans) 73 #[] Zpo (λw0 x y hb _=> ?_) hrow oM rfl λl' w' hp hs b hr'=>?_
  ·have h:=SE.Zck.go (k:=λv w'=>v= .int .i64 (cmpS x.1 y.1)∧Gr w0 w') (Z5a (a:=x) (b:=y) (w:=w0) λw' h=>⟨rfl,h⟩)
   exact Calls.mono h λe w' ⟨v,he,hv,hg⟩=>⟨by rw[he,hv],hg⟩
  ·refine hK w' l' (b.below hlo hg) ?_ (hs.imp λ{a b} h=>by have:=hO.flip b a; have:=hO.flip a b; omega) (.inr ⟨g,tail,rfl,hr'⟩)
   rw[←hnm]
   exact hp.map _
theorem okB{d:Dep}{t2:Bool}{n:Int}(h2:Zap d.name=true→t2=Z3 d.range)(hn:(n==0)=d.range.isEmpty):(((!Zap d.name)||(!t2))||(n==0))= !okD d:=by
 unfold okD
 rw[hn]
 cases h1:Zap d.name
 ·simp
 ·rw[h2 h1]
  cases Z3 d.range<;>cases d.range.isEmpty<;>rfl
theorem Zzl{sa sb sc:Sl}{la lb lc:List Dep}{S:Nat→Prop}{w:World}{R:Bool→World→Prop}(hS:Old S w)(ha:SlR depE w S sa la)(hb:SlR depE w S sb lb)(hc:SlR depE w S sc lc)(hR: ∀w',Ext w w'→R (may3 la lb lc) w'):SE.Zfe sa sb sc w R:=by
 unfold SE.Zfe
 have hmx:=Zb
 have e40:depE.bytes=40:=rfl
 refine newS.intro λa1 w1 x1 hb1 hab1 _=> ?_
 have hs1:=x1.size
 have hwkl: ∀{l:List Dep},wk l=true→l.length≤16:=λh=>by
  unfold wk at h
  simp only[Bool.and_eq_true,decide_eq_true_eq]at h
  exact h.1.1
 refine loop2.up (N:=3) dC (λall i w'=>Ext w w'∧Ext w1 w'∧ ∃(S':Nat→Prop) (pre:List Dep),OwnS depE 152 w' w1.heap.size S' all pre∧(i=0→pre= [])∧(i=1→pre=la)∧(i=2→pre=la++lb)∧(i=3→pre=la++lb++lc)∧(0<i→wk la=true)∧(1<i→wk lb=true)∧(2<i→wk lc=true))
  ⟨x1,Ext.refl _,None',[],(OwnS.nil _ _),λ_=>rfl,λh=>by omega,λh=>by omega,λh=>by omega,λh=>by omega,λh=>by omega,λh=>by omega⟩ λall i w2 nxt hi ⟨x2,x12,S',pre,own,p0,p1,p2,p3,k0,k1,k2⟩ hn=>⟨λhlt=>?_,λhge=>?_⟩
 ·have hlt':i<3:=by
   have:((Sl.mk (some a1) 3 3).len:Int)=3:=rfl
   omega
  have hl3:=Z3z (i:=i) (hb1.ext x12)
  have hcase:i=0∨i=1∨i=2:=oM
  obtain⟨t,l,hld,hs,q0,q1,q2,hbad,hpre⟩: ∃t l,ldc w2 (a1.add (i*1)) [Sl.v t]∧SlR depE w S t l∧(i=0→l=la)∧(i=1→l=lb)∧(i=2→l=lc)∧(wk l=false→may3 la lb lc=false)∧pre.length≤32:=by
   rcases hcase with rfl|rfl|rfl
   ·exact⟨sa,la,hl3.1 rfl,ha,λ_=>rfl,λh=>by omega,λh=>by omega,λh=>Zmg (.inl h),by rw[p0 rfl]; simp⟩
   ·exact⟨sb,lb,hl3.2.1 rfl,hb,λh=>by omega,λ_=>rfl,λh=>by omega,λh=>Zmg (.inr (.inl h)),by rw[p1 rfl]; have:=hwkl (k0 oM); omega⟩
   ·exact⟨sc,lc,hl3.2.2 rfl,hc,λh=>by omega,λh=>by omega,λ_=>rfl,λh=>Zmg (.inr (.inr h)),by rw[p2 rfl,List.length_append]; have:=hwkl (k0 oM); have:=hwkl (k1 oM); omega⟩
  have hsl:=hs.len
  refine⟨a1,⟨rfl,oM,hlt⟩,t,hld,bound ?_⟩
  refine gCall.intro (Zei l) (λ_ q hq=>SE.Zad.go (Zt7 (hs.ext x2) λw' hx=>⟨_,rfl,hq _ hx⟩)) λt2 w3 x3 ht2=>?_
  have x03:=x2.trans x3
  have hfalse: ∀w',Ext w w'→wk l=false→R false w':=λw' hx h=>by
   have:=hR w' hx
   rw[hbad h]at this; exact this
  refine⟨λh=>hfalse w3 x03 ?_,λh=>?_⟩
  ·unfold wk
   cases h16:decide ((16:Int)<(t.len:Int))
   ·rw[h16]at ht2 h
    rw[ht2 rfl]at h
    have:Zei l=false:=by simpa using h
    rw[this]; simp
   ·have: ¬l.length≤16:=by simp at h16; omega
    simp[this]
  ·have h16:l.length≤16:=by simp at h; omega
   have hd:decide ((16:Int)<(t.len:Int))=false:=by simp; omega
   rw[hd]at ht2 h
   rw[ht2 rfl]at h
   have hso:Zei l=true:=by simpa using h
   refine loop1.up hs.max (λj w'=>Ext w3 w'∧(l.take j).all okD=true) ⟨Ext.refl _,rfl⟩ λj w4 nxt2 hj ⟨x4,hI⟩ hn2=>⟨λhlt2=>?_,λhge2=>?_⟩
   ·have hlj:j<l.length:=oM
    obtain⟨ad,tr,had,_,hnm,hr,hcc⟩:=Zhg hs hlj
    have x04:=x03.trans x4
    refine⟨ad,⟨had,oM,hlt2⟩,_,tr,hcc _ x04,newS.intro λa5 w5 x5 hb5 hab5 _=>stw0.intro hb5 sI λw6 b6 _ hb6=>⟨_,hb6.at0 xR rfl,?_⟩⟩
    have x46:Ext w4 w6:=b6.ext x5 oM
    have x06:=x04.trans x46
    refine SE.Zep.go (scanName_se hnm λw7 x7=>⟨_,rfl,bound ⟨tr,λ_=>hb6.at1 (k:=1) (r:=[]) x7 rfl,?_⟩⟩)
    refine gCall.intro (Z3 l[j].range) (λ_ q hq=>SE.Zh8.go (spanMay_se (hr.ext (x06.trans x7)) λw' hx=>⟨_,rfl,hq _ hx⟩)) λt3 w8 x8 ht3=>bound ⟨tr,λ_=>hb6.at1 (k:=1) (r:=[]) (x7.trans x8) rfl,?_⟩
    have e0:((tr.len:Int)==0)=l[j].range.isEmpty:=by
     rw[hr.len]
     cases l[j].range<;>simp
     omega
    have e1:=okB (d:=l[j]) (t2:=t3) (n:=(tr.len:Int)) (λh1=>ht3 (by rw[h1]; rfl)) e0
    rw[e1]
    have hst:(l.take (j+1)).all okD=okD l[j]:=by rw[List.take_succ_eq_append_getElem hlj,List.all_append,hI]; simp
    refine⟨λhh=>hfalse w8 ((x06.trans x7).trans x8) ?_,λhh=>hn2 hlj _ ⟨(x4.trans x46).trans (x7.trans x8),by rw[hst]; simpa using hh⟩⟩
    have hbadj:okD l[j]=false:=by simpa using hh
    unfold wk
    have:l.all okD=false:=by
     rw[List.all_eq_false]
     exact⟨l[j],List.getElem_mem hlj,by rw[hbadj]; decide⟩
    rw[this,Bool.and_false]
   ·have hjl:j=l.length:=oM
    rw[hjl,List.take_length]at hI
    have hwk:wk l=true:=by
     unfold wk
     rw[hso,hI,decide_eq_true h16]; rfl
    have x24:=x3.trans x4
    have x04:=x2.trans x24
    have hs4:=x04.size
    refine(own.ext x24).appAll Zx2 (x12.trans x24).size (hs.ext x04) (hS.ext hs4) (λad had hb=>by have:=(own.block had).1; have:=hS _ hb; omega) (by rw[e40]; unfold room; omega) oM λr' w9 own9 bel9 _ _=> ?_
    refine hn hlt' _ _ ⟨x1.trans ((x12.trans x24).trans' bel9),(x12.trans x24).trans' bel9,_,pre++l,own9,λh=>by omega,λh=>?_,λh=>?_,λh=>?_,λ_=> ?_,λh=>?_,λh=>?_⟩
    ·have:i=0:=oM
     rw[p0 this,q0 this]; rfl
    ·have:i=1:=oM
     rw[p1 this,q1 this]
    ·have:i=2:=oM
     rw[p2 this,q2 this]
    ·rcases Nat.eq_zero_or_pos i with h0|h0
     ·rw[←q0 h0]; exact hwk
     ·exact k0 h0
    ·rcases Nat.lt_or_ge 1 i with h0|h0
     ·exact k1 h0
     ·have:i=1:=oM
      rw[←q1 this]; exact hwk
    ·have:i=2:=oM
     rw[←q2 this]; exact hwk
 ·have hi3:i=3:=by
   have:((Sl.mk (some a1) 3 3).len:Int)=3:=rfl
   omega
  rw[Z58 (k0 oM) (k1 oM) (k2 oM),←p3 hi3]at hR
  have hpl:pre.length≤1000:=by
   rw[p3 hi3,List.length_append,List.length_append]
   have:=hwkl (k0 oM); have:=hwkl (k1 oM); have:=hwkl (k2 oM); omega
  clear p0 p1 p2 p3 k0 k1 k2 hn
  refine Z0h own x12.size hpl λw3 z b3 hzp hzs hz=>⟨rfl,?_⟩
  have x03:Ext w w3:=x1.trans (x12.trans' b3)
  have hal:=own.len
  have hzl:z.length=pre.length:=by have:=hzp.length_eq; simpa using this
  have hone: ∀w',Ext w w'→ ∀b,(b=true↔(z.map (·.1)).Nodup)→R b w':=λw' hx b hb=>by
   have h1:=hR w' hx
   have:b=decide (pre.map (·.name)).Nodup:=by rw[Bool.eq_iff_iff,hb,decide_eq_true_eq]; exact hzp.nodup_iff
   rw[this]; exact h1
  have hread: ∀i (hi:i<z.length),∃ad,all.a=some ad∧ ∀w',Ext w3 w'→ldc w' (ad.add (i*2)) [.string z[i].1]:=λi hi=>by
   rcases hz with rfl|⟨g,tail,hga,hrow⟩
   ·exact absurd hi (Nat.not_lt_zero _)
   ·exact⟨_,hga,λw' hx=>(RowB.ld (k:=2) (λ_=>rfl) (hrow.ext hx) hi).pre rfl⟩
  have hone1: ∀{i j:Nat} (hi:i<z.length) (hj:j<z.length),i<j→cmpS z[i].1 z[j].1≤0:=λhi hj hij=>List.pairwise_iff_getElem.1 hzs _ _ hi hj hij
  refine loop1.ghost (λm i w'=>∃k:Nat,i=(k:Int)∧1≤k∧m=z.length - k∧Ext w3 w'∧(z.take k).Pairwise (λx y=>bLt x.1 y.1=true)) (z.length - 1) ⟨1,rfl,Nat.le_refl _,rfl,Ext.refl _,?_⟩ λm i w4 nxt ⟨k,hik,hk1,hm,x4,hP⟩ hn=>⟨λhlt=>?_,λhge=>?_⟩
  ·cases z with
   |nil=>exact List.Pairwise.nil
   |cons x r=>simp
  ·subst hik
   have hkz:k<z.length:=oM
   have ew:Za ((k:Int) - 1)=((k - 1:Nat):Int):=by rw[Zc oM oM]; omega
   rw[ew]
   obtain⟨ad,hga,hc1⟩:=hread k hkz
   obtain⟨ad',hga',hc2⟩:=hread (k - 1) oM
   refine bnd.drew λw5 x5=>⟨ad,⟨hga,oM,oM⟩,_,hc1 _ (x4.trans x5),ad',⟨hga',oM,oM⟩,_,hc2 _ (x4.trans x5),λhe=>?_,λhne=>?_⟩
   ·refine hone _ (x03.trans (x4.trans x5)) false ⟨nO,λh=>?_⟩
    rw[List.nodup_iff_pairwise_ne,List.pairwise_map]at h
    exact absurd he.symm (List.pairwise_iff_getElem.1 h (k - 1) k oM hkz oM)
   ·have hadj:=hone1 (i:=k - 1) (j:=k) oM hkz oM
    have hb1:bLt (z[k - 1]'oM).1 z[k].1=true:=Zrm hadj λe=>hne e.symm
    refine hn (z.length - (k+1)) _ _ oM ⟨k+1,by rw[Zc oM oM]; omega,oM,rfl,x4.trans x5,?_⟩
    rw[List.take_succ_eq_append_getElem hkz,List.pairwise_append]
    refine⟨hP,List.pairwise_singleton _ _,λx hx y hy=>?_⟩
    simp only[List.mem_singleton]at hy
    subst hy
    obtain⟨j,hj,rfl⟩:=List.mem_iff_getElem.1 hx
    rw[List.length_take]at hj
    rw[List.getElem_take]
    by_cases hjk:j=k - 1
    ·subst hjk; exact hb1
    ·have hjl:j<(z.take k).length:=by rw[List.length_take]; exact hj
     have hkl:k - 1<(z.take k).length:=by rw[List.length_take]; omega
     have h2:=List.pairwise_iff_getElem.1 hP j (k - 1) hjl hkl oM
     rw[List.getElem_take,List.getElem_take]at h2
     exact Zii h2 hb1
  ·subst hik
   refine hone _ (x03.trans x4) true ⟨λ_=> ?_,λ_=>rfl⟩
   rw[List.take_of_length_le oM]at hP
   rw[List.nodup_iff_pairwise_ne,List.pairwise_map]
   exact hP.imp λh=>Zu8 h
def BoxT(T:TypeId)(w:World)(a:Addr)(cs:List Value):Prop:=a.off=0∧a.spot=none∧w.heap[a.block]? =some (.cells cs.toArray T (0,0))
theorem BoxT.box{T:TypeId}{w:World}{a:Addr}{cs:List Value}(h:BoxT T w a cs):BoxAt w a cs:=⟨T,h⟩
theorem BoxT.ext{T:TypeId}{w w':World}{a:Addr}{cs:List Value}(h:BoxT T w a cs)(hx:Ext w w'):BoxT T w' a cs:=⟨h.1,h.2.1,(hx.block (lt_of_block h.2.2)).trans h.2.2⟩
theorem newS.introT{w:World}{cs:List Value}{t:TypeId}{k:Addr→World→Prop}(h: ∀a w',Ext w w'→BoxT t w' a cs→a.block=w.heap.size→w'.heap.size=w.heap.size+1→k a w'):newS w cs t k:=λa w' ha hw=>by
 subst ha hw
 exact h _ _ (Ext.alloc _ _) ⟨rfl,rfl,heap_alloc_new w _⟩ rfl sI
theorem stw0.introT{T:TypeId}{w:World}{a:Addr}{old cs:List Value}{k:World→Prop}(hb:BoxT T w a old)(hl:cs.length=old.length)(h: ∀w',But a.block w w'→w'.heap.size=w.heap.size→BoxT T w' a cs→k w'):stw w a cs k:=by
 obtain⟨ho,hs,hh⟩:=hb
 obtain⟨b,of,sp⟩:=a
 simp only at ho hs hh
 subst ho hs
 refine⟨_,T,hh,rfl,by simp[hl],h _ ⟨?_,rfl,rfl,rfl,λc hc hne=>setRow_other w b c _ hne⟩ ?_ ⟨rfl,rfl,?_⟩⟩
 ·simp[World.setRow]
 ·simp[World.setRow]
 ·rw[setRow_heap w b old.toArray _ T _ hh]
  have:old.drop cs.length= []:=by rw[hl]; exact List.drop_length
  simp[Zit,this]
theorem Bld.lt{b:Nat}{l:List UInt8}{w:World}(h:Bld b l w):b<w.heap.size:=by
 rcases h with⟨_,_,h,_⟩|⟨_,_,h,_⟩<;>exact lt_of_block h
theorem Znp{b:Nat}{l m:List UInt8}{w0 w:World}{k:Value→World→Prop}(hB:Bld b l w)(h0:w0.heap.size=b)(x0:Ext w0 w)(hl:l.length+m.length≤140737488355328)
  (hk: ∀w' n,Ext w0 w'→Bld b (l++m) w'→(∀T a cs,T≠5→a.block≠b→BoxT T w a cs→BoxT T w' a cs)→k (.tuple #[.int .i64 n,.nilIface]) w'):callS prog 77 [.pointer (some ⟨b,0,none⟩),.string (B m)] w k:=by
 have h:=Any.Builder_WriteString_k {Tryz.layJo with} bldX b b (Lib.byteCells l) (B m) w hB (by rw[Lib.byteCells_length,Zl]; exact hl) (by have:=x0.size; omega)
 refine h.mono λe w' ⟨he,hb,hbel,hoth⟩=>⟨_,he,hk w' _ (x0.trans' (by rw[h0]; exact hbel)) (.inr ?_) λT a cs hT ha hbx=>⟨hbx.1,hbx.2.1,hoth _ _ hbx.2.2 (λe=>ha (Option.some.inj e)) λc fz e=>?_⟩⟩
 ·have e:Lib.byteCells l++Lib.strCells (B m)=Lib.byteCells (l++m):=by rw[Lib.strCells_eq,Zk4]; simp[Lib.byteCells]
  rw[e]at hb; exact hb
 ·simp only[Obj.cells.injEq]at e
  exact hT e.2.1
def Zzt:TypeId:=171
theorem Z2n{a:Addr}{w:World}{R:Sl→World→Prop}(hR: ∀a' w',Ext w w'→BoxT Zzt w' a' [.string (B wNeeds),.pointer (some a),.string (B wDev),.pointer (some (a.add 1)),.string (B wLikes),.pointer (some (a.add 2)),.string (B wPins),.pointer (some (a.add 3))]→w.heap.size≤a'.block→R ⟨some a',4,4⟩ w'):SE.Ze8 (some a) w R:=by
 unfold SE.Ze8
 exact bnd.drew λw1 x1=>⟨a,rfl,a,rfl,a,rfl,a,rfl,newS.introT λa' w2 x2 hb hab _=>hR a' w2 (x1.trans x2) hb (by have:=x1.size; omega)⟩
def mt(m:Mani)(i:Nat):List UInt8:=match i with
 |0=>pjText
 |1=>pjText++Zbd wNeeds m.deps
 |2=>(pjText++Zbd wNeeds m.deps)++Zbd wDev m.dev
 |3=>((pjText++Zbd wNeeds m.deps)++Zbd wDev m.dev)++Zbd wLikes m.opt
 |_=>Zgw m
theorem Zn8{m:Mani}{d e o v:Sl}{S:Nat→Prop}{w:World}{R:ByteArray→World→Prop}(ht:Tab w)(hm:Zc5 m=true)(hd:SlR depE w S d m.deps)(he:SlR depE w S e m.dev)(ho:SlR depE w S o m.opt)(hv:SlR depE w S v m.over)
  (hR: ∀w',Ext w w'→R (B (Zgw m)) w'):SE.Ze0 d e o v w R:=by
 unfold SE.Ze0
 unfold Zc5 at hm
 simp only[Bool.and_eq_true]at hm
 obtain⟨⟨⟨h1,h2⟩,h3⟩,h4⟩:=hm
 have n1:=Zi h1; have n2:=Zi h2; have n3:=Zi h3; have n4:=Zi h4
 have l1:=Zav (word:=wNeeds) dC λd hd=>(n1.2 d hd).1
 have l2:=Zav (word:=wDev) dC λd hd=>(n2.2 d hd).1
 have l3:=Zav (word:=wLikes) dC λd hd=>(n3.2 d hd).1
 refine newS.intro λa w1 x1 hb _ _=> ?_
 intro a1 w2 ha1 hw2
 subst ha1
 have x2:Ext w1 w2:=hw2▸Ext.alloc _ _
 have hB2:Bld w1.heap.size [] w2:=hw2▸Zqm w1
 have t1:Tab w1:=ht.ext x1
 have hpj:(ByteArray.mk #[112,114,111,106,101,99,116,10])=B pjText:=rfl
 rw[hpj]
 refine Zg4 (m:=pjText) hB2 rfl x2 dC λw3 n3' x3 hB3=>⟨_,_,rfl,?_⟩
 refine SE.Ze8.go (Z2n (a:=a) λap w4 x4 hbp hapb=>⟨_,rfl,?_⟩)
 have hs13:=hB3.lt
 have hTne:Zzt≠5:=by decide
 have x14:=x3.trans x4
 have hpjl:pjText.length=8:=rfl
 refine loop1.up (N:=4) dC (λi w'=>Ext w1 w'∧BoxT Zzt w' ap [.string (B wNeeds),.pointer (some a),.string (B wDev),.pointer (some (a.add 1)),.string (B wLikes),.pointer (some (a.add 2)),.string (B wPins),.pointer (some (a.add 3))]∧Bld w1.heap.size (mt m i) w') ⟨x14,hbp,by simpa[mt]using hB3.ext x4⟩ λi w5 nxt hi ⟨x5,hbp5,hB5⟩ hn=>⟨λhlt=>?_,λhge=>?_⟩
 ·have hlt':i<4:=by
   have:((Sl.mk (some ap) 4 4).len:Int)=4:=rfl
   omega
  obtain⟨wd,k,t,l,hp,hl5,hs,hdm,hwd,hmt,hml⟩: ∃(wd:List UInt8) (k:Nat) (t:Sl) (l:List Dep),ldc w5 (ap.add (i*2)) [.string (B wd),.pointer (some (a.add k))]∧(∀w',Ext w5 w'→ldc w' (a.add k) [Sl.v t])∧SlR depE w S t l∧Zm l=true∧wd.length≤8∧mt m (i+1)=mt m i++Zbd wd l∧(mt m i).length≤1000000:=by
   have hcase:i=0∨i=1∨i=2∨i=3:=oM
   rcases hcase with rfl|rfl|rfl|rfl
   ·exact⟨wNeeds,0,d,m.deps,hbp5.box.at1 (k:=0) xR rfl,λw' hx=>hb.at1 (k:=0) (x5.trans hx) rfl,hd,h1,by decide,rfl,by simp[mt,hpjl]⟩
   ·exact⟨wDev,1,e,m.dev,hbp5.box.at1 (k:=2) xR rfl,λw' hx=>hb.at1 (k:=1) (x5.trans hx) rfl,he,h2,by decide,rfl,by simp[mt,hpjl]; omega⟩
   ·exact⟨wLikes,2,o,m.opt,hbp5.box.at1 (k:=4) xR rfl,λw' hx=>hb.at1 (k:=2) (x5.trans hx) rfl,ho,h3,by decide,rfl,by simp[mt,hpjl]; omega⟩
   ·exact⟨wPins,3,v,m.over,hbp5.box.at1 (k:=6) xR rfl,λw' hx=>hb.at1 (k:=3) (x5.trans hx) rfl,hv,h4,by decide,rfl,by simp[mt,hpjl]; omega⟩
  rw[hmt]at hn
  generalize mt m i=t0 at*
  refine⟨ap,⟨rfl,oM,hlt⟩,_,_,hp,newS.introT λa8 w6 x6 hb6 hab6 _=>stw0.introT hb6 rfl λw7 b7 _ hb7=>?_⟩
  have x57:Ext w5 w7:=b7.ext x6 oM
  have x17:=x5.trans x57
  have x07:=x1.trans x17
  refine⟨_,hb7.box.at1 (k:=1) xR rfl,_,rfl,t,hl5 _ x57,?_⟩
  have hsl:=hs.len
  obtain⟨h16,hok⟩:=Zi hdm
  refine loop1.up hs.max (λj w'=>Ext w1 w'∧BoxT Zzt w' a8 [.string (B wd),.pointer (some (a.add k))]∧BoxT Zzt w' ap [.string (B wNeeds),.pointer (some a),.string (B wDev),.pointer (some (a.add 1)),.string (B wLikes),.pointer (some (a.add 2)),.string (B wPins),.pointer (some (a.add 3))]∧Bld w1.heap.size (t0++Zbd wd (l.take j)) w') ⟨x17,hb7,hbp5.ext x57,by simpa[Zbd]using hB5.ext x57⟩ λj w8 nxt2 hj ⟨x8,hb8,hbp8,hI⟩ hn2=>⟨λhlt2=>?_,λhge2=>?_⟩
  ·have hlj:j<l.length:=oM
   obtain⟨ad,tr,had,_,hnm,hr,hc⟩:=Zhg hs hlj
   have hdj:=hok _ (List.getElem_mem hlj)
   have q1:=Zav hwd (l:=l.take j) λd hd=>(hok d (List.mem_of_mem_take hd)).1
   rw[List.length_take,Nat.min_eq_left oM]at q1
   have q2:=Zd2 hdj.1
   have q3:=Zg0 l[j].range
   have x08:=x1.trans x8
   refine⟨ad,⟨had,oM,hlt2⟩,_,tr,hc _ x08,newS.intro λa9 w9 x9 hb9 hab9 _=>stw0.intro hb9 sI λw10 b10 _ hb10=>bnd.drew λw11 x11=>?_⟩
   have x810:Ext w8 w10:=b10.ext x9 oM
   have x811:=x810.trans x11
   refine⟨_,hb8.box.at0 x811 rfl,?_⟩
   rw[Zd1]
   refine⟨by rw[Zl,Za2,Zs]; simp; omega,_,hb10.at0 x11 rfl,?_⟩
   rw[ba_B l[j].name,Zgp,Zd1]
   refine⟨by rw[Zl,Zl,Zs]; simp; omega,by rw[Zl,Za2,Zs]; simp; omega,tr,hb10.at1 x11 rfl,callX.intro (SE.Zha.go (Zmx (ht.ext (x08.trans x811)) (hr.ext (x08.trans x811)) λw12 x12=>⟨x12,_,rfl,?_⟩))⟩
   rw[Zgp,Zd1]
   have hln:(((((wd++ [32])++l[j].name.toList)++ [32])++Zbn l[j].range)++ [10]).length≤2030:=by simp; omega
   refine⟨by rw[Zl,Zl,Zs]; simp; omega,by rw[Zl,Za2,Zs]; simp; omega,Znp (m:=(((((wd++ [32])++l[j].name.toList)++ [32])++Zbn l[j].range)++ [10])) (hI.ext (x811.trans x12)) rfl (x8.trans (x811.trans x12)) (by rw[List.length_append]; omega) λw13 n13 x13 hB13 keep=>⟨_,_,rfl,hn2 hlj _ ⟨x13,keep _ _ _ hTne (by have:=hbp5.box.lt; omega) (hb8.ext (x811.trans x12)),keep _ _ _ hTne oM (hbp8.ext (x811.trans x12)),?_⟩⟩⟩
   ·rw[List.take_succ_eq_append_getElem hlj,Zi1,Zks,←List.append_assoc]
    exact hB13
  ·have hjl:j=l.length:=oM
   rw[hjl,List.take_length]at hI
   exact hn hlt' _ ⟨x8,hbp8,hI⟩
 ·have hi4:i=4:=by
   have:((Sl.mk (some ap) 4 4).len:Int)=4:=rfl
   omega
  subst hi4
  exact Ziz hB5 rfl x5 λw9 x9=>⟨_,rfl,hR _ (x1.trans x9)⟩
theorem Zme{m:Mani}{d e o v:Sl}{S:Nat→Prop}{w:World}{R:Bool→World→Prop}(ht:Tab w)(hS:Old S w)(hd:SlR depE w S d m.deps)(he:SlR depE w S e m.dev)(ho:SlR depE w S o m.opt)(hv:SlR depE w S v m.over)
  (hR: ∀w',Ext w w'→R (Zb1 m) w'):SE.Zen d e o v w R:=by
 unfold SE.Zen
 refine newS.intro λa w1 x1 hb _ _=>⟨d,hb.at0 xR rfl,e,hb.at1 (k:=1) xR rfl,o,hb.at1 (k:=2) xR rfl,?_⟩
 refine SE.Zfe.go (Zzl (hS.ext x1.size) (hd.ext x1) (he.ext x1) (ho.ext x1) λw2 x2=>⟨_,rfl,v,λ_=>hb.at1 (k:=3) (r:=[]) x2 rfl,?_⟩)
 refine gCall.intro (may3 m.over [] []) (λ_ q hq=>SE.Zfe.go (Zzl (hS.ext (x1.trans x2).size) (hv.ext (x1.trans x2)) (SlR.nil trivial) (SlR.nil trivial) λw' hx=>⟨_,rfl,hq _ hx⟩)) λt3 w3 x3 ht3=>bound ⟨d,e,o,v,λ_=>hb.at0 (r:=[]) (x2.trans x3) rfl,?_⟩
 have x03:=(x1.trans x2).trans x3
 have e1:(may3 m.deps m.dev m.opt&&t3)=(may3 m.deps m.dev m.opt&&may3 m.over [] []):=by
  cases h:may3 m.deps m.dev m.opt
  ·rfl
  ·rw[ht3 h]
 rw[e1]
 have hl:(may3 m.deps m.dev m.opt&&may3 m.over [] [])=true→Zc5 m=true:=λh=>by
  rw[Zzm,Zua]at h
  simp only[Bool.and_eq_true]at h
  unfold Zc5
  simp[h]
 refine gCall.intro (B (Zgw m)) (λhg q hq=>SE.Ze0.go (Zn8 (ht.ext x03) (hl hg) (hd.ext x03) (he.ext x03) (ho.ext x03) (hv.ext x03) λw' hx=>⟨_,rfl,hq _ hx⟩)) λt4 w4 x4 ht4=>?_
 have e2:((may3 m.deps m.dev m.opt&&may3 m.over [] [])&&decide ((t4.size:Int)≤4096))=Zb1 m:=by
  rw[Zw2]
  cases h:(may3 m.deps m.dev m.opt&&may3 m.over [] [])
  ·rfl
  ·rw[ht4 h,Zl,Bool.true_and,Bool.true_and,decide_eq_decide]; omega
 rw[e2]; exact hR _ (x03.trans x4)
def Zjz(L:List Pack)(m:Mani)(dev:Bool)(pins:List Pin)(D N:Int):Stp:=
 if Zb1 m=true∧1≤D∧D≤4096∧1≤N∧N≤128 then Quest.res ⟨L,m,dev,pins,D.toNat,N.toNat⟩else .err 1
def Stp.ns:Stp→List Node
 | .done ns _=>ns
 |_=> []
def Stp.dec:Stp→Int
 | .done _ t=>(t:Int)
 |_=>0
def Stp.code:Stp→Int
 | .err e=>e
 |_=>0
theorem Zff{w:World}{S:Nat→Prop}{s:Sl}{l:List Node}(h:SlR nodeE w S s l){n:Nat}(hn:n<l.length):
  ∃ad c e,s.a=some ad∧Str l[n].name∧SlR pinE w S c l[n].ctx∧SlR edgeE w S e l[n].edges∧ ∀w',Ext w w'→ldc w' (ad.add (n*6)) [.string l[n].name,.int .i64 l[n].v.ma,.int .i64 l[n].v.mi,.int .i64 l[n].v.pa,Sl.v c,Sl.v e]:=by
 obtain⟨ad,cs,h1,h2,⟨h0,c,e,rfl,h5,h6⟩,h4⟩:=h.el hn
 exact⟨ad,c,e,h1,h0,h5,h6,h4⟩
theorem Z3t{w:World}{S:Nat→Prop}{s:Sl}{l:List Edge}(h:SlR edgeE w S s l){n:Nat}(hn:n<l.length):
  ∃ad,s.a=some ad∧ ∀w',Ext w w'→ldc w' (ad.add (n*2)) [.string l[n].name,.int .i64 l[n].to]:=by
 obtain⟨ad,cs,h1,h2,⟨rfl,h3⟩,h4⟩:=h.el hn
 exact⟨ad,h1,h4⟩
theorem Ziu{α:Type}{a b:List α}{i:Nat}(h1:i<a.length)(h2:i<b.length)(hI:a.take i=b.take i)(he:a[i]=b[i]):a.take (i+1)=b.take (i+1):=by
 rw[List.take_succ_eq_append_getElem h1,List.take_succ_eq_append_getElem h2,hI,he]
theorem Z7g{x y:Pin}:(!((bEq x.name y.name)&&(((x.v.ma==y.v.ma)&&((x.v.mi==y.v.mi)&&((x.v.pa==y.v.pa)&&true)))&&true)))= !decide (x=y):=by
 congr 1
 rw[Bool.eq_iff_iff]
 obtain⟨n,⟨p,q,r⟩⟩:=x
 obtain⟨n',⟨p',q',r'⟩⟩:=y
 simp[Zca]
theorem Z60{x y:Edge}:(!((bEq x.name y.name)&&((x.to==y.to)&&true)))= !decide (x=y):=by
 congr 1
 rw[Bool.eq_iff_iff]
 obtain⟨n,p⟩:=x
 obtain⟨n',p'⟩:=y
 simp[Zca]
theorem Zxa{s t:Sl}{a b:List Node}{S T:Nat→Prop}{w:World}{R:Bool→World→Prop}(hs:SlR nodeE w S s a)(ht:SlR nodeE w T t b)(hR: ∀w',Ext w w'→R (decide (a=b)) w'):SE.Zdk s t w R:=by
 unfold SE.Zdk
 have h1:=hs.len
 have h2:=ht.len
 have hf: ¬a=b→ ∀w',Ext w w'→R false w':=λhne w' hx=>by
  have h3:=hR w' hx
  rw[decide_eq_false hne]at h3; exact h3
 refine newS.intro λp w1 x1 hp _ _=>newS.intro λq w2 x2 hq _ _=>⟨s,hp.at0 (r:=[]) x2 rfl,t,hq.at0 (r:=[]) xR rfl,λh=>hf (λe=>by subst e; omega) w2 (x1.trans x2),λh=>?_⟩
 have x02:=x1.trans x2
 have hll:a.length=b.length:=by
  have:=Classical.not_not.1 h
  omega
 refine loop1.up hs.max (λi w'=>Ext w2 w'∧a.take i=b.take i) ⟨Ext.refl _,rfl⟩ λi w3 nxt hi ⟨x3,hI⟩ hn=>⟨s,hp.at0 (r:=[]) (x2.trans x3) rfl,λhlt=>?_,λhge=>?_⟩
 ·have k1:i<a.length:=oM
  have k2:i<b.length:=oM
  have x03:=x02.trans x3
  obtain⟨ad,c,e,ha,hN,hc,he,hx⟩:=Zff hs k1
  obtain⟨ad2,c2,e2,ha2,hN2,hc2,he2,hx2⟩:=Zff ht k2
  have hcl:=hc.len; have hcl2:=hc2.len; have hel:=he.len; have hel2:=he2.len
  refine⟨s,hp.at0 (r:=[]) (x2.trans x3) rfl,ad,⟨ha,oM,hlt⟩,_,_,_,_,c,e,hx _ x03,newS.intro λa3 w4 x4 hb4 hab4 _=>stw0.intro hb4 sI λw5 b5 _ hb5=>?_⟩
  have x35:Ext w3 w5:=b5.ext x4 oM
  have x05:=x03.trans x35
  refine⟨t,hq.at0 (r:=[]) (x3.trans x35) rfl,ad2,⟨ha2,oM,oM⟩,_,_,_,_,c2,e2,hx2 _ x05,newS.intro λa6 w6 x6 hb6 hab6 _=>stw0.intro hb6 sI λw7 b7 _ hb7=>?_⟩
  have x57:Ext w5 w7:=b7.ext x6 oM
  have x07:=x05.trans x57
  have hb5:=hb5.ext x57
  have hab:a=b→a[i]=b[i]:=λh=>by subst h; rfl
  refine⟨_,hb5.at0 xR rfl,_,hb7.at0 xR rfl,bound ⟨_,_,_,λ_=>hb5.at1 (k:=1) xR rfl,_,_,_,λ_=>hb7.at1 (k:=1) xR rfl,bound ⟨c,λ_=>hb5.at1 (k:=4) xR rfl,c2,λ_=>hb7.at1 (k:=4) xR rfl,bound ⟨e,λ_=>hb5.at1 (k:=5) (r:=[]) xR rfl,e2,λ_=>hb7.at1 (k:=5) (r:=[]) xR rfl,?_⟩⟩⟩⟩
  have ev:((a[i].v.ma==b[i].v.ma)&&((a[i].v.mi==b[i].v.mi)&&((a[i].v.pa==b[i].v.pa)&&true)))=decide (a[i].v=b[i].v):=verB
  rw[ev]
  refine⟨λhbad=>hf (λhh=>?_) w7 x07,λhgood=>?_⟩
  ·have h3:=hab hh
   rw[h3]at hbad hcl hel
   have h4:(c.len:Int)=(c2.len:Int):=oM
   have h5:(e.len:Int)=(e2.len:Int):=oM
   simp[h4,h5]at hbad
   exact absurd (Zca.2 rfl) (by rw[hbad]; decide)
  ·simp only[Bool.or_eq_false_iff,Bool.not_eq_false',decide_eq_true_eq,beq_iff_eq]at hgood
   obtain⟨⟨⟨g1,g2⟩,g3⟩,g4⟩:=hgood
   have hnm:=Zca.1 g1
   have hcc:a[i].ctx.length=b[i].ctx.length:=oM
   have hee:a[i].edges.length=b[i].edges.length:=oM
   refine loop1.up hc.max (λj w'=>Ext w7 w'∧a[i].ctx.take j=b[i].ctx.take j) ⟨Ext.refl _,rfl⟩ λj w8 nxt2 hj ⟨x8,hJ⟩ hn2=>⟨c,hb5.at1 (k:=4) x8 rfl,λhlt2=>?_,λhge2=>?_⟩
   ·have j1:j<a[i].ctx.length:=oM
    have j2:j<b[i].ctx.length:=oM
    obtain⟨ap,hap,_,_,hcp⟩:=Zhz hc j1
    obtain⟨aq,haq,_,_,hcq⟩:=Zhz hc2 j2
    refine bnd.drew λw9 x9=>⟨c,hb5.at1 (k:=4) (x8.trans x9) rfl,ap,⟨hap,oM,oM⟩,_,_,_,_,hcp _ (x07.trans (x8.trans x9)),c2,hb7.at1 (k:=4) (x8.trans x9) rfl,aq,⟨haq,oM,oM⟩,_,_,_,_,hcq _ (x07.trans (x8.trans x9)),?_⟩
    rw[Z7g]
    refine⟨λhbad=>hf (λhh=>?_) w9 (x07.trans (x8.trans x9)),λhgood=>hn2 j1 _ ⟨x8.trans x9,Ziu j1 j2 hJ (by simpa using hgood)⟩⟩
    have h3:=hab hh
    have h4:a[i].ctx[j]=b[i].ctx[j]:=by simp only[h3]
    rw[decide_eq_true h4]at hbad; cases hbad
   ·have hjl:j=a[i].ctx.length:=oM
    rw[hjl,List.take_length,List.take_of_length_le oM]at hJ
    refine loop1.up he.max (λj w'=>Ext w7 w'∧a[i].edges.take j=b[i].edges.take j) ⟨x8,rfl⟩ λj w10 nxt3 hj ⟨x10,hK⟩ hn3=>⟨e,hb5.at1 (k:=5) (r:=[]) x10 rfl,λhlt3=>?_,λhge3=>?_⟩
    ·have j1:j<a[i].edges.length:=oM
     have j2:j<b[i].edges.length:=oM
     obtain⟨ap,hap,hcp⟩:=Z3t he j1
     obtain⟨aq,haq,hcq⟩:=Z3t he2 j2
     refine bnd.drew λw11 x11=>⟨e,hb5.at1 (k:=5) (r:=[]) (x10.trans x11) rfl,ap,⟨hap,oM,oM⟩,_,_,hcp _ (x07.trans (x10.trans x11)),e2,hb7.at1 (k:=5) (r:=[]) (x10.trans x11) rfl,aq,⟨haq,oM,oM⟩,_,_,hcq _ (x07.trans (x10.trans x11)),?_⟩
     rw[Z60]
     refine⟨λhbad=>hf (λhh=>?_) w11 (x07.trans (x10.trans x11)),λhgood=>hn3 j1 _ ⟨x10.trans x11,Ziu j1 j2 hK (by simpa using hgood)⟩⟩
     have h3:=hab hh
     have h4:a[i].edges[j]=b[i].edges[j]:=by simp only[h3]
     rw[decide_eq_true h4]at hbad; cases hbad
    ·have hjl:j=a[i].edges.length:=oM
     rw[hjl,List.take_length,List.take_of_length_le oM]at hK
     refine hn k1 w10 ⟨(x3.trans x35).trans (x57.trans x10),Ziu k1 k2 hI ?_⟩
     generalize a[i]=x at*
     generalize b[i]=y at*
     obtain⟨n1,v1,c1,e1⟩:=x
     obtain⟨n2,v2,c2,e2⟩:=y
     simp only at hnm g2 hJ hK
     rw[hnm,g2,hJ,hK]
 ·have:i=a.length:=oM
  subst this
  rw[List.take_length,List.take_of_length_le oM]at hI
  have h3:=hR w3 (x02.trans x3)
  rw[decide_eq_true hI]at h3; exact h3
end Go.Hal
namespace Go.Hal
open Go.Proofs.Tryz
end Go.Hal
namespace Go.Hal
open Go.Proofs.Tryz
end Go.Hal
namespace Go.Hal
open Go.Proofs.Tryz
open Go Go.RowKit Go.Proofs Go.Shelf
theorem newS.set{w:World}{zs cs:List Value}{t:TypeId}{k:Addr→World→Prop}(hl:cs.length=zs.length)(h: ∀a w',Ext w w'→BoxAt w' a cs→a.block=w.heap.size→k a w'):newS w zs t λa w1=>stw w1 a cs λw2=>k a w2:=
 newS.intro λa w1 x1 ha hab hsz=>stw0.intro ha oM λw2 b2 hz ha2=>h a w2 (b2.ext x1 oM) (by rw[hl,List.drop_length,List.append_nil]at ha2; exact ha2) hab
theorem loop1.from1{w:World}{body:Int→World→(Int→World→Prop)→Prop}{N:Nat}(hN:N≤maxLen)(I:Nat→World→Prop)(h0:I 1 w)
  (hs: ∀(n:Nat) w' (nxt:Int→World→Prop),1≤n→(n≤N∨n=1)→I n w'→(n<N→ ∀w'',I (n+1) w''→nxt (Za ((n:Int)+1)) w'')→body n w' nxt):loop1 1 w body:=
 loop1.ghost (λm i w'=>∃n:Nat,i=(n:Int)∧1≤n∧(n≤N∨n=1)∧m=N - n∧I n w') (N - 1) ⟨1,rfl,Nat.le_refl _,.inr rfl,rfl,h0⟩ λm i w' nxt ⟨n,hi,h1,h2,hm,hI⟩ hn=>by
  subst hi
  refine hs n w' nxt h1 h2 hI λhlt w'' hI'=>?_
  refine hn (N - (n+1)) _ w'' oM ⟨n+1,?_,oM,.inl hlt,rfl,hI'⟩
  rw[Zb]at hN
  rw[Zc oM oM]; omega
section
variable {S T:Nat→Prop} {w w' w2:World}
end
theorem Zmm{L:List Pack}(n:ByteArray):(Zd0 n L).length≤L.length:=by
 unfold Zd0
 rw[List.length_map]
 exact List.length_filter_le _ _
theorem r08Versions_se{n:ByteArray}{S:Nat→Prop}{q:Addr}{L:List Pack}{w:World}{R:Sl→World→Prop}(hC:RefR w S q L)
  (hR: ∀t w',Ext w w'→SlR verE w' (λb=>w.heap.size≤b∧b<w'.heap.size) t (Zd0 n L)→R t w'):SE.Zao (some q) n w R:=by
 unfold SE.Zao
 obtain⟨s,hb,hs⟩:=hC.at_
 have hl:=hs.len
 have hLl:=hC.good.le
 refine loop2.up hs.max (λout i w'=>Ext w w'∧OwnS verE 50 w' w.heap.size None' out (Zd0 n (L.take i))) ⟨Ext.refl _,OwnS.zero _⟩ λout i w1 nxt hi ⟨x1,own⟩ hn=>?_
 have hb1:=hb.ext x1
 refine⟨q,rfl,s,hb1.ldc.pre (r:=[]) rfl,λhlt=>?_,λhge=>?_⟩
 ·have hlt':i<L.length:=oM
  obtain⟨ad,d,e,o,hsa,_,hN,_,_,_,hc⟩:=Zp3 hs hlt'
  have hstep:Zd0 n (L.take (i+1))=Zd0 n (L.take i)++(if L[i].name=n then [L[i].v]else []):=by
   unfold Zd0
   rw[List.take_succ_eq_append_getElem hlt',List.filter_append,List.map_append,List.filter_cons]
   by_cases h:L[i].name=n<;>simp[hasN,h]
  refine join.named λJ hJ=>⟨q,rfl,s,hb1.ldc.pre (r:=[]) rfl,ad,⟨hsa,oM,hlt⟩,L[i].name,(hc _ x1).pre rfl,λh=>?_,λh=>?_⟩
  ·refine⟨q,rfl,s,hb1.ldc.pre (r:=[]) rfl,ad,⟨hsa,oM,hlt⟩,_,_,_,(hc _ x1).mid (k:=1) rfl,newS.intro λa w2 x2 hb2 ha2 _=> ?_⟩
   have s1:=x1.size
   have hvl:(Zd0 n (L.take i)).length≤128:=Nat.le_trans (Zmm n) (by rw[List.length_take]; omega)
   refine(own.ext x2).push Zwe (x1.trans x2).size (x:=L[i].v) (S':=None') (cs:=L[i].v.c) ⟨rfl,trivial⟩ (hb2.ldc.pre (r:=[]) rfl) (λ_ h=>h.elim) (λ_ _ h=>h.elim) (by have e:verE.bytes=24:=rfl; rw[e]; unfold room; omega) (by rw[Zb]; omega) λr w3 own3 bel _ _=> ?_
   subst hJ
   refine hn hlt' _ _ ⟨(x1.trans x2).trans' bel,?_⟩
   rw[hstep,if_pos h]
   exact own3.flat λh=>h
  ·subst hJ
   refine hn hlt' _ _ ⟨x1,?_⟩
   rw[hstep,if_neg h,List.append_nil]; exact own
 ·have:i=L.length:=oM
  rw[this,List.take_length]at own
  have hvl:(Zd0 n L).length≤128:=Nat.le_trans (Zmm n) hLl
  refine hR _ _ x1 ((own.read (by have e:verE.bytes=24:=rfl; rw[e]; unfold room; omega) (by rw[Zb]; omega)).mono λb hb=>?_)
  rcases hb with hb|⟨ad,ha,rfl⟩
  ·exact hb.elim
  ·have:=own.block ha; exact⟨this.1,this.2.1⟩
theorem loop3.up{α β:Type}{a:α}{b:β}{w:World}{body:α→β→Int→World→(α→β→Int→World→Prop)→Prop}{N:Nat}(hN:N≤maxLen)(I:α→β→Nat→World→Prop)(h0:I a b 0 w)
  (hs: ∀(a:α) (b:β) (n:Nat) w' (nxt:α→β→Int→World→Prop),n≤N→I a b n w'→(n<N→ ∀a' b' w'',I a' b' (n+1) w''→nxt a' b' (Za ((n:Int)+1)) w'')→body a b n w' nxt):loop3 a b 0 w body:=
 ⟨λa b i w'=>∃n:Nat,i=n∧n≤N∧I a b n w',λ_ _ i _=>N - i.toNat,⟨0,rfl,Nat.zero_le _,h0⟩,λa b i w' ⟨n,hi,hn,hI⟩=>by
  subst hi
  refine hs a b n w' _ hn hI λhlt a' b' w'' h=>?_
  rw[Zfg (n:=N) oM oM hN]
  exact⟨⟨n+1,oM,oM,h⟩,by show N - ((n:Int)+1).toNat<N - (n:Int).toNat; omega⟩⟩
theorem Zs1{s:Sl}{l:List Pin}{n:ByteArray}{v:Ver}{S:Nat→Prop}{w:World}{R:Bool→World→Prop}(hs:SlR pinE w S s l)(hR: ∀w',Ext w w'→R (pinB l n v) w'):SE.Zcr s n v.ma v.mi v.pa w R:=by
 unfold SE.Zcr
 have hl:=hs.len
 refine newS.intro λa w1 x1 ha _ _=>loop1.up hs.max (λi w'=>Ext w1 w'∧pinB (l.take i) n v=false) ⟨Ext.refl _,rfl⟩ λi w2 nxt hi ⟨x2,hI⟩ hn=>⟨λhlt=>bnd.drew λw3 x3=>?_,λhge=>?_⟩
 ·have hlt':i<l.length:=oM
  have x13:=x2.trans x3
  obtain⟨ad,hsa,_,_,hc⟩:=Zhz hs hlt'
  have hc3:=hc _ (x1.trans x13)
  refine⟨ad,⟨hsa,oM,hlt⟩,_,hc3.pre rfl,bound ⟨ad,λ_=>⟨hsa,oM,hlt⟩,_,_,_,λ_=>hc3.mid (k:=1) rfl,_,_,_,λ_=>BoxAt.at0 ha x13 rfl,?_⟩⟩
  have e:(bEq l[i].name n&&((l[i].v.ma==v.ma)&&((l[i].v.mi==v.mi)&&((l[i].v.pa==v.pa)&&true))))=decide (l[i]=⟨n,v⟩):=by
   rw[←Z32 l[i] ⟨n,v⟩]; simp only[Bool.and_true]
  rw[e]
  have hstep:pinB (l.take (i+1)) n v=(pinB (l.take i) n v||decide (l[i]=⟨n,v⟩)):=by
   rw[List.take_succ_eq_append_getElem hlt']
   unfold pinB
   rw[Bool.eq_iff_iff]
   simp only[List.mem_append,List.mem_singleton,Bool.or_eq_true,decide_eq_true_eq]
   exact or_congr Iff.rfl ⟨Eq.symm,Eq.symm⟩
  refine⟨λh=>?_,λh=>hn hlt' _ ⟨x13,by rw[hstep,hI,h]; rfl⟩⟩
  have:pinB l n v=true:=by
   unfold pinB
   rw[decide_eq_true_eq]at h ⊢
   rw[←h]; exact List.getElem_mem hlt'
  rw[←this]; exact hR _ (x1.trans x13)
 ·have:i=l.length:=oM
  rw[this,List.take_length]at hI
  rw[←hI]; exact hR _ (x1.trans x2)
theorem Zui{n:ByteArray}{l pins:Sl}{ll:List Span}{lp:List Pin}{S S1 S2:Nat→Prop}{q:Addr}{L:List Pack}{w:World}{R:Sl→World→Prop}(hC:RefR w S q L)(hl:SlR spanE w S1 l ll)(hp:SlR pinE w S2 pins lp)
  (hR: ∀t w',Ext w w'→SlR verE w' (λb=>w.heap.size≤b∧b<w'.heap.size) t (Znq L n ll lp)→R t w'):SE.Zag (some q) n l pins w R:=by
 unfold SE.Zag
 refine SE.Zao.go (r08Versions_se hC λt w1 x1 hT=>⟨_,rfl,?_⟩)
 have hLl:=hC.good.le
 have hvl:(Zd0 n L).length≤128:=Nat.le_trans (Zmm n) hLl
 have htl:=hT.len
 have eb:verE.bytes=24:=rfl
 have hcand:Znq L n ll lp=((Zd0 n L).filter (Z6 ll)).filter (pinB lp n)++((Zd0 n L).filter (Z6 ll)).filter λv=>!pinB lp n v:=rfl
 generalize hV:Zd0 n L=V at*
 have hb1: ∀i,(((V.take i).filter (Z6 ll)).filter (pinB lp n)).length≤128:=λi=>by
  have a:=List.length_filter_le (pinB lp n) ((V.take i).filter (Z6 ll)); have b:=List.length_filter_le (Z6 ll) (V.take i); have c:=List.length_take_le' i V; omega
 have hb2: ∀i,(((V.take i).filter (Z6 ll)).filter λv=>!pinB lp n v).length≤128:=λi=>by
  have a:=List.length_filter_le (λv=>!pinB lp n v) ((V.take i).filter (Z6 ll)); have b:=List.length_filter_le (Z6 ll) (V.take i); have c:=List.length_take_le' i V; omega
 refine loop3.up (N:=V.length) (by rw[Zb]; omega) (λfi ot i w'=>Ext w1 w'∧OwnS verE 50 w' w1.heap.size None' fi (((V.take i).filter (Z6 ll)).filter (pinB lp n))∧OwnS verE 50 w' w1.heap.size None' ot (((V.take i).filter (Z6 ll)).filter λv=>!pinB lp n v)∧Apart fi ot)
  ⟨Ext.refl _,OwnS.nil _ _,OwnS.nil _ _,λ_ _ h=>by cases h⟩ λfi ot i w2 nxt hi ⟨x2,o1,o2,hA⟩ hn=>⟨λhlt=>?_,λhge=>?_⟩
 ·have hlt':i<V.length:=oM
  have x02:=x1.trans x2
  obtain⟨ad,hta,_,_,hc⟩:=Z56 hT hlt'
  have hs1:((V.take (i+1)).filter (Z6 ll)).filter (pinB lp n)=((V.take i).filter (Z6 ll)).filter (pinB lp n)++(if Z6 ll V[i]&&pinB lp n V[i]then [V[i]]else []):=by
   rw[List.take_succ_eq_append_getElem hlt',List.filter_append,List.filter_append,List.filter_cons]
   cases h1:Z6 ll V[i]<;>cases h2:pinB lp n V[i]<;>simp[h2]
  have hs2:(((V.take (i+1)).filter (Z6 ll)).filter λv=>!pinB lp n v)=(((V.take i).filter (Z6 ll)).filter λv=>!pinB lp n v)++(if Z6 ll V[i]&& !pinB lp n V[i]then [V[i]]else []):=by
   rw[List.take_succ_eq_append_getElem hlt',List.filter_append,List.filter_append,List.filter_cons]
   cases h1:Z6 ll V[i]<;>cases h2:pinB lp n V[i]<;>simp[h2]
  have g1:=hb1 i; have g2:=hb2 i
  refine join.named λJ hJ=>⟨ad,⟨hta,oM,hlt⟩,_,_,_,hc _ x2,SE.Zcq.go (Zra (v:=V[i]) (hl.ext x02) λw3 x3=>⟨_,rfl,λh=>?_,λh=>?_⟩)⟩
  ·have h:Z6 ll V[i]=false:=by simpa using h
   subst hJ
   refine hn hlt' _ _ _ ⟨x2.trans x3,?_,?_,hA⟩
   ·rw[hs1,h]; simpa using o1.ext x3
   ·rw[hs2,h]; simpa using o2.ext x3
  ·have h:Z6 ll V[i]=true:=by simpa using h
   have x23:=x2.trans x3
   refine⟨ad,⟨hta,oM,hlt⟩,_,_,_,hc _ x23,SE.Zcr.go (Zs1 (v:=V[i]) (hp.ext (x02.trans x3)) λw4 x4=>⟨_,rfl,λhp'=>?_,λhp'=>?_⟩)⟩
   ·have x24:=x23.trans x4
    refine⟨ad,⟨hta,oM,hlt⟩,_,_,_,hc _ x24,newS.intro λa w5 x5 hb5 _ _=> ?_⟩
    have x25:=x3.trans (x4.trans x5)
    refine OwnS.pushA (x:=V[i]) (cs:=V[i].c) (o1.ext x25) (o2.ext x25) hA (x2.trans x25).size Zwe ⟨rfl,trivial⟩ (hb5.ldc.pre (r:=[]) rfl) (by rw[eb]; unfold room; omega) (by rw[Zb]; omega) λr w6 p1 p2 pA bel _ _=> ?_
    subst hJ
    refine hn hlt' _ _ _ ⟨(x2.trans x25).trans' bel,?_,?_,pA⟩
    ·rw[hs1,h,hp']; exact p1
    ·rw[hs2,h,hp']; simpa using p2
   ·have x24:=x23.trans x4
    refine⟨ad,⟨hta,oM,hlt⟩,_,_,_,hc _ x24,newS.intro λa w5 x5 hb5 _ _=> ?_⟩
    have x25:=x3.trans (x4.trans x5)
    refine OwnS.pushA (x:=V[i]) (cs:=V[i].c) (o2.ext x25) (o1.ext x25) hA.swap (x2.trans x25).size Zwe ⟨rfl,trivial⟩ (hb5.ldc.pre (r:=[]) rfl) (by rw[eb]; unfold room; omega) (by rw[Zb]; omega) λr w6 p2 p1 pA bel _ _=> ?_
    subst hJ
    refine hn hlt' _ _ _ ⟨(x2.trans x25).trans' bel,?_,?_,pA.swap⟩
    ·rw[hs1,h,hp']; simpa using p1
    ·rw[hs2,h,hp']; exact p2
 ·have:i=V.length:=oM
  rw[this,List.take_length]at o1 o2
  have g1:=hb1 V.length; have g2:=hb2 V.length
  rw[List.take_length]at g1 g2
  have hr2:=o2.read (by rw[eb]; unfold room; omega) (by rw[Zb]; omega)
  have x02:=x1.trans x2
  refine o1.appAll (S':=λb=>∃ad,ot.a=some ad∧b=ad.block) Zwe x2.size (hr2.mono λb hb=>hb.elim (λh=>h.elim) id) (λb ⟨ad,h1,h2⟩=>by have:=(o2.block h1).2.1; omega) (λad h1 ⟨ad2,h2,h3⟩=>hA _ _ h1 h2 h3) (by rw[eb]; unfold room; omega) (by rw[Zb]; omega) λr w3 o3 bel _ _=> ?_
  have o4:=o3.flat λh=>h
  rw[←hcand]at o4
  have s1:=x1.size
  refine hR _ _ (x1.trans (x2.trans' bel)) ((o4.read (by rw[hcand,List.length_append,eb]; unfold room; omega) (by rw[hcand,List.length_append,Zb]; omega)).mono λb hb=>?_)
  rcases hb with hb|⟨ad,ha,rfl⟩
  ·exact hb.elim
  ·have:=o4.block ha; exact⟨oM,this.2.1⟩
theorem Zof{s:Sl}{l:List Pin}{n:ByteArray}{S:Nat→Prop}{w:World}{R:Int→Int→Int→Bool→World→Prop}(hs:SlR pinE w S s l)
  (hsome: ∀v w',tells l n=some v→Ext w w'→R v.ma v.mi v.pa true w') (hnone: ∀w',tells l n=none→Ext w w'→R 0 0 0 false w'):SE.Zc2 s n w R:=by
 unfold SE.Zc2
 have hl:=hs.len
 refine newS.intro λa w1 x1 ha hab _=> ?_
 refine loop1.up hs.max (λi w'=>Ext w1 w'∧(l.take i).find? (isN n)=none) ⟨Ext.refl _,rfl⟩ λi w2 nxt hi ⟨x2,hI⟩ hn=>⟨λhlt=>?_,λhge=>?_⟩
 ·have hlt':i<l.length:=oM
  have x02:=x1.trans x2
  obtain⟨ad,hsa,_,hN,hc⟩:=Zhz hs hlt'
  refine⟨ad,⟨hsa,oM,hlt⟩,_,(hc _ x02).pre rfl,λhe=>?_,λhe=>?_⟩
  ·refine⟨ad,⟨hsa,oM,hlt⟩,l[i].v.ma,l[i].v.mi,l[i].v.pa,(hc _ x02).mid (k:=1) (r:=[]) rfl,stw0.intro (ha.ext x2) sI λw5 b5 _ hb5=>⟨_,_,_,hb5.at0 (r:=[]) xR rfl,?_⟩⟩
   have hf:=Zqx (p:=isN n) hlt' hI (by simp[isN,he])
   exact hsome l[i].v w5 (by unfold tells; rw[hf]; rfl) (b5.ext x02 oM)
  ·refine hn hlt' _ ⟨x2,?_⟩
   rw[Zgc hlt' hI,if_neg (by simp[isN,he])]
 ·have:i=l.length:=oM
  rw[this,List.take_length]at hI
  refine stw0.intro (ha.ext x2) sI λw3 b3 _ hb3=>⟨_,_,_,hb3.at0 (r:=[]) xR rfl,hnone w3 (by unfold tells; rw[hI]; rfl) (b3.ext (x1.trans x2) oM)⟩
theorem Zp6{s:Sl}{l:List Pin}{n:ByteArray}{S:Nat→Prop}{w:World}{R:Int→Int→Int→Bool→World→Prop}(hs:SlR pinE w S s l)
  (hsome: ∀v w',tells l n=some v→Ext w w'→R v.ma v.mi v.pa true w') (hnone: ∀w',tells l n=none→Ext w w'→R 0 0 0 false w'):SE.Zdm s n w R:=Zof hs hsome hnone
theorem Zy8{s:Sl}{L:List Pin}{p:Pin}{i:Nat}{a:Addr}{w:World}{S:Nat→Prop}{K:Sl→World→Prop}(hS:Old S w)(hs:SlR pinE w S s L)(hi:i≤L.length)(ha:BoxAt w a (pinC p))(hN:Str p.name)(hb:L.length≤3000000000000)
  (hK: ∀t w',Ext w w'→SlR pinE w' (λb=>w.heap.size≤b∧b<w'.heap.size) t (L.take i++p::L.drop i)→K t w'):
  ((0:Int)≤(i:Int)∧(i:Int)≤(s.cap:Int))∧appS prog 26 26 Sl.nil (Sl.v (Sl.cut s 0 (i:Int).toNat 4)) w λt42 vw12=>∃(n:ByteArray) (x y z:Int),(ldc vw12 a [(Value.string n),(Value.int .i64 x),(Value.int .i64 y),(Value.int .i64 z)])∧newS vw12 [(Value.string n),(Value.int .i64 x),(Value.int .i64 y),(Value.int .i64 z)] 78 λa14 vw15=>
   appS prog 26 26 t42 (Sl.v (Sl.mk (some a14) 1 1)) vw15 λt46 vw16=>((0:Int)≤(i:Int)∧(i:Int)≤(s.len:Int))∧appS prog 26 26 t46 (Sl.v (Sl.cut s (i:Int).toNat s.len 4)) vw16 λt51 vw18=>K t51 vw18:=by
 have hl:=hs.len
 have hcap:L.length≤s.cap:=hs.2.1
 have eb:pinE.bytes=40:=rfl
 refine⟨oM,?_⟩
 have hc1:SlR pinE w S (Sl.cut s 0 i 4) ((L.take i).drop 0):=hs.cut (Nat.zero_le _) hi
 rw[List.drop_zero]at hc1
 have hc2:SlR pinE w S (Sl.cut s i s.len 4) ((L.take s.len).drop i):=hs.cut oM oM
 rw[hl,List.take_length]at hc2
 have htl:(L.take i).length=i:=by rw[List.length_take]; omega
 have hdl:(L.drop i).length=L.length - i:=List.length_drop
 rw[Int.toNat_natCast,hl]
 have fresh: ∀{s':Sl} {l':List Pin} {w':World},OwnS pinE 78 w' w.heap.size None' s' l'→ ∀ad,s'.a=some ad→ ¬S ad.block:=λo ad h hSb=>by
  have:=(o.block h).1; have:=hS _ hSb; omega
 refine(OwnS.zero (E:=pinE) (T:=78) w).appAll Zoz nR hc1 hS (λad h=>by cases h) (by rw[htl,eb]; simp; unfold room; omega) (by rw[htl,Zb]; simp; omega) λr1 w1 o1 bel1 _ _=> ?_
 have x1:Ext w w1:=(Ext.refl w).trans' bel1
 rw[List.nil_append]at o1
 have o1:=OwnS.flat (λh=>h) o1
 refine⟨_,_,_,_,(ha.ext x1).ldc.pre (r:=[]) rfl,newS.intro λa2 w2 x2 hb2 _ _=> ?_⟩
 refine(o1.ext x2).push Zoz (x1.trans x2).size (x:=p) (S':=None') ⟨rfl,hN⟩ (hb2.ldc.pre (r:=[]) rfl) (λ_ h=>h.elim) (λ_ _ h=>h.elim) (by rw[htl,eb]; unfold room; omega) (by rw[htl,Zb]; omega) λr2 w3 o2 bel2 _ _=> ?_
 have o2:=OwnS.flat (λh=>h) o2
 have x3:Ext w w3:=(x1.trans x2).trans' bel2
 refine⟨oM,o2.appAll Zoz x3.size (hc2.ext x3) (hS.ext x3.size) (fresh o2) (by rw[List.length_append,htl,hdl,eb,List.length_singleton]; unfold room; omega) (by rw[List.length_append,htl,hdl,Zb,List.length_singleton]; omega) λr3 w4 o3 bel3 _ _=> ?_⟩
 have o3:=OwnS.flat (λh=>h) o3
 have x4:Ext w w4:=x3.trans' bel3
 rw[List.append_assoc,List.singleton_append]at o3
 have hlen:(L.take i++p::L.drop i).length=L.length+1:=by rw[List.length_append,List.length_cons,htl,hdl]; omega
 refine hK r3 w4 x4 ((o3.read (by rw[hlen,eb]; unfold room; omega) (by rw[hlen,Zb]; omega)).mono λb hb=>?_)
 rcases hb with hb|⟨ad,had,rfl⟩
 ·exact hb.elim
 ·have:=o3.block had; exact⟨this.1,this.2.1⟩
theorem Zu7{L:List Pin}{n:ByteArray}{i:Nat}(hi:i<L.length)(h: ∀k (h:k<L.length),k<i→bLt L[k].name n=true)(h1:bLt L[i].name n=true): ∀k (h:k<L.length),k<i+1→bLt L[k].name n=true:=λk hk hki=>by
 rcases Nat.lt_succ_iff_lt_or_eq.1 hki with h2|h2
 ·exact h k hk h2
 ·subst h2; exact h1
theorem Z57{s:Sl}{e:List Pin}{p:Pin}{S:Nat→Prop}{w:World}{R:Sl→World→Prop}(hS:Old S w)(hs:SlR pinE w S s (Zaw e))(hn:(e.map (·.name)).Nodup)(hN:Str p.name)(hb:e.length≤1000000000000)
  (hR: ∀t w',Ext w w'→SlR pinE w' (λb=>S b∨(w.heap.size≤b∧b<w'.heap.size)) t (Zaw (addO e p.name (some p.v)))→R t w'):SE.Zdn s p.name p.v.ma p.v.mi p.v.pa w R:=by
 unfold SE.Zdn
 have hl:=hs.len
 have hle:(Zaw e).length=e.length:=(Zbk e).length_eq
 refine newS.intro λa w1 x1 ha hab _=> ?_
 refine loop1.up hs.max (λi w'=>Ext w1 w'∧ ∀k (h:k<(Zaw e).length),k<i→bLt (Zaw e)[k].name p.name=true) ⟨Ext.refl _,λk _ h=>by omega⟩ λi w2 nxt hi ⟨x2,hI⟩ hn'=>bnd.drew λw3 x3=>bound ?_
 have x13:=x2.trans x3
 have fin: ∀w',Ext w1 w'→AtN (Zaw e) p.name i→bnd w'.drew λ(vw5:World)=>bnd (decide ((i:Int)<(s.len:Int))) λ(b6:Bool)=>∃(ad7:Addr),grd b6 (s.a=some ad7∧(0:Int)≤(i:Int)∧(i:Int)<(s.len:Int))∧ ∃(t32:ByteArray),grd b6 (ldc vw5 (ad7.add ((i:Int).toNat*4)) [(Value.string t32)])∧ ∃(t34:ByteArray),grd b6 (ldc vw5 a [(Value.string t34)])∧(((b6&&(bEq t32 t34))=true→R s vw5)∧((b6&&(bEq t32 t34))=false→((0:Int)≤(i:Int)∧(i:Int)≤(s.cap:Int))∧appS prog 26 26 Sl.nil (Sl.v (Sl.cut s 0 (i:Int).toNat 4)) vw5 λt42 vw12=>∃(t44_Name:ByteArray) (t44_Version_Major:Int) (t44_Version_Minor:Int) (t44_Version_Patch:Int),(ldc vw12 a [(Value.string t44_Name),(Value.int .i64 t44_Version_Major),(Value.int .i64 t44_Version_Minor),(Value.int .i64 t44_Version_Patch)])∧newS vw12 [(Value.string t44_Name),(Value.int .i64 t44_Version_Major),(Value.int .i64 t44_Version_Minor),(Value.int .i64 t44_Version_Patch)] 78 λa14 vw15=>appS prog 26 26 t42 (Sl.v (Sl.mk (some a14) 1 1)) vw15 λt46 vw16=>((0:Int)≤(i:Int)∧(i:Int)≤(s.len:Int))∧appS prog 26 26 t46 (Sl.v (Sl.cut s (i:Int).toNat s.len 4)) vw16 λt51 vw18=>R t51 vw18)):=by
  intro w' hx hA
  refine bnd.drew λw4 x4=>bound ?_
  have x14:=hx.trans x4
  have x04:=x1.trans x14
  have s04:=x04.size
  have new:(∀h:i<(Zaw e).length,(Zaw e)[i].name≠p.name)→((0:Int)≤(i:Int)∧(i:Int)≤(s.cap:Int))∧appS prog 26 26 Sl.nil (Sl.v (Sl.cut s 0 (i:Int).toNat 4)) w4 λt42 vw12=>∃(t44_Name:ByteArray) (t44_Version_Major:Int) (t44_Version_Minor:Int) (t44_Version_Patch:Int),(ldc vw12 a [(Value.string t44_Name),(Value.int .i64 t44_Version_Major),(Value.int .i64 t44_Version_Minor),(Value.int .i64 t44_Version_Patch)])∧newS vw12 [(Value.string t44_Name),(Value.int .i64 t44_Version_Major),(Value.int .i64 t44_Version_Minor),(Value.int .i64 t44_Version_Patch)] 78 λa14 vw15=>appS prog 26 26 t42 (Sl.v (Sl.mk (some a14) 1 1)) vw15 λt46 vw16=>((0:Int)≤(i:Int)∧(i:Int)≤(s.len:Int))∧appS prog 26 26 t46 (Sl.v (Sl.cut s (i:Int).toNat s.len 4)) vw16 λt51 vw18=>R t51 vw18:=λhne=>
   Zy8 (p:=p) (hS.ext s04) (hs.ext x04) hA.le (ha.ext x14) hN oM λt w5 x5 ht=>by
    rw[(Zwb hn hA hne).1]at ht
    exact hR t w5 (x04.trans x5) (ht.mono λb hb=>.inr ⟨oM,hb.2⟩)
  by_cases hlt:i<(Zaw e).length
  ·obtain⟨ad,hsa,_,_,hc⟩:=Zhz hs hlt
   refine⟨ad,λ_=>⟨hsa,oM,oM⟩,_,λ_=>(hc _ x04).pre rfl,_,λ_=>ha.at0 x14 rfl,λhq=>?_,λhq=>new λ_ he=>?_⟩
   ·rw[Bool.and_eq_true,Zca]at hq
    have:=(Zwc (p:=p) hlt hq.2).1
    have h2:=hR s w4 x04 (by rw[this]; exact(hs.ext x04).mono λb hb=>.inl hb)
    exact h2
   ·rw[decide_eq_true (by omega:(i:Int)<(s.len:Int)),Zca.2 he]at hq; cases hq
  ·have hd:decide ((i:Int)<(s.len:Int))=false:=decide_eq_false oM
   rw[hd]
   exact⟨⟨0,0,none⟩,nO,⟨#[]⟩,nO,⟨#[]⟩,nO,nO,λ_=>new λh=>absurd h hlt⟩
 by_cases hlt:i<(Zaw e).length
 ·have hd:decide ((i:Int)<(s.len:Int))=true:=decide_eq_true oM
  rw[hd]at fin ⊢
  obtain⟨ad,hsa,_,hst,hc⟩:=Zhz hs hlt
  refine⟨ad,λ_=>⟨hsa,oM,oM⟩,_,λ_=>(hc _ (x1.trans x13)).pre rfl,_,λ_=>ha.at0 x13 rfl,?_⟩
  refine gCall.intro (bLt (Zaw e)[i].name p.name) (λ_ k hk=>SE.Zbt.go (r05less_se hst λw' hx=>⟨_,rfl,hk w' hx⟩)) λt19 w4 x4 ht=>?_
  rw[ht rfl]
  refine⟨λhq=>hn' hlt w4 ⟨x13.trans x4,Zu7 hlt hI (by simpa using hq)⟩,λhq=>?_⟩
  exact fin w4 (x13.trans x4) ⟨hi,hI,λ_=>by simpa using hq⟩
 ·have hd:decide ((i:Int)<(s.len:Int))=false:=decide_eq_false oM
  rw[hd]at fin ⊢
  refine⟨⟨0,0,none⟩,nO,⟨#[]⟩,nO,⟨#[]⟩,nO,?_⟩
  refine gCall.intro false nO λt19 w4 x4 _=> ?_
  exact⟨nO,λ_=>fin w4 (x13.trans x4) ⟨hi,hI,λh=>absurd h hlt⟩⟩
theorem Zxb{s t:Sl}{a b:List Pin}{S T:Nat→Prop}{w:World}{R:Bool→World→Prop}(hs:SlR pinE w S s a)(ht:SlR pinE w T t b)(hR: ∀w',Ext w w'→R (decide (a=b)) w'):SE.Zdl s t w R:=by
 unfold SE.Zdl
 have h1:=hs.len
 have h2:=ht.len
 refine⟨λh=>?_,λh=>?_⟩
 ·have: ¬a=b:=λe=>by subst e; omega
  have h3:=hR w xR
  rw[decide_eq_false this]at h3; exact h3
 have hll:a.length=b.length:=by
  have:=Classical.not_not.1 h
  omega
 refine loop1.up hs.max (λi w'=>Ext w w'∧a.take i=b.take i) ⟨Ext.refl _,rfl⟩ λi w1 nxt hi ⟨x1,hI⟩ hn=>⟨λhlt=>bnd.drew λw2 x2=>?_,λhge=>?_⟩
 ·have k1:i<a.length:=oM
  have k2:i<b.length:=oM
  obtain⟨ad,ha,_,_,hc⟩:=Zhz hs k1
  obtain⟨ad2,ha2,_,_,hc2⟩:=Zhz ht k2
  refine⟨ad,⟨ha,oM,hlt⟩,_,_,_,_,hc _ (x1.trans x2),ad2,⟨ha2,oM,oM⟩,_,_,_,_,hc2 _ (x1.trans x2),?_⟩
  rw[Z7g]
  refine⟨λh=>?_,λh=>?_⟩
  ·have hne: ¬a=b:=λe=>by subst e; simp at h
   have h3:=hR w2 (x1.trans x2)
   rw[decide_eq_false hne]at h3; exact h3
  ·exact hn k1 _ ⟨x1.trans x2,Ziu k1 k2 hI (by simpa using h)⟩
 ·have:i=a.length:=oM
  subst this
  rw[List.take_length,List.take_of_length_le oM]at hI
  have h3:=hR w1 x1
  rw[decide_eq_true hI]at h3; exact h3
theorem Z2r{s t:Sl}{ns:List Node}{p:Pin}{l:List Pin}{S T:Nat→Prop}{w:World}{R:Int→World→Prop}(hs:SlR nodeE w S s ns)(ht:SlR pinE w T t l)(h0:1≤ns.length)
  (hR: ∀(i:Nat) w',Ext w w'→PlaceAt ns (p.name,p.v,l) i→R (i:Int) w'):SE.Zc3 s p.name p.v.ma p.v.mi p.v.pa t w R:=by
 unfold SE.Zc3
 have hl:=hs.len
 refine newS.intro λa w1 x1 ha hab _=> ?_
 refine loop1.from1 hs.max (λi w'=>Ext w1 w'∧ ∀j (h:j<ns.length),1≤j→j<i→ns[j].key≠(p.name,p.v,l)) ⟨Ext.refl _,λj _ h1 h2=>by omega⟩ λi w2 nxt h1 hi ⟨x2,hI⟩ hn=>⟨λhlt=>bnd.drew λw3 x3=>?_,λhge=>?_⟩
 ·have hlt':i<ns.length:=oM
  obtain⟨ad,c,e,hsa,_,hcx,_,hc⟩:=Zff hs hlt'
  have x13:=x2.trans x3
  have x03:=x1.trans x13
  have ek:decide (ns[i].key=(p.name,p.v,l))=(bEq ns[i].name p.name&&decide (ns[i].v=p.v)&&decide (ns[i].ctx=l)):=by
   rw[Bool.eq_iff_iff]
   simp only[Node.key,decide_eq_true_eq,Prod.mk.injEq,Bool.and_eq_true,Zca]
   exact⟨λ⟨a,b,c⟩=>⟨⟨a,b⟩,c⟩,λ⟨⟨a,b⟩,c⟩=>⟨a,b,c⟩⟩
  refine⟨ad,⟨hsa,oM,hlt⟩,_,(hc _ x03).pre rfl,_,ha.at0 x13 rfl,bound ⟨ad,λ_=>⟨hsa,oM,hlt⟩,_,_,_,λ_=>(hc _ x03).mid (k:=1) rfl,_,_,_,λ_=>ha.at1 (k:=1) (r:=[]) x13 rfl,bound ?_⟩⟩
  have ev:((ns[i].v.ma==p.v.ma)&&((ns[i].v.mi==p.v.mi)&&((ns[i].v.pa==p.v.pa)&&true)))=decide (ns[i].v=p.v):=verB
  rw[ev]
  refine⟨ad,λ_=>⟨hsa,oM,hlt⟩,c,λ_=>(hc _ x03).mid (k:=4) rfl,?_⟩
  refine gCall.intro (decide (ns[i].ctx=l)) (λ_ k hk=>SE.Zdl.go (Zxb (hcx.ext x03) (ht.ext x03) λw' hx=>⟨_,rfl,hk w' hx⟩)) λt39 w4 x4 ht39=>?_
  have e39:(bEq ns[i].name p.name&&decide (ns[i].v=p.v)&&t39)=decide (ns[i].key=(p.name,p.v,l)):=by
   rw[ek]
   cases hg:(bEq ns[i].name p.name&&decide (ns[i].v=p.v))
   ·rfl
   ·rw[ht39 hg]
  rw[e39]
  refine⟨λhq=>hR i w4 (x03.trans x4) ⟨h1,oM,hI,λ_=>of_decide_eq_true hq⟩,λhq=>hn hlt' w4 ⟨x13.trans x4,λj hj j1 j2=>?_⟩⟩
  rcases Nat.lt_succ_iff_lt_or_eq.1 j2 with h2|h2
  ·exact hI j hj j1 h2
  ·subst h2; exact of_decide_eq_false hq
 ·have hge':ns.length≤i:=oM
  rw[hl]
  exact hR ns.length w2 (x1.trans x2) ⟨h0,Nat.le_refl _,λj hj j1 _=>hI j hj j1 oM,λh=>absurd h (Nat.lt_irrefl _)⟩
theorem Zzv{s:Sl}{e:List Pin}{p:Pin}{S:Nat→Prop}{w:World}{R:Sl→Bool→World→Prop}(hS:Old S w)(hs:SlR pinE w S s (Zaw e))(hn:(e.map (·.name)).Nodup)(hN:Str p.name)(hb:e.length≤1000000000000)
  (hold: ∀w',Ext w w'→e.any (isN p.name)=true→R s false w') (hnew: ∀t w',Ext w w'→e.any (isN p.name)=false→SlR pinE w' (λb=>w.heap.size≤b∧b<w'.heap.size) t (Zaw (e++ [p]))→R t true w'):SE.Zct s p.name p.v.ma p.v.mi p.v.pa w R:=by
 unfold SE.Zct
 have hl:=hs.len
 have hle:(Zaw e).length=e.length:=(Zbk e).length_eq
 refine newS.intro λa w1 x1 ha hab _=> ?_
 refine loop1.up hs.max (λi w'=>Ext w1 w'∧ ∀k (h:k<(Zaw e).length),k<i→bLt (Zaw e)[k].name p.name=true) ⟨Ext.refl _,λk _ h=>by omega⟩ λi w2 nxt hi ⟨x2,hI⟩ hn'=>bnd.drew λw3 x3=>bound ?_
 have x13:=x2.trans x3
 have fin: ∀w',Ext w1 w'→AtN (Zaw e) p.name i→bnd w'.drew λ(vw5:World)=>bnd (decide ((i:Int)<(s.len:Int))) λ(b6:Bool)=>∃(ad7:Addr),grd b6 (s.a=some ad7∧(0:Int)≤(i:Int)∧(i:Int)<(s.len:Int))∧ ∃(t32:ByteArray),grd b6 (ldc vw5 (ad7.add ((i:Int).toNat*4)) [(Value.string t32)])∧ ∃(t34:ByteArray),grd b6 (ldc vw5 a [(Value.string t34)])∧(((b6&&(bEq t32 t34))=true→R s false vw5)∧((b6&&(bEq t32 t34))=false→((0:Int)≤(i:Int)∧(i:Int)≤(s.cap:Int))∧appS prog 26 26 Sl.nil (Sl.v (Sl.cut s 0 (i:Int).toNat 4)) vw5 λt42 vw12=>∃(t44_Name:ByteArray) (t44_Version_Major:Int) (t44_Version_Minor:Int) (t44_Version_Patch:Int),(ldc vw12 a [(Value.string t44_Name),(Value.int .i64 t44_Version_Major),(Value.int .i64 t44_Version_Minor),(Value.int .i64 t44_Version_Patch)])∧newS vw12 [(Value.string t44_Name),(Value.int .i64 t44_Version_Major),(Value.int .i64 t44_Version_Minor),(Value.int .i64 t44_Version_Patch)] 78 λa14 vw15=>appS prog 26 26 t42 (Sl.v (Sl.mk (some a14) 1 1)) vw15 λt46 vw16=>((0:Int)≤(i:Int)∧(i:Int)≤(s.len:Int))∧appS prog 26 26 t46 (Sl.v (Sl.cut s (i:Int).toNat s.len 4)) vw16 λt51 vw18=>R t51 true vw18)):=by
  intro w' hx hA
  refine bnd.drew λw4 x4=>bound ?_
  have x14:=hx.trans x4
  have x04:=x1.trans x14
  have s04:=x04.size
  have new:(∀h:i<(Zaw e).length,(Zaw e)[i].name≠p.name)→((0:Int)≤(i:Int)∧(i:Int)≤(s.cap:Int))∧appS prog 26 26 Sl.nil (Sl.v (Sl.cut s 0 (i:Int).toNat 4)) w4 λt42 vw12=>∃(t44_Name:ByteArray) (t44_Version_Major:Int) (t44_Version_Minor:Int) (t44_Version_Patch:Int),(ldc vw12 a [(Value.string t44_Name),(Value.int .i64 t44_Version_Major),(Value.int .i64 t44_Version_Minor),(Value.int .i64 t44_Version_Patch)])∧newS vw12 [(Value.string t44_Name),(Value.int .i64 t44_Version_Major),(Value.int .i64 t44_Version_Minor),(Value.int .i64 t44_Version_Patch)] 78 λa14 vw15=>appS prog 26 26 t42 (Sl.v (Sl.mk (some a14) 1 1)) vw15 λt46 vw16=>((0:Int)≤(i:Int)∧(i:Int)≤(s.len:Int))∧appS prog 26 26 t46 (Sl.v (Sl.cut s (i:Int).toNat s.len 4)) vw16 λt51 vw18=>R t51 true vw18:=λhne=>
   Zy8 (p:=p) (hS.ext s04) (hs.ext x04) hA.le (ha.ext x14) hN oM λt w5 x5 ht=>by
    obtain⟨q1,q2,q3⟩:=Zwb hn hA hne
    rw[q1,q2]at ht
    exact hnew t w5 (x04.trans x5) q3 (ht.mono λb hb=>⟨oM,hb.2⟩)
  by_cases hlt:i<(Zaw e).length
  ·obtain⟨ad,hsa,_,_,hc⟩:=Zhz hs hlt
   refine⟨ad,λ_=>⟨hsa,oM,oM⟩,_,λ_=>(hc _ x04).pre rfl,_,λ_=>ha.at0 x14 rfl,λhq=>?_,λhq=>new λ_ he=>?_⟩
   ·rw[Bool.and_eq_true,Zca]at hq
    exact hold w4 x04 (Zwc (p:=p) hlt hq.2).2
   ·rw[decide_eq_true (by omega:(i:Int)<(s.len:Int)),Zca.2 he]at hq; cases hq
  ·have hd:decide ((i:Int)<(s.len:Int))=false:=decide_eq_false oM
   rw[hd]
   exact⟨⟨0,0,none⟩,nO,⟨#[]⟩,nO,⟨#[]⟩,nO,nO,λ_=>new λh=>absurd h hlt⟩
 by_cases hlt:i<(Zaw e).length
 ·have hd:decide ((i:Int)<(s.len:Int))=true:=decide_eq_true oM
  rw[hd]at fin ⊢
  obtain⟨ad,hsa,_,hst,hc⟩:=Zhz hs hlt
  refine⟨ad,λ_=>⟨hsa,oM,oM⟩,_,λ_=>(hc _ (x1.trans x13)).pre rfl,_,λ_=>ha.at0 x13 rfl,?_⟩
  refine gCall.intro (bLt (Zaw e)[i].name p.name) (λ_ k hk=>SE.Zbt.go (r05less_se hst λw' hx=>⟨_,rfl,hk w' hx⟩)) λt19 w4 x4 ht=>?_
  rw[ht rfl]
  refine⟨λhq=>hn' hlt w4 ⟨x13.trans x4,Zu7 hlt hI (by simpa using hq)⟩,λhq=>?_⟩
  exact fin w4 (x13.trans x4) ⟨hi,hI,λ_=>by simpa using hq⟩
 ·have hd:decide ((i:Int)<(s.len:Int))=false:=decide_eq_false oM
  rw[hd]at fin ⊢
  refine⟨⟨0,0,none⟩,nO,⟨#[]⟩,nO,⟨#[]⟩,nO,?_⟩
  refine gCall.intro false nO λt19 w4 x4 _=> ?_
  exact⟨nO,λ_=>fin w4 (x13.trans x4) ⟨hi,hI,λh=>absurd h hlt⟩⟩
theorem Z1o{w:World}{S:Nat→Prop}{s:Sl}{l:List Dep}(h:SlR depE w S s l):SlR depE w (λb=>S b∧b<w.heap.size) s l:=by
 obtain⟨h1,h2,h3,h4,h5⟩:=h
 refine⟨h1,h2,h3,h4,?_⟩
 rcases h5 with h0|⟨ad,ha,hs,hel⟩
 ·exact .inl h0
 ·rcases Nat.eq_zero_or_pos l.length with h0|h0
  ·exact .inl (List.eq_nil_of_length_eq_zero h0)
  ·refine .inr ⟨ad,ha,⟨hs,?_⟩,λi x hx=>?_⟩
   ·obtain⟨cs,⟨_,t,rfl,_⟩,hl⟩:=hel 0 l[0] (List.getElem?_eq_getElem h0)
    have:=World.block_lt_of_cell? w _ (hl 0 _ rfl)
    rwa [Ze5,Ze5]at this
   ·obtain⟨cs,⟨k0,t,rfl,k1⟩,hl⟩:=hel i x hx
    exact⟨_,⟨k0,t,rfl,k1.bound (λh=>h) dC⟩,hl⟩
theorem Zrb{SC SM SE3:Nat→Prop}{c:Addr}{L:List Pack}{mD mDev mOpt mOv envS:Sl}{over:List Dep}{env:List Pin}{pn:Pin}{w:World}{R:Sl→Bool→World→Prop}(hC:RefR w SC c L)(hSM:Old SM w)(hSE:Old SE3 w)
  (hO:SlR depE w SM mOv over) (hE:SlR pinE w SE3 envS env) (hpn:Str pn.name)
  (hsome: ∀a t w',Zdg L over env pn=some a→Ext w w'→SlR pinE w' (λb=>w.heap.size≤b∧b<w'.heap.size) t a→R t true w')
  (hnone: ∀w',Zdg L over env pn=none→Ext w w'→R Sl.nil false w'):SE.Zch (some c) mD mDev mOpt mOv envS pn.name pn.v.ma pn.v.mi pn.v.pa w R:=by
 unfold SE.Zch
 have hG:=hC.good
 have hel:=hE.len
 refine newS.intro λa w1 x1 ha hab _=>newS.intro λa1 w2 x2 ha1 hab1 _=>⟨_,_,_,_,ha1.ldc.pre (r:=[]) rfl,newS.intro λa3 w3 x3 hb3 hab3 _=> ?_⟩
 have x12:=x2.trans x3
 have x03:=x1.trans x12
 have hgo0: ∀o,Zic (getL L) over env pn (env.length+2) 0 []=o→Zdg L over env pn=o.map Zaw:=λo h=>by
  show ctx (getL L) over env pn=_
  unfold ctx; rw[h]
 have start:SlR pinE w3 (λb=>w.heap.size≤b∧b<w3.heap.size) ⟨some a3,1,1⟩ ((pn:: []).drop 0):=by
  have:=Zjj (E:=pinE) (S:=None') (x:=pn) hb3 ⟨rfl,hpn⟩ dC
  have s0:=(x1.trans x2).size
  have l3:=hb3.lt
  exact this.mono λb hb=>by
   rcases hb with hb|rfl
   ·exact hb.elim
   ·exact⟨oM,l3⟩
 refine loop2.ghost (λf so rs w'=>∃(i:Nat) (out:List Pin),Ext w1 w'∧SlR pinE w' (λb=>w.heap.size≤b∧b<w'.heap.size) so (Zaw out)∧SlR pinE w' (λb=>w.heap.size≤b∧b<w'.heap.size) rs ((pn::out).drop i)∧CtxI (getL L) over env pn i out∧Zic (getL L) over env pn f i out=Zic (getL L) over env pn (env.length+2) 0 []∧env.length+2≤f+i)
  (env.length+2) ⟨0,[],x12,SlR.nil trivial,start,CtxI.zero,rfl,oM⟩ λf so rs w4 nxt ⟨i,out,x4,hso,hrs,hI,hgo,hf⟩ hnx=>?_
 have hrl:=hrs.len
 rw[List.length_drop,List.length_cons]at hrl
 have hil:=hI.le
 have hol:=hI.len
 have hbnd:=Znv hG hI
 obtain⟨f,rfl⟩: ∃f',f=f'+1:=⟨f - 1,oM⟩
 have x04:=x1.trans x4
 refine⟨λhlt=>join.named λJ hJ=>bnd.drew λw5 x5=>?_,λhge=>?_⟩
 ·have hi:i<(pn::out).length:=by rw[List.length_cons]; omega
  have hq:(pn::out)[i]? =some (pn::out)[i]:=List.getElem?_eq_getElem hi
  have hd:(pn::out).drop i=(pn::out)[i]::out.drop i:=by
   rw[List.drop_eq_getElem_cons hi]; rfl
  generalize (pn::out)[i]=q at hq hd
  rw[hd]at hrs
  obtain⟨ar,har,_,hqs,hcr⟩:=Zhz hrs (n:=0) sI
  have hcr: ∀w',Ext w4 w'→ldc w' (ar.add (0*4)) (pinC q):=hcr
  have x05:=x04.trans x5
  have x15:=x4.trans x5
  have e0:((0:Int)).toNat=0:=rfl
  refine⟨ar,⟨har,oM,hlt⟩,q.name,(hcr _ x5).pre rfl,ar,⟨har,oM,hlt⟩,q.v.ma,q.v.mi,q.v.pa,(hcr _ x5).mid (k:=1) (r:=[]) rfl,?_⟩
  have key: ∀(x:Addr) (d e o:Sl) (w6:World),Ext w5 w6→BoxAt w6 x [.string (getD L q.name q.v).name,.int .i64 (getD L q.name q.v).v.ma,.int .i64 (getD L q.name q.v).v.mi,.int .i64 (getD L q.name q.v).v.pa,d.v,e.v,o.v]→
    SlR depE w6 SC e (getD L q.name q.v).peers→J x (getL L q.name q.v).isSome w6:=by
   subst hJ
   intro x d e o w6 x6 hbx hpe
   have x06:=x05.trans x6
   have x46:=x5.trans x6
   cases hget:getL L q.name q.v with
   |none=>
    refine⟨λ_=>hnone w6 ?_ x06,nO⟩
    rw[hgo0 none (by rw[←hgo]; exact Zpl hq hget)]; rfl
   |some y=>
    have hD:getD L q.name q.v=y:=by unfold getD; rw[hget]; rfl
    rw[hD]at hbx hpe
    have hrs6:SlR pinE w6 (λb=>w.heap.size≤b∧b<w6.heap.size) rs (q::out.drop i):=(hrs.ext x46).mono λb hb=>⟨hb.1,by have:=x46.size; omega⟩
    have hc:=hrs6.cut (a:=1) (b:=(q::out.drop i).length) sI nR
    rw[List.take_length,List.drop_one,List.tail_cons,←hrs6.len]at hc
    have hdl:(out.drop i).length=out.length - i:=List.length_drop
    have eb:pinE.bytes=40:=rfl
    refine⟨nO,λ_=>⟨oM,?_⟩⟩
    refine(OwnS.zero (E:=pinE) (T:=78) w6).appAll Zoz nR hc (λb hb=>hb.2) (λad h=>by cases h) (by rw[hdl,eb]; simp; unfold room; omega) (by rw[hdl,Zb]; simp; omega) λt44 w7 o7 bel7 _ _=> ?_
    rw[List.nil_append]at o7
    have o7:=OwnS.flat (λh=>h) o7
    have x7:Ext w6 w7:=(Ext.refl w6).trans' bel7
    have x67:=x7
    have x07:=x06.trans x7
    have x17:Ext w1 w7:=(x15.trans x6).trans x7
    refine⟨_,_,_,_,d,e,o,(hbx.ext x7).ldc.pre (r:=[]) rfl,mD,mDev,mOpt,mOv,(ha.ext x17).ldc.pre (r:=[]) rfl,?_⟩
    refine SE.Zc1.go (Zum (S:=λb=>SC b∨SM b) (over:=over) (peers:=y.peers) (λb hb=>by
     have s1:=x07.size
     rcases hb with hb|hb
     ·have:=hC.old b hb; omega
     ·have:=hSM b hb; omega) ((hO.ext x07).mono λb hb=>.inr hb) ((hpe.ext x7).mono λb hb=>.inl hb) λt47 w8 x8 hpeers=>⟨t47,rfl,?_⟩)
    have x68:=x7.trans x8
    have x08:=x07.trans x8
    have s6:=x06.size
    have s7:=x7.size
    have s8:=x8.size
    have hpl:=hpeers.len
    have hpmax:=hpeers.max
    have hpb:(Zbe over y.peers).length≤16:=by
     have h1:=congrArg List.length (Zoc over y.peers)
     rw[List.length_map,List.length_map]at h1
     obtain⟨_,_,_,h2,_⟩:=Zjr (hG.may y (Zge hget).1)
     have:=(Zi h2).1
     omega
    have hSP: ∀b,((SC b∨SM b)∨w7.heap.size≤b)→b<w6.heap.size∨w7.heap.size≤b:=λb hb=>by
     rcases hb with(hb|hb)|hb
     ·have:=hC.old b hb; omega
     ·have:=hSM b hb; omega
     ·exact .inr hb
    have hpeers:SlR depE w8 (λb=>(b<w6.heap.size∨w7.heap.size≤b)∧b<w8.heap.size) t47 (Zbe over y.peers):=by
     exact(Z1o hpeers).mono λb hb=>⟨hSP b hb.1,hb.2⟩
    generalize hPP:Zbe over y.peers=peers at*
    have hstep0:Zbc env (peers.drop 0) out=Zbc env peers out:=rfl
    have hnames0:=hI.names
    have htold0:=hI.told
    refine loop3.ghost (λn so vn k w'=>∃(j:Nat) (O:List Pin) (So:Nat→Prop),k=(j:Int)∧n=peers.length - j∧j≤peers.length∧Ext w6 w'∧w8.heap.size≤w'.heap.size∧SlR pinE w' So so (Zaw O)∧(∀b,So b→w.heap.size≤b∧b<w'.heap.size)∧OwnS pinE 78 w' w6.heap.size None' vn (O.drop i)∧
      (∀ad,vn.a=some ad→ ¬So ad.block∧(ad.block<w7.heap.size∨w8.heap.size≤ad.block))∧SlR depE w' (λb=>(b<w6.heap.size∨w7.heap.size≤b)∧b<w8.heap.size) t47 peers∧Zbc env (peers.drop j) O=Zbc env peers out∧(O.map (·.name)).Nodup∧i≤O.length∧O.length≤out.length+j)
     peers.length ⟨0,out,λb=>w.heap.size≤b∧b<w6.heap.size,rfl,oM,Nat.zero_le _,x68,Nat.le_refl _,(hso.ext (x46.trans x68)).mono λb hb=>⟨hb.1,by have:=x46.size; omega⟩,λb hb=>⟨hb.1,oM⟩,o7.ext x8,λad had=>by
      have:=o7.block had
      exact⟨oM,.inl this.2.1⟩,hpeers,rfl,hnames0,oM,Nat.le_refl _⟩ λn so' vn k w9 nxt' ⟨j,O,So,hk,hn,hjl,x9,s9,hsO,hSo,oV,hap,hP9,hst,hnd,hiO,hOl⟩ hnx'=>?_
    subst hk
    have x09:=x06.trans x9
    have hOl2:O.length≤4096:=oM
    refine⟨λhlt3=>join.named λJ3 hJ3=>?_,λhge3=>?_⟩
    ·have hj:j<peers.length:=oM
     obtain⟨adp,tr,hpa,_,hds,hdr,hcp⟩:=Zhg hP9 hj
     have hdr0:peers.drop j=peers[j]::peers.drop (j+1):=List.drop_eq_getElem_cons hj
     rw[hdr0]at hst
     generalize peers[j]=dd at*
     have bad: ∀w',Ext w w'→Zbc env (dd::peers.drop (j+1)) O=none→R Sl.nil false w':=λw' hx h=>hnone w' (by
      rw[h]at hst
      rw[hgo0 none (by rw[←hgo]; exact Zpj hq hget (by rw[hPP]; exact hst.symm))]; rfl) hx
     have hJ': ∀(so2 vn2:Sl) w' (O2:List Pin) (So2:Nat→Prop),Ext w6 w'→w8.heap.size≤w'.heap.size→SlR pinE w' So2 so2 (Zaw O2)→(∀b,So2 b→w.heap.size≤b∧b<w'.heap.size)→OwnS pinE 78 w' w6.heap.size None' vn2 (O2.drop i)→
       (∀ad,vn2.a=some ad→ ¬So2 ad.block∧(ad.block<w7.heap.size∨w8.heap.size≤ad.block))→SlR depE w' (λb=>(b<w6.heap.size∨w7.heap.size≤b)∧b<w8.heap.size) t47 peers→Zbc env (peers.drop (j+1)) O2=Zbc env peers out→(O2.map (·.name)).Nodup→i≤O2.length→O2.length≤out.length+(j+1)→J3 so2 vn2 w':=λso2 vn2 w' O2 So2 q1 q2 q3 q4 q5 q6 q7 q8 q9 q10 q11=>by
      subst hJ3
      refine hnx' (peers.length - (j+1)) so2 vn2 _ w' oM ⟨j+1,O2,So2,?_,rfl,hj,q1,q2,q3,q4,q5,q6,q7,q8,q9,q10,q11⟩
      rw[Zc oM oM]; omega
     clear hJ3 hnx'
     refine⟨adp,⟨hpa,oM,hlt3⟩,_,by rw[Int.toNat_natCast]; exact(hcp _ xR).pre rfl,?_⟩
     refine SE.Zc2.go (Zof (hE.ext x09) (λv w10 hv x10=>⟨_,_,_,true,rfl,newS.set rfl λa22 w11 x11 hb11 hab11=>bnd.drew λw12 x12=>bound ⟨adp,λ_=>⟨hpa,oM,hlt3⟩,tr,λ_=>by rw[Int.toNat_natCast]; exact(hcp _ (x10.trans (x11.trans x12))).mid (k:=1) (r:=[]) rfl,v.ma,v.mi,v.pa,λ_=>(hb11.ext x12).ldc.pre (r:=[]) rfl,?_⟩⟩) λw10 hv x10=>⟨_,_,_,false,rfl,newS.set rfl λa22 w11 x11 hb11 _=>bnd.drew λw12 x12=>bound ⟨adp,nO,tr,nO,0,0,0,nO,?_⟩⟩)
     ·have x912:=x10.trans (x11.trans x12)
      refine gCall.intro (Z6 dd.range v) (λ_ k hk=>SE.Zcq.go (Zra (hdr.ext x912) λw' hx=>⟨_,rfl,hk w' hx⟩)) λt73 w13 x13 ht=>?_
      rw[ht rfl]
      have x913:=x912.trans x13
      refine⟨λhq2=>bad w13 (x09.trans x913) (Zpm hv (by simpa using hq2)),λhq2=>bnd.drew λw14 x14=>?_⟩
      have hin:Z6 dd.range v=true:=by simpa using hq2
      have x914:=x913.trans x14
      have hb14:=hb11.ext (x12.trans (x13.trans x14))
      refine⟨adp,⟨hpa,oM,hlt3⟩,_,by rw[Int.toNat_natCast]; exact(hcp _ x914).pre rfl,v.ma,v.mi,v.pa,hb14.ldc.pre (r:=[]) rfl,?_⟩
      refine SE.Zct.go (Zzv (e:=O) (p:=⟨dd.name,v⟩) (S:=So) (λb hb=>by have:=(hSo b hb).2; have:=x914.size; omega) (hsO.ext x914) hnd hds oM (λw15 x15 hany=>⟨so',false,rfl,nO,λ_=> ?_⟩) λt85 w15 x15 hany ht85=>⟨t85,true,rfl,λ_=>bnd.drew λw16 x16=>?_,nO⟩)
      ·have x915:=x914.trans x15
       have s915:=x915.size
       rw[Znu hv hin hany]at hst
       exact hJ' so' vn w15 O So (x9.trans x915) oM (hsO.ext x915) (λb hb=>⟨(hSo b hb).1,by have:=(hSo b hb).2; omega⟩) (oV.ext x915) hap (hP9.ext x915) hst hnd hiO oM
      ·have x916:=x914.trans (x15.trans x16)
       have s914:=x914.size
       have s15:=x15.size
       have s16:=x16.size
       rw[Znt hv hin hany]at hst
       refine⟨adp,⟨hpa,oM,hlt3⟩,_,by rw[Int.toNat_natCast]; exact(hcp _ x916).pre rfl,v.ma,v.mi,v.pa,(hb14.ext (x15.trans x16)).ldc.pre (r:=[]) rfl,newS.intro λa48 w17 x17 hb17 hab17 _=> ?_⟩
       have x917:=x916.trans x17
       have s17:=x17.size
       have s917:=x917.size
       have s69:=x9.size
       have hOd:(O.drop i).length=O.length - i:=List.length_drop
       refine(oV.ext x917).push Zoz oM (x:=⟨dd.name,v⟩) (S':=None') ⟨rfl,hds⟩ (hb17.ldc.pre (r:=[]) rfl) (λ_ h=>h.elim) (λ_ _ h=>h.elim) (by rw[hOd,eb]; unfold room; omega) (by rw[hOd,Zb]; omega) λvn2 w18 o18 bel18 oth18 reg18=>?_
       have o18:=OwnS.flat (λh=>h) o18
       have hoth:Oth vn w17 w18:=⟨bel18.size,oth18⟩
       have s18:=bel18.size
       have x618:Ext w6 w18:=(x9.trans x917).trans' bel18
       have ht85':=(ht85.ext (x16.trans x17))
       have hvb: ∀ad,vn.a=some ad→ad.block<w9.heap.size:=λad had=>(oV.block had).2.1
       refine hJ' t85 vn2 w18 (O++ [⟨dd.name,v⟩]) (λb=>w14.heap.size≤b∧b<w15.heap.size) x618 oM (ht85'.oth hoth λad had hb=>by have:=hvb ad had; omega) (λb hb=>⟨by have:=x09.size; omega,oM⟩) ?_ (λad had=>?_) ((hP9.ext x917).oth hoth λad had hb=>by
         have:=(hap ad had).2; have:=(oV.block had).1; omega) hst ?_ (by rw[List.length_append]; omega) (by rw[List.length_append,List.length_singleton]; omega)
       ·rw[List.drop_append_of_le_length hiO]; exact o18
       ·rcases reg18 ad had with h|h
        ·have h1:=hvb ad h
         exact⟨oM,(hap ad h).2⟩
        ·exact⟨oM,.inr oM⟩
       ·rw[List.map_append,List.nodup_append]
        refine⟨hnd,by simp,λa ha b hb=>?_⟩
        simp only[List.map_cons,List.map_nil,List.mem_singleton]at hb
        subst hb
        obtain⟨z,hz,rfl⟩:=List.mem_map.1 ha
        have:=List.any_eq_false.1 hany z hz
        intro he; exact this (by simp[isN,he])
     ·refine gCall.intro false nO λt73 w13 x13 _=>⟨λ_=>bad w13 (x09.trans ((x10.trans (x11.trans x12)).trans x13)) (Zmp hv),nO⟩
    ·have hj:j=peers.length:=oM
     rw[hj,List.drop_length]at hst
     have hst':Zbc env (Zbe over y.peers) out=some O:=by rw[hPP]; exact hst.symm
     rw[Zpk hq hget hst']at hgo
     have hI2:=hI.next hq hget hst'
     have s69:=x9.size
     have hrd:=oV.read (by rw[List.length_drop]; show _*40≤room; unfold room; omega) (by rw[List.length_drop,Zb]; omega)
     refine hnx f so' vn w9 oM ⟨i+1,O,(x15.trans x6).trans x9,hsO.mono hSo,hrd.mono λb hb=>?_,hI2,hgo,oM⟩
     rcases hb with hb|⟨ad,had,rfl⟩
     ·exact hb.elim
     ·have:=oV.block had; exact⟨oM,this.2.1⟩
  have hD5:=λ(k: ∀d e o w',Ext w5 w'→Str (getD L q.name q.v).name→SlR depE w' SC d (getD L q.name q.v).deps→SlR depE w' SC e (getD L q.name q.v).peers→SlR depE w' SC o (getD L q.name q.v).opt→True)=>k
  refine⟨SE.Zx.go (Zjy (n:=q.name) (v:=q.v) (hC.ext x05) λd e o w6 x6 _ hd he ho=>⟨_,_,_,_,d,e,o,_,rfl,newS.set rfl λa63 w7 x7 hb7 _=>key a63 d e o w7 (x6.trans x7) hb7 (he.ext x7)⟩),newS.intro λa66 w6 x6 hb6 hab6 _=>SE.Zx.go (Zjy (n:=q.name) (v:=q.v) (hC.ext (x05.trans x6)) λd e o w7 x7 _ hd he ho=>⟨_,_,_,_,d,e,o,_,rfl,stw0.intro (hb6.ext x7) sI λw8 b8 _ hb8=>?_⟩)⟩
  have x58:Ext w5 w8:=b8.ext (x6.trans x7) oM
  refine key a66 d e o w8 x58 hb8 (he.but b8 λh=>?_)
  have:=hC.old _ h
  have:=x05.size
  omega
 ·have hnn:(pn::out)[i]? =none:=List.getElem?_eq_none (by rw[List.length_cons]; omega)
  rw[Zru hnn]at hgo
  exact hsome (Zaw out) so w4 (by rw[hgo0 (some out) hgo.symm]; rfl) x04 hso
end Go.Hal
namespace Go.Hal
open Go.Proofs.Tryz
end Go.Hal
namespace Go.Hal
open Go.Proofs.Tryz
open Go Go.RowKit Go.Proofs Go.Shelf
def Nb(sp:Addr)(w:World):Nat→Prop:=λb=>b<w.heap.size∧b≠sp.block
section
variable {α:Type} {E:Enc α} {w w':World} {sp:Addr} {s:Sl} {l:List α}
theorem SlR.nbBut(h:SlR E w (Nb sp w) s l)(hb:But sp.block w w'):SlR E w' (Nb sp w') s l:=(h.but hb λh=>h.2 rfl).mono λb h=>⟨by have:=hb.1; have:=h.1; omega,h.2⟩
theorem SlR.nbExt(h:SlR E w (Nb sp w) s l)(hx:Ext w w'):SlR E w' (Nb sp w') s l:=(h.ext hx).mono λb h=>⟨by have:=hx.size; have:=h.1; omega,h.2⟩
theorem SlR.nbNew(h:SlR E w' (λb=>w.heap.size≤b∧b<w'.heap.size) s l)(hs:sp.block<w.heap.size):SlR E w' (Nb sp w') s l:=h.mono λb hb=>⟨hb.2,oM⟩
end
theorem Nb.old(sp:Addr)(w:World):Old (Nb sp w) w:=λ_ h=>h.1
def srch(K:K7)(D N d3 d4 t err:Int)(fnd:Sl):List Value:=[.pointer (some K.cp),K.mD.v,K.mDev.v,K.mOpt.v,K.mOv.v,.bool K.dev,K.pS.v,.int .i64 D,.int .i64 N,.int .i64 d3,.int .i64 d4,.int .i64 t,.int .i64 err,fnd.v]
structure Cx(w:World)(sp:Addr)(q:Quest)(K:K7):Prop where
 cat: ∃SC,RefR w SC K.cp q.L∧ ¬SC sp.block∧K.cp.block≠sp.block
 deps:SlR depE w (Nb sp w) K.mD q.m.deps
 dv:SlR depE w (Nb sp w) K.mDev q.m.dev
 opt:SlR depE w (Nb sp w) K.mOpt q.m.opt
 over:SlR depE w (Nb sp w) K.mOv q.m.over
 pins:SlR pinE w (Nb sp w) K.pS q.pins
 dev:K.dev=q.dev
 lt:sp.block<w.heap.size
 may:Zb1 q.m=true
section
variable {w w':World} {sp:Addr} {q:Quest} {K:K7}
theorem Cx.but(h:Cx w sp q K)(hb:But sp.block w w'):Cx w' sp q K:=by
 obtain⟨SC,h1,h2,h3⟩:=h.cat
 exact⟨⟨SC,h1.stay hb.1 λb hlt hc=>hb.2.2.2.2 b hlt (by
  rcases hc with hc|rfl
  ·rintro rfl; exact h2 hc
  ·exact h3),h2,h3⟩,h.deps.nbBut hb,h.dv.nbBut hb,h.opt.nbBut hb,h.over.nbBut hb,h.pins.nbBut hb,h.dev,by have:=h.lt; have:=hb.1; omega,h.may⟩
theorem Cx.ext(h:Cx w sp q K)(hx:Ext w w'):Cx w' sp q K:=h.but (hx.but _)
theorem Cx.good(h:Cx w sp q K):GoodL q.L:=by obtain⟨_,h1,_⟩:=h.cat; exact h1.good
theorem Zuk{k:Nat}{x:Node}{nds:Sl}{ns:List Node}{D N d3 d4 t err:Int}{fnd:Sl}{R:Sl→World→Prop}(hC:Cx w sp q K)(hb:BoxAt w sp (srch K D N d3 d4 t err fnd))(hs:SlR nodeE w (Nb sp w) nds ns)(hk:ns[k]? =some x)
  (hR: ∀t w',Ext w w'→SlR wantE w' (Nb sp w') t (q.wants ns k)→R t w'):SE.Zbm (some sp) nds (k:Int) w R:=by
 unfold SE.Zbm
 have hsm:=Zi6 hC.may
 have hsp:=hC.lt
 refine⟨λhk0=>bnd.drew λw1 x1=>⟨sp,rfl,K.mD,K.mDev,K.mOpt,K.mOv,hb.at1 (k:=1) x1 rfl,sp,rfl,K.dev,hb.at1 (k:=5) x1 rfl,?_⟩,λhk0=>?_⟩
 ·have hk0':k=0:=oM
  subst hk0'
  refine SE.Zcs.go (Zs2 (m:=q.m) (Nb.old sp w1) (hC.deps.nbExt x1) (hC.dv.nbExt x1) (hC.opt.nbExt x1) (hC.over.nbExt x1) (by unfold room; omega) λt w2 x2 ht=>⟨_,rfl,hR t w2 (x1.trans x2) ?_⟩)
  rw[hC.dev]at ht
  have s1:=x1.size
  have s2:=x2.size
  exact ht.mono λb h=>by
   rcases h with h|h
   ·exact⟨by have:=h.1; omega,h.2⟩
   ·exact⟨h.2,oM⟩
 ·have hk0':k≠0:=oM
  obtain⟨hkl,hgx⟩:=List.getElem?_eq_some_iff.1 hk
  obtain⟨ad,c,e,ha,hN,_,_,hc⟩:=Zff hs hkl
  rw[hgx]at hN hc
  have hnl:=hs.len
  obtain⟨SC,hcat,hSC,hcp⟩:=hC.cat
  obtain⟨g1,g2,g3⟩:=Zpr hcat.good x.name x.v
  refine join.named λJ hJ=>bnd.drew λw1 x1=>?_
  refine⟨sp,rfl,_,hb.at0 x1 rfl,ad,⟨ha,oM,oM⟩,_,(hc _ x1).pre rfl,ad,⟨ha,oM,oM⟩,x.v.ma,x.v.mi,x.v.pa,(hc _ x1).mid (k:=1) rfl,?_⟩
  have key: ∀(a:Addr) (d e o:Sl) (w3:World),Ext w w3→BoxAt w3 a [.string (getD q.L x.name x.v).name,.int .i64 (getD q.L x.name x.v).v.ma,.int .i64 (getD q.L x.name x.v).v.mi,.int .i64 (getD q.L x.name x.v).v.pa,d.v,e.v,o.v]→
    SlR depE w3 SC d (getD q.L x.name x.v).deps→SlR depE w3 SC o (getD q.L x.name x.v).opt→J a w3:=by
   subst hJ
   intro a d e o w3 x3 hba hd ho
   refine bnd.drew λw4 x4=>?_
   have x04:=x3.trans x4
   have s04:=x04.size
   have hcl: ∀b,SC b→Nb sp w4 b:=λb h=>⟨by have:=hcat.old b h; omega,by rintro rfl; exact hSC h⟩
   refine⟨_,_,_,_,d,e,o,hba.at0 (r:=[]) x4 rfl,sp,rfl,K.mD,K.mDev,K.mOpt,K.mOv,hb.at1 (k:=1) x04 rfl,?_⟩
   refine SE.Zem.go (Z2v (p:=getD q.L x.name x.v) (Nb.old sp w4) ((hd.ext x4).mono hcl) ((ho.ext x4).mono hcl) (hC.over.nbExt x04) (by unfold room; omega) λt w5 x5 ht=>⟨_,rfl,hR t w5 (x04.trans x5) ?_⟩)
   rw[Zqf hk0' hk]
   have s5:=x5.size
   exact ht.mono λb h=>by
    rcases h with h|h
    ·exact⟨by have:=h.1; omega,h.2⟩
    ·exact⟨h.2,oM⟩
  refine⟨SE.Zx.go (Zjy (n:=x.name) (v:=x.v) (hcat.ext x1) λd e o w3 x3 _ hd he ho=>⟨_,_,_,_,_,_,_,_,rfl,newS.set rfl λa w4 x4 hb4 _=>key a d e o w4 (x1.trans (x3.trans x4)) hb4 (hd.ext x4) (ho.ext x4)⟩),newS.intro λa w3 x3 hb3 hab _=>SE.Zx.go (Zjy (n:=x.name) (v:=x.v) ((hcat.ext x1).ext x3) λd e o w4 x4 _ hd he ho=>⟨_,_,_,_,_,_,_,_,rfl,stw0.intro (hb3.ext x4) sI λw5 b5 _ hb5=>?_⟩)⟩
  have x15:Ext w1 w5:=b5.ext (x3.trans x4) oM
  have hna: ¬SC a.block:=λh=>by have:=(hcat.ext x1).old _ h; omega
  exact key a d e o w5 (x1.trans x15) hb5 (hd.but b5 hna) (ho.but b5 hna)
end
def Post(q:Quest)(sp:Addr)(K:K7)(d3 d4:Int)(w:World)(o:Out)(b:Bool)(w':World):Prop:=But sp.block w w'∧(match o with
 | .fail t=>b=false∧t≤q.D∧BoxAt w' sp (srch K q.D q.N d3 d4 t 0 Sl.nil)
 | .done ns t=>b=true∧ ∃fnd,BoxAt w' sp (srch K q.D q.N d3 d4 t 0 fnd)∧SlR nodeE w' (Nb sp w') fnd ns
 | .err c=>b=true∧ ∃(t:Int) (fnd:Sl),BoxAt w' sp (srch K q.D q.N d3 d4 t c fnd)
 | .out=>False)
theorem But.trans'{g:Nat}{a b c:World}(h:But g a b)(k:But g b c):But g a c:=
 ⟨Nat.le_trans h.1 k.1,k.2.1.trans h.2.1,k.2.2.1.trans h.2.2.1,k.2.2.2.1.trans h.2.2.2.1,λx hx hn=>(k.2.2.2.2 x (by have:=h.1; omega) hn).trans (h.2.2.2.2 x hx hn)⟩
theorem Post.from{q:Quest}{sp:Addr}{K:K7}{d3 d4:Int}{w0 w w':World}{o:Out}{b:Bool}(h:Post q sp K d3 d4 w o b w')(hb:But sp.block w0 w):Post q sp K d3 d4 w0 o b w':=⟨hb.trans' h.1,h.2⟩
structure NsOk(q:Quest)(ns:List Node):Prop where
 len:ns.length≤q.N
 big:q.N≤128
 root: ∃x,ns[0]? =some x∧x.key=rootNode.key
 ctx: ∀x∈ns,Rises x.ctx∧x.ctx.length≤2048
def Zqj(q:Quest)(f:Nat):Prop:=∀(sp:Addr) (K:K7) (d3 d4:Int) (ns:List Node) (k:Nat) (ws:List Want) (vk:Nat) (e:List Pin) (t:Nat) (nds wss es:Sl) (w:World),
 Cx w sp q K→BoxAt w sp (srch K q.D q.N d3 d4 t 0 Sl.nil)→NsOk q ns→k<ns.length→vk≤ws.length→ws.length≤64→(∀x∈ws,Str x.name)→(e.map (·.name)).Nodup→(∀p∈e,Str p.name)→e.length≤2048+vk→t≤q.D→q.D≤4096→q.go f ns k (ws.drop vk) e t≠ .out→
 SlR nodeE w (Nb sp w) nds ns→SlR wantE w (Nb sp w) wss ws→SlR pinE w (Nb sp w) es (Zaw e)→
 callS prog 37 [.pointer (some sp),nds.v,.int .i64 k,wss.v,.int .i64 vk,es.v] w λv w'=>∃b,v= .bool b∧Post q sp K d3 d4 w (q.go f ns k (ws.drop vk) e t) b w'
theorem Ztj{q:Quest}{ns:List Node}{k:Nat}(hG:GoodL q.L)(hm:Zb1 q.m=true):(q.wants ns k).length≤64:=by
 have hsm:=Zi6 hm
 unfold Quest.wants Z00
 split
 ·rw[Zib]; have:=Zls q.m q.dev; omega
 ·split
  ·exact Nat.zero_le _
  ·split
   ·exact Nat.zero_le _
   ·rename_i p hp
    rw[Zib]
    obtain⟨_,_,h1,h2,h3⟩:=Zjr (hG.may p (Zge hp).1)
    have:=(Zi h1).1
    have:=(Zi h3).1
    omega
theorem Z0y{w:World}{S:Nat→Prop}{s:Sl}{l:List Want}(h:SlR wantE w S s l): ∀x∈l,Str x.name:=λx hx=>by
 obtain⟨n,hn,rfl⟩:=List.mem_iff_getElem.1 hx
 obtain⟨_,_,_,_,h1,_⟩:=Zwa h hn
 exact h1
theorem Z5g{w:World}{S:Nat→Prop}{s:Sl}{l:List Pin}(h:SlR pinE w S s l): ∀q∈l,Str q.name:=λq hq=>by
 obtain⟨n,hn,rfl⟩:=List.mem_iff_getElem.1 hq
 obtain⟨_,_,_,h1,_⟩:=Zhz h hn
 exact h1
theorem Zs4{q:Quest}{f:Nat}(hf:Zqj q f){sp:Addr}{K:K7}{d3 d4:Int}{ns:List Node}{k t:Nat}{nds:Sl}{w:World}{R:Bool→World→Prop}(hC:Cx w sp q K)(hb:BoxAt w sp (srch K q.D q.N d3 d4 t 0 Sl.nil))(hN:NsOk q ns)(hk:k≤ns.length)(ht:t≤q.D)(hD:q.D≤4096)
  (hs:SlR nodeE w (Nb sp w) nds ns) (hne:k<ns.length→q.go f ns k (q.wants ns k) (Zf0 ns k) t≠ .out)
  (hR: ∀b w',Post q sp K d3 d4 w (if k=ns.length then .done ns t else q.go f ns k (q.wants ns k) (Zf0 ns k) t) b w'→R b w'):SE.Zal (some sp) nds (k:Int) w R:=by
 unfold SE.Zal
 have hsl:=hs.len
 refine⟨λh=>⟨sp,rfl,?_⟩,λh=>?_⟩
 ·have hkn:k=ns.length:=oM
  rw[if_pos hkn]at hR
  refine stw.intro (o:=13) hb (by show 14≤14; omega) λw1 b1 _ hb1=>hR true w1 ⟨b1,rfl,nds,hb1,hs.nbBut b1⟩
 ·have hkn:k<ns.length:=oM
  rw[if_neg oM]at hR
  have hkx:ns[k]? =some ns[k]:=List.getElem?_eq_getElem hkn
  obtain⟨ad,c,e,ha,_,hcx,_,hc⟩:=Zff hs hkn
  refine bnd.drew λw1 x1=>⟨ad,⟨ha,oM,oM⟩,c,(hc _ x1).mid (k:=4) rfl,?_⟩
  refine callX.intro (SE.Zbm.go (Zuk (hC.ext x1) (hb.ext x1) (hs.nbExt x1) hkx λws w2 x2 hws=>⟨x2,ws,rfl,?_⟩))
  have x02:=x1.trans x2
  have hctx:Zf0 ns k=ns[k].ctx:=by unfold Zf0 Zsl; rw[List.getElem?_map,hkx]; rfl
  obtain⟨q1,q2⟩:=hN.ctx _ (List.getElem_mem hkn)
  have hcs:SlR pinE w2 (Nb sp w2) c (Zaw (Zf0 ns k)):=by rw[hctx,Zxk q1]; exact hcx.nbExt x02
  refine(hf sp K d3 d4 ns k (q.wants ns k) 0 (Zf0 ns k) t nds ws c w2 (hC.ext x02) (hb.ext x02) hN hkn (Nat.zero_le _) (Ztj hC.good hC.may) (Z0y hws) (by rw[hctx]; exact q1.nodup) (by rw[hctx]; exact Z5g hcx) (by rw[hctx]; omega) ht hD (hne hkn) (hs.nbExt x02) hws hcs).mono λv w3 ⟨b,hv,hP⟩=>⟨b,hv,hR b w3 (hP.from (x02.but _))⟩
def ctxE:Enc (List Pin) where
 n:=1
 bytes:=24
 rep:=λw S l cs=>∃s:Sl,cs= [s.v]∧SlR pinE w S s l
 len:=λ⟨_,h,_⟩=>by rw[h]; rfl
 one:=λ⟨s,h,_⟩ v hv=>by rw[h]at hv; simp[Sl.v]at hv; subst hv; rfl
 mono:=λ⟨s,h,hr⟩ hs=>⟨s,h,hr.mono hs⟩
 keep:=λ⟨s,h,hr⟩ hk=>⟨s,h,hr.keep hk⟩
theorem Z6j:ApT prog 244 26 1 24:=Zhe (z:=.slice none 0 0) kR kR rfl dC
inductive CtxsAre (q:Quest) (env:List Pin):List Pin→List (List Pin)→Prop
 |nil:CtxsAre q env [] []
 |snoc {ps:List Pin} {cs:List (List Pin)} {p:Pin} {c:List Pin} (h:CtxsAre q env ps cs) (k:Zdg q.L q.m.over env p=some c):CtxsAre q env (ps++ [p]) (cs++ [c])
def mkNd(p:Pin)(c:List Pin):Node:=⟨p.name,p.v,c,[]⟩
theorem Zm0{q:Quest}{env:List Pin}{p:Pin}{c:List Pin}(hc:Zdg q.L q.m.over env p=some c): ∀{ps:List Pin},targets q env (ps++ [p])=(targets q env ps).map λxs=>xs++ [mkNd p c]
 | []=>by rw[List.nil_append,Zh9 hc]; rfl
 |a::r=>by
  rw[List.cons_append]
  cases ha:Zdg q.L q.m.over env a with
  |none=>rw[Zj5 ha,Zj5 ha]; rfl
  |some d=>
   rw[Zh9 ha,Zh9 ha,Zm0 hc]
   cases targets q env r<;>rfl
theorem CtxsAre.len{q:Quest}{env ps:List Pin}{cs:List (List Pin)}(h:CtxsAre q env ps cs):cs.length=ps.length:=by
 induction h with
 |nil=>rfl
 |snoc _ _ ih=>simp[ih]
theorem CtxsAre.targets{q:Quest}{env ps:List Pin}{cs:List (List Pin)}(h:CtxsAre q env ps cs):targets q env ps=some (List.zipWith mkNd ps cs):=by
 induction h with
 |nil=>rfl
 |snoc h k ih=>
  rw[Zm0 k,ih,Option.map_some,List.zipWith_append h.len.symm]
  rfl
theorem CtxsAre.get{q:Quest}{env ps:List Pin}{cs:List (List Pin)}(h:CtxsAre q env ps cs): ∀(i:Nat) (h1:i<ps.length) (h2:i<cs.length),Zdg q.L q.m.over env ps[i]=some cs[i]:=by
 induction h with
 |nil=>intro i h1; simp at h1
 |snoc h k ih=>
  rename_i ps cs p c
  intro i h1 h2
  have hl:=h.len
  by_cases hi:i<ps.length
  ·rw[List.getElem_append_left hi,List.getElem_append_left oM]
   exact ih i hi oM
  ·have:i=ps.length:=by simp at h1; omega
   subst this
   rw[List.getElem_append_right nR,List.getElem_append_right oM]
   simpa[hl]using k
theorem Zj4{q:Quest}{env:List Pin}: ∀{ps:List Pin},(∃p∈ps,Zdg q.L q.m.over env p=none)→targets q env ps=none
 | [],h=>by obtain⟨p,hp,_⟩:=h; cases hp
 |a::r,h=>by
  cases ha:Zdg q.L q.m.over env a with
  |none=>exact Zj5 ha
  |some d=>
   rw[Zh9 ha,Zj4]
   ·rfl
   ·obtain⟨p,hp,hn⟩:=h
    rcases List.mem_cons.1 hp with rfl|hp
    ·rw[ha]at hn; cases hn
    ·exact⟨p,hp,hn⟩
theorem Zmn{L:List Pack}(hG:GoodL L){over:List Dep}{env c:List Pin}{p:Pin}(h:Zdg L over env p=some c):Rises c∧c.length≤2048:=⟨(Zqq h).1,(Ztt hG h).2⟩
theorem r11bind_se{q:Quest}{f:Nat}(hf:Zqj q f){sp:Addr}{K:K7}{d3 d4:Int}{ns:List Node}{k t:Nat}{e:List Pin}{nds es:Sl}{w:World}{R:Bool→World→Prop}(hC:Cx w sp q K)(hb:BoxAt w sp (srch K q.D q.N d3 d4 t 0 Sl.nil))(hN:NsOk q ns)(hk:k<ns.length)
  (hel:e.length≤2200) (ht:t≤q.D) (hD:q.D≤4096) (hs:SlR nodeE w (Nb sp w) nds ns) (hes:SlR pinE w (Nb sp w) es (Zaw e)) (hne:q.go (f+1) ns k [] e t≠ .out)
  (hR: ∀b w',Post q sp K d3 d4 w (q.go (f+1) ns k [] e t) b w'→R b w'):SE.Zbv (some sp) nds (k:Int) es w R:=by
 unfold SE.Zbv
 have hbd:q.bind ns k e=match targets q (Zaw e) (Zaw e)with|none=>.graph|some xs=>match putK q.N (ns.map Node.key) xs with|none=>.many|some r=>.ok (Zbz ns k r.2++r.1):=rfl
 rw[Quest.go]at hne hR
 have hle:(Zaw e).length=e.length:=(Zbk e).length_eq
 generalize Zaw e=E at*
 have hEl:=hes.len
 have hsp:=hC.lt
 have hG:=hC.good
 refine loop2.up hes.max (λcs i w'=>Ext w w'∧ ∃(l:List (List Pin)) (Q:Nat→Prop),OwnS ctxE 26 w' w.heap.size Q cs l∧(∀b,Q b→w.heap.size≤b)∧CtxsAre q E (E.take i) l) ⟨Ext.refl _,[],None',OwnS.zero w,λ_ h=>h.elim,.nil⟩ λcs i w1 nxt hi ⟨x1,l,Q,oC,hQ,hA⟩ hn=>⟨λhlt=>bnd.drew λw2 x2=>?_,λhge=>?_⟩
 ·have hlt':i<E.length:=oM
  obtain⟨ad,had,_,hst,hc⟩:=Zhz hes hlt'
  have x02:=x1.trans x2
  have hC2:=hC.ext x02
  have hll:=hA.len
  rw[List.length_take]at hll
  refine⟨sp,rfl,_,hb.at0 x02 rfl,sp,rfl,K.mD,K.mDev,K.mOpt,K.mOv,hb.at1 (k:=1) x02 rfl,ad,⟨had,oM,hlt⟩,_,_,_,_,hc _ x02,?_⟩
  obtain⟨SC,hcat,_,_⟩:=hC2.cat
  refine SE.Zch.go (Zrb (pn:=E[i]) hcat (Nb.old sp w2) (Nb.old sp w2) hC2.over (hes.nbExt x02) hst (λa t37 w3 ha x3 ht37=>⟨t37,true,rfl,nO,λ_=>newS.intro λax w4 x4 hb4 hab4 _=> ?_⟩) λw3 ha x3=>⟨_,false,rfl,λ_=> ?_,nO⟩)
  ·have x24:=x3.trans x4
   have x14:=x2.trans x24
   have s3:=x3.size
   have s14:=x14.size
   have s02:=x02.size
   have eb:ctxE.bytes=24:=rfl
   have hlim:l.length≤2200:=oM
   refine(oC.ext x14).push Z6j (by have:=x1.size; omega) (x:=a) (S':=λb=>w2.heap.size≤b∧b<w3.heap.size) ⟨t37,rfl,ht37.ext x4⟩ (hb4.ldc.pre (r:=[]) rfl) (λb hb=>by have:=x4.size; omega) (λad' had' hb=>by
    have:=(oC.block had').2.1
    have:=x2.size; omega) (by rw[eb]; unfold room; omega) (by rw[Zb]; omega) λcs2 w5 o5 bel5 _ _=> ?_
   have x05:Ext w w5:=(x1.trans x14).trans' bel5
   refine hn hlt' cs2 w5 ⟨x05,l++ [a],_,o5,λb hb=>?_,?_⟩
   ·rcases hb with hb|hb
    ·exact hQ b hb
    ·omega
   ·rw[List.take_succ_eq_append_getElem hlt']; exact hA.snoc ha
  ·have hg:q.bind ns k e= .graph:=by rw[hbd,Zj4 ⟨_,List.getElem_mem hlt',ha⟩]
   rw[hg]at hR
   exact hR false w3 ⟨(x02.trans x3).but _,rfl,ht,hb.ext (x02.trans x3)⟩
 ·rw[List.take_of_length_le oM]at hA
  clear hn
  have hll:=hA.len
  have s1:=x1.size
  have hcs:SlR ctxE w1 (Nb sp w1) cs l:=(oC.read (by show l.length*24≤room; unfold room; omega) (by rw[Zb]; omega)).mono λb hb=>by
   rcases hb with hb|⟨ad,had,rfl⟩
   ·have:=hQ b hb; exact⟨oC.lt b hb,oM⟩
   ·have:=oC.block had; exact⟨this.2.1,oM⟩
  rw[hA.targets]at hbd
  have hnl:=hN.len
  have hnb:=hN.big
  have hs1:=hs.nbExt x1
  have eN:nodeE.bytes=88:=rfl
  have eE:edgeE.bytes=24:=rfl
  refine(OwnS.zero (E:=nodeE) (T:=72) w1).appAll Zu4 nR hs1 (Nb.old sp w1) (λad h=>by cases h) (by rw[eN]; simp; unfold room; omega) (by rw[Zb]; simp; omega) λout0 w2 o2 bel2 _ _=> ?_
  rw[List.nil_append]at o2
  have x2:Ext w1 w2:=(Ext.refl w1).trans' bel2
  have o2:OwnS nodeE 72 w2 w1.heap.size (Nb sp w1) out0 ns:=o2.mono (λb hb=>hb.elim (λh=>h.elim) id) (λb hb=>by have:=x2.size; have:=hb.1; omega) (λad had hb=>by have:=(o2.block had).1; have:=hb.1; omega)
  have hzl:(List.zipWith mkNd E l).length=E.length:=by rw[List.length_zipWith]; omega
  have hzg: ∀(i:Nat) (h1:i<E.length) (h2:i<l.length),(List.zipWith mkNd E l)[i]? =some (mkNd E[i] l[i]):=λi h1 h2=>by
   rw[List.getElem?_eq_getElem oM,List.getElem_zipWith]
  generalize hxs:List.zipWith mkNd E l=xs at*
  have hrk: ∀(p:Pin) (c:List Pin),Zdg q.L q.m.over E p=some c→ ∀(m:List Node) (h:0<(ns++m).length),(ns++m)[0].key≠(p.name,p.v,c):=λp c hc m h he=>by
   obtain⟨x,hx,hk0⟩:=hN.root
   have h1:(ns++m)[0]? =some x:=by rw[List.getElem?_append_left oM]; exact hx
   rw[List.getElem?_eq_getElem h]at h1
   cases h1
   rw[hk0]at he
   have:=congrArg (·.1) he
   exact Zsc hG (Zmo hc) this.symm
  refine loop3.up hes.max (λso se i w'=>∃(added:List Node) (ed:List Edge),Ext w1 w'∧OwnS nodeE 72 w' w1.heap.size (Nb sp w1) so (ns++added)∧OwnS edgeE 80 w' w1.heap.size None' se ed∧Apart so se∧(ns++added).length≤q.N∧(∀x∈added,Rises x.ctx∧x.ctx.length≤2048)∧ed.length=i∧
    putK q.N (ns.map Node.key) xs=(putK q.N ((ns++added).map Node.key) (xs.drop i)).map λr=>(added++r.1,ed++r.2))
   ⟨[],[],x2,by rw[List.append_nil]; exact o2,OwnS.nil _ _,(λ_ _ _ h=>by cases h),by rw[List.append_nil]; exact hnl,(λ_ h=>by cases h),rfl,by rw[List.append_nil,List.drop_zero]; cases putK q.N (ns.map Node.key) xs<;>rfl⟩ λso se i w3 nxt hi3 ⟨added,ed,x3,oN,oE,hap,hlN,hadc,hedl,hput⟩ hnx=>⟨λhlt=>bnd.drew λw4 x4=>?_,λhge3=>?_⟩
  ·have hlt':i<E.length:=oM
   have hil:i<l.length:=oM
   obtain⟨ad,had,_,hst,hc⟩:=Zhz hes hlt'
   obtain⟨ac,ccs,hac,_,⟨t63,rfl,ht63⟩,hcc⟩:=hcs.el hil
   have hctx:=hA.get i hlt' hil
   have x34:=x3.trans x4
   have x04:=x1.trans x34
   have hcsl:=hcs.len
   have oN4:=oN.ext x4
   have hread:=oN4.read (by rw[eN]; unfold room; omega) (by rw[Zb]; omega)
   have hxd:xs.drop i=mkNd E[i] l[i]::xs.drop (i+1):=by
    obtain⟨h1,h2⟩:=List.getElem?_eq_some_iff.1 (hzg i hlt' hil)
    rw[List.drop_eq_getElem_cons h1,h2]
   rw[hxd]at hput
   refine⟨ad,⟨had,oM,hlt⟩,_,_,_,_,hc _ x04,ac,⟨hac,oM,oM⟩,t63,hcc _ x34,?_⟩
   have hnlen:1≤(ns++added).length:=by rw[List.length_append]; omega
   refine SE.Zc3.go (Z2r (p:=E[i]) hread (ht63.ext x34) hnlen λpl w5 x5 hpl=>⟨_,rfl,join.named λJ hJ=>?_⟩)
   have hfind:=hpl.find (hrk E[i] l[i] hctx added)
   have hsol:=oN.len
   have x35:=x4.trans x5
   have x15:=x34.trans x5
   have hkey:(mkNd E[i] l[i]).key=(E[i].name,E[i].v,l[i]):=rfl
   have s15:=x15.size
   have hJ': ∀(so':Sl) w' (added':List Node),Ext w1 w'→OwnS nodeE 72 w' w1.heap.size (Nb sp w1) so' (ns++added')→OwnS edgeE 80 w' w1.heap.size None' se ed→Apart so' se→(ns++added').length≤q.N→(∀x∈added',Rises x.ctx∧x.ctx.length≤2048)→
     putK q.N (ns.map Node.key) xs=(putK q.N ((ns++added').map Node.key) (xs.drop (i+1))).map (λr=>(added'++r.1,ed++(⟨E[i].name,(pl:Int)⟩::r.2)))→J so' w':=by
    subst hJ
    intro so' w6 added' x6 q1 q2 q3 q4 q5 q6
    have x06:=x1.trans x6
    have s16:=x6.size
    refine⟨ad,⟨had,oM,hlt⟩,_,(hc _ x06).pre rfl,newS.intro λa28 w7 x7 hb7 hab7 _=> ?_⟩
    refine(q2.ext x7).push Z3m (by have:=x7.size; omega) (x:=⟨E[i].name,(pl:Int)⟩) (S':=None') ⟨rfl,hst⟩ (hb7.ldc.pre (r:=[]) rfl) (λ_ h=>h.elim) (λ_ _ h=>h.elim) (by rw[eE,hedl]; unfold room; omega) (by rw[Zb,hedl]; omega) λse2 w8 o8 bel8 oth8 reg8=>?_
    have o8:=OwnS.flat (λh=>h) o8
    have hoth:Oth se w7 w8:=⟨bel8.size,oth8⟩
    have x18:Ext w1 w8:=(x6.trans x7).trans' bel8
    have q1':=q1.ext x7
    refine hnx hlt' so' se2 w8 ⟨added',_,x18,q1'.oth hoth q3 (λa ha hQb=>by have:=(q2.block ha).1; have:=hQb.1; omega),o8,λa b ha hb'=>?_,q4,q5,by rw[List.length_append,List.length_singleton,hedl],?_⟩
    ·rcases reg8 b hb' with h|h
     ·exact q3 a b ha h
     ·have:=(q1'.block ha).2.1; omega
    ·rw[q6]
     congr 1
     funext r
     rw[List.append_assoc]; rfl
   clear hJ hnx
   refine⟨λhq=>?_,λhq=>?_⟩
   ·have hpe:pl=(ns++added).length:=oM
    have hnone:=hfind.2 hpe
    rw[←hkey]at hnone
    refine⟨sp,rfl,q.N,?_,λhq2=>⟨sp,rfl,?_⟩,λhq2=>bnd.drew λw6 x6=>?_⟩
    ·have:=hb.at1 (k:=8) (cs':=[.int .i64 (q.N:Int)]) (x1.trans x15) rfl
     rw[Zfi]; exact this
    ·have hfull:((ns++added).map Node.key).length=q.N:=by rw[List.length_map]; omega
     rw[Zs0 hnone hfull]at hput
     have hm:q.bind ns k e= .many:=by rw[hbd]; dsimp only; rw[hput]; rfl
     rw[hm]at hR
     refine stw.intro (o:=12) (hb.ext (x1.trans x15)) (by show 13≤14; omega) λw6 b6 _ hb6=>hR true w6 ⟨((x1.trans x15).but _).trans' b6,rfl,(t:Int),Sl.nil,hb6⟩
    ·have hnf: ¬((ns++added).map Node.key).length=q.N:=by rw[List.length_map]; omega
     rw[Zvu hnone hnf]at hput
     have x16:=x15.trans x6
     have x06:=x1.trans x16
     refine⟨ad,⟨had,oM,hlt⟩,_,(hc _ x06).pre rfl,ad,⟨had,oM,hlt⟩,E[i].v.ma,E[i].v.mi,E[i].v.pa,(hc _ x06).mid (k:=1) (r:=[]) rfl,ac,⟨hac,oM,oM⟩,t63,hcc _ x16,newS.intro λa47 w7 x7 hb7 hab7 _=> ?_⟩
     have x37:=x35.trans (x6.trans x7)
     have s67:=(x16.trans x7).size
     have hrep:nodeE.rep w7 (Nb sp w1) (mkNd E[i] l[i]) [.string E[i].name,.int .i64 E[i].v.ma,.int .i64 E[i].v.mi,.int .i64 E[i].v.pa,t63.v,Sl.nil.v]:=⟨hst,t63,Sl.nil,rfl,ht63.ext (x16.trans x7),SlR.nil trivial⟩
     have hlN2:(ns++added).length+1≤q.N:=by rw[List.length_map]at hnf; omega
     refine(oN.ext x37).push Zu4 s67 (x:=mkNd E[i] l[i]) (S':=Nb sp w1) hrep (hb7.ldc.pre (r:=[]) rfl) (λb hb=>by have:=hb.1; omega) (λa ha hb=>by have:=(oN.block ha).1; have:=hb.1; omega) (by rw[eN]; unfold room; omega) (by rw[Zb]; omega) λso2 w8 o8 bel8 oth8 reg8=>?_
     have o8:OwnS nodeE 72 w8 w1.heap.size (Nb sp w1) so2 (ns++(added++ [mkNd E[i] l[i]])):=by
      rw[←List.append_assoc]
      exact o8.mono (λb hb=>hb.elim id id) (λb hb=>by have:=hb.1; have:=bel8.size; omega) (λa ha hb=>by have:=(o8.block ha).1; have:=hb.1; omega)
     have hoth:Oth so w7 w8:=⟨bel8.size,oth8⟩
     have x18:Ext w1 w8:=(x16.trans x7).trans' bel8
     have oE7:=oE.ext x37
     refine hJ' so2 w8 (added++ [mkNd E[i] l[i]]) x18 o8 (oE7.oth hoth hap.swap λ_ _ h=>h.elim) (λa b ha hb'=>?_) (by rw[←List.append_assoc,List.length_append,List.length_singleton]; exact hlN2) (λx hx=>?_) ?_
     ·rcases reg8 a ha with h|h
      ·exact hap a b h hb'
      ·have:=(oE7.block hb').2.1; omega
     ·rcases List.mem_append.1 hx with hx|hx
      ·exact hadc x hx
      ·rw[List.mem_singleton]at hx; subst hx; exact Zmn hG hctx
     ·rw[hput,Option.map_map]
      have e1:(ns++added).map Node.key++ [(mkNd E[i] l[i]).key]=(ns++(added++ [mkNd E[i] l[i]])).map Node.key:=by rw[←List.append_assoc,List.map_append (l₂:= [mkNd E[i] l[i]])]; rfl
      rw[e1]
      congr 1
      funext r
      show(added++(mkNd E[i] l[i]::r.1),ed++((⟨E[i].name,_⟩:Edge)::r.2))=_
      rw[List.append_assoc,hpe,List.length_map]; rfl
   ·have hpl2:pl<(ns++added).length:=by have:=hpl.le; omega
    have hsome:=hfind.1 hpl2
    rw[←hkey]at hsome
    rw[Zvt hsome,Option.map_map]at hput
    exact hJ' so w5 added x15 (oN.ext x35) (oE.ext x35) hap hlN hadc hput
  ·have hdn:xs.drop i= []:=List.drop_eq_nil_of_le oM
   rw[hdn]at hput
   have hput:putK q.N (ns.map Node.key) xs=some (added,ed):=by rw[hput,putK]; simp
   have hbok:q.bind ns k e= .ok (Zbz ns k ed++added):=by rw[hbd]; dsimp only; rw[hput]
   rw[hbok]at hR hne
   dsimp only at hR hne
   have hk6:k<(ns++added).length:=by rw[List.length_append]; omega
   have hgx:(ns++added)[k]=ns[k]:=List.getElem_append_left hk
   have hsol:=oN.len
   have oN':OwnS nodeE 72 w3 w1.heap.size (λb=>Nb sp w1 b∨ ∃ad,se.a=some ad∧b=ad.block) so (ns++added):=oN.mono (λb hb=>.inl hb) (λb hb=>by
    rcases hb with hb|⟨ad,had,rfl⟩
    ·exact oN.lt b hb
    ·exact(oE.block had).2.1) (λa ha hb=>by
    rcases hb with hb|⟨ad,had,he⟩
    ·exact oN.apart a ha hb
    ·exact hap a ad ha had he)
   obtain⟨ad50,cs50,had50,_,_⟩:=oN'.el (i:=k) (x:=ns[k]) (by rw[List.getElem?_eq_getElem hk6,hgx])
   refine⟨ad50,⟨had50,oM,oM⟩,?_⟩
   have hrdE:=oE.read (by rw[eE,hedl]; unfold room; omega) (by rw[Zb,hedl]; omega)
   refine oN'.setEl (i:=k) (x:={ns[k]with edges:=ed}) (o:=5) (new:=[se.v]) hk6 had50 (λcs' hcs'=>?_) (by show 5+1≤6; omega) λw4 b4 hz4 o4=>?_
   ·rw[hgx]at hcs'
    obtain⟨k1,c',e',rfl,k2,k3⟩:=hcs'
    exact⟨k1,c',se,rfl,k2,hrdE.mono λb hb=>.inr (hb.elim (λh=>h.elim) id)⟩
   ·have hset:(ns++added).set k {ns[k]with edges:=ed}=Zbz ns k ed++added:=Zmt hk
    rw[hset]at o4
    have hl50:=(oN.block had50).1
    have x4:Ext w1 w4:=b4.ext x3 hl50
    have x04:=x1.trans x4
    have s4:=x4.size
    have hln:(Zbz ns k ed++added).length=(ns++added).length:=by rw[List.length_append,Zj1,List.length_append]
    have hrdN:SlR nodeE w4 (Nb sp w4) so (Zbz ns k ed++added):=(o4.read (by rw[hln,eN]; unfold room; omega) (by rw[hln,Zb]; omega)).mono λb hb=>by
     rcases hb with(hb|⟨ad,had,rfl⟩)|⟨ad,had,rfl⟩
     ·exact⟨by have:=hb.1; omega,hb.2⟩
     ·have:=oE.block had; have:=b4.1; exact⟨oM,oM⟩
     ·have:=o4.block had; exact⟨this.2.1,oM⟩
    have hN':NsOk q (Zbz ns k ed++added):=by
     refine⟨by rw[hln]; exact hlN,hN.big,?_,λx hx=>?_⟩
     ·obtain⟨x,hx,hxk⟩:=hN.root
      have h1:=congrArg (λl:List NKey=>l[0]?) (Zj0 ns k ed)
      simp only[List.getElem?_map]at h1
      rw[hx]at h1
      cases h2:(Zbz ns k ed)[0]? with
      |none=>rw[h2]at h1; cases h1
      |some y=>
       rw[h2]at h1
       have:y.key=x.key:=Option.some.inj h1
       refine⟨y,?_,this.trans hxk⟩
       rw[List.getElem?_append_left (List.getElem?_eq_some_iff.1 h2).1]; exact h2
     ·rcases List.mem_append.1 hx with hx|hx
      ·obtain⟨y,hy,he⟩:=Zmu hx
       rw[←he]; exact hN.ctx y hy
      ·exact hadc x hx
    have ew:Za ((k:Int)+1)=((k+1:Nat):Int):=by rw[Zc oM oM]; omega
    rw[ew]
    refine SE.Zal.go (Zs4 hf (k:=k+1) (hC.ext x04) (hb.ext x04) hN' (by rw[hln]; omega) ht hD hrdN (λh=>?_) λb w5 hP=>⟨b,rfl,hR b w5 (hP.from (x04.but _))⟩)
    rw[if_neg oM]at hne
    exact hne
theorem Zsv{x:List Ver×Bool}{i:Nat}(h:i<x.1.length):(opts x).drop i=some x.1[i]::(opts x).drop (i+1):=by
 have hl:i<(opts x).length:=by unfold opts; rw[List.length_append,List.length_map]; omega
 rw[List.drop_eq_getElem_cons hl]
 congr 1
 have:(opts x)[i]? =some (some x.1[i]):=by
  unfold opts
  rw[List.getElem?_append_left (by rw[List.length_map]; exact h),List.getElem?_map,List.getElem?_eq_getElem h]; rfl
 rw[List.getElem?_eq_getElem hl]at this
 exact Option.some.inj this
theorem Zsu{V:List Ver}:(opts (V,true)).drop V.length= [none]:=by
 unfold opts
 rw[List.drop_append_of_le_length sI,List.drop_of_length_le sI]; rfl
theorem Zvm{V:List Ver}:(opts (V,false)).drop V.length= []:=List.drop_of_length_le (by simp[opts])
theorem Zln{V:List Ver}{b:Bool}:(opts (V,b)).drop (V.length+1)= []:=List.drop_of_length_le (by cases b<;>simp[opts])
theorem Zv6{D:Nat}{k:Option Ver→Nat→Out}{o:Option Ver}{os:List (Option Ver)}{t:Nat}(h:t=D):Zgt D k (o::os) t= .err 31:=by rw[Zgt,if_pos h]
theorem Zv7{D:Nat}{k:Option Ver→Nat→Out}{o:Option Ver}{os:List (Option Ver)}{t:Nat}(h:t≠D):Zgt D k (o::os) t=match k o (t+1)with| .fail t'=>Zgt D k os t'|r=>r:=by rw[Zgt,if_neg h]; rfl
theorem Z07{e:List Pin}{n:ByteArray}{o:Option Ver}(h: ∀p∈e,Str p.name)(hn:Str n): ∀p∈addO e n o,Str p.name:=λp hp=>by
 unfold addO at hp
 split at hp
 ·exact h p hp
 ·split at hp
  ·exact h p hp
  ·rcases List.mem_append.1 hp with hp|hp
   ·exact h p hp
   ·rw[List.mem_singleton]at hp; subst hp; exact hn
theorem Zrp(q:Quest): ∀f,Zqj q f
 |0=>λsp K d3 d4 ns k ws vk e t nds wss es w _ _ _ _ _ _ _ _ _ _ _ _ hne=>absurd (by rw[Quest.go]) hne
 |f+1=>λsp K d3 d4 ns k ws vk e t nds wss es w hC hb hN hk hvk hwl hwS hnd hstr hel ht hD hne hs hw hes=>by
  have hf:=Zrp q f
  have hwsl:=hw.len
  have hG:=hC.good
  have hsp:=hC.lt
  refine SE.Zb2.go ?_
  unfold SE.Zb2
  refine⟨λhv=>?_,λhv=>?_⟩
  ·have hvl:vk=ws.length:=oM
   rw[hvl,List.drop_length]at hne ⊢
   exact SE.Zbv.go (r11bind_se hf hC hb hN hk oM ht hD hs hes hne λb w' hP=>⟨b,rfl,b,rfl,hP⟩)
  ·have hvl:vk<ws.length:=oM
   have hdr:ws.drop vk=ws[vk]::ws.drop (vk+1):=List.drop_eq_getElem_cons hvl
   obtain⟨ad,tr,had,_,hwn,hwr,hcw⟩:=Zwa hw hvl
   have hwm:ws[vk]∈ws:=List.getElem_mem hvl
   rw[hdr]at hne ⊢
   generalize ws[vk]=wt at*
   rw[Quest.go]at hne ⊢
   have hkx:ns[k]? =some ns[k]:=List.getElem?_eq_getElem hk
   obtain⟨an,cx,ex,han,_,hcx,_,hcn⟩:=Zff hs hk
   have hctx:Zf0 ns k=ns[k].ctx:=by unfold Zf0 Zsl; rw[List.getElem?_map,hkx]; rfl
   have hnl:=hs.len
   rw[hctx]at hne ⊢
   generalize hkf:(λ(o:Option Ver) (t:Nat)=>q.go f ns k (ws.drop (vk+1)) (addO e wt.name o) t)=kf at*
   refine⟨ad,⟨had,oM,oM⟩,_,_,tr,hcw _ xR,newS.set rfl λa w2 x2 ha hab=>⟨_,ha.at1 (k:=1) xR rfl,?_⟩⟩
   have hals:a.block≠sp.block:=oM
   generalize hgoal:Zgt q.D kf (opts (q.cand ns[k].ctx wt)) t=res at*
   refine join.named λJ57 hJ57=>?_
   have key57: ∀(v4:Addr) (is:Bool) w5,Ext w2 w5→(is=true→ ∃v,tells ns[k].ctx wt.name=some v∧BoxAt w5 v4 v.c)→(is=false→tells ns[k].ctx wt.name=none)→J57 v4 is w5:=by
    subst hJ57
    intro v4 is w5 x5 his1 his0
    refine join.named λJ34 hJ34=>?_
    have x05:=x2.trans x5
    have key34: ∀(vsl:Sl) (V:List Ver) (may:Bool) w6,Ext w5 w6→SlR verE w6 (Nb sp w6) vsl V→V.length≤1000→q.cand ns[k].ctx wt=(V,may)→J34 vsl may w6:=by
     subst hJ34
     intro vsl V may w6 x6 hV hVl hcand
     rw[hcand]at hgoal
     have hvl6:=hV.len
     have x06:=x05.trans x6
     have x26:=x5.trans x6
     have ha6:=ha.ext x26
     have hal6:=ha6.lt
     have hsp6:=x06.size
     refine loop1.up (N:=V.length+1) (by rw[Zb]; omega) (λi w'=>∃ti:Nat,But sp.block w6 w'∧BoxAt w' sp (srch K q.D q.N d3 d4 ti 0 Sl.nil)∧ti≤q.D∧Zgt q.D kf ((opts (V,may)).drop i) ti=res) ⟨t,(Ext.refl w6).but _,hb.ext x06,ht,by rw[List.drop_zero]; exact hgoal⟩ λi w7 nxt hi ⟨ti,b7,hb7,hti,htry⟩ hn=>⟨λhle=>bound ?_,λhgt=>?_⟩
     ·have hiV:i≤V.length:=oM
      have b07:But sp.block w w7:=(x06.but _).trans' b7
      by_cases hend:i=V.length∧may=false
      ·obtain⟨h1,h2⟩:=hend
       subst h1 h2
       rw[Zvm,Zgt]at htry
       have e1:(((V.length:Int)==(vsl.len:Int))&& !false)=true:=by rw[hvl6]; simp
       refine⟨λ_=> ?_,λh=>by rw[e1]at h; cases h⟩
       rw[←htry]
       exact⟨_,rfl,b07,rfl,hti,hb7⟩
      ·obtain⟨o,ho1,ho2,ho3⟩: ∃o,(opts (V,may)).drop i=o::(opts (V,may)).drop (i+1)∧(∀h:i<V.length,o=some V[i])∧(¬i<V.length→o=none):=by
        by_cases hlt:i<V.length
        ·exact⟨some V[i],Zsv (x:=(V,may)) hlt,λ_=>rfl,λh=>absurd hlt h⟩
        ·have hiv:i=V.length:=oM
         have hm:may=true:=by
          cases may with
          |true=>rfl
          |false=>exact absurd ⟨hiv,rfl⟩ hend
         subst hm hiv
         exact⟨none,by rw[Zsu,Zln],λh=>absurd h hlt,λ_=>rfl⟩
       rw[ho1]at htry
       refine⟨λh=>?_,λ_=>bnd.drew λw8 x8=>?_⟩
       ·rw[Bool.and_eq_true]at h
        obtain⟨h1,h2⟩:=h
        have h1:=eq_of_beq h1
        exact absurd ⟨oM,by simpa using h2⟩ hend
       ·have b8:But sp.block w6 w8:=b7.trans' (x8.but _)
        have b08:But sp.block w w8:=(x06.but _).trans' b8
        have hb8:=hb7.ext x8
        refine⟨sp,rfl,ti,hb8.at1 (k:=11) xR rfl,sp,rfl,q.D,hb8.at1 (k:=7) xR rfl,λhq=>⟨sp,rfl,?_⟩,λhq=>⟨sp,rfl,ti,hb8.at1 (k:=11) xR rfl,sp,rfl,?_⟩⟩
        ·have hq':ti=q.D:=oM
         rw[Zv6 hq']at htry
         refine stw.intro (o:=12) hb8 (by show 13≤14; omega) λw9 b9 _ hb9=>?_
         rw[←htry]
         exact⟨_,rfl,b08.trans' b9,rfl,_,_,hb9⟩
        ·have hq':ti≠q.D:=oM
         rw[Zv7 hq']at htry
         have ew:Za ((ti:Int)+1)=((ti+1:Nat):Int):=by rw[Zc oM oM]; omega
         rw[ew]
         refine stw.intro (o:=11) hb8 (by show 12≤14; omega) λw9 b9 _ hb9=>?_
         have hb9:BoxAt w9 sp (srch K q.D q.N d3 d4 ((ti+1:Nat):Int) 0 Sl.nil):=hb9
         have b69:=b8.trans' b9
         have b09:=b08.trans' b9
         have ha9:=b69.box ha6 hals
         have hne2:kf o (ti+1)≠ .out:=λh=>by
          rw[h]at htry
          exact hne htry.symm
         refine join.named λJ hJ=>?_
         have keyJ: ∀(vn:Sl) w22,Ext w9 w22→SlR pinE w22 (Nb sp w22) vn (Zaw (addO e wt.name o))→J vn w22:=by
          subst hJ
          intro vn w22 x22 hvn
          have b022:=b09.trans' (x22.but _)
          have ev:Za ((vk:Int)+1)=((vk+1:Nat):Int):=by rw[Zc oM oM]; omega
          rw[ev]
          have hal:=Zu2 e wt.name o
          have hcall:=hf sp K d3 d4 ns k ws (vk+1) (addO e wt.name o) (ti+1) nds wss vn w22 (hC.but b022) (hb9.ext x22) hN hk oM hwl hwS (Zpf hnd wt.name o) (Z07 hstr hwn) oM oM hD (by rw[←hkf]at hne2; exact hne2) (hs.nbBut b022) (hw.nbBut b022) hvn
          refine hcall.mono λv w23 ⟨b,hv2,hP⟩=>⟨b,hv2,?_⟩
          have hP:Post q sp K d3 d4 w22 (kf o (ti+1)) b w23:=by rw[←hkf]; exact hP
          have hb023:=b022.trans' hP.1
          obtain⟨hP1,hP2⟩:=hP
          cases hr:kf o (ti+1)with
          |out=>exact absurd hr hne2
          |fail t'=>
           rw[hr]at hP2 htry
           obtain⟨rfl,htD,hb23⟩:=hP2
           refine⟨nO,λ_=>hn oM w23 ⟨t',(b69.trans' (x22.but _)).trans' hP1,hb23,htD,htry⟩⟩
          |done ns' t'=>
           rw[hr]at hP2 htry
           obtain⟨rfl,hP3⟩:=hP2
           refine⟨λ_=> ?_,nO⟩
           rw[←htry]
           exact⟨_,rfl,hb023,rfl,hP3⟩
          |err c=>
           rw[hr]at hP2 htry
           obtain⟨rfl,hP3⟩:=hP2
           refine⟨λ_=> ?_,nO⟩
           rw[←htry]
           exact⟨_,rfl,hb023,rfl,hP3⟩
         clear hJ
         refine⟨λhlt=>bnd.drew λw10 x10=>?_,λhlt=>?_⟩
         ·have hlt':i<V.length:=oM
          rw[ho2 hlt']at keyJ
          have hV10:=(hV.nbBut b69).nbExt x10
          obtain⟨av,hav,_,_,hcv⟩:=Z56 hV10 hlt'
          have b010:=b09.trans' (x10.but _)
          have hsp10:sp.block<w10.heap.size:=by have:=b010.1; omega
          refine⟨_,(ha9.ext x10).at0 xR rfl,av,⟨hav,oM,oM⟩,V[i].ma,V[i].mi,V[i].pa,by rw[Int.toNat_natCast]; exact hcv _ xR,?_⟩
          refine SE.Zdn.go (Z57 (e:=e) (p:=⟨wt.name,V[i]⟩) (Nb.old sp w10) (hes.nbBut b010) hnd hwn oM λt117 w11 x11 ht117=>⟨_,rfl,keyJ t117 w11 (x10.trans x11) (ht117.mono λb hb=>?_)⟩)
          have:=x11.size
          rcases hb with hb|hb
          ·exact⟨by have:=hb.1; omega,hb.2⟩
          ·exact⟨hb.2,oM⟩
         ·rw[ho3 oM]at keyJ
          exact keyJ es w9 xR (hes.nbBut b09)
     ·have hi':i=V.length+1:=oM
      rw[hi',Zln,Zgt]at htry
      rw[←htry]
      exact⟨_,rfl,(x06.but _).trans' b7,rfl,hti,hb7⟩
    clear hJ34
    have hsp5:=x05.size
    refine⟨λh=>?_,λh=>?_⟩
    ·obtain⟨v,hv1,hv2⟩:=his1 h
     refine⟨tr,(ha.ext x5).at1 (k:=2) (r:=[]) xR rfl,v.ma,v.mi,v.pa,hv2.ldc.pre (r:=[]) rfl,?_⟩
     refine SE.Zcq.go (Zra (hwr.ext x05) λw6 x6=>⟨_,rfl,λh1=>?_,λh1=>?_⟩)
     ·refine⟨v.ma,v.mi,v.pa,(hv2.ext x6).ldc.pre (r:=[]) rfl,newS.intro λa42 w7 x7 hb42 hab42 _=> ?_⟩
      have eb:verE.bytes=24:=rfl
      refine(OwnS.zero (E:=verE) (T:=50) w7).push Zwe nR (x:=v) (S':=None') ⟨rfl,trivial⟩ (hb42.ldc.pre (r:=[]) rfl) (λ_ h=>h.elim) (λ_ _ h=>h.elim) (by rw[eb]; simp; unfold room; omega) (by rw[Zb]; simp) λt56 w8 o8 bel8 _ _=> ?_
      have x78:Ext w7 w8:=(Ext.refl w7).trans' bel8
      have hrd:=o8.read (by rw[eb]; simp; unfold room; omega) (by rw[Zb]; simp)
      refine key34 t56 [v] false w8 (x6.trans (x7.trans x78)) (hrd.mono λb hb=>?_) sI ?_
      ·rcases hb with hb|⟨ad8,had8,rfl⟩
       ·rcases hb with hb|hb<;>exact hb.elim
       ·have:=o8.block had8
        have:=(x6.trans x7).size
        exact⟨oM,oM⟩
      ·unfold Quest.cand; rw[hv1]; dsimp only; rw[if_pos h1]
     ·refine key34 Sl.nil [] false w6 x6 (SlR.nil trivial) sI ?_
      unfold Quest.cand; rw[hv1]; dsimp only; rw[if_neg (by rw[h1]; decide)]
    ·have hv0:=his0 h
     refine bnd.drew λw6 x6=>⟨sp,rfl,_,hb.at0 (x05.trans x6) rfl,_,(ha.ext (x5.trans x6)).at0 xR rfl,tr,(ha.ext (x5.trans x6)).at1 (k:=2) (r:=[]) xR rfl,sp,rfl,K.pS,hb.at1 (k:=6) (x05.trans x6) rfl,?_⟩
     have x06:=x05.trans x6
     have hC6:=hC.ext x06
     obtain⟨SC,hcat,_,_⟩:=hC6.cat
     refine SE.Zag.go (Zui (n:=wt.name) (ll:=wt.range) (lp:=q.pins) hcat (hwr.ext x06) hC6.pins λt69 w7 x7 ht69=>⟨_,rfl,key34 t69 _ _ w7 (x6.trans x7) (ht69.nbNew hC6.lt) (Nat.le_trans (Zvb hG wt.name wt.range q.pins) oM) ?_⟩)
     unfold Quest.cand; rw[hv0]; dsimp only
     congr 1
   clear hJ57
   refine bnd.drew λw3 x3=>⟨an,⟨han,oM,oM⟩,cx,(hcn _ (x2.trans x3)).mid (k:=4) rfl,_,(ha.ext x3).at0 xR rfl,?_,?_⟩
   ·refine SE.Zdm.go (Zp6 (hcx.ext (x2.trans x3)) (λv w4 hv x4=>⟨_,_,_,_,rfl,newS.set rfl λa67 w5 x5 hb5 _=>key57 a67 true w5 (x3.trans (x4.trans x5)) (λ_=>⟨v,hv,hb5⟩) nO⟩) λw4 hv x4=>⟨_,_,_,_,rfl,newS.set rfl λa67 w5 x5 hb5 _=>key57 a67 false w5 (x3.trans (x4.trans x5)) nO λ_=>hv⟩)
   ·refine newS.intro λa70 w4 x4 hb4 hab4 _=>SE.Zdm.go (Zp6 (hcx.ext ((x2.trans x3).trans x4)) (λv w5 hv x5=>⟨_,_,_,_,rfl,stw0.intro (hb4.ext x5) sI λw6 b6 _ hb6=>key57 a70 true w6 (b6.ext (x3.trans (x4.trans x5)) (by have:=x3.size; omega)) (λ_=>⟨v,hv,hb6⟩) nO⟩) λw5 hv x5=>⟨_,_,_,_,rfl,stw0.intro (hb4.ext x5) sI λw6 b6 _ hb6=>key57 a70 false w6 (b6.ext (x3.trans (x4.trans x5)) (by have:=x3.size; omega)) nO λ_=>hv⟩)
theorem Zw9{m:Mani}{d e o v:Sl}{S:Nat→Prop}{w:World}{R:ByteArray→World→Prop}(hm:Zc5 m=true)(hd:SlR depE w S d m.deps)(he:SlR depE w S e m.dev)(ho:SlR depE w S o m.opt)(hv:SlR depE w S v m.over)
  (hR: ∀w',Ext w w'→R (B (Zgw m)) w'):SE.Zdj d e o v w R:=by
 unfold SE.Zdj
 unfold Zc5 at hm
 simp only[Bool.and_eq_true]at hm
 obtain⟨⟨⟨h1,h2⟩,h3⟩,h4⟩:=hm
 have n1:=Zi h1; have n2:=Zi h2; have n3:=Zi h3; have n4:=Zi h4
 have l1:=Zav (word:=wNeeds) dC λd hd=>(n1.2 d hd).1
 have l2:=Zav (word:=wDev) dC λd hd=>(n2.2 d hd).1
 have l3:=Zav (word:=wLikes) dC λd hd=>(n3.2 d hd).1
 have l4:=Zav (word:=wPins) dC λd hd=>(n4.2 d hd).1
 refine newS.intro λa w1 x1 hb _ _=>bnd.drew λw2 x2=>?_
 refine⟨d,hb.at0 xT rfl,e,hb.at1 xT rfl,o,hb.at1 xT rfl,v,hb.at1 xT rfl,callX.intro (SE.Zaa.go (word:=B wNeeds) (Zfc dC h1 (hd.ext xT) λw3 x3=>⟨x3,_,rfl,?_⟩))⟩
 simp only[Zhk]
 refine⟨by rw[Za2,Zl,Zs]; simp; omega,callX.intro (SE.Zaa.go (word:=B wDev) (Zfc dC h2 (he.ext xT) λw4 x4=>⟨x4,_,rfl,?_⟩))⟩
 simp only[Zgp]
 refine⟨by rw[Zl,Zl,Zs]; simp; omega,callX.intro (SE.Zaa.go (word:=B wLikes) (Zfc dC h3 (ho.ext xT) λw5 x5=>⟨x5,_,rfl,?_⟩))⟩
 simp only[Zgp]
 refine⟨by rw[Zl,Zl,Zs]; simp; omega,SE.Zaa.go (word:=B wPins) (Zfc dC h4 (hv.ext xT) λw6 x6=>⟨_,rfl,?_⟩)⟩
 simp only[Zgp]
 refine⟨by rw[Zl,Zl,Zs]; simp; omega,?_⟩
 have:=hR w6 xT
 simpa[Zgw,pjText]using this
theorem Zz2{m:Mani}{d e o v:Sl}{S:Nat→Prop}{w:World}{R:Bool→World→Prop}(hd:SlR depE w S d m.deps)(he:SlR depE w S e m.dev)(ho:SlR depE w S o m.opt)(hv:SlR depE w S v m.over)
  (hR: ∀w',Ext w w'→R (Zb1 m) w'):SE.Zea d e o v w R:=by
 unfold SE.Zea
 refine newS.intro λ_ w1 x1 hb _ _=> ?_
 refine⟨d,hb.at0 xT rfl,SE.Zaf.go (Zf5 (hd.ext xT) λw2 x2=>⟨_,rfl,bound ?_⟩)⟩
 refine⟨e,λ_=>hb.at1 xT rfl,gCall.intro (Zm m.dev) (λ_ q hq=>SE.Zaf.go (Zf5 (he.ext xT) λw' hx=>⟨_,rfl,hq _ hx⟩)) λt2 w3 x3 ht2=>bound ?_⟩
 refine⟨o,λ_=>hb.at1 xT rfl,gCall.intro (Zm m.opt) (λ_ q hq=>SE.Zaf.go (Zf5 (ho.ext xT) λw' hx=>⟨_,rfl,hq _ hx⟩)) λt3 w4 x4 ht3=>bound ?_⟩
 refine⟨v,λ_=>hb.at1 xT rfl,gCall.intro (Zm m.over) (λ_ q hq=>SE.Zaf.go (Zf5 (hv.ext xT) λw' hx=>⟨_,rfl,hq _ hx⟩)) λt4 w5 x5 ht4=>?_⟩
 have e1:((((!Zm m.deps)||(!t2))||(!t3))||(!t4))= !Zc5 m:=by
  unfold Zc5
  cases h1:Zm m.deps
  ·simp
  rw[h1]at ht2 ht3 ht4
  rw[ht2 rfl]at ht3 ht4 ⊢
  cases h2:Zm m.dev
  ·simp
  rw[h2]at ht3 ht4
  rw[ht3 rfl]at ht4 ⊢
  cases h3:Zm m.opt
  ·simp
  rw[h3]at ht4
  rw[ht4 rfl]
  simp
 rw[e1]
 refine⟨λh=>?_,λh=>?_⟩
 ·have:Zb1 m=false:=by
   unfold Zb1
   have:Zc5 m=false:=by simpa using h
   rw[this]; rfl
  rw[←this]; exact hR _ xT
 have hm:Zc5 m=true:=by simpa using h
 refine⟨d,hb.at0 xT rfl,e,hb.at1 xT rfl,SE.Zak.go (Zf4 (hd.ext xT) (he.ext xT) λw6 x6=>⟨_,rfl,?_⟩)⟩
 refine⟨d,λ_=>hb.at0 xT rfl,o,λ_=>hb.at1 xT rfl,gCall.intro (Zdb m.deps m.opt) (λ_ q hq=>SE.Zak.go (Zf4 (hd.ext xT) (ho.ext xT) λw' hx=>⟨_,rfl,hq _ hx⟩)) λt5 w7 x7 ht5=>bound ?_⟩
 refine⟨e,λ_=>hb.at1 xT rfl,o,λ_=>hb.at1 xT rfl,gCall.intro (Zdb m.dev m.opt) (λ_ q hq=>SE.Zak.go (Zf4 (he.ext xT) (ho.ext xT) λw' hx=>⟨_,rfl,hq _ hx⟩)) λt6 w8 x8 ht6=>bound ?_⟩
 have e2:((Zdb m.deps m.dev&&t5)&&t6)=Zhl m:=by
  unfold Zhl
  cases h1:Zdb m.deps m.dev
  ·rfl
  rw[h1]at ht5 ht6
  rw[ht5 rfl]at ht6 ⊢
  cases h2:Zdb m.deps m.opt
  ·rfl
  rw[h2]at ht6
  rw[ht6 rfl]
 rw[e2]
 refine⟨d,e,o,v,λ_=>hb.at0 (r:=[]) xT rfl,gCall.intro (B (Zgw m)) (λ_ q hq=>SE.Zdj.go (Zw9 hm (hd.ext xT) (he.ext xT) (ho.ext xT) (hv.ext xT) λw' hx=>⟨_,rfl,hq _ hx⟩)) λt7 w9 x9 ht7=>?_⟩
 have e3:(Zhl m&&decide ((t7.size:Int)≤4096))=Zb1 m:=by
  unfold Zb1
  rw[hm,Bool.true_and]
  cases h1:Zhl m
  ·rfl
  rw[ht7 h1,Zl,Bool.true_and,Bool.true_and,decide_eq_decide]; omega
 rw[e3]; exact hR _ xT
theorem Z1e{w:World}{a ad:Addr}{x u v:Value}(hb:BoxAt w a [x])(h0:w.cell? (ad.add 0)=some u)(h1:w.cell? (ad.add 1)=some v):ad.block≠a.block:=λe=>by
 obtain⟨t,_,_,hh⟩:=hb
 have e0:ad.add 0=ad:=rfl
 have e1:ad.add 1=⟨ad.block,ad.off+1,none⟩:=rfl
 rw[e0]at h0
 rw[e1]at h1
 unfold World.cell? at h0 h1
 rw[e,hh]at h0
 dsimp only at h1
 rw[e,hh]at h1
 dsimp only at h0 h1
 split at h0
 ·cases h0
 ·have a0:=(Array.getElem?_eq_some_iff.1 h0).1
  simp only[Option.isSome_none,Bool.false_eq_true,if_false]at h1
  have a1:=(Array.getElem?_eq_some_iff.1 h1).1
  simp at a0 a1
theorem SlR.apartBox{α:Type}{E:Enc α}{w:World}{S S':Nat→Prop}{s:Sl}{l:List α}{a:Addr}{x:Value}(h:SlR E w S s l)(hn:2≤E.n)(hb:BoxAt w a [x])(hS: ∀b,S b→b≠a.block→S' b)(hf: ∀y∈l,∀cs,E.rep w S y cs→E.rep w S' y cs):SlR E w S' s l:=by
 obtain⟨h1,h2,h3,h4,h5⟩:=h
 refine⟨h1,h2,h3,h4,?_⟩
 rcases h5 with h0|⟨ad,ha,hs,hel⟩
 ·exact .inl h0
 ·rcases Nat.eq_zero_or_pos l.length with h0|h0
  ·exact .inl (List.eq_nil_of_length_eq_zero h0)
  ·refine .inr ⟨ad,ha,hS _ hs ?_,λi y hy=>?_⟩
   ·obtain⟨cs,hr,hl⟩:=hel 0 l[0] (List.getElem?_eq_getElem h0)
    rw[Nat.zero_mul]at hl
    have hcl:=E.len hr
    have c0:=hl 0 cs[0] (List.getElem?_eq_getElem oM)
    have c1:=hl 1 cs[1] (List.getElem?_eq_getElem oM)
    have e0:ad.add 0=ad:=rfl
    rw[e0]at c0 c1
    exact Z1e hb c0 c1
   ·obtain⟨cs,hr,hl⟩:=hel i y hy
    exact⟨cs,hf y (List.mem_of_getElem? hy) cs hr,hl⟩
theorem Zn9{w:World}{S:Nat→Prop}{s:Sl}{l:List Node}{a:Addr}{x:Value}(h:SlR nodeE w S s l)(hb:BoxAt w a [x]):SlR nodeE w (λb=>S b∧b≠a.block) s l:=
 h.apartBox dC hb (λb h1 h2=>⟨h1,h2⟩) λy _ cs ⟨h0,c,e,hcs,hc,he⟩=>⟨h0,c,e,hcs,hc.apartBox dC hb (λb h1 h2=>⟨h1,h2⟩) (λ_ _ _ h=>h),he.apartBox dC hb (λb h1 h2=>⟨h1,h2⟩) (λ_ _ _ h=>h)⟩
theorem Zz4{L:List Pack}{m:Mani}{dev:Bool}{pins:List Pin}{SC SA:Nat→Prop}{cp:Addr}{mD mDev mOpt mOv pS:Sl}{D N d3 d4:Int}{w:World}{R:Sl→Int→Int→World→Prop}(hSA:Old SA w)
  (hcat:RefR w SC cp L) (hd:SlR depE w SA mD m.deps) (he:SlR depE w SA mDev m.dev) (ho:SlR depE w SA mOpt m.opt) (hv:SlR depE w SA mOv m.over) (hp:SlR pinE w SA pS pins)
  (hR: ∀nds T w',Ext w w'→SlR nodeE w' T nds (Zjz L m dev pins D N).ns→R nds (Zjz L m dev pins D N).dec (Zjz L m dev pins D N).code w'):
  SE.Zeb (some cp) mD mDev mOpt mOv dev pS D N d3 d4 w R:=by
 unfold SE.Zeb
 refine newS.intro λa w1 x1 ha hab _=>newS.intro λa1 w2 x2 ha1 hab1 _=>newS.intro λa3 w3 x3 ha3 hab3 _=>bound ⟨mD,mDev,mOpt,mOv,λ_=>ha.at0 (r:=[]) (x2.trans x3) rfl,?_⟩
 have x03:=x1.trans (x2.trans x3)
 have s1:=x1.size; have s2:=x2.size; have s3:=x3.size
 have hcpl:cp.block<w.heap.size:=by obtain⟨s,hb,_⟩:=hcat.at_; exact hb.lt
 refine gCall.intro (Zb1 m) (λ_ k hk=>SE.Zea.go (Zz2 (hd.ext x03) (he.ext x03) (ho.ext x03) (hv.ext x03) λw4 x4=>⟨_,rfl,hk w4 x4⟩)) λt19 w4 x4 ht=>?_
 have ht:=ht rfl
 subst ht
 have x04:=x03.trans x4
 have x14:Ext w1 w4:=x2.trans (x3.trans x4)
 have x24:Ext w2 w4:=x3.trans x4
 refine bound ⟨D,λ_=>ha1.at0 x24 rfl,bound ⟨D,λ_=>ha1.at0 x24 rfl,bound ⟨N,λ_=>ha1.at1 (k:=1) x24 rfl,bound ⟨N,λ_=>ha1.at1 (k:=1) x24 rfl,λhq=>?_,λhq=>?_⟩⟩⟩⟩
 ·have hno: ¬(Zb1 m=true∧1≤D∧D≤4096∧1≤N∧N≤128):=λ⟨h1,h2,h3,h4,h5⟩=>by
   rw[h1,decide_eq_false oM,decide_eq_false oM,decide_eq_false oM,decide_eq_false oM]at hq
   cases hq
  have hr:Zjz L m dev pins D N= .err 1:=by unfold Zjz; rw[if_neg hno]
  rw[hr]at hR
  refine stw0.intro (ha3.ext x4) sI λw5 b5 _ hb5=>⟨Sl.nil,hb5.ldc.pre (r:=[]) rfl,hR Sl.nil (λ_=>True) w5 (b5.ext x04 oM) (SlR.nil trivial)⟩
 ·have hok:Zb1 m=true∧1≤D∧D≤4096∧1≤N∧N≤128:=by
   simp only[Bool.or_eq_false_iff,Bool.not_eq_false',decide_eq_false_iff_not,Option.isNone_some,Bool.false_or]at hq
   obtain⟨⟨⟨⟨h1,h2⟩,h3⟩,h4⟩,h5⟩:=hq
   exact⟨h1,oM,oM,oM,oM⟩
  have hr:Zjz L m dev pins D N=(Quest.mk L m dev pins D.toNat N.toNat).res:=by unfold Zjz; rw[if_pos hok]
  rw[hr]at hR
  obtain⟨hm,hD1,hD2,hN1,hN2⟩:=hok
  obtain⟨Dn,rfl⟩: ∃n:Nat,D=(n:Int):=⟨D.toNat,oM⟩
  obtain⟨Nn,rfl⟩: ∃n:Nat,N=(n:Int):=⟨N.toNat,oM⟩
  rw[Int.toNat_natCast,Int.toNat_natCast]at hR
  generalize hqq:Quest.mk L m dev pins Dn Nn=q at hR
  have hqL:q.L=L:=by rw[←hqq]
  have hqm:q.m=m:=by rw[←hqq]
  have hqd:q.dev=dev:=by rw[←hqq]
  have hqp:q.pins=pins:=by rw[←hqq]
  have hqD:q.D=Dn:=by rw[←hqq]
  have hqN:q.N=Nn:=by rw[←hqq]
  refine⟨mD,mDev,mOpt,mOv,ha.at0 (r:=[]) x14 rfl,Dn,Nn,d3,d4,ha1.at0 (r:=[]) x24 rfl,newS.intro λsp w5 x5 hsp hspb _=>newS.intro λa20 w6 x6 hb20 hab20 _=> ?_⟩
  have s4:=x4.size; have s5:=x5.size; have s6:=x6.size
  have x06:=x04.trans (x5.trans x6)
  have hspl:=hsp.lt
  have hnb: ∀b,b<w.heap.size→Nb sp w6 b:=λb h=>⟨oM,oM⟩
  have hC:Cx w6 sp q ⟨cp,mD,mDev,mOpt,mOv,dev,pS⟩:=⟨⟨SC,by rw[hqL]; exact hcat.ext x06,λh=>by have:=hcat.old _ h; omega,by show cp.block≠sp.block; omega⟩,
   by rw[hqm]; exact(hd.ext x06).mono λb h=>hnb b (hSA b h),by rw[hqm]; exact(he.ext x06).mono λb h=>hnb b (hSA b h),by rw[hqm]; exact(ho.ext x06).mono λb h=>hnb b (hSA b h),by rw[hqm]; exact(hv.ext x06).mono λb h=>hnb b (hSA b h),by rw[hqp]; exact(hp.ext x06).mono λb h=>hnb b (hSA b h),hqd.symm,oM,by rw[hqm]; exact hm⟩
  have hb:BoxAt w6 sp (srch ⟨cp,mD,mDev,mOpt,mOv,dev,pS⟩ q.D q.N d3 d4 ((0:Nat):Int) 0 Sl.nil):=by rw[hqD,hqN]; exact hsp.ext x6
  have hnds:SlR nodeE w6 (Nb sp w6) ⟨some a20,1,1⟩ [rootNode]:=(Zjj (E:=nodeE) (S:=None') (x:=rootNode) hb20 ⟨by unfold Str rootNode; rw[Zb]; decide,Sl.nil,Sl.nil,rfl,SlR.nil trivial,SlR.nil trivial⟩ dC).mono λb h=>by
   rcases h with h|rfl
   ·exact h.elim
   ·exact⟨hb20.lt,oM⟩
  have hNs:NsOk q [rootNode]:=⟨by show 1≤q.N; omega,oM,⟨rootNode,rfl,rfl⟩,λx hx=>by
   rw[List.mem_singleton]at hx; subst hx
   exact⟨.nil,Nat.zero_le _⟩⟩
  have hfine:=Zvy (q:=q) oM
  have hrun:q.run=q.go q.fuel [rootNode] 0 (q.wants [rootNode] 0) (Zf0 [rootNode] 0) 0:=rfl
  refine SE.Zal.go (Zs4 (Zrp q q.fuel) (k:=0) hC hb hNs (Nat.zero_le _) (Nat.zero_le _) oM hnds (λ_ h=>?_) λb w7 hP=>⟨b,rfl,?_⟩)
  ·rw[←hrun]at h; rw[h]at hfine; exact hfine
  rw[if_neg sI,←hrun]at hP
  obtain⟨b67,hP⟩:=hP
  have x46:Ext w4 w7:=b67.ext (x5.trans x6) oM
  have x07:=x04.trans x46
  have ha37:=ha3.ext (x4.trans x46)
  have ha3s:a3.block≠sp.block:=by have:=ha3.lt; omega
  have done: ∀(t12:Int) (nd:Sl) (w':World) (T:Nat→Prop) (n:List Node),Ext w w'→BoxAt w' a3 [nd.v]→SlR nodeE w' T nd n→n=q.res.ns→t12=q.res.code→ ∃(r_Nodes:Sl),ldc w' a3 [(Sl.v r_Nodes)]∧R r_Nodes q.res.dec t12 w':=λt12 nd w' T n hx hbx hsl hn ht=>⟨nd,hbx.ldc.pre (r:=[]) rfl,by rw[ht]; exact hR nd T w' hx (by rw[←hn]; exact hsl)⟩
  unfold Quest.res at done
  cases hrr:q.run with
  |out=>rw[hrr]at hfine; exact hfine.elim
  |fail t=>
   rw[hrr]at hP done
   obtain⟨rfl,_,_⟩:=hP
   refine⟨λ_=>stw0.intro ha37 sI λw8 b8 _ hb8=>done 30 Sl.nil w8 (λ_=>True) [] (b8.ext x07 oM) hb8 (SlR.nil trivial) rfl rfl,nO⟩
  |done ns t=>
   rw[hrr]at hP done
   obtain⟨rfl,fnd,hb7,hfs⟩:=hP
   refine⟨nO,λ_=>⟨0,hb7.at1 (k:=12) xR rfl,λh=>absurd rfl h,λ_=>join.named λJ hJ=>bnd.drew λw8 x8=>?_⟩⟩
   have keyJ: ∀w',Ext w w'→BoxAt w' a3 [fnd.v]→(∃T,SlR nodeE w' T fnd ns)→J t 0 w':=by
    subst hJ
    intro w' hx hbx ⟨T,hT⟩
    exact done 0 fnd w' T ns hx hbx hT rfl rfl
   clear hJ
   have hfa:=Zn9 (hfs.ext x8) (ha37.ext x8)
   have x08:=x07.trans x8
   refine⟨fnd,hb7.at1 (k:=13) (r:=[]) x8 rfl,⟨_,hb7.at1 (k:=11) x8 rfl,stw0.intro (ha37.ext x8) sI λw9 b9 _ hb9=>keyJ w9 (b9.ext x08 oM) hb9 ⟨_,hfa.but b9 λh=>h.2 rfl⟩⟩,stw0.intro (ha37.ext x8) sI λw9 b9 _ hb9=>⟨_,(b9.box (hb7.ext x8) (Ne.symm ha3s)).at1 (k:=11) xR rfl,keyJ w9 (b9.ext x08 oM) hb9 ⟨_,hfa.but b9 λh=>h.2 rfl⟩⟩⟩
  |err c=>
   rw[hrr]at hP done hfine
   obtain⟨rfl,t,fnd,hb7⟩:=hP
   have hc0: ¬c=0:=by rcases hfine with h|h<;>omega
   refine⟨nO,λ_=>⟨c,hb7.at1 (k:=12) xR rfl,λ_=>join.named λJ hJ=>bnd.drew λw8 x8=>?_,λh=>absurd hc0 h⟩⟩
   have keyJ: ∀w',Ext w w'→BoxAt w' a3 [Sl.nil.v]→J 0 c w':=by
    subst hJ
    intro w' hx hbx
    exact done c Sl.nil w' (λ_=>True) [] hx hbx (SlR.nil trivial) rfl rfl
   clear hJ
   have x08:=x07.trans x8
   refine⟨⟨c,hb7.at1 (k:=12) x8 rfl,stw0.intro (ha37.ext x8) sI λw9 b9 _ hb9=>keyJ w9 (b9.ext x08 oM) hb9⟩,stw0.intro (ha37.ext x8) sI λw9 b9 _ hb9=>⟨c,(b9.box (hb7.ext x8) (Ne.symm ha3s)).at1 (k:=12) xR rfl,keyJ w9 (b9.ext x08 oM) hb9⟩⟩
def Tu(b:Nat)(A B:World):Prop:=A.grownBy B (some b)
def Zxx(ks:List Nat)(A B:World):Prop:=∀k∈ks,B.heap[k]? =A.heap[k]?
def Z7z(r:Option Nat):Fence:={Fence.wide with round:=r}
theorem Tu.put(W:World)(l:Nat)(o:Obj):Tu l W (W.putObj l o):=grownBy_putObj' W l o
theorem Tu.alloc(W:World)(b:Nat)(o:Obj):Tu b W (W.alloc o):=World.grownBy_alloc W o _
theorem Tu.at{b k:Nat}{A B:World}{o:Obj}(h:Tu b A B)(hk:A.heap[k]? =some o)(hne:k≠b):B.heap[k]? =some o:=(World.grownBy.block h k (Array.getElem?_eq_some_iff.1 hk).1 (by simpa using hne)).trans hk
def SeqB{α:Type}(n:Nat)(P:Program)(gf:Nat)(lb:Array Value)(enc:α→Value)(zs:List α)(bs:Nat)(ks:List Nat)(w0:World):Prop:=
 ∀(l:Nat) (J:Nat→World→Prop) (Jx:World→Prop) (W:World),Zxx ks w0 W→(∀k A B,J k A→Tu bs A B→J k B)→(∀A B,Jx A→Tu bs A B→Jx B)→
  (∀k (h:k<zs.length) W1,J k W1→YieldAt Fence.wide (n - 1) P l #[enc zs[k]] W1 λe W'=>
   (e= .returned (.bool true)∧J (k+1) W'∧Zxx ks W1 W')∨(e= .returned (.bool false)∧Jx W'))→
  J 0 W→CallsIn Fence.wide n P gf (#[.func (.yield l) #[] #[]]++lb) W λe W'=>(∃v,e= .returned v)∧(J zs.length W'∨Jx W')
def Z8g(l:Nat)(ks:List Nat)(I:Nat→World→Prop)(Ix:Code→World→Prop)(k:Nat)(W:World):Exit→Act→World→Prop
 | .normal,_,W'=>W'.heap[l]? =W.heap[l]? ∧Zxx ks W W'∧I k W'
 | .ret,_,W'=>W'.heap[l]? =W.heap[l]? ∧Ix .ret W'
 | .exit id,_,W'=>W'.heap[l]? =W.heap[l]? ∧Ix (.exit id) W'
 |_,_,_=>False
theorem Zvw{α:Type}{n:Nat}{P:Program}{g:Operand}{ps:Array Tmp}{assign body:Code}{Q:Exit→Act→World→Prop}{a:Act}{w w₀:World}{r₀:Option Nat}{mark:List Deferred}{D:Nat}
  (he: ∀fn,(Instr.enterLoop fn a.tmps ps assign body r₀).run P w= .ok (w₀.heap.size,mark) (w₀.alloc (.loop {state:=.ready,pending:=none,fn,tmps:=a.tmps,params:=ps,assign,body,defers:=D})))
  {gf:Nat} {lb:Array Value} (hg:a.eval g= .func (.func gf) #[] lb) (eg: ∀args w,(callFunc gf args).run P w= .ok (.enter gf args) w)
  {enc:α→Value} {zs:List α} {bs:Nat} {ks:List Nat} (hseq:SeqB (n - 1) P gf lb enc zs bs ks w₀) (hps:ps.size=1)
  (hbs:bs<w₀.heap.size) (hks: ∀k∈ks,k<w₀.heap.size)
  (I:Nat→World→Prop) (Ix:Code→World→Prop) (hI: ∀k A B b,(b=bs∨b=w₀.heap.size)→I k A→Tu b A B→I k B) (hIx: ∀c A B b,(b=bs∨b=w₀.heap.size)→Ix c A→Tu b A B→Ix c B)
  (h0:I 0 w₀) (a₁:α→Act)
  (hassign: ∀(x:α) (W:World) (K:Act→World→Prop),K (a₁ x) W→
   assign.wpIn (Fence.wide.inRound w₀.heap.size) (n - 1 - 1) P (Exit.then K (λ_ _ _=>False)) {tmps:=(ps.zip #[enc x]).foldl (λt (p,v)=>t.setIfInBounds p v) a.tmps,defers:=[]} W)
  (hbody: ∀k (h:k<zs.length) (W:World),(∃r:Loop,W.heap[w₀.heap.size]? =some (.loop r)∧r.defers=D)→I k W→
   body.wpIn (Fence.wide.inRound w₀.heap.size) (n - 1 - 1) P (Z8g w₀.heap.size ks I Ix (k+1) W) (a₁ zs[k]) W)
  (hdone: ∀W,I zs.length W→Q .normal {a with defers:=mark++a.defers} W)
  (hstop: ∀c W,Ix c W→c.wpIn (Z7z r₀) n P Q {a with defers:=mark++a.defers} W):
  (Code.rangeFunc g ps assign body).wpIn (Z7z r₀) n P Q a w:=by
 refine wpIn_rangeFunc λfn hfn=>?_
 generalize hl:w₀.heap.size=l at*
 obtain⟨rec,hrec⟩: ∃rec:LoopState→Option Code→Loop,rec=λst pe=>{state:=st,pending:=pe,fn,tmps:=a.tmps,params:=ps,assign,body,defers:=D}:=⟨_,rfl⟩
 obtain⟨W1,hW1⟩: ∃W1,w₀.alloc (.loop (rec .ready none))=W1:=⟨_,rfl⟩
 have hL1:W1.heap[l]? =some (.loop (rec .ready none)):=by rw[←hW1,←hl]; exact World.alloc_heap_new w₀ _
 refine⟨l,mark,W1,{target:=.fn (.func gf) lb,args:=#[.func (.yield l) #[] #[]]},W1,gf,#[.func (.yield l) #[] #[]]++lb,W1,?_,?_,λ_ _=>trivial,?_,nO,?_⟩
 ·rw[←hW1,hrec]; exact he fn
 ·simp only[resolve,hg]
  simp[go_sem]
 ·simp[invoke,go_sem,eg]
 have hne:l≠bs:=oM
 refine CallsIn.mono (hseq l (λk W=>I k W∧W.heap[l]? =some (.loop (rec .ready none))) (λW=>∃c,Ix c W∧W.heap[l]? =some (.loop (rec .done (some c)))) W1 ?_ ?_ ?_ ?_ ⟨?_,hL1⟩) ?_
 ·intro k hk
  rw[←hW1]; exact Below.heap_alloc _ _ _ (by rw[hl]; exact hks k hk)
 ·exact λk A B ⟨h1,h2⟩ ht=>⟨hI k A B bs (.inl rfl) h1 ht,ht.at h2 hne⟩
 ·exact λA B ⟨c,h1,h2⟩ ht=>⟨c,hIx c A B bs (.inl rfl) h1 ht,ht.at h2 hne⟩
 ·rintro k hk W ⟨hi,hL⟩
  have hy:=run_yield (P:=P) (args:=#[enc zs[k]]) hL (by rw[hrec]; exact hps.symm)
  rw[hrec]at hy
  refine⟨fn,_,assign,body,hy,roundIn_of_wpIn trivial (hassign _ W _ ⟨_,run_beginRound hL (by rw[hrec]),?_⟩)⟩
  have hlt:=(Array.getElem?_eq_some_iff.1 hL).1
  have hl2:(W.putObj l (.loop {rec .ready none with state:=.busy})).heap[l]? =some (.loop {rec .ready none with state:=.busy}):=World.putObj_heap_same hlt
  refine wpIn_mono (hbody k hk _ ⟨_,hl2,by rw[hrec]⟩ (hI k _ _ l (.inr rfl) hi (Tu.put W l _))) ?_
  have fin: ∀(jump:Option Code) (W3:World),W3.heap[l]? =(W.putObj l (.loop {rec .ready none with state:=.busy})).heap[l]? →
    (Instr.endRound l jump).run P W3= .ok (.bool jump.isNone) (W3.putObj l (.loop (rec (if jump.isNone then .ready else .done) jump)))∧
    (W3.putObj l (.loop (rec (if jump.isNone then .ready else .done) jump))).heap[l]? =some (.loop (rec (if jump.isNone then .ready else .done) jump)):=λjump W3 h3=>by
   have hl3:=h3.trans hl2
   have:=run_endRound (P:=P) jump hl3
   rw[hrec]at this ⊢
   exact⟨this,World.putObj_heap_same (Array.getElem?_eq_some_iff.1 hl3).1⟩
  have hks': ∀k∈ks,k≠l:=λk hk=>Nat.ne_of_lt (hks k hk)
  rintro e a3 W3 hp
  cases e with
  |normal=>
   obtain⟨h3,hs3,hi3⟩:=hp
   obtain⟨hr,hl4⟩:=fin none W3 h3
   exact⟨_,_,hr,.inl ⟨rfl,⟨hI _ _ _ l (.inr rfl) hi3 (Tu.put _ _ _),hl4⟩,λj hj=>by
    rw[World.putObj_heap_other (hks' j hj),hs3 j hj,World.putObj_heap_other (hks' j hj)]⟩⟩
  |ret=>
   obtain⟨h3,hi3⟩:=hp
   obtain⟨hr,hl4⟩:=fin (some .ret) W3 h3
   exact⟨_,_,hr,.inr ⟨rfl,.ret,hIx _ _ _ l (.inr rfl) hi3 (Tu.put _ _ _),hl4⟩⟩
  |exit id=>
   obtain⟨h3,hi3⟩:=hp
   obtain⟨hr,hl4⟩:=fin (some (.exit id)) W3 h3
   exact⟨_,_,hr,.inr ⟨rfl,.exit id,hIx _ _ _ l (.inr rfl) hi3 (Tu.put _ _ _),hl4⟩⟩
  |goto t=>exact hp.elim
  |panic ch=>exact hp.elim
  |outgrown=>exact hp.elim
 ·rw[←hW1]; exact hI 0 _ _ l (.inr rfl) h0 (Tu.alloc _ _ _)
 ·rintro e W2 ⟨⟨v,rfl⟩,(⟨hi,hL⟩|⟨c,hi,hL⟩)⟩
  ·exact⟨none,_,by have:=run_endLoop (P:=P) hL (by rw[hrec]; simp); rw[hrec]at this; exact this,hdone _ (hI _ _ _ l (.inr rfl) hi (Tu.put _ _ _))⟩
  ·exact⟨some c,_,by have:=run_endLoop (P:=P) hL (by rw[hrec]; simp); rw[hrec]at this; exact this,hstop c _ (hIx c _ _ l (.inr rfl) hi (Tu.put _ _ _))⟩
theorem Zvg{P:Program}{w:World}(tmps:Array Value)(ps:Array Tmp)(assign body:Code)(fn:FuncId):(Instr.enterLoop fn tmps ps assign body none).run P w=
  .ok ((w.alloc (.deferred (some []))).heap.size,[{target:=.collected w.heap.size,args:=#[]}]) ((w.alloc (.deferred (some []))).alloc (.loop {state:=.ready,pending:=none,fn,tmps,params:=ps,assign,body,defers:=w.heap.size})):=by
 rw[World.size_alloc]; exact run_enterLoop_outer _ _ _ _ _
end Go.Hal
/-
 DERIVED:THE SHELF's CONTRACTS AT THIS DUMP,IN PLAIN WORDS (tools/lay-plain.mjs out of 'YtdjiedhnoanbpaaGreatDoorLay9.lean',which tools/lay-shelf.mjs wrote):THE SAME DECLARATIONS UNDER THE SAME NAMES:'import','namespace','open','def','theorem' AND NOTHING ELSE:no command of the shelf's:FOR A HAND-IN. Each laying:the table of numbers ('.._ren') and one theorem,a field a fact of the dump's own or the kernel's comparison; each contract:ONE APPLICATION.
-/
namespace Go.Proofs
open Go.Proofs.Tryz
open Go.Shelf
def Tryz.layIx_ren:Go.Shelf.Ren:=⟨λ|143=>346|219=>360|217=>357|225=>338|224=>337|267=>368|266=>367|314=>384|n=>n,λ|9=>9|3=>3|4=>4|5=>5|46=>205|146=>425|51=>281|n=>n,λ|1=>0|n=>n⟩
theorem Tryz.layIx:Go.Proofs.Lays.n143 prog Tryz.layIx_ren:={
 mixed:=kR
 f143:=func346.trans kS
 f217:=func357.trans kS
 f219:=func360.trans kS
 f224:=func337.trans kS
 f225:=func338.trans kS
 f266:=func367.trans kS
 f267:=func368.trans kS
 f314:=func384.trans kS
 t3:=underlying3
 a3:=Tryz.isAgg3
 z3:=Tryz.sizeOf3
 v3:=Tryz.zeroValue3
 t4:=underlying4
 a4:=Tryz.isAgg4
 z4:=Tryz.sizeOf4
 v4:=Tryz.zeroValue4
 t5:=underlying5
 a5:=Tryz.isAgg5
 z5:=Tryz.sizeOf5
 v5:=Tryz.zeroValue5
 t9:=underlying9
 a9:=Tryz.isAgg9
 z9:=Tryz.sizeOf9
 v9:=Tryz.zeroValue9
 t46:=underlying205
 a46:=Tryz.isAgg205
 z46:=Tryz.sizeOf205
 v46:=Tryz.zeroValue205
 t51:=underlying281
 a51:=Tryz.isAgg281
 z51:=Tryz.sizeOf281
 v51:=Tryz.zeroValue281
 t146:=underlying425
 a146:=Tryz.isAgg425
 z146:=Tryz.sizeOf425
 v146:=Tryz.zeroValue425
 g1:=by kernel_rfl}
def Tryz.laySS_ren:Go.Shelf.Ren:=⟨λ|146=>347|221=>361|268=>369|138=>370|143=>346|195=>385|197=>249|218=>386|219=>360|260=>303|217=>357|225=>338|224=>337|267=>368|266=>367|314=>384|n=>n,λ|9=>9|31=>102|3=>3|4=>4|0=>0|105=>320|21=>21|5=>5|46=>205|119=>389|139=>392|138=>391|146=>425|51=>281|n=>n,λ|1=>0|3=>1|4=>2|n=>n⟩
theorem Tryz.laySS:Go.Proofs.Lays.n146 prog Tryz.laySS_ren:={
 mixed:=kR
 f138:=func370.trans kS
 f143:=func346.trans kS
 f146:=func347.trans kS
 f195:=func385.trans kS
 f197:=func249.trans kS
 f217:=func357.trans kS
 f218:=func386.trans kS
 f219:=func360.trans kS
 f221:=func361.trans kS
 f224:=func337.trans kS
 f225:=func338.trans kS
 f260:=func303.trans kS
 f266:=func367.trans kS
 f267:=func368.trans kS
 f268:=func369.trans kS
 f314:=func384.trans kS
 t0:=underlying0
 a0:=Tryz.isAgg0
 z0:=Tryz.sizeOf0
 v0:=Tryz.zeroValue0
 t3:=underlying3
 a3:=Tryz.isAgg3
 z3:=Tryz.sizeOf3
 v3:=Tryz.zeroValue3
 t4:=underlying4
 a4:=Tryz.isAgg4
 z4:=Tryz.sizeOf4
 v4:=Tryz.zeroValue4
 t5:=underlying5
 a5:=Tryz.isAgg5
 z5:=Tryz.sizeOf5
 v5:=Tryz.zeroValue5
 t9:=underlying9
 a9:=Tryz.isAgg9
 z9:=Tryz.sizeOf9
 v9:=Tryz.zeroValue9
 t21:=underlying21
 a21:=Tryz.isAgg21
 z21:=Tryz.sizeOf21
 v21:=Tryz.zeroValue21
 t31:=underlying102
 a31:=Tryz.isAgg102
 z31:=Tryz.sizeOf102
 v31:=Tryz.zeroValue102
 t46:=underlying205
 a46:=Tryz.isAgg205
 z46:=Tryz.sizeOf205
 v46:=Tryz.zeroValue205
 t51:=underlying281
 a51:=Tryz.isAgg281
 z51:=Tryz.sizeOf281
 v51:=Tryz.zeroValue281
 t105:=underlying320
 a105:=Tryz.isAgg320
 z105:=Tryz.sizeOf320
 v105:=Tryz.zeroValue320
 t119:=underlying389
 a119:=Tryz.isAgg389
 z119:=Tryz.sizeOf389
 t138:=underlying391
 a138:=Tryz.isAgg391
 z138:=Tryz.sizeOf391
 v138:=Tryz.zeroValue391
 t139:=underlying392
 a139:=Tryz.isAgg392
 z139:=Tryz.sizeOf392
 v139:=Tryz.zeroValue392
 t146:=underlying425
 a146:=Tryz.isAgg425
 z146:=Tryz.sizeOf425
 v146:=Tryz.zeroValue425
 g1:=kR
 g3:=kR
 g4:=by kernel_rfl}
def Tryz.layAt_ren:Go.Shelf.Ren:=⟨λ|172=>348|244=>362|245=>363|247=>371|279=>372|280=>373|281=>374|282=>375|287=>387|316=>388|171=>105|205=>389|321=>393|322=>394|243=>180|246=>255|283=>306|284=>307|285=>308|286=>309|129=>194|317=>339|318=>340|319=>341|320=>342|337=>358|338=>359|n=>n,λ|9=>9|3=>3|75=>163|76=>164|4=>4|5=>5|167=>414|37=>159|0=>0|85=>415|2=>2|168=>417|53=>283|175=>428|46=>205|210=>432|127=>239|145=>439|143=>437|21=>21|171=>363|173=>365|212=>396|51=>281|20=>20|213=>397|232=>411|233=>412|80=>173|n=>n,λ|15=>6|16=>7|17=>3|18=>4|19=>5|n=>n⟩
theorem Tryz.layAt:Go.Proofs.LaysC.n172 prog Tryz.layAt_ren:={
 mixed:=kR
 f129:=func194.trans kS
 f171:=func105.trans kS
 f172:=func348.trans kS
 f205:=func389.trans kS
 f243:=func180.trans kS
 f244:=func362.trans kS
 f245:=func363.trans kS
 f246:=func255.trans kS
 f247:=func371.trans kS
 f279:=func372.trans kS
 f280:=func373.trans kS
 f281:=func374.trans kS
 f282:=func375.trans kS
 f283:=func306.trans kS
 f284:=func307.trans kS
 f285:=func308.trans kS
 f286:=func309.trans kS
 f287:=func387.trans kS
 f316:=func388.trans kS
 f317:=func339.trans kS
 f318:=func340.trans kS
 f319:=func341.trans kS
 f320:=func342.trans kS
 f321:=func393.trans kS
 f322:=func394.trans kS
 f337:=func358.trans kS
 f338:=func359.trans kS
 t0:=underlying0
 a0:=Tryz.isAgg0
 z0:=Tryz.sizeOf0
 v0:=Tryz.zeroValue0
 t2:=underlying2
 a2:=Tryz.isAgg2
 z2:=Tryz.sizeOf2
 v2:=Tryz.zeroValue2
 t3:=underlying3
 a3:=Tryz.isAgg3
 z3:=Tryz.sizeOf3
 v3:=Tryz.zeroValue3
 t4:=underlying4
 a4:=Tryz.isAgg4
 z4:=Tryz.sizeOf4
 v4:=Tryz.zeroValue4
 t5:=underlying5
 a5:=Tryz.isAgg5
 z5:=Tryz.sizeOf5
 v5:=Tryz.zeroValue5
 t9:=underlying9
 a9:=Tryz.isAgg9
 z9:=Tryz.sizeOf9
 v9:=Tryz.zeroValue9
 t20:=underlying20
 a20:=Tryz.isAgg20
 z20:=Tryz.sizeOf20
 v20:=Tryz.zeroValue20
 t21:=underlying21
 a21:=Tryz.isAgg21
 z21:=Tryz.sizeOf21
 v21:=Tryz.zeroValue21
 t37:=underlying159
 a37:=Tryz.isAgg159
 z37:=Tryz.sizeOf159
 v37:=Tryz.zeroValue159
 t46:=underlying205
 a46:=Tryz.isAgg205
 z46:=Tryz.sizeOf205
 v46:=Tryz.zeroValue205
 t51:=underlying281
 a51:=Tryz.isAgg281
 z51:=Tryz.sizeOf281
 v51:=Tryz.zeroValue281
 t53:=underlying283
 a53:=Tryz.isAgg283
 z53:=Tryz.sizeOf283
 v53:=Tryz.zeroValue283
 t75:=underlying163
 a75:=Tryz.isAgg163
 z75:=Tryz.sizeOf163
 v75:=Tryz.zeroValue163
 t76:=underlying164
 a76:=Tryz.isAgg164
 z76:=Tryz.sizeOf164
 v76:=Tryz.zeroValue164
 t85:=underlying415
 a85:=Tryz.isAgg415
 z85:=Tryz.sizeOf415
 v85:=Tryz.zeroValue415
 t127:=underlying239
 a127:=Tryz.isAgg239
 z127:=Tryz.sizeOf239
 v127:=Tryz.zeroValue239
 t143:=underlying437
 a143:=Tryz.isAgg437
 z143:=Tryz.sizeOf437
 v143:=Tryz.zeroValue437
 t145:=underlying439
 a145:=Tryz.isAgg439
 z145:=Tryz.sizeOf439
 v145:=Tryz.zeroValue439
 t167:=underlying414
 a167:=Tryz.isAgg414
 z167:=Tryz.sizeOf414
 v167:=Tryz.zeroValue414
 t168:=underlying417
 a168:=Tryz.isAgg417
 z168:=Tryz.sizeOf417
 v168:=Tryz.zeroValue417
 t171:=underlying363
 a171:=Tryz.isAgg363
 z171:=Tryz.sizeOf363
 v171:=Tryz.zeroValue363
 t173:=underlying365
 a173:=Tryz.isAgg365
 z173:=Tryz.sizeOf365
 v173:=Tryz.zeroValue365
 t175:=underlying428
 a175:=Tryz.isAgg428
 z175:=Tryz.sizeOf428
 v175:=Tryz.zeroValue428
 t210:=underlying432
 a210:=Tryz.isAgg432
 z210:=Tryz.sizeOf432
 v210:=Tryz.zeroValue432
 t212:=underlying396
 a212:=Tryz.isAgg396
 z212:=Tryz.sizeOf396
 v212:=Tryz.zeroValue396
 t213:=underlying397
 a213:=Tryz.isAgg397
 z213:=Tryz.sizeOf397
 t232:=underlying411
 a232:=Tryz.isAgg411
 z232:=Tryz.sizeOf411
 v232:=Tryz.zeroValue411
 t233:=underlying412
 a233:=Tryz.isAgg412
 z233:=Tryz.sizeOf412
 v233:=Tryz.zeroValue412
 g15:=kR
 g16:=kR
 g17:=kR
 g18:=kR
 g19:=kR
 t80:=underlying173
 a80:=Tryz.isAgg173
 z80:=Tryz.sizeOf173
 v80:=Tryz.zeroValue173
 i0:=kR
 i2:=kR
 i3:=kR
 i4:=kR
 i5:=kR
 i9:=kR
 i20:=kR
 i21:=kR
 i37:=kR
 i46:=kR
 i51:=kR
 i53:=kR
 i75:=kR
 i76:=kR
 i80:=kR
 i85:=kR
 i127:=kR
 i143:=kR
 i145:=kR
 i167:=kR
 i168:=kR
 i171:=kR
 i173:=kR
 i175:=kR
 i210:=kR
 i212:=kR
 i232:=kR
 i233:=kR
 m15:=kR
 m16:=kR
 m17:=kR
 m18:=kR
 m19:=kR
 c0:=kR
 c2:=kR
 c3:=kR
 c4:=kR
 c5:=kR
 c9:=kR
 c20:=kR
 c21:=kR
 c37:=kR
 c46:=kR
 c51:=kR
 c53:=kR
 c75:=kR
 c76:=kR
 c80:=kR
 c85:=kR
 c127:=kR
 c143:=kR
 c145:=kR
 c167:=kR
 c168:=kR
 c171:=kR
 c173:=kR
 c175:=kR
 c210:=kR
 c212:=kR
 c213:=kR
 c232:=kR
 c233:=by kernel_rfl}
end Go.Proofs
namespace Go.Hal
open Go.Proofs.Tryz
open Go Go.RowKit Go.Proofs Go.Shelf
theorem Zor{sep:ByteArray}(h1:1≤sep.size): ∀(k j:Nat) (s:ByteArray),s.size≤k→s.size≤j→Lib.splitB sep 0 k s=Lib.splitB sep 0 j s
 |k,j,s,hk,hj=>by
  rcases Lib.indexB_cases s sep with hix|⟨i,hix,hroom⟩
  ·rw[Lib.splitB_miss _ _ _ _ hix,Lib.splitB_miss _ _ _ _ hix]
  ·match k,j with
   |0,_=>omega
   |k+1,0=>omega
   |k+1,j+1=>
    rw[Lib.splitB_hit _ _ _ _ i hix,Lib.splitB_hit _ _ _ _ i hix,Zor h1 k j _ (by rw[ByteArray.size_extract]; omega) (by rw[ByteArray.size_extract]; omega)]
termination_by k=>k
def Zar(sep s:ByteArray):List ByteArray:=Lib.splitB sep 0 s.size s
theorem Zwj{sep s:ByteArray}(h:Lib.indexB s sep= -1):Zar sep s= [s]:=Lib.splitB_miss _ _ _ _ h
theorem Zyf{sep s:ByteArray}(h1:1≤sep.size){i:Nat}(h:Lib.indexB s sep=i)(hr:i+sep.size≤s.size):Zar sep s=s.extract 0 i::Zar sep (s.extract (i+sep.size) s.size):=by
 unfold Zar
 obtain⟨k,hk⟩: ∃k,s.size=k+1:=⟨s.size - 1,oM⟩
 rw[hk,Lib.splitB_hit _ _ _ _ i h,←hk,Nat.add_zero]
 rw[Zor h1 k (s.extract (i+sep.size) s.size).size _ (by rw[ByteArray.size_extract]; omega) nR]
attribute [local go_sem] Oper.semAt_some
def Z8j:Option Value→Nat
 |some (.string s)=>s.size
 |_=>0
def Z7s:Option Obj→Nat
 |some (.cells cs _ _)=>Z8j cs[0]?
 |_=>0
theorem Boxed.same{A B:World}{b:Nat}{t:TypeId}{v:Value}(h:Boxed A b t v)(hs:B.heap[b]? =A.heap[b]?):Boxed B b t v:=hs.trans h
set_option maxRecDepth 100000 in
theorem Zi9(n:Nat)(hn:1≤n)(sep:ByteArray)(h1:1≤sep.size)(bp bs bz:Nat)(hps:bp≠bs)(hzs:bz≠bs)(text:ByteArray)(ht:text.size≤4096)(m:Int)(gm:bs≠0)(w0:World)
  (hp:Boxed w0 bp 9 (.string sep)) (hs:Boxed w0 bs 9 (.string text)) (hz:Boxed w0 bz 3 (.int .i64 0)) (hm:w0.cell? ⟨0,0,none⟩=some (.int .i64 m)):
  SeqB n prog 345 #[.pointer (some ⟨bp,0,none⟩),.pointer (some ⟨bs,0,none⟩),.pointer (some ⟨bz,0,none⟩)] Value.string (Zar sep text) bs [bp,bs,bz,0] w0:=by
 intro l J Jx W hsame hJ hJx hY h0
 have kp:=Boxed.same hp (hsame bp sI)
 have ks:=Boxed.same hs (hsame bs sI)
 have kz:=Boxed.same hz (hsame bz sI)
 have km:W.cell? ⟨0,0,none⟩=some (.int .i64 m):=(World.cell?_of_block (hsame _ sI)).trans hm
 have hse:((sep.size:Int)==0)=false:=beq_eq_false_iff_ne.2 oM
 have cp0:=kp.cell
 clear hsame hp hs hz hm
 refine callsIn_of_wp func345 rfl trivial ?_ rfl
 simp only[Tryz.ntmps345,List.size_toArray,List.length_cons,List.length_nil,Nat.reduceAdd,Nat.reduceSub,Array.replicate_succ,Array.replicate_zero,List.push_toArray,List.append_toArray,List.nil_append,List.cons_append]
 gi_wp2
 gi_loopw [] (λwr=>∃(k:Nat) (rest:ByteArray),J k wr∧Boxed wr bp 9 (.string sep)∧Boxed wr bs 9 (.string rest)∧Boxed wr bz 3 (.int .i64 0)∧wr.cell? ⟨0,0,none⟩=some (.int .i64 m)∧rest.size≤4096∧(Zar sep text).drop k=Zar sep rest)
  (λwr=>Z7s (wr.heap[bs]?))
 case atStart=>exact⟨0,text,h0,kp,ks,kz,km,ht,rfl⟩
 case round=>
  obtain⟨k,rest,hJk,kp,ks,kz,km,hrs,hcut⟩:=hrel
  have cp:=kp.cell
  have cs:=ks.cell
  have cz:=kz.cell
  rcases Lib.indexB_cases rest sep with hix|⟨i,hix,hroom⟩
  ·have hcm:=Zwj hix
   have hk:k+1=(Zar sep text).length:=by
    have:=congrArg List.length hcut
    rw[hcm,List.length_drop]at this
    simp only[List.length_cons,List.length_nil]at this
    omega
   have hget:(Zar sep text)[k]=rest:=by
    have:=List.getElem_drop (xs:=Zar sep text) (i:=k) (j:=0) (h:=by rw[hcut,hcm]; simp)
    simp only[hcut,hcm,List.getElem_cons_zero,Nat.add_zero]at this
    exact this.symm
   obtain⟨fn,tmps,assign,body,hy,hR⟩:=hY k oM wr hJk
   rw[hget]at hy
   have HA:Aside (k+1=(Zar sep text).length):=hk
   clear hk hcut hcm hget
   gi_wp2_with (refine⟨trivial,?_⟩; gi_at_call 346; refine(callsIn_wide.2 (Any.strings_Index Tryz.layIx rest sep m wr oM km)).mono ?_; rintro e w' ⟨rfl,rfl⟩; rw[show Lib.index rest.data.toList sep.data.toList= -1 from hix])
   refine hR.mono ?_
   rintro e W3 (⟨rfl,hJ3,hk3⟩|⟨rfl,hJx3⟩)
   ·gi_wp2
    go_end0
    exact⟨⟨_,rfl⟩,.inl (HA.out▸hJ3)⟩
   ·gi_wp2
    go_end0
    exact⟨⟨_,rfl⟩,.inr hJx3⟩
  ·have hch:=Zyf h1 hix hroom
   have hk:k<(Zar sep text).length:=by
    have:=congrArg List.length hcut
    rw[hch,List.length_drop]at this
    simp only[List.length_cons]at this
    omega
   have hget:(Zar sep text)[k]=rest.extract 0 i:=by
    have:=List.getElem_drop (xs:=Zar sep text) (i:=k) (j:=0) (h:=by rw[hcut,hch]; simp)
    simp only[hcut,hch,List.getElem_cons_zero,Nat.add_zero]at this
    exact this.symm
   have hcut2:(Zar sep text).drop (k+1)=Zar sep (rest.extract (i+sep.size) rest.size):=by
    rw[←List.drop_drop,hcut,hch,List.drop_one,List.tail_cons]
   obtain⟨fn,tmps,assign,body,hy,hR⟩:=hY k hk wr hJk
   rw[hget]at hy
   have HA:Aside ((Zar sep text).drop (k+1)=Zar sep (rest.extract (i+sep.size) rest.size)):=hcut2
   clear hk hcut hch hget hcut2
   have c0: ¬((i:Int)<0):=oM
   have c1:(0:Int)≤ ↑i:=oM
   have c2:(↑i:Int)≤ ↑rest.size:=oM
   have c3:(0:Int)≤ ↑i+ ↑sep.size:=oM
   have c4:(↑i+ ↑sep.size:Int)≤ ↑rest.size:=oM
   have hc64:(↑i+ ↑sep.size:Int)≤9223372036854775807:=oM
   gi_wp2_with (refine⟨trivial,?_⟩; gi_at_call 346; refine(callsIn_wide.2 (Any.strings_Index Tryz.layIx rest sep m wr oM km)).mono ?_; rintro e w' ⟨rfl,rfl⟩; rw[show Lib.index rest.data.toList sep.data.toList=i from hix])
   refine hR.mono ?_
   rintro e W3 (⟨rfl,hJ3,hk3⟩|⟨rfl,hJx3⟩)
   ·have kp3:=Boxed.same kp (hk3 bp sI)
    have ks3:=Boxed.same ks (hk3 bs sI)
    have kz3:=Boxed.same kz (hk3 bz sI)
    have km3:W3.cell? ⟨0,0,none⟩=some (.int .i64 m):=(World.cell?_of_block (hk3 _ sI)).trans km
    have cp3:=kp3.cell
    have cs3:=ks3.cell
    have cf3:=ks3.frozen
    gi_wp2
    go_roundw
    case rel=>
     have ht:=grownBy_setCell' W3 bs (.string (rest.extract (i+sep.size) rest.size))
     exact⟨k+1,rest.extract (i+sep.size) rest.size,hJ _ _ _ hJ3 ht,kp3.kept ht (by simpa using hps),ks3.set _,kz3.kept ht (by simpa using hzs),(World.cell?_of_block (ht.block _ (World.block_lt_of_cell? _ _ km3) (by simp; omega))).trans km3,by rw[ByteArray.size_extract]; omega,HA.out⟩
    case measure=>
     have e1:=ks
     have e2:=ks3.set (.string (rest.extract (i+sep.size) rest.size))
     unfold Boxed at e1 e2
     rw[e1,e2]
     show(rest.extract (i+sep.size) rest.size).size<rest.size
     rw[ByteArray.size_extract]; omega
   ·gi_wp2
    refine bodyPost_ret (results_none rfl _ _ _) rfl ?_
    exact⟨⟨_,rfl⟩,.inr hJx3⟩
end Go.Hal
namespace Go.Hal
open Go.Proofs.Tryz
def digB(b:UInt8):Bool:=decide (48≤b.toNat)&&decide (b.toNat≤57)
def valD(l:List UInt8):Int:=l.foldl (λn b=>10*n+((b.toNat:Int) - 48)) 0
theorem Z0t(l:List UInt8)(b:UInt8):valD (l++ [b])=10*valD l+((b.toNat:Int) - 48):=by unfold valD; rw[List.foldl_append]; rfl
theorem Zqr{m:Nat}(h:m<10):(UInt8.ofNat (48+m)).toNat=48+m:=by
 rw[UInt8.toNat_ofNat']; omega
theorem Zyh: ∀(k:Nat) {n:Int},0≤n→n.toNat=k→valD (dec n)=n:=λk=>by
 induction k using Nat.strongRecOn with
 |ind k ih=>
  intro n h0 hk
  by_cases h:n<10
  ·rw[Zil h0 h]
   show 10*0+(((UInt8.ofNat (48+n.toNat)).toNat:Int) - 48)=n
   rw[Zqr oM]
   omega
  ·rw[Znw oM,Z0t,ih (n/10).toNat oM oM rfl,Zqr oM]
   omega
theorem Ztu{n m:Int}(h0:0≤n)(h1:0≤m)(h:dec n=dec m):n=m:=by rw[←Zyh _ h0 rfl,←Zyh _ h1 rfl,h]
theorem Zyg: ∀(k:Nat) {n:Int},0≤n→n.toNat=k→ ∀b∈dec n,digB b=true:=λk=>by
 induction k using Nat.strongRecOn with
 |ind k ih=>
  intro n h0 hk b hb
  by_cases h:n<10
  ·rw[Zil h0 h,List.mem_singleton]at hb
   subst hb
   unfold digB
   rw[Zqr oM]
   simp; omega
  ·rw[Znw oM]at hb
   rcases List.mem_append.1 hb with hb|hb
   ·exact ih (n/10).toNat oM oM rfl b hb
   ·rw[List.mem_singleton]at hb
    subst hb
    unfold digB
    rw[Zqr oM]
    simp; omega
theorem Z6v(n:Int):dec n≠ []:=by
 unfold dec
 rw[Lib.decDigits]
 split
 ·simp
 ·simp
theorem Zk8{n:Int}(h0:0≤n):(46:UInt8)∉dec n:=λh=>by
 have:=Zyg _ h0 rfl 46 h
 revert this
 decide
theorem Zv4{c:UInt8}{a r:List UInt8}(ha:c∉a)(hr:r= []∨ ∃t,r=c::t):(a++r).takeWhile (λb=>b != c)=a:=by
 rw[List.takeWhile_append_of_pos (λb hb=>by simp; rintro rfl; exact ha hb)]
 rcases hr with rfl|⟨t,rfl⟩
 ·simp
 ·simp
theorem Zx5{c:UInt8}{a b r t:List UInt8}(ha:c∉a)(hb:c∉b)(h:a++c::r=b++c::t):a=b∧r=t:=by
 have h2:=congrArg (List.takeWhile λb=>b != c) h
 rw[Zv4 ha (.inr ⟨_,rfl⟩),Zv4 hb (.inr ⟨_,rfl⟩)]at h2
 subst h2
 exact⟨rfl,(List.cons.inj (List.append_cancel_left h)).2⟩
theorem Zuy{v u:Ver}(hv:v.may=true)(hu:u.may=true)(h:Zbi v=Zbi u):v=u:=by
 unfold Zbi at h
 rw[if_pos hv,if_pos hu]at h
 have hv:=Ver.may_iff.1 hv
 have hu:=Ver.may_iff.1 hu
 simp only[List.append_assoc,List.cons_append,List.nil_append]at h
 obtain⟨h1,h⟩:=Zx5 (Zk8 hv.1.1) (Zk8 hu.1.1) h
 obtain⟨h2,h3⟩:=Zx5 (Zk8 hv.2.1.1) (Zk8 hu.2.1.1) h
 have e1:=Ztu hv.1.1 hu.1.1 h1
 have e2:=Ztu hv.2.1.1 hu.2.1.1 h2
 have e3:=Ztu hv.2.2.1 hu.2.2.1 h3
 obtain⟨a,b,c⟩:=v
 obtain⟨a',b',c'⟩:=u
 simp only at e1 e2 e3
 rw[e1,e2,e3]
def IsVer(s:List UInt8)(v:Ver):Prop:=v.may=true∧Zbi v=s
theorem IsVer.one{s:List UInt8}{v u:Ver}(h:IsVer s v)(k:IsVer s u):v=u:=Zuy h.1 k.1 (h.2.trans k.2.symm)
theorem IsVer.head{s:List UInt8}{v:Ver}(h:IsVer s v): ∃b r,s=b::r∧digB b=true:=by
 obtain⟨hm,rfl⟩:=h
 have hv:=Ver.may_iff.1 hm
 unfold Zbi
 rw[if_pos hm]
 cases hd:dec v.ma with
 |nil=>exact absurd hd (Z6v _)
 |cons b r=>exact⟨b,_,rfl,Zyg _ hv.1.1 rfl b (by rw[hd]; exact .head _)⟩
end Go.Hal
namespace Go.Hal
open Go.Proofs.Tryz
abbrev Rk:=Int×Int
def hasR(n:Int)(l:List Rk):Bool:=l.any λx=>decide (x.1≤n)&&decide (n≤x.2)
def rkIn(l:List Rk):Prop:=∀x∈l,0≤x.1∧x.1≤999999999∧0≤x.2∧x.2≤999999999
def one(a b:Rk):List Rk:=if max a.1 b.1≤min a.2 b.2 then [(max a.1 b.1,min a.2 b.2)]else []
def Zkm:Rk→List Rk→List Rk
 |y,[]=>[y]
 |y,x::r=>if x.1≤y.2+1 then Zkm (y.1,max y.2 x.2) r else y::Zkm x r
def Zi4:List Rk→List Rk
 | []=>[]
 |y::r=>Zkm y r
def Zoi(l:List Rk):Prop:=l.Pairwise λa b=>a.1≤b.1
theorem Zpv(r:List Rk): ∀(y:Rk),(Zkm y r).length≤r.length+1:=by
 induction r with
 |nil=>intro y; exact Nat.le_refl _
 |cons x r ih=>
  intro y
  rw[Zkm]
  split
  ·have:=ih (y.1,max y.2 x.2); simp only[List.length_cons]; omega
  ·have:=ih x; simp only[List.length_cons]; omega
def Ze2(l:List Rk):List Span:=l.map λx=>⟨Zk2 x.1,Zk2 x.2⟩
end Go.Hal
namespace Go.Hal
open Go.Proofs.Tryz
inductive Sign
 |none|eq|lt|le|gt|ge|tilde|caret
def Sign.text:Sign→List UInt8
 | .none=>[]
 | .eq=>[61]
 | .lt=>[60]
 | .le=>[60,61]
 | .gt=>[62]
 | .ge=>[62,61]
 | .tilde=>[126]
 | .caret=>[94]
def Sign.ranks(g:Sign)(v:Ver):Rk:=
 let n:=v.rank
 let minor:=n - v.pa+999
 let major:=minor+(999 - v.mi)*1000
 match g with
 | .none=>(n,n)
 | .eq=>(n,n)
 | .lt=>(0,n - 1)
 | .le=>(0,n)
 | .gt=>(n+1,999999999)
 | .ge=>(n,999999999)
 | .tilde=>(n,minor)
 | .caret=>if 0<v.ma then(n,major)else if 0<v.mi then(n,minor)else(n,n)
inductive WordR:List UInt8→Rk→Prop
 |all:WordR [42] (0,999999999)
 |sign (g:Sign) {t:List UInt8} {v:Ver}:IsVer t v→WordR (g.text++t) (g.ranks v)
def Zxh(b:UInt8):Bool:=b==60||b==61||b==62||b==94||b==126
theorem Sign.chars(g:Sign): ∀b∈g.text,Zxh b=true:=by cases g<;>decide
theorem Zml{g:Sign}{t:List UInt8}{v:Ver}(h:IsVer t v):(g.text++t).takeWhile Zxh=g.text∧(g.text++t).dropWhile Zxh=t:=by
 obtain⟨b,r,rfl,hb⟩:=h.head
 have hn:Zxh b=false:=by
  unfold digB at hb
  simp only[Bool.and_eq_true,decide_eq_true_eq]at hb
  unfold Zxh
  have e: ∀c:UInt8,c.toNat<48∨57<c.toNat→(b==c)=false:=λc hc=>by
   rw[beq_eq_false_iff_ne]
   rintro rfl
   omega
  rw[e 60 dC,e 61 dC,e 62 dC,e 94 dC,e 126 dC]
  rfl
 constructor
 ·rw[List.takeWhile_append_of_pos g.chars,List.takeWhile_cons_of_neg (by rw[hn]; simp),List.append_nil]
 ·rw[List.dropWhile_append_of_pos g.chars,List.dropWhile_cons_of_neg (by rw[hn]; simp)]
theorem Sign.text_inj{g k:Sign}(h:g.text=k.text):g=k:=by
 cases g<;>cases k<;>first|rfl|(exact absurd h dC)
theorem WordR.one{s:List UInt8}{a b:Rk}(h:WordR s a)(k:WordR s b):a=b:=by
 have star: ∀{g:Sign} {t:List UInt8} {v:Ver},IsVer t v→g.text++t≠ [42]:=λ{g t v} hv he=>by
  have h1:=Zml (g:=g) hv
  rw[he]at h1
  obtain⟨c,r,rfl,hc⟩:=hv.head
  have:=h1.2
  have h2:([42]:List UInt8).dropWhile Zxh= [42]:=by decide
  rw[h2]at this
  cases this
  revert hc; decide
 cases h with
 |all=>
  generalize he:([42]:List UInt8)=s at k
  cases k with
  |all=>rfl
  |sign g hv=>exact absurd he.symm (star hv)
 | @sign g t v hv=>
  generalize he:g.text++t=s at k
  cases k with
  |all=>exact absurd he (star hv)
  | @sign g' t' v' hv'=>
   have h1:=Zml (g:=g) hv
   have h2:=Zml (g:=g') hv'
   rw[he]at h1
   have e1:=Sign.text_inj (h1.1.symm.trans h2.1)
   have e2:=h1.2.symm.trans h2.2
   subst e1 e2
   rw[hv.one hv']
end Go.Hal
namespace Go.Hal
open Go.Proofs.Tryz
open Go
def spB:ByteArray:=ByteArray.mk #[32]
def barB:ByteArray:=ByteArray.mk #[124,124]
theorem Sign.ranks_in{g:Sign}{v:Ver}(hv:v.may=true):(0≤(g.ranks v).1∧(g.ranks v).1≤1000000000)∧(-1≤(g.ranks v).2∧(g.ranks v).2≤999999999):=by
 have hm:=Ver.may_iff.1 hv
 have hr:v.rank=(v.ma*1000+v.mi)*1000+v.pa:=by rw[Ver.rank,if_pos hv,Ver.num]
 cases g<;>simp only[Sign.ranks]<;>(try split)<;>(try split)<;>(try simp only)<;>omega
theorem WordR.in{t:List UInt8}{a:Rk}(h:WordR t a):(0≤a.1∧a.1≤1000000000)∧(-1≤a.2∧a.2≤999999999):=by
 cases h with
 |all=>decide
 |sign g hv=>exact Sign.ranks_in hv.1
def AnyW(_:ByteArray):Prop:=True
theorem AnyW.piece{a b t:ByteArray}(_:AnyW a)(_:b∈Zar barB a)(_:t∈Zar spB b):AnyW t:=trivial
end Go.Hal
