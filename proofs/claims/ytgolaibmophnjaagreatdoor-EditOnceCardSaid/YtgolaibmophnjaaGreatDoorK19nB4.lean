/- Lemmas for the claim K19n: how the program's functions run, and what they answer; no condition but those that each theorem names. -/
import Derived.Test.YtgolaibmophnjaaGreatDoorProg
import Derived.Shelf.Sort.Plain
import Derived.Shelf.Slices.In.SortNone
import Derived.Ground.NamesProg
import Derived.Laws.MakeOwn
import Derived.Test.YtgolaibmophnjaaGreatDoorK19nB3
set_option linter.unusedVariables false
set_option linter.unusedSimpArgs false
set_option linter.defProp false
set_option maxHeartbeats 16000000
open Go Go.RowKit Go.Proofs Go.Shelf Go.Hal Go.Proofs.Tryz
variable {D d d3 d4:Int} {R:Int->Wp} {es:LQ} {ks:List En} {g xs:LN} {ps:List Pack} {cs:LV} {m:Mani} {N a i kind lo n:Nat} {S:Nat->Prop} {p:Pin} {s:Sl} {t:TypeId} {w w0:Wd}
namespace Go.Hal
abbrev Aq:=List Bs
structure Dr where
 path:Aq
 node:Nat
structure Stl where
 src:Nat
 label:Bs
 dst:Nat
 deriving DecidableEq
structure PlS where
 dirs:List Dr
 done:List Stl
def Ax(ds:List Dr)(p:Aq):Option Nat:=ds.findIdx? λd=>decide (d.path=p)
def AF(ds:List Dr)(p:Aq)(x:Bs):Nat->Option Nat
 |0=>Ax ds (p.take 0++[x])
 |k+1=>match Ax ds (p.take (k+1)++[x])with
  |some i=>some i
  |none=>AF ds p x k
def Ad(ds:List Dr)(i:Nat):Aq:=match ds[i]? with
 |some d=>d.path
 |none=>[]
structure Spot(s:PlS)(p:Aq)(x:Bs)(n:Nat):Prop where
 le:n<=p.length
 clear:∀k,n<=k->k<=p.length->Ax s.dirs (p.take k++[x])=none
 keep:∀t∈s.done,t.label=x->p.take n<+:Ad s.dirs t.src->n<(Ad s.dirs t.dst).length
structure Best(s:PlS)(p:Aq)(x:Bs)(like:Nat->Bool)(n:Nat):Prop where
 spot:Spot s p x n
 pref:∀m,Spot s p x m->like m=true->like n=true
 near:∀m,Spot s p x m->like m=like n->n<=m
def Best.one{s:PlS}{p:Aq}{x:Bs}{like:Nat->Bool}{m:Nat}(h:Best s p x like n)(k:Best s p x like m):n=m:=by
 have he:like m=like n:=by
  cases h1:like m with
  |true=>exact(h.pref m k.spot h1).symm
  |false=>
   cases h2:like n with
   |false=>rfl
   |true=>have:=k.pref n h.spot h2;rw[h1]at this;cases this
 exact Nat.le_antisymm (h.near m k.spot he) (k.near n h.spot he.symm)
structure PlI where
 g:LN
 like:Aq->Nat->Bool
 tlen:Aq->Nat
 maxP:Int
 maxD:Int
def BA(g:LN)(i:Nat):LP:=match g[i]? with
 |some x=>x.ctx
 |none=>[]
def A4(g:LN)(at_:Nat)(e:Edge):Nat:=if(BA g at_).any (Ay e.name)then 1 else if(BA g e.to.toNat).length=0 then 2 else 3
def nodeAt(ds:List Dr)(i:Nat):Nat:=match ds[i]? with
 |some d=>d.node
 |none=>0
def EL(s:PlS)(src:Nat)(x:Bs):Option Nat:=(s.done.find? λt=>decide (t.src=src/\t.label=x)).map Stl.dst
def H7(I:PlI)(s:PlS)(src to:Nat):Prop:=∀q∈BA I.g (nodeAt s.dirs to),∃d,EL s src q.name=some d/\AF s.dirs (Ad s.dirs to) q.name (Ad s.dirs to).length=some d
def Right(I:PlI)(s:PlS)(src:Nat)(e:Edge)(kind to:Nat):Prop:=AF s.dirs (Ad s.dirs src) e.name (Ad s.dirs src).length=some to/\(nodeAt s.dirs to:Int)=e.to/\(kind=3->H7 I s src to)
inductive EdgeR (I:PlI) (s:PlS) (src:Nat) (e:Edge) (kind:Nat):Int->PlS->Prop
 |found (to:Nat):Right I s src e kind to->EdgeR I s src e kind 0 ⟨s.dirs,s.done++[⟨src,e.name,to⟩]⟩
 |lost:(∀to,¬Right I s src e kind to)->kind=1->EdgeR I s src e kind 33 s
 |put (n:Nat):(∀to,¬Right I s src e kind to)->kind≠1->(kind=2->Best s (Ad s.dirs src) e.name (λn=>I.like ((Ad s.dirs src).take n++[e.name]) e.to.toNat) n)->(kind=3->n=(Ad s.dirs src).length)->
   (I.tlen ((Ad s.dirs src).take n++[e.name]):Int)<=I.maxP->(s.dirs.length:Int)<=I.maxD->
   EdgeR I s src e kind 0 ⟨s.dirs++[⟨(Ad s.dirs src).take n++[e.name],e.to.toNat⟩],s.done++[⟨src,e.name,s.dirs.length⟩]⟩
 |long (n:Nat):(∀to,¬Right I s src e kind to)->kind≠1->(kind=2->Best s (Ad s.dirs src) e.name (λn=>I.like ((Ad s.dirs src).take n++[e.name]) e.to.toNat) n)->(kind=3->n=(Ad s.dirs src).length)->
   I.maxP<(I.tlen ((Ad s.dirs src).take n++[e.name]):Int)->EdgeR I s src e kind 40 s
 |deep (n:Nat):(∀to,¬Right I s src e kind to)->kind≠1->(kind=2->Best s (Ad s.dirs src) e.name (λn=>I.like ((Ad s.dirs src).take n++[e.name]) e.to.toNat) n)->(kind=3->n=(Ad s.dirs src).length)->
   (I.tlen ((Ad s.dirs src).take n++[e.name]):Int)<=I.maxP->I.maxD<(s.dirs.length:Int)->EdgeR I s src e kind 41 s
def Right.one{I:PlI}{s:PlS}{src b:Nat}{e:Edge}(h:Right I s src e kind a)(k:Right I s src e kind b):a=b:=by have:=h.1.symm.trans k.1;exact ji this
def Lv{s:PlS}{p:Aq}{x:Bs}{like:Nat->Bool}{m:Nat}(h1:kind≠1)(hk:kind=1\/kind=2\/kind=3)(a:kind=2->Best s p x like n)(b:kind=3->n=p.length)(a':kind=2->Best s p x like m)(b':kind=3->m=p.length):n=m:=by
 obtain h|h|h:=hk
 .exact absurd h h1
 .exact(a h).one (a' h)
 .rw[b h,b' h]
def EdgeR.one{I:PlI}{s:PlS}{src:Nat}{e:Edge}{c:Int}{t u:PlS}(hk:kind=1\/kind=2\/kind=3)(h:EdgeR I s src e kind c t)(k:EdgeR I s src e kind d u):c=d/\t=u:=by
 cases h with
 |found to h=>
  cases k with
  |found a5 h'=>rw[h.one h'];exact⟨rfl,rfl⟩
  |lost h' _=>exact absurd h (h' to)
  |put _ h'=>exact absurd h (h' to)
  |long _ h'=>exact absurd h (h' to)
  |deep _ h'=>exact absurd h (h' to)
 |lost h h1=>
  cases k with
  |found to h'=>exact absurd h' (h to)
  |lost=>exact⟨rfl,rfl⟩
  |put _ _ h'=>exact absurd h1 h'
  |long _ _ h'=>exact absurd h1 h'
  |deep _ _ h'=>exact absurd h1 h'
 |put n h h1 a b hP hD=>
  cases k with
  |found to h'=>exact absurd h' (h to)
  |lost _ h'=>exact absurd h' h1
  |put m _ _ a' b'=>have:=Lv h1 hk a b a' b';subst this;exact⟨rfl,rfl⟩
  |long m _ _ a' b' a0=>have:=Lv h1 hk a b a' b';subst this;omega
  |deep m _ _ a' b' _ a4=>omega
 |long n h h1 a b hP=>
  cases k with
  |found to h'=>exact absurd h' (h to)
  |lost _ h'=>exact absurd h' h1
  |put m _ _ a' b' a0=>have:=Lv h1 hk a b a' b';subst this;omega
  |long=>exact⟨rfl,rfl⟩
  |deep m _ _ a' b' a0=>have:=Lv h1 hk a b a' b';subst this;omega
 |deep n h h1 a b hP hD=>
  cases k with
  |found to h'=>exact absurd h' (h to)
  |lost _ h'=>exact absurd h' h1
  |put m _ _ a' b' a0 a4=>omega
  |long m _ _ a' b' a0=>have:=Lv h1 hk a b a' b';subst this;omega
  |deep=>exact⟨rfl,rfl⟩
def DC{ds:List Dr}{p:Aq}(h:Ax ds p=some i):∃d,ds[i]?=some d/\d.path=p:=by unfold Ax at h;obtain⟨hl,h1,_⟩:=lj.1 h;exact⟨ds[i],dt hl,by simpa using h1⟩
def Nv{ds:List Dr}{p:Aq}:Ax ds p=none↔∀d∈ds,d.path≠p:=by unfold Ax;rw[mm];simp
def JZ{ds t:List Dr}{p:Aq}(h:Ax ds p=some i):Ax (ds++t) p=some i:=by unfold Ax at*;rw[List.findIdx?_append,h];rfl
def TS{ds:List Dr}{p:Aq}(h:∃d∈ds,d.path=p):∃i,Ax ds p=some i:=by
 cases hf:Ax ds p with
 |some i=>exact⟨i,rfl⟩
 |none=>obtain⟨d,h1,h2⟩:=h;exact absurd h2 (Nv.1 hf d h1)
def Ck{ds:List Dr}{d:Dr}(h:ds[i]?=some d):Ad ds i=d.path:=by unfold Ad;rw[h]
def EA{ds:List Dr}{d:Dr}(h:ds[i]?=some d):nodeAt ds i=d.node:=by unfold nodeAt;rw[h]
def Vm{ds t:List Dr}(h:i<ds.length):Ad (ds++t) i=Ad ds i:=by unfold Ad;rw[fu h]
def FU{ds t:List Dr}(h:i<ds.length):nodeAt (ds++t) i=nodeAt ds i:=by unfold nodeAt;rw[fu h]
def KG{ds:List Dr}{p:Aq}{x:Bs}:∀{k i:Nat},AF ds p x k=some i->∃n,n<=k/\Ax ds (p.take n++[x])=some i/\∀m,n<m->m<=k->Ax ds (p.take m++[x])=none
 |0,i,h=>⟨0,fl _,h,λm h1 h2=>by omega⟩
 |k+1,i,h=>by
  unfold AF at h;cases hf:Ax ds (p.take (k+1)++[x])with
  |some j=>rw[hf]at h;cases h;exact⟨k+1,fl _,hf,λm h1 h2=>by omega⟩
  |none=>
   rw[hf]at h;obtain⟨n,h1,h2,h3⟩:=KG h;refine⟨n,oM,h2,λm h4 h5=>?_⟩;by_cases hm:m=k+1
   .subst hm;exact hf
   .exact h3 m h4 oM
structure PInv(g:LN)(s:PlS)(a:Nat):Prop where
 root:s.dirs[0]?=some ⟨[],0⟩
 one:∀(i j:Nat)(d e:Dr),s.dirs[i]?=some d->s.dirs[j]?=some e->d.path=e.path->i=j
 up:∀(i:Nat)(d:Dr)(p:Aq)(x:Bs),s.dirs[i]?=some d->d.path=p++[x]->∃h,h<i/\Ax s.dirs p=some h
 src:∀t∈s.done,t.src<=a/\t.src<s.dirs.length/\t.dst<s.dirs.length
 uniq:∀t∈s.done,∀u∈s.done,t.src=u.src->t.label=u.label->t=u
 fresh:∀(i:Nat)(d:Dr)(p:Aq)(x:Bs),s.dirs[i]?=some d->d.path=p++[x]->∀h,Ax s.dirs p=some h->a<=h->h=a/\∃t∈s.done,t.src=a/\t.label=x
 node:∀d∈s.dirs,d.node<g.length
def PInv.find{s:PlS}{d:Dr}(h:PInv g s a)(hd:s.dirs[i]?=some d):Ax s.dirs d.path=some i:=by obtain⟨j,hj⟩:=TS ⟨d,gp hd,rfl⟩;obtain⟨e,h1,h2⟩:=DC hj;rw[hj,h.one i j d e hd h1 h2.symm]
def PInv.above{s:PlS}(h:PInv g s a):∀(n i:Nat)(d:Dr),s.dirs[i]?=some d->d.path.length=n->∀k,k<=n->∃j,j<=i/\Ax s.dirs (d.path.take k)=some j:=λn=>by
 induction n with
 |zero=>intro i d hd hn k hk;have:k=d.path.length:=oM;subst this;rw[eu];exact⟨i,fl _,h.find hd⟩
 |succ n ih=>
  intro i d hd hn k hk;by_cases a4:k=n+1
  .subst a4;rw[<-hn,eu];exact⟨i,fl _,h.find hd⟩
  .have a0:d.path≠[]:=λe=>(by rw[e]at hn;simp at hn);have hp:d.path=d.path.dropLast++[d.path.getLast a0]:=(List.dropLast_concat_getLast a0).symm;obtain⟨j,h1,h2⟩:=h.up i d _ _ hd hp;obtain⟨e,h3,h4⟩:=DC h2;have h5:e.path.length=n:=(by rw[h4,List.length_dropLast];omega);obtain⟨m,h6,h7⟩:=ih j e h3 h5 k oM;refine⟨m,oM,?_⟩;rw[h4]at h7;have:d.path.take k=d.path.dropLast.take k:=(by rw[List.dropLast_eq_take,List.take_take];congr 1;omega);rw[this];exact h7
def PInv.pre{s:PlS}{j:Nat}{d e:Dr}(h:PInv g s a)(hd:s.dirs[i]?=some d)(he:s.dirs[j]?=some e)(hp:e.path<+:d.path):j<=i:=by obtain⟨m,h1,h2⟩:=h.above _ i d hd rfl e.path.length hp.length_le;rw[<-List.prefix_iff_eq_take.1 hp,h.find he]at h2;cases h2;exact h1
def CV(s:PlS)(a:Nat)(x:Bs):Prop:=∀t∈s.done,t.src=a->t.label≠x
def PInv.spot{s:PlS}{d:Dr}{x:Bs}(h:PInv g s a)(hd:s.dirs[a]?=some d)(hx:CV s a x):Spot s d.path x d.path.length:=by
 refine⟨fl _,λk h1 h2=>?_,λt ht hl hp=>?_⟩
 .have hk:k=d.path.length:=oM;subst hk;rw[eu];cases hf:Ax s.dirs (d.path++[x])with
  |none=>rfl
  |some i=>obtain⟨e,h3,h4⟩:=DC hf;obtain⟨_,t,h5,h6,h7⟩:=h.fresh i e d.path x h3 h4 a (h.find hd) nR;exact absurd h7 (hx t h5 h6)
 .obtain⟨h1,h2,_⟩:=h.src t ht;rw[eu]at hp;have h3:s.dirs[t.src]?=some s.dirs[t.src]:=dt h2;rw[Ck h3]at hp;have:=h.pre h3 hd hp;exact absurd hl (hx t ht oM)
def PInv.found{s:PlS}{to:Nat}{x:Bs}(h:PInv g s a)(ha:a<s.dirs.length)(hx:CV s a x)(a4:to<s.dirs.length):PInv g ⟨s.dirs,s.done++[⟨a,x,to⟩]⟩ a:=by
 refine⟨h.root,h.one,h.up,λt ht=>?_,λt ht u hu h1 h2=>?_,λi d p y hd hp j hj a0=>?_,h.node⟩
 .obtain ht|ht:=fj.1 ht
  .exact h.src t ht
  .rw[eh]at ht;subst ht;exact⟨fl _,ha,a4⟩
 .rcases fj.1 ht with ht|ht<;>obtain hu|hu:=fj.1 hu
  .exact h.uniq t ht u hu h1 h2
  .rw[eh]at hu;subst hu;exact absurd h2 (hx t ht h1)
  .rw[eh]at ht;subst ht;exact absurd h2.symm (hx u hu h1.symm)
  .rw[eh]at ht hu;rw[ht,hu]
 .obtain⟨h1,t,h2,h3,h4⟩:=h.fresh i d p y hd hp j hj a0;exact⟨h1,t,iv _ h2,h3,h4⟩
def PInv.put{s:PlS}{k:Nat}{d:Dr}{x:Bs}(h:PInv g s a)(hd:s.dirs[a]?=some d)(hx:CV s a x)(hs:Spot s d.path x n)(hk:k<g.length):
  PInv g ⟨s.dirs++[⟨d.path.take n++[x],k⟩],s.done++[⟨a,x,s.dirs.length⟩]⟩ a:=by
 have ha:=(fe.1 hd).1;have a5:∀e∈s.dirs,e.path≠d.path.take n++[x]:=Nv.1 (hs.clear n nR hs.le);have at_:∀{i:Nat} {e:Dr},(s.dirs++[⟨d.path.take n++[x],k⟩])[i]?=some e->(s.dirs[i]?=some e/\i<s.dirs.length)\/(i=s.dirs.length/\e=⟨d.path.take n++[x],k⟩):=λ{i e} hi=>by
  obtain hl|hl:=qg i s.dirs.length
  .rw[fu hl]at hi;exact .inl ⟨hi,hl⟩
  .rw[gq hl]at hi;have:i - s.dirs.length=0:=by have:=(fe.1 hi).1;simp at this;omega
   rw[this]at hi;simp at hi;exact .inr ⟨oM,hi.symm⟩
 obtain⟨m,a7,a4⟩:=h.above _ a d hd rfl n hs.le;refine⟨(fu (mg (gl a) ha)).trans h.root,λi j e f hi hj hp=>?_,λi e p y hi hp=>?_,λt ht=>?_,λt ht u hu h1 h2=>?_,λi e p y hi hp j hj a6=>?_,λe he=>?_⟩
 .rcases at_ hi with⟨hi,_⟩|⟨rfl,rfl⟩<;>rcases at_ hj with⟨hj,_⟩|⟨rfl,rfl⟩
  .exact h.one i j e f hi hj hp
  .exact absurd hp (a5 e (gp hi))
  .exact absurd hp.symm (a5 f (gp hj))
  .rfl
 .rcases at_ hi with⟨hi,_⟩|⟨rfl,rfl⟩
  .obtain⟨j,h1,h2⟩:=h.up i e p y hi hp;exact⟨j,h1,JZ h2⟩
  .obtain⟨h1,_⟩:=pm hp rfl;exact⟨m,oM,by rw[<-h1];exact JZ a4⟩
 .simp only[du,gk];obtain ht|ht:=fj.1 ht
  .obtain⟨h1,h2,h3⟩:=h.src t ht;exact⟨h1,oM,oM⟩
  .rw[eh]at ht;subst ht;exact⟨fl _,Nat.lt_succ_of_lt ha,by simp⟩
 .rcases fj.1 ht with ht|ht<;>obtain hu|hu:=fj.1 hu
  .exact h.uniq t ht u hu h1 h2
  .rw[eh]at hu;subst hu;exact absurd h2 (hx t ht h1)
  .rw[eh]at ht;subst ht;exact absurd h2.symm (hx u hu h1.symm)
  .rw[eh]at ht hu;rw[ht,hu]
 .rcases at_ hi with⟨hi,_⟩|⟨rfl,rfl⟩
  .obtain⟨j',h1,h2⟩:=h.up i e p y hi hp;have a0:=(JZ h2).symm.trans hj;cases a0;obtain⟨h3,t,h4,h5,h6⟩:=h.fresh i e p y hi hp _ h2 a6;exact⟨h3,t,iv _ h4,h5,h6⟩
  .obtain⟨h1,h2⟩:=pm hp rfl;rw[<-h1]at hj;have a0:=(JZ a4).symm.trans hj;cases a0;refine⟨oM,_,ka _ (eh.2 rfl),rfl,?_⟩;simpa using h2
 .obtain he|he:=fj.1 he
  .exact h.node e he
  .rw[eh]at he;subst he;exact hk
def PInv.next{s:PlS}(h:PInv g s a):PInv g s (a+1):=
 ⟨h.root,h.one,h.up,λt ht=>by obtain⟨h1,h2,h3⟩:=h.src t ht;exact⟨oM,h2,h3⟩,h.uniq,λi d p y hd hp j hj a0=>by have:=(h.fresh i d p y hd hp j hj oM).1;omega,h.node⟩
def PInv.start(hg:0<g.length):PInv g ⟨[⟨[],0⟩],[]⟩ 0:=by
 refine⟨rfl,λi j d e hi hj _=>?_,λi d p x hi hp=>?_,(λt ht=>by cases ht),(λt ht=>by cases ht),λi d p x hi hp=>?_,λd hd=>?_⟩
 .have h1:=(fe.1 hi).1;have h2:=(fe.1 hj).1;simp at h1 h2;omega
 .have h1:=(fe.1 hi).1;simp at h1;subst h1;simp at hi;subst hi;simp at hp
 .have h1:=(fe.1 hi).1;simp at h1;subst h1;simp at hi;subst hi;simp at hp
 .rw[eh]at hd;subst hd;exact hg
def Cb(g:LN)(k:Nat):LQ:=
 let es:=Aw g k
 es.filter (λe=>A4 g k e==1)++(es.filter (λe=>A4 g k e==2)++es.filter λe=>A4 g k e==3)
def Dd(g:LN)(k:Nat)(e:Edge):A4 g k e=1\/A4 g k e=2\/A4 g k e=3:=by
 unfold A4;split
 .exact .inl rfl
 .split
  .exact .inr (.inl rfl)
  .exact .inr (.inr rfl)
inductive EdgesR (I:PlI) (a k:Nat):PlS->LQ->Int->PlS->Prop
 |nil (s:PlS):EdgesR I a k s [] 0 s
 |cons {s t u:PlS} {e:Edge} {es:LQ} {c:Int}:EdgeR I s a e (A4 I.g k e) 0 t->EdgesR I a k t es c u->EdgesR I a k s (e::es) c u
 |stop {s t:PlS} {e:Edge} {es:LQ} {c:Int}:EdgeR I s a e (A4 I.g k e) c t->c≠0->EdgesR I a k s (e::es) c t
inductive DirsR (I:PlI):Nat->PlS->Int->PlS->Prop
 |fin {a:Nat} {s:PlS}:s.dirs.length<=a->DirsR I a s 0 s
 |next {a:Nat} {s t u:PlS} {c:Int}:a<s.dirs.length->EdgesR I a (nodeAt s.dirs a) s (Cb I.g (nodeAt s.dirs a)) 0 t->DirsR I (a+1) t c u->DirsR I a s c u
 |stop {a:Nat} {s t:PlS} {c:Int}:a<s.dirs.length->EdgesR I a (nodeAt s.dirs a) s (Cb I.g (nodeAt s.dirs a)) c t->c≠0->DirsR I a s c t
def EdgesR.one{I:PlI}{k:Nat}{s t u:PlS}{c:Int}(h:EdgesR I a k s es c t):EdgesR I a k s es d u->c=d/\t=u:=by
 induction h generalizing d u with
 |nil s=>intro h';cases h';exact⟨rfl,rfl⟩
 |cons h1 h2 ih=>
  intro h';cases h' with
  |cons k1 k2=>obtain⟨_,rfl⟩:=h1.one (Dd _ _ _) k1;exact ih k2
  |stop k1 k2=>exact absurd (h1.one (Dd _ _ _) k1).1.symm k2
 |stop h1 h2=>
  intro h';cases h' with
  |cons k1 k2=>exact absurd (h1.one (Dd _ _ _) k1).1 h2
  |stop k1 k2=>exact h1.one (Dd _ _ _) k1
def DirsR.one{I:PlI}{s t u:PlS}{c:Int}(h:DirsR I a s c t):DirsR I a s d u->c=d/\t=u:=by
 induction h generalizing d u with
 |fin h1=>
  intro h';cases h' with
  |fin=>exact⟨rfl,rfl⟩
  |next k1=>omega
  |stop k1=>omega
 |next h1 h2 h3 ih=>
  intro h';cases h' with
  |fin k1=>omega
  |next k1 k2 k3=>obtain⟨_,rfl⟩:=h2.one k2;exact ih k3
  |stop k1 k2 k3=>exact absurd (h2.one k2).1.symm k3
 |stop h1 h2 h3=>
  intro h';cases h' with
  |fin k1=>omega
  |next k1 k2 k3=>exact absurd (h2.one k2).1 h3
  |stop k1 k2 k3=>exact h2.one k2
structure GrownP(s t:PlS)(a:Nat)(x:Bs):Prop where
 dirs:∃l,t.dirs=s.dirs++l
 new:∀y,y≠x->CV s a y->CV t a y
def US{ds:List Dr}{s:PlS}{k:Nat}{x y:Bs}(hy:y≠x)(h:CV s a y):CV ⟨ds,s.done++[⟨a,x,k⟩]⟩ a y:=λt ht hs=>by
 obtain ht|ht:=fj.1 ht
 .exact h t ht hs
 .rw[eh]at ht;subst ht;exact λe=>hy e.symm
def KF{ds:List Dr}{p:Aq}{x:Bs}{k:Nat}(h:AF ds p x k=some i):i<ds.length:=by obtain⟨n,_,h2,_⟩:=KG h;obtain⟨d,h3,_⟩:=DC h2;exact(fe.1 h3).1
def EdgeR.inv{I:PlI}{s t:PlS}{e:Edge}{c:Int}(hk:kind=1\/kind=2\/kind=3)(h:EdgeR I s a e kind c t)(hI:PInv I.g s a)(ha:a<s.dirs.length)(hx:CV s a e.name)(a0:0<=e.to/\e.to<I.g.length):
  PInv I.g t a/\GrownP s t a e.name:=by
 have hd:s.dirs[a]?=some s.dirs[a]:=dt ha;cases h with
 |found to hr=>exact⟨hI.found ha hx (KF hr.1),⟨[],by simp⟩,λy hy h=>US hy h⟩
 |lost=>exact⟨hI,⟨[],by simp⟩,λy _ h=>h⟩
 |put n h1 h2 h3 h4=>
  have hs:Spot s (Ad s.dirs a) e.name n:=by
   obtain hk|hk|hk:=hk
   .exact absurd hk h2
   .exact(h3 hk).spot
   .rw[h4 hk,Ck hd];exact hI.spot hd hx
  rw[Ck hd]at hs ⊢;exact⟨hI.put hd hx hs oM,⟨_,rfl⟩,λy hy h=>US hy h⟩
 |long=>exact⟨hI,⟨[],by simp⟩,λy _ h=>h⟩
 |deep=>exact⟨hI,⟨[],by simp⟩,λy _ h=>h⟩
def DW(x:Node):Pin:=⟨x.name,x.v⟩
def GD(a b:Pin):Int:=AG (A5 a.name b.name) (a.v.cmp b.v)
def cPin_ord:Ord3 GD:=(D8 Pin.name).or (Ver.cmp_ord.comap Pin.v)
def SO{a b:Pin}:GD a b=0↔a=b:=by
 obtain⟨n,v⟩:=a;obtain⟨m,u⟩:=b;show AG (A5 n m) (v.cmp u)=0↔_;unfold AG;by_cases h:A5 n m=0
 .rw[if_pos h,Ver.cmp_eq];have:=Ev.1 h;subst this;exact⟨λh=>by rw[h],λh=>(Pin.mk.inj h).2⟩
 .rw[if_neg h];exact⟨λh'=>absurd h' h,λh'=>absurd (Ev.2 (Pin.mk.inj h').1) h⟩
def StrictL{α:Type}(c:α->α->Int)(l:List α):Prop:=l.Pairwise λa b=>c a b<0
def StrictL.nodup{α:Type}{c:α->α->Int}(hc:Ord3 c){l:List α}(h:StrictL c l):l.Nodup:=by rw[ia];refine h.imp λ{a b} h e=>?_;subst e;have:=(hc.flip a a).1 h;omega
def StrictL.one{α:Type}{c:α->α->Int}(hc:Ord3 c){l m:List α}(h1:StrictL c l)(h2:StrictL c m)(hm:∀x,x∈l↔x∈m):l=m:=
 IU (λx y h k=>by have:=(hc.flip x y).1 h;omega) h1 h2 ((List.perm_ext_iff_of_nodup (h1.nodup hc) (h2.nodup hc)).2 hm)
def StrictL.of{α:Type}{c:α->α->Int}(hc:Ord3 c)(h0:∀{a b},c a b=0->a=b){l:List α}(hn:l.Nodup)(hs:l.Pairwise λx y=>¬c y x<0):StrictL c l:=by rw[ia]at hn;refine(hn.and hs).imp λ{a b} ⟨h1,h2⟩=>?_;have h3:c a b≠0:=λh=>h1 (h0 h);have h4:=hc.flip b a;omega
def PinsAre(g:LN)(l:LP):Prop:=StrictL GD l/\∀y,y∈l↔y∈(g.drop 1).map DW
def PinsAre.one{l m:LP}(h:PinsAre g l)(k:PinsAre g m):l=m:=h.1.one cPin_ord k.1 λx=>(h.2 x).trans (k.2 x).symm
def modsT:LU:=[47,109,111,100,117,108,101,115,47]
def Cc(p:Aq):LU:=p.flatMap λx=>modsT++x.toList
def Bh(p:Aq):Bool:=p.all Af
def A3(p:Aq):LU:=if p=[]then [47]else if Bh p then Cc p else []
def Zet{b:UInt8}(h:BM b=true):b≠47:=by rintro rfl;revert h;decide
def Zev:∀{l:LU},CF l=true->(47:UInt8)∉l
 | [],_=>by simp
 |a::l,h=>by
  intro hm;simp only[CF,dz,ip]at h;obtain rfl|hm:=ga.1 hm
  .have:=h.1;revert this;decide
  .exact Zet (h.2 _ hm) rfl
def UO{x:Bs}(h:Af x=true):(47:UInt8)∉x.toList:=by unfold Af at h;simp only[dz]at h;exact Zev h.1
def Qz:∀{p:Aq},p≠[]->∃r,Cc p=47::r
 | [],h=>absurd rfl h
 |x::p,_=>⟨_,rfl⟩
def Wy{a r:LU}(ha:(47:UInt8)∉a)(hr:r=[]\/∃t,r=47::t):(a++r).takeWhile (λb=>b != 47)=a:=by
 rw[pw (λb hb=>by simp;rintro rfl;exact ha hb)];rcases hr with rfl|⟨t,rfl⟩
 .simp
 .simp
def Vo:∀{p q:Aq},Bh p=true->Bh q=true->Cc p=Cc q->p=q
 | [],[],_,_,_=>rfl
 | [],y::q,_,_,h=>by obtain⟨r,hr⟩:=Qz (p:=y::q) sI;rw[hr]at h;cases h
 |x::p,[],_,_,h=>by obtain⟨r,hr⟩:=Qz (p:=x::p) sI;rw[hr]at h;cases h
 |x::p,y::q,hp,hq,h=>by
  unfold Bh at hp hq;rw[mq,dz]at hp hq;have h':modsT++(x.toList++Cc p)=modsT++(y.toList++Cc q):=by simpa only[Cc,List.flatMap_cons,fh]using h
  have h1:=List.append_cancel_left h';have en:∀l:Aq,Cc l=[]\/∃t,Cc l=47::t:=λl=>by
   by_cases hl:l=[]
   .subst hl;exact .inl rfl
   .exact .inr (Qz hl)
  have h2:=congrArg (List.takeWhile λb=>b != 47) h1;rw[Wy (UO hp.1) (en p),Wy (UO hq.1) (en q)]at h2;rw[h2]at h1;have h3:=Vo (p:=p) (q:=q) hp.2 hq.2 (List.append_cancel_left h1);rw[toList_data,toList_data]at h2;rw[GA h2,h3]
def Q4{p:Aq}(h:p≠[]):9<=(Cc p).length:=by
 cases p with
 |nil=>exact absurd rfl h
 |cons x p=>simp[Cc,modsT]
def Zf0{p q:Aq}(hp:Bh p=true)(hq:Bh q=true)(h:A3 p=A3 q):p=q:=by
 unfold A3 at h;by_cases h1:p=[]<;>by_cases h2:q=[]
 .rw[h1,h2]
 .rw[if_pos h1,if_neg h2,if_pos hq]at h;have:=Q4 h2;rw[<-h]at this;simp at this
 .rw[if_neg h1,if_pos h2,if_pos hp]at h;have:=Q4 h1;rw[h]at this;simp at this
 .rw[if_neg h1,if_neg h2,if_pos hp,if_pos hq]at h;exact Vo hp hq h
def Jc(d:Dr):Bs:=B (A3 d.path)
def HH(a b:Dr):Int:=A5 (Jc a) (Jc b)
def cDr_ord:Ord3 HH:=D8 Jc
def Zkh{a b:Dr}(ha:Bh a.path=true)(hb:Bh b.path=true)(h:Jc a=Jc b):a.path=b.path:=by unfold Jc at h;have:=congrArg ByteArray.toList h;rw[H3,H3]at this;exact Zf0 ha hb this
def SortedD(ds out:List Dr):Prop:=out.Perm ds/\out.Pairwise λa b=>¬HH b a<0
structure DirsOk(ds:List Dr):Prop where
 names:∀d∈ds,Bh d.path=true
 one:∀(i j:Nat)(d e:Dr),ds[i]?=some d->ds[j]?=some e->d.path=e.path->i=j
def DirsOk.eq{ds:List Dr}(h:DirsOk ds){a b:Dr}(ha:a∈ds)(hb:b∈ds)(he:HH a b=0):a=b:=by have hp:=Zkh (h.names a ha) (h.names b hb) (Ev.1 he);obtain⟨i,hi⟩:=jf ha;obtain⟨j,hj⟩:=jf hb;have:=h.one i j a b hi hj hp;subst this;rw[hi]at hj;exact ji hj
def DirsOk.nodup{ds:List Dr}(h:DirsOk ds):ds.Nodup:=by rw[ia,gd];intro i j hi hj a0 he;have:=h.one i j _ _ (dt hi) (dt hj) (by rw[he]);omega
def SortedD.strict{ds out:List Dr}(h:DirsOk ds)(k:SortedD ds out):StrictL HH out:=by obtain⟨hp,hs⟩:=k;have hn:out.Nodup:=hp.nodup_iff.2 h.nodup;rw[ia]at hn;unfold StrictL;have:=(hn.and hs);refine List.Pairwise.imp_of_mem ?_ this;intro a b ha hb ⟨h1,h2⟩;have h3:HH a b≠0:=λe=>h1 (h.eq (hp.mem_iff.1 ha) (hp.mem_iff.1 hb) e);have h4:=cDr_ord.flip b a;omega
def SortedD.one{ds a b:List Dr}(h:DirsOk ds)(ha:SortedD ds a)(hb:SortedD ds b):a=b:=
 (ha.strict h).one cDr_ord (hb.strict h) λx=>ha.1.mem_iff.trans hb.1.mem_iff.symm
structure Dir where
 path:Aq
 pack:Pack
 node:Int
 deriving DecidableEq
def Az:Pack:=⟨⟨#[]⟩,⟨0,0,0⟩,[],[],[]⟩
def AD(d:Dir):Dr:=⟨d.path,d.node.toNat⟩
structure StandsD(T:List Dir)(i:Nat)(d:Dir):Prop where
 path:d.path≠[]
 names:Bh d.path=true
 len:(A3 d.path).length<=1024
 node:1<=d.node
 first:Ax (T.map AD) d.path=some i
 up:∃h,h<i/\Ax (T.map AD) d.path.dropLast=some h
 may:AM d.pack=true
 name:d.path.getLast? =some d.pack.name
structure TreeOk(T:List Dir):Prop where
 len:1<=T.length/\T.length<=257
 root:T[0]?=some ⟨[],Az,0⟩
 rest:∀i d,T[i]?=some d->i≠0->StandsD T i d
def E6(T:List Dir)(i:Nat)(x:Bs):Option Nat:=if Af x then AF (T.map AD) (Ad (T.map AD) i) x (Ad (T.map AD) i).length else none
structure MapS where
 m:List Int
 rest:List Nat
def DV(T:List Dir)(g:LN)(i:Nat)(s:MapS)(e:Edge):Option MapS:=
 match E6 T i e.name with
 |none=>none
 |some to=>match T[to]?,g[e.to.toNat]? with
  |some d,some x=>if d.pack.name=x.name/\d.pack.v=x.v then
    if s.m[to]?=some (-1)then some ⟨s.m.set to e.to,s.rest++[to]⟩else if s.m[to]?=some e.to then some s else none
   else none
  |_,_=>none
def E8(T:List Dir)(g:LN)(i:Nat):MapS->LQ->Option MapS
 |s,[]=>some s
 |s,e::es=>(DV T g i s e).bind λt=>E8 T g i t es
def E9(T:List Dir)(g:LN):Nat->Nat->MapS->Option (List Int)
 |0,_,_=>none
 |f+1,n,s=>match s.rest[n]? with
  |none=>some s.m
  |some i=>match s.m[i]? with
   |none=>none
   |some k=>(E8 T g i s (Aw g k.toNat)).bind λt=>E9 T g f (n+1) t
def Dm(g:LN):Prop:=0<g.length/\∀x∈g,∀e∈x.edges,1<=e.to/\e.to<(g.length:Int)
def mapT(T:List Dir)(g:LN):Option (List Int):=E9 T g (T.length+1) 0 ⟨(List.replicate T.length (-1)).set 0 0,[0]⟩
structure MapI(T:List Dir)(g:LN)(s:MapS):Prop where
 len:s.m.length=T.length
 low:∀(i:Nat)(k:Int),s.m[i]?=some k-> -1<=k/\k<(g.length:Int)
 nodup:s.rest.Nodup
 told:∀i,i∈s.rest↔∃k:Int,s.m[i]?=some k/\k≠ -1
def MapI.start{T:List Dir}(hT:0<T.length)(hg:0<g.length):MapI T g ⟨(List.replicate T.length (-1)).set 0 0,[0]⟩:=by
 refine⟨by simp,λi k h=>?_,by simp,λi=>?_⟩
 .by_cases hi:i=0
  .subst hi;rw[ng (by simpa using hT)]at h;cases h;omega
  .rw[nu (λe=>hi e.symm)]at h;have:=gp h;rw[List.mem_replicate]at this;omega
 .constructor
  .intro h;rw[eh]at h;subst h;exact⟨0,ng (by simpa using hT),by decide⟩
  .rintro⟨k,h,hk⟩;by_cases hi:i=0
   .subst hi;simp
   .rw[nu (λe=>hi e.symm)]at h;have:=gp h;rw[List.mem_replicate]at this;exact absurd this.2 hk
def MapI.edge{T:List Dir}{s t:MapS}{e:Edge}(h:MapI T g s)(a5:1<=e.to/\e.to<(g.length:Int))(he:DV T g i s e=some t):MapI T g t/\∃l,t.rest=s.rest++l:=by
 unfold DV at he;split at he
 .cases he
 .rename_i to _;split at he
  .split at he
   .split at he
    .rename_i hm;cases he;have hl:=(fe.1 hm).1;have a4:to∉s.rest:=λhc=>by obtain⟨k,h1,h2⟩:=(h.told to).1 hc;rw[hm]at h1;cases h1;exact h2 rfl
     refine⟨⟨by simp[h.len],λj k hj=>?_,?_,λj=>?_⟩,⟨_,rfl⟩⟩
     .by_cases a0:to=j
      .subst a0;rw[ng hl]at hj;cases hj;omega
      .rw[nu a0]at hj;exact h.low j k hj
     .rw[jb];refine⟨h.nodup,by simp,λa ha b hb=>?_⟩;rw[eh]at hb;subst hb;rintro rfl;exact a4 ha
     .rw[fj,eh];by_cases a0:to=j
      .subst a0;exact⟨λ_=>⟨e.to,ng hl,oM⟩,λ_=> .inr rfl⟩
      .show(j∈s.rest\/j=to)↔∃k:Int,(s.m.set to e.to)[j]?=some k/\k≠ -1;rw[nu a0,<-h.told j];exact⟨λhh=>by obtain hh|hh:=hh;exact hh;exact absurd hh.symm a0,λhh=>.inl hh⟩
    .split at he
     .cases he;exact⟨h,[],by simp⟩
     .cases he
   .cases he
  .cases he
def MapI.rest_le{T:List Dir}{s:MapS}(h:MapI T g s):s.rest.length<=T.length:=by
 have:=KN (m:=List.range T.length) h.nodup λi hi=>by obtain⟨k,h1,_⟩:=(h.told i).1 hi;have:=(fe.1 h1).1;rw[h.len]at this;exact mh.2 this
 simpa using this
def MapI.edges{T:List Dir}{g:LN}{i:Nat}:∀{es:LQ} {s t:MapS},MapI T g s->(∀e∈es,1<=e.to/\e.to<(g.length:Int))->E8 T g i s es=some t->MapI T g t/\∃l,t.rest=s.rest++l
 | [],s,t,h,_,he=>by cases he;exact⟨h,[],by simp⟩
 |e::es,s,t,h,hto,he=>by
  unfold E8 at he;cases hm:DV T g i s e with
  |none=>rw[hm]at he;cases he
  |some u=>rw[hm]at he;obtain⟨h1,l,hl⟩:=h.edge (hto e (.head _)) hm;obtain⟨h2,l',a0⟩:=MapI.edges h1 (λe' h'=>hto e' (.tail _ h')) he;exact⟨h2,l++l',by rw[a0,hl,fh]⟩
structure Stt where
 m:Mani
 g:LN
 T:List Dir
 pruned:Bool
def dirE:Enc Dir where
 n:=9
 bytes:=144
 rep:=λw S x cs=>Ac x.pack.name/\∃ps d e o:Sl,cs= [ps.v,.string x.pack.name,vi x.pack.v.ma,vi x.pack.v.mi,vi x.pack.v.pa,d.v,e.v,o.v,vi x.node]/\SlR strE w S ps x.path/\SlR depE w S d x.pack.deps/\SlR depE w S e x.pack.peers/\SlR depE w S o x.pack.opt
 len:=λ⟨_,ps,d,e,o,h,_⟩=>by rw[h];rfl
 one:=λ⟨_,ps,d,e,o,h,_⟩ v hv=>by rw[h]at hv;simp[Sl.v]at hv;rcases hv with rfl|rfl|rfl|rfl|rfl|rfl|rfl|rfl|rfl<;>rfl
 mono:=λ⟨h0,ps,d,e,o,h,a,b,c,k⟩ hs=>⟨h0,ps,d,e,o,h,a.mono hs,b.mono hs,c.mono hs,k.mono hs⟩
 keep:=λ⟨h0,ps,d,e,o,h,a,b,c,k⟩ hk=>⟨h0,ps,d,e,o,h,a.keep hk,b.keep hk,c.keep hk,k.keep hk⟩
def dirEl{l:List Dir}(h:SlR dirE w S s l)(hn:n<l.length):
  ∃ad ps d e o,s.a=some ad/\S ad.block/\Ac l[n].pack.name/\SlR strE w S ps l[n].path/\SlR depE w S d l[n].pack.deps/\SlR depE w S e l[n].pack.peers/\SlR depE w S o l[n].pack.opt/\
   ∀w',Ext w w'->ldc w' (ad.add (n*9)) [ps.v,.string l[n].pack.name,.int .i64 l[n].pack.v.ma,.int .i64 l[n].pack.v.mi,.int .i64 l[n].pack.v.pa,d.v,e.v,o.v,.int .i64 l[n].node]:=by
 obtain⟨ad,cs,h1,h2,⟨h0,ps,d,e,o,rfl,a,b,c,k⟩,h4⟩:=h.el hn;exact⟨ad,ps,d,e,o,h1,h2,h0,a,b,c,k,h4⟩
def Sx:Bt prog 38 61 9 144:=CB (z:=.agg #[.slice none 0 0,.string ⟨#[]⟩,vi 0,vi 0,vi 0,.slice none 0 0,.slice none 0 0,.slice none 0 0,vi 0]) kR kR rfl dC
def QR:dirE.rep w S ⟨[],Az,0⟩ [.slice none 0 0,.string ⟨#[]⟩,vi 0,vi 0,vi 0,.slice none 0 0,.slice none 0 0,.slice none 0 0,vi 0]:=
 ⟨by unfold Ac Az;rw[Ak];decide,Sl.nil,Sl.nil,Sl.nil,Sl.nil,rfl,SlR.nil trivial,SlR.nil trivial,SlR.nil trivial,SlR.nil trivial⟩
def DJ(s:Sl)(w w':Wd):Prop:=w.heap.size<=w'.heap.size/\∀b,b<w.heap.size->(∀ad,s.a=some ad->b≠ad.block)->w'.heap[b]?=w.heap[b]?
section
variable {α:Type} {E:Enc α} {T:TypeId} {w w':Wd} {lo:Nat} {Q:Nat->Prop} {s x:Sl} {l:List α}
def OwnS.oth(h:OwnS E T w lo Q x l)(ho:DJ s w w')(hA:Apart x s)(hQ:∀ad,s.a=some ad-> ¬Q ad.block):OwnS E T w' lo Q x l:=
 h.keep ho.1 λb a4 hb=>ho.2 b a4 λad ha e=>by
  rcases hb with hb|⟨a5,a0,rfl⟩
  .exact hQ ad ha (e▸hb)
  .exact hA _ _ a0 ha e
def SlR.oth(h:SlR E w Q x l)(ho:DJ s w w')(hQ:∀ad,s.a=some ad-> ¬Q ad.block):SlR E w' Q x l:=
 h.keep λb hb a0=>ho.2 b a0 λad ha e=>hQ ad ha (e▸hb)
def BoxAt.oth{a:Addr}(h:BoxAt w a cs)(ho:DJ s w w')(a4:∀ad,s.a=some ad->a.block≠ad.block):BoxAt w' a cs:=
 h.keep (S:=λb=>b=a.block) rfl λb hb a0=>ho.2 b a0 λad ha e=>a4 ad ha (hb▸e)
def Sl.regA{r:Sl}{y:Sl}{β:Type}{F:Enc β}{U:TypeId}{m:List β}(a0:∀ad,r.a=some ad->(s.a=some ad\/w.heap.size<=ad.block))(hA:Apart s y)(hy:OwnS F U w lo Q y m):Apart r y:=λa b ha hb=>by
 obtain h|h:=a0 a ha
 .exact hA a b h hb
 .have:=(hy.block hb).2.1;omega
def Sl.regO{r:Sl}{g:Nat}(a0:∀ad,r.a=some ad->(s.a=some ad\/w.heap.size<=ad.block))(hO:Jn s g)(hg:g<w.heap.size):Jn r g:=λa ha=>by
 obtain h|h:=a0 a ha
 .exact hO a h
 .omega
end
section
variable {w:Wd} {lo g:Nat} {stk nds ahd ws:Sl} {Q:Nat->Prop} {s:St} {P:Program}
def Sr0.pushNd{a:Addr}{x:Node}{k:Sl->Wp}(h:Sr0 w lo g stk nds ahd ws Q s)(hT:Bt P t 56 6 88)(a4:lo<=w.heap.size)(hg:g<w.heap.size)(hx:nodeE.rep w Q x cs)(hc:ldc w a cs)(hn:s.ns.length<=1000)
  (hk:∀(r:Sl)(w':Wd),Sr0 w' lo g stk r ahd ws Q {s with ns:=s.ns++[x]}->Below lo w w'->DJ nds w w'->(∀ad,r.a=some ad->(nds.a=some ad\/w.heap.size<=ad.block))->k r w'):appS P t t nds (Sl.v ⟨some a,1,1⟩) w k:=by
 have a5:=Ak;refine h.nodes.push (E:=nodeE) hT a4 hx hc h.nodes.lt h.nodes.apart (by show(s.ns.length+1)*88<=Ab;unfold Ab;omega) oM λr w' own bel oth a0=>?_;have ho:DJ nds w w':=⟨bel.size,oth⟩;have hQ:=h.nodes.apart;refine hk r w' ⟨h.stack.oth ho h.a1 hQ,own.mono (λb hb=>hb.elim id id) (λb hb=>jd (h.nodes.lt b hb) bel.size) (λad ha hb=>?_),h.ahead.oth ho h.a3.swap hQ,h.wants.oth ho hQ,h.q,(Sl.regA a0 h.a1.swap h.stack).swap,h.a2,Sl.regA a0 h.a3 h.ahead,h.o1,Sl.regO a0 h.o2 hg,h.o3⟩ bel ho a0;obtain h1|h1:=a0 ad ha
 .exact hQ ad h1 hb
 .have:=h.nodes.lt _ hb;omega
def Sr0.pushCh{a:Addr}{x:Ch}{k:Sl->Wp}(h:Sr0 w lo g stk nds ahd ws Q s)(hT:Bt P t 130 5 64)(a4:lo<=w.heap.size)(hg:g<w.heap.size)(hx:chE.rep w Q x cs)(hc:ldc w a cs)(hn:s.stack.length<=100000)
  (hk:∀(r:Sl)(w':Wd),Sr0 w' lo g r nds ahd ws Q {s with stack:=s.stack++[x]}->Below lo w w'->DJ stk w w'->k r w'):appS P t t stk (Sl.v ⟨some a,1,1⟩) w k:=by
 have a5:=Ak;refine h.stack.push (E:=chE) hT a4 hx hc h.stack.lt h.stack.apart (by show(s.stack.length+1)*64<=Ab;unfold Ab;omega) oM λr w' own bel oth a0=>?_;have ho:DJ stk w w':=⟨bel.size,oth⟩;have hQ:=h.stack.apart;refine hk r w' ⟨own.mono (λb hb=>hb.elim id id) (λb hb=>jd (h.stack.lt b hb) bel.size) (λad ha hb=>?_),h.nodes.oth ho h.a1.swap hQ,h.ahead.oth ho h.a2.swap hQ,h.wants.oth ho hQ,h.q,Sl.regA a0 h.a1 h.nodes,Sl.regA a0 h.a2 h.ahead,h.a3,Sl.regO a0 h.o1 hg,h.o2,h.o3⟩ bel ho;obtain h1|h1:=a0 ad ha
 .exact hQ ad h1 hb
 .have:=h.stack.lt _ hb;omega
def Sr0.pushAh{a:Addr}{x:Nat}{k:Sl->Wp}(h:Sr0 w lo g stk nds ahd ws Q s)(hT:Bt P t 3 1 8)(a4:lo<=w.heap.size)(hg:g<w.heap.size)(hc:ldc w a [vi (x:Int)])(hn:s.ahead.length<=100000)
  (hk:∀(r:Sl)(w':Wd),Sr0 w' lo g stk nds r ws Q {s with ahead:=s.ahead++[x]}->Below lo w w'->DJ ahd w w'->k r w'):appS P t t ahd (Sl.v ⟨some a,1,1⟩) w k:=by
 have a5:=Ak;refine h.ahead.push (E:=BZ) (x:=(x:Int)) hT a4 ⟨rfl,trivial⟩ hc h.ahead.lt h.ahead.apart (by show((s.ahead.map Int.ofNat).length+1)*8<=Ab;rw[dx];unfold Ab;omega) (by rw[dx];omega) λr w' own bel oth a0=>?_;have ho:DJ ahd w w':=⟨bel.size,oth⟩;have hQ:=h.ahead.apart;refine hk r w' ⟨h.stack.oth ho h.a2 hQ,h.nodes.oth ho h.a3 hQ,?_,h.wants.oth ho hQ,h.q,h.a1,(Sl.regA a0 h.a2.swap h.stack).swap,(Sl.regA a0 h.a3.swap h.nodes).swap,h.o1,h.o2,Sl.regO a0 h.o3 hg⟩ bel ho;have e:(s.ahead++[x]).map Int.ofNat=s.ahead.map Int.ofNat++[(x:Int)]:=by rw[fq];rfl
 show OwnS BZ 3 w' lo Q r ((s.ahead++[x]).map Int.ofNat);rw[e];refine own.mono (λb hb=>hb.elim id id) (λb hb=>jd (h.ahead.lt b hb) bel.size) (λad ha hb=>?_);obtain h1|h1:=a0 ad ha
 .exact hQ ad h1 hb
 .have:=h.ahead.lt _ hb;omega
def Sr0.oth{w':Wd}{x:Sl}(h:Sr0 w lo g stk nds ahd ws Q s)(ho:DJ x w w')(h1:Apart stk x)(h2:Apart nds x)(h3:Apart ahd x)(hQ:∀ad,x.a=some ad-> ¬Q ad.block):Sr0 w' lo g stk nds ahd ws Q s:=
 ⟨h.stack.oth ho h1 hQ,h.nodes.oth ho h2 hQ,h.ahead.oth ho h3 hQ,h.wants.oth ho hQ,h.q,h.a1,h.a2,h.a3,h.o1,h.o2,h.o3⟩
def Sr0.addQ{P:Nat->Prop}(h:Sr0 w lo g stk nds ahd ws Q s)(hP:∀b,P b->lo<=b/\b≠g/\b<w.heap.size)(h1:∀ad,stk.a=some ad-> ¬P ad.block)(h2:∀ad,nds.a=some ad-> ¬P ad.block)(h3:∀ad,ahd.a=some ad-> ¬P ad.block):Sr0 w lo g stk nds ahd ws (λb=>Q b\/P b) s:=
 have key:∀{α:Type} {E:Enc α} {T:TypeId} {x:Sl} {l:List α},OwnS E T w lo Q x l->(∀ad,x.a=some ad-> ¬P ad.block)->OwnS E T w lo (λb=>Q b\/P b) x l:=λo hn=>o.mono (λ_ h=>.inl h) (λb hb=>hb.elim (o.lt b) λhb=>(hP b hb).2.2) λad ha hb=>hb.elim (o.apart ad ha) (hn ad ha)
 ⟨key h.stack h1,key h.nodes h2,key h.ahead h3,h.wants.mono λ_ h=>.inl h,λb hb=>hb.elim (h.q b) λhb=>⟨(hP b hb).1,(hP b hb).2.1⟩,h.a1,h.a2,h.a3,h.o1,h.o2,h.o3⟩
end
def Zii{ns a:LN}{k:Nat}(hk:k<ns.length):(ns++a).set k {ns[k]with edges:=es}=Cm ns k es++a:=by
 rw[List.set_append_left _ _ hk];congr 1;unfold Cm;apply pb;intro i;rw[mc,List.getElem?_set];by_cases h:k=i
 .subst h;rw[if_pos rfl,if_pos hk,dt hk];simp
 .rw[if_neg h];cases ns[i]? with
  |none=>rfl
  |some n=>simp[h]
def W4{e:LP}{n:Bs}:(tells e n).isSome=e.any (Ay n):=by
 unfold tells;rw[Option.isSome_map];cases h:e.any (Ay n)
 .simp only[pc,ne_eq,List.find?_isSome,not_exists,not_and];intro x hx hp;have:=kw.1 h x hx;exact this hp
 .obtain⟨x,hx,hp⟩:=jm.1 h;rw[List.find?_isSome];exact⟨x,hx,hp⟩
def MO{e:LP}{c:Ch}{v:Ver}(h:tells e c.name=some v):BP e c=e:=by
 unfold BP Er;have:e.any (Ay c.name)=true:=by rw[<-W4,h];rfl
 cases c.vs[c.i]? with
 |none=>rfl
 |some v=>dsimp only;rw[if_pos this]
def MM{e:LP}{c:Ch}(h:tells e c.name=none)(hi:c.i<c.vs.length):BP e c=e++[⟨c.name,c.vs[c.i]⟩]:=by
 unfold BP Er;have:e.any (Ay c.name)=false:=by rw[<-W4,h];rfl
 rw[dt hi];dsimp only;rw[if_neg (by rw[this];decide)]
def MN{e:LP}{c:Ch}(hi: ¬c.i<c.vs.length):BP e c=e:=by unfold BP Er;rw[io oM]
def Xx{e:LP}{c:Ch}(h:(e.map (·.name)).Nodup):((BP e c).map (·.name)).Nodup:=by
 cases ht:tells e c.name with
 |some v=>rw[MO ht];exact h
 |none=>
  by_cases hi:c.i<c.vs.length
  .rw[MM ht hi,fq,jb];refine⟨h,by simp,λa ha b hb=>?_⟩;simp only[ib,nx,eh]at hb;subst hb;obtain⟨x,hx,rfl⟩:=gu.1 ha;exact Zka ht x hx
  .rw[MN hi];exact h
def Xw(e:LP)(c:Ch):(BP e c).length<=e.length+1:=by
 cases ht:tells e c.name with
 |some v=>rw[MO ht];omega
 |none=>
  by_cases hi:c.i<c.vs.length
  .rw[MM ht hi,du];simp
  .rw[MN hi];omega
def Zj5{q:Quest}{env r:LP}{c:LP}(h:Da q.L q.m.over env p=some c):Cf q env (p::r)=(Cf q env r).map λxs=>⟨p.name,p.v,c,[]⟩::xs:=by rw[Cf,h]
def Zj6{q:Quest}{env r:LP}(h:Da q.L q.m.over env p=none):Cf q env (p::r)=none:=by rw[Cf,h]
def Zgd{x:Node}(h:ks.findIdx? (λy=>decide (y=x.key))=some i):Bb N ks (x::xs)=(Bb N ks xs).map λr=>(r.1,⟨x.name,(i:Int)⟩::r.2):=by rw[Bb,h]
def Zgc{x:Node}(h:ks.findIdx? (λy=>decide (y=x.key))=none)(hN:ks.length=N):Bb N ks (x::xs)=none:=by rw[Bb,h];dsimp only;rw[if_pos hN]
def Zge{x:Node}(h:ks.findIdx? (λy=>decide (y=x.key))=none)(hN: ¬ks.length=N):Bb N ks (x::xs)=(Bb N (ks++[x.key]) xs).map λr=>(x::r.1,⟨x.name,(ks.length:Int)⟩::r.2):=by rw[Bb,h];dsimp only;rw[if_neg hN]
def Zba(ns:LN)(x:Node):(ns.map Node.key).findIdx? (λy=>decide (y=x.key))=ns.findIdx? (λy=>decide (y.key=x.key)):=by rw[List.findIdx?_map];rfl
section
variable {w:Wd} {lo:Nat} {sp:Addr} {K:K7} {q:Quest} {s:St}
def SH(hC:Cs w lo q K)(h:CK w lo sp K s)(hI:InvS q 0 s)(hN:q.N<=128)(hD:q.D<=4096)
  (i7:∀w',q.bind s.ns s.ahead.length s.env= .graph->Ext w w'->R 33 w')
  (m0:∀w',q.bind s.ns s.ahead.length s.env= .many->Below lo w w'->R 32 w')
  (v6:∀w' r8,q.bind s.ns s.ahead.length s.env= .ok r8->Below lo w w'->CK w' lo sp K {s with ns:=r8,ahead:=s.ahead++[s.ns.length]}->R 0 w'):
  SE.IE (some sp) (q.N:Int) w R:=by
 unfold SE.IE;obtain⟨stk,nds,ahd,ws,Q,hb,l9,h0⟩:=h;have ax:=h0.stack.len;have k9:=h0.ahead.len;have v5:=h0.nodes.len;rw[dx]at k9;have hk:=hI.a;have v3:=hI.n;have hg:=Iv hb;have aq:=Ak;have hx:s.ns[s.ahead.length]?=some s.ns[s.ahead.length]:=dt hk;obtain⟨ad,cs,v4,⟨aj,c,e,rfl,j4,_⟩,u3⟩:=h0.nodes.el hx;have u0:=Tm hx;have p9:=hI.c _ (fg hk);have q2:s.env=(s.stack.drop s.first).foldl BP s.ns[s.ahead.length].ctx:=by unfold St.env;rw[u0]
 have aw:s.stack.length<=4096:=by have:=hI.k;have:=hI.d;omega
 have g0:∀p∈s.ns[s.ahead.length].ctx,Ac p.name:=λp hp=>by obtain⟨i,hi,rfl⟩:=fp.1 hp;obtain⟨_,_,_,h,_⟩:=Dh j4 hi;exact h
 obtain⟨S,r,p7,hS,au,am⟩:=hC.cat;refine⟨sp,rfl,ahd,BoxAt.at1 hb (k:=9) xR rfl,sp,rfl,nds,BoxAt.at1 hb (k:=8) xR rfl,ad,⟨v4,oM,oM⟩,c,by rw[k9];exact(u3 _ xR).mid (k:=4) rfl,?_⟩;refine SE.IL.go (Tg (S:=Q) h0.nodes.lt j4 λt w1 x1 k4=>⟨_,rfl,bnd.drew λw2 x2=>⟨sp,rfl,stk,BoxAt.at1 hb (k:=7) (x1.trans x2) rfl,sp,rfl,(s.first:Int),BoxAt.at1 hb (k:=11) (x1.trans x2) rfl,⟨oM,by have:=hI.f;omega⟩,?_⟩⟩);have e5:SlR chE w (λb=>Q b\/∃ad,stk.a=some ad/\b=ad.block) (Sl.cut stk s.first stk.len 5) ((s.stack.take stk.len).drop s.first):=SlR.cut (E:=chE) (h0.stack.read (by show s.stack.length*64<=Ab;unfold Ab;omega) oM) (by have:=hI.f;omega) oM;rw[gj oM]at e5;have ef:((s.first:Int)).toNat=s.first:=ec _;rw[ef];generalize l0:Sl.cut stk s.first stk.len 5=y9 at e5 ⊢;have ai:(s.stack.drop s.first).length<=4096:=by rw[fy];omega
 generalize hL:s.stack.drop s.first=L at*;have al:=e5.len;have z8:=x1.size;have z9:=x2.size;refine loop2.up e5.max (λenv i w'=>Ext w w'/\OwnS pinE 150 w' w.heap.size None' env ((L.take i).foldl BP s.ns[s.ahead.length].ctx)/\(((L.take i).foldl BP s.ns[s.ahead.length].ctx).map (·.name)).Nodup/\(∀p∈(L.take i).foldl BP s.ns[s.ahead.length].ctx,Ac p.name)/\((L.take i).foldl BP s.ns[s.ahead.length].ctx).length<=2048+i)
  ⟨x1.trans x2,k4.ext x2,p9.1,g0,p9.2⟩ λenv i w3 r9 hi ⟨x3,d2,i9,f7,j6⟩ hn=>⟨λg2=>join.named λJ hJ=>?_,λl6=>?_⟩
 .have a8:i<L.length:=oM;obtain⟨n2,y7,p0,_,⟨o5,v,rfl,hv⟩,u1⟩:=e5.el a8;have k5:(L.take (i+1)).foldl BP s.ns[s.ahead.length].ctx=BP ((L.take i).foldl BP s.ns[s.ahead.length].ctx) L[i]:=by rw[dw a8,List.foldl_append];rfl
  rw[k5]at hn;generalize (L.take i).foldl BP s.ns[s.ahead.length].ctx=A at*;generalize L[i]=ch at*;have m5:=x3.size;have kJ:∀f8 w',Ext w w'->OwnS pinE 150 w' w.heap.size None' f8 (BP A ch)->J f8 w':=λf8 w' x' o'=>by
   subst hJ;refine hn a8 _ _ ⟨x',o',Xx i9,λp hp=>?_,by have:=Xw A ch;omega⟩;cases ht:tells A ch.name with
   |some v=>rw[MO ht]at hp;exact f7 p hp
   |none=>
    by_cases hi:ch.i<ch.vs.length
    .rw[MM ht hi]at hp;obtain hp|hp:=fj.1 hp
     .exact f7 p hp
     .simp only[eh]at hp;subst hp;exact o5
    .rw[MN hi]at hp;exact f7 p hp
  clear hJ;have eP:pinE.bytes=40:=rfl;have o0:SlR pinE w3 (λb=>w.heap.size<=b) env A:=d2.readF dC (by rw[eP];unfold Ab;omega);refine⟨n2,⟨p0,oM,g2⟩,_,_,v,_,_,u1 _ x3,newS.intro λa w4 x4 t7 z1 _=>stw0.intro t7 sI λw5 b5 _ f4=>⟨_,f4.at1 (k:=1) xR rfl,?_⟩⟩;have h4:Ext w3 w5:=b5.ext x4 oM;have e3:=x3.trans h4;refine SE.Hl.go (QS (o0.ext h4) (λv' w6 ht x6=>⟨_,_,_,_,rfl,newS.intro λs4 w7 x7 c7 j2 _=>stw0.intro c7 sI λw8 b8 _ i5=>bound ?_⟩) λw6 ht x6=>⟨_,_,_,_,rfl,newS.intro λs4 w7 x7 c7 j2 _=>stw0.intro c7 sI λw8 b8 _ i5=>bound ?_⟩)
  .have b6:Ext w5 w8:=x6.trans (b8.ext x7 oM);refine⟨0,nO,Sl.nil,nO,nO,λ_=>kJ _ _ (e3.trans b6) ?_⟩;rw[MO ht];exact d2.ext (h4.trans b6)
  .have b6:Ext w5 w8:=x6.trans (b8.ext x7 oM);have e4:=e3.trans b6;have az:=hv.len;refine⟨(ch.i:Int),λ_=>f4.at1 (k:=4) b6 rfl,v,λ_=>f4.at1 (k:=2) b6 rfl,λhh=>?_,λhh=>?_⟩
   .have i6:ch.i<ch.vs.length:=(by simp at hh;omega);obtain⟨n4,y8,p4,_,⟨l5,_⟩,u2⟩:=hv.el i6;subst l5;refine bnd.drew λw9 x9=>⟨_,f4.at1 (k:=1) (b6.trans x9) rfl,v,f4.at1 (k:=2) (b6.trans x9) rfl,(ch.i:Int),f4.at1 (k:=4) (b6.trans x9) rfl,n4,⟨p4,oM,oM⟩,_,_,_,u2 _ (e4.trans x9),newS.intro λae c4 c8 d1 _ _=>?_⟩;refine(d2.ext (((h4.trans b6).trans x9).trans c8)).pushF (((e4.trans x9).trans c8)) Js (x:=⟨ch.name,ch.vs[ch.i]⟩) ⟨rfl,o5⟩ d1.ldc dC (by rw[eP];unfold Ab;omega) λr' d6 e9 c5=>kJ r' d6 c5 ?_;rw[MM ht i6];exact e9
   .have i6: ¬ch.i<ch.vs.length:=(by simp at hh;omega);refine kJ _ _ e4 ?_;rw[MN i6];exact d2.ext (h4.trans b6)
 .have l7:i=L.length:=oM;rw[l7,eu,<-q2]at d2 i9 f7 j6;have m5:=x3.size;have s9:s.env.length<=7000:=oM;generalize ah:s.env=E0 at*;have hF:FlatO AQ 40 w3 w.heap.size env E0:=FlatO.of (E:=pinE) (f:=AQ) (bytes:=40) (λx cs h=>h.1) d2 (by unfold Ab;omega);refine Ziy hF m5 i9 λw4 b4 o4=>⟨rfl,?_⟩;have n0:Ext w w4:=x3.trans' b4;have av:=n0.size;have r7:∀p∈B3 E0,Ac p.name:=λp hp=>f7 p ((EK E0).mem_iff.1 hp);have hE:SlR pinE w4 (λb=>w.heap.size<=b/\b<w4.heap.size) env (B3 E0):=o4.pins r7;have z0:(B3 E0).length<=7000:=by rw[(EK E0).length_eq];exact s9
  have b2:q.bind s.ns s.ahead.length E0=match Cf q (B3 E0) (B3 E0)with
   |none=>.graph
   |some xs=>match Bb q.N (s.ns.map Node.key) xs with
    |none=>.many
    |some r=>.ok (Cm s.ns s.ahead.length r.2++r.1):=rfl
  generalize B3 E0=ES at*;clear d2 i9 f7 j6 hF o4 g0 hn b4 x3 m5 hi l6 k4;have an:=hE.len;refine loop2.up hE.max (λtg i w'=>Ext w4 w'/\∃(SS:Nat->Prop) (done:LN),OwnS nodeE 56 w' w4.heap.size SS tg done/\(∀b,SS b->w4.heap.size<=b)/\Cf q ES ES=(Cf q ES (ES.drop i)).map (λr=>done++r)/\done.length=i)
   ⟨Ext.refl _,None',[],OwnS.nil _ _,λ_ h=>h.elim,by rw[jv];cases Cf q ES ES<;>rfl,rfl⟩ λtg i w5 r9 hi ⟨x5,SS,done,d9,o9,g7,u4⟩ hn=>⟨λg2=>?_,λl6=>?_⟩
  .have a8:i<ES.length:=oM;obtain⟨s5,t4,_,o6,t9⟩:=Dh hE a8;rw[fx a8]at g7;generalize ES[i]=p at*;have v8:=x5.size;refine⟨s5,⟨t4,oM,g2⟩,_,_,_,_,t9 _ x5,newS.intro λa6 w6 x6 d5 z2 _=>stw0.intro d5 sI λw7 b7 _ c7=>bnd.drew λw8 x8=>?_⟩;have y6:Ext w5 w7:=b7.ext x6 oM;have b6:=y6.trans x8;have n1:=x5.trans b6;have e4:=n0.trans n1;have y0:=b6.size;refine⟨sp,rfl,some K.cp,BoxAt.at0 hb e4 rfl,sp,rfl,K.mD,K.mDev,K.mOpt,K.mOv,BoxAt.at1 hb (k:=1) e4 rfl,_,_,_,_,c7.at0 (r:=[]) x8 rfl,?_⟩;have n9:=hC.below (e4.below' lo hC.le);refine SE.M4.go (Zln (p7.ext e4) n9.old (S3:=λb=>w.heap.size<=b/\b<w4.heap.size) (λb hb=>by have:=n1.size;omega) n9.over (hE.ext n1) o6 (λcx t w9 g5 x9 t0 r6=>⟨_,_,rfl,nO,λ_=>?_⟩) λw9 g5 x9=>⟨_,_,rfl,λ_=>?_,nO⟩)
   .have r4:=x9.size;have s2:=x8.trans x9;refine⟨_,c7.at0 s2 rfl,_,_,_,c7.at1 (k:=1) (r:=[]) s2 rfl,newS.intro λac c4 c8 d1 t6 _=>?_⟩;have h9:=(b6.trans x9).trans c8;have g6:=c8.size;refine(d9.ext h9).push (E:=nodeE) OU (x:=⟨p.name,p.v,cx,[]⟩) (S':=λb=>w8.heap.size<=b/\b<w9.heap.size) (by have:=h9.size;omega) ⟨o6,t,Sl.nil,rfl,(t0.pins r6).ext c8,SlR.nil trivial⟩ d1.ldc (λb hb=>by omega) (λad a4 hb=>by have:=(d9.block a4).2.1;omega) (by show(done.length+1)*88<=Ab;unfold Ab;omega) oM λr' d6 e9 d0 y3 y4=>?_;refine hn a8 _ _ ⟨(x5.trans h9).trans' d0,_,done++[⟨p.name,p.v,cx,[]⟩],e9,λb hb=>?_,?_,by rw[du,u4];rfl⟩
    .obtain hb|hb:=hb
     .exact o9 b hb
     .omega
    .rw[g7,Zj5 g5,Option.map_map];congr 1;funext r;simp
   .refine i7 w9 ?_ (e4.trans x9);rw[b2,g7,Zj6 g5];rfl
  .have l7:i=ES.length:=oM;have j9:Cf q ES ES=some done:=(by rw[g7,l7,lh,Cf];simp);rw[j9]at b2;dsimp only at b2;clear g7 hn j9;have v8:=x5.size;have e3:=n0.trans x5;have z5:=e3.size;generalize done=xs at*;have ba:xs.length<=7000:=oM;obtain⟨ST,k7,f9⟩:∃ST,SlR nodeE w5 ST tg xs/\∀b,ST b->w4.heap.size<=b/\b<w5.heap.size:=⟨_,d9.read (by show xs.length*88<=Ab;unfold Ab;omega) oM,λb hb=>by
    rcases hb with hb|⟨ad,a4,rfl⟩
    .exact⟨o9 b hb,d9.lt b hb⟩
    .exact⟨(d9.block a4).1,(d9.block a4).2.1⟩⟩
   have q6:∀ad,nds.a=some ad->ad.block<w.heap.size:=λad a4=>(h0.nodes.block a4).2.1;have j3:∀ad,ahd.a=some ad->ad.block<w.heap.size:=λad a4=>(h0.ahead.block a4).2.1;have j8:∀ad,stk.a=some ad->ad.block<w.heap.size:=λad a4=>(h0.stack.block a4).2.1;obtain⟨Q2,h5,t1,o8⟩:∃Q2,Sr0 w5 lo sp.block stk nds ahd ws Q2 s/\(∀b,Q2 b->b<w5.heap.size)/\∀b,ST b->Q2 b:=⟨_,h0.grow e3 hC.le hg,λb hb=>by
    obtain hb|hb:=hb
    .have:=h0.nodes.lt b hb;omega
    .exact hb.2,λb hb=>.inr ⟨by have:=f9 b hb;omega,(f9 b hb).2⟩⟩
   have ay:=k7.len;refine⟨sp,rfl,nds,BoxAt.at1 hb (k:=8) e3 rfl,?_⟩;refine loop2.up k7.max (λeg i w'=>∃(a5:Sl) (a0:LN) (es:LQ),BoxAt w' sp (CH K stk a5 ahd ws s.first)/\Sr0 w' lo sp.block stk a5 ahd ws Q2 {s with ns:=s.ns++a0}/\(∀ad,a5.a=some ad->ad.block<w.heap.size\/w5.heap.size<=ad.block)/\Below lo w5 w'/\(∀b,w.heap.size<=b->b<w5.heap.size->w'.heap[b]?=w5.heap[b]?)/\
     OwnS edgeE 153 w' w5.heap.size None' eg es/\Apart eg a5/\Bb q.N (s.ns.map Node.key) xs=(Bb q.N ((s.ns++a0).map Node.key) (xs.drop i)).map (λr=>(a0++r.1,es++r.2))/\es.length=i/\(s.ns++a0).length<=q.N)
    ⟨nds,[],[],hb.ext e3,by rw[gc];exact h5,λad a4=>.inl (q6 ad a4),Below.refl _ _,λ_ _ _=>rfl,OwnS.nil _ _,λ_ _ h=>(by cases h),by rw[gc,jv];cases Bb q.N (s.ns.map Node.key) xs<;>rfl,rfl,by rw[gc];exact v3⟩
    λeg i w6 r9 hi ⟨a5,a0,es,d5,h6,g3,d7,g8,d3,i4,f6,q3,q9⟩ hn=>⟨λg2=>?_,λl6=>?_⟩
   .have a8:i<xs.length:=oM;have v9:=d7.size;have t3:SlR nodeE w6 ST tg xs:=k7.keep λb hb t8=>g8 b (by have:=f9 b hb;omega) t8;obtain⟨s6,af,t5,_,⟨o7,cy,ey,rfl,q0,u6⟩,p8⟩:=t3.el a8;rw[fx a8]at f6;have g4:=h6.nodes.len;generalize xs[i]=x at*;refine⟨s6,⟨t5,oM,g2⟩,_,_,_,_,cy,ey,p8 _ xR,newS.intro λa7 w7 x7 c7 j2 _=>stw0.intro c7 sI λw8 b8 _ i5=>?_⟩;have x0:=x7.size;have i2:Ext w6 w8:=b8.ext x7 oM;have y0:=i2.size;have q7:SlR nodeE w8 (λb=>Q2 b\/∃ad,a5.a=some ad/\b=ad.block) a5 (s.ns++a0):=(h6.nodes.ext i2).read (by show(s.ns++a0).length*88<=Ab;unfold Ab;omega) (by show(s.ns++a0).length<=maxLen;omega);have z7:sp.block<w.heap.size:=hg;have ab:w5.heap.size<=w8.heap.size:=oM;refine⟨sp,rfl,a5,BoxAt.at1 d5 (k:=8) i2 rfl,SE.LX.go (Zb4 (p:=λy=>decide (y.key=x.key)) q7 (λy _ c' e' bc k k0 q1 hk=>⟨_,_,rfl,ZC,SE.L3.go (XT (x:=x) (y:=y) (i5.ext k0) ((q0.ext i2).ext k0) q1 hk)⟩) λw9 x9=>⟨_,rfl,join.named λJ hJ=>?_⟩)⟩;have d4:=i2.trans x9;have r4:=d4.size;have f5:=i5.ext x9;have kJ:∀(to:Int)(c4:Wd)(d8:Sl)(b0:LN),BoxAt c4 a7 [.string x.name,vi x.v.ma,vi x.v.mi,vi x.v.pa,cy.v,ey.v]->BoxAt c4 sp (CH K stk d8 ahd ws s.first)->Sr0 c4 lo sp.block stk d8 ahd ws Q2 {s with ns:=s.ns++b0}->(∀ad,d8.a=some ad->ad.block<w.heap.size\/w5.heap.size<=ad.block)->Below lo w5 c4->(∀b,w.heap.size<=b->b<w5.heap.size->c4.heap[b]?=w5.heap[b]?)->
      OwnS edgeE 153 c4 w5.heap.size None' eg es->Apart eg d8->Bb q.N (s.ns.map Node.key) xs=(Bb q.N ((s.ns++b0).map Node.key) (xs.drop (i+1))).map (λr=>(b0++r.1,(es++[⟨x.name,to⟩])++r.2))->(s.ns++b0).length<=q.N->J to c4:=by
     subst hJ;intro to c4 d8 b0 d1 m6 i3 m1 c9 m7 h3 j1 m4 m3;refine⟨_,d1.at0 xR rfl,newS.intro λs3 d6 c5 e6 k8 _=>?_⟩;have g6:=c9.size;have r2:=c5.size;have d0:Below lo w5 d6:=Below.trans c9 (c5.below' lo (by have:=hC.le;omega));refine(h3.ext c5).push (E:=edgeE) MQ (x:=⟨x.name,to⟩) (S':=None') oM ⟨rfl,o7⟩ e6.ldc (λ_ h=>h.elim) (λ_ _ h=>h.elim) (by show(es.length+1)*24<=Ab;unfold Ab;omega) oM λr' j0 m8 c3 g9 e0=>?_;have r3:=c3.size;have ho:DJ eg d6 j0:=⟨c3.size,g9⟩;have b9:∀ad,eg.a=some ad->w5.heap.size<=ad.block:=λad a4=>(h3.block a4).1;refine hn a8 r' j0 ⟨d8,b0,es++[⟨x.name,to⟩],(m6.ext c5).oth ho (λad a4=>by have:=b9 ad a4;omega),(i3.ext c5).oth ho (λa b ha hb=>by have:=j8 a ha;have:=b9 b hb;omega) j1.swap (λa b ha hb=>by have:=j3 a ha;have:=b9 b hb;omega) (λad a4 hq=>by have:=b9 ad a4;have:=t1 _ hq;omega),m1,
      Below.trans d0 (Below.mono c3 (by have:=hC.le;omega)),λb h1 h2=>?_,m8.mono (λ_ h=>h.elim id id) (λ_ h=>h.elim) (λ_ _ h=>h.elim),Sl.regA e0 j1 (i3.nodes.ext c5),m4,by rw[du,q3];rfl,m3⟩
     rw[g9 b oM λad a4 e=>by have:=b9 ad a4;omega,c5.block oM];exact m7 b h1 h2
    clear hJ;have e7:=Zba (s.ns++a0) x;have r0:(s.ns++a0).length=s.ns.length+a0.length:=du;cases hf:(s.ns++a0).findIdx? (λy=>decide (y.key=x.key))with
    |some j=>have g1:AO (λy:Node=>decide (y.key=x.key)) (s.ns++a0)=(j:Int):=(by unfold AO;rw[hf]);rw[g1];rw[hf]at e7;refine⟨λh=>by omega,λ_=>kJ (j:Int) w9 a5 a0 f5 (d5.ext d4) (h6.ext d4) g3 (Below.trans d7 (d4.below' lo (by have:=hC.le;omega))) (λb h1 h2=>by rw[d4.block oM];exact g8 b h1 h2) (d3.ext d4) i4 ?_ q9⟩;rw[f6,Zgd e7,Option.map_map];congr 1;funext r;simp
    |none=>
     have g1:AO (λy:Node=>decide (y.key=x.key)) (s.ns++a0)= -1:=(by unfold AO;rw[hf]);rw[g1];rw[hf]at e7;have l8:a5.len=(s.ns++a0).length:=g4;refine⟨λ_=>⟨sp,rfl,a5,BoxAt.at1 d5 (k:=8) d4 rfl,λu7=>?_,λar=>?_⟩,λh=>absurd dC h⟩
     .refine m0 w9 ?_ (Below.trans (Below.trans (e3.below' lo hC.le) d7) (d4.below' lo (by have:=hC.le;omega)));rw[b2,f6,Zgc e7 (by rw[dx];omega)];rfl
     .refine⟨sp,rfl,a5,BoxAt.at1 d5 (k:=8) d4 rfl,bnd.drew λc4 c8=>⟨sp,rfl,a5,BoxAt.at1 d5 (k:=8) (d4.trans c8) rfl,_,_,_,_,cy,ey,f5.at0 (r:=[]) c8 rfl,newS.intro λs3 d6 c5 e6 k8 _=>?_⟩⟩;have g6:=c8.size;have r2:=c5.size;have c6:=(d4.trans c8).trans c5;have d0:Below lo w5 d6:=Below.trans d7 (c6.below' lo (by have:=hC.le;omega));refine Sr0.pushNd (x:=x) (h6.ext c6) OU (by have:=hC.le;omega) oM ⟨o7,cy,ey,rfl,(q0.ext c6).mono o8,(u6.ext c6).mono o8⟩ e6.ldc (by show(s.ns++a0).length<=1000;omega) λr' j0 s7 c3 f0 e0=>?_;have r3:=c3.size;have z4:∀ad,a5.a=some ad->ad.block<d6.heap.size:=λad a4=>(by have:=(h6.nodes.block a4).2.1;omega);have q8:∀ad,a5.a=some ad->a7.block≠ad.block:=λad a4=>(by have:=(h6.nodes.block a4).2.1;omega);have p5:BoxAt j0 sp (CH K stk a5 ahd ws s.first):=(d5.ext c6).oth f0 λad a4 e=>h6.o2 ad a4 e.symm;refine⟨sp,rfl,?_⟩;refine stw.intro (o:=8) p5 (by show 9<=12;omega) λy5 f2 aa p6=>?_;have z6:=f2.1;have m2:a7.block≠sp.block:=oM;have v7:∀ad,r'.a=some ad->ad.block<w.heap.size\/w5.heap.size<=ad.block:=λad a4=>by
       obtain h|h:=e0 ad a4
       .exact g3 ad h
       .right;omega
      have n8:Apart eg r':=(Sl.regA e0 i4.swap (d3.ext c6)).swap;have y1:((a5.len:Int))=(((s.ns++a0).map Node.key).length:Int):=(by rw[dx,l8]);rw[y1];refine kJ _ y5 r' (a0++[x]) (f2.box ((f5.ext (c8.trans c5)).oth f0 q8) m2) p6 ?_ v7 (Below.trans (Below.trans d0 c3) (f2.below (by have:=hC.le;omega) l9)) (λb h1 h2=>?_) ?_ n8 ?_ ?_
      .have s8:=s7.but f2;have e1:s.ns++a0++[x]=s.ns++(a0++[x]):=fh _ _ _;rw[<-e1];exact s8
      .rw[f2.2.2.2.2 b oM oM,f0.2 b oM λad a4 e=>by rcases g3 ad a4 with h|h<;>omega,c6.block oM];exact g8 b h1 h2
      .exact((d3.ext c6).oth f0 i4 λ_ _ h=>h.elim).but f2 (λh=>h.elim) λad a4=>by have:=(d3.block a4).1;omega
      .have e2:(s.ns++(a0++[x])).map Node.key=(s.ns++a0).map Node.key++[x.key]:=(by rw[<-fh];exact fq);rw[f6,Zge e7 (by rw[dx];omega),Option.map_map,e2];congr 1;funext r;simp
      .rw[du,du];rw[gk];omega
   .have v0:i=xs.length:=oM;have j7:Bb q.N (s.ns.map Node.key) xs=some (a0,es):=(by rw[f6,v0,lh,Bb];simp);rw[j7]at b2;dsimp only at b2;clear f6 j7 hn;have v9:=d7.size;have r0:(s.ns++a0).length=s.ns.length+a0.length:=du;have q4:s.ahead.length<(s.ns++a0).length:=oM;have y2:(s.ns++a0)[s.ahead.length]?=some (s.ns++a0)[s.ahead.length]:=dt q4;obtain⟨f1,ag,e8,_,_⟩:=h6.nodes.el y2;have g4:a5.len=(s.ns++a0).length:=h6.nodes.len;have u5:=d3.read (by show es.length*24<=Ab;unfold Ab;omega) oM;have b9:∀ad,eg.a=some ad->w5.heap.size<=ad.block/\ad.block<w6.heap.size:=λad a4=>⟨(d3.block a4).1,(d3.block a4).2.1⟩;have h7:=h6.addQ (P:=λb=>∃ad,eg.a=some ad/\b=ad.block) (λb ⟨ad,a4,e⟩=>by have:=b9 ad a4;have:=hC.le;subst e;exact⟨oM,oM,oM⟩) (λa ha ⟨b,hb,e⟩=>by have:=j8 a ha;have:=b9 b hb;omega) (λa ha ⟨b,hb,e⟩=>i4 b a hb ha e.symm) (λa ha ⟨b,hb,e⟩=>by have:=j3 a ha;have:=b9 b hb;omega);have j5:SlR edgeE w6 (λb=>Q2 b\/∃ad,eg.a=some ad/\b=ad.block) eg es:=u5.mono λb hb=>by
     obtain hb|hb:=hb
     .exact hb.elim
     .exact .inr hb
    generalize ak:(λb=>Q2 b\/∃ad,eg.a=some ad/\b=ad.block)=Q3 at h7 j5;refine⟨sp,rfl,a5,BoxAt.at1 d5 (k:=8) xR rfl,f1,⟨e8,oM,oM⟩,?_⟩;rw[k9];have u9:(s.ns++a0)[s.ahead.length]=s.ns[s.ahead.length]:=List.getElem_append_left hk;refine h7.nodes.setEl (i:=s.ahead.length) (x:={s.ns[s.ahead.length]with edges:=es}) (o:=5) (new:=[eg.v]) q4 e8 (λcs l0=>?_) (by show 5+1<=6;omega) λw7 b7 bb s0=>?_
    .rw[u9]at l0;obtain⟨k1,c',e',rfl,k2,k3⟩:=l0;exact⟨k1,c',eg,rfl,k2,j5⟩
    have r5:(s.ns++a0).set s.ahead.length {s.ns[s.ahead.length]with edges:=es}=Cm s.ns s.ahead.length es++a0:=Zii hk;have m9:OwnS nodeE 56 w7 lo Q3 a5 (Cm s.ns s.ahead.length es++a0):=(by rw[<-r5];exact s0);have k6:=h7.nodes.apart f1 e8;have h8:Sr0 w7 lo sp.block stk a5 ahd ws Q3 {s with ns:=Cm s.ns s.ahead.length es++a0}:=⟨h7.stack.but b7 k6 λa ha e=>h7.a1 a f1 ha e8 e.symm,m9,h7.ahead.but b7 k6 λa ha=>h7.a3 f1 a e8 ha,h7.wants.but b7 k6,h7.q,h7.a1,h7.a2,h7.a3,h7.o1,h7.o2,h7.o3⟩;have c7:=b7.box d5 (λe=>h6.o2 f1 e8 e.symm);have x0:=b7.1;have v2:lo<=f1.block:=(h7.nodes.block e8).1;have n7:Below lo w w7:=Below.trans (Below.trans (e3.below' lo hC.le) d7) (b7.below (by have:=hC.le;omega) v2);refine⟨sp,rfl,ahd,BoxAt.at1 c7 (k:=9) xR rfl,newS.intro λa9 w9 x9 f5 z3 _=>?_⟩;have r4:=x9.size;rw[v5]at f5;have q5:lo<=w9.heap.size:=(by have:=hC.le;omega);refine Sr0.pushAh (x:=s.ns.length) (h8.ext x9) OT q5 oM f5.ldc (by show s.ahead.length<=100000;omega) λr' c4 i3 c9 r1=>⟨sp,rfl,?_⟩;have d1:BoxAt c4 sp (CH K stk a5 ahd ws s.first):=(c7.ext x9).oth r1 λad a4 e=>h0.o3 ad a4 e.symm;have g6:=c9.size;refine stw.intro (o:=9) d1 (by show 10<=12;omega) λd6 n5 _ e6=>v6 d6 _ b2 ?_ ⟨stk,a5,r',ws,Q3,e6,l9,i3.but n5⟩;exact Below.trans (Below.trans (Below.trans n7 (x9.below' lo (by have:=hC.le;omega))) c9) (n5.below (by have:=hC.le;omega) l9)
end
def EndN(q:Quest):Nat->Lb->St->Stp->Prop
 |0,l,s,r=>q.step l s=r/\∀l1 s1,r≠ .go l1 s1
 |n+1,l,s,r=>∃l1 s1,q.step l s= .go l1 s1/\EndN q n l1 s1 r
def End.steps{q:Quest}{l:Lb}{s:St}{r:Stp}(h:q.End l s r):∃n,EndN q n l s r:=by
 induction h with
 |done h=>exact⟨0,h,(λ_ _ h=>by cases h)⟩
 |err h=>exact⟨0,h,(λ_ _ h=>by cases h)⟩
 |step h _ ih=>obtain⟨n,hn⟩:=ih;exact⟨n+1,_,_,h,hn⟩
def EndN.go{q:Quest}{l l1:Lb}{s s1:St}{r:Stp}(h:EndN q n l s r)(hs:q.step l s= .go l1 s1):∃m,m<n/\EndN q m l1 s1 r:=by
 cases n with
 |zero=>obtain⟨h1,h2⟩:=h;rw[hs]at h1;exact absurd h1.symm (h2 _ _)
 |succ n=>obtain⟨l2,s2,h1,h2⟩:=h;rw[hs]at h1;cases h1;exact⟨n,na n,h2⟩
def EndN.fin{q:Quest}{l:Lb}{s:St}{r r':Stp}(h:EndN q n l s r)(hs:q.step l s=r')(hr:∀l1 s1,r'≠ .go l1 s1):r=r':=by
 cases n with
 |zero=>rw[<-hs];exact h.1.symm
 |succ n=>obtain⟨l2,s2,h1,_⟩:=h;rw[hs]at h1;exact absurd h1 (hr _ _)
def gotos2.ghost{α β:Type}{first:(Nat->α->β->Wp)->Prop}{pass:Nat->α->β->Wd->(Nat->α->β->Wp)->Prop}(J:Nat->Nat->α->β->Wp)(h0:first λl a b w=>∃n,J n l a b w)
  (hs:∀n l a b w a0,J n l a b w->(∀m l' a' b' w',m<n->J m l' a' b' w'->a0 l' a' b' w')->pass l a b w a0):gotos2 first pass:=
 ⟨λl a b w=>∃n,J n l a b w,λl a b w=>GY λn=>J n l a b w,h0,λl a b w ⟨n,h⟩=>hs _ l a b w _ (FP (p:=λn=>J n l a b w) h).1 λm l' a' b' w' hm hJ=>⟨⟨m,hJ⟩,mg ((FP (p:=λn=>J n l' a' b' w') hJ).2 m hJ) hm⟩⟩
def Qc:Lb->Nat
 | .next=>1
 | .tri=>0
 | .back=>2
def A9(L:List Pack)(m:Mani)(dev:Bool)(pins:LP)(D N:Int):Stp:=
 if AP m=true/\1<=D/\D<=4096/\1<=N/\N<=128 then Quest.res ⟨L,m,dev,pins,D.toNat,N.toNat⟩else .err 1
def Sr0.setStk{g:Nat}{stk nds ahd ws stk':Sl}{Q:Nat->Prop}{s:St}{l1:List Ch}(h:Sr0 w lo g stk nds ahd ws Q s)(e1:stk'.a=stk.a)(h1:OwnS chE 130 w lo Q stk' l1):Sr0 w lo g stk' nds ahd ws Q {s with stack:=l1}:=
 ⟨h1,h.nodes,h.ahead,h.wants,h.q,λa b ha hb=>h.a1 a b (e1▸ha) hb,λa b ha hb=>h.a2 a b (e1▸ha) hb,h.a3,λa ha=>h.o1 a (e1▸ha),h.o2,h.o3⟩
structure RunC(w0:Wd)(q:Quest)(a1 a3:Addr)(D N d3 d4:Int)(lo:Nat)(K:K7)(w:Wd):Prop where
 wl:w0.heap.size<=lo
 ext:Ext w0 w
 cs:Cs w lo q K
 b1:BoxAt w a1 [vi D,vi N,vi d3,vi d4]
 l1:a1.block<lo
 b3:BoxAt w a3 [Sl.nil.v]
 l3:a3.block<lo
 n3:w0.heap.size<=a3.block
def RunC.below{w':Wd}{q:Quest}{a1 a3:Addr}{N:Int}{K:K7}(h:RunC w0 q a1 a3 D N d3 d4 lo K w)(hb:Below lo w w'):RunC w0 q a1 a3 D N d3 d4 lo K w':=
 ⟨h.wl,h.ext.trans' (Below.mono hb h.wl),h.cs.below hb,h.b1.below hb h.l1,h.l1,h.b3.below hb h.l3,h.l3,h.n3⟩
def Sc(w0:Wd)(q:Quest)(a1 a3:Addr)(D N d3 d4:Int)(n l:Nat)(vs:Option Addr)(d:Int)(w:Wd):Prop:=
 ∃lo sp K lb s,l=Qc lb/\vs=some sp/\d=(s.dec:Int)/\RunC w0 q a1 a3 D N d3 d4 lo K w/\CK w lo sp K s/\InvL q lb s/\EndN q n lb s q.res
def Zib{L:List Pack}{dev:Bool}{pins:LP}{SA:Nat->Prop}{cp:Addr}{rr:Nat}{mD mDev mOpt mOv pS:Sl}{N:Int}{R:Sl->Int->Int->Wp}(ht:Tab w0)(m5:Old SA w0)
  (i9:CatL w0 S cp rr L) (hS:Old S w0) (s8:rr<w0.heap.size) (s3:cp.block<w0.heap.size) (hd:SlR depE w0 SA mD m.deps) (he:SlR depE w0 SA mDev m.dev) (ho:SlR depE w0 SA mOpt m.opt) (hv:SlR depE w0 SA mOv m.over) (hp:SlR pinE w0 SA pS pins)
  (g0:∀e w',A9 L m dev pins D N= .err e->Ext w0 w'->R Sl.nil 0 e w')
  (f9:∀ns t nds w',A9 L m dev pins D N= .done ns t->Ext w0 w'->SlR nodeE w' (λb=>w0.heap.size<=b/\b<w'.heap.size) nds ns->R nds (t:Int) 0 w'):
  SE.IC (some cp) mD mDev mOpt mOv dev pS D N d3 d4 w0 R:=by
 unfold SE.IC;have s5:=Ak;have a7:GoodL L:=i9.good;refine newS.intro λa wa xa ha s2 _=>newS.intro λa1 wb xb e9 r4 _=>newS.intro λa3 wc xc j7 r2 _=>?_;have e6:=xa.trans (xb.trans xc);have o7:=xb.trans xc;have f1:=xa.size;have t0:=xb.size;have t3:=xc.size;have s4:=j7.lt;have d5:∀n r p,(D7 L n r p).length<=1000:=λn r p=>ff (SQ a7 n r p) oM;generalize hq:(⟨L,m,dev,pins,D.toNat,N.toNat⟩:Quest)=q;have o0:q.L=L:=by rw[<-hq]
 have s7:q.N=N.toNat:=by rw[<-hq]
 have s6:q.D=D.toNat:=by rw[<-hq]
 rw[<-o0]at a7 d5;refine gotos2.ghost (λn l vs d w=>(AP m=true/\1<=D/\D<=4096/\1<=N/\N<=128)/\Sc w0 q a1 a3 D N d3 d4 n l vs d w) ?first ?pass
 case first=>
  refine bound ⟨mD,mDev,mOpt,mOv,λ_=>ha.at0 (r:=[]) o7 rfl,?_⟩;refine gCall.intro (AP m) (λ_ q' p9=>SE.FS.go (NI (ht.ext e6) (m5.ext e6.size) (hd.ext e6) (he.ext e6) (ho.ext e6) (hv.ext e6) λw' hx=>⟨_,rfl,p9 _ hx⟩)) λt1 wd xd q5=>?_;have l9:=e6.trans xd;have h9:=xc.trans xd;have t4:=l9.size;have r7:=xd.size;have o4:=q5 rfl;subst o4;refine bound ⟨D,λ_=>e9.at0 h9 rfl,bound ⟨D,λ_=>e9.at0 h9 rfl,bound ⟨N,λ_=>e9.at1 (k:=1) h9 rfl,bound ⟨N,λ_=>e9.at1 (k:=1) h9 rfl,λi6=>?_,λg1=>?_⟩⟩⟩⟩
  .have p7: ¬(AP m=true/\1<=D/\D<=4096/\1<=N/\N<=128):=λ⟨h1,h2,h3,h4,h5⟩=>(by rw[h1]at i6;simp at i6;omega);refine stw0.intro (j7.ext xd) sI λwe be _ d8=>⟨Sl.nil,d8.at0 (r:=[]) xR rfl,g0 1 we ?_ (be.ext l9 oM)⟩;unfold A9;rw[if_neg p7]
  .have f0:AP m=true/\1<=D/\D<=4096/\1<=N/\N<=128:=(by simp at g1;obtain⟨⟨⟨⟨h1,h2⟩,h3⟩,h4⟩,h5⟩:=g1;exact⟨h1,oM,oM,oM,oM⟩);have e2:A9 L m dev pins D N=q.res:=(by unfold A9;rw[if_pos f0,hq]);refine⟨mD,mDev,mOpt,mOv,ha.at0 (r:=[]) (o7.trans xd) rfl,?_⟩;refine newS.own (E:=nodeE) (x:=rootNode) ⟨by show(0:Nat)<=maxLen;omega,Sl.nil,Sl.nil,rfl,SlR.nil trivial,SlR.nil trivial⟩ λm1 wf xf j2 r9=>newS.intro λsp w xg a6 r8 _=>?_;have t5:=xf.size;have t6:=xg.size;have m0:=xf.trans xg;have e7:=l9.trans m0;generalize r6:wd.heap.size=lo at*;have o6:lo<=w.heap.size:=oM;have hm:q.m=m:=(by rw[<-hq]);have m8:q.dev=dev:=(by rw[<-hq]);have k5:q.pins=pins:=(by rw[<-hq]);have g9:∀b,SA b->b<lo:=λb hb=>(by have:=m5 b hb;omega);have a5:Cs w lo q ⟨cp,mD,mDev,mOpt,mOv,dev,pS⟩:=⟨⟨S,rr,by rw[o0];exact i9.ext e7,λb hb=>by have:=hS b hb;omega,oM,by show cp.block<lo;omega⟩,by rw[hm];exact(hd.ext e7).mono g9,by rw[hm];exact(he.ext e7).mono g9,by rw[hm];exact(ho.ext e7).mono g9,by rw[hm];exact(hv.ext e7).mono g9,by rw[k5];exact(hp.ext e7).mono g9,m8.symm,o6,by rw[hm];exact Zea f0.1⟩;generalize hK:(⟨cp,mD,mDev,mOpt,mOv,dev,pS⟩:K7)=K at a5;have m4:RunC w0 q a1 a3 D N d3 d4 lo K w:=⟨oM,e7,a5,e9.ext (h9.trans m0),by have:=e9.lt;omega,(j7.ext xd).ext m0,oM,oM⟩;have c3:lo<=sp.block:=oM;have j0:∀{α:Type} {E:Enc α} {T:TypeId},OwnS E T w lo None' Sl.nil ([]:List α):=λ{α E T}=>OwnS.nil _ _;have i3:Sr0 w lo sp.block Sl.nil ⟨some m1,1,1⟩ Sl.nil Sl.nil None' ⟨[],[rootNode],[],[],0,0⟩:=⟨j0,j2.ext xg,j0,SlR.nil trivial,λ_ h=>h.elim,(λ_ _ h=>by cases h),(λ_ _ h=>by cases h),(λ_ _ _ h=>by cases h),(λ_ h=>by cases h),λad d0 e=>(by simp only[ep]at d0;subst d0;have:=(j2.block rfl).2.1;omega),(λ_ h=>by cases h)⟩;have i7:BoxAt w sp (CH K Sl.nil ⟨some m1,1,1⟩ Sl.nil Sl.nil 0):=(by rw[<-hK];exact a6);refine SE.Hj.go (Pf (s:=⟨[],[rootNode],[],[],0,0⟩) a5 ⟨_,_,_,_,_,i7,c3,i3⟩ (by show 0<1;omega) λwh m3 g8=>⟨rfl,?_⟩);have b5:=m4.below m3;clear a6 i7 i3 a5 m4;obtain⟨n,a8⟩:=End.steps (Zh9 (q:=q) oM);have hI:InvL q .next q.start:=InvL.start oM;have hI:InvS q 0 q.start:=hI;have g8:CK wh lo sp K q.start:=g8;obtain⟨stk,nds,ahd,ws,Q,a6,e8,h0⟩:=g8;have a5:=b5.cs;have k7:=h0.stack.len;have q7:=h0.wants.len;have j1:q.start.stack.length<=4096:=gl _;have hg:=Iv a6;have i4:=hI.f;have l7:Aa ((stk.len:Int) - (q.start.first:Int))=((q.start.stack.length - q.start.first:Nat):Int):=(by rw[Ag oM oM];omega);have hN:q.N<=128:=oM;have hD:q.D<=4096:=oM;have g4:∀w',Below lo wh w'->ldc w' (a1.add 1) [vi (q.N:Int)]:=λw' hb=>(by have e:(q.N:Int)=N:=oM;rw[e];exact(b5.below hb).b1.at1 (k:=1) xR rfl);have d7:∀(e:Int) w',Below lo wh w'->q.res= .err e->stw w' a3 [Sl.nil.v] λvw=>∃r:Sl,ldc vw a3 [r.v]/\R r 0 e vw:=λe w' hb hr=>(by have h:=b5.below hb;exact stw0.intro h.b3 sI λwe be _ d8=>⟨Sl.nil,d8.at0 (r:=[]) xR rfl,g0 e we (e2.trans hr) (be.ext h.ext h.n3)⟩);have e4:∀ns t nds w' (Q2:Nat->Prop),Below lo wh w'->OwnS nodeE 56 w' lo Q2 nds ns->(∀b,Q2 b->lo<=b)->ns.length<=128->q.res= .done ns t->stw w' a3 [Sl.v nds] λvw=>∃r:Sl,ldc vw a3 [r.v]/\R r (t:Int) 0 vw:=λns t nds w' Q2 hb ho hQ hl hr=>by
    have h:=b5.below hb;have k6:=ho.read (by show ns.length*88<=Ab;unfold Ab;omega) oM;have h3:=h.l3;have n2:=h.wl;refine stw0.intro h.b3 sI λwe be _ d8=>⟨nds,d8.at0 (r:=[]) xR rfl,f9 ns t nds we (e2.trans hr) (be.ext h.ext h.n3) ?_⟩;have q4:=be.1;have g2:∀b,(Q2 b\/∃ad,nds.a=some ad/\b=ad.block)->lo<=b/\b<w'.heap.size:=λb hb=>by
     rcases hb with hb|⟨ad,d0,rfl⟩
     .exact⟨hQ b hb,ho.lt b hb⟩
     .exact⟨(ho.block d0).1,(ho.block d0).2.1⟩
    exact(k6.but be λh=>by have:=g2 _ h;omega).mono λb hb=>by have:=g2 b hb;omega
   have NX:∀(lb:Lb) (s':St) w' m',m'<n->Below lo wh w'->CK w' lo sp K s'->InvL q lb s'->EndN q m' lb s' q.res->∃n,(AP m=true/\1<=D/\D<=4096/\1<=N/\N<=128)/\Sc w0 q a1 a3 D N d3 d4 n (Qc lb) (some sp) (s'.dec:Int) w':=λlb s' w' m' hm hb f1 hi hE=>⟨m',f0,lo,sp,K,lb,s',rfl,rfl,rfl,b5.below hb,f1,hi,hE⟩;refine bnd.drew λw1 x1=>⟨stk,BoxAt.at1 a6 (k:=7) x1 rfl,(q.start.first:Int),BoxAt.at1 a6 (k:=11) x1 rfl,ws,BoxAt.at1 a6 (k:=10) x1 rfl,?_⟩;rw[l7];have r1:=x1.size;refine⟨λn4=>?_,λn0=>?_⟩
   .have c9:q.start.stack.length - q.start.first<q.start.ws.length:=oM;obtain⟨j3,tw,l5,_,h6,l0,l6⟩:=WM (h0.wants) c9;have a0:q.step .next q.start= .go .tri {q.start with stack:=q.start.stack++[q.ch q.start.ahead.length (ctxAt q.start.ns q.start.ahead.length) q.start.ws[q.start.stack.length - q.start.first]]}:=(by rw[Quest.step,dt c9]);generalize q8:q.start.ws[q.start.stack.length - q.start.first]=wt at*;have b2:=InvL.step (l:=.next) (l':=.tri) a7 d5 hI a0;refine bnd.drew λw2 x2=>⟨stk,BoxAt.at1 a6 (k:=7) (x1.trans x2) rfl,ws,BoxAt.at1 a6 (k:=10) (x1.trans x2) rfl,j3,⟨l5,oM,oM⟩,_,_,tw,by rw[ec];exact l6 _ (x1.trans x2),?_⟩;have b0:=x1.trans x2;have e3:=a5.below (b0.below' lo a5.le);have q0:=b0.size;refine callX.intro (SE.IF.go (Td (s:=q.start) (wt:=wt) (rs:=tw) e3 ⟨stk,nds,ahd,ws,Q,a6.ext b0,c3,h0.ext b0⟩ hI.a h6 (SR:=Q) (λb hb=>by have:=h0.nodes.lt b hb;omega) (l0.ext b0) λv w3 x3 hv=>⟨x3,_,_,v,_,_,rfl,newS.intro λa4 w4 x4 j8 m6 _=>?_⟩));have i2:=x3.trans x4;have d9:=b0.trans i2;have q1:=x3.size;have q2:=x4.size;have h4:=(h0.ext b0).grow i2 e3.le oM;refine Sr0.pushCh (x:=q.ch q.start.ahead.length (ctxAt q.start.ns q.start.ahead.length) wt) h4 Sw (by have:=e3.le;omega) oM ⟨h6,v,rfl,(hv.ext x4).mono λb hb=>.inr ⟨oM,oM⟩⟩ j8.ldc oM λr' w5 h5 c6 k3=>?_;have j9:BoxAt w5 sp (CH K stk nds ahd ws q.start.first):=(a6.ext d9).oth k3 λad d0 e=>h0.o1 ad d0 e.symm;have q3:=c6.size;refine stw.intro (o:=7) j9 (by show 8<=12;omega) λw6 b6 _ k0=>?_;have f5:Below lo wh w6:=Below.trans (Below.trans (d9.below' lo a5.le) c6) (b6.below (by have:=a5.le;omega) c3);obtain⟨m',c7,b8⟩:=a8.go a0;exact NX .tri {q.start with stack:=q.start.stack++[q.ch q.start.ahead.length (ctxAt q.start.ns q.start.ahead.length) wt]} w6 m' c7 f5 ⟨r',nds,ahd,ws,_,k0,c3,h5.but b6⟩ b2 b8
   .have b4:q.start.ws[q.start.stack.length - q.start.first]?=none:=io oM;refine⟨(q.N:Int),g4 _ (x1.below' lo a5.le),?_⟩;have j4:=a5.below (x1.below' lo a5.le);refine SE.IE.go (SH (s:=q.start) j4 ⟨stk,nds,ahd,ws,Q,a6.ext x1,c3,h0.ext x1⟩ hI hN hD (λw2 hb x2=>⟨_,rfl,λ_=>?_,λh=>absurd rfl h⟩) (λw2 hb c5=>⟨_,rfl,λh=>by omega,λ_=>⟨λ_=>?_,λh=>absurd rfl h⟩⟩) λw2 c4 hb c5 g5=>⟨_,rfl,λh=>by omega,λ_=>⟨λh=>by omega,λ_=>bnd.drew λw3 x3=>?_⟩⟩)
    .have a0:q.step .next q.start= .go .back (q.start):=(by rw[Quest.step,b4];dsimp only;rw[hb]);obtain⟨m',c7,b8⟩:=a8.go a0;have b0:=x1.trans x2;exact NX .back q.start w2 m' c7 (b0.below' lo a5.le) ⟨stk,nds,ahd,ws,Q,a6.ext b0,c3,h0.ext b0⟩ (InvL.step (l:=.next) (l':=.back) a7 d5 hI a0) b8
    .have a0:q.step .next q.start= .err 32:=(by rw[Quest.step,b4];dsimp only;rw[hb]);exact d7 32 w2 (Below.trans (x1.below' lo a5.le) c5) (a8.fin a0 (λ_ _ h=>by cases h))
    .obtain⟨h8,b9,d1,l8,Q2,d6,e8,h2⟩:=g5;have d2:Below lo wh w3:=Below.trans (Below.trans (x1.below' lo a5.le) c5) (x3.below' lo (by have:=a5.le;have:=c5.size;omega));have f8:d1.len=((q.start.ahead++[q.start.ns.length]).map Int.ofNat).length:=h2.ahead.len;have n8:b9.len=c4.length:=h2.nodes.len;rw[dx,du,gk]at f8;refine⟨d1,BoxAt.at1 d6 (k:=9) x3 rfl,b9,BoxAt.at1 d6 (k:=8) x3 rfl,λm9=>?_,λn7=>?_⟩
     .have a0:q.step .next q.start= .done c4 q.start.dec:=(by rw[Quest.step,b4];dsimp only;rw[hb];dsimp only;rw[if_pos oM]);have n9:=(MU hb hI.n).2;refine⟨b9,BoxAt.at1 d6 (k:=8) x3 rfl,?_⟩;exact e4 c4 q.start.dec b9 w3 Q2 d2 (h2.nodes.ext x3) (λb hb=>(h2.q b hb).1) oM (a8.fin a0 (λ_ _ h=>by cases h))
     .have a0:q.step .next q.start= .go .next {q.start with ns:=c4,ahead:=q.start.ahead++[q.start.ns.length],ws:=q.wants c4 (q.start.ahead.length+1),first:=q.start.stack.length}:=(by rw[Quest.step,b4];dsimp only;rw[hb];dsimp only;rw[if_neg oM]);obtain⟨m',c7,b8⟩:=a8.go a0;have b2:=InvL.step (l:=.next) (l':=.next) a7 d5 hI a0;refine SE.Hj.go (Pf (a5.below d2) ⟨h8,b9,d1,l8,Q2,d6.ext x3,e8,h2.ext x3⟩ b2.a λw4 f4 g6=>⟨rfl,?_⟩);have e1:(q.start.ahead++[q.start.ns.length]).length=q.start.ahead.length+1:=(by rw[du,gk]);refine NX .next {q.start with ns:=c4,ahead:=q.start.ahead++[q.start.ns.length],ws:=q.wants c4 (q.start.ahead.length+1),first:=q.start.stack.length} w4 m' c7 (Below.trans d2 f4) ?_ b2 b8;rw[<-e1];exact g6
 case pass=>
  intro n l vs d w q9 ⟨f0,lo,sp,K,lb,s,k1,k9,p4,b5,f1,hI,a8⟩ hn;subst k9 p4;have e2:A9 L m dev pins D N=q.res:=by unfold A9;rw[if_pos f0,hq]
  obtain⟨stk,nds,ahd,ws,Q,a6,c3,h0⟩:=f1;have a5:=b5.cs;have k7:=h0.stack.len;have q7:=h0.wants.len;have hg:=Iv a6;have hN:q.N<=128:=oM;have hD:q.D<=4096:=oM;have g4:∀w',Below lo w w'->ldc w' (a1.add 1) [vi (q.N:Int)]:=λw' hb=>by have e:(q.N:Int)=N:=oM;rw[e];exact(b5.below hb).b1.at1 (k:=1) xR rfl
  have d7:∀(e:Int) w',Below lo w w'->q.res= .err e->stw w' a3 [Sl.nil.v] λvw=>∃r:Sl,ldc vw a3 [r.v]/\R r 0 e vw:=λe w' hb hr=>by have h:=b5.below hb;exact stw0.intro h.b3 sI λwe be _ d8=>⟨Sl.nil,d8.at0 (r:=[]) xR rfl,g0 e we (e2.trans hr) (be.ext h.ext h.n3)⟩
  have e4:∀ns t nds w' (Q2:Nat->Prop),Below lo w w'->OwnS nodeE 56 w' lo Q2 nds ns->(∀b,Q2 b->lo<=b)->ns.length<=128->q.res= .done ns t->stw w' a3 [Sl.v nds] λvw=>∃r:Sl,ldc vw a3 [r.v]/\R r (t:Int) 0 vw:=λns t nds w' Q2 hb ho hQ hl hr=>by
   have h:=b5.below hb;have k6:=ho.read (by show ns.length*88<=Ab;unfold Ab;omega) oM;have h3:=h.l3;have n2:=h.wl;refine stw0.intro h.b3 sI λwe be _ d8=>⟨nds,d8.at0 (r:=[]) xR rfl,f9 ns t nds we (e2.trans hr) (be.ext h.ext h.n3) ?_⟩;have q4:=be.1;have g2:∀b,(Q2 b\/∃ad,nds.a=some ad/\b=ad.block)->lo<=b/\b<w'.heap.size:=λb hb=>by
    rcases hb with hb|⟨ad,d0,rfl⟩
    .exact⟨hQ b hb,ho.lt b hb⟩
    .exact⟨(ho.block d0).1,(ho.block d0).2.1⟩
   exact(k6.but be λh=>by have:=g2 _ h;omega).mono λb hb=>by have:=g2 b hb;omega
  have NX:∀(lb:Lb) (s':St) w' m',m'<n->Below lo w w'->CK w' lo sp K s'->InvL q lb s'->EndN q m' lb s' q.res->q9 (Qc lb) (some sp) (s'.dec:Int) w':=λlb s' w' m' hm hb f1 hi hE=>hn m' _ _ _ _ hm ⟨f0,lo,sp,K,lb,s',rfl,rfl,rfl,b5.below hb,f1,hi,hE⟩;cases lb with
  |next=>
   have hI:InvS q 0 s:=hI;have j1:s.stack.length<=4096:=(by have:=hI.k;have:=hI.d;omega);have i4:=hI.f;have l7:Aa ((stk.len:Int) - (s.first:Int))=((s.stack.length - s.first:Nat):Int):=(by rw[Ag oM oM];omega);subst k1;refine⟨λ_=>?_,λh=>absurd h dC,λh=>absurd h dC⟩;refine bnd.drew λw1 x1=>⟨sp,rfl,stk,BoxAt.at1 a6 (k:=7) x1 rfl,sp,rfl,(s.first:Int),BoxAt.at1 a6 (k:=11) x1 rfl,sp,rfl,ws,BoxAt.at1 a6 (k:=10) x1 rfl,?_⟩;rw[l7];have r1:=x1.size;refine⟨λn4=>?_,λn0=>?_⟩
   .have c9:s.stack.length - s.first<s.ws.length:=oM;obtain⟨j3,tw,l5,_,h6,l0,l6⟩:=WM (h0.wants) c9;have a0:q.step .next s= .go .tri {s with stack:=s.stack++[q.ch s.ahead.length (ctxAt s.ns s.ahead.length) s.ws[s.stack.length - s.first]]}:=(by rw[Quest.step,dt c9]);generalize q8:s.ws[s.stack.length - s.first]=wt at*;have b2:=InvL.step (l:=.next) (l':=.tri) a7 d5 hI a0;refine bnd.drew λw2 x2=>⟨sp,rfl,stk,BoxAt.at1 a6 (k:=7) (x1.trans x2) rfl,sp,rfl,ws,BoxAt.at1 a6 (k:=10) (x1.trans x2) rfl,j3,⟨l5,oM,oM⟩,_,_,tw,by rw[ec];exact l6 _ (x1.trans x2),?_⟩;have b0:=x1.trans x2;have e3:=a5.below (b0.below' lo a5.le);have q0:=b0.size;refine callX.intro (SE.IF.go (Td (s:=s) (wt:=wt) (rs:=tw) e3 ⟨stk,nds,ahd,ws,Q,a6.ext b0,c3,h0.ext b0⟩ hI.a h6 (SR:=Q) (λb hb=>by have:=h0.nodes.lt b hb;omega) (l0.ext b0) λv w3 x3 hv=>⟨x3,_,_,v,_,_,rfl,newS.intro λa4 w4 x4 j8 m6 _=>?_⟩));have i2:=x3.trans x4;have d9:=b0.trans i2;have q1:=x3.size;have q2:=x4.size;have h4:=(h0.ext b0).grow i2 e3.le oM;refine Sr0.pushCh (x:=q.ch s.ahead.length (ctxAt s.ns s.ahead.length) wt) h4 Sw (by have:=e3.le;omega) oM ⟨h6,v,rfl,(hv.ext x4).mono λb hb=>.inr ⟨oM,oM⟩⟩ j8.ldc oM λr' w5 h5 c6 k3=>?_;have j9:BoxAt w5 sp (CH K stk nds ahd ws s.first):=(a6.ext d9).oth k3 λad d0 e=>h0.o1 ad d0 e.symm;have q3:=c6.size;refine⟨sp,rfl,?_⟩;refine stw.intro (o:=7) j9 (by show 8<=12;omega) λw6 b6 _ k0=>?_;have f5:Below lo w w6:=Below.trans (Below.trans (d9.below' lo a5.le) c6) (b6.below (by have:=a5.le;omega) c3);obtain⟨m',c7,b8⟩:=a8.go a0;exact NX .tri {s with stack:=s.stack++[q.ch s.ahead.length (ctxAt s.ns s.ahead.length) wt]} w6 m' c7 f5 ⟨r',nds,ahd,ws,_,k0,c3,h5.but b6⟩ b2 b8
   .have b4:s.ws[s.stack.length - s.first]?=none:=io oM;refine⟨(q.N:Int),g4 _ (x1.below' lo a5.le),?_⟩;have j4:=a5.below (x1.below' lo a5.le);refine SE.IE.go (SH (s:=s) j4 ⟨stk,nds,ahd,ws,Q,a6.ext x1,c3,h0.ext x1⟩ hI hN hD (λw2 hb x2=>⟨_,rfl,λ_=>?_,λh=>absurd rfl h⟩) (λw2 hb c5=>⟨_,rfl,λh=>by omega,λ_=>⟨λ_=>?_,λh=>absurd rfl h⟩⟩) λw2 c4 hb c5 g5=>⟨_,rfl,λh=>by omega,λ_=>⟨λh=>by omega,λ_=>bnd.drew λw3 x3=>?_⟩⟩)
    .have a0:q.step .next s= .go .back (s):=(by rw[Quest.step,b4];dsimp only;rw[hb]);obtain⟨m',c7,b8⟩:=a8.go a0;have b0:=x1.trans x2;exact NX .back s w2 m' c7 (b0.below' lo a5.le) ⟨stk,nds,ahd,ws,Q,a6.ext b0,c3,h0.ext b0⟩ (InvL.step (l:=.next) (l':=.back) a7 d5 hI a0) b8
    .have a0:q.step .next s= .err 32:=(by rw[Quest.step,b4];dsimp only;rw[hb]);exact d7 32 w2 (Below.trans (x1.below' lo a5.le) c5) (a8.fin a0 (λ_ _ h=>by cases h))
    .obtain⟨h8,b9,d1,l8,Q2,d6,e8,h2⟩:=g5;have d2:Below lo w w3:=Below.trans (Below.trans (x1.below' lo a5.le) c5) (x3.below' lo (by have:=a5.le;have:=c5.size;omega));have f8:d1.len=((s.ahead++[s.ns.length]).map Int.ofNat).length:=h2.ahead.len;have n8:b9.len=c4.length:=h2.nodes.len;rw[dx,du,gk]at f8;refine⟨sp,rfl,d1,BoxAt.at1 d6 (k:=9) x3 rfl,sp,rfl,b9,BoxAt.at1 d6 (k:=8) x3 rfl,λm9=>?_,λn7=>?_⟩
     .have a0:q.step .next s= .done c4 s.dec:=(by rw[Quest.step,b4];dsimp only;rw[hb];dsimp only;rw[if_pos oM]);have n9:=(MU hb hI.n).2;refine⟨sp,rfl,b9,BoxAt.at1 d6 (k:=8) x3 rfl,?_⟩;exact e4 c4 s.dec b9 w3 Q2 d2 (h2.nodes.ext x3) (λb hb=>(h2.q b hb).1) oM (a8.fin a0 (λ_ _ h=>by cases h))
     .have a0:q.step .next s= .go .next {s with ns:=c4,ahead:=s.ahead++[s.ns.length],ws:=q.wants c4 (s.ahead.length+1),first:=s.stack.length}:=(by rw[Quest.step,b4];dsimp only;rw[hb];dsimp only;rw[if_neg oM]);obtain⟨m',c7,b8⟩:=a8.go a0;have b2:=InvL.step (l:=.next) (l':=.next) a7 d5 hI a0;refine SE.Hj.go (Pf (a5.below d2) ⟨h8,b9,d1,l8,Q2,d6.ext x3,e8,h2.ext x3⟩ b2.a λw4 f4 g6=>⟨rfl,?_⟩);have e1:(s.ahead++[s.ns.length]).length=s.ahead.length+1:=(by rw[du,gk]);refine NX .next {s with ns:=c4,ahead:=s.ahead++[s.ns.length],ws:=q.wants c4 (s.ahead.length+1),first:=s.stack.length} w4 m' c7 (Below.trans d2 f4) ?_ b2 b8;rw[<-e1];exact g6
  |tri=>
   have hI:InvS q 1 s:=hI;subst k1;refine⟨λh=>absurd h dC,λ_=>?_,λh=>absurd h dC⟩;have j1:s.stack.length<=4097:=(by have:=hI.k;have:=hI.d;omega);have i4:=hI.f;obtain⟨c,hl⟩:∃c,s.stack.getLast? =some c:=by
    cases h:s.stack.getLast? with
    |none=>rw[List.getLast?_eq_none_iff]at h;rw[h]at i4;simp at i4
    |some c=>exact⟨c,rfl⟩
   obtain⟨pre,e0⟩:∃pre,s.stack=pre++[c]:=nz.1 hl;have p8:s.stack.length=pre.length+1:=by rw[e0,du,gk]
   have hx:s.stack[pre.length]?=some c:=(by rw[e0];simp);obtain⟨ad,cs,p6,⟨s0,v,rfl,q6⟩,p0⟩:=h0.stack.el hx;have f2:Aa ((stk.len:Int) - 1)=(pre.length:Int):=(by rw[k7,p8,Ag oM oM];omega);have k9:c.vs.length<=1000:=hI.v c.vs (im (by rw[e0];simp));have r5:=(h0.stack.read (by show s.stack.length*64<=Ab;unfold Ab;omega) oM).2.1;refine bnd.drew λw1 x1=>⟨sp,rfl,stk,BoxAt.at1 a6 (k:=7) x1 rfl,sp,rfl,stk,BoxAt.at1 a6 (k:=7) x1 rfl,ad,⟨p6,by rw[f2];omega,by rw[f2];omega⟩,_,_,v,_,_,by rw[f2,ec];exact p0 _ x1,newS.intro λa4 w2 x2 d6 r3 _=>stw0.intro d6 sI λw3 b3 _ m7=>bnd.drew λw4 x4=>⟨(c.i:Int),m7.at1 (k:=4) x4 rfl,_,_,v,_,_,m7.at0 (r:=[]) x4 rfl,?_⟩⟩;have r0:Ext w1 w3:=b3.ext x2 oM;have d9:=x1.trans (r0.trans x4);refine callX.intro (SE.Ly.go (Yw (c:=c) (q6.ext d9) k9 λw5 x5=>⟨x5,_,rfl,λn4=>?_,λn0=>?_⟩))
   .have c9:c.i<c.many:=oM;have c8:=d9.trans x5;have c6:=c8.below' lo a5.le;refine⟨D,(b5.below c6).b1.at0 xR rfl,λm9=>?_,λn7=>?_⟩
    .have a0:q.step .tri s= .err 31:=(by rw[Quest.step,hl];dsimp only;rw[if_pos c9,if_pos oM]);exact d7 31 w5 c6 (a8.fin a0 (λ_ _ h=>by cases h))
    .have a0:q.step .tri s= .go .next {s with dec:=s.dec+1}:=(by rw[Quest.step,hl];dsimp only;rw[if_pos c9,if_neg oM]);obtain⟨m',c7,b8⟩:=a8.go a0;have e1:Aa ((s.dec:Int)+1)=((s.dec+1:Nat):Int):=(by have:=hI.d;rw[Ag oM oM];omega);rw[e1];exact NX .next {s with dec:=s.dec+1} w5 m' c7 c6 ⟨stk,nds,ahd,ws,Q,a6.ext c8,c3,⟨(h0.ext c8).1,(h0.ext c8).2,(h0.ext c8).3,(h0.ext c8).4,(h0.ext c8).5,(h0.ext c8).6,(h0.ext c8).7,(h0.ext c8).8,(h0.ext c8).9,(h0.ext c8).10,(h0.ext c8).11⟩⟩ (InvL.step (l:=.tri) (l':=.next) a7 d5 hI a0) b8
   .have n1: ¬c.i<c.many:=oM;have a0:q.step .tri s= .go .back {s with stack:=s.stack.dropLast}:=(by rw[Quest.step,hl];dsimp only;rw[if_neg n1]);obtain⟨m',c7,b8⟩:=a8.go a0;have j6:InvS q 0 {s with stack:=s.stack.dropLast}:=InvL.step (l:=.tri) (l':=.back) a7 d5 hI a0;have p5:s.stack.dropLast=pre:=(by rw[e0,mn]);rw[p5]at j6 b8 a0;refine bnd.drew λw6 x6=>?_;have e5:=(d9.trans x5).trans x6;have s9:=e5.size;refine⟨sp,rfl,stk,BoxAt.at1 a6 (k:=7) e5 rfl,sp,rfl,stk,BoxAt.at1 a6 (k:=7) e5 rfl,⟨by rw[f2];omega,by rw[f2];omega⟩,sp,rfl,?_⟩;rw[f2,ec];refine stw.intro (o:=7) (a6.ext e5) (by show 8<=12;omega) λw7 b7 _ o8=>?_;have k8:=OwnS.take (E:=chE) ((h0.ext e5).but b7).stack (n:=pre.length) oM;have o5:s.stack.take pre.length=pre:=(by rw[e0];simp);rw[o5]at k8;have h7:Sr0 w7 lo sp.block (Sl.cut stk 0 pre.length 5) nds ahd ws Q {s with stack:=pre}:=Sr0.setStk ((h0.ext e5).but b7) Py k8;have f6:Below lo w w7:=(e5.below' lo a5.le).trans (b7.below (by have:=a5.le;omega) c3);have i5:BoxAt w7 sp (CH K (Sl.cut stk 0 pre.length 5) nds ahd ws s.first):=o8;have o9:(Sl.cut stk 0 pre.length 5).len=pre.length:=k8.len;refine⟨sp,rfl,Sl.cut stk 0 pre.length 5,BoxAt.at1 i5 (k:=7) xR rfl,λi3=>?_,λk2=>?_⟩
    .have k4:pre=[]:=fk oM;have a9:q.step .back {s with stack:=pre}= .err 30:=(by subst k4;rfl);exact d7 30 w7 f6 (b8.fin a9 (λ_ _ h=>by cases h))
    .obtain⟨c2,g3⟩:∃c2,pre.getLast? =some c2:=by
      cases h:pre.getLast? with
      |none=>rw[List.getLast?_eq_none_iff]at h;exact absurd (by rw[o9,h];rfl) k2
      |some c=>exact⟨c,rfl⟩
     have a9:q.step .back {s with stack:=pre}= .go .tri (FH q {s with stack:=pre} c2.node):=(by rw[Ml];show(match pre.getLast? with|none=>_|some c=>_)=_;rw[g3]);obtain⟨m2,n5,j5⟩:=b8.go a9;refine SE.ID.go (SG (s:={s with stack:=pre}) (c:=c2) (a5.below f6) ⟨_,nds,ahd,ws,Q,i5,c3,h7⟩ j6 g3 hN hD λw8 f7 g7=>⟨rfl,?_⟩);exact NX .tri (FH q {s with stack:=pre} c2.node) w8 m2 oM (f6.trans f7) g7 (InvL.step (l:=.back) (l':=.tri) a7 d5 j6 a9) j5
  |back=>
   have hI:InvS q 0 s:=hI;subst k1;refine⟨λh=>absurd h dC,λh=>absurd h dC,λ_=>?_⟩;refine⟨sp,rfl,stk,BoxAt.at1 a6 (k:=7) xR rfl,λi3=>?_,λk2=>?_⟩
   .have k4:s.stack=[]:=fk oM;have a9:q.step .back s= .err 30:=(by rw[Ml,k4];rfl);exact d7 30 w (Below.refl _ _) (a8.fin a9 (λ_ _ h=>by cases h))
   .obtain⟨c2,g3⟩:∃c2,s.stack.getLast? =some c2:=by
     cases h:s.stack.getLast? with
     |none=>rw[List.getLast?_eq_none_iff]at h;exact absurd (by rw[k7,h];rfl) k2
     |some c=>exact⟨c,rfl⟩
    have a9:q.step .back s= .go .tri (FH q s c2.node):=(by rw[Ml,g3]);obtain⟨m2,n5,j5⟩:=a8.go a9;refine SE.ID.go (SG (s:=s) (c:=c2) a5 ⟨stk,nds,ahd,ws,Q,a6,c3,h0⟩ hI g3 hN hD λw8 f7 g7=>⟨rfl,?_⟩);exact NX .tri (FH q s c2.node) w8 m2 n5 f7 g7 (InvL.step (l:=.back) (l':=.tri) a7 d5 hI a9) j5
def Stp.ns:Stp->LN
 | .done ns _=>ns
 |_=> []
def Stp.dec:Stp->Int
 | .done _ t=>(t:Int)
 |_=>0
def Stp.code:Stp->Int
 | .err e=>e
 |_=>0
def Zh4{L:List Pack}{dev:Bool}{pins:LP}{SA:Nat->Prop}{cp:Addr}{rr:Nat}{mD mDev mOpt mOv pS:Sl}{N:Int}{R:Sl->Int->Int->Wp}(ht:Tab w0)(a4:Old SA w0)
  (a0:CatL w0 S cp rr L) (hd:SlR depE w0 SA mD m.deps) (he:SlR depE w0 SA mDev m.dev) (ho:SlR depE w0 SA mOpt m.opt) (hv:SlR depE w0 SA mOv m.over) (hp:SlR pinE w0 SA pS pins)
  (hR:∀nds w',Ext w0 w'->SlR nodeE w' (λb=>w0.heap.size<=b/\b<w'.heap.size) nds (A9 L m dev pins D N).ns->R nds (A9 L m dev pins D N).dec (A9 L m dev pins D N).code w'):
  SE.IC (some cp) mD mDev mOpt mOv dev pS D N d3 d4 w0 R:=by
 have hl:=a0.lt;refine Zib ht a4 a0 hl.2.2.1 hl.1 hl.2.1 hd he ho hv hp (λe w' hr hx=>?_) λns t nds w' hr hx hs=>?_
 .have h:=hR Sl.nil w' hx;rw[hr]at h;exact h (SlR.nil trivial)
 .have h:=hR nds w' hx;rw[hr]at h;exact h hs
def Cj{l:LN}(h:SlR nodeE w S s l)(hn:n<l.length):
  ∃ad c e,s.a=some ad/\Ac l[n].name/\SlR pinE w S c l[n].ctx/\SlR edgeE w S e l[n].edges/\∀w',Ext w w'->ldc w' (ad.add (n*6)) [.string l[n].name,.int .i64 l[n].v.ma,.int .i64 l[n].v.mi,.int .i64 l[n].v.pa,Sl.v c,Sl.v e]:=by
 obtain⟨ad,cs,h1,h2,⟨h0,c,e,rfl,h5,h6⟩,h4⟩:=h.el hn;exact⟨ad,c,e,h1,h0,h5,h6,h4⟩
def Wz{α:Type}{a b:List α}(h1:i<a.length)(h2:i<b.length)(hI:a.take i=b.take i)(he:a[i]=b[i]):a.take (i+1)=b.take (i+1):=by rw[dw h1,dw h2,hI,he]
def newS.set{zs:LV}{k:Addr->Wp}(hl:cs.length=zs.length)(h:∀a w',Ext w w'->BoxAt w' a cs->a.block=w.heap.size->k a w'):newS w zs t λa w1=>stw w1 a cs λw2=>k a w2:=
 newS.intro λa w1 x1 ha a4 a5=>stw0.intro ha oM λw2 b2 hz a0=>h a w2 (b2.ext x1 oM) (by rw[hl,lh,gc]at a0;exact a0) a4
def loop1.from1{body:Int->Wd->(Int->Wp)->Prop}(hN:N<=maxLen)(I:Nat->Wp)(h0:I 1 w)
  (hs:∀(n:Nat) w' (a0:Int->Wp),1<=n->(n<=N\/n=1)->I n w'->(n<N->∀a4,I (n+1) a4->a0 (Aa ((n:Int)+1)) a4)->body n w' a0):loop1 1 w body:=
 loop1.ghost (λm i w'=>∃n:Nat,i=(n:Int)/\1<=n/\(n<=N\/n=1)/\m=N - n/\I n w') (N - 1) ⟨1,rfl,fl _,.inr rfl,rfl,h0⟩ λm i w' a0 ⟨n,hi,h1,h2,hm,hI⟩ hn=>by subst hi;refine hs n w' a0 h1 h2 hI λa6 a4 a5=>?_;refine hn (N - (n+1)) _ a4 oM ⟨n+1,?_,oM,.inl a6,rfl,a5⟩;rw[Ak]at hN;rw[Ag oM oM];omega
def WZ(h1:1<=i)(h2:i<N)(hN:N<=maxLen):Aa ((i:Int) - 1)=((i - 1:Nat):Int):=by rw[Ak]at hN;rw[Ag oM oM];omega
def QP{α:Type}{f:α->Bs}{l:List α}(h1:1<=i)(hi:i<l.length)(hI:RiseN f (l.take i))(h:Ao (f l[i - 1]) (f l[i])=true):RiseN f (l.take (i+1)):=by
 have e:l.take i=l.take (i - 1)++[l[i - 1]]:=by have:=dw (l:=l) (i:=i - 1) oM;rwa [Nat.sub_add_cancel h1]at this
 rw[dw hi,e];rw[e]at hI;exact Zho hI h
def QN{α:Type}{f:α->Bs}{l:List α}(h1:1<=i)(hi:i<l.length)(h:Ao (f l[i - 1]) (f l[i])=false): ¬RiseN f l:=λhr=>by have:=gd.1 hr (i - 1) i oM hi oM;rw[h]at this;cases this
def QO{α:Type}{f:α->Bs}{l:List α}:RiseN f (l.take 1):=by
 cases l with
 |nil=>exact .nil
 |cons a r=>exact kf _ _
end Go.Hal
namespace Go.Hal
open Go.MapKept
def Ip(v:Value):Prop:=∃x:Int,v= .int .i64 x
end Go.Hal
/-
 DERIVED:THE SHELF's CONTRACTS AT THIS DUMP,IN PLAIN WORDS (tools/lay-plain.mjs out of 'YtgolaibmophnjaaGreatDoorLay5.lean',which tools/lay-shelf.mjs wrote):THE SAME DECLARATIONS UNDER THE SAME NAMES:'import','namespace','open','def','theorem' AND NOTHING ELSE:no command of the shelf's:FOR A HAND-IN. Each laying:the table of numbers ('.._ren') and one theorem,a field a fact of the dump's own or the kernel's comparison;each contract:ONE APPLICATION.
-/
namespace Go.Proofs
end Go.Proofs
namespace Go.Hal
open Go.Lib Go.Sort
def E5(x:Int):LV:=[vi x]
def PP(l:List Int):(l.map E5).flatten=l.map (Value.int .i64):=by
 induction l with
 |nil=>rfl
 |cons a l ih=>rw[ib,jc,ih];rfl
def OwnS.lowr{α:Type}{E:Enc α}{T:TypeId}{lo':Nat}{l:List α}(h:OwnS E T w lo S s l)(hl:lo'<=lo):OwnS E T w lo' S s l:=by obtain⟨css,ho,k1,k2⟩:=h.row;exact⟨⟨css,⟨ho.1,ho.2.imp id λ⟨g,cap,a0,hv,hg,r⟩=>⟨g,cap,a0,hv,ff hl hg,r⟩⟩,k1,k2⟩,h.len,h.lt,h.apart⟩
def BT(l:List Nat):List Int:=l.map λk:Nat=>(k:Int)
def I4(l:List Nat):(BT l).length=l.length:=dx _
end Go.Hal
namespace Go.Hal
open Go.MapKept
def Zab(n m:Bs)(v u:Ver)(w:Wd):(Op.equal 332 (keyV n v) (keyV m u)).run prog w= .ok (decide (n=m/\v=u)) w:=by
 have h:(Op.equalIn (9997+3) 332 (keyV n v) (keyV m u)).run prog w= .ok ((Ai n m)&&(((v.ma==u.ma)&&((v.mi==u.mi)&&((v.pa==u.pa)&&true)))&&true)) w:=
  (JW kR kR (fs:= [⟨ "name",9,0,false, "", "halyard/graph",0⟩,⟨ "version",52,1,false, "", "halyard/graph",16⟩]) kR (DQ (x:=(Value.string n)) (y:=(Value.string m)) rfl kR kR (run_equalIn_string w _ 9 n m kR) (DQ (x:=(Value.agg #[(Value.int .i64 v.ma),(Value.int .i64 v.mi),(Value.int .i64 v.pa)])) (y:=(Value.agg #[(Value.int .i64 u.ma),(Value.int .i64 u.mi),(Value.int .i64 u.pa)])) rfl kR kR (JW kR kR (fs:= [⟨ "Major",3,0,false, "", "",0⟩,⟨ "Minor",3,1,false, "", "",8⟩,⟨ "Patch",3,2,false, "", "",16⟩]) kR (DQ (x:=(Value.int .i64 v.ma)) (y:=(Value.int .i64 u.ma)) rfl kR kR (run_equalIn_int w _ 3 .i64 .i64 v.ma u.ma kR) (DQ (x:=(Value.int .i64 v.mi)) (y:=(Value.int .i64 u.mi)) rfl kR kR (run_equalIn_int w _ 3 .i64 .i64 v.mi u.mi kR) (DQ (x:=(Value.int .i64 v.pa)) (y:=(Value.int .i64 u.pa)) rfl kR kR (run_equalIn_int w _ 3 .i64 .i64 v.pa u.pa kR) JV)))) JV)))
 have e:((Ai n m)&&(((v.ma==u.ma)&&((v.mi==u.mi)&&((v.pa==u.pa)&&true)))&&true))=decide (n=m/\v=u):=by rw[Gj,Bool.and_true,gn,dz,AH,decide_eq_true_eq,decide_eq_true_eq]
 rw[e]at h;exact h
def askKeyG(n:Bs)(v:Ver)(w:Wd):∀(l:List MapEntry)(i:Nat),(∀x∈l,Fu x.key)->((∀x∈l,x.key≠keyV n v)/\(Instr.findAsking 332 (keyV n v) l i).run prog w= .ok none w)\/
  ∃(j:Nat) (e:MapEntry),l[j]?=some e/\e.key=keyV n v/\(Instr.findAsking 332 (keyV n v) l i).run prog w= .ok (some (i+j,e.val)) w
 | [],i,_=> .inl ⟨by simp,by simp[Instr.findAsking]⟩
 |e::es,i,h=>by
  obtain⟨m,u,hk⟩:=h e (.head _);have hq:=Zab n m v u w;rw[<-hk]at hq;by_cases he:n=m/\v=u
  .refine .inr ⟨0,e,rfl,by rw[hk];exact GW.2 ⟨he.1.symm,he.2.symm⟩,?_⟩;simp only[Instr.findAsking,Sem.run_bind,hq,Result.andThen,decide_eq_true he];rfl
  .have a4:e.key≠keyV n v:=λq=>(by rw[hk]at q;have:=GW.1 q;exact he ⟨this.1.symm,this.2.symm⟩);have a0:(Instr.findAsking 332 (keyV n v) (e::es) i).run prog w=(Instr.findAsking 332 (keyV n v) es (i+1)).run prog w:=(by simp only[Instr.findAsking,Sem.run_bind,hq,Result.andThen,decide_eq_false he];rfl);rcases askKeyG n v w es (i+1) (λx hx=>h x (.tail _ hx))with⟨h1,h2⟩|⟨j,e',h1,h2,h3⟩
   .exact .inl ⟨λx hx=>by
     cases hx with
     |head=>exact a4
     |tail _ hx=>exact h1 x hx,by rw[a0];exact h2⟩
   .exact .inr ⟨j+1,e',by simpa using h1,h2,by rw[a0,h3,show i+1+j=i+(j+1) by omega]⟩
def Yy(n:Bs)(v:Ver)(e:Bool)(w:Wd):(Instr.checkKey e 10000 332 (keyV n v)).run prog w= .ok () w:=by have hs:(Instr.checkKey e 9999 9 (.string n)).run prog w= .ok () w:=run_checkKey (d:=.string) (k:=.string n) underlying9 trivial e 9998;unfold keyV;rw[Instr.checkKey];simp only[Sem.run_bind,run_underlying underlying332,Result.andThen];simp[Sem.run_bind,Result.andThen,part,run_underlying underlying9,run_underlying underlying52,hs,Tc v e w]
def Uv:KeyT prog 330 Fu (.int .i64 0) where
 und:=⟨332,3,underlying330,Tryz.zeroValue3,λk ⟨n,v,h⟩ e w=>by subst h;exact Yy n v e w,λk ⟨n,v,h⟩ l hl w=>by
  subst h;have a0:∀l:List MapEntry,(Instr.findKey 332 (keyV n v) l).run prog w=(Instr.findAsking 332 (keyV n v) l 0).run prog w:=by
   intro l;cases l with
   |nil=>simp[Instr.findKey,Instr.findNow,Instr.findAsking,run_underlying underlying332,Sem.run_bind,Result.andThen]
   |cons e es=>simp[Instr.findKey,Instr.findNow,Instr.sameNow,run_underlying underlying332,Sem.run_bind,Result.andThen]
  rw[a0];rcases askKeyG n v w l 0 hl with h|⟨j,e,h1,h2,h3⟩
  .exact .inl h
  .exact .inr ⟨j,e,h1,h2,by rw[kd]at h3;exact h3⟩⟩
 stay:=λk ⟨n,v,h⟩=>by subst h;simp[keyV,Instr.sameBits,Go.MapKept.bytes_beq]
end Go.Hal
namespace Go.Hal
def Zf4{a b:Pin}(hR:∀w',Gr w w'->R (GD a b) w'):SE.Ki a.name a.v.ma a.v.mi a.v.pa b.name b.v.ma b.v.mi b.v.pa w R:=by unfold SE.Ki;refine newS.gr λ_ w1 x1 hb=>newS.gr λ_ w2 x2 a4=>bnd.gr λw3 x3=>?_;have a0:=x2.trans x3;refine⟨_,Gr.at0 hb a0 rfl,_,Gr.at0 a4 x3 rfl,_,_,_,Gr.at1 hb a0 rfl,_,_,_,Gr.at1 a4 x3 rfl,?_⟩;refine callX.intro (EM ⟨Ext.refl _,_,rfl,SE.EU.go (WL (a:=a.v) (b:=b.v) λw4 x4=>⟨_,rfl,?_⟩)⟩);exact newS.gr λ_ w5 x5 a5=>SE.Ew.go (Th (MZ (l:=[_,_]) a5 sI) ⟨_,rfl,hR _ (x1.trans (a0.trans (x4.trans x5)))⟩)
def ZP:Bj prog 266:=enters_of func266 kR rfl
def Zi0{l:LP}{K:Value->Wp}(h:FlatO AQ 40 w lo s l)(a0:lo<=w.heap.size)
  (hK:∀l' w',l'.Perm l->l'.Pairwise (λx y=>¬GD y x<0)->Below lo w w'->FlatO AQ 40 w' lo s l'->K (.tuple #[]) w'):
  callS prog 120 [s.v,.func (.func 266) #[] #[]] w K:=by
 obtain⟨h1,h2,h3,h4,h5⟩:=h;obtain⟨a,n,c⟩:=s;simp only at h1 h2 h3 h5;subst h1;rcases h5 with rfl|⟨g,tail,ha,hg,hr⟩
 .refine(AnyF.slices_SortFunc_none Tryz.laySp a c _ w).mono λe w' ⟨he,hw⟩=>⟨_,he,?_⟩;subst hw;exact hK [] _ (jg _) .nil (Below.refl _ _) ⟨rfl,h2,h3,h4,.inl rfl⟩
 .subst ha;refine F4 Tryz.laySp (k:=4) PX Rb (f:=AQ) (λ_=>rfl) (λx v hv=>by simp[AQ]at hv;rcases hv with rfl|rfl|rfl|rfl<;>rfl) GD (EN cPin_ord.flip cPin_ord.trans) 266 #[] ZP (λw0 x y hb _=>?_) hr (by unfold Ab at h4;omega) rfl λl' w' hp hs b a4=>?_
  .have h:=SE.Ki.go (k:=λv w'=>v= .int .i64 (GD x y)/\Gr w0 w') (Zf4 (a:=x) (b:=y) (w:=w0) λw' h=>⟨rfl,h⟩);exact Calls.mono h λe w' ⟨v,he,hv,hg⟩=>⟨by rw[he,hv],hg⟩
  .have hl:=hp.length_eq;exact hK l' w' hp hs (b.below a0 hg) ⟨hl.symm,by rw[hl];exact h2,h3,by rw[hl];exact h4,.inr ⟨g,tail,rfl,hg,a4⟩⟩
def Qb(p:Pin×Int):Value×Value:=(keyV p.1.name p.1.v,.int .i64 p.2)
structure PA(w0:Wd)(r:Nat)(w':Wd)(out:LP)(so:Sl):Prop where
 x:Ext w0 w'
 map:∃m:List (Pin×Int),MapR Fu w' r (m.map Qb)/\m.map (·.1)=out
 own:OwnS pinE 150 w' w0.heap.size None' so out
 ap:∀ad,so.a=some ad->ad.block≠r
 lr:w0.heap.size<=r
section
variable {w0 w w':Wd} {r:Nat} {so:Sl} {out:LP}
def PA.ext(h:PA w0 r w out so)(hx:Ext w w'):PA w0 r w' out so:=
 ⟨h.x.trans hx,by obtain⟨m,h1,h2⟩:=h.map;exact⟨m,h1.ext hx,h2⟩,h.own.ext hx,h.ap,h.lr⟩
def PA.seen(h:PA w0 r w out so)(p:Pin):∃v:Int,(Instr.lookup 330 (.map (some r)) (keyV p.name p.v) true).run prog w= .ok (.tuple #[vi v,.bool (decide (p∈out))]) w:=by
 obtain⟨m,h1,h2⟩:=h.map;rcases I0 Uv h1 (k:=keyV p.name p.v) ⟨_,_,rfl⟩with⟨hn,hr⟩|⟨v,a5,hr⟩
 .refine⟨0,?_⟩;rw[hr true,decide_eq_false]
  .rfl
  .intro hm;rw[<-h2]at hm;obtain⟨q,hq,rfl⟩:=gu.1 hm;exact hn (Qb q) (im hq) rfl
 .obtain⟨q,hq,he⟩:=gu.1 a5;simp only[Qb,Prod.mk.injEq]at he;obtain⟨a0,a4⟩:=he;obtain⟨e1,e2⟩:=GW.1 a0;have a6:q.1=p:=by obtain⟨⟨a,b⟩,c⟩:=q;obtain⟨n,u⟩:=p;simp only at e1 e2;rw[e1,e2]
  refine⟨q.2,?_⟩;rw[hr true,decide_eq_true,<-a4]
  .rfl
  .rw[<-h2];exact gu.2 ⟨q,hq,a6⟩
def PA.put(h:PA w0 r w out so){i:Int}(hp:p∉out)(hN:Ac p.name)(hl:out.length+1<=3000000000000){b:Addr}{l:LV}(hb:BoxAt w b (.string p.name:: .int .i64 p.v.ma:: .int .i64 p.v.mi:: .int .i64 p.v.pa::l))(b7:b.block≠r){J:Sl->Wp}
  (hJ:∀a5 w',PA w0 r w' (out++[p]) a5->J a5 w'):
  semU prog (Instr.mapUpdate 330 (.map (some r)) (keyV p.name p.v) (.int .i64 i)) w λa4=>∃(b0:Bs),(ldc a4 b [(Value.string b0)])/\∃(x y z:Int),(ldc a4 (b.add 1) [(Value.int .i64 x),(Value.int .i64 y),(Value.int .i64 z)])/\newS a4 [(Value.string b0),(Value.int .i64 x),(Value.int .i64 y),(Value.int .i64 z)] 150 λb5 b2=>appS prog 53 53 so (Sl.v (Sl.mk (some b5) 1 1)) b2 λb9 b4=>J b9 b4:=by
 obtain⟨m,h1,h2⟩:=h.map;refine ET Uv h1 ⟨_,_,rfl⟩ (λq hq he=>?_) λw1 b1 c5 hM=>?_
 .obtain⟨q',b8,rfl⟩:=gu.1 hq;obtain⟨e1,e2⟩:=GW.1 he;refine hp ?_;rw[<-h2];refine gu.2 ⟨q',b8,?_⟩;obtain⟨⟨a,b⟩,c⟩:=q';obtain⟨n,u⟩:=p;simp only at e1 e2;rw[e1,e2]
 .have a7:=b1.box hb b7;refine⟨_,a7.at0 xR rfl,_,_,_,a7.at1 (k:=1) xR rfl,newS.intro λa2 w2 x2 b6 _ _=>?_⟩;have x1:Ext w0 w1:=b1.ext h.x h.lr;have o1:OwnS pinE 150 w1 w0.heap.size None' so out:=h.own.but b1 (λh=>h) λad a0=>Ne.symm (h.ap ad a0);have c4:=h1.lt;have s1:=x1.size;have s2:=x2.size;have eb:pinE.bytes=40:=rfl;refine(o1.ext x2).push Js oM (x:=p) (S':=None') ⟨rfl,hN⟩ (b6.ldc.pre (r:=[]) rfl) (λ_ h=>h.elim) (λ_ _ h=>h.elim) (by rw[eb];unfold Ab;omega) (by rw[Ak];omega) λa5 w3 o3 a6 a8 a9=>hJ a5 w3 ?_;have c3:w.heap.size<=w1.heap.size:=b1.1;refine⟨(x1.trans x2).trans' a6,⟨m++[(p,i)],?_,?_⟩,OwnS.flat (λh=>h) o3,λad a0=>?_,h.lr⟩
  .rw[fq];exact(hM.ext x2).of (a8 r oM λad a0 e=>h.ap ad a0 e.symm)
  .rw[fq,h2];rfl
  .obtain q|q:=a9 ad a0
   .exact h.ap ad q
   .omega
end
def Zbi{R:Sl->Wp}(hs:SlR nodeE w S s g)
  (hR:∀t l w',Ext w w'->(g≠[]->PinsAre g l)->(g=[]->l=[])->FlatO AQ 40 w' w.heap.size t l->(∀q∈l,Ac q.name)->(∀ad,t.a=some ad->ad.block<w'.heap.size/\w.heap.size<=ad.block)->R t w'):SE.Kh s w R:=by
 unfold SE.Kh;have b7:=hs.len;have e0:g.length<=1600000000000:=by have:=hs.2.2.2.1;have eb:nodeE.bytes=88:=rfl;rw[eb]at this;unfold Ab at this;omega
 refine newS.intro λa w1 x1 b5 d6 _=>⟨s,b5.ldc.pre (r:=[]) rfl,λh0=>?_,λh0=>?_⟩
 .have hg:g=[]:=fk oM;exact hR Sl.nil [] w1 x1 (λh=>absurd hg h) (λ_=>rfl) ⟨rfl,fl _,gl _,by simp,.inl rfl⟩ (λq hq=>by cases hq) (λad h=>by cases h)
 .have hg:g≠[]:=λe=>by subst e;exact h0 (by rw[b7];rfl)
  have d9:0<g.length:=Nat.pos_of_ne_zero λh=>hg (fk h);refine NH (K:=Fu) λr w2 x2 e2 c6=>⟨some r,rfl,s,(b5.ext x2).ldc.pre (r:=[]) rfl,⟨oM,oM⟩,?_⟩;have c4:=x1.trans x2;have hc:SlR nodeE w S (Sl.cut s ((1:Int).toNat) s.len 6) ((g.take s.len).drop 1):=hs.cut oM oM;rw[b7,eu]at hc;have hc:SlR nodeE w S (Sl.cut s ((1:Int).toNat) s.len 6) (g.drop 1):=by rw[b7];exact hc
  generalize Sl.cut s ((1:Int).toNat) s.len 6=sc at hc ⊢;have c7:=hc.len;have c9:(g.drop 1).length=g.length - 1:=fy;generalize hL:g.drop 1=L at hc c7 c9;have al:=b5.lt;refine loop2.up hc.max (λso t w'=>∃out:LP,PA w r w' out so/\out.Nodup/\(∀y,y∈out↔y∈(L.take t).map DW)/\out.length<=t)
   ⟨[],⟨c4,⟨[],c6,rfl⟩,(OwnS.zero w2).lowr (by have:=c4.size;omega),(λad h=>by cases h),by have:=x1.size;omega⟩,List.nodup_nil,λy=>by simp,fl _⟩ λso t w3 e3 ht ⟨out,hA,b6,a4,e1⟩ hn=>⟨λd2=>join.named λJ hJ=>?_,λd8=>?_⟩
  .have a7:t<L.length:=oM;have b4:∀a5 w' a0,PA w r w' a0 a5->a0.Nodup->(∀y,y∈a0↔y∈(L.take (t+1)).map DW)->a0.length<=t+1->J a5 w':=λa5 w' a0 q1 q2 q3 q4=>(by subst hJ;exact hn a7 a5 w' ⟨a0,q1,q2,q3,q4⟩);clear hJ hn;obtain⟨ad,c,e,ha,hN,_,_,c8⟩:=Cj hc a7;have d5:(L.take (t+1)).map DW=(L.take t).map DW++[DW L[t]]:=(by rw[dw a7,fq];rfl);rw[d5]at b4;generalize L[t]=x at*;refine⟨ad,⟨ha,oM,d2⟩,_,_,_,_,c,e,c8 _ hA.x,newS.set rfl λa8 w4 x4 a6 d7=>?_⟩;refine⟨_,a6.at0 xR rfl,_,_,_,a6.at1 (k:=1) xR rfl,?_⟩;have b2:=hA.ext x4;obtain⟨v,c3⟩:=b2.seen (DW x);refine⟨_,_,c3,v,_,rfl,λhq=>?_,λhq=>?_⟩
   .have b0:DW x∉out:=(by simpa using hq);refine⟨_,a6.at0 xR rfl,_,_,_,a6.at1 (k:=1) xR rfl,?_⟩;refine b2.put (p:=DW x) b0 hN oM a6 (by obtain⟨_,q,_⟩:=hA.map;have:=q.lt;omega) λa5 w5 c5=>b4 a5 w5 _ c5 ?_ (λy=>?_) (by rw[du,gk];omega)
    .rw[jb];refine⟨b6,by simp,λa ha b hb=>?_⟩;rw[eh]at hb;subst hb;exact λe=>b0 (e▸ha)
    .rw[fj,fj,a4]
   .have d1:DW x∈out:=(by simpa using hq);refine b4 so w4 out b2 b6 (λy=>?_) oM;rw[fj,<-a4,eh];exact⟨.inl,λh=>h.elim id λh=>h▸d1⟩
  .rw[gj oM,<-hL]at a4;have d0:FlatO AQ 40 w3 w.heap.size so out:=FlatO.of (E:=pinE) (λx cs h=>h.1) hA.own (by unfold Ab;omega);have d4:∀q∈out,Ac q.name:=λq hq=>by obtain⟨x,hx,rfl⟩:=gu.1 ((a4 q).1 hq);obtain⟨n,d3,rfl⟩:=fp.1 (List.mem_of_mem_drop hx);obtain⟨_,_,_,_,h1,_⟩:=Cj hs d3;exact h1
   refine Zi0 d0 hA.x.size λl' w4 hp b8 a9 b9=>⟨rfl,?_⟩;refine hR so l' w4 (hA.x.trans' a9) (λ_=>⟨.of cPin_ord (λh=>SO.1 h) (hp.nodup_iff.2 b6) b8,λy=>by rw[hp.mem_iff,a4]⟩) (λh=>absurd h hg) b9 (λx hx=>d4 x (hp.mem_iff.1 hx)) λad ha=>?_;have:=hA.own.block ha;have:=a9.size;omega
end Go.Hal
namespace Go.Hal
def loop3.up{α β:Type}{a:α}{b:β}{body:α->β->Int->Wd->(α->β->Int->Wp)->Prop}(hN:N<=maxLen)(I:α->β->Nat->Wp)(h0:I a b 0 w)
  (hs:∀(a:α) (b:β) (n:Nat) w' (a4:α->β->Int->Wp),n<=N->I a b n w'->(n<N->∀a' b' a0,I a' b' (n+1) a0->a4 a' b' (Aa ((n:Int)+1)) a0)->body a b n w' a4):loop3 a b 0 w body:=
 ⟨λa b i w'=>∃n:Nat,i=n/\n<=N/\I a b n w',λ_ _ i _=>N - i.toNat,⟨0,rfl,gl _,h0⟩,λa b i w' ⟨n,hi,hn,hI⟩=>by subst hi;refine hs a b n w' _ hn hI λa5 a' b' a0 h=>?_;rw[Jh (n:=N) oM oM hN];exact⟨⟨n+1,oM,oM,h⟩,by show N - ((n:Int)+1).toNat<N - (n:Int).toNat;omega⟩⟩
def loop2.from1{α:Type}{a:α}{body:α->Int->Wd->(α->Int->Wp)->Prop}(hN:N<=maxLen)(I:α->Nat->Wp)(h0:I a 1 w)
  (hs:∀(x:α) (n:Nat) w' (a0:α->Int->Wp),1<=n->(n<=N\/n=1)->I x n w'->(n<N->∀y a4,I y (n+1) a4->a0 y (Aa ((n:Int)+1)) a4)->body x n w' a0):loop2 a 1 w body:=
 loop2.ghost (λm x i w'=>∃n:Nat,i=(n:Int)/\1<=n/\(n<=N\/n=1)/\m=N - n/\I x n w') (N - 1) ⟨1,rfl,fl _,.inr rfl,rfl,h0⟩ λm x i w' a0 ⟨n,hi,h1,h2,hm,hI⟩ hn=>by subst hi;refine hs x n w' a0 h1 h2 hI λa6 y a4 a5=>?_;refine hn (N - (n+1)) _ _ a4 oM ⟨n+1,?_,oM,.inl a6,rfl,a5⟩;rw[Ak]at hN;rw[Ag oM oM];omega
def TU{α:Type}{p:α->Bool}{l:List α}(h:l.any p=false):l.find? p=none:=by rw[kj];intro x hx;have:=kw.1 h x hx;simpa using this
def Zb7{α:Type}(p:α->Bool)(l:List α):(AO p l= -1/\l.find? p=none)\/∃k,∃hk:k<l.length,AO p l=(k:Int)/\l.find? p=some l[k]:=by
 by_cases h:AO p l= -1
 .refine .inl ⟨h,TU ?_⟩;rw[<-Fs,h];rfl
 .obtain⟨n,hn,e,ht,hp⟩:=Kw h;exact .inr ⟨n,hn,e,PO hn (TU ht) hp⟩
def IX{l:List Bs}(h:SlR strE w S s l)(hn:n<l.length):∃ad,s.a=some ad/\Ac l[n]/\∀w',Ext w w'->ldc w' (ad.add (n*1)) [.string l[n]]:=by obtain⟨ad,cs,h1,h2,⟨rfl,h3⟩,h4⟩:=h.el hn;exact⟨ad,h1,h3,h4⟩
def Cr(T:List Dir)(p:Aq):Int:=match Ax (T.map AD) p with
 |some i=>(i:Int)
 |none=>-1
def Zbb{T:List Dir}{p:Aq}(hi:i<T.length)(h:T[i].path=p)(h0:∀j (hj:j<T.length),j<i->T[j].path≠p):Ax (T.map AD) p=some i:=by unfold Ax;rw[lj];refine⟨by rw[dx];exact hi,by simpa[AD]using h,λj hj=>?_⟩;simpa[AD]using h0 j oM hj
def Zbc{T:List Dir}{p:Aq}(h:∀j (hj:j<T.length),T[j].path≠p):Ax (T.map AD) p=none:=by unfold Ax;rw[mm];intro x hx;obtain⟨d,hd,rfl⟩:=gu.1 hx;obtain⟨j,hj,rfl⟩:=fp.1 hd;exact decide_eq_false (h j hj)
def PH{t:Sl}{a b:List Bs}{T:Nat->Prop}{R:Bool->Wp}(hs:SlR strE w S s a)(ht:SlR strE w T t b)(hR:∀w',Ext w w'->R (decide (a=b)) w'):SE.Hq s t w R:=by
 unfold SE.Hq;have h1:=hs.len;have h2:=ht.len;refine⟨λh=>?_,λh=>?_⟩
 .have: ¬a=b:=λe=>by subst e;omega
  have h3:=hR w xR;rw[decide_eq_false this]at h3;exact h3
 have a9:a.length=b.length:=by have:=jx.1 h;omega
 refine loop1.up hs.max (λi w'=>Ext w w'/\a.take i=b.take i) ⟨Ext.refl _,rfl⟩ λi w1 b0 hi ⟨x1,hI⟩ hn=>⟨λa6=>bnd.drew λw2 x2=>?_,λa8=>?_⟩
 .have k1:i<a.length:=oM;have k2:i<b.length:=oM;obtain⟨ad,ha,_,hc⟩:=IX hs k1;obtain⟨a0,a4,_,a5⟩:=IX ht k2;refine⟨ad,⟨ha,oM,a6⟩,_,hc _ (x1.trans x2),a0,⟨a4,oM,oM⟩,_,a5 _ (x1.trans x2),λh=>?_,λh=>?_⟩
  .have a7: ¬a=b:=λe=>(by subst e;exact h rfl);have h3:=hR w2 (x1.trans x2);rw[decide_eq_false a7]at h3;exact h3
  .exact hn k1 _ ⟨x1.trans x2,Wz k1 k2 hI (jx.1 h)⟩
 .have:i=a.length:=oM;subst this;rw[eu,gj oM]at hI;have h3:=hR w1 x1;rw[decide_eq_true hI]at h3;exact h3
def UN:(bm #[47,109,111,100,117,108,101,115,47])=B modsT:=rfl
def Vp(p:Aq)(x:Bs):Cc (p++[x])=(Cc p++modsT)++x.toList:=by unfold Cc;rw[qc];simp
def Q1:∀{p:Aq},Bh p=true->(Cc p).length<=p.length*25
 | [],_=>fl _
 |x::p,h=>by unfold Bh at h;rw[mq,dz]at h;have h1:=CE h.1;have h2:=Q1 (p:=p) h.2;have e:Cc (x::p)=modsT++x.toList++Cc p:=rfl;have e9:modsT.length=9:=rfl;rw[e,du,du,fm,e9];omega
def UR{p:Aq}(hi:i<p.length):Bh (p.take (i+1))=(Bh (p.take i)&&Af p[i]):=by unfold Bh;rw[dw hi,px];simp
def UV{p:Aq}(hi:i<p.length)(h:Af p[i]=false):Bh p=false:=by unfold Bh;rw[List.all_eq_false];exact⟨_,fg hi,by rw[h];decide⟩
def Zl7{p:Aq}{R:Bs->Wp}(hs:SlR strE w S s p)(hR:∀w',Ext w w'->R (B (A3 p)) w'):SE.N7 s w R:=by
 unfold SE.N7;have hl:=hs.len;have hm:=hs.max;have a4:=hs.2.2.2.1;have a9:strE.bytes=16:=rfl;rw[a9]at a4;unfold Ab at a4;refine⟨λh=>?_,λh=>?_⟩
 .have:p=[]:=fk oM;subst this;exact hR w xR
 .have a7:p≠[]:=λe=>by subst e;exact h (by rw[hl];rfl)
  have e9:modsT.length=9:=rfl;refine loop2.up hm (λout i w'=>Ext w w'/\Bh (p.take i)=true/\out=B (Cc (p.take i))) ⟨Ext.refl _,rfl,rfl⟩ λout i w1 b4 hi ⟨x1,hI,ho⟩ hn=>⟨λa6=>?_,λb2=>?_⟩
  .have a0:i<p.length:=oM;obtain⟨ad,ha,b0,hc⟩:=IX hs a0;refine⟨ad,⟨ha,oM,a6⟩,_,hc _ x1,SE.GQ.go (r04Name_se b0 λw2 x2=>⟨_,rfl,λhq=>?_,λhq=>?_⟩)⟩
   .have a5:=UV a0 (by simpa using hq);have h2:=hR w2 (x1.trans x2);unfold A3 at h2;rw[if_neg a7,if_neg (by rw[a5];decide)]at h2;exact h2
   .have a8:Af p[i]=true:=(by simpa using hq);have h1:=CE a8;have h2:=Q1 hI;rw[fb,ju oM]at h2;subst ho;rw[UN,AR];refine⟨by rw[Ae,Ae,Ar,e9];omega,ad,⟨ha,oM,a6⟩,_,hc _ (x1.trans x2),?_⟩;rw[Et p[i],AR];refine⟨by rw[Ae,Ae,Ar,du,e9];omega,hn a0 _ w2 ⟨x1.trans x2,by rw[UR a0,hI,a8];rfl,?_⟩⟩;rw[dw a0,Vp]
  .rw[gj oM]at hI ho;have h2:=hR w1 x1;unfold A3 at h2;rw[if_neg a7,if_pos hI]at h2;rw[ho];exact h2
def Hv{p:Aq}{R:Bs->Wp}(hs:SlR strE w S s p)(hb:p.length<=4000000000000)(hR:∀w',Ext w w'->R (B (A3 p)) w'):SE.Ef s w R:=by
 unfold SE.Ef;have hl:=hs.len;have hm:=hs.max;refine⟨λh=>?_,λh=>?_⟩
 .have:p=[]:=fk oM;subst this;exact hR w xR
 .have a5:p≠[]:=λe=>by subst e;exact h (by rw[hl];rfl)
  have e9:modsT.length=9:=rfl;intro a w1 ha hw;subst ha;have x1:Ext w w1:=hw▸Ext.alloc _ _;have a7:Bld w.heap.size [] w1:=hw▸MX w;refine loop1.up hm (λi w'=>Ext w w'/\Bh (p.take i)=true/\Bld w.heap.size (Cc (p.take i)) w') ⟨x1,rfl,a7⟩ λi w2 b5 hi ⟨x2,hI,hB⟩ hn=>⟨λb0=>?_,λb4=>?_⟩
  .have a0:i<p.length:=oM;obtain⟨ad,ha,b2,hc⟩:=IX hs a0;refine⟨ad,⟨ha,oM,b0⟩,_,hc _ x2,SE.C8.go (scanName_se b2 λw3 x3=>⟨_,rfl,λhq=>?_,λhq=>?_⟩)⟩
   .have a4:=UV a0 (by simpa using hq);have h2:=hR w3 (x2.trans x3);unfold A3 at h2;rw[if_neg a5,if_neg (by rw[a4];decide)]at h2;exact h2
   .have a6:Af p[i]=true:=(by simpa using hq);have h1:=CE a6;have h2:=Q1 hI;rw[fb,ju oM]at h2;rw[UN];refine HE (m:=modsT) (hB.ext x3) rfl (x2.trans x3) (by rw[e9];omega) λw4 n4 x4 a8=>⟨_,_,rfl,?_⟩;rw[Et p[i]];refine HE (m:=p[i].toList) a8 rfl x4 (by rw[du,e9];omega) λw5 n5 x5 a9=>⟨_,_,rfl,hn a0 w5 ⟨x5,by rw[UR a0,hI,a6];rfl,?_⟩⟩;rw[dw a0,Vp];exact a9
  .rw[gj oM]at hI hB;refine MW hB rfl x2 λw3 x3=>⟨_,rfl,?_⟩;have h2:=hR w3 x3;unfold A3 at h2;rw[if_neg a5,if_pos hI]at h2;exact h2
def Zb1{T:List Dir}{f:Value}{q:Dir->Bool}(hs:SlR dirE w S s T)
  (hf:∀x∈T,∀(ps d e o:Sl) w' (k:Value->Wp),Ext w w'->SlR strE w' S ps x.path->(∀a4,Ext w' a4->k (.bool (q x)) a4)->callV prog f [.agg #[ps.v,.string x.pack.name,vi x.pack.v.ma,vi x.pack.v.mi,vi x.pack.v.pa,d.v,e.v,o.v,vi x.node]] w' k)
  (hR:∀w',Ext w w'->R (AO q T) w'):SE.LR s f w R:=by
 unfold SE.LR;have hl:=hs.len;refine loop1.up hs.max (λi w'=>Ext w w'/\(T.take i).any q=false) ⟨Ext.refl _,rfl⟩ λi w1 a7 hi ⟨x1,hI⟩ hn=>⟨λa5=>?_,λa6=>?_⟩
 .have a0:i<T.length:=oM;obtain⟨ad,ps,d,e,o,ha,_,_,hp,_,_,_,hc⟩:=dirEl hs a0;refine⟨ad,⟨ha,oM,a5⟩,_,_,_,_,_,_,_,_,_,hc _ x1,hf _ (fg a0) ps d e o _ _ x1 (hp.ext x1) λw2 x2=>⟨_,rfl,λh=>?_,λh=>?_⟩⟩
  .rw[<-Ft a0 hI h];exact hR _ (x1.trans x2)
  .exact hn a0 _ ⟨x1.trans x2,by rw[F5 a0 hI];exact h⟩
 .have:i=T.length:=oM;rw[this,eu]at hI;rw[<-E4 hI];exact hR _ x1
def ZR:Bj prog 290:=enters_of func290 kR rfl
def Za7(T:List Dir)(p:Aq):AO (λd=>decide (d.path=p)) T=Cr T p:=by
 unfold Cr;by_cases h:AO (λd=>decide (d.path=p)) T= -1
 .have h0:T.any (λd=>decide (d.path=p))=false:=by rw[<-Fs,h];rfl
  rw[Zbc (λj hj=>by simpa using kw.1 h0 _ (fg hj))];exact h
 .obtain⟨n,hn,e,ht,hp⟩:=Kw h;rw[e,Zbb hn (of_decide_eq_true hp) λj hj a0=>?_];have:=kw.1 ht T[j] (List.mem_take_iff_getElem.2 ⟨j,oM,rfl⟩);simpa using this
def IZ{t:Sl}{T:List Dir}{p:Aq}{Q:Nat->Prop}(hs:SlR dirE w S s T)(ht:SlR strE w Q t p)(hR:∀w',Ext w w'->R (Cr T p) w'):SE.ER s t w R:=by unfold SE.ER;refine newS.intro λa w1 x1 a5 _ _=>newS.intro λa1 w2 x2 a6 _ _=>⟨s,a5.at0 (r:=[]) x2 rfl,?_⟩;have a0:=x1.trans x2;refine SE.LR.go (Zb1 (q:=λd=>decide (d.path=p)) (hs.ext a0) (λy _ ps d e o w3 k x3 hp hk=>⟨_,_,rfl,ZR,SE.Ov.go ?_⟩) λw3 x3=>⟨_,rfl,by rw[Za7];exact hR w3 (a0.trans x3)⟩);unfold SE.Ov;refine newS.intro λa4 w4 x4 a7 _ _=>⟨ps,a7.at0 xR rfl,t,(a6.ext (x3.trans x4)).ldc.pre (r:=[]) rfl,SE.Hq.go (PH (hp.ext x4) ((ht.ext a0).ext (x3.trans x4)) λw5 x5=>⟨_,rfl,hk w5 (x4.trans x5)⟩)⟩
def Za8{T:List Dir}{p:Aq}:Cr T p=(i:Int)↔Ax (T.map AD) p=some i:=by
 unfold Cr;cases Ax (T.map AD) p with
 |none=>show(-1:Int)=(i:Int)↔_;exact⟨λh=>by omega,nO⟩
 |some k=>show(k:Int)=(i:Int)↔_;rw[ep];omega
def Za9{T:List Dir}{p:Aq}:(0<=Cr T p/\Cr T p<(i:Int))↔∃h,h<i/\Ax (T.map AD) p=some h:=by
 unfold Cr;cases Ax (T.map AD) p with
 |none=>show(0:Int)<= -1/\(-1:Int)<(i:Int)↔_;exact⟨λh=>by omega,λ⟨h,_,h2⟩=>by cases h2⟩
 |some k=>show(0:Int)<=(k:Int)/\(k:Int)<(i:Int)↔_;exact⟨λh=>⟨k,oM,rfl⟩,λ⟨h,h1,h2⟩=>by cases h2;omega⟩
structure HeadOk(d:Dir):Prop where
 path:d.path≠[]
 names:Bh d.path=true
 len:(A3 d.path).length<=1024
 node:1<=d.node
def Zjn{T:List Dir}{d:Dir}:StandsD T i d↔HeadOk d/\Cr T d.path=(i:Int)/\(0<=Cr T d.path.dropLast/\Cr T d.path.dropLast<(i:Int))/\AM d.pack=true/\d.path.getLast? =some d.pack.name:=by
 rw[Za8,Za9];constructor
 .intro h;exact⟨⟨h.path,h.names,h.len,h.node⟩,h.first,h.up,h.may,h.name⟩
 .rintro⟨h,h1,h2,h3,h4⟩;exact⟨h.path,h.names,h.len,h.node,h1,h2,h3,h4⟩
def Zkb{p:Aq}(h:p≠[]):Ai (B (A3 p)) ⟨#[]⟩= !Bh p:=by
 unfold A3;rw[if_neg h];cases hn:Bh p with
 |true=>rw[if_pos rfl];have h9:=Q4 h;show Ai (B (Cc p)) ⟨#[]⟩=false;rw[pc];intro e;have:=congrArg ByteArray.toList (AH.1 e);rw[H3]at this;have e0:(bm #[]).toList=[]:=H3 [];rw[e0]at this;rw[this]at h9;simp at h9
 |false=>rw[if_neg dC];exact AH.2 rfl
def Zbw{d:Dir}(hn:n=d.path.length):(((((n:Int)==0)||Ai (B (A3 d.path)) ⟨#[]⟩)||decide (1024<((B (A3 d.path)).size:Int)))||decide (d.node<1))=false↔HeadOk d:=by
 subst hn;rw[Ae];by_cases h:d.path=[]
 .constructor
  .intro hq;rw[h]at hq;simp at hq
  .intro hq;exact absurd h hq.path
 .rw[Zkb h];have e1:((d.path.length:Int)==0)=false:=by rw[pc];intro e;have e:=eq_of_beq e;exact h (fk oM)
  rw[e1];simp only[pp,gh,ni,decide_eq_false_iff_not];constructor
  .rintro⟨⟨h1,h2⟩,h3⟩;exact⟨h,h1,oM,oM⟩
  .intro q;exact⟨⟨q.names,by have:=q.len;omega⟩,by have:=q.node;omega⟩
def Zda{p:Aq}{n:Bs}(h:p.length - 1<p.length):Ai n p[p.length - 1]=true↔p.getLast? =some n:=by rw[AH,List.getLast?_eq_getElem?,dt h,ep];exact eq_comm
def SlR.front{p:Aq}(h:SlR strE w S s p)(h0:p≠[]):Aa (((s.len:Nat):Int) - 1)=((p.length - 1:Nat):Int)/\SlR strE w S (Sl.cut s 0 (p.length - 1) 1) p.dropLast:=by have hl:=h.len;have hm:=h.max;rw[Ak]at hm;have hp:0<p.length:=my.2 h0;refine⟨by rw[Ag oM oM];omega,?_⟩;have:=h.cut (a:=0) (b:=p.length - 1) (gl _) oM;rw[jv,<-List.dropLast_eq_take]at this;exact this
def Zkc{T:List Dir}{R:Bool->Wp}(ht:Tab w)(hs:SlR dirE w S s T)(hi:i<T.length)(hb:∀d∈T,d.path.length<=4000000000000)(hR:∀(b:Bool) w',Ext w w'->(b=true↔StandsD T i T[i])->R b w'):SE.Mr s (i:Int) w R:=by
 unfold SE.Mr;have d2:=hs.len;obtain⟨ad,ps,dd,ee,oo,ha,_,c8,hp,hd,he,ho,hc⟩:=dirEl hs hi;have hb:=hb _ (fg hi);have c7:=hp.len;have d1:T[i].path.length<=ps.cap:=hp.2.1;rw[Zjn]at hR;generalize T[i]=d at*;have b7:∀w',Ext w w'-> ¬(HeadOk d/\Cr T d.path=(i:Int)/\(0<=Cr T d.path.dropLast/\Cr T d.path.dropLast<(i:Int))/\AM d.pack=true/\d.path.getLast? =some d.pack.name)->R false w':=λw' hx h=>hR false w' hx ⟨nO,λhf=>absurd hf h⟩;refine newS.intro λa w1 x1 b4 _ _=>⟨s,b4.ldc.pre (r:=[]) rfl,ad,⟨ha,oM,oM⟩,_,_,_,_,_,_,_,_,_,hc _ x1,newS.set rfl λa2 w2 x2 a0 _=>⟨ps,a0.at0 xR rfl,?_⟩⟩;have a8:=x1.trans x2;refine SE.Ef.go (Hv (hp.ext a8) hb λw3 x3=>⟨_,rfl,ps,a0.at0 x3 rfl,bound (bound (bound ⟨d.node,λ_=>a0.at1 (k:=8) (r:=[]) x3 rfl,bound ?_⟩))⟩);have b5:=a8.trans x3;have a4:=Zbw (d:=d) c7;generalize (((((ps.len:Int)==0)||Ai (B (A3 d.path)) ⟨#[]⟩)||decide (1024<((B (A3 d.path)).size:Int)))||decide (d.node<1))=d0 at*;refine⟨s,λ_=>b4.at0 (r:=[]) (x2.trans x3) rfl,ps,λ_=>a0.at0 x3 rfl,?_⟩;refine gCall.intro (Cr T d.path) (λ_ q hq=>SE.ER.go (IZ (hs.ext b5) (hp.ext b5) λw4 x4=>⟨_,rfl,hq w4 x4⟩)) λd3 w4 x4 a6=>⟨λhq=>b7 w4 (b5.trans x4) λ⟨h1,h2,_⟩=>?_,λhq=>bnd.drew λw5 x5=>?_⟩
 .have hb:=a4.2 h1;subst hb;rw[a6 rfl,h2]at hq;simp at hq
 .rw[gh]at hq;obtain⟨q1,q2⟩:=hq;have h1:=a4.1 q1;have h2:Cr T d.path=(i:Int):=by rw[q1]at a6;rw[<-a6 rfl];simpa using q2
  have a9:=x3.trans (x4.trans x5);have c3:=a8.trans a9;obtain⟨ew,b8⟩:=(hp.ext c3).front h1.path;refine⟨s,b4.at0 (r:=[]) (x2.trans a9) rfl,ps,a0.at0 a9 rfl,ps,a0.at0 a9 rfl,?_⟩;rw[ew,ec];refine⟨⟨oM,oM⟩,?_⟩;refine SE.ER.go (IZ (hs.ext c3) b8 λw6 x6=>⟨_,rfl,bnd.drew λw7 x7=>bound (bound ?_)⟩);have b6:=a9.trans (x6.trans x7);have b0:=a8.trans b6;refine⟨_,_,_,_,dd,ee,oo,λ_=>a0.at1 (k:=1) b6 rfl,?_⟩;refine gCall.intro (AM d.pack) (λ_ q hq=>SE.FX.go (NL (ht.ext b0) c8 (hd.ext b0) (he.ext b0) (ho.ext b0) λw8 x8=>⟨_,rfl,hq w8 x8⟩)) λd4 w8 x8 a7=>bound ?_;have b2:=b6.trans x8;have c4:=a8.trans b2;have c9:0<d.path.length:=my.2 h1.path;have b9:d.path.length - 1<d.path.length:=oM;obtain⟨al,c5,_,c6⟩:=IX hp b9;refine⟨_,λ_=>a0.at1 (k:=1) b2 rfl,ps,λ_=>a0.at0 b2 rfl,ps,λ_=>a0.at0 b2 rfl,al,λ_=>by rw[ew];exact⟨c5,oM,oM⟩,_,λ_=>by rw[ew,ec];exact c6 _ c4,?_⟩;refine hR _ w8 c4 ?_;have a5:=Zda (p:=d.path) (n:=d.pack.name) b9;constructor
  .intro hq;simp only[dz,decide_eq_true_eq]at hq;obtain⟨⟨⟨k1,k2⟩,k3⟩,k4⟩:=hq;refine⟨h1,h2,⟨k1,k2⟩,?_,a5.1 k4⟩;rw[<-k3,a7 (by rw[decide_eq_true k1,decide_eq_true k2];rfl)]
  .rintro⟨_,_,⟨k1,k2⟩,k3,k4⟩;rw[decide_eq_true k1,decide_eq_true k2]at a7 ⊢;rw[a7 rfl,k3,a5.2 k4];rfl
def Zad{t:Sl}{a b:LS}{T:Nat->Prop}{R:Bool->Wp}(hs:SlR spanE w S s a)(ht:SlR spanE w T t b)(hR:∀w',Ext w w'->R (decide (a=b)) w'):SE.LO s t w R:=by
 unfold SE.LO;have hl:=hs.len;have a9:=ht.len;refine⟨λh=>?_,λh=>?_⟩
 .have:decide (a=b)=false:=decide_eq_false λe=>h (by rw[hl,a9,e]);rw[<-this];exact hR _ xR
 have a4:a.length=b.length:=by have:=jx.1 h;omega
 refine loop1.up hs.max (λi w'=>Ext w w'/\a.take i=b.take i) ⟨Ext.refl _,rfl⟩ λi w1 b4 hi ⟨x1,hI⟩ hn=>⟨λb0=>bnd.drew λw2 x2=>?_,λb2=>?_⟩
 .have h1:i<a.length:=oM;have h2:i<b.length:=oM;obtain⟨ad,ha,_,hc⟩:=Gd hs h1;obtain⟨a5,a6,_,a7⟩:=Gd ht h2;have a0:=x1.trans x2;refine⟨ad,⟨ha,oM,b0⟩,_,_,_,_,_,_,hc _ a0,a5,⟨a6,oM,oM⟩,_,_,_,_,_,_,a7 _ a0,?_⟩;rw[Zi8];refine⟨λh=>?_,λh=>hn h1 _ ⟨a0,(Zj4 h1 h2 hI).2 (by simpa using h)⟩⟩;have:decide (a=b)=false:=decide_eq_false (Ze1 h1 h2 (by simpa using h));rw[<-this];exact hR _ a0
 .have a8:i=a.length:=oM;rw[a8,eu,a4,eu]at hI;have:decide (a=b)=true:=decide_eq_true hI;rw[<-this];exact hR _ x1
def YZ{x y:Dep}:decide (x=y)=(Ai x.name y.name&&decide (x.range=y.range)):=by obtain⟨n,l⟩:=x;obtain⟨m,k⟩:=y;rw[gn];simp only[decide_eq_true_eq,Dep.mk.injEq,dz,AH]
def ZO:Bj prog 287:=enters_of func287 kR rfl
def Zfr{x y:Dep}{t:Sl}{T:Nat->Prop}{R:Bool->Wp}(hs:SlR spanE w S s x.range)(ht:SlR spanE w T t y.range)(hR:∀w',Ext w w'->R (decide (x=y)) w'):SE.KZ x.name s y.name t w R:=by
 unfold SE.KZ;rw[YZ]at hR;refine newS.intro λa w1 x1 a5 _ _=>newS.intro λa1 w2 x2 a6 _ _=>⟨_,a5.at0 x2 rfl,_,a6.at0 xR rfl,bound ⟨s,λ_=>a5.at1 (k:=1) (r:=[]) x2 rfl,t,λ_=>a6.at1 (k:=1) (r:=[]) xR rfl,?_⟩⟩;have a4:=x1.trans x2;refine gCall.intro (decide (x.range=y.range)) (λ_ q hq=>SE.LO.go (Zad (hs.ext a4) (ht.ext a4) λw' hx=>⟨_,rfl,hq _ hx⟩)) λa7 w3 x3 a0=>?_;have h3:=hR w3 (a4.trans x3);cases hg:Ai x.name y.name with
 |false=>rw[hg]at h3;exact h3
 |true=>rw[hg]at h3 a0;rw[a0 rfl];exact h3
def Qv{t:Sl}{a b:LD}{T:Nat->Prop}{R:Bool->Wp}(hs:SlR depE w S s a)(ht:SlR depE w T t b)(hR:∀w',Ext w w'->R (decide (a=b)) w'):SE.Hd s t w R:=by
 unfold SE.Hd;refine SE.Om.go ?_;unfold SE.Om;have h1:=hs.len;have h2:=ht.len;have hf: ¬a=b->∀w',Ext w w'->R false w':=λb4 w' hx=>by have h3:=hR w' hx;rw[decide_eq_false b4]at h3;exact h3
 refine⟨λh=>⟨_,rfl,hf (λe=>by subst e;omega) w xR⟩,λh=>?_⟩;have b7:a.length=b.length:=by have:=jx.1 h;omega
 refine loop1.up hs.max (λi w'=>Ext w w'/\a.take i=b.take i) ⟨Ext.refl _,rfl⟩ λi w1 b8 hi ⟨x1,hI⟩ hn=>⟨λb2=>?_,λb6=>?_⟩
 .have k1:i<a.length:=oM;have k2:i<b.length:=oM;obtain⟨ad,u,ha,_,_,hr,hc⟩:=BQ hs k1;obtain⟨a6,u2,a7,_,_,b5,b0⟩:=BQ ht k2;refine⟨ad,⟨ha,oM,b2⟩,_,u,hc _ x1,newS.set rfl λa4 w2 x2 a8 _=>⟨a6,⟨a7,oM,oM⟩,_,u2,b0 _ (x1.trans x2),newS.set rfl λa5 w3 x3 a9 _=>?_⟩⟩;have a0:=x1.trans (x2.trans x3);refine⟨_,u,(a8.ext x3).ldc.pre (r:=[]) rfl,_,u2,a9.ldc.pre (r:=[]) rfl,_,_,rfl,ZO,SE.KZ.go (Zfr (hr.ext a0) (b5.ext a0) λw4 x4=>⟨_,rfl,λhq=>?_,λhq=>?_⟩)⟩
  .refine⟨_,rfl,hf (λhh=>?_) w4 (a0.trans x4)⟩;have:a[i]=b[i]:=(by subst hh;rfl);rw[decide_eq_true this]at hq;cases hq
  .exact hn k1 w4 ⟨a0.trans x4,Wz k1 k2 hI (by simpa using hq)⟩
 .have:i=a.length:=oM;subst this;rw[eu,gj oM]at hI;have h3:=hR w1 x1;rw[decide_eq_true hI]at h3;exact⟨_,rfl,h3⟩
def Zfs{x y:Pack}:decide (x=y)=(Ai x.name y.name&&decide (x.v=y.v)&&decide (x.deps=y.deps)&&decide (x.peers=y.peers)&&decide (x.opt=y.opt)):=by obtain⟨n,v,d,e,o⟩:=x;obtain⟨n',v',d',e',o'⟩:=y;rw[gn];simp only[decide_eq_true_eq,Pack.mk.injEq,dz,AH];exact⟨λ⟨a,b,c,d,e⟩=>⟨⟨⟨⟨a,b⟩,c⟩,d⟩,e⟩,λ⟨⟨⟨⟨a,b⟩,c⟩,d⟩,e⟩=>⟨a,b,c,d,e⟩⟩
def KW{p q:Pack}{d e o d' e' o':Sl}{T:Nat->Prop}{R:Bool->Wp}(hd:SlR depE w S d p.deps)(he:SlR depE w S e p.peers)(ho:SlR depE w S o p.opt)(b0:SlR depE w T d' q.deps)(b2:SlR depE w T e' q.peers)(b4:SlR depE w T o' q.opt)
  (hR:∀w',Ext w w'->R (decide (p=q)) w'):SE.Fy p.name p.v.ma p.v.mi p.v.pa d e o q.name q.v.ma q.v.mi q.v.pa d' e' o' w R:=by
 unfold SE.Fy;rw[Zfs]at hR;refine newS.intro λa w1 x1 hb _ _=>newS.intro λa1 w2 x2 a4 _ _=>⟨_,hb.at0 x2 rfl,_,a4.at0 xR rfl,bound ⟨_,_,_,λ_=>hb.at1 (k:=1) x2 rfl,_,_,_,λ_=>a4.at1 (k:=1) xR rfl,bound ⟨d,λ_=>hb.at1 (k:=4) x2 rfl,d',λ_=>a4.at1 (k:=4) xR rfl,?_⟩⟩⟩;have a7:=x1.trans x2;have ev:((p.v.ma==q.v.ma)&&((p.v.mi==q.v.mi)&&((p.v.pa==q.v.pa)&&true)))=decide (p.v=q.v):=Mu;rw[ev];refine gCall.intro (decide (p.deps=q.deps)) (λ_ k hk=>SE.Hd.go (Qv (hd.ext a7) (b0.ext a7) λw' hx=>⟨_,rfl,hk _ hx⟩)) λt3 w3 x3 a6=>bound ⟨e,λ_=>hb.at1 (k:=5) (x2.trans x3) rfl,e',λ_=>a4.at1 (k:=5) x3 rfl,?_⟩;have a8:=a7.trans x3;refine gCall.intro (decide (p.peers=q.peers)) (λ_ k hk=>SE.Hd.go (Qv (he.ext a8) (b2.ext a8) λw' hx=>⟨_,rfl,hk _ hx⟩)) λt4 w4 x4 a5=>bound ⟨o,λ_=>hb.at1 (k:=6) (r:=[]) (x2.trans (x3.trans x4)) rfl,o',λ_=>a4.at1 (k:=6) (r:=[]) (x3.trans x4) rfl,?_⟩;have a9:=a8.trans x4;refine gCall.intro (decide (p.opt=q.opt)) (λ_ k hk=>SE.Hd.go (Qv (ho.ext a9) (b4.ext a9) λw' hx=>⟨_,rfl,hk _ hx⟩)) λt5 w5 x5 a0=>?_;have h5:=hR w5 (a9.trans x5);cases hg:(Ai p.name q.name&&decide (p.v=q.v))with
 |false=>rw[hg]at h5;exact h5
 |true=>
  rw[hg]at h5 a6 a5 a0;have a6:=a6 rfl;subst a6;cases h1:decide (p.deps=q.deps)with
  |false=>rw[h1]at h5;exact h5
  |true=>
   rw[h1]at h5 a5 a0;have a5:=a5 rfl;subst a5;cases h2:decide (p.peers=q.peers)with
   |false=>rw[h2]at h5;exact h5
   |true=>rw[h2]at h5 a0;have a0:=a0 rfl;subst a0;exact h5
open Classical in
noncomputable def GH (T:List Dir):Int:=if TreeOk T then 0 else 42
def Pn{T:List Dir}(h:TreeOk T):GH T=0:=by unfold GH;rw[if_pos h]
def Tb{T:List Dir}(h: ¬TreeOk T):GH T=42:=by unfold GH;rw[if_neg h]
def Po{T:List Dir}:GH T=0↔TreeOk T:=by
 constructor
 .intro h;exact iq λhn=>by rw[Tb hn]at h;cases h
 .exact Pn
def Zg{d:Dir}:(d.path=[]/\d.pack=Az/\d.node=0)↔d=⟨[],Az,0⟩:=by obtain⟨p,k,n⟩:=d;simp only[Dir.mk.injEq]
def W6{T:List Dir}(ht:Tab w)(hs:SlR dirE w S s T)(hb:∀d∈T,d.path.length<=4000000000000)(hR:∀w',Ext w w'->R (GH T) w'):SE.Ja s w R:=by
 unfold SE.Ja;have c5:=hs.len;have a9:∀w',Ext w w'-> ¬TreeOk T->R 42 w':=λw' hx h=>by have:=hR w' hx;rwa [Tb h]at this
 refine newS.intro λa w1 x1 a8 _ _=>⟨s,a8.ldc.pre (r:=[]) rfl,bound ⟨s,λ_=>a8.ldc.pre (r:=[]) rfl,λhc=>a9 w1 x1 λhF=>?_,λhc=>?_⟩⟩
 .have:=hF.len;rw[decide_eq_false oM,decide_eq_false oM]at hc;cases hc
 simp only[gh,decide_eq_false_iff_not]at hc;obtain⟨b9,c3⟩:=hc;refine⟨s,a8.ldc.pre (r:=[]) rfl,?_⟩;refine loop1.up hs.max (λi w'=>Ext w1 w'/\∀j (hj:j<T.length),j<i->(if j=0 then T[j]=⟨[],Az,0⟩else StandsD T j T[j])) ⟨Ext.refl _,λj _ h=>by omega⟩ λi w2 c7 hi ⟨x2,hI⟩ hn=>⟨λb8=>?_,λc4=>?_⟩
 .have a0:i<T.length:=oM;have b5:=x1.trans x2;obtain⟨ad,ps,dd,ee,oo,ha,_,c6,hp,hd,he,ho,hc⟩:=dirEl hs a0;have b4:=hp.len;refine⟨ad,⟨ha,oM,b8⟩,_,_,_,_,_,_,_,_,_,hc _ b5,newS.set rfl λa5 w3 x3 b0 _=>join.named λJ hJ=>?_⟩;have a7:=b5.trans x3;have a4:∀(b:Bool) w',Ext w1 w'->(b=true↔(if i=0 then T[i]=⟨[],Az,0⟩else StandsD T i T[i]))->J b w':=by
   subst hJ;intro b w' hx hq;refine⟨λh=>a9 w' (x1.trans hx) λhF=>?_,λh=>hn a0 w' ⟨hx,λj hj b7=>?_⟩⟩
   .have:b=true:=hq.2 (by
     split
     .rename_i h0;subst h0;have:=hF.root;rw[dt a0]at this;exact ji this
     .rename_i h0;exact hF.rest i _ (dt a0) h0)
    rw[this]at h;cases h
   .obtain h'|h':=il.1 b7
    .exact hI j hj h'
    .subst h';exact hq.1 (by simpa using h)
  clear hJ hn;refine⟨λh0=>?_,λh0=>?_⟩
  .have b2:i=0:=oM;rw[if_pos b2]at a4;rw[<-Zg]at a4;generalize T[i]=d at*;refine⟨ps,b0.at0 xR rfl,bound ⟨_,_,_,_,dd,ee,oo,λ_=>b0.at1 (k:=1) xR rfl,?_⟩⟩;refine gCall.intro (decide (d.pack=Az)) (λ_ q hq=>SE.Fy.go (KW (p:=d.pack) (q:=Az) (T:=None') (hd.ext a7) (he.ext a7) (ho.ext a7) (SlR.nil trivial) (SlR.nil trivial) (SlR.nil trivial) λw4 x4=>⟨_,rfl,hq w4 x4⟩)) λc8 w4 x4 a6=>bound ⟨d.node,λ_=>b0.at1 (k:=8) (r:=[]) x4 rfl,a4 _ w4 (x2.trans (x3.trans x4)) ?_⟩;have e1:(((ps.len:Nat):Int)==0)=true↔d.path=[]:=by
    rw[beq_iff_eq];constructor
    .intro h;exact fk oM
    .intro h;rw[h]at b4;simp at b4;omega
   constructor
   .intro hq;simp only[dz]at hq;obtain⟨⟨k1,k2⟩,k3⟩:=hq;rw[a6 k1]at k2;exact⟨e1.1 k1,of_decide_eq_true k2,by simpa using k3⟩
   .rintro⟨k1,k2,k3⟩;rw[e1.2 k1]at a6 ⊢;rw[a6 rfl,decide_eq_true k2,k3];rfl
  .have b2:i≠0:=oM;rw[if_neg b2]at a4;refine⟨s,a8.at0 (r:=[]) (x2.trans x3) rfl,SE.Mr.go (Zkc (ht.ext a7) (hs.ext a7) a0 hb λb w4 x4 hq=>⟨b,rfl,a4 b w4 (x2.trans (x3.trans x4)) hq⟩)⟩
 .have h:=hR w2 (x1.trans x2);rw[Pn ⟨⟨oM,oM⟩,?_,λi d hd h0=>?_⟩]at h
  .exact h
  .have:=hI 0 oM oM;rw[if_pos rfl]at this;rw[dt oM,this]
  .obtain⟨b6,rfl⟩:=fe.1 hd;have:=hI i b6 oM;rwa [if_neg h0]at this
def Zec{k:Mani}{d e o v d' e' o' v':Sl}{T:Nat->Prop}{R:Bool->Wp}(hd:SlR depE w S d m.deps)(he:SlR depE w S e m.dev)(ho:SlR depE w S o m.opt)(hv:SlR depE w S v m.over)(a7:SlR depE w T d' k.deps)(a8:SlR depE w T e' k.dev)(a9:SlR depE w T o' k.opt)(b0:SlR depE w T v' k.over)
  (hR:∀w',Ext w w'->R (decide (m=k)) w'):SE.KK d e o v d' e' o' v' w R:=by
 unfold SE.KK;have eq:decide (m=k)=(decide ((⟨⟨#[]⟩,⟨0,0,0⟩,m.deps,m.dev,m.opt⟩:Pack)=⟨⟨#[]⟩,⟨0,0,0⟩,k.deps,k.dev,k.opt⟩)&&decide ((⟨⟨#[]⟩,⟨0,0,0⟩,m.over,[],[]⟩:Pack)=⟨⟨#[]⟩,⟨0,0,0⟩,k.over,[],[]⟩)):=by obtain⟨a,b,c,d⟩:=m;obtain⟨a',b',c',d'⟩:=k;rw[gn];simp only[decide_eq_true_eq,Mani.mk.injEq,Pack.mk.injEq,dz,true_and,and_true];exact⟨λ⟨a,b,c,d⟩=>⟨⟨a,b,c⟩,d⟩,λ⟨⟨a,b,c⟩,d⟩=>⟨a,b,c,d⟩⟩
 rw[eq]at hR;refine newS.intro λa w1 x1 hb _ _=>newS.intro λa1 w2 x2 a4 _ _=>⟨d,hb.at0 x2 rfl,e,hb.at1 (k:=1) x2 rfl,o,hb.at1 (k:=2) x2 rfl,d',a4.at0 xR rfl,e',a4.at1 (k:=1) xR rfl,o',a4.at1 (k:=2) xR rfl,?_⟩;have a0:=x1.trans x2;refine SE.Fy.go (KW (p:=⟨⟨#[]⟩,⟨0,0,0⟩,m.deps,m.dev,m.opt⟩) (q:=⟨⟨#[]⟩,⟨0,0,0⟩,k.deps,k.dev,k.opt⟩) (hd.ext a0) (he.ext a0) (ho.ext a0) (a7.ext a0) (a8.ext a0) (a9.ext a0) λw3 x3=>⟨_,rfl,v,λ_=>hb.at1 (k:=3) (r:=[]) (x2.trans x3) rfl,v',λ_=>a4.at1 (k:=3) (r:=[]) x3 rfl,?_⟩);have a5:=a0.trans x3;refine gCall.intro (decide ((⟨⟨#[]⟩,⟨0,0,0⟩,m.over,[],[]⟩:Pack)=⟨⟨#[]⟩,⟨0,0,0⟩,k.over,[],[]⟩)) (λ_ q hq=>SE.Fy.go (KW (p:=⟨⟨#[]⟩,⟨0,0,0⟩,m.over,[],[]⟩) (q:=⟨⟨#[]⟩,⟨0,0,0⟩,k.over,[],[]⟩) (S:=S) (T:=T) (hv.ext a5) (SlR.nil trivial) (SlR.nil trivial) (b0.ext a5) (SlR.nil trivial) (SlR.nil trivial) λw4 x4=>⟨_,rfl,hq w4 x4⟩)) λb2 w4 x4 a6=>?_;have h4:=hR w4 (a5.trans x4);revert a6 h4;cases decide ((⟨⟨#[]⟩,⟨0,0,0⟩,m.deps,m.dev,m.opt⟩:Pack)=⟨⟨#[]⟩,⟨0,0,0⟩,k.deps,k.dev,k.opt⟩)with
 |false=>exact λ_ h=>h
 |true=>exact λh1 h2=>by rw[h1 rfl];exact h2
open Go.Lib Go.Sort
section
variable {α:Type} [Inhabited α] (fn:α->Int)
def Zbz{g:Nat}{l:List α}{tail:LV}(h:RowB E5 w g (l.map fn) tail):Go.Sort.Holds (λx=>Value.int .i64 (fn x)) w g 0 l.toArray:=by
 obtain⟨t,_,_,hb⟩:=h;rw[PP]at hb;intro j hj;have a0:j<l.length:=by simpa using hj
 constructor
 .simp only[World.cell?,hb,kd];rw[jr,fu (by rw[dx,dx];exact a0),gb,gb,dt a0,getElem!_pos l.toArray j hj];rfl
 .simp[World.frozen?,hb]
def VF{g:Nat}{l l':List α}{tail:LV}{os:Array Obj}(h:RowB E5 w g (l.map fn) tail)(hl:l'.length=l.length):
  But g w (sortWorld (λx=>Value.int .i64 (fn x)) w g 0 n l'.toArray os)/\RowB E5 (sortWorld (λx=>Value.int .i64 (fn x)) w g 0 n l'.toArray os) g (l'.map fn) tail/\w.drawn<=(sortWorld (λx=>Value.int .i64 (fn x)) w g 0 n l'.toArray os).drawn:=by
 obtain⟨t,_,_,hb⟩:=h;have a4:g<w.heap.size:=(fa.1 hb).1;have hh:(sortWorld (λx=>Value.int .i64 (fn x)) w g 0 n l'.toArray os).heap=w.heap.modify g (onCells (putCells (λx=>Value.int .i64 (fn x)) 0 l'.toArray))++os:=rfl;refine⟨⟨by rw[hh];simp,rfl,rfl,rfl,λb a0 a5=>?_⟩,⟨t,rfl,rfl,?_⟩,?_⟩
 .rw[hh,jl (by simpa using a0),lz,if_neg (Ne.symm a5)]
 .rw[hh,jl (by simpa using a4),lz,if_pos rfl,hb];simp only[je,onCells,ep,Obj.cells.injEq,and_true];apply Array.ext_getElem?;intro j;rw[PP,PP];simp only[putCells,Array.getElem?_mapIdx,jr,gl,true_and,kd,qf,ix];by_cases hj:j<l'.length
  .rw[fu (by rw[dx,dx,<-hl];exact hj),fu (by rw[dx,dx];exact hj),gb,gb,gb,gb,dt (by rw[<-hl];exact hj),dt hj];simp only[je,if_pos hj];rw[getElem!_pos l'.toArray j (by simpa using hj)];rfl
  .rw[gq (by rw[dx,dx,<-hl];omega),gq (by rw[dx,dx];omega),dx,dx,dx,dx,hl];cases tail[j - l.length]? with
   |none=>rfl
   |some v=>simp only[je];rw[if_neg (by rw[<-hl];exact hj)]
 .show w.drawn<=w.drawn+n;omega
def Zix{P:Program}{ρ:Ren}(L:SlLaysF.n6 P ρ)(cf:α->α->Int)(hO:SWO (ltOf cf))(gf:Nat)(cb:Array Value)(eg:∀args w,(callFunc gf args).run P w= .ok (.enter gf args) w){g cap:Nat}{l:List α}{tail:LV}
  (a4:∀w0 x y,But g w w0->w.drawn<=w0.drawn->Calls P gf (#[vi (fn x),vi (fn y)]++cb) w0 λe w'=>e= .returned (.int .i64 (cf x y))/\∃q a9,w'=grow (w0.drewN q) a9)
  (hR:RowB E5 w g (l.map fn) tail) (a8:l.length<4611686018427387904) {K:Value->Wp} {F:Nat} (hF:ρ.f 6=F)
  (hK:∀(l':List α) w',l'.Perm l->l'.Pairwise (λx y=>¬cf y x<0)->But g w w'->RowB E5 w' g (l'.map fn) tail->K (.tuple #[]) w'):callS P F [Sl.v ⟨some ⟨g,0,none⟩,l.length,cap⟩,.func (.func gf) #[] cb] w K:=by
 subst hF;have a6:g<w.heap.size:=by obtain⟨t,_,_,hb⟩:=hR;exact(fa.1 hb).1
 have h1:OneCell (λx:α=>Value.int .i64 (fn x)):=λx=>rfl;have hC:CmpLays1 P gf cb (λx=>Value.int .i64 (fn x)) cf g 0 l.toArray.size w:=λm os dk hs x y=>by have:=VF fn hR (n:=m) (os:=os) (l':=dk.toList) (by simpa using hs);exact a4 _ x y this.1 this.2.2
 have h:=Any.slices_SortFunc L (λx=>Value.int .i64 (fn x)) h1 cf hO gf cb g 0 cap l.toArray w eg hC (Zbz fn hR) a6 (by simpa using a8);refine h.mono λe w' ⟨he,d',n,os,hp,hs,hw⟩=>⟨_,he,?_⟩;have a7:=Vq hp;have a5:d'.toList.length=l.length:=by simpa using hp.1
 have a0:=VF fn hR (n:=n) (os:=os) (l':=d'.toList) a5;rw[li,<-hw]at a0;exact hK d'.toList w' (by simpa using a7) ((VQ hp.1 hs).imp λh=>by simpa[ltOf]using h) a0.1 a0.2.1
end
def FC(T:List Dir)(home:Aq)(i:Nat):Bool:=match T[i]? with
 |some d=>decide (d.path.length=home.length+1)&&decide (d.path.take home.length=home)
 |none=>false
def Ug{T:List Dir}{home:Aq}(h:i<T.length):FC T home i=(decide (T[i].path.length=home.length+1)&&decide (T[i].path.take home.length=home)):=by unfold FC;rw[dt h]
def Zb8{T:List Dir}{home:Aq}(h:FC T home i=true):∃(hi:i<T.length),home.length<T[i].path.length:=by
 by_cases hi:i<T.length
 .rw[Ug hi,dz,decide_eq_true_iff]at h;exact⟨hi,oM⟩
 .unfold FC at h;rw[io oM]at h;cases h
def C3(T:List Dir)(home:Aq)(n:Nat):List Nat:=(List.range n).filter (FC T home)
def Zcd(T:List Dir)(a0:Aq)(n:Nat):C3 T a0 (n+1)=if FC T a0 n then C3 T a0 n++[n]else C3 T a0 n:=by unfold C3;rw[List.range_succ,jq];cases h:FC T a0 n<;>simp[h]
def Ul(T:List Dir)(a0:Aq)(n:Nat):(C3 T a0 n).length<=n:=by unfold C3;have:=iw (FC T a0) (List.range n);rwa [List.length_range]at this
def I3(T:List Dir)(k i:Nat):Bs:=match T[i]? with
 |some d=>d.path.getD k ⟨#[]⟩
 |none=>⟨#[]⟩
def Zes{T:List Dir}{k:Nat}(h:i<T.length)(hk:k<T[i].path.length):I3 T k i=T[i].path[k]:=by unfold I3;rw[dt h];simp[hk]
def Na(T:List Dir)(k:Nat)(a b:Nat):Int:=AG (A5 (I3 T k a) (I3 T k b)) (B7 a b)
def Ya(T:List Dir)(k:Nat):Ord3 (Na T k):=(D8 (I3 T k)).or (cmpI_ord.comap λn:Nat=>(n:Int))
def Uk{hm:Sl}{T:List Dir}{c0 c1:Addr}{k:Nat}{R:Bs->Wp}(hi:i<T.length)(hk:k<T[i].path.length)(hl:hm.len=k)(hs:SlR dirE w S s T)(h0:BoxAt w c0 [s.v])(h1:BoxAt w c1 [hm.v])(hR:∀w',Gr w w'->R (I3 T k i) w'):SE.Jb (i:Int) c0 c1 w R:=by unfold SE.Jb;subst hl;have a6:=hs.len;obtain⟨ad,ps,dd,ee,oo,ha,_,_,hp,_,_,_,hc⟩:=dirEl hs hi;have a5:=hp.len;refine bnd.gr λw1 x1=>⟨s,h0.at0 (r:=[]) x1.ext rfl,ad,⟨ha,oM,oM⟩,ps,by rw[ec];exact(hc _ x1.ext).pre rfl,hm,h1.at0 (r:=[]) x1.ext rfl,?_⟩;obtain⟨al,a0,_,a4⟩:=IX hp hk;refine⟨al,⟨a0,oM,oM⟩,_,by rw[ec];exact a4 _ x1.ext,?_⟩;have:=hR w1 x1;rw[Zes hi hk]at this;exact this
def TE:Bj prog 100:=enters_of func100 kR rfl
def ZL:Bj prog 102:=enters_of func102 kR rfl
def Zcc{hm:Sl}{T:List Dir}{c0 c1 c2:Addr}{j k:Nat}(hi:i<T.length)(a6:k<T[i].path.length)(hj:j<T.length)(a7:k<T[j].path.length)(hl:hm.len=k)(hs:SlR dirE w S s T)(h0:BoxAt w c0 [s.v])(h1:BoxAt w c1 [hm.v])
  (h2:BoxAt w c2 [Value.func (.func 100) #[] #[Value.pointer (some c0),Value.pointer (some c1)]]) (hR:∀w',Gr w w'->R (Na T k i j) w'):SE.Mq (i:Int) (j:Int) c2 w R:=by
 unfold SE.Mq;refine bnd.gr λw1 x1=>⟨_,h2.at0 (r:=[]) x1.ext rfl,_,h2.at0 (r:=[]) x1.ext rfl,_,_,rfl,TE,SE.Jb.go (Uk hi a6 hl (hs.ext x1.ext) (h0.ext x1.ext) (h1.ext x1.ext) λw2 x2=>⟨x2.ext,_,rfl,_,_,rfl,TE,?_⟩)⟩;have a0:=x1.trans x2;refine SE.Jb.go (Uk hj a7 hl (hs.ext a0.ext) (h0.ext a0.ext) (h1.ext a0.ext) λw3 x3=>⟨_,rfl,EM ⟨_,rfl,SE.DO.go (cmpInt_se ⟨_,rfl,newS.gr λa4 w4 x4 a5=>?_⟩)⟩⟩);exact SE.Ew.go (Th (MZ (l:=[_,_]) a5 sI) ⟨_,rfl,hR _ (a0.trans (x3.trans x4))⟩)
def Xv(T:List Dir)(k i:Nat):Prop:=∃hi:i<T.length,k<T[i].path.length
abbrev ON(T:List Dir)(k:Nat):Type:={i:Nat//Xv T k i}
def Wr{P:Nat->Prop}:∀(l:List Nat),(∀i∈l,P i)->∃z:List {i:Nat//P i},z.map Subtype.val=l
 | [],_=>⟨[],rfl⟩
 |i::l,h=>by obtain⟨z,hz⟩:=Wr l λj hj=>h j (.tail _ hj);exact⟨⟨i,h i (.head _)⟩::z,by rw[ib,hz]⟩
def Zce{T:List Dir}{at':Nat}{R:Sl->Wp}(hS:Old S w)(hs:SlR dirE w S s T)(hi:at'<T.length)(hT:T.length<=1000000)
  (hR:∀t l w',Ext w w'->l.Perm (C3 T T[at'].path T.length)->FlatO E5 8 w' w.heap.size t (BT l)->R t w'):SE.Mp s (at':Int) w R:=by
 unfold SE.Mp;have f8:=hs.len;obtain⟨ad,hm,dd,ee,oo,ha,_,_,hp,_,_,_,hc⟩:=dirEl hs hi;have c6:=hp.len;have e5:T[at'].path.length*16<=Ab:=hp.2.2.2.1;unfold Ab at e5;have f7:T[at'].path.length<=hm.cap:=hp.2.1;generalize T[at'].path=a0 at*;refine newS.intro λa w1 x1 a5 e8 _=>bound ⟨s,λ_=>a5.ldc.pre (r:=[]) rfl,?_⟩;have e:(decide ((at':Int)<0)||decide ((s.len:Int)<=(at':Int)))=false:=by rw[decide_eq_false oM,decide_eq_false oM];rfl
 rw[e];refine⟨nO,λ_=>⟨s,a5.ldc.pre (r:=[]) rfl,ad,⟨ha,oM,oM⟩,hm,by rw[ec];exact(hc _ x1).pre rfl,newS.set rfl λa3 w3 x3 b2 e9=>⟨s,a5.at0 (r:=[]) x3 rfl,?_⟩⟩⟩;have a8:=x1.trans x3;refine loop2.up hs.max (λout i w'=>Ext w3 w'/\OwnS BZ 3 w' w3.heap.size None' out (BT (C3 T a0 i))) ⟨Ext.refl _,OwnS.zero _⟩ λout i w4 g0 f6 ⟨x4,o4⟩ hn=>⟨λe0=>join.named λJ hJ=>?_,λf5=>?_⟩
 .have b4:i<T.length:=oM;obtain⟨c9,ps,_,_,_,d1,_,_,c3,_,_,_,d6⟩:=dirEl hs b4;have f2:=c3.len;have f1:T[i].path.length<=ps.cap:=c3.2.1;have b0:∀a4 w',Ext w3 w'->OwnS BZ 3 w' w3.heap.size None' a4 (BT (C3 T a0 (i+1)))->J a4 w':=λa4 w' hx ho=>by rw[hJ];exact hn b4 a4 w' ⟨hx,ho⟩
  rw[Zcd,Ug b4]at b0;refine⟨s,a5.at0 (r:=[]) (x3.trans x4) rfl,c9,⟨d1,oM,e0⟩,ps,by rw[ec];exact(d6 _ (a8.trans x4)).pre rfl,bnd.drew λw5 x5=>⟨hm,b2.at0 (r:=[]) (x4.trans x5) rfl,bound ?_⟩⟩;have b7:=x4.trans x5;have c8:=a8.trans b7;have e1:((ps.len:Int)==Aa ((hm.len:Int)+1))=decide (T[i].path.length=a0.length+1):=by rw[Ag oM oM,gn,beq_iff_eq,decide_eq_true_iff];omega
  rw[e1];refine⟨hm,λ_=>b2.at0 (r:=[]) b7 rfl,λhg=>⟨oM,by have:=of_decide_eq_true hg;omega⟩,hm,λ_=>b2.at0 (r:=[]) b7 rfl,?_⟩;refine gCall.intro (decide (T[i].path.take a0.length=a0)) (λhg q hq=>?_) λe7 w6 x6 d0=>?_
  .have hg:=of_decide_eq_true hg;rw[ec,c6];have b8:=(c3.ext c8).cut (a:=0) (b:=a0.length) (gl _) oM;rw[jv]at b8;exact SE.Hq.go (PH b8 (hp.ext c8) λw6 x6=>⟨_,rfl,hq w6 x6⟩)
  have e2:(decide (T[i].path.length=a0.length+1)&&e7)=(decide (T[i].path.length=a0.length+1)&&decide (T[i].path.take a0.length=a0)):=by
   cases hd:decide (T[i].path.length=a0.length+1)with
   |false=>rfl
   |true=>rw[d0 hd]
  rw[e2];have a9:=b7.trans x6;refine⟨λhq=>newS.intro λa7 w7 x7 d5 _ _=>?_,λhq=>?_⟩
  .rw[if_pos hq]at b0;have c4:=Ul T a0 i;refine(o4.ext (x5.trans (x6.trans x7))).pushF (a9.trans x7) OT (x:=(i:Int)) ⟨rfl,trivial⟩ (d5.ldc.pre (r:=[]) rfl) dC (by rw[I4];show _*8<=Ab;unfold Ab;omega) λr w8 o8 x8=>b0 r w8 x8 ?_;unfold BT at o8 ⊢;rw[fq];exact o8
  .rw[if_neg (by rw[hq];decide)]at b0;exact b0 out w6 a9 (o4.ext (x5.trans x6))
 .have b4:i=T.length:=oM;subst b4;refine newS.set rfl λa6 w6 x6 d4 f0=>?_;have a9:=x4.trans x6;have b5:=a8.trans a9;have c4:=Ul T a0 T.length;have hF:FlatO E5 8 w6 w3.heap.size out (BT (C3 T a0 T.length)):=(FlatO.of (E:=BZ) (λx cs h=>h.1) o4 (by rw[I4];unfold Ab;omega)).ext x6;have c5:∀t l w',FlatO E5 8 w' w3.heap.size t l->FlatO E5 8 w' w.heap.size t l:=λt l w' h=>by obtain⟨h1,h2,h3,h4,h5⟩:=h;exact⟨h1,h2,h3,h4,h5.imp id λ⟨g,tl,a,b,c⟩=>⟨g,tl,a,ff a8.size b,c⟩⟩
  obtain⟨h1,h2,h3,h4,h5⟩:=hF;have b9:∀ad,out.a=some ad->ad.block<w4.heap.size:=λad d2=>(o4.block d2).2.1;obtain⟨oa,on,oc⟩:=out;simp only at h1 h2 h3 h5;subst h1;rcases h5 with h0|⟨g,tail,d7,hg,hr⟩
  .rw[h0];refine(AnyF.slices_SortFunc_none Tryz.laySnn oa oc _ w6).mono λe w' ⟨he,hw⟩=>⟨_,he,rfl,?_⟩;subst hw;have e3:C3 T a0 T.length=[]:=by have:=congrArg List.length h0;rw[I4]at this;exact fk this
   exact hR _ [] _ b5 (by rw[e3]) ⟨rfl,gl _,h3,by unfold Ab;simp[BT],.inl rfl⟩
  .subst d7;have d8:=b9 _ rfl;obtain⟨z,hz⟩:∃z:List (ON T a0.length),z.map Subtype.val=C3 T a0 T.length:=Wr _ λi hi=>Zb8 (ik.1 hi).2;by_cases c7:z=[]
   .subst c7;rw[<-hz];refine(AnyF.slices_SortFunc_none Tryz.laySnn _ oc _ w6).mono λe w' ⟨he,hw⟩=>⟨_,he,rfl,?_⟩;subst hw;exact hR _ [] _ b5 (by rw[<-hz];exact jg _) ⟨rfl,gl _,h3,by unfold Ab;simp[BT],.inl rfl⟩
   obtain⟨z0,f4⟩:=List.exists_mem_of_ne_nil z c7
   haveI:Inhabited (ON T a0.length):=⟨z0⟩
   have hO:=Ya T a0.length;have ez:BT (C3 T a0 T.length)=z.map λx=>((x.1:Nat):Int):=(by rw[<-hz];unfold BT;rw[iy];rfl);rw[ez]at hr h2 ⊢;rw[dx]at h2 ⊢;have f9:z.length<=1000000:=(by have:=congrArg List.length hz;rw[dx]at this;omega);refine Zix (α:=ON T a0.length) (λx=>((x.1:Nat):Int)) Tryz.laySn (λx y=>Na T a0.length x.1 y.1) (EN (λx y=>hO.flip _ _) (λx y z=>hO.trans _ _ _)) 102 #[Value.pointer (some a6)] ZL (λw0 x y hb _=>?_) hr oM rfl λl' w' b6 _ d3 e6=>?_
   .have d9:=SE.Mq.go (k:=λv w'=>v= .int .i64 (Na T a0.length x.1 y.1)/\Gr w0 w') (Zcc (c0:=a) (c1:=a3) (c2:=a6) (s:=s) (hm:=hm) (S:=S) (w:=w0) x.2.1 x.2.2 y.2.1 y.2.2 c6 ((hs.ext b5).but hb λh=>?_) (hb.box (a5.ext (x3.trans a9)) ?_) (hb.box (b2.ext a9) ?_) (hb.box d4 ?_) λw' h=>⟨rfl,h⟩)
    .exact Calls.mono d9 λe w' ⟨v,he,hv,hg⟩=>⟨by rw[he,hv],hg⟩
    .have:=hS _ h;have:=a8.size;omega
    .have:=a5.lt;have:=x3.size;omega
    .have:=b2.lt;omega
    .have:=x6.size;simp only at d8;omega
   .refine⟨rfl,hR _ (l'.map Subtype.val) w' (b5.trans' ((d3.below b5.size (ff a8.size hg)))) ?_ ?_⟩
    .rw[<-hz];exact b6.map _
    .have e4:BT (l'.map Subtype.val)=l'.map λx=>((x.1:Nat):Int):=(by unfold BT;rw[iy];rfl);rw[e4];refine c5 _ _ _ ⟨by rw[dx,b6.length_eq],by rw[dx,b6.length_eq];exact h2,h3,by rw[dx,b6.length_eq];unfold Ab;omega,.inr ⟨g,tail,rfl,hg,e6⟩⟩
end Go.Hal
namespace Go.Hal
def NF{ds:List Dr}{p:Aq}{x:Bs}{n i:Nat}(h:Ax ds (p.take n++[x])=some i):∀{k:Nat},n<=k->(∀m,n<m->m<=k->Ax ds (p.take m++[x])=none)->AF ds p x k=some i
 |0,hn,_=>by have:n=0:=oM;subst this;exact h
 |k+1,hn,hno=>by
  unfold AF;by_cases hk:n=k+1
  .subst hk;rw[h]
  .rw[hno (k+1) oM nR];exact NF h oM λm h1 h2=>hno m h1 oM
def PM{ds:List Dr}{d:Dr}{p:Aq}:Ax (ds++[d]) p=(Ax ds p).or (if d.path=p then some ds.length else none):=by
 unfold Ax;rw[List.findIdx?_append];congr 1;by_cases h:d.path=p
 .rw[if_pos h];simp[List.findIdx?_cons,h]
 .rw[if_neg h];simp[List.findIdx?_cons,h]
structure LInv(g:LN)(s:PlS):Prop where
 look:∀t∈s.done,AF s.dirs (Ad s.dirs t.src) t.label (Ad s.dirs t.src).length=some t.dst
 node:∀t∈s.done,∃e∈Aw g (nodeAt s.dirs t.src),e.name=t.label/\(nodeAt s.dirs t.dst:Int)=e.to
 led:∀i,i<s.dirs.length->i≠0->∃t∈s.done,t.dst=i/\t.src<i
def LInv.start:LInv g ⟨[⟨[],0⟩],[]⟩:=⟨(λt ht=>by cases ht),(λt ht=>by cases ht),λi h1 h2=>by simp at h1;omega⟩
def LInv.found{s:PlS}{to:Nat}{e:Edge}(h:LInv g s)(hl:AF s.dirs (Ad s.dirs a) e.name (Ad s.dirs a).length=some to)(he:e∈Aw g (nodeAt s.dirs a))(hn:(nodeAt s.dirs to:Int)=e.to):LInv g ⟨s.dirs,s.done++[⟨a,e.name,to⟩]⟩:=by
 refine⟨λt ht=>?_,λt ht=>?_,λi h1 h2=>?_⟩
 .obtain ht|ht:=fj.1 ht
  .exact h.look t ht
  .rw[eh]at ht;subst ht;exact hl
 .obtain ht|ht:=fj.1 ht
  .exact h.node t ht
  .rw[eh]at ht;subst ht;exact⟨e,he,rfl,hn⟩
 .obtain⟨t,h3,h4⟩:=h.led i h1 h2;exact⟨t,iv _ h3,h4⟩
def LInv.put{s:PlS}{d:Dr}{e:Edge}(h:LInv g s)(hI:PInv g s a)(hd:s.dirs[a]?=some d)(hs:Spot s d.path e.name n)(he:e∈Aw g d.node)(h0:0<=e.to):
  LInv g ⟨s.dirs++[⟨d.path.take n++[e.name],e.to.toNat⟩],s.done++[⟨a,e.name,s.dirs.length⟩]⟩:=by
 have ha:=(fe.1 hd).1;have a5:Ad (s.dirs++[⟨d.path.take n++[e.name],e.to.toNat⟩]) s.dirs.length=d.path.take n++[e.name]:=by unfold Ad;rw[gq nR,ox];rfl
 have a0:nodeAt (s.dirs++[⟨d.path.take n++[e.name],e.to.toNat⟩]) s.dirs.length=e.to.toNat:=by unfold nodeAt;rw[gq nR,ox];rfl
 refine⟨λt ht=>?_,λt ht=>?_,λi h1 h2=>?_⟩
 .obtain ht|ht:=fj.1 ht
  .obtain⟨_,h2,h3⟩:=hI.src t ht;dsimp only;rw[Vm h2];obtain⟨n0,h4,h5,h6⟩:=KG (h.look t ht);refine NF (JZ h5) h4 λm h7 h8=>?_;rw[PM,h6 m h7 h8,Option.none_or];rw[if_neg];intro hc;obtain⟨c1,c2⟩:=pm hc rfl;have c3:e.name=t.label:=by simpa using c2
   have a4:n=m:=(by have:=congrArg List.length c1;rw[fb,fb]at this;have:=hs.le;omega);have hk:=hs.keep t ht c3.symm (by rw[c1];exact List.take_prefix _ _);obtain⟨d5,e1,e2⟩:=DC h5;rw[Ck e1,e2]at hk;simp only[du,fb,gk]at hk;omega
  .rw[eh]at ht;subst ht;dsimp only;rw[Vm ha,Ck hd];refine NF (n:=n) ?_ hs.le λm h7 h8=>?_
   .rw[PM,hs.clear n nR hs.le,if_pos rfl];rfl
   .rw[PM,hs.clear m oM h8,Option.none_or,if_neg];intro hc;have:=congrArg List.length hc;simp only[du,fb,gk]at this;have:=hs.le;omega
 .obtain ht|ht:=fj.1 ht
  .obtain⟨_,h2,h3⟩:=hI.src t ht;dsimp only;rw[FU h2,FU h3];exact h.node t ht
  .rw[eh]at ht;subst ht;dsimp only;rw[FU ha,EA hd,a0];exact⟨e,he,rfl,oM⟩
 .rw[du,gk]at h1;by_cases hi:i=s.dirs.length
  .subst hi;exact⟨_,ka _ (eh.2 rfl),rfl,ha⟩
  .obtain⟨t,h3,h4⟩:=h.led i oM h2;exact⟨t,iv _ h3,h4⟩
def EdgeR.linv{I:PlI}{s t:PlS}{e:Edge}{c:Int}(hk:kind=1\/kind=2\/kind=3)(h:EdgeR I s a e kind c t)(hI:PInv I.g s a)(hL:LInv I.g s)(ha:a<s.dirs.length)(hx:CV s a e.name)(he:e∈Aw I.g (nodeAt s.dirs a))(h0:0<=e.to):
  LInv I.g t/\(c=0->∃u∈t.done,u.src=a/\u.label=e.name)/\∃l,t.done=s.done++l:=by
 have hd:s.dirs[a]?=some s.dirs[a]:=dt ha;cases h with
 |found to hr=>exact⟨hL.found hr.1 he hr.2.1,λ_=>⟨_,ka _ (eh.2 rfl),rfl,rfl⟩,_,rfl⟩
 |lost=>exact⟨hL,nO,[],by simp⟩
 |put n h1 h2 h3 h4=>
  have hs:Spot s (Ad s.dirs a) e.name n:=by
   obtain hk|hk|hk:=hk
   .exact absurd hk h2
   .exact(h3 hk).spot
   .rw[h4 hk,Ck hd];exact hI.spot hd hx
  rw[EA hd]at he;rw[Ck hd]at hs ⊢;exact⟨hL.put hI hd hs he h0,λ_=>⟨_,ka _ (eh.2 rfl),rfl,rfl⟩,_,rfl⟩
 |long=>exact⟨hL,nO,[],by simp⟩
 |deep=>exact⟨hL,nO,[],by simp⟩
structure GrPl(g:LN):Prop where
 pos:0<g.length
 rise:∀x∈g,RiseN Edge.name x.edges
 to:∀x∈g,∀e∈x.edges,0<=e.to/\e.to<(g.length:Int)
def GrPl.edge(h:GrPl g){k:Nat}{e:Edge}(he:e∈Aw g k):0<=e.to/\e.to<(g.length:Int):=by
 unfold Aw at he;split at he
 .rename_i x hx;exact h.to x (gp hx) e he
 .cases he
def GrPl.riseAt(h:GrPl g)(k:Nat):RiseN Edge.name (Aw g k):=by
 unfold Aw;split
 .rename_i x hx;exact h.rise x (gp hx)
 .exact List.Pairwise.nil
def GZ{k:Nat}{e:Edge}:e∈Cb g k↔e∈Aw g k:=by
 unfold Cb;simp only[fj,ik,beq_iff_eq];constructor
 .rintro(h|h|h)<;>exact h.1
 .intro h;obtain h1|h1|h1:=Dd g k e
  .exact .inl ⟨h,h1⟩
  .exact .inr (.inl ⟨h,h1⟩)
  .exact .inr (.inr ⟨h,h1⟩)
def KR(h:GrPl g)(k:Nat):((Cb g k).map Edge.name).Nodup:=by
 have hr:=h.riseAt k;have a0:∀a∈Aw g k,∀b∈Aw g k,a.name=b.name->a=b:=λa ha b hb he=>hr.inj ha hb he;have hn:(Aw g k).Nodup:=by rw[ia];exact hr.imp λh e=>by rw[e]at h;exact Ff h rfl
 have ho:(Cb g k).Nodup:=by
  unfold Cb;have f:∀n:Nat,((Aw g k).filter λe=>A4 g k e==n).Nodup:=λn=>hn.sublist List.filter_sublist;refine jb.2 ⟨f 1,jb.2 ⟨f 2,f 3,λa ha b hb e=>?_⟩,λa ha b hb e=>?_⟩
  .subst e;have h1:=(ik.1 ha).2;have h2:=(ik.1 hb).2;rw[beq_iff_eq]at h1 h2;omega
  .subst e;have h1:=(ik.1 ha).2;rw[beq_iff_eq]at h1;rcases fj.1 hb with hb|hb<;>(have h2:=(ik.1 hb).2;rw[beq_iff_eq]at h2;omega)
 rw[ia,ir];rw[ia]at ho;exact List.Pairwise.imp_of_mem (λ{a b} ha hb h e=>h (a0 a (GZ.1 ha) b (GZ.1 hb) e)) ho
def EdgesR.inv{I:PlI}{k:Nat}(hg:GrPl I.g){s t:PlS}{c:Int}(h:EdgesR I a k s es c t):PInv I.g s a->LInv I.g s->a<s.dirs.length->nodeAt s.dirs a=k->(∀e∈es,e∈Aw I.g k/\CV s a e.name)->(es.map Edge.name).Nodup->
  PInv I.g t a/\LInv I.g t/\(∃l,t.dirs=s.dirs++l)/\(∃l,t.done=s.done++l)/\(c=0->∀e∈es,∃u∈t.done,u.src=a/\u.label=e.name):=by
 induction h with
 |nil s=>intro h1 h2 _ _ _ _;exact⟨h1,h2,⟨[],by simp⟩,⟨[],by simp⟩,λ_ e he=>by cases he⟩
 | @cons s t u e es c k1 k2 ih=>
  intro h1 h2 ha hk a4 a6;obtain⟨he,hx⟩:=a4 e (.head _);have a5:=hg.edge he;obtain⟨a1,a2⟩:=k1.inv (Dd _ _ _) h1 ha hx a5;obtain⟨b1,b2,lb,b3⟩:=k1.linv (Dd _ _ _) h1 h2 ha hx (by rw[hk];exact he) a5.1;obtain⟨ld,a7⟩:=a2.dirs;rw[ib,nj]at a6;have a8:a<t.dirs.length:=by rw[a7,du];omega
  obtain⟨c1,c2,⟨l1,c3⟩,⟨l2,c4⟩,c5⟩:=ih a1 b1 a8 (by rw[a7,FU ha];exact hk) (λe' a0=>⟨(a4 e' (.tail _ a0)).1,a2.new _ (λhn=>a6.1 (hn▸im a0)) (a4 e' (.tail _ a0)).2⟩) a6.2;refine⟨c1,c2,⟨ld++l1,by rw[c3,a7,fh]⟩,⟨lb++l2,by rw[c4,b3,fh]⟩,λhc e' a0=>?_⟩;obtain rfl|a0:=ga.1 a0
  .obtain⟨u',d1,d2⟩:=b2 rfl;exact⟨u',by rw[c4];exact iv _ d1,d2⟩
  .exact c5 hc e' a0
 | @stop s t e es c k1 k2=>intro h1 h2 ha hk a4 a6;obtain⟨he,hx⟩:=a4 e (.head _);have a5:=hg.edge he;obtain⟨a1,a2⟩:=k1.inv (Dd _ _ _) h1 ha hx a5;obtain⟨b1,b2,lb,b3⟩:=k1.linv (Dd _ _ _) h1 h2 ha hx (by rw[hk];exact he) a5.1;exact⟨a1,b1,a2.dirs,⟨lb,b3⟩,λhc=>absurd hc k2⟩
def RM(g:LN)(s:PlS)(a:Nat):Prop:=∀i,i<a->i<s.dirs.length->∀e∈Aw g (nodeAt s.dirs i),∃u∈s.done,u.src=i/\u.label=e.name
def DirsR.inv{I:PlI}(hg:GrPl I.g){s t:PlS}{c:Int}(h:DirsR I a s c t):PInv I.g s a->LInv I.g s->(∀u∈s.done,u.src<a)->RM I.g s a->c=0->∃n,PInv I.g t n/\LInv I.g t/\RM I.g t t.dirs.length:=by
 induction h with
 | @fin a s h1=>intro hI hL _ hA _;exact⟨a,hI,hL,λi h2 h3=>hA i oM h3⟩
 | @next a s t u c h1 h2 h3 ih=>
  intro hI hL hS hA hc;obtain⟨a1,a2,⟨l1,a3⟩,⟨l2,a4⟩,a5⟩:=h2.inv hg hI hL h1 rfl (λe he=>⟨GZ.1 he,λv hv hs=>by have:=hS v hv;omega⟩) (KR hg _);refine ih a1.next a2 (λv hv=>by have:=(a1.src v hv).1;omega) (λi hi hl e he=>?_) hc;obtain a0|a0:=qg i a
  .rw[a3,FU oM]at he;obtain⟨v,b1,b2⟩:=hA i a0 oM e he;exact⟨v,by rw[a4];exact iv _ b1,b2⟩
  .have:i=a:=oM;subst this;rw[a3,FU h1]at he;exact a5 rfl e (GZ.2 he)
 |stop h1 h2 h3=>intro _ _ _ _ hc;exact absurd hc h3
structure Placed(g:LN)(ds:List Dr):Prop where
 root:ds[0]?=some ⟨[],0⟩
 one:∀(i j:Nat)(d e:Dr),ds[i]?=some d->ds[j]?=some e->d.path=e.path->i=j
 up:∀(i:Nat)(d:Dr)(p:Aq)(x:Bs),ds[i]?=some d->d.path=p++[x]->∃h,h<i/\Ax ds p=some h
 node:∀d∈ds,d.node<g.length
 look:∀i,i<ds.length->∀e∈Aw g (nodeAt ds i),∃j,AF ds (Ad ds i) e.name (Ad ds i).length=some j/\(nodeAt ds j:Int)=e.to
 led:∀i,i<ds.length->i≠0->∃j,j<i/\∃e∈Aw g (nodeAt ds j),AF ds (Ad ds j) e.name (Ad ds j).length=some i/\(nodeAt ds i:Int)=e.to
def DirsR.placed{I:PlI}(hg:GrPl I.g){t:PlS}(h:DirsR I 0 ⟨[⟨[],0⟩],[]⟩ 0 t):Placed I.g t.dirs:=by
 obtain⟨n,hI,hL,hA⟩:=h.inv hg (PInv.start hg.pos) LInv.start (λu hu=>by cases hu) (λi hi=>by omega) rfl;refine⟨hI.root,hI.one,hI.up,hI.node,λi hi e he=>?_,λi hi h0=>?_⟩
 .obtain⟨u,h1,h2,h3⟩:=hA i hi hi e he;obtain⟨e',h4,h5,h6⟩:=hL.node u h1;have h7:=hL.look u h1;rw[h2]at h4 h7;rw[h3]at h7 h5;have:=(hg.riseAt _).inj h4 he h5;subst this;exact⟨u.dst,h7,h6⟩
 .obtain⟨u,h1,h2,h3⟩:=hL.led i hi h0;obtain⟨e',h4,h5,h6⟩:=hL.node u h1;have h7:=hL.look u h1;rw[<-h5,h2]at h7;rw[h2]at h6;exact⟨u.src,h3,e',h4,h7,h6⟩
structure Only(g:LN)(n:Nat)(x:Bs):Prop where
 ctx:BA g n=[]
 to:∀k,∀e∈Aw g k,(e.name=x↔e.to=(n:Int))
structure OnlyI(s:PlS)(n:Nat)(x:Bs):Prop where
 last:∀d∈s.dirs,∀p,d.path=p++[x]->p=[]/\d.node=n
 node:∀d∈s.dirs,d.node=n->d.path= [x]
def OnlyI.start{x:Bs}(h0:n≠0):OnlyI ⟨[⟨[],0⟩],[]⟩ n x:=by
 refine⟨λd hd p hp=>?_,λd hd hn=>?_⟩
 .rw[eh]at hd;subst hd;simp at hp
 .rw[eh]at hd;subst hd;exact absurd hn.symm h0
def EdgeR.only{I:PlI}(hn:∀p k,I.like p k=false){k:Nat}{x:Bs}(hO:Only I.g n x){s t:PlS}{e:Edge}{c:Int}(h:EdgeR I s a e (A4 I.g k e) c t)(he:e∈Aw I.g k)(h0:0<=e.to)
  (hL:LInv I.g s) (hI:OnlyI s n x):OnlyI t n x:=by
 cases h with
 |found=>exact⟨hI.last,hI.node⟩
 |lost=>exact hI
 |long=>exact hI
 |deep=>exact hI
 |put m h1 h2 h3 h4=>
  by_cases hx:e.name=x
  .have a4:=(hO.to k e he).1 hx;have a8:A4 I.g k e=2:=by
    obtain h|h|h:=Dd I.g k e
    .exact absurd h h2
    .exact h
    .unfold A4 at h;split at h
     .cases h
     .rw[a4,ec,hO.ctx]at h;simp at h
   have a6:∀d∈s.dirs,∀p,d.path≠p++[x]:=λd hd p hp=>by
    obtain⟨rfl,a0⟩:=hI.last d hd p hp;obtain⟨i,hi⟩:=TS ⟨d,hd,rfl⟩;obtain⟨d',e1,e2⟩:=DC hi;have b0:=hI.last d' (gp e1) [] (e2.trans hp);have a5:∀m,0<m->m<=(Ad s.dirs a).length->Ax s.dirs ((Ad s.dirs a).take m++[x])=none:=λm hm a9=>Nv.2 λd2 h2 b2=>by have:=(hI.last d2 h2 _ b2).1;have:=congrArg List.length this;rw[fb,gz]at this;omega
    refine h1 i ⟨NF (n:=0) ?_ (gl _) λm hm a9=>?_,?_,λh=>by rw[a8]at h;cases h⟩
    .rw[hx];rw[hp]at hi;exact hi
    .rw[hx];exact a5 m hm a9
    .rw[EA e1,b0.2,a4]
   have a7:Spot s (Ad s.dirs a) e.name 0:=by refine⟨gl _,λj _ _=>Nv.2 λd hd hp=>a6 d hd _ (by rw[hp,hx]),λu hu hl _=>?_⟩;obtain⟨n0,_,h5,_⟩:=KG (hL.look u hu);obtain⟨d,h6,h7⟩:=DC h5;exact absurd h7 (by rw[hl,hx];exact a6 d (gp h6) _)
   have hm:m=0:=by have:=(h3 a8).near 0 a7 (by rw[hn,hn]);omega
   subst hm;refine⟨λd hd p hp=>?_,λd hd a0=>?_⟩
   .obtain hd|hd:=fj.1 hd
    .exact absurd hp (a6 d hd p)
    .rw[eh]at hd;subst hd;obtain⟨q1,q2⟩:=pm hp rfl;exact⟨by rw[<-q1];rfl,by show e.to.toNat=n;omega⟩
   .obtain hd|hd:=fj.1 hd
    .exact hI.node d hd a0
    .rw[eh]at hd;subst hd;show List.take 0 _++[e.name]= [x];rw[hx];rfl
  .have a4:e.to≠(n:Int):=λh=>hx ((hO.to k e he).2 h);refine⟨λd hd p hp=>?_,λd hd a0=>?_⟩
   .obtain hd|hd:=fj.1 hd
    .exact hI.last d hd p hp
    .rw[eh]at hd;subst hd;obtain⟨_,q2⟩:=pm hp rfl;exact absurd (by simpa using q2) hx
   .obtain hd|hd:=fj.1 hd
    .exact hI.node d hd a0
    .rw[eh]at hd;subst hd;exact absurd (show e.to=(n:Int) by have:e.to.toNat=n:=a0;omega) a4
def EdgesR.only{I:PlI}(hg:GrPl I.g)(hn:∀p k,I.like p k=false){x:Bs}(hO:Only I.g n x){k:Nat}{s t:PlS}{c:Int}(h:EdgesR I a k s es c t):PInv I.g s a->LInv I.g s->a<s.dirs.length->nodeAt s.dirs a=k->(∀e∈es,e∈Aw I.g k/\CV s a e.name)->(es.map Edge.name).Nodup->OnlyI s n x->OnlyI t n x:=by
 induction h with
 |nil s=>intro _ _ _ _ _ _ h;exact h
 | @cons s t u e es c k1 k2 ih=>
  intro h1 h2 ha hk a0 a4 hI;obtain⟨he,hx⟩:=a0 e (.head _);have a6:=hg.edge he;obtain⟨a1,a2⟩:=k1.inv (Dd _ _ _) h1 ha hx a6;obtain⟨b1,b2,lb,b3⟩:=k1.linv (Dd _ _ _) h1 h2 ha hx (by rw[hk];exact he) a6.1;obtain⟨ld,a7⟩:=a2.dirs;rw[ib,nj]at a4;have a8:a<t.dirs.length:=by rw[a7,du];omega
  exact ih a1 b1 a8 (by rw[a7,FU ha];exact hk) (λe' a5=>⟨(a0 e' (.tail _ a5)).1,a2.new _ (λhn=>a4.1 (hn▸im a5)) (a0 e' (.tail _ a5)).2⟩) a4.2 (k1.only hn hO he a6.1 h2 hI)
 | @stop s t e es c k1 k2=>intro h1 h2 ha hk a0 a4 hI;obtain⟨he,_⟩:=a0 e (.head _);exact k1.only hn hO he (hg.edge he).1 h2 hI
def DirsR.only{I:PlI}(hg:GrPl I.g)(hn:∀p k,I.like p k=false){x:Bs}(hO:Only I.g n x){s t:PlS}{c:Int}(h:DirsR I a s c t):PInv I.g s a->LInv I.g s->(∀u∈s.done,u.src<a)->OnlyI s n x->OnlyI t n x:=by
 induction h with
 |fin h1=>intro _ _ _ h;exact h
 | @next a s t u c h1 h2 h3 ih=>intro hI hL hS hq;have a0:∀e∈Cb I.g (nodeAt s.dirs a),e∈Aw I.g (nodeAt s.dirs a)/\CV s a e.name:=λe he=>⟨GZ.1 he,λv hv hs=>by have:=hS v hv;omega⟩;obtain⟨a1,a2,_⟩:=h2.inv hg hI hL h1 rfl a0 (KR hg _);exact ih a1.next a2 (λv hv=>by have:=(a1.src v hv).1;omega) (h2.only hg hn hO hI hL h1 rfl a0 (KR hg _) hq)
 | @stop a s t c h1 h2 h3=>intro hI hL hS hq;exact h2.only hg hn hO hI hL h1 rfl (λe he=>⟨GZ.1 he,λv hv hs=>by have:=hS v hv;omega⟩) (KR hg _) hq
structure NodeLk(many:Nat)(x:Node):Prop where
 ctx:RiseN Pin.name x.ctx
 pin:∀p∈x.ctx,Af p.name=true/\p.v.may=true
 ctxN:x.ctx.length<=128
 edges:RiseN Edge.name x.edges
 edge:∀e∈x.edges,Af e.name=true/\1<=e.to/\e.to<(many:Int)
 edgesN:x.edges.length<=128
structure LockOk(g:LN):Prop where
 len:1<=g.length/\g.length<=128
 root:∃x,g[0]?=some x/\x.key=rootNode.key
 name:∀i x,g[i]?=some x->i≠0->Af x.name=true/\x.v.may=true
 node:∀x∈g,NodeLk g.length x
def tLock:LU:=[108,111,99,107,10]
def Zjz:LU:=[114,111,111,116,10]
def Ou:LU:=[110,111,100,101,32]
def Wv:LU:=[119,105,116,104,32]
def Wu:LU:=[116,111,32]
def Fz(p:Pin):LU:=((((Wv++p.name.toList)++[32])++AB p.v)++[10])
def FK(e:Edge):LU:=((((Wu++e.name.toList)++[32])++dec e.to)++[10])
def DS(i:Nat)(x:Node):LU:=if i=0 then Zjz else((((Ou++x.name.toList)++[32])++AB x.v)++[10])
def Ha(i:Nat)(x:Node):LU:=(DS i x++x.ctx.flatMap Fz)++x.edges.flatMap FK
def CN:Nat->LN->LU
 |_,[]=>[]
 |i,x::r=>Ha i x++CN (i+1) r
def Iy(g:LN):LU:=tLock++CN 0 g
def U4(x:Node):∀(l:LN)(i:Nat),CN i (l++[x])=CN i l++Ha (i+l.length) x
 | [],i=>by simp[CN]
 |y::l,i=>by rw[gv,CN,CN,U4 x l (i+1),fh,fm];congr 3;omega
def Zdq(h:i<g.length):tLock++CN 0 (g.take (i+1))=(tLock++CN 0 (g.take i))++Ha i g[i]:=by rw[dw h,U4,fh,fb];congr 3;omega
def TX{α:Type}{f:α->LU}{l:List α}(h:i<l.length):(l.take (i+1)).flatMap f=(l.take i).flatMap f++f l[i]:=by rw[dw h,qc];simp
structure NodePl(g:LN)(ps:List Pack)(i:Nat)(x:Node):Prop where
 pack:i≠0->∃p,ps[i]?=some p/\AM p=true/\p.name=x.name/\p.v=x.v
 ctx:RiseN Pin.name x.ctx
 edges:RiseN Edge.name x.edges
 edge:∀e∈x.edges,∃(j:Nat) (y:Node),e.to=(j:Int)/\1<=j/\g[j]?=some y/\y.name=e.name
 full:∀q∈x.ctx,∃y,HW g x q.name=some y/\y.v=q.v
structure PlaceOk(g:LN)(ps:List Pack):Prop where
 len:1<=g.length/\g.length<=128
 packs:ps.length=g.length
 root:∃x,g[0]?=some x/\x.key=rootNode.key
 zero:ps[0]?=some ⟨⟨#[]⟩,⟨0,0,0⟩,[],[],[]⟩
 node:∀i x,g[i]?=some x->NodePl g ps i x
def Zft{p:Pack}(h:AM p=true):Af p.name=true:=by
 unfold AM C4 at h;simp only[dz]at h
 first|exact h.1.1|exact h.1.1.1|exact h.1.1.1.1|exact h.1.1.1.1.1
def PlaceOk.name(h:PlaceOk g ps){x:Node}(hx:g[i]?=some x){e:Edge}(he:e∈x.edges):Af e.name=true:=by obtain⟨j,y,h1,h2,h3,h4⟩:=(h.node i x hx).edge e he;obtain⟨p,_,h5,h6,_⟩:=(h.node j y h3).pack oM;rw[<-h4,<-h6];exact Zft h5
def Zfb{ds:List Dr}(h:∀(i j:Nat)(d e:Dr),ds[i]?=some d->ds[j]?=some e->d.path=e.path->i=j){a b:Dr}(ha:a∈ds)(hb:b∈ds)(hp:a.path=b.path):a=b:=by obtain⟨i,hi⟩:=jf ha;obtain⟨j,hj⟩:=jf hb;have:=h i j a b hi hj hp;subst this;rw[hi]at hj;exact ji hj
def AX(ps:List Pack)(d:Dr):Dir:=⟨d.path,ps.getD d.node Az,d.node⟩
def T3(ps:List Pack)(d:Dr):AD (AX ps d)=d:=by unfold AD AX;simp
def NJ{ds:List Dr}:(ds.map (AX ps)).map AD=ds:=by
 rw[iy]
 conv=>rhs;rw[<-List.map_id ds]
 exact mw λd _=>T3 ps d
def DK(I:PlI)(s:PlS):Prop:=(∀d∈s.dirs,d.path=[]\/(I.tlen d.path:Int)<=I.maxP)/\(s.dirs.length:Int)<=I.maxD+1
def EdgeR.small{I:PlI}{s t:PlS}{e:Edge}{c:Int}(h:EdgeR I s a e kind c t)(hs:DK I s):DK I t:=by
 cases h with
 |found=>exact hs
 |lost=>exact hs
 |long=>exact hs
 |deep=>exact hs
 |put n h1 h2 h3 h4 h5 h6=>
  refine⟨λd hd=>?_,?_⟩
  .obtain hd|hd:=fj.1 hd
   .exact hs.1 d hd
   .rw[eh]at hd;subst hd;exact .inr h5
  .rw[du,gk];omega
def EdgesR.small{I:PlI}{s t:PlS}{k:Nat}{c:Int}(h:EdgesR I a k s es c t):DK I s->DK I t:=by
 induction h with
 |nil=>exact λh=>h
 |cons k1 k2 ih=>exact λh=>ih (k1.small h)
 |stop k1 k2=>exact λh=>k1.small h
def DirsR.small{I:PlI}{s t:PlS}{c:Int}(h:DirsR I a s c t):DK I s->DK I t:=by
 induction h with
 |fin=>exact λh=>h
 |next k1 k2 k3 ih=>exact λh=>ih (k2.small h)
 |stop k1 k2 k3=>exact λh=>k2.small h
def UQ{p q:Aq}:Bh (p++q)=true↔Bh p=true/\Bh q=true:=by unfold Bh;rw[px,dz]
def Zez{p:Aq}(h:Bh p=true)(n:Nat):Bh (p.take n)=true:=by have:=h;rw[<-fo n p,UQ]at this;exact this.1
def Placed.last{ds:List Dr}(h:Placed g ds)(hG:PlaceOk g ps){d:Dr}(hd:ds[i]?=some d)(h0:i≠0):
  ∃(j n:Nat) (b:Dr) (e:Edge) (k:Nat) (y:Node) (p:Pack),j<i/\ds[j]?=some b/\d.path=b.path.take n++[e.name]/\Af e.name=true/\d.node=k/\1<=k/\g[k]?=some y/\y.name=e.name/\ps[k]?=some p/\AM p=true/\p.name=e.name:=by
 have hi:=(fe.1 hd).1;obtain⟨j,hj,e,h1,h2,h3⟩:=h.led i hi h0;have a5:j<ds.length:=oM;have a0:ds[j]?=some ds[j]:=dt a5;rw[EA a0]at h1;rw[EA hd]at h3;obtain⟨n,_,h4,_⟩:=KG h2;obtain⟨d',h5,h6⟩:=DC h4;rw[hd]at h5;cases h5;rw[Ck a0]at h6;unfold Aw at h1;split at h1
 .rename_i x hx;obtain⟨k,y,a1,a2,a3,a4⟩:=(hG.node _ x hx).edge e h1;obtain⟨p,b1,b2,b3,_⟩:=(hG.node k y a3).pack oM;exact⟨j,n,_,e,k,y,p,hj,a0,h6,hG.name hx h1,oM,a2,a3,a4,b1,b2,b3.trans a4⟩
 .cases h1
def Placed.names{ds:List Dr}(h:Placed g ds)(hG:PlaceOk g ps):∀(i:Nat)(d:Dr),ds[i]?=some d->Bh d.path=true:=λi=>by
 induction i using Nat.strongRecOn with
 |ind i ih=>
  intro d hd;by_cases h0:i=0
  .subst h0;rw[h.root]at hd;cases hd;rfl
  .obtain⟨j,n,b,e,_,_,_,h1,h2,h3,h4,_⟩:=h.last hG hd h0;rw[h3,UQ];exact⟨Zez (ih j h1 b h2) n,by unfold Bh;simp[h4]⟩
def Placed.dirsOk{ds:List Dr}(h:Placed g ds)(hG:PlaceOk g ps):DirsOk ds:=
 ⟨λd hd=>by obtain⟨i,hi⟩:=jf hd;exact h.names hG i d hi,h.one⟩
def Zcb:(prog.info? 9).map (λi=>(i.zero,i.size,i.bytes))=some (some (.string ⟨#[]⟩),1,16):=kR
def Zd6{R:Sl->Wp}(hn:n<=9000000000000)(hR:∀t w',Ext w w'->OwnS strE 9 w' w.heap.size None' t []->R t w'):
  semS prog (Instr.makeSlice 57 (Value.int .i64 0) (Value.int .i64 (n:Int))) w λv w'=>∃t:Sl,v=t.v/\R t w':=by
 obtain⟨i,h2,hi⟩:=jh.1 Zcb;simp only[Prod.mk.injEq]at hi;obtain⟨h3,h5,h6⟩:=hi;refine⟨_,_,run_make w 57 9 i (.string ⟨#[]⟩) underlying57 h2 h3 .i64 .i64 0 n (mo _) oM (by rw[h6];omega) oM,⟨some ⟨w.heap.size,0,none⟩,0,n⟩,by simp[Sl.v],hR _ _ (Ext.alloc _ _) ?_⟩;refine⟨⟨[],⟨by simp,.inr ⟨w.heap.size,n,_,rfl,fl _,heap_alloc_new w _,gl _,by rw[Ak];omega,?_,by simp⟩⟩,rfl,λi x h=>by simp at h⟩,rfl,λ_ h=>h.elim,λ_ _ h=>h.elim⟩;rw[h5];simp[madeCells,strE,DE]
def Zc0{t0:Sl}{p:Aq}{x:Bs}{R:Sl->Wp}(o:OwnS strE 9 w w0.heap.size None' t0 [])(x0:Ext w0 w)(hS:Old S w0)(hs:SlR strE w0 S s p)(hx:Ac x)(hb:p.length<=4000000000000)
  (hR:∀t w',Ext w0 w'->OwnS strE 9 w' w0.heap.size None' t (p++[x])->R t w'):
  appS prog 57 57 t0 s.v w λa7 a8=>newS a8 [(Value.string x)] 9 λa a9=>appS prog 57 57 a7 (Sl.v (Sl.mk (some a) 1 1)) a9 R:=by
 have a4:strE.bytes=16:=rfl;have fresh:∀ad,t0.a=some ad-> ¬S ad.block:=λad h a5=>by have:=(o.block h).1;have:=hS _ a5;omega
 refine o.appAll G6 x0.size (hs.ext x0) (hS.ext x0.size) fresh (by rw[a4];simp;unfold Ab;omega) (by rw[Ak];simp;omega) λr1 w1 o1 a0 _ _=>?_;rw[ig]at o1;have x1:Ext w0 w1:=x0.trans' a0;refine newS.intro λa w2 x2 a6 _ _=>?_;exact((OwnS.flat (λh=>h) o1).ext x2).pushF (x1.trans x2) G6 (x:=x) ⟨rfl,hx⟩ (a6.ldc.pre (r:=[]) rfl) dC (by rw[a4];unfold Ab;omega) λr w3 o3 x3=>hR r w3 x3 o3
def Zlj{p:Aq}{x:Bs}{R:Sl->Wp}(hS:Old S w)(hs:SlR strE w S s p)(hx:Ac x)(hb:p.length<=4000000000000)(hR:∀t w',Ext w w'->OwnS strE 9 w' w.heap.size None' t (p++[x])->R t w'):SE.M3 s x w R:=by
 unfold SE.M3;have hl:=hs.len;have e:Aa ((s.len:Int)+1)=((p.length+1:Nat):Int):=by rw[Ag oM oM];omega
 rw[e];exact Zd6 oM λt w1 x1 o1=>Zc0 o1 x1 hS hs hx hb hR
def OwnS.strs{T:TypeId}{l:List Bs}(h:OwnS strE T w lo None' s l)(hl:l.length<=5000000000000):SlR strE w (λb=>lo<=b) s l:=h.readF dC (by show l.length*16<=Ab;unfold Ab;omega)
def FQ(T:List Dir)(i:Nat)(x:Bs):Int:=match E6 T i x with
 |some j=>(j:Int)
 |none=>-1
def Ca(o:Option Nat):Int:=match o with
 |some j=>(j:Int)
 |none=>-1
def KQ{o:Option Nat}:0<=Ca o↔∃j,o=some j:=by
 cases o with
 |none=>exact⟨λh=>by have h:(0:Int)<= -1:=h;omega,λ⟨j,h⟩=>by cases h⟩
 |some j=>exact⟨λ_=>⟨j,rfl⟩,λ_=>by show(0:Int)<=(j:Int);omega⟩
def Ka(T:List Dir)(p:Aq):Cr T p=Ca (Ax (T.map AD) p):=rfl
def Zfz{T:List Dir}(h:i<T.length):Ad (T.map AD) i=T[i].path:=by unfold Ad;rw[gb,dt h];rfl
def Zds{ds:List Dr}{p:Aq}{x:Bs}{k:Nat}(h:Ax ds (p.take k++[x])=some i):AF ds p x k=some i:=by
 cases k with
 |zero=>rw[AF];exact h
 |succ k=>rw[AF,h]
def Zdt{ds:List Dr}{p:Aq}{x:Bs}{k:Nat}(h:Ax ds (p.take (k+1)++[x])=none):AF ds p x (k+1)=AF ds p x k:=by rw[AF,h]
def Zdr{ds:List Dr}{p:Aq}{x:Bs}(h:Ax ds (p.take 0++[x])=none):AF ds p x 0=none:=by rw[AF];exact h
def Zdw{ps:Sl}{T:List Dir}{p:Aq}{x:Bs}{a:Addr}{jn fd:Nat}(hS:Old S w0)(hs:SlR dirE w0 S s T)(hp:SlR strE w0 S ps p)(hx:Ac x)(hb:p.length<=4000000000000)(x0:Ext w0 w)(ha:BoxAt w a [s.v])
  (hj:∀{t:Sl} {q:Aq} {w':Wd} {k:Value->Wp},Ext w0 w'->SlR strE w' S t q->q.length<=4000000000000->(∀r a4,Ext w' a4->OwnS strE 9 a4 w'.heap.size None' r (q++[x])->k (Sl.v r) a4)->callS prog jn [t.v,.string x] w' k)
  (hf:∀{t:Sl} {q:Aq} {Q:Nat->Prop} {w':Wd} {k:Value->Wp},Ext w0 w'->SlR strE w' Q t q->(∀a4,Ext w' a4->k (.int .i64 (Cr T q)) a4)->callS prog fd [.agg #[s.v],t.v] w' k)
  (hR:∀w',Ext w0 w'->R (Ca (AF (T.map AD) p x p.length)) w'):
  loop1 (ps.len:Int) w λvk b4 b0=>((0<=vk->bnd b4.drew λ(b5:Wd)=>∃(a0:Sl),(ldc b5 a [a0.v])/\((0:Int)<=vk/\vk<=(ps.cap:Int))/\callX prog jn [(Sl.v (Sl.cut ps 0 vk.toNat 1)),(Value.string x)] b5 λb8 c3=>∃(b2:Sl),b8=b2.v/\callS prog fd [(Value.agg #[a0.v]),b2.v] c3 λb9 a9=>∃(a6:Int),b9=(Value.int .i64 a6)/\((0<=a6->R a6 a9)/\(¬(0<=a6)->b0 (Aa (vk - 1)) a9)))/\(¬(0<=vk)->R (-1) b4)):=by
 have c7:=hp.len;have c4:p.length<=ps.cap:=hp.2.1;refine loop1.ghost (λm i w'=>i=(m:Int) - 1/\m<=p.length+1/\Ext w w'/\(match m with
  |0=>AF (T.map AD) p x p.length=none
  |k+1=>AF (T.map AD) p x p.length=AF (T.map AD) p x k)) (p.length+1) ⟨oM,fl _,Ext.refl _,rfl⟩ λm i w5 b0 ⟨hi,hm,x5,hI⟩ hn=>⟨λc5=>bnd.drew λw6 x6=>?_,λc6=>?_⟩
 .obtain⟨k,rfl⟩:∃k,m=k+1:=⟨m - 1,oM⟩;have b6:i=(k:Int):=oM;subst b6;have a7:=x0.trans (x5.trans x6);have hI:AF (T.map AD) p x p.length=AF (T.map AD) p x k:=hI;refine⟨s,(ha.ext (x5.trans x6)).ldc.pre (r:=[]) rfl,⟨oM,oM⟩,?_⟩;rw[ec];have a8:=(hp.ext a7).cut (a:=0) (b:=k) (gl _) oM;rw[jv]at a8;refine callX.intro (hj a7 a8 (by rw[fb];omega) λr w7 x7 o7=>⟨x7,r,rfl,hf (a7.trans x7) (o7.strs (by rw[du,fb,gk];omega)) λw8 x8=>⟨_,rfl,λhq=>?_,λhq=>?_⟩⟩)
  .rw[Ka]at hq ⊢;obtain⟨j,hj⟩:=KQ.1 hq;have h:=hR w8 (a7.trans (x7.trans x8));rw[hI,Zds hj]at h;rw[hj];exact h
  .have a5:Ax (T.map AD) (p.take k++[x])=none:=by
    rw[Ka]at hq;cases hd:Ax (T.map AD) (p.take k++[x])with
    |none=>rfl
    |some j=>exact absurd (KQ.2 ⟨j,hd⟩) hq
   refine hn k _ w8 oM ⟨?_,oM,x5.trans (x6.trans (x7.trans x8)),?_⟩
   .rw[Ag oM oM]
   .cases k with
    |zero=>exact hI.trans (Zdr a5)
    |succ k=>exact hI.trans (Zdt a5)
 .have b7:m=0:=oM;subst b7;have hI:AF (T.map AD) p x p.length=none:=hI;have h:=hR w5 (x0.trans x5);rw[hI]at h;exact h
def U7{T:List Dir}{x:Bs}(h:i<T.length):FQ T i x=if Af x then Ca (AF (T.map AD) T[i].path x T[i].path.length)else -1:=by unfold FQ E6;rw[Zfz h];cases Af x<;>rfl
def NG{T:List Dir}{x:Bs}(hS:Old S w)(hs:SlR dirE w S s T)(hi:i<T.length)(hx:Ac x)(hb:∀d∈T,d.path.length<=4000000000000)(hR:∀w',Ext w w'->R (FQ T i x) w'):SE.Gm s (i:Int) x w R:=by
 unfold SE.Gm;have a7:=hs.len;rw[U7 hi]at hR;obtain⟨ad,ps,dd,ee,oo,ha,_,_,hp,_,_,_,hc⟩:=dirEl hs hi;have hb:=hb _ (fg hi);refine newS.intro λa w1 x1 a4 _ _=>bound ⟨s,λ_=>a4.ldc.pre (r:=[]) rfl,bound ?_⟩;have e:(decide ((i:Int)<0)||decide ((s.len:Int)<=(i:Int)))=false:=by rw[decide_eq_false oM,decide_eq_false oM];rfl
 rw[e];refine gCall.intro (Af x) (λ_ q hq=>SE.C8.go (scanName_se hx λw2 x2=>⟨_,rfl,hq w2 x2⟩)) λt21 w2 x2 ht=>?_;have ht:=ht rfl;subst ht;have a6:=x1.trans x2;refine⟨λhq=>?_,λhq=>?_⟩
 .have hn:Af x=false:=by simpa using hq
  rw[hn]at hR;exact hR w2 a6
 .have hn:Af x=true:=by simpa using hq
  rw[hn]at hR;refine⟨s,a4.at0 (r:=[]) x2 rfl,ad,⟨ha,oM,oM⟩,ps,(hc _ a6).pre rfl,?_⟩;exact Zdw hS hs hp hx hb a6 (a4.ext x2) (λx' ht hq hk=>SE.M3.go (Zlj (hS.ext x'.size) ht hx hq λr a5 a0 o=>hk r a5 a0 o)) (λx' ht hk=>SE.ER.go (IZ (hs.ext x') ht λa5 a0=>hk a5 a0)) λw' a0=>hR w' a0
end Go.Hal
