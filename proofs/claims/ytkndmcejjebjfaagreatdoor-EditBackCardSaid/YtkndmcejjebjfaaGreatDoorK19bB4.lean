/- Lemmas for the claim K19b: how the program's functions run, and what they answer; no condition but those that each theorem names. -/
import Derived.Test.YtkndmcejjebjfaaGreatDoorProg
import Derived.Shelf.Sort.Plain
import Derived.Shelf.Slices.In.SortNone
import Derived.Ground.NamesProg
import Derived.Laws.MakeOwn
import Derived.Test.YtkndmcejjebjfaaGreatDoorK19bB3
set_option linter.unusedVariables false
set_option linter.unusedSimpArgs false
set_option linter.defProp false
set_option maxHeartbeats 16000000
open Go Go.RowKit Go.Proofs Go.Shelf Go.Hal Go.Proofs.Tryz
variable {D d d3 d4:Int} {R:Int->Wp} {es:LQ} {ks:List Fe} {g xs:LN} {ps:List Pack} {cs:LV} {m:Mani} {N a i kind lo n:Nat} {S:Nat->Prop} {p:Pin} {s:Sl} {t:TypeId} {w w0:Wd}
namespace Go.Hal
abbrev Aq:=List Bs
structure Dr where
 path:Aq
 node:Nat
structure Stl where
 src:Nat
 label:Bs
 dst:Nat
 deriving DecidableEq
structure PlS where
 dirs:List Dr
 done:List Stl
def Ax(ds:List Dr)(p:Aq):Option Nat:=ds.findIdx? λd=>decide (d.path=p)
def AM(ds:List Dr)(p:Aq)(x:Bs):Nat->Option Nat
 |0=>Ax ds (p.take 0++[x])
 |k+1=>match Ax ds (p.take (k+1)++[x])with
  |some i=>some i
  |none=>AM ds p x k
def Ae(ds:List Dr)(i:Nat):Aq:=match ds[i]? with
 |some d=>d.path
 |none=>[]
structure Spot(s:PlS)(p:Aq)(x:Bs)(n:Nat):Prop where
 le:n<=p.length
 clear:∀k,n<=k->k<=p.length->Ax s.dirs (p.take k++[x])=none
 keep:∀t∈s.done,t.label=x->p.take n<+:Ae s.dirs t.src->n<(Ae s.dirs t.dst).length
structure Best(s:PlS)(p:Aq)(x:Bs)(like:Nat->Bool)(n:Nat):Prop where
 spot:Spot s p x n
 pref:∀m,Spot s p x m->like m=true->like n=true
 near:∀m,Spot s p x m->like m=like n->n<=m
def Best.one{s:PlS}{p:Aq}{x:Bs}{like:Nat->Bool}{m:Nat}(h:Best s p x like n)(k:Best s p x like m):n=m:=by
 have he:like m=like n:=by
  cases h1:like m with
  |true=>exact(h.pref m k.spot h1).symm
  |false=>
   cases h2:like n with
   |false=>rfl
   |true=>have:=k.pref n h.spot h2;rw[h1]at this;cases this
 exact Nat.le_antisymm (h.near m k.spot he) (k.near n h.spot he.symm)
structure PlI where
 g:LN
 like:Aq->Nat->Bool
 tlen:Aq->Nat
 maxP:Int
 maxD:Int
def BR(g:LN)(i:Nat):LP:=match g[i]? with
 |some x=>x.ctx
 |none=>[]
def AB(g:LN)(at_:Nat)(e:Edge):Nat:=if(BR g at_).any (Aw e.name)then 1 else if(BR g e.to.toNat).length=0 then 2 else 3
def nodeAt(ds:List Dr)(i:Nat):Nat:=match ds[i]? with
 |some d=>d.node
 |none=>0
def ER(s:PlS)(src:Nat)(x:Bs):Option Nat:=(s.done.find? λt=>decide (t.src=src/\t.label=x)).map Stl.dst
def HB(I:PlI)(s:PlS)(src to:Nat):Prop:=∀q∈BR I.g (nodeAt s.dirs to),∃d,ER s src q.name=some d/\AM s.dirs (Ae s.dirs to) q.name (Ae s.dirs to).length=some d
def Right(I:PlI)(s:PlS)(src:Nat)(e:Edge)(kind to:Nat):Prop:=AM s.dirs (Ae s.dirs src) e.name (Ae s.dirs src).length=some to/\(nodeAt s.dirs to:Int)=e.to/\(kind=3->HB I s src to)
inductive EdgeR (I:PlI) (s:PlS) (src:Nat) (e:Edge) (kind:Nat):Int->PlS->Prop
 |found (to:Nat):Right I s src e kind to->EdgeR I s src e kind 0 ⟨s.dirs,s.done++[⟨src,e.name,to⟩]⟩
 |lost:(∀to,¬Right I s src e kind to)->kind=1->EdgeR I s src e kind 33 s
 |put (n:Nat):(∀to,¬Right I s src e kind to)->kind≠1->(kind=2->Best s (Ae s.dirs src) e.name (λn=>I.like ((Ae s.dirs src).take n++[e.name]) e.to.toNat) n)->(kind=3->n=(Ae s.dirs src).length)->
   (I.tlen ((Ae s.dirs src).take n++[e.name]):Int)<=I.maxP->(s.dirs.length:Int)<=I.maxD->
   EdgeR I s src e kind 0 ⟨s.dirs++[⟨(Ae s.dirs src).take n++[e.name],e.to.toNat⟩],s.done++[⟨src,e.name,s.dirs.length⟩]⟩
 |long (n:Nat):(∀to,¬Right I s src e kind to)->kind≠1->(kind=2->Best s (Ae s.dirs src) e.name (λn=>I.like ((Ae s.dirs src).take n++[e.name]) e.to.toNat) n)->(kind=3->n=(Ae s.dirs src).length)->
   I.maxP<(I.tlen ((Ae s.dirs src).take n++[e.name]):Int)->EdgeR I s src e kind 40 s
 |deep (n:Nat):(∀to,¬Right I s src e kind to)->kind≠1->(kind=2->Best s (Ae s.dirs src) e.name (λn=>I.like ((Ae s.dirs src).take n++[e.name]) e.to.toNat) n)->(kind=3->n=(Ae s.dirs src).length)->
   (I.tlen ((Ae s.dirs src).take n++[e.name]):Int)<=I.maxP->I.maxD<(s.dirs.length:Int)->EdgeR I s src e kind 41 s
def Right.one{I:PlI}{s:PlS}{src b:Nat}{e:Edge}(h:Right I s src e kind a)(k:Right I s src e kind b):a=b:=by have:=h.1.symm.trans k.1;exact jm this
def Lw{s:PlS}{p:Aq}{x:Bs}{like:Nat->Bool}{m:Nat}(h1:kind≠1)(hk:kind=1\/kind=2\/kind=3)(a:kind=2->Best s p x like n)(b:kind=3->n=p.length)(a':kind=2->Best s p x like m)(b':kind=3->m=p.length):n=m:=by
 obtain h|h|h:=hk
 .exact absurd h h1
 .exact(a h).one (a' h)
 .rw[b h,b' h]
def EdgeR.one{I:PlI}{s:PlS}{src:Nat}{e:Edge}{c:Int}{t u:PlS}(hk:kind=1\/kind=2\/kind=3)(h:EdgeR I s src e kind c t)(k:EdgeR I s src e kind d u):c=d/\t=u:=by
 cases h with
 |found to h=>
  cases k with
  |found a5 h'=>rw[h.one h'];exact⟨rfl,rfl⟩
  |lost h' _=>exact absurd h (h' to)
  |put _ h'=>exact absurd h (h' to)
  |long _ h'=>exact absurd h (h' to)
  |deep _ h'=>exact absurd h (h' to)
 |lost h h1=>
  cases k with
  |found to h'=>exact absurd h' (h to)
  |lost=>exact⟨rfl,rfl⟩
  |put _ _ h'=>exact absurd h1 h'
  |long _ _ h'=>exact absurd h1 h'
  |deep _ _ h'=>exact absurd h1 h'
 |put n h h1 a b hP hD=>
  cases k with
  |found to h'=>exact absurd h' (h to)
  |lost _ h'=>exact absurd h' h1
  |put m _ _ a' b'=>have:=Lw h1 hk a b a' b';subst this;exact⟨rfl,rfl⟩
  |long m _ _ a' b' a0=>have:=Lw h1 hk a b a' b';subst this;omega
  |deep m _ _ a' b' _ a4=>omega
 |long n h h1 a b hP=>
  cases k with
  |found to h'=>exact absurd h' (h to)
  |lost _ h'=>exact absurd h' h1
  |put m _ _ a' b' a0=>have:=Lw h1 hk a b a' b';subst this;omega
  |long=>exact⟨rfl,rfl⟩
  |deep m _ _ a' b' a0=>have:=Lw h1 hk a b a' b';subst this;omega
 |deep n h h1 a b hP hD=>
  cases k with
  |found to h'=>exact absurd h' (h to)
  |lost _ h'=>exact absurd h' h1
  |put m _ _ a' b' a0 a4=>omega
  |long m _ _ a' b' a0=>have:=Lw h1 hk a b a' b';subst this;omega
  |deep=>exact⟨rfl,rfl⟩
def E5{ds:List Dr}{p:Aq}(h:Ax ds p=some i):∃d,ds[i]?=some d/\d.path=p:=by unfold Ax at h;obtain⟨hl,h1,_⟩:=lq.1 h;exact⟨ds[i],dt hl,by simpa using h1⟩
def TX{ds:List Dr}{p:Aq}:Ax ds p=none↔∀d∈ds,d.path≠p:=by unfold Ax;rw[mj];simp
def Kb{ds t:List Dr}{p:Aq}(h:Ax ds p=some i):Ax (ds++t) p=some i:=by unfold Ax at*;rw[List.findIdx?_append,h];rfl
def Zbd{ds:List Dr}{p:Aq}(h:∃d∈ds,d.path=p):∃i,Ax ds p=some i:=by
 cases hf:Ax ds p with
 |some i=>exact⟨i,rfl⟩
 |none=>obtain⟨d,h1,h2⟩:=h;exact absurd h2 (TX.1 hf d h1)
def Co{ds:List Dr}{d:Dr}(h:ds[i]?=some d):Ae ds i=d.path:=by unfold Ae;rw[h]
def Hc{ds:List Dr}{d:Dr}(h:ds[i]?=some d):nodeAt ds i=d.node:=by unfold nodeAt;rw[h]
def Vs{ds t:List Dr}(h:i<ds.length):Ae (ds++t) i=Ae ds i:=by unfold Ae;rw[fy h]
def Hb{ds t:List Dr}(h:i<ds.length):nodeAt (ds++t) i=nodeAt ds i:=by unfold nodeAt;rw[fy h]
def NG{ds:List Dr}{p:Aq}{x:Bs}:∀{k i:Nat},AM ds p x k=some i->∃n,n<=k/\Ax ds (p.take n++[x])=some i/\∀m,n<m->m<=k->Ax ds (p.take m++[x])=none
 |0,i,h=>⟨0,fm _,h,λm h1 h2=>by omega⟩
 |k+1,i,h=>by
  unfold AM at h;cases hf:Ax ds (p.take (k+1)++[x])with
  |some j=>rw[hf]at h;cases h;exact⟨k+1,fm _,hf,λm h1 h2=>by omega⟩
  |none=>
   rw[hf]at h;obtain⟨n,h1,h2,h3⟩:=NG h;refine⟨n,oM,h2,λm h4 h5=>?_⟩;by_cases hm:m=k+1
   .subst hm;exact hf
   .exact h3 m h4 oM
structure PInv(g:LN)(s:PlS)(a:Nat):Prop where
 root:s.dirs[0]?=some ⟨[],0⟩
 one:∀(i j:Nat)(d e:Dr),s.dirs[i]?=some d->s.dirs[j]?=some e->d.path=e.path->i=j
 up:∀(i:Nat)(d:Dr)(p:Aq)(x:Bs),s.dirs[i]?=some d->d.path=p++[x]->∃h,h<i/\Ax s.dirs p=some h
 src:∀t∈s.done,t.src<=a/\t.src<s.dirs.length/\t.dst<s.dirs.length
 uniq:∀t∈s.done,∀u∈s.done,t.src=u.src->t.label=u.label->t=u
 fresh:∀(i:Nat)(d:Dr)(p:Aq)(x:Bs),s.dirs[i]?=some d->d.path=p++[x]->∀h,Ax s.dirs p=some h->a<=h->h=a/\∃t∈s.done,t.src=a/\t.label=x
 node:∀d∈s.dirs,d.node<g.length
def PInv.find{s:PlS}{d:Dr}(h:PInv g s a)(hd:s.dirs[i]?=some d):Ax s.dirs d.path=some i:=by obtain⟨j,hj⟩:=Zbd ⟨d,gv hd,rfl⟩;obtain⟨e,h1,h2⟩:=E5 hj;rw[hj,h.one i j d e hd h1 h2.symm]
def PInv.above{s:PlS}(h:PInv g s a):∀(n i:Nat)(d:Dr),s.dirs[i]?=some d->d.path.length=n->∀k,k<=n->∃j,j<=i/\Ax s.dirs (d.path.take k)=some j:=λn=>by
 induction n with
 |zero=>intro i d hd hn k hk;have:k=d.path.length:=oM;subst this;rw[eh];exact⟨i,fm _,h.find hd⟩
 |succ n ih=>
  intro i d hd hn k hk;by_cases a4:k=n+1
  .subst a4;rw[<-hn,eh];exact⟨i,fm _,h.find hd⟩
  .have a0:d.path≠[]:=λe=>(by rw[e]at hn;simp at hn);have hp:d.path=d.path.dropLast++[d.path.getLast a0]:=(List.dropLast_concat_getLast a0).symm;obtain⟨j,h1,h2⟩:=h.up i d _ _ hd hp;obtain⟨e,h3,h4⟩:=E5 h2;have h5:e.path.length=n:=(by rw[h4,List.length_dropLast];omega);obtain⟨m,h6,h7⟩:=ih j e h3 h5 k oM;refine⟨m,oM,?_⟩;rw[h4]at h7;have:d.path.take k=d.path.dropLast.take k:=(by rw[List.dropLast_eq_take,List.take_take];congr 1;omega);rw[this];exact h7
def PInv.pre{s:PlS}{j:Nat}{d e:Dr}(h:PInv g s a)(hd:s.dirs[i]?=some d)(he:s.dirs[j]?=some e)(hp:e.path<+:d.path):j<=i:=by obtain⟨m,h1,h2⟩:=h.above _ i d hd rfl e.path.length hp.length_le;rw[<-List.prefix_iff_eq_take.1 hp,h.find he]at h2;cases h2;exact h1
def D4(s:PlS)(a:Nat)(x:Bs):Prop:=∀t∈s.done,t.src=a->t.label≠x
def PInv.spot{s:PlS}{d:Dr}{x:Bs}(h:PInv g s a)(hd:s.dirs[a]?=some d)(hx:D4 s a x):Spot s d.path x d.path.length:=by
 refine⟨fm _,λk h1 h2=>?_,λt ht hl hp=>?_⟩
 .have hk:k=d.path.length:=oM;subst hk;rw[eh];cases hf:Ax s.dirs (d.path++[x])with
  |none=>rfl
  |some i=>obtain⟨e,h3,h4⟩:=E5 hf;obtain⟨_,t,h5,h6,h7⟩:=h.fresh i e d.path x h3 h4 a (h.find hd) nR;exact absurd h7 (hx t h5 h6)
 .obtain⟨h1,h2,_⟩:=h.src t ht;rw[eh]at hp;have h3:s.dirs[t.src]?=some s.dirs[t.src]:=dt h2;rw[Co h3]at hp;have:=h.pre h3 hd hp;exact absurd hl (hx t ht oM)
def PInv.found{s:PlS}{to:Nat}{x:Bs}(h:PInv g s a)(ha:a<s.dirs.length)(hx:D4 s a x)(a4:to<s.dirs.length):PInv g ⟨s.dirs,s.done++[⟨a,x,to⟩]⟩ a:=by
 refine⟨h.root,h.one,h.up,λt ht=>?_,λt ht u hu h1 h2=>?_,λi d p y hd hp j hj a0=>?_,h.node⟩
 .obtain ht|ht:=fk.1 ht
  .exact h.src t ht
  .rw[ep]at ht;subst ht;exact⟨fm _,ha,a4⟩
 .rcases fk.1 ht with ht|ht<;>obtain hu|hu:=fk.1 hu
  .exact h.uniq t ht u hu h1 h2
  .rw[ep]at hu;subst hu;exact absurd h2 (hx t ht h1)
  .rw[ep]at ht;subst ht;exact absurd h2.symm (hx u hu h1.symm)
  .rw[ep]at ht hu;rw[ht,hu]
 .obtain⟨h1,t,h2,h3,h4⟩:=h.fresh i d p y hd hp j hj a0;exact⟨h1,t,iu _ h2,h3,h4⟩
def PInv.put{s:PlS}{k:Nat}{d:Dr}{x:Bs}(h:PInv g s a)(hd:s.dirs[a]?=some d)(hx:D4 s a x)(hs:Spot s d.path x n)(hk:k<g.length):
  PInv g ⟨s.dirs++[⟨d.path.take n++[x],k⟩],s.done++[⟨a,x,s.dirs.length⟩]⟩ a:=by
 have ha:=(fh.1 hd).1;have a5:∀e∈s.dirs,e.path≠d.path.take n++[x]:=TX.1 (hs.clear n nR hs.le);have at_:∀{i:Nat} {e:Dr},(s.dirs++[⟨d.path.take n++[x],k⟩])[i]?=some e->(s.dirs[i]?=some e/\i<s.dirs.length)\/(i=s.dirs.length/\e=⟨d.path.take n++[x],k⟩):=λ{i e} hi=>by
  obtain hl|hl:=qg i s.dirs.length
  .rw[fy hl]at hi;exact .inl ⟨hi,hl⟩
  .rw[gp hl]at hi;have:i - s.dirs.length=0:=by have:=(fh.1 hi).1;simp at this;omega
   rw[this]at hi;simp at hi;exact .inr ⟨oM,hi.symm⟩
 obtain⟨m,a7,a4⟩:=h.above _ a d hd rfl n hs.le;refine⟨(fy (nf (gn a) ha)).trans h.root,λi j e f hi hj hp=>?_,λi e p y hi hp=>?_,λt ht=>?_,λt ht u hu h1 h2=>?_,λi e p y hi hp j hj a6=>?_,λe he=>?_⟩
 .rcases at_ hi with⟨hi,_⟩|⟨rfl,rfl⟩<;>rcases at_ hj with⟨hj,_⟩|⟨rfl,rfl⟩
  .exact h.one i j e f hi hj hp
  .exact absurd hp (a5 e (gv hi))
  .exact absurd hp.symm (a5 f (gv hj))
  .rfl
 .rcases at_ hi with⟨hi,_⟩|⟨rfl,rfl⟩
  .obtain⟨j,h1,h2⟩:=h.up i e p y hi hp;exact⟨j,h1,Kb h2⟩
  .obtain⟨h1,_⟩:=List.append_inj' hp rfl;exact⟨m,oM,by rw[<-h1];exact Kb a4⟩
 .simp only[du,gl];obtain ht|ht:=fk.1 ht
  .obtain⟨h1,h2,h3⟩:=h.src t ht;exact⟨h1,oM,oM⟩
  .rw[ep]at ht;subst ht;exact⟨fm _,Nat.lt_succ_of_lt ha,by simp⟩
 .rcases fk.1 ht with ht|ht<;>obtain hu|hu:=fk.1 hu
  .exact h.uniq t ht u hu h1 h2
  .rw[ep]at hu;subst hu;exact absurd h2 (hx t ht h1)
  .rw[ep]at ht;subst ht;exact absurd h2.symm (hx u hu h1.symm)
  .rw[ep]at ht hu;rw[ht,hu]
 .rcases at_ hi with⟨hi,_⟩|⟨rfl,rfl⟩
  .obtain⟨j',h1,h2⟩:=h.up i e p y hi hp;have a0:=(Kb h2).symm.trans hj;cases a0;obtain⟨h3,t,h4,h5,h6⟩:=h.fresh i e p y hi hp _ h2 a6;exact⟨h3,t,iu _ h4,h5,h6⟩
  .obtain⟨h1,h2⟩:=List.append_inj' hp rfl;rw[<-h1]at hj;have a0:=(Kb a4).symm.trans hj;cases a0;refine⟨oM,_,ka _ (ep.2 rfl),rfl,?_⟩;simpa using h2
 .obtain he|he:=fk.1 he
  .exact h.node e he
  .rw[ep]at he;subst he;exact hk
def PInv.next{s:PlS}(h:PInv g s a):PInv g s (a+1):=
 ⟨h.root,h.one,h.up,λt ht=>by obtain⟨h1,h2,h3⟩:=h.src t ht;exact⟨oM,h2,h3⟩,h.uniq,λi d p y hd hp j hj a0=>by have:=(h.fresh i d p y hd hp j hj oM).1;omega,h.node⟩
def PInv.start(hg:0<g.length):PInv g ⟨[⟨[],0⟩],[]⟩ 0:=by
 refine⟨rfl,λi j d e hi hj _=>?_,λi d p x hi hp=>?_,(λt ht=>by cases ht),(λt ht=>by cases ht),λi d p x hi hp=>?_,λd hd=>?_⟩
 .have h1:=(fh.1 hi).1;have h2:=(fh.1 hj).1;simp at h1 h2;omega
 .have h1:=(fh.1 hi).1;simp at h1;subst h1;simp at hi;subst hi;simp at hp
 .have h1:=(fh.1 hi).1;simp at h1;subst h1;simp at hi;subst hi;simp at hp
 .rw[ep]at hd;subst hd;exact hg
def Cn(g:LN)(k:Nat):LQ:=
 let es:=Az g k
 es.filter (λe=>AB g k e==1)++(es.filter (λe=>AB g k e==2)++es.filter λe=>AB g k e==3)
def DU(g:LN)(k:Nat)(e:Edge):AB g k e=1\/AB g k e=2\/AB g k e=3:=by
 unfold AB;split
 .exact .inl rfl
 .split
  .exact .inr (.inl rfl)
  .exact .inr (.inr rfl)
inductive EdgesR (I:PlI) (a k:Nat):PlS->LQ->Int->PlS->Prop
 |nil (s:PlS):EdgesR I a k s [] 0 s
 |cons {s t u:PlS} {e:Edge} {es:LQ} {c:Int}:EdgeR I s a e (AB I.g k e) 0 t->EdgesR I a k t es c u->EdgesR I a k s (e::es) c u
 |stop {s t:PlS} {e:Edge} {es:LQ} {c:Int}:EdgeR I s a e (AB I.g k e) c t->c≠0->EdgesR I a k s (e::es) c t
inductive DirsR (I:PlI):Nat->PlS->Int->PlS->Prop
 |fin {a:Nat} {s:PlS}:s.dirs.length<=a->DirsR I a s 0 s
 |next {a:Nat} {s t u:PlS} {c:Int}:a<s.dirs.length->EdgesR I a (nodeAt s.dirs a) s (Cn I.g (nodeAt s.dirs a)) 0 t->DirsR I (a+1) t c u->DirsR I a s c u
 |stop {a:Nat} {s t:PlS} {c:Int}:a<s.dirs.length->EdgesR I a (nodeAt s.dirs a) s (Cn I.g (nodeAt s.dirs a)) c t->c≠0->DirsR I a s c t
def EdgesR.one{I:PlI}{k:Nat}{s t u:PlS}{c:Int}(h:EdgesR I a k s es c t):EdgesR I a k s es d u->c=d/\t=u:=by
 induction h generalizing d u with
 |nil s=>intro h';cases h';exact⟨rfl,rfl⟩
 |cons h1 h2 ih=>
  intro h';cases h' with
  |cons k1 k2=>obtain⟨_,rfl⟩:=h1.one (DU _ _ _) k1;exact ih k2
  |stop k1 k2=>exact absurd (h1.one (DU _ _ _) k1).1.symm k2
 |stop h1 h2=>
  intro h';cases h' with
  |cons k1 k2=>exact absurd (h1.one (DU _ _ _) k1).1 h2
  |stop k1 k2=>exact h1.one (DU _ _ _) k1
def DirsR.one{I:PlI}{s t u:PlS}{c:Int}(h:DirsR I a s c t):DirsR I a s d u->c=d/\t=u:=by
 induction h generalizing d u with
 |fin h1=>
  intro h';cases h' with
  |fin=>exact⟨rfl,rfl⟩
  |next k1=>omega
  |stop k1=>omega
 |next h1 h2 h3 ih=>
  intro h';cases h' with
  |fin k1=>omega
  |next k1 k2 k3=>obtain⟨_,rfl⟩:=h2.one k2;exact ih k3
  |stop k1 k2 k3=>exact absurd (h2.one k2).1.symm k3
 |stop h1 h2 h3=>
  intro h';cases h' with
  |fin k1=>omega
  |next k1 k2 k3=>exact absurd (h2.one k2).1 h3
  |stop k1 k2 k3=>exact h2.one k2
structure GrownP(s t:PlS)(a:Nat)(x:Bs):Prop where
 dirs:∃l,t.dirs=s.dirs++l
 new:∀y,y≠x->D4 s a y->D4 t a y
def UX{ds:List Dr}{s:PlS}{k:Nat}{x y:Bs}(hy:y≠x)(h:D4 s a y):D4 ⟨ds,s.done++[⟨a,x,k⟩]⟩ a y:=λt ht hs=>by
 obtain ht|ht:=fk.1 ht
 .exact h t ht hs
 .rw[ep]at ht;subst ht;exact λe=>hy e.symm
def NF{ds:List Dr}{p:Aq}{x:Bs}{k:Nat}(h:AM ds p x k=some i):i<ds.length:=by obtain⟨n,_,h2,_⟩:=NG h;obtain⟨d,h3,_⟩:=E5 h2;exact(fh.1 h3).1
def EdgeR.inv{I:PlI}{s t:PlS}{e:Edge}{c:Int}(hk:kind=1\/kind=2\/kind=3)(h:EdgeR I s a e kind c t)(hI:PInv I.g s a)(ha:a<s.dirs.length)(hx:D4 s a e.name)(a0:0<=e.to/\e.to<I.g.length):
  PInv I.g t a/\GrownP s t a e.name:=by
 have hd:s.dirs[a]?=some s.dirs[a]:=dt ha;cases h with
 |found to hr=>exact⟨hI.found ha hx (NF hr.1),⟨[],by simp⟩,λy hy h=>UX hy h⟩
 |lost=>exact⟨hI,⟨[],by simp⟩,λy _ h=>h⟩
 |put n h1 h2 h3 h4=>
  have hs:Spot s (Ae s.dirs a) e.name n:=by
   obtain hk|hk|hk:=hk
   .exact absurd hk h2
   .exact(h3 hk).spot
   .rw[h4 hk,Co hd];exact hI.spot hd hx
  rw[Co hd]at hs ⊢;exact⟨hI.put hd hx hs oM,⟨_,rfl⟩,λy hy h=>UX hy h⟩
 |long=>exact⟨hI,⟨[],by simp⟩,λy _ h=>h⟩
 |deep=>exact⟨hI,⟨[],by simp⟩,λy _ h=>h⟩
def DY(x:Node):Pin:=⟨x.name,x.v⟩
def GI(a b:Pin):Int:=AN (A7 a.name b.name) (a.v.cmp b.v)
def cPin_ord:Ord3 GI:=(DB Pin.name).or (Ver.cmp_ord.comap Pin.v)
def SX{a b:Pin}:GI a b=0↔a=b:=by
 obtain⟨n,v⟩:=a;obtain⟨m,u⟩:=b;show AN (A7 n m) (v.cmp u)=0↔_;unfold AN;by_cases h:A7 n m=0
 .rw[if_pos h,Ver.cmp_eq];have:=Ey.1 h;subst this;exact⟨λh=>by rw[h],λh=>(Pin.mk.inj h).2⟩
 .rw[if_neg h];exact⟨λh'=>absurd h' h,λh'=>absurd (Ey.2 (Pin.mk.inj h').1) h⟩
def StrictL{α:Type}(c:α->α->Int)(l:List α):Prop:=l.Pairwise λa b=>c a b<0
def StrictL.nodup{α:Type}{c:α->α->Int}(hc:Ord3 c){l:List α}(h:StrictL c l):l.Nodup:=by rw[gz];refine h.imp λ{a b} h e=>?_;subst e;have:=(hc.flip a a).1 h;omega
def StrictL.one{α:Type}{c:α->α->Int}(hc:Ord3 c){l m:List α}(h1:StrictL c l)(h2:StrictL c m)(hm:∀x,x∈l↔x∈m):l=m:=
 Ja (λx y h k=>by have:=(hc.flip x y).1 h;omega) h1 h2 ((List.perm_ext_iff_of_nodup (h1.nodup hc) (h2.nodup hc)).2 hm)
def StrictL.of{α:Type}{c:α->α->Int}(hc:Ord3 c)(h0:∀{a b},c a b=0->a=b){l:List α}(hn:l.Nodup)(hs:l.Pairwise λx y=>¬c y x<0):StrictL c l:=by rw[gz]at hn;refine(hn.and hs).imp λ{a b} ⟨h1,h2⟩=>?_;have h3:c a b≠0:=λh=>h1 (h0 h);have h4:=hc.flip b a;omega
def PinsAre(g:LN)(l:LP):Prop:=StrictL GI l/\∀y,y∈l↔y∈(g.drop 1).map DY
def PinsAre.one{l m:LP}(h:PinsAre g l)(k:PinsAre g m):l=m:=h.1.one cPin_ord k.1 λx=>(h.2 x).trans (k.2 x).symm
def modsT:LU:=[47,109,111,100,117,108,101,115,47]
def Cf(p:Aq):LU:=p.flatMap λx=>modsT++x.toList
def Bj(p:Aq):Bool:=p.all Af
def A5(p:Aq):LU:=if p=[]then [47]else if Bj p then Cf p else []
def Zex{b:UInt8}(h:BS b=true):b≠47:=by rintro rfl;revert h;decide
def Zez:∀{l:LU},CH l=true->(47:UInt8)∉l
 | [],_=>by simp
 |a::l,h=>by
  intro hm;simp only[CH,dx,im]at h;obtain rfl|hm:=ga.1 hm
  .have:=h.1;revert this;decide
  .exact Zex (h.2 _ hm) rfl
def UT{x:Bs}(h:Af x=true):(47:UInt8)∉x.toList:=by unfold Af at h;simp only[dx]at h;exact Zez h.1
def Q5:∀{p:Aq},p≠[]->∃r,Cf p=47::r
 | [],h=>absurd rfl h
 |x::p,_=>⟨_,rfl⟩
def WA{a r:LU}(ha:(47:UInt8)∉a)(hr:r=[]\/∃t,r=47::t):(a++r).takeWhile (λb=>b != 47)=a:=by
 rw[px (λb hb=>by simp;rintro rfl;exact ha hb)];rcases hr with rfl|⟨t,rfl⟩
 .simp
 .simp
def Vu:∀{p q:Aq},Bj p=true->Bj q=true->Cf p=Cf q->p=q
 | [],[],_,_,_=>rfl
 | [],y::q,_,_,h=>by obtain⟨r,hr⟩:=Q5 (p:=y::q) sI;rw[hr]at h;cases h
 |x::p,[],_,_,h=>by obtain⟨r,hr⟩:=Q5 (p:=x::p) sI;rw[hr]at h;cases h
 |x::p,y::q,hp,hq,h=>by
  unfold Bj at hp hq;rw[mq,dx]at hp hq;have h':modsT++(x.toList++Cf p)=modsT++(y.toList++Cf q):=by simpa only[Cf,List.flatMap_cons,fg]using h
  have h1:=List.append_cancel_left h';have en:∀l:Aq,Cf l=[]\/∃t,Cf l=47::t:=λl=>by
   by_cases hl:l=[]
   .subst hl;exact .inl rfl
   .exact .inr (Q5 hl)
  have h2:=congrArg (List.takeWhile λb=>b != 47) h1;rw[WA (UT hp.1) (en p),WA (UT hq.1) (en q)]at h2;rw[h2]at h1;have h3:=Vu (p:=p) (q:=q) hp.2 hq.2 (List.append_cancel_left h1);rw[toList_data,toList_data]at h2;rw[GG h2,h3]
def Q7{p:Aq}(h:p≠[]):9<=(Cf p).length:=by
 cases p with
 |nil=>exact absurd rfl h
 |cons x p=>simp[Cf,modsT]
def Zf0{p q:Aq}(hp:Bj p=true)(hq:Bj q=true)(h:A5 p=A5 q):p=q:=by
 unfold A5 at h;by_cases h1:p=[]<;>by_cases h2:q=[]
 .rw[h1,h2]
 .rw[if_pos h1,if_neg h2,if_pos hq]at h;have:=Q7 h2;rw[<-h]at this;simp at this
 .rw[if_neg h1,if_pos h2,if_pos hp]at h;have:=Q7 h1;rw[h]at this;simp at this
 .rw[if_neg h1,if_neg h2,if_pos hp,if_pos hq]at h;exact Vu hp hq h
def Ji(d:Dr):Bs:=B (A5 d.path)
def HK(a b:Dr):Int:=A7 (Ji a) (Ji b)
def cDr_ord:Ord3 HK:=DB Ji
def Zke{a b:Dr}(ha:Bj a.path=true)(hb:Bj b.path=true)(h:Ji a=Ji b):a.path=b.path:=by unfold Ji at h;have:=congrArg ByteArray.toList h;rw[H6,H6]at this;exact Zf0 ha hb this
def SortedD(ds out:List Dr):Prop:=out.Perm ds/\out.Pairwise λa b=>¬HK b a<0
structure DirsOk(ds:List Dr):Prop where
 names:∀d∈ds,Bj d.path=true
 one:∀(i j:Nat)(d e:Dr),ds[i]?=some d->ds[j]?=some e->d.path=e.path->i=j
def DirsOk.eq{ds:List Dr}(h:DirsOk ds){a b:Dr}(ha:a∈ds)(hb:b∈ds)(he:HK a b=0):a=b:=by have hp:=Zke (h.names a ha) (h.names b hb) (Ey.1 he);obtain⟨i,hi⟩:=jo ha;obtain⟨j,hj⟩:=jo hb;have:=h.one i j a b hi hj hp;subst this;rw[hi]at hj;exact jm hj
def DirsOk.nodup{ds:List Dr}(h:DirsOk ds):ds.Nodup:=by rw[gz,gh];intro i j hi hj a0 he;have:=h.one i j _ _ (dt hi) (dt hj) (by rw[he]);omega
def SortedD.strict{ds out:List Dr}(h:DirsOk ds)(k:SortedD ds out):StrictL HK out:=by obtain⟨hp,hs⟩:=k;have hn:out.Nodup:=hp.nodup_iff.2 h.nodup;rw[gz]at hn;unfold StrictL;have:=(hn.and hs);refine List.Pairwise.imp_of_mem ?_ this;intro a b ha hb ⟨h1,h2⟩;have h3:HK a b≠0:=λe=>h1 (h.eq (hp.mem_iff.1 ha) (hp.mem_iff.1 hb) e);have h4:=cDr_ord.flip b a;omega
def SortedD.one{ds a b:List Dr}(h:DirsOk ds)(ha:SortedD ds a)(hb:SortedD ds b):a=b:=
 (ha.strict h).one cDr_ord (hb.strict h) λx=>ha.1.mem_iff.trans hb.1.mem_iff.symm
structure Dir where
 path:Aq
 pack:Pack
 node:Int
 deriving DecidableEq
def Ay:Pack:=⟨⟨#[]⟩,⟨0,0,0⟩,[],[],[]⟩
def AJ(d:Dir):Dr:=⟨d.path,d.node.toNat⟩
structure StandsD(T:List Dir)(i:Nat)(d:Dir):Prop where
 path:d.path≠[]
 names:Bj d.path=true
 len:(A5 d.path).length<=1024
 node:1<=d.node
 first:Ax (T.map AJ) d.path=some i
 up:∃h,h<i/\Ax (T.map AJ) d.path.dropLast=some h
 may:AQ d.pack=true
 name:d.path.getLast? =some d.pack.name
structure TreeOk(T:List Dir):Prop where
 len:1<=T.length/\T.length<=257
 root:T[0]?=some ⟨[],Ay,0⟩
 rest:∀i d,T[i]?=some d->i≠0->StandsD T i d
def EB(T:List Dir)(i:Nat)(x:Bs):Option Nat:=if Af x then AM (T.map AJ) (Ae (T.map AJ) i) x (Ae (T.map AJ) i).length else none
structure MapS where
 m:List Int
 rest:List Nat
def DX(T:List Dir)(g:LN)(i:Nat)(s:MapS)(e:Edge):Option MapS:=
 match EB T i e.name with
 |none=>none
 |some to=>match T[to]?,g[e.to.toNat]? with
  |some d,some x=>if d.pack.name=x.name/\d.pack.v=x.v then
    if s.m[to]?=some (-1)then some ⟨s.m.set to e.to,s.rest++[to]⟩else if s.m[to]?=some e.to then some s else none
   else none
  |_,_=>none
def EC(T:List Dir)(g:LN)(i:Nat):MapS->LQ->Option MapS
 |s,[]=>some s
 |s,e::es=>(DX T g i s e).bind λt=>EC T g i t es
def ED(T:List Dir)(g:LN):Nat->Nat->MapS->Option (List Int)
 |0,_,_=>none
 |f+1,n,s=>match s.rest[n]? with
  |none=>some s.m
  |some i=>match s.m[i]? with
   |none=>none
   |some k=>(EC T g i s (Az g k.toNat)).bind λt=>ED T g f (n+1) t
def Dl(g:LN):Prop:=0<g.length/\∀x∈g,∀e∈x.edges,1<=e.to/\e.to<(g.length:Int)
def mapT(T:List Dir)(g:LN):Option (List Int):=ED T g (T.length+1) 0 ⟨(List.replicate T.length (-1)).set 0 0,[0]⟩
structure MapI(T:List Dir)(g:LN)(s:MapS):Prop where
 len:s.m.length=T.length
 low:∀(i:Nat)(k:Int),s.m[i]?=some k-> -1<=k/\k<(g.length:Int)
 nodup:s.rest.Nodup
 told:∀i,i∈s.rest↔∃k:Int,s.m[i]?=some k/\k≠ -1
def MapI.start{T:List Dir}(hT:0<T.length)(hg:0<g.length):MapI T g ⟨(List.replicate T.length (-1)).set 0 0,[0]⟩:=by
 refine⟨by simp,λi k h=>?_,by simp,λi=>?_⟩
 .by_cases hi:i=0
  .subst hi;rw[ng (by simpa using hT)]at h;cases h;omega
  .rw[nt (λe=>hi e.symm)]at h;have:=gv h;rw[List.mem_replicate]at this;omega
 .constructor
  .intro h;rw[ep]at h;subst h;exact⟨0,ng (by simpa using hT),by decide⟩
  .rintro⟨k,h,hk⟩;by_cases hi:i=0
   .subst hi;simp
   .rw[nt (λe=>hi e.symm)]at h;have:=gv h;rw[List.mem_replicate]at this;exact absurd this.2 hk
def MapI.edge{T:List Dir}{s t:MapS}{e:Edge}(h:MapI T g s)(a5:1<=e.to/\e.to<(g.length:Int))(he:DX T g i s e=some t):MapI T g t/\∃l,t.rest=s.rest++l:=by
 unfold DX at he;split at he
 .cases he
 .rename_i to _;split at he
  .split at he
   .split at he
    .rename_i hm;cases he;have hl:=(fh.1 hm).1;have a4:to∉s.rest:=λhc=>by obtain⟨k,h1,h2⟩:=(h.told to).1 hc;rw[hm]at h1;cases h1;exact h2 rfl
     refine⟨⟨by simp[h.len],λj k hj=>?_,?_,λj=>?_⟩,⟨_,rfl⟩⟩
     .by_cases a0:to=j
      .subst a0;rw[ng hl]at hj;cases hj;omega
      .rw[nt a0]at hj;exact h.low j k hj
     .rw[jb];refine⟨h.nodup,by simp,λa ha b hb=>?_⟩;rw[ep]at hb;subst hb;rintro rfl;exact a4 ha
     .rw[fk,ep];by_cases a0:to=j
      .subst a0;exact⟨λ_=>⟨e.to,ng hl,oM⟩,λ_=> .inr rfl⟩
      .show(j∈s.rest\/j=to)↔∃k:Int,(s.m.set to e.to)[j]?=some k/\k≠ -1;rw[nt a0,<-h.told j];exact⟨λhh=>by obtain hh|hh:=hh;exact hh;exact absurd hh.symm a0,λhh=>.inl hh⟩
    .split at he
     .cases he;exact⟨h,[],by simp⟩
     .cases he
   .cases he
  .cases he
def MapI.rest_le{T:List Dir}{s:MapS}(h:MapI T g s):s.rest.length<=T.length:=by
 have:=KP (m:=List.range T.length) h.nodup λi hi=>by obtain⟨k,h1,_⟩:=(h.told i).1 hi;have:=(fh.1 h1).1;rw[h.len]at this;exact mf.2 this
 simpa using this
def MapI.edges{T:List Dir}{g:LN}{i:Nat}:∀{es:LQ} {s t:MapS},MapI T g s->(∀e∈es,1<=e.to/\e.to<(g.length:Int))->EC T g i s es=some t->MapI T g t/\∃l,t.rest=s.rest++l
 | [],s,t,h,_,he=>by cases he;exact⟨h,[],by simp⟩
 |e::es,s,t,h,hto,he=>by
  unfold EC at he;cases hm:DX T g i s e with
  |none=>rw[hm]at he;cases he
  |some u=>rw[hm]at he;obtain⟨h1,l,hl⟩:=h.edge (hto e (.head _)) hm;obtain⟨h2,l',a0⟩:=MapI.edges h1 (λe' h'=>hto e' (.tail _ h')) he;exact⟨h2,l++l',by rw[a0,hl,fg]⟩
structure Stt where
 m:Mani
 g:LN
 T:List Dir
 pruned:Bool
def dirE:Enc Dir where
 n:=9
 bytes:=144
 rep:=λw S x cs=>Ac x.pack.name/\∃ps d e o:Sl,cs= [ps.v,.string x.pack.name,vi x.pack.v.ma,vi x.pack.v.mi,vi x.pack.v.pa,d.v,e.v,o.v,vi x.node]/\SlR strE w S ps x.path/\SlR depE w S d x.pack.deps/\SlR depE w S e x.pack.peers/\SlR depE w S o x.pack.opt
 len:=λ⟨_,ps,d,e,o,h,_⟩=>by rw[h];rfl
 one:=λ⟨_,ps,d,e,o,h,_⟩ v hv=>by rw[h]at hv;simp[Sl.v]at hv;rcases hv with rfl|rfl|rfl|rfl|rfl|rfl|rfl|rfl|rfl<;>rfl
 mono:=λ⟨h0,ps,d,e,o,h,a,b,c,k⟩ hs=>⟨h0,ps,d,e,o,h,a.mono hs,b.mono hs,c.mono hs,k.mono hs⟩
 keep:=λ⟨h0,ps,d,e,o,h,a,b,c,k⟩ hk=>⟨h0,ps,d,e,o,h,a.keep hk,b.keep hk,c.keep hk,k.keep hk⟩
def dirEl{l:List Dir}(h:SlR dirE w S s l)(hn:n<l.length):
  ∃ad ps d e o,s.a=some ad/\S ad.block/\Ac l[n].pack.name/\SlR strE w S ps l[n].path/\SlR depE w S d l[n].pack.deps/\SlR depE w S e l[n].pack.peers/\SlR depE w S o l[n].pack.opt/\
   ∀w',Ext w w'->ldc w' (ad.add (n*9)) [ps.v,.string l[n].pack.name,.int .i64 l[n].pack.v.ma,.int .i64 l[n].pack.v.mi,.int .i64 l[n].pack.v.pa,d.v,e.v,o.v,.int .i64 l[n].node]:=by
 obtain⟨ad,cs,h1,h2,⟨h0,ps,d,e,o,rfl,a,b,c,k⟩,h4⟩:=h.el hn;exact⟨ad,ps,d,e,o,h1,h2,h0,a,b,c,k,h4⟩
def S6:B0 prog 40 75 9 144:=CD (z:=.agg #[.slice none 0 0,.string ⟨#[]⟩,vi 0,vi 0,vi 0,.slice none 0 0,.slice none 0 0,.slice none 0 0,vi 0]) kR kR rfl dC
def QT:dirE.rep w S ⟨[],Ay,0⟩ [.slice none 0 0,.string ⟨#[]⟩,vi 0,vi 0,vi 0,.slice none 0 0,.slice none 0 0,.slice none 0 0,vi 0]:=
 ⟨by unfold Ac Ay;rw[Al];decide,Sl.nil,Sl.nil,Sl.nil,Sl.nil,rfl,SlR.nil trivial,SlR.nil trivial,SlR.nil trivial,SlR.nil trivial⟩
def DK(s:Sl)(w w':Wd):Prop:=w.heap.size<=w'.heap.size/\∀b,b<w.heap.size->(∀ad,s.a=some ad->b≠ad.block)->w'.heap[b]?=w.heap[b]?
section
variable {α:Type} {E:Enc α} {T:TypeId} {w w':Wd} {lo:Nat} {Q:Nat->Prop} {s x:Sl} {l:List α}
def OwnS.oth(h:OwnS E T w lo Q x l)(ho:DK s w w')(hA:Apart x s)(hQ:∀ad,s.a=some ad-> ¬Q ad.block):OwnS E T w' lo Q x l:=
 h.keep ho.1 λb a4 hb=>ho.2 b a4 λad ha e=>by
  rcases hb with hb|⟨a5,a0,rfl⟩
  .exact hQ ad ha (e▸hb)
  .exact hA _ _ a0 ha e
def SlR.oth(h:SlR E w Q x l)(ho:DK s w w')(hQ:∀ad,s.a=some ad-> ¬Q ad.block):SlR E w' Q x l:=
 h.keep λb hb a0=>ho.2 b a0 λad ha e=>hQ ad ha (e▸hb)
def BoxAt.oth{a:Addr}(h:BoxAt w a cs)(ho:DK s w w')(a4:∀ad,s.a=some ad->a.block≠ad.block):BoxAt w' a cs:=
 h.keep (S:=λb=>b=a.block) rfl λb hb a0=>ho.2 b a0 λad ha e=>a4 ad ha (hb▸e)
def Sl.regA{r:Sl}{y:Sl}{β:Type}{F:Enc β}{U:TypeId}{m:List β}(a0:∀ad,r.a=some ad->(s.a=some ad\/w.heap.size<=ad.block))(hA:Apart s y)(hy:OwnS F U w lo Q y m):Apart r y:=λa b ha hb=>by
 obtain h|h:=a0 a ha
 .exact hA a b h hb
 .have:=(hy.block hb).2.1;omega
def Sl.regO{r:Sl}{g:Nat}(a0:∀ad,r.a=some ad->(s.a=some ad\/w.heap.size<=ad.block))(hO:Jr s g)(hg:g<w.heap.size):Jr r g:=λa ha=>by
 obtain h|h:=a0 a ha
 .exact hO a h
 .omega
end
section
variable {w:Wd} {lo g:Nat} {stk nds ahd ws:Sl} {Q:Nat->Prop} {s:St} {P:Program}
def Sr0.pushNd{a:Addr}{x:Node}{k:Sl->Wp}(h:Sr0 w lo g stk nds ahd ws Q s)(hT:B0 P t 72 6 88)(a4:lo<=w.heap.size)(hg:g<w.heap.size)(hx:nodeE.rep w Q x cs)(hc:ldc w a cs)(hn:s.ns.length<=1000)
  (hk:∀(r:Sl)(w':Wd),Sr0 w' lo g stk r ahd ws Q {s with ns:=s.ns++[x]}->Below lo w w'->DK nds w w'->(∀ad,r.a=some ad->(nds.a=some ad\/w.heap.size<=ad.block))->k r w'):appS P t t nds (Sl.v ⟨some a,1,1⟩) w k:=by
 have a5:=Al;refine h.nodes.push (E:=nodeE) hT a4 hx hc h.nodes.lt h.nodes.apart (by show(s.ns.length+1)*88<=Ab;unfold Ab;omega) oM λr w' own bel oth a0=>?_;have ho:DK nds w w':=⟨bel.size,oth⟩;have hQ:=h.nodes.apart;refine hk r w' ⟨h.stack.oth ho h.a1 hQ,own.mono (λb hb=>hb.elim id id) (λb hb=>jd (h.nodes.lt b hb) bel.size) (λad ha hb=>?_),h.ahead.oth ho h.a3.swap hQ,h.wants.oth ho hQ,h.q,(Sl.regA a0 h.a1.swap h.stack).swap,h.a2,Sl.regA a0 h.a3 h.ahead,h.o1,Sl.regO a0 h.o2 hg,h.o3⟩ bel ho a0;obtain h1|h1:=a0 ad ha
 .exact hQ ad h1 hb
 .have:=h.nodes.lt _ hb;omega
def Sr0.pushCh{a:Addr}{x:Ch}{k:Sl->Wp}(h:Sr0 w lo g stk nds ahd ws Q s)(hT:B0 P t 137 5 64)(a4:lo<=w.heap.size)(hg:g<w.heap.size)(hx:chE.rep w Q x cs)(hc:ldc w a cs)(hn:s.stack.length<=100000)
  (hk:∀(r:Sl)(w':Wd),Sr0 w' lo g r nds ahd ws Q {s with stack:=s.stack++[x]}->Below lo w w'->DK stk w w'->k r w'):appS P t t stk (Sl.v ⟨some a,1,1⟩) w k:=by
 have a5:=Al;refine h.stack.push (E:=chE) hT a4 hx hc h.stack.lt h.stack.apart (by show(s.stack.length+1)*64<=Ab;unfold Ab;omega) oM λr w' own bel oth a0=>?_;have ho:DK stk w w':=⟨bel.size,oth⟩;have hQ:=h.stack.apart;refine hk r w' ⟨own.mono (λb hb=>hb.elim id id) (λb hb=>jd (h.stack.lt b hb) bel.size) (λad ha hb=>?_),h.nodes.oth ho h.a1.swap hQ,h.ahead.oth ho h.a2.swap hQ,h.wants.oth ho hQ,h.q,Sl.regA a0 h.a1 h.nodes,Sl.regA a0 h.a2 h.ahead,h.a3,Sl.regO a0 h.o1 hg,h.o2,h.o3⟩ bel ho;obtain h1|h1:=a0 ad ha
 .exact hQ ad h1 hb
 .have:=h.stack.lt _ hb;omega
def Sr0.pushAh{a:Addr}{x:Nat}{k:Sl->Wp}(h:Sr0 w lo g stk nds ahd ws Q s)(hT:B0 P t 3 1 8)(a4:lo<=w.heap.size)(hg:g<w.heap.size)(hc:ldc w a [vi (x:Int)])(hn:s.ahead.length<=100000)
  (hk:∀(r:Sl)(w':Wd),Sr0 w' lo g stk nds r ws Q {s with ahead:=s.ahead++[x]}->Below lo w w'->DK ahd w w'->k r w'):appS P t t ahd (Sl.v ⟨some a,1,1⟩) w k:=by
 have a5:=Al;refine h.ahead.push (E:=Cd) (x:=(x:Int)) hT a4 ⟨rfl,trivial⟩ hc h.ahead.lt h.ahead.apart (by show((s.ahead.map Int.ofNat).length+1)*8<=Ab;rw[dz];unfold Ab;omega) (by rw[dz];omega) λr w' own bel oth a0=>?_;have ho:DK ahd w w':=⟨bel.size,oth⟩;have hQ:=h.ahead.apart;refine hk r w' ⟨h.stack.oth ho h.a2 hQ,h.nodes.oth ho h.a3 hQ,?_,h.wants.oth ho hQ,h.q,h.a1,(Sl.regA a0 h.a2.swap h.stack).swap,(Sl.regA a0 h.a3.swap h.nodes).swap,h.o1,h.o2,Sl.regO a0 h.o3 hg⟩ bel ho;have e:(s.ahead++[x]).map Int.ofNat=s.ahead.map Int.ofNat++[(x:Int)]:=by rw[fq];rfl
 show OwnS Cd 3 w' lo Q r ((s.ahead++[x]).map Int.ofNat);rw[e];refine own.mono (λb hb=>hb.elim id id) (λb hb=>jd (h.ahead.lt b hb) bel.size) (λad ha hb=>?_);obtain h1|h1:=a0 ad ha
 .exact hQ ad h1 hb
 .have:=h.ahead.lt _ hb;omega
def Sr0.oth{w':Wd}{x:Sl}(h:Sr0 w lo g stk nds ahd ws Q s)(ho:DK x w w')(h1:Apart stk x)(h2:Apart nds x)(h3:Apart ahd x)(hQ:∀ad,x.a=some ad-> ¬Q ad.block):Sr0 w' lo g stk nds ahd ws Q s:=
 ⟨h.stack.oth ho h1 hQ,h.nodes.oth ho h2 hQ,h.ahead.oth ho h3 hQ,h.wants.oth ho hQ,h.q,h.a1,h.a2,h.a3,h.o1,h.o2,h.o3⟩
def Sr0.addQ{P:Nat->Prop}(h:Sr0 w lo g stk nds ahd ws Q s)(hP:∀b,P b->lo<=b/\b≠g/\b<w.heap.size)(h1:∀ad,stk.a=some ad-> ¬P ad.block)(h2:∀ad,nds.a=some ad-> ¬P ad.block)(h3:∀ad,ahd.a=some ad-> ¬P ad.block):Sr0 w lo g stk nds ahd ws (λb=>Q b\/P b) s:=
 have key:∀{α:Type} {E:Enc α} {T:TypeId} {x:Sl} {l:List α},OwnS E T w lo Q x l->(∀ad,x.a=some ad-> ¬P ad.block)->OwnS E T w lo (λb=>Q b\/P b) x l:=λo hn=>o.mono (λ_ h=>.inl h) (λb hb=>hb.elim (o.lt b) λhb=>(hP b hb).2.2) λad ha hb=>hb.elim (o.apart ad ha) (hn ad ha)
 ⟨key h.stack h1,key h.nodes h2,key h.ahead h3,h.wants.mono λ_ h=>.inl h,λb hb=>hb.elim (h.q b) λhb=>⟨(hP b hb).1,(hP b hb).2.1⟩,h.a1,h.a2,h.a3,h.o1,h.o2,h.o3⟩
end
def Zii{ns a:LN}{k:Nat}(hk:k<ns.length):(ns++a).set k {ns[k]with edges:=es}=CI ns k es++a:=by
 rw[List.set_append_left _ _ hk];congr 1;unfold CI;apply pd;intro i;rw[mm,List.getElem?_set];by_cases h:k=i
 .subst h;rw[if_pos rfl,if_pos hk,dt hk];simp
 .rw[if_neg h];cases ns[i]? with
  |none=>rfl
  |some n=>simp[h]
def WD{e:LP}{n:Bs}:(tells e n).isSome=e.any (Aw n):=by
 unfold tells;rw[Option.isSome_map];cases h:e.any (Aw n)
 .simp only[pf,ne_eq,List.find?_isSome,not_exists,not_and];intro x hx hp;have:=kg.1 h x hx;exact this hp
 .obtain⟨x,hx,hp⟩:=jg.1 h;rw[List.find?_isSome];exact⟨x,hx,hp⟩
def MO{e:LP}{c:Ch}{v:Ver}(h:tells e c.name=some v):BW e c=e:=by
 unfold BW Eu;have:e.any (Aw c.name)=true:=by rw[<-WD,h];rfl
 cases c.vs[c.i]? with
 |none=>rfl
 |some v=>dsimp only;rw[if_pos this]
def MM{e:LP}{c:Ch}(h:tells e c.name=none)(hi:c.i<c.vs.length):BW e c=e++[⟨c.name,c.vs[c.i]⟩]:=by
 unfold BW Eu;have:e.any (Aw c.name)=false:=by rw[<-WD,h];rfl
 rw[dt hi];dsimp only;rw[if_neg (by rw[this];decide)]
def MN{e:LP}{c:Ch}(hi: ¬c.i<c.vs.length):BW e c=e:=by unfold BW Eu;rw[il oM]
def X5{e:LP}{c:Ch}(h:(e.map (·.name)).Nodup):((BW e c).map (·.name)).Nodup:=by
 cases ht:tells e c.name with
 |some v=>rw[MO ht];exact h
 |none=>
  by_cases hi:c.i<c.vs.length
  .rw[MM ht hi,fq,jb];refine⟨h,by simp,λa ha b hb=>?_⟩;simp only[ib,nw,ep]at hb;subst hb;obtain⟨x,hx,rfl⟩:=gq.1 ha;exact Zj8 ht x hx
  .rw[MN hi];exact h
def X4(e:LP)(c:Ch):(BW e c).length<=e.length+1:=by
 cases ht:tells e c.name with
 |some v=>rw[MO ht];omega
 |none=>
  by_cases hi:c.i<c.vs.length
  .rw[MM ht hi,du];simp
  .rw[MN hi];omega
def Zj3{q:Quest}{env r:LP}{c:LP}(h:CZ q.L q.m.over env p=some c):Cj q env (p::r)=(Cj q env r).map λxs=>⟨p.name,p.v,c,[]⟩::xs:=by rw[Cj,h]
def Zj4{q:Quest}{env r:LP}(h:CZ q.L q.m.over env p=none):Cj q env (p::r)=none:=by rw[Cj,h]
def Zgd{x:Node}(h:ks.findIdx? (λy=>decide (y=x.key))=some i):Bv N ks (x::xs)=(Bv N ks xs).map λr=>(r.1,⟨x.name,(i:Int)⟩::r.2):=by rw[Bv,h]
def Zgc{x:Node}(h:ks.findIdx? (λy=>decide (y=x.key))=none)(hN:ks.length=N):Bv N ks (x::xs)=none:=by rw[Bv,h];dsimp only;rw[if_pos hN]
def Zge{x:Node}(h:ks.findIdx? (λy=>decide (y=x.key))=none)(hN: ¬ks.length=N):Bv N ks (x::xs)=(Bv N (ks++[x.key]) xs).map λr=>(x::r.1,⟨x.name,(ks.length:Int)⟩::r.2):=by rw[Bv,h];dsimp only;rw[if_neg hN]
def Zbh(ns:LN)(x:Node):(ns.map Node.key).findIdx? (λy=>decide (y=x.key))=ns.findIdx? (λy=>decide (y.key=x.key)):=by rw[List.findIdx?_map];rfl
section
variable {w:Wd} {lo:Nat} {sp:Addr} {K:K7} {q:Quest} {s:St}
def SM(hC:Cs w lo q K)(h:CN w lo sp K s)(hI:InvS q 0 s)(hN:q.N<=128)(hD:q.D<=4096)
  (i6:∀w',q.bind s.ns s.ahead.length s.env= .graph->Ext w w'->R 33 w')
  (l9:∀w',q.bind s.ns s.ahead.length s.env= .many->Below lo w w'->R 32 w')
  (v5:∀w' r7,q.bind s.ns s.ahead.length s.env= .ok r7->Below lo w w'->CN w' lo sp K {s with ns:=r7,ahead:=s.ahead++[s.ns.length]}->R 0 w'):
  SE.IJ (some sp) (q.N:Int) w R:=by
 unfold SE.IJ;obtain⟨stk,nds,ahd,ws,Q,hb,l8,h0⟩:=h;have aw:=h0.stack.len;have k8:=h0.ahead.len;have v4:=h0.nodes.len;rw[dz]at k8;have hk:=hI.a;have v2:=hI.n;have hg:=I2 hb;have an:=Al;have hx:s.ns[s.ahead.length]?=some s.ns[s.ahead.length]:=dt hk;obtain⟨ad,cs,v3,⟨ai,c,e,rfl,j3,_⟩,u2⟩:=h0.nodes.el hx;have t9:=Tt hx;have p8:=hI.c _ (ff hk);have q1:s.env=(s.stack.drop s.first).foldl BW s.ns[s.ahead.length].ctx:=by unfold St.env;rw[t9]
 have av:s.stack.length<=4096:=by have:=hI.k;have:=hI.d;omega
 have f9:∀p∈s.ns[s.ahead.length].ctx,Ac p.name:=λp hp=>by obtain⟨i,hi,rfl⟩:=fp.1 hp;obtain⟨_,_,_,h,_⟩:=Dg j3 hi;exact h
 obtain⟨S,r,p6,hS,ar,al⟩:=hC.cat;refine⟨sp,rfl,ahd,BoxAt.at1 hb (k:=9) xR rfl,sp,rfl,nds,BoxAt.at1 hb (k:=8) xR rfl,ad,⟨v3,oM,oM⟩,c,by rw[k8];exact(u2 _ xR).mid (k:=4) rfl,?_⟩;refine SE.IV.go (Tl (S:=Q) h0.nodes.lt j3 λt w1 x1 k0=>⟨_,rfl,bnd.drew λw2 x2=>⟨sp,rfl,stk,BoxAt.at1 hb (k:=7) (x1.trans x2) rfl,sp,rfl,(s.first:Int),BoxAt.at1 hb (k:=11) (x1.trans x2) rfl,⟨oM,by have:=hI.f;omega⟩,?_⟩⟩);have e4:SlR chE w (λb=>Q b\/∃ad,stk.a=some ad/\b=ad.block) (Sl.cut stk s.first stk.len 5) ((s.stack.take stk.len).drop s.first):=SlR.cut (E:=chE) (h0.stack.read (by show s.stack.length*64<=Ab;unfold Ab;omega) oM) (by have:=hI.f;omega) oM;rw[gj oM]at e4;have ef:((s.first:Int)).toNat=s.first:=ec _;rw[ef];generalize k9:Sl.cut stk s.first stk.len 5=y8 at e4 ⊢;have ah:(s.stack.drop s.first).length<=4096:=by rw[fx];omega
 generalize hL:s.stack.drop s.first=L at*;have ak:=e4.len;have z7:=x1.size;have z8:=x2.size;refine loop2.up e4.max (λenv i w'=>Ext w w'/\OwnS pinE 166 w' w.heap.size None' env ((L.take i).foldl BW s.ns[s.ahead.length].ctx)/\(((L.take i).foldl BW s.ns[s.ahead.length].ctx).map (·.name)).Nodup/\(∀p∈(L.take i).foldl BW s.ns[s.ahead.length].ctx,Ac p.name)/\((L.take i).foldl BW s.ns[s.ahead.length].ctx).length<=2048+i)
  ⟨x1.trans x2,k0.ext x2,p8.1,f9,p8.2⟩ λenv i w3 r8 hi ⟨x3,d1,i7,f6,j5⟩ hn=>⟨λg1=>join.named λJ hJ=>?_,λl5=>?_⟩
 .have a5:i<L.length:=oM;obtain⟨n1,y6,o9,_,⟨o4,v,rfl,hv⟩,u0⟩:=e4.el a5;have k4:(L.take (i+1)).foldl BW s.ns[s.ahead.length].ctx=BW ((L.take i).foldl BW s.ns[s.ahead.length].ctx) L[i]:=by rw[dw a5,List.foldl_append];rfl
  rw[k4]at hn;generalize (L.take i).foldl BW s.ns[s.ahead.length].ctx=A at*;generalize L[i]=ch at*;have m4:=x3.size;have kJ:∀f7 w',Ext w w'->OwnS pinE 166 w' w.heap.size None' f7 (BW A ch)->J f7 w':=λf7 w' x' o'=>by
   subst hJ;refine hn a5 _ _ ⟨x',o',X5 i7,λp hp=>?_,by have:=X4 A ch;omega⟩;cases ht:tells A ch.name with
   |some v=>rw[MO ht]at hp;exact f6 p hp
   |none=>
    by_cases hi:ch.i<ch.vs.length
    .rw[MM ht hi]at hp;obtain hp|hp:=fk.1 hp
     .exact f6 p hp
     .simp only[ep]at hp;subst hp;exact o4
    .rw[MN hi]at hp;exact f6 p hp
  clear hJ;have eP:pinE.bytes=40:=rfl;have n9:SlR pinE w3 (λb=>w.heap.size<=b) env A:=d1.readF dC (by rw[eP];unfold Ab;omega);refine⟨n1,⟨o9,oM,g1⟩,_,_,v,_,_,u0 _ x3,newS.intro λa w4 x4 t6 z0 _=>stw0.intro t6 sI λw5 b5 _ f2=>⟨_,f2.at1 (k:=1) xR rfl,?_⟩⟩;have h3:Ext w3 w5:=b5.ext x4 oM;have e0:=x3.trans h3;refine SE.Ho.go (QU (n9.ext h3) (λv' w6 ht x6=>⟨_,_,_,_,rfl,newS.intro λs3 w7 x7 c6 j1 _=>stw0.intro c6 sI λw8 b8 _ i4=>bound ?_⟩) λw6 ht x6=>⟨_,_,_,_,rfl,newS.intro λs3 w7 x7 c6 j1 _=>stw0.intro c6 sI λw8 b8 _ i4=>bound ?_⟩)
  .have b2:Ext w5 w8:=x6.trans (b8.ext x7 oM);refine⟨0,nO,Sl.nil,nO,nO,λ_=>kJ _ _ (e0.trans b2) ?_⟩;rw[MO ht];exact d1.ext (h3.trans b2)
  .have b2:Ext w5 w8:=x6.trans (b8.ext x7 oM);have e3:=e0.trans b2;have ay:=hv.len;refine⟨(ch.i:Int),λ_=>f2.at1 (k:=4) b2 rfl,v,λ_=>f2.at1 (k:=2) b2 rfl,λhh=>?_,λhh=>?_⟩
   .have i5:ch.i<ch.vs.length:=(by simp at hh;omega);obtain⟨n2,y7,p0,_,⟨l0,_⟩,u1⟩:=hv.el i5;subst l0;refine bnd.drew λw9 x9=>⟨_,f2.at1 (k:=1) (b2.trans x9) rfl,v,f2.at1 (k:=2) (b2.trans x9) rfl,(ch.i:Int),f2.at1 (k:=4) (b2.trans x9) rfl,n2,⟨p0,oM,oM⟩,_,_,_,u1 _ (e3.trans x9),newS.intro λac c3 c7 d0 _ _=>?_⟩;refine(d1.ext (((h3.trans b2).trans x9).trans c7)).pushF (((e3.trans x9).trans c7)) Jw (x:=⟨ch.name,ch.vs[ch.i]⟩) ⟨rfl,o4⟩ d0.ldc dC (by rw[eP];unfold Ab;omega) λr' d5 e8 c4=>kJ r' d5 c4 ?_;rw[MM ht i5];exact e8
   .have i5: ¬ch.i<ch.vs.length:=(by simp at hh;omega);refine kJ _ _ e3 ?_;rw[MN i5];exact d1.ext (h3.trans b2)
 .have l6:i=L.length:=oM;rw[l6,eh,<-q1]at d1 i7 f6 j5;have m4:=x3.size;have s8:s.env.length<=7000:=oM;generalize ag:s.env=E0 at*;have hF:FlatO AW 40 w3 w.heap.size env E0:=FlatO.of (E:=pinE) (f:=AW) (bytes:=40) (λx cs h=>h.1) d1 (by unfold Ab;omega);refine Ziy hF m4 i7 λw4 b4 o0=>⟨rfl,?_⟩;have m9:Ext w w4:=x3.trans' b4;have au:=m9.size;have r6:∀p∈BA E0,Ac p.name:=λp hp=>f6 p ((EP E0).mem_iff.1 hp);have hE:SlR pinE w4 (λb=>w.heap.size<=b/\b<w4.heap.size) env (BA E0):=o0.pins r6;have y9:(BA E0).length<=7000:=by rw[(EP E0).length_eq];exact s8
  have b0:q.bind s.ns s.ahead.length E0=match Cj q (BA E0) (BA E0)with
   |none=>.graph
   |some xs=>match Bv q.N (s.ns.map Node.key) xs with
    |none=>.many
    |some r=>.ok (CI s.ns s.ahead.length r.2++r.1):=rfl
  generalize BA E0=ES at*;clear d1 i7 f6 j5 hF o0 f9 hn b4 x3 m4 hi l5 k0;have am:=hE.len;refine loop2.up hE.max (λtg i w'=>Ext w4 w'/\∃(SS:Nat->Prop) (done:LN),OwnS nodeE 72 w' w4.heap.size SS tg done/\(∀b,SS b->w4.heap.size<=b)/\Cj q ES ES=(Cj q ES (ES.drop i)).map (λr=>done++r)/\done.length=i)
   ⟨Ext.refl _,None',[],OwnS.nil _ _,λ_ h=>h.elim,by rw[jv];cases Cj q ES ES<;>rfl,rfl⟩ λtg i w5 r8 hi ⟨x5,SS,done,d8,o8,g6,u3⟩ hn=>⟨λg1=>?_,λl5=>?_⟩
  .have a5:i<ES.length:=oM;obtain⟨s4,t3,_,o5,t8⟩:=Dg hE a5;rw[fu a5]at g6;generalize ES[i]=p at*;have v7:=x5.size;refine⟨s4,⟨t3,oM,g1⟩,_,_,_,_,t8 _ x5,newS.intro λa6 w6 x6 d4 z1 _=>stw0.intro d4 sI λw7 b7 _ c6=>bnd.drew λw8 x8=>?_⟩;have y5:Ext w5 w7:=b7.ext x6 oM;have b2:=y5.trans x8;have n0:=x5.trans b2;have e3:=m9.trans n0;have x0:=b2.size;refine⟨sp,rfl,some K.cp,BoxAt.at0 hb e3 rfl,sp,rfl,K.mD,K.mDev,K.mOpt,K.mOv,BoxAt.at1 hb (k:=1) e3 rfl,_,_,_,_,c6.at0 (r:=[]) x8 rfl,?_⟩;have n8:=hC.below (e3.below' lo hC.le);refine SE.M5.go (Zlk (p6.ext e3) n8.old (S3:=λb=>w.heap.size<=b/\b<w4.heap.size) (λb hb=>by have:=n0.size;omega) n8.over (hE.ext n0) o5 (λcx t w9 g4 x9 s9 r5=>⟨_,_,rfl,nO,λ_=>?_⟩) λw9 g4 x9=>⟨_,_,rfl,λ_=>?_,nO⟩)
   .have r3:=x9.size;have s0:=x8.trans x9;refine⟨_,c6.at0 s0 rfl,_,_,_,c6.at1 (k:=1) (r:=[]) s0 rfl,newS.intro λab c3 c7 d0 t5 _=>?_⟩;have h4:=(b2.trans x9).trans c7;have g5:=c7.size;refine(d8.ext h4).push (E:=nodeE) OW (x:=⟨p.name,p.v,cx,[]⟩) (S':=λb=>w8.heap.size<=b/\b<w9.heap.size) (by have:=h4.size;omega) ⟨o5,t,Sl.nil,rfl,(s9.pins r5).ext c7,SlR.nil trivial⟩ d0.ldc (λb hb=>by omega) (λad a0 hb=>by have:=(d8.block a0).2.1;omega) (by show(done.length+1)*88<=Ab;unfold Ab;omega) oM λr' d5 e8 c9 y2 y3=>?_;refine hn a5 _ _ ⟨(x5.trans h4).trans' c9,_,done++[⟨p.name,p.v,cx,[]⟩],e8,λb hb=>?_,?_,by rw[du,u3];rfl⟩
    .obtain hb|hb:=hb
     .exact o8 b hb
     .omega
    .rw[g6,Zj3 g4,Option.map_map];congr 1;funext r;simp
   .refine i6 w9 ?_ (e3.trans x9);rw[b0,g6,Zj4 g4];rfl
  .have l6:i=ES.length:=oM;have j8:Cj q ES ES=some done:=(by rw[g6,l6,li,Cj];simp);rw[j8]at b0;dsimp only at b0;clear g6 hn j8;have v7:=x5.size;have e0:=m9.trans x5;have z4:=e0.size;generalize done=xs at*;have az:xs.length<=7000:=oM;obtain⟨ST,k6,f8⟩:∃ST,SlR nodeE w5 ST tg xs/\∀b,ST b->w4.heap.size<=b/\b<w5.heap.size:=⟨_,d8.read (by show xs.length*88<=Ab;unfold Ab;omega) oM,λb hb=>by
    rcases hb with hb|⟨ad,a0,rfl⟩
    .exact⟨o8 b hb,d8.lt b hb⟩
    .exact⟨(d8.block a0).1,(d8.block a0).2.1⟩⟩
   have q5:∀ad,nds.a=some ad->ad.block<w.heap.size:=λad a0=>(h0.nodes.block a0).2.1;have j2:∀ad,ahd.a=some ad->ad.block<w.heap.size:=λad a0=>(h0.ahead.block a0).2.1;have j7:∀ad,stk.a=some ad->ad.block<w.heap.size:=λad a0=>(h0.stack.block a0).2.1;obtain⟨Q2,h5,t0,o7⟩:∃Q2,Sr0 w5 lo sp.block stk nds ahd ws Q2 s/\(∀b,Q2 b->b<w5.heap.size)/\∀b,ST b->Q2 b:=⟨_,h0.grow e0 hC.le hg,λb hb=>by
    obtain hb|hb:=hb
    .have:=h0.nodes.lt b hb;omega
    .exact hb.2,λb hb=>.inr ⟨by have:=f8 b hb;omega,(f8 b hb).2⟩⟩
   have ax:=k6.len;refine⟨sp,rfl,nds,BoxAt.at1 hb (k:=8) e0 rfl,?_⟩;refine loop2.up k6.max (λeg i w'=>∃(a4:Sl) (added:LN) (es:LQ),BoxAt w' sp (CK K stk a4 ahd ws s.first)/\Sr0 w' lo sp.block stk a4 ahd ws Q2 {s with ns:=s.ns++added}/\(∀ad,a4.a=some ad->ad.block<w.heap.size\/w5.heap.size<=ad.block)/\Below lo w5 w'/\(∀b,w.heap.size<=b->b<w5.heap.size->w'.heap[b]?=w5.heap[b]?)/\
     OwnS edgeE 168 w' w5.heap.size None' eg es/\Apart eg a4/\Bv q.N (s.ns.map Node.key) xs=(Bv q.N ((s.ns++added).map Node.key) (xs.drop i)).map (λr=>(added++r.1,es++r.2))/\es.length=i/\(s.ns++added).length<=q.N)
    ⟨nds,[],[],hb.ext e0,by rw[gd];exact h5,λad a0=>.inl (q5 ad a0),Below.refl _ _,λ_ _ _=>rfl,OwnS.nil _ _,λ_ _ h=>(by cases h),by rw[gd,jv];cases Bv q.N (s.ns.map Node.key) xs<;>rfl,rfl,by rw[gd];exact v2⟩
    λeg i w6 r8 hi ⟨a4,added,es,d4,h6,g2,d6,g7,d2,i3,f5,q2,q8⟩ hn=>⟨λg1=>?_,λl5=>?_⟩
   .have a5:i<xs.length:=oM;have v8:=d6.size;have t1:SlR nodeE w6 ST tg xs:=k6.keep λb hb t7=>g7 b (by have:=f8 b hb;omega) t7;obtain⟨s5,ae,t4,_,⟨o6,cy,ey,rfl,p9,u5⟩,p7⟩:=t1.el a5;rw[fu a5]at f5;have g3:=h6.nodes.len;generalize xs[i]=x at*;refine⟨s5,⟨t4,oM,g1⟩,_,_,_,_,cy,ey,p7 _ xR,newS.intro λa7 w7 x7 c6 j1 _=>stw0.intro c6 sI λw8 b8 _ i4=>?_⟩;have v9:=x7.size;have h9:Ext w6 w8:=b8.ext x7 oM;have x0:=h9.size;have q6:SlR nodeE w8 (λb=>Q2 b\/∃ad,a4.a=some ad/\b=ad.block) a4 (s.ns++added):=(h6.nodes.ext h9).read (by show(s.ns++added).length*88<=Ab;unfold Ab;omega) (by show(s.ns++added).length<=maxLen;omega);have z6:sp.block<w.heap.size:=hg;have aa:w5.heap.size<=w8.heap.size:=oM;refine⟨sp,rfl,a4,BoxAt.at1 d4 (k:=8) h9 rfl,SE.LY.go (Zcb (p:=λy=>decide (y.key=x.key)) q6 (λy _ c' e' bb k j9 q0 hk=>⟨_,_,rfl,ZI,SE.L4.go (Yb (x:=x) (y:=y) (i4.ext j9) ((p9.ext h9).ext j9) q0 hk)⟩) λw9 x9=>⟨_,rfl,join.named λJ hJ=>?_⟩)⟩;have d3:=h9.trans x9;have r3:=d3.size;have f4:=i4.ext x9;have kJ:∀(to:Int)(c3:Wd)(d7:Sl)(a8:LN),BoxAt c3 a7 [.string x.name,vi x.v.ma,vi x.v.mi,vi x.v.pa,cy.v,ey.v]->BoxAt c3 sp (CK K stk d7 ahd ws s.first)->Sr0 c3 lo sp.block stk d7 ahd ws Q2 {s with ns:=s.ns++a8}->(∀ad,d7.a=some ad->ad.block<w.heap.size\/w5.heap.size<=ad.block)->Below lo w5 c3->(∀b,w.heap.size<=b->b<w5.heap.size->c3.heap[b]?=w5.heap[b]?)->
      OwnS edgeE 168 c3 w5.heap.size None' eg es->Apart eg d7->Bv q.N (s.ns.map Node.key) xs=(Bv q.N ((s.ns++a8).map Node.key) (xs.drop (i+1))).map (λr=>(a8++r.1,(es++[⟨x.name,to⟩])++r.2))->(s.ns++a8).length<=q.N->J to c3:=by
     subst hJ;intro to c3 d7 a8 d0 m5 i2 m0 c8 m6 g9 j0 m3 m2;refine⟨_,d0.at0 xR rfl,newS.intro λs2 d5 c4 e5 k7 _=>?_⟩;have g5:=c8.size;have r1:=c4.size;have c9:Below lo w5 d5:=Below.trans c8 (c4.below' lo (by have:=hC.le;omega));refine(g9.ext c4).push (E:=edgeE) MQ (x:=⟨x.name,to⟩) (S':=None') oM ⟨rfl,o6⟩ e5.ldc (λ_ h=>h.elim) (λ_ _ h=>h.elim) (by show(es.length+1)*24<=Ab;unfold Ab;omega) oM λr' i9 m7 b9 g8 d9=>?_;have r2:=b9.size;have ho:DK eg d5 i9:=⟨b9.size,g8⟩;have b6:∀ad,eg.a=some ad->w5.heap.size<=ad.block:=λad a0=>(g9.block a0).1;refine hn a5 r' i9 ⟨d7,a8,es++[⟨x.name,to⟩],(m5.ext c4).oth ho (λad a0=>by have:=b6 ad a0;omega),(i2.ext c4).oth ho (λa b ha hb=>by have:=j7 a ha;have:=b6 b hb;omega) j0.swap (λa b ha hb=>by have:=j2 a ha;have:=b6 b hb;omega) (λad a0 hq=>by have:=b6 ad a0;have:=t0 _ hq;omega),m0,
      Below.trans c9 (Below.mono b9 (by have:=hC.le;omega)),λb h1 h2=>?_,m7.mono (λ_ h=>h.elim id id) (λ_ h=>h.elim) (λ_ _ h=>h.elim),Sl.regA d9 j0 (i2.nodes.ext c4),m3,by rw[du,q2];rfl,m2⟩
     rw[g8 b oM λad a0 e=>by have:=b6 ad a0;omega,c4.block oM];exact m6 b h1 h2
    clear hJ;have e6:=Zbh (s.ns++added) x;have q9:(s.ns++added).length=s.ns.length+added.length:=du;cases hf:(s.ns++added).findIdx? (λy=>decide (y.key=x.key))with
    |some j=>have g0:AU (λy:Node=>decide (y.key=x.key)) (s.ns++added)=(j:Int):=(by unfold AU;rw[hf]);rw[g0];rw[hf]at e6;refine⟨λh=>by omega,λ_=>kJ (j:Int) w9 a4 added f4 (d4.ext d3) (h6.ext d3) g2 (Below.trans d6 (d3.below' lo (by have:=hC.le;omega))) (λb h1 h2=>by rw[d3.block oM];exact g7 b h1 h2) (d2.ext d3) i3 ?_ q8⟩;rw[f5,Zgd e6,Option.map_map];congr 1;funext r;simp
    |none=>
     have g0:AU (λy:Node=>decide (y.key=x.key)) (s.ns++added)= -1:=(by unfold AU;rw[hf]);rw[g0];rw[hf]at e6;have l7:a4.len=(s.ns++added).length:=g3;refine⟨λ_=>⟨sp,rfl,a4,BoxAt.at1 d4 (k:=8) d3 rfl,λu6=>?_,λaq=>?_⟩,λh=>absurd dC h⟩
     .refine l9 w9 ?_ (Below.trans (Below.trans (e0.below' lo hC.le) d6) (d3.below' lo (by have:=hC.le;omega)));rw[b0,f5,Zgc e6 (by rw[dz];omega)];rfl
     .refine⟨sp,rfl,a4,BoxAt.at1 d4 (k:=8) d3 rfl,bnd.drew λc3 c7=>⟨sp,rfl,a4,BoxAt.at1 d4 (k:=8) (d3.trans c7) rfl,_,_,_,_,cy,ey,f4.at0 (r:=[]) c7 rfl,newS.intro λs2 d5 c4 e5 k7 _=>?_⟩⟩;have g5:=c7.size;have r1:=c4.size;have c5:=(d3.trans c7).trans c4;have c9:Below lo w5 d5:=Below.trans d6 (c5.below' lo (by have:=hC.le;omega));refine Sr0.pushNd (x:=x) (h6.ext c5) OW (by have:=hC.le;omega) oM ⟨o6,cy,ey,rfl,(p9.ext c5).mono o7,(u5.ext c5).mono o7⟩ e5.ldc (by show(s.ns++added).length<=1000;omega) λr' i9 s6 b9 e9 d9=>?_;have r2:=b9.size;have z3:∀ad,a4.a=some ad->ad.block<d5.heap.size:=λad a0=>(by have:=(h6.nodes.block a0).2.1;omega);have q7:∀ad,a4.a=some ad->a7.block≠ad.block:=λad a0=>(by have:=(h6.nodes.block a0).2.1;omega);have p4:BoxAt i9 sp (CK K stk a4 ahd ws s.first):=(d4.ext c5).oth e9 λad a0 e=>h6.o2 ad a0 e.symm;refine⟨sp,rfl,?_⟩;refine stw.intro (o:=8) p4 (by show 9<=12;omega) λy4 f1 z9 p5=>?_;have z5:=f1.1;have m1:a7.block≠sp.block:=oM;have v6:∀ad,r'.a=some ad->ad.block<w.heap.size\/w5.heap.size<=ad.block:=λad a0=>by
       obtain h|h:=d9 ad a0
       .exact g2 ad h
       .right;omega
      have n7:Apart eg r':=(Sl.regA d9 i3.swap (d2.ext c5)).swap;have y0:((a4.len:Int))=(((s.ns++added).map Node.key).length:Int):=(by rw[dz,l7]);rw[y0];refine kJ _ y4 r' (added++[x]) (f1.box ((f4.ext (c7.trans c4)).oth e9 q7) m1) p5 ?_ v6 (Below.trans (Below.trans c9 b9) (f1.below (by have:=hC.le;omega) l8)) (λb h1 h2=>?_) ?_ n7 ?_ ?_
      .have s7:=s6.but f1;have e1:s.ns++added++[x]=s.ns++(added++[x]):=fg _ _ _;rw[<-e1];exact s7
      .rw[f1.2.2.2.2 b oM oM,e9.2 b oM λad a0 e=>by rcases g2 ad a0 with h|h<;>omega,c5.block oM];exact g7 b h1 h2
      .exact((d2.ext c5).oth e9 i3 λ_ _ h=>h.elim).but f1 (λh=>h.elim) λad a0=>by have:=(d2.block a0).1;omega
      .have e2:(s.ns++(added++[x])).map Node.key=(s.ns++added).map Node.key++[x.key]:=(by rw[<-fg];exact fq);rw[f5,Zge e6 (by rw[dz];omega),Option.map_map,e2];congr 1;funext r;simp
      .rw[du,du];rw[gl];omega
   .have u9:i=xs.length:=oM;have j6:Bv q.N (s.ns.map Node.key) xs=some (added,es):=(by rw[f5,u9,li,Bv];simp);rw[j6]at b0;dsimp only at b0;clear f5 j6 hn;have v8:=d6.size;have q9:(s.ns++added).length=s.ns.length+added.length:=du;have q3:s.ahead.length<(s.ns++added).length:=oM;have y1:(s.ns++added)[s.ahead.length]?=some (s.ns++added)[s.ahead.length]:=dt q3;obtain⟨f0,af,e7,_,_⟩:=h6.nodes.el y1;have g3:a4.len=(s.ns++added).length:=h6.nodes.len;have u4:=d2.read (by show es.length*24<=Ab;unfold Ab;omega) oM;have b6:∀ad,eg.a=some ad->w5.heap.size<=ad.block/\ad.block<w6.heap.size:=λad a0=>⟨(d2.block a0).1,(d2.block a0).2.1⟩;have h7:=h6.addQ (P:=λb=>∃ad,eg.a=some ad/\b=ad.block) (λb ⟨ad,a0,e⟩=>by have:=b6 ad a0;have:=hC.le;subst e;exact⟨oM,oM,oM⟩) (λa ha ⟨b,hb,e⟩=>by have:=j7 a ha;have:=b6 b hb;omega) (λa ha ⟨b,hb,e⟩=>i3 b a hb ha e.symm) (λa ha ⟨b,hb,e⟩=>by have:=j2 a ha;have:=b6 b hb;omega);have j4:SlR edgeE w6 (λb=>Q2 b\/∃ad,eg.a=some ad/\b=ad.block) eg es:=u4.mono λb hb=>by
     obtain hb|hb:=hb
     .exact hb.elim
     .exact .inr hb
    generalize aj:(λb=>Q2 b\/∃ad,eg.a=some ad/\b=ad.block)=Q3 at h7 j4;refine⟨sp,rfl,a4,BoxAt.at1 d4 (k:=8) xR rfl,f0,⟨e7,oM,oM⟩,?_⟩;rw[k8];have u7:(s.ns++added)[s.ahead.length]=s.ns[s.ahead.length]:=List.getElem_append_left hk;refine h7.nodes.setEl (i:=s.ahead.length) (x:={s.ns[s.ahead.length]with edges:=es}) (o:=5) (new:=[eg.v]) q3 e7 (λcs k9=>?_) (by show 5+1<=6;omega) λw7 b7 ba r9=>?_
    .rw[u7]at k9;obtain⟨k1,c',e',rfl,k2,k3⟩:=k9;exact⟨k1,c',eg,rfl,k2,j4⟩
    have r4:(s.ns++added).set s.ahead.length {s.ns[s.ahead.length]with edges:=es}=CI s.ns s.ahead.length es++added:=Zii hk;have m8:OwnS nodeE 72 w7 lo Q3 a4 (CI s.ns s.ahead.length es++added):=(by rw[<-r4];exact r9);have k5:=h7.nodes.apart f0 e7;have h8:Sr0 w7 lo sp.block stk a4 ahd ws Q3 {s with ns:=CI s.ns s.ahead.length es++added}:=⟨h7.stack.but b7 k5 λa ha e=>h7.a1 a f0 ha e7 e.symm,m8,h7.ahead.but b7 k5 λa ha=>h7.a3 f0 a e7 ha,h7.wants.but b7 k5,h7.q,h7.a1,h7.a2,h7.a3,h7.o1,h7.o2,h7.o3⟩;have c6:=b7.box d4 (λe=>h6.o2 f0 e7 e.symm);have v9:=b7.1;have v0:lo<=f0.block:=(h7.nodes.block e7).1;have n5:Below lo w w7:=Below.trans (Below.trans (e0.below' lo hC.le) d6) (b7.below (by have:=hC.le;omega) v0);refine⟨sp,rfl,ahd,BoxAt.at1 c6 (k:=9) xR rfl,newS.intro λa9 w9 x9 f4 z2 _=>?_⟩;have r3:=x9.size;rw[v4]at f4;have q4:lo<=w9.heap.size:=(by have:=hC.le;omega);refine Sr0.pushAh (x:=s.ns.length) (h8.ext x9) OV q4 oM f4.ldc (by show s.ahead.length<=100000;omega) λr' c3 i2 c8 r0=>⟨sp,rfl,?_⟩;have d0:BoxAt c3 sp (CK K stk a4 ahd ws s.first):=(c6.ext x9).oth r0 λad a0 e=>h0.o3 ad a0 e.symm;have g5:=c8.size;refine stw.intro (o:=9) d0 (by show 10<=12;omega) λd5 n4 _ e5=>v5 d5 _ b0 ?_ ⟨stk,a4,r',ws,Q3,e5,l8,i2.but n4⟩;exact Below.trans (Below.trans (Below.trans n5 (x9.below' lo (by have:=hC.le;omega))) c8) (n4.below (by have:=hC.le;omega) l8)
end
def EndN(q:Quest):Nat->Lb->St->Stp->Prop
 |0,l,s,r=>q.step l s=r/\∀l1 s1,r≠ .go l1 s1
 |n+1,l,s,r=>∃l1 s1,q.step l s= .go l1 s1/\EndN q n l1 s1 r
def End.steps{q:Quest}{l:Lb}{s:St}{r:Stp}(h:q.End l s r):∃n,EndN q n l s r:=by
 induction h with
 |done h=>exact⟨0,h,(λ_ _ h=>by cases h)⟩
 |err h=>exact⟨0,h,(λ_ _ h=>by cases h)⟩
 |step h _ ih=>obtain⟨n,hn⟩:=ih;exact⟨n+1,_,_,h,hn⟩
def EndN.go{q:Quest}{l l1:Lb}{s s1:St}{r:Stp}(h:EndN q n l s r)(hs:q.step l s= .go l1 s1):∃m,m<n/\EndN q m l1 s1 r:=by
 cases n with
 |zero=>obtain⟨h1,h2⟩:=h;rw[hs]at h1;exact absurd h1.symm (h2 _ _)
 |succ n=>obtain⟨l2,s2,h1,h2⟩:=h;rw[hs]at h1;cases h1;exact⟨n,mz n,h2⟩
def EndN.fin{q:Quest}{l:Lb}{s:St}{r r':Stp}(h:EndN q n l s r)(hs:q.step l s=r')(hr:∀l1 s1,r'≠ .go l1 s1):r=r':=by
 cases n with
 |zero=>rw[<-hs];exact h.1.symm
 |succ n=>obtain⟨l2,s2,h1,_⟩:=h;rw[hs]at h1;exact absurd h1 (hr _ _)
def gotos2.ghost{α β:Type}{first:(Nat->α->β->Wp)->Prop}{pass:Nat->α->β->Wd->(Nat->α->β->Wp)->Prop}(J:Nat->Nat->α->β->Wp)(h0:first λl a b w=>∃n,J n l a b w)
  (hs:∀n l a b w a0,J n l a b w->(∀m l' a' b' w',m<n->J m l' a' b' w'->a0 l' a' b' w')->pass l a b w a0):gotos2 first pass:=
 ⟨λl a b w=>∃n,J n l a b w,λl a b w=>I0 λn=>J n l a b w,h0,λl a b w ⟨n,h⟩=>hs _ l a b w _ (I1 (p:=λn=>J n l a b w) h).1 λm l' a' b' w' hm hJ=>⟨⟨m,hJ⟩,nf ((I1 (p:=λn=>J n l' a' b' w') hJ).2 m hJ) hm⟩⟩
def Qe:Lb->Nat
 | .next=>1
 | .tri=>0
 | .back=>2
def AF(L:List Pack)(m:Mani)(dev:Bool)(pins:LP)(D N:Int):Stp:=
 if AV m=true/\1<=D/\D<=4096/\1<=N/\N<=128 then Quest.res ⟨L,m,dev,pins,D.toNat,N.toNat⟩else .err 1
def Sr0.setStk{g:Nat}{stk nds ahd ws stk':Sl}{Q:Nat->Prop}{s:St}{l1:List Ch}(h:Sr0 w lo g stk nds ahd ws Q s)(e1:stk'.a=stk.a)(h1:OwnS chE 137 w lo Q stk' l1):Sr0 w lo g stk' nds ahd ws Q {s with stack:=l1}:=
 ⟨h1,h.nodes,h.ahead,h.wants,h.q,λa b ha hb=>h.a1 a b (e1▸ha) hb,λa b ha hb=>h.a2 a b (e1▸ha) hb,h.a3,λa ha=>h.o1 a (e1▸ha),h.o2,h.o3⟩
structure RunC(w0:Wd)(q:Quest)(a1 a3:Addr)(D N d3 d4:Int)(lo:Nat)(K:K7)(w:Wd):Prop where
 wl:w0.heap.size<=lo
 ext:Ext w0 w
 cs:Cs w lo q K
 b1:BoxAt w a1 [vi D,vi N,vi d3,vi d4]
 l1:a1.block<lo
 b3:BoxAt w a3 [Sl.nil.v]
 l3:a3.block<lo
 n3:w0.heap.size<=a3.block
def RunC.below{w':Wd}{q:Quest}{a1 a3:Addr}{N:Int}{K:K7}(h:RunC w0 q a1 a3 D N d3 d4 lo K w)(hb:Below lo w w'):RunC w0 q a1 a3 D N d3 d4 lo K w':=
 ⟨h.wl,h.ext.trans' (Below.mono hb h.wl),h.cs.below hb,h.b1.below hb h.l1,h.l1,h.b3.below hb h.l3,h.l3,h.n3⟩
def Sg(w0:Wd)(q:Quest)(a1 a3:Addr)(D N d3 d4:Int)(n l:Nat)(vs:Option Addr)(d:Int)(w:Wd):Prop:=
 ∃lo sp K lb s,l=Qe lb/\vs=some sp/\d=(s.dec:Int)/\RunC w0 q a1 a3 D N d3 d4 lo K w/\CN w lo sp K s/\InvL q lb s/\EndN q n lb s q.res
def Zib{L:List Pack}{dev:Bool}{pins:LP}{SA:Nat->Prop}{cp:Addr}{rr:Nat}{mD mDev mOpt mOv pS:Sl}{N:Int}{R:Sl->Int->Int->Wp}(ht:Tab w0)(m5:Old SA w0)
  (i9:CatL w0 S cp rr L) (hS:Old S w0) (s8:rr<w0.heap.size) (s3:cp.block<w0.heap.size) (hd:SlR depE w0 SA mD m.deps) (he:SlR depE w0 SA mDev m.dev) (ho:SlR depE w0 SA mOpt m.opt) (hv:SlR depE w0 SA mOv m.over) (hp:SlR pinE w0 SA pS pins)
  (g0:∀e w',AF L m dev pins D N= .err e->Ext w0 w'->R Sl.nil 0 e w')
  (f9:∀ns t nds w',AF L m dev pins D N= .done ns t->Ext w0 w'->SlR nodeE w' (λb=>w0.heap.size<=b/\b<w'.heap.size) nds ns->R nds (t:Int) 0 w'):
  SE.IH (some cp) mD mDev mOpt mOv dev pS D N d3 d4 w0 R:=by
 unfold SE.IH;have s5:=Al;have a7:GoodL L:=i9.good;refine newS.intro λa wa xa ha s2 _=>newS.intro λa1 wb xb e9 r4 _=>newS.intro λa3 wc xc j7 r2 _=>?_;have e6:=xa.trans (xb.trans xc);have o7:=xb.trans xc;have f1:=xa.size;have t0:=xb.size;have t3:=xc.size;have s4:=j7.lt;have d5:∀n r p,(D9 L n r p).length<=1000:=λn r p=>fe (SZ a7 n r p) oM;generalize hq:(⟨L,m,dev,pins,D.toNat,N.toNat⟩:Quest)=q;have o0:q.L=L:=by rw[<-hq]
 have s7:q.N=N.toNat:=by rw[<-hq]
 have s6:q.D=D.toNat:=by rw[<-hq]
 rw[<-o0]at a7 d5;refine gotos2.ghost (λn l vs d w=>(AV m=true/\1<=D/\D<=4096/\1<=N/\N<=128)/\Sg w0 q a1 a3 D N d3 d4 n l vs d w) ?first ?pass
 case first=>
  refine bound ⟨mD,mDev,mOpt,mOv,λ_=>ha.at0 (r:=[]) o7 rfl,?_⟩;refine gCall.intro (AV m) (λ_ q' p9=>SE.FX.go (NJ (ht.ext e6) (m5.ext e6.size) (hd.ext e6) (he.ext e6) (ho.ext e6) (hv.ext e6) λw' hx=>⟨_,rfl,p9 _ hx⟩)) λt1 wd xd q5=>?_;have l9:=e6.trans xd;have h9:=xc.trans xd;have t4:=l9.size;have r7:=xd.size;have o4:=q5 rfl;subst o4;refine bound ⟨D,λ_=>e9.at0 h9 rfl,bound ⟨D,λ_=>e9.at0 h9 rfl,bound ⟨N,λ_=>e9.at1 (k:=1) h9 rfl,bound ⟨N,λ_=>e9.at1 (k:=1) h9 rfl,λi6=>?_,λg1=>?_⟩⟩⟩⟩
  .have p7: ¬(AV m=true/\1<=D/\D<=4096/\1<=N/\N<=128):=λ⟨h1,h2,h3,h4,h5⟩=>(by rw[h1]at i6;simp at i6;omega);refine stw0.intro (j7.ext xd) sI λwe be _ d8=>⟨Sl.nil,d8.at0 (r:=[]) xR rfl,g0 1 we ?_ (be.ext l9 oM)⟩;unfold AF;rw[if_neg p7]
  .have f0:AV m=true/\1<=D/\D<=4096/\1<=N/\N<=128:=(by simp at g1;obtain⟨⟨⟨⟨h1,h2⟩,h3⟩,h4⟩,h5⟩:=g1;exact⟨h1,oM,oM,oM,oM⟩);have e2:AF L m dev pins D N=q.res:=(by unfold AF;rw[if_pos f0,hq]);refine⟨mD,mDev,mOpt,mOv,ha.at0 (r:=[]) (o7.trans xd) rfl,?_⟩;refine newS.own (E:=nodeE) (x:=rootNode) ⟨by show(0:Nat)<=maxLen;omega,Sl.nil,Sl.nil,rfl,SlR.nil trivial,SlR.nil trivial⟩ λm1 wf xf j2 r9=>newS.intro λsp w xg a6 r8 _=>?_;have t5:=xf.size;have t6:=xg.size;have m0:=xf.trans xg;have e7:=l9.trans m0;generalize r6:wd.heap.size=lo at*;have o6:lo<=w.heap.size:=oM;have hm:q.m=m:=(by rw[<-hq]);have m8:q.dev=dev:=(by rw[<-hq]);have k5:q.pins=pins:=(by rw[<-hq]);have g9:∀b,SA b->b<lo:=λb hb=>(by have:=m5 b hb;omega);have a5:Cs w lo q ⟨cp,mD,mDev,mOpt,mOv,dev,pS⟩:=⟨⟨S,rr,by rw[o0];exact i9.ext e7,λb hb=>by have:=hS b hb;omega,oM,by show cp.block<lo;omega⟩,by rw[hm];exact(hd.ext e7).mono g9,by rw[hm];exact(he.ext e7).mono g9,by rw[hm];exact(ho.ext e7).mono g9,by rw[hm];exact(hv.ext e7).mono g9,by rw[k5];exact(hp.ext e7).mono g9,m8.symm,o6,by rw[hm];exact Zeg f0.1⟩;generalize hK:(⟨cp,mD,mDev,mOpt,mOv,dev,pS⟩:K7)=K at a5;have m4:RunC w0 q a1 a3 D N d3 d4 lo K w:=⟨oM,e7,a5,e9.ext (h9.trans m0),by have:=e9.lt;omega,(j7.ext xd).ext m0,oM,oM⟩;have c3:lo<=sp.block:=oM;have j0:∀{α:Type} {E:Enc α} {T:TypeId},OwnS E T w lo None' Sl.nil ([]:List α):=λ{α E T}=>OwnS.nil _ _;have i3:Sr0 w lo sp.block Sl.nil ⟨some m1,1,1⟩ Sl.nil Sl.nil None' ⟨[],[rootNode],[],[],0,0⟩:=⟨j0,j2.ext xg,j0,SlR.nil trivial,λ_ h=>h.elim,(λ_ _ h=>by cases h),(λ_ _ h=>by cases h),(λ_ _ _ h=>by cases h),(λ_ h=>by cases h),λad d0 e=>(by simp only[eu]at d0;subst d0;have:=(j2.block rfl).2.1;omega),(λ_ h=>by cases h)⟩;have i7:BoxAt w sp (CK K Sl.nil ⟨some m1,1,1⟩ Sl.nil Sl.nil 0):=(by rw[<-hK];exact a6);refine SE.Hm.go (Ph (s:=⟨[],[rootNode],[],[],0,0⟩) a5 ⟨_,_,_,_,_,i7,c3,i3⟩ (by show 0<1;omega) λwh m3 g8=>⟨rfl,?_⟩);have b5:=m4.below m3;clear a6 i7 i3 a5 m4;obtain⟨n,a8⟩:=End.steps (Zh9 (q:=q) oM);have hI:InvL q .next q.start:=InvL.start oM;have hI:InvS q 0 q.start:=hI;have g8:CN wh lo sp K q.start:=g8;obtain⟨stk,nds,ahd,ws,Q,a6,e8,h0⟩:=g8;have a5:=b5.cs;have k7:=h0.stack.len;have q7:=h0.wants.len;have j1:q.start.stack.length<=4096:=gn _;have hg:=I2 a6;have i4:=hI.f;have l7:Aa ((stk.len:Int) - (q.start.first:Int))=((q.start.stack.length - q.start.first:Nat):Int):=(by rw[Ag oM oM];omega);have hN:q.N<=128:=oM;have hD:q.D<=4096:=oM;have g4:∀w',Below lo wh w'->ldc w' (a1.add 1) [vi (q.N:Int)]:=λw' hb=>(by have e:(q.N:Int)=N:=oM;rw[e];exact(b5.below hb).b1.at1 (k:=1) xR rfl);have d7:∀(e:Int) w',Below lo wh w'->q.res= .err e->stw w' a3 [Sl.nil.v] λvw=>∃r:Sl,ldc vw a3 [r.v]/\R r 0 e vw:=λe w' hb hr=>(by have h:=b5.below hb;exact stw0.intro h.b3 sI λwe be _ d8=>⟨Sl.nil,d8.at0 (r:=[]) xR rfl,g0 e we (e2.trans hr) (be.ext h.ext h.n3)⟩);have e4:∀ns t nds w' (Q2:Nat->Prop),Below lo wh w'->OwnS nodeE 72 w' lo Q2 nds ns->(∀b,Q2 b->lo<=b)->ns.length<=128->q.res= .done ns t->stw w' a3 [Sl.v nds] λvw=>∃r:Sl,ldc vw a3 [r.v]/\R r (t:Int) 0 vw:=λns t nds w' Q2 hb ho hQ hl hr=>by
    have h:=b5.below hb;have k6:=ho.read (by show ns.length*88<=Ab;unfold Ab;omega) oM;have h3:=h.l3;have n2:=h.wl;refine stw0.intro h.b3 sI λwe be _ d8=>⟨nds,d8.at0 (r:=[]) xR rfl,f9 ns t nds we (e2.trans hr) (be.ext h.ext h.n3) ?_⟩;have q4:=be.1;have g2:∀b,(Q2 b\/∃ad,nds.a=some ad/\b=ad.block)->lo<=b/\b<w'.heap.size:=λb hb=>by
     rcases hb with hb|⟨ad,d0,rfl⟩
     .exact⟨hQ b hb,ho.lt b hb⟩
     .exact⟨(ho.block d0).1,(ho.block d0).2.1⟩
    exact(k6.but be λh=>by have:=g2 _ h;omega).mono λb hb=>by have:=g2 b hb;omega
   have NX:∀(lb:Lb) (s':St) w' m',m'<n->Below lo wh w'->CN w' lo sp K s'->InvL q lb s'->EndN q m' lb s' q.res->∃n,(AV m=true/\1<=D/\D<=4096/\1<=N/\N<=128)/\Sg w0 q a1 a3 D N d3 d4 n (Qe lb) (some sp) (s'.dec:Int) w':=λlb s' w' m' hm hb f1 hi hE=>⟨m',f0,lo,sp,K,lb,s',rfl,rfl,rfl,b5.below hb,f1,hi,hE⟩;refine bnd.drew λw1 x1=>⟨stk,BoxAt.at1 a6 (k:=7) x1 rfl,(q.start.first:Int),BoxAt.at1 a6 (k:=11) x1 rfl,ws,BoxAt.at1 a6 (k:=10) x1 rfl,?_⟩;rw[l7];have r1:=x1.size;refine⟨λn4=>?_,λn0=>?_⟩
   .have c9:q.start.stack.length - q.start.first<q.start.ws.length:=oM;obtain⟨j3,tw,l5,_,h6,l0,l6⟩:=WU (h0.wants) c9;have a0:q.step .next q.start= .go .tri {q.start with stack:=q.start.stack++[q.ch q.start.ahead.length (ctxAt q.start.ns q.start.ahead.length) q.start.ws[q.start.stack.length - q.start.first]]}:=(by rw[Quest.step,dt c9]);generalize q8:q.start.ws[q.start.stack.length - q.start.first]=wt at*;have b2:=InvL.step (l:=.next) (l':=.tri) a7 d5 hI a0;refine bnd.drew λw2 x2=>⟨stk,BoxAt.at1 a6 (k:=7) (x1.trans x2) rfl,ws,BoxAt.at1 a6 (k:=10) (x1.trans x2) rfl,j3,⟨l5,oM,oM⟩,_,_,tw,by rw[ec];exact l6 _ (x1.trans x2),?_⟩;have b0:=x1.trans x2;have e3:=a5.below (b0.below' lo a5.le);have q0:=b0.size;refine callX.intro (SE.IK.go (Ti (s:=q.start) (wt:=wt) (rs:=tw) e3 ⟨stk,nds,ahd,ws,Q,a6.ext b0,c3,h0.ext b0⟩ hI.a h6 (SR:=Q) (λb hb=>by have:=h0.nodes.lt b hb;omega) (l0.ext b0) λv w3 x3 hv=>⟨x3,_,_,v,_,_,rfl,newS.intro λa4 w4 x4 j8 m6 _=>?_⟩));have i2:=x3.trans x4;have d9:=b0.trans i2;have q1:=x3.size;have q2:=x4.size;have h4:=(h0.ext b0).grow i2 e3.le oM;refine Sr0.pushCh (x:=q.ch q.start.ahead.length (ctxAt q.start.ns q.start.ahead.length) wt) h4 S5 (by have:=e3.le;omega) oM ⟨h6,v,rfl,(hv.ext x4).mono λb hb=>.inr ⟨oM,oM⟩⟩ j8.ldc oM λr' w5 h5 c6 k3=>?_;have j9:BoxAt w5 sp (CK K stk nds ahd ws q.start.first):=(a6.ext d9).oth k3 λad d0 e=>h0.o1 ad d0 e.symm;have q3:=c6.size;refine stw.intro (o:=7) j9 (by show 8<=12;omega) λw6 b6 _ k0=>?_;have f5:Below lo wh w6:=Below.trans (Below.trans (d9.below' lo a5.le) c6) (b6.below (by have:=a5.le;omega) c3);obtain⟨m',c7,b8⟩:=a8.go a0;exact NX .tri {q.start with stack:=q.start.stack++[q.ch q.start.ahead.length (ctxAt q.start.ns q.start.ahead.length) wt]} w6 m' c7 f5 ⟨r',nds,ahd,ws,_,k0,c3,h5.but b6⟩ b2 b8
   .have b4:q.start.ws[q.start.stack.length - q.start.first]?=none:=il oM;refine⟨(q.N:Int),g4 _ (x1.below' lo a5.le),?_⟩;have j4:=a5.below (x1.below' lo a5.le);refine SE.IJ.go (SM (s:=q.start) j4 ⟨stk,nds,ahd,ws,Q,a6.ext x1,c3,h0.ext x1⟩ hI hN hD (λw2 hb x2=>⟨_,rfl,λ_=>?_,λh=>absurd rfl h⟩) (λw2 hb c5=>⟨_,rfl,λh=>by omega,λ_=>⟨λ_=>?_,λh=>absurd rfl h⟩⟩) λw2 c4 hb c5 g5=>⟨_,rfl,λh=>by omega,λ_=>⟨λh=>by omega,λ_=>bnd.drew λw3 x3=>?_⟩⟩)
    .have a0:q.step .next q.start= .go .back (q.start):=(by rw[Quest.step,b4];dsimp only;rw[hb]);obtain⟨m',c7,b8⟩:=a8.go a0;have b0:=x1.trans x2;exact NX .back q.start w2 m' c7 (b0.below' lo a5.le) ⟨stk,nds,ahd,ws,Q,a6.ext b0,c3,h0.ext b0⟩ (InvL.step (l:=.next) (l':=.back) a7 d5 hI a0) b8
    .have a0:q.step .next q.start= .err 32:=(by rw[Quest.step,b4];dsimp only;rw[hb]);exact d7 32 w2 (Below.trans (x1.below' lo a5.le) c5) (a8.fin a0 (λ_ _ h=>by cases h))
    .obtain⟨h8,b9,d1,l8,Q2,d6,e8,h2⟩:=g5;have d2:Below lo wh w3:=Below.trans (Below.trans (x1.below' lo a5.le) c5) (x3.below' lo (by have:=a5.le;have:=c5.size;omega));have f8:d1.len=((q.start.ahead++[q.start.ns.length]).map Int.ofNat).length:=h2.ahead.len;have n8:b9.len=c4.length:=h2.nodes.len;rw[dz,du,gl]at f8;refine⟨d1,BoxAt.at1 d6 (k:=9) x3 rfl,b9,BoxAt.at1 d6 (k:=8) x3 rfl,λm9=>?_,λn7=>?_⟩
     .have a0:q.step .next q.start= .done c4 q.start.dec:=(by rw[Quest.step,b4];dsimp only;rw[hb];dsimp only;rw[if_pos oM]);have n9:=(MU hb hI.n).2;refine⟨b9,BoxAt.at1 d6 (k:=8) x3 rfl,?_⟩;exact e4 c4 q.start.dec b9 w3 Q2 d2 (h2.nodes.ext x3) (λb hb=>(h2.q b hb).1) oM (a8.fin a0 (λ_ _ h=>by cases h))
     .have a0:q.step .next q.start= .go .next {q.start with ns:=c4,ahead:=q.start.ahead++[q.start.ns.length],ws:=q.wants c4 (q.start.ahead.length+1),first:=q.start.stack.length}:=(by rw[Quest.step,b4];dsimp only;rw[hb];dsimp only;rw[if_neg oM]);obtain⟨m',c7,b8⟩:=a8.go a0;have b2:=InvL.step (l:=.next) (l':=.next) a7 d5 hI a0;refine SE.Hm.go (Ph (a5.below d2) ⟨h8,b9,d1,l8,Q2,d6.ext x3,e8,h2.ext x3⟩ b2.a λw4 f4 g6=>⟨rfl,?_⟩);have e1:(q.start.ahead++[q.start.ns.length]).length=q.start.ahead.length+1:=(by rw[du,gl]);refine NX .next {q.start with ns:=c4,ahead:=q.start.ahead++[q.start.ns.length],ws:=q.wants c4 (q.start.ahead.length+1),first:=q.start.stack.length} w4 m' c7 (Below.trans d2 f4) ?_ b2 b8;rw[<-e1];exact g6
 case pass=>
  intro n l vs d w q9 ⟨f0,lo,sp,K,lb,s,k1,k9,p4,b5,f1,hI,a8⟩ hn;subst k9 p4;have e2:AF L m dev pins D N=q.res:=by unfold AF;rw[if_pos f0,hq]
  obtain⟨stk,nds,ahd,ws,Q,a6,c3,h0⟩:=f1;have a5:=b5.cs;have k7:=h0.stack.len;have q7:=h0.wants.len;have hg:=I2 a6;have hN:q.N<=128:=oM;have hD:q.D<=4096:=oM;have g4:∀w',Below lo w w'->ldc w' (a1.add 1) [vi (q.N:Int)]:=λw' hb=>by have e:(q.N:Int)=N:=oM;rw[e];exact(b5.below hb).b1.at1 (k:=1) xR rfl
  have d7:∀(e:Int) w',Below lo w w'->q.res= .err e->stw w' a3 [Sl.nil.v] λvw=>∃r:Sl,ldc vw a3 [r.v]/\R r 0 e vw:=λe w' hb hr=>by have h:=b5.below hb;exact stw0.intro h.b3 sI λwe be _ d8=>⟨Sl.nil,d8.at0 (r:=[]) xR rfl,g0 e we (e2.trans hr) (be.ext h.ext h.n3)⟩
  have e4:∀ns t nds w' (Q2:Nat->Prop),Below lo w w'->OwnS nodeE 72 w' lo Q2 nds ns->(∀b,Q2 b->lo<=b)->ns.length<=128->q.res= .done ns t->stw w' a3 [Sl.v nds] λvw=>∃r:Sl,ldc vw a3 [r.v]/\R r (t:Int) 0 vw:=λns t nds w' Q2 hb ho hQ hl hr=>by
   have h:=b5.below hb;have k6:=ho.read (by show ns.length*88<=Ab;unfold Ab;omega) oM;have h3:=h.l3;have n2:=h.wl;refine stw0.intro h.b3 sI λwe be _ d8=>⟨nds,d8.at0 (r:=[]) xR rfl,f9 ns t nds we (e2.trans hr) (be.ext h.ext h.n3) ?_⟩;have q4:=be.1;have g2:∀b,(Q2 b\/∃ad,nds.a=some ad/\b=ad.block)->lo<=b/\b<w'.heap.size:=λb hb=>by
    rcases hb with hb|⟨ad,d0,rfl⟩
    .exact⟨hQ b hb,ho.lt b hb⟩
    .exact⟨(ho.block d0).1,(ho.block d0).2.1⟩
   exact(k6.but be λh=>by have:=g2 _ h;omega).mono λb hb=>by have:=g2 b hb;omega
  have NX:∀(lb:Lb) (s':St) w' m',m'<n->Below lo w w'->CN w' lo sp K s'->InvL q lb s'->EndN q m' lb s' q.res->q9 (Qe lb) (some sp) (s'.dec:Int) w':=λlb s' w' m' hm hb f1 hi hE=>hn m' _ _ _ _ hm ⟨f0,lo,sp,K,lb,s',rfl,rfl,rfl,b5.below hb,f1,hi,hE⟩;cases lb with
  |next=>
   have hI:InvS q 0 s:=hI;have j1:s.stack.length<=4096:=(by have:=hI.k;have:=hI.d;omega);have i4:=hI.f;have l7:Aa ((stk.len:Int) - (s.first:Int))=((s.stack.length - s.first:Nat):Int):=(by rw[Ag oM oM];omega);subst k1;refine⟨λ_=>?_,λh=>absurd h dC,λh=>absurd h dC⟩;refine bnd.drew λw1 x1=>⟨sp,rfl,stk,BoxAt.at1 a6 (k:=7) x1 rfl,sp,rfl,(s.first:Int),BoxAt.at1 a6 (k:=11) x1 rfl,sp,rfl,ws,BoxAt.at1 a6 (k:=10) x1 rfl,?_⟩;rw[l7];have r1:=x1.size;refine⟨λn4=>?_,λn0=>?_⟩
   .have c9:s.stack.length - s.first<s.ws.length:=oM;obtain⟨j3,tw,l5,_,h6,l0,l6⟩:=WU (h0.wants) c9;have a0:q.step .next s= .go .tri {s with stack:=s.stack++[q.ch s.ahead.length (ctxAt s.ns s.ahead.length) s.ws[s.stack.length - s.first]]}:=(by rw[Quest.step,dt c9]);generalize q8:s.ws[s.stack.length - s.first]=wt at*;have b2:=InvL.step (l:=.next) (l':=.tri) a7 d5 hI a0;refine bnd.drew λw2 x2=>⟨sp,rfl,stk,BoxAt.at1 a6 (k:=7) (x1.trans x2) rfl,sp,rfl,ws,BoxAt.at1 a6 (k:=10) (x1.trans x2) rfl,j3,⟨l5,oM,oM⟩,_,_,tw,by rw[ec];exact l6 _ (x1.trans x2),?_⟩;have b0:=x1.trans x2;have e3:=a5.below (b0.below' lo a5.le);have q0:=b0.size;refine callX.intro (SE.IK.go (Ti (s:=s) (wt:=wt) (rs:=tw) e3 ⟨stk,nds,ahd,ws,Q,a6.ext b0,c3,h0.ext b0⟩ hI.a h6 (SR:=Q) (λb hb=>by have:=h0.nodes.lt b hb;omega) (l0.ext b0) λv w3 x3 hv=>⟨x3,_,_,v,_,_,rfl,newS.intro λa4 w4 x4 j8 m6 _=>?_⟩));have i2:=x3.trans x4;have d9:=b0.trans i2;have q1:=x3.size;have q2:=x4.size;have h4:=(h0.ext b0).grow i2 e3.le oM;refine Sr0.pushCh (x:=q.ch s.ahead.length (ctxAt s.ns s.ahead.length) wt) h4 S5 (by have:=e3.le;omega) oM ⟨h6,v,rfl,(hv.ext x4).mono λb hb=>.inr ⟨oM,oM⟩⟩ j8.ldc oM λr' w5 h5 c6 k3=>?_;have j9:BoxAt w5 sp (CK K stk nds ahd ws s.first):=(a6.ext d9).oth k3 λad d0 e=>h0.o1 ad d0 e.symm;have q3:=c6.size;refine⟨sp,rfl,?_⟩;refine stw.intro (o:=7) j9 (by show 8<=12;omega) λw6 b6 _ k0=>?_;have f5:Below lo w w6:=Below.trans (Below.trans (d9.below' lo a5.le) c6) (b6.below (by have:=a5.le;omega) c3);obtain⟨m',c7,b8⟩:=a8.go a0;exact NX .tri {s with stack:=s.stack++[q.ch s.ahead.length (ctxAt s.ns s.ahead.length) wt]} w6 m' c7 f5 ⟨r',nds,ahd,ws,_,k0,c3,h5.but b6⟩ b2 b8
   .have b4:s.ws[s.stack.length - s.first]?=none:=il oM;refine⟨(q.N:Int),g4 _ (x1.below' lo a5.le),?_⟩;have j4:=a5.below (x1.below' lo a5.le);refine SE.IJ.go (SM (s:=s) j4 ⟨stk,nds,ahd,ws,Q,a6.ext x1,c3,h0.ext x1⟩ hI hN hD (λw2 hb x2=>⟨_,rfl,λ_=>?_,λh=>absurd rfl h⟩) (λw2 hb c5=>⟨_,rfl,λh=>by omega,λ_=>⟨λ_=>?_,λh=>absurd rfl h⟩⟩) λw2 c4 hb c5 g5=>⟨_,rfl,λh=>by omega,λ_=>⟨λh=>by omega,λ_=>bnd.drew λw3 x3=>?_⟩⟩)
    .have a0:q.step .next s= .go .back (s):=(by rw[Quest.step,b4];dsimp only;rw[hb]);obtain⟨m',c7,b8⟩:=a8.go a0;have b0:=x1.trans x2;exact NX .back s w2 m' c7 (b0.below' lo a5.le) ⟨stk,nds,ahd,ws,Q,a6.ext b0,c3,h0.ext b0⟩ (InvL.step (l:=.next) (l':=.back) a7 d5 hI a0) b8
    .have a0:q.step .next s= .err 32:=(by rw[Quest.step,b4];dsimp only;rw[hb]);exact d7 32 w2 (Below.trans (x1.below' lo a5.le) c5) (a8.fin a0 (λ_ _ h=>by cases h))
    .obtain⟨h8,b9,d1,l8,Q2,d6,e8,h2⟩:=g5;have d2:Below lo w w3:=Below.trans (Below.trans (x1.below' lo a5.le) c5) (x3.below' lo (by have:=a5.le;have:=c5.size;omega));have f8:d1.len=((s.ahead++[s.ns.length]).map Int.ofNat).length:=h2.ahead.len;have n8:b9.len=c4.length:=h2.nodes.len;rw[dz,du,gl]at f8;refine⟨sp,rfl,d1,BoxAt.at1 d6 (k:=9) x3 rfl,sp,rfl,b9,BoxAt.at1 d6 (k:=8) x3 rfl,λm9=>?_,λn7=>?_⟩
     .have a0:q.step .next s= .done c4 s.dec:=(by rw[Quest.step,b4];dsimp only;rw[hb];dsimp only;rw[if_pos oM]);have n9:=(MU hb hI.n).2;refine⟨sp,rfl,b9,BoxAt.at1 d6 (k:=8) x3 rfl,?_⟩;exact e4 c4 s.dec b9 w3 Q2 d2 (h2.nodes.ext x3) (λb hb=>(h2.q b hb).1) oM (a8.fin a0 (λ_ _ h=>by cases h))
     .have a0:q.step .next s= .go .next {s with ns:=c4,ahead:=s.ahead++[s.ns.length],ws:=q.wants c4 (s.ahead.length+1),first:=s.stack.length}:=(by rw[Quest.step,b4];dsimp only;rw[hb];dsimp only;rw[if_neg oM]);obtain⟨m',c7,b8⟩:=a8.go a0;have b2:=InvL.step (l:=.next) (l':=.next) a7 d5 hI a0;refine SE.Hm.go (Ph (a5.below d2) ⟨h8,b9,d1,l8,Q2,d6.ext x3,e8,h2.ext x3⟩ b2.a λw4 f4 g6=>⟨rfl,?_⟩);have e1:(s.ahead++[s.ns.length]).length=s.ahead.length+1:=(by rw[du,gl]);refine NX .next {s with ns:=c4,ahead:=s.ahead++[s.ns.length],ws:=q.wants c4 (s.ahead.length+1),first:=s.stack.length} w4 m' c7 (Below.trans d2 f4) ?_ b2 b8;rw[<-e1];exact g6
  |tri=>
   have hI:InvS q 1 s:=hI;subst k1;refine⟨λh=>absurd h dC,λ_=>?_,λh=>absurd h dC⟩;have j1:s.stack.length<=4097:=(by have:=hI.k;have:=hI.d;omega);have i4:=hI.f;obtain⟨c,hl⟩:∃c,s.stack.getLast? =some c:=by
    cases h:s.stack.getLast? with
    |none=>rw[List.getLast?_eq_none_iff]at h;rw[h]at i4;simp at i4
    |some c=>exact⟨c,rfl⟩
   obtain⟨pre,e0⟩:∃pre,s.stack=pre++[c]:=ny.1 hl;have p8:s.stack.length=pre.length+1:=by rw[e0,du,gl]
   have hx:s.stack[pre.length]?=some c:=(by rw[e0];simp);obtain⟨ad,cs,p6,⟨s0,v,rfl,q6⟩,p0⟩:=h0.stack.el hx;have f2:Aa ((stk.len:Int) - 1)=(pre.length:Int):=(by rw[k7,p8,Ag oM oM];omega);have k9:c.vs.length<=1000:=hI.v c.vs (ip (by rw[e0];simp));have r5:=(h0.stack.read (by show s.stack.length*64<=Ab;unfold Ab;omega) oM).2.1;refine bnd.drew λw1 x1=>⟨sp,rfl,stk,BoxAt.at1 a6 (k:=7) x1 rfl,sp,rfl,stk,BoxAt.at1 a6 (k:=7) x1 rfl,ad,⟨p6,by rw[f2];omega,by rw[f2];omega⟩,_,_,v,_,_,by rw[f2,ec];exact p0 _ x1,newS.intro λa4 w2 x2 d6 r3 _=>stw0.intro d6 sI λw3 b3 _ m7=>bnd.drew λw4 x4=>⟨(c.i:Int),m7.at1 (k:=4) x4 rfl,_,_,v,_,_,m7.at0 (r:=[]) x4 rfl,?_⟩⟩;have r0:Ext w1 w3:=b3.ext x2 oM;have d9:=x1.trans (r0.trans x4);refine callX.intro (SE.Lz.go (Y5 (c:=c) (q6.ext d9) k9 λw5 x5=>⟨x5,_,rfl,λn4=>?_,λn0=>?_⟩))
   .have c9:c.i<c.many:=oM;have c8:=d9.trans x5;have c6:=c8.below' lo a5.le;refine⟨D,(b5.below c6).b1.at0 xR rfl,λm9=>?_,λn7=>?_⟩
    .have a0:q.step .tri s= .err 31:=(by rw[Quest.step,hl];dsimp only;rw[if_pos c9,if_pos oM]);exact d7 31 w5 c6 (a8.fin a0 (λ_ _ h=>by cases h))
    .have a0:q.step .tri s= .go .next {s with dec:=s.dec+1}:=(by rw[Quest.step,hl];dsimp only;rw[if_pos c9,if_neg oM]);obtain⟨m',c7,b8⟩:=a8.go a0;have e1:Aa ((s.dec:Int)+1)=((s.dec+1:Nat):Int):=(by have:=hI.d;rw[Ag oM oM];omega);rw[e1];exact NX .next {s with dec:=s.dec+1} w5 m' c7 c6 ⟨stk,nds,ahd,ws,Q,a6.ext c8,c3,⟨(h0.ext c8).1,(h0.ext c8).2,(h0.ext c8).3,(h0.ext c8).4,(h0.ext c8).5,(h0.ext c8).6,(h0.ext c8).7,(h0.ext c8).8,(h0.ext c8).9,(h0.ext c8).10,(h0.ext c8).11⟩⟩ (InvL.step (l:=.tri) (l':=.next) a7 d5 hI a0) b8
   .have n1: ¬c.i<c.many:=oM;have a0:q.step .tri s= .go .back {s with stack:=s.stack.dropLast}:=(by rw[Quest.step,hl];dsimp only;rw[if_neg n1]);obtain⟨m',c7,b8⟩:=a8.go a0;have j6:InvS q 0 {s with stack:=s.stack.dropLast}:=InvL.step (l:=.tri) (l':=.back) a7 d5 hI a0;have p5:s.stack.dropLast=pre:=(by rw[e0,mn]);rw[p5]at j6 b8 a0;refine bnd.drew λw6 x6=>?_;have e5:=(d9.trans x5).trans x6;have s9:=e5.size;refine⟨sp,rfl,stk,BoxAt.at1 a6 (k:=7) e5 rfl,sp,rfl,stk,BoxAt.at1 a6 (k:=7) e5 rfl,⟨by rw[f2];omega,by rw[f2];omega⟩,sp,rfl,?_⟩;rw[f2,ec];refine stw.intro (o:=7) (a6.ext e5) (by show 8<=12;omega) λw7 b7 _ o8=>?_;have k8:=OwnS.take (E:=chE) ((h0.ext e5).but b7).stack (n:=pre.length) oM;have o5:s.stack.take pre.length=pre:=(by rw[e0];simp);rw[o5]at k8;have h7:Sr0 w7 lo sp.block (Sl.cut stk 0 pre.length 5) nds ahd ws Q {s with stack:=pre}:=Sr0.setStk ((h0.ext e5).but b7) P0 k8;have f6:Below lo w w7:=(e5.below' lo a5.le).trans (b7.below (by have:=a5.le;omega) c3);have i5:BoxAt w7 sp (CK K (Sl.cut stk 0 pre.length 5) nds ahd ws s.first):=o8;have o9:(Sl.cut stk 0 pre.length 5).len=pre.length:=k8.len;refine⟨sp,rfl,Sl.cut stk 0 pre.length 5,BoxAt.at1 i5 (k:=7) xR rfl,λi3=>?_,λk2=>?_⟩
    .have k4:pre=[]:=fj oM;have a9:q.step .back {s with stack:=pre}= .err 30:=(by subst k4;rfl);exact d7 30 w7 f6 (b8.fin a9 (λ_ _ h=>by cases h))
    .obtain⟨c2,g3⟩:∃c2,pre.getLast? =some c2:=by
      cases h:pre.getLast? with
      |none=>rw[List.getLast?_eq_none_iff]at h;exact absurd (by rw[o9,h];rfl) k2
      |some c=>exact⟨c,rfl⟩
     have a9:q.step .back {s with stack:=pre}= .go .tri (FL q {s with stack:=pre} c2.node):=(by rw[Mm];show(match pre.getLast? with|none=>_|some c=>_)=_;rw[g3]);obtain⟨m2,n5,j5⟩:=b8.go a9;refine SE.II.go (SL (s:={s with stack:=pre}) (c:=c2) (a5.below f6) ⟨_,nds,ahd,ws,Q,i5,c3,h7⟩ j6 g3 hN hD λw8 f7 g7=>⟨rfl,?_⟩);exact NX .tri (FL q {s with stack:=pre} c2.node) w8 m2 oM (f6.trans f7) g7 (InvL.step (l:=.back) (l':=.tri) a7 d5 j6 a9) j5
  |back=>
   have hI:InvS q 0 s:=hI;subst k1;refine⟨λh=>absurd h dC,λh=>absurd h dC,λ_=>?_⟩;refine⟨sp,rfl,stk,BoxAt.at1 a6 (k:=7) xR rfl,λi3=>?_,λk2=>?_⟩
   .have k4:s.stack=[]:=fj oM;have a9:q.step .back s= .err 30:=(by rw[Mm,k4];rfl);exact d7 30 w (Below.refl _ _) (a8.fin a9 (λ_ _ h=>by cases h))
   .obtain⟨c2,g3⟩:∃c2,s.stack.getLast? =some c2:=by
     cases h:s.stack.getLast? with
     |none=>rw[List.getLast?_eq_none_iff]at h;exact absurd (by rw[k7,h];rfl) k2
     |some c=>exact⟨c,rfl⟩
    have a9:q.step .back s= .go .tri (FL q s c2.node):=(by rw[Mm,g3]);obtain⟨m2,n5,j5⟩:=a8.go a9;refine SE.II.go (SL (s:=s) (c:=c2) a5 ⟨stk,nds,ahd,ws,Q,a6,c3,h0⟩ hI g3 hN hD λw8 f7 g7=>⟨rfl,?_⟩);exact NX .tri (FL q s c2.node) w8 m2 n5 f7 g7 (InvL.step (l:=.back) (l':=.tri) a7 d5 hI a9) j5
def Stp.ns:Stp->LN
 | .done ns _=>ns
 |_=> []
def Stp.dec:Stp->Int
 | .done _ t=>(t:Int)
 |_=>0
def Stp.code:Stp->Int
 | .err e=>e
 |_=>0
def Zh4{L:List Pack}{dev:Bool}{pins:LP}{SA:Nat->Prop}{cp:Addr}{rr:Nat}{mD mDev mOpt mOv pS:Sl}{N:Int}{R:Sl->Int->Int->Wp}(ht:Tab w0)(a4:Old SA w0)
  (a0:CatL w0 S cp rr L) (hd:SlR depE w0 SA mD m.deps) (he:SlR depE w0 SA mDev m.dev) (ho:SlR depE w0 SA mOpt m.opt) (hv:SlR depE w0 SA mOv m.over) (hp:SlR pinE w0 SA pS pins)
  (hR:∀nds w',Ext w0 w'->SlR nodeE w' (λb=>w0.heap.size<=b/\b<w'.heap.size) nds (AF L m dev pins D N).ns->R nds (AF L m dev pins D N).dec (AF L m dev pins D N).code w'):
  SE.IH (some cp) mD mDev mOpt mOv dev pS D N d3 d4 w0 R:=by
 have hl:=a0.lt;refine Zib ht a4 a0 hl.2.2.1 hl.1 hl.2.1 hd he ho hv hp (λe w' hr hx=>?_) λns t nds w' hr hx hs=>?_
 .have h:=hR Sl.nil w' hx;rw[hr]at h;exact h (SlR.nil trivial)
 .have h:=hR nds w' hx;rw[hr]at h;exact h hs
def C6{l:LN}(h:SlR nodeE w S s l)(hn:n<l.length):
  ∃ad c e,s.a=some ad/\Ac l[n].name/\SlR pinE w S c l[n].ctx/\SlR edgeE w S e l[n].edges/\∀w',Ext w w'->ldc w' (ad.add (n*6)) [.string l[n].name,.int .i64 l[n].v.ma,.int .i64 l[n].v.mi,.int .i64 l[n].v.pa,Sl.v c,Sl.v e]:=by
 obtain⟨ad,cs,h1,h2,⟨h0,c,e,rfl,h5,h6⟩,h4⟩:=h.el hn;exact⟨ad,c,e,h1,h0,h5,h6,h4⟩
def WB{α:Type}{a b:List α}(h1:i<a.length)(h2:i<b.length)(hI:a.take i=b.take i)(he:a[i]=b[i]):a.take (i+1)=b.take (i+1):=by rw[dw h1,dw h2,hI,he]
def newS.set{zs:LV}{k:Addr->Wp}(hl:cs.length=zs.length)(h:∀a w',Ext w w'->BoxAt w' a cs->a.block=w.heap.size->k a w'):newS w zs t λa w1=>stw w1 a cs λw2=>k a w2:=
 newS.intro λa w1 x1 ha a4 a5=>stw0.intro ha oM λw2 b2 hz a0=>h a w2 (b2.ext x1 oM) (by rw[hl,li,gd]at a0;exact a0) a4
def Xh(h1:1<=i)(h2:i<N)(hN:N<=maxLen):Aa ((i:Int) - 1)=((i - 1:Nat):Int):=by rw[Al]at hN;rw[Ag oM oM];omega
def QR{α:Type}{f:α->Bs}{l:List α}(h1:1<=i)(hi:i<l.length)(hI:RiseN f (l.take i))(h:Ao (f l[i - 1]) (f l[i])=true):RiseN f (l.take (i+1)):=by
 have e:l.take i=l.take (i - 1)++[l[i - 1]]:=by have:=dw (l:=l) (i:=i - 1) oM;rwa [Nat.sub_add_cancel h1]at this
 rw[dw hi,e];rw[e]at hI;exact Zho hI h
def QP{α:Type}{f:α->Bs}{l:List α}(h1:1<=i)(hi:i<l.length)(h:Ao (f l[i - 1]) (f l[i])=false): ¬RiseN f l:=λhr=>by have:=gh.1 hr (i - 1) i oM hi oM;rw[h]at this;cases this
def QQ{α:Type}{f:α->Bs}{l:List α}:RiseN f (l.take 1):=by
 cases l with
 |nil=>exact .nil
 |cons a r=>exact kj _ _
end Go.Hal
namespace Go.Hal
open Go.MapKept
def It(v:Value):Prop:=∃x:Int,v= .int .i64 x
end Go.Hal
/-
 DERIVED:THE SHELF's CONTRACTS AT THIS DUMP,IN PLAIN WORDS (tools/lay-plain.mjs out of 'YtkndmcejjebjfaaGreatDoorLay5.lean',which tools/lay-shelf.mjs wrote):THE SAME DECLARATIONS UNDER THE SAME NAMES:'import','namespace','open','def','theorem' AND NOTHING ELSE:no command of the shelf's:FOR A HAND-IN. Each laying:the table of numbers ('.._ren') and one theorem,a field a fact of the dump's own or the kernel's comparison;each contract:ONE APPLICATION.
-/
namespace Go.Proofs
def Tryz.laySi_ren:Go.Shelf.Ren:=⟨λ|189=>179|125=>93|257=>273|128=>172|129=>173|294=>334|295=>335|296=>336|297=>337|298=>338|299=>339|216=>340|300=>341|301=>342|328=>375|329=>267|330=>268|331=>376|332=>377|215=>163|343=>404|n=>n,λ|28=>108|3=>3|46=>180|0=>0|51=>253|53=>255|4=>4|183=>246|182=>245|131=>250|5=>5|9=>9|218=>326|222=>330|228=>376|229=>377|n=>n,λ|n=>n⟩
def Tryz.laySi:Go.Proofs.Lays.n189 prog Tryz.laySi_ren:=by repeat' first|kernel_rfl|(intro w;kernel_rfl)|constructor
end Go.Proofs
namespace Go.Hal
open Go.Lib Go.Sort
def E9(x:Int):LV:=[vi x]
def PR(l:List Int):(l.map E9).flatten=l.map (Value.int .i64):=by
 induction l with
 |nil=>rfl
 |cons a l ih=>rw[ib,jc,ih];rfl
def OwnS.lowr{α:Type}{E:Enc α}{T:TypeId}{lo':Nat}{l:List α}(h:OwnS E T w lo S s l)(hl:lo'<=lo):OwnS E T w lo' S s l:=by obtain⟨css,ho,k1,k2⟩:=h.row;exact⟨⟨css,⟨ho.1,ho.2.imp id λ⟨g,cap,a0,hv,hg,r⟩=>⟨g,cap,a0,hv,fe hl hg,r⟩⟩,k1,k2⟩,h.len,h.lt,h.apart⟩
def Ca(l:List Nat):List Int:=l.map λk:Nat=>(k:Int)
def I9(l:List Nat):(Ca l).length=l.length:=dz _
end Go.Hal
namespace Go.Hal
open Go.MapKept
def Zah(n m:Bs)(v u:Ver)(w:Wd):(Op.equal 347 (keyV n v) (keyV m u)).run prog w= .ok (decide (n=m/\v=u)) w:=by
 have h:(Op.equalIn (9997+3) 347 (keyV n v) (keyV m u)).run prog w= .ok ((Ai n m)&&(((v.ma==u.ma)&&((v.mi==u.mi)&&((v.pa==u.pa)&&true)))&&true)) w:=
  (JY kR kR (fs:= [⟨ "name",9,0,false, "", "halyard/graph",0⟩,⟨ "version",66,1,false, "", "halyard/graph",16⟩]) kR (DS (x:=(Value.string n)) (y:=(Value.string m)) rfl kR kR (run_equalIn_string w _ 9 n m kR) (DS (x:=(Value.agg #[(Value.int .i64 v.ma),(Value.int .i64 v.mi),(Value.int .i64 v.pa)])) (y:=(Value.agg #[(Value.int .i64 u.ma),(Value.int .i64 u.mi),(Value.int .i64 u.pa)])) rfl kR kR (JY kR kR (fs:= [⟨ "Major",3,0,false, "", "",0⟩,⟨ "Minor",3,1,false, "", "",8⟩,⟨ "Patch",3,2,false, "", "",16⟩]) kR (DS (x:=(Value.int .i64 v.ma)) (y:=(Value.int .i64 u.ma)) rfl kR kR (run_equalIn_int w _ 3 .i64 .i64 v.ma u.ma kR) (DS (x:=(Value.int .i64 v.mi)) (y:=(Value.int .i64 u.mi)) rfl kR kR (run_equalIn_int w _ 3 .i64 .i64 v.mi u.mi kR) (DS (x:=(Value.int .i64 v.pa)) (y:=(Value.int .i64 u.pa)) rfl kR kR (run_equalIn_int w _ 3 .i64 .i64 v.pa u.pa kR) JX)))) JX)))
 have e:((Ai n m)&&(((v.ma==u.ma)&&((v.mi==u.mi)&&((v.pa==u.pa)&&true)))&&true))=decide (n=m/\v=u):=by rw[Gq,Bool.and_true,gk,dx,AH,decide_eq_true_eq,decide_eq_true_eq]
 rw[e]at h;exact h
def askKeyG(n:Bs)(v:Ver)(w:Wd):∀(l:List MapEntry)(i:Nat),(∀x∈l,Fy x.key)->((∀x∈l,x.key≠keyV n v)/\(Instr.findAsking 347 (keyV n v) l i).run prog w= .ok none w)\/
  ∃(j:Nat) (e:MapEntry),l[j]?=some e/\e.key=keyV n v/\(Instr.findAsking 347 (keyV n v) l i).run prog w= .ok (some (i+j,e.val)) w
 | [],i,_=> .inl ⟨by simp,by simp[Instr.findAsking]⟩
 |e::es,i,h=>by
  obtain⟨m,u,hk⟩:=h e (.head _);have hq:=Zah n m v u w;rw[<-hk]at hq;by_cases he:n=m/\v=u
  .refine .inr ⟨0,e,rfl,by rw[hk];exact GZ.2 ⟨he.1.symm,he.2.symm⟩,?_⟩;simp only[Instr.findAsking,Sem.run_bind,hq,Result.andThen,decide_eq_true he];rfl
  .have a4:e.key≠keyV n v:=λq=>(by rw[hk]at q;have:=GZ.1 q;exact he ⟨this.1.symm,this.2.symm⟩);have a0:(Instr.findAsking 347 (keyV n v) (e::es) i).run prog w=(Instr.findAsking 347 (keyV n v) es (i+1)).run prog w:=(by simp only[Instr.findAsking,Sem.run_bind,hq,Result.andThen,decide_eq_false he];rfl);rcases askKeyG n v w es (i+1) (λx hx=>h x (.tail _ hx))with⟨h1,h2⟩|⟨j,e',h1,h2,h3⟩
   .exact .inl ⟨λx hx=>by
     cases hx with
     |head=>exact a4
     |tail _ hx=>exact h1 x hx,by rw[a0];exact h2⟩
   .exact .inr ⟨j+1,e',by simpa using h1,h2,by rw[a0,h3,show i+1+j=i+(j+1) by omega]⟩
def Y7(n:Bs)(v:Ver)(e:Bool)(w:Wd):(Instr.checkKey e 10000 347 (keyV n v)).run prog w= .ok () w:=by have hs:(Instr.checkKey e 9999 9 (.string n)).run prog w= .ok () w:=run_checkKey (d:=.string) (k:=.string n) underlying9 trivial e 9998;unfold keyV;rw[Instr.checkKey];simp only[Sem.run_bind,run_underlying underlying347,Result.andThen];simp[Sem.run_bind,Result.andThen,part,run_underlying underlying9,run_underlying underlying66,hs,Th v e w]
def U0:KeyT prog 345 Fy (.int .i64 0) where
 und:=⟨347,3,underlying345,Tryz.zeroValue3,λk ⟨n,v,h⟩ e w=>by subst h;exact Y7 n v e w,λk ⟨n,v,h⟩ l hl w=>by
  subst h;have a0:∀l:List MapEntry,(Instr.findKey 347 (keyV n v) l).run prog w=(Instr.findAsking 347 (keyV n v) l 0).run prog w:=by
   intro l;cases l with
   |nil=>simp[Instr.findKey,Instr.findNow,Instr.findAsking,run_underlying underlying347,Sem.run_bind,Result.andThen]
   |cons e es=>simp[Instr.findKey,Instr.findNow,Instr.sameNow,run_underlying underlying347,Sem.run_bind,Result.andThen]
  rw[a0];rcases askKeyG n v w l 0 hl with h|⟨j,e,h1,h2,h3⟩
  .exact .inl h
  .exact .inr ⟨j,e,h1,h2,by rw[ke]at h3;exact h3⟩⟩
 stay:=λk ⟨n,v,h⟩=>by subst h;simp[keyV,Instr.sameBits,Go.MapKept.bytes_beq]
end Go.Hal
namespace Go.Hal
def Zf4{a b:Pin}(hR:∀w',Gr w w'->R (GI a b) w'):SE.Kk a.name a.v.ma a.v.mi a.v.pa b.name b.v.ma b.v.mi b.v.pa w R:=by unfold SE.Kk;refine newS.gr λ_ w1 x1 hb=>newS.gr λ_ w2 x2 a4=>bnd.gr λw3 x3=>?_;have a0:=x2.trans x3;refine⟨_,Gr.at0 hb a0 rfl,_,Gr.at0 a4 x3 rfl,_,_,_,Gr.at1 hb a0 rfl,_,_,_,Gr.at1 a4 x3 rfl,?_⟩;refine callX.intro (ET ⟨Ext.refl _,_,rfl,SE.EZ.go (WT (a:=a.v) (b:=b.v) λw4 x4=>⟨_,rfl,?_⟩)⟩);exact newS.gr λ_ w5 x5 a5=>SE.Ez.go (Tm (MZ (l:=[_,_]) a5 sI) ⟨_,rfl,hR _ (x1.trans (a0.trans (x4.trans x5)))⟩)
def ZV:Bn prog 284:=enters_of func284 kR rfl
def Zi0{l:LP}{K:Value->Wp}(h:FlatO AW 40 w lo s l)(a0:lo<=w.heap.size)
  (hK:∀l' w',l'.Perm l->l'.Pairwise (λx y=>¬GI y x<0)->Below lo w w'->FlatO AW 40 w' lo s l'->K (.tuple #[]) w'):
  callS prog 130 [s.v,.func (.func 284) #[] #[]] w K:=by
 obtain⟨h1,h2,h3,h4,h5⟩:=h;obtain⟨a,n,c⟩:=s;simp only at h1 h2 h3 h5;subst h1;rcases h5 with rfl|⟨g,tail,ha,hg,hr⟩
 .refine(AnyF.slices_SortFunc_none Tryz.laySp a c _ w).mono λe w' ⟨he,hw⟩=>⟨_,he,?_⟩;subst hw;exact hK [] _ (jf _) .nil (Below.refl _ _) ⟨rfl,h2,h3,h4,.inl rfl⟩
 .subst ha;refine F7 Tryz.laySp (k:=4) PY Rf (f:=AW) (λ_=>rfl) (λx v hv=>by simp[AW]at hv;rcases hv with rfl|rfl|rfl|rfl<;>rfl) GI (EU cPin_ord.flip cPin_ord.trans) 284 #[] ZV (λw0 x y hb _=>?_) hr (by unfold Ab at h4;omega) rfl λl' w' hp hs b a4=>?_
  .have h:=SE.Kk.go (k:=λv w'=>v= .int .i64 (GI x y)/\Gr w0 w') (Zf4 (a:=x) (b:=y) (w:=w0) λw' h=>⟨rfl,h⟩);exact Calls.mono h λe w' ⟨v,he,hv,hg⟩=>⟨by rw[he,hv],hg⟩
  .have hl:=hp.length_eq;exact hK l' w' hp hs (b.below a0 hg) ⟨hl.symm,by rw[hl];exact h2,h3,by rw[hl];exact h4,.inr ⟨g,tail,rfl,hg,a4⟩⟩
def Qc(p:Pin×Int):Value×Value:=(keyV p.1.name p.1.v,.int .i64 p.2)
structure PA(w0:Wd)(r:Nat)(w':Wd)(out:LP)(so:Sl):Prop where
 x:Ext w0 w'
 map:∃m:List (Pin×Int),MapR Fy w' r (m.map Qc)/\m.map (·.1)=out
 own:OwnS pinE 166 w' w0.heap.size None' so out
 ap:∀ad,so.a=some ad->ad.block≠r
 lr:w0.heap.size<=r
section
variable {w0 w w':Wd} {r:Nat} {so:Sl} {out:LP}
def PA.ext(h:PA w0 r w out so)(hx:Ext w w'):PA w0 r w' out so:=
 ⟨h.x.trans hx,by obtain⟨m,h1,h2⟩:=h.map;exact⟨m,h1.ext hx,h2⟩,h.own.ext hx,h.ap,h.lr⟩
def PA.seen(h:PA w0 r w out so)(p:Pin):∃v:Int,(Instr.lookup 345 (.map (some r)) (keyV p.name p.v) true).run prog w= .ok (.tuple #[vi v,.bool (decide (p∈out))]) w:=by
 obtain⟨m,h1,h2⟩:=h.map;rcases I5 U0 h1 (k:=keyV p.name p.v) ⟨_,_,rfl⟩with⟨hn,hr⟩|⟨v,a5,hr⟩
 .refine⟨0,?_⟩;rw[hr true,decide_eq_false]
  .rfl
  .intro hm;rw[<-h2]at hm;obtain⟨q,hq,rfl⟩:=gq.1 hm;exact hn (Qc q) (ip hq) rfl
 .obtain⟨q,hq,he⟩:=gq.1 a5;simp only[Qc,Prod.mk.injEq]at he;obtain⟨a0,a4⟩:=he;obtain⟨e1,e2⟩:=GZ.1 a0;have a6:q.1=p:=by obtain⟨⟨a,b⟩,c⟩:=q;obtain⟨n,u⟩:=p;simp only at e1 e2;rw[e1,e2]
  refine⟨q.2,?_⟩;rw[hr true,decide_eq_true,<-a4]
  .rfl
  .rw[<-h2];exact gq.2 ⟨q,hq,a6⟩
def PA.put(h:PA w0 r w out so){i:Int}(hp:p∉out)(hN:Ac p.name)(hl:out.length+1<=3000000000000){b:Addr}{l:LV}(hb:BoxAt w b (.string p.name:: .int .i64 p.v.ma:: .int .i64 p.v.mi:: .int .i64 p.v.pa::l))(b7:b.block≠r){J:Sl->Wp}
  (hJ:∀a5 w',PA w0 r w' (out++[p]) a5->J a5 w'):
  semU prog (Instr.mapUpdate 345 (.map (some r)) (keyV p.name p.v) (.int .i64 i)) w λa4=>∃(b0:Bs),(ldc a4 b [(Value.string b0)])/\∃(x y z:Int),(ldc a4 (b.add 1) [(Value.int .i64 x),(Value.int .i64 y),(Value.int .i64 z)])/\newS a4 [(Value.string b0),(Value.int .i64 x),(Value.int .i64 y),(Value.int .i64 z)] 166 λb5 b2=>appS prog 69 69 so (Sl.v (Sl.mk (some b5) 1 1)) b2 λb9 b4=>J b9 b4:=by
 obtain⟨m,h1,h2⟩:=h.map;refine EY U0 h1 ⟨_,_,rfl⟩ (λq hq he=>?_) λw1 b1 c5 hM=>?_
 .obtain⟨q',b8,rfl⟩:=gq.1 hq;obtain⟨e1,e2⟩:=GZ.1 he;refine hp ?_;rw[<-h2];refine gq.2 ⟨q',b8,?_⟩;obtain⟨⟨a,b⟩,c⟩:=q';obtain⟨n,u⟩:=p;simp only at e1 e2;rw[e1,e2]
 .have a7:=b1.box hb b7;refine⟨_,a7.at0 xR rfl,_,_,_,a7.at1 (k:=1) xR rfl,newS.intro λa2 w2 x2 b6 _ _=>?_⟩;have x1:Ext w0 w1:=b1.ext h.x h.lr;have o1:OwnS pinE 166 w1 w0.heap.size None' so out:=h.own.but b1 (λh=>h) λad a0=>Ne.symm (h.ap ad a0);have c4:=h1.lt;have s1:=x1.size;have s2:=x2.size;have eb:pinE.bytes=40:=rfl;refine(o1.ext x2).push Jw oM (x:=p) (S':=None') ⟨rfl,hN⟩ (b6.ldc.pre (r:=[]) rfl) (λ_ h=>h.elim) (λ_ _ h=>h.elim) (by rw[eb];unfold Ab;omega) (by rw[Al];omega) λa5 w3 o3 a6 a8 a9=>hJ a5 w3 ?_;have c3:w.heap.size<=w1.heap.size:=b1.1;refine⟨(x1.trans x2).trans' a6,⟨m++[(p,i)],?_,?_⟩,OwnS.flat (λh=>h) o3,λad a0=>?_,h.lr⟩
  .rw[fq];exact(hM.ext x2).of (a8 r oM λad a0 e=>h.ap ad a0 e.symm)
  .rw[fq,h2];rfl
  .obtain q|q:=a9 ad a0
   .exact h.ap ad q
   .omega
end
def Zbp{R:Sl->Wp}(hs:SlR nodeE w S s g)
  (hR:∀t l w',Ext w w'->(g≠[]->PinsAre g l)->(g=[]->l=[])->FlatO AW 40 w' w.heap.size t l->(∀q∈l,Ac q.name)->(∀ad,t.a=some ad->ad.block<w'.heap.size/\w.heap.size<=ad.block)->R t w'):SE.Kj s w R:=by
 unfold SE.Kj;have b7:=hs.len;have e0:g.length<=1600000000000:=by have:=hs.2.2.2.1;have eb:nodeE.bytes=88:=rfl;rw[eb]at this;unfold Ab at this;omega
 refine newS.intro λa w1 x1 b5 d6 _=>⟨s,b5.ldc.pre (r:=[]) rfl,λh0=>?_,λh0=>?_⟩
 .have hg:g=[]:=fj oM;exact hR Sl.nil [] w1 x1 (λh=>absurd hg h) (λ_=>rfl) ⟨rfl,fm _,gn _,by simp,.inl rfl⟩ (λq hq=>by cases hq) (λad h=>by cases h)
 .have hg:g≠[]:=λe=>by subst e;exact h0 (by rw[b7];rfl)
  have d9:0<g.length:=Nat.pos_of_ne_zero λh=>hg (fj h);refine NI (K:=Fy) λr w2 x2 e2 c6=>⟨some r,rfl,s,(b5.ext x2).ldc.pre (r:=[]) rfl,⟨oM,oM⟩,?_⟩;have c4:=x1.trans x2;have hc:SlR nodeE w S (Sl.cut s ((1:Int).toNat) s.len 6) ((g.take s.len).drop 1):=hs.cut oM oM;rw[b7,eh]at hc;have hc:SlR nodeE w S (Sl.cut s ((1:Int).toNat) s.len 6) (g.drop 1):=by rw[b7];exact hc
  generalize Sl.cut s ((1:Int).toNat) s.len 6=sc at hc ⊢;have c7:=hc.len;have c9:(g.drop 1).length=g.length - 1:=fx;generalize hL:g.drop 1=L at hc c7 c9;have al:=b5.lt;refine loop2.up hc.max (λso t w'=>∃out:LP,PA w r w' out so/\out.Nodup/\(∀y,y∈out↔y∈(L.take t).map DY)/\out.length<=t)
   ⟨[],⟨c4,⟨[],c6,rfl⟩,(OwnS.zero w2).lowr (by have:=c4.size;omega),(λad h=>by cases h),by have:=x1.size;omega⟩,List.nodup_nil,λy=>by simp,fm _⟩ λso t w3 e3 ht ⟨out,hA,b6,a4,e1⟩ hn=>⟨λd2=>join.named λJ hJ=>?_,λd8=>?_⟩
  .have a7:t<L.length:=oM;have b4:∀a5 w' a0,PA w r w' a0 a5->a0.Nodup->(∀y,y∈a0↔y∈(L.take (t+1)).map DY)->a0.length<=t+1->J a5 w':=λa5 w' a0 q1 q2 q3 q4=>(by subst hJ;exact hn a7 a5 w' ⟨a0,q1,q2,q3,q4⟩);clear hJ hn;obtain⟨ad,c,e,ha,hN,_,_,c8⟩:=C6 hc a7;have d5:(L.take (t+1)).map DY=(L.take t).map DY++[DY L[t]]:=(by rw[dw a7,fq];rfl);rw[d5]at b4;generalize L[t]=x at*;refine⟨ad,⟨ha,oM,d2⟩,_,_,_,_,c,e,c8 _ hA.x,newS.set rfl λa8 w4 x4 a6 d7=>?_⟩;refine⟨_,a6.at0 xR rfl,_,_,_,a6.at1 (k:=1) xR rfl,?_⟩;have b2:=hA.ext x4;obtain⟨v,c3⟩:=b2.seen (DY x);refine⟨_,_,c3,v,_,rfl,λhq=>?_,λhq=>?_⟩
   .have b0:DY x∉out:=(by simpa using hq);refine⟨_,a6.at0 xR rfl,_,_,_,a6.at1 (k:=1) xR rfl,?_⟩;refine b2.put (p:=DY x) b0 hN oM a6 (by obtain⟨_,q,_⟩:=hA.map;have:=q.lt;omega) λa5 w5 c5=>b4 a5 w5 _ c5 ?_ (λy=>?_) (by rw[du,gl];omega)
    .rw[jb];refine⟨b6,by simp,λa ha b hb=>?_⟩;rw[ep]at hb;subst hb;exact λe=>b0 (e▸ha)
    .rw[fk,fk,a4]
   .have d1:DY x∈out:=(by simpa using hq);refine b4 so w4 out b2 b6 (λy=>?_) oM;rw[fk,<-a4,ep];exact⟨.inl,λh=>h.elim id λh=>h▸d1⟩
  .rw[gj oM,<-hL]at a4;have d0:FlatO AW 40 w3 w.heap.size so out:=FlatO.of (E:=pinE) (λx cs h=>h.1) hA.own (by unfold Ab;omega);have d4:∀q∈out,Ac q.name:=λq hq=>by obtain⟨x,hx,rfl⟩:=gq.1 ((a4 q).1 hq);obtain⟨n,d3,rfl⟩:=fp.1 (List.mem_of_mem_drop hx);obtain⟨_,_,_,_,h1,_⟩:=C6 hs d3;exact h1
   refine Zi0 d0 hA.x.size λl' w4 hp b8 a9 b9=>⟨rfl,?_⟩;refine hR so l' w4 (hA.x.trans' a9) (λ_=>⟨.of cPin_ord (λh=>SX.1 h) (hp.nodup_iff.2 b6) b8,λy=>by rw[hp.mem_iff,a4]⟩) (λh=>absurd h hg) b9 (λx hx=>d4 x (hp.mem_iff.1 hx)) λad ha=>?_;have:=hA.own.block ha;have:=a9.size;omega
end Go.Hal
namespace Go.Hal
def loop3.up{α β:Type}{a:α}{b:β}{body:α->β->Int->Wd->(α->β->Int->Wp)->Prop}(hN:N<=maxLen)(I:α->β->Nat->Wp)(h0:I a b 0 w)
  (hs:∀(a:α) (b:β) (n:Nat) w' (a4:α->β->Int->Wp),n<=N->I a b n w'->(n<N->∀a' b' a0,I a' b' (n+1) a0->a4 a' b' (Aa ((n:Int)+1)) a0)->body a b n w' a4):loop3 a b 0 w body:=
 ⟨λa b i w'=>∃n:Nat,i=n/\n<=N/\I a b n w',λ_ _ i _=>N - i.toNat,⟨0,rfl,gn _,h0⟩,λa b i w' ⟨n,hi,hn,hI⟩=>by subst hi;refine hs a b n w' _ hn hI λa5 a' b' a0 h=>?_;rw[Jn (n:=N) oM oM hN];exact⟨⟨n+1,oM,oM,h⟩,by show N - ((n:Int)+1).toNat<N - (n:Int).toNat;omega⟩⟩
def TZ{α:Type}{p:α->Bool}{l:List α}(h:l.any p=false):l.find? p=none:=by rw[kq];intro x hx;have:=kg.1 h x hx;simpa using this
def Zce{α:Type}(p:α->Bool)(l:List α):(AU p l= -1/\l.find? p=none)\/∃k,∃hk:k<l.length,AU p l=(k:Int)/\l.find? p=some l[k]:=by
 by_cases h:AU p l= -1
 .refine .inl ⟨h,TZ ?_⟩;rw[<-Fw,h];rfl
 .obtain⟨n,hn,e,ht,hp⟩:=Kz h;exact .inr ⟨n,hn,e,PQ hn (TZ ht) hp⟩
def Jd{l:List Bs}(h:SlR strE w S s l)(hn:n<l.length):∃ad,s.a=some ad/\Ac l[n]/\∀w',Ext w w'->ldc w' (ad.add (n*1)) [.string l[n]]:=by obtain⟨ad,cs,h1,h2,⟨rfl,h3⟩,h4⟩:=h.el hn;exact⟨ad,h1,h3,h4⟩
def Cv(T:List Dir)(p:Aq):Int:=match Ax (T.map AJ) p with
 |some i=>(i:Int)
 |none=>-1
def Zbi{T:List Dir}{p:Aq}(hi:i<T.length)(h:T[i].path=p)(h0:∀j (hj:j<T.length),j<i->T[j].path≠p):Ax (T.map AJ) p=some i:=by unfold Ax;rw[lq];refine⟨by rw[dz];exact hi,by simpa[AJ]using h,λj hj=>?_⟩;simpa[AJ]using h0 j oM hj
def Zbj{T:List Dir}{p:Aq}(h:∀j (hj:j<T.length),T[j].path≠p):Ax (T.map AJ) p=none:=by unfold Ax;rw[mj];intro x hx;obtain⟨d,hd,rfl⟩:=gq.1 hx;obtain⟨j,hj,rfl⟩:=fp.1 hd;exact decide_eq_false (h j hj)
def PK{t:Sl}{a b:List Bs}{T:Nat->Prop}{R:Bool->Wp}(hs:SlR strE w S s a)(ht:SlR strE w T t b)(hR:∀w',Ext w w'->R (decide (a=b)) w'):SE.Ht s t w R:=by
 unfold SE.Ht;have h1:=hs.len;have h2:=ht.len;refine⟨λh=>?_,λh=>?_⟩
 .have: ¬a=b:=λe=>by subst e;omega
  have h3:=hR w xR;rw[decide_eq_false this]at h3;exact h3
 have a9:a.length=b.length:=by have:=ji.1 h;omega
 refine loop1.up hs.max (λi w'=>Ext w w'/\a.take i=b.take i) ⟨Ext.refl _,rfl⟩ λi w1 b0 hi ⟨x1,hI⟩ hn=>⟨λa6=>bnd.drew λw2 x2=>?_,λa8=>?_⟩
 .have k1:i<a.length:=oM;have k2:i<b.length:=oM;obtain⟨ad,ha,_,hc⟩:=Jd hs k1;obtain⟨a0,a4,_,a5⟩:=Jd ht k2;refine⟨ad,⟨ha,oM,a6⟩,_,hc _ (x1.trans x2),a0,⟨a4,oM,oM⟩,_,a5 _ (x1.trans x2),λh=>?_,λh=>?_⟩
  .have a7: ¬a=b:=λe=>(by subst e;exact h rfl);have h3:=hR w2 (x1.trans x2);rw[decide_eq_false a7]at h3;exact h3
  .exact hn k1 _ ⟨x1.trans x2,WB k1 k2 hI (ji.1 h)⟩
 .have:i=a.length:=oM;subst this;rw[eh,gj oM]at hI;have h3:=hR w1 x1;rw[decide_eq_true hI]at h3;exact h3
def US:(bm #[47,109,111,100,117,108,101,115,47])=B modsT:=rfl
def Vv(p:Aq)(x:Bs):Cf (p++[x])=(Cf p++modsT)++x.toList:=by unfold Cf;rw[qd];simp
def Q6:∀{p:Aq},Bj p=true->(Cf p).length<=p.length*25
 | [],_=>fm _
 |x::p,h=>by unfold Bj at h;rw[mq,dx]at h;have h1:=CG h.1;have h2:=Q6 (p:=p) h.2;have e:Cf (x::p)=modsT++x.toList++Cf p:=rfl;have e9:modsT.length=9:=rfl;rw[e,du,du,fl,e9];omega
def UW{p:Aq}(hi:i<p.length):Bj (p.take (i+1))=(Bj (p.take i)&&Af p[i]):=by unfold Bj;rw[dw hi,pz];simp
def Va{p:Aq}(hi:i<p.length)(h:Af p[i]=false):Bj p=false:=by unfold Bj;rw[List.all_eq_false];exact⟨_,ff hi,by rw[h];decide⟩
def Zl4{p:Aq}{R:Bs->Wp}(hs:SlR strE w S s p)(hR:∀w',Ext w w'->R (B (A5 p)) w'):SE.N6 s w R:=by
 unfold SE.N6;have hl:=hs.len;have hm:=hs.max;have a4:=hs.2.2.2.1;have a9:strE.bytes=16:=rfl;rw[a9]at a4;unfold Ab at a4;refine⟨λh=>?_,λh=>?_⟩
 .have:p=[]:=fj oM;subst this;exact hR w xR
 .have a7:p≠[]:=λe=>by subst e;exact h (by rw[hl];rfl)
  have e9:modsT.length=9:=rfl;refine loop2.up hm (λout i w'=>Ext w w'/\Bj (p.take i)=true/\out=B (Cf (p.take i))) ⟨Ext.refl _,rfl,rfl⟩ λout i w1 b4 hi ⟨x1,hI,ho⟩ hn=>⟨λa6=>?_,λb2=>?_⟩
  .have a0:i<p.length:=oM;obtain⟨ad,ha,b0,hc⟩:=Jd hs a0;refine⟨ad,⟨ha,oM,a6⟩,_,hc _ x1,SE.GV.go (r04Name_se b0 λw2 x2=>⟨_,rfl,λhq=>?_,λhq=>?_⟩)⟩
   .have a5:=Va a0 (by simpa using hq);have h2:=hR w2 (x1.trans x2);unfold A5 at h2;rw[if_neg a7,if_neg (by rw[a5];decide)]at h2;exact h2
   .have a8:Af p[i]=true:=(by simpa using hq);have h1:=CG a8;have h2:=Q6 hI;rw[fb,ju oM]at h2;subst ho;rw[US,AX];refine⟨by rw[Ad,Ad,Ar,e9];omega,ad,⟨ha,oM,a6⟩,_,hc _ (x1.trans x2),?_⟩;rw[Ew p[i],AX];refine⟨by rw[Ad,Ad,Ar,du,e9];omega,hn a0 _ w2 ⟨x1.trans x2,by rw[UW a0,hI,a8];rfl,?_⟩⟩;rw[dw a0,Vv]
  .rw[gj oM]at hI ho;have h2:=hR w1 x1;unfold A5 at h2;rw[if_neg a7,if_pos hI]at h2;rw[ho];exact h2
def Hy{p:Aq}{R:Bs->Wp}(hs:SlR strE w S s p)(hb:p.length<=4000000000000)(hR:∀w',Ext w w'->R (B (A5 p)) w'):SE.Eh s w R:=by
 unfold SE.Eh;have hl:=hs.len;have hm:=hs.max;refine⟨λh=>?_,λh=>?_⟩
 .have:p=[]:=fj oM;subst this;exact hR w xR
 .have a5:p≠[]:=λe=>by subst e;exact h (by rw[hl];rfl)
  have e9:modsT.length=9:=rfl;intro a w1 ha hw;subst ha;have x1:Ext w w1:=hw▸Ext.alloc _ _;have a7:Bld w.heap.size [] w1:=hw▸MX w;refine loop1.up hm (λi w'=>Ext w w'/\Bj (p.take i)=true/\Bld w.heap.size (Cf (p.take i)) w') ⟨x1,rfl,a7⟩ λi w2 b5 hi ⟨x2,hI,hB⟩ hn=>⟨λb0=>?_,λb4=>?_⟩
  .have a0:i<p.length:=oM;obtain⟨ad,ha,b2,hc⟩:=Jd hs a0;refine⟨ad,⟨ha,oM,b0⟩,_,hc _ x2,SE.CA.go (scanName_se b2 λw3 x3=>⟨_,rfl,λhq=>?_,λhq=>?_⟩)⟩
   .have a4:=Va a0 (by simpa using hq);have h2:=hR w3 (x2.trans x3);unfold A5 at h2;rw[if_neg a5,if_neg (by rw[a4];decide)]at h2;exact h2
   .have a6:Af p[i]=true:=(by simpa using hq);have h1:=CG a6;have h2:=Q6 hI;rw[fb,ju oM]at h2;rw[US];refine HH (m:=modsT) (hB.ext x3) rfl (x2.trans x3) (by rw[e9];omega) λw4 n4 x4 a8=>⟨_,_,rfl,?_⟩;rw[Ew p[i]];refine HH (m:=p[i].toList) a8 rfl x4 (by rw[du,e9];omega) λw5 n5 x5 a9=>⟨_,_,rfl,hn a0 w5 ⟨x5,by rw[UW a0,hI,a6];rfl,?_⟩⟩;rw[dw a0,Vv];exact a9
  .rw[gj oM]at hI hB;refine MW hB rfl x2 λw3 x3=>⟨_,rfl,?_⟩;have h2:=hR w3 x3;unfold A5 at h2;rw[if_neg a5,if_pos hI]at h2;exact h2
def Zb8{T:List Dir}{f:Value}{q:Dir->Bool}(hs:SlR dirE w S s T)
  (hf:∀x∈T,∀(ps d e o:Sl) w' (k:Value->Wp),Ext w w'->SlR strE w' S ps x.path->(∀a4,Ext w' a4->k (.bool (q x)) a4)->callV prog f [.agg #[ps.v,.string x.pack.name,vi x.pack.v.ma,vi x.pack.v.mi,vi x.pack.v.pa,d.v,e.v,o.v,vi x.node]] w' k)
  (hR:∀w',Ext w w'->R (AU q T) w'):SE.LW s f w R:=by
 unfold SE.LW;have hl:=hs.len;refine loop1.up hs.max (λi w'=>Ext w w'/\(T.take i).any q=false) ⟨Ext.refl _,rfl⟩ λi w1 a7 hi ⟨x1,hI⟩ hn=>⟨λa5=>?_,λa6=>?_⟩
 .have a0:i<T.length:=oM;obtain⟨ad,ps,d,e,o,ha,_,_,hp,_,_,_,hc⟩:=dirEl hs a0;refine⟨ad,⟨ha,oM,a5⟩,_,_,_,_,_,_,_,_,_,hc _ x1,hf _ (ff a0) ps d e o _ _ x1 (hp.ext x1) λw2 x2=>⟨_,rfl,λh=>?_,λh=>?_⟩⟩
  .rw[<-Fx a0 hI h];exact hR _ (x1.trans x2)
  .exact hn a0 _ ⟨x1.trans x2,by rw[F8 a0 hI];exact h⟩
 .have:i=T.length:=oM;rw[this,eh]at hI;rw[<-E8 hI];exact hR _ x1
def ZX:Bn prog 303:=enters_of func303 kR rfl
def Zbe(T:List Dir)(p:Aq):AU (λd=>decide (d.path=p)) T=Cv T p:=by
 unfold Cv;by_cases h:AU (λd=>decide (d.path=p)) T= -1
 .have h0:T.any (λd=>decide (d.path=p))=false:=by rw[<-Fw,h];rfl
  rw[Zbj (λj hj=>by simpa using kg.1 h0 _ (ff hj))];exact h
 .obtain⟨n,hn,e,ht,hp⟩:=Kz h;rw[e,Zbi hn (of_decide_eq_true hp) λj hj a0=>?_];have:=kg.1 ht T[j] (List.mem_take_iff_getElem.2 ⟨j,oM,rfl⟩);simpa using this
def Jf{t:Sl}{T:List Dir}{p:Aq}{Q:Nat->Prop}(hs:SlR dirE w S s T)(ht:SlR strE w Q t p)(hR:∀w',Ext w w'->R (Cv T p) w'):SE.EX s t w R:=by unfold SE.EX;refine newS.intro λa w1 x1 a5 _ _=>newS.intro λa1 w2 x2 a6 _ _=>⟨s,a5.at0 (r:=[]) x2 rfl,?_⟩;have a0:=x1.trans x2;refine SE.LW.go (Zb8 (q:=λd=>decide (d.path=p)) (hs.ext a0) (λy _ ps d e o w3 k x3 hp hk=>⟨_,_,rfl,ZX,SE.Ow.go ?_⟩) λw3 x3=>⟨_,rfl,by rw[Zbe];exact hR w3 (a0.trans x3)⟩);unfold SE.Ow;refine newS.intro λa4 w4 x4 a7 _ _=>⟨ps,a7.at0 xR rfl,t,(a6.ext (x3.trans x4)).ldc.pre (r:=[]) rfl,SE.Ht.go (PK (hp.ext x4) ((ht.ext a0).ext (x3.trans x4)) λw5 x5=>⟨_,rfl,hk w5 (x4.trans x5)⟩)⟩
def Zbf{T:List Dir}{p:Aq}:Cv T p=(i:Int)↔Ax (T.map AJ) p=some i:=by
 unfold Cv;cases Ax (T.map AJ) p with
 |none=>show(-1:Int)=(i:Int)↔_;exact⟨λh=>by omega,nO⟩
 |some k=>show(k:Int)=(i:Int)↔_;rw[eu];omega
def Zbg{T:List Dir}{p:Aq}:(0<=Cv T p/\Cv T p<(i:Int))↔∃h,h<i/\Ax (T.map AJ) p=some h:=by
 unfold Cv;cases Ax (T.map AJ) p with
 |none=>show(0:Int)<= -1/\(-1:Int)<(i:Int)↔_;exact⟨λh=>by omega,λ⟨h,_,h2⟩=>by cases h2⟩
 |some k=>show(0:Int)<=(k:Int)/\(k:Int)<(i:Int)↔_;exact⟨λh=>⟨k,oM,rfl⟩,λ⟨h,h1,h2⟩=>by cases h2;omega⟩
structure HeadOk(d:Dir):Prop where
 path:d.path≠[]
 names:Bj d.path=true
 len:(A5 d.path).length<=1024
 node:1<=d.node
def Zjm{T:List Dir}{d:Dir}:StandsD T i d↔HeadOk d/\Cv T d.path=(i:Int)/\(0<=Cv T d.path.dropLast/\Cv T d.path.dropLast<(i:Int))/\AQ d.pack=true/\d.path.getLast? =some d.pack.name:=by
 rw[Zbf,Zbg];constructor
 .intro h;exact⟨⟨h.path,h.names,h.len,h.node⟩,h.first,h.up,h.may,h.name⟩
 .rintro⟨h,h1,h2,h3,h4⟩;exact⟨h.path,h.names,h.len,h.node,h1,h2,h3,h4⟩
def Zj9{p:Aq}(h:p≠[]):Ai (B (A5 p)) ⟨#[]⟩= !Bj p:=by
 unfold A5;rw[if_neg h];cases hn:Bj p with
 |true=>rw[if_pos rfl];have h9:=Q7 h;show Ai (B (Cf p)) ⟨#[]⟩=false;rw[pf];intro e;have:=congrArg ByteArray.toList (AH.1 e);rw[H6]at this;have e0:(bm #[]).toList=[]:=H6 [];rw[e0]at this;rw[this]at h9;simp at h9
 |false=>rw[if_neg dC];exact AH.2 rfl
def Zb3{d:Dir}(hn:n=d.path.length):(((((n:Int)==0)||Ai (B (A5 d.path)) ⟨#[]⟩)||decide (1024<((B (A5 d.path)).size:Int)))||decide (d.node<1))=false↔HeadOk d:=by
 subst hn;rw[Ad];by_cases h:d.path=[]
 .constructor
  .intro hq;rw[h]at hq;simp at hq
  .intro hq;exact absurd h hq.path
 .rw[Zj9 h];have e1:((d.path.length:Int)==0)=false:=by rw[pf];intro e;have e:=eq_of_beq e;exact h (fj oM)
  rw[e1];simp only[pq,gb,ox,decide_eq_false_iff_not];constructor
  .rintro⟨⟨h1,h2⟩,h3⟩;exact⟨h,h1,oM,oM⟩
  .intro q;exact⟨⟨q.names,by have:=q.len;omega⟩,by have:=q.node;omega⟩
def Zdh{p:Aq}{n:Bs}(h:p.length - 1<p.length):Ai n p[p.length - 1]=true↔p.getLast? =some n:=by rw[AH,List.getLast?_eq_getElem?,dt h,eu];exact eq_comm
def SlR.front{p:Aq}(h:SlR strE w S s p)(h0:p≠[]):Aa (((s.len:Nat):Int) - 1)=((p.length - 1:Nat):Int)/\SlR strE w S (Sl.cut s 0 (p.length - 1) 1) p.dropLast:=by have hl:=h.len;have hm:=h.max;rw[Al]at hm;have hp:0<p.length:=mw.2 h0;refine⟨by rw[Ag oM oM];omega,?_⟩;have:=h.cut (a:=0) (b:=p.length - 1) (gn _) oM;rw[jv,<-List.dropLast_eq_take]at this;exact this
def Zka{T:List Dir}{R:Bool->Wp}(ht:Tab w)(hs:SlR dirE w S s T)(hi:i<T.length)(hb:∀d∈T,d.path.length<=4000000000000)(hR:∀(b:Bool) w',Ext w w'->(b=true↔StandsD T i T[i])->R b w'):SE.Ms s (i:Int) w R:=by
 unfold SE.Ms;have d2:=hs.len;obtain⟨ad,ps,dd,ee,oo,ha,_,c8,hp,hd,he,ho,hc⟩:=dirEl hs hi;have hb:=hb _ (ff hi);have c7:=hp.len;have d1:T[i].path.length<=ps.cap:=hp.2.1;rw[Zjm]at hR;generalize T[i]=d at*;have b7:∀w',Ext w w'-> ¬(HeadOk d/\Cv T d.path=(i:Int)/\(0<=Cv T d.path.dropLast/\Cv T d.path.dropLast<(i:Int))/\AQ d.pack=true/\d.path.getLast? =some d.pack.name)->R false w':=λw' hx h=>hR false w' hx ⟨nO,λhf=>absurd hf h⟩;refine newS.intro λa w1 x1 b4 _ _=>⟨s,b4.ldc.pre (r:=[]) rfl,ad,⟨ha,oM,oM⟩,_,_,_,_,_,_,_,_,_,hc _ x1,newS.set rfl λa2 w2 x2 a0 _=>⟨ps,a0.at0 xR rfl,?_⟩⟩;have a8:=x1.trans x2;refine SE.Eh.go (Hy (hp.ext a8) hb λw3 x3=>⟨_,rfl,ps,a0.at0 x3 rfl,bound (bound (bound ⟨d.node,λ_=>a0.at1 (k:=8) (r:=[]) x3 rfl,bound ?_⟩))⟩);have b5:=a8.trans x3;have a4:=Zb3 (d:=d) c7;generalize (((((ps.len:Int)==0)||Ai (B (A5 d.path)) ⟨#[]⟩)||decide (1024<((B (A5 d.path)).size:Int)))||decide (d.node<1))=d0 at*;refine⟨s,λ_=>b4.at0 (r:=[]) (x2.trans x3) rfl,ps,λ_=>a0.at0 x3 rfl,?_⟩;refine gCall.intro (Cv T d.path) (λ_ q hq=>SE.EX.go (Jf (hs.ext b5) (hp.ext b5) λw4 x4=>⟨_,rfl,hq w4 x4⟩)) λd3 w4 x4 a6=>⟨λhq=>b7 w4 (b5.trans x4) λ⟨h1,h2,_⟩=>?_,λhq=>bnd.drew λw5 x5=>?_⟩
 .have hb:=a4.2 h1;subst hb;rw[a6 rfl,h2]at hq;simp at hq
 .rw[gb]at hq;obtain⟨q1,q2⟩:=hq;have h1:=a4.1 q1;have h2:Cv T d.path=(i:Int):=by rw[q1]at a6;rw[<-a6 rfl];simpa using q2
  have a9:=x3.trans (x4.trans x5);have c3:=a8.trans a9;obtain⟨ew,b8⟩:=(hp.ext c3).front h1.path;refine⟨s,b4.at0 (r:=[]) (x2.trans a9) rfl,ps,a0.at0 a9 rfl,ps,a0.at0 a9 rfl,?_⟩;rw[ew,ec];refine⟨⟨oM,oM⟩,?_⟩;refine SE.EX.go (Jf (hs.ext c3) b8 λw6 x6=>⟨_,rfl,bnd.drew λw7 x7=>bound (bound ?_)⟩);have b6:=a9.trans (x6.trans x7);have b0:=a8.trans b6;refine⟨_,_,_,_,dd,ee,oo,λ_=>a0.at1 (k:=1) b6 rfl,?_⟩;refine gCall.intro (AQ d.pack) (λ_ q hq=>SE.Gc.go (NM (ht.ext b0) c8 (hd.ext b0) (he.ext b0) (ho.ext b0) λw8 x8=>⟨_,rfl,hq w8 x8⟩)) λd4 w8 x8 a7=>bound ?_;have b2:=b6.trans x8;have c4:=a8.trans b2;have c9:0<d.path.length:=mw.2 h1.path;have b9:d.path.length - 1<d.path.length:=oM;obtain⟨al,c5,_,c6⟩:=Jd hp b9;refine⟨_,λ_=>a0.at1 (k:=1) b2 rfl,ps,λ_=>a0.at0 b2 rfl,ps,λ_=>a0.at0 b2 rfl,al,λ_=>by rw[ew];exact⟨c5,oM,oM⟩,_,λ_=>by rw[ew,ec];exact c6 _ c4,?_⟩;refine hR _ w8 c4 ?_;have a5:=Zdh (p:=d.path) (n:=d.pack.name) b9;constructor
  .intro hq;simp only[dx,decide_eq_true_eq]at hq;obtain⟨⟨⟨k1,k2⟩,k3⟩,k4⟩:=hq;refine⟨h1,h2,⟨k1,k2⟩,?_,a5.1 k4⟩;rw[<-k3,a7 (by rw[decide_eq_true k1,decide_eq_true k2];rfl)]
  .rintro⟨_,_,⟨k1,k2⟩,k3,k4⟩;rw[decide_eq_true k1,decide_eq_true k2]at a7 ⊢;rw[a7 rfl,k3,a5.2 k4];rfl
def Zaj{t:Sl}{a b:LS}{T:Nat->Prop}{R:Bool->Wp}(hs:SlR spanE w S s a)(ht:SlR spanE w T t b)(hR:∀w',Ext w w'->R (decide (a=b)) w'):SE.LR s t w R:=by
 unfold SE.LR;have hl:=hs.len;have a9:=ht.len;refine⟨λh=>?_,λh=>?_⟩
 .have:decide (a=b)=false:=decide_eq_false λe=>h (by rw[hl,a9,e]);rw[<-this];exact hR _ xR
 have a4:a.length=b.length:=by have:=ji.1 h;omega
 refine loop1.up hs.max (λi w'=>Ext w w'/\a.take i=b.take i) ⟨Ext.refl _,rfl⟩ λi w1 b4 hi ⟨x1,hI⟩ hn=>⟨λb0=>bnd.drew λw2 x2=>?_,λb2=>?_⟩
 .have h1:i<a.length:=oM;have h2:i<b.length:=oM;obtain⟨ad,ha,_,hc⟩:=EQ hs h1;obtain⟨a5,a6,_,a7⟩:=EQ ht h2;have a0:=x1.trans x2;refine⟨ad,⟨ha,oM,b0⟩,_,_,_,_,_,_,hc _ a0,a5,⟨a6,oM,oM⟩,_,_,_,_,_,_,a7 _ a0,?_⟩;rw[VZ];refine⟨λh=>?_,λh=>hn h1 _ ⟨a0,(R7 h1 h2 hI).2 (by simpa using h)⟩⟩;have:decide (a=b)=false:=decide_eq_false (Qq h1 h2 (by simpa using h));rw[<-this];exact hR _ a0
 .have a8:i=a.length:=oM;rw[a8,eh,a4,eh]at hI;have:decide (a=b)=true:=decide_eq_true hI;rw[<-this];exact hR _ x1
def Zf{x y:Dep}:decide (x=y)=(Ai x.name y.name&&decide (x.range=y.range)):=by obtain⟨n,l⟩:=x;obtain⟨m,k⟩:=y;rw[gk];simp only[decide_eq_true_eq,Dep.mk.injEq,dx,AH]
def ZU:Bn prog 300:=enters_of func300 kR rfl
def Zfr{x y:Dep}{t:Sl}{T:Nat->Prop}{R:Bool->Wp}(hs:SlR spanE w S s x.range)(ht:SlR spanE w T t y.range)(hR:∀w',Ext w w'->R (decide (x=y)) w'):SE.La x.name s y.name t w R:=by
 unfold SE.La;rw[Zf]at hR;refine newS.intro λa w1 x1 a5 _ _=>newS.intro λa1 w2 x2 a6 _ _=>⟨_,a5.at0 x2 rfl,_,a6.at0 xR rfl,bound ⟨s,λ_=>a5.at1 (k:=1) (r:=[]) x2 rfl,t,λ_=>a6.at1 (k:=1) (r:=[]) xR rfl,?_⟩⟩;have a4:=x1.trans x2;refine gCall.intro (decide (x.range=y.range)) (λ_ q hq=>SE.LR.go (Zaj (hs.ext a4) (ht.ext a4) λw' hx=>⟨_,rfl,hq _ hx⟩)) λa7 w3 x3 a0=>?_;have h3:=hR w3 (a4.trans x3);cases hg:Ai x.name y.name with
 |false=>rw[hg]at h3;exact h3
 |true=>rw[hg]at h3 a0;rw[a0 rfl];exact h3
def Qy{t:Sl}{a b:LD}{T:Nat->Prop}{R:Bool->Wp}(hs:SlR depE w S s a)(ht:SlR depE w T t b)(hR:∀w',Ext w w'->R (decide (a=b)) w'):SE.Hg s t w R:=by
 unfold SE.Hg;refine SE.On.go ?_;unfold SE.On;have h1:=hs.len;have h2:=ht.len;have hf: ¬a=b->∀w',Ext w w'->R false w':=λb4 w' hx=>by have h3:=hR w' hx;rw[decide_eq_false b4]at h3;exact h3
 refine⟨λh=>⟨_,rfl,hf (λe=>by subst e;omega) w xR⟩,λh=>?_⟩;have b7:a.length=b.length:=by have:=ji.1 h;omega
 refine loop1.up hs.max (λi w'=>Ext w w'/\a.take i=b.take i) ⟨Ext.refl _,rfl⟩ λi w1 b8 hi ⟨x1,hI⟩ hn=>⟨λb2=>?_,λb6=>?_⟩
 .have k1:i<a.length:=oM;have k2:i<b.length:=oM;obtain⟨ad,u,ha,_,_,hr,hc⟩:=BD hs k1;obtain⟨a6,u2,a7,_,_,b5,b0⟩:=BD ht k2;refine⟨ad,⟨ha,oM,b2⟩,_,u,hc _ x1,newS.set rfl λa4 w2 x2 a8 _=>⟨a6,⟨a7,oM,oM⟩,_,u2,b0 _ (x1.trans x2),newS.set rfl λa5 w3 x3 a9 _=>?_⟩⟩;have a0:=x1.trans (x2.trans x3);refine⟨_,u,(a8.ext x3).ldc.pre (r:=[]) rfl,_,u2,a9.ldc.pre (r:=[]) rfl,_,_,rfl,ZU,SE.La.go (Zfr (hr.ext a0) (b5.ext a0) λw4 x4=>⟨_,rfl,λhq=>?_,λhq=>?_⟩)⟩
  .refine⟨_,rfl,hf (λhh=>?_) w4 (a0.trans x4)⟩;have:a[i]=b[i]:=(by subst hh;rfl);rw[decide_eq_true this]at hq;cases hq
  .exact hn k1 w4 ⟨a0.trans x4,WB k1 k2 hI (by simpa using hq)⟩
 .have:i=a.length:=oM;subst this;rw[eh,gj oM]at hI;have h3:=hR w1 x1;rw[decide_eq_true hI]at h3;exact⟨_,rfl,h3⟩
def Zfs{x y:Pack}:decide (x=y)=(Ai x.name y.name&&decide (x.v=y.v)&&decide (x.deps=y.deps)&&decide (x.peers=y.peers)&&decide (x.opt=y.opt)):=by obtain⟨n,v,d,e,o⟩:=x;obtain⟨n',v',d',e',o'⟩:=y;rw[gk];simp only[decide_eq_true_eq,Pack.mk.injEq,dx,AH];exact⟨λ⟨a,b,c,d,e⟩=>⟨⟨⟨⟨a,b⟩,c⟩,d⟩,e⟩,λ⟨⟨⟨⟨a,b⟩,c⟩,d⟩,e⟩=>⟨a,b,c,d,e⟩⟩
def KX{p q:Pack}{d e o d' e' o':Sl}{T:Nat->Prop}{R:Bool->Wp}(hd:SlR depE w S d p.deps)(he:SlR depE w S e p.peers)(ho:SlR depE w S o p.opt)(b0:SlR depE w T d' q.deps)(b2:SlR depE w T e' q.peers)(b4:SlR depE w T o' q.opt)
  (hR:∀w',Ext w w'->R (decide (p=q)) w'):SE.F2 p.name p.v.ma p.v.mi p.v.pa d e o q.name q.v.ma q.v.mi q.v.pa d' e' o' w R:=by
 unfold SE.F2;rw[Zfs]at hR;refine newS.intro λa w1 x1 hb _ _=>newS.intro λa1 w2 x2 a4 _ _=>⟨_,hb.at0 x2 rfl,_,a4.at0 xR rfl,bound ⟨_,_,_,λ_=>hb.at1 (k:=1) x2 rfl,_,_,_,λ_=>a4.at1 (k:=1) xR rfl,bound ⟨d,λ_=>hb.at1 (k:=4) x2 rfl,d',λ_=>a4.at1 (k:=4) xR rfl,?_⟩⟩⟩;have a7:=x1.trans x2;have ev:((p.v.ma==q.v.ma)&&((p.v.mi==q.v.mi)&&((p.v.pa==q.v.pa)&&true)))=decide (p.v=q.v):=Mw;rw[ev];refine gCall.intro (decide (p.deps=q.deps)) (λ_ k hk=>SE.Hg.go (Qy (hd.ext a7) (b0.ext a7) λw' hx=>⟨_,rfl,hk _ hx⟩)) λt3 w3 x3 a6=>bound ⟨e,λ_=>hb.at1 (k:=5) (x2.trans x3) rfl,e',λ_=>a4.at1 (k:=5) x3 rfl,?_⟩;have a8:=a7.trans x3;refine gCall.intro (decide (p.peers=q.peers)) (λ_ k hk=>SE.Hg.go (Qy (he.ext a8) (b2.ext a8) λw' hx=>⟨_,rfl,hk _ hx⟩)) λt4 w4 x4 a5=>bound ⟨o,λ_=>hb.at1 (k:=6) (r:=[]) (x2.trans (x3.trans x4)) rfl,o',λ_=>a4.at1 (k:=6) (r:=[]) (x3.trans x4) rfl,?_⟩;have a9:=a8.trans x4;refine gCall.intro (decide (p.opt=q.opt)) (λ_ k hk=>SE.Hg.go (Qy (ho.ext a9) (b4.ext a9) λw' hx=>⟨_,rfl,hk _ hx⟩)) λt5 w5 x5 a0=>?_;have h5:=hR w5 (a9.trans x5);cases hg:(Ai p.name q.name&&decide (p.v=q.v))with
 |false=>rw[hg]at h5;exact h5
 |true=>
  rw[hg]at h5 a6 a5 a0;have a6:=a6 rfl;subst a6;cases h1:decide (p.deps=q.deps)with
  |false=>rw[h1]at h5;exact h5
  |true=>
   rw[h1]at h5 a5 a0;have a5:=a5 rfl;subst a5;cases h2:decide (p.peers=q.peers)with
   |false=>rw[h2]at h5;exact h5
   |true=>rw[h2]at h5 a0;have a0:=a0 rfl;subst a0;exact h5
open Classical in
noncomputable def GL (T:List Dir):Int:=if TreeOk T then 0 else 42
def Pp{T:List Dir}(h:TreeOk T):GL T=0:=by unfold GL;rw[if_pos h]
def Tg{T:List Dir}(h: ¬TreeOk T):GL T=42:=by unfold GL;rw[if_neg h]
def Pq{T:List Dir}:GL T=0↔TreeOk T:=by
 constructor
 .intro h;exact iw λhn=>by rw[Tg hn]at h;cases h
 .exact Pp
def Zm{d:Dir}:(d.path=[]/\d.pack=Ay/\d.node=0)↔d=⟨[],Ay,0⟩:=by obtain⟨p,k,n⟩:=d;simp only[Dir.mk.injEq]
def WF{T:List Dir}(ht:Tab w)(hs:SlR dirE w S s T)(hb:∀d∈T,d.path.length<=4000000000000)(hR:∀w',Ext w w'->R (GL T) w'):SE.Jg s w R:=by
 unfold SE.Jg;have c5:=hs.len;have a9:∀w',Ext w w'-> ¬TreeOk T->R 42 w':=λw' hx h=>by have:=hR w' hx;rwa [Tg h]at this
 refine newS.intro λa w1 x1 a8 _ _=>⟨s,a8.ldc.pre (r:=[]) rfl,bound ⟨s,λ_=>a8.ldc.pre (r:=[]) rfl,λhc=>a9 w1 x1 λhF=>?_,λhc=>?_⟩⟩
 .have:=hF.len;rw[decide_eq_false oM,decide_eq_false oM]at hc;cases hc
 simp only[gb,decide_eq_false_iff_not]at hc;obtain⟨b9,c3⟩:=hc;refine⟨s,a8.ldc.pre (r:=[]) rfl,?_⟩;refine loop1.up hs.max (λi w'=>Ext w1 w'/\∀j (hj:j<T.length),j<i->(if j=0 then T[j]=⟨[],Ay,0⟩else StandsD T j T[j])) ⟨Ext.refl _,λj _ h=>by omega⟩ λi w2 c7 hi ⟨x2,hI⟩ hn=>⟨λb8=>?_,λc4=>?_⟩
 .have a0:i<T.length:=oM;have b5:=x1.trans x2;obtain⟨ad,ps,dd,ee,oo,ha,_,c6,hp,hd,he,ho,hc⟩:=dirEl hs a0;have b4:=hp.len;refine⟨ad,⟨ha,oM,b8⟩,_,_,_,_,_,_,_,_,_,hc _ b5,newS.set rfl λa5 w3 x3 b0 _=>join.named λJ hJ=>?_⟩;have a7:=b5.trans x3;have a4:∀(b:Bool) w',Ext w1 w'->(b=true↔(if i=0 then T[i]=⟨[],Ay,0⟩else StandsD T i T[i]))->J b w':=by
   subst hJ;intro b w' hx hq;refine⟨λh=>a9 w' (x1.trans hx) λhF=>?_,λh=>hn a0 w' ⟨hx,λj hj b7=>?_⟩⟩
   .have:b=true:=hq.2 (by
     split
     .rename_i h0;subst h0;have:=hF.root;rw[dt a0]at this;exact jm this
     .rename_i h0;exact hF.rest i _ (dt a0) h0)
    rw[this]at h;cases h
   .obtain h'|h':=ik.1 b7
    .exact hI j hj h'
    .subst h';exact hq.1 (by simpa using h)
  clear hJ hn;refine⟨λh0=>?_,λh0=>?_⟩
  .have b2:i=0:=oM;rw[if_pos b2]at a4;rw[<-Zm]at a4;generalize T[i]=d at*;refine⟨ps,b0.at0 xR rfl,bound ⟨_,_,_,_,dd,ee,oo,λ_=>b0.at1 (k:=1) xR rfl,?_⟩⟩;refine gCall.intro (decide (d.pack=Ay)) (λ_ q hq=>SE.F2.go (KX (p:=d.pack) (q:=Ay) (T:=None') (hd.ext a7) (he.ext a7) (ho.ext a7) (SlR.nil trivial) (SlR.nil trivial) (SlR.nil trivial) λw4 x4=>⟨_,rfl,hq w4 x4⟩)) λc8 w4 x4 a6=>bound ⟨d.node,λ_=>b0.at1 (k:=8) (r:=[]) x4 rfl,a4 _ w4 (x2.trans (x3.trans x4)) ?_⟩;have e1:(((ps.len:Nat):Int)==0)=true↔d.path=[]:=by
    rw[beq_iff_eq];constructor
    .intro h;exact fj oM
    .intro h;rw[h]at b4;simp at b4;omega
   constructor
   .intro hq;simp only[dx]at hq;obtain⟨⟨k1,k2⟩,k3⟩:=hq;rw[a6 k1]at k2;exact⟨e1.1 k1,of_decide_eq_true k2,by simpa using k3⟩
   .rintro⟨k1,k2,k3⟩;rw[e1.2 k1]at a6 ⊢;rw[a6 rfl,decide_eq_true k2,k3];rfl
  .have b2:i≠0:=oM;rw[if_neg b2]at a4;refine⟨s,a8.at0 (r:=[]) (x2.trans x3) rfl,SE.Ms.go (Zka (ht.ext a7) (hs.ext a7) a0 hb λb w4 x4 hq=>⟨b,rfl,a4 b w4 (x2.trans (x3.trans x4)) hq⟩)⟩
 .have h:=hR w2 (x1.trans x2);rw[Pp ⟨⟨oM,oM⟩,?_,λi d hd h0=>?_⟩]at h
  .exact h
  .have:=hI 0 oM oM;rw[if_pos rfl]at this;rw[dt oM,this]
  .obtain⟨b6,rfl⟩:=fh.1 hd;have:=hI i b6 oM;rwa [if_neg h0]at this
def Zei{k:Mani}{d e o v d' e' o' v':Sl}{T:Nat->Prop}{R:Bool->Wp}(hd:SlR depE w S d m.deps)(he:SlR depE w S e m.dev)(ho:SlR depE w S o m.opt)(hv:SlR depE w S v m.over)(a7:SlR depE w T d' k.deps)(a8:SlR depE w T e' k.dev)(a9:SlR depE w T o' k.opt)(b0:SlR depE w T v' k.over)
  (hR:∀w',Ext w w'->R (decide (m=k)) w'):SE.KL d e o v d' e' o' v' w R:=by
 unfold SE.KL;have eq:decide (m=k)=(decide ((⟨⟨#[]⟩,⟨0,0,0⟩,m.deps,m.dev,m.opt⟩:Pack)=⟨⟨#[]⟩,⟨0,0,0⟩,k.deps,k.dev,k.opt⟩)&&decide ((⟨⟨#[]⟩,⟨0,0,0⟩,m.over,[],[]⟩:Pack)=⟨⟨#[]⟩,⟨0,0,0⟩,k.over,[],[]⟩)):=by obtain⟨a,b,c,d⟩:=m;obtain⟨a',b',c',d'⟩:=k;rw[gk];simp only[decide_eq_true_eq,Mani.mk.injEq,Pack.mk.injEq,dx,true_and,and_true];exact⟨λ⟨a,b,c,d⟩=>⟨⟨a,b,c⟩,d⟩,λ⟨⟨a,b,c⟩,d⟩=>⟨a,b,c,d⟩⟩
 rw[eq]at hR;refine newS.intro λa w1 x1 hb _ _=>newS.intro λa1 w2 x2 a4 _ _=>⟨d,hb.at0 x2 rfl,e,hb.at1 (k:=1) x2 rfl,o,hb.at1 (k:=2) x2 rfl,d',a4.at0 xR rfl,e',a4.at1 (k:=1) xR rfl,o',a4.at1 (k:=2) xR rfl,?_⟩;have a0:=x1.trans x2;refine SE.F2.go (KX (p:=⟨⟨#[]⟩,⟨0,0,0⟩,m.deps,m.dev,m.opt⟩) (q:=⟨⟨#[]⟩,⟨0,0,0⟩,k.deps,k.dev,k.opt⟩) (hd.ext a0) (he.ext a0) (ho.ext a0) (a7.ext a0) (a8.ext a0) (a9.ext a0) λw3 x3=>⟨_,rfl,v,λ_=>hb.at1 (k:=3) (r:=[]) (x2.trans x3) rfl,v',λ_=>a4.at1 (k:=3) (r:=[]) x3 rfl,?_⟩);have a5:=a0.trans x3;refine gCall.intro (decide ((⟨⟨#[]⟩,⟨0,0,0⟩,m.over,[],[]⟩:Pack)=⟨⟨#[]⟩,⟨0,0,0⟩,k.over,[],[]⟩)) (λ_ q hq=>SE.F2.go (KX (p:=⟨⟨#[]⟩,⟨0,0,0⟩,m.over,[],[]⟩) (q:=⟨⟨#[]⟩,⟨0,0,0⟩,k.over,[],[]⟩) (S:=S) (T:=T) (hv.ext a5) (SlR.nil trivial) (SlR.nil trivial) (b0.ext a5) (SlR.nil trivial) (SlR.nil trivial) λw4 x4=>⟨_,rfl,hq w4 x4⟩)) λb2 w4 x4 a6=>?_;have h4:=hR w4 (a5.trans x4);revert a6 h4;cases decide ((⟨⟨#[]⟩,⟨0,0,0⟩,m.deps,m.dev,m.opt⟩:Pack)=⟨⟨#[]⟩,⟨0,0,0⟩,k.deps,k.dev,k.opt⟩)with
 |false=>exact λ_ h=>h
 |true=>exact λh1 h2=>by rw[h1 rfl];exact h2
open Go.Lib Go.Sort
section
variable {α:Type} [Inhabited α] (fn:α->Int)
def Zb6{g:Nat}{l:List α}{tail:LV}(h:RowB E9 w g (l.map fn) tail):Go.Sort.Holds (λx=>Value.int .i64 (fn x)) w g 0 l.toArray:=by
 obtain⟨t,_,_,hb⟩:=h;rw[PR]at hb;intro j hj;have a0:j<l.length:=by simpa using hj
 constructor
 .simp only[World.cell?,hb,ke];rw[jr,fy (by rw[dz,dz];exact a0),gc,gc,dt a0,getElem!_pos l.toArray j hj];rfl
 .simp[World.frozen?,hb]
def VN{g:Nat}{l l':List α}{tail:LV}{os:Array Obj}(h:RowB E9 w g (l.map fn) tail)(hl:l'.length=l.length):
  But g w (sortWorld (λx=>Value.int .i64 (fn x)) w g 0 n l'.toArray os)/\RowB E9 (sortWorld (λx=>Value.int .i64 (fn x)) w g 0 n l'.toArray os) g (l'.map fn) tail/\w.drawn<=(sortWorld (λx=>Value.int .i64 (fn x)) w g 0 n l'.toArray os).drawn:=by
 obtain⟨t,_,_,hb⟩:=h;have a4:g<w.heap.size:=(fa.1 hb).1;have hh:(sortWorld (λx=>Value.int .i64 (fn x)) w g 0 n l'.toArray os).heap=w.heap.modify g (onCells (putCells (λx=>Value.int .i64 (fn x)) 0 l'.toArray))++os:=rfl;refine⟨⟨by rw[hh];simp,rfl,rfl,rfl,λb a0 a5=>?_⟩,⟨t,rfl,rfl,?_⟩,?_⟩
 .rw[hh,jl (by simpa using a0),mb,if_neg (Ne.symm a5)]
 .rw[hh,jl (by simpa using a4),mb,if_pos rfl,hb];simp only[je,onCells,eu,Obj.cells.injEq,and_true];apply Array.ext_getElem?;intro j;rw[PR,PR];simp only[putCells,Array.getElem?_mapIdx,jr,gn,true_and,ke,qf,iv];by_cases hj:j<l'.length
  .rw[fy (by rw[dz,dz,<-hl];exact hj),fy (by rw[dz,dz];exact hj),gc,gc,gc,gc,dt (by rw[<-hl];exact hj),dt hj];simp only[je,if_pos hj];rw[getElem!_pos l'.toArray j (by simpa using hj)];rfl
  .rw[gp (by rw[dz,dz,<-hl];omega),gp (by rw[dz,dz];omega),dz,dz,dz,dz,hl];cases tail[j - l.length]? with
   |none=>rfl
   |some v=>simp only[je];rw[if_neg (by rw[<-hl];exact hj)]
 .show w.drawn<=w.drawn+n;omega
def Zix{P:Program}{ρ:Ren}(L:SlLaysF.n6 P ρ)(cf:α->α->Int)(hO:SWO (ltOf cf))(gf:Nat)(cb:Array Value)(eg:∀args w,(callFunc gf args).run P w= .ok (.enter gf args) w){g cap:Nat}{l:List α}{tail:LV}
  (a4:∀w0 x y,But g w w0->w.drawn<=w0.drawn->Calls P gf (#[vi (fn x),vi (fn y)]++cb) w0 λe w'=>e= .returned (.int .i64 (cf x y))/\∃q a9,w'=grow (w0.drewN q) a9)
  (hR:RowB E9 w g (l.map fn) tail) (a8:l.length<4611686018427387904) {K:Value->Wp} {F:Nat} (hF:ρ.f 6=F)
  (hK:∀(l':List α) w',l'.Perm l->l'.Pairwise (λx y=>¬cf y x<0)->But g w w'->RowB E9 w' g (l'.map fn) tail->K (.tuple #[]) w'):callS P F [Sl.v ⟨some ⟨g,0,none⟩,l.length,cap⟩,.func (.func gf) #[] cb] w K:=by
 subst hF;have a6:g<w.heap.size:=by obtain⟨t,_,_,hb⟩:=hR;exact(fa.1 hb).1
 have h1:OneCell (λx:α=>Value.int .i64 (fn x)):=λx=>rfl;have hC:CmpLays1 P gf cb (λx=>Value.int .i64 (fn x)) cf g 0 l.toArray.size w:=λm os dk hs x y=>by have:=VN fn hR (n:=m) (os:=os) (l':=dk.toList) (by simpa using hs);exact a4 _ x y this.1 this.2.2
 have h:=Any.slices_SortFunc L (λx=>Value.int .i64 (fn x)) h1 cf hO gf cb g 0 cap l.toArray w eg hC (Zb6 fn hR) a6 (by simpa using a8);refine h.mono λe w' ⟨he,d',n,os,hp,hs,hw⟩=>⟨_,he,?_⟩;have a7:=Vw hp;have a5:d'.toList.length=l.length:=by simpa using hp.1
 have a0:=VN fn hR (n:=n) (os:=os) (l':=d'.toList) a5;rw[lj,<-hw]at a0;exact hK d'.toList w' (by simpa using a7) ((VY hp.1 hs).imp λh=>by simpa[ltOf]using h) a0.1 a0.2.1
end
def FG(T:List Dir)(home:Aq)(i:Nat):Bool:=match T[i]? with
 |some d=>decide (d.path.length=home.length+1)&&decide (d.path.take home.length=home)
 |none=>false
def Ul{T:List Dir}{home:Aq}(h:i<T.length):FG T home i=(decide (T[i].path.length=home.length+1)&&decide (T[i].path.take home.length=home)):=by unfold FG;rw[dt h]
def Zcf{T:List Dir}{home:Aq}(h:FG T home i=true):∃(hi:i<T.length),home.length<T[i].path.length:=by
 by_cases hi:i<T.length
 .rw[Ul hi,dx,decide_eq_true_iff]at h;exact⟨hi,oM⟩
 .unfold FG at h;rw[il oM]at h;cases h
def C4(T:List Dir)(home:Aq)(n:Nat):List Nat:=(List.range n).filter (FG T home)
def Zck(T:List Dir)(a0:Aq)(n:Nat):C4 T a0 (n+1)=if FG T a0 n then C4 T a0 n++[n]else C4 T a0 n:=by unfold C4;rw[List.range_succ,jk];cases h:FG T a0 n<;>simp[h]
def Uq(T:List Dir)(a0:Aq)(n:Nat):(C4 T a0 n).length<=n:=by unfold C4;have:=ix (FG T a0) (List.range n);rwa [List.length_range]at this
def I8(T:List Dir)(k i:Nat):Bs:=match T[i]? with
 |some d=>d.path.getD k ⟨#[]⟩
 |none=>⟨#[]⟩
def Zew{T:List Dir}{k:Nat}(h:i<T.length)(hk:k<T[i].path.length):I8 T k i=T[i].path[k]:=by unfold I8;rw[dt h];simp[hk]
def Na(T:List Dir)(k:Nat)(a b:Nat):Int:=AN (A7 (I8 T k a) (I8 T k b)) (BC a b)
def Yh(T:List Dir)(k:Nat):Ord3 (Na T k):=(DB (I8 T k)).or (cmpI_ord.comap λn:Nat=>(n:Int))
def Up{hm:Sl}{T:List Dir}{c0 c1:Addr}{k:Nat}{R:Bs->Wp}(hi:i<T.length)(hk:k<T[i].path.length)(hl:hm.len=k)(hs:SlR dirE w S s T)(h0:BoxAt w c0 [s.v])(h1:BoxAt w c1 [hm.v])(hR:∀w',Gr w w'->R (I8 T k i) w'):SE.Jh (i:Int) c0 c1 w R:=by unfold SE.Jh;subst hl;have a6:=hs.len;obtain⟨ad,ps,dd,ee,oo,ha,_,_,hp,_,_,_,hc⟩:=dirEl hs hi;have a5:=hp.len;refine bnd.gr λw1 x1=>⟨s,h0.at0 (r:=[]) x1.ext rfl,ad,⟨ha,oM,oM⟩,ps,by rw[ec];exact(hc _ x1.ext).pre rfl,hm,h1.at0 (r:=[]) x1.ext rfl,?_⟩;obtain⟨al,a0,_,a4⟩:=Jd hp hk;refine⟨al,⟨a0,oM,oM⟩,_,by rw[ec];exact a4 _ x1.ext,?_⟩;have:=hR w1 x1;rw[Zew hi hk]at this;exact this
def TJ:Bn prog 87:=enters_of func87 kR rfl
def ZR:Bn prog 89:=enters_of func89 kR rfl
def Zcj{hm:Sl}{T:List Dir}{c0 c1 c2:Addr}{j k:Nat}(hi:i<T.length)(a6:k<T[i].path.length)(hj:j<T.length)(a7:k<T[j].path.length)(hl:hm.len=k)(hs:SlR dirE w S s T)(h0:BoxAt w c0 [s.v])(h1:BoxAt w c1 [hm.v])
  (h2:BoxAt w c2 [Value.func (.func 87) #[] #[Value.pointer (some c0),Value.pointer (some c1)]]) (hR:∀w',Gr w w'->R (Na T k i j) w'):SE.Mr (i:Int) (j:Int) c2 w R:=by
 unfold SE.Mr;refine bnd.gr λw1 x1=>⟨_,h2.at0 (r:=[]) x1.ext rfl,_,h2.at0 (r:=[]) x1.ext rfl,_,_,rfl,TJ,SE.Jh.go (Up hi a6 hl (hs.ext x1.ext) (h0.ext x1.ext) (h1.ext x1.ext) λw2 x2=>⟨x2.ext,_,rfl,_,_,rfl,TJ,?_⟩)⟩;have a0:=x1.trans x2;refine SE.Jh.go (Up hj a7 hl (hs.ext a0.ext) (h0.ext a0.ext) (h1.ext a0.ext) λw3 x3=>⟨_,rfl,ET ⟨_,rfl,SE.DP.go (cmpInt_se ⟨_,rfl,newS.gr λa4 w4 x4 a5=>?_⟩)⟩⟩);exact SE.Ez.go (Tm (MZ (l:=[_,_]) a5 sI) ⟨_,rfl,hR _ (a0.trans (x3.trans x4))⟩)
def X3(T:List Dir)(k i:Nat):Prop:=∃hi:i<T.length,k<T[i].path.length
abbrev OP(T:List Dir)(k:Nat):Type:={i:Nat//X3 T k i}
def W0{P:Nat->Prop}:∀(l:List Nat),(∀i∈l,P i)->∃z:List {i:Nat//P i},z.map Subtype.val=l
 | [],_=>⟨[],rfl⟩
 |i::l,h=>by obtain⟨z,hz⟩:=W0 l λj hj=>h j (.tail _ hj);exact⟨⟨i,h i (.head _)⟩::z,by rw[ib,hz]⟩
def Zcl{T:List Dir}{at':Nat}{R:Sl->Wp}(hS:Old S w)(hs:SlR dirE w S s T)(hi:at'<T.length)(hT:T.length<=1000000)
  (hR:∀t l w',Ext w w'->l.Perm (C4 T T[at'].path T.length)->FlatO E9 8 w' w.heap.size t (Ca l)->R t w'):SE.Mq s (at':Int) w R:=by
 unfold SE.Mq;have f8:=hs.len;obtain⟨ad,hm,dd,ee,oo,ha,_,_,hp,_,_,_,hc⟩:=dirEl hs hi;have c6:=hp.len;have e5:T[at'].path.length*16<=Ab:=hp.2.2.2.1;unfold Ab at e5;have f7:T[at'].path.length<=hm.cap:=hp.2.1;generalize T[at'].path=a0 at*;refine newS.intro λa w1 x1 a5 e8 _=>bound ⟨s,λ_=>a5.ldc.pre (r:=[]) rfl,?_⟩;have e:(decide ((at':Int)<0)||decide ((s.len:Int)<=(at':Int)))=false:=by rw[decide_eq_false oM,decide_eq_false oM];rfl
 rw[e];refine⟨nO,λ_=>⟨s,a5.ldc.pre (r:=[]) rfl,ad,⟨ha,oM,oM⟩,hm,by rw[ec];exact(hc _ x1).pre rfl,newS.set rfl λa3 w3 x3 b2 e9=>⟨s,a5.at0 (r:=[]) x3 rfl,?_⟩⟩⟩;have a8:=x1.trans x3;refine loop2.up hs.max (λout i w'=>Ext w3 w'/\OwnS Cd 3 w' w3.heap.size None' out (Ca (C4 T a0 i))) ⟨Ext.refl _,OwnS.zero _⟩ λout i w4 g0 f6 ⟨x4,o4⟩ hn=>⟨λe0=>join.named λJ hJ=>?_,λf5=>?_⟩
 .have b4:i<T.length:=oM;obtain⟨c9,ps,_,_,_,d1,_,_,c3,_,_,_,d6⟩:=dirEl hs b4;have f2:=c3.len;have f1:T[i].path.length<=ps.cap:=c3.2.1;have b0:∀a4 w',Ext w3 w'->OwnS Cd 3 w' w3.heap.size None' a4 (Ca (C4 T a0 (i+1)))->J a4 w':=λa4 w' hx ho=>by rw[hJ];exact hn b4 a4 w' ⟨hx,ho⟩
  rw[Zck,Ul b4]at b0;refine⟨s,a5.at0 (r:=[]) (x3.trans x4) rfl,c9,⟨d1,oM,e0⟩,ps,by rw[ec];exact(d6 _ (a8.trans x4)).pre rfl,bnd.drew λw5 x5=>⟨hm,b2.at0 (r:=[]) (x4.trans x5) rfl,bound ?_⟩⟩;have b7:=x4.trans x5;have c8:=a8.trans b7;have e1:((ps.len:Int)==Aa ((hm.len:Int)+1))=decide (T[i].path.length=a0.length+1):=by rw[Ag oM oM,gk,beq_iff_eq,decide_eq_true_iff];omega
  rw[e1];refine⟨hm,λ_=>b2.at0 (r:=[]) b7 rfl,λhg=>⟨oM,by have:=of_decide_eq_true hg;omega⟩,hm,λ_=>b2.at0 (r:=[]) b7 rfl,?_⟩;refine gCall.intro (decide (T[i].path.take a0.length=a0)) (λhg q hq=>?_) λe7 w6 x6 d0=>?_
  .have hg:=of_decide_eq_true hg;rw[ec,c6];have b8:=(c3.ext c8).cut (a:=0) (b:=a0.length) (gn _) oM;rw[jv]at b8;exact SE.Ht.go (PK b8 (hp.ext c8) λw6 x6=>⟨_,rfl,hq w6 x6⟩)
  have e2:(decide (T[i].path.length=a0.length+1)&&e7)=(decide (T[i].path.length=a0.length+1)&&decide (T[i].path.take a0.length=a0)):=by
   cases hd:decide (T[i].path.length=a0.length+1)with
   |false=>rfl
   |true=>rw[d0 hd]
  rw[e2];have a9:=b7.trans x6;refine⟨λhq=>newS.intro λa7 w7 x7 d5 _ _=>?_,λhq=>?_⟩
  .rw[if_pos hq]at b0;have c4:=Uq T a0 i;refine(o4.ext (x5.trans (x6.trans x7))).pushF (a9.trans x7) OV (x:=(i:Int)) ⟨rfl,trivial⟩ (d5.ldc.pre (r:=[]) rfl) dC (by rw[I9];show _*8<=Ab;unfold Ab;omega) λr w8 o8 x8=>b0 r w8 x8 ?_;unfold Ca at o8 ⊢;rw[fq];exact o8
  .rw[if_neg (by rw[hq];decide)]at b0;exact b0 out w6 a9 (o4.ext (x5.trans x6))
 .have b4:i=T.length:=oM;subst b4;refine newS.set rfl λa6 w6 x6 d4 f0=>?_;have a9:=x4.trans x6;have b5:=a8.trans a9;have c4:=Uq T a0 T.length;have hF:FlatO E9 8 w6 w3.heap.size out (Ca (C4 T a0 T.length)):=(FlatO.of (E:=Cd) (λx cs h=>h.1) o4 (by rw[I9];unfold Ab;omega)).ext x6;have c5:∀t l w',FlatO E9 8 w' w3.heap.size t l->FlatO E9 8 w' w.heap.size t l:=λt l w' h=>by obtain⟨h1,h2,h3,h4,h5⟩:=h;exact⟨h1,h2,h3,h4,h5.imp id λ⟨g,tl,a,b,c⟩=>⟨g,tl,a,fe a8.size b,c⟩⟩
  obtain⟨h1,h2,h3,h4,h5⟩:=hF;have b9:∀ad,out.a=some ad->ad.block<w4.heap.size:=λad d2=>(o4.block d2).2.1;obtain⟨oa,on,oc⟩:=out;simp only at h1 h2 h3 h5;subst h1;rcases h5 with h0|⟨g,tail,d7,hg,hr⟩
  .rw[h0];refine(AnyF.slices_SortFunc_none Tryz.laySnn oa oc _ w6).mono λe w' ⟨he,hw⟩=>⟨_,he,rfl,?_⟩;subst hw;have e3:C4 T a0 T.length=[]:=by have:=congrArg List.length h0;rw[I9]at this;exact fj this
   exact hR _ [] _ b5 (by rw[e3]) ⟨rfl,gn _,h3,by unfold Ab;simp[Ca],.inl rfl⟩
  .subst d7;have d8:=b9 _ rfl;obtain⟨z,hz⟩:∃z:List (OP T a0.length),z.map Subtype.val=C4 T a0 T.length:=W0 _ λi hi=>Zcf (io.1 hi).2;by_cases c7:z=[]
   .subst c7;rw[<-hz];refine(AnyF.slices_SortFunc_none Tryz.laySnn _ oc _ w6).mono λe w' ⟨he,hw⟩=>⟨_,he,rfl,?_⟩;subst hw;exact hR _ [] _ b5 (by rw[<-hz];exact jf _) ⟨rfl,gn _,h3,by unfold Ab;simp[Ca],.inl rfl⟩
   obtain⟨z0,f4⟩:=List.exists_mem_of_ne_nil z c7
   haveI:Inhabited (OP T a0.length):=⟨z0⟩
   have hO:=Yh T a0.length;have ez:Ca (C4 T a0 T.length)=z.map λx=>((x.1:Nat):Int):=(by rw[<-hz];unfold Ca;rw[iy];rfl);rw[ez]at hr h2 ⊢;rw[dz]at h2 ⊢;have f9:z.length<=1000000:=(by have:=congrArg List.length hz;rw[dz]at this;omega);refine Zix (α:=OP T a0.length) (λx=>((x.1:Nat):Int)) Tryz.laySn (λx y=>Na T a0.length x.1 y.1) (EU (λx y=>hO.flip _ _) (λx y z=>hO.trans _ _ _)) 89 #[Value.pointer (some a6)] ZR (λw0 x y hb _=>?_) hr oM rfl λl' w' b6 _ d3 e6=>?_
   .have d9:=SE.Mr.go (k:=λv w'=>v= .int .i64 (Na T a0.length x.1 y.1)/\Gr w0 w') (Zcj (c0:=a) (c1:=a3) (c2:=a6) (s:=s) (hm:=hm) (S:=S) (w:=w0) x.2.1 x.2.2 y.2.1 y.2.2 c6 ((hs.ext b5).but hb λh=>?_) (hb.box (a5.ext (x3.trans a9)) ?_) (hb.box (b2.ext a9) ?_) (hb.box d4 ?_) λw' h=>⟨rfl,h⟩)
    .exact Calls.mono d9 λe w' ⟨v,he,hv,hg⟩=>⟨by rw[he,hv],hg⟩
    .have:=hS _ h;have:=a8.size;omega
    .have:=a5.lt;have:=x3.size;omega
    .have:=b2.lt;omega
    .have:=x6.size;simp only at d8;omega
   .refine⟨rfl,hR _ (l'.map Subtype.val) w' (b5.trans' ((d3.below b5.size (fe a8.size hg)))) ?_ ?_⟩
    .rw[<-hz];exact b6.map _
    .have e4:Ca (l'.map Subtype.val)=l'.map λx=>((x.1:Nat):Int):=(by unfold Ca;rw[iy];rfl);rw[e4];refine c5 _ _ _ ⟨by rw[dz,b6.length_eq],by rw[dz,b6.length_eq];exact h2,h3,by rw[dz,b6.length_eq];unfold Ab;omega,.inr ⟨g,tail,rfl,hg,e6⟩⟩
end Go.Hal
namespace Go.Hal
def Qi{ds:List Dr}{p:Aq}{x:Bs}{n i:Nat}(h:Ax ds (p.take n++[x])=some i):∀{k:Nat},n<=k->(∀m,n<m->m<=k->Ax ds (p.take m++[x])=none)->AM ds p x k=some i
 |0,hn,_=>by have:n=0:=oM;subst this;exact h
 |k+1,hn,hno=>by
  unfold AM;by_cases hk:n=k+1
  .subst hk;rw[h]
  .rw[hno (k+1) oM nR];exact Qi h oM λm h1 h2=>hno m h1 oM
def PO{ds:List Dr}{d:Dr}{p:Aq}:Ax (ds++[d]) p=(Ax ds p).or (if d.path=p then some ds.length else none):=by
 unfold Ax;rw[List.findIdx?_append];congr 1;by_cases h:d.path=p
 .rw[if_pos h];simp[List.findIdx?_cons,h]
 .rw[if_neg h];simp[List.findIdx?_cons,h]
structure LInv(g:LN)(s:PlS):Prop where
 look:∀t∈s.done,AM s.dirs (Ae s.dirs t.src) t.label (Ae s.dirs t.src).length=some t.dst
 node:∀t∈s.done,∃e∈Az g (nodeAt s.dirs t.src),e.name=t.label/\(nodeAt s.dirs t.dst:Int)=e.to
 led:∀i,i<s.dirs.length->i≠0->∃t∈s.done,t.dst=i/\t.src<i
def LInv.start:LInv g ⟨[⟨[],0⟩],[]⟩:=⟨(λt ht=>by cases ht),(λt ht=>by cases ht),λi h1 h2=>by simp at h1;omega⟩
def LInv.found{s:PlS}{to:Nat}{e:Edge}(h:LInv g s)(hl:AM s.dirs (Ae s.dirs a) e.name (Ae s.dirs a).length=some to)(he:e∈Az g (nodeAt s.dirs a))(hn:(nodeAt s.dirs to:Int)=e.to):LInv g ⟨s.dirs,s.done++[⟨a,e.name,to⟩]⟩:=by
 refine⟨λt ht=>?_,λt ht=>?_,λi h1 h2=>?_⟩
 .obtain ht|ht:=fk.1 ht
  .exact h.look t ht
  .rw[ep]at ht;subst ht;exact hl
 .obtain ht|ht:=fk.1 ht
  .exact h.node t ht
  .rw[ep]at ht;subst ht;exact⟨e,he,rfl,hn⟩
 .obtain⟨t,h3,h4⟩:=h.led i h1 h2;exact⟨t,iu _ h3,h4⟩
def LInv.put{s:PlS}{d:Dr}{e:Edge}(h:LInv g s)(hI:PInv g s a)(hd:s.dirs[a]?=some d)(hs:Spot s d.path e.name n)(he:e∈Az g d.node)(h0:0<=e.to):
  LInv g ⟨s.dirs++[⟨d.path.take n++[e.name],e.to.toNat⟩],s.done++[⟨a,e.name,s.dirs.length⟩]⟩:=by
 have ha:=(fh.1 hd).1;have a5:Ae (s.dirs++[⟨d.path.take n++[e.name],e.to.toNat⟩]) s.dirs.length=d.path.take n++[e.name]:=by unfold Ae;rw[gp nR,pb];rfl
 have a0:nodeAt (s.dirs++[⟨d.path.take n++[e.name],e.to.toNat⟩]) s.dirs.length=e.to.toNat:=by unfold nodeAt;rw[gp nR,pb];rfl
 refine⟨λt ht=>?_,λt ht=>?_,λi h1 h2=>?_⟩
 .obtain ht|ht:=fk.1 ht
  .obtain⟨_,h2,h3⟩:=hI.src t ht;dsimp only;rw[Vs h2];obtain⟨n0,h4,h5,h6⟩:=NG (h.look t ht);refine Qi (Kb h5) h4 λm h7 h8=>?_;rw[PO,h6 m h7 h8,Option.none_or];rw[if_neg];intro hc;obtain⟨c1,c2⟩:=List.append_inj' hc rfl;have c3:e.name=t.label:=by simpa using c2
   have a4:n=m:=(by have:=congrArg List.length c1;rw[fb,fb]at this;have:=hs.le;omega);have hk:=hs.keep t ht c3.symm (by rw[c1];exact List.take_prefix _ _);obtain⟨d5,e1,e2⟩:=E5 h5;rw[Co e1,e2]at hk;simp only[du,fb,gl]at hk;omega
  .rw[ep]at ht;subst ht;dsimp only;rw[Vs ha,Co hd];refine Qi (n:=n) ?_ hs.le λm h7 h8=>?_
   .rw[PO,hs.clear n nR hs.le,if_pos rfl];rfl
   .rw[PO,hs.clear m oM h8,Option.none_or,if_neg];intro hc;have:=congrArg List.length hc;simp only[du,fb,gl]at this;have:=hs.le;omega
 .obtain ht|ht:=fk.1 ht
  .obtain⟨_,h2,h3⟩:=hI.src t ht;dsimp only;rw[Hb h2,Hb h3];exact h.node t ht
  .rw[ep]at ht;subst ht;dsimp only;rw[Hb ha,Hc hd,a0];exact⟨e,he,rfl,oM⟩
 .rw[du,gl]at h1;by_cases hi:i=s.dirs.length
  .subst hi;exact⟨_,ka _ (ep.2 rfl),rfl,ha⟩
  .obtain⟨t,h3,h4⟩:=h.led i oM h2;exact⟨t,iu _ h3,h4⟩
def EdgeR.linv{I:PlI}{s t:PlS}{e:Edge}{c:Int}(hk:kind=1\/kind=2\/kind=3)(h:EdgeR I s a e kind c t)(hI:PInv I.g s a)(hL:LInv I.g s)(ha:a<s.dirs.length)(hx:D4 s a e.name)(he:e∈Az I.g (nodeAt s.dirs a))(h0:0<=e.to):
  LInv I.g t/\(c=0->∃u∈t.done,u.src=a/\u.label=e.name)/\∃l,t.done=s.done++l:=by
 have hd:s.dirs[a]?=some s.dirs[a]:=dt ha;cases h with
 |found to hr=>exact⟨hL.found hr.1 he hr.2.1,λ_=>⟨_,ka _ (ep.2 rfl),rfl,rfl⟩,_,rfl⟩
 |lost=>exact⟨hL,nO,[],by simp⟩
 |put n h1 h2 h3 h4=>
  have hs:Spot s (Ae s.dirs a) e.name n:=by
   obtain hk|hk|hk:=hk
   .exact absurd hk h2
   .exact(h3 hk).spot
   .rw[h4 hk,Co hd];exact hI.spot hd hx
  rw[Hc hd]at he;rw[Co hd]at hs ⊢;exact⟨hL.put hI hd hs he h0,λ_=>⟨_,ka _ (ep.2 rfl),rfl,rfl⟩,_,rfl⟩
 |long=>exact⟨hL,nO,[],by simp⟩
 |deep=>exact⟨hL,nO,[],by simp⟩
structure GrPl(g:LN):Prop where
 pos:0<g.length
 rise:∀x∈g,RiseN Edge.name x.edges
 to:∀x∈g,∀e∈x.edges,0<=e.to/\e.to<(g.length:Int)
def GrPl.edge(h:GrPl g){k:Nat}{e:Edge}(he:e∈Az g k):0<=e.to/\e.to<(g.length:Int):=by
 unfold Az at he;split at he
 .rename_i x hx;exact h.to x (gv hx) e he
 .cases he
def GrPl.riseAt(h:GrPl g)(k:Nat):RiseN Edge.name (Az g k):=by
 unfold Az;split
 .rename_i x hx;exact h.rise x (gv hx)
 .exact List.Pairwise.nil
def KN{k:Nat}{e:Edge}:e∈Cn g k↔e∈Az g k:=by
 unfold Cn;simp only[fk,io,beq_iff_eq];constructor
 .rintro(h|h|h)<;>exact h.1
 .intro h;obtain h1|h1|h1:=DU g k e
  .exact .inl ⟨h,h1⟩
  .exact .inr (.inl ⟨h,h1⟩)
  .exact .inr (.inr ⟨h,h1⟩)
def Vk(h:GrPl g)(k:Nat):((Cn g k).map Edge.name).Nodup:=by
 have hr:=h.riseAt k;have a0:∀a∈Az g k,∀b∈Az g k,a.name=b.name->a=b:=λa ha b hb he=>hr.inj ha hb he;have hn:(Az g k).Nodup:=by rw[gz];exact hr.imp λh e=>by rw[e]at h;exact Fj h rfl
 have ho:(Cn g k).Nodup:=by
  unfold Cn;have f:∀n:Nat,((Az g k).filter λe=>AB g k e==n).Nodup:=λn=>hn.sublist List.filter_sublist;refine jb.2 ⟨f 1,jb.2 ⟨f 2,f 3,λa ha b hb e=>?_⟩,λa ha b hb e=>?_⟩
  .subst e;have h1:=(io.1 ha).2;have h2:=(io.1 hb).2;rw[beq_iff_eq]at h1 h2;omega
  .subst e;have h1:=(io.1 ha).2;rw[beq_iff_eq]at h1;rcases fk.1 hb with hb|hb<;>(have h2:=(io.1 hb).2;rw[beq_iff_eq]at h2;omega)
 rw[gz,iq];rw[gz]at ho;exact List.Pairwise.imp_of_mem (λ{a b} ha hb h e=>h (a0 a (KN.1 ha) b (KN.1 hb) e)) ho
def EdgesR.inv{I:PlI}{k:Nat}(hg:GrPl I.g){s t:PlS}{c:Int}(h:EdgesR I a k s es c t):PInv I.g s a->LInv I.g s->a<s.dirs.length->nodeAt s.dirs a=k->(∀e∈es,e∈Az I.g k/\D4 s a e.name)->(es.map Edge.name).Nodup->
  PInv I.g t a/\LInv I.g t/\(∃l,t.dirs=s.dirs++l)/\(∃l,t.done=s.done++l)/\(c=0->∀e∈es,∃u∈t.done,u.src=a/\u.label=e.name):=by
 induction h with
 |nil s=>intro h1 h2 _ _ _ _;exact⟨h1,h2,⟨[],by simp⟩,⟨[],by simp⟩,λ_ e he=>by cases he⟩
 | @cons s t u e es c k1 k2 ih=>
  intro h1 h2 ha hk a4 a6;obtain⟨he,hx⟩:=a4 e (.head _);have a5:=hg.edge he;obtain⟨a1,a2⟩:=k1.inv (DU _ _ _) h1 ha hx a5;obtain⟨b1,b2,lb,b3⟩:=k1.linv (DU _ _ _) h1 h2 ha hx (by rw[hk];exact he) a5.1;obtain⟨ld,a7⟩:=a2.dirs;rw[ib,oq]at a6;have a8:a<t.dirs.length:=by rw[a7,du];omega
  obtain⟨c1,c2,⟨l1,c3⟩,⟨l2,c4⟩,c5⟩:=ih a1 b1 a8 (by rw[a7,Hb ha];exact hk) (λe' a0=>⟨(a4 e' (.tail _ a0)).1,a2.new _ (λhn=>a6.1 (hn▸ip a0)) (a4 e' (.tail _ a0)).2⟩) a6.2;refine⟨c1,c2,⟨ld++l1,by rw[c3,a7,fg]⟩,⟨lb++l2,by rw[c4,b3,fg]⟩,λhc e' a0=>?_⟩;obtain rfl|a0:=ga.1 a0
  .obtain⟨u',d1,d2⟩:=b2 rfl;exact⟨u',by rw[c4];exact iu _ d1,d2⟩
  .exact c5 hc e' a0
 | @stop s t e es c k1 k2=>intro h1 h2 ha hk a4 a6;obtain⟨he,hx⟩:=a4 e (.head _);have a5:=hg.edge he;obtain⟨a1,a2⟩:=k1.inv (DU _ _ _) h1 ha hx a5;obtain⟨b1,b2,lb,b3⟩:=k1.linv (DU _ _ _) h1 h2 ha hx (by rw[hk];exact he) a5.1;exact⟨a1,b1,a2.dirs,⟨lb,b3⟩,λhc=>absurd hc k2⟩
def RP(g:LN)(s:PlS)(a:Nat):Prop:=∀i,i<a->i<s.dirs.length->∀e∈Az g (nodeAt s.dirs i),∃u∈s.done,u.src=i/\u.label=e.name
def DirsR.inv{I:PlI}(hg:GrPl I.g){s t:PlS}{c:Int}(h:DirsR I a s c t):PInv I.g s a->LInv I.g s->(∀u∈s.done,u.src<a)->RP I.g s a->c=0->∃n,PInv I.g t n/\LInv I.g t/\RP I.g t t.dirs.length:=by
 induction h with
 | @fin a s h1=>intro hI hL _ hA _;exact⟨a,hI,hL,λi h2 h3=>hA i oM h3⟩
 | @next a s t u c h1 h2 h3 ih=>
  intro hI hL hS hA hc;obtain⟨a1,a2,⟨l1,a3⟩,⟨l2,a4⟩,a5⟩:=h2.inv hg hI hL h1 rfl (λe he=>⟨KN.1 he,λv hv hs=>by have:=hS v hv;omega⟩) (Vk hg _);refine ih a1.next a2 (λv hv=>by have:=(a1.src v hv).1;omega) (λi hi hl e he=>?_) hc;obtain a0|a0:=qg i a
  .rw[a3,Hb oM]at he;obtain⟨v,b1,b2⟩:=hA i a0 oM e he;exact⟨v,by rw[a4];exact iu _ b1,b2⟩
  .have:i=a:=oM;subst this;rw[a3,Hb h1]at he;exact a5 rfl e (KN.2 he)
 |stop h1 h2 h3=>intro _ _ _ _ hc;exact absurd hc h3
structure Placed(g:LN)(ds:List Dr):Prop where
 root:ds[0]?=some ⟨[],0⟩
 one:∀(i j:Nat)(d e:Dr),ds[i]?=some d->ds[j]?=some e->d.path=e.path->i=j
 up:∀(i:Nat)(d:Dr)(p:Aq)(x:Bs),ds[i]?=some d->d.path=p++[x]->∃h,h<i/\Ax ds p=some h
 node:∀d∈ds,d.node<g.length
 look:∀i,i<ds.length->∀e∈Az g (nodeAt ds i),∃j,AM ds (Ae ds i) e.name (Ae ds i).length=some j/\(nodeAt ds j:Int)=e.to
 led:∀i,i<ds.length->i≠0->∃j,j<i/\∃e∈Az g (nodeAt ds j),AM ds (Ae ds j) e.name (Ae ds j).length=some i/\(nodeAt ds i:Int)=e.to
def DirsR.placed{I:PlI}(hg:GrPl I.g){t:PlS}(h:DirsR I 0 ⟨[⟨[],0⟩],[]⟩ 0 t):Placed I.g t.dirs:=by
 obtain⟨n,hI,hL,hA⟩:=h.inv hg (PInv.start hg.pos) LInv.start (λu hu=>by cases hu) (λi hi=>by omega) rfl;refine⟨hI.root,hI.one,hI.up,hI.node,λi hi e he=>?_,λi hi h0=>?_⟩
 .obtain⟨u,h1,h2,h3⟩:=hA i hi hi e he;obtain⟨e',h4,h5,h6⟩:=hL.node u h1;have h7:=hL.look u h1;rw[h2]at h4 h7;rw[h3]at h7 h5;have:=(hg.riseAt _).inj h4 he h5;subst this;exact⟨u.dst,h7,h6⟩
 .obtain⟨u,h1,h2,h3⟩:=hL.led i hi h0;obtain⟨e',h4,h5,h6⟩:=hL.node u h1;have h7:=hL.look u h1;rw[<-h5,h2]at h7;rw[h2]at h6;exact⟨u.src,h3,e',h4,h7,h6⟩
structure Only(g:LN)(n:Nat)(x:Bs):Prop where
 ctx:BR g n=[]
 to:∀k,∀e∈Az g k,(e.name=x↔e.to=(n:Int))
structure NodeLk(many:Nat)(x:Node):Prop where
 ctx:RiseN Pin.name x.ctx
 pin:∀p∈x.ctx,Af p.name=true/\p.v.may=true
 ctxN:x.ctx.length<=128
 edges:RiseN Edge.name x.edges
 edge:∀e∈x.edges,Af e.name=true/\1<=e.to/\e.to<(many:Int)
 edgesN:x.edges.length<=128
structure LockOk(g:LN):Prop where
 len:1<=g.length/\g.length<=128
 root:∃x,g[0]?=some x/\x.key=rootNode.key
 name:∀i x,g[i]?=some x->i≠0->Af x.name=true/\x.v.may=true
 node:∀x∈g,NodeLk g.length x
def tLock:LU:=[108,111,99,107,10]
def Zjy:LU:=[114,111,111,116,10]
def Ov:LU:=[110,111,100,101,32]
def W7:LU:=[119,105,116,104,32]
def W6:LU:=[116,111,32]
def F3(p:Pin):LU:=((((W7++p.name.toList)++[32])++AG p.v)++[10])
def FO(e:Edge):LU:=((((W6++e.name.toList)++[32])++dec e.to)++[10])
def DT(i:Nat)(x:Node):LU:=if i=0 then Zjy else((((Ov++x.name.toList)++[32])++AG x.v)++[10])
def Hd(i:Nat)(x:Node):LU:=(DT i x++x.ctx.flatMap F3)++x.edges.flatMap FO
def CQ:Nat->LN->LU
 |_,[]=>[]
 |i,x::r=>Hd i x++CQ (i+1) r
def I3(g:LN):LU:=tLock++CQ 0 g
def U9(x:Node):∀(l:LN)(i:Nat),CQ i (l++[x])=CQ i l++Hd (i+l.length) x
 | [],i=>by simp[CQ]
 |y::l,i=>by rw[gu,CQ,CQ,U9 x l (i+1),fg,fl];congr 3;omega
def Zdw(h:i<g.length):tLock++CQ 0 (g.take (i+1))=(tLock++CQ 0 (g.take i))++Hd i g[i]:=by rw[dw h,U9,fg,fb];congr 3;omega
def Uc{α:Type}{f:α->LU}{l:List α}(h:i<l.length):(l.take (i+1)).flatMap f=(l.take i).flatMap f++f l[i]:=by rw[dw h,qd];simp
structure NodePl(g:LN)(ps:List Pack)(i:Nat)(x:Node):Prop where
 pack:i≠0->∃p,ps[i]?=some p/\AQ p=true/\p.name=x.name/\p.v=x.v
 ctx:RiseN Pin.name x.ctx
 edges:RiseN Edge.name x.edges
 edge:∀e∈x.edges,∃(j:Nat) (y:Node),e.to=(j:Int)/\1<=j/\g[j]?=some y/\y.name=e.name
 full:∀q∈x.ctx,∃y,HY g x q.name=some y/\y.v=q.v
structure PlaceOk(g:LN)(ps:List Pack):Prop where
 len:1<=g.length/\g.length<=128
 packs:ps.length=g.length
 root:∃x,g[0]?=some x/\x.key=rootNode.key
 zero:ps[0]?=some ⟨⟨#[]⟩,⟨0,0,0⟩,[],[],[]⟩
 node:∀i x,g[i]?=some x->NodePl g ps i x
def Zft{p:Pack}(h:AQ p=true):Af p.name=true:=by
 unfold AQ C5 at h;simp only[dx]at h
 first|exact h.1.1|exact h.1.1.1|exact h.1.1.1.1|exact h.1.1.1.1.1
def PlaceOk.name(h:PlaceOk g ps){x:Node}(hx:g[i]?=some x){e:Edge}(he:e∈x.edges):Af e.name=true:=by obtain⟨j,y,h1,h2,h3,h4⟩:=(h.node i x hx).edge e he;obtain⟨p,_,h5,h6,_⟩:=(h.node j y h3).pack oM;rw[<-h4,<-h6];exact Zft h5
def Bh(ps:List Pack)(d:Dr):Dir:=⟨d.path,ps.getD d.node Ay,d.node⟩
def T8(ps:List Pack)(d:Dr):AJ (Bh ps d)=d:=by unfold AJ Bh;simp
def NK{ds:List Dr}:(ds.map (Bh ps)).map AJ=ds:=by
 rw[iy]
 conv=>rhs;rw[<-List.map_id ds]
 exact mr λd _=>T8 ps d
def DL(I:PlI)(s:PlS):Prop:=(∀d∈s.dirs,d.path=[]\/(I.tlen d.path:Int)<=I.maxP)/\(s.dirs.length:Int)<=I.maxD+1
def EdgeR.small{I:PlI}{s t:PlS}{e:Edge}{c:Int}(h:EdgeR I s a e kind c t)(hs:DL I s):DL I t:=by
 cases h with
 |found=>exact hs
 |lost=>exact hs
 |long=>exact hs
 |deep=>exact hs
 |put n h1 h2 h3 h4 h5 h6=>
  refine⟨λd hd=>?_,?_⟩
  .obtain hd|hd:=fk.1 hd
   .exact hs.1 d hd
   .rw[ep]at hd;subst hd;exact .inr h5
  .rw[du,gl];omega
def EdgesR.small{I:PlI}{s t:PlS}{k:Nat}{c:Int}(h:EdgesR I a k s es c t):DL I s->DL I t:=by
 induction h with
 |nil=>exact λh=>h
 |cons k1 k2 ih=>exact λh=>ih (k1.small h)
 |stop k1 k2=>exact λh=>k1.small h
def DirsR.small{I:PlI}{s t:PlS}{c:Int}(h:DirsR I a s c t):DL I s->DL I t:=by
 induction h with
 |fin=>exact λh=>h
 |next k1 k2 k3 ih=>exact λh=>ih (k2.small h)
 |stop k1 k2 k3=>exact λh=>k2.small h
def UV{p q:Aq}:Bj (p++q)=true↔Bj p=true/\Bj q=true:=by unfold Bj;rw[pz,dx]
def Ze3{p:Aq}(h:Bj p=true)(n:Nat):Bj (p.take n)=true:=by have:=h;rw[<-fo n p,UV]at this;exact this.1
def Placed.last{ds:List Dr}(h:Placed g ds)(hG:PlaceOk g ps){d:Dr}(hd:ds[i]?=some d)(h0:i≠0):
  ∃(j n:Nat) (b:Dr) (e:Edge) (k:Nat) (y:Node) (p:Pack),j<i/\ds[j]?=some b/\d.path=b.path.take n++[e.name]/\Af e.name=true/\d.node=k/\1<=k/\g[k]?=some y/\y.name=e.name/\ps[k]?=some p/\AQ p=true/\p.name=e.name:=by
 have hi:=(fh.1 hd).1;obtain⟨j,hj,e,h1,h2,h3⟩:=h.led i hi h0;have a5:j<ds.length:=oM;have a0:ds[j]?=some ds[j]:=dt a5;rw[Hc a0]at h1;rw[Hc hd]at h3;obtain⟨n,_,h4,_⟩:=NG h2;obtain⟨d',h5,h6⟩:=E5 h4;rw[hd]at h5;cases h5;rw[Co a0]at h6;unfold Az at h1;split at h1
 .rename_i x hx;obtain⟨k,y,a1,a2,a3,a4⟩:=(hG.node _ x hx).edge e h1;obtain⟨p,b1,b2,b3,_⟩:=(hG.node k y a3).pack oM;exact⟨j,n,_,e,k,y,p,hj,a0,h6,hG.name hx h1,oM,a2,a3,a4,b1,b2,b3.trans a4⟩
 .cases h1
def Placed.names{ds:List Dr}(h:Placed g ds)(hG:PlaceOk g ps):∀(i:Nat)(d:Dr),ds[i]?=some d->Bj d.path=true:=λi=>by
 induction i using Nat.strongRecOn with
 |ind i ih=>
  intro d hd;by_cases h0:i=0
  .subst h0;rw[h.root]at hd;cases hd;rfl
  .obtain⟨j,n,b,e,_,_,_,h1,h2,h3,h4,_⟩:=h.last hG hd h0;rw[h3,UV];exact⟨Ze3 (ih j h1 b h2) n,by unfold Bj;simp[h4]⟩
def Placed.dirsOk{ds:List Dr}(h:Placed g ds)(hG:PlaceOk g ps):DirsOk ds:=
 ⟨λd hd=>by obtain⟨i,hi⟩:=jo hd;exact h.names hG i d hi,h.one⟩
def Zci:(prog.info? 9).map (λi=>(i.zero,i.size,i.bytes))=some (some (.string ⟨#[]⟩),1,16):=kR
def Zec{R:Sl->Wp}(hn:n<=9000000000000)(hR:∀t w',Ext w w'->OwnS strE 9 w' w.heap.size None' t []->R t w'):
  semS prog (Instr.makeSlice 73 (Value.int .i64 0) (Value.int .i64 (n:Int))) w λv w'=>∃t:Sl,v=t.v/\R t w':=by
 obtain⟨i,h2,hi⟩:=jy.1 Zci;simp only[Prod.mk.injEq]at hi;obtain⟨h3,h5,h6⟩:=hi;refine⟨_,_,run_make w 73 9 i (.string ⟨#[]⟩) underlying73 h2 h3 .i64 .i64 0 n (mo _) oM (by rw[h6];omega) oM,⟨some ⟨w.heap.size,0,none⟩,0,n⟩,by simp[Sl.v],hR _ _ (Ext.alloc _ _) ?_⟩;refine⟨⟨[],⟨by simp,.inr ⟨w.heap.size,n,_,rfl,fm _,heap_alloc_new w _,gn _,by rw[Al];omega,?_,by simp⟩⟩,rfl,λi x h=>by simp at h⟩,rfl,λ_ h=>h.elim,λ_ _ h=>h.elim⟩;rw[h5];simp[madeCells,strE,DG]
def Zc7{t0:Sl}{p:Aq}{x:Bs}{R:Sl->Wp}(o:OwnS strE 9 w w0.heap.size None' t0 [])(x0:Ext w0 w)(hS:Old S w0)(hs:SlR strE w0 S s p)(hx:Ac x)(hb:p.length<=4000000000000)
  (hR:∀t w',Ext w0 w'->OwnS strE 9 w' w0.heap.size None' t (p++[x])->R t w'):
  appS prog 73 73 t0 s.v w λa7 a8=>newS a8 [(Value.string x)] 9 λa a9=>appS prog 73 73 a7 (Sl.v (Sl.mk (some a) 1 1)) a9 R:=by
 have a4:strE.bytes=16:=rfl;have fresh:∀ad,t0.a=some ad-> ¬S ad.block:=λad h a5=>by have:=(o.block h).1;have:=hS _ a5;omega
 refine o.appAll GA x0.size (hs.ext x0) (hS.ext x0.size) fresh (by rw[a4];simp;unfold Ab;omega) (by rw[Al];simp;omega) λr1 w1 o1 a0 _ _=>?_;rw[ig]at o1;have x1:Ext w0 w1:=x0.trans' a0;refine newS.intro λa w2 x2 a6 _ _=>?_;exact((OwnS.flat (λh=>h) o1).ext x2).pushF (x1.trans x2) GA (x:=x) ⟨rfl,hx⟩ (a6.ldc.pre (r:=[]) rfl) dC (by rw[a4];unfold Ab;omega) λr w3 o3 x3=>hR r w3 x3 o3
def Zlg{p:Aq}{x:Bs}{R:Sl->Wp}(hS:Old S w)(hs:SlR strE w S s p)(hx:Ac x)(hb:p.length<=4000000000000)(hR:∀t w',Ext w w'->OwnS strE 9 w' w.heap.size None' t (p++[x])->R t w'):SE.M4 s x w R:=by
 unfold SE.M4;have hl:=hs.len;have e:Aa ((s.len:Int)+1)=((p.length+1:Nat):Int):=by rw[Ag oM oM];omega
 rw[e];exact Zec oM λt w1 x1 o1=>Zc7 o1 x1 hS hs hx hb hR
def OwnS.strs{T:TypeId}{l:List Bs}(h:OwnS strE T w lo None' s l)(hl:l.length<=5000000000000):SlR strE w (λb=>lo<=b) s l:=h.readF dC (by show l.length*16<=Ab;unfold Ab;omega)
def FV(T:List Dir)(i:Nat)(x:Bs):Int:=match EB T i x with
 |some j=>(j:Int)
 |none=>-1
def Ce(o:Option Nat):Int:=match o with
 |some j=>(j:Int)
 |none=>-1
def KS{o:Option Nat}:0<=Ce o↔∃j,o=some j:=by
 cases o with
 |none=>exact⟨λh=>by have h:(0:Int)<= -1:=h;omega,λ⟨j,h⟩=>by cases h⟩
 |some j=>exact⟨λ_=>⟨j,rfl⟩,λ_=>by show(0:Int)<=(j:Int);omega⟩
def Kc(T:List Dir)(p:Aq):Cv T p=Ce (Ax (T.map AJ) p):=rfl
def Zfz{T:List Dir}(h:i<T.length):Ae (T.map AJ) i=T[i].path:=by unfold Ae;rw[gc,dt h];rfl
def Zdy{ds:List Dr}{p:Aq}{x:Bs}{k:Nat}(h:Ax ds (p.take k++[x])=some i):AM ds p x k=some i:=by
 cases k with
 |zero=>rw[AM];exact h
 |succ k=>rw[AM,h]
def Zdz{ds:List Dr}{p:Aq}{x:Bs}{k:Nat}(h:Ax ds (p.take (k+1)++[x])=none):AM ds p x (k+1)=AM ds p x k:=by rw[AM,h]
def Zdx{ds:List Dr}{p:Aq}{x:Bs}(h:Ax ds (p.take 0++[x])=none):AM ds p x 0=none:=by rw[AM];exact h
def Zd2{ps:Sl}{T:List Dir}{p:Aq}{x:Bs}{a:Addr}{jn fd:Nat}(hS:Old S w0)(hs:SlR dirE w0 S s T)(hp:SlR strE w0 S ps p)(hx:Ac x)(hb:p.length<=4000000000000)(x0:Ext w0 w)(ha:BoxAt w a [s.v])
  (hj:∀{t:Sl} {q:Aq} {w':Wd} {k:Value->Wp},Ext w0 w'->SlR strE w' S t q->q.length<=4000000000000->(∀r a4,Ext w' a4->OwnS strE 9 a4 w'.heap.size None' r (q++[x])->k (Sl.v r) a4)->callS prog jn [t.v,.string x] w' k)
  (hf:∀{t:Sl} {q:Aq} {Q:Nat->Prop} {w':Wd} {k:Value->Wp},Ext w0 w'->SlR strE w' Q t q->(∀a4,Ext w' a4->k (.int .i64 (Cv T q)) a4)->callS prog fd [.agg #[s.v],t.v] w' k)
  (hR:∀w',Ext w0 w'->R (Ce (AM (T.map AJ) p x p.length)) w'):
  loop1 (ps.len:Int) w λvk b4 b0=>((0<=vk->bnd b4.drew λ(b5:Wd)=>∃(a0:Sl),(ldc b5 a [a0.v])/\((0:Int)<=vk/\vk<=(ps.cap:Int))/\callX prog jn [(Sl.v (Sl.cut ps 0 vk.toNat 1)),(Value.string x)] b5 λb8 c3=>∃(b2:Sl),b8=b2.v/\callS prog fd [(Value.agg #[a0.v]),b2.v] c3 λb9 a9=>∃(a6:Int),b9=(Value.int .i64 a6)/\((0<=a6->R a6 a9)/\(¬(0<=a6)->b0 (Aa (vk - 1)) a9)))/\(¬(0<=vk)->R (-1) b4)):=by
 have c7:=hp.len;have c4:p.length<=ps.cap:=hp.2.1;refine loop1.ghost (λm i w'=>i=(m:Int) - 1/\m<=p.length+1/\Ext w w'/\(match m with
  |0=>AM (T.map AJ) p x p.length=none
  |k+1=>AM (T.map AJ) p x p.length=AM (T.map AJ) p x k)) (p.length+1) ⟨oM,fm _,Ext.refl _,rfl⟩ λm i w5 b0 ⟨hi,hm,x5,hI⟩ hn=>⟨λc5=>bnd.drew λw6 x6=>?_,λc6=>?_⟩
 .obtain⟨k,rfl⟩:∃k,m=k+1:=⟨m - 1,oM⟩;have b6:i=(k:Int):=oM;subst b6;have a7:=x0.trans (x5.trans x6);have hI:AM (T.map AJ) p x p.length=AM (T.map AJ) p x k:=hI;refine⟨s,(ha.ext (x5.trans x6)).ldc.pre (r:=[]) rfl,⟨oM,oM⟩,?_⟩;rw[ec];have a8:=(hp.ext a7).cut (a:=0) (b:=k) (gn _) oM;rw[jv]at a8;refine callX.intro (hj a7 a8 (by rw[fb];omega) λr w7 x7 o7=>⟨x7,r,rfl,hf (a7.trans x7) (o7.strs (by rw[du,fb,gl];omega)) λw8 x8=>⟨_,rfl,λhq=>?_,λhq=>?_⟩⟩)
  .rw[Kc]at hq ⊢;obtain⟨j,hj⟩:=KS.1 hq;have h:=hR w8 (a7.trans (x7.trans x8));rw[hI,Zdy hj]at h;rw[hj];exact h
  .have a5:Ax (T.map AJ) (p.take k++[x])=none:=by
    rw[Kc]at hq;cases hd:Ax (T.map AJ) (p.take k++[x])with
    |none=>rfl
    |some j=>exact absurd (KS.2 ⟨j,hd⟩) hq
   refine hn k _ w8 oM ⟨?_,oM,x5.trans (x6.trans (x7.trans x8)),?_⟩
   .rw[Ag oM oM]
   .cases k with
    |zero=>exact hI.trans (Zdx a5)
    |succ k=>exact hI.trans (Zdz a5)
 .have b7:m=0:=oM;subst b7;have hI:AM (T.map AJ) p x p.length=none:=hI;have h:=hR w5 (x0.trans x5);rw[hI]at h;exact h
def UC{T:List Dir}{x:Bs}(h:i<T.length):FV T i x=if Af x then Ce (AM (T.map AJ) T[i].path x T[i].path.length)else -1:=by unfold FV EB;rw[Zfz h];cases Af x<;>rfl
def NH{T:List Dir}{x:Bs}(hS:Old S w)(hs:SlR dirE w S s T)(hi:i<T.length)(hx:Ac x)(hb:∀d∈T,d.path.length<=4000000000000)(hR:∀w',Ext w w'->R (FV T i x) w'):SE.Gv s (i:Int) x w R:=by
 unfold SE.Gv;have a7:=hs.len;rw[UC hi]at hR;obtain⟨ad,ps,dd,ee,oo,ha,_,_,hp,_,_,_,hc⟩:=dirEl hs hi;have hb:=hb _ (ff hi);refine newS.intro λa w1 x1 a4 _ _=>bound ⟨s,λ_=>a4.ldc.pre (r:=[]) rfl,bound ?_⟩;have e:(decide ((i:Int)<0)||decide ((s.len:Int)<=(i:Int)))=false:=by rw[decide_eq_false oM,decide_eq_false oM];rfl
 rw[e];refine gCall.intro (Af x) (λ_ q hq=>SE.CA.go (scanName_se hx λw2 x2=>⟨_,rfl,hq w2 x2⟩)) λt21 w2 x2 ht=>?_;have ht:=ht rfl;subst ht;have a6:=x1.trans x2;refine⟨λhq=>?_,λhq=>?_⟩
 .have hn:Af x=false:=by simpa using hq
  rw[hn]at hR;exact hR w2 a6
 .have hn:Af x=true:=by simpa using hq
  rw[hn]at hR;refine⟨s,a4.at0 (r:=[]) x2 rfl,ad,⟨ha,oM,oM⟩,ps,(hc _ a6).pre rfl,?_⟩;exact Zd2 hS hs hp hx hb a6 (a4.ext x2) (λx' ht hq hk=>SE.M4.go (Zlg (hS.ext x'.size) ht hx hq λr a5 a0 o=>hk r a5 a0 o)) (λx' ht hk=>SE.EX.go (Jf (hs.ext x') ht λa5 a0=>hk a5 a0)) λw' a0=>hR w' a0
structure PC where
 u:Sl
 ps:Sl
 l1:Int
 l2:Int
 l3:Int
 l4:Int
 ol:Option Addr
 dr:Sl
 st:Sl
def PC.c(c:PC):LV:=[c.u.v,c.ps.v,vi c.l1,vi c.l2,vi c.l3,vi c.l4,.pointer c.ol,c.dr.v,c.st.v]
def OldR(w:Wd)(S:Nat->Prop):Option (List Dir)->Option Addr->Prop
 |none,none=>True
 |some T,some a=>S a.block/\∃so,ldc w a [Sl.v so]/\SlR dirE w S so T
 |_,_=>False
structure PlV(E:Enc Stl)(w:Wd)(p:Addr)(S:Nat->Prop)(c:PC)(G:LN)(P:List Pack)(old:Option (List Dir))(s:PlS):Prop where
 box:BoxAt w p c.c
 g:SlR nodeE w S c.u G
 pk:SlR packE w S c.ps P
 dr:SlR dirE w S c.dr (s.dirs.map (Bh P))
 st:SlR E w S c.st s.done
 old:OldR w S old c.ol
 lt:Old S w
section
variable {E:Enc Stl} {w w':Wd} {p:Addr} {S:Nat->Prop} {c:PC} {G:LN} {P:List Pack} {old:Option (List Dir)} {s:PlS}
def OldR.ext{ol:Option Addr}(h:OldR w S old ol)(hx:Ext w w'):OldR w' S old ol:=by
 unfold OldR at*;split at h
 .trivial
 .obtain⟨h1,so,h2,h3⟩:=h;exact⟨h1,so,h2.ext hx,h3.ext hx⟩
 .exact h
def PlV.ext(h:PlV E w p S c G P old s)(hx:Ext w w'):PlV E w' p S c G P old s:=⟨h.box.ext hx,h.g.ext hx,h.pk.ext hx,h.dr.ext hx,h.st.ext hx,h.old.ext hx,h.lt.ext hx.size⟩
def PlV.ld(h:PlV E w p S c G P old s)(hx:Ext w w')(k:Nat){r:LV}(hp:c.c.drop k=cs++r):ldc w' (p.add k) cs:=h.box.at1 hx hp
def PlV.ld0(h:PlV E w p S c G P old s)(hx:Ext w w'):ldc w' p [c.u.v]:=h.box.at0 hx rfl
def Fs(h:PlV E w p S c G P old s):c.dr.len=s.dirs.length:=by rw[h.dr.len,dz]
def PlV.dirEl(h:PlV E w p S c G P old s)(hi:i<s.dirs.length):
  ∃ad q d e o,c.dr.a=some ad/\S ad.block/\Ac (P.getD s.dirs[i].node Ay).name/\SlR strE w S q s.dirs[i].path/\SlR depE w S d (P.getD s.dirs[i].node Ay).deps/\SlR depE w S e (P.getD s.dirs[i].node Ay).peers/\SlR depE w S o (P.getD s.dirs[i].node Ay).opt/\
   ∀w',Ext w w'->ldc w' (ad.add (i*9)) [q.v,.string (P.getD s.dirs[i].node Ay).name,.int .i64 (P.getD s.dirs[i].node Ay).v.ma,.int .i64 (P.getD s.dirs[i].node Ay).v.mi,.int .i64 (P.getD s.dirs[i].node Ay).v.pa,d.v,e.v,o.v,vi (s.dirs[i].node:Int)]:=by
 have hl:i<(s.dirs.map (Bh P)).length:=by simpa using hi
 have:=Go.Hal.dirEl h.dr hl;rw[na]at this;exact this
end
def Nf{p:Aq}{R:Sl->Wp}(hS:Old S w)(hs:SlR strE w S s p)(hR:∀t w',Ext w w'->OwnS strE 9 w' w.heap.size None' t p->R t w'):SE.Gg s w R:=by
 unfold SE.Gg;refine⟨λh=>?_,λh=>?_⟩
 .have:p=[]:=by
   rcases hs.2.2.2.2 with h0|⟨ad,h1,_⟩
   .exact h0
   .rw[h]at h1;cases h1
  subst this;exact hR _ _ xR (OwnS.zero _)
 .intro a w1 ha hw;subst ha;have x1:Ext w w1:=hw▸Ext.alloc _ _;have own:OwnS strE 9 w1 w.heap.size None' ⟨some ⟨w.heap.size,0,none⟩,0,0⟩ []:=hw▸OwnS.empty w;refine own.appAll GA x1.size (hs.ext x1) (hS.ext x1.size) (λad ha hb=>?_) (by simpa using hs.2.2.2.1) (by simpa using hs.max) λr w2 a0 bel _ _=>?_
  .simp only[eu]at ha;subst ha;have:=hS _ hb;simp at this
  .exact hR r w2 (x1.trans' bel) (OwnS.flat (λh=>h) a0)
end Go.Hal
namespace Go.Hal
open Go.MapKept
end Go.Hal
namespace Go.Hal
def OE(s:PlS):Prop:=∀t∈s.done,t.src<s.dirs.length/\t.dst<s.dirs.length
def SJ(q:Pin)(n:Bs):Ai q.name n=Aw n q:=by rw[gk,AH];unfold Aw;simp
def OldR.none_{old:Option (List Dir)}(h:OldR w S old none):old=none:=by
 cases old with
 |none=>rfl
 |some T=>exact h.elim
def OldR.some_{old:Option (List Dir)}{ol:Option Addr}(h:OldR w S old ol)(h0: ¬ol=none):∃ao T,ol=some ao/\old=some T/\S ao.block/\∃so,ldc w ao [Sl.v so]/\SlR dirE w S so T:=by
 cases ol with
 |none=>exact absurd rfl h0
 |some ao=>
  cases old with
  |none=>exact h.elim
  |some T=>exact⟨ao,T,rfl,rfl,h⟩
def KB(old:Option (List Dir))(P:List Pack)(p:Aq)(k:Nat):Bool:=match old with
 |none=>false
 |some T=>match Ax (T.map AJ) p with
  |none=>false
  |some j=>decide (T[j]?.map Dir.pack=P[k]?)
end Go.Hal
