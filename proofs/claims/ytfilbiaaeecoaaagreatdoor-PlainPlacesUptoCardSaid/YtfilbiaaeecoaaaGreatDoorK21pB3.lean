/- Lemmas for the claim K21p: how the program's functions run, and what they answer; no condition but those that each theorem names. -/
import Derived.Test.YtfilbiaaeecoaaaGreatDoorProg
import Derived.Shelf.SlSortCmp.NoneTotal
import Derived.Ground.SlsfProg
import Derived.Shelf.Sort.Plain
import Derived.Shelf.Slices.In.SortNone
import Derived.Ground.NamesProg
import Derived.Laws.MakeOwn
import Derived.Test.YtfilbiaaeecoaaaGreatDoorK21pB2
set_option linter.unusedVariables false
set_option linter.unusedSimpArgs false
set_option maxHeartbeats 16000000
open Go Go.RowKit Go.Proofs Go.Shelf Go.Hal Go.Proofs.Tryz
variable {sp:Addr} {R:Bool→World→Prop} {e:Hal.Edge} {d3 d4:Int} {es:List Hal.Edge} {ks:List NKey} {g xs:List Hal.Node} {L ps:List Pack} {env l:List Pin} {cs:List Value} {m:Mani} {N a i kind lo n:Nat} {Q S seen:Nat→Prop} {b:Option Nat} {p:Pin} {d o s t:Sl} {w w0:World}
namespace Go.Hal
abbrev Path:=List ByteArray
structure Dr where
 path:Path
 node:Nat
structure Stl where
 src:Nat
 label:ByteArray
 dst:Nat
 deriving DecidableEq
structure PlS where
 dirs:List Dr
 done:List Stl
def Zbv(ds:List Dr)(p:Path):Option Nat:=ds.findIdx? λd=>decide (d.path=p)
def Zb8(ds:List Dr)(p:Path)(x:ByteArray):Nat→Option Nat
 |0=>Zbv ds (p.take 0++ [x])
 |k+1=>match Zbv ds (p.take (k+1)++ [x])with
  |some i=>some i
  |none=>Zb8 ds p x k
def Zb(ds:List Dr)(i:Nat):Path:=match ds[i]? with
 |some d=>d.path
 |none=>[]
structure Spot(s:PlS)(p:Path)(x:ByteArray)(n:Nat):Prop where
 le:n≤p.length
 clear: ∀k,n≤k→k≤p.length→Zbv s.dirs (p.take k++ [x])=none
 keep: ∀t∈s.done,t.label=x→p.take n<+:Zb s.dirs t.src→n<(Zb s.dirs t.dst).length
structure Best(s:PlS)(p:Path)(x:ByteArray)(like:Nat→Bool)(n:Nat):Prop where
 spot:Spot s p x n
 pref: ∀m,Spot s p x m→like m=true→like n=true
 near: ∀m,Spot s p x m→like m=like n→n≤m
theorem Best.one{s:PlS}{p:Path}{x:ByteArray}{like:Nat→Bool}{m:Nat}(h:Best s p x like n)(k:Best s p x like m):n=m:=by
 have he:like m=like n:=by
  cases h1:like m with
  |true=>exact(h.pref m k.spot h1).symm
  |false=>
   cases h2:like n with
   |false=>rfl
   |true=>have:=k.pref n h.spot h2; rw[h1]at this; cases this
 exact Nat.le_antisymm (h.near m k.spot he) (k.near n h.spot he.symm)
structure PlI where
 g:List Node
 like:Path→Nat→Bool
 tlen:Path→Nat
 maxP:Int
 maxD:Int
def Ziw(g:List Node)(i:Nat):List Pin:=match g[i]? with
 |some x=>x.ctx
 |none=>[]
def kindE(g:List Node)(at_:Nat)(e:Edge):Nat:=if(Ziw g at_).any (isN e.name)then 1 else if(Ziw g e.to.toNat).length=0 then 2 else 3
def nodeAt(ds:List Dr)(i:Nat):Nat:=match ds[i]? with
 |some d=>d.node
 |none=>0
def Zom(s:PlS)(src:Nat)(x:ByteArray):Option Nat:=(s.done.find? λt=>decide (t.src=src∧t.label=x)).map Stl.dst
def Sees(I:PlI)(s:PlS)(src to:Nat):Prop:=∀q∈Ziw I.g (nodeAt s.dirs to),∃d,Zom s src q.name=some d∧Zb8 s.dirs (Zb s.dirs to) q.name (Zb s.dirs to).length=some d
def Right(I:PlI)(s:PlS)(src:Nat)(e:Edge)(kind to:Nat):Prop:=Zb8 s.dirs (Zb s.dirs src) e.name (Zb s.dirs src).length=some to∧(nodeAt s.dirs to:Int)=e.to∧(kind=3→Sees I s src to)
inductive EdgeR (I:PlI) (s:PlS) (src:Nat) (e:Edge) (kind:Nat):Int→PlS→Prop
 |found (to:Nat):Right I s src e kind to→EdgeR I s src e kind 0 ⟨s.dirs,s.done++ [⟨src,e.name,to⟩]⟩
 |lost:(∀to,¬Right I s src e kind to)→kind=1→EdgeR I s src e kind 33 s
 |put (n:Nat):(∀to,¬Right I s src e kind to)→kind≠1→(kind=2→Best s (Zb s.dirs src) e.name (λn=>I.like ((Zb s.dirs src).take n++ [e.name]) e.to.toNat) n)→(kind=3→n=(Zb s.dirs src).length)→
   (I.tlen ((Zb s.dirs src).take n++ [e.name]):Int)≤I.maxP→(s.dirs.length:Int)≤I.maxD→
   EdgeR I s src e kind 0 ⟨s.dirs++ [⟨(Zb s.dirs src).take n++ [e.name],e.to.toNat⟩],s.done++ [⟨src,e.name,s.dirs.length⟩]⟩
 |long (n:Nat):(∀to,¬Right I s src e kind to)→kind≠1→(kind=2→Best s (Zb s.dirs src) e.name (λn=>I.like ((Zb s.dirs src).take n++ [e.name]) e.to.toNat) n)→(kind=3→n=(Zb s.dirs src).length)→
   I.maxP<(I.tlen ((Zb s.dirs src).take n++ [e.name]):Int)→EdgeR I s src e kind 40 s
 |deep (n:Nat):(∀to,¬Right I s src e kind to)→kind≠1→(kind=2→Best s (Zb s.dirs src) e.name (λn=>I.like ((Zb s.dirs src).take n++ [e.name]) e.to.toNat) n)→(kind=3→n=(Zb s.dirs src).length)→
   (I.tlen ((Zb s.dirs src).take n++ [e.name]):Int)≤I.maxP→I.maxD<(s.dirs.length:Int)→EdgeR I s src e kind 41 s
theorem Right.one{I:PlI}{s:PlS}{src b:Nat}(h:Right I s src e kind a)(k:Right I s src e kind b):a=b:=by
 have:=h.1.symm.trans k.1
 exact gu this
theorem Zmp{s:PlS}{p:Path}{x:ByteArray}{like:Nat→Bool}{m:Nat}(h1:kind≠1)(hk:kind=1∨kind=2∨kind=3)(a:kind=2→Best s p x like n)(b:kind=3→n=p.length)(a':kind=2→Best s p x like m)(b':kind=3→m=p.length):n=m:=by
 rcases hk with h|h|h
 ·exact absurd h h1
 ·exact(a h).one (a' h)
 ·rw[b h,b' h]
theorem EdgeR.one{I:PlI}{s:PlS}{src:Nat}{c d:Int}{t u:PlS}(hk:kind=1∨kind=2∨kind=3)(h:EdgeR I s src e kind c t)(k:EdgeR I s src e kind d u):c=d∧t=u:=by
 cases h with
 |found to h=>
  cases k with
  |found a5 h'=>rw[h.one h']; exact⟨rfl,rfl⟩
  |lost h' _=>exact absurd h (h' to)
  |put _ h'=>exact absurd h (h' to)
  |long _ h'=>exact absurd h (h' to)
  |deep _ h'=>exact absurd h (h' to)
 |lost h h1=>
  cases k with
  |found to h'=>exact absurd h' (h to)
  |lost=>exact⟨rfl,rfl⟩
  |put _ _ h'=>exact absurd h1 h'
  |long _ _ h'=>exact absurd h1 h'
  |deep _ _ h'=>exact absurd h1 h'
 |put n h h1 a b hP hD=>
  cases k with
  |found to h'=>exact absurd h' (h to)
  |lost _ h'=>exact absurd h' h1
  |put m _ _ a' b'=>
   have:=Zmp h1 hk a b a' b'
   subst this
   exact⟨rfl,rfl⟩
  |long m _ _ a' b' a0=>
   have:=Zmp h1 hk a b a' b'
   subst this
   omega
  |deep m _ _ a' b' _ a4=>omega
 |long n h h1 a b hP=>
  cases k with
  |found to h'=>exact absurd h' (h to)
  |lost _ h'=>exact absurd h' h1
  |put m _ _ a' b' a0=>
   have:=Zmp h1 hk a b a' b'
   subst this
   omega
  |long=>exact⟨rfl,rfl⟩
  |deep m _ _ a' b' a0=>
   have:=Zmp h1 hk a b a' b'
   subst this
   omega
 |deep n h h1 a b hP hD=>
  cases k with
  |found to h'=>exact absurd h' (h to)
  |lost _ h'=>exact absurd h' h1
  |put m _ _ a' b' a0 a4=>omega
  |long m _ _ a' b' a0=>
   have:=Zmp h1 hk a b a' b'
   subst this
   omega
  |deep=>exact⟨rfl,rfl⟩
end Go.Hal
namespace Go.Hal
theorem Zdu{ds:List Dr}{p:Path}(h:Zbv ds p=some i): ∃d,ds[i]? =some d∧d.path=p:=by
 unfold Zbv at h
 obtain⟨hl,h1,_⟩:=ie.1 h
 exact⟨ds[i],bq hl,by simpa using h1⟩
theorem Zq1{ds:List Dr}{p:Path}:Zbv ds p=none↔ ∀d∈ds,d.path≠p:=by
 unfold Zbv
 rw[je]
 simp
theorem Zkh{ds t:List Dr}{p:Path}(h:Zbv ds p=some i):Zbv (ds++t) p=some i:=by
 unfold Zbv at*
 rw[List.findIdx?_append,h]
 rfl
theorem Z02{ds:List Dr}{p:Path}(h: ∃d∈ds,d.path=p): ∃i,Zbv ds p=some i:=by
 cases hf:Zbv ds p with
 |some i=>exact⟨i,rfl⟩
 |none=>
  obtain⟨d,h1,h2⟩:=h
  exact absurd h2 (Zq1.1 hf d h1)
theorem Zbl{ds:List Dr}{d:Dr}(h:ds[i]? =some d):Zb ds i=d.path:=by unfold Zb; rw[h]
theorem Zd1{ds:List Dr}{d:Dr}(h:ds[i]? =some d):nodeAt ds i=d.node:=by unfold nodeAt; rw[h]
theorem Zrd{ds t:List Dr}(h:i<ds.length):Zb (ds++t) i=Zb ds i:=by unfold Zb; rw[dt h]
theorem Zgj{ds t:List Dr}(h:i<ds.length):nodeAt (ds++t) i=nodeAt ds i:=by unfold nodeAt; rw[dt h]
theorem Zk6{ds:List Dr}{p:Path}{x:ByteArray}: ∀{k i:Nat},Zb8 ds p x k=some i→ ∃n,n≤k∧Zbv ds (p.take n++ [x])=some i∧ ∀m,n<m→m≤k→Zbv ds (p.take m++ [x])=none
 |0,i,h=>⟨0,df _,h,λm h1 h2=>by omega⟩
 |k+1,i,h=>by
  unfold Zb8 at h
  cases hf:Zbv ds (p.take (k+1)++ [x])with
  |some j=>
   rw[hf]at h
   cases h
   exact⟨k+1,df _,hf,λm h1 h2=>by omega⟩
  |none=>
   rw[hf]at h
   obtain⟨n,h1,h2,h3⟩:=Zk6 h
   refine⟨n,oM,h2,λm h4 h5=>?_⟩
   by_cases hm:m=k+1
   ·subst hm; exact hf
   ·exact h3 m h4 oM
structure PInv(g:List Node)(s:PlS)(a:Nat):Prop where
 root:s.dirs[0]? =some ⟨[],0⟩
 one: ∀(i j:Nat) (d e:Dr),s.dirs[i]? =some d→s.dirs[j]? =some e→d.path=e.path→i=j
 up: ∀(i:Nat) (d:Dr) (p:Path) (x:ByteArray),s.dirs[i]? =some d→d.path=p++ [x]→ ∃h,h<i∧Zbv s.dirs p=some h
 src: ∀t∈s.done,t.src≤a∧t.src<s.dirs.length∧t.dst<s.dirs.length
 uniq: ∀t∈s.done,∀u∈s.done,t.src=u.src→t.label=u.label→t=u
 fresh: ∀(i:Nat) (d:Dr) (p:Path) (x:ByteArray),s.dirs[i]? =some d→d.path=p++ [x]→ ∀h,Zbv s.dirs p=some h→a≤h→h=a∧ ∃t∈s.done,t.src=a∧t.label=x
 node: ∀d∈s.dirs,d.node<g.length
theorem PInv.find{s:PlS}{d:Dr}(h:PInv g s a)(hd:s.dirs[i]? =some d):Zbv s.dirs d.path=some i:=by
 obtain⟨j,hj⟩:=Z02 ⟨d,ez hd,rfl⟩
 obtain⟨e,h1,h2⟩:=Zdu hj
 rw[hj,h.one i j d e hd h1 h2.symm]
theorem PInv.above{s:PlS}(h:PInv g s a): ∀(n i:Nat) (d:Dr),s.dirs[i]? =some d→d.path.length=n→ ∀k,k≤n→ ∃j,j≤i∧Zbv s.dirs (d.path.take k)=some j:=λn=>by
 induction n with
 |zero=>
  intro i d hd hn k hk
  have:k=d.path.length:=oM
  subst this
  rw[cu]
  exact⟨i,df _,h.find hd⟩
 |succ n ih=>
  intro i d hd hn k hk
  by_cases a4:k=n+1
  ·subst a4
   rw[←hn,cu]
   exact⟨i,df _,h.find hd⟩
  ·have a0:d.path≠ []:=λe=>by rw[e]at hn; simp at hn
   have hp:d.path=d.path.dropLast++ [d.path.getLast a0]:=(List.dropLast_concat_getLast a0).symm
   obtain⟨j,h1,h2⟩:=h.up i d _ _ hd hp
   obtain⟨e,h3,h4⟩:=Zdu h2
   have h5:e.path.length=n:=by rw[h4,List.length_dropLast]; omega
   obtain⟨m,h6,h7⟩:=ih j e h3 h5 k oM
   refine⟨m,oM,?_⟩
   rw[h4]at h7
   have:d.path.take k=d.path.dropLast.take k:=by
    rw[List.dropLast_eq_take,List.take_take]
    congr 1
    omega
   rw[this]; exact h7
theorem PInv.pre{s:PlS}{j:Nat}{d e:Dr}(h:PInv g s a)(hd:s.dirs[i]? =some d)(he:s.dirs[j]? =some e)(hp:e.path<+:d.path):j≤i:=by
 obtain⟨m,h1,h2⟩:=h.above _ i d hd rfl e.path.length hp.length_le
 rw[←ls.1 hp,h.find he]at h2
 cases h2
 exact h1
def NewL(s:PlS)(a:Nat)(x:ByteArray):Prop:=∀t∈s.done,t.src=a→t.label≠x
theorem PInv.spot{s:PlS}{d:Dr}{x:ByteArray}(h:PInv g s a)(hd:s.dirs[a]? =some d)(hx:NewL s a x):Spot s d.path x d.path.length:=by
 refine⟨df _,λk h1 h2=>?_,λt ht hl hp=>?_⟩
 ·have hk:k=d.path.length:=oM
  subst hk
  rw[cu]
  cases hf:Zbv s.dirs (d.path++ [x])with
  |none=>rfl
  |some i=>
   obtain⟨e,h3,h4⟩:=Zdu hf
   obtain⟨_,t,h5,h6,h7⟩:=h.fresh i e d.path x h3 h4 a (h.find hd) nR
   exact absurd h7 (hx t h5 h6)
 ·obtain⟨h1,h2,_⟩:=h.src t ht
  rw[cu]at hp
  have h3:s.dirs[t.src]? =some s.dirs[t.src]:=bq h2
  rw[Zbl h3]at hp
  have:=h.pre h3 hd hp
  exact absurd hl (hx t ht oM)
theorem PInv.found{s:PlS}{to:Nat}{x:ByteArray}(h:PInv g s a)(ha:a<s.dirs.length)(hx:NewL s a x)(a4:to<s.dirs.length):PInv g ⟨s.dirs,s.done++ [⟨a,x,to⟩]⟩ a:=by
 refine⟨h.root,h.one,h.up,λt ht=>?_,λt ht u hu h1 h2=>?_,λi d p y hd hp j hj a0=>?_,h.node⟩
 ·rcases dj.1 ht with ht|ht
  ·exact h.src t ht
  ·rw[ci]at ht; subst ht; exact⟨df _,ha,a4⟩
 ·rcases dj.1 ht with ht|ht<;>rcases dj.1 hu with hu|hu
  ·exact h.uniq t ht u hu h1 h2
  ·rw[ci]at hu; subst hu; exact absurd h2 (hx t ht h1)
  ·rw[ci]at ht; subst ht; exact absurd h2.symm (hx u hu h1.symm)
  ·rw[ci]at ht hu; rw[ht,hu]
 ·obtain⟨h1,t,h2,h3,h4⟩:=h.fresh i d p y hd hp j hj a0
  exact⟨h1,t,gb _ h2,h3,h4⟩
theorem PInv.put{s:PlS}{k:Nat}{d:Dr}{x:ByteArray}(h:PInv g s a)(hd:s.dirs[a]? =some d)(hx:NewL s a x)(hs:Spot s d.path x n)(hk:k<g.length):
  PInv g ⟨s.dirs++ [⟨d.path.take n++ [x],k⟩],s.done++ [⟨a,x,s.dirs.length⟩]⟩ a:=by
 have ha:=(ce.1 hd).1
 have a5: ∀e∈s.dirs,e.path≠d.path.take n++ [x]:=Zq1.1 (hs.clear n nR hs.le)
 have at_: ∀{i:Nat} {e:Dr},(s.dirs++ [⟨d.path.take n++ [x],k⟩])[i]? =some e→(s.dirs[i]? =some e∧i<s.dirs.length)∨(i=s.dirs.length∧e=⟨d.path.take n++ [x],k⟩):=λ{i e} hi=>by
  rcases lw i s.dirs.length with hl|hl
  ·rw[dt hl]at hi; exact .inl ⟨hi,hl⟩
  ·rw[ff hl]at hi
   have:i - s.dirs.length=0:=by
    have:=(ce.1 hi).1
    simp at this; omega
   rw[this]at hi
   simp at hi
   exact .inr ⟨oM,hi.symm⟩
 obtain⟨m,a7,a4⟩:=h.above _ a d hd rfl n hs.le
 refine⟨(dt (Nat.lt_of_le_of_lt (eh a) ha)).trans h.root,λi j e f hi hj hp=>?_,λi e p y hi hp=>?_,λt ht=>?_,λt ht u hu h1 h2=>?_,λi e p y hi hp j hj a6=>?_,λe he=>?_⟩
 ·rcases at_ hi with⟨hi,_⟩|⟨rfl,rfl⟩<;>rcases at_ hj with⟨hj,_⟩|⟨rfl,rfl⟩
  ·exact h.one i j e f hi hj hp
  ·exact absurd hp (a5 e (ez hi))
  ·exact absurd hp.symm (a5 f (ez hj))
  ·rfl
 ·rcases at_ hi with⟨hi,_⟩|⟨rfl,rfl⟩
  ·obtain⟨j,h1,h2⟩:=h.up i e p y hi hp
   exact⟨j,h1,Zkh h2⟩
  ·obtain⟨h1,_⟩:=List.append_inj' hp rfl
   exact⟨m,oM,by rw[←h1]; exact Zkh a4⟩
 ·simp only[br,fl]
  rcases dj.1 ht with ht|ht
  ·obtain⟨h1,h2,h3⟩:=h.src t ht
   exact⟨h1,oM,oM⟩
  ·rw[ci]at ht; subst ht; exact⟨df _,Nat.lt_succ_of_lt ha,by simp⟩
 ·rcases dj.1 ht with ht|ht<;>rcases dj.1 hu with hu|hu
  ·exact h.uniq t ht u hu h1 h2
  ·rw[ci]at hu; subst hu; exact absurd h2 (hx t ht h1)
  ·rw[ci]at ht; subst ht; exact absurd h2.symm (hx u hu h1.symm)
  ·rw[ci]at ht hu; rw[ht,hu]
 ·rcases at_ hi with⟨hi,_⟩|⟨rfl,rfl⟩
  ·obtain⟨j',h1,h2⟩:=h.up i e p y hi hp
   have a0:=(Zkh h2).symm.trans hj
   cases a0
   obtain⟨h3,t,h4,h5,h6⟩:=h.fresh i e p y hi hp _ h2 a6
   exact⟨h3,t,gb _ h4,h5,h6⟩
  ·obtain⟨h1,h2⟩:=List.append_inj' hp rfl
   rw[←h1]at hj
   have a0:=(Zkh a4).symm.trans hj
   cases a0
   refine⟨oM,_,ii _ (ci.2 rfl),rfl,?_⟩
   simpa using h2
 ·rcases dj.1 he with he|he
  ·exact h.node e he
  ·rw[ci]at he; subst he; exact hk
theorem PInv.next{s:PlS}(h:PInv g s a):PInv g s (a+1):=
 ⟨h.root,h.one,h.up,λt ht=>by obtain⟨h1,h2,h3⟩:=h.src t ht; exact⟨oM,h2,h3⟩,h.uniq,λi d p y hd hp j hj a0=>by
  have:=(h.fresh i d p y hd hp j hj oM).1
  omega,h.node⟩
theorem PInv.start(hg:0<g.length):PInv g ⟨[⟨[],0⟩],[]⟩ 0:=by
 refine⟨rfl,λi j d e hi hj _=> ?_,λi d p x hi hp=>?_,(λt ht=>by cases ht),(λt ht=>by cases ht),λi d p x hi hp=>?_,λd hd=>?_⟩
 ·have h1:=(ce.1 hi).1
  have h2:=(ce.1 hj).1
  simp at h1 h2; omega
 ·have h1:=(ce.1 hi).1
  simp at h1; subst h1
  simp at hi; subst hi; simp at hp
 ·have h1:=(ce.1 hi).1
  simp at h1; subst h1
  simp at hi; subst hi; simp at hp
 ·rw[ci]at hd; subst hd; exact hg
end Go.Hal
namespace Go.Hal
def Zge(g:List Node)(k:Nat):List Edge:=
 let es:=Z1 g k
 es.filter (λe=>kindE g k e==1)++(es.filter (λe=>kindE g k e==2)++es.filter λe=>kindE g k e==3)
theorem Zfx(g:List Node)(k:Nat)(e:Edge):kindE g k e=1∨kindE g k e=2∨kindE g k e=3:=by
 unfold kindE
 split
 ·exact .inl rfl
 ·split
  ·exact .inr (.inl rfl)
  ·exact .inr (.inr rfl)
inductive EdgesR (I:PlI) (a k:Nat):PlS→List Edge→Int→PlS→Prop
 |nil (s:PlS):EdgesR I a k s [] 0 s
 |cons {s t u:PlS} {e:Edge} {es:List Edge} {c:Int}:EdgeR I s a e (kindE I.g k e) 0 t→EdgesR I a k t es c u→EdgesR I a k s (e::es) c u
 |stop {s t:PlS} {e:Edge} {es:List Edge} {c:Int}:EdgeR I s a e (kindE I.g k e) c t→c≠0→EdgesR I a k s (e::es) c t
inductive DirsR (I:PlI):Nat→PlS→Int→PlS→Prop
 |fin {a:Nat} {s:PlS}:s.dirs.length≤a→DirsR I a s 0 s
 |next {a:Nat} {s t u:PlS} {c:Int}:a<s.dirs.length→EdgesR I a (nodeAt s.dirs a) s (Zge I.g (nodeAt s.dirs a)) 0 t→DirsR I (a+1) t c u→DirsR I a s c u
 |stop {a:Nat} {s t:PlS} {c:Int}:a<s.dirs.length→EdgesR I a (nodeAt s.dirs a) s (Zge I.g (nodeAt s.dirs a)) c t→c≠0→DirsR I a s c t
theorem EdgesR.one{I:PlI}{k:Nat}{s t u:PlS}{c d:Int}(h:EdgesR I a k s es c t):EdgesR I a k s es d u→c=d∧t=u:=by
 induction h generalizing d u with
 |nil s=>intro h'; cases h'; exact⟨rfl,rfl⟩
 |cons h1 h2 ih=>
  intro h'
  cases h' with
  |cons k1 k2=>
   obtain⟨_,rfl⟩:=h1.one (Zfx _ _ _) k1
   exact ih k2
  |stop k1 k2=>exact absurd (h1.one (Zfx _ _ _) k1).1.symm k2
 |stop h1 h2=>
  intro h'
  cases h' with
  |cons k1 k2=>exact absurd (h1.one (Zfx _ _ _) k1).1 h2
  |stop k1 k2=>exact h1.one (Zfx _ _ _) k1
theorem DirsR.one{I:PlI}{s t u:PlS}{c d:Int}(h:DirsR I a s c t):DirsR I a s d u→c=d∧t=u:=by
 induction h generalizing d u with
 |fin h1=>
  intro h'
  cases h' with
  |fin=>exact⟨rfl,rfl⟩
  |next k1=>omega
  |stop k1=>omega
 |next h1 h2 h3 ih=>
  intro h'
  cases h' with
  |fin k1=>omega
  |next k1 k2 k3=>
   obtain⟨_,rfl⟩:=h2.one k2
   exact ih k3
  |stop k1 k2 k3=>exact absurd (h2.one k2).1.symm k3
 |stop h1 h2 h3=>
  intro h'
  cases h' with
  |fin k1=>omega
  |next k1 k2 k3=>exact absurd (h2.one k2).1 h3
  |stop k1 k2 k3=>exact h2.one k2
structure GrownP(s t:PlS)(a:Nat)(x:ByteArray):Prop where
 dirs: ∃l,t.dirs=s.dirs++l
 new: ∀y,y≠x→NewL s a y→NewL t a y
theorem Zud{ds:List Dr}{s:PlS}{k:Nat}{x y:ByteArray}(hy:y≠x)(h:NewL s a y):NewL ⟨ds,s.done++ [⟨a,x,k⟩]⟩ a y:=λt ht hs=>by
 rcases dj.1 ht with ht|ht
 ·exact h t ht hs
 ·rw[ci]at ht; subst ht; exact λe=>hy e.symm
theorem Zsf{ds:List Dr}{p:Path}{x:ByteArray}{k:Nat}(h:Zb8 ds p x k=some i):i<ds.length:=by
 obtain⟨n,_,h2,_⟩:=Zk6 h
 obtain⟨d,h3,_⟩:=Zdu h2
 exact(ce.1 h3).1
theorem EdgeR.inv{I:PlI}{s t:PlS}{c:Int}(hk:kind=1∨kind=2∨kind=3)(h:EdgeR I s a e kind c t)(hI:PInv I.g s a)(ha:a<s.dirs.length)(hx:NewL s a e.name)(a0:0≤e.to∧e.to<I.g.length):
  PInv I.g t a∧GrownP s t a e.name:=by
 have hd:s.dirs[a]? =some s.dirs[a]:=bq ha
 cases h with
 |found to hr=>exact⟨hI.found ha hx (Zsf hr.1),⟨[],by simp⟩,λy hy h=>Zud hy h⟩
 |lost=>exact⟨hI,⟨[],by simp⟩,λy _ h=>h⟩
 |put n h1 h2 h3 h4=>
  have hs:Spot s (Zb s.dirs a) e.name n:=by
   rcases hk with hk|hk|hk
   ·exact absurd hk h2
   ·exact(h3 hk).spot
   ·rw[h4 hk,Zbl hd]; exact hI.spot hd hx
  rw[Zbl hd]at hs ⊢
  exact⟨hI.put hd hx hs oM,⟨_,rfl⟩,λy hy h=>Zud hy h⟩
 |long=>exact⟨hI,⟨[],by simp⟩,λy _ h=>h⟩
 |deep=>exact⟨hI,⟨[],by simp⟩,λy _ h=>h⟩
section
variable {s:PlS} {p:Path} {x:ByteArray} {like:Nat→Bool}
theorem Best.first{l:List Nat}(hl: ∀n,n∈l↔Spot s p x n)(hs:l.Pairwise (· < ·))(hi:i<l.length)(h1:like l[i]=true)(h2: ∀j (hj:j<l.length),j<i→like l[j]=false):Best s p x like l[i]:=by
 refine⟨(hl _).1 (cj hi),λ_ _ _=>h1,λm hm he=>?_⟩
 obtain⟨j,hj,rfl⟩:=cy.1 ((hl m).2 hm)
 rcases jm i j with a0|rfl|a0
 ·exact Nat.le_of_lt (cr.1 hs i j hi hj a0)
 ·exact df _
 ·rw[h2 j hj a0,h1]at he; cases he
theorem Best.none{l:List Nat}(hl: ∀n,n∈l↔Spot s p x n)(hs:l.Pairwise (· < ·))(h0:0<l.length)(h2: ∀j (hj:j<l.length),like l[j]=false):Best s p x like l[0]:=by
 have hn: ∀m,Spot s p x m→like m=false:=λm hm=>by
  obtain⟨j,hj,rfl⟩:=cy.1 ((hl m).2 hm)
  exact h2 j hj
 refine⟨(hl _).1 (cj h0),λm hm he=>?_,λm hm _=> ?_⟩
 ·rw[hn m hm]at he; cases he
 ·obtain⟨j,hj,rfl⟩:=cy.1 ((hl m).2 hm)
  rcases fo j with rfl|a0
  ·exact df _
  ·exact Nat.le_of_lt (cr.1 hs 0 j h0 hj a0)
structure OverI(s:PlS)(p:Path)(x:ByteArray)(like:Nat→Bool)(seen:Nat→Prop)(best:Option Nat):Prop where
 some_: ∀n,best=some n→seen n∧Spot s p x n∧ ∀m,seen m→Spot s p x m→(like m=true→like n=true)∧(like m=like n→n≤m)
 none_:best=none→ ∀m,seen m→ ¬Spot s p x m
theorem OverI.fin(h:OverI s p x like seen b)(a0: ∀m,Spot s p x m→seen m)(hs: ∃n,Spot s p x n): ∃n,b=some n∧Best s p x like n:=by
 cases b with
 |none=>obtain⟨m,hm⟩:=hs; exact absurd hm (h.none_ rfl m (a0 m hm))
 |some n=>
  obtain⟨_,h2,h3⟩:=h.some_ n rfl
  exact⟨n,rfl,h2,λm hm=>(h3 m (a0 m hm) hm).1,λm hm=>(h3 m (a0 m hm) hm).2⟩
theorem OverI.skip{k:Nat}(h:OverI s p x like seen b)(hk: ¬Spot s p x k):OverI s p x like (λm=>seen m∨m=k) b:=by
 refine⟨λn hn=>?_,λhb m hm=>?_⟩
 ·obtain⟨h1,h2,h3⟩:=h.some_ n hn
  refine⟨.inl h1,h2,λm hm hs=>?_⟩
  rcases hm with hm|rfl
  ·exact h3 m hm hs
  ·exact absurd hs hk
 ·rcases hm with hm|rfl
  ·exact h.none_ hb m hm
  ·exact hk
theorem OverI.put{k:Nat}(h:OverI s p x like seen b)(hk:Spot s p x k)(hb: ∀n,b=some n→(like n=true→like k=true)∧(like n=like k→k≤n)):OverI s p x like (λm=>seen m∨m=k) (some k):=by
 refine⟨λn hn=>?_,nO⟩
 cases hn
 refine⟨.inr rfl,hk,λm hm hs=>?_⟩
 rcases hm with hm|rfl
 ·cases b with
  |none=>exact absurd hs (h.none_ rfl m hm)
  |some n=>
   obtain⟨h1,h2,h3⟩:=h.some_ n rfl
   obtain⟨g1,g2⟩:=h3 m hm hs
   obtain⟨e1,e2⟩:=hb n rfl
   refine⟨λhl=>e1 (g1 hl),λhe=>?_⟩
   cases hn:like n with
   |true=>
    have:=e1 hn
    have a:=e2 (by rw[hn,this])
    have b:=g2 (by rw[he,this,hn])
    omega
   |false=>
    cases hkl:like k with
    |false=>
     have a:=e2 (by rw[hn,hkl])
     have b:=g2 (by rw[he,hkl,hn])
     omega
    |true=>
     have:=g1 (he.trans hkl)
     rw[hn]at this; cases this
 ·exact⟨λh=>h,λ_=>df _⟩
theorem OverI.stay{k:Nat}(h:OverI s p x like seen (some n))(hb:(like k=true→like n=true)∧(like k=like n→n≤k)):OverI s p x like (λm=>seen m∨m=k) (some n):=by
 refine⟨λm hm=>?_,nO⟩
 cases hm
 obtain⟨h1,h2,h3⟩:=h.some_ n rfl
 refine⟨.inl h1,h2,λm hm hs=>?_⟩
 rcases hm with hm|rfl
 ·exact h3 m hm hs
 ·exact hb
end
end Go.Hal
namespace Go.Hal
def StrictL{α:Type}(c:α→α→Int)(l:List α):Prop:=l.Pairwise λa b=>c a b<0
theorem StrictL.nodup{α:Type}{c:α→α→Int}(hc:Ord3 c){l:List α}(h:StrictL c l):l.Nodup:=by
 rw[fe]
 refine h.imp λ{a b} h e=>?_
 subst e
 have:=(hc.flip a a).1 h
 omega
theorem StrictL.one{α:Type}{c:α→α→Int}(hc:Ord3 c){l m:List α}(h1:StrictL c l)(h2:StrictL c m)(hm: ∀x,x∈l↔x∈m):l=m:=
 Zi9 (λx y h k=>by have:=(hc.flip x y).1 h; omega) h1 h2 ((List.perm_ext_iff_of_nodup (h1.nodup hc) (h2.nodup hc)).2 hm)
end Go.Hal
namespace Go.Hal
def modsT:List UInt8:=[47,109,111,100,117,108,101,115,47]
def Zi3(p:Path):List UInt8:=p.flatMap λx=>modsT++x.toList
def Zav(p:Path):Bool:=p.all Zn
def Z5(p:Path):List UInt8:=if p= []then [47]else if Zav p then Zi3 p else []
theorem Zwb{b:UInt8}(h:Zib b=true):b≠47:=by
 rintro rfl
 revert h
 decide
theorem Zpn: ∀{l:List UInt8},Zfh l=true→(47:UInt8)∉l
 | [],_=>by simp
 |a::l,h=>by
  intro hm
  simp only[Zfh,bx,fu]at h
  rcases du.1 hm with rfl|hm
  ·have:=h.1
   revert this
   decide
  ·exact Zwb (h.2 _ hm) rfl
theorem Zkm{x:ByteArray}(h:Zn x=true):(47:UInt8)∉x.toList:=by
 unfold Zn at h
 simp only[bx]at h
 exact Zpn h.1
theorem Znm: ∀{p:Path},p≠ []→ ∃r,Zi3 p=47::r
 | [],h=>absurd rfl h
 |x::p,_=>⟨_,rfl⟩
theorem Zoc{a r:List UInt8}(ha:(47:UInt8)∉a)(hr:r= []∨ ∃t,r=47::t):(a++r).takeWhile (λb=>b != 47)=a:=by
 rw[List.takeWhile_append_of_pos (λb hb=>by simp; rintro rfl; exact ha hb)]
 rcases hr with rfl|⟨t,rfl⟩
 ·simp
 ·simp
theorem Zuk: ∀{p q:Path},Zav p=true→Zav q=true→Zi3 p=Zi3 q→p=q
 | [],[],_,_,_=>rfl
 | [],y::q,_,_,h=>by
  obtain⟨r,hr⟩:=Znm (p:=y::q) sI
  rw[hr]at h; cases h
 |x::p,[],_,_,h=>by
  obtain⟨r,hr⟩:=Znm (p:=x::p) sI
  rw[hr]at h; cases h
 |x::p,y::q,hp,hq,h=>by
  unfold Zav at hp hq
  rw[jv,bx]at hp hq
  have h':modsT++(x.toList++Zi3 p)=modsT++(y.toList++Zi3 q):=by
   simpa only[Zi3,List.flatMap_cons,cc]using h
  have h1:=List.append_cancel_left h'
  have en: ∀l:Path,Zi3 l= []∨ ∃t,Zi3 l=47::t:=λl=>by
   by_cases hl:l= []
   ·subst hl; exact .inl rfl
   ·exact .inr (Znm hl)
  have h2:=congrArg (List.takeWhile λb=>b != 47) h1
  rw[Zoc (Zkm hp.1) (en p),Zoc (Zkm hq.1) (en q)]at h2
  rw[h2]at h1
  have h3:=Zuk (p:=p) (q:=q) hp.2 hq.2 (List.append_cancel_left h1)
  rw[toList_data,toList_data]at h2
  rw[Zo3 h2,h3]
theorem Zpq{p:Path}(h:p≠ []):9≤(Zi3 p).length:=by
 cases p with
 |nil=>exact absurd rfl h
 |cons x p=>simp[Zi3,modsT]
theorem Zul{p q:Path}(hp:Zav p=true)(hq:Zav q=true)(h:Z5 p=Z5 q):p=q:=by
 unfold Z5 at h
 by_cases h1:p= []<;>by_cases h2:q= []
 ·rw[h1,h2]
 ·rw[if_pos h1,if_neg h2,if_pos hq]at h
  have:=Zpq h2
  rw[←h]at this; simp at this
 ·rw[if_neg h1,if_pos h2,if_pos hp]at h
  have:=Zpq h1
  rw[h]at this; simp at this
 ·rw[if_neg h1,if_neg h2,if_pos hp,if_pos hq]at h
  exact Zuk hp hq h
def txtD(d:Dr):ByteArray:=B (Z5 d.path)
def cDr(a b:Dr):Int:=cmpS (txtD a) (txtD b)
theorem cDr_ord:Ord3 cDr:=Zhf txtD
theorem Z53{a b:Dr}(ha:Zav a.path=true)(hb:Zav b.path=true)(h:txtD a=txtD b):a.path=b.path:=by
 unfold txtD at h
 have:=congrArg ByteArray.toList h
 rw[Zon,Zon]at this
 exact Zul ha hb this
def SortedD(ds out:List Dr):Prop:=out.Perm ds∧out.Pairwise λa b=>¬cDr b a<0
structure DirsOk(ds:List Dr):Prop where
 names: ∀d∈ds,Zav d.path=true
 one: ∀(i j:Nat) (d e:Dr),ds[i]? =some d→ds[j]? =some e→d.path=e.path→i=j
theorem DirsOk.eq{ds:List Dr}(h:DirsOk ds){a b:Dr}(ha:a∈ds)(hb:b∈ds)(he:cDr a b=0):a=b:=by
 have hp:=Z53 (h.names a ha) (h.names b hb) (Zgs.1 he)
 obtain⟨i,hi⟩:=ip ha
 obtain⟨j,hj⟩:=ip hb
 have:=h.one i j a b hi hj hp
 subst this
 rw[hi]at hj; exact gu hj
theorem DirsOk.nodup{ds:List Dr}(h:DirsOk ds):ds.Nodup:=by
 rw[fe,cr]
 intro i j hi hj a0 he
 have:=h.one i j _ _ (bq hi) (bq hj) (by rw[he])
 omega
theorem SortedD.strict{ds out:List Dr}(h:DirsOk ds)(k:SortedD ds out):StrictL cDr out:=by
 obtain⟨hp,hs⟩:=k
 have hn:out.Nodup:=hp.nodup_iff.2 h.nodup
 rw[fe]at hn
 unfold StrictL
 have:=(hn.and hs)
 refine List.Pairwise.imp_of_mem ?_ this
 intro a b ha hb ⟨h1,h2⟩
 have h3:cDr a b≠0:=λe=>h1 (h.eq (hp.mem_iff.1 ha) (hp.mem_iff.1 hb) e)
 have h4:=cDr_ord.flip b a
 omega
theorem SortedD.one{ds a b:List Dr}(h:DirsOk ds)(ha:SortedD ds a)(hb:SortedD ds b):a=b:=
 (ha.strict h).one cDr_ord (hb.strict h) λx=>ha.1.mem_iff.trans hb.1.mem_iff.symm
end Go.Hal
namespace Go.Hal
structure Dir where
 path:Path
 pack:Pack
 node:Int
 deriving DecidableEq
def Zx:Pack:=⟨⟨#[]⟩,⟨0,0,0⟩,[],[],[]⟩
def drOf(d:Dir):Dr:=⟨d.path,d.node.toNat⟩
structure StandsD(T:List Dir)(i:Nat)(d:Dir):Prop where
 path:d.path≠ []
 names:Zav d.path=true
 len:(Z5 d.path).length≤1024
 node:1≤d.node
 first:Zbv (T.map drOf) d.path=some i
 up: ∃h,h<i∧Zbv (T.map drOf) d.path.dropLast=some h
 may:Zbb d.pack=true
 name:d.path.getLast? =some d.pack.name
structure TreeOk(T:List Dir):Prop where
 len:1≤T.length∧T.length≤257
 root:T[0]? =some ⟨[],Zx,0⟩
 rest: ∀i d,T[i]? =some d→i≠0→StandsD T i d
def lookT(T:List Dir)(i:Nat)(x:ByteArray):Option Nat:=if Zn x then Zb8 (T.map drOf) (Zb (T.map drOf) i) x (Zb (T.map drOf) i).length else none
structure Stt where
 m:Mani
 g:List Node
 T:List Dir
 pruned:Bool
end Go.Hal
namespace Go.Hal
def dirE:Enc Dir where
 n:=9
 bytes:=144
 rep:=λw S x cs=>Str x.pack.name∧ ∃ps d e o:Sl,cs= [ps.v,.string x.pack.name,.int .i64 x.pack.v.ma,.int .i64 x.pack.v.mi,.int .i64 x.pack.v.pa,d.v,e.v,o.v,.int .i64 x.node]∧SlR strE w S ps x.path∧SlR depE w S d x.pack.deps∧SlR depE w S e x.pack.peers∧SlR depE w S o x.pack.opt
 len:=λ⟨_,ps,d,e,o,h,_⟩=>by rw[h]; rfl
 one:=λ⟨_,ps,d,e,o,h,_⟩ v hv=>by rw[h]at hv; simp[Sl.v]at hv; rcases hv with rfl|rfl|rfl|rfl|rfl|rfl|rfl|rfl|rfl<;>rfl
 mono:=λ⟨h0,ps,d,e,o,h,a,b,c,k⟩ hs=>⟨h0,ps,d,e,o,h,a.mono hs,b.mono hs,c.mono hs,k.mono hs⟩
 keep:=λ⟨h0,ps,d,e,o,h,a,b,c,k⟩ hk=>⟨h0,ps,d,e,o,h,a.keep hk,b.keep hk,c.keep hk,k.keep hk⟩
theorem dirEl{l:List Dir}(h:SlR dirE w S s l)(hn:n<l.length):
  ∃ad ps d e o,s.a=some ad∧S ad.block∧Str l[n].pack.name∧SlR strE w S ps l[n].path∧SlR depE w S d l[n].pack.deps∧SlR depE w S e l[n].pack.peers∧SlR depE w S o l[n].pack.opt∧
   ∀w',Ext w w'→ldc w' (ad.add (n*9)) [ps.v,.string l[n].pack.name,.int .i64 l[n].pack.v.ma,.int .i64 l[n].pack.v.mi,.int .i64 l[n].pack.v.pa,d.v,e.v,o.v,.int .i64 l[n].node]:=by
 obtain⟨ad,cs,h1,h2,⟨h0,ps,d,e,o,rfl,a,b,c,k⟩,h4⟩:=h.el hn
 exact⟨ad,ps,d,e,o,h1,h2,h0,a,b,c,k,h4⟩
theorem Zz6:ApT prog 28 69 9 144:=Zhv (z:=.agg #[.slice none 0 0,.string ⟨#[]⟩,.int .i64 0,.int .i64 0,.int .i64 0,.slice none 0 0,.slice none 0 0,.slice none 0 0,.int .i64 0]) kR kR rfl dC
theorem Zjv:dirE.rep w S ⟨[],Zx,0⟩ [.slice none 0 0,.string ⟨#[]⟩,.int .i64 0,.int .i64 0,.int .i64 0,.slice none 0 0,.slice none 0 0,.slice none 0 0,.int .i64 0]:=
 ⟨by unfold Str Zx; rw[Zd]; decide,Sl.nil,Sl.nil,Sl.nil,Sl.nil,rfl,SlR.nil trivial,SlR.nil trivial,SlR.nil trivial,SlR.nil trivial⟩
section
variable {w:World} {lo:Nat} {sp:Addr} {K:K7} {q:Quest} {s:St}
theorem Zys(hG:GoodL L)(n:ByteArray)(v:Ver):(getD L n v).deps.length≤16∧(getD L n v).peers.length≤16∧(getD L n v).opt.length≤16:=by
 unfold getD
 cases h:getL L n v with
 |none=>exact⟨eh _,eh _,eh _⟩
 |some p=>
  obtain⟨_,_,h1,h2,h3⟩:=Zmg (hG.may p (Zhy h).1)
  exact⟨(Zr h1).1,(Zr h2).1,(Zr h3).1⟩
theorem Zzx{ns:List Node}{k:Nat}{x:Node}(hk:k≠0)(hx:ns[k]? =some x):q.wants ns k=Ziu q.m.over (getD q.L x.name x.v).deps (getD q.L x.name x.v).opt:=by
 unfold Quest.wants Z27 Zy0
 rw[if_neg hk,fi,hx]
 show(match getL q.L x.name x.v with|none=>[]|some p=>Ziu q.m.over p.deps p.opt)=_
 unfold getD
 cases getL q.L x.name x.v with
 |none=>rfl
 |some p=>rfl
end
section
variable {w:World} {lo:Nat} {sp:Addr} {K:K7} {q:Quest} {s:St}
end
section
variable {α:Type} {E:Enc α} {T:TypeId} {w:World} {lo:Nat} {Q:Nat→Prop} {s:Sl} {l:List α}
theorem Zpf{css:List (List Value)}(h: ∀cs∈css,cs.length=n):css.flatten.length=css.length*n:=by
 induction css with
 |nil=>simp
 |cons c r ih=>rw[ge,br,h c (.head _),ih λx hx=>h x (.tail _ hx),dq,gh]; omega
theorem OwnS.rowLens(h:OwnS E T w lo Q s l){css:List (List Value)}(hl:css.length=l.length)(hr: ∀(i:Nat) (x:α),l[i]? =some x→ ∃cs,css[i]? =some cs∧E.rep w Q x cs): ∀cs∈css,cs.length=E.n:=λcs a0=>by
 obtain⟨k,hk,rfl⟩:=cy.1 a0
 obtain⟨cs',h1,h2⟩:=hr k _ (bq oM)
 rw[bq hk,cw]at h1
 rw[h1]; exact E.len h2
theorem OwnS.setEl(h:OwnS E T w lo Q s l)(hi:i<l.length){ad:Addr}(ha:s.a=some ad){x:α}{o:Nat}{new:List Value}(hx: ∀cs,E.rep w Q l[i] cs→E.rep w Q x (cs.take o++new++cs.drop (o+new.length)))(ho:o+new.length≤E.n){K:World→Prop}
  (hK: ∀w',But ad.block w w'→w'.heap.size=w.heap.size→OwnS E T w' lo Q s (l.set i x)→K w'):stw w ((ad.add (i*E.n)).add o) new K:=by
 obtain⟨css,b5,hl,hr⟩:=h.row
 have a4:=h.rowLens hl hr
 have b1:=h.len
 rcases b5.2 with⟨hv,_⟩|⟨g,cap,a0,hv,hg,hh,hc,b8,b9,ht⟩
 ·simp[Sl.v]at hv; rw[hv.1]at ha; cases ha
 ·have b6:ad=⟨g,0,none⟩:=by simp[Sl.v]at hv; rw[hv.1]at ha; exact(gu ha).symm
  subst b6
  have a6:i<css.length:=oM
  have b4:(i+1)*E.n≤l.length*E.n:=fb _ hi
  have b0:s.len*E.n≤cap*E.n:=fb _ hc
  rw[gh]at b4
  rw[b1]at b0
  have b3:i*E.n+o+new.length≤a0.size:=oM
  rw[Zfq,Zkb]
  have a7:=a4 css[i] (cj a6)
  have hA:=Zpf (css:=css.take i) (n:=E.n) λc hc=>a4 c (iw hc)
  rw[cd,gw oM]at hA
  have e1:css.flatten=(css.take i).flatten++(css[i]++(css.drop (i+1)).flatten):=by
   conv=>lhs; rw[←dc i css,jb,dm a6,ge]
  have e2:(css.set i (css[i].take o++new++css[i].drop (o+new.length))).flatten=(css.take i).flatten++((css[i].take o++new++css[i].drop (o+new.length))++(css.drop (i+1)).flatten):=by
   rw[List.set_eq_take_append_cons_drop,if_pos a6,jb,ge]
  have a5:a0.toList=css.flatten++a0.toList.drop (s.len*E.n):=by
   rw[←ht,dc]
  have a8:(Zjb a0 (i*E.n+o) new).toList=(css.set i (css[i].take o++new++css[i].drop (o+new.length))).flatten++a0.toList.drop (s.len*E.n):=by
   have key: ∀(A B C D N:List Value),A.length=i*E.n→B.length=E.n→N.length=new.length→(A++(B++C)++D).take (i*E.n+o)++N++(A++(B++C)++D).drop (i*E.n+o+N.length)=A++(B.take o++N++B.drop (o+N.length)++C)++D:=by
    intro A B C D N hA hB hN
    rw[cc A,←hA,List.take_length_add_append]
    have t1:((B++C)++D).take o=B.take o:=by rw[cc,mg oM]
    have t2:(A++((B++C)++D)).drop (A.length+o+N.length)=B.drop (o+N.length)++(C++D):=by
     rw[kh,List.drop_length_add_append,cc,ji oM]
    rw[t1,t2]
    simp[cc]
   unfold Zjb
   generalize a0.toList.drop (s.len*E.n)=D at a5 ⊢
   rw[mn,a5,e1,e2]
   exact key (css.take i).flatten css[i] (css.drop (i+1)).flatten D new hA a7 rfl
  refine⟨a0,T,hh,rfl,by simpa using b3,?_⟩
  have hb:But g w (w.setRow g (Zjb a0 (i*E.n+o) new)):=⟨by simp[World.setRow],rfl,rfl,rfl,λc hc c1=>setRow_other w g c _ c1⟩
  have b2: ¬Q g:=h.apart _ ha
  refine hK _ hb (by simp[World.setRow]) ⟨⟨css.set i (css[i].take o++new++css[i].drop (o+new.length)),⟨?_,.inr ⟨g,cap,_,hv,hg,setRow_heap w g a0 _ T _ hh,hc,b8,?_,?_⟩⟩,by rw[fw,fw,hl],λj y hy=>?_⟩,by rw[fw]; exact h.len,λb b7=>iv (h.lt b b7) hb.1,h.apart⟩
  ·rw[Zpf (n:=E.n),fw,hl,b1]
   intro c hc
   rcases List.mem_or_eq_of_mem_set hc with hc|rfl
   ·exact a4 c hc
   ·simp only[br,cd,dh,a7]; omega
  ·have h8:=congrArg List.length a8
   have h9:=congrArg List.length a5
   rw[br]at h9 h8
   have e3:(css.set i (css[i].take o++new++css[i].drop (o+new.length))).flatten.length=css.flatten.length:=by
    rw[e1,e2]
    simp only[br,cd,dh,a7]; omega
   rw[e3,←h9]at h8
   rw[←gq (xs:=Zjb a0 (i*E.n+o) new),h8,gq]
   exact b9
  ·rw[a8]
   refine List.take_left' ?_
   rw[e2]
   have:=Zpf a4
   rw[e1]at this
   simp only[br,cd,dh,a7]at this ⊢
   rw[hl]at this
   rw[b1]; omega
  ·rw[List.getElem?_set]at hy
   split at hy
   ·rename_i a9
    subst a9
    simp only[cw]at hy
    subst hy
    obtain⟨cs,k1,k2⟩:=hr i _ (bq hi)
    rw[bq a6,cw]at k1
    subst k1
    exact⟨_,by rw[List.getElem?_set_self a6],E.keep (hx _ k2) (hb.keep b2)⟩
   ·rename_i a9
    obtain⟨cs,k1,k2⟩:=hr j y hy
    exact⟨cs,by rw[List.getElem?_set_ne a9]; exact k1,E.keep k2 (hb.keep b2)⟩
end
def v1:Ver:=⟨1,0,0⟩
theorem verEl{l:List Ver}(h:SlR verE w S s l)(hn:n<l.length): ∃ad,s.a=some ad∧n<s.len∧S ad.block∧ ∀w',Ext w w'→ldc w' (ad.add (n*3)) l[n].c:=by
 obtain⟨ad,cs,ha,hs,⟨rfl,_⟩,hc⟩:=h.el hn
 exact⟨ad,ha,by rw[h.len]; exact hn,hs,hc⟩
theorem Z0e(L:List Pack)(n:ByteArray)(l:List Span)(pins:List Pin):(Zr4 L n l pins).length=((Zjd n L).filter (Zdp l)).length:=by
 rw[←Zk1]; exact(Ze8 _).length_eq
theorem Z25(n:ByteArray):(Zjd n L).length≤L.length:=by
 unfold Zjd
 rw[cm]
 exact kj _ _
theorem Z3u(h:GoodL L)(n:ByteArray)(l:List Span)(pins:List Pin):(Zr4 L n l pins).length≤128:=by
 rw[Z0e]
 have h1:=kj (Zdp l) (Zjd n L)
 have h2:=Z25 (L:=L) n
 have h3:=h.le
 omega
section
variable {w:World} {lo:Nat} {sp:Addr} {K:K7} {q:Quest} {s:St}
end
theorem clonePin_se{R:Sl→World→Prop}(hS:Old S w)(hs:SlR pinE w S s l)(hR: ∀t w',Ext w w'→OwnS pinE 111 w' w.heap.size None' t l→R t w'):SE.Za0 s w R:=by
 unfold SE.Za0
 refine⟨λh=>?_,λh=>?_⟩
 ·have:l= []:=by
   rcases hs.2.2.2.2 with h0|⟨ad,h1,_⟩
   ·exact h0
   ·rw[h]at h1; cases h1
  subst this
  exact hR _ _ xR (OwnS.nil _ _)
 ·intro a w1 ha hw
  subst ha
  have x1:Ext w w1:=hw▸Ext.alloc _ _
  have own:OwnS pinE 111 w1 w.heap.size None' ⟨some ⟨w.heap.size,0,none⟩,0,0⟩ []:=hw▸OwnS.empty w
  refine own.appAll Zz7 x1.size (hs.ext x1) (hS.ext x1.size) (λad ha hb=>?_) (by simpa using hs.2.2.2.1) (by simpa using hs.max) λr w2 a0 bel _ _=> ?_
  ·simp only[cw]at ha
   subst ha
   have:=hS _ hb
   simp at this
  ·exact hR r w2 (x1.trans' bel) (OwnS.flat (λh=>h) a0)
theorem verB{a b c x y z:Int}:((a==x)&&((b==y)&&((c==z)&&true)))=decide ((⟨a,b,c⟩:Ver)=⟨x,y,z⟩):=by
 rw[ep]; simp
theorem Z0x{a b:List Pin}{T:Nat→Prop}(hs:SlR pinE w S s a)(ht:SlR pinE w T t b)(hR: ∀w',Ext w w'→R (decide (a=b)) w'):SE.Zbr s t w R:=by
 unfold SE.Zbr
 have h1:=hs.len
 have h2:=ht.len
 refine⟨λh=>?_,λh=>?_⟩
 ·have: ¬a=b:=λe=>by subst e; omega
  have h3:=hR w xR
  rw[decide_eq_false this]at h3; exact h3
 have a9:a.length=b.length:=by
  have:=fj.1 h
  omega
 refine loop1.up hs.max (λi w'=>Ext w w'∧a.take i=b.take i) ⟨Ext.refl _,rfl⟩ λi w1 b0 hi ⟨x1,hI⟩ hn=>⟨λa6=>bnd.drew λw2 x2=>?_,λa8=>?_⟩
 ·have k1:i<a.length:=oM
  have k2:i<b.length:=oM
  obtain⟨ad,ha,_,_,hc⟩:=Zlh hs k1
  obtain⟨a0,a4,_,_,a5⟩:=Zlh ht k2
  refine⟨ad,⟨ha,oM,a6⟩,_,_,_,_,hc _ (x1.trans x2),a0,⟨a4,oM,oM⟩,_,_,_,_,a5 _ (x1.trans x2),?_⟩
  have e:(!((bEq a[i].name b[i].name)&&(((a[i].v.ma==b[i].v.ma)&&((a[i].v.mi==b[i].v.mi)&&((a[i].v.pa==b[i].v.pa)&&true)))&&true)))= !decide (a[i]=b[i]):=by
   congr 1
   rw[ep]
   generalize a[i]=x; generalize b[i]=y
   obtain⟨n,⟨p,q,r⟩⟩:=x
   obtain⟨n',⟨p',q',r'⟩⟩:=y
   simp[Zap]
  rw[e]
  refine⟨λh=>?_,λh=>?_⟩
  ·have a7: ¬a=b:=λe=>by subst e; simp at h
   have h3:=hR w2 (x1.trans x2)
   rw[decide_eq_false a7]at h3; exact h3
  ·refine hn k1 _ ⟨x1.trans x2,?_⟩
   have he:a[i]=b[i]:=by simpa using h
   rw[bu k1,bu k2,hI,he]
 ·have:i=a.length:=oM
  subst this
  rw[cu,dg oM]at hI
  have h3:=hR w1 x1
  rw[decide_eq_true hI]at h3; exact h3
def Oth(s:Sl)(w w':World):Prop:=w.heap.size≤w'.heap.size∧ ∀b,b<w.heap.size→(∀ad,s.a=some ad→b≠ad.block)→w'.heap[b]? =w.heap[b]?
section
variable {α:Type} {E:Enc α} {T:TypeId} {w w':World} {lo:Nat} {Q:Nat→Prop} {s x:Sl} {l:List α}
theorem OwnS.oth(h:OwnS E T w lo Q x l)(ho:Oth s w w')(hA:Apart x s)(hQ: ∀ad,s.a=some ad→ ¬Q ad.block):OwnS E T w' lo Q x l:=
 h.keep ho.1 λb a4 hb=>ho.2 b a4 λad ha e=>by
  rcases hb with hb|⟨a5,a0,rfl⟩
  ·exact hQ ad ha (e▸hb)
  ·exact hA _ _ a0 ha e
end
section
variable {w:World} {lo g:Nat} {stk nds ahd ws:Sl} {Q:Nat→Prop} {s:St} {P:Program}
end
theorem Zuu{ns a:List Node}{k:Nat}(hk:k<ns.length):(ns++a).set k {ns[k]with edges:=es}=Zdt ns k es++a:=by
 rw[List.set_append_left _ _ hk]
 congr 1
 unfold Zdt
 apply List.ext_getElem?
 intro i
 rw[List.getElem?_modify,List.getElem?_set]
 by_cases h:k=i
 ·subst h
  rw[if_pos rfl,if_pos hk,bq hk]; simp
 ·rw[if_neg h]
  cases ns[i]? with
  |none=>rfl
  |some n=>simp[h]
theorem Zik{q:Quest}{r:List Pin}{c:List Pin}(h:Ze3 q.L q.m.over env p=some c):targets q env (p::r)=(targets q env r).map λxs=>⟨p.name,p.v,c,[]⟩::xs:=by
 rw[targets,h]
theorem Zkx{q:Quest}{r:List Pin}(h:Ze3 q.L q.m.over env p=none):targets q env (p::r)=none:=by
 rw[targets,h]
theorem Z5c{x:Node}(h:ks.findIdx? (λy=>decide (y=x.key))=some i):putK N ks (x::xs)=(putK N ks xs).map λr=>(r.1,⟨x.name,(i:Int)⟩::r.2):=by
 rw[putK,h]
theorem Z11{x:Node}(h:ks.findIdx? (λy=>decide (y=x.key))=none)(hN:ks.length=N):putK N ks (x::xs)=none:=by
 rw[putK,h]
 dsimp only
 rw[if_pos hN]
theorem Z5d{x:Node}(h:ks.findIdx? (λy=>decide (y=x.key))=none)(hN: ¬ks.length=N):putK N ks (x::xs)=(putK N (ks++ [x.key]) xs).map λr=>(x::r.1,⟨x.name,(ks.length:Int)⟩::r.2):=by
 rw[putK,h]
 dsimp only
 rw[if_neg hN]
section
variable {w:World} {lo:Nat} {sp:Addr} {K:K7} {q:Quest} {s:St}
end
end Go.Hal
/-
 DERIVED:THE SHELF's CONTRACTS AT THIS DUMP,IN PLAIN WORDS (tools/lay-plain.mjs out of 'YtfilbiaaeecoaaaGreatDoorLay4.lean',which tools/lay-shelf.mjs wrote):THE SAME DECLARATIONS UNDER THE SAME NAMES:'import','namespace','open','def','theorem' AND NOTHING ELSE:no command of the shelf's:FOR A HAND-IN. Each laying:the table of numbers ('.._ren') and one theorem,a field a fact of the dump's own or the kernel's comparison; each contract:ONE APPLICATION.
-/
namespace Go.Proofs
def Tryz.laySd_ren:Go.Shelf.Ren:=⟨λ|6=>205|15=>50|14=>259|28=>104|29=>105|20=>300|21=>301|22=>302|23=>303|24=>304|25=>305|26=>306|27=>307|46=>338|47=>161|48=>162|49=>339|50=>340|57=>357|n=>n,λ|22=>51|24=>202|25=>285|3=>3|39=>125|0=>0|53=>187|55=>189|4=>4|46=>180|45=>179|50=>184|5=>5|9=>9|66=>243|70=>247|76=>300|77=>301|n=>n,λ|n=>n⟩
theorem Tryz.laySd:Go.Proofs.SlLaysF0.n6 prog Tryz.laySd_ren:={
 mixed:=kR
 f6:=⟨Tryz.f205.name,by decide,func205.trans kS⟩
 f14:=⟨Tryz.f259.name,by decide,func259.trans kS⟩
 f15:=func50.trans kS
 f20:=⟨Tryz.f300.name,by decide,func300.trans kS⟩
 f21:=⟨Tryz.f301.name,by decide,func301.trans kS⟩
 f22:=⟨Tryz.f302.name,by decide,func302.trans kS⟩
 f23:=⟨Tryz.f303.name,by decide,func303.trans kS⟩
 f24:=⟨Tryz.f304.name,by decide,func304.trans kS⟩
 f25:=⟨Tryz.f305.name,by decide,func305.trans kS⟩
 f26:=⟨Tryz.f306.name,by decide,func306.trans kS⟩
 f27:=⟨Tryz.f307.name,by decide,func307.trans kS⟩
 f28:=func104.trans kS
 f29:=func105.trans kS
 f46:=⟨Tryz.f338.name,by decide,func338.trans kS⟩
 f47:=func161.trans kS
 f48:=func162.trans kS
 f49:=⟨Tryz.f339.name,by decide,func339.trans kS⟩
 f50:=⟨Tryz.f340.name,by decide,func340.trans kS⟩
 f57:=⟨Tryz.f357.name,by decide,func357.trans kS⟩
 t0:=underlying0
 a0:=Tryz.isAgg0
 z0:=Tryz.sizeOf0
 v0:=Tryz.zeroValue0
 t3:=underlying3
 a3:=Tryz.isAgg3
 z3:=Tryz.sizeOf3
 v3:=Tryz.zeroValue3
 t4:=underlying4
 a4:=Tryz.isAgg4
 z4:=Tryz.sizeOf4
 v4:=Tryz.zeroValue4
 t5:=underlying5
 a5:=Tryz.isAgg5
 z5:=Tryz.sizeOf5
 v5:=Tryz.zeroValue5
 t9:=underlying9
 a9:=Tryz.isAgg9
 z9:=Tryz.sizeOf9
 v9:=Tryz.zeroValue9
 t22:=underlying51
 a22:=Tryz.isAgg51
 z22:=Tryz.sizeOf51
 v22:=Tryz.zeroValue51
 t25:=underlying285
 a25:=Tryz.isAgg285
 z25:=Tryz.sizeOf285
 v25:=Tryz.zeroValue285
 t39:=underlying125
 a39:=Tryz.isAgg125
 z39:=Tryz.sizeOf125
 v39:=Tryz.zeroValue125
 t45:=underlying179
 a45:=Tryz.isAgg179
 z45:=Tryz.sizeOf179
 v45:=Tryz.zeroValue179
 t46:=underlying180
 a46:=Tryz.isAgg180
 z46:=Tryz.sizeOf180
 v46:=Tryz.zeroValue180
 t50:=underlying184
 a50:=Tryz.isAgg184
 z50:=Tryz.sizeOf184
 v50:=Tryz.zeroValue184
 t53:=underlying187
 a53:=Tryz.isAgg187
 z53:=Tryz.sizeOf187
 v53:=Tryz.zeroValue187
 t55:=underlying189
 a55:=Tryz.isAgg189
 z55:=Tryz.sizeOf189
 v55:=Tryz.zeroValue189
 t66:=underlying243
 a66:=Tryz.isAgg243
 z66:=Tryz.sizeOf243
 v66:=Tryz.zeroValue243
 t70:=underlying247
 a70:=Tryz.isAgg247
 z70:=Tryz.sizeOf247
 v70:=Tryz.zeroValue247
 t76:=underlying300
 a76:=Tryz.isAgg300
 z76:=Tryz.sizeOf300
 v76:=Tryz.zeroValue300
 t77:=underlying301
 a77:=Tryz.isAgg301
 z77:=Tryz.sizeOf301
 v77:=Tryz.zeroValue301}
end Go.Proofs
namespace Go.Hal
instance:Inhabited Sl:=⟨Sl.nil⟩
theorem Z73{a b:ByteArray×Sl}{R:Int→World→Prop}(hR: ∀w',Gr w w'→R (cmpS a.1 b.1) w'):SE.Zct a.1 a.2 b.1 b.2 w R:=by
 unfold SE.Zct
 refine newS.gr λ_ w1 x1 hb=>newS.gr λ_ w2 x2 a0=>⟨_,Gr.at0 hb x2 rfl,_,Gr.at0 a0 (Gr.refl _) rfl,Zjw ⟨_,rfl,hR _ (x1.trans x2)⟩⟩
theorem Zqz:Zfj prog 212:=enters_of func212 kR rfl
theorem may1_se{a b:ByteArray}{R:Int→World→Prop}(hR: ∀w',Ext w w'→R (cmpS a b) w'):SE.Zct a s b t w R:=by
 unfold SE.Zct
 refine newS.intro λ_ w1 x1 hb _ _=>newS.intro λ_ w2 x2 a0 _ _=>⟨_,hb.at0 x2 rfl,_,a0.at0 xR rfl,Zjw ⟨_,rfl,hR _ (x1.trans x2)⟩⟩
theorem Zuw{l:List Dep}(hi:i<l.length)(h0:0<i):Zev (l.drop (i - 1))=(!decide (cmpS l[i].name (l[i - 1]'oM).name<0)&&Zev (l.drop i)):=by
 have h1:l.drop (i - 1)=l[i - 1]'oM::l.drop i:=by
  rw[dm (by omega:i - 1<l.length)]
  congr 2; omega
 rw[h1,dm hi,Zev]
theorem Zsv{l:List Dep}: ∀{i:Nat},Zev (l.drop i)=false→Zev l=false:=by
 intro i
 induction i generalizing l with
 |zero=>intro h; simpa using h
 |succ i ih=>
  intro h
  cases l with
  |nil=>simp at h; exact h
  |cons x r=>
   rw[List.drop_succ_cons]at h
   have:=ih h
   cases r with
   |nil=>cases this
   |cons y r=>rw[Zev,this,Bool.and_false]
theorem Zv7{l:List Dep}(hs:SlR depE w S s l)(hR: ∀w',Ext w w'→R (Zev l) w'):SE.Zah s (.func (.func 212) #[] #[]) w R:=by
 unfold SE.Zah
 have hl:=hs.len
 have hm:=hs.max
 have b3:=Zd
 refine loop1.ghost (λn i w'=>Ext w w'∧((l= []∧i= -1)∨(i=(n:Int)∧n<l.length∧Zev (l.drop n)=true))) (l.length - 1) ⟨Ext.refl _,?_⟩ λn i w1 b5 ⟨x1,hJ⟩ hn=>⟨λb2=>?_,λb1=>?_⟩
 ·rw[Zc oM oM]
  by_cases h0:l= []
  ·left; subst h0; rw[hl]; exact⟨rfl,rfl⟩
  ·right
   have:0<l.length:=ig.2 h0
   refine⟨oM,oM,?_⟩
   rw[dm oM,gd oM]; rfl
 ·rcases hJ with⟨_,rfl⟩|⟨rfl,a4,hI⟩
  ·omega
  have h0:0<n:=oM
  have ew:Za ((n:Int) - 1)=((n - 1:Nat):Int):=by rw[Zc oM oM]; omega
  rw[ew]
  obtain⟨ad,t,ha,_,b4,_,hc⟩:=Zhw hs a4
  obtain⟨a7,t2,a8,_,b0,_,a9⟩:=Zhw hs (n:=n - 1) oM
  have a0:=Zuw a4 h0
  refine bnd.drew λw2 x2=>⟨ad,⟨ha,oM,oM⟩,_,t,hc _ (x1.trans x2),a7,⟨a8,oM,oM⟩,_,t2,a9 _ (x1.trans x2),_,_,rfl,Zqz,SE.Zct.go (may1_se λw3 x3=>⟨_,rfl,λa5=>?_,λa6=>?_⟩)⟩
  ·rw[decide_eq_true a5,Bool.not_true,Bool.false_and]at a0
   have:=hR w3 ((x1.trans x2).trans x3)
   rw[Zsv a0]at this; exact this
  ·rw[decide_eq_false a6,hI]at a0
   exact hn (n - 1) _ _ oM ⟨(x1.trans x2).trans x3,.inr ⟨rfl,oM,a0⟩⟩
 ·have hs:Zev l=true:=by
   rcases hJ with⟨rfl,_⟩|⟨rfl,a4,hI⟩
   ·rfl
   ·have:n=0:=oM
    subst this; simpa using hI
  have:=hR w1 x1
  rw[hs]at this; exact this
theorem Z2l{l:List Dep}{K:Value→World→Prop}(h:OwnS depE 202 w lo S s l)(a5:lo≤w.heap.size)(a9:l.length≤1000)
  (hK: ∀w' (z:List (ByteArray×Sl)),Below lo w w'→(z.map (·.1)).Perm (l.map (·.name))→z.Pairwise (λx y=>cmpS x.1 y.1≤0)→(z= []∨ ∃g tail,s.a=some ⟨g,0,none⟩∧RowB (λx:ByteArray×Sl=>[.string x.1,Sl.v x.2]) w' g z tail)→K (.tuple #[]) w'):
  callS prog 205 [Sl.v s,.func (.func 212) #[] #[]] w K:=by
 have a0:=h.len
 rcases h.rowG (λx:ByteArray×Sl=>[.string x.1,Sl.v x.2]) (λy x=>y.1=x.name) (λx cs (hx:depE.rep w S x cs)=>by obtain⟨_,t,a4,_⟩:=hx; exact⟨(x.name,t),a4,rfl⟩)with⟨rfl,rfl⟩|⟨g,z,tail,ha,hg,hz,hr,hrow,hc,hcm⟩
 ·refine(AnyF.slices_SortFunc_none Tryz.laySd none 0 _ w).mono λe w' ⟨he,hw⟩=>⟨_,he,?_⟩
  subst hw
  exact hK _ [] (Below.refl _ _) (fx _) List.Pairwise.nil (.inl rfl)
 ·obtain⟨a,n,c⟩:=s
  simp only at ha a0
  subst ha
  have a8:(z.map Prod.fst).length=l.length:=by rw[←hz]; simp
  have a6:(z.map Prod.fst).map (·.1)=l.map (·.name):=by
   rw[←hz,gc,gc]
   exact jo λp hp=>hr p hp
  subst a0
  rw[←a8]
  have hO:=Zhf (α:=ByteArray×Sl) (·.1)
  refine Zgo Tryz.laySd (k:=2) (λw=>kR) (λw=>kR) (f:=λx:ByteArray×Sl=>[.string x.1,Sl.v x.2]) (λ_=>rfl) (λx v hv=>by simp[Sl.v]at hv; rcases hv with rfl|rfl<;>rfl) (λa b=>cmpS a.1 b.1) (Zjx hO.flip hO.trans) 212 #[] Zqz (λw0 x y hb _=> ?_) hrow oM rfl λl' w' hp hs b a7=>?_
  ·have h:=SE.Zct.go (k:=λv w'=>v= .int .i64 (cmpS x.1 y.1)∧Gr w0 w') (Z73 (a:=x) (b:=y) (w:=w0) λw' h=>⟨rfl,h⟩)
   exact Calls.mono h λe w' ⟨v,he,hv,hg⟩=>⟨by rw[he,hv],hg⟩
  ·refine hK w' l' (b.below a5 hg) ?_ (hs.imp λ{a b} h=>by have:=hO.flip b a; have:=hO.flip a b; omega) (.inr ⟨g,tail,rfl,a7⟩)
   rw[←a6]
   exact hp.map _
theorem okB{d:Dep}{t2:Bool}{n:Int}(h2:Zn d.name=true→t2=Zaa d.range)(hn:(n==0)=d.range.isEmpty):(((!Zn d.name)||(!t2))||(n==0))= !okD d:=by
 unfold okD
 rw[hn]
 cases h1:Zn d.name
 ·simp
 ·rw[h2 h1]
  cases Zaa d.range<;>cases d.range.isEmpty<;>rfl
theorem Z1o{sa sb sc:Sl}{la lb lc:List Dep}(hS:Old S w)(ha:SlR depE w S sa la)(hb:SlR depE w S sb lb)(hc:SlR depE w S sc lc)(hR: ∀w',Ext w w'→R (may3 la lb lc) w'):SE.Zfu sa sb sc w R:=by
 unfold SE.Zfu
 have h7:=Zd
 have e6:depE.bytes=40:=rfl
 refine newS.intro λa1 w1 x1 b2 g7 _=> ?_
 have h8:=x1.size
 have a0: ∀{l:List Dep},wk l=true→l.length≤16:=λh=>by
  unfold wk at h
  simp only[bx,decide_eq_true_eq]at h
  exact h.1.1
 refine loop2.up (N:=3) dC (λall i w'=>Ext w w'∧Ext w1 w'∧ ∃(S':Nat→Prop) (pre:List Dep),OwnS depE 202 w' w1.heap.size S' all pre∧(i=0→pre= [])∧(i=1→pre=la)∧(i=2→pre=la++lb)∧(i=3→pre=la++lb++lc)∧(0<i→wk la=true)∧(1<i→wk lb=true)∧(2<i→wk lc=true))
  ⟨x1,Ext.refl _,None',[],(OwnS.nil _ _),λ_=>rfl,λh=>by omega,λh=>by omega,λh=>by omega,λh=>by omega,λh=>by omega,λh=>by omega⟩ λall i w2 g6 hi ⟨x2,a6,S',pre,own,p0,p1,p2,p3,k0,k1,k2⟩ hn=>⟨λd5=>?_,λf1=>?_⟩
 ·have d6:i<3:=by
   have:((Sl.mk (some a1) 3 3).len:Int)=3:=rfl
   omega
  have c7:=Z6t (i:=i) (b2.ext a6)
  have c4:i=0∨i=1∨i=2:=oM
  obtain⟨t,l,f6,hs,q0,q1,q2,d1,h3⟩: ∃t l,ldc w2 (a1.add (i*1)) [Sl.v t]∧SlR depE w S t l∧(i=0→l=la)∧(i=1→l=lb)∧(i=2→l=lc)∧(wk l=false→may3 la lb lc=false)∧pre.length≤32:=by
   rcases c4 with rfl|rfl|rfl
   ·exact⟨sa,la,c7.1 rfl,ha,λ_=>rfl,λh=>by omega,λh=>by omega,λh=>Znj (.inl h),by rw[p0 rfl]; simp⟩
   ·exact⟨sb,lb,c7.2.1 rfl,hb,λh=>by omega,λ_=>rfl,λh=>by omega,λh=>Znj (.inr (.inl h)),by rw[p1 rfl]; have:=a0 (k0 oM); omega⟩
   ·exact⟨sc,lc,c7.2.2 rfl,hc,λh=>by omega,λh=>by omega,λ_=>rfl,λh=>Znj (.inr (.inr h)),by rw[p2 rfl,br]; have:=a0 (k0 oM); have:=a0 (k1 oM); omega⟩
  have h9:=hs.len
  refine⟨a1,⟨rfl,oM,d5⟩,t,f6,bound ?_⟩
  refine gCall.intro (Zev l) (λ_ q hq=>SE.Zah.go (Zv7 (hs.ext x2) λw' hx=>⟨_,rfl,hq _ hx⟩)) λt2 w3 x3 b7=>?_
  have a8:=x2.trans x3
  have a4: ∀w',Ext w w'→wk l=false→R false w':=λw' hx h=>by
   have:=hR w' hx
   rw[d1 h]at this; exact this
  refine⟨λh=>a4 w3 a8 ?_,λh=>?_⟩
  ·unfold wk
   cases b1:decide ((16:Int)<(t.len:Int))
   ·rw[b1]at b7 h
    rw[b7 rfl]at h
    have:Zev l=false:=by simpa using h
    rw[this]; simp
   ·have: ¬l.length≤16:=by simp at b1; omega
    simp[this]
  ·have b1:l.length≤16:=by simp at h; omega
   have hd:decide ((16:Int)<(t.len:Int))=false:=by simp; omega
   rw[hd]at b7 h
   rw[b7 rfl]at h
   have g2:Zev l=true:=by simpa using h
   refine loop1.up hs.max (λj w'=>Ext w3 w'∧(l.take j).all okD=true) ⟨Ext.refl _,rfl⟩ λj w4 h4 hj ⟨x4,hI⟩ f7=>⟨λd7=>?_,λg9=>?_⟩
   ·have b5:j<l.length:=oM
    obtain⟨ad,tr,c1,_,f9,hr,f0⟩:=Zhw hs b5
    have a9:=a8.trans x4
    refine⟨ad,⟨c1,oM,d7⟩,_,tr,f0 _ a9,newS.intro λa5 w5 x5 e7 g8 _=>stw0.intro e7 sI λw6 b6 _ c2=>⟨_,c2.at0 xR rfl,?_⟩⟩
    have e4:Ext w4 w6:=b6.ext x5 oM
    have e3:=a9.trans e4
    refine SE.Zep.go (scanName_se f9 λw7 x7=>⟨_,rfl,bound ⟨tr,λ_=>c2.at1 (k:=1) (r:=[]) x7 rfl,?_⟩⟩)
    refine gCall.intro (Zaa l[j].range) (λ_ q hq=>SE.Zij.go (spanMay_se (hr.ext (e3.trans x7)) λw' hx=>⟨_,rfl,hq _ hx⟩)) λt3 w8 x8 g4=>bound ⟨tr,λ_=>c2.at1 (k:=1) (r:=[]) (x7.trans x8) rfl,?_⟩
    have e0:((tr.len:Int)==0)=l[j].range.isEmpty:=by
     rw[hr.len]
     cases l[j].range<;>simp
     omega
    have e1:=okB (d:=l[j]) (t2:=t3) (n:=(tr.len:Int)) (λh1=>g4 (by rw[h1]; rfl)) e0
    rw[e1]
    have g3:(l.take (j+1)).all okD=okD l[j]:=by rw[bu b5,mm,hI]; simp
    refine⟨λhh=>a4 w8 ((e3.trans x7).trans x8) ?_,λhh=>f7 b5 _ ⟨(x4.trans e4).trans (x7.trans x8),by rw[g3]; simpa using hh⟩⟩
    have c3:okD l[j]=false:=by simpa using hh
    unfold wk
    have:l.all okD=false:=by
     rw[List.all_eq_false]
     exact⟨l[j],cj b5,by rw[c3]; decide⟩
    rw[this,Bool.and_false]
   ·have c6:j=l.length:=oM
    rw[c6,cu]at hI
    have c9:wk l=true:=by
     unfold wk
     rw[g2,hI,decide_eq_true b1]; rfl
    have b0:=x3.trans x4
    have a9:=x2.trans b0
    have g1:=a9.size
    refine(own.ext b0).appAll Z3m (a6.trans b0).size (hs.ext a9) (hS.ext g1) (λad c1 hb=>by have:=(own.block c1).1; have:=hS _ hb; omega) (by rw[e6]; unfold room; omega) oM λr' w9 e2 b8 _ _=> ?_
    refine hn d6 _ _ ⟨x1.trans ((a6.trans b0).trans' b8),(a6.trans b0).trans' b8,_,pre++l,e2,λh=>by omega,λh=>?_,λh=>?_,λh=>?_,λ_=> ?_,λh=>?_,λh=>?_⟩
    ·have:i=0:=oM
     rw[p0 this,q0 this]; rfl
    ·have:i=1:=oM
     rw[p1 this,q1 this]
    ·have:i=2:=oM
     rw[p2 this,q2 this]
    ·rcases fo i with h0|h0
     ·rw[←q0 h0]; exact c9
     ·exact k0 h0
    ·rcases lw 1 i with h0|h0
     ·exact k1 h0
     ·have:i=1:=oM
      rw[←q1 this]; exact c9
    ·have:i=2:=oM
     rw[←q2 this]; exact c9
 ·have d3:i=3:=by
   have:((Sl.mk (some a1) 3 3).len:Int)=3:=rfl
   omega
  rw[Z87 (k0 oM) (k1 oM) (k2 oM),←p3 d3]at hR
  have g0:pre.length≤1000:=by
   rw[p3 d3,br,br]
   have:=a0 (k0 oM); have:=a0 (k1 oM); have:=a0 (k2 oM); omega
  clear p0 p1 p2 p3 k0 k1 k2 hn
  refine Z2l own a6.size g0 λw3 z b3 d9 g5 hz=>⟨rfl,?_⟩
  have a8:Ext w w3:=x1.trans (a6.trans' b3)
  have h5:=own.len
  have i0:z.length=pre.length:=by have:=d9.length_eq; simpa using this
  have b9: ∀w',Ext w w'→ ∀b,(b=true↔(z.map (·.1)).Nodup)→R b w':=λw' hx b hb=>by
   have h1:=hR w' hx
   have:b=decide (pre.map (·.name)).Nodup:=by rw[ep,hb,decide_eq_true_eq]; exact d9.nodup_iff
   rw[this]; exact h1
  have a7: ∀i (hi:i<z.length),∃ad,all.a=some ad∧ ∀w',Ext w3 w'→ldc w' (ad.add (i*2)) [.string z[i].1]:=λi hi=>by
   rcases hz with rfl|⟨g,tail,c5,d8⟩
   ·exact absurd hi (Nat.not_lt_zero _)
   ·exact⟨_,c5,λw' hx=>(RowB.ld (k:=2) (λ_=>rfl) (d8.ext hx) hi).pre rfl⟩
  have c8: ∀{i j:Nat} (hi:i<z.length) (hj:j<z.length),i<j→cmpS z[i].1 z[j].1≤0:=λhi hj f2=>cr.1 g5 _ _ hi hj f2
  refine loop1.ghost (λm i w'=>∃k:Nat,i=(k:Int)∧1≤k∧m=z.length - k∧Ext w3 w'∧(z.take k).Pairwise (λx y=>bLt x.1 y.1=true)) (z.length - 1) ⟨1,rfl,df _,rfl,Ext.refl _,?_⟩ λm i w4 g6 ⟨k,d4,h6,hm,x4,hP⟩ hn=>⟨λd5=>?_,λf1=>?_⟩
  ·cases z with
   |nil=>exact List.Pairwise.nil
   |cons x r=>simp
  ·subst d4
   have b4:k<z.length:=oM
   have ew:Za ((k:Int) - 1)=((k - 1:Nat):Int):=by rw[Zc oM oM]; omega
   rw[ew]
   obtain⟨ad,c5,e8⟩:=a7 k b4
   obtain⟨e5,d2,e9⟩:=a7 (k - 1) oM
   refine bnd.drew λw5 x5=>⟨ad,⟨c5,oM,oM⟩,_,e8 _ (x4.trans x5),e5,⟨d2,oM,oM⟩,_,e9 _ (x4.trans x5),λhe=>?_,λf8=>?_⟩
   ·refine b9 _ (a8.trans (x4.trans x5)) false ⟨nO,λh=>?_⟩
    rw[fe,fy]at h
    exact absurd he.symm (cr.1 h (k - 1) k oM b4 oM)
   ·have d0:=c8 (i:=k - 1) (j:=k) oM b4 oM
    have b2:bLt (z[k - 1]'oM).1 z[k].1=true:=Zs4 d0 λe=>f8 e.symm
    refine hn (z.length - (k+1)) _ _ oM ⟨k+1,by rw[Zc oM oM]; omega,oM,rfl,x4.trans x5,?_⟩
    rw[bu b4,eu]
    refine⟨hP,im _ _,λx hx y hy=>?_⟩
    simp only[ci]at hy
    subst hy
    obtain⟨j,hj,rfl⟩:=cy.1 hx
    rw[cd]at hj
    rw[fm]
    by_cases f4:j=k - 1
    ·subst f4; exact b2
    ·have c6:j<(z.take k).length:=by rw[cd]; exact hj
     have f5:k - 1<(z.take k).length:=by rw[cd]; omega
     have h2:=cr.1 hP j (k - 1) c6 f5 oM
     rw[fm,fm]at h2
     exact Zkd h2 b2
  ·subst d4
   refine b9 _ (a8.trans x4) true ⟨λ_=> ?_,λ_=>rfl⟩
   rw[dg oM]at hP
   rw[fe,fy]
   exact hP.imp λh=>Znu h
def BoxT(T:TypeId)(w:World)(a:Addr)(cs:List Value):Prop:=a.off=0∧a.spot=none∧w.heap[a.block]? =some (.cells cs.toArray T (0,0))
theorem BoxT.box{T:TypeId}{a:Addr}(h:BoxT T w a cs):BoxAt w a cs:=⟨T,h⟩
theorem BoxT.ext{T:TypeId}{w':World}{a:Addr}(h:BoxT T w a cs)(hx:Ext w w'):BoxT T w' a cs:=⟨h.1,h.2.1,(hx.block (lt_of_block h.2.2)).trans h.2.2⟩
theorem newS.introT{t:TypeId}{k:Addr→World→Prop}(h: ∀a w',Ext w w'→BoxT t w' a cs→a.block=w.heap.size→w'.heap.size=w.heap.size+1→k a w'):newS w cs t k:=λa w' ha hw=>by
 subst ha hw
 exact h _ _ (Ext.alloc _ _) ⟨rfl,rfl,heap_alloc_new w _⟩ rfl sI
theorem stw0.introT{T:TypeId}{a:Addr}{old:List Value}{k:World→Prop}(hb:BoxT T w a old)(hl:cs.length=old.length)(h: ∀w',But a.block w w'→w'.heap.size=w.heap.size→BoxT T w' a cs→k w'):stw w a cs k:=by
 obtain⟨ho,hs,hh⟩:=hb
 obtain⟨b,of,sp⟩:=a
 simp only at ho hs hh
 subst ho hs
 refine⟨_,T,hh,rfl,by simp[hl],h _ ⟨?_,rfl,rfl,rfl,λc hc a0=>setRow_other w b c _ a0⟩ ?_ ⟨rfl,rfl,?_⟩⟩
 ·simp[World.setRow]
 ·simp[World.setRow]
 ·rw[setRow_heap w b old.toArray _ T _ hh]
  have:old.drop cs.length= []:=by rw[hl]; exact ix
  simp[Zjb,this]
theorem Bld.lt{b:Nat}{l:List UInt8}(h:Bld b l w):b<w.heap.size:=by
 rcases h with⟨_,_,h,_⟩|⟨_,_,h,_⟩<;>exact lt_of_block h
theorem Zo5{b:Nat}{l m:List UInt8}{k:Value→World→Prop}(hB:Bld b l w)(h0:w0.heap.size=b)(x0:Ext w0 w)(hl:l.length+m.length≤140737488355328)
  (hk: ∀w' n,Ext w0 w'→Bld b (l++m) w'→(∀T a cs,T≠5→a.block≠b→BoxT T w a cs→BoxT T w' a cs)→k (.tuple #[.int .i64 n,.nilIface]) w'):callS prog 53 [.pointer (some ⟨b,0,none⟩),.string (B m)] w k:=by
 have h:=Any.Builder_WriteString_k {Tryz.layJo with} bldX b b (Lib.byteCells l) (B m) w hB (by rw[Lib.byteCells_length,Zk]; exact hl) (by have:=x0.size; omega)
 refine h.mono λe w' ⟨he,hb,a4,a5⟩=>⟨_,he,hk w' _ (x0.trans' (by rw[h0]; exact a4)) (.inr ?_) λT a cs hT ha a0=>⟨a0.1,a0.2.1,a5 _ _ a0.2.2 (λe=>ha (gu e)) λc fz e=>?_⟩⟩
 ·have e:Lib.byteCells l++Lib.strCells (B m)=Lib.byteCells (l++m):=by rw[Lib.strCells_eq,Zlz]; simp[Lib.byteCells]
  rw[e]at hb; exact hb
 ·simp only[Obj.cells.injEq]at e
  exact hT e.2.1
def Z1w:TypeId:=273
theorem Z42{a:Addr}{R:Sl→World→Prop}(hR: ∀a' w',Ext w w'→BoxT Z1w w' a' [.string (B wNeeds),.pointer (some a),.string (B wDev),.pointer (some (a.add 1)),.string (B wLikes),.pointer (some (a.add 2)),.string (B wPins),.pointer (some (a.add 3))]→w.heap.size≤a'.block→R ⟨some a',4,4⟩ w'):SE.Zfm (some a) w R:=by
 unfold SE.Zfm
 exact bnd.drew λw1 x1=>⟨a,rfl,a,rfl,a,rfl,a,rfl,newS.introT λa' w2 x2 hb a0 _=>hR a' w2 (x1.trans x2) hb (by have:=x1.size; omega)⟩
def mt(m:Mani)(i:Nat):List UInt8:=match i with
 |0=>pjText
 |1=>pjText++Zbh wNeeds m.deps
 |2=>(pjText++Zbh wNeeds m.deps)++Zbh wDev m.dev
 |3=>((pjText++Zbh wNeeds m.deps)++Zbh wDev m.dev)++Zbh wLikes m.opt
 |_=>Zk7 m
theorem Zpm{e v:Sl}{R:ByteArray→World→Prop}(ht:Tab w)(hm:Zgy m=true)(hd:SlR depE w S d m.deps)(he:SlR depE w S e m.dev)(ho:SlR depE w S o m.opt)(hv:SlR depE w S v m.over)
  (hR: ∀w',Ext w w'→R (B (Zk7 m)) w'):SE.Zfg d e o v w R:=by
 unfold SE.Zfg
 unfold Zgy at hm
 simp only[bx]at hm
 obtain⟨⟨⟨h1,h2⟩,h3⟩,h4⟩:=hm
 have n1:=Zr h1; have n2:=Zr h2; have n3:=Zr h3; have n4:=Zr h4
 have l1:=Zb9 (word:=wNeeds) dC λd hd=>(n1.2 d hd).1
 have l2:=Zb9 (word:=wDev) dC λd hd=>(n2.2 d hd).1
 have l3:=Zb9 (word:=wLikes) dC λd hd=>(n3.2 d hd).1
 refine newS.intro λa w1 x1 hb _ _=> ?_
 intro a1 w2 d2 c7
 subst d2
 have x2:Ext w1 w2:=c7▸Ext.alloc _ _
 have d1:Bld w1.heap.size [] w2:=c7▸Zr2 w1
 have t1:Tab w1:=ht.ext x1
 have e5:(ByteArray.mk #[112,114,111,106,101,99,116,10])=B pjText:=rfl
 rw[e5]
 refine Zhl (m:=pjText) d1 rfl x2 dC λw3 g4 x3 b9=>⟨_,_,rfl,?_⟩
 refine SE.Zfm.go (Z42 (a:=a) λap w4 x4 d6 f2=>⟨_,rfl,?_⟩)
 have f5:=b9.lt
 have b1:Z1w≠5:=by decide
 have e9:=x3.trans x4
 have a5:pjText.length=8:=rfl
 refine loop1.up (N:=4) dC (λi w'=>Ext w1 w'∧BoxT Z1w w' ap [.string (B wNeeds),.pointer (some a),.string (B wDev),.pointer (some (a.add 1)),.string (B wLikes),.pointer (some (a.add 2)),.string (B wPins),.pointer (some (a.add 3))]∧Bld w1.heap.size (mt m i) w') ⟨e9,d6,by simpa[mt]using b9.ext x4⟩ λi w5 g5 hi ⟨x5,a4,c1⟩ hn=>⟨λe2=>?_,λf8=>?_⟩
 ·have c4:i<4:=by
   have:((Sl.mk (some ap) 4 4).len:Int)=4:=rfl
   omega
  obtain⟨wd,k,t,l,hp,e1,hs,d8,e6,e3,g0⟩: ∃(wd:List UInt8) (k:Nat) (t:Sl) (l:List Dep),ldc w5 (ap.add (i*2)) [.string (B wd),.pointer (some (a.add k))]∧(∀w',Ext w5 w'→ldc w' (a.add k) [Sl.v t])∧SlR depE w S t l∧Zs l=true∧wd.length≤8∧mt m (i+1)=mt m i++Zbh wd l∧(mt m i).length≤1000000:=by
   have b4:i=0∨i=1∨i=2∨i=3:=oM
   rcases b4 with rfl|rfl|rfl|rfl
   ·exact⟨wNeeds,0,d,m.deps,a4.box.at1 (k:=0) xR rfl,λw' hx=>hb.at1 (k:=0) (x5.trans hx) rfl,hd,h1,by decide,rfl,by simp[mt,a5]⟩
   ·exact⟨wDev,1,e,m.dev,a4.box.at1 (k:=2) xR rfl,λw' hx=>hb.at1 (k:=1) (x5.trans hx) rfl,he,h2,by decide,rfl,by simp[mt,a5]; omega⟩
   ·exact⟨wLikes,2,o,m.opt,a4.box.at1 (k:=4) xR rfl,λw' hx=>hb.at1 (k:=2) (x5.trans hx) rfl,ho,h3,by decide,rfl,by simp[mt,a5]; omega⟩
   ·exact⟨wPins,3,v,m.over,a4.box.at1 (k:=6) xR rfl,λw' hx=>hb.at1 (k:=3) (x5.trans hx) rfl,hv,h4,by decide,rfl,by simp[mt,a5]; omega⟩
  rw[e3]at hn
  generalize mt m i=t0 at*
  refine⟨ap,⟨rfl,oM,e2⟩,_,_,hp,newS.introT λa8 w6 x6 d4 f0 _=>stw0.introT d4 rfl λw7 b7 _ c2=>?_⟩
  have b0:Ext w5 w7:=b7.ext x6 oM
  have c8:=x5.trans b0
  have g9:=x1.trans c8
  refine⟨_,c2.box.at1 (k:=1) xR rfl,_,rfl,t,e1 _ b0,?_⟩
  have g2:=hs.len
  obtain⟨f7,c6⟩:=Zr d8
  refine loop1.up hs.max (λj w'=>Ext w1 w'∧BoxT Z1w w' a8 [.string (B wd),.pointer (some (a.add k))]∧BoxT Z1w w' ap [.string (B wNeeds),.pointer (some a),.string (B wDev),.pointer (some (a.add 1)),.string (B wLikes),.pointer (some (a.add 2)),.string (B wPins),.pointer (some (a.add 3))]∧Bld w1.heap.size (t0++Zbh wd (l.take j)) w') ⟨c8,c2,a4.ext b0,by simpa[Zbh]using c1.ext b0⟩ λj w8 f6 hj ⟨x8,c3,b3,hI⟩ e4=>⟨λc5=>?_,λf4=>?_⟩
  ·have a7:j<l.length:=oM
   obtain⟨ad,tr,d3,_,g1,hr,hc⟩:=Zhw hs a7
   have d7:=c6 _ (cj a7)
   have q1:=Zb9 e6 (l:=l.take j) λd hd=>(c6 d (iw hd)).1
   rw[cd,gw oM]at q1
   have q2:=Zdo d7.1
   have q3:=Zhi l[j].range
   have b5:=x1.trans x8
   refine⟨ad,⟨d3,oM,c5⟩,_,tr,hc _ b5,newS.intro λa9 w9 x9 d5 f1 _=>stw0.intro d5 sI λe7 d0 _ b2=>bnd.drew λg6 b6=>?_⟩
   have c9:Ext w8 e7:=d0.ext x9 oM
   have a0:=c9.trans b6
   refine⟨_,c3.box.at0 a0 rfl,?_⟩
   rw[Zee]
   refine⟨by rw[Zk,Za7,Zw]; simp; omega,_,b2.at0 b6 rfl,?_⟩
   rw[ba_B l[j].name,Zhc,Zee]
   refine⟨by rw[Zk,Zk,Zw]; simp; omega,by rw[Zk,Za7,Zw]; simp; omega,tr,b2.at1 b6 rfl,callX.intro (SE.Zhs.go (Zn7 (ht.ext (b5.trans a0)) (hr.ext (b5.trans a0)) λg7 a6=>⟨a6,_,rfl,?_⟩))⟩
   rw[Zhc,Zee]
   have f9:(((((wd++ [32])++l[j].name.toList)++ [32])++Zbp l[j].range)++ [10]).length≤2030:=by simp; omega
   refine⟨by rw[Zk,Zk,Zw]; simp; omega,by rw[Zk,Za7,Zw]; simp; omega,Zo5 (m:=(((((wd++ [32])++l[j].name.toList)++ [32])++Zbp l[j].range)++ [10])) (hI.ext (a0.trans a6)) rfl (x8.trans (a0.trans a6)) (by rw[br]; omega) λg8 g3 e8 b8 keep=>⟨_,_,rfl,e4 a7 _ ⟨e8,keep _ _ _ b1 (by have:=a4.box.lt; omega) (c3.ext (a0.trans a6)),keep _ _ _ b1 oM (b3.ext (a0.trans a6)),?_⟩⟩⟩
   ·rw[bu a7,Zjk,Zlp,←cc]
    exact b8
  ·have e0:j=l.length:=oM
   rw[e0,cu]at hI
   exact hn c4 _ ⟨x8,b3,hI⟩
 ·have d9:i=4:=by
   have:((Sl.mk (some ap) 4 4).len:Int)=4:=rfl
   omega
  subst d9
  exact Zji c1 rfl x5 λw9 x9=>⟨_,rfl,hR _ (x1.trans x9)⟩
theorem Zni{e v:Sl}(ht:Tab w)(hS:Old S w)(hd:SlR depE w S d m.deps)(he:SlR depE w S e m.dev)(ho:SlR depE w S o m.opt)(hv:SlR depE w S v m.over)
  (hR: ∀w',Ext w w'→R (Zef m) w'):SE.Ze5 d e o v w R:=by
 unfold SE.Ze5
 refine newS.intro λa w1 x1 hb _ _=>⟨d,hb.at0 xR rfl,e,hb.at1 (k:=1) xR rfl,o,hb.at1 (k:=2) xR rfl,?_⟩
 refine SE.Zfu.go (Z1o (hS.ext x1.size) (hd.ext x1) (he.ext x1) (ho.ext x1) λw2 x2=>⟨_,rfl,v,λ_=>hb.at1 (k:=3) (r:=[]) x2 rfl,?_⟩)
 refine gCall.intro (may3 m.over [] []) (λ_ q hq=>SE.Zfu.go (Z1o (hS.ext (x1.trans x2).size) (hv.ext (x1.trans x2)) (SlR.nil trivial) (SlR.nil trivial) λw' hx=>⟨_,rfl,hq _ hx⟩)) λt3 w3 x3 a4=>bound ⟨d,e,o,v,λ_=>hb.at0 (r:=[]) (x2.trans x3) rfl,?_⟩
 have a0:=(x1.trans x2).trans x3
 have e1:(may3 m.deps m.dev m.opt&&t3)=(may3 m.deps m.dev m.opt&&may3 m.over [] []):=by
  cases h:may3 m.deps m.dev m.opt
  ·rfl
  ·rw[a4 h]
 rw[e1]
 have hl:(may3 m.deps m.dev m.opt&&may3 m.over [] [])=true→Zgy m=true:=λh=>by
  rw[Z1p,Zwa]at h
  simp only[bx]at h
  unfold Zgy
  simp[h]
 refine gCall.intro (B (Zk7 m)) (λhg q hq=>SE.Zfg.go (Zpm (ht.ext a0) (hl hg) (hd.ext a0) (he.ext a0) (ho.ext a0) (hv.ext a0) λw' hx=>⟨_,rfl,hq _ hx⟩)) λt4 w4 x4 a5=>?_
 have e2:((may3 m.deps m.dev m.opt&&may3 m.over [] [])&&decide ((t4.size:Int)≤4096))=Zef m:=by
  rw[Zy5]
  cases h:(may3 m.deps m.dev m.opt&&may3 m.over [] [])
  ·rfl
  ·rw[a5 h,Zk,dw,dw,decide_eq_decide]; omega
 rw[e2]; exact hR _ (a0.trans x4)
def Zsr(L:List Pack)(m:Mani)(dev:Bool)(pins:List Pin)(D N:Int):Stp:=
 if Zef m=true∧1≤D∧D≤4096∧1≤N∧N≤128 then Quest.res ⟨L,m,dev,pins,D.toNat,N.toNat⟩else .err 1
def Stp.ns:Stp→List Node
 | .done ns _=>ns
 |_=> []
def Stp.dec:Stp→Int
 | .done _ t=>(t:Int)
 |_=>0
def Stp.code:Stp→Int
 | .err e=>e
 |_=>0
theorem Zed{l:List Node}(h:SlR nodeE w S s l)(hn:n<l.length):
  ∃ad c e,s.a=some ad∧Str l[n].name∧SlR pinE w S c l[n].ctx∧SlR edgeE w S e l[n].edges∧ ∀w',Ext w w'→ldc w' (ad.add (n*6)) [.string l[n].name,.int .i64 l[n].v.ma,.int .i64 l[n].v.mi,.int .i64 l[n].v.pa,Sl.v c,Sl.v e]:=by
 obtain⟨ad,cs,h1,h2,⟨h0,c,e,rfl,h5,h6⟩,h4⟩:=h.el hn
 exact⟨ad,c,e,h1,h0,h5,h6,h4⟩
theorem Zu5{α:Type}{a b:List α}(h1:i<a.length)(h2:i<b.length)(hI:a.take i=b.take i)(he:a[i]=b[i]):a.take (i+1)=b.take (i+1):=by
 rw[bu h1,bu h2,hI,he]
theorem newS.set{zs:List Value}{t:TypeId}{k:Addr→World→Prop}(hl:cs.length=zs.length)(h: ∀a w',Ext w w'→BoxAt w' a cs→a.block=w.heap.size→k a w'):newS w zs t λa w1=>stw w1 a cs λw2=>k a w2:=
 newS.intro λa w1 x1 ha a4 a5=>stw0.intro ha oM λw2 b2 hz a0=>h a w2 (b2.ext x1 oM) (by rw[hl,ix,dp]at a0; exact a0) a4
theorem loop1.from1{body:Int→World→(Int→World→Prop)→Prop}(hN:N≤maxLen)(I:Nat→World→Prop)(h0:I 1 w)
  (hs: ∀(n:Nat) w' (a0:Int→World→Prop),1≤n→(n≤N∨n=1)→I n w'→(n<N→ ∀a4,I (n+1) a4→a0 (Za ((n:Int)+1)) a4)→body n w' a0):loop1 1 w body:=
 loop1.ghost (λm i w'=>∃n:Nat,i=(n:Int)∧1≤n∧(n≤N∨n=1)∧m=N - n∧I n w') (N - 1) ⟨1,rfl,df _,.inr rfl,rfl,h0⟩ λm i w' a0 ⟨n,hi,h1,h2,hm,hI⟩ hn=>by
  subst hi
  refine hs n w' a0 h1 h2 hI λa6 a4 a5=>?_
  refine hn (N - (n+1)) _ a4 oM ⟨n+1,?_,oM,.inl a6,rfl,a5⟩
  rw[Zd]at hN
  rw[Zc oM oM]; omega
theorem Z3b(h1:1≤i)(h2:i<N)(hN:N≤maxLen):Za ((i:Int) - 1)=((i - 1:Nat):Int):=by
 rw[Zd]at hN
 rw[Zc oM oM]; omega
theorem Zut{α:Type}{f:α→ByteArray}{l:List α}(h1:1≤i)(hi:i<l.length)(hI:RiseN f (l.take i))(h:bLt (f l[i - 1]) (f l[i])=true):RiseN f (l.take (i+1)):=by
 have e:l.take i=l.take (i - 1)++ [l[i - 1]]:=by
  have:=bu (l:=l) (i:=i - 1) oM
  rwa [Nat.sub_add_cancel h1]at this
 rw[bu hi,e]
 rw[e]at hI
 exact Zzg hI h
theorem Zxz{α:Type}{f:α→ByteArray}{l:List α}(h1:1≤i)(hi:i<l.length)(h:bLt (f l[i - 1]) (f l[i])=false): ¬RiseN f l:=λhr=>by
 have:=cr.1 hr (i - 1) i oM hi oM
 rw[h]at this; cases this
theorem Zx0{α:Type}{f:α→ByteArray}{l:List α}:RiseN f (l.take 1):=by
 cases l with
 |nil=>exact .nil
 |cons a r=>exact im _ _
end Go.Hal
namespace Go.Hal
open Go.MapKept
end Go.Hal
/-
 DERIVED:THE SHELF's CONTRACTS AT THIS DUMP,IN PLAIN WORDS (tools/lay-plain.mjs out of 'YtfilbiaaeecoaaaGreatDoorLay5.lean',which tools/lay-shelf.mjs wrote):THE SAME DECLARATIONS UNDER THE SAME NAMES:'import','namespace','open','def','theorem' AND NOTHING ELSE:no command of the shelf's:FOR A HAND-IN. Each laying:the table of numbers ('.._ren') and one theorem,a field a fact of the dump's own or the kernel's comparison; each contract:ONE APPLICATION.
-/
namespace Go.Proofs
end Go.Proofs
namespace Go.Hal
open Go.Lib Go.Sort
section
variable {w0 w w':World} {a:Addr} {r:Nat} {s so:Sl} {out:List Nat}
end
end Go.Hal
namespace Go.Hal
open Go.MapKept
end Go.Hal
namespace Go.Hal
section
variable {w0 w w':World} {r:Nat} {so:Sl} {out:List Pin}
end
end Go.Hal
namespace Go.Hal
section
variable {q:Quest}
end
end Go.Hal
namespace Go.Hal
section
variable {q:Quest} {g:List Node}
end
end Go.Hal
namespace Go.Hal
theorem Zry(e:List Pin)(n:ByteArray)(v:Ver):addO e n (some v)=if e.any (isN n)then e else e++ [⟨n,v⟩]:=rfl
theorem Z9h{e:List Pin}{n:ByteArray}(h: ∀q∈e,q.name≠n):e.any (isN n)=false:=by
 rw[ij]
 intro x hx hp
 exact h x hx (by simpa[isN]using hp)
theorem Z67{e:List Pin}{q:Pin}{n:ByteArray}(h:q∈e)(hq:q.name=n):e.any (isN n)=true:=ir.2 ⟨q,h,by simpa[isN]using hq⟩
theorem Zyb{e:List Pin}(hn:(e.map (·.name)).Nodup)(n:ByteArray)(o:Option Ver):((addO e n o).map (·.name)).Nodup:=by
 cases o with
 |none=>exact hn
 |some v=>
  rw[Zry]
  cases h:e.any (isN n)
  ·rw[if_neg dC,ec,gi]
   refine⟨hn,by simp,λa ha b hb=>?_⟩
   obtain⟨q,hq,rfl⟩:=fh.1 ha
   simp only[fg,List.map_nil,ci]at hb
   subst hb
   have:=ij.1 h q hq
   simpa[isN]using this
  ·rw[if_pos rfl]; exact hn
theorem Z3g(e:List Pin)(n:ByteArray)(o:Option Ver):(addO e n o).length≤e.length+1:=by
 cases o with
 |none=>exact Nat.le_succ _
 |some v=>
  rw[Zry]
  split
  ·omega
  ·simp
structure PlaceAt(ns:List Node)(k:NKey)(i:Nat):Prop where
 one:1≤i
 le:i≤ns.length
 lo: ∀j (h:j<ns.length),1≤j→j<i→ns[j].key≠k
 hit: ∀h:i<ns.length,ns[i].key=k
theorem PlaceAt.find{ns:List Node}{k:NKey}(h:PlaceAt ns k i)(h0: ∀h:0<ns.length,ns[0].key≠k):
  (i<ns.length→(ns.map Node.key).findIdx? (λy=>decide (y=k))=some i)∧(i=ns.length→(ns.map Node.key).findIdx? (λy=>decide (y=k))=none):=by
 have a0: ∀j (hj:j<ns.length),j<i→ns[j].key≠k:=λj hj hi=>by
  rcases fo j with rfl|h1
  ·exact h0 hj
  ·exact h.lo j hj h1 hi
 refine⟨λhi=>?_,λhi=>?_⟩
 ·rw[ie]
  refine⟨by rw[cm]; exact hi,by simpa using h.hit hi,λj hj=>?_⟩
  simpa using a0 j oM hj
 ·rw[je]
  intro x hx
  obtain⟨y,hy,rfl⟩:=fh.1 hx
  obtain⟨j,hj,rfl⟩:=cy.1 hy
  simpa using a0 j hj oM
theorem Z05(hG:GoodL L){n:ByteArray}{v:Ver}(h:(getL L n v).isSome=true):n≠⟨#[]⟩:=by
 obtain⟨x,hx⟩:=Option.isSome_iff_exists.1 h
 obtain⟨h1,h2,_⟩:=Zhy hx
 have:=hG.may x h1
 unfold Zbb at this
 rw[bx]at this
 have:=this.1
 unfold Zdk at this
 simp only[bx]at this
 have hn:=this.1.1.1.1
 rw[h2]at hn
 rintro rfl
 revert hn
 unfold Zn
 rw[show bEq ⟨#[]⟩ ⟨#[]⟩=true from Zap.2 rfl]
 simp
theorem Ztd{over:List Dep}{c:List Pin}(h:Ze3 L over env p=some c):(getL L p.name p.v).isSome=true:=by
 obtain⟨x,hx,_⟩:=(Zr7 h).2.2.1 p (.inl rfl)
 rw[hx]; rfl
end Go.Hal
namespace Go.Hal
end Go.Hal
namespace Go.Hal
section
variable {S T:Nat→Prop} {w w' w2:World}
end
theorem loop3.up{α β:Type}{a:α}{b:β}{body:α→β→Int→World→(α→β→Int→World→Prop)→Prop}(hN:N≤maxLen)(I:α→β→Nat→World→Prop)(h0:I a b 0 w)
  (hs: ∀(a:α) (b:β) (n:Nat) w' (a4:α→β→Int→World→Prop),n≤N→I a b n w'→(n<N→ ∀a' b' a0,I a' b' (n+1) a0→a4 a' b' (Za ((n:Int)+1)) a0)→body a b n w' a4):loop3 a b 0 w body:=
 ⟨λa b i w'=>∃n:Nat,i=n∧n≤N∧I a b n w',λ_ _ i _=>N - i.toNat,⟨0,rfl,eh _,h0⟩,λa b i w' ⟨n,hi,hn,hI⟩=>by
  subst hi
  refine hs a b n w' _ hn hI λa5 a' b' a0 h=>?_
  rw[Zhu (n:=N) oM oM hN]
  exact⟨⟨n+1,oM,oM,h⟩,by show N - ((n:Int)+1).toNat<N - (n:Int).toNat; omega⟩⟩
theorem Zxs(h:SlR pinE w S s l): ∀q∈l,Str q.name:=λq hq=>by
 obtain⟨n,hn,rfl⟩:=cy.1 hq
 obtain⟨_,_,_,h1,_⟩:=Zlh h hn
 exact h1
theorem Zny{α:Type}{p:α→Bool}{l:List α}(h:l.any p=false):l.find? p=none:=by
 rw[gn]
 intro x hx
 have:=ij.1 h x hx
 simpa using this
theorem Zxi{α:Type}(p:α→Bool)(l:List α):(idxI p l= -1∧l.find? p=none)∨ ∃k,∃hk:k<l.length,idxI p l=(k:Int)∧l.find? p=some l[k]:=by
 by_cases h:idxI p l= -1
 ·refine .inl ⟨h,Zny ?_⟩
  rw[←Zk5,h]; rfl
 ·obtain⟨n,hn,e,ht,hp⟩:=Zng h
  exact .inr ⟨n,hn,e,Zsb hn (Zny ht) hp⟩
theorem OwnS.pins{T:TypeId}(h:OwnS pinE T w lo None' s l)(hl:l.length≤1000000000000):SlR pinE w (λb=>lo≤b) s l:=h.readF dC (by show l.length*40≤room; unfold room; omega)
theorem Zzp{l:List ByteArray}(h:SlR strE w S s l)(hn:n<l.length): ∃ad,s.a=some ad∧Str l[n]∧ ∀w',Ext w w'→ldc w' (ad.add (n*1)) [.string l[n]]:=by
 obtain⟨ad,cs,h1,h2,⟨rfl,h3⟩,h4⟩:=h.el hn
 exact⟨ad,h1,h3,h4⟩
def Zgd(T:List Dir)(p:Path):Int:=match Zbv (T.map drOf) p with
 |some i=>(i:Int)
 |none=>-1
theorem Ztv{T:List Dir}{p:Path}(hi:i<T.length)(h:T[i].path=p)(h0: ∀j (hj:j<T.length),j<i→T[j].path≠p):Zbv (T.map drOf) p=some i:=by
 unfold Zbv
 rw[ie]
 refine⟨by rw[cm]; exact hi,by simpa[drOf]using h,λj hj=>?_⟩
 simpa[drOf]using h0 j oM hj
theorem Zq2{T:List Dir}{p:Path}(h: ∀j (hj:j<T.length),T[j].path≠p):Zbv (T.map drOf) p=none:=by
 unfold Zbv
 rw[je]
 intro x hx
 obtain⟨d,hd,rfl⟩:=fh.1 hx
 obtain⟨j,hj,rfl⟩:=cy.1 hd
 exact decide_eq_false (h j hj)
theorem eqStrs_se{a b:List ByteArray}{T:Nat→Prop}(hs:SlR strE w S s a)(ht:SlR strE w T t b)(hR: ∀w',Ext w w'→R (decide (a=b)) w'):SE.Zaf s t w R:=by
 unfold SE.Zaf
 have h1:=hs.len
 have h2:=ht.len
 refine⟨λh=>?_,λh=>?_⟩
 ·have: ¬a=b:=λe=>by subst e; omega
  have h3:=hR w xR
  rw[decide_eq_false this]at h3; exact h3
 have a9:a.length=b.length:=by
  have:=fj.1 h
  omega
 refine loop1.up hs.max (λi w'=>Ext w w'∧a.take i=b.take i) ⟨Ext.refl _,rfl⟩ λi w1 b0 hi ⟨x1,hI⟩ hn=>⟨λa6=>bnd.drew λw2 x2=>?_,λa8=>?_⟩
 ·have k1:i<a.length:=oM
  have k2:i<b.length:=oM
  obtain⟨ad,ha,_,hc⟩:=Zzp hs k1
  obtain⟨a0,a4,_,a5⟩:=Zzp ht k2
  refine⟨ad,⟨ha,oM,a6⟩,_,hc _ (x1.trans x2),a0,⟨a4,oM,oM⟩,_,a5 _ (x1.trans x2),λh=>?_,λh=>?_⟩
  ·have a7: ¬a=b:=λe=>by subst e; exact h rfl
   have h3:=hR w2 (x1.trans x2)
   rw[decide_eq_false a7]at h3; exact h3
  ·exact hn k1 _ ⟨x1.trans x2,Zu5 k1 k2 hI (fj.1 h)⟩
 ·have:i=a.length:=oM
  subst this
  rw[cu,dg oM]at hI
  have h3:=hR w1 x1
  rw[decide_eq_true hI]at h3; exact h3
theorem r12Path_se{a b:List ByteArray}{T:Nat→Prop}(hs:SlR strE w S s a)(ht:SlR strE w T t b)(hR: ∀w',Ext w w'→R (decide (a=b)) w'):SE.Zcg s t w R:=eqStrs_se hs ht hR
theorem Zxp:(ByteArray.mk #[47,109,111,100,117,108,101,115,47])=B modsT:=rfl
theorem Zre(p:Path)(x:ByteArray):Zi3 (p++ [x])=(Zi3 p++modsT)++x.toList:=by
 unfold Zi3; rw[List.flatMap_append]; simp
theorem Zsl: ∀{p:Path},Zav p=true→(Zi3 p).length≤p.length*25
 | [],_=>df _
 |x::p,h=>by
  unfold Zav at h
  rw[jv,bx]at h
  have h1:=Zdo h.1
  have h2:=Zsl (p:=p) h.2
  have e:Zi3 (x::p)=modsT++x.toList++Zi3 p:=rfl
  have e9:modsT.length=9:=rfl
  rw[e,br,br,dq,e9]
  omega
theorem Zie{p:Path}(hi:i<p.length):Zav (p.take (i+1))=(Zav (p.take i)&&Zn p[i]):=by
 unfold Zav
 rw[bu hi,mm]; simp
theorem Zue{p:Path}(hi:i<p.length)(h:Zn p[i]=false):Zav p=false:=by
 unfold Zav
 rw[List.all_eq_false]
 exact⟨_,cj hi,by rw[h]; decide⟩
theorem Zlc{p:Path}{R:ByteArray→World→Prop}(hs:SlR strE w S s p)(hR: ∀w',Ext w w'→R (B (Z5 p)) w'):SE.Zbz s w R:=by
 unfold SE.Zbz
 have hl:=hs.len
 have hm:=hs.max
 have a4:=hs.2.2.2.1
 have a9:strE.bytes=16:=rfl
 rw[a9]at a4
 unfold room at a4
 refine⟨λh=>?_,λh=>?_⟩
 ·have:p= []:=cq oM
  subst this
  exact hR w xR
 ·have a7:p≠ []:=λe=>by subst e; exact h (by rw[hl]; rfl)
  have e9:modsT.length=9:=rfl
  refine loop2.up hm (λout i w'=>Ext w w'∧Zav (p.take i)=true∧out=B (Zi3 (p.take i))) ⟨Ext.refl _,rfl,rfl⟩ λout i w1 b2 hi ⟨x1,hI,ho⟩ hn=>⟨λa6=>?_,λb1=>?_⟩
  ·have a0:i<p.length:=oM
   obtain⟨ad,ha,b0,hc⟩:=Zzp hs a0
   refine⟨ad,⟨ha,oM,a6⟩,_,hc _ x1,SE.Zay.go (r04Name_se b0 λw2 x2=>⟨_,rfl,λhq=>?_,λhq=>?_⟩)⟩
   ·have a5:=Zue a0 (by simpa using hq)
    have h2:=hR w2 (x1.trans x2)
    unfold Z5 at h2
    rw[if_neg a7,if_neg (by rw[a5]; decide)]at h2
    exact h2
   ·have a8:Zn p[i]=true:=by simpa using hq
    have h1:=Zdo a8
    have h2:=Zsl hI
    rw[cd,gw oM]at h2
    subst ho
    rw[Zxp,Zhc]
    refine⟨by rw[Zk,Zk,Zw,e9]; omega,ad,⟨ha,oM,a6⟩,_,hc _ (x1.trans x2),?_⟩
    rw[ba_B p[i],Zhc]
    refine⟨by rw[Zk,Zk,Zw,br,e9]; omega,hn a0 _ w2 ⟨x1.trans x2,by rw[Zie a0,hI,a8]; rfl,?_⟩⟩
    rw[bu a0,Zre]
  ·rw[dg oM]at hI ho
   have h2:=hR w1 x1
   unfold Z5 at h2
   rw[if_neg a7,if_pos hI]at h2
   rw[ho]; exact h2
theorem Zjz{p:Path}{R:ByteArray→World→Prop}(hs:SlR strE w S s p)(hb:p.length≤4000000000000)(hR: ∀w',Ext w w'→R (B (Z5 p)) w'):SE.Zg5 s w R:=by
 unfold SE.Zg5
 have hl:=hs.len
 have hm:=hs.max
 refine⟨λh=>?_,λh=>?_⟩
 ·have:p= []:=cq oM
  subst this
  exact hR w xR
 ·have a5:p≠ []:=λe=>by subst e; exact h (by rw[hl]; rfl)
  have e9:modsT.length=9:=rfl
  intro a w1 ha hw
  subst ha
  have x1:Ext w w1:=hw▸Ext.alloc _ _
  have a7:Bld w.heap.size [] w1:=hw▸Zr2 w
  refine loop1.up hm (λi w'=>Ext w w'∧Zav (p.take i)=true∧Bld w.heap.size (Zi3 (p.take i)) w') ⟨x1,rfl,a7⟩ λi w2 b3 hi ⟨x2,hI,hB⟩ hn=>⟨λb0=>?_,λb2=>?_⟩
  ·have a0:i<p.length:=oM
   obtain⟨ad,ha,b1,hc⟩:=Zzp hs a0
   refine⟨ad,⟨ha,oM,b0⟩,_,hc _ x2,SE.Zep.go (scanName_se b1 λw3 x3=>⟨_,rfl,λhq=>?_,λhq=>?_⟩)⟩
   ·have a4:=Zue a0 (by simpa using hq)
    have h2:=hR w3 (x2.trans x3)
    unfold Z5 at h2
    rw[if_neg a5,if_neg (by rw[a4]; decide)]at h2
    exact h2
   ·have a6:Zn p[i]=true:=by simpa using hq
    have h1:=Zdo a6
    have h2:=Zsl hI
    rw[cd,gw oM]at h2
    rw[Zxp]
    refine Zhl (m:=modsT) (hB.ext x3) rfl (x2.trans x3) (by rw[e9]; omega) λw4 n4 x4 a8=>⟨_,_,rfl,?_⟩
    rw[ba_B p[i]]
    refine Zhl (m:=p[i].toList) a8 rfl x4 (by rw[br,e9]; omega) λw5 n5 x5 a9=>⟨_,_,rfl,hn a0 w5 ⟨x5,by rw[Zie a0,hI,a6]; rfl,?_⟩⟩
    rw[bu a0,Zre]; exact a9
  ·rw[dg oM]at hI hB
   refine Zji hB rfl x2 λw3 x3=>⟨_,rfl,?_⟩
   have h2:=hR w3 x3
   unfold Z5 at h2
   rw[if_neg a5,if_pos hI]at h2
   exact h2
theorem Zi6{T:List Dir}{p:Path}{R:Int→World→Prop}(hs:SlR dirE w S s T)(ht:SlR strE w Q t p)(hR: ∀w',Ext w w'→R (Zgd T p) w'):SE.Zbi s t w R:=by
 unfold SE.Zbi
 have a9:=hs.len
 refine newS.intro λa w1 x1 a5 _ _=> ?_
 refine loop1.up hs.max (λi w'=>Ext w1 w'∧ ∀j (hj:j<T.length),j<i→T[j].path≠p) ⟨Ext.refl _,λj _ h=>by omega⟩ λi w2 b0 hi ⟨x2,hI⟩ hn=>⟨s,(a5.ext x2).ldc.pre (r:=[]) rfl,λa7=>?_,λa8=>?_⟩
 ·have a0:i<T.length:=oM
  have a4:=x1.trans x2
  obtain⟨ad,ps,d,e,o,ha,_,_,hp,_,_,_,hc⟩:=dirEl hs a0
  refine⟨s,(a5.ext x2).ldc.pre (r:=[]) rfl,ad,⟨ha,oM,a7⟩,ps,(hc _ a4).pre rfl,SE.Zcg.go (r12Path_se (hp.ext a4) (ht.ext a4) λw3 x3=>⟨_,rfl,λhq=>?_,λhq=>?_⟩)⟩
  ·have h:=hR w3 (a4.trans x3)
   unfold Zgd at h
   rw[Ztv a0 (of_decide_eq_true hq) hI]at h; exact h
  ·refine hn a0 w3 ⟨x2.trans x3,λj hj a6=>?_⟩
   rcases dn.1 a6 with h|h
   ·exact hI j hj h
   ·subst h; exact of_decide_eq_false hq
 ·have h:=hR w2 (x1.trans x2)
  unfold Zgd at h
  rw[Zq2 λj hj=>hI j hj oM]at h; exact h
theorem Zt1{T:List Dir}{f:Value}{q:Dir→Bool}{R:Int→World→Prop}(hs:SlR dirE w S s T)
  (hf: ∀x∈T,∀(ps d e o:Sl) w' (k:Value→World→Prop),Ext w w'→SlR strE w' S ps x.path→(∀a4,Ext w' a4→k (.bool (q x)) a4)→callV prog f [.agg #[ps.v,.string x.pack.name,.int .i64 x.pack.v.ma,.int .i64 x.pack.v.mi,.int .i64 x.pack.v.pa,d.v,e.v,o.v,.int .i64 x.node]] w' k)
  (hR: ∀w',Ext w w'→R (idxI q T) w'):SE.Zac s f w R:=by
 unfold SE.Zac
 have hl:=hs.len
 refine loop1.up hs.max (λi w'=>Ext w w'∧(T.take i).any q=false) ⟨Ext.refl _,rfl⟩ λi w1 a7 hi ⟨x1,hI⟩ hn=>⟨λa5=>?_,λa6=>?_⟩
 ·have a0:i<T.length:=oM
  obtain⟨ad,ps,d,e,o,ha,_,_,hp,_,_,_,hc⟩:=dirEl hs a0
  refine⟨ad,⟨ha,oM,a5⟩,_,_,_,_,_,_,_,_,_,hc _ x1,hf _ (cj a0) ps d e o _ _ x1 (hp.ext x1) λw2 x2=>⟨_,rfl,λh=>?_,λh=>?_⟩⟩
  ·rw[←Zjo a0 hI h]; exact hR _ (x1.trans x2)
  ·exact hn a0 _ ⟨x1.trans x2,by rw[Zdm a0 hI]; exact h⟩
 ·have:i=T.length:=oM
  rw[this,cu]at hI
  rw[←Zgv hI]; exact hR _ x1
theorem Zto:Zfj prog 157:=enters_of func157 kR rfl
theorem Ztu(T:List Dir)(p:Path):idxI (λd=>decide (d.path=p)) T=Zgd T p:=by
 unfold Zgd
 by_cases h:idxI (λd=>decide (d.path=p)) T= -1
 ·have h0:T.any (λd=>decide (d.path=p))=false:=by rw[←Zk5,h]; rfl
  rw[Zq2 (λj hj=>by simpa using ij.1 h0 _ (cj hj))]
  exact h
 ·obtain⟨n,hn,e,ht,hp⟩:=Zng h
  rw[e,Ztv hn (of_decide_eq_true hp) λj hj a0=>?_]
  have:=ij.1 ht T[j] (List.mem_take_iff_getElem.2 ⟨j,oM,rfl⟩)
  simpa using this
theorem Zjy{T:List Dir}{p:Path}{R:Int→World→Prop}(hs:SlR dirE w S s T)(ht:SlR strE w Q t p)(hR: ∀w',Ext w w'→R (Zgd T p) w'):SE.Zg4 s t w R:=by
 unfold SE.Zg4
 refine newS.intro λa w1 x1 a5 _ _=>newS.intro λa1 w2 x2 a6 _ _=>⟨s,a5.at0 (r:=[]) x2 rfl,?_⟩
 have a0:=x1.trans x2
 refine SE.Zac.go (Zt1 (q:=λd=>decide (d.path=p)) (hs.ext a0) (λy _ ps d e o w3 k x3 hp hk=>⟨_,_,rfl,Zto,SE.Zj0.go ?_⟩) λw3 x3=>⟨_,rfl,by rw[Ztu]; exact hR w3 (a0.trans x3)⟩)
 unfold SE.Zj0
 refine newS.intro λa4 w4 x4 a7 _ _=>⟨ps,a7.at0 xR rfl,t,(a6.ext (x3.trans x4)).ldc.pre (r:=[]) rfl,SE.Zaf.go (eqStrs_se (hp.ext x4) ((ht.ext a0).ext (x3.trans x4)) λw5 x5=>⟨_,rfl,hk w5 (x4.trans x5)⟩)⟩
theorem Z03{T:List Dir}{p:Path}:Zgd T p=(i:Int)↔Zbv (T.map drOf) p=some i:=by
 unfold Zgd
 cases Zbv (T.map drOf) p with
 |none=>
  show(-1:Int)=(i:Int)↔_
  exact⟨λh=>by omega,nO⟩
 |some k=>
  show(k:Int)=(i:Int)↔_
  rw[cw]; omega
theorem Z39{T:List Dir}{p:Path}:(0≤Zgd T p∧Zgd T p<(i:Int))↔ ∃h,h<i∧Zbv (T.map drOf) p=some h:=by
 unfold Zgd
 cases Zbv (T.map drOf) p with
 |none=>
  show(0:Int)≤ -1∧(-1:Int)<(i:Int)↔_
  exact⟨λh=>by omega,λ⟨h,_,h2⟩=>by cases h2⟩
 |some k=>
  show(0:Int)≤(k:Int)∧(k:Int)<(i:Int)↔_
  exact⟨λh=>⟨k,oM,rfl⟩,λ⟨h,h1,h2⟩=>by cases h2; omega⟩
structure HeadOk(d:Dir):Prop where
 path:d.path≠ []
 names:Zav d.path=true
 len:(Z5 d.path).length≤1024
 node:1≤d.node
theorem Zrs{T:List Dir}{d:Dir}:StandsD T i d↔HeadOk d∧Zgd T d.path=(i:Int)∧(0≤Zgd T d.path.dropLast∧Zgd T d.path.dropLast<(i:Int))∧Zbb d.pack=true∧d.path.getLast? =some d.pack.name:=by
 rw[Z03,Z39]
 constructor
 ·intro h; exact⟨⟨h.path,h.names,h.len,h.node⟩,h.first,h.up,h.may,h.name⟩
 ·rintro⟨h,h1,h2,h3,h4⟩; exact⟨h.path,h.names,h.len,h.node,h1,h2,h3,h4⟩
theorem Zzr{p:Path}(h:p≠ []):bEq (B (Z5 p)) ⟨#[]⟩= !Zav p:=by
 unfold Z5
 rw[if_neg h]
 cases hn:Zav p with
 |true=>
  rw[if_pos rfl]
  have h9:=Zpq h
  show bEq (B (Zi3 p)) ⟨#[]⟩=false
  rw[il]
  intro e
  have:=congrArg ByteArray.toList (Zap.1 e)
  rw[Zon]at this
  have e0:(ByteArray.mk #[]).toList= []:=Zon []
  rw[e0]at this
  rw[this]at h9
  simp at h9
 |false=>
  rw[if_neg dC]
  exact Zap.2 rfl
theorem Z99{d:Dir}(hn:n=d.path.length):(((((n:Int)==0)||bEq (B (Z5 d.path)) ⟨#[]⟩)||decide (1024<((B (Z5 d.path)).size:Int)))||decide (d.node<1))=false↔HeadOk d:=by
 subst hn
 rw[Zk]
 by_cases h:d.path= []
 ·constructor
  ·intro hq
   rw[h]at hq
   simp at hq
  ·intro hq; exact absurd h hq.path
 ·rw[Zzr h]
  have e1:((d.path.length:Int)==0)=false:=by
   rw[il]
   intro e
   have e:=eq_of_beq e
   exact h (cq oM)
  rw[e1]
  simp only[li,dx,ka,decide_eq_false_iff_not]
  constructor
  ·rintro⟨⟨h1,h2⟩,h3⟩; exact⟨h,h1,oM,oM⟩
  ·intro q; exact⟨⟨q.names,by have:=q.len; omega⟩,by have:=q.node; omega⟩
theorem lastB{p:Path}{n:ByteArray}(h:p.length - 1<p.length):bEq n p[p.length - 1]=true↔p.getLast? =some n:=by
 rw[Zap,List.getLast?_eq_getElem?,bq h,cw]
 exact eq_comm
theorem SlR.front{p:Path}(h:SlR strE w S s p)(h0:p≠ []):Za (((s.len:Nat):Int) - 1)=((p.length - 1:Nat):Int)∧SlR strE w S (Sl.cut s 0 (p.length - 1) 1) p.dropLast:=by
 have hl:=h.len
 have hm:=h.max
 rw[Zd]at hm
 have hp:0<p.length:=ig.2 h0
 refine⟨by rw[Zc oM oM]; omega,?_⟩
 have:=h.cut (a:=0) (b:=p.length - 1) (eh _) oM
 rw[gz,←List.dropLast_eq_take]at this
 exact this
theorem Zsx{T:List Dir}(ht:Tab w)(hs:SlR dirE w S s T)(hi:i<T.length)(hb: ∀d∈T,d.path.length≤4000000000000)(hR: ∀(b:Bool) w',Ext w w'→(b=true↔StandsD T i T[i])→R b w'):SE.Zh8 s (i:Int) w R:=by
 unfold SE.Zh8
 have c8:=hs.len
 obtain⟨ad,ps,dd,ee,oo,ha,_,c4,hp,hd,he,ho,hc⟩:=dirEl hs hi
 have hb:=hb _ (cj hi)
 have c3:=hp.len
 have c7:T[i].path.length≤ps.cap:=hp.2.1
 rw[Zrs]at hR
 generalize T[i]=d at*
 have b5: ∀w',Ext w w'→ ¬(HeadOk d∧Zgd T d.path=(i:Int)∧(0≤Zgd T d.path.dropLast∧Zgd T d.path.dropLast<(i:Int))∧Zbb d.pack=true∧d.path.getLast? =some d.pack.name)→R false w':=λw' hx h=>hR false w' hx ⟨nO,λhf=>absurd hf h⟩
 refine newS.intro λa w1 x1 b2 _ _=>⟨s,b2.ldc.pre (r:=[]) rfl,ad,⟨ha,oM,oM⟩,_,_,_,_,_,_,_,_,_,hc _ x1,newS.set rfl λa2 w2 x2 a0 _=>⟨ps,a0.at0 xR rfl,?_⟩⟩
 have a8:=x1.trans x2
 refine SE.Zg5.go (Zjz (hp.ext a8) hb λw3 x3=>⟨_,rfl,ps,a0.at0 x3 rfl,bound (bound (bound ⟨d.node,λ_=>a0.at1 (k:=8) (r:=[]) x3 rfl,bound ?_⟩))⟩)
 have b3:=a8.trans x3
 have a4:=Z99 (d:=d) c3
 generalize (((((ps.len:Int)==0)||bEq (B (Z5 d.path)) ⟨#[]⟩)||decide (1024<((B (Z5 d.path)).size:Int)))||decide (d.node<1))=c6 at*
 refine⟨s,λ_=>b2.at0 (r:=[]) (x2.trans x3) rfl,ps,λ_=>a0.at0 x3 rfl,?_⟩
 refine gCall.intro (Zgd T d.path) (λ_ q hq=>SE.Zg4.go (Zjy (hs.ext b3) (hp.ext b3) λw4 x4=>⟨_,rfl,hq w4 x4⟩)) λc9 w4 x4 a6=>⟨λhq=>b5 w4 (b3.trans x4) λ⟨h1,h2,_⟩=>?_,λhq=>bnd.drew λw5 x5=>?_⟩
 ·have hb:=a4.2 h1
  subst hb
  rw[a6 rfl,h2]at hq
  simp at hq
 ·rw[dx]at hq
  obtain⟨q1,q2⟩:=hq
  have h1:=a4.1 q1
  have h2:Zgd T d.path=(i:Int):=by
   rw[q1]at a6
   rw[←a6 rfl]; simpa using q2
  have a9:=x3.trans (x4.trans x5)
  have b8:=a8.trans a9
  obtain⟨ew,b6⟩:=(hp.ext b8).front h1.path
  refine⟨s,b2.at0 (r:=[]) (x2.trans a9) rfl,ps,a0.at0 a9 rfl,ps,a0.at0 a9 rfl,?_⟩
  rw[ew,bw]
  refine⟨⟨oM,oM⟩,?_⟩
  refine SE.Zg4.go (Zjy (hs.ext b8) b6 λw6 x6=>⟨_,rfl,bnd.drew λw7 x7=>bound (bound ?_)⟩)
  have b4:=a9.trans (x6.trans x7)
  have b0:=a8.trans b4
  refine⟨_,_,_,_,dd,ee,oo,λ_=>a0.at1 (k:=1) b4 rfl,?_⟩
  refine gCall.intro (Zbb d.pack) (λ_ q hq=>SE.Zjr.go (Znl (ht.ext b0) c4 (hd.ext b0) (he.ext b0) (ho.ext b0) λw8 x8=>⟨_,rfl,hq w8 x8⟩)) λd0 w8 x8 a7=>bound ?_
  have b1:=b4.trans x8
  have b9:=a8.trans b1
  have c5:0<d.path.length:=ig.2 h1.path
  have b7:d.path.length - 1<d.path.length:=oM
  obtain⟨al,c1,_,c2⟩:=Zzp hp b7
  refine⟨_,λ_=>a0.at1 (k:=1) b1 rfl,ps,λ_=>a0.at0 b1 rfl,ps,λ_=>a0.at0 b1 rfl,al,λ_=>by rw[ew]; exact⟨c1,oM,oM⟩,_,λ_=>by rw[ew,bw]; exact c2 _ b9,?_⟩
  refine hR _ w8 b9 ?_
  have a5:=lastB (p:=d.path) (n:=d.pack.name) b7
  constructor
  ·intro hq
   simp only[bx,decide_eq_true_eq]at hq
   obtain⟨⟨⟨k1,k2⟩,k3⟩,k4⟩:=hq
   refine⟨h1,h2,⟨k1,k2⟩,?_,a5.1 k4⟩
   rw[←k3,a7 (by rw[decide_eq_true k1,decide_eq_true k2]; rfl)]
  ·rintro⟨_,_,⟨k1,k2⟩,k3,k4⟩
   rw[decide_eq_true k1,decide_eq_true k2]at a7 ⊢
   rw[a7 rfl,k3,a5.2 k4]; rfl
theorem Zuo{T:List Dir}{R:Int→World→Prop}(hs:SlR dirE w S s T)(hi:i<T.length)(h0:T[i].path≠ [])(hR: ∀w',Ext w w'→R (Zgd T T[i].path.dropLast) w'):SE.Zc0 s (i:Int) w R:=by
 unfold SE.Zc0
 have a9:=hs.len
 obtain⟨ad,ps,dd,ee,oo,ha,_,b0,hp,hd,he,ho,hc⟩:=dirEl hs hi
 have a8:=hp.len
 have a7:T[i].path.length≤ps.cap:=hp.2.1
 have a6:0<T[i].path.length:=ig.2 h0
 refine newS.intro λa w1 x1 a0 _ _=>bound ⟨s,λ_=>a0.ldc.pre (r:=[]) rfl,bound ⟨s,λ_=>a0.ldc.pre (r:=[]) rfl,ad,λ_=>⟨ha,oM,oM⟩,ps,λ_=>by rw[bw]; exact(hc _ x1).pre rfl,?_⟩⟩
 have e:((decide ((i:Int)<0)||decide ((s.len:Int)≤(i:Int)))||(((ps.len:Nat):Int)==0))=false:=by
  rw[decide_eq_false oM,decide_eq_false oM]
  rw[il]
  intro h
  have h:=eq_of_beq (show(((ps.len:Nat):Int)==0)=true from h)
  omega
 rw[e]
 refine⟨nO,λ_=>⟨s,a0.ldc.pre (r:=[]) rfl,ad,⟨ha,oM,oM⟩,ps,by rw[bw]; exact(hc _ x1).pre rfl,bnd.drew λw2 x2=>?_⟩⟩
 have a4:=x1.trans x2
 obtain⟨ew,a5⟩:=(hp.ext a4).front h0
 rw[ew]
 refine⟨s,a0.at0 (r:=[]) x2 rfl,⟨oM,oM⟩,?_⟩
 rw[bw]
 exact SE.Zbi.go (Zi6 (hs.ext a4) a5 λw3 x3=>⟨_,rfl,hR w3 (a4.trans x3)⟩)
theorem Zuq{T:List Dir}(hs:SlR dirE w S s T)(hi:i<T.length)(hR: ∀(b:Bool) w',Ext w w'→(b=true↔StandsD T i T[i])→R b w'):SE.Zc2 s (i:Int) w R:=by
 unfold SE.Zc2
 have c4:=hs.len
 obtain⟨ad,ps,dd,ee,oo,ha,_,c1,hp,hd,he,ho,hc⟩:=dirEl hs hi
 have b9:=hp.len
 rw[Zrs]at hR
 have b3: ∀w',Ext w w'→ ¬(HeadOk T[i]∧Zgd T T[i].path=(i:Int)∧(0≤Zgd T T[i].path.dropLast∧Zgd T T[i].path.dropLast<(i:Int))∧Zbb T[i].pack=true∧T[i].path.getLast? =some T[i].pack.name)→R false w':=λw' hx h=>hR false w' hx ⟨nO,λhf=>absurd hf h⟩
 refine newS.intro λa w1 x1 b0 _ _=>⟨s,b0.ldc.pre (r:=[]) rfl,ad,⟨ha,oM,oM⟩,_,_,_,_,_,_,_,_,_,hc _ x1,newS.set rfl λa2 w2 x2 a0 _=>⟨ps,a0.at0 xR rfl,?_⟩⟩
 have a7:=x1.trans x2
 refine SE.Zbz.go (Zlc (hp.ext a7) λw3 x3=>⟨_,rfl,ps,a0.at0 x3 rfl,bound (bound (bound ⟨T[i].node,λ_=>a0.at1 (k:=8) (r:=[]) x3 rfl,bound ?_⟩))⟩)
 have b1:=a7.trans x3
 have a4:=Z99 (d:=T[i]) b9
 generalize (((((ps.len:Int)==0)||bEq (B (Z5 T[i].path)) ⟨#[]⟩)||decide (1024<((B (Z5 T[i].path)).size:Int)))||decide (T[i].node<1))=c3 at*
 refine⟨s,λ_=>b0.at0 (r:=[]) (x2.trans x3) rfl,ps,λ_=>a0.at0 x3 rfl,?_⟩
 refine gCall.intro (Zgd T T[i].path) (λ_ q hq=>SE.Zbi.go (Zi6 (hs.ext b1) (hp.ext b1) λw4 x4=>⟨_,rfl,hq w4 x4⟩)) λc5 w4 x4 a6=>⟨λhq=>b3 w4 (b1.trans x4) λ⟨h1,h2,_⟩=>?_,λhq=>?_⟩
 ·have hb:=a4.2 h1
  subst hb
  rw[a6 rfl,h2]at hq
  simp at hq
 ·rw[dx]at hq
  obtain⟨q1,q2⟩:=hq
  have h1:=a4.1 q1
  have h2:Zgd T T[i].path=(i:Int):=by
   rw[q1]at a6
   rw[←a6 rfl]; simpa using q2
  have a8:=x3.trans x4
  have b5:=a7.trans a8
  refine⟨s,b0.at0 (r:=[]) (x2.trans a8) rfl,SE.Zc0.go (Zuo (hs.ext b5) hi h1.path λw5 x5=>⟨_,rfl,_,_,_,_,dd,ee,oo,a0.at1 (k:=1) (a8.trans x5) rfl,?_⟩)⟩
  have b2:=b5.trans x5
  refine SE.Zco.go (Zpt (p:=T[i].pack) c1 (hd.ext b2) (he.ext b2) (ho.ext b2) λw6 x6=>⟨_,rfl,bnd.drew λw7 x7=>bound (bound (bound ?_))⟩)
  have a9:=a8.trans (x5.trans (x6.trans x7))
  have b6:=a7.trans a9
  obtain⟨ew,_⟩:=hp.front h1.path
  have c2:0<T[i].path.length:=ig.2 h1.path
  have b4:T[i].path.length - 1<T[i].path.length:=oM
  obtain⟨al,b7,_,b8⟩:=Zzp hp b4
  refine⟨_,λ_=>a0.at1 (k:=1) a9 rfl,ps,λ_=>a0.at0 a9 rfl,ps,λ_=>a0.at0 a9 rfl,al,λ_=>by rw[ew]; exact⟨b7,oM,oM⟩,_,λ_=>by rw[ew,bw]; exact b8 _ b6,?_⟩
  refine hR _ w7 b6 ?_
  have a5:=lastB (p:=T[i].path) (n:=T[i].pack.name) b4
  constructor
  ·intro hq
   simp only[bx,decide_eq_true_eq]at hq
   obtain⟨⟨⟨k1,k2⟩,k3⟩,k4⟩:=hq
   exact⟨h1,h2,⟨k1,k2⟩,k3,a5.1 k4⟩
  ·rintro⟨_,_,⟨k1,k2⟩,k3,k4⟩
   rw[decide_eq_true k1,decide_eq_true k2,k3,a5.2 k4]; rfl
theorem Zyo{a b:List Span}{T:Nat→Prop}(hs:SlR spanE w S s a)(ht:SlR spanE w T t b)(hR: ∀w',Ext w w'→R (decide (a=b)) w'):SE.Zbe s t w R:=by
 unfold SE.Zbe
 have hl:=hs.len
 have a9:=ht.len
 refine⟨λh=>?_,λh=>?_⟩
 ·have:decide (a=b)=false:=decide_eq_false λe=>h (by rw[hl,a9,e])
  rw[←this]; exact hR _ xR
 have a4:a.length=b.length:=by
  have:=fj.1 h
  omega
 refine loop1.up hs.max (λi w'=>Ext w w'∧a.take i=b.take i) ⟨Ext.refl _,rfl⟩ λi w1 b2 hi ⟨x1,hI⟩ hn=>⟨λb0=>bnd.drew λw2 x2=>?_,λb1=>?_⟩
 ·have h1:i<a.length:=oM
  have h2:i<b.length:=oM
  obtain⟨ad,ha,_,hc⟩:=Zll hs h1
  obtain⟨a5,a6,_,a7⟩:=Zll ht h2
  have a0:=x1.trans x2
  refine⟨ad,⟨ha,oM,b0⟩,_,_,_,_,_,_,hc _ a0,a5,⟨a6,oM,oM⟩,_,_,_,_,_,_,a7 _ a0,?_⟩
  rw[Z2p]
  refine⟨λh=>?_,λh=>hn h1 _ ⟨a0,(Zkw h1 h2 hI).2 (by simpa using h)⟩⟩
  have:decide (a=b)=false:=decide_eq_false (Znk h1 h2 (by simpa using h))
  rw[←this]; exact hR _ a0
 ·have a8:i=a.length:=oM
  rw[a8,cu,a4,cu]at hI
  have:decide (a=b)=true:=decide_eq_true hI
  rw[←this]; exact hR _ x1
theorem depEq{x y:Dep}:decide (x=y)=(bEq x.name y.name&&decide (x.range=y.range)):=by
 obtain⟨n,l⟩:=x
 obtain⟨m,k⟩:=y
 rw[ep]
 simp only[decide_eq_true_eq,Dep.mk.injEq,bx,Zap]
theorem Zpc:Zfj prog 154:=enters_of func154 kR rfl
theorem Zui{x y:Dep}{T:Nat→Prop}(hs:SlR spanE w S s x.range)(ht:SlR spanE w T t y.range)(hR: ∀w',Ext w w'→R (decide (x=y)) w'):SE.Zh4 x.name s y.name t w R:=by
 unfold SE.Zh4
 rw[depEq]at hR
 refine newS.intro λa w1 x1 a5 _ _=>newS.intro λa1 w2 x2 a6 _ _=>⟨_,a5.at0 x2 rfl,_,a6.at0 xR rfl,bound ⟨s,λ_=>a5.at1 (k:=1) (r:=[]) x2 rfl,t,λ_=>a6.at1 (k:=1) (r:=[]) xR rfl,?_⟩⟩
 have a4:=x1.trans x2
 refine gCall.intro (decide (x.range=y.range)) (λ_ q hq=>SE.Zbe.go (Zyo (hs.ext a4) (ht.ext a4) λw' hx=>⟨_,rfl,hq _ hx⟩)) λa7 w3 x3 a0=>?_
 have h3:=hR w3 (a4.trans x3)
 cases hg:bEq x.name y.name with
 |false=>rw[hg]at h3; exact h3
 |true=>rw[hg]at h3 a0; rw[a0 rfl]; exact h3
theorem Zls{a b:List Dep}{T:Nat→Prop}(hs:SlR depE w S s a)(ht:SlR depE w T t b)(hR: ∀w',Ext w w'→R (decide (a=b)) w'):SE.Zh3 s t w R:=by
 unfold SE.Zh3
 refine SE.Z7.go ?_
 unfold SE.Z7
 have h1:=hs.len
 have h2:=ht.len
 have hf: ¬a=b→ ∀w',Ext w w'→R false w':=λb2 w' hx=>by
  have h3:=hR w' hx
  rw[decide_eq_false b2]at h3; exact h3
 refine⟨λh=>⟨_,rfl,hf (λe=>by subst e; omega) w xR⟩,λh=>?_⟩
 have b5:a.length=b.length:=by
  have:=fj.1 h
  omega
 refine loop1.up hs.max (λi w'=>Ext w w'∧a.take i=b.take i) ⟨Ext.refl _,rfl⟩ λi w1 b6 hi ⟨x1,hI⟩ hn=>⟨λb1=>?_,λb4=>?_⟩
 ·have k1:i<a.length:=oM
  have k2:i<b.length:=oM
  obtain⟨ad,u,ha,_,_,hr,hc⟩:=Zhw hs k1
  obtain⟨a6,u2,a7,_,_,b3,b0⟩:=Zhw ht k2
  refine⟨ad,⟨ha,oM,b1⟩,_,u,hc _ x1,newS.set rfl λa4 w2 x2 a8 _=>⟨a6,⟨a7,oM,oM⟩,_,u2,b0 _ (x1.trans x2),newS.set rfl λa5 w3 x3 a9 _=> ?_⟩⟩
  have a0:=x1.trans (x2.trans x3)
  refine⟨_,u,(a8.ext x3).ldc.pre (r:=[]) rfl,_,u2,a9.ldc.pre (r:=[]) rfl,_,_,rfl,Zpc,SE.Zh4.go (Zui (hr.ext a0) (b3.ext a0) λw4 x4=>⟨_,rfl,λhq=>?_,λhq=>?_⟩)⟩
  ·refine⟨_,rfl,hf (λhh=>?_) w4 (a0.trans x4)⟩
   have:a[i]=b[i]:=by subst hh; rfl
   rw[decide_eq_true this]at hq; cases hq
  ·exact hn k1 w4 ⟨a0.trans x4,Zu5 k1 k2 hI (by simpa using hq)⟩
 ·have:i=a.length:=oM
  subst this
  rw[cu,dg oM]at hI
  have h3:=hR w1 x1
  rw[decide_eq_true hI]at h3; exact⟨_,rfl,h3⟩
theorem packEq{x y:Pack}:decide (x=y)=(bEq x.name y.name&&decide (x.v=y.v)&&decide (x.deps=y.deps)&&decide (x.peers=y.peers)&&decide (x.opt=y.opt)):=by
 obtain⟨n,v,d,e,o⟩:=x
 obtain⟨n',v',d',e',o'⟩:=y
 rw[ep]
 simp only[decide_eq_true_eq,Pack.mk.injEq,bx,Zap]
 exact⟨λ⟨a,b,c,d,e⟩=>⟨⟨⟨⟨a,b⟩,c⟩,d⟩,e⟩,λ⟨⟨⟨⟨a,b⟩,c⟩,d⟩,e⟩=>⟨a,b,c,d,e⟩⟩
theorem Zh2{p q:Pack}{e d' e' o':Sl}{T:Nat→Prop}(hd:SlR depE w S d p.deps)(he:SlR depE w S e p.peers)(ho:SlR depE w S o p.opt)(b0:SlR depE w T d' q.deps)(b1:SlR depE w T e' q.peers)(b2:SlR depE w T o' q.opt)
  (hR: ∀w',Ext w w'→R (decide (p=q)) w'):SE.Zfy p.name p.v.ma p.v.mi p.v.pa d e o q.name q.v.ma q.v.mi q.v.pa d' e' o' w R:=by
 unfold SE.Zfy
 rw[packEq]at hR
 refine newS.intro λa w1 x1 hb _ _=>newS.intro λa1 w2 x2 a4 _ _=>⟨_,hb.at0 x2 rfl,_,a4.at0 xR rfl,bound ⟨_,_,_,λ_=>hb.at1 (k:=1) x2 rfl,_,_,_,λ_=>a4.at1 (k:=1) xR rfl,bound ⟨d,λ_=>hb.at1 (k:=4) x2 rfl,d',λ_=>a4.at1 (k:=4) xR rfl,?_⟩⟩⟩
 have a7:=x1.trans x2
 have ev:((p.v.ma==q.v.ma)&&((p.v.mi==q.v.mi)&&((p.v.pa==q.v.pa)&&true)))=decide (p.v=q.v):=verB
 rw[ev]
 refine gCall.intro (decide (p.deps=q.deps)) (λ_ k hk=>SE.Zh3.go (Zls (hd.ext a7) (b0.ext a7) λw' hx=>⟨_,rfl,hk _ hx⟩)) λt3 w3 x3 a6=>bound ⟨e,λ_=>hb.at1 (k:=5) (x2.trans x3) rfl,e',λ_=>a4.at1 (k:=5) x3 rfl,?_⟩
 have a8:=a7.trans x3
 refine gCall.intro (decide (p.peers=q.peers)) (λ_ k hk=>SE.Zh3.go (Zls (he.ext a8) (b1.ext a8) λw' hx=>⟨_,rfl,hk _ hx⟩)) λt4 w4 x4 a5=>bound ⟨o,λ_=>hb.at1 (k:=6) (r:=[]) (x2.trans (x3.trans x4)) rfl,o',λ_=>a4.at1 (k:=6) (r:=[]) (x3.trans x4) rfl,?_⟩
 have a9:=a8.trans x4
 refine gCall.intro (decide (p.opt=q.opt)) (λ_ k hk=>SE.Zh3.go (Zls (ho.ext a9) (b2.ext a9) λw' hx=>⟨_,rfl,hk _ hx⟩)) λt5 w5 x5 a0=>?_
 have h5:=hR w5 (a9.trans x5)
 cases hg:(bEq p.name q.name&&decide (p.v=q.v))with
 |false=>rw[hg]at h5; exact h5
 |true=>
  rw[hg]at h5 a6 a5 a0
  have a6:=a6 rfl
  subst a6
  cases h1:decide (p.deps=q.deps)with
  |false=>rw[h1]at h5; exact h5
  |true=>
   rw[h1]at h5 a5 a0
   have a5:=a5 rfl
   subst a5
   cases h2:decide (p.peers=q.peers)with
   |false=>rw[h2]at h5; exact h5
   |true=>
    rw[h2]at h5 a0
    have a0:=a0 rfl
    subst a0
    exact h5
open Classical in
noncomputable def Znv (T:List Dir):Int:=if TreeOk T then 0 else 42
theorem Zkf{T:List Dir}(h:TreeOk T):Znv T=0:=by unfold Znv; rw[if_pos h]
theorem Zo7{T:List Dir}(h: ¬TreeOk T):Znv T=42:=by unfold Znv; rw[if_neg h]
theorem Zo8{T:List Dir}:Znv T=0↔TreeOk T:=by
 constructor
 ·intro h
  exact Classical.byContradiction λhn=>by rw[Zo7 hn]at h; cases h
 ·exact Zkf
theorem Z6m{d:Dir}:(d.path= []∧d.pack=Zx∧d.node=0)↔d=⟨[],Zx,0⟩:=by
 obtain⟨p,k,n⟩:=d
 simp only[Dir.mk.injEq]
theorem Zu8{T:List Dir}{R:Int→World→Prop}(ht:Tab w)(hs:SlR dirE w S s T)(hb: ∀d∈T,d.path.length≤4000000000000)(hR: ∀w',Ext w w'→R (Znv T) w'):SE.Zfv s w R:=by
 unfold SE.Zfv
 have c1:=hs.len
 have a9: ∀w',Ext w w'→ ¬TreeOk T→R 42 w':=λw' hx h=>by have:=hR w' hx; rwa [Zo7 h]at this
 refine newS.intro λa w1 x1 a8 _ _=>⟨s,a8.ldc.pre (r:=[]) rfl,bound ⟨s,λ_=>a8.ldc.pre (r:=[]) rfl,λhc=>a9 w1 x1 λhF=>?_,λhc=>?_⟩⟩
 ·have:=hF.len
  rw[decide_eq_false oM,decide_eq_false oM]at hc
  cases hc
 simp only[dx,decide_eq_false_iff_not]at hc
 obtain⟨b7,b8⟩:=hc
 refine⟨s,a8.ldc.pre (r:=[]) rfl,?_⟩
 refine loop1.up hs.max (λi w'=>Ext w1 w'∧ ∀j (hj:j<T.length),j<i→(if j=0 then T[j]=⟨[],Zx,0⟩else StandsD T j T[j])) ⟨Ext.refl _,λj _ h=>by omega⟩ λi w2 c3 hi ⟨x2,hI⟩ hn=>⟨λb6=>?_,λb9=>?_⟩
 ·have a0:i<T.length:=oM
  have b3:=x1.trans x2
  obtain⟨ad,ps,dd,ee,oo,ha,_,c2,hp,hd,he,ho,hc⟩:=dirEl hs a0
  have b2:=hp.len
  refine⟨ad,⟨ha,oM,b6⟩,_,_,_,_,_,_,_,_,_,hc _ b3,newS.set rfl λa5 w3 x3 b0 _=>join.named λJ hJ=>?_⟩
  have a7:=b3.trans x3
  have a4: ∀(b:Bool) w',Ext w1 w'→(b=true↔(if i=0 then T[i]=⟨[],Zx,0⟩else StandsD T i T[i]))→J b w':=by
   subst hJ
   intro b w' hx hq
   refine⟨λh=>a9 w' (x1.trans hx) λhF=>?_,λh=>hn a0 w' ⟨hx,λj hj b5=>?_⟩⟩
   ·have:b=true:=hq.2 (by
     split
     ·rename_i h0
      subst h0
      have:=hF.root
      rw[bq a0]at this
      exact gu this
     ·rename_i h0
      exact hF.rest i _ (bq a0) h0)
    rw[this]at h; cases h
   ·rcases dn.1 b5 with h'|h'
    ·exact hI j hj h'
    ·subst h'; exact hq.1 (by simpa using h)
  clear hJ hn
  refine⟨λh0=>?_,λh0=>?_⟩
  ·have b1:i=0:=oM
   rw[if_pos b1]at a4
   rw[←Z6m]at a4
   generalize T[i]=d at*
   refine⟨ps,b0.at0 xR rfl,bound ⟨_,_,_,_,dd,ee,oo,λ_=>b0.at1 (k:=1) xR rfl,?_⟩⟩
   refine gCall.intro (decide (d.pack=Zx)) (λ_ q hq=>SE.Zfy.go (Zh2 (p:=d.pack) (q:=Zx) (T:=None') (hd.ext a7) (he.ext a7) (ho.ext a7) (SlR.nil trivial) (SlR.nil trivial) (SlR.nil trivial) λw4 x4=>⟨_,rfl,hq w4 x4⟩)) λc4 w4 x4 a6=>bound ⟨d.node,λ_=>b0.at1 (k:=8) (r:=[]) x4 rfl,a4 _ w4 (x2.trans (x3.trans x4)) ?_⟩
   have e1:(((ps.len:Nat):Int)==0)=true↔d.path= []:=by
    rw[beq_iff_eq]
    constructor
    ·intro h; exact cq oM
    ·intro h; rw[h]at b2; simp at b2; omega
   constructor
   ·intro hq
    simp only[bx]at hq
    obtain⟨⟨k1,k2⟩,k3⟩:=hq
    rw[a6 k1]at k2
    exact⟨e1.1 k1,of_decide_eq_true k2,by simpa using k3⟩
   ·rintro⟨k1,k2,k3⟩
    rw[e1.2 k1]at a6 ⊢
    rw[a6 rfl,decide_eq_true k2,k3]; rfl
  ·have b1:i≠0:=oM
   rw[if_neg b1]at a4
   refine⟨s,a8.at0 (r:=[]) (x2.trans x3) rfl,SE.Zh8.go (Zsx (ht.ext a7) (hs.ext a7) a0 hb λb w4 x4 hq=>⟨b,rfl,a4 b w4 (x2.trans (x3.trans x4)) hq⟩)⟩
 ·have h:=hR w2 (x1.trans x2)
  rw[Zkf ⟨⟨oM,oM⟩,?_,λi d hd h0=>?_⟩]at h
  ·exact h
  ·have:=hI 0 oM oM
   rw[if_pos rfl]at this
   rw[bq oM,this]
  ·obtain⟨b4,rfl⟩:=ce.1 hd
   have:=hI i b4 oM
   rwa [if_neg h0]at this
theorem Zwp{T:List Dir}{R:Int→World→Prop}(hs:SlR dirE w S s T)(hR: ∀w',Ext w w'→R (Znv T) w'):SE.Zdf s w R:=by
 unfold SE.Zdf
 have b9:=hs.len
 have a4: ∀w',Ext w w'→ ¬TreeOk T→R 42 w':=λw' hx h=>by have:=hR w' hx; rwa [Zo7 h]at this
 refine newS.intro λa w1 x1 a0 _ _=>⟨s,a0.ldc.pre (r:=[]) rfl,bound ⟨s,λ_=>a0.ldc.pre (r:=[]) rfl,λhc=>a4 w1 x1 λhF=>?_,λhc=>?_⟩⟩
 ·have:=hF.len
  rw[decide_eq_false oM,decide_eq_false oM]at hc
  cases hc
 simp only[dx,decide_eq_false_iff_not]at hc
 obtain⟨b5,b6⟩:=hc
 have h0:0<T.length:=oM
 obtain⟨ad,ps,dd,ee,oo,ha,_,c1,hp,hd,he,ho,hc⟩:=dirEl hs h0
 have a8:=hp.len
 refine⟨s,a0.ldc.pre (r:=[]) rfl,ad,⟨ha,oM,oM⟩,_,_,_,_,dd,ee,oo,(hc _ x1).mid (k:=1) rfl,?_⟩
 refine SE.Zbx.go (Zlb (p:=T[0].pack) (q:=Zx) (hd.ext x1) (he.ext x1) (ho.ext x1) (SlR.nil trivial) (SlR.nil trivial) (SlR.nil trivial) λw2 x2=>⟨_,rfl,s,a0.at0 (r:=[]) x2 rfl,ad,⟨ha,oM,oM⟩,ps,(hc _ (x1.trans x2)).pre rfl,bound (bound ⟨s,λ_=>a0.at0 (r:=[]) x2 rfl,ad,λ_=>⟨ha,oM,oM⟩,T[0].node,λ_=>(hc _ (x1.trans x2)).mid (k:=8) (r:=[]) rfl,?_⟩)⟩)
 have a7:=x1.trans x2
 have e1:(((ps.len:Nat):Int)==0)=decide (T[0].path= []):=by
  rw[ep,beq_iff_eq,decide_eq_true_eq]
  constructor
  ·intro h; exact cq oM
  ·intro h; rw[h]at a8; simp at a8; omega
 rw[e1]
 have a6:((!decide (T[0].path= [])|| !decide (T[0].pack=Zx))|| !(T[0].node==0))=false↔T[0]=⟨[],Zx,0⟩:=by
  rw[←Z6m]
  simp only[dx,ka,decide_eq_true_eq,beq_iff_eq,and_assoc]
 refine⟨λhq=>a4 w2 a7 λhF=>?_,λhq=>?_⟩
 ·have:=hF.root
  rw[bq h0]at this
  rw[a6.2 (gu this)]at hq; cases hq
 have b4:=a6.1 hq
 refine loop1.from1 hs.max (λi w'=>Ext w2 w'∧ ∀j (hj:j<T.length),j≠0→j<i→StandsD T j T[j]) ⟨Ext.refl _,λj _ h h'=>by omega⟩ λi w3 c2 h1 hi ⟨x3,hI⟩ hn=>⟨s,a0.at0 (r:=[]) (x2.trans x3) rfl,λb8=>?_,λb7=>?_⟩
 ·have a5:i<T.length:=oM
  have a9:=a7.trans x3
  refine⟨s,a0.at0 (r:=[]) (x2.trans x3) rfl,SE.Zc2.go (Zuq (hs.ext a9) a5 λb w4 x4 hq=>⟨b,rfl,λh=>a4 w4 (a9.trans x4) λhF=>?_,λh=>hn a5 w4 ⟨x3.trans x4,λj hj b2 b3=>?_⟩⟩)⟩
  ·rw[hq.2 (hF.rest i _ (bq a5) oM)]at h; cases h
  ·rcases dn.1 b3 with h'|h'
   ·exact hI j hj b2 h'
   ·subst h'; exact hq.1 (by simpa using h)
 ·have h:=hR w3 (a7.trans x3)
  rw[Zkf ⟨⟨oM,oM⟩,by rw[bq h0,b4],λi d hd b0=>?_⟩]at h
  ·exact h
  ·obtain⟨b1,rfl⟩:=ce.1 hd
   exact hI i b1 b0 oM
theorem Zkl{k:Mani}{e v d' e' o' v':Sl}{T:Nat→Prop}(hd:SlR depE w S d m.deps)(he:SlR depE w S e m.dev)(ho:SlR depE w S o m.opt)(hv:SlR depE w S v m.over)(a7:SlR depE w T d' k.deps)(a8:SlR depE w T e' k.dev)(a9:SlR depE w T o' k.opt)(b0:SlR depE w T v' k.over)
  (hR: ∀w',Ext w w'→R (decide (m=k)) w'):SE.Zff d e o v d' e' o' v' w R:=by
 unfold SE.Zff
 have eq:decide (m=k)=(decide ((⟨⟨#[]⟩,⟨0,0,0⟩,m.deps,m.dev,m.opt⟩:Pack)=⟨⟨#[]⟩,⟨0,0,0⟩,k.deps,k.dev,k.opt⟩)&&decide ((⟨⟨#[]⟩,⟨0,0,0⟩,m.over,[],[]⟩:Pack)=⟨⟨#[]⟩,⟨0,0,0⟩,k.over,[],[]⟩)):=by
  obtain⟨a,b,c,d⟩:=m
  obtain⟨a',b',c',d'⟩:=k
  rw[ep]
  simp only[decide_eq_true_eq,Mani.mk.injEq,Pack.mk.injEq,bx,true_and,and_true]
  exact⟨λ⟨a,b,c,d⟩=>⟨⟨a,b,c⟩,d⟩,λ⟨⟨a,b,c⟩,d⟩=>⟨a,b,c,d⟩⟩
 rw[eq]at hR
 refine newS.intro λa w1 x1 hb _ _=>newS.intro λa1 w2 x2 a4 _ _=>⟨d,hb.at0 x2 rfl,e,hb.at1 (k:=1) x2 rfl,o,hb.at1 (k:=2) x2 rfl,d',a4.at0 xR rfl,e',a4.at1 (k:=1) xR rfl,o',a4.at1 (k:=2) xR rfl,?_⟩
 have a0:=x1.trans x2
 refine SE.Zfy.go (Zh2 (p:=⟨⟨#[]⟩,⟨0,0,0⟩,m.deps,m.dev,m.opt⟩) (q:=⟨⟨#[]⟩,⟨0,0,0⟩,k.deps,k.dev,k.opt⟩) (hd.ext a0) (he.ext a0) (ho.ext a0) (a7.ext a0) (a8.ext a0) (a9.ext a0) λw3 x3=>⟨_,rfl,v,λ_=>hb.at1 (k:=3) (r:=[]) (x2.trans x3) rfl,v',λ_=>a4.at1 (k:=3) (r:=[]) x3 rfl,?_⟩)
 have a5:=a0.trans x3
 refine gCall.intro (decide ((⟨⟨#[]⟩,⟨0,0,0⟩,m.over,[],[]⟩:Pack)=⟨⟨#[]⟩,⟨0,0,0⟩,k.over,[],[]⟩)) (λ_ q hq=>SE.Zfy.go (Zh2 (p:=⟨⟨#[]⟩,⟨0,0,0⟩,m.over,[],[]⟩) (q:=⟨⟨#[]⟩,⟨0,0,0⟩,k.over,[],[]⟩) (S:=S) (T:=T) (hv.ext a5) (SlR.nil trivial) (SlR.nil trivial) (b0.ext a5) (SlR.nil trivial) (SlR.nil trivial) λw4 x4=>⟨_,rfl,hq w4 x4⟩)) λb1 w4 x4 a6=>?_
 have h4:=hR w4 (a5.trans x4)
 revert a6 h4
 cases decide ((⟨⟨#[]⟩,⟨0,0,0⟩,m.deps,m.dev,m.opt⟩:Pack)=⟨⟨#[]⟩,⟨0,0,0⟩,k.deps,k.dev,k.opt⟩)with
 |false=>exact λ_ h=>h
 |true=>exact λh1 h2=>by rw[h1 rfl]; exact h2
end Go.Hal
/-
 DERIVED:THE SHELF's CONTRACTS AT THIS DUMP,IN PLAIN WORDS (tools/lay-plain.mjs out of 'YtfilbiaaeecoaaaGreatDoorLay6.lean',which tools/lay-shelf.mjs wrote):THE SAME DECLARATIONS UNDER THE SAME NAMES:'import','namespace','open','def','theorem' AND NOTHING ELSE:no command of the shelf's:FOR A HAND-IN. Each laying:the table of numbers ('.._ren') and one theorem,a field a fact of the dump's own or the kernel's comparison; each contract:ONE APPLICATION.
-/
namespace Go.Proofs
def Tryz.laySn_ren:Go.Shelf.Ren:=⟨λ|6=>134|15=>50|14=>193|28=>104|29=>105|20=>236|21=>237|22=>238|23=>239|24=>240|25=>241|26=>242|27=>243|46=>287|47=>161|48=>162|49=>288|50=>289|57=>329|n=>n,λ|22=>158|24=>3|25=>194|3=>3|39=>125|0=>0|53=>187|55=>189|4=>4|46=>180|45=>179|50=>184|5=>5|9=>9|66=>243|70=>247|76=>300|77=>301|n=>n,λ|n=>n⟩
theorem Tryz.laySn:Go.Proofs.SlLaysF.n6 prog Tryz.laySn_ren:={
 mixed:=kR
 f6:=⟨Tryz.f134.name,by decide,func134.trans kS⟩
 f14:=⟨Tryz.f193.name,by decide,func193.trans kS⟩
 f15:=func50.trans kS
 f20:=⟨Tryz.f236.name,by decide,func236.trans kS⟩
 f21:=⟨Tryz.f237.name,by decide,func237.trans kS⟩
 f22:=⟨Tryz.f238.name,by decide,func238.trans kS⟩
 f23:=⟨Tryz.f239.name,by decide,func239.trans kS⟩
 f24:=⟨Tryz.f240.name,by decide,func240.trans kS⟩
 f25:=⟨Tryz.f241.name,by decide,func241.trans kS⟩
 f26:=⟨Tryz.f242.name,by decide,func242.trans kS⟩
 f27:=⟨Tryz.f243.name,by decide,func243.trans kS⟩
 f28:=func104.trans kS
 f29:=func105.trans kS
 f46:=⟨Tryz.f287.name,by decide,func287.trans kS⟩
 f47:=func161.trans kS
 f48:=func162.trans kS
 f49:=⟨Tryz.f288.name,by decide,func288.trans kS⟩
 f50:=⟨Tryz.f289.name,by decide,func289.trans kS⟩
 f57:=⟨Tryz.f329.name,by decide,func329.trans kS⟩
 t0:=underlying0
 a0:=Tryz.isAgg0
 z0:=Tryz.sizeOf0
 v0:=Tryz.zeroValue0
 t3:=underlying3
 a3:=Tryz.isAgg3
 z3:=Tryz.sizeOf3
 v3:=Tryz.zeroValue3
 t4:=underlying4
 a4:=Tryz.isAgg4
 z4:=Tryz.sizeOf4
 v4:=Tryz.zeroValue4
 t5:=underlying5
 a5:=Tryz.isAgg5
 z5:=Tryz.sizeOf5
 v5:=Tryz.zeroValue5
 t9:=underlying9
 a9:=Tryz.isAgg9
 z9:=Tryz.sizeOf9
 v9:=Tryz.zeroValue9
 t22:=underlying158
 a22:=Tryz.isAgg158
 z22:=Tryz.sizeOf158
 v22:=Tryz.zeroValue158
 a24:=Tryz.isAgg3
 z24:=Tryz.sizeOf3
 t25:=underlying194
 a25:=Tryz.isAgg194
 z25:=Tryz.sizeOf194
 v25:=Tryz.zeroValue194
 t39:=underlying125
 a39:=Tryz.isAgg125
 z39:=Tryz.sizeOf125
 v39:=Tryz.zeroValue125
 t45:=underlying179
 a45:=Tryz.isAgg179
 z45:=Tryz.sizeOf179
 v45:=Tryz.zeroValue179
 t46:=underlying180
 a46:=Tryz.isAgg180
 z46:=Tryz.sizeOf180
 v46:=Tryz.zeroValue180
 t50:=underlying184
 a50:=Tryz.isAgg184
 z50:=Tryz.sizeOf184
 v50:=Tryz.zeroValue184
 t53:=underlying187
 a53:=Tryz.isAgg187
 z53:=Tryz.sizeOf187
 v53:=Tryz.zeroValue187
 t55:=underlying189
 a55:=Tryz.isAgg189
 z55:=Tryz.sizeOf189
 v55:=Tryz.zeroValue189
 t66:=underlying243
 a66:=Tryz.isAgg243
 z66:=Tryz.sizeOf243
 v66:=Tryz.zeroValue243
 t70:=underlying247
 a70:=Tryz.isAgg247
 z70:=Tryz.sizeOf247
 v70:=Tryz.zeroValue247
 t76:=underlying300
 a76:=Tryz.isAgg300
 z76:=Tryz.sizeOf300
 v76:=Tryz.zeroValue300
 t77:=underlying301
 a77:=Tryz.isAgg301
 z77:=Tryz.sizeOf301
 v77:=Tryz.zeroValue301}
def Tryz.layFi_ren:Go.Shelf.Ren:=⟨λ|6=>79|15=>50|14=>138|28=>104|29=>105|20=>195|21=>196|22=>197|23=>198|24=>199|25=>200|26=>201|27=>202|46=>244|47=>161|48=>162|49=>245|50=>246|57=>290|n=>n,λ|22=>98|24=>155|25=>161|3=>3|39=>125|0=>0|53=>187|55=>189|4=>4|46=>180|45=>179|50=>184|5=>5|9=>9|66=>243|70=>247|76=>300|77=>301|n=>n,λ|n=>n⟩
theorem Tryz.layFi:Go.Proofs.SlLaysF0.n6 prog Tryz.layFi_ren:={
 mixed:=kR
 f6:=⟨Tryz.f79.name,by decide,func79.trans kS⟩
 f14:=⟨Tryz.f138.name,by decide,func138.trans kS⟩
 f15:=func50.trans kS
 f20:=⟨Tryz.f195.name,by decide,func195.trans kS⟩
 f21:=⟨Tryz.f196.name,by decide,func196.trans kS⟩
 f22:=⟨Tryz.f197.name,by decide,func197.trans kS⟩
 f23:=⟨Tryz.f198.name,by decide,func198.trans kS⟩
 f24:=⟨Tryz.f199.name,by decide,func199.trans kS⟩
 f25:=⟨Tryz.f200.name,by decide,func200.trans kS⟩
 f26:=⟨Tryz.f201.name,by decide,func201.trans kS⟩
 f27:=⟨Tryz.f202.name,by decide,func202.trans kS⟩
 f28:=func104.trans kS
 f29:=func105.trans kS
 f46:=⟨Tryz.f244.name,by decide,func244.trans kS⟩
 f47:=func161.trans kS
 f48:=func162.trans kS
 f49:=⟨Tryz.f245.name,by decide,func245.trans kS⟩
 f50:=⟨Tryz.f246.name,by decide,func246.trans kS⟩
 f57:=⟨Tryz.f290.name,by decide,func290.trans kS⟩
 t0:=underlying0
 a0:=Tryz.isAgg0
 z0:=Tryz.sizeOf0
 v0:=Tryz.zeroValue0
 t3:=underlying3
 a3:=Tryz.isAgg3
 z3:=Tryz.sizeOf3
 v3:=Tryz.zeroValue3
 t4:=underlying4
 a4:=Tryz.isAgg4
 z4:=Tryz.sizeOf4
 v4:=Tryz.zeroValue4
 t5:=underlying5
 a5:=Tryz.isAgg5
 z5:=Tryz.sizeOf5
 v5:=Tryz.zeroValue5
 t9:=underlying9
 a9:=Tryz.isAgg9
 z9:=Tryz.sizeOf9
 v9:=Tryz.zeroValue9
 t22:=underlying98
 a22:=Tryz.isAgg98
 z22:=Tryz.sizeOf98
 v22:=Tryz.zeroValue98
 t25:=underlying161
 a25:=Tryz.isAgg161
 z25:=Tryz.sizeOf161
 v25:=Tryz.zeroValue161
 t39:=underlying125
 a39:=Tryz.isAgg125
 z39:=Tryz.sizeOf125
 v39:=Tryz.zeroValue125
 t45:=underlying179
 a45:=Tryz.isAgg179
 z45:=Tryz.sizeOf179
 v45:=Tryz.zeroValue179
 t46:=underlying180
 a46:=Tryz.isAgg180
 z46:=Tryz.sizeOf180
 v46:=Tryz.zeroValue180
 t50:=underlying184
 a50:=Tryz.isAgg184
 z50:=Tryz.sizeOf184
 v50:=Tryz.zeroValue184
 t53:=underlying187
 a53:=Tryz.isAgg187
 z53:=Tryz.sizeOf187
 v53:=Tryz.zeroValue187
 t55:=underlying189
 a55:=Tryz.isAgg189
 z55:=Tryz.sizeOf189
 v55:=Tryz.zeroValue189
 t66:=underlying243
 a66:=Tryz.isAgg243
 z66:=Tryz.sizeOf243
 v66:=Tryz.zeroValue243
 t70:=underlying247
 a70:=Tryz.isAgg247
 z70:=Tryz.sizeOf247
 v70:=Tryz.zeroValue247
 t76:=underlying300
 a76:=Tryz.isAgg300
 z76:=Tryz.sizeOf300
 v76:=Tryz.zeroValue300
 t77:=underlying301
 a77:=Tryz.isAgg301
 z77:=Tryz.sizeOf301
 v77:=Tryz.zeroValue301}
def Tryz.layDi_ren:Go.Shelf.Ren:=⟨λ|6=>19|15=>50|14=>49|28=>104|29=>105|20=>96|21=>97|22=>98|23=>99|24=>100|25=>101|26=>102|27=>103|46=>160|47=>161|48=>162|49=>163|50=>164|57=>220|n=>n,λ|22=>28|24=>69|25=>86|3=>3|39=>125|0=>0|53=>187|55=>189|4=>4|46=>180|45=>179|50=>184|5=>5|9=>9|66=>243|70=>247|76=>300|77=>301|n=>n,λ|n=>n⟩
theorem Tryz.layDi:Go.Proofs.SlLaysF0.n6 prog Tryz.layDi_ren:={
 mixed:=kR
 f6:=⟨Tryz.f19.name,by decide,func19.trans kS⟩
 f14:=⟨Tryz.f49.name,by decide,func49.trans kS⟩
 f15:=func50.trans kS
 f20:=⟨Tryz.f96.name,by decide,func96.trans kS⟩
 f21:=⟨Tryz.f97.name,by decide,func97.trans kS⟩
 f22:=⟨Tryz.f98.name,by decide,func98.trans kS⟩
 f23:=⟨Tryz.f99.name,by decide,func99.trans kS⟩
 f24:=⟨Tryz.f100.name,by decide,func100.trans kS⟩
 f25:=⟨Tryz.f101.name,by decide,func101.trans kS⟩
 f26:=⟨Tryz.f102.name,by decide,func102.trans kS⟩
 f27:=⟨Tryz.f103.name,by decide,func103.trans kS⟩
 f28:=func104.trans kS
 f29:=func105.trans kS
 f46:=⟨Tryz.f160.name,by decide,func160.trans kS⟩
 f47:=func161.trans kS
 f48:=func162.trans kS
 f49:=⟨Tryz.f163.name,by decide,func163.trans kS⟩
 f50:=⟨Tryz.f164.name,by decide,func164.trans kS⟩
 f57:=⟨Tryz.f220.name,by decide,func220.trans kS⟩
 t0:=underlying0
 a0:=Tryz.isAgg0
 z0:=Tryz.sizeOf0
 v0:=Tryz.zeroValue0
 t3:=underlying3
 a3:=Tryz.isAgg3
 z3:=Tryz.sizeOf3
 v3:=Tryz.zeroValue3
 t4:=underlying4
 a4:=Tryz.isAgg4
 z4:=Tryz.sizeOf4
 v4:=Tryz.zeroValue4
 t5:=underlying5
 a5:=Tryz.isAgg5
 z5:=Tryz.sizeOf5
 v5:=Tryz.zeroValue5
 t9:=underlying9
 a9:=Tryz.isAgg9
 z9:=Tryz.sizeOf9
 v9:=Tryz.zeroValue9
 t22:=underlying28
 a22:=Tryz.isAgg28
 z22:=Tryz.sizeOf28
 v22:=Tryz.zeroValue28
 t25:=underlying86
 a25:=Tryz.isAgg86
 z25:=Tryz.sizeOf86
 v25:=Tryz.zeroValue86
 t39:=underlying125
 a39:=Tryz.isAgg125
 z39:=Tryz.sizeOf125
 v39:=Tryz.zeroValue125
 t45:=underlying179
 a45:=Tryz.isAgg179
 z45:=Tryz.sizeOf179
 v45:=Tryz.zeroValue179
 t46:=underlying180
 a46:=Tryz.isAgg180
 z46:=Tryz.sizeOf180
 v46:=Tryz.zeroValue180
 t50:=underlying184
 a50:=Tryz.isAgg184
 z50:=Tryz.sizeOf184
 v50:=Tryz.zeroValue184
 t53:=underlying187
 a53:=Tryz.isAgg187
 z53:=Tryz.sizeOf187
 v53:=Tryz.zeroValue187
 t55:=underlying189
 a55:=Tryz.isAgg189
 z55:=Tryz.sizeOf189
 v55:=Tryz.zeroValue189
 t66:=underlying243
 a66:=Tryz.isAgg243
 z66:=Tryz.sizeOf243
 v66:=Tryz.zeroValue243
 t70:=underlying247
 a70:=Tryz.isAgg247
 z70:=Tryz.sizeOf247
 v70:=Tryz.zeroValue247
 t76:=underlying300
 a76:=Tryz.isAgg300
 z76:=Tryz.sizeOf300
 v76:=Tryz.zeroValue300
 t77:=underlying301
 a77:=Tryz.isAgg301
 z77:=Tryz.sizeOf301
 v77:=Tryz.zeroValue301}
def Tryz.laySnn_ren:Go.Shelf.Ren:=⟨λ|6=>134|15=>50|14=>193|28=>104|29=>105|20=>236|21=>237|22=>238|23=>239|24=>240|25=>241|26=>242|27=>243|46=>287|47=>161|48=>162|49=>288|50=>289|57=>329|n=>n,λ|22=>158|24=>3|25=>194|3=>3|39=>125|0=>0|53=>187|55=>189|4=>4|46=>180|45=>179|50=>184|5=>5|9=>9|66=>243|70=>247|76=>300|77=>301|n=>n,λ|n=>n⟩
theorem Tryz.laySnn:Go.Proofs.SlLaysF0.n6 prog Tryz.laySnn_ren:={
 mixed:=kR
 f6:=⟨Tryz.f134.name,by decide,func134.trans kS⟩
 f14:=⟨Tryz.f193.name,by decide,func193.trans kS⟩
 f15:=func50.trans kS
 f20:=⟨Tryz.f236.name,by decide,func236.trans kS⟩
 f21:=⟨Tryz.f237.name,by decide,func237.trans kS⟩
 f22:=⟨Tryz.f238.name,by decide,func238.trans kS⟩
 f23:=⟨Tryz.f239.name,by decide,func239.trans kS⟩
 f24:=⟨Tryz.f240.name,by decide,func240.trans kS⟩
 f25:=⟨Tryz.f241.name,by decide,func241.trans kS⟩
 f26:=⟨Tryz.f242.name,by decide,func242.trans kS⟩
 f27:=⟨Tryz.f243.name,by decide,func243.trans kS⟩
 f28:=func104.trans kS
 f29:=func105.trans kS
 f46:=⟨Tryz.f287.name,by decide,func287.trans kS⟩
 f47:=func161.trans kS
 f48:=func162.trans kS
 f49:=⟨Tryz.f288.name,by decide,func288.trans kS⟩
 f50:=⟨Tryz.f289.name,by decide,func289.trans kS⟩
 f57:=⟨Tryz.f329.name,by decide,func329.trans kS⟩
 t0:=underlying0
 a0:=Tryz.isAgg0
 z0:=Tryz.sizeOf0
 v0:=Tryz.zeroValue0
 t3:=underlying3
 a3:=Tryz.isAgg3
 z3:=Tryz.sizeOf3
 v3:=Tryz.zeroValue3
 t4:=underlying4
 a4:=Tryz.isAgg4
 z4:=Tryz.sizeOf4
 v4:=Tryz.zeroValue4
 t5:=underlying5
 a5:=Tryz.isAgg5
 z5:=Tryz.sizeOf5
 v5:=Tryz.zeroValue5
 t9:=underlying9
 a9:=Tryz.isAgg9
 z9:=Tryz.sizeOf9
 v9:=Tryz.zeroValue9
 t22:=underlying158
 a22:=Tryz.isAgg158
 z22:=Tryz.sizeOf158
 v22:=Tryz.zeroValue158
 t25:=underlying194
 a25:=Tryz.isAgg194
 z25:=Tryz.sizeOf194
 v25:=Tryz.zeroValue194
 t39:=underlying125
 a39:=Tryz.isAgg125
 z39:=Tryz.sizeOf125
 v39:=Tryz.zeroValue125
 t45:=underlying179
 a45:=Tryz.isAgg179
 z45:=Tryz.sizeOf179
 v45:=Tryz.zeroValue179
 t46:=underlying180
 a46:=Tryz.isAgg180
 z46:=Tryz.sizeOf180
 v46:=Tryz.zeroValue180
 t50:=underlying184
 a50:=Tryz.isAgg184
 z50:=Tryz.sizeOf184
 v50:=Tryz.zeroValue184
 t53:=underlying187
 a53:=Tryz.isAgg187
 z53:=Tryz.sizeOf187
 v53:=Tryz.zeroValue187
 t55:=underlying189
 a55:=Tryz.isAgg189
 z55:=Tryz.sizeOf189
 v55:=Tryz.zeroValue189
 t66:=underlying243
 a66:=Tryz.isAgg243
 z66:=Tryz.sizeOf243
 v66:=Tryz.zeroValue243
 t70:=underlying247
 a70:=Tryz.isAgg247
 z70:=Tryz.sizeOf247
 v70:=Tryz.zeroValue247
 t76:=underlying300
 a76:=Tryz.isAgg300
 z76:=Tryz.sizeOf300
 v76:=Tryz.zeroValue300
 t77:=underlying301
 a77:=Tryz.isAgg301
 z77:=Tryz.sizeOf301
 v77:=Tryz.zeroValue301}
end Go.Proofs
namespace Go.Hal
open Go.Lib Go.Sort
section
variable {α:Type} [Inhabited α] (fn:α→Int)
end
end Go.Hal
namespace Go.Hal
theorem Zsg{ds:List Dr}{p:Path}{x:ByteArray}{n i:Nat}(h:Zbv ds (p.take n++ [x])=some i): ∀{k:Nat},n≤k→(∀m,n<m→m≤k→Zbv ds (p.take m++ [x])=none)→Zb8 ds p x k=some i
 |0,hn,_=>by
  have:n=0:=oM
  subst this
  exact h
 |k+1,hn,hno=>by
  unfold Zb8
  by_cases hk:n=k+1
  ·subst hk; rw[h]
  ·rw[hno (k+1) oM nR]
   exact Zsg h oM λm h1 h2=>hno m h1 oM
theorem Zne{ds:List Dr}{d:Dr}{p:Path}:Zbv (ds++ [d]) p=(Zbv ds p).or (if d.path=p then some ds.length else none):=by
 unfold Zbv
 rw[List.findIdx?_append]
 congr 1
 by_cases h:d.path=p
 ·rw[if_pos h]; simp[List.findIdx?_cons,h]
 ·rw[if_neg h]; simp[List.findIdx?_cons,h]
structure LInv(g:List Node)(s:PlS):Prop where
 look: ∀t∈s.done,Zb8 s.dirs (Zb s.dirs t.src) t.label (Zb s.dirs t.src).length=some t.dst
 node: ∀t∈s.done,∃e∈Z1 g (nodeAt s.dirs t.src),e.name=t.label∧(nodeAt s.dirs t.dst:Int)=e.to
 led: ∀i,i<s.dirs.length→i≠0→ ∃t∈s.done,t.dst=i∧t.src<i
theorem LInv.start:LInv g ⟨[⟨[],0⟩],[]⟩:=⟨(λt ht=>by cases ht),(λt ht=>by cases ht),λi h1 h2=>by simp at h1; omega⟩
theorem LInv.found{s:PlS}{to:Nat}(h:LInv g s)(hl:Zb8 s.dirs (Zb s.dirs a) e.name (Zb s.dirs a).length=some to)(he:e∈Z1 g (nodeAt s.dirs a))(hn:(nodeAt s.dirs to:Int)=e.to):LInv g ⟨s.dirs,s.done++ [⟨a,e.name,to⟩]⟩:=by
 refine⟨λt ht=>?_,λt ht=>?_,λi h1 h2=>?_⟩
 ·rcases dj.1 ht with ht|ht
  ·exact h.look t ht
  ·rw[ci]at ht; subst ht; exact hl
 ·rcases dj.1 ht with ht|ht
  ·exact h.node t ht
  ·rw[ci]at ht; subst ht; exact⟨e,he,rfl,hn⟩
 ·obtain⟨t,h3,h4⟩:=h.led i h1 h2
  exact⟨t,gb _ h3,h4⟩
theorem LInv.put{s:PlS}{d:Dr}(h:LInv g s)(hI:PInv g s a)(hd:s.dirs[a]? =some d)(hs:Spot s d.path e.name n)(he:e∈Z1 g d.node)(h0:0≤e.to):
  LInv g ⟨s.dirs++ [⟨d.path.take n++ [e.name],e.to.toNat⟩],s.done++ [⟨a,e.name,s.dirs.length⟩]⟩:=by
 have ha:=(ce.1 hd).1
 have a5:Zb (s.dirs++ [⟨d.path.take n++ [e.name],e.to.toNat⟩]) s.dirs.length=d.path.take n++ [e.name]:=by
  unfold Zb
  rw[ff nR,Nat.sub_self]
  rfl
 have a0:nodeAt (s.dirs++ [⟨d.path.take n++ [e.name],e.to.toNat⟩]) s.dirs.length=e.to.toNat:=by
  unfold nodeAt
  rw[ff nR,Nat.sub_self]
  rfl
 refine⟨λt ht=>?_,λt ht=>?_,λi h1 h2=>?_⟩
 ·rcases dj.1 ht with ht|ht
  ·obtain⟨_,h2,h3⟩:=hI.src t ht
   dsimp only
   rw[Zrd h2]
   obtain⟨n0,h4,h5,h6⟩:=Zk6 (h.look t ht)
   refine Zsg (Zkh h5) h4 λm h7 h8=>?_
   rw[Zne,h6 m h7 h8,Option.none_or]
   rw[if_neg]
   intro hc
   obtain⟨c1,c2⟩:=List.append_inj' hc rfl
   have c3:e.name=t.label:=by simpa using c2
   have a4:n=m:=by
    have:=congrArg List.length c1
    rw[cd,cd]at this
    have:=hs.le
    omega
   have hk:=hs.keep t ht c3.symm (by rw[c1]; exact me _ _)
   obtain⟨d5,e1,e2⟩:=Zdu h5
   rw[Zbl e1,e2]at hk
   simp only[br,cd,fl]at hk
   omega
  ·rw[ci]at ht
   subst ht
   dsimp only
   rw[Zrd ha,Zbl hd]
   refine Zsg (n:=n) ?_ hs.le λm h7 h8=>?_
   ·rw[Zne,hs.clear n nR hs.le,if_pos rfl]
    rfl
   ·rw[Zne,hs.clear m oM h8,Option.none_or,if_neg]
    intro hc
    have:=congrArg List.length hc
    simp only[br,cd,fl]at this
    have:=hs.le
    omega
 ·rcases dj.1 ht with ht|ht
  ·obtain⟨_,h2,h3⟩:=hI.src t ht
   dsimp only
   rw[Zgj h2,Zgj h3]
   exact h.node t ht
  ·rw[ci]at ht
   subst ht
   dsimp only
   rw[Zgj ha,Zd1 hd,a0]
   exact⟨e,he,rfl,oM⟩
 ·rw[br,fl]at h1
  by_cases hi:i=s.dirs.length
  ·subst hi
   exact⟨_,ii _ (ci.2 rfl),rfl,ha⟩
  ·obtain⟨t,h3,h4⟩:=h.led i oM h2
   exact⟨t,gb _ h3,h4⟩
theorem EdgeR.linv{I:PlI}{s t:PlS}{c:Int}(hk:kind=1∨kind=2∨kind=3)(h:EdgeR I s a e kind c t)(hI:PInv I.g s a)(hL:LInv I.g s)(ha:a<s.dirs.length)(hx:NewL s a e.name)(he:e∈Z1 I.g (nodeAt s.dirs a))(h0:0≤e.to):
  LInv I.g t∧(c=0→ ∃u∈t.done,u.src=a∧u.label=e.name)∧ ∃l,t.done=s.done++l:=by
 have hd:s.dirs[a]? =some s.dirs[a]:=bq ha
 cases h with
 |found to hr=>exact⟨hL.found hr.1 he hr.2.1,λ_=>⟨_,ii _ (ci.2 rfl),rfl,rfl⟩,_,rfl⟩
 |lost=>exact⟨hL,nO,[],by simp⟩
 |put n h1 h2 h3 h4=>
  have hs:Spot s (Zb s.dirs a) e.name n:=by
   rcases hk with hk|hk|hk
   ·exact absurd hk h2
   ·exact(h3 hk).spot
   ·rw[h4 hk,Zbl hd]; exact hI.spot hd hx
  rw[Zd1 hd]at he
  rw[Zbl hd]at hs ⊢
  exact⟨hL.put hI hd hs he h0,λ_=>⟨_,ii _ (ci.2 rfl),rfl,rfl⟩,_,rfl⟩
 |long=>exact⟨hL,nO,[],by simp⟩
 |deep=>exact⟨hL,nO,[],by simp⟩
end Go.Hal
namespace Go.Hal
structure GrPl(g:List Node):Prop where
 pos:0<g.length
 rise: ∀x∈g,RiseN Edge.name x.edges
 to: ∀x∈g,∀e∈x.edges,0≤e.to∧e.to<(g.length:Int)
theorem GrPl.edge(h:GrPl g){k:Nat}(he:e∈Z1 g k):0≤e.to∧e.to<(g.length:Int):=by
 unfold Z1 at he
 split at he
 ·rename_i x hx
  exact h.to x (ez hx) e he
 ·cases he
theorem GrPl.riseAt(h:GrPl g)(k:Nat):RiseN Edge.name (Z1 g k):=by
 unfold Z1
 split
 ·rename_i x hx
  exact h.rise x (ez hx)
 ·exact List.Pairwise.nil
theorem Ziz{k:Nat}:e∈Zge g k↔e∈Z1 g k:=by
 unfold Zge
 simp only[dj,jc,beq_iff_eq]
 constructor
 ·rintro(h|h|h)<;>exact h.1
 ·intro h
  rcases Zfx g k e with h1|h1|h1
  ·exact .inl ⟨h,h1⟩
  ·exact .inr (.inl ⟨h,h1⟩)
  ·exact .inr (.inr ⟨h,h1⟩)
theorem Zn1(h:GrPl g)(k:Nat):((Zge g k).map Edge.name).Nodup:=by
 have hr:=h.riseAt k
 have a0: ∀a∈Z1 g k,∀b∈Z1 g k,a.name=b.name→a=b:=λa ha b hb he=>hr.inj ha hb he
 have hn:(Z1 g k).Nodup:=by
  rw[fe]
  exact hr.imp λh e=>by rw[e]at h; exact Znu h rfl
 have ho:(Zge g k).Nodup:=by
  unfold Zge
  have f: ∀n:Nat,((Z1 g k).filter λe=>kindE g k e==n).Nodup:=λn=>hn.sublist List.filter_sublist
  refine gi.2 ⟨f 1,gi.2 ⟨f 2,f 3,λa ha b hb e=>?_⟩,λa ha b hb e=>?_⟩
  ·subst e
   have h1:=(jc.1 ha).2; have h2:=(jc.1 hb).2
   rw[beq_iff_eq]at h1 h2; omega
  ·subst e
   have h1:=(jc.1 ha).2
   rw[beq_iff_eq]at h1
   rcases dj.1 hb with hb|hb<;>(have h2:=(jc.1 hb).2; rw[beq_iff_eq]at h2; omega)
 rw[fe,fy]
 rw[fe]at ho
 exact List.Pairwise.imp_of_mem (λ{a b} ha hb h e=>h (a0 a (Ziz.1 ha) b (Ziz.1 hb) e)) ho
theorem EdgesR.inv{I:PlI}{k:Nat}(hg:GrPl I.g){s t:PlS}{c:Int}(h:EdgesR I a k s es c t):PInv I.g s a→LInv I.g s→a<s.dirs.length→nodeAt s.dirs a=k→(∀e∈es,e∈Z1 I.g k∧NewL s a e.name)→(es.map Edge.name).Nodup→
  PInv I.g t a∧LInv I.g t∧(∃l,t.dirs=s.dirs++l)∧(∃l,t.done=s.done++l)∧(c=0→ ∀e∈es,∃u∈t.done,u.src=a∧u.label=e.name):=by
 induction h with
 |nil s=>intro h1 h2 _ _ _ _; exact⟨h1,h2,⟨[],by simp⟩,⟨[],by simp⟩,λ_ e he=>by cases he⟩
 | @cons s t u e es c k1 k2 ih=>
  intro h1 h2 ha hk a4 a6
  obtain⟨he,hx⟩:=a4 e (.head _)
  have a5:=hg.edge he
  obtain⟨a1,a2⟩:=k1.inv (Zfx _ _ _) h1 ha hx a5
  obtain⟨b1,b2,lb,b3⟩:=k1.linv (Zfx _ _ _) h1 h2 ha hx (by rw[hk]; exact he) a5.1
  obtain⟨ld,a7⟩:=a2.dirs
  rw[fg,lj]at a6
  have a8:a<t.dirs.length:=by rw[a7,br]; omega
  obtain⟨c1,c2,⟨l1,c3⟩,⟨l2,c4⟩,c5⟩:=ih a1 b1 a8 (by rw[a7,Zgj ha]; exact hk) (λe' a0=>⟨(a4 e' (.tail _ a0)).1,a2.new _ (λhn=>a6.1 (hn▸fp a0)) (a4 e' (.tail _ a0)).2⟩) a6.2
  refine⟨c1,c2,⟨ld++l1,by rw[c3,a7,cc]⟩,⟨lb++l2,by rw[c4,b3,cc]⟩,λhc e' a0=>?_⟩
  rcases du.1 a0 with rfl|a0
  ·obtain⟨u',d1,d2⟩:=b2 rfl
   exact⟨u',by rw[c4]; exact gb _ d1,d2⟩
  ·exact c5 hc e' a0
 | @stop s t e es c k1 k2=>
  intro h1 h2 ha hk a4 a6
  obtain⟨he,hx⟩:=a4 e (.head _)
  have a5:=hg.edge he
  obtain⟨a1,a2⟩:=k1.inv (Zfx _ _ _) h1 ha hx a5
  obtain⟨b1,b2,lb,b3⟩:=k1.linv (Zfx _ _ _) h1 h2 ha hx (by rw[hk]; exact he) a5.1
  exact⟨a1,b1,a2.dirs,⟨lb,b3⟩,λhc=>absurd hc k2⟩
def Z6f(g:List Node)(s:PlS)(a:Nat):Prop:=∀i,i<a→i<s.dirs.length→ ∀e∈Z1 g (nodeAt s.dirs i),∃u∈s.done,u.src=i∧u.label=e.name
theorem DirsR.inv{I:PlI}(hg:GrPl I.g){s t:PlS}{c:Int}(h:DirsR I a s c t):PInv I.g s a→LInv I.g s→(∀u∈s.done,u.src<a)→Z6f I.g s a→c=0→ ∃n,PInv I.g t n∧LInv I.g t∧Z6f I.g t t.dirs.length:=by
 induction h with
 | @fin a s h1=>intro hI hL _ hA _; exact⟨a,hI,hL,λi h2 h3=>hA i oM h3⟩
 | @next a s t u c h1 h2 h3 ih=>
  intro hI hL hS hA hc
  obtain⟨a1,a2,⟨l1,a3⟩,⟨l2,a4⟩,a5⟩:=h2.inv hg hI hL h1 rfl (λe he=>⟨Ziz.1 he,λv hv hs=>by have:=hS v hv; omega⟩) (Zn1 hg _)
  refine ih a1.next a2 (λv hv=>by have:=(a1.src v hv).1; omega) (λi hi hl e he=>?_) hc
  rcases lw i a with a0|a0
  ·rw[a3,Zgj oM]at he
   obtain⟨v,b1,b2⟩:=hA i a0 oM e he
   exact⟨v,by rw[a4]; exact gb _ b1,b2⟩
  ·have:i=a:=oM
   subst this
   rw[a3,Zgj h1]at he
   exact a5 rfl e (Ziz.2 he)
 |stop h1 h2 h3=>intro _ _ _ _ hc; exact absurd hc h3
structure Placed(g:List Node)(ds:List Dr):Prop where
 root:ds[0]? =some ⟨[],0⟩
 one: ∀(i j:Nat) (d e:Dr),ds[i]? =some d→ds[j]? =some e→d.path=e.path→i=j
 up: ∀(i:Nat) (d:Dr) (p:Path) (x:ByteArray),ds[i]? =some d→d.path=p++ [x]→ ∃h,h<i∧Zbv ds p=some h
 node: ∀d∈ds,d.node<g.length
 look: ∀i,i<ds.length→ ∀e∈Z1 g (nodeAt ds i),∃j,Zb8 ds (Zb ds i) e.name (Zb ds i).length=some j∧(nodeAt ds j:Int)=e.to
 led: ∀i,i<ds.length→i≠0→ ∃j,j<i∧ ∃e∈Z1 g (nodeAt ds j),Zb8 ds (Zb ds j) e.name (Zb ds j).length=some i∧(nodeAt ds i:Int)=e.to
theorem DirsR.placed{I:PlI}(hg:GrPl I.g){t:PlS}(h:DirsR I 0 ⟨[⟨[],0⟩],[]⟩ 0 t):Placed I.g t.dirs:=by
 obtain⟨n,hI,hL,hA⟩:=h.inv hg (PInv.start hg.pos) LInv.start (λu hu=>by cases hu) (λi hi=>by omega) rfl
 refine⟨hI.root,hI.one,hI.up,hI.node,λi hi e he=>?_,λi hi h0=>?_⟩
 ·obtain⟨u,h1,h2,h3⟩:=hA i hi hi e he
  obtain⟨e',h4,h5,h6⟩:=hL.node u h1
  have h7:=hL.look u h1
  rw[h2]at h4 h7
  rw[h3]at h7 h5
  have:=(hg.riseAt _).inj h4 he h5
  subst this
  exact⟨u.dst,h7,h6⟩
 ·obtain⟨u,h1,h2,h3⟩:=hL.led i hi h0
  obtain⟨e',h4,h5,h6⟩:=hL.node u h1
  have h7:=hL.look u h1
  rw[←h5,h2]at h7
  rw[h2]at h6
  exact⟨u.src,h3,e',h4,h7,h6⟩
end Go.Hal
namespace Go.Hal
end Go.Hal
namespace Go.Hal
end Go.Hal
namespace Go.Hal
end Go.Hal
namespace Go.Hal
def tLock:List UInt8:=[108,111,99,107,10]
structure NodePl(g:List Node)(ps:List Pack)(i:Nat)(x:Node):Prop where
 pack:i≠0→ ∃p,ps[i]? =some p∧Zbb p=true∧p.name=x.name∧p.v=x.v
 ctx:RiseN Pin.name x.ctx
 edges:RiseN Edge.name x.edges
 edge: ∀e∈x.edges,∃(j:Nat) (y:Node),e.to=(j:Int)∧1≤j∧g[j]? =some y∧y.name=e.name
 full: ∀q∈x.ctx,∃y,Znx g x q.name=some y∧y.v=q.v
structure PlaceOk(g:List Node)(ps:List Pack):Prop where
 len:1≤g.length∧g.length≤128
 packs:ps.length=g.length
 root: ∃x,g[0]? =some x∧x.key=rootNode.key
 zero:ps[0]? =some ⟨⟨#[]⟩,⟨0,0,0⟩,[],[],[]⟩
 node: ∀i x,g[i]? =some x→NodePl g ps i x
theorem Zuj{p:Pack}(h:Zbb p=true):Zn p.name=true:=by
 unfold Zbb Zdk at h
 simp only[bx]at h
 first|exact h.1.1|exact h.1.1.1|exact h.1.1.1.1|exact h.1.1.1.1.1
theorem PlaceOk.name(h:PlaceOk g ps){x:Node}(hx:g[i]? =some x)(he:e∈x.edges):Zn e.name=true:=by
 obtain⟨j,y,h1,h2,h3,h4⟩:=(h.node i x hx).edge e he
 obtain⟨p,_,h5,h6,_⟩:=(h.node j y h3).pack oM
 rw[←h4,←h6]
 exact Zuj h5
end Go.Hal
namespace Go.Hal
def dirOf(ps:List Pack)(d:Dr):Dir:=⟨d.path,ps.getD d.node Zx,d.node⟩
theorem Zm9(ps:List Pack)(d:Dr):drOf (dirOf ps d)=d:=by
 unfold drOf dirOf
 simp
theorem Zk8{ds:List Dr}:(ds.map (dirOf ps)).map drOf=ds:=by
 rw[gc]
 conv=>rhs; rw[←List.map_id ds]
 exact jo λd _=>Zm9 ps d
end Go.Hal
namespace Go.Hal
def Zo1(I:PlI)(s:PlS):Prop:=(∀d∈s.dirs,d.path= []∨(I.tlen d.path:Int)≤I.maxP)∧(s.dirs.length:Int)≤I.maxD+1
theorem EdgeR.small{I:PlI}{s t:PlS}{c:Int}(h:EdgeR I s a e kind c t)(hs:Zo1 I s):Zo1 I t:=by
 cases h with
 |found=>exact hs
 |lost=>exact hs
 |long=>exact hs
 |deep=>exact hs
 |put n h1 h2 h3 h4 h5 h6=>
  refine⟨λd hd=>?_,?_⟩
  ·rcases dj.1 hd with hd|hd
   ·exact hs.1 d hd
   ·rw[ci]at hd; subst hd; exact .inr h5
  ·rw[br,fl]; omega
theorem Zn0{p q:Path}:Zav (p++q)=true↔Zav p=true∧Zav q=true:=by
 unfold Zav
 rw[mm,bx]
theorem Zsj{p:Path}(h:Zav p=true)(n:Nat):Zav (p.take n)=true:=by
 have:=h
 rw[←dc n p,Zn0]at this
 exact this.1
theorem Placed.last{ds:List Dr}(h:Placed g ds)(hG:PlaceOk g ps){d:Dr}(hd:ds[i]? =some d)(h0:i≠0):
  ∃(j n:Nat) (b:Dr) (e:Edge) (k:Nat) (y:Node) (p:Pack),j<i∧ds[j]? =some b∧d.path=b.path.take n++ [e.name]∧Zn e.name=true∧d.node=k∧1≤k∧g[k]? =some y∧y.name=e.name∧ps[k]? =some p∧Zbb p=true∧p.name=e.name:=by
 have hi:=(ce.1 hd).1
 obtain⟨j,hj,e,h1,h2,h3⟩:=h.led i hi h0
 have a5:j<ds.length:=oM
 have a0:ds[j]? =some ds[j]:=bq a5
 rw[Zd1 a0]at h1
 rw[Zd1 hd]at h3
 obtain⟨n,_,h4,_⟩:=Zk6 h2
 obtain⟨d',h5,h6⟩:=Zdu h4
 rw[hd]at h5
 cases h5
 rw[Zbl a0]at h6
 unfold Z1 at h1
 split at h1
 ·rename_i x hx
  obtain⟨k,y,a1,a2,a3,a4⟩:=(hG.node _ x hx).edge e h1
  obtain⟨p,b1,b2,b3,_⟩:=(hG.node k y a3).pack oM
  exact⟨j,n,_,e,k,y,p,hj,a0,h6,hG.name hx h1,oM,a2,a3,a4,b1,b2,b3.trans a4⟩
 ·cases h1
theorem Placed.names{ds:List Dr}(h:Placed g ds)(hG:PlaceOk g ps): ∀(i:Nat) (d:Dr),ds[i]? =some d→Zav d.path=true:=λi=>by
 induction i using Nat.strongRecOn with
 |ind i ih=>
  intro d hd
  by_cases h0:i=0
  ·subst h0
   rw[h.root]at hd
   cases hd; rfl
  ·obtain⟨j,n,b,e,_,_,_,h1,h2,h3,h4,_⟩:=h.last hG hd h0
   rw[h3,Zn0]
   exact⟨Zsj (ih j h1 b h2) n,by unfold Zav; simp[h4]⟩
theorem Placed.dirsOk{ds:List Dr}(h:Placed g ds)(hG:PlaceOk g ps):DirsOk ds:=
 ⟨λd hd=>by obtain⟨i,hi⟩:=ip hd; exact h.names hG i d hi,h.one⟩
end Go.Hal
namespace Go.Hal
end Go.Hal
namespace Go.Hal
end Go.Hal
namespace Go.Hal
theorem Z4h:(prog.info? 9).map (λi=>(i.zero,i.size,i.bytes))=some (some (.string ⟨#[]⟩),1,16):=kR
theorem Zy4{R:Sl→World→Prop}(hn:n≤9000000000000)(hR: ∀t w',Ext w w'→OwnS strE 9 w' w.heap.size None' t []→R t w'):
  semS prog (Instr.makeSlice 67 (Value.int .i64 0) (Value.int .i64 (n:Int))) w λv w'=>∃t:Sl,v=Sl.v t∧R t w':=by
 obtain⟨i,h2,hi⟩:=iy.1 Z4h
 simp only[Prod.mk.injEq]at hi
 obtain⟨h3,h5,h6⟩:=hi
 refine⟨_,_,run_make w 67 9 i (.string ⟨#[]⟩) underlying67 h2 h3 .i64 .i64 0 n (Int.le_refl _) oM (by rw[h6]; omega) oM,⟨some ⟨w.heap.size,0,none⟩,0,n⟩,by simp[Sl.v],hR _ _ (Ext.alloc _ _) ?_⟩
 refine⟨⟨[],⟨by simp,.inr ⟨w.heap.size,n,_,rfl,df _,heap_alloc_new w _,eh _,by rw[Zd]; omega,?_,by simp⟩⟩,rfl,λi x h=>by simp at h⟩,rfl,λ_ h=>h.elim,λ_ _ h=>h.elim⟩
 rw[h5]
 simp[madeCells,strE,Zoi]
theorem Zph{t0:Sl}{p:Path}{x:ByteArray}{R:Sl→World→Prop}(o:OwnS strE 9 w w0.heap.size None' t0 [])(x0:Ext w0 w)(hS:Old S w0)(hs:SlR strE w0 S s p)(hx:Str x)(hb:p.length≤4000000000000)
  (hR: ∀t w',Ext w0 w'→OwnS strE 9 w' w0.heap.size None' t (p++ [x])→R t w'):
  appS prog 67 67 t0 (Sl.v s) w λa7 a8=>newS a8 [(Value.string x)] 9 λa a9=>appS prog 67 67 a7 (Sl.v (Sl.mk (some a) 1 1)) a9 R:=by
 have a4:strE.bytes=16:=rfl
 have fresh: ∀ad,t0.a=some ad→ ¬S ad.block:=λad h a5=>by
  have:=(o.block h).1; have:=hS _ a5; omega
 refine o.appAll Zz8 x0.size (hs.ext x0) (hS.ext x0.size) fresh (by rw[a4]; simp; unfold room; omega) (by rw[Zd]; simp; omega) λr1 w1 o1 a0 _ _=> ?_
 rw[em]at o1
 have x1:Ext w0 w1:=x0.trans' a0
 refine newS.intro λa w2 x2 a6 _ _=> ?_
 exact((OwnS.flat (λh=>h) o1).ext x2).pushF (x1.trans x2) Zz8 (x:=x) ⟨rfl,hx⟩ (a6.ldc.pre (r:=[]) rfl) dC (by rw[a4]; unfold room; omega) λr w3 o3 x3=>hR r w3 x3 o3
theorem Zsz{p:Path}{x:ByteArray}{R:Sl→World→Prop}(hS:Old S w)(hs:SlR strE w S s p)(hx:Str x)(hb:p.length≤4000000000000)(hR: ∀t w',Ext w w'→OwnS strE 9 w' w.heap.size None' t (p++ [x])→R t w'):SE.Zga s x w R:=by
 unfold SE.Zga
 have hl:=hs.len
 have e:Za ((s.len:Int)+1)=((p.length+1:Nat):Int):=by rw[Zc oM oM]; omega
 rw[e]
 exact Zy4 oM λt w1 x1 o1=>Zph o1 x1 hS hs hx hb hR
theorem Zur{p:Path}{x:ByteArray}{R:Sl→World→Prop}(hS:Old S w)(hs:SlR strE w S s p)(hx:Str x)(hb:p.length≤4000000000000)(hR: ∀t w',Ext w w'→OwnS strE 9 w' w.heap.size None' t (p++ [x])→R t w'):SE.Zc3 s x w R:=by
 unfold SE.Zc3
 exact Zph (OwnS.zero w) xR hS hs hx hb hR
theorem OwnS.strs{T:TypeId}{l:List ByteArray}(h:OwnS strE T w lo None' s l)(hl:l.length≤5000000000000):SlR strE w (λb=>lo≤b) s l:=h.readF dC (by show l.length*16≤room; unfold room; omega)
def Zy3(T:List Dir)(i:Nat)(x:ByteArray):Int:=match lookT T i x with
 |some j=>(j:Int)
 |none=>-1
def optI(o:Option Nat):Int:=match o with
 |some j=>(j:Int)
 |none=>-1
theorem Zgk{o:Option Nat}:0≤optI o↔ ∃j,o=some j:=by
 cases o with
 |none=>exact⟨λh=>by have h:(0:Int)≤ -1:=h; omega,λ⟨j,h⟩=>by cases h⟩
 |some j=>exact⟨λ_=>⟨j,rfl⟩,λ_=>by show(0:Int)≤(j:Int); omega⟩
theorem Zgu(T:List Dir)(p:Path):Zgd T p=optI (Zbv (T.map drOf) p):=rfl
theorem Z43{T:List Dir}(h:i<T.length):Zb (T.map drOf) i=T[i].path:=by
 unfold Zb
 rw[fi,bq h]; rfl
theorem Z1j{ds:List Dr}{p:Path}{x:ByteArray}{k:Nat}(h:Zbv ds (p.take k++ [x])=some i):Zb8 ds p x k=some i:=by
 cases k with
 |zero=>rw[Zb8]; exact h
 |succ k=>rw[Zb8,h]
theorem Z4s{ds:List Dr}{p:Path}{x:ByteArray}{k:Nat}(h:Zbv ds (p.take (k+1)++ [x])=none):Zb8 ds p x (k+1)=Zb8 ds p x k:=by rw[Zb8,h]
theorem Z1i{ds:List Dr}{p:Path}{x:ByteArray}(h:Zbv ds (p.take 0++ [x])=none):Zb8 ds p x 0=none:=by rw[Zb8]; exact h
theorem Zxn{ps:Sl}{T:List Dir}{p:Path}{x:ByteArray}{a:Addr}{jn fd:Nat}{R:Int→World→Prop}(hS:Old S w0)(hs:SlR dirE w0 S s T)(hp:SlR strE w0 S ps p)(hx:Str x)(hb:p.length≤4000000000000)(x0:Ext w0 w)(ha:BoxAt w a [s.v])
  (hj: ∀{t:Sl} {q:Path} {w':World} {k:Value→World→Prop},Ext w0 w'→SlR strE w' S t q→q.length≤4000000000000→(∀r a4,Ext w' a4→OwnS strE 9 a4 w'.heap.size None' r (q++ [x])→k (Sl.v r) a4)→callS prog jn [t.v,.string x] w' k)
  (hf: ∀{t:Sl} {q:Path} {Q:Nat→Prop} {w':World} {k:Value→World→Prop},Ext w0 w'→SlR strE w' Q t q→(∀a4,Ext w' a4→k (.int .i64 (Zgd T q)) a4)→callS prog fd [.agg #[s.v],t.v] w' k)
  (hR: ∀w',Ext w0 w'→R (optI (Zb8 (T.map drOf) p x p.length)) w'):
  loop1 (ps.len:Int) w λvk b2 b0=>((0≤vk→bnd b2.drew λ(b3:World)=>∃(a0:Sl),(ldc b3 a [(Sl.v a0)])∧((0:Int)≤vk∧vk≤(ps.cap:Int))∧callX prog jn [(Sl.v (Sl.cut ps 0 vk.toNat 1)),(Value.string x)] b3 λb6 b8=>∃(b1:Sl),b6=(Sl.v b1)∧callS prog fd [(Value.agg #[(Sl.v a0)]),(Sl.v b1)] b8 λb7 a9=>∃(a6:Int),b7=(Value.int .i64 a6)∧((0≤a6→R a6 a9)∧(¬(0≤a6)→b0 (Za (vk - 1)) a9)))∧(¬(0≤vk)→R (-1) b2)):=by
 have c3:=hp.len
 have b9:p.length≤ps.cap:=hp.2.1
 refine loop1.ghost (λm i w'=>i=(m:Int) - 1∧m≤p.length+1∧Ext w w'∧(match m with
  |0=>Zb8 (T.map drOf) p x p.length=none
  |k+1=>Zb8 (T.map drOf) p x p.length=Zb8 (T.map drOf) p x k)) (p.length+1) ⟨oM,df _,Ext.refl _,rfl⟩ λm i w5 b0 ⟨hi,hm,x5,hI⟩ hn=>⟨λc1=>bnd.drew λw6 x6=>?_,λc2=>?_⟩
 ·obtain⟨k,rfl⟩: ∃k,m=k+1:=⟨m - 1,oM⟩
  have b4:i=(k:Int):=oM
  subst b4
  have a7:=x0.trans (x5.trans x6)
  have hI:Zb8 (T.map drOf) p x p.length=Zb8 (T.map drOf) p x k:=hI
  refine⟨s,(ha.ext (x5.trans x6)).ldc.pre (r:=[]) rfl,⟨oM,oM⟩,?_⟩
  rw[bw]
  have a8:=(hp.ext a7).cut (a:=0) (b:=k) (eh _) oM
  rw[gz]at a8
  refine callX.intro (hj a7 a8 (by rw[cd]; omega) λr w7 x7 o7=>⟨x7,r,rfl,hf (a7.trans x7) (o7.strs (by rw[br,cd,fl]; omega)) λw8 x8=>⟨_,rfl,λhq=>?_,λhq=>?_⟩⟩)
  ·rw[Zgu]at hq ⊢
   obtain⟨j,hj⟩:=Zgk.1 hq
   have h:=hR w8 (a7.trans (x7.trans x8))
   rw[hI,Z1j hj]at h
   rw[hj]; exact h
  ·have a5:Zbv (T.map drOf) (p.take k++ [x])=none:=by
    rw[Zgu]at hq
    cases hd:Zbv (T.map drOf) (p.take k++ [x])with
    |none=>rfl
    |some j=>exact absurd (Zgk.2 ⟨j,hd⟩) hq
   refine hn k _ w8 oM ⟨?_,oM,x5.trans (x6.trans (x7.trans x8)),?_⟩
   ·rw[Zc oM oM]
   ·cases k with
    |zero=>exact hI.trans (Z1i a5)
    |succ k=>exact hI.trans (Z4s a5)
 ·have b5:m=0:=oM
  subst b5
  have hI:Zb8 (T.map drOf) p x p.length=none:=hI
  have h:=hR w5 (x0.trans x5)
  rw[hI]at h; exact h
theorem Zoq{T:List Dir}{x:ByteArray}(h:i<T.length):Zy3 T i x=if Zn x then optI (Zb8 (T.map drOf) T[i].path x T[i].path.length)else -1:=by
 unfold Zy3 lookT
 rw[Z43 h]
 cases Zn x<;>rfl
theorem look_se{T:List Dir}{x:ByteArray}{R:Int→World→Prop}(hS:Old S w)(hs:SlR dirE w S s T)(hi:i<T.length)(hx:Str x)(hb: ∀d∈T,d.path.length≤4000000000000)(hR: ∀w',Ext w w'→R (Zy3 T i x) w'):SE.Zj2 s (i:Int) x w R:=by
 unfold SE.Zj2
 have a7:=hs.len
 rw[Zoq hi]at hR
 obtain⟨ad,ps,dd,ee,oo,ha,_,_,hp,_,_,_,hc⟩:=dirEl hs hi
 have hb:=hb _ (cj hi)
 refine newS.intro λa w1 x1 a4 _ _=>bound ⟨s,λ_=>a4.ldc.pre (r:=[]) rfl,bound ?_⟩
 have e:(decide ((i:Int)<0)||decide ((s.len:Int)≤(i:Int)))=false:=by rw[decide_eq_false oM,decide_eq_false oM]; rfl
 rw[e]
 refine gCall.intro (Zn x) (λ_ q hq=>SE.Zep.go (scanName_se hx λw2 x2=>⟨_,rfl,hq w2 x2⟩)) λa8 w2 x2 ht=>?_
 have ht:=ht rfl
 subst ht
 have a6:=x1.trans x2
 refine⟨λhq=>?_,λhq=>?_⟩
 ·have hn:Zn x=false:=by simpa using hq
  rw[hn]at hR
  exact hR w2 a6
 ·have hn:Zn x=true:=by simpa using hq
  rw[hn]at hR
  refine⟨s,a4.at0 (r:=[]) x2 rfl,ad,⟨ha,oM,oM⟩,ps,(hc _ a6).pre rfl,?_⟩
  exact Zxn hS hs hp hx hb a6 (a4.ext x2) (λx' ht hq hk=>SE.Zga.go (Zsz (hS.ext x'.size) ht hx hq λr a5 a0 o=>hk r a5 a0 o)) (λx' ht hk=>SE.Zg4.go (Zjy (hs.ext x') ht λa5 a0=>hk a5 a0)) λw' a0=>hR w' a0
theorem Zrg{T:List Dir}{x:ByteArray}{R:Int→World→Prop}(hS:Old S w)(hs:SlR dirE w S s T)(hi:i<T.length)(hx:Str x)(hb: ∀d∈T,d.path.length≤4000000000000)(hR: ∀w',Ext w w'→R (Zy3 T i x) w'):SE.Zcy s (i:Int) x w R:=by
 unfold SE.Zcy
 have a7:=hs.len
 rw[Zoq hi]at hR
 obtain⟨ad,ps,dd,ee,oo,ha,_,_,hp,_,_,_,hc⟩:=dirEl hs hi
 have hb:=hb _ (cj hi)
 refine newS.intro λa w1 x1 a4 _ _=>SE.Zay.go (r04Name_se hx λw2 x2=>⟨_,rfl,bound ⟨s,λ_=>a4.at0 (r:=[]) x2 rfl,bound ?_⟩⟩)
 have e:(decide ((i:Int)<0)||decide ((s.len:Int)≤(i:Int)))=false:=by rw[decide_eq_false oM,decide_eq_false oM]; rfl
 rw[e]
 have a6:=x1.trans x2
 refine⟨λhq=>?_,λhq=>?_⟩
 ·have hn:Zn x=false:=by simpa using hq
  rw[hn]at hR
  exact hR w2 a6
 ·have hn:Zn x=true:=by simpa using hq
  rw[hn]at hR
  refine⟨s,a4.at0 (r:=[]) x2 rfl,ad,⟨ha,oM,oM⟩,ps,(hc _ a6).pre rfl,?_⟩
  exact Zxn hS hs hp hx hb a6 (a4.ext x2) (λx' ht hq hk=>SE.Zc3.go (Zur (hS.ext x'.size) ht hx hq λr a5 a0 o=>hk r a5 a0 o)) (λx' ht hk=>SE.Zbi.go (Zi6 (hs.ext x') ht λa5 a0=>hk a5 a0)) λw' a0=>hR w' a0
structure PC where
 u:Sl
 ps:Sl
 l1:Int
 l2:Int
 l3:Int
 l4:Int
 ol:Option Addr
 dr:Sl
 st:Sl
def PC.c(c:PC):List Value:=[c.u.v,c.ps.v,.int .i64 c.l1,.int .i64 c.l2,.int .i64 c.l3,.int .i64 c.l4,.pointer c.ol,c.dr.v,c.st.v]
def OldR(w:World)(S:Nat→Prop):Option (List Dir)→Option Addr→Prop
 |none,none=>True
 |some T,some a=>S a.block∧ ∃so,ldc w a [Sl.v so]∧SlR dirE w S so T
 |_,_=>False
structure PlV(E:Enc Stl)(w:World)(p:Addr)(S:Nat→Prop)(c:PC)(G:List Node)(P:List Pack)(old:Option (List Dir))(s:PlS):Prop where
 box:BoxAt w p c.c
 g:SlR nodeE w S c.u G
 pk:SlR packE w S c.ps P
 dr:SlR dirE w S c.dr (s.dirs.map (dirOf P))
 st:SlR E w S c.st s.done
 old:OldR w S old c.ol
 lt:Old S w
section
variable {E:Enc Stl} {w w':World} {p:Addr} {S:Nat→Prop} {c:PC} {G:List Node} {P:List Pack} {old:Option (List Dir)} {s:PlS}
theorem OldR.ext{ol:Option Addr}(h:OldR w S old ol)(hx:Ext w w'):OldR w' S old ol:=by
 unfold OldR at*
 split at h
 ·trivial
 ·obtain⟨h1,so,h2,h3⟩:=h
  exact⟨h1,so,h2.ext hx,h3.ext hx⟩
 ·exact h
theorem PlV.ext(h:PlV E w p S c G P old s)(hx:Ext w w'):PlV E w' p S c G P old s:=⟨h.box.ext hx,h.g.ext hx,h.pk.ext hx,h.dr.ext hx,h.st.ext hx,h.old.ext hx,h.lt.ext hx.size⟩
theorem PlV.ld(h:PlV E w p S c G P old s)(hx:Ext w w')(k:Nat){r:List Value}(hp:c.c.drop k=cs++r):ldc w' (p.add k) cs:=h.box.at1 hx hp
theorem PlV.ld0(h:PlV E w p S c G P old s)(hx:Ext w w'):ldc w' p [c.u.v]:=h.box.at0 hx rfl
theorem Zm8(h:PlV E w p S c G P old s):c.dr.len=s.dirs.length:=by rw[h.dr.len,cm]
theorem PlV.dirEl(h:PlV E w p S c G P old s)(hi:i<s.dirs.length):
  ∃ad q d e o,c.dr.a=some ad∧S ad.block∧Str (P.getD s.dirs[i].node Zx).name∧SlR strE w S q s.dirs[i].path∧SlR depE w S d (P.getD s.dirs[i].node Zx).deps∧SlR depE w S e (P.getD s.dirs[i].node Zx).peers∧SlR depE w S o (P.getD s.dirs[i].node Zx).opt∧
   ∀w',Ext w w'→ldc w' (ad.add (i*9)) [q.v,.string (P.getD s.dirs[i].node Zx).name,.int .i64 (P.getD s.dirs[i].node Zx).v.ma,.int .i64 (P.getD s.dirs[i].node Zx).v.mi,.int .i64 (P.getD s.dirs[i].node Zx).v.pa,d.v,e.v,o.v,.int .i64 (s.dirs[i].node:Int)]:=by
 have hl:i<(s.dirs.map (dirOf P)).length:=by simpa using hi
 have:=Go.Hal.dirEl h.dr hl
 rw[lf]at this
 exact this
end
theorem cloneStrs_se{p:Path}{R:Sl→World→Prop}(hS:Old S w)(hs:SlR strE w S s p)(hR: ∀t w',Ext w w'→OwnS strE 9 w' w.heap.size None' t p→R t w'):SE.Zbq s w R:=by
 unfold SE.Zbq
 refine⟨λh=>?_,λh=>?_⟩
 ·have:p= []:=by
   rcases hs.2.2.2.2 with h0|⟨ad,h1,_⟩
   ·exact h0
   ·rw[h]at h1; cases h1
  subst this
  exact hR _ _ xR (OwnS.zero _)
 ·intro a w1 ha hw
  subst ha
  have x1:Ext w w1:=hw▸Ext.alloc _ _
  have own:OwnS strE 9 w1 w.heap.size None' ⟨some ⟨w.heap.size,0,none⟩,0,0⟩ []:=hw▸OwnS.empty w
  refine own.appAll Zz8 x1.size (hs.ext x1) (hS.ext x1.size) (λad ha hb=>?_) (by simpa using hs.2.2.2.1) (by simpa using hs.max) λr w2 a0 bel _ _=> ?_
  ·simp only[cw]at ha
   subst ha
   have:=hS _ hb
   simp at this
  ·exact hR r w2 (x1.trans' bel) (OwnS.flat (λh=>h) a0)
theorem pinside_se{p:Path}{x:ByteArray}{R:Sl→World→Prop}(hS:Old S w)(hs:SlR strE w S s p)(hx:Str x)(hb:p.length≤4000000000000)(hR: ∀t w',Ext w w'→OwnS strE 9 w' w.heap.size None' t (p++ [x])→R t w'):SE.Zcu s x w R:=by
 unfold SE.Zcu
 refine SE.Zbq.go (cloneStrs_se hS hs λt w1 x1 o1=>⟨_,rfl,newS.intro λa w2 x2 a0 _ _=> ?_⟩)
 exact(o1.ext x2).pushF (x1.trans x2) Zz8 (x:=x) ⟨rfl,hx⟩ (a0.ldc.pre (r:=[]) rfl) dC (by show _*16≤room; unfold room; omega) λr w3 o3 x3=>hR r w3 x3 o3
theorem Ztl:Zfj prog 158:=enters_of func158 kR rfl
section
variable {E:Enc Stl} {w:World} {p:Addr} {S:Nat→Prop} {c:PC} {G:List Node} {P:List Pack} {old:Option (List Dir)} {s:PlS}
theorem Zsm{q:Path}{R:Int→World→Prop}(h:PlV E w p S c G P old s)(ht:SlR strE w Q t q)(hR: ∀w',Ext w w'→R (optI (Zbv s.dirs q)) w'):SE.Zci (some p) t w R:=by
 unfold SE.Zci
 refine newS.intro λa w1 x1 a0 _ _=>⟨p,rfl,c.dr,h.ld x1 7 rfl,?_⟩
 refine SE.Zac.go (Zt1 (q:=λd=>decide (d.path=q)) (h.dr.ext x1) (λy _ ps d e o w3 k x3 hp hk=>⟨_,_,rfl,Ztl,SE.Zeg.go ?_⟩) λw3 x3=>⟨_,rfl,by rw[Ztu,Zgu,Zk8]; exact hR w3 (x1.trans x3)⟩)
 unfold SE.Zeg
 refine newS.intro λa4 w4 x4 a5 _ _=>⟨ps,a5.at0 xR rfl,t,(a0.ext (x3.trans x4)).ldc.pre (r:=[]) rfl,SE.Zaf.go (eqStrs_se (hp.ext x4) ((ht.ext x1).ext (x3.trans x4)) λw5 x5=>⟨_,rfl,hk w5 (x4.trans x5)⟩)⟩
theorem Zk9{x:ByteArray}(hx:Str x){Q:Nat→Prop}: ∀(k:Nat) {w:World} {t:Sl} {q:Path} {R:Int→World→Prop},PlV E w p S c G P old s→Old Q w→SlR strE w Q t q→q.length=k→k≤4000000→(∀w',Ext w w'→R (optI (Zb8 s.dirs q x k)) w')→SE.Zat (some p) t x w R
 |0,w,t,q,R,h,hQ,ht,hk,hb,hR=>by
  unfold SE.Zat
  have hq:q= []:=cq hk
  have a9:=ht.len
  refine SE.Zcu.go (pinside_se hQ ht hx oM λt1 w1 x1 o1=>⟨_,rfl,SE.Zci.go (Zsm (h.ext x1) (o1.strs (by simp; omega)) λw2 x2=>⟨_,rfl,bound ⟨λ_=> ?_,λhc=>?_⟩⟩)⟩)
  ·have:=hR w2 (x1.trans x2)
   unfold Zb8 at this
   rw[dg oM]at this
   exact this
  ·rw[dx]at hc
   have:=hc.2
   rw[beq_eq_false_iff_ne]at this
   exact absurd oM this
 |k+1,w,t,q,R,h,hQ,ht,hk,hb,hR=>by
  unfold SE.Zat
  have a9:=ht.len
  have a8:q≠ []:=λe=>by subst e; cases hk
  have a7:q.take (k+1)=q:=dg oM
  refine SE.Zcu.go (pinside_se hQ ht hx oM λt1 w1 x1 o1=>⟨_,rfl,SE.Zci.go (Zsm (h.ext x1) (o1.strs (by simp; omega)) λw2 x2=>⟨_,rfl,bound ⟨λhc=>?_,λhc=>?_⟩⟩)⟩)
  ·have e0:((t.len:Int)==0)=false:=by rw[beq_eq_false_iff_ne]; omega
   rw[e0,Bool.or_false,decide_eq_true_iff]at hc
   obtain⟨j,hj⟩:=Zgk.1 hc
   have:=hR w2 (x1.trans x2)
   unfold Zb8 at this
   rw[a7,hj]at this
   rw[hj]; exact this
  ·rw[dx]at hc
   have a5:=of_decide_eq_false hc.1
   have a4:Zbv s.dirs (q++ [x])=none:=by
    cases hf:Zbv s.dirs (q++ [x])with
    |none=>rfl
    |some j=>rw[hf]at a5; exact absurd (Zgk.2 ⟨j,rfl⟩) a5
   have a0:=x1.trans x2
   obtain⟨ew,a6⟩:=(ht.ext a0).front a8
   have b0:q.length≤t.cap:=ht.2.1
   refine⟨by rw[ew]; omega,?_⟩
   rw[ew,bw]
   refine SE.Zat.go (Zk9 hx k (h.ext a0) (hQ.ext a0.size) a6 (by rw[List.length_dropLast]; omega) oM λw3 x3=>⟨_,rfl,?_⟩)
   have:=hR w3 (a0.trans x3)
   unfold Zb8 at this
   rw[a7,a4]at this
   have e:Zb8 s.dirs q.dropLast x k=Zb8 s.dirs q x k:=by
    rw[List.dropLast_eq_take,show q.length - 1=k by omega]
    have: ∀m,m≤k→Zb8 s.dirs (q.take k) x m=Zb8 s.dirs q x m:=by
     intro m
     induction m with
     |zero=>intro _; unfold Zb8; simp
     |succ m ih=>
      intro hm
      unfold Zb8
      rw[List.take_take,gw hm,ih oM]
    exact this k nR
   rw[e]; exact this
end
end Go.Hal
namespace Go.Hal
end Go.Hal
namespace Go.Hal
def Nb(sp:Addr)(w:World):Nat→Prop:=λb=>b<w.heap.size∧b≠sp.block
section
variable {α:Type} {E:Enc α} {w w':World} {sp:Addr} {s:Sl} {l:List α}
theorem SlR.nbBut(h:SlR E w (Nb sp w) s l)(hb:But sp.block w w'):SlR E w' (Nb sp w') s l:=(h.but hb λh=>h.2 rfl).mono λb h=>⟨by have:=hb.1; have:=h.1; omega,h.2⟩
theorem SlR.nbExt(h:SlR E w (Nb sp w) s l)(hx:Ext w w'):SlR E w' (Nb sp w') s l:=(h.ext hx).mono λb h=>⟨by have:=hx.size; have:=h.1; omega,h.2⟩
theorem SlR.nbNew(h:SlR E w' (λb=>w.heap.size≤b∧b<w'.heap.size) s l)(hs:sp.block<w.heap.size):SlR E w' (Nb sp w') s l:=h.mono λb hb=>⟨hb.2,oM⟩
end
theorem Nb.old(sp:Addr)(w:World):Old (Nb sp w) w:=λ_ h=>h.1
section
variable {w w':World} {sp:Addr} {q:Quest} {K:K7}
end
theorem But.trans'{g:Nat}{a b c:World}(h:But g a b)(k:But g b c):But g a c:=
 ⟨co h.1 k.1,k.2.1.trans h.2.1,k.2.2.1.trans h.2.2.1,k.2.2.2.1.trans h.2.2.2.1,λx hx hn=>(k.2.2.2.2 x (by have:=h.1; omega) hn).trans (h.2.2.2.2 x hx hn)⟩
structure NsOk(q:Quest)(ns:List Node):Prop where
 len:ns.length≤q.N
 big:q.N≤128
 root: ∃x,ns[0]? =some x∧x.key=rootNode.key
 ctx: ∀x∈ns,Rises x.ctx∧x.ctx.length≤2048
theorem Z28{q:Quest}{ns:List Node}{k:Nat}(hG:GoodL q.L)(hm:Zef q.m=true):(q.wants ns k).length≤64:=by
 have a0:=Zmf hm
 unfold Quest.wants Z27
 split
 ·rw[Zim]; have:=Zmq q.m q.dev; omega
 ·split
  ·exact eh _
  ·split
   ·exact eh _
   ·rename_i p hp
    rw[Zim]
    obtain⟨_,_,h1,h2,h3⟩:=Zmg (hG.may p (Zhy hp).1)
    have:=(Zr h1).1
    have:=(Zr h3).1
    omega
theorem Z86{l:List Want}(h:SlR Zzv w S s l): ∀x∈l,Str x.name:=λx hx=>by
 obtain⟨n,hn,rfl⟩:=cy.1 hx
 obtain⟨_,_,_,_,h1,_⟩:=Z61 h hn
 exact h1
end Go.Hal
namespace Go.Hal
open Go.MapKept
section
variable {P:Program} {mt:TypeId} {K:Value→Prop} {zero:Value} {w w':World} {r:Nat} {m:List (Value×Value)}
end
end Go.Hal
namespace Go.Hal
def srchP(K:K7)(D N d3 d4 t:Int)(ended:Bool)(err:Int)(fnd:Sl):List Value:=[.pointer (some K.cp),K.mD.v,K.mDev.v,K.mOpt.v,K.mOv.v,.bool K.dev,K.pS.v,.int .i64 D,.int .i64 N,.int .i64 d3,.int .i64 d4,.int .i64 t,.bool ended,.int .i64 err,fnd.v]
structure CxP(w:World)(sp:Addr)(q:Quest)(K:K7):Prop where
 cat: ∃SC r,CatL w SC K.cp r q.L∧ ¬SC sp.block∧K.cp.block≠sp.block∧r≠sp.block
 deps:SlR depE w (Nb sp w) K.mD q.m.deps
 dv:SlR depE w (Nb sp w) K.mDev q.m.dev
 opt:SlR depE w (Nb sp w) K.mOpt q.m.opt
 over:SlR depE w (Nb sp w) K.mOv q.m.over
 pins:SlR pinE w (Nb sp w) K.pS q.pins
 dev:K.dev=q.dev
 lt:sp.block<w.heap.size
 may:Zef q.m=true
section
variable {w w':World} {sp:Addr} {q:Quest} {K:K7}
theorem CxP.but(h:CxP w sp q K)(hb:But sp.block w w'):CxP w' sp q K:=by
 obtain⟨SC,r,h1,h2,h3,h4⟩:=h.cat
 exact⟨⟨SC,r,h1.stay hb.1 λb a0 hc=>hb.2.2.2.2 b a0 (by
  rcases hc with hc|rfl|rfl
  ·rintro rfl; exact h2 hc
  ·exact h3
  ·exact h4),h2,h3,h4⟩,h.deps.nbBut hb,h.dv.nbBut hb,h.opt.nbBut hb,h.over.nbBut hb,h.pins.nbBut hb,h.dev,by have:=h.lt; have:=hb.1; omega,h.may⟩
theorem CxP.ext(h:CxP w sp q K)(hx:Ext w w'):CxP w' sp q K:=h.but (hx.but _)
theorem CxP.good(h:CxP w sp q K):GoodL q.L:=by obtain⟨_,_,h1,_⟩:=h.cat; exact h1.good
end
def PostP(q:Quest)(sp:Addr)(K:K7)(d3 d4:Int)(w:World)(o:Out)(w':World):Prop:=But sp.block w w'∧(match o with
 | .fail t=>t≤q.D∧BoxAt w' sp (srchP K q.D q.N d3 d4 t false 0 Sl.nil)
 | .done ns t=>∃fnd,BoxAt w' sp (srchP K q.D q.N d3 d4 t true 0 fnd)∧SlR nodeE w' (Nb sp w') fnd ns
 | .err c=>∃(t:Int) (fnd:Sl),BoxAt w' sp (srchP K q.D q.N d3 d4 t true c fnd)
 | .out=>False)
theorem PostP.from{q:Quest}{K:K7}{w':World}{o:Out}(h:PostP q sp K d3 d4 w o w')(hb:But sp.block w0 w):PostP q sp K d3 d4 w0 o w':=⟨hb.trans' h.1,h.2⟩
def envC(c ch:List Pin):List Pin:=ch.foldl (λe p=>addO e p.name (some p.v)) c
theorem Ztq(c ch:List Pin)(p:Pin):envC c (ch++ [p])=addO (envC c ch) p.name (some p.v):=by unfold envC; rw[List.foldl_append]; rfl
theorem Zyn{c:List Pin}(hn:(c.map (·.name)).Nodup): ∀(ch:List Pin),((envC c ch).map (·.name)).Nodup:=λch=>by
 induction ch generalizing c with
 |nil=>exact hn
 |cons p r ih=>exact ih (Zyb hn _ _)
theorem Zxe(c:List Pin): ∀(ch:List Pin),(envC c ch).length≤c.length+ch.length:=λch=>by
 induction ch generalizing c with
 |nil=>exact df _
 |cons p r ih=>
  have h1:(envC (addO c p.name (some p.v)) r).length≤_:=ih (addO c p.name (some p.v))
  have h2:=Z3g c p.name (some p.v)
  show(envC (addO c p.name (some p.v)) r).length≤c.length+(r.length+1)
  omega
theorem Z36{c:List Pin}(hc: ∀p∈c,Str p.name): ∀{ch:List Pin},(∀p∈ch,Str p.name)→ ∀p∈envC c ch,Str p.name:=λ{ch} a0=>by
 induction ch generalizing c with
 |nil=>exact hc
 |cons a r ih=>
  refine ih (c:=addO c a.name (some a.v)) (λp hp=>?_) λp hp=>a0 p (.tail _ hp)
  rw[Zry]at hp
  split at hp
  ·exact hc p hp
  ·rcases dj.1 hp with hp|hp
   ·exact hc p hp
   ·rw[ci]at hp; subst hp; exact a0 a (.head _)
def Zoz(q:Quest)(f:Nat):Prop:=∀(sp:Addr) (K:K7) (d3 d4:Int) (ns:List Node) (k:Nat) (ws:List Want) (ch:List Pin) (t:Nat) (nds wss chs:Sl) (w:World),
 CxP w sp q K→BoxAt w sp (srchP K q.D q.N d3 d4 t false 0 Sl.nil)→NsOk q ns→k<ns.length→ws.length+ch.length≤64→(∀x∈ws,Str x.name)→t≤q.D→q.D≤4096→q.go f ns k ws (envC (Zj7 ns k) ch) t≠ .out→
 SlR nodeE w (Nb sp w) nds ns→SlR Zzv w (Nb sp w) wss ws→SlR pinE w (Nb sp w) chs ch→
 callS prog 152 [.pointer (some sp),nds.v,.int .i64 k,wss.v,chs.v] w λv w'=>v= .tuple #[]∧PostP q sp K d3 d4 w (q.go f ns k ws (envC (Zj7 ns k) ch) t) w'
theorem Zjs{n:ByteArray}{R:Int→Int→Int→Bool→World→Prop}(hs:SlR pinE w S s l)
  (a6: ∀v w',tells l n=some v→Ext w w'→R v.ma v.mi v.pa true w') (a5: ∀w',tells l n=none→Ext w w'→R 0 0 0 false w'):SE.Zdl s n w R:=by
 unfold SE.Zdl
 have hl:=hs.len
 refine newS.intro λa w1 x1 ha b1 _=> ?_
 refine loop1.up hs.max (λi w'=>Ext w1 w'∧(l.take i).find? (isN n)=none) ⟨Ext.refl _,rfl⟩ λi w2 b4 hi ⟨x2,hI⟩ hn=>⟨λa9=>?_,λb2=>?_⟩
 ·have a0:i<l.length:=oM
  have a7:=x1.trans x2
  obtain⟨ad,b0,_,_,hc⟩:=Zlh hs a0
  refine⟨ad,⟨b0,oM,a9⟩,_,_,_,_,hc _ a7,newS.set rfl λa2 w3 x3 a4 _=>⟨_,a4.at0 xR rfl,λhe=>?_,λhe=>?_⟩⟩
  ·refine⟨l[i].v.ma,l[i].v.mi,l[i].v.pa,a4.at1 (k:=1) (r:=[]) xR rfl,stw0.intro (ha.ext (x2.trans x3)) sI λw5 b5 _ a8=>⟨_,_,_,a8.at0 (r:=[]) xR rfl,?_⟩⟩
   have hf:=Zsb (p:=isN n) a0 hI (by simp[isN,he])
   exact a6 l[i].v w5 (by unfold tells; rw[hf]; rfl) (b5.ext (a7.trans x3) oM)
  ·refine hn a0 _ ⟨x2.trans x3,?_⟩
   rw[Zis a0 hI,if_neg (by simp[isN,he])]
 ·have:i=l.length:=oM
  rw[this,cu]at hI
  refine stw0.intro (ha.ext x2) sI λw3 b3 _ a4=>⟨_,_,_,a4.at0 (r:=[]) xR rfl,a5 w3 (by unfold tells; rw[hI]; rfl) (b3.ext (x1.trans x2) oM)⟩
theorem pend_se{K:K7}{D N t c:Int}{nds fnd:Sl}{R:World→Prop}(hb:BoxAt w sp (srchP K D N d3 d4 t false 0 fnd))(hR: ∀w',But sp.block w w'→BoxAt w' sp (srchP K D N d3 d4 t true c nds)→R w'):SE.Zcp (some sp) nds c w R:=by
 unfold SE.Zcp
 refine⟨sp,rfl,stw.intro (o:=12) hb (by show 13≤15; omega) λw1 b1 _ a0=>⟨sp,rfl,stw.intro (o:=14) a0 (by show 15≤15; omega) λw2 b2 _ a4=>⟨sp,rfl,stw.intro (o:=13) a4 (by show 14≤15; omega) λw3 b3 _ a5=>hR w3 ((b1.trans' b2).trans' b3) a5⟩⟩⟩
theorem Zrf{q:Quest}{f:Nat}(hf:Zoz q f){K:K7}{ns:List Node}{k t:Nat}{nds:Sl}{R:World→Prop}(hC:CxP w sp q K)(hb:BoxAt w sp (srchP K q.D q.N d3 d4 t false 0 Sl.nil))(hN:NsOk q ns)(hk:k≤ns.length)(ht:t≤q.D)(hD:q.D≤4096)
  (hs:SlR nodeE w (Nb sp w) nds ns) (d2:k<ns.length→q.go f ns k (q.wants ns k) (Zj7 ns k) t≠ .out)
  (hR: ∀w',PostP q sp K d3 d4 w (if k=ns.length then .done ns t else q.go f ns k (q.wants ns k) (Zj7 ns k) t) w'→R w'):SE.Zcj (some sp) nds (k:Int) w R:=by
 unfold SE.Zcj
 have e4:=hs.len
 have e6:=hC.lt
 refine⟨λh=>?_,λh=>bnd.drew λw1 x1=>?_⟩
 ·have a0:k=ns.length:=oM
  rw[if_pos a0]at hR
  exact SE.Zcp.go (pend_se hb λw1 b1 c8=>⟨rfl,hR w1 ⟨b1,nds,c8,hs.nbBut b1⟩⟩)
 ·have a0:k<ns.length:=oM
  rw[if_neg oM]at hR
  have b9:ns[k]? =some ns[k]:=bq a0
  obtain⟨ad,c,e,ha,e0,e3,_,hc⟩:=Zed hs a0
  have e5:=Zmf hC.may
  have a7:=hC.ext x1
  have s1:=x1.size
  refine⟨sp,rfl,K.mD,K.mDev,K.mOpt,K.mOv,hb.at1 (k:=1) x1 rfl,sp,rfl,K.dev,hb.at1 (k:=5) x1 rfl,?_⟩
  refine SE.Zg7.go (Zqs (m:=q.m) (Nb.old sp w1) a7.deps a7.dv a7.opt a7.over (by unfold room; omega) λd6 w2 x2 c2=>⟨_,rfl,join.named λJ hJ=>?_⟩)
  have d5:=c2.read (by rw[Zim]; have:=Zmq q.m K.dev; unfold room; omega)
  have c4:=x1.trans x2
  have s2:=x2.size
  have b2: ∀(a8:Sl) w',Ext w w'→SlR Zzv w' (Nb sp w') a8 (q.wants ns k)→J a8 w':=by
   subst hJ
   intro a8 w3 x3 c3
   have d9:Zj7 ns k=ns[k].ctx:=by unfold Zj7 Zy0; rw[fi,b9]; rfl
   refine(hf sp K d3 d4 ns k (q.wants ns k) [] t nds a8 Sl.nil w3 (hC.ext x3) (hb.ext x3) hN a0 (by have:=Z28 (ns:=ns) (k:=k) hC.good hC.may; simpa using this) (Z86 c3) ht hD (d2 a0) (hs.nbExt x3) c3 (SlR.nil trivial)).mono λv w4 ⟨hv,hP⟩=>⟨hv,hR w4 (hP.from (x3.but _))⟩
  clear hJ
  refine⟨λh0=>join.named λJ2 b7=>bnd.drew λw3 x3=>?_,λh0=>?_⟩
  ·have b3:k≠0:=oM
   have a4:=c4.trans x3
   have c6:=hC.ext a4
   obtain⟨SC,r,a5,e1,e2,hr⟩:=c6.cat
   obtain⟨g1,g2,g3⟩:=Zys a5.good ns[k].name ns[k].v
   have b0: ∀(pa:Addr) (d e' o:Sl) w',Ext w3 w'→BoxAt w' pa [.string (getD q.L ns[k].name ns[k].v).name,.int .i64 (getD q.L ns[k].name ns[k].v).v.ma,.int .i64 (getD q.L ns[k].name ns[k].v).v.mi,.int .i64 (getD q.L ns[k].name ns[k].v).v.pa,d.v,e'.v,o.v]→
     SlR depE w' (Nb sp w') d (getD q.L ns[k].name ns[k].v).deps→SlR depE w' (Nb sp w') o (getD q.L ns[k].name ns[k].v).opt→J2 pa w':=by
    subst b7
    intro pa d e' o w4 x4 d1 hd a6
    refine bnd.drew λw5 x5=>?_
    have a9:=a4.trans (x4.trans x5)
    have c7:=hC.ext a9
    refine⟨_,_,_,_,d,e',o,d1.at0 (r:=[]) x5 rfl,sp,rfl,K.mD,K.mDev,K.mOpt,K.mOv,hb.at1 (k:=1) a9 rfl,?_⟩
    refine SE.Zmy.go (Zzw (p:=getD q.L ns[k].name ns[k].v) (Nb.old sp w5) (hd.nbExt x5) (a6.nbExt x5) c7.over (by unfold room; omega) λd7 w6 x6 b4=>⟨_,rfl,?_⟩)
    have c1:=b4.read (by rw[Zim]; unfold room; omega)
    refine b2 d7 w6 (a9.trans x6) ?_
    rw[Zzx b3 b9]
    exact c1.nbNew (by have:=a9.size; omega)
   clear b7
   have s3:=a4.size
   refine⟨sp,rfl,_,hb.at0 a4 rfl,ad,⟨ha,oM,oM⟩,_,(hc _ a4).pre rfl,ad,⟨ha,oM,oM⟩,ns[k].v.ma,ns[k].v.mi,ns[k].v.pa,(hc _ a4).mid (k:=1) rfl,?_,?_⟩
   ·exact SE.Zaq.go (Zke (n:=ns[k].name) (v:=ns[k].v) a5 λd e' o w4 x4 _ hd _ a6=>⟨_,_,_,_,d,e',o,_,rfl,newS.set rfl λc5 w5 x5 c9 _=>b0 c5 d e' o w5 (x4.trans x5) c9 ((hd.dep.nbNew oM).nbExt x5) ((a6.dep.nbNew oM).nbExt x5)⟩)
   ·refine newS.intro λb5 w4 x4 b8 d8 _=> ?_
    exact SE.Zaq.go (Zke (n:=ns[k].name) (v:=ns[k].v) (a5.ext x4) λd e' o w5 x5 _ hd _ a6=>⟨_,_,_,_,d,e',o,_,rfl,stw0.intro (b8.ext x5) sI λw6 b6 _ d0=>by
     have x6:Ext w3 w6:=b6.ext (x4.trans x5) oM
     have h4:=b8.lt
     have hn: ¬(λb=>w4.heap.size≤b∧b<w5.heap.size) b5.block:=λh=>by have:=h.1; omega
     have s4:=x4.size
     have s6:=b6.1
     exact b0 b5 d e' o w6 x6 d0 ((hd.dep.but b6 hn).mono λb hb=>⟨by have:=hb.2; omega,by have:=hb.1; omega⟩) ((a6.dep.but b6 hn).mono λb hb=>⟨by have:=hb.2; omega,by have:=hb.1; omega⟩)⟩)
  ·have b3:k=0:=oM
   refine b2 d6 w2 c4 ?_
   have hw:q.wants ns k=Ziu q.m.over (Zf4 q.m q.dev) q.m.opt:=by subst b3; rfl
   rw[hw,←hC.dev]
   exact d5.nbNew oM
inductive CtxsAre (q:Quest) (env:List Pin):List Pin→List (List Pin)→Prop
 |nil:CtxsAre q env [] []
 |snoc {ps:List Pin} {cs:List (List Pin)} {p:Pin} {c:List Pin} (h:CtxsAre q env ps cs) (k:Ze3 q.L q.m.over env p=some c):CtxsAre q env (ps++ [p]) (cs++ [c])
def mkNd(p:Pin)(c:List Pin):Node:=⟨p.name,p.v,c,[]⟩
theorem Zoe{q:Quest}{env:List Pin}{p:Pin}{c:List Pin}(hc:Ze3 q.L q.m.over env p=some c): ∀{ps:List Pin},targets q env (ps++ [p])=(targets q env ps).map λxs=>xs++ [mkNd p c]
 | []=>by rw[em,Zik hc]; rfl
 |a::r=>by
  rw[dz]
  cases ha:Ze3 q.L q.m.over env a with
  |none=>rw[Zkx ha,Zkx ha]; rfl
  |some d=>
   rw[Zik ha,Zik ha,Zoe hc]
   cases targets q env r<;>rfl
theorem CtxsAre.len{q:Quest}{ps:List Pin}{cs:List (List Pin)}(h:CtxsAre q env ps cs):cs.length=ps.length:=by
 induction h with
 |nil=>rfl
 |snoc _ _ ih=>simp[ih]
theorem CtxsAre.targets{q:Quest}{ps:List Pin}{cs:List (List Pin)}(h:CtxsAre q env ps cs):targets q env ps=some (List.zipWith mkNd ps cs):=by
 induction h with
 |nil=>rfl
 |snoc h k ih=>
  rw[Zoe k,ih,gv,List.zipWith_append h.len.symm]
  rfl
theorem CtxsAre.get{q:Quest}{ps:List Pin}{cs:List (List Pin)}(h:CtxsAre q env ps cs): ∀(i:Nat) (h1:i<ps.length) (h2:i<cs.length),Ze3 q.L q.m.over env ps[i]=some cs[i]:=by
 induction h with
 |nil=>intro i h1; simp at h1
 |snoc h k ih=>
  rename_i ps cs p c
  intro i h1 h2
  have hl:=h.len
  by_cases hi:i<ps.length
  ·rw[lh hi,lh oM]
   exact ih i hi oM
  ·have:i=ps.length:=by simp at h1; omega
   subst this
   rw[List.getElem_append_right nR,List.getElem_append_right oM]
   simpa[hl]using k
theorem Zod{q:Quest}{env:List Pin}: ∀{ps:List Pin},(∃p∈ps,Ze3 q.L q.m.over env p=none)→targets q env ps=none
 | [],h=>by obtain⟨p,hp,_⟩:=h; cases hp
 |a::r,h=>by
  cases ha:Ze3 q.L q.m.over env a with
  |none=>exact Zkx ha
  |some d=>
   rw[Zik ha,Zod]
   ·rfl
   ·obtain⟨p,hp,hn⟩:=h
    rcases du.1 hp with rfl|hp
    ·rw[ha]at hn; cases hn
    ·exact⟨p,hp,hn⟩
theorem Ztc(hG:GoodL L){over:List Dep}{c:List Pin}(h:Ze3 L over env p=some c):Rises c∧c.length≤2048:=⟨(Zr7 h).1,(Zvn hG h).2⟩
end Go.Hal
