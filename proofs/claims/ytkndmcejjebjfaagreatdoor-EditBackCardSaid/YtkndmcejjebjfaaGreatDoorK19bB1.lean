/- Lemmas for the claim K19b: how the program's functions run, and what they answer; no condition but those that each theorem names. -/
import Derived.MapKept
import Derived.Test.YtkndmcejjebjfaaGreatDoorProg
import Derived.WideKeyRuns
import Derived.RangeFuncBox
import Derived.RangeFuncNested
import Derived.RangeFuncLeaves
import Derived.RangeFuncGives
import Derived.Shelf.Abstract
import Derived.WalkKit
import Derived.OwnWalkIn
import Derived.TacticsInMore
import Derived.LoopNIn
import Derived.LoopIn
import Derived.Maps.AppendAt
import Derived.Shelf.SlSortCmp.NoneTotal
import Derived.Ground.SlsfProg
import Derived.Laws.CopyRow
import Derived.Test.YtkndmcejjebjfaaGreatDoorK19bB0
set_option linter.unusedVariables false
set_option linter.unusedSimpArgs false
set_option linter.defProp false
set_option maxHeartbeats 16000000
open Go Go.RowKit Go.Proofs Go.Shelf Go.Hal Go.Proofs.Tryz
variable {p:Addr} {R:Bool->Wp} {a b n:Bs} {left:List (Value×Value)} {l:LD} {L ps:List Pack} {out:LP} {cs:LV} {g i it lo r:Nat} {S:Nat->Prop} {P:Program} {d o s:Sl} {et kt:TypeId} {f:Value} {K:Value->Wp} {w w' w0:Wd}
namespace Go.Hal
def HS:A7 a b<0↔Ao a b=true:=by
 unfold A7;split
 .rename_i h;simp[h]
 .rename_i h;split<;>simp[h]
def Ey:A7 a b=0↔a=b:=by
 unfold A7;split
 .rename_i h;have:=Fj h;simp[this]
 .split
  .rename_i h;simp[AH.1 h]
  .rename_i h;have: ¬a=b:=λe=>h (AH.2 e);simp[this]
def Pu{a b:Bs}:A7 a b<=0↔Ao b a=false:=by
 constructor
 .intro h;obtain h|h:=Int.lt_or_eq_of_le h
  .exact MS (HS.1 h)
  .rw[Ey.1 h,Pg]
 .intro h;cases h1:Ao a b
  .have:=Jz h1 h;subst this;rw[Ey.2 rfl];omega
  .have:=HS.2 h1;omega
def DB{α:Type}(f:α->Bs):Ord3 (λa b:α=>A7 (f a) (f b)) where
 flip:=λx y=>by
  have h1:=@Pu (f y) (f x);rw[HS];cases h:Ao (f x) (f y)
  .have:=h1.2 h;simp;omega
  .rw[h]at h1;simp at h1 ⊢;omega
 trans:=λx y z h1 h2=>by
  rw[Pu]at h1 h2 ⊢;cases h:Ao (f z) (f x)
  .rfl
  .exfalso;cases h3:Ao (f y) (f z)
   .have:=Jz h3 h2;rw[this]at h1;rw[h1]at h;cases h
   .have:=GF h3 h;rw[this]at h1;cases h1
def Jy(h:A7 a b<=0)(a0:a≠b):Ao a b=true:=by
 cases h1:Ao a b
 .exact absurd (Jz h1 (Pu.1 h)) a0
 .rfl
def BA(l:LP):LP:=Bw (λa b=>A7 a.name b.name) l
def Rises(l:LP):Prop:=l.Pairwise λa b=>Ao a.name b.name=true
def EP(l:LP):(BA l).Perm l:=Gm l
def Rx{l:LP}(h:(l.map (·.name)).Nodup):Rises (BA l):=by have h1:=Zjj (DB (α:=Pin) (·.name)) l;have h2:((BA l).map (·.name)).Nodup:=((EP l).map _).nodup_iff.2 h;rw[gz,iq]at h2;exact(h1.and h2).imp λh=>Jy h.1 h.2
def Rises.one{l m:LP}(h1:Rises l)(h2:Rises m)(hp:l.Perm m):l=m:=
 Ja (R:=λa b:Pin=>Ao a.name b.name=true) (λx y h1 h2=>by rw[MS h1]at h2;cases h2) h1 h2 hp
def Rises.nodup{l:LP}(h:Rises l):(l.map (·.name)).Nodup:=by rw[gz,iq];exact h.imp λh=>Fj h
def Aw(n:Bs)(q:Pin):Bool:=decide (q.name=n)
def tells(env:LP)(n:Bs):Option Ver:=(env.find? (Aw n)).map (·.v)
def Zj7{env:LP}{v:Ver}(h:tells env n=some v):⟨n,v⟩∈env:=by
 unfold tells at h;cases hf:env.find? (Aw n)with
 |none=>rw[hf]at h;cases h
 |some q=>rw[hf]at h;simp only[je,eu]at h;have h1:=ot hf;simp only[Aw,decide_eq_true_eq]at h1;have h2:=ly hf;obtain⟨a,b⟩:=q;simp only at h h1;subst h;subst h1;exact h2
def Zj8{l:LP}(h:tells l n=none):∀q∈l,q.name≠n:=by unfold tells at h;simp only[Option.map_eq_none_iff]at h;intro q hq;simpa[Aw]using kq.1 h q hq
section
variable (get:Bs->Ver->Option Pack) (over:LD) (env:LP)
def B7:LD->LP->Option (List Pin)
 | [],out=>some out
 |d::l,out=>match tells env d.name with
  |none=>none
  |some v=>if BT d.range v then B7 l (if out.any (Aw d.name)then out else out++[⟨d.name,v⟩])else none
def Cu(p:Pin):Nat->Nat->LP->Option (List Pin)
 |0,_,_=>none
 |f+1,i,out=>match(p::out)[i]? with
  |none=>some out
  |some q=>match get q.name q.v with
   |none=>none
   |some x=>match B7 env (BJ over x.peers) out with
    |none=>none
    |some out'=>Cu p f (i+1) out'
def ctx(p:Pin):Option (List Pin):=(Cu get over env p (env.length+2) 0 []).map BA
def OJ(q:Pin):Prop:=∃x,get q.name q.v=some x/\∀d∈BJ over x.peers,∃v,tells env d.name=some v/\BT d.range v=true
def H5(q r:Pin):Prop:=∃x d,get q.name q.v=some x/\d∈BJ over x.peers/\r.name=d.name/\tells env d.name=some r.v
inductive Reach (p:Pin):Pin->Prop
 |one {r:Pin}:H5 get over env p r->Reach p r
 |more {q r:Pin}:Reach p q->H5 get over env q r->Reach p r
structure CtxI(p:Pin)(i:Nat)(out:LP):Prop where
 names:(out.map (·.name)).Nodup
 told:∀r∈out,tells env r.name=some r.v
 reach:∀r∈out,Reach get over env p r
 le:i<=out.length+1
 stands:∀(k:Nat) q,k<i->(p::out)[k]?=some q->OJ get over env q
 asks:∀(k:Nat) q,k<i->(p::out)[k]?=some q->∀r,H5 get over env q r->r∈out
end
section
variable {get:Bs->Ver->Option Pack} {over:LD} {env:LP} {p:Pin}
def Tv{out0:LP}:∀{l:LD} {out out':LP},B7 env l out=some out'->(out.map (·.name)).Nodup->(∀r∈out,tells env r.name=some r.v)->
  (out'.map (·.name)).Nodup/\(∀r∈out',tells env r.name=some r.v)/\(∃t,out'=out++t)/\(∀d∈l,∃v,tells env d.name=some v/\BT d.range v=true/\(⟨d.name,v⟩:Pin)∈out')/\∀r∈out',r∈out\/∃d∈l,r.name=d.name
 | [],out,out',h,hn,ht=>by simp only[B7,eu]at h;subst h;exact⟨hn,ht,⟨[],by simp⟩,(λd h=>by cases h),λr h=>.inl h⟩
 |d::l,out,out',h,hn,ht=>by
  unfold B7 at h;cases hv:tells env d.name with
  |none=>rw[hv]at h;cases h
  |some v=>
   rw[hv]at h;simp only at h;split at h
   .rename_i a4;have key:(((if out.any (Aw d.name)then out else out++[⟨d.name,v⟩]):LP).map (·.name)).Nodup/\(∀r∈(if out.any (Aw d.name)then out else out++[⟨d.name,v⟩]:LP),tells env r.name=some r.v)/\(∃t,(if out.any (Aw d.name)then out else out++[⟨d.name,v⟩]:LP)=out++t)/\(⟨d.name,v⟩:Pin)∈(if out.any (Aw d.name)then out else out++[⟨d.name,v⟩]:LP)/\∀r∈(if out.any (Aw d.name)then out else out++[⟨d.name,v⟩]:LP),r∈out\/r.name=d.name:=by
     split
     .rename_i ha;obtain⟨q,hq,he⟩:=jg.1 ha;simp only[Aw,decide_eq_true_eq]at he;have h1:=ht q hq;rw[he,hv,eu]at h1;refine⟨hn,ht,⟨[],by simp⟩,?_,λr h=>.inl h⟩;obtain⟨a,b⟩:=q;simp only at he h1;subst he;subst h1;exact hq
     .rename_i ha;have a0:∀q∈out,q.name≠d.name:=by simpa[Aw]using ha
      refine⟨?_,?_,⟨_,rfl⟩,by simp,?_⟩
      .rw[fq,jb];refine⟨hn,by simp,λa h1 b h2=>?_⟩;obtain⟨q,hq,rfl⟩:=gq.1 h1;simp at h2;subst h2;exact a0 q hq
      .intro r hr;obtain hr|hr:=fk.1 hr
       .exact ht r hr
       .simp at hr;subst hr;exact hv
      .intro r hr;obtain hr|hr:=fk.1 hr
       .exact .inl hr
       .simp at hr;subst hr;exact .inr rfl
    obtain⟨k1,k2,⟨t,k3⟩,k4,k5⟩:=key;obtain⟨r1,r2,⟨t',r3⟩,r4,r5⟩:=Tv (out0:=out0) h k1 k2;refine⟨r1,r2,⟨t++t',by rw[r3,k3,fg]⟩,λe he=>?_,λr hr=>?_⟩
    .obtain rfl|he:=ga.1 he
     .exact⟨v,hv,a4,by rw[r3];exact iu _ k4⟩
     .exact r4 e he
    .rcases r5 r hr with h1|⟨e,he,h1⟩
     .obtain h2|h2:=k5 r h1
      .exact .inl h2
      .exact .inr ⟨d,.head _,h2⟩
     .exact .inr ⟨e,.tail _ he,h1⟩
   .cases h
def KP{α:Type}:∀{l m:List α},l.Nodup->(∀x∈l,x∈m)->l.length<=m.length
 | [],_,_,_=>gn _
 |a::r,m,hn,hs=>by
  obtain⟨h1,h2⟩:=oq.1 hn;obtain⟨s,t,rfl⟩:=List.append_of_mem (hs a (.head _));have:=KP (l:=r) (m:=s++t) h2 λx hx=>by
   rcases fk.1 (hs x (.tail _ hx))with h|h
   .exact iu _ h
   .obtain rfl|h:=ga.1 h
    .exact absurd hx h1
    .exact ka _ h
  simp only[du,fl]at this ⊢;omega
def Ze4(hn:(out.map (·.name)).Nodup)(ht:∀r∈out,tells env r.name=some r.v):out.length<=env.length:=by
 have:=KP (m:=env.map (·.name)) hn λn h=>by obtain⟨r,hr,rfl⟩:=gq.1 h;have:=Zj7 (ht r hr);exact ip (f:=(·.name)) this
 simpa using this
def CtxI.zero:CtxI get over env p 0 []:=⟨by simp,by simp,by simp,by simp,λk q h=>by omega,λk q h=>by omega⟩
def CtxI.next{out':LP}{q:Pin}{x:Pack}(h:CtxI get over env p i out)(hq:(p::out)[i]?=some q)(hx:get q.name q.v=some x)(hs:B7 env (BJ over x.peers) out=some out'):CtxI get over env p (i+1) out':=by
 obtain⟨r1,r2,⟨t,rfl⟩,r4,r5⟩:=Tv (out0:=[]) hs h.names h.told;have a8:i<out.length+1:=by have:=(fh.1 hq).1;simpa using this
 have a0:∀k q',k<i+1->(p::(out++t))[k]?=some q'->(p::out)[k]?=some q':=λk q' hk h=>by rw[<-gu,fy (by simp;omega)]at h;exact h
 have a7:OJ get over env q:=⟨x,hx,λd hd=>let⟨v,a,b,_⟩:=r4 d hd;⟨v,a,b⟩⟩;have has:∀r,H5 get over env q r->r∈out++t:=λr ⟨y,d,hy,hd,hr,hv⟩=>by rw[hx,eu]at hy;subst hy;obtain⟨v,a,_,b⟩:=r4 d hd;rw[hv,eu]at a;obtain⟨n,u⟩:=r;simp only at hr a;subst hr;subst a;exact b
 have a6:q=p\/Reach get over env p q:=by
  cases i with
  |zero=>simp at hq;exact .inl hq.symm
  |succ j=>exact .inr (h.reach q (by rw[oz]at hq;exact gv hq))
 refine⟨r1,r2,λr hr=>?_,by simp;omega,λk q' hk a4=>?_,λk q' hk a4 r ha=>?_⟩
 .rcases r5 r hr with hr|⟨d,hd,hn⟩
  .exact h.reach r hr
  .have ha:H5 get over env q r:=⟨x,d,hx,hd,hn,by rw[<-hn];exact r2 r hr⟩;obtain rfl|a6:=a6
   .exact .one ha
   .exact .more a6 ha
 .obtain a5|rfl:=ik.1 hk
  .exact h.stands k q' a5 (a0 k q' hk a4)
  .have:=a0 k q' hk a4;rw[hq,eu]at this;subst this;exact a7
 .obtain a5|rfl:=ik.1 hk
  .exact iu _ (h.asks k q' a5 (a0 k q' hk a4) r ha)
  .have:=a0 k q' hk a4;rw[hq,eu]at this;subst this;exact has r ha
def CtxI.len(h:CtxI get over env p i out):out.length<=env.length:=Ze4 h.names h.told
def Py:∀(f i:Nat)(out a:LP),CtxI get over env p i out->Cu get over env p f i out=some a->CtxI get over env p (a.length+1) a
 |0,_,_,_,_,h=>by cases h
 |f+1,i,out,a,hI,h=>by
  unfold Cu at h;cases hq:(p::out)[i]? with
  |none=>
   rw[hq]at h;simp only[eu]at h;subst h;have:i=out.length+1:=by have h1:=nz.1 hq;have h2:=hI.le;simp at h1;omega
   rw[<-this];exact hI
  |some q=>
   rw[hq]at h;simp only at h;cases hx:get q.name q.v with
   |none=>rw[hx]at h;cases h
   |some x=>
    rw[hx]at h;simp only at h;cases hs:B7 env (BJ over x.peers) out with
    |none=>rw[hs]at h;cases h
    |some a0=>rw[hs]at h;exact Py f (i+1) a0 a (hI.next hq hx hs) h
def YO{f:Nat}{q:Pin}(hq:(p::out)[i]?=some q)(hg:get q.name q.v=none):Cu get over env p (f+1) i out=none:=by rw[Cu,hq];simp only[hg]
def YM{f:Nat}{q:Pin}{y:Pack}(hq:(p::out)[i]?=some q)(hg:get q.name q.v=some y)(hs:B7 env (BJ over y.peers) out=none):Cu get over env p (f+1) i out=none:=by rw[Cu,hq];simp only[hg,hs]
def YN{f:Nat}{out':LP}{q:Pin}{y:Pack}(hq:(p::out)[i]?=some q)(hg:get q.name q.v=some y)(hs:B7 env (BJ over y.peers) out=some out'):Cu get over env p (f+1) i out=Cu get over env p f (i+1) out':=by rw[Cu,hq];simp only[hg,hs]
def YL{f:Nat}(hq:(p::out)[i]?=none):Cu get over env p (f+1) i out=some out:=by rw[Cu,hq]
def YS{d:Dep}(h:tells env d.name=none):B7 env (d::l) out=none:=by rw[B7,h]
def YR{d:Dep}{v:Ver}(h:tells env d.name=some v)(a0:BT d.range v=false):B7 env (d::l) out=none:=by rw[B7,h];simp[a0]
def YT{d:Dep}{v:Ver}(h:tells env d.name=some v)(a0:BT d.range v=true)(ho:out.any (Aw d.name)=true):B7 env (d::l) out=B7 env l out:=by rw[B7,h];simp[a0,ho]
def YQ{d:Dep}{v:Ver}(h:tells env d.name=some v)(a0:BT d.range v=true)(ho:out.any (Aw d.name)=false):B7 env (d::l) out=B7 env l (out++[⟨d.name,v⟩]):=by rw[B7,h];simp only[a0,ho,if_true,mg,if_false]
def YU{a:LP}(h:ctx get over env p=some a):Rises a/\(∀r,r∈a↔Reach get over env p r)/\(∀q,(q=p\/q∈a)->OJ get over env q)/\∀r∈a,tells env r.name=some r.v:=by
 unfold ctx at h;cases hg:Cu get over env p (env.length+2) 0 []with
 |none=>rw[hg]at h;cases h
 |some b=>
  rw[hg]at h;simp only[je,eu]at h;subst h;have hI:=Py _ _ _ _ CtxI.zero hg;have hm:∀r,r∈BA b↔r∈b:=λr=>(EP b).mem_iff;have a0:∀q,(q=p\/q∈b)->∃k,k<b.length+1/\(p::b)[k]?=some q:=λq hq=>by
   obtain rfl|hq:=hq
   .exact⟨0,oM,rfl⟩
   .obtain⟨k,hk,he⟩:=fp.1 hq;exact⟨k+1,oM,by rw[oz,dt hk,he]⟩
  refine⟨Rx hI.names,λr=>⟨λhr=>hI.reach r ((hm r).1 hr),λhr=>(hm r).2 ?_⟩,λq hq=>?_,λr hr=>hI.told r ((hm r).1 hr)⟩
  .have key:∀r,Reach get over env p r->r∈b:=λr hr=>by
    induction hr with
    |one ha=>obtain⟨k,hk,he⟩:=a0 p (.inl rfl);exact hI.asks k _ hk he _ ha
    |more _ ha ih=>obtain⟨k,hk,he⟩:=a0 _ (.inr ih);exact hI.asks k _ hk he _ ha
   exact key r hr
  .obtain⟨k,hk,he⟩:=a0 q (hq.imp id (hm q).1);exact hI.stands k q hk he
end
end Go.Hal
namespace Go.Hal
def r05less_se(ha:Ac a)(hR:∀w',Ext w w'->R (Ao a b) w'):SE.Kr a b w R:=by unfold SE.Kr;exact SE.Il.go (less_se _ _ _ _ ha λw' hx=>⟨_,rfl,hR _ hx⟩)
def V1{n:Nat}(h0:0<i)(hi:i<=n)(hn:n<=maxLen):Aa ((i:Int) - 1)=((i - 1:Nat):Int):=by rw[Ag oM (by rw[Al]at hn;omega)];omega
def QI(hs:SlR depE w S s l)(hR:∀w',Ext w w'->R (Av l) w'):SE.GY s w R:=by
 unfold SE.GY;have hl:=hs.len;refine loop1.up hs.max (λi w'=>Ext w w'/\Bb none (l.take i)=true) ⟨Ext.refl _,rfl⟩ λi w1 c3 hi ⟨x1,hI⟩ hn=>⟨λb5=>bnd.drew λw2 x2=>?_,λb9=>?_⟩
 .have a5:i<l.length:=oM;obtain⟨ad,t,ha,_,b7,hr,hc⟩:=BD hs a5;have b8:=T6 a5 hI;have a6:s.a=some ad/\(0:Int)<=(i:Int)/\(i:Int)<(s.len:Int):=⟨ha,oM,b5⟩;refine⟨ad,a6,_,(hc _ xT).pre rfl,SE.GV.go (r04Name_se b7 λw3 x3=>⟨_,rfl,bound ?_⟩)⟩;refine⟨ad,λ_=>a6,t,λ_=>(hc _ xT).mid rfl,gCall.intro (AO l[i].range) (λ_ q hq=>SE.Ik.go (r03May_se (hr.ext xT) λw' hx=>⟨_,rfl,hq _ hx⟩)) λt2 w4 x4 a8=>bound ?_⟩;refine⟨ad,λ_=>a6,t,λ_=>(hc _ xT).mid rfl,bound (bound ?_)⟩;have a7:∀h0:0<i,DH none (l.take i)=some (l[i - 1]'oM).name:=λh0=>by have:=U2 (l:=l) (n:=i - 1) oM;rw[<-this];congr 2;omega
  have hd:∃(a4:Addr) (u:Bs),(decide ((0:Int)<(i:Int))=true->(s.a=some a4/\(0:Int)<=Aa ((i:Int) - 1)/\Aa ((i:Int) - 1)<(s.len:Int))/\ldc w4 (a4.add ((Aa ((i:Int) - 1)).toNat*2)) [.string u]/\DH none (l.take i)=some u/\Ac u):=by
   by_cases h0:0<i
   .have ew:=V1 h0 hi hs.max;obtain⟨a9,t',b0,_,b6,_,b2⟩:=BD hs (n:=i - 1) oM;exact⟨a9,_,λ_=>⟨by rw[ew];exact⟨b0,oM,oM⟩,by rw[ew];exact(b2 _ xT).pre rfl,a7 h0,b6⟩⟩
   .exact⟨ad,⟨#[]⟩,λh=>by simp at h;omega⟩
  obtain⟨a4,u,hu⟩:=hd;have hg:∀{b:Bool},(!b&&decide ((0:Int)<(i:Int)))=true->decide ((0:Int)<(i:Int))=true:=λh=>by simp only[dx]at h;exact h.2
  refine⟨a4,λhb=>(hu (hg hb)).1,u,λhb=>(hu (hg hb)).2.1,ad,λ_=>a6,_,λ_=>(hc _ xT).pre rfl,?_⟩;refine gCall.intro (Ao u l[i].name) (λhb q hq=>SE.Il.go (less_se _ _ _ _ (hu (hg hb)).2.2.2 λw' hx=>⟨_,rfl,hq _ hx⟩)) λt3 w5 x5 a0=>?_;have e:((((!Af l[i].name)||(!t2))||((t.len:Int)==0))||(decide ((0:Int)<(i:Int))&&(!t3)))= !Bb none (l.take (i+1)):=by
   rw[b8,JI];have e0:((t.len:Int)==0)=l[i].range.isEmpty:=by rw[hr.len];cases l[i].range<;>simp;omega
   rw[e0]at a0 ⊢;cases h1:Af l[i].name
   .simp
   .rw[h1]at a8 a0;rw[a8 rfl]at a0 ⊢;cases h2:AO l[i].range
    .simp
    .rw[h2]at a0;cases h3:l[i].range.isEmpty
     .rw[h3]at a0;by_cases h0:0<i
      .have hb:decide ((0:Int)<(i:Int))=true:=(by simpa using h0);rw[hb]at a0 ⊢;rw[a0 rfl,(hu hb).2.2.1];simp[FJ]
      .have hb:decide ((0:Int)<(i:Int))=false:=(by simp;omega);have b4:i=0:=oM;subst b4;simp[DH,FJ]
     .simp
  rw[e];refine⟨λh=>?_,λh=>hn a5 _ ⟨xT,by simpa using h⟩⟩;rw[<-T5 (i:=i+1) (by simpa using h)];exact hR _ xT
 .have:i=l.length:=oM;rw[this,eh]at hI;have e:decide ((s.len:Int)<=16)=Av l:=by unfold Av;rw[hI,ie,decide_eq_decide];omega
  rw[e];exact hR _ xT
def S4{α:Type}{p:α->Bool}{l:List α}{n:Nat}(hn:n<l.length):(l.take (n+1)).any p=((l.take n).any p||p l[n]):=by rw[dw hn,List.any_append];simp
def QG{t:Sl}{a b:LD}(hs:SlR depE w S s a)(ht:SlR depE w S t b)(hR:∀w',Ext w w'->R (BF a b) w'):SE.GW s t w R:=by
 unfold SE.GW;have hl:=hs.len;have b6:=ht.len;refine loop1.up hs.max (λi w'=>Ext w w'/\(a.take i).any (λx=>b.any λy=>decide (x.name=y.name))=false) ⟨Ext.refl _,rfl⟩ λi w1 b7 hi ⟨x1,hI⟩ hn=>⟨λa9=>?_,λb5=>?_⟩
 .have a4:i<a.length:=oM;obtain⟨ad,_,ha,_,_,_,hc⟩:=BD hs a4;refine loop1.up ht.max (λk w'=>Ext w w'/\(b.take k).any (λy=>decide (a[i].name=y.name))=false) ⟨x1,rfl⟩ λk w2 b4 hk ⟨x2,hJ⟩ b0=>⟨λa5=>bnd.drew λw3 x3=>?_,λb2=>?_⟩
  .have a0:k<b.length:=oM;obtain⟨a6,_,a7,_,_,_,a8⟩:=BD ht a0;refine⟨ad,⟨ha,oM,a9⟩,_,(hc _ xT).pre rfl,a6,⟨a7,oM,a5⟩,_,(a8 _ xT).pre rfl,λh=>?_,λh=>b0 a0 _ ⟨xT,?_⟩⟩
   .have:BF a b=false:=by unfold BF;have:(a.any λx=>b.any λy=>decide (x.name=y.name))=true:=jg.2 ⟨_,ff a4,jg.2 ⟨_,ff a0,by simpa using h⟩⟩;rw[this];rfl
    rw[<-this];exact hR _ xT
   .rw[S4 a0,hJ];simpa using h
  .have:k=b.length:=oM;rw[this,eh]at hJ;exact hn a4 _ ⟨x2,by rw[S4 a4,hI,hJ];rfl⟩
 .have:i=a.length:=oM;rw[this,eh]at hI;have e:BF a b=true:=by unfold BF;rw[hI];rfl
  rw[<-e];exact hR _ xT
def QH{wd:LU}{R:Bs->Wp}(hw:wd.length<=8)(hm:Av l=true)(hs:SlR depE w S s l)(hR:∀w',Ext w w'->R (B (B3 wd l)) w'):SE.GX (B wd) s w R:=by
 unfold SE.GX;have hl:=hs.len;obtain⟨a7,a5⟩:=BX hm;refine loop2.up hs.max (λout i w'=>Ext w w'/\out=B (B3 wd (l.take i))) ⟨Ext.refl _,rfl⟩ λout i w1 b2 hi ⟨x1,hI⟩ hn=>⟨λa6=>bnd.drew λw2 x2=>?_,λa8=>?_⟩
 .have a0:i<l.length:=oM;obtain⟨ad,t,ha,_,a9,hr,hc⟩:=BD hs a0;have a4:s.a=some ad/\(0:Int)<=(i:Int)/\(i:Int)<(s.len:Int):=⟨ha,oM,a6⟩;have hd:=a5 _ (ff a0);have h1:=DE hw (l:=l.take i) λd hd=>(a5 d (kl hd)).1;rw[fb,ju oM]at h1;have h2:=CG hd.1;have h3:=NY l[i].range;subst hI;have b0:(l[i].name).size=(l[i].name).toList.length:=(Je _).symm;rw[AX,B6];refine⟨by rw[Ad,Ad,Ar];omega,by rw[Ad,AL,Ar];simp;omega,ad,a4,_,(hc _ xT).pre rfl,?_⟩;rw[Ew l[i].name,AX,B6];refine⟨by rw[Ad,Ad,Ar];simp;omega,by rw[Ad,AL,Ar];simp;omega,ad,a4,t,(hc _ xT).mid rfl,callX.intro (SE.Kq.go (Zgs (hr.ext xT) λw3 x3=>⟨x3,_,rfl,?_⟩))⟩;rw[AX,B6];refine⟨by rw[Ad,Ad,Ar];simp;omega,by rw[Ad,AL,Ar];simp;omega,hn a0 _ _ ⟨xT,?_⟩⟩;rw[dw a0,P5,GN];congr 1;simp
 .have:i=l.length:=oM;rw[this,eh]at hI;rw[hI];exact hR _ xT
def Zb4(h:Af n=true)(v:Ver):(Ip n v).length<=40:=by have:=CG h;have:=Dz v;simp only[Ip,du,fl,ia];omega
def Zgv{p:Pack}{e:Sl}{R:Bs->Wp}(hm:C5 p=true)(hd:SlR depE w S d p.deps)(he:SlR depE w S e p.peers)(ho:SlR depE w S o p.opt)
  (hR:∀w',Ext w w'->R (B (CR p)) w'):SE.Kv p.name p.v.ma p.v.mi p.v.pa d e o w R:=by
 unfold SE.Kv;unfold C5 at hm;simp only[dx]at hm;obtain⟨⟨⟨⟨hn,hv⟩,h1⟩,h2⟩,h3⟩:=hm;have n1:=BX h1;have n2:=BX h2;have n3:=BX h3;have l1:=DE (word:=wNeeds) dC λd hd=>(n1.2 d hd).1;have l2:=DE (word:=My) dC λd hd=>(n2.2 d hd).1;have l3:=DE (word:=wLikes) dC λd hd=>(n3.2 d hd).1;have a0:=CG hn;have a4:=Dz p.v;refine newS.intro λ_ w1 x1 hb _ _=>bnd.drew λw2 x2=>?_;refine⟨_,lD,?_⟩;rw[Ew p.name];simp only[Dt,B6];refine⟨by rw[AL,Ad,Ar];simp;omega,by rw[Ad,AL,Ar];simp;omega,?_⟩;refine⟨_,_,_,lD,?_⟩;refine⟨d,hb.at1 xT rfl,e,hb.at1 xT rfl,o,hb.at1 xT rfl,callX.intro (SE.FR.go (NV (v:=p.v) λw3 x3=>⟨x3,_,rfl,?_⟩))⟩;simp only[AX,B6];refine⟨by rw[Ad,Ad,Ar];simp;omega,by rw[Ad,AL,Ar];simp;omega,callX.intro (SE.GX.go (word:=B wNeeds) (QH dC h1 (hd.ext xT) λw4 x4=>⟨x4,_,rfl,?_⟩))⟩;simp only[AX];refine⟨by rw[Ad,Ad,Ar];simp;omega,callX.intro (SE.GX.go (word:=B My) (QH dC h2 (he.ext xT) λw5 x5=>⟨x5,_,rfl,?_⟩))⟩;simp only[AX];refine⟨by rw[Ad,Ad,Ar];simp;omega,callX.intro (SE.GX.go (word:=B wLikes) (QH dC h3 (ho.ext xT) λw6 x6=>⟨x6,_,rfl,?_⟩))⟩;simp only[AX];refine⟨by rw[Ad,Ad,Ar];simp;omega,?_⟩;have:=hR w6 xT;have e:CR p=_:=rfl;unfold CR Ip at e;simpa[CR,Ip]using this
def Zgt{p:Pack}{e:Sl}(hN:Ac p.name)(hd:SlR depE w S d p.deps)(he:SlR depE w S e p.peers)(ho:SlR depE w S o p.opt)
  (hR:∀w',Ext w w'->R (AQ p) w'):SE.Kt p.name p.v.ma p.v.mi p.v.pa d e o w R:=by
 unfold SE.Kt;refine newS.intro λ_ w1 x1 hb _ _=>?_;refine⟨_,lD,?_⟩;refine SE.GV.go (r04Name_se hN λw2 x2=>⟨_,rfl,bound ?_⟩);refine⟨p.v.ma,p.v.mi,p.v.pa,λ_=>hb.at1 xT rfl,gCall.intro p.v.may (λ_ q hq=>SE.Fu.go (r02May_se λw' hx=>⟨_,rfl,hq _ hx⟩)) λt1 w3 x3 a7=>bound ?_⟩;refine⟨d,λ_=>hb.at1 xT rfl,gCall.intro (Av p.deps) (λ_ q hq=>SE.GY.go (QI (hd.ext xT) λw' hx=>⟨_,rfl,hq _ hx⟩)) λt2 w4 x4 a5=>bound ?_⟩;refine⟨e,λ_=>hb.at1 xT rfl,gCall.intro (Av p.peers) (λ_ q hq=>SE.GY.go (QI (he.ext xT) λw' hx=>⟨_,rfl,hq _ hx⟩)) λt3 w5 x5 a4=>bound ?_⟩;refine⟨o,λ_=>hb.at1 xT rfl,gCall.intro (Av p.opt) (λ_ q hq=>SE.GY.go (QI (ho.ext xT) λw' hx=>⟨_,rfl,hq _ hx⟩)) λt4 w6 x6 a0=>?_⟩;have e1:(((((!Af p.name)||(!t1))||(!t2))||(!t3))||(!t4))= !C5 p:=by
  unfold C5;cases h1:Af p.name
  .simp
  rw[h1]at a7 a5 a4 a0;rw[a7 rfl]at a5 a4 a0 ⊢;cases h2:p.v.may
  .simp
  rw[h2]at a5 a4 a0;rw[a5 rfl]at a4 a0 ⊢;cases h3:Av p.deps
  .simp
  rw[h3]at a4 a0;rw[a4 rfl]at a0 ⊢;cases h4:Av p.peers
  .simp
  rw[h4]at a0;rw[a0 rfl];simp
 rw[e1];refine⟨λh=>?_,λh=>?_⟩
 .have:AQ p=false:=by
   unfold AQ;have:C5 p=false:=by simpa using h
   rw[this];rfl
  rw[<-this];exact hR _ xT
 have hm:C5 p=true:=by simpa using h
 refine⟨d,hb.at1 xT rfl,e,hb.at1 xT rfl,SE.GW.go (QG (hd.ext xT) (he.ext xT) λw7 x7=>⟨_,rfl,?_⟩)⟩;refine⟨d,λ_=>hb.at1 xT rfl,o,λ_=>hb.at1 xT rfl,gCall.intro (BF p.deps p.opt) (λ_ q hq=>SE.GW.go (QG (hd.ext xT) (ho.ext xT) λw' hx=>⟨_,rfl,hq _ hx⟩)) λt5 w8 x8 a8=>bound ?_⟩;refine⟨e,λ_=>hb.at1 xT rfl,o,λ_=>hb.at1 xT rfl,gCall.intro (BF p.peers p.opt) (λ_ q hq=>SE.GW.go (QG (he.ext xT) (ho.ext xT) λw' hx=>⟨_,rfl,hq _ hx⟩)) λt6 w9 x9 a6=>bound ?_⟩;have e2:((BF p.deps p.peers&&t5)&&t6)=Fi p:=by
  unfold Fi;cases h1:BF p.deps p.peers
  .rfl
  rw[h1]at a8 a6;rw[a8 rfl]at a6 ⊢;cases h2:BF p.deps p.opt
  .rfl
  rw[h2]at a6;rw[a6 rfl]
 rw[e2];refine⟨p.name,p.v.ma,p.v.mi,p.v.pa,d,e,o,λ_=>hb.at0 xT rfl,gCall.intro (B (CR p)) (λ_ q hq=>SE.Kv.go (Zgv hm (hd.ext xT) (he.ext xT) (ho.ext xT) λw' hx=>⟨_,rfl,hq _ hx⟩)) λt7 b0 b2 a9=>?_⟩;have e3:(Fi p&&decide ((t7.size:Int)<=4096))=AQ p:=by
  unfold AQ;rw[hm,ie];cases h1:Fi p
  .rfl
  rw[a9 h1,Ad,ie,ie,decide_eq_decide];omega
 rw[e3];exact hR _ xT
def VZ(x y:Span):(((x.lo.ma==y.lo.ma)&&((x.lo.mi==y.lo.mi)&&((x.lo.pa==y.lo.pa)&&true)))&&(((x.hi.ma==y.hi.ma)&&((x.hi.mi==y.hi.mi)&&((x.hi.pa==y.hi.pa)&&true)))&&true))=decide (x=y):=by rw[Gq,Gq];obtain⟨a,b⟩:=x;obtain⟨c,d⟩:=y;rw[gk];simp
def R7{α:Type}{a b:List α}{n:Nat}(ha:n<a.length)(hb:n<b.length)(h:a.take n=b.take n):a.take (n+1)=b.take (n+1)↔a[n]=b[n]:=by rw[dw ha,dw hb,h];simp only[List.append_cancel_left_eq,List.cons.injEq,and_true]
def Qq{α:Type}{a b:List α}{n:Nat}(ha:n<a.length)(hb:n<b.length)(h:a[n]≠b[n]):a≠b:=λe=>h (by subst e;rfl)
def Zgu{t:Sl}{a b:LS}(hs:SlR spanE w S s a)(ht:SlR spanE w S t b)(hR:∀w',Ext w w'->R (decide (a=b)) w'):SE.Ku s t w R:=by
 unfold SE.Ku;have hl:=hs.len;have a8:=ht.len;refine⟨λh=>?_,λh=>?_⟩
 .have:decide (a=b)=false:=decide_eq_false λe=>h (by rw[hl,a8,e]);rw[<-this];exact hR _ xR
 have a0:a.length=b.length:=by have:=ji.1 h;omega
 refine loop1.up hs.max (λi w'=>Ext w w'/\a.take i=b.take i) ⟨Ext.refl _,rfl⟩ λi w1 b2 hi ⟨x1,hI⟩ hn=>⟨λa9=>bnd.drew λw2 x2=>?_,λb0=>?_⟩
 .have h1:i<a.length:=oM;have h2:i<b.length:=oM;obtain⟨ad,ha,_,hc⟩:=EQ hs h1;obtain⟨a4,a5,_,a6⟩:=EQ ht h2;refine⟨ad,⟨ha,oM,a9⟩,_,_,_,_,_,_,hc _ xT,a4,⟨a5,oM,oM⟩,_,_,_,_,_,_,a6 _ xT,?_⟩;rw[VZ];refine⟨λh=>?_,λh=>hn h1 _ ⟨xT,(R7 h1 h2 hI).2 (by simpa using h)⟩⟩;have:decide (a=b)=false:=decide_eq_false (Qq h1 h2 (by simpa using h));rw[<-this];exact hR _ xT
 .have a7:i=a.length:=oM;rw[a7,eh,a0,eh]at hI;have:decide (a=b)=true:=decide_eq_true hI;rw[<-this];exact hR _ xT
def NW{t:Sl}{a b:LD}(hs:SlR depE w S s a)(ht:SlR depE w S t b)(hR:∀w',Ext w w'->R (decide (a=b)) w'):SE.FS s t w R:=by
 unfold SE.FS;have hl:=hs.len;have b2:=ht.len;refine⟨λh=>?_,λh=>?_⟩
 .have:decide (a=b)=false:=decide_eq_false λe=>h (by rw[hl,b2,e]);rw[<-this];exact hR _ xR
 have a7:a.length=b.length:=by have:=ji.1 h;omega
 refine loop1.up hs.max (λi w'=>Ext w w'/\a.take i=b.take i) ⟨Ext.refl _,rfl⟩ λi w1 b7 hi ⟨x1,hI⟩ hn=>⟨λb4=>bnd.drew λw2 x2=>?_,λb6=>?_⟩
 .have h1:i<a.length:=oM;have h2:i<b.length:=oM;obtain⟨ad,u,ha,_,_,hr,hc⟩:=BD hs h1;obtain⟨a4,u2,a9,_,_,b5,a6⟩:=BD ht h2;have a5:s.a=some ad/\(0:Int)<=(i:Int)/\(i:Int)<(s.len:Int):=⟨ha,oM,b4⟩;have a0:t.a=some a4/\(0:Int)<=(i:Int)/\(i:Int)<(t.len:Int):=⟨a9,oM,oM⟩;refine⟨ad,a5,_,(hc _ xT).pre rfl,a4,a0,_,(a6 _ xT).pre rfl,bound ⟨ad,λ_=>a5,u,λ_=>(hc _ xT).mid rfl,a4,λ_=>a0,u2,λ_=>(a6 _ xT).mid rfl,?_⟩⟩;refine gCall.intro (decide (a[i].range=b[i].range)) (λ_ q hq=>SE.Ku.go (Zgu (hr.ext xT) (b5.ext xT) λw' hx=>⟨_,rfl,hq _ hx⟩)) λt3 w3 x3 a8=>?_;have e:((!Ai a[i].name b[i].name)||(!t3))= !decide (a[i]=b[i]):=by
   cases h1:Ai a[i].name b[i].name
   .have: ¬a[i]=b[i]:=λe=>(by rw[e,AH.2 rfl]at h1;cases h1);simp[this]
   .rw[h1]at a8;rw[a8 rfl];have hn:=AH.1 h1;have:(a[i].range=b[i].range)↔a[i]=b[i]:=by
     constructor
     .intro h2;generalize a[i]=x at*;generalize b[i]=y at*;obtain⟨x1,x2⟩:=x;obtain⟨y1,y2⟩:=y;simp only at hn h2;rw[hn,h2]
     .intro h;rw[h]
    simp only[this];rfl
  rw[e];refine⟨λh=>?_,λh=>hn h1 _ ⟨xT,(R7 h1 h2 hI).2 (by simpa using h)⟩⟩;have:decide (a=b)=false:=decide_eq_false (Qq h1 h2 (by simpa using h));rw[<-this];exact hR _ xT
 .have b0:i=a.length:=oM;rw[b0,eh,a7,eh]at hI;have:decide (a=b)=true:=decide_eq_true hI;rw[<-this];exact hR _ xT
open Go.MapKept
structure KeyT(P:Program)(mt:TypeId)(K:Value->Prop)(zero:Value):Prop where
 und:∃kt et,P.underlying mt=some (.map kt et)/\(∀w,(zeroValue et).run P w= .ok zero w)/\
  (∀k,K k->∀e w,(Instr.checkKey e 10000 kt k).run P w= .ok () w)/\
  (∀k,K k->∀l:List MapEntry,(∀x∈l,K x.key)->∀w,((∀x∈l,x.key≠k)/\(Instr.findKey kt k l).run P w= .ok none w)\/∃(j:Nat) (e:MapEntry),l[j]?=some e/\e.key=k/\(Instr.findKey kt k l).run P w= .ok (some (j,e.val)) w)
 stay:∀k,K k->Instr.sameBits 10000 k k=true
def MapR(K:Value->Prop)(w:Wd)(r:Nat)(m:List (Value×Value)):Prop:=
 ∃es clock,w.heap[r]?=some (.map es clock)/\Stamped es clock/\es.toList.map (λe=>(e.key,e.val))=m/\∀x∈es.toList,K x.key
section
variable {P:Program} {mt:TypeId} {K:Value->Prop} {zero:Value} {w w':Wd} {r:Nat} {m:List (Value×Value)}
def MapR.lt(h:MapR K w r m):r<w.heap.size:=by obtain⟨es,a0,hb,_⟩:=h;exact(fa.1 hb).1
def MapR.of(h:MapR K w r m)(he:w'.heap[r]?=w.heap[r]?):MapR K w' r m:=by obtain⟨es,a0,hb,h2⟩:=h;exact⟨es,a0,he.trans hb,h2⟩
def MapR.ext(h:MapR K w r m)(hx:Ext w w'):MapR K w' r m:=h.of (hx.block h.lt)
def MapR.keys(h:MapR K w r m):(m.map (·.1)).Nodup/\∀p∈m,K p.1:=by
 obtain⟨es,a0,_,hs,rfl,hk⟩:=h;refine⟨?_,λp hp=>?_⟩
 .rw[iy];exact hs.2.2
 .obtain⟨e,he,rfl⟩:=gq.1 hp;exact hk e he
def NI{k:Value->Wp}(h:∀r w',Ext w w'->r=w.heap.size->MapR K w' r []->k (.map (some r)) w'):semS P (Instr.makeMap mt none) w k:=
 ⟨_,_,rfl,h _ _ (Ext.alloc _ _) rfl ⟨#[],0,heap_alloc_new w _,stamped_empty 0,rfl,by simp⟩⟩
def I5(T:KeyT P mt K zero)(h:MapR K w r m){k:Value}(hk:K k):
  ((∀p∈m,p.1≠k)/\∀ok,(Instr.lookup mt (.map (some r)) k ok).run P w= .ok (if ok then .tuple #[zero,.bool false]else zero) w)\/
  ∃v,(k,v)∈m/\∀ok,(Instr.lookup mt (.map (some r)) k ok).run P w= .ok (if ok then .tuple #[v,.bool true]else v) w:=by
 obtain⟨kt,et,hu,hz,hc,hf⟩:=T.und;obtain⟨es,a0,hb,hs,rfl,a4⟩:=h;rcases hf k hk es.toList a4 w with⟨hn,hr⟩|⟨j,e,hj,he,hr⟩
 .refine .inl ⟨λp hp=>?_,λok=>?_⟩
  .obtain⟨e,he,rfl⟩:=gq.1 hp;exact hn e he
  .cases ok<;>simp[Instr.lookup,Sem.run_bind,run_underlying hu,Result.andThen,Go.MapKept.run_getObj_map hb,hc k hk,hr,hz]
 .refine .inr ⟨e.val,gq.2 ⟨e,gv hj,by rw[he]⟩,λok=>?_⟩;cases ok<;>simp[Instr.lookup,Sem.run_bind,run_underlying hu,Result.andThen,Go.MapKept.run_getObj_map hb,hc k hk,hr]
def EY(T:KeyT P mt K zero)(h:MapR K w r m){k v:Value}(hk:K k)(hn:∀p∈m,p.1≠k){c:Wp}(a7:∀w',But r w w'->w'.heap.size=w.heap.size->MapR K w' r (m++[(k,v)])->c w'):semU P (Instr.mapUpdate mt (.map (some r)) k v) w c:=by
 obtain⟨kt,et,hu,hz,hc,hf⟩:=T.und;obtain⟨es,a0,hb,hs,rfl,a4⟩:=h;have a5:∀x∈es.toList,x.key≠k:=λx hx=>hn _ (gq.2 ⟨x,hx,rfl⟩);rcases hf k hk es.toList a4 w with⟨_,hr⟩|⟨j,e,hj,he,hr⟩
 .refine⟨{w with heap:=w.heap.setIfInBounds r (.map (es.push {key:=k,val:=v,born:=a0}) (a0+1))},?_,a7 _ ⟨?_,rfl,rfl,rfl,?_⟩ ?_ ?_⟩
  .simp[Instr.mapUpdate,Sem.run_bind,run_underlying hu,Result.andThen,Go.MapKept.run_getObj_map hb,hc k hk,hr,run_setObj_map _ hb]
  .simp
  .intro b a8 a6;exact(heap_set hb).2 b a6
  .simp
  .exact⟨_,_,(heap_set hb).1,stamped_push hs a5,by simp,λx hx=>by
    simp only[Array.toList_push,fk,ep]at hx;obtain hx|rfl:=hx
    .exact a4 x hx
    .exact hk⟩
 .exact absurd he (a5 e (gv hj))
def Zkp(T:KeyT P mt K zero)(h:MapR K w r m){k v u:Value}(hk:K k)(hm:(k,u)∈m){c:Wp}(a9:∀w' m',But r w w'->w'.heap.size=w.heap.size->MapR K w' r m'->(k,v)∈m'->m'.map (·.1)=m.map (·.1)->c w'):semU P (Instr.mapUpdate mt (.map (some r)) k v) w c:=by
 obtain⟨kt,et,hu,hz,hc,hf⟩:=T.und;obtain⟨es,a5,hb,hs,rfl,a7⟩:=h;rcases hf k hk es.toList a7 w with⟨hn,_⟩|⟨j,e,hj,he,hr⟩
 .obtain⟨e,he,h1⟩:=gq.1 hm;exact absurd (congrArg Prod.fst h1) (hn e he)
 .have a4:es[j]?=some e:=by simpa using hj
  have a0:∀e',es[j]?=some e'->e'.key=k:=λe' h=>by rw[a4]at h;cases h;exact he
  have b0:(Instr.keyThatStays (((es[j]?).map (·.key)).getD k) k).run P w= .ok k w:=by rw[a4];simp only[je,Option.getD_some,he];simp[Instr.keyThatStays,T.stay k hk]
  refine⟨{w with heap:=w.heap.setIfInBounds r (.map (es.modify j λe=>{e with key:=k,val:=v}) a5)},?_,a9 _ ((es.modify j λe=>{e with key:=k,val:=v}).toList.map λe=>(e.key,e.val)) ⟨?_,rfl,rfl,rfl,?_⟩ ?_ ?_ ?_ ?_⟩
  .simp only[Instr.mapUpdate,Sem.run_bind,run_underlying hu,Result.andThen,Go.MapKept.run_getObj_map hb,hc k hk,hr];rw[b0];simp[run_setObj_map _ hb]
  .simp
  .intro b b4 a8;exact(heap_set hb).2 b a8
  .simp
  .refine⟨_,_,(heap_set hb).1,stamped_modify hs j _ (λ_ _=>rfl) (λe' _ h=>(a0 e' h).symm),rfl,λx hx=>?_⟩;have a6:=modify_keys (es:=es) j (λe=>{e with key:=k,val:=v}) (λe' h=>(a0 e' h).symm);have:x.key∈(es.modify j λe=>{e with key:=k,val:=v}).toList.map (·.key):=gq.2 ⟨x,hx,rfl⟩;rw[a6]at this;obtain⟨y,hy,b2⟩:=gq.1 this;rw[<-b2];exact a7 y hy
  .have b5:j<es.size:=(fa.1 a4).1;refine gq.2 ⟨{e with key:=k,val:=v},?_,rfl⟩;refine gv (i:=j) ?_;simp[mb,a4]
  .rw[iy,iy];exact modify_keys (es:=es) j (λe=>{e with key:=k,val:=v}) (λe' h=>(a0 e' h).symm)
def Zdo(hu:P.underlying mt=some (.map kt et))(h:MapR K w r m):(Builtin.len_ #[mt] 3 #[.map (some r)]).run P w= .ok (.int .i64 m.length) w:=by obtain⟨es,a0,hb,hs,rfl,a4⟩:=h;simp[Builtin.len_,Sem.run_bind,run_underlying hu,Result.andThen,Go.MapKept.run_getObj_map hb,goInt]
def IterR(w:Wd)(it r:Nat)(left:List (Value×Value))(last:Option (Value×Value)):Prop:=
 ∃es clock seen,w.heap[r]?=some (.map es clock)/\Stamped es clock/\w.heap[it]?=some (.mapIter (some r) clock seen clock)/\
  (es.toList.filter λe=>!seen.contains e.born).map (λe=>(e.key,e.val))=left/\
  (∀p,last=some p->∃st,seen.back? =some st/\∃e,es.find? (·.born==st)=some e/\(e.key,e.val)=p)
def IterR.of{last:Option (Value×Value)}(h:IterR w it r left last)(h1:w'.heap[r]?=w.heap[r]?)(h2:w'.heap[it]?=w.heap[it]?):IterR w' it r left last:=by obtain⟨es,a0,seen,a,b,c,d⟩:=h;exact⟨es,a0,seen,h1.trans a,b,h2.trans c,d⟩
def IterR.lt{last:Option (Value×Value)}(h:IterR w it r left last):r<w.heap.size/\it<w.heap.size:=by obtain⟨es,a0,seen,a,b,c,d⟩:=h;exact⟨(fa.1 a).1,(fa.1 c).1⟩
def IterR.ext{last:Option (Value×Value)}(h:IterR w it r left last)(hx:Ext w w'):IterR w' it r left last:=h.of (hx.block h.lt.1) (hx.block h.lt.2)
def Zg0(hu:P.underlying mt=some (.map kt et))(h:MapR K w r m){k:Value->Wp}(hk:∀it w',Ext w w'->it=w.heap.size->IterR w' it r m none->k (.pointer (some ⟨it,0,none⟩)) w'):semS P (Instr.range mt (.map (some r))) w k:=by
 obtain⟨es,a0,hb,hs,rfl,a4⟩:=h;refine⟨_,w.alloc (.mapIter (some r) a0 #[] a0),?_,hk _ _ (Ext.alloc _ _) rfl ⟨es,a0,#[],?_,hs,heap_alloc_new w _,?_,λp h=>by cases h⟩⟩
 .simp[Instr.range,Sem.run_bind,run_underlying hu,Result.andThen,Go.MapKept.run_getObj_map hb]
 .rw[(heap_alloc w _).2 r (fa.1 hb).1];exact hb
 .congr 1;apply oe.2;intro x hx;simp
def Zad{p:Value×Value}(h:IterR w it r left (some p)):(Instr.entry (.pointer (some ⟨it,0,none⟩))).run P w= .ok (.tuple #[p.1,p.2]) w:=by
 obtain⟨es,a0,seen,hb,hs,hi,hl,hp⟩:=h;obtain⟨st,h1,e,h2,rfl⟩:=hp p rfl;have a4:(getObj it).run P w= .ok (.mapIter (some r) a0 seen a0) w:=by simp[getObj,Sem.run,hi]
 simp[Instr.entry,Sem.run_bind,Result.andThen,a4,h1,Go.MapKept.run_getObj_map hb,h2]
def Zbc{α β:Type}[BEq β][LawfulBEq β](f:α->β){l:List α}(hn:(l.map f).Nodup)(hi:i<l.length):(l.filter λe=>f e != f l[i])=l.take i++l.drop (i+1):=by
 have a4:l=l.take i++l[i]::l.drop (i+1):=by rw[<-fu hi,fo]
 have a0:=hn;rw[a4,fq,ib,jb]at a0;obtain⟨h1,h2,h3⟩:=a0;rw[oq]at h2;generalize l[i]=x at*
 conv=>lhs;rw[a4]
 rw[jk,nx,if_neg sI];congr 1
 .apply oe.2;intro y hy;have:=h3 (f y) (ip hy) (f x) sI;simpa using this
 .apply oe.2;intro y hy;have:f y≠f x:=λe=>h2.1 (e▸ip hy);simpa using this
def Un{α β:Type}(f:α->β){l:List α}(hn:(l.map f).Nodup){x y:α}(hx:x∈l)(hy:y∈l)(h:f x=f y):x=y:=by
 induction l with
 |nil=>cases hx
 |cons a r ih=>
  rw[ib,oq]at hn;rcases ga.1 hx with a0|a0<;>obtain a4|a4:=ga.1 hy
  .rw[a0,a4]
  .subst a0;exact absurd (h▸ip a4) hn.1
  .subst a4;exact absurd (h▸ip a0) hn.1
  .exact ih hn.2 a0 a4
def YY(n t:Nat)(h:0<n):(Question.mapNext n).cut t<n:=Nat.mod_lt _ h
def Ze6{last:Option (Value×Value)}(h:IterR w it r left last){k:Value->Wp}
  (h0:left=[]->k (.tuple #[.bool false]) w)
  (h1:∀(p:Value×Value) (l1 l2:List (Value×Value)) w',left=l1++p::l2->(∀b,b<w.heap.size->b≠it->w'.heap[b]?=w.heap[b]?)->w'.heap.size=w.heap.size->But it w w'->IterR w' it r (l1++l2) (some p)->k (.tuple #[.bool true,p.1,p.2]) w'):
  semS P (Instr.next (.pointer (some ⟨it,0,none⟩)) false 0) w k:=by
 obtain⟨es,a0,seen,hb,hs,hi,hl,hp⟩:=h;have d0:∀w1:Wd,w1.heap=w.heap->(getObj it).run P w1= .ok (.mapIter (some r) a0 seen a0) w1:=λw1 h=>by simp[getObj,Sem.run,h,hi]
 have hg:∀w1:Wd,w1.heap=w.heap->(getObj r).run P w1= .ok (.map es a0) w1:=λw1 h=>by simp[getObj,Sem.run,h,hb]
 have b0:(!seen.isEmpty&& !es.isEmpty&&es.all (λe=>decide (e.born≥a0)))=false:=by
  cases he:es.isEmpty
  .have b4:es.toList≠[]:=by
    intro h0;have:es= #[]:=by rw[<-lj (xs:=es),h0]
    rw[this]at he;cases he
   obtain⟨x,t,hx⟩:=List.exists_cons_of_ne_nil b4;have d3:=hs.1 x (by rw[hx];simp);have:es.all (λe=>decide (e.born≥a0))=false:=by rw[pf];intro a5;rw[Array.all_eq_true']at a5;have:=a5 x (by rw[<-nv,hx];simp);simp at this;omega
   rw[this];simp
  .simp
 have a7:∀x∈es.filter (λe=>!seen.contains e.born),x.born<a0:=λx hx=>hs.1 x (by rw[Array.mem_filter]at hx;exact nv.2 hx.1);have c4:(es.filter (λe=>!seen.contains e.born)).filter (λe=>decide (e.born<a0))=es.filter (λe=>!seen.contains e.born):=by rw[Array.filter_eq_self];intro x hx;simpa using a7 x hx
 have b9:(es.filter (λe=>!seen.contains e.born)).filter (λe=>decide (e.born≥a0))= #[]:=by rw[Array.filter_eq_empty_iff];intro x hx;have:=a7 x hx;simp;omega
 have hL:(es.filter (λe=>!seen.contains e.born)).toList.map (λe=>(e.key,e.val))=left:=by rw[<-hl,Array.toList_filter]
 unfold semS;simp only[Instr.next,Sem.run_bind,Result.andThen,d0 w rfl,hg w rfl,b0,c4,b9];generalize c9:es.filter (λe=>!seen.contains e.born)=L at*;simp only[mg,if_false,Array.append_empty];by_cases hE:L= #[]
 .have d1:left=[]:=by rw[<-hL,hE];rfl
  refine⟨_,_,?_,h0 d1⟩;rw[hE];simp[Sem.run_bind,Question.forced,Result.andThen]
 .have c8:L.isEmpty=false:=by simpa using hE
  have a8:0<L.size:=by
   obtain h|h:=jq L.size
   .exact absurd (Array.eq_empty_of_size_eq_zero h) hE
   .exact h
  rw[c8,if_neg sI,Array.empty_append,Array.size_map];obtain⟨i,w1,hr,b2,hw⟩:∃i w1,(choose (.mapNext L.size)).run P w= .ok i w1/\i<L.size/\(w1=w\/w1=w.drew):=by
   rw[run_choose_drew];by_cases hf:(Question.mapNext L.size).forced=true
   .exact⟨0,w,by rw[if_pos hf],a8,.inl rfl⟩
   .exact⟨_,_,by rw[if_neg hf],YY _ _ a8,.inr rfl⟩
  have b7:(Array.map some L)[i]?=some (some L[i]):=by simp[b2]
  have a4:w1.heap=w.heap:=by rcases hw with rfl|rfl<;>rfl
  have c6:(setObj it (.mapIter (some r) a0 (seen.push L[i].born) a0)).run P w1= .ok () {w1 with heap:=w1.heap.setIfInBounds it (.mapIter (some r) a0 (seen.push L[i].born) a0)}:=by simp[setObj,Sem.run,a4,hi]
  have b5:=heap_set (w:=w1) (r:=it) (o':=.mapIter (some r) a0 (seen.push L[i].born) a0) (by rw[a4];exact hi);have a6:∀b,b<w.heap.size->b≠it->(w1.heap.setIfInBounds it (.mapIter (some r) a0 (seen.push L[i].born) a0))[b]?=w.heap[b]? :=λb _ b4=>by rw[b5.2 b b4,a4]
  have c7:(w1.heap.setIfInBounds it (.mapIter (some r) a0 (seen.push L[i].born) a0)).size=w.heap.size:=by simp[a4]
  have d2:L.toList=L.toList.take i++L[i]::L.toList.drop (i+1):=by have h1:i<L.toList.length:=(by simpa using b2);have h2:=fu h1;simp only[Array.getElem_toList]at h2;rw[<-h2,fo]
  have c5:r≠it:=by rintro rfl;rw[hb]at hi;cases hi
  have a9:L.toList=es.toList.filter λe=>!seen.contains e.born:=by rw[<-c9,Array.toList_filter]
  have c3:(L.toList.map (·.born)).Nodup:=by rw[a9];exact(List.filter_sublist.map _).nodup hs.2.1
  refine⟨_,{w1 with heap:=w1.heap.setIfInBounds it (.mapIter (some r) a0 (seen.push L[i].born) a0)},?_,h1 (L[i].key,L[i].val) ((L.toList.take i).map λe=>(e.key,e.val)) ((L.toList.drop (i+1)).map λe=>(e.key,e.val)) _ ?_ a6 c7 ⟨by show w.heap.size<=_;rw[c7];exact fm _,?_,?_,?_,a6⟩ ⟨es,a0,seen.push L[i].born,?_,hs,b5.1,?_,?_⟩⟩
  .simp only[Sem.run_bind,hr,Result.andThen,b7,c6];rfl
  .rw[<-hL]
   conv=>lhs;rw[d2]
   simp
  .rcases hw with rfl|rfl<;>rfl
  .rcases hw with rfl|rfl<;>rfl
  .rcases hw with rfl|rfl<;>rfl
  .show(w1.heap.setIfInBounds it _)[r]?=_;rw[b5.2 r c5,a4];exact hb
  .rw[<-fq];congr 1;have e1:(es.toList.filter λe=>!(seen.push L[i].born).contains e.born)=L.toList.filter λe=>e.born != L[i].born:=by
    rw[a9,List.filter_filter];apply List.filter_congr;intro x _;rw[Array.contains_push];have:(L[i].born==x.born)=(x.born==L[i].born):=by rw[gk,beq_iff_eq,beq_iff_eq];exact eq_comm
    simp only[bne,Bool.not_or];rw[Bool.and_comm]
    try rfl
    try rw[this]
   rw[e1];have:=Zbc MapEntry.born c3 (i:=i) (by rw[jt];exact b2);simpa using this
  .rintro p h;cases h;refine⟨L[i].born,by simp,?_⟩;have b8:L[i]∈es.toList:=by have:L[i]∈L.toList:=(by simp);rw[a9]at this;exact(io.1 this).1
   have b6:(es.toList.find? λx=>x.born==L[i].born).isSome:=List.find?_isSome.2 ⟨_,b8,by simp⟩;obtain⟨e,he⟩:=Option.isSome_iff_exists.1 b6;refine⟨e,by rw[<-Array.find?_toList];exact he,?_⟩;have h2:=ot he;have h3:=ly he;rw[Un (λe:MapEntry=>e.born) hs.2.1 h3 b8 (by simpa using h2)]
end
end Go.Hal
namespace Go.Hal
open Go.MapKept
def Hx(v:Value):Prop:=∃s,v= .string s
def Mo:KeyT prog 187 Hx (.int .i64 0) where
 und:=⟨9,3,underlying187,Tryz.zeroValue3,λk ⟨s,h⟩ e w=>by subst h;exact run_checkKey (d:=.string) (k:=.string s) underlying9 trivial e 9999,λk ⟨s,h⟩ l hl w=>by
  subst h;rcases findNow_spec (d:=.string) (k:=.string s) trivial l 0 (λx hx=>by obtain⟨t,ht⟩:=hl x hx;rw[ht];trivial)with⟨h1,h2⟩|⟨j,e,h1,h2,h3⟩
  .exact .inl ⟨h2,run_findKey underlying9 h1⟩
  .exact .inr ⟨j,e,h2,h3,run_findKey underlying9 (by rw[ke]at h1;exact h1)⟩⟩
 stay:=λk ⟨s,h⟩=>by subst h;exact sameBits_self (d:=.string) (k:=.string s) trivial _
def keyV(n:Bs)(v:Ver):Value:=.agg #[.string n,vi v.ma,vi v.mi,vi v.pa]
def Fy(x:Value):Prop:=∃n v,x=keyV n v
def GZ{m:Bs}{v u:Ver}:keyV n v=keyV m u↔n=m/\v=u:=by unfold keyV;obtain⟨a,b,c⟩:=v;obtain⟨a',b',c'⟩:=u;simp
def Zag(n m:Bs)(v u:Ver)(w:Wd):(Op.equal 125 (keyV n v) (keyV m u)).run prog w= .ok (decide (n=m/\v=u)) w:=by
 have h:(Op.equalIn (9997+3) 125 (keyV n v) (keyV m u)).run prog w= .ok ((Ai n m)&&(((v.ma==u.ma)&&((v.mi==u.mi)&&((v.pa==u.pa)&&true)))&&true)) w:=
  (JY kR kR (fs:= [⟨ "name",9,0,false, "", "halyard/catalog",0⟩,⟨ "version",66,1,false, "", "halyard/catalog",16⟩]) kR (DS (x:=(Value.string n)) (y:=(Value.string m)) rfl kR kR (run_equalIn_string w _ 9 n m kR) (DS (x:=(Value.agg #[(Value.int .i64 v.ma),(Value.int .i64 v.mi),(Value.int .i64 v.pa)])) (y:=(Value.agg #[(Value.int .i64 u.ma),(Value.int .i64 u.mi),(Value.int .i64 u.pa)])) rfl kR kR (JY kR kR (fs:= [⟨ "Major",3,0,false, "", "",0⟩,⟨ "Minor",3,1,false, "", "",8⟩,⟨ "Patch",3,2,false, "", "",16⟩]) kR (DS (x:=(Value.int .i64 v.ma)) (y:=(Value.int .i64 u.ma)) rfl kR kR (run_equalIn_int w _ 3 .i64 .i64 v.ma u.ma kR) (DS (x:=(Value.int .i64 v.mi)) (y:=(Value.int .i64 u.mi)) rfl kR kR (run_equalIn_int w _ 3 .i64 .i64 v.mi u.mi kR) (DS (x:=(Value.int .i64 v.pa)) (y:=(Value.int .i64 u.pa)) rfl kR kR (run_equalIn_int w _ 3 .i64 .i64 v.pa u.pa kR) JX)))) JX)))
 have e:((Ai n m)&&(((v.ma==u.ma)&&((v.mi==u.mi)&&((v.pa==u.pa)&&true)))&&true))=decide (n=m/\v=u):=by rw[Gq,Bool.and_true,gk,dx,AH,decide_eq_true_eq,decide_eq_true_eq]
 rw[e]at h;exact h
def askKey(n:Bs)(v:Ver)(w:Wd):∀(l:List MapEntry)(i:Nat),(∀x∈l,Fy x.key)->((∀x∈l,x.key≠keyV n v)/\(Instr.findAsking 125 (keyV n v) l i).run prog w= .ok none w)\/
  ∃(j:Nat) (e:MapEntry),l[j]?=some e/\e.key=keyV n v/\(Instr.findAsking 125 (keyV n v) l i).run prog w= .ok (some (i+j,e.val)) w
 | [],i,_=> .inl ⟨by simp,by simp[Instr.findAsking]⟩
 |e::es,i,h=>by
  obtain⟨m,u,hk⟩:=h e (.head _);have hq:=Zag n m v u w;rw[<-hk]at hq;by_cases he:n=m/\v=u
  .refine .inr ⟨0,e,rfl,by rw[hk];exact GZ.2 ⟨he.1.symm,he.2.symm⟩,?_⟩;simp only[Instr.findAsking,Sem.run_bind,hq,Result.andThen,decide_eq_true he];rfl
  .have a4:e.key≠keyV n v:=λq=>(by rw[hk]at q;have:=GZ.1 q;exact he ⟨this.1.symm,this.2.symm⟩);have a0:(Instr.findAsking 125 (keyV n v) (e::es) i).run prog w=(Instr.findAsking 125 (keyV n v) es (i+1)).run prog w:=(by simp only[Instr.findAsking,Sem.run_bind,hq,Result.andThen,decide_eq_false he];rfl);rcases askKey n v w es (i+1) (λx hx=>h x (.tail _ hx))with⟨h1,h2⟩|⟨j,e',h1,h2,h3⟩
   .exact .inl ⟨λx hx=>by
     cases hx with
     |head=>exact a4
     |tail _ hx=>exact h1 x hx,by rw[a0];exact h2⟩
   .exact .inr ⟨j+1,e',by simpa using h1,h2,by rw[a0,h3,show i+1+j=i+(j+1) by omega]⟩
def Zfv:Value:=.agg #[.string ⟨#[]⟩,vi 0,vi 0,vi 0,.slice none 0 0,.slice none 0 0,.slice none 0 0]
def Th(v:Ver)(e:Bool)(w:Wd):(Instr.checkKey e 9999 66 (.agg #[vi v.ma,vi v.mi,vi v.pa])).run prog w= .ok () w:=by have hi:∀x:Int,(Instr.checkKey e 9998 3 (.int .i64 x)).run prog w= .ok () w:=λx=>run_checkKey (d:=.int .i64) (k:=.int .i64 x) underlying3 rfl e 9997;rw[Instr.checkKey];simp only[Sem.run_bind,run_underlying underlying66,Result.andThen];simp[Sem.run_bind,Result.andThen,part,run_underlying underlying3,hi]
def Y6(n:Bs)(v:Ver)(e:Bool)(w:Wd):(Instr.checkKey e 10000 125 (keyV n v)).run prog w= .ok () w:=by have hs:(Instr.checkKey e 9999 9 (.string n)).run prog w= .ok () w:=run_checkKey (d:=.string) (k:=.string n) underlying9 trivial e 9998;unfold keyV;rw[Instr.checkKey];simp only[Sem.run_bind,run_underlying underlying125,Result.andThen];simp[Sem.run_bind,Result.andThen,part,run_underlying underlying9,run_underlying underlying66,hs,Th v e w]
def K6:KeyT prog 120 Fy Zfv where
 und:=⟨125,68,underlying120,Tryz.zeroValue68,λk ⟨n,v,h⟩ e w=>by subst h;exact Y6 n v e w,λk ⟨n,v,h⟩ l hl w=>by
  subst h;have a0:∀l:List MapEntry,(Instr.findKey 125 (keyV n v) l).run prog w=(Instr.findAsking 125 (keyV n v) l 0).run prog w:=by
   intro l;cases l with
   |nil=>simp[Instr.findKey,Instr.findNow,Instr.findAsking,run_underlying underlying125,Sem.run_bind,Result.andThen]
   |cons e es=>simp[Instr.findKey,Instr.findNow,Instr.sameNow,run_underlying underlying125,Sem.run_bind,Result.andThen]
  rw[a0];rcases askKey n v w l 0 hl with h|⟨j,e,h1,h2,h3⟩
  .exact .inl h
  .exact .inr ⟨j,e,h1,h2,by rw[ke]at h3;exact h3⟩⟩
 stay:=λk ⟨n,v,h⟩=>by subst h;simp[keyV,Instr.sameBits,Go.MapKept.bytes_beq]
end Go.Hal
namespace Go.Hal
def Q1(hs:SlR depE w S s l)(hR:∀w',Ext w w'->R (Av l) w'):SE.Hi s w R:=by
 unfold SE.Hi;have hl:=hs.len;refine loop1.up hs.max (λi w'=>Ext w w'/\Bb none (l.take i)=true) ⟨Ext.refl _,rfl⟩ λi w0 c5 hi ⟨x0,hI⟩ hn=>⟨λb5=>?_,λc3=>?_⟩
 .have a4:i<l.length:=oM;obtain⟨ad,t,ha,_,b6,hr,hc⟩:=BD hs a4;have b7:=T6 a4 hI;refine⟨ad,⟨ha,oM,b5⟩,_,t,hc _ xT,newS.intro λa w1 x1 hb b9 _=>stw0.intro hb sI λb8 b2 _ a5=>bnd.drew λw2 x2=>?_⟩;have c6:Ext w0 b8:=b2.ext x1 oM;refine⟨_,a5.at0 xT rfl,SE.CA.go (scanName_se b6 λw3 x3=>⟨_,rfl,bound ?_⟩)⟩;refine⟨t,λ_=>a5.at1 xT rfl,gCall.intro (AO l[i].range) (λ_ q hq=>SE.Gj.go (spanMay_se (hr.ext xT) λw' hx=>⟨_,rfl,hq _ hx⟩)) λt2 w4 x4 a7=>bound ?_⟩;refine⟨t,λ_=>a5.at1 xT rfl,bound (bound ?_)⟩;have a6:∀h0:0<i,DH none (l.take i)=some (l[i - 1]'oM).name:=λh0=>by have:=U2 (l:=l) (n:=i - 1) oM;rw[<-this];congr 2;omega
  have hd:∃(a0:Addr) (u:Bs),(decide ((0:Int)<(i:Int))=true->(s.a=some a0/\(0:Int)<=Aa ((i:Int) - 1)/\Aa ((i:Int) - 1)<(s.len:Int))/\ldc w4 (a0.add ((Aa ((i:Int) - 1)).toNat*2)) [.string u]/\DH none (l.take i)=some u):=by
   by_cases h0:0<i
   .have ew:=V1 h0 hi hs.max;obtain⟨a8,t',a9,_,c4,_,b0⟩:=BD hs (n:=i - 1) oM;exact⟨a8,_,λ_=>⟨by rw[ew];exact⟨a9,oM,oM⟩,by rw[ew];exact(b0 _ xT).pre rfl,a6 h0⟩⟩
   .exact⟨ad,⟨#[]⟩,λh=>by simp at h;omega⟩
  obtain⟨a0,u,hu⟩:=hd;have hg:∀{b:Bool},(!b&&decide ((0:Int)<(i:Int)))=true->decide ((0:Int)<(i:Int))=true:=λh=>by simp only[dx]at h;exact h.2
  refine⟨a0,λhb=>(hu (hg hb)).1,u,λhb=>(hu (hg hb)).2.1,_,λ_=>a5.at0 xT rfl,?_⟩;have e:((((!Af l[i].name)||(!t2))||((t.len:Int)==0))||(decide ((0:Int)<(i:Int))&&(!Ao u l[i].name)))= !Bb none (l.take (i+1)):=by
   rw[b7,JI];have e0:((t.len:Int)==0)=l[i].range.isEmpty:=by rw[hr.len];cases l[i].range<;>simp;omega
   rw[e0];cases h1:Af l[i].name
   .simp
   .rw[h1]at a7;rw[a7 rfl];cases h2:AO l[i].range
    .simp
    .cases h3:l[i].range.isEmpty
     .by_cases h0:0<i
      .have hb:decide ((0:Int)<(i:Int))=true:=(by simpa using h0);rw[hb,(hu hb).2.2];simp[FJ]
      .have hb:decide ((0:Int)<(i:Int))=false:=(by simp;omega);have b4:i=0:=oM;subst b4;simp[DH,FJ]
     .simp
  rw[e];refine⟨λh=>?_,λh=>hn a4 _ ⟨xT,by simpa using h⟩⟩;rw[<-T5 (i:=i+1) (by simpa using h)];exact hR _ xT
 .have:i=l.length:=oM;rw[this,eh]at hI;have e:decide ((s.len:Int)<=16)=Av l:=by unfold Av;rw[hI,ie,decide_eq_decide];omega
  rw[e];exact hR _ xT
def Ea(ns:List Bs):List (Value×Value):=ns.map λn=>(.string n,.int .i64 1)
def MapR.one{K:Value->Prop}{m:List (Value×Value)}(h:MapR K w r m){k u v:Value}(h1:(k,u)∈m)(h2:(k,v)∈m):u=v:=by have:=Un Prod.fst h.keys.1 h1 h2 rfl;exact congrArg Prod.snd this
def Px{ns:List Bs}{k:Wp}(hs:SlR depE w0 S s l)(x0:Ext w0 w)(hr:w0.heap.size<=r)(hm:MapR Hx w r (Ea ns))(e4:ns.Nodup)
  (hf:∀w',Ext w0 w'-> ¬(ns++l.map (·.name)).Nodup->R false w') (hk:∀w',Ext w0 w'->(ns++l.map (·.name)).Nodup->MapR Hx w' r (Ea (ns++l.map (·.name)))->k w'):
  loop1 0 w λb0 d2 d6=>((b0<(s.len:Int)->∃(d3:Addr),(s.a=some d3/\(0:Int)<=b0/\b0<(s.len:Int))/\∃(a4:Bs) (a0:Sl),(ldc d2 (d3.add (b0.toNat*2)) [(Value.string a4),a0.v])/\newS d2 [(Value.string (bm #[])),Sl.nil.v] 96 λa e8=>stw e8 a [(Value.string a4),a0.v] λe0=>∃(d0:Bs),(ldc e0 a [(Value.string d0)])/\semS prog (Instr.lookup 187 (Value.map (some r)) (Value.string d0) false) e0 λe6 d9=>∃(d7:Int),e6=(.int .i64 d7)/\semU prog (Instr.mapUpdate 187 (Value.map (some r)) (Value.string d0) (.int .i64 (Aa (d7+1)))) d9 λc4=>∃(d8:Bs),(ldc c4 a [(Value.string d8)])/\semS prog (Instr.lookup 187 (Value.map (some r)) (Value.string d8) false) c4 λe7 c5=>∃(d1:Int),e7=(.int .i64 d1)/\((1<d1->R false c5)/\(¬(1<d1)->d6 (Aa (b0+1)) c5)))/\(¬(b0<(s.len:Int))->k d2)):=by
 have hl:=hs.len;refine loop1.up hs.max (λi w'=>Ext w0 w'/\(ns++(l.take i).map (·.name)).Nodup/\MapR Hx w' r (Ea (ns++(l.take i).map (·.name)))) ⟨x0,by simpa using e4,by simpa using hm⟩ λi w1 f6 hi ⟨x1,hI,hM⟩ hn=>⟨λe2=>?_,λf1=>?_⟩
 .have a9:i<l.length:=oM;obtain⟨ad,t,ha,_,f4,f5,hc⟩:=BD hs a9;refine⟨ad,⟨ha,oM,e2⟩,_,t,hc _ xT,newS.intro λa w2 x2 hb f0 _=>stw0.intro hb sI λw3 b3 _ c7=>⟨_,c7.ldc.pre rfl,?_⟩⟩;have x3:Ext w1 w3:=b3.ext x2 oM;have e1:Ext w0 w3:=x1.trans x3;have c6:=hM.ext x3;have f2:=hM.lt;have e9:=x2.size;have a5:(l.take (i+1)).map (·.name)=(l.take i).map (·.name)++[l[i].name]:=by rw[dw a9,fq];rfl
  rcases I5 Mo c6 (k:=.string l[i].name) ⟨_,rfl⟩with⟨c3,b6⟩|⟨v,d4,b6⟩
  .refine⟨_,_,b6 false,0,rfl,?_⟩;refine EY Mo c6 ⟨_,rfl⟩ c3 λw4 b4 e5 b7=>?_;have c8:BoxAt w4 a [.string l[i].name,t.v]:=b4.box c7 oM;have c9:Ext w0 w4:=b4.ext e1 hr;have b2:MapR Hx w4 r (Ea (ns++(l.take (i+1)).map (·.name))):=(by rw[a5,<-fg,Ea,fq];exact b7);refine⟨_,c8.ldc.pre rfl,?_⟩;have a6:(Value.string l[i].name,Value.int .i64 1)∈Ea (ns++(l.take (i+1)).map (·.name)):=(by rw[a5,Ea];simp);rcases I5 Mo b2 (k:=.string l[i].name) ⟨_,rfl⟩with⟨a7,_⟩|⟨v',b5,a8⟩
   .exact absurd rfl (a7 _ a6)
   .have hv:v'= .int .i64 1:=b2.one b5 a6;subst hv;refine⟨_,_,a8 false,1,rfl,λh=>absurd h dC,λ_=>hn a9 _ ⟨c9,?_,b2⟩⟩;rw[a5,<-fg,jb];refine⟨hI,by simp,λx hx y hy=>?_⟩;simp only[ep]at hy;subst hy;intro e;subst e;exact c3 (.string l[i].name,.int .i64 1) (gq.2 ⟨_,hx,rfl⟩) rfl
  .obtain⟨n,e3,b8⟩:=gq.1 d4;simp only[Prod.mk.injEq,Value.string.injEq]at b8;obtain⟨b8,hv⟩:=b8;subst hv;refine⟨_,_,b6 false,1,rfl,?_⟩;refine Zkp Mo c6 ⟨_,rfl⟩ d4 λw4 m' b4 e5 b7 a6 _=>?_;have c8:BoxAt w4 a [.string l[i].name,t.v]:=b4.box c7 oM;have c9:Ext w0 w4:=b4.ext e1 hr;refine⟨_,c8.ldc.pre rfl,?_⟩;rcases I5 Mo b7 (k:=.string l[i].name) ⟨_,rfl⟩with⟨a7,_⟩|⟨v',b5,a8⟩
   .exact absurd rfl (a7 _ a6)
   .have hv:v'= .int .i64 2:=b7.one b5 a6;subst hv;refine⟨_,_,a8 false,2,rfl,λ_=>hf _ c9 ?_,λh=>absurd dC h⟩;intro d5;have b9:l.map (·.name)=(l.take i).map (·.name)++(l[i].name::(l.drop (i+1)).map (·.name)):=by
     conv=>lhs;rw[<-fo i l,fu a9,fq,ib]
    rw[b9,<-fg,jb]at d5;exact d5.2.2 n e3 l[i].name sI b8
 .have:i=l.length:=oM;rw[this,eh]at hI hM;exact hk _ x1 hI hM
def U4{a:Addr}{e:Sl}(hb:BoxAt w a [d.v,e.v,o.v]):(i=0->ldc w (a.add (i*1)) [d.v])/\(i=1->ldc w (a.add (i*1)) [e.v])/\(i=2->ldc w (a.add (i*1)) [o.v]):=
 ⟨λh=>by subst h;exact hb.ldc.mid rfl,λh=>by subst h;exact hb.ldc.mid rfl,λh=>by subst h;exact hb.ldc.mid rfl⟩
def Zfq{a:Addr}{e:Sl}{ld le lo:LD}(hb:BoxAt w a [d.v,e.v,o.v])(hd:SlR depE w S d ld)(he:SlR depE w S e le)(ho:SlR depE w S o lo)
  (hR:∀w',Ext w w'->R (decide ((ld++le++lo).map (·.name)).Nodup) w'):SE.KZ (Sl.mk (some a) 3 3) w R:=by
 unfold SE.KZ;refine NI (K:=Hx) λr w1 x1 b6 b2=>⟨some r,rfl,?_⟩;have a5:∀w',Ext w w'->∀l2,¬l2.Nodup->(∃t,(ld++le++lo).map (·.name)=l2++t)->R false w':=λw' hx l2 hn ⟨t,ht⟩=>by have:decide ((ld++le++lo).map (·.name)).Nodup=false:=decide_eq_false λh=>hn (by rw[ht,jb]at h;exact h.1);rw[<-this];exact hR _ hx
 refine loop1.up (N:=3) dC (λi w'=>Ext w w'/\∃ns:List Bs,ns.Nodup/\MapR Hx w' r (Ea ns)/\(i=0->ns=[])/\(i=1->ns=ld.map (·.name))/\(i=2->ns=(ld++le).map (·.name))/\(i=3->ns=(ld++le++lo).map (·.name)))
  ⟨x1,[],List.nodup_nil,b2,λ_=>rfl,λh=>by omega,λh=>by omega,λh=>by omega⟩ λi w2 b7 hi ⟨x2,ns,a7,hM,h0,h1,h2,h3⟩ hn=>⟨λb0=>?_,λb5=>?_⟩
 .have b4:i<3:=by have:((Sl.mk (some a) 3 3).len:Int)=3:=rfl;omega
  have a9:=U4 (i:=i) (hb.ext x2);have hr:w.heap.size<=r:=oM;have a8:i=0\/i=1\/i=2:=oM;obtain rfl|rfl|rfl:=a8
  .refine⟨a,⟨rfl,oM,b0⟩,d,a9.1 rfl,Px hd x2 hr hM a7 (λw' hx a6=>?_) λw' hx a0 a4=>hn oM _ ⟨hx,_,a0,a4,λh=>by omega,λ_=>?_,λh=>by omega,λh=>by omega⟩⟩
   .exact a5 _ hx _ a6 ⟨(le++lo).map (·.name),by rw[h0 rfl];simp⟩
   .rw[h0 rfl];simp
  .refine⟨a,⟨rfl,oM,b0⟩,e,a9.2.1 rfl,Px he x2 hr hM a7 (λw' hx a6=>?_) λw' hx a0 a4=>hn oM _ ⟨hx,_,a0,a4,λh=>by omega,λh=>by omega,λh=>?_,λh=>by omega⟩⟩
   .exact a5 _ hx _ a6 ⟨lo.map (·.name),by rw[h1 rfl];simp⟩
   .rw[h1 rfl];simp
  .refine⟨a,⟨rfl,oM,b0⟩,o,a9.2.2 rfl,Px ho x2 hr hM a7 (λw' hx a6=>?_) λw' hx a0 a4=>hn oM _ ⟨hx,_,a0,a4,λh=>by omega,λh=>by omega,λh=>by omega,λh=>?_⟩⟩
   .exact a5 _ hx _ a6 ⟨[],by rw[h2 rfl];simp⟩
   .rw[h2 rfl];simp
 .have:i=3:=by have:((Sl.mk (some a) 3 3).len:Int)=3:=rfl;omega
  have:decide ((ld++le++lo).map (·.name)).Nodup=true:=decide_eq_true (by rw[<-h3 this];exact a7);rw[<-this];exact hR _ x2
def Bld(b:Nat)(l:LU)(w:Wd):Prop:=Lib.IsBuilderF 159 5 b b (Lib.byteCells l) w
def Zh1{base:Nat}{e:TypeId}{size:Nat}{v:Value}{n:Nat}{xs:LV}(h:w.ownsRowF base e size v n xs)(hx:Ext w w'):w'.ownsRowF base e size v n xs:=by
 obtain⟨h1,h2⟩:=h;refine⟨h1,?_⟩;rcases h2 with h2|⟨g,cap,a0,fz,a,b,c,d⟩
 .exact .inl h2
 .exact .inr ⟨g,cap,a0,fz,a,b,(hx.block (fa.1 c).1).trans c,d⟩
def SQ{T e:TypeId}{B b:Nat}{p:Value}{bs:LV}(h:Lib.BuilderAtF T e B b p bs w)(hx:Ext w w'):Lib.BuilderAtF T e B b p bs w':=by obtain⟨h1,v,h2,h3,h4⟩:=h;exact⟨h1,v,(hx.block (fa.1 h2).1).trans h2,Zh1 h3 hx,h4⟩
def Bld.ext{b:Nat}{l:LU}(h:Bld b l w)(hx:Ext w w'):Bld b l w':=h.imp (λh=>SQ h hx) (λh=>SQ h hx)
def MX(w:Wd):Bld w.heap.size [] (w.alloc (.cells [Value.pointer none,Sl.nil.v].toArray 159)):=
 .inl ⟨fm _,_,heap_alloc_new w _,⟨rfl,.inl ⟨rfl,rfl⟩⟩,by simp[Value.ownBlock,Sl.v,Sl.nil]⟩
def Pk:Builder.Extra prog Tryz.layJo_ren:={sizeBuilder:=by kernel_rfl,liesBuilder:=by kernel_rfl,t5:=underlying5,a5:=Tryz.isAgg5,z5:=Tryz.sizeOf5,v5:=Tryz.zeroValue5,infoByte:=by kernel_rfl,cellsByte:=by kernel_rfl,sizeByte:=by kernel_rfl,neB5:=by decide}
def HH{b:Nat}{l m:LU}{k:Value->Wp}(hB:Bld b l w)(h0:w0.heap.size=b)(x0:Ext w0 w)(hl:l.length+m.length<=140737488355328)
  (hk:∀w' n,Ext w0 w'->Bld b (l++m) w'->k (.tuple #[vi n,.nilIface]) w'):callS prog 78 [.pointer (some ⟨b,0,none⟩),.string (B m)] w k:=by
 have h:=Any.Builder_WriteString_k {Tryz.layJo with} Pk b b (Lib.byteCells l) (B m) w hB (by rw[Lib.byteCells_length,Ad];exact hl) (by have:=x0.size;omega);refine h.mono λe w' ⟨he,hb,a0,_⟩=>⟨_,he,hk w' _ (x0.trans' (by rw[h0];exact a0)) (.inr ?_)⟩;have e:Lib.byteCells l++Lib.strCells (B m)=Lib.byteCells (l++m):=by rw[Lib.strCells_eq,Fa];simp[Lib.byteCells]
 rw[e]at hb;exact hb
def MW{b:Nat}{l:LU}{k:Value->Wp}(hB:Bld b l w)(h0:w0.heap.size=b)(x0:Ext w0 w)(hk:∀w',Ext w0 w'->k (.string (B l)) w'):callS prog 81 [.pointer (some ⟨b,0,none⟩)] w k:=by have h:=Any.Builder_String_any_k {Tryz.layJo with} Pk b b l w hB (by have:=x0.size;omega);exact h.mono λe w' ⟨he,_,a0,_⟩=>⟨_,he,hk w' (x0.trans' (by rw[h0];exact a0))⟩
def Qz{wd t0:LU}{b:Nat}{R:Wp}(ht:Tab w0)(hw:wd.length<=8)(hm:Av l=true)(h0:w0.heap.size=b)(x0:Ext w0 w)(hB:Bld b t0 w)(hs:SlR depE w0 S s l)(b2:t0.length<=1000000)
  (hR:∀w',Ext w0 w'->Bld b (t0++B3 wd l) w'->R w'):SE.Hh (some ⟨b,0,none⟩) (B wd) s w R:=by
 unfold SE.Hh;have hl:=hs.len;obtain⟨b4,a6⟩:=BX hm;refine loop1.up hs.max (λi w'=>Ext w0 w'/\Bld b (t0++B3 wd (l.take i)) w') ⟨x0,by simpa[B3]using hB⟩ λi w1 b9 hi ⟨x1,hI⟩ hn=>⟨λa8=>?_,λb6=>?_⟩
 .have a0:i<l.length:=oM;obtain⟨ad,t,ha,_,b8,hr,hc⟩:=BD hs a0;have hd:=a6 _ (ff a0);have h1:=DE hw (l:=l.take i) λd hd=>(a6 d (kl hd)).1;rw[fb,ju oM]at h1;have h2:=CG hd.1;have h3:=NY l[i].range;refine⟨ad,⟨ha,oM,a8⟩,_,t,hc _ xT,newS.intro λa w2 x2 hb b5 _=>stw0.intro hb sI λa9 b3 _ a5=>bnd.drew λw3 x3=>?_⟩;have b0:Ext w1 a9:=b3.ext x2 oM;have a4:Ext w1 w3:=b0.trans x3;rw[B6];refine⟨by rw[Ad,AL,Ar];simp;omega,_,a5.at0 xT rfl,?_⟩;rw[Ew l[i].name,AX,B6];refine⟨by rw[Ad,Ad,Ar];simp;omega,by rw[Ad,AL,Ar];simp;omega,t,a5.at1 xT rfl,callX.intro (SE.Jb.go (Wa (ht.ext (x1.trans a4)) (hr.ext (x1.trans a4)) λw4 x4=>⟨x4,_,rfl,?_⟩))⟩;rw[AX,B6];have b7:(((((wd++[32])++l[i].name.toList)++[32])++Cb l[i].range)++[10]).length<=2030:=by simp;omega
  refine⟨by rw[Ad,Ad,Ar];simp;omega,by rw[Ad,AL,Ar];simp;omega,HH (m:=(((((wd++[32])++l[i].name.toList)++[32])++Cb l[i].range)++[10])) (hI.ext (a4.trans x4)) h0 (x1.trans (a4.trans x4)) (by rw[du];omega) λw5 n x5 a7=>⟨_,_,rfl,hn a0 _ ⟨x5,?_⟩⟩⟩;rw[dw a0,P5,GN,<-fg];exact a7
 .have:i=l.length:=oM;rw[this,eh]at hI;exact hR _ x1 hI
def Vp{p:Pack}{e:Sl}{R:Bs->Wp}(ht:Tab w)(hm:C5 p=true)(hd:SlR depE w S d p.deps)(he:SlR depE w S e p.peers)(ho:SlR depE w S o p.opt)
  (hR:∀w',Ext w w'->R (B (CR p)) w'):SE.IF p.name p.v.ma p.v.mi p.v.pa d e o w R:=by
 unfold SE.IF;unfold C5 at hm;simp only[dx]at hm;obtain⟨⟨⟨⟨hn,hv⟩,h1⟩,h2⟩,h3⟩:=hm;have n1:=BX h1;have n2:=BX h2;have n3:=BX h3;have l1:=DE (word:=wNeeds) dC λd hd=>(n1.2 d hd).1;have l2:=DE (word:=My) dC λd hd=>(n2.2 d hd).1;have l3:=DE (word:=wLikes) dC λd hd=>(n3.2 d hd).1;have b2:=CG hn;have b4:=Dz p.v;refine newS.intro λ_ w1 x1 hb _ _=>?_;intro a1 w2 b0 a5;subst b0;have x2:Ext w1 w2:=a5▸Ext.alloc _ _;have a6:Bld w1.heap.size [] w2:=a5▸MX w1;refine bnd.drew λw3 x3=>?_;have a0:Ext w1 w3:=x2.trans x3;have t1:Tab w1:=ht.ext x1;refine⟨_,hb.at0 a0 rfl,?_⟩;rw[Ew p.name];simp only[Dt,B6];refine⟨by rw[AL,Ad,Ar];simp;omega,by rw[Ad,AL,Ar];simp;omega,?_⟩;refine⟨_,_,_,hb.at1 a0 rfl,callX.intro (SE.DJ.go (versPrint_se (v:=p.v) (t1.ext a0) λw4 x4=>⟨x4,_,rfl,?_⟩))⟩;simp only[AX,B6];have hh:=Zb4 hn p.v;refine⟨by rw[Ad,Ad,Ar];simp;omega,by rw[Ad,AL,Ar];simp;omega,HH (m:=Ip p.name p.v) (a6.ext (x3.trans x4)) rfl (a0.trans x4) (by simp;omega) λw5 n5 x5 a4=>⟨_,_,rfl,?_⟩⟩;rw[ig]at a4;refine⟨d,hb.at1 x5 rfl,SE.Hh.go (word:=B wNeeds) (Qz t1 dC h1 rfl x5 a4 (hd.ext x1) oM λw6 x6 a7=>⟨rfl,?_⟩)⟩;refine⟨e,hb.at1 x6 rfl,SE.Hh.go (word:=B My) (Qz t1 dC h2 rfl x6 a7 (he.ext x1) (by simp;omega) λw7 x7 a8=>⟨rfl,?_⟩)⟩;refine⟨o,hb.at1 x7 rfl,SE.Hh.go (word:=B wLikes) (Qz t1 dC h3 rfl x7 a8 (ho.ext x1) (by simp;omega) λw8 x8 a9=>⟨rfl,?_⟩)⟩;exact MW a9 rfl x8 λw9 x9=>⟨_,rfl,hR _ (x1.trans x9)⟩
def NM{p:Pack}{e:Sl}(ht:Tab w)(hN:Ac p.name)(hd:SlR depE w S d p.deps)(he:SlR depE w S e p.peers)(ho:SlR depE w S o p.opt)
  (hR:∀w',Ext w w'->R (AQ p) w'):SE.Gc p.name p.v.ma p.v.mi p.v.pa d e o w R:=by
 unfold SE.Gc;refine newS.intro λ_ w1 x1 hb _ _=>?_;refine⟨_,lD,?_⟩;refine SE.CA.go (scanName_se hN λw2 x2=>⟨_,rfl,?_⟩);refine⟨p.v.ma,p.v.mi,p.v.pa,λ_=>hb.at1 xT rfl,gCall.intro p.v.may (λ_ q hq=>SE.Ek.go (H1 (v:=p.v) λw' hx=>⟨_,rfl,hq _ hx⟩)) λt1 w3 x3 a6=>bound ?_⟩;refine⟨d,λ_=>hb.at1 xT rfl,gCall.intro (Av p.deps) (λ_ q hq=>SE.Hi.go (Q1 (hd.ext xT) λw' hx=>⟨_,rfl,hq _ hx⟩)) λt2 w4 x4 a5=>bound ?_⟩;refine⟨e,λ_=>hb.at1 xT rfl,gCall.intro (Av p.peers) (λ_ q hq=>SE.Hi.go (Q1 (he.ext xT) λw' hx=>⟨_,rfl,hq _ hx⟩)) λt3 w5 x5 a4=>bound ?_⟩;refine⟨o,λ_=>hb.at1 xT rfl,gCall.intro (Av p.opt) (λ_ q hq=>SE.Hi.go (Q1 (ho.ext xT) λw' hx=>⟨_,rfl,hq _ hx⟩)) λt4 w6 x6 a0=>?_⟩;have e1:((((Af p.name&&t1)&&t2)&&t3)&&t4)=C5 p:=by
  unfold C5;cases h1:Af p.name
  .simp
  rw[h1]at a6 a5 a4 a0;rw[a6 rfl]at a5 a4 a0 ⊢;cases h2:p.v.may
  .simp
  rw[h2]at a5 a4 a0;rw[a5 rfl]at a4 a0 ⊢;cases h3:Av p.deps
  .simp
  rw[h3]at a4 a0;rw[a4 rfl]at a0 ⊢;cases h4:Av p.peers
  .simp
  rw[h4]at a0;rw[a0 rfl]
 rw[e1];refine bound ⟨d,λ_=>hb.at1 xT rfl,e,λ_=>hb.at1 xT rfl,o,λ_=>hb.at1 xT rfl,?_⟩;cases hm:C5 p
 .have:AQ p=false:=by unfold AQ;rw[hm];rfl
  rw[this]at hR;refine⟨λh=>by(cases h),λ_=>⟨λh=>by(cases h),λ_=>bound ?_⟩⟩;refine⟨p.name,p.v.ma,p.v.mi,p.v.pa,d,e,o,λh=>by(cases h),⟨λh=>by(cases h),λ_=>hR _ xT⟩⟩
 .refine⟨λ_=>newS.intro λa w7 x7 a7 _ _=>⟨λ_=>SE.KZ.go (Zfq a7 (hd.ext xT) (he.ext xT) (ho.ext xT) λw8 x8=>⟨_,rfl,bound ?_⟩),λh=>by(cases h)⟩,λh=>by(cases h)⟩;rw[XK hm];refine⟨p.name,p.v.ma,p.v.mi,p.v.pa,d,e,o,λ_=>hb.at0 xT rfl,gCall.intro (B (CR p)) (λ_ q hq=>SE.IF.go (Vp (ht.ext xT) hm (hd.ext xT) (he.ext xT) (ho.ext xT) λw' hx=>⟨_,rfl,hq _ hx⟩)) λt7 a9 b0 a8=>?_⟩;have e3:((true&&Fi p)&&decide ((t7.size:Int)<=4096))=AQ p:=by
   unfold AQ;rw[hm,ie,ie];cases h1:Fi p
   .rfl
   rw[a8 (by rw[h1];rfl),Ad,ie,ie,decide_eq_decide];omega
  rw[e3];exact hR _ xT
def OwnS.flat{α:Type}{E:Enc α}{T:TypeId}{l:List α}(hf:∀{w S S' x cs},E.rep w S x cs->E.rep w S' x cs)(h:OwnS E T w lo S s l):OwnS E T w lo None' s l:=by obtain⟨css,ho,hl,hr⟩:=h.row;exact⟨⟨css,ho,hl,λi x hx=>let⟨cs,a,b⟩:=hr i x hx;⟨cs,a,hf b⟩⟩,h.len,λ_ h=>h.elim,λ_ _ h=>h.elim⟩
def OwnS.empty{α:Type}{E:Enc α}{T:TypeId}(w:Wd):OwnS E T (w.alloc (.cells #[] T)) w.heap.size None' ⟨some ⟨w.heap.size,0,none⟩,0,0⟩ ([]:List α):=
 ⟨⟨[],⟨by simp,.inr ⟨w.heap.size,0,#[],rfl,fm _,heap_alloc_new w _,fm _,gn _,by simp,by simp⟩⟩,rfl,λi x h=>by simp at h⟩,rfl,λ_ h=>h.elim,λ_ _ h=>h.elim⟩
def S8:B0 prog 94 233 6 48:=CD (z:=.agg #[vi 0,vi 0,vi 0,vi 0,vi 0,vi 0]) kR kR rfl dC
def Pt{l:LS}{R:Sl->Wp}(hS:Old S w)(hs:SlR spanE w S s l)(hR:∀t w',Ext w w'->SlP spanE w' (λb=>w.heap.size<=b/\b<w'.heap.size) t l->R t w'):SE.Hr s w R:=by
 unfold SE.Hr;refine⟨λh=>?_,λh=>?_⟩
 .have:l=[]:=by
   rcases hs.2.2.2.2 with h0|⟨ad,h1,_⟩
   .exact h0
   .rw[h]at h1;cases h1
  subst this;exact hR _ _ xR SlP.nil
 .intro a w1 ha hw;subst ha;have x1:Ext w w1:=hw▸Ext.alloc _ _;have own:OwnS spanE 233 w1 w.heap.size None' ⟨some ⟨w.heap.size,0,none⟩,0,0⟩ []:=hw▸OwnS.empty w;refine own.appAll S8 x1.size (hs.ext x1) (hS.ext x1.size) (λad ha hb=>?_) (by simpa using hs.2.2.2.1) (by simpa using hs.max) λr w2 a0 bel _ _=>?_
  .simp only[eu]at ha;subst ha;have:=hS _ hb;simp at this
  .rw[ig]at a0;have a4:=a0.flat λh=>h;exact hR _ _ (x1.trans' bel) ((a4.readP hs.2.2.2.1 hs.max).mono λb hb=>by
    rcases hb with hb|⟨ad,ha,rfl⟩
    .exact hb.elim
    .have:=a4.block ha;exact⟨this.1,this.2.1⟩)
def SlR.bound{α:Type}{E:Enc α}{l:List α}(hf:∀{w S S' x cs},E.rep w S x cs->E.rep w S' x cs)(hn:0<E.n)(h:SlR E w S s l):SlR E w (λb=>S b/\b<w.heap.size) s l:=by
 refine⟨h.1,h.2.1,h.2.2.1,h.2.2.2.1,?_⟩;rcases h.2.2.2.2 with h0|⟨ad,h1,h2,h3⟩
 .exact .inl h0
 .cases l with
  |nil=>exact .inl rfl
  |cons x r=>refine .inr ⟨ad,h1,⟨h2,?_⟩,λi y hy=>let⟨cs,a,b⟩:=h3 i y hy;⟨cs,hf a,b⟩⟩;obtain⟨cs,a,b⟩:=h3 0 x rfl;have hl:=E.len a;have hc:=b 0 cs[0] (dt oM);have:=World.block_lt_of_cell? w _ hc;rw[CO,CO]at this;exact this
def Nc{R:Sl->Wp}(hS:Old S w)(hs:SlR depE w S s l)(hR:∀t w',Ext w w'->SlP depP w' (λb=>w.heap.size<=b/\b<w'.heap.size) t l->R t w'):SE.GK s w R:=by
 unfold SE.GK;have hl:=hs.len;refine loop2.up hs.max (λout i w'=>Ext w w'/\∃Q,OwnS depP 96 w' w.heap.size Q out (l.take i)/\∀b,Q b->w.heap.size<=b) ⟨Ext.refl _,_,OwnS.zero _,λ_ h=>h.elim⟩ λout i w0 c8 hi ⟨x0,Q,own,hQ⟩ hn=>⟨λb6=>?_,λc6=>?_⟩
 .have a0:i<l.length:=oM;obtain⟨ad,t,ha,_,b7,hr,hc⟩:=BD hs a0;refine⟨ad,⟨ha,oM,b6⟩,_,t,hc _ xT,newS.intro λa w1 x1 hb c5 _=>stw0.intro hb sI λb9 b2 _ a8=>bnd.drew λw2 x2=>?_⟩;have c3:Ext w0 b9:=b2.ext x1 oM;have a4:Ext w0 w2:=c3.trans x2;refine⟨_,a8.at0 xT rfl,t,a8.at1 xT rfl,callX.intro (SE.Hr.go (Pt (hS.ext (x0.trans a4).size) (hr.ext (x0.trans a4)) λu w3 x3 hu=>⟨x3,_,rfl,?_⟩))⟩;refine newS.intro λa7 w4 x4 b5 c4 c7=>?_;have a6:Ext w0 w4:=a4.trans (x3.trans x4);have s2:=(x0.trans a4).size;have c9:=a4.size;have s4:=x4.size;have b8:=(hu.ext x4).mono (S':=λb=>w2.heap.size<=b/\b<w4.heap.size) λb hb=>⟨hb.1,oM⟩;have a5:(l.take i).length=i:=by rw[fb];omega
  have h4:=hs.2.2.2.1;have b0:depE.bytes=40:=rfl;have b4:depP.bytes=40:=rfl;refine(own.ext a6).push Jv (x0.trans a6).size (x:=l[i]) (S':=λb=>w2.heap.size<=b/\b<w4.heap.size) ⟨b7,u,rfl,b8⟩ b5.ldc (λb hb=>hb.2) (λad ha hb=>?_) (by rw[a5];rw[b0]at h4;rw[b4];omega) (by rw[a5];have:=hs.max;omega) λr w5 a9 bel _ _=>hn a0 _ _ ⟨(x0.trans a6).trans' bel,_,by rw[dw a0];exact a9,λb hb=>?_⟩
  .have:=(own.block ha).2.1;omega
  .obtain hb|hb:=hb
   .exact hQ b hb
   .omega
 .have:i=l.length:=oM;rw[this,eh]at own;refine hR _ _ x0 ((own.readP hs.2.2.2.1 hs.max).mono λb hb=>?_);rcases hb with hb|⟨ad,ha,rfl⟩
  .exact⟨hQ b hb,own.lt b hb⟩
  .have:=own.block ha;exact⟨this.1,this.2.1⟩
def But.size(h:But g w w'):w.heap.size<=w'.heap.size:=h.1
def SlR.but{α:Type}{E:Enc α}{l:List α}(h:SlR E w S s l)(hb:But g w w')(hn: ¬S g):SlR E w' S s l:=h.keep (hb.keep hn)
def Ts{p:Pack}{e:Sl}{R:Bs->Int->Int->Int->Sl->Sl->Sl->Wp}(hS:Old S w)(hd:SlR depE w S d p.deps)(he:SlR depE w S e p.peers)(ho:SlR depE w S o p.opt)
  (hR:∀d' e' o' w',Ext w w'->SlP depP w' (λb=>w.heap.size<=b/\b<w'.heap.size) d' p.deps->SlP depP w' (λb=>w.heap.size<=b/\b<w'.heap.size) e' p.peers->SlP depP w' (λb=>w.heap.size<=b/\b<w'.heap.size) o' p.opt->R p.name p.v.ma p.v.mi p.v.pa d' e' o' w'):
  SE.HN p.name p.v.ma p.v.mi p.v.pa d e o w R:=by
 unfold SE.HN;refine newS.intro λa w1 x1 hb ha _=>newS.intro λa1 w2 x2 a6 c6 c7=>bnd.drew λw3 x3=>?_;have a0:Ext w w3:=x1.trans (x2.trans x3);have s1:=x1.size;have s2:=x2.size;have s3:=x3.size;refine⟨d,hb.at1 (x2.trans x3) rfl,e,hb.at1 (x2.trans x3) rfl,o,hb.at1 (x2.trans x3) rfl,?_⟩;refine callX.intro (SE.GK.go (Nc (hS.ext a0.size) (hd.ext a0) λd' w4 x4 b6=>⟨x4,_,rfl,?_⟩));refine callX.intro (SE.GK.go (Nc (hS.ext (a0.trans x4).size) (he.ext (a0.trans x4)) λe' w5 x5 c3=>⟨x5,_,rfl,?_⟩));refine SE.GK.go (Nc (hS.ext (a0.trans (x4.trans x5)).size) (ho.ext (a0.trans (x4.trans x5))) λo' w6 x6 c4=>⟨_,rfl,?_⟩);have s4:=x4.size;have s5:=x5.size;have s6:=x6.size;have c5:Ext w w6:=a0.trans (x4.trans (x5.trans x6));have k1:a.block<w3.heap.size:=by have:=hb.lt;omega
 have k2:a1.block<w3.heap.size:=by have:=a6.lt;omega
 have hD:=(b6.ext (x5.trans x6)).mono (S':=λb=>w3.heap.size<=b/\b<w6.heap.size) λb hb=>⟨hb.1,oM⟩;have hE:=(c3.ext x6).mono (S':=λb=>w3.heap.size<=b/\b<w6.heap.size) λb hb=>⟨oM,oM⟩;have hO:=c4.mono (S':=λb=>w3.heap.size<=b/\b<w6.heap.size) λb hb=>⟨oM,oM⟩;have b0:BoxAt w6 a _:=hb.ext (x2.trans (x3.trans (x4.trans (x5.trans x6))));have a8:BoxAt w6 a1 _:=a6.ext (x3.trans (x4.trans (x5.trans x6)));refine stw.intro b0 sI λw7 b7 _ b2=>stw.intro b2 sI λw8 b8 _ b4=>stw.intro b4 sI λw9 b9 _ b5=>⟨_,_,_,_,_,_,_,b5.ldc.pre rfl,?_⟩;have a5:a1.block≠a.block:=by have:=hb.lt;omega
 refine stw0.intro (b9.box (b8.box (b7.box a8 a5) a5) a5) sI λa9 a4 _ a7=>⟨_,_,_,_,_,_,_,a7.ldc.pre rfl,?_⟩;have n1: ¬(w3.heap.size<=a.block/\a.block<w6.heap.size):=oM;have n2: ¬(w3.heap.size<=a1.block/\a1.block<w6.heap.size):=oM;have z7:=b7.size;have z8:=b8.size;have z9:=b9.size;have c8:=a4.size;have up:∀b,(w3.heap.size<=b/\b<w6.heap.size)->(w.heap.size<=b/\b<a9.heap.size):=λb hb=>⟨oM,oM⟩;refine hR d' e' o' a9 ?_ (((((hD.but b7 n1).but b8 n1).but b9 n1).but a4 n2).mono up) (((((hE.but b7 n1).but b8 n1).but b9 n1).but a4 n2).mono up) (((((hO.but b7 n1).but b8 n1).but b9 n1).but a4 n2).mono up);exact a4.ext (b9.ext (b8.ext (b7.ext c5 oM) oM) oM) oM
section
variable {P:Program} {mt:TypeId} {K:Value->Prop} {zero:Value} {w:Wd} {r:Nat} {m:List (Value×Value)}
def lookup_no(T:KeyT P mt K zero)(h:MapR K w r m){k:Value}(hk:K k)(hn:∀p∈m,p.1≠k):Cz P (Instr.lookup mt (.map (some r)) k true) w (.tuple #[zero,.bool false]):=λw' hx=>by
 rcases I5 T (h.ext hx) hk with⟨_,hr⟩|⟨v,a0,_⟩
 .exact hr true
 .exact absurd rfl (hn _ a0)
def Qk(T:KeyT P mt K zero)(h:MapR K w r m){k v:Value}(hk:K k)(a0:(k,v)∈m):Cz P (Instr.lookup mt (.map (some r)) k true) w (.tuple #[v,.bool true]):=λw' hx=>by
 rcases I5 T (h.ext hx) hk with⟨hn,_⟩|⟨u,hu,hr⟩
 .exact absurd rfl (hn _ a0)
 .rw[(h.ext hx).one a0 hu];exact hr true
def Zdp(hu:P.underlying mt=some (.map kt et))(h:MapR K w r m):Cz P (Builtin.len_ #[mt] 3 #[.map (some r)]) w (.int .i64 m.length):=λw' hx=>Zdo hu (h.ext hx)
end
def Ga(x:Pack)(d e o:Sl):Value:=.agg #[.string x.name,vi x.v.ma,vi x.v.mi,vi x.v.pa,d.v,e.v,o.v]
def EntR(w:Wd)(S:Nat->Prop)(x:Pack)(kv:Value×Value):Prop:=∃d e o,kv=(keyV x.name x.v,Ga x d e o)/\Ac x.name/\SlR depE w S d x.deps/\SlR depE w S e x.peers/\SlR depE w S o x.opt
structure CatR(w:Wd)(S:Nat->Prop)(p:Addr)(r:Nat)(ps:List Pack):Prop where
 box:BoxAt w p [.map (some r)]
 map:∃m,MapR Fy w r m/\m.length=ps.length/\∀(i:Nat)(x:Pack),ps[i]?=some x->∃kv,m[i]?=some kv/\EntR w S x kv
 old:Old S w
 free: ¬S r/\ ¬S p.block
 ne:p.block≠r
def EntR.mono{S':Nat->Prop}{x:Pack}{kv:Value×Value}(h:EntR w S x kv)(hs:∀b,S b->S' b):EntR w S' x kv:=by obtain⟨d,e,o,h1,h2,h3,h4,h5⟩:=h;exact⟨d,e,o,h1,h2,h3.mono hs,h4.mono hs,h5.mono hs⟩
def EntR.keep{x:Pack}{kv:Value×Value}(h:EntR w S x kv)(hk:Keep S w w'):EntR w' S x kv:=by obtain⟨d,e,o,h1,h2,h3,h4,h5⟩:=h;exact⟨d,e,o,h1,h2,h3.keep hk,h4.keep hk,h5.keep hk⟩
def CatR.ext(h:CatR w S p r ps)(hx:Ext w w'):CatR w' S p r ps:=by obtain⟨m,h1,h2,h3⟩:=h.map;exact⟨h.box.ext hx,⟨m,h1.ext hx,h2,λi x hi=>let⟨kv,a,b⟩:=h3 i x hi;⟨kv,a,b.keep (hx.keep S)⟩⟩,h.old.ext hx.size,h.free,h.ne⟩
def CatR.stay(h:CatR w S p r ps)(a0:w.heap.size<=w'.heap.size)(hk:∀b,b<w.heap.size->(S b\/b=p.block\/b=r)->w'.heap[b]?=w.heap[b]?):CatR w' S p r ps:=by obtain⟨m,h1,h2,h3⟩:=h.map;refine⟨h.box.keep (S:=λb=>b=p.block) rfl λb hb hl=>hk b hl (.inr (.inl hb)),⟨m,h1.of (hk r h1.lt (.inr (.inr rfl))),h2,λi x hi=>let⟨kv,a,b⟩:=h3 i x hi;⟨kv,a,b.keep λc hc hl=>hk c hl (.inl hc)⟩⟩,h.old.ext a0,h.free,h.ne⟩
def C9(n:Bs)(v:Ver)(x:Pack):Bool:=decide (x.name=n/\x.v=v)
def CatR.find(h:CatR w S p r ps)(n:Bs)(v:Ver):
  ∃m,MapR Fy w r m/\m.length=ps.length/\((ps.find? (C9 n v)=none/\∀kv∈m,kv.1≠keyV n v)\/∃x d e o,ps.find? (C9 n v)=some x/\(keyV n v,Ga x d e o)∈m/\Ac x.name/\SlR depE w S d x.deps/\SlR depE w S e x.peers/\SlR depE w S o x.opt):=by
 obtain⟨m,h1,h2,h3⟩:=h.map;refine⟨m,h1,h2,?_⟩;cases hf:ps.find? (C9 n v)with
 |none=>refine .inl ⟨rfl,λkv a5=>?_⟩;obtain⟨i,hi,he⟩:=fp.1 a5;have a0:i<ps.length:=oM;obtain⟨a6,ha,d,e,o,hb,_⟩:=h3 i _ (dt a0);rw[dt hi,he,eu]at ha;subst ha;subst hb;intro hk;have:=kq.1 hf _ (ff a0);have a4:=GZ.1 hk;exact this (by simp[C9,a4.1,a4.2])
 |some x=>have hx:=ot hf;simp only[C9,decide_eq_true_eq]at hx;obtain⟨i,hi,he⟩:=fp.1 (ly hf);obtain⟨kv,ha,d,e,o,hb,hr⟩:=h3 i _ (dt hi);rw[he]at hb hr;subst hb;exact .inr ⟨x,d,e,o,rfl,by rw[<-hx.1,<-hx.2];exact gv ha,hr⟩
def Yu{R:Option Addr->Wp}(hR:∀p r w',Ext w w'->CatR w' None' p r []->w.heap.size<=r->w.heap.size<=p.block->R (some p) w'):SE.HM w R:=by
 unfold SE.HM;refine NI (K:=Fy) λr w1 x1 a0 hm=>⟨some r,rfl,newS.intro λa w2 x2 hb ha _=>hR a r w2 (x1.trans x2) ⟨hb,⟨[],hm.ext x2,rfl,λi x h=>by simp at h⟩,λ_ h=>h.elim,⟨λh=>h,λh=>h⟩,?_⟩ oM ?_⟩
 .have:=hm.lt;omega
 .have:=x1.size;omega
def Dw(ps:List Pack)(x:Pack):Int×List Pack:=
 if AQ x=false then(24,ps)else if(ps.find? (C9 x.name x.v)).isSome then(11,ps)else if 128<=ps.length then(26,ps)else(0,ps++[x])
def CatR.add{x:Pack}{e:Sl}{B:Nat}(h:CatR w S p r ps)(hn:ps.find? (C9 x.name x.v)=none)(hN:Ac x.name)(hB:r<B/\p.block<B)
  (hd:SlR depE w (λb=>B<=b/\b<w.heap.size) d x.deps) (he:SlR depE w (λb=>B<=b/\b<w.heap.size) e x.peers) (ho:SlR depE w (λb=>B<=b/\b<w.heap.size) o x.opt) {c:Wp}
  (hc:∀w',But r w w'->CatR w' (λb=>S b\/(B<=b/\b<w.heap.size)) p r (ps++[x])->c w'):semU prog (Instr.mapUpdate 120 (.map (some r)) (keyV x.name x.v) (Ga x d e o)) w c:=by
 obtain⟨m,hm,hl,hf⟩:=h.find x.name x.v;have b0:∀kv∈m,kv.1≠keyV x.name x.v:=by
  rcases hf with⟨_,h⟩|⟨y,_,_,_,hy,_⟩
  .exact h
  .rw[hn]at hy;cases hy
 obtain⟨m',a7,b5,a5⟩:=h.map;have a9:m'=m:=by obtain⟨es,cl,a,_,rfl,_⟩:=hm;obtain⟨b4,b2,a',_,rfl,_⟩:=a7;rw[a]at a';cases a';rfl
 subst a9;refine EY K6 hm ⟨_,_,rfl⟩ b0 λw' hb b6 a8=>hc w' hb ?_;have hS: ¬(S r\/(B<=r/\r<w.heap.size)):=λhh=>by
  obtain hh|hh:=hh
  .exact h.free.1 hh
  .omega
 refine⟨hb.box h.box h.ne,⟨_,a8,by simp[hl],λi y hi=>?_⟩,λb a0=>?_,⟨hS,λhh=>?_⟩,h.ne⟩
 .rw[me]at hi;split at hi
  .rename_i a6;obtain⟨kv,a,b⟩:=a5 i y hi;exact⟨kv,by rw[fy oM];exact a,(b.mono λ_ h=>.inl h).keep (hb.keep hS)⟩
  .rename_i a6;have a4:i - ps.length=0:=by
    rcases jq (i - ps.length)with h0|h0
    .exact h0
    .rw[il (by simp;omega)]at hi;cases hi
   rw[a4]at hi;simp only[ja,eu]at hi;subst hi;have:EntR w (λb=>S b\/(B<=b/\b<w.heap.size)) x (keyV x.name x.v,Ga x d e o):=⟨d,e,o,rfl,hN,hd.mono λ_ h=>.inr h,he.mono λ_ h=>.inr h,ho.mono λ_ h=>.inr h⟩;exact⟨_,by rw[gp oM,hl,a4];rfl,this.keep (hb.keep hS)⟩
 .have:=hb.size;obtain a0|a0:=a0
  .have:=h.old b a0;omega
  .omega
 .obtain hh|hh:=hh
  .exact h.free.2 hh
  .omega
def Yx{x:Pack}{e:Sl}{S2:Nat->Prop}{R:Int->Wp}(ht:Tab w)(hC:CatR w S p r ps)(hN:Ac x.name)(c7:Old S2 w)
  (hd:SlR depE w S2 d x.deps) (he:SlR depE w S2 e x.peers) (ho:SlR depE w S2 o x.opt)
  (hR:∀S' w',But r w w'->CatR w' S' p r (Dw ps x).2->(∀b,S b->S' b)->(∀b,S' b->S b\/w.heap.size<=b)->R (Dw ps x).1 w'):SE.HL (some p) x.name x.v.ma x.v.mi x.v.pa d e o w R:=by
 unfold SE.HL;have d7:r<w.heap.size:=by obtain⟨m,hm,_⟩:=hC.map;exact hm.lt
 have d6:=hC.box.lt;refine newS.intro λa w1 x1 hb _ _=>⟨_,_,_,_,_,_,_,hb.ldc.pre rfl,SE.Gc.go (NM (p:=x) (ht.ext x1) hN (hd.ext x1) (he.ext x1) (ho.ext x1) λw2 x2=>⟨_,rfl,λh=>?_,λh=>?_⟩)⟩
 .have e:AQ x=false:=by simpa using h
  have hp:Dw ps x=(24,ps):=by unfold Dw;rw[if_pos e]
  have:=hR S w2 ((x1.trans x2).but r) (by rw[hp];exact hC.ext (x1.trans x2)) (λ_ h=>h) (λ_ h=>.inl h);rw[hp]at this;exact this
 have a9:AQ x=true:=by simpa using h
 have d4:=x1.trans x2;refine⟨_,hb.at0 x2 rfl,_,_,_,hb.at1 x2 rfl,newS.intro λa4 w3 x3 b0 _ _=>stw0.intro b0 sI λw4 b4 _ b0=>bnd.drew λw5 x5=>?_⟩;have s1:=x1.size;have s2:=x2.size;have s3:=x3.size;have d5:Ext w2 w4:=b4.ext x3 oM;have c4:Ext w2 w5:=d5.trans x5;have b2:Ext w w5:=d4.trans c4;have a8:=hC.ext b2;refine⟨p,rfl,some r,a8.box.ldc,_,_,_,_,b0.at0 x5 rfl,?_⟩;obtain⟨m,hm,hl,hf⟩:=a8.find x.name x.v;rcases hf with⟨a5,d1⟩|⟨y,dy,ey,oy,b6,d0,_,_,_,_⟩
 .refine⟨_,_,_,_,Sl.nil,Sl.nil,Sl.nil,false,lookup_no K6 hm ⟨_,_,rfl⟩ d1,newS.intro λc5 w6 x6 a0 _ _=>stw0.intro a0 sI λw7 b7 _ a0=>⟨λh=>by(cases h),λ_=>?_⟩⟩;have a6:Ext w5 w7:=b7.ext x6 oM;have b9:=a8.ext a6;refine⟨p,rfl,some r,b9.box.ldc,_,Zdp underlying120 (hm.ext a6),λh=>?_,λh=>bnd.drew λw8 x8=>?_⟩
  .have hp:Dw ps x=(26,ps):=by unfold Dw;rw[if_neg (by rw[a9];simp),if_neg (by rw[a5];simp),if_pos oM]
   have:=hR S w7 ((b2.trans a6).but r) (by rw[hp];exact b9) (λ_ h=>h) (λ_ h=>.inl h);rw[hp]at this;exact this
  .have hp:Dw ps x=(0,ps++[x]):=by unfold Dw;rw[if_neg (by rw[a9];simp),if_neg (by rw[a5];simp),if_neg oM]
   rw[hp]at hR;have b5:Ext w5 w8:=a6.trans x8;have a7:Ext w w8:=b2.trans b5;have c3:=a8.ext b5;refine⟨p,rfl,some r,c3.box.ldc,_,_,_,_,b0.at0 (x5.trans b5) rfl,_,_,_,_,_,_,_,hb.at0 (x2.trans (c4.trans b5)) rfl,?_⟩;refine callX.intro (SE.HN.go (Ts (p:=x) (c7.ext a7.size) (hd.ext a7) (he.ext a7) (ho.ext a7) λd' e' o' w9 x9 c8 c9 d2=>⟨x9,_,_,_,_,d',e',o',rfl,?_⟩));have s8:=a7.size;refine(c3.ext x9).add a5 hN ⟨oM,oM⟩ c8.dep c9.dep d2.dep λd3 c6 b8=>?_;refine hR _ d3 (((a7.trans x9).but r).trans c6) b8 (λ_ h=>.inl h) λb hb=>?_;obtain hb|hb:=hb
   .exact .inl hb
   .right;omega
 .refine⟨_,_,_,_,dy,ey,oy,true,Qk K6 hm ⟨_,_,rfl⟩ d0,newS.intro λc5 w6 x6 a0 _ _=>stw0.intro a0 sI λw7 b7 _ a0=>⟨λ_=>?_,λh=>by(cases h)⟩⟩;have a6:Ext w5 w7:=b7.ext x6 oM;have hp:Dw ps x=(11,ps):=by unfold Dw;rw[if_neg (by rw[a9];simp),if_pos (by rw[b6];rfl)]
  have:=hR S w7 ((b2.trans a6).but r) (by rw[hp];exact a8.ext a6) (λ_ h=>h) (λ_ h=>.inl h);rw[hp]at this;exact this
end Go.Hal
namespace Go.Hal
def Ord3.comap{α β:Type}{c:β->β->Int}(h:Ord3 c)(f:α->β):Ord3 (λa b=>c (f a) (f b)):=⟨λx y=>h.flip _ _,λx y z=>h.trans _ _ _⟩
def Ord3.swap{α:Type}{c:α->α->Int}(h:Ord3 c):Ord3 (λa b=>c b a):=⟨λx y=>h.flip _ _,λx y z h1 h2=>h.trans _ _ _ h2 h1⟩
def Ord3.or{α:Type}{c d:α->α->Int}(h:Ord3 c)(k:Ord3 d):Ord3 (λa b=>AN (c a b) (d a b)) where
 flip:=λx y=>by
  have h1:=h.flip x y;have h2:=h.flip y x;have h3:=k.flip x y;have h0:=h.zero (x:=x) (y:=y);unfold AN;by_cases hc:c x y=0
  .simp only[hc,h0.1 hc,if_true];exact h3
  .have: ¬c y x=0:=λe=>hc (h0.2 e);simp only[hc,this,if_false];exact h1
 trans:=λx y z h1 h2=>by
  unfold AN at*;have z1:=h.zero (x:=x) (y:=y);have z2:=h.zero (x:=y) (y:=z);by_cases a:c x y=0<;>by_cases b:c y z=0
  .simp only[a,if_true]at h1;simp only[b,if_true]at h2;have e1:=h.trans x y z oM oM;have e2:=h.trans z y x (by rw[z2.1 b];omega) (by rw[z1.1 a];omega);have f1:=h.flip z x;have f2:=h.flip x z;have:c x z=0:=oM;simp only[this,if_true];exact k.trans x y z h1 h2
  .simp only[b,if_false]at h2;have:=h.lt_of' (x:=x) (y:=y) (z:=z) oM oM;split<;>omega
  .simp only[a,if_false]at h1;have:=h.lt_of (x:=x) (y:=y) (z:=z) oM oM;split<;>omega
  .simp only[a,if_false]at h1;simp only[b,if_false]at h2;have:=h.lt_of (x:=x) (y:=y) (z:=z) oM oM;split<;>omega
def cmpI_ord:Ord3 BC:=⟨λx y=>by unfold BC;split<;>split<;>omega,λx y z=>by simp only[YD];omega⟩
def Ver.cmp_ord:Ord3 Ver.cmp:=(cmpI_ord.comap Ver.ma).or ((cmpI_ord.comap Ver.mi).or (cmpI_ord.comap Ver.pa))
def Qx{a b:Int}:AN a b<0↔a<0\/(a=0/\b<0):=by unfold AN;split<;>omega
def cP(a b:Pack):Int:=AN (A7 a.name b.name) (b.v.cmp a.v)
def cP_ord:Ord3 cP:=(DB Pack.name).or ((Ver.cmp_ord.comap Pack.v).swap)
def Pm{a b:Pack}:cP a b=0↔a.name=b.name/\a.v=b.v:=by
 unfold cP AN;by_cases h:A7 a.name b.name=0
 .have e:=Ey.1 h;rw[if_pos h,Ver.cmp_eq];simp[e,eq_comm]
 .have: ¬a.name=b.name:=λe=>h (Ey.2 e);simp[h,this]
def OrdL(L:List Pack):Prop:=L.Pairwise λa b=>cP a b<0
def Cl(a b:Pack):Bool:=decide (cP a b<0)
def Ec(x:Pack)(L:List Pack):List Pack:=L.takeWhile (Cl · x)++x::L.dropWhile (Cl · x)
def QB(x:Pack)(L:List Pack):(Ec x L).Perm (L++[x]):=by unfold Ec;refine List.perm_middle.trans ?_;rw[lx];exact(nr x L).symm
def Zet{α:Type}{p:α->Bool}{l:List α}{x:α}(h:x∈l.takeWhile p):p x=true:=by
 induction l with
 |nil=>cases h
 |cons a r ih=>
  rw[List.takeWhile_cons]at h;split at h
  .rename_i hp;obtain rfl|h:=ga.1 h
   .exact hp
   .exact ih h
  .cases h
def Zgb{x:Pack}(h:OrdL L)(hn:∀y∈L,cP y x≠0):OrdL (Ec x L):=by
 unfold Ec OrdL at*;have a5:(L.takeWhile (Cl · x)).Sublist L:=List.takeWhile_sublist _;have a0:(L.dropWhile (Cl · x)).Sublist L:=nh _;have hd:∀y∈L.dropWhile (Cl · x),cP x y<0:=by
  intro y hy;cases hD:L.dropWhile (Cl · x)with
  |nil=>rw[hD]at hy;cases hy
  |cons a r=>
   have ha:Cl a x=false:=(by have:=List.head?_dropWhile_not (Cl · x) L;rw[hD]at this;simpa using this);have a4:cP x a<0:=by have h1: ¬cP a x<0:=(by simpa[Cl]using ha);have h2:=hn a (a0.subset (by rw[hD];exact .head _));exact(cP_ord.flip x a).2 oM
   rw[hD]at hy a0;obtain rfl|hy:=ga.1 hy
   .exact a4
   .exact cP_ord.lt_of a4 (Int.le_of_lt ((ic.1 (h.sublist a0)).1 y hy))
 refine ir.2 ⟨h.sublist a5,ic.2 ⟨hd,h.sublist a0⟩,λa ha b hb=>?_⟩;have a4:cP a x<0:=by simpa[Cl]using Zet ha
 obtain rfl|hb:=ga.1 hb
 .exact a4
 .exact cP_ord.lt_of a4 (Int.le_of_lt (hd b hb))
def OrdL.key(h:OrdL L){a b:Pack}(ha:a∈L)(hb:b∈L)(hn:a.name=b.name)(hv:a.v=b.v):a=b:=by
 induction L with
 |nil=>cases ha
 |cons x r ih=>
  obtain⟨h1,h2⟩:=ic.1 h;rcases ga.1 ha with e|a0<;>obtain e'|a4:=ga.1 hb
  .rw[e,e']
  .subst e;have:=h1 b a4;rw[Pm.2 ⟨hn,hv⟩]at this;omega
  .subst e';have:=h1 a a0;rw[Pm.2 ⟨hn.symm,hv.symm⟩]at this;omega
  .exact ih h2 a0 a4
def AR(L:List Pack)(n:Bs)(v:Ver):Option Pack:=L.find? (C9 n v)
def Kh{v:Ver}{x:Pack}(h:AR L n v=some x):x∈L/\x.name=n/\x.v=v:=by have h1:=ot h;simp only[C9,decide_eq_true_eq]at h1;exact⟨ly h,h1⟩
def Zbs(h:OrdL L){x:Pack}(hx:x∈L):AR L x.name x.v=some x:=by
 cases hg:AR L x.name x.v with
 |none=>exact absurd (by simp[C9]) (kq.1 hg x hx)
 |some y=>obtain⟨a,b,c⟩:=Kh hg;rw[h.key a hx b c]
def Uf(h:OrdL L)(hp:L.Perm ps)(n:Bs)(v:Ver):ps.find? (C9 n v)=AR L n v:=by
 cases hg:AR L n v with
 |none=>rw[kq];intro x hx;exact kq.1 hg x (hp.mem_iff.2 hx)
 |some x=>
  obtain⟨a,b,c⟩:=Kh hg;cases hf:ps.find? (C9 n v)with
  |none=>exact absurd (by simp[C9,b,c]) (kq.1 hf x (hp.mem_iff.1 a))
  |some y=>have h1:=ot hf;simp only[C9,decide_eq_true_eq]at h1;rw[h.key (hp.mem_iff.2 (ly hf)) a (h1.1.trans b.symm) (h1.2.trans c.symm)]
structure GoodL(L:List Pack):Prop where
 ord:OrdL L
 le:L.length<=128
 may:∀x∈L,AQ x=true
def GoodL.nil:GoodL []:=⟨.nil,by simp,by simp⟩
def BK(L:List Pack)(x:Pack):Int×List Pack:=
 if AQ x=false then(24,L)else if(AR L x.name x.v).isSome then(11,L)else if 128<=L.length then(26,L)else(0,Ec x L)
def VA(h:GoodL L)(x:Pack):GoodL (BK L x).2:=by
 unfold BK;split
 .exact h
 .rename_i hm;split
  .exact h
  .rename_i hs;split
   .exact h
   .rename_i hl;have hp:=QB x L;refine⟨Zgb h.ord λy hy e=>hs ?_,by show(Ec x L).length<=128;rw[hp.length_eq];simp;omega,λy hy=>?_⟩
    .obtain⟨h1,h2⟩:=Pm.1 e;rw[<-h1,<-h2,Zbs h.ord hy];rfl
    .rcases fk.1 (hp.mem_iff.1 hy)with hy|hy
     .exact h.may y hy
     .simp at hy;subst hy;simpa using hm
def Zgf(h:GoodL L)(hp:L.Perm ps)(x:Pack):(Dw ps x).1=(BK L x).1/\(BK L x).2.Perm (Dw ps x).2:=by
 unfold Dw BK;rw[Uf h.ord hp,hp.length_eq];split
 .exact⟨rfl,hp⟩
 .split
  .exact⟨rfl,hp⟩
  .split
   .exact⟨rfl,hp⟩
   .exact⟨rfl,(QB x L).trans (hp.append_right _)⟩
def Da(n:Bs)(x:Pack):Bool:=decide (x.name=n)
def D0(n:Bs)(L:List Pack):List Ver:=(L.filter (Da n)).map (·.v)
def Zk9(h:OrdL L)(n:Bs):(D0 n L).Pairwise λa b=>b.cmp a<0:=by unfold D0;rw[iq];have h1:(L.filter (Da n)).Pairwise λa b=>cP a b<0:=h.sublist List.filter_sublist;refine h1.imp_of_mem λ{a b} ha hb hc=>?_;have ha:=(io.1 ha).2;have hb:=(io.1 hb).2;simp only[Da,decide_eq_true_eq]at ha hb;unfold cP at hc;rw[Qx,ha,hb,Ey.2 rfl]at hc;omega
def Za8{l m:List Ver}(h1:l.Pairwise λa b=>¬a.cmp b<0)(h2:m.Pairwise λa b=>b.cmp a<0)(hp:l.Perm m):l=m:=by
 have hn:m.Nodup:=by rw[gz];refine h2.imp λ{a b} h e=>?_;subst e;have:=Ver.cmp_eq.2 (rfl:a=a);omega
 have a0:=hp.nodup_iff.2 hn;rw[gz]at a0;refine Ja (R:=λa b:Ver=>b.cmp a<0) (λx y a b=>?_) ((h1.and a0).imp λ{a b} h=>?_) h2 hp
 .have:=Ver.cmp_ord.flip x y;have:=Ver.cmp_ord.flip y x;omega
 .have h0:a.cmp b≠0:=λe=>h.2 (Ver.cmp_eq.1 e);exact(Ver.cmp_ord.flip b a).2 oM
def Zlb(hp:L.Perm ps)(n:Bs):(D0 n L).Perm ((ps.filter (Da n)).map (·.v)):=(hp.filter _).map _
def Ld(pins:LP)(n:Bs)(v:Ver):Bool:=decide ((⟨n,v⟩:Pin)∈pins)
def D9(L:List Pack)(n:Bs)(l:LS)(pins:LP):List Ver:=
 let all:=(D0 n L).filter (BT l)
 all.filter (Ld pins n)++all.filter λv=>!Ld pins n v
def C7(b:Bool):Int:=if b then 1 else 0
def cC(pins:LP)(n:Bs)(a b:Ver):Int:=C7 (Ld pins n b) - C7 (Ld pins n a)
def Yg(pins:LP)(n:Bs):Ord3 (cC pins n):=⟨λx y=>by unfold cC;omega,λx y z=>by unfold cC;omega⟩
def Zjh{α:Type}(p:α->Bool)(x:α)(l m:List α)(hl:∀y∈l,p y=true)(hm:∀y∈m,p y=false):
  Ci (λa b=>C7 (p b) - C7 (p a)) x (l++m)=if p x then x::(l++m)else l++x::m:=by
 induction l with
 |nil=>
  rw[ig];cases m with
  |nil=>simp[Ci]
  |cons y r=>have hy:=hm y (.head _);unfold Ci;rw[hy];have:C7 false - C7 (p x)<=0:=(by unfold C7;cases p x<;>decide);rw[if_pos this];simp
 |cons y r ih=>
  have hy:=hl y (.head _);rw[gu,Ci,hy];cases hx:p x
  .have: ¬(C7 true - C7 false<=0):=(by decide);rw[if_neg this,ih λz hz=>hl z (.tail _ hz),hx];simp
  .have:C7 true - C7 true<=0:=(by decide);rw[if_pos this];simp
def Zjk{α:Type}(p:α->Bool)(l:List α):Bw (λa b=>C7 (p b) - C7 (p a)) l=l.filter p++l.filter λx=>!p x:=by
 induction l with
 |nil=>rfl
 |cons x r ih=>rw[Bw,ih,Zjh p x _ _ (λy hy=>(io.1 hy).2) (λy hy=>by simpa using(io.1 hy).2)];cases h:p x<;>simp[nx,h]
def Nb(L:List Pack)(n:Bs)(l:LS)(pins:LP):Bw (cC pins n) ((D0 n L).filter (BT l))=D9 L n l pins:=Zjk (Ld pins n) _
abbrev Rk:=Int×Int
def Bc(n:Int)(l:List Rk):Bool:=l.any λx=>decide (x.1<=n)&&decide (n<=x.2)
def Ef:Int->List Rk->Prop
 |_,[]=>True
 |m,x::r=>m<=x.1/\x.1<=x.2/\Ef (x.2+2) r
def F5(l:List Rk):Prop:=∀x∈l,0<=x.1/\x.1<=999999999/\0<=x.2/\x.2<=999999999
def C3(n:Int)(x:Rk)(r:List Rk):Bc n (x::r)=true↔(x.1<=n/\n<=x.2)\/Bc n r=true:=by simp[Bc]
def QS{l:List Rk}:∀{m n:Int},Ef m l->Bc n l=true->m<=n:=by
 induction l with
 |nil=>intro m n _ h;simp[Bc]at h
 |cons x r ih=>
  intro m n h k;rcases(C3 _ _ _).1 k with k|k
  .have:=h.1;omega
  .have:=ih h.2.2 k;have:=h.1;have:=h.2.1;omega
def one(a b:Rk):List Rk:=if max a.1 b.1<=min a.2 b.2 then [(max a.1 b.1,min a.2 b.2)]else []
def Ds:Rk->List Rk->List Rk
 |y,[]=>[y]
 |y,x::r=>if x.1<=y.2+1 then Ds (y.1,max y.2 x.2) r else y::Ds x r
def Db:List Rk->List Rk
 | []=>[]
 |y::r=>Ds y r
def Ee(l:List Rk):Prop:=l.Pairwise λa b=>a.1<=b.1
def Zcx(n:Int)(r:List Rk):∀(y:Rk),Ee (y::r)->y.1<=y.2->(∀x∈r,x.1<=x.2)->(Bc n (Ds y r)=true↔Bc n (y::r)=true):=by
 induction r with
 |nil=>intro y _ _ _;rfl
 |cons x r ih=>
  intro y hs hy hr;have h1:y.1<=x.1:=(ic.1 hs).1 x (.head _);have hx:=hr x (.head _);have a0:=(ic.1 hs).2;rw[Ds];by_cases h:x.1<=y.2+1
  .rw[if_pos h,ih (y.1,max y.2 x.2) (ic.2 ⟨λz hz=>(ic.1 hs).1 z (.tail _ hz),(ic.1 a0).2⟩) (by simp only;omega) λz hz=>hr z (.tail _ hz),C3,C3,C3];simp only;constructor
   .rintro(h2|h2)
    .by_cases h3:n<=y.2
     .exact .inl ⟨h2.1,h3⟩
     .exact .inr (.inl oM)
    .exact .inr (.inr h2)
   .rintro(h2|h2|h2)
    .exact .inl oM
    .exact .inl oM
    .exact .inr h2
  .rw[if_neg h,C3,ih x a0 hx λz hz=>hr z (.tail _ hz),C3,C3,C3]
def Zcw(r:List Rk):∀(y:Rk)(m:Int),m<=y.1->Ee (y::r)->y.1<=y.2->(∀x∈r,x.1<=x.2)->Ef m (Ds y r):=by
 induction r with
 |nil=>intro y m hm _ hy _;exact⟨hm,hy,trivial⟩
 |cons x r ih=>
  intro y m hm hs hy hr;have h1:y.1<=x.1:=(ic.1 hs).1 x (.head _);have hx:=hr x (.head _);have a0:=(ic.1 hs).2;rw[Ds];by_cases h:x.1<=y.2+1
  .rw[if_pos h];exact ih (y.1,max y.2 x.2) m hm (ic.2 ⟨λz hz=>(ic.1 hs).1 z (.tail _ hz),(ic.1 a0).2⟩) (by simp only;omega) λz hz=>hr z (.tail _ hz)
  .rw[if_neg h];exact⟨hm,hy,ih x _ oM a0 hx λz hz=>hr z (.tail _ hz)⟩
def Zcy(r:List Rk):∀(y:Rk),(Ds y r).length<=r.length+1:=by
 induction r with
 |nil=>intro y;exact fm _
 |cons x r ih=>
  intro y;rw[Ds];split
  .have:=ih (y.1,max y.2 x.2);simp only[fl];omega
  .have:=ih x;simp only[fl];omega
def BU(l:List Rk):LS:=l.map λx=>⟨CT x.1,CT x.2⟩
def VK{m:Int}{x:Rk}{r:List Rk}(h:Ef m (x::r)){n:Int}:Bc n r=true↔Bc n (x::r)=true/\x.2<n:=by
 rw[C3];constructor
 .intro h1;have:=QS h.2.2 h1;exact⟨.inr h1,oM⟩
 .rintro⟨h1|h1,h2⟩
  .omega
  .exact h1
def VJ:∀{l k:List Rk} {m n:Int},Ef m l->Ef n k->(∀a,Bc a l=true↔Bc a k=true)->l=k
 | [],[],_,_,_,_,_=>rfl
 | [],y::k,_,_,_,hk,h=>by have:=(h y.1).2 ((C3 _ _ _).2 (.inl ⟨mo _,hk.2.1⟩));simp[Bc]at this
 |x::l,[],_,_,hl,_,h=>by have:=(h x.1).1 ((C3 _ _ _).2 (.inl ⟨mo _,hl.2.1⟩));simp[Bc]at this
 |x::l,y::k,m,n,hl,hk,h=>by
  have hx:Bc x.1 (y::k)=true:=(h _).1 ((C3 _ _ _).2 (.inl ⟨mo _,hl.2.1⟩));have hy:Bc y.1 (x::l)=true:=(h _).2 ((C3 _ _ _).2 (.inl ⟨mo _,hk.2.1⟩));have low:∀{z:Rk} {r:List Rk} {a m:Int},Ef m (z::r)->Bc a (z::r)=true->z.1<=a:=λ{z r a m} h1 h2=>by
   rcases(C3 _ _ _).1 h2 with h3|h3
   .exact h3.1
   .have:=QS h1.2.2 h3;have:=h1.2.1;omega
  have e1:x.1=y.1:=by have:=low hk hx;have:=low hl hy;omega
  have a0:∀{z:Rk} {r:List Rk} {m:Int},Ef m (z::r)-> ¬Bc (z.2+1) (z::r)=true:=λ{z r m} h1 h2=>by
   rcases(C3 _ _ _).1 h2 with h3|h3
   .omega
   .have:=QS h1.2.2 h3;omega
  have e2:x.2=y.2:=by
   obtain h1|h1|h1:=Int.lt_trichotomy x.2 y.2
   .exact absurd ((h (x.2+1)).2 ((C3 _ _ _).2 (.inl ⟨by have:=hl.2.1;omega,oM⟩))) (a0 hl)
   .exact h1
   .exact absurd ((h (y.2+1)).1 ((C3 _ _ _).2 (.inl ⟨by have:=hk.2.1;omega,oM⟩))) (a0 hk)
  have e3:=VJ (l:=l) (k:=k) hl.2.2 hk.2.2 λa=>by rw[VK hl,VK hk,h a,e2]
  rw[e3,Prod.ext e1 e2]
inductive Sign
 |none|eq|lt|le|gt|ge|tilde|caret
def Sign.text:Sign->LU
 | .none=>[]
 | .eq=>[61]
 | .lt=>[60]
 | .le=>[60,61]
 | .gt=>[62]
 | .ge=>[62,61]
 | .tilde=>[126]
 | .caret=>[94]
def Sign.ranks(g:Sign)(v:Ver):Rk:=
 let n:=v.rank;let minor:=n - v.pa+999;let major:=minor+(999 - v.mi)*1000
 match g with
 | .none=>(n,n)
 | .eq=>(n,n)
 | .lt=>(0,n - 1)
 | .le=>(0,n)
 | .gt=>(n+1,999999999)
 | .ge=>(n,999999999)
 | .tilde=>(n,minor)
 | .caret=>if 0<v.ma then(n,major)else if 0<v.mi then(n,minor)else(n,n)
inductive WordR:LU->Rk->Prop
 |all:WordR [42] (0,999999999)
 |sign (g:Sign) {t:LU} {v:Ver}:IsVer t v->WordR (g.text++t) (g.ranks v)
def CJ(b:UInt8):Bool:=b==60||b==61||b==62||b==94||b==126
def Sign.chars(g:Sign):∀b∈g.text,CJ b=true:=by cases g<;>decide
def Oj{g:Sign}{t:LU}{v:Ver}(h:IsVer t v):(g.text++t).takeWhile CJ=g.text/\(g.text++t).dropWhile CJ=t:=by
 obtain⟨b,r,rfl,hb⟩:=h.head;have hn:CJ b=false:=by
  unfold JH at hb;simp only[dx,decide_eq_true_eq]at hb;unfold CJ;have e:∀c:UInt8,c.toNat<48\/57<c.toNat->(b==c)=false:=λc hc=>by rw[beq_eq_false_iff_ne];rintro rfl;omega
  rw[e 60 dC,e 61 dC,e 62 dC,e 94 dC,e 126 dC];rfl
 constructor
 .rw[px g.chars,List.takeWhile_cons_of_neg (by rw[hn];simp),gd]
 .rw[List.dropWhile_append_of_pos g.chars,List.dropWhile_cons_of_neg (by rw[hn];simp)]
def Sign.text_inj{g k:Sign}(h:g.text=k.text):g=k:=by cases g<;>cases k<;>first|rfl|(exact absurd h dC)
def WordR.one{s:LU}{a b:Rk}(h:WordR s a)(k:WordR s b):a=b:=by
 have a0:∀{g:Sign} {t:LU} {v:Ver},IsVer t v->g.text++t≠ [42]:=λ{g t v} hv he=>by
  have h1:=Oj (g:=g) hv;rw[he]at h1;obtain⟨c,r,rfl,hc⟩:=hv.head;have:=h1.2;have h2:([42]:LU).dropWhile CJ= [42]:=by decide
  rw[h2]at this;cases this;revert hc;decide
 cases h with
 |all=>
  generalize he:([42]:LU)=s at k;cases k with
  |all=>rfl
  |sign g hv=>exact absurd he.symm (a0 hv)
 | @sign g t v hv=>
  generalize he:g.text++t=s at k;cases k with
  |all=>exact absurd he (a0 hv)
  | @sign g' t' v' hv'=>have h1:=Oj (g:=g) hv;have h2:=Oj (g:=g') hv';rw[he]at h1;have e1:=Sign.text_inj (h1.1.symm.trans h2.1);have e2:=h1.2.symm.trans h2.2;subst e1 e2;rw[hv.one hv']
def H3(acc:LU):LU->List (List UInt8)
 | []=>if acc=[]then []else [acc]
 |b::r=>if b=32 then(if acc=[]then H3 [] r else acc::H3 [] r)else H3 (acc++[b]) r
def Gy(s:LU):List (List UInt8):=H3 [] s
def G9(acc:LU):LU->List (List UInt8)
 | []=>[acc]
 | [b]=>[acc++[b]]
 |b::c::r=>if b=124/\c=124 then acc::G9 [] r else G9 (acc++[b]) (c::r)
def Ju(s:LU):List (List UInt8):=G9 [] s
def O9(s:LU):Prop:=Gy s≠[]/\∀w∈Gy s,∃a,WordR w a
def O8(s:LU)(n:Int):Prop:=0<=n/\n<=999999999/\∀w∈Gy s,∀a,WordR w a->a.1<=n/\n<=a.2
def G5(s:LU):Prop:=s.length<=4096/\∀a∈Ju s,O9 a
structure RangeIs(s:LU)(l:List Rk):Prop where
 ok:G5 s
 go:Ef 0 l
 has:∀n,Bc n l=true↔∃a∈Ju s,O8 a n
def RangeIs.one{s:LU}{l k:List Rk}(h:RangeIs s l)(h':RangeIs s k):l=k:=VJ h.go h'.go λn=>(h.has n).trans (h'.has n).symm
def BM:Bs:=bm #[32]
def Bt:Bs:=bm #[124,124]
def Sign.ranks_in{g:Sign}{v:Ver}(hv:v.may=true):(0<=(g.ranks v).1/\(g.ranks v).1<=1000000000)/\(-1<=(g.ranks v).2/\(g.ranks v).2<=999999999):=by
 have hm:=Ver.may_iff.1 hv;have hr:v.rank=(v.ma*1000+v.mi)*1000+v.pa:=by rw[Ver.rank,if_pos hv,Ver.num]
 cases g<;>simp only[Sign.ranks]<;>(try split)<;>(try split)<;>(try simp only)<;>omega
def WordR.in{t:LU}{a:Rk}(h:WordR t a):(0<=a.1/\a.1<=1000000000)/\(-1<=a.2/\a.2<=999999999):=by
 cases h with
 |all=>decide
 |sign g hv=>exact Sign.ranks_in hv.1
def AnyW(_:Bs):Prop:=True
def AnyW.piece{t:Bs}(_:AnyW a)(_:b∈Au Bt a)(_:t∈Au BM b):AnyW t:=trivial
end Go.Hal
namespace Go.Proofs
open Go.Maps
attribute [local go_sem] Oper.semAt_some
def UO:maxLen=9223372036854775807:=rfl
def L6(x:Int×Int):Value:=.agg #[vi x.1,vi x.2]
set_option maxRecDepth 100000 in
def Zhu(F:Fence)(n:Nat)(hF:F.fn 385)(b2:F.round=none)(hn:1<=n)(l Bs n₀ b off len cap:Nat)(zs:List (Int×Int))(b4:zs.length=len)(a7:len*16<=140737488351232)(hb:b<n₀)(J Jx:List (Int×Int)->Wp)
  (hJ:∀pre W W',J pre W->Below W.heap.size W W'->J pre W')
  (hY:∀pre x W,J pre W->pre.length<len->YieldAt F (n - 1) prog l #[L6 x] W λe W'=>(e= .returned (.bool true)/\J (pre++[x]) W'/\Below n₀ W W')\/(e= .returned (.bool false)/\Jx (pre++[x]) W'))
  (W:Wd) (b0:n₀<=W.heap.size) (b5:W.cell? ⟨Bs,0,none⟩=some (.slice (some ⟨b,off,none⟩) len cap)) (hc:∀j (h:j<zs.length),W.cell? ⟨b,off+j*2,none⟩=some (.int .i64 zs[j].1)/\W.cell? ⟨b,off+j*2+1,none⟩=some (.int .i64 zs[j].2)) (h0:J [] W):
  CallsIn F n prog 385 #[.func (.yield l) #[] #[],.pointer (some ⟨Bs,0,none⟩)] W λe W'=>(∃v,e= .returned v)/\((∃ys,ys=zs/\J ys W')\/(∃pre,pre<+:zs/\Jx pre W')):=by
 refine callsIn_of_wp func385 rfl hF ?_ b2;simp only[Tryz.ntmps385,iv,fl,ia,Nat.reduceAdd,Nat.reduceSub,ku,kr,lw,kx,ig,gu]
 gi_wp2
 gi_loopw [7] (λi wr=>∃k:Nat,k<=len/\i= .int .i64 k/\J (zs.take k) wr/\Below n₀ W wr)
  (λi _=>len - (intOf i).toNat)
 case atStart=>exact⟨0,gn _,rfl,h0,Below.refl _ _⟩
 case round=>
  obtain⟨k,hk,rfl,a6,a4⟩:=hrel;by_cases b6:k<len
  .have a0:k<zs.length:=oM;have c1:wr.cell? ⟨b,off+k*2,none⟩=some (.int .i64 zs[k].1):=(a4.cell (p:=⟨b,off+k*2,none⟩) hb).trans (hc k a0).1;have c2:wr.cell? ⟨b,off+k*2+1,none⟩=some (.int .i64 zs[k].2):=(a4.cell (p:=⟨b,off+k*2+1,none⟩) hb).trans (hc k a0).2;obtain⟨fn,tmps,assign,body,hy,hR⟩:=hY (zs.take k) zs[k] (wr.alloc (.cells #[.int .i64 zs[k].1,.int .i64 zs[k].2] 307)) (hJ _ _ _ a6 (Below.alloc (Below.refl _ _) nR _)) (by rw[fb];omega);unfold L6 at hy;have hx:=Below.alloc a4 (fe b0 a4.size) (.cells #[.int .i64 zs[k].1,.int .i64 zs[k].2] 307)
   gi_wp2
   refine hR.mono ?_;rintro e W3 (⟨rfl,a8,a9⟩|⟨rfl,a5⟩)
   .gi_wp2
    go_roundw
    case rel=>exact⟨k+1,oM,by simp,by rw[dw a0];exact a8,hx.trans a9⟩
    case measure=>simp[intOf];omega
   .gi_wp2
    refine bodyPost_ret (results_none rfl _ _ _) rfl ?_;rw[<-dw a0]at a5;exact⟨⟨_,rfl⟩,.inr ⟨_,List.take_prefix _ _,a5⟩⟩
  .obtain rfl:k=len:=oM
   gi_wp2
   go_end0
   refine⟨⟨_,rfl⟩,.inl ⟨zs,rfl,?_⟩⟩;rw[gj oM]at a6;exact a6
def RkS(n₀:Nat)(W:Wd)(sv:Value)(zs:List (Int×Int)):Prop:=
 (sv= .slice none 0 0/\zs=[])\/∃b off cap,sv= .slice (some ⟨b,off,none⟩) zs.length cap/\b<n₀/\∀j (h:j<zs.length),W.cell? ⟨b,off+j*2,none⟩=some (.int .i64 zs[j].1)/\W.cell? ⟨b,off+j*2+1,none⟩=some (.int .i64 zs[j].2)
def RkS.below{n₀:Nat}{A B:Wd}(h:Below n₀ A B){sv:Value}{zs:List (Int×Int)}:RkS n₀ A sv zs->RkS n₀ B sv zs
 | .inl e=>.inl e
 | .inr ⟨b,off,cap,e,hb,hc⟩=>.inr ⟨b,off,cap,e,hb,λj hj=>⟨(h.cell (p:=⟨b,off+j*2,none⟩) hb).trans (hc j hj).1,(h.cell (p:=⟨b,off+j*2+1,none⟩) hb).trans (hc j hj).2⟩⟩
set_option maxRecDepth 100000 in
def Zhv(F:Fence)(n:Nat)(hF:F.fn 385)(a4:F.round=none)(l Bs:Nat)(J:List (Int×Int)->Wp)(W:Wd)(a5:W.cell? ⟨Bs,0,none⟩=some (.slice none 0 0))(h0:J [] W):
  CallsIn F n prog 385 #[.func (.yield l) #[] #[],.pointer (some ⟨Bs,0,none⟩)] W λe W'=>(∃v,e= .returned v)/\J [] W':=by
 refine callsIn_of_wp func385 rfl hF ?_ a4;simp only[Tryz.ntmps385,iv,fl,ia,Nat.reduceAdd,Nat.reduceSub,ku,kr,lw,kx,ig,gu]
 gi_wp2
 gi_loopw [7] (λi wr=>i= .int .i64 0/\J [] wr) (λ_ _=>0)
 case atStart=>exact⟨rfl,h0⟩
 case round=>
  obtain⟨rfl,a0⟩:=hrel
  gi_wp2
  go_end0
  exact⟨⟨_,rfl⟩,a0⟩
def Zhw(F:Fence)(n:Nat)(hF:F.fn 385)(a6:F.round=none)(hn:1<=n)(Bs n₀:Nat)(sv:Value)(zs:List (Int×Int))(a0:zs.length*16<=140737488351232)(w:Wd)(a5:n₀<=w.heap.size)(a7:Bs<w.heap.size)
  (a8:w.cell? ⟨Bs,0,none⟩=some sv) (hI:RkS n₀ w sv zs):
  SeqStopsK F n prog 385 #[.pointer (some ⟨Bs,0,none⟩)] (λx=>#[L6 x]) (Below n₀) (λys=>ys=zs) (λpre=>pre<+:zs) zs.length w:=λl J Jx W hW hJ _ hY h0=>by
 have a4:=(hW.cell (p:=⟨Bs,0,none⟩) a7).trans a8;rcases hI.below (hW.mono a5)with⟨rfl,rfl⟩|⟨b,off,cap,rfl,hb,a9⟩
 .exact(Zhv F n hF a6 l Bs J W a4 h0).mono λe W' ⟨he,hj⟩=>⟨he,.inl ⟨_,rfl,hj⟩⟩
 .exact Zhu F n hF a6 hn l Bs n₀ b off zs.length cap zs rfl a0 hb J Jx (λpre W W' h hb=>hJ pre W W' none h ⟨hb.os,hb.tape,hb.output,hb.size,λk hk _=>hb.block k hk⟩ (λr e=>by cases e)) hY W (fe a5 hW.size) a4 a9 h0
def Cp(l:List (Int×Int)):LV:=(l.map λx=>[Value.int .i64 x.1,vi x.2]).flatten
def VI(l:List (Int×Int))(x:Int×Int):Cp (l++[x])=Cp l++[Value.int .i64 x.1,vi x.2]:=by simp[Cp]
set_option maxRecDepth 100000 in
def Zhq(F:Fence)(n:Nat)(hF:F.fn 410)(b2:F.fn 385)(a9:F.round=none)(hn:3<=n)(Bs:Nat)(sv:Value)(zs:List (Int×Int))(hz:zs.length<=1000000)(w:Wd)(b6:Bs<w.heap.size)
  (b7:w.cell? ⟨Bs,0,none⟩=some sv) (hI:RkS w.heap.size w sv zs):
  CallsIn F n prog 410 #[.slice none 0 0,.func (.func 385) #[] #[.pointer (some ⟨Bs,0,none⟩)]] w λe W'=>∃v,e= .returned v/\W'.ownsRow w.heap.size 307 2 v zs.length (Cp zs)/\Below w.heap.size w W':=by
 have h1:1<=n:=oM;obtain⟨i0,hi,c6,c7,c8⟩:=info_parts (show(prog.info? 307).map (λi=>(i.zero,i.size,i.bytes))=some (some (.agg #[vi 0,vi 0]),2,16) by kernel_rfl);refine callsIn_of_wp_marks func410 rfl hF ?_ a9;simp only[Tryz.ntmps410,iv,fl,ia,Nat.reduceAdd,Nat.reduceSub,ku,kr,lw,kx,ig,gu]
 gi_wp2
 have bO:=Boxed.new w 304 (.slice none 0 0);have a7:Below w.heap.size w (w.alloc (.cells #[.slice none 0 0] 304)):=(Below.refl _ w).alloc nR _;refine wpIn_rangeFunc_ownH a9 h1 (gf:=385) (lb:=#[.pointer (some ⟨Bs,0,none⟩)]) rfl b2 (enters_of func385 kR rfl)
  (Zhw F (n - 1) b2 a9 oM Bs w.heap.size sv zs oM _ sI (by simp;omega) ((a7.cell (p:=⟨Bs,0,none⟩) b6).trans b7) (hI.below a7)) belowK_t (belowK_b sI) (Below.refl _ _) (λ_=>rfl)
  (λpre W=>(∃v,Boxed W w.heap.size 304 v/\W.ownsRow w.heap.size 307 2 v pre.length (Cp pre)/\True)/\Below w.heap.size w W)
  (λ_ _ _=>False)
  (OwnFrom.and (Own.from (holdsRow_own w.heap.size w.heap.size 304 307 2 (λpre=>pre.length) (λpre=>Cp pre) (λ_ _=>True)) _) (ownFrom_below nR sI))
  (λ_ _ _ _ _ hs _ _=>hs)
  ⟨⟨_,bO,World.ownsRow_nil _ _ _ _,trivial⟩,a7⟩
  (λx a' W=>∃Bx,W.heap[Bx]?=some (.cells #[vi x.1,vi x.2] 307 (0,0))/\a'={tmps:=#[.slice none 0 0,.func (.func 385) #[] #[.pointer (some ⟨Bs,0,none⟩)],.pointer (some ⟨w.heap.size,0,none⟩),undef,.slice none 0 0,.pointer (some ⟨Bx,0,none⟩),.func (.func 385) #[] #[.pointer (some ⟨Bs,0,none⟩)],L6 x,undef,undef,undef,undef,undef],defers:=[]})
  (λx a' _ X Y row hs hg hr=>by obtain⟨Bx,h2,h3⟩:=hs;refine⟨Bx,(hg.block Bx (fa.1 h2).1 (λe=>?_)).trans h2,h3⟩;obtain⟨o,ho,b8⟩:=(hr Bx e.symm).2;rw[h2]at ho;cases ho;cases b8)
  ?assign ?body ?done ?stop
 case assign=>
  rintro l pre x W K ⟨⟨v,a6,a0,_⟩,a4⟩ hK;unfold L6 at hK ⊢
  gi_wp2
  exact hK _ _ ((KeepsOthers.alloc _ _).from _) ((Below.refl _ W).alloc a4.size _) ⟨⟨v,a6.alloc _,a0.alloc _,trivial⟩,a4.alloc a4.size _⟩ ⟨W.heap.size,World.alloc_heap_new W _,rfl⟩
 case body=>
  rintro l pre x a' W hl ⟨r,hr⟩ ⟨⟨v,a6,a0,_⟩,a4⟩ ⟨Bx,b0,rfl⟩ d4;have b9:=a6.cell;have d0:W.cell? ⟨Bx,0,none⟩=some (.int .i64 x.1):=by simp[World.cell?,b0]
  have d1:W.cell? ⟨Bx,1,none⟩=some (.int .i64 x.2):=by simp[World.cell?,b0]
  gi_wp2_with (gi_at_builtin;refine wpListIn_append_own _ rfl _ _ 304 rfl w.heap.size 307 i0 (.agg #[vi 0,vi 0]) 2 16 underlying304 hi c6 c7 c8 rfl dC _ _ _ rfl (a0.alloc _) ⟨W.heap.size,0,none⟩ 1 1 [vi x.1,vi x.2] rfl rfl (λj u hj=>by rw[show(⟨W.heap.size,0,none⟩:Addr).add j=⟨W.heap.size,j,none⟩ by unfold Addr.add;split<;>simp_all];rw[World.cell?_alloc_mark,jr];exact hj) (by simp[Value.oneCell']) (by rw[UO];omega) oM (by have:=a4.size;simp;omega) ?_;intro v' w1 a5 a8 _;obtain⟨g',c9,rfl⟩:=ownsRow_succ a5;obtain⟨b5,c5,c4,c3,b4⟩:=a6.appended dC a0 a4.size nR a5 a8;have d2:=b5.cell;have d3:=b5.frozen)
  exact⟨c3.from _,b4,⟨_,c5,by rw[VI];simpa using c4,trivial⟩,a4.trans b4⟩
 case done=>
  rintro D ys W hD rfl ⟨⟨v,hv,a0,_⟩,hB⟩ hK;have b9:=hv.cell
  gi_wp2
  refine⟨by simp,.inl ⟨_,_,rfl,run_takeDeferred hK,?_⟩⟩;exact⟨_,results_tmp rfl _ _ _,v,rfl,ownsRow_putObj a0 _ hK rfl,hB.trans (belowK_b (w:=w) nR W D _ _ (by simp at hD;omega) hK rfl rfl)⟩
 case stop=>rintro D c pre W _ _ h _;exact h.elim
end Go.Proofs
namespace Go.Hal
open Go.Lib Go.Sort
section
variable {α:Type} [Inhabited α]
def PS{k:Nat}(f:α->LV)(hk:∀x,(f x).length=k):∀(l:List α)(j:Nat),j<l.length*k->((l.map f).flatten)[j]?=some ((f (l.toArray[j/k]!))[j%k]!)
 | [],j,h=>by simp at h
 |a::l,j,h=>by
  have a0:0<k:=by
    obtain h0|h0:=jq k
    .rw[h0]at h;simp at h
    .exact h0
  rw[ib,jc];by_cases hj:j<k
  .rw[fy (by rw[hk];exact hj),Nat.div_eq_of_lt hj,Nat.mod_eq_of_lt hj,dt (by rw[hk];exact hj)];have:(f a)[j]! =(f a)[j]'(by rw[hk];exact hj):=getElem!_pos _ _ (by rw[hk];exact hj);simp[this]
  .rw[gp (by rw[hk];omega),hk];have h1:j - k<l.length*k:=by rw[fl,jx]at h;omega
   rw[PS f hk l (j - k) h1];have h2:j/k=(j - k)/k+1:=by rw[Nat.div_eq_sub_div a0 oM]
   have h3:j%k=(j - k)%k:=Nat.mod_eq_sub_mod oM;rw[h2,h3];simp
def Zb5{k:Nat}{f:α->LV}(hk:∀x,(f x).length=k){l:List α}{tail:LV}(h:RowB f w g l tail):HoldsK f k w g 0 l.toArray:=by
 obtain⟨t,_,_,hb⟩:=h;intro j hj;have a0:j<l.length*k:=by simpa using hj
 rw[get_flatK _ _ _ _ (by simpa using a0)];have hg:=PS f hk l j a0;have a4:j<((l.map f).flatten).length:=by rw[CE f hk];exact a0
 constructor
 .simp only[World.cell?,hb,ke];rw[jr];rw[fy a4,hg];rfl
 .simp[World.frozen?,hb]
def Vw{d d':Array α}(h:PermIn 0 d.size d d'):d'.toList.Perm d.toList:=by
 obtain⟨h1,_,h3⟩:=h;have e1:d'.extract 0 d.size=d':=by rw[<-h1];simp
 have e2:d.extract 0 d.size=d:=by simp
 rw[e1,e2]at h3;exact h3
def VY{lt:α->α->Bool}{d d':Array α}(hs:d'.size=d.size)(h:SortedIn lt 0 d.size d'):d'.toList.Pairwise λx y=>lt y x=false:=by
 rw[gh];intro i j hi hj a0;have a4:j<d.size:=by rw[<-hs];simpa using hj
 have:=h i j (gn _) a0 a4;rw[getElem!_pos _ _ oM,getElem!_pos _ _ oM]at this;simpa using this
def VM{k:Nat}{f:α->LV}(hk:∀x,(f x).length=k){n:Nat}{l l':List α}{tail:LV}{os:Array Obj}(h:RowB f w g l tail)(hl:l'.length=l.length):
  But g w (sortWorldK f k w g 0 n l'.toArray os)/\RowB f (sortWorldK f k w g 0 n l'.toArray os) g l' tail/\w.drawn<=(sortWorldK f k w g 0 n l'.toArray os).drawn:=by
 obtain⟨t,_,_,hb⟩:=h;have a4:g<w.heap.size:=(fa.1 hb).1;have hh:(sortWorldK f k w g 0 n l'.toArray os).heap=w.heap.modify g (onCells (putCells id 0 (flatK f k l'.toArray)))++os:=rfl;refine⟨⟨by rw[hh];simp,rfl,rfl,rfl,λb a0 a5=>?_⟩,⟨t,rfl,rfl,?_⟩,?_⟩
 .rw[hh,jl (by simpa using a0),mb,if_neg (Ne.symm a5)]
 .rw[hh,jl (by simpa using a4),mb,if_pos rfl,hb];simp only[je,onCells,eu,Obj.cells.injEq,and_true];apply Array.ext_getElem?;intro j;simp only[putCells,Array.getElem?_mapIdx,jr,gn,true_and,ke,qf,size_flatK,iv,id];have e1:=CE f hk l;have e2:=CE f hk l';by_cases hj:j<l'.length*k
  .rw[fy (by rw[e1,<-hl];exact hj),fy (by rw[e2];exact hj),dt (by rw[e1,<-hl];exact hj)];simp only[je,if_pos hj];rw[get_flatK _ _ _ _ (by simpa using hj),PS f hk l' j hj]
  .rw[gp (by rw[e1,<-hl];omega),gp (by rw[e2];omega),e1,e2,hl];cases tail[j - l.length*k]? with
   |none=>rfl
   |some v=>simp only[je];rw[if_neg (by rw[<-hl];exact hj)]
 .show w.drawn<=w.drawn+n;omega
def F7{ρ:Ren}(L:SlLaysF0.n6 P ρ){k:Nat}(aE:∀w,(isAgg (ρ.t 24)).run P w= .ok true w)(zE:∀w,(Go.sizeOf (ρ.t 24)).run P w= .ok k w){f:α->LV}(hk:∀x,(f x).length=k)(h1:∀x,∀v∈f x,v.oneCell'=true)
  (cf:α->α->Int) (hO:SWO (ltOf cf)) (gf:Nat) (cb:Array Value) (eg:∀args w,(callFunc gf args).run P w= .ok (.enter gf args) w)  {cap:Nat} {l:List α} {tail:LV}
  (a4:∀w0 x y,But g w w0->w.drawn<=w0.drawn->Calls P gf (#[.agg (f x).toArray,.agg (f y).toArray]++cb) w0 λe w'=>e= .returned (.int .i64 (cf x y))/\∃q a9,w'=grow (w0.drewN q) a9)
  (hR:RowB f w g l tail) (a8:l.length<4611686018427387904)  {F:Nat} (hF:ρ.f 6=F)
  (hK:∀l' w',l'.Perm l->l'.Pairwise (λx y=>¬cf y x<0)->But g w w'->RowB f w' g l' tail->K (.tuple #[]) w'):callS P F [Sl.v ⟨some ⟨g,0,none⟩,l.length,cap⟩,.func (.func gf) #[] cb] w K:=by
 subst hF;have a6:g<w.heap.size:=by obtain⟨t,_,_,hb⟩:=hR;exact(fa.1 hb).1
 have hC:CmpLays P gf cb f k cf g 0 l.toArray.size w:=λm os dk hs x y=>by have:=VM hk (n:=m) (os:=os) (l':=dk.toList) hR (by simpa using hs);exact a4 _ x y this.1 this.2.2
 have h:=AnyQ.slices_SortFunc L k aE zE f hk h1 cf hO gf cb g 0 cap l.toArray w eg hC (Zb5 hk hR) a6 (by simpa using a8);refine h.mono λe w' ⟨he,d',n,os,hp,hs,hw⟩=>⟨_,he,?_⟩;have a7:=Vw hp;have a5:d'.toList.length=l.length:=by simpa using hp.1
 have a0:=VM hk (n:=n) (os:=os) (l':=d'.toList) hR a5;rw[lj,<-hw]at a0;exact hK d'.toList w' (by simpa using a7) ((VY hp.1 hs).imp λh=>by simpa[ltOf]using h) a0.1 a0.2.1
omit [Inhabited α]in
def EU{cf:α->α->Int}(flip:∀x y,cf x y<0↔0<cf y x)(trans:∀x y z,cf x y<=0->cf y z<=0->cf x z<=0):SWO (ltOf cf) where
 irrefl x:=by have:=flip x x;simp only[ltOf,decide_eq_false_iff_not];omega
 trans x y z h1 h2:=by
  simp only[ltOf,decide_eq_true_eq]at*;have a:=flip x y;have b:=flip y z;have c:=flip x z;have d:=flip z x;have e:=flip z y;have f:=flip y x;have g:=trans x y z oM oM;by_cases h0:cf x z=0
  .have k:=trans z x y oM oM;omega
  .omega
 ntrans x y z h1 h2:=by simp only[ltOf,decide_eq_false_iff_not]at*;have a:=flip x y;have b:=flip y z;have c:=flip x z;have d:=flip z x;have e:=flip z y;have f:=flip y x;have:=trans z y x oM oM;omega
end
end Go.Hal
namespace Go.Hal
open Go.Sort
def Gr(w w':Wd):Prop:=∃q os,w'=grow (w.drewN q) os
def Gr.refl(w:Wd):Gr w w:=⟨0,#[],by simp[World.drewN]⟩
def Gr.trans{a b c:Wd}(h:Gr a b)(k:Gr b c):Gr a c:=by obtain⟨q,os,rfl⟩:=h;obtain⟨r,a0,rfl⟩:=k;refine⟨q+r,os++a0,?_⟩;simp[grow,World.drewN,Array.append_assoc,pp]
def Gr.alloc(w:Wd)(o:Obj):Gr w (w.alloc o):=⟨0,#[o],by simp[alloc_eq_grow,World.drewN]⟩
def Gr.drew(w:Wd):Gr w w.drew:=⟨1,#[],(grow_empty (w.drewN 1)).symm⟩
def Gr.ext(h:Gr w w'):Ext w w':=by obtain⟨q,os,rfl⟩:=h;exact⟨rfl,rfl,rfl,by simp[grow,World.drewN],λk hk=>by simp only[grow,World.drewN];rw[jl hk]⟩
def newS.gr{t:TypeId}{k:Addr->Wp}(h:∀a w',Gr w w'->BoxAt w' a cs->k a w'):newS w cs t k:=λa w' ha hw=>by subst ha hw;exact h _ _ (Gr.alloc _ _) ⟨t,rfl,rfl,heap_alloc_new w _⟩
def bnd.gr{k:Wp}(h:∀w',Gr w w'->k w'):bnd w.drew k:=λ_ e=>h _ (e▸Gr.drew w)
def Gr.at0{a:Addr}{cs' r:LV}(h:BoxAt w a cs)(hx:Gr w w')(hp:cs=cs'++r):Go.Hal.ldc w' a cs':=h.at0 hx.ext hp
def Gr.at1{a:Addr}{k:Nat}{cs' r:LV}(h:BoxAt w a cs)(hx:Gr w w')(hp:cs.drop k=cs'++r):Go.Hal.ldc w' (a.add k) cs':=h.at1 hx.ext hp
def WT{a b:Ver}{R:Int->Wp}(hR:∀w',Gr w w'->R (a.cmp b) w'):SE.EZ a.ma a.mi a.pa b.ma b.mi b.pa w R:=by unfold SE.EZ;refine newS.gr λ_ w1 x1 hb=>newS.gr λ_ w2 x2 a4=>bnd.gr λw3 x3=>?_;have a0:=x2.trans x3;refine⟨_,Gr.at0 hb a0 rfl,_,Gr.at0 a4 x3 rfl,?_⟩;refine⟨_,Gr.at1 hb a0 rfl,_,Gr.at1 a4 x3 rfl,?_⟩;refine⟨_,Gr.at1 hb a0 rfl,_,Gr.at1 a4 x3 rfl,?_⟩;refine callX.intro (SE.DP.go (cmpInt_se ⟨Ext.refl _,_,rfl,callX.intro (SE.DP.go (cmpInt_se ⟨Ext.refl _,_,rfl,SE.DP.go (cmpInt_se ⟨_,rfl,?_⟩)⟩))⟩));refine newS.gr λa6 w4 x4 a5=>SE.Ez.go (Tn (MZ (l:=[_,_,_]) a5 sI) ⟨_,rfl,?_⟩);exact hR _ (x1.trans (a0.trans x4))
def Za7{a b:Ver}{R:Int->Wp}(hR:∀w',Gr w w'->R (b.cmp a) w'):SE.JB a.ma a.mi a.pa b.ma b.mi b.pa w R:=by unfold SE.JB;refine newS.gr λ_ w1 x1 hb=>newS.gr λ_ w2 x2 a0=>?_;refine⟨_,_,_,Gr.at0 a0 (Gr.refl _) rfl,_,_,_,Gr.at0 hb x2 rfl,SE.EZ.go (WT (a:=b) (b:=a) λw3 x3=>⟨_,rfl,hR _ (x1.trans (x2.trans x3))⟩)⟩
def YE(x:LU):∀y:LU,Lib.compareBytes x y=if Op.bytesLess x y=true then -1 else if x=y then 0 else 1:=by
 induction x with
 |nil=>intro y;cases y<;>simp[Lib.compareBytes,Op.bytesLess]
 |cons u x ih=>
  intro y;cases y with
  |nil=>simp[Lib.compareBytes,Op.bytesLess]
  |cons v y=>
   rw[MV];simp only[Lib.compareBytes];by_cases h1:u<v
   .simp[h1]
   .by_cases h2:v<u
    .have a0: ¬u=v:=λe=>(by subst e;exact h1 h2);simp[h1,h2,a0]
    .have he:u=v:=UInt8.le_antisymm (UInt8.not_lt.1 h2) (UInt8.not_lt.1 h1);subst he;simp[ih y]
def YC(a b:Bs):Lib.compareBytes a.data.toList b.data.toList=A7 a b:=by
 rw[YE];have e1:Op.bytesLess a.data.toList b.data.toList=Ao a b:=by rw[<-toList_data,<-toList_data];rfl
 rw[e1,A7];cases h:Ao a b
 .simp only[mg,if_false];by_cases he:a=b
  .subst he;simp[AH.2 rfl]
  .have h2: ¬a.data.toList=b.data.toList:=λe=>he (GG e);have h3:Ai a b=false:=(by rw[pf];exact λe=>he (AH.1 e));simp[h2,h3]
 .simp
def ET{k:Value->Wp}(hk:k (.int .i64 (A7 a b)) w):callS prog 69 [.string a,.string b] w k:=
 (Any.strings_Compare Tryz.layCo a b w).mono λe w' ⟨he,hw⟩=>⟨_,he,by rw[hw,YC];exact hk⟩
end Go.Hal
/-
 DERIVED:THE SHELF's CONTRACTS AT THIS DUMP,IN PLAIN WORDS (tools/lay-plain.mjs out of 'YtkndmcejjebjfaaGreatDoorLay2.lean',which tools/lay-shelf.mjs wrote):THE SAME DECLARATIONS UNDER THE SAME NAMES:'import','namespace','open','def','theorem' AND NOTHING ELSE:no command of the shelf's:FOR A HAND-IN. Each laying:the table of numbers ('.._ren') and one theorem,a field a fact of the dump's own or the kernel's comparison;each contract:ONE APPLICATION.
-/
namespace Go.Proofs
def Fk{i:FuncId}{F:Func}(h:(match P.funcs[i]? with|some g=>(g.name== "runtime.NumGoroutine")|none=>true)=false)(he:P.funcs[i]? =some {F with name:=((P.funcs[i]?).getD F).name}):Bears P i F:=
 ⟨_,by rw[he]at h;exact h,he⟩
def Tryz.laySv_ren:Go.Shelf.Ren:=⟨λ|6=>287|15=>93|14=>352|28=>172|29=>173|20=>353|21=>386|22=>387|23=>388|24=>389|25=>390|26=>391|27=>392|46=>412|47=>267|48=>268|49=>413|50=>414|57=>433|n=>n,λ|22=>135|24=>66|25=>199|3=>3|39=>180|0=>0|53=>253|55=>255|4=>4|46=>246|45=>245|50=>250|5=>5|9=>9|66=>326|70=>330|76=>376|77=>377|n=>n,λ|n=>n⟩
def Tryz.laySv:Go.Proofs.SlLaysF0.n6 prog Tryz.laySv_ren:=by repeat' first|kernel_rfl|exact Fk kR kR|(intro w;kernel_rfl)|constructor
def Tryz.laySp_ren:Go.Shelf.Ren:=⟨λ|6=>130|15=>93|14=>216|28=>172|29=>173|20=>291|21=>292|22=>293|23=>294|24=>295|25=>296|26=>297|27=>298|46=>355|47=>267|48=>268|49=>356|50=>357|57=>394|n=>n,λ|22=>69|24=>166|25=>219|3=>3|39=>180|0=>0|53=>253|55=>255|4=>4|46=>246|45=>245|50=>250|5=>5|9=>9|66=>326|70=>330|76=>376|77=>377|n=>n,λ|n=>n⟩
def Tryz.laySp:Go.Proofs.SlLaysF0.n6 prog Tryz.laySp_ren:=by repeat' first|kernel_rfl|exact Fk kR kR|(intro w;kernel_rfl)|constructor
end Go.Proofs
namespace Go.Hal
def CatL(w:Wd)(S:Nat->Prop)(p:Addr)(r:Nat)(L:List Pack):Prop:=∃ps,CatR w S p r ps/\L.Perm ps/\GoodL L
def CatL.ext(h:CatL w S p r L)(hx:Ext w w'):CatL w' S p r L:=by obtain⟨ps,a,b,c⟩:=h;exact⟨ps,a.ext hx,b,c⟩
def CatL.good(h:CatL w S p r L):GoodL L:=by obtain⟨_,_,_,c⟩:=h;exact c
def catNew_L{R:Option Addr->Wp}(hR:∀p r w',Ext w w'->CatL w' None' p r []->w.heap.size<=r->w.heap.size<=p.block->R (some p) w'):SE.HM w R:=
 Yu λp r w' hx hC h1 h2=>hR p r w' hx ⟨[],hC,jf _,GoodL.nil⟩ h1 h2
def Yw{x:Pack}{e:Sl}{S2:Nat->Prop}{R:Int->Wp}(ht:Tab w)(hC:CatL w S p r L)(hN:Ac x.name)(a4:Old S2 w)
  (hd:SlR depE w S2 d x.deps) (he:SlR depE w S2 e x.peers) (ho:SlR depE w S2 o x.opt)
  (hR:∀S' w',But r w w'->CatL w' S' p r (BK L x).2->(∀b,S b->S' b)->(∀b,S' b->S b\/w.heap.size<=b)->R (BK L x).1 w'):SE.HL (some p) x.name x.v.ma x.v.mi x.v.pa d e o w R:=by
 obtain⟨ps,h1,h2,h3⟩:=hC;obtain⟨e1,e2⟩:=Zgf h3 h2 x;refine Yx ht h1 hN a4 hd he ho λS' w' b a0 hs a5=>?_;rw[e1];exact hR S' w' b ⟨_,a0,e2,VA h3 x⟩ hs a5
def RO:Pack:=⟨⟨#[]⟩,⟨0,0,0⟩,[],[],[]⟩
def getD(L:List Pack)(n:Bs)(v:Ver):Pack:=(AR L n v).getD RO
def J7{v:Ver}{R:Bs->Int->Int->Int->Sl->Sl->Sl->Bool->Wp}(hC:CatL w S p r L)
  (hR:∀d e o w',Ext w w'->Ac (getD L n v).name->SlP depP w' (λb=>w.heap.size<=b/\b<w'.heap.size) d (getD L n v).deps->SlP depP w' (λb=>w.heap.size<=b/\b<w'.heap.size) e (getD L n v).peers->SlP depP w' (λb=>w.heap.size<=b/\b<w'.heap.size) o (getD L n v).opt->
   R (getD L n v).name (getD L n v).v.ma (getD L n v).v.mi (getD L n v).v.pa d e o (AR L n v).isSome w'):SE.Fm (some p) n v.ma v.mi v.pa w R:=by
 unfold SE.Fm;obtain⟨ps,hC,hp,hg⟩:=hC;refine newS.intro λa w1 x1 hb _ _=>newS.intro λa1 w2 x2 a9 c8 _=>bnd.drew λw3 x3=>?_;have a8:Ext w w3:=x1.trans (x2.trans x3);have a4:=hC.ext a8;refine⟨p,rfl,some r,a4.box.ldc,v.ma,v.mi,v.pa,hb.at0 (x2.trans x3) rfl,?_⟩;obtain⟨m,hm,hl,hf⟩:=a4.find n v;rw[Uf hg.ord hp]at hf;have key:∃(d e o:Sl),Cz prog (Instr.lookup 120 (.map (some r)) (keyV n v) true) w3 (.tuple #[Ga (getD L n v) d e o,.bool (AR L n v).isSome])/\Ac (getD L n v).name/\SlR depE w3 S d (getD L n v).deps/\SlR depE w3 S e (getD L n v).peers/\SlR depE w3 S o (getD L n v).opt:=by
  rcases hf with⟨a5,c5⟩|⟨y,dy,ey,oy,a7,c4,hN,h1,h2,h3⟩
  .unfold getD;rw[a5];exact⟨Sl.nil,Sl.nil,Sl.nil,lookup_no K6 hm ⟨_,_,rfl⟩ c5,by unfold Ac;exact gn _,SlR.nil trivial,SlR.nil trivial,SlR.nil trivial⟩
  .unfold getD;rw[a7];exact⟨dy,ey,oy,Qk K6 hm ⟨_,_,rfl⟩ c4,hN,h1,h2,h3⟩
 obtain⟨d,e,o,c7,hN,hd,he,ho⟩:=key;generalize hY:getD L n v=y at*;refine⟨y.name,y.v.ma,y.v.mi,y.v.pa,d,e,o,(AR L n v).isSome,c7,newS.intro λa6 w4 x4 b6 c9 _=>stw0.intro b6 sI λw5 b5 _ b4=>?_⟩;have s3:=a8.size;have s4:=x4.size;have s2:=x2.size;have s1:=x1.size;have d1:=x3.size;have a0:Ext w3 w5:=b5.ext x4 oM;refine⟨_,_,_,_,_,_,_,b4.ldc.pre rfl,SE.HN.go (Ts (p:=y) (S:=S) ((a4.old).ext a0.size) (hd.ext a0) (he.ext a0) (ho.ext a0) λd' e' o' w6 x6 b9 c3 c6=>⟨_,_,_,_,_,_,_,rfl,?_⟩)⟩;have b2:=a0.trans x6;have s5:=a0.size;have s6:=x6.size;have b0:=a9.ext (x3.trans b2);refine stw0.intro b0 sI λw7 b7 _ b8=>⟨_,_,_,_,_,_,_,b8.ldc.pre rfl,?_⟩;have d0:=a9.lt;have n1: ¬(w5.heap.size<=a1.block/\a1.block<w6.heap.size):=oM;have s7:=b7.size;have up:∀b,(w5.heap.size<=b/\b<w6.heap.size)->(w.heap.size<=b/\b<w7.heap.size):=λb hb=>⟨oM,oM⟩;exact hR d' e' o' w7 (b7.ext (a8.trans b2) oM) hN ((b9.but b7 n1).mono up) ((c3.but b7 n1).mono up) ((c6.but b7 n1).mono up)
def XI:B0 prog 135 66 3 24:=CD (z:=.agg #[vi 0,vi 0,vi 0]) kR kR rfl dC
def ZN:Bn prog 288:=enters_of func288 kR rfl
def Zcr:∀w,(isAgg 66).run prog w= .ok true w:=λw=>by kernel_rfl
def Zir:∀w,(Go.sizeOf 66).run prog w= .ok 3 w:=λw=>by kernel_rfl
instance:Inhabited Ver:=⟨⟨0,0,0⟩⟩
instance:Inhabited Pin:=⟨⟨⟨#[]⟩,⟨0,0,0⟩⟩⟩
def Zi3{cap:Nat}{l:List Ver}{tail:LV}(hR:RowB Ver.c w g l tail)(a0:l.length<4611686018427387904)
  (hK:∀l' w',l'.Perm l->l'.Pairwise (λx y=>¬x.cmp y<0)->But g w w'->RowB Ver.c w' g l' tail->K (.tuple #[]) w'):
  callS prog 287 [Sl.v ⟨some ⟨g,0,none⟩,l.length,cap⟩,.func (.func 288) #[] #[]] w K:=by
 have hO:=Ver.cmp_ord.swap;refine F7 Tryz.laySv (k:=3) Zcr Zir (f:=Ver.c) (λ_=>rfl) (λx v hv=>by simp[Ver.c]at hv;rcases hv with rfl|rfl|rfl<;>rfl) (λa b=>b.cmp a) (EU hO.flip hO.trans) 288 #[] ZN (λw0 x y hb _=>?_) hR a0 rfl hK;have h:=SE.JB.go (k:=λv w'=>v= .int .i64 (y.cmp x)/\Gr w0 w') (Za7 (a:=x) (b:=y) (w:=w0) λw' h=>⟨rfl,h⟩);exact Calls.mono h λe w' ⟨v,he,hv,hg⟩=>⟨by rw[he,hv],hg⟩
def FlatO{α:Type}(f:α->LV)(bytes:Nat)(w:Wd)(lo:Nat)(s:Sl)(l:List α):Prop:=
 s.len=l.length/\l.length<=s.cap/\s.cap<=maxLen/\l.length*bytes<=Ab/\(l=[]\/∃g tail,s.a=some ⟨g,0,none⟩/\lo<=g/\RowB f w g l tail)
section
variable {α:Type} {f:α->LV} {bytes:Nat} {w w':Wd} {lo:Nat} {s:Sl} {l:List α}
def FlatO.read{E:Enc α}(h:FlatO f E.bytes w lo s l)(hk:∀x,(f x).length=E.n)(hE:∀w S,∀x∈l,E.rep w S x (f x)):SlR E w (λb=>lo<=b/\b<w.heap.size) s l:=by
 obtain⟨h1,h2,h3,h4,h5⟩:=h;refine⟨h1,h2,h3,h4,?_⟩;rcases h5 with h5|⟨g,tail,ha,hg,hr⟩
 .exact .inl h5
 .exact .inr ⟨_,ha,⟨hg,hr.lt⟩,λi x hx=>⟨f x,hE _ _ x (gv hx),hr.ld' hk hx⟩⟩
def FlatO.ext(h:FlatO f bytes w lo s l)(hx:Ext w w'):FlatO f bytes w' lo s l:=by obtain⟨h1,h2,h3,h4,h5⟩:=h;exact⟨h1,h2,h3,h4,h5.imp id λ⟨g,tail,a,b,c⟩=>⟨g,tail,a,b,c.ext hx⟩⟩
def FlatO.of{E:Enc α}{T:TypeId}(hE:∀x cs,E.rep w S x cs->cs=f x)(h:OwnS E T w lo S s l)(hb:l.length*bytes<=Ab):FlatO f bytes w lo s l:=by
 rcases OwnS.rowG f (λy x=>y=x) (λx cs hr=>⟨x,hE x cs hr,rfl⟩) h with⟨rfl,rfl⟩|⟨g,z,tail,ha,hg,hz,hr,hR,hc,hm⟩
 .exact⟨rfl,fm _,gn _,hb,.inl rfl⟩
 .have e:z.map Prod.fst=l:=by rw[<-hz];exact mr λp hp=>hr p hp
  rw[e]at hR;exact⟨h.len,hc,hm,hb,.inr ⟨g,tail,ha,hg,hR⟩⟩
def FlatO.clip{k:Nat}(h:FlatO f bytes w lo s l):FlatO f bytes w lo (Sl.mk (if(s.len:Int).toNat=0 then s.a else s.a.map (·.add (0*k))) ((s.len:Int).toNat - 0) ((s.len:Int).toNat - 0)) l:=by
 obtain⟨h1,h2,h3,h4,h5⟩:=h;refine⟨by simp[h1],by simp[h1],by simp[h1];omega,h4,h5.imp id λ⟨g,tail,a,b,c⟩=>⟨g,tail,?_,b,c⟩⟩;show(if _ then _ else _)=_;split
 .exact a
 .rw[a,lu];rfl
end
def Zi2{l:List Ver}(h:FlatO Ver.c 24 w lo s l)(a0:lo<=w.heap.size)
  (hK:∀l' w',l'.Perm l->l'.Pairwise (λx y=>¬x.cmp y<0)->Below lo w w'->FlatO Ver.c 24 w' lo s l'->K (.tuple #[]) w'):
  callS prog 287 [s.v,.func (.func 288) #[] #[]] w K:=by
 obtain⟨h1,h2,h3,h4,h5⟩:=h;obtain⟨a,n,c⟩:=s;simp only at h1 h2 h3 h5;subst h1;rcases h5 with rfl|⟨g,tail,ha,hg,hr⟩
 .refine(AnyF.slices_SortFunc_none Tryz.laySv a c _ w).mono λe w' ⟨he,hw⟩=>⟨_,he,?_⟩;subst hw;exact hK [] _ (jf _) .nil (Below.refl _ _) ⟨rfl,h2,h3,h4,.inl rfl⟩
 .subst ha;refine Zi3 hr (by unfold Ab at h4;omega) λl' w' hp hs b a4=>hK l' w' hp hs (b.below a0 hg) ⟨hp.length_eq.symm,by rw[hp.length_eq];exact h2,h3,by rw[hp.length_eq];exact h4,.inr ⟨g,tail,rfl,hg,a4⟩⟩
def Zbv{α β γ:Type}{z:List (α×β)}{l1 l2:List β}{p:β}(h:z.map Prod.snd=l1++p::l2):∃z1 x z2,z=z1++(x,p)::z2/\z1.map Prod.snd=l1/\z2.map Prod.snd=l2:=by obtain⟨z1,a0,rfl,e1,e2⟩:=List.map_eq_append_iff.1 h;obtain⟨q,z2,rfl,e3,e4⟩:=List.map_eq_cons_iff.1 e2;exact⟨z1,q.1,z2,by rw[<-e3],e1,e4⟩
def TM{w:Wd}{S:Nat->Prop}:∀{ps:List Pack} {m:List (Value×Value)},m.length=ps.length->(∀(i:Nat)(x:Pack),ps[i]?=some x->∃kv,m[i]?=some kv/\EntR w S x kv)->∃z:List (Pack×(Value×Value)),z.map Prod.fst=ps/\z.map Prod.snd=m/\∀q∈z,EntR w S q.1 q.2
 | [],[],_,_=>⟨[],rfl,rfl,by simp⟩
 | [],_::_,h,_=>by cases h
 |_::_,[],h,_=>by cases h
 |x::ps,kv::m,h,hel=>by
  obtain⟨a0,h1,h2⟩:=hel 0 x rfl;simp only[ja,eu]at h1;subst h1;obtain⟨z,k1,k2,k3⟩:=TM (w:=w) (S:=S) (ps:=ps) (m:=m) (by simpa using h) λi y hy=>hel (i+1) y hy;refine⟨(x,kv)::z,by simp[k1],by simp[k2],λq hq=>?_⟩;obtain rfl|hq:=ga.1 hq
  .exact h2
  .exact k3 q hq
def Yy{R:Sl->Wp}(hC:CatL w S p r L)
  (hR:∀t w',Ext w w'->FlatO Ver.c 24 w' w.heap.size t (D0 n L)->R t w'):SE.Fo (some p) n w R:=by
 unfold SE.Fo;obtain⟨ps,hC,hp,hg⟩:=hC;obtain⟨m,hm,hl,d2⟩:=hC.map;refine⟨p,rfl,some r,hC.box.ldc,Zg0 underlying120 hm λit w1 x1 e8 hI=>⟨_,rfl,?_⟩⟩;obtain⟨z0,d8,d9,e0⟩:=TM hl d2;have f0:=hI.lt;have e4:ps.length<=128:=by rw[<-hp.length_eq];exact hg.le
 refine loop1.ghost (λk out w'=>∃(z:List (Pack×(Value×Value))) (a0:List Pack) (last:Option (Value×Value)),k=z.length/\IterR w' it r (z.map Prod.snd) last/\(∀q∈z,EntR w S q.1 q.2)/\(a0++z.map Prod.fst).Perm ps/\Ext w w'/\w1.heap.size<=w'.heap.size/\OwnS verE 66 w' w1.heap.size None' out ((a0.filter (Da n)).map (·.v))) _
  ⟨z0,[],none,rfl,by rw[d9];exact hI,e0,by rw[d8];exact jf _,x1,fm _,OwnS.zero w1⟩ λk out w2 f1 ⟨z,a0,last,hk,c9,hz,a8,x2,d4,own⟩ hn=>?_
 have e9:a0.length<=128:=by have:=a8.length_eq;rw[du]at this;omega
 refine Ze6 c9 (λh0=>?_) λq l1 l2 w3 hq e7 e5 b7 b0=>?_
 .have d7:z=[]:=List.map_eq_nil_iff.1 h0;subst d7;rw[nw,gd]at a8;refine⟨false,⟨#[]⟩,0,0,0,⟨#[]⟩,0,0,0,Sl.nil,Sl.nil,Sl.nil,rfl,nO,λ_=>?_⟩;have d6:=(((a8.filter (Da n)).map (·.v)).trans (Zlb hp n).symm);have a5:((a0.filter (Da n)).map (·.v)).length*24<=Ab:=by have:=ix (Da n) a0;rw[dz];unfold Ab;omega
  refine Zi2 (FlatO.of (E:=verE) (f:=Ver.c) (bytes:=24) (λx cs h=>h.1) own a5) d4 λl' w3 d3 d5 b6 hF=>⟨rfl,?_⟩;have e:=Za8 d5 (Zk9 hg.ord n) (d3.trans d6);subst e;refine SE.Ol.go ⟨⟨oM,oM,oM,by have:=hF.1;have:=hF.2.1;omega⟩,_,rfl,hR _ _ (x2.trans' ?_) ?_⟩
  .exact Below.mono b6 (by have:=x1.size;omega)
  .have:=hF.clip (k:=3);obtain⟨a,b,c,d,e⟩:=this;exact⟨a,b,c,d,e.imp id λ⟨g,tail,a,b,c⟩=>⟨g,tail,a,fe x1.size b,c⟩⟩
 .obtain⟨z1,x,z2,e3,e1,e2⟩:=Zbv (γ:=Unit) hq;subst e3;obtain⟨d,e,o,c4,hN,hd,he,ho⟩:=hz (x,q) sI;simp only at c4;subst c4;have c3:w.heap.size<=it:=oM;have x3:Ext w w3:=b7.ext x2 c3;have a9:=own.but b7 (λh=>h) (λad ha=>by have:=(own.block ha).1;omega);refine⟨true,x.name,x.v.ma,x.v.mi,x.v.pa,x.name,x.v.ma,x.v.mi,x.v.pa,d,e,o,rfl,λ_=>?_,nO⟩;refine⟨x.name,x.v.ma,x.v.mi,x.v.pa,x.name,x.v.ma,x.v.mi,x.v.pa,d,e,o,λw' hx=>Zad (b0.ext hx),newS.intro λa w4 x4 d0 e6 _=>stw0.intro d0 sI λw5 b5 _ b9=>⟨x.name,b9.ldc.pre rfl,λb2=>?_,λb2=>?_⟩⟩
  all_goals
   have s3:=x3.size;have s4:=x4.size;have a7:Ext w3 w5:=b5.ext x4 oM;have s5:=a7.size;have c7:∀q∈z1++z2,EntR w S q.1 q.2:=λq hq=>hz q (by
    obtain h|h:=fk.1 hq
    .exact iu _ h
    .exact ka _ (.tail _ h))
   have c6:((a0++[x])++(z1++z2).map Prod.fst).Perm ps:=(by refine List.Perm.trans ?_ a8;rw[fg,fq,fq,ib,List.singleton_append];exact List.perm_middle.symm.append_left a0);have c5:(z1++z2).length<(z1++(x,keyV x.name x.v,Ga x d e o)::z2).length:=(by simp);have b8:∀w',IterR w' it r (l1++l2) (some (keyV x.name x.v,Ga x d e o))->IterR w' it r ((z1++z2).map Prod.snd) (some (keyV x.name x.v,Ga x d e o)):=λw' h=>by rw[fq,e1,e2];exact h
  .refine⟨_,_,_,b9.at1 (k:=1) xR rfl,newS.intro λa6 w6 x6 d1 _ _=>?_⟩;have b4:=a7.trans x6;have s6:=x6.size;have a5:(((a0.filter (Da n)).map (·.v)).length+1)*verE.bytes<=Ab:=(by have:=ix (Da n) a0;have hb:verE.bytes=24:=rfl;rw[dz,hb];unfold Ab;omega);refine(a9.ext b4).push (x:=x.v) (S':=None') XI oM ⟨rfl,trivial⟩ d1.ldc (λ_ h=>h.elim) (λ_ _ h=>h.elim) a5 (by rw[Al];unfold Ab at a5;have hb:verE.bytes=24:=rfl;rw[hb]at a5;omega) λt w7 c8 a4 _ _=>?_;refine hn _ _ _ (by rw[hk];exact c5) ⟨z1++z2,a0++[x],_,rfl,b8 _ (((b0.ext b4).of (a4.block r (by have:=hm.lt;omega)) (a4.block it oM))),c7,c6,(x3.trans b4).trans' (Below.mono a4 oM),by have:=a4.size;omega,?_⟩;rw[jk,fq];have:Da n x=true:=(by simp[Da,b2]);simp only[nx,this,if_true,List.filter_nil,ib,nw];exact c8.mono (λ_ h=>h.elim id id) (λ_ h=>h.elim) (λ_ _ h=>h.elim)
  .refine hn _ _ _ (by rw[hk];exact c5) ⟨z1++z2,a0++[x],_,rfl,b8 _ (b0.ext a7),c7,c6,x3.trans a7,oM,?_⟩;rw[jk,fq];have:Da n x=false:=(by simp[Da,b2]);simp only[nx,this,List.filter_nil,nw,gd,mg,if_false];exact a9.ext a7
def Zcd{l:List Ver}{p:Ver->Bool}{R:Int->Wp}(hs:SlR verE w S s l)(hf:Fg f (λx=>.agg #[vi x.ma,vi x.mi,vi x.pa]) p l w)
  (hR:∀w',Ext w w'->R (AU p l) w'):SE.Ma s f w R:=by
 unfold SE.Ma;have hl:=hs.len;refine loop1.up hs.max (λi w'=>Ext w w'/\(l.take i).any p=false) ⟨Ext.refl _,rfl⟩ λi w1 a6 hi ⟨x1,hI⟩ hn=>⟨λa4=>?_,λa5=>?_⟩
 .have a0:i<l.length:=oM;obtain⟨ad,cs,ha,_,⟨rfl,_⟩,hc⟩:=hs.el a0;refine⟨ad,⟨ha,oM,a4⟩,_,_,_,hc _ xT,hf _ (ff a0) _ _ x1 λw2 x2=>⟨_,rfl,λh=>?_,λh=>?_⟩⟩
  .rw[<-Fx a0 hI h];exact hR _ xT
  .exact hn a0 _ ⟨xT,by rw[F8 a0 hI];exact h⟩
 .have:i=l.length:=oM;rw[this,eh]at hI;rw[<-E8 hI];exact hR _ xT
def Xi(z:Array Value)(n:Nat):(Builtin.zeroCells z n).toList.length=n*z.size:=by rw[jt,size_zeroCells]
def Xj{z:Array Value}(hz:∀v∈z,v.oneCell'=true)(n:Nat):∀v∈(Builtin.zeroCells z n).toList,v.oneCell'=true:=λv hv=>by
 simp only[Builtin.zeroCells,Array.toList_map,Array.toList_range,gq,mf]at hv;obtain⟨i,hi,rfl⟩:=hv;have a4:0<z.size:=by
  obtain h|h:=jq z.size
  .rw[h]at hi;simp at hi
  .exact h
 have a0:i%z.size<z.size:=Nat.mod_lt _ a4;have e:z[i%z.size]! =z[i%z.size]:=getElem!_pos z _ a0;rw[e];exact hz _ (Array.getElem_mem a0)
def Tj{t e ty:TypeId}{z:Value}{n k:Nat}(ht:P.underlying t=some (.slice e))(hv:∀w,(zeroValue e).run P w= .ok z w)(hz:z.cells.size=k)(h1:∀v∈z.cells,v.oneCell'=true){o c:Nat}{front back:LV}(ho:front.length=o)(hn:n*k<=back.length)(hB:BoxAt w ⟨g,0,none⟩ (front++back))
   (hK:∀w' a0,But g w w'->BoxAt w' ⟨g,0,none⟩ (front++a0)->K (.tuple #[]) w'):semS P (Builtin.clear_ #[t] ty #[.slice (some ⟨g,o,none⟩) n c]) w K:=by
 obtain⟨T,_,_,hb⟩:=hB;simp only at hb;have a8:=(fa.1 hb).1;cases n with
 |zero=>refine⟨_,w,?_,hK w back ⟨fm _,rfl,rfl,rfl,λ_ _ _=>rfl⟩ ⟨T,rfl,rfl,hb⟩⟩;simp[Builtin.clear_,run_underlying ht,Sem.run_bind,Result.andThen]
 |succ n=>
  have a4:(Builtin.zeroCells z.cells (n+1)).toList.length=(n+1)*k:=by rw[Xi,hz]
  have a5:=run_storeCells_at (P:=P) g o T (Builtin.zeroCells z.cells (n+1)).toList 0 (front++back).toArray w hb (by rw[a4,iv,du];omega) (Xj h1 _);generalize hA:(List.take (o+0) (front++back).toArray.toList++(Builtin.zeroCells z.cells (n+1)).toList++List.drop (o+0+(Builtin.zeroCells z.cells (n+1)).toList.length) (front++back).toArray.toList).toArray=A at a5;refine⟨.tuple #[],w.setRow g A,?_,hK (w.setRow g A) ((Builtin.zeroCells z.cells (n+1)).toList++back.drop ((n+1)*k)) ⟨by simp[World.setRow],rfl,rfl,rfl,λb a7 a6=>setRow_other w g b _ a6⟩ ⟨T,rfl,rfl,?_⟩⟩
  .simp[Builtin.clear_,run_underlying ht,hv,Sem.run_bind,Result.andThen,a5]
  .rw[setRow_heap w g (front++back).toArray A T _ hb,<-hA];simp only[jz,a4,eu,Obj.cells.injEq,and_true];rw[<-ho,nq];simp[List.drop_append]
def Kz{α:Type}{p:α->Bool}{l:List α}(h:AU p l≠ -1):∃n,∃hn:n<l.length,AU p l=(n:Int)/\(l.take n).any p=false/\p l[n]=true:=by
 unfold AU at*;cases hf:l.findIdx? p with
 |none=>rw[hf]at h;exact absurd rfl h
 |some n=>obtain⟨hn,hp,hb⟩:=lq.1 hf;refine⟨n,hn,rfl,?_,hp⟩;rw[kg];intro x hx;obtain⟨k,hk,rfl⟩:=fp.1 hx;rw[fb]at hk;rw[jh];exact hb k oM
def Ih{α:Type}{p:α->Bool}{l:List α}(h:l.any p=false):l.filter (λx=>!p x)=l:=by rw[oe];intro x hx;have:=kg.1 h x hx;simpa using this
def Zl2:∀w,(zeroValue 66).run prog w= .ok (.agg #[vi 0,vi 0,vi 0]) w:=λw=>by kernel_rfl
def Ze{l:List Ver}{d:Ver->Bool}{R:Sl->Wp}(h:FlatO Ver.c 24 w lo s l)(a9:lo<=w.heap.size)
  (hf:∀x∈l,∀w' (k:Value->Wp),Below lo w w'->(∀c6,Ext w' c6->k (.bool (d x)) c6)->callV prog f [.agg #[vi x.ma,vi x.mi,vi x.pa]] w' k)
  (hR:∀t w',Below lo w w'->FlatO Ver.c 24 w' lo t (l.filter λx=>!d x)->R t w'):SE.LM s f w R:=by
 unfold SE.LM;have hs:=h.read (E:=verE) (λ_=>rfl) (λ_ _ _ _=>⟨rfl,trivial⟩);refine SE.Ma.go (Zcd (p:=d) hs (λx hx w' k d2 hk=>hf x hx w' k (Below.mono d2 a9) hk) λw1 x1=>⟨_,rfl,λh1=>?_,λh1=>?_⟩)
 .have:l.any d=false:=by rw[<-Fw,h1];decide
  exact hR s w1 (Below.mono x1 a9) (by rw[Ih this];exact h.ext x1)
 obtain⟨n,hn,e,ht,hp⟩:=Kz h1;rw[e];obtain⟨k1,k2,k3,k4,k5⟩:=h;obtain⟨g,tail,ha,hg,hr⟩:∃g tail,s.a=some ⟨g,0,none⟩/\lo<=g/\RowB Ver.c w g l tail:=by
  obtain k5|k5:=k5
  .subst k5;simp at hn
  .exact k5
 have hk:∀x:Ver,x.c.length=3:=λ_=>rfl;have b8:(l.take (n+1)).filter (λx=>!d x)=l.take n:=by rw[dw hn,jk,Ih ht];simp[hp]
 rw[Ag oM (by unfold Ab at k4;omega)];refine⟨λi j w'=>∃(i' j':Nat) (z:List Ver),i=(i':Int)/\j=(j':Int)/\i'<j'/\j'<=l.length/\z.length=l.length/\i'=((l.take j').filter λx=>!d x).length/\z.take i'=(l.take j').filter (λx=>!d x)/\z.drop j'=l.drop j'/\Below lo w w'/\RowB Ver.c w' g z tail,
  λ_ j _=>l.length - j.toNat,⟨n,n+1,l,rfl,oM,oM,oM,rfl,by rw[b8,fb];omega,by rw[b8],rfl,Below.mono x1 a9,hr.ext x1⟩,?_⟩
 rintro _ _ w2 ⟨i,j,z,rfl,rfl,c9,hj,c5,hi,a5,c4,b2,a4⟩;refine⟨λd7=>join.named λJ hJ=>?_,λd5=>?_⟩
 .have a0:j<l.length:=oM;have ej:Aa ((j:Int)+1)=((j+1:Nat):Int):=by rw[Ag oM (by unfold Ab at k4;omega)];omega
  have a6:z.drop (j+1)=l.drop (j+1):=by rw[<-jw,c4,jw]
  have b9:(l.take (j+1)).filter (λx=>!d x)=(l.take j).filter (λx=>!d x)++[l[j]].filter (λx=>!d x):=by rw[dw a0,jk]
  have kJ:∀(i':Nat)(w':Wd)(z':List Ver),i'<j+1->z'.length=l.length->z'.take i'=(l.take (j+1)).filter (λx=>!d x)->z'.drop (j+1)=l.drop (j+1)->Below lo w w'->RowB Ver.c w' g z' tail->J (i':Int) w':=λi' w' z' q1 q2 q3 q4 q5 q6=>by subst hJ;show _/\_;rw[ej];exact⟨⟨i',j+1,z',rfl,rfl,q1,oM,q2,by rw[<-q3,fb];omega,q3,q4,q5,q6⟩,by show _ - Int.toNat _<_ - Int.toNat _;omega⟩
  clear hJ;have d3:z[j]?=some l[j]:=by have h1:z[j]?=(z.drop j)[0]? :=(by rw[lh,jz]);rw[h1,c4,lh,jz];exact dt a0
  refine⟨_,⟨ha,oM,oM⟩,_,_,_,a4.ld' hk d3,newS.intro λa w3 x3 a7 d4 _=>stw0.intro a7 sI λw4 b4 _ b7=>⟨_,_,_,b7.ldc.pre rfl,?_⟩⟩;have c7:Ext w2 w4:=b4.ext x3 oM;have s2:=b2.size;have hm:l[j]∈l:=ff a0;refine hf _ hm w4 _ (Below.trans b2 (Below.mono c7 oM)) λw5 x5=>⟨_,rfl,λhd=>?_,λhd=>?_⟩
  all_goals
   have b0:=c7.trans x5;have s5:=b0.size;have b5:Below lo w w5:=Below.trans b2 (Below.mono b0 oM);have c3:=a4.ext b0
  .have a8:d l[j]=false:=(by simpa using hd);refine⟨_,_,_,(b7.ext x5).ldc.pre rfl,_,⟨ha,oM,oM⟩,c3.st hk (i:=i) (x:=l[j]) oM λw6 b6 d0=>?_⟩;have ei:Aa ((i:Int)+1)=((i+1:Nat):Int):=by rw[Ag oM (by unfold Ab at k4;omega)];omega
   rw[ei];refine kJ (i+1) w6 _ oM (by rw[iz,c5]) ?_ (by rw[og oM,a6]) (Below.trans b5 (b6.below oM hg)) d0;rw[b9,<-a5,dw (by rw[iz];omega),od nR,nj];simp[a8]
  .have a8:d l[j]=true:=(by simpa using hd);refine kJ i w5 z oM c5 ?_ a6 b5 c3;rw[b9,<-a5];simp[a8]
 .have a0:j=l.length:=oM;subst a0;rw[eh]at a5 hi;have d6:i<l.length:=c9;have e1:(Sl.cut s (i:Int).toNat s.len 3).v= .slice (some ⟨g,i*3,none⟩) (l.length - i) (s.cap - i):=by unfold Sl.cut Sl.v;rw[ec,if_neg oM,ha,k1];simp only[je,G8]
  rw[e1];refine⟨⟨oM,oM⟩,?_⟩;have d1:(z.map Ver.c).flatten++tail=((z.take i).map Ver.c).flatten++(((z.drop i).map Ver.c).flatten++tail):=by
   conv=>lhs;rw[<-fo i z]
   rw[fq,js,fg]
  unfold RowB at a4;rw[d1]at a4;refine Tj (k:=3) underlying135 Zl2 rfl (λv hv=>by simp[Value.cells]at hv;rcases hv with rfl|rfl|rfl<;>rfl) (by rw[CE _ hk,fb];omega) (by rw[du,CE _ hk,fx];omega) a4 λw3 back b3 a7=>⟨⟨oM,oM⟩,?_⟩;have s2:=b2.size;refine hR _ w3 (Below.trans b2 (b3.below oM hg)) ?_;have c8:(l.filter λx=>!d x).length<=l.length:=ix _ _;refine⟨by unfold Sl.cut;simp;exact hi,by unfold Sl.cut;show _<=s.cap - 0;omega,by unfold Sl.cut;show s.cap - 0<=_;omega,?_,.inr ⟨g,back,?_,hg,?_⟩⟩
  .have:=ij 24 c8;omega
  .show(if _ then _ else _)=_;split
   .exact ha
   .rw[ha,lu];rfl
  .rw[<-a5];exact a7
def idxPin_se{l:LP}{p:Pin->Bool}{R:Int->Wp}(hs:SlR pinE w S s l)(hf:Fg f (λx=>.agg #[.string x.name,vi x.v.ma,vi x.v.mi,vi x.v.pa]) p l w)
  (hR:∀w',Ext w w'->R (AU p l) w'):SE.Hu s f w R:=by
 unfold SE.Hu;have hl:=hs.len;refine loop1.up hs.max (λi w'=>Ext w w'/\(l.take i).any p=false) ⟨Ext.refl _,rfl⟩ λi w1 a6 hi ⟨x1,hI⟩ hn=>⟨λa4=>?_,λa5=>?_⟩
 .have a0:i<l.length:=oM;obtain⟨ad,cs,ha,_,⟨rfl,_⟩,hc⟩:=hs.el a0;refine⟨ad,⟨ha,oM,a4⟩,_,_,_,_,hc _ xT,hf _ (ff a0) _ _ x1 λw2 x2=>⟨_,rfl,λh=>?_,λh=>?_⟩⟩
  .rw[<-Fx a0 hI h];exact hR _ xT
  .exact hn a0 _ ⟨xT,by rw[F8 a0 hI];exact h⟩
 .have:i=l.length:=oM;rw[this,eh]at hI;rw[<-E8 hI];exact hR _ xT
def Pv{l:LP}{p:Pin->Bool}(hs:SlR pinE w S s l)(hf:Fg f (λx=>.agg #[.string x.name,vi x.v.ma,vi x.v.mi,vi x.v.pa]) p l w)
  (hR:∀w',Ext w w'->R (l.any p) w'):SE.Hs s f w R:=by
 unfold SE.Hs;exact SE.Hu.go (idxPin_se hs hf λw' hx=>⟨_,rfl,by rw[Fw];exact hR _ hx⟩)
end Go.Hal
