/- Lemmas for the claim K19b: how the program's functions run, and what they answer; no condition but those that each theorem names. -/
import Derived.Maps.AppendAt
import Derived.WalkKit
import Derived.ProofKit
import Derived.OpenShut
import Derived.Deep.Slices
import Derived.ChangeCalls
import Derived.Deep.DeepHandedRow
import Derived.Test.YtkndmcejjebjfaaGreatDoorProg
import Derived.Shelf.Strings.SlTrimAscii
import Derived.Shelf.Strings.OnBuilder
import Derived.Shelf.Strings.BuilderK
import Derived.Shelf.LaysM
import Derived.Shelf.Strconv.Itoa3
import Derived.Shelf.Small.Strs
import Derived.Ground.NamesProg
import Derived.Lib.ItoaNum
import Derived.Laws.BytesArg
import Derived.Test.YtkndmcejjebjfaaGreatDoorCards
import Derived.Lib.LaidTab
import Derived.Stop.LaidErr
import Derived.MakeChecks
import Derived.SevenTiedAt
import Derived.RangeFuncNested
import Derived.Shelf.Strings.Split
import Derived.Shelf.Strconv.AtoiAll
import Derived.RangeFuncCalls
import Derived.RangeFuncLeaves
import Derived.Shelf.Abstract
import Derived.OwnWalkIn
import Derived.TacticsInMore
import Derived.LoopNIn
import Derived.LoopIn
import Derived.RangeFuncBox
import Derived.Test.YtkndmcejjebjfaaGreatDoorK19bA0
import Derived.Test.YtkndmcejjebjfaaGreatDoorK19bS0
import Derived.Test.YtkndmcejjebjfaaGreatDoorK19bS1
import Derived.Test.YtkndmcejjebjfaaGreatDoorK19bS2
import Derived.Test.YtkndmcejjebjfaaGreatDoorK19bT
set_option linter.unusedVariables false
set_option linter.unusedSimpArgs false
set_option linter.defProp false
set_option maxHeartbeats 16000000
open Go Go.RowKit Go.Proofs Go.Shelf Go.Hal Go.Proofs.Tryz
variable {a:Addr} {R:Bool->Wp} {cs cs' r:LV} {g i lo m n need:Nat} {S:Nat->Prop} {p:Option Bs} {P:Program} {s:Sl} {t:TypeId} {w w' w0:Wd}
namespace Go.Hal
def Keep(S:Nat->Prop)(w w':Wd):Prop:=∀b,S b->b<w.heap.size->w'.heap[b]?=w.heap[b]?
def Ext.keep(h:Ext w w')(S:Nat->Prop):Keep S w w':=λ_ _ hb=>h.block hb
def Keep.cell(h:Keep S w w'){v:Value}(hs:S a.block)(hc:w.cell? a=some v):w'.cell? a=some v:=
 (World.cell?_of_block (h a.block hs (World.block_lt_of_cell? w a hc))).trans hc
def CO(a:Addr)(n:Nat):(a.add n).block=a.block:=by unfold Addr.add;split<;>rfl
def CX(a:Addr)(m n:Nat):(a.add m).add n=a.add (m+n):=by obtain⟨b,o,s⟩:=a;unfold Addr.add;by_cases hm:m=0<;>by_cases hn:n=0<;>simp[hm,hn];omega
def add_zero(a:Addr):a.add 0=a:=rfl
def ldc.keep(h:ldc w a cs)(hs:S a.block)(hk:Keep S w w'):ldc w' a cs:=
 λj v hj=>hk.cell (by rw[CO];exact hs) (h j v hj)
def ldc.sub(h:ldc w a cs)(k m:Nat):ldc w (a.add k) ((cs.drop k).take m):=λj v hj=>by
 rw[CX];refine h (k+j) v ?_;rw[lf]at hj;split at hj
 .rw[lh]at hj;exact hj
 .cases hj
def ldc.of{a':Addr}(h:ldc w a cs)(ha:a'=a)(hc:cs'=cs):ldc w a' cs':=by subst ha hc;exact h
structure Enc(α:Type) where
 n:Nat
 bytes:Nat
 rep:Wd->(Nat->Prop)->α->LV->Prop
 len:∀{w S x cs},rep w S x cs->cs.length=n
 one:∀{w S x cs},rep w S x cs->∀v∈cs,v.oneCell'=true
 mono:∀{w S S' x cs},rep w S x cs->(∀b,S b->S' b)->rep w S' x cs
 keep:∀{w w' S x cs},rep w S x cs->Keep S w w'->rep w' S x cs
def Ab:Nat:=140737489403904
def SlR{α:Type}(E:Enc α)(w:Wd)(S:Nat->Prop)(s:Sl)(l:List α):Prop:=
 s.len=l.length/\l.length<=s.cap/\s.cap<=maxLen/\l.length*E.bytes<=Ab/\
 (l=[]\/∃ad,s.a=some ad/\S ad.block/\∀(i:Nat)(x:α),l[i]?=some x->∃cs,E.rep w S x cs/\ldc w (ad.add (i*E.n)) cs)
section
variable {α:Type} {E:Enc α} {w w':Wd} {S S':Nat->Prop} {s:Sl} {l:List α}
def SlR.len(h:SlR E w S s l):s.len=l.length:=h.1
def SlR.mono(h:SlR E w S s l)(hs:∀b,S b->S' b):SlR E w S' s l:=
 ⟨h.1,h.2.1,h.2.2.1,h.2.2.2.1,h.2.2.2.2.imp id λ⟨ad,h1,h2,h3⟩=>⟨ad,h1,hs _ h2,λi x hx=>let⟨cs,h4,h5⟩:=h3 i x hx;⟨cs,E.mono h4 hs,h5⟩⟩⟩
def SlR.keep(h:SlR E w S s l)(hk:Keep S w w'):SlR E w' S s l:=
 ⟨h.1,h.2.1,h.2.2.1,h.2.2.2.1,h.2.2.2.2.imp id λ⟨ad,h1,h2,h3⟩=>⟨ad,h1,h2,λi x hx=>let⟨cs,h4,h5⟩:=h3 i x hx;⟨cs,E.keep h4 hk,h5.keep (by rw[CO];exact h2) hk⟩⟩⟩
def SlR.ext(h:SlR E w S s l)(hx:Ext w w'):SlR E w' S s l:=h.keep (hx.keep S)
def SlR.nil(hS:True):SlR E w S Sl.nil ([]:List α):=⟨rfl,gn _,gn _,by simp,.inl rfl⟩
def SlR.get(h:SlR E w S s l){x:α}(hx:l[i]?=some x):∃ad cs,s.a=some ad/\S ad.block/\E.rep w S x cs/\ldc w (ad.add (i*E.n)) cs:=by
 rcases h.2.2.2.2 with h0|⟨ad,h1,h2,h3⟩
 .subst h0;simp at hx
 .obtain⟨cs,h4,h5⟩:=h3 i x hx;exact⟨ad,cs,h1,h2,h4,h5⟩
end
def BoxAt(w:Wd)(a:Addr)(cs:LV):Prop:=∃t,a.off=0/\a.spot=none/\w.heap[a.block]?=some (.cells cs.toArray t (0,0))
section
variable {w w':Wd} {a:Addr} {cs:LV}
def BoxAt.lt(h:BoxAt w a cs):a.block<w.heap.size:=by obtain⟨t,_,_,h⟩:=h;exact lt_of_block h
def BoxAt.ldc(h:BoxAt w a cs):ldc w a cs:=λj v hj=>by
 obtain⟨t,ho,hs,hb⟩:=h;obtain⟨b,o,s⟩:=a;simp only at ho hs hb;subst ho hs;have:(Addr.add ⟨b,0,none⟩ j)=⟨b,j,none⟩:=by unfold Addr.add;split<;>simp_all
 rw[this];simp[World.cell?,hb,hj]
def BoxAt.ext(h:BoxAt w a cs)(hx:Ext w w'):BoxAt w' a cs:=by obtain⟨t,ho,hs,hb⟩:=h;exact⟨t,ho,hs,(hx.block (lt_of_block hb)).trans hb⟩
def BoxAt.keep(h:BoxAt w a cs)(hs:S a.block)(hx:Keep S w w'):BoxAt w' a cs:=by obtain⟨t,ho,a0,hb⟩:=h;exact⟨t,ho,a0,(hx _ hs (lt_of_block hb)).trans hb⟩
end
def newS.intro{k:Addr->Wp}(h:∀a w',Ext w w'->BoxAt w' a cs->a.block=w.heap.size->w'.heap.size=w.heap.size+1->k a w'):newS w cs t k:=λa w' ha hw=>by subst ha hw;refine h _ _ (Ext.alloc _ _) ⟨t,rfl,rfl,?_⟩ rfl sI;exact heap_alloc_new w _
def But(g:Nat)(w w':Wd):Prop:=w.heap.size<=w'.heap.size/\w'.os=w.os/\w'.tape=w.tape/\w'.output=w.output/\∀b,b<w.heap.size->b≠g->w'.heap[b]?=w.heap[b]?
def But.keep(h:But g w w')(hs: ¬S g):Keep S w w':=λb hb hl=>h.2.2.2.2 b hl λe=>hs (e▸hb)
def But.below{B:Nat}(h:But g w w')(hB:B<=w.heap.size)(hg:B<=g):Below B w w':=⟨h.2.1,h.2.2.1,h.2.2.2.1,h.1,λb hb=>h.2.2.2.2 b oM oM⟩
def But.box(h:But g w w')(hb:BoxAt w a cs)(a0:a.block≠g):BoxAt w' a cs:=hb.keep (S:=λb=>b≠g) a0 (λb hb hl=>h.2.2.2.2 b hl hb)
def stw.intro{o:Nat}{old:LV}{k:Wp}(hb:BoxAt w a old)(hl:o+cs.length<=old.length)
  (h:∀w',But a.block w w'->w'.heap.size=w.heap.size->BoxAt w' a (old.take o++cs++old.drop (o+cs.length))->k w'):stw w (a.add o) cs k:=by
 obtain⟨t,ho,hs,hh⟩:=hb;obtain⟨b,of,sp⟩:=a;simp only at ho hs hh;subst ho hs;have ha:(Addr.add ⟨b,0,none⟩ o)=⟨b,o,none⟩:=by unfold Addr.add;split<;>simp_all
 rw[ha];refine⟨_,t,hh,rfl,by simpa using hl,h _ ⟨?_,rfl,rfl,rfl,λc hc a0=>setRow_other w b c _ a0⟩ ?_ ⟨t,rfl,rfl,?_⟩⟩
 .simp[World.setRow]
 .simp[World.setRow]
 .rw[setRow_heap w b old.toArray _ t _ hh];simp[Dk]
end Go.Hal
namespace Go
def lD{c:LV}(h:ldc w a c:=by first|exact(BoxAt.at0 (by assumption) xT rfl)|exact(BoxAt.at1 (by assumption) xT rfl)):ldc w a c:=h
end Go
namespace Go.Hal
def Al:maxLen=9223372036854775807:=rfl
def Ag{x:Int}(h0: -9223372036854775808<=x)(h1:x<=9223372036854775807):Aa x=x:=by simp only[Aa,IntKind.wrap,IntKind.bits,IntKind.signed,ie,decide_eq_true_eq];have e1:(2:Int)^(64 - 1)=9223372036854775808:=rfl;have e2:(2:Int)^ 64=18446744073709551616:=rfl;split<;>rename_i h<;>simp only[ge_iff_le,decide_eq_true_eq,e1,e2]at h ⊢ <;>omega
def Jn{x:Int}(h0:0<=x)(h1:x<n)(h2:n<=maxLen):Aa (x+1)=x+1:=Ag oM (by rw[Al]at h2;omega)
@[ext] structure Ver where
 ma:Int
 mi:Int
 pa:Int
 deriving DecidableEq
structure Pin where
 name:Bs
 v:Ver
 deriving DecidableEq
abbrev LP:=List Pin
structure Span where
 lo:Ver
 hi:Ver
 deriving DecidableEq
abbrev LS:=List Span
structure Dep where
 name:Bs
 range:LS
 deriving DecidableEq
abbrev LD:=List Dep
structure Pack where
 name:Bs
 v:Ver
 deps:LD
 peers:LD
 opt:LD
 deriving DecidableEq
structure Mani where
 deps:LD
 dev:LD
 opt:LD
 over:LD
 deriving DecidableEq
structure Want where
 name:Bs
 kind:Int
 range:LS
 deriving DecidableEq
def Ver.c(v:Ver):LV:=[vi v.ma,vi v.mi,vi v.pa]
def DG{α:Type}(n bytes:Nat)(f:α->LV)(ok:α->Prop)(hn:∀x,(f x).length=n)(h1:∀x,∀v∈f x,v.oneCell'=true):Enc α where
 n:=n
 bytes:=bytes
 rep:=λ_ _ x cs=>cs=f x/\ok x
 len:=λh=>by rw[h.1,hn]
 one:=λh=>by rw[h.1];exact h1 _
 mono:=λh _=>h
 keep:=λh _=>h
def Ac(s:Bs):Prop:=s.size<=maxLen
def Cd:Enc Int:=DG 1 8 (λx=>[vi x]) (λ_=>True) (λ_=>rfl) (λ_ v hv=>by simp at hv;subst hv;rfl)
def verE:Enc Ver:=DG 3 24 Ver.c (λ_=>True) (λ_=>rfl) (λ_ v hv=>by simp[Ver.c]at hv;rcases hv with rfl|rfl|rfl<;>rfl)
def spanE:Enc Span:=DG 6 48 (λs=>s.lo.c++s.hi.c) (λ_=>True) (λ_=>rfl) (λ_ v hv=>by simp[Ver.c]at hv;rcases hv with rfl|rfl|rfl|rfl|rfl|rfl<;>rfl)
def pinE:Enc Pin:=DG 4 40 (λp=>.string p.name::p.v.c) (λp=>Ac p.name) (λ_=>rfl) (λ_ v hv=>by simp[Ver.c]at hv;rcases hv with rfl|rfl|rfl|rfl<;>rfl)
def depE:Enc Dep where
 n:=2
 bytes:=40
 rep:=λw S d cs=>Ac d.name/\∃s,cs= [.string d.name,s.v]/\SlR spanE w S s d.range
 len:=λ⟨_,s,h,_⟩=>by rw[h];rfl
 one:=λ⟨_,s,h,_⟩ v hv=>by rw[h]at hv;simp[Sl.v]at hv;rcases hv with rfl|rfl<;>rfl
 mono:=λ⟨h0,s,h,hr⟩ hs=>⟨h0,s,h,hr.mono hs⟩
 keep:=λ⟨h0,s,h,hr⟩ hk=>⟨h0,s,h,hr.keep hk⟩
def packE:Enc Pack where
 n:=7
 bytes:=112
 rep:=λw S p cs=>Ac p.name/\∃d e o,cs= .string p.name::p.v.c++[Sl.v d,Sl.v e,Sl.v o]/\SlR depE w S d p.deps/\SlR depE w S e p.peers/\SlR depE w S o p.opt
 len:=λ⟨_,d,e,o,h,_⟩=>by rw[h];rfl
 one:=λ⟨_,d,e,o,h,_⟩ v hv=>by rw[h]at hv;simp[Sl.v,Ver.c]at hv;rcases hv with rfl|rfl|rfl|rfl|rfl|rfl|rfl<;>rfl
 mono:=λ⟨h0,d,e,o,h,a,b,c⟩ hs=>⟨h0,d,e,o,h,a.mono hs,b.mono hs,c.mono hs⟩
 keep:=λ⟨h0,d,e,o,h,a,b,c⟩ hk=>⟨h0,d,e,o,h,a.keep hk,b.keep hk,c.keep hk⟩
def O3:Enc Want where
 n:=3
 bytes:=48
 rep:=λw S d cs=>Ac d.name/\∃s,cs= [.string d.name,vi d.kind,s.v]/\SlR spanE w S s d.range
 len:=λ⟨_,s,h,_⟩=>by rw[h];rfl
 one:=λ⟨_,s,h,_⟩ v hv=>by rw[h]at hv;simp[Sl.v]at hv;rcases hv with rfl|rfl|rfl<;>rfl
 mono:=λ⟨h0,s,h,hr⟩ hs=>⟨h0,s,h,hr.mono hs⟩
 keep:=λ⟨h0,s,h,hr⟩ hk=>⟨h0,s,h,hr.keep hk⟩
def toList_data(a:Bs):a.toList=a.data.toList:=ByteArray.toList_eq a
def Gf(a:Bs):a.data.toList.length=a.size:=by rw[jt];rfl
def XU{a:Bs}(h:i<a.size):Ct a (i:Int)=((a.data.toList[i]'(by rw[Gf];exact h)).toNat:Int):=by rw[Ct,ko,ec,dt (by rw[Gf];exact h)];rfl
def Yf(p x y:LU):Op.bytesLess (p++x) (p++y)=Op.bytesLess x y:=by
 induction p with
 |nil=>rfl
 |cons a p ih=>show(decide (a<a)||(a==a&&Op.bytesLess (p++x) (p++y)))=_;rw[ih];simp
def Yr{old:Nat}(h:old<need):Builtin.nextslicecap need old=need\/Builtin.nextslicecap need old+2<=2*need:=by
 unfold Builtin.nextslicecap;split
 .exact .inl rfl
 .right;split
  .omega
  .rw[growBy_four]
   repeat' split
   all_goals omega
def Ys{old:Nat}(h:old<need):Builtin.nextslicecap need old<=need+(need+768)/4\/Builtin.nextslicecap need old<=512:=by
 unfold Builtin.nextslicecap;split
 .omega
 .split
  .omega
  .rw[growBy_four]
   repeat' split
   all_goals omega
def Ta{old bytes:Nat}(h:old<need)(hb:need*bytes<=Ab):Builtin.nextslicecap need old*bytes<=281474976710656:=by
 unfold Ab at hb;obtain h1|h1:=Yr h
 .rw[h1];omega
 .by_cases hB:1048576<=bytes
  .have h2:(Builtin.nextslicecap need old+2)*bytes<=2*need*bytes:=ij _ h1;rw[jx,Nat.mul_assoc]at h2;omega
  .obtain h3|h3:=Ys h
   .have h4:4*Builtin.nextslicecap need old*bytes<=(5*need+768)*bytes:=ij _ oM;have e1:4*Builtin.nextslicecap need old*bytes=4*(Builtin.nextslicecap need old*bytes):=Nat.mul_assoc _ _ _;have e2:(5*need+768)*bytes=5*(need*bytes)+768*bytes:=(by rw[jx,Nat.mul_assoc]);omega
   .have h4:Builtin.nextslicecap need old*bytes<=512*bytes:=ij _ h3;omega
def SD{ty e:TypeId}{i:TypeInfo}{z:Value}(ht:P.underlying t=some (.slice e))(hi:P.info? e=some i)(hz:i.zero=some z)(b8:z.cells.size=i.size)(c4:0<i.size)
  {v:Value}  {xs:LV} (ho:w.ownsRow lo e i.size v n xs)  {c:Nat} {news:LV} (hl:news.length=m*i.size) (hn:∀(j:Nat)(u:Value),news[j]?=some u->w.cell? (a.add j)=some u) (h1:∀u∈news,u.oneCell'=true)
  (hm:n+m<=maxLen) (hb:(n+m)*i.bytes<=Ab) (b5:lo<=w.heap.size):
  ∃v' w',(Builtin.append_ #[t,t] ty #[v,.slice (some a) m c]).run P w= .ok v' w'/\w'.ownsRow lo e i.size v' (n+m) (xs++news)/\w.grownBy w' v.ownBlock/\(v'.ownBlock=v.ownBlock\/v'.ownBlock=some w.heap.size):=by
 have b9:n+m<=9223372036854775807:=by rw[Al]at hm;exact hm
 have a0:(xs++news).length=(n+m)*i.size:=by rw[du,ho.1,hl,jx]
 have fresh:∀old:Nat,w.grownBy (w.drew.alloc (.cells (xs.toArray++news.toArray++Builtin.zeroCells z.cells (grownCap w (n+m) old e - (n+m))) e)) v.ownBlock/\
   (w.drew.alloc (.cells (xs.toArray++news.toArray++Builtin.zeroCells z.cells (grownCap w (n+m) old e - (n+m))) e)).ownsRow lo e i.size (.slice (some ⟨w.heap.size,0,none⟩) (n+m) (grownCap w (n+m) old e)) (n+m) (xs++news):=λold=>by
  have hc:=grownCap_ge w (n+m) old e;refine⟨⟨rfl,rfl,rfl,by simp,λb a6 _=>by first|exact heap_alloc_old w.drew _ a6|exact heap_alloc_old w.drew _ _ a6⟩,a0,.inr ⟨w.heap.size,_,_,rfl,b5,heap_alloc_new w.drew _,hc,grownCap_le_maxLen w (n+m) old e hm,?_,?_⟩⟩
  .have e1:(xs.toArray++news.toArray).size=(n+m)*i.size:=(by simpa using a0);rw[Array.size_append,e1,size_zeroCells,b8,<-jx];congr 1;omega
  .have e2:(xs.toArray++news.toArray++Builtin.zeroCells z.cells (grownCap w (n+m) old e - (n+m))).toList=(xs++news)++(Builtin.zeroCells z.cells (grownCap w (n+m) old e - (n+m))).toList:=(by simp);rw[e2,<-a0];exact nq
 rcases ho.2 with⟨rfl,rfl⟩|⟨g,cap,a5,rfl,b4,hg,c3,b0,b2,b7⟩
 .obtain rfl:xs=[]:=fj (by simpa using ho.1);obtain rfl|a9:=jq m
  .obtain rfl:news=[]:=fj (by simpa using hl);exact⟨.slice none 0 0,w,by simp[Builtin.append_,run_underlying ht,sizeOf,typeInfo,hi,Builtin.lenOf,Builtin.firstCells,loadCells,loadCellsFrom],World.ownsRow_nil w lo e i.size,⟨rfl,rfl,rfl,fm _,λ_ _ _=>rfl⟩,.inl rfl⟩
  .have hr:=run_append_nil (P:=P) w t ty e i z ht hi hz a m c news hl hn a9 oM (by unfold Ab at hb;rw[ke]at hb;omega);have hf:=fresh 0;simp only[ke,ig,Array.empty_append]at hf ⊢;exact⟨_,_,hr,hf.2,hf.1,.inr rfl⟩
 .by_cases a4:n+m<=cap
  .have a7:n*i.size+news.length<=a5.size:=(by rw[hl,b2,<-jx];exact ij _ a4);have hr:=run_append_room (P:=P) w t ty e i ht hi g n cap a5 hg a m c news hl hn h1 a4 a7;refine⟨_,_,hr,⟨a0,.inr ⟨g,cap,_,rfl,b4,setRow_heap w g a5 _ e _ hg,a4,b0,?_,?_⟩⟩,⟨rfl,rfl,rfl,by simp,λb _ b6=>setRow_other w g b _ (λh=>b6 (by rw[h];rfl))⟩,.inl rfl⟩
   .simp only[iv,du,fb,fx,jt];omega
   .rw[b7,<-a0];exact nq
  .have a8:∀(j:Nat)(u:Value),xs[j]?=some u->w.cell? ((⟨g,0,none⟩:Addr).add j)=some u:=ho.cells (g:=g) rfl;have hr:=run_append_grow (P:=P) w t ty e i z ht hi hz ⟨g,0,none⟩ n cap xs ho.1 a8 a m c news hl hn oM oM (Ta oM hb);have hf:=fresh cap;exact⟨_,_,hr,hf.2,hf.1,.inr rfl⟩
def B0(P:Program)(t e:TypeId)(n bytes:Nat):Prop:=P.underlying t=some (.slice e)/\∃i z,P.info? e=some i/\i.zero=some z/\i.size=n/\i.bytes=bytes/\z.cells.size=n/\0<n
def CD{e:TypeId}{bytes:Nat}{z:Value}(h1:P.underlying t=some (.slice e))(h2:(P.info? e).map (λi=>(i.zero,i.size,i.bytes))=some (some z,n,bytes))(h3:z.cells.size=n)(h4:0<n):B0 P t e n bytes:=by
 cases hi:P.info? e with
 |none=>rw[hi]at h2;cases h2
 |some i=>rw[hi]at h2;simp only[je,eu,Prod.mk.injEq]at h2;exact⟨h1,i,z,hi,h2.1,h2.2.1,h2.2.2,h3,h4⟩
structure OwnS{α:Type}(E:Enc α)(T:TypeId)(w:Wd)(lo:Nat)(S:Nat->Prop)(s:Sl)(l:List α):Prop where
 row:∃css:List (List Value),w.ownsRow lo T E.n s.v s.len css.flatten/\css.length=l.length/\∀(i:Nat)(x:α),l[i]?=some x->∃cs,css[i]?=some cs/\E.rep w S x cs
 len:s.len=l.length
 lt:∀b,S b->b<w.heap.size
 apart:∀ad,s.a=some ad-> ¬S ad.block
section
variable {α:Type} {E:Enc α} {T:TypeId} {w w':Wd} {lo:Nat} {S S':Nat->Prop} {s:Sl} {l:List α}
def OwnS.nil(w:Wd)(lo:Nat):OwnS E T w lo (λ_=>False) Sl.nil ([]:List α):=
 ⟨⟨[],World.ownsRow_nil _ _ _ _,rfl,λi x h=>by simp at h⟩,rfl,λ_ h=>h.elim,λ_ h=>by cases h⟩
def OwnS.block(h:OwnS E T w lo S s l){ad:Addr}(ha:s.a=some ad):lo<=ad.block/\ad.block<w.heap.size/\ad=⟨ad.block,0,none⟩:=by
 obtain⟨css,ho,_⟩:=h.row;have h1:=ho.lt ad.block (by simp[Value.ownBlock,Sl.v,ha]);refine⟨h1.1,h1.2,?_⟩;rcases ho.2 with⟨hv,_⟩|⟨g,cap,a0,hv,_⟩
 .simp[Sl.v,ha]at hv
 .simp[Sl.v,ha]at hv;rw[hv.1]
def OwnS.keep(h:OwnS E T w lo S s l)(a5:w.heap.size<=w'.heap.size)(hk:∀b,b<w.heap.size->(S b\/∃ad,s.a=some ad/\b=ad.block)->w'.heap[b]?=w.heap[b]?):OwnS E T w' lo S s l:=by
 obtain⟨css,ho,hl,hr⟩:=h.row;refine⟨⟨css,⟨ho.1,?_⟩,hl,λi x hx=>let⟨cs,h1,h2⟩:=hr i x hx;⟨cs,h1,E.keep h2 λb hb a4=>hk b a4 (.inl hb)⟩⟩,h.len,λb hb=>jd (h.lt b hb) a5,h.apart⟩;rcases ho.2 with h0|⟨g,cap,a0,hv,h1,h2,h3⟩
 .exact .inl h0
 .refine .inr ⟨g,cap,a0,hv,h1,?_,h3⟩;rw[hk g (lt_of_block h2) (.inr ⟨⟨g,0,none⟩,by simp[Sl.v]at hv;exact hv.1,rfl⟩)];exact h2
def OwnS.ext(h:OwnS E T w lo S s l)(hx:Ext w w'):OwnS E T w' lo S s l:=h.keep hx.size λb hb _=>hx.block hb
def OwnS.mono(h:OwnS E T w lo S s l)(hs:∀b,S b->S' b)(a4:∀b,S' b->b<w.heap.size)(a0:∀ad,s.a=some ad-> ¬S' ad.block):OwnS E T w lo S' s l:=by obtain⟨css,ho,hl,hr⟩:=h.row;exact⟨⟨css,ho,hl,λi x hx=>let⟨cs,h1,h2⟩:=hr i x hx;⟨cs,h1,E.mono h2 hs⟩⟩,h.len,a4,a0⟩
def Nx{css:List (List Value)}(hn:∀cs∈css,cs.length=n)(hi:css[i]?=some cs){j:Nat}{v:Value}(hj:cs[j]?=some v):css.flatten[i*n+j]?=some v:=by
 induction css generalizing i with
 |nil=>simp at hi
 |cons c r ih=>
  have hc:c.length=n:=hn c (jj ..);cases i with
  |zero=>simp only[ja,eu]at hi;subst hi;have a0:j<c.length:=(fh.1 hj).1;rw[jc,lu,ke,fy a0];exact hj
  |succ i=>rw[oz]at hi;have:=ih (λcs h=>hn cs (mc _ h)) hi;rw[jc,gp (by rw[hc,jx];omega)];rw[show(i+1)*n+j - c.length=i*n+j by rw[hc,jx];omega];exact this
def OwnS.read(h:OwnS E T w lo S s l)(hb:l.length*E.bytes<=Ab)(hm:l.length<=maxLen):SlR E w (λb=>S b\/∃ad,s.a=some ad/\b=ad.block) s l:=by
 obtain⟨css,ho,hl,hr⟩:=h.row;rcases ho.2 with⟨hv,hn⟩|⟨g,cap,a9,hv,hg,hh,hc,a6,a5,ht⟩
 .have h0:l=[]:=fj (by rw[<-h.len];exact hn);subst h0;simp[Sl.v]at hv;exact⟨h.len,by simp,by rw[hv.2.2];exact gn _,hb,.inl rfl⟩
 .simp[Sl.v]at hv;obtain⟨ha,a4⟩:=hv;subst a4;refine⟨h.len,by rw[<-h.len];exact hc,a6,hb,.inr ⟨_,ha,.inr ⟨_,ha,rfl⟩,λi x hx=>?_⟩⟩;obtain⟨cs,h1,h2⟩:=hr i x hx;refine⟨cs,E.mono h2 λ_ h=>.inl h,λj v hj=>?_⟩;have a0:∀cs∈css,cs.length=E.n:=by
   intro cs a5;obtain⟨k,hk,he⟩:=fp.1 a5;have a7:k<l.length:=by rw[<-hl];exact hk
   obtain⟨a8,h3,h4⟩:=hr k _ (dt a7);rw[dt hk,he,eu]at h3;rw[h3];exact E.len h4
  rw[CX];exact ho.cells (g:=g) (by simp[Value.ownBlock,Sl.v,ha]) _ _ (Nx a0 h1 hj)
def OwnS.app{e:TypeId}{k:Sl->Wp}{x:α}(h:OwnS E e w lo S s l)(hT:B0 P t e E.n E.bytes)(d0:lo<=w.heap.size)(hx:E.rep w S' x cs)(hc:ldc w a cs)(b5:∀b,S' b->b<w.heap.size)(b6:∀ad,s.a=some ad-> ¬S' ad.block)
  (hb:(l.length+1)*E.bytes<=Ab) (hm:l.length+1<=maxLen)
  (hk:∀(r:Sl)(w':Wd),OwnS E e w' lo (λb=>S b\/S' b) r (l++[x])->w.heap.size<=w'.heap.size->w'.os=w.os->w'.tape=w.tape->w'.output=w.output->
   (∀b,b<w.heap.size->(∀ad,s.a=some ad->b≠ad.block)->w'.heap[b]?=w.heap[b]?)->(∀ad,r.a=some ad->(s.a=some ad\/w.heap.size<=ad.block))->k r w'):appS P t t s (Sl.v ⟨some a,1,1⟩) w k:=by
 intro ty;obtain⟨css,ho,hl,hr⟩:=h.row;obtain⟨ht,i,z,hi,hz,a8,c8,d4,d1⟩:=hT;have b9:=E.len hx;have c3:=h.len;obtain⟨v',w',c5,a6,a5,b7⟩:=SD (P:=P) (ty:=ty) (m:=1) (c:=1) ht hi hz (by rw[a8];exact d4) (by rw[a8];exact d1) (by rw[a8];exact ho) (by rw[a8,b9,Nat.one_mul]) (λj u hj=>hc j u hj) (E.one hx) oM (by rw[c3,c8];exact hb) d0;rw[a8]at a6;have d3:∃r:Sl,v'=r.v/\r.len=s.len+1:=by
  rcases a6.2 with⟨hv,hn⟩|⟨g,cap,c7,hv,_⟩
  .omega
  .exact⟨⟨_,_,_⟩,hv,rfl⟩
 obtain⟨r,rfl,c4⟩:=d3;have b0:∀ad,r.a=some ad->(s.a=some ad\/w.heap.size<=ad.block):=by
  intro ad a7;have a4:s.v.ownBlock=some ad.block\/w.heap.size<=ad.block:=by
   have h0:r.v.ownBlock=some ad.block:=(by simp[Value.ownBlock,Sl.v,a7]);obtain hb|hb:=b7
   .left;rw[<-hb];exact h0
   .right;rw[h0,eu]at hb;omega
  obtain a4|a4:=a4
  .left;have h2:ad=⟨ad.block,0,none⟩:=by
    rcases a6.2 with⟨hv,_⟩|⟨g,cap,c7,hv,_⟩
    .simp[Sl.v,a7]at hv
    .simp[Sl.v,a7]at hv;rw[hv.1]
   cases hsa:s.a with
   |none=>simp[Value.ownBlock,Sl.v,hsa]at a4
   |some d5=>simp[Value.ownBlock,Sl.v,hsa]at a4;have:=(h.block hsa).2.2;rw[this,a4,<-h2]
  .exact .inr a4
 refine⟨_,w',c5,r,rfl,hk r w' ?_ a5.size a5.os a5.tape a5.output ?_ b0⟩
 .have a9:∀b,b<w.heap.size->(S b\/S' b)->w'.heap[b]?=w.heap[b]? :=λb b2 a0=>by
   refine a5.block b b2 ?_;simp only[Value.ownBlock,Sl.v];cases hsa:s.a with
   |none=>simp
   |some ad=>
    simp only[ne_eq,eu];rintro rfl;obtain a0|a0:=a0
    .exact h.apart _ hsa a0
    .exact b6 _ hsa a0
  refine⟨⟨css++[cs],?_,by simp[hl],λj y hj=>?_⟩,by simp[c4,c3],λb a0=>?_,λad a7 a0=>?_⟩
  .rw[c4,js];simpa using a6
  .rw[me]at hj;split at hj
   .rename_i c9;obtain⟨c6,h1,h2⟩:=hr j y hj;exact⟨c6,by rw[fy oM];exact h1,E.keep (E.mono h2 λ_ h=>.inl h) λb hb b4=>a9 b b4 hb⟩
   .rename_i c9;have b8:j - l.length=0:=by
     rcases jq (j - l.length)with h0|h0
     .exact h0
     .rw[il (by simp;omega)]at hj;cases hj
    rw[b8]at hj;simp only[ja,eu]at hj;subst hj;exact⟨cs,by rw[gp oM,hl,b8];rfl,E.keep (E.mono hx λ_ h=>.inr h) λb hb b4=>a9 b b4 hb⟩
  .have:b<w.heap.size:=by
    obtain a0|a0:=a0
    .exact h.lt b a0
    .exact b5 b a0
   have:=a5.size;omega
  .obtain h1|h1:=b0 ad a7
   .obtain a0|a0:=a0
    .exact h.apart ad h1 a0
    .exact b6 ad h1 a0
   .have:ad.block<w.heap.size:=by
     obtain a0|a0:=a0
     .exact h.lt _ a0
     .exact b5 _ a0
    omega
 .intro b b2 d2;refine a5.block b b2 ?_;simp only[Value.ownBlock,Sl.v];cases hsa:s.a with
  |none=>simp
  |some ad=>simp only[ne_eq,eu];exact d2 ad hsa
def OwnS.push{e:TypeId}{k:Sl->Wp}{x:α}(h:OwnS E e w lo S s l)(hT:B0 P t e E.n E.bytes)(a5:lo<=w.heap.size)(hx:E.rep w S' x cs)(hc:ldc w a cs)(a0:∀b,S' b->b<w.heap.size)(a4:∀ad,s.a=some ad-> ¬S' ad.block)
  (hb:(l.length+1)*E.bytes<=Ab) (hm:l.length+1<=maxLen)
  (hk:∀(r:Sl)(w':Wd),OwnS E e w' lo (λb=>S b\/S' b) r (l++[x])->Below lo w w'->(∀b,b<w.heap.size->(∀ad,s.a=some ad->b≠ad.block)->w'.heap[b]?=w.heap[b]?)->(∀ad,r.a=some ad->(s.a=some ad\/w.heap.size<=ad.block))->k r w'):appS P t t s (Sl.v ⟨some a,1,1⟩) w k:=
 h.app hT a5 hx hc a0 a4 hb hm λr w' h1 h2 h3 h4 h5 h6 h7=>hk r w' h1 ⟨h3,h4,h5,h2,λb hb=>h6 b oM λad ha e=>by have:=(h.block ha).1;omega⟩ h6 h7
end
def callX.intro{f:FuncId}{args:LV}{k:Value->Wp}(h:callS P f args w λv w'=>Ext w w'/\k v w'):callX P f args w k:=h
def Old(S:Nat->Prop)(w:Wd):Prop:=∀b,S b->b<w.heap.size
def Old.ext(h:Old S w)(hx:w.heap.size<=w'.heap.size):Old S w':=λb hb=>jd (h b hb) hx
def bnd.drew{k:Wp}(h:∀w',Ext w w'->k w'):bnd w.drew k:=λ_ e=>h _ (e▸Ext.drew w)
def ldc.pre(h:ldc w a cs)(hp:cs=cs'++r):ldc w a cs':=λj v hj=>h j v (by subst hp;rw[fy (fh.1 hj).1];exact hj)
def ldc.mid{k:Nat}(h:ldc w a cs)(hp:cs.drop k=cs'++r):ldc w (a.add k) cs':=λj v hj=>by rw[CX];refine h (k+j) v ?_;rw[<-lh,hp,fy (fh.1 hj).1];exact hj
def BoxAt.at0(h:BoxAt w a cs)(hx:Ext w w')(hp:cs=cs'++r):Go.Hal.ldc w' a cs':=(h.ext hx).ldc.pre hp
def BoxAt.at1{k:Nat}(h:BoxAt w a cs)(hx:Ext w w')(hp:cs.drop k=cs'++r):Go.Hal.ldc w' (a.add k) cs':=(h.ext hx).ldc.mid hp
def gCall.intro{τ:Type}{g:Bool}{k:τ->Wp}{A:(τ->Wp)->Prop}{d:τ}(val:τ)(hA:g=true->∀q:τ->Wp,(∀w',Ext w w'->q val w')->A q)
  (hk:∀t w',Ext w w'->(g=true->t=val)->k t w'):gCall g k A (λq=>q d w):=
 ⟨λhg=>hA hg _ λw' hx=>hk _ _ hx λ_=>rfl,λhg=>hk _ _ xR λh=>by rw[hg]at h;cases h⟩
def stw0.intro{old:LV}{k:Wp}(hb:BoxAt w a old)(hl:cs.length<=old.length)(h:∀w',But a.block w w'->w'.heap.size=w.heap.size->BoxAt w' a (cs++old.drop cs.length)->k w'):stw w a cs k:=by have:=stw.intro (o:=0) (cs:=cs) (k:=k) hb oM λw' h1 h2 h3=>h w' h1 h2 (by simpa using h3);simpa[add_zero]using this
def But.ext(h:But g w w')(hx:Ext w0 w)(hg:w0.heap.size<=g):Ext w0 w':=hx.trans' (h.below hx.size hg)
def bound{α:Sort _}{x:α}{k:α->Prop}(h:k x):bnd x k:=λ_ e=>e▸h
def loop1.up{body:Int->Wd->(Int->Wp)->Prop}{N:Nat}(hN:N<=maxLen)(I:Nat->Wp)(h0:I 0 w)
  (hs:∀(n:Nat) w' (a4:Int->Wp),n<=N->I n w'->(n<N->∀a0,I (n+1) a0->a4 (Aa ((n:Int)+1)) a0)->body n w' a4):loop1 0 w body:=
 ⟨λi w'=>∃n:Nat,i=n/\n<=N/\I n w',λi _=>N - i.toNat,⟨0,rfl,gn _,h0⟩,λi w' ⟨n,hi,hn,hI⟩=>by subst hi;refine hs n w' _ hn hI λa5 a0 h=>?_;rw[Jn (n:=N) oM oM hN];exact⟨⟨n+1,oM,oM,h⟩,by show N - ((n:Int)+1).toNat<N - (n:Int).toNat;omega⟩⟩
def loop2.up{α:Type}{a:α}{body:α->Int->Wd->(α->Int->Wp)->Prop}{N:Nat}(hN:N<=maxLen)(I:α->Nat->Wp)(h0:I a 0 w)
  (hs:∀(a:α) (n:Nat) w' (a4:α->Int->Wp),n<=N->I a n w'->(n<N->∀a' a0,I a' (n+1) a0->a4 a' (Aa ((n:Int)+1)) a0)->body a n w' a4):loop2 a 0 w body:=
 ⟨λa i w'=>∃n:Nat,i=n/\n<=N/\I a n w',λ_ i _=>N - i.toNat,⟨0,rfl,gn _,h0⟩,λa i w' ⟨n,hi,hn,hI⟩=>by subst hi;refine hs a n w' _ hn hI λa5 a' a0 h=>?_;rw[Jn (n:=N) oM oM hN];exact⟨⟨n+1,oM,oM,h⟩,by show N - ((n:Int)+1).toNat<N - (n:Int).toNat;omega⟩⟩
def SlR.max{α:Type}{E:Enc α}{l:List α}(h:SlR E w S s l):l.length<=maxLen:=fe h.2.1 h.2.2.1
def SlR.el{α:Type}{E:Enc α}{l:List α}(h:SlR E w S s l)(hn:n<l.length):
  ∃ad cs,s.a=some ad/\S ad.block/\E.rep w S l[n] cs/\∀w',Ext w w'->ldc w' (ad.add (n*E.n)) cs:=by
 obtain⟨ad,cs,h1,h2,h3,h4⟩:=h.get (dt hn);exact⟨ad,cs,h1,h2,h3,λw' hx=>h4.ext hx⟩
def EQ{l:LS}(h:SlR spanE w S s l)(hn:n<l.length):
  ∃ad,s.a=some ad/\S ad.block/\∀w',Ext w w'->ldc w' (ad.add (n*6)) [.int .i64 l[n].lo.ma,.int .i64 l[n].lo.mi,.int .i64 l[n].lo.pa,.int .i64 l[n].hi.ma,.int .i64 l[n].hi.mi,.int .i64 l[n].hi.pa]:=by
 obtain⟨ad,cs,h1,h2,⟨rfl,_⟩,h4⟩:=h.el hn;exact⟨ad,h1,h2,h4⟩
def BD{l:LD}(h:SlR depE w S s l)(hn:n<l.length):
  ∃ad t,s.a=some ad/\S ad.block/\Ac l[n].name/\SlR spanE w S t l[n].range/\∀w',Ext w w'->ldc w' (ad.add (n*2)) [.string l[n].name,t.v]:=by
 obtain⟨ad,cs,h1,h2,⟨h0,t,rfl,h5⟩,h4⟩:=h.el hn;exact⟨ad,t,h1,h2,h0,h5,h4⟩
def join.intro{τ:Sort _}{R:τ}{b:τ->Prop}(h:b R):join R b:=h
def join.named{τ:Sort _}{R:τ}{b:τ->Prop}(h:∀J,J=R->b J):join R b:=h R rfl
def None':Nat->Prop:=λ_=>False
def OwnS.zero{α:Type}{E:Enc α}{T:TypeId}(w:Wd):OwnS E T w w.heap.size None' Sl.nil ([]:List α):=OwnS.nil _ _
def OwnS.pushF{α:Type}{E:Enc α}{e:TypeId}{l:List α}{x:α}{k:Sl->Wp}(h:OwnS E e w w0.heap.size None' s l)(x0:Ext w0 w)(hT:B0 P t e E.n E.bytes)
  (hx:E.rep w None' x cs) (hc:ldc w a cs) (h1:1<=E.bytes) (hb:(l.length+1)*E.bytes<=Ab) (hk:∀r w',OwnS E e w' w0.heap.size None' r (l++[x])->Ext w0 w'->k r w'):appS P t t s (Sl.v ⟨some a,1,1⟩) w k:=by
 have hm:l.length+1<=maxLen:=by have:(l.length+1)*1<=(l.length+1)*E.bytes:=qa _ h1;rw[Al];unfold Ab at hb;omega
 exact h.push hT x0.size hx hc (λ_ h=>h.elim) (λ_ _ h=>h.elim) hb hm λr w' own bel _ _=>hk r w' (own.mono (λ_ h=>h.elim id id) (λ_ h=>h.elim) (λ_ _ h=>h.elim)) (x0.trans' bel)
def OwnS.readF{α:Type}{E:Enc α}{T:TypeId}{l:List α}(h:OwnS E T w lo None' s l)(h1:1<=E.bytes)(hb:l.length*E.bytes<=Ab):SlR E w (λb=>lo<=b) s l:=by
 have hm:l.length<=maxLen:=by have:l.length*1<=l.length*E.bytes:=qa _ h1;rw[Al];unfold Ab at hb;omega
 refine(h.read hb hm).mono λb hb=>?_;rcases hb with hb|⟨ad,ha,rfl⟩
 .exact hb.elim
 .exact(h.block ha).1
def rkE:Enc (Int×Int):=DG 2 16 (λx=>[vi x.1,vi x.2]) (λ_=>True) (λ_=>rfl) (λ_ v hv=>by simp at hv;rcases hv with rfl|rfl<;>rfl)
def strE:Enc Bs:=DG 1 16 (λx=>[.string x]) (λx=>Ac x) (λ_=>rfl) (λ_ v hv=>by simp at hv;subst hv;rfl)
def Ob{l:List (Int×Int)}(h:SlR rkE w S s l)(hn:n<l.length):
  ∃ad,s.a=some ad/\S ad.block/\∀w',Ext w w'->ldc w' (ad.add (n*2)) [.int .i64 l[n].1,.int .i64 l[n].2]:=by
 obtain⟨ad,cs,h1,h2,⟨rfl,_⟩,h4⟩:=h.el hn;exact⟨ad,h1,h2,h4⟩
def G8(b j:Nat):Addr.add ⟨b,0,none⟩ j=⟨b,j,none⟩:=by unfold Addr.add;split<;>simp_all
def Ext.but(h:Ext w w')(g:Nat):But g w w':=⟨h.size,h.os,h.tape,h.output,λb hb _=>h.block hb⟩
def But.trans{a b c:Wd}(h:But g a b)(k:But g b c):But g a c:=
 ⟨fe h.1 k.1,k.2.1.trans h.2.1,k.2.2.1.trans h.2.2.1,k.2.2.2.1.trans h.2.2.2.1,λx hx a0=>(k.2.2.2.2 x (by have:=h.1;omega) a0).trans (h.2.2.2.2 x hx a0)⟩
end Go.Hal
namespace Go.Hal
structure Ord3{α:Type}(c:α->α->Int):Prop where
 flip:∀x y,c x y<0↔0<c y x
 trans:∀x y z,c x y<=0->c y z<=0->c x z<=0
def Ah{α:Type}(c:α->α->Int)(x y:α×Nat):Prop:=c x.1 y.1<0\/(c x.1 y.1=0/\x.2<y.2)
section
variable {α:Type} {c:α->α->Int}
def Ord3.zero(h:Ord3 c){x y:α}:c x y=0↔c y x=0:=by have h1:=h.flip x y;have h2:=h.flip y x;constructor<;>intro h0<;>omega
def Ord3.lt_of(h:Ord3 c){x y z:α}(h1:c x y<0)(h2:c y z<=0):c x z<0:=by
 have a0:=h.trans x y z oM h2;obtain h3|h3:=Int.lt_or_eq_of_le a0
 .exact h3
 .exfalso;have h4:=h.trans y z x h2 (by rw[h.zero.1 h3];exact mo _);have:=(h.flip x y).1 h1;omega
def Ord3.lt_of'(h:Ord3 c){x y z:α}(h1:c x y<=0)(h2:c y z<0):c x z<0:=by
 have a0:=h.trans x y z h1 oM;obtain h3|h3:=Int.lt_or_eq_of_le a0
 .exact h3
 .exfalso;have h4:=h.trans z x y (by rw[h.zero.1 h3];exact mo _) h1;have:=(h.flip y z).1 h2;omega
def Ah.trans(h:Ord3 c){x y z:α×Nat}(h1:Ah c x y)(h2:Ah c y z):Ah c x z:=by
 rcases h1 with h1|⟨h1,a0⟩<;>rcases h2 with h2|⟨h2,a4⟩
 .exact .inl (h.lt_of h1 oM)
 .exact .inl (h.lt_of h1 oM)
 .exact .inl (h.lt_of' oM h2)
 .refine .inr ⟨?_,oM⟩;have a:=h.trans _ _ _ (show c x.1 y.1<=0 by omega) (show c y.1 z.1<=0 by omega);have b:=h.trans _ _ _ (show c z.1 y.1<=0 by rw[h.zero.1 h2];omega) (show c y.1 x.1<=0 by rw[h.zero.1 h1];omega);have:=h.flip z.1 x.1;have:=h.flip x.1 z.1;omega
def Ah.not(h:Ord3 c){x y:α×Nat}(h1:Ah c x y): ¬Ah c y x:=λh2=>by
 rcases h1 with h1|⟨h1,a0⟩<;>rcases h2 with h2|⟨h2,a4⟩
 .have:=(h.flip _ _).1 h1;omega
 .have:=h.zero.1 h2;omega
 .have:=h.zero.1 h1;omega
 .omega
def Ah.right(h:Ord3 c){x y:α×Nat}(hi:x.2<y.2):(c y.1 x.1<0->Ah c y x)/\(¬c y.1 x.1<0->Ah c x y):=
 ⟨λh1=>.inl h1,λh1=>by
  have h2:=h.flip y.1 x.1;have h3:=h.flip x.1 y.1;by_cases h0:c x.1 y.1=0
  .exact .inr ⟨h0,hi⟩
  .exact .inl oM⟩
def Ci(c:α->α->Int)(x:α):List α->List α
 | []=>[x]
 |y::r=>if c x y<=0 then x::y::r else y::Ci c x r
def Bw(c:α->α->Int):List α->List α
 | []=>[]
 |x::r=>Ci c x (Bw c r)
def Wn(x:α)(l:List α):(Ci c x l).Perm (x::l):=by
 induction l with
 |nil=>exact jf _
 |cons y r ih=>
  unfold Ci;split
  .exact jf _
  .exact(ih.cons y).trans (List.Perm.swap x y r)
def Gm(l:List α):(Bw c l).Perm l:=by
 induction l with
 |nil=>exact jf _
 |cons x r ih=>exact(Wn x _).trans (ih.cons x)
def DZ:Nat->List α->List (α×Nat)
 |_,[]=>[]
 |k,x::r=>(x,k)::DZ (k+1) r
def cN(c:α->α->Int)(x y:α×Nat):Int:=c x.1 y.1
def Qr(k:Nat)(l:List α):(DZ k l).map Prod.fst=l:=by
 induction l generalizing k with
 |nil=>rfl
 |cons x r ih=>simp[DZ,ih]
def Zfa(k:Nat)(l:List α):∀x∈DZ k l,k<=x.2/\x.2<k+l.length:=by
 induction l generalizing k with
 |nil=>intro x h;cases h
 |cons a r ih=>
  intro x h;obtain rfl|h:=ga.1 h
  .simp
  .have:=ih (k+1) x h;simp;omega
def Vd(k:Nat)(l:List α):(DZ k l).length=l.length:=by
 induction l generalizing k with
 |nil=>rfl
 |cons x r ih=>simp[DZ,ih]
def Qs(k:Nat)(l:List α):(DZ k l).Pairwise λx y=>x.2<y.2:=by
 induction l generalizing k with
 |nil=>exact .nil
 |cons a r ih=>refine .cons (λx h=>?_) (ih _);have:=(Zfa (k+1) r x h).1;show k<x.2;omega
def Zje(x:α×Nat)(l:List (α×Nat)):(Ci (cN c) x l).map Prod.fst=Ci c x.1 (l.map Prod.fst):=by
 induction l with
 |nil=>rfl
 |cons y r ih=>
  have e:cN c x y=c x.1 y.1:=rfl;by_cases h:c x.1 y.1<=0
  .rw[Ci,if_pos (by rw[e];exact h)];simp only[ib];rw[Ci,if_pos h]
  .rw[Ci,if_neg (by rw[e];exact h)];simp only[ib];rw[Ci,if_neg h,ih]
def Wo(l:List (α×Nat)):(Bw (cN c) l).map Prod.fst=Bw c (l.map Prod.fst):=by
 induction l with
 |nil=>rfl
 |cons x r ih=>simp only[Bw,ib,Zje,ih]
def Zjg(h:Ord3 c){x:α×Nat}{l:List (α×Nat)}(hl:l.Pairwise (Ah c))(hx:∀y∈l,x.2<y.2):(Ci (cN c) x l).Pairwise (Ah c):=by
 induction l with
 |nil=>exact kj _ _
 |cons y r ih=>
  obtain⟨h1,h2⟩:=ic.1 hl;have a0:=hx y (.head _);unfold Ci;split
  .rename_i hc;have hc:c x.1 y.1<=0:=hc;have a:Ah c x y:=by
    obtain h3|h3:=Int.lt_or_eq_of_le hc
    .exact .inl h3
    .exact .inr ⟨h3,a0⟩
   refine .cons (λz hz=>?_) hl;obtain rfl|hz:=ga.1 hz
   .exact a
   .exact a.trans h (h1 z hz)
  .rename_i hc;have hc: ¬c x.1 y.1<=0:=hc;refine .cons (λz hz=>?_) (ih h2 λy hy=>hx y (.tail _ hy));rcases ga.1 ((Wn x r).mem_iff.1 hz)with rfl|hz
   .exact .inl ((h.flip _ _).2 oM)
   .exact h1 z hz
def Wr(h:Ord3 c){l:List (α×Nat)}(hl:l.Pairwise λx y=>x.2<y.2):(Bw (cN c) l).Pairwise (Ah c):=by
 induction l with
 |nil=>exact .nil
 |cons x r ih=>obtain⟨h1,h2⟩:=ic.1 hl;exact Zjg h (ih h2) λy hy=>h1 y ((Gm r).mem_iff.1 hy)
def Ja{β:Type}{R:β->β->Prop}(hn:∀x y,R x y-> ¬R y x):∀{l m:List β},l.Pairwise R->m.Pairwise R->l.Perm m->l=m
 | [],m,_,_,hp=>(List.nil_perm.1 hp).symm
 |x::r,[],_,_,hp=>(List.perm_nil.1 hp)
 |x::r,y::s,h1,h2,hp=>by
  obtain⟨a1,a2⟩:=ic.1 h1;obtain⟨b1,b2⟩:=ic.1 h2;have e:x=y:=by
   rcases ga.1 (hp.mem_iff.1 (.head _))with e|hx
   .exact e
   .rcases ga.1 (hp.mem_iff.2 (jj (a:=y) (l:=s)))with e|hy
    .exact e.symm
    .exact absurd (b1 x hx) (hn _ _ (a1 y hy))
  subst e;rw[Ja hn a2 b2 (List.perm_cons x |>.1 hp)]
def Zji(h:Ord3 c){l:List α}{m:List (α×Nat)}(hp:m.Perm (DZ 0 l))(hs:m.Pairwise (Ah c)):m.map Prod.fst=Bw c l:=by have:=Ja (λx y h1=>Ah.not h h1) hs (Wr h (Qs 0 l)) (hp.trans (Gm _).symm);rw[this,Wo,Qr]
def Zjj(h:Ord3 c)(l:List α):(Bw c l).Pairwise λx y=>c x y<=0:=by have:=Wr h (Qs 0 l);have e:=Wo (c:=c) (DZ 0 l);rw[Qr]at e;rw[<-e,iq];refine this.imp λ{x y} h=>?_;rcases h with h|h<;>omega
end
def sg{α:Type}(z:List α)(i n:Nat):List α:=(z.drop i).take n
def VU{α:Type}(z:List α)(i n:Nat):z=z.take i++sg z i n++z.drop (i+n):=by unfold sg;rw[fg,<-jw,fo,fo]
def EK{α:Type}{A M B:List α}(h:i+n<=A.length):sg (A++M++B) i n=sg A i n:=by unfold sg;rw[fg,ky oM,nc (by rw[fx];omega)]
def Rc{α:Type}{A M B:List α}(h:A.length=i)(hn:M.length=n):sg (A++M++B) i n=M:=by subst h;subst hn;unfold sg;rw[fg,List.drop_left,nq]
def Rb{α:Type}{A M:List α}(h:A.length=i)(hn:M.length<=n):sg (A++M) i n=M:=by subst h;unfold sg;rw[List.drop_left,gj hn]
def Hp{α:Type}{z:List α}(h:z.length<=i):sg z i n=[]:=by unfold sg;rw[jp h];simp
def Oh{α:Type}{z:List α}(h:i+n<=z.length):(sg z i n).length=n:=by unfold sg;rw[fb,fx];omega
def Ra{α:Type}{z:List α}:sg z i (n+m)=sg z i n++sg z (i+n) m:=by unfold sg;rw[List.take_add,jw]
def VT{α:Type}{z:List α}{x:α}(h:x∈sg z i n):∃j,∃hj:j<z.length,i<=j/\j<i+n/\z[j]=x:=by obtain⟨k,hk,rfl⟩:=fp.1 h;unfold sg at hk ⊢;rw[fb,fx]at hk;exact⟨i+k,oM,oM,oM,by rw[jh,kf]⟩
structure Chunks{α:Type}(c:α->α->Int)(n:Nat)(z z0:List (α×Nat))(k:Nat):Prop where
 perm:∀i<k,(sg z (i*n) n).Perm (sg z0 (i*n) n)
 sort:∀i<k,(sg z (i*n) n).Pairwise (Ah c)
def N5{j:Nat}(h:i+j<9223372036854775808):Go.IntKind.wrap .i64 (Int.fdiv (Go.IntKind.wrap .u64 (Aa ((i:Int)+(j:Int)))) (2 ^ 1))=(((i+j)/2:Nat):Int):=by
 rw[Ag oM oM];have e1:Go.IntKind.wrap .u64 ((i:Int)+(j:Int))=(i:Int)+(j:Int):=by simp only[Go.IntKind.wrap,Go.IntKind.bits,Go.IntKind.signed,Bool.false_and,mg,if_false];omega
 rw[e1];have e2:Int.fdiv ((i:Int)+(j:Int)) (2 ^ 1)=(((i+j)/2:Nat):Int):=by rw[Int.fdiv_eq_ediv_of_nonneg _ dC];omega
 rw[e2];exact Ag oM oM
end Go.Hal
namespace Go.Hal
def CE{α β:Type}{k:Nat}(f:α->List β)(hk:∀x,(f x).length=k)(l:List α):((l.map f).flatten).length=l.length*k:=by
 induction l with
 |nil=>simp
 |cons a l ih=>simp[ih,hk,jx,Nat.add_comm]
def RowB{α:Type}(f:α->LV)(w:Wd)(g:Nat)(l:List α)(tail:LV):Prop:=BoxAt w ⟨g,0,none⟩ ((l.map f).flatten++tail)
section
variable {α:Type} {f:α->LV} {k:Nat} {w w':Wd} {g:Nat} {l:List α} {tail:LV}
def RowB.ext(h:RowB f w g l tail)(hx:Ext w w'):RowB f w' g l tail:=BoxAt.ext h hx
def RowB.lt(h:RowB f w g l tail):g<w.heap.size:=BoxAt.lt h
def RowB.but{b:Nat}(h:RowB f w g l tail)(hb:But b w w')(a0:g≠b):RowB f w' g l tail:=hb.box h a0
def Ke(i:Nat)(hi:i<l.length)(tail:LV):
  (l.map f).flatten++tail=(((l.take i).map f).flatten)++f l[i]++(((l.drop (i+1)).map f).flatten++tail):=by
 have h:l=l.take i++l[i]::l.drop (i+1):=by rw[<-fu hi,fo]
 have h2:(l.map f).flatten=((l.take i).map f).flatten++(f l[i]++((l.drop (i+1)).map f).flatten):=by
  conv=>lhs;rw[h]
  rw[fq,ib,js,jc]
 rw[h2];simp only[fg]
def PT(hk:∀x,(f x).length=k)(hi:i<l.length):(((l.take i).map f).flatten).length=i*k:=by rw[CE f hk,fb,ju oM]
def RowB.ld(hk:∀x,(f x).length=k)(h:RowB f w g l tail)(hi:i<l.length):ldc w ((⟨g,0,none⟩:Addr).add (i*k)) (f l[i]):=by refine BoxAt.at1 h xR (r:=((l.drop (i+1)).map f).flatten++tail) ?_;have hl:=PT hk hi;rw[Ke i hi,fg,ky (by rw[hl];exact fm _),jp (by rw[hl];exact fm _),ig]
def RowB.ld'(hk:∀x,(f x).length=k)(h:RowB f w g l tail){x:α}(hi:l[i]?=some x):ldc w ((⟨g,0,none⟩:Addr).add (i*k)) (f x):=by obtain⟨h1,rfl⟩:=fh.1 hi;exact h.ld hk h1
def RowB.st(hk:∀x,(f x).length=k)(h:RowB f w g l tail)(hi:i<l.length){x:α}{K:Wp}(hK:∀w',But g w w'->RowB f w' g (l.set i x) tail->K w'):stw w ((⟨g,0,none⟩:Addr).add (i*k)) (f x) K:=by
 have a0:=PT hk hi;have e:=Ke (f:=f) i hi tail;refine stw.intro (o:=i*k) (old:=(l.map f).flatten++tail) h (by rw[e,hk];simp only[du,a0,hk];omega) λw' hb hs hx=>hK w' hb ?_;have e2:=Ke (f:=f) (l:=l.set i x) i (by simpa using hi) tail;have e3:((l.map f).flatten++tail).take (i*k)++f x++((l.map f).flatten++tail).drop (i*k+(f x).length)=((l.set i x).map f).flatten++tail:=by
  rw[e2,e,hk];have t1:(((l.take i).map f).flatten++f l[i]++(((l.drop (i+1)).map f).flatten++tail)).take (i*k)=((l.take i).map f).flatten:=by rw[fg,nc (by rw[a0];exact fm _),gj (by rw[a0];exact fm _)]
  have t2:(((l.take i).map f).flatten++f l[i]++(((l.drop (i+1)).map f).flatten++tail)).drop (i*k+k)=((l.drop (i+1)).map f).flatten++tail:=by rw[ky (by simp only[du,a0,hk];omega),jp (by simp only[du,a0,hk];omega),ig]
  have t3:(l.set i x).take i=l.take i:=by rw[od nR]
  have t4:(l.set i x).drop (i+1)=l.drop (i+1):=by rw[og oM]
  rw[t1,t2,t3,t4,nj]
 unfold RowB;rw[<-e3];exact hx
end
def W4{α:Type}(A B:List α)(y x:α):((A++y::x::B).set (A.length+1) y).set A.length x=A++x::y::B:=by simp[List.set_append]
def Zjw{α:Type}(A B:List α)(y x:α):((A++y::x::B).set A.length x).set (A.length+1) y=A++x::y::B:=by simp[List.set_append]
def Zjx{α:Type}(A B C:List α)(x y:α):((A++x::(B++y::C)).set A.length y).set (A.length+1+B.length) x=A++y::(B++x::C):=by rw[ph _ _ nR,pb,List.set_cons_zero,ph _ _ oM];rw[show A.length+1+B.length - A.length=B.length+1 by omega,List.set_cons_succ,ph _ _ nR,pb,List.set_cons_zero]
def Zbt{α:Type}(A B:List α)(y:α):(A++y::B)[A.length]?=some y:=by simp
def Zbu{α:Type}(A B:List α)(y x:α):(A++y::x::B)[A.length+1]?=some x:=by simp
def Ii{α:Type}{A B:List α}{y:α}(h:A.length=n):(A++y::B)[n]?=some y:=by subst h;exact Zbt A B y
def N1{α:Type}{A B:List α}{y x:α}(h:A.length+1=n):(A++y::x::B)[n]?=some x:=by subst h;exact Zbu A B y x
def But.ext'(h:But g w0 w)(hx:Ext w w'):But g w0 w':=h.trans (hx.but g)
section
open Classical
noncomputable def I0 (p:Nat->Prop):Nat:=if h:∃n,p n/\∀m,p m->n<=m then h.choose else 0
def Zdm{p:Nat->Prop}:∀n,p n->∃n,p n/\∀m,p m->n<=m:=λn=>by
 induction n using Nat.strongRecOn with
 |_ n ih=>
  intro h;by_cases hm:∃m,m<n/\p m
  .obtain⟨m,h1,h2⟩:=hm;exact ih m h1 h2
  .exact⟨n,h,λm h2=>by
    obtain h3|h3:=qg m n
    .exact absurd ⟨m,h3,h2⟩ hm
    .exact h3⟩
def I1{p:Nat->Prop}(h:p n):p (I0 p)/\∀m,p m->I0 p<=m:=by have hx:=Zdm n h;unfold I0;rw[dif_pos hx];exact hx.choose_spec
end
def loop1.ghost{α:Type}{a:α}{body:α->Wd->(α->Wp)->Prop}(J:Nat->α->Wp)(n:Nat)(h0:J n a w)
  (hs:∀n a w a0,J n a w->(∀m a' w',m<n->J m a' w'->a0 a' w')->body a w a0):loop1 a w body:=
 ⟨λa w=>∃n,J n a w,λa w=>I0 λn=>J n a w,⟨n,h0⟩,λa w ⟨n,h⟩=>hs _ a w _ (I1 (p:=λn=>J n a w) h).1 λm a' w' hm hJ=>⟨⟨m,hJ⟩,nf ((I1 (p:=λn=>J n a' w') hJ).2 m hJ) hm⟩⟩
def loop3.ghost{α β γ:Type}{a:α}{b:β}{c:γ}{body:α->β->γ->Wd->(α->β->γ->Wp)->Prop}(J:Nat->α->β->γ->Wp)(n:Nat)(h0:J n a b c w)
  (hs:∀n a b c w a0,J n a b c w->(∀m a' b' c' w',m<n->J m a' b' c' w'->a0 a' b' c' w')->body a b c w a0):loop3 a b c w body:=
 ⟨λa b c w=>∃n,J n a b c w,λa b c w=>I0 λn=>J n a b c w,⟨n,h0⟩,λa b c w ⟨n,h⟩=>hs _ a b c w _ (I1 (p:=λn=>J n a b c w) h).1 λm a' b' c' w' hm hJ=>⟨⟨m,hJ⟩,nf ((I1 (p:=λn=>J n a' b' c' w') hJ).2 m hJ) hm⟩⟩
def gCall.named{τ:Sort _}{g:Bool}{k:τ}{A B:τ->Prop}(h:∀J,J=k->(g=true->A J)/\(g=false->B J)):gCall g k A B:=h k rfl
def OwnS.but{α:Type}{E:Enc α}{T:TypeId}{l:List α}(h:OwnS E T w lo S s l)(hb:But g w w')(hS: ¬S g)(hg:∀ad,s.a=some ad->g≠ad.block):OwnS E T w' lo S s l:=
 h.keep hb.1 λb a4 a0=>hb.2.2.2.2 b a4 (by
  rcases a0 with a0|⟨ad,ha,rfl⟩
  .rintro rfl;exact hS a0
  .exact Ne.symm (hg ad ha))
def OwnS.rowG{α β:Type}{E:Enc α}{T:TypeId}{l:List α}(f:β->LV)(r:β->α->Prop)(hf:∀x cs,E.rep w S x cs->∃y,cs=f y/\r y x)(h:OwnS E T w lo S s l):
  (s=Sl.nil/\l=[])\/∃(g:Nat) (z:List (β×α)) (tail:LV),s.a=some ⟨g,0,none⟩/\lo<=g/\z.map Prod.snd=l/\(∀p∈z,r p.1 p.2)/\RowB f w g (z.map Prod.fst) tail/\l.length<=s.cap/\s.cap<=maxLen:=by
 obtain⟨css,ho,hl,hr⟩:=h.row;rcases ho.2 with⟨hv,hn⟩|⟨g,cap,a0,hv,a5,hh,hc,hm,a7,ht⟩
 .left;have h0:l=[]:=fj (by rw[<-h.len];exact hn);refine⟨?_,h0⟩;obtain⟨a,n,c⟩:=s;simp only[Sl.v,Value.slice.injEq]at hv;obtain⟨rfl,rfl,rfl⟩:=hv;rfl
 .right;have hz:∀(css:List (List Value)) (l:List α),css.length=l.length->(∀(i:Nat)(x:α),l[i]?=some x->∃cs,css[i]?=some cs/\E.rep w S x cs)->∃z:List (β×α),z.map Prod.snd=l/\(∀p∈z,r p.1 p.2)/\(z.map Prod.fst).map f=css:=by
   intro css;induction css with
   |nil=>intro l hl _;exact⟨[],(fj hl.symm).symm,by simp,rfl⟩
   |cons c css ih=>
    intro l hl hr;cases l with
    |nil=>cases hl
    |cons x l=>
     obtain⟨cs,h1,h2⟩:=hr 0 x rfl;simp only[ja,eu]at h1;subst h1;obtain⟨y,hy,a6⟩:=hf x _ h2;obtain⟨z,k1,k2,k3⟩:=ih l (by simpa using hl) λi x hx=>hr (i+1) x hx;refine⟨(y,x)::z,by simp[k1],λp hp=>?_,by simp only[ib,k3,hy]⟩;obtain rfl|hp:=ga.1 hp
     .exact a6
     .exact k2 p hp
  obtain⟨z,k1,k2,k3⟩:=hz css l hl hr;simp only[Sl.v,Value.slice.injEq]at hv;obtain⟨ha,_,a4⟩:=hv;refine⟨g,z,a0.toList.drop (css.flatten).length,ha,a5,k1,k2,⟨T,rfl,rfl,?_⟩,by rw[a4];simpa[h.len]using hc,by rw[a4];exact hm⟩;rw[k3];have e:css.flatten++a0.toList.drop css.flatten.length=a0.toList:=by
   have:css.flatten=a0.toList.take css.flatten.length:=by rw[<-ht];simp
   conv=>lhs;lhs;rw[this]
   exact fo _ _
  rw[e];simpa using hh
def RowB.read{α β:Type}{E:Enc α}{cap:Nat}{f:β->LV}{z:List (β×α)}{tail:LV}(h:RowB f w g (z.map Prod.fst) tail)(hk:∀x,(f x).length=E.n)(hr:∀p∈z,E.rep w S p.2 (f p.1))(hc:z.length<=cap)(hm:cap<=maxLen)(hb:z.length*E.bytes<=Ab):
  SlR E w (λb=>S b\/b=g) ⟨some ⟨g,0,none⟩,z.length,cap⟩ (z.map Prod.snd):=by
 refine⟨by simp,by simpa using hc,hm,by simpa using hb,.inr ⟨⟨g,0,none⟩,rfl,.inr rfl,λi x hx=>?_⟩⟩;rw[gc]at hx;cases hz:z[i]? with
 |none=>rw[hz]at hx;cases hx
 |some p=>rw[hz]at hx;simp only[je,eu]at hx;subst hx;exact⟨f p.1,E.mono (hr p (gv hz)) λ_ h=>.inl h,h.ld' hk (by rw[gc,hz];rfl)⟩
section
variable {α:Type} {E:Enc α} {T:TypeId} {w w':Wd} {lo:Nat} {S S':Nat->Prop} {s:Sl} {l:List α}
def VP{w:Wd}{S:Nat->Prop}:∀(l:List α)(ad:Addr),(∀(i:Nat)(x:α),l[i]?=some x->∃cs,E.rep w S x cs/\ldc w (ad.add (i*E.n)) cs)->
  ∃css:List (List Value),css.length=l.length/\(∀(i:Nat)(x:α),l[i]?=some x->∃cs,css[i]?=some cs/\E.rep w S x cs)/\ldc w ad css.flatten/\css.flatten.length=l.length*E.n
 | [],ad,_=>⟨[],rfl,λi x h=>by simp at h,λj v h=>by simp at h,by simp⟩
 |x::r,ad,h=>by
  obtain⟨cs,h1,h2⟩:=h 0 x rfl;obtain⟨css,h3,h4,h5,h6⟩:=VP r (ad.add E.n) λi y hi=>by obtain⟨cs,a,b⟩:=h (i+1) y (by simpa using hi);refine⟨cs,a,?_⟩;rw[CX,show E.n+i*E.n=(i+1)*E.n by rw[jx];omega];exact b
  have hl:=E.len h1;refine⟨cs::css,by simp[h3],λi y hi=>?_,λj v hj=>?_,by rw[jc,du,hl,h6,fl,jx];omega⟩
  .cases i with
   |zero=>simp at hi;subst hi;exact⟨cs,rfl,h1⟩
   |succ i=>obtain⟨c,a,b⟩:=h4 i y (by simpa using hi);exact⟨c,by simpa using a,b⟩
  .rw[jc]at hj;by_cases a0:j<cs.length
   .rw[fy a0]at hj;have:=h2 j v hj;rw[lu]at this;exact this
   .rw[gp oM]at hj;have:=h5 (j - cs.length) v hj;rw[CX,show E.n+(j - cs.length)=j by omega]at this;exact this
def Zh3{l:List α}{css:List (List Value)}(hl:css.length=l.length)(hr:∀(i:Nat)(x:α),l[i]?=some x->∃cs,css[i]?=some cs/\E.rep w S x cs):∀u∈css.flatten,u.oneCell'=true:=by
 intro u hu;obtain⟨cs,a0,a5⟩:=List.mem_flatten.1 hu;obtain⟨k,hk,he⟩:=fp.1 a0;have a4:k<l.length:=by rw[<-hl];exact hk
 obtain⟨a6,h3,h4⟩:=hr k _ (dt a4);rw[dt hk,he,eu]at h3;subst h3;exact E.one h4 u a5
def OwnS.appAll{e:TypeId}{k:Sl->Wp}{x:Sl}{m:List α}(h:OwnS E e w lo S s l)(hT:B0 P t e E.n E.bytes)(d8:lo<=w.heap.size)(hx:SlR E w S' x m)(b5:∀b,S' b->b<w.heap.size)(b6:∀ad,s.a=some ad-> ¬S' ad.block)
  (hb:(l.length+m.length)*E.bytes<=Ab) (hm:l.length+m.length<=maxLen)
  (hk:∀(r:Sl)(w':Wd),OwnS E e w' lo (λb=>S b\/S' b) r (l++m)->Below lo w w'->(∀b,b<w.heap.size->(∀ad,s.a=some ad->b≠ad.block)->w'.heap[b]?=w.heap[b]?)->(∀ad,r.a=some ad->(s.a=some ad\/w.heap.size<=ad.block))->k r w'):appS P t t s x.v w k:=by
 intro ty;obtain⟨css,ho,hl,hr⟩:=h.row;obtain⟨ht,i,z,hi,hz,b0,d4,e4,e0⟩:=hT;have c9:=h.len;cases hxa:x.a with
 |none=>
  have d9:m=[]:=by
   rcases hx.2.2.2.2 with h0|⟨ad,h1,_⟩
   .exact h0
   .rw[hxa]at h1;cases h1
  subst d9;have c8:x.len=0:=hx.1;have a9:(Builtin.append_ #[t,t] ty #[s.v,x.v]).run P w= .ok s.v w:=by
   have c3:x.v= .slice none 0 x.cap:=(by unfold Sl.v;rw[hxa,c8]);rw[c3];rcases ho.2 with⟨hv,_⟩|⟨g,cap,c5,hv,_,_,e1,_⟩
   .rw[hv];simp[Builtin.append_,run_underlying ht,sizeOf,typeInfo,hi,Builtin.lenOf,Builtin.firstCells]
   .rw[hv];simp[Builtin.append_,run_underlying ht,sizeOf,typeInfo,hi,Builtin.lenOf,Builtin.firstCells,e1,storeCells]
  refine⟨_,w,a9,s,rfl,hk s w ?_ (Below.refl _ _) (λ_ _ _=>rfl) λad ha=>.inl ha⟩;rw[gd];refine h.mono (λ_ h=>.inl h) (λb hb=>?_) λad ha hb=>?_
  .obtain hb|hb:=hb
   .exact h.lt b hb
   .exact b5 b hb
  .obtain hb|hb:=hb
   .exact h.apart ad ha hb
   .exact b6 ad ha hb
 |some ad=>
  have b9:∀(i:Nat)(y:α),m[i]?=some y->∃cs,E.rep w S' y cs/\ldc w (ad.add (i*E.n)) cs:=by intro i y hi;obtain⟨d3,cs,h1,h2,h3,h4⟩:=hx.get hi;rw[hxa,eu]at h1;subst h1;exact⟨cs,h3,h4⟩
  obtain⟨c4,c7,d1,d5,d6⟩:=VP m ad b9;have c3:x.v= .slice (some ad) m.length x.cap:=by unfold Sl.v;rw[hxa,hx.1]
  obtain⟨v',w',a9,a4,a5,c6⟩:=SD (P:=P) (ty:=ty) (m:=m.length) (c:=x.cap) ht hi hz (by rw[b0];exact e4) (by rw[b0];exact e0) (by rw[b0];exact ho) (by rw[b0];exact d6) (λj u hj=>d5 j u hj) (Zh3 c7 d1) oM (by rw[c9,d4];exact hb) d8;rw[b0]at a4;have e3:∃r:Sl,v'=r.v/\r.len=s.len+m.length:=by
   rcases a4.2 with⟨hv,hn⟩|⟨g,cap,c5,hv,_⟩
   .exact⟨⟨none,0,0⟩,hv,hn.symm⟩
   .exact⟨⟨_,_,_⟩,hv,rfl⟩
  obtain⟨r,rfl,d2⟩:=e3;have b2:∀ad,r.a=some ad->(s.a=some ad\/w.heap.size<=ad.block):=by
   intro ad a6;have h2:ad=⟨ad.block,0,none⟩:=by
    rcases a4.2 with⟨hv,_⟩|⟨g,cap,c5,hv,_⟩
    .simp[Sl.v,a6]at hv
    .simp[Sl.v,a6]at hv;rw[hv.1]
   have d0:r.v.ownBlock=some ad.block:=(by simp[Value.ownBlock,Sl.v,a6]);obtain hb|hb:=c6
   .left;rw[d0]at hb;cases hsa:s.a with
    |none=>simp[Value.ownBlock,Sl.v,hsa]at hb
    |some d3=>simp[Value.ownBlock,Sl.v,hsa]at hb;have:=(h.block hsa).2.2;rw[this,<-hb,<-h2]
   .right;rw[d0,eu]at hb;omega
  have a8:∀b,b<w.heap.size->(∀ad,s.a=some ad->b≠ad.block)->w'.heap[b]?=w.heap[b]? :=by
   intro b b7 e2;refine a5.block b b7 ?_;simp only[Value.ownBlock,Sl.v];cases hsa:s.a with
   |none=>simp
   |some ad=>simp only[ne_eq,eu];exact e2 ad hsa
  rw[c3];refine⟨_,w',a9,r,rfl,hk r w' ?_ ⟨a5.os,a5.tape,a5.output,a5.size,λb hb=>a8 b oM λad ha e=>by have:=(h.block ha).1;omega⟩ a8 b2⟩;have a7:∀b,b<w.heap.size->(S b\/S' b)->w'.heap[b]?=w.heap[b]? :=λb b7 a0=>a8 b b7 λad ha e=>by
   subst e;obtain a0|a0:=a0
   .exact h.apart _ ha a0
   .exact b6 _ ha a0
  refine⟨⟨css++c4,?_,by simp[hl,c7],λj y hj=>?_⟩,by simp[d2,c9],λb a0=>?_,λad a6 a0=>?_⟩
  .rw[d2,js];exact a4
  .rw[me]at hj;split at hj
   .rename_i d7;obtain⟨b4,h1,h2⟩:=hr j y hj;exact⟨b4,by rw[fy oM];exact h1,E.keep (E.mono h2 λ_ h=>.inl h) λb hb b8=>a7 b b8 hb⟩
   .rename_i d7;obtain⟨b4,h1,h2⟩:=d1 (j - l.length) y hj;exact⟨b4,by rw[gp oM,hl];exact h1,E.keep (E.mono h2 λ_ h=>.inr h) λb hb b8=>a7 b b8 hb⟩
  .have:b<w.heap.size:=by
    obtain a0|a0:=a0
    .exact h.lt b a0
    .exact b5 b a0
   have:=a5.size;omega
  .obtain h1|h1:=b2 ad a6
   .obtain a0|a0:=a0
    .exact h.apart ad h1 a0
    .exact b6 ad h1 a0
   .have:ad.block<w.heap.size:=by
     obtain a0|a0:=a0
     .exact h.lt _ a0
     .exact b5 _ a0
    omega
end
def SlP{α:Type}(E:Enc α)(w:Wd)(S:Nat->Prop)(s:Sl)(l:List α):Prop:=
 SlR E w S s l/\(l=[]\/∃g cur t,s.a=some ⟨g,0,none⟩/\S g/\w.heap[g]?=some (.cells cur t (0,0))/\l.length*E.n<=cur.size)
section
variable {α:Type} {E:Enc α} {w w':Wd} {S S':Nat->Prop} {s:Sl} {l:List α}
def SlP.mono(h:SlP E w S s l)(hs:∀b,S b->S' b):SlP E w S' s l:=⟨h.1.mono hs,h.2.imp id λ⟨g,a0,t,a,b,c,d⟩=>⟨g,a0,t,a,hs _ b,c,d⟩⟩
def SlP.keep(h:SlP E w S s l)(hk:Keep S w w'):SlP E w' S s l:=⟨h.1.keep hk,h.2.imp id λ⟨g,a0,t,a,b,c,d⟩=>⟨g,a0,t,a,b,(hk g b (lt_of_block c)).trans c,d⟩⟩
def SlP.ext(h:SlP E w S s l)(hx:Ext w w'):SlP E w' S s l:=h.keep (hx.keep S)
def SlP.but(h:SlP E w S s l)(hb:But g w w')(hn: ¬S g):SlP E w' S s l:=h.keep (hb.keep hn)
def SlP.nil:SlP E w S Sl.nil ([]:List α):=⟨SlR.nil trivial,.inl rfl⟩
def SlP.bound(hf:∀{w S S' x cs},E.rep w S x cs->E.rep w S' x cs)(h:SlP E w S s l):SlP E w (λb=>S b/\b<w.heap.size) s l:=by
 obtain⟨⟨h1,h2,h3,h4,h5⟩,h6⟩:=h;rcases h6 with h6|⟨g,a0,t,a,b,c,d⟩
 .exact⟨⟨h1,h2,h3,h4,.inl h6⟩,.inl h6⟩
 .refine⟨⟨h1,h2,h3,h4,h5.imp id λ⟨ad,k1,k2,k3⟩=>⟨ad,k1,⟨k2,?_⟩,λi x hx=>let⟨cs,e1,e2⟩:=k3 i x hx;⟨cs,hf e1,e2⟩⟩⟩,.inr ⟨g,a0,t,a,⟨b,lt_of_block c⟩,c,d⟩⟩;rw[a,eu]at k1;subst k1;exact lt_of_block c
def OwnS.readP{T:TypeId}(h:OwnS E T w lo S s l)(hb:l.length*E.bytes<=Ab)(hm:l.length<=maxLen):SlP E w (λb=>S b\/∃ad,s.a=some ad/\b=ad.block) s l:=by
 refine⟨h.read hb hm,?_⟩;obtain⟨css,ho,hl,hr⟩:=h.row;rcases ho.2 with⟨hv,hn⟩|⟨g,cap,a0,hv,hg,hh,hc,a6,a4,ht⟩
 .exact .inl (fj (by rw[<-h.len];exact hn))
 .simp[Sl.v]at hv;obtain⟨ha,a5⟩:=hv;refine .inr ⟨g,a0,T,ha,.inr ⟨_,ha,rfl⟩,hh,?_⟩;rw[a4,<-h.len];exact ij _ hc
end
def depP:Enc Dep where
 n:=2
 bytes:=40
 rep:=λw S d cs=>Ac d.name/\∃s,cs= [.string d.name,s.v]/\SlP spanE w S s d.range
 len:=λ⟨_,s,h,_⟩=>by rw[h];rfl
 one:=λ⟨_,s,h,_⟩ v hv=>by rw[h]at hv;simp[Sl.v]at hv;rcases hv with rfl|rfl<;>rfl
 mono:=λ⟨h0,s,h,hr⟩ hs=>⟨h0,s,h,hr.mono hs⟩
 keep:=λ⟨h0,s,h,hr⟩ hk=>⟨h0,s,h,hr.keep hk⟩
def wantP:Enc Want where
 n:=3
 bytes:=48
 rep:=λw S d cs=>Ac d.name/\∃s,cs= [.string d.name,vi d.kind,s.v]/\SlP spanE w S s d.range
 len:=λ⟨_,s,h,_⟩=>by rw[h];rfl
 one:=λ⟨_,s,h,_⟩ v hv=>by rw[h]at hv;simp[Sl.v]at hv;rcases hv with rfl|rfl|rfl<;>rfl
 mono:=λ⟨h0,s,h,hr⟩ hs=>⟨h0,s,h,hr.mono hs⟩
 keep:=λ⟨h0,s,h,hr⟩ hk=>⟨h0,s,h,hr.keep hk⟩
def SlR.conv{α:Type}{E F:Enc α}{l:List α}(h:SlR E w S s l)(hn:E.n=F.n)(hb:E.bytes=F.bytes)(hr:∀x∈l,∀cs,E.rep w S x cs->F.rep w S x cs):SlR F w S s l:=
 ⟨h.1,h.2.1,h.2.2.1,by rw[<-hb];exact h.2.2.2.1,h.2.2.2.2.imp id λ⟨ad,a,b,c⟩=>⟨ad,a,b,λi x hx=>let⟨cs,k1,k2⟩:=c i x hx;⟨cs,hr x (gv hx) cs k1,by rw[<-hn];exact k2⟩⟩⟩
def SlP.dep{l:LD}(h:SlP depP w S s l):SlR depE w S s l:=h.1.conv rfl rfl λx _ cs ⟨h0,s,h1,h2⟩=>⟨h0,s,h1,h2.1⟩
end Go.Hal
namespace Go.Hal
open Go.ChangeShapes Go.WideShapes Go.ChangeAt
def Here(W:Wd):Nat->Prop:=λb=>b<W.heap.size
def Here.old(W:Wd):Old (Here W) W:=λ_ h=>h
section
variable {H:Type} {enc:TypeId×Value->H} {P:Program} {W:Wd}
def small(l:List Nat):Prop:=l.all (λx=>decide (x<=reachBytes))=true
def Rw{a b:List Nat}:small (a++b)↔small a/\small b:=by unfold small;rw[pz,dx]
def Zis{a:Nat}{b:List Nat}:small (a::b)↔a<=reachBytes/\small b:=by unfold small;rw[mq,dx,decide_eq_true_eq]
abbrev Tr(enc:TypeId×Value->H)(P:Program)(W:Wd)(n:Nat)(t:TypeId)(cs:LV)(x:DataW H×List MemPlace):Prop:=DataW.trod enc P W 0 (λ_=>true) true n t cs=some x
def Rd(H:Type)(P:Program)(W:Wd){α:Type}(E:Enc α)(t:TypeId):Prop:=∀(enc:TypeId×Value->H) n cs x,Tr enc P W n t cs x->small (x.1.weights P t)->∃y,E.rep W (Here W) y cs
def Js(H:Type)(P:Program)(W:Wd){α:Type}(E:Enc α)(t:TypeId):Prop:=∀(enc:TypeId×Value->H) n cs x,Tr enc P W n t cs x->small (x.1.weights P t)->∃(s:Sl) (l:List α),cs= [s.v]/\SlR E W (Here W) s l/\l.length*E.bytes<=reachBytes
def Zlo{e:TypeId}{l:List (DataW H)}(h:small (DataW.weightsAll P e l)){d:DataW H}(hd:d∈l):small (d.weights P e):=by
 induction l with
 |nil=>cases hd
 |cons a r ih=>
  simp only[DataW.weightsAll]at h;obtain⟨h1,h2⟩:=Rw.1 h;obtain rfl|hd:=ga.1 hd
  .exact h1
  .exact ih h2 hd
def O5:∀{ts:List TypeId} {ds:List (DataW H)},small (DataW.weightsEach P ts ds)->∀{i:Nat} {t:TypeId} {d:DataW H},ts[i]?=some t->ds[i]?=some d->small (d.weights P t)
 | [],_,_,i,t,d,h1,_=>by simp at h1
 |_::_,[],_,i,t,d,_,h2=>by simp at h2
 |a::ts,b::ds,h,i,t,d,h1,h2=>by
  simp only[DataW.weightsEach]at h;obtain⟨k1,k2⟩:=Rw.1 h;cases i with
  |zero=>simp only[ja,eu]at h1 h2;subst h1;subst h2;exact k1
  |succ i=>exact O5 k2 (i:=i) (by simpa using h1) (by simpa using h2)
def NZ{α:Type}{E:Enc α}{e:TypeId}(ht:P.underlying t=some (.slice e))(hc:P.cellsOf e=E.n)(hb:P.bytesOf e=E.bytes)(hn:0<E.n)(hE:Rd H P W E e):Js H P W E t:=by
 intro enc n cs x h hw;rcases Go.Deep.open_slice ht h with⟨rfl,rfl⟩|⟨a,len,cap,m,n',D,Pl,rfl,_,b4,b2,hm,rfl,a7⟩
 .exact⟨Sl.nil,[],rfl,SlR.nil trivial,by simp[reachBytes]⟩
 .simp only[if_true]at hm;obtain rfl:cap=m:=hm.symm;simp only[DataW.weights,ht]at hw;obtain⟨a9,b5⟩:=Zis.1 hw;obtain⟨b6,_⟩:=Rw.1 b5;rw[hc]at a7;have a8:∀i,i<len->∃y a0,E.rep W (Here W) y a0/\Go.Hal.ldc W (a.add (i*E.n)) a0:=λi hi=>by obtain⟨a0,h1,h2⟩:=a7 i oM;obtain⟨_,b7,a5⟩:=World.cells?_some h1;obtain⟨y,hy⟩:=hE enc n' a0 _ h2 (Zlo b6 (ip (mf.2 hi)));exact⟨y,a0,hy,λj v hj=>by have b8:=(fh.1 hj).1;exact(a5 j oM).trans hj⟩
  have a6:∀k,k<=len->∃l:List α,l.length=k/\∀(i:Nat)(y:α),l[i]?=some y->∃a0,E.rep W (Here W) y a0/\Go.Hal.ldc W (a.add (i*E.n)) a0:=λk=>by
   induction k with
   |zero=>intro _;exact⟨[],rfl,by simp⟩
   |succ k ih=>
    intro hk;obtain⟨l,hl,hr⟩:=ih oM;obtain⟨y,a0,h1,h2⟩:=a8 k oM;refine⟨l++[y],by simp[hl],λi z hz=>?_⟩;rw[me]at hz;split at hz
    .exact hr i z hz
    .rename_i hi;have:i=k:=by have:=(fh.1 hz).1;simp at this;omega
     subst this;simp[hl]at hz;subst hz;exact⟨a0,h1,h2⟩
  obtain⟨l,hl,hr⟩:=a6 len nR;have a4:l.length*E.bytes<=reachBytes:=by refine fe (ij _ (show l.length<=((List.range len).map D).length+((List.range (cap - len)).map λj=>D (len+j)).length by simp[hl])) ?_;rw[hb]at a9;exact a9
  refine⟨⟨some a,len,cap⟩,l,rfl,⟨hl.symm,by rw[hl];exact b4,b2,by unfold Ab;unfold reachBytes at a4;omega,?_⟩,a4⟩;obtain h0|h0:=jq len
  .left;exact fj oM
  .right;refine⟨a,rfl,?_,hr⟩;obtain⟨y,hy⟩:∃y,l[0]?=some y:=⟨_,dt oM⟩;obtain⟨a0,h1,h2⟩:=hr 0 y hy;have b9:=E.len h1;have b0:=h2 0 a0[0] (dt oM);have:=World.block_lt_of_cell? W _ b0;rw[CO,CO]at this;exact this
def B9{fs:Array Field}{x:DataW H×List MemPlace}(ht:P.underlying t=some (.struct fs))(h:Tr enc P W n t cs x)(hw:small (x.1.weights P t))(i ft off c:Nat)(hf:∃f,fs[i]?=some f/\f.type=ft/\f.offset=off)(hc:P.cellsOf ft=c):
  ∃y m,Tr enc P W m ft ((cs.drop off).take c) y/\small (y.1.weights P ft):=by
 obtain⟨f,hf,rfl,rfl⟩:=hf;subst hc;obtain⟨xs,m,_,rfl,_,a0,a4⟩:=DataW.trod_struct ht h;have hi:i<xs.length:=by rw[a0];exact(fa.1 hf).1
 have h1:=a4 i f hf;rw[dt hi]at h1;refine⟨xs[i],m,h1,?_⟩;simp only[DataW.weights,ht]at hw;exact O5 hw (i:=i) (by simp[hf]) (by simp[dt hi])
def Hl{fs:Array Field}{x:DataW H×List MemPlace}(ht:P.underlying t=some (.struct fs))(h:Tr enc P W n t cs x):cs.length=P.cellsOf t:=by obtain⟨xs,m,_,_,hl,_⟩:=DataW.trod_struct ht h;exact hl
def WH(hl:laidOutB P=true){W':Wd}(hb:Below W.heap.size W W'):∀{ts:List TypeId} {vs:LV} {ds:List (DataW H)} {ps:List MemPlace},(∀t∈ts,P.readableRec t=true/\t<P.types.size)->(∀x∈ps,x.block<W.heap.size)->
  DataW.TrodAll enc P W 0 (λ_=>true) true ts vs ds ps->DataW.TrodAll enc P W' 0 (λb=>decide (b<W.heap.size)) true ts vs ds ps
 | [],vs,ds,ps,_,_,h=>by obtain⟨rfl,rfl,rfl⟩:=trodAll_nil h;exact trodAll_mk0
 |t::ts,vs,ds,ps,hr,hlt,h=>by obtain⟨v,a4,d,a0,p,p',rfl,rfl,rfl,h1,h2⟩:=trodAll_cons h;exact trodAll_cons_mk (Go.RowKit.Below.trod hl (hr t (.head _)).1 (hr t (.head _)).2 h1 hb λx hx=>hlt x (iu _ hx)) (WH hl hb (λt ht=>hr t (.tail _ ht)) (λx hx=>hlt x (ka _ hx)) h2)
def Zdj{f:Func}{s:ChangeSpec}{W':Wd}{args:Array Value}{ds gs:List (DataW H)}{before:List MemPlace}(hl:laidOutB P=true)(hr:∀t∈f.params.toList,P.readableRec t=true/\t<P.types.size){bt:TypeId}(a4:f.resultTypes= #[bt])(a5:P.underlying bt=some .bool)(hv:s.vars=[])
  (hW:DataW.Whole enc P f.params.toList s.vars false W args.toList ds gs before) (hs:ds.length=f.params.toList.length->s.fn H ds={results:=[.lit (.bool true)],args:=ds}) (hb:Ext W W'):s.post enc P f false true false false W args (.bool true) W':=by
 have a0:=hW;obtain⟨p,q,hA,hV,rfl,_,_⟩:=hW;rw[hv]at hV;obtain⟨rfl,rfl⟩:=trodVars_none hV;have hA:DataW.TrodAll enc P W 0 (λ_=>true) true f.params.toList args.toList ds p:=hA;have a6:∀x∈p,x.block<W.heap.size:=λx hx=>by simpa using a0.lt x (iu _ hx)
 have hf:=hs (Go.trodAll_length hA).2;rw[<-gd ds]at hf;refine⟨ds,[],_,[],p,[],a0,?_,?_,?_,Go.RowKit.Below.frame hb _,nO⟩
 .rw[hf,a4];exact trodAll_mk1 (shut_bool a5 true)
 .rw[hf,gd];exact WH hl hb hr a6 hA
 .rw[hf,hv];rfl
end
end Go.Hal
namespace Go.Hal
open Go.ChangeShapes Go.WideShapes Go.ChangeAt
def Zdd:laidOutB prog=true:=kR
section
variable {H:Type} {W:Wd}
def Pn:prog.cellsOf 3=1:=kR
def JC:prog.cellsOf 9=1:=kR
def Nd:prog.cellsOf 66=3:=kR
def Te:prog.cellsOf 233=6:=kR
def Tc:prog.cellsOf 96=2:=kR
def Td:prog.cellsOf 68=7:=kR
def Y0:prog.cellsOf 94=1:=kR
def Po:prog.cellsOf 34=1:=kR
def Yz:prog.cellsOf 22=1:=kR
def EH{enc:TypeId×Value->H}{x:DataW H×List MemPlace}(h:Tr enc prog W n 3 cs x):∃k,cs= [vi k]:=by obtain⟨k,h1,_⟩:=DataW.trod_int underlying3 h;exact⟨k,h1⟩
def Lx{enc:TypeId×Value->H}{x:DataW H×List MemPlace}(h:Tr enc prog W n 9 cs x):∃s:Bs,cs= [.string s]/\Ac s:=by obtain⟨s,h1,_,h2⟩:=DataW.trod_string underlying9 h;exact⟨s,h1,h2⟩
def Zdn{α:Type}{l:List α}(h:l.length=3):∃a b c,l= [a,b,c]:=by
 match l,h with
 | [a,b,c],_=>exact⟨a,b,c,rfl⟩
def QM{enc:TypeId×Value->H}{x:DataW H×List MemPlace}(h:Tr enc prog W n 66 cs x)(hw:small (x.1.weights prog 66)):∃v:Ver,cs=v.c:=by have hl:=Hl underlying66 h;rw[Nd]at hl;obtain⟨y0,m0,h0,_⟩:=B9 underlying66 h hw 0 3 0 1 ⟨_,rfl,rfl,rfl⟩ Pn;obtain⟨y1,m1,h1,_⟩:=B9 underlying66 h hw 1 3 1 1 ⟨_,rfl,rfl,rfl⟩ Pn;obtain⟨y2,m2,h2,_⟩:=B9 underlying66 h hw 2 3 2 1 ⟨_,rfl,rfl,rfl⟩ Pn;obtain⟨a,b,c,rfl⟩:=Zdn hl;obtain⟨k0,e0⟩:=EH h0;obtain⟨k1,e1⟩:=EH h1;obtain⟨k2,e2⟩:=EH h2;simp at e0 e1 e2;exact⟨⟨k0,k1,k2⟩,by rw[e0,e1,e2];rfl⟩
def Zg7:Rd H prog W spanE 233:=by
 intro enc n cs x h hw;have hl:=Hl underlying233 h;rw[Te]at hl;obtain⟨y0,m0,h0,w0⟩:=B9 underlying233 h hw 0 66 0 3 ⟨_,rfl,rfl,rfl⟩ Nd;obtain⟨y1,m1,h1,w1⟩:=B9 underlying233 h hw 1 66 3 3 ⟨_,rfl,rfl,rfl⟩ Nd;obtain⟨v0,e0⟩:=QM h0 w0;obtain⟨v1,e1⟩:=QM h1 w1;refine⟨⟨v0,v1⟩,?_,trivial⟩;have h3:cs=cs.take 3++(cs.drop 3).take 3:=by
  conv=>lhs;rw[<-fo 3 cs]
  rw[gj (l:=cs.drop 3) (by rw[fx];omega)]
 rw[h3];have e0:cs.take 3=v0.c:=e0;rw[e0];exact congrArg _ e1
def Zg8:Js H prog W spanE 94:=NZ underlying94 Te kR dC Zg7
def Zg3:Rd H prog W depE 96:=by
 intro enc n cs x h hw;have hl:=Hl underlying96 h;rw[Tc]at hl;obtain⟨y0,m0,h0,w0⟩:=B9 underlying96 h hw 0 9 0 1 ⟨_,rfl,rfl,rfl⟩ JC;obtain⟨y1,m1,h1,w1⟩:=B9 underlying96 h hw 1 94 1 1 ⟨_,rfl,rfl,rfl⟩ Y0;obtain⟨s,e0,hs⟩:=Lx h0;obtain⟨t,l,e1,ht,_⟩:=Zg8 enc m1 _ _ h1 w1
 match cs,hl with
 | [a,b],_=>simp at e0 e1;exact⟨⟨s,l⟩,hs,t,by rw[e0,e1],ht⟩
def QL:Js H prog W depE 34:=NZ underlying34 Tc kR dC Zg3
def Zg5:Rd H prog W packE 68:=by
 intro enc n cs x h hw;have hl:=Hl underlying68 h;rw[Td]at hl;obtain⟨y0,m0,h0,w0⟩:=B9 underlying68 h hw 0 9 0 1 ⟨_,rfl,rfl,rfl⟩ JC;obtain⟨y1,m1,h1,w1⟩:=B9 underlying68 h hw 1 66 1 3 ⟨_,rfl,rfl,rfl⟩ Nd;obtain⟨y2,m2,h2,w2⟩:=B9 underlying68 h hw 2 34 4 1 ⟨_,rfl,rfl,rfl⟩ Po;obtain⟨y3,m3,h3,w3⟩:=B9 underlying68 h hw 3 34 5 1 ⟨_,rfl,rfl,rfl⟩ Po;obtain⟨y4,m4,h4,w4⟩:=B9 underlying68 h hw 4 34 6 1 ⟨_,rfl,rfl,rfl⟩ Po;obtain⟨s,e0,hs⟩:=Lx h0;obtain⟨v,e1⟩:=QM h1 w1;obtain⟨d,ld,e2,hd,_⟩:=QL enc m2 _ _ h2 w2;obtain⟨e,le,e3,he,_⟩:=QL enc m3 _ _ h3 w3;obtain⟨o,lo,e4,ho,_⟩:=QL enc m4 _ _ h4 w4
 match cs,hl with
 | [c0,c1,c2,c3,c4,c5,c6],_=>simp[Ver.c]at e0 e1 e2 e3 e4;exact⟨⟨s,v,ld,le,lo⟩,hs,d,e,o,by rw[e0,e1.1,e1.2.1,e1.2.2,e2,e3,e4];rfl,hd,he,ho⟩
def Zg6:Js H prog W packE 22:=NZ underlying22 Td kR dC Zg5
def V9{enc:TypeId×Value->H}{v:Value}{d:DataW H}{ps:List MemPlace}(h:DataW.Trod enc prog W 0 (λ_=>true) true t v d ps):∃n,Tr enc prog W n t v.cells.toList (d,ps):=h
end
end Go.Hal
namespace Go.Hal
def CS(n:Int):Bool:=decide (0<=n)&&decide (n<=999)
def Ver.may(v:Ver):Bool:=CS v.ma&&CS v.mi&&CS v.pa
def BC(a b:Int):Int:=if a<b then -1 else if b<a then 1 else 0
def AN(a b:Int):Int:=if a=0 then b else a
def Ver.cmp(a b:Ver):Int:=AN (BC a.ma b.ma) (AN (BC a.mi b.mi) (BC a.pa b.pa))
def Ver.num(v:Ver):Int:=(v.ma*1000+v.mi)*1000+v.pa
def Ver.rank(v:Ver):Int:=if v.may then v.num else 0
def GD(n:Int):Bool:=decide (0<=n)&&decide (n<=999999999)
def CT(n:Int):Ver:=if GD n then⟨n/1000000,n/1000%1000,n%1000⟩else⟨0,0,0⟩
def NT{n:Int}:CS n=true↔0<=n/\n<=999:=by simp[CS]
def Ver.may_iff{v:Ver}:v.may=true↔(0<=v.ma/\v.ma<=999)/\(0<=v.mi/\v.mi<=999)/\(0<=v.pa/\v.pa<=999):=by simp[Ver.may,NT,and_assoc]
def Ver.rank_le{v:Ver}:0<=v.rank/\v.rank<=999999999:=by
 unfold Ver.rank;split
 .rename_i h;have:=Ver.may_iff.1 h;unfold Ver.num;omega
 .omega
def YD{a b:Int}:BC a b<=0↔a<=b:=by unfold BC;split<;>(try split)<;>omega
def HR{a b:Int}:BC a b=0↔a=b:=by unfold BC;split<;>(try split)<;>omega
def HQ(a b:Int):(BC a b= -1/\a<b)\/(BC a b=0/\a=b)\/(BC a b=1/\b<a):=by unfold BC;split<;>(try split)<;>omega
def Ver.cmp_rank{a b:Ver}(ha:a.may=true)(hb:b.may=true):a.cmp b<=0↔a.rank<=b.rank:=by simp only[Ver.rank,ha,hb,if_true,Ver.num];have:=Ver.may_iff.1 ha;have:=Ver.may_iff.1 hb;unfold Ver.cmp AN;rcases HQ a.ma b.ma with h1|h1|h1<;>rcases HQ a.mi b.mi with h2|h2|h2<;>rcases HQ a.pa b.pa with h3|h3|h3<;>simp only[h1.1,h2.1,h3.1]<;>simp<;>omega
def Ver.cmp_eq{a b:Ver}:a.cmp b=0↔a=b:=by obtain⟨a1,a2,a3⟩:=a;obtain⟨b1,b2,b3⟩:=b;simp only[Ver.mk.injEq,Ver.cmp];unfold AN;rcases HQ a1 b1 with h1|h1|h1<;>rcases HQ a2 b2 with h2|h2|h2<;>rcases HQ a3 b3 with h3|h3|h3<;>simp only[h1.1,h2.1,h3.1]<;>simp<;>omega
def O2{v:Ver}(h:v.may=true):CT v.rank=v:=by
 have h':=Ver.may_iff.1 h;have e:v.rank=v.num:=by rw[Ver.rank,if_pos h]
 have hn:v.num=(v.ma*1000+v.mi)*1000+v.pa:=rfl;rw[e,CT,if_pos (by simp[GD];omega)];obtain⟨a,b,c⟩:=v;simp only at hn h' ⊢;rw[Ver.mk.injEq];omega
def Gq(a b:Ver):((a.ma==b.ma)&&((a.mi==b.mi)&&((a.pa==b.pa)&&true)))=decide (a=b):=by obtain⟨a1,a2,a3⟩:=a;obtain⟨b1,b2,b3⟩:=b;rw[gk];simp
def BB:Int->LS->Bool
 |_,[]=>true
 |least,x::r=>x.lo.may&&x.hi.may&&decide (least<=x.lo.rank)&&decide (x.lo.rank<=x.hi.rank)&&BB (x.hi.rank+2) r
def AO(l:LS):Bool:=decide (l.length<=64)&&BB 0 l
def Span.has(n:Int)(x:Span):Bool:=decide (x.lo.rank<=n)&&decide (n<=x.hi.rank)
def BT(l:LS)(v:Ver):Bool:=AO l&&(v.may&&l.any (Span.has v.rank))
def AP(b:UInt8):Bool:=decide (97<=b.toNat)&&decide (b.toNat<=122)
def BS(b:UInt8):Bool:=AP b||(decide (48<=b.toNat)&&decide (b.toNat<=57)||decide (b.toNat=45))
def CH:LU->Bool
 | []=>true
 |c::r=>AP c&&r.all BS
def Af(s:Bs):Bool:=CH s.toList&&(!Ai s ⟨#[]⟩&&decide (s.size<=16))
def Ze0(l:LU)(x:UInt8):CH (l++[x])=(CH l&&(if l=[]then AP x else BS x)):=by
 cases l with
 |nil=>simp[CH]
 |cons c r=>simp[CH,pg]
def Zey{l m:LU}(h:CH (l++m)=true):CH l=true:=by
 cases l with
 |nil=>rfl
 |cons c r=>simp[CH]at h ⊢;exact⟨h.1,h.2.1⟩
def OR(p:UInt8->Bool)(h:(List.range 256).all (λn=>p (UInt8.ofNat n))=true)(b:UInt8):p b=true:=by have:=im.1 h b.toNat (mf.2 b.toNat_lt);simpa using this
def Zd8{b:UInt8}(h:AP b=true):BS b=true:=by simp[BS,h]
def r02part_se{n:Int}(hR:∀w',Ext w w'->R (CS n) w'):SE.GU n w R:=by unfold SE.GU;exact bound (hR _ xR)
def r02May_se{x y z:Int}(hR:∀w',Ext w w'->R (Ver.may ⟨x,y,z⟩) w'):SE.Fu x y z w R:=by
 unfold SE.Fu;refine newS.intro λ_ _ _ hb _ _=>?_;refine⟨_,lD,?_⟩;refine SE.GU.go (r02part_se λw' hx=>⟨_,rfl,?_⟩);refine⟨y,λ_=>hb.at1 xT rfl,gCall.intro (CS y) (λ_ q hq=>SE.GU.go (r02part_se λw' hx=>⟨_,rfl,hq _ hx⟩)) λt w1 x1 ht=>?_⟩;refine bound ⟨z,λ_=>hb.at1 xT rfl,gCall.intro (CS z) (λ_ q hq=>SE.GU.go (r02part_se λw' hx=>⟨_,rfl,hq _ hx⟩)) λt2 w2 x2 a0=>?_⟩;have e:(CS x&&t&&t2)=Ver.may ⟨x,y,z⟩:=by
  unfold Ver.may;cases h:CS x
  .rfl
  .rw[ht h];cases h':CS y
   .rfl
   .rw[a0 (by rw[h,ht h,h'];rfl)]
 rw[e];exact hR _ xT
def Zgr{a b:Ver}{R:Int->Wp}(hR:∀w',Ext w w'->R (a.cmp b) w'):SE.Kn a.ma a.mi a.pa b.ma b.mi b.pa w R:=by
 unfold SE.Kn;refine newS.intro λ_ _ _ hb _ _=>newS.intro λ_ _ _ c6 _ _=>?_;refine⟨_,lD,?_⟩;refine⟨_,lD,?_⟩;refine⟨_,lD,?_⟩;refine newS.intro λa5 _ _ b6 _ _=>?_;refine⟨_,lD,?_⟩;refine⟨_,lD,?_⟩;refine⟨_,lD,?_⟩;refine newS.intro λa4 w1 _ b7 _ _=>?_;refine⟨λi w'=>Ext w1 w'/\(i=0\/i=1/\a.ma=b.ma\/i=2/\a.ma=b.ma/\a.mi=b.mi\/i=3/\a=b),λi _=>3 - i.toNat,⟨Ext.refl _,.inl rfl⟩,?_⟩;rintro i w2 ⟨x2,hi⟩;refine⟨λh3=>bnd.drew λw3 x3=>?_,λh3=>?_⟩
 .have key:∀(k:Nat)(u v:Int),i=k->k<3-> [(Value.int .i64 a.ma),(Value.int .i64 a.mi),(Value.int .i64 a.pa)].drop k= [(Value.int .i64 u)]++[(Value.int .i64 a.ma),(Value.int .i64 a.mi),(Value.int .i64 a.pa)].drop (k+1)-> [(Value.int .i64 b.ma),(Value.int .i64 b.mi),(Value.int .i64 b.pa)].drop k= [(Value.int .i64 v)]++[(Value.int .i64 b.ma),(Value.int .i64 b.mi),(Value.int .i64 b.pa)].drop (k+1)->
    (u<v->a.cmp b= -1)->(v<u->a.cmp b=1)->(u=v->(i+1=1/\a.ma=b.ma\/i+1=2/\a.ma=b.ma/\a.mi=b.mi\/i+1=3/\a=b))->
    ∃ad,((Sl.mk (some a5) 3 3).a=some ad/\(0:Int)<=i/\i<((Sl.mk (some a5) 3 3).len:Int))/\∃a9,ldc w3 (ad.add (i.toNat*1)) [Value.int .i64 a9]/\∃a6,((Sl.mk (some a4) 3 3).a=some a6/\(0:Int)<=i/\i<((Sl.mk (some a4) 3 3).len:Int))/\∃b0,ldc w3 (a6.add (i.toNat*1)) [Value.int .i64 b0]/\
     ((a9<b0->R (-1) w3)/\(¬a9<b0->bnd w3.drew λa0=>∃a7,((Sl.mk (some a5) 3 3).a=some a7/\(0:Int)<=i/\i<((Sl.mk (some a5) 3 3).len:Int))/\∃b4,ldc a0 (a7.add (i.toNat*1)) [Value.int .i64 b4]/\∃a8,((Sl.mk (some a4) 3 3).a=some a8/\(0:Int)<=i/\i<((Sl.mk (some a4) 3 3).len:Int))/\∃b5,ldc a0 (a8.add (i.toNat*1)) [Value.int .i64 b5]/\
      ((b5<b4->R 1 a0)/\(¬b5<b4->(Ext w1 a0/\(Aa (i+1)=0\/Aa (i+1)=1/\a.ma=b.ma\/Aa (i+1)=2/\a.ma=b.ma/\a.mi=b.mi\/Aa (i+1)=3/\a=b))/\3 - (Aa (i+1)).toNat<3 - i.toNat)))):=by
   intro k u v hk c7 h1 h2 c4 b9 b8;have c5:((Sl.mk (some a5) 3 3).len:Int)=3:=rfl;have c3:i.toNat*1=k:=oM;rw[c3];refine⟨a5,⟨rfl,oM,by show i<3;omega⟩,u,b6.at1 xT h1,a4,⟨rfl,oM,by show i<3;omega⟩,v,b7.at1 xT h2,λh=>?_,λh=>bnd.drew λw4 x4=>⟨a5,⟨rfl,oM,by show i<3;omega⟩,u,b6.at1 xT h1,a4,⟨rfl,oM,by show i<3;omega⟩,v,b7.at1 xT h2,λh'=>?_,λh'=>?_⟩⟩
   .rw[<-c4 h];exact hR _ xT
   .rw[<-b9 h'];exact hR _ xT
   .have e:=b8 oM;rw[Ag oM oM];exact⟨⟨xT,.inr e⟩,oM⟩
  rcases hi with rfl|⟨rfl,h1⟩|⟨rfl,h1,h2⟩|⟨rfl,_⟩
  .refine key 0 a.ma b.ma rfl oM rfl rfl ?_ ?_ λh=>.inl ⟨rfl,h⟩
   .intro h;unfold Ver.cmp BC;rw[if_pos h];rfl
   .intro h;unfold Ver.cmp BC;rw[if_neg oM,if_pos h];rfl
  .refine key 1 a.mi b.mi rfl oM rfl rfl ?_ ?_ λh=>.inr (.inl ⟨rfl,h1,h⟩)
   .intro h;unfold Ver.cmp;rw[HR.2 h1];unfold BC;rw[if_pos h];rfl
   .intro h;unfold Ver.cmp;rw[HR.2 h1];unfold BC;rw[if_neg oM,if_pos h];rfl
  .refine key 2 a.pa b.pa rfl oM rfl rfl ?_ ?_ λh=>.inr (.inr ⟨rfl,?_⟩)
   .intro h;unfold Ver.cmp;rw[HR.2 h1,HR.2 h2];unfold BC;rw[if_pos h];rfl
   .intro h;unfold Ver.cmp;rw[HR.2 h1,HR.2 h2];unfold BC;rw[if_neg oM,if_pos h];rfl
   .obtain⟨a1,a2,a3⟩:=a;obtain⟨b1,b2,b3⟩:=b;simp only at h1 h2 h;rw[h1,h2,h]
  .omega
 .have:a=b:=by rcases hi with rfl|⟨rfl,h1⟩|⟨rfl,h1,h2⟩|⟨_,h⟩<;>first|omega|exact h
  have h0:=Ver.cmp_eq.2 this;rw[<-h0];exact hR _ xT
def Zj5(n:Int)(h:0<=n):n.tdiv 1000000=n/1000000/\n.tdiv 1000=n/1000/\Int.tmod n 1000=n%1000:=⟨nu h,nu h,Int.tmod_eq_emod_of_nonneg h⟩
def r02Rank_se{v:Ver}{R:Int->Bool->Wp}(hR:∀w',Ext w w'->R v.rank v.may w'):SE.Ko v.ma v.mi v.pa w R:=by
 unfold SE.Ko;refine newS.intro λ_ _ _ hb _ _=>?_;refine⟨_,_,_,lD,?_⟩;refine SE.Fu.go (r02May_se λw' hx=>⟨_,rfl,λh=>?_,λh=>?_⟩)
 .have e:v.may=false:=by simpa using h
  have:=hR w' xT;simpa[Ver.rank,e]using this
 .have e:v.may=true:=by simpa using h
  refine⟨_,lD,?_⟩;refine⟨_,lD,?_⟩;refine⟨_,lD,?_⟩;have hm:=Ver.may_iff.1 e;rw[Ag (x:=v.ma*1000) oM oM,Ag (x:=v.ma*1000+v.mi) oM oM,Ag (x:=(v.ma*1000+v.mi)*1000) oM oM,Ag oM oM];have:=hR w' xT;simpa[Ver.rank,e,Ver.num]using this
def H1{v:Ver}(hR:∀w',Ext w w'->R v.may w'):SE.Ek v.ma v.mi v.pa w R:=by
 unfold SE.Ek;refine newS.intro λ_ w1 _ hb _ _=>?_;refine⟨_,lD,?_⟩;refine⟨_,lD,?_⟩;refine⟨_,lD,?_⟩;refine⟨λi w'=>Ext w1 w'/\(i=0\/i=1/\CS v.ma=true\/i=2/\CS v.ma=true/\CS v.mi=true\/i=3/\v.may=true),λi _=>3 - i.toNat,⟨Ext.refl _,.inl rfl⟩,?_⟩;rintro i w2 ⟨x2,hi⟩;refine⟨λh3=>⟨⟨oM,h3⟩,bound ⟨λh=>?_,λh=>?_⟩⟩,λh3=>?_⟩
 .have:v.may=false:=by unfold Ver.may CS;rcases hi with rfl|⟨rfl,h1⟩|⟨rfl,h1,h2⟩|⟨rfl,_⟩<;>simp at h<;>simp<;>omega
  rw[<-this];exact hR _ xT
 .rw[Ag oM oM];refine⟨⟨x2,?_⟩,by show 3 - (i+1).toNat<3 - i.toNat;omega⟩;rcases hi with rfl|⟨rfl,h1⟩|⟨rfl,h1,h2⟩|⟨rfl,_⟩
  .refine .inr (.inl ⟨oM,?_⟩);simp at h;rw[NT];omega
  .refine .inr (.inr (.inl ⟨oM,h1,?_⟩));simp at h;rw[NT];omega
  .refine .inr (.inr (.inr ⟨oM,?_⟩));simp at h;rw[Ver.may,h1,h2,ie,ie,NT];omega
  .omega
 .have:v.may=true:=by rcases hi with rfl|⟨rfl,h1⟩|⟨rfl,h1,h2⟩|⟨_,h⟩<;>first|omega|exact h
  rw[<-this];exact hR _ xT
def versAt_se{n:Int}{R:Int->Int->Int->Bool->Wp}(hR:∀w',Ext w w'->R (CT n).ma (CT n).mi (CT n).pa (GD n) w'):SE.Gu n w R:=by
 unfold SE.Gu;refine newS.intro λa w1 x1 hb a4 _=>bound ⟨λh=>?_,λh=>?_⟩
 .refine stw0.intro hb sI λw2 b2 _ a0=>?_;refine⟨_,_,_,a0.ldc.pre rfl,?_⟩;have e:GD n=false:=by simp only[GD];simp at h ⊢;omega
  have:=hR w2 (b2.ext x1 oM);simpa[CT,e]using this
 .have e:0<=n/\n<=999999999:=by simp at h;omega
  have ha:GD n=true:=by simp[GD,e]
  obtain⟨e1,e2,e3⟩:=Zj5 n e.1;rw[e2,e3,Ag (x:=n/1000) oM oM,Int.tmod_eq_emod_of_nonneg oM,nu oM,Ag oM oM];have e4:n/1000/1000=n/1000000:=oM;rw[e4];refine stw0.intro hb sI λw2 b2 _ a0=>?_;refine⟨_,_,_,a0.ldc.pre rfl,?_⟩;have:=hR w2 (b2.ext x1 oM);simpa[CT,ha]using this
def Mx{v:Ver}{R:Int->Bool->Wp}(hR:∀w',Ext w w'->R v.rank v.may w'):SE.FC v.ma v.mi v.pa w R:=by
 unfold SE.FC;refine newS.intro λ_ _ _ hb _ _=>?_;refine⟨_,_,_,lD,?_⟩;refine SE.Ek.go (H1 (v:=v) λw' hx=>⟨_,rfl,λh=>?_,λh=>?_⟩)
 .have e:v.may=false:=by simpa using h
  have:=hR w' xT;simpa[Ver.rank,e]using this
 .have e:v.may=true:=by simpa using h
  refine⟨_,lD,?_⟩;refine⟨_,lD,?_⟩;refine⟨_,lD,?_⟩;have hm:=Ver.may_iff.1 e;rw[Ag (x:=v.ma*1000) oM oM,Ag (x:=v.ma*1000+v.mi) oM oM,Ag (x:=(v.ma*1000+v.mi)*1000) oM oM,Ag oM oM];have:=hR w' xT;simpa[Ver.rank,e,Ver.num]using this
def isNaNi_se{x:Int}(hR:R false w):SE.HU x w R:=by unfold SE.HU;simpa using hR
def cmpInt_se{x y:Int}{R:Int->Wp}(hR:R (BC x y) w):SE.DP x y w R:=by
 unfold SE.DP;refine SE.HU.go (isNaNi_se ⟨_,rfl,SE.HU.go (isNaNi_se ⟨_,rfl,⟨λh=>(by cases h),λ_=>⟨λh=>(by cases h),λ_=>⟨λh=>?_,λh=>⟨λh'=>?_,λh'=>?_⟩⟩⟩⟩⟩)⟩)
 .simpa[BC,h]using hR
 .simpa[BC,h,h']using hR
 .simpa[BC,h,h']using hR
def A7(a b:Bs):Int:=if Ao a b then -1 else if Ai a b then 0 else 1
def Tp{l:List Int}{R:Int->Wp}(hs:SlR Cd w S s l)(hR:R (l.foldr AN 0) w):SE.Ez s w R:=by
 unfold SE.Ez;refine⟨λi w'=>w'=w/\0<=i/\i<=l.length/\(l.drop i.toNat).foldr AN 0=l.foldr AN 0,λi _=>l.length - i.toNat,⟨rfl,oM,oM,rfl⟩,?_⟩;rintro i w' ⟨rfl,h0,h1,h2⟩;have hl:=hs.len;refine⟨λa0=>?_,λa5=>?_⟩
 .obtain⟨x,hx⟩:∃x,l[i.toNat]?=some x:=⟨_,dt oM⟩;obtain⟨ad,cs,ha,hS,⟨rfl,_⟩,hc⟩:=hs.get hx;have hd:l.drop i.toNat=x::l.drop (i.toNat+1):=by obtain⟨hl,he⟩:=fh.1 hx;rw[<-he];exact(fu hl)
  rw[hd,List.foldr_cons]at h2;refine⟨ad,⟨ha,h0,a0⟩,x,hc.pre rfl,λa4=>?_,λhe=>?_⟩
  .rw[AN,if_neg a4]at h2;rw[h2];exact hR
  .have he:x=0:=ji.1 he;rw[AN,if_pos he]at h2;have:=hs.2.2.1;have:=hs.2.1;rw[Jn h0 a0 oM];have e:(i+1).toNat=i.toNat+1:=oM;exact⟨⟨rfl,oM,oM,by rw[e];exact h2⟩,by show l.length - (i+1).toNat<l.length - i.toNat;omega⟩
 .rw[jp oM]at h2;rw[<-h2]at hR;exact hR
end Go.Hal
/-
 DERIVED:THE SHELF's CONTRACTS AT THIS DUMP,IN PLAIN WORDS (tools/lay-plain.mjs out of 'YtkndmcejjebjfaaGreatDoorLay.lean',which tools/lay-shelf.mjs wrote):THE SAME DECLARATIONS UNDER THE SAME NAMES:'import','namespace','open','def','theorem' AND NOTHING ELSE:no command of the shelf's:FOR A HAND-IN. Each laying:the table of numbers ('.._ren') and one theorem,a field a fact of the dump's own or the kernel's comparison;each contract:ONE APPLICATION.
-/
namespace Go.Proofs
def Tryz.layTL_ren:Go.Shelf.Ren:=⟨λ|161=>159|231=>251|227=>252|233=>253|235=>254|228=>318|197=>319|151=>320|260=>368|152=>369|137=>399|119=>400|224=>401|225=>402|217=>416|266=>434|n=>n,λ|9=>9|4=>4|3=>3|5=>5|117=>317|116=>316|0=>0|124=>320|105=>371|21=>21|119=>424|46=>180|139=>427|138=>426|n=>n,λ|3=>2|4=>3|n=>n⟩
def Tryz.layTL:Go.Proofs.Lays.n161 prog Tryz.layTL_ren:=by repeat' first|kernel_rfl|(intro w;kernel_rfl)|constructor
def Tryz.layTr_ren:Go.Shelf.Ren:=⟨λ|160=>160|232=>255|231=>251|227=>252|234=>256|233=>253|236=>257|235=>254|228=>318|271=>321|151=>320|197=>319|120=>370|152=>369|260=>368|137=>399|119=>400|224=>401|225=>402|217=>416|266=>434|n=>n,λ|9=>9|4=>4|3=>3|5=>5|117=>317|116=>316|0=>0|124=>320|21=>21|105=>371|46=>180|119=>424|139=>427|138=>426|n=>n,λ|3=>2|4=>3|n=>n⟩
def Tryz.layTr:Go.Proofs.Lays.n160 prog Tryz.layTr_ren:=by repeat' first|kernel_rfl|(intro w;kernel_rfl)|constructor
def Tryz.layBS_ren:Go.Shelf.Ren:=⟨λ|169=>81|n=>n,λ|70=>156|9=>9|0=>0|72=>159|37=>157|127=>241|3=>3|5=>5|n=>n,λ|n=>n⟩
def Tryz.layBS:Go.Proofs.Lays.n169 prog Tryz.layBS_ren:=by repeat' first|kernel_rfl|(intro w;kernel_rfl)|constructor
def Tryz.layJo_ren:Go.Shelf.Ren:=⟨λ|156=>245|165=>313|166=>78|169=>81|240=>156|241=>363|276=>249|277=>396|n=>n,λ|31=>73|9=>9|3=>3|4=>4|0=>0|20=>20|72=>159|76=>162|70=>156|37=>157|75=>161|127=>241|164=>311|5=>5|80=>170|n=>n,λ|n=>n⟩
def Tryz.layJo:Go.Proofs.Lays.n156 prog Tryz.layJo_ren:=by repeat' first|kernel_rfl|(intro w;kernel_rfl)|constructor
def Tryz.layIt_ren:Go.Shelf.Ren:=⟨λ|171=>80|243=>157|246=>250|283=>314|284=>315|285=>316|286=>317|129=>173|317=>364|318=>365|319=>366|320=>367|337=>397|338=>398|n=>n,λ|3=>3|9=>9|2=>2|4=>4|171=>366|0=>0|53=>255|37=>157|5=>5|173=>368|212=>405|51=>253|20=>20|213=>406|46=>180|232=>438|233=>439|n=>n,λ|17=>1|18=>4|19=>5|n=>n⟩
def Tryz.layIt:Go.Proofs.LaysM.n171 prog Tryz.layIt_ren:=by repeat' first|kernel_rfl|(intro w;kernel_rfl)|constructor
def Tryz.layCo_ren:Go.Shelf.Ren:=⟨λ|106=>69|213=>144|265=>237|n=>n,λ|9=>9|3=>3|n=>n,λ|n=>n⟩
def Tryz.layCo:Go.Proofs.Lays.n106 prog Tryz.layCo_ren:=by repeat' first|kernel_rfl|(intro w;kernel_rfl)|constructor
end Go.Proofs
namespace Go.Hal
def Je(a:Bs):a.toList.length=a.size:=by rw[toList_data,Gf]
def Pf{a:Bs}{i:Int}(h0:0<=i)(h:i<a.size):∃x:UInt8,a.toList[i.toNat]?=some x/\Ct a i=(x.toNat:Int):=by obtain⟨n,rfl⟩:=Int.eq_ofNat_of_zero_le h0;have hn:n<a.size:=oM;refine⟨_,?_,XU hn⟩;rw[toList_data,ec];exact dt (by rw[Gf];exact hn)
def less_se(a b:Bs)(w:Wd)(R:Bool->Wp)(ha:Ac a)(hR:∀w',Ext w w'->R (Ao a b) w'):SE.Il a b w R:=by
 unfold SE.Il;refine⟨λi w'=>Ext w w'/\0<=i/\i<=a.size/\i<=b.size/\a.toList.take i.toNat=b.toList.take i.toNat,λi _=>a.size - i.toNat,⟨Ext.refl _,oM,oM,oM,rfl⟩,?_⟩;rintro i w1 ⟨hx,h0,h1,h2,h3⟩;have sa:a.toList=a.toList.take i.toNat++a.toList.drop i.toNat:=(fo _ _).symm;have sb:b.toList=a.toList.take i.toNat++b.toList.drop i.toNat:=by rw[h3];exact(fo _ _).symm
 have a5:Ao a b=Op.bytesLess (a.toList.drop i.toNat) (b.toList.drop i.toNat):=by have:=Yf (a.toList.take i.toNat) (a.toList.drop i.toNat) (b.toList.drop i.toNat);rw[<-sa,<-sb]at this;exact this
 rintro b1 a4;refine⟨λhb=>?_,λhb=>?_⟩
 .simp only[a4,dx,decide_eq_true_eq]at hb;obtain⟨x,a6,ea⟩:=Pf h0 hb.1;obtain⟨y,a7,eb⟩:=Pf h0 hb.2;have da:a.toList.drop i.toNat=x::a.toList.drop (i.toNat+1):=by obtain⟨hl,he⟩:=fh.1 a6;rw[<-he];exact(fu hl)
  have db:b.toList.drop i.toNat=y::b.toList.drop (i.toNat+1):=by obtain⟨hl,he⟩:=fh.1 a7;rw[<-he];exact(fu hl)
  rintro w2 rfl;refine⟨⟨h0,hb.1⟩,⟨h0,hb.2⟩,λa8=>?_,λhe=>?_⟩
  .rintro w3 rfl;refine⟨⟨h0,hb.1⟩,⟨h0,hb.2⟩,?_⟩;have a0:x≠y:=λh=>a8 (by rw[ea,eb,h]);have:decide (Ct a i<Ct b i)=Ao a b:=by
    rw[a5,da,db,ea,eb];show _=(decide (x<y)||(x==y&&_));have:(x==y)=false:=by simpa using a0
    rw[this,Bool.false_and,Bool.or_false];simp[UInt8.lt_iff_toNat_lt]
   rw[this];exact hR _ ((hx.trans (Ext.drew _)).trans (Ext.drew _))
  .have a0:x=y:=(by rw[ji,ea,eb]at he;exact UInt8.toNat_inj.1 oM);rw[Jn h0 hb.1 ha];refine⟨⟨hx.trans (Ext.drew _),oM,oM,oM,?_⟩,by show a.size - (i+1).toNat<a.size - i.toNat;omega⟩;have e:(i+1).toNat=i.toNat+1:=oM;rw[e,List.take_add_one,List.take_add_one,h3,a6,a7,a0]
 .have:decide ((a.size:Int)<(b.size:Int))=Ao a b:=by
   simp only[a4,mh,decide_eq_false_iff_not]at hb;rw[a5];by_cases hc:i=a.size
   .have:a.toList.drop i.toNat=[]:=jp (by rw[Je];omega);rw[this];cases hd:b.toList.drop i.toNat with
    |nil=>have hl:=congrArg List.length hd;rw[fx,Je]at hl;simp only[ia]at hl;show _=false;simp;omega
    |cons y r=>have hl:=congrArg List.length hd;rw[fx,Je]at hl;simp only[fl]at hl;show _=true;simp;omega
   .have:b.toList.drop i.toNat=[]:=jp (by rw[Je];omega);rw[this];have:Op.bytesLess (a.toList.drop i.toNat) []=false:=(by cases a.toList.drop i.toNat<;>rfl);rw[this];simp;omega
  rw[this];exact hR _ hx
def cutA:Bs:=bm #[97,98,99,100,101,102,103,104,105,106,107,108,109,110,111,112,113,114,115,116,117,118,119,120,121,122]
def cutB:Bs:=bm #[97,98,99,100,101,102,103,104,105,106,107,108,109,110,111,112,113,114,115,116,117,118,119,120,121,122,48,49,50,51,52,53,54,55,56,57,45]
set_option maxRecDepth 100000 in
def YV(b:UInt8):cutA.data.toList.contains b=AP b:=by have:=OR (λb=>cutA.data.toList.contains b==AP b) (by decide+kernel) b;simpa using this
set_option maxRecDepth 100000 in
def YW(b:UInt8):cutB.data.toList.contains b=BS b:=by have:=OR (λb=>cutB.data.toList.contains b==BS b) (by decide+kernel) b;simpa using this
def Zkb{s:Bs}{k:Value->Wp}(hk:∀w',Ext w w'->k (.string ⟨(s.data.toList.dropWhile AP).toArray⟩) w'):callS prog 159 [.string s,.string cutA] w k:=by
 have h:=Any.strings_TrimLeft_laid Tryz.layTL kR s cutA w dC (ascii_of_all dC);have e:Lib.trimLeftS s.data.toList cutA.data.toList=s.data.toList.dropWhile AP:=by unfold Lib.trimLeftS;congr 1;funext b;exact YV b
 rw[e]at h;exact h.mono λe w' ⟨he,hb⟩=>⟨_,he,hk w' hb⟩
def Zkd{s:Bs}{k:Value->Wp}(hs:Ac s)(hk:∀w',Ext w w'->k (.string ⟨(Lib.trimS s.data.toList cutB.data.toList).toArray⟩) w'):callS prog 160 [.string s,.string cutB] w k:=
 (Any.strings_Trim_laid Tryz.layTr kR s cutB w hs dC (ascii_of_all dC)).mono λe w' ⟨he,hb⟩=>⟨_,he,hk w' hb⟩
def T1{α:Type}(p:α->Bool)(l:List α):l.dropWhile p=[]↔l.all p=true:=by
 induction l with
 |nil=>simp
 |cons x r ih=>
  rw[oh,mq];cases h:p x
  .simp
  .simpa using ih
def Pi{α:Type}[BEq α][LawfulBEq α][DecidableEq α](a b:α):(a==b)=decide (a=b):=by rw[gk];simp
def WG(l:LU):(Lib.trimS l cutB.data.toList=[])↔l.all BS=true:=by
 have e:(λb=>cutB.data.toList.contains b)=BS:=funext YW;unfold Lib.trimS Lib.trimLeftS Lib.trimRightS;simp only[e];rw[T1];constructor
 .intro h;have h2:l.reverse.dropWhile BS=[]:=by
   cases hd:l.reverse.dropWhile BS with
   |nil=>rfl
   |cons x r=>
    rw[hd]at h;have h3:=im.1 h x sI;have h4:∀m:LU,m.dropWhile BS=x::r->BS x=false:=by
     intro m;induction m with
     |nil=>intro h;cases h
     |cons y t ih=>
      rw[oh];cases hy:BS y
      .intro h;simp at h;rw[<-h.1];exact hy
      .intro h;exact ih (by simpa using h)
    rw[h4 _ hd]at h3;cases h3
  rw[T1]at h2;exact im.2 λx hx=>im.1 h2 x (List.mem_reverse.2 hx)
 .intro h;refine im.2 λx hx=>?_;have:x∈l.reverse:=(nh _).mem (List.mem_reverse.1 hx);exact im.1 h x (List.mem_reverse.1 this)
def Ze2(s:Bs):Af s=((!Ai s ⟨#[]⟩&&decide (s.size<=16))&&(!Ai ⟨(s.data.toList.dropWhile AP).toArray⟩ s&&(s.data.toList.dropWhile AP).all BS)):=by
 unfold Af;rw[Bool.and_comm];have hb:∀l:LU,Ai ⟨l.toArray⟩ s=decide (l=s.data.toList):=by intro l;unfold Ai;rw[toList_data,toList_data];exact Pi ..
 cases h0:(!Ai s ⟨#[]⟩&&decide (s.size<=16))
 .rfl
 .rw[ie,ie,hb,toList_data];have a0:s.data.toList≠[]:=by
   intro h;simp only[dx]at h0;have:Ai s ⟨#[]⟩=true:=by unfold Ai;rw[toList_data,toList_data,h];rfl
   rw[this]at h0;exact absurd h0.1 dC
  cases hs:s.data.toList with
  |nil=>exact absurd hs a0
  |cons c r=>
   unfold CH;rw[oh];cases hc:AP c
   .show(AP c&&_)=_;rw[hc,if_neg sI];simp
   .have hl: ¬r.dropWhile AP=c::r:=(by intro h;have:=(nh AP (l:=r)).length_le;rw[h]at this;simp at this;omega);simp only[if_true,decide_eq_false hl,Bool.not_false,ie];have:r=r.takeWhile AP++r.dropWhile AP:=(lx ..).symm;have ht:(r.takeWhile AP).all BS=true:=im.2 λx hx=>Zd8 (by have:=List.all_takeWhile (p:=AP) (l:=r);exact im.1 this x hx);rw[hc,ie]
    calc r.all BS=(r.takeWhile AP++r.dropWhile AP).all BS:=by rw[<-this]
     _=_:=by rw[pz,ht,ie]
def scanName_se{s:Bs}(hs:Ac s)(hR:∀w',Ext w w'->R (Af s) w'):SE.CA s w R:=by
 unfold SE.CA;refine Zkb λw1 x1=>⟨_,rfl,bound (bound (bound ?_))⟩;have a0:Ac ⟨(s.data.toList.dropWhile AP).toArray⟩:=by have h1:=(nh AP (l:=s.data.toList)).length_le;have h2:=Gf ⟨(s.data.toList.dropWhile AP).toArray⟩;have h3:=Gf s;simp only[qb]at h2;unfold Ac at*;omega
 refine gCall.intro ⟨(Lib.trimS (s.data.toList.dropWhile AP) cutB.data.toList).toArray⟩ (λ_ q hq=>Zkd a0 λw' hx=>⟨_,rfl,hq _ hx⟩) λt w2 x2 ht=>?_;have:(((!Ai s ⟨#[]⟩)&&decide ((s.size:Int)<=16))&&(!Ai ⟨(s.data.toList.dropWhile AP).toArray⟩ s)&&Ai t ⟨#[]⟩)=Af s:=by
  rw[Ze2];have e:decide ((s.size:Int)<=16)=decide (s.size<=16):=by rw[decide_eq_decide];omega
  rw[e]at ht ⊢;rw[pg];cases h1:(!Ai s ⟨#[]⟩&&decide (s.size<=16))
  .rfl
  .cases h2:(!Ai ⟨(s.data.toList.dropWhile AP).toArray⟩ s)
   .rfl
   .rw[ht (by rw[h1,h2];rfl),ie,ie,ie];have h3:Ai (⟨(Lib.trimS (s.data.toList.dropWhile AP) cutB.data.toList).toArray⟩:Bs) ⟨#[]⟩=decide (Lib.trimS (s.data.toList.dropWhile AP) cutB.data.toList=[]):=by unfold Ai;rw[toList_data,toList_data];exact Pi ..
    rw[h3];cases h4:(s.data.toList.dropWhile AP).all BS
    .exact decide_eq_false λh=>by rw[WG]at h;rw[h]at h4;cases h4
    .exact decide_eq_true ((WG _).2 h4)
 rw[this];exact hR _ xT
def r04Name_se{s:Bs}(hs:Ac s)(hR:∀w',Ext w w'->R (Af s) w'):SE.GV s w R:=by
 unfold SE.GV;refine⟨λi w'=>w'=w/\0<=i/\i<=s.size/\CH (s.toList.take i.toNat)=true,λi _=>s.size - i.toNat,⟨rfl,oM,oM,rfl⟩,?_⟩;rintro i w' ⟨rfl,h0,h1,h2⟩;refine⟨λa0=>⟨⟨h0,a0⟩,bound ⟨λ_=>⟨h0,a0⟩,⟨h0,a0⟩,bound ⟨λ_=>⟨h0,a0⟩,bound ⟨λ_=>⟨h0,a0⟩,bound (bound ?_)⟩⟩⟩⟩,λa6=>bound ?_⟩
 .obtain⟨x,hx,ex⟩:=Pf h0 a0;rw[ex];have a5:CH (s.toList.take (i.toNat+1))=(if i.toNat=0 then AP x else BS x):=by
   rw[List.take_add_one,hx];show CH (_++[x])=_;rw[Ze0,h2,ie];have:s.toList.take i.toNat=[]↔i.toNat=0:=by
    rw[List.take_eq_nil_iff];constructor
    .rintro(h|h)
     .exact h
     .rw[h]at hx;cases hx
    .exact .inl
   by_cases hc:i.toNat=0
   .rw[if_pos hc,if_pos (this.2 hc)]
   .rw[if_neg hc,if_neg (λh=>hc (this.1 h))]
  have a4:((!(decide ((97:Int)<=(x.toNat:Int))&&decide ((x.toNat:Int)<=122)))&&((i==0)||(!((decide ((48:Int)<=(x.toNat:Int))&&decide ((x.toNat:Int)<=57))||((x.toNat:Int)==45)))))= !(if i.toNat=0 then AP x else BS x):=by
   have e1:(decide ((97:Int)<=(x.toNat:Int))&&decide ((x.toNat:Int)<=122))=AP x:=(by unfold AP;congr 1<;>rw[decide_eq_decide]<;>omega);have e2:(decide ((48:Int)<=(x.toNat:Int))&&decide ((x.toNat:Int)<=57))=(decide (48<=x.toNat)&&decide (x.toNat<=57)):=(by congr 1<;>rw[decide_eq_decide]<;>omega);have e3:((x.toNat:Int)==45)=decide (x.toNat=45):=(by rw[Pi,decide_eq_decide];omega);rw[e1,e2,e3];by_cases hc:i.toNat=0
   .rw[if_pos hc];have:(i==0)=true:=by simp;omega
    rw[this];cases AP x<;>rfl
   .rw[if_neg hc];have:(i==0)=false:=by simp;omega
    rw[this];unfold BS;cases AP x<;>rfl
  rw[a4,<-a5];refine⟨λh=>?_,λh=>?_⟩
  .have:Af s=false:=by
    unfold Af;cases hp:CH s.toList
    .rfl
    .rw[<-fo (i.toNat+1) s.toList]at hp;rw[Zey hp]at h;cases h
   rw[<-this];exact hR _ xR
  .rw[Jn h0 a0 hs];have e:(i+1).toNat=i.toNat+1:=oM;refine⟨⟨rfl,oM,oM,?_⟩,by show s.size - (i+1).toNat<s.size - i.toNat;omega⟩;rw[e];cases hp:CH (s.toList.take (i.toNat+1))
   .rw[hp]at h;cases h
   .rfl
 .have hi:i.toNat=s.toList.length:=by rw[Je];omega
  rw[hi,eh]at h2;have:((!Ai s ⟨#[]⟩)&&decide ((s.size:Int)<=16))=Af s:=by unfold Af;rw[h2,ie];congr 1;rw[decide_eq_decide];omega
  rw[this];exact hR _ xR
def B(l:LU):Bs:=⟨l.toArray⟩
def Fa(l:LU):(B l).data.toList=l:=rfl
def H6(l:LU):(B l).toList=l:=by rw[toList_data];rfl
def Ad(l:LU):(B l).size=l.length:=by rw[<-Gf];rfl
def GG{a b:Bs}(h:a.data.toList=b.data.toList):a=b:=by obtain⟨⟨a⟩⟩:=a;obtain⟨⟨b⟩⟩:=b;simp at h;rw[h]
def Ew(s:Bs):s=B s.toList:=by rw[toList_data];exact GG rfl
def Pa(a b:Bs):(a++b).data.toList=a.data.toList++b.data.toList:=by rw[ByteArray.data_append];simp
def AX(a b:LU):B a++B b=B (a++b):=GG (by rw[Pa,Fa,Fa,Fa])
def B6(a:LU)(b:Array UInt8):B a++ByteArray.mk b=B (a++b.toList):=GG (by rw[Pa,Fa,Fa])
def Dt(a:Array UInt8)(b:LU):ByteArray.mk a++B b=B (a.toList++b):=GG (by rw[Pa,Fa,Fa])
def AL(a:Array UInt8):(ByteArray.mk a).size=a.size:=rfl
def Ar:Ak=9223372036854775807:=rfl
def dec(n:Int):LU:=Lib.decDigits n.toNat
def HV{n:Int}(h0:0<=n)(h1:n<10):dec n= [UInt8.ofNat (48+n.toNat)]:=by unfold dec;rw[Lib.decDigits,dif_pos oM]
def JF{n:Int}(h1:10<=n):dec n=dec (n/10)++[UInt8.ofNat (48+(n%10).toNat)]:=by
 unfold dec;rw[Lib.decDigits,dif_neg oM];congr 2
 .omega
 .congr 2;omega
def DC{n:Int}(h0:0<=n)(h1:n<=999):(dec n).length<=3:=by
 by_cases h:n<10
 .rw[HV h0 h];simp
 .rw[JF oM,du];by_cases h':n/10<10
  .rw[HV oM h'];simp
  .rw[JF oM,HV oM oM];simp
def AG(v:Ver):LU:=if v.may then(((dec v.ma++[46])++dec v.mi)++[46])++dec v.pa else []
def Dz(v:Ver):(AG v).length<=11:=by
 unfold AG;split
 .rename_i h;have h:=Ver.may_iff.1 h;have:=DC h.1.1 h.1.2;have:=DC h.2.1.1 h.2.1.2;have:=DC h.2.2.1 h.2.2.2;simp;omega
 .simp
def AA(x:Span):LU:=
 if x.lo=x.hi then AG x.lo
 else if x.lo.rank=0/\x.hi.rank=999999999 then [42]
 else if x.lo.rank=0 then [60,61]++AG x.hi
 else if x.hi.rank=999999999 then [62,61]++AG x.lo
 else(([62,61]++AG x.lo)++[32,60,61])++AG x.hi
def Qt(x:Span):(AA x).length<=27:=by
 have h1:=Dz x.lo;have h2:=Dz x.hi;unfold AA;split
 .omega
 .split
  .simp
  .split
   .simp;omega
   .split<;>simp<;>omega
def BH:LS->LU
 | []=>[]
 | [x]=>AA x
 |x::y::r=>AA x++([32,124,124,32]++BH (y::r))
def Cb(l:LS):LU:=if AO l then(if l=[]then [60,48,46,48,46,48]else BH l)else []
def Zc2(l:LS)(x:Span):BH (l++[x])=(if l=[]then AA x else(BH l++[32,124,124,32])++AA x):=by
 induction l with
 |nil=>rfl
 |cons y r ih=>
  cases r with
  |nil=>show AA y++([32,124,124,32]++AA x)=_;simp[BH]
  |cons z t=>show AA y++([32,124,124,32]++BH ((z::t)++[x]))=_;rw[ih];simp[BH]
def NB(l:LS):(BH l).length<=31*l.length:=by
 induction l with
 |nil=>simp[BH]
 |cons y r ih=>
  have:=Qt y;cases r with
  |nil=>simp[BH];omega
  |cons z t=>simp only[BH,du,fl,ia]at ih ⊢;omega
def NY(l:LS):(Cb l).length<=2000:=by
 unfold Cb;split
 .rename_i h;unfold AO at h;simp at h;have:=NB l;split<;>simp<;>omega
 .simp
def GN(word:LU)(d:Dep):LU:=((((word++[32])++d.name.toList)++[32])++Cb d.range)++[10]
def B3(word:LU)(l:LD):LU:=(l.map (GN word)).flatten
def wNeeds:LU:=[110,101,101,100,115]
def My:LU:=[98,101,115,105,100,101]
def wLikes:LU:=[108,105,107,101,115]
def Ip(n:Bs)(v:Ver):LU:=((([112,97,99,107,97,103,101,32]++n.toList)++[32])++AG v)++[10]
def CR(p:Pack):LU:=((Ip p.name p.v++B3 wNeeds p.deps)++B3 My p.peers)++B3 wLikes p.opt
def FJ:Option Bs->Bs->Bool
 |none,_=>true
 |some n,m=>Ao n m
def Bb:Option Bs->LD->Bool
 |_,[]=>true
 |prev,d::r=>Af d.name&&AO d.range&& !d.range.isEmpty&&FJ prev d.name&&Bb (some d.name) r
def Av(l:LD):Bool:=Bb none l&&decide (l.length<=16)
def BF(a b:LD):Bool:=!a.any λx=>b.any λy=>decide (x.name=y.name)
def Fi(p:Pack):Bool:=BF p.deps p.peers&&BF p.deps p.opt&&BF p.peers p.opt
def C5(p:Pack):Bool:=Af p.name&&p.v.may&&Av p.deps&&Av p.peers&&Av p.opt
def AQ(p:Pack):Bool:=C5 p&&(Fi p&&decide ((CR p).length<=4096))
def P5(word:LU)(l:LD)(d:Dep):B3 word (l++[d])=B3 word l++GN word d:=by simp[B3]
def CG{n:Bs}(h:Af n=true):n.toList.length<=16:=by unfold Af at h;simp at h;rw[toList_data,Gf];exact h.2.2
def Zj{l:LD}(h:Bb p l=true):∀d∈l,Af d.name=true/\AO d.range=true/\d.range≠[]:=by
 induction l generalizing p with
 |nil=>intro d hd;cases hd
 |cons x r ih=>
  intro d hd;rw[Bb]at h;simp only[dx]at h;obtain rfl|hd:=ga.1 hd
  .exact⟨h.1.1.1.1,h.1.1.1.2,by have:=h.1.1.2;simp at this;exact this⟩
  .exact ih h.2 d hd
def Zg{word:LU}(hw:word.length<=8){d:Dep}(h:Af d.name=true):(GN word d).length<=2030:=by have:=CG h;have:=NY d.range;simp only[GN,du,fl,ia];omega
def DE{word:LU}(hw:word.length<=8){l:LD}(h:∀d∈l,Af d.name=true):(B3 word l).length<=2030*l.length:=by
 induction l with
 |nil=>simp[B3]
 |cons x r ih=>have h1:=ih λd hd=>h d (mc _ hd);have h2:=Zg hw (h x (jj ..));simp only[B3,ib,jc,du,fl]at h1 ⊢;omega
def JI(prev:Option Bs)(d:Dep):Bool:=Af d.name&&AO d.range&& !d.range.isEmpty&&FJ prev d.name
def DH:Option Bs->LD->Option Bs
 |p,[]=>p
 |_,d::r=>DH (some d.name) r
def Zk(l:LD):∀(p:Option Bs)(d:Dep),Bb p (l++[d])=(Bb p l&&JI (DH p l) d):=by
 induction l with
 |nil=>intro p d;simp[Bb,JI,DH]
 |cons x r ih=>intro p d;rw[gu,Bb,Bb,ih];exact(pg ..).symm
def Zdi(l:LD):∀(p:Option Bs)(d:Dep),DH p (l++[d])=some d.name:=by
 induction l with
 |nil=>intro p d;rfl
 |cons x r ih=>intro p d;exact ih _ d
def Zi{l k:LD}(h:Bb p (l++k)=true):Bb p l=true:=by
 induction l generalizing p with
 |nil=>rfl
 |cons y r ih=>rw[gu,Bb]at h;rw[Bb];simp only[dx]at h ⊢;exact⟨h.1,ih h.2⟩
def T5{l:LD}(h:Bb none (l.take i)=false):Av l=false:=by
 unfold Av;cases hg:Bb none l
 .rfl
 .rw[<-fo i l]at hg;rw[Zi hg]at h;cases h
def T6{l:LD}(hn:n<l.length)(hI:Bb none (l.take n)=true):Bb none (l.take (n+1))=JI (DH none (l.take n)) l[n]:=by rw[dw hn,Zk,hI,ie]
def U2{l:LD}(hn:n+1<l.length):DH none (l.take (n+1))=some l[n].name:=by rw[dw oM,Zdi]
def BX{l:LD}(h:Av l=true):l.length<=16/\∀d∈l,Af d.name=true/\AO d.range=true/\d.range≠[]:=by unfold Av at h;simp only[dx,decide_eq_true_eq]at h;exact⟨h.2,Zj h.1⟩
def Zkf{x:Int}(h0:0<=x)(h1:x<=255):IntKind.u8.wrap x=x:=by simp only[IntKind.wrap,IntKind.bits,IntKind.signed,Bool.false_and];have e1:(2:Int)^ 8=256:=rfl;simp[e1];omega
def Pw{x:Int}(hb:BoxAt w a [.int .u8 x]):Cz prog (Go.convert 157 9 (Sl.v (Sl.mk (some a) 1 1))) w (.string (B [UInt8.ofNat x.toNat])):=λw' hx=>by obtain⟨b,o,s⟩:=a;obtain⟨t,ho,hs,hh⟩:=hb;simp only at ho hs hh;subst ho hs;have a0:BoxAt w' ⟨b,0,none⟩ [.int .u8 x]:=BoxAt.ext ⟨t,rfl,rfl,hh⟩ hx;exact run_convert_bytes_arg w' 157 5 underlying157 underlying5 b 0 1 1 [x] rfl (λi hi=>by have:i=0:=oM;subst this;have:=a0.ldc 0 (.int .u8 x) rfl;exact this) _ underlying9
def r02Number_se:∀(N:Nat){n:Int}{w:Wd}{R:Bs->Wp},0<=n->n.toNat<N->n<=999->(∀w',Ext w w'->R (B (dec n)) w')->SE.Fv n w R
 |0,n,w,R,_,h,_,_=>by omega
 |N+1,n,w,R,h0,hN,h9,hR=>by
  have a0:∀m:Int,0<=m->m<10->IntKind.u8.wrap (Aa (48+m))=48+m:=λm h1 h2=>by rw[Ag oM oM,Zkf oM oM]
  have dl:∀m:Int,0<=m->UInt8.ofNat (48+m).toNat=UInt8.ofNat (48+m.toNat):=λm h1=>by congr 1;omega
  unfold SE.Fv;refine⟨λa4=>?_,λa6=>?_⟩
  .rw[a0 n h0 a4];refine newS.intro λa w1 x1 hb _ _=>⟨_,Pw hb,?_⟩;rw[dl n h0,<-HV h0 a4];exact hR _ xT
  .have hq:n.tdiv 10=n/10:=nu h0;have hm:Int.tmod n 10=n%10:=Int.tmod_eq_emod_of_nonneg h0;rw[hq,hm,Ag oM oM,a0 (n%10) oM oM];have hl:=DC (n:=n/10) oM oM;have a5:((((B (dec (n/10))).size+(B [UInt8.ofNat (48+n%10).toNat]).size:Nat):Int)<=Ak):=(by rw[Ad,Ad,Ar];simp;omega);have hv:B (dec (n/10))++B [UInt8.ofNat (48+n%10).toNat]=B (dec n):=(by rw[AX,dl _ oM,<-JF oM]);refine join.intro (bnd.drew λw1 x1=>⟨?_,?_⟩)
   .refine callX.intro (SE.Fv.go (r02Number_se N oM oM oM λw2 x2=>⟨x2,_,rfl,newS.intro λa w3 x3 hb _ _=>⟨_,Pw hb,a5,?_⟩⟩));rw[hv];exact hR _ xT
   .refine newS.intro λa w3 x3 hb _ _=>⟨_,Pw hb,callX.intro (SE.Fv.go (r02Number_se N oM oM oM λw2 x2=>⟨x2,_,rfl,a5,?_⟩))⟩;rw[hv];exact hR _ xT
def NV{v:Ver}{R:Bs->Wp}(hR:∀w',Ext w w'->R (B (AG v)) w'):SE.FR v.ma v.mi v.pa w R:=by
 unfold SE.FR;refine newS.intro λ_ w1 x1 hb _ _=>?_;refine⟨_,_,_,lD,?_⟩;refine SE.Fu.go (r02May_se λw2 x2=>⟨_,rfl,λh=>?_,λh=>bnd.drew λw3 x3=>?_⟩)
 .have e:v.may=false:=by simpa using h
  have:AG v=[]:=by unfold AG;rw[e];rfl
  have hr:=hR w2 xT;rw[this]at hr;exact hr
 .have e:v.may=true:=by simpa using h
  have hm:=Ver.may_iff.1 e;have l1:=DC hm.1.1 hm.1.2;have l2:=DC hm.2.1.1 hm.2.1.2;have l3:=DC hm.2.2.1 hm.2.2.2;have hv:AG v=(((dec v.ma++[46])++dec v.mi)++[46])++dec v.pa:=by unfold AG;rw[e];rfl
  refine⟨_,lD,?_⟩;refine⟨_,lD,?_⟩;refine⟨_,lD,?_⟩;refine callX.intro (SE.Fv.go (r02Number_se 1000 hm.1.1 oM hm.1.2 λw4 x4=>⟨x4,_,rfl,?_⟩));refine⟨by rw[Ad,AL,Ar];simp;omega,callX.intro (SE.Fv.go (r02Number_se 1000 hm.2.1.1 oM hm.2.1.2 λw5 x5=>⟨x5,_,rfl,?_⟩))⟩;simp only[B6,AX];refine⟨by rw[Ad,Ad,Ar];simp;omega,by rw[Ad,AL,Ar];simp;omega,SE.Fv.go (r02Number_se 1000 hm.2.2.1 oM hm.2.2.2 λw6 x6=>⟨_,rfl,?_⟩)⟩;simp only[AX];refine⟨by rw[Ad,Ad,Ar];simp;omega,?_⟩;have hr:=hR w6 xT;rw[hv]at hr;exact hr
def Tab(w:Wd):Prop:=Lib.TabIs prog w "internal/strconv.uint64pow10" .u64 Lib.pow10Tab
def Zjz(hg:prog.globalNamed "internal/strconv.uint64pow10" =some g)(h:Tab w)(hk:w'.heap[g]? =w.heap[g]?):Tab w':=by unfold Tab Lib.TabIs World.var? at*;rw[hg]at h ⊢;simp only[my]at h ⊢;rw[hk];exact h
def Tab.ext(h:Tab w)(hx:Ext w w'):Tab w':=by
 have hv:=h;unfold Tab Lib.TabIs World.var? at hv;cases hg:prog.globalNamed "internal/strconv.uint64pow10" with
 |none=>rw[hg]at hv;cases hv
 |some g=>
  rw[hg]at hv;simp only[my]at hv;refine Zjz hg h (hx.block ?_);cases hh:w.heap[g]? with
  |none=>rw[hh]at hv;cases hv
  |some o=>exact(fa.1 hh).1
def NA{n:Int}{k:Value->Wp}(h0:0<=n)(h1:n<=999)(ht:Tab w)(hk:∀w',Ext w w'->k (.string (B (dec n))) w'):callS prog 80 [vi n] w k:=by
 have h:=Any.strconv_Itoa Tryz.layIt n oM oM w ht;have e:Lib.itoa n=dec n:=by unfold Lib.itoa dec;rw[if_neg oM]
 rw[e]at h;refine h.mono λe w' ⟨he,q,os,hw⟩=>⟨_,he,hk w' ?_⟩;subst hw;exact⟨rfl,rfl,rfl,by show w.heap.size<=(w.heap++os).size;simp,λb hb=>by show(w.heap++os)[b]?=w.heap[b]?;rw[jl hb]⟩
def versPrint_se{v:Ver}{R:Bs->Wp}(ht:Tab w)(hR:∀w',Ext w w'->R (B (AG v)) w'):SE.DJ v.ma v.mi v.pa w R:=by
 unfold SE.DJ;refine newS.intro λ_ w1 x1 hb _ _=>?_;refine⟨_,_,_,lD,?_⟩;refine SE.Ek.go (H1 (v:=v) λw2 x2=>⟨_,rfl,λh=>?_,λh=>bnd.drew λw3 x3=>?_⟩)
 .have e:v.may=false:=by simpa using h
  have:AG v=[]:=by unfold AG;rw[e];rfl
  have hr:=hR w2 xT;rw[this]at hr;exact hr
 .have e:v.may=true:=by simpa using h
  have hm:=Ver.may_iff.1 e;have l1:=DC hm.1.1 hm.1.2;have l2:=DC hm.2.1.1 hm.2.1.2;have l3:=DC hm.2.2.1 hm.2.2.2;have hv:AG v=(((dec v.ma++[46])++dec v.mi)++[46])++dec v.pa:=by unfold AG;rw[e];rfl
  refine⟨_,lD,?_⟩;refine⟨_,lD,?_⟩;refine⟨_,lD,?_⟩;refine callX.intro (NA hm.1.1 hm.1.2 (ht.ext xT) λw4 x4=>⟨x4,_,rfl,?_⟩);refine⟨by rw[Ad,AL,Ar];simp;omega,callX.intro (NA hm.2.1.1 hm.2.1.2 (ht.ext xT) λw5 x5=>⟨x5,_,rfl,?_⟩)⟩;simp only[B6,AX];refine⟨by rw[Ad,Ad,Ar];simp;omega,by rw[Ad,AL,Ar];simp;omega,NA hm.2.2.1 hm.2.2.2 (ht.ext xT) λw6 x6=>⟨_,rfl,?_⟩⟩;simp only[AX];refine⟨by rw[Ad,Ad,Ar];simp;omega,?_⟩;have hr:=hR w6 xT;rw[hv]at hr;exact hr
open Go.ChangeShapes Go.WideShapes Go.ChangeAt
def own:ownKnob prog.godebug=none:=kR
def U5{H:Type}:DataW H->LV
 | .lit (.int k n)=>[.int k n]
 |_=> []
def Zh0{H:Type}:DataW H->LV
 | .agg l=>l.flatMap λd=>match d with
  | .agg m=>m.flatMap U5
  |d=>U5 d
 |_=> []
def Zdl(P:Program)(h:Array Obj)(x:String×DataW Unit):Array Obj:=match P.globalNamed x.1 with
 |some g=>match x.2 with
  | .iface _ (.ptr (.agg [.lit (.string s)]))=>(h.push (.cells #[.string ⟨s.toArray⟩] 467)).modify g fun
   | .cells _ t fr=>.cells #[.iface 465 (.pointer (some ⟨h.size,0,none⟩))] t fr
   |o=>o
  |d=>h.modify g fun
   | .cells _ t fr=>.cells (Zh0 d).toArray t fr
   |o=>o
 |none=>h
def Zdk(P:Program)(l:List (String×DataW Unit))(h:Array Obj):Array Obj:=l.foldl (Zdl P) h
def K8:List (String×DataW Unit):=Go.Proofs.YtkndmcejjebjfaaGreatDoor.Rows.editBackRow.laid
noncomputable def K9 (os:Os):Wd:={World.holding prog os ⟨#[],#[],[]⟩with heap:=Zdk prog K8 (World.holding prog os ⟨#[],#[],[]⟩).heap}
set_option maxRecDepth 100000 in
def Zde(os:Os)(args:Array Value):laidMet prog K8 ((K9 os).forCall (λ_ _=>0) ⟨#[],args,[]⟩).memory:=laidMet_of_run' 8 kR kR
set_option maxRecDepth 100000 in
def Zdg(os:Os)(args:Array Value):((K9 os).forCall (λ_ _=>0) ⟨#[],args,[]⟩).variablesB prog=true:=kR
set_option maxRecDepth 100000 in
def Zdf(os:Os)(args:Array Value):(((K9 os).forCall (λ_ _=>0) ⟨#[],args,[]⟩).heap.toList.drop prog.globals.size).take ((begin prog (λ_ _=>0) default).world.heap.size - prog.globals.size)=
  (begin prog (λ_ _=>0) default).world.heap.toList.drop prog.globals.size:=kR
def Zbq: ∃g t,prog.globalNamed "internal/strconv.uint64pow10" =some g∧(prog.globals[g]?).map (·.type)=some t∧prog.underlying t=some (.array 20 255)∧prog.cellsOf t=20:=⟨1,405,kR,kR,kR,kR⟩
def tab_of{W:Wd}(h:laidMetH prog K8 W):Tab W:=by obtain⟨g,t,h1,h2,h3,h4⟩:=Zbq;rw[MakeChecks.laidMetH_plain _ _ _ kR]at h;exact Lib.tabIs_of_head h1 h2 h3 underlying255 kR h4 (laidMet.tail (laidMet.tail h))
def XF{a b:Bool}(h1:a=true)(h2:b=true):(a&&b)=true:=by rw[h1,h2];rfl
def Sr{cs:Array Value}{l:LV}(h:(Value.agg cs).cells.toList=l):cs=l.toArray:=by have:cs.toList=l:=h;rw[<-this]
end Go.Hal
namespace Go.Proofs.YtkndmcejjebjfaaGreatDoor
open Go.ChangeShapes Go.WideShapes Go.ChangeAt
def Nm:Tryz.f3.params.toList= [27,29]:=by rw[Tryz.params3]
def Z1:joinedFacts Tryz.pinned.checked.prog 3 Tryz.f3 (OpenSpec.ofChange Rows.editBackSpec).bare Rows.editBackRow=true:=by
 unfold joinedFacts
 repeat' with_reducible refine XF ?_ ?_
 all_goals (as_aux_lemma=>kernel_rfl)
def Z4(f:FuncId)(fn:Func)(hf:Tryz.pinned.checked.prog.funcNamed "halyard/halyardlaw19.EditBack" =some f)(a4:Tryz.pinned.checked.prog.funcs[f]? =some fn):
  true=Tryz.pinned.checked.prog.looks []/\∀(j:Nat) t,fn.params[j]?=some t->Tryz.pinned.checked.prog.wantsStandIn t=false:=by
 obtain rfl:f=3:=jm ((show prog.funcNamed "halyard/halyardlaw19.EditBack" =some 3 by kernel_rfl).symm.trans hf)|>.symm;obtain rfl:fn=Tryz.f3:=(jm (func3.symm.trans a4)).symm;refine⟨kR,λj t ht=>?_⟩;have hm:t∈Tryz.f3.params.toList:=by rw[←Array.getElem?_toList]at ht;exact gv ht
 have a0:(Tryz.f3.params.toList.all λt=>!prog.wantsStandIn t)=true:=kR;have:=im.1 a0 t hm;exact(show prog.wantsStandIn t=false by simpa using this)
end Go.Proofs.YtkndmcejjebjfaaGreatDoor
namespace Go.Proofs.YtkndmcejjebjfaaGreatDoor
def Zby(h:P.funcs.any Func.goes=false)(c:OpenClaim)(hs:c.start= .entering):false=c.goesBy P:=by
 have h1:∀g:FuncId,(P.funcs[g]?).any Func.goes=false:=λg=>by
  cases hg:P.funcs[g]? with
  |none=>rfl
  |some fn=>obtain⟨hl,rfl⟩:=fa.1 hg;have:=Array.any_eq_false.1 h g hl;simpa using this
 have h2:∀f,P.goes f=false:=λf=>by unfold Program.goes;rw[h,Bool.and_false,Bool.or_false,kg];intro g _;rw[h1];simp
 unfold OpenClaim.goesBy Program.goesAt Program.goesFrom;rw[hs];cases P.funcNamed c.func with
 |none=>rfl
 |some f=>simp[h2]
def Z6:Rows.editBackRow.wfByText (OpenSpec.ofChange Rows.editBackSpec)=true:=kR
def Z3:Tryz.pinned.checked.prog.mainIs=some (Rows.editBackCard.stood.harness.1,Rows.editBackCard.stood.harness.2.toList):=kR
def Z2:false=Rows.editBackRow.goesBy Tryz.pinned.checked.prog:=Zby kR _ rfl
end Go.Proofs.YtkndmcejjebjfaaGreatDoor
namespace Go.Hal
def Tu(b:Nat)(A B:Wd):Prop:=A.grownBy B (some b)
def OH(ks:List Nat)(A B:Wd):Prop:=∀k∈ks,B.heap[k]?=A.heap[k]?
def WZ(r:Option Nat):Fence:={Fence.wide with round:=r}
def Tu.put(W:Wd)(l:Nat)(o:Obj):Tu l W (W.putObj l o):=grownBy_putObj' W l o
def Tu.alloc(W:Wd)(b:Nat)(o:Obj):Tu b W (W.alloc o):=World.grownBy_alloc W o _
def Tu.at{b k:Nat}{A B:Wd}{o:Obj}(h:Tu b A B)(hk:A.heap[k]?=some o)(a0:k≠b):B.heap[k]?=some o:=(World.grownBy.block h k (fa.1 hk).1 (by simpa using a0)).trans hk
def Si{α:Type}(n:Nat)(P:Program)(gf:Nat)(lb:Array Value)(enc:α->Value)(zs:List α)(bs:Nat)(ks:List Nat)(w0:Wd):Prop:=
 ∀(l:Nat)(J:Nat->Wp)(Jx:Wp)(W:Wd),OH ks w0 W->(∀k A B,J k A->Tu bs A B->J k B)->(∀A B,Jx A->Tu bs A B->Jx B)->
  (∀k (h:k<zs.length) W1,J k W1->YieldAt Fence.wide (n - 1) P l #[enc zs[k]] W1 λe W'=>
   (e= .returned (.bool true)/\J (k+1) W'/\OH ks W1 W')\/(e= .returned (.bool false)/\Jx W'))->
  J 0 W->CallsIn Fence.wide n P gf (#[.func (.yield l) #[] #[]]++lb) W λe W'=>(∃v,e= .returned v)/\(J zs.length W'\/Jx W')
def Zf9(l:Nat)(ks:List Nat)(I:Nat->Wp)(Ix:Code->Wp)(k:Nat)(W:Wd):Exit->Act->Wp
 | .normal,_,W'=>W'.heap[l]?=W.heap[l]? /\OH ks W W'/\I k W'
 | .ret,_,W'=>W'.heap[l]?=W.heap[l]? /\Ix .ret W'
 | .exit id,_,W'=>W'.heap[l]?=W.heap[l]? /\Ix (.exit id) W'
 |_,_,_=>False
def V7{α:Type}{g:Operand}{ps:Array Tmp}{assign body:Code}{Q:Exit->Act->Wp}{a:Act}{w₀:Wd}{r₀:Option Nat}{mark:List Deferred}{D:Nat}
  (he:∀fn,(Instr.enterLoop fn a.tmps ps assign body r₀).run P w= .ok (w₀.heap.size,mark) (w₀.alloc (.loop {state:=.ready,pending:=none,fn,tmps:=a.tmps,params:=ps,assign,body,defers:=D})))
  {gf:Nat} {lb:Array Value} (hg:a.eval g= .func (.func gf) #[] lb) (eg:∀args w,(callFunc gf args).run P w= .ok (.enter gf args) w)
  {enc:α->Value} {zs:List α} {bs:Nat} {ks:List Nat} (c4:Si (n - 1) P gf lb enc zs bs ks w₀) (c7:ps.size=1)
  (c9:bs<w₀.heap.size) (b7:∀k∈ks,k<w₀.heap.size)
  (I:Nat->Wp) (Ix:Code->Wp) (hI:∀k A B b,(b=bs\/b=w₀.heap.size)->I k A->Tu b A B->I k B) (a9:∀c A B b,(b=bs\/b=w₀.heap.size)->Ix c A->Tu b A B->Ix c B)
  (h0:I 0 w₀) (a₁:α->Act)
  (a6:∀(x:α)(W:Wd)(K:Act->Wp),K (a₁ x) W->
   assign.wpIn (Fence.wide.inRound w₀.heap.size) (n - 1 - 1) P (Exit.then K (λ_ _ _=>False)) {tmps:=(ps.zip #[enc x]).foldl (λt (p,v)=>t.setIfInBounds p v) a.tmps,defers:=[]} W)
  (b4:∀k (h:k<zs.length) (W:Wd),(∃r:Loop,W.heap[w₀.heap.size]?=some (.loop r)/\r.defers=D)->I k W->
   body.wpIn (Fence.wide.inRound w₀.heap.size) (n - 1 - 1) P (Zf9 w₀.heap.size ks I Ix (k+1) W) (a₁ zs[k]) W)
  (b5:∀W,I zs.length W->Q .normal {a with defers:=mark++a.defers} W)
  (b6:∀c W,Ix c W->c.wpIn (WZ r₀) n P Q {a with defers:=mark++a.defers} W):
  (Code.rangeFunc g ps assign body).wpIn (WZ r₀) n P Q a w:=by
 refine wpIn_rangeFunc λfn d0=>?_;generalize hl:w₀.heap.size=l at*;obtain⟨a5,a0⟩:∃a5:LoopState->Option Code->Loop,a5=λst pe=>{state:=st,pending:=pe,fn,tmps:=a.tmps,params:=ps,assign,body,defers:=D}:=⟨_,rfl⟩;obtain⟨W1,b0⟩:∃W1,w₀.alloc (.loop (a5 .ready none))=W1:=⟨_,rfl⟩;have c5:W1.heap[l]?=some (.loop (a5 .ready none)):=by rw[<-b0,<-hl];exact World.alloc_heap_new w₀ _
 refine⟨l,mark,W1,{target:=.fn (.func gf) lb,args:=#[.func (.yield l) #[] #[]]},W1,gf,#[.func (.yield l) #[] #[]]++lb,W1,?_,?_,λ_ _=>trivial,?_,nO,?_⟩
 .rw[<-b0,a0];exact he fn
 .simp only[resolve,hg];simp[go_sem]
 .simp[invoke,go_sem,eg]
 have c3:l≠bs:=oM;refine CallsIn.mono (c4 l (λk W=>I k W/\W.heap[l]?=some (.loop (a5 .ready none))) (λW=>∃c,Ix c W/\W.heap[l]?=some (.loop (a5 .done (some c)))) W1 ?_ ?_ ?_ ?_ ⟨?_,c5⟩) ?_
 .intro k hk;rw[<-b0];exact Below.heap_alloc _ _ _ (by rw[hl];exact b7 k hk)
 .exact λk A B ⟨h1,h2⟩ ht=>⟨hI k A B bs (.inl rfl) h1 ht,ht.at h2 c3⟩
 .exact λA B ⟨c,h1,h2⟩ ht=>⟨c,a9 c A B bs (.inl rfl) h1 ht,ht.at h2 c3⟩
 .rintro k hk W ⟨hi,hL⟩;have hy:=run_yield (P:=P) (args:=#[enc zs[k]]) hL (by rw[a0];exact c7.symm);rw[a0]at hy;refine⟨fn,_,assign,body,hy,roundIn_of_wpIn trivial (a6 _ W _ ⟨_,run_beginRound hL (by rw[a0]),?_⟩)⟩;have c6:=(fa.1 hL).1;have b8:(W.putObj l (.loop {a5 .ready none with state:=.busy})).heap[l]?=some (.loop {a5 .ready none with state:=.busy}):=World.putObj_heap_same c6;refine wpIn_mono (b4 k hk _ ⟨_,b8,by rw[a0]⟩ (hI k _ _ l (.inr rfl) hi (Tu.put W l _))) ?_;have fin:∀(a4:Option Code)(W3:Wd),W3.heap[l]?=(W.putObj l (.loop {a5 .ready none with state:=.busy})).heap[l]? ->
    (Instr.endRound l a4).run P W3= .ok (.bool a4.isNone) (W3.putObj l (.loop (a5 (if a4.isNone then .ready else .done) a4)))/\
    (W3.putObj l (.loop (a5 (if a4.isNone then .ready else .done) a4))).heap[l]?=some (.loop (a5 (if a4.isNone then .ready else .done) a4)):=λa4 W3 h3=>by
   have b9:=h3.trans b8;have:=run_endRound (P:=P) a4 b9;rw[a0]at this ⊢;exact⟨this,World.putObj_heap_same (fa.1 b9).1⟩
  have b2:∀k∈ks,k≠l:=λk hk=>Nat.ne_of_lt (b7 k hk);rintro e a3 W3 hp;cases e with
  |normal=>obtain⟨h3,c8,a7⟩:=hp;obtain⟨hr,a8⟩:=fin none W3 h3;exact⟨_,_,hr,.inl ⟨rfl,⟨hI _ _ _ l (.inr rfl) a7 (Tu.put _ _ _),a8⟩,λj hj=>by rw[World.putObj_heap_other (b2 j hj),c8 j hj,World.putObj_heap_other (b2 j hj)]⟩⟩
  |ret=>obtain⟨h3,a7⟩:=hp;obtain⟨hr,a8⟩:=fin (some .ret) W3 h3;exact⟨_,_,hr,.inr ⟨rfl,.ret,a9 _ _ _ l (.inr rfl) a7 (Tu.put _ _ _),a8⟩⟩
  |exit id=>obtain⟨h3,a7⟩:=hp;obtain⟨hr,a8⟩:=fin (some (.exit id)) W3 h3;exact⟨_,_,hr,.inr ⟨rfl,.exit id,a9 _ _ _ l (.inr rfl) a7 (Tu.put _ _ _),a8⟩⟩
  |goto t=>exact hp.elim
  |panic ch=>exact hp.elim
  |outgrown=>exact hp.elim
 .rw[<-b0];exact hI 0 _ _ l (.inr rfl) h0 (Tu.alloc _ _ _)
 .rintro e W2 ⟨⟨v,rfl⟩,(⟨hi,hL⟩|⟨c,hi,hL⟩)⟩
  .exact⟨none,_,by have:=run_endLoop (P:=P) hL (by rw[a0];simp);rw[a0]at this;exact this,b5 _ (hI _ _ _ l (.inr rfl) hi (Tu.put _ _ _))⟩
  .exact⟨some c,_,by have:=run_endLoop (P:=P) hL (by rw[a0];simp);rw[a0]at this;exact this,b6 c _ (a9 c _ _ l (.inr rfl) hi (Tu.put _ _ _))⟩
def Zb2(tmps:Array Value)(ps:Array Tmp)(assign body:Code)(fn:FuncId):(Instr.enterLoop fn tmps ps assign body none).run P w=
  .ok ((w.alloc (.deferred (some []))).heap.size,[{target:=.collected w.heap.size,args:=#[]}]) ((w.alloc (.deferred (some []))).alloc (.loop {state:=.ready,pending:=none,fn,tmps,params:=ps,assign,body,defers:=w.heap.size})):=by
 rw[World.size_alloc];exact run_enterLoop_outer _ _ _ _ _
end Go.Hal
/-
 DERIVED:THE SHELF's CONTRACTS AT THIS DUMP,IN PLAIN WORDS (tools/lay-plain.mjs out of 'YtkndmcejjebjfaaGreatDoorLay9.lean',which tools/lay-shelf.mjs wrote):THE SAME DECLARATIONS UNDER THE SAME NAMES:'import','namespace','open','def','theorem' AND NOTHING ELSE:no command of the shelf's:FOR A HAND-IN. Each laying:the table of numbers ('.._ren') and one theorem,a field a fact of the dump's own or the kernel's comparison;each contract:ONE APPLICATION.
-/
namespace Go.Proofs
def Tryz.layIx_ren:Go.Shelf.Ren:=⟨λ|143=>380|219=>406|217=>416|225=>402|224=>401|267=>417|266=>434|314=>435|n=>n,λ|9=>9|3=>3|4=>4|5=>5|46=>180|146=>453|51=>253|n=>n,λ|1=>0|n=>n⟩
def Tryz.layIx:Go.Proofs.Lays.n143 prog Tryz.layIx_ren:=by repeat' first|kernel_rfl|(intro w;kernel_rfl)|constructor
def Tryz.laySS_ren:Go.Shelf.Ren:=⟨λ|146=>381|221=>407|268=>418|138=>419|143=>380|195=>436|197=>319|218=>437|219=>406|260=>368|217=>416|225=>402|224=>401|267=>417|266=>434|314=>435|n=>n,λ|9=>9|31=>73|3=>3|4=>4|0=>0|105=>371|21=>21|5=>5|46=>180|119=>424|139=>427|138=>426|146=>453|51=>253|n=>n,λ|1=>0|3=>2|4=>3|n=>n⟩
def Tryz.laySS:Go.Proofs.Lays.n146 prog Tryz.laySS_ren:=by repeat' first|kernel_rfl|(intro w;kernel_rfl)|constructor
def Tryz.layAt_ren:Go.Shelf.Ren:=⟨λ|172=>382|244=>408|245=>409|247=>420|279=>421|280=>422|281=>423|282=>424|287=>438|316=>439|171=>80|205=>440|321=>444|322=>445|243=>157|246=>250|283=>314|284=>315|285=>316|286=>317|129=>173|317=>364|318=>365|319=>366|320=>367|337=>397|338=>398|n=>n,λ|9=>9|3=>3|75=>161|76=>162|4=>4|5=>5|167=>441|37=>157|0=>0|85=>442|2=>2|168=>444|53=>255|175=>456|46=>180|210=>460|127=>241|145=>467|143=>465|21=>21|171=>366|173=>368|212=>405|51=>253|20=>20|213=>406|232=>438|233=>439|80=>170|n=>n,λ|15=>6|16=>7|17=>1|18=>4|19=>5|n=>n⟩
def Tryz.layAt:Go.Proofs.LaysC.n172 prog Tryz.layAt_ren:=by repeat' first|kernel_rfl|(intro w;kernel_rfl)|constructor
end Go.Proofs
namespace Go.Hal
def Wh{sep:Bs}(h1:1<=sep.size):∀(k j:Nat)(s:Bs),s.size<=k->s.size<=j->Lib.splitB sep 0 k s=Lib.splitB sep 0 j s
 |k,j,s,hk,hj=>by
  rcases Lib.indexB_cases s sep with a0|⟨i,a0,a4⟩
  .rw[Lib.splitB_miss _ _ _ _ a0,Lib.splitB_miss _ _ _ _ a0]
  .match k,j with
   |0,_=>omega
   |k+1,0=>omega
   |k+1,j+1=>rw[Lib.splitB_hit _ _ _ _ i a0,Lib.splitB_hit _ _ _ _ i a0,Wh h1 k j _ (by rw[kw];omega) (by rw[kw];omega)]
termination_by k=>k
def Au(sep s:Bs):List Bs:=Lib.splitB sep 0 s.size s
def Tz{sep s:Bs}(h:Lib.indexB s sep= -1):Au sep s= [s]:=Lib.splitB_miss _ _ _ _ h
def Ty{sep s:Bs}(h1:1<=sep.size)(h:Lib.indexB s sep=i)(hr:i+sep.size<=s.size):Au sep s=s.extract 0 i::Au sep (s.extract (i+sep.size) s.size):=by unfold Au;obtain⟨k,hk⟩:∃k,s.size=k+1:=⟨s.size - 1,oM⟩;rw[hk,Lib.splitB_hit _ _ _ _ i h,<-hk,jz];rw[Wh h1 k (s.extract (i+sep.size) s.size).size _ (by rw[kw];omega) nR]
attribute [local go_sem] Oper.semAt_some
def Zjv:Option Value->Nat
 |some (.string s)=>s.size
 |_=>0
def Zju:Option Obj->Nat
 |some (.cells cs _ _)=>Zjv cs[0]?
 |_=>0
def Boxed.same{A B:Wd}{b:Nat}{v:Value}(h:Boxed A b t v)(hs:B.heap[b]?=A.heap[b]?):Boxed B b t v:=hs.trans h
set_option maxRecDepth 100000 in
def Wk(n:Nat)(hn:1<=n)(sep:Bs)(h1:1<=sep.size)(bp bs bz:Nat)(c5:bp≠bs)(c6:bz≠bs)(text:Bs)(ht:text.size<=4096)(m:Int)(gm:bs≠0)(w0:Wd)
  (hp:Boxed w0 bp 9 (.string sep)) (hs:Boxed w0 bs 9 (.string text)) (hz:Boxed w0 bz 3 (.int .i64 0)) (hm:w0.cell? ⟨0,0,none⟩=some (.int .i64 m)):
  Si n prog 379 #[.pointer (some ⟨bp,0,none⟩),.pointer (some ⟨bs,0,none⟩),.pointer (some ⟨bz,0,none⟩)] Value.string (Au sep text) bs [bp,bs,bz,0] w0:=by
 intro l J Jx W a4 hJ d3 hY h0;have kp:=Boxed.same hp (a4 bp sI);have ks:=Boxed.same hs (a4 bs sI);have kz:=Boxed.same hz (a4 bz sI);have km:W.cell? ⟨0,0,none⟩=some (.int .i64 m):=(World.cell?_of_block (a4 _ sI)).trans hm;have d5:((sep.size:Int)==0)=false:=beq_eq_false_iff_ne.2 oM;have d0:=kp.cell;clear a4 hp hs hz hm;refine callsIn_of_wp func379 rfl trivial ?_ rfl;simp only[Tryz.ntmps379,iv,fl,ia,Nat.reduceAdd,Nat.reduceSub,ku,kr,lw,kx,ig,gu]
 gi_wp2
 gi_loopw [] (λwr=>∃(k:Nat) (rest:Bs),J k wr/\Boxed wr bp 9 (.string sep)/\Boxed wr bs 9 (.string rest)/\Boxed wr bz 3 (.int .i64 0)/\wr.cell? ⟨0,0,none⟩=some (.int .i64 m)/\rest.size<=4096/\(Au sep text).drop k=Au sep rest)
  (λwr=>Zju (wr.heap[bs]?))
 case atStart=>exact⟨0,text,h0,kp,ks,kz,km,ht,rfl⟩
 case round=>
  obtain⟨k,rest,b7,kp,ks,kz,km,d4,a0⟩:=hrel;have cp:=kp.cell;have cs:=ks.cell;have cz:=kz.cell;rcases Lib.indexB_cases rest sep with a9|⟨i,a9,b6⟩
  .have b2:=Tz a9;have hk:k+1=(Au sep text).length:=(by have:=congrArg List.length a0;rw[b2,fx]at this;simp only[fl,ia]at this;omega);have a5:(Au sep text)[k]=rest:=by have:=kf (xs:=Au sep text) (i:=k) (j:=0) (h:=by rw[a0,b2];simp);simp only[a0,b2,List.getElem_cons_zero,jz]at this;exact this.symm
   obtain⟨fn,tmps,assign,body,hy,hR⟩:=hY k oM wr b7;rw[a5]at hy;have HA:Aside (k+1=(Au sep text).length):=hk;clear hk a0 b2 a5
   gi_wp2_with (refine⟨trivial,?_⟩;gi_at_call 380;refine(callsIn_wide.2 (Any.strings_Index Tryz.layIx rest sep m wr oM km)).mono ?_;rintro e w' ⟨rfl,rfl⟩;rw[show Lib.index rest.data.toList sep.data.toList= -1 from a9])
   refine hR.mono ?_;rintro e W3 (⟨rfl,b5,b0⟩|⟨rfl,a6⟩)
   .gi_wp2
    go_end0
    exact⟨⟨_,rfl⟩,.inl (HA.out▸b5)⟩
   .gi_wp2
    go_end0
    exact⟨⟨_,rfl⟩,.inr a6⟩
  .have a7:=Ty h1 a9 b6;have hk:k<(Au sep text).length:=(by have:=congrArg List.length a0;rw[a7,fx]at this;simp only[fl]at this;omega);have a5:(Au sep text)[k]=rest.extract 0 i:=by have:=kf (xs:=Au sep text) (i:=k) (j:=0) (h:=by rw[a0,a7];simp);simp only[a0,a7,List.getElem_cons_zero,jz]at this;exact this.symm
   have a8:(Au sep text).drop (k+1)=Au sep (rest.extract (i+sep.size) rest.size):=(by rw[<-jw,a0,a7,List.drop_one,List.tail_cons]);obtain⟨fn,tmps,assign,body,hy,hR⟩:=hY k hk wr b7;rw[a5]at hy;have HA:Aside ((Au sep text).drop (k+1)=Au sep (rest.extract (i+sep.size) rest.size)):=a8;clear hk a0 a7 a5 a8;have c0: ¬((i:Int)<0):=oM;have c1:(0:Int)<= ↑i:=oM;have c2:(↑i:Int)<= ↑rest.size:=oM;have c3:(0:Int)<= ↑i+ ↑sep.size:=oM;have c4:(↑i+ ↑sep.size:Int)<= ↑rest.size:=oM;have c8:(↑i+ ↑sep.size:Int)<=9223372036854775807:=oM
   gi_wp2_with (refine⟨trivial,?_⟩;gi_at_call 380;refine(callsIn_wide.2 (Any.strings_Index Tryz.layIx rest sep m wr oM km)).mono ?_;rintro e w' ⟨rfl,rfl⟩;rw[show Lib.index rest.data.toList sep.data.toList=i from a9])
   refine hR.mono ?_;rintro e W3 (⟨rfl,b5,b0⟩|⟨rfl,a6⟩)
   .have b9:=Boxed.same kp (b0 bp sI);have b4:=Boxed.same ks (b0 bs sI);have c7:=Boxed.same kz (b0 bz sI);have b8:W3.cell? ⟨0,0,none⟩=some (.int .i64 m):=(World.cell?_of_block (b0 _ sI)).trans km;have d1:=b9.cell;have d2:=b4.cell;have c9:=b4.frozen
    gi_wp2
    go_roundw
    case rel=>have ht:=grownBy_setCell' W3 bs (.string (rest.extract (i+sep.size) rest.size));exact⟨k+1,rest.extract (i+sep.size) rest.size,hJ _ _ _ b5 ht,b9.kept ht (by simpa using c5),b4.set _,c7.kept ht (by simpa using c6),(World.cell?_of_block (ht.block _ (World.block_lt_of_cell? _ _ b8) (by simp;omega))).trans b8,by rw[kw];omega,HA.out⟩
    case measure=>have e1:=ks;have e2:=b4.set (.string (rest.extract (i+sep.size) rest.size));unfold Boxed at e1 e2;rw[e1,e2];show(rest.extract (i+sep.size) rest.size).size<rest.size;rw[kw];omega
   .gi_wp2
    refine bodyPost_ret (results_none rfl _ _ _) rfl ?_;exact⟨⟨_,rfl⟩,.inr a6⟩
end Go.Hal
namespace Go.Hal
def SN(x:LU):Op.bytesLess x []=false:=by cases x<;>rfl
def MV(a b:UInt8)(x y:LU):Op.bytesLess (a::x) (b::y)=(decide (a<b)||(a==b&&Op.bytesLess x y)):=rfl
def Yc(x:LU):Op.bytesLess x x=false:=by
 induction x with
 |nil=>rfl
 |cons a r ih=>rw[MV,ih];simp
def SO:∀{x y z:LU},Op.bytesLess x y=true->Op.bytesLess y z=true->Op.bytesLess x z=true
 |_,[],_,h,_=>by rw[SN]at h;cases h
 |_,_::_,[],_,h=>by rw[SN]at h;cases h
 | [],_::_,_::_,_,_=>rfl
 |a::x,b::y,c::z,h1,h2=>by
  rw[MV]at h1 h2 ⊢;simp only[ni,decide_eq_true_eq,dx,beq_iff_eq]at h1 h2 ⊢;rcases h1 with h1|⟨rfl,h1⟩
  .rcases h2 with h2|⟨rfl,h2⟩
   .exact .inl (UInt8.lt_trans h1 h2)
   .exact .inl h1
  .rcases h2 with h2|⟨rfl,h2⟩
   .exact .inl h2
   .exact .inr ⟨rfl,SO h1 h2⟩
def SP:∀{x y:LU},Op.bytesLess x y=false->Op.bytesLess y x=false->x=y
 | [],[],_,_=>rfl
 | [],_::_,h,_=>by cases h
 |_::_,[],_,h=>by cases h
 |a::x,b::y,h1,h2=>by
  rw[MV]at h1 h2;simp only[gb,decide_eq_false_iff_not,mh,beq_eq_false_iff_ne]at h1 h2;have e:a=b:=by have:=UInt8.not_lt.1 h1.1;have:=UInt8.not_lt.1 h2.1;exact UInt8.le_antisymm ‹_› ‹_›
  subst e;have:=SP (x:=x) (y:=y) (by simpa using h1.2) (by simpa using h2.2);rw[this]
def Pg(x:Bs):Ao x x=false:=Yc _
def GF{x y z:Bs}(h:Ao x y=true)(k:Ao y z=true):Ao x z=true:=SO h k
def Jz{x y:Bs}(h:Ao x y=false)(k:Ao y x=false):x=y:=by have:=SP h k;rw[toList_data,toList_data]at this;exact GG this
def Fj{x y:Bs}(h:Ao x y=true):x≠y:=λe=>by subst e;rw[Pg]at h;cases h
def MS{x y:Bs}(h:Ao x y=true):Ao y x=false:=by
 cases k:Ao y x
 .rfl
 .have:=GF h k;rw[Pg]at this;cases this
def T3{l:LD}(h:Bb p l=true):l.Pairwise (λx y=>Ao x.name y.name=true)/\(∀n,p=some n->∀x∈l,Ao n x.name=true):=by
 induction l generalizing p with
 |nil=>exact⟨.nil,λ_ _ x hx=>by cases hx⟩
 |cons y r ih=>
  rw[Bb]at h;simp only[dx]at h;obtain⟨a4,a0⟩:=ih h.2;refine⟨ic.2 ⟨λx hx=>a0 _ rfl x hx,a4⟩,λn hn x hx=>?_⟩;subst hn;have hy:Ao n y.name=true:=h.1.2;obtain rfl|hx:=ga.1 hx
  .exact hy
  .exact GF hy (a0 _ rfl x hx)
def HX{l:LD}(h:Av l=true):(l.map (·.name)).Nodup:=by unfold Av at h;simp only[dx]at h;have:=(T3 h.1).1;rw[List.Nodup,iq];exact this.imp λh=>Fj h
def GB{a b:LD}:BF a b=true↔∀x∈a.map (·.name),∀y∈b.map (·.name),x≠y:=by
 unfold BF;rw[kh,kg];constructor
 .intro h x hx y hy e;obtain⟨d,hd,rfl⟩:=gq.1 hx;obtain⟨f,hf,rfl⟩:=gq.1 hy;exact h d hd (jg.2 ⟨f,hf,by simpa using e⟩)
 .intro h d hd a0;obtain⟨f,hf,he⟩:=jg.1 a0;exact h _ (ip hd) _ (ip hf) (by simpa using he)
def XK{p:Pack}(h:C5 p=true):decide ((p.deps++p.peers++p.opt).map (·.name)).Nodup=Fi p:=by
 unfold C5 at h;simp only[dx]at h;obtain⟨⟨⟨_,h1⟩,h2⟩,h3⟩:=h;have n1:=HX h1;have n2:=HX h2;have n3:=HX h3;unfold Fi;rw[gk,decide_eq_true_eq,dx,dx,GB,GB,GB,fq,fq,jb,jb];constructor
 .rintro⟨⟨_,_,a0⟩,_,h3⟩;exact⟨⟨a0,λx hx y hy=>h3 x (iu _ hx) y hy⟩,λx hx y hy=>h3 x (ka _ hx) y hy⟩
 .rintro⟨⟨a0,a4⟩,a5⟩;refine⟨⟨n1,n2,a0⟩,n3,λx hx y hy=>?_⟩;obtain hx|hx:=fk.1 hx
  .exact a4 x hx y hy
  .exact a5 x hx y hy
def JH(b:UInt8):Bool:=decide (48<=b.toNat)&&decide (b.toNat<=57)
def Oz(l:LU):Int:=l.foldl (λn b=>10*n+((b.toNat:Int) - 48)) 0
def Zky(l:LU)(b:UInt8):Oz (l++[b])=10*Oz l+((b.toNat:Int) - 48):=by unfold Oz;rw[List.foldl_append];rfl
def Nj(h:m<10):(UInt8.ofNat (48+m)).toNat=48+m:=by rw[UInt8.toNat_ofNat'];omega
def T2:∀(k:Nat){n:Int},0<=n->n.toNat=k->Oz (dec n)=n:=λk=>by
 induction k using Nat.strongRecOn with
 |ind k ih=>
  intro n h0 hk;by_cases h:n<10
  .rw[HV h0 h];show 10*0+(((UInt8.ofNat (48+n.toNat)).toNat:Int) - 48)=n;rw[Nj oM];omega
  .rw[JF oM,Zky,ih (n/10).toNat oM oM rfl,Nj oM];omega
def Nh{n m:Int}(h0:0<=n)(h1:0<=m)(h:dec n=dec m):n=m:=by rw[<-T2 _ h0 rfl,<-T2 _ h1 rfl,h]
def P4:∀(k:Nat){n:Int},0<=n->n.toNat=k->∀b∈dec n,JH b=true:=λk=>by
 induction k using Nat.strongRecOn with
 |ind k ih=>
  intro n h0 hk b hb;by_cases h:n<10
  .rw[HV h0 h,ep]at hb;subst hb;unfold JH;rw[Nj oM];simp;omega
  .rw[JF oM]at hb;obtain hb|hb:=fk.1 hb
   .exact ih (n/10).toNat oM oM rfl b hb
   .rw[ep]at hb;subst hb;unfold JH;rw[Nj oM];simp;omega
def Za(n:Int):dec n≠[]:=by
 unfold dec;rw[Lib.decDigits];split
 .simp
 .simp
def GM{n:Int}(h0:0<=n):(46:UInt8)∉dec n:=λh=>by have:=P4 _ h0 rfl 46 h;revert this;decide
def W9{c:UInt8}{a r:LU}(ha:c∉a)(hr:r=[]\/∃t,r=c::t):(a++r).takeWhile (λb=>b != c)=a:=by
 rw[px (λb hb=>by simp;rintro rfl;exact ha hb)];rcases hr with rfl|⟨t,rfl⟩
 .simp
 .simp
def SB{c:UInt8}{a b r t:LU}(ha:c∉a)(hb:c∉b)(h:a++c::r=b++c::t):a=b/\r=t:=by have h2:=congrArg (List.takeWhile λb=>b != c) h;rw[W9 ha (.inr ⟨_,rfl⟩),W9 hb (.inr ⟨_,rfl⟩)]at h2;subst h2;exact⟨rfl,(List.cons.inj (List.append_cancel_left h)).2⟩
def Zk8{v u:Ver}(hv:v.may=true)(hu:u.may=true)(h:AG v=AG u):v=u:=by unfold AG at h;rw[if_pos hv,if_pos hu]at h;have hv:=Ver.may_iff.1 hv;have hu:=Ver.may_iff.1 hu;simp only[fg,gu,ig]at h;obtain⟨h1,h⟩:=SB (GM hv.1.1) (GM hu.1.1) h;obtain⟨h2,h3⟩:=SB (GM hv.2.1.1) (GM hu.2.1.1) h;have e1:=Nh hv.1.1 hu.1.1 h1;have e2:=Nh hv.2.1.1 hu.2.1.1 h2;have e3:=Nh hv.2.2.1 hu.2.2.1 h3;obtain⟨a,b,c⟩:=v;obtain⟨a',b',c'⟩:=u;simp only at e1 e2 e3;rw[e1,e2,e3]
def IsVer(s:LU)(v:Ver):Prop:=v.may=true/\AG v=s
def IsVer.one{s:LU}{v u:Ver}(h:IsVer s v)(k:IsVer s u):v=u:=Zk8 h.1 k.1 (h.2.trans k.2.symm)
def IsVer.head{s:LU}{v:Ver}(h:IsVer s v):∃b r,s=b::r/\JH b=true:=by
 obtain⟨hm,rfl⟩:=h;have hv:=Ver.may_iff.1 hm;unfold AG;rw[if_pos hm];cases hd:dec v.ma with
 |nil=>exact absurd hd (Za _)
 |cons b r=>exact⟨b,_,rfl,P4 _ hv.1.1 rfl b (by rw[hd];exact .head _)⟩
def r03rank_se{v:Ver}{R:Int->Wp}(hR:∀w',Ext w w'->R v.rank w'):SE.E6 v.ma v.mi v.pa w R:=by unfold SE.E6;refine newS.intro λ_ _ _ hb _ _=>?_;refine⟨_,_,_,lD,?_⟩;exact SE.Ko.go (r02Rank_se λw' hx=>⟨_,_,rfl,hR _ xT⟩)
def Gh(x:Span):Bool:=x.lo.may&&x.hi.may&&decide (x.lo.rank<=x.hi.rank)
def Dj:Int->LS->Int
 |m,[]=>m
 |_,y::r=>Dj (y.hi.rank+2) r
def Zjc(l:LS):∀(m:Int)(x:Span),BB m (l++[x])=(BB m l&&(Gh x&&decide (Dj m l<=x.lo.rank))):=by
 induction l with
 |nil=>intro m x;simp only[ig,BB,Gh,Dj];cases x.lo.may<;>cases x.hi.may<;>by_cases h1:m<=x.lo.rank<;>by_cases h2:x.lo.rank<=x.hi.rank<;>simp[h1,h2]
 |cons y r ih=>intro m x;rw[gu,BB,BB,ih];exact(pg ..).symm
def Wf(l:LS):∀(m:Int)(x:Span),Dj m (l++[x])=x.hi.rank+2:=by
 induction l with
 |nil=>intro m x;rfl
 |cons y r ih=>intro m x;exact ih _ x
def Zjb{l k:LS}{m:Int}(h:BB m (l++k)=true):BB m l=true:=by
 induction l generalizing m with
 |nil=>rfl
 |cons y r ih=>rw[gu,BB]at h;rw[BB];simp only[dx]at h ⊢;exact⟨h.1,ih h.2⟩
def Rz{l:LS}(h:BB 0 (l.take i)=false):AO l=false:=by
 unfold AO;cases hg:BB 0 l
 .simp
 .rw[<-fo i l]at hg;rw[Zjb hg]at h;cases h
def Wg{l:LS}(hn:n<l.length)(hI:BB 0 (l.take n)=true):BB 0 (l.take (n+1))=(Gh l[n]&&decide (Dj 0 (l.take n)<=l[n].lo.rank)):=by rw[dw hn,Zjc,hI,ie]
def We{l:LS}(h1:l.length<=64)(h2:BB 0 l=true):AO l=true:=by simp[AO,h1,h2]
def spanMay_se{l:LS}(hs:SlR spanE w S s l)(hR:∀w',Ext w w'->R (AO l) w'):SE.Gj s w R:=by
 unfold SE.Gj;have hl:=hs.len;refine⟨λh=>?_,λh=>?_⟩
 .have:AO l=false:=by unfold AO;rw[decide_eq_false oM];rfl
  rw[<-this];exact hR _ xR
 have a5:l.length<=64:=oM;refine loop2.up hs.max (λm i w'=>Ext w w'/\m=Dj 0 (l.take i)/\BB 0 (l.take i)=true) ⟨Ext.refl _,rfl,rfl⟩ λm i w1 b0 hi ⟨x1,hm,hI⟩ hn=>⟨λa6=>?_,λa9=>?_⟩
 .have a0:i<l.length:=oM;obtain⟨ad,ha,_,hc⟩:=EQ hs a0;have a7:=Wg a0 hI;refine⟨ad,⟨ha,oM,a6⟩,_,_,_,_,_,_,hc _ xT,newS.intro λa w2 x2 hb a8 _=>stw0.intro hb sI λw3 b3 _ a4=>?_⟩;have x3:Ext w1 w3:=b3.ext x2 oM;refine⟨_,_,_,a4.at0 xR rfl,SE.FC.go (Mx (v:=l[i].lo) λw4 x4=>⟨_,_,rfl,?_⟩)⟩;refine⟨_,_,_,a4.at1 xT rfl,SE.FC.go (Mx (v:=l[i].hi) λw5 x5=>⟨_,_,rfl,bound (bound (bound ?_))⟩)⟩;have e:((((!l[i].lo.may)||(!l[i].hi.may))||decide (l[i].lo.rank<m))||decide (l[i].hi.rank<l[i].lo.rank))= !BB 0 (l.take (i+1)):=by
   rw[a7,hm,Gh];have e1:decide (l[i].lo.rank<Dj 0 (l.take i))= !decide (Dj 0 (l.take i)<=l[i].lo.rank):=by rw[<-decide_not,decide_eq_decide];omega
   have e2:decide (l[i].hi.rank<l[i].lo.rank)= !decide (l[i].lo.rank<=l[i].hi.rank):=(by rw[<-decide_not,decide_eq_decide];omega);rw[e1,e2];cases l[i].lo.may<;>cases l[i].hi.may<;>cases decide (Dj 0 (l.take i)<=l[i].lo.rank)<;>cases decide (l[i].lo.rank<=l[i].hi.rank)<;>rfl
  rw[e];have hr:=Ver.rank_le (v:=l[i].hi);rw[Ag (x:=l[i].hi.rank+2) oM oM];refine⟨λh=>?_,λh=>hn a0 _ _ ⟨xT,?_,by simpa using h⟩⟩
  .rw[<-Rz (i:=i+1) (by simpa using h)];exact hR _ xT
  .rw[dw a0,Wf]
 .have:i=l.length:=oM;rw[this,eh]at hI;rw[<-We a5 hI];exact hR _ xT
def Zi9{l:LS}(hn:n+1<l.length):Dj 0 (l.take (n+1))=l[n].hi.rank+2:=by rw[dw oM,Wf]
def r03May_se{l:LS}(hs:SlR spanE w S s l)(hR:∀w',Ext w w'->R (AO l) w'):SE.Ik s w R:=by
 unfold SE.Ik;have hl:=hs.len;refine⟨λh=>?_,λh=>?_⟩
 .have:AO l=false:=by unfold AO;rw[decide_eq_false oM];rfl
  rw[<-this];exact hR _ xR
 have b4:l.length<=64:=oM;refine loop1.up hs.max (λi w'=>Ext w w'/\BB 0 (l.take i)=true) ⟨Ext.refl _,rfl⟩ λi w1 c6 hi ⟨x1,hI⟩ hn=>⟨λb8=>bnd.drew λw2 x2=>?_,λc5=>?_⟩
 .have a6:i<l.length:=oM;obtain⟨ad,ha,_,hc⟩:=EQ hs a6;have b0:=Wg a6 hI;have a4:s.a=some ad/\(0:Int)<=(i:Int)/\(i:Int)<(s.len:Int):=⟨ha,oM,b8⟩;refine⟨ad,a4,_,_,_,(hc _ xT).pre rfl,SE.Fu.go (r02May_se λw3 x3=>⟨_,rfl,bound ?_⟩)⟩;refine⟨ad,λ_=>a4,_,_,_,λ_=>(hc _ xT).mid rfl,gCall.intro l[i].hi.may (λ_ q hq=>SE.Fu.go (r02May_se λw' hx=>⟨_,rfl,hq _ hx⟩)) λt w4 x4 ht=>bound ?_⟩;refine⟨ad,λ_=>a4,_,_,_,λ_=>(hc _ xT).pre rfl,ad,λ_=>a4,_,_,_,λ_=>(hc _ xT).mid rfl,?_⟩;refine gCall.intro l[i].lo.rank (λ_ q hq=>callX.intro (SE.E6.go (r03rank_se λw' hx=>⟨hx,_,rfl,hq _ hx⟩))) λt2 w5 x5 a7=>?_;refine gCall.intro l[i].hi.rank (λ_ q hq=>SE.E6.go (r03rank_se λw' hx=>⟨_,rfl,hq _ hx⟩)) λt3 w6 x6 a8=>?_;have e:(((!l[i].lo.may)||(!t))||decide (t3<t2))= !Gh l[i]:=by
   unfold Gh;cases h1:l[i].lo.may
   .rfl
   .rw[h1]at ht a7 a8;rw[ht rfl];rw[ht rfl]at a7 a8;cases h2:l[i].hi.may
    .rfl
    .rw[h2]at a7 a8;rw[a7 rfl,a8 rfl];have e2:decide (l[i].hi.rank<l[i].lo.rank)= !decide (l[i].lo.rank<=l[i].hi.rank):=by rw[<-decide_not,decide_eq_decide];omega
     rw[e2];cases decide (l[i].lo.rank<=l[i].hi.rank)<;>rfl
  rw[e];refine⟨λh=>?_,λh=>bnd.drew λw7 x7=>bound ?_⟩
  .have:BB 0 (l.take (i+1))=false:=by
    rw[b0];have:Gh l[i]=false:=by simpa using h
    rw[this];rfl
   rw[<-Rz this];exact hR _ xT
  have b9:Gh l[i]=true:=by simpa using h
  rw[b9,ie]at b0;have a9:(0:Int)<i->∃h:i - 1<l.length,Aa ((i:Int) - 1)=((i - 1:Nat):Int):=λh0=>⟨oM,by rw[Ag oM (by have:=hs.max;rw[Al]at this;omega)];omega⟩;have a5:∀h0:0<i,Dj 0 (l.take i)=(l[i - 1]'oM).hi.rank+2:=λh0=>by have:=Zi9 (l:=l) (n:=i - 1) oM;rw[<-this];congr 2;omega
  have hd:∃(a0:Addr) (u1 u2 u3:Int),(decide ((0:Int)<(i:Int))=true->(s.a=some a0/\(0:Int)<=Aa ((i:Int) - 1)/\Aa ((i:Int) - 1)<(s.len:Int))/\ldc w7 ((a0.add ((Aa ((i:Int) - 1)).toNat*6)).add 3) [vi u1,vi u2,vi u3]/\(⟨u1,u2,u3⟩:Ver).rank=Dj 0 (l.take i) - 2):=by
   by_cases h0:0<i
   .obtain⟨hp,ew⟩:=a9 oM;obtain⟨b2,b5,_,b6⟩:=EQ hs hp;refine⟨b2,_,_,_,λ_=>⟨by rw[ew];exact⟨b5,oM,oM⟩,by rw[ew];exact(b6 _ xT).mid rfl,?_⟩⟩;rw[a5 h0];show(l[i - 1]'hp).hi.rank=_;omega
   .exact⟨ad,0,0,0,λh=>by simp at h;omega⟩
  obtain⟨a0,u1,u2,u3,hu⟩:=hd;refine⟨ad,λ_=>a4,_,_,_,λ_=>(hc _ xT).pre rfl,a0,λhb=>(hu hb).1,u1,u2,u3,λhb=>(hu hb).2.1,?_⟩;refine gCall.intro l[i].lo.rank (λ_ q hq=>callX.intro (SE.E6.go (r03rank_se λw' hx=>⟨hx,_,rfl,hq _ hx⟩))) λt4 w8 x8 c3=>?_;refine gCall.intro (Dj 0 (l.take i) - 2) (λhb q hq=>SE.E6.go (r03rank_se (v:=⟨u1,u2,u3⟩) λw' hx=>⟨_,rfl,by rw[(hu hb).2.2];exact hq _ hx⟩)) λt5 w9 x9 c4=>?_;have e2:(decide ((0:Int)<(i:Int))&&decide (t4<=Aa (t5+1)))= !BB 0 (l.take (i+1)):=by
   rw[b0];by_cases h0:0<i
   .have hb:decide ((0:Int)<(i:Int))=true:=(by simpa using h0);rw[c3 hb,c4 hb,hb,ie];have h1:=a5 h0;have h2:=Ver.rank_le (v:=l[i - 1].hi);rw[Ag oM oM,<-decide_not,decide_eq_decide];omega
   .have hb:decide ((0:Int)<(i:Int))=false:=(by simp;omega);have b7:i=0:=oM;subst b7;have:=Ver.rank_le (v:=l[0].lo);rw[hb,Bool.false_and,List.take_zero,Dj,decide_eq_true oM];rfl
  rw[e2];refine⟨λh=>?_,λh=>hn a6 _ ⟨xT,by simpa using h⟩⟩;rw[<-Rz (i:=i+1) (by simpa using h)];exact hR _ xT
 .have:i=l.length:=oM;rw[this,eh]at hI;rw[<-We b4 hI];exact hR _ xT
def AU{α:Type}(p:α->Bool)(l:List α):Int:=match l.findIdx? p with|some i=>i|none=>-1
def Fx{α:Type}{p:α->Bool}{l:List α}(hn:n<l.length)(h0:(l.take n).any p=false)(h:p l[n]=true):AU p l=n:=by
 unfold AU;have:l.findIdx? p=some n:=by
  rw[lq];refine⟨hn,h,λj hj=>?_⟩;have hm:l[j]∈l.take n:=by rw[List.mem_take_iff_getElem];exact⟨j,oM,rfl⟩
  have:=kg.1 h0 _ hm;simpa using this
 rw[this]
def E8{α:Type}{p:α->Bool}{l:List α}(h0:l.any p=false):AU p l= -1:=by
 unfold AU;have:l.findIdx? p=none:=by rw[mj];intro x hx;have:=kg.1 h0 x hx;simpa using this
 rw[this]
def Fw{α:Type}{p:α->Bool}{l:List α}:decide (0<=AU p l)=l.any p:=by
 cases h:l.any p
 .rw[E8 h];rfl
 .obtain⟨x,hx,hp⟩:=jg.1 h;unfold AU;cases hf:l.findIdx? p with
  |none=>rw[mj]at hf;rw[hf x hx]at hp;cases hp
  |some i=>simp
def F8{α:Type}{p:α->Bool}{l:List α}(hn:n<l.length)(h0:(l.take n).any p=false):(l.take (n+1)).any p=p l[n]:=by rw[dw hn,List.any_append,h0];simp
def Fg{α:Type}(f:Value)(enc:α->Value)(p:α->Bool)(l:List α)(w:Wd):Prop:=
 ∀x∈l,∀w' (k:Value->Wp),Ext w w'->(∀w'',Ext w' w''->k (.bool (p x)) w'')->callV prog f [enc x] w' k
def idxSpan_se{l:LS}{f:Value}{p:Span->Bool}{R:Int->Wp}(hs:SlR spanE w S s l)(hf:Fg f (λx=>.agg #[vi x.lo.ma,vi x.lo.mi,vi x.lo.pa,vi x.hi.ma,vi x.hi.mi,vi x.hi.pa]) p l w)
  (hR:∀w',Ext w w'->R (AU p l) w'):SE.LZ s f w R:=by
 unfold SE.LZ;have hl:=hs.len;refine loop1.up hs.max (λi w'=>Ext w w'/\(l.take i).any p=false) ⟨Ext.refl _,rfl⟩ λi w1 a6 hi ⟨x1,hI⟩ hn=>⟨λa4=>?_,λa5=>?_⟩
 .have a0:i<l.length:=oM;obtain⟨ad,ha,_,hc⟩:=EQ hs a0;refine⟨ad,⟨ha,oM,a4⟩,_,_,_,_,_,_,hc _ xT,hf _ (ff a0) _ _ x1 λw2 x2=>⟨_,rfl,λh=>?_,λh=>?_⟩⟩
  .rw[<-Fx a0 hI h];exact hR _ xT
  .exact hn a0 _ ⟨xT,by rw[F8 a0 hI];exact h⟩
 .have:i=l.length:=oM;rw[this,eh]at hI;rw[<-E8 hI];exact hR _ xT
def YH{l:LS}{f:Value}{p:Span->Bool}(hs:SlR spanE w S s l)(hf:Fg f (λx=>.agg #[vi x.lo.ma,vi x.lo.mi,vi x.lo.pa,vi x.hi.ma,vi x.hi.mi,vi x.hi.pa]) p l w)
  (hR:∀w',Ext w w'->R (l.any p) w'):SE.LJ s f w R:=by
 unfold SE.LJ;exact SE.LZ.go (idxSpan_se hs hf λw' hx=>⟨_,rfl,by rw[Fw];exact hR _ hx⟩)
def Tn{x y z:Int}{R:Int->Wp}(hs:SlR Cd w S s [x,y,z])(hR:R (AN x (AN y z)) w):SE.Ez s w R:=
 Tp hs (by
  have: [x,y,z].foldr AN 0=AN x (AN y z):=by
   show AN x (AN y (AN z 0))=_;have:AN z 0=z:=by unfold AN;split<;>simp_all
   rw[this]
  rw[this];exact hR)
def MZ{l:List Int}(h:BoxAt w a (l.map (Value.int .i64)))(hl:l.length<=1000):SlR Cd w (λb=>b=a.block) ⟨some a,l.length,l.length⟩ l:=
 ⟨rfl,fm _,by show l.length<=maxLen;rw[Al];omega,by show l.length*8<=Ab;unfold Ab;omega,.inr ⟨a,rfl,rfl,λi x hx=>⟨_,⟨rfl,trivial⟩,by have:=h.ldc.sub i 1;show ldc w (a.add (i*1)) [Value.int .i64 x];rw[pw];refine this.of rfl ?_;obtain⟨hi,he⟩:=fh.1 hx;rw[<-List.map_drop,fu hi,he];rfl⟩⟩⟩
def versCompare_se{a b:Ver}{R:Int->Wp}(hR:∀w',Ext w w'->R (a.cmp b) w'):SE.EZ a.ma a.mi a.pa b.ma b.mi b.pa w R:=by unfold SE.EZ;refine newS.intro λ_ _ _ hb _ _=>newS.intro λ_ _ _ a5 _ _=>bnd.drew λw3 x3=>?_;refine⟨_,lD,?_⟩;refine⟨_,lD,?_⟩;refine⟨_,lD,?_⟩;refine⟨_,lD,?_⟩;refine⟨_,lD,?_⟩;refine⟨_,lD,?_⟩;refine callX.intro (SE.DP.go (cmpInt_se ⟨Ext.refl _,_,rfl,callX.intro (SE.DP.go (cmpInt_se ⟨Ext.refl _,_,rfl,SE.DP.go (cmpInt_se ⟨_,rfl,?_⟩)⟩))⟩));refine newS.intro λa4 w4 x4 a0 _ _=>SE.Ez.go (Tn (MZ (l:=[_,_,_]) a0 sI) ⟨_,rfl,?_⟩);exact hR _ xT
def Zi8{x:Span}{v:Ver}{c0:Addr}(hc:ldc w c0 v.c)(hR:∀w',Ext w w'->R (decide (x.lo.cmp v<=0)&&decide (v.cmp x.hi<=0)) w'):SE.Mf x.lo.ma x.lo.mi x.lo.pa x.hi.ma x.hi.mi x.hi.pa c0 w R:=by
 unfold SE.Mf;refine newS.intro λ_ w1 x1 hb _ _=>?_;refine⟨_,_,_,lD,?_⟩;refine⟨v.ma,v.mi,v.pa,hc.ext x1,SE.EZ.go (versCompare_se (a:=x.lo) (b:=v) λw2 x2=>⟨_,rfl,bound ⟨v.ma,v.mi,v.pa,λ_=>hc.ext xT,x.hi.ma,x.hi.mi,x.hi.pa,λ_=>hb.at1 xT rfl,?_⟩⟩)⟩;refine gCall.intro (v.cmp x.hi) (λ_ q hq=>SE.EZ.go (versCompare_se λw' hx=>⟨_,rfl,hq _ hx⟩)) λt w3 x3 ht=>?_;have e:(decide (x.lo.cmp v<=0)&&decide (t<=0))=(decide (x.lo.cmp v<=0)&&decide (v.cmp x.hi<=0)):=by
  cases h:decide (x.lo.cmp v<=0)
  .rfl
  .rw[ht h]
 rw[e];exact hR _ xT
def ZF:Bn prog 185:=enters_of func185 kR rfl
def Ry{l:LS}{v:Ver}(hs:SlR spanE w S s l)(hR:∀w',Ext w w'->R (BT l v) w'):SE.Hv s v.ma v.mi v.pa w R:=by
 unfold SE.Hv;refine newS.intro λa w1 x1 hb _ _=>SE.Gj.go (spanMay_se (hs.ext x1) λw2 x2=>⟨_,rfl,v.ma,v.mi,v.pa,λ_=>hb.at0 xT rfl,?_⟩);refine gCall.intro v.may (λ_ q hq=>SE.Ek.go (H1 (v:=v) λw' hx=>⟨_,rfl,hq _ hx⟩)) λt w3 x3 ht=>bound ?_;have hf:Fg (.func (.func 185) #[] #[.pointer (some a)]) (λx:Span=>.agg #[vi x.lo.ma,vi x.lo.mi,vi x.lo.pa,vi x.hi.ma,vi x.hi.mi,vi x.hi.pa]) (λx=>decide (x.lo.cmp v<=0)&&decide (v.cmp x.hi<=0)) l w3:=by intro x _ w' k hx hk;refine⟨_,_,rfl,ZF,?_⟩;exact SE.Mf.go (Zi8 (v:=v) (hb.at0 xT rfl) hk)
 refine gCall.intro (l.any _) (λ_ q hq=>SE.LJ.go (YH (hs.ext xT) hf λw' hx=>⟨_,rfl,hq _ hx⟩)) λt2 w4 x4 a0=>?_;have e:((AO l&&t)&&t2)=BT l v:=by
  unfold BT;cases h:AO l
  .rfl
  .rw[h]at ht a0;rw[ht rfl]at a0 ⊢;cases h':v.may
   .rfl
   .rw[h']at a0;rw[a0 rfl];show l.any _=l.any _;have hm:∀x∈l,x.lo.may=true/\x.hi.may=true:=by
     have:∀(l:LS) m,BB m l=true->∀x∈l,x.lo.may=true/\x.hi.may=true:=by
      intro l;induction l with
      |nil=>intro m _ x hx;cases hx
      |cons y r ih=>
       intro m h x hx;rw[BB]at h;simp only[dx]at h;obtain rfl|hx:=ga.1 hx
       .exact⟨h.1.1.1.1,h.1.1.1.2⟩
       .exact ih _ h.2 x hx
     unfold AO at h;simp only[dx]at h;exact this l 0 h.2
    rw[gk,jg,jg];constructor
    .rintro⟨x,hx,hp⟩;refine⟨x,hx,?_⟩;simp only[dx,decide_eq_true_eq,Span.has]at hp ⊢;rwa [Ver.cmp_rank (hm x hx).1 h',Ver.cmp_rank h' (hm x hx).2]at hp
    .rintro⟨x,hx,hp⟩;refine⟨x,hx,?_⟩;simp only[dx,decide_eq_true_eq,Span.has]at hp ⊢;rwa [Ver.cmp_rank (hm x hx).1 h',Ver.cmp_rank h' (hm x hx).2]
 rw[e];exact hR _ xT
def Wb{l:LS}(h:AO l=true):∀x∈l,x.lo.may=true/\x.hi.may=true:=by
 have:∀(l:LS) m,BB m l=true->∀x∈l,x.lo.may=true/\x.hi.may=true:=by
  intro l;induction l with
  |nil=>intro m _ x hx;cases hx
  |cons y r ih=>
   intro m h x hx;rw[BB]at h;simp only[dx]at h;obtain rfl|hx:=ga.1 hx
   .exact⟨h.1.1.1.1,h.1.1.1.2⟩
   .exact ih _ h.2 x hx
 unfold AO at h;simp only[dx]at h;exact this l 0 h.2
def Wc{l:LS}(h:AO l=true):l.length<=64:=by unfold AO at h;simp only[dx,decide_eq_true_eq]at h;exact h.1
def Hk(l:LS)(i:Nat):LU:=BH (l.take i)++(if 0<i then [32,124,124,32]else [])
def Zc3{l:LS}(h:i<l.length):BH (l.take (i+1))=Hk l i++AA l[i]:=by
 rw[dw h,Zc2];unfold Hk;by_cases h0:0<i
 .rw[if_neg,if_pos h0];intro h1;rw[List.take_eq_nil_iff]at h1;obtain h1|h1:=h1
  .omega
  .rw[h1]at h;simp at h
 .have:i=0:=oM;subst this;simp[BH]
def Zga{l:LS}(h:i<=l.length):(Hk l i).length<=31*i+4:=by have:=NB (l.take i);rw[fb,ju h]at this;unfold Hk;split<;>simp<;>omega
def Zgs{l:LS}{R:Bs->Wp}(hs:SlR spanE w S s l)(hR:∀w',Ext w w'->R (B (Cb l)) w'):SE.Kq s w R:=by
 unfold SE.Kq;have hl:=hs.len;refine SE.Ik.go (r03May_se hs λw1 x1=>⟨_,rfl,λh=>?_,λh=>?_⟩)
 .have e:AO l=false:=by simpa using h
  have:Cb l=[]:=by unfold Cb;rw[e];rfl
  have hr:=hR w1 xT;rw[this]at hr;exact hr
 have hm:AO l=true:=by simpa using h
 have b2:=Wc hm;refine⟨λh=>?_,λh=>?_⟩
 .have:Cb l= [60,48,46,48,46,48]:=by unfold Cb;rw[hm,if_pos rfl,if_pos (fj oM)]
  have hr:=hR w1 xT;rw[this]at hr;exact hr
 have a8:l≠[]:=λh0=>h (by rw[hl,h0];rfl);have a9:Cb l=BH l:=by unfold Cb;rw[hm,if_pos rfl,if_neg a8]
 refine loop2.up hs.max (λout i w'=>Ext w w'/\out=B (BH (l.take i))) ⟨xT,rfl⟩ λout i w2 b6 hi ⟨x2,hI⟩ hn=>⟨λa7=>?_,λb4=>?_⟩
 .have a4:i<l.length:=oM;obtain⟨ad,ha,_,hc⟩:=EQ hs a4;obtain⟨m1,m2⟩:=Wb hm _ (ff a4);have a0:s.a=some ad/\(0:Int)<=(i:Int)/\(i:Int)<(s.len:Int):=⟨ha,oM,a7⟩;have b5:=Zga (l:=l) (i:=i) oM;have b0:=Qt l[i];have v1:=Dz l[i].lo;have v2:=Dz l[i].hi;subst hI;refine join.named λJ hJ=>join.named λJ2 a5=>?_;have hk:∀t w3,Ext w w3->t=B (Hk l i++AA l[i])->J t w3:=λt w3 x3 ht=>by rw[hJ];exact hn a4 _ _ ⟨x3,by rw[ht,Zc3 a4]⟩
  have key:∀w3,Ext w w3->J2 (B (Hk l i)) w3:=by
   intro w3 x3;rw[a5];refine⟨ad,a0,_,_,_,(hc _ xT).pre rfl,SE.FR.go (NV (v:=l[i].lo) λw4 x4=>⟨_,rfl,?_⟩)⟩;refine⟨by rw[Ad,AL,Ar];simp;omega,ad,a0,_,_,_,(hc _ xT).mid rfl,SE.FR.go (NV (v:=l[i].hi) λw5 x5=>⟨_,rfl,?_⟩)⟩;refine⟨by rw[Ad,AL,Ar];simp;omega,ad,a0,_,_,_,(hc _ xT).pre rfl,SE.E6.go (r03rank_se (v:=l[i].lo) λw6 x6=>⟨_,rfl,?_⟩)⟩;refine⟨ad,a0,_,_,_,(hc _ xT).mid rfl,SE.E6.go (r03rank_se (v:=l[i].hi) λw7 x7=>⟨_,rfl,bnd.drew λw8 x8=>?_⟩)⟩;refine⟨ad,a0,_,_,_,(hc _ xT).pre rfl,ad,a0,_,_,_,(hc _ xT).mid rfl,?_⟩;rw[Gq];refine⟨λh=>⟨ad,a0,_,_,_,(hc _ xT).pre rfl,SE.FR.go (NV (v:=l[i].lo) λw9 x9=>⟨_,rfl,?_⟩)⟩,λh=>bound ⟨λh2=>?_,λh2=>?_⟩⟩
   .have e:AA l[i]=AG l[i].lo:=by unfold AA;rw[if_pos (by simpa using h)]
    refine⟨by rw[Ad,Ad,Ar];omega,hk _ _ xT (by rw[e,AX])⟩
   .have e:AA l[i]= [42]:=by unfold AA;rw[if_neg (by simpa using h),if_pos (by simpa using h2)]
    refine⟨by rw[Ad,AL,Ar];simp;omega,hk _ _ xT (by rw[e,B6])⟩
   .have h2: ¬(l[i].lo.rank=0/\l[i].hi.rank=999999999):=(by simpa using h2);refine⟨λh3=>?_,λh3=>⟨λh4=>?_,λh4=>?_⟩⟩
    .have e:AA l[i]= [60,61]++AG l[i].hi:=by unfold AA;rw[if_neg (by simpa using h),if_neg h2,if_pos h3]
     refine⟨by simp only[Dt];rw[Ad,Ad,Ar];simp;omega,hk _ _ xT (by rw[e,Dt,AX])⟩
    .have e:AA l[i]= [62,61]++AG l[i].lo:=by unfold AA;rw[if_neg (by simpa using h),if_neg h2,if_neg h3,if_pos h4]
     refine⟨by simp only[Dt];rw[Ad,Ad,Ar];simp;omega,hk _ _ xT (by rw[e,Dt,AX])⟩
    .have e:AA l[i]=(([62,61]++AG l[i].lo)++[32,60,61])++AG l[i].hi:=by unfold AA;rw[if_neg (by simpa using h),if_neg h2,if_neg h3,if_neg h4]
     simp only[Dt,B6,AX];refine⟨by rw[Ad,Ad,Ar];simp;omega,by rw[Ad,AL,Ar];simp;omega,by rw[Ad,Ad,Ar];simp;omega,hk _ _ xT (by rw[e];simp)⟩
  have e0:Hk l i=BH (l.take i)++(if 0<i then [32,124,124,32]else []):=rfl;have a6:=NB (l.take i);rw[fb,ju oM]at a6;refine⟨λh0=>⟨by rw[Ad,AL,Ar];simp;omega,?_⟩,λh0=>?_⟩
  .rw[if_pos oM]at e0;rw[B6];have:=key w2 x2;rw[e0]at this;exact this
  .rw[if_neg oM,gd]at e0;have:=key w2 x2;rw[e0]at this;exact this
 .have:i=l.length:=oM;rw[this,eh,<-a9]at hI;rw[hI];exact hR _ xT
def S7:B0 prog 304 307 2 16:=CD (z:=.agg #[vi 0,vi 0]) kR kR rfl dC
def GA:B0 prog 73 9 1 16:=CD (z:=.string ⟨#[]⟩) kR kR rfl dC
def EE(l:LS):List (Int×Int):=l.map λx=>(x.lo.rank,x.hi.rank)
def Ze9{l:LS}{R:Sl->Wp}(hs:SlR spanE w S s l)(hR:∀t w',Ext w w'->OwnS rkE 307 w' w.heap.size None' t (EE l)->R t w'):SE.Mi s w R:=by
 unfold SE.Mi;have hl:=hs.len;refine loop2.up hs.max (λout i w'=>Ext w w'/\OwnS rkE 307 w' w.heap.size None' out (EE (l.take i))) ⟨Ext.refl _,OwnS.zero _⟩ λout i w1 b4 hi ⟨x1,own⟩ hn=>⟨λa8=>?_,λb2=>?_⟩
 .have a0:i<l.length:=oM;obtain⟨ad,ha,_,hc⟩:=EQ hs a0;refine⟨ad,⟨ha,oM,a8⟩,_,_,_,_,_,_,hc _ xT,newS.intro λa w2 x2 hb b0 _=>stw0.intro hb sI λw3 b3 _ a4=>?_⟩;have x3:Ext w1 w3:=b3.ext x2 oM;refine⟨_,_,_,a4.at0 xR rfl,SE.FC.go (Mx (v:=l[i].lo) λw4 x4=>⟨_,_,rfl,?_⟩)⟩;refine⟨_,_,_,a4.at1 xT rfl,SE.FC.go (Mx (v:=l[i].hi) λw5 x5=>⟨_,_,rfl,newS.intro λa9 w6 x6 a7 _ _=>?_⟩)⟩;have a6:Ext w1 w6:=xT;refine(own.ext a6).pushF (x1.trans a6) S7 (x:=(l[i].lo.rank,l[i].hi.rank)) ⟨rfl,trivial⟩ a7.ldc dC ?_ λr w7 a5 x7=>hn a0 _ _ ⟨x7,?_⟩
  .have:=hs.2.2.2.1;have e:spanE.bytes=48:=rfl;have e':rkE.bytes=16:=rfl;rw[e]at this;rw[e'];simp[EE];omega
  .rw[dw a0,EE,fq];exact a5
 .have:i=l.length:=oM;rw[this,eh]at own;exact hR _ _ x1 own
def Zc1(x:Span)(r:LS):BH (x::r)=AA x++Lib.joinTail [32,124,124,32] (r.map AA):=by
 induction r generalizing x with
 |nil=>simp[BH,Lib.joinTail]
 |cons y t ih=>show AA x++([32,124,124,32]++BH (y::t))=_;rw[ih];simp[Lib.joinTail]
def Zc5(l:LS):Lib.join ((l.map λx=>B (AA x)).map (·.data.toList)) [32,124,124,32]=BH l:=by
 have:(l.map λx=>B (AA x)).map (·.data.toList)=l.map AA:=by rw[iy];rfl
 rw[this];cases l with
 |nil=>rfl
 |cons x r=>rw[ib,Lib.join_cons,Zc1]
def Zc4{l:LS}{k:Value->Wp}(h:OwnS strE 9 w w0.heap.size None' s (l.map λx=>B (AA x)))(b0:l.length<=64)(a8:l≠[])(hk:∀w',Ext w w'->k (.string (B (BH l))) w'):
  callS prog 245 [s.v,.string (bm #[32,124,124,32])] w k:=by
 have hr:=h.readF dC (by show _*16<=Ab;rw[dz];unfold Ab;omega);have a4:=hr.len;rw[dz]at a4;obtain⟨ad,cs,ha,_,_,_⟩:=hr.el (n:=0) (by rw[dz];exact mw.2 a8);have hb:=h.block ha;have a7:ad=⟨ad.block,0,none⟩:=hb.2.2;have hj:=Zc5 l;have e:s.v= .slice (some ⟨ad.block,0,none⟩) (l.map λx=>B (AA x)).length s.cap:=by unfold Sl.v;rw[ha,a4,dz,<-a7]
 rw[e];have hc:∀(j:Nat) x,(l.map λx=>B (AA x))[j]?=some x->w.cell? ⟨ad.block,0+j,none⟩=some (.string x):=by
  intro j x hx;obtain⟨a9,cs,a6,_,⟨rfl,_⟩,hc⟩:=hr.get hx;rw[ha,eu]at a6;subst a6;have:=hc 0 (.string x) rfl;rw[a7,CX]at this;have e2:(Addr.add ⟨ad.block,0,none⟩ (j*strE.n+0))=⟨ad.block,0+j,none⟩:=by show Addr.add _ (j*1+0)=_;rw[G8,pw,jz,ke]
  rw[e2]at this;exact this
 have b2:=NB l;have a0:=Any.strings_Join Tryz.layJo ({sizeBuilder:=by kernel_rfl,liesBuilder:=by kernel_rfl,t5:=underlying5,a5:=Tryz.isAgg5,z5:=Tryz.sizeOf5,v5:=Tryz.zeroValue5,infoByte:=by kernel_rfl,cellsByte:=by kernel_rfl,sizeByte:=by kernel_rfl,neB5:=by decide}:Builder.Extra prog Tryz.layJo_ren) ad.block 0 s.cap (l.map λx=>B (AA x)) (bm #[32,124,124,32]) w hc hb.2.1
  (by rw[dz];omega) (by have:=hr.2.1;exact this) (by have:(bm #[32,124,124,32]).data.toList= [32,124,124,32]:=rfl;rw[this,hj];omega)
 have e3:(bm #[32,124,124,32]).data.toList= [32,124,124,32]:=rfl;rw[e3,hj]at a0;exact a0.mono λe w' ⟨he,hb⟩=>⟨_,he,hk w' hb⟩
def Wa{l:LS}{R:Bs->Wp}(ht:Tab w)(hs:SlR spanE w S s l)(hR:∀w',Ext w w'->R (B (Cb l)) w'):SE.Jb s w R:=by
 unfold SE.Jb;have hl:=hs.len;refine SE.Gj.go (spanMay_se hs λw1 x1=>⟨_,rfl,λh=>?_,λh=>?_⟩)
 .have e:AO l=false:=by simpa using h
  have:Cb l=[]:=by unfold Cb;rw[e];rfl
  have hr:=hR w1 xT;rw[this]at hr;exact hr
 have hm:AO l=true:=by simpa using h
 have c6:=Wc hm;refine SE.Mi.go (Ze9 (hs.ext x1) λnums w2 x2 c3=>⟨_,rfl,?_⟩);have hN:=c3.readF dC (by show _*16<=Ab;unfold EE;rw[dz];unfold Ab;omega);have e0:(EE l).length=l.length:=by unfold EE;rw[dz]
 have d5:=hN.len;refine loop2.up hN.max (λout i w'=>Ext w2 w'/\OwnS strE 9 w' w2.heap.size None' out ((l.take i).map λx=>B (AA x))) ⟨Ext.refl _,OwnS.zero _⟩ λout i w3 e1 hi ⟨x3,own⟩ hn=>⟨λc9=>?_,λd9=>?_⟩
 .have a9:i<l.length:=oM;have b0:i<(EE l).length:=oM;obtain⟨ad,ha,_,hc⟩:=Ob hN b0;have c7:(EE l)[i]=(l[i].lo.rank,l[i].hi.rank):=by simp[EE]
  rw[c7]at hc;obtain⟨m1,m2⟩:=Wb hm _ (ff a9);have v1:=Dz l[i].lo;have v2:=Dz l[i].hi;refine join.named λJ hJ=>?_;have push:∀(t:Bs) w4,Ext w3 w4->t=B (AA l[i])->newS w4 [.string t] 9 λa w5=>appS prog 73 73 out (Sl.v (Sl.mk (some a) 1 1)) w5 λr w6=>J r w6:=by
   intro t w4 x4 b9;refine newS.intro λa w5 x5 a0 _ _=>?_;refine(own.ext (x4.trans x5)).pushF (x3.trans (x4.trans x5)) GA (x:=t) ⟨rfl,?_⟩ a0.ldc dC ?_ λr w7 b2 x7=>?_
   .have:=Qt l[i];rw[b9];show(B (AA l[i])).size<=maxLen;rw[Ad,Al];omega
   .show(_+1)*16<=Ab;rw[dz,fb,ju oM];unfold Ab;omega
   .rw[hJ];refine hn b0 _ _ ⟨x7,?_⟩;rw[dw a9,fq];rw[b9]at b2;exact b2
  clear hJ;refine⟨ad,⟨ha,oM,c9⟩,_,_,hc _ xT,newS.intro λa w4 x4 hb d8 _=>stw0.intro hb sI λw5 b5 _ a0=>?_⟩;have x5:Ext w3 w5:=b5.ext x4 oM;have t5:Tab w5:=ht.ext xT;refine⟨_,a0.at0 xR rfl,SE.Gu.go (versAt_se λw6 x6=>⟨_,_,_,_,rfl,?_⟩)⟩;rw[O2 m1];refine newS.intro λd6 w7 x7 a4 d3 _=>stw0.intro a4 sI λw8 b8 _ a4=>?_;have x8:Ext w6 w8:=b8.ext x7 oM;refine⟨_,a0.at1 xT rfl,SE.Gu.go (versAt_se λw9 x9=>⟨_,_,_,_,rfl,?_⟩)⟩;rw[O2 m2];refine newS.intro λd7 e2 d1 a6 d4 _=>stw0.intro a6 sI λc4 c5 _ a6=>?_;have e5:Ext w9 c4:=c5.ext d1 oM;have a7:Tab c4:=t5.ext xT;refine⟨_,a0.at0 xT rfl,_,a0.at1 xT rfl,λh=>?_,λh=>⟨_,_,a0.at0 xT rfl,λh2=>?_,λh2=>⟨_,a0.at0 xT rfl,λh3=>?_,λh3=>⟨_,a0.at1 xT rfl,λh4=>?_,λh4=>bnd.drew λe3 d2=>?_⟩⟩⟩⟩
  .have h:l[i].lo.rank=l[i].hi.rank:=h;have he:l[i].lo=l[i].hi:=(by rw[<-O2 m1,<-O2 m2,h]);have e:AA l[i]=AG l[i].lo:=(by unfold AA;rw[if_pos he]);exact⟨_,_,_,a4.at0 xT rfl,SE.DJ.go (versPrint_se a7 λb6 a8=>⟨_,rfl,push _ _ xT (by rw[e])⟩)⟩
  all_goals have a5: ¬l[i].lo=l[i].hi:=λhe=>h (by rw[he])
  .have e:AA l[i]= [42]:=by unfold AA;rw[if_neg a5,if_pos (by simpa using h2)]
   exact push _ _ xT (by rw[e];rfl)
  all_goals have b4: ¬(l[i].lo.rank=0/\l[i].hi.rank=999999999):=by simpa using h2
  .have e:AA l[i]= [60,61]++AG l[i].hi:=(by unfold AA;rw[if_neg a5,if_neg b4,if_pos h3]);refine⟨_,_,_,a6.at0 xT rfl,SE.DJ.go (versPrint_se a7 λb6 a8=>⟨_,rfl,by rw[Ad,AL,Ar];simp;omega,?_⟩)⟩;exact push _ _ xT (by rw[e,Dt])
  .have e:AA l[i]= [62,61]++AG l[i].lo:=(by unfold AA;rw[if_neg a5,if_neg b4,if_neg h3,if_pos h4]);refine⟨_,_,_,a4.at0 xT rfl,SE.DJ.go (versPrint_se a7 λb6 a8=>⟨_,rfl,by rw[Ad,AL,Ar];simp;omega,?_⟩)⟩;exact push _ _ xT (by rw[e,Dt])
  .have e:AA l[i]=(([62,61]++AG l[i].lo)++[32,60,61])++AG l[i].hi:=(by unfold AA;rw[if_neg a5,if_neg b4,if_neg h3,if_neg h4]);refine⟨_,_,_,a4.at0 xT rfl,_,_,_,a6.at0 xT rfl,callX.intro (SE.DJ.go (versPrint_se (a7.ext xT) λb6 a8=>⟨a8,_,rfl,?_⟩))⟩;simp only[Dt,B6];refine⟨by rw[Ad,AL,Ar];simp;omega,by rw[Ad,AL,Ar];simp;omega,SE.DJ.go (versPrint_se ((a7.ext d2).ext a8) λe4 e6=>⟨_,rfl,?_⟩)⟩;simp only[AX];refine⟨by rw[Ad,Ad,Ar];simp;omega,push _ _ xT (by rw[e])⟩
 .have c8:i=l.length:=oM;rw[c8,eh]at own;have b7:=(own.readF dC (by show _*16<=Ab;rw[dz];unfold Ab;omega)).len;rw[dz]at b7;refine⟨λh=>?_,λh=>?_⟩
  .have:Cb l= [60,48,46,48,46,48]:=(by unfold Cb;rw[hm,if_pos rfl,if_pos (fj oM)]);have hr:=hR w3 xT;rw[this]at hr;exact hr
  .have a5:l≠[]:=λh0=>h (by rw[b7,h0];rfl);have d0:Cb l=BH l:=(by unfold Cb;rw[hm,if_pos rfl,if_neg a5]);rw[d0]at hR;exact Zc4 own c6 a5 λw4 x4=>⟨_,rfl,hR _ xT⟩
def Eb(over:LD)(name:Bs)(r:LS):LS:=match over with
 | []=>r
 |d::l=>if d.name=name then d.range else Eb l name r
def Zfk{l:LD}{name:Bs}{r:LS}{d:Dep}(hi:l[i]?=some d)(hd:d.name=name)(hn:∀k<i,∀e:Dep,l[k]?=some e-> ¬e.name=name):Eb l name r=d.range:=by
 induction l generalizing i with
 |nil=>simp at hi
 |cons a l ih=>
  cases i with
  |zero=>simp only[ja,eu]at hi;subst hi;rw[Eb,if_pos hd]
  |succ i=>rw[Eb,if_neg (hn 0 oM a rfl)];exact ih hi λk hk e he=>hn (k+1) oM e he
def Zfl{l:LD}{name:Bs}{r:LS}(hn:∀(k:Nat)(e:Dep),l[k]?=some e-> ¬e.name=name):Eb l name r=r:=by
 induction l with
 |nil=>rfl
 |cons a l ih=>rw[Eb,if_neg (hn 0 a rfl)];exact ih λk e he=>hn (k+1) e he
def Jv:B0 prog 34 96 2 40:=CD (z:=.agg #[.string ⟨#[]⟩,.slice none 0 0]) kR kR rfl dC
def BJ(over:LD)(l:LD):LD:=l.map λd=>⟨d.name,Eb over d.name d.range⟩
end Go.Hal
