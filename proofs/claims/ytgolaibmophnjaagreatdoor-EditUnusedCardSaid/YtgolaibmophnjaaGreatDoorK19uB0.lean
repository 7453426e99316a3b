/- Lemmas for the claim K19u: how the program's functions run, and what they answer; no condition but those that each theorem names. -/
import Derived.Maps.AppendAt
import Derived.WalkKit
import Derived.ProofKit
import Derived.OpenShut
import Derived.Deep.Slices
import Derived.ChangeCalls
import Derived.Deep.DeepHandedRow
import Derived.Test.YtgolaibmophnjaaGreatDoorProg
import Derived.Shelf.Strings.SlTrimAscii
import Derived.Shelf.Strings.OnBuilder
import Derived.Shelf.Strings.BuilderK
import Derived.Shelf.LaysM
import Derived.Shelf.Strconv.Itoa3
import Derived.Shelf.Small.Strs
import Derived.Ground.NamesProg
import Derived.Lib.ItoaNum
import Derived.Laws.BytesArg
import Derived.Test.YtgolaibmophnjaaGreatDoorCards
import Derived.Lib.LaidTab
import Derived.Stop.LaidErr
import Derived.MakeChecks
import Derived.SevenTiedAt
import Derived.Shelf.Abstract
import Derived.Test.YtgolaibmophnjaaGreatDoorK19uA0
import Derived.Test.YtgolaibmophnjaaGreatDoorK19uS0
import Derived.Test.YtgolaibmophnjaaGreatDoorK19uS1
import Derived.Test.YtgolaibmophnjaaGreatDoorK19uS2
import Derived.Test.YtgolaibmophnjaaGreatDoorK19uS3
import Derived.Test.YtgolaibmophnjaaGreatDoorK19uT
set_option linter.unusedVariables false
set_option linter.unusedSimpArgs false
set_option linter.defProp false
set_option maxHeartbeats 16000000
open Go.Hal.SE hiding Cs Dr Lb vB
open Go Go.RowKit Go.Proofs Go.Shelf Go.Hal Go.Proofs.Tryz
variable {a:LP} {R:É} {b:Pr} {cs cs' r:LV} {f g i lo n need:Nat} {S:Nat->Prop} {p:Option Pr} {P:LD} {s:Sl} {t:LN} {w w' w0:PU}
namespace Go.Hal
def ï(S:Nat->Prop)(w w':PU):Prop:=∀b,S b->b<w.heap.size->w'.heap[b]?=w.heap[b]?
def AI.sj(h:AI w w')(S:Nat->Prop):ï S w w':=λ_ _ hb=>h.block hb
def ï.cell(h:ï S w w'){v:HT}(hs:S a.block)(hc:w.cell? a=some v):w'.cell? a=some v:=
 (World.cell?_of_block (h a.block hs (World.block_lt_of_cell? w a hc))).Z hc
def CW(a:LP)(n:Nat):(a.add n).block=a.block:=by unfold Addr.add;split<;>rfl
def Dg(a:LP)(m n:Nat):(a.add m).add n=a.add (m+n):=by obtain⟨b,o,s⟩:=a;unfold Addr.add;by_cases hm:m=0<;>by_cases hn:n=0<;>simp[hm,hn];omega
def add_zero(a:LP):a.add 0=a:=rfl
def sh.sj(h:sh w a cs)(hs:S a.block)(hk:ï S w w'):sh w' a cs:=
 λj v hj=>hk.cell (by rwa [CW]) (h j v hj)
def sh.sub(h:sh w a cs)(k m:Nat):sh w (a.add k) ((cs.drop k).take m):=λj v hj=>by
 rw[Dg];refine h (k+j) v ?_;rw[mh]at hj;split at hj
 .rw[mj]at hj;exact hj
 .cases hj
def sh.of{a':LP}(h:sh w a cs)(ha:a'=a)(hc:cs'=cs):sh w a' cs':=by subst ha hc;exact h
structure xn(α:Type) where
 n:Nat
 bytes:Nat
 rep:PU->(Nat->Prop)->α->LV->Prop
 len:∀{w S x cs},rep w S x cs->cs.length=n
 one:∀{w S x cs},rep w S x cs->∀v∈cs,v.oneCell'=true
 O:∀{w S S' x cs},rep w S x cs->(∀b,S b->S' b)->rep w S' x cs
 sj:∀{w w' S x cs},rep w S x cs->ï S w w'->rep w' S x cs
def Ab:Nat:=140737489403904
def No{α:Type}(E:xn α)(w:PU)(S:Nat->Prop)(s:Sl)(l:List α):Prop:=
 s.len=l.length/\l.length<=s.cap/\s.cap<=maxLen/\l.length*E.bytes<=Ab/\
 (l=[]\/∃ad,s.a=some ad/\S ad.block/\∀(i:Nat)(x:α),l[i]?=some x->∃cs,E.rep w S x cs/\sh w (ad.add (i*E.n)) cs)
section
variable {α:Type} {E:xn α} {w w':PU} {S S':Nat->Prop} {s:Sl} {l:List α}
def No.len(h:No E w S s l):s.len=l.length:=h.1
def No.O(h:No E w S s l)(hs:∀b,S b->S' b):No E w S' s l:=
 ⟨h.1,h.2.1,h.2.2.1,h.2.2.2.1,h.2.2.2.2.imp id λ⟨ad,h1,h2,h3⟩=>⟨ad,h1,hs _ h2,λi x hx=>let⟨cs,h4,h5⟩:=h3 i x hx;⟨cs,E.O h4 hs,h5⟩⟩⟩
def No.sj(h:No E w S s l)(hk:ï S w w'):No E w' S s l:=
 ⟨h.1,h.2.1,h.2.2.1,h.2.2.2.1,h.2.2.2.2.imp id λ⟨ad,h1,h2,h3⟩=>⟨ad,h1,h2,λi x hx=>let⟨cs,h4,h5⟩:=h3 i x hx;⟨cs,E.sj h4 hk,h5.sj (by rwa [CW]) hk⟩⟩⟩
def No.U(h:No E w S s l)(hx:AI w w'):No E w' S s l:=h.sj (hx.sj S)
def No.nil(hS:True):No E w S Sl.nil ([]:List α):=⟨rfl,ib _,ib _,by simp,.inl rfl⟩
def No.get(h:No E w S s l){x:α}(hx:l[i]?=some x):∃ad cs,s.a=some ad/\S ad.block/\E.rep w S x cs/\sh w (ad.add (i*E.n)) cs:=by
 rcases h.2.2.2.2 with h0|⟨ad,h1,h2,h3⟩
 .subst h0;simp at hx
 .obtain⟨cs,h4,h5⟩:=h3 i x hx;exact⟨ad,cs,h1,h2,h4,h5⟩
end
def AT(w:PU)(a:LP)(cs:LV):Prop:=∃t,a.off=0/\a.spot=none/\w.heap[a.block]?=some (.cells cs.toArray t (0,0))
section
variable {w w':PU} {a:LP} {cs:LV}
def AT.lt(h:AT w a cs):a.block<w.heap.size:=by obtain⟨t,_,_,h⟩:=h;exact lt_of_block h
def AT.sh(h:AT w a cs):sh w a cs:=λj v hj=>by
 obtain⟨t,ho,hs,hb⟩:=h;obtain⟨b,o,s⟩:=a;simp only at ho hs hb;subst ho hs;have:(Addr.add ⟨b,0,none⟩ j)=⟨b,j,none⟩:=by unfold Addr.add;split<;>simp_all
 rw[this];simp[World.cell?,hb,hj]
def AT.U(h:AT w a cs)(hx:AI w w'):AT w' a cs:=by obtain⟨t,ho,hs,hb⟩:=h;exact⟨t,ho,hs,(hx.block (lt_of_block hb)).Z hb⟩
def AT.sj(h:AT w a cs)(hs:S a.block)(hx:ï S w w'):AT w' a cs:=by obtain⟨t,ho,a0,hb⟩:=h;exact⟨t,ho,a0,(hx _ hs (lt_of_block hb)).Z hb⟩
end
def An.intro{k:Ì}(h:∀a w',AI w w'->AT w' a cs->a.block=w.heap.size->w'.heap.size=w.heap.size+1->k a w'):An w cs t k:=λa w' ha hw=>by subst ha hw;refine h _ _ (AI.alloc _ _) ⟨t,rfl,rfl,?_⟩ rfl sI;exact heap_alloc_new w _
def uv(g:Nat)(w w':PU):Prop:=w.heap.size<=w'.heap.size/\w'.os=w.os/\w'.tape=w.tape/\w'.output=w.output/\∀b,b<w.heap.size->b≠g->w'.heap[b]?=w.heap[b]?
def uv.sj(h:uv g w w')(hs: ¬S g):ï S w w':=λb hb hl=>h.2.2.2.2 b hl λe=>hs (e▸hb)
def uv.below{B:Nat}(h:uv g w w')(hB:B<=w.heap.size)(hg:B<=g):Below B w w':=⟨h.2.1,h.2.2.1,h.2.2.2.1,h.1,λb hb=>h.2.2.2.2 b oM oM⟩
def uv.box(h:uv g w w')(hb:AT w a cs)(a0:a.block≠g):AT w' a cs:=hb.sj (S:=λb=>b≠g) a0 (λb hb hl=>h.2.2.2.2 b hl hb)
def ry.intro{o:Nat}{tm:LV}{k:Wp}(hb:AT w a tm)(hl:o+cs.length<=tm.length)
  (h:∀w',uv a.block w w'->w'.heap.size=w.heap.size->AT w' a (tm.take o++cs++tm.drop (o+cs.length))->k w'):ry w (a.add o) cs k:=by
 obtain⟨t,ho,hs,hh⟩:=hb;obtain⟨b,of,sp⟩:=a;simp only at ho hs hh;subst ho hs;have ha:(Addr.add ⟨b,0,none⟩ o)=⟨b,o,none⟩:=by unfold Addr.add;split<;>simp_all
 rw[ha];refine⟨_,t,hh,rfl,by simpa using hl,h _ ⟨?_,rfl,rfl,rfl,λc hc a0=>setRow_other w b c _ a0⟩ ?_ ⟨t,rfl,rfl,?_⟩⟩
 .simp[World.setRow]
 .simp[World.setRow]
 .rw[setRow_heap w b tm.toArray _ t _ hh];simp[Du]
end Go.Hal
namespace Go
def lD{c:LV}(h:sh w a c:=by first|exact(AT.at0 (by assumption) xT rfl)|exact(AT.at1 (by assumption) xT rfl)):sh w a c:=h
end Go
namespace Go.Hal
def Ao:maxLen=9223372036854775807:=rfl
def Ai{x:Int}(h0: -9223372036854775808<=x)(h1:x<=9223372036854775807):Aa x=x:=by simp only[Aa,IntKind.wrap,IntKind.bits,IntKind.signed,ic,fk];have e1:(2:Int)^(64 - 1)=9223372036854775808:=rfl;have e2:(2:Int)^ 64=18446744073709551616:=rfl;split<;>rename_i h<;>simp only[ge_iff_le,fk,e1,e2]at h ⊢ <;>omega
def HO{x:Int}(h0:0<=x)(h1:x<n)(h2:n<=maxLen):Aa (x+1)=x+1:=Ai oM (by rw[Ao]at h2;omega)
@[ext] structure tj where
 ma:Int
 mi:Int
 pa:Int
 deriving DecidableEq
structure tn where
 Y:Pr
 v:tj
 deriving DecidableEq
abbrev Η:=List tn
structure tx where
 lo:tj
 hi:tj
 deriving DecidableEq
abbrev Κ:=List tx
structure um where
 Y:Pr
 range:Κ
 deriving DecidableEq
abbrev Θ:=List um
structure su where
 Y:Pr
 v:tj
 ss:Θ
 ta:Θ
 uq:Θ
 deriving DecidableEq
abbrev Ι:=List su
structure vz where
 ss:Θ
 uw:Θ
 uq:Θ
 sd:Θ
 deriving DecidableEq
structure xr where
 Y:Pr
 tc:Int
 range:Κ
 deriving DecidableEq
abbrev Ρ:=List xr
def tj.c(v:tj):LV:=[vi v.ma,vi v.mi,vi v.pa]
def DL{α:Type}(n bytes:Nat)(f:α->LV)(ok:α->Prop)(hn:∀x,(f x).length=n)(h1:∀x,∀v∈f x,v.oneCell'=true):xn α where
 n:=n
 bytes:=bytes
 rep:=λ_ _ x cs=>cs=f x/\ok x
 len:=λh=>by rw[h.1,hn]
 one:=λh=>by rw[h.1];exact h1 _
 O:=λh _=>h
 sj:=λh _=>h
def Ad(s:Pr):Prop:=s.size<=maxLen
def yu:xn Int:=DL 1 8 (λx=>[vi x]) (λ_=>True) (λ_=>rfl) (λ_ v hv=>by simp at hv;subst hv;rfl)
def ă:xn tj:=DL 3 24 tj.c (λ_=>True) (λ_=>rfl) (λ_ v hv=>by simp[tj.c]at hv;rcases hv with rfl|rfl|rfl<;>rfl)
def uo:xn tx:=DL 6 48 (λs=>s.lo.c++s.hi.c) (λ_=>True) (λ_=>rfl) (λ_ v hv=>by simp[tj.c]at hv;rcases hv with rfl|rfl|rfl|rfl|rfl|rfl<;>rfl)
def vb:xn tn:=DL 4 40 (λp=>.string p.Y::p.v.c) (λp=>Ad p.Y) (λ_=>rfl) (λ_ v hv=>by simp[tj.c]at hv;rcases hv with rfl|rfl|rfl|rfl<;>rfl)
def ru:xn um where
 n:=2
 bytes:=40
 rep:=λw S d cs=>Ad d.Y/\∃s,cs= [.string d.Y,s.v]/\No uo w S s d.range
 len:=λ⟨_,s,h,_⟩=>by rw[h];rfl
 one:=λ⟨_,s,h,_⟩ v hv=>by rw[h]at hv;simp[Sl.v]at hv;rcases hv with rfl|rfl<;>rfl
 O:=λ⟨h0,s,h,hr⟩ hs=>⟨h0,s,h,hr.O hs⟩
 sj:=λ⟨h0,s,h,hr⟩ hk=>⟨h0,s,h,hr.sj hk⟩
def wu:xn su where
 n:=7
 bytes:=112
 rep:=λw S p cs=>Ad p.Y/\∃d e o,cs= .string p.Y::p.v.c++[Sl.v d,Sl.v e,Sl.v o]/\No ru w S d p.ss/\No ru w S e p.ta/\No ru w S o p.uq
 len:=λ⟨_,d,e,o,h,_⟩=>by rw[h];rfl
 one:=λ⟨_,d,e,o,h,_⟩ v hv=>by rw[h]at hv;simp[Sl.v,tj.c]at hv;rcases hv with rfl|rfl|rfl|rfl|rfl|rfl|rfl<;>rfl
 O:=λ⟨h0,d,e,o,h,a,b,c⟩ hs=>⟨h0,d,e,o,h,a.O hs,b.O hs,c.O hs⟩
 sj:=λ⟨h0,d,e,o,h,a,b,c⟩ hk=>⟨h0,d,e,o,h,a.sj hk,b.sj hk,c.sj hk⟩
def Pw:xn xr where
 n:=3
 bytes:=48
 rep:=λw S d cs=>Ad d.Y/\∃s,cs= [.string d.Y,vi d.tc,s.v]/\No uo w S s d.range
 len:=λ⟨_,s,h,_⟩=>by rw[h];rfl
 one:=λ⟨_,s,h,_⟩ v hv=>by rw[h]at hv;simp[Sl.v]at hv;rcases hv with rfl|rfl|rfl<;>rfl
 O:=λ⟨h0,s,h,hr⟩ hs=>⟨h0,s,h,hr.O hs⟩
 sj:=λ⟨h0,s,h,hr⟩ hk=>⟨h0,s,h,hr.sj hk⟩
def toList_data(a:Pr):a.toList=a.data.toList:=ByteArray.toList_eq a
def G2(a:Pr):a.data.toList.length=a.size:=by rw[ko];rfl
def Zb{a:Pr}(h:i<a.size):Cw a (i:Int)=((a.data.toList[i]'(by rwa [G2])).toNat:Int):=by rw[Cw,lw,dx,dt (by rwa [G2])];rfl
def Zk(p x y:LU):Op.bytesLess (p++x) (p++y)=Op.bytesLess x y:=by
 induction p with
 |nil=>rfl
 |cons a p ih=>show(decide (a<a)||(a==a&&Op.bytesLess (p++x) (p++y)))=_;rw[ih];simp
def Zw{tm:Nat}(h:tm<need):Builtin.nextslicecap need tm=need\/Builtin.nextslicecap need tm+2<=2*need:=by
 unfold Builtin.nextslicecap;split
 .exact .inl rfl
 .right;split
  .omega
  .rw[growBy_four]
   repeat' split
   all_goals omega
def Zx{tm:Nat}(h:tm<need):Builtin.nextslicecap need tm<=need+(need+768)/4\/Builtin.nextslicecap need tm<=512:=by
 unfold Builtin.nextslicecap;split
 .omega
 .split
  .omega
  .rw[growBy_four]
   repeat' split
   all_goals omega
def TN{tm bytes:Nat}(h:tm<need)(hb:need*bytes<=Ab):Builtin.nextslicecap need tm*bytes<=281474976710656:=by
 unfold Ab at hb;obtain h1|h1:=Zw h
 .rw[h1];omega
 .by_cases hB:1048576<=bytes
  .have h2:(Builtin.nextslicecap need tm+2)*bytes<=2*need*bytes:=iu _ h1;rw[ku,Nat.mul_assoc]at h2;omega
  .obtain h3|h3:=Zx h
   .have h4:4*Builtin.nextslicecap need tm*bytes<=(5*need+768)*bytes:=iu _ oM;have e1:4*Builtin.nextslicecap need tm*bytes=4*(Builtin.nextslicecap need tm*bytes):=Nat.mul_assoc _ _ _;have e2:(5*need+768)*bytes=5*(need*bytes)+768*bytes:=(by rw[ku,Nat.mul_assoc]);omega
   .have h4:Builtin.nextslicecap need tm*bytes<=512*bytes:=iu _ h3;omega
def T5{ty e:LN}{i:TypeInfo}{z:HT}(ht:P.underlying t=some (.slice e))(hi:P.info? e=some i)(hz:i.zero=some z)(b8:z.cells.size=i.size)(c4:0<i.size)
  {v:HT}  {xs:LV} (ho:w.ownsRow lo e i.size v n xs)  {m c:Nat} {news:LV} (hl:news.length=m*i.size) (hn:∀(j:Nat)(u:HT),news[j]?=some u->w.cell? (a.add j)=some u) (h1:∀u∈news,u.oneCell'=true)
  (hm:n+m<=maxLen) (hb:(n+m)*i.bytes<=Ab) (b5:lo<=w.heap.size):
  ∃v' w',(Builtin.append_ #[t,t] ty #[v,.slice (some a) m c]).run P w= .ok v' w'/\w'.ownsRow lo e i.size v' (n+m) (xs++news)/\w.grownBy w' v.ownBlock/\(v'.ownBlock=v.ownBlock\/v'.ownBlock=some w.heap.size):=by
 have b9:n+m<=9223372036854775807:=by rw[Ao]at hm;exact hm
 have a0:(xs++news).length=(n+m)*i.size:=by rw[du,ho.1,hl,ku]
 have fresh:∀tm:Nat,w.grownBy (w.drew.alloc (.cells (xs.toArray++news.toArray++Builtin.zeroCells z.cells (grownCap w (n+m) tm e - (n+m))) e)) v.ownBlock/\
   (w.drew.alloc (.cells (xs.toArray++news.toArray++Builtin.zeroCells z.cells (grownCap w (n+m) tm e - (n+m))) e)).ownsRow lo e i.size (.slice (some ⟨w.heap.size,0,none⟩) (n+m) (grownCap w (n+m) tm e)) (n+m) (xs++news):=λtm=>by
  have hc:=grownCap_ge w (n+m) tm e;refine⟨⟨rfl,rfl,rfl,by simp,λb a6 _=>by first|exact heap_alloc_old w.drew _ a6|exact heap_alloc_old w.drew _ _ a6⟩,a0,.inr ⟨w.heap.size,_,_,rfl,b5,heap_alloc_new w.drew _,hc,grownCap_le_maxLen w (n+m) tm e hm,?_,?_⟩⟩
  .have e1:(xs.toArray++news.toArray).size=(n+m)*i.size:=(by simpa using a0);rw[Array.size_append,e1,size_zeroCells,b8,<-ku];congr 1;omega
  .have e2:(xs.toArray++news.toArray++Builtin.zeroCells z.cells (grownCap w (n+m) tm e - (n+m))).toList=(xs++news)++(Builtin.zeroCells z.cells (grownCap w (n+m) tm e - (n+m))).toList:=(by simp);rw[e2,<-a0];exact pb
 rcases ho.2 with⟨rfl,rfl⟩|⟨g,cap,a5,rfl,b4,hg,c3,b0,b2,b7⟩
 .obtain rfl:xs=[]:=fo (by simpa using ho.1);obtain rfl|a9:=kg m
  .obtain rfl:news=[]:=fo (by simpa using hl);exact⟨.slice none 0 0,w,by simp[Builtin.append_,run_underlying ht,sizeOf,typeInfo,hi,Builtin.lenOf,Builtin.firstCells,loadCells,loadCellsFrom],World.ownsRow_nil w lo e i.size,⟨rfl,rfl,rfl,fx _,λ_ _ _=>rfl⟩,.inl rfl⟩
  .have hr:=run_append_nil (P:=P) w t ty e i z ht hi hz a m c news hl hn a9 oM (by unfold Ab at hb;rw[kj]at hb;omega);have hf:=fresh 0;simp only[kj,ip,Array.empty_append]at hf ⊢;exact⟨_,_,hr,hf.2,hf.1,.inr rfl⟩
 .by_cases a4:n+m<=cap
  .have a7:n*i.size+news.length<=a5.size:=(by rw[hl,b2,<-ku];exact iu _ a4);have hr:=run_append_room (P:=P) w t ty e i ht hi g n cap a5 hg a m c news hl hn h1 a4 a7;refine⟨_,_,hr,⟨a0,.inr ⟨g,cap,_,rfl,b4,setRow_heap w g a5 _ e _ hg,a4,b0,?_,?_⟩⟩,⟨rfl,rfl,rfl,by simp,λb _ b6=>setRow_other w g b _ (λh=>b6 (by rw[h];rfl))⟩,.inl rfl⟩
   .simp only[je,du,fg,gh,ko];omega
   .rw[b7,<-a0];exact pb
  .have a8:∀(j:Nat)(u:HT),xs[j]?=some u->w.cell? ((⟨g,0,none⟩:LP).add j)=some u:=ho.cells (g:=g) rfl;have hr:=run_append_grow (P:=P) w t ty e i z ht hi hz ⟨g,0,none⟩ n cap xs ho.1 a8 a m c news hl hn oM oM (TN oM hb);have hf:=fresh cap;exact⟨_,_,hr,hf.2,hf.1,.inr rfl⟩
def Bk(P:LD)(t e:LN)(n bytes:Nat):Prop:=P.underlying t=some (.slice e)/\∃i z,P.info? e=some i/\i.zero=some z/\i.size=n/\i.bytes=bytes/\z.cells.size=n/\0<n
def CL{e:LN}{bytes:Nat}{z:HT}(h1:P.underlying t=some (.slice e))(h2:(P.info? e).map (λi=>(i.zero,i.size,i.bytes))=some (some z,n,bytes))(h3:z.cells.size=n)(h4:0<n):Bk P t e n bytes:=by
 cases hi:P.info? e with
 |none=>rw[hi]at h2;cases h2
 |some i=>rw[hi]at h2;simp only[jp,eu,Prod.mk.injEq]at h2;exact⟨h1,i,z,hi,h2.1,h2.2.1,h2.2.2,h3,h4⟩
structure OF{α:Type}(E:xn α)(T:LN)(w:PU)(lo:Nat)(S:Nat->Prop)(s:Sl)(l:List α):Prop where
 row:∃css:List (List HT),w.ownsRow lo T E.n s.v s.len css.flatten/\css.length=l.length/\∀(i:Nat)(x:α),l[i]?=some x->∃cs,css[i]?=some cs/\E.rep w S x cs
 len:s.len=l.length
 lt:∀b,S b->b<w.heap.size
 apart:∀ad,s.a=some ad-> ¬S ad.block
section
variable {α:Type} {E:xn α} {T:LN} {w w':PU} {lo:Nat} {S S':Nat->Prop} {s:Sl} {l:List α}
def OF.nil(w:PU)(lo:Nat):OF E T w lo (λ_=>False) Sl.nil ([]:List α):=
 ⟨⟨[],World.ownsRow_nil _ _ _ _,rfl,λi x h=>by simp at h⟩,rfl,λ_ h=>h.F,λ_ h=>by cases h⟩
def OF.block(h:OF E T w lo S s l){ad:LP}(ha:s.a=some ad):lo<=ad.block/\ad.block<w.heap.size/\ad=⟨ad.block,0,none⟩:=by
 obtain⟨css,ho,_⟩:=h.row;have h1:=ho.lt ad.block (by simp[Value.ownBlock,Sl.v,ha]);refine⟨h1.1,h1.2,?_⟩;rcases ho.2 with⟨hv,_⟩|⟨g,cap,a0,hv,_⟩
 .simp[Sl.v,ha]at hv
 .simp[Sl.v,ha]at hv;rw[hv.1]
def OF.sj(h:OF E T w lo S s l)(a5:w.heap.size<=w'.heap.size)(hk:∀b,b<w.heap.size->(S b\/∃ad,s.a=some ad/\b=ad.block)->w'.heap[b]?=w.heap[b]?):OF E T w' lo S s l:=by
 obtain⟨css,ho,hl,hr⟩:=h.row;refine⟨⟨css,⟨ho.1,?_⟩,hl,λi x hx=>let⟨cs,h1,h2⟩:=hr i x hx;⟨cs,h1,E.sj h2 λb hb a4=>hk b a4 (.inl hb)⟩⟩,h.len,λb hb=>jo (h.lt b hb) a5,h.apart⟩;rcases ho.2 with h0|⟨g,cap,a0,hv,h1,h2,h3⟩
 .exact .inl h0
 .refine .inr ⟨g,cap,a0,hv,h1,?_,h3⟩;rwa [hk g (lt_of_block h2) (.inr ⟨⟨g,0,none⟩,by simp[Sl.v]at hv;exact hv.1,rfl⟩)]
def OF.U(h:OF E T w lo S s l)(hx:AI w w'):OF E T w' lo S s l:=h.sj hx.size λb hb _=>hx.block hb
def OF.O(h:OF E T w lo S s l)(hs:∀b,S b->S' b)(a4:∀b,S' b->b<w.heap.size)(a0:∀ad,s.a=some ad-> ¬S' ad.block):OF E T w lo S' s l:=by obtain⟨css,ho,hl,hr⟩:=h.row;exact⟨⟨css,ho,hl,λi x hx=>let⟨cs,h1,h2⟩:=hr i x hx;⟨cs,h1,E.O h2 hs⟩⟩,h.len,a4,a0⟩
def On{css:List (List HT)}(hn:∀cs∈css,cs.length=n)(hi:css[i]?=some cs){j:Nat}{v:HT}(hj:cs[j]?=some v):css.flatten[i*n+j]?=some v:=by
 induction css generalizing i with
 |nil=>simp at hi
 |cons c r ih=>
  have hc:c.length=n:=hn c (jy ..);cases i with
  |zero=>simp only[jk,eu]at hi;subst hi;have a0:j<c.length:=(fh.1 hj).1;rwa [jm,mq,kj,gl a0]
  |succ i=>rw[qm]at hi;have:=ih (λcs h=>hn cs (nh _ h)) hi;rw[jm,ii (by rw[hc,ku];omega)];rwa [show(i+1)*n+j - c.length=i*n+j by rw[hc,ku];omega]
def OF.A(h:OF E T w lo S s l)(hb:l.length*E.bytes<=Ab)(hm:l.length<=maxLen):No E w (λb=>S b\/∃ad,s.a=some ad/\b=ad.block) s l:=by
 obtain⟨css,ho,hl,hr⟩:=h.row;rcases ho.2 with⟨hv,hn⟩|⟨g,cap,a9,hv,hg,hh,hc,a6,a5,ht⟩
 .have h0:l=[]:=fo (by rwa [<-h.len]);subst h0;simp[Sl.v]at hv;exact⟨h.len,by simp,by rw[hv.2.2];exact ib _,hb,.inl rfl⟩
 .simp[Sl.v]at hv;obtain⟨ha,a4⟩:=hv;subst a4;refine⟨h.len,by rwa [<-h.len],a6,hb,.inr ⟨_,ha,.inr ⟨_,ha,rfl⟩,λi x hx=>?_⟩⟩;obtain⟨cs,h1,h2⟩:=hr i x hx;refine⟨cs,E.O h2 λ_ h=>.inl h,λj v hj=>?_⟩;have a0:∀cs∈css,cs.length=E.n:=by
   intro cs a5;obtain⟨k,hk,he⟩:=gc.1 a5;have a7:k<l.length:=by rwa [<-hl]
   obtain⟨a8,h3,h4⟩:=hr k _ (dt a7);rw[dt hk,he,eu]at h3;rw[h3];exact E.len h4
  rw[Dg];exact ho.cells (g:=g) (by simp[Value.ownBlock,Sl.v,ha]) _ _ (On a0 h1 hj)
def OF.app{e:LN}{k:Sl->Wp}{x:α}(h:OF E e w lo S s l)(hT:Bk P t e E.n E.bytes)(d0:lo<=w.heap.size)(hx:E.rep w S' x cs)(hc:sh w a cs)(b5:∀b,S' b->b<w.heap.size)(b6:∀ad,s.a=some ad-> ¬S' ad.block)
  (hb:(l.length+1)*E.bytes<=Ab) (hm:l.length+1<=maxLen)
  (hk:∀(r:Sl)(w':PU),OF E e w' lo (λb=>S b\/S' b) r (l++[x])->w.heap.size<=w'.heap.size->w'.os=w.os->w'.tape=w.tape->w'.output=w.output->
   (∀b,b<w.heap.size->(∀ad,s.a=some ad->b≠ad.block)->w'.heap[b]?=w.heap[b]?)->(∀ad,r.a=some ad->(s.a=some ad\/w.heap.size<=ad.block))->k r w'):uc P t t s (Sl.v ⟨some a,1,1⟩) w k:=by
 intro ty;obtain⟨css,ho,hl,hr⟩:=h.row;obtain⟨ht,i,z,hi,hz,a8,c8,d4,d1⟩:=hT;have b9:=E.len hx;have c3:=h.len;obtain⟨v',w',c5,a6,a5,b7⟩:=T5 (P:=P) (ty:=ty) (m:=1) (c:=1) ht hi hz (by rwa [a8]) (by rwa [a8]) (by rwa [a8]) (by rw[a8,b9,Nat.one_mul]) (λj u hj=>hc j u hj) (E.one hx) oM (by rwa [c3,c8]) d0;rw[a8]at a6;have d3:∃r:Sl,v'=r.v/\r.len=s.len+1:=by
  rcases a6.2 with⟨hv,hn⟩|⟨g,cap,c7,hv,_⟩
  .omega
  .exact⟨⟨_,_,_⟩,hv,rfl⟩
 obtain⟨r,rfl,c4⟩:=d3;have b0:∀ad,r.a=some ad->(s.a=some ad\/w.heap.size<=ad.block):=by
  intro ad a7;have a4:s.v.ownBlock=some ad.block\/w.heap.size<=ad.block:=by
   have h0:r.v.ownBlock=some ad.block:=(by simp[Value.ownBlock,Sl.v,a7]);obtain hb|hb:=b7
   .left;rwa [<-hb]
   .right;rw[h0,eu]at hb;omega
  obtain a4|a4:=a4
  .left;have h2:ad=⟨ad.block,0,none⟩:=by
    rcases a6.2 with⟨hv,_⟩|⟨g,cap,c7,hv,_⟩
    .simp[Sl.v,a7]at hv
    .simp[Sl.v,a7]at hv;rw[hv.1]
   cases hsa:s.a with
   |none=>simp[Value.ownBlock,Sl.v,hsa]at a4
   |some d5=>simp[Value.ownBlock,Sl.v,hsa]at a4;have:=(h.block hsa).2.2;rw[this,a4,<-h2]
  .exact .inr a4
 refine⟨_,w',c5,r,rfl,hk r w' ?_ a5.size a5.os a5.tape a5.output ?_ b0⟩
 .have a9:∀b,b<w.heap.size->(S b\/S' b)->w'.heap[b]?=w.heap[b]? :=λb b2 a0=>by
   refine a5.block b b2 ?_;simp only[Value.ownBlock,Sl.v];cases hsa:s.a with
   |none=>simp
   |some ad=>
    simp only[ne_eq,eu];rintro rfl;obtain a0|a0:=a0
    .exact h.apart _ hsa a0
    .exact b6 _ hsa a0
  refine⟨⟨css++[cs],?_,by simp[hl],λj y hj=>?_⟩,by simp[c4,c3],λb a0=>?_,λad a7 a0=>?_⟩
  .rw[c4,kl];simpa using a6
  .rw[ni]at hj;split at hj
   .rename_i c9;obtain⟨c6,h1,h2⟩:=hr j y hj;exact⟨c6,by rwa [gl oM],E.sj (E.O h2 λ_ h=>.inl h) λb hb b4=>a9 b b4 hb⟩
   .rename_i c9;have b8:j - l.length=0:=by
     rcases kg (j - l.length)with h0|h0
     .exact h0
     .rw[iw (by simp;omega)]at hj;cases hj
    rw[b8]at hj;simp only[jk,eu]at hj;subst hj;exact⟨cs,by rw[ii oM,hl,b8];rfl,E.sj (E.O hx λ_ h=>.inr h) λb hb b4=>a9 b b4 hb⟩
  .have:b<w.heap.size:=by
    obtain a0|a0:=a0
    .exact h.lt b a0
    .exact b5 b a0
   have:=a5.size;omega
  .obtain h1|h1:=b0 ad a7
   .obtain a0|a0:=a0
    .exact h.apart ad h1 a0
    .exact b6 ad h1 a0
   .have:ad.block<w.heap.size:=by
     obtain a0|a0:=a0
     .exact h.lt _ a0
     .exact b5 _ a0
    omega
 .intro b b2 d2;refine a5.block b b2 ?_;simp only[Value.ownBlock,Sl.v];cases hsa:s.a with
  |none=>simp
  |some ad=>simp only[ne_eq,eu];exact d2 ad hsa
def OF.push{e:LN}{k:Sl->Wp}{x:α}(h:OF E e w lo S s l)(hT:Bk P t e E.n E.bytes)(a5:lo<=w.heap.size)(hx:E.rep w S' x cs)(hc:sh w a cs)(a0:∀b,S' b->b<w.heap.size)(a4:∀ad,s.a=some ad-> ¬S' ad.block)
  (hb:(l.length+1)*E.bytes<=Ab) (hm:l.length+1<=maxLen)
  (hk:∀(r:Sl)(w':PU),OF E e w' lo (λb=>S b\/S' b) r (l++[x])->Below lo w w'->(∀b,b<w.heap.size->(∀ad,s.a=some ad->b≠ad.block)->w'.heap[b]?=w.heap[b]?)->(∀ad,r.a=some ad->(s.a=some ad\/w.heap.size<=ad.block))->k r w'):uc P t t s (Sl.v ⟨some a,1,1⟩) w k:=
 h.app hT a5 hx hc a0 a4 hb hm λr w' h1 h2 h3 h4 h5 h6 h7=>hk r w' h1 ⟨h3,h4,h5,h2,λb hb=>h6 b oM λad ha e=>by have:=(h.block ha).1;omega⟩ h6 h7
end
def tf.intro{f:OK}{args:LV}{k:Ë}(h:sx P f args w λv w'=>AI w w'/\k v w'):tf P f args w k:=h
def Old(S:Nat->Prop)(w:PU):Prop:=∀b,S b->b<w.heap.size
def Old.U(h:Old S w)(hx:w.heap.size<=w'.heap.size):Old S w':=λb hb=>jo (h b hb) hx
def sf.drew{k:Wp}(h:∀w',AI w w'->k w'):sf w.drew k:=λ_ e=>h _ (e▸AI.drew w)
def sh.pre(h:sh w a cs)(hp:cs=cs'++r):sh w a cs':=λj v hj=>h j v (by subst hp;rwa [gl (fh.1 hj).1])
def sh.I{k:Nat}(h:sh w a cs)(hp:cs.drop k=cs'++r):sh w (a.add k) cs':=λj v hj=>by rw[Dg];refine h (k+j) v ?_;rwa [<-mj,hp,gl (fh.1 hj).1]
def AT.at0(h:AT w a cs)(hx:AI w w')(hp:cs=cs'++r):Go.Hal.sh w' a cs':=(h.U hx).sh.pre hp
def AT.at1{k:Nat}(h:AT w a cs)(hx:AI w w')(hp:cs.drop k=cs'++r):Go.Hal.sh w' (a.add k) cs':=(h.U hx).sh.I hp
def IS.intro{τ:Type}{g:Bool}{k:τ->Wp}{A:(τ->Wp)->Prop}{d:τ}(val:τ)(hA:g=true->∀q:τ->Wp,(∀w',AI w w'->q val w')->A q)
  (hk:∀t w',AI w w'->(g=true->t=val)->k t w'):IS g k A (λq=>q d w):=
 ⟨λhg=>hA hg _ λw' hx=>hk _ _ hx λ_=>rfl,λhg=>hk _ _ xR λh=>by rw[hg]at h;cases h⟩
def tk.intro{tm:LV}{k:Wp}(hb:AT w a tm)(hl:cs.length<=tm.length)(h:∀w',uv a.block w w'->w'.heap.size=w.heap.size->AT w' a (cs++tm.drop cs.length)->k w'):ry w a cs k:=by have:=ry.intro (o:=0) (cs:=cs) (k:=k) hb oM λw' h1 h2 h3=>h w' h1 h2 (by simpa using h3);simpa[add_zero]using this
def uv.U(h:uv g w w')(hx:AI w0 w)(hg:w0.heap.size<=g):AI w0 w':=hx.W (h.below hx.size hg)
def IN{α:Sort _}{x:α}{k:α->Prop}(h:k x):sf x k:=λ_ e=>e▸h
def Of.up{body:Int->PU->(È)->Prop}{N:Nat}(hN:N<=maxLen)(I:Ê)(h0:I 0 w)
  (hs:∀(n:Nat) w' (a4:È),n<=N->I n w'->(n<N->∀a0,I (n+1) a0->a4 (Aa ((n:Int)+1)) a0)->body n w' a4):Of 0 w body:=
 ⟨λi w'=>∃n:Nat,i=n/\n<=N/\I n w',λi _=>N - i.toNat,⟨0,rfl,ib _,h0⟩,λi w' ⟨n,hi,hn,hI⟩=>by subst hi;refine hs n w' _ hn hI λa5 a0 h=>?_;rw[HO (n:=N) oM oM hN];exact⟨⟨n+1,oM,oM,h⟩,by show N - ((n:Int)+1).toNat<N - (n:Int).toNat;omega⟩⟩
def th.up{α:Type}{a:α}{body:α->Int->PU->(α->È)->Prop}{N:Nat}(hN:N<=maxLen)(I:α->Ê)(h0:I a 0 w)
  (hs:∀(a:α) (n:Nat) w' (a4:α->È),n<=N->I a n w'->(n<N->∀a' a0,I a' (n+1) a0->a4 a' (Aa ((n:Int)+1)) a0)->body a n w' a4):th a 0 w body:=
 ⟨λa i w'=>∃n:Nat,i=n/\n<=N/\I a n w',λ_ i _=>N - i.toNat,⟨0,rfl,ib _,h0⟩,λa i w' ⟨n,hi,hn,hI⟩=>by subst hi;refine hs a n w' _ hn hI λa5 a' a0 h=>?_;rw[HO (n:=N) oM oM hN];exact⟨⟨n+1,oM,oM,h⟩,by show N - ((n:Int)+1).toNat<N - (n:Int).toNat;omega⟩⟩
def No.max{α:Type}{E:xn α}{l:List α}(h:No E w S s l):l.length<=maxLen:=fj h.2.1 h.2.2.1
def No.el{α:Type}{E:xn α}{l:List α}(h:No E w S s l)(hn:n<l.length):
  ∃ad cs,s.a=some ad/\S ad.block/\E.rep w S l[n] cs/\∀w',AI w w'->sh w' (ad.add (n*E.n)) cs:=by
 obtain⟨ad,cs,h1,h2,h3,h4⟩:=h.get (dt hn);exact⟨ad,cs,h1,h2,h3,λw' hx=>h4.U hx⟩
def Fb{l:Κ}(h:No uo w S s l)(hn:n<l.length):
  ∃ad,s.a=some ad/\S ad.block/\∀w',AI w w'->sh w' (ad.add (n*6)) [.int .i64 l[n].lo.ma,.int .i64 l[n].lo.mi,.int .i64 l[n].lo.pa,.int .i64 l[n].hi.ma,.int .i64 l[n].hi.mi,.int .i64 l[n].hi.pa]:=by
 obtain⟨ad,cs,h1,h2,⟨rfl,_⟩,h4⟩:=h.el hn;exact⟨ad,h1,h2,h4⟩
def BF{l:Θ}(h:No ru w S s l)(hn:n<l.length):
  ∃ad t,s.a=some ad/\S ad.block/\Ad l[n].Y/\No uo w S t l[n].range/\∀w',AI w w'->sh w' (ad.add (n*2)) [.string l[n].Y,t.v]:=by
 obtain⟨ad,cs,h1,h2,⟨h0,t,rfl,h5⟩,h4⟩:=h.el hn;exact⟨ad,t,h1,h2,h0,h5,h4⟩
def join.intro{τ:Sort _}{R:τ}{b:τ->Prop}(h:b R):join R b:=h
def join.named{τ:Sort _}{R:τ}{b:τ->Prop}(h:∀J,J=R->b J):join R b:=h R rfl
def se:Nat->Prop:=λ_=>False
def OF.zero{α:Type}{E:xn α}{T:LN}(w:PU):OF E T w w.heap.size se Sl.nil ([]:List α):=OF.nil _ _
def OF.é{α:Type}{E:xn α}{e:LN}{l:List α}{x:α}{k:Sl->Wp}(h:OF E e w w0.heap.size se s l)(x0:AI w0 w)(hT:Bk P t e E.n E.bytes)
  (hx:E.rep w se x cs) (hc:sh w a cs) (h1:1<=E.bytes) (hb:(l.length+1)*E.bytes<=Ab) (hk:∀r w',OF E e w' w0.heap.size se r (l++[x])->AI w0 w'->k r w'):uc P t t s (Sl.v ⟨some a,1,1⟩) w k:=by
 have hm:l.length+1<=maxLen:=by have:(l.length+1)*1<=(l.length+1)*E.bytes:=pz _ h1;rw[Ao];unfold Ab at hb;omega
 exact h.push hT x0.size hx hc (λ_ h=>h.F) (λ_ _ h=>h.F) hb hm λr w' uy vh _ _=>hk r w' (uy.O (λ_ h=>h.F id id) (λ_ h=>h.F) (λ_ _ h=>h.F)) (x0.W vh)
def OF.ê{α:Type}{E:xn α}{T:LN}{l:List α}(h:OF E T w lo se s l)(h1:1<=E.bytes)(hb:l.length*E.bytes<=Ab):No E w (λb=>lo<=b) s l:=by
 have hm:l.length<=maxLen:=by have:l.length*1<=l.length*E.bytes:=pz _ h1;rw[Ao];unfold Ab at hb;omega
 refine(h.A hb hm).O λb hb=>?_;rcases hb with hb|⟨ad,ha,rfl⟩
 .exact hb.F
 .exact(h.block ha).1
def Đ:xn (Int×Int):=DL 2 16 (λx=>[vi x.1,vi x.2]) (λ_=>True) (λ_=>rfl) (λ_ v hv=>by simp at hv;rcases hv with rfl|rfl<;>rfl)
def vr:xn Pr:=DL 1 16 (λx=>[.string x]) (λx=>Ad x) (λ_=>rfl) (λ_ v hv=>by simp at hv;subst hv;rfl)
def OX{l:List (Int×Int)}(h:No Đ w S s l)(hn:n<l.length):
  ∃ad,s.a=some ad/\S ad.block/\∀w',AI w w'->sh w' (ad.add (n*2)) [.int .i64 l[n].1,.int .i64 l[n].2]:=by
 obtain⟨ad,cs,h1,h2,⟨rfl,_⟩,h4⟩:=h.el hn;exact⟨ad,h1,h2,h4⟩
def GN(b j:Nat):Addr.add ⟨b,0,none⟩ j=⟨b,j,none⟩:=by unfold Addr.add;split<;>simp_all
def AI.tz(h:AI w w')(g:Nat):uv g w w':=⟨h.size,h.os,h.tape,h.output,λb hb _=>h.block hb⟩
def uv.Z{a b c:PU}(h:uv g a b)(k:uv g b c):uv g a c:=
 ⟨fj h.1 k.1,k.2.1.Z h.2.1,k.2.2.1.Z h.2.2.1,k.2.2.2.1.Z h.2.2.2.1,λx hx a0=>(k.2.2.2.2 x (by have:=h.1;omega) a0).Z (h.2.2.2.2 x hx a0)⟩
end Go.Hal
namespace Go.Hal
structure wg{α:Type}(c:α->α->Int):Prop where
 flip:∀x y,c x y<0↔0<c y x
 trans:∀x y z,c x y<=0->c y z<=0->c x z<=0
abbrev wg.Z:=@wg.trans
def Ah{α:Type}(c:α->α->Int)(x y:α×Nat):Prop:=c x.1 y.1<0\/(c x.1 y.1=0/\x.2<y.2)
section
variable {α:Type} {c:α->α->Int}
def wg.zero(h:wg c){x y:α}:c x y=0↔c y x=0:=by have h1:=h.flip x y;have h2:=h.flip y x;constructor<;>intro h0<;>omega
def wg.ĥ(h:wg c){x y z:α}(h1:c x y<0)(h2:c y z<=0):c x z<0:=by
 have a0:=h.Z x y z oM h2;obtain h3|h3:=Int.lt_or_eq_of_le a0
 .exact h3
 .exfalso;have h4:=h.Z y z x h2 (by rw[h.zero.1 h3];exact ny _);have:=(h.flip x y).1 h1;omega
def wg.Xbb(h:wg c){x y z:α}(h1:c x y<=0)(h2:c y z<0):c x z<0:=by
 have a0:=h.Z x y z h1 oM;obtain h3|h3:=Int.lt_or_eq_of_le a0
 .exact h3
 .exfalso;have h4:=h.Z z x y (by rw[h.zero.1 h3];exact ny _) h1;have:=(h.flip y z).1 h2;omega
def Ah.Z(h:wg c){x y z:α×Nat}(h1:Ah c x y)(h2:Ah c y z):Ah c x z:=by
 rcases h1 with h1|⟨h1,a0⟩<;>rcases h2 with h2|⟨h2,a4⟩
 .exact .inl (h.ĥ h1 oM)
 .exact .inl (h.ĥ h1 oM)
 .exact .inl (h.Xbb oM h2)
 .refine .inr ⟨?_,oM⟩;have a:=h.Z _ _ _ (show c x.1 y.1<=0 by omega) (show c y.1 z.1<=0 by omega);have b:=h.Z _ _ _ (show c z.1 y.1<=0 by rw[h.zero.1 h2];omega) (show c y.1 x.1<=0 by rw[h.zero.1 h1];omega);have:=h.flip z.1 x.1;have:=h.flip x.1 z.1;omega
def Ah.not(h:wg c){x y:α×Nat}(h1:Ah c x y): ¬Ah c y x:=λh2=>by
 rcases h1 with h1|⟨h1,a0⟩<;>rcases h2 with h2|⟨h2,a4⟩
 .have:=(h.flip _ _).1 h1;omega
 .have:=h.zero.1 h2;omega
 .have:=h.zero.1 h1;omega
 .omega
def Ah.right(h:wg c){x y:α×Nat}(hi:x.2<y.2):(c y.1 x.1<0->Ah c y x)/\(¬c y.1 x.1<0->Ah c x y):=
 ⟨λh1=>.inl h1,λh1=>by
  have h2:=h.flip y.1 x.1;have h3:=h.flip x.1 y.1;by_cases h0:c x.1 y.1=0
  .exact .inr ⟨h0,hi⟩
  .exact .inl oM⟩
def Ci(c:α->α->Int)(x:α):List α->List α
 | []=>[x]
 |y::r=>if c x y<=0 then x::y::r else y::Ci c x r
def Bw(c:α->α->Int):List α->List α
 | []=>[]
 |x::r=>Ci c x (Bw c r)
def Xu(x:α)(l:List α):(Ci c x l).Perm (x::l):=by
 induction l with
 |nil=>exact jr _
 |cons y r ih=>
  unfold Ci;split
  .exact jr _
  .exact(ih.cons y).Z (List.Perm.swap x y r)
def G7(l:List α):(Bw c l).Perm l:=by
 induction l with
 |nil=>exact jr _
 |cons x r ih=>exact(Xu x _).Z (ih.cons x)
def En:Nat->List α->List (α×Nat)
 |_,[]=>[]
 |k,x::r=>(x,k)::En (k+1) r
def cN(c:α->α->Int)(x y:α×Nat):Int:=c x.1 y.1
def Ro(k:Nat)(l:List α):(En k l).map Prod.fst=l:=by
 induction l generalizing k with
 |nil=>rfl
 |cons x r ih=>simp[En,ih]
def Zgh(k:Nat)(l:List α):∀x∈En k l,k<=x.2/\x.2<k+l.length:=by
 induction l generalizing k with
 |nil=>intro x h;cases h
 |cons a r ih=>
  intro x h;obtain rfl|h:=gn.1 h
  .simp
  .have:=ih (k+1) x h;simp;omega
def Wb(k:Nat)(l:List α):(En k l).length=l.length:=by
 induction l generalizing k with
 |nil=>rfl
 |cons x r ih=>simp[En,ih]
def Rp(k:Nat)(l:List α):(En k l).Pairwise λx y=>x.2<y.2:=by
 induction l generalizing k with
 |nil=>exact .nil
 |cons a r ih=>refine .cons (λx h=>?_) (ih _);have:=(Zgh (k+1) r x h).1;show k<x.2;omega
def Zk3(x:α×Nat)(l:List (α×Nat)):(Ci (cN c) x l).map Prod.fst=Ci c x.1 (l.map Prod.fst):=by
 induction l with
 |nil=>rfl
 |cons y r ih=>
  have e:cN c x y=c x.1 y.1:=rfl;by_cases h:c x.1 y.1<=0
  .rw[Ci,fl (by rwa [e])];simp only[io];rw[Ci,fl h]
  .rw[Ci,fa (by rwa [e])];simp only[io];rw[Ci,fa h,ih]
def Xv(l:List (α×Nat)):(Bw (cN c) l).map Prod.fst=Bw c (l.map Prod.fst):=by
 induction l with
 |nil=>rfl
 |cons x r ih=>simp only[Bw,io,Zk3,ih]
def Zk5(h:wg c){x:α×Nat}{l:List (α×Nat)}(hl:l.Pairwise (Ah c))(hx:∀y∈l,x.2<y.2):(Ci (cN c) x l).Pairwise (Ah c):=by
 induction l with
 |nil=>exact lq _ _
 |cons y r ih=>
  obtain⟨h1,h2⟩:=iq.1 hl;have a0:=hx y (.head _);unfold Ci;split
  .rename_i hc;have hc:c x.1 y.1<=0:=hc;have a:Ah c x y:=by
    obtain h3|h3:=Int.lt_or_eq_of_le hc
    .exact .inl h3
    .exact .inr ⟨h3,a0⟩
   refine .cons (λz hz=>?_) hl;obtain rfl|hz:=gn.1 hz
   .exact a
   .exact a.Z h (h1 z hz)
  .rename_i hc;have hc: ¬c x.1 y.1<=0:=hc;refine .cons (λz hz=>?_) (ih h2 λy hy=>hx y (.tail _ hy));rcases gn.1 ((Xu x r).mem_iff.1 hz)with rfl|hz
   .exact .inl ((h.flip _ _).2 oM)
   .exact h1 z hz
def Xx(h:wg c){l:List (α×Nat)}(hl:l.Pairwise λx y=>x.2<y.2):(Bw (cN c) l).Pairwise (Ah c):=by
 induction l with
 |nil=>exact .nil
 |cons x r ih=>obtain⟨h1,h2⟩:=iq.1 hl;exact Zk5 h (ih h2) λy hy=>h1 y ((G7 r).mem_iff.1 hy)
def JA{β:Type}{R:β->β->Prop}(hn:∀x y,R x y-> ¬R y x):∀{l m:List β},l.Pairwise R->m.Pairwise R->l.Perm m->l=m
 | [],m,_,_,hp=>(List.nil_perm.1 hp).H
 |x::r,[],_,_,hp=>(List.perm_nil.1 hp)
 |x::r,y::s,h1,h2,hp=>by
  obtain⟨a1,a2⟩:=iq.1 h1;obtain⟨b1,b2⟩:=iq.1 h2;have e:x=y:=by
   rcases gn.1 (hp.mem_iff.1 (.head _))with e|hx
   .exact e
   .rcases gn.1 (hp.mem_iff.2 (jy (a:=y) (l:=s)))with e|hy
    .exact e.H
    .exact fm (b1 x hx) (hn _ _ (a1 y hy))
  subst e;rw[JA hn a2 b2 (List.perm_cons x |>.1 hp)]
def Zk7(h:wg c){l:List α}{m:List (α×Nat)}(hp:m.Perm (En 0 l))(hs:m.Pairwise (Ah c)):m.map Prod.fst=Bw c l:=by have:=JA (λx y h1=>Ah.not h h1) hs (Xx h (Rp 0 l)) (hp.Z (G7 _).H);rw[this,Xv,Ro]
def Zk8(h:wg c)(l:List α):(Bw c l).Pairwise λx y=>c x y<=0:=by have:=Xx h (Rp 0 l);have e:=Xv (c:=c) (En 0 l);rw[Ro]at e;rw[<-e,jb];refine this.imp λ{x y} h=>?_;rcases h with h|h<;>omega
end
def sg{α:Type}(z:List α)(i n:Nat):List α:=(z.drop i).take n
def Xc{α:Type}(z:List α)(i n:Nat):z=z.take i++sg z i n++z.drop (i+n):=by unfold sg;rw[ff,<-kr,ga,ga]
def EW{α:Type}{A M B:List α}(h:i+n<=A.length):sg (A++M++B) i n=sg A i n:=by unfold sg;rw[ff,me oM,oh (by rw[gh];omega)]
def RR{α:Type}{A M B:List α}(h:A.length=i)(hn:M.length=n):sg (A++M++B) i n=M:=by subst h;subst hn;unfold sg;rw[ff,List.drop_left,pb]
def RQ{α:Type}{A M:List α}(h:A.length=i)(hn:M.length<=n):sg (A++M) i n=M:=by subst h;unfold sg;rw[List.drop_left,ia hn]
def H7{α:Type}{z:List α}(h:z.length<=i):sg z i n=[]:=by unfold sg;rw[kf h];simp
def Pc{α:Type}{z:List α}(h:i+n<=z.length):(sg z i n).length=n:=by unfold sg;rw[fg,gh];omega
def RP{α:Type}{z:List α}{m:Nat}:sg z i (n+m)=sg z i n++sg z (i+n) m:=by unfold sg;rw[List.take_add,kr]
def Xb{α:Type}{z:List α}{x:α}(h:x∈sg z i n):∃j,∃hj:j<z.length,i<=j/\j<i+n/\z[j]=x:=by obtain⟨k,hk,rfl⟩:=gc.1 h;unfold sg at hk ⊢;rw[fg,gh]at hk;exact⟨i+k,oM,oM,oM,by rw[jw,lj]⟩
structure Ć{α:Type}(c:α->α->Int)(n:Nat)(z z0:List (α×Nat))(k:Nat):Prop where
 perm:∀i<k,(sg z (i*n) n).Perm (sg z0 (i*n) n)
 sort:∀i<k,(sg z (i*n) n).Pairwise (Ah c)
def Oz{j:Nat}(h:i+j<9223372036854775808):Go.IntKind.wrap .i64 (Int.fdiv (Go.IntKind.wrap .u64 (Aa ((i:Int)+(j:Int)))) (2 ^ 1))=(((i+j)/2:Nat):Int):=by
 rw[Ai oM oM];have e1:Go.IntKind.wrap .u64 ((i:Int)+(j:Int))=(i:Int)+(j:Int):=by simp only[Go.IntKind.wrap,Go.IntKind.bits,Go.IntKind.signed,qw,nt,if_false];omega
 rw[e1];have e2:Int.fdiv ((i:Int)+(j:Int)) (2 ^ 1)=(((i+j)/2:Nat):Int):=by rw[Int.fdiv_eq_ediv_of_nonneg _ dC];omega
 rw[e2];exact Ai oM oM
end Go.Hal
namespace Go.Hal
def CN{α β:Type}{k:Nat}(f:α->List β)(hk:∀x,(f x).length=k)(l:List α):((l.map f).flatten).length=l.length*k:=by
 induction l with
 |nil=>simp
 |cons a l ih=>simp[ih,hk,ku,Nat.add_comm]
def tv{α:Type}(f:α->LV)(w:PU)(g:Nat)(l:List α)(tail:LV):Prop:=AT w ⟨g,0,none⟩ ((l.map f).flatten++tail)
section
variable {α:Type} {f:α->LV} {k:Nat} {w w':PU} {g:Nat} {l:List α} {tail:LV}
def tv.U(h:tv f w g l tail)(hx:AI w w'):tv f w' g l tail:=AT.U h hx
def tv.lt(h:tv f w g l tail):g<w.heap.size:=AT.lt h
def tv.tz{b:Nat}(h:tv f w g l tail)(hb:uv b w w')(a0:g≠b):tv f w' g l tail:=hb.box h a0
def KC(i:Nat)(hi:i<l.length)(tail:LV):
  (l.map f).flatten++tail=(((l.take i).map f).flatten)++f l[i]++(((l.drop (i+1)).map f).flatten++tail):=by
 have h:l=l.take i++l[i]::l.drop (i+1):=by rw[<-gj hi,ga]
 have h2:(l.map f).flatten=((l.take i).map f).flatten++(f l[i]++((l.drop (i+1)).map f).flatten):=by
  conv=>lhs;rw[h]
  rw[gb,io,kl,jm]
 rw[h2];simp only[ff]
def QN(hk:∀x,(f x).length=k)(hi:i<l.length):(((l.take i).map f).flatten).length=i*k:=by rw[CN f hk,fg,kq oM]
def tv.ld(hk:∀x,(f x).length=k)(h:tv f w g l tail)(hi:i<l.length):sh w ((⟨g,0,none⟩:LP).add (i*k)) (f l[i]):=by refine AT.at1 h xR (r:=((l.drop (i+1)).map f).flatten++tail) ?_;have hl:=QN hk hi;rw[KC i hi,ff,me (by rw[hl];exact fx _),kf (by rw[hl];exact fx _),ip]
def tv.Ĥ(hk:∀x,(f x).length=k)(h:tv f w g l tail){x:α}(hi:l[i]?=some x):sh w ((⟨g,0,none⟩:LP).add (i*k)) (f x):=by obtain⟨h1,rfl⟩:=fh.1 hi;exact h.ld hk h1
def tv.st(hk:∀x,(f x).length=k)(h:tv f w g l tail)(hi:i<l.length){x:α}{K:Wp}(hK:∀w',uv g w w'->tv f w' g (l.set i x) tail->K w'):ry w ((⟨g,0,none⟩:LP).add (i*k)) (f x) K:=by
 have a0:=QN hk hi;have e:=KC (f:=f) i hi tail;refine ry.intro (o:=i*k) (tm:=(l.map f).flatten++tail) h (by rw[e,hk];simp only[du,a0,hk];omega) λw' hb hs hx=>hK w' hb ?_;have e2:=KC (f:=f) (l:=l.set i x) i (by simpa using hi) tail;have e3:((l.map f).flatten++tail).take (i*k)++f x++((l.map f).flatten++tail).drop (i*k+(f x).length)=((l.set i x).map f).flatten++tail:=by
  rw[e2,e,hk];have t1:(((l.take i).map f).flatten++f l[i]++(((l.drop (i+1)).map f).flatten++tail)).take (i*k)=((l.take i).map f).flatten:=by rw[ff,oh (by rw[a0];exact fx _),ia (by rw[a0];exact fx _)]
  have t2:(((l.take i).map f).flatten++f l[i]++(((l.drop (i+1)).map f).flatten++tail)).drop (i*k+k)=((l.drop (i+1)).map f).flatten++tail:=by rw[me (by simp only[du,a0,hk];omega),kf (by simp only[du,a0,hk];omega),ip]
  have t3:(l.set i x).take i=l.take i:=by rw[qa nR]
  have t4:(l.set i x).drop (i+1)=l.drop (i+1):=by rw[qd oM]
  rw[t1,t2,t3,t4,ou]
 unfold tv;rwa [<-e3]
end
def XD{α:Type}(A B:List α)(y x:α):((A++y::x::B).set (A.length+1) y).set A.length x=A++x::y::B:=by simp[List.set_append]
def Zlj{α:Type}(A B:List α)(y x:α):((A++y::x::B).set A.length x).set (A.length+1) y=A++x::y::B:=by simp[List.set_append]
def Zlk{α:Type}(A B C:List α)(x y:α):((A++x::(B++y::C)).set A.length y).set (A.length+1+B.length) x=A++y::(B++x::C):=by rw[qx _ _ nR,qn,List.set_cons_zero,qx _ _ oM];rw[show A.length+1+B.length - A.length=B.length+1 by omega,List.set_cons_succ,qx _ _ nR,qn,List.set_cons_zero]
def Zdi{α:Type}(A B:List α)(y:α):(A++y::B)[A.length]?=some y:=by simp
def Zdj{α:Type}(A B:List α)(y x:α):(A++y::x::B)[A.length+1]?=some x:=by simp
def I6{α:Type}{A B:List α}{y:α}(h:A.length=n):(A++y::B)[n]?=some y:=by subst h;exact Zdi A B y
def Ow{α:Type}{A B:List α}{y x:α}(h:A.length+1=n):(A++y::x::B)[n]?=some x:=by subst h;exact Zdj A B y x
def uv.ext'(h:uv g w0 w)(hx:AI w w'):uv g w0 w':=h.Z (hx.tz g)
section
open Classical
noncomputable def Ho (p:Nat->Prop):Nat:=if h:∃n,p n/\∀m,p m->n<=m then h.choose else 0
def Ze8{p:Nat->Prop}:∀n,p n->∃n,p n/\∀m,p m->n<=m:=λn=>by
 induction n using Nat.strongRecOn with
 |_ n ih=>
  intro h;by_cases hm:∃m,m<n/\p m
  .obtain⟨m,h1,h2⟩:=hm;exact ih m h1 h2
  .exact⟨n,h,λm h2=>by
    obtain h3|h3:=rt m n
    .exact fm ⟨m,h3,h2⟩ hm
    .exact h3⟩
def Gj{p:Nat->Prop}(h:p n):p (Ho p)/\∀m,p m->Ho p<=m:=by have hx:=Ze8 n h;unfold Ho;rw[dif_pos hx];exact hx.choose_spec
end
def Of.zj{α:Type}{a:α}{body:α->PU->(α->Wp)->Prop}(J:Nat->α->Wp)(n:Nat)(h0:J n a w)
  (hs:∀n a w a0,J n a w->(∀m a' w',m<n->J m a' w'->a0 a' w')->body a w a0):Of a w body:=
 ⟨λa w=>∃n,J n a w,λa w=>Ho λn=>J n a w,⟨n,h0⟩,λa w ⟨n,h⟩=>hs _ a w _ (Gj (p:=λn=>J n a w) h).1 λm a' w' hm hJ=>⟨⟨m,hJ⟩,nn ((Gj (p:=λn=>J n a' w') hJ).2 m hJ) hm⟩⟩
def th.zj{α β:Type}{a:α}{b:β}{body:α->β->PU->(α->β->Wp)->Prop}(J:Nat->α->β->Wp)(n:Nat)(h0:J n a b w)
  (hs:∀n a b w a0,J n a b w->(∀m a' b' w',m<n->J m a' b' w'->a0 a' b' w')->body a b w a0):th a b w body:=
 ⟨λa b w=>∃n,J n a b w,λa b w=>Ho λn=>J n a b w,⟨n,h0⟩,λa b w ⟨n,h⟩=>hs _ a b w _ (Gj (p:=λn=>J n a b w) h).1 λm a' b' w' hm hJ=>⟨⟨m,hJ⟩,nn ((Gj (p:=λn=>J n a' b' w') hJ).2 m hJ) hm⟩⟩
def ß.zj{α β γ:Type}{a:α}{b:β}{c:γ}{body:α->β->γ->PU->(α->β->γ->Wp)->Prop}(J:Nat->α->β->γ->Wp)(n:Nat)(h0:J n a b c w)
  (hs:∀n a b c w a0,J n a b c w->(∀m a' b' c' w',m<n->J m a' b' c' w'->a0 a' b' c' w')->body a b c w a0):ß a b c w body:=
 ⟨λa b c w=>∃n,J n a b c w,λa b c w=>Ho λn=>J n a b c w,⟨n,h0⟩,λa b c w ⟨n,h⟩=>hs _ a b c w _ (Gj (p:=λn=>J n a b c w) h).1 λm a' b' c' w' hm hJ=>⟨⟨m,hJ⟩,nn ((Gj (p:=λn=>J n a' b' c' w') hJ).2 m hJ) hm⟩⟩
def IS.named{τ:Sort _}{g:Bool}{k:τ}{A B:τ->Prop}(h:∀J,J=k->(g=true->A J)/\(g=false->B J)):IS g k A B:=h k rfl
def OF.tz{α:Type}{E:xn α}{T:LN}{l:List α}(h:OF E T w lo S s l)(hb:uv g w w')(hS: ¬S g)(hg:∀ad,s.a=some ad->g≠ad.block):OF E T w' lo S s l:=
 h.sj hb.1 λb a4 a0=>hb.2.2.2.2 b a4 (by
  rcases a0 with a0|⟨ad,ha,rfl⟩
  .rintro rfl;exact hS a0
  .exact Ne.H (hg ad ha))
def OF.Xbv{α β:Type}{E:xn α}{T:LN}{l:List α}(f:β->LV)(r:β->α->Prop)(hf:∀x cs,E.rep w S x cs->∃y,cs=f y/\r y x)(h:OF E T w lo S s l):
  (s=Sl.nil/\l=[])\/∃(g:Nat) (z:List (β×α)) (tail:LV),s.a=some ⟨g,0,none⟩/\lo<=g/\z.map Prod.snd=l/\(∀p∈z,r p.1 p.2)/\tv f w g (z.map Prod.fst) tail/\l.length<=s.cap/\s.cap<=maxLen:=by
 obtain⟨css,ho,hl,hr⟩:=h.row;rcases ho.2 with⟨hv,hn⟩|⟨g,cap,a0,hv,a5,hh,hc,hm,a7,ht⟩
 .left;have h0:l=[]:=fo (by rwa [<-h.len]);refine⟨?_,h0⟩;obtain⟨a,n,c⟩:=s;simp only[Sl.v,Value.slice.injEq]at hv;obtain⟨rfl,rfl,rfl⟩:=hv;rfl
 .right;have hz:∀(css:List (List HT)) (l:List α),css.length=l.length->(∀(i:Nat)(x:α),l[i]?=some x->∃cs,css[i]?=some cs/\E.rep w S x cs)->∃z:List (β×α),z.map Prod.snd=l/\(∀p∈z,r p.1 p.2)/\(z.map Prod.fst).map f=css:=by
   intro css;induction css with
   |nil=>intro l hl _;exact⟨[],(fo hl.H).H,by simp,rfl⟩
   |cons c css ih=>
    intro l hl hr;cases l with
    |nil=>cases hl
    |cons x l=>
     obtain⟨cs,h1,h2⟩:=hr 0 x rfl;simp only[jk,eu]at h1;subst h1;obtain⟨y,hy,a6⟩:=hf x _ h2;obtain⟨z,k1,k2,k3⟩:=ih l (by simpa using hl) λi x hx=>hr (i+1) x hx;refine⟨(y,x)::z,by simp[k1],λp hp=>?_,by simp only[io,k3,hy]⟩;obtain rfl|hp:=gn.1 hp
     .exact a6
     .exact k2 p hp
  obtain⟨z,k1,k2,k3⟩:=hz css l hl hr;simp only[Sl.v,Value.slice.injEq]at hv;obtain⟨ha,_,a4⟩:=hv;refine⟨g,z,a0.toList.drop (css.flatten).length,ha,a5,k1,k2,⟨T,rfl,rfl,?_⟩,by rw[a4];simpa[h.len]using hc,by rwa [a4]⟩;rw[k3];have e:css.flatten++a0.toList.drop css.flatten.length=a0.toList:=by
   have:css.flatten=a0.toList.take css.flatten.length:=by rw[<-ht];simp
   conv=>lhs;lhs;rw[this]
   exact ga _ _
  rw[e];simpa using hh
def tv.A{α β:Type}{E:xn α}{cap:Nat}{f:β->LV}{z:List (β×α)}{tail:LV}(h:tv f w g (z.map Prod.fst) tail)(hk:∀x,(f x).length=E.n)(hr:∀p∈z,E.rep w S p.2 (f p.1))(hc:z.length<=cap)(hm:cap<=maxLen)(hb:z.length*E.bytes<=Ab):
  No E w (λb=>S b\/b=g) ⟨some ⟨g,0,none⟩,z.length,cap⟩ (z.map Prod.snd):=by
 refine⟨by simp,by simpa using hc,hm,by simpa using hb,.inr ⟨⟨g,0,none⟩,rfl,.inr rfl,λi x hx=>?_⟩⟩;rw[gu]at hx;cases hz:z[i]? with
 |none=>rw[hz]at hx;cases hx
 |some p=>rw[hz]at hx;simp only[jp,eu]at hx;subst hx;exact⟨f p.1,E.O (hr p (ik hz)) λ_ h=>.inl h,h.Ĥ hk (by rw[gu,hz];rfl)⟩
section
variable {α:Type} {E:xn α} {T:LN} {w w':PU} {lo:Nat} {S S':Nat->Prop} {s:Sl} {l:List α}
def WW{w:PU}{S:Nat->Prop}:∀(l:List α)(ad:LP),(∀(i:Nat)(x:α),l[i]?=some x->∃cs,E.rep w S x cs/\sh w (ad.add (i*E.n)) cs)->
  ∃css:List (List HT),css.length=l.length/\(∀(i:Nat)(x:α),l[i]?=some x->∃cs,css[i]?=some cs/\E.rep w S x cs)/\sh w ad css.flatten/\css.flatten.length=l.length*E.n
 | [],ad,_=>⟨[],rfl,λi x h=>by simp at h,λj v h=>by simp at h,by simp⟩
 |x::r,ad,h=>by
  obtain⟨cs,h1,h2⟩:=h 0 x rfl;obtain⟨css,h3,h4,h5,h6⟩:=WW r (ad.add E.n) λi y hi=>by obtain⟨cs,a,b⟩:=h (i+1) y (by simpa using hi);refine⟨cs,a,?_⟩;rwa [Dg,show E.n+i*E.n=(i+1)*E.n by rw[ku];omega]
  have hl:=E.len h1;refine⟨cs::css,by simp[h3],λi y hi=>?_,λj v hj=>?_,by rw[jm,du,hl,h6,fu,ku];omega⟩
  .cases i with
   |zero=>simp at hi;subst hi;exact⟨cs,rfl,h1⟩
   |succ i=>obtain⟨c,a,b⟩:=h4 i y (by simpa using hi);exact⟨c,by simpa using a,b⟩
  .rw[jm]at hj;by_cases a0:j<cs.length
   .rw[gl a0]at hj;have:=h2 j v hj;rw[mq]at this;exact this
   .rw[ii oM]at hj;have:=h5 (j - cs.length) v hj;rw[Dg,show E.n+(j - cs.length)=j by omega]at this;exact this
def Zjq{l:List α}{css:List (List HT)}(hl:css.length=l.length)(hr:∀(i:Nat)(x:α),l[i]?=some x->∃cs,css[i]?=some cs/\E.rep w S x cs):∀u∈css.flatten,u.oneCell'=true:=by
 intro u hu;obtain⟨cs,a0,a5⟩:=List.mem_flatten.1 hu;obtain⟨k,hk,he⟩:=gc.1 a0;have a4:k<l.length:=by rwa [<-hl]
 obtain⟨a6,h3,h4⟩:=hr k _ (dt a4);rw[dt hk,he,eu]at h3;subst h3;exact E.one h4 u a5
def OF.yx{e:LN}{k:Sl->Wp}{x:Sl}{m:List α}(h:OF E e w lo S s l)(hT:Bk P t e E.n E.bytes)(d8:lo<=w.heap.size)(hx:No E w S' x m)(b5:∀b,S' b->b<w.heap.size)(b6:∀ad,s.a=some ad-> ¬S' ad.block)
  (hb:(l.length+m.length)*E.bytes<=Ab) (hm:l.length+m.length<=maxLen)
  (hk:∀(r:Sl)(w':PU),OF E e w' lo (λb=>S b\/S' b) r (l++m)->Below lo w w'->(∀b,b<w.heap.size->(∀ad,s.a=some ad->b≠ad.block)->w'.heap[b]?=w.heap[b]?)->(∀ad,r.a=some ad->(s.a=some ad\/w.heap.size<=ad.block))->k r w'):uc P t t s x.v w k:=by
 intro ty;obtain⟨css,ho,hl,hr⟩:=h.row;obtain⟨ht,i,z,hi,hz,b0,d4,e4,e0⟩:=hT;have c9:=h.len;cases hxa:x.a with
 |none=>
  have d9:m=[]:=by
   rcases hx.2.2.2.2 with h0|⟨ad,h1,_⟩
   .exact h0
   .rw[hxa]at h1;cases h1
  subst d9;have c8:x.len=0:=hx.1;have a9:(Builtin.append_ #[t,t] ty #[s.v,x.v]).run P w= .ok s.v w:=by
   have c3:x.v= .slice none 0 x.cap:=(by unfold Sl.v;rw[hxa,c8]);rw[c3];rcases ho.2 with⟨hv,_⟩|⟨g,cap,c5,hv,_,_,e1,_⟩
   .rw[hv];simp[Builtin.append_,run_underlying ht,sizeOf,typeInfo,hi,Builtin.lenOf,Builtin.firstCells]
   .rw[hv];simp[Builtin.append_,run_underlying ht,sizeOf,typeInfo,hi,Builtin.lenOf,Builtin.firstCells,e1,storeCells]
  refine⟨_,w,a9,s,rfl,hk s w ?_ (Below.refl _ _) (λ_ _ _=>rfl) λad ha=>.inl ha⟩;rw[gv];refine h.O (λ_ h=>.inl h) (λb hb=>?_) λad ha hb=>?_
  .obtain hb|hb:=hb
   .exact h.lt b hb
   .exact b5 b hb
  .obtain hb|hb:=hb
   .exact h.apart ad ha hb
   .exact b6 ad ha hb
 |some ad=>
  have b9:∀(i:Nat)(y:α),m[i]?=some y->∃cs,E.rep w S' y cs/\sh w (ad.add (i*E.n)) cs:=by intro i y hi;obtain⟨d3,cs,h1,h2,h3,h4⟩:=hx.get hi;rw[hxa,eu]at h1;subst h1;exact⟨cs,h3,h4⟩
  obtain⟨c4,c7,d1,d5,d6⟩:=WW m ad b9;have c3:x.v= .slice (some ad) m.length x.cap:=by unfold Sl.v;rw[hxa,hx.1]
  obtain⟨v',w',a9,a4,a5,c6⟩:=T5 (P:=P) (ty:=ty) (m:=m.length) (c:=x.cap) ht hi hz (by rwa [b0]) (by rwa [b0]) (by rwa [b0]) (by rwa [b0]) (λj u hj=>d5 j u hj) (Zjq c7 d1) oM (by rwa [c9,d4]) d8;rw[b0]at a4;have e3:∃r:Sl,v'=r.v/\r.len=s.len+m.length:=by
   rcases a4.2 with⟨hv,hn⟩|⟨g,cap,c5,hv,_⟩
   .exact⟨⟨none,0,0⟩,hv,hn.H⟩
   .exact⟨⟨_,_,_⟩,hv,rfl⟩
  obtain⟨r,rfl,d2⟩:=e3;have b2:∀ad,r.a=some ad->(s.a=some ad\/w.heap.size<=ad.block):=by
   intro ad a6;have h2:ad=⟨ad.block,0,none⟩:=by
    rcases a4.2 with⟨hv,_⟩|⟨g,cap,c5,hv,_⟩
    .simp[Sl.v,a6]at hv
    .simp[Sl.v,a6]at hv;rw[hv.1]
   have d0:r.v.ownBlock=some ad.block:=(by simp[Value.ownBlock,Sl.v,a6]);obtain hb|hb:=c6
   .left;rw[d0]at hb;cases hsa:s.a with
    |none=>simp[Value.ownBlock,Sl.v,hsa]at hb
    |some d3=>simp[Value.ownBlock,Sl.v,hsa]at hb;have:=(h.block hsa).2.2;rw[this,<-hb,<-h2]
   .right;rw[d0,eu]at hb;omega
  have a8:∀b,b<w.heap.size->(∀ad,s.a=some ad->b≠ad.block)->w'.heap[b]?=w.heap[b]? :=by
   intro b b7 e2;refine a5.block b b7 ?_;simp only[Value.ownBlock,Sl.v];cases hsa:s.a with
   |none=>simp
   |some ad=>simp only[ne_eq,eu];exact e2 ad hsa
  rw[c3];refine⟨_,w',a9,r,rfl,hk r w' ?_ ⟨a5.os,a5.tape,a5.output,a5.size,λb hb=>a8 b oM λad ha e=>by have:=(h.block ha).1;omega⟩ a8 b2⟩;have a7:∀b,b<w.heap.size->(S b\/S' b)->w'.heap[b]?=w.heap[b]? :=λb b7 a0=>a8 b b7 λad ha e=>by
   subst e;obtain a0|a0:=a0
   .exact h.apart _ ha a0
   .exact b6 _ ha a0
  refine⟨⟨css++c4,?_,by simp[hl,c7],λj y hj=>?_⟩,by simp[d2,c9],λb a0=>?_,λad a6 a0=>?_⟩
  .rwa [d2,kl]
  .rw[ni]at hj;split at hj
   .rename_i d7;obtain⟨b4,h1,h2⟩:=hr j y hj;exact⟨b4,by rwa [gl oM],E.sj (E.O h2 λ_ h=>.inl h) λb hb b8=>a7 b b8 hb⟩
   .rename_i d7;obtain⟨b4,h1,h2⟩:=d1 (j - l.length) y hj;exact⟨b4,by rwa [ii oM,hl],E.sj (E.O h2 λ_ h=>.inr h) λb hb b8=>a7 b b8 hb⟩
  .have:b<w.heap.size:=by
    obtain a0|a0:=a0
    .exact h.lt b a0
    .exact b5 b a0
   have:=a5.size;omega
  .obtain h1|h1:=b2 ad a6
   .obtain a0|a0:=a0
    .exact h.apart ad h1 a0
    .exact b6 ad h1 a0
   .have:ad.block<w.heap.size:=by
     obtain a0|a0:=a0
     .exact h.lt _ a0
     .exact b5 _ a0
    omega
end
def zu{α:Type}(E:xn α)(w:PU)(S:Nat->Prop)(s:Sl)(l:List α):Prop:=
 No E w S s l/\(l=[]\/∃g cur t,s.a=some ⟨g,0,none⟩/\S g/\w.heap[g]?=some (.cells cur t (0,0))/\l.length*E.n<=cur.size)
section
variable {α:Type} {E:xn α} {w w':PU} {S S':Nat->Prop} {s:Sl} {l:List α}
def zu.O(h:zu E w S s l)(hs:∀b,S b->S' b):zu E w S' s l:=⟨h.1.O hs,h.2.imp id λ⟨g,a0,t,a,b,c,d⟩=>⟨g,a0,t,a,hs _ b,c,d⟩⟩
def zu.sj(h:zu E w S s l)(hk:ï S w w'):zu E w' S s l:=⟨h.1.sj hk,h.2.imp id λ⟨g,a0,t,a,b,c,d⟩=>⟨g,a0,t,a,b,(hk g b (lt_of_block c)).Z c,d⟩⟩
def zu.U(h:zu E w S s l)(hx:AI w w'):zu E w' S s l:=h.sj (hx.sj S)
def zu.tz(h:zu E w S s l)(hb:uv g w w')(hn: ¬S g):zu E w' S s l:=h.sj (hb.sj hn)
def zu.nil:zu E w S Sl.nil ([]:List α):=⟨No.nil trivial,.inl rfl⟩
def zu.IN(hf:∀{w S S' x cs},E.rep w S x cs->E.rep w S' x cs)(h:zu E w S s l):zu E w (λb=>S b/\b<w.heap.size) s l:=by
 obtain⟨⟨h1,h2,h3,h4,h5⟩,h6⟩:=h;rcases h6 with h6|⟨g,a0,t,a,b,c,d⟩
 .exact⟨⟨h1,h2,h3,h4,.inl h6⟩,.inl h6⟩
 .refine⟨⟨h1,h2,h3,h4,h5.imp id λ⟨ad,k1,k2,k3⟩=>⟨ad,k1,⟨k2,?_⟩,λi x hx=>let⟨cs,e1,e2⟩:=k3 i x hx;⟨cs,hf e1,e2⟩⟩⟩,.inr ⟨g,a0,t,a,⟨b,lt_of_block c⟩,c,d⟩⟩;rw[a,eu]at k1;subst k1;exact lt_of_block c
def OF.Xbg{T:LN}(h:OF E T w lo S s l)(hb:l.length*E.bytes<=Ab)(hm:l.length<=maxLen):zu E w (λb=>S b\/∃ad,s.a=some ad/\b=ad.block) s l:=by
 refine⟨h.A hb hm,?_⟩;obtain⟨css,ho,hl,hr⟩:=h.row;rcases ho.2 with⟨hv,hn⟩|⟨g,cap,a0,hv,hg,hh,hc,a6,a4,ht⟩
 .exact .inl (fo (by rwa [<-h.len]))
 .simp[Sl.v]at hv;obtain⟨ha,a5⟩:=hv;refine .inr ⟨g,a0,T,ha,.inr ⟨_,ha,rfl⟩,hh,?_⟩;rw[a4,<-h.len];exact iu _ hc
end
def Ô:xn um where
 n:=2
 bytes:=40
 rep:=λw S d cs=>Ad d.Y/\∃s,cs= [.string d.Y,s.v]/\zu uo w S s d.range
 len:=λ⟨_,s,h,_⟩=>by rw[h];rfl
 one:=λ⟨_,s,h,_⟩ v hv=>by rw[h]at hv;simp[Sl.v]at hv;rcases hv with rfl|rfl<;>rfl
 O:=λ⟨h0,s,h,hr⟩ hs=>⟨h0,s,h,hr.O hs⟩
 sj:=λ⟨h0,s,h,hr⟩ hk=>⟨h0,s,h,hr.sj hk⟩
def Ĺ:xn xr where
 n:=3
 bytes:=48
 rep:=λw S d cs=>Ad d.Y/\∃s,cs= [.string d.Y,vi d.tc,s.v]/\zu uo w S s d.range
 len:=λ⟨_,s,h,_⟩=>by rw[h];rfl
 one:=λ⟨_,s,h,_⟩ v hv=>by rw[h]at hv;simp[Sl.v]at hv;rcases hv with rfl|rfl|rfl<;>rfl
 O:=λ⟨h0,s,h,hr⟩ hs=>⟨h0,s,h,hr.O hs⟩
 sj:=λ⟨h0,s,h,hr⟩ hk=>⟨h0,s,h,hr.sj hk⟩
def No.conv{α:Type}{E F:xn α}{l:List α}(h:No E w S s l)(hn:E.n=F.n)(hb:E.bytes=F.bytes)(hr:∀x∈l,∀cs,E.rep w S x cs->F.rep w S x cs):No F w S s l:=
 ⟨h.1,h.2.1,h.2.2.1,by rw[<-hb];exact h.2.2.2.1,h.2.2.2.2.imp id λ⟨ad,a,b,c⟩=>⟨ad,a,b,λi x hx=>let⟨cs,k1,k2⟩:=c i x hx;⟨cs,hr x (ik hx) cs k1,by rwa [<-hn]⟩⟩⟩
def zu.dep{l:Θ}(h:zu Ô w S s l):No ru w S s l:=h.1.conv rfl rfl λx _ cs ⟨h0,s,h1,h2⟩=>⟨h0,s,h1,h2.1⟩
end Go.Hal
namespace Go.Hal
open Go.ChangeShapes Go.WideShapes Go.ChangeAt
def Ļ(W:PU):Nat->Prop:=λb=>b<W.heap.size
def Ļ.tm(W:PU):Old (Ļ W) W:=λ_ h=>h
section
variable {H:Type} {enc:LN×HT->H} {P:LD} {W:PU}
def small(l:Wd):Prop:=l.all (λx=>decide (x<=reachBytes))=true
def Sj{a b:Wd}:small (a++b)↔small a/\small b:=by unfold small;rw[rj,dz]
def Zkh{a:Nat}{b:Wd}:small (a::b)↔a<=reachBytes/\small b:=by unfold small;rw[ob,dz,fk]
abbrev Tr(enc:LN×HT->H)(P:LD)(W:PU)(n:Nat)(t:LN)(cs:LV)(x:DataW H×List MemPlace):Prop:=DataW.trod enc P W 0 (λ_=>true) true n t cs=some x
def Rd(H:Type)(P:LD)(W:PU){α:Type}(E:xn α)(t:LN):Prop:=∀(enc:LN×HT->H) n cs x,Tr enc P W n t cs x->small (x.1.weights P t)->∃y,E.rep W (Ļ W) y cs
def JQ(H:Type)(P:LD)(W:PU){α:Type}(E:xn α)(t:LN):Prop:=∀(enc:LN×HT->H) n cs x,Tr enc P W n t cs x->small (x.1.weights P t)->∃(s:Sl) (l:List α),cs= [s.v]/\No E W (Ļ W) s l/\l.length*E.bytes<=reachBytes
def Znc{e:LN}{l:List (DataW H)}(h:small (DataW.weightsAll P e l)){d:DataW H}(hd:d∈l):small (d.weights P e):=by
 induction l with
 |nil=>cases hd
 |cons a r ih=>
  simp only[DataW.weightsAll]at h;obtain⟨h1,h2⟩:=Sj.1 h;obtain rfl|hd:=gn.1 hd
  .exact h1
  .exact ih h2 hd
def Py:∀{ts:List LN} {ds:List (DataW H)},small (DataW.weightsEach P ts ds)->∀{i:Nat} {t:LN} {d:DataW H},ts[i]?=some t->ds[i]?=some d->small (d.weights P t)
 | [],_,_,i,t,d,h1,_=>by simp at h1
 |_::_,[],_,i,t,d,_,h2=>by simp at h2
 |a::ts,b::ds,h,i,t,d,h1,h2=>by
  simp only[DataW.weightsEach]at h;obtain⟨k1,k2⟩:=Sj.1 h;cases i with
  |zero=>simp only[jk,eu]at h1 h2;subst h1;subst h2;exact k1
  |succ i=>exact Py k2 (i:=i) (by simpa using h1) (by simpa using h2)
def OV{α:Type}{E:xn α}{e:LN}(ht:P.underlying t=some (.slice e))(hc:P.cellsOf e=E.n)(hb:P.bytesOf e=E.bytes)(hn:0<E.n)(hE:Rd H P W E e):JQ H P W E t:=by
 intro enc n cs x h hw;rcases Go.Deep.open_slice ht h with⟨rfl,rfl⟩|⟨a,len,cap,m,n',D,Pl,rfl,_,b4,b2,hm,rfl,a7⟩
 .exact⟨Sl.nil,[],rfl,No.nil trivial,by simp[reachBytes]⟩
 .simp only[if_true]at hm;obtain rfl:cap=m:=hm.H;simp only[DataW.weights,ht]at hw;obtain⟨a9,b5⟩:=Zkh.1 hw;obtain⟨b6,_⟩:=Sj.1 b5;rw[hc]at a7;have a8:∀i,i<len->∃y a0,E.rep W (Ļ W) y a0/\Go.Hal.sh W (a.add (i*E.n)) a0:=λi hi=>by obtain⟨a0,h1,h2⟩:=a7 i oM;obtain⟨_,b7,a5⟩:=World.cells?_some h1;obtain⟨y,hy⟩:=hE enc n' a0 _ h2 (Znc b6 (ja (nq.2 hi)));exact⟨y,a0,hy,λj v hj=>by have b8:=(fh.1 hj).1;exact(a5 j oM).Z hj⟩
  have a6:∀k,k<=len->∃l:List α,l.length=k/\∀(i:Nat)(y:α),l[i]?=some y->∃a0,E.rep W (Ļ W) y a0/\Go.Hal.sh W (a.add (i*E.n)) a0:=λk=>by
   induction k with
   |zero=>intro _;exact⟨[],rfl,by simp⟩
   |succ k ih=>
    intro hk;obtain⟨l,hl,hr⟩:=ih oM;obtain⟨y,a0,h1,h2⟩:=a8 k oM;refine⟨l++[y],by simp[hl],λi z hz=>?_⟩;rw[ni]at hz;split at hz
    .exact hr i z hz
    .rename_i hi;have:i=k:=by have:=(fh.1 hz).1;simp at this;omega
     subst this;simp[hl]at hz;subst hz;exact⟨a0,h1,h2⟩
  obtain⟨l,hl,hr⟩:=a6 len nR;have a4:l.length*E.bytes<=reachBytes:=by refine fj (iu _ (show l.length<=((List.range len).map D).length+((List.range (cap - len)).map λj=>D (len+j)).length by simp[hl])) ?_;rw[hb]at a9;exact a9
  refine⟨⟨some a,len,cap⟩,l,rfl,⟨hl.H,by rwa [hl],b2,by unfold Ab;unfold reachBytes at a4;omega,?_⟩,a4⟩;obtain h0|h0:=kg len
  .left;exact fo oM
  .right;refine⟨a,rfl,?_,hr⟩;obtain⟨y,hy⟩:∃y,l[0]?=some y:=⟨_,dt oM⟩;obtain⟨a0,h1,h2⟩:=hr 0 y hy;have b9:=E.len h1;have b0:=h2 0 a0[0] (dt oM);have:=World.block_lt_of_cell? W _ b0;rw[CW,CW]at this;exact this
def B8{fs:Array Field}{x:DataW H×List MemPlace}(ht:P.underlying t=some (.struct fs))(h:Tr enc P W n t cs x)(hw:small (x.1.weights P t))(i ft off c:Nat)(hf:∃f,fs[i]?=some f/\f.type=ft/\f.offset=off)(hc:P.cellsOf ft=c):
  ∃y m,Tr enc P W m ft ((cs.drop off).take c) y/\small (y.1.weights P ft):=by
 obtain⟨f,hf,rfl,rfl⟩:=hf;subst hc;obtain⟨xs,m,_,rfl,_,a0,a4⟩:=DataW.trod_struct ht h;have hi:i<xs.length:=by rw[a0];exact(fb.1 hf).1
 have h1:=a4 i f hf;rw[dt hi]at h1;refine⟨xs[i],m,h1,?_⟩;simp only[DataW.weights,ht]at hw;exact Py hw (i:=i) (by simp[hf]) (by simp[dt hi])
def H3{fs:Array Field}{x:DataW H×List MemPlace}(ht:P.underlying t=some (.struct fs))(h:Tr enc P W n t cs x):cs.length=P.cellsOf t:=by obtain⟨xs,m,_,_,hl,_⟩:=DataW.trod_struct ht h;exact hl
def XO(hl:laidOutB P=true){W':PU}(hb:Below W.heap.size W W'):∀{ts:List LN} {vs:LV} {ds:List (DataW H)} {ps:List MemPlace},(∀t∈ts,P.readableRec t=true/\t<P.types.size)->(∀x∈ps,x.block<W.heap.size)->
  DataW.TrodAll enc P W 0 (λ_=>true) true ts vs ds ps->DataW.TrodAll enc P W' 0 (λb=>decide (b<W.heap.size)) true ts vs ds ps
 | [],vs,ds,ps,_,_,h=>by obtain⟨rfl,rfl,rfl⟩:=trodAll_nil h;exact trodAll_mk0
 |t::ts,vs,ds,ps,hr,hlt,h=>by obtain⟨v,a4,d,a0,p,p',rfl,rfl,rfl,h1,h2⟩:=trodAll_cons h;exact trodAll_cons_mk (Go.RowKit.Below.trod hl (hr t (.head _)).1 (hr t (.head _)).2 h1 hb λx hx=>hlt x (jd _ hx)) (XO hl hb (λt ht=>hr t (.tail _ ht)) (λx hx=>hlt x (li _ hx)) h2)
def Ze5{f:Func}{s:ChangeSpec}{W':PU}{args:Γ}{ds gs:List (DataW H)}{before:List MemPlace}(hl:laidOutB P=true)(hr:∀t∈f.params.toList,P.readableRec t=true/\t<P.types.size){bt:LN}(a4:f.resultTypes= #[bt])(a5:P.underlying bt=some .bool)(hv:s.vars=[])
  (hW:DataW.Whole enc P f.params.toList s.vars false W args.toList ds gs before) (hs:ds.length=f.params.toList.length->s.fn H ds={results:=[.lit (.bool true)],args:=ds}) (hb:AI W W'):s.post enc P f false true false false W args (.bool true) W':=by
 have a0:=hW;obtain⟨p,q,hA,hV,rfl,_,_⟩:=hW;rw[hv]at hV;obtain⟨rfl,rfl⟩:=trodVars_none hV;have hA:DataW.TrodAll enc P W 0 (λ_=>true) true f.params.toList args.toList ds p:=hA;have a6:∀x∈p,x.block<W.heap.size:=λx hx=>by simpa using a0.lt x (jd _ hx)
 have hf:=hs (Go.trodAll_length hA).2;rw[<-gv ds]at hf;refine⟨ds,[],_,[],p,[],a0,?_,?_,?_,Go.RowKit.Below.frame hb _,nO⟩
 .rw[hf,a4];exact trodAll_mk1 (shut_bool a5 true)
 .rw[hf,gv];exact XO hl hb hr a6 hA
 .rw[hf,hv];rfl
end
end Go.Hal
namespace Go.Hal
open Go.ChangeShapes Go.WideShapes Go.ChangeAt
def Ze0:laidOutB prog=true:=kR
section
variable {H:Type} {W:PU}
def Qg:prog.cellsOf 3=1:=kR
def Ki:prog.cellsOf 9=1:=kR
def NR:prog.cellsOf 52=3:=kR
def TR:prog.cellsOf 223=6:=kR
def TP:prog.cellsOf 187=2:=kR
def TQ:prog.cellsOf 59=7:=kR
def Z5:prog.cellsOf 132=1:=kR
def Qh:prog.cellsOf 32=1:=kR
def Z4:prog.cellsOf 22=1:=kR
def ET{enc:LN×HT->H}{x:DataW H×List MemPlace}(h:Tr enc prog W n 3 cs x):∃k,cs= [vi k]:=by obtain⟨k,h1,_⟩:=DataW.trod_int underlying3 h;exact⟨k,h1⟩
def Mt{enc:LN×HT->H}{x:DataW H×List MemPlace}(h:Tr enc prog W n 9 cs x):∃s:Pr,cs= [.string s]/\Ad s:=by obtain⟨s,h1,_,h2⟩:=DataW.trod_string underlying9 h;exact⟨s,h1,h2⟩
def Ze9{α:Type}{l:List α}(h:l.length=3):∃a b c,l= [a,b,c]:=by
 match l,h with
 | [a,b,c],_=>exact⟨a,b,c,rfl⟩
def RF{enc:LN×HT->H}{x:DataW H×List MemPlace}(h:Tr enc prog W n 52 cs x)(hw:small (x.1.weights prog 52)):∃v:tj,cs=v.c:=by have hl:=H3 underlying52 h;rw[NR]at hl;obtain⟨y0,m0,h0,_⟩:=B8 underlying52 h hw 0 3 0 1 ⟨_,rfl,rfl,rfl⟩ Qg;obtain⟨y1,m1,h1,_⟩:=B8 underlying52 h hw 1 3 1 1 ⟨_,rfl,rfl,rfl⟩ Qg;obtain⟨y2,m2,h2,_⟩:=B8 underlying52 h hw 2 3 2 1 ⟨_,rfl,rfl,rfl⟩ Qg;obtain⟨a,b,c,rfl⟩:=Ze9 hl;obtain⟨k0,e0⟩:=ET h0;obtain⟨k1,e1⟩:=ET h1;obtain⟨k2,e2⟩:=ET h2;simp at e0 e1 e2;exact⟨⟨k0,k1,k2⟩,by rw[e0,e1,e2];rfl⟩
def Ziv:Rd H prog W uo 223:=by
 intro enc n cs x h hw;have hl:=H3 underlying223 h;rw[TR]at hl;obtain⟨y0,m0,h0,w0⟩:=B8 underlying223 h hw 0 52 0 3 ⟨_,rfl,rfl,rfl⟩ NR;obtain⟨y1,m1,h1,w1⟩:=B8 underlying223 h hw 1 52 3 3 ⟨_,rfl,rfl,rfl⟩ NR;obtain⟨v0,e0⟩:=RF h0 w0;obtain⟨v1,e1⟩:=RF h1 w1;refine⟨⟨v0,v1⟩,?_,trivial⟩;have h3:cs=cs.take 3++(cs.drop 3).take 3:=by
  conv=>lhs;rw[<-ga 3 cs]
  rw[ia (l:=cs.drop 3) (by rw[gh];omega)]
 rw[h3];have e0:cs.take 3=v0.c:=e0;rw[e0];exact jt _ e1
def Ziw:JQ H prog W uo 132:=OV underlying132 TR kR dC Ziv
def Zir:Rd H prog W ru 187:=by
 intro enc n cs x h hw;have hl:=H3 underlying187 h;rw[TP]at hl;obtain⟨y0,m0,h0,w0⟩:=B8 underlying187 h hw 0 9 0 1 ⟨_,rfl,rfl,rfl⟩ Ki;obtain⟨y1,m1,h1,w1⟩:=B8 underlying187 h hw 1 132 1 1 ⟨_,rfl,rfl,rfl⟩ Z5;obtain⟨s,e0,hs⟩:=Mt h0;obtain⟨t,l,e1,ht,_⟩:=Ziw enc m1 _ _ h1 w1
 match cs,hl with
 | [a,b],_=>simp at e0 e1;exact⟨⟨s,l⟩,hs,t,by rw[e0,e1],ht⟩
def RE:JQ H prog W ru 32:=OV underlying32 TP kR dC Zir
def Zit:Rd H prog W wu 59:=by
 intro enc n cs x h hw;have hl:=H3 underlying59 h;rw[TQ]at hl;obtain⟨y0,m0,h0,w0⟩:=B8 underlying59 h hw 0 9 0 1 ⟨_,rfl,rfl,rfl⟩ Ki;obtain⟨y1,m1,h1,w1⟩:=B8 underlying59 h hw 1 52 1 3 ⟨_,rfl,rfl,rfl⟩ NR;obtain⟨y2,m2,h2,w2⟩:=B8 underlying59 h hw 2 32 4 1 ⟨_,rfl,rfl,rfl⟩ Qh;obtain⟨y3,m3,h3,w3⟩:=B8 underlying59 h hw 3 32 5 1 ⟨_,rfl,rfl,rfl⟩ Qh;obtain⟨y4,m4,h4,w4⟩:=B8 underlying59 h hw 4 32 6 1 ⟨_,rfl,rfl,rfl⟩ Qh;obtain⟨s,e0,hs⟩:=Mt h0;obtain⟨v,e1⟩:=RF h1 w1;obtain⟨d,ld,e2,hd,_⟩:=RE enc m2 _ _ h2 w2;obtain⟨e,le,e3,he,_⟩:=RE enc m3 _ _ h3 w3;obtain⟨o,lo,e4,ho,_⟩:=RE enc m4 _ _ h4 w4
 match cs,hl with
 | [c0,c1,c2,c3,c4,c5,c6],_=>simp[tj.c]at e0 e1 e2 e3 e4;exact⟨⟨s,v,ld,le,lo⟩,hs,d,e,o,by rw[e0,e1.1,e1.2.1,e1.2.2,e2,e3,e4];rfl,hd,he,ho⟩
def Ziu:JQ H prog W wu 22:=OV underlying22 TQ kR dC Zit
def WG{enc:LN×HT->H}{v:HT}{d:DataW H}{ps:List MemPlace}(h:DataW.Trod enc prog W 0 (λ_=>true) true t v d ps):∃n,Tr enc prog W n t v.cells.toList (d,ps):=h
end
end Go.Hal
namespace Go.Hal
def Da(n:Int):Bool:=decide (0<=n)&&decide (n<=999)
def tj.vt(v:tj):Bool:=Da v.ma&&Da v.mi&&Da v.pa
def BD(a b:Int):Int:=if a<b then -1 else if b<a then 1 else 0
def AM(a b:Int):Int:=if a=0 then b else a
def tj.cmp(a b:tj):Int:=AM (BD a.ma b.ma) (AM (BD a.mi b.mi) (BD a.pa b.pa))
def tj.num(v:tj):Int:=(v.ma*1000+v.mi)*1000+v.pa
def tj.J(v:tj):Int:=if v.vt then v.num else 0
def GS(n:Int):Bool:=decide (0<=n)&&decide (n<=999999999)
def Db(n:Int):tj:=if GS n then⟨n/1000000,n/1000%1000,n%1000⟩else⟨0,0,0⟩
def OQ{n:Int}:Da n=true↔0<=n/\n<=999:=by simp[Da]
def tj.vu{v:tj}:v.vt=true↔(0<=v.ma/\v.ma<=999)/\(0<=v.mi/\v.mi<=999)/\(0<=v.pa/\v.pa<=999):=by simp[tj.vt,OQ,and_assoc]
def tj.ě{v:tj}:0<=v.J/\v.J<=999999999:=by
 unfold tj.J;split
 .rename_i h;have:=tj.vu.1 h;unfold tj.num;omega
 .omega
def ZG{a b:Int}:BD a b<=0↔a<=b:=by unfold BD;split<;>(try split)<;>omega
def Iq{a b:Int}:BD a b=0↔a=b:=by unfold BD;split<;>(try split)<;>omega
def Ip(a b:Int):(BD a b= -1/\a<b)\/(BD a b=0/\a=b)\/(BD a b=1/\b<a):=by unfold BD;split<;>(try split)<;>omega
def tj.Ā{a b:tj}(ha:a.vt=true)(hb:b.vt=true):a.cmp b<=0↔a.J<=b.J:=by simp only[tj.J,ha,hb,if_true,tj.num];have:=tj.vu.1 ha;have:=tj.vu.1 hb;unfold tj.cmp AM;rcases Ip a.ma b.ma with h1|h1|h1<;>rcases Ip a.mi b.mi with h2|h2|h2<;>rcases Ip a.pa b.pa with h3|h3|h3<;>simp only[h1.1,h2.1,h3.1]<;>simp<;>omega
def tj.cmp_eq{a b:tj}:a.cmp b=0↔a=b:=by obtain⟨a1,a2,a3⟩:=a;obtain⟨b1,b2,b3⟩:=b;simp only[tj.mk.injEq,tj.cmp];unfold AM;rcases Ip a1 b1 with h1|h1|h1<;>rcases Ip a2 b2 with h2|h2|h2<;>rcases Ip a3 b3 with h3|h3|h3<;>simp only[h1.1,h2.1,h3.1]<;>simp<;>omega
def Pv{v:tj}(h:v.vt=true):Db v.J=v:=by
 have h':=tj.vu.1 h;have e:v.J=v.num:=by rw[tj.J,fl h]
 have hn:v.num=(v.ma*1000+v.mi)*1000+v.pa:=rfl;rw[e,Db,fl (by simp[GS];omega)];obtain⟨a,b,c⟩:=v;simp only at hn h' ⊢;rw[tj.mk.injEq];omega
def FN(a b:tj):((a.ma==b.ma)&&((a.mi==b.mi)&&((a.pa==b.pa)&&true)))=decide (a=b):=by obtain⟨a1,a2,a3⟩:=a;obtain⟨b1,b2,b3⟩:=b;rw[gp];simp
def BA:Int->Κ->Bool
 |_,[]=>true
 |least,x::r=>x.lo.vt&&x.hi.vt&&decide (least<=x.lo.J)&&decide (x.lo.J<=x.hi.J)&&BA (x.hi.J+2) r
def AN(l:Κ):Bool:=decide (l.length<=64)&&BA 0 l
def tx.has(n:Int)(x:tx):Bool:=decide (x.lo.J<=n)&&decide (n<=x.hi.J)
def BT(l:Κ)(v:tj):Bool:=AN l&&(v.vt&&l.any (tx.has v.J))
def AP(b:UInt8):Bool:=decide (97<=b.toNat)&&decide (b.toNat<=122)
def BQ(b:UInt8):Bool:=AP b||(decide (48<=b.toNat)&&decide (b.toNat<=57)||decide (b.toNat=45))
def CP:LU->Bool
 | []=>true
 |c::r=>AP c&&r.all BQ
def Ae(s:Pr):Bool:=CP s.toList&&(!Ag s ⟨#[]⟩&&decide (s.size<=16))
def Zf8(l:LU)(x:UInt8):CP (l++[x])=(CP l&&(if l=[]then AP x else BQ x)):=by
 cases l with
 |nil=>simp[CP]
 |cons c r=>simp[CP,og]
def Zf6{l m:LU}(h:CP (l++m)=true):CP l=true:=by
 cases l with
 |nil=>rfl
 |cons c r=>simp[CP]at h ⊢;exact⟨h.1,h.2.1⟩
def PL(p:UInt8->Bool)(h:(List.range 256).all (λn=>p (UInt8.ofNat n))=true)(b:UInt8):p b=true:=by have:=ix.1 h b.toNat (nq.2 b.toNat_lt);simpa using this
def Zfo{b:UInt8}(h:AP b=true):BQ b=true:=by simp[BQ,h]
def ú{n:Int}(hR:∀w',AI w w'->R (Da n) w'):Hh n w R:=by unfold Hh;exact IN (hR _ xR)
def y'{x y z:Int}(hR:∀w',AI w w'->R (tj.vt ⟨x,y,z⟩) w'):Ed x y z w R:=by
 refine An.intro λ_ _ _ hb _ _=>?_;refine⟨_,lD,?_⟩;refine Hh.V (ú λw' hx=>⟨_,rfl,?_⟩);refine⟨y,λ_=>hb.at1 xT rfl,IS.intro (Da y) (λ_ q hq=>Hh.V (ú λw' hx=>⟨_,rfl,hq _ hx⟩)) λt w1 x1 ht=>?_⟩;refine IN ⟨z,λ_=>hb.at1 xT rfl,IS.intro (Da z) (λ_ q hq=>Hh.V (ú λw' hx=>⟨_,rfl,hq _ hx⟩)) λt2 w2 x2 a0=>?_⟩;have e:(Da x&&t&&t2)=tj.vt ⟨x,y,z⟩:=by
  unfold tj.vt;cases h:Da x
  .rfl
  .rw[ht h];cases h':Da y
   .rfl
   .rw[a0 (by rw[h,ht h,h'];rfl)]
 rw[e];exact hR _ xT
def Zhx{a b:tj}{R:È}(hR:∀w',AI w w'->R (a.cmp b) w'):KM a.ma a.mi a.pa b.ma b.mi b.pa w R:=by
 refine An.intro λ_ _ _ hb _ _=>An.intro λ_ _ _ c6 _ _=>?_;refine⟨_,lD,?_⟩;refine⟨_,lD,?_⟩;refine⟨_,lD,?_⟩;refine An.intro λa5 _ _ b6 _ _=>?_;refine⟨_,lD,?_⟩;refine⟨_,lD,?_⟩;refine⟨_,lD,?_⟩;refine An.intro λa4 w1 _ b7 _ _=>?_;refine⟨λi w'=>AI w1 w'/\(i=0\/i=1/\a.ma=b.ma\/i=2/\a.ma=b.ma/\a.mi=b.mi\/i=3/\a=b),λi _=>3 - i.toNat,⟨AI.refl _,.inl rfl⟩,?_⟩;rintro i w2 ⟨x2,hi⟩;refine⟨λh3=>sf.drew λw3 x3=>?_,λh3=>?_⟩
 .have key:∀(k:Nat)(u v:Int),i=k->k<3-> [vi a.ma,vi a.mi,vi a.pa].drop k= [vi u]++[vi a.ma,vi a.mi,vi a.pa].drop (k+1)-> [vi b.ma,vi b.mi,vi b.pa].drop k= [vi v]++[vi b.ma,vi b.mi,vi b.pa].drop (k+1)->
    (u<v->a.cmp b= -1)->(v<u->a.cmp b=1)->(u=v->(i+1=1/\a.ma=b.ma\/i+1=2/\a.ma=b.ma/\a.mi=b.mi\/i+1=3/\a=b))->
    ∃ad,((Sl.mk (some a5) 3 3).a=some ad/\(0:Int)<=i/\i<((Sl.mk (some a5) 3 3).len:Int))/\∃a9,sh w3 (ad.add (i.toNat*1)) [Value.int .i64 a9]/\∃a6,((Sl.mk (some a4) 3 3).a=some a6/\(0:Int)<=i/\i<((Sl.mk (some a4) 3 3).len:Int))/\∃b0,sh w3 (a6.add (i.toNat*1)) [Value.int .i64 b0]/\
     ((a9<b0->R (-1) w3)/\(¬a9<b0->sf w3.drew λa0=>∃a7,((Sl.mk (some a5) 3 3).a=some a7/\(0:Int)<=i/\i<((Sl.mk (some a5) 3 3).len:Int))/\∃b4,sh a0 (a7.add (i.toNat*1)) [Value.int .i64 b4]/\∃a8,((Sl.mk (some a4) 3 3).a=some a8/\(0:Int)<=i/\i<((Sl.mk (some a4) 3 3).len:Int))/\∃b5,sh a0 (a8.add (i.toNat*1)) [Value.int .i64 b5]/\
      ((b5<b4->R 1 a0)/\(¬b5<b4->(AI w1 a0/\(Aa (i+1)=0\/Aa (i+1)=1/\a.ma=b.ma\/Aa (i+1)=2/\a.ma=b.ma/\a.mi=b.mi\/Aa (i+1)=3/\a=b))/\3 - (Aa (i+1)).toNat<3 - i.toNat)))):=by
   intro k u v hk c7 h1 h2 c4 b9 b8;have c5:((Sl.mk (some a5) 3 3).len:Int)=3:=rfl;have c3:i.toNat*1=k:=oM;rw[c3];refine⟨a5,⟨rfl,oM,by show i<3;omega⟩,u,b6.at1 xT h1,a4,⟨rfl,oM,by show i<3;omega⟩,v,b7.at1 xT h2,λh=>?_,λh=>sf.drew λw4 x4=>⟨a5,⟨rfl,oM,by show i<3;omega⟩,u,b6.at1 xT h1,a4,⟨rfl,oM,by show i<3;omega⟩,v,b7.at1 xT h2,λh'=>?_,λh'=>?_⟩⟩
   .rw[<-c4 h];exact hR _ xT
   .rw[<-b9 h'];exact hR _ xT
   .have e:=b8 oM;rw[Ai oM oM];exact⟨⟨xT,.inr e⟩,oM⟩
  rcases hi with rfl|⟨rfl,h1⟩|⟨rfl,h1,h2⟩|⟨rfl,_⟩
  .refine key 0 a.ma b.ma rfl oM rfl rfl ?_ ?_ λh=>.inl ⟨rfl,h⟩
   .intro h;unfold tj.cmp BD;rw[fl h];rfl
   .intro h;unfold tj.cmp BD;rw[fa oM,fl h];rfl
  .refine key 1 a.mi b.mi rfl oM rfl rfl ?_ ?_ λh=>.inr (.inl ⟨rfl,h1,h⟩)
   .intro h;unfold tj.cmp;rw[Iq.2 h1];unfold BD;rw[fl h];rfl
   .intro h;unfold tj.cmp;rw[Iq.2 h1];unfold BD;rw[fa oM,fl h];rfl
  .refine key 2 a.pa b.pa rfl oM rfl rfl ?_ ?_ λh=>.inr (.inr ⟨rfl,?_⟩)
   .intro h;unfold tj.cmp;rw[Iq.2 h1,Iq.2 h2];unfold BD;rw[fl h];rfl
   .intro h;unfold tj.cmp;rw[Iq.2 h1,Iq.2 h2];unfold BD;rw[fa oM,fl h];rfl
   .obtain⟨a1,a2,a3⟩:=a;obtain⟨b1,b2,b3⟩:=b;simp only at h1 h2 h;rw[h1,h2,h]
  .omega
 .have:a=b:=by rcases hi with rfl|⟨rfl,h1⟩|⟨rfl,h1,h2⟩|⟨_,h⟩<;>first|omega|exact h
  have h0:=tj.cmp_eq.2 this;rw[<-h0];exact hR _ xT
def Zls(n:Int)(h:0<=n):n.tdiv 1000000=n/1000000/\n.tdiv 1000=n/1000/\Int.tmod n 1000=n%1000:=⟨pf h,pf h,Int.tmod_eq_emod_of_nonneg h⟩
def Ũ{v:tj}{R:Int->É}(hR:∀w',AI w w'->R v.J v.vt w'):KN v.ma v.mi v.pa w R:=by
 refine An.intro λ_ _ _ hb _ _=>?_;refine⟨_,_,_,lD,?_⟩;refine Ed.V (y' λw' hx=>⟨_,rfl,λh=>?_,λh=>?_⟩)
 .have e:v.vt=false:=by simpa using h
  have:=hR w' xT;simpa[tj.J,e]using this
 .have e:v.vt=true:=by simpa using h
  refine⟨_,lD,?_⟩;refine⟨_,lD,?_⟩;refine⟨_,lD,?_⟩;have hm:=tj.vu.1 e;rw[Ai (x:=v.ma*1000) oM oM,Ai (x:=v.ma*1000+v.mi) oM oM,Ai (x:=(v.ma*1000+v.mi)*1000) oM oM,Ai oM oM];have:=hR w' xT;simpa[tj.J,e,tj.num]using this
def HK{v:tj}(hR:∀w',AI w w'->R v.vt w'):Ez v.ma v.mi v.pa w R:=by
 refine An.intro λ_ w1 _ hb _ _=>?_;refine⟨_,lD,?_⟩;refine⟨_,lD,?_⟩;refine⟨_,lD,?_⟩;refine⟨λi w'=>AI w1 w'/\(i=0\/i=1/\Da v.ma=true\/i=2/\Da v.ma=true/\Da v.mi=true\/i=3/\v.vt=true),λi _=>3 - i.toNat,⟨AI.refl _,.inl rfl⟩,?_⟩;rintro i w2 ⟨x2,hi⟩;refine⟨λh3=>⟨⟨oM,h3⟩,IN ⟨λh=>?_,λh=>?_⟩⟩,λh3=>?_⟩
 .have:v.vt=false:=by unfold tj.vt Da;rcases hi with rfl|⟨rfl,h1⟩|⟨rfl,h1,h2⟩|⟨rfl,_⟩<;>simp at h<;>simp<;>omega
  rw[<-this];exact hR _ xT
 .rw[Ai oM oM];refine⟨⟨x2,?_⟩,by show 3 - (i+1).toNat<3 - i.toNat;omega⟩;rcases hi with rfl|⟨rfl,h1⟩|⟨rfl,h1,h2⟩|⟨rfl,_⟩
  .refine .inr (.inl ⟨oM,?_⟩);simp at h;rw[OQ];omega
  .refine .inr (.inr (.inl ⟨oM,h1,?_⟩));simp at h;rw[OQ];omega
  .refine .inr (.inr (.inr ⟨oM,?_⟩));simp at h;rw[tj.vt,h1,h2,ic,ic,OQ];omega
  .omega
 .have:v.vt=true:=by rcases hi with rfl|⟨rfl,h1⟩|⟨rfl,h1,h2⟩|⟨_,h⟩<;>first|omega|exact h
  rw[<-this];exact hR _ xT
def í{n:Int}{R:Int->Int->Int->É}(hR:∀w',AI w w'->R (Db n).ma (Db n).mi (Db n).pa (GS n) w'):G8 n w R:=by
 refine An.intro λa w1 x1 hb a4 _=>IN ⟨λh=>?_,λh=>?_⟩
 .refine tk.intro hb sI λw2 b2 _ a0=>?_;refine⟨_,_,_,a0.sh.pre rfl,?_⟩;have e:GS n=false:=by simp only[GS];simp at h ⊢;omega
  have:=hR w2 (b2.U x1 oM);simpa[Db,e]using this
 .have e:0<=n/\n<=999999999:=by simp at h;omega
  have ha:GS n=true:=by simp[GS,e]
  obtain⟨e1,e2,e3⟩:=Zls n e.1;rw[e2,e3,Ai (x:=n/1000) oM oM,Int.tmod_eq_emod_of_nonneg oM,pf oM,Ai oM oM];have e4:n/1000/1000=n/1000000:=oM;rw[e4];refine tk.intro hb sI λw2 b2 _ a0=>?_;refine⟨_,_,_,a0.sh.pre rfl,?_⟩;have:=hR w2 (b2.U x1 oM);simpa[Db,ha]using this
def Nl{v:tj}{R:Int->É}(hR:∀w',AI w w'->R v.J v.vt w'):FO v.ma v.mi v.pa w R:=by
 refine An.intro λ_ _ _ hb _ _=>?_;refine⟨_,_,_,lD,?_⟩;refine Ez.V (HK (v:=v) λw' hx=>⟨_,rfl,λh=>?_,λh=>?_⟩)
 .have e:v.vt=false:=by simpa using h
  have:=hR w' xT;simpa[tj.J,e]using this
 .have e:v.vt=true:=by simpa using h
  refine⟨_,lD,?_⟩;refine⟨_,lD,?_⟩;refine⟨_,lD,?_⟩;have hm:=tj.vu.1 e;rw[Ai (x:=v.ma*1000) oM oM,Ai (x:=v.ma*1000+v.mi) oM oM,Ai (x:=(v.ma*1000+v.mi)*1000) oM oM,Ai oM oM];have:=hR w' xT;simpa[tj.J,e,tj.num]using this
def ĵ{x:Int}(hR:R false w):It x w R:=by unfold It;simpa using hR
def yy{x y:Int}{R:È}(hR:R (BD x y) w):Ea x y w R:=by
 refine It.V (ĵ ⟨_,rfl,It.V (ĵ ⟨_,rfl,⟨λh=>(by cases h),λ_=>⟨λh=>(by cases h),λ_=>⟨λh=>?_,λh=>⟨λh'=>?_,λh'=>?_⟩⟩⟩⟩⟩)⟩)
 .simpa[BD,h]using hR
 .simpa[BD,h,h']using hR
 .simpa[BD,h,h']using hR
def A8(a b:Pr):Int:=if Ak a b then -1 else if Ag a b then 0 else 1
def Ua{l:Α}{R:È}(hs:No yu w S s l)(hR:R (l.foldr AM 0) w):EB s w R:=by
 unfold EB;refine⟨λi w'=>w'=w/\0<=i/\i<=l.length/\(l.drop i.toNat).foldr AM 0=l.foldr AM 0,λi _=>l.length - i.toNat,⟨rfl,oM,oM,rfl⟩,?_⟩;rintro i w' ⟨rfl,h0,h1,h2⟩;have hl:=hs.len;refine⟨λa0=>?_,λa5=>?_⟩
 .obtain⟨x,hx⟩:∃x,l[i.toNat]?=some x:=⟨_,dt oM⟩;obtain⟨ad,cs,ha,hS,⟨rfl,_⟩,hc⟩:=hs.get hx;have hd:l.drop i.toNat=x::l.drop (i.toNat+1):=by obtain⟨hl,he⟩:=fh.1 hx;rw[<-he];exact(gj hl)
  rw[hd,List.foldr_cons]at h2;refine⟨ad,⟨ha,h0,a0⟩,x,hc.pre rfl,λa4=>?_,λhe=>?_⟩
  .rw[AM,fa a4]at h2;rwa [h2]
  .have he:x=0:=jx.1 he;rw[AM,fl he]at h2;have:=hs.2.2.1;have:=hs.2.1;rw[HO h0 a0 oM];have e:(i+1).toNat=i.toNat+1:=oM;exact⟨⟨rfl,oM,oM,by rwa [e]⟩,by show l.length - (i+1).toNat<l.length - i.toNat;omega⟩
 .rw[kf oM]at h2;rw[<-h2]at hR;exact hR
end Go.Hal
/-
 DERIVED:THE SHELF's CONTRACTS AT THIS DUMP,IN PLAIN WORDS (tools/lay-plain.mjs sw of 'YtgolaibmophnjaaGreatDoorLay.lean',which tools/lay-shelf.mjs wrote):THE SAME DECLARATIONS UNDER THE SAME NAMES:'import','namespace','open','def','theorem' AND NOTHING ELSE:no command of the shelf's:FOR A HAND-IN. Each laying:the table of numbers ('.._ren') and one theorem,a field a fact of the dump's uy or the kernel's comparison;each contract:ONE APPLICATION.
-/
namespace Go.Proofs
def Tryz.Xap:Go.Shelf.Ren:=⟨λ|161=>146|231=>230|227=>231|233=>232|235=>233|228=>300|197=>301|151=>302|260=>342|152=>343|137=>372|119=>373|224=>374|225=>375|217=>392|266=>411|n=>n,λ|9=>9|4=>4|3=>3|5=>5|117=>296|116=>295|0=>0|124=>299|105=>357|21=>21|119=>408|46=>185|139=>411|138=>410|n=>n,λ|3=>2|4=>3|n=>n⟩
def Tryz.Xb6:Go.Proofs.Lays.n161 prog Tryz.Xap:=by repeat' first|kernel_rfl|(intro w;kernel_rfl)|constructor
def Tryz.Xaq:Go.Shelf.Ren:=⟨λ|160=>147|232=>234|231=>230|227=>231|234=>235|233=>232|236=>236|235=>233|228=>300|271=>303|151=>302|197=>301|120=>344|152=>343|260=>342|137=>372|119=>373|224=>374|225=>375|217=>392|266=>411|n=>n,λ|9=>9|4=>4|3=>3|5=>5|117=>296|116=>295|0=>0|124=>299|21=>21|105=>357|46=>185|119=>408|139=>411|138=>410|n=>n,λ|3=>2|4=>3|n=>n⟩
def Tryz.Xc0:Go.Proofs.Lays.n160 prog Tryz.Xaq:=by repeat' first|kernel_rfl|(intro w;kernel_rfl)|constructor
def Tryz.Xad:Go.Shelf.Ren:=⟨λ|169=>96|n=>n,λ|70=>166|9=>9|0=>0|72=>169|37=>167|127=>238|3=>3|5=>5|n=>n,λ|n=>n⟩
def Tryz.Xdi:Go.Proofs.Lays.n169 prog Tryz.Xad:=by repeat' first|kernel_rfl|(intro w;kernel_rfl)|constructor
def Tryz.ċ:Go.Shelf.Ren:=⟨λ|156=>243|165=>305|166=>93|169=>96|240=>158|241=>345|276=>247|277=>376|n=>n,λ|31=>57|9=>9|3=>3|4=>4|0=>0|20=>20|72=>169|76=>172|70=>166|37=>167|75=>171|127=>238|164=>309|5=>5|80=>176|n=>n,λ|n=>n⟩
def Tryz.ŵ:Go.Proofs.Lays.n156 prog Tryz.ċ:=by repeat' first|kernel_rfl|(intro w;kernel_rfl)|constructor
def Tryz.Xai:Go.Shelf.Ren:=⟨λ|171=>95|243=>159|246=>248|283=>306|284=>307|285=>308|286=>309|129=>172|317=>346|318=>347|319=>348|320=>349|337=>377|338=>378|n=>n,λ|3=>3|9=>9|2=>2|4=>4|171=>360|0=>0|53=>251|37=>167|5=>5|173=>362|212=>392|51=>249|20=>20|213=>393|46=>185|232=>424|233=>425|n=>n,λ|17=>1|18=>4|19=>5|n=>n⟩
def Tryz.Xb1:Go.Proofs.LaysM.n171 prog Tryz.Xai:=by repeat' first|kernel_rfl|(intro w;kernel_rfl)|constructor
def Tryz.Xae:Go.Shelf.Ren:=⟨λ|106=>66|213=>135|265=>224|n=>n,λ|9=>9|3=>3|n=>n,λ|n=>n⟩
def Tryz.Xcx:Go.Proofs.Lays.n106 prog Tryz.Xae:=by repeat' first|kernel_rfl|(intro w;kernel_rfl)|constructor
end Go.Proofs
namespace Go.Hal
def JD(a:Pr):a.toList.length=a.size:=by rw[toList_data,G2]
def PY{a:Pr}{i:Int}(h0:0<=i)(h:i<a.size):∃x:UInt8,a.toList[i.toNat]?=some x/\Cw a i=(x.toNat:Int):=by obtain⟨n,rfl⟩:=Int.eq_ofNat_of_zero_le h0;have hn:n<a.size:=oM;refine⟨_,?_,Zb hn⟩;rw[toList_data,dx];exact dt (by rwa [G2])
def Ŷ(a b:Pr)(w:PU)(R:É)(ha:Ad a)(hR:∀w',AI w w'->R (Ak a b) w'):IC a b w R:=by
 unfold IC;refine⟨λi w'=>AI w w'/\0<=i/\i<=a.size/\i<=b.size/\a.toList.take i.toNat=b.toList.take i.toNat,λi _=>a.size - i.toNat,⟨AI.refl _,oM,oM,oM,rfl⟩,?_⟩;rintro i w1 ⟨hx,h0,h1,h2,h3⟩;have sa:a.toList=a.toList.take i.toNat++a.toList.drop i.toNat:=(ga _ _).H;have sb:b.toList=a.toList.take i.toNat++b.toList.drop i.toNat:=by rw[h3];exact(ga _ _).H
 have a5:Ak a b=Op.bytesLess (a.toList.drop i.toNat) (b.toList.drop i.toNat):=by have:=Zk (a.toList.take i.toNat) (a.toList.drop i.toNat) (b.toList.drop i.toNat);rw[<-sa,<-sb]at this;exact this
 rintro b1 a4;refine⟨λhb=>?_,λhb=>?_⟩
 .simp only[a4,dz,fk]at hb;obtain⟨x,a6,ea⟩:=PY h0 hb.1;obtain⟨y,a7,eb⟩:=PY h0 hb.2;have da:a.toList.drop i.toNat=x::a.toList.drop (i.toNat+1):=by obtain⟨hl,he⟩:=fh.1 a6;rw[<-he];exact(gj hl)
  have db:b.toList.drop i.toNat=y::b.toList.drop (i.toNat+1):=by obtain⟨hl,he⟩:=fh.1 a7;rw[<-he];exact(gj hl)
  rintro w2 rfl;refine⟨⟨h0,hb.1⟩,⟨h0,hb.2⟩,λa8=>?_,λhe=>?_⟩
  .rintro w3 rfl;refine⟨⟨h0,hb.1⟩,⟨h0,hb.2⟩,?_⟩;have a0:x≠y:=λh=>a8 (by rw[ea,eb,h]);have:decide (Cw a i<Cw b i)=Ak a b:=by
    rw[a5,da,db,ea,eb];show _=(decide (x<y)||(x==y&&_));have:(x==y)=false:=by simpa using a0
    rw[this,qw,Bool.or_false];simp[UInt8.lt_iff_toNat_lt]
   rw[this];exact hR _ ((hx.Z (AI.drew _)).Z (AI.drew _))
  .have a0:x=y:=(by rw[jx,ea,eb]at he;exact UInt8.toNat_inj.1 oM);rw[HO h0 hb.1 ha];refine⟨⟨hx.Z (AI.drew _),oM,oM,oM,?_⟩,by show a.size - (i+1).toNat<a.size - i.toNat;omega⟩;have e:(i+1).toNat=i.toNat+1:=oM;rw[e,List.take_add_one,List.take_add_one,h3,a6,a7,a0]
 .have:decide ((a.size:Int)<(b.size:Int))=Ak a b:=by
   simp only[a4,nu,gk]at hb;rw[a5];by_cases hc:i=a.size
   .have:a.toList.drop i.toNat=[]:=kf (by rw[JD];omega);rw[this];cases hd:b.toList.drop i.toNat with
    |nil=>have hl:=jt List.length hd;rw[gh,JD]at hl;simp only[ie]at hl;show _=false;simp;omega
    |cons y r=>have hl:=jt List.length hd;rw[gh,JD]at hl;simp only[fu]at hl;show _=true;simp;omega
   .have:b.toList.drop i.toNat=[]:=kf (by rw[JD];omega);rw[this];have:Op.bytesLess (a.toList.drop i.toNat) []=false:=(by cases a.toList.drop i.toNat<;>rfl);rw[this];simp;omega
  rw[this];exact hR _ hx
def Xa3:Pr:=bm #[97,98,99,100,101,102,103,104,105,106,107,108,109,110,111,112,113,114,115,116,117,118,119,120,121,122]
def Ĭ:Pr:=bm #[97,98,99,100,101,102,103,104,105,106,107,108,109,110,111,112,113,114,115,116,117,118,119,120,121,122,48,49,50,51,52,53,54,55,56,57,45]
set_option maxRecDepth 100000 in
def ZY(b:UInt8):Xa3.data.toList.contains b=AP b:=by have:=PL (λb=>Xa3.data.toList.contains b==AP b) (by decide+kernel) b;simpa using this
set_option maxRecDepth 100000 in
def ZZ(b:UInt8):Ĭ.data.toList.contains b=BQ b:=by have:=PL (λb=>Ĭ.data.toList.contains b==BQ b) (by decide+kernel) b;simpa using this
def Zlz{s:Pr}{k:Ë}(hk:∀w',AI w w'->k (.string ⟨(s.data.toList.dropWhile AP).toArray⟩) w'):sx prog 146 [.string s,.string Xa3] w k:=by
 have h:=Any.strings_TrimLeft_laid Tryz.Xb6 kR s Xa3 w dC (ascii_of_all dC);have e:Lib.trimLeftS s.data.toList Xa3.data.toList=s.data.toList.dropWhile AP:=by unfold Lib.trimLeftS;congr 1;funext b;exact ZY b
 rw[e]at h;exact h.O λe w' ⟨he,hb⟩=>⟨_,he,hk w' hb⟩
def Zl1{s:Pr}{k:Ë}(hs:Ad s)(hk:∀w',AI w w'->k (.string ⟨(Lib.trimS s.data.toList Ĭ.data.toList).toArray⟩) w'):sx prog 147 [.string s,.string Ĭ] w k:=
 (Any.strings_Trim_laid Tryz.Xc0 kR s Ĭ w hs dC (ascii_of_all dC)).O λe w' ⟨he,hb⟩=>⟨_,he,hk w' hb⟩
def Uj{α:Type}(p:α->Bool)(l:List α):l.dropWhile p=[]↔l.all p=true:=by
 induction l with
 |nil=>simp
 |cons x r ih=>
  rw[nj,ob];cases h:p x
  .simp
  .simpa using ih
def Qb{α:Type}[BEq α][LawfulBEq α][DecidableEq α](a b:α):(a==b)=decide (a=b):=by rw[gp];simp
def XN(l:LU):(Lib.trimS l Ĭ.data.toList=[])↔l.all BQ=true:=by
 have e:(λb=>Ĭ.data.toList.contains b)=BQ:=funext ZZ;unfold Lib.trimS Lib.trimLeftS Lib.trimRightS;simp only[e];rw[Uj];constructor
 .intro h;have h2:l.reverse.dropWhile BQ=[]:=by
   cases hd:l.reverse.dropWhile BQ with
   |nil=>rfl
   |cons x r=>
    rw[hd]at h;have h3:=ix.1 h x sI;have h4:∀m:LU,m.dropWhile BQ=x::r->BQ x=false:=by
     intro m;induction m with
     |nil=>intro h;cases h
     |cons y t ih=>
      rw[nj];cases hy:BQ y
      .intro h;simp at h;rwa [<-h.1]
      .intro h;exact ih (by simpa using h)
    rw[h4 _ hd]at h3;cases h3
  rw[Uj]at h2;exact ix.2 λx hx=>ix.1 h2 x (List.mem_reverse.2 hx)
 .intro h;refine ix.2 λx hx=>?_;have:x∈l.reverse:=(oq _).mem (List.mem_reverse.1 hx);exact ix.1 h x (List.mem_reverse.1 this)
def Zf9(s:Pr):Ae s=((!Ag s ⟨#[]⟩&&decide (s.size<=16))&&(!Ag ⟨(s.data.toList.dropWhile AP).toArray⟩ s&&(s.data.toList.dropWhile AP).all BQ)):=by
 unfold Ae;rw[Bool.and_comm];have hb:∀l:LU,Ag ⟨l.toArray⟩ s=decide (l=s.data.toList):=by intro l;unfold Ag;rw[toList_data,toList_data];exact Qb ..
 cases h0:(!Ag s ⟨#[]⟩&&decide (s.size<=16))
 .rfl
 .rw[ic,ic,hb,toList_data];have a0:s.data.toList≠[]:=by
   intro h;simp only[dz]at h0;have:Ag s ⟨#[]⟩=true:=by unfold Ag;rw[toList_data,toList_data,h];rfl
   rw[this]at h0;exact fm h0.1 dC
  cases hs:s.data.toList with
  |nil=>exact fm hs a0
  |cons c r=>
   unfold CP;rw[nj];cases hc:AP c
   .show(AP c&&_)=_;rw[hc,fa sI];simp
   .have hl: ¬r.dropWhile AP=c::r:=(by intro h;have:=(oq AP (l:=r)).length_le;rw[h]at this;simp at this;omega);simp only[if_true,fq hl,Bool.not_false,ic];have:r=r.takeWhile AP++r.dropWhile AP:=(mz ..).H;have ht:(r.takeWhile AP).all BQ=true:=ix.2 λx hx=>Zfo (by have:=List.all_takeWhile (p:=AP) (l:=r);exact ix.1 this x hx);rw[hc,ic]
    calc r.all BQ=(r.takeWhile AP++r.dropWhile AP).all BQ:=by rw[<-this]
     _=_:=by rw[rj,ht,ic]
def ux{s:Pr}(hs:Ad s)(hR:∀w',AI w w'->R (Ae s) w'):CI s w R:=by
 refine Zlz λw1 x1=>⟨_,rfl,IN (IN (IN ?_))⟩;have a0:Ad ⟨(s.data.toList.dropWhile AP).toArray⟩:=by have h1:=(oq AP (l:=s.data.toList)).length_le;have h2:=G2 ⟨(s.data.toList.dropWhile AP).toArray⟩;have h3:=G2 s;simp only[rk]at h2;unfold Ad at*;omega
 refine IS.intro ⟨(Lib.trimS (s.data.toList.dropWhile AP) Ĭ.data.toList).toArray⟩ (λ_ q hq=>Zl1 a0 λw' hx=>⟨_,rfl,hq _ hx⟩) λt w2 x2 ht=>?_;have:(((!Ag s ⟨#[]⟩)&&decide ((s.size:Int)<=16))&&(!Ag ⟨(s.data.toList.dropWhile AP).toArray⟩ s)&&Ag t ⟨#[]⟩)=Ae s:=by
  rw[Zf9];have e:decide ((s.size:Int)<=16)=decide (s.size<=16):=by rw[js];omega
  rw[e]at ht ⊢;rw[og];cases h1:(!Ag s ⟨#[]⟩&&decide (s.size<=16))
  .rfl
  .cases h2:(!Ag ⟨(s.data.toList.dropWhile AP).toArray⟩ s)
   .rfl
   .rw[ht (by rw[h1,h2];rfl),ic,ic,ic];have h3:Ag (⟨(Lib.trimS (s.data.toList.dropWhile AP) Ĭ.data.toList).toArray⟩:Pr) ⟨#[]⟩=decide (Lib.trimS (s.data.toList.dropWhile AP) Ĭ.data.toList=[]):=by unfold Ag;rw[toList_data,toList_data];exact Qb ..
    rw[h3];cases h4:(s.data.toList.dropWhile AP).all BQ
    .exact fq λh=>by rw[XN]at h;rw[h]at h4;cases h4
    .exact fy ((XN _).2 h4)
 rw[this];exact hR _ xT
def yk{s:Pr}(hs:Ad s)(hR:∀w',AI w w'->R (Ae s) w'):Ee s w R:=by
 unfold Ee;refine⟨λi w'=>w'=w/\0<=i/\i<=s.size/\CP (s.toList.take i.toNat)=true,λi _=>s.size - i.toNat,⟨rfl,oM,oM,rfl⟩,?_⟩;rintro i w' ⟨rfl,h0,h1,h2⟩;refine⟨λa0=>⟨⟨h0,a0⟩,IN ⟨λ_=>⟨h0,a0⟩,⟨h0,a0⟩,IN ⟨λ_=>⟨h0,a0⟩,IN ⟨λ_=>⟨h0,a0⟩,IN (IN ?_)⟩⟩⟩⟩,λa6=>IN ?_⟩
 .obtain⟨x,hx,ex⟩:=PY h0 a0;rw[ex];have a5:CP (s.toList.take (i.toNat+1))=(if i.toNat=0 then AP x else BQ x):=by
   rw[List.take_add_one,hx];show CP (_++[x])=_;rw[Zf8,h2,ic];have:s.toList.take i.toNat=[]↔i.toNat=0:=by
    rw[List.take_eq_nil_iff];constructor
    .rintro(h|h)
     .exact h
     .rw[h]at hx;cases hx
    .exact .inl
   by_cases hc:i.toNat=0
   .rw[fl hc,fl (this.2 hc)]
   .rw[fa hc,fa (λh=>hc (this.1 h))]
  have a4:((!(decide ((97:Int)<=(x.toNat:Int))&&decide ((x.toNat:Int)<=122)))&&((i==0)||(!((decide ((48:Int)<=(x.toNat:Int))&&decide ((x.toNat:Int)<=57))||((x.toNat:Int)==45)))))= !(if i.toNat=0 then AP x else BQ x):=by
   have e1:(decide ((97:Int)<=(x.toNat:Int))&&decide ((x.toNat:Int)<=122))=AP x:=(by unfold AP;congr 1<;>rw[js]<;>omega);have e2:(decide ((48:Int)<=(x.toNat:Int))&&decide ((x.toNat:Int)<=57))=(decide (48<=x.toNat)&&decide (x.toNat<=57)):=(by congr 1<;>rw[js]<;>omega);have e3:((x.toNat:Int)==45)=decide (x.toNat=45):=(by rw[Qb,js];omega);rw[e1,e2,e3];by_cases hc:i.toNat=0
   .rw[fl hc];have:(i==0)=true:=by simp;omega
    rw[this];cases AP x<;>rfl
   .rw[fa hc];have:(i==0)=false:=by simp;omega
    rw[this];unfold BQ;cases AP x<;>rfl
  rw[a4,<-a5];refine⟨λh=>?_,λh=>?_⟩
  .have:Ae s=false:=by
    unfold Ae;cases hp:CP s.toList
    .rfl
    .rw[<-ga (i.toNat+1) s.toList]at hp;rw[Zf6 hp]at h;cases h
   rw[<-this];exact hR _ xR
  .rw[HO h0 a0 hs];have e:(i+1).toNat=i.toNat+1:=oM;refine⟨⟨rfl,oM,oM,?_⟩,by show s.size - (i+1).toNat<s.size - i.toNat;omega⟩;rw[e];cases hp:CP (s.toList.take (i.toNat+1))
   .rw[hp]at h;cases h
   .rfl
 .have hi:i.toNat=s.toList.length:=by rw[JD];omega
  rw[hi,eh]at h2;have:((!Ag s ⟨#[]⟩)&&decide ((s.size:Int)<=16))=Ae s:=by unfold Ae;rw[h2,ic];congr 1;rw[js];omega
  rw[this];exact hR _ xR
def B(l:LU):Pr:=⟨l.toArray⟩
def Fk(l:LU):(B l).data.toList=l:=rfl
def HQ(l:LU):(B l).toList=l:=by rw[toList_data];rfl
def Ac(l:LU):(B l).size=l.length:=by rw[<-G2];rfl
def GV{a:Pr}(h:a.data.toList=b.data.toList):a=b:=by obtain⟨⟨a⟩⟩:=a;obtain⟨⟨b⟩⟩:=b;simp at h;rw[h]
def Dx(s:Pr):s=B s.toList:=by rw[toList_data];exact GV rfl
def PS(a b:Pr):(a++b).data.toList=a.data.toList++b.data.toList:=by rw[ByteArray.data_append];simp
def A9(a b:LU):B a++B b=B (a++b):=GV (by rw[PS,Fk,Fk,Fk])
def AZ(a:LU)(b:Δ):B a++ByteArray.mk b=B (a++b.toList):=GV (by rw[PS,Fk,Fk])
def CB(a:Δ)(b:LU):ByteArray.mk a++B b=B (a.toList++b):=GV (by rw[PS,Fk,Fk])
def A6(a:Δ):(ByteArray.mk a).size=a.size:=rfl
def Al:Aj=9223372036854775807:=rfl
def dec(n:Int):LU:=Lib.decDigits n.toNat
def Iu{n:Int}(h0:0<=n)(h1:n<10):dec n= [UInt8.ofNat (48+n.toNat)]:=by unfold dec;rw[Lib.decDigits,dif_pos oM]
def Km{n:Int}(h1:10<=n):dec n=dec (n/10)++[UInt8.ofNat (48+(n%10).toNat)]:=by
 unfold dec;rw[Lib.decDigits,dif_neg oM];congr 2
 .omega
 .congr 2;omega
def Dy{n:Int}(h0:0<=n)(h1:n<=999):(dec n).length<=3:=by
 by_cases h:n<10
 .rw[Iu h0 h];simp
 .rw[Km oM,du];by_cases h':n/10<10
  .rw[Iu oM h'];simp
  .rw[Km oM,Iu oM oM];simp
def AD(v:tj):LU:=if v.vt then(((dec v.ma++[46])++dec v.mi)++[46])++dec v.pa else []
def Dd(v:tj):(AD v).length<=11:=by
 unfold AD;split
 .rename_i h;have h:=tj.vu.1 h;have:=Dy h.1.1 h.1.2;have:=Dy h.2.1.1 h.2.1.2;have:=Dy h.2.2.1 h.2.2.2;simp;omega
 .simp
def AA(x:tx):LU:=
 if x.lo=x.hi then AD x.lo
 else if x.lo.J=0/\x.hi.J=999999999 then [42]
 else if x.lo.J=0 then [60,61]++AD x.hi
 else if x.hi.J=999999999 then [62,61]++AD x.lo
 else(([62,61]++AD x.lo)++[32,60,61])++AD x.hi
def Rq(x:tx):(AA x).length<=27:=by
 have h1:=Dd x.lo;have h2:=Dd x.hi;unfold AA;split
 .omega
 .split
  .simp
  .split
   .simp;omega
   .split<;>simp<;>omega
def BG:Κ->LU
 | []=>[]
 | [x]=>AA x
 |x::y::r=>AA x++([32,124,124,32]++BG (y::r))
def Cb(l:Κ):LU:=if AN l then(if l=[]then [60,48,46,48,46,48]else BG l)else []
def Zeq(l:Κ)(x:tx):BG (l++[x])=(if l=[]then AA x else(BG l++[32,124,124,32])++AA x):=by
 induction l with
 |nil=>rfl
 |cons y r ih=>
  cases r with
  |nil=>show AA y++([32,124,124,32]++AA x)=_;simp[BG]
  |cons z t=>show AA y++([32,124,124,32]++BG ((z::t)++[x]))=_;rw[ih];simp[BG]
def O4(l:Κ):(BG l).length<=31*l.length:=by
 induction l with
 |nil=>simp[BG]
 |cons y r ih=>
  have:=Rq y;cases r with
  |nil=>simp[BG];omega
  |cons z t=>simp only[BG,du,fu,ie]at ih ⊢;omega
def OU(l:Κ):(Cb l).length<=2000:=by
 unfold Cb;split
 .rename_i h;unfold AN at h;simp at h;have:=O4 l;split<;>simp<;>omega
 .simp
def Hb(vv:LU)(d:um):LU:=((((vv++[32])++d.Y.toList)++[32])++Cb d.range)++[10]
def B1(vv:LU)(l:Θ):LU:=(l.map (Hb vv)).flatten
def yd:LU:=[110,101,101,100,115]
def Nm:LU:=[98,101,115,105,100,101]
def yv:LU:=[108,105,107,101,115]
def IK(n:Pr)(v:tj):LU:=((([112,97,99,107,97,103,101,32]++n.toList)++[32])++AD v)++[10]
def C0(p:su):LU:=((IK p.Y p.v++B1 yd p.ss)++B1 Nm p.ta)++B1 yv p.uq
def FX:Option Pr->Pr->Bool
 |none,_=>true
 |some n,m=>Ak n m
def Bb:Option Pr->Θ->Bool
 |_,[]=>true
 |prev,d::r=>Ae d.Y&&AN d.range&& !d.range.isEmpty&&FX prev d.Y&&Bb (some d.Y) r
def Au(l:Θ):Bool:=Bb none l&&decide (l.length<=16)
def Br(a b:Θ):Bool:=!a.any λx=>b.any λy=>decide (x.Y=y.Y)
def Fv(p:su):Bool:=Br p.ss p.ta&&Br p.ss p.uq&&Br p.ta p.uq
def CA(p:su):Bool:=Ae p.Y&&p.v.vt&&Au p.ss&&Au p.ta&&Au p.uq
def AJ(p:su):Bool:=CA p&&(Fv p&&decide ((C0 p).length<=4096))
def Qx(vv:LU)(l:Θ)(d:um):B1 vv (l++[d])=B1 vv l++Hb vv d:=by simp[B1]
def Cn{n:Pr}(h:Ae n=true):n.toList.length<=16:=by unfold Ae at h;simp at h;rw[toList_data,G2];exact h.2.2
def Zam{l:Θ}(h:Bb p l=true):∀d∈l,Ae d.Y=true/\AN d.range=true/\d.range≠[]:=by
 induction l generalizing p with
 |nil=>intro d hd;cases hd
 |cons x r ih=>
  intro d hd;rw[Bb]at h;simp only[dz]at h;obtain rfl|hd:=gn.1 hd
  .exact⟨h.1.1.1.1,h.1.1.1.2,by have:=h.1.1.2;simp at this;exact this⟩
  .exact ih h.2 d hd
def Zaj{vv:LU}(hw:vv.length<=8){d:um}(h:Ae d.Y=true):(Hb vv d).length<=2030:=by have:=Cn h;have:=OU d.range;simp only[Hb,du,fu,ie];omega
def CM{vv:LU}(hw:vv.length<=8){l:Θ}(h:∀d∈l,Ae d.Y=true):(B1 vv l).length<=2030*l.length:=by
 induction l with
 |nil=>simp[B1]
 |cons x r ih=>have h1:=ih λd hd=>h d (nh _ hd);have h2:=Zaj hw (h x (jy ..));simp only[B1,io,jm,du,fu]at h1 ⊢;omega
def Kq(prev:Option Pr)(d:um):Bool:=Ae d.Y&&AN d.range&& !d.range.isEmpty&&FX prev d.Y
def DM:Option Pr->Θ->Option Pr
 |p,[]=>p
 |_,d::r=>DM (some d.Y) r
def Zan(l:Θ):∀(p:Option Pr)(d:um),Bb p (l++[d])=(Bb p l&&Kq (DM p l) d):=by
 induction l with
 |nil=>intro p d;simp[Bb,Kq,DM]
 |cons x r ih=>intro p d;rw[ig,Bb,Bb,ih];exact(og ..).H
def Ze4(l:Θ):∀(p:Option Pr)(d:um),DM p (l++[d])=some d.Y:=by
 induction l with
 |nil=>intro p d;rfl
 |cons x r ih=>intro p d;exact ih _ d
def Zal{l k:Θ}(h:Bb p (l++k)=true):Bb p l=true:=by
 induction l generalizing p with
 |nil=>rfl
 |cons y r ih=>rw[ig,Bb]at h;rw[Bb];simp only[dz]at h ⊢;exact⟨h.1,ih h.2⟩
def Un{l:Θ}(h:Bb none (l.take i)=false):Au l=false:=by
 unfold Au;cases hg:Bb none l
 .rfl
 .rw[<-ga i l]at hg;rw[Zal hg]at h;cases h
def Uo{l:Θ}(hn:n<l.length)(hI:Bb none (l.take n)=true):Bb none (l.take (n+1))=Kq (DM none (l.take n)) l[n]:=by rw[dw hn,Zan,hI,ic]
def Vq{l:Θ}(hn:n+1<l.length):DM none (l.take (n+1))=some l[n].Y:=by rw[dw oM,Ze4]
def B5{l:Θ}(h:Au l=true):l.length<=16/\∀d∈l,Ae d.Y=true/\AN d.range=true/\d.range≠[]:=by unfold Au at h;simp only[dz,fk]at h;exact⟨h.2,Zam h.1⟩
def Zl3{x:Int}(h0:0<=x)(h1:x<=255):IntKind.u8.wrap x=x:=by simp only[IntKind.wrap,IntKind.bits,IntKind.signed,qw];have e1:(2:Int)^ 8=256:=rfl;simp[e1];omega
def Qn{x:Int}(hb:AT w a [.int .u8 x]):C3 prog (Go.convert 167 9 (Sl.v (Sl.mk (some a) 1 1))) w (.string (B [UInt8.ofNat x.toNat])):=λw' hx=>by obtain⟨b,o,s⟩:=a;obtain⟨t,ho,hs,hh⟩:=hb;simp only at ho hs hh;subst ho hs;have a0:AT w' ⟨b,0,none⟩ [.int .u8 x]:=AT.U ⟨t,rfl,rfl,hh⟩ hx;exact run_convert_bytes_arg w' 167 5 underlying167 underlying5 b 0 1 1 [x] rfl (λi hi=>by have:i=0:=oM;subst this;have:=a0.sh 0 (.int .u8 x) rfl;exact this) _ underlying9
def xz:∀(N:Nat){n:Int}{w:PU}{R:Í},0<=n->n.toNat<N->n<=999->(∀w',AI w w'->R (B (dec n)) w')->EG n w R
 |0,n,w,R,_,h,_,_=>by omega
 |N+1,n,w,R,h0,hN,h9,hR=>by
  have a0:∀m:Int,0<=m->m<10->IntKind.u8.wrap (Aa (48+m))=48+m:=λm h1 h2=>by rw[Ai oM oM,Zl3 oM oM]
  have dl:∀m:Int,0<=m->UInt8.ofNat (48+m).toNat=UInt8.ofNat (48+m.toNat):=λm h1=>by congr 1;omega
  unfold EG;refine⟨λa4=>?_,λa6=>?_⟩
  .rw[a0 n h0 a4];refine An.intro λa w1 x1 hb _ _=>⟨_,Qn hb,?_⟩;rw[dl n h0,<-Iu h0 a4];exact hR _ xT
  .have hq:n.tdiv 10=n/10:=pf h0;have hm:Int.tmod n 10=n%10:=Int.tmod_eq_emod_of_nonneg h0;rw[hq,hm,Ai oM oM,a0 (n%10) oM oM];have hl:=Dy (n:=n/10) oM oM;have a5:((((B (dec (n/10))).size+(B [UInt8.ofNat (48+n%10).toNat]).size:Nat):Int)<=Aj):=(by rw[Ac,Ac,Al];simp;omega);have hv:B (dec (n/10))++B [UInt8.ofNat (48+n%10).toNat]=B (dec n):=(by rw[A9,dl _ oM,<-Km oM]);refine join.intro (sf.drew λw1 x1=>⟨?_,?_⟩)
   .refine tf.intro (EG.V (xz N oM oM oM λw2 x2=>⟨x2,_,rfl,An.intro λa w3 x3 hb _ _=>⟨_,Qn hb,a5,?_⟩⟩));rw[hv];exact hR _ xT
   .refine An.intro λa w3 x3 hb _ _=>⟨_,Qn hb,tf.intro (EG.V (xz N oM oM oM λw2 x2=>⟨x2,_,rfl,a5,?_⟩))⟩;rw[hv];exact hR _ xT
def Jj{v:tj}{R:Í}(hR:∀w',AI w w'->R (B (AD v)) w'):EH v.ma v.mi v.pa w R:=by
 refine An.intro λ_ w1 x1 hb _ _=>?_;refine⟨_,_,_,lD,?_⟩;refine Ed.V (y' λw2 x2=>⟨_,rfl,λh=>?_,λh=>sf.drew λw3 x3=>?_⟩)
 .have e:v.vt=false:=by simpa using h
  have:AD v=[]:=by unfold AD;rw[e];rfl
  have hr:=hR w2 xT;rw[this]at hr;exact hr
 .have e:v.vt=true:=by simpa using h
  have hm:=tj.vu.1 e;have l1:=Dy hm.1.1 hm.1.2;have l2:=Dy hm.2.1.1 hm.2.1.2;have l3:=Dy hm.2.2.1 hm.2.2.2;have hv:AD v=(((dec v.ma++[46])++dec v.mi)++[46])++dec v.pa:=by unfold AD;rw[e];rfl
  refine⟨_,lD,?_⟩;refine⟨_,lD,?_⟩;refine⟨_,lD,?_⟩;refine tf.intro (EG.V (xz 1000 hm.1.1 oM hm.1.2 λw4 x4=>⟨x4,_,rfl,?_⟩));refine⟨by rw[Ac,A6,Al];simp;omega,tf.intro (EG.V (xz 1000 hm.2.1.1 oM hm.2.1.2 λw5 x5=>⟨x5,_,rfl,?_⟩))⟩;simp only[AZ,A9];refine⟨by rw[Ac,Ac,Al];simp;omega,by rw[Ac,A6,Al];simp;omega,EG.V (xz 1000 hm.2.2.1 oM hm.2.2.2 λw6 x6=>⟨_,rfl,?_⟩)⟩;simp only[A9];refine⟨by rw[Ac,Ac,Al];simp;omega,?_⟩;have hr:=hR w6 xT;rw[hv]at hr;exact hr
def Þ(w:PU):Prop:=Lib.TabIs prog w "internal/strconv.uint64pow10" .u64 Lib.pow10Tab
def Zlm(hg:prog.globalNamed "internal/strconv.uint64pow10" =some g)(h:Þ w)(hk:w'.heap[g]? =w.heap[g]?):Þ w':=by unfold Þ Lib.TabIs World.var? at*;rw[hg]at h ⊢;simp only[oe]at h ⊢;rwa [hk]
def Þ.U(h:Þ w)(hx:AI w w'):Þ w':=by
 have hv:=h;unfold Þ Lib.TabIs World.var? at hv;cases hg:prog.globalNamed "internal/strconv.uint64pow10" with
 |none=>rw[hg]at hv;cases hv
 |some g=>
  rw[hg]at hv;simp only[oe]at hv;refine Zlm hg h (hx.block ?_);cases hh:w.heap[g]? with
  |none=>rw[hh]at hv;cases hv
  |some o=>exact(fb.1 hh).1
def O3{n:Int}{k:Ë}(h0:0<=n)(h1:n<=999)(ht:Þ w)(hk:∀w',AI w w'->k (.string (B (dec n))) w'):sx prog 95 [vi n] w k:=by
 have h:=Any.strconv_Itoa Tryz.Xb1 n oM oM w ht;have e:Lib.itoa n=dec n:=by unfold Lib.itoa dec;rw[fa oM]
 rw[e]at h;refine h.O λe w' ⟨he,q,os,hw⟩=>⟨_,he,hk w' ?_⟩;subst hw;exact⟨rfl,rfl,rfl,by show w.heap.size<=(w.heap++os).size;simp,λb hb=>by show(w.heap++os)[b]?=w.heap[b]?;rw[jz hb]⟩
def vy{v:tj}{R:Í}(ht:Þ w)(hR:∀w',AI w w'->R (B (AD v)) w'):DQ v.ma v.mi v.pa w R:=by
 refine An.intro λ_ w1 x1 hb _ _=>?_;refine⟨_,_,_,lD,?_⟩;refine Ez.V (HK (v:=v) λw2 x2=>⟨_,rfl,λh=>?_,λh=>sf.drew λw3 x3=>?_⟩)
 .have e:v.vt=false:=by simpa using h
  have:AD v=[]:=by unfold AD;rw[e];rfl
  have hr:=hR w2 xT;rw[this]at hr;exact hr
 .have e:v.vt=true:=by simpa using h
  have hm:=tj.vu.1 e;have l1:=Dy hm.1.1 hm.1.2;have l2:=Dy hm.2.1.1 hm.2.1.2;have l3:=Dy hm.2.2.1 hm.2.2.2;have hv:AD v=(((dec v.ma++[46])++dec v.mi)++[46])++dec v.pa:=by unfold AD;rw[e];rfl
  refine⟨_,lD,?_⟩;refine⟨_,lD,?_⟩;refine⟨_,lD,?_⟩;refine tf.intro (O3 hm.1.1 hm.1.2 (ht.U xT) λw4 x4=>⟨x4,_,rfl,?_⟩);refine⟨by rw[Ac,A6,Al];simp;omega,tf.intro (O3 hm.2.1.1 hm.2.1.2 (ht.U xT) λw5 x5=>⟨x5,_,rfl,?_⟩)⟩;simp only[AZ,A9];refine⟨by rw[Ac,Ac,Al];simp;omega,by rw[Ac,A6,Al];simp;omega,O3 hm.2.2.1 hm.2.2.2 (ht.U xT) λw6 x6=>⟨_,rfl,?_⟩⟩;simp only[A9];refine⟨by rw[Ac,Ac,Al];simp;omega,?_⟩;have hr:=hR w6 xT;rw[hv]at hr;exact hr
open Go.ChangeShapes Go.WideShapes Go.ChangeAt
def uy:ownKnob prog.godebug=none:=kR
def Vt{H:Type}:DataW H->LV
 | .lit (.int k n)=>[.int k n]
 |_=> []
def Zjn{H:Type}:DataW H->LV
 | .agg l=>l.flatMap λd=>match d with
  | .agg m=>m.flatMap Vt
  |d=>Vt d
 |_=> []
def Ze7(P:LD)(h:Array Obj)(x:String×DataW Unit):Array Obj:=match P.globalNamed x.1 with
 |some g=>match x.2 with
  | .iface _ (.ptr (.agg [.lit (.string s)]))=>(h.push (.cells #[.string ⟨s.toArray⟩] 453)).modify g fun
   | .cells _ t fr=>.cells #[.iface 451 (.pointer (some ⟨h.size,0,none⟩))] t fr
   |o=>o
  |d=>h.modify g fun
   | .cells _ t fr=>.cells (Zjn d).toArray t fr
   |o=>o
 |none=>h
def Ze6(P:LD)(l:List (String×DataW Unit))(h:Array Obj):Array Obj:=l.foldl (Ze7 P) h
def L0:List (String×DataW Unit):=Go.Proofs.YtgolaibmophnjaaGreatDoor.Rows.editOnceRow.laid
noncomputable def L3 (os:Os):PU:={World.holding prog os ⟨#[],#[],[]⟩with heap:=Ze6 prog L0 (World.holding prog os ⟨#[],#[],[]⟩).heap}
set_option maxRecDepth 100000 in
def Ze1(os:Os)(args:Γ):laidMet prog L0 ((L3 os).forCall (λ_ _=>0) ⟨#[],args,[]⟩).memory:=laidMet_of_run' 8 kR kR
set_option maxRecDepth 100000 in
def Ze3(os:Os)(args:Γ):((L3 os).forCall (λ_ _=>0) ⟨#[],args,[]⟩).variablesB prog=true:=kR
set_option maxRecDepth 100000 in
def Ze2(os:Os)(args:Γ):(((L3 os).forCall (λ_ _=>0) ⟨#[],args,[]⟩).heap.toList.drop prog.globals.size).take ((begin prog (λ_ _=>0) default).world.heap.size - prog.globals.size)=
  (begin prog (λ_ _=>0) default).world.heap.toList.drop prog.globals.size:=kR
def Zdf: ∃g t,prog.globalNamed "internal/strconv.uint64pow10" =some g∧(prog.globals[g]?).map (·.type)=some t∧prog.underlying t=some (.array 20 251)∧prog.cellsOf t=20:=⟨1,392,kR,kR,kR,kR⟩
def Xcq{W:PU}(h:laidMetH prog L0 W):Þ W:=by obtain⟨g,t,h1,h2,h3,h4⟩:=Zdf;rw[MakeChecks.laidMetH_plain _ _ _ kR]at h;exact Lib.tabIs_of_head h1 h2 h3 underlying251 kR h4 (laidMet.tail (laidMet.tail h))
def YM{a b:Bool}(h1:a=true)(h2:b=true):(a&&b)=true:=by rw[h1,h2];rfl
def YG{cs:Γ}{l:LV}(h:(Value.agg cs).cells.toList=l):cs=l.toArray:=by have:cs.toList=l:=h;rw[<-this]
def Zkg{v:HT}(h:v.cells.toList= [s.v])(hv:∃a n c,v= .slice a n c):v=s.v:=by obtain⟨a,n,c,rfl⟩:=hv;simpa[Value.cells]using h
end Go.Hal
namespace Go.Proofs.YtgolaibmophnjaaGreatDoor
open Go.ChangeShapes Go.WideShapes Go.ChangeAt
def Ob:Tryz.f4.params.toList= [27,25]:=by rw[Tryz.params4]
def Za2:joinedFacts Tryz.pinned.checked.prog 4 Tryz.f4 (OpenSpec.ofChange Rows.editUnusedSpec).bare Rows.editUnusedRow=true:=by
 unfold joinedFacts
 repeat' with_reducible refine YM ?_ ?_
 all_goals (as_aux_lemma=>kernel_rfl)
def Za5(f:OK)(fn:Func)(hf:Tryz.pinned.checked.prog.funcNamed "halyard/halyardlaw19.EditUnused" =some f)(a4:Tryz.pinned.checked.prog.funcs[f]? =some fn):
  true=Tryz.pinned.checked.prog.looks []/\∀(j:Nat) t,fn.params[j]?=some t->Tryz.pinned.checked.prog.wantsStandIn t=false:=by
 obtain rfl:f=4:=jv ((show prog.funcNamed "halyard/halyardlaw19.EditUnused" =some 4 by kernel_rfl).H.Z hf)|>.H;obtain rfl:fn=Tryz.f4:=(jv (func4.H.Z a4)).H;refine⟨kR,λj t ht=>?_⟩;have hm:t∈Tryz.f4.params.toList:=by rw[←Array.getElem?_toList]at ht;exact ik ht
 have a0:(Tryz.f4.params.toList.all λt=>!prog.wantsStandIn t)=true:=kR;have:=ix.1 a0 t hm;exact(show prog.wantsStandIn t=false by simpa using this)
end Go.Proofs.YtgolaibmophnjaaGreatDoor
namespace Go.Proofs.YtgolaibmophnjaaGreatDoor
def Zdn(h:P.funcs.any Func.goes=false)(c:OpenClaim)(hs:c.start= .entering):false=c.goesBy P:=by
 have h1:∀g:OK,(P.funcs[g]?).any Func.goes=false:=λg=>by
  cases hg:P.funcs[g]? with
  |none=>rfl
  |some fn=>obtain⟨hl,rfl⟩:=fb.1 hg;have:=Array.any_eq_false.1 h g hl;simpa using this
 have h2:∀f,P.goes f=false:=λf=>by unfold Program.goes;rw[h,Bool.and_false,Bool.or_false,mf];intro g _;rw[h1];simp
 unfold OpenClaim.goesBy Program.goesAt Program.goesFrom;rw[hs];cases P.funcNamed c.func with
 |none=>rfl
 |some f=>simp[h2]
def Za7:Rows.editUnusedRow.wfByText (OpenSpec.ofChange Rows.editUnusedSpec)=true:=kR
def Za4:Tryz.pinned.checked.prog.mainIs=some (Rows.editUnusedCard.stood.harness.1,Rows.editUnusedCard.stood.harness.2.toList):=kR
def Za3:false=Rows.editUnusedRow.goesBy Tryz.pinned.checked.prog:=Zdn kR _ rfl
end Go.Proofs.YtgolaibmophnjaaGreatDoor
namespace Go.Hal
def TE(x:LU):Op.bytesLess x []=false:=by cases x<;>rfl
def NJ(a b:UInt8)(x y:LU):Op.bytesLess (a::x) (b::y)=(decide (a<b)||(a==b&&Op.bytesLess x y)):=rfl
def Zh(x:LU):Op.bytesLess x x=false:=by
 induction x with
 |nil=>rfl
 |cons a r ih=>rw[NJ,ih];simp
def TF:∀{x y z:LU},Op.bytesLess x y=true->Op.bytesLess y z=true->Op.bytesLess x z=true
 |_,[],_,h,_=>by rw[TE]at h;cases h
 |_,_::_,[],_,h=>by rw[TE]at h;cases h
 | [],_::_,_::_,_,_=>rfl
 |a::x,b::y,c::z,h1,h2=>by
  rw[NJ]at h1 h2 ⊢;simp only[ot,fk,dz,jq]at h1 h2 ⊢;rcases h1 with h1|⟨rfl,h1⟩
  .rcases h2 with h2|⟨rfl,h2⟩
   .exact .inl (UInt8.lt_trans h1 h2)
   .exact .inl h1
  .rcases h2 with h2|⟨rfl,h2⟩
   .exact .inl h2
   .exact .inr ⟨rfl,TF h1 h2⟩
def TG:∀{x y:LU},Op.bytesLess x y=false->Op.bytesLess y x=false->x=y
 | [],[],_,_=>rfl
 | [],_::_,h,_=>by cases h
 |_::_,[],_,h=>by cases h
 |a::x,b::y,h1,h2=>by
  rw[NJ]at h1 h2;simp only[gd,gk,nu,px]at h1 h2;have e:a=b:=by have:=UInt8.not_lt.1 h1.1;have:=UInt8.not_lt.1 h2.1;exact UInt8.le_antisymm ‹_› ‹_›
  subst e;have:=TG (x:=x) (y:=y) (by simpa using h1.2) (by simpa using h2.2);rw[this]
def PZ(x:Pr):Ak x x=false:=Zh _
def GU{x y z:Pr}(h:Ak x y=true)(k:Ak y z=true):Ak x z=true:=TF h k
def JX{x y:Pr}(h:Ak x y=false)(k:Ak y x=false):x=y:=by have:=TG h k;rw[toList_data,toList_data]at this;exact GV this
def Fw{x y:Pr}(h:Ak x y=true):x≠y:=λe=>by subst e;rw[PZ]at h;cases h
def NG{x y:Pr}(h:Ak x y=true):Ak y x=false:=by
 cases k:Ak y x
 .rfl
 .have:=GU h k;rw[PZ]at this;cases this
def Ul{l:Θ}(h:Bb p l=true):l.Pairwise (λx y=>Ak x.Y y.Y=true)/\(∀n,p=some n->∀x∈l,Ak n x.Y=true):=by
 induction l generalizing p with
 |nil=>exact⟨.nil,λ_ _ x hx=>by cases hx⟩
 |cons y r ih=>
  rw[Bb]at h;simp only[dz]at h;obtain⟨a4,a0⟩:=ih h.2;refine⟨iq.2 ⟨λx hx=>a0 _ rfl x hx,a4⟩,λn hn x hx=>?_⟩;subst hn;have hy:Ak n y.Y=true:=h.1.2;obtain rfl|hx:=gn.1 hx
  .exact hy
  .exact GU hy (a0 _ rfl x hx)
def Iy{l:Θ}(h:Au l=true):(l.map (·.Y)).Nodup:=by unfold Au at h;simp only[dz]at h;have:=(Ul h.1).1;rw[List.Nodup,jb];exact this.imp λh=>Fw h
def GR{a b:Θ}:Br a b=true↔∀x∈a.map (·.Y),∀y∈b.map (·.Y),x≠y:=by
 unfold Br;rw[mg,mf];constructor
 .intro h x hx y hy e;obtain⟨d,hd,rfl⟩:=ij.1 hx;obtain⟨f,hf,rfl⟩:=ij.1 hy;exact h d hd (ka.2 ⟨f,hf,by simpa using e⟩)
 .intro h d hd a0;obtain⟨f,hf,he⟩:=ka.1 a0;exact h _ (ja hd) _ (ja hf) (by simpa using he)
def YR{p:su}(h:CA p=true):decide ((p.ss++p.ta++p.uq).map (·.Y)).Nodup=Fv p:=by
 unfold CA at h;simp only[dz]at h;obtain⟨⟨⟨_,h1⟩,h2⟩,h3⟩:=h;have n1:=Iy h1;have n2:=Iy h2;have n3:=Iy h3;unfold Fv;rw[gp,fk,dz,dz,GR,GR,GR,gb,gb,jl,jl];constructor
 .rintro⟨⟨_,_,a0⟩,_,h3⟩;exact⟨⟨a0,λx hx y hy=>h3 x (jd _ hx) y hy⟩,λx hx y hy=>h3 x (li _ hx) y hy⟩
 .rintro⟨⟨a0,a4⟩,a5⟩;refine⟨⟨n1,n2,a0⟩,n3,λx hx y hy=>?_⟩;obtain hx|hx:=fp.1 hx
  .exact a4 x hx y hy
  .exact a5 x hx y hy
def Ep(sd:Θ)(Y:Pr)(r:Κ):Κ:=match sd with
 | []=>r
 |d::l=>if d.Y=Y then d.range else Ep l Y r
def Zgr{l:Θ}{Y:Pr}{r:Κ}{d:um}(hi:l[i]?=some d)(hd:d.Y=Y)(hn:∀k<i,∀e:um,l[k]?=some e-> ¬e.Y=Y):Ep l Y r=d.range:=by
 induction l generalizing i with
 |nil=>simp at hi
 |cons a l ih=>
  cases i with
  |zero=>simp only[jk,eu]at hi;subst hi;rw[Ep,fl hd]
  |succ i=>rw[Ep,fa (hn 0 oM a rfl)];exact ih hi λk hk e he=>hn (k+1) oM e he
def Zgs{l:Θ}{Y:Pr}{r:Κ}(hn:∀(k:Nat)(e:um),l[k]?=some e-> ¬e.Y=Y):Ep l Y r=r:=by
 induction l with
 |nil=>rfl
 |cons a l ih=>rw[Ep,fa (hn 0 a rfl)];exact ih λk e he=>hn (k+1) e he
def JU:Bk prog 32 187 2 40:=CL (z:=.agg #[.string ⟨#[]⟩,.slice none 0 0]) kR kR rfl dC
def BI(sd:Θ)(l:Θ):Θ:=l.map λd=>⟨d.Y,Ep sd d.Y d.range⟩
def Ir{a:Pr}:A8 a b<0↔Ak a b=true:=by
 unfold A8;split
 .rename_i h;simp[h]
 .rename_i h;split<;>simp[h]
def EA{a:Pr}:A8 a b=0↔a=b:=by
 unfold A8;split
 .rename_i h;have:=Fw h;simp[this]
 .split
  .rename_i h;simp[AG.1 h]
  .rename_i h;have: ¬a=b:=λe=>h (AG.2 e);simp[this]
def Ql{a b:Pr}:A8 a b<=0↔Ak b a=false:=by
 constructor
 .intro h;obtain h|h:=Int.lt_or_eq_of_le h
  .exact NG (Ir.1 h)
  .rw[EA.1 h,PZ]
 .intro h;cases h1:Ak a b
  .have:=JX h1 h;subst this;rw[EA.2 rfl];omega
  .have:=Ir.2 h1;omega
def DJ{α:Type}(f:α->Pr):wg (λa b:α=>A8 (f a) (f b)) where
 flip:=λx y=>by
  have h1:=@Ql (f y) (f x);rw[Ir];cases h:Ak (f x) (f y)
  .have:=h1.2 h;simp;omega
  .rw[h]at h1;simp at h1 ⊢;omega
 trans:=λx y z h1 h2=>by
  rw[Ql]at h1 h2 ⊢;cases h:Ak (f z) (f x)
  .rfl
  .exfalso;cases h3:Ak (f y) (f z)
   .have:=JX h3 h2;rw[this]at h1;rw[h1]at h;cases h
   .have:=GU h3 h;rw[this]at h1;cases h1
def JW{a:Pr}(h:A8 a b<=0)(a0:a≠b):Ak a b=true:=by
 cases h1:Ak a b
 .exact fm (JX h1 (Ql.1 h)) a0
 .rfl
def B9(l:Η):Η:=Bw (λa b=>A8 a.Y b.Y) l
def þ(l:Η):Prop:=l.Pairwise λa b=>Ak a.Y b.Y=true
def Fa(l:Η):(B9 l).Perm l:=G7 l
def Sm{l:Η}(h:(l.map (·.Y)).Nodup):þ (B9 l):=by have h1:=Zk8 (DJ (α:=tn) (·.Y)) l;have h2:((B9 l).map (·.Y)).Nodup:=((Fa l).map _).nodup_iff.2 h;rw[il,jb]at h2;exact(h1.and h2).imp λh=>JW h.1 h.2
def þ.one{l m:Η}(h1:þ l)(h2:þ m)(hp:l.Perm m):l=m:=
 JA (R:=λa b:tn=>Ak a.Y b.Y=true) (λx y h1 h2=>by rw[NG h1]at h2;cases h2) h1 h2 hp
def þ.nodup{l:Η}(h:þ l):(l.map (·.Y)).Nodup:=by rw[il,jb];exact h.imp λh=>Fw h
def Az(n:Pr)(q:tn):Bool:=decide (q.Y=n)
def vc(env:Η)(n:Pr):Option tj:=(env.find? (Az n)).map (·.v)
def Zlu{env:Η}{n:Pr}{v:tj}(h:vc env n=some v):⟨n,v⟩∈env:=by
 unfold vc at h;cases hf:env.find? (Az n)with
 |none=>rw[hf]at h;cases h
 |some q=>rw[hf]at h;simp only[jp,eu]at h;have h1:=qk hf;simp only[Az,fk]at h1;have h2:=na hf;obtain⟨a,b⟩:=q;simp only at h h1;subst h;subst h1;exact h2
def Zlv{l:Η}{n:Pr}(h:vc l n=none):∀q∈l,q.Y≠n:=by unfold vc at h;simp only[Option.map_eq_none_iff]at h;intro q hq;simpa[Az]using lx.1 h q hq
section
variable (get:Pr->tj->Option su) (sd:Θ) (env:Η)
def B4:Θ->Η->Option (Η)
 | [],sw=>some sw
 |d::l,sw=>match vc env d.Y with
  |none=>none
  |some v=>if BT d.range v then B4 l (if sw.any (Az d.Y)then sw else sw++[⟨d.Y,v⟩])else none
def Cy(p:tn):Nat->Nat->Η->Option (Η)
 |0,_,_=>none
 |f+1,i,sw=>match(p::sw)[i]? with
  |none=>some sw
  |some q=>match get q.Y q.v with
   |none=>none
   |some x=>match B4 env (BI sd x.ta) sw with
    |none=>none
    |some out'=>Cy p f (i+1) out'
def vd(p:tn):Option (Η):=(Cy get sd env p (env.length+2) 0 []).map B9
def PF(q:tn):Prop:=∃x,get q.Y q.v=some x/\∀d∈BI sd x.ta,∃v,vc env d.Y=some v/\BT d.range v=true
def HP(q r:tn):Prop:=∃x d,get q.Y q.v=some x/\d∈BI sd x.ta/\r.Y=d.Y/\vc env d.Y=some r.v
inductive Reach (p:tn):tn->Prop
 |one {r:tn}:HP get sd env p r->Reach p r
 |more {q r:tn}:Reach p q->HP get sd env q r->Reach p r
structure ö(p:tn)(i:Nat)(sw:Η):Prop where
 zq:(sw.map (·.Y)).Nodup
 told:∀r∈sw,vc env r.Y=some r.v
 reach:∀r∈sw,Reach get sd env p r
 le:i<=sw.length+1
 Xbk:∀(k:Nat) q,k<i->(p::sw)[k]?=some q->PF get sd env q
 asks:∀(k:Nat) q,k<i->(p::sw)[k]?=some q->∀r,HP get sd env q r->r∈sw
end
section
variable {get:Pr->tj->Option su} {sd:Θ} {env:Η} {p:tn}
def Ue{out0:Η}:∀{l:Θ} {sw out':Η},B4 env l sw=some out'->(sw.map (·.Y)).Nodup->(∀r∈sw,vc env r.Y=some r.v)->
  (out'.map (·.Y)).Nodup/\(∀r∈out',vc env r.Y=some r.v)/\(∃t,out'=sw++t)/\(∀d∈l,∃v,vc env d.Y=some v/\BT d.range v=true/\(⟨d.Y,v⟩:tn)∈out')/\∀r∈out',r∈sw\/∃d∈l,r.Y=d.Y
 | [],sw,out',h,hn,ht=>by simp only[B4,eu]at h;subst h;exact⟨hn,ht,⟨[],by simp⟩,(λd h=>by cases h),λr h=>.inl h⟩
 |d::l,sw,out',h,hn,ht=>by
  unfold B4 at h;cases hv:vc env d.Y with
  |none=>rw[hv]at h;cases h
  |some v=>
   rw[hv]at h;simp only at h;split at h
   .rename_i a4;have key:(((if sw.any (Az d.Y)then sw else sw++[⟨d.Y,v⟩]):Η).map (·.Y)).Nodup/\(∀r∈(if sw.any (Az d.Y)then sw else sw++[⟨d.Y,v⟩]:Η),vc env r.Y=some r.v)/\(∃t,(if sw.any (Az d.Y)then sw else sw++[⟨d.Y,v⟩]:Η)=sw++t)/\(⟨d.Y,v⟩:tn)∈(if sw.any (Az d.Y)then sw else sw++[⟨d.Y,v⟩]:Η)/\∀r∈(if sw.any (Az d.Y)then sw else sw++[⟨d.Y,v⟩]:Η),r∈sw\/r.Y=d.Y:=by
     split
     .rename_i ha;obtain⟨q,hq,he⟩:=ka.1 ha;simp only[Az,fk]at he;have h1:=ht q hq;rw[he,hv,eu]at h1;refine⟨hn,ht,⟨[],by simp⟩,?_,λr h=>.inl h⟩;obtain⟨a,b⟩:=q;simp only at he h1;subst he;subst h1;exact hq
     .rename_i ha;have a0:∀q∈sw,q.Y≠d.Y:=by simpa[Az]using ha
      refine⟨?_,?_,⟨_,rfl⟩,by simp,?_⟩
      .rw[gb,jl];refine⟨hn,by simp,λa h1 b h2=>?_⟩;obtain⟨q,hq,rfl⟩:=ij.1 h1;simp at h2;subst h2;exact a0 q hq
      .intro r hr;obtain hr|hr:=fp.1 hr
       .exact ht r hr
       .simp at hr;subst hr;exact hv
      .intro r hr;obtain hr|hr:=fp.1 hr
       .exact .inl hr
       .simp at hr;subst hr;exact .inr rfl
    obtain⟨k1,k2,⟨t,k3⟩,k4,k5⟩:=key;obtain⟨r1,r2,⟨t',r3⟩,r4,r5⟩:=Ue (out0:=out0) h k1 k2;refine⟨r1,r2,⟨t++t',by rw[r3,k3,ff]⟩,λe he=>?_,λr hr=>?_⟩
    .obtain rfl|he:=gn.1 he
     .exact⟨v,hv,a4,by rw[r3];exact jd _ k4⟩
     .exact r4 e he
    .rcases r5 r hr with h1|⟨e,he,h1⟩
     .obtain h2|h2:=k5 r h1
      .exact .inl h2
      .exact .inr ⟨d,.head _,h2⟩
     .exact .inr ⟨e,.tail _ he,h1⟩
   .cases h
def LJ{α:Type}:∀{l m:List α},l.Nodup->(∀x∈l,x∈m)->l.length<=m.length
 | [],_,_,_=>ib _
 |a::r,m,hn,hs=>by
  obtain⟨h1,h2⟩:=qg.1 hn;obtain⟨s,t,rfl⟩:=List.append_of_mem (hs a (.head _));have:=LJ (l:=r) (m:=s++t) h2 λx hx=>by
   rcases fp.1 (hs x (.tail _ hx))with h|h
   .exact jd _ h
   .obtain rfl|h:=gn.1 h
    .exact fm hx h1
    .exact li _ h
  simp only[du,fu]at this ⊢;omega
def Zgb{sw:Η}(hn:(sw.map (·.Y)).Nodup)(ht:∀r∈sw,vc env r.Y=some r.v):sw.length<=env.length:=by
 have:=LJ (m:=env.map (·.Y)) hn λn h=>by obtain⟨r,hr,rfl⟩:=ij.1 h;have:=Zlu (ht r hr);exact ja (f:=(·.Y)) this
 simpa using this
def ö.zero:ö get sd env p 0 []:=⟨by simp,by simp,by simp,by simp,λk q h=>by omega,λk q h=>by omega⟩
def ö.next{sw out':Η}{q:tn}{x:su}(h:ö get sd env p i sw)(hq:(p::sw)[i]?=some q)(hx:get q.Y q.v=some x)(hs:B4 env (BI sd x.ta) sw=some out'):ö get sd env p (i+1) out':=by
 obtain⟨r1,r2,⟨t,rfl⟩,r4,r5⟩:=Ue (out0:=[]) hs h.zq h.told;have a8:i<sw.length+1:=by have:=(fh.1 hq).1;simpa using this
 have a0:∀k q',k<i+1->(p::(sw++t))[k]?=some q'->(p::sw)[k]?=some q':=λk q' hk h=>by rw[<-ig,gl (by simp;omega)]at h;exact h
 have a7:PF get sd env q:=⟨x,hx,λd hd=>let⟨v,a,b,_⟩:=r4 d hd;⟨v,a,b⟩⟩;have has:∀r,HP get sd env q r->r∈sw++t:=λr ⟨y,d,hy,hd,hr,hv⟩=>by rw[hx,eu]at hy;subst hy;obtain⟨v,a,_,b⟩:=r4 d hd;rw[hv,eu]at a;obtain⟨n,u⟩:=r;simp only at hr a;subst hr;subst a;exact b
 have a6:q=p\/Reach get sd env p q:=by
  cases i with
  |zero=>simp at hq;exact .inl hq.H
  |succ j=>exact .inr (h.reach q (by rw[qm]at hq;exact ik hq))
 refine⟨r1,r2,λr hr=>?_,by simp;omega,λk q' hk a4=>?_,λk q' hk a4 r ha=>?_⟩
 .rcases r5 r hr with hr|⟨d,hd,hn⟩
  .exact h.reach r hr
  .have ha:HP get sd env q r:=⟨x,d,hx,hd,hn,by rw[<-hn];exact r2 r hr⟩;obtain rfl|a6:=a6
   .exact .one ha
   .exact .more a6 ha
 .obtain a5|rfl:=im.1 hk
  .exact h.Xbk k q' a5 (a0 k q' hk a4)
  .have:=a0 k q' hk a4;rw[hq,eu]at this;subst this;exact a7
 .obtain a5|rfl:=im.1 hk
  .exact jd _ (h.asks k q' a5 (a0 k q' hk a4) r ha)
  .have:=a0 k q' hk a4;rw[hq,eu]at this;subst this;exact has r ha
def ö.len{sw:Η}(h:ö get sd env p i sw):sw.length<=env.length:=Zgb h.zq h.told
def Qp:∀(f i:Nat)(sw a:Η),ö get sd env p i sw->Cy get sd env p f i sw=some a->ö get sd env p (a.length+1) a
 |0,_,_,_,_,h=>by cases h
 |f+1,i,sw,a,hI,h=>by
  unfold Cy at h;cases hq:(p::sw)[i]? with
  |none=>
   rw[hq]at h;simp only[eu]at h;subst h;have:i=sw.length+1:=by have h1:=pq.1 hq;have h2:=hI.le;simp at h1;omega
   rwa [<-this]
  |some q=>
   rw[hq]at h;simp only at h;cases hx:get q.Y q.v with
   |none=>rw[hx]at h;cases h
   |some x=>
    rw[hx]at h;simp only at h;cases hs:B4 env (BI sd x.ta) sw with
    |none=>rw[hs]at h;cases h
    |some a0=>rw[hs]at h;exact Qp f (i+1) a0 a (hI.next hq hx hs) h
def ZR{sw:Η}{q:tn}(hq:(p::sw)[i]?=some q)(hg:get q.Y q.v=none):Cy get sd env p (f+1) i sw=none:=by rw[Cy,hq];simp only[hg]
def ZP{sw:Η}{q:tn}{y:su}(hq:(p::sw)[i]?=some q)(hg:get q.Y q.v=some y)(hs:B4 env (BI sd y.ta) sw=none):Cy get sd env p (f+1) i sw=none:=by rw[Cy,hq];simp only[hg,hs]
def ZQ{sw out':Η}{q:tn}{y:su}(hq:(p::sw)[i]?=some q)(hg:get q.Y q.v=some y)(hs:B4 env (BI sd y.ta) sw=some out'):Cy get sd env p (f+1) i sw=Cy get sd env p f (i+1) out':=by rw[Cy,hq];simp only[hg,hs]
def ZO{sw:Η}(hq:(p::sw)[i]?=none):Cy get sd env p (f+1) i sw=some sw:=by rw[Cy,hq]
def ZV{d:um}{l:Θ}{sw:Η}(h:vc env d.Y=none):B4 env (d::l) sw=none:=by rw[B4,h]
def ZU{d:um}{l:Θ}{sw:Η}{v:tj}(h:vc env d.Y=some v)(a0:BT d.range v=false):B4 env (d::l) sw=none:=by rw[B4,h];simp[a0]
def ZW{d:um}{l:Θ}{sw:Η}{v:tj}(h:vc env d.Y=some v)(a0:BT d.range v=true)(ho:sw.any (Az d.Y)=true):B4 env (d::l) sw=B4 env l sw:=by rw[B4,h];simp[a0,ho]
def ZT{d:um}{l:Θ}{sw:Η}{v:tj}(h:vc env d.Y=some v)(a0:BT d.range v=true)(ho:sw.any (Az d.Y)=false):B4 env (d::l) sw=B4 env l (sw++[⟨d.Y,v⟩]):=by rw[B4,h];simp only[a0,ho,if_true,nt,if_false]
def ZX{a:Η}(h:vd get sd env p=some a):þ a/\(∀r,r∈a↔Reach get sd env p r)/\(∀q,(q=p\/q∈a)->PF get sd env q)/\∀r∈a,vc env r.Y=some r.v:=by
 unfold vd at h;cases hg:Cy get sd env p (env.length+2) 0 []with
 |none=>rw[hg]at h;cases h
 |some b=>
  rw[hg]at h;simp only[jp,eu]at h;subst h;have hI:=Qp _ _ _ _ ö.zero hg;have hm:∀r,r∈B9 b↔r∈b:=λr=>(Fa b).mem_iff;have a0:∀q,(q=p\/q∈b)->∃k,k<b.length+1/\(p::b)[k]?=some q:=λq hq=>by
   obtain rfl|hq:=hq
   .exact⟨0,oM,rfl⟩
   .obtain⟨k,hk,he⟩:=gc.1 hq;exact⟨k+1,oM,by rw[qm,dt hk,he]⟩
  refine⟨Sm hI.zq,λr=>⟨λhr=>hI.reach r ((hm r).1 hr),λhr=>(hm r).2 ?_⟩,λq hq=>?_,λr hr=>hI.told r ((hm r).1 hr)⟩
  .have key:∀r,Reach get sd env p r->r∈b:=λr hr=>by
    induction hr with
    |one ha=>obtain⟨k,hk,he⟩:=a0 p (.inl rfl);exact hI.asks k _ hk he _ ha
    |more _ ha ih=>obtain⟨k,hk,he⟩:=a0 _ (.inr ih);exact hI.asks k _ hk he _ ha
   exact key r hr
  .obtain⟨k,hk,he⟩:=a0 q (hq.imp id (hm q).1);exact hI.Xbk k q hk he
end
end Go.Hal
namespace Go.Hal
def za{v:tj}{R:È}(hR:∀w',AI w w'->R v.J w'):EI v.ma v.mi v.pa w R:=by refine An.intro λ_ _ _ hb _ _=>?_;refine⟨_,_,_,lD,?_⟩;exact KN.V (Ũ λw' hx=>⟨_,_,rfl,hR _ xT⟩)
def G4(x:tx):Bool:=x.lo.vt&&x.hi.vt&&decide (x.lo.J<=x.hi.J)
def Dt:Int->Κ->Int
 |m,[]=>m
 |_,y::r=>Dt (y.hi.J+2) r
def Zk1(l:Κ):∀(m:Int)(x:tx),BA m (l++[x])=(BA m l&&(G4 x&&decide (Dt m l<=x.lo.J))):=by
 induction l with
 |nil=>intro m x;simp only[ip,BA,G4,Dt];cases x.lo.vt<;>cases x.hi.vt<;>by_cases h1:m<=x.lo.J<;>by_cases h2:x.lo.J<=x.hi.J<;>simp[h1,h2]
 |cons y r ih=>intro m x;rw[ig,BA,BA,ih];exact(og ..).H
def Xm(l:Κ):∀(m:Int)(x:tx),Dt m (l++[x])=x.hi.J+2:=by
 induction l with
 |nil=>intro m x;rfl
 |cons y r ih=>intro m x;exact ih _ x
def Zk0{l k:Κ}{m:Int}(h:BA m (l++k)=true):BA m l=true:=by
 induction l generalizing m with
 |nil=>rfl
 |cons y r ih=>rw[ig,BA]at h;rw[BA];simp only[dz]at h ⊢;exact⟨h.1,ih h.2⟩
def Sp{l:Κ}(h:BA 0 (l.take i)=false):AN l=false:=by
 unfold AN;cases hg:BA 0 l
 .simp
 .rw[<-ga i l]at hg;rw[Zk0 hg]at h;cases h
def Xn{l:Κ}(hn:n<l.length)(hI:BA 0 (l.take n)=true):BA 0 (l.take (n+1))=(G4 l[n]&&decide (Dt 0 (l.take n)<=l[n].lo.J)):=by rw[dw hn,Zk1,hI,ic]
def Xl{l:Κ}(h1:l.length<=64)(h2:BA 0 l=true):AN l=true:=by simp[AN,h1,h2]
def Ü{l:Κ}(hs:No uo w S s l)(hR:∀w',AI w w'->R (AN l) w'):G5 s w R:=by
 unfold G5;have hl:=hs.len;refine⟨λh=>?_,λh=>?_⟩
 .have:AN l=false:=by unfold AN;rw[fq oM];rfl
  rw[<-this];exact hR _ xR
 have a5:l.length<=64:=oM;refine th.up hs.max (λm i w'=>AI w w'/\m=Dt 0 (l.take i)/\BA 0 (l.take i)=true) ⟨AI.refl _,rfl,rfl⟩ λm i w1 b0 hi ⟨x1,hm,hI⟩ hn=>⟨λa6=>?_,λa9=>?_⟩
 .have a0:i<l.length:=oM;obtain⟨ad,ha,_,hc⟩:=Fb hs a0;have a7:=Xn a0 hI;refine⟨ad,⟨ha,oM,a6⟩,_,_,_,_,_,_,hc _ xT,An.intro λa w2 x2 hb a8 _=>tk.intro hb sI λw3 b3 _ a4=>?_⟩;have x3:AI w1 w3:=b3.U x2 oM;refine⟨_,_,_,a4.at0 xR rfl,FO.V (Nl (v:=l[i].lo) λw4 x4=>⟨_,_,rfl,?_⟩)⟩;refine⟨_,_,_,a4.at1 xT rfl,FO.V (Nl (v:=l[i].hi) λw5 x5=>⟨_,_,rfl,IN (IN (IN ?_))⟩)⟩;have e:((((!l[i].lo.vt)||(!l[i].hi.vt))||decide (l[i].lo.J<m))||decide (l[i].hi.J<l[i].lo.J))= !BA 0 (l.take (i+1)):=by
   rw[a7,hm,G4];have e1:decide (l[i].lo.J<Dt 0 (l.take i))= !decide (Dt 0 (l.take i)<=l[i].lo.J):=by rw[<-decide_not,js];omega
   have e2:decide (l[i].hi.J<l[i].lo.J)= !decide (l[i].lo.J<=l[i].hi.J):=(by rw[<-decide_not,js];omega);rw[e1,e2];cases l[i].lo.vt<;>cases l[i].hi.vt<;>cases decide (Dt 0 (l.take i)<=l[i].lo.J)<;>cases decide (l[i].lo.J<=l[i].hi.J)<;>rfl
  rw[e];have hr:=tj.ě (v:=l[i].hi);rw[Ai (x:=l[i].hi.J+2) oM oM];refine⟨λh=>?_,λh=>hn a0 _ _ ⟨xT,?_,by simpa using h⟩⟩
  .rw[<-Sp (i:=i+1) (by simpa using h)];exact hR _ xT
  .rw[dw a0,Xm]
 .have:i=l.length:=oM;rw[this,eh]at hI;rw[<-Xl a5 hI];exact hR _ xT
def Zky{l:Κ}(hn:n+1<l.length):Dt 0 (l.take (n+1))=l[n].hi.J+2:=by rw[dw oM,Xm]
def ĸ{l:Κ}(hs:No uo w S s l)(hR:∀w',AI w w'->R (AN l) w'):I8 s w R:=by
 unfold I8;have hl:=hs.len;refine⟨λh=>?_,λh=>?_⟩
 .have:AN l=false:=by unfold AN;rw[fq oM];rfl
  rw[<-this];exact hR _ xR
 have b4:l.length<=64:=oM;refine Of.up hs.max (λi w'=>AI w w'/\BA 0 (l.take i)=true) ⟨AI.refl _,rfl⟩ λi w1 c6 hi ⟨x1,hI⟩ hn=>⟨λb8=>sf.drew λw2 x2=>?_,λc5=>?_⟩
 .have a6:i<l.length:=oM;obtain⟨ad,ha,_,hc⟩:=Fb hs a6;have b0:=Xn a6 hI;have a4:s.a=some ad/\(0:Int)<=(i:Int)/\(i:Int)<(s.len:Int):=⟨ha,oM,b8⟩;refine⟨ad,a4,_,_,_,(hc _ xT).pre rfl,Ed.V (y' λw3 x3=>⟨_,rfl,IN ?_⟩)⟩;refine⟨ad,λ_=>a4,_,_,_,λ_=>(hc _ xT).I rfl,IS.intro l[i].hi.vt (λ_ q hq=>Ed.V (y' λw' hx=>⟨_,rfl,hq _ hx⟩)) λt w4 x4 ht=>IN ?_⟩;refine⟨ad,λ_=>a4,_,_,_,λ_=>(hc _ xT).pre rfl,ad,λ_=>a4,_,_,_,λ_=>(hc _ xT).I rfl,?_⟩;refine IS.intro l[i].lo.J (λ_ q hq=>tf.intro (EI.V (za λw' hx=>⟨hx,_,rfl,hq _ hx⟩))) λt2 w5 x5 a7=>?_;refine IS.intro l[i].hi.J (λ_ q hq=>EI.V (za λw' hx=>⟨_,rfl,hq _ hx⟩)) λt3 w6 x6 a8=>?_;have e:(((!l[i].lo.vt)||(!t))||decide (t3<t2))= !G4 l[i]:=by
   unfold G4;cases h1:l[i].lo.vt
   .rfl
   .rw[h1]at ht a7 a8;rw[ht rfl];rw[ht rfl]at a7 a8;cases h2:l[i].hi.vt
    .rfl
    .rw[h2]at a7 a8;rw[a7 rfl,a8 rfl];have e2:decide (l[i].hi.J<l[i].lo.J)= !decide (l[i].lo.J<=l[i].hi.J):=by rw[<-decide_not,js];omega
     rw[e2];cases decide (l[i].lo.J<=l[i].hi.J)<;>rfl
  rw[e];refine⟨λh=>?_,λh=>sf.drew λw7 x7=>IN ?_⟩
  .have:BA 0 (l.take (i+1))=false:=by
    rw[b0];have:G4 l[i]=false:=by simpa using h
    rw[this];rfl
   rw[<-Sp this];exact hR _ xT
  have b9:G4 l[i]=true:=by simpa using h
  rw[b9,ic]at b0;have a9:(0:Int)<i->∃h:i - 1<l.length,Aa ((i:Int) - 1)=((i - 1:Nat):Int):=λh0=>⟨oM,by rw[Ai oM (by have:=hs.max;rw[Ao]at this;omega)];omega⟩;have a5:∀h0:0<i,Dt 0 (l.take i)=(l[i - 1]'oM).hi.J+2:=λh0=>by have:=Zky (l:=l) (n:=i - 1) oM;rw[<-this];congr 2;omega
  have hd:∃(a0:LP) (u1 u2 u3:Int),(decide ((0:Int)<(i:Int))=true->(s.a=some a0/\(0:Int)<=Aa ((i:Int) - 1)/\Aa ((i:Int) - 1)<(s.len:Int))/\sh w7 ((a0.add ((Aa ((i:Int) - 1)).toNat*6)).add 3) [vi u1,vi u2,vi u3]/\(⟨u1,u2,u3⟩:tj).J=Dt 0 (l.take i) - 2):=by
   by_cases h0:0<i
   .obtain⟨hp,ew⟩:=a9 oM;obtain⟨b2,b5,_,b6⟩:=Fb hs hp;refine⟨b2,_,_,_,λ_=>⟨by rw[ew];exact⟨b5,oM,oM⟩,by rw[ew];exact(b6 _ xT).I rfl,?_⟩⟩;rw[a5 h0];show(l[i - 1]'hp).hi.J=_;omega
   .exact⟨ad,0,0,0,λh=>by simp at h;omega⟩
  obtain⟨a0,u1,u2,u3,hu⟩:=hd;refine⟨ad,λ_=>a4,_,_,_,λ_=>(hc _ xT).pre rfl,a0,λhb=>(hu hb).1,u1,u2,u3,λhb=>(hu hb).2.1,?_⟩;refine IS.intro l[i].lo.J (λ_ q hq=>tf.intro (EI.V (za λw' hx=>⟨hx,_,rfl,hq _ hx⟩))) λt4 w8 x8 c3=>?_;refine IS.intro (Dt 0 (l.take i) - 2) (λhb q hq=>EI.V (za (v:=⟨u1,u2,u3⟩) λw' hx=>⟨_,rfl,by rw[(hu hb).2.2];exact hq _ hx⟩)) λt5 w9 x9 c4=>?_;have e2:(decide ((0:Int)<(i:Int))&&decide (t4<=Aa (t5+1)))= !BA 0 (l.take (i+1)):=by
   rw[b0];by_cases h0:0<i
   .have hb:decide ((0:Int)<(i:Int))=true:=(by simpa using h0);rw[c3 hb,c4 hb,hb,ic];have h1:=a5 h0;have h2:=tj.ě (v:=l[i - 1].hi);rw[Ai oM oM,<-decide_not,js];omega
   .have hb:decide ((0:Int)<(i:Int))=false:=(by simp;omega);have b7:i=0:=oM;subst b7;have:=tj.ě (v:=l[0].lo);rw[hb,qw,qo,Dt,fy oM];rfl
  rw[e2];refine⟨λh=>?_,λh=>hn a6 _ ⟨xT,by simpa using h⟩⟩;rw[<-Sp (i:=i+1) (by simpa using h)];exact hR _ xT
 .have:i=l.length:=oM;rw[this,eh]at hI;rw[<-Xl b4 hI];exact hR _ xT
def AV{α:Type}(p:α->Bool)(l:List α):Int:=match l.findIdx? p with|some i=>i|none=>-1
def F5{α:Type}{p:α->Bool}{l:List α}(hn:n<l.length)(h0:(l.take n).any p=false)(h:p l[n]=true):AV p l=n:=by
 unfold AV;have:l.findIdx? p=some n:=by
  rw[mo];refine⟨hn,h,λj hj=>?_⟩;have hm:l[j]∈l.take n:=by rw[List.mem_take_iff_getElem];exact⟨j,oM,rfl⟩
  have:=mf.1 h0 _ hm;simpa using this
 rw[this]
def EL{α:Type}{p:α->Bool}{l:List α}(h0:l.any p=false):AV p l= -1:=by
 unfold AV;have:l.findIdx? p=none:=by rw[nv];intro x hx;have:=mf.1 h0 x hx;simpa using this
 rw[this]
def F4{α:Type}{p:α->Bool}{l:List α}:decide (0<=AV p l)=l.any p:=by
 cases h:l.any p
 .rw[EL h];rfl
 .obtain⟨x,hx,hp⟩:=ka.1 h;unfold AV;cases hf:l.findIdx? p with
  |none=>rw[nv]at hf;rw[hf x hx]at hp;cases hp
  |some i=>simp
def FJ{α:Type}{p:α->Bool}{l:List α}(hn:n<l.length)(h0:(l.take n).any p=false):(l.take (n+1)).any p=p l[n]:=by rw[dw hn,List.any_append,h0];simp
def Fs{α:Type}(f:HT)(enc:α->HT)(p:α->Bool)(l:List α)(w:PU):Prop:=
 ∀x∈l,∀w' (k:Ë),AI w w'->(∀w'',AI w' w''->k (.bool (p x)) w'')->un prog f [enc x] w' k
def š{l:Κ}{f:HT}{p:tx->Bool}{R:È}(hs:No uo w S s l)(hf:Fs f (λx=>.agg #[vi x.lo.ma,vi x.lo.mi,vi x.lo.pa,vi x.hi.ma,vi x.hi.mi,vi x.hi.pa]) p l w)
  (hR:∀w',AI w w'->R (AV p l) w'):MN s f w R:=by
 unfold MN;have hl:=hs.len;refine Of.up hs.max (λi w'=>AI w w'/\(l.take i).any p=false) ⟨AI.refl _,rfl⟩ λi w1 a6 hi ⟨x1,hI⟩ hn=>⟨λa4=>?_,λa5=>?_⟩
 .have a0:i<l.length:=oM;obtain⟨ad,ha,_,hc⟩:=Fb hs a0;refine⟨ad,⟨ha,oM,a4⟩,_,_,_,_,_,_,hc _ xT,hf _ (fe a0) _ _ x1 λw2 x2=>⟨_,rfl,λh=>?_,λh=>?_⟩⟩
  .rw[<-F5 a0 hI h];exact hR _ xT
  .exact hn a0 _ ⟨xT,by rwa [FJ a0 hI]⟩
 .have:i=l.length:=oM;rw[this,eh]at hI;rw[<-EL hI];exact hR _ xT
def ZK{l:Κ}{f:HT}{p:tx->Bool}(hs:No uo w S s l)(hf:Fs f (λx=>.agg #[vi x.lo.ma,vi x.lo.mi,vi x.lo.pa,vi x.hi.ma,vi x.hi.mi,vi x.hi.pa]) p l w)
  (hR:∀w',AI w w'->R (l.any p) w'):ME s f w R:=by
 unfold ME;exact MN.V (š hs hf λw' hx=>⟨_,rfl,by rw[F4];exact hR _ hx⟩)
def TZ{x y z:Int}{R:È}(hs:No yu w S s [x,y,z])(hR:R (AM x (AM y z)) w):EB s w R:=
 Ua hs (by
  have: [x,y,z].foldr AM 0=AM x (AM y z):=by
   show AM x (AM y (AM z 0))=_;have:AM z 0=z:=by unfold AM;split<;>simp_all
   rw[this]
  rwa [this])
def NN{l:Α}(h:AT w a (l.map (Value.int .i64)))(hl:l.length<=1000):No yu w (λb=>b=a.block) ⟨some a,l.length,l.length⟩ l:=
 ⟨rfl,fx _,by show l.length<=maxLen;rw[Ao];omega,by show l.length*8<=Ab;unfold Ab;omega,.inr ⟨a,rfl,rfl,λi x hx=>⟨_,⟨rfl,trivial⟩,by have:=h.sh.sub i 1;show sh w (a.add (i*1)) [Value.int .i64 x];rw[rf];refine this.of rfl ?_;obtain⟨hi,he⟩:=fh.1 hx;rw[<-List.map_drop,gj hi,he];rfl⟩⟩⟩
def ì{a b:tj}{R:È}(hR:∀w',AI w w'->R (a.cmp b) w'):Fj a.ma a.mi a.pa b.ma b.mi b.pa w R:=by refine An.intro λ_ _ _ hb _ _=>An.intro λ_ _ _ a5 _ _=>sf.drew λw3 x3=>?_;refine⟨_,lD,?_⟩;refine⟨_,lD,?_⟩;refine⟨_,lD,?_⟩;refine⟨_,lD,?_⟩;refine⟨_,lD,?_⟩;refine⟨_,lD,?_⟩;refine tf.intro (Ea.V (yy ⟨AI.refl _,_,rfl,tf.intro (Ea.V (yy ⟨AI.refl _,_,rfl,Ea.V (yy ⟨_,rfl,?_⟩)⟩))⟩));refine An.intro λa4 w4 x4 a0 _ _=>EB.V (TZ (NN (l:=[_,_,_]) a0 sI) ⟨_,rfl,?_⟩);exact hR _ xT
def Zkx{x:tx}{v:tj}{c0:LP}(hc:sh w c0 v.c)(hR:∀w',AI w w'->R (decide (x.lo.cmp v<=0)&&decide (v.cmp x.hi<=0)) w'):MT x.lo.ma x.lo.mi x.lo.pa x.hi.ma x.hi.mi x.hi.pa c0 w R:=by
 refine An.intro λ_ w1 x1 hb _ _=>?_;refine⟨_,_,_,lD,?_⟩;refine⟨v.ma,v.mi,v.pa,hc.U x1,Fj.V (ì (a:=x.lo) (b:=v) λw2 x2=>⟨_,rfl,IN ⟨v.ma,v.mi,v.pa,λ_=>hc.U xT,x.hi.ma,x.hi.mi,x.hi.pa,λ_=>hb.at1 xT rfl,?_⟩⟩)⟩;refine IS.intro (v.cmp x.hi) (λ_ q hq=>Fj.V (ì λw' hx=>⟨_,rfl,hq _ hx⟩)) λt w3 x3 ht=>?_;have e:(decide (x.lo.cmp v<=0)&&decide (t<=0))=(decide (x.lo.cmp v<=0)&&decide (v.cmp x.hi<=0)):=by
  cases h:decide (x.lo.cmp v<=0)
  .rfl
  .rw[ht h]
 rw[e];exact hR _ xT
def Zbg:Bm prog 188:=enters_of func188 kR rfl
def Sn{l:Κ}{v:tj}(hs:No uo w S s l)(hR:∀w',AI w w'->R (BT l v) w'):HE s v.ma v.mi v.pa w R:=by
 refine An.intro λa w1 x1 hb _ _=>G5.V (Ü (hs.U x1) λw2 x2=>⟨_,rfl,v.ma,v.mi,v.pa,λ_=>hb.at0 xT rfl,?_⟩);refine IS.intro v.vt (λ_ q hq=>Ez.V (HK (v:=v) λw' hx=>⟨_,rfl,hq _ hx⟩)) λt w3 x3 ht=>IN ?_;have hf:Fs (.func (.func 188) #[] #[.pointer (some a)]) (λx:tx=>.agg #[vi x.lo.ma,vi x.lo.mi,vi x.lo.pa,vi x.hi.ma,vi x.hi.mi,vi x.hi.pa]) (λx=>decide (x.lo.cmp v<=0)&&decide (v.cmp x.hi<=0)) l w3:=by intro x _ w' k hx hk;refine⟨_,_,rfl,Zbg,?_⟩;exact MT.V (Zkx (v:=v) (hb.at0 xT rfl) hk)
 refine IS.intro (l.any _) (λ_ q hq=>ME.V (ZK (hs.U xT) hf λw' hx=>⟨_,rfl,hq _ hx⟩)) λt2 w4 x4 a0=>?_;have e:((AN l&&t)&&t2)=BT l v:=by
  unfold BT;cases h:AN l
  .rfl
  .rw[h]at ht a0;rw[ht rfl]at a0 ⊢;cases h':v.vt
   .rfl
   .rw[h']at a0;rw[a0 rfl];show l.any _=l.any _;have hm:∀x∈l,x.lo.vt=true/\x.hi.vt=true:=by
     have:∀(l:Κ) m,BA m l=true->∀x∈l,x.lo.vt=true/\x.hi.vt=true:=by
      intro l;induction l with
      |nil=>intro m _ x hx;cases hx
      |cons y r ih=>
       intro m h x hx;rw[BA]at h;simp only[dz]at h;obtain rfl|hx:=gn.1 hx
       .exact⟨h.1.1.1.1,h.1.1.1.2⟩
       .exact ih _ h.2 x hx
     unfold AN at h;simp only[dz]at h;exact this l 0 h.2
    rw[gp,ka,ka];constructor
    .rintro⟨x,hx,hp⟩;refine⟨x,hx,?_⟩;simp only[dz,fk,tx.has]at hp ⊢;rwa [tj.Ā (hm x hx).1 h',tj.Ā h' (hm x hx).2]at hp
    .rintro⟨x,hx,hp⟩;refine⟨x,hx,?_⟩;simp only[dz,fk,tx.has]at hp ⊢;rwa [tj.Ā (hm x hx).1 h',tj.Ā h' (hm x hx).2]
 rw[e];exact hR _ xT
def Xj{l:Κ}(h:AN l=true):∀x∈l,x.lo.vt=true/\x.hi.vt=true:=by
 have:∀(l:Κ) m,BA m l=true->∀x∈l,x.lo.vt=true/\x.hi.vt=true:=by
  intro l;induction l with
  |nil=>intro m _ x hx;cases hx
  |cons y r ih=>
   intro m h x hx;rw[BA]at h;simp only[dz]at h;obtain rfl|hx:=gn.1 hx
   .exact⟨h.1.1.1.1,h.1.1.1.2⟩
   .exact ih _ h.2 x hx
 unfold AN at h;simp only[dz]at h;exact this l 0 h.2
def Xk{l:Κ}(h:AN l=true):l.length<=64:=by unfold AN at h;simp only[dz,fk]at h;exact h.1
def Hz(l:Κ)(i:Nat):LU:=BG (l.take i)++(if 0<i then [32,124,124,32]else [])
def Zer{l:Κ}(h:i<l.length):BG (l.take (i+1))=Hz l i++AA l[i]:=by
 rw[dw h,Zeq];unfold Hz;by_cases h0:0<i
 .rw[fa,fl h0];intro h1;rw[List.take_eq_nil_iff]at h1;obtain h1|h1:=h1
  .omega
  .rw[h1]at h;simp at h
 .have:i=0:=oM;subst this;simp[BG]
def Zhg{l:Κ}(h:i<=l.length):(Hz l i).length<=31*i+4:=by have:=O4 (l.take i);rw[fg,kq h]at this;unfold Hz;split<;>simp<;>omega
def Zhy{l:Κ}{R:Í}(hs:No uo w S s l)(hR:∀w',AI w w'->R (B (Cb l)) w'):KO s w R:=by
 unfold KO;have hl:=hs.len;refine I8.V (ĸ hs λw1 x1=>⟨_,rfl,λh=>?_,λh=>?_⟩)
 .have e:AN l=false:=by simpa using h
  have:Cb l=[]:=by unfold Cb;rw[e];rfl
  have hr:=hR w1 xT;rw[this]at hr;exact hr
 have hm:AN l=true:=by simpa using h
 have b2:=Xk hm;refine⟨λh=>?_,λh=>?_⟩
 .have:Cb l= [60,48,46,48,46,48]:=by unfold Cb;rw[hm,fl rfl,fl (fo oM)]
  have hr:=hR w1 xT;rw[this]at hr;exact hr
 have a8:l≠[]:=λh0=>h (by rw[hl,h0];rfl);have a9:Cb l=BG l:=by unfold Cb;rw[hm,fl rfl,fa a8]
 refine th.up hs.max (λsw i w'=>AI w w'/\sw=B (BG (l.take i))) ⟨xT,rfl⟩ λsw i w2 b6 hi ⟨x2,hI⟩ hn=>⟨λa7=>?_,λb4=>?_⟩
 .have a4:i<l.length:=oM;obtain⟨ad,ha,_,hc⟩:=Fb hs a4;obtain⟨m1,m2⟩:=Xj hm _ (fe a4);have a0:s.a=some ad/\(0:Int)<=(i:Int)/\(i:Int)<(s.len:Int):=⟨ha,oM,a7⟩;have b5:=Zhg (l:=l) (i:=i) oM;have b0:=Rq l[i];have v1:=Dd l[i].lo;have v2:=Dd l[i].hi;subst hI;refine join.named λJ hJ=>join.named λJ2 a5=>?_;have hk:∀t w3,AI w w3->t=B (Hz l i++AA l[i])->J t w3:=λt w3 x3 ht=>by rw[hJ];exact hn a4 _ _ ⟨x3,by rw[ht,Zer a4]⟩
  have key:∀w3,AI w w3->J2 (B (Hz l i)) w3:=by
   intro w3 x3;rw[a5];refine⟨ad,a0,_,_,_,(hc _ xT).pre rfl,EH.V (Jj (v:=l[i].lo) λw4 x4=>⟨_,rfl,?_⟩)⟩;refine⟨by rw[Ac,A6,Al];simp;omega,ad,a0,_,_,_,(hc _ xT).I rfl,EH.V (Jj (v:=l[i].hi) λw5 x5=>⟨_,rfl,?_⟩)⟩;refine⟨by rw[Ac,A6,Al];simp;omega,ad,a0,_,_,_,(hc _ xT).pre rfl,EI.V (za (v:=l[i].lo) λw6 x6=>⟨_,rfl,?_⟩)⟩;refine⟨ad,a0,_,_,_,(hc _ xT).I rfl,EI.V (za (v:=l[i].hi) λw7 x7=>⟨_,rfl,sf.drew λw8 x8=>?_⟩)⟩;refine⟨ad,a0,_,_,_,(hc _ xT).pre rfl,ad,a0,_,_,_,(hc _ xT).I rfl,?_⟩;rw[FN];refine⟨λh=>⟨ad,a0,_,_,_,(hc _ xT).pre rfl,EH.V (Jj (v:=l[i].lo) λw9 x9=>⟨_,rfl,?_⟩)⟩,λh=>IN ⟨λh2=>?_,λh2=>?_⟩⟩
   .have e:AA l[i]=AD l[i].lo:=by unfold AA;rw[fl (by simpa using h)]
    refine⟨by rw[Ac,Ac,Al];omega,hk _ _ xT (by rw[e,A9])⟩
   .have e:AA l[i]= [42]:=by unfold AA;rw[fa (by simpa using h),fl (by simpa using h2)]
    refine⟨by rw[Ac,A6,Al];simp;omega,hk _ _ xT (by rw[e,AZ])⟩
   .have h2: ¬(l[i].lo.J=0/\l[i].hi.J=999999999):=(by simpa using h2);refine⟨λh3=>?_,λh3=>⟨λh4=>?_,λh4=>?_⟩⟩
    .have e:AA l[i]= [60,61]++AD l[i].hi:=by unfold AA;rw[fa (by simpa using h),fa h2,fl h3]
     refine⟨by simp only[CB];rw[Ac,Ac,Al];simp;omega,hk _ _ xT (by rw[e,CB,A9])⟩
    .have e:AA l[i]= [62,61]++AD l[i].lo:=by unfold AA;rw[fa (by simpa using h),fa h2,fa h3,fl h4]
     refine⟨by simp only[CB];rw[Ac,Ac,Al];simp;omega,hk _ _ xT (by rw[e,CB,A9])⟩
    .have e:AA l[i]=(([62,61]++AD l[i].lo)++[32,60,61])++AD l[i].hi:=by unfold AA;rw[fa (by simpa using h),fa h2,fa h3,fa h4]
     simp only[CB,AZ,A9];refine⟨by rw[Ac,Ac,Al];simp;omega,by rw[Ac,A6,Al];simp;omega,by rw[Ac,Ac,Al];simp;omega,hk _ _ xT (by rw[e];simp)⟩
  have e0:Hz l i=BG (l.take i)++(if 0<i then [32,124,124,32]else []):=rfl;have a6:=O4 (l.take i);rw[fg,kq oM]at a6;refine⟨λh0=>⟨by rw[Ac,A6,Al];simp;omega,?_⟩,λh0=>?_⟩
  .rw[fl oM]at e0;rw[AZ];have:=key w2 x2;rw[e0]at this;exact this
  .rw[fa oM,gv]at e0;have:=key w2 x2;rw[e0]at this;exact this
 .have:i=l.length:=oM;rw[this,eh,<-a9]at hI;rw[hI];exact hR _ xT
def T1:Bk prog 302 305 2 16:=CL (z:=.agg #[vi 0,vi 0]) kR kR rfl dC
def GQ:Bk prog 57 9 1 16:=CL (z:=.string ⟨#[]⟩) kR kR rfl dC
def EP(l:Κ):List (Int×Int):=l.map λx=>(x.lo.J,x.hi.J)
def Zgg{l:Κ}{R:Sl->Wp}(hs:No uo w S s l)(hR:∀t w',AI w w'->OF Đ 305 w' w.heap.size se t (EP l)->R t w'):MW s w R:=by
 unfold MW;have hl:=hs.len;refine th.up hs.max (λsw i w'=>AI w w'/\OF Đ 305 w' w.heap.size se sw (EP (l.take i))) ⟨AI.refl _,OF.zero _⟩ λsw i w1 b4 hi ⟨x1,uy⟩ hn=>⟨λa8=>?_,λb2=>?_⟩
 .have a0:i<l.length:=oM;obtain⟨ad,ha,_,hc⟩:=Fb hs a0;refine⟨ad,⟨ha,oM,a8⟩,_,_,_,_,_,_,hc _ xT,An.intro λa w2 x2 hb b0 _=>tk.intro hb sI λw3 b3 _ a4=>?_⟩;have x3:AI w1 w3:=b3.U x2 oM;refine⟨_,_,_,a4.at0 xR rfl,FO.V (Nl (v:=l[i].lo) λw4 x4=>⟨_,_,rfl,?_⟩)⟩;refine⟨_,_,_,a4.at1 xT rfl,FO.V (Nl (v:=l[i].hi) λw5 x5=>⟨_,_,rfl,An.intro λa9 w6 x6 a7 _ _=>?_⟩)⟩;have a6:AI w1 w6:=xT;refine(uy.U a6).é (x1.Z a6) T1 (x:=(l[i].lo.J,l[i].hi.J)) ⟨rfl,trivial⟩ a7.sh dC ?_ λr w7 a5 x7=>hn a0 _ _ ⟨x7,?_⟩
  .have:=hs.2.2.2.1;have e:uo.bytes=48:=rfl;have e':Đ.bytes=16:=rfl;rw[e]at this;rw[e'];simp[EP];omega
  .rwa [dw a0,EP,gb]
 .have:i=l.length:=oM;rw[this,eh]at uy;exact hR _ _ x1 uy
def Zep(x:tx)(r:Κ):BG (x::r)=AA x++Lib.joinTail [32,124,124,32] (r.map AA):=by
 induction r generalizing x with
 |nil=>simp[BG,Lib.joinTail]
 |cons y t ih=>show AA x++([32,124,124,32]++BG (y::t))=_;rw[ih];simp[Lib.joinTail]
def Zet(l:Κ):Lib.join ((l.map λx=>B (AA x)).map (·.data.toList)) [32,124,124,32]=BG l:=by
 have:(l.map λx=>B (AA x)).map (·.data.toList)=l.map AA:=by rw[jh];rfl
 rw[this];cases l with
 |nil=>rfl
 |cons x r=>rw[io,Lib.join_cons,Zep]
def Zes{l:Κ}{k:Ë}(h:OF vr 9 w w0.heap.size se s (l.map λx=>B (AA x)))(b0:l.length<=64)(a8:l≠[])(hk:∀w',AI w w'->k (.string (B (BG l))) w'):
  sx prog 243 [s.v,.string ϳ] w k:=by
 have hr:=h.ê dC (by show _*16<=Ab;rw[ec];unfold Ab;omega);have a4:=hr.len;rw[ec]at a4;obtain⟨ad,cs,ha,_,_,_⟩:=hr.el (n:=0) (by rw[ec];exact my.2 a8);have hb:=h.block ha;have a7:ad=⟨ad.block,0,none⟩:=hb.2.2;have hj:=Zet l;have e:s.v= .slice (some ⟨ad.block,0,none⟩) (l.map λx=>B (AA x)).length s.cap:=by unfold Sl.v;rw[ha,a4,ec,<-a7]
 rw[e];have hc:∀(j:Nat) x,(l.map λx=>B (AA x))[j]?=some x->w.cell? ⟨ad.block,0+j,none⟩=some (.string x):=by
  intro j x hx;obtain⟨a9,cs,a6,_,⟨rfl,_⟩,hc⟩:=hr.get hx;rw[ha,eu]at a6;subst a6;have:=hc 0 (.string x) rfl;rw[a7,Dg]at this;have e2:(Addr.add ⟨ad.block,0,none⟩ (j*vr.n+0))=⟨ad.block,0+j,none⟩:=by show Addr.add _ (j*1+0)=_;rw[GN,rf,ky,kj]
  rw[e2]at this;exact this
 have b2:=O4 l;have a0:=Any.strings_Join Tryz.ŵ ({sizeBuilder:=by kernel_rfl,liesBuilder:=by kernel_rfl,t5:=underlying5,a5:=Tryz.isAgg5,z5:=Tryz.sizeOf5,v5:=Tryz.zeroValue5,infoByte:=by kernel_rfl,cellsByte:=by kernel_rfl,sizeByte:=by kernel_rfl,neB5:=by decide}:Builder.Extra prog Tryz.ċ) ad.block 0 s.cap (l.map λx=>B (AA x)) ϳ w hc hb.2.1
  (by rw[ec];omega) (by have:=hr.2.1;exact this) (by have:ϳ.data.toList= [32,124,124,32]:=rfl;rw[this,hj];omega)
 have e3:ϳ.data.toList= [32,124,124,32]:=rfl;rw[e3,hj]at a0;exact a0.O λe w' ⟨he,hb⟩=>⟨_,he,hk w' hb⟩
def Xi{l:Κ}{R:Í}(ht:Þ w)(hs:No uo w S s l)(hR:∀w',AI w w'->R (B (Cb l)) w'):JB s w R:=by
 unfold JB;have hl:=hs.len;refine G5.V (Ü hs λw1 x1=>⟨_,rfl,λh=>?_,λh=>?_⟩)
 .have e:AN l=false:=by simpa using h
  have:Cb l=[]:=by unfold Cb;rw[e];rfl
  have hr:=hR w1 xT;rw[this]at hr;exact hr
 have hm:AN l=true:=by simpa using h
 have c6:=Xk hm;refine MW.V (Zgg (hs.U x1) λnums w2 x2 c3=>⟨_,rfl,?_⟩);have hN:=c3.ê dC (by show _*16<=Ab;unfold EP;rw[ec];unfold Ab;omega);have e0:(EP l).length=l.length:=by unfold EP;rw[ec]
 have d5:=hN.len;refine th.up hN.max (λsw i w'=>AI w2 w'/\OF vr 9 w' w2.heap.size se sw ((l.take i).map λx=>B (AA x))) ⟨AI.refl _,OF.zero _⟩ λsw i w3 e1 hi ⟨x3,uy⟩ hn=>⟨λc9=>?_,λd9=>?_⟩
 .have a9:i<l.length:=oM;have b0:i<(EP l).length:=oM;obtain⟨ad,ha,_,hc⟩:=OX hN b0;have c7:(EP l)[i]=(l[i].lo.J,l[i].hi.J):=by simp[EP]
  rw[c7]at hc;obtain⟨m1,m2⟩:=Xj hm _ (fe a9);have v1:=Dd l[i].lo;have v2:=Dd l[i].hi;refine join.named λJ hJ=>?_;have push:∀(t:Pr) w4,AI w3 w4->t=B (AA l[i])->An w4 [.string t] 9 λa w5=>uc prog 57 57 sw (Sl.v (Sl.mk (some a) 1 1)) w5 λr w6=>J r w6:=by
   intro t w4 x4 b9;refine An.intro λa w5 x5 a0 _ _=>?_;refine(uy.U (x4.Z x5)).é (x3.Z (x4.Z x5)) GQ (x:=t) ⟨rfl,?_⟩ a0.sh dC ?_ λr w7 b2 x7=>?_
   .have:=Rq l[i];rw[b9];show(B (AA l[i])).size<=maxLen;rw[Ac,Ao];omega
   .show(_+1)*16<=Ab;rw[ec,fg,kq oM];unfold Ab;omega
   .rw[hJ];refine hn b0 _ _ ⟨x7,?_⟩;rw[dw a9,gb];rw[b9]at b2;exact b2
  clear hJ;refine⟨ad,⟨ha,oM,c9⟩,_,_,hc _ xT,An.intro λa w4 x4 hb d8 _=>tk.intro hb sI λw5 b5 _ a0=>?_⟩;have x5:AI w3 w5:=b5.U x4 oM;have t5:Þ w5:=ht.U xT;refine⟨_,a0.at0 xR rfl,G8.V (í λw6 x6=>⟨_,_,_,_,rfl,?_⟩)⟩;rw[Pv m1];refine An.intro λd6 w7 x7 a4 d3 _=>tk.intro a4 sI λw8 b8 _ a4=>?_;have x8:AI w6 w8:=b8.U x7 oM;refine⟨_,a0.at1 xT rfl,G8.V (í λw9 x9=>⟨_,_,_,_,rfl,?_⟩)⟩;rw[Pv m2];refine An.intro λd7 e2 d1 a6 d4 _=>tk.intro a6 sI λc4 c5 _ a6=>?_;have e5:AI w9 c4:=c5.U d1 oM;have a7:Þ c4:=t5.U xT;refine⟨_,a0.at0 xT rfl,_,a0.at1 xT rfl,λh=>?_,λh=>⟨_,_,a0.at0 xT rfl,λh2=>?_,λh2=>⟨_,a0.at0 xT rfl,λh3=>?_,λh3=>⟨_,a0.at1 xT rfl,λh4=>?_,λh4=>sf.drew λe3 d2=>?_⟩⟩⟩⟩
  .have h:l[i].lo.J=l[i].hi.J:=h;have he:l[i].lo=l[i].hi:=(by rw[<-Pv m1,<-Pv m2,h]);have e:AA l[i]=AD l[i].lo:=(by unfold AA;rw[fl he]);exact⟨_,_,_,a4.at0 xT rfl,DQ.V (vy a7 λb6 a8=>⟨_,rfl,push _ _ xT (by rw[e])⟩)⟩
  all_goals have a5: ¬l[i].lo=l[i].hi:=λhe=>h (by rw[he])
  .have e:AA l[i]= [42]:=by unfold AA;rw[fa a5,fl (by simpa using h2)]
   exact push _ _ xT (by rw[e];rfl)
  all_goals have b4: ¬(l[i].lo.J=0/\l[i].hi.J=999999999):=by simpa using h2
  .have e:AA l[i]= [60,61]++AD l[i].hi:=(by unfold AA;rw[fa a5,fa b4,fl h3]);refine⟨_,_,_,a6.at0 xT rfl,DQ.V (vy a7 λb6 a8=>⟨_,rfl,by rw[Ac,A6,Al];simp;omega,?_⟩)⟩;exact push _ _ xT (by rw[e,CB])
  .have e:AA l[i]= [62,61]++AD l[i].lo:=(by unfold AA;rw[fa a5,fa b4,fa h3,fl h4]);refine⟨_,_,_,a4.at0 xT rfl,DQ.V (vy a7 λb6 a8=>⟨_,rfl,by rw[Ac,A6,Al];simp;omega,?_⟩)⟩;exact push _ _ xT (by rw[e,CB])
  .have e:AA l[i]=(([62,61]++AD l[i].lo)++[32,60,61])++AD l[i].hi:=(by unfold AA;rw[fa a5,fa b4,fa h3,fa h4]);refine⟨_,_,_,a4.at0 xT rfl,_,_,_,a6.at0 xT rfl,tf.intro (DQ.V (vy (a7.U xT) λb6 a8=>⟨a8,_,rfl,?_⟩))⟩;simp only[CB,AZ];refine⟨by rw[Ac,A6,Al];simp;omega,by rw[Ac,A6,Al];simp;omega,DQ.V (vy ((a7.U d2).U a8) λe4 e6=>⟨_,rfl,?_⟩)⟩;simp only[A9];refine⟨by rw[Ac,Ac,Al];simp;omega,push _ _ xT (by rw[e])⟩
 .have c8:i=l.length:=oM;rw[c8,eh]at uy;have b7:=(uy.ê dC (by show _*16<=Ab;rw[ec];unfold Ab;omega)).len;rw[ec]at b7;refine⟨λh=>?_,λh=>?_⟩
  .have:Cb l= [60,48,46,48,46,48]:=(by unfold Cb;rw[hm,fl rfl,fl (fo oM)]);have hr:=hR w3 xT;rw[this]at hr;exact hr
  .have a5:l≠[]:=λh0=>h (by rw[b7,h0];rfl);have d0:Cb l=BG l:=(by unfold Cb;rw[hm,fl rfl,fa a5]);rw[d0]at hR;exact Zes uy c6 a5 λw4 x4=>⟨_,rfl,hR _ xT⟩
end Go.Hal
