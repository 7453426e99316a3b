/- Lemmas for the claim K19a: how the program's functions run, and what they answer; no condition but those that each theorem names. -/
import Derived.Maps.AppendAt
import Derived.WalkKit
import Derived.ProofKit
import Derived.OpenShut
import Derived.Deep.Slices
import Derived.ChangeCalls
import Derived.Deep.DeepHandedRow
import Derived.Test.YtgolaibmophnjaaGreatDoorProg
import Derived.Shelf.Strings.SlTrimAscii
import Derived.Shelf.Strings.OnBuilder
import Derived.Shelf.Strings.BuilderK
import Derived.Shelf.LaysM
import Derived.Shelf.Strconv.Itoa3
import Derived.Shelf.Small.Strs
import Derived.Ground.NamesProg
import Derived.Lib.ItoaNum
import Derived.Laws.BytesArg
import Derived.Test.YtgolaibmophnjaaGreatDoorCards
import Derived.Lib.LaidTab
import Derived.Stop.LaidErr
import Derived.MakeChecks
import Derived.SevenTiedAt
import Derived.Shelf.Abstract
import Derived.Test.YtgolaibmophnjaaGreatDoorK19aA0
import Derived.Test.YtgolaibmophnjaaGreatDoorK19aS0
import Derived.Test.YtgolaibmophnjaaGreatDoorK19aS1
import Derived.Test.YtgolaibmophnjaaGreatDoorK19aS2
import Derived.Test.YtgolaibmophnjaaGreatDoorK19aT
set_option linter.unusedVariables false
set_option linter.unusedSimpArgs false
set_option linter.defProp false
set_option maxHeartbeats 16000000
open Go.Hal.SE hiding Cs Dr Lb vB
open Go Go.RowKit Go.Proofs Go.Shelf Go.Hal Go.Proofs.Tryz
variable {a:LP} {R:Á} {b:PU} {cs cs' r:LV} {f g i lo n need:Nat} {S:Nat->Prop} {p:Option PU} {P:LD} {s:Sl} {t:LN} {w w' w0:Qd}
namespace Go.Hal
def ä(S:Nat->Prop)(w w':Qd):Prop:=∀b,S b->b<w.heap.size->w'.heap[b]?=w.heap[b]?
def AI.ry(h:AI w w')(S:Nat->Prop):ä S w w':=λ_ _ hb=>h.block hb
def ä.cell(h:ä S w w'){v:HT}(hs:S a.block)(hc:w.cell? a=some v):w'.cell? a=some v:=
 (World.cell?_of_block (h a.block hs (World.block_lt_of_cell? w a hc))).Z hc
def CY(a:LP)(n:Nat):(a.add n).block=a.block:=by unfold Addr.add;split<;>rfl
def Dl(a:LP)(m n:Nat):(a.add m).add n=a.add (m+n):=by obtain⟨b,o,s⟩:=a;unfold Addr.add;by_cases hm:m=0<;>by_cases hn:n=0<;>simp[hm,hn];omega
def add_zero(a:LP):a.add 0=a:=rfl
def se.ry(h:se w a cs)(hs:S a.block)(hk:ä S w w'):se w' a cs:=
 λj v hj=>hk.cell (by rwa [CY]) (h j v hj)
def se.sub(h:se w a cs)(k m:Nat):se w (a.add k) ((cs.drop k).take m):=λj v hj=>by
 rw[Dl];refine h (k+j) v ?_;rw[mn]at hj;split at hj
 .rw[mo]at hj;exact hj
 .cases hj
def se.of{a':LP}(h:se w a cs)(ha:a'=a)(hc:cs'=cs):se w a' cs':=by subst ha hc;exact h
structure xh(α:Type) where
 n:Nat
 bytes:Nat
 rep:Qd->(Nat->Prop)->α->LV->Prop
 len:∀{w S x cs},rep w S x cs->cs.length=n
 one:∀{w S x cs},rep w S x cs->∀v∈cs,v.oneCell'=true
 O:∀{w S S' x cs},rep w S x cs->(∀b,S b->S' b)->rep w S' x cs
 ry:∀{w w' S x cs},rep w S x cs->ä S w w'->rep w' S x cs
def Ab:Nat:=140737489403904
def IT{α:Type}(E:xh α)(w:Qd)(S:Nat->Prop)(s:Sl)(l:List α):Prop:=
 s.len=l.length/\l.length<=s.cap/\s.cap<=maxLen/\l.length*E.bytes<=Ab/\
 (l=[]\/∃ad,s.a=some ad/\S ad.block/\∀(i:Nat)(x:α),l[i]?=some x->∃cs,E.rep w S x cs/\se w (ad.add (i*E.n)) cs)
section
variable {α:Type} {E:xh α} {w w':Qd} {S S':Nat->Prop} {s:Sl} {l:List α}
def IT.len(h:IT E w S s l):s.len=l.length:=h.1
def IT.O(h:IT E w S s l)(hs:∀b,S b->S' b):IT E w S' s l:=
 ⟨h.1,h.2.1,h.2.2.1,h.2.2.2.1,h.2.2.2.2.imp id λ⟨ad,h1,h2,h3⟩=>⟨ad,h1,hs _ h2,λi x hx=>let⟨cs,h4,h5⟩:=h3 i x hx;⟨cs,E.O h4 hs,h5⟩⟩⟩
def IT.ry(h:IT E w S s l)(hk:ä S w w'):IT E w' S s l:=
 ⟨h.1,h.2.1,h.2.2.1,h.2.2.2.1,h.2.2.2.2.imp id λ⟨ad,h1,h2,h3⟩=>⟨ad,h1,h2,λi x hx=>let⟨cs,h4,h5⟩:=h3 i x hx;⟨cs,E.ry h4 hk,h5.ry (by rwa [CY]) hk⟩⟩⟩
def IT.U(h:IT E w S s l)(hx:AI w w'):IT E w' S s l:=h.ry (hx.ry S)
def IT.nil(hS:True):IT E w S Sl.nil ([]:List α):=⟨rfl,im _,im _,by simp,.inl rfl⟩
def IT.get(h:IT E w S s l){x:α}(hx:l[i]?=some x):∃ad cs,s.a=some ad/\S ad.block/\E.rep w S x cs/\se w (ad.add (i*E.n)) cs:=by
 rcases h.2.2.2.2 with h0|⟨ad,h1,h2,h3⟩
 .subst h0;simp at hx
 .obtain⟨cs,h4,h5⟩:=h3 i x hx;exact⟨ad,cs,h1,h2,h4,h5⟩
end
def AT(w:Qd)(a:LP)(cs:LV):Prop:=∃t,a.off=0/\a.spot=none/\w.heap[a.block]?=some (.cells cs.toArray t (0,0))
section
variable {w w':Qd} {a:LP} {cs:LV}
def AT.lt(h:AT w a cs):a.block<w.heap.size:=by obtain⟨t,_,_,h⟩:=h;exact lt_of_block h
def AT.se(h:AT w a cs):se w a cs:=λj v hj=>by
 obtain⟨t,ho,hs,hb⟩:=h;obtain⟨b,o,s⟩:=a;simp only at ho hs hb;subst ho hs;have:(Addr.add ⟨b,0,none⟩ j)=⟨b,j,none⟩:=by unfold Addr.add;split<;>simp_all
 rw[this];simp[World.cell?,hb,hj]
def AT.U(h:AT w a cs)(hx:AI w w'):AT w' a cs:=by obtain⟨t,ho,hs,hb⟩:=h;exact⟨t,ho,hs,(hx.block (lt_of_block hb)).Z hb⟩
def AT.ry(h:AT w a cs)(hs:S a.block)(hx:ä S w w'):AT w' a cs:=by obtain⟨t,ho,a0,hb⟩:=h;exact⟨t,ho,a0,(hx _ hs (lt_of_block hb)).Z hb⟩
end
def An.intro{k:Ä}(h:∀a w',AI w w'->AT w' a cs->a.block=w.heap.size->w'.heap.size=w.heap.size+1->k a w'):An w cs t k:=λa w' ha hw=>by subst ha hw;refine h _ _ (AI.alloc _ _) ⟨t,rfl,rfl,?_⟩ rfl sI;exact heap_alloc_new w _
def ur(g:Nat)(w w':Qd):Prop:=w.heap.size<=w'.heap.size/\w'.os=w.os/\w'.tape=w.tape/\w'.output=w.output/\∀b,b<w.heap.size->b≠g->w'.heap[b]?=w.heap[b]?
def ur.ry(h:ur g w w')(hs: ¬S g):ä S w w':=λb hb hl=>h.2.2.2.2 b hl λe=>hs (e▸hb)
def ur.below{B:Nat}(h:ur g w w')(hB:B<=w.heap.size)(hg:B<=g):Below B w w':=⟨h.2.1,h.2.2.1,h.2.2.2.1,h.1,λb hb=>h.2.2.2.2 b oM oM⟩
def ur.box(h:ur g w w')(hb:AT w a cs)(a0:a.block≠g):AT w' a cs:=hb.ry (S:=λb=>b≠g) a0 (λb hb hl=>h.2.2.2.2 b hl hb)
def rp.intro{o:Nat}{tf:LV}{k:Wp}(hb:AT w a tf)(hl:o+cs.length<=tf.length)
  (h:∀w',ur a.block w w'->w'.heap.size=w.heap.size->AT w' a (tf.take o++cs++tf.drop (o+cs.length))->k w'):rp w (a.add o) cs k:=by
 obtain⟨t,ho,hs,hh⟩:=hb;obtain⟨b,of,sp⟩:=a;simp only at ho hs hh;subst ho hs;have ha:(Addr.add ⟨b,0,none⟩ o)=⟨b,o,none⟩:=by unfold Addr.add;split<;>simp_all
 rw[ha];refine⟨_,t,hh,rfl,by simpa using hl,h _ ⟨?_,rfl,rfl,rfl,λc hc a0=>setRow_other w b c _ a0⟩ ?_ ⟨t,rfl,rfl,?_⟩⟩
 .simp[World.setRow]
 .simp[World.setRow]
 .rw[setRow_heap w b tf.toArray _ t _ hh];simp[D0]
end Go.Hal
namespace Go
def lD{c:LV}(h:se w a c:=by first|exact(AT.at0 (by assumption) xT rfl)|exact(AT.at1 (by assumption) xT rfl)):se w a c:=h
end Go
namespace Go.Hal
def Al:maxLen=9223372036854775807:=rfl
def Ai{x:Int}(h0: -9223372036854775808<=x)(h1:x<=9223372036854775807):Aa x=x:=by simp only[Aa,IntKind.wrap,IntKind.bits,IntKind.signed,iu,fp];have e1:(2:Int)^(64 - 1)=9223372036854775808:=rfl;have e2:(2:Int)^ 64=18446744073709551616:=rfl;split<;>rename_i h<;>simp only[ge_iff_le,fp,e1,e2]at h ⊢ <;>omega
def J5{x:Int}(h0:0<=x)(h1:x<n)(h2:n<=maxLen):Aa (x+1)=x+1:=Ai oM (by rw[Al]at h2;omega)
@[ext] structure sq where
 ma:Int
 mi:Int
 pa:Int
 deriving DecidableEq
structure sy where
 Y:PU
 v:sq
 deriving DecidableEq
abbrev Η:=List sy
structure tv where
 lo:sq
 hi:sq
 deriving DecidableEq
abbrev Λ:=List tv
structure uf where
 Y:PU
 range:Λ
 deriving DecidableEq
abbrev Ι:=List uf
structure sf where
 Y:PU
 v:sq
 sj:Ι
 sw:Ι
 ut:Ι
 deriving DecidableEq
abbrev Κ:=List sf
structure vu where
 sj:Ι
 uo:Ι
 ut:Ι
 ru:Ι
 deriving DecidableEq
structure uu where
 Y:PU
 ss:Int
 range:Λ
 deriving DecidableEq
abbrev Ο:=List uu
def sq.c(v:sq):LV:=[vi v.ma,vi v.mi,vi v.pa]
def DS{α:Type}(n bytes:Nat)(f:α->LV)(ok:α->Prop)(hn:∀x,(f x).length=n)(h1:∀x,∀v∈f x,v.oneCell'=true):xh α where
 n:=n
 bytes:=bytes
 rep:=λ_ _ x cs=>cs=f x/\ok x
 len:=λh=>by rw[h.1,hn]
 one:=λh=>by rw[h.1];exact h1 _
 O:=λh _=>h
 ry:=λh _=>h
def Ac(s:PU):Prop:=s.size<=maxLen
def Ci:xh Int:=DS 1 8 (λx=>[vi x]) (λ_=>True) (λ_=>rfl) (λ_ v hv=>by simp at hv;subst hv;rfl)
def ú:xh sq:=DS 3 24 sq.c (λ_=>True) (λ_=>rfl) (λ_ v hv=>by simp[sq.c]at hv;rcases hv with rfl|rfl|rfl<;>rfl)
def ui:xh tv:=DS 6 48 (λs=>s.lo.c++s.hi.c) (λ_=>True) (λ_=>rfl) (λ_ v hv=>by simp[sq.c]at hv;rcases hv with rfl|rfl|rfl|rfl|rfl|rfl<;>rfl)
def uy:xh sy:=DS 4 40 (λp=>.string p.Y::p.v.c) (λp=>Ac p.Y) (λ_=>rfl) (λ_ v hv=>by simp[sq.c]at hv;rcases hv with rfl|rfl|rfl|rfl<;>rfl)
def rq:xh uf where
 n:=2
 bytes:=40
 rep:=λw S d cs=>Ac d.Y/\∃s,cs= [.string d.Y,s.v]/\IT ui w S s d.range
 len:=λ⟨_,s,h,_⟩=>by rw[h];rfl
 one:=λ⟨_,s,h,_⟩ v hv=>by rw[h]at hv;simp[Sl.v]at hv;rcases hv with rfl|rfl<;>rfl
 O:=λ⟨h0,s,h,hr⟩ hs=>⟨h0,s,h,hr.O hs⟩
 ry:=λ⟨h0,s,h,hr⟩ hk=>⟨h0,s,h,hr.ry hk⟩
def wq:xh sf where
 n:=7
 bytes:=112
 rep:=λw S p cs=>Ac p.Y/\∃d e o,cs= .string p.Y::p.v.c++[Sl.v d,Sl.v e,Sl.v o]/\IT rq w S d p.sj/\IT rq w S e p.sw/\IT rq w S o p.ut
 len:=λ⟨_,d,e,o,h,_⟩=>by rw[h];rfl
 one:=λ⟨_,d,e,o,h,_⟩ v hv=>by rw[h]at hv;simp[Sl.v,sq.c]at hv;rcases hv with rfl|rfl|rfl|rfl|rfl|rfl|rfl<;>rfl
 O:=λ⟨h0,d,e,o,h,a,b,c⟩ hs=>⟨h0,d,e,o,h,a.O hs,b.O hs,c.O hs⟩
 ry:=λ⟨h0,d,e,o,h,a,b,c⟩ hk=>⟨h0,d,e,o,h,a.ry hk,b.ry hk,c.ry hk⟩
def Pa:xh uu where
 n:=3
 bytes:=48
 rep:=λw S d cs=>Ac d.Y/\∃s,cs= [.string d.Y,vi d.ss,s.v]/\IT ui w S s d.range
 len:=λ⟨_,s,h,_⟩=>by rw[h];rfl
 one:=λ⟨_,s,h,_⟩ v hv=>by rw[h]at hv;simp[Sl.v]at hv;rcases hv with rfl|rfl|rfl<;>rfl
 O:=λ⟨h0,s,h,hr⟩ hs=>⟨h0,s,h,hr.O hs⟩
 ry:=λ⟨h0,s,h,hr⟩ hk=>⟨h0,s,h,hr.ry hk⟩
def toList_data(a:PU):a.toList=a.data.toList:=ByteArray.toList_eq a
def Gz(a:PU):a.data.toList.length=a.size:=by rw[kx];rfl
def YZ{a:PU}(h:i<a.size):C1 a (i:Int)=((a.data.toList[i]'(by rwa [Gz])).toNat:Int):=by rw[C1,jk,fa,dw (by rwa [Gz])];rfl
def Zk(p x y:LU):Op.bytesLess (p++x) (p++y)=Op.bytesLess x y:=by
 induction p with
 |nil=>rfl
 |cons a p ih=>show(decide (a<a)||(a==a&&Op.bytesLess (p++x) (p++y)))=_;rw[ih];simp
def Zx{tf:Nat}(h:tf<need):Builtin.nextslicecap need tf=need\/Builtin.nextslicecap need tf+2<=2*need:=by
 unfold Builtin.nextslicecap;split
 .exact .inl rfl
 .right;split
  .omega
  .rw[growBy_four]
   repeat' split
   all_goals omega
def Zy{tf:Nat}(h:tf<need):Builtin.nextslicecap need tf<=need+(need+768)/4\/Builtin.nextslicecap need tf<=512:=by
 unfold Builtin.nextslicecap;split
 .omega
 .split
  .omega
  .rw[growBy_four]
   repeat' split
   all_goals omega
def TQ{tf bytes:Nat}(h:tf<need)(hb:need*bytes<=Ab):Builtin.nextslicecap need tf*bytes<=281474976710656:=by
 unfold Ab at hb;obtain h1|h1:=Zx h
 .rw[h1];omega
 .by_cases hB:1048576<=bytes
  .have h2:(Builtin.nextslicecap need tf+2)*bytes<=2*need*bytes:=je _ h1;rw[lj,Nat.mul_assoc]at h2;omega
  .obtain h3|h3:=Zy h
   .have h4:4*Builtin.nextslicecap need tf*bytes<=(5*need+768)*bytes:=je _ oM;have e1:4*Builtin.nextslicecap need tf*bytes=4*(Builtin.nextslicecap need tf*bytes):=Nat.mul_assoc _ _ _;have e2:(5*need+768)*bytes=5*(need*bytes)+768*bytes:=(by rw[lj,Nat.mul_assoc]);omega
   .have h4:Builtin.nextslicecap need tf*bytes<=512*bytes:=je _ h3;omega
def T4{ty e:LN}{i:TypeInfo}{z:HT}(ht:P.underlying t=some (.slice e))(hi:P.info? e=some i)(hz:i.zero=some z)(b8:z.cells.size=i.size)(c4:0<i.size)
  {v:HT}  {xs:LV} (ho:w.ownsRow lo e i.size v n xs)  {m c:Nat} {news:LV} (hl:news.length=m*i.size) (hn:∀(j:Nat)(u:HT),news[j]?=some u->w.cell? (a.add j)=some u) (h1:∀u∈news,u.oneCell'=true)
  (hm:n+m<=maxLen) (hb:(n+m)*i.bytes<=Ab) (b5:lo<=w.heap.size):
  ∃v' w',(Builtin.append_ #[t,t] ty #[v,.slice (some a) m c]).run P w= .ok v' w'/\w'.ownsRow lo e i.size v' (n+m) (xs++news)/\w.grownBy w' v.ownBlock/\(v'.ownBlock=v.ownBlock\/v'.ownBlock=some w.heap.size):=by
 have b9:n+m<=9223372036854775807:=by rw[Al]at hm;exact hm
 have a0:(xs++news).length=(n+m)*i.size:=by rw[dx,ho.1,hl,lj]
 have fresh:∀tf:Nat,w.grownBy (w.drew.alloc (.cells (xs.toArray++news.toArray++Builtin.zeroCells z.cells (grownCap w (n+m) tf e - (n+m))) e)) v.ownBlock/\
   (w.drew.alloc (.cells (xs.toArray++news.toArray++Builtin.zeroCells z.cells (grownCap w (n+m) tf e - (n+m))) e)).ownsRow lo e i.size (.slice (some ⟨w.heap.size,0,none⟩) (n+m) (grownCap w (n+m) tf e)) (n+m) (xs++news):=λtf=>by
  have hc:=grownCap_ge w (n+m) tf e;refine⟨⟨rfl,rfl,rfl,by simp,λb a6 _=>by first|exact heap_alloc_old w.drew _ a6|exact heap_alloc_old w.drew _ _ a6⟩,a0,.inr ⟨w.heap.size,_,_,rfl,b5,heap_alloc_new w.drew _,hc,grownCap_le_maxLen w (n+m) tf e hm,?_,?_⟩⟩
  .have e1:(xs.toArray++news.toArray).size=(n+m)*i.size:=(by simpa using a0);rw[Array.size_append,e1,size_zeroCells,b8,<-lj];congr 1;omega
  .have e2:(xs.toArray++news.toArray++Builtin.zeroCells z.cells (grownCap w (n+m) tf e - (n+m))).toList=(xs++news)++(Builtin.zeroCells z.cells (grownCap w (n+m) tf e - (n+m))).toList:=(by simp);rw[e2,<-a0];exact pf
 rcases ho.2 with⟨rfl,rfl⟩|⟨g,cap,a5,rfl,b4,hg,c3,b0,b2,b7⟩
 .obtain rfl:xs=[]:=fq (by simpa using ho.1);obtain rfl|a9:=ka m
  .obtain rfl:news=[]:=fq (by simpa using hl);exact⟨.slice none 0 0,w,by simp[Builtin.append_,run_underlying ht,sizeOf,typeInfo,hi,Builtin.lenOf,Builtin.firstCells,loadCells,loadCellsFrom],World.ownsRow_nil w lo e i.size,⟨rfl,rfl,rfl,ga _,λ_ _ _=>rfl⟩,.inl rfl⟩
  .have hr:=run_append_nil (P:=P) w t ty e i z ht hi hz a m c news hl hn a9 oM (by unfold Ab at hb;rw[lu]at hb;omega);have hf:=fresh 0;simp only[lu,iz,Array.empty_append]at hf ⊢;exact⟨_,_,hr,hf.2,hf.1,.inr rfl⟩
 .by_cases a4:n+m<=cap
  .have a7:n*i.size+news.length<=a5.size:=(by rw[hl,b2,<-lj];exact je _ a4);have hr:=run_append_room (P:=P) w t ty e i ht hi g n cap a5 hg a m c news hl hn h1 a4 a7;refine⟨_,_,hr,⟨a0,.inr ⟨g,cap,_,rfl,b4,setRow_heap w g a5 _ e _ hg,a4,b0,?_,?_⟩⟩,⟨rfl,rfl,rfl,by simp,λb _ b6=>setRow_other w g b _ (λh=>b6 (by rw[h];rfl))⟩,.inl rfl⟩
   .simp only[jm,dx,fk,gq,kx];omega
   .rw[b7,<-a0];exact pf
  .have a8:∀(j:Nat)(u:HT),xs[j]?=some u->w.cell? ((⟨g,0,none⟩:LP).add j)=some u:=ho.cells (g:=g) rfl;have hr:=run_append_grow (P:=P) w t ty e i z ht hi hz ⟨g,0,none⟩ n cap xs ho.1 a8 a m c news hl hn oM oM (TQ oM hb);have hf:=fresh cap;exact⟨_,_,hr,hf.2,hf.1,.inr rfl⟩
def Bz(P:LD)(t e:LN)(n bytes:Nat):Prop:=P.underlying t=some (.slice e)/\∃i z,P.info? e=some i/\i.zero=some z/\i.size=n/\i.bytes=bytes/\z.cells.size=n/\0<n
def CM{e:LN}{bytes:Nat}{z:HT}(h1:P.underlying t=some (.slice e))(h2:(P.info? e).map (λi=>(i.zero,i.size,i.bytes))=some (some z,n,bytes))(h3:z.cells.size=n)(h4:0<n):Bz P t e n bytes:=by
 cases hi:P.info? e with
 |none=>rw[hi]at h2;cases h2
 |some i=>rw[hi]at h2;simp only[ir,ff,Prod.mk.injEq]at h2;exact⟨h1,i,z,hi,h2.1,h2.2.1,h2.2.2,h3,h4⟩
structure rl{α:Type}(E:xh α)(T:LN)(w:Qd)(lo:Nat)(S:Nat->Prop)(s:Sl)(l:List α):Prop where
 row:∃css:List (List HT),w.ownsRow lo T E.n s.v s.len css.flatten/\css.length=l.length/\∀(i:Nat)(x:α),l[i]?=some x->∃cs,css[i]?=some cs/\E.rep w S x cs
 len:s.len=l.length
 lt:∀b,S b->b<w.heap.size
 apart:∀ad,s.a=some ad-> ¬S ad.block
section
variable {α:Type} {E:xh α} {T:LN} {w w':Qd} {lo:Nat} {S S':Nat->Prop} {s:Sl} {l:List α}
def rl.nil(w:Qd)(lo:Nat):rl E T w lo (λ_=>False) Sl.nil ([]:List α):=
 ⟨⟨[],World.ownsRow_nil _ _ _ _,rfl,λi x h=>by simp at h⟩,rfl,λ_ h=>h.F,λ_ h=>by cases h⟩
def rl.block(h:rl E T w lo S s l){ad:LP}(ha:s.a=some ad):lo<=ad.block/\ad.block<w.heap.size/\ad=⟨ad.block,0,none⟩:=by
 obtain⟨css,ho,_⟩:=h.row;have h1:=ho.lt ad.block (by simp[Value.ownBlock,Sl.v,ha]);refine⟨h1.1,h1.2,?_⟩;rcases ho.2 with⟨hv,_⟩|⟨g,cap,a0,hv,_⟩
 .simp[Sl.v,ha]at hv
 .simp[Sl.v,ha]at hv;rw[hv.1]
def rl.ry(h:rl E T w lo S s l)(a5:w.heap.size<=w'.heap.size)(hk:∀b,b<w.heap.size->(S b\/∃ad,s.a=some ad/\b=ad.block)->w'.heap[b]?=w.heap[b]?):rl E T w' lo S s l:=by
 obtain⟨css,ho,hl,hr⟩:=h.row;refine⟨⟨css,⟨ho.1,?_⟩,hl,λi x hx=>let⟨cs,h1,h2⟩:=hr i x hx;⟨cs,h1,E.ry h2 λb hb a4=>hk b a4 (.inl hb)⟩⟩,h.len,λb hb=>ju (h.lt b hb) a5,h.apart⟩;rcases ho.2 with h0|⟨g,cap,a0,hv,h1,h2,h3⟩
 .exact .inl h0
 .refine .inr ⟨g,cap,a0,hv,h1,?_,h3⟩;rwa [hk g (lt_of_block h2) (.inr ⟨⟨g,0,none⟩,by simp[Sl.v]at hv;exact hv.1,rfl⟩)]
def rl.U(h:rl E T w lo S s l)(hx:AI w w'):rl E T w' lo S s l:=h.ry hx.size λb hb _=>hx.block hb
def rl.O(h:rl E T w lo S s l)(hs:∀b,S b->S' b)(a4:∀b,S' b->b<w.heap.size)(a0:∀ad,s.a=some ad-> ¬S' ad.block):rl E T w lo S' s l:=by obtain⟨css,ho,hl,hr⟩:=h.row;exact⟨⟨css,ho,hl,λi x hx=>let⟨cs,h1,h2⟩:=hr i x hx;⟨cs,h1,E.O h2 hs⟩⟩,h.len,a4,a0⟩
def NS{css:List (List HT)}(hn:∀cs∈css,cs.length=n)(hi:css[i]?=some cs){j:Nat}{v:HT}(hj:cs[j]?=some v):css.flatten[i*n+j]?=some v:=by
 induction css generalizing i with
 |nil=>simp at hi
 |cons c r ih=>
  have hc:c.length=n:=hn c (kg ..);cases i with
  |zero=>simp only[jr,ff]at hi;subst hi;have a0:j<c.length:=(ec.1 hj).1;rwa [js,mw,lu,fy a0]
  |succ i=>rw[qg]at hi;have:=ih (λcs h=>hn cs (nk _ h)) hi;rw[js,ic (by rw[hc,lj];omega)];rwa [show(i+1)*n+j - c.length=i*n+j by rw[hc,lj];omega]
def rl.I(h:rl E T w lo S s l)(hb:l.length*E.bytes<=Ab)(hm:l.length<=maxLen):IT E w (λb=>S b\/∃ad,s.a=some ad/\b=ad.block) s l:=by
 obtain⟨css,ho,hl,hr⟩:=h.row;rcases ho.2 with⟨hv,hn⟩|⟨g,cap,a9,hv,hg,hh,hc,a6,a5,ht⟩
 .have h0:l=[]:=fq (by rwa [<-h.len]);subst h0;simp[Sl.v]at hv;exact⟨h.len,by simp,by rw[hv.2.2];exact im _,hb,.inl rfl⟩
 .simp[Sl.v]at hv;obtain⟨ha,a4⟩:=hv;subst a4;refine⟨h.len,by rwa [<-h.len],a6,hb,.inr ⟨_,ha,.inr ⟨_,ha,rfl⟩,λi x hx=>?_⟩⟩;obtain⟨cs,h1,h2⟩:=hr i x hx;refine⟨cs,E.O h2 λ_ h=>.inl h,λj v hj=>?_⟩;have a0:∀cs∈css,cs.length=E.n:=by
   intro cs a5;obtain⟨k,hk,he⟩:=gh.1 a5;have a7:k<l.length:=by rwa [<-hl]
   obtain⟨a8,h3,h4⟩:=hr k _ (dw a7);rw[dw hk,he,ff]at h3;rw[h3];exact E.len h4
  rw[Dl];exact ho.cells (g:=g) (by simp[Value.ownBlock,Sl.v,ha]) _ _ (NS a0 h1 hj)
def rl.app{e:LN}{k:Sl->Wp}{x:α}(h:rl E e w lo S s l)(hT:Bz P t e E.n E.bytes)(d0:lo<=w.heap.size)(hx:E.rep w S' x cs)(hc:se w a cs)(b5:∀b,S' b->b<w.heap.size)(b6:∀ad,s.a=some ad-> ¬S' ad.block)
  (hb:(l.length+1)*E.bytes<=Ab) (hm:l.length+1<=maxLen)
  (hk:∀(r:Sl)(w':Qd),rl E e w' lo (λb=>S b\/S' b) r (l++[x])->w.heap.size<=w'.heap.size->w'.os=w.os->w'.tape=w.tape->w'.output=w.output->
   (∀b,b<w.heap.size->(∀ad,s.a=some ad->b≠ad.block)->w'.heap[b]?=w.heap[b]?)->(∀ad,r.a=some ad->(s.a=some ad\/w.heap.size<=ad.block))->k r w'):ue P t t s (Sl.v ⟨some a,1,1⟩) w k:=by
 intro ty;obtain⟨css,ho,hl,hr⟩:=h.row;obtain⟨ht,i,z,hi,hz,a8,c8,d4,d1⟩:=hT;have b9:=E.len hx;have c3:=h.len;obtain⟨v',w',c5,a6,a5,b7⟩:=T4 (P:=P) (ty:=ty) (m:=1) (c:=1) ht hi hz (by rwa [a8]) (by rwa [a8]) (by rwa [a8]) (by rw[a8,b9,Nat.one_mul]) (λj u hj=>hc j u hj) (E.one hx) oM (by rwa [c3,c8]) d0;rw[a8]at a6;have d3:∃r:Sl,v'=r.v/\r.len=s.len+1:=by
  rcases a6.2 with⟨hv,hn⟩|⟨g,cap,c7,hv,_⟩
  .omega
  .exact⟨⟨_,_,_⟩,hv,rfl⟩
 obtain⟨r,rfl,c4⟩:=d3;have b0:∀ad,r.a=some ad->(s.a=some ad\/w.heap.size<=ad.block):=by
  intro ad a7;have a4:s.v.ownBlock=some ad.block\/w.heap.size<=ad.block:=by
   have h0:r.v.ownBlock=some ad.block:=(by simp[Value.ownBlock,Sl.v,a7]);obtain hb|hb:=b7
   .left;rwa [<-hb]
   .right;rw[h0,ff]at hb;omega
  obtain a4|a4:=a4
  .left;have h2:ad=⟨ad.block,0,none⟩:=by
    rcases a6.2 with⟨hv,_⟩|⟨g,cap,c7,hv,_⟩
    .simp[Sl.v,a7]at hv
    .simp[Sl.v,a7]at hv;rw[hv.1]
   cases hsa:s.a with
   |none=>simp[Value.ownBlock,Sl.v,hsa]at a4
   |some d5=>simp[Value.ownBlock,Sl.v,hsa]at a4;have:=(h.block hsa).2.2;rw[this,a4,<-h2]
  .exact .inr a4
 refine⟨_,w',c5,r,rfl,hk r w' ?_ a5.size a5.os a5.tape a5.output ?_ b0⟩
 .have a9:∀b,b<w.heap.size->(S b\/S' b)->w'.heap[b]?=w.heap[b]? :=λb b2 a0=>by
   refine a5.block b b2 ?_;simp only[Value.ownBlock,Sl.v];cases hsa:s.a with
   |none=>simp
   |some ad=>
    simp only[ne_eq,ff];rintro rfl;obtain a0|a0:=a0
    .exact h.apart _ hsa a0
    .exact b6 _ hsa a0
  refine⟨⟨css++[cs],?_,by simp[hl],λj y hj=>?_⟩,by simp[c4,c3],λb a0=>?_,λad a7 a0=>?_⟩
  .rw[c4,kw];simpa using a6
  .rw[nr]at hj;split at hj
   .rename_i c9;obtain⟨c6,h1,h2⟩:=hr j y hj;exact⟨c6,by rwa [fy oM],E.ry (E.O h2 λ_ h=>.inl h) λb hb b4=>a9 b b4 hb⟩
   .rename_i c9;have b8:j - l.length=0:=by
     rcases ka (j - l.length)with h0|h0
     .exact h0
     .rw[jf (by simp;omega)]at hj;cases hj
    rw[b8]at hj;simp only[jr,ff]at hj;subst hj;exact⟨cs,by rw[ic oM,hl,b8];rfl,E.ry (E.O hx λ_ h=>.inr h) λb hb b4=>a9 b b4 hb⟩
  .have:b<w.heap.size:=by
    obtain a0|a0:=a0
    .exact h.lt b a0
    .exact b5 b a0
   have:=a5.size;omega
  .obtain h1|h1:=b0 ad a7
   .obtain a0|a0:=a0
    .exact h.apart ad h1 a0
    .exact b6 ad h1 a0
   .have:ad.block<w.heap.size:=by
     obtain a0|a0:=a0
     .exact h.lt _ a0
     .exact b5 _ a0
    omega
 .intro b b2 d2;refine a5.block b b2 ?_;simp only[Value.ownBlock,Sl.v];cases hsa:s.a with
  |none=>simp
  |some ad=>simp only[ne_eq,ff];exact d2 ad hsa
def rl.push{e:LN}{k:Sl->Wp}{x:α}(h:rl E e w lo S s l)(hT:Bz P t e E.n E.bytes)(a5:lo<=w.heap.size)(hx:E.rep w S' x cs)(hc:se w a cs)(a0:∀b,S' b->b<w.heap.size)(a4:∀ad,s.a=some ad-> ¬S' ad.block)
  (hb:(l.length+1)*E.bytes<=Ab) (hm:l.length+1<=maxLen)
  (hk:∀(r:Sl)(w':Qd),rl E e w' lo (λb=>S b\/S' b) r (l++[x])->Below lo w w'->(∀b,b<w.heap.size->(∀ad,s.a=some ad->b≠ad.block)->w'.heap[b]?=w.heap[b]?)->(∀ad,r.a=some ad->(s.a=some ad\/w.heap.size<=ad.block))->k r w'):ue P t t s (Sl.v ⟨some a,1,1⟩) w k:=
 h.app hT a5 hx hc a0 a4 hb hm λr w' h1 h2 h3 h4 h5 h6 h7=>hk r w' h1 ⟨h3,h4,h5,h2,λb hb=>h6 b oM λad ha e=>by have:=(h.block ha).1;omega⟩ h6 h7
end
def tc.intro{f:Pr}{args:LV}{k:Ã}(h:si P f args w λv w'=>AI w w'/\k v w'):tc P f args w k:=h
def Old(S:Nat->Prop)(w:Qd):Prop:=∀b,S b->b<w.heap.size
def Old.U(h:Old S w)(hx:w.heap.size<=w'.heap.size):Old S w':=λb hb=>ju (h b hb) hx
def sh.drew{k:Wp}(h:∀w',AI w w'->k w'):sh w.drew k:=λ_ e=>h _ (e▸AI.drew w)
def se.pre(h:se w a cs)(hp:cs=cs'++r):se w a cs':=λj v hj=>h j v (by subst hp;rwa [fy (ec.1 hj).1])
def se.G{k:Nat}(h:se w a cs)(hp:cs.drop k=cs'++r):se w (a.add k) cs':=λj v hj=>by rw[Dl];refine h (k+j) v ?_;rwa [<-mo,hp,fy (ec.1 hj).1]
def AT.at0(h:AT w a cs)(hx:AI w w')(hp:cs=cs'++r):Go.Hal.se w' a cs':=(h.U hx).se.pre hp
def AT.at1{k:Nat}(h:AT w a cs)(hx:AI w w')(hp:cs.drop k=cs'++r):Go.Hal.se w' (a.add k) cs':=(h.U hx).se.G hp
def No.intro{τ:Type}{g:Bool}{k:τ->Wp}{A:(τ->Wp)->Prop}{d:τ}(val:τ)(hA:g=true->∀q:τ->Wp,(∀w',AI w w'->q val w')->A q)
  (hk:∀t w',AI w w'->(g=true->t=val)->k t w'):No g k A (λq=>q d w):=
 ⟨λhg=>hA hg _ λw' hx=>hk _ _ hx λ_=>rfl,λhg=>hk _ _ xR λh=>by rw[hg]at h;cases h⟩
def tj.intro{tf:LV}{k:Wp}(hb:AT w a tf)(hl:cs.length<=tf.length)(h:∀w',ur a.block w w'->w'.heap.size=w.heap.size->AT w' a (cs++tf.drop cs.length)->k w'):rp w a cs k:=by have:=rp.intro (o:=0) (cs:=cs) (k:=k) hb oM λw' h1 h2 h3=>h w' h1 h2 (by simpa using h3);simpa[add_zero]using this
def ur.U(h:ur g w w')(hx:AI w0 w)(hg:w0.heap.size<=g):AI w0 w':=hx.A (h.below hx.size hg)
def py{α:Sort _}{x:α}{k:α->Prop}(h:k x):sh x k:=λ_ e=>e▸h
def rn.up{body:Int->Qd->(À)->Prop}{N:Nat}(hN:N<=maxLen)(I:Â)(h0:I 0 w)
  (hs:∀(n:Nat) w' (a4:À),n<=N->I n w'->(n<N->∀a0,I (n+1) a0->a4 (Aa ((n:Int)+1)) a0)->body n w' a4):rn 0 w body:=
 ⟨λi w'=>∃n:Nat,i=n/\n<=N/\I n w',λi _=>N - i.toNat,⟨0,rfl,im _,h0⟩,λi w' ⟨n,hi,hn,hI⟩=>by subst hi;refine hs n w' _ hn hI λa5 a0 h=>?_;rw[J5 (n:=N) oM oM hN];exact⟨⟨n+1,oM,oM,h⟩,by show N - ((n:Int)+1).toNat<N - (n:Int).toNat;omega⟩⟩
def uc.up{α:Type}{a:α}{body:α->Int->Qd->(α->À)->Prop}{N:Nat}(hN:N<=maxLen)(I:α->Â)(h0:I a 0 w)
  (hs:∀(a:α) (n:Nat) w' (a4:α->À),n<=N->I a n w'->(n<N->∀a' a0,I a' (n+1) a0->a4 a' (Aa ((n:Int)+1)) a0)->body a n w' a4):uc a 0 w body:=
 ⟨λa i w'=>∃n:Nat,i=n/\n<=N/\I a n w',λ_ i _=>N - i.toNat,⟨0,rfl,im _,h0⟩,λa i w' ⟨n,hi,hn,hI⟩=>by subst hi;refine hs a n w' _ hn hI λa5 a' a0 h=>?_;rw[J5 (n:=N) oM oM hN];exact⟨⟨n+1,oM,oM,h⟩,by show N - ((n:Int)+1).toNat<N - (n:Int).toNat;omega⟩⟩
def IT.max{α:Type}{E:xh α}{l:List α}(h:IT E w S s l):l.length<=maxLen:=fl h.2.1 h.2.2.1
def IT.el{α:Type}{E:xh α}{l:List α}(h:IT E w S s l)(hn:n<l.length):
  ∃ad cs,s.a=some ad/\S ad.block/\E.rep w S l[n] cs/\∀w',AI w w'->se w' (ad.add (n*E.n)) cs:=by
 obtain⟨ad,cs,h1,h2,h3,h4⟩:=h.get (dw hn);exact⟨ad,cs,h1,h2,h3,λw' hx=>h4.U hx⟩
def Fe{l:Λ}(h:IT ui w S s l)(hn:n<l.length):
  ∃ad,s.a=some ad/\S ad.block/\∀w',AI w w'->se w' (ad.add (n*6)) [.int .i64 l[n].lo.ma,.int .i64 l[n].lo.mi,.int .i64 l[n].lo.pa,.int .i64 l[n].hi.ma,.int .i64 l[n].hi.mi,.int .i64 l[n].hi.pa]:=by
 obtain⟨ad,cs,h1,h2,⟨rfl,_⟩,h4⟩:=h.el hn;exact⟨ad,h1,h2,h4⟩
def BH{l:Ι}(h:IT rq w S s l)(hn:n<l.length):
  ∃ad t,s.a=some ad/\S ad.block/\Ac l[n].Y/\IT ui w S t l[n].range/\∀w',AI w w'->se w' (ad.add (n*2)) [.string l[n].Y,t.v]:=by
 obtain⟨ad,cs,h1,h2,⟨h0,t,rfl,h5⟩,h4⟩:=h.el hn;exact⟨ad,t,h1,h2,h0,h5,h4⟩
def join.intro{τ:Sort _}{R:τ}{b:τ->Prop}(h:b R):join R b:=h
def join.named{τ:Sort _}{R:τ}{b:τ->Prop}(h:∀J,J=R->b J):join R b:=h R rfl
def rz:Nat->Prop:=λ_=>False
def rl.zero{α:Type}{E:xh α}{T:LN}(w:Qd):rl E T w w.heap.size rz Sl.nil ([]:List α):=rl.nil _ _
def rl.Ĉ{α:Type}{E:xh α}{e:LN}{l:List α}{x:α}{k:Sl->Wp}(h:rl E e w w0.heap.size rz s l)(x0:AI w0 w)(hT:Bz P t e E.n E.bytes)
  (hx:E.rep w rz x cs) (hc:se w a cs) (h1:1<=E.bytes) (hb:(l.length+1)*E.bytes<=Ab) (hk:∀r w',rl E e w' w0.heap.size rz r (l++[x])->AI w0 w'->k r w'):ue P t t s (Sl.v ⟨some a,1,1⟩) w k:=by
 have hm:l.length+1<=maxLen:=by have:(l.length+1)*1<=(l.length+1)*E.bytes:=qz _ h1;rw[Al];unfold Ab at hb;omega
 exact h.push hT x0.size hx hc (λ_ h=>h.F) (λ_ _ h=>h.F) hb hm λr w' ux vd _ _=>hk r w' (ux.O (λ_ h=>h.F id id) (λ_ h=>h.F) (λ_ _ h=>h.F)) (x0.A vd)
def rl.Ċ{α:Type}{E:xh α}{T:LN}{l:List α}(h:rl E T w lo rz s l)(h1:1<=E.bytes)(hb:l.length*E.bytes<=Ab):IT E w (λb=>lo<=b) s l:=by
 have hm:l.length<=maxLen:=by have:l.length*1<=l.length*E.bytes:=qz _ h1;rw[Al];unfold Ab at hb;omega
 refine(h.I hb hm).O λb hb=>?_;rcases hb with hb|⟨ad,ha,rfl⟩
 .exact hb.F
 .exact(h.block ha).1
def ą:xh (Int×Int):=DS 2 16 (λx=>[vi x.1,vi x.2]) (λ_=>True) (λ_=>rfl) (λ_ v hv=>by simp at hv;rcases hv with rfl|rfl<;>rfl)
def vx:xh PU:=DS 1 16 (λx=>[.string x]) (λx=>Ac x) (λ_=>rfl) (λ_ v hv=>by simp at hv;subst hv;rfl)
def O8{l:List (Int×Int)}(h:IT ą w S s l)(hn:n<l.length):
  ∃ad,s.a=some ad/\S ad.block/\∀w',AI w w'->se w' (ad.add (n*2)) [.int .i64 l[n].1,.int .i64 l[n].2]:=by
 obtain⟨ad,cs,h1,h2,⟨rfl,_⟩,h4⟩:=h.el hn;exact⟨ad,h1,h2,h4⟩
def GL(b j:Nat):Addr.add ⟨b,0,none⟩ j=⟨b,j,none⟩:=by unfold Addr.add;split<;>simp_all
def AI.J(h:AI w w')(g:Nat):ur g w w':=⟨h.size,h.os,h.tape,h.output,λb hb _=>h.block hb⟩
def ur.Z{a b c:Qd}(h:ur g a b)(k:ur g b c):ur g a c:=
 ⟨fl h.1 k.1,k.2.1.Z h.2.1,k.2.2.1.Z h.2.2.1,k.2.2.2.1.Z h.2.2.2.1,λx hx a0=>(k.2.2.2.2 x (by have:=h.1;omega) a0).Z (h.2.2.2.2 x hx a0)⟩
end Go.Hal
namespace Go.Hal
structure vv{α:Type}(c:α->α->Int):Prop where
 flip:∀x y,c x y<0↔0<c y x
 trans:∀x y z,c x y<=0->c y z<=0->c x z<=0
abbrev vv.Z:=@vv.trans
def Ah{α:Type}(c:α->α->Int)(x y:α×Nat):Prop:=c x.1 y.1<0\/(c x.1 y.1=0/\x.2<y.2)
section
variable {α:Type} {c:α->α->Int}
def vv.zero(h:vv c){x y:α}:c x y=0↔c y x=0:=by have h1:=h.flip x y;have h2:=h.flip y x;constructor<;>intro h0<;>omega
def vv.ě(h:vv c){x y z:α}(h1:c x y<0)(h2:c y z<=0):c x z<0:=by
 have a0:=h.Z x y z oM h2;obtain h3|h3:=Int.lt_or_eq_of_le a0
 .exact h3
 .exfalso;have h4:=h.Z y z x h2 (by rw[h.zero.1 h3];exact od _);have:=(h.flip x y).1 h1;omega
def vv.Xa6(h:vv c){x y z:α}(h1:c x y<=0)(h2:c y z<0):c x z<0:=by
 have a0:=h.Z x y z h1 oM;obtain h3|h3:=Int.lt_or_eq_of_le a0
 .exact h3
 .exfalso;have h4:=h.Z z x y (by rw[h.zero.1 h3];exact od _) h1;have:=(h.flip y z).1 h2;omega
def Ah.Z(h:vv c){x y z:α×Nat}(h1:Ah c x y)(h2:Ah c y z):Ah c x z:=by
 rcases h1 with h1|⟨h1,a0⟩<;>rcases h2 with h2|⟨h2,a4⟩
 .exact .inl (h.ě h1 oM)
 .exact .inl (h.ě h1 oM)
 .exact .inl (h.Xa6 oM h2)
 .refine .inr ⟨?_,oM⟩;have a:=h.Z _ _ _ (show c x.1 y.1<=0 by omega) (show c y.1 z.1<=0 by omega);have b:=h.Z _ _ _ (show c z.1 y.1<=0 by rw[h.zero.1 h2];omega) (show c y.1 x.1<=0 by rw[h.zero.1 h1];omega);have:=h.flip z.1 x.1;have:=h.flip x.1 z.1;omega
def Ah.not(h:vv c){x y:α×Nat}(h1:Ah c x y): ¬Ah c y x:=λh2=>by
 rcases h1 with h1|⟨h1,a0⟩<;>rcases h2 with h2|⟨h2,a4⟩
 .have:=(h.flip _ _).1 h1;omega
 .have:=h.zero.1 h2;omega
 .have:=h.zero.1 h1;omega
 .omega
def Ah.right(h:vv c){x y:α×Nat}(hi:x.2<y.2):(c y.1 x.1<0->Ah c y x)/\(¬c y.1 x.1<0->Ah c x y):=
 ⟨λh1=>.inl h1,λh1=>by
  have h2:=h.flip y.1 x.1;have h3:=h.flip x.1 y.1;by_cases h0:c x.1 y.1=0
  .exact .inr ⟨h0,hi⟩
  .exact .inl oM⟩
def Co(c:α->α->Int)(x:α):List α->List α
 | []=>[x]
 |y::r=>if c x y<=0 then x::y::r else y::Co c x r
def Bw(c:α->α->Int):List α->List α
 | []=>[]
 |x::r=>Co c x (Bw c r)
def Xh(x:α)(l:List α):(Co c x l).Perm (x::l):=by
 induction l with
 |nil=>exact jx _
 |cons y r ih=>
  unfold Co;split
  .exact jx _
  .exact(ih.cons y).Z (List.Perm.swap x y r)
def FK(l:List α):(Bw c l).Perm l:=by
 induction l with
 |nil=>exact jx _
 |cons x r ih=>exact(Xh x _).Z (ih.cons x)
def Eu:Nat->List α->List (α×Nat)
 |_,[]=>[]
 |k,x::r=>(x,k)::Eu (k+1) r
def cN(c:α->α->Int)(x y:α×Nat):Int:=c x.1 y.1
def QZ(k:Nat)(l:List α):(Eu k l).map Prod.fst=l:=by
 induction l generalizing k with
 |nil=>rfl
 |cons x r ih=>simp[Eu,ih]
def Zhf(k:Nat)(l:List α):∀x∈Eu k l,k<=x.2/\x.2<k+l.length:=by
 induction l generalizing k with
 |nil=>intro x h;cases h
 |cons a r ih=>
  intro x h;obtain rfl|h:=gj.1 h
  .simp
  .have:=ih (k+1) x h;simp;omega
def VX(k:Nat)(l:List α):(Eu k l).length=l.length:=by
 induction l generalizing k with
 |nil=>rfl
 |cons x r ih=>simp[Eu,ih]
def Ra(k:Nat)(l:List α):(Eu k l).Pairwise λx y=>x.2<y.2:=by
 induction l generalizing k with
 |nil=>exact .nil
 |cons a r ih=>refine .cons (λx h=>?_) (ih _);have:=(Zhf (k+1) r x h).1;show k<x.2;omega
def Zlr(x:α×Nat)(l:List (α×Nat)):(Co (cN c) x l).map Prod.fst=Co c x.1 (l.map Prod.fst):=by
 induction l with
 |nil=>rfl
 |cons y r ih=>
  have e:cN c x y=c x.1 y.1:=rfl;by_cases h:c x.1 y.1<=0
  .rw[Co,fo (by rwa [e])];simp only[gu];rw[Co,fo h]
  .rw[Co,fb (by rwa [e])];simp only[gu];rw[Co,fb h,ih]
def Xi(l:List (α×Nat)):(Bw (cN c) l).map Prod.fst=Bw c (l.map Prod.fst):=by
 induction l with
 |nil=>rfl
 |cons x r ih=>simp only[Bw,gu,Zlr,ih]
def Zlt(h:vv c){x:α×Nat}{l:List (α×Nat)}(hl:l.Pairwise (Ah c))(hx:∀y∈l,x.2<y.2):(Co (cN c) x l).Pairwise (Ah c):=by
 induction l with
 |nil=>exact lw _ _
 |cons y r ih=>
  obtain⟨h1,h2⟩:=iq.1 hl;have a0:=hx y (.head _);unfold Co;split
  .rename_i hc;have hc:c x.1 y.1<=0:=hc;have a:Ah c x y:=by
    obtain h3|h3:=Int.lt_or_eq_of_le hc
    .exact .inl h3
    .exact .inr ⟨h3,a0⟩
   refine .cons (λz hz=>?_) hl;obtain rfl|hz:=gj.1 hz
   .exact a
   .exact a.Z h (h1 z hz)
  .rename_i hc;have hc: ¬c x.1 y.1<=0:=hc;refine .cons (λz hz=>?_) (ih h2 λy hy=>hx y (.tail _ hy));rcases gj.1 ((Xh x r).mem_iff.1 hz)with rfl|hz
   .exact .inl ((h.flip _ _).2 oM)
   .exact h1 z hz
def Xk(h:vv c){l:List (α×Nat)}(hl:l.Pairwise λx y=>x.2<y.2):(Bw (cN c) l).Pairwise (Ah c):=by
 induction l with
 |nil=>exact .nil
 |cons x r ih=>obtain⟨h1,h2⟩:=iq.1 hl;exact Zlt h (ih h2) λy hy=>h1 y ((FK r).mem_iff.1 hy)
def Jn{β:Type}{R:β->β->Prop}(hn:∀x y,R x y-> ¬R y x):∀{l m:List β},l.Pairwise R->m.Pairwise R->l.Perm m->l=m
 | [],m,_,_,hp=>(List.nil_perm.1 hp).H
 |x::r,[],_,_,hp=>(List.perm_nil.1 hp)
 |x::r,y::s,h1,h2,hp=>by
  obtain⟨a1,a2⟩:=iq.1 h1;obtain⟨b1,b2⟩:=iq.1 h2;have e:x=y:=by
   rcases gj.1 (hp.mem_iff.1 (.head _))with e|hx
   .exact e
   .rcases gj.1 (hp.mem_iff.2 (kg (a:=y) (l:=s)))with e|hy
    .exact e.H
    .exact fu (b1 x hx) (hn _ _ (a1 y hy))
  subst e;rw[Jn hn a2 b2 (List.perm_cons x |>.1 hp)]
def Zlv(h:vv c){l:List α}{m:List (α×Nat)}(hp:m.Perm (Eu 0 l))(hs:m.Pairwise (Ah c)):m.map Prod.fst=Bw c l:=by have:=Jn (λx y h1=>Ah.not h h1) hs (Xk h (Ra 0 l)) (hp.Z (FK _).H);rw[this,Xi,QZ]
def Zlw(h:vv c)(l:List α):(Bw c l).Pairwise λx y=>c x y<=0:=by have:=Xk h (Ra 0 l);have e:=Xi (c:=c) (Eu 0 l);rw[QZ]at e;rw[<-e,iv];refine this.imp λ{x y} h=>?_;rcases h with h|h<;>omega
end
def sg{α:Type}(z:List α)(i n:Nat):List α:=(z.drop i).take n
def WQ{α:Type}(z:List α)(i n:Nat):z=z.take i++sg z i n++z.drop (i+n):=by unfold sg;rw[fh,<-lh,gk,gk]
def Fa{α:Type}{A M B:List α}(h:i+n<=A.length):sg (A++M++B) i n=sg A i n:=by unfold sg;rw[fh,mj oM,nj (by rw[gq];omega)]
def RL{α:Type}{A M B:List α}(h:A.length=i)(hn:M.length=n):sg (A++M++B) i n=M:=by subst h;subst hn;unfold sg;rw[fh,List.drop_left,pf]
def RK{α:Type}{A M:List α}(h:A.length=i)(hn:M.length<=n):sg (A++M) i n=M:=by subst h;unfold sg;rw[List.drop_left,ia hn]
def H6{α:Type}{z:List α}(h:z.length<=i):sg z i n=[]:=by unfold sg;rw[kl h];simp
def OD{α:Type}{z:List α}(h:i+n<=z.length):(sg z i n).length=n:=by unfold sg;rw[fk,gq];omega
def RJ{α:Type}{z:List α}{m:Nat}:sg z i (n+m)=sg z i n++sg z (i+n) m:=by unfold sg;rw[List.take_add,lh]
def WP{α:Type}{z:List α}{x:α}(h:x∈sg z i n):∃j,∃hj:j<z.length,i<=j/\j<i+n/\z[j]=x:=by obtain⟨k,hk,rfl⟩:=gh.1 h;unfold sg at hk ⊢;rw[fk,gq]at hk;exact⟨i+k,oM,oM,oM,by rw[kf,li]⟩
structure ý{α:Type}(c:α->α->Int)(n:Nat)(z z0:List (α×Nat))(k:Nat):Prop where
 perm:∀i<k,(sg z (i*n) n).Perm (sg z0 (i*n) n)
 sort:∀i<k,(sg z (i*n) n).Pairwise (Ah c)
def Oa{j:Nat}(h:i+j<9223372036854775808):Go.IntKind.wrap .i64 (Int.fdiv (Go.IntKind.wrap .u64 (Aa ((i:Int)+(j:Int)))) (2 ^ 1))=(((i+j)/2:Nat):Int):=by
 rw[Ai oM oM];have e1:Go.IntKind.wrap .u64 ((i:Int)+(j:Int))=(i:Int)+(j:Int):=by simp only[Go.IntKind.wrap,Go.IntKind.bits,Go.IntKind.signed,Bool.false_and,ni,if_false];omega
 rw[e1];have e2:Int.fdiv ((i:Int)+(j:Int)) (2 ^ 1)=(((i+j)/2:Nat):Int):=by rw[Int.fdiv_eq_ediv_of_nonneg _ dC];omega
 rw[e2];exact Ai oM oM
end Go.Hal
namespace Go.Hal
def CO{α β:Type}{k:Nat}(f:α->List β)(hk:∀x,(f x).length=k)(l:List α):((l.map f).flatten).length=l.length*k:=by
 induction l with
 |nil=>simp
 |cons a l ih=>simp[ih,hk,lj,Nat.add_comm]
def tm{α:Type}(f:α->LV)(w:Qd)(g:Nat)(l:List α)(tail:LV):Prop:=AT w ⟨g,0,none⟩ ((l.map f).flatten++tail)
section
variable {α:Type} {f:α->LV} {k:Nat} {w w':Qd} {g:Nat} {l:List α} {tail:LV}
def tm.U(h:tm f w g l tail)(hx:AI w w'):tm f w' g l tail:=AT.U h hx
def tm.lt(h:tm f w g l tail):g<w.heap.size:=AT.lt h
def tm.J{b:Nat}(h:tm f w g l tail)(hb:ur b w w')(a0:g≠b):tm f w' g l tail:=hb.box h a0
def Ky(i:Nat)(hi:i<l.length)(tail:LV):
  (l.map f).flatten++tail=(((l.take i).map f).flatten)++f l[i]++(((l.drop (i+1)).map f).flatten++tail):=by
 have h:l=l.take i++l[i]::l.drop (i+1):=by rw[<-gp hi,gk]
 have h2:(l.map f).flatten=((l.take i).map f).flatten++(f l[i]++((l.drop (i+1)).map f).flatten):=by
  conv=>lhs;rw[h]
  rw[gd,gu,kw,js]
 rw[h2];simp only[fh]
def Q5(hk:∀x,(f x).length=k)(hi:i<l.length):(((l.take i).map f).flatten).length=i*k:=by rw[CO f hk,fk,ky oM]
def tm.ld(hk:∀x,(f x).length=k)(h:tm f w g l tail)(hi:i<l.length):se w ((⟨g,0,none⟩:LP).add (i*k)) (f l[i]):=by refine AT.at1 h xR (r:=((l.drop (i+1)).map f).flatten++tail) ?_;have hl:=Q5 hk hi;rw[Ky i hi,fh,mj (by rw[hl];exact ga _),kl (by rw[hl];exact ga _),iz]
def tm.Ě(hk:∀x,(f x).length=k)(h:tm f w g l tail){x:α}(hi:l[i]?=some x):se w ((⟨g,0,none⟩:LP).add (i*k)) (f x):=by obtain⟨h1,rfl⟩:=ec.1 hi;exact h.ld hk h1
def tm.st(hk:∀x,(f x).length=k)(h:tm f w g l tail)(hi:i<l.length){x:α}{K:Wp}(hK:∀w',ur g w w'->tm f w' g (l.set i x) tail->K w'):rp w ((⟨g,0,none⟩:LP).add (i*k)) (f x) K:=by
 have a0:=Q5 hk hi;have e:=Ky (f:=f) i hi tail;refine rp.intro (o:=i*k) (tf:=(l.map f).flatten++tail) h (by rw[e,hk];simp only[dx,a0,hk];omega) λw' hb hs hx=>hK w' hb ?_;have e2:=Ky (f:=f) (l:=l.set i x) i (by simpa using hi) tail;have e3:((l.map f).flatten++tail).take (i*k)++f x++((l.map f).flatten++tail).drop (i*k+(f x).length)=((l.set i x).map f).flatten++tail:=by
  rw[e2,e,hk];have t1:(((l.take i).map f).flatten++f l[i]++(((l.drop (i+1)).map f).flatten++tail)).take (i*k)=((l.take i).map f).flatten:=by rw[fh,nj (by rw[a0];exact ga _),ia (by rw[a0];exact ga _)]
  have t2:(((l.take i).map f).flatten++f l[i]++(((l.drop (i+1)).map f).flatten++tail)).drop (i*k+k)=((l.drop (i+1)).map f).flatten++tail:=by rw[mj (by simp only[dx,a0,hk];omega),kl (by simp only[dx,a0,hk];omega),iz]
  have t3:(l.set i x).take i=l.take i:=by rw[qa nR]
  have t4:(l.set i x).drop (i+1)=l.drop (i+1):=by rw[qc oM]
  rw[t1,t2,t3,t4,pb]
 unfold tm;rwa [<-e3]
end
def Xu{α:Type}(A B:List α)(y x:α):((A++y::x::B).set (A.length+1) y).set A.length x=A++x::y::B:=by simp[List.set_append]
def Zl9{α:Type}(A B:List α)(y x:α):((A++y::x::B).set A.length x).set (A.length+1) y=A++x::y::B:=by simp[List.set_append]
def Zma{α:Type}(A B C:List α)(x y:α):((A++x::(B++y::C)).set A.length y).set (A.length+1+B.length) x=A++y::(B++x::C):=by rw[qp _ _ nR,po,List.set_cons_zero,qp _ _ oM];rw[show A.length+1+B.length - A.length=B.length+1 by omega,List.set_cons_succ,qp _ _ nR,po,List.set_cons_zero]
def Zdr{α:Type}(A B:List α)(y:α):(A++y::B)[A.length]?=some y:=by simp
def Zds{α:Type}(A B:List α)(y x:α):(A++y::x::B)[A.length+1]?=some x:=by simp
def Iz{α:Type}{A B:List α}{y:α}(h:A.length=n):(A++y::B)[n]?=some y:=by subst h;exact Zdr A B y
def NW{α:Type}{A B:List α}{y x:α}(h:A.length+1=n):(A++y::x::B)[n]?=some x:=by subst h;exact Zds A B y x
def ur.ext'(h:ur g w0 w)(hx:AI w w'):ur g w0 w':=h.Z (hx.J g)
section
open Classical
noncomputable def IF (p:Nat->Prop):Nat:=if h:∃n,p n/\∀m,p m->n<=m then h.choose else 0
def Zfo{p:Nat->Prop}:∀n,p n->∃n,p n/\∀m,p m->n<=m:=λn=>by
 induction n using Nat.strongRecOn with
 |_ n ih=>
  intro h;by_cases hm:∃m,m<n/\p m
  .obtain⟨m,h1,h2⟩:=hm;exact ih m h1 h2
  .exact⟨n,h,λm h2=>by
    obtain h3|h3:=pp m n
    .exact fu ⟨m,h3,h2⟩ hm
    .exact h3⟩
def IG{p:Nat->Prop}(h:p n):p (IF p)/\∀m,p m->IF p<=m:=by have hx:=Zfo n h;unfold IF;rw[dif_pos hx];exact hx.choose_spec
end
def rn.Î{α:Type}{a:α}{body:α->Qd->(α->Wp)->Prop}(J:Nat->α->Wp)(n:Nat)(h0:J n a w)
  (hs:∀n a w a0,J n a w->(∀m a' w',m<n->J m a' w'->a0 a' w')->body a w a0):rn a w body:=
 ⟨λa w=>∃n,J n a w,λa w=>IF λn=>J n a w,⟨n,h0⟩,λa w ⟨n,h⟩=>hs _ a w _ (IG (p:=λn=>J n a w) h).1 λm a' w' hm hJ=>⟨⟨m,hJ⟩,oq ((IG (p:=λn=>J n a' w') hJ).2 m hJ) hm⟩⟩
def Ï.Î{α β γ:Type}{a:α}{b:β}{c:γ}{body:α->β->γ->Qd->(α->β->γ->Wp)->Prop}(J:Nat->α->β->γ->Wp)(n:Nat)(h0:J n a b c w)
  (hs:∀n a b c w a0,J n a b c w->(∀m a' b' c' w',m<n->J m a' b' c' w'->a0 a' b' c' w')->body a b c w a0):Ï a b c w body:=
 ⟨λa b c w=>∃n,J n a b c w,λa b c w=>IF λn=>J n a b c w,⟨n,h0⟩,λa b c w ⟨n,h⟩=>hs _ a b c w _ (IG (p:=λn=>J n a b c w) h).1 λm a' b' c' w' hm hJ=>⟨⟨m,hJ⟩,oq ((IG (p:=λn=>J n a' b' c' w') hJ).2 m hJ) hm⟩⟩
def No.named{τ:Sort _}{g:Bool}{k:τ}{A B:τ->Prop}(h:∀J,J=k->(g=true->A J)/\(g=false->B J)):No g k A B:=h k rfl
def rl.J{α:Type}{E:xh α}{T:LN}{l:List α}(h:rl E T w lo S s l)(hb:ur g w w')(hS: ¬S g)(hg:∀ad,s.a=some ad->g≠ad.block):rl E T w' lo S s l:=
 h.ry hb.1 λb a4 a0=>hb.2.2.2.2 b a4 (by
  rcases a0 with a0|⟨ad,ha,rfl⟩
  .rintro rfl;exact hS a0
  .exact Ne.H (hg ad ha))
def rl.Xbs{α β:Type}{E:xh α}{T:LN}{l:List α}(f:β->LV)(r:β->α->Prop)(hf:∀x cs,E.rep w S x cs->∃y,cs=f y/\r y x)(h:rl E T w lo S s l):
  (s=Sl.nil/\l=[])\/∃(g:Nat) (z:List (β×α)) (tail:LV),s.a=some ⟨g,0,none⟩/\lo<=g/\z.map Prod.snd=l/\(∀p∈z,r p.1 p.2)/\tm f w g (z.map Prod.fst) tail/\l.length<=s.cap/\s.cap<=maxLen:=by
 obtain⟨css,ho,hl,hr⟩:=h.row;rcases ho.2 with⟨hv,hn⟩|⟨g,cap,a0,hv,a5,hh,hc,hm,a7,ht⟩
 .left;have h0:l=[]:=fq (by rwa [<-h.len]);refine⟨?_,h0⟩;obtain⟨a,n,c⟩:=s;simp only[Sl.v,Value.slice.injEq]at hv;obtain⟨rfl,rfl,rfl⟩:=hv;rfl
 .right;have hz:∀(css:List (List HT)) (l:List α),css.length=l.length->(∀(i:Nat)(x:α),l[i]?=some x->∃cs,css[i]?=some cs/\E.rep w S x cs)->∃z:List (β×α),z.map Prod.snd=l/\(∀p∈z,r p.1 p.2)/\(z.map Prod.fst).map f=css:=by
   intro css;induction css with
   |nil=>intro l hl _;exact⟨[],(fq hl.H).H,by simp,rfl⟩
   |cons c css ih=>
    intro l hl hr;cases l with
    |nil=>cases hl
    |cons x l=>
     obtain⟨cs,h1,h2⟩:=hr 0 x rfl;simp only[jr,ff]at h1;subst h1;obtain⟨y,hy,a6⟩:=hf x _ h2;obtain⟨z,k1,k2,k3⟩:=ih l (by simpa using hl) λi x hx=>hr (i+1) x hx;refine⟨(y,x)::z,by simp[k1],λp hp=>?_,by simp only[gu,k3,hy]⟩;obtain rfl|hp:=gj.1 hp
     .exact a6
     .exact k2 p hp
  obtain⟨z,k1,k2,k3⟩:=hz css l hl hr;simp only[Sl.v,Value.slice.injEq]at hv;obtain⟨ha,_,a4⟩:=hv;refine⟨g,z,a0.toList.drop (css.flatten).length,ha,a5,k1,k2,⟨T,rfl,rfl,?_⟩,by rw[a4];simpa[h.len]using hc,by rwa [a4]⟩;rw[k3];have e:css.flatten++a0.toList.drop css.flatten.length=a0.toList:=by
   have:css.flatten=a0.toList.take css.flatten.length:=by rw[<-ht];simp
   conv=>lhs;lhs;rw[this]
   exact gk _ _
  rw[e];simpa using hh
def tm.I{α β:Type}{E:xh α}{cap:Nat}{f:β->LV}{z:List (β×α)}{tail:LV}(h:tm f w g (z.map Prod.fst) tail)(hk:∀x,(f x).length=E.n)(hr:∀p∈z,E.rep w S p.2 (f p.1))(hc:z.length<=cap)(hm:cap<=maxLen)(hb:z.length*E.bytes<=Ab):
  IT E w (λb=>S b\/b=g) ⟨some ⟨g,0,none⟩,z.length,cap⟩ (z.map Prod.snd):=by
 refine⟨by simp,by simpa using hc,hm,by simpa using hb,.inr ⟨⟨g,0,none⟩,rfl,.inr rfl,λi x hx=>?_⟩⟩;rw[gc]at hx;cases hz:z[i]? with
 |none=>rw[hz]at hx;cases hx
 |some p=>rw[hz]at hx;simp only[ir,ff]at hx;subst hx;exact⟨f p.1,E.O (hr p (fx hz)) λ_ h=>.inl h,h.Ě hk (by rw[gc,hz];rfl)⟩
section
variable {α:Type} {E:xh α} {T:LN} {w w':Qd} {lo:Nat} {S S':Nat->Prop} {s:Sl} {l:List α}
def WL{w:Qd}{S:Nat->Prop}:∀(l:List α)(ad:LP),(∀(i:Nat)(x:α),l[i]?=some x->∃cs,E.rep w S x cs/\se w (ad.add (i*E.n)) cs)->
  ∃css:List (List HT),css.length=l.length/\(∀(i:Nat)(x:α),l[i]?=some x->∃cs,css[i]?=some cs/\E.rep w S x cs)/\se w ad css.flatten/\css.flatten.length=l.length*E.n
 | [],ad,_=>⟨[],rfl,λi x h=>by simp at h,λj v h=>by simp at h,by simp⟩
 |x::r,ad,h=>by
  obtain⟨cs,h1,h2⟩:=h 0 x rfl;obtain⟨css,h3,h4,h5,h6⟩:=WL r (ad.add E.n) λi y hi=>by obtain⟨cs,a,b⟩:=h (i+1) y (by simpa using hi);refine⟨cs,a,?_⟩;rwa [Dl,show E.n+i*E.n=(i+1)*E.n by rw[lj];omega]
  have hl:=E.len h1;refine⟨cs::css,by simp[h3],λi y hi=>?_,λj v hj=>?_,by rw[js,dx,hl,h6,gb,lj];omega⟩
  .cases i with
   |zero=>simp at hi;subst hi;exact⟨cs,rfl,h1⟩
   |succ i=>obtain⟨c,a,b⟩:=h4 i y (by simpa using hi);exact⟨c,by simpa using a,b⟩
  .rw[js]at hj;by_cases a0:j<cs.length
   .rw[fy a0]at hj;have:=h2 j v hj;rw[mw]at this;exact this
   .rw[ic oM]at hj;have:=h5 (j - cs.length) v hj;rw[Dl,show E.n+(j - cs.length)=j by omega]at this;exact this
def Zkf{l:List α}{css:List (List HT)}(hl:css.length=l.length)(hr:∀(i:Nat)(x:α),l[i]?=some x->∃cs,css[i]?=some cs/\E.rep w S x cs):∀u∈css.flatten,u.oneCell'=true:=by
 intro u hu;obtain⟨cs,a0,a5⟩:=List.mem_flatten.1 hu;obtain⟨k,hk,he⟩:=gh.1 a0;have a4:k<l.length:=by rwa [<-hl]
 obtain⟨a6,h3,h4⟩:=hr k _ (dw a4);rw[dw hk,he,ff]at h3;subst h3;exact E.one h4 u a5
def rl.zj{e:LN}{k:Sl->Wp}{x:Sl}{m:List α}(h:rl E e w lo S s l)(hT:Bz P t e E.n E.bytes)(d8:lo<=w.heap.size)(hx:IT E w S' x m)(b5:∀b,S' b->b<w.heap.size)(b6:∀ad,s.a=some ad-> ¬S' ad.block)
  (hb:(l.length+m.length)*E.bytes<=Ab) (hm:l.length+m.length<=maxLen)
  (hk:∀(r:Sl)(w':Qd),rl E e w' lo (λb=>S b\/S' b) r (l++m)->Below lo w w'->(∀b,b<w.heap.size->(∀ad,s.a=some ad->b≠ad.block)->w'.heap[b]?=w.heap[b]?)->(∀ad,r.a=some ad->(s.a=some ad\/w.heap.size<=ad.block))->k r w'):ue P t t s x.v w k:=by
 intro ty;obtain⟨css,ho,hl,hr⟩:=h.row;obtain⟨ht,i,z,hi,hz,b0,d4,e4,e0⟩:=hT;have c9:=h.len;cases hxa:x.a with
 |none=>
  have d9:m=[]:=by
   rcases hx.2.2.2.2 with h0|⟨ad,h1,_⟩
   .exact h0
   .rw[hxa]at h1;cases h1
  subst d9;have c8:x.len=0:=hx.1;have a9:(Builtin.append_ #[t,t] ty #[s.v,x.v]).run P w= .ok s.v w:=by
   have c3:x.v= .slice none 0 x.cap:=(by unfold Sl.v;rw[hxa,c8]);rw[c3];rcases ho.2 with⟨hv,_⟩|⟨g,cap,c5,hv,_,_,e1,_⟩
   .rw[hv];simp[Builtin.append_,run_underlying ht,sizeOf,typeInfo,hi,Builtin.lenOf,Builtin.firstCells]
   .rw[hv];simp[Builtin.append_,run_underlying ht,sizeOf,typeInfo,hi,Builtin.lenOf,Builtin.firstCells,e1,storeCells]
  refine⟨_,w,a9,s,rfl,hk s w ?_ (Below.refl _ _) (λ_ _ _=>rfl) λad ha=>.inl ha⟩;rw[gz];refine h.O (λ_ h=>.inl h) (λb hb=>?_) λad ha hb=>?_
  .obtain hb|hb:=hb
   .exact h.lt b hb
   .exact b5 b hb
  .obtain hb|hb:=hb
   .exact h.apart ad ha hb
   .exact b6 ad ha hb
 |some ad=>
  have b9:∀(i:Nat)(y:α),m[i]?=some y->∃cs,E.rep w S' y cs/\se w (ad.add (i*E.n)) cs:=by intro i y hi;obtain⟨d3,cs,h1,h2,h3,h4⟩:=hx.get hi;rw[hxa,ff]at h1;subst h1;exact⟨cs,h3,h4⟩
  obtain⟨c4,c7,d1,d5,d6⟩:=WL m ad b9;have c3:x.v= .slice (some ad) m.length x.cap:=by unfold Sl.v;rw[hxa,hx.1]
  obtain⟨v',w',a9,a4,a5,c6⟩:=T4 (P:=P) (ty:=ty) (m:=m.length) (c:=x.cap) ht hi hz (by rwa [b0]) (by rwa [b0]) (by rwa [b0]) (by rwa [b0]) (λj u hj=>d5 j u hj) (Zkf c7 d1) oM (by rwa [c9,d4]) d8;rw[b0]at a4;have e3:∃r:Sl,v'=r.v/\r.len=s.len+m.length:=by
   rcases a4.2 with⟨hv,hn⟩|⟨g,cap,c5,hv,_⟩
   .exact⟨⟨none,0,0⟩,hv,hn.H⟩
   .exact⟨⟨_,_,_⟩,hv,rfl⟩
  obtain⟨r,rfl,d2⟩:=e3;have b2:∀ad,r.a=some ad->(s.a=some ad\/w.heap.size<=ad.block):=by
   intro ad a6;have h2:ad=⟨ad.block,0,none⟩:=by
    rcases a4.2 with⟨hv,_⟩|⟨g,cap,c5,hv,_⟩
    .simp[Sl.v,a6]at hv
    .simp[Sl.v,a6]at hv;rw[hv.1]
   have d0:r.v.ownBlock=some ad.block:=(by simp[Value.ownBlock,Sl.v,a6]);obtain hb|hb:=c6
   .left;rw[d0]at hb;cases hsa:s.a with
    |none=>simp[Value.ownBlock,Sl.v,hsa]at hb
    |some d3=>simp[Value.ownBlock,Sl.v,hsa]at hb;have:=(h.block hsa).2.2;rw[this,<-hb,<-h2]
   .right;rw[d0,ff]at hb;omega
  have a8:∀b,b<w.heap.size->(∀ad,s.a=some ad->b≠ad.block)->w'.heap[b]?=w.heap[b]? :=by
   intro b b7 e2;refine a5.block b b7 ?_;simp only[Value.ownBlock,Sl.v];cases hsa:s.a with
   |none=>simp
   |some ad=>simp only[ne_eq,ff];exact e2 ad hsa
  rw[c3];refine⟨_,w',a9,r,rfl,hk r w' ?_ ⟨a5.os,a5.tape,a5.output,a5.size,λb hb=>a8 b oM λad ha e=>by have:=(h.block ha).1;omega⟩ a8 b2⟩;have a7:∀b,b<w.heap.size->(S b\/S' b)->w'.heap[b]?=w.heap[b]? :=λb b7 a0=>a8 b b7 λad ha e=>by
   subst e;obtain a0|a0:=a0
   .exact h.apart _ ha a0
   .exact b6 _ ha a0
  refine⟨⟨css++c4,?_,by simp[hl,c7],λj y hj=>?_⟩,by simp[d2,c9],λb a0=>?_,λad a6 a0=>?_⟩
  .rwa [d2,kw]
  .rw[nr]at hj;split at hj
   .rename_i d7;obtain⟨b4,h1,h2⟩:=hr j y hj;exact⟨b4,by rwa [fy oM],E.ry (E.O h2 λ_ h=>.inl h) λb hb b8=>a7 b b8 hb⟩
   .rename_i d7;obtain⟨b4,h1,h2⟩:=d1 (j - l.length) y hj;exact⟨b4,by rwa [ic oM,hl],E.ry (E.O h2 λ_ h=>.inr h) λb hb b8=>a7 b b8 hb⟩
  .have:b<w.heap.size:=by
    obtain a0|a0:=a0
    .exact h.lt b a0
    .exact b5 b a0
   have:=a5.size;omega
  .obtain h1|h1:=b2 ad a6
   .obtain a0|a0:=a0
    .exact h.apart ad h1 a0
    .exact b6 ad h1 a0
   .have:ad.block<w.heap.size:=by
     obtain a0|a0:=a0
     .exact h.lt _ a0
     .exact b5 _ a0
    omega
end
def zn{α:Type}(E:xh α)(w:Qd)(S:Nat->Prop)(s:Sl)(l:List α):Prop:=
 IT E w S s l/\(l=[]\/∃g cur t,s.a=some ⟨g,0,none⟩/\S g/\w.heap[g]?=some (.cells cur t (0,0))/\l.length*E.n<=cur.size)
section
variable {α:Type} {E:xh α} {w w':Qd} {S S':Nat->Prop} {s:Sl} {l:List α}
def zn.O(h:zn E w S s l)(hs:∀b,S b->S' b):zn E w S' s l:=⟨h.1.O hs,h.2.imp id λ⟨g,a0,t,a,b,c,d⟩=>⟨g,a0,t,a,hs _ b,c,d⟩⟩
def zn.ry(h:zn E w S s l)(hk:ä S w w'):zn E w' S s l:=⟨h.1.ry hk,h.2.imp id λ⟨g,a0,t,a,b,c,d⟩=>⟨g,a0,t,a,b,(hk g b (lt_of_block c)).Z c,d⟩⟩
def zn.U(h:zn E w S s l)(hx:AI w w'):zn E w' S s l:=h.ry (hx.ry S)
def zn.J(h:zn E w S s l)(hb:ur g w w')(hn: ¬S g):zn E w' S s l:=h.ry (hb.ry hn)
def zn.nil:zn E w S Sl.nil ([]:List α):=⟨IT.nil trivial,.inl rfl⟩
def zn.py(hf:∀{w S S' x cs},E.rep w S x cs->E.rep w S' x cs)(h:zn E w S s l):zn E w (λb=>S b/\b<w.heap.size) s l:=by
 obtain⟨⟨h1,h2,h3,h4,h5⟩,h6⟩:=h;rcases h6 with h6|⟨g,a0,t,a,b,c,d⟩
 .exact⟨⟨h1,h2,h3,h4,.inl h6⟩,.inl h6⟩
 .refine⟨⟨h1,h2,h3,h4,h5.imp id λ⟨ad,k1,k2,k3⟩=>⟨ad,k1,⟨k2,?_⟩,λi x hx=>let⟨cs,e1,e2⟩:=k3 i x hx;⟨cs,hf e1,e2⟩⟩⟩,.inr ⟨g,a0,t,a,⟨b,lt_of_block c⟩,c,d⟩⟩;rw[a,ff]at k1;subst k1;exact lt_of_block c
def rl.Xbf{T:LN}(h:rl E T w lo S s l)(hb:l.length*E.bytes<=Ab)(hm:l.length<=maxLen):zn E w (λb=>S b\/∃ad,s.a=some ad/\b=ad.block) s l:=by
 refine⟨h.I hb hm,?_⟩;obtain⟨css,ho,hl,hr⟩:=h.row;rcases ho.2 with⟨hv,hn⟩|⟨g,cap,a0,hv,hg,hh,hc,a6,a4,ht⟩
 .exact .inl (fq (by rwa [<-h.len]))
 .simp[Sl.v]at hv;obtain⟨ha,a5⟩:=hv;refine .inr ⟨g,a0,T,ha,.inr ⟨_,ha,rfl⟩,hh,?_⟩;rw[a4,<-h.len];exact je _ hc
end
def zx:xh uf where
 n:=2
 bytes:=40
 rep:=λw S d cs=>Ac d.Y/\∃s,cs= [.string d.Y,s.v]/\zn ui w S s d.range
 len:=λ⟨_,s,h,_⟩=>by rw[h];rfl
 one:=λ⟨_,s,h,_⟩ v hv=>by rw[h]at hv;simp[Sl.v]at hv;rcases hv with rfl|rfl<;>rfl
 O:=λ⟨h0,s,h,hr⟩ hs=>⟨h0,s,h,hr.O hs⟩
 ry:=λ⟨h0,s,h,hr⟩ hk=>⟨h0,s,h,hr.ry hk⟩
def Į:xh uu where
 n:=3
 bytes:=48
 rep:=λw S d cs=>Ac d.Y/\∃s,cs= [.string d.Y,vi d.ss,s.v]/\zn ui w S s d.range
 len:=λ⟨_,s,h,_⟩=>by rw[h];rfl
 one:=λ⟨_,s,h,_⟩ v hv=>by rw[h]at hv;simp[Sl.v]at hv;rcases hv with rfl|rfl|rfl<;>rfl
 O:=λ⟨h0,s,h,hr⟩ hs=>⟨h0,s,h,hr.O hs⟩
 ry:=λ⟨h0,s,h,hr⟩ hk=>⟨h0,s,h,hr.ry hk⟩
def IT.conv{α:Type}{E F:xh α}{l:List α}(h:IT E w S s l)(hn:E.n=F.n)(hb:E.bytes=F.bytes)(hr:∀x∈l,∀cs,E.rep w S x cs->F.rep w S x cs):IT F w S s l:=
 ⟨h.1,h.2.1,h.2.2.1,by rw[<-hb];exact h.2.2.2.1,h.2.2.2.2.imp id λ⟨ad,a,b,c⟩=>⟨ad,a,b,λi x hx=>let⟨cs,k1,k2⟩:=c i x hx;⟨cs,hr x (fx hx) cs k1,by rwa [<-hn]⟩⟩⟩
def zn.dep{l:Ι}(h:zn zx w S s l):IT rq w S s l:=h.1.conv rfl rfl λx _ cs ⟨h0,s,h1,h2⟩=>⟨h0,s,h1,h2.1⟩
end Go.Hal
namespace Go.Hal
open Go.ChangeShapes Go.WideShapes Go.ChangeAt
def į(W:Qd):Nat->Prop:=λb=>b<W.heap.size
def į.tf(W:Qd):Old (į W) W:=λ_ h=>h
section
variable {H:Type} {enc:LN×HT->H} {P:LD} {W:Qd}
def small(l:Α):Prop:=l.all (λx=>decide (x<=reachBytes))=true
def Sd{a b:Α}:small (a++b)↔small a/\small b:=by unfold small;rw[qy,ep]
def Zk4{a:Nat}{b:Α}:small (a::b)↔a<=reachBytes/\small b:=by unfold small;rw[oe,ep,fp]
abbrev Tr(enc:LN×HT->H)(P:LD)(W:Qd)(n:Nat)(t:LN)(cs:LV)(x:DataW H×List MemPlace):Prop:=DataW.trod enc P W 0 (λ_=>true) true n t cs=some x
def Rd(H:Type)(P:LD)(W:Qd){α:Type}(E:xh α)(t:LN):Prop:=∀(enc:LN×HT->H) n cs x,Tr enc P W n t cs x->small (x.1.weights P t)->∃y,E.rep W (į W) y cs
def JA(H:Type)(P:LD)(W:Qd){α:Type}(E:xh α)(t:LN):Prop:=∀(enc:LN×HT->H) n cs x,Tr enc P W n t cs x->small (x.1.weights P t)->∃(s:Sl) (l:List α),cs= [s.v]/\IT E W (į W) s l/\l.length*E.bytes<=reachBytes
def Zn2{e:LN}{l:List (DataW H)}(h:small (DataW.weightsAll P e l)){d:DataW H}(hd:d∈l):small (d.weights P e):=by
 induction l with
 |nil=>cases hd
 |cons a r ih=>
  simp only[DataW.weightsAll]at h;obtain⟨h1,h2⟩:=Sd.1 h;obtain rfl|hd:=gj.1 hd
  .exact h1
  .exact ih h2 hd
def SG:∀{ts:List LN} {ds:List (DataW H)},small (DataW.weightsEach P ts ds)->∀{i:Nat} {t:LN} {d:DataW H},ts[i]?=some t->ds[i]?=some d->small (d.weights P t)
 | [],_,_,i,t,d,h1,_=>by simp at h1
 |_::_,[],_,i,t,d,_,h2=>by simp at h2
 |a::ts,b::ds,h,i,t,d,h1,h2=>by
  simp only[DataW.weightsEach]at h;obtain⟨k1,k2⟩:=Sd.1 h;cases i with
  |zero=>simp only[jr,ff]at h1 h2;subst h1;subst h2;exact k1
  |succ i=>exact SG k2 (i:=i) (by simpa using h1) (by simpa using h2)
def O6{α:Type}{E:xh α}{e:LN}(ht:P.underlying t=some (.slice e))(hc:P.cellsOf e=E.n)(hb:P.bytesOf e=E.bytes)(hn:0<E.n)(hE:Rd H P W E e):JA H P W E t:=by
 intro enc n cs x h hw;rcases Go.Deep.open_slice ht h with⟨rfl,rfl⟩|⟨a,len,cap,m,n',D,Pl,rfl,_,b4,b2,hm,rfl,a7⟩
 .exact⟨Sl.nil,[],rfl,IT.nil trivial,by simp[reachBytes]⟩
 .simp only[if_true]at hm;obtain rfl:cap=m:=hm.H;simp only[DataW.weights,ht]at hw;obtain⟨a9,b5⟩:=Zk4.1 hw;obtain⟨b6,_⟩:=Sd.1 b5;rw[hc]at a7;have a8:∀i,i<len->∃y a0,E.rep W (į W) y a0/\Go.Hal.se W (a.add (i*E.n)) a0:=λi hi=>by obtain⟨a0,h1,h2⟩:=a7 i oM;obtain⟨_,b7,a5⟩:=World.cells?_some h1;obtain⟨y,hy⟩:=hE enc n' a0 _ h2 (Zn2 b6 (ix (ly.2 hi)));exact⟨y,a0,hy,λj v hj=>by have b8:=(ec.1 hj).1;exact(a5 j oM).Z hj⟩
  have a6:∀k,k<=len->∃l:List α,l.length=k/\∀(i:Nat)(y:α),l[i]?=some y->∃a0,E.rep W (į W) y a0/\Go.Hal.se W (a.add (i*E.n)) a0:=λk=>by
   induction k with
   |zero=>intro _;exact⟨[],rfl,by simp⟩
   |succ k ih=>
    intro hk;obtain⟨l,hl,hr⟩:=ih oM;obtain⟨y,a0,h1,h2⟩:=a8 k oM;refine⟨l++[y],by simp[hl],λi z hz=>?_⟩;rw[nr]at hz;split at hz
    .exact hr i z hz
    .rename_i hi;have:i=k:=by have:=(ec.1 hz).1;simp at this;omega
     subst this;simp[hl]at hz;subst hz;exact⟨a0,h1,h2⟩
  obtain⟨l,hl,hr⟩:=a6 len nR;have a4:l.length*E.bytes<=reachBytes:=by refine fl (je _ (show l.length<=((List.range len).map D).length+((List.range (cap - len)).map λj=>D (len+j)).length by simp[hl])) ?_;rw[hb]at a9;exact a9
  refine⟨⟨some a,len,cap⟩,l,rfl,⟨hl.H,by rwa [hl],b2,by unfold Ab;unfold reachBytes at a4;omega,?_⟩,a4⟩;obtain h0|h0:=ka len
  .left;exact fq oM
  .right;refine⟨a,rfl,?_,hr⟩;obtain⟨y,hy⟩:∃y,l[0]?=some y:=⟨_,dw oM⟩;obtain⟨a0,h1,h2⟩:=hr 0 y hy;have b9:=E.len h1;have b0:=h2 0 a0[0] (dw oM);have:=World.block_lt_of_cell? W _ b0;rw[CY,CY]at this;exact this
def B9{fs:Array Field}{x:DataW H×List MemPlace}(ht:P.underlying t=some (.struct fs))(h:Tr enc P W n t cs x)(hw:small (x.1.weights P t))(i ft off c:Nat)(hf:∃f,fs[i]?=some f/\f.type=ft/\f.offset=off)(hc:P.cellsOf ft=c):
  ∃y m,Tr enc P W m ft ((cs.drop off).take c) y/\small (y.1.weights P ft):=by
 obtain⟨f,hf,rfl,rfl⟩:=hf;subst hc;obtain⟨xs,m,_,rfl,_,a0,a4⟩:=DataW.trod_struct ht h;have hi:i<xs.length:=by rw[a0];exact(fg.1 hf).1
 have h1:=a4 i f hf;rw[dw hi]at h1;refine⟨xs[i],m,h1,?_⟩;simp only[DataW.weights,ht]at hw;exact SG hw (i:=i) (by simp[hf]) (by simp[dw hi])
def H1{fs:Array Field}{x:DataW H×List MemPlace}(ht:P.underlying t=some (.struct fs))(h:Tr enc P W n t cs x):cs.length=P.cellsOf t:=by obtain⟨xs,m,_,_,hl,_⟩:=DataW.trod_struct ht h;exact hl
def XG(hl:laidOutB P=true){W':Qd}(hb:Below W.heap.size W W'):∀{ts:List LN} {vs:LV} {ds:List (DataW H)} {ps:List MemPlace},(∀t∈ts,P.readableRec t=true/\t<P.types.size)->(∀x∈ps,x.block<W.heap.size)->
  DataW.TrodAll enc P W 0 (λ_=>true) true ts vs ds ps->DataW.TrodAll enc P W' 0 (λb=>decide (b<W.heap.size)) true ts vs ds ps
 | [],vs,ds,ps,_,_,h=>by obtain⟨rfl,rfl,rfl⟩:=trodAll_nil h;exact trodAll_mk0
 |t::ts,vs,ds,ps,hr,hlt,h=>by obtain⟨v,a4,d,a0,p,p',rfl,rfl,rfl,h1,h2⟩:=trodAll_cons h;exact trodAll_cons_mk (Go.RowKit.Below.trod hl (hr t (.head _)).1 (hr t (.head _)).2 h1 hb λx hx=>hlt x (ib _ hx)) (XG hl hb (λt ht=>hr t (.tail _ ht)) (λx hx=>hlt x (jy _ hx)) h2)
def Zfl{f:Func}{s:ChangeSpec}{W':Qd}{args:Δ}{ds gs:List (DataW H)}{before:List MemPlace}(hl:laidOutB P=true)(hr:∀t∈f.params.toList,P.readableRec t=true/\t<P.types.size){bt:LN}(a4:f.resultTypes= #[bt])(a5:P.underlying bt=some .bool)(hv:s.vars=[])
  (hW:DataW.Whole enc P f.params.toList s.vars false W args.toList ds gs before) (hs:ds.length=f.params.toList.length->s.fn H ds={results:=[.lit (.bool true)],args:=ds}) (hb:AI W W'):s.post enc P f false true false false W args (.bool true) W':=by
 have a0:=hW;obtain⟨p,q,hA,hV,rfl,_,_⟩:=hW;rw[hv]at hV;obtain⟨rfl,rfl⟩:=trodVars_none hV;have hA:DataW.TrodAll enc P W 0 (λ_=>true) true f.params.toList args.toList ds p:=hA;have a6:∀x∈p,x.block<W.heap.size:=λx hx=>by simpa using a0.lt x (ib _ hx)
 have hf:=hs (Go.trodAll_length hA).2;rw[<-gz ds]at hf;refine⟨ds,[],_,[],p,[],a0,?_,?_,?_,Go.RowKit.Below.frame hb _,nO⟩
 .rw[hf,a4];exact trodAll_mk1 (shut_bool a5 true)
 .rw[hf,gz];exact XG hl hb hr a6 hA
 .rw[hf,hv];rfl
end
end Go.Hal
namespace Go.Hal
open Go.ChangeShapes Go.WideShapes Go.ChangeAt
def Zff:laidOutB prog=true:=kR
section
variable {H:Type} {W:Qd}
def PM:prog.cellsOf 3=1:=kR
def JT:prog.cellsOf 9=1:=kR
def N5:prog.cellsOf 52=3:=kR
def TU:prog.cellsOf 223=6:=kR
def TS:prog.cellsOf 187=2:=kR
def TT:prog.cellsOf 59=7:=kR
def Z7:prog.cellsOf 132=1:=kR
def PN:prog.cellsOf 32=1:=kR
def Z6:prog.cellsOf 22=1:=kR
def EX{enc:LN×HT->H}{x:DataW H×List MemPlace}(h:Tr enc prog W n 3 cs x):∃k,cs= [vi k]:=by obtain⟨k,h1,_⟩:=DataW.trod_int underlying3 h;exact⟨k,h1⟩
def LO{enc:LN×HT->H}{x:DataW H×List MemPlace}(h:Tr enc prog W n 9 cs x):∃s:PU,cs= [.string s]/\Ac s:=by obtain⟨s,h1,_,h2⟩:=DataW.trod_string underlying9 h;exact⟨s,h1,h2⟩
def Zfp{α:Type}{l:List α}(h:l.length=3):∃a b c,l= [a,b,c]:=by
 match l,h with
 | [a,b,c],_=>exact⟨a,b,c,rfl⟩
def R5{enc:LN×HT->H}{x:DataW H×List MemPlace}(h:Tr enc prog W n 52 cs x)(hw:small (x.1.weights prog 52)):∃v:sq,cs=v.c:=by have hl:=H1 underlying52 h;rw[N5]at hl;obtain⟨y0,m0,h0,_⟩:=B9 underlying52 h hw 0 3 0 1 ⟨_,rfl,rfl,rfl⟩ PM;obtain⟨y1,m1,h1,_⟩:=B9 underlying52 h hw 1 3 1 1 ⟨_,rfl,rfl,rfl⟩ PM;obtain⟨y2,m2,h2,_⟩:=B9 underlying52 h hw 2 3 2 1 ⟨_,rfl,rfl,rfl⟩ PM;obtain⟨a,b,c,rfl⟩:=Zfp hl;obtain⟨k0,e0⟩:=EX h0;obtain⟨k1,e1⟩:=EX h1;obtain⟨k2,e2⟩:=EX h2;simp at e0 e1 e2;exact⟨⟨k0,k1,k2⟩,by rw[e0,e1,e2];rfl⟩
def Zji:Rd H prog W ui 223:=by
 intro enc n cs x h hw;have hl:=H1 underlying223 h;rw[TU]at hl;obtain⟨y0,m0,h0,w0⟩:=B9 underlying223 h hw 0 52 0 3 ⟨_,rfl,rfl,rfl⟩ N5;obtain⟨y1,m1,h1,w1⟩:=B9 underlying223 h hw 1 52 3 3 ⟨_,rfl,rfl,rfl⟩ N5;obtain⟨v0,e0⟩:=R5 h0 w0;obtain⟨v1,e1⟩:=R5 h1 w1;refine⟨⟨v0,v1⟩,?_,trivial⟩;have h3:cs=cs.take 3++(cs.drop 3).take 3:=by
  conv=>lhs;rw[<-gk 3 cs]
  rw[ia (l:=cs.drop 3) (by rw[gq];omega)]
 rw[h3];have e0:cs.take 3=v0.c:=e0;rw[e0];exact kd _ e1
def Zjj:JA H prog W ui 132:=O6 underlying132 TU kR dC Zji
def Zje:Rd H prog W rq 187:=by
 intro enc n cs x h hw;have hl:=H1 underlying187 h;rw[TS]at hl;obtain⟨y0,m0,h0,w0⟩:=B9 underlying187 h hw 0 9 0 1 ⟨_,rfl,rfl,rfl⟩ JT;obtain⟨y1,m1,h1,w1⟩:=B9 underlying187 h hw 1 132 1 1 ⟨_,rfl,rfl,rfl⟩ Z7;obtain⟨s,e0,hs⟩:=LO h0;obtain⟨t,l,e1,ht,_⟩:=Zjj enc m1 _ _ h1 w1
 match cs,hl with
 | [a,b],_=>simp at e0 e1;exact⟨⟨s,l⟩,hs,t,by rw[e0,e1],ht⟩
def R4:JA H prog W rq 32:=O6 underlying32 TS kR dC Zje
def Zjg:Rd H prog W wq 59:=by
 intro enc n cs x h hw;have hl:=H1 underlying59 h;rw[TT]at hl;obtain⟨y0,m0,h0,w0⟩:=B9 underlying59 h hw 0 9 0 1 ⟨_,rfl,rfl,rfl⟩ JT;obtain⟨y1,m1,h1,w1⟩:=B9 underlying59 h hw 1 52 1 3 ⟨_,rfl,rfl,rfl⟩ N5;obtain⟨y2,m2,h2,w2⟩:=B9 underlying59 h hw 2 32 4 1 ⟨_,rfl,rfl,rfl⟩ PN;obtain⟨y3,m3,h3,w3⟩:=B9 underlying59 h hw 3 32 5 1 ⟨_,rfl,rfl,rfl⟩ PN;obtain⟨y4,m4,h4,w4⟩:=B9 underlying59 h hw 4 32 6 1 ⟨_,rfl,rfl,rfl⟩ PN;obtain⟨s,e0,hs⟩:=LO h0;obtain⟨v,e1⟩:=R5 h1 w1;obtain⟨d,ld,e2,hd,_⟩:=R4 enc m2 _ _ h2 w2;obtain⟨e,le,e3,he,_⟩:=R4 enc m3 _ _ h3 w3;obtain⟨o,lo,e4,ho,_⟩:=R4 enc m4 _ _ h4 w4
 match cs,hl with
 | [c0,c1,c2,c3,c4,c5,c6],_=>simp[sq.c]at e0 e1 e2 e3 e4;exact⟨⟨s,v,ld,le,lo⟩,hs,d,e,o,by rw[e0,e1.1,e1.2.1,e1.2.2,e2,e3,e4];rfl,hd,he,ho⟩
def Zjh:JA H prog W wq 22:=O6 underlying22 TT kR dC Zjg
def Zjn{enc:LN×HT->H}{v:HT}{d:DataW H}{ps:List MemPlace}(h:DataW.Trod enc prog W 0 (λ_=>true) true t v d ps):∃n,Tr enc prog W n t v.cells.toList (d,ps):=h
end
end Go.Hal
namespace Go.Hal
def Dd(n:Int):Bool:=decide (0<=n)&&decide (n<=999)
def sq.vt(v:sq):Bool:=Dd v.ma&&Dd v.mi&&Dd v.pa
def BD(a b:Int):Int:=if a<b then -1 else if b<a then 1 else 0
def AM(a b:Int):Int:=if a=0 then b else a
def sq.cmp(a b:sq):Int:=AM (BD a.ma b.ma) (AM (BD a.mi b.mi) (BD a.pa b.pa))
def sq.num(v:sq):Int:=(v.ma*1000+v.mi)*1000+v.pa
def sq.W(v:sq):Int:=if v.vt then v.num else 0
def GO(n:Int):Bool:=decide (0<=n)&&decide (n<=999999999)
def De(n:Int):sq:=if GO n then⟨n/1000000,n/1000%1000,n%1000⟩else⟨0,0,0⟩
def O2{n:Int}:Dd n=true↔0<=n/\n<=999:=by simp[Dd]
def sq.vn{v:sq}:v.vt=true↔(0<=v.ma/\v.ma<=999)/\(0<=v.mi/\v.mi<=999)/\(0<=v.pa/\v.pa<=999):=by simp[sq.vt,O2,and_assoc]
def sq.Ĕ{v:sq}:0<=v.W/\v.W<=999999999:=by
 unfold sq.W;split
 .rename_i h;have:=sq.vn.1 h;unfold sq.num;omega
 .omega
def ZI{a b:Int}:BD a b<=0↔a<=b:=by unfold BD;split<;>(try split)<;>omega
def Ik{a b:Int}:BD a b=0↔a=b:=by unfold BD;split<;>(try split)<;>omega
def Ij(a b:Int):(BD a b= -1/\a<b)\/(BD a b=0/\a=b)\/(BD a b=1/\b<a):=by unfold BD;split<;>(try split)<;>omega
def sq.õ{a b:sq}(ha:a.vt=true)(hb:b.vt=true):a.cmp b<=0↔a.W<=b.W:=by simp only[sq.W,ha,hb,if_true,sq.num];have:=sq.vn.1 ha;have:=sq.vn.1 hb;unfold sq.cmp AM;rcases Ij a.ma b.ma with h1|h1|h1<;>rcases Ij a.mi b.mi with h2|h2|h2<;>rcases Ij a.pa b.pa with h3|h3|h3<;>simp only[h1.1,h2.1,h3.1]<;>simp<;>omega
def sq.cmp_eq{a b:sq}:a.cmp b=0↔a=b:=by obtain⟨a1,a2,a3⟩:=a;obtain⟨b1,b2,b3⟩:=b;simp only[sq.mk.injEq,sq.cmp];unfold AM;rcases Ij a1 b1 with h1|h1|h1<;>rcases Ij a2 b2 with h2|h2|h2<;>rcases Ij a3 b3 with h3|h3|h3<;>simp only[h1.1,h2.1,h3.1]<;>simp<;>omega
def OZ{v:sq}(h:v.vt=true):De v.W=v:=by
 have h':=sq.vn.1 h;have e:v.W=v.num:=by rw[sq.W,fo h]
 have hn:v.num=(v.ma*1000+v.mi)*1000+v.pa:=rfl;rw[e,De,fo (by simp[GO];omega)];obtain⟨a,b,c⟩:=v;simp only at hn h' ⊢;rw[sq.mk.injEq];omega
def FO(a b:sq):((a.ma==b.ma)&&((a.mi==b.mi)&&((a.pa==b.pa)&&true)))=decide (a=b):=by obtain⟨a1,a2,a3⟩:=a;obtain⟨b1,b2,b3⟩:=b;rw[ij];simp
def BA:Int->Λ->Bool
 |_,[]=>true
 |least,x::r=>x.lo.vt&&x.hi.vt&&decide (least<=x.lo.W)&&decide (x.lo.W<=x.hi.W)&&BA (x.hi.W+2) r
def AP(l:Λ):Bool:=decide (l.length<=64)&&BA 0 l
def tv.has(n:Int)(x:tv):Bool:=decide (x.lo.W<=n)&&decide (n<=x.hi.W)
def B2(l:Λ)(v:sq):Bool:=AP l&&(v.vt&&l.any (tv.has v.W))
def AR(b:UInt8):Bool:=decide (97<=b.toNat)&&decide (b.toNat<=122)
def BT(b:UInt8):Bool:=AR b||(decide (48<=b.toNat)&&decide (b.toNat<=57)||decide (b.toNat=45))
def CR:LU->Bool
 | []=>true
 |c::r=>AR c&&r.all BT
def Ad(s:PU):Bool:=CR s.toList&&(!Ag s ⟨#[]⟩&&decide (s.size<=16))
def Zg4(l:LU)(x:UInt8):CR (l++[x])=(CR l&&(if l=[]then AR x else BT x)):=by
 cases l with
 |nil=>simp[CR]
 |cons c r=>simp[CR,qo]
def Zg2{l m:LU}(h:CR (l++m)=true):CR l=true:=by
 cases l with
 |nil=>rfl
 |cons c r=>simp[CR]at h ⊢;exact⟨h.1,h.2.1⟩
def Py(p:UInt8->Bool)(h:(List.range 256).all (λn=>p (UInt8.ofNat n))=true)(b:UInt8):p b=true:=by have:=jh.1 h b.toNat (ly.2 b.toNat_lt);simpa using this
def Zga{b:UInt8}(h:AR b=true):BT b=true:=by simp[BT,h]
def í{n:Int}(hR:∀w',AI w w'->R (Dd n) w'):Hh n w R:=by unfold Hh;exact py (hR _ xR)
def zy{x y z:Int}(hR:∀w',AI w w'->R (sq.vt ⟨x,y,z⟩) w'):F7 x y z w R:=by
 refine An.intro λ_ _ _ hb _ _=>?_;refine⟨_,lD,?_⟩;refine Hh.V (í λw' hx=>⟨_,rfl,?_⟩);refine⟨y,λ_=>hb.at1 xT rfl,No.intro (Dd y) (λ_ q hq=>Hh.V (í λw' hx=>⟨_,rfl,hq _ hx⟩)) λt w1 x1 ht=>?_⟩;refine py ⟨z,λ_=>hb.at1 xT rfl,No.intro (Dd z) (λ_ q hq=>Hh.V (í λw' hx=>⟨_,rfl,hq _ hx⟩)) λt2 w2 x2 a0=>?_⟩;have e:(Dd x&&t&&t2)=sq.vt ⟨x,y,z⟩:=by
  unfold sq.vt;cases h:Dd x
  .rfl
  .rw[ht h];cases h':Dd y
   .rfl
   .rw[a0 (by rw[h,ht h,h'];rfl)]
 rw[e];exact hR _ xT
def Ziz{a b:sq}{R:À}(hR:∀w',AI w w'->R (a.cmp b) w'):K8 a.ma a.mi a.pa b.ma b.mi b.pa w R:=by
 refine An.intro λ_ _ _ hb _ _=>An.intro λ_ _ _ c6 _ _=>?_;refine⟨_,lD,?_⟩;refine⟨_,lD,?_⟩;refine⟨_,lD,?_⟩;refine An.intro λa5 _ _ b6 _ _=>?_;refine⟨_,lD,?_⟩;refine⟨_,lD,?_⟩;refine⟨_,lD,?_⟩;refine An.intro λa4 w1 _ b7 _ _=>?_;refine⟨λi w'=>AI w1 w'/\(i=0\/i=1/\a.ma=b.ma\/i=2/\a.ma=b.ma/\a.mi=b.mi\/i=3/\a=b),λi _=>3 - i.toNat,⟨AI.refl _,.inl rfl⟩,?_⟩;rintro i w2 ⟨x2,hi⟩;refine⟨λh3=>sh.drew λw3 x3=>?_,λh3=>?_⟩
 .have key:∀(k:Nat)(u v:Int),i=k->k<3-> [vi a.ma,vi a.mi,vi a.pa].drop k= [vi u]++[vi a.ma,vi a.mi,vi a.pa].drop (k+1)-> [vi b.ma,vi b.mi,vi b.pa].drop k= [vi v]++[vi b.ma,vi b.mi,vi b.pa].drop (k+1)->
    (u<v->a.cmp b= -1)->(v<u->a.cmp b=1)->(u=v->(i+1=1/\a.ma=b.ma\/i+1=2/\a.ma=b.ma/\a.mi=b.mi\/i+1=3/\a=b))->
    ∃ad,((Sl.mk (some a5) 3 3).a=some ad/\(0:Int)<=i/\i<((Sl.mk (some a5) 3 3).len:Int))/\∃a9,se w3 (ad.add (i.toNat*1)) [Value.int .i64 a9]/\∃a6,((Sl.mk (some a4) 3 3).a=some a6/\(0:Int)<=i/\i<((Sl.mk (some a4) 3 3).len:Int))/\∃b0,se w3 (a6.add (i.toNat*1)) [Value.int .i64 b0]/\
     ((a9<b0->R (-1) w3)/\(¬a9<b0->sh w3.drew λa0=>∃a7,((Sl.mk (some a5) 3 3).a=some a7/\(0:Int)<=i/\i<((Sl.mk (some a5) 3 3).len:Int))/\∃b4,se a0 (a7.add (i.toNat*1)) [Value.int .i64 b4]/\∃a8,((Sl.mk (some a4) 3 3).a=some a8/\(0:Int)<=i/\i<((Sl.mk (some a4) 3 3).len:Int))/\∃b5,se a0 (a8.add (i.toNat*1)) [Value.int .i64 b5]/\
      ((b5<b4->R 1 a0)/\(¬b5<b4->(AI w1 a0/\(Aa (i+1)=0\/Aa (i+1)=1/\a.ma=b.ma\/Aa (i+1)=2/\a.ma=b.ma/\a.mi=b.mi\/Aa (i+1)=3/\a=b))/\3 - (Aa (i+1)).toNat<3 - i.toNat)))):=by
   intro k u v hk c7 h1 h2 c4 b9 b8;have c5:((Sl.mk (some a5) 3 3).len:Int)=3:=rfl;have c3:i.toNat*1=k:=oM;rw[c3];refine⟨a5,⟨rfl,oM,by show i<3;omega⟩,u,b6.at1 xT h1,a4,⟨rfl,oM,by show i<3;omega⟩,v,b7.at1 xT h2,λh=>?_,λh=>sh.drew λw4 x4=>⟨a5,⟨rfl,oM,by show i<3;omega⟩,u,b6.at1 xT h1,a4,⟨rfl,oM,by show i<3;omega⟩,v,b7.at1 xT h2,λh'=>?_,λh'=>?_⟩⟩
   .rw[<-c4 h];exact hR _ xT
   .rw[<-b9 h'];exact hR _ xT
   .have e:=b8 oM;rw[Ai oM oM];exact⟨⟨xT,.inr e⟩,oM⟩
  rcases hi with rfl|⟨rfl,h1⟩|⟨rfl,h1,h2⟩|⟨rfl,_⟩
  .refine key 0 a.ma b.ma rfl oM rfl rfl ?_ ?_ λh=>.inl ⟨rfl,h⟩
   .intro h;unfold sq.cmp BD;rw[fo h];rfl
   .intro h;unfold sq.cmp BD;rw[fb oM,fo h];rfl
  .refine key 1 a.mi b.mi rfl oM rfl rfl ?_ ?_ λh=>.inr (.inl ⟨rfl,h1,h⟩)
   .intro h;unfold sq.cmp;rw[Ik.2 h1];unfold BD;rw[fo h];rfl
   .intro h;unfold sq.cmp;rw[Ik.2 h1];unfold BD;rw[fb oM,fo h];rfl
  .refine key 2 a.pa b.pa rfl oM rfl rfl ?_ ?_ λh=>.inr (.inr ⟨rfl,?_⟩)
   .intro h;unfold sq.cmp;rw[Ik.2 h1,Ik.2 h2];unfold BD;rw[fo h];rfl
   .intro h;unfold sq.cmp;rw[Ik.2 h1,Ik.2 h2];unfold BD;rw[fb oM,fo h];rfl
   .obtain⟨a1,a2,a3⟩:=a;obtain⟨b1,b2,b3⟩:=b;simp only at h1 h2 h;rw[h1,h2,h]
  .omega
 .have:a=b:=by rcases hi with rfl|⟨rfl,h1⟩|⟨rfl,h1,h2⟩|⟨_,h⟩<;>first|omega|exact h
  have h0:=sq.cmp_eq.2 this;rw[<-h0];exact hR _ xT
def Zmi(n:Int)(h:0<=n):n.tdiv 1000000=n/1000000/\n.tdiv 1000=n/1000/\Int.tmod n 1000=n%1000:=⟨ph h,ph h,Int.tmod_eq_emod_of_nonneg h⟩
def ś{v:sq}{R:Int->Á}(hR:∀w',AI w w'->R v.W v.vt w'):K9 v.ma v.mi v.pa w R:=by
 refine An.intro λ_ _ _ hb _ _=>?_;refine⟨_,_,_,lD,?_⟩;refine F7.V (zy λw' hx=>⟨_,rfl,λh=>?_,λh=>?_⟩)
 .have e:v.vt=false:=by simpa using h
  have:=hR w' xT;simpa[sq.W,e]using this
 .have e:v.vt=true:=by simpa using h
  refine⟨_,lD,?_⟩;refine⟨_,lD,?_⟩;refine⟨_,lD,?_⟩;have hm:=sq.vn.1 e;rw[Ai (x:=v.ma*1000) oM oM,Ai (x:=v.ma*1000+v.mi) oM oM,Ai (x:=(v.ma*1000+v.mi)*1000) oM oM,Ai oM oM];have:=hR w' xT;simpa[sq.W,e,sq.num]using this
def HK{v:sq}(hR:∀w',AI w w'->R v.vt w'):E8 v.ma v.mi v.pa w R:=by
 refine An.intro λ_ w1 _ hb _ _=>?_;refine⟨_,lD,?_⟩;refine⟨_,lD,?_⟩;refine⟨_,lD,?_⟩;refine⟨λi w'=>AI w1 w'/\(i=0\/i=1/\Dd v.ma=true\/i=2/\Dd v.ma=true/\Dd v.mi=true\/i=3/\v.vt=true),λi _=>3 - i.toNat,⟨AI.refl _,.inl rfl⟩,?_⟩;rintro i w2 ⟨x2,hi⟩;refine⟨λh3=>⟨⟨oM,h3⟩,py ⟨λh=>?_,λh=>?_⟩⟩,λh3=>?_⟩
 .have:v.vt=false:=by unfold sq.vt Dd;rcases hi with rfl|⟨rfl,h1⟩|⟨rfl,h1,h2⟩|⟨rfl,_⟩<;>simp at h<;>simp<;>omega
  rw[<-this];exact hR _ xT
 .rw[Ai oM oM];refine⟨⟨x2,?_⟩,by show 3 - (i+1).toNat<3 - i.toNat;omega⟩;rcases hi with rfl|⟨rfl,h1⟩|⟨rfl,h1,h2⟩|⟨rfl,_⟩
  .refine .inr (.inl ⟨oM,?_⟩);simp at h;rw[O2];omega
  .refine .inr (.inr (.inl ⟨oM,h1,?_⟩));simp at h;rw[O2];omega
  .refine .inr (.inr (.inr ⟨oM,?_⟩));simp at h;rw[sq.vt,h1,h2,iu,iu,O2];omega
  .omega
 .have:v.vt=true:=by rcases hi with rfl|⟨rfl,h1⟩|⟨rfl,h1,h2⟩|⟨_,h⟩<;>first|omega|exact h
  rw[<-this];exact hR _ xT
def á{n:Int}{R:Int->Int->Int->Á}(hR:∀w',AI w w'->R (De n).ma (De n).mi (De n).pa (GO n) w'):G6 n w R:=by
 refine An.intro λa w1 x1 hb a4 _=>py ⟨λh=>?_,λh=>?_⟩
 .refine tj.intro hb sI λw2 b2 _ a0=>?_;refine⟨_,_,_,a0.se.pre rfl,?_⟩;have e:GO n=false:=by simp only[GO];simp at h ⊢;omega
  have:=hR w2 (b2.U x1 oM);simpa[De,e]using this
 .have e:0<=n/\n<=999999999:=by simp at h;omega
  have ha:GO n=true:=by simp[GO,e]
  obtain⟨e1,e2,e3⟩:=Zmi n e.1;rw[e2,e3,Ai (x:=n/1000) oM oM,Int.tmod_eq_emod_of_nonneg oM,ph oM,Ai oM oM];have e4:n/1000/1000=n/1000000:=oM;rw[e4];refine tj.intro hb sI λw2 b2 _ a0=>?_;refine⟨_,_,_,a0.se.pre rfl,?_⟩;have:=hR w2 (b2.U x1 oM);simpa[De,ha]using this
def MN{v:sq}{R:Int->Á}(hR:∀w',AI w w'->R v.W v.vt w'):FP v.ma v.mi v.pa w R:=by
 refine An.intro λ_ _ _ hb _ _=>?_;refine⟨_,_,_,lD,?_⟩;refine E8.V (HK (v:=v) λw' hx=>⟨_,rfl,λh=>?_,λh=>?_⟩)
 .have e:v.vt=false:=by simpa using h
  have:=hR w' xT;simpa[sq.W,e]using this
 .have e:v.vt=true:=by simpa using h
  refine⟨_,lD,?_⟩;refine⟨_,lD,?_⟩;refine⟨_,lD,?_⟩;have hm:=sq.vn.1 e;rw[Ai (x:=v.ma*1000) oM oM,Ai (x:=v.ma*1000+v.mi) oM oM,Ai (x:=(v.ma*1000+v.mi)*1000) oM oM,Ai oM oM];have:=hR w' xT;simpa[sq.W,e,sq.num]using this
def Ī{x:Int}(hR:R false w):Il x w R:=by unfold Il;simpa using hR
def yp{x y:Int}{R:À}(hR:R (BD x y) w):Ei x y w R:=by
 refine Il.V (Ī ⟨_,rfl,Il.V (Ī ⟨_,rfl,⟨λh=>(by cases h),λ_=>⟨λh=>(by cases h),λ_=>⟨λh=>?_,λh=>⟨λh'=>?_,λh'=>?_⟩⟩⟩⟩⟩)⟩)
 .simpa[BD,h]using hR
 .simpa[BD,h,h']using hR
 .simpa[BD,h,h']using hR
def A7(a b:PU):Int:=if Ak a b then -1 else if Ag a b then 0 else 1
def Ue{l:Β}{R:À}(hs:IT Ci w S s l)(hR:R (l.foldr AM 0) w):EK s w R:=by
 unfold EK;refine⟨λi w'=>w'=w/\0<=i/\i<=l.length/\(l.drop i.toNat).foldr AM 0=l.foldr AM 0,λi _=>l.length - i.toNat,⟨rfl,oM,oM,rfl⟩,?_⟩;rintro i w' ⟨rfl,h0,h1,h2⟩;have hl:=hs.len;refine⟨λa0=>?_,λa5=>?_⟩
 .obtain⟨x,hx⟩:∃x,l[i.toNat]?=some x:=⟨_,dw oM⟩;obtain⟨ad,cs,ha,hS,⟨rfl,_⟩,hc⟩:=hs.get hx;have hd:l.drop i.toNat=x::l.drop (i.toNat+1):=by obtain⟨hl,he⟩:=ec.1 hx;rw[<-he];exact(gp hl)
  rw[hd,List.foldr_cons]at h2;refine⟨ad,⟨ha,h0,a0⟩,x,hc.pre rfl,λa4=>?_,λhe=>?_⟩
  .rw[AM,fb a4]at h2;rwa [h2]
  .have he:x=0:=jt.1 he;rw[AM,fo he]at h2;have:=hs.2.2.1;have:=hs.2.1;rw[J5 h0 a0 oM];have e:(i+1).toNat=i.toNat+1:=oM;exact⟨⟨rfl,oM,oM,by rwa [e]⟩,by show l.length - (i+1).toNat<l.length - i.toNat;omega⟩
 .rw[kl oM]at h2;rw[<-h2]at hR;exact hR
end Go.Hal
/-
 DERIVED:THE SHELF's CONTRACTS AT THIS DUMP,IN PLAIN WORDS (tools/lay-plain.mjs rv of 'YtgolaibmophnjaaGreatDoorLay.lean',which tools/lay-shelf.mjs wrote):THE SAME DECLARATIONS UNDER THE SAME NAMES:'import','namespace','open','def','theorem' AND NOTHING ELSE:no command of the shelf's:FOR A HAND-IN. Each laying:the table of numbers ('.._ren') and one theorem,a field a fact of the dump's ux or the kernel's comparison;each contract:ONE APPLICATION.
-/
namespace Go.Proofs
def Tryz.Xam:Go.Shelf.Ren:=⟨λ|161=>146|231=>230|227=>231|233=>232|235=>233|228=>300|197=>301|151=>302|260=>342|152=>343|137=>372|119=>373|224=>374|225=>375|217=>392|266=>411|n=>n,λ|9=>9|4=>4|3=>3|5=>5|117=>296|116=>295|0=>0|124=>299|105=>357|21=>21|119=>408|46=>185|139=>411|138=>410|n=>n,λ|3=>2|4=>3|n=>n⟩
def Tryz.Xb4:Go.Proofs.Lays.n161 prog Tryz.Xam:=by repeat' first|kernel_rfl|(intro w;kernel_rfl)|constructor
def Tryz.Xan:Go.Shelf.Ren:=⟨λ|160=>147|232=>234|231=>230|227=>231|234=>235|233=>232|236=>236|235=>233|228=>300|271=>303|151=>302|197=>301|120=>344|152=>343|260=>342|137=>372|119=>373|224=>374|225=>375|217=>392|266=>411|n=>n,λ|9=>9|4=>4|3=>3|5=>5|117=>296|116=>295|0=>0|124=>299|21=>21|105=>357|46=>185|119=>408|139=>411|138=>410|n=>n,λ|3=>2|4=>3|n=>n⟩
def Tryz.Xcz:Go.Proofs.Lays.n160 prog Tryz.Xan:=by repeat' first|kernel_rfl|(intro w;kernel_rfl)|constructor
def Tryz.Xaa:Go.Shelf.Ren:=⟨λ|169=>96|n=>n,λ|70=>166|9=>9|0=>0|72=>169|37=>167|127=>238|3=>3|5=>5|n=>n,λ|n=>n⟩
def Tryz.Xdj:Go.Proofs.Lays.n169 prog Tryz.Xaa:=by repeat' first|kernel_rfl|(intro w;kernel_rfl)|constructor
def Tryz.ā:Go.Shelf.Ren:=⟨λ|156=>243|165=>305|166=>93|169=>96|240=>158|241=>345|276=>247|277=>376|n=>n,λ|31=>57|9=>9|3=>3|4=>4|0=>0|20=>20|72=>169|76=>172|70=>166|37=>167|75=>171|127=>238|164=>309|5=>5|80=>176|n=>n,λ|n=>n⟩
def Tryz.ū:Go.Proofs.Lays.n156 prog Tryz.ā:=by repeat' first|kernel_rfl|(intro w;kernel_rfl)|constructor
def Tryz.Xaf:Go.Shelf.Ren:=⟨λ|171=>95|243=>159|246=>248|283=>306|284=>307|285=>308|286=>309|129=>172|317=>346|318=>347|319=>348|320=>349|337=>377|338=>378|n=>n,λ|3=>3|9=>9|2=>2|4=>4|171=>360|0=>0|53=>251|37=>167|5=>5|173=>362|212=>392|51=>249|20=>20|213=>393|46=>185|232=>424|233=>425|n=>n,λ|17=>1|18=>4|19=>5|n=>n⟩
def Tryz.Xbz:Go.Proofs.LaysM.n171 prog Tryz.Xaf:=by repeat' first|kernel_rfl|(intro w;kernel_rfl)|constructor
def Tryz.Xab:Go.Shelf.Ren:=⟨λ|106=>66|213=>135|265=>224|n=>n,λ|9=>9|3=>3|n=>n,λ|n=>n⟩
def Tryz.Xcw:Go.Proofs.Lays.n106 prog Tryz.Xab:=by repeat' first|kernel_rfl|(intro w;kernel_rfl)|constructor
end Go.Proofs
namespace Go.Hal
def Jq(a:PU):a.toList.length=a.size:=by rw[toList_data,Gz]
def PE{a:PU}{i:Int}(h0:0<=i)(h:i<a.size):∃x:UInt8,a.toList[i.toNat]?=some x/\C1 a i=(x.toNat:Int):=by obtain⟨n,rfl⟩:=Int.eq_ofNat_of_zero_le h0;have hn:n<a.size:=oM;refine⟨_,?_,YZ hn⟩;rw[toList_data,fa];exact dw (by rwa [Gz])
def Ŭ(a b:PU)(w:Qd)(R:Á)(ha:Ac a)(hR:∀w',AI w w'->R (Ak a b) w'):I3 a b w R:=by
 unfold I3;refine⟨λi w'=>AI w w'/\0<=i/\i<=a.size/\i<=b.size/\a.toList.take i.toNat=b.toList.take i.toNat,λi _=>a.size - i.toNat,⟨AI.refl _,oM,oM,oM,rfl⟩,?_⟩;rintro i w1 ⟨hx,h0,h1,h2,h3⟩;have sa:a.toList=a.toList.take i.toNat++a.toList.drop i.toNat:=(gk _ _).H;have sb:b.toList=a.toList.take i.toNat++b.toList.drop i.toNat:=by rw[h3];exact(gk _ _).H
 have a5:Ak a b=Op.bytesLess (a.toList.drop i.toNat) (b.toList.drop i.toNat):=by have:=Zk (a.toList.take i.toNat) (a.toList.drop i.toNat) (b.toList.drop i.toNat);rw[<-sa,<-sb]at this;exact this
 rintro b1 a4;refine⟨λhb=>?_,λhb=>?_⟩
 .simp only[a4,ep,fp]at hb;obtain⟨x,a6,ea⟩:=PE h0 hb.1;obtain⟨y,a7,eb⟩:=PE h0 hb.2;have da:a.toList.drop i.toNat=x::a.toList.drop (i.toNat+1):=by obtain⟨hl,he⟩:=ec.1 a6;rw[<-he];exact(gp hl)
  have db:b.toList.drop i.toNat=y::b.toList.drop (i.toNat+1):=by obtain⟨hl,he⟩:=ec.1 a7;rw[<-he];exact(gp hl)
  rintro w2 rfl;refine⟨⟨h0,hb.1⟩,⟨h0,hb.2⟩,λa8=>?_,λhe=>?_⟩
  .rintro w3 rfl;refine⟨⟨h0,hb.1⟩,⟨h0,hb.2⟩,?_⟩;have a0:x≠y:=λh=>a8 (by rw[ea,eb,h]);have:decide (C1 a i<C1 b i)=Ak a b:=by
    rw[a5,da,db,ea,eb];show _=(decide (x<y)||(x==y&&_));have:(x==y)=false:=by simpa using a0
    rw[this,Bool.false_and,Bool.or_false];simp[UInt8.lt_iff_toNat_lt]
   rw[this];exact hR _ ((hx.Z (AI.drew _)).Z (AI.drew _))
  .have a0:x=y:=(by rw[jt,ea,eb]at he;exact UInt8.toNat_inj.1 oM);rw[J5 h0 hb.1 ha];refine⟨⟨hx.Z (AI.drew _),oM,oM,oM,?_⟩,by show a.size - (i+1).toNat<a.size - i.toNat;omega⟩;have e:(i+1).toNat=i.toNat+1:=oM;rw[e,List.take_add_one,List.take_add_one,h3,a6,a7,a0]
 .have:decide ((a.size:Int)<(b.size:Int))=Ak a b:=by
   simp only[a4,ny,ig]at hb;rw[a5];by_cases hc:i=a.size
   .have:a.toList.drop i.toNat=[]:=kl (by rw[Jq];omega);rw[this];cases hd:b.toList.drop i.toNat with
    |nil=>have hl:=kd List.length hd;rw[gq,Jq]at hl;simp only[ip]at hl;show _=false;simp;omega
    |cons y r=>have hl:=kd List.length hd;rw[gq,Jq]at hl;simp only[gb]at hl;show _=true;simp;omega
   .have:b.toList.drop i.toNat=[]:=kl (by rw[Jq];omega);rw[this];have:Op.bytesLess (a.toList.drop i.toNat) []=false:=(by cases a.toList.drop i.toNat<;>rfl);rw[this];simp;omega
  rw[this];exact hR _ hx
def Xa0:PU:=bm #[97,98,99,100,101,102,103,104,105,106,107,108,109,110,111,112,113,114,115,116,117,118,119,120,121,122]
def Ĥ:PU:=bm #[97,98,99,100,101,102,103,104,105,106,107,108,109,110,111,112,113,114,115,116,117,118,119,120,121,122,48,49,50,51,52,53,54,55,56,57,45]
set_option maxRecDepth 100000 in
def Zab(b:UInt8):Xa0.data.toList.contains b=AR b:=by have:=Py (λb=>Xa0.data.toList.contains b==AR b) (by decide+kernel) b;simpa using this
set_option maxRecDepth 100000 in
def Zac(b:UInt8):Ĥ.data.toList.contains b=BT b:=by have:=Py (λb=>Ĥ.data.toList.contains b==BT b) (by decide+kernel) b;simpa using this
def Zmp{s:PU}{k:Ã}(hk:∀w',AI w w'->k (.string ⟨(s.data.toList.dropWhile AR).toArray⟩) w'):si prog 146 [.string s,.string Xa0] w k:=by
 have h:=Any.strings_TrimLeft_laid Tryz.Xb4 kR s Xa0 w dC (ascii_of_all dC);have e:Lib.trimLeftS s.data.toList Xa0.data.toList=s.data.toList.dropWhile AR:=by unfold Lib.trimLeftS;congr 1;funext b;exact Zab b
 rw[e]at h;exact h.O λe w' ⟨he,hb⟩=>⟨_,he,hk w' hb⟩
def Zmr{s:PU}{k:Ã}(hs:Ac s)(hk:∀w',AI w w'->k (.string ⟨(Lib.trimS s.data.toList Ĥ.data.toList).toArray⟩) w'):si prog 147 [.string s,.string Ĥ] w k:=
 (Any.strings_Trim_laid Tryz.Xcz kR s Ĥ w hs dC (ascii_of_all dC)).O λe w' ⟨he,hb⟩=>⟨_,he,hk w' hb⟩
def Uo{α:Type}(p:α->Bool)(l:List α):l.dropWhile p=[]↔l.all p=true:=by
 induction l with
 |nil=>simp
 |cons x r ih=>
  rw[qd,oe];cases h:p x
  .simp
  .simpa using ih
def PH{α:Type}[BEq α][LawfulBEq α][DecidableEq α](a b:α):(a==b)=decide (a=b):=by rw[ij];simp
def XF(l:LU):(Lib.trimS l Ĥ.data.toList=[])↔l.all BT=true:=by
 have e:(λb=>Ĥ.data.toList.contains b)=BT:=funext Zac;unfold Lib.trimS Lib.trimLeftS Lib.trimRightS;simp only[e];rw[Uo];constructor
 .intro h;have h2:l.reverse.dropWhile BT=[]:=by
   cases hd:l.reverse.dropWhile BT with
   |nil=>rfl
   |cons x r=>
    rw[hd]at h;have h3:=jh.1 h x sI;have h4:∀m:LU,m.dropWhile BT=x::r->BT x=false:=by
     intro m;induction m with
     |nil=>intro h;cases h
     |cons y t ih=>
      rw[qd];cases hy:BT y
      .intro h;simp at h;rwa [<-h.1]
      .intro h;exact ih (by simpa using h)
    rw[h4 _ hd]at h3;cases h3
  rw[Uo]at h2;exact jh.2 λx hx=>jh.1 h2 x (List.mem_reverse.2 hx)
 .intro h;refine jh.2 λx hx=>?_;have:x∈l.reverse:=(ou _).mem (List.mem_reverse.1 hx);exact jh.1 h x (List.mem_reverse.1 this)
def Zg6(s:PU):Ad s=((!Ag s ⟨#[]⟩&&decide (s.size<=16))&&(!Ag ⟨(s.data.toList.dropWhile AR).toArray⟩ s&&(s.data.toList.dropWhile AR).all BT)):=by
 unfold Ad;rw[Bool.and_comm];have hb:∀l:LU,Ag ⟨l.toArray⟩ s=decide (l=s.data.toList):=by intro l;unfold Ag;rw[toList_data,toList_data];exact PH ..
 cases h0:(!Ag s ⟨#[]⟩&&decide (s.size<=16))
 .rfl
 .rw[iu,iu,hb,toList_data];have a0:s.data.toList≠[]:=by
   intro h;simp only[ep]at h0;have:Ag s ⟨#[]⟩=true:=by unfold Ag;rw[toList_data,toList_data,h];rfl
   rw[this]at h0;exact fu h0.1 dC
  cases hs:s.data.toList with
  |nil=>exact fu hs a0
  |cons c r=>
   unfold CR;rw[qd];cases hc:AR c
   .show(AR c&&_)=_;rw[hc,fb sI];simp
   .have hl: ¬r.dropWhile AR=c::r:=(by intro h;have:=(ou AR (l:=r)).length_le;rw[h]at this;simp at this;omega);simp only[if_true,gl hl,Bool.not_false,iu];have:r=r.takeWhile AR++r.dropWhile AR:=(og ..).H;have ht:(r.takeWhile AR).all BT=true:=jh.2 λx hx=>Zga (by have:=List.all_takeWhile (p:=AR) (l:=r);exact jh.1 this x hx);rw[hc,iu]
    calc r.all BT=(r.takeWhile AR++r.dropWhile AR).all BT:=by rw[<-this]
     _=_:=by rw[qy,ht,iu]
def uq{s:PU}(hs:Ac s)(hR:∀w',AI w w'->R (Ad s) w'):CI s w R:=by
 refine Zmp λw1 x1=>⟨_,rfl,py (py (py ?_))⟩;have a0:Ac ⟨(s.data.toList.dropWhile AR).toArray⟩:=by have h1:=(ou AR (l:=s.data.toList)).length_le;have h2:=Gz ⟨(s.data.toList.dropWhile AR).toArray⟩;have h3:=Gz s;simp only[rb]at h2;unfold Ac at*;omega
 refine No.intro ⟨(Lib.trimS (s.data.toList.dropWhile AR) Ĥ.data.toList).toArray⟩ (λ_ q hq=>Zmr a0 λw' hx=>⟨_,rfl,hq _ hx⟩) λt w2 x2 ht=>?_;have:(((!Ag s ⟨#[]⟩)&&decide ((s.size:Int)<=16))&&(!Ag ⟨(s.data.toList.dropWhile AR).toArray⟩ s)&&Ag t ⟨#[]⟩)=Ad s:=by
  rw[Zg6];have e:decide ((s.size:Int)<=16)=decide (s.size<=16):=by rw[ke];omega
  rw[e]at ht ⊢;rw[qo];cases h1:(!Ag s ⟨#[]⟩&&decide (s.size<=16))
  .rfl
  .cases h2:(!Ag ⟨(s.data.toList.dropWhile AR).toArray⟩ s)
   .rfl
   .rw[ht (by rw[h1,h2];rfl),iu,iu,iu];have h3:Ag (⟨(Lib.trimS (s.data.toList.dropWhile AR) Ĥ.data.toList).toArray⟩:PU) ⟨#[]⟩=decide (Lib.trimS (s.data.toList.dropWhile AR) Ĥ.data.toList=[]):=by unfold Ag;rw[toList_data,toList_data];exact PH ..
    rw[h3];cases h4:(s.data.toList.dropWhile AR).all BT
    .exact gl λh=>by rw[XF]at h;rw[h]at h4;cases h4
    .exact ie ((XF _).2 h4)
 rw[this];exact hR _ xT
def î{s:PU}(hs:Ac s)(hR:∀w',AI w w'->R (Ad s) w'):Hi s w R:=by
 unfold Hi;refine⟨λi w'=>w'=w/\0<=i/\i<=s.size/\CR (s.toList.take i.toNat)=true,λi _=>s.size - i.toNat,⟨rfl,oM,oM,rfl⟩,?_⟩;rintro i w' ⟨rfl,h0,h1,h2⟩;refine⟨λa0=>⟨⟨h0,a0⟩,py ⟨λ_=>⟨h0,a0⟩,⟨h0,a0⟩,py ⟨λ_=>⟨h0,a0⟩,py ⟨λ_=>⟨h0,a0⟩,py (py ?_)⟩⟩⟩⟩,λa6=>py ?_⟩
 .obtain⟨x,hx,ex⟩:=PE h0 a0;rw[ex];have a5:CR (s.toList.take (i.toNat+1))=(if i.toNat=0 then AR x else BT x):=by
   rw[List.take_add_one,hx];show CR (_++[x])=_;rw[Zg4,h2,iu];have:s.toList.take i.toNat=[]↔i.toNat=0:=by
    rw[List.take_eq_nil_iff];constructor
    .rintro(h|h)
     .exact h
     .rw[h]at hx;cases hx
    .exact .inl
   by_cases hc:i.toNat=0
   .rw[fo hc,fo (this.2 hc)]
   .rw[fb hc,fb (λh=>hc (this.1 h))]
  have a4:((!(decide ((97:Int)<=(x.toNat:Int))&&decide ((x.toNat:Int)<=122)))&&((i==0)||(!((decide ((48:Int)<=(x.toNat:Int))&&decide ((x.toNat:Int)<=57))||((x.toNat:Int)==45)))))= !(if i.toNat=0 then AR x else BT x):=by
   have e1:(decide ((97:Int)<=(x.toNat:Int))&&decide ((x.toNat:Int)<=122))=AR x:=(by unfold AR;congr 1<;>rw[ke]<;>omega);have e2:(decide ((48:Int)<=(x.toNat:Int))&&decide ((x.toNat:Int)<=57))=(decide (48<=x.toNat)&&decide (x.toNat<=57)):=(by congr 1<;>rw[ke]<;>omega);have e3:((x.toNat:Int)==45)=decide (x.toNat=45):=(by rw[PH,ke];omega);rw[e1,e2,e3];by_cases hc:i.toNat=0
   .rw[fo hc];have:(i==0)=true:=by simp;omega
    rw[this];cases AR x<;>rfl
   .rw[fb hc];have:(i==0)=false:=by simp;omega
    rw[this];unfold BT;cases AR x<;>rfl
  rw[a4,<-a5];refine⟨λh=>?_,λh=>?_⟩
  .have:Ad s=false:=by
    unfold Ad;cases hp:CR s.toList
    .rfl
    .rw[<-gk (i.toNat+1) s.toList]at hp;rw[Zg2 hp]at h;cases h
   rw[<-this];exact hR _ xR
  .rw[J5 h0 a0 hs];have e:(i+1).toNat=i.toNat+1:=oM;refine⟨⟨rfl,oM,oM,?_⟩,by show s.size - (i+1).toNat<s.size - i.toNat;omega⟩;rw[e];cases hp:CR (s.toList.take (i.toNat+1))
   .rw[hp]at h;cases h
   .rfl
 .have hi:i.toNat=s.toList.length:=by rw[Jq];omega
  rw[hi,fe]at h2;have:((!Ag s ⟨#[]⟩)&&decide ((s.size:Int)<=16))=Ad s:=by unfold Ad;rw[h2,iu];congr 1;rw[ke];omega
  rw[this];exact hR _ xR
def B(l:LU):PU:=⟨l.toArray⟩
def Fo(l:LU):(B l).data.toList=l:=rfl
def E9(l:LU):(B l).toList=l:=by rw[toList_data];rfl
def Af(l:LU):(B l).size=l.length:=by rw[<-Gz];rfl
def GQ{a:PU}(h:a.data.toList=b.data.toList):a=b:=by obtain⟨⟨a⟩⟩:=a;obtain⟨⟨b⟩⟩:=b;simp at h;rw[h]
def EH(s:PU):s=B s.toList:=by rw[toList_data];exact GQ rfl
def P7(a b:PU):(a++b).data.toList=a.data.toList++b.data.toList:=by rw[ByteArray.data_append];simp
def Ba(a b:LU):B a++B b=B (a++b):=GQ (by rw[P7,Fo,Fo,Fo])
def B4(a:LU)(b:Ε):B a++ByteArray.mk b=B (a++b.toList):=GQ (by rw[P7,Fo,Fo])
def D9(a:Ε)(b:LU):ByteArray.mk a++B b=B (a.toList++b):=GQ (by rw[P7,Fo,Fo])
def AL(a:Ε):(ByteArray.mk a).size=a.size:=rfl
def Au:Am=9223372036854775807:=rfl
def dec(n:Int):LU:=Lib.decDigits n.toNat
def Im{n:Int}(h0:0<=n)(h1:n<10):dec n= [UInt8.ofNat (48+n.toNat)]:=by unfold dec;rw[Lib.decDigits,dif_pos oM]
def JW{n:Int}(h1:10<=n):dec n=dec (n/10)++[UInt8.ofNat (48+(n%10).toNat)]:=by
 unfold dec;rw[Lib.decDigits,dif_neg oM];congr 2
 .omega
 .congr 2;omega
def DO{n:Int}(h0:0<=n)(h1:n<=999):(dec n).length<=3:=by
 by_cases h:n<10
 .rw[Im h0 h];simp
 .rw[JW oM,dx];by_cases h':n/10<10
  .rw[Im oM h'];simp
  .rw[JW oM,Im oM oM];simp
def AK(v:sq):LU:=if v.vt then(((dec v.ma++[46])++dec v.mi)++[46])++dec v.pa else []
def DH(v:sq):(AK v).length<=11:=by
 unfold AK;split
 .rename_i h;have h:=sq.vn.1 h;have:=DO h.1.1 h.1.2;have:=DO h.2.1.1 h.2.1.2;have:=DO h.2.2.1 h.2.2.2;simp;omega
 .simp
def A8(x:tv):LU:=
 if x.lo=x.hi then AK x.lo
 else if x.lo.W=0/\x.hi.W=999999999 then [42]
 else if x.lo.W=0 then [60,61]++AK x.hi
 else if x.hi.W=999999999 then [62,61]++AK x.lo
 else(([62,61]++AK x.lo)++[32,60,61])++AK x.hi
def Rb(x:tv):(A8 x).length<=27:=by
 have h1:=DH x.lo;have h2:=DH x.hi;unfold A8;split
 .omega
 .split
  .simp
  .split
   .simp;omega
   .split<;>simp<;>omega
def BJ:Λ->LU
 | []=>[]
 | [x]=>A8 x
 |x::y::r=>A8 x++([32,124,124,32]++BJ (y::r))
def Cd(l:Λ):LU:=if AP l then(if l=[]then [60,48,46,48,46,48]else BJ l)else []
def Ze3(l:Λ)(x:tv):BJ (l++[x])=(if l=[]then A8 x else(BJ l++[32,124,124,32])++A8 x):=by
 induction l with
 |nil=>rfl
 |cons y r ih=>
  cases r with
  |nil=>show A8 y++([32,124,124,32]++A8 x)=_;simp[BJ]
  |cons z t=>show A8 y++([32,124,124,32]++BJ ((z::t)++[x]))=_;rw[ih];simp[BJ]
def Oi(l:Λ):(BJ l).length<=31*l.length:=by
 induction l with
 |nil=>simp[BJ]
 |cons y r ih=>
  have:=Rb y;cases r with
  |nil=>simp[BJ];omega
  |cons z t=>simp only[BJ,dx,gb,ip]at ih ⊢;omega
def O5(l:Λ):(Cd l).length<=2000:=by
 unfold Cd;split
 .rename_i h;unfold AP at h;simp at h;have:=Oi l;split<;>simp<;>omega
 .simp
def Ha(xo:LU)(d:uf):LU:=((((xo++[32])++d.Y.toList)++[32])++Cd d.range)++[10]
def B1(xo:LU)(l:Ι):LU:=(l.map (Ha xo)).flatten
def ym:LU:=[110,101,101,100,115]
def MO:LU:=[98,101,115,105,100,101]
def yw:LU:=[108,105,107,101,115]
def I5(n:PU)(v:sq):LU:=((([112,97,99,107,97,103,101,32]++n.toList)++[32])++AK v)++[10]
def Db(p:sf):LU:=((I5 p.Y p.v++B1 ym p.sj)++B1 MO p.sw)++B1 yw p.ut
def FV:Option PU->PU->Bool
 |none,_=>true
 |some n,m=>Ak n m
def Be:Option PU->Ι->Bool
 |_,[]=>true
 |prev,d::r=>Ad d.Y&&AP d.range&& !d.range.isEmpty&&FV prev d.Y&&Be (some d.Y) r
def Ax(l:Ι):Bool:=Be none l&&decide (l.length<=16)
def BC(a b:Ι):Bool:=!a.any λx=>b.any λy=>decide (x.Y=y.Y)
def EE(p:sf):Bool:=BC p.sj p.sw&&BC p.sj p.ut&&BC p.sw p.ut
def Cj(p:sf):Bool:=Ad p.Y&&p.v.vt&&Ax p.sj&&Ax p.sw&&Ax p.ut
def AH(p:sf):Bool:=Cj p&&(EE p&&decide ((Db p).length<=4096))
def Qg(xo:LU)(l:Ι)(d:uf):B1 xo (l++[d])=B1 xo l++Ha xo d:=by simp[B1]
def CQ{n:PU}(h:Ad n=true):n.toList.length<=16:=by unfold Ad at h;simp at h;rw[toList_data,Gz];exact h.2.2
def Zap{l:Ι}(h:Be p l=true):∀d∈l,Ad d.Y=true/\AP d.range=true/\d.range≠[]:=by
 induction l generalizing p with
 |nil=>intro d hd;cases hd
 |cons x r ih=>
  intro d hd;rw[Be]at h;simp only[ep]at h;obtain rfl|hd:=gj.1 hd
  .exact⟨h.1.1.1.1,h.1.1.1.2,by have:=h.1.1.2;simp at this;exact this⟩
  .exact ih h.2 d hd
def Zam{xo:LU}(hw:xo.length<=8){d:uf}(h:Ad d.Y=true):(Ha xo d).length<=2030:=by have:=CQ h;have:=O5 d.range;simp only[Ha,dx,gb,ip];omega
def DP{xo:LU}(hw:xo.length<=8){l:Ι}(h:∀d∈l,Ad d.Y=true):(B1 xo l).length<=2030*l.length:=by
 induction l with
 |nil=>simp[B1]
 |cons x r ih=>have h1:=ih λd hd=>h d (nk _ hd);have h2:=Zam hw (h x (kg ..));simp only[B1,gu,js,dx,gb]at h1 ⊢;omega
def JZ(prev:Option PU)(d:uf):Bool:=Ad d.Y&&AP d.range&& !d.range.isEmpty&&FV prev d.Y
def DT:Option PU->Ι->Option PU
 |p,[]=>p
 |_,d::r=>DT (some d.Y) r
def Zaq(l:Ι):∀(p:Option PU)(d:uf),Be p (l++[d])=(Be p l&&JZ (DT p l) d):=by
 induction l with
 |nil=>intro p d;simp[Be,JZ,DT]
 |cons x r ih=>intro p d;rw[io,Be,Be,ih];exact(qo ..).H
def Zfk(l:Ι):∀(p:Option PU)(d:uf),DT p (l++[d])=some d.Y:=by
 induction l with
 |nil=>intro p d;rfl
 |cons x r ih=>intro p d;exact ih _ d
def Zao{l k:Ι}(h:Be p (l++k)=true):Be p l=true:=by
 induction l generalizing p with
 |nil=>rfl
 |cons y r ih=>rw[io,Be]at h;rw[Be];simp only[ep]at h ⊢;exact⟨h.1,ih h.2⟩
def Us{l:Ι}(h:Be none (l.take i)=false):Ax l=false:=by
 unfold Ax;cases hg:Be none l
 .rfl
 .rw[<-gk i l]at hg;rw[Zao hg]at h;cases h
def Ut{l:Ι}(hn:n<l.length)(hI:Be none (l.take n)=true):Be none (l.take (n+1))=JZ (DT none (l.take n)) l[n]:=by rw[dz hn,Zaq,hI,iu]
def Vs{l:Ι}(hn:n+1<l.length):DT none (l.take (n+1))=some l[n].Y:=by rw[dz oM,Zfk]
def BE{l:Ι}(h:Ax l=true):l.length<=16/\∀d∈l,Ad d.Y=true/\AP d.range=true/\d.range≠[]:=by unfold Ax at h;simp only[ep,fp]at h;exact⟨h.2,Zap h.1⟩
def Zmt{x:Int}(h0:0<=x)(h1:x<=255):IntKind.u8.wrap x=x:=by simp only[IntKind.wrap,IntKind.bits,IntKind.signed,Bool.false_and];have e1:(2:Int)^ 8=256:=rfl;simp[e1];omega
def PV{x:Int}(hb:AT w a [.int .u8 x]):C6 prog (Go.convert 167 9 (Sl.v (Sl.mk (some a) 1 1))) w (.string (B [UInt8.ofNat x.toNat])):=λw' hx=>by obtain⟨b,o,s⟩:=a;obtain⟨t,ho,hs,hh⟩:=hb;simp only at ho hs hh;subst ho hs;have a0:AT w' ⟨b,0,none⟩ [.int .u8 x]:=AT.U ⟨t,rfl,rfl,hh⟩ hx;exact run_convert_bytes_arg w' 167 5 underlying167 underlying5 b 0 1 1 [x] rfl (λi hi=>by have:i=0:=oM;subst this;have:=a0.se 0 (.int .u8 x) rfl;exact this) _ underlying9
def yk:∀(N:Nat){n:Int}{w:Qd}{R:Å},0<=n->n.toNat<N->n<=999->(∀w',AI w w'->R (B (dec n)) w')->F8 n w R
 |0,n,w,R,_,h,_,_=>by omega
 |N+1,n,w,R,h0,hN,h9,hR=>by
  have a0:∀m:Int,0<=m->m<10->IntKind.u8.wrap (Aa (48+m))=48+m:=λm h1 h2=>by rw[Ai oM oM,Zmt oM oM]
  have dl:∀m:Int,0<=m->UInt8.ofNat (48+m).toNat=UInt8.ofNat (48+m.toNat):=λm h1=>by congr 1;omega
  unfold F8;refine⟨λa4=>?_,λa6=>?_⟩
  .rw[a0 n h0 a4];refine An.intro λa w1 x1 hb _ _=>⟨_,PV hb,?_⟩;rw[dl n h0,<-Im h0 a4];exact hR _ xT
  .have hq:n.tdiv 10=n/10:=ph h0;have hm:Int.tmod n 10=n%10:=Int.tmod_eq_emod_of_nonneg h0;rw[hq,hm,Ai oM oM,a0 (n%10) oM oM];have hl:=DO (n:=n/10) oM oM;have a5:((((B (dec (n/10))).size+(B [UInt8.ofNat (48+n%10).toNat]).size:Nat):Int)<=Am):=(by rw[Af,Af,Au];simp;omega);have hv:B (dec (n/10))++B [UInt8.ofNat (48+n%10).toNat]=B (dec n):=(by rw[Ba,dl _ oM,<-JW oM]);refine join.intro (sh.drew λw1 x1=>⟨?_,?_⟩)
   .refine tc.intro (F8.V (yk N oM oM oM λw2 x2=>⟨x2,_,rfl,An.intro λa w3 x3 hb _ _=>⟨_,PV hb,a5,?_⟩⟩));rw[hv];exact hR _ xT
   .refine An.intro λa w3 x3 hb _ _=>⟨_,PV hb,tc.intro (F8.V (yk N oM oM oM λw2 x2=>⟨x2,_,rfl,a5,?_⟩))⟩;rw[hv];exact hR _ xT
def O4{v:sq}{R:Å}(hR:∀w',AI w w'->R (B (AK v)) w'):Ge v.ma v.mi v.pa w R:=by
 refine An.intro λ_ w1 x1 hb _ _=>?_;refine⟨_,_,_,lD,?_⟩;refine F7.V (zy λw2 x2=>⟨_,rfl,λh=>?_,λh=>sh.drew λw3 x3=>?_⟩)
 .have e:v.vt=false:=by simpa using h
  have:AK v=[]:=by unfold AK;rw[e];rfl
  have hr:=hR w2 xT;rw[this]at hr;exact hr
 .have e:v.vt=true:=by simpa using h
  have hm:=sq.vn.1 e;have l1:=DO hm.1.1 hm.1.2;have l2:=DO hm.2.1.1 hm.2.1.2;have l3:=DO hm.2.2.1 hm.2.2.2;have hv:AK v=(((dec v.ma++[46])++dec v.mi)++[46])++dec v.pa:=by unfold AK;rw[e];rfl
  refine⟨_,lD,?_⟩;refine⟨_,lD,?_⟩;refine⟨_,lD,?_⟩;refine tc.intro (F8.V (yk 1000 hm.1.1 oM hm.1.2 λw4 x4=>⟨x4,_,rfl,?_⟩));refine⟨by rw[Af,AL,Au];simp;omega,tc.intro (F8.V (yk 1000 hm.2.1.1 oM hm.2.1.2 λw5 x5=>⟨x5,_,rfl,?_⟩))⟩;simp only[B4,Ba];refine⟨by rw[Af,Af,Au];simp;omega,by rw[Af,AL,Au];simp;omega,F8.V (yk 1000 hm.2.2.1 oM hm.2.2.2 λw6 x6=>⟨_,rfl,?_⟩)⟩;simp only[Ba];refine⟨by rw[Af,Af,Au];simp;omega,?_⟩;have hr:=hR w6 xT;rw[hv]at hr;exact hr
def Í(w:Qd):Prop:=Lib.TabIs prog w "internal/strconv.uint64pow10" .u64 Lib.pow10Tab
def Zmc(hg:prog.globalNamed "internal/strconv.uint64pow10" =some g)(h:Í w)(hk:w'.heap[g]? =w.heap[g]?):Í w':=by unfold Í Lib.TabIs World.var? at*;rw[hg]at h ⊢;simp only[nw]at h ⊢;rwa [hk]
def Í.U(h:Í w)(hx:AI w w'):Í w':=by
 have hv:=h;unfold Í Lib.TabIs World.var? at hv;cases hg:prog.globalNamed "internal/strconv.uint64pow10" with
 |none=>rw[hg]at hv;cases hv
 |some g=>
  rw[hg]at hv;simp only[nw]at hv;refine Zmc hg h (hx.block ?_);cases hh:w.heap[g]? with
  |none=>rw[hh]at hv;cases hv
  |some o=>exact(fg.1 hh).1
def Oh{n:Int}{k:Ã}(h0:0<=n)(h1:n<=999)(ht:Í w)(hk:∀w',AI w w'->k (.string (B (dec n))) w'):si prog 95 [vi n] w k:=by
 have h:=Any.strconv_Itoa Tryz.Xbz n oM oM w ht;have e:Lib.itoa n=dec n:=by unfold Lib.itoa dec;rw[fb oM]
 rw[e]at h;refine h.O λe w' ⟨he,q,os,hw⟩=>⟨_,he,hk w' ?_⟩;subst hw;exact⟨rfl,rfl,rfl,by show w.heap.size<=(w.heap++os).size;simp,λb hb=>by show(w.heap++os)[b]?=w.heap[b]?;rw[kh hb]⟩
def vy{v:sq}{R:Å}(ht:Í w)(hR:∀w',AI w w'->R (B (AK v)) w'):DY v.ma v.mi v.pa w R:=by
 refine An.intro λ_ w1 x1 hb _ _=>?_;refine⟨_,_,_,lD,?_⟩;refine E8.V (HK (v:=v) λw2 x2=>⟨_,rfl,λh=>?_,λh=>sh.drew λw3 x3=>?_⟩)
 .have e:v.vt=false:=by simpa using h
  have:AK v=[]:=by unfold AK;rw[e];rfl
  have hr:=hR w2 xT;rw[this]at hr;exact hr
 .have e:v.vt=true:=by simpa using h
  have hm:=sq.vn.1 e;have l1:=DO hm.1.1 hm.1.2;have l2:=DO hm.2.1.1 hm.2.1.2;have l3:=DO hm.2.2.1 hm.2.2.2;have hv:AK v=(((dec v.ma++[46])++dec v.mi)++[46])++dec v.pa:=by unfold AK;rw[e];rfl
  refine⟨_,lD,?_⟩;refine⟨_,lD,?_⟩;refine⟨_,lD,?_⟩;refine tc.intro (Oh hm.1.1 hm.1.2 (ht.U xT) λw4 x4=>⟨x4,_,rfl,?_⟩);refine⟨by rw[Af,AL,Au];simp;omega,tc.intro (Oh hm.2.1.1 hm.2.1.2 (ht.U xT) λw5 x5=>⟨x5,_,rfl,?_⟩)⟩;simp only[B4,Ba];refine⟨by rw[Af,Af,Au];simp;omega,by rw[Af,AL,Au];simp;omega,Oh hm.2.2.1 hm.2.2.2 (ht.U xT) λw6 x6=>⟨_,rfl,?_⟩⟩;simp only[Ba];refine⟨by rw[Af,Af,Au];simp;omega,?_⟩;have hr:=hR w6 xT;rw[hv]at hr;exact hr
open Go.ChangeShapes Go.WideShapes Go.ChangeAt
def ux:ownKnob prog.godebug=none:=kR
def Vv{H:Type}:DataW H->LV
 | .lit (.int k n)=>[.int k n]
 |_=> []
def Zkc{H:Type}:DataW H->LV
 | .agg l=>l.flatMap λd=>match d with
  | .agg m=>m.flatMap Vv
  |d=>Vv d
 |_=> []
def Zfn(P:LD)(h:Array Obj)(x:String×DataW Unit):Array Obj:=match P.globalNamed x.1 with
 |some g=>match x.2 with
  | .iface _ (.ptr (.agg [.lit (.string s)]))=>(h.push (.cells #[.string ⟨s.toArray⟩] 453)).modify g fun
   | .cells _ t fr=>.cells #[.iface 451 (.pointer (some ⟨h.size,0,none⟩))] t fr
   |o=>o
  |d=>h.modify g fun
   | .cells _ t fr=>.cells (Zkc d).toArray t fr
   |o=>o
 |none=>h
def Zfm(P:LD)(l:List (String×DataW Unit))(h:Array Obj):Array Obj:=l.foldl (Zfn P) h
def KT:List (String×DataW Unit):=Go.Proofs.YtgolaibmophnjaaGreatDoor.Rows.editOnceRow.laid
noncomputable def KU (os:Os):Qd:={World.holding prog os ⟨#[],#[],[]⟩with heap:=Zfm prog KT (World.holding prog os ⟨#[],#[],[]⟩).heap}
set_option maxRecDepth 100000 in
def Zfg(os:Os)(args:Δ):laidMet prog KT ((KU os).forCall (λ_ _=>0) ⟨#[],args,[]⟩).memory:=laidMet_of_run' 8 kR kR
set_option maxRecDepth 100000 in
def Zfi(os:Os)(args:Δ):((KU os).forCall (λ_ _=>0) ⟨#[],args,[]⟩).variablesB prog=true:=kR
set_option maxRecDepth 100000 in
def Zfh(os:Os)(args:Δ):(((KU os).forCall (λ_ _=>0) ⟨#[],args,[]⟩).heap.toList.drop prog.globals.size).take ((begin prog (λ_ _=>0) default).world.heap.size - prog.globals.size)=
  (begin prog (λ_ _=>0) default).world.heap.toList.drop prog.globals.size:=kR
def Zdn: ∃g t,prog.globalNamed "internal/strconv.uint64pow10" =some g∧(prog.globals[g]?).map (·.type)=some t∧prog.underlying t=some (.array 20 251)∧prog.cellsOf t=20:=⟨1,392,kR,kR,kR,kR⟩
def Xcp{W:Qd}(h:laidMetH prog KT W):Í W:=by obtain⟨g,t,h1,h2,h3,h4⟩:=Zdn;rw[MakeChecks.laidMetH_plain _ _ _ kR]at h;exact Lib.tabIs_of_head h1 h2 h3 underlying251 kR h4 (laidMet.tail (laidMet.tail h))
def YK{a b:Bool}(h1:a=true)(h2:b=true):(a&&b)=true:=by rw[h1,h2];rfl
def YD{cs:Δ}{l:LV}(h:(Value.agg cs).cells.toList=l):cs=l.toArray:=by have:cs.toList=l:=h;rw[<-this]
end Go.Hal
namespace Go.Proofs.YtgolaibmophnjaaGreatDoor
open Go.ChangeShapes Go.WideShapes Go.ChangeAt
def ND:Tryz.f5.params.toList= [27]:=by rw[Tryz.params5]
def Za8:joinedFacts Tryz.pinned.checked.prog 5 Tryz.f5 (OpenSpec.ofChange Rows.editAgainSpec).bare Rows.editAgainRow=true:=by
 unfold joinedFacts
 repeat' with_reducible refine YK ?_ ?_
 all_goals (as_aux_lemma=>kernel_rfl)
def Zbb(f:Pr)(fn:Func)(hf:Tryz.pinned.checked.prog.funcNamed "halyard/halyardlaw19.EditAgain" =some f)(a4:Tryz.pinned.checked.prog.funcs[f]? =some fn):
  true=Tryz.pinned.checked.prog.looks []/\∀(j:Nat) t,fn.params[j]?=some t->Tryz.pinned.checked.prog.wantsStandIn t=false:=by
 obtain rfl:f=5:=jz ((show prog.funcNamed "halyard/halyardlaw19.EditAgain" =some 5 by kernel_rfl).H.Z hf)|>.H;obtain rfl:fn=Tryz.f5:=(jz (func5.H.Z a4)).H;refine⟨kR,λj t ht=>?_⟩;have hm:t∈Tryz.f5.params.toList:=by rw[←Array.getElem?_toList]at ht;exact fx ht
 have a0:(Tryz.f5.params.toList.all λt=>!prog.wantsStandIn t)=true:=kR;have:=jh.1 a0 t hm;exact(show prog.wantsStandIn t=false by simpa using this)
end Go.Proofs.YtgolaibmophnjaaGreatDoor
namespace Go.Proofs.YtgolaibmophnjaaGreatDoor
def Zdw(h:P.funcs.any Func.goes=false)(c:OpenClaim)(hs:c.start= .entering):false=c.goesBy P:=by
 have h1:∀g:Pr,(P.funcs[g]?).any Func.goes=false:=λg=>by
  cases hg:P.funcs[g]? with
  |none=>rfl
  |some fn=>obtain⟨hl,rfl⟩:=fg.1 hg;have:=Array.any_eq_false.1 h g hl;simpa using this
 have h2:∀f,P.goes f=false:=λf=>by unfold Program.goes;rw[h,Bool.and_false,Bool.or_false,mm];intro g _;rw[h1];simp
 unfold OpenClaim.goesBy Program.goesAt Program.goesFrom;rw[hs];cases P.funcNamed c.func with
 |none=>rfl
 |some f=>simp[h2]
def Zbd:Rows.editAgainRow.wfByText (OpenSpec.ofChange Rows.editAgainSpec)=true:=kR
def Zba:Tryz.pinned.checked.prog.mainIs=some (Rows.editAgainCard.stood.harness.1,Rows.editAgainCard.stood.harness.2.toList):=kR
def Za9:false=Rows.editAgainRow.goesBy Tryz.pinned.checked.prog:=Zdw kR _ rfl
end Go.Proofs.YtgolaibmophnjaaGreatDoor
namespace Go.Hal
def TG(x:LU):Op.bytesLess x []=false:=by cases x<;>rfl
def JK(a b:UInt8)(x y:LU):Op.bytesLess (a::x) (b::y)=(decide (a<b)||(a==b&&Op.bytesLess x y)):=rfl
def Zh(x:LU):Op.bytesLess x x=false:=by
 induction x with
 |nil=>rfl
 |cons a r ih=>rw[JK,ih];simp
def TH:∀{x y z:LU},Op.bytesLess x y=true->Op.bytesLess y z=true->Op.bytesLess x z=true
 |_,[],_,h,_=>by rw[TG]at h;cases h
 |_,_::_,[],_,h=>by rw[TG]at h;cases h
 | [],_::_,_::_,_,_=>rfl
 |a::x,b::y,c::z,h1,h2=>by
  rw[JK]at h1 h2 ⊢;simp only[oz,fp,ep,ko]at h1 h2 ⊢;rcases h1 with h1|⟨rfl,h1⟩
  .rcases h2 with h2|⟨rfl,h2⟩
   .exact .inl (UInt8.lt_trans h1 h2)
   .exact .inl h1
  .rcases h2 with h2|⟨rfl,h2⟩
   .exact .inl h2
   .exact .inr ⟨rfl,TH h1 h2⟩
def TI:∀{x y:LU},Op.bytesLess x y=false->Op.bytesLess y x=false->x=y
 | [],[],_,_=>rfl
 | [],_::_,h,_=>by cases h
 |_::_,[],_,h=>by cases h
 |a::x,b::y,h1,h2=>by
  rw[JK]at h1 h2;simp only[ik,ig,ny,pz]at h1 h2;have e:a=b:=by have:=UInt8.not_lt.1 h1.1;have:=UInt8.not_lt.1 h2.1;exact UInt8.le_antisymm ‹_› ‹_›
  subst e;have:=TI (x:=x) (y:=y) (by simpa using h1.2) (by simpa using h2.2);rw[this]
def PF(x:PU):Ak x x=false:=Zh _
def GP{x y z:PU}(h:Ak x y=true)(k:Ak y z=true):Ak x z=true:=TH h k
def JG{x y:PU}(h:Ak x y=false)(k:Ak y x=false):x=y:=by have:=TI h k;rw[toList_data,toList_data]at this;exact GQ this
def EG{x y:PU}(h:Ak x y=true):x≠y:=λe=>by subst e;rw[PF]at h;cases h
def Nt{x y:PU}(h:Ak x y=true):Ak y x=false:=by
 cases k:Ak y x
 .rfl
 .have:=GP h k;rw[PF]at this;cases this
def Uq{l:Ι}(h:Be p l=true):l.Pairwise (λx y=>Ak x.Y y.Y=true)/\(∀n,p=some n->∀x∈l,Ak n x.Y=true):=by
 induction l generalizing p with
 |nil=>exact⟨.nil,λ_ _ x hx=>by cases hx⟩
 |cons y r ih=>
  rw[Be]at h;simp only[ep]at h;obtain⟨a4,a0⟩:=ih h.2;refine⟨iq.2 ⟨λx hx=>a0 _ rfl x hx,a4⟩,λn hn x hx=>?_⟩;subst hn;have hy:Ak n y.Y=true:=h.1.2;obtain rfl|hx:=gj.1 hx
  .exact hy
  .exact GP hy (a0 _ rfl x hx)
def um{l:Ι}(h:Ax l=true):(l.map (·.Y)).Nodup:=by unfold Ax at h;simp only[ep]at h;have:=(Uq h.1).1;rw[List.Nodup,iv];exact this.imp λh=>EG h
def Ee{a b:Ι}:BC a b=true↔∀x∈a.map (·.Y),∀y∈b.map (·.Y),x≠y:=by
 unfold BC;rw[na,mm];constructor
 .intro h x hx y hy e;obtain⟨d,hd,rfl⟩:=gv.1 hx;obtain⟨f,hf,rfl⟩:=gv.1 hy;exact h d hd (jv.2 ⟨f,hf,by simpa using e⟩)
 .intro h d hd a0;obtain⟨f,hf,he⟩:=jv.1 a0;exact h _ (ix hd) _ (ix hf) (by simpa using he)
def YP{p:sf}(h:Cj p=true):decide ((p.sj++p.sw++p.ut).map (·.Y)).Nodup=EE p:=by
 unfold Cj at h;simp only[ep]at h;obtain⟨⟨⟨_,h1⟩,h2⟩,h3⟩:=h;have n1:=um h1;have n2:=um h2;have n3:=um h3;unfold EE;rw[ij,fp,ep,ep,Ee,Ee,Ee,gd,gd,ja,ja];constructor
 .rintro⟨⟨_,_,a0⟩,_,h3⟩;exact⟨⟨a0,λx hx y hy=>h3 x (ib _ hx) y hy⟩,λx hx y hy=>h3 x (jy _ hx) y hy⟩
 .rintro⟨⟨a0,a4⟩,a5⟩;refine⟨⟨n1,n2,a0⟩,n3,λx hx y hy=>?_⟩;obtain hx|hx:=fj.1 hx
  .exact a4 x hx y hy
  .exact a5 x hx y hy
def Ew(ru:Ι)(Y:PU)(r:Λ):Λ:=match ru with
 | []=>r
 |d::l=>if d.Y=Y then d.range else Ew l Y r
def Zhq{l:Ι}{Y:PU}{r:Λ}{d:uf}(hi:l[i]?=some d)(hd:d.Y=Y)(hn:∀k<i,∀e:uf,l[k]?=some e-> ¬e.Y=Y):Ew l Y r=d.range:=by
 induction l generalizing i with
 |nil=>simp at hi
 |cons a l ih=>
  cases i with
  |zero=>simp only[jr,ff]at hi;subst hi;rw[Ew,fo hd]
  |succ i=>rw[Ew,fb (hn 0 oM a rfl)];exact ih hi λk hk e he=>hn (k+1) oM e he
def Zhr{l:Ι}{Y:PU}{r:Λ}(hn:∀(k:Nat)(e:uf),l[k]?=some e-> ¬e.Y=Y):Ew l Y r=r:=by
 induction l with
 |nil=>rfl
 |cons a l ih=>rw[Ew,fb (hn 0 a rfl)];exact ih λk e he=>hn (k+1) e he
def JD:Bz prog 32 187 2 40:=CM (z:=.agg #[.string ⟨#[]⟩,.slice none 0 0]) kR kR rfl dC
def BL(ru:Ι)(l:Ι):Ι:=l.map λd=>⟨d.Y,Ew ru d.Y d.range⟩
def F4{a:PU}:A7 a b<0↔Ak a b=true:=by
 unfold A7;split
 .rename_i h;simp[h]
 .rename_i h;split<;>simp[h]
def EJ{a:PU}:A7 a b=0↔a=b:=by
 unfold A7;split
 .rename_i h;have:=EG h;simp[this]
 .split
  .rename_i h;simp[AA.1 h]
  .rename_i h;have: ¬a=b:=λe=>h (AA.2 e);simp[this]
def PS{a b:PU}:A7 a b<=0↔Ak b a=false:=by
 constructor
 .intro h;obtain h|h:=Int.lt_or_eq_of_le h
  .exact Nt (F4.1 h)
  .rw[EJ.1 h,PF]
 .intro h;cases h1:Ak a b
  .have:=JG h1 h;subst this;rw[EJ.2 rfl];omega
  .have:=F4.2 h1;omega
def DN{α:Type}(f:α->PU):vv (λa b:α=>A7 (f a) (f b)) where
 flip:=λx y=>by
  have h1:=@PS (f y) (f x);rw[F4];cases h:Ak (f x) (f y)
  .have:=h1.2 h;simp;omega
  .rw[h]at h1;simp at h1 ⊢;omega
 trans:=λx y z h1 h2=>by
  rw[PS]at h1 h2 ⊢;cases h:Ak (f z) (f x)
  .rfl
  .exfalso;cases h3:Ak (f y) (f z)
   .have:=JG h3 h2;rw[this]at h1;rw[h1]at h;cases h
   .have:=GP h3 h;rw[this]at h1;cases h1
def JF{a:PU}(h:A7 a b<=0)(a0:a≠b):Ak a b=true:=by
 cases h1:Ak a b
 .exact fu (JG h1 (PS.1 h)) a0
 .rfl
def AD(l:Η):Η:=Bw (λa b=>A7 a.Y b.Y) l
def yy(l:Η):Prop:=l.Pairwise λa b=>Ak a.Y b.Y=true
def DG(l:Η):(AD l).Perm l:=FK l
def M6{l:Η}(h:(l.map (·.Y)).Nodup):yy (AD l):=by have h1:=Zlw (DN (α:=sy) (·.Y)) l;have h2:((AD l).map (·.Y)).Nodup:=((DG l).map _).nodup_iff.2 h;rw[ii,iv]at h2;exact(h1.and h2).imp λh=>JF h.1 h.2
def yy.one{l m:Η}(h1:yy l)(h2:yy m)(hp:l.Perm m):l=m:=
 Jn (R:=λa b:sy=>Ak a.Y b.Y=true) (λx y h1 h2=>by rw[Nt h1]at h2;cases h2) h1 h2 hp
def yy.nodup{l:Η}(h:yy l):(l.map (·.Y)).Nodup:=by rw[ii,iv];exact h.imp λh=>EG h
def VU{l:Η}(h:(l.map (·.Y)).Nodup):l.Nodup:=by rw[ii]at h ⊢;rw[iv]at h;exact h.imp λ{a b} h e=>h (by rw[e])
def yy.ż{l m:Η}(h1:yy l)(h2:yy m)(hm:∀x,x∈l↔x∈m):l=m:=
 h1.one h2 ((List.perm_ext_iff_of_nodup (VU h1.nodup) (VU h2.nodup)).2 hm)
def As(n:PU)(q:sy):Bool:=decide (q.Y=n)
def un(env:Η)(n:PU):Option sq:=(env.find? (As n)).map (·.v)
def X9{env:Η}{n:PU}{v:sq}(h:un env n=some v):⟨n,v⟩∈env:=by
 unfold un at h;cases hf:env.find? (As n)with
 |none=>rw[hf]at h;cases h
 |some q=>rw[hf]at h;simp only[ir,ff]at h;have h1:=ob hf;simp only[As,fp]at h1;have h2:=kj hf;obtain⟨a,b⟩:=q;simp only at h h1;subst h;subst h1;exact h2
def XC{l:Η}(h:(l.map (·.Y)).Nodup){q:sy}(hq:q∈l):un l q.Y=some q.v:=by
 induction l with
 |nil=>cases hq
 |cons a r ih=>
  simp only[gu,nu]at h;unfold un;rw[List.find?_cons];obtain rfl|hq:=gj.1 hq
  .simp[As]
  .have a0:As q.Y a=false:=(by simp only[As,ig];intro e;exact h.1 (e▸ix hq));rw[a0];exact ih h.2 hq
def Su{l:Η}{n:PU}(h:un l n=none):∀q∈l,q.Y≠n:=by unfold un at h;simp only[Option.map_eq_none_iff]at h;intro q hq;simpa[As]using kq.1 h q hq
section
variable (get:PU->sq->Option sf) (ru:Ι) (env:Η)
def B5:Ι->Η->Option (Η)
 | [],rv=>some rv
 |d::l,rv=>match un env d.Y with
  |none=>none
  |some v=>if B2 d.range v then B5 l (if rv.any (As d.Y)then rv else rv++[⟨d.Y,v⟩])else none
def C2(p:sy):Nat->Nat->Η->Option (Η)
 |0,_,_=>none
 |f+1,i,rv=>match(p::rv)[i]? with
  |none=>some rv
  |some q=>match get q.Y q.v with
   |none=>none
   |some x=>match B5 env (BL ru x.sw) rv with
    |none=>none
    |some out'=>C2 p f (i+1) out'
def uk(p:sy):Option (Η):=(C2 get ru env p (env.length+2) 0 []).map AD
def Pq(q:sy):Prop:=∃x,get q.Y q.v=some x/\∀d∈BL ru x.sw,∃v,un env d.Y=some v/\B2 d.range v=true
def HO(q r:sy):Prop:=∃x d,get q.Y q.v=some x/\d∈BL ru x.sw/\r.Y=d.Y/\un env d.Y=some r.v
inductive Reach (p:sy):sy->Prop
 |one {r:sy}:HO get ru env p r->Reach p r
 |more {q r:sy}:Reach p q->HO get ru env q r->Reach p r
structure ë(p:sy)(i:Nat)(rv:Η):Prop where
 yn:(rv.map (·.Y)).Nodup
 told:∀r∈rv,un env r.Y=some r.v
 reach:∀r∈rv,Reach get ru env p r
 le:i<=rv.length+1
 Xbj:∀(k:Nat) q,k<i->(p::rv)[k]?=some q->Pq get ru env q
 asks:∀(k:Nat) q,k<i->(p::rv)[k]?=some q->∀r,HO get ru env q r->r∈rv
end
section
variable {get:PU->sq->Option sf} {ru:Ι} {env:Η} {p:sy}
def Uj{out0:Η}:∀{l:Ι} {rv out':Η},B5 env l rv=some out'->(rv.map (·.Y)).Nodup->(∀r∈rv,un env r.Y=some r.v)->
  (out'.map (·.Y)).Nodup/\(∀r∈out',un env r.Y=some r.v)/\(∃t,out'=rv++t)/\(∀d∈l,∃v,un env d.Y=some v/\B2 d.range v=true/\(⟨d.Y,v⟩:sy)∈out')/\∀r∈out',r∈rv\/∃d∈l,r.Y=d.Y
 | [],rv,out',h,hn,ht=>by simp only[B5,ff]at h;subst h;exact⟨hn,ht,⟨[],by simp⟩,(λd h=>by cases h),λr h=>.inl h⟩
 |d::l,rv,out',h,hn,ht=>by
  unfold B5 at h;cases hv:un env d.Y with
  |none=>rw[hv]at h;cases h
  |some v=>
   rw[hv]at h;simp only at h;split at h
   .rename_i a4;have key:(((if rv.any (As d.Y)then rv else rv++[⟨d.Y,v⟩]):Η).map (·.Y)).Nodup/\(∀r∈(if rv.any (As d.Y)then rv else rv++[⟨d.Y,v⟩]:Η),un env r.Y=some r.v)/\(∃t,(if rv.any (As d.Y)then rv else rv++[⟨d.Y,v⟩]:Η)=rv++t)/\(⟨d.Y,v⟩:sy)∈(if rv.any (As d.Y)then rv else rv++[⟨d.Y,v⟩]:Η)/\∀r∈(if rv.any (As d.Y)then rv else rv++[⟨d.Y,v⟩]:Η),r∈rv\/r.Y=d.Y:=by
     split
     .rename_i ha;obtain⟨q,hq,he⟩:=jv.1 ha;simp only[As,fp]at he;have h1:=ht q hq;rw[he,hv,ff]at h1;refine⟨hn,ht,⟨[],by simp⟩,?_,λr h=>.inl h⟩;obtain⟨a,b⟩:=q;simp only at he h1;subst he;subst h1;exact hq
     .rename_i ha;have a0:∀q∈rv,q.Y≠d.Y:=by simpa[As]using ha
      refine⟨?_,?_,⟨_,rfl⟩,by simp,?_⟩
      .rw[gd,ja];refine⟨hn,by simp,λa h1 b h2=>?_⟩;obtain⟨q,hq,rfl⟩:=gv.1 h1;simp at h2;subst h2;exact a0 q hq
      .intro r hr;obtain hr|hr:=fj.1 hr
       .exact ht r hr
       .simp at hr;subst hr;exact hv
      .intro r hr;obtain hr|hr:=fj.1 hr
       .exact .inl hr
       .simp at hr;subst hr;exact .inr rfl
    obtain⟨k1,k2,⟨t,k3⟩,k4,k5⟩:=key;obtain⟨r1,r2,⟨t',r3⟩,r4,r5⟩:=Uj (out0:=out0) h k1 k2;refine⟨r1,r2,⟨t++t',by rw[r3,k3,fh]⟩,λe he=>?_,λr hr=>?_⟩
    .obtain rfl|he:=gj.1 he
     .exact⟨v,hv,a4,by rw[r3];exact ib _ k4⟩
     .exact r4 e he
    .rcases r5 r hr with h1|⟨e,he,h1⟩
     .obtain h2|h2:=k5 r h1
      .exact .inl h2
      .exact .inr ⟨d,.head _,h2⟩
     .exact .inr ⟨e,.tail _ he,h1⟩
   .cases h
def EU{α:Type}:∀{l m:List α},l.Nodup->(∀x∈l,x∈m)->l.length<=m.length
 | [],_,_,_=>im _
 |a::r,m,hn,hs=>by
  obtain⟨h1,h2⟩:=nu.1 hn;obtain⟨s,t,rfl⟩:=List.append_of_mem (hs a (.head _));have:=EU (l:=r) (m:=s++t) h2 λx hx=>by
   rcases fj.1 (hs x (.tail _ hx))with h|h
   .exact ib _ h
   .obtain rfl|h:=gj.1 h
    .exact fu hx h1
    .exact jy _ h
  simp only[dx,gb]at this ⊢;omega
def Zg8{rv:Η}(hn:(rv.map (·.Y)).Nodup)(ht:∀r∈rv,un env r.Y=some r.v):rv.length<=env.length:=by
 have:=EU (m:=env.map (·.Y)) hn λn h=>by obtain⟨r,hr,rfl⟩:=gv.1 h;have:=X9 (ht r hr);exact ix (f:=(·.Y)) this
 simpa using this
def ë.zero:ë get ru env p 0 []:=⟨by simp,by simp,by simp,by simp,λk q h=>by omega,λk q h=>by omega⟩
def ë.next{rv out':Η}{q:sy}{x:sf}(h:ë get ru env p i rv)(hq:(p::rv)[i]?=some q)(hx:get q.Y q.v=some x)(hs:B5 env (BL ru x.sw) rv=some out'):ë get ru env p (i+1) out':=by
 obtain⟨r1,r2,⟨t,rfl⟩,r4,r5⟩:=Uj (out0:=[]) hs h.yn h.told;have a8:i<rv.length+1:=by have:=(ec.1 hq).1;simpa using this
 have a0:∀k q',k<i+1->(p::(rv++t))[k]?=some q'->(p::rv)[k]?=some q':=λk q' hk h=>by rw[<-io,fy (by simp;omega)]at h;exact h
 have a7:Pq get ru env q:=⟨x,hx,λd hd=>let⟨v,a,b,_⟩:=r4 d hd;⟨v,a,b⟩⟩;have has:∀r,HO get ru env q r->r∈rv++t:=λr ⟨y,d,hy,hd,hr,hv⟩=>by rw[hx,ff]at hy;subst hy;obtain⟨v,a,_,b⟩:=r4 d hd;rw[hv,ff]at a;obtain⟨n,u⟩:=r;simp only at hr a;subst hr;subst a;exact b
 have a6:q=p\/Reach get ru env p q:=by
  cases i with
  |zero=>simp at hq;exact .inl hq.H
  |succ j=>exact .inr (h.reach q (by rw[qg]at hq;exact fx hq))
 refine⟨r1,r2,λr hr=>?_,by simp;omega,λk q' hk a4=>?_,λk q' hk a4 r ha=>?_⟩
 .rcases r5 r hr with hr|⟨d,hd,hn⟩
  .exact h.reach r hr
  .have ha:HO get ru env q r:=⟨x,d,hx,hd,hn,by rw[<-hn];exact r2 r hr⟩;obtain rfl|a6:=a6
   .exact .one ha
   .exact .more a6 ha
 .obtain a5|rfl:=iy.1 hk
  .exact h.Xbj k q' a5 (a0 k q' hk a4)
  .have:=a0 k q' hk a4;rw[hq,ff]at this;subst this;exact a7
 .obtain a5|rfl:=iy.1 hk
  .exact ib _ (h.asks k q' a5 (a0 k q' hk a4) r ha)
  .have:=a0 k q' hk a4;rw[hq,ff]at this;subst this;exact has r ha
def ë.len{rv:Η}(h:ë get ru env p i rv):rv.length<=env.length:=Zg8 h.yn h.told
def PX:∀(f i:Nat)(rv a:Η),ë get ru env p i rv->C2 get ru env p f i rv=some a->ë get ru env p (a.length+1) a
 |0,_,_,_,_,h=>by cases h
 |f+1,i,rv,a,hI,h=>by
  unfold C2 at h;cases hq:(p::rv)[i]? with
  |none=>
   rw[hq]at h;simp only[ff]at h;subst h;have:i=rv.length+1:=by have h1:=nc.1 hq;have h2:=hI.le;simp at h1;omega
   rwa [<-this]
  |some q=>
   rw[hq]at h;simp only at h;cases hx:get q.Y q.v with
   |none=>rw[hx]at h;cases h
   |some x=>
    rw[hx]at h;simp only at h;cases hs:B5 env (BL ru x.sw) rv with
    |none=>rw[hs]at h;cases h
    |some a0=>rw[hs]at h;exact PX f (i+1) a0 a (hI.next hq hx hs) h
def ZU{rv:Η}{q:sy}(hq:(p::rv)[i]?=some q)(hg:get q.Y q.v=none):C2 get ru env p (f+1) i rv=none:=by rw[C2,hq];simp only[hg]
def ZS{rv:Η}{q:sy}{y:sf}(hq:(p::rv)[i]?=some q)(hg:get q.Y q.v=some y)(hs:B5 env (BL ru y.sw) rv=none):C2 get ru env p (f+1) i rv=none:=by rw[C2,hq];simp only[hg,hs]
def ZT{rv out':Η}{q:sy}{y:sf}(hq:(p::rv)[i]?=some q)(hg:get q.Y q.v=some y)(hs:B5 env (BL ru y.sw) rv=some out'):C2 get ru env p (f+1) i rv=C2 get ru env p f (i+1) out':=by rw[C2,hq];simp only[hg,hs]
def ZR{rv:Η}(hq:(p::rv)[i]?=none):C2 get ru env p (f+1) i rv=some rv:=by rw[C2,hq]
def ZY{d:uf}{l:Ι}{rv:Η}(h:un env d.Y=none):B5 env (d::l) rv=none:=by rw[B5,h]
def ZX{d:uf}{l:Ι}{rv:Η}{v:sq}(h:un env d.Y=some v)(a0:B2 d.range v=false):B5 env (d::l) rv=none:=by rw[B5,h];simp[a0]
def ZZ{d:uf}{l:Ι}{rv:Η}{v:sq}(h:un env d.Y=some v)(a0:B2 d.range v=true)(ho:rv.any (As d.Y)=true):B5 env (d::l) rv=B5 env l rv:=by rw[B5,h];simp[a0,ho]
def ZW{d:uf}{l:Ι}{rv:Η}{v:sq}(h:un env d.Y=some v)(a0:B2 d.range v=true)(ho:rv.any (As d.Y)=false):B5 env (d::l) rv=B5 env l (rv++[⟨d.Y,v⟩]):=by rw[B5,h];simp only[a0,ho,if_true,ni,if_false]
def PY{a:Η}(h:uk get ru env p=some a):yy a/\(∀r,r∈a↔Reach get ru env p r)/\(∀q,(q=p\/q∈a)->Pq get ru env q)/\∀r∈a,un env r.Y=some r.v:=by
 unfold uk at h;cases hg:C2 get ru env p (env.length+2) 0 []with
 |none=>rw[hg]at h;cases h
 |some b=>
  rw[hg]at h;simp only[ir,ff]at h;subst h;have hI:=PX _ _ _ _ ë.zero hg;have hm:∀r,r∈AD b↔r∈b:=λr=>(DG b).mem_iff;have a0:∀q,(q=p\/q∈b)->∃k,k<b.length+1/\(p::b)[k]?=some q:=λq hq=>by
   obtain rfl|hq:=hq
   .exact⟨0,oM,rfl⟩
   .obtain⟨k,hk,he⟩:=gh.1 hq;exact⟨k+1,oM,by rw[qg,dw hk,he]⟩
  refine⟨M6 hI.yn,λr=>⟨λhr=>hI.reach r ((hm r).1 hr),λhr=>(hm r).2 ?_⟩,λq hq=>?_,λr hr=>hI.told r ((hm r).1 hr)⟩
  .have key:∀r,Reach get ru env p r->r∈b:=λr hr=>by
    induction hr with
    |one ha=>obtain⟨k,hk,he⟩:=a0 p (.inl rfl);exact hI.asks k _ hk he _ ha
    |more _ ha ih=>obtain⟨k,hk,he⟩:=a0 _ (.inr ih);exact hI.asks k _ hk he _ ha
   exact key r hr
  .obtain⟨k,hk,he⟩:=a0 q (hq.imp id (hm q).1);exact hI.Xbj k q hk he
end
end Go.Hal
namespace Go.Hal
def yq{v:sq}{R:À}(hR:∀w',AI w w'->R v.W w'):EN v.ma v.mi v.pa w R:=by refine An.intro λ_ _ _ hb _ _=>?_;refine⟨_,_,_,lD,?_⟩;exact K9.V (ś λw' hx=>⟨_,_,rfl,hR _ xT⟩)
def G2(x:tv):Bool:=x.lo.vt&&x.hi.vt&&decide (x.lo.W<=x.hi.W)
def Dz:Int->Λ->Int
 |m,[]=>m
 |_,y::r=>Dz (y.hi.W+2) r
def Zlp(l:Λ):∀(m:Int)(x:tv),BA m (l++[x])=(BA m l&&(G2 x&&decide (Dz m l<=x.lo.W))):=by
 induction l with
 |nil=>intro m x;simp only[iz,BA,G2,Dz];cases x.lo.vt<;>cases x.hi.vt<;>by_cases h1:m<=x.lo.W<;>by_cases h2:x.lo.W<=x.hi.W<;>simp[h1,h2]
 |cons y r ih=>intro m x;rw[io,BA,BA,ih];exact(qo ..).H
def WZ(l:Λ):∀(m:Int)(x:tv),Dz m (l++[x])=x.hi.W+2:=by
 induction l with
 |nil=>intro m x;rfl
 |cons y r ih=>intro m x;exact ih _ x
def Zlo{l k:Λ}{m:Int}(h:BA m (l++k)=true):BA m l=true:=by
 induction l generalizing m with
 |nil=>rfl
 |cons y r ih=>rw[io,BA]at h;rw[BA];simp only[ep]at h ⊢;exact⟨h.1,ih h.2⟩
def Sf{l:Λ}(h:BA 0 (l.take i)=false):AP l=false:=by
 unfold AP;cases hg:BA 0 l
 .simp
 .rw[<-gk i l]at hg;rw[Zlo hg]at h;cases h
def Xa{l:Λ}(hn:n<l.length)(hI:BA 0 (l.take n)=true):BA 0 (l.take (n+1))=(G2 l[n]&&decide (Dz 0 (l.take n)<=l[n].lo.W)):=by rw[dz hn,Zlp,hI,iu]
def WY{l:Λ}(h1:l.length<=64)(h2:BA 0 l=true):AP l=true:=by simp[AP,h1,h2]
def Ê{l:Λ}(hs:IT ui w S s l)(hR:∀w',AI w w'->R (AP l) w'):G3 s w R:=by
 unfold G3;have hl:=hs.len;refine⟨λh=>?_,λh=>?_⟩
 .have:AP l=false:=by unfold AP;rw[gl oM];rfl
  rw[<-this];exact hR _ xR
 have a5:l.length<=64:=oM;refine uc.up hs.max (λm i w'=>AI w w'/\m=Dz 0 (l.take i)/\BA 0 (l.take i)=true) ⟨AI.refl _,rfl,rfl⟩ λm i w1 b0 hi ⟨x1,hm,hI⟩ hn=>⟨λa6=>?_,λa9=>?_⟩
 .have a0:i<l.length:=oM;obtain⟨ad,ha,_,hc⟩:=Fe hs a0;have a7:=Xa a0 hI;refine⟨ad,⟨ha,oM,a6⟩,_,_,_,_,_,_,hc _ xT,An.intro λa w2 x2 hb a8 _=>tj.intro hb sI λw3 b3 _ a4=>?_⟩;have x3:AI w1 w3:=b3.U x2 oM;refine⟨_,_,_,a4.at0 xR rfl,FP.V (MN (v:=l[i].lo) λw4 x4=>⟨_,_,rfl,?_⟩)⟩;refine⟨_,_,_,a4.at1 xT rfl,FP.V (MN (v:=l[i].hi) λw5 x5=>⟨_,_,rfl,py (py (py ?_))⟩)⟩;have e:((((!l[i].lo.vt)||(!l[i].hi.vt))||decide (l[i].lo.W<m))||decide (l[i].hi.W<l[i].lo.W))= !BA 0 (l.take (i+1)):=by
   rw[a7,hm,G2];have e1:decide (l[i].lo.W<Dz 0 (l.take i))= !decide (Dz 0 (l.take i)<=l[i].lo.W):=by rw[<-decide_not,ke];omega
   have e2:decide (l[i].hi.W<l[i].lo.W)= !decide (l[i].lo.W<=l[i].hi.W):=(by rw[<-decide_not,ke];omega);rw[e1,e2];cases l[i].lo.vt<;>cases l[i].hi.vt<;>cases decide (Dz 0 (l.take i)<=l[i].lo.W)<;>cases decide (l[i].lo.W<=l[i].hi.W)<;>rfl
  rw[e];have hr:=sq.Ĕ (v:=l[i].hi);rw[Ai (x:=l[i].hi.W+2) oM oM];refine⟨λh=>?_,λh=>hn a0 _ _ ⟨xT,?_,by simpa using h⟩⟩
  .rw[<-Sf (i:=i+1) (by simpa using h)];exact hR _ xT
  .rw[dz a0,WZ]
 .have:i=l.length:=oM;rw[this,fe]at hI;rw[<-WY a5 hI];exact hR _ xT
def Zlm{l:Λ}(hn:n+1<l.length):Dz 0 (l.take (n+1))=l[n].hi.W+2:=by rw[dz oM,WZ]
def ĭ{l:Λ}(hs:IT ui w S s l)(hR:∀w',AI w w'->R (AP l) w'):I2 s w R:=by
 unfold I2;have hl:=hs.len;refine⟨λh=>?_,λh=>?_⟩
 .have:AP l=false:=by unfold AP;rw[gl oM];rfl
  rw[<-this];exact hR _ xR
 have b4:l.length<=64:=oM;refine rn.up hs.max (λi w'=>AI w w'/\BA 0 (l.take i)=true) ⟨AI.refl _,rfl⟩ λi w1 c6 hi ⟨x1,hI⟩ hn=>⟨λb8=>sh.drew λw2 x2=>?_,λc5=>?_⟩
 .have a6:i<l.length:=oM;obtain⟨ad,ha,_,hc⟩:=Fe hs a6;have b0:=Xa a6 hI;have a4:s.a=some ad/\(0:Int)<=(i:Int)/\(i:Int)<(s.len:Int):=⟨ha,oM,b8⟩;refine⟨ad,a4,_,_,_,(hc _ xT).pre rfl,F7.V (zy λw3 x3=>⟨_,rfl,py ?_⟩)⟩;refine⟨ad,λ_=>a4,_,_,_,λ_=>(hc _ xT).G rfl,No.intro l[i].hi.vt (λ_ q hq=>F7.V (zy λw' hx=>⟨_,rfl,hq _ hx⟩)) λt w4 x4 ht=>py ?_⟩;refine⟨ad,λ_=>a4,_,_,_,λ_=>(hc _ xT).pre rfl,ad,λ_=>a4,_,_,_,λ_=>(hc _ xT).G rfl,?_⟩;refine No.intro l[i].lo.W (λ_ q hq=>tc.intro (EN.V (yq λw' hx=>⟨hx,_,rfl,hq _ hx⟩))) λt2 w5 x5 a7=>?_;refine No.intro l[i].hi.W (λ_ q hq=>EN.V (yq λw' hx=>⟨_,rfl,hq _ hx⟩)) λt3 w6 x6 a8=>?_;have e:(((!l[i].lo.vt)||(!t))||decide (t3<t2))= !G2 l[i]:=by
   unfold G2;cases h1:l[i].lo.vt
   .rfl
   .rw[h1]at ht a7 a8;rw[ht rfl];rw[ht rfl]at a7 a8;cases h2:l[i].hi.vt
    .rfl
    .rw[h2]at a7 a8;rw[a7 rfl,a8 rfl];have e2:decide (l[i].hi.W<l[i].lo.W)= !decide (l[i].lo.W<=l[i].hi.W):=by rw[<-decide_not,ke];omega
     rw[e2];cases decide (l[i].lo.W<=l[i].hi.W)<;>rfl
  rw[e];refine⟨λh=>?_,λh=>sh.drew λw7 x7=>py ?_⟩
  .have:BA 0 (l.take (i+1))=false:=by
    rw[b0];have:G2 l[i]=false:=by simpa using h
    rw[this];rfl
   rw[<-Sf this];exact hR _ xT
  have b9:G2 l[i]=true:=by simpa using h
  rw[b9,iu]at b0;have a9:(0:Int)<i->∃h:i - 1<l.length,Aa ((i:Int) - 1)=((i - 1:Nat):Int):=λh0=>⟨oM,by rw[Ai oM (by have:=hs.max;rw[Al]at this;omega)];omega⟩;have a5:∀h0:0<i,Dz 0 (l.take i)=(l[i - 1]'oM).hi.W+2:=λh0=>by have:=Zlm (l:=l) (n:=i - 1) oM;rw[<-this];congr 2;omega
  have hd:∃(a0:LP) (u1 u2 u3:Int),(decide ((0:Int)<(i:Int))=true->(s.a=some a0/\(0:Int)<=Aa ((i:Int) - 1)/\Aa ((i:Int) - 1)<(s.len:Int))/\se w7 ((a0.add ((Aa ((i:Int) - 1)).toNat*6)).add 3) [vi u1,vi u2,vi u3]/\(⟨u1,u2,u3⟩:sq).W=Dz 0 (l.take i) - 2):=by
   by_cases h0:0<i
   .obtain⟨hp,ew⟩:=a9 oM;obtain⟨b2,b5,_,b6⟩:=Fe hs hp;refine⟨b2,_,_,_,λ_=>⟨by rw[ew];exact⟨b5,oM,oM⟩,by rw[ew];exact(b6 _ xT).G rfl,?_⟩⟩;rw[a5 h0];show(l[i - 1]'hp).hi.W=_;omega
   .exact⟨ad,0,0,0,λh=>by simp at h;omega⟩
  obtain⟨a0,u1,u2,u3,hu⟩:=hd;refine⟨ad,λ_=>a4,_,_,_,λ_=>(hc _ xT).pre rfl,a0,λhb=>(hu hb).1,u1,u2,u3,λhb=>(hu hb).2.1,?_⟩;refine No.intro l[i].lo.W (λ_ q hq=>tc.intro (EN.V (yq λw' hx=>⟨hx,_,rfl,hq _ hx⟩))) λt4 w8 x8 c3=>?_;refine No.intro (Dz 0 (l.take i) - 2) (λhb q hq=>EN.V (yq (v:=⟨u1,u2,u3⟩) λw' hx=>⟨_,rfl,by rw[(hu hb).2.2];exact hq _ hx⟩)) λt5 w9 x9 c4=>?_;have e2:(decide ((0:Int)<(i:Int))&&decide (t4<=Aa (t5+1)))= !BA 0 (l.take (i+1)):=by
   rw[b0];by_cases h0:0<i
   .have hb:decide ((0:Int)<(i:Int))=true:=(by simpa using h0);rw[c3 hb,c4 hb,hb,iu];have h1:=a5 h0;have h2:=sq.Ĕ (v:=l[i - 1].hi);rw[Ai oM oM,<-decide_not,ke];omega
   .have hb:decide ((0:Int)<(i:Int))=false:=(by simp;omega);have b7:i=0:=oM;subst b7;have:=sq.Ĕ (v:=l[0].lo);rw[hb,Bool.false_and,List.take_zero,Dz,ie oM];rfl
  rw[e2];refine⟨λh=>?_,λh=>hn a6 _ ⟨xT,by simpa using h⟩⟩;rw[<-Sf (i:=i+1) (by simpa using h)];exact hR _ xT
 .have:i=l.length:=oM;rw[this,fe]at hI;rw[<-WY b4 hI];exact hR _ xT
def AX{α:Type}(p:α->Bool)(l:List α):Int:=match l.findIdx? p with|some i=>i|none=>-1
def FA{α:Type}{p:α->Bool}{l:List α}(hn:n<l.length)(h0:(l.take n).any p=false)(h:p l[n]=true):AX p l=n:=by
 unfold AX;have:l.findIdx? p=some n:=by
  rw[jw];refine⟨hn,h,λj hj=>?_⟩;have hm:l[j]∈l.take n:=by rw[List.mem_take_iff_getElem];exact⟨j,oM,rfl⟩
  have:=mm.1 h0 _ hm;simpa using this
 rw[this]
def EQ{α:Type}{p:α->Bool}{l:List α}(h0:l.any p=false):AX p l= -1:=by
 unfold AX;have:l.findIdx? p=none:=by rw[nf];intro x hx;have:=mm.1 h0 x hx;simpa using this
 rw[this]
def F9{α:Type}{p:α->Bool}{l:List α}:decide (0<=AX p l)=l.any p:=by
 cases h:l.any p
 .rw[EQ h];rfl
 .obtain⟨x,hx,hp⟩:=jv.1 h;unfold AX;cases hf:l.findIdx? p with
  |none=>rw[nf]at hf;rw[hf x hx]at hp;cases hp
  |some i=>simp
def FL{α:Type}{p:α->Bool}{l:List α}(hn:n<l.length)(h0:(l.take n).any p=false):(l.take (n+1)).any p=p l[n]:=by rw[dz hn,List.any_append,h0];simp
def Fw{α:Type}(f:HT)(enc:α->HT)(p:α->Bool)(l:List α)(w:Qd):Prop:=
 ∀x∈l,∀w' (k:Ã),AI w w'->(∀w'',AI w' w''->k (.bool (p x)) w'')->ug prog f [enc x] w' k
def ř{l:Λ}{f:HT}{p:tv->Bool}{R:À}(hs:IT ui w S s l)(hf:Fw f (λx=>.agg #[vi x.lo.ma,vi x.lo.mi,vi x.lo.pa,vi x.hi.ma,vi x.hi.mi,vi x.hi.pa]) p l w)
  (hR:∀w',AI w w'->R (AX p l) w'):Mx s f w R:=by
 unfold Mx;have hl:=hs.len;refine rn.up hs.max (λi w'=>AI w w'/\(l.take i).any p=false) ⟨AI.refl _,rfl⟩ λi w1 a6 hi ⟨x1,hI⟩ hn=>⟨λa4=>?_,λa5=>?_⟩
 .have a0:i<l.length:=oM;obtain⟨ad,ha,_,hc⟩:=Fe hs a0;refine⟨ad,⟨ha,oM,a4⟩,_,_,_,_,_,_,hc _ xT,hf _ (fm a0) _ _ x1 λw2 x2=>⟨_,rfl,λh=>?_,λh=>?_⟩⟩
  .rw[<-FA a0 hI h];exact hR _ xT
  .exact hn a0 _ ⟨xT,by rwa [FL a0 hI]⟩
 .have:i=l.length:=oM;rw[this,fe]at hI;rw[<-EQ hI];exact hR _ xT
def ZM{l:Λ}{f:HT}{p:tv->Bool}(hs:IT ui w S s l)(hf:Fw f (λx=>.agg #[vi x.lo.ma,vi x.lo.mi,vi x.lo.pa,vi x.hi.ma,vi x.hi.mi,vi x.hi.pa]) p l w)
  (hR:∀w',AI w w'->R (l.any p) w'):Mn s f w R:=by
 unfold Mn;exact Mx.V (ř hs hf λw' hx=>⟨_,rfl,by rw[F9];exact hR _ hx⟩)
def Ud{x y z:Int}{R:À}(hs:IT Ci w S s [x,y,z])(hR:R (AM x (AM y z)) w):EK s w R:=
 Ue hs (by
  have: [x,y,z].foldr AM 0=AM x (AM y z):=by
   show AM x (AM y (AM z 0))=_;have:AM z 0=z:=by unfold AM;split<;>simp_all
   rw[this]
  rwa [this])
def N0{l:Β}(h:AT w a (l.map (Value.int .i64)))(hl:l.length<=1000):IT Ci w (λb=>b=a.block) ⟨some a,l.length,l.length⟩ l:=
 ⟨rfl,ga _,by show l.length<=maxLen;rw[Al];omega,by show l.length*8<=Ab;unfold Ab;omega,.inr ⟨a,rfl,rfl,λi x hx=>⟨_,⟨rfl,trivial⟩,by have:=h.se.sub i 1;show se w (a.add (i*1)) [Value.int .i64 x];rw[qw];refine this.of rfl ?_;obtain⟨hi,he⟩:=ec.1 hx;rw[<-List.map_drop,gp hi,he];rfl⟩⟩⟩
def Þ{a b:sq}{R:À}(hR:∀w',AI w w'->R (a.cmp b) w'):Fm a.ma a.mi a.pa b.ma b.mi b.pa w R:=by refine An.intro λ_ _ _ hb _ _=>An.intro λ_ _ _ a5 _ _=>sh.drew λw3 x3=>?_;refine⟨_,lD,?_⟩;refine⟨_,lD,?_⟩;refine⟨_,lD,?_⟩;refine⟨_,lD,?_⟩;refine⟨_,lD,?_⟩;refine⟨_,lD,?_⟩;refine tc.intro (Ei.V (yp ⟨AI.refl _,_,rfl,tc.intro (Ei.V (yp ⟨AI.refl _,_,rfl,Ei.V (yp ⟨_,rfl,?_⟩)⟩))⟩));refine An.intro λa4 w4 x4 a0 _ _=>EK.V (Ud (N0 (l:=[_,_,_]) a0 sI) ⟨_,rfl,?_⟩);exact hR _ xT
def Zll{x:tv}{v:sq}{c0:LP}(hc:se w c0 v.c)(hR:∀w',AI w w'->R (decide (x.lo.cmp v<=0)&&decide (v.cmp x.hi<=0)) w'):M7 x.lo.ma x.lo.mi x.lo.pa x.hi.ma x.hi.mi x.hi.pa c0 w R:=by
 refine An.intro λ_ w1 x1 hb _ _=>?_;refine⟨_,_,_,lD,?_⟩;refine⟨v.ma,v.mi,v.pa,hc.U x1,Fm.V (Þ (a:=x.lo) (b:=v) λw2 x2=>⟨_,rfl,py ⟨v.ma,v.mi,v.pa,λ_=>hc.U xT,x.hi.ma,x.hi.mi,x.hi.pa,λ_=>hb.at1 xT rfl,?_⟩⟩)⟩;refine No.intro (v.cmp x.hi) (λ_ q hq=>Fm.V (Þ λw' hx=>⟨_,rfl,hq _ hx⟩)) λt w3 x3 ht=>?_;have e:(decide (x.lo.cmp v<=0)&&decide (t<=0))=(decide (x.lo.cmp v<=0)&&decide (v.cmp x.hi<=0)):=by
  cases h:decide (x.lo.cmp v<=0)
  .rfl
  .rw[ht h]
 rw[e];exact hR _ xT
def Zbm:Bi prog 188:=enters_of func188 kR rfl
def Se{l:Λ}{v:sq}(hs:IT ui w S s l)(hR:∀w',AI w w'->R (B2 l v) w'):HD s v.ma v.mi v.pa w R:=by
 refine An.intro λa w1 x1 hb _ _=>G3.V (Ê (hs.U x1) λw2 x2=>⟨_,rfl,v.ma,v.mi,v.pa,λ_=>hb.at0 xT rfl,?_⟩);refine No.intro v.vt (λ_ q hq=>E8.V (HK (v:=v) λw' hx=>⟨_,rfl,hq _ hx⟩)) λt w3 x3 ht=>py ?_;have hf:Fw (.func (.func 188) #[] #[.pointer (some a)]) (λx:tv=>.agg #[vi x.lo.ma,vi x.lo.mi,vi x.lo.pa,vi x.hi.ma,vi x.hi.mi,vi x.hi.pa]) (λx=>decide (x.lo.cmp v<=0)&&decide (v.cmp x.hi<=0)) l w3:=by intro x _ w' k hx hk;refine⟨_,_,rfl,Zbm,?_⟩;exact M7.V (Zll (v:=v) (hb.at0 xT rfl) hk)
 refine No.intro (l.any _) (λ_ q hq=>Mn.V (ZM (hs.U xT) hf λw' hx=>⟨_,rfl,hq _ hx⟩)) λt2 w4 x4 a0=>?_;have e:((AP l&&t)&&t2)=B2 l v:=by
  unfold B2;cases h:AP l
  .rfl
  .rw[h]at ht a0;rw[ht rfl]at a0 ⊢;cases h':v.vt
   .rfl
   .rw[h']at a0;rw[a0 rfl];show l.any _=l.any _;have hm:∀x∈l,x.lo.vt=true/\x.hi.vt=true:=by
     have:∀(l:Λ) m,BA m l=true->∀x∈l,x.lo.vt=true/\x.hi.vt=true:=by
      intro l;induction l with
      |nil=>intro m _ x hx;cases hx
      |cons y r ih=>
       intro m h x hx;rw[BA]at h;simp only[ep]at h;obtain rfl|hx:=gj.1 hx
       .exact⟨h.1.1.1.1,h.1.1.1.2⟩
       .exact ih _ h.2 x hx
     unfold AP at h;simp only[ep]at h;exact this l 0 h.2
    rw[ij,jv,jv];constructor
    .rintro⟨x,hx,hp⟩;refine⟨x,hx,?_⟩;simp only[ep,fp,tv.has]at hp ⊢;rwa [sq.õ (hm x hx).1 h',sq.õ h' (hm x hx).2]at hp
    .rintro⟨x,hx,hp⟩;refine⟨x,hx,?_⟩;simp only[ep,fp,tv.has]at hp ⊢;rwa [sq.õ (hm x hx).1 h',sq.õ h' (hm x hx).2]
 rw[e];exact hR _ xT
def WW{l:Λ}(h:AP l=true):∀x∈l,x.lo.vt=true/\x.hi.vt=true:=by
 have:∀(l:Λ) m,BA m l=true->∀x∈l,x.lo.vt=true/\x.hi.vt=true:=by
  intro l;induction l with
  |nil=>intro m _ x hx;cases hx
  |cons y r ih=>
   intro m h x hx;rw[BA]at h;simp only[ep]at h;obtain rfl|hx:=gj.1 hx
   .exact⟨h.1.1.1.1,h.1.1.1.2⟩
   .exact ih _ h.2 x hx
 unfold AP at h;simp only[ep]at h;exact this l 0 h.2
def WX{l:Λ}(h:AP l=true):l.length<=64:=by unfold AP at h;simp only[ep,fp]at h;exact h.1
def H0(l:Λ)(i:Nat):LU:=BJ (l.take i)++(if 0<i then [32,124,124,32]else [])
def Ze4{l:Λ}(h:i<l.length):BJ (l.take (i+1))=H0 l i++A8 l[i]:=by
 rw[dz h,Ze3];unfold H0;by_cases h0:0<i
 .rw[fb,fo h0];intro h1;rw[List.take_eq_nil_iff]at h1;obtain h1|h1:=h1
  .omega
  .rw[h1]at h;simp at h
 .have:i=0:=oM;subst this;simp[BJ]
def Zii{l:Λ}(h:i<=l.length):(H0 l i).length<=31*i+4:=by have:=Oi (l.take i);rw[fk,ky h]at this;unfold H0;split<;>simp<;>omega
def Zi0{l:Λ}{R:Å}(hs:IT ui w S s l)(hR:∀w',AI w w'->R (B (Cd l)) w'):KA s w R:=by
 unfold KA;have hl:=hs.len;refine I2.V (ĭ hs λw1 x1=>⟨_,rfl,λh=>?_,λh=>?_⟩)
 .have e:AP l=false:=by simpa using h
  have:Cd l=[]:=by unfold Cd;rw[e];rfl
  have hr:=hR w1 xT;rw[this]at hr;exact hr
 have hm:AP l=true:=by simpa using h
 have b2:=WX hm;refine⟨λh=>?_,λh=>?_⟩
 .have:Cd l= [60,48,46,48,46,48]:=by unfold Cd;rw[hm,fo rfl,fo (fq oM)]
  have hr:=hR w1 xT;rw[this]at hr;exact hr
 have a8:l≠[]:=λh0=>h (by rw[hl,h0];rfl);have a9:Cd l=BJ l:=by unfold Cd;rw[hm,fo rfl,fb a8]
 refine uc.up hs.max (λrv i w'=>AI w w'/\rv=B (BJ (l.take i))) ⟨xT,rfl⟩ λrv i w2 b6 hi ⟨x2,hI⟩ hn=>⟨λa7=>?_,λb4=>?_⟩
 .have a4:i<l.length:=oM;obtain⟨ad,ha,_,hc⟩:=Fe hs a4;obtain⟨m1,m2⟩:=WW hm _ (fm a4);have a0:s.a=some ad/\(0:Int)<=(i:Int)/\(i:Int)<(s.len:Int):=⟨ha,oM,a7⟩;have b5:=Zii (l:=l) (i:=i) oM;have b0:=Rb l[i];have v1:=DH l[i].lo;have v2:=DH l[i].hi;subst hI;refine join.named λJ hJ=>join.named λJ2 a5=>?_;have hk:∀t w3,AI w w3->t=B (H0 l i++A8 l[i])->J t w3:=λt w3 x3 ht=>by rw[hJ];exact hn a4 _ _ ⟨x3,by rw[ht,Ze4 a4]⟩
  have key:∀w3,AI w w3->J2 (B (H0 l i)) w3:=by
   intro w3 x3;rw[a5];refine⟨ad,a0,_,_,_,(hc _ xT).pre rfl,Ge.V (O4 (v:=l[i].lo) λw4 x4=>⟨_,rfl,?_⟩)⟩;refine⟨by rw[Af,AL,Au];simp;omega,ad,a0,_,_,_,(hc _ xT).G rfl,Ge.V (O4 (v:=l[i].hi) λw5 x5=>⟨_,rfl,?_⟩)⟩;refine⟨by rw[Af,AL,Au];simp;omega,ad,a0,_,_,_,(hc _ xT).pre rfl,EN.V (yq (v:=l[i].lo) λw6 x6=>⟨_,rfl,?_⟩)⟩;refine⟨ad,a0,_,_,_,(hc _ xT).G rfl,EN.V (yq (v:=l[i].hi) λw7 x7=>⟨_,rfl,sh.drew λw8 x8=>?_⟩)⟩;refine⟨ad,a0,_,_,_,(hc _ xT).pre rfl,ad,a0,_,_,_,(hc _ xT).G rfl,?_⟩;rw[FO];refine⟨λh=>⟨ad,a0,_,_,_,(hc _ xT).pre rfl,Ge.V (O4 (v:=l[i].lo) λw9 x9=>⟨_,rfl,?_⟩)⟩,λh=>py ⟨λh2=>?_,λh2=>?_⟩⟩
   .have e:A8 l[i]=AK l[i].lo:=by unfold A8;rw[fo (by simpa using h)]
    refine⟨by rw[Af,Af,Au];omega,hk _ _ xT (by rw[e,Ba])⟩
   .have e:A8 l[i]= [42]:=by unfold A8;rw[fb (by simpa using h),fo (by simpa using h2)]
    refine⟨by rw[Af,AL,Au];simp;omega,hk _ _ xT (by rw[e,B4])⟩
   .have h2: ¬(l[i].lo.W=0/\l[i].hi.W=999999999):=(by simpa using h2);refine⟨λh3=>?_,λh3=>⟨λh4=>?_,λh4=>?_⟩⟩
    .have e:A8 l[i]= [60,61]++AK l[i].hi:=by unfold A8;rw[fb (by simpa using h),fb h2,fo h3]
     refine⟨by simp only[D9];rw[Af,Af,Au];simp;omega,hk _ _ xT (by rw[e,D9,Ba])⟩
    .have e:A8 l[i]= [62,61]++AK l[i].lo:=by unfold A8;rw[fb (by simpa using h),fb h2,fb h3,fo h4]
     refine⟨by simp only[D9];rw[Af,Af,Au];simp;omega,hk _ _ xT (by rw[e,D9,Ba])⟩
    .have e:A8 l[i]=(([62,61]++AK l[i].lo)++[32,60,61])++AK l[i].hi:=by unfold A8;rw[fb (by simpa using h),fb h2,fb h3,fb h4]
     simp only[D9,B4,Ba];refine⟨by rw[Af,Af,Au];simp;omega,by rw[Af,AL,Au];simp;omega,by rw[Af,Af,Au];simp;omega,hk _ _ xT (by rw[e];simp)⟩
  have e0:H0 l i=BJ (l.take i)++(if 0<i then [32,124,124,32]else []):=rfl;have a6:=Oi (l.take i);rw[fk,ky oM]at a6;refine⟨λh0=>⟨by rw[Af,AL,Au];simp;omega,?_⟩,λh0=>?_⟩
  .rw[fo oM]at e0;rw[B4];have:=key w2 x2;rw[e0]at this;exact this
  .rw[fb oM,gz]at e0;have:=key w2 x2;rw[e0]at this;exact this
 .have:i=l.length:=oM;rw[this,fe,<-a9]at hI;rw[hI];exact hR _ xT
def Tz:Bz prog 302 305 2 16:=CM (z:=.agg #[vi 0,vi 0]) kR kR rfl dC
def GN:Bz prog 57 9 1 16:=CM (z:=.string ⟨#[]⟩) kR kR rfl dC
def EV(l:Λ):List (Int×Int):=l.map λx=>(x.lo.W,x.hi.W)
def Zhe{l:Λ}{R:Sl->Wp}(hs:IT ui w S s l)(hR:∀t w',AI w w'->rl ą 305 w' w.heap.size rz t (EV l)->R t w'):MA s w R:=by
 unfold MA;have hl:=hs.len;refine uc.up hs.max (λrv i w'=>AI w w'/\rl ą 305 w' w.heap.size rz rv (EV (l.take i))) ⟨AI.refl _,rl.zero _⟩ λrv i w1 b4 hi ⟨x1,ux⟩ hn=>⟨λa8=>?_,λb2=>?_⟩
 .have a0:i<l.length:=oM;obtain⟨ad,ha,_,hc⟩:=Fe hs a0;refine⟨ad,⟨ha,oM,a8⟩,_,_,_,_,_,_,hc _ xT,An.intro λa w2 x2 hb b0 _=>tj.intro hb sI λw3 b3 _ a4=>?_⟩;have x3:AI w1 w3:=b3.U x2 oM;refine⟨_,_,_,a4.at0 xR rfl,FP.V (MN (v:=l[i].lo) λw4 x4=>⟨_,_,rfl,?_⟩)⟩;refine⟨_,_,_,a4.at1 xT rfl,FP.V (MN (v:=l[i].hi) λw5 x5=>⟨_,_,rfl,An.intro λa9 w6 x6 a7 _ _=>?_⟩)⟩;have a6:AI w1 w6:=xT;refine(ux.U a6).Ĉ (x1.Z a6) Tz (x:=(l[i].lo.W,l[i].hi.W)) ⟨rfl,trivial⟩ a7.se dC ?_ λr w7 a5 x7=>hn a0 _ _ ⟨x7,?_⟩
  .have:=hs.2.2.2.1;have e:ui.bytes=48:=rfl;have e':ą.bytes=16:=rfl;rw[e]at this;rw[e'];simp[EV];omega
  .rwa [dz a0,EV,gd]
 .have:i=l.length:=oM;rw[this,fe]at ux;exact hR _ _ x1 ux
def Ze2(x:tv)(r:Λ):BJ (x::r)=A8 x++Lib.joinTail [32,124,124,32] (r.map A8):=by
 induction r generalizing x with
 |nil=>simp[BJ,Lib.joinTail]
 |cons y t ih=>show A8 x++([32,124,124,32]++BJ (y::t))=_;rw[ih];simp[Lib.joinTail]
def Ze6(l:Λ):Lib.join ((l.map λx=>B (A8 x)).map (·.data.toList)) [32,124,124,32]=BJ l:=by
 have:(l.map λx=>B (A8 x)).map (·.data.toList)=l.map A8:=by rw[jj];rfl
 rw[this];cases l with
 |nil=>rfl
 |cons x r=>rw[gu,Lib.join_cons,Ze2]
def Ze5{l:Λ}{k:Ã}(h:rl vx 9 w w0.heap.size rz s (l.map λx=>B (A8 x)))(b0:l.length<=64)(a8:l≠[])(hk:∀w',AI w w'->k (.string (B (BJ l))) w'):
  si prog 243 [s.v,.string Ϫ] w k:=by
 have hr:=h.Ċ dC (by show _*16<=Ab;rw[eh];unfold Ab;omega);have a4:=hr.len;rw[eh]at a4;obtain⟨ad,cs,ha,_,_,_⟩:=hr.el (n:=0) (by rw[eh];exact nv.2 a8);have hb:=h.block ha;have a7:ad=⟨ad.block,0,none⟩:=hb.2.2;have hj:=Ze6 l;have e:s.v= .slice (some ⟨ad.block,0,none⟩) (l.map λx=>B (A8 x)).length s.cap:=by unfold Sl.v;rw[ha,a4,eh,<-a7]
 rw[e];have hc:∀(j:Nat) x,(l.map λx=>B (A8 x))[j]?=some x->w.cell? ⟨ad.block,0+j,none⟩=some (.string x):=by
  intro j x hx;obtain⟨a9,cs,a6,_,⟨rfl,_⟩,hc⟩:=hr.get hx;rw[ha,ff]at a6;subst a6;have:=hc 0 (.string x) rfl;rw[a7,Dl]at this;have e2:(Addr.add ⟨ad.block,0,none⟩ (j*vx.n+0))=⟨ad.block,0+j,none⟩:=by show Addr.add _ (j*1+0)=_;rw[GL,qw,lq,lu]
  rw[e2]at this;exact this
 have b2:=Oi l;have a0:=Any.strings_Join Tryz.ū ({sizeBuilder:=by kernel_rfl,liesBuilder:=by kernel_rfl,t5:=underlying5,a5:=Tryz.isAgg5,z5:=Tryz.sizeOf5,v5:=Tryz.zeroValue5,infoByte:=by kernel_rfl,cellsByte:=by kernel_rfl,sizeByte:=by kernel_rfl,neB5:=by decide}:Builder.Extra prog Tryz.ā) ad.block 0 s.cap (l.map λx=>B (A8 x)) Ϫ w hc hb.2.1
  (by rw[eh];omega) (by have:=hr.2.1;exact this) (by have:Ϫ.data.toList= [32,124,124,32]:=rfl;rw[this,hj];omega)
 have e3:Ϫ.data.toList= [32,124,124,32]:=rfl;rw[e3,hj]at a0;exact a0.O λe w' ⟨he,hb⟩=>⟨_,he,hk w' hb⟩
def WV{l:Λ}{R:Å}(ht:Í w)(hs:IT ui w S s l)(hR:∀w',AI w w'->R (B (Cd l)) w'):Jo s w R:=by
 unfold Jo;have hl:=hs.len;refine G3.V (Ê hs λw1 x1=>⟨_,rfl,λh=>?_,λh=>?_⟩)
 .have e:AP l=false:=by simpa using h
  have:Cd l=[]:=by unfold Cd;rw[e];rfl
  have hr:=hR w1 xT;rw[this]at hr;exact hr
 have hm:AP l=true:=by simpa using h
 have c6:=WX hm;refine MA.V (Zhe (hs.U x1) λnums w2 x2 c3=>⟨_,rfl,?_⟩);have hN:=c3.Ċ dC (by show _*16<=Ab;unfold EV;rw[eh];unfold Ab;omega);have e0:(EV l).length=l.length:=by unfold EV;rw[eh]
 have d5:=hN.len;refine uc.up hN.max (λrv i w'=>AI w2 w'/\rl vx 9 w' w2.heap.size rz rv ((l.take i).map λx=>B (A8 x))) ⟨AI.refl _,rl.zero _⟩ λrv i w3 e1 hi ⟨x3,ux⟩ hn=>⟨λc9=>?_,λd9=>?_⟩
 .have a9:i<l.length:=oM;have b0:i<(EV l).length:=oM;obtain⟨ad,ha,_,hc⟩:=O8 hN b0;have c7:(EV l)[i]=(l[i].lo.W,l[i].hi.W):=by simp[EV]
  rw[c7]at hc;obtain⟨m1,m2⟩:=WW hm _ (fm a9);have v1:=DH l[i].lo;have v2:=DH l[i].hi;refine join.named λJ hJ=>?_;have push:∀(t:PU) w4,AI w3 w4->t=B (A8 l[i])->An w4 [.string t] 9 λa w5=>ue prog 57 57 rv (Sl.v (Sl.mk (some a) 1 1)) w5 λr w6=>J r w6:=by
   intro t w4 x4 b9;refine An.intro λa w5 x5 a0 _ _=>?_;refine(ux.U (x4.Z x5)).Ĉ (x3.Z (x4.Z x5)) GN (x:=t) ⟨rfl,?_⟩ a0.se dC ?_ λr w7 b2 x7=>?_
   .have:=Rb l[i];rw[b9];show(B (A8 l[i])).size<=maxLen;rw[Af,Al];omega
   .show(_+1)*16<=Ab;rw[eh,fk,ky oM];unfold Ab;omega
   .rw[hJ];refine hn b0 _ _ ⟨x7,?_⟩;rw[dz a9,gd];rw[b9]at b2;exact b2
  clear hJ;refine⟨ad,⟨ha,oM,c9⟩,_,_,hc _ xT,An.intro λa w4 x4 hb d8 _=>tj.intro hb sI λw5 b5 _ a0=>?_⟩;have x5:AI w3 w5:=b5.U x4 oM;have t5:Í w5:=ht.U xT;refine⟨_,a0.at0 xR rfl,G6.V (á λw6 x6=>⟨_,_,_,_,rfl,?_⟩)⟩;rw[OZ m1];refine An.intro λd6 w7 x7 a4 d3 _=>tj.intro a4 sI λw8 b8 _ a4=>?_;have x8:AI w6 w8:=b8.U x7 oM;refine⟨_,a0.at1 xT rfl,G6.V (á λw9 x9=>⟨_,_,_,_,rfl,?_⟩)⟩;rw[OZ m2];refine An.intro λd7 e2 d1 a6 d4 _=>tj.intro a6 sI λc4 c5 _ a6=>?_;have e5:AI w9 c4:=c5.U d1 oM;have a7:Í c4:=t5.U xT;refine⟨_,a0.at0 xT rfl,_,a0.at1 xT rfl,λh=>?_,λh=>⟨_,_,a0.at0 xT rfl,λh2=>?_,λh2=>⟨_,a0.at0 xT rfl,λh3=>?_,λh3=>⟨_,a0.at1 xT rfl,λh4=>?_,λh4=>sh.drew λe3 d2=>?_⟩⟩⟩⟩
  .have h:l[i].lo.W=l[i].hi.W:=h;have he:l[i].lo=l[i].hi:=(by rw[<-OZ m1,<-OZ m2,h]);have e:A8 l[i]=AK l[i].lo:=(by unfold A8;rw[fo he]);exact⟨_,_,_,a4.at0 xT rfl,DY.V (vy a7 λb6 a8=>⟨_,rfl,push _ _ xT (by rw[e])⟩)⟩
  all_goals have a5: ¬l[i].lo=l[i].hi:=λhe=>h (by rw[he])
  .have e:A8 l[i]= [42]:=by unfold A8;rw[fb a5,fo (by simpa using h2)]
   exact push _ _ xT (by rw[e];rfl)
  all_goals have b4: ¬(l[i].lo.W=0/\l[i].hi.W=999999999):=by simpa using h2
  .have e:A8 l[i]= [60,61]++AK l[i].hi:=(by unfold A8;rw[fb a5,fb b4,fo h3]);refine⟨_,_,_,a6.at0 xT rfl,DY.V (vy a7 λb6 a8=>⟨_,rfl,by rw[Af,AL,Au];simp;omega,?_⟩)⟩;exact push _ _ xT (by rw[e,D9])
  .have e:A8 l[i]= [62,61]++AK l[i].lo:=(by unfold A8;rw[fb a5,fb b4,fb h3,fo h4]);refine⟨_,_,_,a4.at0 xT rfl,DY.V (vy a7 λb6 a8=>⟨_,rfl,by rw[Af,AL,Au];simp;omega,?_⟩)⟩;exact push _ _ xT (by rw[e,D9])
  .have e:A8 l[i]=(([62,61]++AK l[i].lo)++[32,60,61])++AK l[i].hi:=(by unfold A8;rw[fb a5,fb b4,fb h3,fb h4]);refine⟨_,_,_,a4.at0 xT rfl,_,_,_,a6.at0 xT rfl,tc.intro (DY.V (vy (a7.U xT) λb6 a8=>⟨a8,_,rfl,?_⟩))⟩;simp only[D9,B4];refine⟨by rw[Af,AL,Au];simp;omega,by rw[Af,AL,Au];simp;omega,DY.V (vy ((a7.U d2).U a8) λe4 e6=>⟨_,rfl,?_⟩)⟩;simp only[Ba];refine⟨by rw[Af,Af,Au];simp;omega,push _ _ xT (by rw[e])⟩
 .have c8:i=l.length:=oM;rw[c8,fe]at ux;have b7:=(ux.Ċ dC (by show _*16<=Ab;rw[eh];unfold Ab;omega)).len;rw[eh]at b7;refine⟨λh=>?_,λh=>?_⟩
  .have:Cd l= [60,48,46,48,46,48]:=(by unfold Cd;rw[hm,fo rfl,fo (fq oM)]);have hr:=hR w3 xT;rw[this]at hr;exact hr
  .have a5:l≠[]:=λh0=>h (by rw[b7,h0];rfl);have d0:Cd l=BJ l:=(by unfold Cd;rw[hm,fo rfl,fb a5]);rw[d0]at hR;exact Ze5 ux c6 a5 λw4 x4=>⟨_,rfl,hR _ xT⟩
end Go.Hal
