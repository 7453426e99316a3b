/- Lemmas for the claim K21p: how the program's functions run, and what they answer; no condition but those that each theorem names. -/
import Derived.Maps.AppendAt
import Derived.WalkKit
import Derived.ProofKit
import Derived.OpenShut
import Derived.Deep.Slices
import Derived.ChangeCalls
import Derived.Deep.DeepHandedRow
import Derived.Test.YtfilbiaaeecoaaaGreatDoorProg
import Derived.Shelf.Strings.SlTrimAscii
import Derived.Shelf.Strings.OnBuilder
import Derived.Shelf.Strings.BuilderK
import Derived.Shelf.LaysM
import Derived.Shelf.Strconv.Itoa3
import Derived.Shelf.Small.Strs
import Derived.Ground.NamesProg
import Derived.Lib.ItoaNum
import Derived.Laws.BytesArg
import Derived.Test.YtfilbiaaeecoaaaGreatDoorCards
import Derived.Lib.LaidTab
import Derived.Stop.LaidErr
import Derived.MakeChecks
import Derived.SevenTiedAt
import Derived.Shelf.Abstract
import Derived.Test.YtfilbiaaeecoaaaGreatDoorK21pA0
import Derived.Test.YtfilbiaaeecoaaaGreatDoorK21pS0
import Derived.Test.YtfilbiaaeecoaaaGreatDoorK21pS1
import Derived.Test.YtfilbiaaeecoaaaGreatDoorK21pS2
import Derived.Test.YtfilbiaaeecoaaaGreatDoorK21pT
set_option linter.unusedVariables false
set_option linter.unusedSimpArgs false
set_option maxHeartbeats 16000000
open Go Go.RowKit Go.Proofs Go.Shelf Go.Hal Go.Proofs.Tryz
variable {a:Addr} {fs:Array Field} {R:Bool→World→Prop} {b:ByteArray} {cs cs' r:List Value} {f g i lo n need:Nat} {S:Nat→Prop} {p:Option ByteArray} {P:Program} {s:Sl} {e t:TypeId} {w w' w0:World}
namespace Go.Hal
def Keep(S:Nat→Prop)(w w':World):Prop:=∀b,S b→b<w.heap.size→w'.heap[b]? =w.heap[b]?
theorem Ext.keep(h:Ext w w')(S:Nat→Prop):Keep S w w':=λ_ _ hb=>h.block hb
theorem Keep.cell(h:Keep S w w'){v:Value}(hs:S a.block)(hc:w.cell? a=some v):w'.cell? a=some v:=
 (World.cell?_of_block (h a.block hs (World.block_lt_of_cell? w a hc))).trans hc
theorem Zel(a:Addr)(n:Nat):(a.add n).block=a.block:=by unfold Addr.add; split<;>rfl
theorem Zfq(a:Addr)(m n:Nat):(a.add m).add n=a.add (m+n):=by
 obtain⟨b,o,s⟩:=a
 unfold Addr.add
 by_cases hm:m=0<;>by_cases hn:n=0<;>simp[hm,hn]; omega
theorem add_zero(a:Addr):a.add 0=a:=rfl
theorem ldc.keep(h:ldc w a cs)(hs:S a.block)(hk:Keep S w w'):ldc w' a cs:=
 λj v hj=>hk.cell (by rw[Zel]; exact hs) (h j v hj)
theorem ldc.sub(h:ldc w a cs)(k m:Nat):ldc w (a.add k) ((cs.drop k).take m):=λj v hj=>by
 rw[Zfq]
 refine h (k+j) v ?_
 rw[List.getElem?_take]at hj
 split at hj
 ·rw[lm]at hj; exact hj
 ·cases hj
theorem ldc.of{a':Addr}(h:ldc w a cs)(ha:a'=a)(hc:cs'=cs):ldc w a' cs':=by subst ha hc; exact h
structure Enc(α:Type) where
 n:Nat
 bytes:Nat
 rep:World→(Nat→Prop)→α→List Value→Prop
 len: ∀{w S x cs},rep w S x cs→cs.length=n
 one: ∀{w S x cs},rep w S x cs→ ∀v∈cs,v.oneCell'=true
 mono: ∀{w S S' x cs},rep w S x cs→(∀b,S b→S' b)→rep w S' x cs
 keep: ∀{w w' S x cs},rep w S x cs→Keep S w w'→rep w' S x cs
def room:Nat:=140737489403904
def SlR{α:Type}(E:Enc α)(w:World)(S:Nat→Prop)(s:Sl)(l:List α):Prop:=
 s.len=l.length∧l.length≤s.cap∧s.cap≤maxLen∧l.length*E.bytes≤room∧
 (l= []∨ ∃ad,s.a=some ad∧S ad.block∧ ∀(i:Nat) (x:α),l[i]? =some x→ ∃cs,E.rep w S x cs∧ldc w (ad.add (i*E.n)) cs)
section
variable {α:Type} {E:Enc α} {w w':World} {S S':Nat→Prop} {s:Sl} {l:List α}
theorem SlR.len(h:SlR E w S s l):s.len=l.length:=h.1
theorem SlR.mono(h:SlR E w S s l)(hs: ∀b,S b→S' b):SlR E w S' s l:=
 ⟨h.1,h.2.1,h.2.2.1,h.2.2.2.1,h.2.2.2.2.imp id λ⟨ad,h1,h2,h3⟩=>⟨ad,h1,hs _ h2,λi x hx=>let⟨cs,h4,h5⟩:=h3 i x hx;⟨cs,E.mono h4 hs,h5⟩⟩⟩
theorem SlR.keep(h:SlR E w S s l)(hk:Keep S w w'):SlR E w' S s l:=
 ⟨h.1,h.2.1,h.2.2.1,h.2.2.2.1,h.2.2.2.2.imp id λ⟨ad,h1,h2,h3⟩=>⟨ad,h1,h2,λi x hx=>let⟨cs,h4,h5⟩:=h3 i x hx;⟨cs,E.keep h4 hk,h5.keep (by rw[Zel]; exact h2) hk⟩⟩⟩
theorem SlR.ext(h:SlR E w S s l)(hx:Ext w w'):SlR E w' S s l:=h.keep (hx.keep S)
theorem SlR.nil(hS:True):SlR E w S Sl.nil ([]:List α):=⟨rfl,eh _,eh _,by simp,.inl rfl⟩
theorem SlR.get(h:SlR E w S s l){x:α}(hx:l[i]? =some x): ∃ad cs,s.a=some ad∧S ad.block∧E.rep w S x cs∧ldc w (ad.add (i*E.n)) cs:=by
 rcases h.2.2.2.2 with h0|⟨ad,h1,h2,h3⟩
 ·subst h0; simp at hx
 ·obtain⟨cs,h4,h5⟩:=h3 i x hx
  exact⟨ad,cs,h1,h2,h4,h5⟩
end
def BoxAt(w:World)(a:Addr)(cs:List Value):Prop:=∃t,a.off=0∧a.spot=none∧w.heap[a.block]? =some (.cells cs.toArray t (0,0))
section
variable {w w':World} {a:Addr} {cs:List Value}
theorem BoxAt.lt(h:BoxAt w a cs):a.block<w.heap.size:=by obtain⟨t,_,_,h⟩:=h; exact lt_of_block h
theorem BoxAt.ldc(h:BoxAt w a cs):ldc w a cs:=λj v hj=>by
 obtain⟨t,ho,hs,hb⟩:=h
 obtain⟨b,o,s⟩:=a
 simp only at ho hs hb
 subst ho hs
 have:(Addr.add ⟨b,0,none⟩ j)=⟨b,j,none⟩:=by unfold Addr.add; split<;>simp_all
 rw[this]
 simp[World.cell?,hb,hj]
theorem BoxAt.ext(h:BoxAt w a cs)(hx:Ext w w'):BoxAt w' a cs:=by
 obtain⟨t,ho,hs,hb⟩:=h
 exact⟨t,ho,hs,(hx.block (lt_of_block hb)).trans hb⟩
theorem BoxAt.keep(h:BoxAt w a cs)(hs:S a.block)(hx:Keep S w w'):BoxAt w' a cs:=by
 obtain⟨t,ho,a0,hb⟩:=h
 exact⟨t,ho,a0,(hx _ hs (lt_of_block hb)).trans hb⟩
end
theorem newS.intro{k:Addr→World→Prop}(h: ∀a w',Ext w w'→BoxAt w' a cs→a.block=w.heap.size→w'.heap.size=w.heap.size+1→k a w'):newS w cs t k:=λa w' ha hw=>by
 subst ha hw
 refine h _ _ (Ext.alloc _ _) ⟨t,rfl,rfl,?_⟩ rfl sI
 exact heap_alloc_new w _
def But(g:Nat)(w w':World):Prop:=w.heap.size≤w'.heap.size∧w'.os=w.os∧w'.tape=w.tape∧w'.output=w.output∧ ∀b,b<w.heap.size→b≠g→w'.heap[b]? =w.heap[b]?
theorem But.keep(h:But g w w')(hs: ¬S g):Keep S w w':=λb hb hl=>h.2.2.2.2 b hl λe=>hs (e▸hb)
theorem But.below{B:Nat}(h:But g w w')(hB:B≤w.heap.size)(hg:B≤g):Below B w w':=⟨h.2.1,h.2.2.1,h.2.2.2.1,h.1,λb hb=>h.2.2.2.2 b oM oM⟩
theorem But.box(h:But g w w')(hb:BoxAt w a cs)(a0:a.block≠g):BoxAt w' a cs:=hb.keep (S:=λb=>b≠g) a0 (λb hb hl=>h.2.2.2.2 b hl hb)
theorem stw.intro{o:Nat}{old:List Value}{k:World→Prop}(hb:BoxAt w a old)(hl:o+cs.length≤old.length)
  (h: ∀w',But a.block w w'→w'.heap.size=w.heap.size→BoxAt w' a (old.take o++cs++old.drop (o+cs.length))→k w'):stw w (a.add o) cs k:=by
 obtain⟨t,ho,hs,hh⟩:=hb
 obtain⟨b,of,sp⟩:=a
 simp only at ho hs hh
 subst ho hs
 have ha:(Addr.add ⟨b,0,none⟩ o)=⟨b,o,none⟩:=by unfold Addr.add; split<;>simp_all
 rw[ha]
 refine⟨_,t,hh,rfl,by simpa using hl,h _ ⟨?_,rfl,rfl,rfl,λc hc a0=>setRow_other w b c _ a0⟩ ?_ ⟨t,rfl,rfl,?_⟩⟩
 ·simp[World.setRow]
 ·simp[World.setRow]
 ·rw[setRow_heap w b old.toArray _ t _ hh]
  simp[Zjb]
end Go.Hal
namespace Go
theorem lD{c:List Value}(h:ldc w a c:=by first|exact(BoxAt.at0 (by assumption) xT rfl)|exact(BoxAt.at1 (by assumption) xT rfl)):ldc w a c:=h
end Go
namespace Go.Hal
theorem Zd:maxLen=9223372036854775807:=rfl
theorem Zc{x:Int}(h0: -9223372036854775808≤x)(h1:x≤9223372036854775807):Za x=x:=by
 simp only[Za,IntKind.wrap,IntKind.bits,IntKind.signed,dw,decide_eq_true_eq]
 have e1:(2:Int)^(64 - 1)=9223372036854775808:=rfl
 have e2:(2:Int)^ 64=18446744073709551616:=rfl
 split<;>rename_i h<;>simp only[ge_iff_le,decide_eq_true_eq,e1,e2]at h ⊢ <;>omega
theorem Zhu{x:Int}(h0:0≤x)(h1:x<n)(h2:n≤maxLen):Za (x+1)=x+1:=Zc oM (by rw[Zd]at h2; omega)
@[ext] structure Ver where
 ma:Int
 mi:Int
 pa:Int
 deriving DecidableEq
structure Pin where
 name:ByteArray
 v:Ver
 deriving DecidableEq
structure Span where
 lo:Ver
 hi:Ver
 deriving DecidableEq
structure Dep where
 name:ByteArray
 range:List Span
 deriving DecidableEq
structure Pack where
 name:ByteArray
 v:Ver
 deps:List Dep
 peers:List Dep
 opt:List Dep
 deriving DecidableEq
structure Mani where
 deps:List Dep
 dev:List Dep
 opt:List Dep
 over:List Dep
 deriving DecidableEq
structure Want where
 name:ByteArray
 kind:Int
 range:List Span
 deriving DecidableEq
def Ver.c(v:Ver):List Value:=[.int .i64 v.ma,.int .i64 v.mi,.int .i64 v.pa]
def Zoi{α:Type}(n bytes:Nat)(f:α→List Value)(ok:α→Prop)(hn: ∀x,(f x).length=n)(h1: ∀x,∀v∈f x,v.oneCell'=true):Enc α where
 n:=n
 bytes:=bytes
 rep:=λ_ _ x cs=>cs=f x∧ok x
 len:=λh=>by rw[h.1,hn]
 one:=λh=>by rw[h.1]; exact h1 _
 mono:=λh _=>h
 keep:=λh _=>h
def Str(s:ByteArray):Prop:=s.size≤maxLen
def intE:Enc Int:=Zoi 1 8 (λx=>[.int .i64 x]) (λ_=>True) (λ_=>rfl) (λ_ v hv=>by simp at hv; subst hv; rfl)
def verE:Enc Ver:=Zoi 3 24 Ver.c (λ_=>True) (λ_=>rfl) (λ_ v hv=>by simp[Ver.c]at hv; rcases hv with rfl|rfl|rfl<;>rfl)
def spanE:Enc Span:=Zoi 6 48 (λs=>s.lo.c++s.hi.c) (λ_=>True) (λ_=>rfl) (λ_ v hv=>by simp[Ver.c]at hv; rcases hv with rfl|rfl|rfl|rfl|rfl|rfl<;>rfl)
def pinE:Enc Pin:=Zoi 4 40 (λp=>.string p.name::p.v.c) (λp=>Str p.name) (λ_=>rfl) (λ_ v hv=>by simp[Ver.c]at hv; rcases hv with rfl|rfl|rfl|rfl<;>rfl)
def depE:Enc Dep where
 n:=2
 bytes:=40
 rep:=λw S d cs=>Str d.name∧ ∃s,cs= [.string d.name,s.v]∧SlR spanE w S s d.range
 len:=λ⟨_,s,h,_⟩=>by rw[h]; rfl
 one:=λ⟨_,s,h,_⟩ v hv=>by rw[h]at hv; simp[Sl.v]at hv; rcases hv with rfl|rfl<;>rfl
 mono:=λ⟨h0,s,h,hr⟩ hs=>⟨h0,s,h,hr.mono hs⟩
 keep:=λ⟨h0,s,h,hr⟩ hk=>⟨h0,s,h,hr.keep hk⟩
def packE:Enc Pack where
 n:=7
 bytes:=112
 rep:=λw S p cs=>Str p.name∧ ∃d e o,cs= .string p.name::p.v.c++ [Sl.v d,Sl.v e,Sl.v o]∧SlR depE w S d p.deps∧SlR depE w S e p.peers∧SlR depE w S o p.opt
 len:=λ⟨_,d,e,o,h,_⟩=>by rw[h]; rfl
 one:=λ⟨_,d,e,o,h,_⟩ v hv=>by rw[h]at hv; simp[Sl.v,Ver.c]at hv; rcases hv with rfl|rfl|rfl|rfl|rfl|rfl|rfl<;>rfl
 mono:=λ⟨h0,d,e,o,h,a,b,c⟩ hs=>⟨h0,d,e,o,h,a.mono hs,b.mono hs,c.mono hs⟩
 keep:=λ⟨h0,d,e,o,h,a,b,c⟩ hk=>⟨h0,d,e,o,h,a.keep hk,b.keep hk,c.keep hk⟩
def Zzv:Enc Want where
 n:=3
 bytes:=48
 rep:=λw S d cs=>Str d.name∧ ∃s,cs= [.string d.name,.int .i64 d.kind,s.v]∧SlR spanE w S s d.range
 len:=λ⟨_,s,h,_⟩=>by rw[h]; rfl
 one:=λ⟨_,s,h,_⟩ v hv=>by rw[h]at hv; simp[Sl.v]at hv; rcases hv with rfl|rfl|rfl<;>rfl
 mono:=λ⟨h0,s,h,hr⟩ hs=>⟨h0,s,h,hr.mono hs⟩
 keep:=λ⟨h0,s,h,hr⟩ hk=>⟨h0,s,h,hr.keep hk⟩
theorem toList_data(a:ByteArray):a.toList=a.data.toList:=ByteArray.toList_eq a
theorem Zg2(a:ByteArray):a.data.toList.length=a.size:=by rw[gq]; rfl
theorem Z9p{a:ByteArray}(h:i<a.size):bAt a (i:Int)=((a.data.toList[i]'(by rw[Zg2]; exact h)).toNat:Int):=by
 rw[bAt,iq,bw,bq (by rw[Zg2]; exact h)]; rfl
theorem Zr3(p x y:List UInt8):Op.bytesLess (p++x) (p++y)=Op.bytesLess x y:=by
 induction p with
 |nil=>rfl
 |cons a p ih=>
  show(decide (a<a)||(a==a&&Op.bytesLess (p++x) (p++y)))=_
  rw[ih]
  simp
theorem Z7e{old:Nat}(h:old<need):Builtin.nextslicecap need old=need∨Builtin.nextslicecap need old+2≤2*need:=by
 unfold Builtin.nextslicecap
 split
 ·exact .inl rfl
 ·right
  split
  ·omega
  ·rw[growBy_four]
   repeat' split
   all_goals omega
theorem Z7f{old:Nat}(h:old<need):Builtin.nextslicecap need old≤need+(need+768)/4∨Builtin.nextslicecap need old≤512:=by
 unfold Builtin.nextslicecap
 split
 ·omega
 ·split
  ·omega
  ·rw[growBy_four]
   repeat' split
   all_goals omega
theorem Z3v{old bytes:Nat}(h:old<need)(hb:need*bytes≤room):Builtin.nextslicecap need old*bytes≤281474976710656:=by
 unfold room at hb
 rcases Z7e h with h1|h1
 ·rw[h1]; omega
 ·by_cases hB:1048576≤bytes
  ·have h2:(Builtin.nextslicecap need old+2)*bytes≤2*need*bytes:=fb _ h1
   rw[gh,Nat.mul_assoc]at h2
   omega
  ·rcases Z7f h with h3|h3
   ·have h4:4*Builtin.nextslicecap need old*bytes≤(5*need+768)*bytes:=fb _ oM
    have e1:4*Builtin.nextslicecap need old*bytes=4*(Builtin.nextslicecap need old*bytes):=Nat.mul_assoc _ _ _
    have e2:(5*need+768)*bytes=5*(need*bytes)+768*bytes:=by rw[gh,Nat.mul_assoc]
    omega
   ·have h4:Builtin.nextslicecap need old*bytes≤512*bytes:=fb _ h3
    omega
theorem Zo2{ty:TypeId}{i:TypeInfo}{z:Value}(ht:P.underlying t=some (.slice e))(hi:P.info? e=some i)(hz:i.zero=some z)(b6:z.cells.size=i.size)(b9:0<i.size)
  {v:Value}  {xs:List Value} (ho:w.ownsRow lo e i.size v n xs)  {m c:Nat} {news:List Value} (hl:news.length=m*i.size) (hn: ∀(j:Nat) (u:Value),news[j]? =some u→w.cell? (a.add j)=some u) (h1: ∀u∈news,u.oneCell'=true)
  (hm:n+m≤maxLen) (hb:(n+m)*i.bytes≤room) (b3:lo≤w.heap.size):
  ∃v' w',(Builtin.append_ #[t,t] ty #[v,.slice (some a) m c]).run P w= .ok v' w'∧w'.ownsRow lo e i.size v' (n+m) (xs++news)∧w.grownBy w' v.ownBlock∧(v'.ownBlock=v.ownBlock∨v'.ownBlock=some w.heap.size):=by
 have b7:n+m≤9223372036854775807:=by rw[Zd]at hm; exact hm
 have a0:(xs++news).length=(n+m)*i.size:=by rw[br,ho.1,hl,gh]
 have fresh: ∀old:Nat,w.grownBy (w.drew.alloc (.cells (xs.toArray++news.toArray++Builtin.zeroCells z.cells (grownCap w (n+m) old e - (n+m))) e)) v.ownBlock∧
   (w.drew.alloc (.cells (xs.toArray++news.toArray++Builtin.zeroCells z.cells (grownCap w (n+m) old e - (n+m))) e)).ownsRow lo e i.size (.slice (some ⟨w.heap.size,0,none⟩) (n+m) (grownCap w (n+m) old e)) (n+m) (xs++news):=λold=>by
  have hc:=grownCap_ge w (n+m) old e
  refine⟨⟨rfl,rfl,rfl,by simp,λb a9 _=>heap_alloc_old w.drew _ a9⟩,a0,.inr ⟨w.heap.size,_,_,rfl,b3,heap_alloc_new w.drew _,hc,grownCap_le_maxLen w (n+m) old e hm,?_,?_⟩⟩
  ·have e1:(xs.toArray++news.toArray).size=(n+m)*i.size:=by simpa using a0
   rw[Array.size_append,e1,size_zeroCells,b6,←gh]
   congr 1; omega
  ·have e2:(xs.toArray++news.toArray++Builtin.zeroCells z.cells (grownCap w (n+m) old e - (n+m))).toList=(xs++news)++(Builtin.zeroCells z.cells (grownCap w (n+m) old e - (n+m))).toList:=by simp
   rw[e2,←a0]; exact List.take_left
 rcases ho.2 with⟨rfl,rfl⟩|⟨g,cap,a5,rfl,b2,hg,b8,b0,b1,b5⟩
 ·obtain rfl:xs= []:=cq (by simpa using ho.1)
  rcases fo m with rfl|a8
  ·obtain rfl:news= []:=cq (by simpa using hl)
   exact⟨.slice none 0 0,w,by simp[Builtin.append_,run_underlying ht,sizeOf,typeInfo,hi,Builtin.lenOf,Builtin.firstCells,loadCells,loadCellsFrom],World.ownsRow_nil w lo e i.size,⟨rfl,rfl,rfl,df _,λ_ _ _=>rfl⟩,.inl rfl⟩
  ·have hr:=run_append_nil (P:=P) w t ty e i z ht hi hz a m c news hl hn a8 oM (by unfold room at hb; rw[jy]at hb; omega)
   have hf:=fresh 0
   simp only[jy,em,Array.empty_append]at hf ⊢
   exact⟨_,_,hr,hf.2,hf.1,.inr rfl⟩
 ·by_cases a4:n+m≤cap
  ·have a6:n*i.size+news.length≤a5.size:=by rw[hl,b1,←gh]; exact fb _ a4
   have hr:=run_append_room (P:=P) w t ty e i ht hi g n cap a5 hg a m c news hl hn h1 a4 a6
   refine⟨_,_,hr,⟨a0,.inr ⟨g,cap,_,rfl,b2,setRow_heap w g a5 _ e _ hg,a4,b0,?_,?_⟩⟩,⟨rfl,rfl,rfl,by simp,λb _ b4=>setRow_other w g b _ (λh=>b4 (by rw[h]; rfl))⟩,.inl rfl⟩
   ·simp only[ia,br,cd,dh,gq]; omega
   ·rw[b5,←a0]; exact List.take_left
  ·have a7: ∀(j:Nat) (u:Value),xs[j]? =some u→w.cell? ((⟨g,0,none⟩:Addr).add j)=some u:=ho.cells (g:=g) rfl
   have hr:=run_append_grow (P:=P) w t ty e i z ht hi hz ⟨g,0,none⟩ n cap xs ho.1 a7 a m c news hl hn oM oM (Z3v oM hb)
   have hf:=fresh cap
   exact⟨_,_,hr,hf.2,hf.1,.inr rfl⟩
def ApT(P:Program)(t e:TypeId)(n bytes:Nat):Prop:=P.underlying t=some (.slice e)∧ ∃i z,P.info? e=some i∧i.zero=some z∧i.size=n∧i.bytes=bytes∧z.cells.size=n∧0<n
theorem Zhv{bytes:Nat}{z:Value}(h1:P.underlying t=some (.slice e))(h2:(P.info? e).map (λi=>(i.zero,i.size,i.bytes))=some (some z,n,bytes))(h3:z.cells.size=n)(h4:0<n):ApT P t e n bytes:=by
 cases hi:P.info? e with
 |none=>rw[hi]at h2; cases h2
 |some i=>
  rw[hi]at h2
  simp only[gv,cw,Prod.mk.injEq]at h2
  exact⟨h1,i,z,hi,h2.1,h2.2.1,h2.2.2,h3,h4⟩
structure OwnS{α:Type}(E:Enc α)(T:TypeId)(w:World)(lo:Nat)(S:Nat→Prop)(s:Sl)(l:List α):Prop where
 row: ∃css:List (List Value),w.ownsRow lo T E.n s.v s.len css.flatten∧css.length=l.length∧ ∀(i:Nat) (x:α),l[i]? =some x→ ∃cs,css[i]? =some cs∧E.rep w S x cs
 len:s.len=l.length
 lt: ∀b,S b→b<w.heap.size
 apart: ∀ad,s.a=some ad→ ¬S ad.block
section
variable {α:Type} {E:Enc α} {T:TypeId} {w w':World} {lo:Nat} {S S':Nat→Prop} {s:Sl} {l:List α}
theorem OwnS.nil(w:World)(lo:Nat):OwnS E T w lo (λ_=>False) Sl.nil ([]:List α):=
 ⟨⟨[],World.ownsRow_nil _ _ _ _,rfl,λi x h=>by simp at h⟩,rfl,λ_ h=>h.elim,λ_ h=>by cases h⟩
theorem OwnS.block(h:OwnS E T w lo S s l){ad:Addr}(ha:s.a=some ad):lo≤ad.block∧ad.block<w.heap.size∧ad=⟨ad.block,0,none⟩:=by
 obtain⟨css,ho,_⟩:=h.row
 have h1:=ho.lt ad.block (by simp[Value.ownBlock,Sl.v,ha])
 refine⟨h1.1,h1.2,?_⟩
 rcases ho.2 with⟨hv,_⟩|⟨g,cap,a0,hv,_⟩
 ·simp[Sl.v,ha]at hv
 ·simp[Sl.v,ha]at hv; rw[hv.1]
theorem OwnS.keep(h:OwnS E T w lo S s l)(a5:w.heap.size≤w'.heap.size)(hk: ∀b,b<w.heap.size→(S b∨ ∃ad,s.a=some ad∧b=ad.block)→w'.heap[b]? =w.heap[b]?):OwnS E T w' lo S s l:=by
 obtain⟨css,ho,hl,hr⟩:=h.row
 refine⟨⟨css,⟨ho.1,?_⟩,hl,λi x hx=>let⟨cs,h1,h2⟩:=hr i x hx;⟨cs,h1,E.keep h2 λb hb a4=>hk b a4 (.inl hb)⟩⟩,h.len,λb hb=>iv (h.lt b hb) a5,h.apart⟩
 rcases ho.2 with h0|⟨g,cap,a0,hv,h1,h2,h3⟩
 ·exact .inl h0
 ·refine .inr ⟨g,cap,a0,hv,h1,?_,h3⟩
  rw[hk g (lt_of_block h2) (.inr ⟨⟨g,0,none⟩,by simp[Sl.v]at hv; exact hv.1,rfl⟩)]
  exact h2
theorem OwnS.ext(h:OwnS E T w lo S s l)(hx:Ext w w'):OwnS E T w' lo S s l:=h.keep hx.size λb hb _=>hx.block hb
theorem OwnS.mono(h:OwnS E T w lo S s l)(hs: ∀b,S b→S' b)(a4: ∀b,S' b→b<w.heap.size)(a0: ∀ad,s.a=some ad→ ¬S' ad.block):OwnS E T w lo S' s l:=by
 obtain⟨css,ho,hl,hr⟩:=h.row
 exact⟨⟨css,ho,hl,λi x hx=>let⟨cs,h1,h2⟩:=hr i x hx;⟨cs,h1,E.mono h2 hs⟩⟩,h.len,a4,a0⟩
theorem Zjn{css:List (List Value)}(hn: ∀cs∈css,cs.length=n)(hi:css[i]? =some cs){j:Nat}{v:Value}(hj:cs[j]? =some v):css.flatten[i*n+j]? =some v:=by
 induction css generalizing i with
 |nil=>simp at hi
 |cons c r ih=>
  have hc:c.length=n:=hn c (gj ..)
  cases i with
  |zero=>
   simp only[gl,cw]at hi
   subst hi
   have a0:j<c.length:=(ce.1 hj).1
   rw[ge,jg,jy,dt a0]; exact hj
  |succ i=>
   rw[lu]at hi
   have:=ih (λcs h=>hn cs (jh _ h)) hi
   rw[ge,ff (by rw[hc,gh]; omega)]
   rw[show(i+1)*n+j - c.length=i*n+j by rw[hc,gh]; omega]
   exact this
theorem OwnS.read(h:OwnS E T w lo S s l)(hb:l.length*E.bytes≤room)(hm:l.length≤maxLen):SlR E w (λb=>S b∨ ∃ad,s.a=some ad∧b=ad.block) s l:=by
 obtain⟨css,ho,hl,hr⟩:=h.row
 rcases ho.2 with⟨hv,hn⟩|⟨g,cap,a8,hv,hg,hh,hc,a6,a5,ht⟩
 ·have h0:l= []:=cq (by rw[←h.len]; exact hn)
  subst h0
  simp[Sl.v]at hv
  exact⟨h.len,by simp,by rw[hv.2.2]; exact eh _,hb,.inl rfl⟩
 ·simp[Sl.v]at hv
  obtain⟨ha,a4⟩:=hv
  subst a4
  refine⟨h.len,by rw[←h.len]; exact hc,a6,hb,.inr ⟨_,ha,.inr ⟨_,ha,rfl⟩,λi x hx=>?_⟩⟩
  obtain⟨cs,h1,h2⟩:=hr i x hx
  refine⟨cs,E.mono h2 λ_ h=>.inl h,λj v hj=>?_⟩
  have a0: ∀cs∈css,cs.length=E.n:=by
   intro cs a5
   obtain⟨k,hk,he⟩:=cy.1 a5
   have a7:k<l.length:=by rw[←hl]; exact hk
   obtain⟨cs',h3,h4⟩:=hr k _ (bq a7)
   rw[bq hk,he,cw]at h3
   rw[h3]; exact E.len h4
  rw[Zfq]
  exact ho.cells (g:=g) (by simp[Value.ownBlock,Sl.v,ha]) _ _ (Zjn a0 h1 hj)
theorem OwnS.app{k:Sl→World→Prop}{x:α}(h:OwnS E e w lo S s l)(hT:ApT P t e E.n E.bytes)(c5:lo≤w.heap.size)(hx:E.rep w S' x cs)(hc:ldc w a cs)(b3: ∀b,S' b→b<w.heap.size)(b4: ∀ad,s.a=some ad→ ¬S' ad.block)
  (hb:(l.length+1)*E.bytes≤room) (hm:l.length+1≤maxLen)
  (hk: ∀(r:Sl) (w':World),OwnS E e w' lo (λb=>S b∨S' b) r (l++ [x])→w.heap.size≤w'.heap.size→w'.os=w.os→w'.tape=w.tape→w'.output=w.output→
   (∀b,b<w.heap.size→(∀ad,s.a=some ad→b≠ad.block)→w'.heap[b]? =w.heap[b]?)→(∀ad,r.a=some ad→(s.a=some ad∨w.heap.size≤ad.block))→k r w'):appS P t t s (Sl.v ⟨some a,1,1⟩) w k:=by
 intro ty
 obtain⟨css,ho,hl,hr⟩:=h.row
 obtain⟨ht,i,z,hi,hz,a8,c3,c9,c6⟩:=hT
 have b7:=E.len hx
 have b8:=h.len
 obtain⟨v',w',c1,a6,a5,b5⟩:=Zo2 (P:=P) (ty:=ty) (m:=1) (c:=1) ht hi hz (by rw[a8]; exact c9) (by rw[a8]; exact c6) (by rw[a8]; exact ho) (by rw[a8,b7,kn]) (λj u hj=>hc j u hj) (E.one hx) oM (by rw[b8,c3]; exact hb) c5
 rw[a8]at a6
 have c8: ∃r:Sl,v'=r.v∧r.len=s.len+1:=by
  rcases a6.2 with⟨hv,hn⟩|⟨g,cap,c2,hv,_⟩
  ·omega
  ·exact⟨⟨_,_,_⟩,hv,rfl⟩
 obtain⟨r,rfl,b9⟩:=c8
 have b0: ∀ad,r.a=some ad→(s.a=some ad∨w.heap.size≤ad.block):=by
  intro ad a7
  have a4:s.v.ownBlock=some ad.block∨w.heap.size≤ad.block:=by
   have h0:(Sl.v r).ownBlock=some ad.block:=by simp[Value.ownBlock,Sl.v,a7]
   rcases b5 with hb|hb
   ·left; rw[←hb]; exact h0
   ·right; rw[h0,cw]at hb; omega
  rcases a4 with a4|a4
  ·left
   have h2:ad=⟨ad.block,0,none⟩:=by
    rcases a6.2 with⟨hv,_⟩|⟨g,cap,c2,hv,_⟩
    ·simp[Sl.v,a7]at hv
    ·simp[Sl.v,a7]at hv; rw[hv.1]
   cases hsa:s.a with
   |none=>simp[Value.ownBlock,Sl.v,hsa]at a4
   |some d0=>
    simp[Value.ownBlock,Sl.v,hsa]at a4
    have:=(h.block hsa).2.2
    rw[this,a4,←h2]
  ·exact .inr a4
 refine⟨_,w',c1,r,rfl,hk r w' ?_ a5.size a5.os a5.tape a5.output ?_ b0⟩
 ·have a9: ∀b,b<w.heap.size→(S b∨S' b)→w'.heap[b]? =w.heap[b]? :=λb b1 a0=>by
   refine a5.block b b1 ?_
   simp only[Value.ownBlock,Sl.v]
   cases hsa:s.a with
   |none=>simp
   |some ad=>
    simp only[ne_eq,cw]
    rintro rfl
    rcases a0 with a0|a0
    ·exact h.apart _ hsa a0
    ·exact b4 _ hsa a0
  refine⟨⟨css++ [cs],?_,by simp[hl],λj y hj=>?_⟩,by simp[b9,b8],λb a0=>?_,λad a7 a0=>?_⟩
  ·rw[b9,jb]; simpa using a6
  ·rw[kq]at hj
   split at hj
   ·rename_i c4
    obtain⟨cs',h1,h2⟩:=hr j y hj
    exact⟨cs',by rw[dt oM]; exact h1,E.keep (E.mono h2 λ_ h=>.inl h) λb hb b2=>a9 b b2 hb⟩
   ·rename_i c4
    have b6:j - l.length=0:=by
     rcases fo (j - l.length)with h0|h0
     ·exact h0
     ·rw[mb (by simp; omega)]at hj; cases hj
    rw[b6]at hj
    simp only[gl,cw]at hj
    subst hj
    exact⟨cs,by rw[ff oM,hl,b6]; rfl,E.keep (E.mono hx λ_ h=>.inr h) λb hb b2=>a9 b b2 hb⟩
  ·have:b<w.heap.size:=by
    rcases a0 with a0|a0
    ·exact h.lt b a0
    ·exact b3 b a0
   have:=a5.size; omega
  ·rcases b0 ad a7 with h1|h1
   ·rcases a0 with a0|a0
    ·exact h.apart ad h1 a0
    ·exact b4 ad h1 a0
   ·have:ad.block<w.heap.size:=by
     rcases a0 with a0|a0
     ·exact h.lt _ a0
     ·exact b3 _ a0
    omega
 ·intro b b1 c7
  refine a5.block b b1 ?_
  simp only[Value.ownBlock,Sl.v]
  cases hsa:s.a with
  |none=>simp
  |some ad=>simp only[ne_eq,cw]; exact c7 ad hsa
theorem OwnS.push{k:Sl→World→Prop}{x:α}(h:OwnS E e w lo S s l)(hT:ApT P t e E.n E.bytes)(a5:lo≤w.heap.size)(hx:E.rep w S' x cs)(hc:ldc w a cs)(a0: ∀b,S' b→b<w.heap.size)(a4: ∀ad,s.a=some ad→ ¬S' ad.block)
  (hb:(l.length+1)*E.bytes≤room) (hm:l.length+1≤maxLen)
  (hk: ∀(r:Sl) (w':World),OwnS E e w' lo (λb=>S b∨S' b) r (l++ [x])→Below lo w w'→(∀b,b<w.heap.size→(∀ad,s.a=some ad→b≠ad.block)→w'.heap[b]? =w.heap[b]?)→(∀ad,r.a=some ad→(s.a=some ad∨w.heap.size≤ad.block))→k r w'):appS P t t s (Sl.v ⟨some a,1,1⟩) w k:=
 h.app hT a5 hx hc a0 a4 hb hm λr w' h1 h2 h3 h4 h5 h6 h7=>hk r w' h1 ⟨h3,h4,h5,h2,λb hb=>h6 b oM λad ha e=>by have:=(h.block ha).1; omega⟩ h6 h7
end
theorem callX.intro{f:FuncId}{args:List Value}{k:Value→World→Prop}(h:callS P f args w λv w'=>Ext w w'∧k v w'):callX P f args w k:=h
def Old(S:Nat→Prop)(w:World):Prop:=∀b,S b→b<w.heap.size
theorem Old.ext(h:Old S w)(hx:w.heap.size≤w'.heap.size):Old S w':=λb hb=>iv (h b hb) hx
theorem bnd.drew{k:World→Prop}(h: ∀w',Ext w w'→k w'):bnd w.drew k:=λ_ e=>h _ (e▸Ext.drew w)
theorem ldc.pre(h:ldc w a cs)(hp:cs=cs'++r):ldc w a cs':=λj v hj=>h j v (by
 subst hp; rw[dt (ce.1 hj).1]; exact hj)
theorem ldc.mid{k:Nat}(h:ldc w a cs)(hp:cs.drop k=cs'++r):ldc w (a.add k) cs':=λj v hj=>by
 rw[Zfq]
 refine h (k+j) v ?_
 rw[←lm,hp,dt (ce.1 hj).1]; exact hj
theorem BoxAt.at0(h:BoxAt w a cs)(hx:Ext w w')(hp:cs=cs'++r):Go.Hal.ldc w' a cs':=(h.ext hx).ldc.pre hp
theorem BoxAt.at1{k:Nat}(h:BoxAt w a cs)(hx:Ext w w')(hp:cs.drop k=cs'++r):Go.Hal.ldc w' (a.add k) cs':=(h.ext hx).ldc.mid hp
theorem gCall.intro{τ:Type}{g:Bool}{k:τ→World→Prop}{A:(τ→World→Prop)→Prop}{d:τ}(val:τ)(hA:g=true→ ∀q:τ→World→Prop,(∀w',Ext w w'→q val w')→A q)
  (hk: ∀t w',Ext w w'→(g=true→t=val)→k t w'):gCall g k A (λq=>q d w):=
 ⟨λhg=>hA hg _ λw' hx=>hk _ _ hx λ_=>rfl,λhg=>hk _ _ xR λh=>by rw[hg]at h; cases h⟩
theorem stw0.intro{old:List Value}{k:World→Prop}(hb:BoxAt w a old)(hl:cs.length≤old.length)(h: ∀w',But a.block w w'→w'.heap.size=w.heap.size→BoxAt w' a (cs++old.drop cs.length)→k w'):stw w a cs k:=by
 have:=stw.intro (o:=0) (cs:=cs) (k:=k) hb oM λw' h1 h2 h3=>h w' h1 h2 (by simpa using h3)
 simpa[add_zero]using this
theorem But.ext(h:But g w w')(hx:Ext w0 w)(hg:w0.heap.size≤g):Ext w0 w':=hx.trans' (h.below hx.size hg)
theorem bound{α:Sort _}{x:α}{k:α→Prop}(h:k x):bnd x k:=λ_ e=>e▸h
theorem loop1.up{body:Int→World→(Int→World→Prop)→Prop}{N:Nat}(hN:N≤maxLen)(I:Nat→World→Prop)(h0:I 0 w)
  (hs: ∀(n:Nat) w' (a4:Int→World→Prop),n≤N→I n w'→(n<N→ ∀a0,I (n+1) a0→a4 (Za ((n:Int)+1)) a0)→body n w' a4):loop1 0 w body:=
 ⟨λi w'=>∃n:Nat,i=n∧n≤N∧I n w',λi _=>N - i.toNat,⟨0,rfl,eh _,h0⟩,λi w' ⟨n,hi,hn,hI⟩=>by
  subst hi
  refine hs n w' _ hn hI λa5 a0 h=>?_
  rw[Zhu (n:=N) oM oM hN]
  exact⟨⟨n+1,oM,oM,h⟩,by show N - ((n:Int)+1).toNat<N - (n:Int).toNat; omega⟩⟩
theorem loop2.up{α:Type}{a:α}{body:α→Int→World→(α→Int→World→Prop)→Prop}{N:Nat}(hN:N≤maxLen)(I:α→Nat→World→Prop)(h0:I a 0 w)
  (hs: ∀(a:α) (n:Nat) w' (a4:α→Int→World→Prop),n≤N→I a n w'→(n<N→ ∀a' a0,I a' (n+1) a0→a4 a' (Za ((n:Int)+1)) a0)→body a n w' a4):loop2 a 0 w body:=
 ⟨λa i w'=>∃n:Nat,i=n∧n≤N∧I a n w',λ_ i _=>N - i.toNat,⟨0,rfl,eh _,h0⟩,λa i w' ⟨n,hi,hn,hI⟩=>by
  subst hi
  refine hs a n w' _ hn hI λa5 a' a0 h=>?_
  rw[Zhu (n:=N) oM oM hN]
  exact⟨⟨n+1,oM,oM,h⟩,by show N - ((n:Int)+1).toNat<N - (n:Int).toNat; omega⟩⟩
theorem SlR.max{α:Type}{E:Enc α}{l:List α}(h:SlR E w S s l):l.length≤maxLen:=co h.2.1 h.2.2.1
theorem SlR.el{α:Type}{E:Enc α}{l:List α}(h:SlR E w S s l)(hn:n<l.length):
  ∃ad cs,s.a=some ad∧S ad.block∧E.rep w S l[n] cs∧ ∀w',Ext w w'→ldc w' (ad.add (n*E.n)) cs:=by
 obtain⟨ad,cs,h1,h2,h3,h4⟩:=h.get (bq hn)
 exact⟨ad,cs,h1,h2,h3,λw' hx=>h4.ext hx⟩
theorem Zll{l:List Span}(h:SlR spanE w S s l)(hn:n<l.length):
  ∃ad,s.a=some ad∧S ad.block∧ ∀w',Ext w w'→ldc w' (ad.add (n*6)) [.int .i64 l[n].lo.ma,.int .i64 l[n].lo.mi,.int .i64 l[n].lo.pa,.int .i64 l[n].hi.ma,.int .i64 l[n].hi.mi,.int .i64 l[n].hi.pa]:=by
 obtain⟨ad,cs,h1,h2,⟨rfl,_⟩,h4⟩:=h.el hn
 exact⟨ad,h1,h2,h4⟩
theorem Zhw{l:List Dep}(h:SlR depE w S s l)(hn:n<l.length):
  ∃ad t,s.a=some ad∧S ad.block∧Str l[n].name∧SlR spanE w S t l[n].range∧ ∀w',Ext w w'→ldc w' (ad.add (n*2)) [.string l[n].name,t.v]:=by
 obtain⟨ad,cs,h1,h2,⟨h0,t,rfl,h5⟩,h4⟩:=h.el hn
 exact⟨ad,t,h1,h2,h0,h5,h4⟩
theorem join.intro{τ:Sort _}{R:τ}{b:τ→Prop}(h:b R):join R b:=h
theorem join.named{τ:Sort _}{R:τ}{b:τ→Prop}(h: ∀J,J=R→b J):join R b:=h R rfl
def None':Nat→Prop:=λ_=>False
theorem OwnS.zero{α:Type}{E:Enc α}{T:TypeId}(w:World):OwnS E T w w.heap.size None' Sl.nil ([]:List α):=OwnS.nil _ _
theorem OwnS.pushF{α:Type}{E:Enc α}{l:List α}{x:α}{k:Sl→World→Prop}(h:OwnS E e w w0.heap.size None' s l)(x0:Ext w0 w)(hT:ApT P t e E.n E.bytes)
  (hx:E.rep w None' x cs) (hc:ldc w a cs) (h1:1≤E.bytes) (hb:(l.length+1)*E.bytes≤room) (hk: ∀r w',OwnS E e w' w0.heap.size None' r (l++ [x])→Ext w0 w'→k r w'):appS P t t s (Sl.v ⟨some a,1,1⟩) w k:=by
 have hm:l.length+1≤maxLen:=by
  have:(l.length+1)*1≤(l.length+1)*E.bytes:=Nat.mul_le_mul_left _ h1
  rw[Zd]; unfold room at hb; omega
 exact h.push hT x0.size hx hc (λ_ h=>h.elim) (λ_ _ h=>h.elim) hb hm λr w' own bel _ _=>hk r w' (own.mono (λ_ h=>h.elim id id) (λ_ h=>h.elim) (λ_ _ h=>h.elim)) (x0.trans' bel)
theorem OwnS.readF{α:Type}{E:Enc α}{T:TypeId}{l:List α}(h:OwnS E T w lo None' s l)(h1:1≤E.bytes)(hb:l.length*E.bytes≤room):SlR E w (λb=>lo≤b) s l:=by
 have hm:l.length≤maxLen:=by
  have:l.length*1≤l.length*E.bytes:=Nat.mul_le_mul_left _ h1
  rw[Zd]; unfold room at hb; omega
 refine(h.read hb hm).mono λb hb=>?_
 rcases hb with hb|⟨ad,ha,rfl⟩
 ·exact hb.elim
 ·exact(h.block ha).1
def rkE:Enc (Int×Int):=Zoi 2 16 (λx=>[.int .i64 x.1,.int .i64 x.2]) (λ_=>True) (λ_=>rfl) (λ_ v hv=>by simp at hv; rcases hv with rfl|rfl<;>rfl)
def strE:Enc ByteArray:=Zoi 1 16 (λx=>[.string x]) (λx=>Str x) (λ_=>rfl) (λ_ v hv=>by simp at hv; subst hv; rfl)
theorem rkEl{l:List (Int×Int)}(h:SlR rkE w S s l)(hn:n<l.length):
  ∃ad,s.a=some ad∧S ad.block∧ ∀w',Ext w w'→ldc w' (ad.add (n*2)) [.int .i64 l[n].1,.int .i64 l[n].2]:=by
 obtain⟨ad,cs,h1,h2,⟨rfl,_⟩,h4⟩:=h.el hn
 exact⟨ad,h1,h2,h4⟩
theorem Zkb(b j:Nat):Addr.add ⟨b,0,none⟩ j=⟨b,j,none⟩:=by unfold Addr.add; split<;>simp_all
theorem Ext.but(h:Ext w w')(g:Nat):But g w w':=⟨h.size,h.os,h.tape,h.output,λb hb _=>h.block hb⟩
theorem But.trans{a b c:World}(h:But g a b)(k:But g b c):But g a c:=
 ⟨co h.1 k.1,k.2.1.trans h.2.1,k.2.2.1.trans h.2.2.1,k.2.2.2.1.trans h.2.2.2.1,λx hx a0=>(k.2.2.2.2 x (by have:=h.1; omega) a0).trans (h.2.2.2.2 x hx a0)⟩
end Go.Hal
namespace Go.Hal
structure Ord3{α:Type}(c:α→α→Int):Prop where
 flip: ∀x y,c x y<0↔0<c y x
 trans: ∀x y z,c x y≤0→c y z≤0→c x z≤0
def Ah{α:Type}(c:α→α→Int)(x y:α×Nat):Prop:=c x.1 y.1<0∨(c x.1 y.1=0∧x.2<y.2)
section
variable {α:Type} {c:α→α→Int}
theorem Ord3.zero(h:Ord3 c){x y:α}:c x y=0↔c y x=0:=by
 have h1:=h.flip x y; have h2:=h.flip y x
 constructor<;>intro h0<;>omega
theorem Ord3.lt_of(h:Ord3 c){x y z:α}(h1:c x y<0)(h2:c y z≤0):c x z<0:=by
 have a0:=h.trans x y z oM h2
 rcases Int.lt_or_eq_of_le a0 with h3|h3
 ·exact h3
 ·exfalso
  have h4:=h.trans y z x h2 (by rw[h.zero.1 h3]; exact Int.le_refl _)
  have:=(h.flip x y).1 h1
  omega
theorem Ord3.lt_of'(h:Ord3 c){x y z:α}(h1:c x y≤0)(h2:c y z<0):c x z<0:=by
 have a0:=h.trans x y z h1 oM
 rcases Int.lt_or_eq_of_le a0 with h3|h3
 ·exact h3
 ·exfalso
  have h4:=h.trans z x y (by rw[h.zero.1 h3]; exact Int.le_refl _) h1
  have:=(h.flip y z).1 h2
  omega
theorem Ah.trans(h:Ord3 c){x y z:α×Nat}(h1:Ah c x y)(h2:Ah c y z):Ah c x z:=by
 rcases h1 with h1|⟨h1,a0⟩<;>rcases h2 with h2|⟨h2,a4⟩
 ·exact .inl (h.lt_of h1 oM)
 ·exact .inl (h.lt_of h1 oM)
 ·exact .inl (h.lt_of' oM h2)
 ·refine .inr ⟨?_,oM⟩
  have a:=h.trans _ _ _ (show c x.1 y.1≤0 by omega) (show c y.1 z.1≤0 by omega)
  have b:=h.trans _ _ _ (show c z.1 y.1≤0 by rw[h.zero.1 h2]; omega) (show c y.1 x.1≤0 by rw[h.zero.1 h1]; omega)
  have:=h.flip z.1 x.1; have:=h.flip x.1 z.1
  omega
theorem Ah.not(h:Ord3 c){x y:α×Nat}(h1:Ah c x y): ¬Ah c y x:=λh2=>by
 rcases h1 with h1|⟨h1,a0⟩<;>rcases h2 with h2|⟨h2,a4⟩
 ·have:=(h.flip _ _).1 h1; omega
 ·have:=h.zero.1 h2; omega
 ·have:=h.zero.1 h1; omega
 ·omega
theorem Ah.right(h:Ord3 c){x y:α×Nat}(hi:x.2<y.2):(c y.1 x.1<0→Ah c y x)∧(¬c y.1 x.1<0→Ah c x y):=
 ⟨λh1=>.inl h1,λh1=>by
  have h2:=h.flip y.1 x.1; have h3:=h.flip x.1 y.1
  by_cases h0:c x.1 y.1=0
  ·exact .inr ⟨h0,hi⟩
  ·exact .inl oM⟩
def Zjc(c:α→α→Int)(x:α):List α→List α
 | []=>[x]
 |y::r=>if c x y≤0 then x::y::r else y::Zjc c x r
def Zdr(c:α→α→Int):List α→List α
 | []=>[]
 |x::r=>Zjc c x (Zdr c r)
theorem Zrp(x:α)(l:List α):(Zjc c x l).Perm (x::l):=by
 induction l with
 |nil=>exact fx _
 |cons y r ih=>
  unfold Zjc
  split
  ·exact fx _
  ·exact(ih.cons y).trans (List.Perm.swap x y r)
theorem Ze8(l:List α):(Zdr c l).Perm l:=by
 induction l with
 |nil=>exact fx _
 |cons x r ih=>exact(Zrp x _).trans (ih.cons x)
def nums:Nat→List α→List (α×Nat)
 |_,[]=>[]
 |k,x::r=>(x,k)::nums (k+1) r
def cN(c:α→α→Int)(x y:α×Nat):Int:=c x.1 y.1
theorem Zos(k:Nat)(l:List α):(nums k l).map Prod.fst=l:=by
 induction l generalizing k with
 |nil=>rfl
 |cons x r ih=>simp[nums,ih]
theorem Z4x(k:Nat)(l:List α): ∀x∈nums k l,k≤x.2∧x.2<k+l.length:=by
 induction l generalizing k with
 |nil=>intro x h; cases h
 |cons a r ih=>
  intro x h
  rcases du.1 h with rfl|h
  ·simp
  ·have:=ih (k+1) x h
   simp; omega
theorem Zot(k:Nat)(l:List α):(nums k l).length=l.length:=by
 induction l generalizing k with
 |nil=>rfl
 |cons x r ih=>simp[nums,ih]
theorem Zmh(k:Nat)(l:List α):(nums k l).Pairwise λx y=>x.2<y.2:=by
 induction l generalizing k with
 |nil=>exact .nil
 |cons a r ih=>
  refine .cons (λx h=>?_) (ih _)
  have:=(Z4x (k+1) r x h).1
  show k<x.2
  omega
theorem Z2r(x:α×Nat)(l:List (α×Nat)):(Zjc (cN c) x l).map Prod.fst=Zjc c x.1 (l.map Prod.fst):=by
 induction l with
 |nil=>rfl
 |cons y r ih=>
  have e:cN c x y=c x.1 y.1:=rfl
  by_cases h:c x.1 y.1≤0
  ·rw[Zjc,if_pos (by rw[e]; exact h)]; simp only[fg]; rw[Zjc,if_pos h]
  ·rw[Zjc,if_neg (by rw[e]; exact h)]; simp only[fg]; rw[Zjc,if_neg h,ih]
theorem Zrq(l:List (α×Nat)):(Zdr (cN c) l).map Prod.fst=Zdr c (l.map Prod.fst):=by
 induction l with
 |nil=>rfl
 |cons x r ih=>simp only[Zdr,fg,Z2r,ih]
theorem Zuz(h:Ord3 c){x:α×Nat}{l:List (α×Nat)}(hl:l.Pairwise (Ah c))(hx: ∀y∈l,x.2<y.2):(Zjc (cN c) x l).Pairwise (Ah c):=by
 induction l with
 |nil=>exact im _ _
 |cons y r ih=>
  obtain⟨h1,h2⟩:=ga.1 hl
  have a0:=hx y (.head _)
  unfold Zjc
  split
  ·rename_i hc
   have hc:c x.1 y.1≤0:=hc
   have a:Ah c x y:=by
    rcases Int.lt_or_eq_of_le hc with h3|h3
    ·exact .inl h3
    ·exact .inr ⟨h3,a0⟩
   refine .cons (λz hz=>?_) hl
   rcases du.1 hz with rfl|hz
   ·exact a
   ·exact a.trans h (h1 z hz)
  ·rename_i hc
   have hc: ¬c x.1 y.1≤0:=hc
   refine .cons (λz hz=>?_) (ih h2 λy hy=>hx y (.tail _ hy))
   rcases du.1 ((Zrp x r).mem_iff.1 hz)with rfl|hz
   ·exact .inl ((h.flip _ _).2 oM)
   ·exact h1 z hz
theorem Zmu(h:Ord3 c){l:List (α×Nat)}(hl:l.Pairwise λx y=>x.2<y.2):(Zdr (cN c) l).Pairwise (Ah c):=by
 induction l with
 |nil=>exact .nil
 |cons x r ih=>
  obtain⟨h1,h2⟩:=ga.1 hl
  exact Zuz h (ih h2) λy hy=>h1 y ((Ze8 r).mem_iff.1 hy)
theorem Zi9{β:Type}{R:β→β→Prop}(hn: ∀x y,R x y→ ¬R y x): ∀{l m:List β},l.Pairwise R→m.Pairwise R→l.Perm m→l=m
 | [],m,_,_,hp=>(List.nil_perm.1 hp).symm
 |x::r,[],_,_,hp=>(List.perm_nil.1 hp)
 |x::r,y::s,h1,h2,hp=>by
  obtain⟨a1,a2⟩:=ga.1 h1
  obtain⟨b1,b2⟩:=ga.1 h2
  have e:x=y:=by
   rcases du.1 (hp.mem_iff.1 (.head _))with e|hx
   ·exact e
   ·rcases du.1 (hp.mem_iff.2 (gj (a:=y) (l:=s)))with e|hy
    ·exact e.symm
    ·exact absurd (b1 x hx) (hn _ _ (a1 y hy))
  subst e
  rw[Zi9 hn a2 b2 (List.perm_cons x |>.1 hp)]
theorem Zu0(h:Ord3 c){l:List α}{m:List (α×Nat)}(hp:m.Perm (nums 0 l))(hs:m.Pairwise (Ah c)):m.map Prod.fst=Zdr c l:=by
 have:=Zi9 (λx y h1=>Ah.not h h1) hs (Zmu h (Zmh 0 l)) (hp.trans (Ze8 _).symm)
 rw[this,Zrq,Zos]
theorem Zqp(h:Ord3 c)(l:List α):(Zdr c l).Pairwise λx y=>c x y≤0:=by
 have:=Zmu h (Zmh 0 l)
 have e:=Zrq (c:=c) (nums 0 l)
 rw[Zos]at e
 rw[←e,fy]
 refine this.imp λ{x y} h=>?_
 rcases h with h|h<;>omega
end
def sg{α:Type}(z:List α)(i n:Nat):List α:=(z.drop i).take n
theorem Zou{α:Type}(z:List α)(i n:Nat):z=z.take i++sg z i n++z.drop (i+n):=by
 unfold sg
 rw[cc,←gk,dc,dc]
theorem Zd8{α:Type}{A M B:List α}(h:i+n≤A.length):sg (A++M++B) i n=sg A i n:=by
 unfold sg
 rw[cc,ji oM,mg (by rw[dh]; omega)]
theorem Zns{α:Type}{A M B:List α}(h:A.length=i)(hn:M.length=n):sg (A++M++B) i n=M:=by
 subst h; subst hn
 unfold sg
 rw[cc,List.drop_left,List.take_left]
theorem Znr{α:Type}{A M:List α}(h:A.length=i)(hn:M.length≤n):sg (A++M) i n=M:=by
 subst h
 unfold sg
 rw[List.drop_left,dg hn]
theorem Zih{α:Type}{z:List α}(h:z.length≤i):sg z i n= []:=by unfold sg; rw[gd h]; simp
theorem Zn5{α:Type}{z:List α}(h:i+n≤z.length):(sg z i n).length=n:=by unfold sg; rw[cd,dh]; omega
theorem Zrm{α:Type}{z:List α}{m:Nat}:sg z i (n+m)=sg z i n++sg z (i+n) m:=by unfold sg; rw[List.take_add,gk]
theorem Zx1{α:Type}{z:List α}{x:α}(h:x∈sg z i n): ∃j,∃hj:j<z.length,i≤j∧j<i+n∧z[j]=x:=by
 obtain⟨k,hk,rfl⟩:=cy.1 h
 unfold sg at hk ⊢
 rw[cd,dh]at hk
 exact⟨i+k,oM,oM,oM,by rw[fm,fq]⟩
structure Chunks{α:Type}(c:α→α→Int)(n:Nat)(z z0:List (α×Nat))(k:Nat):Prop where
 perm: ∀i<k,(sg z (i*n) n).Perm (sg z0 (i*n) n)
 sort: ∀i<k,(sg z (i*n) n).Pairwise (Ah c)
theorem half{j:Nat}(h:i+j<9223372036854775808):Go.IntKind.wrap .i64 (Int.fdiv (Go.IntKind.wrap .u64 (Za ((i:Int)+(j:Int)))) (2 ^ 1))=(((i+j)/2:Nat):Int):=by
 rw[Zc oM oM]
 have e1:Go.IntKind.wrap .u64 ((i:Int)+(j:Int))=(i:Int)+(j:Int):=by
  simp only[Go.IntKind.wrap,Go.IntKind.bits,Go.IntKind.signed,Bool.false_and,jf,if_false]
  omega
 rw[e1]
 have e2:Int.fdiv ((i:Int)+(j:Int)) (2 ^ 1)=(((i+j)/2:Nat):Int):=by
  rw[Int.fdiv_eq_ediv_of_nonneg _ dC]; omega
 rw[e2]
 exact Zc oM oM
end Go.Hal
namespace Go.Hal
theorem Zic{α β:Type}{k:Nat}(f:α→List β)(hk: ∀x,(f x).length=k)(l:List α):((l.map f).flatten).length=l.length*k:=by
 induction l with
 |nil=>simp
 |cons a l ih=>simp[ih,hk,gh,Nat.add_comm]
def RowB{α:Type}(f:α→List Value)(w:World)(g:Nat)(l:List α)(tail:List Value):Prop:=BoxAt w ⟨g,0,none⟩ ((l.map f).flatten++tail)
section
variable {α:Type} {f:α→List Value} {k:Nat} {w w':World} {g:Nat} {l:List α} {tail:List Value}
theorem RowB.ext(h:RowB f w g l tail)(hx:Ext w w'):RowB f w' g l tail:=BoxAt.ext h hx
theorem RowB.lt(h:RowB f w g l tail):g<w.heap.size:=BoxAt.lt h
theorem Znf(i:Nat)(hi:i<l.length)(tail:List Value):
  (l.map f).flatten++tail=(((l.take i).map f).flatten)++f l[i]++(((l.drop (i+1)).map f).flatten++tail):=by
 have h:l=l.take i++l[i]::l.drop (i+1):=by rw[←dm hi,dc]
 have h2:(l.map f).flatten=((l.take i).map f).flatten++(f l[i]++((l.drop (i+1)).map f).flatten):=by
  conv=>lhs; rw[h]
  rw[ec,fg,jb,ge]
 rw[h2]; simp only[cc]
theorem Ztw(hk: ∀x,(f x).length=k)(hi:i<l.length):(((l.take i).map f).flatten).length=i*k:=by rw[Zic f hk,cd,gw oM]
theorem RowB.ld(hk: ∀x,(f x).length=k)(h:RowB f w g l tail)(hi:i<l.length):ldc w ((⟨g,0,none⟩:Addr).add (i*k)) (f l[i]):=by
 refine BoxAt.at1 h xR (r:=((l.drop (i+1)).map f).flatten++tail) ?_
 have hl:=Ztw hk hi
 rw[Znf i hi,cc,ji (by rw[hl]; exact df _),gd (by rw[hl]; exact df _),em]
theorem RowB.ld'(hk: ∀x,(f x).length=k)(h:RowB f w g l tail){x:α}(hi:l[i]? =some x):ldc w ((⟨g,0,none⟩:Addr).add (i*k)) (f x):=by
 obtain⟨h1,rfl⟩:=ce.1 hi
 exact h.ld hk h1
theorem RowB.st(hk: ∀x,(f x).length=k)(h:RowB f w g l tail)(hi:i<l.length){x:α}{K:World→Prop}(hK: ∀w',But g w w'→RowB f w' g (l.set i x) tail→K w'):stw w ((⟨g,0,none⟩:Addr).add (i*k)) (f x) K:=by
 have a0:=Ztw hk hi
 have e:=Znf (f:=f) i hi tail
 refine stw.intro (o:=i*k) (old:=(l.map f).flatten++tail) h (by rw[e,hk]; simp only[br,a0,hk]; omega) λw' hb hs hx=>hK w' hb ?_
 have e2:=Znf (f:=f) (l:=l.set i x) i (by simpa using hi) tail
 have e3:((l.map f).flatten++tail).take (i*k)++f x++((l.map f).flatten++tail).drop (i*k+(f x).length)=((l.set i x).map f).flatten++tail:=by
  rw[e2,e,hk]
  have t1:(((l.take i).map f).flatten++f l[i]++(((l.drop (i+1)).map f).flatten++tail)).take (i*k)=((l.take i).map f).flatten:=by
   rw[cc,mg (by rw[a0]; exact df _),dg (by rw[a0]; exact df _)]
  have t2:(((l.take i).map f).flatten++f l[i]++(((l.drop (i+1)).map f).flatten++tail)).drop (i*k+k)=((l.drop (i+1)).map f).flatten++tail:=by
   rw[ji (by simp only[br,a0,hk]; omega),gd (by simp only[br,a0,hk]; omega),em]
  have t3:(l.set i x).take i=l.take i:=by rw[List.take_set_of_le nR]
  have t4:(l.set i x).drop (i+1)=l.drop (i+1):=by rw[List.drop_set_of_lt oM]
  rw[t1,t2,t3,t4,List.getElem_set_self]
 unfold RowB
 rw[←e3]; exact hx
end
theorem Zox{α:Type}(A B:List α)(y x:α):((A++y::x::B).set (A.length+1) y).set A.length x=A++x::y::B:=by
 simp[List.set_append]
theorem Zu3{α:Type}(A B:List α)(y x:α):((A++y::x::B).set A.length x).set (A.length+1) y=A++x::y::B:=by
 simp[List.set_append]
theorem Zx5{α:Type}(A B C:List α)(x y:α):((A++x::(B++y::C)).set A.length y).set (A.length+1+B.length) x=A++y::(B++x::C):=by
 rw[lz _ _ nR,Nat.sub_self,List.set_cons_zero,lz _ _ oM]
 rw[show A.length+1+B.length - A.length=B.length+1 by omega,List.set_cons_succ,lz _ _ nR,Nat.sub_self,List.set_cons_zero]
theorem Z97{α:Type}(A B:List α)(y:α):(A++y::B)[A.length]? =some y:=by simp
theorem Z7t{α:Type}(A B:List α)(y x:α):(A++y::x::B)[A.length+1]? =some x:=by simp
theorem Zhb{α:Type}{A B:List α}{y:α}(h:A.length=n):(A++y::B)[n]? =some y:=by subst h; exact Z97 A B y
theorem Zid{α:Type}{A B:List α}{y x:α}(h:A.length+1=n):(A++y::x::B)[n]? =some x:=by subst h; exact Z7t A B y x
theorem But.ext'(h:But g w0 w)(hx:Ext w w'):But g w0 w':=h.trans (hx.but g)
section
open Classical
noncomputable def Zt6 (p:Nat→Prop):Nat:=if h: ∃n,p n∧ ∀m,p m→n≤m then h.choose else 0
theorem Z4q{p:Nat→Prop}: ∀n,p n→ ∃n,p n∧ ∀m,p m→n≤m:=λn=>by
 induction n using Nat.strongRecOn with
 |_ n ih=>
  intro h
  by_cases hm: ∃m,m<n∧p m
  ·obtain⟨m,h1,h2⟩:=hm; exact ih m h1 h2
  ·exact⟨n,h,λm h2=>by
    rcases lw m n with h3|h3
    ·exact absurd ⟨m,h3,h2⟩ hm
    ·exact h3⟩
theorem Zjp{p:Nat→Prop}(h:p n):p (Zt6 p)∧ ∀m,p m→Zt6 p≤m:=by
 have hx:=Z4q n h
 unfold Zt6
 rw[dif_pos hx]; exact hx.choose_spec
end
theorem loop1.ghost{α:Type}{a:α}{body:α→World→(α→World→Prop)→Prop}(J:Nat→α→World→Prop)(n:Nat)(h0:J n a w)
  (hs: ∀n a w a0,J n a w→(∀m a' w',m<n→J m a' w'→a0 a' w')→body a w a0):loop1 a w body:=
 ⟨λa w=>∃n,J n a w,λa w=>Zt6 λn=>J n a w,⟨n,h0⟩,λa w ⟨n,h⟩=>hs _ a w _ (Zjp (p:=λn=>J n a w) h).1 λm a' w' hm hJ=>⟨⟨m,hJ⟩,Nat.lt_of_le_of_lt ((Zjp (p:=λn=>J n a' w') hJ).2 m hJ) hm⟩⟩
theorem loop3.ghost{α β γ:Type}{a:α}{b:β}{c:γ}{body:α→β→γ→World→(α→β→γ→World→Prop)→Prop}(J:Nat→α→β→γ→World→Prop)(n:Nat)(h0:J n a b c w)
  (hs: ∀n a b c w a0,J n a b c w→(∀m a' b' c' w',m<n→J m a' b' c' w'→a0 a' b' c' w')→body a b c w a0):loop3 a b c w body:=
 ⟨λa b c w=>∃n,J n a b c w,λa b c w=>Zt6 λn=>J n a b c w,⟨n,h0⟩,λa b c w ⟨n,h⟩=>hs _ a b c w _ (Zjp (p:=λn=>J n a b c w) h).1 λm a' b' c' w' hm hJ=>⟨⟨m,hJ⟩,Nat.lt_of_le_of_lt ((Zjp (p:=λn=>J n a' b' c' w') hJ).2 m hJ) hm⟩⟩
theorem gCall.named{τ:Sort _}{g:Bool}{k:τ}{A B:τ→Prop}(h: ∀J,J=k→(g=true→A J)∧(g=false→B J)):gCall g k A B:=h k rfl
theorem OwnS.but{α:Type}{E:Enc α}{T:TypeId}{l:List α}(h:OwnS E T w lo S s l)(hb:But g w w')(hS: ¬S g)(hg: ∀ad,s.a=some ad→g≠ad.block):OwnS E T w' lo S s l:=
 h.keep hb.1 λb a4 a0=>hb.2.2.2.2 b a4 (by
  rcases a0 with a0|⟨ad,ha,rfl⟩
  ·rintro rfl; exact hS a0
  ·exact Ne.symm (hg ad ha))
theorem OwnS.rowG{α β:Type}{E:Enc α}{T:TypeId}{l:List α}(f:β→List Value)(r:β→α→Prop)(hf: ∀x cs,E.rep w S x cs→ ∃y,cs=f y∧r y x)(h:OwnS E T w lo S s l):
  (s=Sl.nil∧l= [])∨ ∃(g:Nat) (z:List (β×α)) (tail:List Value),s.a=some ⟨g,0,none⟩∧lo≤g∧z.map Prod.snd=l∧(∀p∈z,r p.1 p.2)∧RowB f w g (z.map Prod.fst) tail∧l.length≤s.cap∧s.cap≤maxLen:=by
 obtain⟨css,ho,hl,hr⟩:=h.row
 rcases ho.2 with⟨hv,hn⟩|⟨g,cap,a0,hv,a5,hh,hc,hm,a7,ht⟩
 ·left
  have h0:l= []:=cq (by rw[←h.len]; exact hn)
  refine⟨?_,h0⟩
  obtain⟨a,n,c⟩:=s
  simp only[Sl.v,Value.slice.injEq]at hv
  obtain⟨rfl,rfl,rfl⟩:=hv; rfl
 ·right
  have hz: ∀(css:List (List Value)) (l:List α),css.length=l.length→(∀(i:Nat) (x:α),l[i]? =some x→ ∃cs,css[i]? =some cs∧E.rep w S x cs)→ ∃z:List (β×α),z.map Prod.snd=l∧(∀p∈z,r p.1 p.2)∧(z.map Prod.fst).map f=css:=by
   intro css
   induction css with
   |nil=>intro l hl _; exact⟨[],(cq hl.symm).symm,by simp,rfl⟩
   |cons c css ih=>
    intro l hl hr
    cases l with
    |nil=>cases hl
    |cons x l=>
     obtain⟨cs,h1,h2⟩:=hr 0 x rfl
     simp only[gl,cw]at h1
     subst h1
     obtain⟨y,hy,a6⟩:=hf x _ h2
     obtain⟨z,k1,k2,k3⟩:=ih l (by simpa using hl) λi x hx=>hr (i+1) x hx
     refine⟨(y,x)::z,by simp[k1],λp hp=>?_,by simp only[fg,k3,hy]⟩
     rcases du.1 hp with rfl|hp
     ·exact a6
     ·exact k2 p hp
  obtain⟨z,k1,k2,k3⟩:=hz css l hl hr
  simp only[Sl.v,Value.slice.injEq]at hv
  obtain⟨ha,_,a4⟩:=hv
  refine⟨g,z,a0.toList.drop (css.flatten).length,ha,a5,k1,k2,⟨T,rfl,rfl,?_⟩,by rw[a4]; simpa[h.len]using hc,by rw[a4]; exact hm⟩
  rw[k3]
  have e:css.flatten++a0.toList.drop css.flatten.length=a0.toList:=by
   have:css.flatten=a0.toList.take css.flatten.length:=by
    rw[←ht]; simp
   conv=>lhs; lhs; rw[this]
   exact dc _ _
  rw[e]; simpa using hh
theorem RowB.read{α β:Type}{E:Enc α}{cap:Nat}{f:β→List Value}{z:List (β×α)}{tail:List Value}(h:RowB f w g (z.map Prod.fst) tail)(hk: ∀x,(f x).length=E.n)(hr: ∀p∈z,E.rep w S p.2 (f p.1))(hc:z.length≤cap)(hm:cap≤maxLen)(hb:z.length*E.bytes≤room):
  SlR E w (λb=>S b∨b=g) ⟨some ⟨g,0,none⟩,z.length,cap⟩ (z.map Prod.snd):=by
 refine⟨by simp,by simpa using hc,hm,by simpa using hb,.inr ⟨⟨g,0,none⟩,rfl,.inr rfl,λi x hx=>?_⟩⟩
 rw[fi]at hx
 cases hz:z[i]? with
 |none=>rw[hz]at hx; cases hx
 |some p=>
  rw[hz]at hx
  simp only[gv,cw]at hx
  subst hx
  exact⟨f p.1,E.mono (hr p (ez hz)) λ_ h=>.inl h,h.ld' hk (by rw[fi,hz]; rfl)⟩
section
variable {α:Type} {E:Enc α} {T:TypeId} {w w':World} {lo:Nat} {S S':Nat→Prop} {s:Sl} {l:List α}
theorem Z2g{w:World}{S:Nat→Prop}: ∀(l:List α) (ad:Addr),(∀(i:Nat) (x:α),l[i]? =some x→ ∃cs,E.rep w S x cs∧ldc w (ad.add (i*E.n)) cs)→
  ∃css:List (List Value),css.length=l.length∧(∀(i:Nat) (x:α),l[i]? =some x→ ∃cs,css[i]? =some cs∧E.rep w S x cs)∧ldc w ad css.flatten∧css.flatten.length=l.length*E.n
 | [],ad,_=>⟨[],rfl,λi x h=>by simp at h,λj v h=>by simp at h,by simp⟩
 |x::r,ad,h=>by
  obtain⟨cs,h1,h2⟩:=h 0 x rfl
  obtain⟨css,h3,h4,h5,h6⟩:=Z2g r (ad.add E.n) λi y hi=>by
   obtain⟨cs,a,b⟩:=h (i+1) y (by simpa using hi)
   refine⟨cs,a,?_⟩
   rw[Zfq,show E.n+i*E.n=(i+1)*E.n by rw[gh]; omega]
   exact b
  have hl:=E.len h1
  refine⟨cs::css,by simp[h3],λi y hi=>?_,λj v hj=>?_,by rw[ge,br,hl,h6,dq,gh]; omega⟩
  ·cases i with
   |zero=>simp at hi; subst hi; exact⟨cs,rfl,h1⟩
   |succ i=>obtain⟨c,a,b⟩:=h4 i y (by simpa using hi); exact⟨c,by simpa using a,b⟩
  ·rw[ge]at hj
   by_cases a0:j<cs.length
   ·rw[dt a0]at hj
    have:=h2 j v hj
    rw[jg]at this
    exact this
   ·rw[ff oM]at hj
    have:=h5 (j - cs.length) v hj
    rw[Zfq,show E.n+(j - cs.length)=j by omega]at this
    exact this
theorem Z5m{l:List α}{css:List (List Value)}(hl:css.length=l.length)(hr: ∀(i:Nat) (x:α),l[i]? =some x→ ∃cs,css[i]? =some cs∧E.rep w S x cs): ∀u∈css.flatten,u.oneCell'=true:=by
 intro u hu
 obtain⟨cs,a0,a5⟩:=List.mem_flatten.1 hu
 obtain⟨k,hk,he⟩:=cy.1 a0
 have a4:k<l.length:=by rw[←hl]; exact hk
 obtain⟨cs',h3,h4⟩:=hr k _ (bq a4)
 rw[bq hk,he,cw]at h3
 subst h3
 exact E.one h4 u a5
theorem OwnS.appAll{k:Sl→World→Prop}{x:Sl}{m:List α}(h:OwnS E e w lo S s l)(hT:ApT P t e E.n E.bytes)(d3:lo≤w.heap.size)(hx:SlR E w S' x m)(b2: ∀b,S' b→b<w.heap.size)(b3: ∀ad,s.a=some ad→ ¬S' ad.block)
  (hb:(l.length+m.length)*E.bytes≤room) (hm:l.length+m.length≤maxLen)
  (hk: ∀(r:Sl) (w':World),OwnS E e w' lo (λb=>S b∨S' b) r (l++m)→Below lo w w'→(∀b,b<w.heap.size→(∀ad,s.a=some ad→b≠ad.block)→w'.heap[b]? =w.heap[b]?)→(∀ad,r.a=some ad→(s.a=some ad∨w.heap.size≤ad.block))→k r w'):appS P t t s (Sl.v x) w k:=by
 intro ty
 obtain⟨css,ho,hl,hr⟩:=h.row
 obtain⟨ht,i,z,hi,hz,b0,c9,d9,d5⟩:=hT
 have c4:=h.len
 cases hxa:x.a with
 |none=>
  have d4:m= []:=by
   rcases hx.2.2.2.2 with h0|⟨ad,h1,_⟩
   ·exact h0
   ·rw[hxa]at h1; cases h1
  subst d4
  have c3:x.len=0:=hx.1
  have a9:(Builtin.append_ #[t,t] ty #[s.v,x.v]).run P w= .ok s.v w:=by
   have b7:x.v= .slice none 0 x.cap:=by unfold Sl.v; rw[hxa,c3]
   rw[b7]
   rcases ho.2 with⟨hv,_⟩|⟨g,cap,b9,hv,_,_,d6,_⟩
   ·rw[hv]; simp[Builtin.append_,run_underlying ht,sizeOf,typeInfo,hi,Builtin.lenOf,Builtin.firstCells]
   ·rw[hv]; simp[Builtin.append_,run_underlying ht,sizeOf,typeInfo,hi,Builtin.lenOf,Builtin.firstCells,d6,storeCells]
  refine⟨_,w,a9,s,rfl,hk s w ?_ (Below.refl _ _) (λ_ _ _=>rfl) λad ha=>.inl ha⟩
  rw[dp]
  refine h.mono (λ_ h=>.inl h) (λb hb=>?_) λad ha hb=>?_
  ·rcases hb with hb|hb
   ·exact h.lt b hb
   ·exact b2 b hb
  ·rcases hb with hb|hb
   ·exact h.apart ad ha hb
   ·exact b3 ad ha hb
 |some ad=>
  have b6: ∀(i:Nat) (y:α),m[i]? =some y→ ∃cs,E.rep w S' y cs∧ldc w (ad.add (i*E.n)) cs:=by
   intro i y hi
   obtain⟨c8,cs,h1,h2,h3,h4⟩:=hx.get hi
   rw[hxa,cw]at h1
   subst h1
   exact⟨cs,h3,h4⟩
  obtain⟨b8,c2,c6,d0,d1⟩:=Z2g m ad b6
  have b7:x.v= .slice (some ad) m.length x.cap:=by unfold Sl.v; rw[hxa,hx.1]
  obtain⟨v',w',a9,a4,a5,c1⟩:=Zo2 (P:=P) (ty:=ty) (m:=m.length) (c:=x.cap) ht hi hz (by rw[b0]; exact d9) (by rw[b0]; exact d5) (by rw[b0]; exact ho) (by rw[b0]; exact d1) (λj u hj=>d0 j u hj) (Z5m c2 c6) oM (by rw[c4,c9]; exact hb) d3
  rw[b0]at a4
  have d8: ∃r:Sl,v'=r.v∧r.len=s.len+m.length:=by
   rcases a4.2 with⟨hv,hn⟩|⟨g,cap,b9,hv,_⟩
   ·exact⟨⟨none,0,0⟩,hv,hn.symm⟩
   ·exact⟨⟨_,_,_⟩,hv,rfl⟩
  obtain⟨r,rfl,c7⟩:=d8
  have b1: ∀ad,r.a=some ad→(s.a=some ad∨w.heap.size≤ad.block):=by
   intro ad a6
   have h2:ad=⟨ad.block,0,none⟩:=by
    rcases a4.2 with⟨hv,_⟩|⟨g,cap,b9,hv,_⟩
    ·simp[Sl.v,a6]at hv
    ·simp[Sl.v,a6]at hv; rw[hv.1]
   have c5:(Sl.v r).ownBlock=some ad.block:=by simp[Value.ownBlock,Sl.v,a6]
   rcases c1 with hb|hb
   ·left
    rw[c5]at hb
    cases hsa:s.a with
    |none=>simp[Value.ownBlock,Sl.v,hsa]at hb
    |some c8=>
     simp[Value.ownBlock,Sl.v,hsa]at hb
     have:=(h.block hsa).2.2
     rw[this,←hb,←h2]
   ·right
    rw[c5,cw]at hb; omega
  have a8: ∀b,b<w.heap.size→(∀ad,s.a=some ad→b≠ad.block)→w'.heap[b]? =w.heap[b]? :=by
   intro b b4 d7
   refine a5.block b b4 ?_
   simp only[Value.ownBlock,Sl.v]
   cases hsa:s.a with
   |none=>simp
   |some ad=>simp only[ne_eq,cw]; exact d7 ad hsa
  rw[b7]
  refine⟨_,w',a9,r,rfl,hk r w' ?_ ⟨a5.os,a5.tape,a5.output,a5.size,λb hb=>a8 b oM λad ha e=>by have:=(h.block ha).1; omega⟩ a8 b1⟩
  have a7: ∀b,b<w.heap.size→(S b∨S' b)→w'.heap[b]? =w.heap[b]? :=λb b4 a0=>a8 b b4 λad ha e=>by
   subst e
   rcases a0 with a0|a0
   ·exact h.apart _ ha a0
   ·exact b3 _ ha a0
  refine⟨⟨css++b8,?_,by simp[hl,c2],λj y hj=>?_⟩,by simp[c7,c4],λb a0=>?_,λad a6 a0=>?_⟩
  ·rw[c7,jb]; exact a4
  ·rw[kq]at hj
   split at hj
   ·rename_i d2
    obtain⟨cs',h1,h2⟩:=hr j y hj
    exact⟨cs',by rw[dt oM]; exact h1,E.keep (E.mono h2 λ_ h=>.inl h) λb hb b5=>a7 b b5 hb⟩
   ·rename_i d2
    obtain⟨cs',h1,h2⟩:=c6 (j - l.length) y hj
    exact⟨cs',by rw[ff oM,hl]; exact h1,E.keep (E.mono h2 λ_ h=>.inr h) λb hb b5=>a7 b b5 hb⟩
  ·have:b<w.heap.size:=by
    rcases a0 with a0|a0
    ·exact h.lt b a0
    ·exact b2 b a0
   have:=a5.size; omega
  ·rcases b1 ad a6 with h1|h1
   ·rcases a0 with a0|a0
    ·exact h.apart ad h1 a0
    ·exact b3 ad h1 a0
   ·have:ad.block<w.heap.size:=by
     rcases a0 with a0|a0
     ·exact h.lt _ a0
     ·exact b2 _ a0
    omega
end
def SlP{α:Type}(E:Enc α)(w:World)(S:Nat→Prop)(s:Sl)(l:List α):Prop:=
 SlR E w S s l∧(l= []∨ ∃g cur t,s.a=some ⟨g,0,none⟩∧S g∧w.heap[g]? =some (.cells cur t (0,0))∧l.length*E.n≤cur.size)
section
variable {α:Type} {E:Enc α} {w w':World} {S S':Nat→Prop} {s:Sl} {l:List α}
theorem SlP.mono(h:SlP E w S s l)(hs: ∀b,S b→S' b):SlP E w S' s l:=⟨h.1.mono hs,h.2.imp id λ⟨g,a0,t,a,b,c,d⟩=>⟨g,a0,t,a,hs _ b,c,d⟩⟩
theorem SlP.keep(h:SlP E w S s l)(hk:Keep S w w'):SlP E w' S s l:=⟨h.1.keep hk,h.2.imp id λ⟨g,a0,t,a,b,c,d⟩=>⟨g,a0,t,a,b,(hk g b (lt_of_block c)).trans c,d⟩⟩
theorem SlP.ext(h:SlP E w S s l)(hx:Ext w w'):SlP E w' S s l:=h.keep (hx.keep S)
theorem SlP.but(h:SlP E w S s l)(hb:But g w w')(hn: ¬S g):SlP E w' S s l:=h.keep (hb.keep hn)
theorem SlP.nil:SlP E w S Sl.nil ([]:List α):=⟨SlR.nil trivial,.inl rfl⟩
theorem SlP.bound(hf: ∀{w S S' x cs},E.rep w S x cs→E.rep w S' x cs)(h:SlP E w S s l):SlP E w (λb=>S b∧b<w.heap.size) s l:=by
 obtain⟨⟨h1,h2,h3,h4,h5⟩,h6⟩:=h
 rcases h6 with h6|⟨g,a0,t,a,b,c,d⟩
 ·exact⟨⟨h1,h2,h3,h4,.inl h6⟩,.inl h6⟩
 ·refine⟨⟨h1,h2,h3,h4,h5.imp id λ⟨ad,k1,k2,k3⟩=>⟨ad,k1,⟨k2,?_⟩,λi x hx=>let⟨cs,e1,e2⟩:=k3 i x hx;⟨cs,hf e1,e2⟩⟩⟩,.inr ⟨g,a0,t,a,⟨b,lt_of_block c⟩,c,d⟩⟩
  rw[a,cw]at k1
  subst k1; exact lt_of_block c
theorem OwnS.readP{T:TypeId}(h:OwnS E T w lo S s l)(hb:l.length*E.bytes≤room)(hm:l.length≤maxLen):SlP E w (λb=>S b∨ ∃ad,s.a=some ad∧b=ad.block) s l:=by
 refine⟨h.read hb hm,?_⟩
 obtain⟨css,ho,hl,hr⟩:=h.row
 rcases ho.2 with⟨hv,hn⟩|⟨g,cap,a0,hv,hg,hh,hc,a6,a4,ht⟩
 ·exact .inl (cq (by rw[←h.len]; exact hn))
 ·simp[Sl.v]at hv
  obtain⟨ha,a5⟩:=hv
  refine .inr ⟨g,a0,T,ha,.inr ⟨_,ha,rfl⟩,hh,?_⟩
  rw[a4,←h.len]; exact fb _ hc
end
def depP:Enc Dep where
 n:=2
 bytes:=40
 rep:=λw S d cs=>Str d.name∧ ∃s,cs= [.string d.name,s.v]∧SlP spanE w S s d.range
 len:=λ⟨_,s,h,_⟩=>by rw[h]; rfl
 one:=λ⟨_,s,h,_⟩ v hv=>by rw[h]at hv; simp[Sl.v]at hv; rcases hv with rfl|rfl<;>rfl
 mono:=λ⟨h0,s,h,hr⟩ hs=>⟨h0,s,h,hr.mono hs⟩
 keep:=λ⟨h0,s,h,hr⟩ hk=>⟨h0,s,h,hr.keep hk⟩
def wantP:Enc Want where
 n:=3
 bytes:=48
 rep:=λw S d cs=>Str d.name∧ ∃s,cs= [.string d.name,.int .i64 d.kind,s.v]∧SlP spanE w S s d.range
 len:=λ⟨_,s,h,_⟩=>by rw[h]; rfl
 one:=λ⟨_,s,h,_⟩ v hv=>by rw[h]at hv; simp[Sl.v]at hv; rcases hv with rfl|rfl|rfl<;>rfl
 mono:=λ⟨h0,s,h,hr⟩ hs=>⟨h0,s,h,hr.mono hs⟩
 keep:=λ⟨h0,s,h,hr⟩ hk=>⟨h0,s,h,hr.keep hk⟩
theorem SlR.conv{α:Type}{E F:Enc α}{l:List α}(h:SlR E w S s l)(hn:E.n=F.n)(hb:E.bytes=F.bytes)(hr: ∀x∈l,∀cs,E.rep w S x cs→F.rep w S x cs):SlR F w S s l:=
 ⟨h.1,h.2.1,h.2.2.1,by rw[←hb]; exact h.2.2.2.1,h.2.2.2.2.imp id λ⟨ad,a,b,c⟩=>⟨ad,a,b,λi x hx=>let⟨cs,k1,k2⟩:=c i x hx;⟨cs,hr x (ez hx) cs k1,by rw[←hn]; exact k2⟩⟩⟩
theorem SlP.dep{l:List Dep}(h:SlP depP w S s l):SlR depE w S s l:=h.1.conv rfl rfl λx _ cs ⟨h0,s,h1,h2⟩=>⟨h0,s,h1,h2.1⟩
end Go.Hal
namespace Go.Hal
open Go.ChangeShapes Go.WideShapes Go.ChangeAt
def Here(W:World):Nat→Prop:=λb=>b<W.heap.size
theorem Here.old(W:World):Old (Here W) W:=λ_ h=>h
section
variable {H:Type} {enc:TypeId×Value→H} {P:Program} {W:World}
def small(l:List Nat):Prop:=l.all (λx=>decide (x≤reachBytes))=true
theorem Zms{a b:List Nat}:small (a++b)↔small a∧small b:=by unfold small; rw[mm,bx]
theorem Zrn{a:Nat}{b:List Nat}:small (a::b)↔a≤reachBytes∧small b:=by unfold small; rw[jv,bx,decide_eq_true_eq]
abbrev Tr(enc:TypeId×Value→H)(P:Program)(W:World)(n:Nat)(t:TypeId)(cs:List Value)(x:DataW H×List MemPlace):Prop:=DataW.trod enc P W 0 (λ_=>true) true n t cs=some x
def Rd(H:Type)(P:Program)(W:World){α:Type}(E:Enc α)(t:TypeId):Prop:=∀(enc:TypeId×Value→H) n cs x,Tr enc P W n t cs x→small (x.1.weights P t)→ ∃y,E.rep W (Here W) y cs
def RdS(H:Type)(P:Program)(W:World){α:Type}(E:Enc α)(t:TypeId):Prop:=∀(enc:TypeId×Value→H) n cs x,Tr enc P W n t cs x→small (x.1.weights P t)→ ∃(s:Sl) (l:List α),cs= [s.v]∧SlR E W (Here W) s l∧l.length*E.bytes≤reachBytes
theorem Zlm{l:List (DataW H)}(h:small (DataW.weightsAll P e l)){d:DataW H}(hd:d∈l):small (d.weights P e):=by
 induction l with
 |nil=>cases hd
 |cons a r ih=>
  simp only[DataW.weightsAll]at h
  obtain⟨h1,h2⟩:=Zms.1 h
  rcases du.1 hd with rfl|hd
  ·exact h1
  ·exact ih h2 hd
theorem Zgc: ∀{ts:List TypeId} {ds:List (DataW H)},small (DataW.weightsEach P ts ds)→ ∀{i:Nat} {t:TypeId} {d:DataW H},ts[i]? =some t→ds[i]? =some d→small (d.weights P t)
 | [],_,_,i,t,d,h1,_=>by simp at h1
 |_::_,[],_,i,t,d,_,h2=>by simp at h2
 |a::ts,b::ds,h,i,t,d,h1,h2=>by
  simp only[DataW.weightsEach]at h
  obtain⟨k1,k2⟩:=Zms.1 h
  cases i with
  |zero=>
   simp only[gl,cw]at h1 h2
   subst h1; subst h2; exact k1
  |succ i=>exact Zgc k2 (i:=i) (by simpa using h1) (by simpa using h2)
theorem Zju{α:Type}{E:Enc α}(ht:P.underlying t=some (.slice e))(hc:P.cellsOf e=E.n)(hb:P.bytesOf e=E.bytes)(hn:0<E.n)(hE:Rd H P W E e):RdS H P W E t:=by
 intro enc n cs x h hw
 rcases Go.Deep.open_slice ht h with⟨rfl,rfl⟩|⟨a,len,cap,m,n',D,Pl,rfl,_,b1,b0,hm,rfl,a6⟩
 ·exact⟨Sl.nil,[],rfl,SlR.nil trivial,by simp[reachBytes]⟩
 ·simp only[if_true]at hm
  obtain rfl:cap=m:=hm.symm
  simp only[DataW.weights,ht]at hw
  obtain⟨a8,b2⟩:=Zrn.1 hw
  obtain⟨b3,_⟩:=Zms.1 b2
  rw[hc]at a6
  have a7: ∀i,i<len→ ∃y cs',E.rep W (Here W) y cs'∧Go.Hal.ldc W (a.add (i*E.n)) cs':=λi hi=>by
   obtain⟨cs',h1,h2⟩:=a6 i oM
   obtain⟨_,b4,a4⟩:=World.cells?_some h1
   obtain⟨y,hy⟩:=hE enc n' cs' _ h2 (Zlm b3 (fp (jx.2 hi)))
   exact⟨y,cs',hy,λj v hj=>by
    have b5:=(ce.1 hj).1
    exact(a4 j oM).trans hj⟩
  have a5: ∀k,k≤len→ ∃l:List α,l.length=k∧ ∀(i:Nat) (y:α),l[i]? =some y→ ∃cs',E.rep W (Here W) y cs'∧Go.Hal.ldc W (a.add (i*E.n)) cs':=λk=>by
   induction k with
   |zero=>intro _; exact⟨[],rfl,by simp⟩
   |succ k ih=>
    intro hk
    obtain⟨l,hl,hr⟩:=ih oM
    obtain⟨y,cs',h1,h2⟩:=a7 k oM
    refine⟨l++ [y],by simp[hl],λi z hz=>?_⟩
    rw[kq]at hz
    split at hz
    ·exact hr i z hz
    ·rename_i hi
     have:i=k:=by
      have:=(ce.1 hz).1
      simp at this; omega
     subst this
     simp[hl]at hz
     subst hz
     exact⟨cs',h1,h2⟩
  obtain⟨l,hl,hr⟩:=a5 len nR
  have a0:l.length*E.bytes≤reachBytes:=by
   refine co (fb _ (show l.length≤((List.range len).map D).length+((List.range (cap - len)).map λj=>D (len+j)).length by simp[hl])) ?_
   rw[hb]at a8; exact a8
  refine⟨⟨some a,len,cap⟩,l,rfl,⟨hl.symm,by rw[hl]; exact b1,b0,by unfold room; unfold reachBytes at a0; omega,?_⟩,a0⟩
  rcases fo len with h0|h0
  ·left; exact cq oM
  ·right
   refine⟨a,rfl,?_,hr⟩
   obtain⟨y,hy⟩: ∃y,l[0]? =some y:=⟨_,bq oM⟩
   obtain⟨cs',h1,h2⟩:=hr 0 y hy
   have b6:=E.len h1
   have a9:=h2 0 cs'[0] (bq oM)
   have:=World.block_lt_of_cell? W _ a9
   rw[Zel,Zel]at this
   exact this
theorem Za5{x:DataW H×List MemPlace}(ht:P.underlying t=some (.struct fs))(h:Tr enc P W n t cs x)(hw:small (x.1.weights P t))(i ft off c:Nat)(hf: ∃f,fs[i]? =some f∧f.type=ft∧f.offset=off)(hc:P.cellsOf ft=c):
  ∃y m,Tr enc P W m ft ((cs.drop off).take c) y∧small (y.1.weights P ft):=by
 obtain⟨f,hf,rfl,rfl⟩:=hf
 subst hc
 obtain⟨xs,m,_,rfl,_,a0,a4⟩:=DataW.trod_struct ht h
 have hi:i<xs.length:=by rw[a0]; exact(de.1 hf).1
 have h1:=a4 i f hf
 rw[bq hi]at h1
 refine⟨xs[i],m,h1,?_⟩
 simp only[DataW.weights,ht]at hw
 exact Zgc hw (i:=i) (by simp[hf]) (by simp[bq hi])
theorem Zi7{x:DataW H×List MemPlace}(ht:P.underlying t=some (.struct fs))(h:Tr enc P W n t cs x):cs.length=P.cellsOf t:=by
 obtain⟨xs,m,_,_,hl,_⟩:=DataW.trod_struct ht h
 exact hl
theorem Zmx(hl:laidOutB P=true){W':World}(hb:Below W.heap.size W W'): ∀{ts:List TypeId} {vs:List Value} {ds:List (DataW H)} {ps:List MemPlace},(∀t∈ts,P.readableRec t=true∧t<P.types.size)→(∀x∈ps,x.block<W.heap.size)→
  DataW.TrodAll enc P W 0 (λ_=>true) true ts vs ds ps→DataW.TrodAll enc P W' 0 (λb=>decide (b<W.heap.size)) true ts vs ds ps
 | [],vs,ds,ps,_,_,h=>by
  obtain⟨rfl,rfl,rfl⟩:=trodAll_nil h
  exact trodAll_mk0
 |t::ts,vs,ds,ps,hr,hlt,h=>by
  obtain⟨v,a4,d,a0,p,p',rfl,rfl,rfl,h1,h2⟩:=trodAll_cons h
  exact trodAll_cons_mk (Go.RowKit.Below.trod hl (hr t (.head _)).1 (hr t (.head _)).2 h1 hb λx hx=>hlt x (gb _ hx)) (Zmx hl hb (λt ht=>hr t (.tail _ ht)) (λx hx=>hlt x (ii _ hx)) h2)
theorem Z4p{f:Func}{s:ChangeSpec}{W':World}{args:Array Value}{ds gs:List (DataW H)}{before:List MemPlace}(hl:laidOutB P=true)(hr: ∀t∈f.params.toList,P.readableRec t=true∧t<P.types.size){bt:TypeId}(a4:f.resultTypes= #[bt])(a5:P.underlying bt=some .bool)(hv:s.vars= [])
  (hW:DataW.Whole enc P f.params.toList s.vars false W args.toList ds gs before) (hs:ds.length=f.params.toList.length→s.fn H ds={results:=[.lit (.bool true)],args:=ds}) (hb:Ext W W'):s.post enc P f false true false false W args (.bool true) W':=by
 have a0:=hW
 obtain⟨p,q,hA,hV,rfl,_,_⟩:=hW
 rw[hv]at hV
 obtain⟨rfl,rfl⟩:=trodVars_none hV
 have hA:DataW.TrodAll enc P W 0 (λ_=>true) true f.params.toList args.toList ds p:=hA
 have a6: ∀x∈p,x.block<W.heap.size:=λx hx=>by simpa using a0.lt x (gb _ hx)
 have hf:=hs (Go.trodAll_length hA).2
 rw[←dp ds]at hf
 refine⟨ds,[],_,[],p,[],a0,?_,?_,?_,Go.RowKit.Below.frame hb _,nO⟩
 ·rw[hf,a4]
  exact trodAll_mk1 (shut_bool a5 true)
 ·rw[hf,dp]
  exact Zmx hl hb hr a6 hA
 ·rw[hf,hv]; rfl
end
end Go.Hal
namespace Go.Hal
open Go.ChangeShapes Go.WideShapes Go.ChangeAt
theorem Z7y:laidOutB prog=true:=kR
section
variable {H:Type} {W:World}
theorem ceI:prog.cellsOf 3=1:=kR
theorem ceS:prog.cellsOf 9=1:=kR
theorem ceV:prog.cellsOf 50=3:=kR
theorem ceSp:prog.cellsOf 210=6:=kR
theorem ceD:prog.cellsOf 202=2:=kR
theorem ceP:prog.cellsOf 111=4:=kR
theorem ceK:prog.cellsOf 53=7:=kR
theorem ceLs:prog.cellsOf 200=1:=kR
theorem ceLd:prog.cellsOf 51=1:=kR
theorem ceLk:prog.cellsOf 25=1:=kR
theorem ceLp:prog.cellsOf 73=1:=kR
theorem rdI{enc:TypeId×Value→H}{x:DataW H×List MemPlace}(h:Tr enc prog W n 3 cs x): ∃k,cs= [.int .i64 k]:=by
 obtain⟨k,h1,_⟩:=DataW.trod_int underlying3 h
 exact⟨k,h1⟩
theorem Zws{enc:TypeId×Value→H}{x:DataW H×List MemPlace}(h:Tr enc prog W n 9 cs x): ∃s:ByteArray,cs= [.string s]∧Str s:=by
 obtain⟨s,h1,_,h2⟩:=DataW.trod_string underlying9 h
 exact⟨s,h1,h2⟩
theorem len3{α:Type}{l:List α}(h:l.length=3): ∃a b c,l= [a,b,c]:=by
 match l,h with
 | [a,b,c],_=>exact⟨a,b,c,rfl⟩
theorem Zze{enc:TypeId×Value→H}{x:DataW H×List MemPlace}(h:Tr enc prog W n 50 cs x)(hw:small (x.1.weights prog 50)): ∃v:Ver,cs=v.c:=by
 have hl:=Zi7 underlying50 h
 rw[ceV]at hl
 obtain⟨y0,m0,h0,_⟩:=Za5 underlying50 h hw 0 3 0 1 ⟨_,rfl,rfl,rfl⟩ ceI
 obtain⟨y1,m1,h1,_⟩:=Za5 underlying50 h hw 1 3 1 1 ⟨_,rfl,rfl,rfl⟩ ceI
 obtain⟨y2,m2,h2,_⟩:=Za5 underlying50 h hw 2 3 2 1 ⟨_,rfl,rfl,rfl⟩ ceI
 obtain⟨a,b,c,rfl⟩:=len3 hl
 obtain⟨k0,e0⟩:=rdI h0
 obtain⟨k1,e1⟩:=rdI h1
 obtain⟨k2,e2⟩:=rdI h2
 simp at e0 e1 e2
 exact⟨⟨k0,k1,k2⟩,by rw[e0,e1,e2]; rfl⟩
theorem rdSpan:Rd H prog W spanE 210:=by
 intro enc n cs x h hw
 have hl:=Zi7 underlying210 h
 rw[ceSp]at hl
 obtain⟨y0,m0,h0,w0⟩:=Za5 underlying210 h hw 0 50 0 3 ⟨_,rfl,rfl,rfl⟩ ceV
 obtain⟨y1,m1,h1,w1⟩:=Za5 underlying210 h hw 1 50 3 3 ⟨_,rfl,rfl,rfl⟩ ceV
 obtain⟨v0,e0⟩:=Zze h0 w0
 obtain⟨v1,e1⟩:=Zze h1 w1
 refine⟨⟨v0,v1⟩,?_,trivial⟩
 have h3:cs=cs.take 3++(cs.drop 3).take 3:=by
  conv=>lhs; rw[←dc 3 cs]
  rw[dg (l:=cs.drop 3) (by rw[dh]; omega)]
 rw[h3]
 have e0:cs.take 3=v0.c:=e0
 rw[e0]; exact congrArg _ e1
theorem Z8h:RdS H prog W spanE 200:=Zju underlying200 ceSp kR dC rdSpan
theorem rdDep:Rd H prog W depE 202:=by
 intro enc n cs x h hw
 have hl:=Zi7 underlying202 h
 rw[ceD]at hl
 obtain⟨y0,m0,h0,w0⟩:=Za5 underlying202 h hw 0 9 0 1 ⟨_,rfl,rfl,rfl⟩ ceS
 obtain⟨y1,m1,h1,w1⟩:=Za5 underlying202 h hw 1 200 1 1 ⟨_,rfl,rfl,rfl⟩ ceLs
 obtain⟨s,e0,hs⟩:=Zws h0
 obtain⟨t,l,e1,ht,_⟩:=Z8h enc m1 _ _ h1 w1
 match cs,hl with
 | [a,b],_=>
  simp at e0 e1
  exact⟨⟨s,l⟩,hs,t,by rw[e0,e1],ht⟩
theorem Zxx:RdS H prog W depE 51:=Zju underlying51 ceD kR dC rdDep
theorem rdPin:Rd H prog W pinE 111:=by
 intro enc n cs x h hw
 have hl:=Zi7 underlying111 h
 rw[ceP]at hl
 obtain⟨y0,m0,h0,w0⟩:=Za5 underlying111 h hw 0 9 0 1 ⟨_,rfl,rfl,rfl⟩ ceS
 obtain⟨y1,m1,h1,w1⟩:=Za5 underlying111 h hw 1 50 1 3 ⟨_,rfl,rfl,rfl⟩ ceV
 obtain⟨s,e0,hs⟩:=Zws h0
 obtain⟨v,e1⟩:=Zze h1 w1
 match cs,hl with
 | [a,b,c,d],_=>
  simp[Ver.c]at e0 e1
  exact⟨⟨s,v⟩,by rw[e0,e1.1,e1.2.1,e1.2.2]; rfl,hs⟩
theorem rdPins:RdS H prog W pinE 73:=Zju underlying73 ceP kR dC rdPin
theorem rdPack:Rd H prog W packE 53:=by
 intro enc n cs x h hw
 have hl:=Zi7 underlying53 h
 rw[ceK]at hl
 obtain⟨y0,m0,h0,w0⟩:=Za5 underlying53 h hw 0 9 0 1 ⟨_,rfl,rfl,rfl⟩ ceS
 obtain⟨y1,m1,h1,w1⟩:=Za5 underlying53 h hw 1 50 1 3 ⟨_,rfl,rfl,rfl⟩ ceV
 obtain⟨y2,m2,h2,w2⟩:=Za5 underlying53 h hw 2 51 4 1 ⟨_,rfl,rfl,rfl⟩ ceLd
 obtain⟨y3,m3,h3,w3⟩:=Za5 underlying53 h hw 3 51 5 1 ⟨_,rfl,rfl,rfl⟩ ceLd
 obtain⟨y4,m4,h4,w4⟩:=Za5 underlying53 h hw 4 51 6 1 ⟨_,rfl,rfl,rfl⟩ ceLd
 obtain⟨s,e0,hs⟩:=Zws h0
 obtain⟨v,e1⟩:=Zze h1 w1
 obtain⟨d,ld,e2,hd,_⟩:=Zxx enc m2 _ _ h2 w2
 obtain⟨e,le,e3,he,_⟩:=Zxx enc m3 _ _ h3 w3
 obtain⟨o,lo,e4,ho,_⟩:=Zxx enc m4 _ _ h4 w4
 match cs,hl with
 | [c0,c1,c2,c3,c4,c5,c6],_=>
  simp[Ver.c]at e0 e1 e2 e3 e4
  exact⟨⟨s,v,ld,le,lo⟩,hs,d,e,o,by rw[e0,e1.1,e1.2.1,e1.2.2,e2,e3,e4]; rfl,hd,he,ho⟩
theorem Z8g:RdS H prog W packE 25:=Zju underlying25 ceK kR dC rdPack
theorem rd_val{enc:TypeId×Value→H}{v:Value}{d:DataW H}{ps:List MemPlace}(h:DataW.Trod enc prog W 0 (λ_=>true) true t v d ps): ∃n,Tr enc prog W n t v.cells.toList (d,ps):=h
end
end Go.Hal
namespace Go.Hal
def prt(n:Int):Bool:=decide (0≤n)&&decide (n≤999)
def Ver.may(v:Ver):Bool:=prt v.ma&&prt v.mi&&prt v.pa
def cmpI(a b:Int):Int:=if a<b then -1 else if b<a then 1 else 0
def or2(a b:Int):Int:=if a=0 then b else a
def Ver.cmp(a b:Ver):Int:=or2 (cmpI a.ma b.ma) (or2 (cmpI a.mi b.mi) (cmpI a.pa b.pa))
def Ver.num(v:Ver):Int:=(v.ma*1000+v.mi)*1000+v.pa
def Ver.rank(v:Ver):Int:=if v.may then v.num else 0
def atOk(n:Int):Bool:=decide (0≤n)&&decide (n≤999999999)
def Zly(n:Int):Ver:=if atOk n then⟨n/1000000,n/1000%1000,n%1000⟩else⟨0,0,0⟩
theorem Zsn{n:Int}:prt n=true↔0≤n∧n≤999:=by simp[prt]
theorem Ver.may_iff{v:Ver}:v.may=true↔(0≤v.ma∧v.ma≤999)∧(0≤v.mi∧v.mi≤999)∧(0≤v.pa∧v.pa≤999):=by simp[Ver.may,Zsn,and_assoc]
theorem Ver.rank_le{v:Ver}:0≤v.rank∧v.rank≤999999999:=by
 unfold Ver.rank
 split
 ·rename_i h; have:=Ver.may_iff.1 h; unfold Ver.num; omega
 ·omega
theorem Z7g{a b:Int}:cmpI a b≤0↔a≤b:=by unfold cmpI; split<;>(try split)<;>omega
theorem Zm4{a b:Int}:cmpI a b=0↔a=b:=by unfold cmpI; split<;>(try split)<;>omega
theorem Zhm(a b:Int):(cmpI a b= -1∧a<b)∨(cmpI a b=0∧a=b)∨(cmpI a b=1∧b<a):=by unfold cmpI; split<;>(try split)<;>omega
theorem Ver.cmp_rank{a b:Ver}(ha:a.may=true)(hb:b.may=true):a.cmp b≤0↔a.rank≤b.rank:=by
 simp only[Ver.rank,ha,hb,if_true,Ver.num]
 have:=Ver.may_iff.1 ha; have:=Ver.may_iff.1 hb
 unfold Ver.cmp or2
 rcases Zhm a.ma b.ma with h1|h1|h1<;>rcases Zhm a.mi b.mi with h2|h2|h2<;>rcases Zhm a.pa b.pa with h3|h3|h3<;>simp only[h1.1,h2.1,h3.1]<;>simp<;>omega
theorem Ver.cmp_eq{a b:Ver}:a.cmp b=0↔a=b:=by
 obtain⟨a1,a2,a3⟩:=a; obtain⟨b1,b2,b3⟩:=b
 simp only[Ver.mk.injEq,Ver.cmp]
 unfold or2
 rcases Zhm a1 b1 with h1|h1|h1<;>rcases Zhm a2 b2 with h2|h2|h2<;>rcases Zhm a3 b3 with h3|h3|h3<;>simp only[h1.1,h2.1,h3.1]<;>simp<;>omega
theorem Zhk{v:Ver}(h:v.may=true):Zly v.rank=v:=by
 have h':=Ver.may_iff.1 h
 have e:v.rank=v.num:=by rw[Ver.rank,if_pos h]
 have hn:v.num=(v.ma*1000+v.mi)*1000+v.pa:=rfl
 rw[e,Zly,if_pos (by simp[atOk]; omega)]
 obtain⟨a,b,c⟩:=v
 simp only at hn h' ⊢
 rw[Ver.mk.injEq]; omega
theorem Zp9(a b:Ver):((a.ma==b.ma)&&((a.mi==b.mi)&&((a.pa==b.pa)&&true)))=decide (a=b):=by
 obtain⟨a1,a2,a3⟩:=a; obtain⟨b1,b2,b3⟩:=b
 rw[ep]; simp
def Zcq:Int→List Span→Bool
 |_,[]=>true
 |least,x::r=>x.lo.may&&x.hi.may&&decide (least≤x.lo.rank)&&decide (x.lo.rank≤x.hi.rank)&&Zcq (x.hi.rank+2) r
def Zaa(l:List Span):Bool:=decide (l.length≤64)&&Zcq 0 l
def Span.has(n:Int)(x:Span):Bool:=decide (x.lo.rank≤n)&&decide (n≤x.hi.rank)
def Zdp(l:List Span)(v:Ver):Bool:=Zaa l&&(v.may&&l.any (Span.has v.rank))
end Go.Hal
namespace Go.Hal
def lowC(b:UInt8):Bool:=decide (97≤b.toNat)&&decide (b.toNat≤122)
def Zib(b:UInt8):Bool:=lowC b||(decide (48≤b.toNat)&&decide (b.toNat≤57)||decide (b.toNat=45))
def Zfh:List UInt8→Bool
 | []=>true
 |c::r=>lowC c&&r.all Zib
def Zn(s:ByteArray):Bool:=Zfh s.toList&&(!bEq s ⟨#[]⟩&&decide (s.size≤16))
theorem Zuc(l:List UInt8)(x:UInt8):Zfh (l++ [x])=(Zfh l&&(if l= []then lowC x else Zib x)):=by
 cases l with
 |nil=>simp[Zfh]
 |cons c r=>simp[Zfh,kw]
theorem Zwc{l m:List UInt8}(h:Zfh (l++m)=true):Zfh l=true:=by
 cases l with
 |nil=>rfl
 |cons c r=>simp[Zfh]at h ⊢; exact⟨h.1,h.2.1⟩
theorem Z6g(p:UInt8→Bool)(h:(List.range 256).all (λn=>p (UInt8.ofNat n))=true)(b:UInt8):p b=true:=by
 have:=fu.1 h b.toNat (jx.2 b.toNat_lt)
 simpa using this
theorem Z1m{b:UInt8}(h:lowC b=true):Zib b=true:=by simp[Zib,h]
end Go.Hal
namespace Go.Hal
theorem r02part_se{n:Int}(hR: ∀w',Ext w w'→R (prt n) w'):SE.Zcd n w R:=by
 unfold SE.Zcd
 exact bound (hR _ xR)
theorem r02May_se{x y z:Int}(hR: ∀w',Ext w w'→R (Ver.may ⟨x,y,z⟩) w'):SE.Zbt x y z w R:=by
 unfold SE.Zbt
 refine newS.intro λ_ _ _ hb _ _=> ?_
 refine⟨_,lD,?_⟩
 refine SE.Zcd.go (r02part_se λw' hx=>⟨_,rfl,?_⟩)
 refine⟨y,λ_=>hb.at1 xT rfl,gCall.intro (prt y) (λ_ q hq=>SE.Zcd.go (r02part_se λw' hx=>⟨_,rfl,hq _ hx⟩)) λt w1 x1 ht=>?_⟩
 refine bound ⟨z,λ_=>hb.at1 xT rfl,gCall.intro (prt z) (λ_ q hq=>SE.Zcd.go (r02part_se λw' hx=>⟨_,rfl,hq _ hx⟩)) λt2 w2 x2 a0=>?_⟩
 have e:(prt x&&t&&t2)=Ver.may ⟨x,y,z⟩:=by
  unfold Ver.may
  cases h:prt x
  ·rfl
  ·rw[ht h]
   cases h':prt y
   ·rfl
   ·rw[a0 (by rw[h,ht h,h']; rfl)]
 rw[e]
 exact hR _ xT
theorem Zsq{a b:Ver}{R:Int→World→Prop}(hR: ∀w',Ext w w'→R (a.cmp b) w'):SE.Zcr a.ma a.mi a.pa b.ma b.mi b.pa w R:=by
 unfold SE.Zcr
 refine newS.intro λ_ _ _ hb _ _=>newS.intro λ_ _ _ c4 _ _=> ?_
 refine⟨_,lD,?_⟩
 refine⟨_,lD,?_⟩
 refine⟨_,lD,?_⟩
 refine newS.intro λa5 _ _ b6 _ _=> ?_
 refine⟨_,lD,?_⟩
 refine⟨_,lD,?_⟩
 refine⟨_,lD,?_⟩
 refine newS.intro λa4 w1 _ b7 _ _=> ?_
 refine⟨λi w'=>Ext w1 w'∧(i=0∨i=1∧a.ma=b.ma∨i=2∧a.ma=b.ma∧a.mi=b.mi∨i=3∧a=b),λi _=>3 - i.toNat,⟨Ext.refl _,.inl rfl⟩,?_⟩
 rintro i w2 ⟨x2,hi⟩
 refine⟨λh3=>bnd.drew λw3 x3=>?_,λh3=>?_⟩
 ·have key: ∀(k:Nat) (u v:Int),i=k→k<3→ [(Value.int .i64 a.ma),(Value.int .i64 a.mi),(Value.int .i64 a.pa)].drop k= [(Value.int .i64 u)]++ [(Value.int .i64 a.ma),(Value.int .i64 a.mi),(Value.int .i64 a.pa)].drop (k+1)→ [(Value.int .i64 b.ma),(Value.int .i64 b.mi),(Value.int .i64 b.pa)].drop k= [(Value.int .i64 v)]++ [(Value.int .i64 b.ma),(Value.int .i64 b.mi),(Value.int .i64 b.pa)].drop (k+1)→
    (u<v→a.cmp b= -1)→(v<u→a.cmp b=1)→(u=v→(i+1=1∧a.ma=b.ma∨i+1=2∧a.ma=b.ma∧a.mi=b.mi∨i+1=3∧a=b))→
    ∃ad,((Sl.mk (some a5) 3 3).a=some ad∧(0:Int)≤i∧i<((Sl.mk (some a5) 3 3).len:Int))∧ ∃a9,ldc w3 (ad.add (i.toNat*1)) [Value.int .i64 a9]∧ ∃a6,((Sl.mk (some a4) 3 3).a=some a6∧(0:Int)≤i∧i<((Sl.mk (some a4) 3 3).len:Int))∧ ∃b0,ldc w3 (a6.add (i.toNat*1)) [Value.int .i64 b0]∧
     ((a9<b0→R (-1) w3)∧(¬a9<b0→bnd w3.drew λa0=>∃a7,((Sl.mk (some a5) 3 3).a=some a7∧(0:Int)≤i∧i<((Sl.mk (some a5) 3 3).len:Int))∧ ∃b4,ldc a0 (a7.add (i.toNat*1)) [Value.int .i64 b4]∧ ∃a8,((Sl.mk (some a4) 3 3).a=some a8∧(0:Int)≤i∧i<((Sl.mk (some a4) 3 3).len:Int))∧ ∃b5,ldc a0 (a8.add (i.toNat*1)) [Value.int .i64 b5]∧
      ((b5<b4→R 1 a0)∧(¬b5<b4→(Ext w1 a0∧(Za (i+1)=0∨Za (i+1)=1∧a.ma=b.ma∨Za (i+1)=2∧a.ma=b.ma∧a.mi=b.mi∨Za (i+1)=3∧a=b))∧3 - (Za (i+1)).toNat<3 - i.toNat)))):=by
   intro k u v hk c5 h1 h2 c2 b9 b8
   have c3:((Sl.mk (some a5) 3 3).len:Int)=3:=rfl
   have c1:i.toNat*1=k:=oM
   rw[c1]
   refine⟨a5,⟨rfl,oM,by show i<3; omega⟩,u,b6.at1 xT h1,a4,⟨rfl,oM,by show i<3; omega⟩,v,b7.at1 xT h2,λh=>?_,λh=>bnd.drew λw4 x4=>⟨a5,⟨rfl,oM,by show i<3; omega⟩,u,b6.at1 xT h1,a4,⟨rfl,oM,by show i<3; omega⟩,v,b7.at1 xT h2,λh'=>?_,λh'=>?_⟩⟩
   ·rw[←c2 h]; exact hR _ xT
   ·rw[←b9 h']; exact hR _ xT
   ·have e:=b8 oM
    rw[Zc oM oM]
    exact⟨⟨xT,.inr e⟩,oM⟩
  rcases hi with rfl|⟨rfl,h1⟩|⟨rfl,h1,h2⟩|⟨rfl,_⟩
  ·refine key 0 a.ma b.ma rfl oM rfl rfl ?_ ?_ λh=>.inl ⟨rfl,h⟩
   ·intro h; unfold Ver.cmp cmpI; rw[if_pos h]; rfl
   ·intro h; unfold Ver.cmp cmpI; rw[if_neg oM,if_pos h]; rfl
  ·refine key 1 a.mi b.mi rfl oM rfl rfl ?_ ?_ λh=>.inr (.inl ⟨rfl,h1,h⟩)
   ·intro h; unfold Ver.cmp; rw[Zm4.2 h1]; unfold cmpI; rw[if_pos h]; rfl
   ·intro h; unfold Ver.cmp; rw[Zm4.2 h1]; unfold cmpI; rw[if_neg oM,if_pos h]; rfl
  ·refine key 2 a.pa b.pa rfl oM rfl rfl ?_ ?_ λh=>.inr (.inr ⟨rfl,?_⟩)
   ·intro h; unfold Ver.cmp; rw[Zm4.2 h1,Zm4.2 h2]; unfold cmpI; rw[if_pos h]; rfl
   ·intro h; unfold Ver.cmp; rw[Zm4.2 h1,Zm4.2 h2]; unfold cmpI; rw[if_neg oM,if_pos h]; rfl
   ·obtain⟨a1,a2,a3⟩:=a; obtain⟨b1,b2,b3⟩:=b
    simp only at h1 h2 h
    rw[h1,h2,h]
  ·omega
 ·have:a=b:=by rcases hi with rfl|⟨rfl,h1⟩|⟨rfl,h1,h2⟩|⟨_,h⟩<;>first|omega|exact h
  have h0:=Ver.cmp_eq.2 this
  rw[←h0]
  exact hR _ xT
theorem Z5z(n:Int)(h:0≤n):n.tdiv 1000000=n/1000000∧n.tdiv 1000=n/1000∧Int.tmod n 1000=n%1000:=⟨kr h,kr h,Int.tmod_eq_emod_of_nonneg h⟩
theorem r02Rank_se{v:Ver}{R:Int→Bool→World→Prop}(hR: ∀w',Ext w w'→R v.rank v.may w'):SE.Zdv v.ma v.mi v.pa w R:=by
 unfold SE.Zdv
 refine newS.intro λ_ _ _ hb _ _=> ?_
 refine⟨_,_,_,lD,?_⟩
 refine SE.Zbt.go (r02May_se λw' hx=>⟨_,rfl,λh=>?_,λh=>?_⟩)
 ·have e:v.may=false:=by simpa using h
  have:=hR w' xT
  simpa[Ver.rank,e]using this
 ·have e:v.may=true:=by simpa using h
  refine⟨_,lD,?_⟩
  refine⟨_,lD,?_⟩
  refine⟨_,lD,?_⟩
  have hm:=Ver.may_iff.1 e
  rw[Zc (x:=v.ma*1000) oM oM,Zc (x:=v.ma*1000+v.mi) oM oM,Zc (x:=(v.ma*1000+v.mi)*1000) oM oM,Zc oM oM]
  have:=hR w' xT
  simpa[Ver.rank,e,Ver.num]using this
theorem Zle{v:Ver}(hR: ∀w',Ext w w'→R v.may w'):SE.Zil v.ma v.mi v.pa w R:=by
 unfold SE.Zil
 refine newS.intro λ_ w1 _ hb _ _=> ?_
 refine⟨_,lD,?_⟩
 refine⟨_,lD,?_⟩
 refine⟨_,lD,?_⟩
 refine⟨λi w'=>Ext w1 w'∧(i=0∨i=1∧prt v.ma=true∨i=2∧prt v.ma=true∧prt v.mi=true∨i=3∧v.may=true),λi _=>3 - i.toNat,⟨Ext.refl _,.inl rfl⟩,?_⟩
 rintro i w2 ⟨x2,hi⟩
 refine⟨λh3=>⟨⟨oM,h3⟩,bound ⟨λh=>?_,λh=>?_⟩⟩,λh3=>?_⟩
 ·have:v.may=false:=by
   unfold Ver.may prt
   rcases hi with rfl|⟨rfl,h1⟩|⟨rfl,h1,h2⟩|⟨rfl,_⟩<;>simp at h<;>simp<;>omega
  rw[←this]; exact hR _ xT
 ·rw[Zc oM oM]
  refine⟨⟨x2,?_⟩,by show 3 - (i+1).toNat<3 - i.toNat; omega⟩
  rcases hi with rfl|⟨rfl,h1⟩|⟨rfl,h1,h2⟩|⟨rfl,_⟩
  ·refine .inr (.inl ⟨oM,?_⟩); simp at h; rw[Zsn]; omega
  ·refine .inr (.inr (.inl ⟨oM,h1,?_⟩)); simp at h; rw[Zsn]; omega
  ·refine .inr (.inr (.inr ⟨oM,?_⟩)); simp at h; rw[Ver.may,h1,h2,dw,dw,Zsn]; omega
  ·omega
 ·have:v.may=true:=by rcases hi with rfl|⟨rfl,h1⟩|⟨rfl,h1,h2⟩|⟨_,h⟩<;>first|omega|exact h
  rw[←this]; exact hR _ xT
theorem versAt_se{n:Int}{R:Int→Int→Int→Bool→World→Prop}(hR: ∀w',Ext w w'→R (Zly n).ma (Zly n).mi (Zly n).pa (atOk n) w'):SE.Zky n w R:=by
 unfold SE.Zky
 refine newS.intro λa w1 x1 hb a4 _=>bound ⟨λh=>?_,λh=>?_⟩
 ·refine stw0.intro hb sI λw2 b2 _ a0=>?_
  refine⟨_,_,_,a0.ldc.pre rfl,?_⟩
  have e:atOk n=false:=by simp only[atOk]; simp at h ⊢; omega
  have:=hR w2 (b2.ext x1 oM)
  simpa[Zly,e]using this
 ·have e:0≤n∧n≤999999999:=by simp at h; omega
  have ha:atOk n=true:=by simp[atOk,e]
  obtain⟨e1,e2,e3⟩:=Z5z n e.1
  rw[e2,e3,Zc (x:=n/1000) oM oM,Int.tmod_eq_emod_of_nonneg oM,kr oM,Zc oM oM]
  have e4:n/1000/1000=n/1000000:=oM
  rw[e4]
  refine stw0.intro hb sI λw2 b2 _ a0=>?_
  refine⟨_,_,_,a0.ldc.pre rfl,?_⟩
  have:=hR w2 (b2.ext x1 oM)
  simpa[Zly,ha]using this
theorem Zj1{v:Ver}{R:Int→Bool→World→Prop}(hR: ∀w',Ext w w'→R v.rank v.may w'):SE.Zg6 v.ma v.mi v.pa w R:=by
 unfold SE.Zg6
 refine newS.intro λ_ _ _ hb _ _=> ?_
 refine⟨_,_,_,lD,?_⟩
 refine SE.Zil.go (Zle (v:=v) λw' hx=>⟨_,rfl,λh=>?_,λh=>?_⟩)
 ·have e:v.may=false:=by simpa using h
  have:=hR w' xT
  simpa[Ver.rank,e]using this
 ·have e:v.may=true:=by simpa using h
  refine⟨_,lD,?_⟩
  refine⟨_,lD,?_⟩
  refine⟨_,lD,?_⟩
  have hm:=Ver.may_iff.1 e
  rw[Zc (x:=v.ma*1000) oM oM,Zc (x:=v.ma*1000+v.mi) oM oM,Zc (x:=(v.ma*1000+v.mi)*1000) oM oM,Zc oM oM]
  have:=hR w' xT
  simpa[Ver.rank,e,Ver.num]using this
theorem isNaNi_se{x:Int}(hR:R false w):SE.Zfd x w R:=by
 unfold SE.Zfd; simpa using hR
theorem cmpInt_se{x y:Int}{R:Int→World→Prop}(hR:R (cmpI x y) w):SE.Zbn x y w R:=by
 unfold SE.Zbn
 refine SE.Zfd.go (isNaNi_se ⟨_,rfl,SE.Zfd.go (isNaNi_se ⟨_,rfl,⟨λh=>(by cases h),λ_=>⟨λh=>(by cases h),λ_=>⟨λh=>?_,λh=>⟨λh'=>?_,λh'=>?_⟩⟩⟩⟩⟩)⟩)
 ·simpa[cmpI,h]using hR
 ·simpa[cmpI,h,h']using hR
 ·simpa[cmpI,h,h']using hR
def cmpS(a b:ByteArray):Int:=if bLt a b then -1 else if bEq a b then 0 else 1
theorem Z3x{l:List Int}{R:Int→World→Prop}(hs:SlR intE w S s l)(hR:R (l.foldr or2 0) w):SE.Zgi s w R:=by
 unfold SE.Zgi
 refine⟨λi w'=>w'=w∧0≤i∧i≤l.length∧(l.drop i.toNat).foldr or2 0=l.foldr or2 0,λi _=>l.length - i.toNat,⟨rfl,oM,oM,rfl⟩,?_⟩
 rintro i w' ⟨rfl,h0,h1,h2⟩
 have hl:=hs.len
 refine⟨λa0=>?_,λa5=>?_⟩
 ·obtain⟨x,hx⟩: ∃x,l[i.toNat]? =some x:=⟨_,bq oM⟩
  obtain⟨ad,cs,ha,hS,⟨rfl,_⟩,hc⟩:=hs.get hx
  have hd:l.drop i.toNat=x::l.drop (i.toNat+1):=by
   obtain⟨hl,he⟩:=ce.1 hx
   rw[←he]; exact(dm hl)
  rw[hd,List.foldr_cons]at h2
  refine⟨ad,⟨ha,h0,a0⟩,x,hc.pre rfl,λa4=>?_,λhe=>?_⟩
  ·rw[or2,if_neg a4]at h2
   rw[h2]; exact hR
  ·have he:x=0:=fj.1 he
   rw[or2,if_pos he]at h2
   have:=hs.2.2.1; have:=hs.2.1
   rw[Zhu h0 a0 oM]
   have e:(i+1).toNat=i.toNat+1:=oM
   exact⟨⟨rfl,oM,oM,by rw[e]; exact h2⟩,by show l.length - (i+1).toNat<l.length - i.toNat; omega⟩
 ·rw[gd oM]at h2
  rw[←h2]at hR
  exact hR
end Go.Hal
/-
 DERIVED:THE SHELF's CONTRACTS AT THIS DUMP,IN PLAIN WORDS (tools/lay-plain.mjs out of 'YtfilbiaaeecoaaaGreatDoorLay.lean',which tools/lay-shelf.mjs wrote):THE SAME DECLARATIONS UNDER THE SAME NAMES:'import','namespace','open','def','theorem' AND NOTHING ELSE:no command of the shelf's:FOR A HAND-IN. Each laying:the table of numbers ('.._ren') and one theorem,a field a fact of the dump's own or the kernel's comparison; each contract:ONE APPLICATION.
-/
namespace Go.Proofs
def Tryz.layTL_ren:Go.Shelf.Ren:=⟨λ|161=>107|231=>165|227=>166|233=>167|235=>168|228=>221|197=>222|151=>223|260=>279|152=>280|137=>320|119=>321|224=>322|225=>323|217=>347|266=>367|n=>n,λ|9=>9|4=>4|3=>3|5=>5|117=>252|116=>251|0=>0|124=>255|105=>304|21=>21|119=>383|46=>125|139=>386|138=>385|n=>n,λ|3=>1|4=>2|n=>n⟩
theorem Tryz.layTL:Go.Proofs.Lays.n161 prog Tryz.layTL_ren:={
 mixed:=kR
 f119:=func321.trans kS
 f137:=func320.trans kS
 f151:=func223.trans kS
 f152:=func280.trans kS
 f161:=func107.trans kS
 f197:=func222.trans kS
 f217:=func347.trans kS
 f224:=func322.trans kS
 f225:=func323.trans kS
 f227:=func166.trans kS
 f228:=func221.trans kS
 f231:=func165.trans kS
 f233:=func167.trans kS
 f235:=func168.trans kS
 f260:=func279.trans kS
 f266:=func367.trans kS
 t0:=underlying0
 a0:=Tryz.isAgg0
 z0:=Tryz.sizeOf0
 v0:=Tryz.zeroValue0
 t3:=underlying3
 a3:=Tryz.isAgg3
 z3:=Tryz.sizeOf3
 v3:=Tryz.zeroValue3
 t4:=underlying4
 a4:=Tryz.isAgg4
 z4:=Tryz.sizeOf4
 v4:=Tryz.zeroValue4
 t5:=underlying5
 a5:=Tryz.isAgg5
 z5:=Tryz.sizeOf5
 v5:=Tryz.zeroValue5
 t9:=underlying9
 a9:=Tryz.isAgg9
 z9:=Tryz.sizeOf9
 v9:=Tryz.zeroValue9
 t21:=underlying21
 a21:=Tryz.isAgg21
 z21:=Tryz.sizeOf21
 v21:=Tryz.zeroValue21
 t46:=underlying125
 a46:=Tryz.isAgg125
 z46:=Tryz.sizeOf125
 v46:=Tryz.zeroValue125
 t105:=underlying304
 a105:=Tryz.isAgg304
 z105:=Tryz.sizeOf304
 v105:=Tryz.zeroValue304
 t116:=underlying251
 a116:=Tryz.isAgg251
 z116:=Tryz.sizeOf251
 t117:=underlying252
 a117:=Tryz.isAgg252
 z117:=Tryz.sizeOf252
 v117:=Tryz.zeroValue252
 t119:=underlying383
 a119:=Tryz.isAgg383
 z119:=Tryz.sizeOf383
 t124:=underlying255
 a124:=Tryz.isAgg255
 z124:=Tryz.sizeOf255
 v124:=Tryz.zeroValue255
 t138:=underlying385
 a138:=Tryz.isAgg385
 z138:=Tryz.sizeOf385
 v138:=Tryz.zeroValue385
 t139:=underlying386
 a139:=Tryz.isAgg386
 z139:=Tryz.sizeOf386
 v139:=Tryz.zeroValue386
 g3:=kR
 g4:=by kernel_rfl}
def Tryz.layTr_ren:Go.Shelf.Ren:=⟨λ|160=>108|232=>169|231=>165|227=>166|234=>170|233=>167|236=>171|235=>168|228=>221|271=>224|151=>223|197=>222|120=>281|152=>280|260=>279|137=>320|119=>321|224=>322|225=>323|217=>347|266=>367|n=>n,λ|9=>9|4=>4|3=>3|5=>5|117=>252|116=>251|0=>0|124=>255|21=>21|105=>304|46=>125|119=>383|139=>386|138=>385|n=>n,λ|3=>1|4=>2|n=>n⟩
theorem Tryz.layTr:Go.Proofs.Lays.n160 prog Tryz.layTr_ren:={
 mixed:=kR
 f119:=func321.trans kS
 f120:=func281.trans kS
 f137:=func320.trans kS
 f151:=func223.trans kS
 f152:=func280.trans kS
 f160:=func108.trans kS
 f197:=func222.trans kS
 f217:=func347.trans kS
 f224:=func322.trans kS
 f225:=func323.trans kS
 f227:=func166.trans kS
 f228:=func221.trans kS
 f231:=func165.trans kS
 f232:=func169.trans kS
 f233:=func167.trans kS
 f234:=func170.trans kS
 f235:=func168.trans kS
 f236:=func171.trans kS
 f260:=func279.trans kS
 f266:=func367.trans kS
 f271:=func224.trans kS
 t0:=underlying0
 a0:=Tryz.isAgg0
 z0:=Tryz.sizeOf0
 v0:=Tryz.zeroValue0
 t3:=underlying3
 a3:=Tryz.isAgg3
 z3:=Tryz.sizeOf3
 v3:=Tryz.zeroValue3
 t4:=underlying4
 a4:=Tryz.isAgg4
 z4:=Tryz.sizeOf4
 v4:=Tryz.zeroValue4
 t5:=underlying5
 a5:=Tryz.isAgg5
 z5:=Tryz.sizeOf5
 v5:=Tryz.zeroValue5
 t9:=underlying9
 a9:=Tryz.isAgg9
 z9:=Tryz.sizeOf9
 v9:=Tryz.zeroValue9
 t21:=underlying21
 a21:=Tryz.isAgg21
 z21:=Tryz.sizeOf21
 v21:=Tryz.zeroValue21
 t46:=underlying125
 a46:=Tryz.isAgg125
 z46:=Tryz.sizeOf125
 v46:=Tryz.zeroValue125
 t105:=underlying304
 a105:=Tryz.isAgg304
 z105:=Tryz.sizeOf304
 v105:=Tryz.zeroValue304
 t116:=underlying251
 a116:=Tryz.isAgg251
 z116:=Tryz.sizeOf251
 t117:=underlying252
 a117:=Tryz.isAgg252
 z117:=Tryz.sizeOf252
 v117:=Tryz.zeroValue252
 t119:=underlying383
 a119:=Tryz.isAgg383
 z119:=Tryz.sizeOf383
 t124:=underlying255
 a124:=Tryz.isAgg255
 z124:=Tryz.sizeOf255
 v124:=Tryz.zeroValue255
 t138:=underlying385
 a138:=Tryz.isAgg385
 z138:=Tryz.sizeOf385
 v138:=Tryz.zeroValue385
 t139:=underlying386
 a139:=Tryz.isAgg386
 z139:=Tryz.sizeOf386
 v139:=Tryz.zeroValue386
 g3:=kR
 g4:=by kernel_rfl}
def Tryz.layBS_ren:Go.Shelf.Ren:=⟨λ|169=>54|n=>n,λ|70=>126|9=>9|0=>0|72=>129|37=>127|127=>190|3=>3|5=>5|n=>n,λ|n=>n⟩
theorem Tryz.layBS:Go.Proofs.Lays.n169 prog Tryz.layBS_ren:={
 mixed:=kR
 f169:=func54.trans kS
 t0:=underlying0
 a0:=Tryz.isAgg0
 z0:=Tryz.sizeOf0
 v0:=Tryz.zeroValue0
 t3:=underlying3
 a3:=Tryz.isAgg3
 z3:=Tryz.sizeOf3
 v3:=Tryz.zeroValue3
 t9:=underlying9
 a9:=Tryz.isAgg9
 z9:=Tryz.sizeOf9
 v9:=Tryz.zeroValue9
 t37:=underlying127
 a37:=Tryz.isAgg127
 z37:=Tryz.sizeOf127
 v37:=Tryz.zeroValue127
 t70:=underlying126
 a70:=Tryz.isAgg126
 z70:=Tryz.sizeOf126
 v70:=Tryz.zeroValue126
 t72:=underlying129
 a72:=Tryz.isAgg129
 z72:=Tryz.sizeOf129
 v72:=Tryz.zeroValue129
 t127:=underlying190
 a127:=Tryz.isAgg190
 z127:=Tryz.sizeOf190
 v127:=Tryz.zeroValue190}
def Tryz.layJo_ren:Go.Shelf.Ren:=⟨λ|156=>229|165=>282|166=>53|169=>54|240=>109|241=>324|276=>172|277=>348|n=>n,λ|31=>67|9=>9|3=>3|4=>4|0=>0|20=>20|72=>129|76=>133|70=>126|37=>127|75=>132|127=>190|164=>256|5=>5|80=>135|n=>n,λ|n=>n⟩
theorem Tryz.layJo:Go.Proofs.Lays.n156 prog Tryz.layJo_ren:={
 mixed:=kR
 f156:=func229.trans kS
 f165:=func282.trans kS
 f166:=func53.trans kS
 f169:=func54.trans kS
 f240:=func109.trans kS
 f241:=func324.trans kS
 f276:=func172.trans kS
 f277:=func348.trans kS
 t0:=underlying0
 a0:=Tryz.isAgg0
 z0:=Tryz.sizeOf0
 v0:=Tryz.zeroValue0
 t3:=underlying3
 a3:=Tryz.isAgg3
 z3:=Tryz.sizeOf3
 v3:=Tryz.zeroValue3
 t4:=underlying4
 a4:=Tryz.isAgg4
 z4:=Tryz.sizeOf4
 v4:=Tryz.zeroValue4
 t9:=underlying9
 a9:=Tryz.isAgg9
 z9:=Tryz.sizeOf9
 v9:=Tryz.zeroValue9
 t20:=underlying20
 a20:=Tryz.isAgg20
 z20:=Tryz.sizeOf20
 v20:=Tryz.zeroValue20
 t31:=underlying67
 a31:=Tryz.isAgg67
 z31:=Tryz.sizeOf67
 v31:=Tryz.zeroValue67
 t37:=underlying127
 a37:=Tryz.isAgg127
 z37:=Tryz.sizeOf127
 v37:=Tryz.zeroValue127
 t70:=underlying126
 a70:=Tryz.isAgg126
 z70:=Tryz.sizeOf126
 v70:=Tryz.zeroValue126
 t72:=underlying129
 a72:=Tryz.isAgg129
 z72:=Tryz.sizeOf129
 v72:=Tryz.zeroValue129
 t75:=underlying132
 a75:=Tryz.isAgg132
 z75:=Tryz.sizeOf132
 v75:=Tryz.zeroValue132
 t76:=underlying133
 a76:=Tryz.isAgg133
 z76:=Tryz.sizeOf133
 v76:=Tryz.zeroValue133
 t127:=underlying190
 a127:=Tryz.isAgg190
 z127:=Tryz.sizeOf190
 v127:=Tryz.zeroValue190
 t164:=underlying256
 a164:=Tryz.isAgg256
 z164:=Tryz.sizeOf256
 v164:=Tryz.zeroValue256}
def Tryz.layIt_ren:Go.Shelf.Ren:=⟨λ|171=>130|243=>190|246=>234|283=>283|284=>284|285=>285|286=>286|129=>105|317=>325|318=>326|319=>327|320=>328|337=>349|338=>350|n=>n,λ|3=>3|9=>9|2=>2|4=>4|171=>354|0=>0|53=>189|37=>127|5=>5|173=>356|212=>390|51=>187|20=>20|213=>391|46=>125|232=>414|233=>415|n=>n,λ|17=>3|18=>4|19=>5|n=>n⟩
theorem Tryz.layIt:Go.Proofs.LaysM.n171 prog Tryz.layIt_ren:={
 mixed:=kR
 f129:=func105.trans kS
 f171:=func130.trans kS
 f243:=func190.trans kS
 f246:=func234.trans kS
 f283:=func283.trans kS
 f284:=func284.trans kS
 f285:=func285.trans kS
 f286:=func286.trans kS
 f317:=func325.trans kS
 f318:=func326.trans kS
 f319:=func327.trans kS
 f320:=func328.trans kS
 f337:=func349.trans kS
 f338:=func350.trans kS
 t0:=underlying0
 a0:=Tryz.isAgg0
 z0:=Tryz.sizeOf0
 v0:=Tryz.zeroValue0
 t2:=underlying2
 a2:=Tryz.isAgg2
 z2:=Tryz.sizeOf2
 v2:=Tryz.zeroValue2
 t3:=underlying3
 a3:=Tryz.isAgg3
 z3:=Tryz.sizeOf3
 v3:=Tryz.zeroValue3
 t4:=underlying4
 a4:=Tryz.isAgg4
 z4:=Tryz.sizeOf4
 v4:=Tryz.zeroValue4
 t5:=underlying5
 a5:=Tryz.isAgg5
 z5:=Tryz.sizeOf5
 v5:=Tryz.zeroValue5
 t9:=underlying9
 a9:=Tryz.isAgg9
 z9:=Tryz.sizeOf9
 v9:=Tryz.zeroValue9
 t20:=underlying20
 a20:=Tryz.isAgg20
 z20:=Tryz.sizeOf20
 v20:=Tryz.zeroValue20
 t37:=underlying127
 a37:=Tryz.isAgg127
 z37:=Tryz.sizeOf127
 v37:=Tryz.zeroValue127
 t46:=underlying125
 a46:=Tryz.isAgg125
 z46:=Tryz.sizeOf125
 v46:=Tryz.zeroValue125
 t51:=underlying187
 a51:=Tryz.isAgg187
 z51:=Tryz.sizeOf187
 v51:=Tryz.zeroValue187
 t53:=underlying189
 a53:=Tryz.isAgg189
 z53:=Tryz.sizeOf189
 v53:=Tryz.zeroValue189
 t171:=underlying354
 a171:=Tryz.isAgg354
 z171:=Tryz.sizeOf354
 v171:=Tryz.zeroValue354
 t173:=underlying356
 a173:=Tryz.isAgg356
 z173:=Tryz.sizeOf356
 v173:=Tryz.zeroValue356
 t212:=underlying390
 a212:=Tryz.isAgg390
 z212:=Tryz.sizeOf390
 v212:=Tryz.zeroValue390
 t213:=underlying391
 a213:=Tryz.isAgg391
 z213:=Tryz.sizeOf391
 t232:=underlying414
 a232:=Tryz.isAgg414
 z232:=Tryz.sizeOf414
 v232:=Tryz.zeroValue414
 t233:=underlying415
 a233:=Tryz.isAgg415
 z233:=Tryz.sizeOf415
 v233:=Tryz.zeroValue415
 g17:=kR
 g18:=kR
 g19:=kR
 i0:=kR
 i2:=kR
 i3:=kR
 i4:=kR
 i5:=kR
 i9:=kR
 i20:=kR
 i37:=kR
 i46:=kR
 i51:=kR
 i53:=kR
 i171:=kR
 i173:=kR
 i212:=kR
 i232:=kR
 i233:=kR
 m17:=kR
 m18:=kR
 m19:=by kernel_rfl}
def Tryz.layCo_ren:Go.Shelf.Ren:=⟨λ|106=>21|213=>51|265=>106|n=>n,λ|9=>9|3=>3|n=>n,λ|n=>n⟩
theorem Tryz.layCo:Go.Proofs.Lays.n106 prog Tryz.layCo_ren:={
 mixed:=kR
 f106:=func21.trans kS
 f213:=func51.trans kS
 f265:=func106.trans kS
 t3:=underlying3
 a3:=Tryz.isAgg3
 z3:=Tryz.sizeOf3
 v3:=Tryz.zeroValue3
 t9:=underlying9
 a9:=Tryz.isAgg9
 z9:=Tryz.sizeOf9
 v9:=Tryz.zeroValue9}
end Go.Proofs
namespace Go.Hal
theorem Zht(a:ByteArray):a.toList.length=a.size:=by rw[toList_data,Zg2]
theorem Zm2{a:ByteArray}{i:Int}(h0:0≤i)(h:i<a.size): ∃x:UInt8,a.toList[i.toNat]? =some x∧bAt a i=(x.toNat:Int):=by
 obtain⟨n,rfl⟩:=Int.eq_ofNat_of_zero_le h0
 have hn:n<a.size:=oM
 refine⟨_,?_,Z9p hn⟩
 rw[toList_data,bw]
 exact bq (by rw[Zg2]; exact hn)
theorem less_se(a b:ByteArray)(w:World)(R:Bool→World→Prop)(ha:Str a)(hR: ∀w',Ext w w'→R (bLt a b) w'):SE.Zcx a b w R:=by
 unfold SE.Zcx
 refine⟨λi w'=>Ext w w'∧0≤i∧i≤a.size∧i≤b.size∧a.toList.take i.toNat=b.toList.take i.toNat,λi _=>a.size - i.toNat,⟨Ext.refl _,oM,oM,oM,rfl⟩,?_⟩
 rintro i w1 ⟨hx,h0,h1,h2,h3⟩
 have sa:a.toList=a.toList.take i.toNat++a.toList.drop i.toNat:=(dc _ _).symm
 have sb:b.toList=a.toList.take i.toNat++b.toList.drop i.toNat:=by rw[h3]; exact(dc _ _).symm
 have a5:bLt a b=Op.bytesLess (a.toList.drop i.toNat) (b.toList.drop i.toNat):=by
  have:=Zr3 (a.toList.take i.toNat) (a.toList.drop i.toNat) (b.toList.drop i.toNat)
  rw[←sa,←sb]at this; exact this
 rintro b1 a4
 refine⟨λhb=>?_,λhb=>?_⟩
 ·simp only[a4,bx,decide_eq_true_eq]at hb
  obtain⟨x,a6,ea⟩:=Zm2 h0 hb.1
  obtain⟨y,a7,eb⟩:=Zm2 h0 hb.2
  have da:a.toList.drop i.toNat=x::a.toList.drop (i.toNat+1):=by
   obtain⟨hl,he⟩:=ce.1 a6
   rw[←he]; exact(dm hl)
  have db:b.toList.drop i.toNat=y::b.toList.drop (i.toNat+1):=by
   obtain⟨hl,he⟩:=ce.1 a7
   rw[←he]; exact(dm hl)
  rintro w2 rfl
  refine⟨⟨h0,hb.1⟩,⟨h0,hb.2⟩,λa8=>?_,λhe=>?_⟩
  ·rintro w3 rfl
   refine⟨⟨h0,hb.1⟩,⟨h0,hb.2⟩,?_⟩
   have a0:x≠y:=λh=>a8 (by rw[ea,eb,h])
   have:decide (bAt a i<bAt b i)=bLt a b:=by
    rw[a5,da,db,ea,eb]
    show _=(decide (x<y)||(x==y&&_))
    have:(x==y)=false:=by simpa using a0
    rw[this,Bool.false_and,Bool.or_false]
    simp[UInt8.lt_iff_toNat_lt]
   rw[this]
   exact hR _ ((hx.trans (Ext.drew _)).trans (Ext.drew _))
  ·have a0:x=y:=by
    rw[fj,ea,eb]at he
    exact UInt8.toNat_inj.1 oM
   rw[Zhu h0 hb.1 ha]
   refine⟨⟨hx.trans (Ext.drew _),oM,oM,oM,?_⟩,by show a.size - (i+1).toNat<a.size - i.toNat; omega⟩
   have e:(i+1).toNat=i.toNat+1:=oM
   rw[e,List.take_add_one,List.take_add_one,h3,a6,a7,a0]
 ·have:decide ((a.size:Int)<(b.size:Int))=bLt a b:=by
   simp only[a4,gp,decide_eq_false_iff_not]at hb
   rw[a5]
   by_cases hc:i=a.size
   ·have:a.toList.drop i.toNat= []:=gd (by rw[Zht]; omega)
    rw[this]
    cases hd:b.toList.drop i.toNat with
    |nil=>
     have hl:=congrArg List.length hd
     rw[dh,Zht]at hl
     simp only[fa]at hl
     show _=false
     simp; omega
    |cons y r=>
     have hl:=congrArg List.length hd
     rw[dh,Zht]at hl
     simp only[dq]at hl
     show _=true
     simp; omega
   ·have:b.toList.drop i.toNat= []:=gd (by rw[Zht]; omega)
    rw[this]
    have:Op.bytesLess (a.toList.drop i.toNat) []=false:=by cases a.toList.drop i.toNat<;>rfl
    rw[this]
    simp; omega
  rw[this]
  exact hR _ hx
end Go.Hal
namespace Go.Hal
def cutA:ByteArray:=ByteArray.mk #[97,98,99,100,101,102,103,104,105,106,107,108,109,110,111,112,113,114,115,116,117,118,119,120,121,122]
def cutB:ByteArray:=ByteArray.mk #[97,98,99,100,101,102,103,104,105,106,107,108,109,110,111,112,113,114,115,116,117,118,119,120,121,122,48,49,50,51,52,53,54,55,56,57,45]
set_option maxRecDepth 100000 in
theorem Z3z(b:UInt8):cutA.data.toList.contains b=lowC b:=by
 have:=Z6g (λb=>cutA.data.toList.contains b==lowC b) (by decide+kernel) b
 simpa using this
set_option maxRecDepth 100000 in
theorem Z30(b:UInt8):cutB.data.toList.contains b=Zib b:=by
 have:=Z6g (λb=>cutB.data.toList.contains b==Zib b) (by decide+kernel) b
 simpa using this
theorem Zzs{s:ByteArray}{k:Value→World→Prop}(hk: ∀w',Ext w w'→k (.string ⟨(s.data.toList.dropWhile lowC).toArray⟩) w'):callS prog 107 [.string s,.string cutA] w k:=by
 have h:=Any.strings_TrimLeft_laid Tryz.layTL kR s cutA w dC (ascii_of_all dC)
 have e:Lib.trimLeftS s.data.toList cutA.data.toList=s.data.toList.dropWhile lowC:=by
  unfold Lib.trimLeftS
  congr 1
  funext b
  exact Z3z b
 rw[e]at h
 exact h.mono λe w' ⟨he,hb⟩=>⟨_,he,hk w' hb⟩
theorem trim_k{s:ByteArray}{k:Value→World→Prop}(hs:Str s)(hk: ∀w',Ext w w'→k (.string ⟨(Lib.trimS s.data.toList cutB.data.toList).toArray⟩) w'):callS prog 108 [.string s,.string cutB] w k:=
 (Any.strings_Trim_laid Tryz.layTr kR s cutB w hs dC (ascii_of_all dC)).mono λe w' ⟨he,hb⟩=>⟨_,he,hk w' hb⟩
theorem Z6l{α:Type}(p:α→Bool)(l:List α):l.dropWhile p= []↔l.all p=true:=by
 induction l with
 |nil=>simp
 |cons x r ih=>
  rw[lg,jv]
  cases h:p x
  ·simp
  ·simpa using ih
theorem Zvj{α:Type}[BEq α][LawfulBEq α][DecidableEq α](a b:α):(a==b)=decide (a=b):=by rw[ep]; simp
theorem Zu9(l:List UInt8):(Lib.trimS l cutB.data.toList= [])↔l.all Zib=true:=by
 have e:(λb=>cutB.data.toList.contains b)=Zib:=funext Z30
 unfold Lib.trimS Lib.trimLeftS Lib.trimRightS
 simp only[e]
 rw[Z6l]
 constructor
 ·intro h
  have h2:l.reverse.dropWhile Zib= []:=by
   cases hd:l.reverse.dropWhile Zib with
   |nil=>rfl
   |cons x r=>
    rw[hd]at h
    have h3:=fu.1 h x sI
    have h4: ∀m:List UInt8,m.dropWhile Zib=x::r→Zib x=false:=by
     intro m
     induction m with
     |nil=>intro h; cases h
     |cons y t ih=>
      rw[lg]
      cases hy:Zib y
      ·intro h
       simp at h
       rw[←h.1]; exact hy
      ·intro h; exact ih (by simpa using h)
    rw[h4 _ hd]at h3; cases h3
  rw[Z6l]at h2
  exact fu.2 λx hx=>fu.1 h2 x (List.mem_reverse.2 hx)
 ·intro h
  refine fu.2 λx hx=>?_
  have:x∈l.reverse:=(jz _).mem (List.mem_reverse.1 hx)
  exact fu.1 h x (List.mem_reverse.1 this)
theorem Z75(s:ByteArray):Zn s=((!bEq s ⟨#[]⟩&&decide (s.size≤16))&&(!bEq ⟨(s.data.toList.dropWhile lowC).toArray⟩ s&&(s.data.toList.dropWhile lowC).all Zib)):=by
 unfold Zn
 rw[Bool.and_comm]
 have hb: ∀l:List UInt8,bEq ⟨l.toArray⟩ s=decide (l=s.data.toList):=by
  intro l
  unfold bEq
  rw[toList_data,toList_data]
  exact Zvj ..
 cases h0:(!bEq s ⟨#[]⟩&&decide (s.size≤16))
 ·rfl
 ·rw[dw,dw,hb,toList_data]
  have a0:s.data.toList≠ []:=by
   intro h
   simp only[bx]at h0
   have:bEq s ⟨#[]⟩=true:=by unfold bEq; rw[toList_data,toList_data,h]; rfl
   rw[this]at h0; exact absurd h0.1 dC
  cases hs:s.data.toList with
  |nil=>exact absurd hs a0
  |cons c r=>
   unfold Zfh
   rw[lg]
   cases hc:lowC c
   ·show(lowC c&&_)=_
    rw[hc,if_neg sI]; simp
   ·have hl: ¬r.dropWhile lowC=c::r:=by
     intro h
     have:=(jz lowC (l:=r)).length_le
     rw[h]at this
     simp at this
     omega
    simp only[if_true,decide_eq_false hl,Bool.not_false,dw]
    have:r=r.takeWhile lowC++r.dropWhile lowC:=(jw ..).symm
    have ht:(r.takeWhile lowC).all Zib=true:=fu.2 λx hx=>Z1m (by
     have:=List.all_takeWhile (p:=lowC) (l:=r)
     exact fu.1 this x hx)
    rw[hc,dw]
    calc r.all Zib=(r.takeWhile lowC++r.dropWhile lowC).all Zib:=by rw[←this]
     _=_:=by rw[mm,ht,dw]
theorem scanName_se{s:ByteArray}(hs:Str s)(hR: ∀w',Ext w w'→R (Zn s) w'):SE.Zep s w R:=by
 unfold SE.Zep
 refine Zzs λw1 x1=>⟨_,rfl,bound (bound (bound ?_))⟩
 have a0:Str ⟨(s.data.toList.dropWhile lowC).toArray⟩:=by
  have h1:=(jz lowC (l:=s.data.toList)).length_le
  have h2:=Zg2 ⟨(s.data.toList.dropWhile lowC).toArray⟩
  have h3:=Zg2 s
  simp only[mn]at h2
  unfold Str at*
  omega
 refine gCall.intro ⟨(Lib.trimS (s.data.toList.dropWhile lowC) cutB.data.toList).toArray⟩ (λ_ q hq=>trim_k a0 λw' hx=>⟨_,rfl,hq _ hx⟩) λt w2 x2 ht=>?_
 have:(((!bEq s ⟨#[]⟩)&&decide ((s.size:Int)≤16))&&(!bEq ⟨(s.data.toList.dropWhile lowC).toArray⟩ s)&&bEq t ⟨#[]⟩)=Zn s:=by
  rw[Z75]
  have e:decide ((s.size:Int)≤16)=decide (s.size≤16):=by
   rw[decide_eq_decide]; omega
  rw[e]at ht ⊢
  rw[kw]
  cases h1:(!bEq s ⟨#[]⟩&&decide (s.size≤16))
  ·rfl
  ·cases h2:(!bEq ⟨(s.data.toList.dropWhile lowC).toArray⟩ s)
   ·rfl
   ·rw[ht (by rw[h1,h2]; rfl),dw,dw,dw]
    have h3:bEq (⟨(Lib.trimS (s.data.toList.dropWhile lowC) cutB.data.toList).toArray⟩:ByteArray) ⟨#[]⟩=decide (Lib.trimS (s.data.toList.dropWhile lowC) cutB.data.toList= []):=by
     unfold bEq
     rw[toList_data,toList_data]
     exact Zvj ..
    rw[h3]
    cases h4:(s.data.toList.dropWhile lowC).all Zib
    ·exact decide_eq_false λh=>by rw[Zu9]at h; rw[h]at h4; cases h4
    ·exact decide_eq_true ((Zu9 _).2 h4)
 rw[this]
 exact hR _ xT
theorem r04Name_se{s:ByteArray}(hs:Str s)(hR: ∀w',Ext w w'→R (Zn s) w'):SE.Zay s w R:=by
 unfold SE.Zay
 refine⟨λi w'=>w'=w∧0≤i∧i≤s.size∧Zfh (s.toList.take i.toNat)=true,λi _=>s.size - i.toNat,⟨rfl,oM,oM,rfl⟩,?_⟩
 rintro i w' ⟨rfl,h0,h1,h2⟩
 refine⟨λa0=>⟨⟨h0,a0⟩,bound ⟨λ_=>⟨h0,a0⟩,⟨h0,a0⟩,bound ⟨λ_=>⟨h0,a0⟩,bound ⟨λ_=>⟨h0,a0⟩,bound (bound ?_)⟩⟩⟩⟩,λa6=>bound ?_⟩
 ·obtain⟨x,hx,ex⟩:=Zm2 h0 a0
  rw[ex]
  have a5:Zfh (s.toList.take (i.toNat+1))=(if i.toNat=0 then lowC x else Zib x):=by
   rw[List.take_add_one,hx]
   show Zfh (_++ [x])=_
   rw[Zuc,h2,dw]
   have:s.toList.take i.toNat= []↔i.toNat=0:=by
    rw[List.take_eq_nil_iff]
    constructor
    ·rintro(h|h)
     ·exact h
     ·rw[h]at hx; cases hx
    ·exact .inl
   by_cases hc:i.toNat=0
   ·rw[if_pos hc,if_pos (this.2 hc)]
   ·rw[if_neg hc,if_neg (λh=>hc (this.1 h))]
  have a4:((!(decide ((97:Int)≤(x.toNat:Int))&&decide ((x.toNat:Int)≤122)))&&((i==0)||(!((decide ((48:Int)≤(x.toNat:Int))&&decide ((x.toNat:Int)≤57))||((x.toNat:Int)==45)))))= !(if i.toNat=0 then lowC x else Zib x):=by
   have e1:(decide ((97:Int)≤(x.toNat:Int))&&decide ((x.toNat:Int)≤122))=lowC x:=by
    unfold lowC; congr 1<;>rw[decide_eq_decide]<;>omega
   have e2:(decide ((48:Int)≤(x.toNat:Int))&&decide ((x.toNat:Int)≤57))=(decide (48≤x.toNat)&&decide (x.toNat≤57)):=by congr 1<;>rw[decide_eq_decide]<;>omega
   have e3:((x.toNat:Int)==45)=decide (x.toNat=45):=by rw[Zvj,decide_eq_decide]; omega
   rw[e1,e2,e3]
   by_cases hc:i.toNat=0
   ·rw[if_pos hc]
    have:(i==0)=true:=by simp; omega
    rw[this]; cases lowC x<;>rfl
   ·rw[if_neg hc]
    have:(i==0)=false:=by simp; omega
    rw[this]; unfold Zib; cases lowC x<;>rfl
  rw[a4,←a5]
  refine⟨λh=>?_,λh=>?_⟩
  ·have:Zn s=false:=by
    unfold Zn
    cases hp:Zfh s.toList
    ·rfl
    ·rw[←dc (i.toNat+1) s.toList]at hp
     rw[Zwc hp]at h; cases h
   rw[←this]; exact hR _ xR
  ·rw[Zhu h0 a0 hs]
   have e:(i+1).toNat=i.toNat+1:=oM
   refine⟨⟨rfl,oM,oM,?_⟩,by show s.size - (i+1).toNat<s.size - i.toNat; omega⟩
   rw[e]
   cases hp:Zfh (s.toList.take (i.toNat+1))
   ·rw[hp]at h; cases h
   ·rfl
 ·have hi:i.toNat=s.toList.length:=by rw[Zht]; omega
  rw[hi,cu]at h2
  have:((!bEq s ⟨#[]⟩)&&decide ((s.size:Int)≤16))=Zn s:=by
   unfold Zn
   rw[h2,dw]
   congr 1
   rw[decide_eq_decide]; omega
  rw[this]; exact hR _ xR
def B(l:List UInt8):ByteArray:=⟨l.toArray⟩
theorem Zlz(l:List UInt8):(B l).data.toList=l:=rfl
theorem Zon(l:List UInt8):(B l).toList=l:=by rw[toList_data]; rfl
theorem Zk(l:List UInt8):(B l).size=l.length:=by rw[←Zg2]; rfl
theorem Zo3{a:ByteArray}(h:a.data.toList=b.data.toList):a=b:=by
 obtain⟨⟨a⟩⟩:=a; obtain⟨⟨b⟩⟩:=b
 simp at h; rw[h]
theorem ba_B(s:ByteArray):s=B s.toList:=by rw[toList_data]; exact Zo3 rfl
theorem Zrz(a b:ByteArray):(a++b).data.toList=a.data.toList++b.data.toList:=by
 rw[ByteArray.data_append]; simp
theorem Zhc(a b:List UInt8):B a++B b=B (a++b):=Zo3 (by rw[Zrz,Zlz,Zlz,Zlz])
theorem Zee(a:List UInt8)(b:Array UInt8):B a++ByteArray.mk b=B (a++b.toList):=Zo3 (by rw[Zrz,Zlz,Zlz])
theorem Zip(a:Array UInt8)(b:List UInt8):ByteArray.mk a++B b=B (a.toList++b):=Zo3 (by rw[Zrz,Zlz,Zlz])
theorem Za7(a:Array UInt8):(ByteArray.mk a).size=a.size:=rfl
theorem Zw:maxI=9223372036854775807:=rfl
def dec(n:Int):List UInt8:=Lib.decDigits n.toNat
theorem Zl4{n:Int}(h0:0≤n)(h1:n<10):dec n= [UInt8.ofNat (48+n.toNat)]:=by
 unfold dec
 rw[Lib.decDigits,dif_pos oM]
theorem Zvq{n:Int}(h1:10≤n):dec n=dec (n/10)++ [UInt8.ofNat (48+(n%10).toNat)]:=by
 unfold dec
 rw[Lib.decDigits,dif_neg oM]
 congr 2
 ·omega
 ·congr 2; omega
theorem Zio{n:Int}(h0:0≤n)(h1:n≤999):(dec n).length≤3:=by
 by_cases h:n<10
 ·rw[Zl4 h0 h]; simp
 ·rw[Zvq oM,br]
  by_cases h':n/10<10
  ·rw[Zl4 oM h']; simp
  ·rw[Zvq oM,Zl4 oM oM]; simp
def Zca(v:Ver):List UInt8:=if v.may then(((dec v.ma++ [46])++dec v.mi)++ [46])++dec v.pa else []
theorem Zek(v:Ver):(Zca v).length≤11:=by
 unfold Zca
 split
 ·rename_i h
  have h:=Ver.may_iff.1 h
  have:=Zio h.1.1 h.1.2; have:=Zio h.2.1.1 h.2.1.2; have:=Zio h.2.2.1 h.2.2.2
  simp; omega
 ·simp
def Zae(x:Span):List UInt8:=
 if x.lo=x.hi then Zca x.lo
 else if x.lo.rank=0∧x.hi.rank=999999999 then [42]
 else if x.lo.rank=0 then [60,61]++Zca x.hi
 else if x.hi.rank=999999999 then [62,61]++Zca x.lo
 else(([62,61]++Zca x.lo)++ [32,60,61])++Zca x.hi
theorem Zlr(x:Span):(Zae x).length≤27:=by
 have h1:=Zek x.lo; have h2:=Zek x.hi
 unfold Zae
 split
 ·omega
 ·split
  ·simp
  ·split
   ·simp; omega
   ·split<;>simp<;>omega
def Zh1:List Span→List UInt8
 | []=>[]
 | [x]=>Zae x
 |x::y::r=>Zae x++([32,124,124,32]++Zh1 (y::r))
def Zbp(l:List Span):List UInt8:=if Zaa l then(if l= []then [60,48,46,48,46,48]else Zh1 l)else []
theorem Zyx(l:List Span)(x:Span):Zh1 (l++ [x])=(if l= []then Zae x else(Zh1 l++ [32,124,124,32])++Zae x):=by
 induction l with
 |nil=>rfl
 |cons y r ih=>
  cases r with
  |nil=>show Zae y++([32,124,124,32]++Zae x)=_; simp[Zh1]
  |cons z t=>
   show Zae y++([32,124,124,32]++Zh1 ((z::t)++ [x]))=_
   rw[ih]
   simp[Zh1]
theorem Zmc(l:List Span):(Zh1 l).length≤31*l.length:=by
 induction l with
 |nil=>simp[Zh1]
 |cons y r ih=>
  have:=Zlr y
  cases r with
  |nil=>simp[Zh1]; omega
  |cons z t=>simp only[Zh1,br,dq,fa]at ih ⊢; omega
theorem Zhi(l:List Span):(Zbp l).length≤2000:=by
 unfold Zbp
 split
 ·rename_i h
  unfold Zaa at h
  simp at h
  have:=Zmc l
  split<;>simp<;>omega
 ·simp
def Zlp(word:List UInt8)(d:Dep):List UInt8:=((((word++ [32])++d.name.toList)++ [32])++Zbp d.range)++ [10]
def Zbh(word:List UInt8)(l:List Dep):List UInt8:=(l.map (Zlp word)).flatten
def wNeeds:List UInt8:=[110,101,101,100,115]
def Zqb:List UInt8:=[98,101,115,105,100,101]
def wLikes:List UInt8:=[108,105,107,101,115]
def Zk4(n:ByteArray)(v:Ver):List UInt8:=((([112,97,99,107,97,103,101,32]++n.toList)++ [32])++Zca v)++ [10]
def Zig(p:Pack):List UInt8:=((Zk4 p.name p.v++Zbh wNeeds p.deps)++Zbh Zqb p.peers)++Zbh wLikes p.opt
def Zkc:Option ByteArray→ByteArray→Bool
 |none,_=>true
 |some n,m=>bLt n m
def Zcz:Option ByteArray→List Dep→Bool
 |_,[]=>true
 |prev,d::r=>Zn d.name&&Zaa d.range&& !d.range.isEmpty&&Zkc prev d.name&&Zcz (some d.name) r
def Zs(l:List Dep):Bool:=Zcz none l&&decide (l.length≤16)
def Ze1(a b:List Dep):Bool:=!a.any λx=>b.any λy=>decide (x.name=y.name)
def Zl1(p:Pack):Bool:=Ze1 p.deps p.peers&&Ze1 p.deps p.opt&&Ze1 p.peers p.opt
def Zdk(p:Pack):Bool:=Zn p.name&&p.v.may&&Zs p.deps&&Zs p.peers&&Zs p.opt
def Zbb(p:Pack):Bool:=Zdk p&&(Zl1 p&&decide ((Zig p).length≤4096))
theorem Zjk(word:List UInt8)(l:List Dep)(d:Dep):Zbh word (l++ [d])=Zbh word l++Zlp word d:=by simp[Zbh]
theorem Zdo{n:ByteArray}(h:Zn n=true):n.toList.length≤16:=by
 unfold Zn at h
 simp at h
 rw[toList_data,Zg2]; exact h.2.2
theorem Zvs{l:List Dep}(h:Zcz p l=true): ∀d∈l,Zn d.name=true∧Zaa d.range=true∧d.range≠ []:=by
 induction l generalizing p with
 |nil=>intro d hd; cases hd
 |cons x r ih=>
  intro d hd
  rw[Zcz]at h
  simp only[bx]at h
  rcases du.1 hd with rfl|hd
  ·exact⟨h.1.1.1.1,h.1.1.1.2,by have:=h.1.1.2; simp at this; exact this⟩
  ·exact ih h.2 d hd
theorem Zvr{word:List UInt8}(hw:word.length≤8){d:Dep}(h:Zn d.name=true):(Zlp word d).length≤2030:=by
 have:=Zdo h; have:=Zhi d.range
 simp only[Zlp,br,dq,fa]; omega
theorem Zb9{word:List UInt8}(hw:word.length≤8){l:List Dep}(h: ∀d∈l,Zn d.name=true):(Zbh word l).length≤2030*l.length:=by
 induction l with
 |nil=>simp[Zbh]
 |cons x r ih=>
  have h1:=ih λd hd=>h d (jh _ hd)
  have h2:=Zvr hw (h x (gj ..))
  simp only[Zbh,fg,ge,br,dq]at h1 ⊢
  omega
def dpOk(prev:Option ByteArray)(d:Dep):Bool:=Zn d.name&&Zaa d.range&& !d.range.isEmpty&&Zkc prev d.name
def Zok:Option ByteArray→List Dep→Option ByteArray
 |p,[]=>p
 |_,d::r=>Zok (some d.name) r
theorem Zvt(l:List Dep): ∀(p:Option ByteArray) (d:Dep),Zcz p (l++ [d])=(Zcz p l&&dpOk (Zok p l) d):=by
 induction l with
 |nil=>intro p d; simp[Zcz,dpOk,Zok]
 |cons x r ih=>
  intro p d
  rw[dz,Zcz,Zcz,ih]
  exact(kw ..).symm
theorem Zy2(l:List Dep): ∀(p:Option ByteArray) (d:Dep),Zok p (l++ [d])=some d.name:=by
 induction l with
 |nil=>intro p d; rfl
 |cons x r ih=>intro p d; exact ih _ d
theorem Zyk{l k:List Dep}(h:Zcz p (l++k)=true):Zcz p l=true:=by
 induction l generalizing p with
 |nil=>rfl
 |cons y r ih=>
  rw[dz,Zcz]at h
  rw[Zcz]
  simp only[bx]at h ⊢
  exact⟨h.1,ih h.2⟩
theorem Zl5{l:List Dep}(h:Zcz none (l.take i)=false):Zs l=false:=by
 unfold Zs
 cases hg:Zcz none l
 ·rfl
 ·rw[←dc i l]at hg
  rw[Zyk hg]at h; cases h
theorem Ztj{l:List Dep}(hn:n<l.length)(hI:Zcz none (l.take n)=true):Zcz none (l.take (n+1))=dpOk (Zok none (l.take n)) l[n]:=by
 rw[bu hn,Zvt,hI,dw]
theorem Zq6{l:List Dep}(hn:n+1<l.length):Zok none (l.take (n+1))=some l[n].name:=by
 rw[bu oM,Zy2]
theorem Zr{l:List Dep}(h:Zs l=true):l.length≤16∧ ∀d∈l,Zn d.name=true∧Zaa d.range=true∧d.range≠ []:=by
 unfold Zs at h
 simp only[bx,decide_eq_true_eq]at h
 exact⟨h.2,Zvs h.1⟩
theorem Z2x{x:Int}(h0:0≤x)(h1:x≤255):IntKind.u8.wrap x=x:=by
 simp only[IntKind.wrap,IntKind.bits,IntKind.signed,Bool.false_and]
 have e1:(2:Int)^ 8=256:=rfl
 simp[e1]; omega
theorem Z7h{x:Int}(hb:BoxAt w a [.int .u8 x]):Zmv prog (Go.convert 127 9 (Sl.v (Sl.mk (some a) 1 1))) w (.string (B [UInt8.ofNat x.toNat])):=λw' hx=>by
 obtain⟨b,o,s⟩:=a
 obtain⟨t,ho,hs,hh⟩:=hb
 simp only at ho hs hh
 subst ho hs
 have a0:BoxAt w' ⟨b,0,none⟩ [.int .u8 x]:=BoxAt.ext ⟨t,rfl,rfl,hh⟩ hx
 exact run_convert_bytes_arg w' 127 5 underlying127 underlying5 b 0 1 1 [x] rfl (λi hi=>by
  have:i=0:=oM
  subst this
  have:=a0.ldc 0 (.int .u8 x) rfl
  exact this) _ underlying9
theorem r02Number_se: ∀(N:Nat) {n:Int} {w:World} {R:ByteArray→World→Prop},0≤n→n.toNat<N→n≤999→(∀w',Ext w w'→R (B (dec n)) w')→SE.Zar n w R
 |0,n,w,R,_,h,_,_=>by omega
 |N+1,n,w,R,h0,hN,h9,hR=>by
  have a0: ∀m:Int,0≤m→m<10→IntKind.u8.wrap (Za (48+m))=48+m:=λm h1 h2=>by rw[Zc oM oM,Z2x oM oM]
  have dl: ∀m:Int,0≤m→UInt8.ofNat (48+m).toNat=UInt8.ofNat (48+m.toNat):=λm h1=>by congr 1; omega
  unfold SE.Zar
  refine⟨λa4=>?_,λa6=>?_⟩
  ·rw[a0 n h0 a4]
   refine newS.intro λa w1 x1 hb _ _=>⟨_,Z7h hb,?_⟩
   rw[dl n h0,←Zl4 h0 a4]
   exact hR _ xT
  ·have hq:n.tdiv 10=n/10:=kr h0
   have hm:Int.tmod n 10=n%10:=Int.tmod_eq_emod_of_nonneg h0
   rw[hq,hm,Zc oM oM,a0 (n%10) oM oM]
   have hl:=Zio (n:=n/10) oM oM
   have a5:((((B (dec (n/10))).size+(B [UInt8.ofNat (48+n%10).toNat]).size:Nat):Int)≤maxI):=by rw[Zk,Zk,Zw]; simp; omega
   have hv:B (dec (n/10))++B [UInt8.ofNat (48+n%10).toNat]=B (dec n):=by rw[Zhc,dl _ oM,←Zvq oM]
   refine join.intro (bnd.drew λw1 x1=>⟨?_,?_⟩)
   ·refine callX.intro (SE.Zar.go (r02Number_se N oM oM oM λw2 x2=>⟨x2,_,rfl,newS.intro λa w3 x3 hb _ _=>⟨_,Z7h hb,a5,?_⟩⟩))
    rw[hv]; exact hR _ xT
   ·refine newS.intro λa w3 x3 hb _ _=>⟨_,Z7h hb,callX.intro (SE.Zar.go (r02Number_se N oM oM oM λw2 x2=>⟨x2,_,rfl,a5,?_⟩))⟩
    rw[hv]; exact hR _ xT
theorem Zjt{v:Ver}{R:ByteArray→World→Prop}(hR: ∀w',Ext w w'→R (B (Zca v)) w'):SE.Zbm v.ma v.mi v.pa w R:=by
 unfold SE.Zbm
 refine newS.intro λ_ w1 x1 hb _ _=> ?_
 refine⟨_,_,_,lD,?_⟩
 refine SE.Zbt.go (r02May_se λw2 x2=>⟨_,rfl,λh=>?_,λh=>bnd.drew λw3 x3=>?_⟩)
 ·have e:v.may=false:=by simpa using h
  have:Zca v= []:=by unfold Zca; rw[e]; rfl
  have hr:=hR w2 xT
  rw[this]at hr; exact hr
 ·have e:v.may=true:=by simpa using h
  have hm:=Ver.may_iff.1 e
  have l1:=Zio hm.1.1 hm.1.2; have l2:=Zio hm.2.1.1 hm.2.1.2; have l3:=Zio hm.2.2.1 hm.2.2.2
  have hv:Zca v=(((dec v.ma++ [46])++dec v.mi)++ [46])++dec v.pa:=by unfold Zca; rw[e]; rfl
  refine⟨_,lD,?_⟩
  refine⟨_,lD,?_⟩
  refine⟨_,lD,?_⟩
  refine callX.intro (SE.Zar.go (r02Number_se 1000 hm.1.1 oM hm.1.2 λw4 x4=>⟨x4,_,rfl,?_⟩))
  refine⟨by rw[Zk,Za7,Zw]; simp; omega,callX.intro (SE.Zar.go (r02Number_se 1000 hm.2.1.1 oM hm.2.1.2 λw5 x5=>⟨x5,_,rfl,?_⟩))⟩
  simp only[Zee,Zhc]
  refine⟨by rw[Zk,Zk,Zw]; simp; omega,by rw[Zk,Za7,Zw]; simp; omega,SE.Zar.go (r02Number_se 1000 hm.2.2.1 oM hm.2.2.2 λw6 x6=>⟨_,rfl,?_⟩)⟩
  simp only[Zhc]
  refine⟨by rw[Zk,Zk,Zw]; simp; omega,?_⟩
  have hr:=hR w6 xT
  rw[hv]at hr; exact hr
def Tab(w:World):Prop:=Lib.TabIs prog w "internal/strconv.uint64pow10" .u64 Lib.pow10Tab
theorem Z5y(hg:prog.globalNamed "internal/strconv.uint64pow10" =some g)(h:Tab w)(hk:w'.heap[g]? =w.heap[g]?):Tab w':=by
 unfold Tab Lib.TabIs World.var? at*
 rw[hg]at h ⊢
 simp only[mc]at h ⊢
 rw[hk]; exact h
theorem Tab.ext(h:Tab w)(hx:Ext w w'):Tab w':=by
 have hv:=h
 unfold Tab Lib.TabIs World.var? at hv
 cases hg:prog.globalNamed "internal/strconv.uint64pow10" with
 |none=>rw[hg]at hv; cases hv
 |some g=>
  rw[hg]at hv
  simp only[mc]at hv
  refine Z5y hg h (hx.block ?_)
  cases hh:w.heap[g]? with
  |none=>rw[hh]at hv; cases hv
  |some o=>exact(de.1 hh).1
theorem Z1c{n:Int}{k:Value→World→Prop}(h0:0≤n)(h1:n≤999)(ht:Tab w)(hk: ∀w',Ext w w'→k (.string (B (dec n))) w'):callS prog 130 [.int .i64 n] w k:=by
 have h:=Any.strconv_Itoa Tryz.layIt n oM oM w ht
 have e:Lib.itoa n=dec n:=by unfold Lib.itoa dec; rw[if_neg oM]
 rw[e]at h
 refine h.mono λe w' ⟨he,q,os,hw⟩=>⟨_,he,hk w' ?_⟩
 subst hw
 exact⟨rfl,rfl,rfl,by show w.heap.size≤(w.heap++os).size; simp,λb hb=>by
  show(w.heap++os)[b]? =w.heap[b]?
  rw[jq hb]⟩
theorem versPrint_se{v:Ver}{R:ByteArray→World→Prop}(ht:Tab w)(hR: ∀w',Ext w w'→R (B (Zca v)) w'):SE.Zet v.ma v.mi v.pa w R:=by
 unfold SE.Zet
 refine newS.intro λ_ w1 x1 hb _ _=> ?_
 refine⟨_,_,_,lD,?_⟩
 refine SE.Zil.go (Zle (v:=v) λw2 x2=>⟨_,rfl,λh=>?_,λh=>bnd.drew λw3 x3=>?_⟩)
 ·have e:v.may=false:=by simpa using h
  have:Zca v= []:=by unfold Zca; rw[e]; rfl
  have hr:=hR w2 xT
  rw[this]at hr; exact hr
 ·have e:v.may=true:=by simpa using h
  have hm:=Ver.may_iff.1 e
  have l1:=Zio hm.1.1 hm.1.2; have l2:=Zio hm.2.1.1 hm.2.1.2; have l3:=Zio hm.2.2.1 hm.2.2.2
  have hv:Zca v=(((dec v.ma++ [46])++dec v.mi)++ [46])++dec v.pa:=by unfold Zca; rw[e]; rfl
  refine⟨_,lD,?_⟩
  refine⟨_,lD,?_⟩
  refine⟨_,lD,?_⟩
  refine callX.intro (Z1c hm.1.1 hm.1.2 (ht.ext xT) λw4 x4=>⟨x4,_,rfl,?_⟩)
  refine⟨by rw[Zk,Za7,Zw]; simp; omega,callX.intro (Z1c hm.2.1.1 hm.2.1.2 (ht.ext xT) λw5 x5=>⟨x5,_,rfl,?_⟩)⟩
  simp only[Zee,Zhc]
  refine⟨by rw[Zk,Zk,Zw]; simp; omega,by rw[Zk,Za7,Zw]; simp; omega,Z1c hm.2.2.1 hm.2.2.2 (ht.ext xT) λw6 x6=>⟨_,rfl,?_⟩⟩
  simp only[Zhc]
  refine⟨by rw[Zk,Zk,Zw]; simp; omega,?_⟩
  have hr:=hR w6 xT
  rw[hv]at hr; exact hr
end Go.Hal
namespace Go.Hal
open Go.ChangeShapes Go.WideShapes Go.ChangeAt
theorem own:ownKnob prog.godebug=none:=kR
def Zxm{H:Type}:DataW H→List Value
 | .lit (.int k n)=>[.int k n]
 |_=> []
def Z5k{H:Type}:DataW H→List Value
 | .agg l=>l.flatMap λd=>match d with
  | .agg m=>m.flatMap Zxm
  |d=>Zxm d
 |_=> []
def layOne(P:Program)(h:Array Obj)(x:String×DataW Unit):Array Obj:=match P.globalNamed x.1 with
 |some g=>match x.2 with
  | .iface _ (.ptr (.agg [.lit (.string s)]))=>(h.push (.cells #[.string ⟨s.toArray⟩] 445)).modify g fun
   | .cells _ t fr=>.cells #[.iface 443 (.pointer (some ⟨h.size,0,none⟩))] t fr
   |o=>o
  |d=>h.modify g fun
   | .cells _ t fr=>.cells (Z5k d).toArray t fr
   |o=>o
 |none=>h
def layAll(P:Program)(l:List (String×DataW Unit))(h:Array Obj):Array Obj:=l.foldl (layOne P) h
def Zpi:List (String×DataW Unit):=Go.Proofs.YtfilbiaaeecoaaaGreatDoor.Rows.plainPlacesRow.laid
noncomputable def Zkj (os:Os):World:={World.holding prog os ⟨#[],#[],[]⟩with heap:=layAll prog Zpi (World.holding prog os ⟨#[],#[],[]⟩).heap}
set_option maxRecDepth 100000 in
theorem Z4o(os:Os)(args:Array Value):laidMet prog Zpi ((Zkj os).forCall (λ_ _=>0) ⟨#[],args,[]⟩).memory:=laidMet_of_run' 8 kR kR
set_option maxRecDepth 100000 in
theorem Z1g(os:Os)(args:Array Value):((Zkj os).forCall (λ_ _=>0) ⟨#[],args,[]⟩).variablesB prog=true:=kR
set_option maxRecDepth 100000 in
theorem Z1f(os:Os)(args:Array Value):(((Zkj os).forCall (λ_ _=>0) ⟨#[],args,[]⟩).heap.toList.drop prog.globals.size).take ((begin prog (λ_ _=>0) default).world.heap.size - prog.globals.size)=
  (begin prog (λ_ _=>0) default).world.heap.toList.drop prog.globals.size:=kR
theorem gPow: ∃g t,prog.globalNamed "internal/strconv.uint64pow10" =some g∧(prog.globals[g]?).map (·.type)=some t∧prog.underlying t=some (.array 20 189)∧prog.cellsOf t=20:=⟨3,390,kR,kR,kR,kR⟩
theorem tab_of{W:World}(h:laidMetH prog Zpi W):Tab W:=by
 obtain⟨g,t,h1,h2,h3,h4⟩:=gPow
 rw[MakeChecks.laidMetH_plain _ _ _ kR]at h
 exact Lib.tabIs_of_head h1 h2 h3 underlying189 kR h4 (laidMet.tail (laidMet.tail h))
theorem Z9g{a b:Bool}(h1:a=true)(h2:b=true):(a&&b)=true:=by rw[h1,h2]; rfl
theorem Z3j{cs:Array Value}{l:List Value}(h:(Value.agg cs).cells.toList=l):cs=l.toArray:=by
 have:cs.toList=l:=h
 rw[←this]
end Go.Hal
namespace Go.Hal
open Go.ChangeShapes Go.WideShapes Go.ChangeAt Go.Proofs.YtfilbiaaeecoaaaGreatDoor
section
variable {H:Type} {enc:TypeId×Value→H} {P:Program} {W:World}
theorem Zs7{d:DataW H}{l:List (DataW H)}(h:d∈l):Rows.uptoBulk d≤Rows.uptoBulkAll l:=by
 induction l with
 |nil=>cases h
 |cons x r ih=>
  simp only[Rows.uptoBulkAll]
  rcases du.1 h with e|e
  ·subst e; omega
  ·have:=ih e; omega
theorem Z3q(d:DataW H):1≤Rows.uptoBulk d:=by
 cases d with
 |lit l=>cases l<;>simp[Rows.uptoBulk]
 |_=>simp[Rows.uptoBulk]
theorem Z3p(l:List (DataW H)):l.length≤Rows.uptoBulkAll l:=by
 induction l with
 |nil=>simp[Rows.uptoBulkAll]
 |cons x r ih=>have:=Z3q x; simp only[Rows.uptoBulkAll,dq]; omega
theorem Zfn{x:DataW H×List MemPlace}(ht:P.underlying t=some (.struct fs))(h:Tr enc P W n t cs x)(hw:small (x.1.weights P t))(i ft off c:Nat)(hf: ∃f,fs[i]? =some f∧f.type=ft∧f.offset=off)(hc:P.cellsOf ft=c):
  ∃y m,Tr enc P W m ft ((cs.drop off).take c) y∧small (y.1.weights P ft)∧Rows.uptoBulk y.1≤Rows.uptoBulk x.1:=by
 obtain⟨f,hf,rfl,rfl⟩:=hf
 subst hc
 obtain⟨xs,m,_,rfl,_,a0,a4⟩:=DataW.trod_struct ht h
 have hi:i<xs.length:=by rw[a0]; exact(de.1 hf).1
 have h1:=a4 i f hf
 rw[bq hi]at h1
 refine⟨xs[i],m,h1,?_,?_⟩
 ·simp only[DataW.weights,ht]at hw
  exact Zgc hw (i:=i) (by simp[hf]) (by simp[bq hi])
 ·have h2:=Zs7 (fp (f:=Prod.fst) (cj hi))
  simp only[Rows.uptoBulk]
  exact co h2 (Nat.le_succ _)
theorem Zwt{x:DataW H×List MemPlace}(ht:P.underlying t=some (.slice e))(h:Tr enc P W n t cs x)(hc:cs= [s.v]):s.len≤Rows.uptoBulk x.1:=by
 rcases Go.Deep.open_slice ht h with⟨h1,rfl⟩|⟨a,len,cap,m,n',D,Pl,h1,_,a5,a0,hm,rfl,a4⟩
 ·rw[hc]at h1
  simp[Sl.v]at h1
  omega
 ·rw[hc]at h1
  simp[Sl.v]at h1
  simp only[Rows.uptoBulk]
  have:=Z3p ((List.range len).map D)
  simp at this
  omega
theorem Z9r{l:List (DataW H)}(hk:Rows.uptoSmall H l=true):Rows.uptoBulkAll l≤1048576:=by
 simpa[Rows.uptoSmall]using hk
end
section
variable {H:Type} {W:World} {enc:TypeId×Value→H}
theorem rdBool{x:DataW H×List MemPlace}(h:Tr enc prog W n 4 cs x): ∃b,cs= [.bool b]:=by
 obtain⟨b,h1,_⟩:=DataW.trod_bool underlying4 h
 exact⟨b,h1⟩
theorem Zwr{x:DataW H×List MemPlace}(h:Tr enc prog W n 51 cs x)(hw:small (x.1.weights prog 51)): ∃(s:Sl) (l:List Dep),cs= [s.v]∧SlR depE W (Here W) s l∧l.length≤Rows.uptoBulk x.1:=by
 obtain⟨s,l,e,hs,_⟩:=Zxx enc n _ _ h hw
 exact⟨s,l,e,hs,by rw[←hs.len]; exact Zwt underlying51 h e⟩
theorem Z8f{x:DataW H×List MemPlace}(h:Tr enc prog W n 53 cs x)(hw:small (x.1.weights prog 53)):
  ∃(p:Pack) (d e o:Sl),cs= .string p.name::p.v.c++ [Sl.v d,Sl.v e,Sl.v o]∧Str p.name∧SlR depE W (Here W) d p.deps∧SlR depE W (Here W) e p.peers∧SlR depE W (Here W) o p.opt∧
   p.deps.length≤Rows.uptoBulk x.1∧p.peers.length≤Rows.uptoBulk x.1∧p.opt.length≤Rows.uptoBulk x.1:=by
 have hl:=Zi7 underlying53 h
 rw[ceK]at hl
 obtain⟨y0,m0,h0,w0,_⟩:=Zfn underlying53 h hw 0 9 0 1 ⟨_,rfl,rfl,rfl⟩ ceS
 obtain⟨y1,m1,h1,w1,_⟩:=Zfn underlying53 h hw 1 50 1 3 ⟨_,rfl,rfl,rfl⟩ ceV
 obtain⟨y2,m2,h2,w2,b2⟩:=Zfn underlying53 h hw 2 51 4 1 ⟨_,rfl,rfl,rfl⟩ ceLd
 obtain⟨y3,m3,h3,w3,b3⟩:=Zfn underlying53 h hw 3 51 5 1 ⟨_,rfl,rfl,rfl⟩ ceLd
 obtain⟨y4,m4,h4,w4,b4⟩:=Zfn underlying53 h hw 4 51 6 1 ⟨_,rfl,rfl,rfl⟩ ceLd
 obtain⟨s,e0,hs⟩:=Zws h0
 obtain⟨v,e1⟩:=Zze h1 w1
 obtain⟨d,ld,e2,hd,kd⟩:=Zwr h2 w2
 obtain⟨e,le,e3,he,ke⟩:=Zwr h3 w3
 obtain⟨o,lo,e4,ho,ko⟩:=Zwr h4 w4
 match cs,hl with
 | [c0,c1,c2,c3,c4,c5,c6],_=>
  simp[Ver.c]at e0 e1 e2 e3 e4
  exact⟨⟨s,v,ld,le,lo⟩,d,e,o,by rw[e0,e1.1,e1.2.1,e1.2.2,e2,e3,e4]; rfl,hs,hd,he,ho,co kd b2,co ke b3,co ko b4⟩
end
end Go.Hal
namespace Go.Proofs.YtfilbiaaeecoaaaGreatDoor
open Go.ChangeShapes Go.WideShapes Go.ChangeAt
theorem Zex:Tryz.f3.params.toList= [32]:=by rw[Tryz.params3]
theorem Zj9:joinedFacts Tryz.pinned.checked.prog 3 Tryz.f3 (Rows.OpenSpec.upto Rows.plainPlacesSpec).bare Rows.plainPlacesUptoRow=true:=by
 unfold joinedFacts
 repeat' with_reducible refine Z9g ?_ ?_
 all_goals (as_aux_lemma=>kernel_rfl)
theorem Znn(f:FuncId)(fn:Func)(hf:Tryz.pinned.checked.prog.funcNamed "halyard/halyardlaw21.PlainPlaces" =some f)(a4:Tryz.pinned.checked.prog.funcs[f]? =some fn):
  true=Tryz.pinned.checked.prog.looks []∧ ∀(j:Nat) t,fn.params[j]? =some t→Tryz.pinned.checked.prog.wantsStandIn t=false:=by
 obtain rfl:f=3:=gu ((show prog.funcNamed "halyard/halyardlaw21.PlainPlaces" =some 3 by kernel_rfl).symm.trans hf)|>.symm
 obtain rfl:fn=Tryz.f3:=(gu (func3.symm.trans a4)).symm
 refine⟨kR,λj t ht=>?_⟩
 have hm:t∈Tryz.f3.params.toList:=by rw[←Array.getElem?_toList]at ht; exact ez ht
 have a0:(Tryz.f3.params.toList.all λt=>!prog.wantsStandIn t)=true:=kR
 have:=fu.1 a0 t hm
 exact(show prog.wantsStandIn t=false by simpa using this)
end Go.Proofs.YtfilbiaaeecoaaaGreatDoor
namespace Go.Proofs.YtfilbiaaeecoaaaGreatDoor
theorem Z07(h:P.funcs.any Func.goes=false)(c:OpenClaim)(hs:c.start= .entering):false=c.goesBy P:=by
 have h1: ∀g:FuncId,(P.funcs[g]?).any Func.goes=false:=λg=>by
  cases hg:P.funcs[g]? with
  |none=>rfl
  |some fn=>
   obtain⟨hl,rfl⟩:=de.1 hg
   have:=Array.any_eq_false.1 h g hl
   simpa using this
 have h2: ∀f,P.goes f=false:=λf=>by
  unfold Program.goes
  rw[h,Bool.and_false,Bool.or_false,ij]
  intro g _
  rw[h1]; simp
 unfold OpenClaim.goesBy Program.goesAt Program.goesFrom
 rw[hs]
 cases P.funcNamed c.func with
 |none=>rfl
 |some f=>simp[h2]
theorem Zmn:Rows.plainPlacesUptoRow.wfByText (Rows.OpenSpec.upto Rows.plainPlacesSpec)=true:=kR
theorem Zlj:Tryz.pinned.checked.prog.mainIs=some (Rows.plainPlacesUptoCard.stood.harness.1,Rows.plainPlacesUptoCard.stood.harness.2.toList):=kR
theorem Zli:false=Rows.plainPlacesUptoRow.goesBy Tryz.pinned.checked.prog:=Z07 kR _ rfl
end Go.Proofs.YtfilbiaaeecoaaaGreatDoor
namespace Go.Hal
theorem Z6j(x:List UInt8):Op.bytesLess x []=false:=by cases x<;>rfl
theorem Zr1(a b:UInt8)(x y:List UInt8):Op.bytesLess (a::x) (b::y)=(decide (a<b)||(a==b&&Op.bytesLess x y)):=rfl
theorem Z0d(x:List UInt8):Op.bytesLess x x=false:=by
 induction x with
 |nil=>rfl
 |cons a r ih=>rw[Zr1,ih]; simp
theorem Zxc: ∀{x y z:List UInt8},Op.bytesLess x y=true→Op.bytesLess y z=true→Op.bytesLess x z=true
 |_,[],_,h,_=>by rw[Z6j]at h; cases h
 |_,_::_,[],_,h=>by rw[Z6j]at h; cases h
 | [],_::_,_::_,_,_=>rfl
 |a::x,b::y,c::z,h1,h2=>by
  rw[Zr1]at h1 h2 ⊢
  simp only[jd,decide_eq_true_eq,bx,beq_iff_eq]at h1 h2 ⊢
  rcases h1 with h1|⟨rfl,h1⟩
  ·rcases h2 with h2|⟨rfl,h2⟩
   ·exact .inl (UInt8.lt_trans h1 h2)
   ·exact .inl h1
  ·rcases h2 with h2|⟨rfl,h2⟩
   ·exact .inl h2
   ·exact .inr ⟨rfl,Zxc h1 h2⟩
theorem Z6k: ∀{x y:List UInt8},Op.bytesLess x y=false→Op.bytesLess y x=false→x=y
 | [],[],_,_=>rfl
 | [],_::_,h,_=>by cases h
 |_::_,[],_,h=>by cases h
 |a::x,b::y,h1,h2=>by
  rw[Zr1]at h1 h2
  simp only[dx,decide_eq_false_iff_not,gp,beq_eq_false_iff_ne]at h1 h2
  have e:a=b:=by
   have:=UInt8.not_lt.1 h1.1; have:=UInt8.not_lt.1 h2.1
   exact UInt8.le_antisymm ‹_› ‹_›
  subst e
  have:=Z6k (x:=x) (y:=y) (by simpa using h1.2) (by simpa using h2.2)
  rw[this]
theorem Zk0(x:ByteArray):bLt x x=false:=Z0d _
theorem Zkd{x y z:ByteArray}(h:bLt x y=true)(k:bLt y z=true):bLt x z=true:=Zxc h k
theorem Zr0{x y:ByteArray}(h:bLt x y=false)(k:bLt y x=false):x=y:=by
 have:=Z6k h k
 rw[toList_data,toList_data]at this
 exact Zo3 this
theorem Znu{x y:ByteArray}(h:bLt x y=true):x≠y:=λe=>by subst e; rw[Zk0]at h; cases h
theorem Zl2{x y:ByteArray}(h:bLt x y=true):bLt y x=false:=by
 cases k:bLt y x
 ·rfl
 ·have:=Zkd h k; rw[Zk0]at this; cases this
theorem Z0o{l:List Dep}(h:Zcz p l=true):l.Pairwise (λx y=>bLt x.name y.name=true)∧(∀n,p=some n→ ∀x∈l,bLt n x.name=true):=by
 induction l generalizing p with
 |nil=>exact⟨.nil,λ_ _ x hx=>by cases hx⟩
 |cons y r ih=>
  rw[Zcz]at h
  simp only[bx]at h
  obtain⟨a4,a0⟩:=ih h.2
  refine⟨ga.2 ⟨λx hx=>a0 _ rfl x hx,a4⟩,λn hn x hx=>?_⟩
  subst hn
  have hy:bLt n y.name=true:=h.1.2
  rcases du.1 hx with rfl|hx
  ·exact hy
  ·exact Zkd hy (a0 _ rfl x hx)
theorem Zfe{l:List Dep}(h:Zs l=true):(l.map (·.name)).Nodup:=by
 unfold Zs at h
 simp only[bx]at h
 have:=(Z0o h.1).1
 rw[List.Nodup,fy]
 exact this.imp λh=>Znu h
theorem Zgg{a b:List Dep}:Ze1 a b=true↔ ∀x∈a.map (·.name),∀y∈b.map (·.name),x≠y:=by
 unfold Ze1
 rw[ik,ij]
 constructor
 ·intro h x hx y hy e
  obtain⟨d,hd,rfl⟩:=fh.1 hx
  obtain⟨f,hf,rfl⟩:=fh.1 hy
  exact h d hd (ir.2 ⟨f,hf,by simpa using e⟩)
 ·intro h d hd a0
  obtain⟨f,hf,he⟩:=ir.1 a0
  exact h _ (fp hd) _ (fp hf) (by simpa using he)
theorem Zz9{p:Pack}(h:Zdk p=true):decide ((p.deps++p.peers++p.opt).map (·.name)).Nodup=Zl1 p:=by
 unfold Zdk at h
 simp only[bx]at h
 obtain⟨⟨⟨_,h1⟩,h2⟩,h3⟩:=h
 have n1:=Zfe h1; have n2:=Zfe h2; have n3:=Zfe h3
 unfold Zl1
 rw[ep,decide_eq_true_eq,bx,bx,Zgg,Zgg,Zgg,ec,ec,gi,gi]
 constructor
 ·rintro⟨⟨_,_,a0⟩,_,h3⟩
  exact⟨⟨a0,λx hx y hy=>h3 x (gb _ hx) y hy⟩,λx hx y hy=>h3 x (ii _ hx) y hy⟩
 ·rintro⟨⟨a0,a4⟩,a5⟩
  refine⟨⟨n1,n2,a0⟩,n3,λx hx y hy=>?_⟩
  rcases dj.1 hx with hx|hx
  ·exact a4 x hx y hy
  ·exact a5 x hx y hy
end Go.Hal
namespace Go.Hal
def Zkp(over:List Dep)(name:ByteArray)(r:List Span):List Span:=match over with
 | []=>r
 |d::l=>if d.name=name then d.range else Zkp l name r
theorem Zy8{l:List Dep}{name:ByteArray}{r:List Span}{d:Dep}(hi:l[i]? =some d)(hd:d.name=name)(hn: ∀k<i,∀e:Dep,l[k]? =some e→ ¬e.name=name):Zkp l name r=d.range:=by
 induction l generalizing i with
 |nil=>simp at hi
 |cons a l ih=>
  cases i with
  |zero=>
   simp only[gl,cw]at hi
   subst hi; rw[Zkp,if_pos hd]
  |succ i=>
   rw[Zkp,if_neg (hn 0 oM a rfl)]
   exact ih hi λk hk e he=>hn (k+1) oM e he
theorem Zwe{l:List Dep}{name:ByteArray}{r:List Span}(hn: ∀(k:Nat) (e:Dep),l[k]? =some e→ ¬e.name=name):Zkp l name r=r:=by
 induction l with
 |nil=>rfl
 |cons a l ih=>
  rw[Zkp,if_neg (hn 0 a rfl)]
  exact ih λk e he=>hn (k+1) e he
theorem Z3m:ApT prog 51 202 2 40:=Zhv (z:=.agg #[.string ⟨#[]⟩,.slice none 0 0]) kR kR rfl dC
def Zc5(over:List Dep)(l:List Dep):List Dep:=l.map λd=>⟨d.name,Zkp over d.name d.range⟩
end Go.Hal
namespace Go.Hal
theorem Zm5{a:ByteArray}:cmpS a b<0↔bLt a b=true:=by
 unfold cmpS
 split
 ·rename_i h; simp[h]
 ·rename_i h
  split<;>simp[h]
theorem Zgs{a:ByteArray}:cmpS a b=0↔a=b:=by
 unfold cmpS
 split
 ·rename_i h; have:=Znu h; simp[this]
 ·split
  ·rename_i h; simp[Zap.1 h]
  ·rename_i h
   have: ¬a=b:=λe=>h (Zap.2 e)
   simp[this]
theorem Zvm{a b:ByteArray}:cmpS a b≤0↔bLt b a=false:=by
 constructor
 ·intro h
  rcases Int.lt_or_eq_of_le h with h|h
  ·exact Zl2 (Zm5.1 h)
  ·rw[Zgs.1 h,Zk0]
 ·intro h
  cases h1:bLt a b
  ·have:=Zr0 h1 h
   subst this
   rw[Zgs.2 rfl]; omega
  ·have:=Zm5.2 h1; omega
theorem Zhf{α:Type}(f:α→ByteArray):Ord3 (λa b:α=>cmpS (f a) (f b)) where
 flip:=λx y=>by
  have h1:=@Zvm (f y) (f x)
  rw[Zm5]
  cases h:bLt (f x) (f y)
  ·have:=h1.2 h
   simp; omega
  ·rw[h]at h1
   simp at h1 ⊢
   omega
 trans:=λx y z h1 h2=>by
  rw[Zvm]at h1 h2 ⊢
  cases h:bLt (f z) (f x)
  ·rfl
  ·exfalso
   cases h3:bLt (f y) (f z)
   ·have:=Zr0 h3 h2
    rw[this]at h1
    rw[h1]at h; cases h
   ·have:=Zkd h3 h
    rw[this]at h1; cases h1
theorem Zs4{a:ByteArray}(h:cmpS a b≤0)(a0:a≠b):bLt a b=true:=by
 cases h1:bLt a b
 ·exact absurd (Zr0 h1 (Zvm.1 h)) a0
 ·rfl
def Zi8(l:List Pin):List Pin:=Zdr (λa b=>cmpS a.name b.name) l
def Rises(l:List Pin):Prop:=l.Pairwise λa b=>bLt a.name b.name=true
theorem Zes(l:List Pin):(Zi8 l).Perm l:=Ze8 l
theorem Zlw{l:List Pin}(h:(l.map (·.name)).Nodup):Rises (Zi8 l):=by
 have h1:=Zqp (Zhf (α:=Pin) (·.name)) l
 have h2:((Zi8 l).map (·.name)).Nodup:=((Zes l).map _).nodup_iff.2 h
 rw[fe,fy]at h2
 exact(h1.and h2).imp λh=>Zs4 h.1 h.2
theorem Rises.one{l m:List Pin}(h1:Rises l)(h2:Rises m)(hp:l.Perm m):l=m:=
 Zi9 (R:=λa b:Pin=>bLt a.name b.name=true) (λx y h1 h2=>by rw[Zl2 h1]at h2; cases h2) h1 h2 hp
theorem Rises.nodup{l:List Pin}(h:Rises l):(l.map (·.name)).Nodup:=by
 rw[fe,fy]
 exact h.imp λh=>Znu h
def isN(n:ByteArray)(q:Pin):Bool:=decide (q.name=n)
def tells(env:List Pin)(n:ByteArray):Option Ver:=(env.find? (isN n)).map (·.v)
theorem Zu6{env:List Pin}{n:ByteArray}{v:Ver}(h:tells env n=some v):⟨n,v⟩∈env:=by
 unfold tells at h
 cases hf:env.find? (isN n)with
 |none=>rw[hf]at h; cases h
 |some q=>
  rw[hf]at h
  simp only[gv,cw]at h
  have h1:=js hf
  simp only[isN,decide_eq_true_eq]at h1
  have h2:=ic hf
  obtain⟨a,b⟩:=q
  simp only at h h1
  subst h; subst h1; exact h2
theorem Zzq{l:List Pin}{n:ByteArray}(h:tells l n=none): ∀q∈l,q.name≠n:=by
 unfold tells at h
 simp only[Option.map_eq_none_iff]at h
 intro q hq
 simpa[isN]using gn.1 h q hq
section
variable (get:ByteArray→Ver→Option Pack) (over:List Dep) (env:List Pin)
def Zcl:List Dep→List Pin→Option (List Pin)
 | [],out=>some out
 |d::l,out=>match tells env d.name with
  |none=>none
  |some v=>if Zdp d.range v then Zcl l (if out.any (isN d.name)then out else out++ [⟨d.name,v⟩])else none
def Zj8(p:Pin):Nat→Nat→List Pin→Option (List Pin)
 |0,_,_=>none
 |f+1,i,out=>match(p::out)[i]? with
  |none=>some out
  |some q=>match get q.name q.v with
   |none=>none
   |some x=>match Zcl env (Zc5 over x.peers) out with
    |none=>none
    |some out'=>Zj8 p f (i+1) out'
def ctx(p:Pin):Option (List Pin):=(Zj8 get over env p (env.length+2) 0 []).map Zi8
def Zz3(q:Pin):Prop:=∃x,get q.name q.v=some x∧ ∀d∈Zc5 over x.peers,∃v,tells env d.name=some v∧Zdp d.range v=true
def Asks(q r:Pin):Prop:=∃x d,get q.name q.v=some x∧d∈Zc5 over x.peers∧r.name=d.name∧tells env d.name=some r.v
inductive Reach (p:Pin):Pin→Prop
 |one {r:Pin}:Asks get over env p r→Reach p r
 |more {q r:Pin}:Reach p q→Asks get over env q r→Reach p r
structure CtxI(p:Pin)(i:Nat)(out:List Pin):Prop where
 names:(out.map (·.name)).Nodup
 told: ∀r∈out,tells env r.name=some r.v
 reach: ∀r∈out,Reach get over env p r
 le:i≤out.length+1
 stands: ∀(k:Nat) q,k<i→(p::out)[k]? =some q→Zz3 get over env q
 asks: ∀(k:Nat) q,k<i→(p::out)[k]? =some q→ ∀r,Asks get over env q r→r∈out
end
section
variable {get:ByteArray→Ver→Option Pack} {over:List Dep} {env:List Pin} {p:Pin}
theorem Znw{out0:List Pin}: ∀{l:List Dep} {out out':List Pin},Zcl env l out=some out'→(out.map (·.name)).Nodup→(∀r∈out,tells env r.name=some r.v)→
  (out'.map (·.name)).Nodup∧(∀r∈out',tells env r.name=some r.v)∧(∃t,out'=out++t)∧(∀d∈l,∃v,tells env d.name=some v∧Zdp d.range v=true∧(⟨d.name,v⟩:Pin)∈out')∧ ∀r∈out',r∈out∨ ∃d∈l,r.name=d.name
 | [],out,out',h,hn,ht=>by
  simp only[Zcl,cw]at h
  subst h
  exact⟨hn,ht,⟨[],by simp⟩,(λd h=>by cases h),λr h=>.inl h⟩
 |d::l,out,out',h,hn,ht=>by
  unfold Zcl at h
  cases hv:tells env d.name with
  |none=>rw[hv]at h; cases h
  |some v=>
   rw[hv]at h
   simp only at h
   split at h
   ·rename_i a4
    have key:(((if out.any (isN d.name)then out else out++ [⟨d.name,v⟩]):List Pin).map (·.name)).Nodup∧(∀r∈(if out.any (isN d.name)then out else out++ [⟨d.name,v⟩]:List Pin),tells env r.name=some r.v)∧(∃t,(if out.any (isN d.name)then out else out++ [⟨d.name,v⟩]:List Pin)=out++t)∧(⟨d.name,v⟩:Pin)∈(if out.any (isN d.name)then out else out++ [⟨d.name,v⟩]:List Pin)∧ ∀r∈(if out.any (isN d.name)then out else out++ [⟨d.name,v⟩]:List Pin),r∈out∨r.name=d.name:=by
     split
     ·rename_i ha
      obtain⟨q,hq,he⟩:=ir.1 ha
      simp only[isN,decide_eq_true_eq]at he
      have h1:=ht q hq
      rw[he,hv,cw]at h1
      refine⟨hn,ht,⟨[],by simp⟩,?_,λr h=>.inl h⟩
      obtain⟨a,b⟩:=q
      simp only at he h1
      subst he; subst h1; exact hq
     ·rename_i ha
      have a0: ∀q∈out,q.name≠d.name:=by simpa[isN]using ha
      refine⟨?_,?_,⟨_,rfl⟩,by simp,?_⟩
      ·rw[ec,gi]
       refine⟨hn,by simp,λa h1 b h2=>?_⟩
       obtain⟨q,hq,rfl⟩:=fh.1 h1
       simp at h2; subst h2
       exact a0 q hq
      ·intro r hr
       rcases dj.1 hr with hr|hr
       ·exact ht r hr
       ·simp at hr; subst hr; exact hv
      ·intro r hr
       rcases dj.1 hr with hr|hr
       ·exact .inl hr
       ·simp at hr; subst hr; exact .inr rfl
    obtain⟨k1,k2,⟨t,k3⟩,k4,k5⟩:=key
    obtain⟨r1,r2,⟨t',r3⟩,r4,r5⟩:=Znw (out0:=out0) h k1 k2
    refine⟨r1,r2,⟨t++t',by rw[r3,k3,cc]⟩,λe he=>?_,λr hr=>?_⟩
    ·rcases du.1 he with rfl|he
     ·exact⟨v,hv,a4,by rw[r3]; exact gb _ k4⟩
     ·exact r4 e he
    ·rcases r5 r hr with h1|⟨e,he,h1⟩
     ·rcases k5 r h1 with h2|h2
      ·exact .inl h2
      ·exact .inr ⟨d,.head _,h2⟩
     ·exact .inr ⟨e,.tail _ he,h1⟩
   ·cases h
theorem Zor{α:Type}: ∀{l m:List α},l.Nodup→(∀x∈l,x∈m)→l.length≤m.length
 | [],_,_,_=>eh _
 |a::r,m,hn,hs=>by
  obtain⟨h1,h2⟩:=lj.1 hn
  obtain⟨s,t,rfl⟩:=List.append_of_mem (hs a (.head _))
  have:=Zor (l:=r) (m:=s++t) h2 λx hx=>by
   rcases dj.1 (hs x (.tail _ hx))with h|h
   ·exact gb _ h
   ·rcases du.1 h with rfl|h
    ·exact absurd hx h1
    ·exact ii _ h
  simp only[br,dq]at this ⊢; omega
theorem Z4w{out:List Pin}(hn:(out.map (·.name)).Nodup)(ht: ∀r∈out,tells env r.name=some r.v):out.length≤env.length:=by
 have:=Zor (m:=env.map (·.name)) hn λn h=>by
  obtain⟨r,hr,rfl⟩:=fh.1 h
  have:=Zu6 (ht r hr)
  exact fp (f:=(·.name)) this
 simpa using this
theorem CtxI.zero:CtxI get over env p 0 []:=⟨by simp,by simp,by simp,by simp,λk q h=>by omega,λk q h=>by omega⟩
theorem CtxI.next{out out':List Pin}{q:Pin}{x:Pack}(h:CtxI get over env p i out)(hq:(p::out)[i]? =some q)(hx:get q.name q.v=some x)(hs:Zcl env (Zc5 over x.peers) out=some out'):CtxI get over env p (i+1) out':=by
 obtain⟨r1,r2,⟨t,rfl⟩,r4,r5⟩:=Znw (out0:=[]) hs h.names h.told
 have a8:i<out.length+1:=by have:=(ce.1 hq).1; simpa using this
 have a0: ∀k q',k<i+1→(p::(out++t))[k]? =some q'→(p::out)[k]? =some q':=λk q' hk h=>by
  rw[←dz,dt (by simp; omega)]at h; exact h
 have a7:Zz3 get over env q:=⟨x,hx,λd hd=>let⟨v,a,b,_⟩:=r4 d hd;⟨v,a,b⟩⟩
 have has: ∀r,Asks get over env q r→r∈out++t:=λr ⟨y,d,hy,hd,hr,hv⟩=>by
  rw[hx,cw]at hy
  subst hy
  obtain⟨v,a,_,b⟩:=r4 d hd
  rw[hv,cw]at a
  obtain⟨n,u⟩:=r
  simp only at hr a; subst hr; subst a; exact b
 have a6:q=p∨Reach get over env p q:=by
  cases i with
  |zero=>simp at hq; exact .inl hq.symm
  |succ j=>exact .inr (h.reach q (by rw[lu]at hq; exact ez hq))
 refine⟨r1,r2,λr hr=>?_,by simp; omega,λk q' hk a4=>?_,λk q' hk a4 r ha=>?_⟩
 ·rcases r5 r hr with hr|⟨d,hd,hn⟩
  ·exact h.reach r hr
  ·have ha:Asks get over env q r:=⟨x,d,hx,hd,hn,by rw[←hn]; exact r2 r hr⟩
   rcases a6 with rfl|a6
   ·exact .one ha
   ·exact .more a6 ha
 ·rcases dn.1 hk with a5|rfl
  ·exact h.stands k q' a5 (a0 k q' hk a4)
  ·have:=a0 k q' hk a4
   rw[hq,cw]at this
   subst this; exact a7
 ·rcases dn.1 hk with a5|rfl
  ·exact gb _ (h.asks k q' a5 (a0 k q' hk a4) r ha)
  ·have:=a0 k q' hk a4
   rw[hq,cw]at this
   subst this; exact has r ha
theorem CtxI.len{out:List Pin}(h:CtxI get over env p i out):out.length≤env.length:=Z4w h.names h.told
theorem Zm6: ∀(f i:Nat) (out a:List Pin),CtxI get over env p i out→Zj8 get over env p f i out=some a→CtxI get over env p (a.length+1) a
 |0,_,_,_,_,h=>by cases h
 |f+1,i,out,a,hI,h=>by
  unfold Zj8 at h
  cases hq:(p::out)[i]? with
  |none=>
   rw[hq]at h
   simp only[cw]at h
   subst h
   have:i=out.length+1:=by
    have h1:=List.getElem?_eq_none_iff.1 hq
    have h2:=hI.le
    simp at h1; omega
   rw[←this]; exact hI
  |some q=>
   rw[hq]at h
   simp only at h
   cases hx:get q.name q.v with
   |none=>rw[hx]at h; cases h
   |some x=>
    rw[hx]at h
    simp only at h
    cases hs:Zcl env (Zc5 over x.peers) out with
    |none=>rw[hs]at h; cases h
    |some a0=>
     rw[hs]at h
     exact Zm6 f (i+1) a0 a (hI.next hq hx hs) h
theorem Zyh{out:List Pin}{q:Pin}(hq:(p::out)[i]? =some q)(hg:get q.name q.v=none):Zj8 get over env p (f+1) i out=none:=by
 rw[Zj8,hq]; simp only[hg]
theorem Zyf{out:List Pin}{q:Pin}{y:Pack}(hq:(p::out)[i]? =some q)(hg:get q.name q.v=some y)(hs:Zcl env (Zc5 over y.peers) out=none):Zj8 get over env p (f+1) i out=none:=by
 rw[Zj8,hq]; simp only[hg,hs]
theorem Zyg{out out':List Pin}{q:Pin}{y:Pack}(hq:(p::out)[i]? =some q)(hg:get q.name q.v=some y)(hs:Zcl env (Zc5 over y.peers) out=some out'):Zj8 get over env p (f+1) i out=Zj8 get over env p f (i+1) out':=by
 rw[Zj8,hq]; simp only[hg,hs]
theorem Z0j{out:List Pin}(hq:(p::out)[i]? =none):Zj8 get over env p (f+1) i out=some out:=by
 rw[Zj8,hq]
theorem Zte{d:Dep}{l:List Dep}{out:List Pin}(h:tells env d.name=none):Zcl env (d::l) out=none:=by
 rw[Zcl,h]
theorem Zyi{d:Dep}{l:List Dep}{out:List Pin}{v:Ver}(h:tells env d.name=some v)(a0:Zdp d.range v=false):Zcl env (d::l) out=none:=by
 rw[Zcl,h]; simp[a0]
theorem Zvp{d:Dep}{l:List Dep}{out:List Pin}{v:Ver}(h:tells env d.name=some v)(a0:Zdp d.range v=true)(ho:out.any (isN d.name)=true):Zcl env (d::l) out=Zcl env l out:=by
 rw[Zcl,h]; simp[a0,ho]
theorem Zvo{d:Dep}{l:List Dep}{out:List Pin}{v:Ver}(h:tells env d.name=some v)(a0:Zdp d.range v=true)(ho:out.any (isN d.name)=false):Zcl env (d::l) out=Zcl env l (out++ [⟨d.name,v⟩]):=by
 rw[Zcl,h]; simp only[a0,ho,if_true,jf,if_false]
theorem Zr7{a:List Pin}(h:ctx get over env p=some a):Rises a∧(∀r,r∈a↔Reach get over env p r)∧(∀q,(q=p∨q∈a)→Zz3 get over env q)∧ ∀r∈a,tells env r.name=some r.v:=by
 unfold ctx at h
 cases hg:Zj8 get over env p (env.length+2) 0 []with
 |none=>rw[hg]at h; cases h
 |some b=>
  rw[hg]at h
  simp only[gv,cw]at h
  subst h
  have hI:=Zm6 _ _ _ _ CtxI.zero hg
  have hm: ∀r,r∈Zi8 b↔r∈b:=λr=>(Zes b).mem_iff
  have a0: ∀q,(q=p∨q∈b)→ ∃k,k<b.length+1∧(p::b)[k]? =some q:=λq hq=>by
   rcases hq with rfl|hq
   ·exact⟨0,oM,rfl⟩
   ·obtain⟨k,hk,he⟩:=cy.1 hq
    exact⟨k+1,oM,by rw[lu,bq hk,he]⟩
  refine⟨Zlw hI.names,λr=>⟨λhr=>hI.reach r ((hm r).1 hr),λhr=>(hm r).2 ?_⟩,λq hq=>?_,λr hr=>hI.told r ((hm r).1 hr)⟩
  ·have key: ∀r,Reach get over env p r→r∈b:=λr hr=>by
    induction hr with
    |one ha=>obtain⟨k,hk,he⟩:=a0 p (.inl rfl); exact hI.asks k _ hk he _ ha
    |more _ ha ih=>obtain⟨k,hk,he⟩:=a0 _ (.inr ih); exact hI.asks k _ hk he _ ha
   exact key r hr
  ·obtain⟨k,hk,he⟩:=a0 q (hq.imp id (hm q).1)
   exact hI.stands k q hk he
end
end Go.Hal
namespace Go.Hal
theorem r03rank_se{v:Ver}{R:Int→World→Prop}(hR: ∀w',Ext w w'→R v.rank w'):SE.Zax v.ma v.mi v.pa w R:=by
 unfold SE.Zax
 refine newS.intro λ_ _ _ hb _ _=> ?_
 refine⟨_,_,_,lD,?_⟩
 exact SE.Zdv.go (r02Rank_se λw' hx=>⟨_,_,rfl,hR _ xT⟩)
def Zn6(x:Span):Bool:=x.lo.may&&x.hi.may&&decide (x.lo.rank≤x.hi.rank)
def Zf6:Int→List Span→Int
 |m,[]=>m
 |_,y::r=>Zf6 (y.hi.rank+2) r
theorem Zux(l:List Span): ∀(m:Int) (x:Span),Zcq m (l++ [x])=(Zcq m l&&(Zn6 x&&decide (Zf6 m l≤x.lo.rank))):=by
 induction l with
 |nil=>intro m x; simp only[em,Zcq,Zn6,Zf6]; cases x.lo.may<;>cases x.hi.may<;>by_cases h1:m≤x.lo.rank<;>by_cases h2:x.lo.rank≤x.hi.rank<;>simp[h1,h2]
 |cons y r ih=>
  intro m x
  rw[dz,Zcq,Zcq,ih]
  exact(kw ..).symm
theorem Zn9(l:List Span): ∀(m:Int) (x:Span),Zf6 m (l++ [x])=x.hi.rank+2:=by
 induction l with
 |nil=>intro m x; rfl
 |cons y r ih=>intro m x; exact ih _ x
theorem Zw1{l k:List Span}{m:Int}(h:Zcq m (l++k)=true):Zcq m l=true:=by
 induction l generalizing m with
 |nil=>rfl
 |cons y r ih=>
  rw[dz,Zcq]at h
  rw[Zcq]
  simp only[bx]at h ⊢
  exact⟨h.1,ih h.2⟩
theorem Zir{l:List Span}(h:Zcq 0 (l.take i)=false):Zaa l=false:=by
 unfold Zaa
 cases hg:Zcq 0 l
 ·simp
 ·rw[←dc i l]at hg
  rw[Zw1 hg]at h; cases h
theorem Zro{l:List Span}(hn:n<l.length)(hI:Zcq 0 (l.take n)=true):Zcq 0 (l.take (n+1))=(Zn6 l[n]&&decide (Zf6 0 (l.take n)≤l[n].lo.rank)):=by
 rw[bu hn,Zux,hI,dw]
theorem Zp3{l:List Span}(h1:l.length≤64)(h2:Zcq 0 l=true):Zaa l=true:=by simp[Zaa,h1,h2]
theorem spanMay_se{l:List Span}(hs:SlR spanE w S s l)(hR: ∀w',Ext w w'→R (Zaa l) w'):SE.Zij s w R:=by
 unfold SE.Zij
 have hl:=hs.len
 refine⟨λh=>?_,λh=>?_⟩
 ·have:Zaa l=false:=by unfold Zaa; rw[decide_eq_false oM]; rfl
  rw[←this]; exact hR _ xR
 have a5:l.length≤64:=oM
 refine loop2.up hs.max (λm i w'=>Ext w w'∧m=Zf6 0 (l.take i)∧Zcq 0 (l.take i)=true) ⟨Ext.refl _,rfl,rfl⟩ λm i w1 b0 hi ⟨x1,hm,hI⟩ hn=>⟨λa6=>?_,λa9=>?_⟩
 ·have a0:i<l.length:=oM
  obtain⟨ad,ha,_,hc⟩:=Zll hs a0
  have a7:=Zro a0 hI
  refine⟨ad,⟨ha,oM,a6⟩,_,_,_,_,_,_,hc _ xT,newS.intro λa w2 x2 hb a8 _=>stw0.intro hb sI λw3 b3 _ a4=>?_⟩
  have x3:Ext w1 w3:=b3.ext x2 oM
  refine⟨_,_,_,a4.at0 xR rfl,SE.Zg6.go (Zj1 (v:=l[i].lo) λw4 x4=>⟨_,_,rfl,?_⟩)⟩
  refine⟨_,_,_,a4.at1 xT rfl,SE.Zg6.go (Zj1 (v:=l[i].hi) λw5 x5=>⟨_,_,rfl,bound (bound (bound ?_))⟩)⟩
  have e:((((!l[i].lo.may)||(!l[i].hi.may))||decide (l[i].lo.rank<m))||decide (l[i].hi.rank<l[i].lo.rank))= !Zcq 0 (l.take (i+1)):=by
   rw[a7,hm,Zn6]
   have e1:decide (l[i].lo.rank<Zf6 0 (l.take i))= !decide (Zf6 0 (l.take i)≤l[i].lo.rank):=by rw[←decide_not,decide_eq_decide]; omega
   have e2:decide (l[i].hi.rank<l[i].lo.rank)= !decide (l[i].lo.rank≤l[i].hi.rank):=by rw[←decide_not,decide_eq_decide]; omega
   rw[e1,e2]
   cases l[i].lo.may<;>cases l[i].hi.may<;>cases decide (Zf6 0 (l.take i)≤l[i].lo.rank)<;>cases decide (l[i].lo.rank≤l[i].hi.rank)<;>rfl
  rw[e]
  have hr:=Ver.rank_le (v:=l[i].hi)
  rw[Zc (x:=l[i].hi.rank+2) oM oM]
  refine⟨λh=>?_,λh=>hn a0 _ _ ⟨xT,?_,by simpa using h⟩⟩
  ·rw[←Zir (i:=i+1) (by simpa using h)]; exact hR _ xT
  ·rw[bu a0,Zn9]
 ·have:i=l.length:=oM
  rw[this,cu]at hI
  rw[←Zp3 a5 hI]; exact hR _ xT
theorem Zw0{l:List Span}(hn:n+1<l.length):Zf6 0 (l.take (n+1))=l[n].hi.rank+2:=by
 rw[bu oM,Zn9]
theorem r03May_se{l:List Span}(hs:SlR spanE w S s l)(hR: ∀w',Ext w w'→R (Zaa l) w'):SE.Zc8 s w R:=by
 unfold SE.Zc8
 have hl:=hs.len
 refine⟨λh=>?_,λh=>?_⟩
 ·have:Zaa l=false:=by unfold Zaa; rw[decide_eq_false oM]; rfl
  rw[←this]; exact hR _ xR
 have b2:l.length≤64:=oM
 refine loop1.up hs.max (λi w'=>Ext w w'∧Zcq 0 (l.take i)=true) ⟨Ext.refl _,rfl⟩ λi w1 c2 hi ⟨x1,hI⟩ hn=>⟨λb6=>bnd.drew λw2 x2=>?_,λc1=>?_⟩
 ·have a6:i<l.length:=oM
  obtain⟨ad,ha,_,hc⟩:=Zll hs a6
  have b0:=Zro a6 hI
  have a4:s.a=some ad∧(0:Int)≤(i:Int)∧(i:Int)<(s.len:Int):=⟨ha,oM,b6⟩
  refine⟨ad,a4,_,_,_,(hc _ xT).pre rfl,SE.Zbt.go (r02May_se λw3 x3=>⟨_,rfl,bound ?_⟩)⟩
  refine⟨ad,λ_=>a4,_,_,_,λ_=>(hc _ xT).mid rfl,gCall.intro l[i].hi.may (λ_ q hq=>SE.Zbt.go (r02May_se λw' hx=>⟨_,rfl,hq _ hx⟩)) λt w4 x4 ht=>bound ?_⟩
  refine⟨ad,λ_=>a4,_,_,_,λ_=>(hc _ xT).pre rfl,ad,λ_=>a4,_,_,_,λ_=>(hc _ xT).mid rfl,?_⟩
  refine gCall.intro l[i].lo.rank (λ_ q hq=>callX.intro (SE.Zax.go (r03rank_se λw' hx=>⟨hx,_,rfl,hq _ hx⟩))) λt2 w5 x5 a7=>?_
  refine gCall.intro l[i].hi.rank (λ_ q hq=>SE.Zax.go (r03rank_se λw' hx=>⟨_,rfl,hq _ hx⟩)) λt3 w6 x6 a8=>?_
  have e:(((!l[i].lo.may)||(!t))||decide (t3<t2))= !Zn6 l[i]:=by
   unfold Zn6
   cases h1:l[i].lo.may
   ·rfl
   ·rw[h1]at ht a7 a8
    rw[ht rfl]
    rw[ht rfl]at a7 a8
    cases h2:l[i].hi.may
    ·rfl
    ·rw[h2]at a7 a8
     rw[a7 rfl,a8 rfl]
     have e2:decide (l[i].hi.rank<l[i].lo.rank)= !decide (l[i].lo.rank≤l[i].hi.rank):=by rw[←decide_not,decide_eq_decide]; omega
     rw[e2]; cases decide (l[i].lo.rank≤l[i].hi.rank)<;>rfl
  rw[e]
  refine⟨λh=>?_,λh=>bnd.drew λw7 x7=>bound ?_⟩
  ·have:Zcq 0 (l.take (i+1))=false:=by
    rw[b0]
    have:Zn6 l[i]=false:=by simpa using h
    rw[this]; rfl
   rw[←Zir this]; exact hR _ xT
  have b7:Zn6 l[i]=true:=by simpa using h
  rw[b7,dw]at b0
  have a9:(0:Int)<i→ ∃h:i - 1<l.length,Za ((i:Int) - 1)=((i - 1:Nat):Int):=λh0=>⟨oM,by rw[Zc oM (by have:=hs.max; rw[Zd]at this; omega)]; omega⟩
  have a5: ∀h0:0<i,Zf6 0 (l.take i)=(l[i - 1]'oM).hi.rank+2:=λh0=>by
   have:=Zw0 (l:=l) (n:=i - 1) oM
   rw[←this]; congr 2; omega
  have hd: ∃(a0:Addr) (u1 u2 u3:Int),(decide ((0:Int)<(i:Int))=true→(s.a=some a0∧(0:Int)≤Za ((i:Int) - 1)∧Za ((i:Int) - 1)<(s.len:Int))∧ldc w7 ((a0.add ((Za ((i:Int) - 1)).toNat*6)).add 3) [.int .i64 u1,.int .i64 u2,.int .i64 u3]∧(⟨u1,u2,u3⟩:Ver).rank=Zf6 0 (l.take i) - 2):=by
   by_cases h0:0<i
   ·obtain⟨hp,ew⟩:=a9 oM
    obtain⟨b1,b3,_,b4⟩:=Zll hs hp
    refine⟨b1,_,_,_,λ_=>⟨by rw[ew]; exact⟨b3,oM,oM⟩,by rw[ew]; exact(b4 _ xT).mid rfl,?_⟩⟩
    rw[a5 h0]; show(l[i - 1]'hp).hi.rank=_; omega
   ·exact⟨ad,0,0,0,λh=>by simp at h; omega⟩
  obtain⟨a0,u1,u2,u3,hu⟩:=hd
  refine⟨ad,λ_=>a4,_,_,_,λ_=>(hc _ xT).pre rfl,a0,λhb=>(hu hb).1,u1,u2,u3,λhb=>(hu hb).2.1,?_⟩
  refine gCall.intro l[i].lo.rank (λ_ q hq=>callX.intro (SE.Zax.go (r03rank_se λw' hx=>⟨hx,_,rfl,hq _ hx⟩))) λt4 w8 x8 b8=>?_
  refine gCall.intro (Zf6 0 (l.take i) - 2) (λhb q hq=>SE.Zax.go (r03rank_se (v:=⟨u1,u2,u3⟩) λw' hx=>⟨_,rfl,by rw[(hu hb).2.2]; exact hq _ hx⟩)) λt5 w9 x9 b9=>?_
  have e2:(decide ((0:Int)<(i:Int))&&decide (t4≤Za (t5+1)))= !Zcq 0 (l.take (i+1)):=by
   rw[b0]
   by_cases h0:0<i
   ·have hb:decide ((0:Int)<(i:Int))=true:=by simpa using h0
    rw[b8 hb,b9 hb,hb,dw]
    have h1:=a5 h0
    have h2:=Ver.rank_le (v:=l[i - 1].hi)
    rw[Zc oM oM,←decide_not,decide_eq_decide]; omega
   ·have hb:decide ((0:Int)<(i:Int))=false:=by simp; omega
    have b5:i=0:=oM
    subst b5
    have:=Ver.rank_le (v:=l[0].lo)
    rw[hb,Bool.false_and,List.take_zero,Zf6,decide_eq_true oM]; rfl
  rw[e2]
  refine⟨λh=>?_,λh=>hn a6 _ ⟨xT,by simpa using h⟩⟩
  rw[←Zir (i:=i+1) (by simpa using h)]; exact hR _ xT
 ·have:i=l.length:=oM
  rw[this,cu]at hI
  rw[←Zp3 b2 hI]; exact hR _ xT
end Go.Hal
namespace Go.Hal
def idxI{α:Type}(p:α→Bool)(l:List α):Int:=match l.findIdx? p with|some i=>i|none=>-1
theorem Zjo{α:Type}{p:α→Bool}{l:List α}(hn:n<l.length)(h0:(l.take n).any p=false)(h:p l[n]=true):idxI p l=n:=by
 unfold idxI
 have:l.findIdx? p=some n:=by
  rw[ie]
  refine⟨hn,h,λj hj=>?_⟩
  have hm:l[j]∈l.take n:=by
   rw[List.mem_take_iff_getElem]
   exact⟨j,oM,rfl⟩
  have:=ij.1 h0 _ hm
  simpa using this
 rw[this]
theorem Zgv{α:Type}{p:α→Bool}{l:List α}(h0:l.any p=false):idxI p l= -1:=by
 unfold idxI
 have:l.findIdx? p=none:=by
  rw[je]
  intro x hx
  have:=ij.1 h0 x hx
  simpa using this
 rw[this]
theorem Zk5{α:Type}{p:α→Bool}{l:List α}:decide (0≤idxI p l)=l.any p:=by
 cases h:l.any p
 ·rw[Zgv h]; rfl
 ·obtain⟨x,hx,hp⟩:=ir.1 h
  unfold idxI
  cases hf:l.findIdx? p with
  |none=>rw[je]at hf; rw[hf x hx]at hp; cases hp
  |some i=>simp
theorem Zdm{α:Type}{p:α→Bool}{l:List α}(hn:n<l.length)(h0:(l.take n).any p=false):(l.take (n+1)).any p=p l[n]:=by
 rw[bu hn,List.any_append,h0]; simp
def Zve{α:Type}(f:Value)(enc:α→Value)(p:α→Bool)(l:List α)(w:World):Prop:=
 ∀x∈l,∀w' (k:Value→World→Prop),Ext w w'→(∀w'',Ext w' w''→k (.bool (p x)) w'')→callV prog f [enc x] w' k
theorem idxSpan_se{l:List Span}{f:Value}{p:Span→Bool}{R:Int→World→Prop}(hs:SlR spanE w S s l)(hf:Zve f (λx=>.agg #[.int .i64 x.lo.ma,.int .i64 x.lo.mi,.int .i64 x.lo.pa,.int .i64 x.hi.ma,.int .i64 x.hi.mi,.int .i64 x.hi.pa]) p l w)
  (hR: ∀w',Ext w w'→R (idxI p l) w'):SE.Zan s f w R:=by
 unfold SE.Zan
 have hl:=hs.len
 refine loop1.up hs.max (λi w'=>Ext w w'∧(l.take i).any p=false) ⟨Ext.refl _,rfl⟩ λi w1 a6 hi ⟨x1,hI⟩ hn=>⟨λa4=>?_,λa5=>?_⟩
 ·have a0:i<l.length:=oM
  obtain⟨ad,ha,_,hc⟩:=Zll hs a0
  refine⟨ad,⟨ha,oM,a4⟩,_,_,_,_,_,_,hc _ xT,hf _ (cj a0) _ _ x1 λw2 x2=>⟨_,rfl,λh=>?_,λh=>?_⟩⟩
  ·rw[←Zjo a0 hI h]; exact hR _ xT
  ·exact hn a0 _ ⟨xT,by rw[Zdm a0 hI]; exact h⟩
 ·have:i=l.length:=oM
  rw[this,cu]at hI
  rw[←Zgv hI]; exact hR _ xT
theorem Zye{l:List Span}{f:Value}{p:Span→Bool}(hs:SlR spanE w S s l)(hf:Zve f (λx=>.agg #[.int .i64 x.lo.ma,.int .i64 x.lo.mi,.int .i64 x.lo.pa,.int .i64 x.hi.ma,.int .i64 x.hi.mi,.int .i64 x.hi.pa]) p l w)
  (hR: ∀w',Ext w w'→R (l.any p) w'):SE.Z8 s f w R:=by
 unfold SE.Z8
 exact SE.Zan.go (idxSpan_se hs hf λw' hx=>⟨_,rfl,by rw[Zk5]; exact hR _ hx⟩)
theorem Zs9{x y z:Int}{R:Int→World→Prop}(hs:SlR intE w S s [x,y,z])(hR:R (or2 x (or2 y z)) w):SE.Zgi s w R:=
 Z3x hs (by
  have: [x,y,z].foldr or2 0=or2 x (or2 y z):=by
   show or2 x (or2 y (or2 z 0))=_
   have:or2 z 0=z:=by unfold or2; split<;>simp_all
   rw[this]
  rw[this]; exact hR)
theorem Zxd{l:List Int}(h:BoxAt w a (l.map (Value.int .i64)))(hl:l.length≤1000):SlR intE w (λb=>b=a.block) ⟨some a,l.length,l.length⟩ l:=
 ⟨rfl,df _,by show l.length≤maxLen; rw[Zd]; omega,by show l.length*8≤room; unfold room; omega,.inr ⟨a,rfl,rfl,λi x hx=>⟨_,⟨rfl,trivial⟩,by
  have:=h.ldc.sub i 1
  show ldc w (a.add (i*1)) [Value.int .i64 x]
  rw[Nat.mul_one]
  refine this.of rfl ?_
  obtain⟨hi,he⟩:=ce.1 hx
  rw[←List.map_drop,dm hi,he]; rfl⟩⟩⟩
theorem versCompare_se{a b:Ver}{R:Int→World→Prop}(hR: ∀w',Ext w w'→R (a.cmp b) w'):SE.Zdn a.ma a.mi a.pa b.ma b.mi b.pa w R:=by
 unfold SE.Zdn
 refine newS.intro λ_ _ _ hb _ _=>newS.intro λ_ _ _ a5 _ _=>bnd.drew λw3 x3=>?_
 refine⟨_,lD,?_⟩
 refine⟨_,lD,?_⟩
 refine⟨_,lD,?_⟩
 refine⟨_,lD,?_⟩
 refine⟨_,lD,?_⟩
 refine⟨_,lD,?_⟩
 refine callX.intro (SE.Zbn.go (cmpInt_se ⟨Ext.refl _,_,rfl,callX.intro (SE.Zbn.go (cmpInt_se ⟨Ext.refl _,_,rfl,SE.Zbn.go (cmpInt_se ⟨_,rfl,?_⟩)⟩))⟩))
 refine newS.intro λa4 w4 x4 a0 _ _=>SE.Zgi.go (Zs9 (Zxd (l:=[_,_,_]) a0 sI) ⟨_,rfl,?_⟩)
 exact hR _ xT
theorem Zzo{x:Span}{v:Ver}{c0:Addr}(hc:ldc w c0 v.c)(hR: ∀w',Ext w w'→R (decide (x.lo.cmp v≤0)&&decide (v.cmp x.hi≤0)) w'):SE.Zkv x.lo.ma x.lo.mi x.lo.pa x.hi.ma x.hi.mi x.hi.pa c0 w R:=by
 unfold SE.Zkv
 refine newS.intro λ_ w1 x1 hb _ _=> ?_
 refine⟨_,_,_,lD,?_⟩
 refine⟨v.ma,v.mi,v.pa,hc.ext x1,SE.Zdn.go (versCompare_se (a:=x.lo) (b:=v) λw2 x2=>⟨_,rfl,bound ⟨v.ma,v.mi,v.pa,λ_=>hc.ext xT,x.hi.ma,x.hi.mi,x.hi.pa,λ_=>hb.at1 xT rfl,?_⟩⟩)⟩
 refine gCall.intro (v.cmp x.hi) (λ_ q hq=>SE.Zdn.go (versCompare_se λw' hx=>⟨_,rfl,hq _ hx⟩)) λt w3 x3 ht=>?_
 have e:(decide (x.lo.cmp v≤0)&&decide (t≤0))=(decide (x.lo.cmp v≤0)&&decide (v.cmp x.hi≤0)):=by
  cases h:decide (x.lo.cmp v≤0)
  ·rfl
  ·rw[ht h]
 rw[e]; exact hR _ xT
theorem Z0t:Zfj prog 278:=enters_of func278 kR rfl
theorem Zp1{l:List Span}{v:Ver}(hs:SlR spanE w S s l)(hR: ∀w',Ext w w'→R (Zdp l v) w'):SE.Zlx s v.ma v.mi v.pa w R:=by
 unfold SE.Zlx
 refine newS.intro λa w1 x1 hb _ _=>SE.Zij.go (spanMay_se (hs.ext x1) λw2 x2=>⟨_,rfl,v.ma,v.mi,v.pa,λ_=>hb.at0 xT rfl,?_⟩)
 refine gCall.intro v.may (λ_ q hq=>SE.Zil.go (Zle (v:=v) λw' hx=>⟨_,rfl,hq _ hx⟩)) λt w3 x3 ht=>bound ?_
 have hf:Zve (.func (.func 278) #[] #[.pointer (some a)]) (λx:Span=>.agg #[.int .i64 x.lo.ma,.int .i64 x.lo.mi,.int .i64 x.lo.pa,.int .i64 x.hi.ma,.int .i64 x.hi.mi,.int .i64 x.hi.pa]) (λx=>decide (x.lo.cmp v≤0)&&decide (v.cmp x.hi≤0)) l w3:=by
  intro x _ w' k hx hk
  refine⟨_,_,rfl,Z0t,?_⟩
  exact SE.Zkv.go (Zzo (v:=v) (hb.at0 xT rfl) hk)
 refine gCall.intro (l.any _) (λ_ q hq=>SE.Z8.go (Zye (hs.ext xT) hf λw' hx=>⟨_,rfl,hq _ hx⟩)) λt2 w4 x4 a0=>?_
 have e:((Zaa l&&t)&&t2)=Zdp l v:=by
  unfold Zdp
  cases h:Zaa l
  ·rfl
  ·rw[h]at ht a0
   rw[ht rfl]at a0 ⊢
   cases h':v.may
   ·rfl
   ·rw[h']at a0
    rw[a0 rfl]
    show l.any _=l.any _
    have hm: ∀x∈l,x.lo.may=true∧x.hi.may=true:=by
     have: ∀(l:List Span) m,Zcq m l=true→ ∀x∈l,x.lo.may=true∧x.hi.may=true:=by
      intro l
      induction l with
      |nil=>intro m _ x hx; cases hx
      |cons y r ih=>
       intro m h x hx
       rw[Zcq]at h
       simp only[bx]at h
       rcases du.1 hx with rfl|hx
       ·exact⟨h.1.1.1.1,h.1.1.1.2⟩
       ·exact ih _ h.2 x hx
     unfold Zaa at h
     simp only[bx]at h
     exact this l 0 h.2
    rw[ep,ir,ir]
    constructor
    ·rintro⟨x,hx,hp⟩
     refine⟨x,hx,?_⟩
     simp only[bx,decide_eq_true_eq,Span.has]at hp ⊢
     rwa [Ver.cmp_rank (hm x hx).1 h',Ver.cmp_rank h' (hm x hx).2]at hp
    ·rintro⟨x,hx,hp⟩
     refine⟨x,hx,?_⟩
     simp only[bx,decide_eq_true_eq,Span.has]at hp ⊢
     rwa [Ver.cmp_rank (hm x hx).1 h',Ver.cmp_rank h' (hm x hx).2]
 rw[e]; exact hR _ xT
end Go.Hal
