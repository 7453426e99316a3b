/- Lemmas for the claim K21r: how the program's functions run, and what they answer; no condition but those that each theorem names. -/
import Derived.Maps.AppendAt
import Derived.WalkKit
import Derived.ProofKit
import Derived.OpenShut
import Derived.Deep.Slices
import Derived.ChangeCalls
import Derived.Deep.DeepHandedRow
import Derived.Test.YtdjiedhnoanbpaaGreatDoorProg
import Derived.Shelf.Strings.SlTrimAscii
import Derived.Shelf.Strings.OnBuilder
import Derived.Shelf.Strings.BuilderK
import Derived.Shelf.LaysM
import Derived.Shelf.Strconv.Itoa3
import Derived.Shelf.Small.Strs
import Derived.Ground.NamesProg
import Derived.Lib.ItoaNum
import Derived.Laws.BytesArg
import Derived.Test.YtdjiedhnoanbpaaGreatDoorCards
import Derived.Lib.LaidTab
import Derived.Stop.LaidErr
import Derived.MakeChecks
import Derived.SevenTiedAt
import Derived.Shelf.Abstract
import Derived.Test.YtdjiedhnoanbpaaGreatDoorK21rA0
import Derived.Test.YtdjiedhnoanbpaaGreatDoorK21rS0
import Derived.Test.YtdjiedhnoanbpaaGreatDoorK21rS1
import Derived.Test.YtdjiedhnoanbpaaGreatDoorK21rS2
import Derived.Test.YtdjiedhnoanbpaaGreatDoorK21rT
set_option linter.unusedVariables false
set_option linter.unusedSimpArgs false
set_option maxHeartbeats 16000000
namespace Go.Hal
open Go.Proofs.Tryz
open Go Go.RowKit
def Keep(S:Nat→Prop)(w w':World):Prop:=∀b,S b→b<w.heap.size→w'.heap[b]? =w.heap[b]?
theorem Ext.keep{w w':World}(h:Ext w w')(S:Nat→Prop):Keep S w w':=λ_ _ hb=>h.block hb
theorem Keep.cell{S:Nat→Prop}{w w':World}(h:Keep S w w'){a:Addr}{v:Value}(hs:S a.block)(hc:w.cell? a=some v):w'.cell? a=some v:=
 (World.cell?_of_block (h a.block hs (World.block_lt_of_cell? w a hc))).trans hc
theorem Ze5(a:Addr)(n:Nat):(a.add n).block=a.block:=by unfold Addr.add; split<;>rfl
theorem Zfi(a:Addr)(m n:Nat):(a.add m).add n=a.add (m+n):=by
 obtain⟨b,o,s⟩:=a
 unfold Addr.add
 by_cases hm:m=0<;>by_cases hn:n=0<;>simp[hm,hn]; omega
theorem add_zero(a:Addr):a.add 0=a:=rfl
theorem ldc.keep{S:Nat→Prop}{w w':World}{a:Addr}{cs:List Value}(h:ldc w a cs)(hs:S a.block)(hk:Keep S w w'):ldc w' a cs:=
 λj v hj=>hk.cell (by rw[Ze5]; exact hs) (h j v hj)
theorem ldc.sub{w:World}{a:Addr}{cs:List Value}(h:ldc w a cs)(k m:Nat):ldc w (a.add k) ((cs.drop k).take m):=λj v hj=>by
 rw[Zfi]
 refine h (k+j) v ?_
 rw[List.getElem?_take]at hj
 split at hj
 ·rw[List.getElem?_drop]at hj; exact hj
 ·cases hj
theorem ldc.of{w:World}{a a':Addr}{cs cs':List Value}(h:ldc w a cs)(ha:a'=a)(hc:cs'=cs):ldc w a' cs':=by subst ha hc; exact h
structure Enc(α:Type) where
 n:Nat
 bytes:Nat
 rep:World→(Nat→Prop)→α→List Value→Prop
 len: ∀{w S x cs},rep w S x cs→cs.length=n
 one: ∀{w S x cs},rep w S x cs→ ∀v∈cs,v.oneCell'=true
 mono: ∀{w S S' x cs},rep w S x cs→(∀b,S b→S' b)→rep w S' x cs
 keep: ∀{w w' S x cs},rep w S x cs→Keep S w w'→rep w' S x cs
def room:Nat:=140737489403904
def SlR{α:Type}(E:Enc α)(w:World)(S:Nat→Prop)(s:Sl)(l:List α):Prop:=
 s.len=l.length∧l.length≤s.cap∧s.cap≤maxLen∧l.length*E.bytes≤room∧
 (l= []∨ ∃ad,s.a=some ad∧S ad.block∧ ∀(i:Nat) (x:α),l[i]? =some x→ ∃cs,E.rep w S x cs∧ldc w (ad.add (i*E.n)) cs)
section
variable {α:Type} {E:Enc α} {w w':World} {S S':Nat→Prop} {s:Sl} {l:List α}
theorem SlR.len(h:SlR E w S s l):s.len=l.length:=h.1
theorem SlR.mono(h:SlR E w S s l)(hs: ∀b,S b→S' b):SlR E w S' s l:=
 ⟨h.1,h.2.1,h.2.2.1,h.2.2.2.1,h.2.2.2.2.imp id λ⟨ad,h1,h2,h3⟩=>⟨ad,h1,hs _ h2,λi x hx=>let⟨cs,h4,h5⟩:=h3 i x hx;⟨cs,E.mono h4 hs,h5⟩⟩⟩
theorem SlR.keep(h:SlR E w S s l)(hk:Keep S w w'):SlR E w' S s l:=
 ⟨h.1,h.2.1,h.2.2.1,h.2.2.2.1,h.2.2.2.2.imp id λ⟨ad,h1,h2,h3⟩=>⟨ad,h1,h2,λi x hx=>let⟨cs,h4,h5⟩:=h3 i x hx;⟨cs,E.keep h4 hk,h5.keep (by rw[Ze5]; exact h2) hk⟩⟩⟩
theorem SlR.ext(h:SlR E w S s l)(hx:Ext w w'):SlR E w' S s l:=h.keep (hx.keep S)
theorem SlR.nil(hS:True):SlR E w S Sl.nil ([]:List α):=⟨rfl,Nat.zero_le _,Nat.zero_le _,by simp,.inl rfl⟩
theorem SlR.get(h:SlR E w S s l){i:Nat}{x:α}(hx:l[i]? =some x): ∃ad cs,s.a=some ad∧S ad.block∧E.rep w S x cs∧ldc w (ad.add (i*E.n)) cs:=by
 rcases h.2.2.2.2 with h0|⟨ad,h1,h2,h3⟩
 ·subst h0; simp at hx
 ·obtain⟨cs,h4,h5⟩:=h3 i x hx
  exact⟨ad,cs,h1,h2,h4,h5⟩
end
def BoxAt(w:World)(a:Addr)(cs:List Value):Prop:=∃t,a.off=0∧a.spot=none∧w.heap[a.block]? =some (.cells cs.toArray t (0,0))
section
variable {w w':World} {a:Addr} {cs:List Value}
theorem BoxAt.lt(h:BoxAt w a cs):a.block<w.heap.size:=by obtain⟨t,_,_,h⟩:=h; exact lt_of_block h
theorem BoxAt.ldc(h:BoxAt w a cs):ldc w a cs:=λj v hj=>by
 obtain⟨t,ho,hs,hb⟩:=h
 obtain⟨b,o,s⟩:=a
 simp only at ho hs hb
 subst ho hs
 have:(Addr.add ⟨b,0,none⟩ j)=⟨b,j,none⟩:=by unfold Addr.add; split<;>simp_all
 rw[this]
 simp[World.cell?,hb,hj]
theorem BoxAt.ext(h:BoxAt w a cs)(hx:Ext w w'):BoxAt w' a cs:=by
 obtain⟨t,ho,hs,hb⟩:=h
 exact⟨t,ho,hs,(hx.block (lt_of_block hb)).trans hb⟩
theorem BoxAt.keep{S:Nat→Prop}(h:BoxAt w a cs)(hs:S a.block)(hx:Keep S w w'):BoxAt w' a cs:=by
 obtain⟨t,ho,hs',hb⟩:=h
 exact⟨t,ho,hs',(hx _ hs (lt_of_block hb)).trans hb⟩
end
theorem newS.intro{w:World}{cs:List Value}{t:TypeId}{k:Addr→World→Prop}(h: ∀a w',Ext w w'→BoxAt w' a cs→a.block=w.heap.size→w'.heap.size=w.heap.size+1→k a w'):newS w cs t k:=λa w' ha hw=>by
 subst ha hw
 refine h _ _ (Ext.alloc _ _) ⟨t,rfl,rfl,?_⟩ rfl sI
 exact heap_alloc_new w _
def But(g:Nat)(w w':World):Prop:=w.heap.size≤w'.heap.size∧w'.os=w.os∧w'.tape=w.tape∧w'.output=w.output∧ ∀b,b<w.heap.size→b≠g→w'.heap[b]? =w.heap[b]?
theorem But.keep{g:Nat}{w w':World}(h:But g w w'){S:Nat→Prop}(hs: ¬S g):Keep S w w':=λb hb hl=>h.2.2.2.2 b hl λe=>hs (e▸hb)
theorem But.below{g B:Nat}{w w':World}(h:But g w w')(hB:B≤w.heap.size)(hg:B≤g):Below B w w':=⟨h.2.1,h.2.2.1,h.2.2.2.1,h.1,λb hb=>h.2.2.2.2 b oM oM⟩
theorem But.box{g:Nat}{w w':World}{a:Addr}{cs:List Value}(h:But g w w')(hb:BoxAt w a cs)(hne:a.block≠g):BoxAt w' a cs:=hb.keep (S:=λb=>b≠g) hne (λb hb hl=>h.2.2.2.2 b hl hb)
theorem stw.intro{w:World}{a:Addr}{o:Nat}{old cs:List Value}{k:World→Prop}(hb:BoxAt w a old)(hl:o+cs.length≤old.length)
  (h: ∀w',But a.block w w'→w'.heap.size=w.heap.size→BoxAt w' a (old.take o++cs++old.drop (o+cs.length))→k w'):stw w (a.add o) cs k:=by
 obtain⟨t,ho,hs,hh⟩:=hb
 obtain⟨b,of,sp⟩:=a
 simp only at ho hs hh
 subst ho hs
 have ha:(Addr.add ⟨b,0,none⟩ o)=⟨b,o,none⟩:=by unfold Addr.add; split<;>simp_all
 rw[ha]
 refine⟨_,t,hh,rfl,by simpa using hl,h _ ⟨?_,rfl,rfl,rfl,λc hc hne=>setRow_other w b c _ hne⟩ ?_ ⟨t,rfl,rfl,?_⟩⟩
 ·simp[World.setRow]
 ·simp[World.setRow]
 ·rw[setRow_heap w b old.toArray _ t _ hh]
  simp[Zit]
end Go.Hal
namespace Go
open Go.RowKit Go.Hal
theorem lD{w:World}{a:Addr}{c:List Value}(h:ldc w a c:=by first|exact(BoxAt.at0 (by assumption) xT rfl)|exact(BoxAt.at1 (by assumption) xT rfl)):ldc w a c:=h
end Go
namespace Go.Hal
open Go.Proofs.Tryz
open Go Go.RowKit
theorem Zb:maxLen=9223372036854775807:=rfl
theorem Zc{x:Int}(h0: -9223372036854775808≤x)(h1:x≤9223372036854775807):Za x=x:=by
 simp only[Za,IntKind.wrap,IntKind.bits,IntKind.signed,Bool.true_and,decide_eq_true_eq]
 have e1:(2:Int)^(64 - 1)=9223372036854775808:=rfl
 have e2:(2:Int)^ 64=18446744073709551616:=rfl
 split<;>rename_i h<;>simp only[ge_iff_le,decide_eq_true_eq,e1,e2]at h ⊢ <;>omega
theorem Zfg{x:Int}{n:Nat}(h0:0≤x)(h1:x<n)(h2:n≤maxLen):Za (x+1)=x+1:=Zc oM (by rw[Zb]at h2; omega)
@[ext] structure Ver where
 ma:Int
 mi:Int
 pa:Int
 deriving DecidableEq
structure Pin where
 name:ByteArray
 v:Ver
 deriving DecidableEq
structure Span where
 lo:Ver
 hi:Ver
 deriving DecidableEq
structure Dep where
 name:ByteArray
 range:List Span
 deriving DecidableEq
structure Pack where
 name:ByteArray
 v:Ver
 deps:List Dep
 peers:List Dep
 opt:List Dep
 deriving DecidableEq
structure Mani where
 deps:List Dep
 dev:List Dep
 opt:List Dep
 over:List Dep
 deriving DecidableEq
structure Want where
 name:ByteArray
 kind:Int
 range:List Span
 deriving DecidableEq
def Ver.c(v:Ver):List Value:=[.int .i64 v.ma,.int .i64 v.mi,.int .i64 v.pa]
def Zo6{α:Type}(n bytes:Nat)(f:α→List Value)(ok:α→Prop)(hn: ∀x,(f x).length=n)(h1: ∀x,∀v∈f x,v.oneCell'=true):Enc α where
 n:=n
 bytes:=bytes
 rep:=λ_ _ x cs=>cs=f x∧ok x
 len:=λh=>by rw[h.1,hn]
 one:=λh=>by rw[h.1]; exact h1 _
 mono:=λh _=>h
 keep:=λh _=>h
def Str(s:ByteArray):Prop:=s.size≤maxLen
def intE:Enc Int:=Zo6 1 8 (λx=>[.int .i64 x]) (λ_=>True) (λ_=>rfl) (λ_ v hv=>by simp at hv; subst hv; rfl)
def verE:Enc Ver:=Zo6 3 24 Ver.c (λ_=>True) (λ_=>rfl) (λ_ v hv=>by simp[Ver.c]at hv; rcases hv with rfl|rfl|rfl<;>rfl)
def spanE:Enc Span:=Zo6 6 48 (λs=>s.lo.c++s.hi.c) (λ_=>True) (λ_=>rfl) (λ_ v hv=>by simp[Ver.c]at hv; rcases hv with rfl|rfl|rfl|rfl|rfl|rfl<;>rfl)
def pinE:Enc Pin:=Zo6 4 40 (λp=>.string p.name::p.v.c) (λp=>Str p.name) (λ_=>rfl) (λ_ v hv=>by simp[Ver.c]at hv; rcases hv with rfl|rfl|rfl|rfl<;>rfl)
def depE:Enc Dep where
 n:=2
 bytes:=40
 rep:=λw S d cs=>Str d.name∧ ∃s,cs= [.string d.name,s.v]∧SlR spanE w S s d.range
 len:=λ⟨_,s,h,_⟩=>by rw[h]; rfl
 one:=λ⟨_,s,h,_⟩ v hv=>by rw[h]at hv; simp[Sl.v]at hv; rcases hv with rfl|rfl<;>rfl
 mono:=λ⟨h0,s,h,hr⟩ hs=>⟨h0,s,h,hr.mono hs⟩
 keep:=λ⟨h0,s,h,hr⟩ hk=>⟨h0,s,h,hr.keep hk⟩
def packE:Enc Pack where
 n:=7
 bytes:=112
 rep:=λw S p cs=>Str p.name∧ ∃d e o,cs= .string p.name::p.v.c++ [Sl.v d,Sl.v e,Sl.v o]∧SlR depE w S d p.deps∧SlR depE w S e p.peers∧SlR depE w S o p.opt
 len:=λ⟨_,d,e,o,h,_⟩=>by rw[h]; rfl
 one:=λ⟨_,d,e,o,h,_⟩ v hv=>by rw[h]at hv; simp[Sl.v,Ver.c]at hv; rcases hv with rfl|rfl|rfl|rfl|rfl|rfl|rfl<;>rfl
 mono:=λ⟨h0,d,e,o,h,a,b,c⟩ hs=>⟨h0,d,e,o,h,a.mono hs,b.mono hs,c.mono hs⟩
 keep:=λ⟨h0,d,e,o,h,a,b,c⟩ hk=>⟨h0,d,e,o,h,a.keep hk,b.keep hk,c.keep hk⟩
def wantE:Enc Want where
 n:=3
 bytes:=48
 rep:=λw S d cs=>Str d.name∧ ∃s,cs= [.string d.name,.int .i64 d.kind,s.v]∧SlR spanE w S s d.range
 len:=λ⟨_,s,h,_⟩=>by rw[h]; rfl
 one:=λ⟨_,s,h,_⟩ v hv=>by rw[h]at hv; simp[Sl.v]at hv; rcases hv with rfl|rfl|rfl<;>rfl
 mono:=λ⟨h0,s,h,hr⟩ hs=>⟨h0,s,h,hr.mono hs⟩
 keep:=λ⟨h0,s,h,hr⟩ hk=>⟨h0,s,h,hr.keep hk⟩
theorem toList_data(a:ByteArray):a.toList=a.data.toList:=ByteArray.toList_eq a
theorem Zgk(a:ByteArray):a.data.toList.length=a.size:=by rw[Array.length_toList]; rfl
theorem Z6p{a:ByteArray}{i:Nat}(h:i<a.size):bAt a (i:Int)=((a.data.toList[i]'(by rw[Zgk]; exact h)).toNat:Int):=by
 rw[bAt,List.getD_eq_getElem?_getD,Int.toNat_natCast,List.getElem?_eq_getElem (by rw[Zgk]; exact h)]; rfl
theorem Zqn(p x y:List UInt8):Op.bytesLess (p++x) (p++y)=Op.bytesLess x y:=by
 induction p with
 |nil=>rfl
 |cons a p ih=>
  show(decide (a<a)||(a==a&&Op.bytesLess (p++x) (p++y)))=_
  rw[ih]
  simp
theorem Z4k{need old:Nat}(h:old<need):Builtin.nextslicecap need old=need∨Builtin.nextslicecap need old+2≤2*need:=by
 unfold Builtin.nextslicecap
 split
 ·exact .inl rfl
 ·right
  split
  ·omega
  ·rw[growBy_four]
   repeat' split
   all_goals omega
theorem Z4l{need old:Nat}(h:old<need):Builtin.nextslicecap need old≤need+(need+768)/4∨Builtin.nextslicecap need old≤512:=by
 unfold Builtin.nextslicecap
 split
 ·omega
 ·split
  ·omega
  ·rw[growBy_four]
   repeat' split
   all_goals omega
theorem Z1i{need old bytes:Nat}(h:old<need)(hb:need*bytes≤room):Builtin.nextslicecap need old*bytes≤281474976710656:=by
 unfold room at hb
 rcases Z4k h with h1|h1
 ·rw[h1]; omega
 ·by_cases hB:1048576≤bytes
  ·have h2:(Builtin.nextslicecap need old+2)*bytes≤2*need*bytes:=Nat.mul_le_mul_right _ h1
   rw[Nat.add_mul,Nat.mul_assoc]at h2
   omega
  ·rcases Z4l h with h3|h3
   ·have h4:4*Builtin.nextslicecap need old*bytes≤(5*need+768)*bytes:=Nat.mul_le_mul_right _ oM
    have e1:4*Builtin.nextslicecap need old*bytes=4*(Builtin.nextslicecap need old*bytes):=Nat.mul_assoc _ _ _
    have e2:(5*need+768)*bytes=5*(need*bytes)+768*bytes:=by rw[Nat.add_mul,Nat.mul_assoc]
    omega
   ·have h4:Builtin.nextslicecap need old*bytes≤512*bytes:=Nat.mul_le_mul_right _ h3
    omega
theorem Znk{P:Program}{w:World}{lo:Nat}{t ty e:TypeId}{i:TypeInfo}{z:Value}(ht:P.underlying t=some (.slice e))(hi:P.info? e=some i)(hz:i.zero=some z)(hzs:z.cells.size=i.size)(hsz:0<i.size)
  {v:Value} {n:Nat} {xs:List Value} (ho:w.ownsRow lo e i.size v n xs) {a:Addr} {m c:Nat} {news:List Value} (hl:news.length=m*i.size) (hn: ∀(j:Nat) (u:Value),news[j]? =some u→w.cell? (a.add j)=some u) (h1: ∀u∈news,u.oneCell'=true)
  (hm:n+m≤maxLen) (hb:(n+m)*i.bytes≤room) (hlo:lo≤w.heap.size):
  ∃v' w',(Builtin.append_ #[t,t] ty #[v,.slice (some a) m c]).run P w= .ok v' w'∧w'.ownsRow lo e i.size v' (n+m) (xs++news)∧w.grownBy w' v.ownBlock∧(v'.ownBlock=v.ownBlock∨v'.ownBlock=some w.heap.size):=by
 have hm':n+m≤9223372036854775807:=by rw[Zb]at hm; exact hm
 have hall:(xs++news).length=(n+m)*i.size:=by rw[List.length_append,ho.1,hl,Nat.add_mul]
 have fresh: ∀old:Nat,w.grownBy (w.drew.alloc (.cells (xs.toArray++news.toArray++Builtin.zeroCells z.cells (grownCap w (n+m) old e - (n+m))) e)) v.ownBlock∧
   (w.drew.alloc (.cells (xs.toArray++news.toArray++Builtin.zeroCells z.cells (grownCap w (n+m) old e - (n+m))) e)).ownsRow lo e i.size (.slice (some ⟨w.heap.size,0,none⟩) (n+m) (grownCap w (n+m) old e)) (n+m) (xs++news):=λold=>by
  have hc:=grownCap_ge w (n+m) old e
  refine⟨⟨rfl,rfl,rfl,by simp,λb hbl _=>heap_alloc_old w.drew _ hbl⟩,hall,.inr ⟨w.heap.size,_,_,rfl,hlo,heap_alloc_new w.drew _,hc,grownCap_le_maxLen w (n+m) old e hm,?_,?_⟩⟩
  ·have e1:(xs.toArray++news.toArray).size=(n+m)*i.size:=by simpa using hall
   rw[Array.size_append,e1,size_zeroCells,hzs,←Nat.add_mul]
   congr 1; omega
  ·have e2:(xs.toArray++news.toArray++Builtin.zeroCells z.cells (grownCap w (n+m) old e - (n+m))).toList=(xs++news)++(Builtin.zeroCells z.cells (grownCap w (n+m) old e - (n+m))).toList:=by simp
   rw[e2,←hall]; exact List.take_left
 rcases ho.2 with⟨rfl,rfl⟩|⟨g,cap,cur,rfl,hgl,hg,hnc,hcm,hcs,htk⟩
 ·obtain rfl:xs= []:=List.eq_nil_of_length_eq_zero (by simpa using ho.1)
  rcases Nat.eq_zero_or_pos m with rfl|hpos
  ·obtain rfl:news= []:=List.eq_nil_of_length_eq_zero (by simpa using hl)
   exact⟨.slice none 0 0,w,by simp[Builtin.append_,run_underlying ht,sizeOf,typeInfo,hi,Builtin.lenOf,Builtin.firstCells,loadCells,loadCellsFrom],World.ownsRow_nil w lo e i.size,⟨rfl,rfl,rfl,Nat.le_refl _,λ_ _ _=>rfl⟩,.inl rfl⟩
  ·have hr:=run_append_nil (P:=P) w t ty e i z ht hi hz a m c news hl hn hpos oM (by unfold room at hb; rw[Nat.zero_add]at hb; omega)
   have hf:=fresh 0
   simp only[Nat.zero_add,List.nil_append,Array.empty_append]at hf ⊢
   exact⟨_,_,hr,hf.2,hf.1,.inr rfl⟩
 ·by_cases hroom:n+m≤cap
  ·have hfit:n*i.size+news.length≤cur.size:=by rw[hl,hcs,←Nat.add_mul]; exact Nat.mul_le_mul_right _ hroom
   have hr:=run_append_room (P:=P) w t ty e i ht hi g n cap cur hg a m c news hl hn h1 hroom hfit
   refine⟨_,_,hr,⟨hall,.inr ⟨g,cap,_,rfl,hgl,setRow_heap w g cur _ e _ hg,hroom,hcm,?_,?_⟩⟩,⟨rfl,rfl,rfl,by simp,λb _ hne=>setRow_other w g b _ (λh=>hne (by rw[h]; rfl))⟩,.inl rfl⟩
   ·simp only[List.size_toArray,List.length_append,List.length_take,List.length_drop,Array.length_toList]; omega
   ·rw[htk,←hall]; exact List.take_left
  ·have hold: ∀(j:Nat) (u:Value),xs[j]? =some u→w.cell? ((⟨g,0,none⟩:Addr).add j)=some u:=ho.cells (g:=g) rfl
   have hr:=run_append_grow (P:=P) w t ty e i z ht hi hz ⟨g,0,none⟩ n cap xs ho.1 hold a m c news hl hn oM oM (Z1i oM hb)
   have hf:=fresh cap
   exact⟨_,_,hr,hf.2,hf.1,.inr rfl⟩
def ApT(P:Program)(t e:TypeId)(n bytes:Nat):Prop:=P.underlying t=some (.slice e)∧ ∃i z,P.info? e=some i∧i.zero=some z∧i.size=n∧i.bytes=bytes∧z.cells.size=n∧0<n
theorem Zhe{P:Program}{t e:TypeId}{n bytes:Nat}{z:Value}(h1:P.underlying t=some (.slice e))(h2:(P.info? e).map (λi=>(i.zero,i.size,i.bytes))=some (some z,n,bytes))(h3:z.cells.size=n)(h4:0<n):ApT P t e n bytes:=by
 cases hi:P.info? e with
 |none=>rw[hi]at h2; cases h2
 |some i=>
  rw[hi]at h2
  simp only[Option.map_some,Option.some.injEq,Prod.mk.injEq]at h2
  exact⟨h1,i,z,hi,h2.1,h2.2.1,h2.2.2,h3,h4⟩
structure OwnS{α:Type}(E:Enc α)(T:TypeId)(w:World)(lo:Nat)(S:Nat→Prop)(s:Sl)(l:List α):Prop where
 row: ∃css:List (List Value),w.ownsRow lo T E.n s.v s.len css.flatten∧css.length=l.length∧ ∀(i:Nat) (x:α),l[i]? =some x→ ∃cs,css[i]? =some cs∧E.rep w S x cs
 len:s.len=l.length
 lt: ∀b,S b→b<w.heap.size
 apart: ∀ad,s.a=some ad→ ¬S ad.block
section
variable {α:Type} {E:Enc α} {T:TypeId} {w w':World} {lo:Nat} {S S':Nat→Prop} {s:Sl} {l:List α}
theorem OwnS.nil(w:World)(lo:Nat):OwnS E T w lo (λ_=>False) Sl.nil ([]:List α):=
 ⟨⟨[],World.ownsRow_nil _ _ _ _,rfl,λi x h=>by simp at h⟩,rfl,λ_ h=>h.elim,λ_ h=>by cases h⟩
theorem OwnS.block(h:OwnS E T w lo S s l){ad:Addr}(ha:s.a=some ad):lo≤ad.block∧ad.block<w.heap.size∧ad=⟨ad.block,0,none⟩:=by
 obtain⟨css,ho,_⟩:=h.row
 have h1:=ho.lt ad.block (by simp[Value.ownBlock,Sl.v,ha])
 refine⟨h1.1,h1.2,?_⟩
 rcases ho.2 with⟨hv,_⟩|⟨g,cap,cur,hv,_⟩
 ·simp[Sl.v,ha]at hv
 ·simp[Sl.v,ha]at hv; rw[hv.1]
theorem OwnS.keep(h:OwnS E T w lo S s l)(hsz:w.heap.size≤w'.heap.size)(hk: ∀b,b<w.heap.size→(S b∨ ∃ad,s.a=some ad∧b=ad.block)→w'.heap[b]? =w.heap[b]?):OwnS E T w' lo S s l:=by
 obtain⟨css,ho,hl,hr⟩:=h.row
 refine⟨⟨css,⟨ho.1,?_⟩,hl,λi x hx=>let⟨cs,h1,h2⟩:=hr i x hx;⟨cs,h1,E.keep h2 λb hb hlt=>hk b hlt (.inl hb)⟩⟩,h.len,λb hb=>Nat.lt_of_lt_of_le (h.lt b hb) hsz,h.apart⟩
 rcases ho.2 with h0|⟨g,cap,cur,hv,h1,h2,h3⟩
 ·exact .inl h0
 ·refine .inr ⟨g,cap,cur,hv,h1,?_,h3⟩
  rw[hk g (lt_of_block h2) (.inr ⟨⟨g,0,none⟩,by simp[Sl.v]at hv; exact hv.1,rfl⟩)]
  exact h2
theorem OwnS.ext(h:OwnS E T w lo S s l)(hx:Ext w w'):OwnS E T w' lo S s l:=h.keep hx.size λb hb _=>hx.block hb
theorem OwnS.mono(h:OwnS E T w lo S s l)(hs: ∀b,S b→S' b)(hlt: ∀b,S' b→b<w.heap.size)(hap: ∀ad,s.a=some ad→ ¬S' ad.block):OwnS E T w lo S' s l:=by
 obtain⟨css,ho,hl,hr⟩:=h.row
 exact⟨⟨css,ho,hl,λi x hx=>let⟨cs,h1,h2⟩:=hr i x hx;⟨cs,h1,E.mono h2 hs⟩⟩,h.len,hlt,hap⟩
theorem Zi3{css:List (List Value)}{n:Nat}(hn: ∀cs∈css,cs.length=n){i:Nat}{cs:List Value}(hi:css[i]? =some cs){j:Nat}{v:Value}(hj:cs[j]? =some v):css.flatten[i*n+j]? =some v:=by
 induction css generalizing i with
 |nil=>simp at hi
 |cons c r ih=>
  have hc:c.length=n:=hn c (List.mem_cons_self ..)
  cases i with
  |zero=>
   simp only[List.getElem?_cons_zero,Option.some.injEq]at hi
   subst hi
   have hjl:j<c.length:=(List.getElem?_eq_some_iff.1 hj).1
   rw[List.flatten_cons,Nat.zero_mul,Nat.zero_add,List.getElem?_append_left hjl]; exact hj
  |succ i=>
   rw[List.getElem?_cons_succ]at hi
   have:=ih (λcs h=>hn cs (List.mem_cons_of_mem _ h)) hi
   rw[List.flatten_cons,List.getElem?_append_right (by rw[hc,Nat.add_mul]; omega)]
   rw[show(i+1)*n+j - c.length=i*n+j by rw[hc,Nat.add_mul]; omega]
   exact this
theorem OwnS.read(h:OwnS E T w lo S s l)(hb:l.length*E.bytes≤room)(hm:l.length≤maxLen):SlR E w (λb=>S b∨ ∃ad,s.a=some ad∧b=ad.block) s l:=by
 obtain⟨css,ho,hl,hr⟩:=h.row
 rcases ho.2 with⟨hv,hn⟩|⟨g,cap,cur,hv,hg,hh,hc,hcm,hcs,ht⟩
 ·have h0:l= []:=List.eq_nil_of_length_eq_zero (by rw[←h.len]; exact hn)
  subst h0
  simp[Sl.v]at hv
  exact⟨h.len,by simp,by rw[hv.2.2]; exact Nat.zero_le _,hb,.inl rfl⟩
 ·simp[Sl.v]at hv
  obtain⟨ha,hcap⟩:=hv
  subst hcap
  refine⟨h.len,by rw[←h.len]; exact hc,hcm,hb,.inr ⟨_,ha,.inr ⟨_,ha,rfl⟩,λi x hx=>?_⟩⟩
  obtain⟨cs,h1,h2⟩:=hr i x hx
  refine⟨cs,E.mono h2 λ_ h=>.inl h,λj v hj=>?_⟩
  have hall: ∀cs∈css,cs.length=E.n:=by
   intro cs hcs
   obtain⟨k,hk,he⟩:=List.mem_iff_getElem.1 hcs
   have hkl:k<l.length:=by rw[←hl]; exact hk
   obtain⟨cs',h3,h4⟩:=hr k _ (List.getElem?_eq_getElem hkl)
   rw[List.getElem?_eq_getElem hk,he,Option.some.injEq]at h3
   rw[h3]; exact E.len h4
  rw[Zfi]
  exact ho.cells (g:=g) (by simp[Value.ownBlock,Sl.v,ha]) _ _ (Zi3 hall h1 hj)
theorem OwnS.app{P:Program}{t e:TypeId}{k:Sl→World→Prop}{a:Addr}{cs:List Value}{x:α}(h:OwnS E e w lo S s l)(hT:ApT P t e E.n E.bytes)(hlo:lo≤w.heap.size)(hx:E.rep w S' x cs)(hc:ldc w a cs)(hS': ∀b,S' b→b<w.heap.size)(hap: ∀ad,s.a=some ad→ ¬S' ad.block)
  (hb:(l.length+1)*E.bytes≤room) (hm:l.length+1≤maxLen)
  (hk: ∀(r:Sl) (w':World),OwnS E e w' lo (λb=>S b∨S' b) r (l++ [x])→w.heap.size≤w'.heap.size→w'.os=w.os→w'.tape=w.tape→w'.output=w.output→
   (∀b,b<w.heap.size→(∀ad,s.a=some ad→b≠ad.block)→w'.heap[b]? =w.heap[b]?)→(∀ad,r.a=some ad→(s.a=some ad∨w.heap.size≤ad.block))→k r w'):appS P t t s (Sl.v ⟨some a,1,1⟩) w k:=by
 intro ty
 obtain⟨css,ho,hl,hr⟩:=h.row
 obtain⟨ht,i,z,hi,hz,hsz,hby,hzs,hn0⟩:=hT
 have hlen:=E.len hx
 have hnl:=h.len
 obtain⟨v',w',hrun,hown,hgr,hblk⟩:=Znk (P:=P) (ty:=ty) (m:=1) (c:=1) ht hi hz (by rw[hsz]; exact hzs) (by rw[hsz]; exact hn0) (by rw[hsz]; exact ho) (by rw[hsz,hlen,Nat.one_mul]) (λj u hj=>hc j u hj) (E.one hx) oM (by rw[hnl,hby]; exact hb) hlo
 rw[hsz]at hown
 have hv': ∃r:Sl,v'=r.v∧r.len=s.len+1:=by
  rcases hown.2 with⟨hv,hn⟩|⟨g,cap,cur,hv,_⟩
  ·omega
  ·exact⟨⟨_,_,_⟩,hv,rfl⟩
 obtain⟨r,rfl,hrl⟩:=hv'
 have hreg: ∀ad,r.a=some ad→(s.a=some ad∨w.heap.size≤ad.block):=by
  intro ad had
  have hab:s.v.ownBlock=some ad.block∨w.heap.size≤ad.block:=by
   have h0:(Sl.v r).ownBlock=some ad.block:=by simp[Value.ownBlock,Sl.v,had]
   rcases hblk with hb|hb
   ·left; rw[←hb]; exact h0
   ·right; rw[h0,Option.some.injEq]at hb; omega
  rcases hab with hab|hab
  ·left
   have h2:ad=⟨ad.block,0,none⟩:=by
    rcases hown.2 with⟨hv,_⟩|⟨g,cap,cur,hv,_⟩
    ·simp[Sl.v,had]at hv
    ·simp[Sl.v,had]at hv; rw[hv.1]
   cases hsa:s.a with
   |none=>simp[Value.ownBlock,Sl.v,hsa]at hab
   |some ad'=>
    simp[Value.ownBlock,Sl.v,hsa]at hab
    have:=(h.block hsa).2.2
    rw[this,hab,←h2]
  ·exact .inr hab
 refine⟨_,w',hrun,r,rfl,hk r w' ?_ hgr.size hgr.os hgr.tape hgr.output ?_ hreg⟩
 ·have hold: ∀b,b<w.heap.size→(S b∨S' b)→w'.heap[b]? =w.heap[b]? :=λb hbl hbs=>by
   refine hgr.block b hbl ?_
   simp only[Value.ownBlock,Sl.v]
   cases hsa:s.a with
   |none=>simp
   |some ad=>
    simp only[ne_eq,Option.some.injEq]
    rintro rfl
    rcases hbs with hbs|hbs
    ·exact h.apart _ hsa hbs
    ·exact hap _ hsa hbs
  refine⟨⟨css++ [cs],?_,by simp[hl],λj y hj=>?_⟩,by simp[hrl,hnl],λb hbs=>?_,λad had hbs=>?_⟩
  ·rw[hrl,List.flatten_append]; simpa using hown
  ·rw[List.getElem?_append]at hj
   split at hj
   ·rename_i hjl
    obtain⟨cs',h1,h2⟩:=hr j y hj
    exact⟨cs',by rw[List.getElem?_append_left oM]; exact h1,E.keep (E.mono h2 λ_ h=>.inl h) λb hb hlt=>hold b hlt hb⟩
   ·rename_i hjl
    have hj0:j - l.length=0:=by
     rcases Nat.eq_zero_or_pos (j - l.length)with h0|h0
     ·exact h0
     ·rw[List.getElem?_eq_none (by simp; omega)]at hj; cases hj
    rw[hj0]at hj
    simp only[List.getElem?_cons_zero,Option.some.injEq]at hj
    subst hj
    exact⟨cs,by rw[List.getElem?_append_right oM,hl,hj0]; rfl,E.keep (E.mono hx λ_ h=>.inr h) λb hb hlt=>hold b hlt hb⟩
  ·have:b<w.heap.size:=by
    rcases hbs with hbs|hbs
    ·exact h.lt b hbs
    ·exact hS' b hbs
   have:=hgr.size; omega
  ·rcases hreg ad had with h1|h1
   ·rcases hbs with hbs|hbs
    ·exact h.apart ad h1 hbs
    ·exact hap ad h1 hbs
   ·have:ad.block<w.heap.size:=by
     rcases hbs with hbs|hbs
     ·exact h.lt _ hbs
     ·exact hS' _ hbs
    omega
 ·intro b hbl hne
  refine hgr.block b hbl ?_
  simp only[Value.ownBlock,Sl.v]
  cases hsa:s.a with
  |none=>simp
  |some ad=>simp only[ne_eq,Option.some.injEq]; exact hne ad hsa
theorem OwnS.push{P:Program}{t e:TypeId}{k:Sl→World→Prop}{a:Addr}{cs:List Value}{x:α}(h:OwnS E e w lo S s l)(hT:ApT P t e E.n E.bytes)(hlo:lo≤w.heap.size)(hx:E.rep w S' x cs)(hc:ldc w a cs)(hS': ∀b,S' b→b<w.heap.size)(hap: ∀ad,s.a=some ad→ ¬S' ad.block)
  (hb:(l.length+1)*E.bytes≤room) (hm:l.length+1≤maxLen)
  (hk: ∀(r:Sl) (w':World),OwnS E e w' lo (λb=>S b∨S' b) r (l++ [x])→Below lo w w'→(∀b,b<w.heap.size→(∀ad,s.a=some ad→b≠ad.block)→w'.heap[b]? =w.heap[b]?)→(∀ad,r.a=some ad→(s.a=some ad∨w.heap.size≤ad.block))→k r w'):appS P t t s (Sl.v ⟨some a,1,1⟩) w k:=
 h.app hT hlo hx hc hS' hap hb hm λr w' h1 h2 h3 h4 h5 h6 h7=>hk r w' h1 ⟨h3,h4,h5,h2,λb hb=>h6 b oM λad ha e=>by have:=(h.block ha).1; omega⟩ h6 h7
end
theorem callX.intro{P:Program}{f:FuncId}{args:List Value}{w:World}{k:Value→World→Prop}(h:callS P f args w λv w'=>Ext w w'∧k v w'):callX P f args w k:=h
def Old(S:Nat→Prop)(w:World):Prop:=∀b,S b→b<w.heap.size
theorem Old.ext{S:Nat→Prop}{w w':World}(h:Old S w)(hx:w.heap.size≤w'.heap.size):Old S w':=λb hb=>Nat.lt_of_lt_of_le (h b hb) hx
theorem bnd.drew{w:World}{k:World→Prop}(h: ∀w',Ext w w'→k w'):bnd w.drew k:=λ_ e=>h _ (e▸Ext.drew w)
theorem ldc.pre{w:World}{a:Addr}{cs cs' r:List Value}(h:ldc w a cs)(hp:cs=cs'++r):ldc w a cs':=λj v hj=>h j v (by
 subst hp; rw[List.getElem?_append_left (List.getElem?_eq_some_iff.1 hj).1]; exact hj)
theorem ldc.mid{w:World}{a:Addr}{k:Nat}{cs cs' r:List Value}(h:ldc w a cs)(hp:cs.drop k=cs'++r):ldc w (a.add k) cs':=λj v hj=>by
 rw[Zfi]
 refine h (k+j) v ?_
 rw[←List.getElem?_drop,hp,List.getElem?_append_left (List.getElem?_eq_some_iff.1 hj).1]; exact hj
theorem BoxAt.at0{w w':World}{a:Addr}{cs cs' r:List Value}(h:BoxAt w a cs)(hx:Ext w w')(hp:cs=cs'++r):Go.Hal.ldc w' a cs':=(h.ext hx).ldc.pre hp
theorem BoxAt.at1{w w':World}{a:Addr}{k:Nat}{cs cs' r:List Value}(h:BoxAt w a cs)(hx:Ext w w')(hp:cs.drop k=cs'++r):Go.Hal.ldc w' (a.add k) cs':=(h.ext hx).ldc.mid hp
theorem gCall.intro{τ:Type}{g:Bool}{w:World}{k:τ→World→Prop}{A:(τ→World→Prop)→Prop}{d:τ}(val:τ)(hA:g=true→ ∀q:τ→World→Prop,(∀w',Ext w w'→q val w')→A q)
  (hk: ∀t w',Ext w w'→(g=true→t=val)→k t w'):gCall g k A (λq=>q d w):=
 ⟨λhg=>hA hg _ λw' hx=>hk _ _ hx λ_=>rfl,λhg=>hk _ _ xR λh=>by rw[hg]at h; cases h⟩
theorem stw0.intro{w:World}{a:Addr}{old cs:List Value}{k:World→Prop}(hb:BoxAt w a old)(hl:cs.length≤old.length)(h: ∀w',But a.block w w'→w'.heap.size=w.heap.size→BoxAt w' a (cs++old.drop cs.length)→k w'):stw w a cs k:=by
 have:=stw.intro (o:=0) (cs:=cs) (k:=k) hb oM λw' h1 h2 h3=>h w' h1 h2 (by simpa using h3)
 simpa[add_zero]using this
theorem But.ext{g:Nat}{w0 w w':World}(h:But g w w')(hx:Ext w0 w)(hg:w0.heap.size≤g):Ext w0 w':=hx.trans' (h.below hx.size hg)
theorem bound{α:Sort _}{x:α}{k:α→Prop}(h:k x):bnd x k:=λ_ e=>e▸h
theorem loop1.up{w:World}{body:Int→World→(Int→World→Prop)→Prop}{N:Nat}(hN:N≤maxLen)(I:Nat→World→Prop)(h0:I 0 w)
  (hs: ∀(n:Nat) w' (nxt:Int→World→Prop),n≤N→I n w'→(n<N→ ∀w'',I (n+1) w''→nxt (Za ((n:Int)+1)) w'')→body n w' nxt):loop1 0 w body:=
 ⟨λi w'=>∃n:Nat,i=n∧n≤N∧I n w',λi _=>N - i.toNat,⟨0,rfl,Nat.zero_le _,h0⟩,λi w' ⟨n,hi,hn,hI⟩=>by
  subst hi
  refine hs n w' _ hn hI λhlt w'' h=>?_
  rw[Zfg (n:=N) oM oM hN]
  exact⟨⟨n+1,oM,oM,h⟩,by show N - ((n:Int)+1).toNat<N - (n:Int).toNat; omega⟩⟩
theorem loop2.up{α:Type}{a:α}{w:World}{body:α→Int→World→(α→Int→World→Prop)→Prop}{N:Nat}(hN:N≤maxLen)(I:α→Nat→World→Prop)(h0:I a 0 w)
  (hs: ∀(a:α) (n:Nat) w' (nxt:α→Int→World→Prop),n≤N→I a n w'→(n<N→ ∀a' w'',I a' (n+1) w''→nxt a' (Za ((n:Int)+1)) w'')→body a n w' nxt):loop2 a 0 w body:=
 ⟨λa i w'=>∃n:Nat,i=n∧n≤N∧I a n w',λ_ i _=>N - i.toNat,⟨0,rfl,Nat.zero_le _,h0⟩,λa i w' ⟨n,hi,hn,hI⟩=>by
  subst hi
  refine hs a n w' _ hn hI λhlt a' w'' h=>?_
  rw[Zfg (n:=N) oM oM hN]
  exact⟨⟨n+1,oM,oM,h⟩,by show N - ((n:Int)+1).toNat<N - (n:Int).toNat; omega⟩⟩
theorem SlR.max{α:Type}{E:Enc α}{w:World}{S:Nat→Prop}{s:Sl}{l:List α}(h:SlR E w S s l):l.length≤maxLen:=Nat.le_trans h.2.1 h.2.2.1
theorem SlR.el{α:Type}{E:Enc α}{w:World}{S:Nat→Prop}{s:Sl}{l:List α}(h:SlR E w S s l){n:Nat}(hn:n<l.length):
  ∃ad cs,s.a=some ad∧S ad.block∧E.rep w S l[n] cs∧ ∀w',Ext w w'→ldc w' (ad.add (n*E.n)) cs:=by
 obtain⟨ad,cs,h1,h2,h3,h4⟩:=h.get (List.getElem?_eq_getElem hn)
 exact⟨ad,cs,h1,h2,h3,λw' hx=>h4.ext hx⟩
theorem Zlu{w:World}{S:Nat→Prop}{s:Sl}{l:List Span}(h:SlR spanE w S s l){n:Nat}(hn:n<l.length):
  ∃ad,s.a=some ad∧S ad.block∧ ∀w',Ext w w'→ldc w' (ad.add (n*6)) [.int .i64 l[n].lo.ma,.int .i64 l[n].lo.mi,.int .i64 l[n].lo.pa,.int .i64 l[n].hi.ma,.int .i64 l[n].hi.mi,.int .i64 l[n].hi.pa]:=by
 obtain⟨ad,cs,h1,h2,⟨rfl,_⟩,h4⟩:=h.el hn
 exact⟨ad,h1,h2,h4⟩
theorem Zhg{w:World}{S:Nat→Prop}{s:Sl}{l:List Dep}(h:SlR depE w S s l){n:Nat}(hn:n<l.length):
  ∃ad t,s.a=some ad∧S ad.block∧Str l[n].name∧SlR spanE w S t l[n].range∧ ∀w',Ext w w'→ldc w' (ad.add (n*2)) [.string l[n].name,t.v]:=by
 obtain⟨ad,cs,h1,h2,⟨h0,t,rfl,h5⟩,h4⟩:=h.el hn
 exact⟨ad,t,h1,h2,h0,h5,h4⟩
theorem join.intro{τ:Sort _}{R:τ}{b:τ→Prop}(h:b R):join R b:=h
theorem join.named{τ:Sort _}{R:τ}{b:τ→Prop}(h: ∀J,J=R→b J):join R b:=h R rfl
def None':Nat→Prop:=λ_=>False
theorem OwnS.zero{α:Type}{E:Enc α}{T:TypeId}(w:World):OwnS E T w w.heap.size None' Sl.nil ([]:List α):=OwnS.nil _ _
theorem OwnS.pushF{α:Type}{E:Enc α}{P:Program}{w0 w:World}{t e:TypeId}{s:Sl}{l:List α}{x:α}{cs:List Value}{a:Addr}{k:Sl→World→Prop}(h:OwnS E e w w0.heap.size None' s l)(x0:Ext w0 w)(hT:ApT P t e E.n E.bytes)
  (hx:E.rep w None' x cs) (hc:ldc w a cs) (h1:1≤E.bytes) (hb:(l.length+1)*E.bytes≤room) (hk: ∀r w',OwnS E e w' w0.heap.size None' r (l++ [x])→Ext w0 w'→k r w'):appS P t t s (Sl.v ⟨some a,1,1⟩) w k:=by
 have hm:l.length+1≤maxLen:=by
  have:(l.length+1)*1≤(l.length+1)*E.bytes:=Nat.mul_le_mul_left _ h1
  rw[Zb]; unfold room at hb; omega
 exact h.push hT x0.size hx hc (λ_ h=>h.elim) (λ_ _ h=>h.elim) hb hm λr w' own bel _ _=>hk r w' (own.mono (λ_ h=>h.elim id id) (λ_ h=>h.elim) (λ_ _ h=>h.elim)) (x0.trans' bel)
theorem OwnS.readF{α:Type}{E:Enc α}{T:TypeId}{w:World}{lo:Nat}{s:Sl}{l:List α}(h:OwnS E T w lo None' s l)(h1:1≤E.bytes)(hb:l.length*E.bytes≤room):SlR E w (λb=>lo≤b) s l:=by
 have hm:l.length≤maxLen:=by
  have:l.length*1≤l.length*E.bytes:=Nat.mul_le_mul_left _ h1
  rw[Zb]; unfold room at hb; omega
 refine(h.read hb hm).mono λb hb=>?_
 rcases hb with hb|⟨ad,ha,rfl⟩
 ·exact hb.elim
 ·exact(h.block ha).1
def rkE:Enc (Int×Int):=Zo6 2 16 (λx=>[.int .i64 x.1,.int .i64 x.2]) (λ_=>True) (λ_=>rfl) (λ_ v hv=>by simp at hv; rcases hv with rfl|rfl<;>rfl)
def strE:Enc ByteArray:=Zo6 1 16 (λx=>[.string x]) (λx=>Str x) (λ_=>rfl) (λ_ v hv=>by simp at hv; subst hv; rfl)
theorem rkEl{w:World}{S:Nat→Prop}{s:Sl}{l:List (Int×Int)}(h:SlR rkE w S s l){n:Nat}(hn:n<l.length):
  ∃ad,s.a=some ad∧S ad.block∧ ∀w',Ext w w'→ldc w' (ad.add (n*2)) [.int .i64 l[n].1,.int .i64 l[n].2]:=by
 obtain⟨ad,cs,h1,h2,⟨rfl,_⟩,h4⟩:=h.el hn
 exact⟨ad,h1,h2,h4⟩
theorem Zjh(b j:Nat):Addr.add ⟨b,0,none⟩ j=⟨b,j,none⟩:=by unfold Addr.add; split<;>simp_all
theorem Ext.but{w w':World}(h:Ext w w')(g:Nat):But g w w':=⟨h.size,h.os,h.tape,h.output,λb hb _=>h.block hb⟩
theorem But.trans{g:Nat}{a b c:World}(h:But g a b)(k:But g b c):But g a c:=
 ⟨Nat.le_trans h.1 k.1,k.2.1.trans h.2.1,k.2.2.1.trans h.2.2.1,k.2.2.2.1.trans h.2.2.2.1,λx hx hne=>(k.2.2.2.2 x (by have:=h.1; omega) hne).trans (h.2.2.2.2 x hx hne)⟩
end Go.Hal
namespace Go.Hal
open Go.Proofs.Tryz
structure Ord3{α:Type}(c:α→α→Int):Prop where
 flip: ∀x y,c x y<0↔0<c y x
 trans: ∀x y z,c x y≤0→c y z≤0→c x z≤0
def Ah{α:Type}(c:α→α→Int)(x y:α×Nat):Prop:=c x.1 y.1<0∨(c x.1 y.1=0∧x.2<y.2)
section
variable {α:Type} {c:α→α→Int}
theorem Ord3.zero(h:Ord3 c){x y:α}:c x y=0↔c y x=0:=by
 have h1:=h.flip x y; have h2:=h.flip y x
 constructor<;>intro h0<;>omega
theorem Ord3.lt_of(h:Ord3 c){x y z:α}(h1:c x y<0)(h2:c y z≤0):c x z<0:=by
 have hxz:=h.trans x y z oM h2
 rcases Int.lt_or_eq_of_le hxz with h3|h3
 ·exact h3
 ·exfalso
  have h4:=h.trans y z x h2 (by rw[h.zero.1 h3]; exact Int.le_refl _)
  have:=(h.flip x y).1 h1
  omega
theorem Ord3.lt_of'(h:Ord3 c){x y z:α}(h1:c x y≤0)(h2:c y z<0):c x z<0:=by
 have hxz:=h.trans x y z h1 oM
 rcases Int.lt_or_eq_of_le hxz with h3|h3
 ·exact h3
 ·exfalso
  have h4:=h.trans z x y (by rw[h.zero.1 h3]; exact Int.le_refl _) h1
  have:=(h.flip y z).1 h2
  omega
theorem Ah.trans(h:Ord3 c){x y z:α×Nat}(h1:Ah c x y)(h2:Ah c y z):Ah c x z:=by
 rcases h1 with h1|⟨h1,h1'⟩<;>rcases h2 with h2|⟨h2,h2'⟩
 ·exact .inl (h.lt_of h1 oM)
 ·exact .inl (h.lt_of h1 oM)
 ·exact .inl (h.lt_of' oM h2)
 ·refine .inr ⟨?_,oM⟩
  have a:=h.trans _ _ _ (show c x.1 y.1≤0 by omega) (show c y.1 z.1≤0 by omega)
  have b:=h.trans _ _ _ (show c z.1 y.1≤0 by rw[h.zero.1 h2]; omega) (show c y.1 x.1≤0 by rw[h.zero.1 h1]; omega)
  have:=h.flip z.1 x.1; have:=h.flip x.1 z.1
  omega
theorem Ah.not(h:Ord3 c){x y:α×Nat}(h1:Ah c x y): ¬Ah c y x:=λh2=>by
 rcases h1 with h1|⟨h1,h1'⟩<;>rcases h2 with h2|⟨h2,h2'⟩
 ·have:=(h.flip _ _).1 h1; omega
 ·have:=h.zero.1 h2; omega
 ·have:=h.zero.1 h1; omega
 ·omega
theorem Ah.right(h:Ord3 c){x y:α×Nat}(hi:x.2<y.2):(c y.1 x.1<0→Ah c y x)∧(¬c y.1 x.1<0→Ah c x y):=
 ⟨λh1=>.inl h1,λh1=>by
  have h2:=h.flip y.1 x.1; have h3:=h.flip x.1 y.1
  by_cases h0:c x.1 y.1=0
  ·exact .inr ⟨h0,hi⟩
  ·exact .inl oM⟩
def Ze3(c:α→α→Int)(x:α):List α→List α
 | []=>[x]
 |y::r=>if c x y≤0 then x::y::r else y::Ze3 c x r
def Zb0(c:α→α→Int):List α→List α
 | []=>[]
 |x::r=>Ze3 c x (Zb0 c r)
theorem Zqa(x:α)(l:List α):(Ze3 c x l).Perm (x::l):=by
 induction l with
 |nil=>exact List.Perm.refl _
 |cons y r ih=>
  unfold Ze3
  split
  ·exact List.Perm.refl _
  ·exact(ih.cons y).trans (List.Perm.swap x y r)
theorem Zeq(l:List α):(Zb0 c l).Perm l:=by
 induction l with
 |nil=>exact List.Perm.refl _
 |cons x r ih=>exact(Zqa x _).trans (ih.cons x)
def nums:Nat→List α→List (α×Nat)
 |_,[]=>[]
 |k,x::r=>(x,k)::nums (k+1) r
def cN(c:α→α→Int)(x y:α×Nat):Int:=c x.1 y.1
theorem Zm9(k:Nat)(l:List α):(nums k l).map Prod.fst=l:=by
 induction l generalizing k with
 |nil=>rfl
 |cons x r ih=>simp[nums,ih]
theorem Z2j(k:Nat)(l:List α): ∀x∈nums k l,k≤x.2∧x.2<k+l.length:=by
 induction l generalizing k with
 |nil=>intro x h; cases h
 |cons a r ih=>
  intro x h
  rcases List.mem_cons.1 h with rfl|h
  ·simp
  ·have:=ih (k+1) x h
   simp; omega
theorem Zna(k:Nat)(l:List α):(nums k l).length=l.length:=by
 induction l generalizing k with
 |nil=>rfl
 |cons x r ih=>simp[nums,ih]
theorem Zlk(k:Nat)(l:List α):(nums k l).Pairwise λx y=>x.2<y.2:=by
 induction l generalizing k with
 |nil=>exact .nil
 |cons a r ih=>
  refine .cons (λx h=>?_) (ih _)
  have:=(Z2j (k+1) r x h).1
  show k<x.2
  omega
theorem Z0l(x:α×Nat)(l:List (α×Nat)):(Ze3 (cN c) x l).map Prod.fst=Ze3 c x.1 (l.map Prod.fst):=by
 induction l with
 |nil=>rfl
 |cons y r ih=>
  have e:cN c x y=c x.1 y.1:=rfl
  by_cases h:c x.1 y.1≤0
  ·rw[Ze3,if_pos (by rw[e]; exact h)]; simp only[List.map_cons]; rw[Ze3,if_pos h]
  ·rw[Ze3,if_neg (by rw[e]; exact h)]; simp only[List.map_cons]; rw[Ze3,if_neg h,ih]
theorem Zqb(l:List (α×Nat)):(Zb0 (cN c) l).map Prod.fst=Zb0 c (l.map Prod.fst):=by
 induction l with
 |nil=>rfl
 |cons x r ih=>simp only[Zb0,List.map_cons,Z0l,ih]
theorem Zs7(h:Ord3 c){x:α×Nat}{l:List (α×Nat)}(hl:l.Pairwise (Ah c))(hx: ∀y∈l,x.2<y.2):(Ze3 (cN c) x l).Pairwise (Ah c):=by
 induction l with
 |nil=>exact List.pairwise_singleton _ _
 |cons y r ih=>
  obtain⟨h1,h2⟩:=List.pairwise_cons.1 hl
  have hxy:=hx y (.head _)
  unfold Ze3
  split
  ·rename_i hc
   have hc:c x.1 y.1≤0:=hc
   have a:Ah c x y:=by
    rcases Int.lt_or_eq_of_le hc with h3|h3
    ·exact .inl h3
    ·exact .inr ⟨h3,hxy⟩
   refine .cons (λz hz=>?_) hl
   rcases List.mem_cons.1 hz with rfl|hz
   ·exact a
   ·exact a.trans h (h1 z hz)
  ·rename_i hc
   have hc: ¬c x.1 y.1≤0:=hc
   refine .cons (λz hz=>?_) (ih h2 λy hy=>hx y (.tail _ hy))
   rcases List.mem_cons.1 ((Zqa x r).mem_iff.1 hz)with rfl|hz
   ·exact .inl ((h.flip _ _).2 oM)
   ·exact h1 z hz
theorem Zlw(h:Ord3 c){l:List (α×Nat)}(hl:l.Pairwise λx y=>x.2<y.2):(Zb0 (cN c) l).Pairwise (Ah c):=by
 induction l with
 |nil=>exact .nil
 |cons x r ih=>
  obtain⟨h1,h2⟩:=List.pairwise_cons.1 hl
  exact Zs7 h (ih h2) λy hy=>h1 y ((Zeq r).mem_iff.1 hy)
theorem Zkg{β:Type}{R:β→β→Prop}(hn: ∀x y,R x y→ ¬R y x): ∀{l m:List β},l.Pairwise R→m.Pairwise R→l.Perm m→l=m
 | [],m,_,_,hp=>(List.nil_perm.1 hp).symm
 |x::r,[],_,_,hp=>(List.perm_nil.1 hp)
 |x::r,y::s,h1,h2,hp=>by
  obtain⟨a1,a2⟩:=List.pairwise_cons.1 h1
  obtain⟨b1,b2⟩:=List.pairwise_cons.1 h2
  have e:x=y:=by
   rcases List.mem_cons.1 (hp.mem_iff.1 (.head _))with e|hx
   ·exact e
   ·rcases List.mem_cons.1 (hp.mem_iff.2 (List.mem_cons_self (a:=y) (l:=s)))with e|hy
    ·exact e.symm
    ·exact absurd (b1 x hx) (hn _ _ (a1 y hy))
  subst e
  rw[Zkg hn a2 b2 (List.perm_cons x |>.1 hp)]
theorem Zs8(h:Ord3 c){l:List α}{m:List (α×Nat)}(hp:m.Perm (nums 0 l))(hs:m.Pairwise (Ah c)):m.map Prod.fst=Zb0 c l:=by
 have:=Zkg (λx y h1=>Ah.not h h1) hs (Zlw h (Zlk 0 l)) (hp.trans (Zeq _).symm)
 rw[this,Zqb,Zm9]
theorem Zko(h:Ord3 c)(l:List α):(Zb0 c l).Pairwise λx y=>c x y≤0:=by
 have:=Zlw h (Zlk 0 l)
 have e:=Zqb (c:=c) (nums 0 l)
 rw[Zm9]at e
 rw[←e,List.pairwise_map]
 refine this.imp λ{x y} h=>?_
 rcases h with h|h<;>omega
end
def sg{α:Type}(z:List α)(i n:Nat):List α:=(z.drop i).take n
theorem Znd{α:Type}(z:List α)(i n:Nat):z=z.take i++sg z i n++z.drop (i+n):=by
 unfold sg
 rw[List.append_assoc,←List.drop_drop,List.take_append_drop,List.take_append_drop]
theorem Zdu{α:Type}{A M B:List α}{i n:Nat}(h:i+n≤A.length):sg (A++M++B) i n=sg A i n:=by
 unfold sg
 rw[List.append_assoc,List.drop_append_of_le_length oM,List.take_append_of_le_length (by rw[List.length_drop]; omega)]
theorem Zmk{α:Type}{A M B:List α}{i n:Nat}(h:A.length=i)(hn:M.length=n):sg (A++M++B) i n=M:=by
 subst h; subst hn
 unfold sg
 rw[List.append_assoc,List.drop_left,List.take_left]
theorem Zmj{α:Type}{A M:List α}{i n:Nat}(h:A.length=i)(hn:M.length≤n):sg (A++M) i n=M:=by
 subst h
 unfold sg
 rw[List.drop_left,List.take_of_length_le hn]
theorem Zh6{α:Type}{z:List α}{i n:Nat}(h:z.length≤i):sg z i n= []:=by unfold sg; rw[List.drop_eq_nil_of_le h]; simp
theorem Zmv{α:Type}{z:List α}{i n:Nat}(h:i+n≤z.length):(sg z i n).length=n:=by unfold sg; rw[List.length_take,List.length_drop]; omega
theorem Zp8{α:Type}{z:List α}{i n m:Nat}:sg z i (n+m)=sg z i n++sg z (i+n) m:=by unfold sg; rw[List.take_add,List.drop_drop]
theorem Zvz{α:Type}{z:List α}{i n:Nat}{x:α}(h:x∈sg z i n): ∃j,∃hj:j<z.length,i≤j∧j<i+n∧z[j]=x:=by
 obtain⟨k,hk,rfl⟩:=List.mem_iff_getElem.1 h
 unfold sg at hk ⊢
 rw[List.length_take,List.length_drop]at hk
 exact⟨i+k,oM,oM,oM,by rw[List.getElem_take,List.getElem_drop]⟩
structure Chunks{α:Type}(c:α→α→Int)(n:Nat)(z z0:List (α×Nat))(k:Nat):Prop where
 perm: ∀i<k,(sg z (i*n) n).Perm (sg z0 (i*n) n)
 sort: ∀i<k,(sg z (i*n) n).Pairwise (Ah c)
theorem half{i j:Nat}(h:i+j<9223372036854775808):Go.IntKind.wrap .i64 (Int.fdiv (Go.IntKind.wrap .u64 (Za ((i:Int)+(j:Int)))) (2 ^ 1))=(((i+j)/2:Nat):Int):=by
 rw[Zc oM oM]
 have e1:Go.IntKind.wrap .u64 ((i:Int)+(j:Int))=(i:Int)+(j:Int):=by
  simp only[Go.IntKind.wrap,Go.IntKind.bits,Go.IntKind.signed,Bool.false_and,Bool.false_eq_true,if_false]
  omega
 rw[e1]
 have e2:Int.fdiv ((i:Int)+(j:Int)) (2 ^ 1)=(((i+j)/2:Nat):Int):=by
  rw[Int.fdiv_eq_ediv_of_nonneg _ dC]; omega
 rw[e2]
 exact Zc oM oM
end Go.Hal
namespace Go.Hal
open Go.Proofs.Tryz
open Go Go.RowKit
theorem Zh1{α β:Type}{k:Nat}(f:α→List β)(hk: ∀x,(f x).length=k)(l:List α):((l.map f).flatten).length=l.length*k:=by
 induction l with
 |nil=>simp
 |cons a l ih=>simp[ih,hk,Nat.add_mul,Nat.add_comm]
def RowB{α:Type}(f:α→List Value)(w:World)(g:Nat)(l:List α)(tail:List Value):Prop:=BoxAt w ⟨g,0,none⟩ ((l.map f).flatten++tail)
section
variable {α:Type} {f:α→List Value} {k:Nat} {w w':World} {g:Nat} {l:List α} {tail:List Value}
theorem RowB.ext(h:RowB f w g l tail)(hx:Ext w w'):RowB f w' g l tail:=BoxAt.ext h hx
theorem RowB.lt(h:RowB f w g l tail):g<w.heap.size:=BoxAt.lt h
theorem Zmc(i:Nat)(hi:i<l.length)(tail:List Value):
  (l.map f).flatten++tail=(((l.take i).map f).flatten)++f l[i]++(((l.drop (i+1)).map f).flatten++tail):=by
 have h:l=l.take i++l[i]::l.drop (i+1):=by rw[←List.drop_eq_getElem_cons hi,List.take_append_drop]
 have h2:(l.map f).flatten=((l.take i).map f).flatten++(f l[i]++((l.drop (i+1)).map f).flatten):=by
  conv=>lhs; rw[h]
  rw[List.map_append,List.map_cons,List.flatten_append,List.flatten_cons]
 rw[h2]; simp only[List.append_assoc]
theorem Zsa(hk: ∀x,(f x).length=k){i:Nat}(hi:i<l.length):(((l.take i).map f).flatten).length=i*k:=by rw[Zh1 f hk,List.length_take,Nat.min_eq_left oM]
theorem RowB.ld(hk: ∀x,(f x).length=k)(h:RowB f w g l tail){i:Nat}(hi:i<l.length):ldc w ((⟨g,0,none⟩:Addr).add (i*k)) (f l[i]):=by
 refine BoxAt.at1 h xR (r:=((l.drop (i+1)).map f).flatten++tail) ?_
 have hl:=Zsa hk hi
 rw[Zmc i hi,List.append_assoc,List.drop_append_of_le_length (by rw[hl]; exact Nat.le_refl _),List.drop_eq_nil_of_le (by rw[hl]; exact Nat.le_refl _),List.nil_append]
theorem RowB.ld'(hk: ∀x,(f x).length=k)(h:RowB f w g l tail){i:Nat}{x:α}(hi:l[i]? =some x):ldc w ((⟨g,0,none⟩:Addr).add (i*k)) (f x):=by
 obtain⟨h1,rfl⟩:=List.getElem?_eq_some_iff.1 hi
 exact h.ld hk h1
theorem RowB.st(hk: ∀x,(f x).length=k)(h:RowB f w g l tail){i:Nat}(hi:i<l.length){x:α}{K:World→Prop}(hK: ∀w',But g w w'→RowB f w' g (l.set i x) tail→K w'):stw w ((⟨g,0,none⟩:Addr).add (i*k)) (f x) K:=by
 have hl1:=Zsa hk hi
 have e:=Zmc (f:=f) i hi tail
 refine stw.intro (o:=i*k) (old:=(l.map f).flatten++tail) h (by rw[e,hk]; simp only[List.length_append,hl1,hk]; omega) λw' hb hs hx=>hK w' hb ?_
 have e2:=Zmc (f:=f) (l:=l.set i x) i (by simpa using hi) tail
 have e3:((l.map f).flatten++tail).take (i*k)++f x++((l.map f).flatten++tail).drop (i*k+(f x).length)=((l.set i x).map f).flatten++tail:=by
  rw[e2,e,hk]
  have t1:(((l.take i).map f).flatten++f l[i]++(((l.drop (i+1)).map f).flatten++tail)).take (i*k)=((l.take i).map f).flatten:=by
   rw[List.append_assoc,List.take_append_of_le_length (by rw[hl1]; exact Nat.le_refl _),List.take_of_length_le (by rw[hl1]; exact Nat.le_refl _)]
  have t2:(((l.take i).map f).flatten++f l[i]++(((l.drop (i+1)).map f).flatten++tail)).drop (i*k+k)=((l.drop (i+1)).map f).flatten++tail:=by
   rw[List.drop_append_of_le_length (by simp only[List.length_append,hl1,hk]; omega),List.drop_eq_nil_of_le (by simp only[List.length_append,hl1,hk]; omega),List.nil_append]
  have t3:(l.set i x).take i=l.take i:=by rw[List.take_set_of_le nR]
  have t4:(l.set i x).drop (i+1)=l.drop (i+1):=by rw[List.drop_set_of_lt oM]
  rw[t1,t2,t3,t4,List.getElem_set_self]
 unfold RowB
 rw[←e3]; exact hx
end
theorem Znf{α:Type}(A B:List α)(y x:α):((A++y::x::B).set (A.length+1) y).set A.length x=A++x::y::B:=by
 simp[List.set_append]
theorem Zta{α:Type}(A B:List α)(y x:α):((A++y::x::B).set A.length x).set (A.length+1) y=A++x::y::B:=by
 simp[List.set_append]
theorem Zv3{α:Type}(A B C:List α)(x y:α):((A++x::(B++y::C)).set A.length y).set (A.length+1+B.length) x=A++y::(B++x::C):=by
 rw[List.set_append_right _ _ nR,Nat.sub_self,List.set_cons_zero,List.set_append_right _ _ oM]
 rw[show A.length+1+B.length - A.length=B.length+1 by omega,List.set_cons_succ,List.set_append_right _ _ nR,Nat.sub_self,List.set_cons_zero]
theorem Z63{α:Type}(A B:List α)(y:α):(A++y::B)[A.length]? =some y:=by simp
theorem Z4z{α:Type}(A B:List α)(y x:α):(A++y::x::B)[A.length+1]? =some x:=by simp
theorem Zgr{α:Type}{A B:List α}{y:α}{n:Nat}(h:A.length=n):(A++y::B)[n]? =some y:=by subst h; exact Z63 A B y
theorem Zh2{α:Type}{A B:List α}{y x:α}{n:Nat}(h:A.length+1=n):(A++y::x::B)[n]? =some x:=by subst h; exact Z4z A B y x
theorem But.ext'{g:Nat}{w0 w w':World}(h:But g w0 w)(hx:Ext w w'):But g w0 w':=h.trans (hx.but g)
section
open Classical
noncomputable def Zpx (p:Nat→Prop):Nat:=if h: ∃n,p n∧ ∀m,p m→n≤m then h.choose else 0
theorem Z2b{p:Nat→Prop}: ∀n,p n→ ∃n,p n∧ ∀m,p m→n≤m:=λn=>by
 induction n using Nat.strongRecOn with
 |_ n ih=>
  intro h
  by_cases hm: ∃m,m<n∧p m
  ·obtain⟨m,h1,h2⟩:=hm; exact ih m h1 h2
  ·exact⟨n,h,λm h2=>by
    rcases Nat.lt_or_ge m n with h3|h3
    ·exact absurd ⟨m,h3,h2⟩ hm
    ·exact h3⟩
theorem Zf1{p:Nat→Prop}{n:Nat}(h:p n):p (Zpx p)∧ ∀m,p m→Zpx p≤m:=by
 have hx:=Z2b n h
 unfold Zpx
 rw[dif_pos hx]; exact hx.choose_spec
end
theorem loop1.ghost{α:Type}{a:α}{w:World}{body:α→World→(α→World→Prop)→Prop}(J:Nat→α→World→Prop)(n:Nat)(h0:J n a w)
  (hs: ∀n a w nxt,J n a w→(∀m a' w',m<n→J m a' w'→nxt a' w')→body a w nxt):loop1 a w body:=
 ⟨λa w=>∃n,J n a w,λa w=>Zpx λn=>J n a w,⟨n,h0⟩,λa w ⟨n,h⟩=>hs _ a w _ (Zf1 (p:=λn=>J n a w) h).1 λm a' w' hm hJ=>⟨⟨m,hJ⟩,Nat.lt_of_le_of_lt ((Zf1 (p:=λn=>J n a' w') hJ).2 m hJ) hm⟩⟩
theorem loop2.ghost{α β:Type}{a:α}{b:β}{w:World}{body:α→β→World→(α→β→World→Prop)→Prop}(J:Nat→α→β→World→Prop)(n:Nat)(h0:J n a b w)
  (hs: ∀n a b w nxt,J n a b w→(∀m a' b' w',m<n→J m a' b' w'→nxt a' b' w')→body a b w nxt):loop2 a b w body:=
 ⟨λa b w=>∃n,J n a b w,λa b w=>Zpx λn=>J n a b w,⟨n,h0⟩,λa b w ⟨n,h⟩=>hs _ a b w _ (Zf1 (p:=λn=>J n a b w) h).1 λm a' b' w' hm hJ=>⟨⟨m,hJ⟩,Nat.lt_of_le_of_lt ((Zf1 (p:=λn=>J n a' b' w') hJ).2 m hJ) hm⟩⟩
theorem loop3.ghost{α β γ:Type}{a:α}{b:β}{c:γ}{w:World}{body:α→β→γ→World→(α→β→γ→World→Prop)→Prop}(J:Nat→α→β→γ→World→Prop)(n:Nat)(h0:J n a b c w)
  (hs: ∀n a b c w nxt,J n a b c w→(∀m a' b' c' w',m<n→J m a' b' c' w'→nxt a' b' c' w')→body a b c w nxt):loop3 a b c w body:=
 ⟨λa b c w=>∃n,J n a b c w,λa b c w=>Zpx λn=>J n a b c w,⟨n,h0⟩,λa b c w ⟨n,h⟩=>hs _ a b c w _ (Zf1 (p:=λn=>J n a b c w) h).1 λm a' b' c' w' hm hJ=>⟨⟨m,hJ⟩,Nat.lt_of_le_of_lt ((Zf1 (p:=λn=>J n a' b' c' w') hJ).2 m hJ) hm⟩⟩
theorem gCall.named{τ:Sort _}{g:Bool}{k:τ}{A B:τ→Prop}(h: ∀J,J=k→(g=true→A J)∧(g=false→B J)):gCall g k A B:=h k rfl
theorem OwnS.but{α:Type}{E:Enc α}{T:TypeId}{w w':World}{lo g:Nat}{S:Nat→Prop}{s:Sl}{l:List α}(h:OwnS E T w lo S s l)(hb:But g w w')(hS: ¬S g)(hg: ∀ad,s.a=some ad→g≠ad.block):OwnS E T w' lo S s l:=
 h.keep hb.1 λb hlt hb'=>hb.2.2.2.2 b hlt (by
  rcases hb' with hb'|⟨ad,ha,rfl⟩
  ·rintro rfl; exact hS hb'
  ·exact Ne.symm (hg ad ha))
theorem OwnS.rowG{α β:Type}{E:Enc α}{T:TypeId}{w:World}{lo:Nat}{S:Nat→Prop}{s:Sl}{l:List α}(f:β→List Value)(r:β→α→Prop)(hf: ∀x cs,E.rep w S x cs→ ∃y,cs=f y∧r y x)(h:OwnS E T w lo S s l):
  (s=Sl.nil∧l= [])∨ ∃(g:Nat) (z:List (β×α)) (tail:List Value),s.a=some ⟨g,0,none⟩∧lo≤g∧z.map Prod.snd=l∧(∀p∈z,r p.1 p.2)∧RowB f w g (z.map Prod.fst) tail∧l.length≤s.cap∧s.cap≤maxLen:=by
 obtain⟨css,ho,hl,hr⟩:=h.row
 rcases ho.2 with⟨hv,hn⟩|⟨g,cap,cur,hv,hlo,hh,hc,hm,hcs,ht⟩
 ·left
  have h0:l= []:=List.eq_nil_of_length_eq_zero (by rw[←h.len]; exact hn)
  refine⟨?_,h0⟩
  obtain⟨a,n,c⟩:=s
  simp only[Sl.v,Value.slice.injEq]at hv
  obtain⟨rfl,rfl,rfl⟩:=hv; rfl
 ·right
  have hz: ∀(css:List (List Value)) (l:List α),css.length=l.length→(∀(i:Nat) (x:α),l[i]? =some x→ ∃cs,css[i]? =some cs∧E.rep w S x cs)→ ∃z:List (β×α),z.map Prod.snd=l∧(∀p∈z,r p.1 p.2)∧(z.map Prod.fst).map f=css:=by
   intro css
   induction css with
   |nil=>intro l hl _; exact⟨[],(List.eq_nil_of_length_eq_zero hl.symm).symm,by simp,rfl⟩
   |cons c css ih=>
    intro l hl hr
    cases l with
    |nil=>cases hl
    |cons x l=>
     obtain⟨cs,h1,h2⟩:=hr 0 x rfl
     simp only[List.getElem?_cons_zero,Option.some.injEq]at h1
     subst h1
     obtain⟨y,hy,hyx⟩:=hf x _ h2
     obtain⟨z,k1,k2,k3⟩:=ih l (by simpa using hl) λi x hx=>hr (i+1) x hx
     refine⟨(y,x)::z,by simp[k1],λp hp=>?_,by simp only[List.map_cons,k3,hy]⟩
     rcases List.mem_cons.1 hp with rfl|hp
     ·exact hyx
     ·exact k2 p hp
  obtain⟨z,k1,k2,k3⟩:=hz css l hl hr
  simp only[Sl.v,Value.slice.injEq]at hv
  obtain⟨ha,_,hcap⟩:=hv
  refine⟨g,z,cur.toList.drop (css.flatten).length,ha,hlo,k1,k2,⟨T,rfl,rfl,?_⟩,by rw[hcap]; simpa[h.len]using hc,by rw[hcap]; exact hm⟩
  rw[k3]
  have e:css.flatten++cur.toList.drop css.flatten.length=cur.toList:=by
   have:css.flatten=cur.toList.take css.flatten.length:=by
    rw[←ht]; simp
   conv=>lhs; lhs; rw[this]
   exact List.take_append_drop _ _
  rw[e]; simpa using hh
theorem RowB.read{α β:Type}{E:Enc α}{w:World}{S:Nat→Prop}{g cap:Nat}{f:β→List Value}{z:List (β×α)}{tail:List Value}(h:RowB f w g (z.map Prod.fst) tail)(hk: ∀x,(f x).length=E.n)(hr: ∀p∈z,E.rep w S p.2 (f p.1))(hc:z.length≤cap)(hm:cap≤maxLen)(hb:z.length*E.bytes≤room):
  SlR E w (λb=>S b∨b=g) ⟨some ⟨g,0,none⟩,z.length,cap⟩ (z.map Prod.snd):=by
 refine⟨by simp,by simpa using hc,hm,by simpa using hb,.inr ⟨⟨g,0,none⟩,rfl,.inr rfl,λi x hx=>?_⟩⟩
 rw[List.getElem?_map]at hx
 cases hz:z[i]? with
 |none=>rw[hz]at hx; cases hx
 |some p=>
  rw[hz]at hx
  simp only[Option.map_some,Option.some.injEq]at hx
  subst hx
  exact⟨f p.1,E.mono (hr p (List.mem_of_getElem? hz)) λ_ h=>.inl h,h.ld' hk (by rw[List.getElem?_map,hz]; rfl)⟩
section
variable {α:Type} {E:Enc α} {T:TypeId} {w w':World} {lo:Nat} {S S':Nat→Prop} {s:Sl} {l:List α}
theorem Z0d{w:World}{S:Nat→Prop}: ∀(l:List α) (ad:Addr),(∀(i:Nat) (x:α),l[i]? =some x→ ∃cs,E.rep w S x cs∧ldc w (ad.add (i*E.n)) cs)→
  ∃css:List (List Value),css.length=l.length∧(∀(i:Nat) (x:α),l[i]? =some x→ ∃cs,css[i]? =some cs∧E.rep w S x cs)∧ldc w ad css.flatten∧css.flatten.length=l.length*E.n
 | [],ad,_=>⟨[],rfl,λi x h=>by simp at h,λj v h=>by simp at h,by simp⟩
 |x::r,ad,h=>by
  obtain⟨cs,h1,h2⟩:=h 0 x rfl
  obtain⟨css,h3,h4,h5,h6⟩:=Z0d r (ad.add E.n) λi y hi=>by
   obtain⟨cs,a,b⟩:=h (i+1) y (by simpa using hi)
   refine⟨cs,a,?_⟩
   rw[Zfi,show E.n+i*E.n=(i+1)*E.n by rw[Nat.add_mul]; omega]
   exact b
  have hl:=E.len h1
  refine⟨cs::css,by simp[h3],λi y hi=>?_,λj v hj=>?_,by rw[List.flatten_cons,List.length_append,hl,h6,List.length_cons,Nat.add_mul]; omega⟩
  ·cases i with
   |zero=>simp at hi; subst hi; exact⟨cs,rfl,h1⟩
   |succ i=>obtain⟨c,a,b⟩:=h4 i y (by simpa using hi); exact⟨c,by simpa using a,b⟩
  ·rw[List.flatten_cons]at hj
   by_cases hjl:j<cs.length
   ·rw[List.getElem?_append_left hjl]at hj
    have:=h2 j v hj
    rw[Nat.zero_mul]at this
    exact this
   ·rw[List.getElem?_append_right oM]at hj
    have:=h5 (j - cs.length) v hj
    rw[Zfi,show E.n+(j - cs.length)=j by omega]at this
    exact this
theorem Z20{w:World}{S:Nat→Prop}{l:List α}{css:List (List Value)}(hl:css.length=l.length)(hr: ∀(i:Nat) (x:α),l[i]? =some x→ ∃cs,css[i]? =some cs∧E.rep w S x cs): ∀u∈css.flatten,u.oneCell'=true:=by
 intro u hu
 obtain⟨cs,hcs,huc⟩:=List.mem_flatten.1 hu
 obtain⟨k,hk,he⟩:=List.mem_iff_getElem.1 hcs
 have hkl:k<l.length:=by rw[←hl]; exact hk
 obtain⟨cs',h3,h4⟩:=hr k _ (List.getElem?_eq_getElem hkl)
 rw[List.getElem?_eq_getElem hk,he,Option.some.injEq]at h3
 subst h3
 exact E.one h4 u huc
theorem OwnS.appAll{P:Program}{t e:TypeId}{k:Sl→World→Prop}{x:Sl}{m:List α}(h:OwnS E e w lo S s l)(hT:ApT P t e E.n E.bytes)(hlo:lo≤w.heap.size)(hx:SlR E w S' x m)(hS': ∀b,S' b→b<w.heap.size)(hap: ∀ad,s.a=some ad→ ¬S' ad.block)
  (hb:(l.length+m.length)*E.bytes≤room) (hm:l.length+m.length≤maxLen)
  (hk: ∀(r:Sl) (w':World),OwnS E e w' lo (λb=>S b∨S' b) r (l++m)→Below lo w w'→(∀b,b<w.heap.size→(∀ad,s.a=some ad→b≠ad.block)→w'.heap[b]? =w.heap[b]?)→(∀ad,r.a=some ad→(s.a=some ad∨w.heap.size≤ad.block))→k r w'):appS P t t s (Sl.v x) w k:=by
 intro ty
 obtain⟨css,ho,hl,hr⟩:=h.row
 obtain⟨ht,i,z,hi,hz,hsz,hby,hzs,hn0⟩:=hT
 have hnl:=h.len
 cases hxa:x.a with
 |none=>
  have hm0:m= []:=by
   rcases hx.2.2.2.2 with h0|⟨ad,h1,_⟩
   ·exact h0
   ·rw[hxa]at h1; cases h1
  subst hm0
  have hlen:x.len=0:=hx.1
  have hrun:(Builtin.append_ #[t,t] ty #[s.v,x.v]).run P w= .ok s.v w:=by
   have hxv:x.v= .slice none 0 x.cap:=by unfold Sl.v; rw[hxa,hlen]
   rw[hxv]
   rcases ho.2 with⟨hv,_⟩|⟨g,cap,cur,hv,_,_,hnc,_⟩
   ·rw[hv]; simp[Builtin.append_,run_underlying ht,sizeOf,typeInfo,hi,Builtin.lenOf,Builtin.firstCells]
   ·rw[hv]; simp[Builtin.append_,run_underlying ht,sizeOf,typeInfo,hi,Builtin.lenOf,Builtin.firstCells,hnc,storeCells]
  refine⟨_,w,hrun,s,rfl,hk s w ?_ (Below.refl _ _) (λ_ _ _=>rfl) λad ha=>.inl ha⟩
  rw[List.append_nil]
  refine h.mono (λ_ h=>.inl h) (λb hb=>?_) λad ha hb=>?_
  ·rcases hb with hb|hb
   ·exact h.lt b hb
   ·exact hS' b hb
  ·rcases hb with hb|hb
   ·exact h.apart ad ha hb
   ·exact hap ad ha hb
 |some ad=>
  have hrows: ∀(i:Nat) (y:α),m[i]? =some y→ ∃cs,E.rep w S' y cs∧ldc w (ad.add (i*E.n)) cs:=by
   intro i y hi
   obtain⟨ad',cs,h1,h2,h3,h4⟩:=hx.get hi
   rw[hxa,Option.some.injEq]at h1
   subst h1
   exact⟨cs,h3,h4⟩
  obtain⟨css2,hl2,hr2,hc2,hf2⟩:=Z0d m ad hrows
  have hxv:x.v= .slice (some ad) m.length x.cap:=by unfold Sl.v; rw[hxa,hx.1]
  obtain⟨v',w',hrun,hown,hgr,hblk⟩:=Znk (P:=P) (ty:=ty) (m:=m.length) (c:=x.cap) ht hi hz (by rw[hsz]; exact hzs) (by rw[hsz]; exact hn0) (by rw[hsz]; exact ho) (by rw[hsz]; exact hf2) (λj u hj=>hc2 j u hj) (Z20 hl2 hr2) oM (by rw[hnl,hby]; exact hb) hlo
  rw[hsz]at hown
  have hv': ∃r:Sl,v'=r.v∧r.len=s.len+m.length:=by
   rcases hown.2 with⟨hv,hn⟩|⟨g,cap,cur,hv,_⟩
   ·exact⟨⟨none,0,0⟩,hv,hn.symm⟩
   ·exact⟨⟨_,_,_⟩,hv,rfl⟩
  obtain⟨r,rfl,hrl⟩:=hv'
  have hreg: ∀ad,r.a=some ad→(s.a=some ad∨w.heap.size≤ad.block):=by
   intro ad had
   have h2:ad=⟨ad.block,0,none⟩:=by
    rcases hown.2 with⟨hv,_⟩|⟨g,cap,cur,hv,_⟩
    ·simp[Sl.v,had]at hv
    ·simp[Sl.v,had]at hv; rw[hv.1]
   have hob:(Sl.v r).ownBlock=some ad.block:=by simp[Value.ownBlock,Sl.v,had]
   rcases hblk with hb|hb
   ·left
    rw[hob]at hb
    cases hsa:s.a with
    |none=>simp[Value.ownBlock,Sl.v,hsa]at hb
    |some ad'=>
     simp[Value.ownBlock,Sl.v,hsa]at hb
     have:=(h.block hsa).2.2
     rw[this,←hb,←h2]
   ·right
    rw[hob,Option.some.injEq]at hb; omega
  have hold: ∀b,b<w.heap.size→(∀ad,s.a=some ad→b≠ad.block)→w'.heap[b]? =w.heap[b]? :=by
   intro b hbl hne
   refine hgr.block b hbl ?_
   simp only[Value.ownBlock,Sl.v]
   cases hsa:s.a with
   |none=>simp
   |some ad=>simp only[ne_eq,Option.some.injEq]; exact hne ad hsa
  rw[hxv]
  refine⟨_,w',hrun,r,rfl,hk r w' ?_ ⟨hgr.os,hgr.tape,hgr.output,hgr.size,λb hb=>hold b oM λad ha e=>by have:=(h.block ha).1; omega⟩ hold hreg⟩
  have hkeep: ∀b,b<w.heap.size→(S b∨S' b)→w'.heap[b]? =w.heap[b]? :=λb hbl hbs=>hold b hbl λad ha e=>by
   subst e
   rcases hbs with hbs|hbs
   ·exact h.apart _ ha hbs
   ·exact hap _ ha hbs
  refine⟨⟨css++css2,?_,by simp[hl,hl2],λj y hj=>?_⟩,by simp[hrl,hnl],λb hbs=>?_,λad had hbs=>?_⟩
  ·rw[hrl,List.flatten_append]; exact hown
  ·rw[List.getElem?_append]at hj
   split at hj
   ·rename_i hjl
    obtain⟨cs',h1,h2⟩:=hr j y hj
    exact⟨cs',by rw[List.getElem?_append_left oM]; exact h1,E.keep (E.mono h2 λ_ h=>.inl h) λb hb hlt=>hkeep b hlt hb⟩
   ·rename_i hjl
    obtain⟨cs',h1,h2⟩:=hr2 (j - l.length) y hj
    exact⟨cs',by rw[List.getElem?_append_right oM,hl]; exact h1,E.keep (E.mono h2 λ_ h=>.inr h) λb hb hlt=>hkeep b hlt hb⟩
  ·have:b<w.heap.size:=by
    rcases hbs with hbs|hbs
    ·exact h.lt b hbs
    ·exact hS' b hbs
   have:=hgr.size; omega
  ·rcases hreg ad had with h1|h1
   ·rcases hbs with hbs|hbs
    ·exact h.apart ad h1 hbs
    ·exact hap ad h1 hbs
   ·have:ad.block<w.heap.size:=by
     rcases hbs with hbs|hbs
     ·exact h.lt _ hbs
     ·exact hS' _ hbs
    omega
end
def SlP{α:Type}(E:Enc α)(w:World)(S:Nat→Prop)(s:Sl)(l:List α):Prop:=
 SlR E w S s l∧(l= []∨ ∃g cur t,s.a=some ⟨g,0,none⟩∧S g∧w.heap[g]? =some (.cells cur t (0,0))∧l.length*E.n≤cur.size)
section
variable {α:Type} {E:Enc α} {w w':World} {S S':Nat→Prop} {s:Sl} {l:List α}
theorem SlP.mono(h:SlP E w S s l)(hs: ∀b,S b→S' b):SlP E w S' s l:=⟨h.1.mono hs,h.2.imp id λ⟨g,cur,t,a,b,c,d⟩=>⟨g,cur,t,a,hs _ b,c,d⟩⟩
theorem SlP.keep(h:SlP E w S s l)(hk:Keep S w w'):SlP E w' S s l:=⟨h.1.keep hk,h.2.imp id λ⟨g,cur,t,a,b,c,d⟩=>⟨g,cur,t,a,b,(hk g b (lt_of_block c)).trans c,d⟩⟩
theorem SlP.ext(h:SlP E w S s l)(hx:Ext w w'):SlP E w' S s l:=h.keep (hx.keep S)
theorem SlP.but{g:Nat}(h:SlP E w S s l)(hb:But g w w')(hn: ¬S g):SlP E w' S s l:=h.keep (hb.keep hn)
theorem SlP.nil:SlP E w S Sl.nil ([]:List α):=⟨SlR.nil trivial,.inl rfl⟩
theorem SlP.bound(hf: ∀{w S S' x cs},E.rep w S x cs→E.rep w S' x cs)(h:SlP E w S s l):SlP E w (λb=>S b∧b<w.heap.size) s l:=by
 obtain⟨⟨h1,h2,h3,h4,h5⟩,h6⟩:=h
 rcases h6 with h6|⟨g,cur,t,a,b,c,d⟩
 ·exact⟨⟨h1,h2,h3,h4,.inl h6⟩,.inl h6⟩
 ·refine⟨⟨h1,h2,h3,h4,h5.imp id λ⟨ad,k1,k2,k3⟩=>⟨ad,k1,⟨k2,?_⟩,λi x hx=>let⟨cs,e1,e2⟩:=k3 i x hx;⟨cs,hf e1,e2⟩⟩⟩,.inr ⟨g,cur,t,a,⟨b,lt_of_block c⟩,c,d⟩⟩
  rw[a,Option.some.injEq]at k1
  subst k1; exact lt_of_block c
theorem OwnS.readP{T:TypeId}{lo:Nat}(h:OwnS E T w lo S s l)(hb:l.length*E.bytes≤room)(hm:l.length≤maxLen):SlP E w (λb=>S b∨ ∃ad,s.a=some ad∧b=ad.block) s l:=by
 refine⟨h.read hb hm,?_⟩
 obtain⟨css,ho,hl,hr⟩:=h.row
 rcases ho.2 with⟨hv,hn⟩|⟨g,cap,cur,hv,hg,hh,hc,hcm,hcs,ht⟩
 ·exact .inl (List.eq_nil_of_length_eq_zero (by rw[←h.len]; exact hn))
 ·simp[Sl.v]at hv
  obtain⟨ha,hcap⟩:=hv
  refine .inr ⟨g,cur,T,ha,.inr ⟨_,ha,rfl⟩,hh,?_⟩
  rw[hcs,←h.len]; exact Nat.mul_le_mul_right _ hc
end
def depP:Enc Dep where
 n:=2
 bytes:=40
 rep:=λw S d cs=>Str d.name∧ ∃s,cs= [.string d.name,s.v]∧SlP spanE w S s d.range
 len:=λ⟨_,s,h,_⟩=>by rw[h]; rfl
 one:=λ⟨_,s,h,_⟩ v hv=>by rw[h]at hv; simp[Sl.v]at hv; rcases hv with rfl|rfl<;>rfl
 mono:=λ⟨h0,s,h,hr⟩ hs=>⟨h0,s,h,hr.mono hs⟩
 keep:=λ⟨h0,s,h,hr⟩ hk=>⟨h0,s,h,hr.keep hk⟩
def wantP:Enc Want where
 n:=3
 bytes:=48
 rep:=λw S d cs=>Str d.name∧ ∃s,cs= [.string d.name,.int .i64 d.kind,s.v]∧SlP spanE w S s d.range
 len:=λ⟨_,s,h,_⟩=>by rw[h]; rfl
 one:=λ⟨_,s,h,_⟩ v hv=>by rw[h]at hv; simp[Sl.v]at hv; rcases hv with rfl|rfl|rfl<;>rfl
 mono:=λ⟨h0,s,h,hr⟩ hs=>⟨h0,s,h,hr.mono hs⟩
 keep:=λ⟨h0,s,h,hr⟩ hk=>⟨h0,s,h,hr.keep hk⟩
theorem SlR.conv{α:Type}{E F:Enc α}{w:World}{S:Nat→Prop}{s:Sl}{l:List α}(h:SlR E w S s l)(hn:E.n=F.n)(hb:E.bytes=F.bytes)(hr: ∀x∈l,∀cs,E.rep w S x cs→F.rep w S x cs):SlR F w S s l:=
 ⟨h.1,h.2.1,h.2.2.1,by rw[←hb]; exact h.2.2.2.1,h.2.2.2.2.imp id λ⟨ad,a,b,c⟩=>⟨ad,a,b,λi x hx=>let⟨cs,k1,k2⟩:=c i x hx;⟨cs,hr x (List.mem_of_getElem? hx) cs k1,by rw[←hn]; exact k2⟩⟩⟩
theorem SlP.dep{w:World}{S:Nat→Prop}{s:Sl}{l:List Dep}(h:SlP depP w S s l):SlR depE w S s l:=h.1.conv rfl rfl λx _ cs ⟨h0,s,h1,h2⟩=>⟨h0,s,h1,h2.1⟩
end Go.Hal
namespace Go.Hal
open Go.Proofs.Tryz
open Go Go.RowKit Go.ChangeShapes Go.WideShapes Go.ChangeAt
def Here(W:World):Nat→Prop:=λb=>b<W.heap.size
theorem Here.old(W:World):Old (Here W) W:=λ_ h=>h
section
variable {H:Type} {enc:TypeId×Value→H} {P:Program} {W:World}
def Zg1(l:List Nat):Prop:=l.all (λx=>decide (x≤reachBytes))=true
theorem Zon{a b:List Nat}:Zg1 (a++b)↔Zg1 a∧Zg1 b:=by unfold Zg1; rw[List.all_append,Bool.and_eq_true]
theorem Zxi{a:Nat}{b:List Nat}:Zg1 (a::b)↔a≤reachBytes∧Zg1 b:=by unfold Zg1; rw[List.all_cons,Bool.and_eq_true,decide_eq_true_eq]
abbrev Tr(enc:TypeId×Value→H)(P:Program)(W:World)(n:Nat)(t:TypeId)(cs:List Value)(x:DataW H×List MemPlace):Prop:=DataW.trod enc P W 0 (λ_=>true) true n t cs=some x
def Rd(H:Type)(P:Program)(W:World){α:Type}(E:Enc α)(t:TypeId):Prop:=∀(enc:TypeId×Value→H) n cs x,Tr enc P W n t cs x→Zg1 (x.1.weights P t)→ ∃y,E.rep W (Here W) y cs
def RdS(H:Type)(P:Program)(W:World){α:Type}(E:Enc α)(t:TypeId):Prop:=∀(enc:TypeId×Value→H) n cs x,Tr enc P W n t cs x→Zg1 (x.1.weights P t)→ ∃(s:Sl) (l:List α),cs= [s.v]∧SlR E W (Here W) s l∧l.length*E.bytes≤reachBytes
theorem Zpd{e:TypeId}{l:List (DataW H)}(h:Zg1 (DataW.weightsAll P e l)){d:DataW H}(hd:d∈l):Zg1 (d.weights P e):=by
 induction l with
 |nil=>cases hd
 |cons a r ih=>
  simp only[DataW.weightsAll]at h
  obtain⟨h1,h2⟩:=Zon.1 h
  rcases List.mem_cons.1 hd with rfl|hd
  ·exact h1
  ·exact ih h2 hd
theorem Zhy: ∀{ts:List TypeId} {ds:List (DataW H)},Zg1 (DataW.weightsEach P ts ds)→ ∀{i:Nat} {t:TypeId} {d:DataW H},ts[i]? =some t→ds[i]? =some d→Zg1 (d.weights P t)
 | [],_,_,i,t,d,h1,_=>by simp at h1
 |_::_,[],_,i,t,d,_,h2=>by simp at h2
 |a::ts,b::ds,h,i,t,d,h1,h2=>by
  simp only[DataW.weightsEach]at h
  obtain⟨k1,k2⟩:=Zon.1 h
  cases i with
  |zero=>
   simp only[List.getElem?_cons_zero,Option.some.injEq]at h1 h2
   subst h1; subst h2; exact k1
  |succ i=>exact Zhy k2 (i:=i) (by simpa using h1) (by simpa using h2)
theorem Znc{α:Type}{E:Enc α}{t e:TypeId}(ht:P.underlying t=some (.slice e))(hc:P.cellsOf e=E.n)(hb:P.bytesOf e=E.bytes)(hn:0<E.n)(hE:Rd H P W E e):RdS H P W E t:=by
 intro enc n cs x h hw
 rcases Go.Deep.open_slice ht h with⟨rfl,rfl⟩|⟨a,len,cap,m,n',D,Pl,rfl,_,hlc,hcm,hm,rfl,hel⟩
 ·exact⟨Sl.nil,[],rfl,SlR.nil trivial,by simp[reachBytes]⟩
 ·simp only[if_true]at hm
  obtain rfl:cap=m:=hm.symm
  simp only[DataW.weights,ht]at hw
  obtain⟨hw1,hw2⟩:=Zxi.1 hw
  obtain⟨hw3,_⟩:=Zon.1 hw2
  rw[hc]at hel
  have hrow: ∀i,i<len→ ∃y cs',E.rep W (Here W) y cs'∧Go.Hal.ldc W (a.add (i*E.n)) cs':=λi hi=>by
   obtain⟨cs',h1,h2⟩:=hel i oM
   obtain⟨_,hlen,hcell⟩:=World.cells?_some h1
   obtain⟨y,hy⟩:=hE enc n' cs' _ h2 (Zpd hw3 (List.mem_map_of_mem (List.mem_range.2 hi)))
   exact⟨y,cs',hy,λj v hj=>by
    have hjl:=(List.getElem?_eq_some_iff.1 hj).1
    exact(hcell j oM).trans hj⟩
  have hlist: ∀k,k≤len→ ∃l:List α,l.length=k∧ ∀(i:Nat) (y:α),l[i]? =some y→ ∃cs',E.rep W (Here W) y cs'∧Go.Hal.ldc W (a.add (i*E.n)) cs':=λk=>by
   induction k with
   |zero=>intro _; exact⟨[],rfl,by simp⟩
   |succ k ih=>
    intro hk
    obtain⟨l,hl,hr⟩:=ih oM
    obtain⟨y,cs',h1,h2⟩:=hrow k oM
    refine⟨l++ [y],by simp[hl],λi z hz=>?_⟩
    rw[List.getElem?_append]at hz
    split at hz
    ·exact hr i z hz
    ·rename_i hi
     have:i=k:=by
      have:=(List.getElem?_eq_some_iff.1 hz).1
      simp at this; omega
     subst this
     simp[hl]at hz
     subst hz
     exact⟨cs',h1,h2⟩
  obtain⟨l,hl,hr⟩:=hlist len nR
  have hbytes:l.length*E.bytes≤reachBytes:=by
   refine Nat.le_trans (Nat.mul_le_mul_right _ (show l.length≤((List.range len).map D).length+((List.range (cap - len)).map λj=>D (len+j)).length by simp[hl])) ?_
   rw[hb]at hw1; exact hw1
  refine⟨⟨some a,len,cap⟩,l,rfl,⟨hl.symm,by rw[hl]; exact hlc,hcm,by unfold room; unfold reachBytes at hbytes; omega,?_⟩,hbytes⟩
  rcases Nat.eq_zero_or_pos len with h0|h0
  ·left; exact List.eq_nil_of_length_eq_zero oM
  ·right
   refine⟨a,rfl,?_,hr⟩
   obtain⟨y,hy⟩: ∃y,l[0]? =some y:=⟨_,List.getElem?_eq_getElem oM⟩
   obtain⟨cs',h1,h2⟩:=hr 0 y hy
   have hl0:=E.len h1
   have hc0:=h2 0 cs'[0] (List.getElem?_eq_getElem oM)
   have:=World.block_lt_of_cell? W _ hc0
   rw[Ze5,Ze5]at this
   exact this
theorem Zbf{fs:Array Field}{t:TypeId}{n:Nat}{cs:List Value}{x:DataW H×List MemPlace}(ht:P.underlying t=some (.struct fs))(h:Tr enc P W n t cs x)(hw:Zg1 (x.1.weights P t))(i ft off c:Nat)(hf: ∃f,fs[i]? =some f∧f.type=ft∧f.offset=off)(hc:P.cellsOf ft=c):
  ∃y m,Tr enc P W m ft ((cs.drop off).take c) y∧Zg1 (y.1.weights P ft):=by
 obtain⟨f,hf,rfl,rfl⟩:=hf
 subst hc
 obtain⟨xs,m,_,rfl,_,hlen,hel⟩:=DataW.trod_struct ht h
 have hi:i<xs.length:=by rw[hlen]; exact(Array.getElem?_eq_some_iff.1 hf).1
 have h1:=hel i f hf
 rw[List.getElem?_eq_getElem hi]at h1
 refine⟨xs[i],m,h1,?_⟩
 simp only[DataW.weights,ht]at hw
 exact Zhy hw (i:=i) (by simp[hf]) (by simp[List.getElem?_eq_getElem hi])
theorem Zms{fs:Array Field}{t:TypeId}{n:Nat}{cs:List Value}{x:DataW H×List MemPlace}(ht:P.underlying t=some (.struct fs))(h:Tr enc P W n t cs x):cs.length=P.cellsOf t:=by
 obtain⟨xs,m,_,_,hl,_⟩:=DataW.trod_struct ht h
 exact hl
theorem Zlz(hl:laidOutB P=true){W':World}(hb:Below W.heap.size W W'): ∀{ts:List TypeId} {vs:List Value} {ds:List (DataW H)} {ps:List MemPlace},(∀t∈ts,P.readableRec t=true∧t<P.types.size)→(∀x∈ps,x.block<W.heap.size)→
  DataW.TrodAll enc P W 0 (λ_=>true) true ts vs ds ps→DataW.TrodAll enc P W' 0 (λb=>decide (b<W.heap.size)) true ts vs ds ps
 | [],vs,ds,ps,_,_,h=>by
  obtain⟨rfl,rfl,rfl⟩:=trodAll_nil h
  exact trodAll_mk0
 |t::ts,vs,ds,ps,hr,hlt,h=>by
  obtain⟨v,vs',d,ds',p,p',rfl,rfl,rfl,h1,h2⟩:=trodAll_cons h
  exact trodAll_cons_mk (Go.RowKit.Below.trod hl (hr t (.head _)).1 (hr t (.head _)).2 h1 hb λx hx=>hlt x (List.mem_append_left _ hx)) (Zlz hl hb (λt ht=>hr t (.tail _ ht)) (λx hx=>hlt x (List.mem_append_right _ hx)) h2)
theorem Z2a{f:Func}{s:ChangeSpec}{W':World}{args:Array Value}{ds gs:List (DataW H)}{before:List MemPlace}(hl:laidOutB P=true)(hr: ∀t∈f.params.toList,P.readableRec t=true∧t<P.types.size){bt:TypeId}(hres:f.resultTypes= #[bt])(hbt:P.underlying bt=some .bool)(hv:s.vars= [])
  (hW:DataW.Whole enc P f.params.toList s.vars false W args.toList ds gs before) (hs:ds.length=f.params.toList.length→s.fn H ds={results:=[.lit (.bool true)],args:=ds}) (hb:Ext W W'):s.post enc P f false true false false W args (.bool true) W':=by
 have hW':=hW
 obtain⟨p,q,hA,hV,rfl,_,_⟩:=hW
 rw[hv]at hV
 obtain⟨rfl,rfl⟩:=trodVars_none hV
 have hA:DataW.TrodAll enc P W 0 (λ_=>true) true f.params.toList args.toList ds p:=hA
 have hlt: ∀x∈p,x.block<W.heap.size:=λx hx=>by simpa using hW'.lt x (List.mem_append_left _ hx)
 have hf:=hs (Go.trodAll_length hA).2
 rw[←List.append_nil ds]at hf
 refine⟨ds,[],_,[],p,[],hW',?_,?_,?_,Go.RowKit.Below.frame hb _,nO⟩
 ·rw[hf,hres]
  exact trodAll_mk1 (shut_bool hbt true)
 ·rw[hf,List.append_nil]
  exact Zlz hl hb hr hlt hA
 ·rw[hf,hv]; rfl
end
end Go.Hal
namespace Go.Hal
open Go.Proofs.Tryz
open Go Go.RowKit Go.ChangeShapes Go.WideShapes Go.ChangeAt Go.Proofs
theorem Z45:laidOutB prog=true:=kR
section
variable {H:Type} {W:World}
theorem ceI:prog.cellsOf 3=1:=kR
theorem ceS:prog.cellsOf 9=1:=kR
theorem ceV:prog.cellsOf 50=3:=kR
theorem ceSp:prog.cellsOf 193=6:=kR
theorem ceD:prog.cellsOf 152=2:=kR
theorem ceP:prog.cellsOf 78=4:=kR
theorem ceK:prog.cellsOf 52=7:=kR
theorem ceLs:prog.cellsOf 150=1:=kR
theorem ceLd:prog.cellsOf 23=1:=kR
theorem ceLk:prog.cellsOf 22=1:=kR
theorem ceLp:prog.cellsOf 26=1:=kR
theorem rdI{enc:TypeId×Value→H}{n:Nat}{cs:List Value}{x:DataW H×List MemPlace}(h:Tr enc prog W n 3 cs x): ∃k,cs= [.int .i64 k]:=by
 obtain⟨k,h1,_⟩:=DataW.trod_int underlying3 h
 exact⟨k,h1⟩
theorem Z5k{enc:TypeId×Value→H}{n:Nat}{cs:List Value}{x:DataW H×List MemPlace}(h:Tr enc prog W n 9 cs x): ∃s:ByteArray,cs= [.string s]∧Str s:=by
 obtain⟨s,h1,_,h2⟩:=DataW.trod_string underlying9 h
 exact⟨s,h1,h2⟩
theorem len3{α:Type}{l:List α}(h:l.length=3): ∃a b c,l= [a,b,c]:=by
 match l,h with
 | [a,b,c],_=>exact⟨a,b,c,rfl⟩
theorem Z2x{enc:TypeId×Value→H}{n:Nat}{cs:List Value}{x:DataW H×List MemPlace}(h:Tr enc prog W n 50 cs x)(hw:Zg1 (x.1.weights prog 50)): ∃v:Ver,cs=v.c:=by
 have hl:=Zms underlying50 h
 rw[ceV]at hl
 obtain⟨y0,m0,h0,_⟩:=Zbf underlying50 h hw 0 3 0 1 ⟨_,rfl,rfl,rfl⟩ ceI
 obtain⟨y1,m1,h1,_⟩:=Zbf underlying50 h hw 1 3 1 1 ⟨_,rfl,rfl,rfl⟩ ceI
 obtain⟨y2,m2,h2,_⟩:=Zbf underlying50 h hw 2 3 2 1 ⟨_,rfl,rfl,rfl⟩ ceI
 obtain⟨a,b,c,rfl⟩:=len3 hl
 obtain⟨k0,e0⟩:=rdI h0
 obtain⟨k1,e1⟩:=rdI h1
 obtain⟨k2,e2⟩:=rdI h2
 simp at e0 e1 e2
 exact⟨⟨k0,k1,k2⟩,by rw[e0,e1,e2]; rfl⟩
theorem Z7m:Rd H prog W spanE 193:=by
 intro enc n cs x h hw
 have hl:=Zms underlying193 h
 rw[ceSp]at hl
 obtain⟨y0,m0,h0,w0⟩:=Zbf underlying193 h hw 0 50 0 3 ⟨_,rfl,rfl,rfl⟩ ceV
 obtain⟨y1,m1,h1,w1⟩:=Zbf underlying193 h hw 1 50 3 3 ⟨_,rfl,rfl,rfl⟩ ceV
 obtain⟨v0,e0⟩:=Z2x h0 w0
 obtain⟨v1,e1⟩:=Z2x h1 w1
 refine⟨⟨v0,v1⟩,?_,trivial⟩
 have h3:cs=cs.take 3++(cs.drop 3).take 3:=by
  conv=>lhs; rw[←List.take_append_drop 3 cs]
  rw[List.take_of_length_le (l:=cs.drop 3) (by rw[List.length_drop]; omega)]
 rw[h3]
 have e0:cs.take 3=v0.c:=e0
 rw[e0]; exact congrArg _ e1
theorem Z5j:RdS H prog W spanE 150:=Znc underlying150 ceSp kR dC Z7m
theorem Z8h:Rd H prog W depE 152:=by
 intro enc n cs x h hw
 have hl:=Zms underlying152 h
 rw[ceD]at hl
 obtain⟨y0,m0,h0,w0⟩:=Zbf underlying152 h hw 0 9 0 1 ⟨_,rfl,rfl,rfl⟩ ceS
 obtain⟨y1,m1,h1,w1⟩:=Zbf underlying152 h hw 1 150 1 1 ⟨_,rfl,rfl,rfl⟩ ceLs
 obtain⟨s,e0,hs⟩:=Z5k h0
 obtain⟨t,l,e1,ht,_⟩:=Z5j enc m1 _ _ h1 w1
 match cs,hl with
 | [a,b],_=>
  simp at e0 e1
  exact⟨⟨s,l⟩,hs,t,by rw[e0,e1],ht⟩
theorem Zog:RdS H prog W depE 23:=Znc underlying23 ceD kR dC Z8h
theorem Z8i:Rd H prog W pinE 78:=by
 intro enc n cs x h hw
 have hl:=Zms underlying78 h
 rw[ceP]at hl
 obtain⟨y0,m0,h0,w0⟩:=Zbf underlying78 h hw 0 9 0 1 ⟨_,rfl,rfl,rfl⟩ ceS
 obtain⟨y1,m1,h1,w1⟩:=Zbf underlying78 h hw 1 50 1 3 ⟨_,rfl,rfl,rfl⟩ ceV
 obtain⟨s,e0,hs⟩:=Z5k h0
 obtain⟨v,e1⟩:=Z2x h1 w1
 match cs,hl with
 | [a,b,c,d],_=>
  simp[Ver.c]at e0 e1
  exact⟨⟨s,v⟩,by rw[e0,e1.1,e1.2.1,e1.2.2]; rfl,hs⟩
theorem Z7l:RdS H prog W pinE 26:=Znc underlying26 ceP kR dC Z8i
theorem Z7k:Rd H prog W packE 52:=by
 intro enc n cs x h hw
 have hl:=Zms underlying52 h
 rw[ceK]at hl
 obtain⟨y0,m0,h0,w0⟩:=Zbf underlying52 h hw 0 9 0 1 ⟨_,rfl,rfl,rfl⟩ ceS
 obtain⟨y1,m1,h1,w1⟩:=Zbf underlying52 h hw 1 50 1 3 ⟨_,rfl,rfl,rfl⟩ ceV
 obtain⟨y2,m2,h2,w2⟩:=Zbf underlying52 h hw 2 23 4 1 ⟨_,rfl,rfl,rfl⟩ ceLd
 obtain⟨y3,m3,h3,w3⟩:=Zbf underlying52 h hw 3 23 5 1 ⟨_,rfl,rfl,rfl⟩ ceLd
 obtain⟨y4,m4,h4,w4⟩:=Zbf underlying52 h hw 4 23 6 1 ⟨_,rfl,rfl,rfl⟩ ceLd
 obtain⟨s,e0,hs⟩:=Z5k h0
 obtain⟨v,e1⟩:=Z2x h1 w1
 obtain⟨d,ld,e2,hd,_⟩:=Zog enc m2 _ _ h2 w2
 obtain⟨e,le,e3,he,_⟩:=Zog enc m3 _ _ h3 w3
 obtain⟨o,lo,e4,ho,_⟩:=Zog enc m4 _ _ h4 w4
 match cs,hl with
 | [c0,c1,c2,c3,c4,c5,c6],_=>
  simp[Ver.c]at e0 e1 e2 e3 e4
  exact⟨⟨s,v,ld,le,lo⟩,hs,d,e,o,by rw[e0,e1.1,e1.2.1,e1.2.2,e2,e3,e4]; rfl,hd,he,ho⟩
theorem Z5i:RdS H prog W packE 22:=Znc underlying22 ceK kR dC Z7k
theorem Z7n{enc:TypeId×Value→H}{t:TypeId}{v:Value}{d:DataW H}{ps:List MemPlace}(h:DataW.Trod enc prog W 0 (λ_=>true) true t v d ps): ∃n,Tr enc prog W n t v.cells.toList (d,ps):=h
end
end Go.Hal
namespace Go.Hal
open Go.Proofs.Tryz
def prt(n:Int):Bool:=decide (0≤n)&&decide (n≤999)
def Ver.may(v:Ver):Bool:=prt v.ma&&prt v.mi&&prt v.pa
def cmpI(a b:Int):Int:=if a<b then -1 else if b<a then 1 else 0
def or2(a b:Int):Int:=if a=0 then b else a
def Ver.cmp(a b:Ver):Int:=or2 (cmpI a.ma b.ma) (or2 (cmpI a.mi b.mi) (cmpI a.pa b.pa))
def Ver.num(v:Ver):Int:=(v.ma*1000+v.mi)*1000+v.pa
def Ver.rank(v:Ver):Int:=if v.may then v.num else 0
def atOk(n:Int):Bool:=decide (0≤n)&&decide (n≤999999999)
def Zk2(n:Int):Ver:=if atOk n then⟨n/1000000,n/1000%1000,n%1000⟩else⟨0,0,0⟩
theorem Zq6{n:Int}:prt n=true↔0≤n∧n≤999:=by simp[prt]
theorem Ver.may_iff{v:Ver}:v.may=true↔(0≤v.ma∧v.ma≤999)∧(0≤v.mi∧v.mi≤999)∧(0≤v.pa∧v.pa≤999):=by simp[Ver.may,Zq6,and_assoc]
theorem Ver.rank_le{v:Ver}:0≤v.rank∧v.rank≤999999999:=by
 unfold Ver.rank
 split
 ·rename_i h; have:=Ver.may_iff.1 h; unfold Ver.num; omega
 ·omega
theorem Z4m{a b:Int}:cmpI a b≤0↔a≤b:=by unfold cmpI; split<;>(try split)<;>omega
theorem Zl5{a b:Int}:cmpI a b=0↔a=b:=by unfold cmpI; split<;>(try split)<;>omega
theorem Zg5(a b:Int):(cmpI a b= -1∧a<b)∨(cmpI a b=0∧a=b)∨(cmpI a b=1∧b<a):=by unfold cmpI; split<;>(try split)<;>omega
theorem Ver.cmp_rank{a b:Ver}(ha:a.may=true)(hb:b.may=true):a.cmp b≤0↔a.rank≤b.rank:=by
 simp only[Ver.rank,ha,hb,if_true,Ver.num]
 have:=Ver.may_iff.1 ha; have:=Ver.may_iff.1 hb
 unfold Ver.cmp or2
 rcases Zg5 a.ma b.ma with h1|h1|h1<;>rcases Zg5 a.mi b.mi with h2|h2|h2<;>rcases Zg5 a.pa b.pa with h3|h3|h3<;>simp only[h1.1,h2.1,h3.1]<;>simp<;>omega
theorem Ver.cmp_eq{a b:Ver}:a.cmp b=0↔a=b:=by
 obtain⟨a1,a2,a3⟩:=a; obtain⟨b1,b2,b3⟩:=b
 simp only[Ver.mk.injEq,Ver.cmp]
 unfold or2
 rcases Zg5 a1 b1 with h1|h1|h1<;>rcases Zg5 a2 b2 with h2|h2|h2<;>rcases Zg5 a3 b3 with h3|h3|h3<;>simp only[h1.1,h2.1,h3.1]<;>simp<;>omega
theorem Zg3{v:Ver}(h:v.may=true):Zk2 v.rank=v:=by
 have h':=Ver.may_iff.1 h
 have e:v.rank=v.num:=by rw[Ver.rank,if_pos h]
 have hn:v.num=(v.ma*1000+v.mi)*1000+v.pa:=rfl
 rw[e,Zk2,if_pos (by simp[atOk]; omega)]
 obtain⟨a,b,c⟩:=v
 simp only at hn h' ⊢
 rw[Ver.mk.injEq]; omega
theorem Zqe(a b:Ver):((a.ma==b.ma)&&((a.mi==b.mi)&&((a.pa==b.pa)&&true)))=decide (a=b):=by
 obtain⟨a1,a2,a3⟩:=a; obtain⟨b1,b2,b3⟩:=b
 rw[Bool.eq_iff_iff]; simp
def Zcf:Int→List Span→Bool
 |_,[]=>true
 |least,x::r=>x.lo.may&&x.hi.may&&decide (least≤x.lo.rank)&&decide (x.lo.rank≤x.hi.rank)&&Zcf (x.hi.rank+2) r
def Z3(l:List Span):Bool:=decide (l.length≤64)&&Zcf 0 l
def Span.has(n:Int)(x:Span):Bool:=decide (x.lo.rank≤n)&&decide (n≤x.hi.rank)
def Z6(l:List Span)(v:Ver):Bool:=Z3 l&&(v.may&&l.any (Span.has v.rank))
end Go.Hal
namespace Go.Hal
open Go.Proofs.Tryz
def lowC(b:UInt8):Bool:=decide (97≤b.toNat)&&decide (b.toNat≤122)
def Zie(b:UInt8):Bool:=lowC b||(decide (48≤b.toNat)&&decide (b.toNat≤57)||decide (b.toNat=45))
def Zfl:List UInt8→Bool
 | []=>true
 |c::r=>lowC c&&r.all Zie
def Zap(s:ByteArray):Bool:=Zfl s.toList&&(!bEq s ⟨#[]⟩&&decide (s.size≤16))
theorem Zsr(l:List UInt8)(x:UInt8):Zfl (l++ [x])=(Zfl l&&(if l= []then lowC x else Zie x)):=by
 cases l with
 |nil=>simp[Zfl]
 |cons c r=>simp[Zfl,Bool.and_assoc]
theorem Zub{l m:List UInt8}(h:Zfl (l++m)=true):Zfl l=true:=by
 cases l with
 |nil=>rfl
 |cons c r=>simp[Zfl]at h ⊢; exact⟨h.1,h.2.1⟩
theorem Z3k(p:UInt8→Bool)(h:(List.range 256).all (λn=>p (UInt8.ofNat n))=true)(b:UInt8):p b=true:=by
 have:=List.all_eq_true.1 h b.toNat (List.mem_range.2 b.toNat_lt)
 simpa using this
theorem Zzj{b:UInt8}(h:lowC b=true):Zie b=true:=by simp[Zie,h]
end Go.Hal
namespace Go.Hal
open Go.Proofs.Tryz
open Go Go.RowKit Go.Proofs
theorem r02part_se{n:Int}{w:World}{R:Bool→World→Prop}(hR: ∀w',Ext w w'→R (prt n) w'):SE.Zb5 n w R:=by
 unfold SE.Zb5
 exact bound (hR _ xR)
theorem r02May_se{x y z:Int}{w:World}{R:Bool→World→Prop}(hR: ∀w',Ext w w'→R (Ver.may ⟨x,y,z⟩) w'):SE.Zbb x y z w R:=by
 unfold SE.Zbb
 refine newS.intro λ_ _ _ hb _ _=> ?_
 refine⟨_,lD,?_⟩
 refine SE.Zb5.go (r02part_se λw' hx=>⟨_,rfl,?_⟩)
 refine⟨y,λ_=>hb.at1 xT rfl,gCall.intro (prt y) (λ_ q hq=>SE.Zb5.go (r02part_se λw' hx=>⟨_,rfl,hq _ hx⟩)) λt w1 x1 ht=>?_⟩
 refine bound ⟨z,λ_=>hb.at1 xT rfl,gCall.intro (prt z) (λ_ q hq=>SE.Zb5.go (r02part_se λw' hx=>⟨_,rfl,hq _ hx⟩)) λt2 w2 x2 ht2=>?_⟩
 have e:(prt x&&t&&t2)=Ver.may ⟨x,y,z⟩:=by
  unfold Ver.may
  cases h:prt x
  ·rfl
  ·rw[ht h]
   cases h':prt y
   ·rfl
   ·rw[ht2 (by rw[h,ht h,h']; rfl)]
 rw[e]
 exact hR _ xT
theorem Zq9{a b:Ver}{w:World}{R:Int→World→Prop}(hR: ∀w',Ext w w'→R (a.cmp b) w'):SE.Zcg a.ma a.mi a.pa b.ma b.mi b.pa w R:=by
 unfold SE.Zcg
 refine newS.intro λ_ _ _ hb _ _=>newS.intro λ_ _ _ hb2 _ _=> ?_
 refine⟨_,lD,?_⟩
 refine⟨_,lD,?_⟩
 refine⟨_,lD,?_⟩
 refine newS.intro λa5 _ _ hb3 _ _=> ?_
 refine⟨_,lD,?_⟩
 refine⟨_,lD,?_⟩
 refine⟨_,lD,?_⟩
 refine newS.intro λa10 w1 _ hb4 _ _=> ?_
 refine⟨λi w'=>Ext w1 w'∧(i=0∨i=1∧a.ma=b.ma∨i=2∧a.ma=b.ma∧a.mi=b.mi∨i=3∧a=b),λi _=>3 - i.toNat,⟨Ext.refl _,.inl rfl⟩,?_⟩
 rintro i w2 ⟨x2,hi⟩
 refine⟨λh3=>bnd.drew λw3 x3=>?_,λh3=>?_⟩
 ·have key: ∀(k:Nat) (u v:Int),i=k→k<3→ [(Value.int .i64 a.ma),(Value.int .i64 a.mi),(Value.int .i64 a.pa)].drop k= [(Value.int .i64 u)]++ [(Value.int .i64 a.ma),(Value.int .i64 a.mi),(Value.int .i64 a.pa)].drop (k+1)→ [(Value.int .i64 b.ma),(Value.int .i64 b.mi),(Value.int .i64 b.pa)].drop k= [(Value.int .i64 v)]++ [(Value.int .i64 b.ma),(Value.int .i64 b.mi),(Value.int .i64 b.pa)].drop (k+1)→
    (u<v→a.cmp b= -1)→(v<u→a.cmp b=1)→(u=v→(i+1=1∧a.ma=b.ma∨i+1=2∧a.ma=b.ma∧a.mi=b.mi∨i+1=3∧a=b))→
    ∃ad,((Sl.mk (some a5) 3 3).a=some ad∧(0:Int)≤i∧i<((Sl.mk (some a5) 3 3).len:Int))∧ ∃t29,ldc w3 (ad.add (i.toNat*1)) [Value.int .i64 t29]∧ ∃ad15,((Sl.mk (some a10) 3 3).a=some ad15∧(0:Int)≤i∧i<((Sl.mk (some a10) 3 3).len:Int))∧ ∃t33,ldc w3 (ad15.add (i.toNat*1)) [Value.int .i64 t33]∧
     ((t29<t33→R (-1) w3)∧(¬t29<t33→bnd w3.drew λvw18=>∃ad19,((Sl.mk (some a5) 3 3).a=some ad19∧(0:Int)≤i∧i<((Sl.mk (some a5) 3 3).len:Int))∧ ∃t38,ldc vw18 (ad19.add (i.toNat*1)) [Value.int .i64 t38]∧ ∃ad22,((Sl.mk (some a10) 3 3).a=some ad22∧(0:Int)≤i∧i<((Sl.mk (some a10) 3 3).len:Int))∧ ∃t42,ldc vw18 (ad22.add (i.toNat*1)) [Value.int .i64 t42]∧
      ((t42<t38→R 1 vw18)∧(¬t42<t38→(Ext w1 vw18∧(Za (i+1)=0∨Za (i+1)=1∧a.ma=b.ma∨Za (i+1)=2∧a.ma=b.ma∧a.mi=b.mi∨Za (i+1)=3∧a=b))∧3 - (Za (i+1)).toNat<3 - i.toNat)))):=by
   intro k u v hk hk3 h1 h2 hlt hgt heq
   have hlen:((Sl.mk (some a5) 3 3).len:Int)=3:=rfl
   have hkk:i.toNat*1=k:=oM
   rw[hkk]
   refine⟨a5,⟨rfl,oM,by show i<3; omega⟩,u,hb3.at1 xT h1,a10,⟨rfl,oM,by show i<3; omega⟩,v,hb4.at1 xT h2,λh=>?_,λh=>bnd.drew λw4 x4=>⟨a5,⟨rfl,oM,by show i<3; omega⟩,u,hb3.at1 xT h1,a10,⟨rfl,oM,by show i<3; omega⟩,v,hb4.at1 xT h2,λh'=>?_,λh'=>?_⟩⟩
   ·rw[←hlt h]; exact hR _ xT
   ·rw[←hgt h']; exact hR _ xT
   ·have e:=heq oM
    rw[Zc oM oM]
    exact⟨⟨xT,.inr e⟩,oM⟩
  rcases hi with rfl|⟨rfl,h1⟩|⟨rfl,h1,h2⟩|⟨rfl,_⟩
  ·refine key 0 a.ma b.ma rfl oM rfl rfl ?_ ?_ λh=>.inl ⟨rfl,h⟩
   ·intro h; unfold Ver.cmp cmpI; rw[if_pos h]; rfl
   ·intro h; unfold Ver.cmp cmpI; rw[if_neg oM,if_pos h]; rfl
  ·refine key 1 a.mi b.mi rfl oM rfl rfl ?_ ?_ λh=>.inr (.inl ⟨rfl,h1,h⟩)
   ·intro h; unfold Ver.cmp; rw[Zl5.2 h1]; unfold cmpI; rw[if_pos h]; rfl
   ·intro h; unfold Ver.cmp; rw[Zl5.2 h1]; unfold cmpI; rw[if_neg oM,if_pos h]; rfl
  ·refine key 2 a.pa b.pa rfl oM rfl rfl ?_ ?_ λh=>.inr (.inr ⟨rfl,?_⟩)
   ·intro h; unfold Ver.cmp; rw[Zl5.2 h1,Zl5.2 h2]; unfold cmpI; rw[if_pos h]; rfl
   ·intro h; unfold Ver.cmp; rw[Zl5.2 h1,Zl5.2 h2]; unfold cmpI; rw[if_neg oM,if_pos h]; rfl
   ·obtain⟨a1,a2,a3⟩:=a; obtain⟨b1,b2,b3⟩:=b
    simp only at h1 h2 h
    rw[h1,h2,h]
  ·omega
 ·have:a=b:=by rcases hi with rfl|⟨rfl,h1⟩|⟨rfl,h1,h2⟩|⟨_,h⟩<;>first|omega|exact h
  have h0:=Ver.cmp_eq.2 this
  rw[←h0]
  exact hR _ xT
theorem Z28(n:Int)(h:0≤n):n.tdiv 1000000=n/1000000∧n.tdiv 1000=n/1000∧Int.tmod n 1000=n%1000:=⟨Int.tdiv_eq_ediv_of_nonneg h,Int.tdiv_eq_ediv_of_nonneg h,Int.tmod_eq_emod_of_nonneg h⟩
theorem r02Rank_se{v:Ver}{w:World}{R:Int→Bool→World→Prop}(hR: ∀w',Ext w w'→R v.rank v.may w'):SE.Zdh v.ma v.mi v.pa w R:=by
 unfold SE.Zdh
 refine newS.intro λ_ _ _ hb _ _=> ?_
 refine⟨_,_,_,lD,?_⟩
 refine SE.Zbb.go (r02May_se λw' hx=>⟨_,rfl,λh=>?_,λh=>?_⟩)
 ·have e:v.may=false:=by simpa using h
  have:=hR w' xT
  simpa[Ver.rank,e]using this
 ·have e:v.may=true:=by simpa using h
  refine⟨_,lD,?_⟩
  refine⟨_,lD,?_⟩
  refine⟨_,lD,?_⟩
  have hm:=Ver.may_iff.1 e
  rw[Zc (x:=v.ma*1000) oM oM,Zc (x:=v.ma*1000+v.mi) oM oM,Zc (x:=(v.ma*1000+v.mi)*1000) oM oM,Zc oM oM]
  have:=hR w' xT
  simpa[Ver.rank,e,Ver.num]using this
theorem Zkj{v:Ver}{w:World}{R:Bool→World→Prop}(hR: ∀w',Ext w w'→R v.may w'):SE.Zia v.ma v.mi v.pa w R:=by
 unfold SE.Zia
 refine newS.intro λ_ w1 _ hb _ _=> ?_
 refine⟨_,lD,?_⟩
 refine⟨_,lD,?_⟩
 refine⟨_,lD,?_⟩
 refine⟨λi w'=>Ext w1 w'∧(i=0∨i=1∧prt v.ma=true∨i=2∧prt v.ma=true∧prt v.mi=true∨i=3∧v.may=true),λi _=>3 - i.toNat,⟨Ext.refl _,.inl rfl⟩,?_⟩
 rintro i w2 ⟨x2,hi⟩
 refine⟨λh3=>⟨⟨oM,h3⟩,bound ⟨λh=>?_,λh=>?_⟩⟩,λh3=>?_⟩
 ·have:v.may=false:=by
   unfold Ver.may prt
   rcases hi with rfl|⟨rfl,h1⟩|⟨rfl,h1,h2⟩|⟨rfl,_⟩<;>simp at h<;>simp<;>omega
  rw[←this]; exact hR _ xT
 ·rw[Zc oM oM]
  refine⟨⟨x2,?_⟩,by show 3 - (i+1).toNat<3 - i.toNat; omega⟩
  rcases hi with rfl|⟨rfl,h1⟩|⟨rfl,h1,h2⟩|⟨rfl,_⟩
  ·refine .inr (.inl ⟨oM,?_⟩); simp at h; rw[Zq6]; omega
  ·refine .inr (.inr (.inl ⟨oM,h1,?_⟩)); simp at h; rw[Zq6]; omega
  ·refine .inr (.inr (.inr ⟨oM,?_⟩)); simp at h; rw[Ver.may,h1,h2,Bool.true_and,Bool.true_and,Zq6]; omega
  ·omega
 ·have:v.may=true:=by rcases hi with rfl|⟨rfl,h1⟩|⟨rfl,h1,h2⟩|⟨_,h⟩<;>first|omega|exact h
  rw[←this]; exact hR _ xT
theorem versAt_se{n:Int}{w:World}{R:Int→Int→Int→Bool→World→Prop}(hR: ∀w',Ext w w'→R (Zk2 n).ma (Zk2 n).mi (Zk2 n).pa (atOk n) w'):SE.Zj7 n w R:=by
 unfold SE.Zj7
 refine newS.intro λa w1 x1 hb hab _=>bound ⟨λh=>?_,λh=>?_⟩
 ·refine stw0.intro hb sI λw2 b2 _ hb2=>?_
  refine⟨_,_,_,hb2.ldc.pre rfl,?_⟩
  have e:atOk n=false:=by simp only[atOk]; simp at h ⊢; omega
  have:=hR w2 (b2.ext x1 oM)
  simpa[Zk2,e]using this
 ·have e:0≤n∧n≤999999999:=by simp at h; omega
  have ha:atOk n=true:=by simp[atOk,e]
  obtain⟨e1,e2,e3⟩:=Z28 n e.1
  rw[e2,e3,Zc (x:=n/1000) oM oM,Int.tmod_eq_emod_of_nonneg oM,Int.tdiv_eq_ediv_of_nonneg oM,Zc oM oM]
  have e4:n/1000/1000=n/1000000:=oM
  rw[e4]
  refine stw0.intro hb sI λw2 b2 _ hb2=>?_
  refine⟨_,_,_,hb2.ldc.pre rfl,?_⟩
  have:=hR w2 (b2.ext x1 oM)
  simpa[Zk2,ha]using this
theorem Zjd{v:Ver}{w:World}{R:Int→Bool→World→Prop}(hR: ∀w',Ext w w'→R v.rank v.may w'):SE.Zgn v.ma v.mi v.pa w R:=by
 unfold SE.Zgn
 refine newS.intro λ_ _ _ hb _ _=> ?_
 refine⟨_,_,_,lD,?_⟩
 refine SE.Zia.go (Zkj (v:=v) λw' hx=>⟨_,rfl,λh=>?_,λh=>?_⟩)
 ·have e:v.may=false:=by simpa using h
  have:=hR w' xT
  simpa[Ver.rank,e]using this
 ·have e:v.may=true:=by simpa using h
  refine⟨_,lD,?_⟩
  refine⟨_,lD,?_⟩
  refine⟨_,lD,?_⟩
  have hm:=Ver.may_iff.1 e
  rw[Zc (x:=v.ma*1000) oM oM,Zc (x:=v.ma*1000+v.mi) oM oM,Zc (x:=(v.ma*1000+v.mi)*1000) oM oM,Zc oM oM]
  have:=hR w' xT
  simpa[Ver.rank,e,Ver.num]using this
theorem isNaNi_se{x:Int}{w:World}{R:Bool→World→Prop}(hR:R false w):SE.Zex x w R:=by
 unfold SE.Zex; simpa using hR
theorem cmpInt_se{x y:Int}{w:World}{R:Int→World→Prop}(hR:R (cmpI x y) w):SE.Zbl x y w R:=by
 unfold SE.Zbl
 refine SE.Zex.go (isNaNi_se ⟨_,rfl,SE.Zex.go (isNaNi_se ⟨_,rfl,⟨λh=>(by cases h),λ_=>⟨λh=>(by cases h),λ_=>⟨λh=>?_,λh=>⟨λh'=>?_,λh'=>?_⟩⟩⟩⟩⟩)⟩)
 ·simpa[cmpI,h]using hR
 ·simpa[cmpI,h,h']using hR
 ·simpa[cmpI,h,h']using hR
def cmpS(a b:ByteArray):Int:=if bLt a b then -1 else if bEq a b then 0 else 1
theorem Z1k{s:Sl}{l:List Int}{S:Nat→Prop}{w:World}{R:Int→World→Prop}(hs:SlR intE w S s l)(hR:R (l.foldr or2 0) w):SE.Zfz s w R:=by
 unfold SE.Zfz
 refine⟨λi w'=>w'=w∧0≤i∧i≤l.length∧(l.drop i.toNat).foldr or2 0=l.foldr or2 0,λi _=>l.length - i.toNat,⟨rfl,oM,oM,rfl⟩,?_⟩
 rintro i w' ⟨rfl,h0,h1,h2⟩
 have hl:=hs.len
 refine⟨λhlt=>?_,λhge=>?_⟩
 ·obtain⟨x,hx⟩: ∃x,l[i.toNat]? =some x:=⟨_,List.getElem?_eq_getElem oM⟩
  obtain⟨ad,cs,ha,hS,⟨rfl,_⟩,hc⟩:=hs.get hx
  have hd:l.drop i.toNat=x::l.drop (i.toNat+1):=by
   obtain⟨hl,he⟩:=List.getElem?_eq_some_iff.1 hx
   rw[←he]; exact(List.drop_eq_getElem_cons hl)
  rw[hd,List.foldr_cons]at h2
  refine⟨ad,⟨ha,h0,hlt⟩,x,hc.pre rfl,λhne=>?_,λhe=>?_⟩
  ·rw[or2,if_neg hne]at h2
   rw[h2]; exact hR
  ·have he:x=0:=Classical.not_not.1 he
   rw[or2,if_pos he]at h2
   have:=hs.2.2.1; have:=hs.2.1
   rw[Zfg h0 hlt oM]
   have e:(i+1).toNat=i.toNat+1:=oM
   exact⟨⟨rfl,oM,oM,by rw[e]; exact h2⟩,by show l.length - (i+1).toNat<l.length - i.toNat; omega⟩
 ·rw[List.drop_eq_nil_of_le oM]at h2
  rw[←h2]at hR
  exact hR
end Go.Hal
/-
 DERIVED:THE SHELF's CONTRACTS AT THIS DUMP,IN PLAIN WORDS (tools/lay-plain.mjs out of 'YtdjiedhnoanbpaaGreatDoorLay.lean',which tools/lay-shelf.mjs wrote):THE SAME DECLARATIONS UNDER THE SAME NAMES:'import','namespace','open','def','theorem' AND NOTHING ELSE:no command of the shelf's:FOR A HAND-IN. Each laying:the table of numbers ('.._ren') and one theorem,a field a fact of the dump's own or the kernel's comparison; each contract:ONE APPLICATION.
-/
namespace Go.Proofs
open Go.Proofs.Tryz
open Go.Shelf
def Tryz.layTL_ren:Go.Shelf.Ren:=⟨λ|161=>97|231=>171|227=>172|233=>173|235=>174|228=>248|197=>249|151=>250|260=>303|152=>304|137=>335|119=>336|224=>337|225=>338|217=>357|266=>367|n=>n,λ|9=>9|4=>4|3=>3|5=>5|117=>266|116=>265|0=>0|124=>269|105=>320|21=>21|119=>389|46=>205|139=>392|138=>391|n=>n,λ|3=>1|4=>2|n=>n⟩
theorem Tryz.layTL:Go.Proofs.Lays.n161 prog Tryz.layTL_ren:={
 mixed:=kR
 f119:=func336.trans kS
 f137:=func335.trans kS
 f151:=func250.trans kS
 f152:=func304.trans kS
 f161:=func97.trans kS
 f197:=func249.trans kS
 f217:=func357.trans kS
 f224:=func337.trans kS
 f225:=func338.trans kS
 f227:=func172.trans kS
 f228:=func248.trans kS
 f231:=func171.trans kS
 f233:=func173.trans kS
 f235:=func174.trans kS
 f260:=func303.trans kS
 f266:=func367.trans kS
 t0:=underlying0
 a0:=Tryz.isAgg0
 z0:=Tryz.sizeOf0
 v0:=Tryz.zeroValue0
 t3:=underlying3
 a3:=Tryz.isAgg3
 z3:=Tryz.sizeOf3
 v3:=Tryz.zeroValue3
 t4:=underlying4
 a4:=Tryz.isAgg4
 z4:=Tryz.sizeOf4
 v4:=Tryz.zeroValue4
 t5:=underlying5
 a5:=Tryz.isAgg5
 z5:=Tryz.sizeOf5
 v5:=Tryz.zeroValue5
 t9:=underlying9
 a9:=Tryz.isAgg9
 z9:=Tryz.sizeOf9
 v9:=Tryz.zeroValue9
 t21:=underlying21
 a21:=Tryz.isAgg21
 z21:=Tryz.sizeOf21
 v21:=Tryz.zeroValue21
 t46:=underlying205
 a46:=Tryz.isAgg205
 z46:=Tryz.sizeOf205
 v46:=Tryz.zeroValue205
 t105:=underlying320
 a105:=Tryz.isAgg320
 z105:=Tryz.sizeOf320
 v105:=Tryz.zeroValue320
 t116:=underlying265
 a116:=Tryz.isAgg265
 z116:=Tryz.sizeOf265
 t117:=underlying266
 a117:=Tryz.isAgg266
 z117:=Tryz.sizeOf266
 v117:=Tryz.zeroValue266
 t119:=underlying389
 a119:=Tryz.isAgg389
 z119:=Tryz.sizeOf389
 t124:=underlying269
 a124:=Tryz.isAgg269
 z124:=Tryz.sizeOf269
 v124:=Tryz.zeroValue269
 t138:=underlying391
 a138:=Tryz.isAgg391
 z138:=Tryz.sizeOf391
 v138:=Tryz.zeroValue391
 t139:=underlying392
 a139:=Tryz.isAgg392
 z139:=Tryz.sizeOf392
 v139:=Tryz.zeroValue392
 g3:=kR
 g4:=by kernel_rfl}
def Tryz.layTr_ren:Go.Shelf.Ren:=⟨λ|160=>98|232=>175|231=>171|227=>172|234=>176|233=>173|236=>177|235=>174|228=>248|271=>251|151=>250|197=>249|120=>305|152=>304|260=>303|137=>335|119=>336|224=>337|225=>338|217=>357|266=>367|n=>n,λ|9=>9|4=>4|3=>3|5=>5|117=>266|116=>265|0=>0|124=>269|21=>21|105=>320|46=>205|119=>389|139=>392|138=>391|n=>n,λ|3=>1|4=>2|n=>n⟩
theorem Tryz.layTr:Go.Proofs.Lays.n160 prog Tryz.layTr_ren:={
 mixed:=kR
 f119:=func336.trans kS
 f120:=func305.trans kS
 f137:=func335.trans kS
 f151:=func250.trans kS
 f152:=func304.trans kS
 f160:=func98.trans kS
 f197:=func249.trans kS
 f217:=func357.trans kS
 f224:=func337.trans kS
 f225:=func338.trans kS
 f227:=func172.trans kS
 f228:=func248.trans kS
 f231:=func171.trans kS
 f232:=func175.trans kS
 f233:=func173.trans kS
 f234:=func176.trans kS
 f235:=func174.trans kS
 f236:=func177.trans kS
 f260:=func303.trans kS
 f266:=func367.trans kS
 f271:=func251.trans kS
 t0:=underlying0
 a0:=Tryz.isAgg0
 z0:=Tryz.sizeOf0
 v0:=Tryz.zeroValue0
 t3:=underlying3
 a3:=Tryz.isAgg3
 z3:=Tryz.sizeOf3
 v3:=Tryz.zeroValue3
 t4:=underlying4
 a4:=Tryz.isAgg4
 z4:=Tryz.sizeOf4
 v4:=Tryz.zeroValue4
 t5:=underlying5
 a5:=Tryz.isAgg5
 z5:=Tryz.sizeOf5
 v5:=Tryz.zeroValue5
 t9:=underlying9
 a9:=Tryz.isAgg9
 z9:=Tryz.sizeOf9
 v9:=Tryz.zeroValue9
 t21:=underlying21
 a21:=Tryz.isAgg21
 z21:=Tryz.sizeOf21
 v21:=Tryz.zeroValue21
 t46:=underlying205
 a46:=Tryz.isAgg205
 z46:=Tryz.sizeOf205
 v46:=Tryz.zeroValue205
 t105:=underlying320
 a105:=Tryz.isAgg320
 z105:=Tryz.sizeOf320
 v105:=Tryz.zeroValue320
 t116:=underlying265
 a116:=Tryz.isAgg265
 z116:=Tryz.sizeOf265
 t117:=underlying266
 a117:=Tryz.isAgg266
 z117:=Tryz.sizeOf266
 v117:=Tryz.zeroValue266
 t119:=underlying389
 a119:=Tryz.isAgg389
 z119:=Tryz.sizeOf389
 t124:=underlying269
 a124:=Tryz.isAgg269
 z124:=Tryz.sizeOf269
 v124:=Tryz.zeroValue269
 t138:=underlying391
 a138:=Tryz.isAgg391
 z138:=Tryz.sizeOf391
 v138:=Tryz.zeroValue391
 t139:=underlying392
 a139:=Tryz.isAgg392
 z139:=Tryz.sizeOf392
 v139:=Tryz.zeroValue392
 g3:=kR
 g4:=by kernel_rfl}
def Tryz.layBS_ren:Go.Shelf.Ren:=⟨λ|169=>80|n=>n,λ|70=>158|9=>9|0=>0|72=>161|37=>159|127=>239|3=>3|5=>5|n=>n,λ|n=>n⟩
theorem Tryz.layBS:Go.Proofs.Lays.n169 prog Tryz.layBS_ren:={
 mixed:=kR
 f169:=func80.trans kS
 t0:=underlying0
 a0:=Tryz.isAgg0
 z0:=Tryz.sizeOf0
 v0:=Tryz.zeroValue0
 t3:=underlying3
 a3:=Tryz.isAgg3
 z3:=Tryz.sizeOf3
 v3:=Tryz.zeroValue3
 t9:=underlying9
 a9:=Tryz.isAgg9
 z9:=Tryz.sizeOf9
 v9:=Tryz.zeroValue9
 t37:=underlying159
 a37:=Tryz.isAgg159
 z37:=Tryz.sizeOf159
 v37:=Tryz.zeroValue159
 t70:=underlying158
 a70:=Tryz.isAgg158
 z70:=Tryz.sizeOf158
 v70:=Tryz.zeroValue158
 t72:=underlying161
 a72:=Tryz.isAgg161
 z72:=Tryz.sizeOf161
 v72:=Tryz.zeroValue161
 t127:=underlying239
 a127:=Tryz.isAgg239
 z127:=Tryz.sizeOf239
 v127:=Tryz.zeroValue239}
def Tryz.layJo_ren:Go.Shelf.Ren:=⟨λ|156=>144|165=>228|166=>77|169=>80|240=>141|241=>296|276=>227|277=>325|n=>n,λ|31=>102|9=>9|3=>3|4=>4|0=>0|20=>20|72=>161|76=>164|70=>158|37=>159|75=>163|127=>239|164=>307|5=>5|80=>173|n=>n,λ|n=>n⟩
theorem Tryz.layJo:Go.Proofs.Lays.n156 prog Tryz.layJo_ren:={
 mixed:=kR
 f156:=func144.trans kS
 f165:=func228.trans kS
 f166:=func77.trans kS
 f169:=func80.trans kS
 f240:=func141.trans kS
 f241:=func296.trans kS
 f276:=func227.trans kS
 f277:=func325.trans kS
 t0:=underlying0
 a0:=Tryz.isAgg0
 z0:=Tryz.sizeOf0
 v0:=Tryz.zeroValue0
 t3:=underlying3
 a3:=Tryz.isAgg3
 z3:=Tryz.sizeOf3
 v3:=Tryz.zeroValue3
 t4:=underlying4
 a4:=Tryz.isAgg4
 z4:=Tryz.sizeOf4
 v4:=Tryz.zeroValue4
 t9:=underlying9
 a9:=Tryz.isAgg9
 z9:=Tryz.sizeOf9
 v9:=Tryz.zeroValue9
 t20:=underlying20
 a20:=Tryz.isAgg20
 z20:=Tryz.sizeOf20
 v20:=Tryz.zeroValue20
 t31:=underlying102
 a31:=Tryz.isAgg102
 z31:=Tryz.sizeOf102
 v31:=Tryz.zeroValue102
 t37:=underlying159
 a37:=Tryz.isAgg159
 z37:=Tryz.sizeOf159
 v37:=Tryz.zeroValue159
 t70:=underlying158
 a70:=Tryz.isAgg158
 z70:=Tryz.sizeOf158
 v70:=Tryz.zeroValue158
 t72:=underlying161
 a72:=Tryz.isAgg161
 z72:=Tryz.sizeOf161
 v72:=Tryz.zeroValue161
 t75:=underlying163
 a75:=Tryz.isAgg163
 z75:=Tryz.sizeOf163
 v75:=Tryz.zeroValue163
 t76:=underlying164
 a76:=Tryz.isAgg164
 z76:=Tryz.sizeOf164
 v76:=Tryz.zeroValue164
 t127:=underlying239
 a127:=Tryz.isAgg239
 z127:=Tryz.sizeOf239
 v127:=Tryz.zeroValue239
 t164:=underlying307
 a164:=Tryz.isAgg307
 z164:=Tryz.sizeOf307
 v164:=Tryz.zeroValue307}
def Tryz.layIt_ren:Go.Shelf.Ren:=⟨λ|171=>105|243=>180|246=>255|283=>306|284=>307|285=>308|286=>309|129=>194|317=>339|318=>340|319=>341|320=>342|337=>358|338=>359|n=>n,λ|3=>3|9=>9|2=>2|4=>4|171=>363|0=>0|53=>283|37=>159|5=>5|173=>365|212=>396|51=>281|20=>20|213=>397|46=>205|232=>411|233=>412|n=>n,λ|17=>3|18=>4|19=>5|n=>n⟩
theorem Tryz.layIt:Go.Proofs.LaysM.n171 prog Tryz.layIt_ren:={
 mixed:=kR
 f129:=func194.trans kS
 f171:=func105.trans kS
 f243:=func180.trans kS
 f246:=func255.trans kS
 f283:=func306.trans kS
 f284:=func307.trans kS
 f285:=func308.trans kS
 f286:=func309.trans kS
 f317:=func339.trans kS
 f318:=func340.trans kS
 f319:=func341.trans kS
 f320:=func342.trans kS
 f337:=func358.trans kS
 f338:=func359.trans kS
 t0:=underlying0
 a0:=Tryz.isAgg0
 z0:=Tryz.sizeOf0
 v0:=Tryz.zeroValue0
 t2:=underlying2
 a2:=Tryz.isAgg2
 z2:=Tryz.sizeOf2
 v2:=Tryz.zeroValue2
 t3:=underlying3
 a3:=Tryz.isAgg3
 z3:=Tryz.sizeOf3
 v3:=Tryz.zeroValue3
 t4:=underlying4
 a4:=Tryz.isAgg4
 z4:=Tryz.sizeOf4
 v4:=Tryz.zeroValue4
 t5:=underlying5
 a5:=Tryz.isAgg5
 z5:=Tryz.sizeOf5
 v5:=Tryz.zeroValue5
 t9:=underlying9
 a9:=Tryz.isAgg9
 z9:=Tryz.sizeOf9
 v9:=Tryz.zeroValue9
 t20:=underlying20
 a20:=Tryz.isAgg20
 z20:=Tryz.sizeOf20
 v20:=Tryz.zeroValue20
 t37:=underlying159
 a37:=Tryz.isAgg159
 z37:=Tryz.sizeOf159
 v37:=Tryz.zeroValue159
 t46:=underlying205
 a46:=Tryz.isAgg205
 z46:=Tryz.sizeOf205
 v46:=Tryz.zeroValue205
 t51:=underlying281
 a51:=Tryz.isAgg281
 z51:=Tryz.sizeOf281
 v51:=Tryz.zeroValue281
 t53:=underlying283
 a53:=Tryz.isAgg283
 z53:=Tryz.sizeOf283
 v53:=Tryz.zeroValue283
 t171:=underlying363
 a171:=Tryz.isAgg363
 z171:=Tryz.sizeOf363
 v171:=Tryz.zeroValue363
 t173:=underlying365
 a173:=Tryz.isAgg365
 z173:=Tryz.sizeOf365
 v173:=Tryz.zeroValue365
 t212:=underlying396
 a212:=Tryz.isAgg396
 z212:=Tryz.sizeOf396
 v212:=Tryz.zeroValue396
 t213:=underlying397
 a213:=Tryz.isAgg397
 z213:=Tryz.sizeOf397
 t232:=underlying411
 a232:=Tryz.isAgg411
 z232:=Tryz.sizeOf411
 v232:=Tryz.zeroValue411
 t233:=underlying412
 a233:=Tryz.isAgg412
 z233:=Tryz.sizeOf412
 v233:=Tryz.zeroValue412
 g17:=kR
 g18:=kR
 g19:=kR
 i0:=kR
 i2:=kR
 i3:=kR
 i4:=kR
 i5:=kR
 i9:=kR
 i20:=kR
 i37:=kR
 i46:=kR
 i51:=kR
 i53:=kR
 i171:=kR
 i173:=kR
 i212:=kR
 i232:=kR
 i233:=kR
 m17:=kR
 m18:=kR
 m19:=by kernel_rfl}
def Tryz.layCo_ren:Go.Shelf.Ren:=⟨λ|106=>72|213=>138|265=>218|n=>n,λ|9=>9|3=>3|n=>n,λ|n=>n⟩
theorem Tryz.layCo:Go.Proofs.Lays.n106 prog Tryz.layCo_ren:={
 mixed:=kR
 f106:=func72.trans kS
 f213:=func138.trans kS
 f265:=func218.trans kS
 t3:=underlying3
 a3:=Tryz.isAgg3
 z3:=Tryz.sizeOf3
 v3:=Tryz.zeroValue3
 t9:=underlying9
 a9:=Tryz.isAgg9
 z9:=Tryz.sizeOf9
 v9:=Tryz.zeroValue9}
end Go.Proofs
namespace Go.Hal
open Go.Proofs.Tryz
open Go Go.RowKit Go.Proofs
theorem Zhc(a:ByteArray):a.toList.length=a.size:=by rw[toList_data,Zgk]
theorem Zl4{a:ByteArray}{i:Int}(h0:0≤i)(h:i<a.size): ∃x:UInt8,a.toList[i.toNat]? =some x∧bAt a i=(x.toNat:Int):=by
 obtain⟨n,rfl⟩:=Int.eq_ofNat_of_zero_le h0
 have hn:n<a.size:=oM
 refine⟨_,?_,Z6p hn⟩
 rw[toList_data,Int.toNat_natCast]
 exact List.getElem?_eq_getElem (by rw[Zgk]; exact hn)
theorem less_se(a b:ByteArray)(w:World)(R:Bool→World→Prop)(ha:Str a)(hR: ∀w',Ext w w'→R (bLt a b) w'):SE.Zcn a b w R:=by
 unfold SE.Zcn
 refine⟨λi w'=>Ext w w'∧0≤i∧i≤a.size∧i≤b.size∧a.toList.take i.toNat=b.toList.take i.toNat,λi _=>a.size - i.toNat,⟨Ext.refl _,oM,oM,oM,rfl⟩,?_⟩
 rintro i w1 ⟨hx,h0,h1,h2,h3⟩
 have sa:a.toList=a.toList.take i.toNat++a.toList.drop i.toNat:=(List.take_append_drop _ _).symm
 have sb:b.toList=a.toList.take i.toNat++b.toList.drop i.toNat:=by rw[h3]; exact(List.take_append_drop _ _).symm
 have hlt:bLt a b=Op.bytesLess (a.toList.drop i.toNat) (b.toList.drop i.toNat):=by
  have:=Zqn (a.toList.take i.toNat) (a.toList.drop i.toNat) (b.toList.drop i.toNat)
  rw[←sa,←sb]at this; exact this
 rintro b1 hb1
 refine⟨λhb=>?_,λhb=>?_⟩
 ·simp only[hb1,Bool.and_eq_true,decide_eq_true_eq]at hb
  obtain⟨x,hxa,ea⟩:=Zl4 h0 hb.1
  obtain⟨y,hyb,eb⟩:=Zl4 h0 hb.2
  have da:a.toList.drop i.toNat=x::a.toList.drop (i.toNat+1):=by
   obtain⟨hl,he⟩:=List.getElem?_eq_some_iff.1 hxa
   rw[←he]; exact(List.drop_eq_getElem_cons hl)
  have db:b.toList.drop i.toNat=y::b.toList.drop (i.toNat+1):=by
   obtain⟨hl,he⟩:=List.getElem?_eq_some_iff.1 hyb
   rw[←he]; exact(List.drop_eq_getElem_cons hl)
  rintro w2 rfl
  refine⟨⟨h0,hb.1⟩,⟨h0,hb.2⟩,λhne=>?_,λhe=>?_⟩
  ·rintro w3 rfl
   refine⟨⟨h0,hb.1⟩,⟨h0,hb.2⟩,?_⟩
   have hxy:x≠y:=λh=>hne (by rw[ea,eb,h])
   have:decide (bAt a i<bAt b i)=bLt a b:=by
    rw[hlt,da,db,ea,eb]
    show _=(decide (x<y)||(x==y&&_))
    have:(x==y)=false:=by simpa using hxy
    rw[this,Bool.false_and,Bool.or_false]
    simp[UInt8.lt_iff_toNat_lt]
   rw[this]
   exact hR _ ((hx.trans (Ext.drew _)).trans (Ext.drew _))
  ·have hxy:x=y:=by
    rw[Classical.not_not,ea,eb]at he
    exact UInt8.toNat_inj.1 oM
   rw[Zfg h0 hb.1 ha]
   refine⟨⟨hx.trans (Ext.drew _),oM,oM,oM,?_⟩,by show a.size - (i+1).toNat<a.size - i.toNat; omega⟩
   have e:(i+1).toNat=i.toNat+1:=oM
   rw[e,List.take_add_one,List.take_add_one,h3,hxa,hyb,hxy]
 ·have:decide ((a.size:Int)<(b.size:Int))=bLt a b:=by
   simp only[hb1,Bool.and_eq_false_iff,decide_eq_false_iff_not]at hb
   rw[hlt]
   by_cases hc:i=a.size
   ·have:a.toList.drop i.toNat= []:=List.drop_eq_nil_of_le (by rw[Zhc]; omega)
    rw[this]
    cases hd:b.toList.drop i.toNat with
    |nil=>
     have hl:=congrArg List.length hd
     rw[List.length_drop,Zhc]at hl
     simp only[List.length_nil]at hl
     show _=false
     simp; omega
    |cons y r=>
     have hl:=congrArg List.length hd
     rw[List.length_drop,Zhc]at hl
     simp only[List.length_cons]at hl
     show _=true
     simp; omega
   ·have:b.toList.drop i.toNat= []:=List.drop_eq_nil_of_le (by rw[Zhc]; omega)
    rw[this]
    have:Op.bytesLess (a.toList.drop i.toNat) []=false:=by cases a.toList.drop i.toNat<;>rfl
    rw[this]
    simp; omega
  rw[this]
  exact hR _ hx
end Go.Hal
namespace Go.Hal
open Go.Proofs.Tryz
open Go Go.RowKit Go.Proofs Go.Shelf
def cutA:ByteArray:=ByteArray.mk #[97,98,99,100,101,102,103,104,105,106,107,108,109,110,111,112,113,114,115,116,117,118,119,120,121,122]
def cutB:ByteArray:=ByteArray.mk #[97,98,99,100,101,102,103,104,105,106,107,108,109,110,111,112,113,114,115,116,117,118,119,120,121,122,48,49,50,51,52,53,54,55,56,57,45]
set_option maxRecDepth 100000 in
theorem Z1m(b:UInt8):cutA.data.toList.contains b=lowC b:=by
 have:=Z3k (λb=>cutA.data.toList.contains b==lowC b) (by decide+kernel) b
 simpa using this
set_option maxRecDepth 100000 in
theorem Z1n(b:UInt8):cutB.data.toList.contains b=Zie b:=by
 have:=Z3k (λb=>cutB.data.toList.contains b==Zie b) (by decide+kernel) b
 simpa using this
theorem Zxq{s:ByteArray}{w:World}{k:Value→World→Prop}(hk: ∀w',Ext w w'→k (.string ⟨(s.data.toList.dropWhile lowC).toArray⟩) w'):callS prog 97 [.string s,.string cutA] w k:=by
 have h:=Any.strings_TrimLeft_laid Tryz.layTL kR s cutA w dC (ascii_of_all dC)
 have e:Lib.trimLeftS s.data.toList cutA.data.toList=s.data.toList.dropWhile lowC:=by
  unfold Lib.trimLeftS
  congr 1
  funext b
  exact Z1m b
 rw[e]at h
 exact h.mono λe w' ⟨he,hb⟩=>⟨_,he,hk w' hb⟩
theorem Z7t{s:ByteArray}{w:World}{k:Value→World→Prop}(hs:Str s)(hk: ∀w',Ext w w'→k (.string ⟨(Lib.trimS s.data.toList cutB.data.toList).toArray⟩) w'):callS prog 98 [.string s,.string cutB] w k:=
 (Any.strings_Trim_laid Tryz.layTr kR s cutB w hs dC (ascii_of_all dC)).mono λe w' ⟨he,hb⟩=>⟨_,he,hk w' hb⟩
theorem Z3q{α:Type}(p:α→Bool)(l:List α):l.dropWhile p= []↔l.all p=true:=by
 induction l with
 |nil=>simp
 |cons x r ih=>
  rw[List.dropWhile_cons,List.all_cons]
  cases h:p x
  ·simp
  ·simpa using ih
theorem Ztp{α:Type}[BEq α][LawfulBEq α][DecidableEq α](a b:α):(a==b)=decide (a=b):=by rw[Bool.eq_iff_iff]; simp
theorem Ztg(l:List UInt8):(Lib.trimS l cutB.data.toList= [])↔l.all Zie=true:=by
 have e:(λb=>cutB.data.toList.contains b)=Zie:=funext Z1n
 unfold Lib.trimS Lib.trimLeftS Lib.trimRightS
 simp only[e]
 rw[Z3q]
 constructor
 ·intro h
  have h2:l.reverse.dropWhile Zie= []:=by
   cases hd:l.reverse.dropWhile Zie with
   |nil=>rfl
   |cons x r=>
    rw[hd]at h
    have h3:=List.all_eq_true.1 h x sI
    have h4: ∀m:List UInt8,m.dropWhile Zie=x::r→Zie x=false:=by
     intro m
     induction m with
     |nil=>intro h; cases h
     |cons y t ih=>
      rw[List.dropWhile_cons]
      cases hy:Zie y
      ·intro h
       simp at h
       rw[←h.1]; exact hy
      ·intro h; exact ih (by simpa using h)
    rw[h4 _ hd]at h3; cases h3
  rw[Z3q]at h2
  exact List.all_eq_true.2 λx hx=>List.all_eq_true.1 h2 x (List.mem_reverse.2 hx)
 ·intro h
  refine List.all_eq_true.2 λx hx=>?_
  have:x∈l.reverse:=(List.dropWhile_sublist _).mem (List.mem_reverse.1 hx)
  exact List.all_eq_true.1 h x (List.mem_reverse.1 this)
theorem Z5c(s:ByteArray):Zap s=((!bEq s ⟨#[]⟩&&decide (s.size≤16))&&(!bEq ⟨(s.data.toList.dropWhile lowC).toArray⟩ s&&(s.data.toList.dropWhile lowC).all Zie)):=by
 unfold Zap
 rw[Bool.and_comm]
 have hb: ∀l:List UInt8,bEq ⟨l.toArray⟩ s=decide (l=s.data.toList):=by
  intro l
  unfold bEq
  rw[toList_data,toList_data]
  exact Ztp ..
 cases h0:(!bEq s ⟨#[]⟩&&decide (s.size≤16))
 ·rfl
 ·rw[Bool.true_and,Bool.true_and,hb,toList_data]
  have hne:s.data.toList≠ []:=by
   intro h
   simp only[Bool.and_eq_true]at h0
   have:bEq s ⟨#[]⟩=true:=by unfold bEq; rw[toList_data,toList_data,h]; rfl
   rw[this]at h0; exact absurd h0.1 dC
  cases hs:s.data.toList with
  |nil=>exact absurd hs hne
  |cons c r=>
   unfold Zfl
   rw[List.dropWhile_cons]
   cases hc:lowC c
   ·show(lowC c&&_)=_
    rw[hc,if_neg sI]; simp
   ·have hl: ¬r.dropWhile lowC=c::r:=by
     intro h
     have:=(List.dropWhile_sublist lowC (l:=r)).length_le
     rw[h]at this
     simp at this
     omega
    simp only[if_true,decide_eq_false hl,Bool.not_false,Bool.true_and]
    have:r=r.takeWhile lowC++r.dropWhile lowC:=(List.takeWhile_append_dropWhile ..).symm
    have ht:(r.takeWhile lowC).all Zie=true:=List.all_eq_true.2 λx hx=>Zzj (by
     have:=List.all_takeWhile (p:=lowC) (l:=r)
     exact List.all_eq_true.1 this x hx)
    rw[hc,Bool.true_and]
    calc r.all Zie=(r.takeWhile lowC++r.dropWhile lowC).all Zie:=by rw[←this]
     _=_:=by rw[List.all_append,ht,Bool.true_and]
theorem scanName_se{s:ByteArray}{w:World}{R:Bool→World→Prop}(hs:Str s)(hR: ∀w',Ext w w'→R (Zap s) w'):SE.Zep s w R:=by
 unfold SE.Zep
 refine Zxq λw1 x1=>⟨_,rfl,bound (bound (bound ?_))⟩
 have hsz:Str ⟨(s.data.toList.dropWhile lowC).toArray⟩:=by
  have h1:=(List.dropWhile_sublist lowC (l:=s.data.toList)).length_le
  have h2:=Zgk ⟨(s.data.toList.dropWhile lowC).toArray⟩
  have h3:=Zgk s
  simp only[List.toList_toArray]at h2
  unfold Str at*
  omega
 refine gCall.intro ⟨(Lib.trimS (s.data.toList.dropWhile lowC) cutB.data.toList).toArray⟩ (λ_ q hq=>Z7t hsz λw' hx=>⟨_,rfl,hq _ hx⟩) λt w2 x2 ht=>?_
 have:(((!bEq s ⟨#[]⟩)&&decide ((s.size:Int)≤16))&&(!bEq ⟨(s.data.toList.dropWhile lowC).toArray⟩ s)&&bEq t ⟨#[]⟩)=Zap s:=by
  rw[Z5c]
  have e:decide ((s.size:Int)≤16)=decide (s.size≤16):=by
   rw[decide_eq_decide]; omega
  rw[e]at ht ⊢
  rw[Bool.and_assoc]
  cases h1:(!bEq s ⟨#[]⟩&&decide (s.size≤16))
  ·rfl
  ·cases h2:(!bEq ⟨(s.data.toList.dropWhile lowC).toArray⟩ s)
   ·rfl
   ·rw[ht (by rw[h1,h2]; rfl),Bool.true_and,Bool.true_and,Bool.true_and]
    have h3:bEq (⟨(Lib.trimS (s.data.toList.dropWhile lowC) cutB.data.toList).toArray⟩:ByteArray) ⟨#[]⟩=decide (Lib.trimS (s.data.toList.dropWhile lowC) cutB.data.toList= []):=by
     unfold bEq
     rw[toList_data,toList_data]
     exact Ztp ..
    rw[h3]
    cases h4:(s.data.toList.dropWhile lowC).all Zie
    ·exact decide_eq_false λh=>by rw[Ztg]at h; rw[h]at h4; cases h4
    ·exact decide_eq_true ((Ztg _).2 h4)
 rw[this]
 exact hR _ xT
theorem r04Name_se{s:ByteArray}{w:World}{R:Bool→World→Prop}(hs:Str s)(hR: ∀w',Ext w w'→R (Zap s) w'):SE.Zcm s w R:=by
 unfold SE.Zcm
 refine⟨λi w'=>w'=w∧0≤i∧i≤s.size∧Zfl (s.toList.take i.toNat)=true,λi _=>s.size - i.toNat,⟨rfl,oM,oM,rfl⟩,?_⟩
 rintro i w' ⟨rfl,h0,h1,h2⟩
 refine⟨λhlt=>⟨⟨h0,hlt⟩,bound ⟨λ_=>⟨h0,hlt⟩,⟨h0,hlt⟩,bound ⟨λ_=>⟨h0,hlt⟩,bound ⟨λ_=>⟨h0,hlt⟩,bound (bound ?_)⟩⟩⟩⟩,λhge=>bound ?_⟩
 ·obtain⟨x,hx,ex⟩:=Zl4 h0 hlt
  rw[ex]
  have hsn:Zfl (s.toList.take (i.toNat+1))=(if i.toNat=0 then lowC x else Zie x):=by
   rw[List.take_add_one,hx]
   show Zfl (_++ [x])=_
   rw[Zsr,h2,Bool.true_and]
   have:s.toList.take i.toNat= []↔i.toNat=0:=by
    rw[List.take_eq_nil_iff]
    constructor
    ·rintro(h|h)
     ·exact h
     ·rw[h]at hx; cases hx
    ·exact .inl
   by_cases hc:i.toNat=0
   ·rw[if_pos hc,if_pos (this.2 hc)]
   ·rw[if_neg hc,if_neg (λh=>hc (this.1 h))]
  have hcond:((!(decide ((97:Int)≤(x.toNat:Int))&&decide ((x.toNat:Int)≤122)))&&((i==0)||(!((decide ((48:Int)≤(x.toNat:Int))&&decide ((x.toNat:Int)≤57))||((x.toNat:Int)==45)))))= !(if i.toNat=0 then lowC x else Zie x):=by
   have e1:(decide ((97:Int)≤(x.toNat:Int))&&decide ((x.toNat:Int)≤122))=lowC x:=by
    unfold lowC; congr 1<;>rw[decide_eq_decide]<;>omega
   have e2:(decide ((48:Int)≤(x.toNat:Int))&&decide ((x.toNat:Int)≤57))=(decide (48≤x.toNat)&&decide (x.toNat≤57)):=by congr 1<;>rw[decide_eq_decide]<;>omega
   have e3:((x.toNat:Int)==45)=decide (x.toNat=45):=by rw[Ztp,decide_eq_decide]; omega
   rw[e1,e2,e3]
   by_cases hc:i.toNat=0
   ·rw[if_pos hc]
    have:(i==0)=true:=by simp; omega
    rw[this]; cases lowC x<;>rfl
   ·rw[if_neg hc]
    have:(i==0)=false:=by simp; omega
    rw[this]; unfold Zie; cases lowC x<;>rfl
  rw[hcond,←hsn]
  refine⟨λh=>?_,λh=>?_⟩
  ·have:Zap s=false:=by
    unfold Zap
    cases hp:Zfl s.toList
    ·rfl
    ·rw[←List.take_append_drop (i.toNat+1) s.toList]at hp
     rw[Zub hp]at h; cases h
   rw[←this]; exact hR _ xR
  ·rw[Zfg h0 hlt hs]
   have e:(i+1).toNat=i.toNat+1:=oM
   refine⟨⟨rfl,oM,oM,?_⟩,by show s.size - (i+1).toNat<s.size - i.toNat; omega⟩
   rw[e]
   cases hp:Zfl (s.toList.take (i.toNat+1))
   ·rw[hp]at h; cases h
   ·rfl
 ·have hi:i.toNat=s.toList.length:=by rw[Zhc]; omega
  rw[hi,List.take_length]at h2
  have:((!bEq s ⟨#[]⟩)&&decide ((s.size:Int)≤16))=Zap s:=by
   unfold Zap
   rw[h2,Bool.true_and]
   congr 1
   rw[decide_eq_decide]; omega
  rw[this]; exact hR _ xR
def B(l:List UInt8):ByteArray:=⟨l.toArray⟩
theorem Zk4(l:List UInt8):(B l).data.toList=l:=rfl
theorem Zl(l:List UInt8):(B l).size=l.length:=by rw[←Zgk]; rfl
theorem Zpg{a b:ByteArray}(h:a.data.toList=b.data.toList):a=b:=by
 obtain⟨⟨a⟩⟩:=a; obtain⟨⟨b⟩⟩:=b
 simp at h; rw[h]
theorem ba_B(s:ByteArray):s=B s.toList:=by rw[toList_data]; exact Zpg rfl
theorem Zqk(a b:ByteArray):(a++b).data.toList=a.data.toList++b.data.toList:=by
 rw[ByteArray.data_append]; simp
theorem Zgp(a b:List UInt8):B a++B b=B (a++b):=Zpg (by rw[Zqk,Zk4,Zk4,Zk4])
theorem Zd1(a:List UInt8)(b:Array UInt8):B a++ByteArray.mk b=B (a++b.toList):=Zpg (by rw[Zqk,Zk4,Zk4])
theorem Zhk(a:Array UInt8)(b:List UInt8):ByteArray.mk a++B b=B (a.toList++b):=Zpg (by rw[Zqk,Zk4,Zk4])
theorem Za2(a:Array UInt8):(ByteArray.mk a).size=a.size:=rfl
theorem Zs:maxI=9223372036854775807:=rfl
def dec(n:Int):List UInt8:=Lib.decDigits n.toNat
theorem Zil{n:Int}(h0:0≤n)(h1:n<10):dec n= [UInt8.ofNat (48+n.toNat)]:=by
 unfold dec
 rw[Lib.decDigits,dif_pos oM]
theorem Znw{n:Int}(h1:10≤n):dec n=dec (n/10)++ [UInt8.ofNat (48+(n%10).toNat)]:=by
 unfold dec
 rw[Lib.decDigits,dif_neg oM]
 congr 2
 ·omega
 ·congr 2; omega
theorem Zid{n:Int}(h0:0≤n)(h1:n≤999):(dec n).length≤3:=by
 by_cases h:n<10
 ·rw[Zil h0 h]; simp
 ·rw[Znw oM,List.length_append]
  by_cases h':n/10<10
  ·rw[Zil oM h']; simp
  ·rw[Znw oM,Zil oM oM]; simp
def Zbi(v:Ver):List UInt8:=if v.may then(((dec v.ma++ [46])++dec v.mi)++ [46])++dec v.pa else []
theorem Zd7(v:Ver):(Zbi v).length≤11:=by
 unfold Zbi
 split
 ·rename_i h
  have h:=Ver.may_iff.1 h
  have:=Zid h.1.1 h.1.2; have:=Zid h.2.1.1 h.2.1.2; have:=Zid h.2.2.1 h.2.2.2
  simp; omega
 ·simp
def Zab(x:Span):List UInt8:=
 if x.lo=x.hi then Zbi x.lo
 else if x.lo.rank=0∧x.hi.rank=999999999 then [42]
 else if x.lo.rank=0 then [60,61]++Zbi x.hi
 else if x.hi.rank=999999999 then [62,61]++Zbi x.lo
 else(([62,61]++Zbi x.lo)++ [32,60,61])++Zbi x.hi
theorem Zkt(x:Span):(Zab x).length≤27:=by
 have h1:=Zd7 x.lo; have h2:=Zd7 x.hi
 unfold Zab
 split
 ·omega
 ·split
  ·simp
  ·split
   ·simp; omega
   ·split<;>simp<;>omega
def Zhj:List Span→List UInt8
 | []=>[]
 | [x]=>Zab x
 |x::y::r=>Zab x++([32,124,124,32]++Zhj (y::r))
def Zbn(l:List Span):List UInt8:=if Z3 l then(if l= []then [60,48,46,48,46,48]else Zhj l)else []
theorem Zwv(l:List Span)(x:Span):Zhj (l++ [x])=(if l= []then Zab x else(Zhj l++ [32,124,124,32])++Zab x):=by
 induction l with
 |nil=>rfl
 |cons y r ih=>
  cases r with
  |nil=>show Zab y++([32,124,124,32]++Zab x)=_; simp[Zhj]
  |cons z t=>
   show Zab y++([32,124,124,32]++Zhj ((z::t)++ [x]))=_
   rw[ih]
   simp[Zhj]
theorem Zlg(l:List Span):(Zhj l).length≤31*l.length:=by
 induction l with
 |nil=>simp[Zhj]
 |cons y r ih=>
  have:=Zkt y
  cases r with
  |nil=>simp[Zhj]; omega
  |cons z t=>simp only[Zhj,List.length_append,List.length_cons,List.length_nil]at ih ⊢; omega
theorem Zg0(l:List Span):(Zbn l).length≤2000:=by
 unfold Zbn
 split
 ·rename_i h
  unfold Z3 at h
  simp at h
  have:=Zlg l
  split<;>simp<;>omega
 ·simp
def Zks(word:List UInt8)(d:Dep):List UInt8:=((((word++ [32])++d.name.toList)++ [32])++Zbn d.range)++ [10]
def Zbd(word:List UInt8)(l:List Dep):List UInt8:=(l.map (Zks word)).flatten
def wNeeds:List UInt8:=[110,101,101,100,115]
def Zov:List UInt8:=[98,101,115,105,100,101]
def wLikes:List UInt8:=[108,105,107,101,115]
def Zkd(n:ByteArray)(v:Ver):List UInt8:=((([112,97,99,107,97,103,101,32]++n.toList)++ [32])++Zbi v)++ [10]
def Zh5(p:Pack):List UInt8:=((Zkd p.name p.v++Zbd wNeeds p.deps)++Zbd Zov p.peers)++Zbd wLikes p.opt
def Zji:Option ByteArray→ByteArray→Bool
 |none,_=>true
 |some n,m=>bLt n m
def Zcp:Option ByteArray→List Dep→Bool
 |_,[]=>true
 |prev,d::r=>Zap d.name&&Z3 d.range&& !d.range.isEmpty&&Zji prev d.name&&Zcp (some d.name) r
def Zm(l:List Dep):Bool:=Zcp none l&&decide (l.length≤16)
def Zdb(a b:List Dep):Bool:=!a.any λx=>b.any λy=>decide (x.name=y.name)
def Zk7(p:Pack):Bool:=Zdb p.deps p.peers&&Zdb p.deps p.opt&&Zdb p.peers p.opt
def Zdd(p:Pack):Bool:=Zap p.name&&p.v.may&&Zm p.deps&&Zm p.peers&&Zm p.opt
def Zcv(p:Pack):Bool:=Zdd p&&(Zk7 p&&decide ((Zh5 p).length≤4096))
theorem Zi1(word:List UInt8)(l:List Dep)(d:Dep):Zbd word (l++ [d])=Zbd word l++Zks word d:=by simp[Zbd]
theorem Zd2{n:ByteArray}(h:Zap n=true):n.toList.length≤16:=by
 unfold Zap at h
 simp at h
 rw[toList_data,Zgk]; exact h.2.2
theorem Ztw{l:List Dep}{p:Option ByteArray}(h:Zcp p l=true): ∀d∈l,Zap d.name=true∧Z3 d.range=true∧d.range≠ []:=by
 induction l generalizing p with
 |nil=>intro d hd; cases hd
 |cons x r ih=>
  intro d hd
  rw[Zcp]at h
  simp only[Bool.and_eq_true]at h
  rcases List.mem_cons.1 hd with rfl|hd
  ·exact⟨h.1.1.1.1,h.1.1.1.2,by have:=h.1.1.2; simp at this; exact this⟩
  ·exact ih h.2 d hd
theorem Ztv{word:List UInt8}(hw:word.length≤8){d:Dep}(h:Zap d.name=true):(Zks word d).length≤2030:=by
 have:=Zd2 h; have:=Zg0 d.range
 simp only[Zks,List.length_append,List.length_cons,List.length_nil]; omega
theorem Zav{word:List UInt8}(hw:word.length≤8){l:List Dep}(h: ∀d∈l,Zap d.name=true):(Zbd word l).length≤2030*l.length:=by
 induction l with
 |nil=>simp[Zbd]
 |cons x r ih=>
  have h1:=ih λd hd=>h d (List.mem_cons_of_mem _ hd)
  have h2:=Ztv hw (h x (List.mem_cons_self ..))
  simp only[Zbd,List.map_cons,List.flatten_cons,List.length_append,List.length_cons]at h1 ⊢
  omega
def dpOk(prev:Option ByteArray)(d:Dep):Bool:=Zap d.name&&Z3 d.range&& !d.range.isEmpty&&Zji prev d.name
def Zm3:Option ByteArray→List Dep→Option ByteArray
 |p,[]=>p
 |_,d::r=>Zm3 (some d.name) r
theorem Ztx(l:List Dep): ∀(p:Option ByteArray) (d:Dep),Zcp p (l++ [d])=(Zcp p l&&dpOk (Zm3 p l) d):=by
 induction l with
 |nil=>intro p d; simp[Zcp,dpOk,Zm3]
 |cons x r ih=>
  intro p d
  rw[List.cons_append,Zcp,Zcp,ih]
  exact(Bool.and_assoc ..).symm
theorem Zwz(l:List Dep): ∀(p:Option ByteArray) (d:Dep),Zm3 p (l++ [d])=some d.name:=by
 induction l with
 |nil=>intro p d; rfl
 |cons x r ih=>intro p d; exact ih _ d
theorem Zwk{l k:List Dep}{p:Option ByteArray}(h:Zcp p (l++k)=true):Zcp p l=true:=by
 induction l generalizing p with
 |nil=>rfl
 |cons y r ih=>
  rw[List.cons_append,Zcp]at h
  rw[Zcp]
  simp only[Bool.and_eq_true]at h ⊢
  exact⟨h.1,ih h.2⟩
theorem Zk9{l:List Dep}{i:Nat}(h:Zcp none (l.take i)=false):Zm l=false:=by
 unfold Zm
 cases hg:Zcp none l
 ·rfl
 ·rw[←List.take_append_drop i l]at hg
  rw[Zwk hg]at h; cases h
theorem Zrx{l:List Dep}{n:Nat}(hn:n<l.length)(hI:Zcp none (l.take n)=true):Zcp none (l.take (n+1))=dpOk (Zm3 none (l.take n)) l[n]:=by
 rw[List.take_succ_eq_append_getElem hn,Ztx,hI,Bool.true_and]
theorem Zpw{l:List Dep}{n:Nat}(hn:n+1<l.length):Zm3 none (l.take (n+1))=some l[n].name:=by
 rw[List.take_succ_eq_append_getElem oM,Zwz]
theorem Zi{l:List Dep}(h:Zm l=true):l.length≤16∧ ∀d∈l,Zap d.name=true∧Z3 d.range=true∧d.range≠ []:=by
 unfold Zm at h
 simp only[Bool.and_eq_true,decide_eq_true_eq]at h
 exact⟨h.2,Ztw h.1⟩
theorem Z0q{x:Int}(h0:0≤x)(h1:x≤255):IntKind.u8.wrap x=x:=by
 simp only[IntKind.wrap,IntKind.bits,IntKind.signed,Bool.false_and]
 have e1:(2:Int)^ 8=256:=rfl
 simp[e1]; omega
theorem Z4n{a:Addr}{w:World}{x:Int}(hb:BoxAt w a [.int .u8 x]):Zlx prog (Go.convert 159 9 (Sl.v (Sl.mk (some a) 1 1))) w (.string (B [UInt8.ofNat x.toNat])):=λw' hx=>by
 obtain⟨b,o,s⟩:=a
 obtain⟨t,ho,hs,hh⟩:=hb
 simp only at ho hs hh
 subst ho hs
 have hb':BoxAt w' ⟨b,0,none⟩ [.int .u8 x]:=BoxAt.ext ⟨t,rfl,rfl,hh⟩ hx
 exact run_convert_bytes_arg w' 159 5 underlying159 underlying5 b 0 1 1 [x] rfl (λi hi=>by
  have:i=0:=oM
  subst this
  have:=hb'.ldc 0 (.int .u8 x) rfl
  exact this) _ underlying9
theorem r02Number_se: ∀(N:Nat) {n:Int} {w:World} {R:ByteArray→World→Prop},0≤n→n.toNat<N→n≤999→(∀w',Ext w w'→R (B (dec n)) w')→SE.Zan n w R
 |0,n,w,R,_,h,_,_=>by omega
 |N+1,n,w,R,h0,hN,h9,hR=>by
  have digit: ∀m:Int,0≤m→m<10→IntKind.u8.wrap (Za (48+m))=48+m:=λm h1 h2=>by rw[Zc oM oM,Z0q oM oM]
  have dl: ∀m:Int,0≤m→UInt8.ofNat (48+m).toNat=UInt8.ofNat (48+m.toNat):=λm h1=>by congr 1; omega
  unfold SE.Zan
  refine⟨λhlt=>?_,λhge=>?_⟩
  ·rw[digit n h0 hlt]
   refine newS.intro λa w1 x1 hb _ _=>⟨_,Z4n hb,?_⟩
   rw[dl n h0,←Zil h0 hlt]
   exact hR _ xT
  ·have hq:n.tdiv 10=n/10:=Int.tdiv_eq_ediv_of_nonneg h0
   have hm:Int.tmod n 10=n%10:=Int.tmod_eq_emod_of_nonneg h0
   rw[hq,hm,Zc oM oM,digit (n%10) oM oM]
   have hl:=Zid (n:=n/10) oM oM
   have hsz:((((B (dec (n/10))).size+(B [UInt8.ofNat (48+n%10).toNat]).size:Nat):Int)≤maxI):=by rw[Zl,Zl,Zs]; simp; omega
   have hv:B (dec (n/10))++B [UInt8.ofNat (48+n%10).toNat]=B (dec n):=by rw[Zgp,dl _ oM,←Znw oM]
   refine join.intro (bnd.drew λw1 x1=>⟨?_,?_⟩)
   ·refine callX.intro (SE.Zan.go (r02Number_se N oM oM oM λw2 x2=>⟨x2,_,rfl,newS.intro λa w3 x3 hb _ _=>⟨_,Z4n hb,hsz,?_⟩⟩))
    rw[hv]; exact hR _ xT
   ·refine newS.intro λa w3 x3 hb _ _=>⟨_,Z4n hb,callX.intro (SE.Zan.go (r02Number_se N oM oM oM λw2 x2=>⟨x2,_,rfl,hsz,?_⟩))⟩
    rw[hv]; exact hR _ xT
theorem Zi8{v:Ver}{w:World}{R:ByteArray→World→Prop}(hR: ∀w',Ext w w'→R (B (Zbi v)) w'):SE.Zbj v.ma v.mi v.pa w R:=by
 unfold SE.Zbj
 refine newS.intro λ_ w1 x1 hb _ _=> ?_
 refine⟨_,_,_,lD,?_⟩
 refine SE.Zbb.go (r02May_se λw2 x2=>⟨_,rfl,λh=>?_,λh=>bnd.drew λw3 x3=>?_⟩)
 ·have e:v.may=false:=by simpa using h
  have:Zbi v= []:=by unfold Zbi; rw[e]; rfl
  have hr:=hR w2 xT
  rw[this]at hr; exact hr
 ·have e:v.may=true:=by simpa using h
  have hm:=Ver.may_iff.1 e
  have l1:=Zid hm.1.1 hm.1.2; have l2:=Zid hm.2.1.1 hm.2.1.2; have l3:=Zid hm.2.2.1 hm.2.2.2
  have hv:Zbi v=(((dec v.ma++ [46])++dec v.mi)++ [46])++dec v.pa:=by unfold Zbi; rw[e]; rfl
  refine⟨_,lD,?_⟩
  refine⟨_,lD,?_⟩
  refine⟨_,lD,?_⟩
  refine callX.intro (SE.Zan.go (r02Number_se 1000 hm.1.1 oM hm.1.2 λw4 x4=>⟨x4,_,rfl,?_⟩))
  refine⟨by rw[Zl,Za2,Zs]; simp; omega,callX.intro (SE.Zan.go (r02Number_se 1000 hm.2.1.1 oM hm.2.1.2 λw5 x5=>⟨x5,_,rfl,?_⟩))⟩
  simp only[Zd1,Zgp]
  refine⟨by rw[Zl,Zl,Zs]; simp; omega,by rw[Zl,Za2,Zs]; simp; omega,SE.Zan.go (r02Number_se 1000 hm.2.2.1 oM hm.2.2.2 λw6 x6=>⟨_,rfl,?_⟩)⟩
  simp only[Zgp]
  refine⟨by rw[Zl,Zl,Zs]; simp; omega,?_⟩
  have hr:=hR w6 xT
  rw[hv]at hr; exact hr
def Tab(w:World):Prop:=Lib.TabIs prog w "internal/strconv.uint64pow10" .u64 Lib.pow10Tab
theorem Z27{w w':World}{g:Nat}(hg:prog.globalNamed "internal/strconv.uint64pow10" =some g)(h:Tab w)(hk:w'.heap[g]? =w.heap[g]?):Tab w':=by
 unfold Tab Lib.TabIs World.var? at*
 rw[hg]at h ⊢
 simp only[Option.bind_some]at h ⊢
 rw[hk]; exact h
theorem Tab.ext{w w':World}(h:Tab w)(hx:Ext w w'):Tab w':=by
 have hv:=h
 unfold Tab Lib.TabIs World.var? at hv
 cases hg:prog.globalNamed "internal/strconv.uint64pow10" with
 |none=>rw[hg]at hv; cases hv
 |some g=>
  rw[hg]at hv
  simp only[Option.bind_some]at hv
  refine Z27 hg h (hx.block ?_)
  cases hh:w.heap[g]? with
  |none=>rw[hh]at hv; cases hv
  |some o=>exact(Array.getElem?_eq_some_iff.1 hh).1
theorem Zzb{n:Int}{w:World}{k:Value→World→Prop}(h0:0≤n)(h1:n≤999)(ht:Tab w)(hk: ∀w',Ext w w'→k (.string (B (dec n))) w'):callS prog 105 [.int .i64 n] w k:=by
 have h:=Any.strconv_Itoa Tryz.layIt n oM oM w ht
 have e:Lib.itoa n=dec n:=by unfold Lib.itoa dec; rw[if_neg oM]
 rw[e]at h
 refine h.mono λe w' ⟨he,q,os,hw⟩=>⟨_,he,hk w' ?_⟩
 subst hw
 exact⟨rfl,rfl,rfl,by show w.heap.size≤(w.heap++os).size; simp,λb hb=>by
  show(w.heap++os)[b]? =w.heap[b]?
  rw[Array.getElem?_append_left hb]⟩
theorem versPrint_se{v:Ver}{w:World}{R:ByteArray→World→Prop}(ht:Tab w)(hR: ∀w',Ext w w'→R (B (Zbi v)) w'):SE.Zeg v.ma v.mi v.pa w R:=by
 unfold SE.Zeg
 refine newS.intro λ_ w1 x1 hb _ _=> ?_
 refine⟨_,_,_,lD,?_⟩
 refine SE.Zia.go (Zkj (v:=v) λw2 x2=>⟨_,rfl,λh=>?_,λh=>bnd.drew λw3 x3=>?_⟩)
 ·have e:v.may=false:=by simpa using h
  have:Zbi v= []:=by unfold Zbi; rw[e]; rfl
  have hr:=hR w2 xT
  rw[this]at hr; exact hr
 ·have e:v.may=true:=by simpa using h
  have hm:=Ver.may_iff.1 e
  have l1:=Zid hm.1.1 hm.1.2; have l2:=Zid hm.2.1.1 hm.2.1.2; have l3:=Zid hm.2.2.1 hm.2.2.2
  have hv:Zbi v=(((dec v.ma++ [46])++dec v.mi)++ [46])++dec v.pa:=by unfold Zbi; rw[e]; rfl
  refine⟨_,lD,?_⟩
  refine⟨_,lD,?_⟩
  refine⟨_,lD,?_⟩
  refine callX.intro (Zzb hm.1.1 hm.1.2 (ht.ext xT) λw4 x4=>⟨x4,_,rfl,?_⟩)
  refine⟨by rw[Zl,Za2,Zs]; simp; omega,callX.intro (Zzb hm.2.1.1 hm.2.1.2 (ht.ext xT) λw5 x5=>⟨x5,_,rfl,?_⟩)⟩
  simp only[Zd1,Zgp]
  refine⟨by rw[Zl,Zl,Zs]; simp; omega,by rw[Zl,Za2,Zs]; simp; omega,Zzb hm.2.2.1 hm.2.2.2 (ht.ext xT) λw6 x6=>⟨_,rfl,?_⟩⟩
  simp only[Zgp]
  refine⟨by rw[Zl,Zl,Zs]; simp; omega,?_⟩
  have hr:=hR w6 xT
  rw[hv]at hr; exact hr
end Go.Hal
namespace Go.Hal
open Go.Proofs.Tryz
open Go Go.RowKit Go.ChangeShapes Go.WideShapes Go.ChangeAt Go.Proofs
theorem own:ownKnob prog.godebug=none:=kR
def Zvk{H:Type}:DataW H→List Value
 | .lit (.int k n)=>[.int k n]
 |_=> []
def Z2y{H:Type}:DataW H→List Value
 | .agg l=>l.flatMap λd=>match d with
  | .agg m=>m.flatMap Zvk
  |d=>Zvk d
 |_=> []
def Z7a(P:Program)(h:Array Obj)(x:String×DataW Unit):Array Obj:=match P.globalNamed x.1 with
 |some g=>match x.2 with
  | .iface _ (.ptr (.agg [.lit (.string s)]))=>(h.push (.cells #[.string ⟨s.toArray⟩] 439)).modify g fun
   | .cells _ t fr=>.cells #[.iface 437 (.pointer (some ⟨h.size,0,none⟩))] t fr
   |o=>o
  |d=>h.modify g fun
   | .cells _ t fr=>.cells (Z2y d).toArray t fr
   |o=>o
 |none=>h
def Z69(P:Program)(l:List (String×DataW Unit))(h:Array Obj):Array Obj:=l.foldl (Z7a P) h
def Zn5:List (String×DataW Unit):=Go.Proofs.YtdjiedhnoanbpaaGreatDoor.Rows.plainResolvesRow.laid
noncomputable def Zjo (os:Os):World:={World.holding prog os ⟨#[],#[],[]⟩with heap:=Z69 prog Zn5 (World.holding prog os ⟨#[],#[],[]⟩).heap}
set_option maxRecDepth 100000 in
theorem Z19(os:Os)(args:Array Value):laidMet prog Zn5 ((Zjo os).forCall (λ_ _=>0) ⟨#[],args,[]⟩).memory:=laidMet_of_run' 8 kR kR
set_option maxRecDepth 100000 in
theorem Zzf(os:Os)(args:Array Value):((Zjo os).forCall (λ_ _=>0) ⟨#[],args,[]⟩).variablesB prog=true:=kR
set_option maxRecDepth 100000 in
theorem Zze(os:Os)(args:Array Value):(((Zjo os).forCall (λ_ _=>0) ⟨#[],args,[]⟩).heap.toList.drop prog.globals.size).take ((begin prog (λ_ _=>0) default).world.heap.size - prog.globals.size)=
  (begin prog (λ_ _=>0) default).world.heap.toList.drop prog.globals.size:=kR
theorem gPow: ∃g t,prog.globalNamed "internal/strconv.uint64pow10" =some g∧(prog.globals[g]?).map (·.type)=some t∧prog.underlying t=some (.array 20 283)∧prog.cellsOf t=20:=⟨3,396,kR,kR,kR,kR⟩
theorem tab_of{W:World}(h:laidMetH prog Zn5 W):Tab W:=by
 obtain⟨g,t,h1,h2,h3,h4⟩:=gPow
 rw[MakeChecks.laidMetH_plain _ _ _ kR]at h
 exact Lib.tabIs_of_head h1 h2 h3 underlying283 kR h4 (laidMet.tail (laidMet.tail h))
theorem Z6i{a b:Bool}(h1:a=true)(h2:b=true):(a&&b)=true:=by rw[h1,h2]; rfl
theorem Z1a{cs:Array Value}{l:List Value}(h:(Value.agg cs).cells.toList=l):cs=l.toArray:=by
 have:cs.toList=l:=h
 rw[←this]
end Go.Hal
namespace Go.Proofs.YtdjiedhnoanbpaaGreatDoor
open Go.Proofs.Tryz
open Go Go.RowKit Go.ChangeShapes Go.WideShapes Go.ChangeAt Go.Hal
theorem Zde:Tryz.f3.params.toList= [30]:=by rw[Tryz.params3]
theorem Zkl:joinedFacts Tryz.pinned.checked.prog 3 Tryz.f3 (OpenSpec.ofChange Rows.plainResolvesSpec).bare Rows.plainResolvesRow=true:=by
 unfold joinedFacts
 repeat' with_reducible refine Z6i ?_ ?_
 all_goals (as_aux_lemma=>kernel_rfl)
theorem Zkx(f:FuncId)(fn:Func)(hf:Tryz.pinned.checked.prog.funcNamed "halyard/halyardlaw21.PlainResolves" =some f)(hfn:Tryz.pinned.checked.prog.funcs[f]? =some fn):
  true=Tryz.pinned.checked.prog.looks []∧ ∀(j:Nat) t,fn.params[j]? =some t→Tryz.pinned.checked.prog.wantsStandIn t=false:=by
 obtain rfl:f=3:=Option.some.inj ((show prog.funcNamed "halyard/halyardlaw21.PlainResolves" =some 3 by kernel_rfl).symm.trans hf)|>.symm
 obtain rfl:fn=Tryz.f3:=(Option.some.inj (func3.symm.trans hfn)).symm
 refine⟨kR,λj t ht=>?_⟩
 have hm:t∈Tryz.f3.params.toList:=by rw[←Array.getElem?_toList]at ht; exact List.mem_of_getElem? ht
 have hall:(Tryz.f3.params.toList.all λt=>!prog.wantsStandIn t)=true:=kR
 have:=List.all_eq_true.1 hall t hm
 exact(show prog.wantsStandIn t=false by simpa using this)
end Go.Proofs.YtdjiedhnoanbpaaGreatDoor
namespace Go.Proofs.YtdjiedhnoanbpaaGreatDoor
open Go.Proofs.Tryz
open Go
theorem Zy4{P:Program}(h:P.funcs.any Func.goes=false)(c:OpenClaim)(hs:c.start= .entering):false=c.goesBy P:=by
 have h1: ∀g:FuncId,(P.funcs[g]?).any Func.goes=false:=λg=>by
  cases hg:P.funcs[g]? with
  |none=>rfl
  |some fn=>
   obtain⟨hl,rfl⟩:=Array.getElem?_eq_some_iff.1 hg
   have:=Array.any_eq_false.1 h g hl
   simpa using this
 have h2: ∀f,P.goes f=false:=λf=>by
  unfold Program.goes
  rw[h,Bool.and_false,Bool.or_false,List.any_eq_false]
  intro g _
  rw[h1]; simp
 unfold OpenClaim.goesBy Program.goesAt Program.goesFrom
 rw[hs]
 cases P.funcNamed c.func with
 |none=>rfl
 |some f=>simp[h2]
theorem Zm6:Rows.plainResolvesRow.wfByText (OpenSpec.ofChange Rows.plainResolvesSpec)=true:=kR
theorem Zlq:Tryz.pinned.checked.prog.mainIs=some (Rows.plainResolvesCard.stood.harness.1,Rows.plainResolvesCard.stood.harness.2.toList):=kR
theorem Zlp:false=Rows.plainResolvesRow.goesBy Tryz.pinned.checked.prog:=Zy4 kR _ rfl
end Go.Proofs.YtdjiedhnoanbpaaGreatDoor
namespace Go.Hal
open Go.Proofs.Tryz
open Go Go.RowKit
theorem Z3o(x:List UInt8):Op.bytesLess x []=false:=by cases x<;>rfl
theorem Zql(a b:UInt8)(x y:List UInt8):Op.bytesLess (a::x) (b::y)=(decide (a<b)||(a==b&&Op.bytesLess x y)):=rfl
theorem Zx7(x:List UInt8):Op.bytesLess x x=false:=by
 induction x with
 |nil=>rfl
 |cons a r ih=>rw[Zql,ih]; simp
theorem Zu9: ∀{x y z:List UInt8},Op.bytesLess x y=true→Op.bytesLess y z=true→Op.bytesLess x z=true
 |_,[],_,h,_=>by rw[Z3o]at h; cases h
 |_,_::_,[],_,h=>by rw[Z3o]at h; cases h
 | [],_::_,_::_,_,_=>rfl
 |a::x,b::y,c::z,h1,h2=>by
  rw[Zql]at h1 h2 ⊢
  simp only[Bool.or_eq_true,decide_eq_true_eq,Bool.and_eq_true,beq_iff_eq]at h1 h2 ⊢
  rcases h1 with h1|⟨rfl,h1⟩
  ·rcases h2 with h2|⟨rfl,h2⟩
   ·exact .inl (UInt8.lt_trans h1 h2)
   ·exact .inl h1
  ·rcases h2 with h2|⟨rfl,h2⟩
   ·exact .inl h2
   ·exact .inr ⟨rfl,Zu9 h1 h2⟩
theorem Z3p: ∀{x y:List UInt8},Op.bytesLess x y=false→Op.bytesLess y x=false→x=y
 | [],[],_,_=>rfl
 | [],_::_,h,_=>by cases h
 |_::_,[],_,h=>by cases h
 |a::x,b::y,h1,h2=>by
  rw[Zql]at h1 h2
  simp only[Bool.or_eq_false_iff,decide_eq_false_iff_not,Bool.and_eq_false_iff,beq_eq_false_iff_ne]at h1 h2
  have e:a=b:=by
   have:=UInt8.not_lt.1 h1.1; have:=UInt8.not_lt.1 h2.1
   exact UInt8.le_antisymm ‹_› ‹_›
  subst e
  have:=Z3p (x:=x) (y:=y) (by simpa using h1.2) (by simpa using h2.2)
  rw[this]
theorem Zj9(x:ByteArray):bLt x x=false:=Zx7 _
theorem Zii{x y z:ByteArray}(h:bLt x y=true)(k:bLt y z=true):bLt x z=true:=Zu9 h k
theorem Znn{x y:ByteArray}(h:bLt x y=false)(k:bLt y x=false):x=y:=by
 have:=Z3p h k
 rw[toList_data,toList_data]at this
 exact Zpg this
theorem Zu8{x y:ByteArray}(h:bLt x y=true):x≠y:=λe=>by subst e; rw[Zj9]at h; cases h
theorem Znm{x y:ByteArray}(h:bLt x y=true):bLt y x=false:=by
 cases k:bLt y x
 ·rfl
 ·have:=Zii h k; rw[Zj9]at this; cases this
theorem Zyk{l:List Dep}{p:Option ByteArray}(h:Zcp p l=true):l.Pairwise (λx y=>bLt x.name y.name=true)∧(∀n,p=some n→ ∀x∈l,bLt n x.name=true):=by
 induction l generalizing p with
 |nil=>exact⟨.nil,λ_ _ x hx=>by cases hx⟩
 |cons y r ih=>
  rw[Zcp]at h
  simp only[Bool.and_eq_true]at h
  obtain⟨ih1,ih2⟩:=ih h.2
  refine⟨List.pairwise_cons.2 ⟨λx hx=>ih2 _ rfl x hx,ih1⟩,λn hn x hx=>?_⟩
  subst hn
  have hy:bLt n y.name=true:=h.1.2
  rcases List.mem_cons.1 hx with rfl|hx
  ·exact hy
  ·exact Zii hy (ih2 _ rfl x hx)
theorem Zey{l:List Dep}(h:Zm l=true):(l.map (·.name)).Nodup:=by
 unfold Zm at h
 simp only[Bool.and_eq_true]at h
 have:=(Zyk h.1).1
 rw[List.Nodup,List.pairwise_map]
 exact this.imp λh=>Zu8 h
theorem Zfx{a b:List Dep}:Zdb a b=true↔ ∀x∈a.map (·.name),∀y∈b.map (·.name),x≠y:=by
 unfold Zdb
 rw[Bool.not_eq_true',List.any_eq_false]
 constructor
 ·intro h x hx y hy e
  obtain⟨d,hd,rfl⟩:=List.mem_map.1 hx
  obtain⟨f,hf,rfl⟩:=List.mem_map.1 hy
  exact h d hd (List.any_eq_true.2 ⟨f,hf,by simpa using e⟩)
 ·intro h d hd hany
  obtain⟨f,hf,he⟩:=List.any_eq_true.1 hany
  exact h _ (List.mem_map_of_mem hd) _ (List.mem_map_of_mem hf) (by simpa using he)
theorem Zx3{p:Pack}(h:Zdd p=true):decide ((p.deps++p.peers++p.opt).map (·.name)).Nodup=Zk7 p:=by
 unfold Zdd at h
 simp only[Bool.and_eq_true]at h
 obtain⟨⟨⟨_,h1⟩,h2⟩,h3⟩:=h
 have n1:=Zey h1; have n2:=Zey h2; have n3:=Zey h3
 unfold Zk7
 rw[Bool.eq_iff_iff,decide_eq_true_eq,Bool.and_eq_true,Bool.and_eq_true,Zfx,Zfx,Zfx,List.map_append,List.map_append,List.nodup_append,List.nodup_append]
 constructor
 ·rintro⟨⟨_,_,h12⟩,_,h3⟩
  exact⟨⟨h12,λx hx y hy=>h3 x (List.mem_append_left _ hx) y hy⟩,λx hx y hy=>h3 x (List.mem_append_right _ hx) y hy⟩
 ·rintro⟨⟨h12,h13⟩,h23⟩
  refine⟨⟨n1,n2,h12⟩,n3,λx hx y hy=>?_⟩
  rcases List.mem_append.1 hx with hx|hx
  ·exact h13 x hx y hy
  ·exact h23 x hx y hy
end Go.Hal
namespace Go.Hal
open Go.Proofs.Tryz
open Go Go.RowKit Go.Proofs
def Zh4(over:List Dep)(name:ByteArray)(r:List Span):List Span:=match over with
 | []=>r
 |d::l=>if d.name=name then d.range else Zh4 l name r
theorem Zp2{l:List Dep}{name:ByteArray}{r:List Span}{i:Nat}{d:Dep}(hi:l[i]? =some d)(hd:d.name=name)(hn: ∀k<i,∀e:Dep,l[k]? =some e→ ¬e.name=name):Zh4 l name r=d.range:=by
 induction l generalizing i with
 |nil=>simp at hi
 |cons a l ih=>
  cases i with
  |zero=>
   simp only[List.getElem?_cons_zero,Option.some.injEq]at hi
   subst hi; rw[Zh4,if_pos hd]
  |succ i=>
   rw[Zh4,if_neg (hn 0 oM a rfl)]
   exact ih hi λk hk e he=>hn (k+1) oM e he
theorem Zob{l:List Dep}{name:ByteArray}{r:List Span}(hn: ∀(k:Nat) (e:Dep),l[k]? =some e→ ¬e.name=name):Zh4 l name r=r:=by
 induction l with
 |nil=>rfl
 |cons a l ih=>
  rw[Zh4,if_neg (hn 0 a rfl)]
  exact ih λk e he=>hn (k+1) e he
theorem SlR.lt{α:Type}{E:Enc α}{w:World}{S:Nat→Prop}{s:Sl}{l:List α}(h:SlR E w S s l){i:Int}(h0:0≤i)(h1:i<(s.len:Int)): ∃x,l[i.toNat]? =some x:=by
 rw[h.len]at h1
 exact⟨_,List.getElem?_eq_getElem oM⟩
theorem refRange_se{S:Nat→Prop}{mD mDev mOpt mOv dR:Sl}{dN:ByteArray}{over:List Dep}{dr:List Span}{w:World}{R:Sl→World→Prop}(hO:SlR depE w S mOv over)(hd:SlR spanE w S dR dr)
  (hR: ∀t w',Ext w w'→SlR spanE w' S t (Zh4 over dN dr)→R t w'):SE.Zcc mD mDev mOpt mOv dN dR w R:=by
 unfold SE.Zcc
 refine newS.intro λa w1 x1 b1 _ _=>newS.intro λa1 w2 x2 b2 _ _=> ?_
 have hx:=x1.trans x2
 refine⟨λi w'=>Ext w2 w'∧0≤i∧i≤over.length∧ ∀k<i.toNat,∀e:Dep,over[k]? =some e→ ¬e.name=dN,λi _=>over.length - i.toNat,⟨Ext.refl _,oM,oM,λk hk=>by omega⟩,?_⟩
 rintro i w3 ⟨x3,h0,h1,h2⟩
 have b1:=(b1.ext x2).ext x3
 have b2:=b2.ext x3
 have x4:=Ext.drew w3
 refine⟨_,b1.ldc.sub 3 1,λhlt=>?_,λhge=>⟨_,b2.ldc.sub 1 1,?_⟩⟩
 ·rintro w4 rfl
  have hO':=hO.ext ((hx.trans x3).trans x4)
  obtain⟨d,hd'⟩:=hO.lt h0 hlt
  obtain⟨ad,cs,ha,hS,⟨hn,s,rfl,hs⟩,hc⟩:=hO'.get hd'
  refine⟨_,(b1.ext x4).ldc.sub 3 1,ad,⟨ha,h0,hlt⟩,_,hc.sub 0 1,_,(b2.ext x4).ldc.sub 0 1,λhe=>?_,λhne=>?_⟩
  ·refine⟨_,(b1.ext x4).ldc.sub 3 1,ad,⟨ha,h0,hlt⟩,_,hc.sub 1 1,hR _ _ ((hx.trans x3).trans x4) ?_⟩
   rw[Zp2 hd' he h2]; exact hs
  ·have hl:=hO.len
   have hcap:=hO.2.2.1
   have hlc:=hO.2.1
   rw[Zfg h0 hlt oM]
   refine⟨⟨x3.trans x4,oM,oM,λk hk e he=>?_⟩,by show over.length - (i+1).toNat<over.length - i.toNat; omega⟩
   by_cases hki:k=i.toNat
   ·subst hki; rw[hd']at he; cases he; exact hne
   ·exact h2 k oM e he
 ·refine hR _ _ (hx.trans x3) ?_
  rw[Zob]
  ·exact hd.ext (hx.trans x3)
  ·intro k e he
   have hk:=(List.getElem?_eq_some_iff.1 he).1
   have:=hO.len
   exact h2 k oM e he
theorem Zxc{S:Nat→Prop}{mD mDev mOpt mOv dR:Sl}{dN:ByteArray}{over:List Dep}{dr:List Span}{w:World}{k:Value→World→Prop}(hO:SlR depE w S mOv over)(hd:SlR spanE w S dR dr)
  (hk: ∀t w',Ext w w'→SlR spanE w' S t (Zh4 over dN dr)→k (Sl.v t) w'):callS prog 247 [.agg #[Sl.v mD,Sl.v mDev,Sl.v mOpt,Sl.v mOv],.agg #[.string dN,Sl.v dR]] w k:=
 SE.Zcc.go (refRange_se hO hd λt w' h1 h2=>hk t w' h1 h2)
theorem Zx2:ApT prog 23 152 2 40:=Zhe (z:=.agg #[.string ⟨#[]⟩,.slice none 0 0]) kR kR rfl dC
def Zbe(over:List Dep)(l:List Dep):List Dep:=l.map λd=>⟨d.name,Zh4 over d.name d.range⟩
theorem Zum{S:Nat→Prop}{pN:ByteArray}{v1 v2 v3:Int}{pD pP pO mD mDev mOpt mOv:Sl}{over peers:List Dep}{w:World}{R:Sl→World→Prop}(hS:Old S w)(hO:SlR depE w S mOv over)(hp:SlR depE w S pP peers)
  (hR: ∀t w',Ext w w'→SlR depE w' (λb=>S b∨w.heap.size≤b) t (Zbe over peers)→R t w'):SE.Zc1 pN v1 v2 v3 pD pP pO mD mDev mOpt mOv w R:=by
 unfold SE.Zc1
 refine newS.intro λa w1 x1 b1 _ _=>newS.intro λa1 w2 x2 b2 _ _=> ?_
 have hx:=x1.trans x2
 have hl:=hp.len
 refine⟨λout i w'=>Ext w2 w'∧0≤i∧i≤peers.length∧OwnS depE 152 w' w2.heap.size S out (Zbe over (peers.take i.toNat)),λ_ i _=>peers.length - i.toNat,
  ⟨Ext.refl _,oM,oM,(OwnS.nil _ _).mono (λ_ h=>h.elim) (hS.ext hx.size) (λ_ h=>by cases h)⟩,?_⟩
 rintro out i w3 ⟨x3,h0,h1,own⟩
 have hx3:=hx.trans x3
 have b1:=(b1.ext x2).ext x3
 have b2:=b2.ext x3
 refine⟨_,b1.ldc.sub 5 1,λhlt=>?_,λhge=>?_⟩
 ·rintro w4 rfl
  have x4:=Ext.drew w3
  have hp':=hp.ext (hx3.trans x4)
  obtain⟨d,hd'⟩:=hp.lt h0 hlt
  obtain⟨ad,cs,ha,hSa,⟨hn,s,rfl,hs⟩,hc⟩:=hp'.get hd'
  refine⟨_,(b1.ext x4).ldc.sub 5 1,ad,⟨ha,h0,hlt⟩,_,hc.sub 0 1,_,_,_,_,(b2.ext x4).ldc,_,(b1.ext x4).ldc.sub 5 1,ad,⟨ha,h0,hlt⟩,_,_,hc,?_⟩
  refine callX.intro (Zxc (hO.ext (hx3.trans x4)) hs λt w5 x5 ht=>⟨x5,_,rfl,?_⟩)
  refine newS.intro λa13 w6 x6 b13 hb6 hs6=>?_
  have own6:=((own.ext x4).ext x5).ext x6
  have hcap:=hp.2.2.1
  have hlc:=hp.2.1
  have hby:=hp.2.2.2.1
  have hlen:(Zbe over (peers.take i.toNat)).length=i.toNat:=by simp[Zbe]; omega
  have hE:depE.bytes=40:=rfl
  have hpre:w2.heap.size≤w6.heap.size:=(((x3.trans x4).trans x5).trans x6).size
  refine own6.push Zx2 hpre (x:=⟨d.name,Zh4 over d.name d.range⟩) (S':=S) ⟨hn,t,rfl,ht.ext x6⟩ b13.ldc (hS.ext ((((hx3.trans x4).trans x5).trans x6).size)) own6.apart (by rw[hlen]; rw[hE]at hby ⊢; omega) (by rw[hlen]; omega) λr w7 own7 bel _ _=> ?_
  have x7:Ext w2 w7:=(((x3.trans x4).trans x5).trans x6).trans' bel
  rw[Zfg h0 hlt oM]
  refine⟨⟨x7,oM,oM,?_⟩,by show peers.length - (i+1).toNat<peers.length - i.toNat; omega⟩
  have e:(i+1).toNat=i.toNat+1:=oM
  rw[e,List.take_add_one,hd']
  have:=own7.mono (S':=S) (λb hb=>hb.elim id id) (hS.ext (hx.trans x7).size) (λad had hb=>own7.apart ad had (.inl hb))
  simpa[Zbe]using this
 ·have hi:i.toNat=peers.length:=oM
  rw[hi,List.take_length]at own
  refine hR _ _ hx3 ?_
  have hl2:(Zbe over peers).length=peers.length:=by simp[Zbe]
  have hby:=hp.2.2.2.1
  have hcap:=hp.2.2.1
  have hlc:=hp.2.1
  refine(own.read (by rw[hl2]; exact hby) oM).mono λb hb=>?_
  rcases hb with hb|⟨ad,had,rfl⟩
  ·exact .inl hb
  ·right; have:=(own.block had).1; have:=hx.size; omega
end Go.Hal
namespace Go.Hal
open Go.Proofs.Tryz
theorem Zkr{a b:ByteArray}:cmpS a b<0↔bLt a b=true:=by
 unfold cmpS
 split
 ·rename_i h; simp[h]
 ·rename_i h
  split<;>simp[h]
theorem Zhf{a b:ByteArray}:cmpS a b=0↔a=b:=by
 unfold cmpS
 split
 ·rename_i h; have:=Zu8 h; simp[this]
 ·split
  ·rename_i h; simp[Zca.1 h]
  ·rename_i h
   have: ¬a=b:=λe=>h (Zca.2 e)
   simp[this]
theorem Zts{a b:ByteArray}:cmpS a b≤0↔bLt b a=false:=by
 constructor
 ·intro h
  rcases Int.lt_or_eq_of_le h with h|h
  ·exact Znm (Zkr.1 h)
  ·rw[Zhf.1 h,Zj9]
 ·intro h
  cases h1:bLt a b
  ·have:=Znn h1 h
   subst this
   rw[Zhf.2 rfl]; omega
  ·have:=Zkr.2 h1; omega
theorem Zgb{α:Type}(f:α→ByteArray):Ord3 (λa b:α=>cmpS (f a) (f b)) where
 flip:=λx y=>by
  have h1:=@Zts (f y) (f x)
  rw[Zkr]
  cases h:bLt (f x) (f y)
  ·have:=h1.2 h
   simp; omega
  ·rw[h]at h1
   simp at h1 ⊢
   omega
 trans:=λx y z h1 h2=>by
  rw[Zts]at h1 h2 ⊢
  cases h:bLt (f z) (f x)
  ·rfl
  ·exfalso
   cases h3:bLt (f y) (f z)
   ·have:=Znn h3 h2
    rw[this]at h1
    rw[h1]at h; cases h
   ·have:=Zii h3 h
    rw[this]at h1; cases h1
theorem Zrm{a b:ByteArray}(h:cmpS a b≤0)(hne:a≠b):bLt a b=true:=by
 cases h1:bLt a b
 ·exact absurd (Znn h1 (Zts.1 h)) hne
 ·rfl
def Zaw(l:List Pin):List Pin:=Zb0 (λa b=>cmpS a.name b.name) l
def Rises(l:List Pin):Prop:=l.Pairwise λa b=>bLt a.name b.name=true
theorem Zbk(l:List Pin):(Zaw l).Perm l:=Zeq l
theorem Zf8{l:List Pin}(h:(l.map (·.name)).Nodup):Rises (Zaw l):=by
 have h1:=Zko (Zgb (α:=Pin) (·.name)) l
 have h2:((Zaw l).map (·.name)).Nodup:=((Zbk l).map _).nodup_iff.2 h
 rw[List.nodup_iff_pairwise_ne,List.pairwise_map]at h2
 exact(h1.and h2).imp λh=>Zrm h.1 h.2
theorem Rises.one{l m:List Pin}(h1:Rises l)(h2:Rises m)(hp:l.Perm m):l=m:=
 Zkg (R:=λa b:Pin=>bLt a.name b.name=true) (λx y h1 h2=>by rw[Znm h1]at h2; cases h2) h1 h2 hp
theorem Rises.nodup{l:List Pin}(h:Rises l):(l.map (·.name)).Nodup:=by
 rw[List.nodup_iff_pairwise_ne,List.pairwise_map]
 exact h.imp λh=>Zu8 h
theorem Rises.sub{l m:List Pin}(h:Rises l)(hs:m.Sublist l):Rises m:=h.sublist hs
def isN(n:ByteArray)(q:Pin):Bool:=decide (q.name=n)
def tells(env:List Pin)(n:ByteArray):Option Ver:=(env.find? (isN n)).map (·.v)
theorem Zte{env:List Pin}{n:ByteArray}{v:Ver}(h:tells env n=some v):⟨n,v⟩∈env:=by
 unfold tells at h
 cases hf:env.find? (isN n)with
 |none=>rw[hf]at h; cases h
 |some q=>
  rw[hf]at h
  simp only[Option.map_some,Option.some.injEq]at h
  have h1:=List.find?_some hf
  simp only[isN,decide_eq_true_eq]at h1
  have h2:=List.mem_of_find?_eq_some hf
  obtain⟨a,b⟩:=q
  simp only at h h1
  subst h; subst h1; exact h2
theorem Zxp{l:List Pin}{n:ByteArray}(h:tells l n=none): ∀q∈l,q.name≠n:=by
 unfold tells at h
 simp only[Option.map_eq_none_iff]at h
 intro q hq
 simpa[isN]using List.find?_eq_none.1 h q hq
section
variable (get:ByteArray→Ver→Option Pack) (over:List Dep) (env:List Pin)
def Zbc:List Dep→List Pin→Option (List Pin)
 | [],out=>some out
 |d::l,out=>match tells env d.name with
  |none=>none
  |some v=>if Z6 d.range v then Zbc l (if out.any (isN d.name)then out else out++ [⟨d.name,v⟩])else none
def Zic(p:Pin):Nat→Nat→List Pin→Option (List Pin)
 |0,_,_=>none
 |f+1,i,out=>match(p::out)[i]? with
  |none=>some out
  |some q=>match get q.name q.v with
   |none=>none
   |some x=>match Zbc env (Zbe over x.peers) out with
    |none=>none
    |some out'=>Zic p f (i+1) out'
def ctx(p:Pin):Option (List Pin):=(Zic get over env p (env.length+2) 0 []).map Zaw
def Zxy(q:Pin):Prop:=∃x,get q.name q.v=some x∧ ∀d∈Zbe over x.peers,∃v,tells env d.name=some v∧Z6 d.range v=true
def Asks(q r:Pin):Prop:=∃x d,get q.name q.v=some x∧d∈Zbe over x.peers∧r.name=d.name∧tells env d.name=some r.v
inductive Reach (p:Pin):Pin→Prop
 |one {r:Pin}:Asks get over env p r→Reach p r
 |more {q r:Pin}:Reach p q→Asks get over env q r→Reach p r
structure CtxI(p:Pin)(i:Nat)(out:List Pin):Prop where
 names:(out.map (·.name)).Nodup
 told: ∀r∈out,tells env r.name=some r.v
 reach: ∀r∈out,Reach get over env p r
 le:i≤out.length+1
 stands: ∀(k:Nat) q,k<i→(p::out)[k]? =some q→Zxy get over env q
 asks: ∀(k:Nat) q,k<i→(p::out)[k]? =some q→ ∀r,Asks get over env q r→r∈out
end
section
variable {get:ByteArray→Ver→Option Pack} {over:List Dep} {env:List Pin} {p:Pin}
theorem Zmq{out0:List Pin}: ∀{l:List Dep} {out out':List Pin},Zbc env l out=some out'→(out.map (·.name)).Nodup→(∀r∈out,tells env r.name=some r.v)→
  (out'.map (·.name)).Nodup∧(∀r∈out',tells env r.name=some r.v)∧(∃t,out'=out++t)∧(∀d∈l,∃v,tells env d.name=some v∧Z6 d.range v=true∧(⟨d.name,v⟩:Pin)∈out')∧ ∀r∈out',r∈out∨ ∃d∈l,r.name=d.name
 | [],out,out',h,hn,ht=>by
  simp only[Zbc,Option.some.injEq]at h
  subst h
  exact⟨hn,ht,⟨[],by simp⟩,(λd h=>by cases h),λr h=>.inl h⟩
 |d::l,out,out',h,hn,ht=>by
  unfold Zbc at h
  cases hv:tells env d.name with
  |none=>rw[hv]at h; cases h
  |some v=>
   rw[hv]at h
   simp only at h
   split at h
   ·rename_i hin
    have key:(((if out.any (isN d.name)then out else out++ [⟨d.name,v⟩]):List Pin).map (·.name)).Nodup∧(∀r∈(if out.any (isN d.name)then out else out++ [⟨d.name,v⟩]:List Pin),tells env r.name=some r.v)∧(∃t,(if out.any (isN d.name)then out else out++ [⟨d.name,v⟩]:List Pin)=out++t)∧(⟨d.name,v⟩:Pin)∈(if out.any (isN d.name)then out else out++ [⟨d.name,v⟩]:List Pin)∧ ∀r∈(if out.any (isN d.name)then out else out++ [⟨d.name,v⟩]:List Pin),r∈out∨r.name=d.name:=by
     split
     ·rename_i ha
      obtain⟨q,hq,he⟩:=List.any_eq_true.1 ha
      simp only[isN,decide_eq_true_eq]at he
      have h1:=ht q hq
      rw[he,hv,Option.some.injEq]at h1
      refine⟨hn,ht,⟨[],by simp⟩,?_,λr h=>.inl h⟩
      obtain⟨a,b⟩:=q
      simp only at he h1
      subst he; subst h1; exact hq
     ·rename_i ha
      have ha': ∀q∈out,q.name≠d.name:=by simpa[isN]using ha
      refine⟨?_,?_,⟨_,rfl⟩,by simp,?_⟩
      ·rw[List.map_append,List.nodup_append]
       refine⟨hn,by simp,λa h1 b h2=>?_⟩
       obtain⟨q,hq,rfl⟩:=List.mem_map.1 h1
       simp at h2; subst h2
       exact ha' q hq
      ·intro r hr
       rcases List.mem_append.1 hr with hr|hr
       ·exact ht r hr
       ·simp at hr; subst hr; exact hv
      ·intro r hr
       rcases List.mem_append.1 hr with hr|hr
       ·exact .inl hr
       ·simp at hr; subst hr; exact .inr rfl
    obtain⟨k1,k2,⟨t,k3⟩,k4,k5⟩:=key
    obtain⟨r1,r2,⟨t',r3⟩,r4,r5⟩:=Zmq (out0:=out0) h k1 k2
    refine⟨r1,r2,⟨t++t',by rw[r3,k3,List.append_assoc]⟩,λe he=>?_,λr hr=>?_⟩
    ·rcases List.mem_cons.1 he with rfl|he
     ·exact⟨v,hv,hin,by rw[r3]; exact List.mem_append_left _ k4⟩
     ·exact r4 e he
    ·rcases r5 r hr with h1|⟨e,he,h1⟩
     ·rcases k5 r h1 with h2|h2
      ·exact .inl h2
      ·exact .inr ⟨d,.head _,h2⟩
     ·exact .inr ⟨e,.tail _ he,h1⟩
   ·cases h
theorem Zq4{α:Type}: ∀{l m:List α},l.Nodup→(∀x∈l,x∈m)→l.length≤m.length
 | [],_,_,_=>Nat.zero_le _
 |a::r,m,hn,hs=>by
  obtain⟨h1,h2⟩:=List.nodup_cons.1 hn
  obtain⟨s,t,rfl⟩:=List.append_of_mem (hs a (.head _))
  have:=Zq4 (l:=r) (m:=s++t) h2 λx hx=>by
   rcases List.mem_append.1 (hs x (.tail _ hx))with h|h
   ·exact List.mem_append_left _ h
   ·rcases List.mem_cons.1 h with rfl|h
    ·exact absurd hx h1
    ·exact List.mem_append_right _ h
  simp only[List.length_append,List.length_cons]at this ⊢; omega
theorem Z2i{out:List Pin}(hn:(out.map (·.name)).Nodup)(ht: ∀r∈out,tells env r.name=some r.v):out.length≤env.length:=by
 have:=Zq4 (m:=env.map (·.name)) hn λn h=>by
  obtain⟨r,hr,rfl⟩:=List.mem_map.1 h
  have:=Zte (ht r hr)
  exact List.mem_map_of_mem (f:=(·.name)) this
 simpa using this
theorem CtxI.zero:CtxI get over env p 0 []:=⟨by simp,by simp,by simp,by simp,λk q h=>by omega,λk q h=>by omega⟩
theorem CtxI.next{i:Nat}{out out':List Pin}{q:Pin}{x:Pack}(h:CtxI get over env p i out)(hq:(p::out)[i]? =some q)(hx:get q.name q.v=some x)(hs:Zbc env (Zbe over x.peers) out=some out'):CtxI get over env p (i+1) out':=by
 obtain⟨r1,r2,⟨t,rfl⟩,r4,r5⟩:=Zmq (out0:=[]) hs h.names h.told
 have hil:i<out.length+1:=by have:=(List.getElem?_eq_some_iff.1 hq).1; simpa using this
 have hold: ∀k q',k<i+1→(p::(out++t))[k]? =some q'→(p::out)[k]? =some q':=λk q' hk h=>by
  rw[←List.cons_append,List.getElem?_append_left (by simp; omega)]at h; exact h
 have hst:Zxy get over env q:=⟨x,hx,λd hd=>let⟨v,a,b,_⟩:=r4 d hd;⟨v,a,b⟩⟩
 have has: ∀r,Asks get over env q r→r∈out++t:=λr ⟨y,d,hy,hd,hr,hv⟩=>by
  rw[hx,Option.some.injEq]at hy
  subst hy
  obtain⟨v,a,_,b⟩:=r4 d hd
  rw[hv,Option.some.injEq]at a
  obtain⟨n,u⟩:=r
  simp only at hr a; subst hr; subst a; exact b
 have hrq:q=p∨Reach get over env p q:=by
  cases i with
  |zero=>simp at hq; exact .inl hq.symm
  |succ j=>exact .inr (h.reach q (by rw[List.getElem?_cons_succ]at hq; exact List.mem_of_getElem? hq))
 refine⟨r1,r2,λr hr=>?_,by simp; omega,λk q' hk hq'=>?_,λk q' hk hq' r ha=>?_⟩
 ·rcases r5 r hr with hr|⟨d,hd,hn⟩
  ·exact h.reach r hr
  ·have ha:Asks get over env q r:=⟨x,d,hx,hd,hn,by rw[←hn]; exact r2 r hr⟩
   rcases hrq with rfl|hrq
   ·exact .one ha
   ·exact .more hrq ha
 ·rcases Nat.lt_succ_iff_lt_or_eq.1 hk with hk'|rfl
  ·exact h.stands k q' hk' (hold k q' hk hq')
  ·have:=hold k q' hk hq'
   rw[hq,Option.some.injEq]at this
   subst this; exact hst
 ·rcases Nat.lt_succ_iff_lt_or_eq.1 hk with hk'|rfl
  ·exact List.mem_append_left _ (h.asks k q' hk' (hold k q' hk hq') r ha)
  ·have:=hold k q' hk hq'
   rw[hq,Option.some.injEq]at this
   subst this; exact has r ha
theorem CtxI.len{i:Nat}{out:List Pin}(h:CtxI get over env p i out):out.length≤env.length:=Z2i h.names h.told
theorem Zl6: ∀(f i:Nat) (out a:List Pin),CtxI get over env p i out→Zic get over env p f i out=some a→CtxI get over env p (a.length+1) a
 |0,_,_,_,_,h=>by cases h
 |f+1,i,out,a,hI,h=>by
  unfold Zic at h
  cases hq:(p::out)[i]? with
  |none=>
   rw[hq]at h
   simp only[Option.some.injEq]at h
   subst h
   have:i=out.length+1:=by
    have h1:=List.getElem?_eq_none_iff.1 hq
    have h2:=hI.le
    simp at h1; omega
   rw[←this]; exact hI
  |some q=>
   rw[hq]at h
   simp only at h
   cases hx:get q.name q.v with
   |none=>rw[hx]at h; cases h
   |some x=>
    rw[hx]at h
    simp only at h
    cases hs:Zbc env (Zbe over x.peers) out with
    |none=>rw[hs]at h; cases h
    |some out'=>
     rw[hs]at h
     exact Zl6 f (i+1) out' a (hI.next hq hx hs) h
theorem Zpl{f i:Nat}{out:List Pin}{q:Pin}(hq:(p::out)[i]? =some q)(hg:get q.name q.v=none):Zic get over env p (f+1) i out=none:=by
 rw[Zic,hq]; simp only[hg]
theorem Zpj{f i:Nat}{out:List Pin}{q:Pin}{y:Pack}(hq:(p::out)[i]? =some q)(hg:get q.name q.v=some y)(hs:Zbc env (Zbe over y.peers) out=none):Zic get over env p (f+1) i out=none:=by
 rw[Zic,hq]; simp only[hg,hs]
theorem Zpk{f i:Nat}{out out':List Pin}{q:Pin}{y:Pack}(hq:(p::out)[i]? =some q)(hg:get q.name q.v=some y)(hs:Zbc env (Zbe over y.peers) out=some out'):Zic get over env p (f+1) i out=Zic get over env p f (i+1) out':=by
 rw[Zic,hq]; simp only[hg,hs]
theorem Zru{f i:Nat}{out:List Pin}(hq:(p::out)[i]? =none):Zic get over env p (f+1) i out=some out:=by
 rw[Zic,hq]
theorem Zmp{d:Dep}{l:List Dep}{out:List Pin}(h:tells env d.name=none):Zbc env (d::l) out=none:=by
 rw[Zbc,h]
theorem Zpm{d:Dep}{l:List Dep}{out:List Pin}{v:Ver}(h:tells env d.name=some v)(hin:Z6 d.range v=false):Zbc env (d::l) out=none:=by
 rw[Zbc,h]; simp[hin]
theorem Znu{d:Dep}{l:List Dep}{out:List Pin}{v:Ver}(h:tells env d.name=some v)(hin:Z6 d.range v=true)(ho:out.any (isN d.name)=true):Zbc env (d::l) out=Zbc env l out:=by
 rw[Zbc,h]; simp[hin,ho]
theorem Znt{d:Dep}{l:List Dep}{out:List Pin}{v:Ver}(h:tells env d.name=some v)(hin:Z6 d.range v=true)(ho:out.any (isN d.name)=false):Zbc env (d::l) out=Zbc env l (out++ [⟨d.name,v⟩]):=by
 rw[Zbc,h]; simp only[hin,ho,if_true,Bool.false_eq_true,if_false]
theorem Zqq{a:List Pin}(h:ctx get over env p=some a):Rises a∧(∀r,r∈a↔Reach get over env p r)∧(∀q,(q=p∨q∈a)→Zxy get over env q)∧ ∀r∈a,tells env r.name=some r.v:=by
 unfold ctx at h
 cases hg:Zic get over env p (env.length+2) 0 []with
 |none=>rw[hg]at h; cases h
 |some b=>
  rw[hg]at h
  simp only[Option.map_some,Option.some.injEq]at h
  subst h
  have hI:=Zl6 _ _ _ _ CtxI.zero hg
  have hm: ∀r,r∈Zaw b↔r∈b:=λr=>(Zbk b).mem_iff
  have hidx: ∀q,(q=p∨q∈b)→ ∃k,k<b.length+1∧(p::b)[k]? =some q:=λq hq=>by
   rcases hq with rfl|hq
   ·exact⟨0,oM,rfl⟩
   ·obtain⟨k,hk,he⟩:=List.mem_iff_getElem.1 hq
    exact⟨k+1,oM,by rw[List.getElem?_cons_succ,List.getElem?_eq_getElem hk,he]⟩
  refine⟨Zf8 hI.names,λr=>⟨λhr=>hI.reach r ((hm r).1 hr),λhr=>(hm r).2 ?_⟩,λq hq=>?_,λr hr=>hI.told r ((hm r).1 hr)⟩
  ·have key: ∀r,Reach get over env p r→r∈b:=λr hr=>by
    induction hr with
    |one ha=>obtain⟨k,hk,he⟩:=hidx p (.inl rfl); exact hI.asks k _ hk he _ ha
    |more _ ha ih=>obtain⟨k,hk,he⟩:=hidx _ (.inr ih); exact hI.asks k _ hk he _ ha
   exact key r hr
  ·obtain⟨k,hk,he⟩:=hidx q (hq.imp id (hm q).1)
   exact hI.stands k q hk he
end
end Go.Hal
namespace Go.Hal
open Go.Proofs.Tryz
section
variable {α:Type} {c:α→α→Int}
def Zdo(c:α→α→Int)(x:α):List α→List α
 | []=>[x]
 |y::m=>if c x y<0 then x::y::m else y::Zdo c x m
theorem Zzx(h:Ord3 c)(a x:α)(m:List α):Zdo c x (Ze3 c a m)=Ze3 c a (Zdo c x m):=by
 have f1:=h.flip x a; have f2:=h.flip a x
 induction m with
 |nil=>
  simp only[Ze3,Zdo]
  by_cases h1:c x a<0
  ·rw[if_pos h1,if_neg oM]
  ·rw[if_neg h1,if_pos oM]
 |cons y r ih=>
  have f3:=h.flip x y; have f4:=h.flip a y; have f5:=h.flip y a
  by_cases h1:c a y≤0
  ·have e1:Ze3 c a (y::r)=a::y::r:=by rw[Ze3,if_pos h1]
   rw[e1]
   by_cases h2:c x a<0
   ·have h3:c x y<0:=h.lt_of h2 h1
    have e2:Zdo c x (y::r)=x::y::r:=by rw[Zdo,if_pos h3]
    rw[e2,Zdo,if_pos h2,Ze3,if_neg oM,e1]
   ·rw[Zdo,if_neg h2]
    by_cases h3:c x y<0
    ·have e2:Zdo c x (y::r)=x::y::r:=by rw[Zdo,if_pos h3]
     rw[e2,Ze3,if_pos oM]
    ·have e2:Zdo c x (y::r)=y::Zdo c x r:=by rw[Zdo,if_neg h3]
     rw[e2,Ze3,if_pos h1]
  ·have e1:Ze3 c a (y::r)=y::Ze3 c a r:=by rw[Ze3,if_neg h1]
   rw[e1]
   by_cases h3:c x y<0
   ·have e2:Zdo c x (y::r)=x::y::r:=by rw[Zdo,if_pos h3]
    have h4:c x a<0:=h.lt_of h3 oM
    rw[e2,Zdo,if_pos h3,Ze3,if_neg oM,e1]
   ·have e2:Zdo c x (y::r)=y::Zdo c x r:=by rw[Zdo,if_neg h3]
    rw[e2,Zdo,if_neg h3,ih,Ze3,if_neg h1]
theorem Zuu(h:Ord3 c)(l:List α)(x:α):Zb0 c (l++ [x])=Zdo c x (Zb0 c l):=by
 induction l with
 |nil=>rfl
 |cons a l ih=>rw[List.cons_append,Zb0,ih,Zb0,Zzx h]
theorem Zue{x:α}{A B:List α}(hA: ∀y∈A,¬c x y<0)(hB: ∀y∈B,c x y<0):Zdo c x (A++B)=A++x::B:=by
 induction A with
 |nil=>
  cases B with
  |nil=>rfl
  |cons y r=>rw[List.nil_append,Zdo,if_pos (hB y (.head _))]; rfl
 |cons a A ih=>rw[List.cons_append,Zdo,if_neg (hA a (.head _)),ih λy hy=>hA y (.tail _ hy)]; rfl
end
end Go.Hal
namespace Go.Hal
open Go.Proofs.Tryz
open Go Go.RowKit Go.Proofs
theorem r03rank_se{v:Ver}{w:World}{R:Int→World→Prop}(hR: ∀w',Ext w w'→R v.rank w'):SE.Z1 v.ma v.mi v.pa w R:=by
 unfold SE.Z1
 refine newS.intro λ_ _ _ hb _ _=> ?_
 refine⟨_,_,_,lD,?_⟩
 exact SE.Zdh.go (r02Rank_se λw' hx=>⟨_,_,rfl,hR _ xT⟩)
theorem Zz0{s:Sl}{l:List Span}{n:Int}{S:Nat→Prop}{w:World}{R:Bool→World→Prop}(hs:SlR spanE w S s l)(hR: ∀w',Ext w w'→R (l.any (Span.has n)) w'):SE.Zd8 s n w R:=by
 unfold SE.Zd8
 have hl:=hs.len
 refine loop1.up hs.max (λi w'=>Ext w w'∧(l.take i).any (Span.has n)=false) ⟨Ext.refl _,rfl⟩ λi w1 nxt hi ⟨x1,hI⟩ hn=>⟨λhlt=>?_,λhge=>?_⟩
 ·have hlt':i<l.length:=oM
  obtain⟨ad,ha,_,hc⟩:=Zlu hs hlt'
  have ht:(l.take (i+1)).any (Span.has n)=l[i].has n:=by
   rw[List.take_succ_eq_append_getElem hlt',List.any_append,hI]; simp
  refine⟨ad,⟨ha,oM,hlt⟩,_,_,_,(hc _ xT).pre rfl,SE.Z1.go (r03rank_se λw2 x2=>⟨_,rfl,bound ⟨ad,λ_=>⟨ha,oM,hlt⟩,l[i].hi.ma,l[i].hi.mi,l[i].hi.pa,λ_=>(hc _ xT).mid rfl,?_⟩⟩)⟩
  refine gCall.intro l[i].hi.rank (λ_ q hq=>SE.Z1.go (r03rank_se λw' hx=>⟨_,rfl,hq _ hx⟩)) λt w3 x3 htv=>?_
  have e:(decide (l[i].lo.rank≤n)&&decide (n≤t))=l[i].has n:=by
   unfold Span.has
   cases h:decide (l[i].lo.rank≤n)
   ·rfl
   ·rw[htv h]
  rw[e]
  refine⟨λh=>?_,λh=>hn hlt' _ ⟨xT,by rw[ht]; exact h⟩⟩
  have:l.any (Span.has n)=true:=List.any_eq_true.2 ⟨l[i],List.getElem_mem _,h⟩
  rw[←this]; exact hR _ xT
 ·have:i=l.length:=oM
  rw[this,List.take_length]at hI
  rw[←hI]; exact hR _ xT
def Zmw(x:Span):Bool:=x.lo.may&&x.hi.may&&decide (x.lo.rank≤x.hi.rank)
def Zfp:Int→List Span→Int
 |m,[]=>m
 |_,y::r=>Zfp (y.hi.rank+2) r
theorem Zs6(l:List Span): ∀(m:Int) (x:Span),Zcf m (l++ [x])=(Zcf m l&&(Zmw x&&decide (Zfp m l≤x.lo.rank))):=by
 induction l with
 |nil=>intro m x; simp only[List.nil_append,Zcf,Zmw,Zfp]; cases x.lo.may<;>cases x.hi.may<;>by_cases h1:m≤x.lo.rank<;>by_cases h2:x.lo.rank≤x.hi.rank<;>simp[h1,h2]
 |cons y r ih=>
  intro m x
  rw[List.cons_append,Zcf,Zcf,ih]
  exact(Bool.and_assoc ..).symm
theorem Zmz(l:List Span): ∀(m:Int) (x:Span),Zfp m (l++ [x])=x.hi.rank+2:=by
 induction l with
 |nil=>intro m x; rfl
 |cons y r ih=>intro m x; exact ih _ x
theorem Zus{l k:List Span}{m:Int}(h:Zcf m (l++k)=true):Zcf m l=true:=by
 induction l generalizing m with
 |nil=>rfl
 |cons y r ih=>
  rw[List.cons_append,Zcf]at h
  rw[Zcf]
  simp only[Bool.and_eq_true]at h ⊢
  exact⟨h.1,ih h.2⟩
theorem Zif{l:List Span}{i:Nat}(h:Zcf 0 (l.take i)=false):Z3 l=false:=by
 unfold Z3
 cases hg:Zcf 0 l
 ·simp
 ·rw[←List.take_append_drop i l]at hg
  rw[Zus hg]at h; cases h
theorem Zp9{l:List Span}{n:Nat}(hn:n<l.length)(hI:Zcf 0 (l.take n)=true):Zcf 0 (l.take (n+1))=(Zmw l[n]&&decide (Zfp 0 (l.take n)≤l[n].lo.rank)):=by
 rw[List.take_succ_eq_append_getElem hn,Zs6,hI,Bool.true_and]
theorem Zoq{l:List Span}(h1:l.length≤64)(h2:Zcf 0 l=true):Z3 l=true:=by simp[Z3,h1,h2]
theorem spanMay_se{s:Sl}{l:List Span}{S:Nat→Prop}{w:World}{R:Bool→World→Prop}(hs:SlR spanE w S s l)(hR: ∀w',Ext w w'→R (Z3 l) w'):SE.Zh8 s w R:=by
 unfold SE.Zh8
 have hl:=hs.len
 refine⟨λh=>?_,λh=>?_⟩
 ·have:Z3 l=false:=by unfold Z3; rw[decide_eq_false oM]; rfl
  rw[←this]; exact hR _ xR
 have h64:l.length≤64:=oM
 refine loop2.up hs.max (λm i w'=>Ext w w'∧m=Zfp 0 (l.take i)∧Zcf 0 (l.take i)=true) ⟨Ext.refl _,rfl,rfl⟩ λm i w1 nxt hi ⟨x1,hm,hI⟩ hn=>⟨λhlt=>?_,λhge=>?_⟩
 ·have hlt':i<l.length:=oM
  obtain⟨ad,ha,_,hc⟩:=Zlu hs hlt'
  have hst:=Zp9 hlt' hI
  refine⟨ad,⟨ha,oM,hlt⟩,_,_,_,_,_,_,hc _ xT,newS.intro λa w2 x2 hb hba _=>stw0.intro hb sI λw3 b3 _ hb3=>?_⟩
  have x3:Ext w1 w3:=b3.ext x2 oM
  refine⟨_,_,_,hb3.at0 xR rfl,SE.Zgn.go (Zjd (v:=l[i].lo) λw4 x4=>⟨_,_,rfl,?_⟩)⟩
  refine⟨_,_,_,hb3.at1 xT rfl,SE.Zgn.go (Zjd (v:=l[i].hi) λw5 x5=>⟨_,_,rfl,bound (bound (bound ?_))⟩)⟩
  have e:((((!l[i].lo.may)||(!l[i].hi.may))||decide (l[i].lo.rank<m))||decide (l[i].hi.rank<l[i].lo.rank))= !Zcf 0 (l.take (i+1)):=by
   rw[hst,hm,Zmw]
   have e1:decide (l[i].lo.rank<Zfp 0 (l.take i))= !decide (Zfp 0 (l.take i)≤l[i].lo.rank):=by rw[←decide_not,decide_eq_decide]; omega
   have e2:decide (l[i].hi.rank<l[i].lo.rank)= !decide (l[i].lo.rank≤l[i].hi.rank):=by rw[←decide_not,decide_eq_decide]; omega
   rw[e1,e2]
   cases l[i].lo.may<;>cases l[i].hi.may<;>cases decide (Zfp 0 (l.take i)≤l[i].lo.rank)<;>cases decide (l[i].lo.rank≤l[i].hi.rank)<;>rfl
  rw[e]
  have hr:=Ver.rank_le (v:=l[i].hi)
  rw[Zc (x:=l[i].hi.rank+2) oM oM]
  refine⟨λh=>?_,λh=>hn hlt' _ _ ⟨xT,?_,by simpa using h⟩⟩
  ·rw[←Zif (i:=i+1) (by simpa using h)]; exact hR _ xT
  ·rw[List.take_succ_eq_append_getElem hlt',Zmz]
 ·have:i=l.length:=oM
  rw[this,List.take_length]at hI
  rw[←Zoq h64 hI]; exact hR _ xT
theorem Zur{l:List Span}{n:Nat}(hn:n+1<l.length):Zfp 0 (l.take (n+1))=l[n].hi.rank+2:=by
 rw[List.take_succ_eq_append_getElem oM,Zmz]
theorem r03May_se{s:Sl}{l:List Span}{S:Nat→Prop}{w:World}{R:Bool→World→Prop}(hs:SlR spanE w S s l)(hR: ∀w',Ext w w'→R (Z3 l) w'):SE.Zcd s w R:=by
 unfold SE.Zcd
 have hl:=hs.len
 refine⟨λh=>?_,λh=>?_⟩
 ·have:Z3 l=false:=by unfold Z3; rw[decide_eq_false oM]; rfl
  rw[←this]; exact hR _ xR
 have h64:l.length≤64:=oM
 refine loop1.up hs.max (λi w'=>Ext w w'∧Zcf 0 (l.take i)=true) ⟨Ext.refl _,rfl⟩ λi w1 nxt hi ⟨x1,hI⟩ hn=>⟨λhlt=>bnd.drew λw2 x2=>?_,λhge=>?_⟩
 ·have hlt':i<l.length:=oM
  obtain⟨ad,ha,_,hc⟩:=Zlu hs hlt'
  have hst:=Zp9 hlt' hI
  have had:s.a=some ad∧(0:Int)≤(i:Int)∧(i:Int)<(s.len:Int):=⟨ha,oM,hlt⟩
  refine⟨ad,had,_,_,_,(hc _ xT).pre rfl,SE.Zbb.go (r02May_se λw3 x3=>⟨_,rfl,bound ?_⟩)⟩
  refine⟨ad,λ_=>had,_,_,_,λ_=>(hc _ xT).mid rfl,gCall.intro l[i].hi.may (λ_ q hq=>SE.Zbb.go (r02May_se λw' hx=>⟨_,rfl,hq _ hx⟩)) λt w4 x4 ht=>bound ?_⟩
  refine⟨ad,λ_=>had,_,_,_,λ_=>(hc _ xT).pre rfl,ad,λ_=>had,_,_,_,λ_=>(hc _ xT).mid rfl,?_⟩
  refine gCall.intro l[i].lo.rank (λ_ q hq=>callX.intro (SE.Z1.go (r03rank_se λw' hx=>⟨hx,_,rfl,hq _ hx⟩))) λt2 w5 x5 ht2=>?_
  refine gCall.intro l[i].hi.rank (λ_ q hq=>SE.Z1.go (r03rank_se λw' hx=>⟨_,rfl,hq _ hx⟩)) λt3 w6 x6 ht3=>?_
  have e:(((!l[i].lo.may)||(!t))||decide (t3<t2))= !Zmw l[i]:=by
   unfold Zmw
   cases h1:l[i].lo.may
   ·rfl
   ·rw[h1]at ht ht2 ht3
    rw[ht rfl]
    rw[ht rfl]at ht2 ht3
    cases h2:l[i].hi.may
    ·rfl
    ·rw[h2]at ht2 ht3
     rw[ht2 rfl,ht3 rfl]
     have e2:decide (l[i].hi.rank<l[i].lo.rank)= !decide (l[i].lo.rank≤l[i].hi.rank):=by rw[←decide_not,decide_eq_decide]; omega
     rw[e2]; cases decide (l[i].lo.rank≤l[i].hi.rank)<;>rfl
  rw[e]
  refine⟨λh=>?_,λh=>bnd.drew λw7 x7=>bound ?_⟩
  ·have:Zcf 0 (l.take (i+1))=false:=by
    rw[hst]
    have:Zmw l[i]=false:=by simpa using h
    rw[this]; rfl
   rw[←Zif this]; exact hR _ xT
  have hok:Zmw l[i]=true:=by simpa using h
  rw[hok,Bool.true_and]at hst
  have hprev:(0:Int)<i→ ∃h:i - 1<l.length,Za ((i:Int) - 1)=((i - 1:Nat):Int):=λh0=>⟨oM,by rw[Zc oM (by have:=hs.max; rw[Zb]at this; omega)]; omega⟩
  have hlast: ∀h0:0<i,Zfp 0 (l.take i)=(l[i - 1]'oM).hi.rank+2:=λh0=>by
   have:=Zur (l:=l) (n:=i - 1) oM
   rw[←this]; congr 2; omega
  have hd: ∃(ad31:Addr) (u1 u2 u3:Int),(decide ((0:Int)<(i:Int))=true→(s.a=some ad31∧(0:Int)≤Za ((i:Int) - 1)∧Za ((i:Int) - 1)<(s.len:Int))∧ldc w7 ((ad31.add ((Za ((i:Int) - 1)).toNat*6)).add 3) [.int .i64 u1,.int .i64 u2,.int .i64 u3]∧(⟨u1,u2,u3⟩:Ver).rank=Zfp 0 (l.take i) - 2):=by
   by_cases h0:0<i
   ·obtain⟨hp,ew⟩:=hprev oM
    obtain⟨ad',ha',_,hc'⟩:=Zlu hs hp
    refine⟨ad',_,_,_,λ_=>⟨by rw[ew]; exact⟨ha',oM,oM⟩,by rw[ew]; exact(hc' _ xT).mid rfl,?_⟩⟩
    rw[hlast h0]; show(l[i - 1]'hp).hi.rank=_; omega
   ·exact⟨ad,0,0,0,λh=>by simp at h; omega⟩
  obtain⟨ad31,u1,u2,u3,hu⟩:=hd
  refine⟨ad,λ_=>had,_,_,_,λ_=>(hc _ xT).pre rfl,ad31,λhb=>(hu hb).1,u1,u2,u3,λhb=>(hu hb).2.1,?_⟩
  refine gCall.intro l[i].lo.rank (λ_ q hq=>callX.intro (SE.Z1.go (r03rank_se λw' hx=>⟨hx,_,rfl,hq _ hx⟩))) λt4 w8 x8 ht4=>?_
  refine gCall.intro (Zfp 0 (l.take i) - 2) (λhb q hq=>SE.Z1.go (r03rank_se (v:=⟨u1,u2,u3⟩) λw' hx=>⟨_,rfl,by rw[(hu hb).2.2]; exact hq _ hx⟩)) λt5 w9 x9 ht5=>?_
  have e2:(decide ((0:Int)<(i:Int))&&decide (t4≤Za (t5+1)))= !Zcf 0 (l.take (i+1)):=by
   rw[hst]
   by_cases h0:0<i
   ·have hb:decide ((0:Int)<(i:Int))=true:=by simpa using h0
    rw[ht4 hb,ht5 hb,hb,Bool.true_and]
    have h1:=hlast h0
    have h2:=Ver.rank_le (v:=l[i - 1].hi)
    rw[Zc oM oM,←decide_not,decide_eq_decide]; omega
   ·have hb:decide ((0:Int)<(i:Int))=false:=by simp; omega
    have hi0:i=0:=oM
    subst hi0
    have:=Ver.rank_le (v:=l[0].lo)
    rw[hb,Bool.false_and,List.take_zero,Zfp,decide_eq_true oM]; rfl
  rw[e2]
  refine⟨λh=>?_,λh=>hn hlt' _ ⟨xT,by simpa using h⟩⟩
  rw[←Zif (i:=i+1) (by simpa using h)]; exact hR _ xT
 ·have:i=l.length:=oM
  rw[this,List.take_length]at hI
  rw[←Zoq h64 hI]; exact hR _ xT
theorem Zra{s:Sl}{l:List Span}{v:Ver}{S:Nat→Prop}{w:World}{R:Bool→World→Prop}(hs:SlR spanE w S s l)(hR: ∀w',Ext w w'→R (Z6 l v) w'):SE.Zcq s v.ma v.mi v.pa w R:=by
 unfold SE.Zcq
 refine newS.intro λa w1 x1 hb _ _=>SE.Zcd.go (r03May_se (hs.ext x1) λw2 x2=>⟨_,rfl,v.ma,v.mi,v.pa,λ_=>hb.at0 xT rfl,?_⟩)
 refine gCall.intro v.may (λ_ q hq=>SE.Zbb.go (r02May_se λw' hx=>⟨_,rfl,hq _ hx⟩)) λt w3 x3 ht=>bound ⟨v.ma,v.mi,v.pa,λ_=>hb.at0 xT rfl,?_⟩
 refine gCall.intro v.rank (λ_ q hq=>SE.Z1.go (r03rank_se λw' hx=>⟨_,rfl,hq _ hx⟩)) λt2 w4 x4 ht2=>?_
 refine gCall.intro (l.any (Span.has t2)) (λ_ q hq=>SE.Zd8.go (Zz0 (hs.ext xT) λw' hx=>⟨_,rfl,hq _ hx⟩)) λt3 w5 x5 ht3=>?_
 have e:((Z3 l&&t)&&t3)=Z6 l v:=by
  unfold Z6
  cases h:Z3 l
  ·rfl
  ·rw[h]at ht ht2 ht3
   rw[ht rfl]at ht2 ht3 ⊢
   cases h':v.may
   ·rfl
   ·rw[h']at ht2 ht3
    rw[ht3 rfl,ht2 rfl]; rfl
 rw[e]; exact hR _ xT
end Go.Hal
namespace Go.Hal
open Go.Proofs.Tryz
open Go Go.RowKit Go.Proofs Go.Shelf
def idxI{α:Type}(p:α→Bool)(l:List α):Int:=match l.findIdx? p with|some i=>i|none=>-1
theorem Zlf{α:Type}{p:α→Bool}{l:List α}{n:Nat}(hn:n<l.length)(h0:(l.take n).any p=false)(h:p l[n]=true):idxI p l=n:=by
 unfold idxI
 have:l.findIdx? p=some n:=by
  rw[List.findIdx?_eq_some_iff_getElem]
  refine⟨hn,h,λj hj=>?_⟩
  have hm:l[j]∈l.take n:=by
   rw[List.mem_take_iff_getElem]
   exact⟨j,oM,rfl⟩
  have:=List.any_eq_false.1 h0 _ hm
  simpa using this
 rw[this]
theorem Zim{α:Type}{p:α→Bool}{l:List α}(h0:l.any p=false):idxI p l= -1:=by
 unfold idxI
 have:l.findIdx? p=none:=by
  rw[List.findIdx?_eq_none_iff]
  intro x hx
  have:=List.any_eq_false.1 h0 x hx
  simpa using this
 rw[this]
theorem Zle{α:Type}{p:α→Bool}{l:List α}:decide (0≤idxI p l)=l.any p:=by
 cases h:l.any p
 ·rw[Zim h]; rfl
 ·obtain⟨x,hx,hp⟩:=List.any_eq_true.1 h
  unfold idxI
  cases hf:l.findIdx? p with
  |none=>rw[List.findIdx?_eq_none_iff]at hf; rw[hf x hx]at hp; cases hp
  |some i=>simp
theorem Zfq{α:Type}{p:α→Bool}{l:List α}{n:Nat}(hn:n<l.length)(h0:(l.take n).any p=false):(l.take (n+1)).any p=p l[n]:=by
 rw[List.take_succ_eq_append_getElem hn,List.any_append,h0]; simp
def Ztk{α:Type}(f:Value)(enc:α→Value)(p:α→Bool)(l:List α)(w:World):Prop:=
 ∀x∈l,∀w' (k:Value→World→Prop),Ext w w'→(∀w'',Ext w' w''→k (.bool (p x)) w'')→callV prog f [enc x] w' k
theorem idxSpan_se{s:Sl}{l:List Span}{f:Value}{p:Span→Bool}{S:Nat→Prop}{w:World}{R:Int→World→Prop}(hs:SlR spanE w S s l)(hf:Ztk f (λx=>.agg #[.int .i64 x.lo.ma,.int .i64 x.lo.mi,.int .i64 x.lo.pa,.int .i64 x.hi.ma,.int .i64 x.hi.mi,.int .i64 x.hi.pa]) p l w)
  (hR: ∀w',Ext w w'→R (idxI p l) w'):SE.Zah s f w R:=by
 unfold SE.Zah
 have hl:=hs.len
 refine loop1.up hs.max (λi w'=>Ext w w'∧(l.take i).any p=false) ⟨Ext.refl _,rfl⟩ λi w1 nxt hi ⟨x1,hI⟩ hn=>⟨λhlt=>?_,λhge=>?_⟩
 ·have hlt':i<l.length:=oM
  obtain⟨ad,ha,_,hc⟩:=Zlu hs hlt'
  refine⟨ad,⟨ha,oM,hlt⟩,_,_,_,_,_,_,hc _ xT,hf _ (List.getElem_mem hlt') _ _ x1 λw2 x2=>⟨_,rfl,λh=>?_,λh=>?_⟩⟩
  ·rw[←Zlf hlt' hI h]; exact hR _ xT
  ·exact hn hlt' _ ⟨xT,by rw[Zfq hlt' hI]; exact h⟩
 ·have:i=l.length:=oM
  rw[this,List.take_length]at hI
  rw[←Zim hI]; exact hR _ xT
theorem Zwh{s:Sl}{l:List Span}{f:Value}{p:Span→Bool}{S:Nat→Prop}{w:World}{R:Bool→World→Prop}(hs:SlR spanE w S s l)(hf:Ztk f (λx=>.agg #[.int .i64 x.lo.ma,.int .i64 x.lo.mi,.int .i64 x.lo.pa,.int .i64 x.hi.ma,.int .i64 x.hi.mi,.int .i64 x.hi.pa]) p l w)
  (hR: ∀w',Ext w w'→R (l.any p) w'):SE.Z7 s f w R:=by
 unfold SE.Z7
 exact SE.Zah.go (idxSpan_se hs hf λw' hx=>⟨_,rfl,by rw[Zle]; exact hR _ hx⟩)
theorem Zrr{s:Sl}{x y z:Int}{S:Nat→Prop}{w:World}{R:Int→World→Prop}(hs:SlR intE w S s [x,y,z])(hR:R (or2 x (or2 y z)) w):SE.Zfz s w R:=
 Z1k hs (by
  have: [x,y,z].foldr or2 0=or2 x (or2 y z):=by
   show or2 x (or2 y (or2 z 0))=_
   have:or2 z 0=z:=by unfold or2; split<;>simp_all
   rw[this]
  rw[this]; exact hR)
theorem Zva{w:World}{a:Addr}{l:List Int}(h:BoxAt w a (l.map (Value.int .i64)))(hl:l.length≤1000):SlR intE w (λb=>b=a.block) ⟨some a,l.length,l.length⟩ l:=
 ⟨rfl,Nat.le_refl _,by show l.length≤maxLen; rw[Zb]; omega,by show l.length*8≤room; unfold room; omega,.inr ⟨a,rfl,rfl,λi x hx=>⟨_,⟨rfl,trivial⟩,by
  have:=h.ldc.sub i 1
  show ldc w (a.add (i*1)) [Value.int .i64 x]
  rw[Nat.mul_one]
  refine this.of rfl ?_
  obtain⟨hi,he⟩:=List.getElem?_eq_some_iff.1 hx
  rw[←List.map_drop,List.drop_eq_getElem_cons hi,he]; rfl⟩⟩⟩
theorem versCompare_se{a b:Ver}{w:World}{R:Int→World→Prop}(hR: ∀w',Ext w w'→R (a.cmp b) w'):SE.Zc8 a.ma a.mi a.pa b.ma b.mi b.pa w R:=by
 unfold SE.Zc8
 refine newS.intro λ_ _ _ hb _ _=>newS.intro λ_ _ _ hb2 _ _=>bnd.drew λw3 x3=>?_
 refine⟨_,lD,?_⟩
 refine⟨_,lD,?_⟩
 refine⟨_,lD,?_⟩
 refine⟨_,lD,?_⟩
 refine⟨_,lD,?_⟩
 refine⟨_,lD,?_⟩
 refine callX.intro (SE.Zbl.go (cmpInt_se ⟨Ext.refl _,_,rfl,callX.intro (SE.Zbl.go (cmpInt_se ⟨Ext.refl _,_,rfl,SE.Zbl.go (cmpInt_se ⟨_,rfl,?_⟩)⟩))⟩))
 refine newS.intro λa16 w4 x4 hb4 _ _=>SE.Zfz.go (Zrr (Zva (l:=[_,_,_]) hb4 sI) ⟨_,rfl,?_⟩)
 exact hR _ xT
theorem Zxo{x:Span}{v:Ver}{c0:Addr}{w:World}{R:Bool→World→Prop}(hc:ldc w c0 v.c)(hR: ∀w',Ext w w'→R (decide (x.lo.cmp v≤0)&&decide (v.cmp x.hi≤0)) w'):SE.Zj2 x.lo.ma x.lo.mi x.lo.pa x.hi.ma x.hi.mi x.hi.pa c0 w R:=by
 unfold SE.Zj2
 refine newS.intro λ_ w1 x1 hb _ _=> ?_
 refine⟨_,_,_,lD,?_⟩
 refine⟨v.ma,v.mi,v.pa,hc.ext x1,SE.Zc8.go (versCompare_se (a:=x.lo) (b:=v) λw2 x2=>⟨_,rfl,bound ⟨v.ma,v.mi,v.pa,λ_=>hc.ext xT,x.hi.ma,x.hi.mi,x.hi.pa,λ_=>hb.at1 xT rfl,?_⟩⟩)⟩
 refine gCall.intro (v.cmp x.hi) (λ_ q hq=>SE.Zc8.go (versCompare_se λw' hx=>⟨_,rfl,hq _ hx⟩)) λt w3 x3 ht=>?_
 have e:(decide (x.lo.cmp v≤0)&&decide (t≤0))=(decide (x.lo.cmp v≤0)&&decide (v.cmp x.hi≤0)):=by
  cases h:decide (x.lo.cmp v≤0)
  ·rfl
  ·rw[ht h]
 rw[e]; exact hR _ xT
theorem Zyq:Zfv prog 162:=enters_of func162 kR rfl
theorem Zoo{s:Sl}{l:List Span}{v:Ver}{S:Nat→Prop}{w:World}{R:Bool→World→Prop}(hs:SlR spanE w S s l)(hR: ∀w',Ext w w'→R (Z6 l v) w'):SE.Zk0 s v.ma v.mi v.pa w R:=by
 unfold SE.Zk0
 refine newS.intro λa w1 x1 hb _ _=>SE.Zh8.go (spanMay_se (hs.ext x1) λw2 x2=>⟨_,rfl,v.ma,v.mi,v.pa,λ_=>hb.at0 xT rfl,?_⟩)
 refine gCall.intro v.may (λ_ q hq=>SE.Zia.go (Zkj (v:=v) λw' hx=>⟨_,rfl,hq _ hx⟩)) λt w3 x3 ht=>bound ?_
 have hf:Ztk (.func (.func 162) #[] #[.pointer (some a)]) (λx:Span=>.agg #[.int .i64 x.lo.ma,.int .i64 x.lo.mi,.int .i64 x.lo.pa,.int .i64 x.hi.ma,.int .i64 x.hi.mi,.int .i64 x.hi.pa]) (λx=>decide (x.lo.cmp v≤0)&&decide (v.cmp x.hi≤0)) l w3:=by
  intro x _ w' k hx hk
  refine⟨_,_,rfl,Zyq,?_⟩
  exact SE.Zj2.go (Zxo (v:=v) (hb.at0 xT rfl) hk)
 refine gCall.intro (l.any _) (λ_ q hq=>SE.Z7.go (Zwh (hs.ext xT) hf λw' hx=>⟨_,rfl,hq _ hx⟩)) λt2 w4 x4 ht2=>?_
 have e:((Z3 l&&t)&&t2)=Z6 l v:=by
  unfold Z6
  cases h:Z3 l
  ·rfl
  ·rw[h]at ht ht2
   rw[ht rfl]at ht2 ⊢
   cases h':v.may
   ·rfl
   ·rw[h']at ht2
    rw[ht2 rfl]
    show l.any _=l.any _
    have hm: ∀x∈l,x.lo.may=true∧x.hi.may=true:=by
     have: ∀(l:List Span) m,Zcf m l=true→ ∀x∈l,x.lo.may=true∧x.hi.may=true:=by
      intro l
      induction l with
      |nil=>intro m _ x hx; cases hx
      |cons y r ih=>
       intro m h x hx
       rw[Zcf]at h
       simp only[Bool.and_eq_true]at h
       rcases List.mem_cons.1 hx with rfl|hx
       ·exact⟨h.1.1.1.1,h.1.1.1.2⟩
       ·exact ih _ h.2 x hx
     unfold Z3 at h
     simp only[Bool.and_eq_true]at h
     exact this l 0 h.2
    rw[Bool.eq_iff_iff,List.any_eq_true,List.any_eq_true]
    constructor
    ·rintro⟨x,hx,hp⟩
     refine⟨x,hx,?_⟩
     simp only[Bool.and_eq_true,decide_eq_true_eq,Span.has]at hp ⊢
     rwa [Ver.cmp_rank (hm x hx).1 h',Ver.cmp_rank h' (hm x hx).2]at hp
    ·rintro⟨x,hx,hp⟩
     refine⟨x,hx,?_⟩
     simp only[Bool.and_eq_true,decide_eq_true_eq,Span.has]at hp ⊢
     rwa [Ver.cmp_rank (hm x hx).1 h',Ver.cmp_rank h' (hm x hx).2]
 rw[e]; exact hR _ xT
end Go.Hal
