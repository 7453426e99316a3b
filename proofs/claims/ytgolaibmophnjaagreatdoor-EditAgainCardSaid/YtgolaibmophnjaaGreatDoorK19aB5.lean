/- Lemmas for the claim K19a: how the program's functions run, and what they answer; no condition but those that each theorem names. -/
import Derived.Lib.AtoiAll
import Derived.Shelf.SlSortCmp.NoneTotal
import Derived.Ground.SlsfProg
import Derived.Test.YtgolaibmophnjaaGreatDoorProg
import Derived.Laws.MakeOwn
import Derived.Test.YtgolaibmophnjaaGreatDoorK19aB4
set_option linter.unusedVariables false
set_option linter.unusedSimpArgs false
set_option linter.defProp false
set_option maxHeartbeats 16000000
open Go.Hal.SE hiding Cs Dr Lb vB
open Go Go.RowKit Go.Proofs Go.Shelf Go.Hal Go.Proofs.Tryz
variable {p:Ap} {n s uv:PU} {d:Dr} {l:Ι} {ds:Ν} {es:LQ} {g:List Hal.BY} {ps:Κ} {cs xs:LV} {m:vu} {a b base bytes i ss lo lo' u:Nat} {S:Nat->Prop} {r:Option (Λ)} {ol:Wd} {Α Γ:Ľ} {o:Sl} {R:Sl->Wp} {t:LN} {f z:HT} {A W w w':Qd} {K:Wp}
namespace Go.Hal
attribute [local go_sem] Oper.semAt_some
def Xg(a:Nat):HT:=.func (.func 351) #[] #[.pointer (some ⟨a+1,0,none⟩),.pointer (some ⟨a,0,none⟩),.pointer (some ⟨a+2,0,none⟩)]
def G4(w:Qd)(s uv:PU):Qd:=((w.alloc (.cells #[.string s] 9)).alloc (.cells #[.string uv] 9)).alloc (.cells #[vi 0] 3)
def Zlq(n:Nat)(hn:1<=n)(s uv:PU)(w:Qd):CallsIn Fence.wide n prog 314 #[.string s,.string uv,vi 0] w λe w'=>e= .returned (Xg w.heap.size)/\w'=G4 w s uv:=by
 refine callsIn_of_wp func314 rfl trivial ?_ rfl;simp only[Tryz.ntmps314,jm,gb,ip,Nat.reduceAdd,Nat.reduceSub,mc,mb,my,mg,iz,io]
 gi_wp2
 go_ret
 exact⟨rfl,rfl⟩
def Xd(n:Nat)(hn:2<=n)(s uv:PU)(w:Qd):CallsIn Fence.wide n prog 262 #[.string s,.string uv] w λe w'=>e= .returned (Xg w.heap.size)/\w'=G4 w s uv:=by
 have h1:1<=n - 1:=oM;refine callsIn_of_wp func262 rfl trivial ?_ rfl;simp only[Tryz.ntmps262,jm,gb,ip,Nat.reduceAdd,Nat.reduceSub,mc,mb,my,mg,iz,io]
 gi_wp2
 refine⟨trivial,λh=>(by cases h),(Zlq (n - 1) h1 s uv w).O ?_⟩;rintro e w' ⟨rfl,rfl⟩
 gi_wp2
 go_ret
 exact⟨rfl,rfl⟩
structure Ź(ps:List PU)(k:Nat)(x:Rk)(b:Bool):Prop where
 ok:∀t∈ps.take k,t.size≠0->∃a,wj t.data.toList a
 some:b=true↔∃t∈ps.take k,t.size≠0
 lo:0<=x.1/\x.1<=1000000000
 hi: -1<=x.2/\x.2<=999999999
 has:∀n:Int,(x.1<=n/\n<=x.2)↔(0<=n/\n<=999999999/\∀t∈ps.take k,t.size≠0->∀a,wj t.data.toList a->a.1<=n/\n<=a.2)
def Ź.start(ps:List PU):Ź ps 0 (0,999999999) false:=⟨by simp,by simp,by simp,by simp,λn=>by simp⟩
def Fj{α:Type}{ps:List α}{k:Nat}(h:k<ps.length){t:α}:t∈ps.take (k+1)↔t∈ps.take k\/t=ps[k]:=by rw[dz h,fj,eu]
def Ź.skip{ps:List PU}{k:Nat}{x:Rk}{b:Bool}(h:Ź ps k x b)(hk:k<ps.length)(h0:ps[k].size=0):Ź ps (k+1) x b:=by
 have e:∀t,(t∈ps.take (k+1)/\t.size≠0)↔(t∈ps.take k/\t.size≠0):=λt=>by
  rw[Fj hk];constructor
  .rintro⟨h1|rfl,h2⟩
   .exact⟨h1,h2⟩
   .exact fu h0 h2
  .exact λ⟨h1,h2⟩=>⟨.inl h1,h2⟩
 refine⟨λt ht hn=>h.ok t ((e t).1 ⟨ht,hn⟩).1 hn,?_,h.lo,h.hi,λn=>?_⟩
 .rw[h.some];exact⟨λ⟨t,ht⟩=>⟨t,(e t).2 ht⟩,λ⟨t,ht⟩=>⟨t,(e t).1 ht⟩⟩
 .rw[h.has];exact and_congr_right λ_=>and_congr_right λ_=>⟨λg t ht hn=>g t ((e t).1 ⟨ht,hn⟩).1 hn,λg t ht hn=>g t ((e t).2 ⟨ht,hn⟩).1 hn⟩
def Ź.xo{ps:List PU}{k:Nat}{x a:Rk}{b:Bool}(h:Ź ps k x b)(hk:k<ps.length)(h0:ps[k].size≠0)(hw:wj ps[k].data.toList a):Ź ps (k+1) (max x.1 a.1,min x.2 a.2) true:=by
 obtain⟨h1,h2⟩:=hw.in;have hl:=h.lo;have hh:=h.hi;refine⟨λt ht hn=>?_,?_,?_,?_,λn=>?_⟩
 .rcases(Fj hk).1 ht with h3|rfl
  .exact h.ok t h3 hn
  .exact⟨a,hw⟩
 .simp only[true_iff];exact⟨_,(Fj hk).2 (.inr rfl),h0⟩
 .simp only;omega
 .simp only;omega
 .simp only;have e:=h.has n;have e1:(max x.1 a.1<=n/\n<=min x.2 a.2)↔(x.1<=n/\n<=x.2)/\(a.1<=n/\n<=a.2):=oM;rw[e1,e];constructor
  .rintro⟨⟨g1,g2,g3⟩,g4⟩;refine⟨g1,g2,λt ht hn c hc=>?_⟩;rcases(Fj hk).1 ht with h3|rfl
   .exact g3 t h3 hn c hc
   .rwa [<-hw.one hc]
  .rintro⟨g1,g2,g3⟩;exact⟨⟨g1,g2,λt ht hn c hc=>g3 t ((Fj hk).2 (.inl ht)) hn c hc⟩,g3 _ ((Fj hk).2 (.inr rfl)) h0 a hw⟩
def G9(a:PU):Prop:=(∃t∈Aw BN a,t.size≠0)/\∀t∈Aw BN a,t.size≠0->∃x,wj t.data.toList x
def J6(a:PU)(n:Int):Prop:=0<=n/\n<=999999999/\∀t∈Aw BN a,t.size≠0->∀x,wj t.data.toList x->x.1<=n/\n<=x.2
structure Ÿ(ps:List PU)(k:Nat)(l:Μ):Prop where
 ok:∀a∈ps.take k,G9 a
 len:l.length<=k
 inn:FH l
 le:∀x∈l,x.1<=x.2
 has:∀n,Bf n l=true↔∃a∈ps.take k,J6 a n
def Ÿ.start(ps:List PU):Ÿ ps 0 []:=⟨by simp,ga _,λx hx=>(by cases hx),λx hx=>(by cases hx),λn=>by simp[Bf]⟩
def Zd0{n:Int}{l:Μ}{x:Rk}:Bf n (l++[x])=true↔Bf n l=true\/(x.1<=n/\n<=x.2):=by simp[Bf,List.any_append]
def Ÿ.step{ps:List PU}{k:Nat}{l:Μ}{x:Rk}(h:Ÿ ps k l)(hk:k<ps.length)(hw:Ź (Aw BN ps[k]) (Aw BN ps[k]).length x true):
  (x.1<=x.2->Ÿ ps (k+1) (l++[x]))/\(¬x.1<=x.2->Ÿ ps (k+1) l):=by
 have ht:(Aw BN ps[k]).take (Aw BN ps[k]).length=Aw BN ps[k]:=fe;have a6:G9 ps[k]:=by have h1:=hw.ok;have h2:=hw.some;rw[ht]at h1 h2;exact⟨h2.1 rfl,h1⟩
 have a4:∀n,(x.1<=n/\n<=x.2)↔J6 ps[k] n:=λn=>by have:=hw.has n;rw[ht]at this;exact this
 have a0:∀a∈ps.take (k+1),G9 a:=λa ha=>by
  rcases(Fj hk).1 ha with h1|rfl
  .exact h.ok a h1
  .exact a6
 have hl:=hw.lo;have hh:=hw.hi;have a5:∀n,(∃a∈ps.take (k+1),J6 a n)↔(Bf n l=true\/(x.1<=n/\n<=x.2)):=λn=>by
  rw[h.has,a4];constructor
  .rintro⟨a,ha,hn⟩;rcases(Fj hk).1 ha with h1|rfl
   .exact .inl ⟨a,h1,hn⟩
   .exact .inr hn
  .rintro(⟨a,ha,hn⟩|hn)
   .exact⟨a,(Fj hk).2 (.inl ha),hn⟩
   .exact⟨_,(Fj hk).2 (.inr rfl),hn⟩
 refine⟨λhx=>⟨a0,by have:=h.len;simp;omega,λy hy=>?_,λy hy=>?_,λn=>?_⟩,λhx=>⟨a0,by have:=h.len;omega,h.inn,h.le,λn=>?_⟩⟩
 .obtain h1|h1:=fj.1 hy
  .exact h.inn y h1
  .rw[eu]at h1;subst h1;omega
 .obtain h1|h1:=fj.1 hy
  .exact h.le y h1
  .rw[eu]at h1;subst h1;exact hx
 .rw[Zd0,a5]
 .rw[a5];constructor
  .exact .inl
  .rintro(h1|h1)
   .exact h1
   .omega
def Nh(text:PU):Prop:=text.size<=4096/\∀a∈Aw Bu text,G9 a
def Xc(uv:PU):∀(k:Nat)(s:PU),∀t∈Lib.splitB uv 0 k s,t.size<=s.size
 |0,s,t,h=>by rw[Lib.splitB_zero,eu]at h;rw[h];exact ga _
 |k+1,s,t,h=>by
  rcases Lib.indexB_cases s uv with a0|⟨i,a0,a4⟩
  .rw[Lib.splitB_miss _ _ _ _ a0,eu]at h;rw[h];exact ga _
  .rw[Lib.splitB_hit _ _ _ _ i a0]at h;obtain rfl|h:=gj.1 h
   .rw[mf];omega
   .have:=Xc uv k _ t h;rw[mf]at this;omega
def Qe{t:PU}(h:t∈Aw uv s):t.size<=s.size:=Xc uv _ s t h
def Qc(uv:PU)(h1:1<=uv.size)(s:PU):(Aw uv s).length<=s.size+1:=Lib.splitB_length_le uv 0 s.size s
def Tl(w:Qd):Prop:=∀(t:PU)(W:Qd),Ŏ t->t.size<=4096->AI w W->Calls prog 263 #[.string t] W λe w'=>AI W w'/\
 ((∃x:Rk,wj t.data.toList x/\e= .returned (.tuple #[.agg #[vi x.1,vi x.2],.bool true]))\/((∀x,¬wj t.data.toList x)/\e= .returned (.tuple #[.agg #[vi 0,vi 0],.bool false])))
def Bq:HT:=.slice none 0 0
def IA(w:Qd)(text:PU)(k:Nat)(W:Qd):Prop:=
 ∃(l:Μ) (v:HT),Ÿ (Aw Bu text) k l/\Boxed W (w.heap.size+1+1) 302 v/\W.ownsRow (w.heap.size+8) 305 2 v l.length (Cv l)/\Below w.heap.size w W/\
  Boxed W w.heap.size 132 Bq/\Boxed W (w.heap.size+1) 44 (vi 0)/\W.heap[w.heap.size+6]?=some (.deferred (some []))/\w.heap.size+7<=W.heap.size
def XA(w:Qd)(text:PU)(c:Code)(W:Qd):Prop:=
 c= .ret/\ ¬Nh text/\Below w.heap.size w W/\Boxed W w.heap.size 132 Bq/\Boxed W (w.heap.size+1) 44 (vi 21)/\W.heap[w.heap.size+6]?=some (.deferred (some []))/\w.heap.size+7<=W.heap.size
def Zhv{B:Qd}{e:LN}{size k:Nat}{v:HT}(h:A.ownsRow base e size v k xs)(ht:Tu b A B)(hb:b<base):B.ownsRow base e size v k xs:=by
 refine h.kept ht ?_;rcases h.2 with⟨rfl,_⟩|⟨g,cap,a0,rfl,hg,_⟩
 .exact .inl rfl
 .refine .inr λe'=>?_;have:g=b:=by simpa[Value.ownBlock]using e'
  omega
def JI{B:Qd}{s:Nat}(h:Below s w A)(ht:Tu b A B)(hb:s<=b)(hs:s<=w.heap.size):Below s w B:=h.grown ht (fl hs h.size) λk e=>by cases e;exact hb
def DM{B:Qd}{k:Nat}{v:HT}(h:Boxed A k t v)(ht:Tu b A B)(a0:k≠b):Boxed B k t v:=h.kept ht (by simpa using a0)
def IA.tu{text:PU}{k:Nat}{B:Qd}(hb:b=w.heap.size+1+1+1\/b=w.heap.size+7):IA w text k A->Tu b A B->IA w text k B:=by rintro⟨l,v,h1,h2,h3,h4,h5,h6,h7,h8⟩ ht;exact⟨l,v,h1,DM h2 ht oM,Zhv h3 ht oM,JI h4 ht oM nR,DM h5 ht oM,DM h6 ht oM,ht.at h7 oM,fl h8 (World.grownBy.size ht)⟩
def XA.tu{text:PU}{c:Code}{B:Qd}(hb:b=w.heap.size+1+1+1\/b=w.heap.size+7):XA w text c A->Tu b A B->XA w text c B:=by rintro⟨h1,h2,h4,h5,h6,h7,h8⟩ ht;exact⟨h1,h2,JI h4 ht oM nR,DM h5 ht oM,DM h6 ht oM,ht.at h7 oM,fl h8 (World.grownBy.size ht)⟩
structure StA(w:Qd)(text:PU)(V:Qd):Prop where
 size:V.heap.size=w.heap.size+6
 rv:Boxed V w.heap.size 132 Bq
 err:Boxed V (w.heap.size+1) 44 (vi 0)
 all:Boxed V (w.heap.size+1+1) 302 Bq
 str:Boxed V (w.heap.size+1+1+1) 9 (.string text)
 uv:Boxed V (w.heap.size+1+1+1+1) 9 (.string Bu)
 sav:Boxed V (w.heap.size+1+1+1+2) 3 (vi 0)
 vd:Below w.heap.size w V
def stA(w:Qd)(text:PU):StA w text (G4 (((w.alloc (.cells #[Bq] 132)).alloc (.cells #[vi 0] 44)).alloc (.cells #[Bq] 302)) text Bu):=by
 unfold G4;have b0:=Boxed.new w 132 Bq;have b1:=Boxed.new (w.alloc (.cells #[Bq] 132)) 44 (vi 0);have b2:=Boxed.new ((w.alloc (.cells #[Bq] 132)).alloc (.cells #[vi 0] 44)) 302 Bq;generalize hA:((w.alloc (.cells #[Bq] 132)).alloc (.cells #[vi 0] 44)).alloc (.cells #[Bq] 302)=A at*;have hs:A.heap.size=w.heap.size+1+1+1:=by rw[<-hA];simp
 have hb:Below w.heap.size w A:=by rw[<-hA];exact(((Below.refl _ w).alloc nR _).alloc sI _).alloc (by simp;omega) _
 have b3:=Boxed.new A 9 (.string text);have b4:=Boxed.new (A.alloc (.cells #[.string text] 9)) 9 (.string Bu);have b5:=Boxed.new ((A.alloc (.cells #[.string text] 9)).alloc (.cells #[.string Bu] 9)) 3 (vi 0);simp only[World.size_alloc,hs]at b1 b2 b3 b4 b5;have c0:Boxed A w.heap.size 132 Bq:=by rw[<-hA];exact(b0.alloc _).alloc _
 have c1:Boxed A (w.heap.size+1) 44 (vi 0):=by rw[<-hA];exact b1.alloc _
 exact⟨by simp[hs],((c0.alloc _).alloc _).alloc _,((c1.alloc _).alloc _).alloc _,((b2.alloc _).alloc _).alloc _,(b3.alloc _).alloc _,b4.alloc _,b5,((hb.alloc oM _).alloc (by simp;omega) _).alloc (by simp;omega) _⟩
structure StB(W:Qd)(a:PU)(V:Qd):Prop where
 size:V.heap.size=W.heap.size+5
 one:V.heap[W.heap.size]?=some (.cells #[vi 0,vi 999999999] 305 (0,0))
 some:Boxed V (W.heap.size+1) 4 (.bool false)
 str:Boxed V (W.heap.size+1+1) 9 (.string a)
 uv:Boxed V (W.heap.size+1+1+1) 9 (.string BN)
 sav:Boxed V (W.heap.size+1+1+2) 3 (vi 0)
 vd:Below W.heap.size W V
def FW{k:Nat}{o:Obj}(h:W.heap[k]?=some o)(o':Obj):(W.alloc o').heap[k]?=some o:=(Below.heap_alloc _ _ _ (fg.1 h).1).Z h
def stB(W:Qd)(a:PU):StB W a (G4 ((W.alloc (.cells #[vi 0,vi 999999999] 305)).alloc (.cells #[.bool false] 4)) a BN):=by
 unfold G4;have b0:=World.alloc_heap_new W (.cells #[vi 0,vi 999999999] 305);have b1:=Boxed.new (W.alloc (.cells #[vi 0,vi 999999999] 305)) 4 (.bool false);generalize hA:(W.alloc (.cells #[vi 0,vi 999999999] 305)).alloc (.cells #[.bool false] 4)=A at*;have hs:A.heap.size=W.heap.size+1+1:=by rw[<-hA];simp
 have hb:Below W.heap.size W A:=by rw[<-hA];exact((Below.refl _ W).alloc nR _).alloc sI _
 have b3:=Boxed.new A 9 (.string a);have b4:=Boxed.new (A.alloc (.cells #[.string a] 9)) 9 (.string BN);have b5:=Boxed.new ((A.alloc (.cells #[.string a] 9)).alloc (.cells #[.string BN] 9)) 3 (vi 0);simp only[World.size_alloc,hs]at b1 b3 b4 b5;have c0:A.heap[W.heap.size]?=some (.cells #[vi 0,vi 999999999] 305 (0,0)):=by rw[<-hA];exact FW b0 _
 exact⟨by simp[hs],FW (FW (FW c0 _) _) _,((b1.alloc _).alloc _).alloc _,(b3.alloc _).alloc _,b4.alloc _,b5,((hb.alloc oM _).alloc (by simp;omega) _).alloc (by simp;omega) _⟩
def IB(W:Qd)(a:PU)(j:Nat)(W':Qd):Prop:=
 ∃(x:Rk) (b:Bool),Ź (Aw BN a) j x b/\W'.heap[W.heap.size]?=some (.cells #[vi x.1,vi x.2] 305 (0,0))/\Boxed W' (W.heap.size+1) 4 (.bool b)/\Below W.heap.size W W'/\W.heap.size+5<=W'.heap.size
structure Ŷ(s:Nat)(W W':Qd):Prop where
 os:W'.os=W.os
 tape:W'.tape=W.tape
 output:W'.output=W.output
 size:W.heap.size<=W'.heap.size
 block:∀k,k<W.heap.size->k≠s->k≠s+1->W'.heap[k]?=W.heap[k]?
def XB(w W:Qd)(a:PU)(c:Code)(W':Qd):Prop:=
 c= .ret/\(∃t∈Aw BN a,t.size≠0/\∀x,¬wj t.data.toList x)/\Boxed W' w.heap.size 132 Bq/\Boxed W' (w.heap.size+1) 44 (vi 21)/\Ŷ w.heap.size W W'
def IB.tu{a:PU}{k:Nat}{B:Qd}(hb:b=W.heap.size+1+1\/b=W.heap.size+5):IB W a k A->Tu b A B->IB W a k B:=by rintro⟨x,y,h1,h2,h3,h4,h5⟩ ht;exact⟨x,y,h1,ht.at h2 oM,DM h3 ht oM,JI h4 ht oM nR,fl h5 (World.grownBy.size ht)⟩
def XB.tu{a:PU}{c:Code}{B:Qd}(hw:w.heap.size+7<=W.heap.size)(hb:b=W.heap.size+1+1\/b=W.heap.size+5):XB w W a c A->Tu b A B->XB w W a c B:=by
 rintro⟨h1,h2,h3,h4,h5⟩ ht;exact⟨h1,h2,DM h3 ht oM,DM h4 ht oM,⟨(World.grownBy.os ht).Z h5.os,(World.grownBy.tape ht).Z h5.tape,(World.grownBy.output ht).Z h5.output,fl h5.size (World.grownBy.size ht),λk hk h6 h7=>
  (World.grownBy.block ht k (ju hk h5.size) (by simp;omega)).Z (h5.block k hk h6 h7)⟩⟩
def Z9{B:Qd}{x y:HT}{s:LN}{b:HT}(hx:AI A B)(h:A.heap[u]?=some (.cells #[x,y] t (0,0)))(hb:Boxed A (u+1) s b):
  B.cell? ⟨u,0,none⟩=some x/\B.cell? ⟨u,1,none⟩=some y/\B.frozen? ⟨u,0,none⟩=false/\B.frozen? ⟨u,1,none⟩=false/\B.cell? ⟨u+1,0,none⟩=some b/\B.frozen? ⟨u+1,0,none⟩=false:=by
 have h2:B.heap[u]?=_:=(hx.block (fg.1 h).1).Z h;have a0:Boxed B (u+1) s b:=(hx.block hb.lt).Z hb;exact⟨by simp[World.cell?,h2],by simp[World.cell?,h2],by simp[World.frozen?,h2],by simp[World.frozen?,h2],a0.cell,a0.frozen⟩
structure Two(u:Nat)(A B:Qd):Prop where
 os:B.os=A.os
 tape:B.tape=A.tape
 output:B.output=A.output
 size:A.heap.size<=B.heap.size
 block:∀k,k<A.heap.size->k≠u->k≠u+1->B.heap[k]?=A.heap[k]?
def Two.below{s:Nat}{B:Qd}(h:Below s w A)(t:Two u A B)(hs:s<=u)(hw:s<=w.heap.size):Below s w B:=⟨t.os.Z h.os,t.tape.Z h.tape,t.output.Z h.output,fl h.size t.size,λk hk=>(t.block k (by have:=h.size;omega) oM oM).Z (h.block k hk)⟩
def Two.U{B C:Qd}(h:AI A B)(t:Two u B C)(hu:u+1<A.heap.size):Two u A C:=⟨t.os.Z h.os,t.tape.Z h.tape,t.output.Z h.output,fl h.size t.size,λk hk h1 h2=>(t.block k (by have:=h.size;omega) h1 h2).Z (h.block hk)⟩
def Zkr{x y p q r b:HT}{s:LN}(h:A.heap[u]?=some (.cells #[x,y] t (0,0)))(hb:Boxed A (u+1) s b):
  (((A.setCell ⟨u,0,none⟩ p).setCell ⟨u,1,none⟩ q).setCell ⟨u+1,0,none⟩ r).heap[u]?=some (.cells #[p,q] t (0,0))/\Boxed (((A.setCell ⟨u,0,none⟩ p).setCell ⟨u,1,none⟩ q).setCell ⟨u+1,0,none⟩ r) (u+1) s r/\Two u A (((A.setCell ⟨u,0,none⟩ p).setCell ⟨u,1,none⟩ q).setCell ⟨u+1,0,none⟩ r):=by
 obtain⟨a6,hk⟩:=fg.1 h;have o:∀(B:Qd)(a:LP)(v:HT)(k:Nat),k≠a.block->(B.setCell a v).heap[k]?=B.heap[k]? :=λB a v k hk=>Below.heap_setCell B a v k hk;have e1:(A.setCell ⟨u,0,none⟩ p).heap[u]?=some (.cells #[p,y] t (0,0)):=by show(A.heap.modify u _)[u]?=_;rw[ng (by rwa [Array.size_modify]),px,hk];rfl
 obtain⟨a0,a5⟩:=fg.1 e1;have e2:((A.setCell ⟨u,0,none⟩ p).setCell ⟨u,1,none⟩ q).heap[u]?=some (.cells #[p,q] t (0,0)):=by show((A.setCell ⟨u,0,none⟩ p).heap.modify u _)[u]?=_;rw[ng (by rwa [Array.size_modify]),px,a5];rfl
 have a4:Boxed ((A.setCell ⟨u,0,none⟩ p).setCell ⟨u,1,none⟩ q) (u+1) s b:=((o _ _ _ _ sI).Z (o _ _ _ _ sI)).Z hb;refine⟨(o _ _ _ _ sI).Z e2,a4.set r,rfl,rfl,rfl,by simp[World.setCell],λk hk h1 h2=>(o _ _ _ _ (by simpa using h2)).Z ((o _ _ _ _ (by simpa using h1)).Z (o _ _ _ _ (by simpa using h1)))⟩
def Dm{B:Qd}{n k:Nat}{v:HT}(h:Boxed A k t v)(hx:Below n A B)(hk:k<n):Boxed B k t v:=(hx.block k hk).Z h
def RI{p q x y:HT}{s:LN}(h:Boxed A u t x)(hb:Boxed A (u+1) s y):
  Boxed ((A.setCell ⟨u,0,none⟩ p).setCell ⟨u+1,0,none⟩ q) u t p/\Boxed ((A.setCell ⟨u,0,none⟩ p).setCell ⟨u+1,0,none⟩ q) (u+1) s q/\Two u A ((A.setCell ⟨u,0,none⟩ p).setCell ⟨u+1,0,none⟩ q):=by
 have o:∀(B:Qd)(a:LP)(v:HT)(k:Nat),k≠a.block->(B.setCell a v).heap[k]?=B.heap[k]? :=λB a v k hk=>Below.heap_setCell B a v k hk;have h1:=h.set p;have a0:Boxed (A.setCell ⟨u,0,none⟩ p) (u+1) s y:=(o _ _ _ _ sI).Z hb;refine⟨(o _ _ _ _ sI).Z h1,a0.set q,rfl,rfl,rfl,by simp[World.setCell],λk hk h1 h2=>(o _ _ _ _ (by simpa using h2)).Z (o _ _ _ _ (by simpa using h1))⟩
def Two.Xcs{s:Nat}{B:Qd}(h:Below W.heap.size W A)(t:Two s A B):Ŷ s W B:=⟨t.os.Z h.os,t.tape.Z h.tape,t.output.Z h.output,fl h.size t.size,λk hk h1 h2=>(t.block k (by have:=h.size;omega) h1 h2).Z (h.block k hk)⟩
def Ŷ.below{s:Nat}{B:Qd}(h:Below s w A)(t:Ŷ s A B)(hw:s<=w.heap.size):Below s w B:=⟨t.os.Z h.os,t.tape.Z h.tape,t.output.Z h.output,fl h.size t.size,λk hk=>(t.block k (by have:=h.size;omega) oM oM).Z (h.block k hk)⟩
structure Xbo(n b:Nat)(A B:Qd):Prop where
 os:B.os=A.os
 tape:B.tape=A.tape
 output:B.output=A.output
 size:A.heap.size<=B.heap.size
 block:∀k,k<n->k≠b->B.heap[k]?=A.heap[k]?
def Xbo.below{n s:Nat}{B:Qd}(h:Below s w A)(t:Xbo n b A B)(hs:s<=b)(hn:s<=n):Below s w B:=⟨t.os.Z h.os,t.tape.Z h.tape,t.output.Z h.output,fl h.size t.size,λk hk=>(t.block k oM oM).Z (h.block k hk)⟩
def Wj{B:Qd}{e:LN}{size k:Nat}{v:HT}(h:A.ownsRow base e size v k xs)(hb:Below A.heap.size A B):B.ownsRow base e size v k xs:=
 ⟨h.1,h.2.imp id λ⟨g,cap,a0,h1,h2,h3,h4⟩=>⟨g,cap,a0,h1,h2,(hb.block g (fg.1 h3).1).Z h3,h4⟩⟩
def YT{w1:Qd}{n₀ B:Nat}{e:LN}{size:Nat}{v v':HT}{k m:Nat}{ys:LV}{tmp:Obj}
  (hv:Boxed W B t v) (a7:t≠e) (a5:W.ownsRow n₀ e size v k xs) (b0:n₀<=W.heap.size)
  (a4:w1.ownsRow n₀ e size v' m ys) (a0:(W.alloc tmp).grownBy w1 v.ownBlock):
  Boxed w1 B t v/\Boxed (w1.setCell ⟨B,0,none⟩ v') B t v'/\(w1.setCell ⟨B,0,none⟩ v').ownsRow n₀ e size v' m ys/\Xbo n₀ B W (w1.setCell ⟨B,0,none⟩ v'):=by
 have a6:Boxed w1 B t v:=(hv.alloc tmp).kept a0 (hv.not_row a7 a5);refine⟨a6,a6.set v',a4.kept (grownBy_setCell' w1 B v') (.inr (a6.not_row a7 a4).H),by have:=World.grownBy.os a0;exact this,by have:=World.grownBy.tape a0;exact this,by have:=World.grownBy.output a0;exact this,?_,λj hj hb=>?_⟩
 .have:=World.grownBy.size a0;simp[World.setCell]at this ⊢;omega
 .refine(Below.heap_setCell w1 _ v' j hb).Z ((World.grownBy.block a0 j (by simp;omega) λe'=>?_).Z (Below.heap_alloc W tmp j oM));rcases a5.2 with⟨rfl,_⟩|⟨g,cap,a8,rfl,a9,_⟩
  .simp[Value.ownBlock]at e'
  .have:j=g:=(by simpa[Value.ownBlock]using e');omega
def Ze9{v:HT}{l:Μ}(h:W.ownsRow base 305 2 v l.length (Cv l))(a0:FH l)(hl:l.length<=1000000):
  Calls prog 265 #[v] W λe w'=>∃(t:Sl) (m:Μ),e= .returned t.v/\AI W w'/\m.Perm l/\Ez m/\IT ą w' (λb=>W.heap.size<=b/\b<w'.heap.size) t (Dq m):=by
 obtain⟨s,rfl,ux⟩:=rl.Xcl h;have eb:ą.bytes=16:=rfl;have hj:si prog 265 [s.v] W λv w'=>∃(t:Sl) (m:Μ),v=t.v/\AI W w'/\m.Perm l/\Ez m/\IT ą w' (λb=>W.heap.size<=b/\b<w'.heap.size) t (Dq m):=by
  refine M8.V (Ž ux a0 hl λt w' m hx hp hr ow=>⟨t,m,rfl,hx,hp,hr,?_⟩);have a4:(Dq m).length<=1000000:=by
   have hm:m.length<=1000000:=(by rwa [hp.length_eq]);cases m with
   |nil=>simp[Dq]
   |cons y r=>have:=Zez r y;simp only[gb]at hm;show(D7 y r).length<=1000000;omega
  refine(ow.I (by rw[eb];unfold Ab;omega) (by rw[Al];omega)).O λb hb=>?_;rcases hb with h|⟨ad,ha,rfl⟩
  .exact h.F
  .have:=ow.block ha;exact⟨this.1,this.2.1⟩
 exact Calls.O hj λe w' ⟨v,he,t,m,hv,r⟩=>⟨t,m,by rw[he,hv],r⟩
def Zdh{t:Sl}{l:Μ}(h:IT ą W S t l):
  Calls prog 264 #[t.v] W λe w'=>∃(s:Sl) (er:Int),e= .returned (.tuple #[s.v,vi er])/\AI W w'/\((s=Sl.nil/\er=26/\64<l.length)\/(er=0/\l.length<=64/\IT ui w' (λb=>W.heap.size<=b/\b<w'.heap.size) s (BU l))):=by
 have hf:si prog 264 [t.v] W λv w'=>∃(s:Sl) (er:Int),v= .tuple #[s.v,vi er]/\AI W w'/\((s=Sl.nil/\er=26/\64<l.length)\/(er=0/\l.length<=64/\IT ui w' (λb=>W.heap.size<=b/\b<w'.heap.size) s (BU l))):=by refine OO.V ?_;unfold OO;have hl:=h.len;exact⟨λhg=>⟨Sl.nil,26,rfl,AI.refl _,.inl ⟨rfl,rfl,oM⟩⟩,λhg=>MB.V (Xbi h oM λt w' hx ht=>⟨t,rfl,t,0,rfl,hx,.inr ⟨rfl,oM,ht⟩⟩)⟩
 exact Calls.O hf λe w' ⟨v,he,s,er,hv,r⟩=>⟨s,er,by rw[he,hv],r⟩
def Pn(w:Qd)(text:PU)(e:Ending)(W':Qd):Prop:=
 AI w W'/\∃(s:Sl) (er:Int),e= .returned (.tuple #[s.v,vi er])/\((s=Sl.nil/\er=21/\ ¬Nh text)\/
  (text.size<=4096/\∃l m,Ÿ (Aw Bu text) (Aw Bu text).length l/\m.Perm l/\Ez m/\((s=Sl.nil/\er=26/\64<(Dq m).length)\/
   (er=0/\(Dq m).length<=64/\IT ui W' (λb=>w.heap.size<=b/\b<W'.heap.size) s (BU (Dq m))))))
set_option maxRecDepth 100000 in
def Zh3(n:Nat)(hn:12<=n)(text:PU)(w:Qd)(f7:text.size<=4096)(m:Int)(hm:w.cell? ⟨0,0,none⟩=some (vi m))(e0:Tl w)(g6:Ŏ text):
  CallsIn Fence.wide n prog 173 #[.string text] w (Pn w text):=by
 have h1:1<=n:=oM;obtain⟨i0,hi,i3,i4,i5⟩:=info_parts (show(prog.info? 305).map (λi=>(i.zero,i.size,i.bytes))=some (some (.agg #[vi 0,vi 0]),2,16) by kernel_rfl);refine callsIn_of_wp_marks func173 rfl trivial ?_ rfl;simp only[Tryz.ntmps173,jm,gb,ip,Nat.reduceAdd,Nat.reduceSub,mc,mb,my,mg,iz,io];have g5:(text.size:Int)<=4096:=oM
 gi_wp2_with (refine⟨trivial,?_⟩;gi_at_call 262;refine(Xd (n - 1) oM _ _ _).O ?_;rintro e w' ⟨rfl,rfl⟩)
 have b5:=stA w text;obtain⟨V,hV⟩:∃V,G4 (((w.alloc (.cells #[Bq] 132)).alloc (.cells #[vi 0] 44)).alloc (.cells #[Bq] 302)) text Bu=V:=⟨_,rfl⟩;rw[hV]at b5;have c6:=hV;unfold Bq Bu at c6;rw[c6];clear hV c6;have h4:0<w.heap.size:=World.block_lt_of_cell? _ _ hm;have f9:∀{W:Qd},Below w.heap.size w W->W.cell? ⟨0,0,none⟩=some (vi m):=λh=>(h.cell (p:=⟨0,0,none⟩) h4).Z hm;have f4:=b5.size;have g4:=Xe (n - 1) oM Bu dC (w.heap.size+1+1+1+1) (w.heap.size+1+1+1) (w.heap.size+1+1+1+2) oM oM text f7 m oM (V.alloc (.deferred (some []))) (b5.uv.alloc _) (b5.str.alloc _) (b5.sav.alloc _) (f9 (b5.vd.alloc oM _));have hD:(V.alloc (.deferred (some []))).heap[w.heap.size+6]?=some (.deferred (some [])):=by rw[<-f4];exact World.alloc_heap_new V _
 have d5:(V.alloc (.deferred (some []))).heap.size=w.heap.size+7:=by rw[World.size_alloc,f4]
 refine W6 (r₀:=none) (D:=V.heap.size) (λfn=>Zd1 _ _ _ _ fn) (gf:=351) rfl (enters_of func351 kR rfl) g4 rfl oM (λk hk=>?ks)
  (IA w text) (XA w text) (λk A B b hb h ht=>h.tu (hb.imp id λe=>e.Z d5) ht) (λc A B b hb h ht=>h.tu (hb.imp id λe=>e.Z d5) ht)
  ⟨[],Bq,Ÿ.start _,b5.all.alloc _,World.ownsRow_nil _ _ _ _,b5.vd.alloc oM _,b5.rv.alloc _,b5.err.alloc _,hD,oM⟩ ?a1 ?assign ?body ?done ?stop
 case ks=>simp only[gj,qq,or_false]at hk;omega
 case assign=>
  intro x W K hK
  gi_wp2
  exact hK
 case body=>
  rintro k hk W ⟨g8,d2,j7⟩ ⟨l,v,hA,c9,c8,hB,b7,b6,b9,d8⟩;rw[d5]at d2;have h5:=(fg.1 d2).1;have n1:1<=n - 1 - 1:=oM;have n2:1<=n - 1 - 1 - 1:=oM
  gi_wp2_with (refine⟨trivial,?_⟩;gi_at_call 262;refine(CallsIn.inRound (F:=Fence.wide) _ (Xd (n - 1 - 1 - 1) oM _ _ _)).O ?_;rintro e w' ⟨rfl,rfl⟩)
  have a6:=stB W (Aw Bu text)[k];obtain⟨V2,hV⟩:∃V2,G4 ((W.alloc (.cells #[vi 0,vi 999999999] 305)).alloc (.cells #[.bool false] 4)) (Aw Bu text)[k] BN=V2:=⟨_,rfl⟩;rw[hV]at a6;have c6:=hV;unfold BN at c6;rw[c6];clear hV c6;have e6:=a6.size;have g9:V2.heap[(V.alloc (.deferred (some []))).heap.size]?=some (.loop g8):=by rw[d5];exact(a6.vd.block _ oM).Z d2
  have e5:(Aw Bu text)[k].size<=4096:=fl (Qe (fm hk)) f7;have f6:=Xe (n - 1 - 1 - 1) oM BN dC (W.heap.size+1+1+1) (W.heap.size+1+1) (W.heap.size+1+1+2) oM oM (Aw Bu text)[k] e5 m oM V2 a6.uv a6.str a6.sav (f9 (hB.Z (a6.vd.O oM)));refine W6 (r₀:=some (V.alloc (.deferred (some []))).heap.size) (D:=g8.defers) (w₀:=V2) (mark:=[]) (λfn=>run_enterLoop_inner g9 fn _ _ _ _) (gf:=351) rfl (enters_of func351 kR rfl) f6 rfl oM (λk hk=>?ks2)
   (IB W (Aw Bu text)[k]) (XB w W (Aw Bu text)[k]) (λj A B b hb h ht=>h.tu (hb.imp id λe=>e.Z e6) ht) (λc A B b hb h ht=>h.tu oM (hb.imp id λe=>e.Z e6) ht)
   ⟨_,_,Ź.start _,a6.one,a6.some,a6.vd,oM⟩ ?a2 ?assign2 ?body2 ?done2 ?stop2
  case ks2=>simp only[gj,qq,or_false]at hk;omega
  case assign2=>
   intro x W K hK
   gi_wp2
   exact hK
  case body2=>
   rintro j hj W' ⟨j1,d3,i9⟩ ⟨x,b,hW,b4,a8,a0,d7⟩;have d9:(Aw BN (Aw Bu text)[k])[j].size<=4096:=fl (Qe (fm hj)) e5;generalize ht:(Aw BN (Aw Bu text)[k])[j]=t at d9 ⊢;by_cases h0:t.size=0
   .have h9:t=bm #[]:=(by obtain⟨⟨l⟩⟩:=t;simp[ByteArray.size]at h0;rw[h0]);subst h9
    gi_wp2
    exact⟨rfl,λ_ _=>rfl,x,b,hW.skip hj (by rw[ht];rfl),b4,a8,a0,d7⟩
   .have j2: ¬t=bm #[]:=(by rintro rfl;exact h0 rfl);have j8:t.toList.isEmpty=false:=by
     rw[Lib.toList_data];cases h:t.data.toList with
     |nil=>have:=Lib.size_eq t;rw[h,ip]at this;omega
     |cons _ _=>rfl
    by_cases hx:∃a,wj t.data.toList a
    .obtain⟨a,ha⟩:=hx;have hc:Calls prog 263 #[.string t] W' λe w'=>e= .returned (.tuple #[.agg #[vi a.1,vi a.2],.bool true])/\AI W' w':=by
      refine(e0 t W' (Ŏ.piece g6 (fm hk) (by rw[<-ht];exact fm hj)) d9 (hB.Z (a0.O oM))).O ?_;rintro e w' ⟨b8,⟨y,hy,rfl⟩|⟨hn,_⟩⟩
      .rw[hy.one ha];exact⟨rfl,b8⟩
      .exact fu ha (hn a)
     have n3:1<=n - 1 - 1 - 1 - 1:=oM
     gi_wp2_with (refine⟨trivial,?_⟩;gi_at_call 263;refine(CallsIn.inRound (F:=Fence.wide) _ (callsIn_wide.2 hc)).O ?_;rintro e w' ⟨rfl,b8⟩;obtain⟨c1,c2,f1,f2,cs,fs⟩:=Z9 (b8.Z (AI.alloc w' (.cells #[vi a.1,vi a.2] 305))) b4 a8)
     have x2:=b8.Z (AI.alloc w' (.cells #[vi a.1,vi a.2] 305));have f3:=(x2.block (fg.1 b4).1).Z b4;have e2:=Dm a8 x2 a8.lt;obtain⟨k1,k2,k3⟩:=Zkr (p:=.int .i64 (max x.1 a.1)) (q:=.int .i64 (min x.2 a.2)) (r:=.bool true) f3 e2;have k4:=k3.U x2 a8.lt;refine⟨?_,?_,(max x.1 a.1,min x.2 a.2),true,hW.xo hj (by rwa [ht]) (by rwa [ht]),k1,k2,Two.below a0 k4 nR nR,fl d7 k4.size⟩
     .exact k4.block _ (fg.1 d3).1 oM oM
     .intro q hq;simp only[gj,qq,or_false]at hq;exact k4.block _ oM oM oM
    .have hc:Calls prog 263 #[.string t] W' λe w'=>e= .returned (.tuple #[.agg #[vi 0,vi 0],.bool false])/\AI W' w':=by
      refine(e0 t W' (Ŏ.piece g6 (fm hk) (by rw[<-ht];exact fm hj)) d9 (hB.Z (a0.O oM))).O ?_;rintro e w' ⟨b8,⟨y,hy,_⟩|⟨_,he⟩⟩
      .exact fu ⟨y,hy⟩ hx
      .exact⟨he,b8⟩
     have n3:1<=n - 1 - 1 - 1 - 1:=oM;have a9:=Dm b7 a0 oM;have a7:=Dm b6 a0 oM
     gi_wp2_with (refine⟨trivial,?_⟩;gi_at_call 263;refine(CallsIn.inRound (F:=Fence.wide) _ (callsIn_wide.2 hc)).O ?_;rintro e w' ⟨rfl,b8⟩;have x2:=b8.Z (AI.alloc w' (.cells #[vi 0,vi 0] 305));have c1:=(Dm a9 x2 a9.lt).cell;have c2:=(Dm a9 x2 a9.lt).frozen;have c3:=(Dm a7 x2 a7.lt).cell;have c4:=(Dm a7 x2 a7.lt).frozen)
     have x2:=b8.Z (AI.alloc w' (.cells #[vi 0,vi 0] 305));obtain⟨k1,k2,k3⟩:=RI (p:=Bq) (q:=.int .i64 21) (Dm a9 x2 a9.lt) (Dm a7 x2 a7.lt);have k4:=k3.U x2 a7.lt;exact⟨k4.block _ (fg.1 d3).1 oM oM,rfl,⟨t,by rw[<-ht];exact fm hj,h0,λy hy=>hx ⟨y,hy⟩⟩,k1,k2,k4.Xcs a0⟩
  case stop2=>
   rintro c W2 ⟨rfl,⟨t,ht,h0,hx⟩,b1,b2,hr⟩
   gi_wp2
   exact⟨by rw[d5];exact hr.block _ h5 oM oM,rfl,λh=>by obtain⟨y,hy⟩:=(h.2 _ (fm hk)).2 t ht h0;exact hx y hy,Ŷ.below hB hr nR,b1,b2,(hr.block _ (fg.1 b9).1 oM oM).Z b9,fl d8 hr.size⟩
  case done2=>
   rintro W2 ⟨x,b,hW,b4,a8,a0,d7⟩;have j4:=a8.cell;have a5:=Dm b7 a0 oM;have a4:=Dm b6 a0 oM;have e3:=hB.Z (a0.O (by omega:w.heap.size<=W.heap.size));have b0:=(a0.block _ (fg.1 b9).1).Z b9;cases b with
   |false=>
    have c1:=a5.cell;have c2:=a5.frozen;have c3:=a4.cell;have c4:=a4.frozen
    gi_wp2
    obtain⟨k1,k2,k3⟩:=RI (p:=Bq) (q:=.int .i64 21) a5 a4;exact⟨(k3.block _ oM oM oM).Z (a0.block _ oM),rfl,λh=>by have:=hW.some;rw[fe]at this;exact fu (this.2 (h.2 _ (fm hk)).1) sI,Ŷ.below hB (k3.Xcs a0) nR,k1,k2,(k3.block _ (fg.1 b0).1 oM oM).Z b0,fl oM k3.size⟩
   |true=>
    have d6:=hA.step hk hW;have c1:W2.cell? ⟨W.heap.size,0,none⟩=some (vi x.1):=(by simp[World.cell?,b4]);have c2:W2.cell? ⟨W.heap.size,1,none⟩=some (vi x.2):=(by simp[World.cell?,b4]);have c5:=Dm c9 a0 oM;by_cases f8:x.1<=x.2
    .have e7:=d6.1 f8;have h3:=c5.cell;have d4:=Wj c8 a0;have i7:=hA.len;have h6:l.length<=4096:=by have:=Qc Bu dC text;omega
     gi_wp2_with (gi_at_builtin;refine wpListIn_append_own _ rfl _ _ 302 rfl (w.heap.size+8) 305 i0 (.agg #[vi 0,vi 0]) 2 16 underlying302 hi i3 i4 i5 rfl dC _ _ _ rfl (d4.alloc _) ⟨W2.heap.size,0,none⟩ 1 1 [vi x.1,vi x.2] rfl rfl (λj u hj=>by rw[show(⟨W2.heap.size,0,none⟩:LP).add j=⟨W2.heap.size,j,none⟩ by unfold Addr.add;split<;>simp_all];rwa [World.cell?_alloc_mark,ku]) (by simp[Value.oneCell']) (by rw[VH];omega) oM (by simp;omega) ?_;intro v' w1 d0 f0 _;obtain⟨g',i6,rfl⟩:=ownsRow_succ d0;obtain⟨g7,i2,h8,c7⟩:=YT c5 dC d4 oM d0 f0;have j3:=g7.cell;have j5:=g7.frozen)
     exact⟨(c7.block _ oM oM).Z (a0.block _ oM),λq hq=>by simp only[gj,qq,or_false]at hq;exact(c7.block _ oM oM).Z (a0.block _ oM),l++[x],_,e7,i2,by rw[WF];simpa using h8,Xbo.below e3 c7 oM oM,(c7.block _ oM oM).Z a5,(c7.block _ oM oM).Z a4,(c7.block _ oM oM).Z b0,fl oM c7.size⟩
    .have e7:=d6.2 f8
     gi_wp2
     exact⟨a0.block _ oM,λq hq=>by simp only[gj,qq,or_false]at hq;exact a0.block _ oM,l,v,e7,c5,Wj c8 a0,e3,a5,a4,b0,oM⟩
 case stop=>
  rintro c W ⟨rfl,h7,hB,b7,b6,b9,d8⟩
  gi_wp2
  refine⟨by simp,.inl ⟨_,_,rfl,run_takeDeferred (by rwa [f4]),?_⟩⟩;have hp:=Tu.put W V.heap.size (.deferred none);have e8:=(DM b7 hp oM).cell;have e9:=(DM b6 hp oM).cell;refine⟨.tuple #[Bq,vi 21],?_,JI hB hp oM nR,Sl.nil,21,rfl,.inl ⟨rfl,rfl,h7⟩⟩;simp[results,Tryz.f173,go_sem,e8,e9]
 case done=>
  rintro W ⟨l,v,hA,c9,c8,hB,b7,b6,b9,d8⟩;have h3:=c9.cell;have j6:=hA.len;have h6:=Qc Bu dC text
  gi_wp2
  refine⟨trivial,(callsIn_wide.2 (Ze9 c8 hA.inn oM)).O ?_⟩;rintro e w1 ⟨t,m',rfl,x1,hp,hr,hm⟩
  gi_wp2
  refine⟨trivial,(callsIn_wide.2 (Zdh hm)).O ?_⟩;rintro e w2 ⟨⟨a2,l2,k2⟩,er,rfl,x2,g0⟩;dsimp only[Sl.v];have e1:=x1.Z x2;have a5:=Dm b7 e1 oM;have a4:=Dm b6 e1 oM;have b0:=(e1.block oM).Z b9;have c1:=a5.cell;have c2:=a5.frozen;have c3:=a4.cell;have c4:=a4.frozen
  gi_wp2
  obtain⟨q1,q2,q3⟩:=RI (p:=.slice a2 l2 k2) (q:=.int .i64 er) a5 a4;have e4:=(q3.block _ (fg.1 b0).1 oM oM).Z b0;refine⟨by simp,.inl ⟨_,_,rfl,run_takeDeferred e4,?_⟩⟩;generalize hX:(w2.setCell ⟨w.heap.size,0,none⟩ (.slice a2 l2 k2)).setCell ⟨w.heap.size+1,0,none⟩ (vi er)=X at q1 q2 q3 e4 ⊢;have d1:=Tu.put X (w.heap.size+6) (.deferred none);have e8:=(DM q1 d1 oM).cell;have e9:=(DM q2 d1 oM).cell;have h2:=Two.below (hB.Z (e1.O oM)) q3 nR nR;refine⟨.tuple #[.slice a2 l2 k2,vi er],?_,JI h2 d1 oM nR,⟨a2,l2,k2⟩,er,rfl,.inr ⟨f7,l,m',hA,hp,hr,g0.imp id λ⟨g1,g2,g3⟩=>⟨g1,g2,?_⟩⟩⟩
  .simp[results,Tryz.f173,go_sem,e8,e9]
  .have j0:=e1.size;have j9:=x1.size;have g5:=World.grownBy.size d1;have hq:=q3.size;refine(g3.ry (w':=X.putObj (w.heap.size+6) (.deferred none)) λb hb hl=>?_).O λb hb=>⟨by have:=hb.1;omega,by have:=hb.2;omega⟩;have h1:=hb.1;exact(World.grownBy.block d1 b oM (by simp;omega)).Z (q3.block b hl oM oM)
end Go.Hal
namespace Go.Hal
def Bp(uv:LU):Nat->LU->List (List UInt8)
 |0,s=>[s]
 |_+1,[]=>[[]]
 |f+1,b::l=>if uv.isPrefixOf (b::l)then []::Bp uv f ((b::l).drop uv.length)else match Bp uv f l with
  |h::t=>(b::h)::t
  | []=>[[b]]
def FY(uv:LU)(f:Nat)(s:LU):∃h t,Bp uv f s=h::t:=by
 cases f with
 |zero=>exact⟨_,_,rfl⟩
 |succ f=>cases s with
  |nil=>exact⟨_,_,rfl⟩
  |cons b l=>
   unfold Bp;split
   .exact⟨_,_,rfl⟩
   .split<;>exact⟨_,_,rfl⟩
def Sj{uv:LU}{k:Nat}{s:LU}(h:Lib.index s uv= -1):Lib.splitK uv 0 k s= [s]:=by
 cases k with
 |zero=>rfl
 |succ k=>unfold Lib.splitK;rw[fo (by rw[h];rfl)]
def Si{uv:LU}{k:Nat}{s:LU}(h:Lib.index s uv=i):Lib.splitK uv 0 (k+1) s=s.take i::Lib.splitK uv 0 k (s.drop (i+uv.length)):=by
 have hm: ¬(Lib.index s uv== -1)=true:=λe=>by have:=beq_iff_eq.1 e;omega
 have e:(Lib.index s uv).toNat=i:=oM;rw[Lib.splitK,fb hm,e,lq]
def N7{uv:LU}(h1:1<=uv.length):∀(f k:Nat)(s:LU),s.length<=f->s.length<=k->Lib.splitK uv 0 k s=Bp uv f s
 |f,k,[],_,_=>by
  have hi:Lib.index [] uv= -1:=by
   cases uv with
   |nil=>simp at h1
   |cons a t=>rfl
  rw[Sj hi];cases f<;>rfl
 |0,_,b::l,h,_=>by simp at h
 |_,0,b::l,_,h=>by simp at h
 |f+1,k+1,b::l,hf,hk=>by
  simp only[gb]at hf hk;unfold Bp;by_cases h0:uv.isPrefixOf (b::l)=true
  .have hi:Lib.index (b::l) uv=(0:Nat):=(by unfold Lib.index;rw[fo h0];rfl);rw[Si hi,fo h0,lu,List.take_zero];rw[N7 h1 f k _ (by rw[gq];simp only[gb];omega) (by rw[gq];simp only[gb];omega)]
  .rw[fb h0];have hl:=N7 h1 f k l oM oM;have a4:=N7 h1 f (k+1) l oM oM;rcases Lib.index_spec l uv with⟨hm,_⟩|⟨i,hi,_⟩
   .have hi:Lib.index (b::l) uv= -1:=(by unfold Lib.index;rw[fb h0,hm];rfl);rw[Sj hi,<-hl,Sj hm]
   .have a0:Lib.index (b::l) uv=((i+1:Nat):Int):=by have:((i:Int)== -1)=false:=(by rw[pz];omega);unfold Lib.index;rw[fb h0,hi];simp[this]
    rw[Si a0,<-a4,Si hi];simp[Nat.add_right_comm]
def pre(acc:LU):List (List UInt8)->List (List UInt8)
 |h::t=>(acc++h)::t
 | []=>[acc]
def Pz:∀(f:Nat)(a0 s:LU),s.length<=f->GM a0 s=pre a0 (Bp [124,124] f s)
 |f,a0,[],_=>by cases f<;>simp[GM,Bp,pre]
 |0,_,b::l,h=>by simp at h
 |f+1,a0,[b],h=>by
  have h0: ¬([124,124]:LU).isPrefixOf [b]=true:=by simp
  unfold GM Bp;rw[fb h0];cases f<;>simp[Bp,pre]
 |f+1,a0,b::c::r,h=>by
  simp only[gb]at h;have e:(([124,124]:LU).isPrefixOf (b::c::r)=true)↔(b=124/\c=124):=by
   constructor
   .intro h;simp only[List.isPrefixOf,ep,ko]at h;exact⟨h.1.H,h.2.1.H⟩
   .rintro⟨rfl,rfl⟩;simp only[List.isPrefixOf,beq_self_eq_true,Bool.and_self]
  unfold GM Bp;by_cases hb:b=124/\c=124
  .rw[fo hb,fo (e.2 hb)];have:=Pz f [] r oM;obtain⟨x,t,ht⟩:=FY [124,124] f r;simp only[gb,ip,ri,lf,pre,gz];rw[this,ht];simp[pre]
  .rw[fb hb,fb λh=>hb (e.1 h),Pz f (a0++[b]) (c::r) (by simp only[gb];omega)];obtain⟨x,t,ht⟩:=FY [124,124] f (c::r);rw[ht];simp[pre]
def SI:∀(f:Nat)(a0 s:LU),s.length<=f->HM a0 s=(pre a0 (Bp [32] f s)).filter λt=>decide (t≠[])
 |f,a0,[],_=>by cases f<;>by_cases ha:a0=[]<;>simp[HM,Bp,pre,ha]
 |0,_,b::l,h=>by simp at h
 |f+1,a0,b::r,h=>by
  simp only[gb]at h;have e:(([32]:LU).isPrefixOf (b::r)=true)↔b=32:=by
   constructor
   .intro h;simp only[List.isPrefixOf,ep,ko]at h;exact h.1.H
   .rintro rfl;simp only[List.isPrefixOf,beq_self_eq_true,Bool.and_self]
  unfold HM Bp;by_cases hb:b=32
  .rw[fo hb,fo (e.2 hb)];have:=SI f [] r oM;obtain⟨x,t,ht⟩:=FY [32] f r;simp only[gb,ip,ri,lf,pre,gz];rw[this,ht];by_cases ha:a0=[]<;>simp[pre,ha]
  .rw[fb hb,fb λh=>hb (e.1 h),SI f (a0++[b]) r oM];obtain⟨x,t,ht⟩:=FY [32] f r;rw[ht];simp[pre]
def Qb(h1:1<=uv.size)(s:PU):(Aw uv s).map (·.data.toList)=Bp uv.data.toList s.data.toList.length s.data.toList:=by unfold Aw;rw[Lib.splitB_data,Lib.size_eq];exact N7 (by rwa [<-Lib.size_eq]) _ _ _ nR nR
def Wy(l:List (List UInt8))(h:l≠[]):pre [] l=l:=by cases l with
 |nil=>exact fu rfl h
 |cons x t=>rfl
def Tt(s:PU):JC s.data.toList=(Aw Bu s).map (·.data.toList):=by
 rw[Qb dC];unfold JC;rw[Pz _ _ _ nR,Wy]
 .rfl
 .obtain⟨h,t,e⟩:=FY [124,124] s.data.toList.length s.data.toList;rw[e];simp
def Yh(s:PU):G8 s.data.toList=((Aw BN s).map (·.data.toList)).filter λt=>decide (t≠[]):=by
 rw[Qb dC];unfold G8;rw[SI _ _ _ nR,Wy]
 .rfl
 .obtain⟨h,t,e⟩:=FY [32] s.data.toList.length s.data.toList;rw[e];simp
def OH{t:PU}:t.size≠0↔t.data.toList≠[]:=by rw[Lib.size_eq,ne_eq,List.length_eq_zero_iff]
def Yi{p:LU->Prop}:(∀w∈G8 s.data.toList,p w)↔∀t∈Aw BN s,t.size≠0->p t.data.toList:=by
 rw[Yh];constructor
 .intro h t ht h0;exact h _ (jd.2 ⟨gv.2 ⟨t,ht,rfl⟩,by simpa using OH.1 h0⟩)
 .intro h w hw;obtain⟨h1,h2⟩:=jd.1 hw;obtain⟨t,ht,rfl⟩:=gv.1 h1;exact h t ht (OH.2 (by simpa using h2))
def Zn9:G8 s.data.toList≠[]↔∃t∈Aw BN s,t.size≠0:=by
 rw[Yh,ne_eq,List.filter_eq_nil_iff];constructor
 .intro h;apply jg;intro hn;refine h λw hw=>?_;obtain⟨t,ht,rfl⟩:=gv.1 hw;intro h2;exact hn ⟨t,ht,OH.2 (by simpa using h2)⟩
 .rintro⟨t,ht,h0⟩ h;exact h _ (gv.2 ⟨t,ht,rfl⟩) (by simpa using OH.1 h0)
def Ts(a:PU):G9 a↔Pe a.data.toList:=by unfold G9 Pe;rw[Zn9,Yi (p:=λw=>∃x,wj w x)]
def Tq(a:PU)(n:Int):J6 a n↔Pd a.data.toList n:=by unfold J6 Pd;rw[Yi (p:=λw=>∀x,wj w x->x.1<=n/\n<=x.2)]
def R3(s:PU):Nh s↔GH s.data.toList:=by
 unfold Nh GH;rw[Tt,Lib.size_eq];refine and_congr_right λ_=>?_;constructor
 .intro h a ha;obtain⟨t,ht,rfl⟩:=gv.1 ha;exact(Ts t).1 (h t ht)
 .intro h a ha;exact(Ts a).2 (h _ (gv.2 ⟨a,ha,rfl⟩))
def Ÿ.range(hs:s.size<=4096){l m:Μ}(h:Ÿ (Aw Bu s) (Aw Bu s).length l)(hp:m.Perm l)(hr:Ez m):yi s.data.toList (Dq m):=by
 have ht:(Aw Bu s).take (Aw Bu s).length=Aw Bu s:=fe;have h1:=h.ok;have h2:=h.has;rw[ht]at h1 h2;have a0:∀x∈m,x∈l:=λx hx=>hp.mem_iff.1 hx;have hm:∀n,Bf n m=true↔Bf n l=true:=λn=>by unfold Bf;rw[jv,jv];exact⟨λ⟨x,hx,h⟩=>⟨x,a0 x hx,h⟩,λ⟨x,hx,h⟩=>⟨x,hp.mem_iff.2 hx,h⟩⟩
 have a4:E3 0 (Dq m)/\∀n,Bf n (Dq m)=true↔Bf n m=true:=by
  cases m with
  |nil=>exact⟨trivial,λn=>Iff.rfl⟩
  |cons y r=>have ha:y.1<=y.2:=h.le y (a0 y (.head _));have hb:∀x∈r,x.1<=x.2:=λx hx=>h.le x (a0 x (.tail _ hx));exact⟨Zex r y 0 (h.inn y (a0 y (.head _))).1 hr ha hb,λn=>Zey n r y hr ha hb⟩
 refine⟨(R3 s).1 ⟨hs,h1⟩,a4.1,λn=>?_⟩;rw[a4.2,hm,h2,Tt];constructor
 .rintro⟨a,ha,hn⟩;exact⟨_,gv.2 ⟨a,ha,rfl⟩,(Tq a n).1 hn⟩
 .rintro⟨a,ha,hn⟩;obtain⟨t,ht,rfl⟩:=gv.1 ha;exact⟨t,ht,(Tq t n).2 hn⟩
structure Gl(w:Qd):Prop where
 zu:Í w
 mx:∃m,w.cell? ⟨0,0,none⟩=some (vi m)
 syn:∃ev,w.cell? ⟨6,0,none⟩=some ev/\(ev= .nilIface\/∃te pe,ev= .iface te pe)
 rng:∃ev,w.cell? ⟨7,0,none⟩=some ev/\(ev= .nilIface\/∃te pe,ev= .iface te pe)
def Gl.U(h:Gl w)(hx:AI w w'):Gl w':=by obtain⟨h1,⟨m,h2⟩,⟨e,h3,a0⟩,⟨e',h4,a4⟩⟩:=h;exact⟨h1.U hx,⟨m,hx.cell h2⟩,⟨e,hx.cell h3,a0⟩,⟨e',hx.cell h4,a4⟩⟩
attribute [local go_sem] Oper.semAt_some
def T6(n:Nat):Bool:=match Lib.atoiAll (dec n)with
 | .ok v=>v==(n:Int)
 |_=>false
set_option maxRecDepth 100000 in
def YW:(List.range 1000).all T6=true:=by decide+kernel
def T7{n:Int}(h0:0<=n)(h1:n<=999):Lib.atoiAll (dec n)= .ok n:=by
 have h:=jh.1 YW n.toNat (by simp;omega);have e:((n.toNat:Nat):Int)=n:=oM;unfold T6 at h;rw[e]at h;split at h
 .rename_i v hv;rw[hv,eq_of_beq h]
 .cases h
def KQ{n:Int}(h0:0<=n):Lib.itoa n=dec n:=by unfold Lib.itoa dec;rw[fb oM]
def Hb:PU:=bm #[46]
def Sg{uv:PU}(h1:1<=uv.size):∀(k:Nat)(s:PU),s.size<=k->Lib.splitB uv 0 (Lib.countB s uv) s=Aw uv s
 |k,s,hk=>by
  rcases Lib.indexB_cases s uv with a0|⟨i,a0,a4⟩
  .rw[Lib.splitB_miss _ _ _ _ a0,Un a0]
  .match k with
   |0=>omega
   |k+1=>rw[Lib.countB_hit s uv i h1 a0,Nat.add_comm,Lib.splitB_hit _ _ _ _ i a0,Um h1 a0 a4,Sg h1 k _ (by rw[mf];omega),lq]
termination_by k=>k
def Zad(h1:1<=uv.size)(s:PU):(Aw uv s).length=Lib.countB s uv+1:=by rw[<-Sg h1 s.size s nR];exact Lib.splitB_all uv h1 0 _ s rfl
def Ul{c:UInt8}:∀{a:LU} (f:Nat),c∉a->Bp [c] f a= [a]
 | [],f,_=>by cases f<;>rfl
 |b::a,0,_=>rfl
 |b::a,f+1,h=>by
  have h0: ¬([c]:LU).isPrefixOf (b::a)=true:=λh2=>by simp only[List.isPrefixOf,ep,ko]at h2;exact h (by rw[h2.1];exact .head _)
  unfold Bp;rw[fb h0,Ul f λh2=>h (.tail _ h2)]
def PZ{c:UInt8}:∀{a:LU} {r:LU} (f:Nat),c∉a->(a++c::r).length<=f->Bp [c] f (a++c::r)=a::Bp [c] (f - a.length - 1) r
 | [],r,0,_,h=>by simp at h
 | [],r,f+1,_,_=>by rw[iz,Bp,fo (by simp only[List.isPrefixOf,beq_self_eq_true,Bool.and_self])];rfl
 |b::a,r,0,_,h=>by simp at h
 |b::a,r,f+1,h,hf=>by
  have h0: ¬([c]:LU).isPrefixOf (b::(a++c::r))=true:=λh2=>by simp only[List.isPrefixOf,ep,ko]at h2;exact h (by rw[h2.1];exact .head _)
  simp only[io,gb]at hf;rw[io,Bp,fb h0,PZ f (λh2=>h (.tail _ h2)) oM,gb,show f+1 - (a.length+1) - 1=f - a.length - 1 by omega]
def IC(c:UInt8):List (List UInt8)->LU
 | []=>[]
 | [x]=>x
 |x::y::r=>x++c::IC c (y::r)
def Vm(c:UInt8):∀(f:Nat)(s:LU),s.length<=f->IC c (Bp [c] f s)=s
 |f,[],_=>by cases f<;>rfl
 |0,b::l,h=>by simp at h
 |f+1,b::l,h=>by
  simp only[gb]at h;have ih:=Vm c f l oM;unfold Bp;split
  .rename_i h0;simp only[List.isPrefixOf,ep,ko]at h0;obtain⟨x,t,e⟩:=FY [c] f l;simp only[gb,ip,ri,lf];rw[e]at ih ⊢;rw[IC,ih,h0.1];rfl
  .split
   .rename_i x t e;rw[e]at ih;cases t with
    |nil=>rw[IC]at ih ⊢;rw[ih]
    |cons y r=>rw[IC]at ih ⊢;rw[<-ih];rfl
   .rename_i e;obtain⟨x,t,e'⟩:=FY [c] f l;rw[e']at e;cases e
def QJ{s:LU}{v:sq}(h:yx s v):Bp [46] s.length s= [dec v.ma,dec v.mi,dec v.pa]:=by
 obtain⟨hm,rfl⟩:=h;have hv:=sq.vn.1 hm;have e:AK v=dec v.ma++46::(dec v.mi++46::dec v.pa):=by unfold AK;rw[fo hm];simp
 rw[e,PZ _ (GZ hv.1.1) nR,PZ _ (GZ hv.2.1.1) sI,Ul _ (GZ hv.2.2.1)]
def Zev{s:LU}{a b c:Int}(h:Bp [46] s.length s= [Lib.itoa a,Lib.itoa b,Lib.itoa c])(hm:(⟨a,b,c⟩:sq).vt=true):yx s ⟨a,b,c⟩:=by refine⟨hm,?_⟩;have hv:=sq.vn.1 hm;simp only at hv;have:=Vm 46 s.length s nR;rw[h,KQ hv.1.1,KQ hv.2.1.1,KQ hv.2.2.1]at this;rw[<-this];unfold AK;rw[fo hm];simp[IC]
def Zaf(s:PU):(Aw Hb s).map (·.data.toList)=Bp [46] s.data.toList.length s.data.toList:=Qb dC s
def Vj{P:List PU}{v:sq}(hc:P.map (·.data.toList)=Bp [46] s.data.toList.length s.data.toList)(hv:yx s.data.toList v){k:Nat}(hk:k<P.length):∃x:Int,0<=x/\x<=999/\P[k].data.toList=dec x:=by
 rw[QJ hv]at hc;have hm:=sq.vn.1 hv.1;have h:(P.map (·.data.toList))[k]?=some P[k].data.toList:=by rw[gc,dw hk];rfl
 rw[hc]at h
 match k with
 |0=>exact⟨v.ma,hm.1.1,hm.1.2,(jz h).H⟩
 |1=>exact⟨v.mi,hm.2.1.1,hm.2.1.2,(jz h).H⟩
 |2=>exact⟨v.pa,hm.2.2.1,hm.2.2.2,(jz h).H⟩
 |k+3=>simp at h
def QK{a x:Int}(hx:0<=x)(h:Lib.itoa a=dec x):a=x:=by
 by_cases ha:a<0
 .unfold Lib.itoa at h;rw[fo ha]at h;have:=Qf _ hx rfl 45 (by rw[<-h];exact .head _);exact fu this dC
 .rw[KQ oM]at h;exact N8 oM hx h
def Ef(xs:Β):Δ:=((xs++List.replicate (3 - xs.length) 0).map (Value.int .i64)).toArray
def Jc(P:List PU):Δ:=(P.map Value.string).toArray
structure PI(w:Qd)(P:List PU)(k:Nat)(wr:Qd):Prop where
 vd:Below w.heap.size w wr
 ver:wr.heap[w.heap.size]?=some (.cells #[vi 0,vi 0,vi 0] 52 (0,0))
 row:wr.heap[w.heap.size+1]?=some (.cells (Jc P) 9 (0,0))
 arr:∃xs:Β,wr.heap[w.heap.size+1+1]?=some (.cells (Ef xs) 226 (0,0))/\xs.length=k/\(P.take k).map (·.data.toList)=xs.map Lib.itoa
def Df(v:sq):HT:=.agg #[vi v.ma,vi v.mi,vi v.pa]
def Y7(w:Qd)(s:PU)(e:Ending)(w':Qd):Prop:=AI w w'/\((∃v,yx s.data.toList v/\e= .returned (.tuple #[Df v,.bool true]))\/((∀v,¬yx s.data.toList v)/\e= .returned (.tuple #[Df ⟨0,0,0⟩,.bool false])))
def Znl(w:Qd)(P:List PU):PI w P 0 (((w.alloc (.cells #[vi 0,vi 0,vi 0] 52)).alloc (.cells (Jc P) 9)).alloc (.cells #[vi 0,vi 0,vi 0] 226)):=by have b0:=World.alloc_heap_new w (.cells #[vi 0,vi 0,vi 0] 52);have b1:=World.alloc_heap_new (w.alloc (.cells #[vi 0,vi 0,vi 0] 52)) (.cells (Jc P) 9);have b2:=World.alloc_heap_new ((w.alloc (.cells #[vi 0,vi 0,vi 0] 52)).alloc (.cells (Jc P) 9)) (.cells #[vi 0,vi 0,vi 0] 226);simp only[World.size_alloc]at b1 b2;exact⟨(((Below.refl _ w).alloc nR _).alloc sI _).alloc (by simp;omega) _,FW (FW b0 _) _,FW b1 _,[],b2,rfl,rfl⟩
def Zew{v:Int}(h0: -9223372036854775808<=v)(h1:v<=9223372036854775807)(ht:Í W):Calls prog 95 #[vi v] W λe w'=>e= .returned (.string ⟨(Lib.itoa v).toArray⟩)/\AI W w':=by refine(Any.strconv_Itoa Tryz.Xbz v h0 h1 W ht).O λe w' ⟨he,q,os,hw⟩=>⟨he,?_⟩;subst hw;exact⟨rfl,rfl,rfl,by show W.heap.size<=(W.heap++os).size;simp,λb hb=>by show(W.heap++os)[b]?=W.heap[b]?;rw[kh hb]⟩
def YY{v:Int}(hs:s.size<=4096)(h:Lib.atoiAll s.data.toList= .ok v):Calls prog 354 #[.string s] W λe w'=>e= .returned (.tuple #[vi v,.nilIface])/\AI W w':=by
 refine(Any.strconv_Atoi_ok Tryz.Xa4 s oM v h W).O λe w' ⟨he,hw⟩=>⟨he,?_⟩;rcases hw with rfl|⟨t,rfl⟩
 .exact AI.refl _
 .exact Lib.bytesWorld_below _ _ _
def YU{B:Qd}{k:Nat}{xs:Β}(hx:AI A B)(h:A.heap[u]?=some (.cells (Ef xs) t (0,0)))(hl:xs.length=k)(hk:k<3):
  B.cell? ⟨u,k,none⟩=some (vi 0)/\B.frozen? ⟨u,k,none⟩=false:=by
 have h2:B.heap[u]?=_:=(hx.block (fg.1 h).1).Z h;have e:(Ef xs)[k]?=some (vi 0):=by unfold Ef;rw[ku,gc,ic oM,List.getElem?_replicate,fo oM];rfl
 constructor
 .simp only[World.cell?,h2];simpa using e
 .simp[World.frozen?,h2]
def YX(hg:Gl W)(hs:s.size<=4096)(h:∀v,Lib.atoiAll s.data.toList≠ .ok v):Calls prog 354 #[.string s] W λe w'=>∃(x:Int) (t:LN) (N:Nat),e= .returned (.tuple #[vi x,.iface t (.pointer (some ⟨N,0,none⟩))])/\AI W w':=by
 obtain⟨_,_,⟨ev,hv,a0⟩,⟨ew,hw,a4⟩⟩:=hg;cases hat:Lib.atoiAll s.data.toList with
 |ok v=>exact fu hat (h v)
 |range=>exact(Any.strconv_Atoi_range Tryz.Xa4 s oM hat ew W hw a4).O λe w' ⟨N,he,_,_,hb⟩=>⟨_,_,N,he,hb⟩
 |_=>exact(Any.strconv_Atoi_syntax Tryz.Xa4 s oM hat ev W hv a0).O λe w' ⟨N,he,_,_,hb⟩=>⟨0,_,N,he,hb⟩
def PI.step{wr w2:Qd}{P:List PU}{k:Nat}{v:Int}(h:PI w P k wr)(hx:AI wr w2)(hk:k<3)(hP:k<P.length)(he:P[k].data.toList=Lib.itoa v):PI w P (k+1) (w2.setCell ⟨w.heap.size+1+1,k,none⟩ (vi v)):=by
 obtain⟨xs,a0,a5,a8⟩:=h.arr;have o:∀j,j≠w.heap.size+1+1->(w2.setCell ⟨w.heap.size+1+1,k,none⟩ (vi v)).heap[j]?=w2.heap[j]? :=λj hj=>Below.heap_setCell w2 _ _ j hj;have a4:w2.heap[w.heap.size+1+1]?=some (.cells (Ef xs) 226 (0,0)):=(hx.block (fg.1 a0).1).Z a0;obtain⟨a7,a6⟩:=fg.1 a4;refine⟨(h.vd.Z (hx.O h.vd.size)).setCell (p:=⟨w.heap.size+1+1,k,none⟩) (by simp;omega) _,(o _ oM).Z ((hx.block (fg.1 h.ver).1).Z h.ver),(o _ oM).Z ((hx.block (fg.1 h.row).1).Z h.row),xs++[v],?_,by simp[a5],?_⟩
 .have e:(Ef xs).setIfInBounds k (vi v)=Ef (xs++[v]):=by
   unfold Ef;rw[List.setIfInBounds_toArray];congr 1
   match k,xs,a5,hk with
   |0,[],_,_=>rfl
   |1,[a],_,_=>rfl
   |2,[a,b],_,_=>rfl
  rw[<-e];show(w2.heap.modify (w.heap.size+1+1) _)[w.heap.size+1+1]?=_;rw[ng (by rwa [Array.size_modify]),px,a6];rfl
 .rw[dz hP,gd,a8,gd,List.map_singleton,List.map_singleton,he]
def F3{B:Qd}{x y:HT}(hx:AI A B)(h:A.heap[u]?=some (.cells #[x,y,z] t (0,0))):
  B.cell? ⟨u,0,none⟩=some x/\B.cell? ⟨u,1,none⟩=some y/\B.cell? ⟨u,2,none⟩=some z/\B.frozen? ⟨u,0,none⟩=false/\B.frozen? ⟨u,1,none⟩=false/\B.frozen? ⟨u,2,none⟩=false:=by
 have h2:B.heap[u]?=_:=(hx.block (fg.1 h).1).Z h;exact⟨by simp[World.cell?,h2],by simp[World.cell?,h2],by simp[World.cell?,h2],by simp[World.frozen?,h2],by simp[World.frozen?,h2],by simp[World.frozen?,h2]⟩
def RH{k:Nat}{cs:Δ}{v:HT}(h:A.heap[u]?=some (.cells cs t (0,0))):(A.setCell ⟨u,k,none⟩ v).heap[u]?=some (.cells (cs.setIfInBounds k v) t (0,0)):=by obtain⟨a0,hk⟩:=fg.1 h;show(A.heap.modify u _)[u]?=_;rw[ng (by rwa [Array.size_modify]),px,hk];rfl
def OB{x y p q r:HT}(h:A.heap[u]?=some (.cells #[x,y,z] t (0,0))):(((A.setCell ⟨u,0,none⟩ p).setCell ⟨u,1,none⟩ q).setCell ⟨u,2,none⟩ r).heap[u]?=some (.cells #[p,q,r] t (0,0)):=RH (RH (RH h))
def Nu{p q r:HT}(h:Below w.heap.size w A)(hu:w.heap.size<=u):Below w.heap.size w (((A.setCell ⟨u,0,none⟩ p).setCell ⟨u,1,none⟩ q).setCell ⟨u,2,none⟩ r):=
 ((h.setCell (p:=⟨u,0,none⟩) hu p).setCell (p:=⟨u,1,none⟩) hu q).setCell (p:=⟨u,2,none⟩) hu r
set_option maxRecDepth 100000 in
def Znq(n:Nat)(hn:4<=n)(s:PU)(hs:s.size<=4096)(w:Qd)(hg:Gl w):CallsIn Fence.wide n prog 315 #[.string s] w (Y7 w s):=by
 have h1:1<=n:=oM;obtain⟨m,hm⟩:=hg.mx;refine callsIn_of_wp func315 rfl trivial ?_ rfl;simp only[Tryz.ntmps315,jm,gb,ip,Nat.reduceAdd,Nat.reduceSub,mc,mb,my,mg,iz,io];have d0:(w.alloc (.cells #[vi 0,vi 0,vi 0] 52)).cell? ⟨0,0,none⟩=some (vi m):=(AI.alloc w _).cell hm;have b0:=Any.strings_Split Tryz.Xcx kR s Hb m (w.alloc (.cells #[vi 0,vi 0,vi 0] 52)) oM d0 dC;rw[Sg dC _ _ nR,<-Zad dC]at b0;have hP:∀P,Aw Hb s=P->P.map (·.data.toList)=Bp [46] s.data.toList.length s.data.toList:=λP h=>by rw[<-h];exact Zaf s
 have b9:(Aw Hb s).length<=4097:=fl (Qc Hb dC s) oM;obtain⟨P,eP⟩:∃P,Aw Hb s=P:=⟨_,rfl⟩;have a7:=hP P eP;have b5:∀p∈P,p.size<=4096:=λp hp=>fl (Qe (uv:=Hb) (by rwa [eP])) hs;rw[eP]at b0 b9;clear hP eP;by_cases h3:P.length=3
 .gi_wp2_with (refine⟨trivial,?_⟩;gi_at_call 353;refine(callsIn_wide.2 b0).O ?_;rintro e w' ⟨rfl,rfl⟩)
  have b2:=Znl w P;obtain⟨V,hV⟩:∃V,((w.alloc (.cells #[vi 0,vi 0,vi 0] 52)).alloc (.cells (Jc P) 9)).alloc (.cells #[vi 0,vi 0,vi 0] 226)=V:=⟨_,rfl⟩;rw[hV]at b2;have b7:((w.alloc (.cells #[vi 0,vi 0,vi 0] 52)).alloc (.cells (P.map Value.string).toArray (Tryz.Ă.t 9))).alloc (.cells #[vi 0,vi 0,vi 0] 226)=V:=hV;rw[b7];clear hV b7
  gi_loopw [19] (λi wr=>∃k:Nat,i= .int .i64 k/\k<=3/\PI w P k wr) (λi _=>3 - (Go.Proofs.intOf i).toNat)
  case atStart=>exact⟨0,rfl,oM,b2⟩
  case round=>
   obtain⟨k,rfl,hk,hI⟩:=hrel;obtain⟨xs,a6,c8,d6⟩:=hI.arr;have b8:Gl wr:=hg.U hI.vd;have e7:=(fg.1 a6).1;by_cases c4:k<3
   .have a8:k<P.length:=oM;have e0:(k:Int)<(P.length:Int):=oM;have c1:wr.cell? ⟨w.heap.size+1,k,none⟩=some (.string P[k]):=(by simp[World.cell?,hI.row,Jc,a8]);cases hat:Lib.atoiAll P[k].data.toList with
    |ok v=>
     gi_wp2_with (refine⟨trivial,?_⟩;gi_at_call 354;refine(callsIn_wide.2 (YY (b5 _ (fm a8)) hat)).O ?_;rintro e w' ⟨rfl,c7⟩)
     obtain⟨d4,e8⟩:=Lib.atoiAll_bounds hat;refine⟨trivial,(callsIn_wide.2 (Zew d4 oM (b8.U c7).zu)).O ?_⟩;rintro e w2 ⟨rfl,b4⟩;have a4:=c7.Z b4;by_cases a9:P[k].data.toList=Lib.itoa v
     .have b2:(⟨(Lib.itoa v).toArray⟩:PU)=P[k]:=(by rw[<-a9]);rw[b2];obtain⟨d1,d2⟩:=YU a4 a6 c8 c4
      gi_wp2
      go_roundw
      case rel=>exact⟨k+1,by simp,oM,hI.step a4 c4 a8 a9⟩
      case measure=>simp[Go.Proofs.intOf];try omega
     .have d9:(Lib.itoa v==P[k].toList)=false:=beq_eq_false_iff_ne.2 (by rw[Lib.toList_data];exact λe=>a9 e.H);have a0:=(a4.block (fg.1 hI.ver).1).Z hI.ver;obtain⟨e1,e2,e3,e4,e5,e6⟩:=F3 xR a0
      gi_wp2
      obtain⟨g1,g2,g3,_⟩:=F3 xR (OB (p:=.int .i64 0) (q:=.int .i64 0) (r:=.int .i64 0) a0);refine bodyPost_ret (v:=.tuple #[Df ⟨0,0,0⟩,.bool false]) ?_ rfl ⟨Nu (hI.vd.Z (a4.O hI.vd.size)) nR,.inr ⟨λu hu=>?_,rfl⟩⟩
      .simp[results,Tryz.f315,go_sem,g1,g2,g3,Df]
      .obtain⟨x,c6,d5,hx⟩:=Vj a7 hu a8;have h2:=T7 c6 d5;rw[<-hx,hat]at h2;cases h2;exact a9 (hx.Z (KQ c6).H)
    |_=>
      have c5:∀v,Lib.atoiAll P[k].data.toList≠ .ok v:=λv h=>by rw[hat]at h;cases h
      gi_wp2_with (refine⟨trivial,?_⟩;gi_at_call 354;refine(callsIn_wide.2 (YX b8 (b5 _ (fm a8)) c5)).O ?_;rintro e w2 ⟨x,t,N,rfl,a4⟩;obtain⟨e1,e2,e3,e4,e5,e6⟩:=F3 a4 hI.ver)
      refine⟨trivial,?_⟩
      gi_wp2
      have a0:=(a4.block (fg.1 hI.ver).1).Z hI.ver;obtain⟨g1,g2,g3,_⟩:=F3 xR (OB (p:=.int .i64 0) (q:=.int .i64 0) (r:=.int .i64 0) a0);refine bodyPost_ret (v:=.tuple #[Df ⟨0,0,0⟩,.bool false]) ?_ rfl ⟨Nu (hI.vd.Z (a4.O hI.vd.size)) nR,.inr ⟨λu hu=>?_,rfl⟩⟩
      .simp[results,Tryz.f315,go_sem,g1,g2,g3,Df]
      .obtain⟨y,d7,d8,hy⟩:=Vj a7 hu a8;exact c5 y (by rw[hy];exact T7 d7 d8)
   .obtain rfl:k=3:=oM
    match xs,c8 with
    | [a,b,c],_=>
     have d1:wr.cell? ⟨w.heap.size+1+1,0,none⟩=some (vi a):=(by simp[World.cell?,a6,Ef]);have d2:wr.cell? ⟨w.heap.size+1+1,1,none⟩=some (vi b):=(by simp[World.cell?,a6,Ef]);have d3:wr.cell? ⟨w.heap.size+1+1,2,none⟩=some (vi c):=(by simp[World.cell?,a6,Ef]);have a5:Bp [46] s.data.toList.length s.data.toList= [Lib.itoa a,Lib.itoa b,Lib.itoa c]:=(by rwa [<-a7,<-fe (l:=P),h3]);have c9:∀W,Calls prog 75 #[Df ⟨a,b,c⟩] W λe w'=>e= .returned (.bool (⟨a,b,c⟩:sq).vt)/\AI W w':=λW=>by have h:si prog 75 [Df ⟨a,b,c⟩] W λv w'=>v= .bool (⟨a,b,c⟩:sq).vt/\AI W w':=E8.V (HK (v:=⟨a,b,c⟩) λw' hx=>⟨rfl,hx⟩);exact Calls.O h λe w' ⟨v,he,hv,hx⟩=>⟨by rw[he,hv],hx⟩
     gi_wp2
     refine⟨trivial,(callsIn_wide.2 (c9 _)).O ?_⟩;rintro e w2 ⟨rfl,b4⟩;have a4:=(AI.alloc wr (.cells #[vi a,vi b,vi c] 52)).Z b4;have a0:=(a4.block (fg.1 hI.ver).1).Z hI.ver;have c3:=(b4.block sI).Z (World.alloc_heap_new wr (.cells #[vi a,vi b,vi c] 52));obtain⟨e1,e2,e3,e4,e5,e6⟩:=F3 xR a0;obtain⟨l1,l2,l3,_⟩:=F3 xR c3;cases hmay:(⟨a,b,c⟩:sq).vt with
     |true=>
      gi_wp2
      obtain⟨g1,g2,g3,_⟩:=F3 xR (OB (p:=.int .i64 a) (q:=.int .i64 b) (r:=.int .i64 c) a0);refine bodyPost_ret (v:=.tuple #[Df ⟨a,b,c⟩,.bool true]) ?_ rfl ⟨Nu (hI.vd.Z (a4.O hI.vd.size)) nR,.inl ⟨_,Zev a5 hmay,rfl⟩⟩;simp[results,Tryz.f315,go_sem,g1,g2,g3,Df]
     |false=>
      gi_wp2
      obtain⟨g1,g2,g3,_⟩:=F3 xR (OB (p:=.int .i64 0) (q:=.int .i64 0) (r:=.int .i64 0) a0);refine bodyPost_ret (v:=.tuple #[Df ⟨0,0,0⟩,.bool false]) ?_ rfl ⟨Nu (hI.vd.Z (a4.O hI.vd.size)) nR,.inr ⟨λu hu=>?_,rfl⟩⟩
      .simp[results,Tryz.f315,go_sem,g1,g2,g3,Df]
      .rw[QJ hu]at a5;have hm:=sq.vn.1 hu.1;simp only[ox,and_true]at a5;have i1:=QK hm.1.1 a5.1.H;have i2:=QK hm.2.1.1 a5.2.1.H;have i3:=QK hm.2.2.1 a5.2.2.H;subst i1 i2 i3;exact fu (hu.1.H.Z hmay) sI
 .gi_wp2_with (refine⟨trivial,?_⟩;gi_at_call 353;refine(callsIn_wide.2 b0).O ?_;rintro e w' ⟨rfl,rfl⟩)
  have a0:=World.alloc_heap_new w (.cells #[vi 0,vi 0,vi 0] 52);have b6:=FW a0 (.cells (P.map Value.string).toArray (Tryz.Ă.t 9));obtain⟨g1,g2,g3,_⟩:=F3 xR b6;refine bodyPost_ret (v:=.tuple #[Df ⟨0,0,0⟩,.bool false]) ?_ rfl ⟨((Below.refl _ w).alloc nR _).alloc sI _,.inr ⟨λu hu=>?_,rfl⟩⟩
  .simp[results,Tryz.f315,go_sem,g1,g2,g3,Df]
  .have:=kd List.length a7;rw[QJ hu,eh]at this;exact h3 this
end Go.Hal
namespace Go.Hal
def Ň:PU:=bm #[60,62,61,94,126]
set_option maxRecDepth 100000 in
def Zky(b:UInt8):Ň.data.toList.contains b=CS b:=by have:=Py (λb=>Ň.data.toList.contains b==CS b) (by decide+kernel) b;simpa using this
def Zmq{k:Ã}(hk:∀w',AI w w'->k (.string ⟨(s.data.toList.dropWhile CS).toArray⟩) w'):si prog 146 [.string s,.string Ň] w k:=by
 have h:=Any.strings_TrimLeft_laid Tryz.Xb4 kR s Ň w dC (ascii_of_all dC);have e:Lib.trimLeftS s.data.toList Ň.data.toList=s.data.toList.dropWhile CS:=by unfold Lib.trimLeftS;congr 1;funext b;exact Zky b
 rw[e]at h;exact h.O λe w' ⟨he,hb⟩=>⟨_,he,hk w' hb⟩
def Zn7{t:PU}(h1:t≠bm #[42])(h2:∀(g:Sign)(v:sq),yx (t.data.toList.dropWhile CS) v->t.data.toList.takeWhile CS≠g.text)(x:Rk): ¬wj t.data.toList x:=by
 generalize hl:t.data.toList=l at h2;intro hw;cases hw with
 |all=>exact h1 (by obtain⟨⟨a⟩⟩:=t;simp only at hl;rw[hl])
 |sign g hv=>obtain⟨s1,s2⟩:=OG (g:=g) hv;exact h2 g _ (by rwa [s2]) s1
def TA{q:PU}{l:LU}:q=⟨l.toArray⟩↔q.data.toList=l:=by
 constructor
 .rintro rfl;rfl
 .intro h;obtain⟨⟨a⟩⟩:=q;simp only at h;rw[h]
def Zn8{t:PU}{R:Int->Int->Á}(hg:Gl w)(hs:t.size<=4096)
  (a5:∀x w',wj t.data.toList x->AI w w'->R x.1 x.2 true w') (c3:∀w',(∀x,¬wj t.data.toList x)->AI w w'->R 0 0 false w'):MC t w R:=by
 refine An.intro λa w1 x1 b8 d3 _=>⟨λh=>?_,λh=>?_⟩
 .subst h;refine tj.intro b8 sI λw2 b2 _ b7=>⟨_,_,b7.at0 xR rfl,a5 (0,999999999) w2 .all (b2.U x1 oM)⟩
 have fin:∀{w':Qd} {lo hi:Int} {b:Bool},AI w1 w'->(∀a0,AI w a0->R lo hi b a0)->rp w' a [vi lo,vi hi] λa0=>∃(l h:Int),se a0 a [vi l,vi h]/\R l h b a0:=
  λhx hR=>tj.intro (b8.U hx) sI λw2 b2 _ b7=>⟨_,_,b7.at0 xR rfl,hR w2 (b2.U (x1.Z hx) oM)⟩
 refine Zmq λw2 x2=>⟨_,rfl,?_⟩;have b4:t.data.toList.takeWhile CS++t.data.toList.dropWhile CS=t.data.toList:=og;have a8:=Zn7 (t:=t) h;generalize hp:t.data.toList.takeWhile CS=p at b4 a8;generalize hr:t.data.toList.dropWhile CS=r at b4 a8 ⊢;have d2:t.size=p.length+r.length:=by rw[Lib.size_eq,<-b4,dx]
 have d0:(⟨r.toArray⟩:PU).size=r.length:=by rw[Lib.size_eq]
 have hc:si prog 315 [.string ⟨r.toArray⟩] w2 λu w3=>∃(v:sq) (b:Bool),u= .tuple #[Df v,.bool b]/\AI w2 w3/\(b=true->yx r v)/\(b=false->∀v,¬yx r v):=by
  refine Calls.O (callsIn_wide.1 (Znq 4 nR ⟨r.toArray⟩ oM w2 (hg.U (x1.Z x2)))) λe w3 ⟨x3,c4⟩=>?_;rcases c4 with⟨v,hv,rfl⟩|⟨c9,rfl⟩
  .exact⟨_,rfl,v,true,rfl,x3,λ_=>hv,nO⟩
  .exact⟨_,rfl,⟨0,0,0⟩,false,rfl,x3,λh=>(by cases h),λ_=>c9⟩
 refine Calls.O hc λe w3 ⟨u,he,v,b,hu,x3,hb,a9⟩=>⟨u,he,?_⟩;have c6:=x2.Z x3;refine⟨v.ma,v.mi,v.pa,b,hu,An.intro λa6 w4 x4 c7 d4 _=>tj.intro c7 sI λw5 b5 _ b0=>⟨_,_,_,b0.at0 xR rfl,FP.V (MN (v:=v) λw6 x6=>⟨_,_,rfl,v.pa,b0.at1 x6 rfl,v.mi,b0.at1 x6 rfl,λb6=>?_,λb6=>?_⟩)⟩⟩
 .have d1:=b6;have b9:b=false:=by simpa using b6
  have a4:AI w1 w6:=(c6.Z (b5.U x4 oM)).Z x6;refine fin a4 λa0 hx=>c3 a0 (λx=>a8 (λg v' c5=>(a9 b9 v' c5).F) x) hx
 .have c8:b=true:=by simpa using b6
  have hv:=hb c8;have a4:AI w1 w6:=(c6.Z (b5.U x4 oM)).Z x6;have d5:=sq.Ĕ (v:=v);have hm:=sq.vn.1 hv.1;have hk:Aa ((t.size:Int) - ((⟨r.toArray⟩:PU).size:Int))=p.length:=by rw[d0,d2,Ai oM oM];omega
  rw[hk];have hq:t.extract 0 (p.length:Int).toNat=⟨p.toArray⟩:=by rw[TA,fa,Lib.extract_from_zero,<-b4,pf]
  rw[hq];have hw:∀g:Sign,p=g.text->wj t.data.toList (g.ĉ v):=λg e=>by rw[<-b4,e];exact .sign g hv
  have eq:∀l:LU,((⟨p.toArray⟩:PU)=⟨l.toArray⟩)↔p=l:=λl=>TA;have e1:=Ai (x:=v.W - 1) oM oM;have e2:=Ai (x:=v.W+1) oM oM;have e3:=Ai (x:=v.W - v.pa) oM oM;have e4:=Ai (x:=v.W - v.pa+999) oM oM;have e5:=Ai (x:=999 - v.mi) oM oM;have e6:=Ai (x:=(999 - v.mi)*1000) oM oM;have e7:=Ai (x:=v.W - v.pa+999+(999 - v.mi)*1000) oM oM;rw[e1,e2,e3,e4,e5,e6,e7];refine⟨⟨oM,oM⟩,join.named λΓ hJ=>?_⟩;have key:∀b':Bool,(b'=true->p=[]\/p= [61])->(b'=false->p≠[]/\p≠ [61])->Γ b' w6:=λb' ht hf=>by
   subst hJ;refine⟨λa9=>fin a4 λa0 hx=>?_,λa9=>⟨λh1=>?_,λh1=>⟨λh2=>?_,λh2=>⟨λh3=>?_,λh3=>⟨λh4=>?_,λh4=>⟨λh5=>?_,λh5=>⟨λh6=>?_,λh6=>?_⟩⟩⟩⟩⟩⟩⟩
   .obtain h1|h1:=ht a9
    .exact a5 _ a0 (hw .none h1) hx
    .exact a5 _ a0 (hw .eq h1) hx
   .exact fin a4 λa0 hx=>a5 _ a0 (hw .lt ((eq _).1 h1)) hx
   .exact fin a4 λa0 hx=>a5 _ a0 (hw .le ((eq _).1 h2)) hx
   .exact fin a4 λa0 hx=>a5 _ a0 (hw .gt ((eq _).1 h3)) hx
   .exact fin a4 λa0 hx=>a5 _ a0 (hw .ge ((eq _).1 h4)) hx
   .exact fin a4 λa0 hx=>a5 _ a0 (hw .tilde ((eq _).1 h5)) hx
   .have a7:=hw .caret ((eq _).1 h6);simp only[Sign.ĉ]at a7;refine⟨v.ma,b0.at0 x6 rfl,λg1=>?_,λg1=>⟨v.mi,b0.at1 x6 rfl,λg2=>?_,λg2=>?_⟩⟩
    .rw[fo g1]at a7;exact fin a4 λa0 hx=>a5 _ a0 a7 hx
    .rw[fb g1,fo g2]at a7;exact fin a4 λa0 hx=>a5 _ a0 a7 hx
    .rw[fb g1,fb g2]at a7;exact fin a4 λa0 hx=>a5 _ a0 a7 hx
   .obtain⟨n1,n2⟩:=hf a9;refine fin a4 λa0 hx=>c3 a0 (λx=>a8 (λg v' c5 e=>?_) x) hx;cases g with
    |none=>exact n1 e
    |eq=>exact n2 e
    |lt=>exact h1 ((eq _).2 e)
    |le=>exact h2 ((eq _).2 e)
    |gt=>exact h3 ((eq _).2 e)
    |ge=>exact h4 ((eq _).2 e)
    |tilde=>exact h5 ((eq _).2 e)
    |caret=>exact h6 ((eq _).2 e)
  refine⟨λh1=>key _ (λ_=> .inl ((eq []).1 h1)) (λh2=>?_),λh1=>key _ (λh2=>.inr ((eq [61]).1 (AA.1 h2))) (λh2=>⟨λe=>h1 ((eq []).2 e),λe=>Ns.1 h2 ((eq [61]).2 e)⟩)⟩;exact fu h1 (Ns.1 h2)
def Zn6(hg:Gl w):Tl w:=λt W _ hs hx=>by
 have h:si prog 263 [.string t] W λu w'=>AI W w'/\((∃x:Rk,wj t.data.toList x/\u= .tuple #[.agg #[vi x.1,vi x.2],.bool true])\/((∀x,¬wj t.data.toList x)/\u= .tuple #[.agg #[vi 0,vi 0],.bool false])):=
  MC.V (Zn8 (hg.U hx) hs (λx w' hw a0=>⟨a0,.inl ⟨x,hw,rfl⟩⟩) λw' hn a0=>⟨a0,.inr ⟨hn,rfl⟩⟩)
 refine Calls.O h λe w' ⟨u,he,a0,hu⟩=>⟨a0,?_⟩;subst he;exact hu.imp (λ⟨x,h1,h2⟩=>⟨x,h1,by rw[h2]⟩) λ⟨h1,h2⟩=>⟨h1,by rw[h2]⟩
attribute [local go_sem] Oper.semAt_some
set_option maxRecDepth 100000 in
def Zh4(n:Nat)(text:PU)(w:Qd)(a0: ¬text.size<=4096):CallsIn Fence.wide n prog 173 #[.string text] w (Pn w text):=by
 refine callsIn_of_wp_marks func173 rfl trivial ?_ rfl;simp only[Tryz.ntmps173,jm,gb,ip,Nat.reduceAdd,Nat.reduceSub,mc,mb,my,mg,iz,io];have a4:(4096:Int)<(text.size:Int):=oM;have b0:=Boxed.new w 132 Bq;have b1:=Boxed.new (w.alloc (.cells #[Bq] 132)) 44 (vi 0);simp only[World.size_alloc]at b1;have c0:=(b0.alloc (.cells #[vi 0] 44)).cell;have f0:=(b0.alloc (.cells #[vi 0] 44)).frozen;have c1:=b1.cell;have f1:=b1.frozen;have a5:=b0.alloc (.cells #[vi 0] 44)
 gi_wp2
 have e0:=(Boxed.new w 132 Bq).alloc (.cells #[vi 21] 44);have e1:=Boxed.new (w.alloc (.cells #[Bq] 132)) 44 (vi 21);simp only[World.size_alloc]at e1;have d1:=e0.cell;have d2:=e1.cell;unfold Bq at d1 d2;have hb:Below w.heap.size w ((w.alloc (.cells #[Bq] 132)).alloc (.cells #[vi 21] 44)):=((Below.refl _ w).alloc nR _).alloc sI _;refine⟨.tuple #[Bq,vi 21],?_,hb,Sl.nil,21,rfl,.inl ⟨rfl,rfl,λh=>a0 h.1⟩⟩;simp[results,Tryz.f173,go_sem,d1,d2,Bq]
def Zln{text:PU}{K:Ã}(hg:Gl w)(a4:∀w',¬GH text.data.toList->AI w w'->K (.tuple #[Sl.nil.v,vi 21]) w')
  (a0:∀l w',yi text.data.toList l->64<l.length->AI w w'->K (.tuple #[Sl.nil.v,vi 26]) w')
  (a6:∀l s w',yi text.data.toList l->l.length<=64->AI w w'->IT ui w' (λb=>w.heap.size<=b/\b<w'.heap.size) s (BU l)->K (.tuple #[Sl.v s,vi 0]) w'):
  si prog 173 [.string text] w K:=by
 have h:Calls prog 173 #[.string text] w (Pn w text):=by
  by_cases hs:text.size<=4096
  .obtain⟨m,hm⟩:=hg.mx;exact callsIn_wide.1 (Zh3 12 nR text w hs m hm (Zn6 hg) trivial)
  .exact callsIn_wide.1 (Zh4 12 text w hs)
 refine Calls.O h λe w' ⟨hx,s,er,he,hr⟩=>⟨_,he,?_⟩;rcases hr with⟨rfl,rfl,hn⟩|⟨hs,l,m,hA,hp,a5,⟨rfl,rfl,hl⟩|⟨rfl,hl,a7⟩⟩
 .exact a4 w' (λh=>hn ((R3 _).2 h)) hx
 .exact a0 _ w' (hA.range hs hp a5) hl hx
 .exact a6 _ s w' (hA.range hs hp a5) hl hx a7
end Go.Hal
namespace Go.Hal
inductive yo (t:PU):Option (Λ)->Prop
 |bad: ¬GH t.data.toList->yo t none
 |full {l:Μ}:yi t.data.toList l->64<l.length->yo t none
 |empty:yi t.data.toList []->yo t none
 |ok {l:Μ}:yi t.data.toList l->l≠[]->l.length<=64->yo t (some (BU l))
def yo.one{t:PU}{r':Option (Λ)}(h:yo t r)(h':yo t r'):r=r':=by
 cases h with
 |bad h1=>
  cases h' with
  |bad=>rfl
  |full=>rfl
  |empty=>rfl
  |ok k1=>exact fu k1.ok h1
 |full h1 h2=>
  cases h' with
  |bad=>rfl
  |full=>rfl
  |empty=>rfl
  |ok k1 k2 k3=>rw[h1.one k1]at h2;omega
 |empty h1=>
  cases h' with
  |bad=>rfl
  |full=>rfl
  |empty=>rfl
  |ok k1 k2 k3=>exact fu (k1.one h1) k2
 |ok h1 h2 h3=>
  cases h' with
  |bad k1=>exact fu h1.ok k1
  |full k1 k2=>rw[k1.one h1]at k2;omega
  |empty k1=>exact fu (h1.one k1) h2
  |ok k1 k2 k3=>rw[h1.one k1]
def Va{ps:List PU}(h:∀t∈ps,t.size≠0->∃a,wj t.data.toList a):∀k,k<=ps.length->∃x b,Ź ps k x b
 |0,_=>⟨_,_,Ź.start ps⟩
 |k+1,hk=>by
  obtain⟨x,b,hi⟩:=Va h k oM;by_cases h0:ps[k].size=0
  .exact⟨_,_,hi.skip oM h0⟩
  .obtain⟨a,ha⟩:=h _ (fm oM) h0;exact⟨_,_,hi.xo oM h0 ha⟩
def UY{ps:List PU}(h:∀a∈ps,G9 a):∀k,k<=ps.length->∃l,Ÿ ps k l
 |0,_=>⟨_,Ÿ.start ps⟩
 |k+1,hk=>by
  obtain⟨l,hl⟩:=UY h k oM;have ha:=h _ (fm (l:=ps) (n:=k) oM);obtain⟨x,b,hx⟩:=Va ha.2 _ nR;have hb:b=true:=hx.some.2 (by rw[fe];exact ha.1);subst hb;have hs:=hl.step oM hx;by_cases a0:x.1<=x.2
  .exact⟨_,hs.1 a0⟩
  .exact⟨_,hs.2 a0⟩
def Zja{t:PU}(h:GH t.data.toList):∃l,yi t.data.toList l:=by
 have hb:=(R3 t).2 h;obtain⟨l,hl⟩:=UY hb.2 _ nR;refine⟨_,hl.range hb.1 (m:=l.mergeSort λa b=>decide (a.1<=b.1)) (List.mergeSort_perm _ _) ?_⟩;unfold Ez;refine(List.pairwise_mergeSort (le:=λa b:Rk=>decide (a.1<=b.1)) (λa b c h1 h2=>?_) (λa b=>?_) l).imp λh=>by simpa using h
 .simp at h1 h2 ⊢;omega
 .simp;omega
def yo.ex(t:PU):∃r,yo t r:=by
 by_cases h:GH t.data.toList
 .obtain⟨l,hl⟩:=Zja h;by_cases h1:64<l.length
  .exact⟨_,.full hl h1⟩
  .by_cases h2:l=[]
   .subst h2;exact⟨_,.empty hl⟩
   .exact⟨_,.ok hl h2 oM⟩
 .exact⟨_,.bad h⟩
def Õ{α:Type}(T:LN)(f:α->LV)(w:Qd)(g:Nat)(l:List α)(tail:LV):Prop:=w.heap[g]?=some (.cells ((l.map f).flatten++tail).toArray T (0,0))
section
variable {α:Type} {T:LN} {f:α->LV} {k g:Nat} {w w':Qd} {l:List α} {tail:LV}
def Õ.row(h:Õ T f w g l tail):tm f w g l tail:=⟨T,rfl,rfl,h⟩
def Õ.U(h:Õ T f w g l tail)(hx:AI w w'):Õ T f w' g l tail:=(hx.block (fg.1 h).1).Z h
def rp.Û{a:LP}{o:Nat}{tf:LV}(hb:zq T w a tf)(hl:o+cs.length<=tf.length)
  (h:∀w',ur a.block w w'->w'.heap.size=w.heap.size->zq T w' a (tf.take o++cs++tf.drop (o+cs.length))->K w'):rp w (a.add o) cs K:=by
 obtain⟨ho,hs,hh⟩:=hb;obtain⟨b,of,sp⟩:=a;simp only at ho hs hh;subst ho hs;have ha:(Addr.add ⟨b,0,none⟩ o)=⟨b,o,none⟩:=by unfold Addr.add;split<;>simp_all
 rw[ha];refine⟨_,T,hh,rfl,by simpa using hl,h _ ⟨?_,rfl,rfl,rfl,λc hc a0=>setRow_other w b c _ a0⟩ ?_ ⟨rfl,rfl,?_⟩⟩
 .simp[World.setRow]
 .simp[World.setRow]
 .rw[setRow_heap w b tf.toArray _ T _ hh];simp[D0]
def Õ.st(hk:∀x,(f x).length=k)(h:Õ T f w g l tail)(hi:i<l.length){x:α}(hK:∀w',ur g w w'->Õ T f w' g (l.set i x) tail->K w'):rp w ((⟨g,0,none⟩:LP).add (i*k)) (f x) K:=by
 have a0:=Q5 hk hi;have e:=Ky (f:=f) i hi tail;refine rp.Û (T:=T) (o:=i*k) (tf:=(l.map f).flatten++tail) ⟨rfl,rfl,h⟩ (by rw[e,hk];simp only[dx,a0,hk];omega) λw' hb hs hx=>hK w' hb ?_;have e2:=Ky (f:=f) (l:=l.set i x) i (by simpa using hi) tail;have e3:((l.map f).flatten++tail).take (i*k)++f x++((l.map f).flatten++tail).drop (i*k+(f x).length)=((l.set i x).map f).flatten++tail:=by
  rw[e2,e,hk];have t1:(((l.take i).map f).flatten++f l[i]++(((l.drop (i+1)).map f).flatten++tail)).take (i*k)=((l.take i).map f).flatten:=by rw[fh,nj (by rw[a0];exact ga _),ia (by rw[a0];exact ga _)]
  have t2:(((l.take i).map f).flatten++f l[i]++(((l.drop (i+1)).map f).flatten++tail)).drop (i*k+k)=((l.drop (i+1)).map f).flatten++tail:=by rw[mj (by simp only[dx,a0,hk];omega),kl (by simp only[dx,a0,hk];omega),iz]
  have t3:(l.set i x).take i=l.take i:=by rw[qa nR]
  have t4:(l.set i x).drop (i+1)=l.drop (i+1):=by rw[qc oM]
  rw[t1,t2,t3,t4,pb]
 unfold Õ;rw[<-e3];exact hx.2.2
end
def ZD{P:LD}{e ty:LN}{n k:Nat}(ht:P.underlying t=some (.slice e))(hv:∀w,(zeroValue e).run P w= .ok z w)(hz:z.cells.size=k)(h1:∀v∈z.cells,v.oneCell'=true){g o c:Nat}{front back:LV}(ho:front.length=o)(hn:n*k<=back.length){T:LN}(hB:zq T w ⟨g,0,none⟩ (front++back))
  {K:Ã} (hK:∀w' a0,ur g w w'->zq T w' ⟨g,0,none⟩ (front++a0)->a0.length=back.length->K (.tuple #[]) w'):wx P (Builtin.clear_ #[t] ty #[.slice (some ⟨g,o,none⟩) n c]) w K:=by
 obtain⟨_,_,hb⟩:=hB;simp only at hb;have a8:=(fg.1 hb).1;cases n with
 |zero=>refine⟨_,w,?_,hK w back ⟨ga _,rfl,rfl,rfl,λ_ _ _=>rfl⟩ ⟨rfl,rfl,hb⟩ rfl⟩;simp[Builtin.clear_,run_underlying ht,Sem.run_bind,Result.andThen]
 |succ n=>
  have a4:(Builtin.zeroCells z.cells (n+1)).toList.length=(n+1)*k:=by rw[Ym,hz]
  have a5:=run_storeCells_at (P:=P) g o T (Builtin.zeroCells z.cells (n+1)).toList 0 (front++back).toArray w hb (by rw[a4,jm,dx];omega) (Yn h1 _);generalize hA:(List.take (o+0) (front++back).toArray.toList++(Builtin.zeroCells z.cells (n+1)).toList++List.drop (o+0+(Builtin.zeroCells z.cells (n+1)).toList.length) (front++back).toArray.toList).toArray=A at a5;refine⟨.tuple #[],w.setRow g A,?_,hK (w.setRow g A) ((Builtin.zeroCells z.cells (n+1)).toList++back.drop ((n+1)*k)) ⟨by simp[World.setRow],rfl,rfl,rfl,λb a7 a6=>setRow_other w g b _ a6⟩ ⟨rfl,rfl,?_⟩ ?_⟩
  .simp[Builtin.clear_,run_underlying ht,hv,Sem.run_bind,Result.andThen,a5]
  .rw[setRow_heap w g (front++back).toArray A T _ hb,<-hA];simp only[lq,a4,ff,Obj.cells.injEq,and_true];rw[<-ho,pf];simp[List.drop_append]
  .rw[dx,a4,gq];omega
def Æ{α:Type}(T:LN)(f:α->LV)(k:Nat)(w:Qd)(lo:Nat)(s:Sl)(l:List α):Prop:=w.ownsRow lo T k s.v s.len ((l.map f).flatten)/\s.len=l.length
section
variable {α:Type} {T:LN} {f:α->LV} {k lo:Nat} {w w':Qd} {s:Sl} {l:List α}
def Æ.cases(h:Æ T f k w lo s l):(s=Sl.nil/\l=[])\/∃g tail,s.a=some ⟨g,0,none⟩/\lo<=g/\Õ T f w g l tail/\l.length<=s.cap/\s.cap<=maxLen/\((l.map f).flatten++tail).length=s.cap*k:=by
 obtain⟨ho,hl⟩:=h;obtain⟨a,n,c⟩:=s;simp only at hl;rcases ho.2 with⟨hv,hn⟩|⟨g,cap,a0,hv,hg,hh,hc,hm,a4,ht⟩
 .simp only[Sl.v,Value.slice.injEq]at hv;simp only at hn;obtain⟨rfl,rfl,rfl⟩:=hv;exact .inl ⟨rfl,fq hl.H⟩
 .simp only[Sl.v,Value.slice.injEq]at hv;obtain⟨rfl,_,rfl⟩:=hv;have e:(l.map f).flatten++a0.toList.drop (n*k)=a0.toList:=by rw[<-ht];exact gk _ _
  refine .inr ⟨g,a0.toList.drop (n*k),rfl,hg,?_,by rwa [<-hl],hm,by rwa [e,kx]⟩;unfold Õ;rwa [e,mr]
def Æ.mk{g:Nat}{tail:LV}(hk:∀x,(f x).length=k)(ha:s.a=some ⟨g,0,none⟩)(hg:lo<=g)(hr:Õ T f w g l tail)(hl:s.len=l.length)(hc:l.length<=s.cap)(hm:s.cap<=maxLen)(ht:((l.map f).flatten++tail).length=s.cap*k):Æ T f k w lo s l:=by
 have a0:=CO f hk l;refine⟨⟨by rw[a0,hl],.inr ⟨g,s.cap,((l.map f).flatten++tail).toArray,?_,hg,hr,by rwa [hl],hm,by rwa [jm],?_⟩⟩,hl⟩
 .unfold Sl.v;rw[ha]
 .rw[hl,<-a0,pf]
def Æ.flat(h:Æ T f k w lo s l)(hb:l.length*bytes<=Ab):tk f bytes w lo s l:=by
 have hl:=h.2;rcases h.cases with⟨rfl,rfl⟩|⟨g,tail,ha,hg,hr,hc,hm,_⟩
 .exact⟨rfl,ga _,im _,hb,.inl rfl⟩
 .exact⟨hl,hc,hm,hb,.inr ⟨g,tail,ha,hg,hr.row⟩⟩
def Æ.U(h:Æ T f k w lo s l)(hx:AI w w'):Æ T f k w' lo s l:=⟨⟨h.1.1,h.1.2.imp id λ⟨g,cap,a0,h1,h2,h3,h4⟩=>⟨g,cap,a0,h1,h2,(hx.block (fg.1 h3).1).Z h3,h4⟩⟩,h.2⟩
def Æ.low(h:Æ T f k w lo s l)(hl:lo'<=lo):Æ T f k w lo' s l:=⟨⟨h.1.1,h.1.2.imp id λ⟨g,cap,a0,h1,h2,h3⟩=>⟨g,cap,a0,h1,fl hl h2,h3⟩⟩,h.2⟩
end
abbrev Bo:=PU×Sl
def yb(x:Bo):LV:=[.string x.1,x.2.v]
instance:Inhabited Bo:=⟨(⟨#[]⟩,Sl.nil)⟩
def Io:xh Bo:=DS 2 40 yb (λ_=>True) (λ_=>rfl) (λx v hv=>by simp[yb,Sl.v]at hv;rcases hv with rfl|rfl<;>rfl)
def ę{s:Sl}{l:List Bo}{p:Bo->Bool}{R:À}(hs:IT Io w S s l)(hf:Fw f (λx=>.agg #[.string x.1,x.2.v]) p l w)
  (hR:∀w',AI w w'->R (AX p l) w'):Jk s f w R:=by
 unfold Jk;have hl:=hs.len;refine rn.up hs.max (λi w'=>AI w w'/\(l.take i).any p=false) ⟨AI.refl _,rfl⟩ λi w1 a6 hi ⟨x1,hI⟩ hn=>⟨λa4=>?_,λa5=>?_⟩
 .have a0:i<l.length:=oM;obtain⟨ad,cs,ha,_,⟨rfl,_⟩,hc⟩:=hs.el a0;refine⟨ad,⟨ha,oM,a4⟩,_,_,hc _ xT,hf _ (fm a0) _ _ x1 λw2 x2=>⟨_,rfl,λh=>?_,λh=>?_⟩⟩
  .rw[<-FA a0 hI h];exact hR _ xT
  .exact hn a0 _ ⟨xT,by rwa [FL a0 hI]⟩
 .have:i=l.length:=oM;rw[this,fe]at hI;rw[<-EQ hI];exact hR _ xT
def ZL{s:Sl}{l:List Bo}{p:Bo->Bool}{R:Á}(hs:IT Io w S s l)(hf:Fw f (λx=>.agg #[.string x.1,x.2.v]) p l w)
  (hR:∀w',AI w w'->R (l.any p) w'):Mm s f w R:=by
 unfold Mm;exact Jk.V (ę hs hf λw' hx=>⟨_,rfl,by rw[F9];exact hR _ hx⟩)
def Zod:∀w,(zeroValue 187).run prog w= .ok (.agg #[.string Ϣ,.slice none 0 0]) w:=λw=>by kernel_rfl
def Zai{s:Sl}{l:List Bo}{d:Bo->Bool}(h:Æ 187 yb 2 w lo s l)(a7:lo<=w.heap.size)(b7:l.length*40<=Ab)
  (hf:∀x∈l,∀w' (k:Ã),Below lo w w'->(∀ad,s.a=some ad->ur ad.block w w')->(s.a=none->AI w w')->(∀d1,AI w' d1->k (.bool (d x)) d1)->ug prog f [.agg #[.string x.1,x.2.v]] w' k)
  (hR:∀t w',Below lo w w'->(∀ad,s.a=some ad->ur ad.block w w')->(s.a=none->AI w w')->(∀ad,t.a=some ad->∃c5,s.a=some c5/\ad.block=c5.block)->Æ 187 yb 2 w' lo t (l.filter λx=>!d x)->R t w'):Mo s f w R:=by
 unfold Mo;have hF:=h.flat b7;have hs:=hF.I (E:=Io) (λ_=>rfl) (λ_ _ x hx=>⟨rfl,trivial⟩);refine Jk.V (ę (p:=d) hs (λx hx w' k b8 hk=>hf x hx w' k (Below.O b8 a7) (λ_ _=>b8.J _) (λ_=>b8) hk) λw1 x1=>⟨_,rfl,λh1=>?_,λh1=>?_⟩)
 .have:l.any d=false:=by rw[<-F9,h1];decide
  exact hR s w1 (Below.O x1 a7) (λad _=>x1.J _) (λ_=>x1) (λad h=>⟨ad,h,rfl⟩) (by rw[Iy this];exact h.U x1)
 obtain⟨n,hn,e,ht,hp⟩:=KK h1;rw[e];obtain⟨k1,k2,k3,k4,k5⟩:=hF;obtain⟨g,tail,ha,hg,hr,_,_,d6⟩:∃g tail,s.a=some ⟨g,0,none⟩/\lo<=g/\Õ 187 yb w g l tail/\l.length<=s.cap/\s.cap<=maxLen/\((l.map yb).flatten++tail).length=s.cap*2:=by
  rcases h.cases with⟨_,k5⟩|k5
  .subst k5;simp at hn
  .exact k5
 have hk:∀x:Bo,(yb x).length=2:=λ_=>rfl;have c7:(l.take (n+1)).filter (λx=>!d x)=l.take n:=by rw[dz hn,kr,Iy ht];simp[hp]
 rw[Ai oM (by unfold Ab at k4;omega)];refine⟨λi j w'=>∃(i' j':Nat) (z:List Bo),i=(i':Int)/\j=(j':Int)/\i'<j'/\j'<=l.length/\z.length=l.length/\i'=((l.take j').filter λx=>!d x).length/\z.take i'=(l.take j').filter (λx=>!d x)/\z.drop j'=l.drop j'/\ur g w w'/\Õ 187 yb w' g z tail,
  λ_ j _=>l.length - j.toNat,⟨n,n+1,l,rfl,oM,oM,oM,rfl,by rw[c7,fk];omega,by rw[c7],rfl,x1.J g,hr.U x1⟩,?_⟩
 rintro _ _ w2 ⟨i,j,z,rfl,rfl,d3,hj,b9,hi,a6,d0,b2,a5⟩;refine⟨λe3=>join.named λΓ hJ=>?_,λe0=>?_⟩
 .have a0:j<l.length:=oM;have ej:Aa ((j:Int)+1)=((j+1:Nat):Int):=by rw[Ai oM (by unfold Ab at k4;omega)];omega
  have a8:z.drop (j+1)=l.drop (j+1):=by rw[<-lh,d0,lh]
  have c8:(l.take (j+1)).filter (λx=>!d x)=(l.take j).filter (λx=>!d x)++[l[j]].filter (λx=>!d x):=by rw[dz a0,kr]
  have kJ:∀(i':Nat)(w':Qd)(z':List Bo),i'<j+1->z'.length=l.length->z'.take i'=(l.take (j+1)).filter (λx=>!d x)->z'.drop (j+1)=l.drop (j+1)->ur g w w'->Õ 187 yb w' g z' tail->Γ (i':Int) w':=λi' w' z' q1 q2 q3 q4 q5 q6=>by subst hJ;show _/\_;rw[ej];exact⟨⟨i',j+1,z',rfl,rfl,q1,oM,q2,by rw[<-q3,fk];omega,q3,q4,q5,q6⟩,by show _ - Int.toNat _<_ - Int.toNat _;omega⟩
  clear hJ;have d7:z[j]?=some l[j]:=by have h1:z[j]?=(z.drop j)[0]? :=(by rw[mo,lq]);rw[h1,d0,mo,lq];exact dw a0
  refine⟨_,⟨ha,oM,oM⟩,_,_,a5.row.Ě hk d7,An.intro λa w3 x3 a9 d8 _=>tj.intro a9 sI λw4 b4 _ c6=>⟨_,_,c6.se.pre rfl,?_⟩⟩;have c3:AI w2 w4:=b4.U x3 oM;have s2:=b2.1;have hm:l[j]∈l:=fm a0;refine hf _ hm w4 _ ((b2.Z (c3.J g)).below a7 hg) (λad h=>by rw[ha]at h;cases h;exact b2.Z (c3.J g)) (λh=>by rw[ha]at h;cases h) λw5 x5=>⟨_,rfl,λhd=>?_,λhd=>?_⟩
  all_goals
   have c4:=c3.Z x5;have s5:=c4.size;have b5:ur g w w5:=b2.Z (c4.J g);have c9:=a5.U c4
  .have b0:d l[j]=false:=(by simpa using hd);refine⟨_,_,(c6.U x5).se.pre rfl,_,⟨ha,oM,oM⟩,c9.st hk (i:=i) (x:=l[j]) oM λw6 b6 d4=>?_⟩;have ei:Aa ((i:Int)+1)=((i+1:Nat):Int):=by rw[Ai oM (by unfold Ab at k4;omega)];omega
   rw[ei];refine kJ (i+1) w6 _ oM (by rw[jp,b9]) ?_ (by rw[qc oM,a8]) (b5.Z b6) d4;rw[c8,<-a6,dz (by rw[jp];omega),qa nR,pb];simp[b0]
  .have b0:d l[j]=true:=(by simpa using hd);refine kJ i w5 z oM b9 ?_ a8 b5 c9;rw[c8,<-a6];simp[b0]
 .have a0:j=l.length:=oM;subst a0;rw[fe]at a6 hi;have e2:i<l.length:=d3;have e1:(Sl.cut s (i:Int).toNat s.len 2).v= .slice (some ⟨g,i*2,none⟩) (l.length - i) (s.cap - i):=by unfold Sl.cut Sl.v;rw[fa,fb oM,ha,k1];simp only[ir,GL]
  rw[e1];refine⟨⟨oM,oM⟩,?_⟩;have d5:(z.map yb).flatten++tail=((z.take i).map yb).flatten++(((z.drop i).map yb).flatten++tail):=by
   conv=>lhs;rw[<-gk i z]
   rw[gd,kw,fh]
  have a4:((z.map yb).flatten++tail).length=s.cap*2:=by rw[<-d6,dx,dx,CO _ hk,CO _ hk,b9]
  unfold Õ at a5;rw[d5]at a5 a4;refine ZD (k:=2) underlying32 Zod rfl (λv hv=>by simp[Value.cells]at hv;rcases hv with rfl|rfl<;>rfl) (by rw[CO _ hk,fk];omega) (by rw[dx,CO _ hk,gq];omega) ⟨rfl,rfl,a5⟩ λw3 back b3 a9 d2=>⟨⟨oM,oM⟩,?_⟩;have s2:=b2.1;refine hR _ w3 ((b2.Z b3).below a7 hg) (λad h=>by rw[ha]at h;cases h;exact b2.Z b3) (λh=>by rw[ha]at h;cases h) (λad h=>⟨_,ha,by unfold Sl.cut at h;simp only[ha]at h;split at h<;>cases h<;>rfl⟩) ?_;have d9:(l.filter λx=>!d x).length<=l.length:=jo _ _;refine Æ.mk (g:=g) (tail:=back) hk ?_ hg ?_ (by unfold Sl.cut;simp;exact hi) (by unfold Sl.cut;show _<=s.cap - 0;omega) (by unfold Sl.cut;show s.cap - 0<=_;omega) ?_
  .show(if _ then _ else _)=_;split
   .exact ha
   .rw[ha,mw];rfl
  .unfold Õ;rw[<-a6];exact a9.2.2
  .show _=(s.cap - 0)*2;rw[rj,<-a6,<-a4,dx,dx,d2]
end Go.Hal
/-
 DERIVED:THE SHELF's CONTRACTS AT THIS DUMP,IN PLAIN WORDS (tools/lay-plain.mjs rv of 'YtgolaibmophnjaaGreatDoorLayD.lean',which tools/lay-shelf.mjs wrote):THE SAME DECLARATIONS UNDER THE SAME NAMES:'import','namespace','open','def','theorem' AND NOTHING ELSE:no command of the shelf's:FOR A HAND-IN. Each laying:the table of numbers ('.._ren') and one theorem,a field a fact of the dump's ux or the kernel's comparison;each contract:ONE APPLICATION.
-/
namespace Go.Proofs
def Tryz.Xad:Go.Shelf.Ren:=⟨λ|6=>178|15=>106|14=>268|28=>171|29=>172|20=>320|21=>321|22=>322|23=>323|24=>324|25=>325|26=>326|27=>327|46=>358|47=>258|48=>259|49=>359|50=>360|57=>385|n=>n,λ|22=>32|24=>187|25=>258|3=>3|39=>185|0=>0|53=>249|55=>251|4=>4|46=>242|45=>241|50=>246|5=>5|9=>9|66=>317|70=>321|76=>366|77=>367|n=>n,λ|n=>n⟩
def Tryz.Xbx:Go.Proofs.SlLaysF0.n6 prog Tryz.Xad:=by repeat' first|kernel_rfl|exact Fz kR kR|(intro w;kernel_rfl)|constructor
end Go.Proofs
namespace Go.Hal
structure wg where
 op:Int
 Y:PU
 range:PU
 ss:Int
 td:PU
 n:Int
structure yr where
 m:vu
 OF:Η
 ry:Bool
 IN:Bool
def Hn(n:PU)(d:uf):Bool:=decide (d.Y=n)
def BB(l:Ι)(n:PU):Ι:=l.filter λd=>!Hn n d
def CA(l:Ι)(n:PU):Bool:=l.any (Hn n)
def xq(l:Ι)(d:uf):Ι:=
 let k:=BB l d.Y
 k.takeWhile (λx=>Ak x.Y d.Y)++d::k.dropWhile (λx=>Ak x.Y d.Y)
def JH(m:vu)(n:PU):vu:=⟨BB m.sj n,BB m.uo n,BB m.ut n,m.ru⟩
def Fx(m:vu)(k:Int)(d:uf):vu:=
 let b:=JH m d.Y
 if k=0 then⟨xq b.sj d,b.uo,b.ut,b.ru⟩else if k=1 then⟨b.sj,xq b.uo d,b.ut,b.ru⟩else⟨b.sj,b.uo,xq b.ut d,b.ru⟩
inductive wv (m:vu) (OF:Η) (IN:Bool) (x:wg) (r:Option (Λ)):Int->yr->Prop
 |ē:x.op=2->wv m OF IN x r 0 ⟨m,[],false,false⟩
 |ť {j:yr}:x.op=3->Ad x.Y=false->wv m OF IN x r 23 j
 |addRange {j:yr}:x.op=3->Ad x.Y=true->r=none->wv m OF IN x r 21 j
 |Ť {j:yr} {l:Λ}:x.op=3->Ad x.Y=true->r=some l->(x.ss<0\/2<x.ss)->wv m OF IN x r 1 j
 |ţ {j:yr} {l:Λ}:x.op=3->Ad x.Y=true->r=some l->0<=x.ss->x.ss<=2->AV (Fx m x.ss ⟨x.Y,l⟩)=false->wv m OF IN x r 26 j
 |add {l:Λ}:x.op=3->Ad x.Y=true->r=some l->0<=x.ss->x.ss<=2->AV (Fx m x.ss ⟨x.Y,l⟩)=true->wv m OF IN x r 0 ⟨Fx m x.ss ⟨x.Y,l⟩,OF,true,IN&& !decide (x.ss=1)⟩
 |ů {j:yr}:x.op=4->Ad x.Y=false->wv m OF IN x r 23 j
 |Ű {j:yr}:x.op=4->Ad x.Y=true->(CA m.sj x.Y||(CA m.uo x.Y||CA m.ut x.Y))=false->wv m OF IN x r 50 j
 |rem:x.op=4->Ad x.Y=true->(CA m.sj x.Y||(CA m.uo x.Y||CA m.ut x.Y))=true->wv m OF IN x r 0 ⟨JH m x.Y,OF,true,IN⟩
 |Š:x.op=5->x.Y=⟨#[]⟩->wv m OF IN x r 0 ⟨m,[],true,IN⟩
 |Ŵ {j:yr}:x.op=5->x.Y≠⟨#[]⟩->Ad x.Y=false->wv m OF IN x r 23 j
 |ŵ {j:yr}:x.op=5->x.Y≠⟨#[]⟩->Ad x.Y=true->OF.any (As x.Y)=false->wv m OF IN x r 50 j
 |upd:x.op=5->x.Y≠⟨#[]⟩->Ad x.Y=true->OF.any (As x.Y)=true->wv m OF IN x r 0 ⟨m,OF.filter (λp=>!As x.Y p),true,IN⟩
 |Ŕ:x.op=6->wv m OF IN x r 0 ⟨m,OF,false,IN⟩
 |prune:x.op=7->wv m OF IN x r 0 ⟨m,OF,true,true⟩
 |Xa8 {j:yr}:x.op=8->Ad x.Y=false->wv m OF IN x r 23 j
 |Xba {j:yr}:x.op=8->Ad x.Y=true->x.range=⟨#[]⟩->CA m.ru x.Y=false->wv m OF IN x r 50 j
 |Xa9:x.op=8->Ad x.Y=true->x.range=⟨#[]⟩->CA m.ru x.Y=true->wv m OF IN x r 0 ⟨⟨m.sj,m.uo,m.ut,BB m.ru x.Y⟩,OF,true,IN⟩
 |ŭ {j:yr}:x.op=8->Ad x.Y=true->x.range≠⟨#[]⟩->r=none->wv m OF IN x r 21 j
 |Xa7 {j:yr} {l:Λ}:x.op=8->Ad x.Y=true->x.range≠⟨#[]⟩->r=some l->AV ⟨m.sj,m.uo,m.ut,xq m.ru ⟨x.Y,l⟩⟩=false->wv m OF IN x r 26 j
 |ov {l:Λ}:x.op=8->Ad x.Y=true->x.range≠⟨#[]⟩->r=some l->AV ⟨m.sj,m.uo,m.ut,xq m.ru ⟨x.Y,l⟩⟩=true->wv m OF IN x r 0 ⟨⟨m.sj,m.uo,m.ut,xq m.ru ⟨x.Y,l⟩⟩,OF,true,IN⟩
 |op {j:yr}:(x.op<2\/8<x.op)->wv m OF IN x r 51 j
def xw(l:Ι):Prop:=l.Pairwise λx y=>Ak x.Y y.Y=true
def xw.one{k:Ι}(h:xw l)(h':xw k)(hp:l.Perm k):l=k:=Jn (R:=λx y:uf=>Ak x.Y y.Y=true) (λx y h1 h2=>by rw[Nt h1]at h2;cases h2) h h' hp
def xw.zg(h:xw l)(n:PU):xw (BB l n):=List.Pairwise.filter _ h
def Zn4{d:uf}:d∈BB l n↔d∈l/\d.Y≠n:=by unfold BB Hn;rw[jd];simp
def Ye(l:Ι)(d:uf):(xq l d).Perm (BB l d.Y++[d]):=by
 have h1:(xq l d).Perm (d::BB l d.Y):=by unfold xq;have:=List.perm_middle (a:=d) (l₁:=(BB l d.Y).takeWhile λx=>Ak x.Y d.Y) (l₂:=(BB l d.Y).dropWhile λx=>Ak x.Y d.Y);rwa [og]at this
 exact h1.Z (pg d _).H
def Xy{α:Type}{p:α->Bool}:∀{l:List α} {x:α},x∈l.takeWhile p->p x=true
 | [],x,h=>by cases h
 |a::l,x,h=>by
  cases hp:p a with
  |true=>
   rw[List.takeWhile_cons_of_pos hp]at h;obtain rfl|h:=gj.1 h
   .exact hp
   .exact Xy h
  |false=>rw[List.takeWhile_cons_of_neg (by rw[hp];simp)]at h;cases h
def Uw{n:PU}:∀{l:Ι},xw l->(∀x∈l,x.Y≠n)->∀x∈l.dropWhile (λx=>Ak x.Y n),Ak n x.Y=true
 | [],_,_,x,h=>by cases h
 |a::l,hr,hn,x,h=>by
  obtain⟨h1,h2⟩:=iq.1 hr;cases hp:Ak a.Y n with
  |true=>rw[List.dropWhile_cons_of_pos (p:=λx:uf=>Ak x.Y n) hp]at h;exact Uw h2 (λy hy=>hn y (.tail _ hy)) x h
  |false=>
   rw[List.dropWhile_cons_of_neg (p:=λx:uf=>Ak x.Y n) (by rw[hp];simp)]at h;have ha:Ak n a.Y=true:=by
    cases k:Ak n a.Y with
    |true=>rfl
    |false=>exact fu (JG hp k) (hn a (.head _))
   obtain rfl|h:=gj.1 h
   .exact ha
   .exact GP ha (h1 x h)
def xw.xq(h:xw l)(d:uf):xw (xq l d):=by
 have hw:=h.zg d.Y;have a0:∀x∈BB l d.Y,x.Y≠d.Y:=λx hx=>(Zn4.1 hx).2;have hl:=Uw hw a0;unfold Go.Hal.xq xw;refine ji.2 ⟨List.Pairwise.sublist (List.takeWhile_sublist _) hw,iq.2 ⟨hl,List.Pairwise.sublist (ou _) hw⟩,λa ha b hb=>?_⟩;have h1:=Xy ha;obtain rfl|hb:=gj.1 hb
 .exact h1
 .exact GP h1 (hl b hb)
def Zn3{k:Ι}{d:uf}(h:xw l)(hk:k.Perm (BB l d.Y++[d]))(hs:k.Pairwise λx y=>¬Ak y.Y x.Y=true):k=xq l d:=by
 refine xw.one ?_ (h.xq d) (hk.Z (Ye l d).H);have hn:(k.map uf.Y).Nodup:=by
  have h1:((xq l d).map uf.Y).Nodup:=by rw[ii,iv];exact(h.xq d).imp λh=>EG h
  exact((hk.Z (Ye l d).H).map uf.Y).nodup_iff.2 h1
 rw[ii,iv]at hn;refine(hn.and hs).imp λ{a b} ⟨h1,h2⟩=>?_;cases h3:Ak a.Y b.Y with
 |true=>rfl
 |false=>exact fu (JG h3 (by simpa using h2)) h1
open Go.Sort
def PQ{α β:Type}:∀(l:List α){P:Nat->α->β->Prop},(∀i x,l[i]?=some x->∃y,P i x y)->∃z:List (β×α),z.map Prod.snd=l/\∀i p,z[i]?=some p->P i p.2 p.1
 | [],_,_=>⟨[],rfl,λi p h=>by simp at h⟩
 |x::l,P,h=>by
  obtain⟨y,hy⟩:=h 0 x rfl;obtain⟨z,hz,hp⟩:=PQ l (P:=λi=>P (i+1)) λi x' hx=>h (i+1) x' (by simpa using hx);refine⟨(y,x)::z,by rw[gu,hz],λi p hi=>?_⟩;cases i with
  |zero=>simp at hi;subst hi;exact hy
  |succ i=>exact hp i p (by simpa using hi)
def ED(w:Qd)(S:Nat->Prop)(p:Bo×uf):Prop:=p.1.1=p.2.Y/\Ac p.2.Y/\IT ui w S p.1.2 p.2.range
def tk.low{α:Type}{f:α->LV}{s:Sl}{l:List α}(h:tk f bytes w lo s l)(a0:lo'<=lo):tk f bytes w lo' s l:=by obtain⟨h1,h2,h3,h4,h5⟩:=h;exact⟨h1,h2,h3,h4,h5.imp id λ⟨g,tail,a,b,c⟩=>⟨g,tail,a,fl a0 b,c⟩⟩
def ÿ(w:Qd)(lo:Nat)(S:Nat->Prop)(s:Sl)(l:Ι):Prop:=∃z:List (Bo×uf),Æ 187 yb 2 w lo s (z.map Prod.fst)/\z.map Prod.snd=l/\∀p∈z,ED w S p
def UO{s:Sl}{z:List (Bo×uf)}(h:tk yb 40 w lo s (z.map Prod.fst))(hz:∀p∈z,ED w S p):IT rq w (λb=>S b\/(lo<=b/\b<w.heap.size)) s (z.map Prod.snd):=by
 obtain⟨h1,h2,h3,h4,h5⟩:=h;rw[eh]at h1 h2 h4;refine⟨by rwa [eh],by rwa [eh],h3,by rwa [eh],?_⟩;rcases h5 with h5|⟨g,tail,ha,hg,hr⟩
 .rw[rf]at h5;subst h5;exact .inl rfl
 .refine .inr ⟨_,ha,.inr ⟨hg,hr.lt⟩,λi x hx=>?_⟩;rw[gc]at hx;cases hi:z[i]? with
  |none=>rw[hi]at hx;cases hx
  |some p=>
   rw[hi]at hx;obtain rfl:p.2=x:=jz hx;obtain⟨e1,e2,e3⟩:=hz p (fx hi);have hp:(z.map Prod.fst)[i]?=some p.1:=by rw[gc,hi];rfl
   exact⟨yb p.1,⟨e2,p.1.2,by rw[<-e1];rfl,e3.O λb hb=>.inl hb⟩,tm.Ě (f:=yb) (k:=2) (λ_=>rfl) hr hp⟩
def ÿ.I{s:Sl}(h:ÿ w lo S s l)(hl:l.length<=1000000):IT rq w (λb=>S b\/(lo<=b/\b<w.heap.size)) s l:=by obtain⟨z,hf,rfl,hz⟩:=h;rw[eh]at hl;exact UO (hf.flat (bytes:=40) (by rw[eh];unfold Ab;omega)) hz
def ÿ.low{s:Sl}(h:ÿ w lo S s l)(hl:lo'<=lo):ÿ w lo' S s l:=by obtain⟨z,hf,e,hz⟩:=h;exact⟨z,hf.low hl,e,hz⟩
def ÿ.below{z:List (Bo×uf)}(hz:∀p∈z,ED w S p)(hb:Below lo w w')(hS:∀b,S b->b<lo):∀p∈z,ED w' S p:=λp hp=>by obtain⟨e1,e2,e3⟩:=hz p hp;exact⟨e1,e2,e3.below hb hS⟩
def ÿ.of{s:Sl}(h:rl rq 187 w lo S s l):ÿ w lo S s l:=by
 obtain⟨css,ho,hl,hr⟩:=h.row;obtain⟨z,hz,hp⟩:=PQ (β:=Bo) l (P:=λi x y=>ED w S (y,x)/\css[i]?=some (yb y)) λi x hx=>by obtain⟨cs,h1,h0,u,hc,hu⟩:=hr i x hx;subst hc;exact⟨(x.Y,u),⟨rfl,h0,hu⟩,h1⟩
 have a0:z.length=l.length:=by rw[<-hz,eh]
 have e:css=(z.map Prod.fst).map yb:=by
  apply qm λi=>?_;rw[gc,gc];cases hi:z[i]? with
  |none=>have:css.length<=i:=(by rw[hl,<-a0];exact nc.1 hi);rw[jf this];rfl
  |some p=>rw[(hp i p hi).2];rfl
 refine⟨z,⟨by rwa [<-e],by rw[eh,a0];exact h.len⟩,hz,λp hm=>?_⟩;obtain⟨i,hi⟩:=iw hm;exact(hp i p hi).1
def ZE{s:Sl}(hS:Old S w)(hs:IT rq w S s l)(hl:l.length<=1000000)(hR:∀t w',AI w w'->ÿ w' w.heap.size S t l->R t w'):Mj s w R:=by
 unfold Mj;refine⟨λh=>?_,λh=>?_⟩
 .have:l=[]:=by
   rcases hs.2.2.2.2 with h0|⟨ad,h1,_⟩
   .exact h0
   .rw[h]at h1;cases h1
  subst this;exact hR _ _ xR ⟨[],⟨⟨rfl,.inl ⟨rfl,rfl⟩⟩,rfl⟩,rfl,λp hp=>by cases hp⟩
 .intro a w1 ha hw;subst ha;have x1:AI w w1:=hw▸AI.alloc _ _;have ux:rl rq 187 w1 w.heap.size rz ⟨some ⟨w.heap.size,0,none⟩,0,0⟩ []:=hw▸rl.empty w;refine ux.zj JD x1.size (hs.U x1) (hS.U x1.size) (λad ha hb=>?_) (by simpa using hs.2.2.2.1) (by simpa using hs.max) λr w2 a0 vd _ _=>?_
  .simp only[ff]at ha;subst ha;have:=hS _ hb;simp at this
  .refine hR r w2 (x1.A vd) (ÿ.of (a0.O (S':=S) (λb hb=>hb.F (λh=>h.F) id) (λb hb=>a0.lt b (.inr hb)) (λad ha hb=>a0.apart ad ha (.inr hb))))
def VG{α β:Type}(f:α->β)(p:β->Bool)(z:List α):(z.filter λx=>p (f x)).map f=(z.map f).filter p:=by
 induction z with
 |nil=>rfl
 |cons x r ih=>rw[me,gu,me];split<;>simp[ih]
def IT.raw{s:Sl}(hs:IT rq w S s l):∃z:List (Bo×uf),IT Io w S s (z.map Prod.fst)/\z.map Prod.snd=l/\∀p∈z,ED w S p:=by
 obtain⟨h1,h2,h3,h4,h5⟩:=hs;rcases h5 with h5|⟨ad,ha,hS,a4⟩
 .subst h5;exact⟨[],⟨h1,h2,h3,h4,.inl rfl⟩,rfl,λp hp=>by cases hp⟩
 .obtain⟨z,hz,hp⟩:=PQ (β:=Bo) l (P:=λi x y=>ED w S (y,x)/\se w (ad.add (i*2)) (yb y)) λi x hx=>by obtain⟨cs,⟨e1,u,rfl,e2⟩,e3⟩:=a4 i x hx;exact⟨(x.Y,u),⟨rfl,e1,e2⟩,e3⟩
  have a0:z.length=l.length:=by rw[<-hz,eh]
  refine⟨z,⟨by rwa [eh,a0],by rwa [eh,a0],h3,by rwa [eh,a0],.inr ⟨ad,ha,hS,λi x hx=>?_⟩⟩,hz,λp hm=>?_⟩
  .rw[gc]at hx;cases hi:z[i]? with
   |none=>rw[hi]at hx;cases hx
   |some p=>rw[hi]at hx;obtain rfl:p.1=x:=jz hx;exact⟨yb p.1,⟨rfl,trivial⟩,(hp i p hi).2⟩
  .obtain⟨i,hi⟩:=iw hm;exact(hp i p hi).1
def Zep:∀w,(isAgg 187).run prog w= .ok true w:=λw=>by kernel_rfl
def Zk0:∀w,(Go.sizeOf 187).run prog w= .ok 2 w:=λw=>by kernel_rfl
def Æ.ux{s:Sl}{l:List Bo}(h:Æ 187 yb 2 w lo s l):rl Io 187 w lo rz s l:=
 ⟨⟨l.map yb,h.1,by simp,λi x hx=>⟨yb x,by rw[gc,hx];rfl,rfl,trivial⟩⟩,h.2,λ_ h=>h.F,λ_ _ h=>h.F⟩
def rl.Xdf{s:Sl}{l:List Bo}(h:rl Io 187 w lo S s l):Æ 187 yb 2 w lo s l:=by
 obtain⟨css,ho,hl,hr⟩:=h.row;have e:css=l.map yb:=by apply pq (by simp[hl]);intro i h1 h2;obtain⟨cs,k1,k2⟩:=hr i (l[i]'(by simpa using h2)) (dw (by simpa using h2));rw[dw h1,ff]at k1;rw[k1,nx];exact k2.1
 rw[e]at ho;exact⟨ho,h.len⟩
end Go.Hal
namespace Go.Hal
def Ol{ds:Ν}{p:Ap}{x:PU}{n i:Nat}(h:Az ds (p.take n++[x])=some i):∀{k:Nat},n<=k->(∀m,n<m->m<=k->Az ds (p.take m++[x])=none)->AG ds p x k=some i
 |0,hn,_=>by have:n=0:=oM;subst this;exact h
 |k+1,hn,hno=>by
  unfold AG;by_cases hk:n=k+1
  .subst hk;rw[h]
  .rw[hno (k+1) oM nR];exact Ol h oM λm h1 h2=>hno m h1 oM
def Qx:Az (ds++[d]) p=(Az ds p).or (if d.Of=p then some ds.length else none):=by
 unfold Az;rw[List.findIdx?_append];congr 1;by_cases h:d.Of=p
 .rw[fo h];simp[List.findIdx?_cons,h]
 .rw[fb h];simp[List.findIdx?_cons,h]
structure å(g:Ζ)(s:vq):Prop where
 look:∀t∈s.done,AG s.By (Ae s.By t.tz) t.label (Ae s.By t.tz).length=some t.dst
 rk:∀t∈s.done,∃e∈Ar g (tq s.By t.tz),e.Y=t.label/\(tq s.By t.dst:Int)=e.to
 led:∀i,i<s.By.length->i≠0->∃t∈s.done,t.dst=i/\t.tz<i
def å.start:å g ⟨[⟨[],0⟩],[]⟩:=⟨(λt ht=>by cases ht),(λt ht=>by cases ht),λi h1 h2=>by simp at h1;omega⟩
def å.found{s:vq}{to:Nat}{e:Edge}(h:å g s)(hl:AG s.By (Ae s.By a) e.Y (Ae s.By a).length=some to)(he:e∈Ar g (tq s.By a))(hn:(tq s.By to:Int)=e.to):å g ⟨s.By,s.done++[⟨a,e.Y,to⟩]⟩:=by
 refine⟨λt ht=>?_,λt ht=>?_,λi h1 h2=>?_⟩
 .obtain ht|ht:=fj.1 ht
  .exact h.look t ht
  .rw[eu]at ht;subst ht;exact hl
 .obtain ht|ht:=fj.1 ht
  .exact h.rk t ht
  .rw[eu]at ht;subst ht;exact⟨e,he,rfl,hn⟩
 .obtain⟨t,h3,h4⟩:=h.led i h1 h2;exact⟨t,ib _ h3,h4⟩
def å.put{s:vq}{n:Nat}{e:Edge}(h:å g s)(hI:wz g s a)(hd:s.By[a]?=some d)(hs:zf s d.Of e.Y n)(he:e∈Ar g d.rk)(h0:0<=e.to):
  å g ⟨s.By++[⟨d.Of.take n++[e.Y],e.to.toNat⟩],s.done++[⟨a,e.Y,s.By.length⟩]⟩:=by
 have ha:=(ec.1 hd).1;have a5:Ae (s.By++[⟨d.Of.take n++[e.Y],e.to.toNat⟩]) s.By.length=d.Of.take n++[e.Y]:=by unfold Ae;rw[ic nR,po];rfl
 have a0:tq (s.By++[⟨d.Of.take n++[e.Y],e.to.toNat⟩]) s.By.length=e.to.toNat:=by unfold tq;rw[ic nR,po];rfl
 refine⟨λt ht=>?_,λt ht=>?_,λi h1 h2=>?_⟩
 .obtain ht|ht:=fj.1 ht
  .obtain⟨_,h2,h3⟩:=hI.tz t ht;dsimp only;rw[Wo h2];obtain⟨n0,h4,h5,h6⟩:=Le (h.look t ht);refine Ol (Kv h5) h4 λm h7 h8=>?_;rw[Qx,h6 m h7 h8,Option.none_or];rw[fb];intro hc;obtain⟨c1,c2⟩:=List.append_inj' hc rfl;have c3:e.Y=t.label:=by simpa using c2
   have a4:n=m:=(by have:=kd List.length c1;rw[fk,fk]at this;have:=hs.le;omega);have hk:=hs.ry t ht c3.H (by rw[c1];exact List.take_prefix _ _);obtain⟨d5,e1,e2⟩:=CN h5;rw[Cb e1,e2]at hk;simp only[dx,fk,il]at hk;omega
  .rw[eu]at ht;subst ht;dsimp only;rw[Wo ha,Cb hd];refine Ol (n:=n) ?_ hs.le λm h7 h8=>?_
   .rw[Qx,hs.clear n nR hs.le,fo rfl];rfl
   .rw[Qx,hs.clear m oM h8,Option.none_or,fb];intro hc;have:=kd List.length hc;simp only[dx,fk,il]at this;have:=hs.le;omega
 .obtain ht|ht:=fj.1 ht
  .obtain⟨_,h2,h3⟩:=hI.tz t ht;dsimp only;rw[Hs h2,Hs h3];exact h.rk t ht
  .rw[eu]at ht;subst ht;dsimp only;rw[Hs ha,ET hd,a0];exact⟨e,he,rfl,oM⟩
 .rw[dx,il]at h1;by_cases hi:i=s.By.length
  .subst hi;exact⟨_,jy _ (eu.2 rfl),rfl,ha⟩
  .obtain⟨t,h3,h4⟩:=h.led i oM h2;exact⟨t,ib _ h3,h4⟩
def vh.Xc0{s t:vq}{e:Edge}{c:Int}(hk:ss=1\/ss=2\/ss=3)(h:vh Α s a e ss c t)(hI:wz Α.g s a)(hL:å Α.g s)(ha:a<s.By.length)(hx:DJ s a e.Y)(he:e∈Ar Α.g (tq s.By a))(h0:0<=e.to):
  å Α.g t/\(c=0->∃u∈t.done,u.tz=a/\u.label=e.Y)/\∃l,t.done=s.done++l:=by
 have hd:s.By[a]?=some s.By[a]:=dw ha;cases h with
 |found to hr=>exact⟨hL.found hr.1 he hr.2.1,λ_=>⟨_,jy _ (eu.2 rfl),rfl,rfl⟩,_,rfl⟩
 |lost=>exact⟨hL,nO,[],by simp⟩
 |put n h1 h2 h3 h4=>
  have hs:zf s (Ae s.By a) e.Y n:=by
   obtain hk|hk|hk:=hk
   .exact fu hk h2
   .exact(h3 hk).spot
   .rw[h4 hk,Cb hd];exact hI.spot hd hx
  rw[ET hd]at he;rw[Cb hd]at hs ⊢;exact⟨hL.put hI hd hs he h0,λ_=>⟨_,jy _ (eu.2 rfl),rfl,rfl⟩,_,rfl⟩
 |long=>exact⟨hL,nO,[],by simp⟩
 |deep=>exact⟨hL,nO,[],by simp⟩
structure ď(g:Ζ):Prop where
 pos:0<g.length
 ĸ:∀x∈g,vp Edge.Y x.sd
 to:∀x∈g,∀e∈x.sd,0<=e.to/\e.to<(g.length:Int)
def ď.yv(h:ď g){k:Nat}{e:Edge}(he:e∈Ar g k):0<=e.to/\e.to<(g.length:Int):=by
 unfold Ar at he;split at he
 .rename_i x hx;exact h.to x (fx hx) e he
 .cases he
def ď.Xbg(h:ď g)(k:Nat):vp Edge.Y (Ar g k):=by
 unfold Ar;split
 .rename_i x hx;exact h.ĸ x (fx hx)
 .exact List.Pairwise.nil
def Lm{k:Nat}{e:Edge}:e∈Cu g k↔e∈Ar g k:=by
 unfold Cu;simp only[fj,jd,ko];constructor
 .rintro(h|h|h)<;>exact h.1
 .intro h;obtain h1|h1|h1:=Eo g k e
  .exact .inl ⟨h,h1⟩
  .exact .inr (.inl ⟨h,h1⟩)
  .exact .inr (.inr ⟨h,h1⟩)
def Wf(h:ď g)(k:Nat):((Cu g k).map Edge.Y).Nodup:=by
 have hr:=h.Xbg k;have a0:∀a∈Ar g k,∀b∈Ar g k,a.Y=b.Y->a=b:=λa ha b hb he=>hr.inj ha hb he;have hn:(Ar g k).Nodup:=by rw[ii];exact hr.imp λh e=>by rw[e]at h;exact EG h rfl
 have ho:(Cu g k).Nodup:=by
  unfold Cu;have f:∀n:Nat,((Ar g k).filter λe=>A9 g k e==n).Nodup:=λn=>hn.sublist List.filter_sublist;refine ja.2 ⟨f 1,ja.2 ⟨f 2,f 3,λa ha b hb e=>?_⟩,λa ha b hb e=>?_⟩
  .subst e;have h1:=(jd.1 ha).2;have h2:=(jd.1 hb).2;rw[ko]at h1 h2;omega
  .subst e;have h1:=(jd.1 ha).2;rw[ko]at h1;rcases fj.1 hb with hb|hb<;>(have h2:=(jd.1 hb).2;rw[ko]at h2;omega)
 rw[ii,iv];rw[ii]at ho;exact List.Pairwise.imp_of_mem (λ{a b} ha hb h e=>h (a0 a (Lm.1 ha) b (Lm.1 hb) e)) ho
def vj.inv{k:Nat}(hg:ď Α.g){s t:vq}{c:Int}(h:vj Α a k s es c t):wz Α.g s a->å Α.g s->a<s.By.length->tq s.By a=k->(∀e∈es,e∈Ar Α.g k/\DJ s a e.Y)->(es.map Edge.Y).Nodup->
  wz Α.g t a/\å Α.g t/\(∃l,t.By=s.By++l)/\(∃l,t.done=s.done++l)/\(c=0->∀e∈es,∃u∈t.done,u.tz=a/\u.label=e.Y):=by
 induction h with
 |nil s=>intro h1 h2 _ _ _ _;exact⟨h1,h2,⟨[],by simp⟩,⟨[],by simp⟩,λ_ e he=>by cases he⟩
 | @cons s t u e es c k1 k2 ih=>
  intro h1 h2 ha hk a4 a6;obtain⟨he,hx⟩:=a4 e (.head _);have a5:=hg.yv he;obtain⟨a1,a2⟩:=k1.inv (Eo _ _ _) h1 ha hx a5;obtain⟨b1,b2,lb,b3⟩:=k1.Xc0 (Eo _ _ _) h1 h2 ha hx (by rwa [hk]) a5.1;obtain⟨ld,a7⟩:=a2.By;rw[gu,nu]at a6;have a8:a<t.By.length:=by rw[a7,dx];omega
  obtain⟨c1,c2,⟨l1,c3⟩,⟨l2,c4⟩,c5⟩:=ih a1 b1 a8 (by rwa [a7,Hs ha]) (λe' a0=>⟨(a4 e' (.tail _ a0)).1,a2.new _ (λhn=>a6.1 (hn▸ix a0)) (a4 e' (.tail _ a0)).2⟩) a6.2;refine⟨c1,c2,⟨ld++l1,by rw[c3,a7,fh]⟩,⟨lb++l2,by rw[c4,b3,fh]⟩,λhc e' a0=>?_⟩;obtain rfl|a0:=gj.1 a0
  .obtain⟨u',d1,d2⟩:=b2 rfl;exact⟨u',by rw[c4];exact ib _ d1,d2⟩
  .exact c5 hc e' a0
 | @stop s t e es c k1 k2=>intro h1 h2 ha hk a4 a6;obtain⟨he,hx⟩:=a4 e (.head _);have a5:=hg.yv he;obtain⟨a1,a2⟩:=k1.inv (Eo _ _ _) h1 ha hx a5;obtain⟨b1,b2,lb,b3⟩:=k1.Xc0 (Eo _ _ _) h1 h2 ha hx (by rwa [hk]) a5.1;exact⟨a1,b1,a2.By,⟨lb,b3⟩,λhc=>fu hc k2⟩
def SL(g:Ζ)(s:vq)(a:Nat):Prop:=∀i,i<a->i<s.By.length->∀e∈Ar g (tq s.By i),∃u∈s.done,u.tz=i/\u.label=e.Y
def vg.inv(hg:ď Α.g){s t:vq}{c:Int}(h:vg Α a s c t):wz Α.g s a->å Α.g s->(∀u∈s.done,u.tz<a)->SL Α.g s a->c=0->∃n,wz Α.g t n/\å Α.g t/\SL Α.g t t.By.length:=by
 induction h with
 | @fin a s h1=>intro hI hL _ hA _;exact⟨a,hI,hL,λi h2 h3=>hA i oM h3⟩
 | @next a s t u c h1 h2 h3 ih=>
  intro hI hL hS hA hc;obtain⟨a1,a2,⟨l1,a3⟩,⟨l2,a4⟩,a5⟩:=h2.inv hg hI hL h1 rfl (λe he=>⟨Lm.1 he,λv hv hs=>by have:=hS v hv;omega⟩) (Wf hg _);refine ih a1.next a2 (λv hv=>by have:=(a1.tz v hv).1;omega) (λi hi hl e he=>?_) hc;obtain a0|a0:=pp i a
  .rw[a3,Hs oM]at he;obtain⟨v,b1,b2⟩:=hA i a0 oM e he;exact⟨v,by rw[a4];exact ib _ b1,b2⟩
  .have:i=a:=oM;subst this;rw[a3,Hs h1]at he;exact a5 rfl e (Lm.2 he)
 |stop h1 h2 h3=>intro _ _ _ _ hc;exact fu hc h3
structure zi(g:Ζ)(ds:Ν):Prop where
 root:ds[0]?=some ⟨[],0⟩
 one:∀(i j:Nat)(d e:Dr),ds[i]?=some d->ds[j]?=some e->d.Of=e.Of->i=j
 up:∀(i:Nat)(d:Dr)(p:Ap)(x:PU),ds[i]?=some d->d.Of=p++[x]->∃h,h<i/\Az ds p=some h
 rk:∀d∈ds,d.rk<g.length
 look:∀i,i<ds.length->∀e∈Ar g (tq ds i),∃j,AG ds (Ae ds i) e.Y (Ae ds i).length=some j/\(tq ds j:Int)=e.to
 led:∀i,i<ds.length->i≠0->∃j,j<i/\∃e∈Ar g (tq ds j),AG ds (Ae ds j) e.Y (Ae ds j).length=some i/\(tq ds i:Int)=e.to
def vg.Ý(hg:ď Α.g){t:vq}(h:vg Α 0 ⟨[⟨[],0⟩],[]⟩ 0 t):zi Α.g t.By:=by
 obtain⟨n,hI,hL,hA⟩:=h.inv hg (wz.start hg.pos) å.start (λu hu=>by cases hu) (λi hi=>by omega) rfl;refine⟨hI.root,hI.one,hI.up,hI.rk,λi hi e he=>?_,λi hi h0=>?_⟩
 .obtain⟨u,h1,h2,h3⟩:=hA i hi hi e he;obtain⟨e',h4,h5,h6⟩:=hL.rk u h1;have h7:=hL.look u h1;rw[h2]at h4 h7;rw[h3]at h7 h5;have:=(hg.Xbg _).inj h4 he h5;subst this;exact⟨u.dst,h7,h6⟩
 .obtain⟨u,h1,h2,h3⟩:=hL.led i hi h0;obtain⟨e',h4,h5,h6⟩:=hL.rk u h1;have h7:=hL.look u h1;rw[<-h5,h2]at h7;rw[h2]at h6;exact⟨u.tz,h3,e',h4,h7,h6⟩
def vh.grow{s t:vq}{e:Edge}{c:Int}(h:vh Α s a e ss c t):∃l,t.By=s.By++l:=by
 cases h with
 |found=>exact⟨[],by simp⟩
 |lost=>exact⟨[],by simp⟩
 |put=>exact⟨_,rfl⟩
 |long=>exact⟨[],by simp⟩
 |deep=>exact⟨[],by simp⟩
def vj.grow{s t:vq}{k:Nat}{c:Int}(h:vj Α a k s es c t):∃l,t.By=s.By++l:=by
 induction h with
 |nil=>exact⟨[],by simp⟩
 |cons k1 k2 ih=>obtain⟨l1,h1⟩:=k1.grow;obtain⟨l2,h2⟩:=ih;exact⟨l1++l2,by rw[h2,h1,fh]⟩
 |stop k1 k2=>exact k1.grow
def vg.grow{s t:vq}{c:Int}(h:vg Α a s c t):∃l,t.By=s.By++l:=by
 induction h with
 |fin=>exact⟨[],by simp⟩
 |next k1 k2 k3 ih=>obtain⟨l1,h1⟩:=k2.grow;obtain⟨l2,h2⟩:=ih;exact⟨l1++l2,by rw[h2,h1,fh]⟩
 |stop k1 k2 k3=>exact k2.grow
structure Ō(Α Γ:Ľ):Prop where
 g:Γ.g=Α.g
 ĺ:Γ.ĺ=Α.ĺ
 Ķ:Γ.Ķ=Α.Ķ
 ĝ:Γ.ĝ=Α.ĝ
def vh.again(hA:Ō Α Γ)(hn:∀p k,Α.ww p k=false){s t:vq}{e:Edge}(h:vh Α s a e ss 0 t)(hl:∀d∈t.By,Γ.ww d.Of d.rk=true):vh Γ s a e ss 0 t:=by
 have right:∀to,yj Γ s a e ss to↔yj Α s a e ss to:=λto=>by unfold yj GI;rw[hA.g]
 generalize h0:(0:Int)=c at h;cases h with
 |found to hr=>exact .found to ((right to).2 hr)
 |lost=>cases h0
 |put n h1 h2 h3 h4 h5 h6=>
  refine .put n (λto hr=>h1 to ((right to).1 hr)) h2 (λhk=>?_) h4 (by rwa [hA.ĺ,hA.Ķ]) (by rwa [hA.ĝ]);have hb:=h3 hk;refine⟨hb.spot,λm _ _=>?_,λm hm _=>hb.Xce m hm ?_⟩
  .exact hl _ (jy _ (eu.2 rfl))
  .rw[hn,hn]
 |long=>cases h0
 |deep=>cases h0
def vj.again(hA:Ō Α Γ)(hn:∀p k,Α.ww p k=false){s t:vq}{k:Nat}{c:Int}(h:vj Α a k s es c t):c=0->(∀d∈t.By,Γ.ww d.Of d.rk=true)->vj Γ a k s es 0 t:=by
 induction h with
 |nil s=>intro _ _;exact .nil s
 |cons k1 k2 ih=>intro hc hl;obtain⟨l,a0⟩:=k2.grow;refine .cons ?_ (ih hc hl);rw[hA.g];exact k1.again hA hn λd hd=>hl d (by rw[a0];exact ib _ hd)
 |stop k1 k2=>intro hc;exact fu hc k2
def vg.again(hA:Ō Α Γ)(hn:∀p k,Α.ww p k=false){s t:vq}{c:Int}(h:vg Α a s c t):c=0->(∀d∈t.By,Γ.ww d.Of d.rk=true)->vg Γ a s 0 t:=by
 induction h with
 |fin h1=>intro _ _;exact .fin h1
 |next k1 k2 k3 ih=>intro hc hl;obtain⟨l,a0⟩:=k3.grow;refine .next k1 ?_ (ih hc hl);rw[hA.g];exact k2.again hA hn rfl λd hd=>hl d (by rw[a0];exact ib _ hd)
 |stop k1 k2 k3=>intro hc;exact fu hc k3
structure Xdk(g:Ζ)(n:Nat)(x:PU):Prop where
 uk:BS g n=[]
 to:∀k,∀e∈Ar g k,(e.Y=x↔e.to=(n:Int))
def Es(T:Θ)(i:Nat):Int:=match T[i]? with
 |some d=>d.rk
 |none=>0
def Lo{T:Θ}{d:tx}(h:T[i]?=some d):Es T i=d.rk:=by unfold Es;rw[h]
structure PlT(T:Θ)(g:Ζ):Prop where
 pos:0<T.length
 root:Es T 0=0
 low:∀d∈T,0<=d.rk
 look:∀i,i<T.length->∀e∈Ar g (Es T i).toNat,∃(j:Nat) (d:tx) (x:BY),CD T i e.Y=some j/\T[j]?=some d/\g[e.to.toNat]?=some x/\d.td.Y=x.Y/\d.td.v=x.v/\d.rk=e.to
 reach:∀P:Nat->Prop,P 0->(∀i j,P i->i<T.length->(∃e∈Ar g (Es T i).toNat,CD T i e.Y=some j)->P j)->∀i,i<T.length->P i
structure Xat(T:Θ)(g:Ζ)(n:Nat)(s:zk):Prop where
 le:n<=s.su.length
 inv:zw T g s
 Ú:∀(i:Nat)(k:Int),s.m[i]?=some k->k≠ -1->k=Es T i
 zero:0∈s.su
 done:∀a,a<n->∀i,s.su[a]?=some i->∀e∈Ar g (Es T i).toNat,∀j,CD T i e.Y=some j->j∈s.su
def Zgr{T:Θ}(hT:PlT T g){n:Nat}{s:zk}{e:Edge}(h:Xat T g n s)(hi:i<T.length)(he:e∈Ar g (Es T i).toNat)(b0:1<=e.to/\e.to<(g.length:Int)):
  ∃t,Ds T g i s e=some t/\Xat T g n t/\(∃l,t.su=s.su++l)/\∀j,CD T i e.Y=some j->j∈t.su:=by
 obtain⟨j,d,x,h1,h2,h3,h4,h5,h6⟩:=hT.look i hi e he;have hj:=(ec.1 h2).1;have a0:j<s.m.length:=by rwa [h.inv.len]
 have a4:Ds T g i s e=if s.m[j]?=some (-1)then some ⟨s.m.set j e.to,s.su++[j]⟩else if s.m[j]?=some e.to then some s else none:=by unfold Ds;rw[h1];dsimp only;rw[h2,h3];dsimp only;rw[fo ⟨h4,h5⟩]
 by_cases hm:s.m[j]?=some (-1)
 .rw[fo hm]at a4;obtain⟨a1,a2⟩:=h.inv.yv b0 a4;refine⟨_,a4,⟨by dsimp only;rw[dx];have:=h.le;omega,a1,λa k hk a9=>?_,ib _ h.zero,λa ha b hb e' a7 c hc=>?_⟩,a2,λc hc=>?_⟩
  .by_cases a5:j=a
   .subst a5;dsimp only at hk;rw[mz a0]at hk;cases hk;rw[Lo h2,h6]
   .dsimp only at hk;rw[nn a5]at hk;exact h.Ú a k hk a9
  .dsimp only at hb ⊢;rw[fy (by have:=h.le;omega)]at hb;exact ib _ (h.done a ha b hb e' a7 c hc)
  .rw[h1]at hc;cases hc;exact jy _ (eu.2 rfl)
 .have a8:j∈s.su:=(h.inv.told j).2 ⟨s.m[j],dw a0,λhc=>hm (by rw[dw a0,hc])⟩;have a6:s.m[j]?=some e.to:=by rw[dw a0];have:=h.Ú j s.m[j] (dw a0) (λhc=>hm (by rw[dw a0,hc]));rw[this,Lo h2,h6]
  rw[fb hm,fo a6]at a4;exact⟨s,a4,h,⟨[],by simp⟩,λc hc=>by rw[h1]at hc;cases hc;exact a8⟩
def VB{T:Θ}{g:Ζ}(hT:PlT T g)(hg:C0 g){i n:Nat}(hi:i<T.length):∀(es:LQ){s:zk},(∀e∈es,e∈Ar g (Es T i).toNat)->Xat T g n s->
  ∃t,DU T g i s es=some t/\Xat T g n t/\(∃l,t.su=s.su++l)/\∀e∈es,∀j,CD T i e.Y=some j->j∈t.su
 | [],s,_,h=>⟨s,rfl,h,⟨[],by simp⟩,λe he=>by cases he⟩
 |e::es,s,hes,h=>by
  have he:=hes e (.head _);have a5:1<=e.to/\e.to<(g.length:Int):=by
   unfold Ar at he;split at he
   .rename_i x hx;exact hg.2 x (fx hx) e he
   .cases he
  obtain⟨u,a1,a2,⟨l,a3⟩,a4⟩:=Zgr hT h hi he a5;obtain⟨t,b1,b2,⟨l',b3⟩,b4⟩:=VB hT hg hi es (λe' h'=>hes e' (.tail _ h')) a2;refine⟨t,by unfold DU;rwa [a1],b2,⟨l++l',by rw[b3,a3,fh]⟩,λe' a0 j hj=>?_⟩;obtain rfl|a0:=gj.1 a0
  .rw[b3];exact ib _ (a4 j hj)
  .exact b4 e' a0 j hj
def VE{T:Θ}{g:Ζ}(hT:PlT T g)(hg:C0 g):∀(f n:Nat){s:zk},Xat T g n s->T.length<f+n->DV T g f n s=some (T.map tx.rk)
 |0,n,s,h,hf=>by have:=h.le;have:=h.inv.ķ;omega
 |f+1,n,s,h,hf=>by
  unfold DV;cases hr:s.su[n]? with
  |none=>
   dsimp only;have a5:=hT.reach (λi=>i∈s.su) h.zero λi j hi a0 ⟨e,he,hl⟩=>by obtain⟨a,ha,a7⟩:=gh.1 hi;have hn:=nc.1 hr;exact h.done a oM i (by rw[dw ha,a7]) e he j hl
   congr 1;refine pq (by rw[eh];exact h.inv.len) λi h1 h2=>?_;have a0:i<T.length:=by rwa [<-h.inv.len]
   obtain⟨k,h3,h4⟩:=(h.inv.told i).1 (a5 i a0);have h5:=h.Ú i k h3 h4;rw[dw h1]at h3;rw[jz h3,h5,Lo (dw a0),nx]
  |some i=>
   have hi:i∈s.su:=fx hr;obtain⟨k,h3,h4⟩:=(h.inv.told i).1 hi;have h5:=h.Ú i k h3 h4;have a0:i<T.length:=(by rw[<-h.inv.len];exact(ec.1 h3).1);dsimp only;rw[h3];dsimp only;rw[h5];obtain⟨t,a1,a2,⟨l,a3⟩,a4⟩:=VB hT hg a0 (Ar g (Es T i).toNat) (λe he=>he) h;rw[a1];have a8:=(ec.1 hr).1;refine VE hT hg f (n+1) ⟨by rw[a3,dx];omega,a2.inv,a2.Ú,a2.zero,λa ha b hb e he j hj=>?_⟩ oM;by_cases a6:a=n
   .subst a6;rw[a3,fy a8,hr]at hb;cases hb;exact a4 e he j hj
   .exact a2.done a oM b hb e he j hj
def Zgu{T:Θ}(hT:PlT T g)(hg:C0 g):Ĝ T g=some (T.map tx.rk):=by
 refine VE hT hg (T.length+1) 0 ⟨im _,zw.start hT.pos hg.1,λi k hk a0=>?_,by simp,λa ha=>by omega⟩ oM;dsimp only at hk;by_cases hi:i=0
 .subst hi;rw[mz (by simpa using hT.pos)]at hk;cases hk;exact hT.root.H
 .rw[nn (λe=>hi e.H)]at hk;have:=fx hk;rw[List.mem_replicate]at this;exact fu this.2 a0
def Ou(h:∀(i j:Nat)(d e:Dr),ds[i]?=some d->ds[j]?=some e->d.Of=e.Of->i=j){a b:Dr}(ha:a∈ds)(hb:b∈ds)(hp:a.Of=b.Of):a=b:=by obtain⟨i,hi⟩:=iw ha;obtain⟨j,hj⟩:=iw hb;have:=h i j a b hi hj hp;subst this;rw[hi]at hj;exact jz hj
def Zf0{es:Ν}(h:∀(i j:Nat)(d e:Dr),ds[i]?=some d->ds[j]?=some e->d.Of=e.Of->i=j)(hp:es.Perm ds){x:PU}{k:Nat}(hl:AG ds p x k=some i)(hd:ds[i]?=some d):∃j,AG es p x k=some j/\es[j]?=some d:=by obtain⟨n,h1,h2,h3⟩:=Le hl;obtain⟨d',h4,h5⟩:=CN h2;rw[hd]at h4;cases h4;obtain⟨j,hj⟩:=Kw (ds:=es) ⟨d,hp.mem_iff.2 (fx hd),h5⟩;obtain⟨b,h6,h7⟩:=CN hj;have hb:=Ou h (fx hd) (hp.mem_iff.1 (fx h6)) (h5.Z h7.H);subst hb;exact⟨j,Ol hj h1 λm h8 h9=>NP.2 λc hc=>NP.1 (h3 m h8 h9) c (hp.mem_iff.1 hc),h6⟩
def AB(ps:Κ)(d:Dr):tx:=⟨d.Of,ps.getD d.rk Ay,d.rk⟩
def Uv(ps:Κ)(d:Dr):AF (AB ps d)=d:=by unfold AF AB;simp
def Hr:(ds.map (AB ps)).map AF=ds:=by
 rw[jj]
 conv=>rhs;rw[<-List.map_id ds]
 exact oh λd _=>Uv ps d
def zi.plT{es:Ν}(h:zi g ds)(hG:uh g ps)(hp:es.Perm ds)(a4:es[0]?=some ⟨[],0⟩):PlT (es.map (AB ps)) g:=by
 have b9:(es.map (AB ps)).map AF=es:=Hr;have b7:0<es.length:=(ec.1 a4).1;have hT:∀{i:Nat} {d:Dr},es[i]?=some d->(es.map (AB ps))[i]?=some (AB ps d):=λ{i d} hi=>by rw[gc,hi];rfl
 have b6:∀{i:Nat} {d:Dr},es[i]?=some d->(Es (es.map (AB ps)) i).toNat=d.rk:=λ{i d} hi=>by rw[Lo (hT hi)];simp[AB]
 have b5:∀{i i0:Nat} {d:Dr} {e:Edge} {j:Nat} {b:Dr},es[i]?=some d->ds[i0]?=some d->e∈Ar g d.rk->AG ds (Ae ds i0) e.Y (Ae ds i0).length=some j->ds[j]?=some b->
   ∃j',CD (es.map (AB ps)) i e.Y=some j'/\es[j']?=some b:=λ{i i0 d e j b} hi a5 he hl hb=>by
  have a7:Ad e.Y=true:=by
   unfold Ar at he;split at he
   .rename_i x hx;exact hG.Y hx he
   .cases he
  rw[Cb a5]at hl;obtain⟨j',h1,h2⟩:=Zf0 h.one hp hl hb;refine⟨j',?_,h2⟩;unfold CD;rwa [fo a7,b9,Cb hi]
 refine⟨by rwa [eh],by rw[Lo (hT a4)];rfl,λd hd=>?_,λi hi e he=>?_,λP h0 hs i hi=>?_⟩
 .obtain⟨b,_,rfl⟩:=gv.1 hd;exact Int.natCast_nonneg _
 .rw[eh]at hi;have a0:es[i]?=some es[i]:=dw hi;rw[b6 a0]at he;obtain⟨i0,a5⟩:=iw (hp.mem_iff.1 (fx a0));obtain⟨j,h1,h2⟩:=h.look i0 (ec.1 a5).1 e (by rwa [ET a5]);have hj:=Ld h1;have a9:ds[j]?=some ds[j]:=dw hj;obtain⟨j',h3,h4⟩:=b5 a0 a5 he h1 a9;rw[ET a9]at h2;have c5:∃(k:Nat) (y:BY),e.to=(k:Int)/\1<=k/\g[k]?=some y:=by
   unfold Ar at he;split at he
   .rename_i x hx;obtain⟨k,y,a1,a2,a3,_⟩:=(hG.rk _ x hx).yv e he;exact⟨k,y,a1,a2,a3⟩
   .cases he
  obtain⟨k,y,a1,a2,a3⟩:=c5;obtain⟨p,b1,b2,b3,b4⟩:=(hG.rk k y a3).td oM;have hk:ds[j].rk=k:=oM;refine⟨j',_,y,h3,hT h4,by rwa [a1,fa],?_,?_,h2⟩
  .show(ps.getD ds[j].rk Ay).Y=y.Y;rwa [hk,jk,b1]
  .show(ps.getD ds[j].rk Ay).v=y.v;rwa [hk,jk,b1]
 .have key:∀n,n<ds.length->∀i d,ds[n]?=some d->es[i]?=some d->P i:=λn=>by
   induction n using Nat.strongRecOn with
   |ind n ih=>
    intro hn i d hd hi;have inj:∀{a b:Nat} {c:Dr},es[a]?=some c->es[b]?=some c->a=b:=λ{a b c} ha hb=>by
     have c3:ds.Nodup:=by rw[ii,gn];intro u v hu hv c6 he;have:=h.one u v _ _ (dw hu) (dw hv) (by rw[he]);omega
     have c4:es.Nodup:=hp.nodup_iff.2 c3;exact(List.getElem?_inj (ec.1 ha).1 c4).1 (ha.Z hb.H)
    by_cases a8:n=0
    .subst a8;rw[h.root]at hd;cases hd;rwa [inj hi a4]
    .obtain⟨j,hj,e,h1,h2,_⟩:=h.led n hn a8;have b0:j<ds.length:=oM;have a6:ds[j]?=some ds[j]:=dw b0;rw[ET a6]at h1;obtain⟨i',a0⟩:=iw (hp.mem_iff.2 (fx a6));have b8:=ih j hj b0 i' _ a6 a0;obtain⟨c,h3,h4⟩:=b5 a0 a6 h1 h2 hd;rw[inj hi h4];refine hs i' c b8 ?_ ⟨e,by rwa [b6 a0],h3⟩;rw[eh];exact(ec.1 a0).1
  rw[eh]at hi;have a0:es[i]?=some es[i]:=dw hi;obtain⟨n,hn⟩:=iw (hp.mem_iff.1 (fx a0));exact key n (ec.1 hn).1 i _ hn a0
def Ed(Α:Ľ)(s:vq):Prop:=(∀d∈s.By,d.Of=[]\/(Α.ĺ d.Of:Int)<=Α.Ķ)/\(s.By.length:Int)<=Α.ĝ+1
def vh.small{s t:vq}{e:Edge}{c:Int}(h:vh Α s a e ss c t)(hs:Ed Α s):Ed Α t:=by
 cases h with
 |found=>exact hs
 |lost=>exact hs
 |long=>exact hs
 |deep=>exact hs
 |put n h1 h2 h3 h4 h5 h6=>
  refine⟨λd hd=>?_,?_⟩
  .obtain hd|hd:=fj.1 hd
   .exact hs.1 d hd
   .rw[eu]at hd;subst hd;exact .inr h5
  .rw[dx,il];omega
def vj.small{s t:vq}{k:Nat}{c:Int}(h:vj Α a k s es c t):Ed Α s->Ed Α t:=by
 induction h with
 |nil=>exact λh=>h
 |cons k1 k2 ih=>exact λh=>ih (k1.small h)
 |stop k1 k2=>exact λh=>k1.small h
def vg.small{s t:vq}{c:Int}(h:vg Α a s c t):Ed Α s->Ed Α t:=by
 induction h with
 |fin=>exact λh=>h
 |next k1 k2 k3 ih=>exact λh=>ih (k2.small h)
 |stop k1 k2 k3=>exact λh=>k2.small h
def QX{q:Ap}:Bd (p++q)=true↔Bd p=true/\Bd q=true:=by unfold Bd;rw[qy,ep]
def Zg7(h:Bd p=true)(n:Nat):Bd (p.take n)=true:=by have:=h;rw[<-gk n p,QX]at this;exact this.1
def zi.last(h:zi g ds)(hG:uh g ps)(hd:ds[i]?=some d)(h0:i≠0):
  ∃(j n:Nat) (b:Dr) (e:Edge) (k:Nat) (y:BY) (p:sf),j<i/\ds[j]?=some b/\d.Of=b.Of.take n++[e.Y]/\Ad e.Y=true/\d.rk=k/\1<=k/\g[k]?=some y/\y.Y=e.Y/\ps[k]?=some p/\AH p=true/\p.Y=e.Y:=by
 have hi:=(ec.1 hd).1;obtain⟨j,hj,e,h1,h2,h3⟩:=h.led i hi h0;have a5:j<ds.length:=oM;have a0:ds[j]?=some ds[j]:=dw a5;rw[ET a0]at h1;rw[ET hd]at h3;obtain⟨n,_,h4,_⟩:=Le h2;obtain⟨d',h5,h6⟩:=CN h4;rw[hd]at h5;cases h5;rw[Cb a0]at h6;unfold Ar at h1;split at h1
 .rename_i x hx;obtain⟨k,y,a1,a2,a3,a4⟩:=(hG.rk _ x hx).yv e h1;obtain⟨p,b1,b2,b3,_⟩:=(hG.rk k y a3).td oM;exact⟨j,n,_,e,k,y,p,hj,a0,h6,hG.Y hx h1,oM,a2,a3,a4,b1,b2,b3.Z a4⟩
 .cases h1
def zi.yn(h:zi g ds)(hG:uh g ps):∀(i:Nat)(d:Dr),ds[i]?=some d->Bd d.Of=true:=λi=>by
 induction i using Nat.strongRecOn with
 |ind i ih=>
  intro d hd;by_cases h0:i=0
  .subst h0;rw[h.root]at hd;cases hd;rfl
  .obtain⟨j,n,b,e,_,_,_,h1,h2,h3,h4,_⟩:=h.last hG hd h0;rw[h3,QX];exact⟨Zg7 (ih j h1 b h2) n,by unfold Bd;simp[h4]⟩
def zi.ŕ(h:zi g ds)(hG:uh g ps):ì ds:=
 ⟨λd hd=>by obtain⟨i,hi⟩:=iw hd;exact h.yn hG i d hi,h.one⟩
def TF:∀(a:LU){b:LU},b≠[]->Op.bytesLess a (a++b)=true
 | [],b,h=>by
  cases b with
  |nil=>exact fu rfl h
  |cons c r=>rfl
 |c::a,b,h=>by rw[io,JK,TF a h];simp
def Zmm{x:PU}(h:Bd (p++[x])=true):Ak (B (A0 p)) (B (A0 (p++[x])))=true:=by
 unfold Ak;rw[E9,E9];have hp:=(QX.1 h).1;unfold A0;rw[fb (by simp:p++[x]≠[]),fo h];by_cases h0:p=[]
 .subst h0;rw[fo rfl];rfl
 .rw[fb h0,fo hp];unfold Cc;rw[qb];exact TF _ (by simp[Ð])
def Zml(h:Bd p=true)(h0:p≠[]):Ak (B (A0 [])) (B (A0 p))=true:=by
 unfold Ak;rw[E9,E9];unfold A0;rw[fo rfl,fb h0,fo h];cases p with
 |nil=>exact fu rfl h0
 |cons x p=>rfl
def xp.lt{α:Type}{c:α->α->Int}(hc:vv c){l:List α}(h:xp c l){j:Nat}{a b:α}(hi:l[i]?=some a)(hj:l[j]?=some b)(hl:c a b<0):i<j:=by
 obtain⟨h1,rfl⟩:=ec.1 hi;obtain⟨h2,rfl⟩:=ec.1 hj;have hp:=gn.1 h;obtain h3|h3|h3:=qk i j
 .exact h3
 .subst h3;have:=(hc.flip l[i] l[i]).1 hl;omega
 .have h4:=hp j i h2 h1 h3;have:=(hc.flip l[j] l[i]).1 h4;omega
def zi.ï{es:Ν}(h:zi g ds)(hG:uh g ps)(hs:ze ds es)(d2:ds.length<=257)(d1:∀d∈ds,d.Of=[]\/(A0 d.Of).length<=1024):
  es[0]?=some ⟨[],0⟩/\vr (es.map (AB ps)):=by
 have b0:=h.ŕ hG;have b6:=hs.strict b0;have b7:(es.map (AB ps)).map AF=es:=Hr;have c8:(⟨[],0⟩:Dr)∈ds:=fx h.root;have a0:es[0]?=some ⟨[],0⟩:=by
  obtain⟨i,hi⟩:=iw (hs.1.mem_iff.2 c8);by_cases h0:i=0
  .subst h0;exact hi
  .have c3:=(ec.1 hi).1;have b5:es[0]?=some es[0]:=dw oM;have hm:=hs.1.mem_iff.1 (fx b5);by_cases hp:es[0].Of=[]
   .have:=Ou h.one hm c8 hp;rw[b5,this]
   .have hl:GS ⟨[],0⟩ es[0]<0:=F4.2 (Zml (b0.yn _ hm) hp);have:=b6.lt à hi b5 hl;omega
 have d3:es.length=ds.length:=hs.1.length_eq;have c7:=(ec.1 a0).1;refine⟨a0,⟨by rw[eh];omega,by rw[eh];omega⟩,?_,λi d hd h0=>?_⟩
 .rw[gc,a0];show some (⟨[],ps.getD 0 Ay,0⟩:tx)=_;rw[jk,hG.zero];rfl
 .rw[gc]at hd;obtain⟨b,hb,rfl⟩:=jc.1 hd;have b2:=hs.1.mem_iff.1 (fx hb);obtain⟨i0,b4⟩:=iw b2;have b9:i0≠0:=λhc=>by subst hc;rw[h.root]at b4;cases b4;have c3:=(ec.1 hb).1;have hp:=gn.1 b6 0 i c7 c3 oM;rw[(ec.1 a0).2,(ec.1 hb).2]at hp;have:=(à.flip (⟨[],0⟩:Dr) ⟨[],0⟩).1 hp;omega
  obtain⟨j,n,b',e,k,y,p,a1,a2,a3,a4,a5,a6,a7,a8,a9,c9,d0⟩:=h.last hG b4 b9;have c4:b.Of≠[]:=by rw[a3];simp
  have b8:∀(u v:Nat)(d e:Dr),es[u]?=some d->es[v]?=some e->d.Of=e.Of->u=v:=λu v d e hu hv hp=>by have:=Ou h.one (hs.1.mem_iff.1 (fx hu)) (hs.1.mem_iff.1 (fx hv)) hp;subst this;exact(List.getElem?_inj (ec.1 hu).1 (hs.1.nodup_iff.2 b0.nodup)).1 (hu.Z hv.H)
  have c6:ps.getD b.rk Ay=p:=by rw[a5,jk,a9];rfl
  refine⟨c4,b0.yn b b2,?_,?_,?_,?_,?_,?_⟩
  .obtain h1|h1:=d1 b b2
   .exact fu h1 c4
   .exact h1
  .show(1:Int)<=(b.rk:Int);omega
  .rw[b7];show Az es b.Of=some i;obtain⟨u,hu⟩:=Kw (ds:=es) ⟨b,fx hb,rfl⟩;obtain⟨c,h1,h2⟩:=CN hu;rw[hu,b8 u i c b h1 hb h2]
  .rw[b7];show ∃h,h<i/\Az es b.Of.dropLast=some h;rw[a3,nt];obtain⟨v,_,h2⟩:=h.up i0 b (b'.Of.take n) e.Y b4 a3;obtain⟨c,h3,h4⟩:=CN h2;obtain⟨u,hu⟩:=Kw (ds:=es) ⟨c,hs.1.mem_iff.2 (fx h3),h4⟩;obtain⟨c',h5,h6⟩:=CN hu;refine⟨u,b6.lt à h5 hb (F4.2 ?_),hu⟩;have c5:=b0.yn b b2;unfold HH;rw[h6,a3];rw[a3]at c5;exact Zmm c5
  .show AH (ps.getD b.rk Ay)=true;rwa [c6]
  .show b.Of.getLast? =some (ps.getD b.rk Ay).Y;rw[c6,d0,a3];simp
structure PC where
 u:Sl
 ps:Sl
 l1:Int
 l2:Int
 l3:Int
 l4:Int
 ol:Wd
 dr:Sl
 st:Sl
def PC.c(c:PC):LV:=[c.u.v,c.ps.v,vi c.l1,vi c.l2,vi c.l3,vi c.l4,.pointer c.ol,c.dr.v,c.st.v]
def yu(w:Qd)(S:Nat->Prop):Option (Θ)->Wd->Prop
 |none,none=>True
 |some T,some a=>S a.block/\∃so,se w a [Sl.v so]/\IT vm w S so T
 |_,_=>False
structure ħ(E:xh Ż)(w:Qd)(p:LP)(S:Nat->Prop)(c:PC)(G:Ζ)(P:Κ)(tf:Option (Θ))(s:vq):Prop where
 box:AT w p c.c
 g:IT ud w S c.u G
 pk:IT wq w S c.ps P
 dr:IT vm w S c.dr (s.By.map (AB P))
 st:IT E w S c.st s.done
 tf:yu w S tf c.ol
 lt:Old S w
section
variable {E:xh Ż} {w w':Qd} {p:LP} {S:Nat->Prop} {c:PC} {G:Ζ} {P:Κ} {tf:Option (Θ)} {s:vq}
def yu.U(h:yu w S tf ol)(hx:AI w w'):yu w' S tf ol:=by
 unfold yu at*;split at h
 .trivial
 .obtain⟨h1,so,h2,h3⟩:=h;exact⟨h1,so,h2.U hx,h3.U hx⟩
 .exact h
def ħ.U(h:ħ E w p S c G P tf s)(hx:AI w w'):ħ E w' p S c G P tf s:=⟨h.box.U hx,h.g.U hx,h.pk.U hx,h.dr.U hx,h.st.U hx,h.tf.U hx,h.lt.U hx.size⟩
def ħ.ld(h:ħ E w p S c G P tf s)(hx:AI w w')(k:Nat){r:LV}(hp:c.c.drop k=cs++r):se w' (p.add k) cs:=h.box.at1 hx hp
def ħ.ld0(h:ħ E w p S c G P tf s)(hx:AI w w'):se w' p [c.u.v]:=h.box.at0 hx rfl
def F6(h:ħ E w p S c G P tf s):c.dr.len=s.By.length:=by rw[h.dr.len,eh]
def ħ.xt(h:ħ E w p S c G P tf s)(hi:i<s.By.length):
  ∃ad q d e o,c.dr.a=some ad/\S ad.block/\Ac (P.getD s.By[i].rk Ay).Y/\IT vx w S q s.By[i].Of/\IT rq w S d (P.getD s.By[i].rk Ay).sj/\IT rq w S e (P.getD s.By[i].rk Ay).sw/\IT rq w S o (P.getD s.By[i].rk Ay).ut/\
   ∀w',AI w w'->se w' (ad.add (i*9)) [q.v,.string (P.getD s.By[i].rk Ay).Y,.int .i64 (P.getD s.By[i].rk Ay).v.ma,.int .i64 (P.getD s.By[i].rk Ay).v.mi,.int .i64 (P.getD s.By[i].rk Ay).v.pa,d.v,e.v,o.v,vi (s.By[i].rk:Int)]:=by
 have hl:i<(s.By.map (AB P)).length:=by simpa using hi
 have:=Go.Hal.xt h.dr hl;rw[nx]at this;exact this
end
def N6{s:Sl}(hS:Old S w)(hs:IT vx w S s p)(hR:∀t w',AI w w'->rl vx 9 w' w.heap.size rz t p->R t w'):G1 s w R:=by
 unfold G1;refine⟨λh=>?_,λh=>?_⟩
 .have:p=[]:=by
   rcases hs.2.2.2.2 with h0|⟨ad,h1,_⟩
   .exact h0
   .rw[h]at h1;cases h1
  subst this;exact hR _ _ xR (rl.zero _)
 .intro a w1 ha hw;subst ha;have x1:AI w w1:=hw▸AI.alloc _ _;have ux:rl vx 9 w1 w.heap.size rz ⟨some ⟨w.heap.size,0,none⟩,0,0⟩ []:=hw▸rl.empty w;refine ux.zj GN x1.size (hs.U x1) (hS.U x1.size) (λad ha hb=>?_) (by simpa using hs.2.2.2.1) (by simpa using hs.max) λr w2 a0 vd _ _=>?_
  .simp only[ff]at ha;subst ha;have:=hS _ hb;simp at this
  .exact hR r w2 (x1.A vd) (rl.flat (λh=>h) a0)
end Go.Hal
namespace Go.Hal
def VM(h:Ad n=true):n≠ta.Y:=by rintro rfl;revert h;unfold Ad;rw[show Ag ta.Y ⟨#[]⟩=true from AA.2 rfl];simp
def Ya{ru a b:Ι}(hn:((a++b).map (·.Y)).Nodup)(hm:∀d∈a++b,Ad d.Y=true):((Ea ru a b).map uu.Y).Nodup/\∀w∈Ea ru a b,Ad w.Y=true/\(w.ss=1\/w.ss=2):=by
 unfold Ea;have hp:=FK (c:=cW) (a.map (DZ 1 ru)++b.map (DZ 2 ru));refine⟨(hp.map uu.Y).nodup_iff.2 ?_,λw hw=>?_⟩
 .have:(a.map (DZ 1 ru)++b.map (DZ 2 ru)).map uu.Y=(a++b).map (·.Y):=by rw[gd,gd,jj,jj];rfl
  rwa [this]
 .rcases fj.1 (hp.mem_iff.1 hw)with h|h
  .obtain⟨d,hd,rfl⟩:=gv.1 h;exact⟨hm d (ib _ hd),.inl rfl⟩
  .obtain⟨d,hd,rfl⟩:=gv.1 h;exact⟨hm d (jy _ hd),.inr rfl⟩
def Nr{a b:Ι}(ha:Ax a=true)(hb:Ax b=true)(h:BC a b=true):((a++b).map (·.Y)).Nodup/\∀d∈a++b,Ad d.Y=true:=by
 refine⟨?_,λd hd=>?_⟩
 .rw[gd,ja];exact⟨um ha,um hb,Ee.1 h⟩
 .obtain hd|hd:=fj.1 hd
  .exact((BE ha).2 d hd).1
  .exact((BE hb).2 d hd).1
def Yc{q:IS}(hG:vl q.L)(hm:AV q.m=true)(ns:Ζ)(k:Nat):((q.sx ns k).map uu.Y).Nodup/\∀w∈q.sx ns k,Ad w.Y=true/\(w.ss=1\/w.ss=2):=by
 unfold IS.sx MS;split
 .obtain⟨h1,h2,h3,_,h4⟩:=QT hm;unfold Oo at h4;simp only[ep]at h4;obtain⟨⟨a1,a2⟩,a3⟩:=h4;refine Ya ?_ ?_
  .unfold Dy;split
   .rw[gd,gd,ja,ja];refine⟨⟨um h1,um h2,Ee.1 a1⟩,um h3,λx hx y hy=>?_⟩;obtain hx|hx:=fj.1 hx
    .exact Ee.1 a2 x hx y hy
    .exact Ee.1 a3 x hx y hy
   .exact(Nr h1 h3 a2).1
  .unfold Dy;split
   .intro d hd;obtain hd|hd:=fj.1 hd
    .exact(Nr h1 h2 a1).2 d hd
    .exact((BE h3).2 d hd).1
   .exact(Nr h1 h3 a2).2
 .split
  .exact⟨by simp,λw hw=>by cases hw⟩
  .split
   .exact⟨by simp,λw hw=>by cases hw⟩
   .rename_i p hp;have:=hG.vt p (Gd hp).1;unfold AH Cj EE at this;simp only[ep]at this;obtain⟨⟨⟨⟨_,d1⟩,d2⟩,d3⟩,⟨⟨_,b2⟩,_⟩,_⟩:=this;obtain⟨q1,q2⟩:=Nr d1 d3 b2;exact Ya q1 q2
open Go.MapKept
end Go.Hal
namespace Go.Hal
def Pj(s:vq):Prop:=∀t∈s.done,t.tz<s.By.length/\t.dst<s.By.length
def T9(q:sy)(n:PU):Ag q.Y n=As n q:=by rw[ij,AA];unfold As;simp
def yu.none_{tf:Option (Θ)}(h:yu w S tf none):tf=none:=by
 cases tf with
 |none=>rfl
 |some T=>exact h.F
def yu.some_{tf:Option (Θ)}(h:yu w S tf ol)(h0: ¬ol=none):∃ao T,ol=some ao/\tf=some T/\S ao.block/\∃so,se w ao [Sl.v so]/\IT vm w S so T:=by
 cases ol with
 |none=>exact fu rfl h0
 |some ao=>
  cases tf with
  |none=>exact h.F
  |some T=>exact⟨ao,T,rfl,rfl,h⟩
def Hq(tf:Option (Θ))(P:Κ)(p:Ap)(k:Nat):Bool:=match tf with
 |none=>false
 |some T=>match Az (T.map AF) p with
  |none=>false
  |some j=>decide (T[j]?.map tx.td=P[k]?)
def Cl(L:Κ)(g:Ζ):Κ:=(List.range g.length).map λi=>if i=0 then Ay else match g[i]? with
 |some x=>(AJ L x.Y x.v).getD Ay
 |none=>Ay
def Zh2{L:Κ}{x:BY}(hx:g[i]?=some x)(h0:i≠0):(Cl L g)[i]?=some ((AJ L x.Y x.v).getD Ay):=by have hi:=(ec.1 hx).1;unfold Cl;rw[gc,List.getElem?_range hi,ir,fb h0,hx]
def Sol.td{q:IS}(h:Sol q g)(hL:vl q.L){x:BY}(hx:g[i]?=some x)(h0:i≠0):∃p,(Cl q.L g)[i]?=some p/\AH p=true/\p.Y=x.Y/\p.v=x.v:=by obtain⟨p,hp⟩:=Option.isSome_iff_exists.1 (h.there i x hx h0);obtain⟨h1,h2,h3⟩:=Gd hp;exact⟨p,by rw[Zh2 hx h0,hp];rfl,hL.vt p h1,h2,h3⟩
def Zhz{p:sf}(h:AH p=true):p.v.vt=true:=by unfold AH Cj at h;simp only[ep]at h;exact h.1.1.1.1.2
def Sol.Xdi{q:IS}(h:Sol q g):C0 g:=by have hl:=h.formed.len;refine⟨oM,λx hx e he=>?_⟩;obtain⟨i,hi⟩:=iw hx;obtain⟨j,y,h1,h2,h3,_⟩:=(h.formed.tn i x hi).to e he;have:=(ec.1 h3).1;omega
def Sol.lock{q:IS}(h:Sol q g)(hL:vl q.L)(hb:∀x∈g,x.sd.length<=128):ya g:=by
 have hl:=h.formed.len;have a0:∀i x,g[i]?=some x->i≠0->Ad x.Y=true/\x.v.vt=true:=λi x hx h0=>by obtain⟨p,_,h2,h3,h4⟩:=h.td hL hx h0;exact⟨by rw[<-h3];exact Wk h2,by rw[<-h4];exact Zhz h2⟩
 refine⟨hl,h.formed.root,a0,λx hx=>?_⟩;obtain⟨i,hi⟩:=iw hx;have hn:=h.formed.tn i x hi;have a4:∀e∈x.sd,Ad e.Y=true/\1<=e.to/\e.to<(g.length:Int):=λe he=>by obtain⟨j,y,h1,h2,h3,h4⟩:=hn.to e he;have:=(ec.1 h3).1;exact⟨by rw[<-h4];exact(a0 j y h3 oM).1,oM,oM⟩
 have a5:x.uk.length<=x.sd.length:=by
  have:=EU hn.uk.nodup (m:=x.sd.map Edge.Y) λn hm=>by obtain⟨p,hp,rfl⟩:=gv.1 hm;obtain⟨y,hy,_⟩:=(h.tn i x hi).uk p hp;obtain⟨ed,h1,h2,_⟩:=Kc hy;exact gv.2 ⟨ed,h1,h2⟩
  simpa using this
 refine⟨hn.uk,λp hp=>?_,by have:=hb x hx;omega,hn.ĸ,a4,hb x hx⟩;obtain⟨y,hy,hv⟩:=(h.tn i x hi).uk p hp;obtain⟨ed,h1,h2,h3⟩:=Kc hy;obtain⟨j,z,e1,e2,e3,e4⟩:=hn.to ed h1;rw[e1,fa,e3]at h3;cases h3;exact⟨by rw[<-h2];exact(a4 ed h1).1,by rw[<-hv];exact(a0 j _ e3 oM).2⟩
def Sol.ö{q:IS}(h:Sol q g):∀x∈g,x.sd.length<=128:=λx hx=>by
 obtain⟨i,hi⟩:=iw hx;have hn:=h.formed.tn i x hi;have a5:(x.sd.map λe=>e.to.toNat).Nodup:=by rw[ii,iv];refine List.Pairwise.imp_of_mem (λ{a b} ha hb a0 he=>?_) hn.ĸ;obtain⟨j,y,a1,a2,a3,a4⟩:=hn.to a ha;obtain⟨k,z,b1,b2,b3,b4⟩:=hn.to b hb;have:j=k:=oM;subst this;rw[a3]at b3;cases b3;exact EG a0 (a4.H.Z b4)
 have:=EU (m:=List.range g.length) a5 λn hm=>by obtain⟨e,he,rfl⟩:=gv.1 hm;obtain⟨j,y,a1,a2,a3,a4⟩:=hn.to e he;have:=(ec.1 a3).1;exact ly.2 oM
 have hl:=h.formed.len;simp only[eh,List.length_range]at this;omega
def Dc(G:Ζ)(P:Κ)(tf:Option (Θ))(D M:Int):Ľ:=⟨G,Hq tf P,λp=>(A0 p).length,M,D⟩
def Ĭ:vq:=⟨[⟨[],0⟩],[]⟩
def Fu(D M:Int):Prop:=1<=D/\D<=256/\1<=M/\M<=1024
def HR(tf:Option (Θ)):Prop:=∀T,tf=some T->vr T
inductive uw (G:Ζ) (P:Κ) (tf:Option (Θ)) (D M:Int):Int->Θ->Prop
 |arg: ¬Fu D M->uw G P tf D M 1 []
 |ï:Fu D M-> ¬HR tf->uw G P tf D M 42 []
 |wy:Fu D M->HR tf-> ¬uh G P->uw G P tf D M 33 []
 |stop {c:Int} {s:vq}:Fu D M->HR tf->uh G P->vg (Dc G P tf D M) 0 Ĭ c s->c≠0->uw G P tf D M c []
 |ok {s:vq} {es:Ν}:Fu D M->HR tf->uh G P->vg (Dc G P tf D M) 0 Ĭ 0 s->ze s.By es->uw G P tf D M 0 (es.map (AB P))
def uh.Ř(h:uh g ps):ď g:=by
 have hl:=h.len;refine⟨oM,λx hx=>?_,λx hx e he=>?_⟩
 .obtain⟨i,hi⟩:=iw hx;exact(h.rk i x hi).sd
 .obtain⟨i,hi⟩:=iw hx;obtain⟨j,y,h1,_,h3,_⟩:=(h.rk i x hi).yv e he;have:=(ec.1 h3).1;omega
def uw.one{G:Ζ}{P:Κ}{tf:Option (Θ)}{D M c d:Int}{T U:Θ}(h:uw G P tf D M c T)(k:uw G P tf D M d U):c=d/\T=U:=by
 cases h with
 |arg h1=>
  cases k with
  |arg=>exact⟨rfl,rfl⟩
  |ï k1=>exact fu k1 h1
  |wy k1=>exact fu k1 h1
  |stop k1=>exact fu k1 h1
  |ok k1=>exact fu k1 h1
 |ï h1 h2=>
  cases k with
  |arg k1=>exact fu h1 k1
  |ï=>exact⟨rfl,rfl⟩
  |wy k1 k2=>exact fu k2 h2
  |stop k1 k2=>exact fu k2 h2
  |ok k1 k2=>exact fu k2 h2
 |wy h1 h2 h3=>
  cases k with
  |arg k1=>exact fu h1 k1
  |ï k1 k2=>exact fu h2 k2
  |wy=>exact⟨rfl,rfl⟩
  |stop k1 k2 k3=>exact fu k3 h3
  |ok k1 k2 k3=>exact fu k3 h3
 |stop h1 h2 h3 h4 h5=>
  cases k with
  |arg k1=>exact fu h1 k1
  |ï k1 k2=>exact fu h2 k2
  |wy k1 k2 k3=>exact fu h3 k3
  |stop k1 k2 k3 k4 k5=>exact⟨(h4.one k4).1,rfl⟩
  |ok k1 k2 k3 k4 k5=>exact fu (h4.one k4).1 h5
 |ok h1 h2 h3 h4 h5=>
  cases k with
  |arg k1=>exact fu h1 k1
  |ï k1 k2=>exact fu h2 k2
  |wy k1 k2 k3=>exact fu h3 k3
  |stop k1 k2 k3 k4 k5=>exact fu (h4.one k4).1.H k5
  |ok k1 k2 k3 k4 k5=>have e:=(h4.one k4).2;subst e;have hd:=(vg.Ý (Α:=Dc G P tf D M) h3.Ř h4).ŕ h3;exact⟨rfl,by rw[h5.one hd k5]⟩
def B8:yr:=⟨⟨[],[],[],[]⟩,[],false,false⟩
def UW(m:vu)(n:PU):Bool:=CA m.sj n||(CA m.uo n||CA m.ut n)
def P9(m:vu)(OF:Η)(pr:Bool)(x:wg)(r:Option (Λ)):Int×yr:=
 if x.op=2 then(0,⟨m,[],false,false⟩)
 else if x.op=3 then(if Ad x.Y=false then(23,B8)else match r with
  |none=>(21,B8)
  |some l=>if x.ss<0\/2<x.ss then(1,B8)else if AV (Fx m x.ss ⟨x.Y,l⟩)=false then(26,B8)else(0,⟨Fx m x.ss ⟨x.Y,l⟩,OF,true,pr&& !decide (x.ss=1)⟩))
 else if x.op=4 then(if Ad x.Y=false then(23,B8)else if UW m x.Y=false then(50,B8)else(0,⟨JH m x.Y,OF,true,pr⟩))
 else if x.op=5 then(if x.Y=⟨#[]⟩then(0,⟨m,[],true,pr⟩)else if Ad x.Y=false then(23,B8)else if OF.any (As x.Y)=false then(50,B8)else(0,⟨m,OF.filter (λp=>!As x.Y p),true,pr⟩))
 else if x.op=6 then(0,⟨m,OF,false,pr⟩)
 else if x.op=7 then(0,⟨m,OF,true,true⟩)
 else if x.op=8 then(if Ad x.Y=false then(23,B8)else if x.range=⟨#[]⟩then(if CA m.ru x.Y=false then(50,B8)else(0,⟨⟨m.sj,m.uo,m.ut,BB m.ru x.Y⟩,OF,true,pr⟩))else match r with
  |none=>(21,B8)
  |some l=>if AV ⟨m.sj,m.uo,m.ut,xq m.ru ⟨x.Y,l⟩⟩=false then(26,B8)else(0,⟨⟨m.sj,m.uo,m.ut,xq m.ru ⟨x.Y,l⟩⟩,OF,true,pr⟩))
 else(51,B8)
def wv.eq{OF:Η}{pr:Bool}{x:wg}{c:Int}{j:yr}(h:wv m OF pr x r c j):(P9 m OF pr x r).1=c/\(c=0->(P9 m OF pr x r).2=j):=by
 unfold P9 UW;cases h with
 |ē h=>rw[fo h];exact⟨rfl,λ_=>rfl⟩
 |ť h h1=>rw[fb oM,fo h,fo h1];exact⟨rfl,nO⟩
 |addRange h h1 h2=>rw[fb oM,fo h,fb (by rw[h1];decide),h2];exact⟨rfl,nO⟩
 |Ť h h1 h2 h3=>rw[fb oM,fo h,fb (by rw[h1];decide),h2];dsimp only;rw[fo h3];exact⟨rfl,nO⟩
 |ţ h h1 h2 h3 h4 h5=>rw[fb oM,fo h,fb (by rw[h1];decide),h2];dsimp only;rw[fb oM,fo h5];exact⟨rfl,nO⟩
 |add h h1 h2 h3 h4 h5=>rw[fb oM,fo h,fb (by rw[h1];decide),h2];dsimp only;rw[fb oM,fb (by rw[h5];decide)];exact⟨rfl,λ_=>rfl⟩
 |ů h h1=>rw[fb oM,fb oM,fo h,fo h1];exact⟨rfl,nO⟩
 |Ű h h1 h2=>rw[fb oM,fb oM,fo h,fb (by rw[h1];decide),fo h2];exact⟨rfl,nO⟩
 |rem h h1 h2=>rw[fb oM,fb oM,fo h,fb (by rw[h1];decide),fb (by rw[h2];decide)];exact⟨rfl,λ_=>rfl⟩
 |Š h h1=>rw[fb oM,fb oM,fb oM,fo h,fo h1];exact⟨rfl,λ_=>rfl⟩
 |Ŵ h h1 h2=>rw[fb oM,fb oM,fb oM,fo h,fb h1,fo h2];exact⟨rfl,nO⟩
 |ŵ h h1 h2 h3=>rw[fb oM,fb oM,fb oM,fo h,fb h1,fb (by rw[h2];decide),fo h3];exact⟨rfl,nO⟩
 |upd h h1 h2 h3=>rw[fb oM,fb oM,fb oM,fo h,fb h1,fb (by rw[h2];decide),fb (by rw[h3];decide)];exact⟨rfl,λ_=>rfl⟩
 |Ŕ h=>rw[fb oM,fb oM,fb oM,fb oM,fo h];exact⟨rfl,λ_=>rfl⟩
 |prune h=>rw[fb oM,fb oM,fb oM,fb oM,fb oM,fo h];exact⟨rfl,λ_=>rfl⟩
 |Xa8 h h1=>rw[fb oM,fb oM,fb oM,fb oM,fb oM,fb oM,fo h,fo h1];exact⟨rfl,nO⟩
 |Xba h h1 h2 h3=>rw[fb oM,fb oM,fb oM,fb oM,fb oM,fb oM,fo h,fb (by rw[h1];decide),fo h2,fo h3];exact⟨rfl,nO⟩
 |Xa9 h h1 h2 h3=>rw[fb oM,fb oM,fb oM,fb oM,fb oM,fb oM,fo h,fb (by rw[h1];decide),fo h2,fb (by rw[h3];decide)];exact⟨rfl,λ_=>rfl⟩
 |ŭ h h1 h2 h3=>rw[fb oM,fb oM,fb oM,fb oM,fb oM,fb oM,fo h,fb (by rw[h1];decide),fb h2,h3];exact⟨rfl,nO⟩
 |Xa7 h h1 h2 h3 h4=>rw[fb oM,fb oM,fb oM,fb oM,fb oM,fb oM,fo h,fb (by rw[h1];decide),fb h2,h3];dsimp only;rw[fo h4];exact⟨rfl,nO⟩
 |ov h h1 h2 h3 h4=>rw[fb oM,fb oM,fb oM,fb oM,fb oM,fb oM,fo h,fb (by rw[h1];decide),fb h2,h3];dsimp only;rw[fb (by rw[h4];decide)];exact⟨rfl,λ_=>rfl⟩
 |op h=>rw[fb oM,fb oM,fb oM,fb oM,fb oM,fb oM,fb oM];exact⟨rfl,nO⟩
def wv.one{OF:Η}{pr:Bool}{x:wg}{c d:Int}{j k:yr}(h:wv m OF pr x r c j)(h':wv m OF pr x r d k):c=d/\(c=0->j=k):=by obtain⟨h1,h2⟩:=h.eq;obtain⟨k1,k2⟩:=h'.eq;exact⟨h1.H.Z k1,λe=>(h2 e).H.Z (k2 (k1.H.Z (h1.Z e)))⟩
structure ō where
 code:Int
 dec:Int
 tn:Int
 By:Int
def Eb(D N Di P:Int):Prop:=1<=D/\D<=4096/\1<=N/\N<=128/\Fu Di P
inductive đ (L:Κ) (s:è) (x:wg) (r:Option (Λ)) (D N Di P:Int):ō->è->Prop
 |arg: ¬(Eb D N Di P/\Ì s)->đ L s x r D N Di P ⟨1,0,0,0⟩ s
 |ask {OF:Η} {c:Int} {j:yr}:Eb D N Di P->Ì s->uz s.g OF->wv s.m OF s.IN x r c j->c≠0->đ L s x r D N Di P ⟨c,0,0,0⟩ s
 |find {OF:Η} {j:yr}:Eb D N Di P->Ì s->uz s.g OF->wv s.m OF s.IN x r 0 j->(A4 L j.m (!j.IN) j.OF D N).code≠0->đ L s x r D N Di P ⟨(A4 L j.m (!j.IN) j.OF D N).code,0,0,0⟩ s
 |place {OF:Η} {j:yr} {c:Int} {T:Θ}:Eb D N Di P->Ì s->uz s.g OF->wv s.m OF s.IN x r 0 j->(A4 L j.m (!j.IN) j.OF D N).code=0->
   uw (A4 L j.m (!j.IN) j.OF D N).ns (Cl L (A4 L j.m (!j.IN) j.OF D N).ns) (if j.ry then some s.T else none) Di P c T->c≠0->đ L s x r D N Di P ⟨c,0,0,0⟩ s
 |ok {OF:Η} {j:yr} {T:Θ}:Eb D N Di P->Ì s->uz s.g OF->wv s.m OF s.IN x r 0 j->(A4 L j.m (!j.IN) j.OF D N).code=0->
   uw (A4 L j.m (!j.IN) j.OF D N).ns (Cl L (A4 L j.m (!j.IN) j.OF D N).ns) (if j.ry then some s.T else none) Di P 0 T->
   đ L s x r D N Di P ⟨0,(A4 L j.m (!j.IN) j.OF D N).dec,((A4 L j.m (!j.IN) j.OF D N).ns.length:Int),(T.length:Int) - 1⟩ ⟨j.m,(A4 L j.m (!j.IN) j.OF D N).ns,T,j.IN⟩
def đ.one{L:Κ}{s:è}{x:wg}{D N Di P:Int}{a b:ō}{t u:è}(h:đ L s x r D N Di P a t)(k:đ L s x r D N Di P b u):a=b/\t=u:=by
 cases h with
 |arg h1=>
  cases k with
  |arg=>exact⟨rfl,rfl⟩
  |ask k1 k2=>exact fu ⟨k1,k2⟩ h1
  |find k1 k2=>exact fu ⟨k1,k2⟩ h1
  |place k1 k2=>exact fu ⟨k1,k2⟩ h1
  |ok k1 k2=>exact fu ⟨k1,k2⟩ h1
 |ask h1 h2 h3 h4 h5=>
  cases k with
  |arg k1=>exact fu ⟨h1,h2⟩ k1
  |ask k1 k2 k3 k4 k5=>have e:=h3.one k3;subst e;rw[(h4.one k4).1];exact⟨rfl,rfl⟩
  |find k1 k2 k3 k4=>have e:=h3.one k3;subst e;exact fu (h4.one k4).1 h5
  |place k1 k2 k3 k4=>have e:=h3.one k3;subst e;exact fu (h4.one k4).1 h5
  |ok k1 k2 k3 k4=>have e:=h3.one k3;subst e;exact fu (h4.one k4).1 h5
 |find h1 h2 h3 h4 h5=>
  cases k with
  |arg k1=>exact fu ⟨h1,h2⟩ k1
  |ask k1 k2 k3 k4 k5=>have e:=h3.one k3;subst e;exact fu (h4.one k4).1.H k5
  |find k1 k2 k3 k4=>have e:=h3.one k3;subst e;rw[(h4.one k4).2 rfl];exact⟨rfl,rfl⟩
  |place k1 k2 k3 k4 k5=>have e:=h3.one k3;subst e;rw[(h4.one k4).2 rfl]at h5;exact fu k5 h5
  |ok k1 k2 k3 k4 k5=>have e:=h3.one k3;subst e;rw[(h4.one k4).2 rfl]at h5;exact fu k5 h5
 |place h1 h2 h3 h4 h5 h6 h7=>
  cases k with
  |arg k1=>exact fu ⟨h1,h2⟩ k1
  |ask k1 k2 k3 k4 k5=>have e:=h3.one k3;subst e;exact fu (h4.one k4).1.H k5
  |find k1 k2 k3 k4 k5=>have e:=h3.one k3;subst e;rw[<-(h4.one k4).2 rfl]at k5;exact fu h5 k5
  |place k1 k2 k3 k4 k5 k6=>have e:=h3.one k3;subst e;have e:=(h4.one k4).2 rfl;subst e;rw[(h6.one k6).1];exact⟨rfl,rfl⟩
  |ok k1 k2 k3 k4 k5 k6=>have e:=h3.one k3;subst e;have e:=(h4.one k4).2 rfl;subst e;exact fu (h6.one k6).1 h7
 |ok h1 h2 h3 h4 h5 h6=>
  cases k with
  |arg k1=>exact fu ⟨h1,h2⟩ k1
  |ask k1 k2 k3 k4 k5=>have e:=h3.one k3;subst e;exact fu (h4.one k4).1.H k5
  |find k1 k2 k3 k4 k5=>have e:=h3.one k3;subst e;rw[<-(h4.one k4).2 rfl]at k5;exact fu h5 k5
  |place k1 k2 k3 k4 k5 k6 k7=>have e:=h3.one k3;subst e;have e:=(h4.one k4).2 rfl;subst e;exact fu (h6.one k6).1.H k7
  |ok k1 k2 k3 k4 k5 k6=>have e:=h3.one k3;subst e;have e:=(h4.one k4).2 rfl;subst e;rw[(h6.one k6).2];exact⟨rfl,rfl⟩
structure za(w:Qd)(S:Nat->Prop)(d e o v:Sl)(m:vu):Prop where
 d:IT rq w S d m.sj
 e:IT rq w S e m.uo
 o:IT rq w S o m.ut
 v:IT rq w S v m.ru
def za.U{d e v:Sl}(h:za w S d e o v m)(hx:AI w w'):za w' S d e o v m:=⟨h.d.U hx,h.e.U hx,h.o.U hx,h.v.U hx⟩
def za.O{S':Nat->Prop}{d e v:Sl}(h:za w S d e o v m)(hs:∀b,S b->S' b):za w S' d e o v m:=⟨h.d.O hs,h.e.O hs,h.o.O hs,h.v.O hs⟩
def J8(m:vu):Prop:=m.sj.length<=999/\m.uo.length<=999/\m.ut.length<=999/\m.ru.length<=999
def Ni(m:vu):Prop:=xw m.sj/\xw m.uo/\xw m.ut/\xw m.ru
def Jz(l:Ι)(n:PU):(BB l n).length<=l.length:=jo _ _
def za.J{g:Nat}{d e v:Sl}(h:za w S d e o v m)(hb:ur g w w')(hn: ¬S g):za w' S d e o v m:=⟨h.d.J hb hn,h.e.J hb hn,h.o.J hb hn,h.v.J hb hn⟩
def Zoe:∀w,(zeroValue 150).run prog w= .ok (.agg #[.string Ϣ,vi 0,vi 0,vi 0]) w:=λw=>by kernel_rfl
def Zaj{s:Sl}{l:Η}{d:sy->Bool}(h:tk AY 40 w lo s l)(a5:lo<=w.heap.size)(c7:∀q∈l,Ac q.Y)
  (hf:∀x∈l,∀w' (k:Ã),Below lo w w'->(∀ad,s.a=some ad->ur ad.block w w')->(s.a=none->AI w w')->(∀d0,AI w' d0->k (.bool (d x)) d0)->ug prog f [.agg #[.string x.Y,vi x.v.ma,vi x.v.mi,vi x.v.pa]] w' k)
  (hR:∀t w',Below lo w w'->(∀ad,s.a=some ad->ur ad.block w w')->(s.a=none->AI w w')->(∀ad,t.a=some ad->∃b9,s.a=some b9/\ad.block=b9.block)->tk AY 40 w' lo t (l.filter λx=>!d x)->R t w'):Mp s f w R:=by
 unfold Mp;have hs:=h.I (E:=uy) (λ_=>rfl) (λ_ _ x hx=>⟨rfl,c7 x hx⟩);refine HC.V (Ā (p:=d) hs (λx hx w' k b0 hk=>hf x hx w' k (Below.O b0 a5) (λ_ _=>b0.J _) (λ_=>b0) hk) λw1 x1=>⟨_,rfl,λh1=>?_,λh1=>?_⟩)
 .have:l.any d=false:=by rw[<-F9,h1];decide
  exact hR s w1 (Below.O x1 a5) (λad _=>x1.J _) (λ_=>x1) (λad h=>⟨ad,h,rfl⟩) (by rw[Iy this];exact h.U x1)
 obtain⟨n,hn,e,ht,hp⟩:=KK h1;rw[e];obtain⟨k1,k2,k3,k4,k5⟩:=h;obtain⟨g,tail,ha,hg,hr⟩:∃g tail,s.a=some ⟨g,0,none⟩/\lo<=g/\tm AY w g l tail:=by
  obtain k5|k5:=k5
  .subst k5;simp at hn
  .exact k5
 have hk:∀x:sy,(AY x).length=4:=λ_=>rfl;have c4:(l.take (n+1)).filter (λx=>!d x)=l.take n:=by rw[dz hn,kr,Iy ht];simp[hp]
 rw[Ai oM (by unfold Ab at k4;omega)];refine⟨λi j w'=>∃(i' j':Nat) (z:Η),i=(i':Int)/\j=(j':Int)/\i'<j'/\j'<=l.length/\z.length=l.length/\i'=((l.take j').filter λx=>!d x).length/\z.take i'=(l.take j').filter (λx=>!d x)/\z.drop j'=l.drop j'/\ur g w w'/\tm AY w' g z tail,
  λ_ j _=>l.length - j.toNat,⟨n,n+1,l,rfl,oM,oM,oM,rfl,by rw[c4,fk];omega,by rw[c4],rfl,x1.J g,hr.U x1⟩,?_⟩
 rintro _ _ w2 ⟨i,j,z,rfl,rfl,d2,hj,c9,hi,a6,c8,b2,a4⟩;refine⟨λd9=>join.named λΓ hJ=>?_,λd7=>?_⟩
 .have a0:j<l.length:=oM;have ej:Aa ((j:Int)+1)=((j+1:Nat):Int):=by rw[Ai oM (by unfold Ab at k4;omega)];omega
  have a7:z.drop (j+1)=l.drop (j+1):=by rw[<-lh,c8,lh]
  have c5:(l.take (j+1)).filter (λx=>!d x)=(l.take j).filter (λx=>!d x)++[l[j]].filter (λx=>!d x):=by rw[dz a0,kr]
  have kJ:∀(i':Nat)(w':Qd)(z':Η),i'<j+1->z'.length=l.length->z'.take i'=(l.take (j+1)).filter (λx=>!d x)->z'.drop (j+1)=l.drop (j+1)->ur g w w'->tm AY w' g z' tail->Γ (i':Int) w':=λi' w' z' q1 q2 q3 q4 q5 q6=>by subst hJ;show _/\_;rw[ej];exact⟨⟨i',j+1,z',rfl,rfl,q1,oM,q2,by rw[<-q3,fk];omega,q3,q4,q5,q6⟩,by show _ - Int.toNat _<_ - Int.toNat _;omega⟩
  clear hJ;have d5:z[j]?=some l[j]:=by have h1:z[j]?=(z.drop j)[0]? :=(by rw[mo,lq]);rw[h1,c8,mo,lq];exact dw a0
  refine⟨_,⟨ha,oM,oM⟩,_,_,_,_,a4.Ě hk d5,An.intro λa w3 x3 a8 d6 _=>tj.intro a8 sI λw4 b4 _ c3=>⟨_,_,_,_,c3.se.pre rfl,?_⟩⟩;have b7:AI w2 w4:=b4.U x3 oM;have s2:=b2.1;have hm:l[j]∈l:=fm a0;refine hf _ hm w4 _ ((b2.Z (b7.J g)).below a5 hg) (λad h=>by rw[ha]at h;cases h;exact b2.Z (b7.J g)) (λh=>by rw[ha]at h;cases h) λw5 x5=>⟨_,rfl,λhd=>?_,λhd=>?_⟩
  all_goals
   have b8:=b7.Z x5;have s5:=b8.size;have b5:ur g w w5:=b2.Z (b8.J g);have c6:=a4.U b8
  .have a9:d l[j]=false:=(by simpa using hd);refine⟨_,_,_,_,(c3.U x5).se.pre rfl,_,⟨ha,oM,oM⟩,c6.st hk (i:=i) (x:=l[j]) oM λw6 b6 d3=>?_⟩;have ei:Aa ((i:Int)+1)=((i+1:Nat):Int):=by rw[Ai oM (by unfold Ab at k4;omega)];omega
   rw[ei];refine kJ (i+1) w6 _ oM (by rw[jp,c9]) ?_ (by rw[qc oM,a7]) (b5.Z b6) d3;rw[c5,<-a6,dz (by rw[jp];omega),qa nR,pb];simp[a9]
  .have a9:d l[j]=true:=(by simpa using hd);refine kJ i w5 z oM c9 ?_ a7 b5 c6;rw[c5,<-a6];simp[a9]
 .have a0:j=l.length:=oM;subst a0;rw[fe]at a6 hi;have d8:i<l.length:=d2;have e1:(Sl.cut s (i:Int).toNat s.len 4).v= .slice (some ⟨g,i*4,none⟩) (l.length - i) (s.cap - i):=by unfold Sl.cut Sl.v;rw[fa,fb oM,ha,k1];simp only[ir,GL]
  rw[e1];refine⟨⟨oM,oM⟩,?_⟩;have d4:(z.map AY).flatten++tail=((z.take i).map AY).flatten++(((z.drop i).map AY).flatten++tail):=by
   conv=>lhs;rw[<-gk i z]
   rw[gd,kw,fh]
  unfold tm at a4;rw[d4]at a4;refine TZ (k:=4) underlying53 Zoe rfl (λv hv=>by simp[Value.cells]at hv;rcases hv with rfl|rfl|rfl|rfl<;>rfl) (by rw[CO _ hk,fk];omega) (by rw[dx,CO _ hk,gq];omega) a4 λw3 back b3 a8=>⟨⟨oM,oM⟩,?_⟩;have s2:=b2.1;refine hR _ w3 ((b2.Z b3).below a5 hg) (λad h=>by rw[ha]at h;cases h;exact b2.Z b3) (λh=>by rw[ha]at h;cases h) (λad h=>⟨_,ha,by unfold Sl.cut at h;simp only[ha]at h;split at h<;>cases h<;>rfl⟩) ?_;have d1:(l.filter λx=>!d x).length<=l.length:=jo _ _;refine⟨by unfold Sl.cut;simp;exact hi,by unfold Sl.cut;show _<=s.cap - 0;omega,by unfold Sl.cut;show s.cap - 0<=_;omega,?_,.inr ⟨g,back,?_,hg,?_⟩⟩
  .have:=je 40 d1;omega
  .show(if _ then _ else _)=_;split
   .exact ha
   .rw[ha,mw];rfl
  .rwa [<-a6]
def tk.J{α:Type}{f:α->LV}{s:Sl}{l:List α}(h:tk f bytes w lo s l)(hb:ur b w w')(hn:∀ad,s.a=some ad->ad.block≠b):tk f bytes w' lo s l:=by obtain⟨h1,h2,h3,h4,h5⟩:=h;refine⟨h1,h2,h3,h4,h5.imp id λ⟨g,tail,ha,hg,hr⟩=>⟨g,tail,ha,hg,hr.J hb (hn _ ha)⟩⟩
structure ç(E:xh Ż)(T:LN)(w:Qd)(lo:Nat)(p:LP)(S:Nat->Prop)(c:PC)(G:Ζ)(P:Κ)(tf:Option (Θ))(s:vq):Prop where
 box:AT w p c.c
 plo:lo<=p.block
 g:IT ud w S c.u G
 pk:IT wq w S c.ps P
 tf:yu w S tf c.ol
 lt:Old S w
 nS: ¬S p.block
 dr:∃D,rl vm 61 w lo D c.dr (s.By.map (AB P))/\ ¬D p.block/\(∀ad,c.st.a=some ad-> ¬D ad.block)/\∀b,D b->S b\/p.block<b
 st:rl E T w lo rz c.st s.done
 drP:∀ad,c.dr.a=some ad->ad.block≠p.block/\ ¬S ad.block
 stP:∀ad,c.st.a=some ad->ad.block≠p.block/\ ¬S ad.block
 apart:∀a b,c.dr.a=some a->c.st.a=some b->a.block≠b.block
section
variable {E:xh Ż} {T:LN} {w w':Qd} {lo:Nat} {p:LP} {S:Nat->Prop} {c:PC} {G:Ζ} {P:Κ} {tf:Option (Θ)} {s:vq}
def ç.U(h:ç E T w lo p S c G P tf s)(hx:AI w w'):ç E T w' lo p S c G P tf s:=by obtain⟨D,h1,h2⟩:=h.dr;exact⟨h.box.U hx,h.plo,h.g.U hx,h.pk.U hx,h.tf.U hx,h.lt.U hx.size,h.nS,⟨D,h1.U hx,h2⟩,h.st.U hx,h.drP,h.stP,h.apart⟩
def ç.I(h:ç E T w lo p S c G P tf s)(hd:s.By.length<=1000)(hs:s.done.length*E.bytes<=Ab/\s.done.length<=maxLen):ħ E w p (λb=>b<w.heap.size) c G P tf s:=by
 obtain⟨D,h1,_⟩:=h.dr;have r1:=h1.I (by rw[eh];show s.By.length*144<=Ab;unfold Ab;omega) (by rw[eh,Al];omega);have r2:=h.st.I hs.1 hs.2;refine⟨h.box,h.g.O λb hb=>h.lt b hb,h.pk.O λb hb=>h.lt b hb,r1.O λb hb=>?_,r2.O λb hb=>?_,?_,λb hb=>hb⟩
 .rcases hb with hb|⟨ad,ha,rfl⟩
  .exact h1.lt b hb
  .exact(h1.block ha).2.1
 .rcases hb with hb|⟨ad,ha,rfl⟩
  .exact hb.F
  .exact(h.st.block ha).2.1
 .have ho:=h.tf;unfold yu at ho ⊢;split at ho
  .trivial
  .obtain⟨k1,so,k2,k3⟩:=ho;exact⟨h.lt _ k1,so,k2,k3.O λb hb=>h.lt b hb⟩
  .exact ho
def yu.ry(h:yu w S tf ol)(hk:ä S w w'):yu w' S tf ol:=by
 unfold yu at*;split at h
 .trivial
 .obtain⟨h1,so,h2,h3⟩:=h;exact⟨h1,so,h2.ry h1 hk,h3.ry hk⟩
 .exact h
structure Mv(lo:Nat)(p:LP)(c:PC)(w:Qd)(c':PC)(w':Qd):Prop where
 vd:Below lo w w'
 yf:∀b,b<w.heap.size->b≠p.block->(∀ad,c.dr.a=some ad->b≠ad.block)->(∀ad,c.st.a=some ad->b≠ad.block)->w'.heap[b]?=w.heap[b]?
 dr:∀ad,c'.dr.a=some ad->c.dr.a=some ad\/w.heap.size<=ad.block
 st:∀ad,c'.st.a=some ad->c.st.a=some ad\/w.heap.size<=ad.block
 same:c'={c with dr:=c'.dr,st:=c'.st}
def Mv.size{c':PC}(h:Mv lo p c w c' w'):w.heap.size<=w'.heap.size:=Below.size h.vd
def Mv.of{c:PC}(hx:AI w w')(hl:lo<=w.heap.size):Mv lo p c w c w':=⟨Below.O hx hl,λ_ hb _ _ _=>hx.block hb,λ_ h=>.inl h,λ_ h=>.inl h,rfl⟩
def Mv.Z{c1 c2:PC}{w1 w2:Qd}(h:Mv lo p c w c1 w1)(k:Mv lo p c1 w1 c2 w2):Mv lo p c w c2 w2:=by
 have hs:=h.size;refine⟨Below.Z h.vd k.vd,λb hb h1 h2 h3=>?_,λad ha=>?_,λad ha=>?_,?_⟩
 .rw[k.yf b oM h1 (λad ha e=>?_) λad ha e=>?_,h.yf b hb h1 h2 h3]
  .obtain q|q:=h.dr ad ha
   .exact h2 ad q e
   .omega
  .obtain q|q:=h.st ad ha
   .exact h3 ad q e
   .omega
 .obtain q|q:=k.dr ad ha
  .exact h.dr ad q
  .right;omega
 .obtain q|q:=k.st ad ha
  .exact h.st ad q
  .right;omega
 .rw[k.same,h.same]
def Mv.box{c':PC}(h:Mv lo p c w c' w'){a:LP}(hb:AT w a cs)(h1:a.block≠p.block)(h2:∀ad,c.dr.a=some ad->a.block≠ad.block)(h3:∀ad,c.st.a=some ad->a.block≠ad.block):AT w' a cs:=
 hb.ry (S:=λb=>b≠p.block/\(∀ad,c.dr.a=some ad->b≠ad.block)/\∀ad,c.st.a=some ad->b≠ad.block) ⟨h1,h2,h3⟩ λb hb hl=>h.yf b hl hb.1 hb.2.1 hb.2.2
def ç.lo_le(h:ç E T w lo p S c G P tf s):lo<=w.heap.size:=by have:=h.plo;have:=h.box.lt;omega
def ç.mv{c':PC}(h:ç E T w lo p S c G P tf s)(k:Mv lo p c w c' w'):ä S w w':=λb hb hl=>k.yf b hl (λe=>h.nS (e▸hb)) (λad ha e=>(h.drP ad ha).2 (e▸hb)) λad ha e=>(h.stP ad ha).2 (e▸hb)
def ç.Xc8{Q:Nat->Prop}{a:LP}{x:Dr}(h:ç E T w lo p S c G P tf s)(hx:vm.rep w Q (AB P x) cs)(hc:se w a cs)
  (hQ:∀b,Q b->b<w.heap.size/\b≠p.block/\(∀ad,c.dr.a=some ad->b≠ad.block)/\(∀ad,c.st.a=some ad->b≠ad.block)/\(S b\/p.block<b)) (hl:s.By.length<=1000)
  (hk:∀r w',ç E T w' lo p S {c with dr:=r} G P tf ⟨s.By++[x],s.done⟩->Mv lo p c w {c with dr:=r} w'->K w'):
  ue prog 38 38 c.dr (Sl.v ⟨some a,1,1⟩) w λt w1=>∃p1:LP,some p=some p1/\rp w1 (p1.add 7) [t.v] K:=by
 obtain⟨D,o,a6,a9,a8⟩:=h.dr;have b5:=h.box.lt;refine o.push Ty h.lo_le hx hc (λb hb=>(hQ b hb).1) (λad ha hb=>(hQ _ hb).2.2.1 ad ha rfl) (by rw[eh];show _*144<=Ab;unfold Ab;omega) (by rw[eh,Al];omega) λr w1 o1 vd yf a5=>⟨p,rfl,?_⟩;have b6:=Below.size vd;have b0:AT w1 p c.c:=h.box.ry (S:=λb=>∀ad,c.dr.a=some ad->b≠ad.block) (λad ha e=>(h.drP ad ha).1 e.H) λb hb hl=>yf b hl hb;refine rp.intro (tf:=c.c) b0 (o:=7) (by show 7+1<=9;omega) λw2 b2 b8 b4=>?_;have b7:=b2.1;have a0:∀b,b<w.heap.size->b≠p.block->(∀ad,c.dr.a=some ad->b≠ad.block)->w2.heap[b]?=w.heap[b]? :=λb hb h1 h2=>(b2.2.2.2.2 b oM h1).Z (yf b hb h2);have mv:Mv lo p c w {c with dr:=r} w2:=⟨Below.Z vd (b2.below (by have:=h.lo_le;omega) h.plo),λb hb h1 h2 _=>a0 b hb h1 h2,a5,λ_ h=>.inl h,rfl⟩;have a4:=h.mv mv;have a7:∀ad,r.a=some ad->ad.block≠p.block/\ ¬S ad.block:=λad ha=>by
  obtain q|q:=a5 ad ha
  .exact h.drP ad q
  .exact⟨oM,λhS=>by have:=h.lt _ hS;omega⟩
 refine hk r w2 ⟨b4,h.plo,h.g.ry a4,h.pk.ry a4,h.tf.ry a4,λb hb=>by have:=h.lt b hb;omega,h.nS,⟨λb=>D b\/Q b,?_,λhb=>?_,λad ha hb=>?_,λb hb=>?_⟩,?_,a7,h.stP,λu v hu hv=>?_⟩ mv
 .have:=o1.J b2 (λhb=>?_) λad ha=>Ne.H (a7 ad ha).1
  .rw[<-List.map_singleton (f:=AB P),<-gd]at this;exact this
  .obtain hb|hb:=hb
   .exact a6 hb
   .exact(hQ _ hb).2.1 rfl
 .obtain hb|hb:=hb
  .exact a6 hb
  .exact(hQ _ hb).2.1 rfl
 .obtain hb|hb:=hb
  .exact a9 ad ha hb
  .exact(hQ _ hb).2.2.2.1 ad ha rfl
 .obtain hb|hb:=hb
  .exact a8 b hb
  .exact(hQ b hb).2.2.2.2
 .refine h.st.ry mv.size λb hb hq=>?_;rcases hq with hq|⟨ad,ha,rfl⟩
  .exact hq.F
  .exact a0 _ hb (h.stP ad ha).1 λd hd e=>h.apart d ad hd ha e.H
 .obtain q|q:=a5 u hu
  .exact h.apart u v q hv
  .have:=(h.st.block hv).2.1;omega
def ç.Xcj{a:LP}{x:Ż}(h:ç E T w lo p S c G P tf s)(hT:Bz prog t T E.n E.bytes)(hx:∀w,E.rep w rz x cs)(b5:∀{w S S' x cs},E.rep w S x cs->E.rep w S' x cs)(hc:se w a cs)(hl:(s.done.length+1)*E.bytes<=Ab/\s.done.length+1<=maxLen)
  (hk:∀r w',ç E T w' lo p S {c with st:=r} G P tf ⟨s.By,s.done++[x]⟩->Mv lo p c w {c with st:=r} w'->(∀b,b<w.heap.size->b≠p.block->(∀ad,c.st.a=some ad->b≠ad.block)->w'.heap[b]?=w.heap[b]?)->K w'):
  ue prog t t c.st (Sl.v ⟨some a,1,1⟩) w λt w1=>∃p1:LP,some p=some p1/\rp w1 (p1.add 8) [t.v] K:=by
 obtain⟨D,o,a6,a7,a9⟩:=h.dr;have b6:=h.box.lt;refine h.st.push hT h.lo_le (hx w) hc (λb hb=>hb.F) (λad ha hb=>hb) hl.1 hl.2 λr w1 o1 vd yf a4=>⟨p,rfl,?_⟩;have o1:=o1.flat b5;have b7:=Below.size vd;have b0:AT w1 p c.c:=h.box.ry (S:=λb=>∀ad,c.st.a=some ad->b≠ad.block) (λad ha e=>(h.stP ad ha).1 e.H) λb hb hl=>yf b hl hb;refine rp.intro (tf:=c.c) b0 (o:=8) (by show 8+1<=9;omega) λw2 b2 b9 b4=>?_;have b8:=b2.1;have a0:∀b,b<w.heap.size->b≠p.block->(∀ad,c.st.a=some ad->b≠ad.block)->w2.heap[b]?=w.heap[b]? :=λb hb h1 h2=>(b2.2.2.2.2 b oM h1).Z (yf b hb h2);have mv:Mv lo p c w {c with st:=r} w2:=⟨Below.Z vd (b2.below (by have:=h.lo_le;omega) h.plo),λb hb h1 _ h3=>a0 b hb h1 h3,λ_ h=>.inl h,a4,rfl⟩;have a5:=h.mv mv;have a8:∀ad,r.a=some ad->ad.block≠p.block/\ ¬S ad.block:=λad ha=>by
  obtain q|q:=a4 ad ha
  .exact h.stP ad q
  .exact⟨oM,λhS=>by have:=h.lt _ hS;omega⟩
 refine hk r w2 ⟨b4,h.plo,h.g.ry a5,h.pk.ry a5,h.tf.ry a5,λb hb=>by have:=h.lt b hb;omega,h.nS,⟨D,?_,a6,λad ha hb=>?_,a9⟩,o1.J b2 (λh=>h) λad ha=>Ne.H (a8 ad ha).1,h.drP,a8,λu v hu hv=>?_⟩ mv a0
 .refine o.ry mv.size λb hb hq=>?_;rcases hq with hq|⟨ad,ha,rfl⟩
  .exact a0 b hb (λe=>a6 (e▸hq)) λd hd e=>a7 d hd (e▸hq)
  .exact a0 _ hb (h.drP ad ha).1 λd hd e=>h.apart ad d ha hd e
 .obtain q|q:=a4 ad ha
  .exact a7 ad q hb
  .have:=o.lt _ hb;omega
 .obtain q|q:=a4 v hv
  .exact h.apart u v hu q
  .have:=(o.block hu).2.1;omega
end
def wz.Xbr{s:vq}(h:wz g s a):∀(i:Nat)(d:Dr),s.By[i]?=some d->d.Of.length<=i:=λi=>by
 induction i using Nat.strongRecOn with
 |ind i ih=>
  intro d hd;by_cases h0:d.Of=[]
  .rw[h0];exact im _
  .obtain⟨j,h1,h2⟩:=h.up i d _ _ hd (List.dropLast_concat_getLast h0).H;obtain⟨e,h3,h4⟩:=CN h2;have:=ih j h1 e h3;rw[h4,List.length_dropLast]at this;have:=nv.2 h0;omega
def rl.Xb8{T:LN}{s:Sl}{l:List PU}(h:rl vx T w lo rz s l)(hl:l.length<=5000000000000):IT vx w (λb=>lo<=b/\b<w.heap.size) s l:=
 (h.I (by show l.length*16<=Ab;unfold Ab;omega) (by rw[Al];omega)).O λb hb=>by
  rcases hb with hb|⟨ad,ha,rfl⟩
  .exact hb.F
  .have:=h.block ha;exact⟨this.1,this.2.1⟩
def Zd9{s:Sl}{l:LQ}{q:Edge->Bool}{R:À}(hs:IT wo w S s l)
  (hf:∀x∈l,∀w' (k:Ã),AI w w'->(∀a4,AI w' a4->k (.bool (q x)) a4)->ug prog f [.agg #[.string x.Y,vi x.to]] w' k)
  (hR:∀w',AI w w'->R (AX q l) w'):Mu s f w R:=by
 unfold Mu;have hl:=hs.len;refine rn.up hs.max (λi w'=>AI w w'/\(l.take i).any q=false) ⟨AI.refl _,rfl⟩ λi w1 a7 hi ⟨x1,hI⟩ hn=>⟨λa5=>?_,λa6=>?_⟩
 .have a0:i<l.length:=oM;obtain⟨ad,ha,_,hc⟩:=D4 hs a0;refine⟨ad,⟨ha,oM,a5⟩,_,_,hc _ x1,hf _ (fm a0) _ _ x1 λw2 x2=>⟨_,rfl,λh=>?_,λh=>?_⟩⟩
  .rw[<-FA a0 hI h];exact hR _ (x1.Z x2)
  .exact hn a0 _ ⟨x1.Z x2,by rwa [FL a0 hI]⟩
 .have:i=l.length:=oM;rw[this,fe]at hI;rw[<-EQ hI];exact hR _ x1
def U4{x:BY}:Cr g x n=(x.sd.find? λe=>decide (e.Y=n)).bind λe=>g[e.to.toNat]? :=rfl
end Go.Hal
