/- Lemmas for the claim K19u: how the program's functions run, and what they answer; no condition but those that each theorem names. -/
import Derived.Lib.AtoiAll
import Derived.Shelf.SlSortCmp.NoneTotal
import Derived.Ground.SlsfProg
import Derived.Test.YtgolaibmophnjaaGreatDoorProg
import Derived.Laws.MakeOwn
import Derived.Lone
import Derived.RunT
import Derived.StepT
import Derived.Calls
import Derived.Test.YtgolaibmophnjaaGreatDoorK19uB4
set_option linter.unusedVariables false
set_option linter.unusedSimpArgs false
set_option linter.defProp false
set_option maxHeartbeats 16000000
open Go.Hal.SE hiding Cs Dr Lb vB
open Go Go.RowKit Go.Proofs Go.Shelf Go.Hal Go.Proofs.Tryz
variable {es:Array Event} {uz:Pr} {d:Dr} {D:Int} {l:Θ} {ds:Μ} {g:List Hal.rz} {L ps:Ι} {cs xs:LV} {m m':Machine} {a b base bytes i j lo lo' n nd u:Nat} {S:Nat->Prop} {r:Option (Κ)} {ol:Qd} {I:Œ} {p:LD} {o s:Sl} {R:Sl->Wp} {t:LN} {f z:HT} {K:Ë} {Β W w w':PU}
namespace Go.Hal
attribute [local go_sem] Oper.semAt_some
def Xt(a:Nat):HT:=.func (.func 351) #[] #[.pointer (some ⟨a+1,0,none⟩),.pointer (some ⟨a,0,none⟩),.pointer (some ⟨a+2,0,none⟩)]
def G6(w:PU)(s uz:Pr):PU:=((w.alloc (.cells #[.string s] 9)).alloc (.cells #[.string uz] 9)).alloc (.cells #[vi 0] 3)
def Zk2(n:Nat)(hn:1<=n)(s uz:Pr)(w:PU):CallsIn Fence.wide n prog 314 #[.string s,.string uz,vi 0] w λe w'=>e= .returned (Xt w.heap.size)/\w'=G6 w s uz:=by
 refine callsIn_of_wp func314 rfl trivial ?_ rfl;simp only[Tryz.ntmps314,je,fu,ie,Nat.reduceAdd,Nat.reduceSub,lz,ly,mw,mc,ip,ig]
 gi_wp2
 go_ret
 exact⟨rfl,rfl⟩
def Xq(n:Nat)(hn:2<=n)(s uz:Pr)(w:PU):CallsIn Fence.wide n prog 262 #[.string s,.string uz] w λe w'=>e= .returned (Xt w.heap.size)/\w'=G6 w s uz:=by
 have h1:1<=n - 1:=oM;refine callsIn_of_wp func262 rfl trivial ?_ rfl;simp only[Tryz.ntmps262,je,fu,ie,Nat.reduceAdd,Nat.reduceSub,lz,ly,mw,mc,ip,ig]
 gi_wp2
 refine⟨trivial,λh=>(by cases h),(Zk2 (n - 1) h1 s uz w).O ?_⟩;rintro e w' ⟨rfl,rfl⟩
 gi_wp2
 go_ret
 exact⟨rfl,rfl⟩
structure ž(ps:List Pr)(k:Nat)(x:Rk)(b:Bool):Prop where
 ok:∀t∈ps.take k,t.size≠0->∃a,wo t.data.toList a
 some:b=true↔∃t∈ps.take k,t.size≠0
 lo:0<=x.1/\x.1<=1000000000
 hi: -1<=x.2/\x.2<=999999999
 has:∀n:Int,(x.1<=n/\n<=x.2)↔(0<=n/\n<=999999999/\∀t∈ps.take k,t.size≠0->∀a,wo t.data.toList a->a.1<=n/\n<=a.2)
def ž.start(ps:List Pr):ž ps 0 (0,999999999) false:=⟨by simp,by simp,by simp,by simp,λn=>by simp⟩
def Fg{α:Type}{ps:List α}{k:Nat}(h:k<ps.length){t:α}:t∈ps.take (k+1)↔t∈ps.take k\/t=ps[k]:=by rw[dw h,fp,ep]
def ž.skip{ps:List Pr}{k:Nat}{x:Rk}{b:Bool}(h:ž ps k x b)(hk:k<ps.length)(h0:ps[k].size=0):ž ps (k+1) x b:=by
 have e:∀t,(t∈ps.take (k+1)/\t.size≠0)↔(t∈ps.take k/\t.size≠0):=λt=>by
  rw[Fg hk];constructor
  .rintro⟨h1|rfl,h2⟩
   .exact⟨h1,h2⟩
   .exact fm h0 h2
  .exact λ⟨h1,h2⟩=>⟨.inl h1,h2⟩
 refine⟨λt ht hn=>h.ok t ((e t).1 ⟨ht,hn⟩).1 hn,?_,h.lo,h.hi,λn=>?_⟩
 .rw[h.some];exact⟨λ⟨t,ht⟩=>⟨t,(e t).2 ht⟩,λ⟨t,ht⟩=>⟨t,(e t).1 ht⟩⟩
 .rw[h.has];exact and_congr_right λ_=>and_congr_right λ_=>⟨λg t ht hn=>g t ((e t).1 ⟨ht,hn⟩).1 hn,λg t ht hn=>g t ((e t).2 ⟨ht,hn⟩).1 hn⟩
def ž.vv{ps:List Pr}{k:Nat}{x a:Rk}{b:Bool}(h:ž ps k x b)(hk:k<ps.length)(h0:ps[k].size≠0)(hw:wo ps[k].data.toList a):ž ps (k+1) (max x.1 a.1,min x.2 a.2) true:=by
 obtain⟨h1,h2⟩:=hw.in;have hl:=h.lo;have hh:=h.hi;refine⟨λt ht hn=>?_,?_,?_,?_,λn=>?_⟩
 .rcases(Fg hk).1 ht with h3|rfl
  .exact h.ok t h3 hn
  .exact⟨a,hw⟩
 .simp only[true_iff];exact⟨_,(Fg hk).2 (.inr rfl),h0⟩
 .simp only;omega
 .simp only;omega
 .simp only;have e:=h.has n;have e1:(max x.1 a.1<=n/\n<=min x.2 a.2)↔(x.1<=n/\n<=x.2)/\(a.1<=n/\n<=a.2):=oM;rw[e1,e];constructor
  .rintro⟨⟨g1,g2,g3⟩,g4⟩;refine⟨g1,g2,λt ht hn c hc=>?_⟩;rcases(Fg hk).1 ht with h3|rfl
   .exact g3 t h3 hn c hc
   .rwa [<-hw.one hc]
  .rintro⟨g1,g2,g3⟩;exact⟨⟨g1,g2,λt ht hn c hc=>g3 t ((Fg hk).2 (.inl ht)) hn c hc⟩,g3 _ ((Fg hk).2 (.inr rfl)) h0 a hw⟩
def GD(a:Pr):Prop:=(∃t∈Aw BL a,t.size≠0)/\∀t∈Aw BL a,t.size≠0->∃x,wo t.data.toList x
def JM(a:Pr)(n:Int):Prop:=0<=n/\n<=999999999/\∀t∈Aw BL a,t.size≠0->∀x,wo t.data.toList x->x.1<=n/\n<=x.2
structure Ž(ps:List Pr)(k:Nat)(l:Λ):Prop where
 ok:∀a∈ps.take k,GD a
 len:l.length<=k
 inn:FF l
 le:∀x∈l,x.1<=x.2
 has:∀n,Bc n l=true↔∃a∈ps.take k,JM a n
def Ž.start(ps:List Pr):Ž ps 0 []:=⟨by simp,fx _,λx hx=>(by cases hx),λx hx=>(by cases hx),λn=>by simp[Bc]⟩
def Zdq{n:Int}{l:Λ}{x:Rk}:Bc n (l++[x])=true↔Bc n l=true\/(x.1<=n/\n<=x.2):=by simp[Bc,List.any_append]
def Ž.step{ps:List Pr}{k:Nat}{l:Λ}{x:Rk}(h:Ž ps k l)(hk:k<ps.length)(hw:ž (Aw BL ps[k]) (Aw BL ps[k]).length x true):
  (x.1<=x.2->Ž ps (k+1) (l++[x]))/\(¬x.1<=x.2->Ž ps (k+1) l):=by
 have ht:(Aw BL ps[k]).take (Aw BL ps[k]).length=Aw BL ps[k]:=eh;have a6:GD ps[k]:=by have h1:=hw.ok;have h2:=hw.some;rw[ht]at h1 h2;exact⟨h2.1 rfl,h1⟩
 have a4:∀n,(x.1<=n/\n<=x.2)↔JM ps[k] n:=λn=>by have:=hw.has n;rw[ht]at this;exact this
 have a0:∀a∈ps.take (k+1),GD a:=λa ha=>by
  rcases(Fg hk).1 ha with h1|rfl
  .exact h.ok a h1
  .exact a6
 have hl:=hw.lo;have hh:=hw.hi;have a5:∀n,(∃a∈ps.take (k+1),JM a n)↔(Bc n l=true\/(x.1<=n/\n<=x.2)):=λn=>by
  rw[h.has,a4];constructor
  .rintro⟨a,ha,hn⟩;rcases(Fg hk).1 ha with h1|rfl
   .exact .inl ⟨a,h1,hn⟩
   .exact .inr hn
  .rintro(⟨a,ha,hn⟩|hn)
   .exact⟨a,(Fg hk).2 (.inl ha),hn⟩
   .exact⟨_,(Fg hk).2 (.inr rfl),hn⟩
 refine⟨λhx=>⟨a0,by have:=h.len;simp;omega,λy hy=>?_,λy hy=>?_,λn=>?_⟩,λhx=>⟨a0,by have:=h.len;omega,h.inn,h.le,λn=>?_⟩⟩
 .obtain h1|h1:=fp.1 hy
  .exact h.inn y h1
  .rw[ep]at h1;subst h1;omega
 .obtain h1|h1:=fp.1 hy
  .exact h.le y h1
  .rw[ep]at h1;subst h1;exact hx
 .rw[Zdq,a5]
 .rw[a5];constructor
  .exact .inl
  .rintro(h1|h1)
   .exact h1
   .omega
def N6(text:Pr):Prop:=text.size<=4096/\∀a∈Aw Bt text,GD a
def Xp(uz:Pr):∀(k:Nat)(s:Pr),∀t∈Lib.splitB uz 0 k s,t.size<=s.size
 |0,s,t,h=>by rw[Lib.splitB_zero,ep]at h;rw[h];exact fx _
 |k+1,s,t,h=>by
  rcases Lib.indexB_cases s uz with a0|⟨i,a0,a4⟩
  .rw[Lib.splitB_miss _ _ _ _ a0,ep]at h;rw[h];exact fx _
  .rw[Lib.splitB_hit _ _ _ _ i a0]at h;obtain rfl|h:=gn.1 h
   .rw[mb];omega
   .have:=Xp uz k _ t h;rw[mb]at this;omega
def Qv{s t:Pr}(h:t∈Aw uz s):t.size<=s.size:=Xp uz _ s t h
def Qt(uz:Pr)(h1:1<=uz.size)(s:Pr):(Aw uz s).length<=s.size+1:=Lib.splitB_length_le uz 0 s.size s
def Tm(w:PU):Prop:=∀(t:Pr)(W:PU),Ŝ t->t.size<=4096->AI w W->Calls prog 263 #[.string t] W λe w'=>AI W w'/\
 ((∃x:Rk,wo t.data.toList x/\e= .returned (.tuple #[.agg #[vi x.1,vi x.2],.bool true]))\/((∀x,¬wo t.data.toList x)/\e= .returned (.tuple #[.agg #[vi 0,vi 0],.bool false])))
def Bo:HT:=.slice none 0 0
def IA(w:PU)(text:Pr)(k:Nat)(W:PU):Prop:=
 ∃(l:Λ) (v:HT),Ž (Aw Bt text) k l/\Boxed W (w.heap.size+1+1) 302 v/\W.ownsRow (w.heap.size+8) 305 2 v l.length (Cq l)/\Below w.heap.size w W/\
  Boxed W w.heap.size 132 Bo/\Boxed W (w.heap.size+1) 44 (vi 0)/\W.heap[w.heap.size+6]?=some (.deferred (some []))/\w.heap.size+7<=W.heap.size
def XA(w:PU)(text:Pr)(c:Code)(W:PU):Prop:=
 c= .ret/\ ¬N6 text/\Below w.heap.size w W/\Boxed W w.heap.size 132 Bo/\Boxed W (w.heap.size+1) 44 (vi 21)/\W.heap[w.heap.size+6]?=some (.deferred (some []))/\w.heap.size+7<=W.heap.size
def Zgw{B:PU}{e:LN}{size k:Nat}{v:HT}(h:Β.ownsRow base e size v k xs)(ht:Tu b Β B)(hb:b<base):B.ownsRow base e size v k xs:=by
 refine h.kept ht ?_;rcases h.2 with⟨rfl,_⟩|⟨g,cap,a0,rfl,hg,_⟩
 .exact .inl rfl
 .refine .inr λe'=>?_;have:g=b:=by simpa[Value.ownBlock]using e'
  omega
def JZ{B:PU}{s:Nat}(h:Below s w Β)(ht:Tu b Β B)(hb:s<=b)(hs:s<=w.heap.size):Below s w B:=h.grown ht (fj hs h.size) λk e=>by cases e;exact hb
def DH{B:PU}{k:Nat}{v:HT}(h:Boxed Β k t v)(ht:Tu b Β B)(a0:k≠b):Boxed B k t v:=h.kept ht (by simpa using a0)
def IA.tu{text:Pr}{k:Nat}{B:PU}(hb:b=w.heap.size+1+1+1\/b=w.heap.size+7):IA w text k Β->Tu b Β B->IA w text k B:=by rintro⟨l,v,h1,h2,h3,h4,h5,h6,h7,h8⟩ ht;exact⟨l,v,h1,DH h2 ht oM,Zgw h3 ht oM,JZ h4 ht oM nR,DH h5 ht oM,DH h6 ht oM,ht.at h7 oM,fj h8 (World.grownBy.size ht)⟩
def XA.tu{text:Pr}{c:Code}{B:PU}(hb:b=w.heap.size+1+1+1\/b=w.heap.size+7):XA w text c Β->Tu b Β B->XA w text c B:=by rintro⟨h1,h2,h4,h5,h6,h7,h8⟩ ht;exact⟨h1,h2,JZ h4 ht oM nR,DH h5 ht oM,DH h6 ht oM,ht.at h7 oM,fj h8 (World.grownBy.size ht)⟩
structure StA(w:PU)(text:Pr)(V:PU):Prop where
 size:V.heap.size=w.heap.size+6
 sw:Boxed V w.heap.size 132 Bo
 err:Boxed V (w.heap.size+1) 44 (vi 0)
 all:Boxed V (w.heap.size+1+1) 302 Bo
 str:Boxed V (w.heap.size+1+1+1) 9 (.string text)
 uz:Boxed V (w.heap.size+1+1+1+1) 9 (.string Bt)
 sav:Boxed V (w.heap.size+1+1+1+2) 3 (vi 0)
 vh:Below w.heap.size w V
def stA(w:PU)(text:Pr):StA w text (G6 (((w.alloc (.cells #[Bo] 132)).alloc (.cells #[vi 0] 44)).alloc (.cells #[Bo] 302)) text Bt):=by
 unfold G6;have b0:=Boxed.new w 132 Bo;have b1:=Boxed.new (w.alloc (.cells #[Bo] 132)) 44 (vi 0);have b2:=Boxed.new ((w.alloc (.cells #[Bo] 132)).alloc (.cells #[vi 0] 44)) 302 Bo;generalize hA:((w.alloc (.cells #[Bo] 132)).alloc (.cells #[vi 0] 44)).alloc (.cells #[Bo] 302)=Β at*;have hs:Β.heap.size=w.heap.size+1+1+1:=by rw[<-hA];simp
 have hb:Below w.heap.size w Β:=by rw[<-hA];exact(((Below.refl _ w).alloc nR _).alloc sI _).alloc (by simp;omega) _
 have b3:=Boxed.new Β 9 (.string text);have b4:=Boxed.new (Β.alloc (.cells #[.string text] 9)) 9 (.string Bt);have b5:=Boxed.new ((Β.alloc (.cells #[.string text] 9)).alloc (.cells #[.string Bt] 9)) 3 (vi 0);simp only[World.size_alloc,hs]at b1 b2 b3 b4 b5;have c0:Boxed Β w.heap.size 132 Bo:=by rw[<-hA];exact(b0.alloc _).alloc _
 have c1:Boxed Β (w.heap.size+1) 44 (vi 0):=by rw[<-hA];exact b1.alloc _
 exact⟨by simp[hs],((c0.alloc _).alloc _).alloc _,((c1.alloc _).alloc _).alloc _,((b2.alloc _).alloc _).alloc _,(b3.alloc _).alloc _,b4.alloc _,b5,((hb.alloc oM _).alloc (by simp;omega) _).alloc (by simp;omega) _⟩
structure StB(W:PU)(a:Pr)(V:PU):Prop where
 size:V.heap.size=W.heap.size+5
 one:V.heap[W.heap.size]?=some (.cells #[vi 0,vi 999999999] 305 (0,0))
 some:Boxed V (W.heap.size+1) 4 (.bool false)
 str:Boxed V (W.heap.size+1+1) 9 (.string a)
 uz:Boxed V (W.heap.size+1+1+1) 9 (.string BL)
 sav:Boxed V (W.heap.size+1+1+2) 3 (vi 0)
 vh:Below W.heap.size W V
def FY{k:Nat}{o:Obj}(h:W.heap[k]?=some o)(o':Obj):(W.alloc o').heap[k]?=some o:=(Below.heap_alloc _ _ _ (fb.1 h).1).Z h
def stB(W:PU)(a:Pr):StB W a (G6 ((W.alloc (.cells #[vi 0,vi 999999999] 305)).alloc (.cells #[.bool false] 4)) a BL):=by
 unfold G6;have b0:=World.alloc_heap_new W (.cells #[vi 0,vi 999999999] 305);have b1:=Boxed.new (W.alloc (.cells #[vi 0,vi 999999999] 305)) 4 (.bool false);generalize hA:(W.alloc (.cells #[vi 0,vi 999999999] 305)).alloc (.cells #[.bool false] 4)=Β at*;have hs:Β.heap.size=W.heap.size+1+1:=by rw[<-hA];simp
 have hb:Below W.heap.size W Β:=by rw[<-hA];exact((Below.refl _ W).alloc nR _).alloc sI _
 have b3:=Boxed.new Β 9 (.string a);have b4:=Boxed.new (Β.alloc (.cells #[.string a] 9)) 9 (.string BL);have b5:=Boxed.new ((Β.alloc (.cells #[.string a] 9)).alloc (.cells #[.string BL] 9)) 3 (vi 0);simp only[World.size_alloc,hs]at b1 b3 b4 b5;have c0:Β.heap[W.heap.size]?=some (.cells #[vi 0,vi 999999999] 305 (0,0)):=by rw[<-hA];exact FY b0 _
 exact⟨by simp[hs],FY (FY (FY c0 _) _) _,((b1.alloc _).alloc _).alloc _,(b3.alloc _).alloc _,b4.alloc _,b5,((hb.alloc oM _).alloc (by simp;omega) _).alloc (by simp;omega) _⟩
def IB(W:PU)(a:Pr)(j:Nat)(W':PU):Prop:=
 ∃(x:Rk) (b:Bool),ž (Aw BL a) j x b/\W'.heap[W.heap.size]?=some (.cells #[vi x.1,vi x.2] 305 (0,0))/\Boxed W' (W.heap.size+1) 4 (.bool b)/\Below W.heap.size W W'/\W.heap.size+5<=W'.heap.size
structure Ż(s:Nat)(W W':PU):Prop where
 os:W'.os=W.os
 tape:W'.tape=W.tape
 output:W'.output=W.output
 size:W.heap.size<=W'.heap.size
 block:∀k,k<W.heap.size->k≠s->k≠s+1->W'.heap[k]?=W.heap[k]?
def XB(w W:PU)(a:Pr)(c:Code)(W':PU):Prop:=
 c= .ret/\(∃t∈Aw BL a,t.size≠0/\∀x,¬wo t.data.toList x)/\Boxed W' w.heap.size 132 Bo/\Boxed W' (w.heap.size+1) 44 (vi 21)/\Ż w.heap.size W W'
def IB.tu{a:Pr}{k:Nat}{B:PU}(hb:b=W.heap.size+1+1\/b=W.heap.size+5):IB W a k Β->Tu b Β B->IB W a k B:=by rintro⟨x,y,h1,h2,h3,h4,h5⟩ ht;exact⟨x,y,h1,ht.at h2 oM,DH h3 ht oM,JZ h4 ht oM nR,fj h5 (World.grownBy.size ht)⟩
def XB.tu{a:Pr}{c:Code}{B:PU}(hw:w.heap.size+7<=W.heap.size)(hb:b=W.heap.size+1+1\/b=W.heap.size+5):XB w W a c Β->Tu b Β B->XB w W a c B:=by
 rintro⟨h1,h2,h3,h4,h5⟩ ht;exact⟨h1,h2,DH h3 ht oM,DH h4 ht oM,⟨(World.grownBy.os ht).Z h5.os,(World.grownBy.tape ht).Z h5.tape,(World.grownBy.output ht).Z h5.output,fj h5.size (World.grownBy.size ht),λk hk h6 h7=>
  (World.grownBy.block ht k (jo hk h5.size) (by simp;omega)).Z (h5.block k hk h6 h7)⟩⟩
def Z7{B:PU}{x y:HT}{s:LN}{b:HT}(hx:AI Β B)(h:Β.heap[u]?=some (.cells #[x,y] t (0,0)))(hb:Boxed Β (u+1) s b):
  B.cell? ⟨u,0,none⟩=some x/\B.cell? ⟨u,1,none⟩=some y/\B.frozen? ⟨u,0,none⟩=false/\B.frozen? ⟨u,1,none⟩=false/\B.cell? ⟨u+1,0,none⟩=some b/\B.frozen? ⟨u+1,0,none⟩=false:=by
 have h2:B.heap[u]?=_:=(hx.block (fb.1 h).1).Z h;have a0:Boxed B (u+1) s b:=(hx.block hb.lt).Z hb;exact⟨by simp[World.cell?,h2],by simp[World.cell?,h2],by simp[World.frozen?,h2],by simp[World.frozen?,h2],a0.cell,a0.frozen⟩
structure Two(u:Nat)(Β B:PU):Prop where
 os:B.os=Β.os
 tape:B.tape=Β.tape
 output:B.output=Β.output
 size:Β.heap.size<=B.heap.size
 block:∀k,k<Β.heap.size->k≠u->k≠u+1->B.heap[k]?=Β.heap[k]?
def Two.below{s:Nat}{B:PU}(h:Below s w Β)(t:Two u Β B)(hs:s<=u)(hw:s<=w.heap.size):Below s w B:=⟨t.os.Z h.os,t.tape.Z h.tape,t.output.Z h.output,fj h.size t.size,λk hk=>(t.block k (by have:=h.size;omega) oM oM).Z (h.block k hk)⟩
def Two.U{B C:PU}(h:AI Β B)(t:Two u B C)(hu:u+1<Β.heap.size):Two u Β C:=⟨t.os.Z h.os,t.tape.Z h.tape,t.output.Z h.output,fj h.size t.size,λk hk h1 h2=>(t.block k (by have:=h.size;omega) h1 h2).Z (h.block hk)⟩
def Zj3{x y p q r b:HT}{s:LN}(h:Β.heap[u]?=some (.cells #[x,y] t (0,0)))(hb:Boxed Β (u+1) s b):
  (((Β.setCell ⟨u,0,none⟩ p).setCell ⟨u,1,none⟩ q).setCell ⟨u+1,0,none⟩ r).heap[u]?=some (.cells #[p,q] t (0,0))/\Boxed (((Β.setCell ⟨u,0,none⟩ p).setCell ⟨u,1,none⟩ q).setCell ⟨u+1,0,none⟩ r) (u+1) s r/\Two u Β (((Β.setCell ⟨u,0,none⟩ p).setCell ⟨u,1,none⟩ q).setCell ⟨u+1,0,none⟩ r):=by
 obtain⟨a6,hk⟩:=fb.1 h;have o:∀(B:PU)(a:LP)(v:HT)(k:Nat),k≠a.block->(B.setCell a v).heap[k]?=B.heap[k]? :=λB a v k hk=>Below.heap_setCell B a v k hk;have e1:(Β.setCell ⟨u,0,none⟩ p).heap[u]?=some (.cells #[p,y] t (0,0)):=by show(Β.heap.modify u _)[u]?=_;rw[nc (by rwa [Array.size_modify]),pw,hk];rfl
 obtain⟨a0,a5⟩:=fb.1 e1;have e2:((Β.setCell ⟨u,0,none⟩ p).setCell ⟨u,1,none⟩ q).heap[u]?=some (.cells #[p,q] t (0,0)):=by show((Β.setCell ⟨u,0,none⟩ p).heap.modify u _)[u]?=_;rw[nc (by rwa [Array.size_modify]),pw,a5];rfl
 have a4:Boxed ((Β.setCell ⟨u,0,none⟩ p).setCell ⟨u,1,none⟩ q) (u+1) s b:=((o _ _ _ _ sI).Z (o _ _ _ _ sI)).Z hb;refine⟨(o _ _ _ _ sI).Z e2,a4.set r,rfl,rfl,rfl,by simp[World.setCell],λk hk h1 h2=>(o _ _ _ _ (by simpa using h2)).Z ((o _ _ _ _ (by simpa using h1)).Z (o _ _ _ _ (by simpa using h1)))⟩
def Dh{B:PU}{k:Nat}{v:HT}(h:Boxed Β k t v)(hx:Below n Β B)(hk:k<n):Boxed B k t v:=(hx.block k hk).Z h
def RO{p q x y:HT}{s:LN}(h:Boxed Β u t x)(hb:Boxed Β (u+1) s y):
  Boxed ((Β.setCell ⟨u,0,none⟩ p).setCell ⟨u+1,0,none⟩ q) u t p/\Boxed ((Β.setCell ⟨u,0,none⟩ p).setCell ⟨u+1,0,none⟩ q) (u+1) s q/\Two u Β ((Β.setCell ⟨u,0,none⟩ p).setCell ⟨u+1,0,none⟩ q):=by
 have o:∀(B:PU)(a:LP)(v:HT)(k:Nat),k≠a.block->(B.setCell a v).heap[k]?=B.heap[k]? :=λB a v k hk=>Below.heap_setCell B a v k hk;have h1:=h.set p;have a0:Boxed (Β.setCell ⟨u,0,none⟩ p) (u+1) s y:=(o _ _ _ _ sI).Z hb;refine⟨(o _ _ _ _ sI).Z h1,a0.set q,rfl,rfl,rfl,by simp[World.setCell],λk hk h1 h2=>(o _ _ _ _ (by simpa using h2)).Z (o _ _ _ _ (by simpa using h1))⟩
def Two.Xct{s:Nat}{B:PU}(h:Below W.heap.size W Β)(t:Two s Β B):Ż s W B:=⟨t.os.Z h.os,t.tape.Z h.tape,t.output.Z h.output,fj h.size t.size,λk hk h1 h2=>(t.block k (by have:=h.size;omega) h1 h2).Z (h.block k hk)⟩
def Ż.below{s:Nat}{B:PU}(h:Below s w Β)(t:Ż s Β B)(hw:s<=w.heap.size):Below s w B:=⟨t.os.Z h.os,t.tape.Z h.tape,t.output.Z h.output,fj h.size t.size,λk hk=>(t.block k (by have:=h.size;omega) oM oM).Z (h.block k hk)⟩
structure Xbq(n b:Nat)(Β B:PU):Prop where
 os:B.os=Β.os
 tape:B.tape=Β.tape
 output:B.output=Β.output
 size:Β.heap.size<=B.heap.size
 block:∀k,k<n->k≠b->B.heap[k]?=Β.heap[k]?
def Xbq.below{s:Nat}{B:PU}(h:Below s w Β)(t:Xbq n b Β B)(hs:s<=b)(hn:s<=n):Below s w B:=⟨t.os.Z h.os,t.tape.Z h.tape,t.output.Z h.output,fj h.size t.size,λk hk=>(t.block k oM oM).Z (h.block k hk)⟩
def Wo{B:PU}{e:LN}{size k:Nat}{v:HT}(h:Β.ownsRow base e size v k xs)(hb:Below Β.heap.size Β B):B.ownsRow base e size v k xs:=
 ⟨h.1,h.2.imp id λ⟨g,cap,a0,h1,h2,h3,h4⟩=>⟨g,cap,a0,h1,h2,(hb.block g (fb.1 h3).1).Z h3,h4⟩⟩
def YV{w1:PU}{n₀ B:Nat}{e:LN}{size:Nat}{v v':HT}{k m:Nat}{ys:LV}{tmp:Obj}
  (hv:Boxed W B t v) (a7:t≠e) (a5:W.ownsRow n₀ e size v k xs) (b0:n₀<=W.heap.size)
  (a4:w1.ownsRow n₀ e size v' m ys) (a0:(W.alloc tmp).grownBy w1 v.ownBlock):
  Boxed w1 B t v/\Boxed (w1.setCell ⟨B,0,none⟩ v') B t v'/\(w1.setCell ⟨B,0,none⟩ v').ownsRow n₀ e size v' m ys/\Xbq n₀ B W (w1.setCell ⟨B,0,none⟩ v'):=by
 have a6:Boxed w1 B t v:=(hv.alloc tmp).kept a0 (hv.not_row a7 a5);refine⟨a6,a6.set v',a4.kept (grownBy_setCell' w1 B v') (.inr (a6.not_row a7 a4).H),by have:=World.grownBy.os a0;exact this,by have:=World.grownBy.tape a0;exact this,by have:=World.grownBy.output a0;exact this,?_,λj hj hb=>?_⟩
 .have:=World.grownBy.size a0;simp[World.setCell]at this ⊢;omega
 .refine(Below.heap_setCell w1 _ v' j hb).Z ((World.grownBy.block a0 j (by simp;omega) λe'=>?_).Z (Below.heap_alloc W tmp j oM));rcases a5.2 with⟨rfl,_⟩|⟨g,cap,a8,rfl,a9,_⟩
  .simp[Value.ownBlock]at e'
  .have:j=g:=(by simpa[Value.ownBlock]using e');omega
def Zev{v:HT}{l:Λ}(h:W.ownsRow base 305 2 v l.length (Cq l))(a0:FF l)(hl:l.length<=1000000):
  Calls prog 265 #[v] W λe w'=>∃(t:Sl) (m:Λ),e= .returned t.v/\AI W w'/\m.Perm l/\Et m/\No Đ w' (λb=>W.heap.size<=b/\b<w'.heap.size) t (Dl m):=by
 obtain⟨s,rfl,uy⟩:=OF.Xcn h;have eb:Đ.bytes=16:=rfl;have hj:sx prog 265 [s.v] W λv w'=>∃(t:Sl) (m:Λ),v=t.v/\AI W w'/\m.Perm l/\Et m/\No Đ w' (λb=>W.heap.size<=b/\b<w'.heap.size) t (Dl m):=by
  refine MU.V (Xab uy a0 hl λt w' m hx hp hr ow=>⟨t,m,rfl,hx,hp,hr,?_⟩);have a4:(Dl m).length<=1000000:=by
   have hm:m.length<=1000000:=(by rwa [hp.length_eq]);cases m with
   |nil=>simp[Dl]
   |cons y r=>have:=Zem r y;simp only[fu]at hm;show(D1 y r).length<=1000000;omega
  refine(ow.A (by rw[eb];unfold Ab;omega) (by rw[Ao];omega)).O λb hb=>?_;rcases hb with h|⟨ad,ha,rfl⟩
  .exact h.F
  .have:=ow.block ha;exact⟨this.1,this.2.1⟩
 exact Calls.O hj λe w' ⟨v,he,t,m,hv,r⟩=>⟨t,m,by rw[he,hv],r⟩
def Zc9{t:Sl}{l:Λ}(h:No Đ W S t l):
  Calls prog 264 #[t.v] W λe w'=>∃(s:Sl) (er:Int),e= .returned (.tuple #[s.v,vi er])/\AI W w'/\((s=Sl.nil/\er=26/\64<l.length)\/(er=0/\l.length<=64/\No uo w' (λb=>W.heap.size<=b/\b<w'.heap.size) s (BU l))):=by
 have hf:sx prog 264 [t.v] W λv w'=>∃(s:Sl) (er:Int),v= .tuple #[s.v,vi er]/\AI W w'/\((s=Sl.nil/\er=26/\64<l.length)\/(er=0/\l.length<=64/\No uo w' (λb=>W.heap.size<=b/\b<w'.heap.size) s (BU l))):=by refine Pk.V ?_;unfold Pk;have hl:=h.len;exact⟨λhg=>⟨Sl.nil,26,rfl,AI.refl _,.inl ⟨rfl,rfl,oM⟩⟩,λhg=>MX.V (Xbj h oM λt w' hx ht=>⟨t,rfl,t,0,rfl,hx,.inr ⟨rfl,oM,ht⟩⟩)⟩
 exact Calls.O hf λe w' ⟨v,he,s,er,hv,r⟩=>⟨s,er,by rw[he,hv],r⟩
def PB(w:PU)(text:Pr)(e:Ending)(W':PU):Prop:=
 AI w W'/\∃(s:Sl) (er:Int),e= .returned (.tuple #[s.v,vi er])/\((s=Sl.nil/\er=21/\ ¬N6 text)\/
  (text.size<=4096/\∃l m,Ž (Aw Bt text) (Aw Bt text).length l/\m.Perm l/\Et m/\((s=Sl.nil/\er=26/\64<(Dl m).length)\/
   (er=0/\(Dl m).length<=64/\No uo W' (λb=>w.heap.size<=b/\b<W'.heap.size) s (BU (Dl m))))))
set_option maxRecDepth 100000 in
def Zg3(n:Nat)(hn:12<=n)(text:Pr)(w:PU)(f7:text.size<=4096)(m:Int)(hm:w.cell? ⟨0,0,none⟩=some (vi m))(e0:Tm w)(g6:Ŝ text):
  CallsIn Fence.wide n prog 173 #[.string text] w (PB w text):=by
 have h1:1<=n:=oM;obtain⟨i0,hi,i3,i4,i5⟩:=info_parts (show(prog.info? 305).map (λi=>(i.zero,i.size,i.bytes))=some (some (.agg #[vi 0,vi 0]),2,16) by kernel_rfl);refine callsIn_of_wp_marks func173 rfl trivial ?_ rfl;simp only[Tryz.ntmps173,je,fu,ie,Nat.reduceAdd,Nat.reduceSub,lz,ly,mw,mc,ip,ig];have g5:(text.size:Int)<=4096:=oM
 gi_wp2_with (refine⟨trivial,?_⟩;gi_at_call 262;refine(Xq (n - 1) oM _ _ _).O ?_;rintro e w' ⟨rfl,rfl⟩)
 have b5:=stA w text;obtain⟨V,hV⟩:∃V,G6 (((w.alloc (.cells #[Bo] 132)).alloc (.cells #[vi 0] 44)).alloc (.cells #[Bo] 302)) text Bt=V:=⟨_,rfl⟩;rw[hV]at b5;have c6:=hV;unfold Bo Bt at c6;rw[c6];clear hV c6;have h4:0<w.heap.size:=World.block_lt_of_cell? _ _ hm;have f9:∀{W:PU},Below w.heap.size w W->W.cell? ⟨0,0,none⟩=some (vi m):=λh=>(h.cell (p:=⟨0,0,none⟩) h4).Z hm;have f5:=b5.size;have g4:=Xr (n - 1) oM Bt dC (w.heap.size+1+1+1+1) (w.heap.size+1+1+1) (w.heap.size+1+1+1+2) oM oM text f7 m oM (V.alloc (.deferred (some []))) (b5.uz.alloc _) (b5.str.alloc _) (b5.sav.alloc _) (f9 (b5.vh.alloc oM _));have hD:(V.alloc (.deferred (some []))).heap[w.heap.size+6]?=some (.deferred (some [])):=by rw[<-f5];exact World.alloc_heap_new V _
 have d5:(V.alloc (.deferred (some []))).heap.size=w.heap.size+7:=by rw[World.size_alloc,f5]
 refine WE (r₀:=none) (D:=V.heap.size) (λfn=>Zdr _ _ _ _ fn) (gf:=351) rfl (enters_of func351 kR rfl) g4 rfl oM (λk hk=>?ks)
  (IA w text) (XA w text) (λk Β B b hb h ht=>h.tu (hb.imp id λe=>e.Z d5) ht) (λc Β B b hb h ht=>h.tu (hb.imp id λe=>e.Z d5) ht)
  ⟨[],Bo,Ž.start _,b5.all.alloc _,World.ownsRow_nil _ _ _ _,b5.vh.alloc oM _,b5.sw.alloc _,b5.err.alloc _,hD,oM⟩ ?a1 ?assign ?body ?done ?stop
 case ks=>simp only[gn,qz,or_false]at hk;omega
 case assign=>
  intro x W K hK
  gi_wp2
  exact hK
 case body=>
  rintro k hk W ⟨g8,d2,j7⟩ ⟨l,v,hA,c9,c8,hB,b7,b6,b9,d8⟩;rw[d5]at d2;have h5:=(fb.1 d2).1;have n1:1<=n - 1 - 1:=oM;have n2:1<=n - 1 - 1 - 1:=oM
  gi_wp2_with (refine⟨trivial,?_⟩;gi_at_call 262;refine(CallsIn.inRound (F:=Fence.wide) _ (Xq (n - 1 - 1 - 1) oM _ _ _)).O ?_;rintro e w' ⟨rfl,rfl⟩)
  have a6:=stB W (Aw Bt text)[k];obtain⟨V2,hV⟩:∃V2,G6 ((W.alloc (.cells #[vi 0,vi 999999999] 305)).alloc (.cells #[.bool false] 4)) (Aw Bt text)[k] BL=V2:=⟨_,rfl⟩;rw[hV]at a6;have c6:=hV;unfold BL at c6;rw[c6];clear hV c6;have e6:=a6.size;have g9:V2.heap[(V.alloc (.deferred (some []))).heap.size]?=some (.loop g8):=by rw[d5];exact(a6.vh.block _ oM).Z d2
  have e5:(Aw Bt text)[k].size<=4096:=fj (Qv (fe hk)) f7;have f6:=Xr (n - 1 - 1 - 1) oM BL dC (W.heap.size+1+1+1) (W.heap.size+1+1) (W.heap.size+1+1+2) oM oM (Aw Bt text)[k] e5 m oM V2 a6.uz a6.str a6.sav (f9 (hB.Z (a6.vh.O oM)));refine WE (r₀:=some (V.alloc (.deferred (some []))).heap.size) (D:=g8.defers) (w₀:=V2) (mark:=[]) (λfn=>run_enterLoop_inner g9 fn _ _ _ _) (gf:=351) rfl (enters_of func351 kR rfl) f6 rfl oM (λk hk=>?ks2)
   (IB W (Aw Bt text)[k]) (XB w W (Aw Bt text)[k]) (λj Β B b hb h ht=>h.tu (hb.imp id λe=>e.Z e6) ht) (λc Β B b hb h ht=>h.tu oM (hb.imp id λe=>e.Z e6) ht)
   ⟨_,_,ž.start _,a6.one,a6.some,a6.vh,oM⟩ ?a2 ?assign2 ?body2 ?done2 ?stop2
  case ks2=>simp only[gn,qz,or_false]at hk;omega
  case assign2=>
   intro x W K hK
   gi_wp2
   exact hK
  case body2=>
   rintro j hj W' ⟨j1,d3,i9⟩ ⟨x,b,hW,b4,a8,a0,d7⟩;have d9:(Aw BL (Aw Bt text)[k])[j].size<=4096:=fj (Qv (fe hj)) e5;generalize ht:(Aw BL (Aw Bt text)[k])[j]=t at d9 ⊢;by_cases h0:t.size=0
   .have h9:t=bm #[]:=(by obtain⟨⟨l⟩⟩:=t;simp[ByteArray.size]at h0;rw[h0]);subst h9
    gi_wp2
    exact⟨rfl,λ_ _=>rfl,x,b,hW.skip hj (by rw[ht];rfl),b4,a8,a0,d7⟩
   .have j2: ¬t=bm #[]:=(by rintro rfl;exact h0 rfl);have j8:t.toList.isEmpty=false:=by
     rw[Lib.toList_data];cases h:t.data.toList with
     |nil=>have:=Lib.size_eq t;rw[h,ie]at this;omega
     |cons _ _=>rfl
    by_cases hx:∃a,wo t.data.toList a
    .obtain⟨a,ha⟩:=hx;have hc:Calls prog 263 #[.string t] W' λe w'=>e= .returned (.tuple #[.agg #[vi a.1,vi a.2],.bool true])/\AI W' w':=by
      refine(e0 t W' (Ŝ.piece g6 (fe hk) (by rw[<-ht];exact fe hj)) d9 (hB.Z (a0.O oM))).O ?_;rintro e w' ⟨b8,⟨y,hy,rfl⟩|⟨hn,_⟩⟩
      .rw[hy.one ha];exact⟨rfl,b8⟩
      .exact fm ha (hn a)
     have n3:1<=n - 1 - 1 - 1 - 1:=oM
     gi_wp2_with (refine⟨trivial,?_⟩;gi_at_call 263;refine(CallsIn.inRound (F:=Fence.wide) _ (callsIn_wide.2 hc)).O ?_;rintro e w' ⟨rfl,b8⟩;obtain⟨c1,c2,f1,f2,cs,fs⟩:=Z7 (b8.Z (AI.alloc w' (.cells #[vi a.1,vi a.2] 305))) b4 a8)
     have x2:=b8.Z (AI.alloc w' (.cells #[vi a.1,vi a.2] 305));have f3:=(x2.block (fb.1 b4).1).Z b4;have e2:=Dh a8 x2 a8.lt;obtain⟨k1,k2,k3⟩:=Zj3 (p:=.int .i64 (max x.1 a.1)) (q:=.int .i64 (min x.2 a.2)) (r:=.bool true) f3 e2;have k4:=k3.U x2 a8.lt;refine⟨?_,?_,(max x.1 a.1,min x.2 a.2),true,hW.vv hj (by rwa [ht]) (by rwa [ht]),k1,k2,Two.below a0 k4 nR nR,fj d7 k4.size⟩
     .exact k4.block _ (fb.1 d3).1 oM oM
     .intro q hq;simp only[gn,qz,or_false]at hq;exact k4.block _ oM oM oM
    .have hc:Calls prog 263 #[.string t] W' λe w'=>e= .returned (.tuple #[.agg #[vi 0,vi 0],.bool false])/\AI W' w':=by
      refine(e0 t W' (Ŝ.piece g6 (fe hk) (by rw[<-ht];exact fe hj)) d9 (hB.Z (a0.O oM))).O ?_;rintro e w' ⟨b8,⟨y,hy,_⟩|⟨_,he⟩⟩
      .exact fm ⟨y,hy⟩ hx
      .exact⟨he,b8⟩
     have n3:1<=n - 1 - 1 - 1 - 1:=oM;have a9:=Dh b7 a0 oM;have a7:=Dh b6 a0 oM
     gi_wp2_with (refine⟨trivial,?_⟩;gi_at_call 263;refine(CallsIn.inRound (F:=Fence.wide) _ (callsIn_wide.2 hc)).O ?_;rintro e w' ⟨rfl,b8⟩;have x2:=b8.Z (AI.alloc w' (.cells #[vi 0,vi 0] 305));have c1:=(Dh a9 x2 a9.lt).cell;have c2:=(Dh a9 x2 a9.lt).frozen;have c3:=(Dh a7 x2 a7.lt).cell;have c4:=(Dh a7 x2 a7.lt).frozen)
     have x2:=b8.Z (AI.alloc w' (.cells #[vi 0,vi 0] 305));obtain⟨k1,k2,k3⟩:=RO (p:=Bo) (q:=.int .i64 21) (Dh a9 x2 a9.lt) (Dh a7 x2 a7.lt);have k4:=k3.U x2 a7.lt;exact⟨k4.block _ (fb.1 d3).1 oM oM,rfl,⟨t,by rw[<-ht];exact fe hj,h0,λy hy=>hx ⟨y,hy⟩⟩,k1,k2,k4.Xct a0⟩
  case stop2=>
   rintro c W2 ⟨rfl,⟨t,ht,h0,hx⟩,b1,b2,hr⟩
   gi_wp2
   exact⟨by rw[d5];exact hr.block _ h5 oM oM,rfl,λh=>by obtain⟨y,hy⟩:=(h.2 _ (fe hk)).2 t ht h0;exact hx y hy,Ż.below hB hr nR,b1,b2,(hr.block _ (fb.1 b9).1 oM oM).Z b9,fj d8 hr.size⟩
  case done2=>
   rintro W2 ⟨x,b,hW,b4,a8,a0,d7⟩;have j4:=a8.cell;have a5:=Dh b7 a0 oM;have a4:=Dh b6 a0 oM;have e3:=hB.Z (a0.O (by omega:w.heap.size<=W.heap.size));have b0:=(a0.block _ (fb.1 b9).1).Z b9;cases b with
   |false=>
    have c1:=a5.cell;have c2:=a5.frozen;have c3:=a4.cell;have c4:=a4.frozen
    gi_wp2
    obtain⟨k1,k2,k3⟩:=RO (p:=Bo) (q:=.int .i64 21) a5 a4;exact⟨(k3.block _ oM oM oM).Z (a0.block _ oM),rfl,λh=>by have:=hW.some;rw[eh]at this;exact fm (this.2 (h.2 _ (fe hk)).1) sI,Ż.below hB (k3.Xct a0) nR,k1,k2,(k3.block _ (fb.1 b0).1 oM oM).Z b0,fj oM k3.size⟩
   |true=>
    have d6:=hA.step hk hW;have c1:W2.cell? ⟨W.heap.size,0,none⟩=some (vi x.1):=(by simp[World.cell?,b4]);have c2:W2.cell? ⟨W.heap.size,1,none⟩=some (vi x.2):=(by simp[World.cell?,b4]);have c5:=Dh c9 a0 oM;by_cases f8:x.1<=x.2
    .have e7:=d6.1 f8;have h3:=c5.cell;have d4:=Wo c8 a0;have i7:=hA.len;have h6:l.length<=4096:=by have:=Qt Bt dC text;omega
     gi_wp2_with (gi_at_builtin;refine wpListIn_append_own _ rfl _ _ 302 rfl (w.heap.size+8) 305 i0 (.agg #[vi 0,vi 0]) 2 16 underlying302 hi i3 i4 i5 rfl dC _ _ _ rfl (d4.alloc _) ⟨W2.heap.size,0,none⟩ 1 1 [vi x.1,vi x.2] rfl rfl (λj u hj=>by rw[show(⟨W2.heap.size,0,none⟩:LP).add j=⟨W2.heap.size,j,none⟩ by unfold Addr.add;split<;>simp_all];rwa [World.cell?_alloc_mark,kh]) (by simp[Value.oneCell']) (by rw[VL];omega) oM (by simp;omega) ?_;intro v' w1 d0 f0 _;obtain⟨g',i6,rfl⟩:=ownsRow_succ d0;obtain⟨g7,i2,h8,c7⟩:=YV c5 dC d4 oM d0 f0;have j3:=g7.cell;have j5:=g7.frozen)
     exact⟨(c7.block _ oM oM).Z (a0.block _ oM),λq hq=>by simp only[gn,qz,or_false]at hq;exact(c7.block _ oM oM).Z (a0.block _ oM),l++[x],_,e7,i2,by rw[WP];simpa using h8,Xbq.below e3 c7 oM oM,(c7.block _ oM oM).Z a5,(c7.block _ oM oM).Z a4,(c7.block _ oM oM).Z b0,fj oM c7.size⟩
    .have e7:=d6.2 f8
     gi_wp2
     exact⟨a0.block _ oM,λq hq=>by simp only[gn,qz,or_false]at hq;exact a0.block _ oM,l,v,e7,c5,Wo c8 a0,e3,a5,a4,b0,oM⟩
 case stop=>
  rintro c W ⟨rfl,h7,hB,b7,b6,b9,d8⟩
  gi_wp2
  refine⟨by simp,.inl ⟨_,_,rfl,run_takeDeferred (by rwa [f5]),?_⟩⟩;have hp:=Tu.put W V.heap.size (.deferred none);have e8:=(DH b7 hp oM).cell;have e9:=(DH b6 hp oM).cell;refine⟨.tuple #[Bo,vi 21],?_,JZ hB hp oM nR,Sl.nil,21,rfl,.inl ⟨rfl,rfl,h7⟩⟩;simp[results,Tryz.f173,go_sem,e8,e9]
 case done=>
  rintro W ⟨l,v,hA,c9,c8,hB,b7,b6,b9,d8⟩;have h3:=c9.cell;have j6:=hA.len;have h6:=Qt Bt dC text
  gi_wp2
  refine⟨trivial,(callsIn_wide.2 (Zev c8 hA.inn oM)).O ?_⟩;rintro e w1 ⟨t,m',rfl,x1,hp,hr,hm⟩
  gi_wp2
  refine⟨trivial,(callsIn_wide.2 (Zc9 hm)).O ?_⟩;rintro e w2 ⟨⟨a2,l2,k2⟩,er,rfl,x2,g0⟩;dsimp only[Sl.v];have e1:=x1.Z x2;have a5:=Dh b7 e1 oM;have a4:=Dh b6 e1 oM;have b0:=(e1.block oM).Z b9;have c1:=a5.cell;have c2:=a5.frozen;have c3:=a4.cell;have c4:=a4.frozen
  gi_wp2
  obtain⟨q1,q2,q3⟩:=RO (p:=.slice a2 l2 k2) (q:=.int .i64 er) a5 a4;have e4:=(q3.block _ (fb.1 b0).1 oM oM).Z b0;refine⟨by simp,.inl ⟨_,_,rfl,run_takeDeferred e4,?_⟩⟩;generalize hX:(w2.setCell ⟨w.heap.size,0,none⟩ (.slice a2 l2 k2)).setCell ⟨w.heap.size+1,0,none⟩ (vi er)=X at q1 q2 q3 e4 ⊢;have d1:=Tu.put X (w.heap.size+6) (.deferred none);have e8:=(DH q1 d1 oM).cell;have e9:=(DH q2 d1 oM).cell;have h2:=Two.below (hB.Z (e1.O oM)) q3 nR nR;refine⟨.tuple #[.slice a2 l2 k2,vi er],?_,JZ h2 d1 oM nR,⟨a2,l2,k2⟩,er,rfl,.inr ⟨f7,l,m',hA,hp,hr,g0.imp id λ⟨g1,g2,g3⟩=>⟨g1,g2,?_⟩⟩⟩
  .simp[results,Tryz.f173,go_sem,e8,e9]
  .have j0:=e1.size;have j9:=x1.size;have g5:=World.grownBy.size d1;have hq:=q3.size;refine(g3.sj (w':=X.putObj (w.heap.size+6) (.deferred none)) λb hb hl=>?_).O λb hb=>⟨by have:=hb.1;omega,by have:=hb.2;omega⟩;have h1:=hb.1;exact(World.grownBy.block d1 b oM (by simp;omega)).Z (q3.block b hl oM oM)
end Go.Hal
namespace Go.Hal
def Bn(uz:LU):Nat->LU->List (List UInt8)
 |0,s=>[s]
 |_+1,[]=>[[]]
 |f+1,b::l=>if uz.isPrefixOf (b::l)then []::Bn uz f ((b::l).drop uz.length)else match Bn uz f l with
  |h::t=>(b::h)::t
  | []=>[[b]]
def Gc(uz:LU)(f:Nat)(s:LU):∃h t,Bn uz f s=h::t:=by
 cases f with
 |zero=>exact⟨_,_,rfl⟩
 |succ f=>cases s with
  |nil=>exact⟨_,_,rfl⟩
  |cons b l=>
   unfold Bn;split
   .exact⟨_,_,rfl⟩
   .split<;>exact⟨_,_,rfl⟩
def Ss{uz:LU}{k:Nat}{s:LU}(h:Lib.index s uz= -1):Lib.splitK uz 0 k s= [s]:=by
 cases k with
 |zero=>rfl
 |succ k=>unfold Lib.splitK;rw[fl (by rw[h];rfl)]
def Sr{uz:LU}{k:Nat}{s:LU}(h:Lib.index s uz=i):Lib.splitK uz 0 (k+1) s=s.take i::Lib.splitK uz 0 k (s.drop (i+uz.length)):=by
 have hm: ¬(Lib.index s uz== -1)=true:=λe=>by have:=beq_iff_eq.1 e;omega
 have e:(Lib.index s uz).toNat=i:=oM;rw[Lib.splitK,fa hm,e,ky]
def NU{uz:LU}(h1:1<=uz.length):∀(f k:Nat)(s:LU),s.length<=f->s.length<=k->Lib.splitK uz 0 k s=Bn uz f s
 |f,k,[],_,_=>by
  have hi:Lib.index [] uz= -1:=by
   cases uz with
   |nil=>simp at h1
   |cons a t=>rfl
  rw[Ss hi];cases f<;>rfl
 |0,_,b::l,h,_=>by simp at h
 |_,0,b::l,_,h=>by simp at h
 |f+1,k+1,b::l,hf,hk=>by
  simp only[fu]at hf hk;unfold Bn;by_cases h0:uz.isPrefixOf (b::l)=true
  .have hi:Lib.index (b::l) uz=(0:Nat):=(by unfold Lib.index;rw[fl h0];rfl);rw[Sr hi,fl h0,kj,qo];rw[NU h1 f k _ (by rw[gh];simp only[fu];omega) (by rw[gh];simp only[fu];omega)]
  .rw[fa h0];have hl:=NU h1 f k l oM oM;have a4:=NU h1 f (k+1) l oM oM;rcases Lib.index_spec l uz with⟨hm,_⟩|⟨i,hi,_⟩
   .have hi:Lib.index (b::l) uz= -1:=(by unfold Lib.index;rw[fa h0,hm];rfl);rw[Ss hi,<-hl,Ss hm]
   .have a0:Lib.index (b::l) uz=((i+1:Nat):Int):=by have:((i:Int)== -1)=false:=(by rw[px];omega);unfold Lib.index;rw[fa h0,hi];simp[this]
    rw[Sr a0,<-a4,Sr hi];simp[Nat.add_right_comm]
def pre(acc:LU):List (List UInt8)->List (List UInt8)
 |h::t=>(acc++h)::t
 | []=>[acc]
def PM:∀(f:Nat)(a0 s:LU),s.length<=f->GO a0 s=pre a0 (Bn [124,124] f s)
 |f,a0,[],_=>by cases f<;>simp[GO,Bn,pre]
 |0,_,b::l,h=>by simp at h
 |f+1,a0,[b],h=>by
  have h0: ¬([124,124]:LU).isPrefixOf [b]=true:=by simp
  unfold GO Bn;rw[fa h0];cases f<;>simp[Bn,pre]
 |f+1,a0,b::c::r,h=>by
  simp only[fu]at h;have e:(([124,124]:LU).isPrefixOf (b::c::r)=true)↔(b=124/\c=124):=by
   constructor
   .intro h;simp only[List.isPrefixOf,dz,jq]at h;exact⟨h.1.H,h.2.1.H⟩
   .rintro⟨rfl,rfl⟩;simp only[List.isPrefixOf,beq_self_eq_true,Bool.and_self]
  unfold GO Bn;by_cases hb:b=124/\c=124
  .rw[fl hb,fl (e.2 hb)];have:=PM f [] r oM;obtain⟨x,t,ht⟩:=Gc [124,124] f r;simp only[fu,ie,rp,ju,pre,gv];rw[this,ht];simp[pre]
  .rw[fa hb,fa λh=>hb (e.1 h),PM f (a0++[b]) (c::r) (by simp only[fu];omega)];obtain⟨x,t,ht⟩:=Gc [124,124] f (c::r);rw[ht];simp[pre]
def SL:∀(f:Nat)(a0 s:LU),s.length<=f->HM a0 s=(pre a0 (Bn [32] f s)).filter λt=>decide (t≠[])
 |f,a0,[],_=>by cases f<;>by_cases ha:a0=[]<;>simp[HM,Bn,pre,ha]
 |0,_,b::l,h=>by simp at h
 |f+1,a0,b::r,h=>by
  simp only[fu]at h;have e:(([32]:LU).isPrefixOf (b::r)=true)↔b=32:=by
   constructor
   .intro h;simp only[List.isPrefixOf,dz,jq]at h;exact h.1.H
   .rintro rfl;simp only[List.isPrefixOf,beq_self_eq_true,Bool.and_self]
  unfold HM Bn;by_cases hb:b=32
  .rw[fl hb,fl (e.2 hb)];have:=SL f [] r oM;obtain⟨x,t,ht⟩:=Gc [32] f r;simp only[fu,ie,rp,ju,pre,gv];rw[this,ht];by_cases ha:a0=[]<;>simp[pre,ha]
  .rw[fa hb,fa λh=>hb (e.1 h),SL f (a0++[b]) r oM];obtain⟨x,t,ht⟩:=Gc [32] f r;rw[ht];simp[pre]
def Qs(h1:1<=uz.size)(s:Pr):(Aw uz s).map (·.data.toList)=Bn uz.data.toList s.data.toList.length s.data.toList:=by unfold Aw;rw[Lib.splitB_data,Lib.size_eq];exact NU (by rwa [<-Lib.size_eq]) _ _ _ nR nR
def W0(l:List (List UInt8))(h:l≠[]):pre [] l=l:=by cases l with
 |nil=>exact fm rfl h
 |cons x t=>rfl
def Tv(s:Pr):JT s.data.toList=(Aw Bt s).map (·.data.toList):=by
 rw[Qs dC];unfold JT;rw[PM _ _ _ nR,W0]
 .rfl
 .obtain⟨h,t,e⟩:=Gc [124,124] s.data.toList.length s.data.toList;rw[e];simp
def Yl(s:Pr):GB s.data.toList=((Aw BL s).map (·.data.toList)).filter λt=>decide (t≠[]):=by
 rw[Qs dC];unfold GB;rw[SL _ _ _ nR,W0]
 .rfl
 .obtain⟨h,t,e⟩:=Gc [32] s.data.toList.length s.data.toList;rw[e];simp
def Pf{t:Pr}:t.size≠0↔t.data.toList≠[]:=by rw[Lib.size_eq,ne_eq,List.length_eq_zero_iff]
def Ym{s:Pr}{p:LU->Prop}:(∀w∈GB s.data.toList,p w)↔∀t∈Aw BL s,t.size≠0->p t.data.toList:=by
 rw[Yl];constructor
 .intro h t ht h0;exact h _ (iz.2 ⟨ij.2 ⟨t,ht,rfl⟩,by simpa using Pf.1 h0⟩)
 .intro h w hw;obtain⟨h1,h2⟩:=iz.1 hw;obtain⟨t,ht,rfl⟩:=ij.1 h1;exact h t ht (Pf.2 (by simpa using h2))
def Znj{s:Pr}:GB s.data.toList≠[]↔∃t∈Aw BL s,t.size≠0:=by
 rw[Yl,ne_eq,List.filter_eq_nil_iff];constructor
 .intro h;apply iy;intro hn;refine h λw hw=>?_;obtain⟨t,ht,rfl⟩:=ij.1 hw;intro h2;exact hn ⟨t,ht,Pf.2 (by simpa using h2)⟩
 .rintro⟨t,ht,h0⟩ h;exact h _ (ij.2 ⟨t,ht,rfl⟩) (by simpa using Pf.1 h0)
def Tt(a:Pr):GD a↔P1 a.data.toList:=by unfold GD P1;rw[Znj,Ym (p:=λw=>∃x,wo w x)]
def Ts(a:Pr)(n:Int):JM a n↔P0 a.data.toList n:=by unfold JM P0;rw[Ym (p:=λw=>∀x,wo w x->x.1<=n/\n<=x.2)]
def RD(s:Pr):N6 s↔GK s.data.toList:=by
 unfold N6 GK;rw[Tv,Lib.size_eq];refine and_congr_right λ_=>?_;constructor
 .intro h a ha;obtain⟨t,ht,rfl⟩:=ij.1 ha;exact(Tt t).1 (h t ht)
 .intro h a ha;exact(Tt a).2 (h _ (ij.2 ⟨a,ha,rfl⟩))
def Ž.range{s:Pr}(hs:s.size<=4096){l m:Λ}(h:Ž (Aw Bt s) (Aw Bt s).length l)(hp:m.Perm l)(hr:Et m):yr s.data.toList (Dl m):=by
 have ht:(Aw Bt s).take (Aw Bt s).length=Aw Bt s:=eh;have h1:=h.ok;have h2:=h.has;rw[ht]at h1 h2;have a0:∀x∈m,x∈l:=λx hx=>hp.mem_iff.1 hx;have hm:∀n,Bc n m=true↔Bc n l=true:=λn=>by unfold Bc;rw[ka,ka];exact⟨λ⟨x,hx,h⟩=>⟨x,a0 x hx,h⟩,λ⟨x,hx,h⟩=>⟨x,hp.mem_iff.2 hx,h⟩⟩
 have a4:Eu 0 (Dl m)/\∀n,Bc n (Dl m)=true↔Bc n m=true:=by
  cases m with
  |nil=>exact⟨trivial,λn=>Iff.rfl⟩
  |cons y r=>have ha:y.1<=y.2:=h.le y (a0 y (.head _));have hb:∀x∈r,x.1<=x.2:=λx hx=>h.le x (a0 x (.tail _ hx));exact⟨Zek r y 0 (h.inn y (a0 y (.head _))).1 hr ha hb,λn=>Zel n r y hr ha hb⟩
 refine⟨(RD s).1 ⟨hs,h1⟩,a4.1,λn=>?_⟩;rw[a4.2,hm,h2,Tv];constructor
 .rintro⟨a,ha,hn⟩;exact⟨_,ij.2 ⟨a,ha,rfl⟩,(Ts a n).1 hn⟩
 .rintro⟨a,ha,hn⟩;obtain⟨t,ht,rfl⟩:=ij.1 ha;exact⟨t,ht,(Ts t n).2 hn⟩
structure Gl(w:PU):Prop where
 Ñ:Þ w
 mx:∃m,w.cell? ⟨0,0,none⟩=some (vi m)
 syn:∃ev,w.cell? ⟨6,0,none⟩=some ev/\(ev= .nilIface\/∃te pe,ev= .iface te pe)
 rng:∃ev,w.cell? ⟨7,0,none⟩=some ev/\(ev= .nilIface\/∃te pe,ev= .iface te pe)
def Gl.U(h:Gl w)(hx:AI w w'):Gl w':=by obtain⟨h1,⟨m,h2⟩,⟨e,h3,a0⟩,⟨e',h4,a4⟩⟩:=h;exact⟨h1.U hx,⟨m,hx.cell h2⟩,⟨e,hx.cell h3,a0⟩,⟨e',hx.cell h4,a4⟩⟩
attribute [local go_sem] Oper.semAt_some
def T7(n:Nat):Bool:=match Lib.atoiAll (dec n)with
 | .ok v=>v==(n:Int)
 |_=>false
set_option maxRecDepth 100000 in
def YY:(List.range 1000).all T7=true:=by decide+kernel
def T8{n:Int}(h0:0<=n)(h1:n<=999):Lib.atoiAll (dec n)= .ok n:=by
 have h:=ix.1 YY n.toNat (by simp;omega);have e:((n.toNat:Nat):Int)=n:=oM;unfold T7 at h;rw[e]at h;split at h
 .rename_i v hv;rw[hv,eq_of_beq h]
 .cases h
def Lx{n:Int}(h0:0<=n):Lib.itoa n=dec n:=by unfold Lib.itoa dec;rw[fa oM]
def Hc:Pr:=bm #[46]
def Sq{uz:Pr}(h1:1<=uz.size):∀(k:Nat)(s:Pr),s.size<=k->Lib.splitB uz 0 (Lib.countB s uz) s=Aw uz s
 |k,s,hk=>by
  rcases Lib.indexB_cases s uz with a0|⟨i,a0,a4⟩
  .rw[Lib.splitB_miss _ _ _ _ a0,Ui a0]
  .match k with
   |0=>omega
   |k+1=>rw[Lib.countB_hit s uz i h1 a0,Nat.add_comm,Lib.splitB_hit _ _ _ _ i a0,Uh h1 a0 a4,Sq h1 k _ (by rw[mb];omega),ky]
termination_by k=>k
def Zaa(h1:1<=uz.size)(s:Pr):(Aw uz s).length=Lib.countB s uz+1:=by rw[<-Sq h1 s.size s nR];exact Lib.splitB_all uz h1 0 _ s rfl
def Ug{c:UInt8}:∀{a:LU} (f:Nat),c∉a->Bn [c] f a= [a]
 | [],f,_=>by cases f<;>rfl
 |b::a,0,_=>rfl
 |b::a,f+1,h=>by
  have h0: ¬([c]:LU).isPrefixOf (b::a)=true:=λh2=>by simp only[List.isPrefixOf,dz,jq]at h2;exact h (by rw[h2.1];exact .head _)
  unfold Bn;rw[fa h0,Ug f λh2=>h (.tail _ h2)]
def Qq{c:UInt8}:∀{a:LU} {r:LU} (f:Nat),c∉a->(a++c::r).length<=f->Bn [c] f (a++c::r)=a::Bn [c] (f - a.length - 1) r
 | [],r,0,_,h=>by simp at h
 | [],r,f+1,_,_=>by rw[ip,Bn,fl (by simp only[List.isPrefixOf,beq_self_eq_true,Bool.and_self])];rfl
 |b::a,r,0,_,h=>by simp at h
 |b::a,r,f+1,h,hf=>by
  have h0: ¬([c]:LU).isPrefixOf (b::(a++c::r))=true:=λh2=>by simp only[List.isPrefixOf,dz,jq]at h2;exact h (by rw[h2.1];exact .head _)
  simp only[ig,fu]at hf;rw[ig,Bn,fa h0,Qq f (λh2=>h (.tail _ h2)) oM,fu,show f+1 - (a.length+1) - 1=f - a.length - 1 by omega]
def IU(c:UInt8):List (List UInt8)->LU
 | []=>[]
 | [x]=>x
 |x::y::r=>x++c::IU c (y::r)
def Vj(c:UInt8):∀(f:Nat)(s:LU),s.length<=f->IU c (Bn [c] f s)=s
 |f,[],_=>by cases f<;>rfl
 |0,b::l,h=>by simp at h
 |f+1,b::l,h=>by
  simp only[fu]at h;have ih:=Vj c f l oM;unfold Bn;split
  .rename_i h0;simp only[List.isPrefixOf,dz,jq]at h0;obtain⟨x,t,e⟩:=Gc [c] f l;simp only[fu,ie,rp,ju];rw[e]at ih ⊢;rw[IU,ih,h0.1];rfl
  .split
   .rename_i x t e;rw[e]at ih;cases t with
    |nil=>rw[IU]at ih ⊢;rw[ih]
    |cons y r=>rw[IU]at ih ⊢;rw[<-ih];rfl
   .rename_i e;obtain⟨x,t,e'⟩:=Gc [c] f l;rw[e']at e;cases e
def QV{s:LU}{v:tj}(h:zg s v):Bn [46] s.length s= [dec v.ma,dec v.mi,dec v.pa]:=by
 obtain⟨hm,rfl⟩:=h;have hv:=tj.vu.1 hm;have e:AD v=dec v.ma++46::(dec v.mi++46::dec v.pa):=by unfold AD;rw[fl hm];simp
 rw[e,Qq _ (Ha hv.1.1) nR,Qq _ (Ha hv.2.1.1) sI,Ug _ (Ha hv.2.2.1)]
def Zei{s:LU}{a b c:Int}(h:Bn [46] s.length s= [Lib.itoa a,Lib.itoa b,Lib.itoa c])(hm:(⟨a,b,c⟩:tj).vt=true):zg s ⟨a,b,c⟩:=by refine⟨hm,?_⟩;have hv:=tj.vu.1 hm;simp only at hv;have:=Vj 46 s.length s nR;rw[h,Lx hv.1.1,Lx hv.2.1.1,Lx hv.2.2.1]at this;rw[<-this];unfold AD;rw[fl hm];simp[IU]
def Zac(s:Pr):(Aw Hc s).map (·.data.toList)=Bn [46] s.data.toList.length s.data.toList:=Qs dC s
def Vg{s:Pr}{P:List Pr}{v:tj}(hc:P.map (·.data.toList)=Bn [46] s.data.toList.length s.data.toList)(hv:zg s.data.toList v){k:Nat}(hk:k<P.length):∃x:Int,0<=x/\x<=999/\P[k].data.toList=dec x:=by
 rw[QV hv]at hc;have hm:=tj.vu.1 hv.1;have h:(P.map (·.data.toList))[k]?=some P[k].data.toList:=by rw[gu,dt hk];rfl
 rw[hc]at h
 match k with
 |0=>exact⟨v.ma,hm.1.1,hm.1.2,(jv h).H⟩
 |1=>exact⟨v.mi,hm.2.1.1,hm.2.1.2,(jv h).H⟩
 |2=>exact⟨v.pa,hm.2.2.1,hm.2.2.2,(jv h).H⟩
 |k+3=>simp at h
def QW{a x:Int}(hx:0<=x)(h:Lib.itoa a=dec x):a=x:=by
 by_cases ha:a<0
 .unfold Lib.itoa at h;rw[fl ha]at h;have:=Qw _ hx rfl 45 (by rw[<-h];exact .head _);exact fm this dC
 .rw[Lx oM]at h;exact NV oM hx h
def DW(xs:Α):Γ:=((xs++List.replicate (3 - xs.length) 0).map (Value.int .i64)).toArray
def Ju(P:List Pr):Γ:=(P.map Value.string).toArray
structure PI(w:PU)(P:List Pr)(k:Nat)(wr:PU):Prop where
 vh:Below w.heap.size w wr
 ver:wr.heap[w.heap.size]?=some (.cells #[vi 0,vi 0,vi 0] 52 (0,0))
 row:wr.heap[w.heap.size+1]?=some (.cells (Ju P) 9 (0,0))
 arr:∃xs:Α,wr.heap[w.heap.size+1+1]?=some (.cells (DW xs) 226 (0,0))/\xs.length=k/\(P.take k).map (·.data.toList)=xs.map Lib.itoa
def Dc(v:tj):HT:=.agg #[vi v.ma,vi v.mi,vi v.pa]
def YA(w:PU)(s:Pr)(e:Ending)(w':PU):Prop:=AI w w'/\((∃v,zg s.data.toList v/\e= .returned (.tuple #[Dc v,.bool true]))\/((∀v,¬zg s.data.toList v)/\e= .returned (.tuple #[Dc ⟨0,0,0⟩,.bool false])))
def Zmv(w:PU)(P:List Pr):PI w P 0 (((w.alloc (.cells #[vi 0,vi 0,vi 0] 52)).alloc (.cells (Ju P) 9)).alloc (.cells #[vi 0,vi 0,vi 0] 226)):=by have b0:=World.alloc_heap_new w (.cells #[vi 0,vi 0,vi 0] 52);have b1:=World.alloc_heap_new (w.alloc (.cells #[vi 0,vi 0,vi 0] 52)) (.cells (Ju P) 9);have b2:=World.alloc_heap_new ((w.alloc (.cells #[vi 0,vi 0,vi 0] 52)).alloc (.cells (Ju P) 9)) (.cells #[vi 0,vi 0,vi 0] 226);simp only[World.size_alloc]at b1 b2;exact⟨(((Below.refl _ w).alloc nR _).alloc sI _).alloc (by simp;omega) _,FY (FY b0 _) _,FY b1 _,[],b2,rfl,rfl⟩
def Zej{v:Int}(h0: -9223372036854775808<=v)(h1:v<=9223372036854775807)(ht:Þ W):Calls prog 95 #[vi v] W λe w'=>e= .returned (.string ⟨(Lib.itoa v).toArray⟩)/\AI W w':=by refine(Any.strconv_Itoa Tryz.Xb1 v h0 h1 W ht).O λe w' ⟨he,q,os,hw⟩=>⟨he,?_⟩;subst hw;exact⟨rfl,rfl,rfl,by show W.heap.size<=(W.heap++os).size;simp,λb hb=>by show(W.heap++os)[b]?=W.heap[b]?;rw[jz hb]⟩
def Za{s:Pr}{v:Int}(hs:s.size<=4096)(h:Lib.atoiAll s.data.toList= .ok v):Calls prog 354 #[.string s] W λe w'=>e= .returned (.tuple #[vi v,.nilIface])/\AI W w':=by
 refine(Any.strconv_Atoi_ok Tryz.Xa9 s oM v h W).O λe w' ⟨he,hw⟩=>⟨he,?_⟩;rcases hw with rfl|⟨t,rfl⟩
 .exact AI.refl _
 .exact Lib.bytesWorld_below _ _ _
def YW{B:PU}{k:Nat}{xs:Α}(hx:AI Β B)(h:Β.heap[u]?=some (.cells (DW xs) t (0,0)))(hl:xs.length=k)(hk:k<3):
  B.cell? ⟨u,k,none⟩=some (vi 0)/\B.frozen? ⟨u,k,none⟩=false:=by
 have h2:B.heap[u]?=_:=(hx.block (fb.1 h).1).Z h;have e:(DW xs)[k]?=some (vi 0):=by unfold DW;rw[kh,gu,ii oM,List.getElem?_replicate,fl oM];rfl
 constructor
 .simp only[World.cell?,h2];simpa using e
 .simp[World.frozen?,h2]
def YZ{s:Pr}(hg:Gl W)(hs:s.size<=4096)(h:∀v,Lib.atoiAll s.data.toList≠ .ok v):Calls prog 354 #[.string s] W λe w'=>∃(x:Int) (t:LN) (N:Nat),e= .returned (.tuple #[vi x,.iface t (.pointer (some ⟨N,0,none⟩))])/\AI W w':=by
 obtain⟨_,_,⟨ev,hv,a0⟩,⟨ew,hw,a4⟩⟩:=hg;cases hat:Lib.atoiAll s.data.toList with
 |ok v=>exact fm hat (h v)
 |range=>exact(Any.strconv_Atoi_range Tryz.Xa9 s oM hat ew W hw a4).O λe w' ⟨N,he,_,_,hb⟩=>⟨_,_,N,he,hb⟩
 |_=>exact(Any.strconv_Atoi_syntax Tryz.Xa9 s oM hat ev W hv a0).O λe w' ⟨N,he,_,_,hb⟩=>⟨0,_,N,he,hb⟩
def PI.step{wr w2:PU}{P:List Pr}{k:Nat}{v:Int}(h:PI w P k wr)(hx:AI wr w2)(hk:k<3)(hP:k<P.length)(he:P[k].data.toList=Lib.itoa v):PI w P (k+1) (w2.setCell ⟨w.heap.size+1+1,k,none⟩ (vi v)):=by
 obtain⟨xs,a0,a5,a8⟩:=h.arr;have o:∀j,j≠w.heap.size+1+1->(w2.setCell ⟨w.heap.size+1+1,k,none⟩ (vi v)).heap[j]?=w2.heap[j]? :=λj hj=>Below.heap_setCell w2 _ _ j hj;have a4:w2.heap[w.heap.size+1+1]?=some (.cells (DW xs) 226 (0,0)):=(hx.block (fb.1 a0).1).Z a0;obtain⟨a7,a6⟩:=fb.1 a4;refine⟨(h.vh.Z (hx.O h.vh.size)).setCell (p:=⟨w.heap.size+1+1,k,none⟩) (by simp;omega) _,(o _ oM).Z ((hx.block (fb.1 h.ver).1).Z h.ver),(o _ oM).Z ((hx.block (fb.1 h.row).1).Z h.row),xs++[v],?_,by simp[a5],?_⟩
 .have e:(DW xs).setIfInBounds k (vi v)=DW (xs++[v]):=by
   unfold DW;rw[List.setIfInBounds_toArray];congr 1
   match k,xs,a5,hk with
   |0,[],_,_=>rfl
   |1,[a],_,_=>rfl
   |2,[a,b],_,_=>rfl
  rw[<-e];show(w2.heap.modify (w.heap.size+1+1) _)[w.heap.size+1+1]?=_;rw[nc (by rwa [Array.size_modify]),pw,a6];rfl
 .rw[dw hP,gb,a8,gb,List.map_singleton,List.map_singleton,he]
def F1{B:PU}{x y:HT}(hx:AI Β B)(h:Β.heap[u]?=some (.cells #[x,y,z] t (0,0))):
  B.cell? ⟨u,0,none⟩=some x/\B.cell? ⟨u,1,none⟩=some y/\B.cell? ⟨u,2,none⟩=some z/\B.frozen? ⟨u,0,none⟩=false/\B.frozen? ⟨u,1,none⟩=false/\B.frozen? ⟨u,2,none⟩=false:=by
 have h2:B.heap[u]?=_:=(hx.block (fb.1 h).1).Z h;exact⟨by simp[World.cell?,h2],by simp[World.cell?,h2],by simp[World.cell?,h2],by simp[World.frozen?,h2],by simp[World.frozen?,h2],by simp[World.frozen?,h2]⟩
def RM{k:Nat}{cs:Γ}{v:HT}(h:Β.heap[u]?=some (.cells cs t (0,0))):(Β.setCell ⟨u,k,none⟩ v).heap[u]?=some (.cells (cs.setIfInBounds k v) t (0,0)):=by obtain⟨a0,hk⟩:=fb.1 h;show(Β.heap.modify u _)[u]?=_;rw[nc (by rwa [Array.size_modify]),pw,hk];rfl
def Pa{x y p q r:HT}(h:Β.heap[u]?=some (.cells #[x,y,z] t (0,0))):(((Β.setCell ⟨u,0,none⟩ p).setCell ⟨u,1,none⟩ q).setCell ⟨u,2,none⟩ r).heap[u]?=some (.cells #[p,q,r] t (0,0)):=RM (RM (RM h))
def NH{p q r:HT}(h:Below w.heap.size w Β)(hu:w.heap.size<=u):Below w.heap.size w (((Β.setCell ⟨u,0,none⟩ p).setCell ⟨u,1,none⟩ q).setCell ⟨u,2,none⟩ r):=
 ((h.setCell (p:=⟨u,0,none⟩) hu p).setCell (p:=⟨u,1,none⟩) hu q).setCell (p:=⟨u,2,none⟩) hu r
set_option maxRecDepth 100000 in
def Zm0(n:Nat)(hn:4<=n)(s:Pr)(hs:s.size<=4096)(w:PU)(hg:Gl w):CallsIn Fence.wide n prog 315 #[.string s] w (YA w s):=by
 have h1:1<=n:=oM;obtain⟨m,hm⟩:=hg.mx;refine callsIn_of_wp func315 rfl trivial ?_ rfl;simp only[Tryz.ntmps315,je,fu,ie,Nat.reduceAdd,Nat.reduceSub,lz,ly,mw,mc,ip,ig];have d0:(w.alloc (.cells #[vi 0,vi 0,vi 0] 52)).cell? ⟨0,0,none⟩=some (vi m):=(AI.alloc w _).cell hm;have b0:=Any.strings_Split Tryz.Xcy kR s Hc m (w.alloc (.cells #[vi 0,vi 0,vi 0] 52)) oM d0 dC;rw[Sq dC _ _ nR,<-Zaa dC]at b0;have hP:∀P,Aw Hc s=P->P.map (·.data.toList)=Bn [46] s.data.toList.length s.data.toList:=λP h=>by rw[<-h];exact Zac s
 have b9:(Aw Hc s).length<=4097:=fj (Qt Hc dC s) oM;obtain⟨P,eP⟩:∃P,Aw Hc s=P:=⟨_,rfl⟩;have a7:=hP P eP;have b5:∀p∈P,p.size<=4096:=λp hp=>fj (Qv (uz:=Hc) (by rwa [eP])) hs;rw[eP]at b0 b9;clear hP eP;by_cases h3:P.length=3
 .gi_wp2_with (refine⟨trivial,?_⟩;gi_at_call 353;refine(callsIn_wide.2 b0).O ?_;rintro e w' ⟨rfl,rfl⟩)
  have b2:=Zmv w P;obtain⟨V,hV⟩:∃V,((w.alloc (.cells #[vi 0,vi 0,vi 0] 52)).alloc (.cells (Ju P) 9)).alloc (.cells #[vi 0,vi 0,vi 0] 226)=V:=⟨_,rfl⟩;rw[hV]at b2;have b7:((w.alloc (.cells #[vi 0,vi 0,vi 0] 52)).alloc (.cells (P.map Value.string).toArray (Tryz.Č.t 9))).alloc (.cells #[vi 0,vi 0,vi 0] 226)=V:=hV;rw[b7];clear hV b7
  gi_loopw [19] (λi wr=>∃k:Nat,i= .int .i64 k/\k<=3/\PI w P k wr) (λi _=>3 - (Go.Proofs.intOf i).toNat)
  case atStart=>exact⟨0,rfl,oM,b2⟩
  case round=>
   obtain⟨k,rfl,hk,hI⟩:=hrel;obtain⟨xs,a6,c8,d6⟩:=hI.arr;have b8:Gl wr:=hg.U hI.vh;have e7:=(fb.1 a6).1;by_cases c4:k<3
   .have a8:k<P.length:=oM;have e0:(k:Int)<(P.length:Int):=oM;have c1:wr.cell? ⟨w.heap.size+1,k,none⟩=some (.string P[k]):=(by simp[World.cell?,hI.row,Ju,a8]);cases hat:Lib.atoiAll P[k].data.toList with
    |ok v=>
     gi_wp2_with (refine⟨trivial,?_⟩;gi_at_call 354;refine(callsIn_wide.2 (Za (b5 _ (fe a8)) hat)).O ?_;rintro e w' ⟨rfl,c7⟩)
     obtain⟨d4,e8⟩:=Lib.atoiAll_bounds hat;refine⟨trivial,(callsIn_wide.2 (Zej d4 oM (b8.U c7).Ñ)).O ?_⟩;rintro e w2 ⟨rfl,b4⟩;have a4:=c7.Z b4;by_cases a9:P[k].data.toList=Lib.itoa v
     .have b2:(⟨(Lib.itoa v).toArray⟩:Pr)=P[k]:=(by rw[<-a9]);rw[b2];obtain⟨d1,d2⟩:=YW a4 a6 c8 c4
      gi_wp2
      go_roundw
      case rel=>exact⟨k+1,by simp,oM,hI.step a4 c4 a8 a9⟩
      case measure=>simp[Go.Proofs.intOf];try omega
     .have d9:(Lib.itoa v==P[k].toList)=false:=beq_eq_false_iff_ne.2 (by rw[Lib.toList_data];exact λe=>a9 e.H);have a0:=(a4.block (fb.1 hI.ver).1).Z hI.ver;obtain⟨e1,e2,e3,e4,e5,e6⟩:=F1 xR a0
      gi_wp2
      obtain⟨g1,g2,g3,_⟩:=F1 xR (Pa (p:=.int .i64 0) (q:=.int .i64 0) (r:=.int .i64 0) a0);refine bodyPost_ret (v:=.tuple #[Dc ⟨0,0,0⟩,.bool false]) ?_ rfl ⟨NH (hI.vh.Z (a4.O hI.vh.size)) nR,.inr ⟨λu hu=>?_,rfl⟩⟩
      .simp[results,Tryz.f315,go_sem,g1,g2,g3,Dc]
      .obtain⟨x,c6,d5,hx⟩:=Vg a7 hu a8;have h2:=T8 c6 d5;rw[<-hx,hat]at h2;cases h2;exact a9 (hx.Z (Lx c6).H)
    |_=>
      have c5:∀v,Lib.atoiAll P[k].data.toList≠ .ok v:=λv h=>by rw[hat]at h;cases h
      gi_wp2_with (refine⟨trivial,?_⟩;gi_at_call 354;refine(callsIn_wide.2 (YZ b8 (b5 _ (fe a8)) c5)).O ?_;rintro e w2 ⟨x,t,N,rfl,a4⟩;obtain⟨e1,e2,e3,e4,e5,e6⟩:=F1 a4 hI.ver)
      refine⟨trivial,?_⟩
      gi_wp2
      have a0:=(a4.block (fb.1 hI.ver).1).Z hI.ver;obtain⟨g1,g2,g3,_⟩:=F1 xR (Pa (p:=.int .i64 0) (q:=.int .i64 0) (r:=.int .i64 0) a0);refine bodyPost_ret (v:=.tuple #[Dc ⟨0,0,0⟩,.bool false]) ?_ rfl ⟨NH (hI.vh.Z (a4.O hI.vh.size)) nR,.inr ⟨λu hu=>?_,rfl⟩⟩
      .simp[results,Tryz.f315,go_sem,g1,g2,g3,Dc]
      .obtain⟨y,d7,d8,hy⟩:=Vg a7 hu a8;exact c5 y (by rw[hy];exact T8 d7 d8)
   .obtain rfl:k=3:=oM
    match xs,c8 with
    | [a,b,c],_=>
     have d1:wr.cell? ⟨w.heap.size+1+1,0,none⟩=some (vi a):=(by simp[World.cell?,a6,DW]);have d2:wr.cell? ⟨w.heap.size+1+1,1,none⟩=some (vi b):=(by simp[World.cell?,a6,DW]);have d3:wr.cell? ⟨w.heap.size+1+1,2,none⟩=some (vi c):=(by simp[World.cell?,a6,DW]);have a5:Bn [46] s.data.toList.length s.data.toList= [Lib.itoa a,Lib.itoa b,Lib.itoa c]:=(by rwa [<-a7,<-eh (l:=P),h3]);have c9:∀W,Calls prog 75 #[Dc ⟨a,b,c⟩] W λe w'=>e= .returned (.bool (⟨a,b,c⟩:tj).vt)/\AI W w':=λW=>by have h:sx prog 75 [Dc ⟨a,b,c⟩] W λv w'=>v= .bool (⟨a,b,c⟩:tj).vt/\AI W w':=Ez.V (HK (v:=⟨a,b,c⟩) λw' hx=>⟨rfl,hx⟩);exact Calls.O h λe w' ⟨v,he,hv,hx⟩=>⟨by rw[he,hv],hx⟩
     gi_wp2
     refine⟨trivial,(callsIn_wide.2 (c9 _)).O ?_⟩;rintro e w2 ⟨rfl,b4⟩;have a4:=(AI.alloc wr (.cells #[vi a,vi b,vi c] 52)).Z b4;have a0:=(a4.block (fb.1 hI.ver).1).Z hI.ver;have c3:=(b4.block sI).Z (World.alloc_heap_new wr (.cells #[vi a,vi b,vi c] 52));obtain⟨e1,e2,e3,e4,e5,e6⟩:=F1 xR a0;obtain⟨l1,l2,l3,_⟩:=F1 xR c3;cases hmay:(⟨a,b,c⟩:tj).vt with
     |true=>
      gi_wp2
      obtain⟨g1,g2,g3,_⟩:=F1 xR (Pa (p:=.int .i64 a) (q:=.int .i64 b) (r:=.int .i64 c) a0);refine bodyPost_ret (v:=.tuple #[Dc ⟨a,b,c⟩,.bool true]) ?_ rfl ⟨NH (hI.vh.Z (a4.O hI.vh.size)) nR,.inl ⟨_,Zei a5 hmay,rfl⟩⟩;simp[results,Tryz.f315,go_sem,g1,g2,g3,Dc]
     |false=>
      gi_wp2
      obtain⟨g1,g2,g3,_⟩:=F1 xR (Pa (p:=.int .i64 0) (q:=.int .i64 0) (r:=.int .i64 0) a0);refine bodyPost_ret (v:=.tuple #[Dc ⟨0,0,0⟩,.bool false]) ?_ rfl ⟨NH (hI.vh.Z (a4.O hI.vh.size)) nR,.inr ⟨λu hu=>?_,rfl⟩⟩
      .simp[results,Tryz.f315,go_sem,g1,g2,g3,Dc]
      .rw[QV hu]at a5;have hm:=tj.vu.1 hu.1;simp only[List.cons.injEq,and_true]at a5;have i1:=QW hm.1.1 a5.1.H;have i2:=QW hm.2.1.1 a5.2.1.H;have i3:=QW hm.2.2.1 a5.2.2.H;subst i1 i2 i3;exact fm (hu.1.H.Z hmay) sI
 .gi_wp2_with (refine⟨trivial,?_⟩;gi_at_call 353;refine(callsIn_wide.2 b0).O ?_;rintro e w' ⟨rfl,rfl⟩)
  have a0:=World.alloc_heap_new w (.cells #[vi 0,vi 0,vi 0] 52);have b6:=FY a0 (.cells (P.map Value.string).toArray (Tryz.Č.t 9));obtain⟨g1,g2,g3,_⟩:=F1 xR b6;refine bodyPost_ret (v:=.tuple #[Dc ⟨0,0,0⟩,.bool false]) ?_ rfl ⟨((Below.refl _ w).alloc nR _).alloc sI _,.inr ⟨λu hu=>?_,rfl⟩⟩
  .simp[results,Tryz.f315,go_sem,g1,g2,g3,Dc]
  .have:=jt List.length a7;rw[QV hu,ec]at this;exact h3 this
end Go.Hal
namespace Go.Hal
def Ś:Pr:=bm #[60,62,61,94,126]
set_option maxRecDepth 100000 in
def Zka(b:UInt8):Ś.data.toList.contains b=CR b:=by have:=PL (λb=>Ś.data.toList.contains b==CR b) (by decide+kernel) b;simpa using this
def Zl0{s:Pr}{k:Ë}(hk:∀w',AI w w'->k (.string ⟨(s.data.toList.dropWhile CR).toArray⟩) w'):sx prog 146 [.string s,.string Ś] w k:=by
 have h:=Any.strings_TrimLeft_laid Tryz.Xb6 kR s Ś w dC (ascii_of_all dC);have e:Lib.trimLeftS s.data.toList Ś.data.toList=s.data.toList.dropWhile CR:=by unfold Lib.trimLeftS;congr 1;funext b;exact Zka b
 rw[e]at h;exact h.O λe w' ⟨he,hb⟩=>⟨_,he,hk w' hb⟩
def Znh{t:Pr}(h1:t≠bm #[42])(h2:∀(g:Sign)(v:tj),zg (t.data.toList.dropWhile CR) v->t.data.toList.takeWhile CR≠g.text)(x:Rk): ¬wo t.data.toList x:=by
 generalize hl:t.data.toList=l at h2;intro hw;cases hw with
 |all=>exact h1 (by obtain⟨⟨a⟩⟩:=t;simp only at hl;rw[hl])
 |sign g hv=>obtain⟨s1,s2⟩:=Pe (g:=g) hv;exact h2 g _ (by rwa [s2]) s1
def TB{q:Pr}{l:LU}:q=⟨l.toArray⟩↔q.data.toList=l:=by
 constructor
 .rintro rfl;rfl
 .intro h;obtain⟨⟨a⟩⟩:=q;simp only at h;rw[h]
def Zni{t:Pr}{R:Int->Int->É}(hg:Gl w)(hs:t.size<=4096)
  (a5:∀x w',wo t.data.toList x->AI w w'->R x.1 x.2 true w') (c3:∀w',(∀x,¬wo t.data.toList x)->AI w w'->R 0 0 false w'):MY t w R:=by
 refine An.intro λa w1 x1 b8 d3 _=>⟨λh=>?_,λh=>?_⟩
 .subst h;refine tk.intro b8 sI λw2 b2 _ b7=>⟨_,_,b7.at0 xR rfl,a5 (0,999999999) w2 .all (b2.U x1 oM)⟩
 have fin:∀{w':PU} {lo hi:Int} {b:Bool},AI w1 w'->(∀a0,AI w a0->R lo hi b a0)->ry w' a [vi lo,vi hi] λa0=>∃(l h:Int),sh a0 a [vi l,vi h]/\R l h b a0:=
  λhx hR=>tk.intro (b8.U hx) sI λw2 b2 _ b7=>⟨_,_,b7.at0 xR rfl,hR w2 (b2.U (x1.Z hx) oM)⟩
 refine Zl0 λw2 x2=>⟨_,rfl,?_⟩;have b4:t.data.toList.takeWhile CR++t.data.toList.dropWhile CR=t.data.toList:=mz;have a8:=Znh (t:=t) h;generalize hp:t.data.toList.takeWhile CR=p at b4 a8;generalize hr:t.data.toList.dropWhile CR=r at b4 a8 ⊢;have d2:t.size=p.length+r.length:=by rw[Lib.size_eq,<-b4,du]
 have d0:(⟨r.toArray⟩:Pr).size=r.length:=by rw[Lib.size_eq]
 have hc:sx prog 315 [.string ⟨r.toArray⟩] w2 λu w3=>∃(v:tj) (b:Bool),u= .tuple #[Dc v,.bool b]/\AI w2 w3/\(b=true->zg r v)/\(b=false->∀v,¬zg r v):=by
  refine Calls.O (callsIn_wide.1 (Zm0 4 nR ⟨r.toArray⟩ oM w2 (hg.U (x1.Z x2)))) λe w3 ⟨x3,c4⟩=>?_;rcases c4 with⟨v,hv,rfl⟩|⟨c9,rfl⟩
  .exact⟨_,rfl,v,true,rfl,x3,λ_=>hv,nO⟩
  .exact⟨_,rfl,⟨0,0,0⟩,false,rfl,x3,λh=>(by cases h),λ_=>c9⟩
 refine Calls.O hc λe w3 ⟨u,he,v,b,hu,x3,hb,a9⟩=>⟨u,he,?_⟩;have c6:=x2.Z x3;refine⟨v.ma,v.mi,v.pa,b,hu,An.intro λa6 w4 x4 c7 d4 _=>tk.intro c7 sI λw5 b5 _ b0=>⟨_,_,_,b0.at0 xR rfl,FO.V (Nl (v:=v) λw6 x6=>⟨_,_,rfl,v.pa,b0.at1 x6 rfl,v.mi,b0.at1 x6 rfl,λb6=>?_,λb6=>?_⟩)⟩⟩
 .have d1:=b6;have b9:b=false:=by simpa using b6
  have a4:AI w1 w6:=(c6.Z (b5.U x4 oM)).Z x6;refine fin a4 λa0 hx=>c3 a0 (λx=>a8 (λg v' c5=>(a9 b9 v' c5).F) x) hx
 .have c8:b=true:=by simpa using b6
  have hv:=hb c8;have a4:AI w1 w6:=(c6.Z (b5.U x4 oM)).Z x6;have d5:=tj.ě (v:=v);have hm:=tj.vu.1 hv.1;have hk:Aa ((t.size:Int) - ((⟨r.toArray⟩:Pr).size:Int))=p.length:=by rw[d0,d2,Ai oM oM];omega
  rw[hk];have hq:t.extract 0 (p.length:Int).toNat=⟨p.toArray⟩:=by rw[TB,dx,Lib.extract_from_zero,<-b4,pb]
  rw[hq];have hw:∀g:Sign,p=g.text->wo t.data.toList (g.ē v):=λg e=>by rw[<-b4,e];exact .sign g hv
  have eq:∀l:LU,((⟨p.toArray⟩:Pr)=⟨l.toArray⟩)↔p=l:=λl=>TB;have e1:=Ai (x:=v.J - 1) oM oM;have e2:=Ai (x:=v.J+1) oM oM;have e3:=Ai (x:=v.J - v.pa) oM oM;have e4:=Ai (x:=v.J - v.pa+999) oM oM;have e5:=Ai (x:=999 - v.mi) oM oM;have e6:=Ai (x:=(999 - v.mi)*1000) oM oM;have e7:=Ai (x:=v.J - v.pa+999+(999 - v.mi)*1000) oM oM;rw[e1,e2,e3,e4,e5,e6,e7];refine⟨⟨oM,oM⟩,join.named λJ hJ=>?_⟩;have key:∀b':Bool,(b'=true->p=[]\/p= [61])->(b'=false->p≠[]/\p≠ [61])->J b' w6:=λb' ht hf=>by
   subst hJ;refine⟨λa9=>fin a4 λa0 hx=>?_,λa9=>⟨λh1=>?_,λh1=>⟨λh2=>?_,λh2=>⟨λh3=>?_,λh3=>⟨λh4=>?_,λh4=>⟨λh5=>?_,λh5=>⟨λh6=>?_,λh6=>?_⟩⟩⟩⟩⟩⟩⟩
   .obtain h1|h1:=ht a9
    .exact a5 _ a0 (hw .none h1) hx
    .exact a5 _ a0 (hw .eq h1) hx
   .exact fin a4 λa0 hx=>a5 _ a0 (hw .lt ((eq _).1 h1)) hx
   .exact fin a4 λa0 hx=>a5 _ a0 (hw .le ((eq _).1 h2)) hx
   .exact fin a4 λa0 hx=>a5 _ a0 (hw .gt ((eq _).1 h3)) hx
   .exact fin a4 λa0 hx=>a5 _ a0 (hw .ge ((eq _).1 h4)) hx
   .exact fin a4 λa0 hx=>a5 _ a0 (hw .tilde ((eq _).1 h5)) hx
   .have a7:=hw .caret ((eq _).1 h6);simp only[Sign.ē]at a7;refine⟨v.ma,b0.at0 x6 rfl,λg1=>?_,λg1=>⟨v.mi,b0.at1 x6 rfl,λg2=>?_,λg2=>?_⟩⟩
    .rw[fl g1]at a7;exact fin a4 λa0 hx=>a5 _ a0 a7 hx
    .rw[fa g1,fl g2]at a7;exact fin a4 λa0 hx=>a5 _ a0 a7 hx
    .rw[fa g1,fa g2]at a7;exact fin a4 λa0 hx=>a5 _ a0 a7 hx
   .obtain⟨n1,n2⟩:=hf a9;refine fin a4 λa0 hx=>c3 a0 (λx=>a8 (λg v' c5 e=>?_) x) hx;cases g with
    |none=>exact n1 e
    |eq=>exact n2 e
    |lt=>exact h1 ((eq _).2 e)
    |le=>exact h2 ((eq _).2 e)
    |gt=>exact h3 ((eq _).2 e)
    |ge=>exact h4 ((eq _).2 e)
    |tilde=>exact h5 ((eq _).2 e)
    |caret=>exact h6 ((eq _).2 e)
  refine⟨λh1=>key _ (λ_=> .inl ((eq []).1 h1)) (λh2=>?_),λh1=>key _ (λh2=>.inr ((eq [61]).1 (AG.1 h2))) (λh2=>⟨λe=>h1 ((eq []).2 e),λe=>NF.1 h2 ((eq [61]).2 e)⟩)⟩;exact fm h1 (NF.1 h2)
def Zng(hg:Gl w):Tm w:=λt W _ hs hx=>by
 have h:sx prog 263 [.string t] W λu w'=>AI W w'/\((∃x:Rk,wo t.data.toList x/\u= .tuple #[.agg #[vi x.1,vi x.2],.bool true])\/((∀x,¬wo t.data.toList x)/\u= .tuple #[.agg #[vi 0,vi 0],.bool false])):=
  MY.V (Zni (hg.U hx) hs (λx w' hw a0=>⟨a0,.inl ⟨x,hw,rfl⟩⟩) λw' hn a0=>⟨a0,.inr ⟨hn,rfl⟩⟩)
 refine Calls.O h λe w' ⟨u,he,a0,hu⟩=>⟨a0,?_⟩;subst he;exact hu.imp (λ⟨x,h1,h2⟩=>⟨x,h1,by rw[h2]⟩) λ⟨h1,h2⟩=>⟨h1,by rw[h2]⟩
attribute [local go_sem] Oper.semAt_some
set_option maxRecDepth 100000 in
def Zg4(n:Nat)(text:Pr)(w:PU)(a0: ¬text.size<=4096):CallsIn Fence.wide n prog 173 #[.string text] w (PB w text):=by
 refine callsIn_of_wp_marks func173 rfl trivial ?_ rfl;simp only[Tryz.ntmps173,je,fu,ie,Nat.reduceAdd,Nat.reduceSub,lz,ly,mw,mc,ip,ig];have a4:(4096:Int)<(text.size:Int):=oM;have b0:=Boxed.new w 132 Bo;have b1:=Boxed.new (w.alloc (.cells #[Bo] 132)) 44 (vi 0);simp only[World.size_alloc]at b1;have c0:=(b0.alloc (.cells #[vi 0] 44)).cell;have f0:=(b0.alloc (.cells #[vi 0] 44)).frozen;have c1:=b1.cell;have f1:=b1.frozen;have a5:=b0.alloc (.cells #[vi 0] 44)
 gi_wp2
 have e0:=(Boxed.new w 132 Bo).alloc (.cells #[vi 21] 44);have e1:=Boxed.new (w.alloc (.cells #[Bo] 132)) 44 (vi 21);simp only[World.size_alloc]at e1;have d1:=e0.cell;have d2:=e1.cell;unfold Bo at d1 d2;have hb:Below w.heap.size w ((w.alloc (.cells #[Bo] 132)).alloc (.cells #[vi 21] 44)):=((Below.refl _ w).alloc nR _).alloc sI _;refine⟨.tuple #[Bo,vi 21],?_,hb,Sl.nil,21,rfl,.inl ⟨rfl,rfl,λh=>a0 h.1⟩⟩;simp[results,Tryz.f173,go_sem,d1,d2,Bo]
def Zkz{text:Pr}(hg:Gl w)(a4:∀w',¬GK text.data.toList->AI w w'->K (.tuple #[Sl.nil.v,vi 21]) w')
  (a0:∀l w',yr text.data.toList l->64<l.length->AI w w'->K (.tuple #[Sl.nil.v,vi 26]) w')
  (a6:∀l s w',yr text.data.toList l->l.length<=64->AI w w'->No uo w' (λb=>w.heap.size<=b/\b<w'.heap.size) s (BU l)->K (.tuple #[Sl.v s,vi 0]) w'):
  sx prog 173 [.string text] w K:=by
 have h:Calls prog 173 #[.string text] w (PB w text):=by
  by_cases hs:text.size<=4096
  .obtain⟨m,hm⟩:=hg.mx;exact callsIn_wide.1 (Zg3 12 nR text w hs m hm (Zng hg) trivial)
  .exact callsIn_wide.1 (Zg4 12 text w hs)
 refine Calls.O h λe w' ⟨hx,s,er,he,hr⟩=>⟨_,he,?_⟩;rcases hr with⟨rfl,rfl,hn⟩|⟨hs,l,m,hA,hp,a5,⟨rfl,rfl,hl⟩|⟨rfl,hl,a7⟩⟩
 .exact a4 w' (λh=>hn ((RD _).2 h)) hx
 .exact a0 _ w' (hA.range hs hp a5) hl hx
 .exact a6 _ s w' (hA.range hs hp a5) hl hx a7
end Go.Hal
namespace Go.Hal
inductive yt (t:Pr):Option (Κ)->Prop
 |bad: ¬GK t.data.toList->yt t none
 |full {l:Λ}:yr t.data.toList l->64<l.length->yt t none
 |empty:yr t.data.toList []->yt t none
 |ok {l:Λ}:yr t.data.toList l->l≠[]->l.length<=64->yt t (some (BU l))
def yt.one{t:Pr}{r':Option (Κ)}(h:yt t r)(h':yt t r'):r=r':=by
 cases h with
 |bad h1=>
  cases h' with
  |bad=>rfl
  |full=>rfl
  |empty=>rfl
  |ok k1=>exact fm k1.ok h1
 |full h1 h2=>
  cases h' with
  |bad=>rfl
  |full=>rfl
  |empty=>rfl
  |ok k1 k2 k3=>rw[h1.one k1]at h2;omega
 |empty h1=>
  cases h' with
  |bad=>rfl
  |full=>rfl
  |empty=>rfl
  |ok k1 k2 k3=>exact fm (k1.one h1) k2
 |ok h1 h2 h3=>
  cases h' with
  |bad k1=>exact fm h1.ok k1
  |full k1 k2=>rw[k1.one h1]at k2;omega
  |empty k1=>exact fm (h1.one k1) h2
  |ok k1 k2 k3=>rw[h1.one k1]
def UV{ps:List Pr}(h:∀t∈ps,t.size≠0->∃a,wo t.data.toList a):∀k,k<=ps.length->∃x b,ž ps k x b
 |0,_=>⟨_,_,ž.start ps⟩
 |k+1,hk=>by
  obtain⟨x,b,hi⟩:=UV h k oM;by_cases h0:ps[k].size=0
  .exact⟨_,_,hi.skip oM h0⟩
  .obtain⟨a,ha⟩:=h _ (fe oM) h0;exact⟨_,_,hi.vv oM h0 ha⟩
def UU{ps:List Pr}(h:∀a∈ps,GD a):∀k,k<=ps.length->∃l,Ž ps k l
 |0,_=>⟨_,Ž.start ps⟩
 |k+1,hk=>by
  obtain⟨l,hl⟩:=UU h k oM;have ha:=h _ (fe (l:=ps) (n:=k) oM);obtain⟨x,b,hx⟩:=UV ha.2 _ nR;have hb:b=true:=hx.some.2 (by rw[eh];exact ha.1);subst hb;have hs:=hl.step oM hx;by_cases a0:x.1<=x.2
  .exact⟨_,hs.1 a0⟩
  .exact⟨_,hs.2 a0⟩
def Zin{t:Pr}(h:GK t.data.toList):∃l,yr t.data.toList l:=by
 have hb:=(RD t).2 h;obtain⟨l,hl⟩:=UU hb.2 _ nR;refine⟨_,hl.range hb.1 (m:=l.mergeSort λa b=>decide (a.1<=b.1)) (List.mergeSort_perm _ _) ?_⟩;unfold Et;refine(List.pairwise_mergeSort (le:=λa b:Rk=>decide (a.1<=b.1)) (λa b c h1 h2=>?_) (λa b=>?_) l).imp λh=>by simpa using h
 .simp at h1 h2 ⊢;omega
 .simp;omega
def yt.ex(t:Pr):∃r,yt t r:=by
 by_cases h:GK t.data.toList
 .obtain⟨l,hl⟩:=Zin h;by_cases h1:64<l.length
  .exact⟨_,.full hl h1⟩
  .by_cases h2:l=[]
   .subst h2;exact⟨_,.empty hl⟩
   .exact⟨_,.ok hl h2 oM⟩
 .exact⟨_,.bad h⟩
def ä{α:Type}(T:LN)(f:α->LV)(w:PU)(g:Nat)(l:List α)(tail:LV):Prop:=w.heap[g]?=some (.cells ((l.map f).flatten++tail).toArray T (0,0))
section
variable {α:Type} {T:LN} {f:α->LV} {k g:Nat} {w w':PU} {l:List α} {tail:LV}
def ä.row(h:ä T f w g l tail):tv f w g l tail:=⟨T,rfl,rfl,h⟩
def ä.U(h:ä T f w g l tail)(hx:AI w w'):ä T f w' g l tail:=(hx.block (fb.1 h).1).Z h
def ry.ç{a:LP}{o:Nat}{tm:LV}{K:Wp}(hb:zy T w a tm)(hl:o+cs.length<=tm.length)
  (h:∀w',uv a.block w w'->w'.heap.size=w.heap.size->zy T w' a (tm.take o++cs++tm.drop (o+cs.length))->K w'):ry w (a.add o) cs K:=by
 obtain⟨ho,hs,hh⟩:=hb;obtain⟨b,of,sp⟩:=a;simp only at ho hs hh;subst ho hs;have ha:(Addr.add ⟨b,0,none⟩ o)=⟨b,o,none⟩:=by unfold Addr.add;split<;>simp_all
 rw[ha];refine⟨_,T,hh,rfl,by simpa using hl,h _ ⟨?_,rfl,rfl,rfl,λc hc a0=>setRow_other w b c _ a0⟩ ?_ ⟨rfl,rfl,?_⟩⟩
 .simp[World.setRow]
 .simp[World.setRow]
 .rw[setRow_heap w b tm.toArray _ T _ hh];simp[Du]
def ä.st(hk:∀x,(f x).length=k)(h:ä T f w g l tail)(hi:i<l.length){x:α}{K:Wp}(hK:∀w',uv g w w'->ä T f w' g (l.set i x) tail->K w'):ry w ((⟨g,0,none⟩:LP).add (i*k)) (f x) K:=by
 have a0:=QN hk hi;have e:=KC (f:=f) i hi tail;refine ry.ç (T:=T) (o:=i*k) (tm:=(l.map f).flatten++tail) ⟨rfl,rfl,h⟩ (by rw[e,hk];simp only[du,a0,hk];omega) λw' hb hs hx=>hK w' hb ?_;have e2:=KC (f:=f) (l:=l.set i x) i (by simpa using hi) tail;have e3:((l.map f).flatten++tail).take (i*k)++f x++((l.map f).flatten++tail).drop (i*k+(f x).length)=((l.set i x).map f).flatten++tail:=by
  rw[e2,e,hk];have t1:(((l.take i).map f).flatten++f l[i]++(((l.drop (i+1)).map f).flatten++tail)).take (i*k)=((l.take i).map f).flatten:=by rw[ff,oh (by rw[a0];exact fx _),ia (by rw[a0];exact fx _)]
  have t2:(((l.take i).map f).flatten++f l[i]++(((l.drop (i+1)).map f).flatten++tail)).drop (i*k+k)=((l.drop (i+1)).map f).flatten++tail:=by rw[me (by simp only[du,a0,hk];omega),kf (by simp only[du,a0,hk];omega),ip]
  have t3:(l.set i x).take i=l.take i:=by rw[qa nR]
  have t4:(l.set i x).drop (i+1)=l.drop (i+1):=by rw[qd oM]
  rw[t1,t2,t3,t4,ou]
 unfold ä;rw[<-e3];exact hx.2.2
end
def ZB{P:LD}{e ty:LN}{k:Nat}(ht:P.underlying t=some (.slice e))(hv:∀w,(zeroValue e).run P w= .ok z w)(hz:z.cells.size=k)(h1:∀v∈z.cells,v.oneCell'=true){g o c:Nat}{front back:LV}(ho:front.length=o)(hn:n*k<=back.length){T:LN}(hB:zy T w ⟨g,0,none⟩ (front++back))
   (hK:∀w' a0,uv g w w'->zy T w' ⟨g,0,none⟩ (front++a0)->a0.length=back.length->K (.tuple #[]) w'):xe P (Builtin.clear_ #[t] ty #[.slice (some ⟨g,o,none⟩) n c]) w K:=by
 obtain⟨_,_,hb⟩:=hB;simp only at hb;have a8:=(fb.1 hb).1;cases n with
 |zero=>refine⟨_,w,?_,hK w back ⟨fx _,rfl,rfl,rfl,λ_ _ _=>rfl⟩ ⟨rfl,rfl,hb⟩ rfl⟩;simp[Builtin.clear_,run_underlying ht,Sem.run_bind,Result.andThen]
 |succ n=>
  have a4:(Builtin.zeroCells z.cells (n+1)).toList.length=(n+1)*k:=by rw[Yp,hz]
  have a5:=run_storeCells_at (P:=P) g o T (Builtin.zeroCells z.cells (n+1)).toList 0 (front++back).toArray w hb (by rw[a4,je,du];omega) (Yq h1 _);generalize hA:(List.take (o+0) (front++back).toArray.toList++(Builtin.zeroCells z.cells (n+1)).toList++List.drop (o+0+(Builtin.zeroCells z.cells (n+1)).toList.length) (front++back).toArray.toList).toArray=Β at a5;refine⟨.tuple #[],w.setRow g Β,?_,hK (w.setRow g Β) ((Builtin.zeroCells z.cells (n+1)).toList++back.drop ((n+1)*k)) ⟨by simp[World.setRow],rfl,rfl,rfl,λb a7 a6=>setRow_other w g b _ a6⟩ ⟨rfl,rfl,?_⟩ ?_⟩
  .simp[Builtin.clear_,run_underlying ht,hv,Sem.run_bind,Result.andThen,a5]
  .rw[setRow_heap w g (front++back).toArray Β T _ hb,<-hA];simp only[ky,a4,eu,Obj.cells.injEq,and_true];rw[<-ho,pb];simp[List.drop_append]
  .rw[du,a4,gh];omega
def Õ{α:Type}(T:LN)(f:α->LV)(k:Nat)(w:PU)(lo:Nat)(s:Sl)(l:List α):Prop:=w.ownsRow lo T k s.v s.len ((l.map f).flatten)/\s.len=l.length
section
variable {α:Type} {T:LN} {f:α->LV} {k lo:Nat} {w w':PU} {s:Sl} {l:List α}
def Õ.cases(h:Õ T f k w lo s l):(s=Sl.nil/\l=[])\/∃g tail,s.a=some ⟨g,0,none⟩/\lo<=g/\ä T f w g l tail/\l.length<=s.cap/\s.cap<=maxLen/\((l.map f).flatten++tail).length=s.cap*k:=by
 obtain⟨ho,hl⟩:=h;obtain⟨a,n,c⟩:=s;simp only at hl;rcases ho.2 with⟨hv,hn⟩|⟨g,cap,a0,hv,hg,hh,hc,hm,a4,ht⟩
 .simp only[Sl.v,Value.slice.injEq]at hv;simp only at hn;obtain⟨rfl,rfl,rfl⟩:=hv;exact .inl ⟨rfl,fo hl.H⟩
 .simp only[Sl.v,Value.slice.injEq]at hv;obtain⟨rfl,_,rfl⟩:=hv;have e:(l.map f).flatten++a0.toList.drop (n*k)=a0.toList:=by rw[<-ht];exact ga _ _
  refine .inr ⟨g,a0.toList.drop (n*k),rfl,hg,?_,by rwa [<-hl],hm,by rwa [e,ko]⟩;unfold ä;rwa [e,mm]
def Õ.mk{g:Nat}{tail:LV}(hk:∀x,(f x).length=k)(ha:s.a=some ⟨g,0,none⟩)(hg:lo<=g)(hr:ä T f w g l tail)(hl:s.len=l.length)(hc:l.length<=s.cap)(hm:s.cap<=maxLen)(ht:((l.map f).flatten++tail).length=s.cap*k):Õ T f k w lo s l:=by
 have a0:=CN f hk l;refine⟨⟨by rw[a0,hl],.inr ⟨g,s.cap,((l.map f).flatten++tail).toArray,?_,hg,hr,by rwa [hl],hm,by rwa [je],?_⟩⟩,hl⟩
 .unfold Sl.v;rw[ha]
 .rw[hl,<-a0,pb]
def Õ.flat(h:Õ T f k w lo s l)(hb:l.length*bytes<=Ab):tq f bytes w lo s l:=by
 have hl:=h.2;rcases h.cases with⟨rfl,rfl⟩|⟨g,tail,ha,hg,hr,hc,hm,_⟩
 .exact⟨rfl,fx _,ib _,hb,.inl rfl⟩
 .exact⟨hl,hc,hm,hb,.inr ⟨g,tail,ha,hg,hr.row⟩⟩
def Õ.U(h:Õ T f k w lo s l)(hx:AI w w'):Õ T f k w' lo s l:=⟨⟨h.1.1,h.1.2.imp id λ⟨g,cap,a0,h1,h2,h3,h4⟩=>⟨g,cap,a0,h1,h2,(hx.block (fb.1 h3).1).Z h3,h4⟩⟩,h.2⟩
def Õ.low(h:Õ T f k w lo s l)(hl:lo'<=lo):Õ T f k w lo' s l:=⟨⟨h.1.1,h.1.2.imp id λ⟨g,cap,a0,h1,h2,h3⟩=>⟨g,cap,a0,h1,fj hl h2,h3⟩⟩,h.2⟩
end
abbrev Bl:=Pr×Sl
def yi(x:Bl):LV:=[.string x.1,x.2.v]
instance:Inhabited Bl:=⟨(⟨#[]⟩,Sl.nil)⟩
def Iv:xn Bl:=DL 2 40 yi (λ_=>True) (λ_=>rfl) (λx v hv=>by simp[yi,Sl.v]at hv;rcases hv with rfl|rfl<;>rfl)
def ģ{l:List Bl}{p:Bl->Bool}{R:È}(hs:No Iv w S s l)(hf:Fs f (λx=>.agg #[.string x.1,x.2.v]) p l w)
  (hR:∀w',AI w w'->R (AV p l) w'):J7 s f w R:=by
 unfold J7;have hl:=hs.len;refine Of.up hs.max (λi w'=>AI w w'/\(l.take i).any p=false) ⟨AI.refl _,rfl⟩ λi w1 a6 hi ⟨x1,hI⟩ hn=>⟨λa4=>?_,λa5=>?_⟩
 .have a0:i<l.length:=oM;obtain⟨ad,cs,ha,_,⟨rfl,_⟩,hc⟩:=hs.el a0;refine⟨ad,⟨ha,oM,a4⟩,_,_,hc _ xT,hf _ (fe a0) _ _ x1 λw2 x2=>⟨_,rfl,λh=>?_,λh=>?_⟩⟩
  .rw[<-F5 a0 hI h];exact hR _ xT
  .exact hn a0 _ ⟨xT,by rwa [FJ a0 hI]⟩
 .have:i=l.length:=oM;rw[this,eh]at hI;rw[<-EL hI];exact hR _ xT
def ZJ{l:List Bl}{p:Bl->Bool}{R:É}(hs:No Iv w S s l)(hf:Fs f (λx=>.agg #[.string x.1,x.2.v]) p l w)
  (hR:∀w',AI w w'->R (l.any p) w'):MD s f w R:=by
 unfold MD;exact J7.V (ģ hs hf λw' hx=>⟨_,rfl,by rw[F4];exact hR _ hx⟩)
def Znn:∀w,(zeroValue 187).run prog w= .ok (.agg #[.string Ϥ,.slice none 0 0]) w:=λw=>by kernel_rfl
def Zaf{l:List Bl}{d:Bl->Bool}(h:Õ 187 yi 2 w lo s l)(a7:lo<=w.heap.size)(b7:l.length*40<=Ab)
  (hf:∀x∈l,∀w' (k:Ë),Below lo w w'->(∀ad,s.a=some ad->uv ad.block w w')->(s.a=none->AI w w')->(∀d1,AI w' d1->k (.bool (d x)) d1)->un prog f [.agg #[.string x.1,x.2.v]] w' k)
  (hR:∀t w',Below lo w w'->(∀ad,s.a=some ad->uv ad.block w w')->(s.a=none->AI w w')->(∀ad,t.a=some ad->∃c5,s.a=some c5/\ad.block=c5.block)->Õ 187 yi 2 w' lo t (l.filter λx=>!d x)->R t w'):MF s f w R:=by
 unfold MF;have hF:=h.flat b7;have hs:=hF.A (E:=Iv) (λ_=>rfl) (λ_ _ x hx=>⟨rfl,trivial⟩);refine J7.V (ģ (p:=d) hs (λx hx w' k b8 hk=>hf x hx w' k (Below.O b8 a7) (λ_ _=>b8.tz _) (λ_=>b8) hk) λw1 x1=>⟨_,rfl,λh1=>?_,λh1=>?_⟩)
 .have:l.any d=false:=by rw[<-F4,h1];decide
  exact hR s w1 (Below.O x1 a7) (λad _=>x1.tz _) (λ_=>x1) (λad h=>⟨ad,h,rfl⟩) (by rw[I5 this];exact h.U x1)
 obtain⟨n,hn,e,ht,hp⟩:=Lq h1;rw[e];obtain⟨k1,k2,k3,k4,k5⟩:=hF;obtain⟨g,tail,ha,hg,hr,_,_,d6⟩:∃g tail,s.a=some ⟨g,0,none⟩/\lo<=g/\ä 187 yi w g l tail/\l.length<=s.cap/\s.cap<=maxLen/\((l.map yi).flatten++tail).length=s.cap*2:=by
  rcases h.cases with⟨_,k5⟩|k5
  .subst k5;simp at hn
  .exact k5
 have hk:∀x:Bl,(yi x).length=2:=λ_=>rfl;have c7:(l.take (n+1)).filter (λx=>!d x)=l.take n:=by rw[dw hn,lf,I5 ht];simp[hp]
 rw[Ai oM (by unfold Ab at k4;omega)];refine⟨λi j w'=>∃(i' j':Nat) (z:List Bl),i=(i':Int)/\j=(j':Int)/\i'<j'/\j'<=l.length/\z.length=l.length/\i'=((l.take j').filter λx=>!d x).length/\z.take i'=(l.take j').filter (λx=>!d x)/\z.drop j'=l.drop j'/\uv g w w'/\ä 187 yi w' g z tail,
  λ_ j _=>l.length - j.toNat,⟨n,n+1,l,rfl,oM,oM,oM,rfl,by rw[c7,fg];omega,by rw[c7],rfl,x1.tz g,hr.U x1⟩,?_⟩
 rintro _ _ w2 ⟨i,j,z,rfl,rfl,d3,hj,b9,hi,a6,d0,b2,a5⟩;refine⟨λe3=>join.named λJ hJ=>?_,λe0=>?_⟩
 .have a0:j<l.length:=oM;have ej:Aa ((j:Int)+1)=((j+1:Nat):Int):=by rw[Ai oM (by unfold Ab at k4;omega)];omega
  have a8:z.drop (j+1)=l.drop (j+1):=by rw[<-kr,d0,kr]
  have c8:(l.take (j+1)).filter (λx=>!d x)=(l.take j).filter (λx=>!d x)++[l[j]].filter (λx=>!d x):=by rw[dw a0,lf]
  have kJ:∀(i':Nat)(w':PU)(z':List Bl),i'<j+1->z'.length=l.length->z'.take i'=(l.take (j+1)).filter (λx=>!d x)->z'.drop (j+1)=l.drop (j+1)->uv g w w'->ä 187 yi w' g z' tail->J (i':Int) w':=λi' w' z' q1 q2 q3 q4 q5 q6=>by subst hJ;show _/\_;rw[ej];exact⟨⟨i',j+1,z',rfl,rfl,q1,oM,q2,by rw[<-q3,fg];omega,q3,q4,q5,q6⟩,by show _ - Int.toNat _<_ - Int.toNat _;omega⟩
  clear hJ;have d7:z[j]?=some l[j]:=by have h1:z[j]?=(z.drop j)[0]? :=(by rw[mj,ky]);rw[h1,d0,mj,ky];exact dt a0
  refine⟨_,⟨ha,oM,oM⟩,_,_,a5.row.Ĥ hk d7,An.intro λa w3 x3 a9 d8 _=>tk.intro a9 sI λw4 b4 _ c6=>⟨_,_,c6.sh.pre rfl,?_⟩⟩;have c3:AI w2 w4:=b4.U x3 oM;have s2:=b2.1;have hm:l[j]∈l:=fe a0;refine hf _ hm w4 _ ((b2.Z (c3.tz g)).below a7 hg) (λad h=>by rw[ha]at h;cases h;exact b2.Z (c3.tz g)) (λh=>by rw[ha]at h;cases h) λw5 x5=>⟨_,rfl,λhd=>?_,λhd=>?_⟩
  all_goals
   have c4:=c3.Z x5;have s5:=c4.size;have b5:uv g w w5:=b2.Z (c4.tz g);have c9:=a5.U c4
  .have b0:d l[j]=false:=(by simpa using hd);refine⟨_,_,(c6.U x5).sh.pre rfl,_,⟨ha,oM,oM⟩,c9.st hk (i:=i) (x:=l[j]) oM λw6 b6 d4=>?_⟩;have ei:Aa ((i:Int)+1)=((i+1:Nat):Int):=by rw[Ai oM (by unfold Ab at k4;omega)];omega
   rw[ei];refine kJ (i+1) w6 _ oM (by rw[ji,b9]) ?_ (by rw[qd oM,a8]) (b5.Z b6) d4;rw[c8,<-a6,dw (by rw[ji];omega),qa nR,ou];simp[b0]
  .have b0:d l[j]=true:=(by simpa using hd);refine kJ i w5 z oM b9 ?_ a8 b5 c9;rw[c8,<-a6];simp[b0]
 .have a0:j=l.length:=oM;subst a0;rw[eh]at a6 hi;have e2:i<l.length:=d3;have e1:(Sl.cut s (i:Int).toNat s.len 2).v= .slice (some ⟨g,i*2,none⟩) (l.length - i) (s.cap - i):=by unfold Sl.cut Sl.v;rw[dx,fa oM,ha,k1];simp only[jp,GN]
  rw[e1];refine⟨⟨oM,oM⟩,?_⟩;have d5:(z.map yi).flatten++tail=((z.take i).map yi).flatten++(((z.drop i).map yi).flatten++tail):=by
   conv=>lhs;rw[<-ga i z]
   rw[gb,kl,ff]
  have a4:((z.map yi).flatten++tail).length=s.cap*2:=by rw[<-d6,du,du,CN _ hk,CN _ hk,b9]
  unfold ä at a5;rw[d5]at a5 a4;refine ZB (k:=2) underlying32 Znn rfl (λv hv=>by simp[Value.cells]at hv;rcases hv with rfl|rfl<;>rfl) (by rw[CN _ hk,fg];omega) (by rw[du,CN _ hk,gh];omega) ⟨rfl,rfl,a5⟩ λw3 back b3 a9 d2=>⟨⟨oM,oM⟩,?_⟩;have s2:=b2.1;refine hR _ w3 ((b2.Z b3).below a7 hg) (λad h=>by rw[ha]at h;cases h;exact b2.Z b3) (λh=>by rw[ha]at h;cases h) (λad h=>⟨_,ha,by unfold Sl.cut at h;simp only[ha]at h;split at h<;>cases h<;>rfl⟩) ?_;have d9:(l.filter λx=>!d x).length<=l.length:=jf _ _;refine Õ.mk (g:=g) (tail:=back) hk ?_ hg ?_ (by unfold Sl.cut;simp;exact hi) (by unfold Sl.cut;show _<=s.cap - 0;omega) (by unfold Sl.cut;show s.cap - 0<=_;omega) ?_
  .show(if _ then _ else _)=_;split
   .exact ha
   .rw[ha,mq];rfl
  .unfold ä;rw[<-a6];exact a9.2.2
  .show _=(s.cap - 0)*2;rw[rq,<-a6,<-a4,du,du,d2]
end Go.Hal
/-
 DERIVED:THE SHELF's CONTRACTS AT THIS DUMP,IN PLAIN WORDS (tools/lay-plain.mjs sw of 'YtgolaibmophnjaaGreatDoorLayD.lean',which tools/lay-shelf.mjs wrote):THE SAME DECLARATIONS UNDER THE SAME NAMES:'import','namespace','open','def','theorem' AND NOTHING ELSE:no command of the shelf's:FOR Β HAND-IN. Each laying:the table of numbers ('.._ren') and one theorem,a field a fact of the dump's uy or the kernel's comparison;each contract:ONE APPLICATION.
-/
namespace Go.Proofs
def Tryz.Xag:Go.Shelf.Ren:=⟨λ|6=>178|15=>106|14=>268|28=>171|29=>172|20=>320|21=>321|22=>322|23=>323|24=>324|25=>325|26=>326|27=>327|46=>358|47=>258|48=>259|49=>359|50=>360|57=>385|n=>n,λ|22=>32|24=>187|25=>258|3=>3|39=>185|0=>0|53=>249|55=>251|4=>4|46=>242|45=>241|50=>246|5=>5|9=>9|66=>317|70=>321|76=>366|77=>367|n=>n,λ|n=>n⟩
def Tryz.Xbz:Go.Proofs.SlLaysF0.n6 prog Tryz.Xag:=by repeat' first|kernel_rfl|exact Fx kR kR|(intro w;kernel_rfl)|constructor
end Go.Proofs
namespace Go.Hal
structure wx where
 op:Int
 Y:Pr
 range:Pr
 tc:Int
 td:Pr
 n:Int
structure zd where
 m:vz
 rv:Η
 sj:Bool
 IT:Bool
def Hl(n:Pr)(d:um):Bool:=decide (d.Y=n)
def BB(l:Θ)(n:Pr):Θ:=l.filter λd=>!Hl n d
def C8(l:Θ)(n:Pr):Bool:=l.any (Hl n)
def xv(l:Θ)(d:um):Θ:=
 let k:=BB l d.Y
 k.takeWhile (λx=>Ak x.Y d.Y)++d::k.dropWhile (λx=>Ak x.Y d.Y)
def JY(m:vz)(n:Pr):vz:=⟨BB m.ss n,BB m.uw n,BB m.uq n,m.sd⟩
def Ft(m:vz)(k:Int)(d:um):vz:=
 let b:=JY m d.Y
 if k=0 then⟨xv b.ss d,b.uw,b.uq,b.sd⟩else if k=1 then⟨b.ss,xv b.uw d,b.uq,b.sd⟩else⟨b.ss,b.uw,xv b.uq d,b.sd⟩
inductive uu (m:vz) (rv:Η) (IT:Bool) (x:wx) (r:Option (Κ)):Int->zd->Prop
 |ņ:x.op=2->uu m rv IT x r 0 ⟨m,[],false,false⟩
 |Ń {j:zd}:x.op=3->Ae x.Y=false->uu m rv IT x r 23 j
 |addRange {j:zd}:x.op=3->Ae x.Y=true->r=none->uu m rv IT x r 21 j
 |ł {j:zd} {l:Κ}:x.op=3->Ae x.Y=true->r=some l->(x.tc<0\/2<x.tc)->uu m rv IT x r 1 j
 |Ł {j:zd} {l:Κ}:x.op=3->Ae x.Y=true->r=some l->0<=x.tc->x.tc<=2->AF (Ft m x.tc ⟨x.Y,l⟩)=false->uu m rv IT x r 26 j
 |add {l:Κ}:x.op=3->Ae x.Y=true->r=some l->0<=x.tc->x.tc<=2->AF (Ft m x.tc ⟨x.Y,l⟩)=true->uu m rv IT x r 0 ⟨Ft m x.tc ⟨x.Y,l⟩,rv,true,IT&& !decide (x.tc=1)⟩
 |Ŋ {j:zd}:x.op=4->Ae x.Y=false->uu m rv IT x r 23 j
 |ŋ {j:zd}:x.op=4->Ae x.Y=true->(C8 m.ss x.Y||(C8 m.uw x.Y||C8 m.uq x.Y))=false->uu m rv IT x r 50 j
 |rem:x.op=4->Ae x.Y=true->(C8 m.ss x.Y||(C8 m.uw x.Y||C8 m.uq x.Y))=true->uu m rv IT x r 0 ⟨JY m x.Y,rv,true,IT⟩
 |ŭ:x.op=5->x.Y=⟨#[]⟩->uu m rv IT x r 0 ⟨m,[],true,IT⟩
 |Ő {j:zd}:x.op=5->x.Y≠⟨#[]⟩->Ae x.Y=false->uu m rv IT x r 23 j
 |ő {j:zd}:x.op=5->x.Y≠⟨#[]⟩->Ae x.Y=true->rv.any (Az x.Y)=false->uu m rv IT x r 50 j
 |upd:x.op=5->x.Y≠⟨#[]⟩->Ae x.Y=true->rv.any (Az x.Y)=true->uu m rv IT x r 0 ⟨m,rv.filter (λp=>!Az x.Y p),true,IT⟩
 |Š:x.op=6->uu m rv IT x r 0 ⟨m,rv,false,IT⟩
 |prune:x.op=7->uu m rv IT x r 0 ⟨m,rv,true,true⟩
 |ť {j:zd}:x.op=8->Ae x.Y=false->uu m rv IT x r 23 j
 |ŧ {j:zd}:x.op=8->Ae x.Y=true->x.range=⟨#[]⟩->C8 m.sd x.Y=false->uu m rv IT x r 50 j
 |Ŧ:x.op=8->Ae x.Y=true->x.range=⟨#[]⟩->C8 m.sd x.Y=true->uu m rv IT x r 0 ⟨⟨m.ss,m.uw,m.uq,BB m.sd x.Y⟩,rv,true,IT⟩
 |ň {j:zd}:x.op=8->Ae x.Y=true->x.range≠⟨#[]⟩->r=none->uu m rv IT x r 21 j
 |Ť {j:zd} {l:Κ}:x.op=8->Ae x.Y=true->x.range≠⟨#[]⟩->r=some l->AF ⟨m.ss,m.uw,m.uq,xv m.sd ⟨x.Y,l⟩⟩=false->uu m rv IT x r 26 j
 |ov {l:Κ}:x.op=8->Ae x.Y=true->x.range≠⟨#[]⟩->r=some l->AF ⟨m.ss,m.uw,m.uq,xv m.sd ⟨x.Y,l⟩⟩=true->uu m rv IT x r 0 ⟨⟨m.ss,m.uw,m.uq,xv m.sd ⟨x.Y,l⟩⟩,rv,true,IT⟩
 |op {j:zd}:(x.op<2\/8<x.op)->uu m rv IT x r 51 j
def ye(l:Θ):Prop:=l.Pairwise λx y=>Ak x.Y y.Y=true
def ye.one{k:Θ}(h:ye l)(h':ye k)(hp:l.Perm k):l=k:=JA (R:=λx y:um=>Ak x.Y y.Y=true) (λx y h1 h2=>by rw[NG h1]at h2;cases h2) h h' hp
def ye.zn(h:ye l)(n:Pr):ye (BB l n):=List.Pairwise.filter _ h
def Zne{n:Pr}{d:um}:d∈BB l n↔d∈l/\d.Y≠n:=by unfold BB Hl;rw[iz];simp
def Yi(l:Θ)(d:um):(xv l d).Perm (BB l d.Y++[d]):=by
 have h1:(xv l d).Perm (d::BB l d.Y):=by unfold xv;have:=List.perm_middle (a:=d) (l₁:=(BB l d.Y).takeWhile λx=>Ak x.Y d.Y) (l₂:=(BB l d.Y).dropWhile λx=>Ak x.Y d.Y);rwa [mz]at this
 exact h1.Z (pc d _).H
def XF{α:Type}{p:α->Bool}:∀{l:List α} {x:α},x∈l.takeWhile p->p x=true
 | [],x,h=>by cases h
 |a::l,x,h=>by
  cases hp:p a with
  |true=>
   rw[List.takeWhile_cons_of_pos hp]at h;obtain rfl|h:=gn.1 h
   .exact hp
   .exact XF h
  |false=>rw[List.takeWhile_cons_of_neg (by rw[hp];simp)]at h;cases h
def Us{n:Pr}:∀{l:Θ},ye l->(∀x∈l,x.Y≠n)->∀x∈l.dropWhile (λx=>Ak x.Y n),Ak n x.Y=true
 | [],_,_,x,h=>by cases h
 |a::l,hr,hn,x,h=>by
  obtain⟨h1,h2⟩:=iq.1 hr;cases hp:Ak a.Y n with
  |true=>rw[List.dropWhile_cons_of_pos (p:=λx:um=>Ak x.Y n) hp]at h;exact Us h2 (λy hy=>hn y (.tail _ hy)) x h
  |false=>
   rw[List.dropWhile_cons_of_neg (p:=λx:um=>Ak x.Y n) (by rw[hp];simp)]at h;have ha:Ak n a.Y=true:=by
    cases k:Ak n a.Y with
    |true=>rfl
    |false=>exact fm (JX hp k) (hn a (.head _))
   obtain rfl|h:=gn.1 h
   .exact ha
   .exact GU ha (h1 x h)
def ye.xv(h:ye l)(d:um):ye (xv l d):=by
 have hw:=h.zn d.Y;have a0:∀x∈BB l d.Y,x.Y≠d.Y:=λx hx=>(Zne.1 hx).2;have hl:=Us hw a0;unfold Go.Hal.xv ye;refine jc.2 ⟨List.Pairwise.sublist (List.takeWhile_sublist _) hw,iq.2 ⟨hl,List.Pairwise.sublist (oq _) hw⟩,λa ha b hb=>?_⟩;have h1:=XF ha;obtain rfl|hb:=gn.1 hb
 .exact h1
 .exact GU h1 (hl b hb)
def Znd{k:Θ}{d:um}(h:ye l)(hk:k.Perm (BB l d.Y++[d]))(hs:k.Pairwise λx y=>¬Ak y.Y x.Y=true):k=xv l d:=by
 refine ye.one ?_ (h.xv d) (hk.Z (Yi l d).H);have hn:(k.map um.Y).Nodup:=by
  have h1:((xv l d).map um.Y).Nodup:=by rw[il,jb];exact(h.xv d).imp λh=>Fw h
  exact((hk.Z (Yi l d).H).map um.Y).nodup_iff.2 h1
 rw[il,jb]at hn;refine(hn.and hs).imp λ{a b} ⟨h1,h2⟩=>?_;cases h3:Ak a.Y b.Y with
 |true=>rfl
 |false=>exact fm (JX h3 (by simpa using h2)) h1
open Go.Sort
def Qj{α β:Type}:∀(l:List α){P:Nat->α->β->Prop},(∀i x,l[i]?=some x->∃y,P i x y)->∃z:List (β×α),z.map Prod.snd=l/\∀i p,z[i]?=some p->P i p.2 p.1
 | [],_,_=>⟨[],rfl,λi p h=>by simp at h⟩
 |x::l,P,h=>by
  obtain⟨y,hy⟩:=h 0 x rfl;obtain⟨z,hz,hp⟩:=Qj l (P:=λi=>P (i+1)) λi x' hx=>h (i+1) x' (by simpa using hx);refine⟨(y,x)::z,by rw[io,hz],λi p hi=>?_⟩;cases i with
  |zero=>simp at hi;subst hi;exact hy
  |succ i=>exact hp i p (by simpa using hi)
def E6(w:PU)(S:Nat->Prop)(p:Bl×um):Prop:=p.1.1=p.2.Y/\Ad p.2.Y/\No uo w S p.1.2 p.2.range
def tq.low{α:Type}{f:α->LV}{l:List α}(h:tq f bytes w lo s l)(a0:lo'<=lo):tq f bytes w lo' s l:=by obtain⟨h1,h2,h3,h4,h5⟩:=h;exact⟨h1,h2,h3,h4,h5.imp id λ⟨g,tail,a,b,c⟩=>⟨g,tail,a,fj a0 b,c⟩⟩
def Ĉ(w:PU)(lo:Nat)(S:Nat->Prop)(s:Sl)(l:Θ):Prop:=∃z:List (Bl×um),Õ 187 yi 2 w lo s (z.map Prod.fst)/\z.map Prod.snd=l/\∀p∈z,E6 w S p
def UM{z:List (Bl×um)}(h:tq yi 40 w lo s (z.map Prod.fst))(hz:∀p∈z,E6 w S p):No ru w (λb=>S b\/(lo<=b/\b<w.heap.size)) s (z.map Prod.snd):=by
 obtain⟨h1,h2,h3,h4,h5⟩:=h;rw[ec]at h1 h2 h4;refine⟨by rwa [ec],by rwa [ec],h3,by rwa [ec],?_⟩;rcases h5 with h5|⟨g,tail,ha,hg,hr⟩
 .rw[List.map_eq_nil_iff]at h5;subst h5;exact .inl rfl
 .refine .inr ⟨_,ha,.inr ⟨hg,hr.lt⟩,λi x hx=>?_⟩;rw[gu]at hx;cases hi:z[i]? with
  |none=>rw[hi]at hx;cases hx
  |some p=>
   rw[hi]at hx;obtain rfl:p.2=x:=jv hx;obtain⟨e1,e2,e3⟩:=hz p (ik hi);have hp:(z.map Prod.fst)[i]?=some p.1:=by rw[gu,hi];rfl
   exact⟨yi p.1,⟨e2,p.1.2,by rw[<-e1];rfl,e3.O λb hb=>.inl hb⟩,tv.Ĥ (f:=yi) (k:=2) (λ_=>rfl) hr hp⟩
def Ĉ.A(h:Ĉ w lo S s l)(hl:l.length<=1000000):No ru w (λb=>S b\/(lo<=b/\b<w.heap.size)) s l:=by obtain⟨z,hf,rfl,hz⟩:=h;rw[ec]at hl;exact UM (hf.flat (bytes:=40) (by rw[ec];unfold Ab;omega)) hz
def Ĉ.low(h:Ĉ w lo S s l)(hl:lo'<=lo):Ĉ w lo' S s l:=by obtain⟨z,hf,e,hz⟩:=h;exact⟨z,hf.low hl,e,hz⟩
def Ĉ.below{z:List (Bl×um)}(hz:∀p∈z,E6 w S p)(hb:Below lo w w')(hS:∀b,S b->b<lo):∀p∈z,E6 w' S p:=λp hp=>by obtain⟨e1,e2,e3⟩:=hz p hp;exact⟨e1,e2,e3.below hb hS⟩
def Ĉ.of(h:OF ru 187 w lo S s l):Ĉ w lo S s l:=by
 obtain⟨css,ho,hl,hr⟩:=h.row;obtain⟨z,hz,hp⟩:=Qj (β:=Bl) l (P:=λi x y=>E6 w S (y,x)/\css[i]?=some (yi y)) λi x hx=>by obtain⟨cs,h1,h0,u,hc,hu⟩:=hr i x hx;subst hc;exact⟨(x.Y,u),⟨rfl,h0,hu⟩,h1⟩
 have a0:z.length=l.length:=by rw[<-hz,ec]
 have e:css=(z.map Prod.fst).map yi:=by
  apply qv λi=>?_;rw[gu,gu];cases hi:z[i]? with
  |none=>have:css.length<=i:=(by rw[hl,<-a0];exact pq.1 hi);rw[iw this];rfl
  |some p=>rw[(hp i p hi).2];rfl
 refine⟨z,⟨by rwa [<-e],by rw[ec,a0];exact h.len⟩,hz,λp hm=>?_⟩;obtain⟨i,hi⟩:=ke hm;exact(hp i p hi).1
def ZC(hS:Old S w)(hs:No ru w S s l)(hl:l.length<=1000000)(hR:∀t w',AI w w'->Ĉ w' w.heap.size S t l->R t w'):MA s w R:=by
 unfold MA;refine⟨λh=>?_,λh=>?_⟩
 .have:l=[]:=by
   rcases hs.2.2.2.2 with h0|⟨ad,h1,_⟩
   .exact h0
   .rw[h]at h1;cases h1
  subst this;exact hR _ _ xR ⟨[],⟨⟨rfl,.inl ⟨rfl,rfl⟩⟩,rfl⟩,rfl,λp hp=>by cases hp⟩
 .intro a w1 ha hw;subst ha;have x1:AI w w1:=hw▸AI.alloc _ _;have uy:OF ru 187 w1 w.heap.size se ⟨some ⟨w.heap.size,0,none⟩,0,0⟩ []:=hw▸OF.empty w;refine uy.yx JU x1.size (hs.U x1) (hS.U x1.size) (λad ha hb=>?_) (by simpa using hs.2.2.2.1) (by simpa using hs.max) λr w2 a0 vh _ _=>?_
  .simp only[eu]at ha;subst ha;have:=hS _ hb;simp at this
  .refine hR r w2 (x1.W vh) (Ĉ.of (a0.O (S':=S) (λb hb=>hb.F (λh=>h.F) id) (λb hb=>a0.lt b (.inr hb)) (λad ha hb=>a0.apart ad ha (.inr hb))))
def VK{α β:Type}(f:α->β)(p:β->Bool)(z:List α):(z.filter λx=>p (f x)).map f=(z.map f).filter p:=by
 induction z with
 |nil=>rfl
 |cons x r ih=>rw[po,io,po];split<;>simp[ih]
def No.raw(hs:No ru w S s l):∃z:List (Bl×um),No Iv w S s (z.map Prod.fst)/\z.map Prod.snd=l/\∀p∈z,E6 w S p:=by
 obtain⟨h1,h2,h3,h4,h5⟩:=hs;rcases h5 with h5|⟨ad,ha,hS,a4⟩
 .subst h5;exact⟨[],⟨h1,h2,h3,h4,.inl rfl⟩,rfl,λp hp=>by cases hp⟩
 .obtain⟨z,hz,hp⟩:=Qj (β:=Bl) l (P:=λi x y=>E6 w S (y,x)/\sh w (ad.add (i*2)) (yi y)) λi x hx=>by obtain⟨cs,⟨e1,u,rfl,e2⟩,e3⟩:=a4 i x hx;exact⟨(x.Y,u),⟨rfl,e1,e2⟩,e3⟩
  have a0:z.length=l.length:=by rw[<-hz,ec]
  refine⟨z,⟨by rwa [ec,a0],by rwa [ec,a0],h3,by rwa [ec,a0],.inr ⟨ad,ha,hS,λi x hx=>?_⟩⟩,hz,λp hm=>?_⟩
  .rw[gu]at hx;cases hi:z[i]? with
   |none=>rw[hi]at hx;cases hx
   |some p=>rw[hi]at hx;obtain rfl:p.1=x:=jv hx;exact⟨yi p.1,⟨rfl,trivial⟩,(hp i p hi).2⟩
  .obtain⟨i,hi⟩:=ke hm;exact(hp i p hi).1
def Zec:∀w,(isAgg 187).run prog w= .ok true w:=λw=>by kernel_rfl
def Zkc:∀w,(Go.sizeOf 187).run prog w= .ok 2 w:=λw=>by kernel_rfl
def Õ.uy{l:List Bl}(h:Õ 187 yi 2 w lo s l):OF Iv 187 w lo se s l:=
 ⟨⟨l.map yi,h.1,by simp,λi x hx=>⟨yi x,by rw[gu,hx];rfl,rfl,trivial⟩⟩,h.2,λ_ h=>h.F,λ_ _ h=>h.F⟩
def OF.Xde{l:List Bl}(h:OF Iv 187 w lo S s l):Õ 187 yi 2 w lo s l:=by
 obtain⟨css,ho,hl,hr⟩:=h.row;have e:css=l.map yi:=by apply rb (by simp[hl]);intro i h1 h2;obtain⟨cs,k1,k2⟩:=hr i (l[i]'(by simpa using h2)) (dt (by simpa using h2));rw[dt h1,eu]at k1;rw[k1,ng];exact k2.1
 rw[e]at ho;exact⟨ho,h.len⟩
end Go.Hal
namespace Go.Hal
def Rb{ds:Μ}{p:As}{x:Pr}{n i:Nat}(h:A0 ds (p.take n++[x])=some i):∀{k:Nat},n<=k->(∀m,n<m->m<=k->A0 ds (p.take m++[x])=none)->AK ds p x k=some i
 |0,hn,_=>by have:n=0:=oM;subst this;exact h
 |k+1,hn,hno=>by
  unfold AK;by_cases hk:n=k+1
  .subst hk;rw[h]
  .rw[hno (k+1) oM nR];exact Rb h oM λm h1 h2=>hno m h1 oM
def QI{p:As}:A0 (ds++[d]) p=(A0 ds p).or (if d.BY=p then some ds.length else none):=by
 unfold A0;rw[List.findIdx?_append];congr 1;by_cases h:d.BY=p
 .rw[fl h];simp[List.findIdx?_cons,h]
 .rw[fa h];simp[List.findIdx?_cons,h]
structure ð(g:Ζ)(s:wv):Prop where
 look:∀t∈s.done,AK s.By (Af s.By t.uj) t.label (Af s.By t.uj).length=some t.dst
 py:∀t∈s.done,∃e∈A2 g (ud s.By t.uj),e.Y=t.label/\(ud s.By t.dst:Int)=e.to
 led:∀i,i<s.By.length->i≠0->∃t∈s.done,t.dst=i/\t.uj<i
def ð.start:ð g ⟨[⟨[],0⟩],[]⟩:=⟨(λt ht=>by cases ht),(λt ht=>by cases ht),λi h1 h2=>by simp at h1;omega⟩
def ð.found{s:wv}{to:Nat}{e:Edge}(h:ð g s)(hl:AK s.By (Af s.By a) e.Y (Af s.By a).length=some to)(he:e∈A2 g (ud s.By a))(hn:(ud s.By to:Int)=e.to):ð g ⟨s.By,s.done++[⟨a,e.Y,to⟩]⟩:=by
 refine⟨λt ht=>?_,λt ht=>?_,λi h1 h2=>?_⟩
 .obtain ht|ht:=fp.1 ht
  .exact h.look t ht
  .rw[ep]at ht;subst ht;exact hl
 .obtain ht|ht:=fp.1 ht
  .exact h.py t ht
  .rw[ep]at ht;subst ht;exact⟨e,he,rfl,hn⟩
 .obtain⟨t,h3,h4⟩:=h.led i h1 h2;exact⟨t,jd _ h3,h4⟩
def ð.put{s:wv}{e:Edge}(h:ð g s)(hI:xi g s a)(hd:s.By[a]?=some d)(hs:zm s d.BY e.Y n)(he:e∈A2 g d.py)(h0:0<=e.to):
  ð g ⟨s.By++[⟨d.BY.take n++[e.Y],e.to.toNat⟩],s.done++[⟨a,e.Y,s.By.length⟩]⟩:=by
 have ha:=(fh.1 hd).1;have a5:Af (s.By++[⟨d.BY.take n++[e.Y],e.to.toNat⟩]) s.By.length=d.BY.take n++[e.Y]:=by unfold Af;rw[ii nR,qn];rfl
 have a0:ud (s.By++[⟨d.BY.take n++[e.Y],e.to.toNat⟩]) s.By.length=e.to.toNat:=by unfold ud;rw[ii nR,qn];rfl
 refine⟨λt ht=>?_,λt ht=>?_,λi h1 h2=>?_⟩
 .obtain ht|ht:=fp.1 ht
  .obtain⟨_,h2,h3⟩:=hI.uj t ht;dsimp only;rw[Wt h2];obtain⟨n0,h4,h5,h6⟩:=OA (h.look t ht);refine Rb (KA h5) h4 λm h7 h8=>?_;rw[QI,h6 m h7 h8,Option.none_or];rw[fa];intro hc;obtain⟨c1,c2⟩:=List.append_inj' hc rfl;have c3:e.Y=t.label:=by simpa using c2
   have a4:n=m:=(by have:=jt List.length c1;rw[fg,fg]at this;have:=hs.le;omega);have hk:=hs.sj t ht c3.H (by rw[c1];exact List.take_prefix _ _);obtain⟨d5,e1,e2⟩:=EF h5;rw[Cp e1,e2]at hk;simp only[du,fg,gq]at hk;omega
  .rw[ep]at ht;subst ht;dsimp only;rw[Wt ha,Cp hd];refine Rb (n:=n) ?_ hs.le λm h7 h8=>?_
   .rw[QI,hs.clear n nR hs.le,fl rfl];rfl
   .rw[QI,hs.clear m oM h8,Option.none_or,fa];intro hc;have:=jt List.length hc;simp only[du,fg,gq]at this;have:=hs.le;omega
 .obtain ht|ht:=fp.1 ht
  .obtain⟨_,h2,h3⟩:=hI.uj t ht;dsimp only;rw[Hr h2,Hr h3];exact h.py t ht
  .rw[ep]at ht;subst ht;dsimp only;rw[Hr ha,Hs hd,a0];exact⟨e,he,rfl,oM⟩
 .rw[du,gq]at h1;by_cases hi:i=s.By.length
  .subst hi;exact⟨_,li _ (ep.2 rfl),rfl,ha⟩
  .obtain⟨t,h3,h4⟩:=h.led i oM h2;exact⟨t,jd _ h3,h4⟩
def xh.Xc1{s t:wv}{tc:Nat}{e:Edge}{c:Int}(hk:tc=1\/tc=2\/tc=3)(h:xh I s a e tc c t)(hI:xi I.g s a)(hL:ð I.g s)(ha:a<s.By.length)(hx:DF s a e.Y)(he:e∈A2 I.g (ud s.By a))(h0:0<=e.to):
  ð I.g t/\(c=0->∃u∈t.done,u.uj=a/\u.label=e.Y)/\∃l,t.done=s.done++l:=by
 have hd:s.By[a]?=some s.By[a]:=dt ha;cases h with
 |found to hr=>exact⟨hL.found hr.1 he hr.2.1,λ_=>⟨_,li _ (ep.2 rfl),rfl,rfl⟩,_,rfl⟩
 |lost=>exact⟨hL,nO,[],by simp⟩
 |put n h1 h2 h3 h4=>
  have hs:zm s (Af s.By a) e.Y n:=by
   obtain hk|hk|hk:=hk
   .exact fm hk h2
   .exact(h3 hk).spot
   .rw[h4 hk,Cp hd];exact hI.spot hd hx
  rw[Hs hd]at he;rw[Cp hd]at hs ⊢;exact⟨hL.put hI hd hs he h0,λ_=>⟨_,li _ (ep.2 rfl),rfl,rfl⟩,_,rfl⟩
 |long=>exact⟨hL,nO,[],by simp⟩
 |deep=>exact⟨hL,nO,[],by simp⟩
structure Ę(g:Ζ):Prop where
 pos:0<g.length
 Xcm:∀x∈g,vq Edge.Y x.sq
 to:∀x∈g,∀e∈x.sq,0<=e.to/\e.to<(g.length:Int)
def Ę.yz(h:Ę g){k:Nat}{e:Edge}(he:e∈A2 g k):0<=e.to/\e.to<(g.length:Int):=by
 unfold A2 at he;split at he
 .rename_i x hx;exact h.to x (ik hx) e he
 .cases he
def Ę.Xbh(h:Ę g)(k:Nat):vq Edge.Y (A2 g k):=by
 unfold A2;split
 .rename_i x hx;exact h.Xcm x (ik hx)
 .exact List.Pairwise.nil
def LH{k:Nat}{e:Edge}:e∈Co g k↔e∈A2 g k:=by
 unfold Co;simp only[fp,iz,jq];constructor
 .rintro(h|h|h)<;>exact h.1
 .intro h;obtain h1|h1|h1:=Ei g k e
  .exact .inl ⟨h,h1⟩
  .exact .inr (.inl ⟨h,h1⟩)
  .exact .inr (.inr ⟨h,h1⟩)
def Wk(h:Ę g)(k:Nat):((Co g k).map Edge.Y).Nodup:=by
 have hr:=h.Xbh k;have a0:∀a∈A2 g k,∀b∈A2 g k,a.Y=b.Y->a=b:=λa ha b hb he=>hr.inj ha hb he;have hn:(A2 g k).Nodup:=by rw[il];exact hr.imp λh e=>by rw[e]at h;exact Fw h rfl
 have ho:(Co g k).Nodup:=by
  unfold Co;have f:∀n:Nat,((A2 g k).filter λe=>AB g k e==n).Nodup:=λn=>hn.sublist List.filter_sublist;refine jl.2 ⟨f 1,jl.2 ⟨f 2,f 3,λa ha b hb e=>?_⟩,λa ha b hb e=>?_⟩
  .subst e;have h1:=(iz.1 ha).2;have h2:=(iz.1 hb).2;rw[jq]at h1 h2;omega
  .subst e;have h1:=(iz.1 ha).2;rw[jq]at h1;rcases fp.1 hb with hb|hb<;>(have h2:=(iz.1 hb).2;rw[jq]at h2;omega)
 rw[il,jb];rw[il]at ho;exact List.Pairwise.imp_of_mem (λ{a b} ha hb h e=>h (a0 a (LH.1 ha) b (LH.1 hb) e)) ho
def xq.inv{k:Nat}(hg:Ę I.g){s t:wv}{es:LQ}{c:Int}(h:xq I a k s es c t):xi I.g s a->ð I.g s->a<s.By.length->ud s.By a=k->(∀e∈es,e∈A2 I.g k/\DF s a e.Y)->(es.map Edge.Y).Nodup->
  xi I.g t a/\ð I.g t/\(∃l,t.By=s.By++l)/\(∃l,t.done=s.done++l)/\(c=0->∀e∈es,∃u∈t.done,u.uj=a/\u.label=e.Y):=by
 induction h with
 |nil s=>intro h1 h2 _ _ _ _;exact⟨h1,h2,⟨[],by simp⟩,⟨[],by simp⟩,λ_ e he=>by cases he⟩
 | @cons s t u e es c k1 k2 ih=>
  intro h1 h2 ha hk a4 a6;obtain⟨he,hx⟩:=a4 e (.head _);have a5:=hg.yz he;obtain⟨a1,a2⟩:=k1.inv (Ei _ _ _) h1 ha hx a5;obtain⟨b1,b2,lb,b3⟩:=k1.Xc1 (Ei _ _ _) h1 h2 ha hx (by rwa [hk]) a5.1;obtain⟨ld,a7⟩:=a2.By;rw[io,qg]at a6;have a8:a<t.By.length:=by rw[a7,du];omega
  obtain⟨c1,c2,⟨l1,c3⟩,⟨l2,c4⟩,c5⟩:=ih a1 b1 a8 (by rwa [a7,Hr ha]) (λe' a0=>⟨(a4 e' (.tail _ a0)).1,a2.new _ (λhn=>a6.1 (hn▸ja a0)) (a4 e' (.tail _ a0)).2⟩) a6.2;refine⟨c1,c2,⟨ld++l1,by rw[c3,a7,ff]⟩,⟨lb++l2,by rw[c4,b3,ff]⟩,λhc e' a0=>?_⟩;obtain rfl|a0:=gn.1 a0
  .obtain⟨u',d1,d2⟩:=b2 rfl;exact⟨u',by rw[c4];exact jd _ d1,d2⟩
  .exact c5 hc e' a0
 | @stop s t e es c k1 k2=>intro h1 h2 ha hk a4 a6;obtain⟨he,hx⟩:=a4 e (.head _);have a5:=hg.yz he;obtain⟨a1,a2⟩:=k1.inv (Ei _ _ _) h1 ha hx a5;obtain⟨b1,b2,lb,b3⟩:=k1.Xc1 (Ei _ _ _) h1 h2 ha hx (by rwa [hk]) a5.1;exact⟨a1,b1,a2.By,⟨lb,b3⟩,λhc=>fm hc k2⟩
def SO(g:Ζ)(s:wv)(a:Nat):Prop:=∀i,i<a->i<s.By.length->∀e∈A2 g (ud s.By i),∃u∈s.done,u.uj=i/\u.label=e.Y
def ya.inv(hg:Ę I.g){s t:wv}{c:Int}(h:ya I a s c t):xi I.g s a->ð I.g s->(∀u∈s.done,u.uj<a)->SO I.g s a->c=0->∃n,xi I.g t n/\ð I.g t/\SO I.g t t.By.length:=by
 induction h with
 | @fin a s h1=>intro hI hL _ hA _;exact⟨a,hI,hL,λi h2 h3=>hA i oM h3⟩
 | @next a s t u c h1 h2 h3 ih=>
  intro hI hL hS hA hc;obtain⟨a1,a2,⟨l1,a3⟩,⟨l2,a4⟩,a5⟩:=h2.inv hg hI hL h1 rfl (λe he=>⟨LH.1 he,λv hv hs=>by have:=hS v hv;omega⟩) (Wk hg _);refine ih a1.next a2 (λv hv=>by have:=(a1.uj v hv).1;omega) (λi hi hl e he=>?_) hc;obtain a0|a0:=rt i a
  .rw[a3,Hr oM]at he;obtain⟨v,b1,b2⟩:=hA i a0 oM e he;exact⟨v,by rw[a4];exact jd _ b1,b2⟩
  .have:i=a:=oM;subst this;rw[a3,Hr h1]at he;exact a5 rfl e (LH.2 he)
 |stop h1 h2 h3=>intro _ _ _ _ hc;exact fm hc h3
structure ù(g:Ζ)(ds:Μ):Prop where
 root:ds[0]?=some ⟨[],0⟩
 one:∀(i j:Nat)(d e:Dr),ds[i]?=some d->ds[j]?=some e->d.BY=e.BY->i=j
 up:∀(i:Nat)(d:Dr)(p:As)(x:Pr),ds[i]?=some d->d.BY=p++[x]->∃h,h<i/\A0 ds p=some h
 py:∀d∈ds,d.py<g.length
 look:∀i,i<ds.length->∀e∈A2 g (ud ds i),∃j,AK ds (Af ds i) e.Y (Af ds i).length=some j/\(ud ds j:Int)=e.to
 led:∀i,i<ds.length->i≠0->∃j,j<i/\∃e∈A2 g (ud ds j),AK ds (Af ds j) e.Y (Af ds j).length=some i/\(ud ds i:Int)=e.to
def ya.ď(hg:Ę I.g){t:wv}(h:ya I 0 ⟨[⟨[],0⟩],[]⟩ 0 t):ù I.g t.By:=by
 obtain⟨n,hI,hL,hA⟩:=h.inv hg (xi.start hg.pos) ð.start (λu hu=>by cases hu) (λi hi=>by omega) rfl;refine⟨hI.root,hI.one,hI.up,hI.py,λi hi e he=>?_,λi hi h0=>?_⟩
 .obtain⟨u,h1,h2,h3⟩:=hA i hi hi e he;obtain⟨e',h4,h5,h6⟩:=hL.py u h1;have h7:=hL.look u h1;rw[h2]at h4 h7;rw[h3]at h7 h5;have:=(hg.Xbh _).inj h4 he h5;subst this;exact⟨u.dst,h7,h6⟩
 .obtain⟨u,h1,h2,h3⟩:=hL.led i hi h0;obtain⟨e',h4,h5,h6⟩:=hL.py u h1;have h7:=hL.look u h1;rw[<-h5,h2]at h7;rw[h2]at h6;exact⟨u.uj,h3,e',h4,h7,h6⟩
structure Xdj(g:Ζ)(n:Nat)(x:Pr):Prop where
 vd:BP g n=[]
 to:∀k,∀e∈A2 g k,(e.Y=x↔e.to=(n:Int))
def Bh(ps:Ι)(d:Dr):uf:=⟨d.BY,ps.getD d.py Ay,d.py⟩
def Ur(ps:Ι)(d:Dr):AH (Bh ps d)=d:=by unfold AH Bh;simp
def OE:(ds.map (Bh ps)).map AH=ds:=by
 rw[jh]
 conv=>rhs;rw[<-List.map_id ds]
 exact od λd _=>Ur ps d
def DV(I:Œ)(s:wv):Prop:=(∀d∈s.By,d.BY=[]\/(I.Xbn d.BY:Int)<=I.Xbc)/\(s.By.length:Int)<=I.ţ+1
def xh.small{s t:wv}{tc:Nat}{e:Edge}{c:Int}(h:xh I s a e tc c t)(hs:DV I s):DV I t:=by
 cases h with
 |found=>exact hs
 |lost=>exact hs
 |long=>exact hs
 |deep=>exact hs
 |put n h1 h2 h3 h4 h5 h6=>
  refine⟨λd hd=>?_,?_⟩
  .obtain hd|hd:=fp.1 hd
   .exact hs.1 d hd
   .rw[ep]at hd;subst hd;exact .inr h5
  .rw[du,gq];omega
def xq.small{s t:wv}{k:Nat}{es:LQ}{c:Int}(h:xq I a k s es c t):DV I s->DV I t:=by
 induction h with
 |nil=>exact λh=>h
 |cons k1 k2 ih=>exact λh=>ih (k1.small h)
 |stop k1 k2=>exact λh=>k1.small h
def ya.small{s t:wv}{c:Int}(h:ya I a s c t):DV I s->DV I t:=by
 induction h with
 |fin=>exact λh=>h
 |next k1 k2 k3 ih=>exact λh=>ih (k2.small h)
 |stop k1 k2 k3=>exact λh=>k2.small h
def VU{p q:As}:Bj (p++q)=true↔Bj p=true/\Bj q=true:=by unfold Bj;rw[rj,dz]
def Zga{p:As}(h:Bj p=true)(n:Nat):Bj (p.take n)=true:=by have:=h;rw[<-ga n p,VU]at this;exact this.1
def ù.last(h:ù g ds)(hG:ur g ps)(hd:ds[i]?=some d)(h0:i≠0):
  ∃(j n:Nat) (b:Dr) (e:Edge) (k:Nat) (y:rz) (p:su),j<i/\ds[j]?=some b/\d.BY=b.BY.take n++[e.Y]/\Ae e.Y=true/\d.py=k/\1<=k/\g[k]?=some y/\y.Y=e.Y/\ps[k]?=some p/\AJ p=true/\p.Y=e.Y:=by
 have hi:=(fh.1 hd).1;obtain⟨j,hj,e,h1,h2,h3⟩:=h.led i hi h0;have a5:j<ds.length:=oM;have a0:ds[j]?=some ds[j]:=dt a5;rw[Hs a0]at h1;rw[Hs hd]at h3;obtain⟨n,_,h4,_⟩:=OA h2;obtain⟨d',h5,h6⟩:=EF h4;rw[hd]at h5;cases h5;rw[Cp a0]at h6;unfold A2 at h1;split at h1
 .rename_i x hx;obtain⟨k,y,a1,a2,a3,a4⟩:=(hG.py _ x hx).yz e h1;obtain⟨p,b1,b2,b3,_⟩:=(hG.py k y a3).td oM;exact⟨j,n,_,e,k,y,p,hj,a0,h6,hG.Y hx h1,oM,a2,a3,a4,b1,b2,b3.Z a4⟩
 .cases h1
def ù.zq(h:ù g ds)(hG:ur g ps):∀(i:Nat)(d:Dr),ds[i]?=some d->Bj d.BY=true:=λi=>by
 induction i using Nat.strongRecOn with
 |ind i ih=>
  intro d hd;by_cases h0:i=0
  .subst h0;rw[h.root]at hd;cases hd;rfl
  .obtain⟨j,n,b,e,_,_,_,h1,h2,h3,h4,_⟩:=h.last hG hd h0;rw[h3,VU];exact⟨Zga (ih j h1 b h2) n,by unfold Bj;simp[h4]⟩
def ù.Xce(h:ù g ds)(hG:ur g ps):ø ds:=
 ⟨λd hd=>by obtain⟨i,hi⟩:=ke hd;exact h.zq hG i d hi,h.one⟩
structure PC where
 u:Sl
 ps:Sl
 l1:Int
 l2:Int
 l3:Int
 l4:Int
 ol:Qd
 dr:Sl
 st:Sl
def PC.c(c:PC):LV:=[c.u.v,c.ps.v,vi c.l1,vi c.l2,vi c.l3,vi c.l4,.pointer c.ol,c.dr.v,c.st.v]
def ze(w:PU)(S:Nat->Prop):Option (Ε)->Qd->Prop
 |none,none=>True
 |some T,some a=>S a.block/\∃so,sh w a [Sl.v so]/\No ve w S so T
 |_,_=>False
structure İ(E:xn Stl)(w:PU)(p:LP)(S:Nat->Prop)(c:PC)(G:Ζ)(P:Ι)(tm:Option (Ε))(s:wv):Prop where
 box:AT w p c.c
 g:No uh w S c.u G
 pk:No wu w S c.ps P
 dr:No ve w S c.dr (s.By.map (Bh P))
 st:No E w S c.st s.done
 tm:ze w S tm c.ol
 lt:Old S w
section
variable {E:xn Stl} {w w':PU} {p:LP} {S:Nat->Prop} {c:PC} {G:Ζ} {P:Ι} {tm:Option (Ε)} {s:wv}
def ze.U(h:ze w S tm ol)(hx:AI w w'):ze w' S tm ol:=by
 unfold ze at*;split at h
 .trivial
 .obtain⟨h1,so,h2,h3⟩:=h;exact⟨h1,so,h2.U hx,h3.U hx⟩
 .exact h
def İ.U(h:İ E w p S c G P tm s)(hx:AI w w'):İ E w' p S c G P tm s:=⟨h.box.U hx,h.g.U hx,h.pk.U hx,h.dr.U hx,h.st.U hx,h.tm.U hx,h.lt.U hx.size⟩
def İ.ld(h:İ E w p S c G P tm s)(hx:AI w w')(k:Nat){r:LV}(hp:c.c.drop k=cs++r):sh w' (p.add k) cs:=h.box.at1 hx hp
def İ.ld0(h:İ E w p S c G P tm s)(hx:AI w w'):sh w' p [c.u.v]:=h.box.at0 hx rfl
def F3(h:İ E w p S c G P tm s):c.dr.len=s.By.length:=by rw[h.dr.len,ec]
def İ.vg(h:İ E w p S c G P tm s)(hi:i<s.By.length):
  ∃ad q d e o,c.dr.a=some ad/\S ad.block/\Ad (P.getD s.By[i].py Ay).Y/\No vr w S q s.By[i].BY/\No ru w S d (P.getD s.By[i].py Ay).ss/\No ru w S e (P.getD s.By[i].py Ay).ta/\No ru w S o (P.getD s.By[i].py Ay).uq/\
   ∀w',AI w w'->sh w' (ad.add (i*9)) [q.v,.string (P.getD s.By[i].py Ay).Y,.int .i64 (P.getD s.By[i].py Ay).v.ma,.int .i64 (P.getD s.By[i].py Ay).v.mi,.int .i64 (P.getD s.By[i].py Ay).v.pa,d.v,e.v,o.v,vi (s.By[i].py:Int)]:=by
 have hl:i<(s.By.map (Bh P)).length:=by simpa using hi
 have:=Go.Hal.vg h.dr hl;rw[ng]at this;exact this
end
def NT{p:As}(hS:Old S w)(hs:No vr w S s p)(hR:∀t w',AI w w'->OF vr 9 w' w.heap.size se t p->R t w'):G3 s w R:=by
 unfold G3;refine⟨λh=>?_,λh=>?_⟩
 .have:p=[]:=by
   rcases hs.2.2.2.2 with h0|⟨ad,h1,_⟩
   .exact h0
   .rw[h]at h1;cases h1
  subst this;exact hR _ _ xR (OF.zero _)
 .intro a w1 ha hw;subst ha;have x1:AI w w1:=hw▸AI.alloc _ _;have uy:OF vr 9 w1 w.heap.size se ⟨some ⟨w.heap.size,0,none⟩,0,0⟩ []:=hw▸OF.empty w;refine uy.yx GQ x1.size (hs.U x1) (hS.U x1.size) (λad ha hb=>?_) (by simpa using hs.2.2.2.1) (by simpa using hs.max) λr w2 a0 vh _ _=>?_
  .simp only[eu]at ha;subst ha;have:=hS _ hb;simp at this
  .exact hR r w2 (x1.W vh) (OF.flat (λh=>h) a0)
end Go.Hal
namespace Go.Hal
open Go.MapKept
end Go.Hal
namespace Go.Hal
def P7(s:wv):Prop:=∀t∈s.done,t.uj<s.By.length/\t.dst<s.By.length
def TA(q:tn)(n:Pr):Ag q.Y n=Az n q:=by rw[gp,AG];unfold Az;simp
def ze.none_{tm:Option (Ε)}(h:ze w S tm none):tm=none:=by
 cases tm with
 |none=>rfl
 |some T=>exact h.F
def ze.some_{tm:Option (Ε)}(h:ze w S tm ol)(h0: ¬ol=none):∃ao T,ol=some ao/\tm=some T/\S ao.block/\∃so,sh w ao [Sl.v so]/\No ve w S so T:=by
 cases ol with
 |none=>exact fm rfl h0
 |some ao=>
  cases tm with
  |none=>exact h.F
  |some T=>exact⟨ao,T,rfl,rfl,h⟩
def L5(tm:Option (Ε))(P:Ι)(p:As)(k:Nat):Bool:=match tm with
 |none=>false
 |some T=>match A0 (T.map AH) p with
  |none=>false
  |some j=>decide (T[j]?.map uf.td=P[k]?)
def D7(L:Ι)(g:Ζ):Ι:=(List.range g.length).map λi=>if i=0 then Ay else match g[i]? with
 |some x=>(AR L x.Y x.v).getD Ay
 |none=>Ay
def ER(G:Ζ)(P:Ι)(tm:Option (Ε))(D M:Int):Œ:=⟨G,L5 tm P,λp=>(Ar p).length,M,D⟩
def ķ:wv:=⟨[⟨[],0⟩],[]⟩
def Fo(D M:Int):Prop:=1<=D/\D<=256/\1<=M/\M<=1024
def HS(tm:Option (Ε)):Prop:=∀T,tm=some T->vj T
inductive xj (G:Ζ) (P:Ι) (tm:Option (Ε)) (D M:Int):Int->Ε->Prop
 |arg: ¬Fo D M->xj G P tm D M 1 []
 |Ħ:Fo D M-> ¬HS tm->xj G P tm D M 42 []
 |yw:Fo D M->HS tm-> ¬ur G P->xj G P tm D M 33 []
 |stop {c:Int} {s:wv}:Fo D M->HS tm->ur G P->ya (ER G P tm D M) 0 ķ c s->c≠0->xj G P tm D M c []
 |ok {s:wv} {es:Μ}:Fo D M->HS tm->ur G P->ya (ER G P tm D M) 0 ķ 0 s->zw s.By es->xj G P tm D M 0 (es.map (Bh P))
def ur.Xa8(h:ur g ps):Ę g:=by
 have hl:=h.len;refine⟨oM,λx hx=>?_,λx hx e he=>?_⟩
 .obtain⟨i,hi⟩:=ke hx;exact(h.py i x hi).sq
 .obtain⟨i,hi⟩:=ke hx;obtain⟨j,y,h1,_,h3,_⟩:=(h.py i x hi).yz e he;have:=(fh.1 h3).1;omega
def xj.one{G:Ζ}{P:Ι}{tm:Option (Ε)}{M c d:Int}{T U:Ε}(h:xj G P tm D M c T)(k:xj G P tm D M d U):c=d/\T=U:=by
 cases h with
 |arg h1=>
  cases k with
  |arg=>exact⟨rfl,rfl⟩
  |Ħ k1=>exact fm k1 h1
  |yw k1=>exact fm k1 h1
  |stop k1=>exact fm k1 h1
  |ok k1=>exact fm k1 h1
 |Ħ h1 h2=>
  cases k with
  |arg k1=>exact fm h1 k1
  |Ħ=>exact⟨rfl,rfl⟩
  |yw k1 k2=>exact fm k2 h2
  |stop k1 k2=>exact fm k2 h2
  |ok k1 k2=>exact fm k2 h2
 |yw h1 h2 h3=>
  cases k with
  |arg k1=>exact fm h1 k1
  |Ħ k1 k2=>exact fm h2 k2
  |yw=>exact⟨rfl,rfl⟩
  |stop k1 k2 k3=>exact fm k3 h3
  |ok k1 k2 k3=>exact fm k3 h3
 |stop h1 h2 h3 h4 h5=>
  cases k with
  |arg k1=>exact fm h1 k1
  |Ħ k1 k2=>exact fm h2 k2
  |yw k1 k2 k3=>exact fm h3 k3
  |stop k1 k2 k3 k4 k5=>exact⟨(h4.one k4).1,rfl⟩
  |ok k1 k2 k3 k4 k5=>exact fm (h4.one k4).1 h5
 |ok h1 h2 h3 h4 h5=>
  cases k with
  |arg k1=>exact fm h1 k1
  |Ħ k1 k2=>exact fm h2 k2
  |yw k1 k2 k3=>exact fm h3 k3
  |stop k1 k2 k3 k4 k5=>exact fm (h4.one k4).1.H k5
  |ok k1 k2 k3 k4 k5=>have e:=(h4.one k4).2;subst e;have hd:=(ya.ď (I:=ER G P tm D M) h3.Xa8 h4).Xce h3;exact⟨rfl,by rw[h5.one hd k5]⟩
def B7:zd:=⟨⟨[],[],[],[]⟩,[],false,false⟩
def US(m:vz)(n:Pr):Bool:=C8 m.ss n||(C8 m.uw n||C8 m.uq n)
def PV(m:vz)(rv:Η)(pr:Bool)(x:wx)(r:Option (Κ)):Int×zd:=
 if x.op=2 then(0,⟨m,[],false,false⟩)
 else if x.op=3 then(if Ae x.Y=false then(23,B7)else match r with
  |none=>(21,B7)
  |some l=>if x.tc<0\/2<x.tc then(1,B7)else if AF (Ft m x.tc ⟨x.Y,l⟩)=false then(26,B7)else(0,⟨Ft m x.tc ⟨x.Y,l⟩,rv,true,pr&& !decide (x.tc=1)⟩))
 else if x.op=4 then(if Ae x.Y=false then(23,B7)else if US m x.Y=false then(50,B7)else(0,⟨JY m x.Y,rv,true,pr⟩))
 else if x.op=5 then(if x.Y=⟨#[]⟩then(0,⟨m,[],true,pr⟩)else if Ae x.Y=false then(23,B7)else if rv.any (Az x.Y)=false then(50,B7)else(0,⟨m,rv.filter (λp=>!Az x.Y p),true,pr⟩))
 else if x.op=6 then(0,⟨m,rv,false,pr⟩)
 else if x.op=7 then(0,⟨m,rv,true,true⟩)
 else if x.op=8 then(if Ae x.Y=false then(23,B7)else if x.range=⟨#[]⟩then(if C8 m.sd x.Y=false then(50,B7)else(0,⟨⟨m.ss,m.uw,m.uq,BB m.sd x.Y⟩,rv,true,pr⟩))else match r with
  |none=>(21,B7)
  |some l=>if AF ⟨m.ss,m.uw,m.uq,xv m.sd ⟨x.Y,l⟩⟩=false then(26,B7)else(0,⟨⟨m.ss,m.uw,m.uq,xv m.sd ⟨x.Y,l⟩⟩,rv,true,pr⟩))
 else(51,B7)
def uu.eq{m:vz}{rv:Η}{pr:Bool}{x:wx}{c:Int}{j:zd}(h:uu m rv pr x r c j):(PV m rv pr x r).1=c/\(c=0->(PV m rv pr x r).2=j):=by
 unfold PV US;cases h with
 |ņ h=>rw[fl h];exact⟨rfl,λ_=>rfl⟩
 |Ń h h1=>rw[fa oM,fl h,fl h1];exact⟨rfl,nO⟩
 |addRange h h1 h2=>rw[fa oM,fl h,fa (by rw[h1];decide),h2];exact⟨rfl,nO⟩
 |ł h h1 h2 h3=>rw[fa oM,fl h,fa (by rw[h1];decide),h2];dsimp only;rw[fl h3];exact⟨rfl,nO⟩
 |Ł h h1 h2 h3 h4 h5=>rw[fa oM,fl h,fa (by rw[h1];decide),h2];dsimp only;rw[fa oM,fl h5];exact⟨rfl,nO⟩
 |add h h1 h2 h3 h4 h5=>rw[fa oM,fl h,fa (by rw[h1];decide),h2];dsimp only;rw[fa oM,fa (by rw[h5];decide)];exact⟨rfl,λ_=>rfl⟩
 |Ŋ h h1=>rw[fa oM,fa oM,fl h,fl h1];exact⟨rfl,nO⟩
 |ŋ h h1 h2=>rw[fa oM,fa oM,fl h,fa (by rw[h1];decide),fl h2];exact⟨rfl,nO⟩
 |rem h h1 h2=>rw[fa oM,fa oM,fl h,fa (by rw[h1];decide),fa (by rw[h2];decide)];exact⟨rfl,λ_=>rfl⟩
 |ŭ h h1=>rw[fa oM,fa oM,fa oM,fl h,fl h1];exact⟨rfl,λ_=>rfl⟩
 |Ő h h1 h2=>rw[fa oM,fa oM,fa oM,fl h,fa h1,fl h2];exact⟨rfl,nO⟩
 |ő h h1 h2 h3=>rw[fa oM,fa oM,fa oM,fl h,fa h1,fa (by rw[h2];decide),fl h3];exact⟨rfl,nO⟩
 |upd h h1 h2 h3=>rw[fa oM,fa oM,fa oM,fl h,fa h1,fa (by rw[h2];decide),fa (by rw[h3];decide)];exact⟨rfl,λ_=>rfl⟩
 |Š h=>rw[fa oM,fa oM,fa oM,fa oM,fl h];exact⟨rfl,λ_=>rfl⟩
 |prune h=>rw[fa oM,fa oM,fa oM,fa oM,fa oM,fl h];exact⟨rfl,λ_=>rfl⟩
 |ť h h1=>rw[fa oM,fa oM,fa oM,fa oM,fa oM,fa oM,fl h,fl h1];exact⟨rfl,nO⟩
 |ŧ h h1 h2 h3=>rw[fa oM,fa oM,fa oM,fa oM,fa oM,fa oM,fl h,fa (by rw[h1];decide),fl h2,fl h3];exact⟨rfl,nO⟩
 |Ŧ h h1 h2 h3=>rw[fa oM,fa oM,fa oM,fa oM,fa oM,fa oM,fl h,fa (by rw[h1];decide),fl h2,fa (by rw[h3];decide)];exact⟨rfl,λ_=>rfl⟩
 |ň h h1 h2 h3=>rw[fa oM,fa oM,fa oM,fa oM,fa oM,fa oM,fl h,fa (by rw[h1];decide),fa h2,h3];exact⟨rfl,nO⟩
 |Ť h h1 h2 h3 h4=>rw[fa oM,fa oM,fa oM,fa oM,fa oM,fa oM,fl h,fa (by rw[h1];decide),fa h2,h3];dsimp only;rw[fl h4];exact⟨rfl,nO⟩
 |ov h h1 h2 h3 h4=>rw[fa oM,fa oM,fa oM,fa oM,fa oM,fa oM,fl h,fa (by rw[h1];decide),fa h2,h3];dsimp only;rw[fa (by rw[h4];decide)];exact⟨rfl,λ_=>rfl⟩
 |op h=>rw[fa oM,fa oM,fa oM,fa oM,fa oM,fa oM,fa oM];exact⟨rfl,nO⟩
def uu.one{m:vz}{rv:Η}{pr:Bool}{x:wx}{c d:Int}{j k:zd}(h:uu m rv pr x r c j)(h':uu m rv pr x r d k):c=d/\(c=0->j=k):=by obtain⟨h1,h2⟩:=h.eq;obtain⟨k1,k2⟩:=h'.eq;exact⟨h1.H.Z k1,λe=>(h2 e).H.Z (k2 (k1.H.Z (h1.Z e)))⟩
structure ź where
 code:Int
 dec:Int
 uk:Int
 By:Int
def E4(D N Di P:Int):Prop:=1<=D/\D<=4096/\1<=N/\N<=128/\Fo Di P
inductive į (L:Ι) (s:á) (x:wx) (r:Option (Κ)) (D N Di P:Int):ź->á->Prop
 |arg: ¬(E4 D N Di P/\zi s)->į L s x r D N Di P ⟨1,0,0,0⟩ s
 |ask {rv:Η} {c:Int} {j:zd}:E4 D N Di P->zi s->vm s.g rv->uu s.m rv s.IT x r c j->c≠0->į L s x r D N Di P ⟨c,0,0,0⟩ s
 |find {rv:Η} {j:zd}:E4 D N Di P->zi s->vm s.g rv->uu s.m rv s.IT x r 0 j->(AQ L j.m (!j.IT) j.rv D N).code≠0->į L s x r D N Di P ⟨(AQ L j.m (!j.IT) j.rv D N).code,0,0,0⟩ s
 |place {rv:Η} {j:zd} {c:Int} {T:Ε}:E4 D N Di P->zi s->vm s.g rv->uu s.m rv s.IT x r 0 j->(AQ L j.m (!j.IT) j.rv D N).code=0->
   xj (AQ L j.m (!j.IT) j.rv D N).ns (D7 L (AQ L j.m (!j.IT) j.rv D N).ns) (if j.sj then some s.T else none) Di P c T->c≠0->į L s x r D N Di P ⟨c,0,0,0⟩ s
 |ok {rv:Η} {j:zd} {T:Ε}:E4 D N Di P->zi s->vm s.g rv->uu s.m rv s.IT x r 0 j->(AQ L j.m (!j.IT) j.rv D N).code=0->
   xj (AQ L j.m (!j.IT) j.rv D N).ns (D7 L (AQ L j.m (!j.IT) j.rv D N).ns) (if j.sj then some s.T else none) Di P 0 T->
   į L s x r D N Di P ⟨0,(AQ L j.m (!j.IT) j.rv D N).dec,((AQ L j.m (!j.IT) j.rv D N).ns.length:Int),(T.length:Int) - 1⟩ ⟨j.m,(AQ L j.m (!j.IT) j.rv D N).ns,T,j.IT⟩
def į.one{s:á}{x:wx}{N Di P:Int}{a b:ź}{t u:á}(h:į L s x r D N Di P a t)(k:į L s x r D N Di P b u):a=b/\t=u:=by
 cases h with
 |arg h1=>
  cases k with
  |arg=>exact⟨rfl,rfl⟩
  |ask k1 k2=>exact fm ⟨k1,k2⟩ h1
  |find k1 k2=>exact fm ⟨k1,k2⟩ h1
  |place k1 k2=>exact fm ⟨k1,k2⟩ h1
  |ok k1 k2=>exact fm ⟨k1,k2⟩ h1
 |ask h1 h2 h3 h4 h5=>
  cases k with
  |arg k1=>exact fm ⟨h1,h2⟩ k1
  |ask k1 k2 k3 k4 k5=>have e:=h3.one k3;subst e;rw[(h4.one k4).1];exact⟨rfl,rfl⟩
  |find k1 k2 k3 k4=>have e:=h3.one k3;subst e;exact fm (h4.one k4).1 h5
  |place k1 k2 k3 k4=>have e:=h3.one k3;subst e;exact fm (h4.one k4).1 h5
  |ok k1 k2 k3 k4=>have e:=h3.one k3;subst e;exact fm (h4.one k4).1 h5
 |find h1 h2 h3 h4 h5=>
  cases k with
  |arg k1=>exact fm ⟨h1,h2⟩ k1
  |ask k1 k2 k3 k4 k5=>have e:=h3.one k3;subst e;exact fm (h4.one k4).1.H k5
  |find k1 k2 k3 k4=>have e:=h3.one k3;subst e;rw[(h4.one k4).2 rfl];exact⟨rfl,rfl⟩
  |place k1 k2 k3 k4 k5=>have e:=h3.one k3;subst e;rw[(h4.one k4).2 rfl]at h5;exact fm k5 h5
  |ok k1 k2 k3 k4 k5=>have e:=h3.one k3;subst e;rw[(h4.one k4).2 rfl]at h5;exact fm k5 h5
 |place h1 h2 h3 h4 h5 h6 h7=>
  cases k with
  |arg k1=>exact fm ⟨h1,h2⟩ k1
  |ask k1 k2 k3 k4 k5=>have e:=h3.one k3;subst e;exact fm (h4.one k4).1.H k5
  |find k1 k2 k3 k4 k5=>have e:=h3.one k3;subst e;rw[<-(h4.one k4).2 rfl]at k5;exact fm h5 k5
  |place k1 k2 k3 k4 k5 k6=>have e:=h3.one k3;subst e;have e:=(h4.one k4).2 rfl;subst e;rw[(h6.one k6).1];exact⟨rfl,rfl⟩
  |ok k1 k2 k3 k4 k5 k6=>have e:=h3.one k3;subst e;have e:=(h4.one k4).2 rfl;subst e;exact fm (h6.one k6).1 h7
 |ok h1 h2 h3 h4 h5 h6=>
  cases k with
  |arg k1=>exact fm ⟨h1,h2⟩ k1
  |ask k1 k2 k3 k4 k5=>have e:=h3.one k3;subst e;exact fm (h4.one k4).1.H k5
  |find k1 k2 k3 k4 k5=>have e:=h3.one k3;subst e;rw[<-(h4.one k4).2 rfl]at k5;exact fm h5 k5
  |place k1 k2 k3 k4 k5 k6 k7=>have e:=h3.one k3;subst e;have e:=(h4.one k4).2 rfl;subst e;exact fm (h6.one k6).1.H k7
  |ok k1 k2 k3 k4 k5 k6=>have e:=h3.one k3;subst e;have e:=(h4.one k4).2 rfl;subst e;rw[(h6.one k6).2];exact⟨rfl,rfl⟩
structure zl(w:PU)(S:Nat->Prop)(d e o v:Sl)(m:vz):Prop where
 d:No ru w S d m.ss
 e:No ru w S e m.uw
 o:No ru w S o m.uq
 v:No ru w S v m.sd
def zl.U{d e v:Sl}{m:vz}(h:zl w S d e o v m)(hx:AI w w'):zl w' S d e o v m:=⟨h.d.U hx,h.e.U hx,h.o.U hx,h.v.U hx⟩
def zl.O{S':Nat->Prop}{d e v:Sl}{m:vz}(h:zl w S d e o v m)(hs:∀b,S b->S' b):zl w S' d e o v m:=⟨h.d.O hs,h.e.O hs,h.o.O hs,h.v.O hs⟩
def JO(m:vz):Prop:=m.ss.length<=999/\m.uw.length<=999/\m.uq.length<=999/\m.sd.length<=999
def N7(m:vz):Prop:=ye m.ss/\ye m.uw/\ye m.uq/\ye m.sd
def JL(l:Θ)(n:Pr):(BB l n).length<=l.length:=jf _ _
def zl.tz{g:Nat}{d e v:Sl}{m:vz}(h:zl w S d e o v m)(hb:uv g w w')(hn: ¬S g):zl w' S d e o v m:=⟨h.d.tz hb hn,h.e.tz hb hn,h.o.tz hb hn,h.v.tz hb hn⟩
def Zno:∀w,(zeroValue 150).run prog w= .ok (.agg #[.string Ϥ,vi 0,vi 0,vi 0]) w:=λw=>by kernel_rfl
def Zag{l:Η}{d:tn->Bool}(h:tq AW 40 w lo s l)(a5:lo<=w.heap.size)(c7:∀q∈l,Ad q.Y)
  (hf:∀x∈l,∀w' (k:Ë),Below lo w w'->(∀ad,s.a=some ad->uv ad.block w w')->(s.a=none->AI w w')->(∀d0,AI w' d0->k (.bool (d x)) d0)->un prog f [.agg #[.string x.Y,vi x.v.ma,vi x.v.mi,vi x.v.pa]] w' k)
  (hR:∀t w',Below lo w w'->(∀ad,s.a=some ad->uv ad.block w w')->(s.a=none->AI w w')->(∀ad,t.a=some ad->∃b9,s.a=some b9/\ad.block=b9.block)->tq AW 40 w' lo t (l.filter λx=>!d x)->R t w'):MG s f w R:=by
 unfold MG;have hs:=h.A (E:=vb) (λ_=>rfl) (λ_ _ x hx=>⟨rfl,c7 x hx⟩);refine HD.V (Ċ (p:=d) hs (λx hx w' k b0 hk=>hf x hx w' k (Below.O b0 a5) (λ_ _=>b0.tz _) (λ_=>b0) hk) λw1 x1=>⟨_,rfl,λh1=>?_,λh1=>?_⟩)
 .have:l.any d=false:=by rw[<-F4,h1];decide
  exact hR s w1 (Below.O x1 a5) (λad _=>x1.tz _) (λ_=>x1) (λad h=>⟨ad,h,rfl⟩) (by rw[I5 this];exact h.U x1)
 obtain⟨n,hn,e,ht,hp⟩:=Lq h1;rw[e];obtain⟨k1,k2,k3,k4,k5⟩:=h;obtain⟨g,tail,ha,hg,hr⟩:∃g tail,s.a=some ⟨g,0,none⟩/\lo<=g/\tv AW w g l tail:=by
  obtain k5|k5:=k5
  .subst k5;simp at hn
  .exact k5
 have hk:∀x:tn,(AW x).length=4:=λ_=>rfl;have c4:(l.take (n+1)).filter (λx=>!d x)=l.take n:=by rw[dw hn,lf,I5 ht];simp[hp]
 rw[Ai oM (by unfold Ab at k4;omega)];refine⟨λi j w'=>∃(i' j':Nat) (z:Η),i=(i':Int)/\j=(j':Int)/\i'<j'/\j'<=l.length/\z.length=l.length/\i'=((l.take j').filter λx=>!d x).length/\z.take i'=(l.take j').filter (λx=>!d x)/\z.drop j'=l.drop j'/\uv g w w'/\tv AW w' g z tail,
  λ_ j _=>l.length - j.toNat,⟨n,n+1,l,rfl,oM,oM,oM,rfl,by rw[c4,fg];omega,by rw[c4],rfl,x1.tz g,hr.U x1⟩,?_⟩
 rintro _ _ w2 ⟨i,j,z,rfl,rfl,d2,hj,c9,hi,a6,c8,b2,a4⟩;refine⟨λd9=>join.named λJ hJ=>?_,λd7=>?_⟩
 .have a0:j<l.length:=oM;have ej:Aa ((j:Int)+1)=((j+1:Nat):Int):=by rw[Ai oM (by unfold Ab at k4;omega)];omega
  have a7:z.drop (j+1)=l.drop (j+1):=by rw[<-kr,c8,kr]
  have c5:(l.take (j+1)).filter (λx=>!d x)=(l.take j).filter (λx=>!d x)++[l[j]].filter (λx=>!d x):=by rw[dw a0,lf]
  have kJ:∀(i':Nat)(w':PU)(z':Η),i'<j+1->z'.length=l.length->z'.take i'=(l.take (j+1)).filter (λx=>!d x)->z'.drop (j+1)=l.drop (j+1)->uv g w w'->tv AW w' g z' tail->J (i':Int) w':=λi' w' z' q1 q2 q3 q4 q5 q6=>by subst hJ;show _/\_;rw[ej];exact⟨⟨i',j+1,z',rfl,rfl,q1,oM,q2,by rw[<-q3,fg];omega,q3,q4,q5,q6⟩,by show _ - Int.toNat _<_ - Int.toNat _;omega⟩
  clear hJ;have d5:z[j]?=some l[j]:=by have h1:z[j]?=(z.drop j)[0]? :=(by rw[mj,ky]);rw[h1,c8,mj,ky];exact dt a0
  refine⟨_,⟨ha,oM,oM⟩,_,_,_,_,a4.Ĥ hk d5,An.intro λa w3 x3 a8 d6 _=>tk.intro a8 sI λw4 b4 _ c3=>⟨_,_,_,_,c3.sh.pre rfl,?_⟩⟩;have b7:AI w2 w4:=b4.U x3 oM;have s2:=b2.1;have hm:l[j]∈l:=fe a0;refine hf _ hm w4 _ ((b2.Z (b7.tz g)).below a5 hg) (λad h=>by rw[ha]at h;cases h;exact b2.Z (b7.tz g)) (λh=>by rw[ha]at h;cases h) λw5 x5=>⟨_,rfl,λhd=>?_,λhd=>?_⟩
  all_goals
   have b8:=b7.Z x5;have s5:=b8.size;have b5:uv g w w5:=b2.Z (b8.tz g);have c6:=a4.U b8
  .have a9:d l[j]=false:=(by simpa using hd);refine⟨_,_,_,_,(c3.U x5).sh.pre rfl,_,⟨ha,oM,oM⟩,c6.st hk (i:=i) (x:=l[j]) oM λw6 b6 d3=>?_⟩;have ei:Aa ((i:Int)+1)=((i+1:Nat):Int):=by rw[Ai oM (by unfold Ab at k4;omega)];omega
   rw[ei];refine kJ (i+1) w6 _ oM (by rw[ji,c9]) ?_ (by rw[qd oM,a7]) (b5.Z b6) d3;rw[c5,<-a6,dw (by rw[ji];omega),qa nR,ou];simp[a9]
  .have a9:d l[j]=true:=(by simpa using hd);refine kJ i w5 z oM c9 ?_ a7 b5 c6;rw[c5,<-a6];simp[a9]
 .have a0:j=l.length:=oM;subst a0;rw[eh]at a6 hi;have d8:i<l.length:=d2;have e1:(Sl.cut s (i:Int).toNat s.len 4).v= .slice (some ⟨g,i*4,none⟩) (l.length - i) (s.cap - i):=by unfold Sl.cut Sl.v;rw[dx,fa oM,ha,k1];simp only[jp,GN]
  rw[e1];refine⟨⟨oM,oM⟩,?_⟩;have d4:(z.map AW).flatten++tail=((z.take i).map AW).flatten++(((z.drop i).map AW).flatten++tail):=by
   conv=>lhs;rw[<-ga i z]
   rw[gb,kl,ff]
  unfold tv at a4;rw[d4]at a4;refine TV (k:=4) underlying53 Zno rfl (λv hv=>by simp[Value.cells]at hv;rcases hv with rfl|rfl|rfl|rfl<;>rfl) (by rw[CN _ hk,fg];omega) (by rw[du,CN _ hk,gh];omega) a4 λw3 back b3 a8=>⟨⟨oM,oM⟩,?_⟩;have s2:=b2.1;refine hR _ w3 ((b2.Z b3).below a5 hg) (λad h=>by rw[ha]at h;cases h;exact b2.Z b3) (λh=>by rw[ha]at h;cases h) (λad h=>⟨_,ha,by unfold Sl.cut at h;simp only[ha]at h;split at h<;>cases h<;>rfl⟩) ?_;have d1:(l.filter λx=>!d x).length<=l.length:=jf _ _;refine⟨by unfold Sl.cut;simp;exact hi,by unfold Sl.cut;show _<=s.cap - 0;omega,by unfold Sl.cut;show s.cap - 0<=_;omega,?_,.inr ⟨g,back,?_,hg,?_⟩⟩
  .have:=iu 40 d1;omega
  .show(if _ then _ else _)=_;split
   .exact ha
   .rw[ha,mq];rfl
  .rwa [<-a6]
def tq.tz{α:Type}{f:α->LV}{l:List α}(h:tq f bytes w lo s l)(hb:uv b w w')(hn:∀ad,s.a=some ad->ad.block≠b):tq f bytes w' lo s l:=by obtain⟨h1,h2,h3,h4,h5⟩:=h;refine⟨h1,h2,h3,h4,h5.imp id λ⟨g,tail,ha,hg,hr⟩=>⟨g,tail,ha,hg,hr.tz hb (hn _ ha)⟩⟩
structure ò(E:xn Stl)(T:LN)(w:PU)(lo:Nat)(p:LP)(S:Nat->Prop)(c:PC)(G:Ζ)(P:Ι)(tm:Option (Ε))(s:wv):Prop where
 box:AT w p c.c
 plo:lo<=p.block
 g:No uh w S c.u G
 pk:No wu w S c.ps P
 tm:ze w S tm c.ol
 lt:Old S w
 nS: ¬S p.block
 dr:∃D,OF ve 61 w lo D c.dr (s.By.map (Bh P))/\ ¬D p.block/\(∀ad,c.st.a=some ad-> ¬D ad.block)/\∀b,D b->S b\/p.block<b
 st:OF E T w lo se c.st s.done
 drP:∀ad,c.dr.a=some ad->ad.block≠p.block/\ ¬S ad.block
 stP:∀ad,c.st.a=some ad->ad.block≠p.block/\ ¬S ad.block
 apart:∀a b,c.dr.a=some a->c.st.a=some b->a.block≠b.block
section
variable {E:xn Stl} {T:LN} {w w':PU} {lo:Nat} {p:LP} {S:Nat->Prop} {c:PC} {G:Ζ} {P:Ι} {tm:Option (Ε)} {s:wv}
def ò.U(h:ò E T w lo p S c G P tm s)(hx:AI w w'):ò E T w' lo p S c G P tm s:=by obtain⟨D,h1,h2⟩:=h.dr;exact⟨h.box.U hx,h.plo,h.g.U hx,h.pk.U hx,h.tm.U hx,h.lt.U hx.size,h.nS,⟨D,h1.U hx,h2⟩,h.st.U hx,h.drP,h.stP,h.apart⟩
def ò.A(h:ò E T w lo p S c G P tm s)(hd:s.By.length<=1000)(hs:s.done.length*E.bytes<=Ab/\s.done.length<=maxLen):İ E w p (λb=>b<w.heap.size) c G P tm s:=by
 obtain⟨D,h1,_⟩:=h.dr;have r1:=h1.A (by rw[ec];show s.By.length*144<=Ab;unfold Ab;omega) (by rw[ec,Ao];omega);have r2:=h.st.A hs.1 hs.2;refine⟨h.box,h.g.O λb hb=>h.lt b hb,h.pk.O λb hb=>h.lt b hb,r1.O λb hb=>?_,r2.O λb hb=>?_,?_,λb hb=>hb⟩
 .rcases hb with hb|⟨ad,ha,rfl⟩
  .exact h1.lt b hb
  .exact(h1.block ha).2.1
 .rcases hb with hb|⟨ad,ha,rfl⟩
  .exact hb.F
  .exact(h.st.block ha).2.1
 .have ho:=h.tm;unfold ze at ho ⊢;split at ho
  .trivial
  .obtain⟨k1,so,k2,k3⟩:=ho;exact⟨h.lt _ k1,so,k2,k3.O λb hb=>h.lt b hb⟩
  .exact ho
def ze.sj(h:ze w S tm ol)(hk:ï S w w'):ze w' S tm ol:=by
 unfold ze at*;split at h
 .trivial
 .obtain⟨h1,so,h2,h3⟩:=h;exact⟨h1,so,h2.sj h1 hk,h3.sj hk⟩
 .exact h
structure Mv(lo:Nat)(p:LP)(c:PC)(w:PU)(c':PC)(w':PU):Prop where
 vh:Below lo w w'
 yo:∀b,b<w.heap.size->b≠p.block->(∀ad,c.dr.a=some ad->b≠ad.block)->(∀ad,c.st.a=some ad->b≠ad.block)->w'.heap[b]?=w.heap[b]?
 dr:∀ad,c'.dr.a=some ad->c.dr.a=some ad\/w.heap.size<=ad.block
 st:∀ad,c'.st.a=some ad->c.st.a=some ad\/w.heap.size<=ad.block
 same:c'={c with dr:=c'.dr,st:=c'.st}
def Mv.size{c':PC}(h:Mv lo p c w c' w'):w.heap.size<=w'.heap.size:=Below.size h.vh
def Mv.of{c:PC}(hx:AI w w')(hl:lo<=w.heap.size):Mv lo p c w c w':=⟨Below.O hx hl,λ_ hb _ _ _=>hx.block hb,λ_ h=>.inl h,λ_ h=>.inl h,rfl⟩
def Mv.Z{c1 c2:PC}{w1 w2:PU}(h:Mv lo p c w c1 w1)(k:Mv lo p c1 w1 c2 w2):Mv lo p c w c2 w2:=by
 have hs:=h.size;refine⟨Below.Z h.vh k.vh,λb hb h1 h2 h3=>?_,λad ha=>?_,λad ha=>?_,?_⟩
 .rw[k.yo b oM h1 (λad ha e=>?_) λad ha e=>?_,h.yo b hb h1 h2 h3]
  .obtain q|q:=h.dr ad ha
   .exact h2 ad q e
   .omega
  .obtain q|q:=h.st ad ha
   .exact h3 ad q e
   .omega
 .obtain q|q:=k.dr ad ha
  .exact h.dr ad q
  .right;omega
 .obtain q|q:=k.st ad ha
  .exact h.st ad q
  .right;omega
 .rw[k.same,h.same]
def Mv.box{c':PC}(h:Mv lo p c w c' w'){a:LP}(hb:AT w a cs)(h1:a.block≠p.block)(h2:∀ad,c.dr.a=some ad->a.block≠ad.block)(h3:∀ad,c.st.a=some ad->a.block≠ad.block):AT w' a cs:=
 hb.sj (S:=λb=>b≠p.block/\(∀ad,c.dr.a=some ad->b≠ad.block)/\∀ad,c.st.a=some ad->b≠ad.block) ⟨h1,h2,h3⟩ λb hb hl=>h.yo b hl hb.1 hb.2.1 hb.2.2
def ò.lo_le(h:ò E T w lo p S c G P tm s):lo<=w.heap.size:=by have:=h.plo;have:=h.box.lt;omega
def ò.mv{c':PC}(h:ò E T w lo p S c G P tm s)(k:Mv lo p c w c' w'):ï S w w':=λb hb hl=>k.yo b hl (λe=>h.nS (e▸hb)) (λad ha e=>(h.drP ad ha).2 (e▸hb)) λad ha e=>(h.stP ad ha).2 (e▸hb)
def ò.Xc8{Q:Nat->Prop}{a:LP}{x:Dr}{K:Wp}(h:ò E T w lo p S c G P tm s)(hx:ve.rep w Q (Bh P x) cs)(hc:sh w a cs)
  (hQ:∀b,Q b->b<w.heap.size/\b≠p.block/\(∀ad,c.dr.a=some ad->b≠ad.block)/\(∀ad,c.st.a=some ad->b≠ad.block)/\(S b\/p.block<b)) (hl:s.By.length<=1000)
  (hk:∀r w',ò E T w' lo p S {c with dr:=r} G P tm ⟨s.By++[x],s.done⟩->Mv lo p c w {c with dr:=r} w'->K w'):
  uc prog 38 38 c.dr (Sl.v ⟨some a,1,1⟩) w λt w1=>∃p1:LP,some p=some p1/\ry w1 (p1.add 7) [t.v] K:=by
 obtain⟨D,o,a6,a9,a8⟩:=h.dr;have b5:=h.box.lt;refine o.push Tz h.lo_le hx hc (λb hb=>(hQ b hb).1) (λad ha hb=>(hQ _ hb).2.2.1 ad ha rfl) (by rw[ec];show _*144<=Ab;unfold Ab;omega) (by rw[ec,Ao];omega) λr w1 o1 vh yo a5=>⟨p,rfl,?_⟩;have b6:=Below.size vh;have b0:AT w1 p c.c:=h.box.sj (S:=λb=>∀ad,c.dr.a=some ad->b≠ad.block) (λad ha e=>(h.drP ad ha).1 e.H) λb hb hl=>yo b hl hb;refine ry.intro (tm:=c.c) b0 (o:=7) (by show 7+1<=9;omega) λw2 b2 b8 b4=>?_;have b7:=b2.1;have a0:∀b,b<w.heap.size->b≠p.block->(∀ad,c.dr.a=some ad->b≠ad.block)->w2.heap[b]?=w.heap[b]? :=λb hb h1 h2=>(b2.2.2.2.2 b oM h1).Z (yo b hb h2);have mv:Mv lo p c w {c with dr:=r} w2:=⟨Below.Z vh (b2.below (by have:=h.lo_le;omega) h.plo),λb hb h1 h2 _=>a0 b hb h1 h2,a5,λ_ h=>.inl h,rfl⟩;have a4:=h.mv mv;have a7:∀ad,r.a=some ad->ad.block≠p.block/\ ¬S ad.block:=λad ha=>by
  obtain q|q:=a5 ad ha
  .exact h.drP ad q
  .exact⟨oM,λhS=>by have:=h.lt _ hS;omega⟩
 refine hk r w2 ⟨b4,h.plo,h.g.sj a4,h.pk.sj a4,h.tm.sj a4,λb hb=>by have:=h.lt b hb;omega,h.nS,⟨λb=>D b\/Q b,?_,λhb=>?_,λad ha hb=>?_,λb hb=>?_⟩,?_,a7,h.stP,λu v hu hv=>?_⟩ mv
 .have:=o1.tz b2 (λhb=>?_) λad ha=>Ne.H (a7 ad ha).1
  .rw[<-List.map_singleton (f:=Bh P),<-gb]at this;exact this
  .obtain hb|hb:=hb
   .exact a6 hb
   .exact(hQ _ hb).2.1 rfl
 .obtain hb|hb:=hb
  .exact a6 hb
  .exact(hQ _ hb).2.1 rfl
 .obtain hb|hb:=hb
  .exact a9 ad ha hb
  .exact(hQ _ hb).2.2.2.1 ad ha rfl
 .obtain hb|hb:=hb
  .exact a8 b hb
  .exact(hQ b hb).2.2.2.2
 .refine h.st.sj mv.size λb hb hq=>?_;rcases hq with hq|⟨ad,ha,rfl⟩
  .exact hq.F
  .exact a0 _ hb (h.stP ad ha).1 λd hd e=>h.apart d ad hd ha e.H
 .obtain q|q:=a5 u hu
  .exact h.apart u v q hv
  .have:=(h.st.block hv).2.1;omega
def ò.Xck{a:LP}{x:Stl}{K:Wp}(h:ò E T w lo p S c G P tm s)(hT:Bk prog t T E.n E.bytes)(hx:∀w,E.rep w se x cs)(b5:∀{w S S' x cs},E.rep w S x cs->E.rep w S' x cs)(hc:sh w a cs)(hl:(s.done.length+1)*E.bytes<=Ab/\s.done.length+1<=maxLen)
  (hk:∀r w',ò E T w' lo p S {c with st:=r} G P tm ⟨s.By,s.done++[x]⟩->Mv lo p c w {c with st:=r} w'->(∀b,b<w.heap.size->b≠p.block->(∀ad,c.st.a=some ad->b≠ad.block)->w'.heap[b]?=w.heap[b]?)->K w'):
  uc prog t t c.st (Sl.v ⟨some a,1,1⟩) w λt w1=>∃p1:LP,some p=some p1/\ry w1 (p1.add 8) [t.v] K:=by
 obtain⟨D,o,a6,a7,a9⟩:=h.dr;have b6:=h.box.lt;refine h.st.push hT h.lo_le (hx w) hc (λb hb=>hb.F) (λad ha hb=>hb) hl.1 hl.2 λr w1 o1 vh yo a4=>⟨p,rfl,?_⟩;have o1:=o1.flat b5;have b7:=Below.size vh;have b0:AT w1 p c.c:=h.box.sj (S:=λb=>∀ad,c.st.a=some ad->b≠ad.block) (λad ha e=>(h.stP ad ha).1 e.H) λb hb hl=>yo b hl hb;refine ry.intro (tm:=c.c) b0 (o:=8) (by show 8+1<=9;omega) λw2 b2 b9 b4=>?_;have b8:=b2.1;have a0:∀b,b<w.heap.size->b≠p.block->(∀ad,c.st.a=some ad->b≠ad.block)->w2.heap[b]?=w.heap[b]? :=λb hb h1 h2=>(b2.2.2.2.2 b oM h1).Z (yo b hb h2);have mv:Mv lo p c w {c with st:=r} w2:=⟨Below.Z vh (b2.below (by have:=h.lo_le;omega) h.plo),λb hb h1 _ h3=>a0 b hb h1 h3,λ_ h=>.inl h,a4,rfl⟩;have a5:=h.mv mv;have a8:∀ad,r.a=some ad->ad.block≠p.block/\ ¬S ad.block:=λad ha=>by
  obtain q|q:=a4 ad ha
  .exact h.stP ad q
  .exact⟨oM,λhS=>by have:=h.lt _ hS;omega⟩
 refine hk r w2 ⟨b4,h.plo,h.g.sj a5,h.pk.sj a5,h.tm.sj a5,λb hb=>by have:=h.lt b hb;omega,h.nS,⟨D,?_,a6,λad ha hb=>?_,a9⟩,o1.tz b2 (λh=>h) λad ha=>Ne.H (a8 ad ha).1,h.drP,a8,λu v hu hv=>?_⟩ mv a0
 .refine o.sj mv.size λb hb hq=>?_;rcases hq with hq|⟨ad,ha,rfl⟩
  .exact a0 b hb (λe=>a6 (e▸hq)) λd hd e=>a7 d hd (e▸hq)
  .exact a0 _ hb (h.drP ad ha).1 λd hd e=>h.apart ad d ha hd e
 .obtain q|q:=a4 ad ha
  .exact a7 ad q hb
  .have:=o.lt _ hb;omega
 .obtain q|q:=a4 v hv
  .exact h.apart u v hu q
  .have:=(o.block hu).2.1;omega
end
def xi.Xbu{s:wv}(h:xi g s a):∀(i:Nat)(d:Dr),s.By[i]?=some d->d.BY.length<=i:=λi=>by
 induction i using Nat.strongRecOn with
 |ind i ih=>
  intro d hd;by_cases h0:d.BY=[]
  .rw[h0];exact ib _
  .obtain⟨j,h1,h2⟩:=h.up i d _ _ hd (List.dropLast_concat_getLast h0).H;obtain⟨e,h3,h4⟩:=EF h2;have:=ih j h1 e h3;rw[h4,List.length_dropLast]at this;have:=my.2 h0;omega
def OF.Xcb{T:LN}{l:List Pr}(h:OF vr T w lo se s l)(hl:l.length<=5000000000000):No vr w (λb=>lo<=b/\b<w.heap.size) s l:=
 (h.A (by show l.length*16<=Ab;unfold Ab;omega) (by rw[Ao];omega)).O λb hb=>by
  rcases hb with hb|⟨ad,ha,rfl⟩
  .exact hb.F
  .have:=h.block ha;exact⟨this.1,this.2.1⟩
def Zdx{l:LQ}{q:Edge->Bool}{R:È}(hs:No xu w S s l)
  (hf:∀x∈l,∀w' (k:Ë),AI w w'->(∀a4,AI w' a4->k (.bool (q x)) a4)->un prog f [.agg #[.string x.Y,vi x.to]] w' k)
  (hR:∀w',AI w w'->R (AV q l) w'):ML s f w R:=by
 unfold ML;have hl:=hs.len;refine Of.up hs.max (λi w'=>AI w w'/\(l.take i).any q=false) ⟨AI.refl _,rfl⟩ λi w1 a7 hi ⟨x1,hI⟩ hn=>⟨λa5=>?_,λa6=>?_⟩
 .have a0:i<l.length:=oM;obtain⟨ad,ha,_,hc⟩:=Cz hs a0;refine⟨ad,⟨ha,oM,a5⟩,_,_,hc _ x1,hf _ (fe a0) _ _ x1 λw2 x2=>⟨_,rfl,λh=>?_,λh=>?_⟩⟩
  .rw[<-F5 a0 hI h];exact hR _ (x1.Z x2)
  .exact hn a0 _ ⟨x1.Z x2,by rwa [FJ a0 hI]⟩
 .have:i=l.length:=oM;rw[this,eh]at hI;rw[<-EL hI];exact hR _ x1
def Uy{x:rz}{n:Pr}:Iz g x n=(x.sq.find? λe=>decide (e.Y=n)).bind λe=>g[e.to.toNat]? :=rfl
def rW{α:Type}:Result α->PU
 | .ok _ w=>w
 | .halt _ w=>w
def YX{α:Type}(w:PU)(a:Ask α):w.drawn<=(w.ask a).2.drawn:=by
 fun_induction World.ask w a with
 |case1=>exact fx _
 |case2 w a0 range k q h ih=>exact ih
 |case3 w a0 range k q h ih=>exact fj (Nat.le_succ _) ih
def XE(w:PU)(c:Sys):w.drawn<=(w.sys c).2.drawn:=by
 have h:=YX w (Kernel.perform c w.os);unfold World.sys;split
 .exact fx _
 .rename_i r os w' hr;rw[hr]at h;exact h
def Zm1{at_:LP}{u:LN}{k:LP}{v:HT}{b:Bool}{l:List LP}(h:w.viewStore p at_ u k v b= .ok (w',l)):w'.drawn=w.drawn:=by
 unfold World.viewStore at h;simp only[bind,Except.bind,pure,Except.pure,throw,throwThe,MonadExceptOf.throw]at h
 repeat' first
  |(simp at h;done)
  |(simp only[Except.ok.injEq,Prod.mk.injEq]at h;obtain⟨rfl,_⟩:=h;rfl)
  |split at h
def Zc0{a:LP}{v:HT}{b:Bool}{l:List LP}(h:w.farStore p a v b= .ok (w',l)):w'.drawn=w.drawn:=by
 unfold World.farStore at h;split at h
 .split at h
  .rename_i r hr;simp only[Except.ok.injEq]at h;subst h;exact Zm1 hr
  .cases h
 .cases h
def Zj4(w:PU)(a:LP)(v:HT):(w.setCell a v).drawn=w.drawn:=by
 unfold World.setCell
 repeat' first|rfl|split
def Zdc(w:PU)(a:LP)(n:Nat):(w.freeze a n).drawn=w.drawn:=by
 unfold World.freeze
 repeat' first|rfl|split
def OZ{α:Type}(p:LD)(s:Sem α)(w:PU):w.drawn<=(rW (s.run p w)).drawn:=by
 fun_induction Sem.run p s w
 all_goals first
  |exact fx _
  |assumption
  |skip
 all_goals try (rename_i ih;rw[Zj4]at ih;exact ih)
 all_goals try (rename_i ih;rw[Zdc]at ih;exact ih)
 all_goals try (rename_i ih;exact fj (Nat.le_succ _) ih)
 all_goals try (rename_i ih;exact fj (XE _ _) ih)
 all_goals try (rename_i h ih;have:=Zc0 h;omega)
 all_goals skip
def Zjt{α:Type}(p:LD)(s:Sem α)(w:PU)(es:Array Event):w.drawn<=(rW (s.runT p w es).1).drawn:=by rw[Sem.runT_fst];exact OZ p s w
def gD(n:Nat):GStep->Prop
 | .go _ w _| .comm _ _ _ _ w _| .spawn _ _ w _| .count _ w _| .timer _ _ w _| .alone _ _ w _| .newcoro _ _ _ w _| .coroswitch _ _ _ w _| .collect _ w _| .watch _ w _| .ended _ w _=>n<=w.drawn
def KD{s:GStep}(h:gD n s):gD n (GStep.after es s):=by cases s<;>exact h
def Zbf(h:n<=w.drawn)(fd:Nat)(text:Pr)(o:Outcome):gD n (endWith w fd text o):=by
 have h1:=XE w (.write fd text);unfold endWith;simp only[];split
 all_goals (rename_i hs;rw[hs]at h1)
 .split<;>exact fj h h1
 .exact fj h h1
 .exact fj h h1
def QD(h:n<=w.drawn)(fr:Frame)(m:String):gD n (endThrow fr m w):=h
def QC(h:n<=w.drawn)(p:LD)(fr:Frame)(v:HT):gD n (endPrinting p fr v w):=by unfold endPrinting;simp only[];split<;>exact h
def rD{α:Type}{s:Sem α}{a:α}(h:s.run p w= .ok a w'):w.drawn<=w'.drawn:=by have:=OZ p s w;rw[h]at this;exact this
def FD{α:Type}{s:Sem α}{x:Halt}(h:s.run p w= .halt x w'):w.drawn<=w'.drawn:=by have:=OZ p s w;rw[h]at this;exact this
def Uz(h:n<=w.drawn)(p:LD)(fr:Frame)(a0:List Frame)(d:Option Dying)(m:String):gD n (endFatal p fr a0 d m w):=by
 unfold endFatal;simp only[];split
 .rename_i hr;exact fj h (rD hr)
 .rename_i hr;exact fj h (FD hr)
 .rename_i hr;exact fj h (FD hr)
def tD{α:Type}{s:Sem α}{a:α}(h:(s.runT p w es).1= .ok a w'):w.drawn<=w'.drawn:=by rw[Sem.runT_fst]at h;exact rD h
def Ff{α:Type}{s:Sem α}{x:Halt}(h:(s.runT p w es).1= .halt x w'):w.drawn<=w'.drawn:=by rw[Sem.runT_fst]at h;exact FD h
def Znm(h:n<=w.drawn)(p:LD)(fr:Frame)(d:Dying)(f:Fatal):gD n (writeOn p fr d f w):=by
 unfold writeOn;simp only[];split
 .exact h
 .split
  all_goals (rename_i hr;have hr:=jt Prod.fst hr)
  .exact fj h (tD hr)
  .exact fj h (Ff hr)
  .exact fj h (Ff hr)
  .exact fj h (Ff hr)
def Zao(h:n<=w.drawn)(p:LD)(fr:Frame)(d:Dying):gD n (die p fr d w):=by
 unfold die;simp only[]
 repeat' first
  |exact h
  |exact Znm h _ _ _ _
  |exact Zbf h _ _ _
  |exact QC h _ _ _
  |apply KD
  |(rename_i hr;exact fj h (rD hr))
  |(rename_i hr;exact fj h (FD hr))
  |(rename_i hr;exact fj h (tD hr))
  |(rename_i hr;exact fj h (Ff hr))
  |(rename_i hr;exact QC (fj h (Ff hr)) _ _ _)
  |split
 all_goals skip
def NZ(h:n<=w.drawn)(p:LD)(a5:Bool)(fr:Frame)(a0:List Frame)(a4:Option Dying)(v:HT):gD n (doReturn p a5 fr a0 a4 v w):=by
 unfold doReturn;simp only[]
 repeat' first
  |exact h
  |split
def Zo(h:n<=w.drawn)(p:LD)(fr:Frame)(a0:List Frame)(a4:Option Dying)(d:Deferred):gD n (callDeferred p fr a0 a4 d w):=by
 unfold callDeferred;simp only[]
 repeat' first
  |exact h
  |apply KD
  |exact fj h (tD (by assumption))
  |exact fj h (Ff (by assumption))
  |exact Uz (fj h (Ff (by assumption))) _ _ _ _ _
  |exact QD (fj h (Ff (by assumption))) _ _
  |split
def Zmb(h:n<=w.drawn)(p:LD)(a5:Bool)(fr:Frame)(a0:List Frame)(a4:Option Dying):gD n (unwind p a5 fr a0 a4 w):=by
 unfold unwind;simp only[]
 repeat' first
  |exact h
  |exact Zo h _ _ _ _ _
  |exact QC h _ _ _
  |exact NZ h _ _ _ _ _ _
  |apply KD
  |(rename_i hr;exact fj h (rD hr))
  |(rename_i hr;exact fj h (FD hr))
  |(rename_i hr;exact fj h (tD hr))
  |(rename_i hr;exact fj h (Ff hr))
  |(rename_i hr;exact NZ (fj h (tD hr)) _ _ _ _ _ _)
  |split
def Zaw(h:n<=w.drawn)(p:LD)(fr:Frame)(a0:List Frame)(a4:Option Dying)(g:Nat):gD n (early p fr a0 a4 g w):=by
 unfold early;simp only[]
 repeat' first
  |exact h
  |exact fj h (rD (by assumption))
  |exact fj h (FD (by assumption))
  |(simp only[gD];exact fj h (rD (by assumption)))
  |split
def PT(h:n<=w.drawn)(p:LD)(a0:Bool)(fr:Frame)(a4:List Frame)(a5:Option Dying)(s:Sem Next):gD n (stepG.apply p a0 fr a4 a5 s w):=by
 unfold stepG.apply;simp only[];apply KD;have hk:w.drawn<=(rW (if a0=true then s.runT p w #[]else(s.run p w,#[])).1).drawn:=by
  split
  .exact Zjt _ _ _ _
  .exact OZ _ _ _
 revert hk;generalize (if a0=true then s.runT p w #[]else(s.run p w,#[])).1=r;intro hk
 repeat' first
  |exact fj h hk
  |exact Uz (fj h hk) _ _ _ _ _
  |exact Zaw (fj h hk) _ _ _ _ _
  |exact QD (fj h hk) _ _
  |split
def Zbc{α:Type}{o:Option α}{d:GStep}{f:α->GStep}(h:gD n d)(hf:∀x,gD n (f x)):gD n (o.F d f):=by
 cases o with
 |none=>exact h
 |some x=>exact hf x
def Zgm(h:n<=w.drawn)(p:LD)(a4:Bool)(fr:Frame)(a0:List Frame)(a5:Option Dying):gD n (stepG.oper p a4 fr a0 a5 w):=by
 unfold stepG.oper
 repeat' first
  |exact h
  |exact PT h _ _ _ _ _ _
  |split
def Zcg(h:n<=w.drawn)(p:LD)(a6 a4:Bool)(fr:Frame)(a0:List Frame)(a5:Option Dying):gD n (stepG.exec p a6 a4 fr a0 a5 w):=by
 unfold stepG.exec;simp only[]
 repeat' first
  |exact h
  |exact PT h _ _ _ _ _ _
  |exact PT (fj h (tD (by assumption))) _ _ _ _ _ _
  |exact Zgm h _ _ _ _ _
  |exact NZ h _ _ _ _ _ _
  |exact NZ (fj h (tD (by assumption))) _ _ _ _ _ _
  |exact fj h (tD (by assumption))
  |exact fj h (Ff (by assumption))
  |exact fj h (rD (by assumption))
  |exact fj h (FD (by assumption))
  |apply KD
  |refine Zbc ?_ λ_=>?_
  |split
def Zlb(p:LD)(a4:Bool)(g:Goroutine)(w:PU)(a0:Bool):gD w.drawn (stepG p a4 g w a0):=by
 unfold stepG;simp only[]
 repeat' first
  |exact Zao nR _ _ _
  |exact Zcg nR _ _ _ _ _ _
  |exact Zmb nR _ _ _ _ _
  |split
def sD(n:Nat)(s:Stepped):Prop:=∀m,s= .next m->n<=m.world.drawn
def Zm2{sy:Go.Rest}{cases:Array CommCase}(h:waitingAt sy cases w=some w'):w'.drawn=w.drawn:=by
 unfold waitingAt at h
 repeat' first
  |(simp at h;done)
  |(simp only[eu]at h;subst h;rfl)
  |split at h
def ZI(h:n<=w.drawn)(p:LD)(sy:Go.Rest)(gs:Array Goroutine)(i:Nat)(g:Goroutine)(cases:Array CommCase)(a0:Bool)(a4:CommShape):sD n (communicate p sy gs i g cases a0 a4 w).1:=by
 intro m' h';unfold communicate at h';simp only[]at h'
 repeat' first
  |(simp at h';done)
  |(simp only[Stepped.next.injEq]at h';subst h';simp only[];first|exact h|exact fj h (rD (by assumption))|exact fj h (FD (by assumption))|exact fj h (fj (rD (by assumption)) (FD (by assumption)))|exact fj h (Nat.le_of_eq (Zm2 (by assumption)).H)|exact fj (fj h (rD (by assumption))) (rD (s:=choose _) (by assumption))|skip)
  |split at h'
 all_goals skip
def V4(h:n<=w.drawn)(p:LD)(gs:Array Goroutine)(sy:Go.Rest):sD n (Go.look p gs sy w):=by
 intro m' h';unfold Go.look at h';simp only[]at h'
 repeat' first
  |(simp at h';done)
  |(simp only[Stepped.next.injEq]at h';subst h';simp only[];first|exact h|exact fj h (rD (by assumption))|skip)
  |split at h'
 all_goals skip
def Zat(w:PU)(c:Nat):(drain w c).2.drawn=w.drawn:=by unfold drain;split<;>rfl
def WM(m:Machine)(k:Nat)(t:Timer)(a b:Nat):(retime m k t a b).2.world.drawn=m.world.drawn:=by unfold retime;simp only[];split<;>simp[Zat]
def Zgl{a:LP}(h:timerOp.opened m a=some m'):m'.world.drawn=m.world.drawn:=by
 unfold timerOp.opened at h
 repeat' first
  |(simp at h;done)
  |(simp only[eu]at h;subst h;rfl)
  |split at h
def VT{m0:Machine}{a:LP}{f:Nat->Timer->HT×Machine}{v:HT}(hf:∀k t,n<=(f k t).2.world.drawn)(h:timerOp.named m0 a f= .ok (v,m')):n<=m'.world.drawn:=by
 unfold timerOp.named at h;split at h
 .rename_i k hk;have:=hf k (m0.rest.timers.getD k default);simp only[Except.ok.injEq]at h;rw[h]at this;exact this
 .cases h
def XL(h:n<=m.world.drawn)(op:TimerOp){v:HT}(h':timerOp m op= .ok (v,m')):n<=m'.world.drawn:=by
 unfold timerOp at h';simp only[]at h'
 repeat' first
  |(simp at h';done)
  |(simp only[Except.ok.injEq,Prod.mk.injEq]at h';obtain⟨_,rfl⟩:=h';exact h)
  |(refine VT (n:=n) (λk t=>?_) h';rwa [WM])
  |(refine VT (n:=n) (λk t=>?_) h';rwa [WM,Zgl (by assumption)])
  |split at h'
 all_goals skip
def Zju(p:LD)(m:Machine)(i:Nat)(b:Bool):sD m.world.drawn (runT p m i b).1:=by
 intro m' h;simp only[runT]at h;revert h;generalize m.gs.swapAt! _ _=gg;have hg:=Zlb p (i==0) gg.1 m.world b;revert hg;generalize stepG p _ gg.1 m.world b=s;intro hg h;cases s<;>simp only[]at h
 all_goals first
  |(simp at h;done)
  |exact ZI hg _ _ _ _ _ _ _ _ _ h
  |exact V4 hg _ _ _ _ h
  |(simp only[Stepped.next.injEq]at h;subst h;exact hg)
  |(repeat' first
    |(simp at h;done)
    |(simp only[Stepped.next.injEq]at h;subst h;exact hg)
    |(simp only[Stepped.next.injEq]at h;subst h;rename_i hq;refine XL (n:=m.world.drawn) ?_ _ hq;exact hg)
    |(simp only[Stepped.next.injEq]at h;subst h;rename_i hq;have:=jt (gD m.world.drawn) hq;exact this.mp (QD hg _ _))
    |split at h)
 all_goals (simp only[Stepped.next.injEq]at h;subst h;rename_i hq;have hz:=XL (n:=m.world.drawn) (m:={world:=_,gs:=_,rest:=_}) (by exact hg) _ hq;exact hz)
def Zj2(h:n<=m.world.drawn)(p:LD)(k:Nat):sD n (serve p m k):=by
 intro m' h';unfold serve at h';simp only[]at h'
 repeat' first
  |(simp at h';done)
  |(simp only[Stepped.next.injEq]at h';subst h';exact h)
  |split at h'
def mD(n:Nat):Move->Prop
 | .goroutine m _=>n<=m.world.drawn
 | .machine s _=>sD n s
def QE{o:Outcome}:sD n (.ended o w):=λ_ h=>by cases h
def Cg{α:Type}{s:Sem α}{a:α}(h:s.run p w= .ok a w')(k:n<=w.drawn):n<=w'.drawn:=fj k (rD h)
def WC{α:Type}{s:Sem α}{t:Nat}{a:α}(h:s.run p (m.advanceTo t).world= .ok a w')(k:n<=m.world.drawn):n<=w'.drawn:=fj k (rD (w:=(m.advanceTo t).world) h)
def PW(h:n<=m.world.drawn)(p:LD):mD n (askOn p m):=by
 unfold askOn;simp only[]
 repeat' first
  |exact QE
  |exact h
  |exact Zj2 (fj h (rD (by assumption))) _ _
  |((try simp only[mD]);first|exact Cg (by assumption) h|exact Cg (by assumption) (Cg (by assumption) h)|exact Cg (by assumption) (Cg (by assumption) (Cg (by assumption) h))|exact Cg (by assumption) (Cg (by assumption) (Cg (by assumption) (Cg (by assumption) h)))|(refine WC (by assumption) ?_;exact Cg (by assumption) (Cg (by assumption) h))|(refine Cg (by assumption) (WC (by assumption) ?_);exact Cg (by assumption) (Cg (by assumption) h)))
  |(intro m' h';simp only[Stepped.next.injEq]at h';subst h';simp only[Machine.advanceTo];first|exact Cg (by assumption) h|exact Cg (by assumption) (Cg (by assumption) h))
  |split
 all_goals skip
def T6(h:n<=m.world.drawn)(p:LD):mD n (ask p m):=by
 unfold ask
 repeat' first
  |exact PW h p
  |exact PW (m:=Machine.mk _ _ _) (Cg (by assumption) h) p
  |exact PW (V4 (Cg (by assumption) h) _ _ _ _ (by assumption)) p
  |exact QE
  |(intro m' h';exact(‹∀a0:Machine,Go.look _ _ _ _=Stepped.next a0->False› m' h').F)
  |split
def Zf3(h:n<=m.world.drawn)(p:LD):mD n (move p m):=by
 unfold move
 repeat' first
  |exact QE
  |exact h
  |exact T6 h p
  |(refine T6 ?_ p;exact h)
  |split
def Zlc(p:LD)(m m':Machine)(h:step p m= .next m'):m.world.drawn<=m'.world.drawn:=by
 have hm:=Zf3 (fx m.world.drawn) p;unfold step stepT at h;split at h
 .rename_i m1 i he;rw[he]at hm;exact fj hm (Zju p m1 i _ _ h)
 .rename_i s ops he;rw[he]at hm;exact hm _ h
def Zlf(h:Steps p m m'):m.world.drawn<=m'.world.drawn:=by
 obtain⟨n,hn⟩:=h;induction n generalizing m with
 |zero=>simp[runN]at hn;rw[hn];exact fx _
 |succ n ih=>
  simp only[runN]at hn;cases hs:step p m with
  |next m1=>rw[hs]at hn;exact fj (Zlc _ _ _ hs) (ih hn)
  |ended o w=>rw[hs]at hn;simp at hn
def Zr{P:LD}{f:OK}{args:Γ}{R:Ending->Wp}(h:Calls P f args w R):Calls P f args w λe w'=>R e w'/\(∀v,e= .returned v->w.drawn<=w'.drawn):=λcs=>by obtain⟨e,w',fr,hR,hc,hf,hl⟩:=h cs;refine⟨e,w',fr,⟨hR,λv hv=>?_⟩,hc,hf,hl⟩;subst hv;exact Zlf hc
end Go.Hal
namespace Go.Hal
open Go.Sort
def AI.gr(h:AI w w')(hd:w.drawn<=w'.drawn):Gr w w':=by
 obtain⟨h1,h2,h3,h4,h5⟩:=h;refine⟨w'.drawn - w.drawn,w'.heap.extract w.heap.size w'.heap.size,?_⟩;have hh:w'.heap=w.heap++w'.heap.extract w.heap.size w'.heap.size:=by
  apply Array.ext_getElem?;intro i;obtain hi|hi:=rt i w.heap.size
  .rw[jz hi];exact h5 i hi
  .rw[Array.getElem?_append_right hi,Array.getElem?_extract];split
   .congr 1;omega
   .rw[Array.getElem?_eq_none oM]
 have a0:w'.drawn=w.drawn+(w'.drawn - w.drawn):=oM;obtain⟨hp,tp,dr,os,sw⟩:=w';simp only at h1 h2 h3 hh a0;subst h1 h2 h3;unfold grow World.drewN;simp only[World.mk.injEq,and_true,true_and];exact⟨hh,a0⟩
structure ż where
 ps:Sl
 nm:Pr
 ma:Int
 mi:Int
 pa:Int
 d:Sl
 e:Sl
 o:Sl
 nd:Int
def EC(x:ż):LV:=[x.ps.v,.string x.nm,vi x.ma,vi x.mi,vi x.pa,x.d.v,x.e.v,x.o.v,vi x.nd]
def Ih(a b:uf):Int:=Ii (AH a) (AH b)
def ŕ:wg Ih:=ń.Ġ AH
def ü(w:PU)(S:Nat->Prop)(y:ż×uf):Prop:=ve.rep w S y.2 (EC y.1)/\y.2.BY.length<=4000000000000
abbrev SU(w:PU)(S:Nat->Prop):Type:={y:ż×uf//ü w S y}
def Qz(y:SU w S):LV:=EC y.1.1
def X9{α:Type}{P:α->Prop}:∀(l:List α),(∀i∈l,P i)->∃z:List {i:α//P i},z.map Subtype.val=l
 | [],_=>⟨[],rfl⟩
 |i::l,h=>by obtain⟨z,hz⟩:=X9 l λj hj=>h j (.tail _ hj);exact⟨⟨i,h i (.head _)⟩::z,by rw[io,hz]⟩
def Zeb:∀w,(isAgg 61).run prog w= .ok true w:=λw=>by kernel_rfl
def Zkb:∀w,(Go.sizeOf 61).run prog w= .ok 9 w:=λw=>by kernel_rfl
def tv.same{α β:Type}{f:α->LV}{h:β->LV}{g:Nat}{l:List α}{m:List β}{tail:LV}(k:tv f w g l tail)(e:l.map f=m.map h):tv h w g m tail:=by unfold tv at*;rw[<-e];exact k
def Zkk{gf:Nat}{Q:Nat->Prop}{l:Ε}(h:OF ve 61 w lo Q s l)(b2:lo<=w.heap.size)(hl:l.length<=1000000)(hb:∀d∈l,d.BY.length<=4000000000000)
  (eg:∀args w,(callFunc gf args).run prog w= .ok (.enter gf args) w)
  (a6:∀(w0:PU)(S:Nat->Prop)(x y:ż×uf),ü w0 S x->ü w0 S y->Calls prog gf #[.agg (EC x.1).toArray,.agg (EC y.1).toArray] w0 λe w'=>e= .returned (vi (Ih x.2 y.2))/\AI w0 w')
  (hK:∀(l':Ε) w',l'.Perm l->l'.Pairwise (λx y=>¬Ih y x<0)->Below lo w w'->(∀b,b<w.heap.size->(∀ad,s.a=some ad->b≠ad.block)->w'.heap[b]?=w.heap[b]?)->No ve w' (λb=>Q b\/∃ad,s.a=some ad/\b=ad.block) s l'->K (.tuple #[]) w'):
  sx prog 64 [s.v,.func (.func gf) #[] #[]] w K:=by
 have b8:=h.A (by show l.length*144<=Ab;unfold Ab;omega) (by rw[Ao];omega);rcases h.Xbv EC (λy x=>ü w Q (y,x)\/ ¬x.BY.length<=4000000000000) (λx cs hr=>by
  have b6:=hr;obtain⟨h0,ps,d,e,o,rfl,r⟩:=hr;refine⟨⟨ps,_,_,_,_,d,e,o,_⟩,rfl,?_⟩;by_cases hx:x.BY.length<=4000000000000
  .exact .inl ⟨b6,hx⟩
  .exact .inr hx)with⟨rfl,rfl⟩|⟨g,z,tail,hsa,hg,hzl,hzr,hrow,hc,hm⟩
 .refine(AnyF.slices_SortFunc_none Tryz.Xby none 0 _ w).O λe w' ⟨he,hw⟩=>⟨_,he,?_⟩;subst hw;exact hK [] _ (jr _) .nil (Below.refl _ _) (λ_ _ _=>rfl) b8
 .obtain⟨a,n,c⟩:=s;simp only at hsa hc hm;have a7:=h.len;simp only at a7;subst hsa a7;have a5: ¬Q g:=h.apart _ rfl;obtain⟨zv,a4⟩:=X9 (P:=ü w Q) z λp hp=>by
   obtain h1|h1:=hzr p hp
   .exact h1
   .exact fm (hb p.2 (by rw[<-hzl];exact ja hp)) h1
  have a8:zv.length=l.length:=by rw[<-hzl,<-a4,ec,ec]
  haveI:Inhabited (SU w Q):=⟨⟨(⟨Sl.nil,⟨#[]⟩,0,0,0,Sl.nil,Sl.nil,Sl.nil,0⟩,⟨[],Ay,0⟩),RJ,ib _⟩⟩
  have a0:tv (Qz (w:=w) (S:=Q)) w g zv tail:=hrow.same (by rw[<-a4,jh,jh];rfl);rw[<-a8];refine FH Tryz.Xby (k:=9) Zeb Zkb (f:=Qz (w:=w) (S:=Q)) (λ_=>rfl) (λx v hv=>by simp[Qz,EC,Sl.v]at hv;rcases hv with rfl|rfl|rfl|rfl|rfl|rfl|rfl|rfl|rfl<;>rfl) (λa b=>Ih a.1.2 b.1.2) (Fe (λx y=>ŕ.flip _ _) (λx y z=>ŕ.Z _ _ _)) gf #[] eg (λw0 x y a9 _=>?_) a0 oM rfl λl' w' hp hs b b5=>?_
  .have k:ï Q w w0:=a9.sj a5;refine(Zr (a6 w0 Q x.1 y.1 ⟨ve.sj x.2.1 k,x.2.2⟩ ⟨ve.sj y.2.1 k,y.2.2⟩)).O λe w' ⟨⟨he,hx⟩,hd⟩=>⟨he,hx.gr (hd _ he)⟩
  .have k:ï Q w w':=b.sj a5;refine hK ((l'.map Subtype.val).map Prod.snd) w' ?_ ?_ (b.below b2 hg) (λc hc b4=>b.2.2.2.2 c hc (b4 _ rfl)) ?_
   .rw[<-hzl,<-a4];exact(hp.map _).map _
   .rwa [jb,jb]
   .have b7:tv EC w' g ((l'.map Subtype.val).map Prod.fst) tail:=b5.same (by rw[jh,jh];rfl);have b0:l'.length=zv.length:=hp.length_eq;have:=tv.A (E:=ve) (S:=Q) (cap:=c) b7 (λ_=>rfl) (λp hp=>by obtain⟨q,_,rfl⟩:=ij.1 hp;exact ve.sj q.2.1 k) (by rw[ec];omega) hm (by rw[ec];show _*144<=Ab;unfold Ab;omega);rw[ec,b0,a8]at this;exact this.O λb hb=>hb.imp id λe=>⟨⟨g,0,none⟩,rfl,e⟩
end Go.Hal
namespace Go.Hal
def ur.Ŗ(h:ur g ps)(k:Nat):(A2 g k).length<=g.length:=by
 unfold A2;split
 .rename_i x hx;have:=LJ (h.py k x hx).sq.nodup (m:=g.map rz.Y) λn hn=>by obtain⟨e,he,rfl⟩:=ij.1 hn;obtain⟨j,y,_,_,h3,h4⟩:=(h.py k x hx).yz e he;rw[<-h4];exact ja (ik h3)
  simpa using this
 .exact ib _
def Wj(g:Ζ)(k:Nat):(Co g k).length=(A2 g k).length:=by
 unfold Co;simp only[du];generalize A2 g k=es;induction es with
 |nil=>rfl
 |cons e es ih=>rcases Ei g k e with h|h|h<;>simp[h]<;>omega
def xh.cnt{s t:wv}{k:Nat}{e:Edge}{c:Int}(h:xh I s a e k c t):t.done.length<=s.done.length+1:=by cases h<;>simp
structure å(I:Œ)(a nd:Nat)(s0:wv)(r:LQ)(s:wv):Prop where
 inv:xi I.g s a
 grow:∃l,s.By=s0.By++l
 new:∀e∈r,DF s a e.Y
 nodup:(r.map Edge.Y).Nodup
 mem:∀e∈r,e∈A2 I.g nd
 small:DV I s
 cnt:s.done.length+r.length<=s0.done.length+(Co I.g nd).length
 V:∀c t,xq I a nd s r c t->xq I a nd s0 (Co I.g nd) c t
section
variable {I:Œ} {a nd:Nat} {s0 s t:wv} {e:Edge} {r:LQ}
def å.start(hg:Ę I.g)(hI:xi I.g s a)(hs:DV I s)(a0:∀u∈s.done,u.uj<a):å I a nd s (Co I.g nd) s:=
 ⟨hI,⟨[],by simp⟩,λ_ _ v hv h=>by have:=a0 v hv;omega,Wk hg _,λ_ he=>LH.1 he,hs,fx _,λ_ _ h=>h⟩
def å.step(h:å I a nd s0 (e::r) s)(hg:Ę I.g)(ha:a<s.By.length)(hE:xh I s a e (AB I.g nd e) 0 t):å I a nd s0 r t:=by obtain⟨h1,h2⟩:=hE.inv (Ei _ _ _) h.inv ha (h.new e (.head _)) (hg.yz (h.mem e (.head _)));obtain⟨l,hl⟩:=h.grow;obtain⟨m,hm⟩:=h2.By;have a4:=h.nodup;rw[io,qg]at a4;have hc:=h.cnt;have a5:=hE.cnt;rw[fu]at hc;exact⟨h1,⟨l++m,by rw[hm,hl,ff]⟩,λe' a0=>h2.new _ (λhn=>a4.1 (hn▸ja a0)) (h.new e' (.tail _ a0)),a4.2,λe' a0=>h.mem e' (.tail _ a0),hE.small h.small,oM,λc u hu=>h.V c u (.cons hE hu)⟩
def å.stop{c:Int}(h:å I a nd s0 (e::r) s)(hE:xh I s a e (AB I.g nd e) c t)(hc:c≠0):xq I a nd s0 (Co I.g nd) c t:=h.V c t (.stop hE hc)
def å.done(h:å I a nd s0 [] s):xq I a nd s0 (Co I.g nd) 0 s:=h.V 0 s (.nil s)
def å.py(h:å I a nd s0 r s)(ha:a<s0.By.length):a<s.By.length/\ud s.By a=ud s0.By a:=by obtain⟨l,hl⟩:=h.grow;rw[hl,Hr ha,du];exact⟨oM,rfl⟩
end
def D9(g:Ζ)(nd k j:Nat):LQ:=((A2 g nd).drop j).filter (λe=>AB g nd e==k)++(if k=1 then(A2 g nd).filter (λe=>AB g nd e==2)++(A2 g nd).filter (λe=>AB g nd e==3)else if k=2 then(A2 g nd).filter (λe=>AB g nd e==3)else [])
def Zi6{k:Nat}(h:(A2 g nd).length<=j)(hk:k=1\/k=2):D9 g nd k j=D9 g nd (k+1) 0:=by unfold D9;rw[kf h];rcases hk with rfl|rfl<;>simp
def Zi5{k:Nat}(h:j<(A2 g nd).length)(hk:AB g nd (A2 g nd)[j]=k):D9 g nd k j=(A2 g nd)[j]::D9 g nd k (j+1):=by unfold D9;rw[gj h,List.filter_cons_of_pos (by rw[hk];exact beq_self_eq_true _)];rfl
def Zi7{k:Nat}(h:j<(A2 g nd).length)(hk:AB g nd (A2 g nd)[j]≠k):D9 g nd k j=D9 g nd k (j+1):=by unfold D9;rw[gj h,List.filter_cons_of_neg (by simpa using hk)]
def Za1{k:Nat}{x:rz}(h:g[k]?=some x):A2 g k=x.sq:=by unfold A2;rw[h]
def Xf(h:0<=I.ţ):DV I ķ:=⟨λd hd=>by rw[ķ,ep]at hd;rw[hd];exact .inl rfl,by show((1:Nat):Int)<=_;omega⟩
end Go.Hal
namespace Go.Hal
def Ws(L:Ι)(g:Ζ):(D7 L g).length=g.length:=by simp[D7]
def Wr(hi:i<g.length):(D7 L g)[i]?=some (if i=0 then Ay else getD L g[i].Y g[i].v):=by unfold D7;rw[gu,List.getElem?_range hi,jp,dt hi];rfl
def Sl.Xda{t:Sl}(h:s.v=t.v):s=t:=by obtain⟨a,b,c⟩:=s;obtain⟨d,e,f⟩:=t;simp only[Sl.v,Value.slice.injEq]at h;obtain⟨rfl,rfl,rfl⟩:=h;rfl
def ü.BY{y:ż×uf}(h:ü w S y):No vr w S y.1.ps y.2.BY:=by obtain⟨⟨_,ps,d,e,o,hc,hp,_⟩,_⟩:=h;unfold EC at hc;simp only[List.cons.injEq]at hc;rwa [Sl.Xda hc.1]
def Znp:wu.rep w S Ay [.string ⟨#[]⟩,vi 0,vi 0,vi 0,Sl.nil.v,Sl.nil.v,Sl.nil.v]:=
 ⟨by unfold Ad Ay;rw[Ao];decide,Sl.nil,Sl.nil,Sl.nil,rfl,No.nil trivial,No.nil trivial,No.nil trivial⟩
def Zaq{P:Ι}(h:0<P.length->P[0]?=some Ay):ķ.By.map (Bh P)= [⟨[],Ay,0⟩]:=by
 have:P.getD 0 Ay=Ay:=by
  rw[lw];by_cases hl:0<P.length
  .rw[h hl];rfl
  .rw[iw oM];rfl
 show [Bh P ⟨[],0⟩]=_;unfold Bh;rw[this];rfl
def OF.low{α:Type}{E:xn α}{T:LN}{l:List α}(h:OF E T w lo S s l)(hl:lo'<=lo):OF E T w lo' S s l:=by obtain⟨css,ho,k1,k2⟩:=h.row;refine⟨⟨css,⟨ho.1,ho.2.imp id λ⟨g,cap,a0,hv,hg,r⟩=>⟨g,cap,a0,hv,fj hl hg,r⟩⟩,k1,k2⟩,h.len,h.lt,h.apart⟩
def ze.O{S':Nat->Prop}{tm:Option (Ε)}(h:ze w S tm ol)(hs:∀b,S b->S' b):ze w S' tm ol:=by
 unfold ze at*;split at h
 .trivial
 .obtain⟨k1,so,k2,k3⟩:=h;exact⟨hs _ k1,so,k2,k3.O hs⟩
 .exact h.F
def ze.ok{tm:Option (Ε)}(h:ze w S tm ol):(ol=none/\tm=none)\/∃ao T so,ol=some ao/\tm=some T/\sh w ao [Sl.v so]/\No ve w S so T:=by
 cases ol with
 |none=>exact .inl ⟨rfl,h.none_⟩
 |some ao=>obtain⟨a0,T,h1,h2,_,so,h3,h4⟩:=h.some_ sI;exact .inr ⟨a0,T,so,h1,h2,h3,h4⟩
def n11:Pr:=⟨#[97]⟩
def Pp:tj:=⟨1,0,0⟩
def Ą:su:=⟨n11,Pp,[],[],[]⟩
def s11:tx:=⟨⟨0,0,0⟩,⟨999,999,999⟩⟩
def m11:vz:=⟨[⟨n11,[s11]⟩],[],[],[]⟩
def yh:ı:=AQ [Ą] m11 true [] 9 9
def Vo:Bool:=decide (yh.code=0)&&decide (yh.dec=1)&&decide (yh.ns.length=2)&&decide (yh.ns[1]?.map (·.v)=some Pp)&&decide (yh.ns[0]?.map (·.sq.length)=some 1)
def Zex:(BJ [] Ą).2= [Ą]:=by decide+kernel
set_option maxRecDepth 100000 in
def Zey:Vo=true:=by decide+kernel
def Zez:yh.code=0/\yh.dec=1/\yh.ns.length=2/\yh.ns[1]?.map (·.v)=some Pp/\yh.ns[0]?.map (·.sq.length)=some 1:=by have h:=Zey;unfold Vo at h;simp only[dz,fk]at h;exact⟨h.1.1.1.1,h.1.1.1.2,h.1.1.2,h.1.2,h.2⟩
def Zi4{m:vz}{uw:Bool}{rv:Η}{N:Int}{ns:Ζ}{t:Nat}(h:AQ L m uw rv D N= .done ns t):(AF m=true/\1<=D/\D<=4096/\1<=N/\N<=128)/\(si.mk L m uw rv D.toNat N.toNat).run= .done ns t:=by
 unfold AQ at h;split at h
 .rename_i a0;refine⟨a0,?_⟩;unfold si.res at h;split at h
  .cases h
  .cases h
  .rename_i hr;cases h;exact hr
  .cases h
 .cases h
structure œ(w:PU)(q:Nat):Prop where
 str:∀a t,a.block=q->w.cell? a≠some (.string t)
 num:∀a,a.block=q->∀x:tx,¬sh w a (x.lo.c++x.hi.c)
def E5(S:Nat->Prop)(q:Nat)(b:Nat):Prop:=S b/\b≠q
section
variable {α:Type} {E:xn α} {w:PU} {S:Nat->Prop} {q:Nat} {s:Sl} {l:List α}
def No.unf(hE:∀x cs,E.rep w S x cs->E.rep w (E5 S q) x cs/\∀ad,sh w ad cs->ad.block≠q)(h:No E w S s l):No E w (E5 S q) s l:=by
 obtain⟨h1,h2,h3,h4,h5⟩:=h;refine⟨h1,h2,h3,h4,?_⟩;rcases h5 with h5|⟨ad,ha,hS,a0⟩
 .exact .inl h5
 .cases l with
  |nil=>exact .inl rfl
  |cons x r=>obtain⟨cs,hr,hl⟩:=a0 0 x rfl;have a4:=(hE x cs hr).2 _ hl;rw[CW]at a4;exact .inr ⟨ad,ha,⟨hS,a4⟩,λi y hy=>let⟨cs,h1,h2⟩:=a0 i y hy;⟨cs,(hE y cs h1).1,h2⟩⟩
def œ.at(hq:œ w q){k:Nat}{t:Pr}(hk:cs[k]?=some (.string t)){ad:LP}(hl:sh w ad cs):ad.block≠q:=λe=>by have:=hl k _ hk;exact hq.str (ad.add k) t (by rw[CW];exact e) this
end
section
variable {w:PU} {S:Nat->Prop} {q:Nat} {s:Sl}
def Zl7{l:Η}(hq:œ w q)(h:No vb w S s l):No vb w (E5 S q) s l:=h.unf λx cs hr=>⟨hr,λad hl=>hq.at (k:=0) (t:=x.Y) (by have h1:=hr.1;subst h1;rfl) hl⟩
def Zl5{l:LQ}(hq:œ w q)(h:No xu w S s l):No xu w (E5 S q) s l:=h.unf λx cs hr=>⟨hr,λad hl=>hq.at (k:=0) (t:=x.Y) (by have h1:=hr.1;subst h1;rfl) hl⟩
def Zma{l:List Pr}(hq:œ w q)(h:No vr w S s l):No vr w (E5 S q) s l:=h.unf λx cs hr=>⟨hr,λad hl=>hq.at (k:=0) (t:=x) (by have h1:=hr.1;subst h1;rfl) hl⟩
def Zl8{l:Κ}(hq:œ w q)(h:No uo w S s l):No uo w (E5 S q) s l:=h.unf λx cs hr=>⟨hr,λad hl e=>hq.num ad e x (by have h1:=hr.1;subst h1;exact hl)⟩
def HI(hq:œ w q)(h:No ru w S s l):No ru w (E5 S q) s l:=h.unf λx cs ⟨h0,u,hc,hu⟩=>⟨⟨h0,u,hc,Zl8 hq hu⟩,λad hl=>hq.at (k:=0) (t:=x.Y) (by rw[hc];rfl) hl⟩
def Zl6{l:Ζ}(hq:œ w q)(h:No uh w S s l):No uh w (E5 S q) s l:=h.unf λx cs ⟨h0,c,e,hc,h1,h2⟩=>⟨⟨h0,c,e,hc,Zl7 hq h1,Zl5 hq h2⟩,λad hl=>hq.at (k:=0) (t:=x.Y) (by rw[hc];rfl) hl⟩
def Ni{l:Ε}(hq:œ w q)(h:No ve w S s l):No ve w (E5 S q) s l:=h.unf λx cs ⟨h0,ps,d,e,o,hc,h1,h2,h3,h4⟩=>⟨⟨h0,ps,d,e,o,hc,Zma hq h1,HI hq h2,HI hq h3,HI hq h4⟩,λad hl=>hq.at (k:=1) (t:=x.td.Y) (by rw[hc];rfl) hl⟩
end
def HJ{a:LP}(h:AT w a cs)(hs:∀t,Value.string t∉cs)(hn:cs.length<6\/∀k n,Value.int k n∉cs):œ w a.block:=by
 obtain⟨T,ho,a0,hh⟩:=h;have cell:∀(b:LP) v,b.block=a.block->w.cell? b=some v->v∈cs/\b.off<cs.length/\b.spot=none:=λb v hb hc=>by
  unfold World.cell? at hc;rw[hb,hh]at hc;simp only at hc;split at hc
  .cases hc
  .rename_i a0;rw[kh]at hc;exact⟨ik hc,(fh.1 hc).1,by simpa using a0⟩
 refine⟨λb t hb hc=>hs t (cell b _ hb hc).1,λb hb x hl=>?_⟩;have h0:=cell _ _ (by rwa [CW]) (hl 0 _ rfl);have h5:=cell _ _ (by rwa [CW]) (hl 5 _ rfl);obtain hn|hn:=hn
 .obtain⟨bb,off,sp⟩:=b;have a4:sp=none:=by have:=h0.2.2;rw[add_zero]at this;exact this
  subst a4;have:=h5.2.1;have e:(Addr.add ⟨bb,off,none⟩ 5)=⟨bb,off+5,none⟩:=by unfold Addr.add;split<;>simp_all
  rw[e]at this;simp only at this;omega
 .exact hn _ _ h0.1
end Go.Hal
