/- Lemmas for the claim K19a: how the program's functions run, and what they answer; no condition but those that each theorem names. -/
import Derived.Lone
import Derived.RunT
import Derived.StepT
import Derived.Calls
import Derived.Test.YtgolaibmophnjaaGreatDoorProg
import Derived.Test.YtgolaibmophnjaaGreatDoorK19aB5
set_option linter.unusedVariables false
set_option linter.unusedSimpArgs false
set_option linter.defProp false
set_option maxHeartbeats 16000000
open Go.Hal.SE hiding Cs Dr Lb vB
open Go Go.RowKit Go.Proofs Go.Shelf Go.Hal Go.Proofs.Tryz
variable {a a3:LP} {es:Array Event} {b uo pr:Bool} {E:xh Ż} {D N:Int} {l:Ι} {la lb:LQ} {G g:List Hal.BY} {L P:Κ} {dn:List Ż} {cs:LV} {m m':Machine} {i j lo n nd tz:Nat} {S:Nat->Prop} {I:Ľ} {p:LD} {A Α d o r s t:Sl} {R:Sl->Wp} {w w':Qd}
namespace Go.Hal
def rW{α:Type}:Result α->Qd
 | .ok _ w=>w
 | .halt _ w=>w
def YV{α:Type}(w:Qd)(a:Ask α):w.drawn<=(w.ask a).2.drawn:=by
 fun_induction World.ask w a with
 |case1=>exact ga _
 |case2 w a0 range k q h ih=>exact ih
 |case3 w a0 range k q h ih=>exact fl (Nat.le_succ _) ih
def Xv(w:Qd)(c:Sys):w.drawn<=(w.sys c).2.drawn:=by
 have h:=YV w (Kernel.perform c w.os);unfold World.sys;split
 .exact ga _
 .rename_i r os w' hr;rw[hr]at h;exact h
def Znr{at_:LP}{u:LN}{k:LP}{v:HT}{l:List LP}(h:w.viewStore p at_ u k v b= .ok (w',l)):w'.drawn=w.drawn:=by
 unfold World.viewStore at h;simp only[bind,Except.bind,pure,Except.pure,throw,throwThe,MonadExceptOf.throw]at h
 repeat' first
  |(simp at h;done)
  |(simp only[Except.ok.injEq,Prod.mk.injEq]at h;obtain⟨rfl,_⟩:=h;rfl)
  |split at h
def Zc7{v:HT}{l:List LP}(h:w.farStore p a v b= .ok (w',l)):w'.drawn=w.drawn:=by
 unfold World.farStore at h;split at h
 .split at h
  .rename_i r hr;simp only[Except.ok.injEq]at h;subst h;exact Znr hr
  .cases h
 .cases h
def Zks(w:Qd)(a:LP)(v:HT):(w.setCell a v).drawn=w.drawn:=by
 unfold World.setCell
 repeat' first|rfl|split
def Zdk(w:Qd)(a:LP)(n:Nat):(w.freeze a n).drawn=w.drawn:=by
 unfold World.freeze
 repeat' first|rfl|split
def OA{α:Type}(p:LD)(s:Sem α)(w:Qd):w.drawn<=(rW (s.run p w)).drawn:=by
 fun_induction Sem.run p s w
 all_goals first
  |exact ga _
  |assumption
  |skip
 all_goals try (rename_i ih;rw[Zks]at ih;exact ih)
 all_goals try (rename_i ih;rw[Zdk]at ih;exact ih)
 all_goals try (rename_i ih;exact fl (Nat.le_succ _) ih)
 all_goals try (rename_i ih;exact fl (Xv _ _) ih)
 all_goals try (rename_i h ih;have:=Zc7 h;omega)
 all_goals skip
def Zki{α:Type}(p:LD)(s:Sem α)(w:Qd)(es:Array Event):w.drawn<=(rW (s.runT p w es).1).drawn:=by rw[Sem.runT_fst];exact OA p s w
def gD(n:Nat):GStep->Prop
 | .go _ w _| .comm _ _ _ _ w _| .spawn _ _ w _| .count _ w _| .timer _ _ w _| .alone _ _ w _| .newcoro _ _ _ w _| .coroswitch _ _ _ w _| .collect _ w _| .watch _ w _| .ended _ w _=>n<=w.drawn
def Kz{s:GStep}(h:gD n s):gD n (GStep.after es s):=by cases s<;>exact h
def Zbl(h:n<=w.drawn)(fd:Nat)(text:PU)(o:Outcome):gD n (endWith w fd text o):=by
 have h1:=Xv w (.write fd text);unfold endWith;simp only[];split
 all_goals (rename_i hs;rw[hs]at h1)
 .split<;>exact fl h h1
 .exact fl h h1
 .exact fl h h1
def Qq(h:n<=w.drawn)(fr:Frame)(m:String):gD n (endThrow fr m w):=h
def Qp(h:n<=w.drawn)(p:LD)(fr:Frame)(v:HT):gD n (endPrinting p fr v w):=by unfold endPrinting;simp only[];split<;>exact h
def rD{α:Type}{s:Sem α}{a:α}(h:s.run p w= .ok a w'):w.drawn<=w'.drawn:=by have:=OA p s w;rw[h]at this;exact this
def FG{α:Type}{s:Sem α}{x:Halt}(h:s.run p w= .halt x w'):w.drawn<=w'.drawn:=by have:=OA p s w;rw[h]at this;exact this
def U5(h:n<=w.drawn)(p:LD)(fr:Frame)(a0:List Frame)(d:Option Dying)(m:String):gD n (endFatal p fr a0 d m w):=by
 unfold endFatal;simp only[];split
 .rename_i hr;exact fl h (rD hr)
 .rename_i hr;exact fl h (FG hr)
 .rename_i hr;exact fl h (FG hr)
def tD{α:Type}{s:Sem α}{a:α}(h:(s.runT p w es).1= .ok a w'):w.drawn<=w'.drawn:=by rw[Sem.runT_fst]at h;exact rD h
def Fi{α:Type}{s:Sem α}{x:Halt}(h:(s.runT p w es).1= .halt x w'):w.drawn<=w'.drawn:=by rw[Sem.runT_fst]at h;exact FG h
def Zoc(h:n<=w.drawn)(p:LD)(fr:Frame)(d:Dying)(f:Fatal):gD n (writeOn p fr d f w):=by
 unfold writeOn;simp only[];split
 .exact h
 .split
  all_goals (rename_i hr;have hr:=kd Prod.fst hr)
  .exact fl h (tD hr)
  .exact fl h (Fi hr)
  .exact fl h (Fi hr)
  .exact fl h (Fi hr)
def Zar(h:n<=w.drawn)(p:LD)(fr:Frame)(d:Dying):gD n (die p fr d w):=by
 unfold die;simp only[]
 repeat' first
  |exact h
  |exact Zoc h _ _ _ _
  |exact Zbl h _ _ _
  |exact Qp h _ _ _
  |apply Kz
  |(rename_i hr;exact fl h (rD hr))
  |(rename_i hr;exact fl h (FG hr))
  |(rename_i hr;exact fl h (tD hr))
  |(rename_i hr;exact fl h (Fi hr))
  |(rename_i hr;exact Qp (fl h (Fi hr)) _ _ _)
  |split
 all_goals skip
def NB(h:n<=w.drawn)(p:LD)(a5:Bool)(fr:Frame)(a0:List Frame)(a4:Option Dying)(v:HT):gD n (doReturn p a5 fr a0 a4 v w):=by
 unfold doReturn;simp only[]
 repeat' first
  |exact h
  |split
def Zo(h:n<=w.drawn)(p:LD)(fr:Frame)(a0:List Frame)(a4:Option Dying)(d:Deferred):gD n (callDeferred p fr a0 a4 d w):=by
 unfold callDeferred;simp only[]
 repeat' first
  |exact h
  |apply Kz
  |exact fl h (tD (by assumption))
  |exact fl h (Fi (by assumption))
  |exact U5 (fl h (Fi (by assumption))) _ _ _ _ _
  |exact Qq (fl h (Fi (by assumption))) _ _
  |split
def Zm1(h:n<=w.drawn)(p:LD)(a5:Bool)(fr:Frame)(a0:List Frame)(a4:Option Dying):gD n (unwind p a5 fr a0 a4 w):=by
 unfold unwind;simp only[]
 repeat' first
  |exact h
  |exact Zo h _ _ _ _ _
  |exact Qp h _ _ _
  |exact NB h _ _ _ _ _ _
  |apply Kz
  |(rename_i hr;exact fl h (rD hr))
  |(rename_i hr;exact fl h (FG hr))
  |(rename_i hr;exact fl h (tD hr))
  |(rename_i hr;exact fl h (Fi hr))
  |(rename_i hr;exact NB (fl h (tD hr)) _ _ _ _ _ _)
  |split
def Za1(h:n<=w.drawn)(p:LD)(fr:Frame)(a0:List Frame)(a4:Option Dying)(g:Nat):gD n (early p fr a0 a4 g w):=by
 unfold early;simp only[]
 repeat' first
  |exact h
  |exact fl h (rD (by assumption))
  |exact fl h (FG (by assumption))
  |(simp only[gD];exact fl h (rD (by assumption)))
  |split
def P8(h:n<=w.drawn)(p:LD)(a0:Bool)(fr:Frame)(a4:List Frame)(a5:Option Dying)(s:Sem Next):gD n (stepG.apply p a0 fr a4 a5 s w):=by
 unfold stepG.apply;simp only[];apply Kz;have hk:w.drawn<=(rW (if a0=true then s.runT p w #[]else(s.run p w,#[])).1).drawn:=by
  split
  .exact Zki _ _ _ _
  .exact OA _ _ _
 revert hk;generalize (if a0=true then s.runT p w #[]else(s.run p w,#[])).1=r;intro hk
 repeat' first
  |exact fl h hk
  |exact U5 (fl h hk) _ _ _ _ _
  |exact Za1 (fl h hk) _ _ _ _ _
  |exact Qq (fl h hk) _ _
  |split
def Zbi{α:Type}{o:Option α}{d:GStep}{f:α->GStep}(h:gD n d)(hf:∀x,gD n (f x)):gD n (o.F d f):=by
 cases o with
 |none=>exact h
 |some x=>exact hf x
def Zhk(h:n<=w.drawn)(p:LD)(a4:Bool)(fr:Frame)(a0:List Frame)(a5:Option Dying):gD n (stepG.oper p a4 fr a0 a5 w):=by
 unfold stepG.oper
 repeat' first
  |exact h
  |exact P8 h _ _ _ _ _ _
  |split
def Zcn(h:n<=w.drawn)(p:LD)(a6 a4:Bool)(fr:Frame)(a0:List Frame)(a5:Option Dying):gD n (stepG.exec p a6 a4 fr a0 a5 w):=by
 unfold stepG.exec;simp only[]
 repeat' first
  |exact h
  |exact P8 h _ _ _ _ _ _
  |exact P8 (fl h (tD (by assumption))) _ _ _ _ _ _
  |exact Zhk h _ _ _ _ _
  |exact NB h _ _ _ _ _ _
  |exact NB (fl h (tD (by assumption))) _ _ _ _ _ _
  |exact fl h (tD (by assumption))
  |exact fl h (Fi (by assumption))
  |exact fl h (rD (by assumption))
  |exact fl h (FG (by assumption))
  |apply Kz
  |refine Zbi ?_ λ_=>?_
  |split
def Zl1(p:LD)(a4:Bool)(g:Goroutine)(w:Qd)(a0:Bool):gD w.drawn (stepG p a4 g w a0):=by
 unfold stepG;simp only[]
 repeat' first
  |exact Zar nR _ _ _
  |exact Zcn nR _ _ _ _ _ _
  |exact Zm1 nR _ _ _ _ _
  |split
def sD(n:Nat)(s:Stepped):Prop:=∀m,s= .next m->n<=m.world.drawn
def Zns{su:Go.Rest}{cases:Array CommCase}(h:waitingAt su cases w=some w'):w'.drawn=w.drawn:=by
 unfold waitingAt at h
 repeat' first
  |(simp at h;done)
  |(simp only[ff]at h;subst h;rfl)
  |split at h
def ZK(h:n<=w.drawn)(p:LD)(su:Go.Rest)(gs:Array Goroutine)(i:Nat)(g:Goroutine)(cases:Array CommCase)(a0:Bool)(a4:CommShape):sD n (communicate p su gs i g cases a0 a4 w).1:=by
 intro m' h';unfold communicate at h';simp only[]at h'
 repeat' first
  |(simp at h';done)
  |(simp only[Stepped.next.injEq]at h';subst h';simp only[];first|exact h|exact fl h (rD (by assumption))|exact fl h (FG (by assumption))|exact fl h (fl (rD (by assumption)) (FG (by assumption)))|exact fl h (Nat.le_of_eq (Zns (by assumption)).H)|exact fl (fl h (rD (by assumption))) (rD (s:=choose _) (by assumption))|skip)
  |split at h'
 all_goals skip
def V5(h:n<=w.drawn)(p:LD)(gs:Array Goroutine)(su:Go.Rest):sD n (Go.look p gs su w):=by
 intro m' h';unfold Go.look at h';simp only[]at h'
 repeat' first
  |(simp at h';done)
  |(simp only[Stepped.next.injEq]at h';subst h';simp only[];first|exact h|exact fl h (rD (by assumption))|skip)
  |split at h'
 all_goals skip
def Zay(w:Qd)(c:Nat):(drain w c).2.drawn=w.drawn:=by unfold drain;split<;>rfl
def WC(m:Machine)(k:Nat)(t:Timer)(a b:Nat):(retime m k t a b).2.world.drawn=m.world.drawn:=by unfold retime;simp only[];split<;>simp[Zay]
def Zhj(h:timerOp.opened m a=some m'):m'.world.drawn=m.world.drawn:=by
 unfold timerOp.opened at h
 repeat' first
  |(simp at h;done)
  |(simp only[ff]at h;subst h;rfl)
  |split at h
def VP{m0:Machine}{f:Nat->Timer->HT×Machine}{v:HT}(hf:∀k t,n<=(f k t).2.world.drawn)(h:timerOp.named m0 a f= .ok (v,m')):n<=m'.world.drawn:=by
 unfold timerOp.named at h;split at h
 .rename_i k hk;have:=hf k (m0.rest.timers.getD k default);simp only[Except.ok.injEq]at h;rw[h]at this;exact this
 .cases h
def XD(h:n<=m.world.drawn)(op:TimerOp){v:HT}(h':timerOp m op= .ok (v,m')):n<=m'.world.drawn:=by
 unfold timerOp at h';simp only[]at h'
 repeat' first
  |(simp at h';done)
  |(simp only[Except.ok.injEq,Prod.mk.injEq]at h';obtain⟨_,rfl⟩:=h';exact h)
  |(refine VP (n:=n) (λk t=>?_) h';rwa [WC])
  |(refine VP (n:=n) (λk t=>?_) h';rwa [WC,Zhj (by assumption)])
  |split at h'
 all_goals skip
def Zkj(p:LD)(m:Machine)(i:Nat)(b:Bool):sD m.world.drawn (runT p m i b).1:=by
 intro m' h;simp only[runT]at h;revert h;generalize m.gs.swapAt! _ _=gg;have hg:=Zl1 p (i==0) gg.1 m.world b;revert hg;generalize stepG p _ gg.1 m.world b=s;intro hg h;cases s<;>simp only[]at h
 all_goals first
  |(simp at h;done)
  |exact ZK hg _ _ _ _ _ _ _ _ _ h
  |exact V5 hg _ _ _ _ h
  |(simp only[Stepped.next.injEq]at h;subst h;exact hg)
  |(repeat' first
    |(simp at h;done)
    |(simp only[Stepped.next.injEq]at h;subst h;exact hg)
    |(simp only[Stepped.next.injEq]at h;subst h;rename_i hq;refine XD (n:=m.world.drawn) ?_ _ hq;exact hg)
    |(simp only[Stepped.next.injEq]at h;subst h;rename_i hq;have:=kd (gD m.world.drawn) hq;exact this.mp (Qq hg _ _))
    |split at h)
 all_goals (simp only[Stepped.next.injEq]at h;subst h;rename_i hq;have hz:=XD (n:=m.world.drawn) (m:={world:=_,gs:=_,rest:=_}) (by exact hg) _ hq;exact hz)
def Zkq(h:n<=m.world.drawn)(p:LD)(k:Nat):sD n (serve p m k):=by
 intro m' h';unfold serve at h';simp only[]at h'
 repeat' first
  |(simp at h';done)
  |(simp only[Stepped.next.injEq]at h';subst h';exact h)
  |split at h'
def mD(n:Nat):Move->Prop
 | .goroutine m _=>n<=m.world.drawn
 | .machine s _=>sD n s
def Qr{o:Outcome}:sD n (.ended o w):=λ_ h=>by cases h
def Cm{α:Type}{s:Sem α}{a:α}(h:s.run p w= .ok a w')(k:n<=w.drawn):n<=w'.drawn:=fl k (rD h)
def W4{α:Type}{s:Sem α}{t:Nat}{a:α}(h:s.run p (m.advanceTo t).world= .ok a w')(k:n<=m.world.drawn):n<=w'.drawn:=fl k (rD (w:=(m.advanceTo t).world) h)
def PB(h:n<=m.world.drawn)(p:LD):mD n (askOn p m):=by
 unfold askOn;simp only[]
 repeat' first
  |exact Qr
  |exact h
  |exact Zkq (fl h (rD (by assumption))) _ _
  |((try simp only[mD]);first|exact Cm (by assumption) h|exact Cm (by assumption) (Cm (by assumption) h)|exact Cm (by assumption) (Cm (by assumption) (Cm (by assumption) h))|exact Cm (by assumption) (Cm (by assumption) (Cm (by assumption) (Cm (by assumption) h)))|(refine W4 (by assumption) ?_;exact Cm (by assumption) (Cm (by assumption) h))|(refine Cm (by assumption) (W4 (by assumption) ?_);exact Cm (by assumption) (Cm (by assumption) h)))
  |(intro m' h';simp only[Stepped.next.injEq]at h';subst h';simp only[Machine.advanceTo];first|exact Cm (by assumption) h|exact Cm (by assumption) (Cm (by assumption) h))
  |split
 all_goals skip
def T5(h:n<=m.world.drawn)(p:LD):mD n (ask p m):=by
 unfold ask
 repeat' first
  |exact PB h p
  |exact PB (m:=Machine.mk _ _ _) (Cm (by assumption) h) p
  |exact PB (V5 (Cm (by assumption) h) _ _ _ _ (by assumption)) p
  |exact Qr
  |(intro m' h';exact(‹∀a0:Machine,Go.look _ _ _ _=Stepped.next a0->False› m' h').F)
  |split
def Zgz(h:n<=m.world.drawn)(p:LD):mD n (move p m):=by
 unfold move
 repeat' first
  |exact Qr
  |exact h
  |exact T5 h p
  |(refine T5 ?_ p;exact h)
  |split
def Zl2(p:LD)(m m':Machine)(h:step p m= .next m'):m.world.drawn<=m'.world.drawn:=by
 have hm:=Zgz (ga m.world.drawn) p;unfold step stepT at h;split at h
 .rename_i m1 i he;rw[he]at hm;exact fl hm (Zkj p m1 i _ _ h)
 .rename_i s ops he;rw[he]at hm;exact hm _ h
def Zl5(h:Steps p m m'):m.world.drawn<=m'.world.drawn:=by
 obtain⟨n,hn⟩:=h;induction n generalizing m with
 |zero=>simp[runN]at hn;rw[hn];exact ga _
 |succ n ih=>
  simp only[runN]at hn;cases hs:step p m with
  |next m1=>rw[hs]at hn;exact fl (Zl2 _ _ _ hs) (ih hn)
  |ended o w=>rw[hs]at hn;simp at hn
def Zr{P:LD}{f:Pr}{args:Δ}{R:Ending->Wp}(h:Calls P f args w R):Calls P f args w λe w'=>R e w'/\(∀v,e= .returned v->w.drawn<=w'.drawn):=λcs=>by obtain⟨e,w',fr,hR,hc,hf,hl⟩:=h cs;refine⟨e,w',fr,⟨hR,λv hv=>?_⟩,hc,hf,hl⟩;subst hv;exact Zl5 hc
open Go.Sort
def AI.gr(h:AI w w')(hd:w.drawn<=w'.drawn):Gr w w':=by
 obtain⟨h1,h2,h3,h4,h5⟩:=h;refine⟨w'.drawn - w.drawn,w'.heap.extract w.heap.size w'.heap.size,?_⟩;have hh:w'.heap=w.heap++w'.heap.extract w.heap.size w'.heap.size:=by
  apply Array.ext_getElem?;intro i;obtain hi|hi:=pp i w.heap.size
  .rw[kh hi];exact h5 i hi
  .rw[Array.getElem?_append_right hi,Array.getElem?_extract];split
   .congr 1;omega
   .rw[Array.getElem?_eq_none oM]
 have a0:w'.drawn=w.drawn+(w'.drawn - w.drawn):=oM;obtain⟨hp,tp,dr,os,rv⟩:=w';simp only at h1 h2 h3 hh a0;subst h1 h2 h3;unfold grow World.drewN;simp only[World.mk.injEq,and_true,true_and];exact⟨hh,a0⟩
structure ŷ where
 ps:Sl
 nm:PU
 ma:Int
 mi:Int
 pa:Int
 d:Sl
 e:Sl
 o:Sl
 nd:Int
def EL(x:ŷ):LV:=[x.ps.v,.string x.nm,vi x.ma,vi x.mi,vi x.pa,x.d.v,x.e.v,x.o.v,vi x.nd]
def Ia(a b:tx):Int:=GS (AF a) (AF b)
def ł:vv Ia:=à.Ę AF
def ð(w:Qd)(S:Nat->Prop)(y:ŷ×tx):Prop:=vm.rep w S y.2 (EL y.1)/\y.2.Of.length<=4000000000000
abbrev SQ(w:Qd)(S:Nat->Prop):Type:={y:ŷ×tx//ð w S y}
def Qi(y:SQ w S):LV:=EL y.1.1
def Xs{α:Type}{P:α->Prop}:∀(l:List α),(∀i∈l,P i)->∃z:List {i:α//P i},z.map Subtype.val=l
 | [],_=>⟨[],rfl⟩
 |i::l,h=>by obtain⟨z,hz⟩:=Xs l λj hj=>h j (.tail _ hj);exact⟨⟨i,h i (.head _)⟩::z,by rw[gu,hz]⟩
def Zeo:∀w,(isAgg 61).run prog w= .ok true w:=λw=>by kernel_rfl
def Zkz:∀w,(Go.sizeOf 61).run prog w= .ok 9 w:=λw=>by kernel_rfl
def tm.same{α β:Type}{f:α->LV}{h:β->LV}{g:Nat}{l:List α}{m:List β}{tail:LV}(k:tm f w g l tail)(e:l.map f=m.map h):tm h w g m tail:=by unfold tm at*;rw[<-e];exact k
def Zk8{gf:Nat}{Q:Nat->Prop}{l:Θ}{K:Ã}(h:rl vm 61 w lo Q s l)(b2:lo<=w.heap.size)(hl:l.length<=1000000)(hb:∀d∈l,d.Of.length<=4000000000000)
  (eg:∀args w,(callFunc gf args).run prog w= .ok (.enter gf args) w)
  (a6:∀(w0:Qd)(S:Nat->Prop)(x y:ŷ×tx),ð w0 S x->ð w0 S y->Calls prog gf #[.agg (EL x.1).toArray,.agg (EL y.1).toArray] w0 λe w'=>e= .returned (vi (Ia x.2 y.2))/\AI w0 w')
  (hK:∀(l':Θ) w',l'.Perm l->l'.Pairwise (λx y=>¬Ia y x<0)->Below lo w w'->(∀b,b<w.heap.size->(∀ad,s.a=some ad->b≠ad.block)->w'.heap[b]?=w.heap[b]?)->IT vm w' (λb=>Q b\/∃ad,s.a=some ad/\b=ad.block) s l'->K (.tuple #[]) w'):
  si prog 64 [s.v,.func (.func gf) #[] #[]] w K:=by
 have b8:=h.I (by show l.length*144<=Ab;unfold Ab;omega) (by rw[Al];omega);rcases h.Xbs EL (λy x=>ð w Q (y,x)\/ ¬x.Of.length<=4000000000000) (λx cs hr=>by
  have b6:=hr;obtain⟨h0,ps,d,e,o,rfl,r⟩:=hr;refine⟨⟨ps,_,_,_,_,d,e,o,_⟩,rfl,?_⟩;by_cases hx:x.Of.length<=4000000000000
  .exact .inl ⟨b6,hx⟩
  .exact .inr hx)with⟨rfl,rfl⟩|⟨g,z,tail,hsa,hg,hzl,hzr,hrow,hc,hm⟩
 .refine(AnyF.slices_SortFunc_none Tryz.Xbw none 0 _ w).O λe w' ⟨he,hw⟩=>⟨_,he,?_⟩;subst hw;exact hK [] _ (jx _) .nil (Below.refl _ _) (λ_ _ _=>rfl) b8
 .obtain⟨a,n,c⟩:=s;simp only at hsa hc hm;have a7:=h.len;simp only at a7;subst hsa a7;have a5: ¬Q g:=h.apart _ rfl;obtain⟨zv,a4⟩:=Xs (P:=ð w Q) z λp hp=>by
   obtain h1|h1:=hzr p hp
   .exact h1
   .exact fu (hb p.2 (by rw[<-hzl];exact ix hp)) h1
  have a8:zv.length=l.length:=by rw[<-hzl,<-a4,eh,eh]
  haveI:Inhabited (SQ w Q):=⟨⟨(⟨Sl.nil,⟨#[]⟩,0,0,0,Sl.nil,Sl.nil,Sl.nil,0⟩,⟨[],Ay,0⟩),RE,im _⟩⟩
  have a0:tm (Qi (w:=w) (S:=Q)) w g zv tail:=hrow.same (by rw[<-a4,jj,jj];rfl);rw[<-a8];refine FJ Tryz.Xbw (k:=9) Zeo Zkz (f:=Qi (w:=w) (S:=Q)) (λ_=>rfl) (λx v hv=>by simp[Qi,EL,Sl.v]at hv;rcases hv with rfl|rfl|rfl|rfl|rfl|rfl|rfl|rfl|rfl<;>rfl) (λa b=>Ia a.1.2 b.1.2) (Fh (λx y=>ł.flip _ _) (λx y z=>ł.Z _ _ _)) gf #[] eg (λw0 x y a9 _=>?_) a0 oM rfl λl' w' hp hs b b5=>?_
  .have k:ä Q w w0:=a9.ry a5;refine(Zr (a6 w0 Q x.1 y.1 ⟨vm.ry x.2.1 k,x.2.2⟩ ⟨vm.ry y.2.1 k,y.2.2⟩)).O λe w' ⟨⟨he,hx⟩,hd⟩=>⟨he,hx.gr (hd _ he)⟩
  .have k:ä Q w w':=b.ry a5;refine hK ((l'.map Subtype.val).map Prod.snd) w' ?_ ?_ (b.below b2 hg) (λc hc b4=>b.2.2.2.2 c hc (b4 _ rfl)) ?_
   .rw[<-hzl,<-a4];exact(hp.map _).map _
   .rwa [iv,iv]
   .have b7:tm EL w' g ((l'.map Subtype.val).map Prod.fst) tail:=b5.same (by rw[jj,jj];rfl);have b0:l'.length=zv.length:=hp.length_eq;have:=tm.I (E:=vm) (S:=Q) (cap:=c) b7 (λ_=>rfl) (λp hp=>by obtain⟨q,_,rfl⟩:=gv.1 hp;exact vm.ry q.2.1 k) (by rw[eh];omega) hm (by rw[eh];show _*144<=Ab;unfold Ab;omega);rw[eh,b0,a8]at this;exact this.O λb hb=>hb.imp id λe=>⟨⟨g,0,none⟩,rfl,e⟩
end Go.Hal
namespace Go.Hal
def uh.ö{ps:Κ}(h:uh g ps)(k:Nat):(Ar g k).length<=g.length:=by
 unfold Ar;split
 .rename_i x hx;have:=EU (h.rk k x hx).sd.nodup (m:=g.map BY.Y) λn hn=>by obtain⟨e,he,rfl⟩:=gv.1 hn;obtain⟨j,y,_,_,h3,h4⟩:=(h.rk k x hx).yv e he;rw[<-h4];exact ix (fx h3)
  simpa using this
 .exact im _
def We(g:Ζ)(k:Nat):(Cu g k).length=(Ar g k).length:=by
 unfold Cu;simp only[dx];generalize Ar g k=es;induction es with
 |nil=>rfl
 |cons e es ih=>rcases Eo g k e with h|h|h<;>simp[h]<;>omega
def vh.cnt{s t:vq}{a k:Nat}{e:Edge}{c:Int}(h:vh I s a e k c t):t.done.length<=s.done.length+1:=by cases h<;>simp
structure Ö(I:Ľ)(a nd:Nat)(s0:vq)(r:LQ)(s:vq):Prop where
 inv:wz I.g s a
 grow:∃l,s.By=s0.By++l
 new:∀e∈r,DJ s a e.Y
 nodup:(r.map Edge.Y).Nodup
 mem:∀e∈r,e∈Ar I.g nd
 small:Ed I s
 cnt:s.done.length+r.length<=s0.done.length+(Cu I.g nd).length
 V:∀c t,vj I a nd s r c t->vj I a nd s0 (Cu I.g nd) c t
section
variable {I:Ľ} {a nd:Nat} {s0 s t:vq} {e:Edge} {r:LQ}
def Ö.start(hg:ď I.g)(hI:wz I.g s a)(hs:Ed I s)(a0:∀u∈s.done,u.tz<a):Ö I a nd s (Cu I.g nd) s:=
 ⟨hI,⟨[],by simp⟩,λ_ _ v hv h=>by have:=a0 v hv;omega,Wf hg _,λ_ he=>Lm.1 he,hs,ga _,λ_ _ h=>h⟩
def Ö.step(h:Ö I a nd s0 (e::r) s)(hg:ď I.g)(ha:a<s.By.length)(hE:vh I s a e (A9 I.g nd e) 0 t):Ö I a nd s0 r t:=by obtain⟨h1,h2⟩:=hE.inv (Eo _ _ _) h.inv ha (h.new e (.head _)) (hg.yv (h.mem e (.head _)));obtain⟨l,hl⟩:=h.grow;obtain⟨m,hm⟩:=h2.By;have a4:=h.nodup;rw[gu,nu]at a4;have hc:=h.cnt;have a5:=hE.cnt;rw[gb]at hc;exact⟨h1,⟨l++m,by rw[hm,hl,fh]⟩,λe' a0=>h2.new _ (λhn=>a4.1 (hn▸ix a0)) (h.new e' (.tail _ a0)),a4.2,λe' a0=>h.mem e' (.tail _ a0),hE.small h.small,oM,λc u hu=>h.V c u (.cons hE hu)⟩
def Ö.stop{c:Int}(h:Ö I a nd s0 (e::r) s)(hE:vh I s a e (A9 I.g nd e) c t)(hc:c≠0):vj I a nd s0 (Cu I.g nd) c t:=h.V c t (.stop hE hc)
def Ö.done(h:Ö I a nd s0 [] s):vj I a nd s0 (Cu I.g nd) 0 s:=h.V 0 s (.nil s)
def Ö.rk(h:Ö I a nd s0 r s)(ha:a<s0.By.length):a<s.By.length/\tq s.By a=tq s0.By a:=by obtain⟨l,hl⟩:=h.grow;rw[hl,Hs ha,dx];exact⟨oM,rfl⟩
end
def DE(g:Ζ)(nd k j:Nat):LQ:=((Ar g nd).drop j).filter (λe=>A9 g nd e==k)++(if k=1 then(Ar g nd).filter (λe=>A9 g nd e==2)++(Ar g nd).filter (λe=>A9 g nd e==3)else if k=2 then(Ar g nd).filter (λe=>A9 g nd e==3)else [])
def Zjv{k:Nat}(h:(Ar g nd).length<=j)(hk:k=1\/k=2):DE g nd k j=DE g nd (k+1) 0:=by unfold DE;rw[kl h];rcases hk with rfl|rfl<;>simp
def Zju{k:Nat}(h:j<(Ar g nd).length)(hk:A9 g nd (Ar g nd)[j]=k):DE g nd k j=(Ar g nd)[j]::DE g nd k (j+1):=by unfold DE;rw[gp h,List.filter_cons_of_pos (by rw[hk];exact beq_self_eq_true _)];rfl
def Zjw{k:Nat}(h:j<(Ar g nd).length)(hk:A9 g nd (Ar g nd)[j]≠k):DE g nd k j=DE g nd k (j+1):=by unfold DE;rw[gp h,List.filter_cons_of_neg (by simpa using hk)]
def Za7{k:Nat}{x:BY}(h:g[k]?=some x):Ar g k=x.sd:=by unfold Ar;rw[h]
def Sc(h:0<=I.ĝ):Ed I Ĭ:=⟨λd hd=>by rw[Ĭ,eu]at hd;rw[hd];exact .inl rfl,by show((1:Nat):Int)<=_;omega⟩
end Go.Hal
namespace Go.Hal
def Wn(L:Κ)(g:Ζ):(Cl L g).length=g.length:=by simp[Cl]
def Wm(hi:i<g.length):(Cl L g)[i]?=some (if i=0 then Ay else getD L g[i].Y g[i].v):=by unfold Cl;rw[gc,List.getElem?_range hi,ir,dw hi];rfl
def Sl.Xdb(h:s.v=t.v):s=t:=by obtain⟨a,b,c⟩:=s;obtain⟨d,e,f⟩:=t;simp only[Sl.v,Value.slice.injEq]at h;obtain⟨rfl,rfl,rfl⟩:=h;rfl
def ð.Of{y:ŷ×tx}(h:ð w S y):IT vx w S y.1.ps y.2.Of:=by obtain⟨⟨_,ps,d,e,o,hc,hp,_⟩,_⟩:=h;unfold EL at hc;simp only[ox]at hc;rwa [Sl.Xdb hc.1]
def Zof:wq.rep w S Ay [.string ⟨#[]⟩,vi 0,vi 0,vi 0,Sl.nil.v,Sl.nil.v,Sl.nil.v]:=
 ⟨by unfold Ac Ay;rw[Al];decide,Sl.nil,Sl.nil,Sl.nil,rfl,IT.nil trivial,IT.nil trivial,IT.nil trivial⟩
def Zau(h:0<P.length->P[0]?=some Ay):Ĭ.By.map (AB P)= [⟨[],Ay,0⟩]:=by
 have:P.getD 0 Ay=Ay:=by
  rw[jk];by_cases hl:0<P.length
  .rw[h hl];rfl
  .rw[jf oM];rfl
 show [AB P ⟨[],0⟩]=_;unfold AB;rw[this];rfl
def rl.low{α:Type}{E:xh α}{T:LN}{lo':Nat}{l:List α}(h:rl E T w lo S s l)(hl:lo'<=lo):rl E T w lo' S s l:=by obtain⟨css,ho,k1,k2⟩:=h.row;refine⟨⟨css,⟨ho.1,ho.2.imp id λ⟨g,cap,a0,hv,hg,r⟩=>⟨g,cap,a0,hv,fl hl hg,r⟩⟩,k1,k2⟩,h.len,h.lt,h.apart⟩
def yu.O{S':Nat->Prop}{tf:Option (Θ)}{ol:Wd}(h:yu w S tf ol)(hs:∀b,S b->S' b):yu w S' tf ol:=by
 unfold yu at*;split at h
 .trivial
 .obtain⟨k1,so,k2,k3⟩:=h;exact⟨hs _ k1,so,k2,k3.O hs⟩
 .exact h.F
def yu.ok{tf:Option (Θ)}{ol:Wd}(h:yu w S tf ol):(ol=none/\tf=none)\/∃ao T so,ol=some ao/\tf=some T/\se w ao [Sl.v so]/\IT vm w S so T:=by
 cases ol with
 |none=>exact .inl ⟨rfl,h.none_⟩
 |some ao=>obtain⟨a0,T,h1,h2,_,so,h3,h4⟩:=h.some_ sI;exact .inr ⟨a0,T,so,h1,h2,h3,h4⟩
def n11:PU:=⟨#[97]⟩
def OU:sq:=⟨1,0,0⟩
def û:sf:=⟨n11,OU,[],[],[]⟩
def s11:tv:=⟨⟨0,0,0⟩,⟨999,999,999⟩⟩
def m11:vu:=⟨[⟨n11,[s11]⟩],[],[],[]⟩
def xz:Ĩ:=A4 [û] m11 true [] 9 9
def Vr:Bool:=decide (xz.code=0)&&decide (xz.dec=1)&&decide (xz.ns.length=2)&&decide (xz.ns[1]?.map (·.v)=some OU)&&decide (xz.ns[0]?.map (·.sd.length)=some 1)
def Zfb:(BF [] û).2= [û]:=by decide+kernel
set_option maxRecDepth 100000 in
def Zfd:Vr=true:=by decide+kernel
def Zfe:xz.code=0/\xz.dec=1/\xz.ns.length=2/\xz.ns[1]?.map (·.v)=some OU/\xz.ns[0]?.map (·.sd.length)=some 1:=by have h:=Zfd;unfold Vr at h;simp only[ep,fp]at h;exact⟨h.1.1.1.1,h.1.1.1.2,h.1.1.2,h.1.2,h.2⟩
def X7{q q2:IS}(h1:q2.L=q.L)(h2:q2.m=q.m)(env:Η):∀l,AU q2 env l=AU q env l
 | []=>rfl
 |p::r=>by rw[AU,AU,h1,h2,X7 h1 h2 env r]
def IS.ß(q:IS)(P:Η):IS:={q with OF:=P}
abbrev Dh:=Option sq×Nat
abbrev Τ:=List Dh
def Ce(z:Τ):Nat:=(z.map λp=>p.2+1).sum
def GY(p:Dh)(z:Τ):Ce (p::z)=p.2+1+Ce z:=by simp[Ce]
def Uh{z z':Τ}(h:z.Perm z'):Ce z=Ce z':=(h.map _).sum_nat
def ZN{z z':Τ}(h:z.Sublist z'):Ce z<=Ce z':=by
 induction h with
 |slnil=>exact ga _
 |cons a _ ih=>rw[GY];omega
 |cons_cons a _ ih=>rw[GY,GY];omega
def Pi(D:Nat)(k:Option sq->Nat->Out)(z:Τ):Prop:=∀p∈z,∀t,t+p.2<=D->k p.1 t= .fail (t+p.2)
def Sv{D:Nat}{k:Option sq->Nat->Out}:∀{z:Τ} {os:List (Option sq)} {t:Nat},Pi D k z->t+Ce z<=D->AZ D k (z.map Prod.fst++os) t=AZ D k os (t+Ce z)
 | [],os,t,_,_=>rfl
 |p::z,os,t,h,hD=>by rw[GY]at hD;rw[gu,io,AZ,fb oM,h p (.head _) (t+1) oM];show AZ D k (z.map Prod.fst++os) (t+1+p.2)=_;rw[Sv (λx hx=>h x (.tail _ hx)) oM,GY];congr 1;omega
def XI{D:Nat}{k k1:Option sq->Nat->Out}(h:∀o t t',k o t= .fail t'->t<=t'/\∀t2,t2+(t' - t)<=D->k1 o t2= .fail (t2+(t' - t))):∀{os:List (Option sq)} {t t':Nat},AZ D k os t= .fail t'->∃z:Τ,z.map Prod.fst=os/\Pi D k1 z/\t'=t+Ce z
 | [],t,t',ht=>by rw[AZ]at ht;cases ht;exact⟨[],rfl,λp h=>(by cases h),rfl⟩
 |o::os,t,t',ht=>by
  rw[AZ]at ht;by_cases hD:t=D
  .rw[fo hD]at ht;cases ht
  .rw[fb hD]at ht;cases hk:k o (t+1)with
   |fail s=>
    rw[hk]at ht;obtain⟨z,h1,h2,h3⟩:=XI h ht;obtain⟨h4,h5⟩:=h o (t+1) s hk;refine⟨(o,s - (t+1))::z,by rw[gu,h1],λp hp=>?_,by rw[GY];dsimp only;omega⟩;obtain rfl|hp:=gj.1 hp
    .exact λt2 hD=>h5 t2 hD
    .exact h2 p hp
   |done _ _=>rw[hk]at ht;cases ht
   |err _=>rw[hk]at ht;cases ht
   |rv=>rw[hk]at ht;cases ht
def XH{D:Nat}{k k1:Option sq->Nat->Out}(h:∀o t t',k o t= .fail t'->t<=t'/\∀t2,t2+(t' - t)<=D->k1 o t2= .fail (t2+(t' - t))){ns:Ζ}{n:Nat}:∀{os:List (Option sq)} {t:Nat},AZ D k os t= .done ns n->∃(z:Τ) (o:Option sq) (post:List (Option sq)),os=z.map Prod.fst++o::post/\Pi D k1 z/\k o (t+Ce z+1)= .done ns n
 | [],t,ht=>by rw[AZ]at ht;cases ht
 |o::os,t,ht=>by
  rw[AZ]at ht;by_cases hD:t=D
  .rw[fo hD]at ht;cases ht
  .rw[fb hD]at ht;cases hk:k o (t+1)with
   |fail s=>
    rw[hk]at ht;obtain⟨z,o2,post,h1,h2,h3⟩:=XH h ht;obtain⟨h4,h5⟩:=h o (t+1) s hk;refine⟨(o,s - (t+1))::z,o2,post,by rw[gu,h1];rfl,λp hp=>?_,?_⟩
    .obtain rfl|hp:=gj.1 hp
     .exact λt2 hD=>h5 t2 hD
     .exact h2 p hp
    .rw[GY];have:t+(s - (t+1)+1+Ce z)+1=s+Ce z+1:=oM;dsimp only;rwa [this]
   |done ns' t'=>rw[hk]at ht;exact⟨[],o,os,rfl,λp hp=>(by cases hp),hk.Z ht⟩
   |err _=>rw[hk]at ht;cases ht
   |rv=>rw[hk]at ht;cases ht
def Sw{D:Nat}{k:Option sq->Nat->Out}{ns:Ζ}{n:Nat}:∀{os:List (Option sq)} {t:Nat},AZ D k os t= .done ns n->∃o t',k o t'= .done ns n
 | [],t,h=>by rw[AZ]at h;cases h
 |o::os,t,h=>by
  rw[AZ]at h;by_cases hD:t=D
  .rw[fo hD]at h;cases h
  .rw[fb hD]at h;cases hk:k o (t+1)with
   |fail s=>rw[hk]at h;exact Sw h
   |done _ _=>rw[hk]at h;exact⟨o,t+1,hk.Z h⟩
   |err _=>rw[hk]at h;cases h
   |rv=>rw[hk]at h;cases h
section
variable {q:IS} {P:Η}
def Nv(ns:Ζ)(k:Nat)(e:Η):(q.ß P).bind ns k e=q.bind ns k e:=by unfold IS.bind;rw[X7 (q:=q) (q2:=q.ß P) rfl rfl];rfl
def TP(L:Κ)(n:PU)(l:Λ)(P:Η):BG L n l P=(BG L n l []).filter (DW P n)++(BG L n l []).filter λv=>!DW P n v:=by
 have h:∀v,DW [] n v=false:=λv=>by simp[DW]
 have e:BG L n l []=(D1 n L).filter (B2 l):=by unfold BG;simp[h]
 rw[e];rfl
def NO{α:Type}(p:α->Bool):∀l:List α,(l.filter p++l.filter λx=>!p x).Perm l
 | []=>.refl _
 |x::l=>by
  rw[me,me];cases h:p x with
  |true=>simpa using(NO p l).cons x
  |false=>simp only[Bool.not_false,if_true];exact List.perm_middle.Z ((NO p l).cons x)
def Zv(hq:q.OF=[])(c:Η)(w:uu):(CE ((q.ß P).xk c w)).Perm (CE (q.xk c w)):=by
 unfold IS.xk;cases un c w.Y with
 |some v=>exact .refl _
 |none=>unfold CE;dsimp only;refine List.Perm.append_right _ (List.Perm.map _ ?_);show(BG q.L w.Y w.range P).Perm (BG q.L w.Y w.range q.OF);rw[hq,TP];exact NO _ _
def QB(hq:q.OF=[]):∀(f:Nat)(ns:Ζ)(k:Nat)(l:Ο)(e:Η)(t t':Nat),q.V f ns k l e t= .fail t'->t<=t'/\∀t2,t2+(t' - t)<=q.D->(q.ß P).V f ns k l e t2= .fail (t2+(t' - t))
 |0,_,_,_,_,_,_,h=>by rw[IS.V]at h;cases h
 |f+1,ns,k,[],e,t,t',h=>by
  rw[IS.V]at h;cases hb:q.bind ns k e with
  |wy=>rw[hb]at h;cases h;refine⟨ga _,λt2 _=>?_⟩;rw[IS.V,Nv,hb,po];rfl
  |many=>rw[hb]at h;cases h
  |ok ns'=>
   rw[hb]at h;dsimp only at h;by_cases hl:k+1=ns'.length
   .rw[fo hl]at h;cases h
   .rw[fb hl]at h;obtain⟨h1,h2⟩:=QB hq f _ _ _ _ _ _ h;refine⟨h1,λt2 hD=>?_⟩;rw[IS.V,Nv,hb];dsimp only;rw[fb hl];exact h2 t2 hD
 |f+1,ns,k,w::l,e,t,t',h=>by rw[IS.V]at h;obtain⟨z,h1,h2,h3⟩:=XI (k1:=λo t=>(q.ß P).V f ns k l (B0 e w.Y o) t) (λo t t' hk=>QB hq f ns k l (B0 e w.Y o) t t' hk) h;refine⟨oM,λt2 hD=>?_⟩;obtain⟨z',a0,a4⟩:=Wu Prod.fst (Zv (P:=P) hq (th ns k) w) z h1;have hc:=Uh a0;rw[IS.V,<-a4];have:=Sv (D:=q.D) (k:=λo t=>(q.ß P).V f ns k l (B0 e w.Y o) t) (z:=z') (os:=[]) (t:=t2) (λp hp=>h2 p (a0.mem_iff.1 hp)) oM;rw[gz]at this;show AZ q.D _ (z'.map Prod.fst) t2=_;rw[this,AZ];congr 1;omega
def Pm(n:PU)(v:sq)(ks:List CW):Prop:=∃x∈ks,x.1=n/\x.2.1=v
def Rr{N:Nat}:∀{xs:Ζ} {ks:List CW} {r:Ζ×LQ},AO N ks xs=some r->∀x∈xs,x.key∈ks++r.1.map BY.key
 | [],_,_,_,x,hx=>by cases hx
 |y::xs,ks,r,h,x,hx=>by
  rw[AO]at h;cases hf:ks.findIdx? λz=>decide (z=y.key)with
  |some i=>
   rw[hf]at h;obtain⟨r',h1,h2⟩:=jc.1 h;subst h2;obtain rfl|hx:=gj.1 hx
   .obtain⟨hi,hy,_⟩:=jw.1 hf;have e:ks[i]=x.key:=by simpa using hy
    exact fj.2 (.inl (e▸fm hi))
   .exact Rr h1 x hx
  |none=>
   rw[hf]at h;dsimp only at h;by_cases hN:ks.length=N
   .rw[fo hN]at h;cases h
   .rw[fb hN]at h;obtain⟨r',h1,h2⟩:=jc.1 h;subst h2;obtain rfl|hx:=gj.1 hx
    .exact fj.2 (.inr (.head _))
    .have:=Rr h1 x hx;rw[fh]at this;exact this
def X5{env:Η}:∀{l:Η} {xs:Ζ},AU q env l=some xs->∀p∈l,∃x∈xs,x.Y=p.Y/\x.v=p.v
 | [],_,_,p,hp=>by cases hp
 |r::l,xs,h,p,hp=>by
  rw[AU]at h;cases hc:Cf q.L q.m.ru env r with
  |none=>rw[hc]at h;cases h
  |some c=>
   rw[hc]at h;obtain⟨ys,h1,rfl⟩:=jc.1 h;obtain rfl|hp:=gj.1 hp
   .exact⟨_,.head _,rfl,rfl⟩
   .obtain⟨x,hx,e⟩:=X5 h1 p hp;exact⟨x,.tail _ hx,e⟩
def Zf{ns ns':Ζ}{k:Nat}{e:Η}(h:q.bind ns k e= .ok ns'):(∀x∈ns.map BY.key,x∈ns'.map BY.key)/\∀p∈e,Pm p.Y p.v (ns'.map BY.key):=by
 unfold IS.bind at h;cases ht:AU q (AD e) (AD e)with
 |none=>rw[ht]at h;cases h
 |some xs=>
  rw[ht]at h;dsimp only at h;cases hp:AO q.N (ns.map BY.key) xs with
  |none=>rw[hp]at h;cases h
  |some r=>rw[hp]at h;cases h;rw[gd,H5];refine⟨λx hx=>fj.2 (.inl hx),λp a0=>?_⟩;obtain⟨x,hx,e1,e2⟩:=X5 ht p ((DG e).mem_iff.2 a0);exact⟨x.key,Rr hp x hx,e1,e2⟩
def QD:∀(f:Nat)(ns:Ζ)(k:Nat)(l:Ο)(e:Η)(t:Nat)(ns':Ζ)(n:Nat),q.V f ns k l e t= .done ns' n->(∀x∈ns.map BY.key,x∈ns'.map BY.key)/\∀p∈e,Pm p.Y p.v (ns'.map BY.key)
 |0,_,_,_,_,_,_,_,h=>by rw[IS.V]at h;cases h
 |f+1,ns,k,[],e,t,ns',n,h=>by
  rw[IS.V]at h;cases hb:q.bind ns k e with
  |wy=>rw[hb]at h;cases h
  |many=>rw[hb]at h;cases h
  |ok a0=>
   rw[hb]at h;obtain⟨h1,h2⟩:=Zf hb;dsimp only at h;by_cases hl:k+1=a0.length
   .rw[fo hl]at h;cases h;exact⟨h1,h2⟩
   .rw[fb hl]at h;obtain⟨h3,_⟩:=QD f _ _ _ _ _ _ _ h;exact⟨λx hx=>h3 x (h1 x hx),λp hp=>let⟨x,a,b⟩:=h2 p hp;⟨x,h3 x a,b⟩⟩
 |f+1,ns,k,w::l,e,t,ns',n,h=>by
  rw[IS.V]at h;obtain⟨o,t3,h3⟩:=Sw h;obtain⟨h4,h5⟩:=QD f _ _ _ _ _ _ _ h3;refine⟨h4,λp hp=>h5 p ?_⟩;unfold B0;cases o with
  |none=>exact hp
  |some v=>
   dsimp only;split
   .exact hp
   .exact fj.2 (.inl hp)
def KP(p:sq->Bool)(c:Dh):Bool:=match c.1 with|some u=>p u|none=>false
def YE{V:List sq}{p:sq->Bool}{N:List (Option sq)}(hN:N=[]\/N= [none]){z:Τ}{o:Option sq}{post:List (Option sq)}(h:V.map some++N=z.map Prod.fst++o::post)(ho:∀v,o=some v->p v=true):
  ∃(z1:Τ) (a5:List (Option sq)),(V.filter p++V.filter λv=>!p v).map some++N=z1.map Prod.fst++o::a5/\(∀x∈z1,x∈z)/\Ce z1<=Ce z:=by
 have hi:(V.map some++N)[z.length]?=some o:=by rw[h,ic sI];simp
 have hz:z.map Prod.fst=(V.map some++N).take z.length:=by rw[h,nz sI]
 cases o with
 |none=>
  have hl:V.length<=z.length:=by
   obtain a0|a4:=pp z.length V.length
   .rw[fy (by simpa using a0),gc,dw a0]at hi;simp at hi
   .exact a4
  have a6:N= [none]:=by
   obtain rfl|rfl:=hN
   .rw[gz,gc,jf hl]at hi;cases hi
   .rfl
  subst a6;have a7:z.length=V.length:=by have:=(ec.1 hi).1;simp at this;omega
  rw[nz (by simp[a7])]at hz;obtain⟨z1,h1,h2⟩:=Wu Prod.fst ((NO p V).map some) z hz;exact⟨z1,[],by rw[h2],λx hx=>h1.mem_iff.1 hx,Nat.le_of_eq (Uh h1)⟩
 |some v=>
  have hl:z.length<V.length:=by
   obtain a0|a4:=pp z.length V.length
   .exact a0
   .rw[ic (by simpa using a4)]at hi;obtain rfl|rfl:=hN
    .simp at hi
    .have:=fx hi;simp at this
  rw[fy (by simpa using hl),gc,dw hl]at hi;have hv:V[z.length]=v:=by simpa using hi
  rw[nj (by simp;omega),<-List.map_take]at hz;have a8:V.filter p=(V.take z.length).filter p++v::(V.drop (z.length+1)).filter p:=by
   conv=>lhs;rw[<-gk z.length V,gp hl,kr,me,hv,fo (ho v rfl)]
  have a9:(z.filter (KP p)).map Prod.fst=((V.take z.length).filter p).map some:=by
   have:∀(z:Τ)(U:List sq),z.map Prod.fst=U.map some->(z.filter (KP p)).map Prod.fst=(U.filter p).map some:=by
    intro z;induction z with
    |nil=>intro U hU;cases U with
     |nil=>rfl
     |cons _ _=>cases hU
    |cons c z ih=>
     intro U hU;cases U with
     |nil=>cases hU
     |cons u U=>
      simp only[gu,ox]at hU;have e:KP p c=p u:=by unfold KP;rw[hU.1]
      rw[me,me,e];split
      .rw[gu,gu,ih U hU.2,hU.1]
      .exact ih U hU.2
   exact this z _ hz
  refine⟨z.filter (KP p),((V.drop (z.length+1)).filter p).map some++((V.filter λv=>!p v).map some++N),?_,λx hx=>(jd.1 hx).1,ZN List.filter_sublist⟩;rw[a9,a8];simp
def QA(hq:q.OF=[])(hW:∀ns k,((q.sx ns k).map (·.Y)).Nodup)(hZ:∀ns k,∀w∈q.sx ns k,w.Y≠ta.Y){ns':Ζ}(hP:∀n v,n≠ta.Y->Pm n v (ns'.map BY.key)->(⟨n,v⟩:sy)∈P):
  ∀(f:Nat)(ns:Ζ)(k:Nat)(l:Ο)(e:Η)(t n:Nat),(l.map (·.Y)).Nodup->(∀w∈l,w.Y≠ta.Y)->(∀w∈l,∀p∈e,p.Y=w.Y->un (th ns k) w.Y≠none)->q.V f ns k l e t= .done ns' n->
   ∃d,t+d<=n/\∀t2,t2+d<=q.D->(q.ß P).V f ns k l e t2= .done ns' (t2+d)
 |0,_,_,_,_,_,_,_,_,_,h=>by rw[IS.V]at h;cases h
 |f+1,ns,k,[],e,t,n,_,_,_,h=>by
  rw[IS.V]at h;cases hb:q.bind ns k e with
  |wy=>rw[hb]at h;cases h
  |many=>rw[hb]at h;cases h
  |ok a7=>
   rw[hb]at h;dsimp only at h;by_cases hl:k+1=a7.length
   .rw[fo hl]at h;cases h;refine⟨0,ga _,λt2 _=>?_⟩;rw[IS.V,Nv,hb];dsimp only;rw[fo hl];rfl
   .rw[fb hl]at h;obtain⟨d,h1,h2⟩:=QA hq hW hZ hP f a7 (k+1) _ _ t n (hW _ _) (hZ _ _) (λw _ p hp he hn=>Su hn p hp he) h;refine⟨d,h1,λt2 hD=>?_⟩;rw[IS.V,Nv,hb];dsimp only;rw[fb hl];exact h2 t2 hD
 |f+1,ns,k,w::l,e,t,n,hnd,hz,he,h=>by
  rw[IS.V]at h;obtain⟨z,o,post,h1,h2,h3⟩:=XH (k1:=λo t=>(q.ß P).V f ns k l (B0 e w.Y o) t) (λo t t' hk=>QB hq f ns k l (B0 e w.Y o) t t' hk) h;rw[gu]at hnd;obtain⟨a9,a5⟩:=nu.1 hnd;have a8:∀x∈l,∀p∈B0 e w.Y o,p.Y=x.Y->un (th ns k) x.Y≠none:=λx hx p hp a4=>by
   unfold B0 at hp;cases o with
   |none=>exact he x (.tail _ hx) p hp a4
   |some v=>
    dsimp only at hp;split at hp
    .exact he x (.tail _ hx) p hp a4
    .obtain hp|hp:=fj.1 hp
     .exact he x (.tail _ hx) p hp a4
     .rw[eu]at hp;subst hp;exact fu (gv.2 ⟨x,hx,a4.H⟩) a9
  obtain⟨d,h4,h5⟩:=QA hq hW hZ hP f ns k l _ _ n a5 (λx hx=>hz x (.tail _ hx)) a8 h3;have key:∃(z1:Τ) (a0:List (Option sq)),CE ((q.ß P).xk (th ns k) w)=z1.map Prod.fst++o::a0/\(∀x∈z1,x∈z)/\Ce z1<=Ce z:=by
   unfold IS.xk at h1 ⊢;cases ht:un (th ns k) w.Y with
   |some v=>rw[ht]at h1;exact⟨z,post,h1,λx hx=>hx,ga _⟩
   |none=>
    rw[ht]at h1;unfold CE at h1 ⊢;dsimp only at h1 ⊢;have e1:BG (q.ß P).L w.Y w.range (q.ß P).OF=(BG q.L w.Y w.range []).filter (DW P w.Y)++(BG q.L w.Y w.range []).filter λv=>!DW P w.Y v:=TP _ _ _ _;rw[e1];rw[hq]at h1;refine YE (by split<;>simp) h1 λv hv=>?_;subst hv;have a6:B0 e w.Y (some v)=e++[⟨w.Y,v⟩]:=by unfold B0;dsimp only;rw[fb];rw[jv];rintro⟨p,hp,b0⟩;exact he w (.head _) p hp (by simpa[As]using b0) ht
    rw[a6]at h3;obtain⟨_,h6⟩:=QD f _ _ _ _ _ _ _ h3;have:=hP w.Y v (hz w (.head _)) (h6 ⟨w.Y,v⟩ sI);simpa[DW]using this
  obtain⟨z1,a0,g1,g2,g3⟩:=key;refine⟨Ce z1+1+d,oM,λt2 hD=>?_⟩;rw[IS.V,g1];show AZ q.D _ _ t2=_;rw[Sv (λp hp=>h2 p (g2 p hp)) oM,AZ,fb oM,h5 (t2+Ce z1+1) oM];show Out.done ns' (t2+Ce z1+1+d)=_;congr 1;omega
end
end Go.Hal
namespace Go.Hal
def LW{m:vu}{OF:Η}{ns:Ζ}{t:Nat}(h:A4 L m uo OF D N= .done ns t):(AV m=true/\1<=D/\D<=4096/\1<=N/\N<=128)/\(IS.mk L m uo OF D.toNat N.toNat).run= .done ns t:=by
 unfold A4 at h;split at h
 .rename_i a0;refine⟨a0,?_⟩;unfold IS.Ņ at h;split at h
  .cases h
  .cases h
  .rename_i hr;cases h;exact hr
  .cases h
 .cases h
def R9{m:vu}{OF:Η}(a0:AV m=true/\1<=D/\D<=4096/\1<=N/\N<=128):A4 L m uo OF D N=(IS.mk L m uo OF D.toNat N.toNat).Ņ:=by unfold A4;rw[fo a0]
def WA{q:IS}{ns:Ζ}{t:Nat}(h:q.run= .done ns t):q.Ņ= .done ns t:=by unfold IS.Ņ;rw[h]
def Zax{m:vu}{OF:Η}(h:(A4 L m uo OF D N).code=0):∃ns t,A4 L m uo OF D N= .done ns t:=by
 have a4:AV m=true/\1<=D/\D<=4096/\1<=N/\N<=128:=jg λa0=>by unfold A4 at h;rw[fb a0]at h;cases h
 rw[R9 a4]at h ⊢;have hf:=Me (q:=⟨L,m,uo,OF,D.toNat,N.toNat⟩) (by show 1<=N.toNat;omega);unfold IS.Ņ at h ⊢;revert h hf;cases(IS.mk L m uo OF D.toNat N.toNat).run with
 |rv=>exact λ_ hf=>hf.F
 |fail t=>exact λh _=>by cases h
 |done ns t=>exact λ_ _=>⟨ns,t,rfl⟩
 |err e=>intro h hf;have h:e=0:=h;rcases hf with hf|hf<;>omega
def QE{q:IS}:∀(f:Nat)(ns:Ζ)(k:Nat)(l:Ο)(e:Η)(t:Nat)(ns':Ζ)(n:Nat),q.V f ns k l e t= .done ns' n->(ns[0]?).map BY.key=some ta.key->(ns'[0]?).map BY.key=some ta.key
 |0,_,_,_,_,_,_,_,h,_=>by rw[IS.V]at h;cases h
 |f+1,ns,k,[],e,t,ns',n,h,h0=>by
  rw[IS.V]at h;cases hb:q.bind ns k e with
  |wy=>rw[hb]at h;cases h
  |many=>rw[hb]at h;cases h
  |ok a0=>
   rw[hb]at h;dsimp only at h;have h1:(a0[0]?).map BY.key=some ta.key:=by
    unfold IS.bind at hb;cases ht:AU q (AD e) (AD e)with
    |none=>rw[ht]at hb;cases hb
    |some xs=>
     rw[ht]at hb;dsimp only at hb;cases hp:AO q.N (ns.map BY.key) xs with
     |none=>rw[hp]at hb;cases hb
     |some r=>rw[hp]at hb;cases hb;rw[<-gc,gd,H5];rw[<-gc]at h0;rwa [fy (ec.1 h0).1]
   by_cases hl:k+1=a0.length
   .rw[fo hl]at h;cases h;exact h1
   .rw[fb hl]at h;exact QE f _ _ _ _ _ _ _ h h1
 |f+1,ns,k,w::l,e,t,ns',n,h,h0=>by rw[IS.V]at h;obtain⟨o,t',h'⟩:=Sw h;exact QE f _ _ _ _ _ _ _ h' h0
def Zfc{m:vu}{ns:Ζ}{t:Nat}{P:Η}(hG:vl L)(hP:∀y∈ns.drop 1,(⟨y.Y,y.v⟩:sy)∈P)(h:A4 L m uo [] D N= .done ns t):∃t',A4 L m uo P D N= .done ns t'/\t'<=t:=by
 obtain⟨a5,hr⟩:=LW h;generalize hq:IS.mk L m uo [] D.toNat N.toNat=q at hr;have a6:q.L=L:=by rw[<-hq]
 have a7:q.m=m:=by rw[<-hq]
 have a8:q.OF=[]:=by rw[<-hq]
 have a9:q.D=D.toNat:=by rw[<-hq]
 have b0:q.N=N.toNat:=by rw[<-hq]
 have hw:=λns k=>Yc (q:=q) (by rwa [a6]) (by rw[a7];exact a5.1) ns k;have hf:=Me (q:=q) oM;rw[hr]at hf;obtain⟨_,f1,f2⟩:=hf;have a0:=QE _ _ _ _ _ _ _ _ hr rfl;obtain⟨d,h1,h2⟩:=QA (P:=P) a8 (λns k=>(hw ns k).1) (λns k w h=>VM ((hw ns k).2 w h).1) (ns':=ns) (λn v hn hh=>by
  obtain⟨x,hx,rfl,rfl⟩:=hh;obtain⟨y,hy,rfl⟩:=gv.1 hx;obtain⟨i,hi,a4⟩:=gh.1 hy;cases i with
  |zero=>rw[dw hi,a4]at a0;simp only[ir,ff]at a0;rw[a0]at hn;exact fu rfl hn
  |succ i=>refine hP y ?_;rw[gh];exact⟨i,by rw[gq];omega,by rw[li,<-a4];congr 1;omega⟩) _ _ _ _ _ _ _ (hw _ _).1 (λw h=>VM ((hw _ _).2 w h).1) (λw _ p hp=>by cases hp) hr
 refine⟨0+d,?_,oM⟩;rw[R9 a5];refine WA ?_;have h3:=h2 0 oM;rw[<-hq]at h3;exact h3
structure ľ(w:Qd)(q:Nat):Prop where
 str:∀a t,a.block=q->w.cell? a≠some (.string t)
 num:∀a,a.block=q->∀x:tv,¬se w a (x.lo.c++x.hi.c)
def EC(S:Nat->Prop)(q:Nat)(b:Nat):Prop:=S b/\b≠q
section
variable {α:Type} {E:xh α} {w:Qd} {S:Nat->Prop} {q:Nat} {s:Sl} {l:List α}
def IT.unf(hE:∀x cs,E.rep w S x cs->E.rep w (EC S q) x cs/\∀ad,se w ad cs->ad.block≠q)(h:IT E w S s l):IT E w (EC S q) s l:=by
 obtain⟨h1,h2,h3,h4,h5⟩:=h;refine⟨h1,h2,h3,h4,?_⟩;rcases h5 with h5|⟨ad,ha,hS,a0⟩
 .exact .inl h5
 .cases l with
  |nil=>exact .inl rfl
  |cons x r=>obtain⟨cs,hr,hl⟩:=a0 0 x rfl;have a4:=(hE x cs hr).2 _ hl;rw[CY]at a4;exact .inr ⟨ad,ha,⟨hS,a4⟩,λi y hy=>let⟨cs,h1,h2⟩:=a0 i y hy;⟨cs,(hE y cs h1).1,h2⟩⟩
def ľ.at(hq:ľ w q){k:Nat}{t:PU}(hk:cs[k]?=some (.string t)){ad:LP}(hl:se w ad cs):ad.block≠q:=λe=>by have:=hl k _ hk;exact hq.str (ad.add k) t (by rw[CY];exact e) this
end
section
variable {w:Qd} {S:Nat->Prop} {q:Nat} {s:Sl}
def Zmx{l:Η}(hq:ľ w q)(h:IT uy w S s l):IT uy w (EC S q) s l:=h.unf λx cs hr=>⟨hr,λad hl=>hq.at (k:=0) (t:=x.Y) (by have h1:=hr.1;subst h1;rfl) hl⟩
def Zmv{l:LQ}(hq:ľ w q)(h:IT wo w S s l):IT wo w (EC S q) s l:=h.unf λx cs hr=>⟨hr,λad hl=>hq.at (k:=0) (t:=x.Y) (by have h1:=hr.1;subst h1;rfl) hl⟩
def Zm0{l:List PU}(hq:ľ w q)(h:IT vx w S s l):IT vx w (EC S q) s l:=h.unf λx cs hr=>⟨hr,λad hl=>hq.at (k:=0) (t:=x) (by have h1:=hr.1;subst h1;rfl) hl⟩
def Zmy{l:Λ}(hq:ľ w q)(h:IT ui w S s l):IT ui w (EC S q) s l:=h.unf λx cs hr=>⟨hr,λad hl e=>hq.num ad e x (by have h1:=hr.1;subst h1;exact hl)⟩
def HI(hq:ľ w q)(h:IT rq w S s l):IT rq w (EC S q) s l:=h.unf λx cs ⟨h0,u,hc,hu⟩=>⟨⟨h0,u,hc,Zmy hq hu⟩,λad hl=>hq.at (k:=0) (t:=x.Y) (by rw[hc];rfl) hl⟩
def Zmw{l:Ζ}(hq:ľ w q)(h:IT ud w S s l):IT ud w (EC S q) s l:=h.unf λx cs ⟨h0,c,e,hc,h1,h2⟩=>⟨⟨h0,c,e,hc,Zmx hq h1,Zmv hq h2⟩,λad hl=>hq.at (k:=0) (t:=x.Y) (by rw[hc];rfl) hl⟩
def ML{l:Θ}(hq:ľ w q)(h:IT vm w S s l):IT vm w (EC S q) s l:=h.unf λx cs ⟨h0,ps,d,e,o,hc,h1,h2,h3,h4⟩=>⟨⟨h0,ps,d,e,o,hc,Zm0 hq h1,HI hq h2,HI hq h3,HI hq h4⟩,λad hl=>hq.at (k:=1) (t:=x.td.Y) (by rw[hc];rfl) hl⟩
end
def HJ(h:AT w a cs)(hs:∀t,Value.string t∉cs)(hn:cs.length<6\/∀k n,Value.int k n∉cs):ľ w a.block:=by
 obtain⟨T,ho,a0,hh⟩:=h;have cell:∀(b:LP) v,b.block=a.block->w.cell? b=some v->v∈cs/\b.off<cs.length/\b.spot=none:=λb v hb hc=>by
  unfold World.cell? at hc;rw[hb,hh]at hc;simp only at hc;split at hc
  .cases hc
  .rename_i a0;rw[ku]at hc;exact⟨fx hc,(ec.1 hc).1,by simpa using a0⟩
 refine⟨λb t hb hc=>hs t (cell b _ hb hc).1,λb hb x hl=>?_⟩;have h0:=cell _ _ (by rwa [CY]) (hl 0 _ rfl);have h5:=cell _ _ (by rwa [CY]) (hl 5 _ rfl);obtain hn|hn:=hn
 .obtain⟨bb,off,sp⟩:=b;have a4:sp=none:=by have:=h0.2.2;rw[add_zero]at this;exact this
  subst a4;have:=h5.2.1;have e:(Addr.add ⟨bb,off,none⟩ 5)=⟨bb,off+5,none⟩:=by unfold Addr.add;split<;>simp_all
  rw[e]at this;simp only at this;omega
 .exact hn _ _ h0.1
def N9(h:Ax l=true):xw l/\l.length<=999:=by unfold Ax at h;simp only[ep,fp]at h;exact⟨(Uq h.1).1,oM⟩
def Zgg{m:vu}(h:AV m=true):J8 m/\Ni m:=by obtain⟨h1,h2,h3,h4,_⟩:=QT h;have k1:=N9 h1;have k2:=N9 h2;have k3:=N9 h3;have k4:=N9 h4;exact⟨⟨k1.2,k2.2,k3.2,k4.2⟩,k1.1,k2.1,k3.1,k4.1⟩
structure xx(w:Qd)(S:Nat->Prop)(d e o v g t:Sl)(s:è):Prop where
 m:za w S d e o v s.m
 g:IT ud w S g s.g
 t:IT vm w S t s.T
def xx.U{e v g:Sl}{s:è}(h:xx w S d e o v g t s)(hx:AI w w'):xx w' S d e o v g t s:=⟨h.m.U hx,h.g.U hx,h.t.U hx⟩
def xx.O{S':Nat->Prop}{e v g:Sl}{s:è}(h:xx w S d e o v g t s)(hs:∀b,S b->S' b):xx w S' d e o v g t s:=⟨h.m.O hs,h.g.O hs,h.t.O hs⟩
def xx.J{b:Nat}{e v g:Sl}{s:è}(h:xx w S d e o v g t s)(hb:ur b w w')(hn: ¬S b):xx w' S d e o v g t s:=⟨h.m.J hb hn,h.g.J hb hn,h.t.J hb hn⟩
def Zjs(L:Κ)(m:vu)(uo:Bool)(OF:Η)(D N:Int):(A4 L m uo OF D N).ns.length<=1000000000:=by
 cases h:A4 L m uo OF D N with
 |done ns t=>obtain⟨⟨_,_,_,h1,h2⟩,hr⟩:=LW h;have hf:=Me (q:=IS.mk L m uo OF D.toNat N.toNat) (by show 1<=N.toNat;omega);rw[hr]at hf;have h3:ns.length<=N.toNat:=hf.2.2;show ns.length<=_;omega
 |_=>exact im _
def Zi8{T:Θ}{U:Nat->Prop}{R:Á}(hs:IT vm w S s T)(ht:IT vm w U t T)(hR:∀w',AI w w'->R true w'):KJ s t w R:=by unfold KJ;have h1:=hs.len;have h2:=ht.len;refine An.intro λa w1 x1 ha _ _=>An.intro λa1 w2 x2 a4 _ _=>⟨s,ha.at0 (r:=[]) x2 rfl,t,a4.at0 (r:=[]) xR rfl,λh=>fu oM h,λ_=>?_⟩;have a5:=x1.Z x2;refine rn.up hs.max (λ_ w'=>AI w2 w') xR λi w3 d1 hi x3 hn=>⟨s,ha.at0 (r:=[]) (x2.Z x3) rfl,λc5=>sh.drew λw4 x4=>?_,λ_=>hR w3 (a5.Z x3)⟩;have b2:i<T.length:=oM;have a7:=x3.Z x4;have a6:=a5.Z a7;obtain⟨ad,ps,dd,ee,oo,b9,_,d0,hp,hd,he,ho,hc⟩:=xt hs b2;obtain⟨a0,c9,b7,b8,c8,b5,_,_,c7,c3,c4,c6,b0⟩:=xt ht b2;have i1:s.a=some ad/\(0:Int)<=(i:Int)/\(i:Int)<(s.len:Int):=⟨b9,oM,c5⟩;have i2:t.a=some a0/\(0:Int)<=(i:Int)/\(i:Int)<(t.len:Int):=⟨b5,oM,oM⟩;refine⟨s,ha.at0 (r:=[]) (x2.Z a7) rfl,ad,i1,ps,by rw[fa];exact(hc _ a6).pre rfl,t,a4.at0 (r:=[]) a7 rfl,a0,i2,c9,by rw[fa];exact(b0 _ a6).pre rfl,?_⟩;refine Ob.V (Zi9 (hp.U a6) (c7.U a6) λw5 x5=>⟨_,rfl,sh.drew λw6 x6=>?_⟩);have a8:=a7.Z (x5.Z x6);have b4:=a5.Z a8;refine⟨s,ha.at0 (r:=[]) (x2.Z a8) rfl,ad,i1,T[i].td.Y,T[i].td.v.ma,T[i].td.v.mi,T[i].td.v.pa,dd,ee,oo,by rw[fa];exact(hc _ b4).G (k:=1) rfl,t,a4.at0 (r:=[]) a8 rfl,a0,i2,T[i].td.Y,T[i].td.v.ma,T[i].td.v.mi,T[i].td.v.pa,b7,b8,c8,by rw[fa];exact(b0 _ b4).G (k:=1) rfl,?_⟩;have up:∀{q:Nat->Prop} {tt:Sl} {l:Ι},IT rq w q tt l->IT rq w6 (λ_=>True) tt l:=λh=>(h.U b4).O λ_ _=>trivial;refine KD.V (Zi2 (p:=T[i].td) (q:=T[i].td) (up hd) (up he) (up ho) (up c3) (up c4) (up c6) λw7 x7=>⟨_,rfl,sh.drew λw8 x8=>py (py ?_)⟩);have a9:=a8.Z (x7.Z x8);have b6:=a5.Z a9;rw[ie rfl,ie rfl];refine⟨s,λ_=>ha.at0 (r:=[]) (x2.Z a9) rfl,ad,λ_=>i1,T[i].rk,λ_=>by rw[fa];exact(hc _ b6).G (k:=8) (r:=[]) rfl,t,λ_=>a4.at0 (r:=[]) a9 rfl,a0,λ_=>i2,T[i].rk,λ_=>by rw[fa];exact(b0 _ b6).G (k:=8) (r:=[]) rfl,λhq=>?_,λ_=>hn b2 w8 a9⟩;simp at hq
end Go.Hal
namespace Go.Hal
open Go.Sort
def He{n:PU}(hS:Old S w)(hs:IT rq w S s l)(hl:l.length<=1000000)(hR:∀t w',AI w w'->ÿ w' w.heap.size S t (BB l n)->R t w'):Ek s n w R:=by
 refine An.intro λa w1 x1 a0 a8 _=>Mj.V (ZE (hS.U x1.size) (hs.U x1) hl λt w2 x2 hd=>⟨t,rfl,?_⟩);obtain⟨z,hf,rfl,hz⟩:=hd;refine Mo.V (Zai (d:=λx=>Ag x.1 n) hf x2.size (by rw[eh]at hl ⊢;unfold Ab;omega) (λx hx w' k hb _ _ hk=>⟨_,_,rfl,enters_of func177 kR rfl,NF.V ?_⟩) λt3 w3 b3 _ _ _ a5=>⟨t3,rfl,?_⟩)
 .unfold NF;have a7:=x2.A hb;exact An.intro λa2 w4 x4 a4 _ _=>⟨_,a4.at0 xR rfl,_,a0.at0 (a7.Z x4) rfl,hk w4 x4⟩
 .have a6:∀p∈z,ED w3 S p:=ÿ.below hz b3 λb hb=>ju (hS b hb) x1.size;refine hR t3 w3 ((x1.Z x2).A (b3.O x1.size)) ⟨z.filter λp=>!Ag p.1.1 n,?_,?_,λp hp=>a6 p (jd.1 hp).1⟩
  .rw[VG Prod.fst (λx:Bo=>!Ag x.1 n)];exact a5.low x1.size
  .unfold BB;rw[<-VG Prod.snd (λd:uf=>!Hn n d)];congr 1;refine List.filter_congr λp hp=>?_;rw[(hz p hp).1];unfold Hn;congr 1;rw[ij,AA,jl]
def NH{n:PU}{R:Á}(hs:IT rq w S s l)(hR:∀w',AI w w'->R (CA l n) w'):Gc s n w R:=by
 unfold Gc;obtain⟨z,hz,rfl,hr⟩:=hs.raw;refine An.intro λa w1 x1 a0 _ _=>Mm.V (ZL (p:=λx=>Ag x.1 n) (hz.U x1) (λx hx w' k a5 hk=>⟨_,_,rfl,enters_of func181 kR rfl,NE.V ?_⟩) λw2 x2=>⟨_,rfl,?_⟩)
 .unfold NE;exact An.intro λa2 w4 x4 a4 _ _=>⟨_,a4.at0 xR rfl,_,a0.at0 (a5.Z x4) rfl,hk w4 x4⟩
 .have e:(z.map Prod.fst).any (λx=>Ag x.1 n)=CA (z.map Prod.snd) n:=by
   unfold CA;rw[List.any_map,List.any_map,ij,jv,jv];have e2:∀p∈z,(Ag p.1.1 n=true↔Hn n p.2=true):=λp hp=>by rw[(hr p hp).1,AA];unfold Hn;rw[jl]
   exact⟨λ⟨p,hp,h⟩=>⟨p,hp,(e2 p hp).1 h⟩,λ⟨p,hp,h⟩=>⟨p,hp,(e2 p hp).2 h⟩⟩
  rw[e];exact hR w2 (x1.Z x2)
def Zcm{a b:Bo}{R:À}(hR:∀w',Gr w w'->R (A7 a.1 b.1) w'):Ko a.1 a.2 b.1 b.2 w R:=by refine An.gr λ_ w1 x1 hb=>An.gr λ_ w2 x2 a0=>⟨_,Gr.at0 hb x2 rfl,_,Gr.at0 a0 (Gr.refl _) rfl,Fg ⟨_,rfl,hR _ (x1.Z x2)⟩⟩
def Zbt:Bi prog 179:=enters_of func179 kR rfl
def Zk6{z:List (Bo×uf)}{K:Ã}(h:tk yb 40 w lo s (z.map Prod.fst))(a4:lo<=w.heap.size)
  (hK:∀(z':List (Bo×uf)) w',z'.Perm z->z'.Pairwise (λx y=>¬A7 y.1.1 x.1.1<0)->Below lo w w'->tk yb 40 w' lo s (z'.map Prod.fst)->K (.tuple #[]) w'):
  si prog 178 [s.v,.func (.func 179) #[] #[]] w K:=by
 obtain⟨h1,h2,h3,h4,h5⟩:=h;rw[eh]at h1 h2 h4;obtain⟨a,n,c⟩:=s;simp only at h1 h2 h3 h5;subst h1;rcases h5 with h5|⟨g,tail,ha,hg,hr⟩
 .rw[rf]at h5;subst h5;refine(AnyF.slices_SortFunc_none Tryz.Xbx a c _ w).O λe w' ⟨he,hw⟩=>⟨_,he,?_⟩;subst hw;exact hK [] _ (jx _) .nil (Below.refl _ _) ⟨rfl,h2,h3,h4,.inl rfl⟩
 .subst ha;have hO:=DN (α:=Bo×uf) (·.1.1);have a5:tm (λp:Bo×uf=>yb p.1) w g z tail:=by unfold tm at*;rw[jj]at hr;exact hr
  haveI:Inhabited (Bo×uf):=⟨((⟨#[]⟩,Sl.nil),⟨⟨#[]⟩,[]⟩)⟩
  refine FJ Tryz.Xbx (k:=2) Zep Zk0 (f:=λp:Bo×uf=>yb p.1) (λ_=>rfl) (λx v hv=>by simp[yb,Sl.v]at hv;rcases hv with rfl|rfl<;>rfl) (λa b=>A7 a.1.1 b.1.1) (Fh hO.flip hO.Z) 179 #[] Zbt (λw0 x y hb _=>?_) a5 (by unfold Ab at h4;omega) rfl λl' w' hp hs b a6=>?_
  .have h:=Ko.V (k:=λv w'=>v= .int .i64 (A7 x.1.1 y.1.1)/\Gr w0 w') (Zcm (a:=x.1) (b:=y.1) (w:=w0) λw' h=>⟨rfl,h⟩);exact Calls.O h λe w' ⟨v,he,hv,hg⟩=>⟨by rw[he,hv],hg⟩
  .have a0:=hp.length_eq;refine hK l' w' hp hs (b.below a4 hg) ⟨by rw[eh];exact a0.H,by rwa [eh,a0],h3,by rwa [eh,a0],.inr ⟨g,tail,rfl,hg,?_⟩⟩;unfold tm at*;rwa [jj]
def UG{dr:Sl}{d:uf}(hS:Old S w)(hs:IT rq w S s l)(hl:l.length<=1000)(d0:xw l)(hn:Ac d.Y)(hd:IT ui w S dr d.range)
  (hR:∀t w',AI w w'->IT rq w' (λb=>S b\/(w.heap.size<=b/\b<w'.heap.size)) t (xq l d)->R t w'):Iu s d.Y dr w R:=by
 refine An.intro λa w1 x1 b0 d4 _=>join.named λJ hJ=>sh.drew λw3 x3=>⟨_,b0.at0 x3 rfl,_,_,b0.at0 x3 rfl,?_⟩;have a0:=x1.Z x3;have push:∀{t:Sl} {w4:Qd} {a8:LP} {w5:Qd},AI w w4->ÿ w4 w.heap.size S t (BB l d.Y)->AI w4 w5->AT w5 a8 [.string d.Y,dr.v]->ue prog 32 32 t (Sl.v (Sl.mk (some a8) 1 1)) w5 λd2 b9=>J d2 b9:=by
  intro t w4 a8 w5 x4 ⟨z,hf,hz,hr⟩ x5 hb;have c3:=x4.Z x5;have d5:z.length<=1000:=by have h1:(BB l d.Y).length<=l.length:=jo _ _;rw[<-hz,eh]at h1;omega
  refine((hf.U x5).ux).push JD c3.size (x:=(d.Y,dr)) (S':=rz) (cs:=[.string d.Y,dr.v]) ⟨rfl,trivial⟩ (hb.se.pre (r:=[]) rfl) (λ_ h=>h.F) (λ_ _ h=>h.F) ?_ ?_ λr w6 b8 vd _ _=>?_
  .show _*40<=Ab;rw[eh];unfold Ab;omega
  .rw[eh,Al];omega
  .have a4:Below w.heap.size w w6:=Below.Z c3 vd;have d1:∀p∈z++[((d.Y,dr),d)],ED w6 S p:=λp hp=>by
    obtain h|h:=fj.1 hp
    .obtain⟨e1,e2,e3⟩:=hr p h;exact⟨e1,e2,(e3.U x5).below vd hS⟩
    .rw[eu]at h;subst h;exact⟨rfl,hn,hd.below a4 hS⟩
   have a6:=b8.Xdf;have he:z.map Prod.fst++[(d.Y,dr)]=(z++[((d.Y,dr),d)]).map Prod.fst:=(by rw[gd];rfl);rw[he]at a6;subst hJ;refine Zk6 (a6.flat (bytes:=40) (by rw[eh,dx,il];unfold Ab;omega)) a4.size λz' w7 hp c9 b7 c8=>⟨rfl,?_⟩;have a7:∀p∈z',ED w7 S p:=λp hm=>(by obtain⟨e1,e2,e3⟩:=d1 p (hp.mem_iff.1 hm);exact⟨e1,e2,e3.below b7 hS⟩);have a9:AI w w7:=Below.Z a4 b7;have b5:=UO c8 a7;have b4:z'.map Prod.snd=xq l d:=by
    refine Zn3 d0 ?_ ?_
    .have:=hp.map Prod.snd;rw[gd,hz]at this;exact this
    .rw[iv];refine(List.pairwise_iff_forall_sublist.2 λ{x y} a5=>?_);have b6:=List.pairwise_iff_forall_sublist.1 c9 a5;have hx:=a5.subset (by simp:x∈ [x,y]);have hy:=a5.subset (by simp:y∈ [x,y]);rw[(a7 x hx).1,(a7 y hy).1]at b6;rwa [F4]at b6
   rw[b4]at b5;exact hR r w7 a9 b5
 have b2:l.length<=1000000:=oM;refine⟨tc.intro (Ek.V (He (hS.U a0.size) (hs.U a0) b2 λt w4 x4 c6=>⟨x4,_,rfl,An.intro λa8 w5 x5 c5 _ _=>push (a0.Z x4) (c6.low a0.size) x5 c5⟩)),
  An.intro λd3 w4 x4 c4 _ _=>tc.intro (Ek.V (He (hS.U (a0.Z x4).size) (hs.U (a0.Z x4)) b2 λt w5 x5 c7=>⟨x5,_,rfl,push ((a0.Z x4).Z x5) (c7.low (a0.Z x4).size) xR (c4.U x5)⟩))⟩
def U1{op ss n:Int}{Y range td:PU}{R:PU->Sl->À}(hg:Gl w)
  (h0:∀w',yo range none->AI w w'->R Ϣ Sl.nil 21 w') (h1:∀l t w',yo range (some l)->AI w w'->IT ui w' (λb=>w.heap.size<=b/\b<w'.heap.size) t l->R Y t 0 w'):Iq op Y range ss td n w R:=by
 refine An.intro λa w1 x1 a9 b5 _=>An.intro λa1 w2 x2 a7 b6 _=>⟨_,a9.at1 x2 rfl,?_⟩;have a6:=x1.Z x2;have bad:∀{w3:Qd},AI w2 w3->yo range none->rp w3 a1 [.string Ϣ,Sl.nil.v] λb0=>∃(a5:PU) (a0:Sl),se b0 a1 [.string a5,a0.v]/\R a5 a0 21 b0:=λx3 hr=>
  tj.intro (a7.U x3) sI λw4 b4 _ a8=>⟨_,_,a8.at0 xR rfl,h0 w4 hr (b4.U (a6.Z x3) (by have:=x1.size;omega))⟩
 refine Zln (hg.U a6) (λw3 hn x3=>⟨_,_,rfl,py ⟨λ_=>bad x3 (.bad hn),λh=>by simp at h⟩⟩) (λl w3 hr hl x3=>⟨_,_,rfl,py ⟨λ_=>bad x3 (.full hr hl),λh=>by simp at h⟩⟩)
  λl s w3 hr hl x3 hs=>⟨_,_,rfl,py ⟨λh=>?_,λh=>?_⟩⟩
 .have a4:=hs.len;have:l=[]:=by simp at h;unfold BU at a4;rw[h,eh]at a4;exact fq a4.H
  subst this;exact bad x3 (.empty hr)
 .have a4:=hs.len;have b2:l≠[]:=by rintro rfl;unfold BU at a4;simp at a4;rw[a4]at h;simp at h
  refine⟨_,(a9.U x2).at1 x3 rfl,tj.intro (a7.U x3) sI λw4 b4 _ a8=>⟨_,_,a8.at0 xR rfl,h1 _ s w4 (.ok hr b2 hl) (b4.U (a6.Z x3) (by have:=x1.size;omega)) ?_⟩⟩;have b7:=a7.lt;refine(hs.J b4 λhb=>?_).O λb hb=>⟨by have:=a6.size;omega,by have:=b4.1;omega⟩;have:=hb.1;omega
def Xr{α:Type}{c:α->α->Int}(hc:vv c)(h0:∀{a b},c a b=0->a=b):∀l:List α,∃z,xp c z/\∀y,y∈z↔y∈l
 | []=>⟨[],.nil,λ_=>Iff.rfl⟩
 |x::l=>by
  obtain⟨z,h1,h2⟩:=Xr hc h0 l
  classical
  by_cases hx:x∈z
  .exact⟨z,h1,λy=>by rw[gj,<-h2];exact⟨.inr,λh=>h.F (λe=>e▸hx) id⟩⟩
  .refine⟨z.filter (λa=>decide (c a x<0))++x::z.filter λa=>decide (c x a<0),?_,λy=>?_⟩
   .unfold xp;rw[ji,iq];have lt:∀a∈z.filter (λa=>decide (c a x<0)),c a x<0:=λa ha=>by simpa using(jd.1 ha).2
    have gt:∀a∈z.filter (λa=>decide (c x a<0)),c x a<0:=λa ha=>(by simpa using(jd.1 ha).2);refine⟨h1.filter _,⟨gt,h1.filter _⟩,λa ha b hb=>?_⟩;obtain rfl|hb:=gj.1 hb
    .exact lt a ha
    .exact hc.ě (lt a ha) (by have:=gt b hb;omega)
   .rw[fj,gj,gj,jd,jd,<-h2,fp,fp];constructor
    .rintro(⟨h,_⟩|h|⟨h,_⟩)
     .exact .inr h
     .exact .inl h
     .exact .inr h
    .rintro(h|h)
     .exact .inr (.inl h)
     .by_cases e:c y x=0
      .exact .inr (.inl (h0 e))
      .by_cases e1:c y x<0
       .exact .inl ⟨h,e1⟩
       .have:=hc.flip x y;exact .inr (.inr ⟨h,oM⟩)
def uz.ex(g:Ζ):∃l,uz g l:=by obtain⟨z,h1,h2⟩:=Xr Ø (λh=>TM.1 h) ((g.drop 1).map Et);exact⟨z,h1,h2⟩
def BZ(d e o v p:Sl)(k pr:Bool):LV:=[d.v,e.v,o.v,v.v,p.v,.bool k,.bool pr]
abbrev JR:Type:=Sl->Sl->Sl->Sl->Sl->Bool->Bool->À
def ã(w:Qd)(a3:LP)(c:Int)(R:JR):Prop:=∃(d e o v p:Sl) (k pr:Bool),se w a3 [d.v,e.v,o.v,v.v,p.v,.bool k,.bool pr]/\R d e o v p k pr c w
def ġ(w:Qd)(a a3:LP)(c:Int)(R:JR):Prop:=
 ∃(d e o v p:Sl) (k pr:Bool),se w a [d.v,e.v,o.v,v.v,p.v,.bool k,.bool pr]/\rp w a3 [d.v,e.v,o.v,v.v,p.v,.bool k,.bool pr] λw'=>ã w' a3 c R
def ã.mk{c:Int}{R:JR}{e v p:Sl}{k:Bool}(h3:AT w a3 cs)(hl:cs.length=7)(hR:∀w',ur a3.block w w'->R d e o v p k pr c w'):rp w a3 [d.v,e.v,o.v,v.v,p.v,.bool k,.bool pr] λw'=>ã w' a3 c R:=
 tj.intro h3 (by rw[hl];exact ga _) λw' b _ hb=>⟨d,e,o,v,p,k,pr,hb.at0 xR rfl,hR w' b⟩
def ġ.mk{c:Int}{R:JR}{e v p:Sl}{k:Bool}(ha:AT w a (BZ d e o v p k pr))(h3:AT w a3 cs)(hl:cs.length=7)
  (hR:∀w',ur a3.block w w'->R d e o v p k pr c w'):ġ w a a3 c R:=⟨d,e,o,v,p,k,pr,ha.at0 (r:=[]) xR rfl,ã.mk h3 hl hR⟩
def Fs(s:è)(x:wg)(S:Nat->Prop)(w:Qd)(R:JR):Prop:=∀(c:Int)(j:yr)(d e o v pt:Sl)(k pr:Bool)(w':Qd),AI w w'->(∃OF r,uz s.g OF/\yo x.range r/\wv s.m OF s.IN x r c j)->
 (c=0->za w' (λb=>S b\/(w.heap.size<=b/\b<w'.heap.size)) d e o v j.m/\IT uy w' (λb=>S b\/(w.heap.size<=b/\b<w'.heap.size)) pt j.OF/\k=j.ry/\pr=j.IN)->R d e o v pt k pr c w'
section
variable {s:è} {x:wg} {d e o v gS tS:Sl} {S:Nat->Prop} {w:Qd}
def Zbh{R:Sl->Sl->Sl->Sl->Sl->Bool->Á}(hG:IT ud w S gS s.g)(a4:s.g≠[])
  (hR:∀pt OF w',AI w w'->uz s.g OF->tk AY 40 w' w.heap.size pt OF->(∀q∈OF,Ac q.Y)->(∀ad,pt.a=some ad->ad.block<w'.heap.size/\w.heap.size<=ad.block)->R d e o v pt true s.IN w'):Ki d e o v gS tS s.IN w R:=by
 refine An.intro λa w1 x1 ha a9 _=>An.intro λa1 w2 x2 h1 a8 _=>sh.drew λw3 x3=>⟨d,e,o,v,ha.at0 (x2.Z x3) rfl,gS,ha.at1 (k:=4) (x2.Z x3) rfl,s.IN,ha.at1 (k:=6) (r:=[]) (x2.Z x3) rfl,?_⟩;have a0:=x1.Z (x2.Z x3);have a6:=a0.size;have s2:=x2.size;have s3:=x3.size;have a7:=h1.lt;have s1:=x1.size;refine tc.intro (K2.V (Zdm (hG.U a0) λt l w6 x6 a5 _ hf hq hb=>⟨x6,_,rfl,tj.intro (h1.U (x3.Z x6)) sI λw7 b7 _ h7=>⟨d,e,o,v,t,true,s.IN,h7.at0 (r:=[]) xR rfl,?_⟩⟩));have z7:=b7.1;exact hR t l w7 (b7.U (a0.Z x6) oM) (a5 a4) ((hf.low a6).J b7 λad h=>by have:=hb ad h;omega) hq λad h=>by have:=hb ad h;omega
def ID{K:Ä}(hG:IT ud w S gS s.g)(a0:s.g≠[])
  (hK:∀pt OF a6 w8,AI w w8->uz s.g OF->tk AY 40 w8 w.heap.size pt OF->(∀q∈OF,Ac q.Y)->(∀ad,pt.a=some ad->ad.block<w8.heap.size/\w.heap.size<=ad.block/\ad.block<a6.block)->w.heap.size<=a6.block->AT w8 a6 (BZ d e o v pt true s.IN)->K a6 w8):
  si prog 108 [.agg #[d.v,e.v,o.v,v.v,gS.v,tS.v,.bool s.IN]] w λr w5=>∃(d e o v p:Sl) (k pr:Bool),r= .agg #[d.v,e.v,o.v,v.v,p.v,.bool k,.bool pr]/\
   An w5 [Sl.nil.v,Sl.nil.v,Sl.nil.v,Sl.nil.v,Sl.nil.v,.bool false,.bool false] 85 λa6 w7=>rp w7 a6 [d.v,e.v,o.v,v.v,p.v,.bool k,.bool pr] λw8=>K a6 w8:=
 Ki.V (Zbh (s:=s) hG a0 λpt OF w5 x5 hp hf hq hb=>⟨d,e,o,v,pt,true,s.IN,rfl,An.set rfl λa6 w7 x7 h7 a4=>hK pt OF a6 w7 (x5.Z x7) hp (hf.U x7) hq (λad h=>by have:=hb ad h;have:=x7.size;omega) (by have:=x5.size;omega) h7⟩)
def Zbg{R:JR}(hm:za w S d e o v s.m)(hS:Old S w)(a4:x.op=2)(hR:Fs s x S w R):Kh d e o v gS tS s.IN x.op x.Y x.range x.ss x.td x.n w R:=by refine An.intro λa w1 x1 ha a8 _=>An.intro λa1 w2 x2 h1 a6 _=>An.intro λa3 w4 x4 h4 a7 _=>⟨d,e,o,v,ha.at0 (x2.Z x4) rfl,ã.mk h4 rfl λw5 b5=>?_⟩;have a0:=x1.Z (x2.Z x4);have a9:=a0.size;have s1:=x1.size;have s2:=x2.size;obtain⟨r0,a5⟩:=yo.ex x.range;obtain⟨OF,hp⟩:=uz.ex s.g;exact hR 0 ⟨s.m,[],false,false⟩ _ _ _ _ _ _ _ w5 (b5.U a0 oM) ⟨OF,r0,hp,a5,.ē a4⟩ λ_=>⟨((hm.U a0).J b5 λh=>by have:=hS _ h;omega).O λb hb=>.inl hb,IT.nil trivial,rfl,rfl⟩
def Vn{R:JR}{w8 w9:Qd}{a6:LP}{pt:Sl}{OF:Η}{k:Bool}{j:yr}(hm:za w S d e o v s.m)(hS:Old S w)(h8:w.heap.size<=a6.block)(h3:w.heap.size<=a3.block)(x8:AI w w8)(b9:ur a6.block w8 w9)(hf:tk AY 40 w8 w.heap.size pt OF)(hq:∀q∈OF,Ac q.Y)(hb:∀ad,pt.a=some ad->ad.block≠a6.block/\ad.block≠a3.block)
  (h9:AT w9 a6 (BZ d e o v pt k pr)) (a5:AT w9 a3 cs) (hl:cs.length=7) (hp:uz s.g OF) {r0:Option (Λ)} (a7:yo x.range r0) (a4:wv s.m OF s.IN x r0 0 j) (hj:j.m=s.m/\j.OF=OF/\k=j.ry/\pr=j.IN) (hR:Fs s x S w R):ġ w9 a6 a3 0 R:=by
 refine ġ.mk h9 a5 hl λa8 a0=>?_;have nS:∀{b:Nat},w.heap.size<=b-> ¬S b:=λh hb=>by have:=hS _ hb;omega
 have z9:=b9.1;have a9:=a0.1;obtain⟨j1,j2,j3,j4⟩:=hj;refine hR 0 j _ _ _ _ _ _ _ a8 (a0.U (b9.U x8 h8) h3) ⟨OF,r0,hp,a7,a4⟩ λ_=>⟨?_,?_,j3,j4⟩
 .rw[j1];exact(((hm.U x8).J b9 (nS h8)).J a0 (nS h3)).O λb hb=>.inl hb
 .rw[j2];exact(((hf.J b9 λad h=>(hb ad h).1).J a0 λad h=>(hb ad h).2).OF hq).O λb hb=>.inr hb
def Za3{R:JR}(hm:za w S d e o v s.m)(hS:Old S w)(hG:IT ud w S gS s.g)(a4:s.g≠[])(a5:x.op=6)(hR:Fs s x S w R):Kg d e o v gS tS s.IN x.op x.Y x.range x.ss x.td x.n w R:=by refine An.intro λa w1 x1 ha b2 _=>An.intro λa1 w2 x2 h1 a9 _=>An.intro λa3 w4 x4 h4 b0 _=>⟨d,e,o,v,gS,tS,s.IN,ha.at0 (r:=[]) (x2.Z x4) rfl,?_⟩;have a0:=x1.Z (x2.Z x4);have a8:=a0.size;have s1:=x1.size;have s2:=x2.size;have l3:=h4.lt;obtain⟨r0,a7⟩:=yo.ex x.range;refine ID (hG.U a0) a4 λpt OF a6 w8 x8 hp hf hq hb h6 h8=>rp.intro h8 (o:=5) (by simp[BZ]) λw9 b9 _ h9=>?_;exact Vn (OF:=OF) (k:=false) (pr:=s.IN) (j:=⟨s.m,OF,false,s.IN⟩) hm hS oM oM (a0.Z x8) b9 (hf.low a8) hq (λad h=>by have:=hb ad h;omega) h9 (b9.box (h4.U x8) oM) rfl hp a7 (.Ŕ a5) ⟨rfl,rfl,rfl,rfl⟩ hR
def Zcd{R:JR}(hm:za w S d e o v s.m)(hS:Old S w)(hG:IT ud w S gS s.g)(a4:s.g≠[])(a5:x.op=7)(hR:Fs s x S w R):Kl d e o v gS tS s.IN x.op x.Y x.range x.ss x.td x.n w R:=by refine An.intro λa w1 x1 ha b2 _=>An.intro λa1 w2 x2 h1 a9 _=>An.intro λa3 w4 x4 h4 b0 _=>⟨d,e,o,v,gS,tS,s.IN,ha.at0 (r:=[]) (x2.Z x4) rfl,?_⟩;have a0:=x1.Z (x2.Z x4);have a8:=a0.size;have s1:=x1.size;have s2:=x2.size;have l3:=h4.lt;obtain⟨r0,a7⟩:=yo.ex x.range;refine ID (hG.U a0) a4 λpt OF a6 w8 x8 hp hf hq hb h6 h8=>rp.intro h8 (o:=6) (by simp[BZ]) λw9 b9 _ h9=>?_;exact Vn (OF:=OF) (k:=true) (pr:=true) (j:=⟨s.m,OF,true,true⟩) hm hS oM oM (a0.Z x8) b9 (hf.low a8) hq (λad h=>by have:=hb ad h;omega) h9 (b9.box (h4.U x8) oM) rfl hp a7 (.prune a5) ⟨rfl,rfl,rfl,rfl⟩ hR
end
def Zdz{a c t u:Bool}(h1:(!a)=true->t=b)(h2:((!a)&&(!t))=true->u=c):(((!a)&&(!t))&&(!u))= !(a||(b||c)):=by
 cases a
 .have:=h1 rfl;subst this;cases t
  .have:=h2 rfl;subst this;cases u<;>rfl
  .rfl
 .rfl
section
variable {s:è} {x:wg} {d e o v gS tS:Sl} {S:Nat->Prop} {w:Qd}
def Zcj{R:JR}(hn:Ac x.Y)(hm:za w S d e o v s.m)(hS:Old S w)(hl:J8 s.m)(hG:IT ud w S gS s.g)(e8:s.g≠[])(d0:x.op=4)(hR:Fs s x S w R):Km d e o v gS tS s.IN x.op x.Y x.range x.ss x.td x.n w R:=by
 refine An.intro λa w1 x1 ha f8 _=>An.intro λa1 w2 x2 h1 f6 _=>An.intro λa3 w4 x4 h4 f7 _=>⟨d,e,o,v,gS,tS,s.IN,ha.at0 (r:=[]) (x2.Z x4) rfl,?_⟩;have c6:=x1.Z (x2.Z x4);have e9:=c6.size;have s1:=x1.size;have s2:=x2.size;have l3:=h4.lt;have l1:=h1.lt;obtain⟨r0,d1⟩:=yo.ex x.range;refine ID (hG.U c6) e8 λpt OF a6 w8 x8 hp hf hq hb h6 h8=>⟨x.Y,h1.at1 (k:=1) (x4.Z x8) rfl,CI.V (uq hn λw9 x9=>⟨_,rfl,λh=>?_,λh=>sh.drew λg6 c7=>?_⟩)⟩
 .exact ã.mk (h4.U (x8.Z x9)) rfl λw' b=>hR 23 B8 _ _ _ _ _ _ _ w' (b.U (c6.Z (x8.Z x9)) oM) ⟨OF,r0,hp,d1,.ů d0 (by simpa using h)⟩ nO
 have d6:Ad x.Y=true:=by simpa using h
 have a5:=x8.Z (x9.Z c7);have a4:=c6.Z a5;have b2:=h8.U (x9.Z c7);have b0:=h1.U (x4.Z a5);refine⟨d,b2.at0 xR rfl,x.Y,b0.at1 (k:=1) xR rfl,Gc.V (NH (hm.d.U a4) λg7 a8=>⟨_,rfl,py ⟨e,λ_=>b2.at1 (k:=1) a8 rfl,x.Y,λ_=>b0.at1 (k:=1) a8 rfl,?_⟩⟩)⟩;refine No.intro (CA s.m.uo x.Y) (λ_ r hr=>Gc.V (NH (hm.e.U (a4.Z a8)) λd8 b5=>⟨_,rfl,hr d8 b5⟩)) λg4 d8 b5 e6=>py ⟨o,λ_=>b2.at1 (k:=2) (a8.Z b5) rfl,x.Y,λ_=>b0.at1 (k:=1) (a8.Z b5) rfl,?_⟩;refine No.intro (CA s.m.ut x.Y) (λ_ r hr=>Gc.V (NH (hm.o.U (a4.Z (a8.Z b5))) λd9 d4=>⟨_,rfl,hr d9 d4⟩)) λg5 d9 d4 e7=>?_;rw[Zdz e6 e7];have a7:=a8.Z (b5.Z d4);refine⟨λhc=>?_,λhc=>sh.drew λf1 f3=>?_⟩
 .exact ã.mk (h4.U (a5.Z a7)) rfl λw' b=>hR 50 B8 _ _ _ _ _ _ _ w' (b.U (a4.Z a7) oM) ⟨OF,r0,hp,d1,.Ű d0 d6 (by simpa using hc)⟩ nO
 have a0:=a7.Z f3;have b7:=a4.Z a0;have b4:=b2.U a0;have b6:=b0.U a0;have d7:=b7.size;refine⟨d,b4.at0 xR rfl,x.Y,b6.at1 (k:=1) xR rfl,e,b4.at1 (k:=1) xR rfl,x.Y,b6.at1 (k:=1) xR rfl,o,b4.at1 (k:=2) xR rfl,x.Y,b6.at1 (k:=1) xR rfl,?_⟩;obtain⟨l1,l2,f9,_⟩:=hl;refine tc.intro (Ek.V (He (n:=x.Y) (hS.U d7) (hm.d.U b7) oM λt1 g8 c8 r1=>⟨c8,_,rfl,?_⟩));have b8:=b7.Z c8;refine tc.intro (Ek.V (He (n:=x.Y) (hS.U b8.size) (hm.e.U b8) oM λt2 g9 c3 r2=>⟨c3,_,rfl,?_⟩));have b9:=b8.Z c3;refine Ek.V (He (n:=x.Y) (hS.U b9.size) (hm.o.U b9) oM λt3 d2 c4 r3=>⟨_,rfl,?_⟩);have c9:=b9.Z c4;have a9:=c8.Z (c3.Z c4);have g1:=c8.size;have g2:=c3.size;have g3:=c4.size;have s8:=x8.size;have f0:=a0.size;have f4:=a5.size;have l6:=h8.lt;have s9:=x9.size;have g0:=c7.size;refine tj.intro (b4.U a9) (by simp[BZ]) λh0 e0 _ e3=>rp.intro e3 (o:=1) (by simp[BZ]) λh2 e1 _ e4=>rp.intro e4 (o:=2) (by simp[BZ]) λf2 e2 _ e5=>?_;have b1:ur a6.block d2 f2:=e0.Z (e1.Z e2);have d5:a3.block≠a6.block:=oM;refine ġ.mk (p:=pt) (k:=true) (pr:=s.IN) e5 (b1.box (h4.U (a5.Z (a0.Z a9))) d5) rfl λd3 c5=>?_;have z1:=b1.1;have h3:=c5.1;have nS:∀{b:Nat},w.heap.size<=b-> ¬S b:=λh hb=>by have:=hS _ hb;omega
 have dn:∀{t:Sl} {L:Ι},IT rq d2 (λb=>S b\/(f1.heap.size<=b/\b<d2.heap.size)) t L->IT rq d3 (λb=>S b\/(w.heap.size<=b/\b<d3.heap.size)) t L:=λh=>
  ((h.J b1 λh=>h.F (nS oM) λh=>by omega).J c5 λh=>h.F (nS oM) λh=>by omega).O λb hb=>hb.imp id λh=>by omega
 refine hR 0 ⟨JH s.m x.Y,OF,true,s.IN⟩ _ _ _ _ _ _ _ d3 (c5.U (b1.U c9 oM) oM) ⟨OF,r0,hp,d1,.rem d0 d6 (by rw[qf]at hc;exact hc)⟩ λ_=>⟨⟨?_,?_,?_,?_⟩,?_,rfl,rfl⟩
 .exact dn (((r1.I (fl (Jz _ _) oM)).U (c3.Z c4)).O λb hb=>hb.imp id λh=>by omega)
 .exact dn (((r2.I (fl (Jz _ _) oM)).U c4).O λb hb=>hb.imp id λh=>by omega)
 .exact dn ((r3.I (fl (Jz _ _) oM)).O λb hb=>hb.imp id λh=>by omega)
 .exact dn ((hm.v.U c9).O λb hb=>.inl hb)
 .exact((((hf.low e9).U ((x9.Z c7).Z (a0.Z a9))).J b1 λad h=>by have:=hb ad h;omega).J c5 λad h=>by have:=hb ad h;omega).OF hq |>.O λb hb=>.inr hb
def U8:Bi prog 112:=enters_of func112 kR rfl
def Zck{R:JR}(hn:Ac x.Y)(hm:za w S d e o v s.m)(hS:Old S w)(hG:IT ud w S gS s.g)(c4:s.g≠[])(b0:x.op=5)(hR:Fs s x S w R):Kn d e o v gS tS s.IN x.op x.Y x.range x.ss x.td x.n w R:=by
 refine An.intro λa w1 x1 ha e7 _=>An.intro λa1 w2 x2 h1 e5 _=>An.intro λa3 w4 x4 h4 e6 _=>⟨d,e,o,v,gS,tS,s.IN,ha.at0 (r:=[]) (x2.Z x4) rfl,?_⟩;have a0:=x1.Z (x2.Z x4);have d8:=a0.size;have s1:=x1.size;have s2:=x2.size;have l3:=h4.lt;have l1:=h1.lt;obtain⟨r0,b4⟩:=yo.ex x.range;have nS:∀{b:Nat},w.heap.size<=b-> ¬S b:=λh hb=>by have:=hS _ hb;omega
 refine ID (hG.U a0) c4 λpt OF a6 w8 x8 hp hf hq hb h6 h8=>⟨x.Y,h1.at1 (k:=1) (x4.Z x8) rfl,λh0=>?_,λh0=>⟨x.Y,h1.at1 (k:=1) (x4.Z x8) rfl,CI.V (uq hn λw9 x9=>⟨_,rfl,λh=>?_,λh=>?_⟩)⟩⟩
 .refine rp.intro h8 (o:=4) (by simp[BZ]) λw9 b9 _ h9=>ġ.mk (p:=Sl.nil) (k:=true) (pr:=s.IN) h9 (b9.box (h4.U x8) oM) rfl λc5 c7=>?_;exact hR 0 ⟨s.m,[],true,s.IN⟩ _ _ _ _ _ _ _ c5 (c7.U (b9.U (a0.Z x8) oM) oM) ⟨OF,r0,hp,b4,.Š b0 h0⟩ λ_=>⟨(((hm.U (a0.Z x8)).J b9 (nS oM)).J c7 (nS oM)).O λb hb=>.inl hb,IT.nil trivial,rfl,rfl⟩
 .exact ã.mk (h4.U (x8.Z x9)) rfl λw' b=>hR 23 B8 _ _ _ _ _ _ _ w' (b.U (a0.Z (x8.Z x9)) oM) ⟨OF,r0,hp,b4,.Ŵ b0 h0 (by simpa using h)⟩ nO
 have d6:Ad x.Y=true:=by simpa using h
 have b5:=x8.Z x9;have d1:=h8.U x9;have c9:=h1.U (x4.Z b5);have d4:=hf.U x9;have e2:IT uy w9 (λb=>w4.heap.size<=b/\b<w9.heap.size) pt OF:=d4.OF hq;have d2:∀q:sy,Ag q.Y x.Y=As x.Y q:=λq=>T9 q x.Y;refine⟨pt,d1.at1 (k:=4) xR rfl,H9.V (PT (p:=As x.Y) e2 (λq _ w' k x' hk=>⟨_,_,rfl,U8,It.V ?_⟩) λc5 a4=>⟨_,rfl,λhc=>?_,λhc=>?_⟩)⟩
 .unfold It;refine An.intro λa2 w6 x6 c3 _ _=>⟨_,c3.at0 xR rfl,x.Y,c9.at1 (k:=1) (x'.Z x6) rfl,?_⟩;rw[d2];exact hk w6 x6
 .exact ã.mk (h4.U (b5.Z a4)) rfl λw' b=>hR 50 B8 _ _ _ _ _ _ _ w' (b.U (a0.Z (b5.Z a4)) oM) ⟨OF,r0,hp,b4,.ŵ b0 h0 d6 (by simpa using hc)⟩ nO
 have d3:OF.any (As x.Y)=true:=by simpa using hc
 have e9:=a4.size;have s9:=x9.size;have s8:=x8.size;have l6:=h8.lt;have b8:=b5.Z a4;have a7:∀{ad:LP},pt.a=some ad->ad.block<w8.heap.size/\w4.heap.size<=ad.block/\ad.block<a6.block:=λh=>hb _ h;have b7:=d1.U a4;have b6:=c9.U a4;have d0:=h4.U b8;refine⟨pt,b7.at1 (k:=4) xR rfl,Mp.V (Zaj (d:=As x.Y) (d4.U a4) oM hq (λq e8 w' k e4 c1 c2 hk=>⟨_,_,rfl,U8,It.V ?_⟩) λt c6 c8 b1 b2 bt d7=>⟨t,rfl,?_⟩)⟩
 .have e1:AT w' a1 [vi x.op,.string x.Y,.string x.range,vi x.ss,.string x.td,vi x.n]:=by
   cases hpq:pt.a with
   |none=>exact b6.U (c2 hpq)
   |some g=>exact(c1 g hpq).box b6 (by have:=a7 hpq;omega)
  refine An.intro λa2 w6 x6 c3 _ _=>⟨_,c3.at0 xR rfl,x.Y,e1.at1 (k:=1) x6 rfl,?_⟩;rw[d2];exact hk w6 x6
 have a8:=a0.Z b8;have d9:AI w c6:=a8.A (c8.O d8);have box:∀{ad:LP} {cs:LV},AT c5 ad cs->(∀g,pt.a=some g->ad.block≠g.block)->AT c6 ad cs:=λ{ad cs} hb c4=>by
  cases hpq:pt.a with
  |none=>exact hb.U (b2 hpq)
  |some g=>exact(b1 g hpq).box hb (c4 g hpq)
 have d5:za c6 S d e o v s.m:=by
  cases hpq:pt.a with
  |none=>exact(hm.U a8).U (b2 hpq)
  |some g=>exact(hm.U a8).J (b1 g hpq) (nS (by have:=a7 hpq;omega))
 have s11:=c8.size;have tb:∀ad,t.a=some ad->ad.block≠a6.block/\ad.block≠a3.block:=λad h=>by obtain⟨g,hg,e⟩:=bt ad h;have:=a7 hg;omega
 refine rp.intro (box b7 λg h=>by have:=a7 h;omega) (o:=4) (by simp[BZ]) λf0 a5 _ e0=>ġ.mk (p:=t) (k:=true) (pr:=s.IN) e0 (a5.box (box d0 λg h=>by have:=a7 h;omega) oM) rfl λe3 a9=>?_;have f1:=a5.1;have f2:=a9.1;refine hR 0 ⟨s.m,OF.filter (λq=>!As x.Y q),true,s.IN⟩ _ _ _ _ _ _ _ e3 (a9.U (a5.U d9 oM) oM) ⟨OF,r0,hp,b4,.upd b0 h0 d6 d3⟩ λ_=>⟨((d5.J a5 (nS oM)).J a9 (nS oM)).O λb hb=>.inl hb,?_,rfl,rfl⟩;exact(((d7.low d8).J a5 λad h=>(tb ad h).1).J a9 λad h=>(tb ad h).2).OF (λq h=>hq q (jd.1 h).1)|>.O λb hb=>.inr hb
def Zcc{R:JR}(hg:Gl w)(hn:Ac x.Y)(hm:za w S d e o v s.m)(hS:Old S w)(hl:J8 s.m)(e4:Ni s.m)(hG:IT ud w S gS s.g)(e3:s.g≠[])(b4:x.op=8)(hR:Fs s x S w R):Kk d e o v gS tS s.IN x.op x.Y x.range x.ss x.td x.n w R:=by
 refine An.intro λa w1 x1 ha f1 _=>An.intro λa1 w2 x2 h1 e9 _=>An.intro λa3 w4 x4 h4 f0 _=>⟨d,e,o,v,gS,tS,s.IN,ha.at0 (r:=[]) (x2.Z x4) rfl,?_⟩;have c9:=x1.Z (x2.Z x4);have e6:=c9.size;have s1:=x1.size;have s2:=x2.size;have l3:=h4.lt;have l1:=h1.lt;obtain⟨r0,d2⟩:=yo.ex x.range;have nS:∀{b:Nat},w.heap.size<=b-> ¬S b:=λh hb=>by have:=hS _ hb;omega
 have l4:=hl.2.2.2;refine ID (hG.U c9) e3 λpt OF a6 w8 x8 hp hf hq hb h6 h8=>⟨x.Y,h1.at1 (k:=1) (x4.Z x8) rfl,CI.V (uq hn λw9 x9=>⟨_,rfl,λh=>?_,λh=>?_⟩)⟩
 .exact ã.mk (h4.U (x8.Z x9)) rfl λw' b=>hR 23 B8 _ _ _ _ _ _ _ w' (b.U (c9.Z (x8.Z x9)) oM) ⟨OF,r0,hp,d2,.Xa8 b4 (by simpa using h)⟩ nO
 have c3:Ad x.Y=true:=by simpa using h
 have b5:=x8.Z x9;have a8:=c9.Z b5;have b7:=h8.U x9;have c8:=h1.U (x4.Z b5);have s8:=x8.size;have s9:=x9.size;have l6:=h8.lt;have rv:∀{w11 w12:Qd} {t:Sl} {L:Ι} {r:Option (Λ)},AI w9 w11->ur a6.block w11 w12->AT w12 a6 (BZ d e o t pt true s.IN)->IT rq w11 (λb=>S b\/(w9.heap.size<=b/\b<w11.heap.size)) t L->yo x.range r->wv s.m OF s.IN x r 0 ⟨⟨s.m.sj,s.m.uo,s.m.ut,L⟩,OF,true,s.IN⟩->∀{w13:Qd},AI w12 w13->ġ w13 a6 a3 0 R:=λ{w11 w12 t L r} a5 b6 e2 ht hr d8 {w13} a7=>by
  have f2:=a5.size;have f7:=b6.1;have f3:=a7.size;refine ġ.mk (p:=pt) (k:=true) (pr:=s.IN) (e2.U a7) ((b6.box (h4.U (b5.Z a5)) oM).U a7) rfl λb0 a4=>?_;have e8:=a4.1;have dn:∀{t:Sl} {L:Ι},IT rq w11 (λb=>S b\/(w9.heap.size<=b/\b<w11.heap.size)) t L->IT rq b0 (λb=>S b\/(w.heap.size<=b/\b<b0.heap.size)) t L:=λh=>
   (((h.J b6 λh=>h.F (nS oM) λh=>by omega).U a7).J a4 λh=>h.F (nS oM) λh=>by omega).O λb hb=>hb.imp id λh=>by omega
  have b8:=(hm.U (a8.Z a5)).O (S':=λb=>S b\/(w9.heap.size<=b/\b<w11.heap.size)) λb hb=>.inl hb;refine hR 0 ⟨⟨s.m.sj,s.m.uo,s.m.ut,L⟩,OF,true,s.IN⟩ _ _ _ _ _ _ _ b0 (a4.U ((b6.U (a8.Z a5) oM).Z a7) oM) ⟨OF,r,hp,hr,d8⟩ λ_=>⟨⟨dn b8.d,dn b8.e,dn b8.o,dn ht⟩,?_,rfl,rfl⟩;exact(((((hf.low e6).U (x9.Z a5)).J b6 λad h=>by have:=hb ad h;omega).U a7).J a4 λad h=>by have:=hb ad h;omega).OF hq |>.O λb hb=>.inr hb
 refine⟨x.range,c8.at1 (k:=2) xR rfl,λh0=>sh.drew λe0 a9=>?_,λh0=>?_⟩
 .refine⟨v,b7.at1 (k:=3) a9 rfl,x.Y,c8.at1 (k:=1) a9 rfl,Gc.V (NH (hm.v.U (a8.Z a9)) λw11 a5=>⟨_,rfl,λh=>?_,λh=>sh.drew λw12 c6=>?_⟩)⟩
  .exact ã.mk (h4.U (b5.Z (a9.Z a5))) rfl λw' b=>hR 50 B8 _ _ _ _ _ _ _ w' (b.U (a8.Z (a9.Z a5)) oM) ⟨OF,r0,hp,d2,.Xba b4 c3 h0 (by simpa using h)⟩ nO
  have a0:=a9.Z (a5.Z c6);have d9:=a0.size;refine⟨v,b7.at1 (k:=3) a0 rfl,x.Y,c8.at1 (k:=1) a0 rfl,Ek.V (He (n:=x.Y) (hS.U (a8.Z a0).size) (hm.v.U (a8.Z a0)) oM λt w13 a7 ht=>⟨_,rfl,rp.intro (b7.U (a0.Z a7)) (o:=3) (by simp[BZ]) λb0 a4 _ c7=>?_⟩)⟩;exact rv (a0.Z a7) a4 c7 ((ht.I (fl (Jz _ _) oM)).O λb hb=>hb.imp id λh=>by omega) d2 (.Xa9 b4 c3 h0 (by simpa using h)) xR
 .refine⟨_,_,_,_,_,_,c8.at0 (r:=[]) xR rfl,Iq.V (U1 (hg.U a8) (λe0 hr a9=>⟨_,_,_,rfl,An.set rfl λe1 w11 a5 d5 d6=>⟨λ_=>?_,λh=>fu dC h⟩⟩) λl tr e0 hr a9 e5=>⟨_,_,_,rfl,An.set rfl λe1 w11 a5 d5 d6=>⟨λh=>fu rfl h,λ_=>sh.drew λw12 c6=>?_⟩⟩)⟩
  .exact ã.mk (h4.U (b5.Z (a9.Z a5))) rfl λw' b=>hR 21 B8 _ _ _ _ _ _ _ w' (b.U (a8.Z (a9.Z a5)) oM) ⟨OF,none,hp,hr,.ŭ b4 c3 h0 rfl⟩ nO
  have a0:=a9.Z (a5.Z c6);have c5:=a5.Z c6;have d9:=a0.size;have e7:=c5.size;have d1:=a8.Z a0;have hO:Old (λb=>S b\/(w9.heap.size<=b/\b<w12.heap.size)) w12:=λb hb=>hb.F (λh=>by have:=hS b h;have:=d1.size;omega) λh=>h.2;have d3:IT ui w12 (λb=>S b\/(w9.heap.size<=b/\b<w12.heap.size)) tr l:=(e5.U c5).O λb hb=>.inr ⟨hb.1,by have:=hb.2;omega⟩;refine⟨v,b7.at1 (k:=3) a0 rfl,x.Y,tr,d5.at0 (r:=[]) c6 rfl,Iu.V (UG (d:=⟨x.Y,l⟩) hO ((hm.v.U d1).O λb hb=>.inl hb) oM e4.2.2.2 hn d3 λt w13 a7 ht=>⟨_,rfl,rp.intro (b7.U (a0.Z a7)) (o:=3) (by simp[BZ]) λb0 a4 _ c7=>?_⟩)⟩;have b2:=a0.Z a7;have f4:=a7.size;have e8:=a4.1;have d0:IT rq w13 (λb=>S b\/(w9.heap.size<=b/\b<w13.heap.size)) t (xq s.m.ru ⟨x.Y,l⟩):=ht.O λb hb=>hb.F (λh=>h.imp id λh=>by omega) λh=>.inr ⟨oM,h.2⟩;have c4:AI w b0:=a4.U (a8.Z b2) oM;have nb:∀{W:Qd},¬(S a6.block\/(w9.heap.size<=a6.block/\a6.block<W.heap.size)):=λh=>h.F (nS oM) λh=>by omega
  have b9:=(hm.U (a8.Z b2)).O (S':=λb=>S b\/(w9.heap.size<=b/\b<w13.heap.size)) λb hb=>.inl hb;have d7:Old (λb=>S b\/(w9.heap.size<=b/\b<w13.heap.size)) b0:=λb hb=>hb.F (λh=>by have:=hS b h;have:=c4.size;omega) λh=>by omega
  refine⟨d,e,o,t,c7.at0 xR rfl,Gk.V (Oq (m:=⟨s.m.sj,s.m.uo,s.m.ut,xq s.m.ru ⟨x.Y,l⟩⟩) (hg.U c4).zu d7 (b9.d.J a4 nb) (b9.e.J a4 nb) (b9.o.J a4 nb) (d0.J a4 nb) λf6 d4=>⟨_,rfl,λh=>?_,λh=>?_⟩)⟩
  .exact ã.mk ((a4.box (h4.U (b5.Z b2)) oM).U d4) rfl λw' b=>hR 26 B8 _ _ _ _ _ _ _ w' (b.U (c4.Z d4) oM) ⟨OF,_,hp,hr,.Xa7 b4 c3 h0 rfl (by simpa using h)⟩ nO
  .exact rv b2 a4 c7 d0 hr (.ov b4 c3 h0 rfl (by simpa using h)) d4
end
def Vk{t:Nat->Sl}{v p:Sl}{k:Bool}(h:AT w a (BZ (t 0) (t 1) (t 2) v p k pr))(hn:n<3)(hx:AI w w'):se w' (a.add n) [Sl.v (t n)]:=by
 have:n=0\/n=1\/n=2:=oM;obtain rfl|rfl|rfl:=this
 .exact h.at1 (k:=0) hx rfl
 .exact h.at1 (k:=1) hx rfl
 .exact h.at1 (k:=2) hx rfl
def Vl{t:Nat->Sl}{v p y:Sl}{k:Bool}{K:Wp}(h:AT w a (BZ (t 0) (t 1) (t 2) v p k pr))(hn:n<3)
  (hk:∀(u:Nat->Sl) w',u n=y->(∀i,i≠n->u i=t i)->ur a.block w w'->AT w' a (BZ (u 0) (u 1) (u 2) v p k pr)->K w'):rp w (a.add n) [y.v] K:=by
 refine rp.intro h (o:=n) (by simp[BZ];omega) λw' b _ hb=>hk (λi=>if i=n then y else t i) w' (fo rfl) (λi hi=>fb hi) b ?_;have:n=0\/n=1\/n=2:=oM;rcases this with rfl|rfl|rfl<;>exact hb
section
variable {s:è} {x:wg} {d e o v gS tS:Sl} {S:Nat->Prop} {w:Qd}
def Za0{R:JR}(hg:Gl w)(hn:Ac x.Y)(hm:za w S d e o v s.m)(hS:Old S w)(hl:J8 s.m)(g2:Ni s.m)(hG:IT ud w S gS s.g)(g0:s.g≠[])(d3:x.op=3)(hR:Fs s x S w R):Ke d e o v gS tS s.IN x.op x.Y x.range x.ss x.td x.n w R:=by
 refine An.intro λa w1 x1 ha m8 _=>An.intro λa1 w2 x2 h1 m6 _=>An.intro λa3 w4 x4 h4 m7 _=>?_;have e6:=x1.Z (x2.Z x4);have n2:=e6.size;have s1:=x1.size;have s2:=x2.size;have s4:=x4.size;have l3:=h4.lt;have l1:=h1.lt;obtain⟨r0,k3⟩:=yo.ex x.range;obtain⟨b4,g1⟩:=uz.ex s.g;have nS:∀{b:Nat},w.heap.size<=b-> ¬S b:=λh hb=>by have:=hS _ hb;omega
 have bad:∀{w':Qd} {c:Int},c≠0->AI w4 w'->(∃OF r,uz s.g OF/\yo x.range r/\wv s.m OF s.IN x r c B8)->rp w' a3 [Sl.nil.v,Sl.nil.v,Sl.nil.v,Sl.nil.v,Sl.nil.v,.bool false,.bool false] λw'=>ã w' a3 c R:=λ{w' c} hc hx hq=>
  ã.mk (h4.U hx) rfl λw'' b=>hR c B8 _ _ _ _ _ _ _ w'' (b.U (e6.Z hx) oM) hq λh=>fu h hc
 refine⟨x.Y,h1.at1 (k:=1) x4 rfl,CI.V (uq hn λw5 x5=>⟨_,rfl,λh=>bad dC x5 ⟨b4,r0,g1,k3,.ť d3 (by simpa using h)⟩,λh=>?_⟩)⟩;have e3:Ad x.Y=true:=by simpa using h
 have l9:=e6.Z x5;refine⟨_,_,_,_,_,_,(h1.U (x4.Z x5)).at0 (r:=[]) xR rfl,Iq.V (U1 (hg.U l9) (λe4 hr e7=>⟨_,_,_,rfl,An.set rfl λj3 i9 d8 f3 g8=>⟨λ_=>bad dC (x5.Z (e7.Z d8)) ⟨b4,none,g1,hr,.addRange d3 e3 rfl⟩,λh=>fu dC h⟩⟩) λl tr e4 hr e7 k4=>⟨_,_,_,rfl,An.set rfl λj3 i9 d8 f3 g8=>⟨λh=>fu rfl h,λ_=>?_⟩⟩)⟩;have a7:=x5.Z (e7.Z d8);have d7:=e6.Z a7;have c9:=h1.U (x4.Z a7);have m4:=a7.size;have s11:=d8.size;have n0:=f3.lt;have s5:=x5.size;have n4:=e7.size;refine⟨x.ss,c9.at1 (k:=3) xR rfl,py ⟨x.ss,λ_=>c9.at1 (k:=3) xR rfl,λhc=>bad dC a7 ⟨b4,_,g1,hr,.Ť d3 e3 rfl (by simpa using hc)⟩,λhc=>?_⟩⟩;have hk:0<=x.ss/\x.ss<=2:=by rw[ik,ig,ig]at hc;omega
 refine⟨d,e,o,v,gS,tS,s.IN,(ha.U ((x2.Z x4).Z a7)).at0 (r:=[]) xR rfl,?_⟩;refine ID (hG.U d7) g0 λpt OF a6 w8 x8 hp hf hq hb h6 h8=>sh.drew λn9 j2=>An.intro λf1 d5 m1 j4 m3 _=>?_;have c3:=j2.Z m1;have a5:=x8.Z c3;have b9:=d7.Z a5;have h0:=h8.U c3;have d0:=c9.U a5;have g9:=h4.U (a7.Z a5);have f4:=f3.U a5;have s8:=x8.size;have m5:=c3.size;have l6:=h8.lt;have n5:=j2.size;have g3:=k4.U (d8.Z a5);let Lf:Nat->Ι:=λi=>if i=0 then s.m.sj else if i=1 then s.m.uo else s.m.ut
 let F:Nat->Ι:=λi=>if(i:Int)=x.ss then xq (BB (Lf i) x.Y) ⟨x.Y,l⟩else BB (Lf i) x.Y
 have f7:∀i,(Lf i).length<=999:=λi=>by
  show(if i=0 then s.m.sj else if i=1 then s.m.uo else s.m.ut).length<=999;split
  .exact hl.1
  .split
   .exact hl.2.1
   .exact hl.2.2.1
 have j7:∀i,xw (Lf i):=λi=>by
  show xw (if i=0 then s.m.sj else if i=1 then s.m.uo else s.m.ut);split
  .exact g2.1
  .split
   .exact g2.2.1
   .exact g2.2.2.1
 let Q:Qd->Nat->Prop:=λw' b=>S b\/(e4.heap.size<=b/\b<w'.heap.size/\b≠a6.block)\/(w5.heap.size<=b/\b<e4.heap.size);have f8:∀w',¬Q w' a6.block:=λw' h=>h.F (nS oM) λh=>h.F (λh=>h.2.2 rfl) λh=>by omega
 have d2:∀{w'},AI w w'->e4.heap.size<=w'.heap.size->Old (Q w') w':=λ{w'} hx k5 b hb=>hb.F (λh=>by have:=hS b h;have:=hx.size;omega) λh=>h.F (λh=>h.2.1) λh=>by omega
 have b5:∀{w' w''},w'.heap.size<=w''.heap.size->∀b,Q w' b->Q w'' b:=λk5 b hb=>hb.imp id λh=>h.imp (λh=>⟨h.1,oM,h.2.2⟩) id;have b7:=hm.U b9;refine rn.up (N:=3) (by rw[Al];omega) (λn w'=>∃t:Nat->Sl,ur a6.block d5 w'/\AT w' a6 (BZ (t 0) (t 1) (t 2) v pt true s.IN)/\∀i,i<3->IT rq w' (Q w') (t i) (if i<n then F i else Lf i))
  ⟨λi=>if i=0 then d else if i=1 then e else o,xR.J _,h0,λi hi=>?_⟩ λn w' n1 m9 ⟨t,b',e1,ht⟩ i2=>⟨λh7=>join.named λJ hJ=>?_,λj8=>join.named λJ hJ=>?_⟩
 .rw[fb oM];have:i=0\/i=1\/i=2:=oM;obtain rfl|rfl|rfl:=this
  .exact b7.d.O λb hb=>.inl hb
  .exact b7.e.O λb hb=>.inl hb
  .exact b7.o.O λb hb=>.inl hb
 .have a4:n<3:=by have:((n:Int))<3:=h7;omega
  have h3:∀(t':Nat->Sl)(w'':Qd),ur a6.block d5 w''->AT w'' a6 (BZ (t' 0) (t' 1) (t' 2) v pt true s.IN)->(∀i,i<3->IT rq w'' (Q w'') (t' i) (if i<n+1 then F i else Lf i))->J w'':=λt' w'' q1 q2 q3=>by rw[hJ];exact i2 a4 w'' ⟨t',q1,q2,q3⟩
  clear hJ i2;have bx:∀{w'':Qd} {ad:LP} {cs:LV},ur a6.block d5 w''->AT d5 ad cs->ad.block≠a6.block->AT w'' ad cs:=λb h g0=>b.box h g0;have zb:=b'.1;have d4:AT w' f1 [.pointer (some (a6.add 0)),.pointer (some (a6.add 1)),.pointer (some (a6.add 2))]:=bx b' j4 oM;have i3:se w' (f1.add ((n:Int).toNat*1)) [.pointer (some (a6.add n))]:=by
   rw[fa,qw];have:n=0\/n=1\/n=2:=oM;obtain rfl|rfl|rfl:=this
   .exact d4.at1 (k:=0) xR rfl
   .exact d4.at1 (k:=1) xR rfl
   .exact d4.at1 (k:=2) (r:=[]) xR rfl
  have i4:=ht n a4;rw[fb (Nat.lt_irrefl n)]at i4;have g6:AI w w':=b'.U b9 oM;refine⟨f1,⟨rfl,oM,h7⟩,some (a6.add n),i3,sh.drew λo0 c8=>⟨a6.add n,rfl,t n,Vk e1 a4 c8,x.Y,((bx b' d0 oM).U c8).at1 (k:=1) xR rfl,?_⟩⟩;have k9:=c8.size;refine Ek.V (He (n:=x.Y) ((d2 g6 oM).U k9) (i4.U c8) (by have:=f7 n;omega) λg5 b0 g7 j5=>⟨_,rfl,a6.add n,rfl,Vl (e1.U (c8.Z g7)) a4 λu j0 hu i5 c5 d1=>?_⟩);have d9:=c8.Z g7;have c4:ur a6.block d5 j0:=b'.Z ((d9.J _).Z c5);have Ş:=g7.size;have o4:=c5.1;have a0:∀{w'':Qd} {tt:Sl} {L:Ι},ur a6.block b0 w''->IT rq b0 (Q b0) tt L->IT rq w'' (Q w'') tt L:=λb h=>(h.J b (f8 _)).O (b5 b.1);have i7:IT rq b0 (Q b0) g5 (BB (Lf n) x.Y):=(j5.I (fl (Jz _ _) (by have:=f7 n;omega))).O λb hb=>hb.F (b5 oM b) λh=>.inr (.inl ⟨oM,h.2,oM⟩);have f0:∀i,i<3->IT rq b0 (Q b0) (t i) (if i<n then F i else Lf i):=λi hi=>((ht i hi).U d9).O (b5 oM);refine⟨x.ss,(bx c4 d0 oM).at1 (k:=3) xR rfl,λf9=>sh.drew λe5 a8=>?_,λf9=>?_⟩
  .have k7:se e5 (a6.add n) [g5.v]:=(by rw[<-hu];exact Vk d1 a4 a8);have m0:AI w e5:=(c4.U b9 oM).Z a8;have l0:=a8.size;have g4:IT ui e5 (Q e5) tr l:=((g3.J c4 λh=>by omega).U a8).O λb hb=>.inr (.inr ⟨oM,oM⟩);refine⟨a6.add n,rfl,g5,k7,x.Y,tr,((bx c4 f4 oM).U a8).at0 (r:=[]) xR rfl,Iu.V (UG (d:=⟨x.Y,l⟩) (d2 m0 oM) (((a0 c5 i7).U a8).O (b5 l0)) (by have:=Jz (Lf n) x.Y;have:=f7 n;omega) ((j7 n).zg _) hn g4 λn8 l7 e8 j6=>⟨_,rfl,a6.add n,rfl,Vl (d1.U (a8.Z e8)) a4 λu2 j1 k6 i6 e0 h2=>?_⟩)⟩;have l5:=e8.size;have m2:=e0.1;have f2:ur a6.block b0 j1:=c5.Z (((a8.Z e8).J _).Z e0);refine h3 u2 j1 (c4.Z (((a8.Z e8).J _).Z e0)) h2 λi hi=>?_;by_cases c7:i=n
   .subst c7;rw[fo (om _),k6];have hF:F i=xq (BB (Lf i) x.Y) ⟨x.Y,l⟩:=fo f9;rw[hF];exact((j6.O (S':=Q l7) λb hb=>hb.F (b5 l5 b) λh=>.inr (.inl ⟨oM,h.2,oM⟩)).J e0 (f8 _)).O (b5 m2)
   .rw[i6 i c7,i5 i c7];have:=a0 f2 (f0 i hi);by_cases a9:i<n
    .rw[fo a9]at this;rwa [fo oM]
    .rw[fb a9]at this;rwa [fb oM]
  .refine h3 u j0 c4 d1 λi hi=>?_;by_cases c7:i=n
   .subst c7;rw[fo (om _),hu];have hF:F i=BB (Lf i) x.Y:=fb f9;rw[hF];exact a0 c5 i7
   .rw[i5 i c7];have:=a0 c5 (f0 i hi);by_cases a9:i<n
    .rw[fo a9]at this;rwa [fo oM]
    .rw[fb a9]at this;rwa [fb oM]
 .have a4:n=3:=by have: ¬((n:Int))<3:=j8;omega
  subst a4;have zb:=b'.1;have t0:=ht 0 oM;have t1:=ht 1 oM;have t2:=ht 2 oM;rw[fo oM]at t0 t1 t2;have h9:(⟨F 0,F 1,F 2,s.m.ru⟩:vu)=Fx s.m x.ss ⟨x.Y,l⟩:=by have:x.ss=0\/x.ss=1\/x.ss=2:=oM;show(⟨if((0:Nat):Int)=x.ss then _ else _,if((1:Nat):Int)=x.ss then _ else _,if((2:Nat):Int)=x.ss then _ else _,s.m.ru⟩:vu)=_;unfold Fx JH;rcases this with h|h|h<;>rw[h]<;>rfl
  have k8:IT rq w' (Q w') v s.m.ru:=(b7.v.J b' (nS oM)).O λb hb=>.inl hb;have g6:AI w w':=b'.U b9 oM;have fin:∀{w'':Qd} {pr:Bool},ur a6.block w' w''->AT w'' a6 (BZ (t 0) (t 1) (t 2) v pt true pr)->pr=(s.IN&& !decide (x.ss=1))->J w'':=by
   subst hJ;intro w'' pr b2 e2 j9;have z2:=b2.1;have a0:∀{tt:Sl} {L:Ι},IT rq w' (Q w') tt L->IT rq w'' (Q w'') tt L:=λh=>(h.J b2 (f8 _)).O (b5 z2);have b8:AI w w'':=b2.U g6 oM;have k0:=a0 t0;have k1:=a0 t1;have k2:=a0 t2;have kv:=a0 k8;refine⟨t 0,t 1,t 2,v,e2.at0 xR rfl,Gk.V (Oq (m:=⟨F 0,F 1,F 2,s.m.ru⟩) (hg.U b8).zu (d2 b8 oM) k0 k1 k2 kv λl8 b6=>⟨_,rfl,λh=>?_,λh=>?_⟩)⟩
   all_goals
    rw[h9]at h;have e9:AT l8 a3 _:=(b2.box (b'.box g9 oM) oM).U b6;have n7:=b6.size
   .exact ã.mk e9 rfl λd6 c6=>hR 26 B8 _ _ _ _ _ _ _ d6 (c6.U (b8.Z b6) oM) ⟨OF,_,hp,hr,.ţ d3 e3 rfl hk.1 hk.2 (by simpa using h)⟩ nO
   .refine ġ.mk (e2.U b6) e9 rfl λd6 c6=>?_;have o5:=c6.1;have dn:∀{tt:Sl} {L:Ι},IT rq w'' (Q w'') tt L->IT rq d6 (λb=>S b\/(w.heap.size<=b/\b<d6.heap.size)) tt L:=λh=>((h.U b6).J c6 λh=>h.F (nS oM) λh=>h.F (λh=>by omega) λh=>by omega).O λb hb=>hb.imp id λh=>h.F (λh=>by omega) λh=>(by omega);refine hR 0 ⟨Fx s.m x.ss ⟨x.Y,l⟩,OF,true,s.IN&& !decide (x.ss=1)⟩ _ _ _ _ _ _ _ d6 (c6.U (b8.Z b6) oM) ⟨OF,_,hp,hr,.add d3 e3 rfl hk.1 hk.2 (by simpa using h)⟩ λ_=>⟨?_,?_,rfl,j9⟩
    .rw[<-h9];exact⟨dn k0,dn k1,dn k2,dn kv⟩
    .have h5:=(hf.U c3).J (b'.Z b2) λad h=>(by have:=hb ad h;omega);exact(((h5.U b6).low (show w.heap.size<=i9.heap.size from d7.size)).J c6 λad h=>by have:=hb ad h;omega).OF hq |>.O λb hb=>.inr hb
  clear hJ;refine⟨x.ss,(b'.box d0 oM).at1 (k:=3) xR rfl,λf6=>?_,λf6=>?_⟩
  .refine rp.intro e1 (o:=6) (by simp[BZ]) λw'' b2 _ e2=>fin b2 e2 (by rw[ie f6,Bool.not_true,Bool.and_false])
  .exact fin (xR.J _) e1 (by rw[gl f6,Bool.not_false,Bool.and_true])
end
def Hu(hS:Old S w)(hs:IT rq w S s l)(hR:∀t w',AI w w'->zn zx w' (λb=>w.heap.size<=b/\b<w'.heap.size) t l->R t w'):EW s w R:=N4 hS hs hR
def Wi{p:sf}{e:Sl}{R:PU->Int->Int->Int->Sl->Sl->Sl->Wp}(hS:Old S w)(hd:IT rq w S d p.sj)(he:IT rq w S e p.sw)(ho:IT rq w S o p.ut)
  (hR:∀d' e' o' w',AI w w'->zn zx w' (λb=>w.heap.size<=b/\b<w'.heap.size) d' p.sj->zn zx w' (λb=>w.heap.size<=b/\b<w'.heap.size) e' p.sw->zn zx w' (λb=>w.heap.size<=b/\b<w'.heap.size) o' p.ut->R p.Y p.v.ma p.v.mi p.v.pa d' e' o' w'):
  IU p.Y p.v.ma p.v.mi p.v.pa d e o w R:=by
 refine An.intro λa w1 x1 hb ha _=>An.intro λa1 w2 x2 a6 c6 c7=>sh.drew λw3 x3=>?_;have a0:AI w w3:=x1.Z (x2.Z x3);have s1:=x1.size;have s2:=x2.size;have s3:=x3.size;refine⟨d,hb.at1 (x2.Z x3) rfl,e,hb.at1 (x2.Z x3) rfl,o,hb.at1 (x2.Z x3) rfl,?_⟩;refine tc.intro (EW.V (Hu (hS.U a0.size) (hd.U a0) λd' w4 x4 b6=>⟨x4,_,rfl,?_⟩));refine tc.intro (EW.V (Hu (hS.U (a0.Z x4).size) (he.U (a0.Z x4)) λe' w5 x5 c3=>⟨x5,_,rfl,?_⟩));refine EW.V (Hu (hS.U (a0.Z (x4.Z x5)).size) (ho.U (a0.Z (x4.Z x5))) λo' w6 x6 c4=>⟨_,rfl,?_⟩);have s4:=x4.size;have s5:=x5.size;have s6:=x6.size;have c5:AI w w6:=a0.Z (x4.Z (x5.Z x6));have k1:a.block<w3.heap.size:=by have:=hb.lt;omega
 have k2:a1.block<w3.heap.size:=by have:=a6.lt;omega
 have hD:=(b6.U (x5.Z x6)).O (S':=λb=>w3.heap.size<=b/\b<w6.heap.size) λb hb=>⟨hb.1,oM⟩;have hE:=(c3.U x6).O (S':=λb=>w3.heap.size<=b/\b<w6.heap.size) λb hb=>⟨oM,oM⟩;have hO:=c4.O (S':=λb=>w3.heap.size<=b/\b<w6.heap.size) λb hb=>⟨oM,oM⟩;have b0:AT w6 a _:=hb.U (x2.Z (x3.Z (x4.Z (x5.Z x6))));have a8:AT w6 a1 _:=a6.U (x3.Z (x4.Z (x5.Z x6)));refine rp.intro b0 sI λw7 b7 _ b2=>rp.intro b2 sI λw8 b8 _ b4=>rp.intro b4 sI λw9 b9 _ b5=>⟨_,_,_,_,_,_,_,b5.se.pre rfl,?_⟩;have a5:a1.block≠a.block:=by have:=hb.lt;omega
 refine tj.intro (b9.box (b8.box (b7.box a8 a5) a5) a5) sI λa9 a4 _ a7=>⟨_,_,_,_,_,_,_,a7.se.pre rfl,?_⟩;have n1: ¬(w3.heap.size<=a.block/\a.block<w6.heap.size):=oM;have n2: ¬(w3.heap.size<=a1.block/\a1.block<w6.heap.size):=oM;have z7:=b7.size;have z8:=b8.size;have z9:=b9.size;have c8:=a4.size;have up:∀b,(w3.heap.size<=b/\b<w6.heap.size)->(w.heap.size<=b/\b<a9.heap.size):=λb hb=>⟨oM,oM⟩;refine hR d' e' o' a9 ?_ (((((hD.J b7 n1).J b8 n1).J b9 n1).J a4 n2).O up) (((((hE.J b7 n1).J b8 n1).J b9 n1).J a4 n2).O up) (((((hO.J b7 n1).J b8 n1).J b9 n1).J a4 n2).O up);exact a4.U (b9.U (b8.U (b7.U c5 oM) oM) oM) oM
def ZF{l:LQ}(hS:Old S w)(hs:IT wo w S s l)(hR:∀t w',AI w w'->rl wo 153 w' w.heap.size rz t l->R t w'):Mk s w R:=by
 unfold Mk;refine⟨λh=>?_,λh=>?_⟩
 .have:l=[]:=by
   rcases hs.2.2.2.2 with h0|⟨ad,h1,_⟩
   .exact h0
   .rw[h]at h1;cases h1
  subst this;exact hR _ _ xR (rl.nil _ _)
 .intro a w1 ha hw;subst ha;have x1:AI w w1:=hw▸AI.alloc _ _;have ux:rl wo 153 w1 w.heap.size rz ⟨some ⟨w.heap.size,0,none⟩,0,0⟩ []:=hw▸rl.empty w;refine ux.zj Nq x1.size (hs.U x1) (hS.U x1.size) (λad ha hb=>?_) (by simpa using hs.2.2.2.1) (by simpa using hs.max) λr w2 a0 vd _ _=>?_
  .simp only[ff]at ha;subst ha;have:=hS _ hb;simp at this
  .exact hR r w2 (x1.A vd) (rl.flat (λh=>h) a0)
def Zhs(hS:Old S w)(hs:IT ud w S s g)(hR:∀t w',AI w w'->IT ud w' (λb=>w.heap.size<=b/\b<w'.heap.size) t g->R t w'):Lw s w R:=by
 unfold Lw;have hl:=hs.len;have b9:=hs.2.2.2.1;have b4:ud.bytes=88:=rfl;have e1:=hs.max;refine An.intro λa w1 x1 ha _ _=>An.intro λa1 w2 x2 h1 _ _=>An.intro λa3 w4 x4 h3 f1 _=>⟨s,ha.at0 (r:=[]) (x2.Z x4) rfl,?_⟩;have e7:=x1.Z (x2.Z x4);have s1:=x1.size;have s2:=x2.size;have s4:=x4.size;have l1:=h1.lt;have l3:=h3.lt;refine rn.up hs.max (λi w'=>∃so Q,AI w w'/\w4.heap.size<=w'.heap.size/\AT w' a1 [Sl.nil.v]/\AT w' a3 [Sl.v so]/\rl ud 56 w' w4.heap.size Q so (g.take i)/\∀b,Q b->w4.heap.size<=b) ⟨Sl.nil,rz,e7,ga _,h1.U x4,h3,rl.zero _,λ_ h=>h.F⟩ λi w5 f4 hi ⟨so,Q,b5,z5,c5,c6,o5,hQ⟩ hn=>⟨λc9=>?_,λf3=>?_⟩
 .have a9:i<g.length:=oM;obtain⟨ad,cs,es,d9,e3,c7,c8,e0⟩:=Ct (hs.U b5) a9;refine⟨ad,⟨d9,oM,c9⟩,_,_,_,_,cs,es,by rw[fa];exact e0 _ xR,An.set rfl λa7 w6 x6 h7 f2=>sh.drew λw7 x7=>⟨cs,h7.at1 (k:=4) x7 rfl,es,h7.at1 (k:=5) (r:=[]) x7 rfl,?_⟩⟩;have b7:=x6.Z x7;have d1:=b5.Z b7;have f8:=b7.size;have l7:=h7.lt;have s7:=x7.size;refine tc.intro (Jh.V (Ub (hS.U d1.size) (c7.U b7) λt8 w8 x8 o8=>⟨x8,_,rfl,?_⟩));refine Mk.V (ZF (hS.U (d1.Z x8).size) (c8.U (b7.Z x8)) λt9 w9 x9 o9=>⟨_,rfl,?_⟩);have d2:=x7.Z (x8.Z x9);have s8:=x8.size;have s9:=x9.size;refine rp.intro (h7.U d2) (o:=4) sI λf9 d3 _ d5=>rp.intro d5 (o:=5) sI λd0 d4 _ d6=>?_;have a6:ur a7.block w9 d0:=d3.Z d4;have e9:=a6.1;have a0:AI w5 d0:=a6.U (x6.Z d2) oM;have b8:=c6.U a0;refine⟨so,b8.at0 (r:=[]) xR rfl,_,_,_,_,t8,t9,d6.at0 (r:=[]) xR rfl,An.intro λf0 a4 a5 d7 _ _=>?_⟩;have f6:=a5.size;have b0:(g.take i).length=i:=by rw[fk];omega
  have r8:IT uy a4 (λb=>w5.heap.size<=b/\b<a4.heap.size/\b≠a7.block) t8 g[i].uk:=(((((o8.Ċ dC c7.2.2.2.1).py (λh=>h) dC).U x9).J a6 λh=>by omega).U a5).O λb hb=>by omega
  have r9:IT wo a4 (λb=>w5.heap.size<=b/\b<a4.heap.size/\b≠a7.block) t9 g[i].sd:=((((o9.Ċ dC c8.2.2.2.1).py (λh=>h) dC).J a6 λh=>by omega).U a5).O λb hb=>by omega
  refine(o5.U (a0.Z a5)).push P3 (by have:=a0.size;omega) (x:=g[i]) (S':=λb=>w5.heap.size<=b/\b<a4.heap.size/\b≠a7.block) ⟨e3,t8,t9,rfl,r8,r9⟩ (d7.se.pre (r:=[]) rfl) (λb hb=>hb.2.1) (λad ha hb=>by have:=(o5.block ha).2.1;have:=hb.1;omega) (by rw[b0,b4];rw[b4]at b9;omega) (by rw[b0];omega) λr e5 e4 a8 c3 c4=>?_;have f7:=Below.size a8;have e8:=a0.size;have e2:∀ad,so.a=some ad->a3.block≠ad.block:=λad h=>by have:=(o5.block h).1;omega
  have kb:∀{ad:LP} {cs:LV},AT a4 ad cs->ad.block<w4.heap.size->AT e5 ad cs:=λh c9=>h.ry (S:=λb=>∀ad,so.a=some ad->b≠ad.block) (λad h=>by have:=(o5.block h).1;omega) λb hb hl=>c3 b hl hb;refine tj.intro (kb (b8.U a5) oM) sI λe6 b2 _ d8=>hn a9 e6 ⟨r,λb=>Q b\/(w5.heap.size<=b/\b<a4.heap.size/\b≠a7.block),?_,?_,b2.box (kb (c5.U (a0.Z a5)) oM) oM,d8,?_,λb hb=>hb.F (hQ b) λh=>by omega⟩
  .exact b2.U ((b5.Z (a0.Z a5)).A (a8.O oM)) oM
  .have:=b2.1;omega
  .rw[dz a9];refine e4.J b2 (λhb=>?_) λad ha=>?_
   .obtain hb|hb:=hb
    .have:=hQ _ hb;omega
    .omega
   .obtain q|q:=c4 ad ha
    .exact e2 ad q
    .omega
 .have a9:i=g.length:=oM;subst a9;rw[fe]at o5;have rd:=(o5.I (by rw[b4];rw[b4]at b9;omega) e1).O (S':=λb=>w4.heap.size<=b/\b<w5.heap.size) λb hb=>by
   rcases hb with hb|⟨ad,ha,rfl⟩
   .exact⟨hQ b hb,o5.lt b hb⟩
   .have:=o5.block ha;exact⟨this.1,this.2.1⟩
  refine⟨so,c6.at0 (r:=[]) xR rfl,tj.intro c5 sI λw6 b6 _ h6=>⟨so,h6.at0 (r:=[]) xR rfl,?_⟩⟩;have z6:=b6.1;exact hR so w6 (b6.U b5 oM) ((rd.J b6 λh=>by omega).O λb hb=>by omega)
def Zhu{g:Θ}(hS:Old S w)(hs:IT vm w S s g)(hR:∀t w',AI w w'->IT vm w' (λb=>w.heap.size<=b/\b<w'.heap.size) t g->R t w'):Ly s w R:=by
 unfold Ly;have hl:=hs.len;have b8:=hs.2.2.2.1;have b0:vm.bytes=144:=rfl;have d5:=hs.max;refine An.intro λa w1 x1 ha _ _=>An.intro λa1 w2 x2 h1 _ _=>An.intro λa3 w4 x4 h3 e5 _=>⟨s,ha.at0 (r:=[]) (x2.Z x4) rfl,?_⟩;have e2:=x1.Z (x2.Z x4);have s1:=x1.size;have s2:=x2.size;have s4:=x4.size;have l1:=h1.lt;have l3:=h3.lt;refine rn.up hs.max (λi w'=>∃so Q,AI w w'/\w4.heap.size<=w'.heap.size/\AT w' a1 [Sl.nil.v]/\AT w' a3 [Sl.v so]/\rl vm 61 w' w4.heap.size Q so (g.take i)/\∀b,Q b->w4.heap.size<=b) ⟨Sl.nil,rz,e2,ga _,h1.U x4,h3,rl.zero _,λ_ h=>h.F⟩ λi w5 e8 hi ⟨so,Q,b2,z5,c5,b9,o5,hQ⟩ hn=>⟨λc6=>?_,λe7=>?_⟩
 .have a6:i<g.length:=oM;obtain⟨ad,ps,d,e,o,d1,_,d8,c7,hd,he,ho,d4⟩:=xt (hs.U b2) a6;refine⟨ad,⟨d1,oM,c6⟩,ps,g[i].td.Y,g[i].td.v.ma,g[i].td.v.mi,g[i].td.v.pa,d,e,o,g[i].rk,by rw[fa];exact d4 _ xR,An.set rfl λa7 w6 x6 h7 e6=>sh.drew λw7 x7=>⟨so,b9.at0 (r:=[]) (x6.Z x7) rfl,ps,h7.at0 x7 rfl,g[i].td.Y,g[i].td.v.ma,g[i].td.v.mi,g[i].td.v.pa,d,e,o,h7.at1 (k:=1) x7 rfl,g[i].rk,h7.at1 (k:=8) (r:=[]) x7 rfl,?_⟩⟩;have b5:=x6.Z x7;have c8:=b2.Z b5;have f1:=b5.size;have s7:=x7.size;refine tc.intro (G1.V (N6 (hS.U c8.size) (c7.U b5) λt8 w8 x8 o8=>⟨x8,_,rfl,?_⟩));have b7:=b5.Z x8;refine tc.intro (IU.V (Wi (p:=g[i].td) (hS.U (c8.Z x8).size) (hd.U b7) (he.U b7) (ho.U b7) λd' e' o' w9 x9 d2 d3 d7=>⟨x9,_,_,_,_,d',e',o',rfl,An.intro λe4 a4 b4 c9 _ _=>?_⟩));have s8:=x8.size;have s9:=x9.size;have e9:=b4.size;have a0:=b7.Z (x9.Z b4);have e3:=a0.size;have a8:(g.take i).length=i:=by rw[fk];omega
  have r8:IT vx a4 (λb=>w5.heap.size<=b/\b<a4.heap.size) t8 g[i].Of:=(((o8.Ċ dC c7.2.2.2.1).py (λh=>h) dC).U (x9.Z b4)).O λb hb=>by omega
  have up:∀{tt:Sl} {L:Ι},zn zx w9 (λb=>w8.heap.size<=b/\b<w9.heap.size) tt L->IT rq a4 (λb=>w5.heap.size<=b/\b<a4.heap.size) tt L:=λh=>(h.dep.U b4).O λb hb=>by omega
  refine(o5.U a0).push Ty oM (x:=g[i]) (S':=λb=>w5.heap.size<=b/\b<a4.heap.size) ⟨d8,t8,d',e',o',rfl,r8,up d2,up d3,up d7⟩ (c9.se.pre (r:=[]) rfl) (λb hb=>hb.2) (λad ha hb=>by have:=(o5.block ha).2.1;have:=hb.1;omega) (by rw[a8,b0];rw[b0]at b8;omega) (by rw[a8];omega) λr e0 d9 a5 c3 c4=>?_;have f0:=Below.size a5;have d6:∀ad,so.a=some ad->a3.block≠ad.block:=λad h=>by have:=(o5.block h).1;omega
  have kb:∀{ad:LP} {cs:LV},AT a4 ad cs->ad.block<w4.heap.size->AT e0 ad cs:=λh c6=>h.ry (S:=λb=>∀ad,so.a=some ad->b≠ad.block) (λad h=>by have:=(o5.block h).1;omega) λb hb hl=>c3 b hl hb;refine tj.intro (kb (b9.U a0) oM) sI λe1 a9 _ d0=>hn a6 e1 ⟨r,λb=>Q b\/(w5.heap.size<=b/\b<a4.heap.size),?_,?_,a9.box (kb (c5.U a0) oM) oM,d0,?_,λb hb=>hb.F (hQ b) λh=>by omega⟩
  .exact a9.U ((b2.Z a0).A (a5.O oM)) oM
  .have:=a9.1;omega
  .rw[dz a6];refine d9.J a9 (λhb=>?_) λad ha=>?_
   .obtain hb|hb:=hb
    .have:=hQ _ hb;omega
    .omega
   .obtain q|q:=c4 ad ha
    .exact d6 ad q
    .omega
 .have a6:i=g.length:=oM;subst a6;rw[fe]at o5;have rd:=(o5.I (by rw[b0];rw[b0]at b8;omega) d5).O (S':=λb=>w4.heap.size<=b/\b<w5.heap.size) λb hb=>by
   rcases hb with hb|⟨ad,ha,rfl⟩
   .exact⟨hQ b hb,o5.lt b hb⟩
   .have:=o5.block ha;exact⟨this.1,this.2.1⟩
  refine⟨so,b9.at0 (r:=[]) xR rfl,tj.intro c5 sI λw6 b6 _ h6=>⟨so,h6.at0 (r:=[]) xR rfl,?_⟩⟩;have z6:=b6.1;exact hR so w6 (b6.U b2 oM) ((rd.J b6 λh=>by omega).O λb hb=>by omega)
def Ą{e v:Sl}{m:vu}{R:Sl->Sl->Sl->Sl->Wp}(hS:Old S w)(hm:za w S d e o v m)(hR:∀d' e' o' v' w',AI w w'->za w' (λb=>w.heap.size<=b/\b<w'.heap.size) d' e' o' v' m->R d' e' o' v' w'):Hv d e o v w R:=by
 refine An.intro λa w1 x1 ha _ _=>An.intro λa1 w2 x2 h1 a7 _=>sh.drew λw3 x3=>⟨d,ha.at0 (x2.Z x3) rfl,e,ha.at1 (k:=1) (x2.Z x3) rfl,o,ha.at1 (k:=2) (x2.Z x3) rfl,v,ha.at1 (k:=3) (r:=[]) (x2.Z x3) rfl,?_⟩;have a0:=x1.Z (x2.Z x3);refine tc.intro (EW.V (Hu (hS.U a0.size) (hm.d.U a0) λt1 w4 x4 r1=>⟨x4,_,rfl,?_⟩));have a4:=a0.Z x4;refine tc.intro (EW.V (Hu (hS.U a4.size) (hm.e.U a4) λt2 w5 x5 r2=>⟨x5,_,rfl,?_⟩));have a5:=a4.Z x5;refine tc.intro (EW.V (Hu (hS.U a5.size) (hm.o.U a5) λt3 w6 x6 r3=>⟨x6,_,rfl,?_⟩));have a6:=a5.Z x6;refine EW.V (Hu (hS.U a6.size) (hm.v.U a6) λt4 w7 x7 r4=>⟨_,rfl,tj.intro (h1.U (x3.Z (x4.Z (x5.Z (x6.Z x7))))) sI λw8 b8 _ h8=>⟨t1,t2,t3,t4,h8.at0 (r:=[]) xR rfl,?_⟩⟩);have s1:=x1.size;have s2:=x2.size;have s3:=x3.size;have s4:=x4.size;have s5:=x5.size;have s6:=x6.size;have s7:=x7.size;have z8:=b8.1;have l1:=h1.lt;have up:∀{tt:Sl} {L:Ι} {wa wb:Qd},zn zx wb (λb=>wa.heap.size<=b/\b<wb.heap.size) tt L->AI wb w7->w3.heap.size<=wa.heap.size->IT rq w8 (λb=>w.heap.size<=b/\b<w8.heap.size) tt L:=λh hx a8=>by have:=hx.size;exact((h.dep.U hx).J b8 λh=>by omega).O λb hb=>by omega
 exact hR t1 t2 t3 t4 w8 (b8.U (a6.Z x7) oM) ⟨up r1 (x5.Z (x6.Z x7)) nR,up r2 (x6.Z x7) oM,up r3 x7 oM,up r4 xR oM⟩
def Zht{e v g:Sl}{s:è}{R:Sl->Sl->Sl->Sl->Sl->Sl->Á}(hS:Old S w)(hs:xx w S d e o v g t s)(hR:∀d' e' o' v' g' t' w',AI w w'->xx w' (λb=>w.heap.size<=b/\b<w'.heap.size) d' e' o' v' g' t' s->R d' e' o' v' g' t' s.IN w'):Lx d e o v g t s.IN w R:=by refine An.intro λa w1 x1 ha _ _=>An.intro λa1 w2 x2 h1 a6 _=>sh.drew λw3 x3=>⟨d,e,o,v,ha.at0 (x2.Z x3) rfl,g,ha.at1 (k:=4) (x2.Z x3) rfl,t,ha.at1 (k:=5) (x2.Z x3) rfl,_,ha.at1 (k:=6) (r:=[]) (x2.Z x3) rfl,?_⟩;have a0:=x1.Z (x2.Z x3);refine tc.intro (Hv.V (Ą (hS.U a0.size) (hs.m.U a0) λd' e' o' v' w4 x4 hm=>⟨x4,d',e',o',v',rfl,?_⟩));have a4:=a0.Z x4;refine tc.intro (Lw.V (Zhs (hS.U a4.size) (hs.g.U a4) λg' w5 x5 hg=>⟨x5,g',rfl,?_⟩));have a5:=a4.Z x5;refine tc.intro (Ly.V (Zhu (hS.U a5.size) (hs.t.U a5) λt' w6 x6 ht=>⟨x6,t',rfl,?_⟩));refine tj.intro (h1.U (x3.Z (x4.Z (x5.Z x6)))) sI λw8 b8 _ h8=>⟨d',e',o',v',g',t',_,h8.at0 (r:=[]) xR rfl,?_⟩;have s1:=x1.size;have s2:=x2.size;have s3:=x3.size;have s4:=x4.size;have s5:=x5.size;have s6:=x6.size;have z8:=b8.1;have l1:=h1.lt;refine hR d' e' o' v' g' t' w8 (b8.U (a5.Z x6) oM) ⟨((hm.U (x5.Z x6)).J b8 λh=>by omega).O λb hb=>by omega,((hg.U x6).J b8 λh=>by omega).O λb hb=>by omega,(ht.J b8 λh=>by omega).O λb hb=>by omega⟩
def Xp(t:Ż):LV:=[vi (t.tz:Int),.string t.label,vi (t.dst:Int)]
def BO:xh Ż:=DS 3 32 Xp (λt=>Ac t.label) (λ_=>rfl) (λ_ v hv=>by simp[Xp]at hv;rcases hv with rfl|rfl|rfl<;>rfl)
def Xq{l:List Ż}(h:IT BO w S s l)(hn:n<l.length):∃ad,s.a=some ad/\Ac l[n].label/\∀w',AI w w'->se w' (ad.add (n*3)) [vi (l[n].tz:Int),.string l[n].label,vi (l[n].dst:Int)]:=by obtain⟨ad,cs,h1,h2,⟨rfl,h3⟩,h4⟩:=h.el hn;exact⟨ad,h1,h3,h4⟩
section
variable {w:Qd} {p:LP} {S:Nat->Prop} {c:PC} {G:Ζ} {P:Κ} {tf:Option (Θ)} {s:vq}
def Zir{x:PU}{R:À}(h:ħ BO w p S c G P tf s)(hR:∀w',AI w w'->R (Ck (Ff s tz x)) w'):L9 (some p) (tz:Int) x w R:=by
 unfold L9;have a5:=h.st;have hl:=a5.len;refine⟨p,rfl,c.st,h.ld xR 8 (r:=[]) rfl,?_⟩;refine rn.up a5.max (λi w'=>AI w w'/\∀j (hj:j<s.done.length),j<i-> ¬(s.done[j].tz=tz/\s.done[j].label=x)) ⟨AI.refl _,λ_ _ h=>by omega⟩ λi w1 b0 hi ⟨x1,hI⟩ hn=>⟨λa8=>?_,λa9=>?_⟩
 .have a4:i<s.done.length:=oM;obtain⟨ad,ha,_,a7⟩:=Xq a5 a4;refine⟨ad,⟨ha,oM,a8⟩,(s.done[i].tz:Int),s.done[i].label,(s.done[i].dst:Int),by rw[fa];exact a7 _ x1,An.set rfl λa w2 x2 a0 _=>⟨_,a0.at0 xR rfl,py ⟨_,λ_=>a0.at1 (k:=1) xR rfl,λhc=>⟨_,a0.at1 (k:=2) (r:=[]) xR rfl,?_⟩,λhc=>?_⟩⟩⟩
  .simp only[ep,ko,AA]at hc;have e:Ff s tz x=some s.done[i].dst:=by unfold Ff;rw[List.find?_eq_some_iff_getElem.2 ⟨by simp only[fp];exact⟨oM,hc.2⟩,i,a4,rfl,λj hj=>by rw[na,ig];exact hI j oM hj⟩];rfl
   have:=hR w2 (x1.Z x2);rw[e]at this;exact this
  .refine hn a4 w2 ⟨x1.Z x2,λj hj a6=>?_⟩;obtain h'|h':=iy.1 a6
   .exact hI j hj h'
   .subst h';rintro⟨h1,h2⟩;rw[h1,h2,AA.2 rfl]at hc;simp at hc
 .have e:Ff s tz x=none:=by
   unfold Ff;rw[kq.2 λt ht=>?_]
   .rfl
   .obtain⟨j,hj,rfl⟩:=gh.1 ht;rw[fp];exact hI j hj oM
  have:=hR w1 x1;rw[e]at this;exact this
def Ziy{R:Á}(h:ħ E w p S c G P tf s)(hi:i<s.By.length)(hj:j<s.By.length)(hR:∀w',AI w w'->R (decide (Ae s.By j<+:Ae s.By i)) w'):LI (some p) (i:Int) (j:Int) w R:=by
 unfold LI;have b4:=F6 h;obtain⟨ad,qi,_,_,_,ha,_,_,a4,_,_,_,a8⟩:=h.xt hi;obtain⟨a6,qj,_,_,_,a7,_,_,a5,_,_,_,a9⟩:=h.xt hj;have e1:Ae s.By i=s.By[i].Of:=Cb (dw hi);have e2:Ae s.By j=s.By[j].Of:=Cb (dw hj);rw[e1,e2]at hR;generalize s.By[i].Of=pi at*;generalize s.By[j].Of=pj at*;have b5:=a4.len;have b0:=a5.len;have b2:pi.length<=qi.cap:=a4.2.1;refine sh.drew λw1 x1=>⟨p,rfl,c.dr,h.ld x1 7 rfl,ad,⟨ha,oM,oM⟩,qi,by rw[fa];exact(a8 _ x1).pre rfl,p,rfl,c.dr,h.ld x1 7 rfl,a6,⟨a7,oM,oM⟩,qj,by rw[fa];exact(a9 _ x1).pre rfl,py ⟨λhg=>?_,No.intro (decide (pi.take pj.length=pj)) (λhg q hq=>?_) λt w2 x2 ht=>?_⟩⟩
 .have:=mh hg;exact⟨oM,oM⟩
 .have:=mh hg;have a0:=(a4.U x1).cut (a:=0) (b:=pj.length) (im _) oM;rw[lf]at a0;rw[fa,b0];exact HB.V (NK a0 (a5.U x1) λw2 x2=>⟨_,rfl,hq w2 x2⟩)
 .have:=hR w2 (x1.Z x2);have e:(decide ((qj.len:Int)<=(qi.len:Int))&&t)=decide (pj<+:pi):=by
   rw[ij,ep,jl,jl];constructor
   .rintro⟨h1,h2⟩;rw[ht (ie h1),jl]at h2;rw[<-h2];exact List.take_prefix _ _
   .intro h1;have h2:=h1.length_le;have h3:(qj.len:Int)<=(qi.len:Int):=oM;refine⟨h3,?_⟩;rw[ht (ie h3),jl];exact(List.prefix_iff_eq_take.1 h1).H
  rwa [e]
def Nj(s:vq)(j:Nat)(x:PU):Prop:=∃t∈s.done,t.label=x/\Ae s.By j<+:Ae s.By t.tz/\(Ae s.By t.dst).length<=(Ae s.By j).length
def Zix{x:PU}{R:Á}(h:ħ BO w p S c G P tf s)(hd:Pj s)(hj:j<s.By.length)(hR:∀(b:Bool) w',AI w w'->(b=true↔Nj s j x)->R b w'):LH (some p) (j:Int) x w R:=by
 unfold LH;have d1:=F6 h;obtain⟨b0,qj,_,_,_,b4,_,_,c6,_,_,_,b6⟩:=h.xt hj;have e2:Ae s.By j=s.By[j].Of:=Cb (dw hj);have a6:=h.st;have hl:=a6.len;have b8:=c6.len;rw[<-e2]at b8;refine⟨p,rfl,c.dr,h.ld xR 7 rfl,b0,⟨b4,oM,oM⟩,qj,by rw[fa];exact(b6 _ xR).pre rfl,p,rfl,c.st,h.ld xR 8 (r:=[]) rfl,?_⟩;refine rn.up a6.max (λi w'=>AI w w'/\∀k (hk:k<s.done.length),k<i-> ¬(s.done[k].label=x/\Ae s.By j<+:Ae s.By s.done[k].tz/\(Ae s.By s.done[k].dst).length<=(Ae s.By j).length)) ⟨AI.refl _,λ_ _ h=>by omega⟩ λi w1 d0 hi ⟨x1,hI⟩ hn=>⟨λc4=>?_,λd2=>?_⟩
 .have a4:i<s.done.length:=oM;obtain⟨ad,ha,_,c3⟩:=Xq a6 a4;obtain⟨c8,a8⟩:=hd _ (fm a4);obtain⟨b2,qt,_,_,_,b5,_,_,c7,_,_,_,b7⟩:=h.xt a8;have e3:Ae s.By s.done[i].dst=s.By[s.done[i].dst].Of:=Cb (dw a8);have c9:=c7.len;rw[<-e3]at c9;have a9:(s.done[i].label=x/\Ae s.By j<+:Ae s.By s.done[i].tz/\(Ae s.By s.done[i].dst).length<=(Ae s.By j).length)->Nj s j x:=λh=>⟨_,fm a4,h⟩;have a7: ¬(s.done[i].label=x/\Ae s.By j<+:Ae s.By s.done[i].tz/\(Ae s.By s.done[i].dst).length<=(Ae s.By j).length)->∀w',AI w w'->d0 (Aa ((i:Int)+1)) w':=λc5 w' hx=>hn a4 w' ⟨hx,λk hk b9=>by
   obtain h'|h':=iy.1 b9
   .exact hI k hk h'
   .subst h';exact c5⟩
  generalize s.done[i]=d at*;refine⟨ad,⟨ha,oM,c4⟩,(d.tz:Int),d.label,(d.dst:Int),by rw[fa];exact c3 _ x1,An.set rfl λa w2 x2 a5 _=>sh.drew λw3 x3=>⟨_,a5.at1 (k:=1) x3 rfl,py ⟨(d.tz:Int),λ_=>a5.at0 x3 rfl,?_⟩⟩⟩;have a0:=x1.Z (x2.Z x3);refine No.intro (decide (Ae s.By j<+:Ae s.By d.tz)) (λ_ q hq=>LI.V (Ziy (h.U a0) c8 hj λw4 x4=>⟨_,rfl,hq w4 x4⟩)) λt w4 x4 ht=>py ⟨p,λ_=>rfl,c.dr,λ_=>h.ld (a0.Z x4) 7 rfl,(d.dst:Int),λ_=>a5.at1 (k:=2) (r:=[]) (x3.Z x4) rfl,b2,λ_=>⟨b5,oM,oM⟩,qt,λ_=>by rw[fa];exact(b7 _ (a0.Z x4)).pre rfl,λhc=>?_,λhc=>?_⟩
  .simp only[ep,fp]at hc;obtain⟨⟨h1,h2⟩,h3⟩:=hc;rw[ht h1,jl]at h2;exact hR true w4 (a0.Z x4) ⟨λ_=>a9 ⟨AA.1 h1,h2,oM⟩,λ_=>rfl⟩
  .refine a7 (λ⟨h1,h2,h3⟩=>?_) w4 (a0.Z x4);have h1:=AA.2 h1;rw[ht h1,h1,ie h2,ie (show(qt.len:Int)<=(qj.len:Int) by omega)]at hc;cases hc
 .refine hR false w1 x1 ⟨nO,λ⟨t,ht,hq⟩=>?_⟩;obtain⟨k,hk,rfl⟩:=gh.1 ht;exact fu hq (hI k hk oM)
end
def yh(Q:Nat->Prop):Γ->Prop
 |none=>∀n,¬Q n
 |some n=>Q n/\∀m,Q m->n<=m
def yh.iff{Q Q':Nat->Prop}{o:Γ}(h:yh Q o)(e:∀n,Q n↔Q' n):yh Q' o:=by
 cases o with
 |none=>exact λn hn=>h n ((e n).2 hn)
 |some n=>exact⟨(e n).1 h.1,λm hm=>h.2 m ((e m).2 hm)⟩
def Zb{s:vq}{q:Ap}{x:PU}{ww:Nat->Bool}{bo lo:Γ}(hb:yh (zf s q x) bo)(hl:yh (λn=>zf s q x n/\ww n=true) lo)(a0:∃n,zf s q x n):∃n,ċ s q x ww n/\(match lo with|some m=>m=n|none=>bo=some n):=by
 cases lo with
 |some m=>exact⟨m,⟨hl.1.1,λ_ _ _=>hl.1.2,λk hk e=>hl.2 k ⟨hk,e.Z hl.1.2⟩⟩,rfl⟩
 |none=>
  cases bo with
  |none=>obtain⟨n,hn⟩:=a0;exact fu hn (hb n)
  |some n=>
   have a4:∀k,zf s q x k->ww k=false:=λk hk=>by
    cases hlk:ww k with
    |false=>rfl
    |true=>exact fu ⟨hk,hlk⟩ (hl k)
   exact⟨n,⟨hb.1,(λm hm h=>by rw[a4 m hm]at h;cases h),λm hm _=>hb.2 m hm⟩,rfl⟩
section
variable {w:Qd} {p:LP} {S:Nat->Prop} {c:PC} {G:Ζ} {P:Κ} {tf:Option (Θ)} {s:vq}
def D6(s:vq)(q:Ap)(o:Γ):Int:=Ck (o.bind λn=>Az s.By (q.take n))
def Ziw{k:Nat}{R:À}(h:ħ BO w p S c G P tf s)(hd:Pj s)(d8:tz<s.By.length)(h8:k<G.length)(f1:k<P.length)(hx:Ac G[k].Y)(hb:(Ae s.By tz).length<=4000000)
  (b8:∀n,n<=(Ae s.By tz).length->∃h,Az s.By ((Ae s.By tz).take n)=some h) (e9:∃n,zf s (Ae s.By tz) G[k].Y n)
  (hR:∀n j w',AI w w'->ċ s (Ae s.By tz) G[k].Y (λn=>Hq tf P ((Ae s.By tz).take n++[G[k].Y]) k) n->Az s.By ((Ae s.By tz).take n)=some j->R (j:Int) w'):LG (some p) (tz:Int) (k:Int) w R:=by
 unfold LG;have j7:=F6 h;have j9:=h.g.len;have k2:=h.pk.len;obtain⟨f9,_,_,g3,_,_,_,f2⟩:=Ct h.g h8;obtain⟨ad,t,_,_,_,ha,_,_,ht,_,_,_,hc⟩:=h.xt d8;have e1:Ae s.By tz=s.By[tz].Of:=Cb (dw d8);rw[e1]at hb b8 e9 hR;generalize s.By[tz].Of=q at*;generalize G[k].Y=x at*;have k3:=ht.len;have j4:q.length<=t.cap:=ht.2.1;refine⟨p,rfl,c.u,h.ld0 xR,f9,⟨g3,oM,oM⟩,x,by rw[fa];exact(f2 _ xR).pre rfl,p,rfl,c.dr,h.ld xR 7 rfl,ad,⟨ha,oM,oM⟩,t,by rw[fa];exact(hc _ xR).pre rfl,join.named λJ hJ=>?_⟩;let ww:=λn=>Hq tf P (q.take n++[x]) k;have d4:∀bo lo w',AI w w'->yh (zf s q x) bo->yh (λn=>zf s q x n/\ww n=true) lo->J (D6 s q bo) (D6 s q lo) w':=λbo lo w' hx b6 a6=>by
  rw[hJ];obtain⟨n,b5,hm⟩:=Zb b6 a6 e9;obtain⟨j,hj⟩:=b8 n b5.spot.le;have hr:=hR n j w' hx b5 hj;cases lo with
  |some m=>
   obtain rfl:m=n:=hm;have e:D6 s q (some m)=(j:Int):=by unfold D6;rw[nw,hj];rfl
   rw[e];exact⟨λ_=>hr,λh=>by omega⟩
  |none=>have hm:bo=some n:=hm;subst hm;have e:D6 s q (some n)=(j:Int):=(by unfold D6;rw[nw,hj];rfl);rw[e];exact⟨nO,λ_=>hr⟩
 clear hJ;refine Ï.Î (λi d2 c5 vk w'=>∃bo lo:Γ,vk=(i:Int) - 1/\i<=q.length+1/\AI w w'/\d2=D6 s q bo/\c5=D6 s q lo/\(∀m,i<=m->m<=q.length->Az s.By (q.take m++[x])=none)/\yh (λn=>i<=n/\zf s q x n) bo/\yh (λn=>i<=n/\zf s q x n/\ww n=true) lo) (q.length+1)
  ⟨none,none,oM,ga _,AI.refl _,rfl,rfl,λm h1 h2=>by omega,λn hn=>by have:=hn.2.le;omega,λn hn=>by have:=hn.2.1.le;omega⟩ λi d2 c5 vk w1 k5 ⟨bo,lo,k4,hi,x1,g5,h9,d3,b6,a6⟩ i4=>?_
 subst g5 h9;refine⟨λj8=>join.named λJ2 e5=>sh.drew λw2 x2=>?_,λi2=>?_⟩
 rotate_left
 .obtain rfl:i=0:=oM;exact d4 bo lo w1 x1 (b6.iff λn=>⟨λh=>h.2,λh=>⟨im _,h⟩⟩) (a6.iff λn=>⟨λh=>h.2,λh=>⟨im _,h⟩⟩)
 obtain⟨m,rfl⟩:∃m,i=m+1:=⟨i - 1,oM⟩;have j0:vk=(m:Int):=oM;subst j0;have c8:m<=q.length:=oM;have b4:∀c6 c9 w',AI w w'->Az s.By (q.take m++[x])=none->yh (λn=>m<=n/\zf s q x n) c6->yh (λn=>m<=n/\zf s q x n/\ww n=true) c9->J2 (D6 s q c6) (D6 s q c9) w':=λc6 c9 w' hx hm h1 h2=>by
  rw[e5];refine i4 m _ _ _ w' oM ⟨c6,c9,?_,oM,hx,rfl,rfl,λn h3 h4=>?_,h1,h2⟩
  .rw[Ai oM oM]
  .by_cases hn:n=m
   .rwa [hn]
   .exact d3 n oM h4
 clear e5;have d0:=x1.Z x2;obtain⟨j,hj⟩:=b8 m c8;obtain⟨dj,e8,i9⟩:=CN hj;have h7:j<s.By.length:=(ec.1 e8).1;have d9:Ae s.By j=q.take m:=by rwa [Cb e8]
 have d6:(q.take m).length=m:=by rw[fk];omega
 have b7:=(ht.U d0).cut (a:=0) (b:=m) (im _) c8;rw[lf]at b7;refine⟨p,rfl,c.dr,h.ld d0 7 rfl,⟨oM,oM⟩,?_⟩;rw[fa];refine Fk.V (Jr (h.dr.U d0) b7 λw3 x3=>⟨_,rfl,⟨oM,oM⟩,?_⟩);rw[Kx,Hr,hj];have f7:=d0.Z x3;refine G1.V (N6 (h.lt.U f7.size) (b7.U x3) λt4 w4 x4 o4=>⟨_,rfl,An.intro λa w5 x5 g4 _ _=>?_⟩);refine(o4.U x5).Ĉ (x4.Z x5) GN (x:=x) ⟨rfl,hx⟩ (g4.se.pre (r:=[]) rfl) dC (by show _*16<=Ab;unfold Ab;omega) λt6 w6 o6 x6=>?_;have e3:=f7.Z x6;have f0:IT vx w6 (λb=>w3.heap.size<=b) t6 (q.take m++[x]):=o6.strs (by rw[dx,d6,il];omega);refine⟨p,rfl,c.dr,h.ld e3 7 rfl,Fk.V (Jr (h.dr.U e3) f0 λw7 x7=>⟨_,rfl,λhc=>?_,λhc=>?_⟩)⟩
 all_goals
  rw[Kx,Hr]at hc;have d1:=e3.Z x7
 .have e2:Az s.By (q.take m++[x])≠none:=λe=>by rw[e]at hc;exact fu hc dC
  have d5:∀n,zf s q x n->m+1<=n:=λn hn=>jg λi2=>e2 (hn.clear m oM c8);exact d4 bo lo w7 d1 (b6.iff λn=>⟨λh=>h.2,λh=>⟨d5 n h,h⟩⟩) (a6.iff λn=>⟨λh=>h.2,λh=>⟨d5 n h.1,h⟩⟩)
 have a5:Az s.By (q.take m++[x])=none:=by
  cases hf:Az s.By (q.take m++[x])with
  |none=>rfl
  |some i=>rw[hf]at hc;exact fu (Lu.2 ⟨i,rfl⟩) hc
 have c4:Nj s j x↔ ¬zf s q x m:=by
  unfold Nj;rw[d9,d6];constructor
  .rintro⟨u,h1,h2,h3,h4⟩ c3;have:=c3.ry u h1 h2 h3;omega
  .intro a7;refine jg λi3=>a7 ⟨c8,λn h1 h2=>?_,λu h1 h2 h3=>jg λh4=>i3 ⟨u,h1,h2,h3,oM⟩⟩;by_cases hn:n=m
   .rwa [hn]
   .exact d3 n oM h2
 have up:∀{Q:Nat->Prop} {o:Γ},yh (λn=>m+1<=n/\Q n) o-> ¬Q m->yh (λn=>m<=n/\Q n) o:=λho hq=>ho.iff λn=>⟨λh=>⟨oM,h.2⟩,λh=>⟨by
  obtain e|e:=Nat.eq_or_lt_of_le h.1
  .rw[e]at hq;exact fu h.2 hq
  .omega,h.2⟩⟩
 have new:∀{Q:Nat->Prop},Q m->yh (λn=>m<=n/\Q n) (some m):=λhq=>⟨⟨ga _,hq⟩,λn h=>h.1⟩;refine LH.V (Zix (h.U d1) hd h7 λb w8 x8 e7=>⟨b,rfl,λc7=>?_,λc7=>?_⟩)
 .have a7: ¬zf s q x m:=c4.1 (e7.1 c7);exact b4 bo lo w8 (d1.Z x8) a5 (up b6 a7) (up a6 λh=>a7 h.1)
 have c3:zf s q x m:=jg λa7=>by rw[e7.2 (c4.2 a7)]at c7;cases c7
 have a9:=d1.Z x8;have b2:D6 s q (some m)=(j:Int):=by unfold D6;rw[nw,hj];rfl
 have k0:Ck (some j)=(j:Int):=rfl;have no:∀w',AI w w'->ww m=false->J2 (j:Int) (D6 s q lo) w':=λw' hx hl=>by rw[<-b2];exact b4 (some m) lo w' hx a5 (new c3) (up a6 λh=>by rw[hl]at h;cases h.2)
 refine⟨p,rfl,c.ol,h.ld a9 6 rfl,λh0=>?_,λh0=>?_⟩
 .have i7:tf=none:=by have:=h.tf;rw[h0]at this;exact this.none_
  exact no w8 a9 (by show Hq tf P _ k=false;rw[i7];rfl)
 obtain⟨ao,T,e6,i6,j6,f6,d7,b9⟩:=h.tf.some_ h0;refine⟨p,rfl,c.ol,h.ld a9 6 rfl,ao,e6,f6,d7.U a9,Fk.V (Jr (b9.U a9) (f0.U (x7.Z x8)) λw9 x9=>⟨_,rfl,sh.drew λj2 j3=>py ?_⟩)⟩;have a0:=a9.Z (x9.Z j3);rw[Kx];have a4:ww m=match Az (T.map AF) (q.take m++[x])with
  |none=>false
  |some i=>decide (T[i]?.map tx.td=P[k]?):=by show Hq tf P _ k=_;rw[i6];rfl
 have j5:=b9.len;cases hf:Az (T.map AF) (q.take m++[x])with
 |none=>rw[hf]at a4;refine⟨p,nO,none,nO,p,nO,t,nO,ad,nO,⟨#[]⟩,0,0,0,t,t,t,nO,p,nO,t,nO,ad,nO,⟨#[]⟩,0,0,0,t,t,t,nO,?_⟩;exact No.intro true nO λj1 a8 b0 _=>⟨λh=>(by cases h),λ_=>no a8 (a0.Z b0) a4⟩
 |some v=>
  rw[hf]at a4;have f4:v<T.length:=by obtain⟨d,h1,_⟩:=CN hf;have:=(ec.1 h1).1;rwa [eh]at this
  have a4:ww m=decide (T[v].td=P[k]):=by rw[a4];show decide (T[v]?.map tx.td=P[k]?)=_;rw[dw f4,dw f1,ir];simp only[ff]
  obtain⟨e4,qT,dT,eT,oT,g2,_,_,_,g9,h6,f3,g7⟩:=xt b9 f4;obtain⟨f8,dP,eP,oP,g1,_,_,g8,h5,i5,g6⟩:=IV h.pk f1;have e0:decide (0<=Ck (some v))=true:=ie (by show(0:Int)<=(v:Int);omega);rw[e0];refine⟨p,λ_=>rfl,c.ol,λ_=>h.ld a0 6 rfl,ao,λ_=>e6,f6,λ_=>d7.U a0,e4,λ_=>⟨g2,by show(0:Int)<=(v:Int);omega,by show(v:Int)<_;omega⟩,T[v].td.Y,T[v].td.v.ma,T[v].td.v.mi,T[v].td.v.pa,dT,eT,oT,λ_=>?_,p,λ_=>rfl,c.ps,λ_=>h.ld a0 1 rfl,f8,λ_=>⟨g1,oM,oM⟩,P[k].Y,P[k].v.ma,P[k].v.mi,P[k].v.pa,dP,eP,oP,λ_=>by rw[fa];exact g6 _ a0,?_⟩
  .show se j2 ((e4.add (v*9)).add 1) _;exact(g7 _ a0).G (k:=1) rfl
  refine No.intro (decide (T[v].td=P[k])) (λ_ r hr=>FE.V (Lz (p:=T[v].td) (q:=P[k]) (g9.U a0) (h6.U a0) (f3.U a0) (g8.U a0) (h5.U a0) (i5.U a0) λa8 b0=>⟨_,rfl,hr a8 b0⟩)) λj1 a8 b0 g0=>?_;rw[g0 rfl,<-a4];refine⟨λhl=>?_,λhl=>no a8 (a0.Z b0) (by simpa using hl)⟩;have hl:ww m=true:=by simpa using hl
  have:=b4 (some m) (some m) a8 (a0.Z b0) a5 (new c3) (new ⟨c3,hl⟩);rw[b2]at this;exact this
end
end Go.Hal
namespace Go.Hal
def No.yes{τ:Sort _}{k:τ}{A B:τ->Prop}(h:A k):No true k A B:=⟨λ_=>h,nO⟩
def No.no{τ:Sort _}{k:τ}{A B:τ->Prop}(h:B k):No false k A B:=⟨nO,λ_=>h⟩
def Fv{α:Type}(nm:α->PU)(l:List α)(i:Nat):Prop:=vp nm (l.take i)/\∀q∈l.take i,Ad (nm q)=true
def VT{α:Type}{nm:α->PU}{l:List α}:Fv nm l 0:=⟨.nil,λ_ h=>nomatch h⟩
def VS{α:Type}{nm:α->PU}{l:List α}(hi:i<l.length){t:PU}(ht:0<i->t=nm (l[i - 1]'oM)):
  ((!Ad (nm l[i])||(decide (0<(i:Int))&& !Ak t (nm l[i])))=false->Fv nm l i->Fv nm l (i+1))/\((!Ad (nm l[i])||(decide (0<(i:Int))&& !Ak t (nm l[i])))=true-> ¬Fv nm l l.length):=by
 constructor
 .intro hc ⟨h1,h2⟩;simp only[ik,qf,ny,ig]at hc;refine⟨?_,λq hq=>?_⟩
  .by_cases h0:i=0
   .subst h0;exact RB
   .refine RC oM hi h1 ?_;obtain h3|h3:=hc.2
    .omega
    .rw[ht oM]at h3;exact h3
  .rw[dz hi]at hq;obtain hq|hq:=fj.1 hq
   .exact h2 q hq
   .rw[eu.1 hq];exact hc.1
 .intro hc ⟨h1,h2⟩;rw[fe]at h1 h2;simp only[oz,na,ep,fp]at hc;rcases hc with h3|⟨h3,h4⟩
  .rw[h2 _ (fm hi)]at h3;cases h3
  .rw[ht oM]at h4;exact RA oM hi h4 h1
structure š(G:Ζ)(P:Κ)(i:Nat)(x:BY):Prop where
 root:i=0->x.key=ta.key/\P[0]?=some Ay
 pl:Xau G P i x
 cn:∀q∈x.uk,Ad q.Y=true
 en:∀e∈x.sd,Ad e.Y=true
def uh.Ũ(h:uh G P){x:BY}(hx:G[i]?=some x):∀q∈x.uk,Ad q.Y=true:=λq hq=>by obtain⟨y,hy,_⟩:=(h.rk i x hx).full q hq;obtain⟨ed,h1,h2,_⟩:=Kc hy;rw[<-h2];exact h.Y hx h1
def uh.Xc6(h:uh G P){x:BY}(hx:G[i]?=some x):š G P i x:=
 ⟨λh0=>by subst h0;obtain⟨y,h1,h2⟩:=h.root;rw[hx]at h1;cases h1;exact⟨h2,h.zero⟩,h.rk i x hx,h.Ũ hx,λe he=>h.Y hx he⟩
def ZQ(h:uh G P)(k:Nat):∀q∈BS G k,Ad q.Y=true:=λq hq=>by
 unfold BS at hq;split at hq
 .rename_i x hx;exact h.Ũ hx q hq
 .cases hq
def uh.Xa3(h:uh G P){k:Nat}{e:Edge}(he:e∈Ar G k):Ad e.Y=true/\∀y,G[e.to.toNat]?=some y->y.Y=e.Y:=by
 unfold Ar at he;split at he
 .rename_i x hx;refine⟨h.Y hx he,λy hy=>?_⟩;obtain⟨j,z,h1,_,h3,h4⟩:=(h.rk k x hx).yv e he;rw[h1,fa,h3]at hy;cases hy;exact h4
 .cases he
def uh.Xcg(h:uh G P){k:Nat}{e:Edge}(he:e∈Ar G k):∀y,P[e.to.toNat]?=some y->y.Y=e.Y:=λy hy=>by
 unfold Ar at he;split at he
 .rename_i x hx;obtain⟨j,z,h1,h2,h3,h4⟩:=(h.rk k x hx).yv e he;obtain⟨q,q1,_,q3,_⟩:=(h.rk j z h3).td oM;rw[h1,fa,q1]at hy;cases hy;rw[q3,h4]
 .cases he
def Wq{s:vq}(hb:∀d∈s.By,d.Of.length<=n)(hi:i<s.By.length):(Ae s.By i).length<=n:=by rw[Cb (dw hi)];exact hb _ (fm hi)
def YM:Bz prog 139 284 3 32:=CM (z:=.agg #[vi 0,.string ⟨#[]⟩,vi 0]) kR kR rfl dC
section
variable {w:Qd} {lo:Nat} {p:LP} {S:Nat->Prop} {c:PC} {G:Ζ} {P:Κ} {tf:Option (Θ)} {s:vq}
def ħ.at_(h:ħ E w p S c G P tf s)(hi:i<s.By.length):
  ∃ad q,c.dr.a=some ad/\((0:Int)<=(i:Int)/\(i:Int)<(c.dr.len:Int))/\IT vx w S q (Ae s.By i)/\(∀w',AI w w'->se w' (ad.add (i*9)) [q.v])/\∀w',AI w w'->se w' ((ad.add (i*9)).add 8) [vi (tq s.By i:Int)]:=by
 obtain⟨ad,q,d,e,o,h1,_,_,h2,_,_,_,h3⟩:=h.xt hi;rw[Cb (dw hi),ET (dw hi)];have:=F6 h;exact⟨ad,q,h1,⟨oM,oM⟩,h2,λw' hx=>(h3 w' hx).pre rfl,λw' hx=>(h3 w' hx).G (k:=8) (r:=[]) rfl⟩
def QQ{x:PU}(hi:i<s.By.length)(hx:Ad x=true):Gh (s.By.map (AB P)) i x=Ck (AG s.By (Ae s.By i) x (Ae s.By i).length):=by
 have hl:i<(s.By.map (AB P)).length:=by simpa using hi
 rw[V4 hl,hx,fo rfl,Hr];have:((s.By.map (AB P))[i]).Of=Ae s.By i:=by rw[nx,Cb (dw hi)];rfl
 rw[this]
def Ro(hb:∀d∈s.By,d.Of.length<=4000000):∀d∈s.By.map (AB P),d.Of.length<=4000000000000:=λd hd=>by obtain⟨y,hy,rfl⟩:=gv.1 hd;have:=hb y hy;show y.Of.length<=_;omega
def Zf7{o:Γ}{d:Nat}:(Ck o==Ck (some d))=decide (o=some d):=by
 rw[ij,ko,jl];constructor
 .intro h;cases o with
  |none=>have h:(-1:Int)=(d:Int):=h;omega
  |some m=>have h:(m:Int)=(d:Int):=h;congr 1;omega
 .intro h;rw[h]
def Zio(hG:I.g=G){to:Nat}{R:Á}(hv:ħ BO w p S c G P tf s)(a6:to<s.By.length)(d0:∀d∈s.By,d.rk<G.length)(hb:∀d∈s.By,d.Of.length<=4000000)(a8:∀k,∀q∈BS G k,Ad q.Y=true)
  (hR:∀(b:Bool) w',AI w w'->(b=true↔GI I s tz to)->R b w'):L6 (some p) (to:Int) (tz:Int) w R:=by
 unfold L6;have d6:=F6 hv;have d8:=hv.g.len;obtain⟨ad,qs,ha,hl,_,_,c7⟩:=hv.at_ a6;have hn:tq s.By to<G.length:=by rw[ET (dw a6)];exact d0 _ (fm a6)
 have a0:∀w',AI w w'-> ¬GI I s tz to->R false w':=λw' hx h=>hR false w' hx ⟨nO,λhf=>fu hf h⟩;have a8:=a8 (tq s.By to);unfold GI at a0 hR;rw[hG]at a0 hR;obtain⟨b9,cg,eg,c5,_,b0,_,b5⟩:=Ct hv.g hn;have d5:=b0.len;have c4:BS G (tq s.By to)=G[tq s.By to].uk:=by unfold BS;rw[dw hn]
 rw[c4]at a0 hR a8;generalize d9:tq s.By to=nd at*;refine sh.drew λw1 x1=>⟨p,rfl,c.u,hv.ld0 x1,p,rfl,c.dr,hv.ld x1 7 rfl,ad,⟨ha,hl⟩,(nd:Int),by rw[fa];exact c7 _ x1,b9,⟨c5,oM,oM⟩,cg,by rw[fa];exact(b5 _ x1).G (k:=4) rfl,?_⟩;generalize G[nd].uk=cx at*;refine rn.up b0.max (λk w'=>AI w1 w'/\∀q∈cx.take k,∃d,Ff s tz q.Y=some d/\AG s.By (Ae s.By to) q.Y (Ae s.By to).length=some d) ⟨AI.refl _,(λ_ h=>by cases h)⟩ λk w3 d4 hk ⟨x3,hI⟩ c9=>⟨λc8=>?_,λd7=>?_⟩
 .have a4:k<cx.length:=oM;obtain⟨c3,c6,_,d2,b6⟩:=Dw b0 a4;have a9:=fm a4;have d3:cx.take (k+1)=cx.take k++[cx[k]]:=dz a4;have b7:=x1.Z x3;have hq:=a8 _ a9;have b4:∀w',AI w1 w'->(∃d,Ff s tz cx[k].Y=some d/\AG s.By (Ae s.By to) cx[k].Y (Ae s.By to).length=some d)->d4 (Aa ((k:Int)+1)) w':=λw' x' hd=>c9 a4 w' ⟨x',λq hq=>by
   rw[d3]at hq;obtain hq|hq:=fj.1 hq
   .exact hI q hq
   .rwa [eu.1 hq]⟩
  have a5:∀w',AI w w'-> ¬(∃d,Ff s tz cx[k].Y=some d/\AG s.By (Ae s.By to) cx[k].Y (Ae s.By to).length=some d)->R false w':=λw' hx d1=>a0 w' hx λhF=>d1 (hF _ a9);generalize cx[k]=q at*;refine⟨c3,⟨c6,oM,c8⟩,q.Y,q.v.ma,q.v.mi,q.v.pa,by rw[fa];exact b6 _ b7,An.set rfl λa w4 x4 b2 _=>⟨q.Y,b2.at0 xR rfl,L9.V (Zir (hv.U (b7.Z x4)) λw5 x5=>⟨_,rfl,sh.drew λw6 x6=>py ?_⟩)⟩⟩;have b8:=x3.Z (x4.Z (x5.Z x6));have a7:=x1.Z b8;cases hst:Ff s tz q.Y with
  |none=>exact⟨p,nO,Sl.nil,nO,q.Y,nO,No.no ⟨λ_=>a5 w6 a7 (λ⟨d,h1,_⟩=>by rw[hst]at h1;cases h1),nO⟩⟩
  |some d=>have e0:decide (Ck (some d)<0)=false:=gl (by show ¬(d:Int)<0;omega);rw[e0];refine⟨p,λ_=>rfl,c.dr,λ_=>hv.ld a7 7 rfl,q.Y,λ_=>b2.at0 (x5.Z x6) rfl,No.yes (G7.V (Om (hv.lt.U a7.size) (hv.dr.U a7) (by simpa using a6) d2 (Ro hb) λw7 x7=>⟨_,rfl,?_⟩))⟩;rw[QQ a6 hq];dsimp only;rw[Zf7,qv];refine⟨λhc=>a5 w7 (a7.Z x7) λ⟨d',h1,h2⟩=>?_,λhc=>b4 w7 (b8.Z x7) ⟨d,hst,by simpa using hc⟩⟩;rw[hst]at h1;cases h1;rw[ie h2]at hc;cases hc
 .have a4:k=cx.length:=oM;rw[a4,fe]at hI;exact hR true w3 (x1.Z x3) ⟨λ_=>hI,λ_=>rfl⟩
def W0{to:Nat}{x:PU}{R:Wp}(h:ç BO 284 w lo p S c G P tf s)(a4:Ac x)(hs:s.done.length<=1000000)
  (hR:∀r w',ç BO 284 w' lo p S {c with st:=r} G P tf ⟨s.By,s.done++[⟨tz,x,to⟩]⟩->Mv lo p c w {c with st:=r} w'->(∀b,b<w.heap.size->b≠p.block->(∀ad,c.st.a=some ad->b≠ad.block)->w'.heap[b]?=w.heap[b]?)->R w'):IX (some p) (tz:Int) x (to:Int) w R:=by
 unfold IX;refine⟨p,rfl,c.st,h.box.at1 (k:=8) (r:=[]) xR rfl,An.intro λa w1 x1 a0 _ _=>?_⟩;exact(h.U x1).Xcj YM (x:=⟨tz,x,to⟩) (λw=>⟨rfl,a4⟩) (λh=>h) (a0.se.pre (r:=[]) rfl) ⟨by show _*32<=Ab;unfold Ab;omega,by rw[Al];omega⟩ λr w2 h2 m2 o2=>hR r w2 h2 ((Mv.of x1 h.lo_le).Z m2) λb hb h1 h3=>(o2 b (by have:=x1.size;omega) h1 h3).Z (x1.block hb)
def Ziu{hm k:Nat}{x:PU}{R:Int->À}(hv:ç BO 284 w lo p S c G P tf s)(hd:s.By.length<=1000)(hs:s.done.length<=1000000)(hb:∀d∈s.By,d.Of.length<=1000)(hh:hm<s.By.length)(hP:k<P.length)(hn:P[k].Y=x)
  (h1:∀w',AI w w'->c.l4<((A0 (Ae s.By hm++[x])).length:Int)->R 0 40 w')
  (h2:∀w',AI w w'->((A0 (Ae s.By hm++[x])).length:Int)<=c.l4->c.l3<(s.By.length:Int)->R 0 41 w')
  (h3:∀r w',((A0 (Ae s.By hm++[x])).length:Int)<=c.l4->(s.By.length:Int)<=c.l3->ç BO 284 w' lo p S {c with dr:=r} G P tf ⟨s.By++[⟨Ae s.By hm++[x],k⟩],s.done⟩->Mv lo p c w {c with dr:=r} w'->R (s.By.length:Int) 0 w'):
  LF (some p) (hm:Int) (k:Int) w R:=by
 unfold LF;have a5:=hv.I hd ⟨by show _*32<=Ab;unfold Ab;omega,by rw[Al];omega⟩;have f6:=Wq hb hh;have f2:=F6 a5;have f1:=hv.pk.len;have e3:=hv.lo_le;obtain⟨c8,qh,d0,e2,b9,d5,_⟩:=a5.at_ hh;obtain⟨c7,dP,eP,oP,c9,_,b5,d7,e0,e5,d4⟩:=IV hv.pk hP;have e1:P.getD k Ay=P[k]:=by rw[jk,dw hP];rfl
 have c4:Ac x:=by rwa [<-hn]
 refine⟨p,rfl,c.ps,a5.ld xR 1 rfl,c7,⟨c9,oM,oM⟩,_,_,_,_,dP,eP,oP,by rw[fa];exact d4 _ xR,An.set rfl λa w1 x1 b6 _=>?_⟩;generalize hq:Ae s.By hm=q at*;refine join.named λJ hJ=>?_;have key:∀(np:Sl)(w2:Qd),AI w1 w2->IT vx w2 (λb=>w.heap.size<=b/\b<w2.heap.size) np (q++[x])->J np w2:=by
  subst hJ;intro np w2 e8 b7;have f7:(q++[x]).length<=1001:=by rw[dx,il];omega
  refine sh.drew λw3 x3=>?_;have c5:=e8.Z x3;have b2:=x1.Z c5;refine⟨p,rfl,c.l4,by rw[Dl];exact hv.box.at1 (k:=5) b2 rfl,tc.intro (E5.V (HG (b7.U x3) oM λw4 x4=>⟨x4,_,rfl,λa6=>?_,λe6=>sh.drew λw5 x5=>?_⟩))⟩
  .rw[Af]at a6;exact h1 w4 (b2.Z x4) a6
  rw[Af]at e6;have a9:=b2.Z (x4.Z x5);have ew:Aa ((c.dr.len:Int) - 1)=(s.By.length:Int) - 1:=by rw[Ai oM oM];omega
  refine⟨p,rfl,c.dr,a5.ld a9 7 rfl,p,rfl,c.l3,by rw[Dl];exact hv.box.at1 (k:=4) a9 rfl,?_⟩;rw[ew];refine⟨λd8=>h2 w5 a9 oM oM,λe7=>sh.drew λw6 x6=>?_⟩;have a0:=a9.Z x6;have f0:=c5.Z (x4.Z (x5.Z x6));refine⟨p,rfl,c.dr,a5.ld a0 7 rfl,_,_,_,_,dP,eP,oP,b6.at0 (r:=[]) f0 rfl,tc.intro (IU.V (Wi (p:=P[k]) (hv.lt.U a0.size) (d7.U a0) (e0.U a0) (e5.U a0) λd' e' o' w7 x7 d6 d9 e4=>⟨x7,_,_,_,_,d',e',o',rfl,An.intro λa8 w8 x8 d3 _ _=>?_⟩))⟩;have b4:=a0.Z (x7.Z x8);have c6:=x3.Z (x4.Z (x5.Z (x6.Z (x7.Z x8))));have f9:=a0.size;have g0:=b4.size;have g1:=c6.size;have s8:=x8.size;have c3:vm.rep w8 (λb=>w.heap.size<=b/\b<w8.heap.size) (AB P ⟨q++[x],k⟩) [np.v,.string P[k].Y,.int .i64 P[k].v.ma,.int .i64 P[k].v.mi,.int .i64 P[k].v.pa,d'.v,e'.v,o'.v,vi (k:Int)]:=by have b8:(AB P ⟨q++[x],k⟩)=⟨q++[x],P[k],(k:Int)⟩:=(by unfold AB;rw[e1]);rw[b8];exact⟨b5,np,d',e',o',rfl,(b7.U c6).O λb hb=>⟨hb.1,oM⟩,(d6.dep.U x8).O λb hb=>⟨oM,oM⟩,(d9.dep.U x8).O λb hb=>⟨oM,oM⟩,(e4.dep.U x8).O λb hb=>⟨oM,oM⟩⟩
  refine(hv.U b4).Xc8 (x:=⟨q++[x],k⟩) c3 (d3.se.pre (r:=[]) rfl) (λb hb=>?_) hd λr w9 h9 m9=>?_
  .have f4:=hv.box.lt;refine⟨hb.2,oM,λad ha e=>?_,λad ha e=>?_,.inr oM⟩
   .obtain⟨D,o,_⟩:=hv.dr;have:=(o.block ha).2.1;omega
   .have:=(hv.st.block ha).2.1;omega
  .have f3:r.len=s.By.length+1:=(by obtain⟨D,o,_⟩:=h9.dr;have:r.len=((s.By++[(⟨q++[x],k⟩:Dr)]).map (AB P)).length:=o.len;simpa using this);refine⟨p,rfl,r,h9.box.at1 (k:=7) xR rfl,?_⟩;have e9:Aa ((r.len:Int) - 1)=(s.By.length:Int):=(by rw[Ai oM oM];omega);rw[e9];exact h3 r w9 oM oM h9 ((Mv.of b4 e3).Z m9)
 clear hJ;refine sh.drew λw2 x2=>?_;have a7:=x1.Z x2;have f8:=a7.size;have b0:Old (λb=>b<w.heap.size) w2:=λb hb=>by have:b<w.heap.size:=hb;omega
 refine⟨p,rfl,c.dr,a5.ld a7 7 rfl,c8,⟨d0,e2⟩,qh,by rw[fa];exact d5 _ a7,x,by rw[<-hn];exact b6.at0 x2 rfl,?_,?_⟩
 .refine tc.intro (G1.V (N6 b0 (b9.U a7) λt w3 x3 o3=>⟨x3,_,rfl,An.intro λa4 w4 x4 d2 _ _=>?_⟩));exact(o3.U x4).Ĉ (x3.Z x4) GN (x:=x) ⟨rfl,c4⟩ (d2.se.pre (r:=[]) rfl) dC (by show _*16<=Ab;unfold Ab;omega) λr w5 o5 x5=>key r w5 (x2.Z x5) ((o5.Xb8 (by rw[dx,il];omega)).O λb hb=>⟨oM,hb.2⟩)
 .refine An.intro λa3 w3 x3 d1 _ _=>tc.intro (G1.V (N6 (b0.U x3.size) (b9.U (a7.Z x3)) λt w4 x4 o4=>⟨x4,_,rfl,?_⟩));have s3:=x3.size;exact o4.Ĉ x4 GN (x:=x) ⟨rfl,c4⟩ ((d1.U x4).se.pre (r:=[]) rfl) dC (by show _*16<=Ab;unfold Ab;omega) λr w5 o5 x5=>key r w5 (x2.Z (x3.Z x5)) ((o5.Xb8 (by rw[dx,il];omega)).O λb hb=>⟨oM,hb.2⟩)
end
section
variable {w:Qd} {lo:Nat} {p:LP} {S:Nat->Prop} {c:PC} {G:Ζ} {P:Κ} {tf:Option (Θ)} {s:vq}
def Zit{k:Nat}{e:Edge}{M:Int}{R:À}(h:ç BO 284 w lo p S c G P tf s)(hI:wz G s tz)(ha:tz<s.By.length)(hx:DJ s tz e.Y)(e5:Ac e.Y)(k8:0<=e.to/\e.to<(G.length:Int))(hP:P.length=G.length)
  (j0:Ad e.Y=true) (i9:∀k,∀q∈BS G k,Ad q.Y=true) (j1:∀y,G[e.to.toNat]?=some y->y.Y=e.Y) (j3:∀y,P[e.to.toNat]?=some y->y.Y=e.Y)
  (hk:k=2/\(BS G e.to.toNat).length=0\/k=3/\(BS G e.to.toNat).length≠0) (hd:s.By.length<=1000) (hs:s.done.length<=1000000) (i2:c.l3=D) (i3:c.l4=M)
  (hR:∀c' w' code s',vh (Dc G P tf D M) s tz e k code s'->ç BO 284 w' lo p S c' G P tf s'->Mv lo p c w c' w'->R code w'):LB (some p) (tz:Int) e.Y e.to w R:=by
 unfold LB;subst i2 i3;have a5:=h.I hd ⟨by show _*32<=Ab;unfold Ab;omega,by rw[Al];omega⟩;have d5:Pj s:=λt ht=>(hI.tz t ht).2;have a9:∀d∈s.By,d.Of.length<=1000:=λd hm=>by obtain⟨i,hi⟩:=iw hm;have:=hI.Xbr i d hi;have:=(ec.1 hi).1;omega
 have d1:∀d∈s.By,d.Of.length<=4000000:=λd hm=>fl (a9 d hm) dC;have k3:=F6 a5;have k6:=h.pk.len;have k4:=h.g.len;have i6:=h.lo_le;have k5:=h.box.lt;obtain⟨en,d8⟩:∃en:Nat,e.to=(en:Int):=⟨e.to.toNat,oM⟩;have b0:en<G.length:=oM;have b7:en<P.length:=oM;have a6:e.to.toNat=en:=oM;have c3:G[en].Y=e.Y:=j1 _ (by rw[a6];exact dw b0);have f9:P[en].Y=e.Y:=j3 _ (by rw[a6];exact dw b7);obtain⟨g6,ct,et,g9,_,h5,_,f7⟩:=Ct h.g b0;have k0:=h5.len;have g7:BS G e.to.toNat=G[en].uk:=by rw[a6];unfold BS;rw[dw b0]
 rw[g7]at hk;have e4:s.By[tz]?=some s.By[tz]:=dw ha;have f8:Ae s.By tz=s.By[tz].Of:=Cb e4;have j5:zf s (Ae s.By tz) e.Y (Ae s.By tz).length:=by rw[f8];exact hI.spot e4 hx
 have c5:∀n,n<=(Ae s.By tz).length->∃h,Az s.By ((Ae s.By tz).take n)=some h:=λn hn=>by rw[f8]at hn ⊢;obtain⟨j,_,hj⟩:=hI.Xaw _ tz _ e4 rfl n hn;exact⟨j,hj⟩
 have k7:(Ae s.By tz).length<=1000:=Wq a9 ha;generalize hq:Ae s.By tz=q at*;generalize b5:Dc G P tf c.l3 c.l4=I at*;have g8:I.g=G:=by rw[<-b5];rfl
 have a8:I.Ķ=c.l4:=by rw[<-b5];rfl
 have b9:I.ĝ=c.l3:=by rw[<-b5];rfl
 have e6:∀q',I.ĺ q'=(A0 q').length:=λq'=>by rw[<-b5];rfl
 have d9:k≠1:=oM;have a4:∀to,yj I s tz e k to↔AG s.By q e.Y q.length=some to/\(tq s.By to:Int)=e.to/\(k=3->GI I s tz to):=λto=>by unfold yj;rw[hq]
 have c7:∀w',AI w w'->Mv lo p c w c w':=λw' x=>Mv.of x i6;refine An.intro λa w1 x1 b2 k2 _=>sh.drew λw2 x2=>?_;have e7:=x1.Z x2;refine⟨p,rfl,c.u,a5.ld0 e7,e.to,b2.at1 (k:=1) (r:=[]) x2 rfl,g6,⟨g9,oM,oM⟩,ct,by rw[d8,fa];exact(f7 _ e7).G (k:=4) rfl,sh.drew λw3 x3=>?_⟩;have e8:=e7.Z x3;have g4:=x2.Z x3;refine⟨p,rfl,c.dr,a5.ld e8 7 rfl,e.Y,b2.at0 g4 rfl,G7.V (Om (a5.lt.U e8.size) (a5.dr.U e8) (by simpa using ha) e5 (Ro d1) λw4 x4=>⟨_,rfl,join.named λJ hJ=>sh.drew λw5 x5=>py ?_⟩)⟩;rw[QQ ha j0,hq];have j8:=g4.Z x4;have e9:=j8.Z x5;have c8:=x1.Z e9;have fin:∀(to:Nat)(c9:PC)(s9:vq)(w9:Qd),ç BO 284 w9 lo p S c9 G P tf s9->Mv lo p c w c9 w9->AT w9 a [.string e.Y,vi e.to]->s9.done=s.done->vh I s tz e k 0 ⟨s9.By,s.done++[⟨tz,e.Y,to⟩]⟩->J (to:Int) w9:=by subst hJ;intro to c9 s9 w9 h9 m9 h0 f4 hE;refine⟨e.Y,h0.at0 xR rfl,IX.V (W0 h9 e5 (by rwa [f4]) λr j7 f0 j6 _=>⟨rfl,?_⟩)⟩;rw[f4]at f0;exact hR _ j7 0 _ hE f0 (m9.Z j6)
 clear hJ;generalize i5:AG s.By q e.Y q.length=lk at*;obtain⟨i,hi,g0⟩:∃i,i<s.By.length/\∀j,lk=some j->j=i:=by
  cases hl:lk with
  |none=>exact⟨tz,ha,(λ_ h=>by cases h)⟩
  |some j=>exact⟨j,Ld (i5.Z hl),λk hk=>by cases hk;rfl⟩
 obtain⟨g5,_,f2,i4,_,_,h4⟩:=a5.at_ hi;have c6:decide (Ck lk<0)=false->lk=some i/\Ck lk=(i:Int):=λhg=>by obtain⟨j,hj⟩:=Lu.1 (Int.not_lt.1 (of_decide_eq_false hg));have:=g0 j hj;subst this;exact⟨hj,by rw[hj];rfl⟩
 have f6:∀{b:Bool},(!b)=true->b=false:=λ{b} h=>by simpa using h
 refine⟨p,λ_=>rfl,c.dr,λ_=>a5.ld c8 7 rfl,g5,λhg=>⟨f2,by rwa [(c6 (f6 hg)).2]⟩,(tq s.By i:Int),λhg=>by rw[(c6 (f6 hg)).2,fa];exact h4 _ c8,e.to,λ_=>b2.at1 (k:=1) (r:=[]) e9 rfl,py (py ?_)⟩;have h7:(!((ct.len:Int)==0))=decide (k=3):=by rw[ij,na,pz,jl];omega
 rw[h7];refine No.holds (λt=>t=true↔GI I s tz i) (λhg q' j4=>?_) λt w6 x6 ht=>?_
 .simp only[ep,na,ik]at hg;rw[(c6 hg.1.1).2];exact L6.V (Zio (I:=I) g8 (a5.U c8) hi hI.rk d1 i9 λb w7 x7 hb=>⟨b,rfl,j4 b w7 x7 hb⟩)
 have c4:=c8.Z x6;have d0:=e9.Z x6;have hf:((decide (Ck lk<0)|| !((tq s.By i:Int)==e.to))||(decide (k=3)&& !t))=false↔∃to,yj I s tz e k to:=by
  constructor
  .intro hg;rw[ik]at hg;obtain⟨g1,g3⟩:=hg;have d3:=g1;rw[ik]at d3;refine⟨i,(a4 i).2 ⟨(c6 d3.1).1,by simpa using d3.2,λh3=>?_⟩⟩;rw[ie h3]at g3;exact(ht (by rw[g1,ie h3];rfl)).1 (by simpa using g3)
  .rintro⟨to,hr⟩;obtain⟨g1,g2,g3⟩:=(a4 to).1 hr;have:=g0 to g1;subst this;have h1:(decide (Ck lk<0)|| !((tq s.By to:Int)==e.to))=false:=by rw[ik,ig,g1];refine⟨by show ¬(to:Int)<0;omega,by rw[g2];simp⟩
   rw[h1,qv];by_cases h3:k=3
   .rw[h1,ie h3]at ht;rw[(ht rfl).2 (g3 h3),ie h3];rfl
   .rw[gl h3];rfl
 refine⟨λhc=>join.named λJ2 f1=>?_,λhc=>?_⟩
 rotate_left
 .obtain⟨to,hr⟩:=hf.1 hc;have g1:=((a4 to).1 hr).1;have e3:Ck lk=(to:Int):=by rw[g1];rfl
  rw[e3];exact fin to c s w6 (h.U c4) (c7 w6 c4) (b2.U d0) rfl (.found to hr)
 have e0:∀to,¬yj I s tz e k to:=λto hr=>by rw[hf.2 ⟨to,hr⟩]at hc;cases hc
 have d2:∀(hm n:Nat) w7,AI w w7->AI w1 w7->hm<s.By.length->Ae s.By hm=q.take n->(k=2->ċ s q e.Y (λn=>I.ww (q.take n++[e.Y]) e.to.toNat) n)->(k=3->n=q.length)->J2 (hm:Int) w7:=by
  subst f1;intro hm n w7 b4 j9 i7 e1 a0 h3;have d6:k=2->ċ s (Ae s.By tz) e.Y (λn=>I.ww ((Ae s.By tz).take n++[e.Y]) e.to.toNat) n:=by rwa [hq]
  have d4:k=3->n=(Ae s.By tz).length:=by rwa [hq]
  have b6:AT w7 a [.string e.Y,vi e.to]:=b2.U j9;refine⟨e.to,b6.at1 (k:=1) (r:=[]) xR rfl,?_⟩;rw[d8];refine LF.V (Ziu (x:=e.Y) (h.U b4) hd hs a9 i7 b7 f9 (λw8 x8 b8=>⟨_,_,rfl,λ_=>?_,λh=>fu dC h⟩) (λw8 x8 a7 d7=>⟨_,_,rfl,λ_=>?_,λh=>fu dC h⟩) λr w8 a7 e2 h8 m8=>⟨_,_,rfl,λh=>fu rfl h,λ_=>?_⟩)
  .rw[e1]at b8;exact hR c w8 40 s (.long n e0 d9 d6 d4 (by rwa [hq,a8,e6])) (h.U (b4.Z x8)) (c7 _ (b4.Z x8))
  .rw[e1]at a7;exact hR c w8 41 s (.deep n e0 d9 d6 d4 (by rwa [hq,a8,e6]) (by rwa [b9])) (h.U (b4.Z x8)) (c7 _ (b4.Z x8))
  .rw[e1]at a7 h8;refine fin s.By.length _ ⟨s.By++[⟨q.take n++[e.Y],en⟩],s.done⟩ w8 h8 ((c7 w7 b4).Z m8) (m8.box b6 oM (λad ha e=>?_) λad ha e=>?_) rfl ?_
   .obtain⟨D,o,_⟩:=h.dr;have:=(o.block ha).2.1;omega
   .have:=(h.st.block ha).2.1;omega
   .have:=vh.put (I:=I) n e0 d9 d6 d4 (by rwa [hq,a8,e6]) (by rwa [b9]);rw[hq,a6]at this;exact this
 clear f1;refine⟨λh6=>⟨e.to,b2.at1 (k:=1) (r:=[]) d0 rfl,?_⟩,λh6=>?_⟩
 .rw[d8];refine LG.V (Ziw (a5.U c4) d5 ha b0 b7 (by rwa [c3]) (by rw[hq];omega) (by rwa [hq]) (by rw[hq,c3];exact⟨_,j5⟩) λn j w7 x7 a0 hj=>⟨_,rfl,?_⟩);rw[hq,c3]at a0;rw[hq]at hj;obtain⟨dj,f3,j2⟩:=CN hj;refine d2 j n w7 (c4.Z x7) (d0.Z x7) (ec.1 f3).1 (by rwa [Cb f3]) (λ_=>?_) (λh3=>by omega);rwa [a6,<-b5]
 .exact d2 tz q.length w6 c4 d0 ha (by rwa [fe]) (λh2=>by omega) λ_=>rfl
end
section
variable {w w':Qd} {lo:Nat} {p:LP} {S:Nat->Prop} {c:PC} {G:Ζ} {P:Κ} {tf:Option (Θ)} {s:vq}
def ç.re{T:LN}(h:ç E T w lo p S c G P tf s)(vd:Below lo w w')(yf:∀b,b<w.heap.size->b≠p.block->(∀ad,c.st.a=some ad->b≠ad.block)->w'.heap[b]?=w.heap[b]?)
  (box:AT w' p (PC.c {c with st:=r})) (st:rl E T w' lo rz r dn) (hr:∀ad,r.a=some ad->c.st.a=some ad\/w.heap.size<=ad.block):ç E T w' lo p S {c with st:=r} G P tf ⟨s.By,dn⟩/\Mv lo p c w {c with st:=r} w':=by
 obtain⟨D,o,a0,a4,a5⟩:=h.dr;have a6:=Below.size vd;have a7:=h.box.lt;have mv:Mv lo p c w {c with st:=r} w':=⟨vd,λb hb h1 _ h3=>yf b hb h1 h3,λ_ h=>.inl h,hr,rfl⟩;have hk:=h.mv mv;refine⟨⟨box,h.plo,h.g.ry hk,h.pk.ry hk,h.tf.ry hk,λb hb=>by have:=h.lt b hb;omega,h.nS,⟨D,o.ry a6 λb hb hq=>?_,a0,λad ha hb=>?_,a5⟩,st,h.drP,λad ha=>?_,λu v hu hv=>?_⟩,mv⟩
 .rcases hq with hq|⟨ad,ha,rfl⟩
  .exact yf b hb (λe=>a0 (e▸hq)) λd hd e=>a4 d hd (e▸hq)
  .exact yf _ hb (h.drP ad ha).1 λd hd e=>h.apart ad d ha hd e
 .obtain q|q:=hr ad ha
  .exact a4 ad q hb
  .have:=o.lt _ hb;omega
 .obtain q|q:=hr ad ha
  .exact h.stP ad q
  .exact⟨oM,λhS=>by have:=h.lt _ hS;omega⟩
 .obtain q|q:=hr v hv
  .exact h.apart u v hu q
  .have:=(o.block hu).2.1;omega
structure Ď(w:Qd)(lo:Nat)(p:LP)(c:PC)(w':Qd)(r A Α:Sl)(dn:List Ż)(la lb:LQ):Prop where
 vd:Below lo w w'
 yf:∀b,b<w.heap.size->b≠p.block->(∀ad,c.st.a=some ad->b≠ad.block)->w'.heap[b]?=w.heap[b]?
 box:AT w' p (PC.c {c with st:=r})
 st:rl BO 284 w' lo rz r dn
 hr:∀ad,r.a=some ad->c.st.a=some ad\/w.heap.size<=ad.block
 a:rl wo 153 w' w.heap.size rz A la
 o:rl wo 153 w' w.heap.size rz Α lb
 ao:∀x y,A.a=some x->Α.a=some y->x.block≠y.block
 ra:∀x y,A.a=some x->r.a=some y->x.block≠y.block
 ro:∀x y,Α.a=some x->r.a=some y->x.block≠y.block
def Ď.U{w'':Qd}(h:Ď w lo p c w' r A Α dn la lb)(hl:lo<=w.heap.size)(hx:AI w' w''):Ď w lo p c w'' r A Α dn la lb:=by have:=Below.size h.vd;exact⟨Below.Z h.vd (Below.O hx oM),λb hb h1 h2=>(hx.block oM).Z (h.yf b hb h1 h2),h.box.U hx,h.st.U hx,h.hr,h.a.U hx,h.o.U hx,h.ao,h.ra,h.ro⟩
def Ď.swap(h:Ď w lo p c w' r A Α dn la lb):Ď w lo p c w' r Α A dn lb la:=⟨h.vd,h.yf,h.box,h.st,h.hr,h.o,h.a,λx y hx hy=>Ne.H (h.ao y x hy hx),h.ro,h.ra⟩
def Ď.push{e:Edge}{K:Sl->Wp}(h:Ď w lo p c w' r A Α dn la lb)(hp:p.block<w.heap.size)(hl:lo<=w.heap.size)(hn:la.length<1000)(a8:Ac e.Y)(hc:se w' a [.string e.Y,vi e.to])
  (hk:∀t a7,Ď w lo p c a7 r t Α dn (la++[e]) lb->K t a7):ue prog 54 54 A (Sl.v ⟨some a,1,1⟩) w' K:=by
 have hs:=Below.size h.vd;refine h.a.push Nq hs (x:=e) (S':=rz) ⟨rfl,a8⟩ hc (λ_ h=>h.F) (λ_ _ h=>h.F) (by show(la.length+1)*24<=Ab;unfold Ab;omega) (by rw[Al];omega) λt w2 o2 a4 a0 a5=>hk t w2 ?_;have a6:=Below.size a4;have hA:∀ad,A.a=some ad->w.heap.size<=ad.block:=λad ha=>(h.a.block ha).1;refine⟨Below.Z h.vd (Below.O a4 hl),λb hb h1 h2=>(a0 b oM λad ha=>by have:=hA ad ha;omega).Z (h.yf b hb h1 h2),h.box.ry (S:=λb=>b<w.heap.size) hp λb hb hl=>a0 b hl λad ha=>by have:=hA ad ha;omega,h.st.ry a6 λb hb hq=>?_,h.hr,rl.flat (λh=>h) o2,h.o.ry a6 λb hb hq=>?_,λx y hx hy=>?_,λx y hx hy=>?_,h.ro⟩
 .rcases hq with hq|⟨ad,ha,rfl⟩
  .exact hq.F
  .exact a0 _ hb λx hx e=>h.ra x ad hx ha e.H
 .rcases hq with hq|⟨ad,ha,rfl⟩
  .exact hq.F
  .exact a0 _ hb λx hx e=>h.ao x ad hx ha e.H
 .obtain q|q:=a5 x hx
  .exact h.ao x y q hy
  .have:=(h.o.block hy).2.1;omega
 .obtain q|q:=a5 x hx
  .exact h.ra x y q hy
  .have:=(h.st.block hy).2.1;omega
end
def Zbs:Bi prog 130:=enters_of func130 kR rfl
def UK{k:Nat}{es:LQ}(hj:j<es.length):(es.take (j+1)).filter (λe=>A9 g nd e==k)=(es.take j).filter (λe=>A9 g nd e==k)++if A9 g nd es[j]=k then [es[j]]else []:=by
 rw[dz hj,kr];congr 1;by_cases h:A9 g nd es[j]=k
 .rw[fo h,List.filter_cons_of_pos (by rw[h];exact beq_self_eq_true _),List.filter_nil]
 .rw[fb h,List.filter_cons_of_neg (by simpa using h),List.filter_nil]
section
variable {w:Qd} {lo:Nat} {p:LP} {S:Nat->Prop} {c:PC} {G:Ζ} {P:Κ} {tf:Option (Θ)} {s:vq}
def Zip{M:Int}{R:À}(d7:Dc G P tf D M=I)(h:ç BO 284 w lo p S c G P tf s)(b9:uh G P)(hI:wz G s tz)(ha:tz<s.By.length)(k8:tq s.By tz=nd)(f0:nd<G.length)(hD:D<=256)(hs:s.done.length<=100000)(q7:c.l3=D)(q8:c.l4=M)(l7:Ed I s)(l8:∀u∈s.done,u.tz<tz)
  (j4:∀c' w' s',Ö I tz nd s [] s'->ç BO 284 w' lo p S c' G P tf s'->Mv lo p c w c' w'->R 0 w')
  (g9:∀c' w' code t,code≠0->vj I tz nd s (Cu I.g nd) code t->Mv lo p c w c' w'->R code w'):L7 (some p) (tz:Int) w R:=by
 unfold L7;have hg:=b9.Ř;have b5:I.g=G:=by rw[<-d7];rfl
 have u1:I.ĝ=D:=by rw[<-d7];rfl
 have g3:ď I.g:=by rwa [b5]
 have v4:s.By.length<=257:=by have:=l7.2;omega
 have d8:=h.I oM ⟨by show _*32<=Ab;unfold Ab;omega,by rw[Al];omega⟩;have u7:=F6 d8;have u9:=h.g.len;have r3:=h.lo_le;have v2:=h.box.lt;have u0:=b9.len;have m8:G[nd]?=some G[nd]:=dw f0;have c8:Ar G nd=G[nd].sd:=Za7 m8;have p9:G[nd].sd.length<=128:=by have:=b9.ö nd;rw[c8]at this;omega
 have v0:(Cu I.g nd).length<=128:=by rwa [We,b5,c8]
 obtain⟨ad,_,o8,r0,_,_,i6⟩:=d8.at_ ha;rw[k8]at i6;obtain⟨n2,cg,eg,p0,_,p6,j1,k2⟩:=Ct h.g f0;have t1:=j1.len;have n7:BS G nd=G[nd].uk:=by unfold BS;rw[m8]
 refine sh.drew λw1 x1=>⟨p,rfl,c.u,d8.ld0 x1,p,rfl,c.dr,d8.ld x1 7 rfl,ad,⟨o8,r0⟩,(nd:Int),by rw[fa];exact i6 _ x1,n2,⟨p0,oM,oM⟩,_,_,_,_,cg,eg,by rw[fa];exact k2 _ x1,An.set rfl λa w2 x2 f6 u3=>⟨eg,f6.at1 (k:=5) (r:=[]) xR rfl,?_⟩⟩;have e0:=x1.Z x2;have s1:=x1.size;have s2:=x2.size;have f1:Mv lo p c w c w2:=Mv.of e0 r3;have h2:=h.U e0;have g7:p.block<w2.heap.size:=oM;have b2:=h2.lo_le;have u2:a.block<w2.heap.size:=f6.lt;have l9:∀b,c.st.a=some b->b.block<w.heap.size:=λb hb=>(h.st.block hb).2.1;have i7:=p6.U e0;have e7:=j1.U e0;generalize t3:G[nd].sd=es at*;generalize t0:G[nd].uk=cx at*;have h8:∀{w' r A Α dn la lb},Ď w2 lo p c w' r A Α dn la lb->AT w' a [.string G[nd].Y,.int .i64 G[nd].v.ma,.int .i64 G[nd].v.mi,.int .i64 G[nd].v.pa,cg.v,eg.v]/\IT uy w' S cg cx/\IT wo w' S eg es:=λ{w' r A Α dn la lb} hG=>by have hk:ä S w2 w':=λb hb hl=>hG.yf b hl (λe=>h.nS (e▸hb)) λad ha e=>(h.stP ad ha).2 (e▸hb);exact⟨f6.ry (S:=λb=>b=a.block) rfl λb hb hl=>hG.yf b hl oM λad ha=>by have:=l9 ad ha;omega,i7.ry hk,e7.ry hk⟩
 have j8:∀e,A9 G nd e=if cx.any (As e.Y)then 1 else if(BS G e.to.toNat).length=0 then 2 else 3:=λe=>by unfold A9;rw[n7]
 have stop:∀{c' w' s' code t e r},Mv lo p c w2 c' w'->Ö I tz nd s (e::r) s'->vh I s' tz e (A9 I.g nd e) code t->code≠0->R code w':=λ{c' w' s' code t e r} m ht hE hc=>g9 c' w' code t hc (ht.stop hE hc) (f1.Z m);have e9:∀e∈es,e∈Ar G nd:=λe he=>by rwa [c8]
 refine Ï.up e7.max (λA Α j w'=>∃(r:Sl) (s4:vq),Ď w2 lo p c w' r A Α s4.done ((es.take j).filter (λe=>A9 G nd e==2)) ((es.take j).filter (λe=>A9 G nd e==3))/\s4.By=s.By/\Ö I tz nd s (DE G nd 1 j) s4)
  ⟨c.st,s,⟨Below.refl _ _,λ_ _ _ _=>rfl,h2.box,h2.st,λ_ h=>.inl h,rl.zero _,rl.zero _,(λ_ _ h=>by cases h),(λ_ _ h=>by cases h),λ_ _ h=>by cases h⟩,rfl,by have:=Ö.start (nd:=nd) g3 (by rwa [b5]) l7 l8;rw[b5]at this;exact this⟩ λA Α j w3 v5 hj ⟨r,s4,a0,b8,b4⟩ l5=>⟨λr4=>join.named λJ hJ=>?_,λg4=>?_⟩
 .have a8:j<es.length:=oM;have k6:es[j]∈es:=fm a8;have a9:=e9 _ k6;have g4:=hg.yv a9;have d1:=b9.Xa3 a9;obtain⟨p5,i9,j2⟩:=h8 a0;obtain⟨f2,d2,b7,d3⟩:=D4 j2 a8;have f9:=UK (g:=G) (nd:=nd) (k:=2) a8;have g0:=UK (g:=G) (nd:=nd) (k:=3) a8;have j6:j<(Ar G nd).length:=by rwa [c8]
  have q5:(Ar G nd)[j]=es[j]:=by simp only[c8]
  have d4:=Zjw (g:=G) (nd:=nd) (k:=1) j6;have e8:=Zju (g:=G) (nd:=nd) (k:=1) j6;rw[q5]at d4 e8;have f4:∀(A' O':Sl)(w5:Qd)(r5:Sl)(s5:vq),Ď w2 lo p c w5 r5 A' O' s5.done ((es.take (j+1)).filter (λe=>A9 G nd e==2)) ((es.take (j+1)).filter (λe=>A9 G nd e==3))->s5.By=s.By->Ö I tz nd s (DE G nd 1 (j+1)) s5->J A' O' w5:=λA' O' w5 r5 s5 q1 q2 q3=>by rw[hJ];exact l5 a8 _ _ w5 ⟨r5,s5,q1,q2,q3⟩
  clear hJ l5;have j9:((es.take j).filter (λe=>A9 G nd e==2)).length<1000:=oq (jo _ _) (by rw[fk];omega);have k0:((es.take j).filter (λe=>A9 G nd e==3)).length<1000:=oq (jo _ _) (by rw[fk];omega);have u4:=b4.cnt;have u6:s4.done.length<=200000:=oM;have c9:tz<s4.By.length:=by rwa [b8]
  have t6:tq s4.By tz=nd:=by rwa [b8]
  have n9:wz G s4 tz:=by have:=b4.inv;rw[b5]at this;exact this
  have a5:=j8 es[j];generalize es[j]=e at*;obtain⟨h3,m3⟩:=h2.re a0.vd a0.yf a0.box a0.st a0.hr;have h3:ç BO 284 w3 lo p S {c with st:=r} G P tf s4:=by rw[<-b8]at h3;exact h3
  refine⟨f2,⟨d2,oM,r4⟩,e.Y,e.to,by rw[fa];exact d3 _ xR,An.set rfl λa4 w4 x4 c6 _=>⟨cg,p5.at1 (k:=4) x4 rfl,?_⟩⟩;refine H9.V (PT (p:=As e.Y) (i9.U x4) (λq _ w5 k5 x5 j7=>⟨_,_,rfl,Zbs,Ox.V ?_⟩) λw5 x5=>⟨_,rfl,λg5=>sh.drew λw6 x6=>?_,λg5=>sh.drew λw6 x6=>?_⟩)
  .unfold Ox;refine An.intro λa6 w6 x6 f7 _ _=>⟨_,f7.at0 xR rfl,e.Y,c6.at0 (x5.Z x6) rfl,?_⟩;rw[T9];exact j7 w6 x6
  .
   rw[fo g5]at a5;have c4:=x5.Z x6;have d6:=x4.Z c4;rw[e8 a5]at b4;have h6:=h3.U d6;have c3:=h6.I (by rw[b8];omega) ⟨by show _*32<=Ab;unfold Ab;omega,by rw[Al];omega⟩;have i5:∀d∈s4.By,d.Of.length<=4000000:=λd hm=>by obtain⟨i,hi⟩:=iw hm;have:=n9.Xbr i d hi;have:=(ec.1 hi).1;rw[b8]at this;omega
   refine⟨p,rfl,c.dr,c3.ld xR 7 rfl,e.Y,c6.at0 c4 rfl,G7.V (Om c3.lt c3.dr (by simpa using c9) b7 (Ro i5) λw7 x7=>⟨_,rfl,sh.drew λw8 x8=>py ?_⟩)⟩;rw[QQ c9 d1.1];have e2:=x7.Z x8;have n1:=c4.Z e2;have e1:=d6.Z e2;have d0:∀to,yj I s4 tz e 1 to↔AG s4.By (Ae s4.By tz) e.Y (Ae s4.By tz).length=some to/\(tq s4.By to:Int)=e.to:=λto=>(by unfold yj;simp);generalize r2:AG s4.By (Ae s4.By tz) e.Y (Ae s4.By tz).length=lk at*;obtain⟨i,hi,m2⟩:∃i,i<s4.By.length/\∀j,lk=some j->j=i:=by
    cases hl:lk with
    |none=>exact⟨tz,c9,(λ_ h=>by cases h)⟩
    |some j=>exact⟨j,Ld (r2.Z hl),λk hk=>by cases hk;rfl⟩
   obtain⟨n4,_,i4,r1,_,_,p7⟩:=c3.at_ hi;have g6:decide (Ck lk<0)=false->lk=some i/\Ck lk=(i:Int):=λhg=>by obtain⟨j,hj⟩:=Lu.1 (Int.not_lt.1 (of_decide_eq_false hg));have:=m2 j hj;subst this;exact⟨hj,by rw[hj];rfl⟩
   have j5:∀{b:Bool},(!b)=true->b=false:=λ{b} h=>(by simpa using h);refine⟨p,λ_=>rfl,c.dr,λ_=>c3.ld e2 7 rfl,n4,λhg=>⟨i4,by rwa [(g6 (j5 hg)).2]⟩,(tq s4.By i:Int),λhg=>by rw[(g6 (j5 hg)).2,fa];exact p7 _ e2,e.to,λ_=>c6.at1 (k:=1) (r:=[]) n1 rfl,λhc=>?_,λhc=>?_⟩
   .have hl:∀to,¬yj I s4 tz e 1 to:=λto hr=>by obtain⟨g1,g2⟩:=(d0 to).1 hr;have:=m2 to g1;subst this;rw[g1,g2]at hc;rw[gl (show ¬Ck (some to)<0 by show ¬(to:Int)<0;omega)]at hc;simp at hc
    exact stop (m3.Z (Mv.of e1 h3.lo_le)) b4 (by rw[b5,a5];exact .lost hl rfl) dC
   .rw[ik]at hc;obtain⟨g1,g2⟩:=g6 hc.1;have o7:yj I s4 tz e 1 i:=(d0 i).2 ⟨g1,by simpa using hc.2⟩;rw[g2];refine⟨e.Y,c6.at0 n1 rfl,IX.V (W0 (h3.U e1) b7 oM λr9 w9 h9 m9 o9=>⟨rfl,?_⟩)⟩;have b0:=a0.U b2 e1;have v6:=e1.size;have s9:=m9.size;have t8:=Below.size a0.vd;have i2:∀{B:Sl} {l:LQ},rl wo 153 w8 w2.heap.size rz B l->(∀x y,B.a=some x->r.a=some y->x.block≠y.block)->rl wo 153 w9 w2.heap.size rz B l/\∀x y,B.a=some x->r9.a=some y->x.block≠y.block:=λ{B l} hB k9=>by
     refine⟨hB.ry s9 λb hb hq=>?_,λx y hx hy=>?_⟩
     .rcases hq with hq|⟨ad,ha,rfl⟩
      .exact hq.F
      .exact o9 _ hb (by have:=(hB.block ha).1;omega) λd hd=>k9 ad d ha hd
     .obtain q|q:=m9.st y hy
      .exact k9 x y hx q
      .have:=(hB.block hx).2.1;omega
    obtain⟨qA,r7⟩:=i2 b0.a b0.ra;obtain⟨qO,r8⟩:=i2 b0.o b0.ro;have hE:vh I s4 tz e 1 0 ⟨s4.By,s4.done++[⟨tz,e.Y,i⟩]⟩:=.found i o7;refine f4 A Α w9 r9 ⟨s4.By,s4.done++[⟨tz,e.Y,i⟩]⟩ ⟨Below.Z b0.vd m9.vd,λb hb h1 h2=>?_,h9.box,h9.st,λad ha=>?_,?_,?_,b0.ao,r7,r8⟩ b8 (b4.step g3 c9 (by rwa [b5,a5]))
    .refine(o9 b oM h1 λad ha=>?_).Z (b0.yf b hb h1 h2);obtain q|q:=a0.hr ad ha
     .exact h2 ad q
     .omega
    .obtain q|q:=m9.st ad ha
     .exact a0.hr ad q
     .right;omega
    .rwa [f9,fb oM,gz]
    .rwa [g0,fb oM,gz]
  .
   rw[fb (by rw[g5];decide)]at a5;have l0:A9 G nd e≠1:=by rw[a5];split<;>decide
   rw[d4 l0]at b4;have c4:=x5.Z x6;have d6:=x4.Z c4;have h6:=h3.U d6;obtain⟨en,q4⟩:∃en:Nat,e.to=(en:Int):=⟨e.to.toNat,oM⟩;have e6:en<G.length:=oM;have j0:e.to.toNat=en:=oM;obtain⟨n5,ct,et,p4,_,p8,_,k3⟩:=Ct h6.g e6;have s8:=p8.len;have t5:=h6.g.len;have n8:BS G e.to.toNat=G[en].uk:=by rw[j0];unfold BS;rw[dw e6]
   rw[n8]at a5;have i3:=a0.U b2 d6;refine⟨p,rfl,c.u,h6.box.at0 xR rfl,e.to,c6.at1 (k:=1) (r:=[]) c4 rfl,n5,⟨p4,oM,oM⟩,ct,by rw[q4,fa];exact(k3 _ xR).G (k:=4) rfl,λh0=>?_,λh0=>?_⟩
   .rw[fo oM]at a5;refine⟨e.Y,e.to,c6.at0 (r:=[]) c4 rfl,An.intro λa7 w7 x7 f8 _ _=>?_⟩;refine(i3.U b2 x7).push g7 b2 j9 b7 (f8.se.pre (r:=[]) rfl) λt w8 b0=>f4 t Α w8 r s4 ?_ b8 b4;rwa [f9,g0,fo a5,fb oM,gz]
   .rw[fb oM]at a5;refine⟨e.Y,e.to,c6.at0 (r:=[]) c4 rfl,An.intro λa7 w7 x7 f8 _ _=>?_⟩;refine(i3.U b2 x7).swap.push g7 b2 k0 b7 (f8.se.pre (r:=[]) rfl) λt w8 b0=>f4 A t w8 r s4 ?_ b8 b4;rw[f9,g0,fo a5,fb oM,gz];exact b0.swap
 .have a8:j=es.length:=oM;subst a8;rw[fe]at a0;rw[Zjv (by rw[c8];exact ga _) (.inl rfl)]at b4;obtain⟨L,hL⟩:∃L,L=es.filter (λe=>A9 G nd e==2)++es.filter (λe=>A9 G nd e==3):=⟨_,rfl⟩;have g8:DE G nd 2 0=L:=by unfold DE;rw[c8,hL];rfl
  rw[g8]at b4;have o5:L.length<=256:=by rw[hL,dx];have:=jo (λe=>A9 G nd e==2) es;have:=jo (λe=>A9 G nd e==3) es;omega
  have o6:∀e∈L,e∈es/\(A9 G nd e=2\/A9 G nd e=3):=λe he=>by
   rw[hL]at he;obtain he|he:=fj.1 he
   .rw[jd]at he;exact⟨he.1,.inl (by simpa using he.2)⟩
   .rw[jd]at he;exact⟨he.1,.inr (by simpa using he.2)⟩
  have q9:=o5;rw[hL,dx]at q9;have f3:wo.bytes=24:=rfl;have m1:=Below.size a0.vd;have r6:=(a0.o.I (by rw[f3];unfold Ab;omega) (by rw[Al];omega)).O (S':=λb=>∃ad,Α.a=some ad/\b=ad.block) λb hb=>hb.F (λh=>h.F) id;refine a0.a.zj Nq m1 r6 (λb ⟨ad,ha,e⟩=>e▸(a0.o.block ha).2.1) (λad ha ⟨x,hx,e⟩=>a0.ao ad x ha hx e) (by rw[f3];unfold Ab;omega) (by rw[Al];omega) λt w4 o4 e3 d5 n0=>?_;rw[<-hL]at o4;have o4:=rl.flat (λh=>h) o4;have s6:=Below.size e3;have hA:∀ad,A.a=some ad->w2.heap.size<=ad.block:=λad ha=>(a0.a.block ha).1;have m0:rl BO 284 w4 lo rz r s4.done:=a0.st.ry s6 λb hb hq=>by
   rcases hq with hq|⟨ad,ha,rfl⟩
   .exact hq.F
   .exact d5 _ hb λx hx e=>a0.ra x ad hx ha e.H
  obtain⟨h4,m4⟩:=h2.re (Below.Z a0.vd (Below.O e3 b2)) (λb hb h1 h3=>(d5 b oM λad ha=>by have:=hA ad ha;omega).Z (a0.yf b hb h1 h3)) (a0.box.ry (S:=λb=>b<w2.heap.size) g7 λb hb hl=>d5 b hl λad ha=>by have:=hA ad ha;omega) m0 a0.hr;have h4:ç BO 284 w4 lo p S {c with st:=r} G P tf s4:=by rw[<-b8]at h4;exact h4
  have s3:=(o4.I (by rw[f3];unfold Ab;omega) (by rw[Al];omega)).O (S':=λb=>∃ad,t.a=some ad/\b=ad.block) λb hb=>hb.F (λh=>h.F) id;refine rn.up (N:=L.length) (by rw[Al];omega) (λj w'=>∃(c5:PC) (s5:vq),ç BO 284 w' lo p S c5 G P tf s5/\Mv lo p c w2 c5 w'/\IT wo w' (λb=>∃ad,t.a=some ad/\b=ad.block) t L/\(∀ad,t.a=some ad->ad.block<w'.heap.size/\ad.block≠p.block/\(∀x,c5.dr.a=some x->ad.block≠x.block)/\∀x,c5.st.a=some x->ad.block≠x.block)/\Ö I tz nd s (L.drop j) s5) ⟨_,s4,h4,m4,s3,λad ha=>⟨(o4.block ha).2.1,by have:=(o4.block ha).1;omega,λx hx e=>?_,λx hx e=>?_⟩,by rwa [lf]⟩ λj w5 t9 hj ⟨c5,s5,h5,m5,d9,e4,b6⟩ k7=>⟨λk4=>?_,λt4=>?_⟩
  .obtain⟨D',o',_⟩:=h.dr;have:=(o'.block hx).2.1;have:=(o4.block ha).1;omega
  .obtain q|q:=n0 ad ha
   .exact a0.ra ad x q hx e
   .have:=(a0.st.block hx).2.1;omega
  .have a8:j<L.length:=(by have:=d9.len;omega);obtain⟨f2,d2,b7,d3⟩:=D4 d9 a8;obtain⟨j3,j7⟩:=o6 _ (fm a8);rw[gp a8]at b6;have l6:=k7 a8;clear k7;generalize L[j]=e at*;have a9:=e9 e j3;have g4:=hg.yv a9;have d1:=b9.Xa3 a9;have u5:=b6.cnt;obtain⟨e5,t7⟩:=b6.rk ha;have o0:wz G s5 tz:=(by have:=b6.inv;rw[b5]at this;exact this);have v3:=b6.small.2;have q6:A9 G nd e=2/\(BS G e.to.toNat).length=0\/A9 G nd e=3/\(BS G e.to.toNat).length≠0:=by
    have:=j8 e;by_cases h1:cx.any (As e.Y)=true
    .rw[fo h1]at this;omega
    .rw[fb h1]at this;by_cases h2:(BS G e.to.toNat).length=0
     .rw[fo h2]at this;exact .inl ⟨this,h2⟩
     .rw[fb h2]at this;exact .inr ⟨this,h2⟩
   refine⟨f2,⟨d2,oM,k4⟩,e.Y,e.to,by rw[fa];exact d3 _ xR,An.set rfl λa6 w6 x6 f7 _=>⟨e.Y,e.to,f7.at0 (r:=[]) xR rfl,?_⟩⟩;have m6:=m5.Z (Mv.of x6 h5.lo_le);refine LB.V (Zit (k:=A9 G nd e) (D:=D) (M:=M) (h5.U x6) o0 e5 (b6.new e (.head _)) b7 g4 b9.Xbb d1.1 (ZQ b9) d1.2 (b9.Xcg a9) q6 oM oM (by rwa [m5.same]) (by rwa [m5.same]) λc7 w7 code s7 hE h7 m7=>⟨code,rfl,λhc=>?_,λhc=>?_⟩)
   .rw[d7]at hE;exact stop (m6.Z m7) b6 (by rwa [b5]) hc
   .rw[d7]at hE;have hc:=jt.1 hc;subst hc;have z6:=x6.size;have z7:=m7.size;refine l6 w7 ⟨c7,s7,h7,m6.Z m7,(d9.U x6).ry λb ⟨ad,ha,e⟩ hl=>?_,λad ha=>?_,b6.step g3 e5 (by rwa [b5])⟩
    .subst e;obtain⟨_,q1,q2,q3⟩:=e4 ad ha;exact m7.yf _ hl q1 q2 q3
    .obtain⟨q0,q1,q2,q3⟩:=e4 ad ha;refine⟨oM,q1,λx hx=>?_,λx hx=>?_⟩
     .obtain q|q:=m7.dr x hx
      .exact q2 x q
      .omega
     .obtain q|q:=m7.st x hx
      .exact q3 x q
      .omega
  .have a8:j=L.length:=(by have:=d9.len;omega);rw[a8,mq]at b6;exact j4 c5 w5 s5 b6 h5 (f1.Z m5)
end
end Go.Hal
