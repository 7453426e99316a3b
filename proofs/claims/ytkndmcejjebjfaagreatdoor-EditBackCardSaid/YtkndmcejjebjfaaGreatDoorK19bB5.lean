/- Lemmas for the claim K19b: how the program's functions run, and what they answer; no condition but those that each theorem names. -/
import Derived.Test.YtkndmcejjebjfaaGreatDoorProg
import Derived.Laws.IdiomCopy
import Derived.ArgAppend
import Derived.Lone
import Derived.RunT
import Derived.StepT
import Derived.Calls
import Derived.Test.YtkndmcejjebjfaaGreatDoorK19bB4
set_option linter.unusedVariables false
set_option linter.unusedSimpArgs false
set_option linter.defProp false
set_option maxHeartbeats 16000000
open Go Go.RowKit Go.Proofs Go.Shelf Go.Hal Go.Proofs.Tryz
variable {a a3 ad:Addr} {es:Array Event} {dev pr:Bool} {R:Bool->Wp} {D N:Int} {l:LD} {M:List Int} {g:LN} {L:List Pack} {cs:LV} {m':Machine} {m:Mani} {b i j lo n nd:Nat} {Q S S':Nat->Prop} {r:Option (List Span)} {ol:Option Addr} {c':PC} {p:Program} {d o s t u:Sl} {w w':Wd} {K:Wp}
namespace Go.Hal
def Df(L:List Pack)(g:LN):List Pack:=(List.range g.length).map λi=>if i=0 then Ay else match g[i]? with
 |some x=>(AR L x.name x.v).getD Ay
 |none=>Ay
def EG(G:LN)(P:List Pack)(old:Option (List Dir))(D M:Int):PlI:=⟨G,KB old P,λp=>(A5 p).length,M,D⟩
def pl0:PlS:=⟨[⟨[],0⟩],[]⟩
def Fd(D M:Int):Prop:=1<=D/\D<=256/\1<=M/\M<=1024
def H9(old:Option (List Dir)):Prop:=∀T,old=some T->TreeOk T
inductive PlaceR (G:LN) (P:List Pack) (old:Option (List Dir)) (D M:Int):Int->List Dir->Prop
 |arg: ¬Fd D M->PlaceR G P old D M 1 []
 |tree:Fd D M-> ¬H9 old->PlaceR G P old D M 42 []
 |graph:Fd D M->H9 old-> ¬PlaceOk G P->PlaceR G P old D M 33 []
 |stop {c:Int} {s:PlS}:Fd D M->H9 old->PlaceOk G P->DirsR (EG G P old D M) 0 pl0 c s->c≠0->PlaceR G P old D M c []
 |ok {s:PlS} {es:List Dr}:Fd D M->H9 old->PlaceOk G P->DirsR (EG G P old D M) 0 pl0 0 s->SortedD s.dirs es->PlaceR G P old D M 0 (es.map (Bh P))
def PlaceOk.grPl{ps:List Pack}(h:PlaceOk g ps):GrPl g:=by
 have hl:=h.len;refine⟨oM,λx hx=>?_,λx hx e he=>?_⟩
 .obtain⟨i,hi⟩:=jo hx;exact(h.node i x hi).edges
 .obtain⟨i,hi⟩:=jo hx;obtain⟨j,y,h1,_,h3,_⟩:=(h.node i x hi).edge e he;have:=(fh.1 h3).1;omega
def PlaceR.one{G:LN}{P:List Pack}{old:Option (List Dir)}{M c d:Int}{T U:List Dir}(h:PlaceR G P old D M c T)(k:PlaceR G P old D M d U):c=d/\T=U:=by
 cases h with
 |arg h1=>
  cases k with
  |arg=>exact⟨rfl,rfl⟩
  |tree k1=>exact absurd k1 h1
  |graph k1=>exact absurd k1 h1
  |stop k1=>exact absurd k1 h1
  |ok k1=>exact absurd k1 h1
 |tree h1 h2=>
  cases k with
  |arg k1=>exact absurd h1 k1
  |tree=>exact⟨rfl,rfl⟩
  |graph k1 k2=>exact absurd k2 h2
  |stop k1 k2=>exact absurd k2 h2
  |ok k1 k2=>exact absurd k2 h2
 |graph h1 h2 h3=>
  cases k with
  |arg k1=>exact absurd h1 k1
  |tree k1 k2=>exact absurd h2 k2
  |graph=>exact⟨rfl,rfl⟩
  |stop k1 k2 k3=>exact absurd k3 h3
  |ok k1 k2 k3=>exact absurd k3 h3
 |stop h1 h2 h3 h4 h5=>
  cases k with
  |arg k1=>exact absurd h1 k1
  |tree k1 k2=>exact absurd h2 k2
  |graph k1 k2 k3=>exact absurd h3 k3
  |stop k1 k2 k3 k4 k5=>exact⟨(h4.one k4).1,rfl⟩
  |ok k1 k2 k3 k4 k5=>exact absurd (h4.one k4).1 h5
 |ok h1 h2 h3 h4 h5=>
  cases k with
  |arg k1=>exact absurd h1 k1
  |tree k1 k2=>exact absurd h2 k2
  |graph k1 k2 k3=>exact absurd h3 k3
  |stop k1 k2 k3 k4 k5=>exact absurd (h4.one k4).1.symm k5
  |ok k1 k2 k3 k4 k5=>have e:=(h4.one k4).2;subst e;have hd:=(DirsR.placed (I:=EG G P old D M) h3.grPl h4).dirsOk h3;exact⟨rfl,by rw[h5.one hd k5]⟩
def gCall.holds{τ:Type}{g:Bool}{k:τ->Wp}{A:(τ->Wp)->Prop}{d:τ}(P:τ->Prop)(hA:g=true->∀q:τ->Wp,(∀t w',Ext w w'->P t->q t w')->A q)
  (hk:∀t w',Ext w w'->(g=true->P t)->k t w'):gCall g k A (λq=>q d w):=
 ⟨λhg=>hA hg _ λt w' hx hp=>hk _ _ hx λ_=>hp,λhg=>hk _ _ xR λh=>by rw[hg]at h;cases h⟩
def Dn{l:LQ}(h:SlR edgeE w S s l)(hn:n<l.length):
  ∃ad,s.a=some ad/\Ac l[n].name/\∀w',Ext w w'->ldc w' (ad.add (n*2)) [.string l[n].name,.int .i64 l[n].to]:=by
 obtain⟨ad,cs,h1,h2,⟨rfl,h3⟩,h4⟩:=h.el hn;exact⟨ad,h1,h3,h4⟩
def KI(m:Mani):Int:=if AV m then 0 else 25
def KJ(m:Mani):Bs:=if AV m then B (DV m)else⟨#[]⟩
def Zef(h:AV m=true):FW m=true:=by unfold AV at h;rw[dx]at h;exact h.1
def Zeh{e v:Sl}{R:Bs->Int->Wp}(ht:Tab w)(hS:Old S w)(hd:SlR depE w S d m.deps)(he:SlR depE w S e m.dev)(ho:SlR depE w S o m.opt)(hv:SlR depE w S v m.over)
  (hR:∀w',Ext w w'->R (KJ m) (KI m) w'):SE.KK d e o v w R:=by
 unfold SE.KK;refine newS.intro λa w1 x1 a4 _ _=>⟨d,e,o,v,a4.ldc.pre (r:=[]) rfl,?_⟩;refine SE.FX.go (NJ (m:=m) (ht.ext x1) (hS.ext x1.size) (hd.ext x1) (he.ext x1) (ho.ext x1) (hv.ext x1) λw2 x2=>⟨_,rfl,λh=>?_,λh=>?_⟩)
 .have h:AV m=false:=by simpa using h
  have hr:=hR w2 (x1.trans x2);unfold KJ KI at hr;rw[h]at hr;exact hr
 .have h:AV m=true:=by simpa using h
  have a0:=x1.trans x2;refine⟨d,e,o,v,(a4.ext x2).ldc.pre (r:=[]) rfl,?_⟩;refine SE.I7.go (UJ (m:=m) (ht.ext a0) (Zef h) (hd.ext a0) (he.ext a0) (ho.ext a0) (hv.ext a0) λw3 x3=>⟨_,rfl,?_⟩);have hr:=hR w3 (a0.trans x3);unfold KJ KI at hr;rw[h]at hr;exact hr
def UB{α:Type}{l:List α}{nm:α->Bs}{f:Value}{n:Int}(hn:n=(l.length:Int))(hm:l.length<=maxLen)(hs:∀x∈l,Ac (nm x))
  (hf:∀(i:Nat) (h:i<l.length) w' (k:Value->Wp),Ext w w'->(∀a8,Ext w' a8->k (.string (nm l[i])) a8)->callV prog f [vi i] w' k)
  (hR:∀(b:Bool) w',Ext w w'->(b=true↔RiseN nm l/\(∀x∈l,Af (nm x)=true)/\l.length<=128)->R b w'):SE.I4 n f w R:=by
 unfold SE.I4;subst hn;refine loop1.up hm (λi w'=>Ext w w'/\RiseN nm (l.take i)/\∀x∈l.take i,Af (nm x)=true) ⟨Ext.refl _,.nil,λ_ h=>by cases h⟩ λi w1 b7 hi ⟨x1,hI,hJ⟩ hn=>⟨λb6=>?_,λb5=>?_⟩
 .have hl:i<l.length:=oM;have a4:=ff hl;refine hf i hl w1 _ x1 λw2 x2=>⟨_,rfl,SE.CA.go (scanName_se (hs _ a4) λw3 x3=>⟨_,rfl,bound (bound ?_)⟩)⟩;have a7:=x1.trans (x2.trans x3);refine gCall.intro (nm (l[i - 1]'oM)) (λhg q hq=>?_) λb2 w4 x4 a5=>?_
  .simp only[dx,decide_eq_true_eq]at hg;rw[Xh oM hl hm];exact hf (i - 1) oM w3 _ a7 λw4 x4=>⟨_,rfl,hq w4 x4⟩
  refine gCall.intro (nm l[i]) (λhg q hq=>hf i hl w4 _ (a7.trans x4) λw5 x5=>⟨_,rfl,hq w5 x5⟩) λb4 w5 x5 a6=>?_;have a9:=(a7.trans x4).trans x5;have a0:(!Af (nm l[i])||(decide (0<(i:Int))&& !Ao b2 b4))=false↔Af (nm l[i])=true/\(1<=i->Ao (nm (l[i - 1]'oM)) (nm l[i])=true):=by
   cases hM:Af (nm l[i])with
   |false=>simp
   |true=>
    rw[hM]at a5 a6;by_cases h1:1<=i
    .rw[decide_eq_true (show(0:Int)<(i:Int) by omega)]at a5 a6 ⊢;rw[a5 rfl,a6 rfl];simp[h1]
    .rw[decide_eq_false (show ¬(0:Int)<(i:Int) by omega)];simp[h1]
  refine⟨λh=>hR false w5 a9 ⟨nO,λ⟨g1,g2,_⟩=>?_⟩,λh=>hn hl w5 ⟨a9,?_⟩⟩
  .rw[a0.2 ⟨g2 _ a4,λh1=>?_⟩]at h
   .cases h
   .cases hb:Ao (nm (l[i - 1]'oM)) (nm l[i])with
    |true=>rfl
    |false=>exact absurd g1 (QP h1 hl hb)
  .obtain⟨g1,g2⟩:=a0.1 h;refine⟨?_,λx hx=>?_⟩
   .obtain h0|h0:=jq i
    .subst h0;exact QQ
    .exact QR h0 hl hI (g2 h0)
   .rw[dw hl]at hx;obtain hx|hx:=fk.1 hx
    .exact hJ x hx
    .rw[ep.1 hx];exact g1
 .have b0:i=l.length:=oM;rw[b0,eh]at hI hJ;refine hR _ w1 x1 ⟨λh=>⟨hI,hJ,?_⟩,λ⟨_,_,h⟩=>?_⟩
  .have:=of_decide_eq_true h;omega
  .exact decide_eq_true oM
def ZS:Bn prog 247:=enters_of func247 kR rfl
def ZT:Bn prog 248:=enters_of func248 kR rfl
def Zdt{x:Node}{c e:Sl}{many:Int}{k:Nat}(b5:many=(k:Int))(hc:SlR pinE w S c x.ctx)(he:SlR edgeE w S e x.edges)
  (hR:∀(b:Bool) w',Ext w w'->(b=true↔NodeLk k x)->R b w'):SE.KH x.name x.v.ma x.v.mi x.v.pa c e many w R:=by
 unfold SE.KH;subst b5;have c9:=hc.len;have d0:=he.len;have a9:∀w',Ext w w'-> ¬NodeLk k x->R false w':=λw' hx h=>hR false w' hx ⟨nO,λhf=>absurd hf h⟩;refine newS.intro λa w1 x1 a4 _ _=>⟨c,a4.at1 (k:=4) xR rfl,?_⟩;refine SE.I4.go (UB (l:=x.ctx) (nm:=Pin.name) oM hc.max (λp hp=>?_) (λi hi w' q x' hq=>⟨_,_,rfl,ZS,SE.Qg.go ?_⟩) λb w2 x2 hb=>⟨b,rfl,bound ?_⟩)
 .obtain⟨i,hi,rfl⟩:=fp.1 hp;obtain⟨_,_,_,b6,_⟩:=Dg hc hi;exact b6
 .obtain⟨ad,ha,_,_,a0⟩:=Dg hc hi;exact⟨c,a4.at1 (k:=4) x' rfl,ad,⟨ha,oM,oM⟩,_,(a0 _ (x1.trans x')).pre rfl,hq _ xR⟩
 refine⟨e,λ_=>a4.at1 (k:=5) (r:=[]) x2 rfl,?_⟩;have b7:=x1.trans x2;refine gCall.holds (λt=>t=true↔RiseN Edge.name x.edges/\(∀y∈x.edges,Af y.name=true)/\x.edges.length<=128) (λhg q hq=>SE.I4.go (UB (l:=x.edges) (nm:=Edge.name) oM he.max (λp hp=>?_) (λi hi w' r x' hr=>⟨_,_,rfl,ZT,SE.Qh.go ?_⟩) λb w3 x3 hb=>⟨b,rfl,hq b w3 x3 hb⟩)) λc8 w3 x3 b2=>⟨λh=>?_,λh=>?_⟩
 .obtain⟨i,hi,rfl⟩:=fp.1 hp;obtain⟨_,_,b6,_⟩:=Dn he hi;exact b6
 .obtain⟨ad,ha,_,a0⟩:=Dn he hi;exact⟨e,a4.at1 (k:=5) (r:=[]) (x2.trans x') rfl,ad,⟨ha,oM,oM⟩,_,(a0 _ (b7.trans x')).pre rfl,hr _ xR⟩
 .refine a9 w3 (b7.trans x3) λhF=>?_;have h1:=hb.2 ⟨hF.ctx,λp hp=>(hF.pin p hp).1,hF.ctxN⟩;subst h1;rw[(b2 rfl).2 ⟨hF.edges,λp hp=>(hF.edge p hp).1,hF.edgesN⟩]at h;cases h
 have b9:=b7.trans x3;have h1:b=true:=by
  cases b with
  |true=>rfl
  |false=>cases h
 subst h1;have h2:c8=true:=by simpa using h
 subst h2;obtain⟨c1,c2,c3⟩:=hb.1 rfl;obtain⟨e1,e2,e3⟩:=(b2 rfl).1 rfl;refine⟨c,a4.at1 (k:=4) (x2.trans x3) rfl,?_⟩;refine loop1.up hc.max (λi w'=>Ext w3 w'/\∀p∈x.ctx.take i,p.v.may=true) ⟨Ext.refl _,λ_ h=>by cases h⟩ λi w4 c7 hi ⟨x4,hI⟩ hn=>⟨λb4=>?_,λc6=>?_⟩
 .have a7:i<x.ctx.length:=oM;obtain⟨ad,ha,_,_,a0⟩:=Dg hc a7;have b0:=b9.trans x4;refine⟨ad,⟨ha,oM,b4⟩,_,_,_,_,a0 _ b0,newS.set rfl λa5 w5 x5 c5 _=>⟨_,_,_,c5.at1 (k:=1) (r:=[]) xR rfl,?_⟩⟩;refine SE.Ek.go (H1 (v:=x.ctx[i].v) λw6 x6=>⟨_,rfl,λh=>?_,λh=>?_⟩)
  .refine a9 w6 (b0.trans (x5.trans x6)) λhF=>?_;rw[(hF.pin _ (ff a7)).2]at h;cases h
  .refine hn a7 w6 ⟨x4.trans (x5.trans x6),λp hp=>?_⟩;rw[dw a7]at hp;obtain hp|hp:=fk.1 hp
   .exact hI p hp
   .rw[ep.1 hp];simpa using h
 have a7:i=x.ctx.length:=oM;rw[a7,eh]at hI;refine⟨e,a4.at1 (k:=5) (r:=[]) (x2.trans (x3.trans x4)) rfl,?_⟩;have b0:=b9.trans x4;refine loop1.up he.max (λj w'=>Ext w4 w'/\∀y∈x.edges.take j,1<=y.to/\y.to<(k:Int)) ⟨Ext.refl _,λ_ h=>by cases h⟩ λj w5 c7 hj ⟨x5,hJ⟩ hn=>⟨λb4=>?_,λc6=>?_⟩
 .have a8:j<x.edges.length:=oM;obtain⟨ad,ha,_,a0⟩:=Dn he a8;have c4:=b0.trans x5;refine⟨ad,⟨ha,oM,b4⟩,_,_,a0 _ c4,newS.set rfl λa6 w6 x6 b8 _=>⟨_,b8.at1 (k:=1) (r:=[]) xR rfl,bound ⟨_,λ_=>b8.at1 (k:=1) (r:=[]) xR rfl,λh=>?_,λh=>?_⟩⟩⟩
  .refine a9 w6 (c4.trans x6) λhF=>?_;obtain⟨_,h1,h2⟩:=hF.edge _ (ff a8);rw[decide_eq_false oM,decide_eq_false oM]at h;cases h
  .simp only[gb,decide_eq_false_iff_not]at h;refine hn a8 w6 ⟨x5.trans x6,λp hp=>?_⟩;rw[dw a8]at hp;obtain hp|hp:=fk.1 hp
   .exact hJ p hp
   .rw[ep.1 hp];omega
 .have a8:j=x.edges.length:=oM;rw[a8,eh]at hJ;exact hR true w5 (b0.trans x5) ⟨λ_=>⟨c1,λp hp=>⟨c2 p hp,hI p hp⟩,c3,e1,λy hy=>⟨e2 y hy,hJ y hy⟩,e3⟩,λ_=>rfl⟩
structure Qu(w:Wd)(lo:Nat)(s:Sl)(l:List Int):Prop where
 len:s.len=l.length
 cap:l.length<=s.cap
 row:∃(g off:Nat) (cur:Array Value),s.a=some ⟨g,off,none⟩/\lo<=g/\w.heap[g]?=some (.cells cur 3 (0,0))/\off+s.cap<=cur.size/\∀(i:Nat)(x:Int),l[i]?=some x->cur[off+i]?=some (.int .i64 x)
section
variable {w w':Wd} {lo:Nat} {s:Sl} {l:List Int}
def Qu.lt(h:Qu w lo s l)(ha:s.a=some ad):lo<=ad.block/\ad.block<w.heap.size:=by obtain⟨g,off,a0,h1,h2,h3,_⟩:=h.row;rw[h1,eu]at ha;subst ha;exact⟨h2,lt_of_block h3⟩
def Qu.keep(h:Qu w lo s l)(hk:∀ad,s.a=some ad->w'.heap[ad.block]?=w.heap[ad.block]?):Qu w' lo s l:=by obtain⟨g,off,a0,h1,h2,h3,h4⟩:=h.row;exact⟨h.len,h.cap,g,off,a0,h1,h2,(hk _ h1).trans h3,h4⟩
def Qu.ext(h:Qu w lo s l)(hx:Ext w w'):Qu w' lo s l:=h.keep λad ha=>hx.block (h.lt ha).2
def Qu.but(h:Qu w lo s l)(hb:But b w w')(hn:∀ad,s.a=some ad->ad.block≠b):Qu w' lo s l:=h.keep λad ha=>hb.2.2.2.2 _ (h.lt ha).2 (hn ad ha)
def Qu.el(h:Qu w lo s l)(hi:i<l.length):∃ad,s.a=some ad/\∀w',Ext w w'->ldc w' (ad.add (i*1)) [.int .i64 l[i]]:=by
 obtain⟨g,off,a0,h1,h2,h3,h4,h5⟩:=h.row;refine⟨_,h1,λw' hx=>ldc.ext (λj v hj=>?_) hx⟩;cases j with
 |zero=>simp only[ja,eu]at hj;subst hj;rw[CX,Addr.add_lit,cell_of_row w g _ a0 3 (0,0) h3];rw[pw,jz];exact h5 i _ (dt hi)
 |succ j=>simp at hj
def Qu.tail{x:Int}{r:List Int}(h:Qu w lo s (x::r)):Qu w lo (Sl.cut s 1 s.len 1) r:=by
 obtain⟨g,off,a0,h1,h2,h3,h4,h5⟩:=h.row;have hl:=h.len;have hc:=h.cap;rw[fl]at hl hc;have a4:r.length<=(Sl.cut s 1 s.len 1).cap:=by show r.length<=s.cap - 1;omega
 refine⟨by show s.len - 1=_;omega,a4,?_⟩;by_cases h0:s.cap=1
 .have hr:r=[]:=fj oM;subst hr;refine⟨g,off,a0,?_,h2,h3,by show off+(s.cap - 1)<=_;omega,λi x hx=>by simp at hx⟩;unfold Sl.cut;dsimp only;rw[if_pos h0];exact h1
 .refine⟨g,off+1,a0,?_,h2,h3,by show off+1+(s.cap - 1)<=_;omega,λi y hy=>?_⟩
  .unfold Sl.cut;dsimp only;rw[if_neg h0,h1];simp[Addr.add_lit]
  .have:=h5 (i+1) y hy;rw[show off+1+i=off+(i+1) by omega];exact this
def Zih{o:Nat}{cur:Array Value}{T:TypeId}{v:Value}(h:w.heap[b]?=some (.cells cur T (0,0))):(w.setCells b o [v]).heap[b]?=some (.cells (cur.setIfInBounds o v) T (0,0))/\But b w (w.setCells b o [v])/\(w.setCells b o [v]).heap.size=w.heap.size:=by
 have e:w.setCells b o [v]=w.setCell ⟨b,o,none⟩ v:=rfl;rw[e];refine⟨?_,⟨by simp,rfl,rfl,rfl,λc hc a0=>?_⟩,by simp⟩
 .have a4:=lt_of_block h;unfold World.setCell;rw[mb];simp[h]
 .unfold World.setCell;rw[mb,if_neg (λe=>a0 e.symm)]
def Qu.push{x:Int}{k:Sl->Wp}(h:Qu w lo s l)(a8:lo<=w.heap.size)(hc:ldc w a [vi x])(hl:l.length<=1000000)
  (hk:∀(r:Sl)(w':Wd),Qu w' lo r (l++[x])->Below lo w w'->(∀b,b<w.heap.size->(∀ad,s.a=some ad->b≠ad.block)->w'.heap[b]?=w.heap[b]?)->(∀ad,r.a=some ad->((∃a9,s.a=some a9/\ad.block=a9.block)\/w.heap.size<=ad.block))->k r w'):appS prog 108 108 s (Sl.v ⟨some a,1,1⟩) w k:=by
 intro ty;obtain⟨ht,i,z,hi,hz,a4,b6,c3,c4⟩:=OV;obtain⟨g,off,a6,h1,h2,h3,h4,h5⟩:=h.row;have b5:=h.len;have b0:=h.cap;obtain⟨sa,sn,sc⟩:=s;simp only at h1 b5 b0 h4;subst h1 b5;by_cases a0:l.length+1<=sc
 .have hr:=run_append_room_cells (P:=prog) w 108 ty 3 i ht hi g off l.length sc a 1 1 [vi x] (by rw[a4];rfl) (λj u hj=>hc j u hj) (by simp[Value.oneCell']) a0 (λj hj=>by have b8:j=0:=(by simpa using hj);subst b8;rw[cell_of_row w g _ a6 3 (0,0) h3,a4,lz oM];rfl) (λj hj=>frozen_of_row w g _ a6 3 h3);rw[a4,pw]at hr;obtain⟨q1,q2,q3⟩:=Zih (o:=off+l.length) (v:=.int .i64 x) h3;refine⟨_,_,hr,⟨some ⟨g,off,none⟩,l.length+1,sc⟩,rfl,hk _ _ ⟨by simp,by simpa using a0,g,off,_,rfl,h2,q1,by simpa using h4,λj y hj=>?_⟩ (q2.below a8 h2) (λb hb b9=>q2.2.2.2.2 b hb (b9 _ rfl)) λad a7=>.inl ⟨_,rfl,by cases a7;rfl⟩⟩;rw[Array.getElem?_setIfInBounds];by_cases a5:j=l.length
  .subst a5;rw[gp nR,pb,ja,eu]at hj;rw[if_pos rfl,if_pos oM,hj]
  .rw[if_neg oM];rw[fy (by have:=(fh.1 hj).1;simp at this;omega)]at hj;exact h5 j y hj
 .have b4:∀(j:Nat)(u:Value),(l.map (Value.int .i64))[j]?=some u->w.cell? ((⟨g,off,none⟩:Addr).add j)=some u:=λj u hj=>by
   rw[gc]at hj;cases hlj:l[j]? with
   |none=>rw[hlj]at hj;cases hj
   |some y=>rw[hlj]at hj;cases hj;rw[Addr.add_lit,cell_of_row w g _ a6 3 (0,0) h3];exact h5 j y hlj
  have hr:=run_append_grow (P:=prog) w 108 ty 3 i z ht hi hz ⟨g,off,none⟩ l.length sc (l.map (Value.int .i64)) (by rw[a4,dz,pw]) b4 a 1 1 [vi x] (by rw[a4];rfl) (λj u hj=>hc j u hj) oM oM (Ta oM (by rw[b6];unfold Ab;omega));have b7:=grownCap_ge w (l.length+1) sc 3;generalize grownCap w (l.length+1) sc 3=G at*;generalize hW:w.drew.alloc (.cells ((l.map (Value.int .i64)).toArray++[Value.int .i64 x].toArray++Builtin.zeroCells z.cells (G - (l.length+1))) 3)=w2 at*;have x1:Ext w w2:=by rw[<-hW];exact(Ext.drew w).trans (Ext.alloc _ _)
  have b2:w2.heap[w.heap.size]?=some (.cells ((l.map (Value.int .i64)).toArray++[Value.int .i64 x].toArray++Builtin.zeroCells z.cells (G - (l.length+1))) 3 (0,0)):=by rw[<-hW];exact heap_alloc_new w.drew _
  refine⟨_,w2,hr,⟨some ⟨w.heap.size,0,none⟩,l.length+1,G⟩,rfl,hk _ _ ⟨by simp,by simpa using b7,w.heap.size,0,_,rfl,a8,b2,?_,λj y hj=>?_⟩ (Below.mono x1 a8) (λb hb _=>x1.block hb) λad a7=>.inr (by cases a7;exact fm _)⟩
  .rw[Array.size_append,Array.size_append,size_zeroCells,c3];simp only[iv,dz,fl,ia,pw];omega
  .rw[ke];have a5:=(fh.1 hj).1;rw[du,gl]at a5;rw[jl (by simpa using a5)];have e:((l.map (Value.int .i64)).toArray++[Value.int .i64 x].toArray)=((l++[x]).map (Value.int .i64)).toArray:=by simp
   rw[e,jr,gc,hj];rfl
def newS.qu{x:Int}{k:Addr->Wp}(a0:cs= [vi x])(h:∀a w',Ext w w'->Qu w' w.heap.size ⟨some a,1,1⟩ [x]->a.block=w.heap.size->k a w'):newS w cs 3 k:=λa w' ha hw=>by
 subst ha hw a0;refine h _ _ (Ext.alloc _ _) ⟨rfl,fm _,w.heap.size,0,_,rfl,fm _,heap_alloc_new w _,by simp,λi y hy=>?_⟩ rfl;cases i with
 |zero=>simp at hy;subst hy;rfl
 |succ i=>simp at hy
end
structure MapW(w:Wd)(lo:Nat)(m rest:Sl)(M Q:List Int):Prop where
 own:OwnS Cd 3 w lo None' m M
 qu:Qu w lo rest Q
 apart:∀ad ad',m.a=some ad->rest.a=some ad'->ad.block≠ad'.block
section
variable {w w':Wd} {lo:Nat} {m rest:Sl} {M Q:List Int}
def MapW.ext(h:MapW w lo m rest M Q)(hx:Ext w w'):MapW w' lo m rest M Q:=⟨h.own.ext hx,h.qu.ext hx,h.apart⟩
def PX(h:OwnS Cd 3 w lo None' m M)(hi:i<M.length):∃ad,m.a=some ad/\∀w',Ext w w'->ldc w' (ad.add (i*1)) [.int .i64 M[i]]:=by obtain⟨ad,cs,h1,⟨rfl,_⟩,h3⟩:=h.el (dt hi);exact⟨ad,h1,h3⟩
def MapW.set(h:MapW w lo m rest M Q)(a6:lo<=w.heap.size){x:Int}(hi:i<M.length)(ha:m.a=some ad)
  (hK:∀w',But ad.block w w'->w'.heap.size=w.heap.size->lo<=ad.block->MapW w' lo m rest (M.set i x) Q->K w'):stw w (ad.add (i*1)) [vi x] K:=by
 have hs:=h.own.setEl (i:=i) (x:=x) (o:=0) (new:=[vi x]) hi ha (λcs a4=>by obtain⟨rfl,_⟩:=a4;exact⟨rfl,trivial⟩) (by show 0+1<=1;omega) (K:=K) λw' hb hz o=>hK w' hb hz (h.own.block ha).1 ⟨o,h.qu.but hb λa5 a0 e=>h.apart _ _ ha a0 e.symm,h.apart⟩;rw[add_zero]at hs;exact hs
def MapW.push{x:Int}{k:Sl->Wp}(h:MapW w lo m rest M Q)(b0:lo<=w.heap.size)(hc:ldc w a [vi x])(hl:Q.length<=1000000)
  (hk:∀r w',Below lo w w'->MapW w' lo m r M (Q++[x])->k r w'):appS prog 108 108 rest (Sl.v ⟨some a,1,1⟩) w k:=
 h.qu.push b0 hc hl λr w' hq hb a6 hr=>hk r w' hb ⟨h.own.keep hb.size λb a9 a0=>a6 b a9 λad a8=>by
   rcases a0 with a0|⟨a4,a5,rfl⟩
   .exact a0.elim
   .exact h.apart _ _ a5 a8,hq,λad a4 ha a7=>by
   rcases hr a4 a7 with⟨b2,h1,h2⟩|h1
   .rw[h2];exact h.apart _ _ ha h1
   .have:=(h.own.block ha).2.1;omega⟩
def MapW.tail{x:Int}{r:List Int}(h:MapW w lo m rest M (x::r)):MapW w lo m (Sl.cut rest 1 rest.len 1) M r:=by
 refine⟨h.own,h.qu.tail,λad a4 ha a0=>?_⟩;obtain⟨g,off,_,h1,_⟩:=h.qu.row;have:a4.block=g:=by
  unfold Sl.cut at a0;dsimp only at a0;split at a0
  .rw[h1]at a0;cases a0;rfl
  .rw[h1]at a0;simp[Addr.add_lit]at a0;rw[<-a0]
 rw[this];exact h.apart _ _ ha h1
end
def Zd3{T:List Dir}{x:Bs}(h:EB T i x=some j):j<T.length:=by
 unfold EB at h;cases hn:Af x with
 |false=>rw[hn]at h;cases h
 |true=>rw[hn,if_pos rfl]at h;have:=NF h;rwa [dz]at this
def Zep{T:List Dir}{s:MapS}{es:LQ}(hj:j<es.length):EC T g i s (es.drop j)=(DX T g i s es[j]).bind λt=>EC T g i t (es.drop (j+1)):=by rw[fu hj];rfl
def Zen{T:List Dir}{to:Nat}{s:MapS}{e:Edge}{d:Dir}{x:Node}(h1:EB T i e.name=some to)(h2:T[to]?=some d)(h3:g[e.to.toNat]?=some x):
  DX T g i s e=if d.pack.name=x.name/\d.pack.v=x.v then(if s.m[to]?=some (-1)then some ⟨s.m.set to e.to,s.rest++[to]⟩else if s.m[to]?=some e.to then some s else none)else none:=by
 unfold DX;rw[h1];dsimp only;rw[h2,h3]
def Zeo{T:List Dir}{s:MapS}{e:Edge}(h1:EB T i e.name=none):DX T g i s e=none:=by unfold DX;rw[h1]
def UM{T:List Dir}{f:Nat}{k:Int}{s:MapS}(h1:s.rest[n]?=some i)(h2:s.m[i]?=some k):ED T g (f+1) n s=(EC T g i s (Az g k.toNat)).bind λt=>ED T g f (n+1) t:=by rw[ED,h1];dsimp only;rw[h2]
def UK{T:List Dir}{f:Nat}{s:MapS}(h1:s.rest[n]?=none):ED T g (f+1) n s=some s.m:=by rw[ED,h1]
open Classical in
noncomputable def DW (T:List Dir) (g:LN):Int:=if TreeOk T then(if Dl g then(match mapT T g with|some _=>0|none=>42)else 33)else 42
def Zem{T:List Dir}(h: ¬TreeOk T):DW T g=42:=by unfold DW;rw[if_neg h]
def Zel{T:List Dir}(h:TreeOk T)(h2: ¬Dl g):DW T g=33:=by unfold DW;rw[if_pos h,if_neg h2]
def Zej{T:List Dir}(h:TreeOk T)(h2:Dl g)(h3:mapT T g=none):DW T g=42:=by unfold DW;rw[if_pos h,if_pos h2,h3]
def Zek{T:List Dir}{m:List Int}(h:TreeOk T)(h2:Dl g)(h3:mapT T g=some m):DW T g=0:=by unfold DW;rw[if_pos h,if_pos h2,h3]
def UH(n:Nat):(madeCells (Value.int .i64 0).cells (n*1))=(((List.replicate n (0:Int)).map λx=>[Value.int .i64 x]).flatten).toArray:=by
 have e:((List.replicate n (0:Int)).map λx=>[Value.int .i64 x]).flatten=List.replicate n (Value.int .i64 0):=by
  induction n with
  |zero=>rfl
  |succ n ih=>rw[qc,ib,jc,ih,qc];rfl
 rw[e];unfold madeCells;apply Array.ext
 .simp
 .intro i h1 h2;have:(Value.int .i64 0).cells= #[Value.int .i64 0]:=rfl;simp[this,Nat.mod_one]
def Zcg:(prog.info? 3).map (λi=>(i.zero,i.size,i.bytes))=some (some (.int .i64 0),1,8):=kR
def Zea{R:Sl->Wp}(hn:n<=1000000)(hR:∀t w',Ext w w'->OwnS Cd 3 w' w.heap.size None' t (List.replicate n 0)->(∃ad,t.a=some ad)->R t w'):
  semS prog (Instr.makeSlice 108 (Value.int .i64 (n:Int)) (Value.int .i64 (n:Int))) w λv w'=>∃t:Sl,v=t.v/\R t w':=by
 obtain⟨i,h2,hi⟩:=jy.1 Zcg;simp only[Prod.mk.injEq]at hi;obtain⟨h3,h5,h6⟩:=hi;refine⟨_,_,run_make w 108 3 i (.int .i64 0) underlying108 h2 h3 .i64 .i64 n n oM (mo _) (by rw[h6];omega) oM,⟨some ⟨w.heap.size,0,none⟩,n,n⟩,by simp[Sl.v],hR _ _ (Ext.alloc _ _) ?_ ⟨_,rfl⟩⟩;have ef:((List.replicate n (0:Int)).map λx=>[Value.int .i64 x]).flatten.length=n*1:=by rw[CE (k:=1) _ (λ_=>rfl),List.length_replicate]
 refine⟨⟨(List.replicate n (0:Int)).map λx=>[Value.int .i64 x],⟨ef,.inr ⟨w.heap.size,n,_,rfl,fm _,heap_alloc_new w _,fm _,by rw[Al];omega,?_,?_⟩⟩,by simp,λi x hx=>?_⟩,by simp,λ_ h=>h.elim,λ_ _ h=>h.elim⟩
 .rw[ec,h5,UH];rw[iv];exact ef
 .rw[ec,h5,UH];show List.take (n*1) _=_;rw[qb];exact gj (by rw[ef];exact fm _)
 .rw[gc,hx];exact⟨_,rfl,rfl,trivial⟩
def Zlf(hs:SlR nodeE w S s g)(hR:∀(b:Bool) w',Ext w w'->(b=true↔Dl g)->R b w'):SE.M3 s w R:=by
 unfold SE.M3;have c8:=hs.len;have a8:∀w',Ext w w'-> ¬Dl g->R false w':=λw' hx h=>hR false w' hx ⟨nO,λhf=>absurd hf h⟩;refine newS.intro λa w1 x1 a6 _ _=>⟨s,a6.ldc.pre (r:=[]) rfl,?_⟩;refine loop1.up hs.max (λi w'=>Ext w1 w'/\∀x∈g.take i,∀e∈x.edges,1<=e.to/\e.to<(g.length:Int)) ⟨Ext.refl _,λx hx=>by cases hx⟩ λi w2 c9 hi ⟨x2,hI⟩ hn=>⟨λb8=>?_,λc7=>?_⟩
 .have a0:i<g.length:=oM;obtain⟨ad,c,e,ha,_,_,he,b7⟩:=C6 hs a0;have c6:=he.len;refine⟨ad,⟨ha,oM,b8⟩,_,_,_,_,_,_,b7 _ (x1.trans x2),newS.set rfl λa3 w3 x3 b6 _=>⟨e,b6.at1 (k:=5) (r:=[]) xR rfl,?_⟩⟩;have c3:=x1.trans (x2.trans x3);refine loop1.up he.max (λj w'=>Ext w3 w'/\∀y∈g[i].edges.take j,1<=y.to/\y.to<(g.length:Int)) ⟨Ext.refl _,λ_ h=>by cases h⟩ λj w4 c5 hj ⟨x4,hJ⟩ b9=>⟨λb0=>?_,λc4=>?_⟩
  .have a4:j<g[i].edges.length:=oM;obtain⟨b4,b5,_,a9⟩:=Dn he a4;have b2:=c3.trans x4;refine⟨b4,⟨b5,oM,b0⟩,_,_,a9 _ b2,newS.set rfl λa5 w5 x5 a7 _=>⟨_,a7.at1 (k:=1) (r:=[]) xR rfl,bound ⟨_,λ_=>a7.at1 (k:=1) (r:=[]) xR rfl,s,λ_=>a6.at0 (r:=[]) (x2.trans (x3.trans (x4.trans x5))) rfl,λh=>?_,λh=>?_⟩⟩⟩
   .refine a8 w5 (b2.trans x5) λhF=>?_;obtain⟨h1,h2⟩:=hF.2 _ (ff a0) _ (ff a4);rw[decide_eq_false oM,decide_eq_false oM]at h;cases h
   .simp only[gb,decide_eq_false_iff_not]at h;refine b9 a4 w5 ⟨x4.trans x5,λp hp=>?_⟩;rw[dw a4]at hp;obtain hp|hp:=fk.1 hp
    .exact hJ p hp
    .rw[ep.1 hp];omega
  .have a4:j=g[i].edges.length:=oM;rw[a4,eh]at hJ;refine hn a0 w4 ⟨x2.trans (x3.trans x4),λp hp=>?_⟩;rw[dw a0]at hp;obtain hp|hp:=fk.1 hp
   .exact hI p hp
   .rw[ep.1 hp];exact hJ
 .have a0:i=g.length:=oM;rw[a0,eh]at hI;refine⟨s,a6.at0 (r:=[]) x2 rfl,hR _ w2 (x1.trans x2) ?_⟩;rw[decide_eq_true_iff];exact⟨λh=>⟨oM,hI⟩,λh=>by have:=h.1;omega⟩
def Zd1{T:List Dir}{x:Bs}(h:EB T i x=some j):FV T i x=(j:Int):=by unfold FV;rw[h]
def Zd0{T:List Dir}{x:Bs}(h:EB T i x=none):FV T i x= -1:=by unfold FV;rw[h]
def OwnS.setInt{m:Sl}(h:OwnS Cd 3 w lo None' m M){x:Int}(hi:i<M.length)(ha:m.a=some ad)
  (hK:∀w',But ad.block w w'->w'.heap.size=w.heap.size->lo<=ad.block->OwnS Cd 3 w' lo None' m (M.set i x)->K w'):stw w (ad.add (i*1)) [vi x] K:=by
 have hs:=h.setEl (i:=i) (x:=x) (o:=0) (new:=[vi x]) hi ha (λcs a0=>by obtain⟨rfl,_⟩:=a0;exact⟨rfl,trivial⟩) (by show 0+1<=1;omega) (K:=K) λw' hb hz o=>hK w' hb hz (h.block ha).1 o;rw[add_zero]at hs;exact hs
def Ze1{a b:Bs}{u v:Ver}:(!Ai a b|| !((u.ma==v.ma)&&((u.mi==v.mi)&&((u.pa==v.pa)&&true))))= !decide (a=b/\u=v):=by
 rw[Gq];have:Ai a b=decide (a=b):=by rw[gk,AH,decide_eq_true_iff]
 rw[this];by_cases h1:a=b<;>by_cases h2:u=v<;>simp[h1,h2]
def MapI.at{T:List Dir}{s:MapS}(h:MapI T g s)(hn:n<s.rest.length):∃(hm:s.rest[n]<s.m.length),s.rest[n]<T.length/\0<=s.m[s.rest[n]]/\s.m[s.rest[n]]<(g.length:Int):=by obtain⟨k,h1,h2⟩:=(h.told _).1 (ff hn);obtain⟨hl,e⟩:=fh.1 h1;have h3:=h.low _ _ h1;refine⟨hl,by rw[<-h.len];exact hl,?_,?_⟩<;>rw[e]<;>omega
def Zlh{T:List Dir}{R:Sl->Int->Wp}(ht:Tab w)(hS:Old S w)(hs:SlR dirE w S s T)(hg:SlR nodeE w Q u g)(hb:∀d∈T,d.path.length<=4000000000000)
  (h0:∀t M w',Ext w w'->TreeOk T->Dl g->mapT T g=some M->OwnS Cd 3 w' w.heap.size None' t M->R t 0 w')
  (h1:∀w',Ext w w'-> ¬DW T g=0->R Sl.nil (DW T g) w'):SE.Mz s u w R:=by
 unfold SE.Mz;have p9:=hs.len;have p0:=hg.len;refine newS.intro λa w1 x1 f0 _ _=>newS.intro λa1 w2 x2 i2 _ _=>⟨s,f0.at0 (r:=[]) x2 rfl,?_⟩;have e0:=x1.trans x2;refine SE.Jg.go (WF (ht.ext e0) (hs.ext e0) hb λw3 x3=>⟨_,rfl,λhc=>?_,λhc=>?_⟩)
 .have hT: ¬TreeOk T:=λhT=>hc (Pq.2 hT);have h:=h1 w3 (e0.trans x3);rw[Zem hT]at h;exact h dC
 have hT:TreeOk T:=Pq.1 (iw hc);refine⟨u,i2.at0 (r:=[]) x3 rfl,?_⟩;have g5:=e0.trans x3;refine SE.M3.go (Zlf (hg.ext g5) λb w4 x4 i3=>⟨b,rfl,λhc=>?_,λhc=>?_⟩)
 .have hG: ¬Dl g:=λhG=>by rw[i3.2 hG]at hc;cases hc
  have h:=h1 w4 (g5.trans x4);rw[Zel hT hG]at h;exact h dC
 have hG:Dl g:=i3.1 (by simpa using hc);have c5:=g5.trans x4;have k8:=hT.len;refine⟨s,f0.at0 (r:=[]) (x2.trans (x3.trans x4)) rfl,?_⟩;have d2:∀w',Ext w w'->mapT T g=none->R Sl.nil 42 w':=λw' hx hm=>by have h:=h1 w' hx;rw[Zej hT hG hm]at h;exact h dC
 have d0:∀w',Ext w4 w'->ldc w' a [s.v]:=λw' hx=>f0.at0 (r:=[]) (x2.trans (x3.trans (x4.trans hx))) rfl;have d1:∀w',Ext w4 w'->ldc w' a1 [u.v]:=λw' hx=>i2.at0 (r:=[]) (x3.trans (x4.trans hx)) rfl;rw[show(s.len:Int)=((T.length:Nat):Int) by omega];refine Zea oM λm w5 x5 o5 ⟨g8,b8⟩=>?_;have m1:=o5.len;rw[List.length_replicate]at m1;refine loop1.up (N:=T.length) (by rw[Al];omega) (λi w'=>Ext w4 w'/\OwnS Cd 3 w' w4.heap.size None' m (List.replicate i (-1)++List.replicate (T.length - i) 0)) ⟨x5,by simpa using o5⟩ λi w6 q0 hi ⟨x6,o6⟩ hn=>⟨λf9=>?_,λl8=>?_⟩
 .have f5:i<T.length:=oM;refine⟨g8,⟨b8,oM,f9⟩,?_⟩;rw[ec];refine o6.setInt (i:=i) (x:=-1) (by simp;omega) b8 λw7 b7 m5 f6 o7=>hn f5 w7 ⟨b7.ext x6 f6,?_⟩;have e:(List.replicate i (-1:Int)++List.replicate (T.length - i) 0).set i (-1)=List.replicate (i+1) (-1)++List.replicate (T.length - (i+1)) 0:=by have e1:T.length - i=(T.length - (i+1))+1:=oM;rw[e1,qc,List.set_append,if_neg sI,List.length_replicate,pb,List.set_cons_zero,List.replicate_succ',fg];rfl
  rw[e]at o7;exact o7
 have f5:i=T.length:=oM;subst f5;rw[pb,List.replicate_zero,gd]at o6;refine⟨g8,⟨b8,mo _,oM⟩,?_⟩;refine o6.setInt (i:=0) (x:=0) (by simp;omega) b8 λw7 b7 m5 f6 o7=>?_;have x7:Ext w4 w7:=b7.ext x6 f6;refine newS.qu rfl λg7 w8 x8 q8 n4=>?_;have k9:MapW w8 w4.heap.size m ⟨some g7,1,1⟩ ((List.replicate T.length (-1)).set 0 0) (Ca [0]):=by
  have m7:Qu w8 w4.heap.size ⟨some g7,1,1⟩ [0]:=by obtain⟨g',off,k6,k1,k2,k3⟩:=q8.row;exact⟨q8.len,q8.cap,g',off,k6,k1,by have:=x7.size;omega,k3⟩
  refine⟨o7.ext x8,m7,λad o8 ha l0=>?_⟩;cases l0;have:=(o7.block ha).2.1;omega
 have l7:T.length<=257:=k8.2;refine loop1.ghost (λf rest w'=>∃(n:Nat) (t:MapS),f+n=T.length+1/\n<=t.rest.length/\MapI T g t/\mapT T g=ED T g f n t/\Ext w4 w'/\MapW w' w4.heap.size m rest t.m (Ca (t.rest.drop n))) (T.length+1) ⟨0,⟨(List.replicate T.length (-1)).set 0 0,[0]⟩,rfl,gn _,MapI.start oM hG.1,rfl,x7.trans x8,k9⟩ λf rest w9 n9 ⟨n,t,hf,p7,hI,b5,x9,hW⟩ m2=>?_;have m3:=hW.qu.len;rw[I9,fx]at m3;have p6:=hI.rest_le;refine⟨λf9=>?_,λl8=>?_⟩
 .have d5:n<t.rest.length:=oM;obtain⟨f,rfl⟩:∃f',f=f'+1:=⟨f - 1,oM⟩;obtain⟨hm,m0,p4,p5⟩:=hI.at d5;have g4:=UM (f:=f) (T:=T) (g:=g) (dt d5) (dt hm);rw[g4]at b5;have f1:Ca (t.rest.drop n)=((t.rest[n]:Nat):Int)::Ca (t.rest.drop (n+1)):=by rw[fu d5];rfl
  rw[f1]at hW;generalize t.rest[n]=a4 at*;obtain⟨k4,h8,j2⟩:=hW.qu.el (i:=0) sI;refine⟨k4,⟨h8,mo _,f9⟩,((a4:Nat):Int),j2 _ xR,⟨by decide,oM⟩,bnd.drew λq1 d7=>⟨u,d1 _ (x9.trans d7),?_⟩⟩;obtain⟨g9,e9,j1⟩:=PX hW.own (i:=a4) hm;have j4:=hW.own.len;rw[hI.len]at j4;obtain⟨kn,i6⟩:∃kn:Nat,t.m[a4]=(kn:Int):=⟨t.m[a4].toNat,oM⟩;have d3:kn<g.length:=oM;obtain⟨k0,cg,eg,l5,_,_,f2,j0⟩:=C6 hg d3;have l6:Az g (t.m[a4]).toNat=g[kn].edges:=by rw[i6,ec];unfold Az;rw[dt d3]
  rw[l6]at b5;have j9:=c5.trans (x9.trans d7);have i7:=j1 _ d7;rw[i6]at i7;refine⟨g9,⟨e9,oM,by show((a4:Nat):Int)<(m.len:Int);omega⟩,(kn:Int),i7,k0,⟨l5,oM,oM⟩,eg,by rw[ec];exact(j0 _ j9).mid (k:=5) (r:=[]) rfl,?_⟩;have o9:=f2.len;have m4:∀e∈g[kn].edges,1<=e.to/\e.to<(g.length:Int):=hG.2 _ (ff d3);have j7:∀j (hj:j<g[kn].edges.length),∃ad,eg.a=some ad/\Ac g[kn].edges[j].name/\∀w',Ext w w'->ldc w' (ad.add (j*2)) [.string g[kn].edges[j].name,.int .i64 g[kn].edges[j].to]:=λj hj=>Dn f2 hj;generalize g[kn].edges=es at*;refine loop2.up f2.max (λa9 j w'=>∃t':MapS,EC T g a4 t es=EC T g a4 t' (es.drop j)/\MapI T g t'/\n+1<=t'.rest.length/\Ext w4 w'/\MapW w' w4.heap.size m a9 t'.m (Ca (t'.rest.drop (n+1)))) ⟨t,by rw[jv],hI,d5,x9.trans d7,(hW.ext d7).tail⟩ λa9 j m8 m6 hj ⟨t',hE,c8,j5,d8,c9⟩ j6=>⟨λg0=>join.named λJ hJ=>?_,λl9=>?_⟩
  .have c3:j<es.length:=oM;obtain⟨b2,h5,g3,f7⟩:=j7 j c3;rw[Zep c3]at hE;have j8:=m4 _ (ff c3);have b6:DX T g a4 t' es[j]=none->mapT T g=none:=λh=>(by rw[h]at hE;rw[b5,hE];rfl);have d4:∀t2,DX T g a4 t' es[j]=some t2->∀r w',Ext w4 w'->MapW w' w4.heap.size m r t2.m (Ca (t2.rest.drop (n+1)))->J r w':=λt2 h2 r w' hx hw=>by rw[hJ];obtain⟨k7,l,hl⟩:=c8.edge j8 h2;refine j6 c3 r w' ⟨t2,?_,k7,by rw[hl,du];omega,hx,hw⟩;rw[h2]at hE;exact hE
   have n5:=c8.rest_le;generalize es[j]=e at*;refine⟨b2,⟨h5,oM,g0⟩,_,_,f7 _ (c5.trans d8),newS.set rfl λo0 q2 c6 e3 _=>⟨s,d0 _ (d8.trans c6),_,e3.at0 xR rfl,?_⟩⟩;have e6:=c5.trans (d8.trans c6);refine SE.Gv.go (NH (hS.ext e6.size) (hs.ext e6) m0 g3 hb λq3 n1=>⟨_,rfl,bnd.drew λb0 n2=>bound ?_⟩);have a6:=n1.trans n2;have a0:=d8.trans (c6.trans a6);have a5:=c5.trans a0;cases hlk:EB T a4 e.name with
   |none=>rw[Zd0 hlk];have i5:=d2 b0 a5 (b6 (Zeo hlk));exact⟨s,nO,b2,nO,⟨#[]⟩,nO,u,nO,0,nO,b2,nO,⟨#[]⟩,nO,bound ⟨s,nO,b2,nO,0,0,0,nO,u,nO,0,nO,b2,nO,0,0,0,nO,λ_=>i5,nO⟩⟩
   |some to=>
    rw[Zd1 hlk];have d6:=Zd3 hlk;obtain⟨b9,ps,dd,ee,oo,h7,_,n7,p8,_,_,_,i4⟩:=dirEl hs d6;obtain⟨en,f4⟩:∃en:Nat,e.to=(en:Int):=⟨e.to.toNat,oM⟩;have e4:en<g.length:=oM;obtain⟨d9,cE,eE,h6,_,_,_,e5⟩:=C6 hg e4;have a8:=Zen (s:=t') hlk (dt d6) (g:=g) (x:=g[en]) (by rw[f4,ec];exact dt e4);have j3:=c9.own.len;rw[c8.len]at j3;have c4:to<t'.m.length:=by rw[c8.len];exact d6
    obtain⟨c7,b4,f8⟩:=PX c9.own c4;have a7:=e3.ext a6;have l1:ldc b0 ((b9.add (((to:Nat):Int).toNat*9)).add 1) [.string T[to].pack.name]:=by rw[ec];exact(i4 _ a5).mid (k:=1) rfl
    have l2:ldc b0 (((b9.add (((to:Nat):Int).toNat*9)).add 1).add 1) [.int .i64 T[to].pack.v.ma,.int .i64 T[to].pack.v.mi,.int .i64 T[to].pack.v.pa]:=(by rw[ec,CX _ 1 1];exact(i4 _ a5).mid (k:=2) rfl);have l3:ldc b0 (d9.add (e.to.toNat*6)) [.string g[en].name]:=(by rw[f4,ec];exact(e5 _ a5).pre rfl);have l4:ldc b0 ((d9.add (e.to.toNat*6)).add 1) [.int .i64 g[en].v.ma,.int .i64 g[en].v.mi,.int .i64 g[en].v.pa]:=(by rw[f4,ec];exact(e5 _ a5).mid (k:=1) rfl);have lm:ldc b0 (c7.add (((to:Nat):Int).toNat*1)) [.int .i64 t'.m[to]]:=(by rw[ec];exact f8 _ (c6.trans a6));have r1:b9=b9/\(0:Int)<=(to:Int)/\((to:Nat):Int)<(s.len:Int):=⟨rfl,oM,oM⟩;refine⟨s,λ_=>d0 _ a0,b9,λ_=>⟨h7,oM,oM⟩,_,λ_=>l1,u,λ_=>d1 _ a0,e.to,λ_=>a7.ldc.mid (k:=1) (r:=[]) rfl,d9,λ_=>⟨h6,oM,oM⟩,_,λ_=>l3,bound ⟨s,λ_=>d0 _ a0,b9,λ_=>⟨h7,oM,oM⟩,_,_,_,λ_=>l2,u,λ_=>d1 _ a0,e.to,λ_=>a7.ldc.mid (k:=1) (r:=[]) rfl,d9,λ_=>⟨h6,oM,oM⟩,_,_,_,λ_=>l4,?_⟩⟩;have e1:decide (((to:Nat):Int)<0)=false:=decide_eq_false oM;rw[e1,pq,Ze1];refine⟨λhq=>d2 b0 a5 (b6 ?_),λhq=>?_⟩
    .rw[a8,if_neg (λhc=>by rw[decide_eq_true hc]at hq;cases hq)]
    rw[if_pos (by simpa using hq)]at a8;refine⟨c7,⟨b4,oM,oM⟩,_,lm,λg1=>?_,λg1=>?_⟩
    .rw[if_pos (by rw[dt c4,g1])]at a8;refine⟨e.to,a7.ldc.mid (k:=1) (r:=[]) rfl,c7,⟨b4,oM,oM⟩,?_⟩;rw[ec];refine(c9.ext (c6.trans a6)).set a0.size c4 b4 λm9 k5 n8 i9 h3=>newS.intro λo4 q4 g6 h9 _ _=>?_;have e7:Ext w4 m9:=k5.ext a0 i9;refine(h3.ext g6).push (e7.trans g6).size (x:=(to:Int)) (h9.ldc.pre (r:=[]) rfl) (by rw[I9,fx];omega) λr n0 e8 h4=>d4 _ a8 r n0 ((e7.trans g6).trans' e8) ?_;have e2:Ca ((t'.rest++[to]).drop (n+1))=Ca (t'.rest.drop (n+1))++[(to:Int)]:=by rw[ky j5];unfold Ca;rw[fq];rfl
     rw[e2];exact h4
    .rw[if_neg (by rw[dt c4,eu];exact g1)]at a8;refine⟨e.to,a7.ldc.mid (k:=1) (r:=[]) rfl,λg2=>?_,λg2=>?_⟩
     .rw[if_pos (by rw[dt c4,g2])]at a8;exact d4 _ a8 a9 b0 a0 (c9.ext (c6.trans a6))
     .rw[if_neg (by rw[dt c4,eu];exact g2)]at a8;exact d2 b0 a5 (b6 a8)
  .have c3:j=es.length:=oM;subst c3;rw[li]at hE;rw[hE]at b5;exact m2 f a9 m8 (mz _) ⟨n+1,t',oM,j5,c8,b5,d8,c9⟩
 .have d5:n=t.rest.length:=oM;obtain⟨f,rfl⟩:∃f',f=f'+1:=⟨f - 1,oM⟩;rw[UK (il oM)]at b5;exact h0 m t.m w9 (c5.trans x9) hT hG b5 (hW.own.lowr c5.size)
structure NodeGood(k i:Nat)(x:Node):Prop where
 head:if i=0 then x.key=rootNode.key else Af x.name=true/\x.v.may=true
 node:NodeLk k x
def NE:LockOk g↔(1<=g.length/\g.length<=128)/\∀i (h:i<g.length),NodeGood g.length i g[i]:=by
 constructor
 .intro h;refine⟨h.len,λi hi=>⟨?_,h.node _ (ff hi)⟩⟩;by_cases h0:i=0
  .subst h0;rw[if_pos rfl];obtain⟨x,h1,h2⟩:=h.root;rw[dt hi,eu]at h1;rw[h1];exact h2
  .rw[if_neg h0];exact h.name i _ (dt hi) h0
 .rintro⟨h1,h2⟩;refine⟨h1,⟨g[0],dt oM,by simpa using(h2 0 oM).head⟩,λi x hx h0=>?_,λx hx=>?_⟩
  .obtain⟨hi,rfl⟩:=fh.1 hx;have:=(h2 i hi).head;rw[if_neg h0]at this;exact this
  .obtain⟨i,hi,rfl⟩:=fp.1 hx;exact(h2 i hi).node
def Zhx{x:Node}{c:Nat}(hc:c=x.ctx.length):((Ai x.name ⟨#[]⟩&&((x.v.ma==0)&&((x.v.mi==0)&&((x.v.pa==0)&&true))))&&((c:Int)==0))=true↔x.key=rootNode.key:=by
 obtain⟨n,⟨p,q,r⟩,cx,ed⟩:=x;have hc:c=cx.length:=hc;subst hc;simp only[Node.key,rootNode,Prod.mk.injEq,Ver.mk.injEq,AH,dx,beq_iff_eq,and_true];constructor
 .rintro⟨⟨h1,h2,h3,h4⟩,h5⟩;exact⟨h1,⟨h2,h3,h4⟩,fj oM⟩
 .rintro⟨h1,⟨h2,h3,h4⟩,h5⟩;exact⟨⟨h1,h2,h3,h4⟩,by rw[h5];rfl⟩
def Zds(hs:SlR nodeE w S s g)(hR:∀(b:Bool) w',Ext w w'->(b=true↔LockOk g)->R b w'):SE.KF s w R:=by
 unfold SE.KF;have d0:=hs.len;have a7:∀w',Ext w w'-> ¬LockOk g->R false w':=λw' hx h=>hR false w' hx ⟨nO,λhf=>absurd hf h⟩;refine newS.intro λa w1 x1 a6 _ _=>⟨s,a6.ldc.pre (r:=[]) rfl,bound ⟨s,λ_=>a6.ldc.pre (r:=[]) rfl,λhc=>a7 w1 x1 λhF=>?_,λhc=>?_⟩⟩
 .obtain⟨q1,q2⟩:=hF.len;rw[decide_eq_false oM,decide_eq_false oM]at hc;cases hc
 simp only[gb,decide_eq_false_iff_not]at hc;refine⟨s,a6.ldc.pre (r:=[]) rfl,?_⟩;refine loop1.up hs.max (λi w'=>Ext w1 w'/\∀j (hj:j<g.length),j<i->NodeGood g.length j g[j]) ⟨Ext.refl _,λj _ h=>by omega⟩ λi w3 d1 hi ⟨x3,hI⟩ hn=>⟨λc5=>?_,λc9=>?_⟩
 .have a9:i<g.length:=oM;obtain⟨ad,c,e,ha,c6,b5,b9,c4⟩:=C6 hs a9;have b8:=b5.len;have b6:=x1.trans x3;have a8:∀w',Ext w w'-> ¬NodeGood g.length i g[i]->R false w':=λw' hx h=>a7 w' hx λhF=>h ((NE.1 hF).2 i a9);refine⟨ad,⟨ha,oM,c5⟩,_,_,_,_,_,_,c4 _ b6,newS.set rfl λa5 w5 x5 a4 _=>⟨_,a4.at0 xR rfl,?_⟩⟩;refine SE.CA.go (scanName_se c6 λw6 x6=>⟨_,rfl,_,_,_,λ_=>a4.at1 (k:=1) x6 rfl,?_⟩);refine gCall.intro g[i].v.may (λ_ q hq=>SE.Ek.go (H1 (v:=g[i].v) λw7 x7=>⟨_,rfl,hq w7 x7⟩)) λd2 w7 x7 b7=>join.named λJ hJ=>?_;have a0:=x6.trans x7;have c8:=b6.trans (x5.trans a0);have b4:∀b w8,Ext w7 w8->(b=true↔if i=0 then g[i].key=rootNode.key else Af g[i].name=true/\g[i].v.may=true)->J b w8:=λb w8 x8 hb=>by
   rw[hJ];have b0:=c8.trans x8;refine bound ⟨_,_,_,_,c,e,λ_=>a4.at0 (r:=[]) (a0.trans x8) rfl,s,λ_=>a6.at0 (r:=[]) (x3.trans (x5.trans (a0.trans x8))) rfl,?_⟩;refine gCall.holds (λt=>t=true↔NodeLk g.length g[i]) (λ_ q hq=>SE.KH.go (Zdt (x:=g[i]) (k:=g.length) oM (b5.ext b0) (b9.ext b0) λb w9 x9 hb=>⟨b,rfl,hq b w9 x9 hb⟩)) λc7 w9 x9 b2=>⟨λh=>?_,λh=>?_⟩
   .refine a8 w9 (b0.trans x9) λhF=>?_;have h1:=hb.2 hF.head;subst h1;rw[(b2 rfl).2 hF.node]at h;cases h
   .have h1:b=true:=by
     cases b with
     |true=>rfl
     |false=>cases h
    subst h1;have h2:c7=true:=by simpa using h
    refine hn a9 w9 ⟨x3.trans (x5.trans (a0.trans (x8.trans x9))),λj hj c3=>?_⟩;obtain h'|h':=ik.1 c3
    .exact hI j hj h'
    .subst h';exact⟨hb.1 rfl,(b2 rfl).1 h2⟩
  refine⟨λh0=>?_,λh0=>?_⟩
  .have h0:i=0:=oM;refine⟨_,a4.at0 a0 rfl,bound ⟨_,_,_,λ_=>a4.at1 (k:=1) a0 rfl,bound ⟨c,λ_=>a4.at1 (k:=4) a0 rfl,?_⟩⟩⟩;refine b4 _ w7 xR ?_;rw[if_pos h0];exact Zhx b8
  .have h0:i≠0:=oM;refine b4 _ w7 xR ?_;rw[if_neg h0];cases hM:Af g[i].name with
   |false=>simp
   |true=>rw[b7 hM];simp
 .exact hR true w3 (x1.trans x3) ⟨λ_=>NE.2 ⟨⟨oM,oM⟩,λi hi=>hI i hi oM⟩,λ_=>rfl⟩
def newS.setT{zs:LV}{t:TypeId}{k:Addr->Wp}(hl:cs.length=zs.length)(h:∀a w',Ext w w'->BoxT t w' a cs->a.block=w.heap.size->k a w'):newS w zs t λa w1=>stw w1 a cs λw2=>k a w2:=
 newS.introT λa w1 x1 ha a4 a5=>stw0.introT ha hl λw2 b2 hz a0=>h a w2 (b2.ext x1 oM) a0 a4
def Ny{α:Type}{f:α->LU}{c:Nat}:∀{l:List α},(∀x∈l,(f x).length<=c)->(l.flatMap f).length<=c*l.length
 | [],_=>by simp
 |x::l,h=>by have h1:=h x (.head _);have h2:=Ny (l:=l) λy hy=>h y (.tail _ hy);rw[List.flatMap_cons,du,fl,Nat.mul_add];omega
def Vx{p:Pin}(h:Af p.name=true):(F3 p).length<=40:=by have h1:=CG h;have h2:=Dz p.v;unfold F3 W7;simp only[du,fl,ia];omega
def TF{e:Edge}{k:Nat}(h:Af e.name=true/\1<=e.to/\e.to<(k:Int))(hk:k<=128):(FO e).length<=40:=by have h1:=CG h.1;have h2:=DC (n:=e.to) oM oM;unfold FO W6;simp only[du,fl,ia];omega
def Uj{x:Node}(h:i≠0->Af x.name=true):(DT i x).length<=40:=by
 unfold DT;by_cases h0:i=0
 .rw[if_pos h0];decide
 .rw[if_neg h0];have h1:=CG (h h0);have h2:=Dz x.v;unfold Ov;simp only[du,fl,ia];omega
def Ze8{k:Nat}{x:Node}(h:NodeGood k i x)(hk:k<=128):(Hd i x).length<=10280:=by
 have h0:=Uj (i:=i) (x:=x) λh0=>by have:=h.head;rw[if_neg h0]at this;exact this.1
 have h1:=Ny (f:=F3) (c:=40) (l:=x.ctx) λp hp=>Vx (h.node.pin p hp).1;have h2:=Ny (f:=FO) (c:=40) (l:=x.edges) λe he=>TF (h.node.edge e he) hk;have h3:=h.node.ctxN;have h4:=h.node.edgesN;unfold Hd;simp only[du];omega
def U8{k:Nat}(hk:k<=128):∀(l:LN)(i:Nat),(∀j (h:j<l.length),NodeGood k (i+j) l[j])->(CQ i l).length<=10280*l.length
 | [],_,_=>by simp[CQ]
 |x::l,i,h=>by
  have h1:=Ze8 (i:=i) (x:=x) (k:=k) (by have:=h 0 sI;simpa using this) hk;have h2:=U8 hk l (i+1) λj hj=>by have:=h (j+1) (by simpa using hj);rw[show i+1+j=i+(j+1) by omega];exact this
  rw[CQ,du,fl,Nat.mul_add];omega
open Classical in
noncomputable def KD (g:LN):Int:=if LockOk g then 0 else 33
open Classical in
noncomputable def KE (g:LN):Bs:=if LockOk g then B (I3 g)else⟨#[]⟩
def Qf(h:LockOk g):KD g=0:=by unfold KD;rw[if_pos h]
def U7(h: ¬LockOk g):KD g=33:=by unfold KD;rw[if_neg h]
def UA(h:LockOk g):KE g=B (I3 g):=by unfold KE;rw[if_pos h]
def Zdu(h: ¬LockOk g):KE g=⟨#[]⟩:=by unfold KE;rw[if_neg h]
def U6(h:LockOk g)(i:Nat):(tLock++CQ 0 (g.take i)).length<=1400000:=by
 obtain⟨h1,h2⟩:=NE.1 h;have h3:=U8 h1.2 (g.take i) 0 λj hj=>by rw[fb]at hj;rw[jh,ke];exact h2 j oM
 rw[fb]at h3;have h4:tLock.length=5:=rfl;rw[du,h4];omega
def Ub{α:Type}{f:α->LU}{c:Nat}{l:List α}(h:∀x∈l,(f x).length<=c)(hn:l.length<=n)(i:Nat):((l.take i).flatMap f).length<=c*n:=by have h1:=Ny (f:=f) (c:=c) (l:=l.take i) λx hx=>h x (kl hx);rw[fb]at h1;exact fe h1 (qa _ oM)
def Zdv{R:Bs->Int->Wp}(ht:Tab w)(hs:SlR nodeE w S s g)(hR:∀w',Ext w w'->R (KE g) (KD g) w'):SE.KG s w R:=by
 unfold SE.KG;have i9:=hs.len;refine newS.intro λa w1 x1 d9 _ _=>⟨s,d9.ldc.pre (r:=[]) rfl,?_⟩;refine SE.KF.go (Zds (hs.ext x1) λb w2 x2 hb=>⟨b,rfl,λh=>?_,λh=>?_⟩)
 .have hn: ¬LockOk g:=λhF=>by rw[hb.2 hF]at h;cases h
  have hr:=hR w2 (x1.trans x2);rw[U7 hn,Zdu hn]at hr;exact hr
 have hF:LockOk g:=hb.1 (by simpa using h);obtain⟨e6,d1⟩:=NE.1 hF;rw[Qf hF,UA hF]at hR;have b0:=x1.trans x2;intro ab w3 f8 f0;subst f8;have x3:Ext w2 w3:=f0▸Ext.alloc _ _;have f5:Bld w2.heap.size [] w3:=f0▸MX w2;have e0:(bm #[108,111,99,107,10])=B tLock:=rfl;rw[e0];refine HH (m:=tLock) f5 rfl x3 dC λw4 n4 x4 f6=>⟨_,_,rfl,?_⟩;refine⟨s,d9.at0 (r:=[]) (x2.trans x4) rfl,?_⟩;refine loop1.up hs.max (λi w'=>Ext w2 w'/\Bld w2.heap.size (tLock++CQ 0 (g.take i)) w') ⟨x4,f6⟩ λi w5 j5 hi ⟨x5,b5⟩ hn=>⟨λg3=>?_,λi7=>?_⟩
 .have a5:i<g.length:=oM;obtain⟨ad,c,e,ha,j0,c9,d0,g1⟩:=C6 hs a5;have hG:=d1 i a5;have l0:=U6 hF i;rw[Zdw a5]at hn;generalize tLock++CQ 0 (g.take i)=t0 at*;generalize g[i]=x at*;have i5:=c9.len;have i6:=d0.len;have l1:=Uj (i:=i) (x:=x) λh0=>by have:=hG.head;rw[if_neg h0]at this;exact this.1
  have e9:=λp hp=>Vx (hG.node.pin p hp).1;have b9:=λe he=>TF (hG.node.edge e he) e6.2;have lc:=Ub (f:=F3) e9 hG.node.ctxN;have le:=Ub (f:=FO) b9 hG.node.edgesN;refine⟨ad,⟨ha,oM,g3⟩,_,_,_,_,_,_,g1 _ (b0.trans x5),newS.setT rfl λa6 w6 x6 b6 h4=>join.named λJ hJ=>?_⟩;have i4:=b5.lt;have d3:=x5.trans x6;have c8:∀w7,Ext w2 w7->BoxT 72 w7 a6 [.string x.name,vi x.v.ma,vi x.v.mi,vi x.v.pa,c.v,e.v]->Bld w2.heap.size (t0++DT i x) w7->J w7:=λw7 x7 e2 c6=>by
   rw[hJ];refine⟨c,e2.box.at1 (k:=4) xR rfl,?_⟩;refine loop1.up c9.max (λj w'=>Ext w2 w'/\BoxT 72 w' a6 [.string x.name,vi x.v.ma,vi x.v.mi,vi x.v.pa,c.v,e.v]/\Bld w2.heap.size ((t0++DT i x)++(x.ctx.take j).flatMap F3) w') ⟨x7,e2,by simpa using c6⟩ λj w8 h9 hj ⟨x8,e3,c7⟩ g4=>⟨λe7=>?_,λh6=>?_⟩
   .have a0:j<x.ctx.length:=oM;obtain⟨f4,f7,_,h8,e5⟩:=Dg c9 a0;have g6:=hG.node.pin _ (ff a0);have g2:=e9 _ (ff a0);have q1:=CG g6.1;have q2:=Dz x.ctx[j].v;have f1:=b0.trans x8;have j1:=lc j;refine⟨f4,⟨f7,oM,e7⟩,_,_,_,_,e5 _ f1,newS.set rfl λa9 w9 x9 e4 h5=>bnd.drew λg9 b2=>⟨_,e4.at0 b2 rfl,?_⟩⟩;have c3:=x9.trans b2;rw[Ew x.ctx[j].name];simp only[Dt,B6,AX];refine⟨by rw[Ad,AL,Ar];simp;omega,by rw[Ad,AL,Ar];simp;omega,_,_,_,e4.at1 (k:=1) (r:=[]) b2 rfl,callX.intro (SE.DJ.go (versPrint_se (v:=x.ctx[j].v) (ht.ext (f1.trans c3)) λh1 a7=>⟨a7,_,rfl,?_⟩))⟩;simp only[B6,AX];refine⟨by rw[Ad,Ad,Ar];simp;omega,by rw[Ad,AL,Ar];simp;omega,?_⟩;have b4:=c3.trans a7;refine J5 (m:=F3 x.ctx[j]) (c7.ext b4) rfl (x8.trans b4) (by simp only[du];omega) λh2 j3 b7 d5 keep=>⟨_,_,rfl,g4 a0 _ ⟨b7,keep _ _ _ dC oM (e3.ext b4),?_⟩⟩;rw[Uc a0,<-fg];exact d5
   have a0:j=x.ctx.length:=oM;rw[a0,eh]at c7;have g8:=lc x.ctx.length;rw[eh]at g8;refine⟨e,e3.box.at1 (k:=5) (r:=[]) xR rfl,?_⟩;refine loop1.up d0.max (λj w'=>Ext w2 w'/\Bld w2.heap.size (((t0++DT i x)++x.ctx.flatMap F3)++(x.edges.take j).flatMap FO) w') ⟨x8,by simpa using c7⟩ λk w9 i2 hk ⟨x9,a8⟩ g5=>⟨λe8=>?_,λh7=>?_⟩
   .have a4:k<x.edges.length:=oM;obtain⟨d4,d8,g7,d2⟩:=Dn d0 a4;have g0:=hG.node.edge _ (ff a4);have g2:=b9 _ (ff a4);have q1:=CG g0.1;have q2:=DC (n:=x.edges[k].to) oM oM;have f2:=b0.trans x9;have j2:=le k;refine⟨d4,⟨d8,oM,e8⟩,_,_,d2 _ f2,newS.set rfl λi3 g9 b2 b8 f9=>bnd.drew λh1 a7=>⟨_,b8.at0 a7 rfl,?_⟩⟩;have c4:=b2.trans a7;rw[Ew x.edges[k].name];simp only[Dt,B6,AX];refine⟨by rw[Ad,AL,Ar];simp;omega,by rw[Ad,AL,Ar];simp;omega,_,b8.at1 (k:=1) (r:=[]) a7 rfl,callX.intro (NA (n:=x.edges[k].to) oM oM (ht.ext (f2.trans c4)) λh2 b7=>⟨b7,_,rfl,?_⟩)⟩;simp only[B6,AX];refine⟨by rw[Ad,Ad,Ar];simp;omega,by rw[Ad,AL,Ar];simp;omega,?_⟩;have c5:=c4.trans b7;refine J5 (m:=FO x.edges[k]) (a8.ext c5) rfl (x9.trans c5) (by simp only[du];omega) λj6 j4 h3 d6 _=>⟨_,_,rfl,g5 a4 _ ⟨h3,?_⟩⟩;rw[Uc a4,<-fg];exact d6
   .have a4:k=x.edges.length:=oM;rw[a4,eh]at a8;refine hn a5 _ ⟨x9,?_⟩;have e:t0++Hd i x=((t0++DT i x)++x.ctx.flatMap F3)++x.edges.flatMap FO:=(by unfold Hd;simp only[fg]);rw[e];exact a8
  have d7:=b5.ext x6;refine⟨λh0=>?_,λh0=>?_⟩
  .have h0:i=0:=oM;have e1:(bm #[114,111,111,116,10])=B (DT i x):=(by rw[h0];rfl);rw[e1];exact J5 (m:=DT i x) d7 rfl d3 oM λw7 n7 x7 c6 keep=>⟨_,_,rfl,c8 w7 x7 (keep _ _ _ dC oM b6) c6⟩
  .have h0:i≠0:=oM;have hh:=hG.head;rw[if_neg h0]at hh;have q1:=CG hh.1;have q2:=Dz x.v;refine bnd.drew λw7 x7=>⟨_,b6.box.at0 x7 rfl,?_⟩;rw[Ew x.name];simp only[Dt,B6,AX];refine⟨by rw[Ad,AL,Ar];simp;omega,by rw[Ad,AL,Ar];simp;omega,_,_,_,b6.box.at1 (k:=1) x7 rfl,callX.intro (SE.DJ.go (versPrint_se (v:=x.v) (ht.ext (b0.trans (d3.trans x7))) λw8 x8=>⟨x8,_,rfl,?_⟩))⟩;simp only[B6,AX];refine⟨by rw[Ad,Ad,Ar];simp;omega,by rw[Ad,AL,Ar];simp;omega,?_⟩;have e1:DT i x=(((Ov++x.name.toList)++[32])++AG x.v)++[10]:=(by unfold DT;rw[if_neg h0]);rw[e1]at c8 l1;exact J5 (m:=(((Ov++x.name.toList)++[32])++AG x.v)++[10]) (d7.ext (x7.trans x8)) rfl (d3.trans (x7.trans x8)) oM λw9 n9 x9 a8 keep=>⟨_,_,rfl,c8 w9 x9 (keep _ _ _ dC oM (b6.ext (x7.trans x8))) a8⟩
 .have a5:i=g.length:=oM;rw[a5,eh]at b5;exact MW b5 rfl x5 λw9 x9=>⟨_,rfl,hR _ (b0.trans x9)⟩
def UL{T:List Dir}{g:LN}(hG:Dl g):∀(f n:Nat){s:MapS}{M:List Int},MapI T g s->ED T g f n s=some M->M.length=T.length/\∀k∈M,-1<=k/\k<(g.length:Int)
 |0,n,s,M,_,h=>by cases h
 |f+1,n,s,M,hI,h=>by
  cases h1:s.rest[n]? with
  |none=>rw[UK h1]at h;cases h;refine⟨hI.len,λk hk=>?_⟩;obtain⟨i,hi,e⟩:=fp.1 hk;exact hI.low i k (by rw[dt hi,e])
  |some i=>
   cases h2:s.m[i]? with
   |none=>rw[ED,h1]at h;dsimp only at h;rw[h2]at h;cases h
   |some k=>
    rw[UM h1 h2]at h;cases h3:EC T g i s (Az g k.toNat)with
    |none=>rw[h3]at h;cases h
    |some t=>
     rw[h3]at h;have a0:∀e∈Az g k.toNat,1<=e.to/\e.to<(g.length:Int):=λe he=>by
      unfold Az at he;cases hx:g[k.toNat]? with
      |none=>rw[hx]at he;cases he
      |some x=>rw[hx]at he;exact hG.2 x (gv hx) e he
     exact UL hG f (n+1) (hI.edges a0 h3).1 h
def Zeq{T:List Dir}(hT:TreeOk T)(hG:Dl g)(h:mapT T g=some M):M.length=T.length:=(UL hG _ _ (MapI.start (by have:=hT.len;omega) hG.1) h).1
structure PlacedS(T:List Dir)(g:LN):Prop where
 tree:TreeOk T
 to:Dl g
 map:mapT T g=some (T.map Dir.node)
 rise:RiseN (λd:Dir=>B (A5 d.path)) T
def PlacedS.e{T:List Dir}(h:PlacedS T g):DW T g=0:=Zek h.tree h.to h.map
def Zf7{T:List Dir}(hT:TreeOk T)(hG:Dl g)(hM:mapT T g=some M):PlacedS T g↔M=T.map Dir.node/\RiseN (λd:Dir=>B (A5 d.path)) T:=by
 constructor
 .intro h;have:=h.map;rw[hM,eu]at this;exact⟨this,h.rise⟩
 .rintro⟨h1,h2⟩;exact⟨hT,hG,by rw[hM,h1],h2⟩
def Vy{T:List Dir}{x:Dir}{m:Int}(hM:M.length=T.length)(hi:i<T.length)(hx:T[i]=x)(hm:M[i]=m)(hI:M.take i=(T.map Dir.node).take i)(h:m=x.node):M.take (i+1)=(T.map Dir.node).take (i+1):=by rw[dw oM,dw (by simpa using hi),hI,na,hm,hx,h]
def Zf8{e v:Sl}{T:List Dir}(ht:Tab w)(hS:Old S w)(hs:SlR dirE w S s T)(hg:SlR nodeE w Q u g)(hb:∀d∈T,d.path.length<=4000000000000)
  (hR:∀(b:Bool) w',Ext w w'->(b=true↔PlacedS T g)->R b w'):SE.K3 d e o v u s pr w R:=by
 unfold SE.K3;have d8:=hs.len;have hm:=hs.max;have a5:∀w',Ext w w'-> ¬PlacedS T g->R false w':=λw' hx h=>hR false w' hx ⟨nO,λhf=>absurd hf h⟩;refine newS.intro λa w1 x1 a9 _ _=>⟨s,a9.at1 (k:=5) xR rfl,u,a9.at1 (k:=4) xR rfl,?_⟩;refine SE.Mz.go (Zlh (ht.ext x1) (hS.ext x1.size) (hs.ext x1) (hg.ext x1) hb (λm M w2 x2 hT hG hM own=>⟨m,0,rfl,λh=>absurd rfl h,λ_=>?_⟩) λw2 x2 c4=>⟨Sl.nil,_,rfl,λ_=>a5 w2 (x1.trans x2) λhF=>c4 hF.e,λh=>absurd c4 h⟩);have c5:=x1.trans x2;have a8:=Zeq hT hG hM;have d7:=own.len;have a6:=Zf7 hT hG hM;refine⟨s,a9.at1 (k:=5) x2 rfl,?_⟩;refine loop1.up hm (λi w'=>Ext w2 w'/\M.take i=(T.map Dir.node).take i/\RiseN (λd:Dir=>B (A5 d.path)) (T.take i)) ⟨Ext.refl _,rfl,.nil⟩ λi w3 d9 hi ⟨x3,hI,hK⟩ hn=>⟨λd3=>?_,λd6=>?_⟩
 .have a0:i<T.length:=oM;obtain⟨ad,ps,dd,ee,oo,ha,_,_,hp,_,_,_,hc⟩:=dirEl hs a0;obtain⟨c7,d5,_,_,_,d0,_,_,d4,_,_,_,d2⟩:=dirEl hs (n:=i - 1) oM;have d1:=hb _ (ff a0);have b9:=hb _ (ff (show i - 1<T.length by omega));obtain⟨c8,b7,c3⟩:=PX own (i:=i) oM;have c6:=c5.trans x3;refine⟨ad,⟨ha,oM,d3⟩,ps,T[i].pack.name,T[i].pack.v.ma,T[i].pack.v.mi,T[i].pack.v.pa,dd,ee,oo,T[i].node,by rw[ec];exact hc _ c6,newS.set rfl λa4 w4 x4 b8 _=>bnd.drew λw5 x5=>⟨c8,⟨b7,oM,oM⟩,M[i],by rw[ec];exact c3 _ (x3.trans (x4.trans x5)),_,b8.at1 (k:=8) (r:=[]) x5 rfl,bound (bound ?_)⟩⟩;have b0:=x4.trans x5;have a7:=c6.trans b0;have c9:(M[i]==T[i].node)=decide (M[i]=T[i].node):=rfl;rw[c9];by_cases h0:i=0
  .subst h0;refine⟨s,λh=>by simp at h,ad,λh=>by simp at h,ps,λh=>by simp at h,ps,λh=>by simp at h,?_⟩;refine gCall.intro ⟨#[]⟩ (λh=>by simp at h) λb4 w6 x6 h6=>gCall.intro ⟨#[]⟩ (λh=>by simp at h) λb5 w7 x7 h7=>?_;have e1:((!decide (M[0]=T[0].node))||(decide ((0:Int)<((0:Nat):Int))&& !Ao b4 b5))= !decide (M[0]=T[0].node):=by simp
   rw[e1];have b6:=a7.trans (x6.trans x7);refine⟨λh=>a5 w7 b6 λhF=>?_,λh=>hn a0 w7 ⟨x3.trans (b0.trans (x6.trans x7)),Vy a8 a0 rfl rfl hI (by simpa using h),QQ⟩⟩;have h1:=(a6.1 hF).1;simp[h1]at h
  .have h1:1<=i:=oM;rw[Xh h1 a0 hm,decide_eq_true (show(0:Int)<(i:Int) by omega)];refine⟨s,λ_=>a9.at1 (k:=5) (x2.trans (x3.trans b0)) rfl,c7,λ_=>⟨d0,oM,oM⟩,d5,λ_=>by rw[ec];exact(d2 _ a7).pre rfl,ps,λ_=>b8.at0 x5 rfl,?_⟩;refine gCall.intro (B (A5 T[i - 1].path)) (λ_ q hq=>callX.intro (SE.Eh.go (Hy (d4.ext a7) b9 λw6 x6=>⟨x6,_,rfl,hq w6 x6⟩))) λb4 w6 x6 h6=>?_;refine gCall.intro (B (A5 T[i].path)) (λ_ q hq=>SE.Eh.go (Hy (hp.ext (a7.trans x6)) d1 λw7 x7=>⟨_,rfl,hq w7 x7⟩)) λb5 w7 x7 h7=>?_;have b6:=a7.trans (x6.trans x7);have b2:((!decide (M[i]=T[i].node))||(true&& !Ao b4 b5))=false↔M[i]=T[i].node/\Ao (B (A5 T[i - 1].path)) (B (A5 T[i].path))=true:=by
    by_cases hc:M[i]=T[i].node
    .rw[decide_eq_true hc]at h6 h7 ⊢;rw[h6 rfl,h7 rfl];simp[hc]
    .rw[decide_eq_false hc];simp[hc]
   refine⟨λh=>a5 w7 b6 λhF=>?_,λh=>?_⟩
   .obtain⟨k1,k2⟩:=a6.1 hF;rw[b2.2 ⟨by simp[k1],?_⟩]at h
    .cases h
    .cases hb:Ao (B (A5 T[i - 1].path)) (B (A5 T[i].path))with
     |true=>rfl
     |false=>exact absurd k2 (QP (f:=λd:Dir=>B (A5 d.path)) h1 a0 hb)
   .obtain⟨k1,k2⟩:=b2.1 h;exact hn a0 w7 ⟨x3.trans (b0.trans (x6.trans x7)),Vy a8 a0 rfl rfl hI k1,QR (f:=λd:Dir=>B (A5 d.path)) h1 a0 hK k2⟩
 .have a0:i=T.length:=oM;rw[a0,eh]at hK;rw[a0,<-a8,eh,a8,<-dz (f:=Dir.node),eh]at hI;exact hR true w3 (c5.trans x3) ⟨λ_=>a6.2 ⟨hI,hK⟩,λ_=>rfl⟩
structure SttOk(s:Stt):Prop where
 mani:AV s.m=true
 lock:LockOk s.g
 placed:PlacedS s.T s.g
end Go.Hal
namespace Go.Hal
def B8:JobC:=⟨⟨[],[],[],[]⟩,[],false,false⟩
def Ui(m:Mani)(n:Bs):Bool:=AK m.deps n||(AK m.dev n||AK m.opt n)
def Pc(m:Mani)(pins:LP)(pr:Bool)(x:StepC)(r:Option (List Span)):Int×JobC:=
 if x.op=2 then(0,⟨m,[],false,false⟩)
 else if x.op=3 then(if Af x.name=false then(23,B8)else match r with
  |none=>(21,B8)
  |some l=>if x.kind<0\/2<x.kind then(1,B8)else if AV (D6 m x.kind ⟨x.name,l⟩)=false then(26,B8)else(0,⟨D6 m x.kind ⟨x.name,l⟩,pins,true,pr&& !decide (x.kind=1)⟩))
 else if x.op=4 then(if Af x.name=false then(23,B8)else if Ui m x.name=false then(50,B8)else(0,⟨D7 m x.name,pins,true,pr⟩))
 else if x.op=5 then(if x.name=⟨#[]⟩then(0,⟨m,[],true,pr⟩)else if Af x.name=false then(23,B8)else if pins.any (Aw x.name)=false then(50,B8)else(0,⟨m,pins.filter (λp=>!Aw x.name p),true,pr⟩))
 else if x.op=6 then(0,⟨m,pins,false,pr⟩)
 else if x.op=7 then(0,⟨m,pins,true,true⟩)
 else if x.op=8 then(if Af x.name=false then(23,B8)else if x.range=⟨#[]⟩then(if AK m.over x.name=false then(50,B8)else(0,⟨⟨m.deps,m.dev,m.opt,Bk m.over x.name⟩,pins,true,pr⟩))else match r with
  |none=>(21,B8)
  |some l=>if AV ⟨m.deps,m.dev,m.opt,withD m.over ⟨x.name,l⟩⟩=false then(26,B8)else(0,⟨⟨m.deps,m.dev,m.opt,withD m.over ⟨x.name,l⟩⟩,pins,true,pr⟩))
 else(51,B8)
def AskR.eq{pins:LP}{x:StepC}{c:Int}{j:JobC}(h:AskR m pins pr x r c j):(Pc m pins pr x r).1=c/\(c=0->(Pc m pins pr x r).2=j):=by
 unfold Pc Ui;cases h with
 |install h=>rw[if_pos h];exact⟨rfl,λ_=>rfl⟩
 |addName h h1=>rw[if_neg oM,if_pos h,if_pos h1];exact⟨rfl,nO⟩
 |addRange h h1 h2=>rw[if_neg oM,if_pos h,if_neg (by rw[h1];decide),h2];exact⟨rfl,nO⟩
 |addKind h h1 h2 h3=>rw[if_neg oM,if_pos h,if_neg (by rw[h1];decide),h2];dsimp only;rw[if_pos h3];exact⟨rfl,nO⟩
 |addFull h h1 h2 h3 h4 h5=>rw[if_neg oM,if_pos h,if_neg (by rw[h1];decide),h2];dsimp only;rw[if_neg oM,if_pos h5];exact⟨rfl,nO⟩
 |add h h1 h2 h3 h4 h5=>rw[if_neg oM,if_pos h,if_neg (by rw[h1];decide),h2];dsimp only;rw[if_neg oM,if_neg (by rw[h5];decide)];exact⟨rfl,λ_=>rfl⟩
 |remName h h1=>rw[if_neg oM,if_neg oM,if_pos h,if_pos h1];exact⟨rfl,nO⟩
 |remWant h h1 h2=>rw[if_neg oM,if_neg oM,if_pos h,if_neg (by rw[h1];decide),if_pos h2];exact⟨rfl,nO⟩
 |rem h h1 h2=>rw[if_neg oM,if_neg oM,if_pos h,if_neg (by rw[h1];decide),if_neg (by rw[h2];decide)];exact⟨rfl,λ_=>rfl⟩
 |updAll h h1=>rw[if_neg oM,if_neg oM,if_neg oM,if_pos h,if_pos h1];exact⟨rfl,λ_=>rfl⟩
 |updName h h1 h2=>rw[if_neg oM,if_neg oM,if_neg oM,if_pos h,if_neg h1,if_pos h2];exact⟨rfl,nO⟩
 |updWant h h1 h2 h3=>rw[if_neg oM,if_neg oM,if_neg oM,if_pos h,if_neg h1,if_neg (by rw[h2];decide),if_pos h3];exact⟨rfl,nO⟩
 |upd h h1 h2 h3=>rw[if_neg oM,if_neg oM,if_neg oM,if_pos h,if_neg h1,if_neg (by rw[h2];decide),if_neg (by rw[h3];decide)];exact⟨rfl,λ_=>rfl⟩
 |dedupe h=>rw[if_neg oM,if_neg oM,if_neg oM,if_neg oM,if_pos h];exact⟨rfl,λ_=>rfl⟩
 |prune h=>rw[if_neg oM,if_neg oM,if_neg oM,if_neg oM,if_neg oM,if_pos h];exact⟨rfl,λ_=>rfl⟩
 |ovName h h1=>rw[if_neg oM,if_neg oM,if_neg oM,if_neg oM,if_neg oM,if_neg oM,if_pos h,if_pos h1];exact⟨rfl,nO⟩
 |ovWant h h1 h2 h3=>rw[if_neg oM,if_neg oM,if_neg oM,if_neg oM,if_neg oM,if_neg oM,if_pos h,if_neg (by rw[h1];decide),if_pos h2,if_pos h3];exact⟨rfl,nO⟩
 |ovNone h h1 h2 h3=>rw[if_neg oM,if_neg oM,if_neg oM,if_neg oM,if_neg oM,if_neg oM,if_pos h,if_neg (by rw[h1];decide),if_pos h2,if_neg (by rw[h3];decide)];exact⟨rfl,λ_=>rfl⟩
 |ovRange h h1 h2 h3=>rw[if_neg oM,if_neg oM,if_neg oM,if_neg oM,if_neg oM,if_neg oM,if_pos h,if_neg (by rw[h1];decide),if_neg h2,h3];exact⟨rfl,nO⟩
 |ovFull h h1 h2 h3 h4=>rw[if_neg oM,if_neg oM,if_neg oM,if_neg oM,if_neg oM,if_neg oM,if_pos h,if_neg (by rw[h1];decide),if_neg h2,h3];dsimp only;rw[if_pos h4];exact⟨rfl,nO⟩
 |ov h h1 h2 h3 h4=>rw[if_neg oM,if_neg oM,if_neg oM,if_neg oM,if_neg oM,if_neg oM,if_pos h,if_neg (by rw[h1];decide),if_neg h2,h3];dsimp only;rw[if_neg (by rw[h4];decide)];exact⟨rfl,λ_=>rfl⟩
 |op h=>rw[if_neg oM,if_neg oM,if_neg oM,if_neg oM,if_neg oM,if_neg oM,if_neg oM];exact⟨rfl,nO⟩
def AskR.one{pins:LP}{x:StepC}{c d:Int}{j k:JobC}(h:AskR m pins pr x r c j)(h':AskR m pins pr x r d k):c=d/\(c=0->j=k):=by obtain⟨h1,h2⟩:=h.eq;obtain⟨k1,k2⟩:=h'.eq;exact⟨h1.symm.trans k1,λe=>(h2 e).symm.trans (k2 (k1.symm.trans (h1.trans e)))⟩
structure AnsC where
 code:Int
 dec:Int
 nodes:Int
 dirs:Int
def Er(D N Di P:Int):Prop:=1<=D/\D<=4096/\1<=N/\N<=128/\Fd Di P
inductive DoR (L:List Pack) (s:Stt) (x:StepC) (r:Option (List Span)) (D N Di P:Int):AnsC->Stt->Prop
 |arg: ¬(Er D N Di P/\SttOk s)->DoR L s x r D N Di P ⟨1,0,0,0⟩ s
 |ask {pins:LP} {c:Int} {j:JobC}:Er D N Di P->SttOk s->PinsAre s.g pins->AskR s.m pins s.pruned x r c j->c≠0->DoR L s x r D N Di P ⟨c,0,0,0⟩ s
 |find {pins:LP} {j:JobC}:Er D N Di P->SttOk s->PinsAre s.g pins->AskR s.m pins s.pruned x r 0 j->(AF L j.m (!j.pruned) j.pins D N).code≠0->DoR L s x r D N Di P ⟨(AF L j.m (!j.pruned) j.pins D N).code,0,0,0⟩ s
 |place {pins:LP} {j:JobC} {c:Int} {T:List Dir}:Er D N Di P->SttOk s->PinsAre s.g pins->AskR s.m pins s.pruned x r 0 j->(AF L j.m (!j.pruned) j.pins D N).code=0->
   PlaceR (AF L j.m (!j.pruned) j.pins D N).ns (Df L (AF L j.m (!j.pruned) j.pins D N).ns) (if j.keep then some s.T else none) Di P c T->c≠0->DoR L s x r D N Di P ⟨c,0,0,0⟩ s
 |ok {pins:LP} {j:JobC} {T:List Dir}:Er D N Di P->SttOk s->PinsAre s.g pins->AskR s.m pins s.pruned x r 0 j->(AF L j.m (!j.pruned) j.pins D N).code=0->
   PlaceR (AF L j.m (!j.pruned) j.pins D N).ns (Df L (AF L j.m (!j.pruned) j.pins D N).ns) (if j.keep then some s.T else none) Di P 0 T->
   DoR L s x r D N Di P ⟨0,(AF L j.m (!j.pruned) j.pins D N).dec,((AF L j.m (!j.pruned) j.pins D N).ns.length:Int),(T.length:Int) - 1⟩ ⟨j.m,(AF L j.m (!j.pruned) j.pins D N).ns,T,j.pruned⟩
def DoR.one{s:Stt}{x:StepC}{Di P:Int}{a b:AnsC}{t u:Stt}(h:DoR L s x r D N Di P a t)(k:DoR L s x r D N Di P b u):a=b/\t=u:=by
 cases h with
 |arg h1=>
  cases k with
  |arg=>exact⟨rfl,rfl⟩
  |ask k1 k2=>exact absurd ⟨k1,k2⟩ h1
  |find k1 k2=>exact absurd ⟨k1,k2⟩ h1
  |place k1 k2=>exact absurd ⟨k1,k2⟩ h1
  |ok k1 k2=>exact absurd ⟨k1,k2⟩ h1
 |ask h1 h2 h3 h4 h5=>
  cases k with
  |arg k1=>exact absurd ⟨h1,h2⟩ k1
  |ask k1 k2 k3 k4 k5=>have e:=h3.one k3;subst e;rw[(h4.one k4).1];exact⟨rfl,rfl⟩
  |find k1 k2 k3 k4=>have e:=h3.one k3;subst e;exact absurd (h4.one k4).1 h5
  |place k1 k2 k3 k4=>have e:=h3.one k3;subst e;exact absurd (h4.one k4).1 h5
  |ok k1 k2 k3 k4=>have e:=h3.one k3;subst e;exact absurd (h4.one k4).1 h5
 |find h1 h2 h3 h4 h5=>
  cases k with
  |arg k1=>exact absurd ⟨h1,h2⟩ k1
  |ask k1 k2 k3 k4 k5=>have e:=h3.one k3;subst e;exact absurd (h4.one k4).1.symm k5
  |find k1 k2 k3 k4=>have e:=h3.one k3;subst e;rw[(h4.one k4).2 rfl];exact⟨rfl,rfl⟩
  |place k1 k2 k3 k4 k5=>have e:=h3.one k3;subst e;rw[(h4.one k4).2 rfl]at h5;exact absurd k5 h5
  |ok k1 k2 k3 k4 k5=>have e:=h3.one k3;subst e;rw[(h4.one k4).2 rfl]at h5;exact absurd k5 h5
 |place h1 h2 h3 h4 h5 h6 h7=>
  cases k with
  |arg k1=>exact absurd ⟨h1,h2⟩ k1
  |ask k1 k2 k3 k4 k5=>have e:=h3.one k3;subst e;exact absurd (h4.one k4).1.symm k5
  |find k1 k2 k3 k4 k5=>have e:=h3.one k3;subst e;rw[<-(h4.one k4).2 rfl]at k5;exact absurd h5 k5
  |place k1 k2 k3 k4 k5 k6=>have e:=h3.one k3;subst e;have e:=(h4.one k4).2 rfl;subst e;rw[(h6.one k6).1];exact⟨rfl,rfl⟩
  |ok k1 k2 k3 k4 k5 k6=>have e:=h3.one k3;subst e;have e:=(h4.one k4).2 rfl;subst e;exact absurd (h6.one k6).1 h7
 |ok h1 h2 h3 h4 h5 h6=>
  cases k with
  |arg k1=>exact absurd ⟨h1,h2⟩ k1
  |ask k1 k2 k3 k4 k5=>have e:=h3.one k3;subst e;exact absurd (h4.one k4).1.symm k5
  |find k1 k2 k3 k4 k5=>have e:=h3.one k3;subst e;rw[<-(h4.one k4).2 rfl]at k5;exact absurd h5 k5
  |place k1 k2 k3 k4 k5 k6 k7=>have e:=h3.one k3;subst e;have e:=(h4.one k4).2 rfl;subst e;exact absurd (h6.one k6).1.symm k7
  |ok k1 k2 k3 k4 k5 k6=>have e:=h3.one k3;subst e;have e:=(h4.one k4).2 rfl;subst e;rw[(h6.one k6).2];exact⟨rfl,rfl⟩
structure ManS(w:Wd)(S:Nat->Prop)(d e o v:Sl)(m:Mani):Prop where
 d:SlR depE w S d m.deps
 e:SlR depE w S e m.dev
 o:SlR depE w S o m.opt
 v:SlR depE w S v m.over
def ManS.ext{e v:Sl}(h:ManS w S d e o v m)(hx:Ext w w'):ManS w' S d e o v m:=⟨h.d.ext hx,h.e.ext hx,h.o.ext hx,h.v.ext hx⟩
def ManS.mono{e v:Sl}(h:ManS w S d e o v m)(hs:∀b,S b->S' b):ManS w S' d e o v m:=⟨h.d.mono hs,h.e.mono hs,h.o.mono hs,h.v.mono hs⟩
open Go.Sort
def GQ{n:Bs}{R:Sl->Wp}(hS:Old S w)(hs:SlR depE w S s l)(hl:l.length<=1000000)(hR:∀t w',Ext w w'->DepO w' w.heap.size S t (Bk l n)->R t w'):SE.DQ s n w R:=by
 unfold SE.DQ;refine newS.intro λa w1 x1 a0 a8 _=>SE.LF.go (Y9 (hS.ext x1.size) (hs.ext x1) hl λt w2 x2 hd=>⟨t,rfl,?_⟩);obtain⟨z,hf,rfl,hz⟩:=hd;refine SE.LK.go (Zc (d:=λx=>Ai x.1 n) hf x2.size (by rw[dz]at hl ⊢;unfold Ab;omega) (λx hx w' k hb _ _ hk=>⟨_,_,rfl,enters_of func204 kR rfl,SE.Np.go ?_⟩) λt3 w3 b3 _ _ _ a5=>⟨t3,rfl,?_⟩)
 .unfold SE.Np;have a7:=x2.trans' hb;exact newS.intro λa2 w4 x4 a4 _ _=>⟨_,a4.at0 xR rfl,_,a0.at0 (a7.trans x4) rfl,hk w4 x4⟩
 .have a6:∀p∈z,Et w3 S p:=DepO.below hz b3 λb hb=>jd (hS b hb) x1.size;refine hR t3 w3 ((x1.trans x2).trans' (b3.mono x1.size)) ⟨z.filter λp=>!Ai p.1.1 n,?_,?_,λp hp=>a6 p (io.1 hp).1⟩
  .rw[UN Prod.fst (λx:Bm=>!Ai x.1 n)];exact a5.low x1.size
  .unfold Bk;rw[<-UN Prod.snd (λd:Dep=>!EA n d)];congr 1;refine List.filter_congr λp hp=>?_;rw[(hz p hp).1];unfold EA;congr 1;rw[gk,AH,decide_eq_true_iff]
def Nq{n:Bs}(hs:SlR depE w S s l)(hR:∀w',Ext w w'->R (AK l n) w'):SE.FP s n w R:=by
 unfold SE.FP;obtain⟨z,hz,rfl,hr⟩:=hs.raw;refine newS.intro λa w1 x1 a0 _ _=>SE.LI.go (YG (p:=λx=>Ai x.1 n) (hz.ext x1) (λx hx w' k a5 hk=>⟨_,_,rfl,enters_of func207 kR rfl,SE.Nn.go ?_⟩) λw2 x2=>⟨_,rfl,?_⟩)
 .unfold SE.Nn;exact newS.intro λa2 w4 x4 a4 _ _=>⟨_,a4.at0 xR rfl,_,a0.at0 (a5.trans x4) rfl,hk w4 x4⟩
 .have e:(z.map Prod.fst).any (λx=>Ai x.1 n)=AK (z.map Prod.snd) n:=by
   unfold AK;rw[List.any_map,List.any_map,gk,jg,jg];have e2:∀p∈z,(Ai p.1.1 n=true↔EA n p.2=true):=λp hp=>by rw[(hr p hp).1,AH];unfold EA;rw[decide_eq_true_iff]
   exact⟨λ⟨p,hp,h⟩=>⟨p,hp,(e2 p hp).1 h⟩,λ⟨p,hp,h⟩=>⟨p,hp,(e2 p hp).2 h⟩⟩
  rw[e];exact hR w2 (x1.trans x2)
def Zao{a b:Bm}{R:Int->Wp}(hR:∀w',Gr w w'->R (A7 a.1 b.1) w'):SE.JW a.1 a.2 b.1 b.2 w R:=by unfold SE.JW;refine newS.gr λ_ w1 x1 hb=>newS.gr λ_ w2 x2 a0=>⟨_,Gr.at0 hb x2 rfl,_,Gr.at0 a0 (Gr.refl _) rfl,ET ⟨_,rfl,hR _ (x1.trans x2)⟩⟩
def ZM:Bn prog 205:=enters_of func205 kR rfl
def Zit{z:List (Bm×Dep)}{K:Value->Wp}(h:FlatO depC 40 w lo s (z.map Prod.fst))(a4:lo<=w.heap.size)
  (hK:∀(z':List (Bm×Dep)) w',z'.Perm z->z'.Pairwise (λx y=>¬A7 y.1.1 x.1.1<0)->Below lo w w'->FlatO depC 40 w' lo s (z'.map Prod.fst)->K (.tuple #[]) w'):
  callS prog 177 [s.v,.func (.func 205) #[] #[]] w K:=by
 obtain⟨h1,h2,h3,h4,h5⟩:=h;rw[dz]at h1 h2 h4;obtain⟨a,n,c⟩:=s;simp only at h1 h2 h3 h5;subst h1;rcases h5 with h5|⟨g,tail,ha,hg,hr⟩
 .rw[List.map_eq_nil_iff]at h5;subst h5;refine(AnyF.slices_SortFunc_none Tryz.layDp a c _ w).mono λe w' ⟨he,hw⟩=>⟨_,he,?_⟩;subst hw;exact hK [] _ (jf _) .nil (Below.refl _ _) ⟨rfl,h2,h3,h4,.inl rfl⟩
 .subst ha;have hO:=DB (α:=Bm×Dep) (·.1.1);have a5:RowB (λp:Bm×Dep=>depC p.1) w g z tail:=by unfold RowB at*;rw[iy]at hr;exact hr
  haveI:Inhabited (Bm×Dep):=⟨((⟨#[]⟩,Sl.nil),⟨⟨#[]⟩,[]⟩)⟩
  refine F7 Tryz.layDp (k:=2) Zco Zio (f:=λp:Bm×Dep=>depC p.1) (λ_=>rfl) (λx v hv=>by simp[depC,Sl.v]at hv;rcases hv with rfl|rfl<;>rfl) (λa b=>A7 a.1.1 b.1.1) (EU hO.flip hO.trans) 205 #[] ZM (λw0 x y hb _=>?_) a5 (by unfold Ab at h4;omega) rfl λl' w' hp hs b a6=>?_
  .have h:=SE.JW.go (k:=λv w'=>v= .int .i64 (A7 x.1.1 y.1.1)/\Gr w0 w') (Zao (a:=x.1) (b:=y.1) (w:=w0) λw' h=>⟨rfl,h⟩);exact Calls.mono h λe w' ⟨v,he,hv,hg⟩=>⟨by rw[he,hv],hg⟩
  .have a0:=hp.length_eq;refine hK l' w' hp hs (b.below a4 hg) ⟨by rw[dz];exact a0.symm,by rw[dz,a0];exact h2,h3,by rw[dz,a0];exact h4,.inr ⟨g,tail,rfl,hg,?_⟩⟩;unfold RowB at*;rw[iy];exact a6
def TS{dr:Sl}{d:Dep}{R:Sl->Wp}(hS:Old S w)(hs:SlR depE w S s l)(hl:l.length<=1000)(d0:RiseD l)(hn:Ac d.name)(hd:SlR spanE w S dr d.range)
  (hR:∀t w',Ext w w'->SlR depE w' (λb=>S b\/(w.heap.size<=b/\b<w'.heap.size)) t (withD l d)->R t w'):SE.Ig s d.name dr w R:=by
 unfold SE.Ig;refine newS.intro λa w1 x1 b0 d4 _=>join.named λJ hJ=>bnd.drew λw3 x3=>⟨_,b0.at0 x3 rfl,_,_,b0.at0 x3 rfl,?_⟩;have a0:=x1.trans x3;have push:∀{t:Sl} {w4:Wd} {a8:Addr} {w5:Wd},Ext w w4->DepO w4 w.heap.size S t (Bk l d.name)->Ext w4 w5->BoxAt w5 a8 [.string d.name,dr.v]->appS prog 34 34 t (Sl.v (Sl.mk (some a8) 1 1)) w5 λd2 b9=>J d2 b9:=by
  intro t w4 a8 w5 x4 ⟨z,hf,hz,hr⟩ x5 hb;have c3:=x4.trans x5;have d5:z.length<=1000:=by have h1:(Bk l d.name).length<=l.length:=ix _ _;rw[<-hz,dz]at h1;omega
  refine((hf.ext x5).own).push Jv c3.size (x:=(d.name,dr)) (S':=None') (cs:=[.string d.name,dr.v]) ⟨rfl,trivial⟩ (hb.ldc.pre (r:=[]) rfl) (λ_ h=>h.elim) (λ_ _ h=>h.elim) ?_ ?_ λr w6 b8 bel _ _=>?_
  .show _*40<=Ab;rw[dz];unfold Ab;omega
  .rw[dz,Al];omega
  .have a4:Below w.heap.size w w6:=Below.trans c3 bel;have d1:∀p∈z++[((d.name,dr),d)],Et w6 S p:=λp hp=>by
    obtain h|h:=fk.1 hp
    .obtain⟨e1,e2,e3⟩:=hr p h;exact⟨e1,e2,(e3.ext x5).below bel hS⟩
    .rw[ep]at h;subst h;exact⟨rfl,hn,hd.below a4 hS⟩
   have a6:=b8.rawT;have he:z.map Prod.fst++[(d.name,dr)]=(z++[((d.name,dr),d)]).map Prod.fst:=(by rw[fq];rfl);rw[he]at a6;subst hJ;refine Zit (a6.flat (bytes:=40) (by rw[dz,du,gl];unfold Ab;omega)) a4.size λz' w7 hp c9 b7 c8=>⟨rfl,?_⟩;have a7:∀p∈z',Et w7 S p:=λp hm=>(by obtain⟨e1,e2,e3⟩:=d1 p (hp.mem_iff.1 hm);exact⟨e1,e2,e3.below b7 hS⟩);have a9:Ext w w7:=Below.trans a4 b7;have b5:=Ua c8 a7;have b4:z'.map Prod.snd=withD l d:=by
    refine Zlp d0 ?_ ?_
    .have:=hp.map Prod.snd;rw[fq,hz]at this;exact this
    .rw[iq];refine(List.pairwise_iff_forall_sublist.2 λ{x y} a5=>?_);have b6:=List.pairwise_iff_forall_sublist.1 c9 a5;have hx:=a5.subset (by simp:x∈ [x,y]);have hy:=a5.subset (by simp:y∈ [x,y]);rw[(a7 x hx).1,(a7 y hy).1]at b6;rwa [HS]at b6
   rw[b4]at b5;exact hR r w7 a9 b5
 have b2:l.length<=1000000:=oM;refine⟨callX.intro (SE.DQ.go (GQ (hS.ext a0.size) (hs.ext a0) b2 λt w4 x4 c6=>⟨x4,_,rfl,newS.intro λa8 w5 x5 c5 _ _=>push (a0.trans x4) (c6.low a0.size) x5 c5⟩)),
  newS.intro λd3 w4 x4 c4 _ _=>callX.intro (SE.DQ.go (GQ (hS.ext (a0.trans x4).size) (hs.ext (a0.trans x4)) b2 λt w5 x5 c7=>⟨x5,_,rfl,push ((a0.trans x4).trans x5) (c7.low (a0.trans x4).size) xR (c4.ext x5)⟩))⟩
def TE{op kind n:Int}{name range pack:Bs}{R:Bs->Sl->Int->Wp}(hg:Gl w)
  (h0:∀w',RgOf range none->Ext w w'->R (bm #[]) Sl.nil 21 w') (h1:∀l t w',RgOf range (some l)->Ext w w'->SlR spanE w' (λb=>w.heap.size<=b/\b<w'.heap.size) t l->R name t 0 w'):SE.Ia op name range kind pack n w R:=by
 unfold SE.Ia;refine newS.intro λa w1 x1 a9 b5 _=>newS.intro λa1 w2 x2 a7 b6 _=>⟨_,a9.at1 x2 rfl,?_⟩;have a6:=x1.trans x2;have bad:∀{w3:Wd},Ext w2 w3->RgOf range none->stw w3 a1 [.string (bm #[]),Sl.nil.v] λb0=>∃(a5:Bs) (a0:Sl),ldc b0 a1 [.string a5,a0.v]/\R a5 a0 21 b0:=λx3 hr=>
  stw0.intro (a7.ext x3) sI λw4 b4 _ a8=>⟨_,_,a8.at0 xR rfl,h0 w4 hr (b4.ext (a6.trans x3) (by have:=x1.size;omega))⟩
 refine Zja (hg.ext a6) (λw3 hn x3=>⟨_,_,rfl,bound ⟨λ_=>bad x3 (.bad hn),λh=>by simp at h⟩⟩) (λl w3 hr hl x3=>⟨_,_,rfl,bound ⟨λ_=>bad x3 (.full hr hl),λh=>by simp at h⟩⟩)
  λl s w3 hr hl x3 hs=>⟨_,_,rfl,bound ⟨λh=>?_,λh=>?_⟩⟩
 .have a4:=hs.len;have:l=[]:=by simp at h;unfold BU at a4;rw[h,dz]at a4;exact fj a4.symm
  subst this;exact bad x3 (.empty hr)
 .have a4:=hs.len;have b2:l≠[]:=by rintro rfl;unfold BU at a4;simp at a4;rw[a4]at h;simp at h
  refine⟨_,(a9.ext x2).at1 x3 rfl,stw0.intro (a7.ext x3) sI λw4 b4 _ a8=>⟨_,_,a8.at0 xR rfl,h1 _ s w4 (.ok hr b2 hl) (b4.ext (a6.trans x3) (by have:=x1.size;omega)) ?_⟩⟩;have b7:=a7.lt;refine(hs.but b4 λhb=>?_).mono λb hb=>⟨by have:=a6.size;omega,by have:=b4.1;omega⟩;have:=hb.1;omega
def Zl0:∀w,(zeroValue 166).run prog w= .ok (.agg #[.string (bm #[]),vi 0,vi 0,vi 0]) w:=λw=>by kernel_rfl
def Zd{l:LP}{d:Pin->Bool}{f:Value}{R:Sl->Wp}(h:FlatO AW 40 w lo s l)(a5:lo<=w.heap.size)(c7:∀q∈l,Ac q.name)
  (hf:∀x∈l,∀w' (k:Value->Wp),Below lo w w'->(∀ad,s.a=some ad->But ad.block w w')->(s.a=none->Ext w w')->(∀d0,Ext w' d0->k (.bool (d x)) d0)->callV prog f [.agg #[.string x.name,vi x.v.ma,vi x.v.mi,vi x.v.pa]] w' k)
  (hR:∀t w',Below lo w w'->(∀ad,s.a=some ad->But ad.block w w')->(s.a=none->Ext w w')->(∀ad,t.a=some ad->∃b9,s.a=some b9/\ad.block=b9.block)->FlatO AW 40 w' lo t (l.filter λx=>!d x)->R t w'):SE.LL s f w R:=by
 unfold SE.LL;have hs:=h.read (E:=pinE) (λ_=>rfl) (λ_ _ x hx=>⟨rfl,c7 x hx⟩);refine SE.Hu.go (idxPin_se (p:=d) hs (λx hx w' k b0 hk=>hf x hx w' k (Below.mono b0 a5) (λ_ _=>b0.but _) (λ_=>b0) hk) λw1 x1=>⟨_,rfl,λh1=>?_,λh1=>?_⟩)
 .have:l.any d=false:=by rw[<-Fw,h1];decide
  exact hR s w1 (Below.mono x1 a5) (λad _=>x1.but _) (λ_=>x1) (λad h=>⟨ad,h,rfl⟩) (by rw[Ih this];exact h.ext x1)
 obtain⟨n,hn,e,ht,hp⟩:=Kz h1;rw[e];obtain⟨k1,k2,k3,k4,k5⟩:=h;obtain⟨g,tail,ha,hg,hr⟩:∃g tail,s.a=some ⟨g,0,none⟩/\lo<=g/\RowB AW w g l tail:=by
  obtain k5|k5:=k5
  .subst k5;simp at hn
  .exact k5
 have hk:∀x:Pin,(AW x).length=4:=λ_=>rfl;have c4:(l.take (n+1)).filter (λx=>!d x)=l.take n:=by rw[dw hn,jk,Ih ht];simp[hp]
 rw[Ag oM (by unfold Ab at k4;omega)];refine⟨λi j w'=>∃(i' j':Nat) (z:LP),i=(i':Int)/\j=(j':Int)/\i'<j'/\j'<=l.length/\z.length=l.length/\i'=((l.take j').filter λx=>!d x).length/\z.take i'=(l.take j').filter (λx=>!d x)/\z.drop j'=l.drop j'/\But g w w'/\RowB AW w' g z tail,
  λ_ j _=>l.length - j.toNat,⟨n,n+1,l,rfl,oM,oM,oM,rfl,by rw[c4,fb];omega,by rw[c4],rfl,x1.but g,hr.ext x1⟩,?_⟩
 rintro _ _ w2 ⟨i,j,z,rfl,rfl,d2,hj,c9,hi,a6,c8,b2,a4⟩;refine⟨λd9=>join.named λJ hJ=>?_,λd7=>?_⟩
 .have a0:j<l.length:=oM;have ej:Aa ((j:Int)+1)=((j+1:Nat):Int):=by rw[Ag oM (by unfold Ab at k4;omega)];omega
  have a7:z.drop (j+1)=l.drop (j+1):=by rw[<-jw,c8,jw]
  have c5:(l.take (j+1)).filter (λx=>!d x)=(l.take j).filter (λx=>!d x)++[l[j]].filter (λx=>!d x):=by rw[dw a0,jk]
  have kJ:∀(i':Nat)(w':Wd)(z':LP),i'<j+1->z'.length=l.length->z'.take i'=(l.take (j+1)).filter (λx=>!d x)->z'.drop (j+1)=l.drop (j+1)->But g w w'->RowB AW w' g z' tail->J (i':Int) w':=λi' w' z' q1 q2 q3 q4 q5 q6=>by subst hJ;show _/\_;rw[ej];exact⟨⟨i',j+1,z',rfl,rfl,q1,oM,q2,by rw[<-q3,fb];omega,q3,q4,q5,q6⟩,by show _ - Int.toNat _<_ - Int.toNat _;omega⟩
  clear hJ;have d5:z[j]?=some l[j]:=by have h1:z[j]?=(z.drop j)[0]? :=(by rw[lh,jz]);rw[h1,c8,lh,jz];exact dt a0
  refine⟨_,⟨ha,oM,oM⟩,_,_,_,_,a4.ld' hk d5,newS.intro λa w3 x3 a8 d6 _=>stw0.intro a8 sI λw4 b4 _ c3=>⟨_,_,_,_,c3.ldc.pre rfl,?_⟩⟩;have b7:Ext w2 w4:=b4.ext x3 oM;have s2:=b2.1;have hm:l[j]∈l:=ff a0;refine hf _ hm w4 _ ((b2.trans (b7.but g)).below a5 hg) (λad h=>by rw[ha]at h;cases h;exact b2.trans (b7.but g)) (λh=>by rw[ha]at h;cases h) λw5 x5=>⟨_,rfl,λhd=>?_,λhd=>?_⟩
  all_goals
   have b8:=b7.trans x5;have s5:=b8.size;have b5:But g w w5:=b2.trans (b8.but g);have c6:=a4.ext b8
  .have a9:d l[j]=false:=(by simpa using hd);refine⟨_,_,_,_,(c3.ext x5).ldc.pre rfl,_,⟨ha,oM,oM⟩,c6.st hk (i:=i) (x:=l[j]) oM λw6 b6 d3=>?_⟩;have ei:Aa ((i:Int)+1)=((i+1:Nat):Int):=by rw[Ag oM (by unfold Ab at k4;omega)];omega
   rw[ei];refine kJ (i+1) w6 _ oM (by rw[iz,c9]) ?_ (by rw[og oM,a7]) (b5.trans b6) d3;rw[c5,<-a6,dw (by rw[iz];omega),od nR,nj];simp[a9]
  .have a9:d l[j]=true:=(by simpa using hd);refine kJ i w5 z oM c9 ?_ a7 b5 c6;rw[c5,<-a6];simp[a9]
 .have a0:j=l.length:=oM;subst a0;rw[eh]at a6 hi;have d8:i<l.length:=d2;have e1:(Sl.cut s (i:Int).toNat s.len 4).v= .slice (some ⟨g,i*4,none⟩) (l.length - i) (s.cap - i):=by unfold Sl.cut Sl.v;rw[ec,if_neg oM,ha,k1];simp only[je,G8]
  rw[e1];refine⟨⟨oM,oM⟩,?_⟩;have d4:(z.map AW).flatten++tail=((z.take i).map AW).flatten++(((z.drop i).map AW).flatten++tail):=by
   conv=>lhs;rw[<-fo i z]
   rw[fq,js,fg]
  unfold RowB at a4;rw[d4]at a4;refine Tj (k:=4) underlying69 Zl0 rfl (λv hv=>by simp[Value.cells]at hv;rcases hv with rfl|rfl|rfl|rfl<;>rfl) (by rw[CE _ hk,fb];omega) (by rw[du,CE _ hk,fx];omega) a4 λw3 back b3 a8=>⟨⟨oM,oM⟩,?_⟩;have s2:=b2.1;refine hR _ w3 ((b2.trans b3).below a5 hg) (λad h=>by rw[ha]at h;cases h;exact b2.trans b3) (λh=>by rw[ha]at h;cases h) (λad h=>⟨_,ha,by unfold Sl.cut at h;simp only[ha]at h;split at h<;>cases h<;>rfl⟩) ?_;have d1:(l.filter λx=>!d x).length<=l.length:=ix _ _;refine⟨by unfold Sl.cut;simp;exact hi,by unfold Sl.cut;show _<=s.cap - 0;omega,by unfold Sl.cut;show s.cap - 0<=_;omega,?_,.inr ⟨g,back,?_,hg,?_⟩⟩
  .have:=ij 40 d1;omega
  .show(if _ then _ else _)=_;split
   .exact ha
   .rw[ha,lu];rfl
  .rw[<-a6];exact a8
def Jq(m:Mani):Prop:=m.deps.length<=999/\m.dev.length<=999/\m.opt.length<=999/\m.over.length<=999
def MJ(m:Mani):Prop:=RiseD m.deps/\RiseD m.dev/\RiseD m.opt/\RiseD m.over
def Jm(l:LD)(n:Bs):(Bk l n).length<=l.length:=ix _ _
def ManS.but{g:Nat}{e v:Sl}(h:ManS w S d e o v m)(hb:But g w w')(hn: ¬S g):ManS w' S d e o v m:=⟨h.d.but hb hn,h.e.but hb hn,h.o.but hb hn,h.v.but hb hn⟩
def FlatO.but{α:Type}{f:α->LV}{bytes:Nat}{l:List α}(h:FlatO f bytes w lo s l)(hb:But b w w')(hn:∀ad,s.a=some ad->ad.block≠b):FlatO f bytes w' lo s l:=by obtain⟨h1,h2,h3,h4,h5⟩:=h;refine⟨h1,h2,h3,h4,h5.imp id λ⟨g,tail,ha,hg,hr⟩=>⟨g,tail,ha,hg,hr.but hb (hn _ ha)⟩⟩
structure MlV(E:Enc Stl)(T:TypeId)(w:Wd)(lo:Nat)(p:Addr)(S:Nat->Prop)(c:PC)(G:LN)(P:List Pack)(old:Option (List Dir))(s:PlS):Prop where
 box:BoxAt w p c.c
 plo:lo<=p.block
 g:SlR nodeE w S c.u G
 pk:SlR packE w S c.ps P
 old:OldR w S old c.ol
 lt:Old S w
 nS: ¬S p.block
 dr:∃D,OwnS dirE 75 w lo D c.dr (s.dirs.map (Bh P))/\ ¬D p.block/\(∀ad,c.st.a=some ad-> ¬D ad.block)/\∀b,D b->S b\/p.block<b
 st:OwnS E T w lo None' c.st s.done
 drP:∀ad,c.dr.a=some ad->ad.block≠p.block/\ ¬S ad.block
 stP:∀ad,c.st.a=some ad->ad.block≠p.block/\ ¬S ad.block
 apart:∀a b,c.dr.a=some a->c.st.a=some b->a.block≠b.block
section
variable {E:Enc Stl} {T:TypeId} {w w':Wd} {lo:Nat} {p:Addr} {S:Nat->Prop} {c:PC} {G:LN} {P:List Pack} {old:Option (List Dir)} {s:PlS}
def MlV.ext(h:MlV E T w lo p S c G P old s)(hx:Ext w w'):MlV E T w' lo p S c G P old s:=by obtain⟨D,h1,h2⟩:=h.dr;exact⟨h.box.ext hx,h.plo,h.g.ext hx,h.pk.ext hx,h.old.ext hx,h.lt.ext hx.size,h.nS,⟨D,h1.ext hx,h2⟩,h.st.ext hx,h.drP,h.stP,h.apart⟩
def MlV.read(h:MlV E T w lo p S c G P old s)(hd:s.dirs.length<=1000)(hs:s.done.length*E.bytes<=Ab/\s.done.length<=maxLen):PlV E w p (λb=>b<w.heap.size) c G P old s:=by
 obtain⟨D,h1,_⟩:=h.dr;have r1:=h1.read (by rw[dz];show s.dirs.length*144<=Ab;unfold Ab;omega) (by rw[dz,Al];omega);have r2:=h.st.read hs.1 hs.2;refine⟨h.box,h.g.mono λb hb=>h.lt b hb,h.pk.mono λb hb=>h.lt b hb,r1.mono λb hb=>?_,r2.mono λb hb=>?_,?_,λb hb=>hb⟩
 .rcases hb with hb|⟨ad,ha,rfl⟩
  .exact h1.lt b hb
  .exact(h1.block ha).2.1
 .rcases hb with hb|⟨ad,ha,rfl⟩
  .exact hb.elim
  .exact(h.st.block ha).2.1
 .have ho:=h.old;unfold OldR at ho ⊢;split at ho
  .trivial
  .obtain⟨k1,so,k2,k3⟩:=ho;exact⟨h.lt _ k1,so,k2,k3.mono λb hb=>h.lt b hb⟩
  .exact ho
def OldR.keep(h:OldR w S old ol)(hk:Keep S w w'):OldR w' S old ol:=by
 unfold OldR at*;split at h
 .trivial
 .obtain⟨h1,so,h2,h3⟩:=h;exact⟨h1,so,h2.keep h1 hk,h3.keep hk⟩
 .exact h
structure Mv(lo:Nat)(p:Addr)(c:PC)(w:Wd)(c':PC)(w':Wd):Prop where
 bel:Below lo w w'
 oth:∀b,b<w.heap.size->b≠p.block->(∀ad,c.dr.a=some ad->b≠ad.block)->(∀ad,c.st.a=some ad->b≠ad.block)->w'.heap[b]?=w.heap[b]?
 dr:∀ad,c'.dr.a=some ad->c.dr.a=some ad\/w.heap.size<=ad.block
 st:∀ad,c'.st.a=some ad->c.st.a=some ad\/w.heap.size<=ad.block
 same:c'={c with dr:=c'.dr,st:=c'.st}
def Mv.size(h:Mv lo p c w c' w'):w.heap.size<=w'.heap.size:=Below.size h.bel
def Mv.of{c:PC}(hx:Ext w w')(hl:lo<=w.heap.size):Mv lo p c w c w':=⟨Below.mono hx hl,λ_ hb _ _ _=>hx.block hb,λ_ h=>.inl h,λ_ h=>.inl h,rfl⟩
def Mv.trans{c1 c2:PC}{w1 w2:Wd}(h:Mv lo p c w c1 w1)(k:Mv lo p c1 w1 c2 w2):Mv lo p c w c2 w2:=by
 have hs:=h.size;refine⟨Below.trans h.bel k.bel,λb hb h1 h2 h3=>?_,λad ha=>?_,λad ha=>?_,?_⟩
 .rw[k.oth b oM h1 (λad ha e=>?_) λad ha e=>?_,h.oth b hb h1 h2 h3]
  .obtain q|q:=h.dr ad ha
   .exact h2 ad q e
   .omega
  .obtain q|q:=h.st ad ha
   .exact h3 ad q e
   .omega
 .obtain q|q:=k.dr ad ha
  .exact h.dr ad q
  .right;omega
 .obtain q|q:=k.st ad ha
  .exact h.st ad q
  .right;omega
 .rw[k.same,h.same]
def Mv.box(h:Mv lo p c w c' w')(hb:BoxAt w a cs)(h1:a.block≠p.block)(h2:∀ad,c.dr.a=some ad->a.block≠ad.block)(h3:∀ad,c.st.a=some ad->a.block≠ad.block):BoxAt w' a cs:=
 hb.keep (S:=λb=>b≠p.block/\(∀ad,c.dr.a=some ad->b≠ad.block)/\∀ad,c.st.a=some ad->b≠ad.block) ⟨h1,h2,h3⟩ λb hb hl=>h.oth b hl hb.1 hb.2.1 hb.2.2
def MlV.lo_le(h:MlV E T w lo p S c G P old s):lo<=w.heap.size:=by have:=h.plo;have:=h.box.lt;omega
def MlV.mv(h:MlV E T w lo p S c G P old s)(k:Mv lo p c w c' w'):Keep S w w':=λb hb hl=>k.oth b hl (λe=>h.nS (e▸hb)) (λad ha e=>(h.drP ad ha).2 (e▸hb)) λad ha e=>(h.stP ad ha).2 (e▸hb)
def MlV.pushD{x:Dr}(h:MlV E T w lo p S c G P old s)(hx:dirE.rep w Q (Bh P x) cs)(hc:ldc w a cs)
  (hQ:∀b,Q b->b<w.heap.size/\b≠p.block/\(∀ad,c.dr.a=some ad->b≠ad.block)/\(∀ad,c.st.a=some ad->b≠ad.block)/\(S b\/p.block<b)) (hl:s.dirs.length<=1000)
  (hk:∀r w',MlV E T w' lo p S {c with dr:=r} G P old ⟨s.dirs++[x],s.done⟩->Mv lo p c w {c with dr:=r} w'->K w'):
  appS prog 40 40 c.dr (Sl.v ⟨some a,1,1⟩) w λt w1=>∃p1:Addr,some p=some p1/\stw w1 (p1.add 7) [t.v] K:=by
 obtain⟨D,o,a6,a9,a8⟩:=h.dr;have b5:=h.box.lt;refine o.push S6 h.lo_le hx hc (λb hb=>(hQ b hb).1) (λad ha hb=>(hQ _ hb).2.2.1 ad ha rfl) (by rw[dz];show _*144<=Ab;unfold Ab;omega) (by rw[dz,Al];omega) λr w1 o1 bel oth a5=>⟨p,rfl,?_⟩;have b6:=Below.size bel;have b0:BoxAt w1 p c.c:=h.box.keep (S:=λb=>∀ad,c.dr.a=some ad->b≠ad.block) (λad ha e=>(h.drP ad ha).1 e.symm) λb hb hl=>oth b hl hb;refine stw.intro (old:=c.c) b0 (o:=7) (by show 7+1<=9;omega) λw2 b2 b8 b4=>?_;have b7:=b2.1;have a0:∀b,b<w.heap.size->b≠p.block->(∀ad,c.dr.a=some ad->b≠ad.block)->w2.heap[b]?=w.heap[b]? :=λb hb h1 h2=>(b2.2.2.2.2 b oM h1).trans (oth b hb h2);have mv:Mv lo p c w {c with dr:=r} w2:=⟨Below.trans bel (b2.below (by have:=h.lo_le;omega) h.plo),λb hb h1 h2 _=>a0 b hb h1 h2,a5,λ_ h=>.inl h,rfl⟩;have a4:=h.mv mv;have a7:∀ad,r.a=some ad->ad.block≠p.block/\ ¬S ad.block:=λad ha=>by
  obtain q|q:=a5 ad ha
  .exact h.drP ad q
  .exact⟨oM,λhS=>by have:=h.lt _ hS;omega⟩
 refine hk r w2 ⟨b4,h.plo,h.g.keep a4,h.pk.keep a4,h.old.keep a4,λb hb=>by have:=h.lt b hb;omega,h.nS,⟨λb=>D b\/Q b,?_,λhb=>?_,λad ha hb=>?_,λb hb=>?_⟩,?_,a7,h.stP,λu v hu hv=>?_⟩ mv
 .have:=o1.but b2 (λhb=>?_) λad ha=>Ne.symm (a7 ad ha).1
  .rw[<-List.map_singleton (f:=Bh P),<-fq]at this;exact this
  .obtain hb|hb:=hb
   .exact a6 hb
   .exact(hQ _ hb).2.1 rfl
 .obtain hb|hb:=hb
  .exact a6 hb
  .exact(hQ _ hb).2.1 rfl
 .obtain hb|hb:=hb
  .exact a9 ad ha hb
  .exact(hQ _ hb).2.2.2.1 ad ha rfl
 .obtain hb|hb:=hb
  .exact a8 b hb
  .exact(hQ b hb).2.2.2.2
 .refine h.st.keep mv.size λb hb hq=>?_;rcases hq with hq|⟨ad,ha,rfl⟩
  .exact hq.elim
  .exact a0 _ hb (h.stP ad ha).1 λd hd e=>h.apart d ad hd ha e.symm
 .obtain q|q:=a5 u hu
  .exact h.apart u v q hv
  .have:=(h.st.block hv).2.1;omega
def MlV.pushSO{t:TypeId}{x:Stl}(h:MlV E T w lo p S c G P old s)(hT:B0 prog t T E.n E.bytes)(hx:∀w,E.rep w None' x cs)(b5:∀{w S S' x cs},E.rep w S x cs->E.rep w S' x cs)(hc:ldc w a cs)(hl:(s.done.length+1)*E.bytes<=Ab/\s.done.length+1<=maxLen)
  (hk:∀r w',MlV E T w' lo p S {c with st:=r} G P old ⟨s.dirs,s.done++[x]⟩->Mv lo p c w {c with st:=r} w'->(∀b,b<w.heap.size->b≠p.block->(∀ad,c.st.a=some ad->b≠ad.block)->w'.heap[b]?=w.heap[b]?)->K w'):
  appS prog t t c.st (Sl.v ⟨some a,1,1⟩) w λt w1=>∃p1:Addr,some p=some p1/\stw w1 (p1.add 8) [t.v] K:=by
 obtain⟨D,o,a6,a7,a9⟩:=h.dr;have b6:=h.box.lt;refine h.st.push hT h.lo_le (hx w) hc (λb hb=>hb.elim) (λad ha hb=>hb) hl.1 hl.2 λr w1 o1 bel oth a4=>⟨p,rfl,?_⟩;have o1:=o1.flat b5;have b7:=Below.size bel;have b0:BoxAt w1 p c.c:=h.box.keep (S:=λb=>∀ad,c.st.a=some ad->b≠ad.block) (λad ha e=>(h.stP ad ha).1 e.symm) λb hb hl=>oth b hl hb;refine stw.intro (old:=c.c) b0 (o:=8) (by show 8+1<=9;omega) λw2 b2 b9 b4=>?_;have b8:=b2.1;have a0:∀b,b<w.heap.size->b≠p.block->(∀ad,c.st.a=some ad->b≠ad.block)->w2.heap[b]?=w.heap[b]? :=λb hb h1 h2=>(b2.2.2.2.2 b oM h1).trans (oth b hb h2);have mv:Mv lo p c w {c with st:=r} w2:=⟨Below.trans bel (b2.below (by have:=h.lo_le;omega) h.plo),λb hb h1 _ h3=>a0 b hb h1 h3,λ_ h=>.inl h,a4,rfl⟩;have a5:=h.mv mv;have a8:∀ad,r.a=some ad->ad.block≠p.block/\ ¬S ad.block:=λad ha=>by
  obtain q|q:=a4 ad ha
  .exact h.stP ad q
  .exact⟨oM,λhS=>by have:=h.lt _ hS;omega⟩
 refine hk r w2 ⟨b4,h.plo,h.g.keep a5,h.pk.keep a5,h.old.keep a5,λb hb=>by have:=h.lt b hb;omega,h.nS,⟨D,?_,a6,λad ha hb=>?_,a9⟩,o1.but b2 (λh=>h) λad ha=>Ne.symm (a8 ad ha).1,h.drP,a8,λu v hu hv=>?_⟩ mv a0
 .refine o.keep mv.size λb hb hq=>?_;rcases hq with hq|⟨ad,ha,rfl⟩
  .exact a0 b hb (λe=>a6 (e▸hq)) λd hd e=>a7 d hd (e▸hq)
  .exact a0 _ hb (h.drP ad ha).1 λd hd e=>h.apart ad d ha hd e
 .obtain q|q:=a4 ad ha
  .exact a7 ad q hb
  .have:=o.lt _ hb;omega
 .obtain q|q:=a4 v hv
  .exact h.apart u v hu q
  .have:=(o.block hu).2.1;omega
end
def PInv.plen{s:PlS}{a:Nat}(h:PInv g s a):∀(i:Nat)(d:Dr),s.dirs[i]?=some d->d.path.length<=i:=λi=>by
 induction i using Nat.strongRecOn with
 |ind i ih=>
  intro d hd;by_cases h0:d.path=[]
  .rw[h0];exact gn _
  .obtain⟨j,h1,h2⟩:=h.up i d _ _ hd (List.dropLast_concat_getLast h0).symm;obtain⟨e,h3,h4⟩:=E5 h2;have:=ih j h1 e h3;rw[h4,List.length_dropLast]at this;have:=mw.2 h0;omega
def OwnS.strsB{T:TypeId}{l:List Bs}(h:OwnS strE T w lo None' s l)(hl:l.length<=5000000000000):SlR strE w (λb=>lo<=b/\b<w.heap.size) s l:=
 (h.read (by show l.length*16<=Ab;unfold Ab;omega) (by rw[Al];omega)).mono λb hb=>by
  rcases hb with hb|⟨ad,ha,rfl⟩
  .exact hb.elim
  .have:=h.block ha;exact⟨this.1,this.2.1⟩
def Zb9{l:LQ}{f:Value}{q:Edge->Bool}{R:Int->Wp}(hs:SlR edgeE w S s l)
  (hf:∀x∈l,∀w' (k:Value->Wp),Ext w w'->(∀a4,Ext w' a4->k (.bool (q x)) a4)->callV prog f [.agg #[.string x.name,vi x.to]] w' k)
  (hR:∀w',Ext w w'->R (AU q l) w'):SE.LX s f w R:=by
 unfold SE.LX;have hl:=hs.len;refine loop1.up hs.max (λi w'=>Ext w w'/\(l.take i).any q=false) ⟨Ext.refl _,rfl⟩ λi w1 a7 hi ⟨x1,hI⟩ hn=>⟨λa5=>?_,λa6=>?_⟩
 .have a0:i<l.length:=oM;obtain⟨ad,ha,_,hc⟩:=Dn hs a0;refine⟨ad,⟨ha,oM,a5⟩,_,_,hc _ x1,hf _ (ff a0) _ _ x1 λw2 x2=>⟨_,rfl,λh=>?_,λh=>?_⟩⟩
  .rw[<-Fx a0 hI h];exact hR _ (x1.trans x2)
  .exact hn a0 _ ⟨x1.trans x2,by rw[F8 a0 hI];exact h⟩
 .have:i=l.length:=oM;rw[this,eh]at hI;rw[<-E8 hI];exact hR _ x1
def TG{x:Node}{n:Bs}:HY g x n=(x.edges.find? λe=>decide (e.name=n)).bind λe=>g[e.to.toNat]? :=rfl
def rW{α:Type}:Result α->Wd
 | .ok _ w=>w
 | .halt _ w=>w
def XQ{α:Type}(w:Wd)(a:Ask α):w.drawn<=(w.ask a).2.drawn:=by
 fun_induction World.ask w a with
 |case1=>exact fm _
 |case2 w a0 range k q h ih=>exact ih
 |case3 w a0 range k q h ih=>exact fe (Nat.le_succ _) ih
def W5(w:Wd)(c:Sys):w.drawn<=(w.sys c).2.drawn:=by
 have h:=XQ w (Kernel.perform c w.os);unfold World.sys;split
 .exact fm _
 .rename_i r os w' hr;rw[hr]at h;exact h
def Zld{at_:Addr}{u:TypeId}{k:Addr}{v:Value}{b:Bool}{l:List Addr}(h:w.viewStore p at_ u k v b= .ok (w',l)):w'.drawn=w.drawn:=by
 unfold World.viewStore at h;simp only[bind,Except.bind,pure,Except.pure,throw,throwThe,MonadExceptOf.throw]at h
 repeat' first
  |(simp at h;done)
  |(simp only[Except.ok.injEq,Prod.mk.injEq]at h;obtain⟨rfl,_⟩:=h;rfl)
  |split at h
def Za9{v:Value}{b:Bool}{l:List Addr}(h:w.farStore p a v b= .ok (w',l)):w'.drawn=w.drawn:=by
 unfold World.farStore at h;split at h
 .split at h
  .rename_i r hr;simp only[Except.ok.injEq]at h;subst h;exact Zld hr
  .cases h
 .cases h
def Zig(w:Wd)(a:Addr)(v:Value):(w.setCell a v).drawn=w.drawn:=by
 unfold World.setCell
 repeat' first|rfl|split
def Zbn(w:Wd)(a:Addr)(n:Nat):(w.freeze a n).drawn=w.drawn:=by
 unfold World.freeze
 repeat' first|rfl|split
def Od{α:Type}(p:Program)(s:Sem α)(w:Wd):w.drawn<=(rW (s.run p w)).drawn:=by
 fun_induction Sem.run p s w
 all_goals first
  |exact fm _
  |assumption
  |skip
 all_goals try (rename_i ih;rw[Zig]at ih;exact ih)
 all_goals try (rename_i ih;rw[Zbn]at ih;exact ih)
 all_goals try (rename_i ih;exact fe (Nat.le_succ _) ih)
 all_goals try (rename_i ih;exact fe (W5 _ _) ih)
 all_goals try (rename_i h ih;have:=Za9 h;omega)
 all_goals skip
def Zh6{α:Type}(p:Program)(s:Sem α)(w:Wd)(es:Array Event):w.drawn<=(rW (s.runT p w es).1).drawn:=by rw[Sem.runT_fst];exact Od p s w
def gD(n:Nat):GStep->Prop
 | .go _ w _| .comm _ _ _ _ w _| .spawn _ _ w _| .count _ w _| .timer _ _ w _| .alone _ _ w _| .newcoro _ _ _ w _| .coroswitch _ _ _ w _| .collect _ w _| .watch _ w _| .ended _ w _=>n<=w.drawn
def Kf{s:GStep}(h:gD n s):gD n (GStep.after es s):=by cases s<;>exact h
def ZE(h:n<=w.drawn)(fd:Nat)(text:Bs)(o:Outcome):gD n (endWith w fd text o):=by
 have h1:=W5 w (.write fd text);unfold endWith;simp only[];split
 all_goals (rename_i hs;rw[hs]at h1)
 .split<;>exact fe h h1
 .exact fe h h1
 .exact fe h h1
def PH(h:n<=w.drawn)(fr:Frame)(m:String):gD n (endThrow fr m w):=h
def PG(h:n<=w.drawn)(p:Program)(fr:Frame)(v:Value):gD n (endPrinting p fr v w):=by unfold endPrinting;simp only[];split<;>exact h
def rD{α:Type}{s:Sem α}{a:α}(h:s.run p w= .ok a w'):w.drawn<=w'.drawn:=by have:=Od p s w;rw[h]at this;exact this
def F4{α:Type}{s:Sem α}{x:Halt}(h:s.run p w= .halt x w'):w.drawn<=w'.drawn:=by have:=Od p s w;rw[h]at this;exact this
def TI(h:n<=w.drawn)(p:Program)(fr:Frame)(a0:List Frame)(d:Option Dying)(m:String):gD n (endFatal p fr a0 d m w):=by
 unfold endFatal;simp only[];split
 .rename_i hr;exact fe h (rD hr)
 .rename_i hr;exact fe h (F4 hr)
 .rename_i hr;exact fe h (F4 hr)
def tD{α:Type}{s:Sem α}{a:α}(h:(s.runT p w es).1= .ok a w'):w.drawn<=w'.drawn:=by rw[Sem.runT_fst]at h;exact rD h
def EV{α:Type}{s:Sem α}{x:Halt}(h:(s.runT p w es).1= .halt x w'):w.drawn<=w'.drawn:=by rw[Sem.runT_fst]at h;exact F4 h
def Zly(h:n<=w.drawn)(p:Program)(fr:Frame)(d:Dying)(f:Fatal):gD n (writeOn p fr d f w):=by
 unfold writeOn;simp only[];split
 .exact h
 .split
  all_goals (rename_i hr;have hr:=congrArg Prod.fst hr)
  .exact fe h (tD hr)
  .exact fe h (EV hr)
  .exact fe h (EV hr)
  .exact fe h (EV hr)
def Zl(h:n<=w.drawn)(p:Program)(fr:Frame)(d:Dying):gD n (die p fr d w):=by
 unfold die;simp only[]
 repeat' first
  |exact h
  |exact Zly h _ _ _ _
  |exact ZE h _ _ _
  |exact PG h _ _ _
  |apply Kf
  |(rename_i hr;exact fe h (rD hr))
  |(rename_i hr;exact fe h (F4 hr))
  |(rename_i hr;exact fe h (tD hr))
  |(rename_i hr;exact fe h (EV hr))
  |(rename_i hr;exact PG (fe h (EV hr)) _ _ _)
  |split
 all_goals skip
def Nk(h:n<=w.drawn)(p:Program)(a5:Bool)(fr:Frame)(a0:List Frame)(a4:Option Dying)(v:Value):gD n (doReturn p a5 fr a0 a4 v w):=by
 unfold doReturn;simp only[]
 repeat' first
  |exact h
  |split
def Yj(h:n<=w.drawn)(p:Program)(fr:Frame)(a0:List Frame)(a4:Option Dying)(d:Deferred):gD n (callDeferred p fr a0 a4 d w):=by
 unfold callDeferred;simp only[]
 repeat' first
  |exact h
  |apply Kf
  |exact fe h (tD (by assumption))
  |exact fe h (EV (by assumption))
  |exact TI (fe h (EV (by assumption))) _ _ _ _ _
  |exact PH (fe h (EV (by assumption))) _ _
  |split
def Zkn(h:n<=w.drawn)(p:Program)(a5:Bool)(fr:Frame)(a0:List Frame)(a4:Option Dying):gD n (unwind p a5 fr a0 a4 w):=by
 unfold unwind;simp only[]
 repeat' first
  |exact h
  |exact Yj h _ _ _ _ _
  |exact PG h _ _ _
  |exact Nk h _ _ _ _ _ _
  |apply Kf
  |(rename_i hr;exact fe h (rD hr))
  |(rename_i hr;exact fe h (F4 hr))
  |(rename_i hr;exact fe h (tD hr))
  |(rename_i hr;exact fe h (EV hr))
  |(rename_i hr;exact Nk (fe h (tD hr)) _ _ _ _ _ _)
  |split
def Zv(h:n<=w.drawn)(p:Program)(fr:Frame)(a0:List Frame)(a4:Option Dying)(g:Nat):gD n (early p fr a0 a4 g w):=by
 unfold early;simp only[]
 repeat' first
  |exact h
  |exact fe h (rD (by assumption))
  |exact fe h (F4 (by assumption))
  |(simp only[gD];exact fe h (rD (by assumption)))
  |split
def Pb(h:n<=w.drawn)(p:Program)(a0:Bool)(fr:Frame)(a4:List Frame)(a5:Option Dying)(s:Sem Next):gD n (stepG.apply p a0 fr a4 a5 s w):=by
 unfold stepG.apply;simp only[];apply Kf;have hk:w.drawn<=(rW (if a0=true then s.runT p w #[]else(s.run p w,#[])).1).drawn:=by
  split
  .exact Zh6 _ _ _ _
  .exact Od _ _ _
 revert hk;generalize (if a0=true then s.runT p w #[]else(s.run p w,#[])).1=r;intro hk
 repeat' first
  |exact fe h hk
  |exact TI (fe h hk) _ _ _ _ _
  |exact Zv (fe h hk) _ _ _ _ _
  |exact PH (fe h hk) _ _
  |split
def ZB{α:Type}{o:Option α}{d:GStep}{f:α->GStep}(h:gD n d)(hf:∀x,gD n (f x)):gD n (o.elim d f):=by
 cases o with
 |none=>exact h
 |some x=>exact hf x
def Zff(h:n<=w.drawn)(p:Program)(a4:Bool)(fr:Frame)(a0:List Frame)(a5:Option Dying):gD n (stepG.oper p a4 fr a0 a5 w):=by
 unfold stepG.oper
 repeat' first
  |exact h
  |exact Pb h _ _ _ _ _ _
  |split
def Zap(h:n<=w.drawn)(p:Program)(a6 a4:Bool)(fr:Frame)(a0:List Frame)(a5:Option Dying):gD n (stepG.exec p a6 a4 fr a0 a5 w):=by
 unfold stepG.exec;simp only[]
 repeat' first
  |exact h
  |exact Pb h _ _ _ _ _ _
  |exact Pb (fe h (tD (by assumption))) _ _ _ _ _ _
  |exact Zff h _ _ _ _ _
  |exact Nk h _ _ _ _ _ _
  |exact Nk (fe h (tD (by assumption))) _ _ _ _ _ _
  |exact fe h (tD (by assumption))
  |exact fe h (EV (by assumption))
  |exact fe h (rD (by assumption))
  |exact fe h (F4 (by assumption))
  |apply Kf
  |refine ZB ?_ λ_=>?_
  |split
def Zjo(p:Program)(a4:Bool)(g:Goroutine)(w:Wd)(a0:Bool):gD w.drawn (stepG p a4 g w a0):=by
 unfold stepG;simp only[]
 repeat' first
  |exact Zl nR _ _ _
  |exact Zap nR _ _ _ _ _ _
  |exact Zkn nR _ _ _ _ _
  |split
def sD(n:Nat)(s:Stepped):Prop:=∀m,s= .next m->n<=m.world.drawn
def Zle{rest:Go.Rest}{cases:Array CommCase}(h:waitingAt rest cases w=some w'):w'.drawn=w.drawn:=by
 unfold waitingAt at h
 repeat' first
  |(simp at h;done)
  |(simp only[eu]at h;subst h;rfl)
  |split at h
def YF(h:n<=w.drawn)(p:Program)(rest:Go.Rest)(gs:Array Goroutine)(i:Nat)(g:Goroutine)(cases:Array CommCase)(a0:Bool)(a4:CommShape):sD n (communicate p rest gs i g cases a0 a4 w).1:=by
 intro m' h';unfold communicate at h';simp only[]at h'
 repeat' first
  |(simp at h';done)
  |(simp only[Stepped.next.injEq]at h';subst h';simp only[];first|exact h|exact fe h (rD (by assumption))|exact fe h (F4 (by assumption))|exact fe h (fe (rD (by assumption)) (F4 (by assumption)))|exact fe h (Nat.le_of_eq (Zle (by assumption)).symm)|exact fe (fe h (rD (by assumption))) (rD (s:=choose _) (by assumption))|skip)
  |split at h'
 all_goals skip
def UD(h:n<=w.drawn)(p:Program)(gs:Array Goroutine)(rest:Go.Rest):sD n (Go.look p gs rest w):=by
 intro m' h';unfold Go.look at h';simp only[]at h'
 repeat' first
  |(simp at h';done)
  |(simp only[Stepped.next.injEq]at h';subst h';simp only[];first|exact h|exact fe h (rD (by assumption))|skip)
  |split at h'
 all_goals skip
def Zs(w:Wd)(c:Nat):(drain w c).2.drawn=w.drawn:=by unfold drain;split<;>rfl
def VF(m:Machine)(k:Nat)(t:Timer)(a b:Nat):(retime m k t a b).2.world.drawn=m.world.drawn:=by unfold retime;simp only[];split<;>simp[Zs]
def Zfe{m:Machine}(h:timerOp.opened m a=some m'):m'.world.drawn=m.world.drawn:=by
 unfold timerOp.opened at h
 repeat' first
  |(simp at h;done)
  |(simp only[eu]at h;subst h;rfl)
  |split at h
def UU{m0:Machine}{f:Nat->Timer->Value×Machine}{v:Value}(hf:∀k t,n<=(f k t).2.world.drawn)(h:timerOp.named m0 a f= .ok (v,m')):n<=m'.world.drawn:=by
 unfold timerOp.named at h;split at h
 .rename_i k hk;have:=hf k (m0.rest.timers.getD k default);simp only[Except.ok.injEq]at h;rw[h]at this;exact this
 .cases h
def WE{m:Machine}(h:n<=m.world.drawn)(op:TimerOp){v:Value}(h':timerOp m op= .ok (v,m')):n<=m'.world.drawn:=by
 unfold timerOp at h';simp only[]at h'
 repeat' first
  |(simp at h';done)
  |(simp only[Except.ok.injEq,Prod.mk.injEq]at h';obtain⟨_,rfl⟩:=h';exact h)
  |(refine UU (n:=n) (λk t=>?_) h';rw[VF];exact h)
  |(refine UU (n:=n) (λk t=>?_) h';rw[VF,Zfe (by assumption)];exact h)
  |split at h'
 all_goals skip
def Zh7(p:Program)(m:Machine)(i:Nat)(b:Bool):sD m.world.drawn (runT p m i b).1:=by
 intro m' h;simp only[runT]at h;revert h;generalize m.gs.swapAt! _ _=gg;have hg:=Zjo p (i==0) gg.1 m.world b;revert hg;generalize stepG p _ gg.1 m.world b=s;intro hg h;cases s<;>simp only[]at h
 all_goals first
  |(simp at h;done)
  |exact YF hg _ _ _ _ _ _ _ _ _ h
  |exact UD hg _ _ _ _ h
  |(simp only[Stepped.next.injEq]at h;subst h;exact hg)
  |(repeat' first
    |(simp at h;done)
    |(simp only[Stepped.next.injEq]at h;subst h;exact hg)
    |(simp only[Stepped.next.injEq]at h;subst h;rename_i hq;refine WE (n:=m.world.drawn) ?_ _ hq;exact hg)
    |(simp only[Stepped.next.injEq]at h;subst h;rename_i hq;have:=congrArg (gD m.world.drawn) hq;exact this.mp (PH hg _ _))
    |split at h)
 all_goals (simp only[Stepped.next.injEq]at h;subst h;rename_i hq;have hz:=WE (n:=m.world.drawn) (m:={world:=_,gs:=_,rest:=_}) (by exact hg) _ hq;exact hz)
def Zie{m:Machine}(h:n<=m.world.drawn)(p:Program)(k:Nat):sD n (serve p m k):=by
 intro m' h';unfold serve at h';simp only[]at h'
 repeat' first
  |(simp at h';done)
  |(simp only[Stepped.next.injEq]at h';subst h';exact h)
  |split at h'
def mD(n:Nat):Move->Prop
 | .goroutine m _=>n<=m.world.drawn
 | .machine s _=>sD n s
def PJ{o:Outcome}:sD n (.ended o w):=λ_ h=>by cases h
def Cg{α:Type}{s:Sem α}{a:α}(h:s.run p w= .ok a w')(k:n<=w.drawn):n<=w'.drawn:=fe k (rD h)
def V5{α:Type}{s:Sem α}{m:Machine}{t:Nat}{a:α}(h:s.run p (m.advanceTo t).world= .ok a w')(k:n<=m.world.drawn):n<=w'.drawn:=fe k (rD (w:=(m.advanceTo t).world) h)
def Pd{m:Machine}(h:n<=m.world.drawn)(p:Program):mD n (askOn p m):=by
 unfold askOn;simp only[]
 repeat' first
  |exact PJ
  |exact h
  |exact Zie (fe h (rD (by assumption))) _ _
  |((try simp only[mD]);first|exact Cg (by assumption) h|exact Cg (by assumption) (Cg (by assumption) h)|exact Cg (by assumption) (Cg (by assumption) (Cg (by assumption) h))|exact Cg (by assumption) (Cg (by assumption) (Cg (by assumption) (Cg (by assumption) h)))|(refine V5 (by assumption) ?_;exact Cg (by assumption) (Cg (by assumption) h))|(refine Cg (by assumption) (V5 (by assumption) ?_);exact Cg (by assumption) (Cg (by assumption) h)))
  |(intro m' h';simp only[Stepped.next.injEq]at h';subst h';simp only[Machine.advanceTo];first|exact Cg (by assumption) h|exact Cg (by assumption) (Cg (by assumption) h))
  |split
 all_goals skip
def SF{m:Machine}(h:n<=m.world.drawn)(p:Program):mD n (ask p m):=by
 unfold ask
 repeat' first
  |exact Pd h p
  |exact Pd (m:=Machine.mk _ _ _) (Cg (by assumption) h) p
  |exact Pd (UD (Cg (by assumption) h) _ _ _ _ (by assumption)) p
  |exact PJ
  |(intro m' h';exact(‹∀a0:Machine,Go.look _ _ _ _=Stepped.next a0->False› m' h').elim)
  |split
def Zev{m:Machine}(h:n<=m.world.drawn)(p:Program):mD n (move p m):=by
 unfold move
 repeat' first
  |exact PJ
  |exact h
  |exact SF h p
  |(refine SF ?_ p;exact h)
  |split
def Zjp(p:Program)(m m':Machine)(h:step p m= .next m'):m.world.drawn<=m'.world.drawn:=by
 have hm:=Zev (fm m.world.drawn) p;unfold step stepT at h;split at h
 .rename_i m1 i he;rw[he]at hm;exact fe hm (Zh7 p m1 i _ _ h)
 .rename_i s ops he;rw[he]at hm;exact hm _ h
def Zjs{m:Machine}(h:Steps p m m'):m.world.drawn<=m'.world.drawn:=by
 obtain⟨n,hn⟩:=h;induction n generalizing m with
 |zero=>simp[runN]at hn;rw[hn];exact fm _
 |succ n ih=>
  simp only[runN]at hn;cases hs:step p m with
  |next m1=>rw[hs]at hn;exact fe (Zjp _ _ _ hs) (ih hn)
  |ended o w=>rw[hs]at hn;simp at hn
def Ym{P:Program}{f:FuncId}{args:Array Value}{R:Ending->Wp}(h:Calls P f args w R):Calls P f args w λe w'=>R e w'/\(∀v,e= .returned v->w.drawn<=w'.drawn):=λcs=>by obtain⟨e,w',fr,hR,hc,hf,hl⟩:=h cs;refine⟨e,w',fr,⟨hR,λv hv=>?_⟩,hc,hf,hl⟩;subst hv;exact Zjs hc
def Ext.gr(h:Ext w w')(hd:w.drawn<=w'.drawn):Gr w w':=by
 obtain⟨h1,h2,h3,h4,h5⟩:=h;refine⟨w'.drawn - w.drawn,w'.heap.extract w.heap.size w'.heap.size,?_⟩;have hh:w'.heap=w.heap++w'.heap.extract w.heap.size w'.heap.size:=by
  apply Array.ext_getElem?;intro i;obtain hi|hi:=qg i w.heap.size
  .rw[jl hi];exact h5 i hi
  .rw[Array.getElem?_append_right hi,Array.getElem?_extract];split
   .congr 1;omega
   .rw[Array.getElem?_eq_none oM]
 have a0:w'.drawn=w.drawn+(w'.drawn - w.drawn):=oM;obtain⟨hp,tp,dr,os,out⟩:=w';simp only at h1 h2 h3 hh a0;subst h1 h2 h3;unfold grow World.drewN;simp only[World.mk.injEq,and_true,true_and];exact⟨hh,a0⟩
structure DirC where
 ps:Sl
 nm:Bs
 ma:Int
 mi:Int
 pa:Int
 d:Sl
 e:Sl
 o:Sl
 nd:Int
def E3(x:DirC):LV:=[x.ps.v,.string x.nm,vi x.ma,vi x.mi,vi x.pa,x.d.v,x.e.v,x.o.v,vi x.nd]
def HJ(a b:Dir):Int:=HK (AJ a) (AJ b)
def cDir_ord:Ord3 HJ:=cDr_ord.comap AJ
def DirRp(w:Wd)(S:Nat->Prop)(y:DirC×Dir):Prop:=dirE.rep w S y.2 (E3 y.1)/\y.2.path.length<=4000000000000
abbrev RU(w:Wd)(S:Nat->Prop):Type:={y:DirC×Dir//DirRp w S y}
def P7(y:RU w S):LV:=E3 y.1.1
def Wz{α:Type}{P:α->Prop}:∀(l:List α),(∀i∈l,P i)->∃z:List {i:α//P i},z.map Subtype.val=l
 | [],_=>⟨[],rfl⟩
 |i::l,h=>by obtain⟨z,hz⟩:=Wz l λj hj=>h j (.tail _ hj);exact⟨⟨i,h i (.head _)⟩::z,by rw[ib,hz]⟩
def Zcn:∀w,(isAgg 75).run prog w= .ok true w:=λw=>by kernel_rfl
def Zin:∀w,(Go.sizeOf 75).run prog w= .ok 9 w:=λw=>by kernel_rfl
def RowB.same{α β:Type}{f:α->LV}{h:β->LV}{g:Nat}{l:List α}{m:List β}{tail:LV}(k:RowB f w g l tail)(e:l.map f=m.map h):RowB h w g m tail:=by unfold RowB at*;rw[<-e];exact k
def Ziv{gf:Nat}{l:List Dir}{K:Value->Wp}(h:OwnS dirE 75 w lo Q s l)(b2:lo<=w.heap.size)(hl:l.length<=1000000)(hb:∀d∈l,d.path.length<=4000000000000)
  (eg:∀args w,(callFunc gf args).run prog w= .ok (.enter gf args) w)
  (a6:∀(w0:Wd)(S:Nat->Prop)(x y:DirC×Dir),DirRp w0 S x->DirRp w0 S y->Calls prog gf #[.agg (E3 x.1).toArray,.agg (E3 y.1).toArray] w0 λe w'=>e= .returned (.int .i64 (HJ x.2 y.2))/\Ext w0 w')
  (hK:∀(l':List Dir) w',l'.Perm l->l'.Pairwise (λx y=>¬HJ y x<0)->Below lo w w'->(∀b,b<w.heap.size->(∀ad,s.a=some ad->b≠ad.block)->w'.heap[b]?=w.heap[b]?)->SlR dirE w' (λb=>Q b\/∃ad,s.a=some ad/\b=ad.block) s l'->K (.tuple #[]) w'):
  callS prog 67 [s.v,.func (.func gf) #[] #[]] w K:=by
 have b8:=h.read (by show l.length*144<=Ab;unfold Ab;omega) (by rw[Al];omega);rcases h.rowG E3 (λy x=>DirRp w Q (y,x)\/ ¬x.path.length<=4000000000000) (λx cs hr=>by
  have b6:=hr;obtain⟨h0,ps,d,e,o,rfl,r⟩:=hr;refine⟨⟨ps,_,_,_,_,d,e,o,_⟩,rfl,?_⟩;by_cases hx:x.path.length<=4000000000000
  .exact .inl ⟨b6,hx⟩
  .exact .inr hx)with⟨rfl,rfl⟩|⟨g,z,tail,hsa,hg,hzl,hzr,hrow,hc,hm⟩
 .refine(AnyF.slices_SortFunc_none Tryz.layDi none 0 _ w).mono λe w' ⟨he,hw⟩=>⟨_,he,?_⟩;subst hw;exact hK [] _ (jf _) .nil (Below.refl _ _) (λ_ _ _=>rfl) b8
 .obtain⟨a,n,c⟩:=s;simp only at hsa hc hm;have a7:=h.len;simp only at a7;subst hsa a7;have a5: ¬Q g:=h.apart _ rfl;obtain⟨zv,a4⟩:=Wz (P:=DirRp w Q) z λp hp=>by
   obtain h1|h1:=hzr p hp
   .exact h1
   .exact absurd (hb p.2 (by rw[<-hzl];exact ip hp)) h1
  have a8:zv.length=l.length:=by rw[<-hzl,<-a4,dz,dz]
  haveI:Inhabited (RU w Q):=⟨⟨(⟨Sl.nil,⟨#[]⟩,0,0,0,Sl.nil,Sl.nil,Sl.nil,0⟩,⟨[],Ay,0⟩),QT,gn _⟩⟩
  have a0:RowB (P7 (w:=w) (S:=Q)) w g zv tail:=hrow.same (by rw[<-a4,iy,iy];rfl);rw[<-a8];refine F7 Tryz.layDi (k:=9) Zcn Zin (f:=P7 (w:=w) (S:=Q)) (λ_=>rfl) (λx v hv=>by simp[P7,E3,Sl.v]at hv;rcases hv with rfl|rfl|rfl|rfl|rfl|rfl|rfl|rfl|rfl<;>rfl) (λa b=>HJ a.1.2 b.1.2) (EU (λx y=>cDir_ord.flip _ _) (λx y z=>cDir_ord.trans _ _ _)) gf #[] eg (λw0 x y a9 _=>?_) a0 oM rfl λl' w' hp hs b b5=>?_
  .have k:Keep Q w w0:=a9.keep a5;refine(Ym (a6 w0 Q x.1 y.1 ⟨dirE.keep x.2.1 k,x.2.2⟩ ⟨dirE.keep y.2.1 k,y.2.2⟩)).mono λe w' ⟨⟨he,hx⟩,hd⟩=>⟨he,hx.gr (hd _ he)⟩
  .have k:Keep Q w w':=b.keep a5;refine hK ((l'.map Subtype.val).map Prod.snd) w' ?_ ?_ (b.below b2 hg) (λc hc b4=>b.2.2.2.2 c hc (b4 _ rfl)) ?_
   .rw[<-hzl,<-a4];exact(hp.map _).map _
   .rw[iq,iq];exact hs
   .have b7:RowB E3 w' g ((l'.map Subtype.val).map Prod.fst) tail:=b5.same (by rw[iy,iy];rfl);have b0:l'.length=zv.length:=hp.length_eq;have:=RowB.read (E:=dirE) (S:=Q) (cap:=c) b7 (λ_=>rfl) (λp hp=>by obtain⟨q,_,rfl⟩:=gq.1 hp;exact dirE.keep q.2.1 k) (by rw[dz];omega) hm (by rw[dz];show _*144<=Ab;unfold Ab;omega);rw[dz,b0,a8]at this;exact this.mono λb hb=>hb.imp id λe=>⟨⟨g,0,none⟩,rfl,e⟩
end Go.Hal
namespace Go.Hal
def PlaceOk.edges_le{ps:List Pack}(h:PlaceOk g ps)(k:Nat):(Az g k).length<=g.length:=by
 unfold Az;split
 .rename_i x hx;have:=KP (h.node k x hx).edges.nodup (m:=g.map Node.name) λn hn=>by obtain⟨e,he,rfl⟩:=gq.1 hn;obtain⟨j,y,_,_,h3,h4⟩:=(h.node k x hx).edge e he;rw[<-h4];exact ip (gv h3)
  simpa using this
 .exact gn _
def Vj(g:LN)(k:Nat):(Cn g k).length=(Az g k).length:=by
 unfold Cn;simp only[du];generalize Az g k=es;induction es with
 |nil=>rfl
 |cons e es ih=>rcases DU g k e with h|h|h<;>simp[h]<;>omega
def EdgeR.cnt{I:PlI}{s t:PlS}{a k:Nat}{e:Edge}{c:Int}(h:EdgeR I s a e k c t):t.done.length<=s.done.length+1:=by cases h<;>simp
structure Turn(I:PlI)(a nd:Nat)(s0:PlS)(r:LQ)(s:PlS):Prop where
 inv:PInv I.g s a
 grow:∃l,s.dirs=s0.dirs++l
 new:∀e∈r,D4 s a e.name
 nodup:(r.map Edge.name).Nodup
 mem:∀e∈r,e∈Az I.g nd
 small:DL I s
 cnt:s.done.length+r.length<=s0.done.length+(Cn I.g nd).length
 go:∀c t,EdgesR I a nd s r c t->EdgesR I a nd s0 (Cn I.g nd) c t
section
variable {I:PlI} {a nd:Nat} {s0 s t:PlS} {e:Edge} {r:LQ}
def Turn.start(hg:GrPl I.g)(hI:PInv I.g s a)(hs:DL I s)(a0:∀u∈s.done,u.src<a):Turn I a nd s (Cn I.g nd) s:=
 ⟨hI,⟨[],by simp⟩,λ_ _ v hv h=>by have:=a0 v hv;omega,Vk hg _,λ_ he=>KN.1 he,hs,fm _,λ_ _ h=>h⟩
def Turn.step(h:Turn I a nd s0 (e::r) s)(hg:GrPl I.g)(ha:a<s.dirs.length)(hE:EdgeR I s a e (AB I.g nd e) 0 t):Turn I a nd s0 r t:=by obtain⟨h1,h2⟩:=hE.inv (DU _ _ _) h.inv ha (h.new e (.head _)) (hg.edge (h.mem e (.head _)));obtain⟨l,hl⟩:=h.grow;obtain⟨m,hm⟩:=h2.dirs;have a4:=h.nodup;rw[ib,oq]at a4;have hc:=h.cnt;have a5:=hE.cnt;rw[fl]at hc;exact⟨h1,⟨l++m,by rw[hm,hl,fg]⟩,λe' a0=>h2.new _ (λhn=>a4.1 (hn▸ip a0)) (h.new e' (.tail _ a0)),a4.2,λe' a0=>h.mem e' (.tail _ a0),hE.small h.small,oM,λc u hu=>h.go c u (.cons hE hu)⟩
def Turn.stop{c:Int}(h:Turn I a nd s0 (e::r) s)(hE:EdgeR I s a e (AB I.g nd e) c t)(hc:c≠0):EdgesR I a nd s0 (Cn I.g nd) c t:=h.go c t (.stop hE hc)
def Turn.done(h:Turn I a nd s0 [] s):EdgesR I a nd s0 (Cn I.g nd) 0 s:=h.go 0 s (.nil s)
def Turn.node(h:Turn I a nd s0 r s)(ha:a<s0.dirs.length):a<s.dirs.length/\nodeAt s.dirs a=nodeAt s0.dirs a:=by obtain⟨l,hl⟩:=h.grow;rw[hl,Hb ha,du];exact⟨oM,rfl⟩
end
def Dx(g:LN)(nd k j:Nat):LQ:=((Az g nd).drop j).filter (λe=>AB g nd e==k)++(if k=1 then(Az g nd).filter (λe=>AB g nd e==2)++(Az g nd).filter (λe=>AB g nd e==3)else if k=2 then(Az g nd).filter (λe=>AB g nd e==3)else [])
def Zhj{k:Nat}(h:(Az g nd).length<=j)(hk:k=1\/k=2):Dx g nd k j=Dx g nd (k+1) 0:=by unfold Dx;rw[jp h];rcases hk with rfl|rfl<;>simp
def Zhi{k:Nat}(h:j<(Az g nd).length)(hk:AB g nd (Az g nd)[j]=k):Dx g nd k j=(Az g nd)[j]::Dx g nd k (j+1):=by unfold Dx;rw[fu h,List.filter_cons_of_pos (by rw[hk];exact beq_self_eq_true _)];rfl
def Zhk{k:Nat}(h:j<(Az g nd).length)(hk:AB g nd (Az g nd)[j]≠k):Dx g nd k j=Dx g nd k (j+1):=by unfold Dx;rw[fu h,List.filter_cons_of_neg (by simpa using hk)]
def Z0{k:Nat}{x:Node}(h:g[k]?=some x):Az g k=x.edges:=by unfold Az;rw[h]
def VX{I:PlI}(h:0<=I.maxD):DL I pl0:=⟨λd hd=>by rw[pl0,ep]at hd;rw[hd];exact .inl rfl,by show((1:Nat):Int)<=_;omega⟩
end Go.Hal
namespace Go.Hal
def Vr(L:List Pack)(g:LN):(Df L g).length=g.length:=by simp[Df]
def Vq(hi:i<g.length):(Df L g)[i]?=some (if i=0 then Ay else getD L g[i].name g[i].v):=by unfold Df;rw[gc,List.getElem?_range hi,je,dt hi];rfl
def Sl.v_inj(h:s.v=t.v):s=t:=by obtain⟨a,b,c⟩:=s;obtain⟨d,e,f⟩:=t;simp only[Sl.v,Value.slice.injEq]at h;obtain⟨rfl,rfl,rfl⟩:=h;rfl
def DirRp.path{y:DirC×Dir}(h:DirRp w S y):SlR strE w S y.1.ps y.2.path:=by obtain⟨⟨_,ps,d,e,o,hc,hp,_⟩,_⟩:=h;unfold E3 at hc;simp only[List.cons.injEq]at hc;rw[Sl.v_inj hc.1];exact hp
def Zl1:packE.rep w S Ay [.string ⟨#[]⟩,vi 0,vi 0,vi 0,Sl.nil.v,Sl.nil.v,Sl.nil.v]:=
 ⟨by unfold Ac Ay;rw[Al];decide,Sl.nil,Sl.nil,Sl.nil,rfl,SlR.nil trivial,SlR.nil trivial,SlR.nil trivial⟩
def Zo{P:List Pack}(h:0<P.length->P[0]?=some Ay):pl0.dirs.map (Bh P)= [⟨[],Ay,0⟩]:=by
 have:P.getD 0 Ay=Ay:=by
  rw[ko];by_cases hl:0<P.length
  .rw[h hl];rfl
  .rw[il oM];rfl
 show [Bh P ⟨[],0⟩]=_;unfold Bh;rw[this];rfl
def OwnS.low{α:Type}{E:Enc α}{T:TypeId}{lo':Nat}{l:List α}(h:OwnS E T w lo S s l)(hl:lo'<=lo):OwnS E T w lo' S s l:=by obtain⟨css,ho,k1,k2⟩:=h.row;refine⟨⟨css,⟨ho.1,ho.2.imp id λ⟨g,cap,a0,hv,hg,r⟩=>⟨g,cap,a0,hv,fe hl hg,r⟩⟩,k1,k2⟩,h.len,h.lt,h.apart⟩
def OldR.mono{old:Option (List Dir)}(h:OldR w S old ol)(hs:∀b,S b->S' b):OldR w S' old ol:=by
 unfold OldR at*;split at h
 .trivial
 .obtain⟨k1,so,k2,k3⟩:=h;exact⟨hs _ k1,so,k2,k3.mono hs⟩
 .exact h.elim
def OldR.ok{old:Option (List Dir)}(h:OldR w S old ol):(ol=none/\old=none)\/∃ao T so,ol=some ao/\old=some T/\ldc w ao [Sl.v so]/\SlR dirE w S so T:=by
 cases ol with
 |none=>exact .inl ⟨rfl,h.none_⟩
 |some ao=>obtain⟨a0,T,h1,h2,_,so,h3,h4⟩:=h.some_ sI;exact .inr ⟨a0,T,so,h1,h2,h3,h4⟩
def Wy{α:Type}{c:α->α->Int}(hc:Ord3 c)(h0:∀{a b},c a b=0->a=b):∀l:List α,∃z,StrictL c z/\∀y,y∈z↔y∈l
 | []=>⟨[],.nil,λ_=>Iff.rfl⟩
 |x::l=>by
  obtain⟨z,h1,h2⟩:=Wy hc h0 l
  classical
  by_cases hx:x∈z
  .exact⟨z,h1,λy=>by rw[ga,<-h2];exact⟨.inr,λh=>h.elim (λe=>e▸hx) id⟩⟩
  .refine⟨z.filter (λa=>decide (c a x<0))++x::z.filter λa=>decide (c x a<0),?_,λy=>?_⟩
   .unfold StrictL;rw[ir,ic];have lt:∀a∈z.filter (λa=>decide (c a x<0)),c a x<0:=λa ha=>by simpa using(io.1 ha).2
    have gt:∀a∈z.filter (λa=>decide (c x a<0)),c x a<0:=λa ha=>(by simpa using(io.1 ha).2);refine⟨h1.filter _,⟨gt,h1.filter _⟩,λa ha b hb=>?_⟩;obtain rfl|hb:=ga.1 hb
    .exact lt a ha
    .exact hc.lt_of (lt a ha) (by have:=gt b hb;omega)
   .rw[fk,ga,ga,io,io,<-h2,decide_eq_true_eq,decide_eq_true_eq];constructor
    .rintro(⟨h,_⟩|h|⟨h,_⟩)
     .exact .inr h
     .exact .inl h
     .exact .inr h
    .rintro(h|h)
     .exact .inr (.inl h)
     .by_cases e:c y x=0
      .exact .inr (.inl (h0 e))
      .by_cases e1:c y x<0
       .exact .inl ⟨h,e1⟩
       .have:=hc.flip x y;exact .inr (.inr ⟨h,oM⟩)
def PinsAre.ex(g:LN):∃l,PinsAre g l:=by obtain⟨z,h1,h2⟩:=Wy cPin_ord (λh=>SX.1 h) ((g.drop 1).map DY);exact⟨z,h1,h2⟩
def BZ(d e o v p:Sl)(k pr:Bool):LV:=[d.v,e.v,o.v,v.v,p.v,.bool k,.bool pr]
abbrev JR:Type:=Sl->Sl->Sl->Sl->Sl->Bool->Bool->Int->Wp
def JobT(w:Wd)(a3:Addr)(c:Int)(R:JR):Prop:=∃(d e o v p:Sl) (k pr:Bool),ldc w a3 [d.v,e.v,o.v,v.v,p.v,.bool k,.bool pr]/\R d e o v p k pr c w
def JobO(w:Wd)(a a3:Addr)(c:Int)(R:JR):Prop:=
 ∃(d e o v p:Sl) (k pr:Bool),ldc w a [d.v,e.v,o.v,v.v,p.v,.bool k,.bool pr]/\stw w a3 [d.v,e.v,o.v,v.v,p.v,.bool k,.bool pr] λw'=>JobT w' a3 c R
def JobT.mk{c:Int}{R:JR}{e v p:Sl}{k:Bool}(h3:BoxAt w a3 cs)(hl:cs.length=7)(hR:∀w',But a3.block w w'->R d e o v p k pr c w'):stw w a3 [d.v,e.v,o.v,v.v,p.v,.bool k,.bool pr] λw'=>JobT w' a3 c R:=
 stw0.intro h3 (by rw[hl];exact fm _) λw' b _ hb=>⟨d,e,o,v,p,k,pr,hb.at0 xR rfl,hR w' b⟩
def JobO.mk{c:Int}{R:JR}{e v p:Sl}{k:Bool}(ha:BoxAt w a (BZ d e o v p k pr))(h3:BoxAt w a3 cs)(hl:cs.length=7)
  (hR:∀w',But a3.block w w'->R d e o v p k pr c w'):JobO w a a3 c R:=⟨d,e,o,v,p,k,pr,ha.at0 (r:=[]) xR rfl,JobT.mk h3 hl hR⟩
def Fc(s:Stt)(x:StepC)(S:Nat->Prop)(w:Wd)(R:JR):Prop:=∀(c:Int)(j:JobC)(d e o v pt:Sl)(k pr:Bool)(w':Wd),Ext w w'->(∃pins r,PinsAre s.g pins/\RgOf x.range r/\AskR s.m pins s.pruned x r c j)->
 (c=0->ManS w' (λb=>S b\/(w.heap.size<=b/\b<w'.heap.size)) d e o v j.m/\SlR pinE w' (λb=>S b\/(w.heap.size<=b/\b<w'.heap.size)) pt j.pins/\k=j.keep/\pr=j.pruned)->R d e o v pt k pr c w'
section
variable {s:Stt} {x:StepC} {d e o v gS tS:Sl} {S:Nat->Prop} {w:Wd}
def ZA{R:Sl->Sl->Sl->Sl->Sl->Bool->Bool->Wp}(hG:SlR nodeE w S gS s.g)(a4:s.g≠[])
  (hR:∀pt pins w',Ext w w'->PinsAre s.g pins->FlatO AW 40 w' w.heap.size pt pins->(∀q∈pins,Ac q.name)->(∀ad,pt.a=some ad->ad.block<w'.heap.size/\w.heap.size<=ad.block)->R d e o v pt true s.pruned w'):SE.JP d e o v gS tS s.pruned w R:=by
 unfold SE.JP;refine newS.intro λa w1 x1 ha a9 _=>newS.intro λa1 w2 x2 h1 a8 _=>bnd.drew λw3 x3=>⟨d,e,o,v,ha.at0 (x2.trans x3) rfl,gS,ha.at1 (k:=4) (x2.trans x3) rfl,s.pruned,ha.at1 (k:=6) (r:=[]) (x2.trans x3) rfl,?_⟩;have a0:=x1.trans (x2.trans x3);have a6:=a0.size;have s2:=x2.size;have s3:=x3.size;have a7:=h1.lt;have s1:=x1.size;refine callX.intro (SE.Kj.go (Zbp (hG.ext a0) λt l w6 x6 a5 _ hf hq hb=>⟨x6,_,rfl,stw0.intro (h1.ext (x3.trans x6)) sI λw7 b7 _ h7=>⟨d,e,o,v,t,true,s.pruned,h7.at0 (r:=[]) xR rfl,?_⟩⟩));have z7:=b7.1;exact hR t l w7 (b7.ext (a0.trans x6) oM) (a5 a4) ((hf.low a6).but b7 λad h=>by have:=hb ad h;omega) hq λad h=>by have:=hb ad h;omega
def Iy{K:Addr->Wp}(hG:SlR nodeE w S gS s.g)(a0:s.g≠[])
  (hK:∀pt pins a6 w8,Ext w w8->PinsAre s.g pins->FlatO AW 40 w8 w.heap.size pt pins->(∀q∈pins,Ac q.name)->(∀ad,pt.a=some ad->ad.block<w8.heap.size/\w.heap.size<=ad.block/\ad.block<a6.block)->w.heap.size<=a6.block->BoxAt w8 a6 (BZ d e o v pt true s.pruned)->K a6 w8):
  callS prog 120 [.agg #[d.v,e.v,o.v,v.v,gS.v,tS.v,.bool s.pruned]] w λr w5=>∃(d e o v p:Sl) (k pr:Bool),r= .agg #[d.v,e.v,o.v,v.v,p.v,.bool k,.bool pr]/\
   newS w5 [Sl.nil.v,Sl.nil.v,Sl.nil.v,Sl.nil.v,Sl.nil.v,.bool false,.bool false] 85 λa6 w7=>stw w7 a6 [d.v,e.v,o.v,v.v,p.v,.bool k,.bool pr] λw8=>K a6 w8:=
 SE.JP.go (ZA (s:=s) hG a0 λpt pins w5 x5 hp hf hq hb=>⟨d,e,o,v,pt,true,s.pruned,rfl,newS.set rfl λa6 w7 x7 h7 a4=>hK pt pins a6 w7 (x5.trans x7) hp (hf.ext x7) hq (λad h=>by have:=hb ad h;have:=x7.size;omega) (by have:=x5.size;omega) h7⟩)
def Z9{R:JR}(hm:ManS w S d e o v s.m)(hS:Old S w)(a4:x.op=2)(hR:Fc s x S w R):SE.JO d e o v gS tS s.pruned x.op x.name x.range x.kind x.pack x.n w R:=by unfold SE.JO;refine newS.intro λa w1 x1 ha a8 _=>newS.intro λa1 w2 x2 h1 a6 _=>newS.intro λa3 w4 x4 h4 a7 _=>⟨d,e,o,v,ha.at0 (x2.trans x4) rfl,JobT.mk h4 rfl λw5 b5=>?_⟩;have a0:=x1.trans (x2.trans x4);have a9:=a0.size;have s1:=x1.size;have s2:=x2.size;obtain⟨r0,a5⟩:=RgOf.ex x.range;obtain⟨pins,hp⟩:=PinsAre.ex s.g;exact hR 0 ⟨s.m,[],false,false⟩ _ _ _ _ _ _ _ w5 (b5.ext a0 oM) ⟨pins,r0,hp,a5,.install a4⟩ λ_=>⟨((hm.ext a0).but b5 λh=>by have:=hS _ h;omega).mono λb hb=>.inl hb,SlR.nil trivial,rfl,rfl⟩
def Uy{R:JR}{w8 w9:Wd}{a6:Addr}{pt:Sl}{pins:LP}{k:Bool}{j:JobC}(hm:ManS w S d e o v s.m)(hS:Old S w)(h8:w.heap.size<=a6.block)(h3:w.heap.size<=a3.block)(x8:Ext w w8)(b9:But a6.block w8 w9)(hf:FlatO AW 40 w8 w.heap.size pt pins)(hq:∀q∈pins,Ac q.name)(hb:∀ad,pt.a=some ad->ad.block≠a6.block/\ad.block≠a3.block)
  (h9:BoxAt w9 a6 (BZ d e o v pt k pr)) (a5:BoxAt w9 a3 cs) (hl:cs.length=7) (hp:PinsAre s.g pins) {r0:Option (List Span)} (a7:RgOf x.range r0) (a4:AskR s.m pins s.pruned x r0 0 j) (hj:j.m=s.m/\j.pins=pins/\k=j.keep/\pr=j.pruned) (hR:Fc s x S w R):JobO w9 a6 a3 0 R:=by
 refine JobO.mk h9 a5 hl λa8 a0=>?_;have nS:∀{b:Nat},w.heap.size<=b-> ¬S b:=λh hb=>by have:=hS _ hb;omega
 have z9:=b9.1;have a9:=a0.1;obtain⟨j1,j2,j3,j4⟩:=hj;refine hR 0 j _ _ _ _ _ _ _ a8 (a0.ext (b9.ext x8 h8) h3) ⟨pins,r0,hp,a7,a4⟩ λ_=>⟨?_,?_,j3,j4⟩
 .rw[j1];exact(((hm.ext x8).but b9 (nS h8)).but a0 (nS h3)).mono λb hb=>.inl hb
 .rw[j2];exact(((hf.but b9 λad h=>(hb ad h).1).but a0 λad h=>(hb ad h).2).pins hq).mono λb hb=>.inr hb
def Zx{R:JR}(hm:ManS w S d e o v s.m)(hS:Old S w)(hG:SlR nodeE w S gS s.g)(a4:s.g≠[])(a5:x.op=6)(hR:Fc s x S w R):SE.JN d e o v gS tS s.pruned x.op x.name x.range x.kind x.pack x.n w R:=by unfold SE.JN;refine newS.intro λa w1 x1 ha b2 _=>newS.intro λa1 w2 x2 h1 a9 _=>newS.intro λa3 w4 x4 h4 b0 _=>⟨d,e,o,v,gS,tS,s.pruned,ha.at0 (r:=[]) (x2.trans x4) rfl,?_⟩;have a0:=x1.trans (x2.trans x4);have a8:=a0.size;have s1:=x1.size;have s2:=x2.size;have l3:=h4.lt;obtain⟨r0,a7⟩:=RgOf.ex x.range;refine Iy (hG.ext a0) a4 λpt pins a6 w8 x8 hp hf hq hb h6 h8=>stw.intro h8 (o:=5) (by simp[BZ]) λw9 b9 _ h9=>?_;exact Uy (pins:=pins) (k:=false) (pr:=s.pruned) (j:=⟨s.m,pins,false,s.pruned⟩) hm hS oM oM (a0.trans x8) b9 (hf.low a8) hq (λad h=>by have:=hb ad h;omega) h9 (b9.box (h4.ext x8) oM) rfl hp a7 (.dedupe a5) ⟨rfl,rfl,rfl,rfl⟩ hR
def Zaf{R:JR}(hm:ManS w S d e o v s.m)(hS:Old S w)(hG:SlR nodeE w S gS s.g)(a4:s.g≠[])(a5:x.op=7)(hR:Fc s x S w R):SE.JT d e o v gS tS s.pruned x.op x.name x.range x.kind x.pack x.n w R:=by unfold SE.JT;refine newS.intro λa w1 x1 ha b2 _=>newS.intro λa1 w2 x2 h1 a9 _=>newS.intro λa3 w4 x4 h4 b0 _=>⟨d,e,o,v,gS,tS,s.pruned,ha.at0 (r:=[]) (x2.trans x4) rfl,?_⟩;have a0:=x1.trans (x2.trans x4);have a8:=a0.size;have s1:=x1.size;have s2:=x2.size;have l3:=h4.lt;obtain⟨r0,a7⟩:=RgOf.ex x.range;refine Iy (hG.ext a0) a4 λpt pins a6 w8 x8 hp hf hq hb h6 h8=>stw.intro h8 (o:=6) (by simp[BZ]) λw9 b9 _ h9=>?_;exact Uy (pins:=pins) (k:=true) (pr:=true) (j:=⟨s.m,pins,true,true⟩) hm hS oM oM (a0.trans x8) b9 (hf.low a8) hq (λad h=>by have:=hb ad h;omega) h9 (b9.box (h4.ext x8) oM) rfl hp a7 (.prune a5) ⟨rfl,rfl,rfl,rfl⟩ hR
end
def Zb0{a b c t u:Bool}(h1:(!a)=true->t=b)(h2:((!a)&&(!t))=true->u=c):(((!a)&&(!t))&&(!u))= !(a||(b||c)):=by
 cases a
 .have:=h1 rfl;subst this;cases t
  .have:=h2 rfl;subst this;cases u<;>rfl
  .rfl
 .rfl
section
variable {s:Stt} {x:StepC} {d e o v gS tS:Sl} {S:Nat->Prop} {w:Wd}
def Zal{R:JR}(hn:Ac x.name)(hm:ManS w S d e o v s.m)(hS:Old S w)(hl:Jq s.m)(hG:SlR nodeE w S gS s.g)(e8:s.g≠[])(d0:x.op=4)(hR:Fc s x S w R):SE.JU d e o v gS tS s.pruned x.op x.name x.range x.kind x.pack x.n w R:=by
 unfold SE.JU;refine newS.intro λa w1 x1 ha f8 _=>newS.intro λa1 w2 x2 h1 f6 _=>newS.intro λa3 w4 x4 h4 f7 _=>⟨d,e,o,v,gS,tS,s.pruned,ha.at0 (r:=[]) (x2.trans x4) rfl,?_⟩;have c6:=x1.trans (x2.trans x4);have e9:=c6.size;have s1:=x1.size;have s2:=x2.size;have l3:=h4.lt;have l1:=h1.lt;obtain⟨r0,d1⟩:=RgOf.ex x.range;refine Iy (hG.ext c6) e8 λpt pins a6 w8 x8 hp hf hq hb h6 h8=>⟨x.name,h1.at1 (k:=1) (x4.trans x8) rfl,SE.CA.go (scanName_se hn λw9 x9=>⟨_,rfl,λh=>?_,λh=>bnd.drew λg6 c7=>?_⟩)⟩
 .exact JobT.mk (h4.ext (x8.trans x9)) rfl λw' b=>hR 23 B8 _ _ _ _ _ _ _ w' (b.ext (c6.trans (x8.trans x9)) oM) ⟨pins,r0,hp,d1,.remName d0 (by simpa using h)⟩ nO
 have d6:Af x.name=true:=by simpa using h
 have a5:=x8.trans (x9.trans c7);have a4:=c6.trans a5;have b2:=h8.ext (x9.trans c7);have b0:=h1.ext (x4.trans a5);refine⟨d,b2.at0 xR rfl,x.name,b0.at1 (k:=1) xR rfl,SE.FP.go (Nq (hm.d.ext a4) λg7 a8=>⟨_,rfl,bound ⟨e,λ_=>b2.at1 (k:=1) a8 rfl,x.name,λ_=>b0.at1 (k:=1) a8 rfl,?_⟩⟩)⟩;refine gCall.intro (AK s.m.dev x.name) (λ_ r hr=>SE.FP.go (Nq (hm.e.ext (a4.trans a8)) λd8 b5=>⟨_,rfl,hr d8 b5⟩)) λg4 d8 b5 e6=>bound ⟨o,λ_=>b2.at1 (k:=2) (a8.trans b5) rfl,x.name,λ_=>b0.at1 (k:=1) (a8.trans b5) rfl,?_⟩;refine gCall.intro (AK s.m.opt x.name) (λ_ r hr=>SE.FP.go (Nq (hm.o.ext (a4.trans (a8.trans b5))) λd9 d4=>⟨_,rfl,hr d9 d4⟩)) λg5 d9 d4 e7=>?_;rw[Zb0 e6 e7];have a7:=a8.trans (b5.trans d4);refine⟨λhc=>?_,λhc=>bnd.drew λf1 f4=>?_⟩
 .exact JobT.mk (h4.ext (a5.trans a7)) rfl λw' b=>hR 50 B8 _ _ _ _ _ _ _ w' (b.ext (a4.trans a7) oM) ⟨pins,r0,hp,d1,.remWant d0 d6 (by simpa using hc)⟩ nO
 have a0:=a7.trans f4;have b7:=a4.trans a0;have b4:=b2.ext a0;have b6:=b0.ext a0;have d7:=b7.size;refine⟨d,b4.at0 xR rfl,x.name,b6.at1 (k:=1) xR rfl,e,b4.at1 (k:=1) xR rfl,x.name,b6.at1 (k:=1) xR rfl,o,b4.at1 (k:=2) xR rfl,x.name,b6.at1 (k:=1) xR rfl,?_⟩;obtain⟨l1,l2,f9,_⟩:=hl;refine callX.intro (SE.DQ.go (GQ (n:=x.name) (hS.ext d7) (hm.d.ext b7) oM λt1 g8 c8 r1=>⟨c8,_,rfl,?_⟩));have b8:=b7.trans c8;refine callX.intro (SE.DQ.go (GQ (n:=x.name) (hS.ext b8.size) (hm.e.ext b8) oM λt2 g9 c3 r2=>⟨c3,_,rfl,?_⟩));have b9:=b8.trans c3;refine SE.DQ.go (GQ (n:=x.name) (hS.ext b9.size) (hm.o.ext b9) oM λt3 d2 c4 r3=>⟨_,rfl,?_⟩);have c9:=b9.trans c4;have a9:=c8.trans (c3.trans c4);have g1:=c8.size;have g2:=c3.size;have g3:=c4.size;have s8:=x8.size;have f0:=a0.size;have f5:=a5.size;have l6:=h8.lt;have s9:=x9.size;have g0:=c7.size;refine stw0.intro (b4.ext a9) (by simp[BZ]) λh0 e0 _ e3=>stw.intro e3 (o:=1) (by simp[BZ]) λh2 e1 _ e4=>stw.intro e4 (o:=2) (by simp[BZ]) λf2 e2 _ e5=>?_;have b1:But a6.block d2 f2:=e0.trans (e1.trans e2);have d5:a3.block≠a6.block:=oM;refine JobO.mk (p:=pt) (k:=true) (pr:=s.pruned) e5 (b1.box (h4.ext (a5.trans (a0.trans a9))) d5) rfl λd3 c5=>?_;have z1:=b1.1;have h3:=c5.1;have nS:∀{b:Nat},w.heap.size<=b-> ¬S b:=λh hb=>by have:=hS _ hb;omega
 have dn:∀{t:Sl} {L:LD},SlR depE d2 (λb=>S b\/(f1.heap.size<=b/\b<d2.heap.size)) t L->SlR depE d3 (λb=>S b\/(w.heap.size<=b/\b<d3.heap.size)) t L:=λh=>
  ((h.but b1 λh=>h.elim (nS oM) λh=>by omega).but c5 λh=>h.elim (nS oM) λh=>by omega).mono λb hb=>hb.imp id λh=>by omega
 refine hR 0 ⟨D7 s.m x.name,pins,true,s.pruned⟩ _ _ _ _ _ _ _ d3 (c5.ext (b1.ext c9 oM) oM) ⟨pins,r0,hp,d1,.rem d0 d6 (by rw[ox]at hc;exact hc)⟩ λ_=>⟨⟨?_,?_,?_,?_⟩,?_,rfl,rfl⟩
 .exact dn (((r1.read (fe (Jm _ _) oM)).ext (c3.trans c4)).mono λb hb=>hb.imp id λh=>by omega)
 .exact dn (((r2.read (fe (Jm _ _) oM)).ext c4).mono λb hb=>hb.imp id λh=>by omega)
 .exact dn ((r3.read (fe (Jm _ _) oM)).mono λb hb=>hb.imp id λh=>by omega)
 .exact dn ((hm.v.ext c9).mono λb hb=>.inl hb)
 .exact((((hf.low e9).ext ((x9.trans c7).trans (a0.trans a9))).but b1 λad h=>by have:=hb ad h;omega).but c5 λad h=>by have:=hb ad h;omega).pins hq |>.mono λb hb=>.inr hb
def TL:Bn prog 124:=enters_of func124 kR rfl
def Zam{R:JR}(hn:Ac x.name)(hm:ManS w S d e o v s.m)(hS:Old S w)(hG:SlR nodeE w S gS s.g)(c4:s.g≠[])(b0:x.op=5)(hR:Fc s x S w R):SE.JV d e o v gS tS s.pruned x.op x.name x.range x.kind x.pack x.n w R:=by
 unfold SE.JV;refine newS.intro λa w1 x1 ha e7 _=>newS.intro λa1 w2 x2 h1 e5 _=>newS.intro λa3 w4 x4 h4 e6 _=>⟨d,e,o,v,gS,tS,s.pruned,ha.at0 (r:=[]) (x2.trans x4) rfl,?_⟩;have a0:=x1.trans (x2.trans x4);have d8:=a0.size;have s1:=x1.size;have s2:=x2.size;have l3:=h4.lt;have l1:=h1.lt;obtain⟨r0,b4⟩:=RgOf.ex x.range;have nS:∀{b:Nat},w.heap.size<=b-> ¬S b:=λh hb=>by have:=hS _ hb;omega
 refine Iy (hG.ext a0) c4 λpt pins a6 w8 x8 hp hf hq hb h6 h8=>⟨x.name,h1.at1 (k:=1) (x4.trans x8) rfl,λh0=>?_,λh0=>⟨x.name,h1.at1 (k:=1) (x4.trans x8) rfl,SE.CA.go (scanName_se hn λw9 x9=>⟨_,rfl,λh=>?_,λh=>?_⟩)⟩⟩
 .refine stw.intro h8 (o:=4) (by simp[BZ]) λw9 b9 _ h9=>JobO.mk (p:=Sl.nil) (k:=true) (pr:=s.pruned) h9 (b9.box (h4.ext x8) oM) rfl λc5 c7=>?_;exact hR 0 ⟨s.m,[],true,s.pruned⟩ _ _ _ _ _ _ _ c5 (c7.ext (b9.ext (a0.trans x8) oM) oM) ⟨pins,r0,hp,b4,.updAll b0 h0⟩ λ_=>⟨(((hm.ext (a0.trans x8)).but b9 (nS oM)).but c7 (nS oM)).mono λb hb=>.inl hb,SlR.nil trivial,rfl,rfl⟩
 .exact JobT.mk (h4.ext (x8.trans x9)) rfl λw' b=>hR 23 B8 _ _ _ _ _ _ _ w' (b.ext (a0.trans (x8.trans x9)) oM) ⟨pins,r0,hp,b4,.updName b0 h0 (by simpa using h)⟩ nO
 have d6:Af x.name=true:=by simpa using h
 have b5:=x8.trans x9;have d1:=h8.ext x9;have c9:=h1.ext (x4.trans b5);have d4:=hf.ext x9;have e2:SlR pinE w9 (λb=>w4.heap.size<=b/\b<w9.heap.size) pt pins:=d4.pins hq;have d2:∀q:Pin,Ai q.name x.name=Aw x.name q:=λq=>SJ q x.name;refine⟨pt,d1.at1 (k:=4) xR rfl,SE.Hs.go (Pv (p:=Aw x.name) e2 (λq _ w' k x' hk=>⟨_,_,rfl,TL,SE.Ie.go ?_⟩) λc5 a4=>⟨_,rfl,λhc=>?_,λhc=>?_⟩)⟩
 .unfold SE.Ie;refine newS.intro λa2 w6 x6 c3 _ _=>⟨_,c3.at0 xR rfl,x.name,c9.at1 (k:=1) (x'.trans x6) rfl,?_⟩;rw[d2];exact hk w6 x6
 .exact JobT.mk (h4.ext (b5.trans a4)) rfl λw' b=>hR 50 B8 _ _ _ _ _ _ _ w' (b.ext (a0.trans (b5.trans a4)) oM) ⟨pins,r0,hp,b4,.updWant b0 h0 d6 (by simpa using hc)⟩ nO
 have d3:pins.any (Aw x.name)=true:=by simpa using hc
 have e9:=a4.size;have s9:=x9.size;have s8:=x8.size;have l6:=h8.lt;have b8:=b5.trans a4;have a7:∀{ad:Addr},pt.a=some ad->ad.block<w8.heap.size/\w4.heap.size<=ad.block/\ad.block<a6.block:=λh=>hb _ h;have b7:=d1.ext a4;have b6:=c9.ext a4;have d0:=h4.ext b8;refine⟨pt,b7.at1 (k:=4) xR rfl,SE.LL.go (Zd (d:=Aw x.name) (d4.ext a4) oM hq (λq e8 w' k e4 c1 c2 hk=>⟨_,_,rfl,TL,SE.Ie.go ?_⟩) λt c6 c8 b1 b2 bt d7=>⟨t,rfl,?_⟩)⟩
 .have e1:BoxAt w' a1 [vi x.op,.string x.name,.string x.range,vi x.kind,.string x.pack,vi x.n]:=by
   cases hpq:pt.a with
   |none=>exact b6.ext (c2 hpq)
   |some g=>exact(c1 g hpq).box b6 (by have:=a7 hpq;omega)
  unfold SE.Ie;refine newS.intro λa2 w6 x6 c3 _ _=>⟨_,c3.at0 xR rfl,x.name,e1.at1 (k:=1) x6 rfl,?_⟩;rw[d2];exact hk w6 x6
 have a8:=a0.trans b8;have d9:Ext w c6:=a8.trans' (c8.mono d8);have box:∀{ad:Addr} {cs:LV},BoxAt c5 ad cs->(∀g,pt.a=some g->ad.block≠g.block)->BoxAt c6 ad cs:=λ{ad cs} hb c4=>by
  cases hpq:pt.a with
  |none=>exact hb.ext (b2 hpq)
  |some g=>exact(b1 g hpq).box hb (c4 g hpq)
 have d5:ManS c6 S d e o v s.m:=by
  cases hpq:pt.a with
  |none=>exact(hm.ext a8).ext (b2 hpq)
  |some g=>exact(hm.ext a8).but (b1 g hpq) (nS (by have:=a7 hpq;omega))
 have s11:=c8.size;have tb:∀ad,t.a=some ad->ad.block≠a6.block/\ad.block≠a3.block:=λad h=>by obtain⟨g,hg,e⟩:=bt ad h;have:=a7 hg;omega
 refine stw.intro (box b7 λg h=>by have:=a7 h;omega) (o:=4) (by simp[BZ]) λf0 a5 _ e0=>JobO.mk (p:=t) (k:=true) (pr:=s.pruned) e0 (a5.box (box d0 λg h=>by have:=a7 h;omega) oM) rfl λe3 a9=>?_;have f1:=a5.1;have f2:=a9.1;refine hR 0 ⟨s.m,pins.filter (λq=>!Aw x.name q),true,s.pruned⟩ _ _ _ _ _ _ _ e3 (a9.ext (a5.ext d9 oM) oM) ⟨pins,r0,hp,b4,.upd b0 h0 d6 d3⟩ λ_=>⟨((d5.but a5 (nS oM)).but a9 (nS oM)).mono λb hb=>.inl hb,?_,rfl,rfl⟩;exact(((d7.low d8).but a5 λad h=>(tb ad h).1).but a9 λad h=>(tb ad h).2).pins (λq h=>hq q (io.1 h).1)|>.mono λb hb=>.inr hb
def Zae{R:JR}(hg:Gl w)(hn:Ac x.name)(hm:ManS w S d e o v s.m)(hS:Old S w)(hl:Jq s.m)(e4:MJ s.m)(hG:SlR nodeE w S gS s.g)(e3:s.g≠[])(b4:x.op=8)(hR:Fc s x S w R):SE.JS d e o v gS tS s.pruned x.op x.name x.range x.kind x.pack x.n w R:=by
 unfold SE.JS;refine newS.intro λa w1 x1 ha f1 _=>newS.intro λa1 w2 x2 h1 e9 _=>newS.intro λa3 w4 x4 h4 f0 _=>⟨d,e,o,v,gS,tS,s.pruned,ha.at0 (r:=[]) (x2.trans x4) rfl,?_⟩;have c9:=x1.trans (x2.trans x4);have e6:=c9.size;have s1:=x1.size;have s2:=x2.size;have l3:=h4.lt;have l1:=h1.lt;obtain⟨r0,d2⟩:=RgOf.ex x.range;have nS:∀{b:Nat},w.heap.size<=b-> ¬S b:=λh hb=>by have:=hS _ hb;omega
 have l4:=hl.2.2.2;refine Iy (hG.ext c9) e3 λpt pins a6 w8 x8 hp hf hq hb h6 h8=>⟨x.name,h1.at1 (k:=1) (x4.trans x8) rfl,SE.CA.go (scanName_se hn λw9 x9=>⟨_,rfl,λh=>?_,λh=>?_⟩)⟩
 .exact JobT.mk (h4.ext (x8.trans x9)) rfl λw' b=>hR 23 B8 _ _ _ _ _ _ _ w' (b.ext (c9.trans (x8.trans x9)) oM) ⟨pins,r0,hp,d2,.ovName b4 (by simpa using h)⟩ nO
 have c3:Af x.name=true:=by simpa using h
 have b5:=x8.trans x9;have a8:=c9.trans b5;have b7:=h8.ext x9;have c8:=h1.ext (x4.trans b5);have s8:=x8.size;have s9:=x9.size;have l6:=h8.lt;have out:∀{w11 w12:Wd} {t:Sl} {L:LD} {r:Option (List Span)},Ext w9 w11->But a6.block w11 w12->BoxAt w12 a6 (BZ d e o t pt true s.pruned)->SlR depE w11 (λb=>S b\/(w9.heap.size<=b/\b<w11.heap.size)) t L->RgOf x.range r->AskR s.m pins s.pruned x r 0 ⟨⟨s.m.deps,s.m.dev,s.m.opt,L⟩,pins,true,s.pruned⟩->∀{w13:Wd},Ext w12 w13->JobO w13 a6 a3 0 R:=λ{w11 w12 t L r} a5 b6 e2 ht hr d8 {w13} a7=>by
  have f2:=a5.size;have f7:=b6.1;have f4:=a7.size;refine JobO.mk (p:=pt) (k:=true) (pr:=s.pruned) (e2.ext a7) ((b6.box (h4.ext (b5.trans a5)) oM).ext a7) rfl λb0 a4=>?_;have e8:=a4.1;have dn:∀{t:Sl} {L:LD},SlR depE w11 (λb=>S b\/(w9.heap.size<=b/\b<w11.heap.size)) t L->SlR depE b0 (λb=>S b\/(w.heap.size<=b/\b<b0.heap.size)) t L:=λh=>
   (((h.but b6 λh=>h.elim (nS oM) λh=>by omega).ext a7).but a4 λh=>h.elim (nS oM) λh=>by omega).mono λb hb=>hb.imp id λh=>by omega
  have b8:=(hm.ext (a8.trans a5)).mono (S':=λb=>S b\/(w9.heap.size<=b/\b<w11.heap.size)) λb hb=>.inl hb;refine hR 0 ⟨⟨s.m.deps,s.m.dev,s.m.opt,L⟩,pins,true,s.pruned⟩ _ _ _ _ _ _ _ b0 (a4.ext ((b6.ext (a8.trans a5) oM).trans a7) oM) ⟨pins,r,hp,hr,d8⟩ λ_=>⟨⟨dn b8.d,dn b8.e,dn b8.o,dn ht⟩,?_,rfl,rfl⟩;exact(((((hf.low e6).ext (x9.trans a5)).but b6 λad h=>by have:=hb ad h;omega).ext a7).but a4 λad h=>by have:=hb ad h;omega).pins hq |>.mono λb hb=>.inr hb
 refine⟨x.range,c8.at1 (k:=2) xR rfl,λh0=>bnd.drew λe0 a9=>?_,λh0=>?_⟩
 .refine⟨v,b7.at1 (k:=3) a9 rfl,x.name,c8.at1 (k:=1) a9 rfl,SE.FP.go (Nq (hm.v.ext (a8.trans a9)) λw11 a5=>⟨_,rfl,λh=>?_,λh=>bnd.drew λw12 c6=>?_⟩)⟩
  .exact JobT.mk (h4.ext (b5.trans (a9.trans a5))) rfl λw' b=>hR 50 B8 _ _ _ _ _ _ _ w' (b.ext (a8.trans (a9.trans a5)) oM) ⟨pins,r0,hp,d2,.ovWant b4 c3 h0 (by simpa using h)⟩ nO
  have a0:=a9.trans (a5.trans c6);have d9:=a0.size;refine⟨v,b7.at1 (k:=3) a0 rfl,x.name,c8.at1 (k:=1) a0 rfl,SE.DQ.go (GQ (n:=x.name) (hS.ext (a8.trans a0).size) (hm.v.ext (a8.trans a0)) oM λt w13 a7 ht=>⟨_,rfl,stw.intro (b7.ext (a0.trans a7)) (o:=3) (by simp[BZ]) λb0 a4 _ c7=>?_⟩)⟩;exact out (a0.trans a7) a4 c7 ((ht.read (fe (Jm _ _) oM)).mono λb hb=>hb.imp id λh=>by omega) d2 (.ovNone b4 c3 h0 (by simpa using h)) xR
 .refine⟨_,_,_,_,_,_,c8.at0 (r:=[]) xR rfl,SE.Ia.go (TE (hg.ext a8) (λe0 hr a9=>⟨_,_,_,rfl,newS.set rfl λe1 w11 a5 d5 d6=>⟨λ_=>?_,λh=>absurd dC h⟩⟩) λl tr e0 hr a9 e5=>⟨_,_,_,rfl,newS.set rfl λe1 w11 a5 d5 d6=>⟨λh=>absurd rfl h,λ_=>bnd.drew λw12 c6=>?_⟩⟩)⟩
  .exact JobT.mk (h4.ext (b5.trans (a9.trans a5))) rfl λw' b=>hR 21 B8 _ _ _ _ _ _ _ w' (b.ext (a8.trans (a9.trans a5)) oM) ⟨pins,none,hp,hr,.ovRange b4 c3 h0 rfl⟩ nO
  have a0:=a9.trans (a5.trans c6);have c5:=a5.trans c6;have d9:=a0.size;have e7:=c5.size;have d1:=a8.trans a0;have hO:Old (λb=>S b\/(w9.heap.size<=b/\b<w12.heap.size)) w12:=λb hb=>hb.elim (λh=>by have:=hS b h;have:=d1.size;omega) λh=>h.2;have d3:SlR spanE w12 (λb=>S b\/(w9.heap.size<=b/\b<w12.heap.size)) tr l:=(e5.ext c5).mono λb hb=>.inr ⟨hb.1,by have:=hb.2;omega⟩;refine⟨v,b7.at1 (k:=3) a0 rfl,x.name,tr,d5.at0 (r:=[]) c6 rfl,SE.Ig.go (TS (d:=⟨x.name,l⟩) hO ((hm.v.ext d1).mono λb hb=>.inl hb) oM e4.2.2.2 hn d3 λt w13 a7 ht=>⟨_,rfl,stw.intro (b7.ext (a0.trans a7)) (o:=3) (by simp[BZ]) λb0 a4 _ c7=>?_⟩)⟩;have b2:=a0.trans a7;have f5:=a7.size;have e8:=a4.1;have d0:SlR depE w13 (λb=>S b\/(w9.heap.size<=b/\b<w13.heap.size)) t (withD s.m.over ⟨x.name,l⟩):=ht.mono λb hb=>hb.elim (λh=>h.imp id λh=>by omega) λh=>.inr ⟨oM,h.2⟩;have c4:Ext w b0:=a4.ext (a8.trans b2) oM;have nb:∀{W:Wd},¬(S a6.block\/(w9.heap.size<=a6.block/\a6.block<W.heap.size)):=λh=>h.elim (nS oM) λh=>by omega
  have b9:=(hm.ext (a8.trans b2)).mono (S':=λb=>S b\/(w9.heap.size<=b/\b<w13.heap.size)) λb hb=>.inl hb;have d7:Old (λb=>S b\/(w9.heap.size<=b/\b<w13.heap.size)) b0:=λb hb=>hb.elim (λh=>by have:=hS b h;have:=c4.size;omega) λh=>by omega
  refine⟨d,e,o,t,c7.at0 xR rfl,SE.FX.go (NJ (m:=⟨s.m.deps,s.m.dev,s.m.opt,withD s.m.over ⟨x.name,l⟩⟩) (hg.ext c4).tab d7 (b9.d.but a4 nb) (b9.e.but a4 nb) (b9.o.but a4 nb) (d0.but a4 nb) λf6 d4=>⟨_,rfl,λh=>?_,λh=>?_⟩)⟩
  .exact JobT.mk ((a4.box (h4.ext (b5.trans b2)) oM).ext d4) rfl λw' b=>hR 26 B8 _ _ _ _ _ _ _ w' (b.ext (c4.trans d4) oM) ⟨pins,_,hp,hr,.ovFull b4 c3 h0 rfl (by simpa using h)⟩ nO
  .exact out b2 a4 c7 d0 hr (.ov b4 c3 h0 rfl (by simpa using h)) d4
end
def Uv{t:Nat->Sl}{v p:Sl}{k:Bool}(h:BoxAt w a (BZ (t 0) (t 1) (t 2) v p k pr))(hn:n<3)(hx:Ext w w'):ldc w' (a.add n) [Sl.v (t n)]:=by
 have:n=0\/n=1\/n=2:=oM;obtain rfl|rfl|rfl:=this
 .exact h.at1 (k:=0) hx rfl
 .exact h.at1 (k:=1) hx rfl
 .exact h.at1 (k:=2) hx rfl
def Uw{t:Nat->Sl}{v p y:Sl}{k:Bool}(h:BoxAt w a (BZ (t 0) (t 1) (t 2) v p k pr))(hn:n<3)
  (hk:∀(u:Nat->Sl) w',u n=y->(∀i,i≠n->u i=t i)->But a.block w w'->BoxAt w' a (BZ (u 0) (u 1) (u 2) v p k pr)->K w'):stw w (a.add n) [y.v] K:=by
 refine stw.intro h (o:=n) (by simp[BZ];omega) λw' b _ hb=>hk (λi=>if i=n then y else t i) w' (if_pos rfl) (λi hi=>if_neg hi) b ?_;have:n=0\/n=1\/n=2:=oM;rcases this with rfl|rfl|rfl<;>exact hb
section
variable {s:Stt} {x:StepC} {d e o v gS tS:Sl} {S:Nat->Prop} {w:Wd}
def Zu{R:JR}(hg:Gl w)(hn:Ac x.name)(hm:ManS w S d e o v s.m)(hS:Old S w)(hl:Jq s.m)(g2:MJ s.m)(hG:SlR nodeE w S gS s.g)(g0:s.g≠[])(d3:x.op=3)(hR:Fc s x S w R):SE.JL d e o v gS tS s.pruned x.op x.name x.range x.kind x.pack x.n w R:=by
 unfold SE.JL;refine newS.intro λa w1 x1 ha m8 _=>newS.intro λa1 w2 x2 h1 m6 _=>newS.intro λa3 w4 x4 h4 m7 _=>?_;have e6:=x1.trans (x2.trans x4);have n2:=e6.size;have s1:=x1.size;have s2:=x2.size;have s4:=x4.size;have l3:=h4.lt;have l1:=h1.lt;obtain⟨r0,k3⟩:=RgOf.ex x.range;obtain⟨b4,g1⟩:=PinsAre.ex s.g;have nS:∀{b:Nat},w.heap.size<=b-> ¬S b:=λh hb=>by have:=hS _ hb;omega
 have bad:∀{w':Wd} {c:Int},c≠0->Ext w4 w'->(∃pins r,PinsAre s.g pins/\RgOf x.range r/\AskR s.m pins s.pruned x r c B8)->stw w' a3 [Sl.nil.v,Sl.nil.v,Sl.nil.v,Sl.nil.v,Sl.nil.v,.bool false,.bool false] λw'=>JobT w' a3 c R:=λ{w' c} hc hx hq=>
  JobT.mk (h4.ext hx) rfl λw'' b=>hR c B8 _ _ _ _ _ _ _ w'' (b.ext (e6.trans hx) oM) hq λh=>absurd h hc
 refine⟨x.name,h1.at1 (k:=1) x4 rfl,SE.CA.go (scanName_se hn λw5 x5=>⟨_,rfl,λh=>bad dC x5 ⟨b4,r0,g1,k3,.addName d3 (by simpa using h)⟩,λh=>?_⟩)⟩;have e3:Af x.name=true:=by simpa using h
 have l9:=e6.trans x5;refine⟨_,_,_,_,_,_,(h1.ext (x4.trans x5)).at0 (r:=[]) xR rfl,SE.Ia.go (TE (hg.ext l9) (λe4 hr e7=>⟨_,_,_,rfl,newS.set rfl λj3 i9 d8 f4 g8=>⟨λ_=>bad dC (x5.trans (e7.trans d8)) ⟨b4,none,g1,hr,.addRange d3 e3 rfl⟩,λh=>absurd dC h⟩⟩) λl tr e4 hr e7 k4=>⟨_,_,_,rfl,newS.set rfl λj3 i9 d8 f4 g8=>⟨λh=>absurd rfl h,λ_=>?_⟩⟩)⟩;have a7:=x5.trans (e7.trans d8);have d7:=e6.trans a7;have c9:=h1.ext (x4.trans a7);have m4:=a7.size;have s11:=d8.size;have n0:=f4.lt;have s5:=x5.size;have n4:=e7.size;refine⟨x.kind,c9.at1 (k:=3) xR rfl,bound ⟨x.kind,λ_=>c9.at1 (k:=3) xR rfl,λhc=>bad dC a7 ⟨b4,_,g1,hr,.addKind d3 e3 rfl (by simpa using hc)⟩,λhc=>?_⟩⟩;have hk:0<=x.kind/\x.kind<=2:=by rw[gb,decide_eq_false_iff_not,decide_eq_false_iff_not]at hc;omega
 refine⟨d,e,o,v,gS,tS,s.pruned,(ha.ext ((x2.trans x4).trans a7)).at0 (r:=[]) xR rfl,?_⟩;refine Iy (hG.ext d7) g0 λpt pins a6 w8 x8 hp hf hq hb h6 h8=>bnd.drew λn9 j2=>newS.intro λf1 d5 m1 j4 m3 _=>?_;have c3:=j2.trans m1;have a5:=x8.trans c3;have b9:=d7.trans a5;have h0:=h8.ext c3;have d0:=c9.ext a5;have g9:=h4.ext (a7.trans a5);have f5:=f4.ext a5;have s8:=x8.size;have m5:=c3.size;have l6:=h8.lt;have n5:=j2.size;have g3:=k4.ext (d8.trans a5);let Lf:Nat->LD:=λi=>if i=0 then s.m.deps else if i=1 then s.m.dev else s.m.opt
 let F:Nat->LD:=λi=>if(i:Int)=x.kind then withD (Bk (Lf i) x.name) ⟨x.name,l⟩else Bk (Lf i) x.name
 have f7:∀i,(Lf i).length<=999:=λi=>by
  show(if i=0 then s.m.deps else if i=1 then s.m.dev else s.m.opt).length<=999;split
  .exact hl.1
  .split
   .exact hl.2.1
   .exact hl.2.2.1
 have j7:∀i,RiseD (Lf i):=λi=>by
  show RiseD (if i=0 then s.m.deps else if i=1 then s.m.dev else s.m.opt);split
  .exact g2.1
  .split
   .exact g2.2.1
   .exact g2.2.2.1
 let Q:Wd->Nat->Prop:=λw' b=>S b\/(e4.heap.size<=b/\b<w'.heap.size/\b≠a6.block)\/(w5.heap.size<=b/\b<e4.heap.size);have f8:∀w',¬Q w' a6.block:=λw' h=>h.elim (nS oM) λh=>h.elim (λh=>h.2.2 rfl) λh=>by omega
 have d2:∀{w'},Ext w w'->e4.heap.size<=w'.heap.size->Old (Q w') w':=λ{w'} hx k5 b hb=>hb.elim (λh=>by have:=hS b h;have:=hx.size;omega) λh=>h.elim (λh=>h.2.1) λh=>by omega
 have b5:∀{w' w''},w'.heap.size<=w''.heap.size->∀b,Q w' b->Q w'' b:=λk5 b hb=>hb.imp id λh=>h.imp (λh=>⟨h.1,oM,h.2.2⟩) id;have b7:=hm.ext b9;refine loop1.up (N:=3) (by rw[Al];omega) (λn w'=>∃t:Nat->Sl,But a6.block d5 w'/\BoxAt w' a6 (BZ (t 0) (t 1) (t 2) v pt true s.pruned)/\∀i,i<3->SlR depE w' (Q w') (t i) (if i<n then F i else Lf i))
  ⟨λi=>if i=0 then d else if i=1 then e else o,xR.but _,h0,λi hi=>?_⟩ λn w' n1 m9 ⟨t,b',e1,ht⟩ i2=>⟨λh7=>join.named λJ hJ=>?_,λj8=>join.named λJ hJ=>?_⟩
 .rw[if_neg oM];have:i=0\/i=1\/i=2:=oM;obtain rfl|rfl|rfl:=this
  .exact b7.d.mono λb hb=>.inl hb
  .exact b7.e.mono λb hb=>.inl hb
  .exact b7.o.mono λb hb=>.inl hb
 .have a4:n<3:=by have:((n:Int))<3:=h7;omega
  have h3:∀(t':Nat->Sl)(w'':Wd),But a6.block d5 w''->BoxAt w'' a6 (BZ (t' 0) (t' 1) (t' 2) v pt true s.pruned)->(∀i,i<3->SlR depE w'' (Q w'') (t' i) (if i<n+1 then F i else Lf i))->J w'':=λt' w'' q1 q2 q3=>by rw[hJ];exact i2 a4 w'' ⟨t',q1,q2,q3⟩
  clear hJ i2;have bx:∀{w'':Wd} {ad:Addr} {cs:LV},But a6.block d5 w''->BoxAt d5 ad cs->ad.block≠a6.block->BoxAt w'' ad cs:=λb h g0=>b.box h g0;have zb:=b'.1;have d4:BoxAt w' f1 [.pointer (some (a6.add 0)),.pointer (some (a6.add 1)),.pointer (some (a6.add 2))]:=bx b' j4 oM;have i3:ldc w' (f1.add ((n:Int).toNat*1)) [.pointer (some (a6.add n))]:=by
   rw[ec,pw];have:n=0\/n=1\/n=2:=oM;obtain rfl|rfl|rfl:=this
   .exact d4.at1 (k:=0) xR rfl
   .exact d4.at1 (k:=1) xR rfl
   .exact d4.at1 (k:=2) (r:=[]) xR rfl
  have i4:=ht n a4;rw[if_neg (Nat.lt_irrefl n)]at i4;have g6:Ext w w':=b'.ext b9 oM;refine⟨f1,⟨rfl,oM,h7⟩,some (a6.add n),i3,bnd.drew λo0 c8=>⟨a6.add n,rfl,t n,Uv e1 a4 c8,x.name,((bx b' d0 oM).ext c8).at1 (k:=1) xR rfl,?_⟩⟩;have k9:=c8.size;refine SE.DQ.go (GQ (n:=x.name) ((d2 g6 oM).ext k9) (i4.ext c8) (by have:=f7 n;omega) λg5 b0 g7 j5=>⟨_,rfl,a6.add n,rfl,Uw (e1.ext (c8.trans g7)) a4 λu j0 hu i5 c5 d1=>?_⟩);have d9:=c8.trans g7;have c4:But a6.block d5 j0:=b'.trans ((d9.but _).trans c5);have s21:=g7.size;have o4:=c5.1;have a0:∀{w'':Wd} {tt:Sl} {L:LD},But a6.block b0 w''->SlR depE b0 (Q b0) tt L->SlR depE w'' (Q w'') tt L:=λb h=>(h.but b (f8 _)).mono (b5 b.1);have i7:SlR depE b0 (Q b0) g5 (Bk (Lf n) x.name):=(j5.read (fe (Jm _ _) (by have:=f7 n;omega))).mono λb hb=>hb.elim (b5 oM b) λh=>.inr (.inl ⟨oM,h.2,oM⟩);have f0:∀i,i<3->SlR depE b0 (Q b0) (t i) (if i<n then F i else Lf i):=λi hi=>((ht i hi).ext d9).mono (b5 oM);refine⟨x.kind,(bx c4 d0 oM).at1 (k:=3) xR rfl,λf9=>bnd.drew λe5 a8=>?_,λf9=>?_⟩
  .have k7:ldc e5 (a6.add n) [g5.v]:=(by rw[<-hu];exact Uv d1 a4 a8);have m0:Ext w e5:=(c4.ext b9 oM).trans a8;have l0:=a8.size;have g4:SlR spanE e5 (Q e5) tr l:=((g3.but c4 λh=>by omega).ext a8).mono λb hb=>.inr (.inr ⟨oM,oM⟩);refine⟨a6.add n,rfl,g5,k7,x.name,tr,((bx c4 f5 oM).ext a8).at0 (r:=[]) xR rfl,SE.Ig.go (TS (d:=⟨x.name,l⟩) (d2 m0 oM) (((a0 c5 i7).ext a8).mono (b5 l0)) (by have:=Jm (Lf n) x.name;have:=f7 n;omega) ((j7 n).without _) hn g4 λn8 l7 e8 j6=>⟨_,rfl,a6.add n,rfl,Uw (d1.ext (a8.trans e8)) a4 λu2 j1 k6 i6 e0 h2=>?_⟩)⟩;have l5:=e8.size;have m2:=e0.1;have f2:But a6.block b0 j1:=c5.trans (((a8.trans e8).but _).trans e0);refine h3 u2 j1 (c4.trans (((a8.trans e8).but _).trans e0)) h2 λi hi=>?_;by_cases c7:i=n
   .subst c7;rw[if_pos (mz _),k6];have hF:F i=withD (Bk (Lf i) x.name) ⟨x.name,l⟩:=if_pos f9;rw[hF];exact((j6.mono (S':=Q l7) λb hb=>hb.elim (b5 l5 b) λh=>.inr (.inl ⟨oM,h.2,oM⟩)).but e0 (f8 _)).mono (b5 m2)
   .rw[i6 i c7,i5 i c7];have:=a0 f2 (f0 i hi);by_cases a9:i<n
    .rw[if_pos a9]at this;rw[if_pos oM];exact this
    .rw[if_neg a9]at this;rw[if_neg oM];exact this
  .refine h3 u j0 c4 d1 λi hi=>?_;by_cases c7:i=n
   .subst c7;rw[if_pos (mz _),hu];have hF:F i=Bk (Lf i) x.name:=if_neg f9;rw[hF];exact a0 c5 i7
   .rw[i5 i c7];have:=a0 c5 (f0 i hi);by_cases a9:i<n
    .rw[if_pos a9]at this;rw[if_pos oM];exact this
    .rw[if_neg a9]at this;rw[if_neg oM];exact this
 .have a4:n=3:=by have: ¬((n:Int))<3:=j8;omega
  subst a4;have zb:=b'.1;have t0:=ht 0 oM;have t1:=ht 1 oM;have t2:=ht 2 oM;rw[if_pos oM]at t0 t1 t2;have h9:(⟨F 0,F 1,F 2,s.m.over⟩:Mani)=D6 s.m x.kind ⟨x.name,l⟩:=by have:x.kind=0\/x.kind=1\/x.kind=2:=oM;show(⟨if((0:Nat):Int)=x.kind then _ else _,if((1:Nat):Int)=x.kind then _ else _,if((2:Nat):Int)=x.kind then _ else _,s.m.over⟩:Mani)=_;unfold D6 D7;rcases this with h|h|h<;>rw[h]<;>rfl
  have k8:SlR depE w' (Q w') v s.m.over:=(b7.v.but b' (nS oM)).mono λb hb=>.inl hb;have g6:Ext w w':=b'.ext b9 oM;have fin:∀{w'':Wd} {pr:Bool},But a6.block w' w''->BoxAt w'' a6 (BZ (t 0) (t 1) (t 2) v pt true pr)->pr=(s.pruned&& !decide (x.kind=1))->J w'':=by
   subst hJ;intro w'' pr b2 e2 j9;have z2:=b2.1;have a0:∀{tt:Sl} {L:LD},SlR depE w' (Q w') tt L->SlR depE w'' (Q w'') tt L:=λh=>(h.but b2 (f8 _)).mono (b5 z2);have b8:Ext w w'':=b2.ext g6 oM;have k0:=a0 t0;have k1:=a0 t1;have k2:=a0 t2;have kv:=a0 k8;refine⟨t 0,t 1,t 2,v,e2.at0 xR rfl,SE.FX.go (NJ (m:=⟨F 0,F 1,F 2,s.m.over⟩) (hg.ext b8).tab (d2 b8 oM) k0 k1 k2 kv λl8 b6=>⟨_,rfl,λh=>?_,λh=>?_⟩)⟩
   all_goals
    rw[h9]at h;have e9:BoxAt l8 a3 _:=(b2.box (b'.box g9 oM) oM).ext b6;have n7:=b6.size
   .exact JobT.mk e9 rfl λd6 c6=>hR 26 B8 _ _ _ _ _ _ _ d6 (c6.ext (b8.trans b6) oM) ⟨pins,_,hp,hr,.addFull d3 e3 rfl hk.1 hk.2 (by simpa using h)⟩ nO
   .refine JobO.mk (e2.ext b6) e9 rfl λd6 c6=>?_;have o5:=c6.1;have dn:∀{tt:Sl} {L:LD},SlR depE w'' (Q w'') tt L->SlR depE d6 (λb=>S b\/(w.heap.size<=b/\b<d6.heap.size)) tt L:=λh=>((h.ext b6).but c6 λh=>h.elim (nS oM) λh=>h.elim (λh=>by omega) λh=>by omega).mono λb hb=>hb.imp id λh=>h.elim (λh=>by omega) λh=>(by omega);refine hR 0 ⟨D6 s.m x.kind ⟨x.name,l⟩,pins,true,s.pruned&& !decide (x.kind=1)⟩ _ _ _ _ _ _ _ d6 (c6.ext (b8.trans b6) oM) ⟨pins,_,hp,hr,.add d3 e3 rfl hk.1 hk.2 (by simpa using h)⟩ λ_=>⟨?_,?_,rfl,j9⟩
    .rw[<-h9];exact⟨dn k0,dn k1,dn k2,dn kv⟩
    .have h5:=(hf.ext c3).but (b'.trans b2) λad h=>(by have:=hb ad h;omega);exact(((h5.ext b6).low (show w.heap.size<=i9.heap.size from d7.size)).but c6 λad h=>by have:=hb ad h;omega).pins hq |>.mono λb hb=>.inr hb
  clear hJ;refine⟨x.kind,(b'.box d0 oM).at1 (k:=3) xR rfl,λf6=>?_,λf6=>?_⟩
  .refine stw.intro e1 (o:=6) (by simp[BZ]) λw'' b2 _ e2=>fin b2 e2 (by rw[decide_eq_true f6,Bool.not_true,Bool.and_false])
  .exact fin (xR.but _) e1 (by rw[decide_eq_false f6,Bool.not_false,Bool.and_true])
end
def He{R:Sl->Wp}(hS:Old S w)(hs:SlR depE w S s l)(hR:∀t w',Ext w w'->SlP depP w' (λb=>w.heap.size<=b/\b<w'.heap.size) t l->R t w'):SE.EF s w R:=Nc hS hs hR
def Vn{p:Pack}{e:Sl}{R:Bs->Int->Int->Int->Sl->Sl->Sl->Wp}(hS:Old S w)(hd:SlR depE w S d p.deps)(he:SlR depE w S e p.peers)(ho:SlR depE w S o p.opt)
  (hR:∀d' e' o' w',Ext w w'->SlP depP w' (λb=>w.heap.size<=b/\b<w'.heap.size) d' p.deps->SlP depP w' (λb=>w.heap.size<=b/\b<w'.heap.size) e' p.peers->SlP depP w' (λb=>w.heap.size<=b/\b<w'.heap.size) o' p.opt->R p.name p.v.ma p.v.mi p.v.pa d' e' o' w'):
  SE.ID p.name p.v.ma p.v.mi p.v.pa d e o w R:=by
 unfold SE.ID;refine newS.intro λa w1 x1 hb ha _=>newS.intro λa1 w2 x2 a6 c6 c7=>bnd.drew λw3 x3=>?_;have a0:Ext w w3:=x1.trans (x2.trans x3);have s1:=x1.size;have s2:=x2.size;have s3:=x3.size;refine⟨d,hb.at1 (x2.trans x3) rfl,e,hb.at1 (x2.trans x3) rfl,o,hb.at1 (x2.trans x3) rfl,?_⟩;refine callX.intro (SE.EF.go (He (hS.ext a0.size) (hd.ext a0) λd' w4 x4 b6=>⟨x4,_,rfl,?_⟩));refine callX.intro (SE.EF.go (He (hS.ext (a0.trans x4).size) (he.ext (a0.trans x4)) λe' w5 x5 c3=>⟨x5,_,rfl,?_⟩));refine SE.EF.go (He (hS.ext (a0.trans (x4.trans x5)).size) (ho.ext (a0.trans (x4.trans x5))) λo' w6 x6 c4=>⟨_,rfl,?_⟩);have s4:=x4.size;have s5:=x5.size;have s6:=x6.size;have c5:Ext w w6:=a0.trans (x4.trans (x5.trans x6));have k1:a.block<w3.heap.size:=by have:=hb.lt;omega
 have k2:a1.block<w3.heap.size:=by have:=a6.lt;omega
 have hD:=(b6.ext (x5.trans x6)).mono (S':=λb=>w3.heap.size<=b/\b<w6.heap.size) λb hb=>⟨hb.1,oM⟩;have hE:=(c3.ext x6).mono (S':=λb=>w3.heap.size<=b/\b<w6.heap.size) λb hb=>⟨oM,oM⟩;have hO:=c4.mono (S':=λb=>w3.heap.size<=b/\b<w6.heap.size) λb hb=>⟨oM,oM⟩;have b0:BoxAt w6 a _:=hb.ext (x2.trans (x3.trans (x4.trans (x5.trans x6))));have a8:BoxAt w6 a1 _:=a6.ext (x3.trans (x4.trans (x5.trans x6)));refine stw.intro b0 sI λw7 b7 _ b2=>stw.intro b2 sI λw8 b8 _ b4=>stw.intro b4 sI λw9 b9 _ b5=>⟨_,_,_,_,_,_,_,b5.ldc.pre rfl,?_⟩;have a5:a1.block≠a.block:=by have:=hb.lt;omega
 refine stw0.intro (b9.box (b8.box (b7.box a8 a5) a5) a5) sI λa9 a4 _ a7=>⟨_,_,_,_,_,_,_,a7.ldc.pre rfl,?_⟩;have n1: ¬(w3.heap.size<=a.block/\a.block<w6.heap.size):=oM;have n2: ¬(w3.heap.size<=a1.block/\a1.block<w6.heap.size):=oM;have z7:=b7.size;have z8:=b8.size;have z9:=b9.size;have c8:=a4.size;have up:∀b,(w3.heap.size<=b/\b<w6.heap.size)->(w.heap.size<=b/\b<a9.heap.size):=λb hb=>⟨oM,oM⟩;refine hR d' e' o' a9 ?_ (((((hD.but b7 n1).but b8 n1).but b9 n1).but a4 n2).mono up) (((((hE.but b7 n1).but b8 n1).but b9 n1).but a4 n2).mono up) (((((hO.but b7 n1).but b8 n1).but b9 n1).but a4 n2).mono up);exact a4.ext (b9.ext (b8.ext (b7.ext c5 oM) oM) oM) oM
def Q4{p:Pack}(h:AQ p=true):C5 p=true/\(CR p).length<=4096:=by unfold AQ at h;simp only[dx,decide_eq_true_eq]at h;exact⟨by first|exact h.1.2|exact h.2.1|exact h.1.1.2|exact h.1,by first|exact h.2|exact h.2.2⟩
def Zfu{p:Pack}{e:Sl}{R:Bs->Int->Wp}(ht:Tab w)(hN:Ac p.name)(hd:SlR depE w S d p.deps)(he:SlR depE w S e p.peers)(ho:SlR depE w S o p.opt)
  (h0:∀w',Ext w w'->AQ p=true->R (B (CR p)) 0 w') (h1:∀w',Ext w w'->AQ p=false->R ⟨#[]⟩ 24 w'):SE.KY p.name p.v.ma p.v.mi p.v.pa d e o w R:=by
 unfold SE.KY;refine newS.intro λa w1 x1 a4 _ _=>⟨_,_,_,_,d,e,o,a4.ldc.pre (r:=[]) rfl,?_⟩;refine SE.Gc.go (NM (p:=p) (ht.ext x1) hN (hd.ext x1) (he.ext x1) (ho.ext x1) λw2 x2=>⟨_,rfl,λh=>h1 w2 (x1.trans x2) (by simpa using h),λh=>?_⟩);have h:AQ p=true:=by simpa using h
 have a0:=x1.trans x2;refine⟨_,_,_,_,d,e,o,(a4.ext x2).ldc.pre (r:=[]) rfl,?_⟩;exact SE.IF.go (Vp (p:=p) (ht.ext a0) (Q4 h).1 (hd.ext a0) (he.ext a0) (ho.ext a0) λw3 x3=>⟨_,rfl,h0 w3 (a0.trans x3) h⟩)
def E7(home n:LU):LU:=if home= [47]then home++n else(home++[47])++n
def tPackage:LU:=[112,97,99,107,97,103,101]
def tModules:LU:=[109,111,100,117,108,101,115]
def Fq(T:List Dir)(i:Nat)(d:Dir):List FileC:=
 (if i=0 then []else [⟨B (A5 d.path),true,⟨#[]⟩⟩,⟨B (E7 (A5 d.path) tPackage),false,B (CR d.pack)⟩])++(if C4 T d.path T.length=[]then []else [⟨B (E7 (A5 d.path) tModules),true,⟨#[]⟩⟩])
def DF(T:List Dir)(n:Nat):List FileC:=(List.range n).flatMap λi=>match T[i]? with
 |some d=>Fq T i d
 |none=>[]
def Zba{T:List Dir}(h:i<T.length):DF T (i+1)=DF T i++Fq T i T[i]:=by unfold DF;rw[List.range_succ,qd];simp[dt h]
def Zn(T:List Dir)(i:Nat)(d:Dir):(Fq T i d).length<=3:=by unfold Fq;split<;>split<;>simp
def PN(T:List Dir):∀n,(DF T n).length<=3*n
 |0=>by simp[DF]
 |n+1=>by
  have:=PN T n;unfold DF at*;rw[List.range_succ,qd,du];have h1:((List.flatMap (λi=>match T[i]? with|some d=>Fq T i d|none=>[]) [n])).length<=3:=by
   simp only[List.flatMap_cons,List.flatMap_nil,gd];split
   .exact Zn _ _ _
   .simp
  omega
def headFiles(s:Stt):List FileC:=[⟨⟨#[47,109,97,110,105,102,101,115,116]⟩,false,B (DV s.m)⟩,⟨⟨#[47,108,111,99,107]⟩,false,B (I3 s.g)⟩]++(if s.pruned then [⟨⟨#[47,112,114,117,110,101,100]⟩,false,⟨#[]⟩⟩]else [])
def rawFiles(s:Stt):List FileC:=headFiles s++DF s.T s.T.length
def emptyB(s:Stt):Bool:=decide (s.m=⟨[],[],[],[]⟩)&&(decide (s.g.length=1)&&(decide (s.T.length=1)&& !s.pruned))
structure FilesR(s:Stt)(l:List FileC):Prop where
 perm:l.Perm (if emptyB s then []else rawFiles s)
 sorted:l.Pairwise λx y=>¬A7 y.path x.path<0
def ZC{T:List Dir}{e v:Sl}(hd:SlR depE w S' d m.deps)(he:SlR depE w S' e m.dev)(ho:SlR depE w S' o m.opt)(hv:SlR depE w S' v m.over)
  (hs:SlR dirE w S s T) (hg:SlR nodeE w Q u g) (hR:∀w',Ext w w'->R (emptyB ⟨m,g,T,pr⟩) w'):SE.K2 d e o v u s pr w R:=by
 unfold SE.K2;have a5:=hs.len;have a4:=hg.len;refine newS.intro λa w1 x1 a0 _ _=>⟨d,e,o,v,a0.at0 xR rfl,?_⟩;refine SE.KL.go (Zei (m:=m) (k:=⟨[],[],[],[]⟩) (S:=S') (T:=λ_=>False) (hd.ext x1) (he.ext x1) (ho.ext x1) (hv.ext x1) (SlR.nil trivial) (SlR.nil trivial) (SlR.nil trivial) (SlR.nil trivial) λw2 x2=>⟨_,rfl,u,λ_=>a0.at1 (k:=4) x2 rfl,bound ⟨s,λ_=>a0.at1 (k:=5) x2 rfl,bound ⟨pr,λ_=>a0.at1 (k:=6) (r:=[]) x2 rfl,?_⟩⟩⟩);have h:=hR w2 (x1.trans x2);have e1:((u.len:Int)==1)=decide (g.length=1):=by rw[gk,beq_iff_eq,decide_eq_true_iff];omega
 have e2:((s.len:Int)==1)=decide (T.length=1):=by rw[gk,beq_iff_eq,decide_eq_true_iff];omega
 rw[e1,e2];unfold emptyB at h;rw[pg,pg];exact h
def Xb{h n:LU}{R:Bs->Wp}(hl:h.length+n.length<=100000)(hR:R (B (E7 h n)) w):SE.Ir (B h) (B n) w R:=by
 unfold SE.Ir;have e0:B h=bm #[47]↔h= [47]:=by
  constructor
  .intro e;have:=congrArg ByteArray.toList e;rw[H6]at this;have e1:(bm #[47]).toList= [47]:=H6 [47];rw[e1]at this;exact this
  .rintro rfl;rfl
 refine⟨λhe=>?_,λhe=>?_⟩
 .rw[AX];have h1:=e0.1 he;unfold E7 at hR;rw[if_pos h1]at hR;exact⟨by rw[Ad,Ad,Ar];omega,hR⟩
 .rw[B6,AX];unfold E7 at hR;rw[if_neg λh1=>he (e0.2 h1)]at hR;exact⟨by rw[Ad,AL,Ar];simp;omega,by rw[Ad,Ad,Ar];simp;omega,hR⟩
def strB{l:LU}(h:l.length<=10000000):Ac (B l):=by unfold Ac;rw[Ad,Al];omega
def N8(h n:LU):(E7 h n).length<=h.length+n.length+1:=by unfold E7;split<;>simp<;>omega
def Nu{x:FileC}(h:Ac x.path/\Ac x.data):∀w S,fileE.rep w S x (E4 x):=λ_ _=>⟨rfl,h⟩
def strL{a:Array UInt8}(h:a.size<=100):Ac ⟨a⟩:=by unfold Ac;rw[Al];show a.size<=_;omega
def Jc:Ac ⟨#[]⟩:=by unfold Ac;rw[Al];decide
def TreeOk.path{T:List Dir}(h:TreeOk T)(hi:i<T.length):(A5 T[i].path).length<=1024:=by
 by_cases h0:i=0
 .subst h0;have:=h.root;rw[dt hi,eu]at this;rw[this];decide
 .exact(h.rest i _ (dt hi) h0).len
def Zbb{T:List Dir}{e v:Sl}{R:Sl->Int->Wp}(ht:Tab w)(g0:Old S' w)(hd:SlR depE w S' d m.deps)(he:SlR depE w S' e m.dev)(ho:SlR depE w S' o m.opt)(hv:SlR depE w S' v m.over)
  (hS:Old S w) (hs:SlR dirE w S s T) (hg:SlR nodeE w Q u g) (hb:∀d∈T,d.path.length<=4000000000000)
  (h0:∀t l w',Ext w w'->SttOk ⟨m,g,T,pr⟩->FilesR ⟨m,g,T,pr⟩ l->FlatO E4 40 w' w.heap.size t l->(∀x∈l,Ac x.path/\Ac x.data)->R t 0 w') (h1:∀w',Ext w w'-> ¬SttOk ⟨m,g,T,pr⟩->R Sl.nil 43 w'):SE.K0 d e o v u s pr w R:=by
 unfold SE.K0;have i3:=hs.len;refine newS.intro λa w1 x1 a7 _ _=>⟨d,e,o,v,a7.at0 xR rfl,?_⟩;refine SE.KK.go (Zeh (m:=m) (ht.ext x1) (g0.ext x1.size) (hd.ext x1) (he.ext x1) (ho.ext x1) (hv.ext x1) λw2 x2=>⟨_,_,rfl,λhc=>?_,λhc=>?_⟩)
 .refine h1 w2 (x1.trans x2) λhF=>hc ?_;unfold KI;rw[if_pos hF.mani]
 have b5:AV m=true:=by
  cases hm:AV m with
  |true=>rfl
  |false=>unfold KI at hc;rw[hm]at hc;exact absurd dC hc
 have d4:=x1.trans x2;refine⟨u,a7.at1 (k:=4) x2 rfl,?_⟩;refine SE.KG.go (Zdv (ht.ext d4) (hg.ext d4) λw3 x3=>⟨_,_,rfl,bound ⟨d,e,o,v,u,s,pr,λ_=>a7.at0 (r:=[]) (x2.trans x3) rfl,?_⟩⟩);have b4:=d4.trans x3;refine gCall.holds (λt=>t=true↔PlacedS T g) (λ_ q hq=>SE.K3.go (Zf8 (ht.ext b4) (hS.ext b4.size) (hs.ext b4) (hg.ext b4) hb λb w4 x4 hb=>⟨b,rfl,hq b w4 x4 hb⟩)) λi6 w4 x4 b8=>⟨λhc=>?_,λhc=>?_⟩
 .refine h1 w4 (b4.trans x4) λhF=>?_;rw[Qf hF.lock]at b8 hc;rw[(b8 rfl).2 hF.placed]at hc;cases hc
 rw[gb]at hc;obtain⟨e5,g2⟩:=hc;have b9:LockOk g:=iw λhn=>by rw[U7 hn]at e5;exact absurd e5 dC
 rw[Qf b9]at b8;have f0:PlacedS T g:=(b8 rfl).1 (by simpa using g2);have e2:SttOk ⟨m,g,T,pr⟩:=⟨b5,b9,f0⟩;have hT:=f0.tree;have h6:=hT.len;have a4:=b4.trans x4;have f6:=x2.trans (x3.trans x4);refine⟨d,e,o,v,u,s,pr,a7.at0 (r:=[]) f6 rfl,?_⟩;refine SE.K2.go (ZC (m:=m) (T:=T) (g:=g) (pr:=pr) (hd.ext a4) (he.ext a4) (ho.ext a4) (hv.ext a4) (hs.ext a4) (hg.ext a4) λw5 x5=>⟨_,rfl,λc8=>?_,λc8=>?_⟩)
 .exact h0 Sl.nil [] w5 (a4.trans x5) e2 ⟨by rw[c8,if_pos rfl],.nil⟩ ⟨rfl,fm _,gn _,by unfold Ab;simp,.inl rfl⟩ λ_ h=>by cases h
 have b6:=a4.trans x5;have d6:=f6.trans x5;have h8:(DV m).length<=4096:=by unfold AV at b5;simp only[dx,decide_eq_true_eq]at b5;exact b5.2.2
 have e7:(I3 g).length<=1400000:=by have:=U6 b9 g.length;rwa [eh]at this
 have f7:KJ m=B (DV m):=by unfold KJ;rw[if_pos b5]
 rw[f7,UA b9];have c5:∀x∈rawFiles ⟨m,g,T,pr⟩,Ac x.path/\Ac x.data:=by
  intro x hx;obtain hx|hx:=fk.1 hx
  .unfold headFiles at hx;obtain hx|hx:=fk.1 hx
   .obtain rfl|hx:=ga.1 hx
    .exact⟨strL dC,strB (by show(DV m).length<=_;omega)⟩
    .rw[ep.1 hx];exact⟨strL dC,strB (by show(I3 g).length<=_;omega)⟩
   .split at hx
    .rw[ep.1 hx];exact⟨strL dC,Jc⟩
    .cases hx
  .obtain⟨i,hi,hx⟩:=List.mem_flatMap.1 hx;have a0:i<T.length:=mf.1 hi;simp only[dt a0]at hx;have hp:=hT.path a0;have q1:=N8 (A5 T[i].path) tPackage;have q2:=N8 (A5 T[i].path) tModules;have q3:tPackage.length=7:=rfl;have q4:tModules.length=7:=rfl;unfold Fq at hx;obtain hx|hx:=fk.1 hx
   .split at hx
    .cases hx
    .rename_i d0;obtain rfl|hx:=ga.1 hx
     .exact⟨strB oM,Jc⟩
     .rw[ep.1 hx];exact⟨strB oM,strB (by have:=(Q4 (hT.rest i _ (dt a0) d0).may).2;show(CR T[i].pack).length<=_;omega)⟩
   .split at hx
    .cases hx
    .rw[ep.1 hx];exact⟨strB oM,Jc⟩
 have ea:∀x∈headFiles ⟨m,g,T,pr⟩,Ac x.path/\Ac x.data:=λx hx=>c5 x (iu _ hx);refine newS.ownL (E:=fileE) (f:=E4) (l:=[⟨⟨#[47,109,97,110,105,102,101,115,116]⟩,false,B (DV m)⟩,⟨⟨#[47,108,111,99,107]⟩,false,B (I3 g)⟩]) (λx hx=>Nu (ea x (by unfold headFiles;exact iu _ hx))) rfl sI λa6 w6 x6 o6 h5=>join.named λJ hJ=>?_;have c9:∀{w:Wd} {S S':Nat->Prop} {x:FileC} {cs:LV},fileE.rep w S x cs->fileE.rep w S' x cs:=λh=>h;have d9:∀t w',Ext w5 w'->OwnS fileE 104 w' w5.heap.size None' t (headFiles ⟨m,g,T,pr⟩)->J t w':=λt w7 x7 o7=>by
  rw[hJ];refine⟨s,a7.at1 (k:=5) (d6.trans x7) rfl,?_⟩;refine loop2.up hs.max (λout i w'=>Ext w5 w'/\OwnS fileE 104 w' w5.heap.size None' out (headFiles ⟨m,g,T,pr⟩++DF T i)) ⟨x7,by simpa[DF]using o7⟩ λout i w8 i5 hi ⟨x8,o8⟩ hn=>⟨λe7=>join.named λK hK=>?_,λh7=>?_⟩
  .have a0:i<T.length:=oM;obtain⟨ad,ps,dd,ee,oo,ha,_,h2,hp,g3,g4,g8,hc⟩:=dirEl hs a0;have g1:=hb _ (ff a0);have h9:=hT.path a0;have g5:=PN T i;have g6:(headFiles ⟨m,g,T,pr⟩).length<=3:=(by unfold headFiles;split<;>simp);have e0:∀t w',Ext w5 w'->OwnS fileE 104 w' w5.heap.size None' t ((headFiles ⟨m,g,T,pr⟩++DF T i)++Fq T i T[i])->K t w':=λt w' hx ho=>(by rw[hK];refine hn a0 t w' ⟨hx,?_⟩;rw[Zba a0,<-fg];exact ho);have q1:=N8 (A5 T[i].path) tPackage;have q2:=N8 (A5 T[i].path) tModules;have q3:tPackage.length=7:=rfl;have q4:tModules.length=7:=rfl;have f5:=b6.trans x8;refine⟨ad,⟨ha,oM,e7⟩,ps,T[i].pack.name,T[i].pack.v.ma,T[i].pack.v.mi,T[i].pack.v.pa,dd,ee,oo,T[i].node,by rw[ec];exact hc _ f5,newS.set rfl λa9 w9 x9 e4 _=>⟨ps,e4.at0 xR rfl,?_⟩⟩;have c3:=f5.trans x9;refine SE.Eh.go (Hy (hp.ext c3) g1 λh3 b7=>⟨_,rfl,join.named λL hL=>?_⟩);have b2:=c3.trans b7;have c7:=x8.trans (x9.trans b7);have e1:∀t w',Ext w5 w'->OwnS fileE 104 w' w5.heap.size None' t ((headFiles ⟨m,g,T,pr⟩++DF T i)++(if i=0 then []else [⟨B (A5 T[i].path),true,⟨#[]⟩⟩,⟨B (E7 (A5 T[i].path) tPackage),false,B (CR T[i].pack)⟩]))->L t w':=λt f4 a5 f1=>by
    rw[hL];have c6:=b6.trans a5;refine⟨s,a7.at1 (k:=5) (d6.trans a5) rfl,?_⟩;refine SE.Mq.go (Zcl (hS.ext c6.size) (hs.ext c6) a0 oM λf2 i4 h4 c4 e8 d8=>⟨f2,rfl,?_⟩);have b0:f2.len=(C4 T T[i].path T.length).length:=by rw[d8.1,I9,e8.length_eq]
    refine⟨λh=>?_,λh=>?_⟩
    .have g7:C4 T T[i].path T.length≠[]:=λe=>(by rw[e]at b0;simp at b0;omega);have el:(bm #[109,111,100,117,108,101,115])=B tModules:=rfl;rw[el];refine SE.Ir.go (Xb (h:=A5 T[i].path) (n:=tModules) oM ⟨_,rfl,?_⟩);refine OwnS.pushL (m:=[⟨B (E7 (A5 T[i].path) tModules),true,⟨#[]⟩⟩]) (f1.ext c4) c9 (a5.trans c4) OU (λx hx=>Nu (by rw[ep.1 hx];exact⟨strB oM,Jc⟩)) rfl sI dC ?_ λr d3 d2 d5=>e0 r d3 d5 ?_
     .have:∀n:Nat,n<=100000->n*fileE.bytes<=Ab:=λn hn=>(by show n*40<=Ab;unfold Ab;omega);refine this _ ?_;simp only[du,fl,ia];split<;>simp<;>omega
     .unfold Fq;rw[if_neg g7,<-fg];exact d2
    .have e6:C4 T T[i].path T.length=[]:=fj oM;refine e0 t h4 (a5.trans c4) ?_;unfold Fq;rw[if_pos e6,gd];exact f1.ext c4
   refine⟨λd0=>?_,λd0=>?_⟩
   .have a8:i≠0:=oM;have e3:=hT.rest i _ (dt a0) a8;refine⟨_,_,_,_,dd,ee,oo,e4.at1 (k:=1) b7 rfl,?_⟩;refine SE.KY.go (Zfu (p:=T[i].pack) (ht.ext b2) h2 (g3.ext b2) (g4.ext b2) (g8.ext b2) (λf4 a5 hm=>⟨_,_,rfl,λh=>absurd rfl h,λ_=>?_⟩) λf4 a5 hm=>by rw[e3.may]at hm;cases hm);have el:(bm #[112,97,99,107,97,103,101])=B tPackage:=rfl;rw[el];refine SE.Ir.go (Xb (h:=A5 T[i].path) (n:=tPackage) oM ⟨_,rfl,?_⟩);have i2:=(Q4 e3.may).2;refine OwnS.pushL (m:=[⟨B (A5 T[i].path),true,⟨#[]⟩⟩,⟨B (E7 (A5 T[i].path) tPackage),false,B (CR T[i].pack)⟩]) (o8.ext (x9.trans (b7.trans a5))) c9 (c7.trans a5) OU (λx hx=>Nu ?_) rfl sI dC ?_ λr d3 d2 d5=>e1 r d3 d5 (by rw[if_neg a8];exact d2)
    .obtain rfl|hx:=ga.1 hx
     .exact⟨strB oM,Jc⟩
     .rw[ep.1 hx];exact⟨strB oM,strB (by show(CR T[i].pack).length<=_;omega)⟩
    .have:∀n:Nat,n<=100000->n*fileE.bytes<=Ab:=λn hn=>(by show n*40<=Ab;unfold Ab;omega);refine this _ ?_;simp only[du,fl,ia];omega
   .have a8:i=0:=oM;exact e1 out h3 c7 (by rw[if_pos a8,gd];exact o8.ext (x9.trans b7))
  .have a0:i=T.length:=oM;subst a0;have g5:=PN T T.length;have g6:(headFiles ⟨m,g,T,pr⟩).length<=3:=(by unfold headFiles;split<;>simp);have f9:FlatO E4 40 w8 w5.heap.size out (rawFiles ⟨m,g,T,pr⟩):=FlatO.of (E:=fileE) (λx cs h=>h.1) o8 (by unfold rawFiles Ab;rw[du];show((headFiles ⟨m,g,T,pr⟩).length+(DF T T.length).length)*40<=_;omega);refine Ziw f9 x8.size λl' w9 e9 g9 d7 f8=>⟨rfl,?_⟩;have c3:Ext w w9:=(b6.trans x8).trans' (d7.mono b6.size);refine h0 out l' w9 c3 e2 ⟨by rw[c8];exact e9,g9⟩ ?_ λx hx=>c5 x (e9.subset hx);obtain⟨k1,k2,k3,k4,k5⟩:=f8;exact⟨k1,k2,k3,k4,k5.imp id λ⟨gg,tl,a,b,c⟩=>⟨gg,tl,a,fe b6.size b,c⟩⟩
 refine⟨pr,a7.at1 (k:=6) (r:=[]) (d6.trans x6) rfl,λd1=>?_,λd1=>?_⟩
 .subst d1;refine OwnS.pushL (m:=([⟨⟨#[47,112,114,117,110,101,100]⟩,false,⟨#[]⟩⟩]:List FileC)) o6 c9 x6 OU (λx hx=>Nu (by rw[ep.1 hx];exact⟨strL dC,Jc⟩)) rfl sI dC (by show 3*40<=Ab;unfold Ab;decide) λr w7 o7 x7=>d9 r w7 x7 o7
 .subst d1;exact d9 _ w6 x6 o6
def n11:Bs:=⟨#[97]⟩
def Ox:Ver:=⟨1,0,0⟩
def k11:Pack:=⟨n11,Ox,[],[],[]⟩
def s11:Span:=⟨⟨0,0,0⟩,⟨999,999,999⟩⟩
def m11:Mani:=⟨[⟨n11,[s11]⟩],[],[],[]⟩
def known11:Stp:=AF [k11] m11 true [] 9 9
def U1:Bool:=decide (known11.code=0)&&decide (known11.dec=1)&&decide (known11.ns.length=2)&&decide (known11.ns[1]?.map (·.v)=some Ox)&&decide (known11.ns[0]?.map (·.edges.length)=some 1)
def Zda:(BK [] k11).2= [k11]:=by decide+kernel
set_option maxRecDepth 100000 in
def Zdb:U1=true:=by decide+kernel
def Zdc:known11.code=0/\known11.dec=1/\known11.ns.length=2/\known11.ns[1]?.map (·.v)=some Ox/\known11.ns[0]?.map (·.edges.length)=some 1:=by have h:=Zdb;unfold U1 at h;simp only[dx,decide_eq_true_eq]at h;exact⟨h.1.1.1.1,h.1.1.1.2,h.1.1.2,h.1.2,h.2⟩
end Go.Hal
namespace Go.Hal
def Zhh{pins:LP}{ns:LN}{t:Nat}(h:AF L m dev pins D N= .done ns t):(AV m=true/\1<=D/\D<=4096/\1<=N/\N<=128)/\(Quest.mk L m dev pins D.toNat N.toNat).run= .done ns t:=by
 unfold AF at h;split at h
 .rename_i a0;refine⟨a0,?_⟩;unfold Quest.res at h;split at h
  .cases h
  .cases h
  .rename_i hr;cases h;exact hr
  .cases h
 .cases h
def Zhg{pins:LP}(a0:AV m=true/\1<=D/\D<=4096/\1<=N/\N<=128):AF L m dev pins D N=(Quest.mk L m dev pins D.toNat N.toNat).res:=by unfold AF;rw[if_pos a0]
def Zr{pins:LP}(h:(AF L m dev pins D N).code=0):∃ns t,AF L m dev pins D N= .done ns t:=by
 have a4:AV m=true/\1<=D/\D<=4096/\1<=N/\N<=128:=iw λa0=>by unfold AF at h;rw[if_neg a0]at h;cases h
 rw[Zhg a4]at h ⊢;have hf:=QV (q:=⟨L,m,dev,pins,D.toNat,N.toNat⟩) (by show 1<=N.toNat;omega);unfold Quest.res at h ⊢;revert h hf;cases(Quest.mk L m dev pins D.toNat N.toNat).run with
 |out=>exact λ_ hf=>hf.elim
 |fail t=>exact λh _=>by cases h
 |done ns t=>exact λ_ _=>⟨ns,t,rfl⟩
 |err e=>intro h hf;have h:e=0:=h;rcases hf with hf|hf<;>omega
structure Unf(w:Wd)(q:Nat):Prop where
 str:∀a t,a.block=q->w.cell? a≠some (.string t)
 num:∀a,a.block=q->∀x:Span,¬ldc w a (x.lo.c++x.hi.c)
def Es(S:Nat->Prop)(q:Nat)(b:Nat):Prop:=S b/\b≠q
section
variable {α:Type} {E:Enc α} {w:Wd} {S:Nat->Prop} {q:Nat} {s:Sl} {l:List α}
def SlR.unf(hE:∀x cs,E.rep w S x cs->E.rep w (Es S q) x cs/\∀ad,ldc w ad cs->ad.block≠q)(h:SlR E w S s l):SlR E w (Es S q) s l:=by
 obtain⟨h1,h2,h3,h4,h5⟩:=h;refine⟨h1,h2,h3,h4,?_⟩;rcases h5 with h5|⟨ad,ha,hS,a0⟩
 .exact .inl h5
 .cases l with
  |nil=>exact .inl rfl
  |cons x r=>obtain⟨cs,hr,hl⟩:=a0 0 x rfl;have a4:=(hE x cs hr).2 _ hl;rw[CO]at a4;exact .inr ⟨ad,ha,⟨hS,a4⟩,λi y hy=>let⟨cs,h1,h2⟩:=a0 i y hy;⟨cs,(hE y cs h1).1,h2⟩⟩
def Unf.at(hq:Unf w q){k:Nat}{t:Bs}(hk:cs[k]?=some (.string t))(hl:ldc w ad cs):ad.block≠q:=λe=>by have:=hl k _ hk;exact hq.str (ad.add k) t (by rw[CO];exact e) this
end
section
variable {w:Wd} {S:Nat->Prop} {q:Nat} {s:Sl}
def Zkj{l:LP}(hq:Unf w q)(h:SlR pinE w S s l):SlR pinE w (Es S q) s l:=h.unf λx cs hr=>⟨hr,λad hl=>hq.at (k:=0) (t:=x.name) (by have h1:=hr.1;subst h1;rfl) hl⟩
def Zkh{l:LQ}(hq:Unf w q)(h:SlR edgeE w S s l):SlR edgeE w (Es S q) s l:=h.unf λx cs hr=>⟨hr,λad hl=>hq.at (k:=0) (t:=x.name) (by have h1:=hr.1;subst h1;rfl) hl⟩
def Zkm{l:List Bs}(hq:Unf w q)(h:SlR strE w S s l):SlR strE w (Es S q) s l:=h.unf λx cs hr=>⟨hr,λad hl=>hq.at (k:=0) (t:=x) (by have h1:=hr.1;subst h1;rfl) hl⟩
def Zkk{l:LS}(hq:Unf w q)(h:SlR spanE w S s l):SlR spanE w (Es S q) s l:=h.unf λx cs hr=>⟨hr,λad hl e=>hq.num ad e x (by have h1:=hr.1;subst h1;exact hl)⟩
def Hz(hq:Unf w q)(h:SlR depE w S s l):SlR depE w (Es S q) s l:=h.unf λx cs ⟨h0,u,hc,hu⟩=>⟨⟨h0,u,hc,Zkk hq hu⟩,λad hl=>hq.at (k:=0) (t:=x.name) (by rw[hc];rfl) hl⟩
def Zki{l:LN}(hq:Unf w q)(h:SlR nodeE w S s l):SlR nodeE w (Es S q) s l:=h.unf λx cs ⟨h0,c,e,hc,h1,h2⟩=>⟨⟨h0,c,e,hc,Zkj hq h1,Zkh hq h2⟩,λad hl=>hq.at (k:=0) (t:=x.name) (by rw[hc];rfl) hl⟩
def Mt{l:List Dir}(hq:Unf w q)(h:SlR dirE w S s l):SlR dirE w (Es S q) s l:=h.unf λx cs ⟨h0,ps,d,e,o,hc,h1,h2,h3,h4⟩=>⟨⟨h0,ps,d,e,o,hc,Zkm hq h1,Hz hq h2,Hz hq h3,Hz hq h4⟩,λad hl=>hq.at (k:=1) (t:=x.pack.name) (by rw[hc];rfl) hl⟩
end
def H0(h:BoxAt w a cs)(hs:∀t,Value.string t∉cs)(hn:cs.length<6\/∀k n,Value.int k n∉cs):Unf w a.block:=by
 obtain⟨T,ho,a0,hh⟩:=h;have cell:∀(b:Addr) v,b.block=a.block->w.cell? b=some v->v∈cs/\b.off<cs.length/\b.spot=none:=λb v hb hc=>by
  unfold World.cell? at hc;rw[hb,hh]at hc;simp only at hc;split at hc
  .cases hc
  .rename_i a0;rw[jr]at hc;exact⟨gv hc,(fh.1 hc).1,by simpa using a0⟩
 refine⟨λb t hb hc=>hs t (cell b _ hb hc).1,λb hb x hl=>?_⟩;have h0:=cell _ _ (by rw[CO];exact hb) (hl 0 _ rfl);have h5:=cell _ _ (by rw[CO];exact hb) (hl 5 _ rfl);obtain hn|hn:=hn
 .obtain⟨bb,off,sp⟩:=b;have a4:sp=none:=by have:=h0.2.2;rw[add_zero]at this;exact this
  subst a4;have:=h5.2.1;have e:(Addr.add ⟨bb,off,none⟩ 5)=⟨bb,off+5,none⟩:=by unfold Addr.add;split<;>simp_all
  rw[e]at this;simp only at this;omega
 .exact hn _ _ h0.1
def Ni(h:Av l=true):RiseD l/\l.length<=999:=by unfold Av at h;simp only[dx,decide_eq_true_eq]at h;exact⟨(T3 h.1).1,oM⟩
def Zee(h:AV m=true):Jq m/\MJ m:=by obtain⟨h1,h2,h3,h4,_⟩:=UI h;have k1:=Ni h1;have k2:=Ni h2;have k3:=Ni h3;have k4:=Ni h4;exact⟨⟨k1.2,k2.2,k3.2,k4.2⟩,k1.1,k2.1,k3.1,k4.1⟩
structure SttS(w:Wd)(S:Nat->Prop)(d e o v g t:Sl)(s:Stt):Prop where
 m:ManS w S d e o v s.m
 g:SlR nodeE w S g s.g
 t:SlR dirE w S t s.T
def SttS.ext{e v g:Sl}{s:Stt}(h:SttS w S d e o v g t s)(hx:Ext w w'):SttS w' S d e o v g t s:=⟨h.m.ext hx,h.g.ext hx,h.t.ext hx⟩
def SttS.mono{e v g:Sl}{s:Stt}(h:SttS w S d e o v g t s)(hs:∀b,S b->S' b):SttS w S' d e o v g t s:=⟨h.m.mono hs,h.g.mono hs,h.t.mono hs⟩
def SttS.but{e v g:Sl}{s:Stt}(h:SttS w S d e o v g t s)(hb:But b w w')(hn: ¬S b):SttS w' S d e o v g t s:=⟨h.m.but hb hn,h.g.but hb hn,h.t.but hb hn⟩
def Zhf(L:List Pack)(m:Mani)(dev:Bool)(pins:LP)(D N:Int):(AF L m dev pins D N).ns.length<=1000000000:=by
 cases h:AF L m dev pins D N with
 |done ns t=>obtain⟨⟨_,_,_,h1,h2⟩,hr⟩:=Zhh h;have hf:=QV (q:=Quest.mk L m dev pins D.toNat N.toNat) (by show 1<=N.toNat;omega);rw[hr]at hf;have h3:ns.length<=N.toNat:=hf.2.2;show ns.length<=_;omega
 |_=>exact gn _
end Go.Hal
