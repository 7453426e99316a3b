/- Lemmas for the claim K19n: how the program's functions run, and what they answer; no condition but those that each theorem names. -/
import Derived.Test.YtgolaibmophnjaaGreatDoorProg
import Derived.Test.YtgolaibmophnjaaGreatDoorK19nB5
set_option linter.unusedVariables false
set_option linter.unusedSimpArgs false
set_option linter.defProp false
set_option maxHeartbeats 16000000
open Go Go.RowKit Go.Proofs Go.Shelf Go.Hal Go.Proofs.Tryz
variable {a:Addr} {dev:Bool} {R:Bool->Wp} {E:Enc Stl} {D Di M N:Int} {la lb:LQ} {G:LN} {L P:List Pack} {dn:List Stl} {m:Mani} {i j n src:Nat} {S:Nat->Prop} {A O d g o t:Sl} {s:Stt} {w w':Wd}
namespace Go.Hal
abbrev Jk:=Option Ver×Nat
def HR(z:List Jk):Nat:=(z.map λp=>p.2+1).sum
def YB(p:Jk)(z:List Jk):HR (p::z)=p.2+1+HR z:=by simp[HR]
def Xg(D:Nat)(k:Option Ver->Nat->Out)(z:List Jk):Prop:=∀p∈z,∀t,t+p.2<=D->k p.1 t= .fail (t+p.2)
def Zkg{D:Nat}{k k1:Option Ver->Nat->Out}(h:∀o t t',k o t= .fail t'->t<=t'/\∀t2,t2+(t' - t)<=D->k1 o t2= .fail (t2+(t' - t))){ns:LN}{n:Nat}:∀{os:List (Option Ver)} {t:Nat},CR D k os t= .done ns n->∃(z:List Jk) (o:Option Ver) (post:List (Option Ver)),os=z.map Prod.fst++o::post/\Xg D k1 z/\k o (t+HR z+1)= .done ns n
 | [],t,ht=>by rw[CR]at ht;cases ht
 |o::os,t,ht=>by
  rw[CR]at ht;by_cases hD:t=D
  .rw[if_pos hD]at ht;cases ht
  .rw[if_neg hD]at ht;cases hk:k o (t+1)with
   |fail s=>
    rw[hk]at ht;obtain⟨z,o2,post,h1,h2,h3⟩:=Zkg h ht;obtain⟨h4,h5⟩:=h o (t+1) s hk;refine⟨(o,s - (t+1))::z,o2,post,by rw[ib,h1];rfl,λp hp=>?_,?_⟩
    .obtain rfl|hp:=ga.1 hp
     .exact λt2 hD=>h5 t2 hD
     .exact h2 p hp
    .rw[YB];have:t+(s - (t+1)+1+HR z)+1=s+HR z+1:=oM;dsimp only;rw[this];exact h3
   |done a0 t'=>rw[hk]at ht;exact⟨[],o,os,rfl,λp hp=>(by cases hp),hk.trans ht⟩
   |err _=>rw[hk]at ht;cases ht
   |out=>rw[hk]at ht;cases ht
def WA{D:Nat}{k:Option Ver->Nat->Out}{ns:LN}{n:Nat}:∀{os:List (Option Ver)} {t:Nat},CR D k os t= .done ns n->∃o t',k o t'= .done ns n
 | [],t,h=>by rw[CR]at h;cases h
 |o::os,t,h=>by
  rw[CR]at h;by_cases hD:t=D
  .rw[if_pos hD]at h;cases h
  .rw[if_neg hD]at h;cases hk:k o (t+1)with
   |fail s=>rw[hk]at h;exact WA h
   |done _ _=>rw[hk]at h;exact⟨o,t+1,hk.trans h⟩
   |err _=>rw[hk]at h;cases h
   |out=>rw[hk]at h;cases h
def V5{pins:LP}{ns:LN}{t:Nat}(h:A9 L m dev pins D N= .done ns t):(AP m=true/\1<=D/\D<=4096/\1<=N/\N<=128)/\(Quest.mk L m dev pins D.toNat N.toNat).run= .done ns t:=by
 unfold A9 at h;split at h
 .rename_i a0;refine⟨a0,?_⟩;unfold Quest.res at h;split at h
  .cases h
  .cases h
  .rename_i hr;cases h;exact hr
  .cases h
 .cases h
def Zhh{pins:LP}(a0:AP m=true/\1<=D/\D<=4096/\1<=N/\N<=128):A9 L m dev pins D N=(Quest.mk L m dev pins D.toNat N.toNat).res:=by unfold A9;rw[if_pos a0]
def Zl{pins:LP}(h:(A9 L m dev pins D N).code=0):∃ns t,A9 L m dev pins D N= .done ns t:=by
 have a4:AP m=true/\1<=D/\D<=4096/\1<=N/\N<=128:=iq λa0=>by unfold A9 at h;rw[if_neg a0]at h;cases h
 rw[Zhh a4]at h ⊢;have hf:=QT (q:=⟨L,m,dev,pins,D.toNat,N.toNat⟩) (by show 1<=N.toNat;omega);unfold Quest.res at h ⊢;revert h hf;cases(Quest.mk L m dev pins D.toNat N.toNat).run with
 |out=>exact λ_ hf=>hf.elim
 |fail t=>exact λh _=>by cases h
 |done ns t=>exact λ_ _=>⟨ns,t,rfl⟩
 |err e=>intro h hf;have h:e=0:=h;rcases hf with hf|hf<;>omega
structure Unf(w:Wd)(q:Nat):Prop where
 str:∀a t,a.block=q->w.cell? a≠some (.string t)
 num:∀a,a.block=q->∀x:Span,¬ldc w a (x.lo.c++x.hi.c)
def Eo(S:Nat->Prop)(q:Nat)(b:Nat):Prop:=S b/\b≠q
section
variable {α:Type} {E:Enc α} {w:Wd} {S:Nat->Prop} {q:Nat} {s:Sl} {l:List α}
def SlR.unf(hE:∀x cs,E.rep w S x cs->E.rep w (Eo S q) x cs/\∀ad,ldc w ad cs->ad.block≠q)(h:SlR E w S s l):SlR E w (Eo S q) s l:=by
 obtain⟨h1,h2,h3,h4,h5⟩:=h;refine⟨h1,h2,h3,h4,?_⟩;rcases h5 with h5|⟨ad,ha,hS,a0⟩
 .exact .inl h5
 .cases l with
  |nil=>exact .inl rfl
  |cons x r=>obtain⟨cs,hr,hl⟩:=a0 0 x rfl;have a4:=(hE x cs hr).2 _ hl;rw[CL]at a4;exact .inr ⟨ad,ha,⟨hS,a4⟩,λi y hy=>let⟨cs,h1,h2⟩:=a0 i y hy;⟨cs,(hE y cs h1).1,h2⟩⟩
def Unf.at(hq:Unf w q){cs:LV}{k:Nat}{t:Bs}(hk:cs[k]?=some (.string t)){ad:Addr}(hl:ldc w ad cs):ad.block≠q:=λe=>by have:=hl k _ hk;exact hq.str (ad.add k) t (by rw[CL];exact e) this
end
section
variable {w:Wd} {S:Nat->Prop} {q:Nat} {s:Sl}
def Zkm{l:LP}(hq:Unf w q)(h:SlR pinE w S s l):SlR pinE w (Eo S q) s l:=h.unf λx cs hr=>⟨hr,λad hl=>hq.at (k:=0) (t:=x.name) (by have h1:=hr.1;subst h1;rfl) hl⟩
def Zkk{l:LQ}(hq:Unf w q)(h:SlR edgeE w S s l):SlR edgeE w (Eo S q) s l:=h.unf λx cs hr=>⟨hr,λad hl=>hq.at (k:=0) (t:=x.name) (by have h1:=hr.1;subst h1;rfl) hl⟩
def Zkp{l:List Bs}(hq:Unf w q)(h:SlR strE w S s l):SlR strE w (Eo S q) s l:=h.unf λx cs hr=>⟨hr,λad hl=>hq.at (k:=0) (t:=x) (by have h1:=hr.1;subst h1;rfl) hl⟩
def Zkn{l:LS}(hq:Unf w q)(h:SlR spanE w S s l):SlR spanE w (Eo S q) s l:=h.unf λx cs hr=>⟨hr,λad hl e=>hq.num ad e x (by have h1:=hr.1;subst h1;exact hl)⟩
def Hw{l:LD}(hq:Unf w q)(h:SlR depE w S s l):SlR depE w (Eo S q) s l:=h.unf λx cs ⟨h0,u,hc,hu⟩=>⟨⟨h0,u,hc,Zkn hq hu⟩,λad hl=>hq.at (k:=0) (t:=x.name) (by rw[hc];rfl) hl⟩
def Zkl{l:LN}(hq:Unf w q)(h:SlR nodeE w S s l):SlR nodeE w (Eo S q) s l:=h.unf λx cs ⟨h0,c,e,hc,h1,h2⟩=>⟨⟨h0,c,e,hc,Zkm hq h1,Zkk hq h2⟩,λad hl=>hq.at (k:=0) (t:=x.name) (by rw[hc];rfl) hl⟩
def Ms{l:List Dir}(hq:Unf w q)(h:SlR dirE w S s l):SlR dirE w (Eo S q) s l:=h.unf λx cs ⟨h0,ps,d,e,o,hc,h1,h2,h3,h4⟩=>⟨⟨h0,ps,d,e,o,hc,Zkp hq h1,Hw hq h2,Hw hq h3,Hw hq h4⟩,λad hl=>hq.at (k:=1) (t:=x.pack.name) (by rw[hc];rfl) hl⟩
end
def Hx{cs:LV}(h:BoxAt w a cs)(hs:∀t,Value.string t∉cs)(hn:cs.length<6\/∀k n,Value.int k n∉cs):Unf w a.block:=by
 obtain⟨T,ho,a0,hh⟩:=h;have cell:∀(b:Addr) v,b.block=a.block->w.cell? b=some v->v∈cs/\b.off<cs.length/\b.spot=none:=λb v hb hc=>by
  unfold World.cell? at hc;rw[hb,hh]at hc;simp only at hc;split at hc
  .cases hc
  .rename_i a0;rw[jr]at hc;exact⟨gp hc,(fe.1 hc).1,by simpa using a0⟩
 refine⟨λb t hb hc=>hs t (cell b _ hb hc).1,λb hb x hl=>?_⟩;have h0:=cell _ _ (by rw[CL];exact hb) (hl 0 _ rfl);have h5:=cell _ _ (by rw[CL];exact hb) (hl 5 _ rfl);obtain hn|hn:=hn
 .obtain⟨bb,off,sp⟩:=b;have a4:sp=none:=by have:=h0.2.2;rw[add_zero]at this;exact this
  subst a4;have:=h5.2.1;have e:(Addr.add ⟨bb,off,none⟩ 5)=⟨bb,off+5,none⟩:=by unfold Addr.add;split<;>simp_all
  rw[e]at this;simp only at this;omega
 .exact hn _ _ h0.1
def Ni{l:LD}(h:Av l=true):RiseD l/\l.length<=999:=by unfold Av at h;simp only[dz,decide_eq_true_eq]at h;exact⟨(Tx h.1).1,oM⟩
def Zd8(h:AP m=true):Jl m/\MJ m:=by obtain⟨h1,h2,h3,h4,_⟩:=UD h;have k1:=Ni h1;have k2:=Ni h2;have k3:=Ni h3;have k4:=Ni h4;exact⟨⟨k1.2,k2.2,k3.2,k4.2⟩,k1.1,k2.1,k3.1,k4.1⟩
structure SttS(w:Wd)(S:Nat->Prop)(d e o v g t:Sl)(s:Stt):Prop where
 m:ManS w S d e o v s.m
 g:SlR nodeE w S g s.g
 t:SlR dirE w S t s.T
def SttS.ext{e v:Sl}(h:SttS w S d e o v g t s)(hx:Ext w w'):SttS w' S d e o v g t s:=⟨h.m.ext hx,h.g.ext hx,h.t.ext hx⟩
def SttS.mono{S':Nat->Prop}{e v:Sl}(h:SttS w S d e o v g t s)(hs:∀b,S b->S' b):SttS w S' d e o v g t s:=⟨h.m.mono hs,h.g.mono hs,h.t.mono hs⟩
def SttS.but{b:Nat}{e v:Sl}(h:SttS w S d e o v g t s)(hb:But b w w')(hn: ¬S b):SttS w' S d e o v g t s:=⟨h.m.but hb hn,h.g.but hb hn,h.t.but hb hn⟩
def Zhg(L:List Pack)(m:Mani)(dev:Bool)(pins:LP)(D N:Int):(A9 L m dev pins D N).ns.length<=1000000000:=by
 cases h:A9 L m dev pins D N with
 |done ns t=>obtain⟨⟨_,_,_,h1,h2⟩,hr⟩:=V5 h;have hf:=QT (q:=Quest.mk L m dev pins D.toNat N.toNat) (by show 1<=N.toNat;omega);rw[hr]at hf;have h3:ns.length<=N.toNat:=hf.2.2;show ns.length<=_;omega
 |_=>exact gl _
def Y3{s:Sl}{l:LQ}{R:Sl->Wp}(hS:Old S w)(hs:SlR edgeE w S s l)(hR:∀t w',Ext w w'->OwnS edgeE 153 w' w.heap.size None' t l->R t w'):SE.LF s w R:=by
 unfold SE.LF;refine⟨λh=>?_,λh=>?_⟩
 .have:l=[]:=by
   rcases hs.2.2.2.2 with h0|⟨ad,h1,_⟩
   .exact h0
   .rw[h]at h1;cases h1
  subst this;exact hR _ _ xR (OwnS.nil _ _)
 .intro a w1 ha hw;subst ha;have x1:Ext w w1:=hw▸Ext.alloc _ _;have own:OwnS edgeE 153 w1 w.heap.size None' ⟨some ⟨w.heap.size,0,none⟩,0,0⟩ []:=hw▸OwnS.empty w;refine own.appAll MQ x1.size (hs.ext x1) (hS.ext x1.size) (λad ha hb=>?_) (by simpa using hs.2.2.2.1) (by simpa using hs.max) λr w2 a0 bel _ _=>?_
  .simp only[ep]at ha;subst ha;have:=hS _ hb;simp at this
  .exact hR r w2 (x1.trans' bel) (OwnS.flat (λh=>h) a0)
def Zfm{s:Sl}{g:LN}{R:Sl->Wp}(hS:Old S w)(hs:SlR nodeE w S s g)(hR:∀t w',Ext w w'->SlR nodeE w' (λb=>w.heap.size<=b/\b<w'.heap.size) t g->R t w'):SE.KT s w R:=by
 unfold SE.KT;have hl:=hs.len;have b9:=hs.2.2.2.1;have b4:nodeE.bytes=88:=rfl;have e1:=hs.max;refine newS.intro λa w1 x1 ha _ _=>newS.intro λa1 w2 x2 h1 _ _=>newS.intro λa3 w4 x4 h3 f1 _=>⟨s,ha.at0 (r:=[]) (x2.trans x4) rfl,?_⟩;have e7:=x1.trans (x2.trans x4);have s1:=x1.size;have s2:=x2.size;have s4:=x4.size;have l1:=h1.lt;have l3:=h3.lt;refine loop1.up hs.max (λi w'=>∃so Q,Ext w w'/\w4.heap.size<=w'.heap.size/\BoxAt w' a1 [Sl.nil.v]/\BoxAt w' a3 [Sl.v so]/\OwnS nodeE 56 w' w4.heap.size Q so (g.take i)/\∀b,Q b->w4.heap.size<=b) ⟨Sl.nil,None',e7,fl _,h1.ext x4,h3,OwnS.zero _,λ_ h=>h.elim⟩ λi w5 f5 hi ⟨so,Q,b5,z5,c5,c6,o5,hQ⟩ hn=>⟨λc9=>?_,λf4=>?_⟩
 .have a9:i<g.length:=oM;obtain⟨ad,cs,es,d9,e3,c7,c8,e0⟩:=Cj (hs.ext b5) a9;refine⟨ad,⟨d9,oM,c9⟩,_,_,_,_,cs,es,by rw[ec];exact e0 _ xR,newS.set rfl λa7 w6 x6 h7 f2=>bnd.drew λw7 x7=>⟨cs,h7.at1 (k:=4) x7 rfl,es,h7.at1 (k:=5) (r:=[]) x7 rfl,?_⟩⟩;have b7:=x6.trans x7;have d1:=b5.trans b7;have f8:=b7.size;have l7:=h7.lt;have s7:=x7.size;refine callX.intro (SE.IL.go (Tg (hS.ext d1.size) (c7.ext b7) λt8 w8 x8 o8=>⟨x8,_,rfl,?_⟩));refine SE.LF.go (Y3 (hS.ext (d1.trans x8).size) (c8.ext (b7.trans x8)) λt9 w9 x9 o9=>⟨_,rfl,?_⟩);have d2:=x7.trans (x8.trans x9);have s8:=x8.size;have s9:=x9.size;refine stw.intro (h7.ext d2) (o:=4) sI λf9 d3 _ d5=>stw.intro d5 (o:=5) sI λd0 d4 _ d6=>?_;have a6:But a7.block w9 d0:=d3.trans d4;have e9:=a6.1;have a0:Ext w5 d0:=a6.ext (x6.trans d2) oM;have b8:=c6.ext a0;refine⟨so,b8.at0 (r:=[]) xR rfl,_,_,_,_,t8,t9,d6.at0 (r:=[]) xR rfl,newS.intro λf0 a4 a5 d7 _ _=>?_⟩;have f6:=a5.size;have b0:(g.take i).length=i:=by rw[fb];omega
  have r8:SlR pinE a4 (λb=>w5.heap.size<=b/\b<a4.heap.size/\b≠a7.block) t8 g[i].ctx:=(((((o8.readF dC c7.2.2.2.1).bound (λh=>h) dC).ext x9).but a6 λh=>by omega).ext a5).mono λb hb=>by omega
  have r9:SlR edgeE a4 (λb=>w5.heap.size<=b/\b<a4.heap.size/\b≠a7.block) t9 g[i].edges:=((((o9.readF dC c8.2.2.2.1).bound (λh=>h) dC).but a6 λh=>by omega).ext a5).mono λb hb=>by omega
  refine(o5.ext (a0.trans a5)).push OU (by have:=a0.size;omega) (x:=g[i]) (S':=λb=>w5.heap.size<=b/\b<a4.heap.size/\b≠a7.block) ⟨e3,t8,t9,rfl,r8,r9⟩ (d7.ldc.pre (r:=[]) rfl) (λb hb=>hb.2.1) (λad ha hb=>by have:=(o5.block ha).2.1;have:=hb.1;omega) (by rw[b0,b4];rw[b4]at b9;omega) (by rw[b0];omega) λr e5 e4 a8 c3 c4=>?_;have f7:=Below.size a8;have e8:=a0.size;have e2:∀ad,so.a=some ad->a3.block≠ad.block:=λad h=>by have:=(o5.block h).1;omega
  have kb:∀{ad:Addr} {cs:LV},BoxAt a4 ad cs->ad.block<w4.heap.size->BoxAt e5 ad cs:=λh c9=>h.keep (S:=λb=>∀ad,so.a=some ad->b≠ad.block) (λad h=>by have:=(o5.block h).1;omega) λb hb hl=>c3 b hl hb;refine stw0.intro (kb (b8.ext a5) oM) sI λe6 b2 _ d8=>hn a9 e6 ⟨r,λb=>Q b\/(w5.heap.size<=b/\b<a4.heap.size/\b≠a7.block),?_,?_,b2.box (kb (c5.ext (a0.trans a5)) oM) oM,d8,?_,λb hb=>hb.elim (hQ b) λh=>by omega⟩
  .exact b2.ext ((b5.trans (a0.trans a5)).trans' (a8.mono oM)) oM
  .have:=b2.1;omega
  .rw[dw a9];refine e4.but b2 (λhb=>?_) λad ha=>?_
   .obtain hb|hb:=hb
    .have:=hQ _ hb;omega
    .omega
   .obtain q|q:=c4 ad ha
    .exact e2 ad q
    .omega
 .have a9:i=g.length:=oM;subst a9;rw[eu]at o5;have rd:=(o5.read (by rw[b4];rw[b4]at b9;omega) e1).mono (S':=λb=>w4.heap.size<=b/\b<w5.heap.size) λb hb=>by
   rcases hb with hb|⟨ad,ha,rfl⟩
   .exact⟨hQ b hb,o5.lt b hb⟩
   .have:=o5.block ha;exact⟨this.1,this.2.1⟩
  refine⟨so,c6.at0 (r:=[]) xR rfl,stw0.intro c5 sI λw6 b6 _ h6=>⟨so,h6.at0 (r:=[]) xR rfl,?_⟩⟩;have z6:=b6.1;exact hR so w6 (b6.ext b5 oM) ((rd.but b6 λh=>by omega).mono λb hb=>by omega)
def Zfo{s:Sl}{g:List Dir}{R:Sl->Wp}(hS:Old S w)(hs:SlR dirE w S s g)(hR:∀t w',Ext w w'->SlR dirE w' (λb=>w.heap.size<=b/\b<w'.heap.size) t g->R t w'):SE.KV s w R:=by
 unfold SE.KV;have hl:=hs.len;have b8:=hs.2.2.2.1;have b0:dirE.bytes=144:=rfl;have d5:=hs.max;refine newS.intro λa w1 x1 ha _ _=>newS.intro λa1 w2 x2 h1 _ _=>newS.intro λa3 w4 x4 h3 e5 _=>⟨s,ha.at0 (r:=[]) (x2.trans x4) rfl,?_⟩;have e2:=x1.trans (x2.trans x4);have s1:=x1.size;have s2:=x2.size;have s4:=x4.size;have l1:=h1.lt;have l3:=h3.lt;refine loop1.up hs.max (λi w'=>∃so Q,Ext w w'/\w4.heap.size<=w'.heap.size/\BoxAt w' a1 [Sl.nil.v]/\BoxAt w' a3 [Sl.v so]/\OwnS dirE 61 w' w4.heap.size Q so (g.take i)/\∀b,Q b->w4.heap.size<=b) ⟨Sl.nil,None',e2,fl _,h1.ext x4,h3,OwnS.zero _,λ_ h=>h.elim⟩ λi w5 e8 hi ⟨so,Q,b2,z5,c5,b9,o5,hQ⟩ hn=>⟨λc6=>?_,λe7=>?_⟩
 .have a6:i<g.length:=oM;obtain⟨ad,ps,d,e,o,d1,_,d8,c7,hd,he,ho,d4⟩:=dirEl (hs.ext b2) a6;refine⟨ad,⟨d1,oM,c6⟩,ps,g[i].pack.name,g[i].pack.v.ma,g[i].pack.v.mi,g[i].pack.v.pa,d,e,o,g[i].node,by rw[ec];exact d4 _ xR,newS.set rfl λa7 w6 x6 h7 e6=>bnd.drew λw7 x7=>⟨so,b9.at0 (r:=[]) (x6.trans x7) rfl,ps,h7.at0 x7 rfl,g[i].pack.name,g[i].pack.v.ma,g[i].pack.v.mi,g[i].pack.v.pa,d,e,o,h7.at1 (k:=1) x7 rfl,g[i].node,h7.at1 (k:=8) (r:=[]) x7 rfl,?_⟩⟩;have b5:=x6.trans x7;have c8:=b2.trans b5;have f1:=b5.size;have s7:=x7.size;refine callX.intro (SE.Gc.go (Nf (hS.ext c8.size) (c7.ext b5) λt8 w8 x8 o8=>⟨x8,_,rfl,?_⟩));have b7:=b5.trans x8;refine callX.intro (SE.I6.go (Vh (p:=g[i].pack) (hS.ext (c8.trans x8).size) (hd.ext b7) (he.ext b7) (ho.ext b7) λd' e' o' w9 x9 d2 d3 d7=>⟨x9,_,_,_,_,d',e',o',rfl,newS.intro λe4 a4 b4 c9 _ _=>?_⟩));have s8:=x8.size;have s9:=x9.size;have e9:=b4.size;have a0:=b7.trans (x9.trans b4);have e3:=a0.size;have a8:(g.take i).length=i:=by rw[fb];omega
  have r8:SlR strE a4 (λb=>w5.heap.size<=b/\b<a4.heap.size) t8 g[i].path:=(((o8.readF dC c7.2.2.2.1).bound (λh=>h) dC).ext (x9.trans b4)).mono λb hb=>by omega
  have up:∀{tt:Sl} {L:LD},SlP depP w9 (λb=>w8.heap.size<=b/\b<w9.heap.size) tt L->SlR depE a4 (λb=>w5.heap.size<=b/\b<a4.heap.size) tt L:=λh=>(h.dep.ext b4).mono λb hb=>by omega
  refine(o5.ext a0).push Sx oM (x:=g[i]) (S':=λb=>w5.heap.size<=b/\b<a4.heap.size) ⟨d8,t8,d',e',o',rfl,r8,up d2,up d3,up d7⟩ (c9.ldc.pre (r:=[]) rfl) (λb hb=>hb.2) (λad ha hb=>by have:=(o5.block ha).2.1;have:=hb.1;omega) (by rw[a8,b0];rw[b0]at b8;omega) (by rw[a8];omega) λr e0 d9 a5 c3 c4=>?_;have f0:=Below.size a5;have d6:∀ad,so.a=some ad->a3.block≠ad.block:=λad h=>by have:=(o5.block h).1;omega
  have kb:∀{ad:Addr} {cs:LV},BoxAt a4 ad cs->ad.block<w4.heap.size->BoxAt e0 ad cs:=λh c6=>h.keep (S:=λb=>∀ad,so.a=some ad->b≠ad.block) (λad h=>by have:=(o5.block h).1;omega) λb hb hl=>c3 b hl hb;refine stw0.intro (kb (b9.ext a0) oM) sI λe1 a9 _ d0=>hn a6 e1 ⟨r,λb=>Q b\/(w5.heap.size<=b/\b<a4.heap.size),?_,?_,a9.box (kb (c5.ext a0) oM) oM,d0,?_,λb hb=>hb.elim (hQ b) λh=>by omega⟩
  .exact a9.ext ((b2.trans a0).trans' (a5.mono oM)) oM
  .have:=a9.1;omega
  .rw[dw a6];refine d9.but a9 (λhb=>?_) λad ha=>?_
   .obtain hb|hb:=hb
    .have:=hQ _ hb;omega
    .omega
   .obtain q|q:=c4 ad ha
    .exact d6 ad q
    .omega
 .have a6:i=g.length:=oM;subst a6;rw[eu]at o5;have rd:=(o5.read (by rw[b0];rw[b0]at b8;omega) d5).mono (S':=λb=>w4.heap.size<=b/\b<w5.heap.size) λb hb=>by
   rcases hb with hb|⟨ad,ha,rfl⟩
   .exact⟨hQ b hb,o5.lt b hb⟩
   .have:=o5.block ha;exact⟨this.1,this.2.1⟩
  refine⟨so,b9.at0 (r:=[]) xR rfl,stw0.intro c5 sI λw6 b6 _ h6=>⟨so,h6.at0 (r:=[]) xR rfl,?_⟩⟩;have z6:=b6.1;exact hR so w6 (b6.ext b2 oM) ((rd.but b6 λh=>by omega).mono λb hb=>by omega)
def ownMan_se{e v:Sl}{R:Sl->Sl->Sl->Sl->Wp}(hS:Old S w)(hm:ManS w S d e o v m)(hR:∀d' e' o' v' w',Ext w w'->ManS w' (λb=>w.heap.size<=b/\b<w'.heap.size) d' e' o' v' m->R d' e' o' v' w'):SE.Hc d e o v w R:=by
 unfold SE.Hc;refine newS.intro λa w1 x1 ha _ _=>newS.intro λa1 w2 x2 h1 a7 _=>bnd.drew λw3 x3=>⟨d,ha.at0 (x2.trans x3) rfl,e,ha.at1 (k:=1) (x2.trans x3) rfl,o,ha.at1 (k:=2) (x2.trans x3) rfl,v,ha.at1 (k:=3) (r:=[]) (x2.trans x3) rfl,?_⟩;have a0:=x1.trans (x2.trans x3);refine callX.intro (SE.EC.go (Hb (hS.ext a0.size) (hm.d.ext a0) λt1 w4 x4 r1=>⟨x4,_,rfl,?_⟩));have a4:=a0.trans x4;refine callX.intro (SE.EC.go (Hb (hS.ext a4.size) (hm.e.ext a4) λt2 w5 x5 r2=>⟨x5,_,rfl,?_⟩));have a5:=a4.trans x5;refine callX.intro (SE.EC.go (Hb (hS.ext a5.size) (hm.o.ext a5) λt3 w6 x6 r3=>⟨x6,_,rfl,?_⟩));have a6:=a5.trans x6;refine SE.EC.go (Hb (hS.ext a6.size) (hm.v.ext a6) λt4 w7 x7 r4=>⟨_,rfl,stw0.intro (h1.ext (x3.trans (x4.trans (x5.trans (x6.trans x7))))) sI λw8 b8 _ h8=>⟨t1,t2,t3,t4,h8.at0 (r:=[]) xR rfl,?_⟩⟩);have s1:=x1.size;have s2:=x2.size;have s3:=x3.size;have s4:=x4.size;have s5:=x5.size;have s6:=x6.size;have s7:=x7.size;have z8:=b8.1;have l1:=h1.lt;have up:∀{tt:Sl} {L:LD} {wa wb:Wd},SlP depP wb (λb=>wa.heap.size<=b/\b<wb.heap.size) tt L->Ext wb w7->w3.heap.size<=wa.heap.size->SlR depE w8 (λb=>w.heap.size<=b/\b<w8.heap.size) tt L:=λh hx a8=>by have:=hx.size;exact((h.dep.ext hx).but b8 λh=>by omega).mono λb hb=>by omega
 exact hR t1 t2 t3 t4 w8 (b8.ext (a6.trans x7) oM) ⟨up r1 (x5.trans (x6.trans x7)) nR,up r2 (x6.trans x7) oM,up r3 x7 oM,up r4 xR oM⟩
def Zfn{e v:Sl}{R:Sl->Sl->Sl->Sl->Sl->Sl->Bool->Wp}(hS:Old S w)(hs:SttS w S d e o v g t s)(hR:∀d' e' o' v' g' t' w',Ext w w'->SttS w' (λb=>w.heap.size<=b/\b<w'.heap.size) d' e' o' v' g' t' s->R d' e' o' v' g' t' s.pruned w'):SE.KU d e o v g t s.pruned w R:=by unfold SE.KU;refine newS.intro λa w1 x1 ha _ _=>newS.intro λa1 w2 x2 h1 a6 _=>bnd.drew λw3 x3=>⟨d,e,o,v,ha.at0 (x2.trans x3) rfl,g,ha.at1 (k:=4) (x2.trans x3) rfl,t,ha.at1 (k:=5) (x2.trans x3) rfl,_,ha.at1 (k:=6) (r:=[]) (x2.trans x3) rfl,?_⟩;have a0:=x1.trans (x2.trans x3);refine callX.intro (SE.Hc.go (ownMan_se (hS.ext a0.size) (hs.m.ext a0) λd' e' o' v' w4 x4 hm=>⟨x4,d',e',o',v',rfl,?_⟩));have a4:=a0.trans x4;refine callX.intro (SE.KT.go (Zfm (hS.ext a4.size) (hs.g.ext a4) λg' w5 x5 hg=>⟨x5,g',rfl,?_⟩));have a5:=a4.trans x5;refine callX.intro (SE.KV.go (Zfo (hS.ext a5.size) (hs.t.ext a5) λt' w6 x6 ht=>⟨x6,t',rfl,?_⟩));refine stw0.intro (h1.ext (x3.trans (x4.trans (x5.trans x6)))) sI λw8 b8 _ h8=>⟨d',e',o',v',g',t',_,h8.at0 (r:=[]) xR rfl,?_⟩;have s1:=x1.size;have s2:=x2.size;have s3:=x3.size;have s4:=x4.size;have s5:=x5.size;have s6:=x6.size;have z8:=b8.1;have l1:=h1.lt;refine hR d' e' o' v' g' t' w8 (b8.ext (a5.trans x6) oM) ⟨((hm.ext (x5.trans x6)).but b8 λh=>by omega).mono λb hb=>by omega,((hg.ext x6).but b8 λh=>by omega).mono λb hb=>by omega,(ht.but b8 λh=>by omega).mono λb hb=>by omega⟩
def Wm(t:Stl):LV:=[vi (t.src:Int),.string t.label,vi (t.dst:Int)]
def BI:Enc Stl:=DE 3 32 Wm (λt=>Ac t.label) (λ_=>rfl) (λ_ v hv=>by simp[Wm]at hv;rcases hv with rfl|rfl|rfl<;>rfl)
def Wn{s:Sl}{l:List Stl}(h:SlR BI w S s l)(hn:n<l.length):∃ad,s.a=some ad/\Ac l[n].label/\∀w',Ext w w'->ldc w' (ad.add (n*3)) [vi (l[n].src:Int),.string l[n].label,vi (l[n].dst:Int)]:=by obtain⟨ad,cs,h1,h2,⟨rfl,h3⟩,h4⟩:=h.el hn;exact⟨ad,h1,h3,h4⟩
section
variable {w:Wd} {p:Addr} {S:Nat->Prop} {c:PC} {G:LN} {P:List Pack} {old:Option (List Dir)} {s:PlS}
def Zgj{x:Bs}{R:Int->Wp}(h:PlV BI w p S c G P old s)(hR:∀w',Ext w w'->R (Ca (EL s src x)) w'):SE.Lh (some p) (src:Int) x w R:=by
 unfold SE.Lh;have a5:=h.st;have hl:=a5.len;refine⟨p,rfl,c.st,h.ld xR 8 (r:=[]) rfl,?_⟩;refine loop1.up a5.max (λi w'=>Ext w w'/\∀j (hj:j<s.done.length),j<i-> ¬(s.done[j].src=src/\s.done[j].label=x)) ⟨Ext.refl _,λ_ _ h=>by omega⟩ λi w1 b0 hi ⟨x1,hI⟩ hn=>⟨λa8=>?_,λa9=>?_⟩
 .have a4:i<s.done.length:=oM;obtain⟨ad,ha,_,a7⟩:=Wn a5 a4;refine⟨ad,⟨ha,oM,a8⟩,(s.done[i].src:Int),s.done[i].label,(s.done[i].dst:Int),by rw[ec];exact a7 _ x1,newS.set rfl λa w2 x2 a0 _=>⟨_,a0.at0 xR rfl,bound ⟨_,λ_=>a0.at1 (k:=1) xR rfl,λhc=>⟨_,a0.at1 (k:=2) (r:=[]) xR rfl,?_⟩,λhc=>?_⟩⟩⟩
  .simp only[dz,beq_iff_eq,AH]at hc;have e:EL s src x=some s.done[i].dst:=by unfold EL;rw[List.find?_eq_some_iff_getElem.2 ⟨by simp only[decide_eq_true_eq];exact⟨oM,hc.2⟩,i,a4,rfl,λj hj=>by rw[kx,decide_eq_false_iff_not];exact hI j oM hj⟩];rfl
   have:=hR w2 (x1.trans x2);rw[e]at this;exact this
  .refine hn a4 w2 ⟨x1.trans x2,λj hj a6=>?_⟩;obtain h'|h':=il.1 a6
   .exact hI j hj h'
   .subst h';rintro⟨h1,h2⟩;rw[h1,h2,AH.2 rfl]at hc;simp at hc
 .have e:EL s src x=none:=by
   unfold EL;rw[kj.2 λt ht=>?_]
   .rfl
   .obtain⟨j,hj,rfl⟩:=fp.1 ht;rw[decide_eq_true_eq];exact hI j hj oM
  have:=hR w1 x1;rw[e]at this;exact this
def Zgq(h:PlV E w p S c G P old s)(hi:i<s.dirs.length)(hj:j<s.dirs.length)(hR:∀w',Ext w w'->R (decide (Ad s.dirs j<+:Ad s.dirs i)) w'):SE.Lo (some p) (i:Int) (j:Int) w R:=by
 unfold SE.Lo;have b4:=Fm h;obtain⟨ad,qi,_,_,_,ha,_,_,a4,_,_,_,a8⟩:=h.dirEl hi;obtain⟨a6,qj,_,_,_,a7,_,_,a5,_,_,_,a9⟩:=h.dirEl hj;have e1:Ad s.dirs i=s.dirs[i].path:=Ck (dt hi);have e2:Ad s.dirs j=s.dirs[j].path:=Ck (dt hj);rw[e1,e2]at hR;generalize s.dirs[i].path=pi at*;generalize s.dirs[j].path=pj at*;have b5:=a4.len;have b0:=a5.len;have b2:pi.length<=qi.cap:=a4.2.1;refine bnd.drew λw1 x1=>⟨p,rfl,c.dr,h.ld x1 7 rfl,ad,⟨ha,oM,oM⟩,qi,by rw[ec];exact(a8 _ x1).pre rfl,p,rfl,c.dr,h.ld x1 7 rfl,a6,⟨a7,oM,oM⟩,qj,by rw[ec];exact(a9 _ x1).pre rfl,bound ⟨λhg=>?_,gCall.intro (decide (pi.take pj.length=pj)) (λhg q hq=>?_) λt w2 x2 ht=>?_⟩⟩
 .have:=of_decide_eq_true hg;exact⟨oM,oM⟩
 .have:=of_decide_eq_true hg;have a0:=(a4.ext x1).cut (a:=0) (b:=pj.length) (gl _) oM;rw[jv]at a0;rw[ec,b0];exact SE.Hq.go (PH a0 (a5.ext x1) λw2 x2=>⟨_,rfl,hq w2 x2⟩)
 .have:=hR w2 (x1.trans x2);have e:(decide ((qj.len:Int)<=(qi.len:Int))&&t)=decide (pj<+:pi):=by
   rw[gn,dz,decide_eq_true_iff,decide_eq_true_iff];constructor
   .rintro⟨h1,h2⟩;rw[ht (decide_eq_true h1),decide_eq_true_iff]at h2;rw[<-h2];exact List.take_prefix _ _
   .intro h1;have h2:=h1.length_le;have h3:(qj.len:Int)<=(qi.len:Int):=oM;refine⟨h3,?_⟩;rw[ht (decide_eq_true h3),decide_eq_true_iff];exact(List.prefix_iff_eq_take.1 h1).symm
  rw[e];exact this
def MK(s:PlS)(j:Nat)(x:Bs):Prop:=∃t∈s.done,t.label=x/\Ad s.dirs j<+:Ad s.dirs t.src/\(Ad s.dirs t.dst).length<=(Ad s.dirs j).length
def Zgp{x:Bs}(h:PlV BI w p S c G P old s)(hd:OB s)(hj:j<s.dirs.length)(hR:∀(b:Bool) w',Ext w w'->(b=true↔MK s j x)->R b w'):SE.Ln (some p) (j:Int) x w R:=by
 unfold SE.Ln;have d1:=Fm h;obtain⟨b0,qj,_,_,_,b4,_,_,c6,_,_,_,b6⟩:=h.dirEl hj;have e2:Ad s.dirs j=s.dirs[j].path:=Ck (dt hj);have a6:=h.st;have hl:=a6.len;have b8:=c6.len;rw[<-e2]at b8;refine⟨p,rfl,c.dr,h.ld xR 7 rfl,b0,⟨b4,oM,oM⟩,qj,by rw[ec];exact(b6 _ xR).pre rfl,p,rfl,c.st,h.ld xR 8 (r:=[]) rfl,?_⟩;refine loop1.up a6.max (λi w'=>Ext w w'/\∀k (hk:k<s.done.length),k<i-> ¬(s.done[k].label=x/\Ad s.dirs j<+:Ad s.dirs s.done[k].src/\(Ad s.dirs s.done[k].dst).length<=(Ad s.dirs j).length)) ⟨Ext.refl _,λ_ _ h=>by omega⟩ λi w1 d0 hi ⟨x1,hI⟩ hn=>⟨λc4=>?_,λd2=>?_⟩
 .have a4:i<s.done.length:=oM;obtain⟨ad,ha,_,c3⟩:=Wn a6 a4;obtain⟨c8,a8⟩:=hd _ (fg a4);obtain⟨b2,qt,_,_,_,b5,_,_,c7,_,_,_,b7⟩:=h.dirEl a8;have e3:Ad s.dirs s.done[i].dst=s.dirs[s.done[i].dst].path:=Ck (dt a8);have c9:=c7.len;rw[<-e3]at c9;have a9:(s.done[i].label=x/\Ad s.dirs j<+:Ad s.dirs s.done[i].src/\(Ad s.dirs s.done[i].dst).length<=(Ad s.dirs j).length)->MK s j x:=λh=>⟨_,fg a4,h⟩;have a7: ¬(s.done[i].label=x/\Ad s.dirs j<+:Ad s.dirs s.done[i].src/\(Ad s.dirs s.done[i].dst).length<=(Ad s.dirs j).length)->∀w',Ext w w'->d0 (Aa ((i:Int)+1)) w':=λc5 w' hx=>hn a4 w' ⟨hx,λk hk b9=>by
   obtain h'|h':=il.1 b9
   .exact hI k hk h'
   .subst h';exact c5⟩
  generalize s.done[i]=d at*;refine⟨ad,⟨ha,oM,c4⟩,(d.src:Int),d.label,(d.dst:Int),by rw[ec];exact c3 _ x1,newS.set rfl λa w2 x2 a5 _=>bnd.drew λw3 x3=>⟨_,a5.at1 (k:=1) x3 rfl,bound ⟨(d.src:Int),λ_=>a5.at0 x3 rfl,?_⟩⟩⟩;have a0:=x1.trans (x2.trans x3);refine gCall.intro (decide (Ad s.dirs j<+:Ad s.dirs d.src)) (λ_ q hq=>SE.Lo.go (Zgq (h.ext a0) c8 hj λw4 x4=>⟨_,rfl,hq w4 x4⟩)) λt w4 x4 ht=>bound ⟨p,λ_=>rfl,c.dr,λ_=>h.ld (a0.trans x4) 7 rfl,(d.dst:Int),λ_=>a5.at1 (k:=2) (r:=[]) (x3.trans x4) rfl,b2,λ_=>⟨b5,oM,oM⟩,qt,λ_=>by rw[ec];exact(b7 _ (a0.trans x4)).pre rfl,λhc=>?_,λhc=>?_⟩
  .simp only[dz,decide_eq_true_eq]at hc;obtain⟨⟨h1,h2⟩,h3⟩:=hc;rw[ht h1,decide_eq_true_iff]at h2;exact hR true w4 (a0.trans x4) ⟨λ_=>a9 ⟨AH.1 h1,h2,oM⟩,λ_=>rfl⟩
  .refine a7 (λ⟨h1,h2,h3⟩=>?_) w4 (a0.trans x4);have h1:=AH.2 h1;rw[ht h1,h1,decide_eq_true h2,decide_eq_true (show(qt.len:Int)<=(qj.len:Int) by omega)]at hc;cases hc
 .refine hR false w1 x1 ⟨nO,λ⟨t,ht,hq⟩=>?_⟩;obtain⟨k,hk,rfl⟩:=fp.1 ht;exact absurd hq (hI k hk oM)
end
def LeastO(Q:Nat->Prop):Option Nat->Prop
 |none=>∀n,¬Q n
 |some n=>Q n/\∀m,Q m->n<=m
def LeastO.iff{Q Q':Nat->Prop}{o:Option Nat}(h:LeastO Q o)(e:∀n,Q n↔Q' n):LeastO Q' o:=by
 cases o with
 |none=>exact λn hn=>h n ((e n).2 hn)
 |some n=>exact⟨(e n).1 h.1,λm hm=>h.2 m ((e m).2 hm)⟩
def XR{s:PlS}{q:Aq}{x:Bs}{like:Nat->Bool}{bo lo:Option Nat}(hb:LeastO (Spot s q x) bo)(hl:LeastO (λn=>Spot s q x n/\like n=true) lo)(a0:∃n,Spot s q x n):∃n,Best s q x like n/\(match lo with|some m=>m=n|none=>bo=some n):=by
 cases lo with
 |some m=>exact⟨m,⟨hl.1.1,λ_ _ _=>hl.1.2,λk hk e=>hl.2 k ⟨hk,e.trans hl.1.2⟩⟩,rfl⟩
 |none=>
  cases bo with
  |none=>obtain⟨n,hn⟩:=a0;exact absurd hn (hb n)
  |some n=>
   have a4:∀k,Spot s q x k->like k=false:=λk hk=>by
    cases hlk:like k with
    |false=>rfl
    |true=>exact absurd ⟨hk,hlk⟩ (hl k)
   exact⟨n,⟨hb.1,(λm hm h=>by rw[a4 m hm]at h;cases h),λm hm _=>hb.2 m hm⟩,rfl⟩
section
variable {w:Wd} {p:Addr} {S:Nat->Prop} {c:PC} {G:LN} {P:List Pack} {old:Option (List Dir)} {s:PlS}
def Ds(s:PlS)(q:Aq)(o:Option Nat):Int:=Ca (o.bind λn=>Ax s.dirs (q.take n))
def Zgo{k:Nat}{R:Int->Wp}(h:PlV BI w p S c G P old s)(hd:OB s)(d8:src<s.dirs.length)(h8:k<G.length)(f1:k<P.length)(hx:Ac G[k].name)(hb:(Ad s.dirs src).length<=4000000)
  (b8:∀n,n<=(Ad s.dirs src).length->∃h,Ax s.dirs ((Ad s.dirs src).take n)=some h) (e9:∃n,Spot s (Ad s.dirs src) G[k].name n)
  (hR:∀n j w',Ext w w'->Best s (Ad s.dirs src) G[k].name (λn=>K8 old P ((Ad s.dirs src).take n++[G[k].name]) k) n->Ax s.dirs ((Ad s.dirs src).take n)=some j->R (j:Int) w'):SE.Lm (some p) (src:Int) (k:Int) w R:=by
 unfold SE.Lm;have j7:=Fm h;have j9:=h.g.len;have k1:=h.pk.len;obtain⟨f9,_,_,g3,_,_,_,f2⟩:=Cj h.g h8;obtain⟨ad,t,_,_,_,ha,_,_,ht,_,_,_,hc⟩:=h.dirEl d8;have e1:Ad s.dirs src=s.dirs[src].path:=Ck (dt d8);rw[e1]at hb b8 e9 hR;generalize s.dirs[src].path=q at*;generalize G[k].name=x at*;have k2:=ht.len;have j4:q.length<=t.cap:=ht.2.1;refine⟨p,rfl,c.u,h.ld0 xR,f9,⟨g3,oM,oM⟩,x,by rw[ec];exact(f2 _ xR).pre rfl,p,rfl,c.dr,h.ld xR 7 rfl,ad,⟨ha,oM,oM⟩,t,by rw[ec];exact(hc _ xR).pre rfl,join.named λJ hJ=>?_⟩;let like:=λn=>K8 old P (q.take n++[x]) k;have d4:∀bo lo w',Ext w w'->LeastO (Spot s q x) bo->LeastO (λn=>Spot s q x n/\like n=true) lo->J (Ds s q bo) (Ds s q lo) w':=λbo lo w' hx b6 a6=>by
  rw[hJ];obtain⟨n,b5,hm⟩:=XR b6 a6 e9;obtain⟨j,hj⟩:=b8 n b5.spot.le;have hr:=hR n j w' hx b5 hj;cases lo with
  |some m=>
   obtain rfl:m=n:=hm;have e:Ds s q (some m)=(j:Int):=by unfold Ds;rw[mz,hj];rfl
   rw[e];exact⟨λ_=>hr,λh=>by omega⟩
  |none=>have hm:bo=some n:=hm;subst hm;have e:Ds s q (some n)=(j:Int):=(by unfold Ds;rw[mz,hj];rfl);rw[e];exact⟨nO,λ_=>hr⟩
 clear hJ;refine loop3.ghost (λi d2 c5 vk w'=>∃bo lo:Option Nat,vk=(i:Int) - 1/\i<=q.length+1/\Ext w w'/\d2=Ds s q bo/\c5=Ds s q lo/\(∀m,i<=m->m<=q.length->Ax s.dirs (q.take m++[x])=none)/\LeastO (λn=>i<=n/\Spot s q x n) bo/\LeastO (λn=>i<=n/\Spot s q x n/\like n=true) lo) (q.length+1)
  ⟨none,none,oM,fl _,Ext.refl _,rfl,rfl,λm h1 h2=>by omega,λn hn=>by have:=hn.2.le;omega,λn hn=>by have:=hn.2.1.le;omega⟩ λi d2 c5 vk w1 k4 ⟨bo,lo,k3,hi,x1,g5,h9,d3,b6,a6⟩ i4=>?_
 subst g5 h9;refine⟨λj8=>join.named λJ2 e5=>bnd.drew λw2 x2=>?_,λi2=>?_⟩
 rotate_left
 .obtain rfl:i=0:=oM;exact d4 bo lo w1 x1 (b6.iff λn=>⟨λh=>h.2,λh=>⟨gl _,h⟩⟩) (a6.iff λn=>⟨λh=>h.2,λh=>⟨gl _,h⟩⟩)
 obtain⟨m,rfl⟩:∃m,i=m+1:=⟨i - 1,oM⟩;have j0:vk=(m:Int):=oM;subst j0;have c8:m<=q.length:=oM;have b4:∀c6 c9 w',Ext w w'->Ax s.dirs (q.take m++[x])=none->LeastO (λn=>m<=n/\Spot s q x n) c6->LeastO (λn=>m<=n/\Spot s q x n/\like n=true) c9->J2 (Ds s q c6) (Ds s q c9) w':=λc6 c9 w' hx hm h1 h2=>by
  rw[e5];refine i4 m _ _ _ w' oM ⟨c6,c9,?_,oM,hx,rfl,rfl,λn h3 h4=>?_,h1,h2⟩
  .rw[Ag oM oM]
  .by_cases hn:n=m
   .rw[hn];exact hm
   .exact d3 n oM h4
 clear e5;have d0:=x1.trans x2;obtain⟨j,hj⟩:=b8 m c8;obtain⟨dj,e8,i9⟩:=DC hj;have h7:j<s.dirs.length:=(fe.1 e8).1;have d9:Ad s.dirs j=q.take m:=by rw[Ck e8];exact i9
 have d6:(q.take m).length=m:=by rw[fb];omega
 have b7:=(ht.ext d0).cut (a:=0) (b:=m) (gl _) c8;rw[jv]at b7;refine⟨p,rfl,c.dr,h.ld d0 7 rfl,⟨oM,oM⟩,?_⟩;rw[ec];refine SE.ER.go (IZ (h.dr.ext d0) b7 λw3 x3=>⟨_,rfl,⟨oM,oM⟩,?_⟩);rw[Ka,NJ,hj];have f7:=d0.trans x3;refine SE.Gc.go (Nf (h.lt.ext f7.size) (b7.ext x3) λt4 w4 x4 o4=>⟨_,rfl,newS.intro λa w5 x5 g4 _ _=>?_⟩);refine(o4.ext x5).pushF (x4.trans x5) G6 (x:=x) ⟨rfl,hx⟩ (g4.ldc.pre (r:=[]) rfl) dC (by show _*16<=Ab;unfold Ab;omega) λt6 w6 o6 x6=>?_;have e3:=f7.trans x6;have f0:SlR strE w6 (λb=>w3.heap.size<=b) t6 (q.take m++[x]):=o6.strs (by rw[du,d6,gk];omega);refine⟨p,rfl,c.dr,h.ld e3 7 rfl,SE.ER.go (IZ (h.dr.ext e3) f0 λw7 x7=>⟨_,rfl,λhc=>?_,λhc=>?_⟩)⟩
 all_goals
  rw[Ka,NJ]at hc;have d1:=e3.trans x7
 .have e2:Ax s.dirs (q.take m++[x])≠none:=λe=>by rw[e]at hc;exact absurd hc dC
  have d5:∀n,Spot s q x n->m+1<=n:=λn hn=>iq λi2=>e2 (hn.clear m oM c8);exact d4 bo lo w7 d1 (b6.iff λn=>⟨λh=>h.2,λh=>⟨d5 n h,h⟩⟩) (a6.iff λn=>⟨λh=>h.2,λh=>⟨d5 n h.1,h⟩⟩)
 have a5:Ax s.dirs (q.take m++[x])=none:=by
  cases hf:Ax s.dirs (q.take m++[x])with
  |none=>rfl
  |some i=>rw[hf]at hc;exact absurd (KQ.2 ⟨i,rfl⟩) hc
 have c4:MK s j x↔ ¬Spot s q x m:=by
  unfold MK;rw[d9,d6];constructor
  .rintro⟨u,h1,h2,h3,h4⟩ c3;have:=c3.keep u h1 h2 h3;omega
  .intro a7;refine iq λi3=>a7 ⟨c8,λn h1 h2=>?_,λu h1 h2 h3=>iq λh4=>i3 ⟨u,h1,h2,h3,oM⟩⟩;by_cases hn:n=m
   .rw[hn];exact a5
   .exact d3 n oM h2
 have up:∀{Q:Nat->Prop} {o:Option Nat},LeastO (λn=>m+1<=n/\Q n) o-> ¬Q m->LeastO (λn=>m<=n/\Q n) o:=λho hq=>ho.iff λn=>⟨λh=>⟨oM,h.2⟩,λh=>⟨by
  obtain e|e:=Nat.eq_or_lt_of_le h.1
  .rw[e]at hq;exact absurd h.2 hq
  .omega,h.2⟩⟩
 have new:∀{Q:Nat->Prop},Q m->LeastO (λn=>m<=n/\Q n) (some m):=λhq=>⟨⟨fl _,hq⟩,λn h=>h.1⟩;refine SE.Ln.go (Zgp (h.ext d1) hd h7 λb w8 x8 e7=>⟨b,rfl,λc7=>?_,λc7=>?_⟩)
 .have a7: ¬Spot s q x m:=c4.1 (e7.1 c7);exact b4 bo lo w8 (d1.trans x8) a5 (up b6 a7) (up a6 λh=>a7 h.1)
 have c3:Spot s q x m:=iq λa7=>by rw[e7.2 (c4.2 a7)]at c7;cases c7
 have a9:=d1.trans x8;have b2:Ds s q (some m)=(j:Int):=by unfold Ds;rw[mz,hj];rfl
 have k0:Ca (some j)=(j:Int):=rfl;have no:∀w',Ext w w'->like m=false->J2 (j:Int) (Ds s q lo) w':=λw' hx hl=>by rw[<-b2];exact b4 (some m) lo w' hx a5 (new c3) (up a6 λh=>by rw[hl]at h;cases h.2)
 refine⟨p,rfl,c.ol,h.ld a9 6 rfl,λh0=>?_,λh0=>?_⟩
 .have i7:old=none:=by have:=h.old;rw[h0]at this;exact this.none_
  exact no w8 a9 (by show K8 old P _ k=false;rw[i7];rfl)
 obtain⟨ao,T,e6,i6,j6,f6,d7,b9⟩:=h.old.some_ h0;refine⟨p,rfl,c.ol,h.ld a9 6 rfl,ao,e6,f6,d7.ext a9,SE.ER.go (IZ (b9.ext a9) (f0.ext (x7.trans x8)) λw9 x9=>⟨_,rfl,bnd.drew λj2 j3=>bound ?_⟩)⟩;have a0:=a9.trans (x9.trans j3);rw[Ka];have a4:like m=match Ax (T.map AD) (q.take m++[x])with
  |none=>false
  |some i=>decide (T[i]?.map Dir.pack=P[k]?):=by show K8 old P _ k=_;rw[i6];rfl
 have j5:=b9.len;cases hf:Ax (T.map AD) (q.take m++[x])with
 |none=>rw[hf]at a4;refine⟨p,nO,none,nO,p,nO,t,nO,ad,nO,⟨#[]⟩,0,0,0,t,t,t,nO,p,nO,t,nO,ad,nO,⟨#[]⟩,0,0,0,t,t,t,nO,?_⟩;exact gCall.intro true nO λj1 a8 b0 _=>⟨λh=>(by cases h),λ_=>no a8 (a0.trans b0) a4⟩
 |some v=>
  rw[hf]at a4;have f5:v<T.length:=by obtain⟨d,h1,_⟩:=DC hf;have:=(fe.1 h1).1;rwa [dx]at this
  have a4:like m=decide (T[v].pack=P[k]):=by rw[a4];show decide (T[v]?.map Dir.pack=P[k]?)=_;rw[dt f5,dt f1,je];simp only[ep]
  obtain⟨e4,qT,dT,eT,oT,g2,_,_,_,g9,h6,f4,g7⟩:=dirEl b9 f5;obtain⟨f8,dP,eP,oP,g1,_,_,g8,h5,i5,g6⟩:=I7 h.pk f1;have e0:decide (0<=Ca (some v))=true:=decide_eq_true (by show(0:Int)<=(v:Int);omega);rw[e0];refine⟨p,λ_=>rfl,c.ol,λ_=>h.ld a0 6 rfl,ao,λ_=>e6,f6,λ_=>d7.ext a0,e4,λ_=>⟨g2,by show(0:Int)<=(v:Int);omega,by show(v:Int)<_;omega⟩,T[v].pack.name,T[v].pack.v.ma,T[v].pack.v.mi,T[v].pack.v.pa,dT,eT,oT,λ_=>?_,p,λ_=>rfl,c.ps,λ_=>h.ld a0 1 rfl,f8,λ_=>⟨g1,oM,oM⟩,P[k].name,P[k].v.ma,P[k].v.mi,P[k].v.pa,dP,eP,oP,λ_=>by rw[ec];exact g6 _ a0,?_⟩
  .show ldc j2 ((e4.add (v*9)).add 1) _;exact(g7 _ a0).mid (k:=1) rfl
  refine gCall.intro (decide (T[v].pack=P[k])) (λ_ r hr=>SE.Fy.go (KW (p:=T[v].pack) (q:=P[k]) (g9.ext a0) (h6.ext a0) (f4.ext a0) (g8.ext a0) (h5.ext a0) (i5.ext a0) λa8 b0=>⟨_,rfl,hr a8 b0⟩)) λj1 a8 b0 g0=>?_;rw[g0 rfl,<-a4];refine⟨λhl=>?_,λhl=>no a8 (a0.trans b0) (by simpa using hl)⟩;have hl:like m=true:=by simpa using hl
  have:=b4 (some m) (some m) a8 (a0.trans b0) a5 (new c3) (new ⟨c3,hl⟩);rw[b2]at this;exact this
end
end Go.Hal
namespace Go.Hal
def gCall.yes{τ:Sort _}{k:τ}{A B:τ->Prop}(h:A k):gCall true k A B:=⟨λ_=>h,nO⟩
def gCall.no{τ:Sort _}{k:τ}{A B:τ->Prop}(h:B k):gCall false k A B:=⟨nO,λ_=>h⟩
def Fa{α:Type}(nm:α->Bs)(l:List α)(i:Nat):Prop:=RiseN nm (l.take i)/\∀q∈l.take i,Af (nm q)=true
def UU{α:Type}{nm:α->Bs}{l:List α}:Fa nm l 0:=⟨.nil,λ_ h=>nomatch h⟩
def UT{α:Type}{nm:α->Bs}{l:List α}(hi:i<l.length){t:Bs}(ht:0<i->t=nm (l[i - 1]'oM)):
  ((!Af (nm l[i])||(decide (0<(i:Int))&& !Ao t (nm l[i])))=false->Fa nm l i->Fa nm l (i+1))/\((!Af (nm l[i])||(decide (0<(i:Int))&& !Ao t (nm l[i])))=true-> ¬Fa nm l l.length):=by
 constructor
 .intro hc ⟨h1,h2⟩;simp only[gh,ni,ly,decide_eq_false_iff_not]at hc;refine⟨?_,λq hq=>?_⟩
  .by_cases h0:i=0
   .subst h0;exact QO
   .refine QP oM hi h1 ?_;obtain h3|h3:=hc.2
    .omega
    .rw[ht oM]at h3;exact h3
  .rw[dw hi]at hq;obtain hq|hq:=fj.1 hq
   .exact h2 q hq
   .rw[eh.1 hq];exact hc.1
 .intro hc ⟨h1,h2⟩;rw[eu]at h1 h2;simp only[mf,kx,dz,decide_eq_true_eq]at hc;rcases hc with h3|⟨h3,h4⟩
  .rw[h2 _ (fg hi)]at h3;cases h3
  .rw[ht oM]at h4;exact QN oM hi h4 h1
structure NodeR(G:LN)(P:List Pack)(i:Nat)(x:Node):Prop where
 root:i=0->x.key=rootNode.key/\P[0]?=some Az
 pl:NodePl G P i x
 cn:∀q∈x.ctx,Af q.name=true
 en:∀e∈x.edges,Af e.name=true
def PlaceOk.ctxName(h:PlaceOk G P){x:Node}(hx:G[i]?=some x):∀q∈x.ctx,Af q.name=true:=λq hq=>by obtain⟨y,hy,_⟩:=(h.node i x hx).full q hq;obtain⟨ed,h1,h2,_⟩:=Zt hy;rw[<-h2];exact h.name hx h1
def PlaceOk.nodeR(h:PlaceOk G P){x:Node}(hx:G[i]?=some x):NodeR G P i x:=
 ⟨λh0=>by subst h0;obtain⟨y,h1,h2⟩:=h.root;rw[hx]at h1;cases h1;exact⟨h2,h.zero⟩,h.node i x hx,h.ctxName hx,λe he=>h.name hx he⟩
def YE(h:PlaceOk G P)(k:Nat):∀q∈BA G k,Af q.name=true:=λq hq=>by
 unfold BA at hq;split at hq
 .rename_i x hx;exact h.ctxName hx q hq
 .cases hq
def PlaceOk.edgeAt(h:PlaceOk G P){k:Nat}{e:Edge}(he:e∈Aw G k):Af e.name=true/\∀y,G[e.to.toNat]?=some y->y.name=e.name:=by
 unfold Aw at he;split at he
 .rename_i x hx;refine⟨h.name hx he,λy hy=>?_⟩;obtain⟨j,z,h1,_,h3,h4⟩:=(h.node k x hx).edge e he;rw[h1,ec,h3]at hy;cases hy;exact h4
 .cases he
def PlaceOk.packAt(h:PlaceOk G P){k:Nat}{e:Edge}(he:e∈Aw G k):∀y,P[e.to.toNat]?=some y->y.name=e.name:=λy hy=>by
 unfold Aw at he;split at he
 .rename_i x hx;obtain⟨j,z,h1,h2,h3,h4⟩:=(h.node k x hx).edge e he;obtain⟨q,q1,_,q3,_⟩:=(h.node j z h3).pack oM;rw[h1,ec,q1]at hy;cases hy;rw[q3,h4]
 .cases he
def Vn{s:PlS}(hb:∀d∈s.dirs,d.path.length<=n)(hi:i<s.dirs.length):(Ad s.dirs i).length<=n:=by rw[Ck (dt hi)];exact hb _ (fg hi)
def XC:Bt prog 139 284 3 32:=CB (z:=.agg #[vi 0,.string ⟨#[]⟩,vi 0]) kR kR rfl dC
section
variable {w:Wd} {lo:Nat} {p:Addr} {S:Nat->Prop} {c:PC} {G:LN} {P:List Pack} {old:Option (List Dir)} {s:PlS}
def PlV.at_(h:PlV E w p S c G P old s)(hi:i<s.dirs.length):
  ∃ad q,c.dr.a=some ad/\((0:Int)<=(i:Int)/\(i:Int)<(c.dr.len:Int))/\SlR strE w S q (Ad s.dirs i)/\(∀w',Ext w w'->ldc w' (ad.add (i*9)) [q.v])/\∀w',Ext w w'->ldc w' ((ad.add (i*9)).add 8) [vi (nodeAt s.dirs i:Int)]:=by
 obtain⟨ad,q,d,e,o,h1,_,_,h2,_,_,_,h3⟩:=h.dirEl hi;rw[Ck (dt hi),EA (dt hi)];have:=Fm h;exact⟨ad,q,h1,⟨oM,oM⟩,h2,λw' hx=>(h3 w' hx).pre rfl,λw' hx=>(h3 w' hx).mid (k:=8) (r:=[]) rfl⟩
def Qh{x:Bs}(hi:i<s.dirs.length)(hx:Af x=true):FQ (s.dirs.map (AX P)) i x=Ca (AF s.dirs (Ad s.dirs i) x (Ad s.dirs i).length):=by
 have hl:i<(s.dirs.map (AX P)).length:=by simpa using hi
 rw[U7 hl,hx,if_pos rfl,NJ];have:((s.dirs.map (AX P))[i]).path=Ad s.dirs i:=by rw[nc,Ck (dt hi)];rfl
 rw[this]
def Q5(hb:∀d∈s.dirs,d.path.length<=4000000):∀d∈s.dirs.map (AX P),d.path.length<=4000000000000:=λd hd=>by obtain⟨y,hy,rfl⟩:=gu.1 hd;have:=hb y hy;show y.path.length<=_;omega
def Zdz{o:Option Nat}{d:Nat}:(Ca o==Ca (some d))=decide (o=some d):=by
 rw[gn,beq_iff_eq,decide_eq_true_iff];constructor
 .intro h;cases o with
  |none=>have h:(-1:Int)=(d:Int):=h;omega
  |some m=>have h:(m:Int)=(d:Int):=h;congr 1;omega
 .intro h;rw[h]
def Zgg{I:PlI}(hG:I.g=G){to:Nat}(hv:PlV BI w p S c G P old s)(a6:to<s.dirs.length)(d0:∀d∈s.dirs,d.node<G.length)(hb:∀d∈s.dirs,d.path.length<=4000000)(a8:∀k,∀q∈BA G k,Af q.name=true)
  (hR:∀(b:Bool) w',Ext w w'->(b=true↔H7 I s src to)->R b w'):SE.Ld (some p) (to:Int) (src:Int) w R:=by
 unfold SE.Ld;have d6:=Fm hv;have d8:=hv.g.len;obtain⟨ad,qs,ha,hl,_,_,c7⟩:=hv.at_ a6;have hn:nodeAt s.dirs to<G.length:=by rw[EA (dt a6)];exact d0 _ (fg a6)
 have a0:∀w',Ext w w'-> ¬H7 I s src to->R false w':=λw' hx h=>hR false w' hx ⟨nO,λhf=>absurd hf h⟩;have a8:=a8 (nodeAt s.dirs to);unfold H7 at a0 hR;rw[hG]at a0 hR;obtain⟨b9,cg,eg,c5,_,b0,_,b5⟩:=Cj hv.g hn;have d5:=b0.len;have c4:BA G (nodeAt s.dirs to)=G[nodeAt s.dirs to].ctx:=by unfold BA;rw[dt hn]
 rw[c4]at a0 hR a8;generalize d9:nodeAt s.dirs to=nd at*;refine bnd.drew λw1 x1=>⟨p,rfl,c.u,hv.ld0 x1,p,rfl,c.dr,hv.ld x1 7 rfl,ad,⟨ha,hl⟩,(nd:Int),by rw[ec];exact c7 _ x1,b9,⟨c5,oM,oM⟩,cg,by rw[ec];exact(b5 _ x1).mid (k:=4) rfl,?_⟩;generalize G[nd].ctx=cx at*;refine loop1.up b0.max (λk w'=>Ext w1 w'/\∀q∈cx.take k,∃d,EL s src q.name=some d/\AF s.dirs (Ad s.dirs to) q.name (Ad s.dirs to).length=some d) ⟨Ext.refl _,(λ_ h=>by cases h)⟩ λk w3 d4 hk ⟨x3,hI⟩ c9=>⟨λc8=>?_,λd7=>?_⟩
 .have a4:k<cx.length:=oM;obtain⟨c3,c6,_,d2,b6⟩:=Dh b0 a4;have a9:=fg a4;have d3:cx.take (k+1)=cx.take k++[cx[k]]:=dw a4;have b7:=x1.trans x3;have hq:=a8 _ a9;have b4:∀w',Ext w1 w'->(∃d,EL s src cx[k].name=some d/\AF s.dirs (Ad s.dirs to) cx[k].name (Ad s.dirs to).length=some d)->d4 (Aa ((k:Int)+1)) w':=λw' x' hd=>c9 a4 w' ⟨x',λq hq=>by
   rw[d3]at hq;obtain hq|hq:=fj.1 hq
   .exact hI q hq
   .rw[eh.1 hq];exact hd⟩
  have a5:∀w',Ext w w'-> ¬(∃d,EL s src cx[k].name=some d/\AF s.dirs (Ad s.dirs to) cx[k].name (Ad s.dirs to).length=some d)->R false w':=λw' hx d1=>a0 w' hx λhF=>d1 (hF _ a9);generalize cx[k]=q at*;refine⟨c3,⟨c6,oM,c8⟩,q.name,q.v.ma,q.v.mi,q.v.pa,by rw[ec];exact b6 _ b7,newS.set rfl λa w4 x4 b2 _=>⟨q.name,b2.at0 xR rfl,SE.Lh.go (Zgj (hv.ext (b7.trans x4)) λw5 x5=>⟨_,rfl,bnd.drew λw6 x6=>bound ?_⟩)⟩⟩;have b8:=x3.trans (x4.trans (x5.trans x6));have a7:=x1.trans b8;cases hst:EL s src q.name with
  |none=>exact⟨p,nO,Sl.nil,nO,q.name,nO,gCall.no ⟨λ_=>a5 w6 a7 (λ⟨d,h1,_⟩=>by rw[hst]at h1;cases h1),nO⟩⟩
  |some d=>have e0:decide (Ca (some d)<0)=false:=decide_eq_false (by show ¬(d:Int)<0;omega);rw[e0];refine⟨p,λ_=>rfl,c.dr,λ_=>hv.ld a7 7 rfl,q.name,λ_=>b2.at0 (x5.trans x6) rfl,gCall.yes (SE.Gm.go (NG (hv.lt.ext a7.size) (hv.dr.ext a7) (by simpa using a6) d2 (Q5 hb) λw7 x7=>⟨_,rfl,?_⟩))⟩;rw[Qh a6 hq];dsimp only;rw[Zdz,pp];refine⟨λhc=>a5 w7 (a7.trans x7) λ⟨d',h1,h2⟩=>?_,λhc=>b4 w7 (b8.trans x7) ⟨d,hst,by simpa using hc⟩⟩;rw[hst]at h1;cases h1;rw[decide_eq_true h2]at hc;cases hc
 .have a4:k=cx.length:=oM;rw[a4,eu]at hI;exact hR true w3 (x1.trans x3) ⟨λ_=>hI,λ_=>rfl⟩
def Vw{to:Nat}{x:Bs}{R:Wp}(h:MlV BI 284 w lo p S c G P old s)(a4:Ac x)(hs:s.done.length<=1000000)
  (hR:∀r w',MlV BI 284 w' lo p S {c with st:=r} G P old ⟨s.dirs,s.done++[⟨src,x,to⟩]⟩->Mv lo p c w {c with st:=r} w'->(∀b,b<w.heap.size->b≠p.block->(∀ad,c.st.a=some ad->b≠ad.block)->w'.heap[b]?=w.heap[b]?)->R w'):SE.I9 (some p) (src:Int) x (to:Int) w R:=by
 unfold SE.I9;refine⟨p,rfl,c.st,h.box.at1 (k:=8) (r:=[]) xR rfl,newS.intro λa w1 x1 a0 _ _=>?_⟩;exact(h.ext x1).pushSO XC (x:=⟨src,x,to⟩) (λw=>⟨rfl,a4⟩) (λh=>h) (a0.ldc.pre (r:=[]) rfl) ⟨by show _*32<=Ab;unfold Ab;omega,by rw[Ak];omega⟩ λr w2 h2 m2 o2=>hR r w2 h2 ((Mv.of x1 h.lo_le).trans m2) λb hb h1 h3=>(o2 b (by have:=x1.size;omega) h1 h3).trans (x1.block hb)
def Zgm{hm k:Nat}{x:Bs}{R:Int->Int->Wp}(hv:MlV BI 284 w lo p S c G P old s)(hd:s.dirs.length<=1000)(hs:s.done.length<=1000000)(hb:∀d∈s.dirs,d.path.length<=1000)(hh:hm<s.dirs.length)(hP:k<P.length)(hn:P[k].name=x)
  (h1:∀w',Ext w w'->c.l4<((A3 (Ad s.dirs hm++[x])).length:Int)->R 0 40 w')
  (h2:∀w',Ext w w'->((A3 (Ad s.dirs hm++[x])).length:Int)<=c.l4->c.l3<(s.dirs.length:Int)->R 0 41 w')
  (h3:∀r w',((A3 (Ad s.dirs hm++[x])).length:Int)<=c.l4->(s.dirs.length:Int)<=c.l3->MlV BI 284 w' lo p S {c with dr:=r} G P old ⟨s.dirs++[⟨Ad s.dirs hm++[x],k⟩],s.done⟩->Mv lo p c w {c with dr:=r} w'->R (s.dirs.length:Int) 0 w'):
  SE.Ll (some p) (hm:Int) (k:Int) w R:=by
 unfold SE.Ll;have a5:=hv.read hd ⟨by show _*32<=Ab;unfold Ab;omega,by rw[Ak];omega⟩;have f6:=Vn hb hh;have f2:=Fm a5;have f1:=hv.pk.len;have e3:=hv.lo_le;obtain⟨c8,qh,d0,e2,b9,d5,_⟩:=a5.at_ hh;obtain⟨c7,dP,eP,oP,c9,_,b5,d7,e0,e5,d4⟩:=I7 hv.pk hP;have e1:P.getD k Az=P[k]:=by rw[kh,dt hP];rfl
 have c4:Ac x:=by rw[<-hn];exact b5
 refine⟨p,rfl,c.ps,a5.ld xR 1 rfl,c7,⟨c9,oM,oM⟩,_,_,_,_,dP,eP,oP,by rw[ec];exact d4 _ xR,newS.set rfl λa w1 x1 b6 _=>?_⟩;generalize hq:Ad s.dirs hm=q at*;refine join.named λJ hJ=>?_;have key:∀(np:Sl)(w2:Wd),Ext w1 w2->SlR strE w2 (λb=>w.heap.size<=b/\b<w2.heap.size) np (q++[x])->J np w2:=by
  subst hJ;intro np w2 e8 b7;have f7:(q++[x]).length<=1001:=by rw[du,gk];omega
  refine bnd.drew λw3 x3=>?_;have c5:=e8.trans x3;have b2:=x1.trans c5;refine⟨p,rfl,c.l4,by rw[CX];exact hv.box.at1 (k:=5) b2 rfl,callX.intro (SE.Ef.go (Hv (b7.ext x3) oM λw4 x4=>⟨x4,_,rfl,λa6=>?_,λe6=>bnd.drew λw5 x5=>?_⟩))⟩
  .rw[Ae]at a6;exact h1 w4 (b2.trans x4) a6
  rw[Ae]at e6;have a9:=b2.trans (x4.trans x5);have ew:Aa ((c.dr.len:Int) - 1)=(s.dirs.length:Int) - 1:=by rw[Ag oM oM];omega
  refine⟨p,rfl,c.dr,a5.ld a9 7 rfl,p,rfl,c.l3,by rw[CX];exact hv.box.at1 (k:=4) a9 rfl,?_⟩;rw[ew];refine⟨λd8=>h2 w5 a9 oM oM,λe7=>bnd.drew λw6 x6=>?_⟩;have a0:=a9.trans x6;have f0:=c5.trans (x4.trans (x5.trans x6));refine⟨p,rfl,c.dr,a5.ld a0 7 rfl,_,_,_,_,dP,eP,oP,b6.at0 (r:=[]) f0 rfl,callX.intro (SE.I6.go (Vh (p:=P[k]) (hv.lt.ext a0.size) (d7.ext a0) (e0.ext a0) (e5.ext a0) λd' e' o' w7 x7 d6 d9 e4=>⟨x7,_,_,_,_,d',e',o',rfl,newS.intro λa8 w8 x8 d3 _ _=>?_⟩))⟩;have b4:=a0.trans (x7.trans x8);have c6:=x3.trans (x4.trans (x5.trans (x6.trans (x7.trans x8))));have f9:=a0.size;have g0:=b4.size;have g1:=c6.size;have s8:=x8.size;have c3:dirE.rep w8 (λb=>w.heap.size<=b/\b<w8.heap.size) (AX P ⟨q++[x],k⟩) [np.v,.string P[k].name,.int .i64 P[k].v.ma,.int .i64 P[k].v.mi,.int .i64 P[k].v.pa,d'.v,e'.v,o'.v,vi (k:Int)]:=by have b8:(AX P ⟨q++[x],k⟩)=⟨q++[x],P[k],(k:Int)⟩:=(by unfold AX;rw[e1]);rw[b8];exact⟨b5,np,d',e',o',rfl,(b7.ext c6).mono λb hb=>⟨hb.1,oM⟩,(d6.dep.ext x8).mono λb hb=>⟨oM,oM⟩,(d9.dep.ext x8).mono λb hb=>⟨oM,oM⟩,(e4.dep.ext x8).mono λb hb=>⟨oM,oM⟩⟩
  refine(hv.ext b4).pushD (x:=⟨q++[x],k⟩) c3 (d3.ldc.pre (r:=[]) rfl) (λb hb=>?_) hd λr w9 h9 m9=>?_
  .have f5:=hv.box.lt;refine⟨hb.2,oM,λad ha e=>?_,λad ha e=>?_,.inr oM⟩
   .obtain⟨D,o,_⟩:=hv.dr;have:=(o.block ha).2.1;omega
   .have:=(hv.st.block ha).2.1;omega
  .have f4:r.len=s.dirs.length+1:=(by obtain⟨D,o,_⟩:=h9.dr;have:r.len=((s.dirs++[(⟨q++[x],k⟩:Dr)]).map (AX P)).length:=o.len;simpa using this);refine⟨p,rfl,r,h9.box.at1 (k:=7) xR rfl,?_⟩;have e9:Aa ((r.len:Int) - 1)=(s.dirs.length:Int):=(by rw[Ag oM oM];omega);rw[e9];exact h3 r w9 oM oM h9 ((Mv.of b4 e3).trans m9)
 clear hJ;refine bnd.drew λw2 x2=>?_;have a7:=x1.trans x2;have f8:=a7.size;have b0:Old (λb=>b<w.heap.size) w2:=λb hb=>by have:b<w.heap.size:=hb;omega
 refine⟨p,rfl,c.dr,a5.ld a7 7 rfl,c8,⟨d0,e2⟩,qh,by rw[ec];exact d5 _ a7,x,by rw[<-hn];exact b6.at0 x2 rfl,?_,?_⟩
 .refine callX.intro (SE.Gc.go (Nf b0 (b9.ext a7) λt w3 x3 o3=>⟨x3,_,rfl,newS.intro λa4 w4 x4 d2 _ _=>?_⟩));exact(o3.ext x4).pushF (x3.trans x4) G6 (x:=x) ⟨rfl,c4⟩ (d2.ldc.pre (r:=[]) rfl) dC (by show _*16<=Ab;unfold Ab;omega) λr w5 o5 x5=>key r w5 (x2.trans x5) ((o5.strsB (by rw[du,gk];omega)).mono λb hb=>⟨oM,hb.2⟩)
 .refine newS.intro λa3 w3 x3 d1 _ _=>callX.intro (SE.Gc.go (Nf (b0.ext x3.size) (b9.ext (a7.trans x3)) λt w4 x4 o4=>⟨x4,_,rfl,?_⟩));have s3:=x3.size;exact o4.pushF x4 G6 (x:=x) ⟨rfl,c4⟩ ((d1.ext x4).ldc.pre (r:=[]) rfl) dC (by show _*16<=Ab;unfold Ab;omega) λr w5 o5 x5=>key r w5 (x2.trans (x3.trans x5)) ((o5.strsB (by rw[du,gk];omega)).mono λb hb=>⟨oM,hb.2⟩)
end
section
variable {w:Wd} {lo:Nat} {p:Addr} {S:Nat->Prop} {c:PC} {G:LN} {P:List Pack} {old:Option (List Dir)} {s:PlS}
def Zgl{k:Nat}{e:Edge}{R:Int->Wp}(h:MlV BI 284 w lo p S c G P old s)(hI:PInv G s src)(ha:src<s.dirs.length)(hx:CV s src e.name)(e5:Ac e.name)(k7:0<=e.to/\e.to<(G.length:Int))(hP:P.length=G.length)
  (j0:Af e.name=true) (i9:∀k,∀q∈BA G k,Af q.name=true) (j1:∀y,G[e.to.toNat]?=some y->y.name=e.name) (j3:∀y,P[e.to.toNat]?=some y->y.name=e.name)
  (hk:k=2/\(BA G e.to.toNat).length=0\/k=3/\(BA G e.to.toNat).length≠0) (hd:s.dirs.length<=1000) (hs:s.done.length<=1000000) (i2:c.l3=D) (i3:c.l4=M)
  (hR:∀c' w' code s',EdgeR (DG G P old D M) s src e k code s'->MlV BI 284 w' lo p S c' G P old s'->Mv lo p c w c' w'->R code w'):SE.Lk (some p) (src:Int) e.name e.to w R:=by
 unfold SE.Lk;subst i2 i3;have a5:=h.read hd ⟨by show _*32<=Ab;unfold Ab;omega,by rw[Ak];omega⟩;have d5:OB s:=λt ht=>(hI.src t ht).2;have a9:∀d∈s.dirs,d.path.length<=1000:=λd hm=>by obtain⟨i,hi⟩:=jf hm;have:=hI.plen i d hi;have:=(fe.1 hi).1;omega
 have d1:∀d∈s.dirs,d.path.length<=4000000:=λd hm=>ff (a9 d hm) dC;have k2:=Fm a5;have k5:=h.pk.len;have k3:=h.g.len;have i6:=h.lo_le;have k4:=h.box.lt;obtain⟨en,d8⟩:∃en:Nat,e.to=(en:Int):=⟨e.to.toNat,oM⟩;have b0:en<G.length:=oM;have b7:en<P.length:=oM;have a6:e.to.toNat=en:=oM;have c3:G[en].name=e.name:=j1 _ (by rw[a6];exact dt b0);have f9:P[en].name=e.name:=j3 _ (by rw[a6];exact dt b7);obtain⟨g6,ct,et,g9,_,h5,_,f7⟩:=Cj h.g b0;have k0:=h5.len;have g7:BA G e.to.toNat=G[en].ctx:=by rw[a6];unfold BA;rw[dt b0]
 rw[g7]at hk;have e4:s.dirs[src]?=some s.dirs[src]:=dt ha;have f8:Ad s.dirs src=s.dirs[src].path:=Ck e4;have j5:Spot s (Ad s.dirs src) e.name (Ad s.dirs src).length:=by rw[f8];exact hI.spot e4 hx
 have c5:∀n,n<=(Ad s.dirs src).length->∃h,Ax s.dirs ((Ad s.dirs src).take n)=some h:=λn hn=>by rw[f8]at hn ⊢;obtain⟨j,_,hj⟩:=hI.above _ src _ e4 rfl n hn;exact⟨j,hj⟩
 have k6:(Ad s.dirs src).length<=1000:=Vn a9 ha;generalize hq:Ad s.dirs src=q at*;generalize b5:DG G P old c.l3 c.l4=I at*;have g8:I.g=G:=by rw[<-b5];rfl
 have a8:I.maxP=c.l4:=by rw[<-b5];rfl
 have b9:I.maxD=c.l3:=by rw[<-b5];rfl
 have e6:∀q',I.tlen q'=(A3 q').length:=λq'=>by rw[<-b5];rfl
 have d9:k≠1:=oM;have a4:∀to,Right I s src e k to↔AF s.dirs q e.name q.length=some to/\(nodeAt s.dirs to:Int)=e.to/\(k=3->H7 I s src to):=λto=>by unfold Right;rw[hq]
 have c7:∀w',Ext w w'->Mv lo p c w c w':=λw' x=>Mv.of x i6;refine newS.intro λa w1 x1 b2 k1 _=>bnd.drew λw2 x2=>?_;have e7:=x1.trans x2;refine⟨p,rfl,c.u,a5.ld0 e7,e.to,b2.at1 (k:=1) (r:=[]) x2 rfl,g6,⟨g9,oM,oM⟩,ct,by rw[d8,ec];exact(f7 _ e7).mid (k:=4) rfl,bnd.drew λw3 x3=>?_⟩;have e8:=e7.trans x3;have g4:=x2.trans x3;refine⟨p,rfl,c.dr,a5.ld e8 7 rfl,e.name,b2.at0 g4 rfl,SE.Gm.go (NG (a5.lt.ext e8.size) (a5.dr.ext e8) (by simpa using ha) e5 (Q5 d1) λw4 x4=>⟨_,rfl,join.named λJ hJ=>bnd.drew λw5 x5=>bound ?_⟩)⟩;rw[Qh ha j0,hq];have j8:=g4.trans x4;have e9:=j8.trans x5;have c8:=x1.trans e9;have fin:∀(to:Nat)(c9:PC)(s9:PlS)(w9:Wd),MlV BI 284 w9 lo p S c9 G P old s9->Mv lo p c w c9 w9->BoxAt w9 a [.string e.name,vi e.to]->s9.done=s.done->EdgeR I s src e k 0 ⟨s9.dirs,s.done++[⟨src,e.name,to⟩]⟩->J (to:Int) w9:=by subst hJ;intro to c9 s9 w9 h9 m9 h0 f5 hE;refine⟨e.name,h0.at0 xR rfl,SE.I9.go (Vw h9 e5 (by rw[f5];exact hs) λr j7 f0 j6 _=>⟨rfl,?_⟩)⟩;rw[f5]at f0;exact hR _ j7 0 _ hE f0 (m9.trans j6)
 clear hJ;generalize i5:AF s.dirs q e.name q.length=lk at*;obtain⟨i,hi,g0⟩:∃i,i<s.dirs.length/\∀j,lk=some j->j=i:=by
  cases hl:lk with
  |none=>exact⟨src,ha,(λ_ h=>by cases h)⟩
  |some j=>exact⟨j,KF (i5.trans hl),λk hk=>by cases hk;rfl⟩
 obtain⟨g5,_,f2,i4,_,_,h4⟩:=a5.at_ hi;have c6:decide (Ca lk<0)=false->lk=some i/\Ca lk=(i:Int):=λhg=>by obtain⟨j,hj⟩:=KQ.1 (Int.not_lt.1 (of_decide_eq_false hg));have:=g0 j hj;subst this;exact⟨hj,by rw[hj];rfl⟩
 have f6:∀{b:Bool},(!b)=true->b=false:=λ{b} h=>by simpa using h
 refine⟨p,λ_=>rfl,c.dr,λ_=>a5.ld c8 7 rfl,g5,λhg=>⟨f2,by rw[(c6 (f6 hg)).2];exact i4⟩,(nodeAt s.dirs i:Int),λhg=>by rw[(c6 (f6 hg)).2,ec];exact h4 _ c8,e.to,λ_=>b2.at1 (k:=1) (r:=[]) e9 rfl,bound (bound ?_)⟩;have h7:(!((ct.len:Int)==0))=decide (k=3):=by rw[gn,kx,beq_eq_false_iff_ne,decide_eq_true_iff];omega
 rw[h7];refine gCall.holds (λt=>t=true↔H7 I s src i) (λhg q' j4=>?_) λt w6 x6 ht=>?_
 .simp only[dz,kx,gh]at hg;rw[(c6 hg.1.1).2];exact SE.Ld.go (Zgg (I:=I) g8 (a5.ext c8) hi hI.node d1 i9 λb w7 x7 hb=>⟨b,rfl,j4 b w7 x7 hb⟩)
 have c4:=c8.trans x6;have d0:=e9.trans x6;have hf:((decide (Ca lk<0)|| !((nodeAt s.dirs i:Int)==e.to))||(decide (k=3)&& !t))=false↔∃to,Right I s src e k to:=by
  constructor
  .intro hg;rw[gh]at hg;obtain⟨g1,g3⟩:=hg;have d3:=g1;rw[gh]at d3;refine⟨i,(a4 i).2 ⟨(c6 d3.1).1,by simpa using d3.2,λh3=>?_⟩⟩;rw[decide_eq_true h3]at g3;exact(ht (by rw[g1,decide_eq_true h3];rfl)).1 (by simpa using g3)
  .rintro⟨to,hr⟩;obtain⟨g1,g2,g3⟩:=(a4 to).1 hr;have:=g0 to g1;subst this;have h1:(decide (Ca lk<0)|| !((nodeAt s.dirs to:Int)==e.to))=false:=by rw[gh,decide_eq_false_iff_not,g1];refine⟨by show ¬(to:Int)<0;omega,by rw[g2];simp⟩
   rw[h1,pp];by_cases h3:k=3
   .rw[h1,decide_eq_true h3]at ht;rw[(ht rfl).2 (g3 h3),decide_eq_true h3];rfl
   .rw[decide_eq_false h3];rfl
 refine⟨λhc=>join.named λJ2 f1=>?_,λhc=>?_⟩
 rotate_left
 .obtain⟨to,hr⟩:=hf.1 hc;have g1:=((a4 to).1 hr).1;have e3:Ca lk=(to:Int):=by rw[g1];rfl
  rw[e3];exact fin to c s w6 (h.ext c4) (c7 w6 c4) (b2.ext d0) rfl (.found to hr)
 have e0:∀to,¬Right I s src e k to:=λto hr=>by rw[hf.2 ⟨to,hr⟩]at hc;cases hc
 have d2:∀(hm n:Nat) w7,Ext w w7->Ext w1 w7->hm<s.dirs.length->Ad s.dirs hm=q.take n->(k=2->Best s q e.name (λn=>I.like (q.take n++[e.name]) e.to.toNat) n)->(k=3->n=q.length)->J2 (hm:Int) w7:=by
  subst f1;intro hm n w7 b4 j9 i7 e1 a0 h3;have d6:k=2->Best s (Ad s.dirs src) e.name (λn=>I.like ((Ad s.dirs src).take n++[e.name]) e.to.toNat) n:=by rw[hq];exact a0
  have d4:k=3->n=(Ad s.dirs src).length:=by rw[hq];exact h3
  have b6:BoxAt w7 a [.string e.name,vi e.to]:=b2.ext j9;refine⟨e.to,b6.at1 (k:=1) (r:=[]) xR rfl,?_⟩;rw[d8];refine SE.Ll.go (Zgm (x:=e.name) (h.ext b4) hd hs a9 i7 b7 f9 (λw8 x8 b8=>⟨_,_,rfl,λ_=>?_,λh=>absurd dC h⟩) (λw8 x8 a7 d7=>⟨_,_,rfl,λ_=>?_,λh=>absurd dC h⟩) λr w8 a7 e2 h8 m8=>⟨_,_,rfl,λh=>absurd rfl h,λ_=>?_⟩)
  .rw[e1]at b8;exact hR c w8 40 s (.long n e0 d9 d6 d4 (by rw[hq,a8,e6];exact b8)) (h.ext (b4.trans x8)) (c7 _ (b4.trans x8))
  .rw[e1]at a7;exact hR c w8 41 s (.deep n e0 d9 d6 d4 (by rw[hq,a8,e6];exact a7) (by rw[b9];exact d7)) (h.ext (b4.trans x8)) (c7 _ (b4.trans x8))
  .rw[e1]at a7 h8;refine fin s.dirs.length _ ⟨s.dirs++[⟨q.take n++[e.name],en⟩],s.done⟩ w8 h8 ((c7 w7 b4).trans m8) (m8.box b6 oM (λad ha e=>?_) λad ha e=>?_) rfl ?_
   .obtain⟨D,o,_⟩:=h.dr;have:=(o.block ha).2.1;omega
   .have:=(h.st.block ha).2.1;omega
   .have:=EdgeR.put (I:=I) n e0 d9 d6 d4 (by rw[hq,a8,e6];exact a7) (by rw[b9];exact e2);rw[hq,a6]at this;exact this
 clear f1;refine⟨λh6=>⟨e.to,b2.at1 (k:=1) (r:=[]) d0 rfl,?_⟩,λh6=>?_⟩
 .rw[d8];refine SE.Lm.go (Zgo (a5.ext c4) d5 ha b0 b7 (by rw[c3];exact e5) (by rw[hq];omega) (by rw[hq];exact c5) (by rw[hq,c3];exact⟨_,j5⟩) λn j w7 x7 a0 hj=>⟨_,rfl,?_⟩);rw[hq,c3]at a0;rw[hq]at hj;obtain⟨dj,f4,j2⟩:=DC hj;refine d2 j n w7 (c4.trans x7) (d0.trans x7) (fe.1 f4).1 (by rw[Ck f4];exact j2) (λ_=>?_) (λh3=>by omega);rw[a6,<-b5];exact a0
 .exact d2 src q.length w6 c4 d0 ha (by rw[eu];exact hq) (λh2=>by omega) λ_=>rfl
end
section
variable {w w':Wd} {lo:Nat} {p:Addr} {S:Nat->Prop} {c:PC} {G:LN} {P:List Pack} {old:Option (List Dir)} {s:PlS}
def MlV.re{T:TypeId}{r:Sl}(h:MlV E T w lo p S c G P old s)(bel:Below lo w w')(oth:∀b,b<w.heap.size->b≠p.block->(∀ad,c.st.a=some ad->b≠ad.block)->w'.heap[b]?=w.heap[b]?)
  (box:BoxAt w' p (PC.c {c with st:=r})) (st:OwnS E T w' lo None' r dn) (hr:∀ad,r.a=some ad->c.st.a=some ad\/w.heap.size<=ad.block):MlV E T w' lo p S {c with st:=r} G P old ⟨s.dirs,dn⟩/\Mv lo p c w {c with st:=r} w':=by
 obtain⟨D,o,a0,a4,a5⟩:=h.dr;have a6:=Below.size bel;have a7:=h.box.lt;have mv:Mv lo p c w {c with st:=r} w':=⟨bel,λb hb h1 _ h3=>oth b hb h1 h3,λ_ h=>.inl h,hr,rfl⟩;have hk:=h.mv mv;refine⟨⟨box,h.plo,h.g.keep hk,h.pk.keep hk,h.old.keep hk,λb hb=>by have:=h.lt b hb;omega,h.nS,⟨D,o.keep a6 λb hb hq=>?_,a0,λad ha hb=>?_,a5⟩,st,h.drP,λad ha=>?_,λu v hu hv=>?_⟩,mv⟩
 .rcases hq with hq|⟨ad,ha,rfl⟩
  .exact oth b hb (λe=>a0 (e▸hq)) λd hd e=>a4 d hd (e▸hq)
  .exact oth _ hb (h.drP ad ha).1 λd hd e=>h.apart ad d ha hd e
 .obtain q|q:=hr ad ha
  .exact a4 ad q hb
  .have:=o.lt _ hb;omega
 .obtain q|q:=hr ad ha
  .exact h.stP ad q
  .exact⟨oM,λhS=>by have:=h.lt _ hS;omega⟩
 .obtain q|q:=hr v hv
  .exact h.apart u v hu q
  .have:=(o.block hu).2.1;omega
structure Gath(w:Wd)(lo:Nat)(p:Addr)(c:PC)(w':Wd)(r A O:Sl)(dn:List Stl)(la lb:LQ):Prop where
 bel:Below lo w w'
 oth:∀b,b<w.heap.size->b≠p.block->(∀ad,c.st.a=some ad->b≠ad.block)->w'.heap[b]?=w.heap[b]?
 box:BoxAt w' p (PC.c {c with st:=r})
 st:OwnS BI 284 w' lo None' r dn
 hr:∀ad,r.a=some ad->c.st.a=some ad\/w.heap.size<=ad.block
 a:OwnS edgeE 153 w' w.heap.size None' A la
 o:OwnS edgeE 153 w' w.heap.size None' O lb
 ao:∀x y,A.a=some x->O.a=some y->x.block≠y.block
 ra:∀x y,A.a=some x->r.a=some y->x.block≠y.block
 ro:∀x y,O.a=some x->r.a=some y->x.block≠y.block
def Gath.ext{w'':Wd}{r:Sl}(h:Gath w lo p c w' r A O dn la lb)(hl:lo<=w.heap.size)(hx:Ext w' w''):Gath w lo p c w'' r A O dn la lb:=by have:=Below.size h.bel;exact⟨Below.trans h.bel (Below.mono hx oM),λb hb h1 h2=>(hx.block oM).trans (h.oth b hb h1 h2),h.box.ext hx,h.st.ext hx,h.hr,h.a.ext hx,h.o.ext hx,h.ao,h.ra,h.ro⟩
def Gath.swap{r:Sl}(h:Gath w lo p c w' r A O dn la lb):Gath w lo p c w' r O A dn lb la:=⟨h.bel,h.oth,h.box,h.st,h.hr,h.o,h.a,λx y hx hy=>Ne.symm (h.ao y x hy hx),h.ro,h.ra⟩
def Gath.push{r:Sl}{e:Edge}{K:Sl->Wp}(h:Gath w lo p c w' r A O dn la lb)(hp:p.block<w.heap.size)(hl:lo<=w.heap.size)(hn:la.length<1000)(a8:Ac e.name)(hc:ldc w' a [.string e.name,vi e.to])
  (hk:∀t a7,Gath w lo p c a7 r t O dn (la++[e]) lb->K t a7):appS prog 54 54 A (Sl.v ⟨some a,1,1⟩) w' K:=by
 have hs:=Below.size h.bel;refine h.a.push MQ hs (x:=e) (S':=None') ⟨rfl,a8⟩ hc (λ_ h=>h.elim) (λ_ _ h=>h.elim) (by show(la.length+1)*24<=Ab;unfold Ab;omega) (by rw[Ak];omega) λt w2 o2 a4 a0 a5=>hk t w2 ?_;have a6:=Below.size a4;have hA:∀ad,A.a=some ad->w.heap.size<=ad.block:=λad ha=>(h.a.block ha).1;refine⟨Below.trans h.bel (Below.mono a4 hl),λb hb h1 h2=>(a0 b oM λad ha=>by have:=hA ad ha;omega).trans (h.oth b hb h1 h2),h.box.keep (S:=λb=>b<w.heap.size) hp λb hb hl=>a0 b hl λad ha=>by have:=hA ad ha;omega,h.st.keep a6 λb hb hq=>?_,h.hr,OwnS.flat (λh=>h) o2,h.o.keep a6 λb hb hq=>?_,λx y hx hy=>?_,λx y hx hy=>?_,h.ro⟩
 .rcases hq with hq|⟨ad,ha,rfl⟩
  .exact hq.elim
  .exact a0 _ hb λx hx e=>h.ra x ad hx ha e.symm
 .rcases hq with hq|⟨ad,ha,rfl⟩
  .exact hq.elim
  .exact a0 _ hb λx hx e=>h.ao x ad hx ha e.symm
 .obtain q|q:=a5 x hx
  .exact h.ao x y q hy
  .have:=(h.o.block hy).2.1;omega
 .obtain q|q:=a5 x hx
  .exact h.ra x y q hy
  .have:=(h.st.block hy).2.1;omega
end
def ZF:Bj prog 130:=enters_of func130 kR rfl
def TR{g:LN}{nd k:Nat}{es:LQ}(hj:j<es.length):(es.take (j+1)).filter (λe=>A4 g nd e==k)=(es.take j).filter (λe=>A4 g nd e==k)++if A4 g nd es[j]=k then [es[j]]else []:=by
 rw[dw hj,jq];congr 1;by_cases h:A4 g nd es[j]=k
 .rw[if_pos h,List.filter_cons_of_pos (by rw[h];exact beq_self_eq_true _),List.filter_nil]
 .rw[if_neg h,List.filter_cons_of_neg (by simpa using h),List.filter_nil]
section
variable {w:Wd} {lo:Nat} {p:Addr} {S:Nat->Prop} {c:PC} {G:LN} {P:List Pack} {old:Option (List Dir)} {s:PlS}
def Zgh{nd:Nat}{I:PlI}{R:Int->Wp}(d7:DG G P old D M=I)(h:MlV BI 284 w lo p S c G P old s)(b9:PlaceOk G P)(hI:PInv G s src)(ha:src<s.dirs.length)(k7:nodeAt s.dirs src=nd)(f0:nd<G.length)(hD:D<=256)(hs:s.done.length<=100000)(q6:c.l3=D)(q7:c.l4=M)(l6:DK I s)(l7:∀u∈s.done,u.src<src)
  (j4:∀c' w' s',Turn I src nd s [] s'->MlV BI 284 w' lo p S c' G P old s'->Mv lo p c w c' w'->R 0 w')
  (g9:∀c' w' code t,code≠0->EdgesR I src nd s (Cb I.g nd) code t->Mv lo p c w c' w'->R code w'):SE.Le (some p) (src:Int) w R:=by
 unfold SE.Le;have hg:=b9.grPl;have b5:I.g=G:=by rw[<-d7];rfl
 have t9:I.maxD=D:=by rw[<-d7];rfl
 have g3:GrPl I.g:=by rw[b5];exact hg
 have v2:s.dirs.length<=257:=by have:=l6.2;omega
 have d8:=h.read oM ⟨by show _*32<=Ab;unfold Ab;omega,by rw[Ak];omega⟩;have u5:=Fm d8;have u6:=h.g.len;have r2:=h.lo_le;have u9:=h.box.lt;have t8:=b9.len;have m2:G[nd]?=some G[nd]:=dt f0;have c8:Aw G nd=G[nd].edges:=Zu m2;have p8:G[nd].edges.length<=128:=by have:=b9.edges_le nd;rw[c8]at this;omega
 have u7:(Cb I.g nd).length<=128:=by rw[Ve,b5,c8];exact p8
 obtain⟨ad,_,o7,q9,_,_,i6⟩:=d8.at_ ha;rw[k7]at i6;obtain⟨n1,cg,eg,o8,_,p5,j1,k1⟩:=Cj h.g f0;have s8:=j1.len;have n5:BA G nd=G[nd].ctx:=by unfold BA;rw[m2]
 refine bnd.drew λw1 x1=>⟨p,rfl,c.u,d8.ld0 x1,p,rfl,c.dr,d8.ld x1 7 rfl,ad,⟨o7,q9⟩,(nd:Int),by rw[ec];exact i6 _ x1,n1,⟨o8,oM,oM⟩,_,_,_,_,cg,eg,by rw[ec];exact k1 _ x1,newS.set rfl λa w2 x2 f6 u1=>⟨eg,f6.at1 (k:=5) (r:=[]) xR rfl,?_⟩⟩;have e0:=x1.trans x2;have s1:=x1.size;have s2:=x2.size;have f1:Mv lo p c w c w2:=Mv.of e0 r2;have h2:=h.ext e0;have g7:p.block<w2.heap.size:=oM;have b2:=h2.lo_le;have u0:a.block<w2.heap.size:=f6.lt;have l8:∀b,c.st.a=some b->b.block<w.heap.size:=λb hb=>(h.st.block hb).2.1;have i7:=p5.ext e0;have e7:=j1.ext e0;generalize t0:G[nd].edges=es at*;generalize s6:G[nd].ctx=cx at*;have h8:∀{w' r A O dn la lb},Gath w2 lo p c w' r A O dn la lb->BoxAt w' a [.string G[nd].name,.int .i64 G[nd].v.ma,.int .i64 G[nd].v.mi,.int .i64 G[nd].v.pa,cg.v,eg.v]/\SlR pinE w' S cg cx/\SlR edgeE w' S eg es:=λ{w' r A O dn la lb} hG=>by have hk:Keep S w2 w':=λb hb hl=>hG.oth b hl (λe=>h.nS (e▸hb)) λad ha e=>(h.stP ad ha).2 (e▸hb);exact⟨f6.keep (S:=λb=>b=a.block) rfl λb hb hl=>hG.oth b hl oM λad ha=>by have:=l8 ad ha;omega,i7.keep hk,e7.keep hk⟩
 have j8:∀e,A4 G nd e=if cx.any (Ay e.name)then 1 else if(BA G e.to.toNat).length=0 then 2 else 3:=λe=>by unfold A4;rw[n5]
 have stop:∀{c' w' s' code t e r},Mv lo p c w2 c' w'->Turn I src nd s (e::r) s'->EdgeR I s' src e (A4 I.g nd e) code t->code≠0->R code w':=λ{c' w' s' code t e r} m ht hE hc=>g9 c' w' code t hc (ht.stop hE hc) (f1.trans m);have e9:∀e∈es,e∈Aw G nd:=λe he=>by rw[c8];exact he
 refine loop3.up e7.max (λA O j w'=>∃(r:Sl) (s4:PlS),Gath w2 lo p c w' r A O s4.done ((es.take j).filter (λe=>A4 G nd e==2)) ((es.take j).filter (λe=>A4 G nd e==3))/\s4.dirs=s.dirs/\Turn I src nd s (Dy G nd 1 j) s4)
  ⟨c.st,s,⟨Below.refl _ _,λ_ _ _ _=>rfl,h2.box,h2.st,λ_ h=>.inl h,OwnS.zero _,OwnS.zero _,(λ_ _ h=>by cases h),(λ_ _ h=>by cases h),λ_ _ h=>by cases h⟩,rfl,by have:=Turn.start (nd:=nd) g3 (by rw[b5];exact hI) l6 l7;rw[b5]at this;exact this⟩ λA O j w3 v3 hj ⟨r,s4,a0,b8,b4⟩ l0=>⟨λr3=>join.named λJ hJ=>?_,λg4=>?_⟩
 .have a8:j<es.length:=oM;have k4:es[j]∈es:=fg a8;have a9:=e9 _ k4;have g4:=hg.edge a9;have d1:=b9.edgeAt a9;obtain⟨p4,i9,j2⟩:=h8 a0;obtain⟨f2,d2,b7,d3⟩:=Dp j2 a8;have f9:=TR (g:=G) (nd:=nd) (k:=2) a8;have g0:=TR (g:=G) (nd:=nd) (k:=3) a8;have j6:j<(Aw G nd).length:=by rw[c8];exact a8
  have q4:(Aw G nd)[j]=es[j]:=by simp only[c8]
  have d4:=Zhk (g:=G) (nd:=nd) (k:=1) j6;have e8:=Zhi (g:=G) (nd:=nd) (k:=1) j6;rw[q4]at d4 e8;have f5:∀(A' O':Sl)(w5:Wd)(r5:Sl)(s5:PlS),Gath w2 lo p c w5 r5 A' O' s5.done ((es.take (j+1)).filter (λe=>A4 G nd e==2)) ((es.take (j+1)).filter (λe=>A4 G nd e==3))->s5.dirs=s.dirs->Turn I src nd s (Dy G nd 1 (j+1)) s5->J A' O' w5:=λA' O' w5 r5 s5 q1 q2 q3=>by rw[hJ];exact l0 a8 _ _ w5 ⟨r5,s5,q1,q2,q3⟩
  clear hJ l0;have j9:((es.take j).filter (λe=>A4 G nd e==2)).length<1000:=mg (iw _ _) (by rw[fb];omega);have k0:((es.take j).filter (λe=>A4 G nd e==3)).length<1000:=mg (iw _ _) (by rw[fb];omega);have u2:=b4.cnt;have u4:s4.done.length<=200000:=oM;have c9:src<s4.dirs.length:=by rw[b8];exact ha
  have t4:nodeAt s4.dirs src=nd:=by rw[b8];exact k7
  have n8:PInv G s4 src:=by have:=b4.inv;rw[b5]at this;exact this
  have a5:=j8 es[j];generalize es[j]=e at*;obtain⟨h3,m3⟩:=h2.re a0.bel a0.oth a0.box a0.st a0.hr;have h3:MlV BI 284 w3 lo p S {c with st:=r} G P old s4:=by rw[<-b8]at h3;exact h3
  refine⟨f2,⟨d2,oM,r3⟩,e.name,e.to,by rw[ec];exact d3 _ xR,newS.set rfl λa4 w4 x4 c6 _=>⟨cg,p4.at1 (k:=4) x4 rfl,?_⟩⟩;refine SE.Hp.go (Pt (p:=Ay e.name) (i9.ext x4) (λq _ w5 k5 x5 j7=>⟨_,_,rfl,ZF,SE.NN.go ?_⟩) λw5 x5=>⟨_,rfl,λg5=>bnd.drew λw6 x6=>?_,λg5=>bnd.drew λw6 x6=>?_⟩)
  .unfold SE.NN;refine newS.intro λa6 w6 x6 f7 _ _=>⟨_,f7.at0 xR rfl,e.name,c6.at0 (x5.trans x6) rfl,?_⟩;rw[SD];exact j7 w6 x6
  .
   rw[if_pos g5]at a5;have c4:=x5.trans x6;have d6:=x4.trans c4;rw[e8 a5]at b4;have h6:=h3.ext d6;have c3:=h6.read (by rw[b8];omega) ⟨by show _*32<=Ab;unfold Ab;omega,by rw[Ak];omega⟩;have i5:∀d∈s4.dirs,d.path.length<=4000000:=λd hm=>by obtain⟨i,hi⟩:=jf hm;have:=n8.plen i d hi;have:=(fe.1 hi).1;rw[b8]at this;omega
   refine⟨p,rfl,c.dr,c3.ld xR 7 rfl,e.name,c6.at0 c4 rfl,SE.Gm.go (NG c3.lt c3.dr (by simpa using c9) b7 (Q5 i5) λw7 x7=>⟨_,rfl,bnd.drew λw8 x8=>bound ?_⟩)⟩;rw[Qh c9 d1.1];have e2:=x7.trans x8;have n0:=c4.trans e2;have e1:=d6.trans e2;have d0:∀to,Right I s4 src e 1 to↔AF s4.dirs (Ad s4.dirs src) e.name (Ad s4.dirs src).length=some to/\(nodeAt s4.dirs to:Int)=e.to:=λto=>(by unfold Right;simp);generalize r1:AF s4.dirs (Ad s4.dirs src) e.name (Ad s4.dirs src).length=lk at*;obtain⟨i,hi,m1⟩:∃i,i<s4.dirs.length/\∀j,lk=some j->j=i:=by
    cases hl:lk with
    |none=>exact⟨src,c9,(λ_ h=>by cases h)⟩
    |some j=>exact⟨j,KF (r1.trans hl),λk hk=>by cases hk;rfl⟩
   obtain⟨n2,_,i4,r0,_,_,p6⟩:=c3.at_ hi;have g6:decide (Ca lk<0)=false->lk=some i/\Ca lk=(i:Int):=λhg=>by obtain⟨j,hj⟩:=KQ.1 (Int.not_lt.1 (of_decide_eq_false hg));have:=m1 j hj;subst this;exact⟨hj,by rw[hj];rfl⟩
   have j5:∀{b:Bool},(!b)=true->b=false:=λ{b} h=>(by simpa using h);refine⟨p,λ_=>rfl,c.dr,λ_=>c3.ld e2 7 rfl,n2,λhg=>⟨i4,by rw[(g6 (j5 hg)).2];exact r0⟩,(nodeAt s4.dirs i:Int),λhg=>by rw[(g6 (j5 hg)).2,ec];exact p6 _ e2,e.to,λ_=>c6.at1 (k:=1) (r:=[]) n0 rfl,λhc=>?_,λhc=>?_⟩
   .have hl:∀to,¬Right I s4 src e 1 to:=λto hr=>by obtain⟨g1,g2⟩:=(d0 to).1 hr;have:=m1 to g1;subst this;rw[g1,g2]at hc;rw[decide_eq_false (show ¬Ca (some to)<0 by show ¬(to:Int)<0;omega)]at hc;simp at hc
    exact stop (m3.trans (Mv.of e1 h3.lo_le)) b4 (by rw[b5,a5];exact .lost hl rfl) dC
   .rw[gh]at hc;obtain⟨g1,g2⟩:=g6 hc.1;have o6:Right I s4 src e 1 i:=(d0 i).2 ⟨g1,by simpa using hc.2⟩;rw[g2];refine⟨e.name,c6.at0 n0 rfl,SE.I9.go (Vw (h3.ext e1) b7 oM λr9 w9 h9 m9 o9=>⟨rfl,?_⟩)⟩;have b0:=a0.ext b2 e1;have v4:=e1.size;have s9:=m9.size;have t6:=Below.size a0.bel;have i2:∀{B:Sl} {l:LQ},OwnS edgeE 153 w8 w2.heap.size None' B l->(∀x y,B.a=some x->r.a=some y->x.block≠y.block)->OwnS edgeE 153 w9 w2.heap.size None' B l/\∀x y,B.a=some x->r9.a=some y->x.block≠y.block:=λ{B l} hB k8=>by
     refine⟨hB.keep s9 λb hb hq=>?_,λx y hx hy=>?_⟩
     .rcases hq with hq|⟨ad,ha,rfl⟩
      .exact hq.elim
      .exact o9 _ hb (by have:=(hB.block ha).1;omega) λd hd=>k8 ad d ha hd
     .obtain q|q:=m9.st y hy
      .exact k8 x y hx q
      .have:=(hB.block hx).2.1;omega
    obtain⟨qA,r6⟩:=i2 b0.a b0.ra;obtain⟨qO,r7⟩:=i2 b0.o b0.ro;have hE:EdgeR I s4 src e 1 0 ⟨s4.dirs,s4.done++[⟨src,e.name,i⟩]⟩:=.found i o6;refine f5 A O w9 r9 ⟨s4.dirs,s4.done++[⟨src,e.name,i⟩]⟩ ⟨Below.trans b0.bel m9.bel,λb hb h1 h2=>?_,h9.box,h9.st,λad ha=>?_,?_,?_,b0.ao,r6,r7⟩ b8 (b4.step g3 c9 (by rw[b5,a5];exact hE))
    .refine(o9 b oM h1 λad ha=>?_).trans (b0.oth b hb h1 h2);obtain q|q:=a0.hr ad ha
     .exact h2 ad q
     .omega
    .obtain q|q:=m9.st ad ha
     .exact a0.hr ad q
     .right;omega
    .rw[f9,if_neg oM,gc];exact qA
    .rw[g0,if_neg oM,gc];exact qO
  .
   rw[if_neg (by rw[g5];decide)]at a5;have k9:A4 G nd e≠1:=by rw[a5];split<;>decide
   rw[d4 k9]at b4;have c4:=x5.trans x6;have d6:=x4.trans c4;have h6:=h3.ext d6;obtain⟨en,p9⟩:∃en:Nat,e.to=(en:Int):=⟨e.to.toNat,oM⟩;have e6:en<G.length:=oM;have j0:e.to.toNat=en:=oM;obtain⟨n4,ct,et,p0,_,p7,_,k2⟩:=Cj h6.g e6;have s3:=p7.len;have t3:=h6.g.len;have n7:BA G e.to.toNat=G[en].ctx:=by rw[j0];unfold BA;rw[dt e6]
   rw[n7]at a5;have i3:=a0.ext b2 d6;refine⟨p,rfl,c.u,h6.box.at0 xR rfl,e.to,c6.at1 (k:=1) (r:=[]) c4 rfl,n4,⟨p0,oM,oM⟩,ct,by rw[p9,ec];exact(k2 _ xR).mid (k:=4) rfl,λh0=>?_,λh0=>?_⟩
   .rw[if_pos oM]at a5;refine⟨e.name,e.to,c6.at0 (r:=[]) c4 rfl,newS.intro λa7 w7 x7 f8 _ _=>?_⟩;refine(i3.ext b2 x7).push g7 b2 j9 b7 (f8.ldc.pre (r:=[]) rfl) λt w8 b0=>f5 t O w8 r s4 ?_ b8 b4;rw[f9,g0,if_pos a5,if_neg oM,gc];exact b0
   .rw[if_neg oM]at a5;refine⟨e.name,e.to,c6.at0 (r:=[]) c4 rfl,newS.intro λa7 w7 x7 f8 _ _=>?_⟩;refine(i3.ext b2 x7).swap.push g7 b2 k0 b7 (f8.ldc.pre (r:=[]) rfl) λt w8 b0=>f5 A t w8 r s4 ?_ b8 b4;rw[f9,g0,if_pos a5,if_neg oM,gc];exact b0.swap
 .have a8:j=es.length:=oM;subst a8;rw[eu]at a0;rw[Zhj (by rw[c8];exact fl _) (.inl rfl)]at b4;obtain⟨L,hL⟩:∃L,L=es.filter (λe=>A4 G nd e==2)++es.filter (λe=>A4 G nd e==3):=⟨_,rfl⟩;have g8:Dy G nd 2 0=L:=by unfold Dy;rw[c8,hL];rfl
  rw[g8]at b4;have o0:L.length<=256:=by rw[hL,du];have:=iw (λe=>A4 G nd e==2) es;have:=iw (λe=>A4 G nd e==3) es;omega
  have o5:∀e∈L,e∈es/\(A4 G nd e=2\/A4 G nd e=3):=λe he=>by
   rw[hL]at he;obtain he|he:=fj.1 he
   .rw[ik]at he;exact⟨he.1,.inl (by simpa using he.2)⟩
   .rw[ik]at he;exact⟨he.1,.inr (by simpa using he.2)⟩
  have q8:=o0;rw[hL,du]at q8;have f4:edgeE.bytes=24:=rfl;have m0:=Below.size a0.bel;have r4:=(a0.o.read (by rw[f4];unfold Ab;omega) (by rw[Ak];omega)).mono (S':=λb=>∃ad,O.a=some ad/\b=ad.block) λb hb=>hb.elim (λh=>h.elim) id;refine a0.a.appAll MQ m0 r4 (λb ⟨ad,ha,e⟩=>e▸(a0.o.block ha).2.1) (λad ha ⟨x,hx,e⟩=>a0.ao ad x ha hx e) (by rw[f4];unfold Ab;omega) (by rw[Ak];omega) λt w4 o4 e3 d5 m8=>?_;rw[<-hL]at o4;have o4:=OwnS.flat (λh=>h) o4;have s0:=Below.size e3;have hA:∀ad,A.a=some ad->w2.heap.size<=ad.block:=λad ha=>(a0.a.block ha).1;have l9:OwnS BI 284 w4 lo None' r s4.done:=a0.st.keep s0 λb hb hq=>by
   rcases hq with hq|⟨ad,ha,rfl⟩
   .exact hq.elim
   .exact d5 _ hb λx hx e=>a0.ra x ad hx ha e.symm
  obtain⟨h4,m4⟩:=h2.re (Below.trans a0.bel (Below.mono e3 b2)) (λb hb h1 h3=>(d5 b oM λad ha=>by have:=hA ad ha;omega).trans (a0.oth b hb h1 h3)) (a0.box.keep (S:=λb=>b<w2.heap.size) g7 λb hb hl=>d5 b hl λad ha=>by have:=hA ad ha;omega) l9 a0.hr;have h4:MlV BI 284 w4 lo p S {c with st:=r} G P old s4:=by rw[<-b8]at h4;exact h4
  have r8:=(o4.read (by rw[f4];unfold Ab;omega) (by rw[Ak];omega)).mono (S':=λb=>∃ad,t.a=some ad/\b=ad.block) λb hb=>hb.elim (λh=>h.elim) id;refine loop1.up (N:=L.length) (by rw[Ak];omega) (λj w'=>∃(c5:PC) (s5:PlS),MlV BI 284 w' lo p S c5 G P old s5/\Mv lo p c w2 c5 w'/\SlR edgeE w' (λb=>∃ad,t.a=some ad/\b=ad.block) t L/\(∀ad,t.a=some ad->ad.block<w'.heap.size/\ad.block≠p.block/\(∀x,c5.dr.a=some x->ad.block≠x.block)/\∀x,c5.st.a=some x->ad.block≠x.block)/\Turn I src nd s (L.drop j) s5) ⟨_,s4,h4,m4,r8,λad ha=>⟨(o4.block ha).2.1,by have:=(o4.block ha).1;omega,λx hx e=>?_,λx hx e=>?_⟩,by rw[jv];exact b4⟩ λj w5 t7 hj ⟨c5,s5,h5,m5,d9,e4,b6⟩ k6=>⟨λk3=>?_,λt1=>?_⟩
  .obtain⟨D',o',_⟩:=h.dr;have:=(o'.block hx).2.1;have:=(o4.block ha).1;omega
  .obtain q|q:=m8 ad ha
   .exact a0.ra ad x q hx e
   .have:=(a0.st.block hx).2.1;omega
  .have a8:j<L.length:=(by have:=d9.len;omega);obtain⟨f2,d2,b7,d3⟩:=Dp d9 a8;obtain⟨j3,j7⟩:=o5 _ (fg a8);rw[fx a8]at b6;have l5:=k6 a8;clear k6;generalize L[j]=e at*;have a9:=e9 e j3;have g4:=hg.edge a9;have d1:=b9.edgeAt a9;have u3:=b6.cnt;obtain⟨e5,t5⟩:=b6.node ha;have n9:PInv G s5 src:=(by have:=b6.inv;rw[b5]at this;exact this);have v0:=b6.small.2;have q5:A4 G nd e=2/\(BA G e.to.toNat).length=0\/A4 G nd e=3/\(BA G e.to.toNat).length≠0:=by
    have:=j8 e;by_cases h1:cx.any (Ay e.name)=true
    .rw[if_pos h1]at this;omega
    .rw[if_neg h1]at this;by_cases h2:(BA G e.to.toNat).length=0
     .rw[if_pos h2]at this;exact .inl ⟨this,h2⟩
     .rw[if_neg h2]at this;exact .inr ⟨this,h2⟩
   refine⟨f2,⟨d2,oM,k3⟩,e.name,e.to,by rw[ec];exact d3 _ xR,newS.set rfl λa6 w6 x6 f7 _=>⟨e.name,e.to,f7.at0 (r:=[]) xR rfl,?_⟩⟩;have m6:=m5.trans (Mv.of x6 h5.lo_le);refine SE.Lk.go (Zgl (k:=A4 G nd e) (D:=D) (M:=M) (h5.ext x6) n9 e5 (b6.new e (.head _)) b7 g4 b9.packs d1.1 (YE b9) d1.2 (b9.packAt a9) q5 oM oM (by rw[m5.same];exact q6) (by rw[m5.same];exact q7) λc7 w7 code s7 hE h7 m7=>⟨code,rfl,λhc=>?_,λhc=>?_⟩)
   .rw[d7]at hE;exact stop (m6.trans m7) b6 (by rw[b5];exact hE) hc
   .rw[d7]at hE;have hc:=jx.1 hc;subst hc;have z6:=x6.size;have z7:=m7.size;refine l5 w7 ⟨c7,s7,h7,m6.trans m7,(d9.ext x6).keep λb ⟨ad,ha,e⟩ hl=>?_,λad ha=>?_,b6.step g3 e5 (by rw[b5];exact hE)⟩
    .subst e;obtain⟨_,q1,q2,q3⟩:=e4 ad ha;exact m7.oth _ hl q1 q2 q3
    .obtain⟨q0,q1,q2,q3⟩:=e4 ad ha;refine⟨oM,q1,λx hx=>?_,λx hx=>?_⟩
     .obtain q|q:=m7.dr x hx
      .exact q2 x q
      .omega
     .obtain q|q:=m7.st x hx
      .exact q3 x q
      .omega
  .have a8:j=L.length:=(by have:=d9.len;omega);rw[a8,lh]at b6;exact j4 c5 w5 s5 b6 h5 (f1.trans m5)
end
def V8{nm:Bool}{d:Bool}{t u t' u':Bs}(h:(nm&&d)=true->t=t'/\u=u'):((!nm)||(d&& !Ao t u))=((!nm)||(d&& !Ao t' u')):=by
 cases nm<;>cases d<;>try rfl
 obtain⟨rfl,rfl⟩:=h rfl;rfl
def Zhp{l:Sl}{cx:LP}{f:Value}(hs:SlR pinE w S l cx)(hf:∀(q:Pin)(w':Wd)(k:Value->Wp),(∀b2,Ext w' b2->k (.string q.name) b2)->callV prog f [.agg #[.string q.name,vi q.v.ma,vi q.v.mi,vi q.v.pa]] w' k)
  (hR:∀(b:Bool) w',Ext w w'->(b=true↔Fa Pin.name cx cx.length)->R b w'):SE.Lr l f w R:=by
 unfold SE.Lr;have hl:=hs.len;have hm:=hs.max;rw[Ak]at hm;refine loop1.up hs.max (λk w'=>Ext w w'/\Fa Pin.name cx k) ⟨Ext.refl _,UU⟩ λk w2 b7 hk ⟨x2,hI⟩ hn=>⟨λb0=>bnd.drew λw3 x3=>?_,λb6=>?_⟩
 .have a4:k<cx.length:=oM;obtain⟨ad,ha,_,a6,a9⟩:=Dh hs a4;have b4:=x2.trans x3;refine⟨ad,⟨ha,oM,b0⟩,_,_,_,_,by rw[ec];exact a9 _ b4,hf _ _ _ λw4 x4=>⟨_,rfl,SE.C8.go (scanName_se a6 λw5 x5=>⟨_,rfl,bound (bound ?_)⟩)⟩⟩;have a8:=b4.trans (x4.trans x5);obtain⟨q,a0,a7,hq,a5⟩:∃(q:Pin) (a0:Addr),(decide (0<(k:Int))=true->l.a=some a0/\(0:Int)<=Aa ((k:Int) - 1)/\Aa ((k:Int) - 1)<(l.len:Int))/\(∀h:0<k,q=cx[k - 1]'oM)/\(decide (0<(k:Int))=true->ldc w5 (a0.add ((Aa ((k:Int) - 1)).toNat*4)) [.string q.name,vi q.v.ma,vi q.v.mi,vi q.v.pa]):=by
   by_cases h0:k=0
   .subst h0;exact⟨cx[0],ad,λh=>absurd h dC,λh=>absurd h dC,λh=>absurd h dC⟩
   .obtain⟨a0,a7,_,_,a5⟩:=Dh hs (show k - 1<cx.length by omega);have e:Aa ((k:Int) - 1)=((k - 1:Nat):Int):=by rw[Ag oM oM];omega
    rw[e];exact⟨_,a0,λ_=>⟨a7,oM,oM⟩,λ_=>rfl,λ_=>by rw[ec];exact a5 _ a8⟩
  have hg:∀{b c:Bool},((!b)&&c)=true->c=true:=λ{b c} h=>by cases b<;>simp at h;exact h
  have a6:=UT (nm:=Pin.name) a4 (t:=q.name) λh=>by rw[hq h]
  refine⟨a0,λh=>a7 (hg h),q.name,q.v.ma,q.v.mi,q.v.pa,λh=>a5 (hg h),ad,λ_=>⟨ha,oM,b0⟩,cx[k].name,cx[k].v.ma,cx[k].v.mi,cx[k].v.pa,λ_=>by rw[ec];exact a9 _ a8,?_⟩;refine gCall.intro q.name (λ_ r hr=>hf q _ _ λw6 x6=>⟨x6,_,rfl,hr w6 x6⟩) λt6 w6 x6 h6=>gCall.intro cx[k].name (λ_ r hr=>hf _ _ _ λw7 x7=>⟨_,rfl,hr w7 x7⟩) λt7 w7 x7 h7=>?_;rw[Bool.not_not]at h6 h7;rw[V8 (t':=q.name) (u':=cx[k].name) λh=>⟨h6 h,h7 h⟩];have b5:=a8.trans (x6.trans x7);exact⟨λhq=>hR false w7 b5 ⟨nO,λhF=>absurd hF (a6.2 hq)⟩,λhq=>hn a4 w7 ⟨b5,a6.1 hq hI⟩⟩
 .have a4:k=cx.length:=oM;rw[a4]at hI;exact hR true w2 x2 ⟨λ_=>hI,λ_=>rfl⟩
def Zhn{l:Sl}{cx:LQ}{f:Value}(hs:SlR edgeE w S l cx)(hf:∀(q:Edge)(w':Wd)(k:Value->Wp),(∀b2,Ext w' b2->k (.string q.name) b2)->callV prog f [.agg #[.string q.name,vi q.to]] w' k)
  (hR:∀(b:Bool) w',Ext w w'->(b=true↔Fa Edge.name cx cx.length)->R b w'):SE.Lq l f w R:=by
 unfold SE.Lq;have hl:=hs.len;have hm:=hs.max;rw[Ak]at hm;refine loop1.up hs.max (λk w'=>Ext w w'/\Fa Edge.name cx k) ⟨Ext.refl _,UU⟩ λk w2 b7 hk ⟨x2,hI⟩ hn=>⟨λb0=>bnd.drew λw3 x3=>?_,λb6=>?_⟩
 .have a4:k<cx.length:=oM;obtain⟨ad,ha,a6,a9⟩:=Dp hs a4;have b4:=x2.trans x3;refine⟨ad,⟨ha,oM,b0⟩,_,_,by rw[ec];exact a9 _ b4,hf _ _ _ λw4 x4=>⟨_,rfl,SE.C8.go (scanName_se a6 λw5 x5=>⟨_,rfl,bound (bound ?_)⟩)⟩⟩;have a8:=b4.trans (x4.trans x5);obtain⟨q,a0,a7,hq,a5⟩:∃(q:Edge) (a0:Addr),(decide (0<(k:Int))=true->l.a=some a0/\(0:Int)<=Aa ((k:Int) - 1)/\Aa ((k:Int) - 1)<(l.len:Int))/\(∀h:0<k,q=cx[k - 1]'oM)/\(decide (0<(k:Int))=true->ldc w5 (a0.add ((Aa ((k:Int) - 1)).toNat*2)) [.string q.name,vi q.to]):=by
   by_cases h0:k=0
   .subst h0;exact⟨cx[0],ad,λh=>absurd h dC,λh=>absurd h dC,λh=>absurd h dC⟩
   .obtain⟨a0,a7,_,a5⟩:=Dp hs (show k - 1<cx.length by omega);have e:Aa ((k:Int) - 1)=((k - 1:Nat):Int):=by rw[Ag oM oM];omega
    rw[e];exact⟨_,a0,λ_=>⟨a7,oM,oM⟩,λ_=>rfl,λ_=>by rw[ec];exact a5 _ a8⟩
  have hg:∀{b c:Bool},((!b)&&c)=true->c=true:=λ{b c} h=>by cases b<;>simp at h;exact h
  have a6:=UT (nm:=Edge.name) a4 (t:=q.name) λh=>by rw[hq h]
  refine⟨a0,λh=>a7 (hg h),q.name,q.to,λh=>a5 (hg h),ad,λ_=>⟨ha,oM,b0⟩,cx[k].name,cx[k].to,λ_=>by rw[ec];exact a9 _ a8,?_⟩;refine gCall.intro q.name (λ_ r hr=>hf q _ _ λw6 x6=>⟨x6,_,rfl,hr w6 x6⟩) λt6 w6 x6 h6=>gCall.intro cx[k].name (λ_ r hr=>hf _ _ _ λw7 x7=>⟨_,rfl,hr w7 x7⟩) λt7 w7 x7 h7=>?_;rw[Bool.not_not]at h6 h7;rw[V8 (t':=q.name) (u':=cx[k].name) λh=>⟨h6 h,h7 h⟩];have b5:=a8.trans (x6.trans x7);exact⟨λhq=>hR false w7 b5 ⟨nO,λhF=>absurd hF (a6.2 hq)⟩,λhq=>hn a4 w7 ⟨b5,a6.1 hq hI⟩⟩
 .have a4:k=cx.length:=oM;rw[a4]at hI;exact hR true w2 x2 ⟨λ_=>hI,λ_=>rfl⟩
def ZI:Bj prog 207:=enters_of func207 kR rfl
def ZJ:Bj prog 209:=enters_of func209 kR rfl
def ZK:Bj prog 211:=enters_of func211 kR rfl
section
variable {w:Wd} {p:Addr} {S:Nat->Prop} {c:PC} {G:LN} {P:List Pack} {old:Option (List Dir)} {s:PlS}
def Zgi(ht:Tab w)(h:PlV BI w p S c G P old s)(hi:i<G.length)(hP:P.length=G.length)(hR:∀(b:Bool) w',Ext w w'->(b=true↔NodeR G P i G[i])->R b w'):SE.Lg (some p) (i:Int) w R:=by
 unfold SE.Lg;have m5:=h.g.len;have m7:=h.pk.len;have f1:i<P.length:=oM;have j8:0<G.length:=oM;have b4:∀w',Ext w w'-> ¬NodeR G P i G[i]->R false w':=λw' hx h=>hR false w' hx ⟨nO,λhf=>absurd hf h⟩;obtain⟨ad,cs,es,k4,m8,e5,d1,l0⟩:=Cj h.g hi;obtain⟨b7,dP,eP,oP,k0,_,j9,h7,h8,j2,k9⟩:=I7 h.pk f1;have f7:P[i]?=some P[i]:=dt f1;have g8:i=0->P[0]?=some P[i]:=λh=>by subst h;exact f7
 generalize G[i]=x at*;generalize P[i]=pk at*;have h4:=e5.len;have m4:=d1.len;refine join.named λJ hJ=>bnd.drew λw1 x1=>?_;have key:∀(n q:Addr) w2,Ext w w2->BoxAt w2 n [.string x.name,vi x.v.ma,vi x.v.mi,vi x.v.pa,cs.v,es.v]->BoxAt w2 q [.string pk.name,vi pk.v.ma,vi pk.v.mi,vi pk.v.pa,dP.v,eP.v,oP.v]->J n q w2:=by
  subst hJ;intro n q w2 e7 a5 b0;have g6:((x.v.ma==0)&&((x.v.mi==0)&&((x.v.pa==0)&&true)))=decide (x.v=⟨0,0,0⟩):=Mu;have g7:((pk.v.ma==x.v.ma)&&((pk.v.mi==x.v.mi)&&((pk.v.pa==x.v.pa)&&true)))=decide (pk.v=x.v):=Mu;have ek:x.key=rootNode.key↔x.name=⟨#[]⟩/\x.v=⟨0,0,0⟩/\x.ctx=[]:=by unfold Node.key rootNode;simp only[Prod.mk.injEq]
  have d7: ¬0<(cs.len:Int)↔x.ctx=[]:=⟨λh=>fk oM,λh=>by rw[h]at h4;simp at h4;omega⟩;refine bound ⟨x.name,λ_=>a5.at0 xR rfl,bound ⟨x.v.ma,x.v.mi,x.v.pa,λ_=>a5.at1 (k:=1) xR rfl,bound ⟨cs,λ_=>a5.at1 (k:=4) xR rfl,bound ⟨pk.name,pk.v.ma,pk.v.mi,pk.v.pa,dP,eP,oP,λ_=>b0.at0 (r:=[]) xR rfl,?_⟩⟩⟩⟩;refine gCall.intro (decide (pk=Az)) (λ_ r hr=>SE.Fy.go (KW (p:=pk) (q:=Az) (T:=None') (h7.ext e7) (h8.ext e7) (j2.ext e7) (SlR.nil trivial) (SlR.nil trivial) (SlR.nil trivial) λw3 x3=>⟨_,rfl,hr w3 x3⟩)) λl7 w3 x3 d4=>?_;have d3:=e7.trans x3;have a5:=a5.ext x3;have b0:=b0.ext x3;rw[g6]at d4 ⊢;have b8:(((i:Int)==0)&&(((!Ai x.name (bm #[])|| !decide (x.v=⟨0,0,0⟩))||decide (0<(cs.len:Int)))|| !l7))=false↔(i=0->x.key=rootNode.key/\pk=Az):=by
   rw[ek,<-d7];by_cases h0:i=0
   .subst h0;have e0:(((0:Nat):Int)==0)=true:=rfl;rw[e0]at d4 ⊢;by_cases hb:((!Ai x.name (bm #[])|| !decide (x.v=⟨0,0,0⟩))||decide (0<(cs.len:Int)))=true
    .rw[hb];simp only[mf,kx,decide_eq_true_eq,decide_eq_false_iff_not]at hb;refine⟨nO,λhF=>?_⟩;obtain⟨⟨q1,q2,q3⟩,_⟩:=hF rfl;rcases hb with(hb|hb)|hb
     .rw[AH.2 q1]at hb;cases hb
     .exact absurd q2 hb
     .exact absurd hb q3
    .rw[Bool.not_eq_true]at hb;rw[hb]at d4 ⊢;rw[d4 rfl];simp only[gh,ni,decide_eq_true_eq,decide_eq_false_iff_not,AH]at hb;simp[hb];intro _;omega
   .have e9:((i:Int)==0)=false:=(by rw[beq_eq_false_iff_ne];omega);rw[e9];simp[h0]
  refine⟨λhq=>b4 w3 d3 λhF=>?_,λhq=>bound ⟨pk.name,pk.v.ma,pk.v.mi,pk.v.pa,dP,eP,oP,λ_=>b0.at0 (r:=[]) xR rfl,?_⟩⟩
  .rw[b8.2 λh0=>⟨(hF.root h0).1,by have:=(hF.root h0).2;rw[g8 h0]at this;exact ji this⟩]at hq;cases hq
  have d9:=b8.1 hq;clear b8 hq g6 ek d7 d4;refine gCall.intro (AM pk) (λ_ r hr=>SE.FX.go (NL (ht.ext d3) j9 (h7.ext d3) (h8.ext d3) (j2.ext d3) λw4 x4=>⟨_,rfl,hr w4 x4⟩)) λl8 w4 x4 f5=>bound ?_;have g4:=d3.trans x4;have a5:=a5.ext x4;have b0:=b0.ext x4;refine⟨pk.name,λ_=>b0.at0 xR rfl,x.name,λ_=>a5.at0 xR rfl,bound ⟨pk.v.ma,pk.v.mi,pk.v.pa,λ_=>b0.at1 (k:=1) xR rfl,x.v.ma,x.v.mi,x.v.pa,λ_=>a5.at1 (k:=1) xR rfl,?_⟩⟩;rw[g7];have b9:(decide (0<(i:Int))&&(((!l8)|| !Ai pk.name x.name)|| !decide (pk.v=x.v)))=false↔(i≠0->AM pk=true/\pk.name=x.name/\pk.v=x.v):=by
   by_cases h0:i=0
   .subst h0;simp
   .rw[decide_eq_true (show(0:Int)<(i:Int) by omega)]at f5 ⊢;rw[f5 rfl];simp[h0,AH,and_assoc]
  refine⟨λhq=>b4 w4 g4 λhF=>?_,λhq=>?_⟩
  .rw[b9.2 λh0=>by obtain⟨y,q1,q2,q3,q4⟩:=hF.pl.pack h0;rw[f7]at q1;cases q1;exact⟨q2,q3,q4⟩]at hq;cases hq
  have f9:=b9.1 hq;clear b9 hq g7 f5;refine⟨cs,a5.at1 (k:=4) xR rfl,SE.Lr.go (Zhp (e5.ext g4) (λq w' k hk=>⟨_,_,rfl,ZI,SE.NO.go ?_⟩) λb5 w5 x5 d6=>⟨_,rfl,bound ?_⟩)⟩
  .unfold SE.NO;exact newS.intro λa w1 x1 f8 _ _=>⟨_,f8.at0 xR rfl,hk w1 x1⟩
  have j4:=g4.trans x5;refine⟨es,λ_=>a5.at1 (k:=5) (r:=[]) x5 rfl,gCall.holds (λt=>t=true↔Fa Edge.name x.edges x.edges.length) (λ_ r hr=>SE.Lq.go (Zhn (d1.ext j4) (λq w' k hk=>⟨_,_,rfl,ZJ,SE.NP.go ?_⟩) λb6 w6 x6 c9=>⟨_,rfl,hr b6 w6 x6 c9⟩)) λl9 w6 x6 f6=>?_⟩
  .unfold SE.NP;exact newS.intro λa w1 x1 f8 _ _=>⟨_,f8.at0 xR rfl,hk w1 x1⟩
  have g5:=j4.trans x6;have c9:=a5.ext (x5.trans x6);refine⟨λhq=>b4 w6 g5 λhF=>?_,λhq=>?_⟩
  .have d6:=d6.2 ⟨by rw[eu];exact hF.pl.ctx,by rw[eu];exact hF.cn⟩;subst d6;rw[(f6 rfl).2 ⟨by rw[eu];exact hF.pl.edges,by rw[eu];exact hF.en⟩]at hq;cases hq
  rw[gh]at hq;have h3:b5=true:=by simpa using hq.1
  have j3:l9=true:=by simpa using hq.2
  subst h3 j3;obtain⟨h6,h5⟩:=d6.1 rfl;obtain⟨i3,i2⟩:=(f6 rfl).1 rfl;rw[eu]at h6 h5 i3 i2;clear hq d6 f6;refine⟨es,c9.at1 (k:=5) (r:=[]) xR rfl,?_⟩;refine loop1.up d1.max (λj w'=>Ext w6 w'/\∀e∈x.edges.take j,∃(m:Nat) (y:Node),e.to=(m:Int)/\1<=m/\G[m]?=some y/\y.name=e.name) ⟨Ext.refl _,(λ_ h=>by cases h)⟩ λj w7 m2 hj ⟨x7,hJ⟩ l5=>⟨λi7=>?_,λm0=>?_⟩
  .have a6:j<x.edges.length:=oM;obtain⟨j6,g9,_,i4⟩:=Dp d1 a6;have c8:=fg a6;have g0:x.edges.take (j+1)=x.edges.take j++[x.edges[j]]:=dw a6;have e3:=g5.trans x7;generalize x.edges[j]=e at*;refine⟨j6,⟨g9,oM,i7⟩,e.name,e.to,by rw[ec];exact i4 _ e3,newS.set rfl λa8 w8 x8 k8 _=>bnd.drew λw9 x9=>?_⟩;have c7:=e3.trans (x8.trans x9);have c4:=k8.ext x9;obtain⟨m,hm,j0⟩:∃m,m<G.length/\(0<=e.to/\e.to<(G.length:Int)->e.to=(m:Int)):=by
    by_cases hq:0<=e.to/\e.to<(G.length:Int)
    .exact⟨e.to.toNat,oM,λ_=>by omega⟩
    .exact⟨0,j8,λh=>absurd h hq⟩
   obtain⟨f2,_,_,d5,_,_,_,d8⟩:=Cj h.g hm;have e6:((!(decide (e.to<1)||decide ((c.u.len:Int)<=e.to)))=true)->e.to=(m:Int)/\1<=m:=λhg=>by simp only[kx,gh,decide_eq_false_iff_not]at hg;have:=j0 ⟨oM,oM⟩;exact⟨this,oM⟩
   refine⟨e.to,c4.at1 (k:=1) (r:=[]) xR rfl,bound ⟨e.to,λ_=>c4.at1 (k:=1) (r:=[]) xR rfl,p,λ_=>rfl,c.u,λ_=>h.ld0 c7,bound ⟨p,λ_=>rfl,c.u,λ_=>h.ld0 c7,e.to,λ_=>c4.at1 (k:=1) (r:=[]) xR rfl,f2,λhg=>⟨d5,by have:=(e6 hg).1;omega,by have:=(e6 hg).1;omega⟩,G[m].name,λhg=>by rw[(e6 hg).1,ec];exact(d8 _ c7).pre rfl,e.name,λ_=>c4.at0 xR rfl,λhq=>?_,λhq=>?_⟩⟩⟩
   .refine b4 w9 c7 λhF=>?_;obtain⟨m',y,q1,q2,q3,q4⟩:=hF.pl.edge e c8;have m6:=(fe.1 q3).1;have:m=m':=(by have:=j0 ⟨oM,oM⟩;omega);subst this;rw[dt hm]at q3;cases q3;rw[decide_eq_false oM,decide_eq_false oM,AH.2 q4]at hq;cases hq
   .rw[gh]at hq;obtain⟨g1,g2⟩:=e6 (by rw[hq.1];rfl);refine l5 a6 w9 ⟨x7.trans (x8.trans x9),λe' d0=>?_⟩;rw[g0]at d0;obtain d0|d0:=fj.1 d0
    .exact hJ e' d0
    .rw[eh.1 d0];exact⟨m,G[m],g1,g2,dt hm,AH.1 (by simpa using hq.2)⟩
  .have a6:j=x.edges.length:=oM;rw[a6,eu]at hJ;have e3:=g5.trans x7;refine⟨cs,c9.at1 (k:=4) x7 rfl,?_⟩;refine loop1.up e5.max (λj w'=>Ext w7 w'/\∀q∈x.ctx.take j,∃y,HW G x q.name=some y/\y.v=q.v) ⟨Ext.refl _,(λ_ h=>by cases h)⟩ λj w8 m3 hj ⟨x8,hK⟩ l6=>⟨λi9=>?_,λm1=>?_⟩
   .have a6:j<x.ctx.length:=oM;obtain⟨f4,h2,_,_,i6⟩:=Dh e5 a6;have c8:=fg a6;have g0:x.ctx.take (j+1)=x.ctx.take j++[x.ctx[j]]:=dw a6;have j5:=e3.trans x8;generalize x.ctx[j]=q at*;refine⟨f4,⟨h2,oM,i9⟩,q.name,q.v.ma,q.v.mi,q.v.pa,by rw[ec];exact i6 _ j5,newS.set rfl λa9 w9 x9 c4 _=>⟨es,c9.at1 (k:=5) (r:=[]) (x7.trans (x8.trans x9)) rfl,?_⟩⟩;have c7:=j5.trans x9;refine SE.LW.go (Zb2 (q:=λe=>decide (e.name=q.name)) (d1.ext c7) (λe he w' k x' hk=>⟨_,_,rfl,ZK,SE.NQ.go ?_⟩) λm9 e8=>⟨_,rfl,bnd.drew λg3 f0=>bound ?_⟩)
    .unfold SE.NQ;refine newS.intro λa4 w4 x4 k7 _ _=>⟨_,k7.at0 xR rfl,q.name,c4.at0 (x'.trans x4) rfl,?_⟩;have:Ai e.name q.name=decide (e.name=q.name):=by rw[gn,AH,decide_eq_true_iff]
     rw[this];exact hk w4 x4
    have c3:=c7.trans (e8.trans f0);rcases Zb7 (λe:Edge=>decide (e.name=q.name)) x.edges with⟨e1,e2⟩|⟨k,hk,e1,e2⟩
    .rw[e1];refine⟨p,nO,c.u,nO,es,nO,f4,nO,0,nO,f4,nO,0,0,0,nO,0,0,0,nO,λ_=>b4 g3 c3 λhF=>?_,λhq=>?_⟩
     .obtain⟨y,q1,_⟩:=hF.pl.full q c8;rw[TB,e2]at q1;cases q1
     .exact absurd hq sI
    .rw[e1];obtain⟨j7,h1,_,i5⟩:=Dp d1 hk;obtain⟨m,y,q1,q2,q3,q4⟩:=hJ _ (fg hk);have hm:=(fe.1 q3).1;obtain⟨f2,_,_,d5,_,_,_,d8⟩:=Cj h.g hm;rw[dt hm]at q3;cases q3;have h9:HW G x q.name=some G[m]:=by rw[TB,e2,mz,q1,ec];exact dt hm
     refine⟨p,λ_=>rfl,c.u,λ_=>h.ld0 c3,es,λ_=>c9.at1 (k:=5) (r:=[]) (x7.trans (x8.trans (x9.trans (e8.trans f0)))) rfl,j7,λ_=>⟨h1,oM,oM⟩,x.edges[k].to,λ_=>by rw[ec];exact(i5 _ c3).mid (k:=1) (r:=[]) rfl,f2,λ_=>⟨d5,oM,oM⟩,G[m].v.ma,G[m].v.mi,G[m].v.pa,λ_=>by rw[q1,ec];exact(d8 _ c3).mid (k:=1) rfl,q.v.ma,q.v.mi,q.v.pa,λ_=>c4.at1 (k:=1) (r:=[]) (e8.trans f0) rfl,?_⟩;have ev:((G[m].v.ma==q.v.ma)&&((G[m].v.mi==q.v.mi)&&((G[m].v.pa==q.v.pa)&&true)))=decide (G[m].v=q.v):=Mu;rw[ev,decide_eq_false (show ¬((k:Int)<0) by omega)];refine⟨λhq=>b4 g3 c3 λhF=>?_,λhq=>l6 a6 g3 ⟨x8.trans (x9.trans (e8.trans f0)),λq' d2=>?_⟩⟩
     .obtain⟨y,r1,r2⟩:=hF.pl.full q c8;rw[h9]at r1;cases r1;rw[decide_eq_true r2]at hq;cases hq
     .rw[g0]at d2;obtain d2|d2:=fj.1 d2
      .exact hK q' d2
      .rw[eh.1 d2];exact⟨_,h9,of_decide_eq_true (by simpa using hq)⟩
   .have a6:j=x.ctx.length:=oM;rw[a6,eu]at hK;exact hR true w8 (e3.trans x8) ⟨λ_=>⟨λh0=>⟨(d9 h0).1,by rw[g8 h0,(d9 h0).2]⟩,⟨λh0=>⟨pk,f7,f9 h0⟩,h6,i3,hJ,hK⟩,h5,i2⟩,λ_=>rfl⟩
 clear hJ;have c6:∀{w'},Ext w1 w'->ldc w' (p.add 1) [c.ps.v]:=λx=>h.ld (x1.trans x) 1 rfl;have a0:∀{w'},Ext w1 w'->ldc w' (b7.add ((i:Int).toNat*7)) [.string pk.name,vi pk.v.ma,vi pk.v.mi,vi pk.v.pa,dP.v,eP.v,oP.v]:=λx=>by rw[ec];exact k9 _ (x1.trans x)
 have c5:c.ps.a=some b7/\(0:Int)<=(i:Int)/\(i:Int)<(c.ps.len:Int):=⟨k0,oM,oM⟩;have F:∀{n q:Addr} {w':Wd},Ext w1 w'->n.block≠q.block->w1.heap.size<=n.block->w1.heap.size<=q.block->∀{z1 z2 z3 z4 z5 z6 y1 y2 y3 y4 y5 y6 y7:Value},BoxAt w' n [z1,z2,z3,z4,z5,z6]->BoxAt w' q [y1,y2,y3,y4,y5,y6,y7]->∀K:Wp,(∀w2,Ext w1 w2->stw w2 q [.string pk.name,vi pk.v.ma,vi pk.v.mi,vi pk.v.pa,dP.v,eP.v,oP.v] (J n q)->K w2)->stw w' n [.string x.name,vi x.v.ma,vi x.v.mi,vi x.v.pa,cs.v,es.v] K:=λ{n q w'} x' j1 hn hq {_ _ _ _ _ _ _ _ _ _ _ _ _} a5 b0 K hK=>by have s1:=x'.size;refine stw0.intro a5 sI λw2 b2 z2 k5=>hK w2 (b2.ext x' hn) (stw0.intro (b2.box b0 (Ne.symm j1)) sI λw3 b3 z3 k6=>key n q w3 (x1.trans (b3.ext (b2.ext x' hn) hq)) (b3.box k5 j1) k6)
 refine⟨p,rfl,c.u,h.ld0 x1,ad,⟨k4,oM,oM⟩,_,_,_,_,cs,es,by rw[ec];exact l0 _ x1,p,rfl,?_⟩;have N2:∀{w':Wd} {zs ys:LV} {t u:TypeId} {K:Addr->Addr->Wp},Ext w1 w'->(∀a b w2,Ext w1 w2->w1.heap.size<=a.block->w1.heap.size<=b.block->a.block≠b.block->BoxAt w2 a zs->BoxAt w2 b ys->K a b w2)->newS w' zs t λa w2=>newS w2 ys u λb w3=>K a b w3:=λ{w' zs ys t u K} x' hK=>newS.intro λa w2 x2 ha e4 _=>newS.intro λb w3 x3 hb a7 _=>by have:=x'.size;have:=ha.lt;exact hK a b w3 (x'.trans (x2.trans x3)) oM oM oM (ha.ext x3) hb
 have x0:Ext w1 w1:=Ext.refl _;refine⟨⟨c.ps,c6 x0,b7,c5,⟨_,_,_,_,dP,eP,oP,a0 x0,N2 x0 λa b w2 x2 k1 k2 k3 ha hb=>F x2 k3 k1 k2 ha hb _ λ_ _ h=>h,N2 x0 λa b w2 x2 k1 k2 k3 ha hb=>F x2 (Ne.symm k3) k2 k1 hb ha _ λ_ _ h=>h⟩,?_,?_⟩,?_,?_⟩
 .refine newS.intro λa w2 x2 ha e4 _=>⟨⟨_,_,_,_,dP,eP,oP,a0 x2,newS.intro λb w3 x3 hb a7 _=>?_⟩,newS.intro λb w3 x3 hb a7 _=>⟨⟨_,_,_,_,dP,eP,oP,a0 (x2.trans x3),?_⟩,?_⟩⟩
  all_goals have:=x2.size
  all_goals have:=ha.lt
  .exact F (x2.trans x3) oM oM oM (ha.ext x3) hb _ λ_ _ h=>h
  .exact F (x2.trans x3) oM oM oM (ha.ext x3) hb _ λ_ _ h=>h
  .exact F (x2.trans x3) oM oM oM (ha.ext x3) hb _ λ_ x h=>⟨_,_,_,_,dP,eP,oP,a0 x,h⟩
 .refine newS.intro λa w2 x2 ha e4 _=>⟨⟨_,_,_,_,dP,eP,oP,a0 x2,newS.intro λb w3 x3 hb a7 _=>?_⟩,newS.intro λb w3 x3 hb a7 _=>⟨⟨_,_,_,_,dP,eP,oP,a0 (x2.trans x3),?_⟩,?_⟩⟩
  all_goals have:=x2.size
  all_goals have:=ha.lt
  .exact F (x2.trans x3) oM oM oM hb (ha.ext x3) _ λ_ _ h=>h
  .exact F (x2.trans x3) oM oM oM hb (ha.ext x3) _ λ_ _ h=>h
  .exact F (x2.trans x3) oM oM oM hb (ha.ext x3) _ λ_ x h=>⟨_,_,_,_,dP,eP,oP,a0 x,h⟩
 .refine newS.intro λa w2 x2 ha e4 _=>⟨⟨c.ps,c6 x2,b7,c5,⟨_,_,_,_,dP,eP,oP,a0 x2,newS.intro λb w3 x3 hb a7 _=>?_⟩,newS.intro λb w3 x3 hb a7 _=>⟨⟨_,_,_,_,dP,eP,oP,a0 (x2.trans x3),?_⟩,?_⟩⟩,newS.intro λb w3 x3 hb a7 _=>⟨⟨c.ps,c6 (x2.trans x3),b7,c5,⟨_,_,_,_,dP,eP,oP,a0 (x2.trans x3),?_⟩,?_⟩,?_⟩⟩
  all_goals have:=x2.size
  all_goals have:=ha.lt
  .exact F (x2.trans x3) oM oM oM (ha.ext x3) hb _ λ_ _ h=>h
  .exact F (x2.trans x3) oM oM oM (ha.ext x3) hb _ λ_ _ h=>h
  .exact F (x2.trans x3) oM oM oM (ha.ext x3) hb _ λ_ x h=>⟨_,_,_,_,dP,eP,oP,a0 x,h⟩
  .exact F (x2.trans x3) oM oM oM (ha.ext x3) hb _ λ_ _ h=>h
  .exact F (x2.trans x3) oM oM oM (ha.ext x3) hb _ λ_ x h=>⟨_,_,_,_,dP,eP,oP,a0 x,h⟩
  .exact F (x2.trans x3) oM oM oM (ha.ext x3) hb _ λ_ x h=>⟨c.ps,c6 x,b7,c5,_,_,_,_,dP,eP,oP,a0 x,h⟩
 .refine newS.intro λa w2 x2 ha e4 _=>⟨⟨c.ps,c6 x2,b7,c5,⟨_,_,_,_,dP,eP,oP,a0 x2,newS.intro λb w3 x3 hb a7 _=>?_⟩,newS.intro λb w3 x3 hb a7 _=>⟨⟨_,_,_,_,dP,eP,oP,a0 (x2.trans x3),?_⟩,?_⟩⟩,newS.intro λb w3 x3 hb a7 _=>⟨⟨c.ps,c6 (x2.trans x3),b7,c5,⟨_,_,_,_,dP,eP,oP,a0 (x2.trans x3),?_⟩,?_⟩,?_⟩⟩
  all_goals have:=x2.size
  all_goals have:=ha.lt
  .exact F (x2.trans x3) oM oM oM hb (ha.ext x3) _ λ_ _ h=>h
  .exact F (x2.trans x3) oM oM oM hb (ha.ext x3) _ λ_ _ h=>h
  .exact F (x2.trans x3) oM oM oM hb (ha.ext x3) _ λ_ x h=>⟨_,_,_,_,dP,eP,oP,a0 x,h⟩
  .exact F (x2.trans x3) oM oM oM hb (ha.ext x3) _ λ_ _ h=>h
  .exact F (x2.trans x3) oM oM oM hb (ha.ext x3) _ λ_ x h=>⟨_,_,_,_,dP,eP,oP,a0 x,h⟩
  .exact F (x2.trans x3) oM oM oM hb (ha.ext x3) _ λ_ x h=>⟨c.ps,c6 x,b7,c5,_,_,_,_,dP,eP,oP,a0 x,h⟩
def Zgk(ht:Tab w)(h:PlV BI w p S c G P old s)(hR:∀(b:Bool) w',Ext w w'->(b=true↔PlaceOk G P)->R b w'):SE.Lj (some p) w R:=by
 unfold SE.Lj;have a8:=h.g.len;have b0:=h.pk.len;have a5:∀w',Ext w w'-> ¬PlaceOk G P->R false w':=λw' hx h=>hR false w' hx ⟨nO,λhf=>absurd hf h⟩;refine⟨p,rfl,c.u,h.ld0 xR,bound (bound ⟨p,λ_=>rfl,c.ps,λ_=>h.ld xR 1 rfl,λhc=>a5 w xR λhF=>?_,λhc=>?_⟩)⟩
 .have h1:=hF.len;have h2:=hF.packs;rw[decide_eq_false oM,decide_eq_false oM,show((c.ps.len:Int)==(c.u.len:Int))=true by rw[beq_iff_eq];omega]at hc;cases hc
 simp only[gh,decide_eq_false_iff_not,ni,beq_iff_eq]at hc;have a0:0<G.length:=oM;have hP:P.length=G.length:=oM;refine loop1.up h.g.max (λi w'=>Ext w w'/\∀j (hj:j<G.length),j<i->NodeR G P j G[j]) ⟨Ext.refl _,λj _ h=>by omega⟩ λi w1 b2 hi ⟨x1,hI⟩ hn=>⟨λa9=>?_,λa7=>?_⟩
 .have a4:i<G.length:=oM;refine SE.Lg.go (Zgi (ht.ext x1) (h.ext x1) a4 hP λb w2 x2 hb=>⟨b,rfl,λhq=>a5 w2 (x1.trans x2) λhF=>?_,λhq=>hn a4 w2 ⟨x1.trans x2,λj hj a6=>?_⟩⟩)
  .rw[hb.2 (hF.nodeR (dt a4))]at hq;cases hq
  .obtain h'|h':=il.1 a6
   .exact hI j hj h'
   .subst h';exact hb.1 (by simpa using hq)
 .have a4:i=G.length:=oM;subst a4;refine hR true w1 x1 ⟨λ_=>⟨oM,hP,⟨G[0],dt a0,((hI 0 a0 a0).root rfl).1⟩,((hI 0 a0 a0).root rfl).2,λj y hy=>?_⟩,λ_=>rfl⟩;obtain⟨hj,rfl⟩:=fe.1 hy;exact(hI j hj hj).pl
end
def ZQ:Bj prog 65:=enters_of func65 kR rfl
def Zh5{x y:DirC×Dir}(hx:DirRp w S x)(hy:DirRp w S y):Calls prog 65 #[.agg (Ex x.1).toArray,.agg (Ex y.1).toArray] w λe w'=>e= .returned (.int .i64 (HG x.2 y.2))/\Ext w w':=by have h1:=hx.path;have h2:=hy.path;obtain⟨⟨ps,nm,ma,mi,pa,d,e,o,nd⟩,x⟩:=x;obtain⟨⟨a0,a8,a5,a6,a9,d',e',o',a7⟩,y⟩:=y;have h:callS prog 65 [.agg #[ps.v,.string nm,vi ma,vi mi,vi pa,d.v,e.v,o.v,vi nd],.agg #[a0.v,.string a8,vi a5,vi a6,vi a9,d'.v,e'.v,o'.v,vi a7]] w (λv w'=>v= .int .i64 (HG x y)/\Ext w w'):=SE.NM.go (by unfold SE.NM;refine newS.intro λa w1 x1 hb _ _=>newS.intro λa1 w2 x2 a4 _ _=>bnd.drew λw3 x3=>⟨ps,hb.at0 (x2.trans x3) rfl,a0,a4.at0 x3 rfl,callX.intro (SE.Ef.go (Hv (h1.ext (x1.trans (x2.trans x3))) hx.2 λw4 x4=>⟨x4,_,rfl,SE.Ef.go (Hv (h2.ext (x1.trans (x2.trans (x3.trans x4)))) hy.2 λw5 x5=>⟨_,rfl,EM ⟨_,rfl,rfl,x1.trans (x2.trans (x3.trans (x4.trans x5)))⟩⟩)⟩))⟩);exact Calls.mono h λe w' ⟨v,he,hv,hg⟩=>⟨by rw[he,hv],hg⟩
def Zgn{S0:Nat->Prop}{u pks:Sl}{ol:Option Addr}{old:Option (List Dir)}{l1 l2:Int}{R:Sl->Int->Wp}(ht:Tab w)(hS:Old S0 w)(hg:SlR nodeE w S0 u G)(i5:SlR packE w S0 pks P)(f6:OldR w S0 old ol)(hz:0<P.length->P[0]?=some Az)
  (hb:∀T,old=some T->∀d∈T,d.path.length<=4000000000000)
  (hR:∀c T t w',Ext w w'->PlaceR G P old D M c T->SlR dirE w' (λb=>b<w'.heap.size) t T->R t c w'):SE.FY u pks l1 l2 D M ol w R:=by
 unfold SE.FY;refine newS.intro λa w1 x1 ha k4 _=>newS.intro λa1 w2 x2 b2 j5 _=>newS.intro λa3 w3 x3 b5 j6 _=>⟨D,b2.at1 (k:=2) x3 rfl,bound ⟨D,λ_=>b2.at1 (k:=2) x3 rfl,bound ⟨M,λ_=>b2.at1 (k:=3) (r:=[]) x3 rfl,bound ⟨M,λ_=>b2.at1 (k:=3) (r:=[]) x3 rfl,λhc=>?_,λhc=>bound ?_⟩⟩⟩⟩
 .have a6:=x1.trans (x2.trans x3);have d9: ¬EZ D M:=λ⟨h1,h2,h3,h4⟩=>by rw[decide_eq_false oM,decide_eq_false oM,decide_eq_false oM,decide_eq_false oM]at hc;cases hc
  exact stw0.intro b5 sI λw4 b4 _ d6=>⟨Sl.nil,d6.ldc.pre (r:=[]) rfl,hR 1 [] Sl.nil w4 (b4.ext a6 (by have:=x1.size;have:=x2.size;omega)) (.arg d9) (SlR.nil trivial)⟩
 have b9:EZ D M:=by simp only[gh,decide_eq_false_iff_not]at hc;obtain⟨⟨⟨h2,h3⟩,h4⟩,h5⟩:=hc;exact⟨oM,oM,oM,oM⟩
 clear hc;have a6:=x1.trans (x2.trans x3);have s1:=x1.size;have s2:=x2.size;have s3:=x3.size;obtain⟨p0,t0,T0,i4,i9,g5,a5⟩:∃(p0:Addr) (t0:Sl) (T0:List Dir),((!Option.isNone ol)=true->ol=some p0)/\((!Option.isNone ol)=true->ldc w3 p0 [t0.v])/\((!Option.isNone ol)=true->SlR dirE w3 S0 t0 T0)/\(((!Option.isNone ol)=true/\old=some T0)\/((!Option.isNone ol)=false/\old=none)):=by
  rcases f6.ok with⟨rfl,h⟩|⟨ao,T,so,rfl,h2,h3,h4⟩
  .exact⟨⟨0,0,none⟩,Sl.nil,[],nO,nO,nO,.inr ⟨rfl,h⟩⟩
  .exact⟨ao,so,T,λ_=>rfl,λ_=>h3.ext a6,λ_=>h4.ext a6,.inl ⟨rfl,h2⟩⟩
 refine⟨p0,i4,t0,i9,gCall.named λJ hJ=>?_⟩;have c9:∀(e1:Int)(c7:Wd),Ext w3 c7->((!Option.isNone ol)=true->e1=GH T0)->J e1 c7:=by
  subst hJ;intro e1 c7 b0 d1;have x0:=a6.trans b0;refine⟨λhc=>?_,λhc=>?_⟩
  .have d9: ¬H6 old:=λhO=>by
    rcases a5 with⟨h1,h2⟩|⟨h1,h2⟩
    .rw[h1,d1 h1,Pn (hO T0 h2)]at hc;cases hc
    .rw[h1]at hc;cases hc
   exact stw0.intro (b5.ext b0) sI λw4 b4 _ d6=>⟨Sl.nil,d6.ldc.pre (r:=[]) rfl,hR 42 [] Sl.nil w4 (b4.ext x0 oM) (.tree b9 d9) (SlR.nil trivial)⟩
  have hO:H6 old:=λT hT=>by
   rcases a5 with⟨h1,h2⟩|⟨h1,h2⟩
   .rw[h1,d1 h1]at hc;rw[h2]at hT;cases hT;exact Po.1 (by simpa using hc)
   .rw[h2]at hT;cases hT
  clear hc d1;refine⟨u,ha.at0 (r:=[]) (x2.trans (x3.trans b0)) rfl,l1,l2,D,M,b2.at0 (r:=[]) (x3.trans b0) rfl,?_⟩;refine newS.ownL (E:=dirE) (f:=λ_=> [Sl.nil.v,.string ⟨#[]⟩,vi 0,vi 0,vi 0,Sl.nil.v,Sl.nil.v,Sl.nil.v,vi 0]) (l:=[⟨[],Az,0⟩]) (λx hx w S=>by rw[eh.1 hx];exact QR) rfl sI λc5 w4 x4 o4 g6=>newS.intro λa4 w5 x5 f1 g7 j8=>?_;have e3:=b0.trans (x4.trans x5);have a7:=a6.trans e3;have m2:=b0.size;have s4:=x4.size;have s5:=x5.size;have l3:=b5.lt;have l8:=ha.lt;have m0:=f1.lt;have l9:c5.block<w4.heap.size:=(o4.block rfl).2.1;have eD:pl0.dirs.map (AX P)= [⟨[],Az,0⟩]:=Zi hz;have g4:∀b,S0 b->b<w5.heap.size:=λb hb=>by have:=hS b hb;have:=a7.size;omega
  have oD:OwnS dirE 61 w5 w.heap.size None' ⟨some c5,1,1⟩ (pl0.dirs.map (AX P)):=by rw[eD];exact OwnS.low (lo:=c7.heap.size) (o4.ext x5) (by have:=x0.size;omega)
  have h0:MlV BI 284 w5 w.heap.size a4 S0 ⟨u,pks,l1,l2,D,M,ol,⟨some c5,1,1⟩,Sl.nil⟩ G P old pl0:=by have e8:∀b,S0 b->b<w.heap.size:=hS;refine⟨f1,oM,hg.ext a7,i5.ext a7,f6.ext a7,g4,λh=>by have:=e8 _ h;omega,⟨None',oD,(λh=>h),(λ_ h=>by cases h),(λ_ h=>h.elim)⟩,OwnS.nil _ _,λad d4=>?_,(λad d4=>by cases d4),(λ_ _ _ h=>by cases h)⟩;cases d4;exact⟨oM,λh=>by have:=e8 _ h;omega⟩
  have f7:=h0.read (by show 1<=1000;decide) ⟨by show 0*32<=Ab;omega,by show 0<=maxLen;omega⟩;generalize c6:(⟨u,pks,l1,l2,D,M,ol,⟨some c5,1,1⟩,Sl.nil⟩:PC)=c0 at*;have k6:c0.l3=D:=by rw[<-c6]
  have k7:c0.l4=M:=by rw[<-c6]
  have c8:∀ad,c0.dr.a=some ad->a3.block<ad.block/\ad.block≠a4.block:=λad h=>by rw[<-c6]at h;cases h;exact⟨oM,oM⟩
  have g0:∀ad,c0.st.a=some ad->False:=λad h=>by rw[<-c6]at h;cases h
  refine SE.Lj.go (Zgk (ht.ext a7) f7 λb w7 x7 f2=>⟨b,rfl,λhq=>?_,λhq=>?_⟩)
  .have e2:=a7.trans x7;exact stw0.intro (b5.ext (e3.trans x7)) sI λw8 b8 _ g8=>⟨Sl.nil,g8.ldc.pre (r:=[]) rfl,hR 33 [] Sl.nil w8 (b8.ext e2 oM) (.graph b9 hO λhp=>by rw[f2.2 hp]at hq;cases hq) (SlR.nil trivial)⟩
  have a8:PlaceOk G P:=f2.1 (by simpa using hq);have h7:=a8.grPl;have s7:=x7.size;have h1:=h0.ext x7;have e2:=a7.trans x7;have f0:=b5.ext (e3.trans x7);generalize hI:DG G P old D M=I;have e5:I.g=G:=by rw[<-hI];rfl
  have k3:I.maxD=D:=by rw[<-hI];rfl
  obtain⟨e4,d2,e6,e7⟩:=b9;have keep:∀{c w'},Mv w.heap.size a4 c0 w7 c w'->Ext w w'/\BoxAt w' a3 [Sl.nil.v]/\c.l3=D/\c.l4=M:=λ{c w'} m=>by refine⟨e2.trans' m.bel,m.box f0 oM (λad h=>by have:=c8 ad h;omega) (λad h=>(g0 ad h).elim),?_,?_⟩<;>rw[m.same]<;>assumption
  have fin:∀{c w' c4 code T t},Mv w.heap.size a4 c0 w7 c w'->Ext w' c4->PlaceR G P old D M code T->SlR dirE c4 (λb=>b<c4.heap.size/\b≠a3.block) t T->stw c4 a3 [t.v] λd0=>∃r:Sl,ldc d0 a3 [r.v]/\R r code d0:=λ{c w' c4 code T t} m x hP ht=>by obtain⟨k1,k2,_⟩:=keep m;exact stw0.intro (k2.ext x) sI λw3 b3 j0 d5=>⟨t,d5.ldc.pre (r:=[]) rfl,hR code T t w3 (b3.ext (k1.trans x) oM) hP ((ht.but b3 λh=>h.2 rfl).mono λb hb=>by have:=hb.1;have:=b3.1;omega)⟩
  refine loop1.ghost (λn g2 w1=>∃(a0:Nat) (c:PC) (s:PlS),g2=(a0:Int)/\n=400 - a0/\MlV BI 284 w1 w.heap.size a4 S0 c G P old s/\Mv w.heap.size a4 c0 w7 c w1/\PInv G s a0/\(∀u∈s.done,u.src<a0)/\DK I s/\s.done.length<=a0*128/\a0<=s.dirs.length/\∀code t,DirsR I a0 s code t->DirsR I 0 pl0 code t) 400
   ⟨0,c0,pl0,rfl,rfl,h1,Mv.of xR h1.lo_le,PInv.start h7.pos,(λu hu=>by cases hu),VP oM,fl _,gl _,λ_ _ h=>h⟩ λn g2 w8 m1 ⟨a0,c,s,hv,hn,h8,m8,d3,f9,f8,j7,k5,d8⟩ i2=>?_
  subst hv;have l6:s.dirs.length<=257:=by have:=f8.2;omega
  have k8:c.dr.len=s.dirs.length:=Fm (h8.read oM ⟨by show _*32<=Ab;unfold Ab;omega,by rw[Ak];omega⟩);obtain⟨j4,j1,j2,j3⟩:=keep m8;refine⟨c.dr,h8.box.at1 (k:=7) xR rfl,λl0=>?_,λk9=>?_⟩
  .have a9:a0<s.dirs.length:=oM;have f5:nodeAt s.dirs a0<G.length:=(by rw[EA (dt a9)];exact d3.node _ (fg a9));have l5:(Cb I.g (nodeAt s.dirs a0)).length<=128:=(by rw[Ve,e5];have:=a8.edges_le (nodeAt s.dirs a0);have:=a8.len;omega);refine SE.Le.go (Zgh hI h8 a8 d3 a9 rfl f5 d2 oM j2 j3 f8 f9 (λc' w' s' c3 h' m'=>⟨0,rfl,λh=>absurd rfl h,λ_=>?_⟩) λc' w' code t hc he m'=>⟨code,rfl,λ_=>fin (m8.trans m') xR (.stop ⟨e4,d2,e6,e7⟩ hO a8 (by rw[hI];exact d8 code t (.stop a9 he hc)) hc) (SlR.nil trivial),λh=>absurd hc h⟩);obtain⟨e9,_⟩:=c3.node a9;have g9:=c3.cnt;have h6:=c3.done;have b7:=c3.inv;rw[e5]at b7;simp only[gz,jz]at g9;refine i2 (400 - (a0+1)) _ w' oM ⟨a0+1,c',s',?_,rfl,h',m8.trans m',b7.next,λu hu=>by have:=(b7.src u hu).1;omega,c3.small,oM,e9,λcode t ht=>d8 code t (.next a9 h6 ht)⟩;rw[Ag oM oM];omega
  .have d7:DirsR I 0 pl0 0 s:=d8 0 s (.fin oM);obtain⟨DD,o,j9,k0,g3⟩:=h8.dr;have e0:∀d∈s.dirs,d.path.length<=257:=λd hm=>(by obtain⟨i,hi⟩:=jf hm;have:=d3.plen i d hi;have:=(fe.1 hi).1;omega);refine⟨c.dr,h8.box.at1 (k:=7) xR rfl,?_⟩;refine Ziv o h8.lo_le (by rw[dx];omega) (λd hd=>?_) ZQ (λw' S' x y hx hy=>Zh5 hx hy) λl' w2 hp hs bel oth i6=>⟨rfl,c.dr,?_,?_⟩
   .obtain⟨b,hb,rfl⟩:=gu.1 hd;have:=e0 b hb;show b.path.length<=_;omega
   .have:BoxAt w2 a4 c.c:=h8.box.keep (S:=λb=>∀ad,c.dr.a=some ad->b≠ad.block) (λad ha e=>(h8.drP ad ha).1 e.symm) λb hb hl=>oth b hl hb;exact this.at1 (k:=7) xR rfl
   .have f4:∀ad,c.dr.a=some ad->a3.block≠ad.block:=λad ha=>by
     obtain q|q:=m8.dr ad ha
     .have:=(c8 ad q).1;omega
     .omega
    have g1:BoxAt w2 a3 [Sl.nil.v]:=j1.keep (S:=λb=>∀ad,c.dr.a=some ad->b≠ad.block) f4 λb hb hl=>oth b hl hb;have i7:SortedD s.dirs (l'.map AD):=by
     refine⟨?_,?_⟩
     .have:=hp.map AD;rwa [NJ]at this
     .rw[ir];exact hs
    have h9:(l'.map AD).map (AX P)=l':=by
     rw[iy]
     conv=>rhs;rw[<-List.map_id l']
     refine mw λx hx=>?_;obtain⟨b,_,rfl⟩:=gu.1 (hp.mem_iff.1 hx);show AX P (AD (AX P b))=_;rw[T3];rfl
    have i3:PlaceR G P old D M 0 l':=by have:=PlaceR.ok (old:=old) (D:=D) (M:=M) ⟨e4,d2,e6,e7⟩ hO a8 (by rw[hI];exact d7) i7;rwa [h9]at this
    have l7:=Below.size bel;refine stw0.intro g1 sI λw3 b3 j0 d5=>⟨c.dr,d5.ldc.pre (r:=[]) rfl,hR 0 l' c.dr w3 (b3.ext (j4.trans' bel) oM) i3 ?_⟩;refine(i6.but b3 λhb=>?_).mono λb hb=>?_
    .rcases hb with hb|⟨ad,ha,e⟩
     .obtain q|q:=g3 _ hb
      .have:=hS _ q;omega
      .omega
     .exact f4 ad ha e
    .have:=b3.1;rcases hb with hb|⟨ad,ha,rfl⟩
     .have:=o.lt b hb;omega
     .have:=(o.block ha).2.1;omega
 refine⟨λb6=>?_,λb6=>c9 0 w3 xR λh=>by rw[b6]at h;cases h⟩;refine SE.Ja.go (W6 (ht.ext a6) (g5 b6) (λd hd=>?_) λw4 x4=>⟨_,rfl,c9 _ w4 x4 λ_=>rfl⟩);rcases a5 with⟨_,h2⟩|⟨h1,_⟩
 .exact hb T0 h2 d hd
 .rw[h1]at b6;cases b6
def OR{a b c:Bool}(h:a=true->b=c):(a&&b)=(a&&c):=by
 cases a
 .rfl
 .rw[h rfl]
def ewithin_se{n m:Int}(hR:R (decide (1<=n)&&decide (n<=m)) w):SE.GL n m w R:=bound hR
def emay_se{P:Int}(hR:∀b w',Ext w w'->(b=true↔Em D N Di P)->R b w'):SE.JO D N Di P w R:=by unfold SE.JO;refine newS.intro λa w1 x1 ha _ _=>⟨D,ha.at0 xR rfl,SE.GL.go (ewithin_se ⟨_,rfl,N,λ_=>ha.at1 (k:=1) xR rfl,?_⟩)⟩;refine gCall.intro (decide (1<=N)&&decide (N<=128)) (λ_ q hq=>SE.GL.go (ewithin_se ⟨_,rfl,hq _ xR⟩)) λa6 w2 x2 a0=>bound ⟨Di,λ_=>ha.at1 (k:=2) x2 rfl,?_⟩;refine gCall.intro (decide (1<=Di)&&decide (Di<=256)) (λ_ q hq=>SE.GL.go (ewithin_se ⟨_,rfl,hq _ xR⟩)) λa7 w3 x3 a4=>bound ⟨P,λ_=>ha.at1 (k:=3) (r:=[]) (x2.trans x3) rfl,?_⟩;refine gCall.intro (decide (1<=P)&&decide (P<=1024)) (λ_ q hq=>SE.GL.go (ewithin_se ⟨_,rfl,hq _ xR⟩)) λa8 w4 x4 a5=>hR _ w4 (x1.trans (x2.trans (x3.trans x4))) ?_;rw[OR a5,OR a4,OR a0];unfold Em EZ;simp only[dz,decide_eq_true_eq,and_assoc]
structure PkC where
 nm:Bs
 v:Ver
 d:Sl
 e:Sl
 o:Sl
def C6(x:PkC):LV:=[.string x.nm,vi x.v.ma,vi x.v.mi,vi x.v.pa,x.d.v,x.e.v,x.o.v]
def Dj:PkC:=⟨⟨#[]⟩,⟨0,0,0⟩,Sl.nil,Sl.nil,Sl.nil⟩
def Zd3(n:Nat):(madeCells (Value.agg (C6 Dj).toArray).cells (n*7))=(((List.replicate n Dj).map C6).flatten).toArray:=by
 have hf:∀x:PkC,(C6 x).length=7:=λ_=>rfl;unfold madeCells;have hc:(Value.agg (C6 Dj).toArray).cells=(C6 Dj).toArray:=rfl;rw[hc];apply Array.ext
 .simp[CC C6 hf,hf]
 .intro i h1 h2;have hi:i<n*7:=by simpa using h1
  have hq:i/7<n:=oM;have hm:i%7<7:=Nat.mod_lt _ dC;simp only[Array.getElem_map,Array.getElem_range,List.getElem_toArray];have e:∀(n i:Nat),i<n*7->(((List.replicate n Dj).map C6).flatten)[i]?=(C6 Dj)[i%7]? :=λn=>by
   induction n with
   |zero=>intro i h;omega
   |succ n ih=>
    intro i h;rw[qb,ib,jc];by_cases hl:i<7
    .rw[fu (by rw[hf];exact hl),Nat.mod_eq_of_lt hl]
    .rw[gq (by rw[hf];omega),hf,ih (i - 7) oM];congr 1;omega
  have e1:=e n i hi;have h7:(C6 Dj).toArray.size=7:=rfl;rw[h7];rw[dt (by simpa using h2),dt (by rw[hf];exact hm),ep]at e1;rw[e1,getElem!_pos _ _ (by rw[h7];exact hm)];rfl
def Zca:(prog.info? 59).map (λi=>(i.zero,i.size,i.bytes))=some (some (.agg (C6 Dj).toArray),7,112):=kR
def Zd5{R:Sl->Wp}(hn:n<=1000000000)(hR:∀g w',Ext w w'->g=w.heap.size->RowB C6 w' g (List.replicate n Dj) []->R ⟨some ⟨g,0,none⟩,n,n⟩ w'):
  semS prog (Instr.makeSlice 22 (Value.int .i64 (n:Int)) (Value.int .i64 (n:Int))) w λv w'=>∃t:Sl,v=t.v/\R t w':=by
 obtain⟨i,h2,hi⟩:=jh.1 Zca;simp only[Prod.mk.injEq]at hi;obtain⟨h3,h5,h6⟩:=hi;refine⟨_,_,run_make w 22 59 i (.agg (C6 Dj).toArray) underlying22 h2 h3 .i64 .i64 n n oM (mo _) (by rw[h6];omega) oM,⟨some ⟨w.heap.size,0,none⟩,n,n⟩,by simp[Sl.v],?_⟩;refine newS.intro (cs:=((List.replicate n Dj).map C6).flatten++[]) (t:=59) (k:=λa w'=>R ⟨some a,n,n⟩ w') (λa w' hx hb ha hs=>?_) _ _ rfl ?_
 .have a4:=hb;obtain⟨t,h0,a0,_⟩:=a4;obtain⟨b,o,s⟩:=a;simp only at h0 a0 ha;subst h0 a0;exact hR b w' hx ha hb
 .rw[gc,<-Zd3,ec,h5]
def Zg0{α:Type}{c:Nat->α}{y:α}:((List.range n).map c).set i y=(List.range n).map λj=>if j=i then y else c j:=by
 apply ph sI;intro j h1 h2;rw[List.getElem_set,nc,nc,List.getElem_range];by_cases h:i=j
 .rw[if_pos h,if_pos h.symm]
 .rw[if_neg h,if_neg λe=>h e.symm]
def TI{SC S0:Nat->Prop}{cp:Addr}{r:Nat}{u:Sl}{R:Sl->Wp}(b7:CatL w SC cp r L)(hg:SlR nodeE w S0 u G)(hG:G.length<=1000000000)
  (hR:∀t w',Ext w w'->SlR packE w' (λb=>w.heap.size<=b/\b<w'.heap.size) t (CP L G)->R t w'):SE.HZ u (some cp) w R:=by
 unfold SE.HZ;have c6:=hg.len;refine newS.intro λa w1 x1 ha _ _=>⟨u,ha.at0 (r:=[]) xR rfl,?_⟩;rw[c6];refine Zd5 hG λg w2 x2 d4 a7=>⟨u,ha.at0 (r:=[]) x2 rfl,?_⟩;have d2:=x1.trans x2;have s1:=x1.size;have s2:=x2.size;have lg:=a7.lt;generalize b4:CP L G=P at*;have c4:P.length=G.length:=by rw[<-b4,Vl]
 have b5:∀i (hi:i<G.length),P[i]?=some (if i=0 then Az else getD L G[i].name G[i].v):=λi hi=>by rw[<-b4];exact Vk hi
 let Q:Wd->Nat->Prop:=λw' b=>w.heap.size<=b/\b<w'.heap.size/\b≠g;refine loop1.up hg.max (λi w'=>∃c:Nat->PkC,Ext w w'/\w2.heap.size<=w'.heap.size/\RowB C6 w' g ((List.range G.length).map c) []/\∀j,j<G.length->packE.rep w' (Q w') (if j<i then P.getD j Az else Az) (C6 (c j)))
  ⟨λ_=>Dj,d2,fl _,?_,λj _=>?_⟩ λi w3 d7 hi ⟨c,a4,d8,b0,a9⟩ hn=>⟨λc9=>join.named λJ hJ=>?_,λd5=>?_⟩
 .have:(List.range G.length).map (λ_=>Dj)=List.replicate G.length Dj:=by apply ph sI;intro j h1 h2;simp
  rw[this];exact a7
 .rw[if_neg (Nat.not_lt_zero _)];exact Zl4
 .have a0:i<G.length:=oM;obtain⟨ad,cs,es,c5,d6,_,_,c8⟩:=Cj (hg.ext a4) a0;refine⟨ad,⟨c5,oM,c9⟩,_,_,_,_,cs,es,by rw[ec];exact c8 _ xR,newS.set rfl λa6 w4 x4 h6 d3=>⟨λh0=>?_,λh0=>?_⟩⟩
  all_goals have s4:=x4.size
  .have a8: ¬i=0:=oM;refine⟨_,h6.at0 xR rfl,_,_,_,h6.at1 (k:=1) xR rfl,?_⟩;refine SE.Fi.go (J5 (n:=G[i].name) (v:=G[i].v) (b7.ext (a4.trans x4)) λd e o w5 x5 hN hd he ho=>⟨_,_,_,_,d,e,o,_,rfl,⟨g,0,none⟩,⟨rfl,oM,by show(i:Int)<(G.length:Int);omega⟩,?_⟩);have s5:=x5.size;have b2:=x4.trans x5;have d0:=b0.ext b2;rw[ec];refine d0.st (k:=7) (x:=⟨(getD L G[i].name G[i].v).name,(getD L G[i].name G[i].v).v,d,e,o⟩) (λ_=>rfl) (by simpa using a0) λw6 b6 b9=>?_;rw[Zg0]at b9;rw[hJ];have z6:=b6.1;refine hn a0 w6 ⟨_,b6.ext (a4.trans b2) oM,oM,b9,λj hj=>?_⟩;have c3:∀{p:Pack} {cs:LV},packE.rep w5 (Q w5) p cs->packE.rep w6 (Q w6) p cs:=λh=>packE.mono (packE.keep h (b6.keep λh=>h.2.2 rfl)) λb hb=>⟨hb.1,by have:=hb.2.1;omega,hb.2.2⟩;by_cases b8:j=i
   .subst b8;rw[if_pos rfl,if_pos (na _)];have:P.getD j Az=getD L G[j].name G[j].v:=by rw[kh,b5 j hj,if_neg a8];rfl
    rw[this];have up:∀{tt:Sl} {l:LD},SlP depP w5 (λb=>w4.heap.size<=b/\b<w5.heap.size) tt l->SlR depE w5 (Q w5) tt l:=λh=>h.dep.mono λb hb=>⟨oM,hb.2,oM⟩;exact c3 ⟨hN,d,e,o,rfl,up hd,up he,up ho⟩
   .rw[if_neg b8];have h1:packE.rep w5 (Q w5) _ (C6 (c j)):=packE.mono (packE.keep (a9 j hj) (b2.keep _)) λb hb=>⟨hb.1,by have:=hb.2.1;omega,hb.2.2⟩;have:=c3 h1;by_cases a5:j<i
    .rw[if_pos a5]at this;rw[if_pos oM];exact this
    .rw[if_neg a5]at this;rw[if_neg oM];exact this
  .have a8:i=0:=oM;rw[hJ];refine hn a0 w4 ⟨c,a4.trans x4,oM,b0.ext x4,λj hj=>?_⟩;have h1:packE.rep w4 (Q w4) _ (C6 (c j)):=packE.mono (packE.keep (a9 j hj) (x4.keep _)) λb hb=>⟨hb.1,by have:=hb.2.1;omega,hb.2.2⟩;by_cases c7:j=0
   .subst c7 a8;rw[if_neg (Nat.lt_irrefl 0)]at h1;rw[if_pos (na _)];have:P.getD 0 Az=Az:=by rw[kh,b5 0 hj,if_pos rfl];rfl
    rw[this];exact h1
   .rw[if_neg oM]at h1;rw[if_neg oM];exact h1
 .have a0:i=G.length:=oM;subst a0;have hz:((List.range G.length).map λj=>(c j,P.getD j Az)).map Prod.fst=(List.range G.length).map c:=by rw[iy];rfl
  have d1:((List.range G.length).map λj=>(c j,P.getD j Az)).map Prod.snd=P:=by rw[iy];apply ph (by simp[c4]);intro j h1 h2;simp[dt h2]
  have:=RowB.read (E:=packE) (S:=Q w3) (cap:=G.length) (z:=(List.range G.length).map λj=>(c j,P.getD j Az)) (by rw[hz];exact b0) (λ_=>rfl) (λp hp=>by obtain⟨j,hj,rfl⟩:=gu.1 hp;have hj:=mh.1 hj;have:=a9 j hj;rw[if_pos hj]at this;exact this) sI (by rw[Ak];omega) (by simp;show _*112<=Ab;unfold Ab;omega);rw[d1]at this;simp only[dx,List.length_range]at this;refine hR _ w3 a4 (this.mono λb hb=>?_);obtain hb|rfl:=hb
  .exact⟨hb.1,hb.2.1⟩
  .exact⟨oM,oM⟩
end Go.Hal
namespace Go.Hal
open Go.MapKept
def intCmd:KeyT prog 82 Ip .nilFunc where
 und:=⟨3,80,underlying82,(λw=>kR),λk ⟨x,h⟩ e w=>by subst h;exact run_checkKey (d:=.int .i64) (k:=.int .i64 x) underlying3 rfl e 9999,λk ⟨x,h⟩ l hl w=>by
  subst h;rcases findNow_spec (d:=.int .i64) (k:=.int .i64 x) rfl l 0 (λy hy=>by obtain⟨t,ht⟩:=hl y hy;rw[ht];rfl)with⟨h1,h2⟩|⟨j,e,h1,h2,h3⟩
  .exact .inl ⟨h2,run_findKey underlying3 h1⟩
  .exact .inr ⟨j,e,h2,h3,run_findKey underlying3 (by rw[kd]at h1;exact h1)⟩⟩
 stay:=λk ⟨x,h⟩=>by subst h;exact sameBits_self (d:=.int .i64) (k:=.int .i64 x) rfl _
def fV(n:FuncId):Value:=.func (.func n) #[] #[]
def DN:List (Value×Value):=[(.int .i64 2,fV 48),(.int .i64 3,fV 49),(.int .i64 4,fV 50),(.int .i64 5,fV 51),(.int .i64 6,fV 52),(.int .i64 7,fV 53),(.int .i64 8,fV 54)]
def ecmds_se{R:Option Nat->Wp}(hR:∀r w',Ext w w'->MapR Ip w' r DN->R (some r) w'):SE.JK w R:=by
 unfold SE.JK;refine NH (K:=Ip) λr w1 x1 a0 h1=>⟨some r,rfl,?_⟩;have ne:∀{m:List (Value×Value)} {k:Int},(∀p∈m,∃i:Int,p.1= .int .i64 i/\i≠k)->∀p∈m,p.1≠Value.int .i64 k:=λh p hp e=>by obtain⟨i,h1,h2⟩:=h p hp;rw[h1]at e;cases e;exact h2 rfl
 have k0:∀i:Int,Ip (.int .i64 i):=λi=>⟨i,rfl⟩;refine ET intCmd h1 (k0 2) (ne sI) λw2 b2 _ h2=>ET intCmd h2 (k0 3) (ne sI) λw3 b3 _ h3=>ET intCmd h3 (k0 4) (ne sI) λw4 b4 _ h4=>ET intCmd h4 (k0 5) (ne sI) λw5 b5 _ h5=>ET intCmd h5 (k0 6) (ne sI) λw6 b6 _ h6=>ET intCmd h6 (k0 7) (ne sI) λw7 b7 _ h7=>ET intCmd h7 (k0 8) (ne sI) λw8 b8 _ h8=>?_;have b:But r w1 w8:=b2.trans (b3.trans (b4.trans (b5.trans (b6.trans (b7.trans b8)))));exact hR r w8 (b.ext x1 oM) h8
section
variable {s:Stt} {x:StepC} {d e o v gS tS:Sl} {S:Nat->Prop} {w:Wd}
def Zq{r:Nat}{w0:Wd}{K:Value->Wp}{J:Value->Bool->Prop}(hM:MapR Ip w0 r DN)(a9:Ext w0 w)(hg:Gl w)(hn:Ac x.name)(hm:ManS w S d e o v s.m)(hS:Old S w)(hl:Jl s.m)(a6:MJ s.m)(hG:SlR nodeE w S gS s.g)(a5:s.g≠[])
  (a7:∀f,(x.op<2\/8<x.op)->Cv prog (Instr.lookup 82 (.map (some r)) (.int .i64 x.op) true) w0 (.tuple #[f,.bool false])->J f false)
  (a0:∀f,Cv prog (Instr.lookup 82 (.map (some r)) (.int .i64 x.op) true) w0 (.tuple #[f,.bool true])->(EY s x S w (λd e o v p k pr c w'=>K (.tuple #[.agg #[d.v,e.v,o.v,v.v,p.v,.bool k,.bool pr],vi c]) w')->callV prog f [.agg #[d.v,e.v,o.v,v.v,gS.v,tS.v,.bool s.pruned],.agg #[vi x.op,.string x.name,.string x.range,vi x.kind,.string x.pack,vi x.n]] w K)->J f true):
  ∃f ok,J f ok:=by
 have hk:Ip (.int .i64 x.op):=⟨_,rfl⟩;have a4:∀{g:FuncId},(.int .i64 x.op,fV g)∈DN->Cv prog (Instr.lookup 82 (.map (some r)) (.int .i64 x.op) true) w0 (.tuple #[fV g,.bool true]):=λh=>Qi intCmd hM hk h;by_cases a8:x.op<2\/8<x.op
 .refine⟨_,_,a7 .nilFunc a8 (lookup_no intCmd hM hk λp hp he=>?_)⟩;have:∃i:Int,p.1= .int .i64 i/\2<=i/\i<=8:=by unfold DN at hp;simp only[ga,List.not_mem_nil,or_false]at hp;rcases hp with rfl|rfl|rfl|rfl|rfl|rfl|rfl<;>exact⟨_,rfl,by decide,by decide⟩
  obtain⟨i,h1,h2,h3⟩:=this;rw[h1]at he;injection he with _ he;omega
 .have h7:x.op=2\/x.op=3\/x.op=4\/x.op=5\/x.op=6\/x.op=7\/x.op=8:=oM;obtain h|h|h|h|h|h|h:=h7
  .exact⟨_,_,a0 (fV 48) (a4 (by rw[h];unfold DN;simp)) λhK=>⟨_,_,rfl,enters_of func48 kR rfl,SE.JM.go (Z3 hm hS h hK)⟩⟩
  .exact⟨_,_,a0 (fV 49) (a4 (by rw[h];unfold DN;simp)) λhK=>⟨_,_,rfl,enters_of func49 kR rfl,SE.JJ.go (Zo hg hn hm hS hl a6 hG a5 h hK)⟩⟩
  .exact⟨_,_,a0 (fV 50) (a4 (by rw[h];unfold DN;simp)) λhK=>⟨_,_,rfl,enters_of func50 kR rfl,SE.JS.go (Zaf hn hm hS hl hG a5 h hK)⟩⟩
  .exact⟨_,_,a0 (fV 51) (a4 (by rw[h];unfold DN;simp)) λhK=>⟨_,_,rfl,enters_of func51 kR rfl,SE.JT.go (Zag hn hm hS hG a5 h hK)⟩⟩
  .exact⟨_,_,a0 (fV 52) (a4 (by rw[h];unfold DN;simp)) λhK=>⟨_,_,rfl,enters_of func52 kR rfl,SE.JL.go (Zr hm hS hG a5 h hK)⟩⟩
  .exact⟨_,_,a0 (fV 53) (a4 (by rw[h];unfold DN;simp)) λhK=>⟨_,_,rfl,enters_of func53 kR rfl,SE.JQ.go (ZZ hm hS hG a5 h hK)⟩⟩
  .exact⟨_,_,a0 (fV 54) (a4 (by rw[h];unfold DN;simp)) λhK=>⟨_,_,rfl,enters_of func54 kR rfl,SE.JP.go (ZY hg hn hm hS hl a6 hG a5 h hK)⟩⟩
end
abbrev DR:Type:=Sl->Sl->Sl->Sl->Sl->Sl->Bool->Int->Int->Int->Int->Wp
def Xi(w:Wd)(a5 a7:Addr)(R:DR):Prop:=∃(d e o v g t:Sl) (pr:Bool),ldc w a5 [d.v,e.v,o.v,v.v,g.v,t.v,.bool pr]/\∃(c n q r:Int),ldc w a7 [vi c,vi n,vi q,vi r]/\R d e o v g t pr c n q r w
def Xh(w:Wd)(a a5 a7:Addr)(c:Int)(R:DR):Prop:=callS prog 16 [vi c,.pointer (some a)] w λx w'=>∃(d e o v g t:Sl) (pr:Bool) (c1 n q r:Int),x= .tuple #[.agg #[d.v,e.v,o.v,v.v,g.v,t.v,.bool pr],.agg #[vi c1,vi n,vi q,vi r]]/\
 stw w' a5 [d.v,e.v,o.v,v.v,g.v,t.v,.bool pr] λw1=>stw w1 a7 [vi c1,vi n,vi q,vi r] λw2=>Xi w2 a5 a7 R
section
variable {s:Stt} {x:StepC} {d e o v gS tS:Sl} {S:Nat->Prop} {w:Wd}
def TL{c:Int}{R:DR}(hS:Old S w)(hs:SttS w S d e o v gS tS s)(ha:BoxAt w a [d.v,e.v,o.v,v.v,gS.v,tS.v,.bool s.pruned])
  (hR:∀d' e' o' v' g' t' w',Ext w w'->SttS w' (λb=>w.heap.size<=b/\b<w'.heap.size) d' e' o' v' g' t' s->R d' e' o' v' g' t' s.pruned c 0 0 0 w'):SE.HX c a w R:=by
 unfold SE.HX;refine newS.intro λa1 w1 x1 h1 a4 _=>newS.intro λa2 w2 x2 h2 a5 _=>⟨d,e,o,v,gS,tS,s.pruned,ha.at0 (r:=[]) (x1.trans x2) rfl,?_⟩;have a0:=x1.trans x2;refine SE.KU.go (Zfn (s:=s) (hS.ext a0.size) (hs.ext a0) λd' e' o' v' g' t' w3 x3 h3=>⟨d',e',o',v',g',t',s.pruned,rfl,stw0.intro (h1.ext (x2.trans x3)) sI λw4 b4 _ h4=>stw0.intro (b4.box (h2.ext x3) (by have:=h1.lt;omega)) sI λw5 b5 _ h5=>?_⟩);have s1:=x1.size;have s2:=x2.size;have s3:=x3.size;have z4:=b4.1;have z5:=b5.1;have l1:=h1.lt;have l2:=h2.lt;refine⟨d',e',o',v',g',t',s.pruned,(b5.box h4 oM).at0 (r:=[]) xR rfl,_,_,_,_,h5.at0 (r:=[]) xR rfl,hR d' e' o' v' g' t' w5 (b5.ext (b4.ext (a0.trans x3) oM) oM) ?_⟩;exact((h3.but b4 λh=>by omega).but b5 λh=>by omega).mono λb hb=>by omega
def TC{SC:Nat->Prop}{cp:Addr}{r:Nat}{P:Int}{R:DR}
  (hg:Gl w) (hn:Ac x.name) (hS:Old S w) (hs:SttS w S d e o v gS tS s) (e1:CatL w SC cp r L) (hb:∀d∈s.T,d.path.length<=4000000000000)
  (hR:∀(A:AnsC) (t:Stt) d' e' o' v' g' u' w',Ext w w'->(∃rr,RgOf x.range rr/\DoR L s x rr D N Di P A t)->SttS w' (λb=>b<w'.heap.size) d' e' o' v' g' u' t->R d' e' o' v' g' u' t.pruned A.code A.dec A.nodes A.dirs w'):
  SE.Fo d e o v gS tS s.pruned (some cp) x.op x.name x.range x.kind x.pack x.n D N Di P w R:=by
 classical
 unfold SE.Fo;refine newS.intro λa w1 x1 ha u1 _=>newS.intro λa1 w2 x2 h1 t7 _=>newS.intro λa3 w4 x4 h3 t8 _=>newS.intro λa5 w6 x6 h5 t9 _=>newS.intro λa7 w8 x8 h7 u0 _=>?_;have k6:=x4.trans (x6.trans x8);have f5:=x2.trans k6;have b0:=x1.trans f5;have s1:=x1.size;have s2:=x2.size;have s4:=x4.size;have s6:=x6.size;have s8:=x8.size;have ab:=ha.lt;have t0:=h1.lt;have t3:=h3.lt;have t4:=h5.lt;have t5:=h7.lt;obtain⟨r0,j6⟩:=RgOf.ex x.range;have nS:∀{b:Nat},w.heap.size<=b-> ¬S b:=λh hb=>by have:=hS _ hb;omega
 have refuse:∀{w':Wd} {c:Int},Ext w8 w'->(∃rr,RgOf x.range rr/\DoR L s x rr D N Di P ⟨c,0,0,0⟩ s)->Xh w' a a5 a7 c R:=λ{w' c} hx hd=>by have q:=hx.size;refine SE.HX.go (TL (hS.ext (b0.trans hx).size) (hs.ext (b0.trans hx)) (ha.ext (f5.trans hx)) λd' e' o' v' g' t' w9 x9 h9=>⟨d',e',o',v',g',t',s.pruned,c,0,0,0,rfl,?_⟩);have q9:=x9.size;refine stw0.intro (h5.ext (x8.trans (hx.trans x9))) sI λn4 g1 _ o7=>stw0.intro (g1.box (h7.ext (hx.trans x9)) oM) sI λn5 g2 _ o8=>?_;have v8:=g1.1;have v9:=g2.1;refine⟨d',e',o',v',g',t',s.pruned,(g2.box o7 oM).at0 (r:=[]) xR rfl,c,0,0,0,o8.at0 (r:=[]) xR rfl,?_⟩;exact hR ⟨c,0,0,0⟩ s d' e' o' v' g' t' n5 (g2.ext (g1.ext ((b0.trans hx).trans x9) oM) oM) hd (((h9.but g1 λh=>by omega).but g2 λh=>by omega).mono λb hb=>by omega)
 refine bound ⟨D,N,Di,P,λ_=>(h3.ext (x6.trans x8)).at0 (r:=[]) xR rfl,gCall.intro (decide (Em D N Di P)) (λ_ k hk=>SE.JO.go (emay_se λb w' hx p5=>⟨b,rfl,?_⟩)) λv7 w9 x9 ht=>⟨λhc=>?_,λhc=>?_⟩⟩
 .have:b=decide (Em D N Di P):=by rw[gn,p5,decide_eq_true_iff]
  rw[this];exact hk w' hx
 .have ht:=ht rfl;subst ht;exact refuse x9 ⟨r0,j6,.arg λhh=>by simp[hh.1]at hc⟩
 have ht:=ht rfl;subst ht;have c3:Em D N Di P:=by simpa using hc
 clear hc;have h2:=b0.trans x9;have d6:=hs.ext h2;refine⟨d,e,o,v,gS,tS,s.pruned,(ha.ext (f5.trans x9)).at0 (r:=[]) xR rfl,SE.Kx.go (Za5 (m:=s.m) (T:=s.T) (g:=s.g) (pr:=s.pruned) (hg.ext h2).tab (hS.ext h2.size) d6.m.d d6.m.e d6.m.o d6.m.v (hS.ext h2.size) d6.t d6.g hb (λt l n4 k5 b8 _ _ _=>⟨_,_,rfl,λh=>absurd rfl h,λ_=>bnd.drew λn5 r5=>?_⟩) λn4 k5 p9=>⟨_,_,rfl,λ_=>refuse (x9.trans k5) ⟨r0,j6,.arg λh=>p9 h.2⟩,λh=>absurd dC h⟩)⟩;have b8:SttOk s:=b8;obtain⟨j5,m3⟩:=Zd8 b8.mani;have p8:s.g≠[]:=λhh=>by have:=b8.lock.len.1;rw[hh]at this;simp at this
 obtain⟨q4,q2⟩:=PinsAre.ex s.g;have f7:=x9.trans (k5.trans r5);have s7:=b0.trans f7;refine⟨x.op,(h1.ext (k6.trans f7)).at0 xR rfl,callX.intro (SE.JK.go (ecmds_se λrm n7 o5 hM=>⟨o5,some rm,rfl,?_⟩))⟩;have b7:=f7.trans o5;have f2:=b0.trans b7;have i4:=hs.ext f2;have s0:=b7.size;refine Zq (s:=s) (x:=x) (w:=n7) (S:=S) (J:=λf ok=>_) hM xR (hg.ext f2) hn i4.m (hS.ext f2.size) j5 m3 i4.g p8 (λf q1 j7=>⟨j7,λ_=>refuse b7 ⟨r0,j6,.ask (j:=B1) c3 b8 q2 (.op q1) dC⟩,nO⟩) λf j7 j4=>⟨j7,λh=>(by cases h),λ_=>⟨d,e,o,v,gS,tS,s.pruned,(ha.ext (f5.trans b7)).at0 (r:=[]) xR rfl,_,_,_,_,_,_,(h1.ext (k6.trans b7)).at0 (r:=[]) xR rfl,j4 λc j d' e' o' v' pt k pr r1 o6 b6 m2=>⟨d',e',o',v',pt,k,pr,c,rfl,newS.set rfl λt1 j8 h4 g3 r7=>⟨λhc=>?_,λhc=>?_⟩⟩⟩⟩
 all_goals
  obtain⟨pins,rr,g7,g8,b6⟩:=b6;have c7:=(b7.trans o6).trans h4
 .exact refuse c7 ⟨rr,g8,.ask c3 b8 g7 b6 hc⟩
 have g6:c=0:=iq hc;subst g6;obtain⟨k1,k2,k3,k4⟩:=m2 rfl;subst k3 k4;have u4:=o6.size;have u6:=h4.size;have s3:=c7.size;have i6:=b0.trans c7;let S2:=λb=>S b\/(n7.heap.size<=b/\b<r1.heap.size);have hO:Old S2 j8:=λb hb=>hb.elim (λh=>by have:=hS b h;omega) λh=>by omega
 have e7:=k1.ext h4;refine⟨d',e',o',v',g3.at0 xR rfl,j.pruned,g3.at1 (k:=6) (r:=[]) xR rfl,pt,g3.at1 (k:=4) xR rfl,D,N,Di,P,(h3.ext (x6.trans (x8.trans c7))).at0 (r:=[]) xR rfl,SE.IC.go (Zh4 (hg.ext i6).tab hO (e1.ext i6) e7.d e7.e e7.o e7.v (k2.ext h4) λa0 n8 k7 m0=>⟨a0,_,_,rfl,newS.set rfl λg0 f0 h6 g4 r8=>⟨λhc=>?_,λhc=>?_⟩⟩)⟩
 all_goals
  have c8:=(c7.trans k7).trans h6
 .exact refuse c8 ⟨rr,g8,.find c3 b8 g7 b6 hc⟩
 have g6:(A9 L j.m (!j.pruned) j.pins D N).code=0:=iq hc;have v0:=h6.size;have u9:=k7.size;have s5:=c8.size;have o4:=b0.trans c8;have d3:Ext j8 f0:=k7.trans h6;have e0:=g3.ext d3;generalize a8:A9 L j.m (!j.pruned) j.pins D N=rs at*;have m1:rs.ns.length<=1000000000:=by rw[<-a8];exact Zhg _ _ _ _ _ _
 have e4:SlR nodeE f0 (λb=>j8.heap.size<=b/\b<n8.heap.size) a0 rs.ns:=m0.ext h6;generalize e5:(if j.keep then some s.T else none)=d4;have p6:∀T,d4=some T->∀d∈T,d.path.length<=4000000000000:=λT h=>by
  rw[<-e5]at h;split at h
  .cases h;exact hb
  .cases h
 refine join.named λJ hJ=>?_;have key:∀(old:Option Addr),OldR f0 (λb=>b<n8.heap.size) d4 old->J old f0:=by
  subst hJ;intro old q0;refine join.named λJ2 l6=>bnd.drew λf1 c5=>?_;have f8:=c8.trans c5;have f4:=b0.trans f8;have v3:=c5.size;have d9:ldc f1 g0 [a0.v]:=(g4.ext c5).at0 (r:=[]) xR rfl;have e6:∀(c:Int)(T:List Dir)(t:Sl)(d5:Addr)(w':Wd),Ext f1 w'->f1.heap.size<=d5.block->PlaceR rs.ns (CP L rs.ns) d4 Di P c T->SlR dirE w' (λb=>b<w'.heap.size) t T->BoxAt w' d5 [t.v]->J2 c d5 w':=by
   subst l6;intro c T t d5 r2 k8 u2 c4 j3 l9;have i7:=f8.trans k8;refine⟨λhc=>refuse i7 ⟨rr,g8,.place c3 b8 g7 b6 (by rw[a8];exact g6) (by rw[a8,e5];exact c4) hc⟩,λhc=>?_⟩;have p7:c=0:=iq hc;subst p7;refine join.named λJ3 l7=>bnd.drew λh0 d8=>?_;have i9:=i7.trans d8;have s9:=b0.trans i9;have b2:=c5.trans (k8.trans d8);have v4:=k8.size;have v5:=d8.size;have i3:Old S2 h0:=hO.ext (d3.trans b2).size;have m6:=e7.ext (d3.trans b2);have i5:∀(out:Addr)(d2 e2 o2 v2:Sl)(w':Wd),Ext h0 w'->h0.heap.size<=out.block->ManS w' (λb=>h0.heap.size<=b/\b<w'.heap.size/\b≠out.block) d2 e2 o2 v2 j.m->BoxAt w' out [d2.v,e2.v,o2.v,v2.v,a0.v,t.v,.bool j.pruned]->J3 out w':=by
    subst l7;intro out d2 e2 o2 v2 n9 b4 r9 e3 l8;refine join.named λJ4 p0=>bnd.drew λb5 h8=>?_;have b9:=b4.trans h8;have f9:=i9.trans b9;have f6:=b2.trans b9;have m7:=b4.size;have v6:=h8.size;have q5:=h5.ext (x8.trans f9);have q7:=h7.ext f9;have u5:Unf b5 a5.block:=Hx q5 (by simp[Sl.v]) (.inr (by simp[Sl.v]));have u7:Unf b5 a7.block:=Hx q7 sI (.inl sI);have q8:=Ms u7 (Ms u5 (j3.ext (d8.trans b9)));have q3:=e4.ext f6;have nl:=e4.len;have tl:=j3.len;have hA:(⟨0,rs.dec,(a0.len:Int),Aa ((t.len:Int) - 1)⟩:AnsC)=⟨0,rs.dec,(rs.ns.length:Int),(T.length:Int) - 1⟩:=by have hm:=j3.max;rw[Ak]at hm;rw[nl,tl,Ag oM oM]
    have fin:∀{wb wc:Wd},But a5.block b5 wb->BoxAt wb a5 [d2.v,e2.v,o2.v,v2.v,a0.v,t.v,.bool j.pruned]->But a7.block wb wc->BoxAt wc a7 [vi 0,vi rs.dec,vi (a0.len:Int),.int .i64 (Aa ((t.len:Int) - 1))]->J4 wc:=by
     subst p0;intro wb wc bb kb bc kc;have zb:=bb.1;have zc:=bc.1;refine⟨_,_,_,_,_,_,_,(bc.box kb oM).at0 (r:=[]) xR rfl,_,_,_,_,kc.at0 (r:=[]) xR rfl,?_⟩;have hd:DoR L s x rr D N Di P ⟨0,rs.dec,(a0.len:Int),Aa ((t.len:Int) - 1)⟩ ⟨j.m,rs.ns,T,j.pruned⟩:=by rw[hA];have:=DoR.ok (L:=L) (s:=s) c3 b8 g7 b6 (by rw[a8];exact g6) (by rw[a8,e5];exact c4);rw[a8]at this;exact this
     refine hR _ ⟨j.m,rs.ns,T,j.pruned⟩ _ _ _ _ _ _ wc (bc.ext (bb.ext (b0.trans f9) oM) oM) ⟨rr,g8,hd⟩ ⟨?_,?_,?_⟩
     .exact(((e3.ext h8).but bb λh=>by omega).but bc λh=>by omega).mono λb hb=>by omega
     .exact((q3.but bb λh=>by omega).but bc λh=>by omega).mono λb hb=>by omega
     .exact((q8.but bb λh=>h.1.2 rfl).but bc λh=>h.2 rfl).mono λb hb=>by have h1:b<r2.heap.size:=hb.1.1;omega
    have m4:=g4.ext f6;have m5:=l9.ext (d8.trans b9);have t6:g0.block<f0.heap.size:=g4.lt;have n1:∀{wb:Wd},But a5.block b5 wb->ldc wb g0 [a0.v]:=λb=>(b.box m4 oM).at0 (r:=[]) xR rfl;have n2:∀{wb:Wd},But a5.block b5 wb->ldc wb d5 [t.v]:=λb=>(b.box m5 oM).at0 (r:=[]) xR rfl;have e8:∀{K:Wp},(∀wb,But a5.block b5 wb->BoxAt wb a5 [d2.v,e2.v,o2.v,v2.v,a0.v,t.v,.bool j.pruned]->K wb)->stw b5 a5 [d2.v,e2.v,o2.v,v2.v,a0.v,t.v,.bool j.pruned] K:=λhK=>stw0.intro q5 sI λwb b _ hb=>hK wb b hb;have e9:∀{wb:Wd},But a5.block b5 wb->BoxAt wb a5 [d2.v,e2.v,o2.v,v2.v,a0.v,t.v,.bool j.pruned]->stw wb a7 [vi 0,vi rs.dec,vi (a0.len:Int),.int .i64 (Aa ((t.len:Int) - 1))] λwc=>J4 wc:=λb hb=>stw0.intro (b.box q7 oM) sI λwc bc _ hc=>fin b hb bc hc;have d9:ldc b5 g0 [a0.v]:=m4.at0 (r:=[]) xR rfl;have k9:ldc b5 d5 [t.v]:=m5.at0 (r:=[]) xR rfl;refine⟨d2,e2,o2,v2,a0,t,j.pruned,(l8.ext h8).at0 (r:=[]) xR rfl,?_⟩;refine⟨⟨a0,d9,⟨t,k9,e8 λwb b hb=>e9 b hb⟩,e8 λwb b hb=>⟨t,n2 b,e9 b hb⟩⟩,⟨t,k9,⟨a0,d9,e8 λwb b hb=>e9 b hb⟩,e8 λwb b hb=>⟨a0,n1 b,e9 b hb⟩⟩,e8 λwb b hb=>?_⟩;exact⟨a0,n1 b,t,n2 b,e9 b hb⟩
   clear l7;have l0:=e0.ext b2;refine⟨d',e',o',v',l0.at0 xR rfl,a0,(g4.ext b2).at0 (r:=[]) xR rfl,t,(l9.ext d8).at0 (r:=[]) xR rfl,j.pruned,l0.at1 (k:=6) (r:=[]) xR rfl,?_,?_⟩
   .refine callX.intro (SE.Hc.go (ownMan_se i3 m6 λd2 e2 o2 v2 n9 b4 e3=>⟨b4,d2,e2,o2,v2,rfl,newS.set rfl λj0 o0 c6 g5 l5=>?_⟩));have q6:=c6.size;have m7:=b4.size;exact i5 j0 d2 e2 o2 v2 o0 (b4.trans c6) oM ((e3.ext c6).mono λb hb=>by omega) g5
   .refine newS.intro λj0 o0 c6 g5 l5 _=>callX.intro (SE.Hc.go (ownMan_se (i3.ext c6.size) (m6.ext c6) λd2 e2 o2 v2 n9 b4 e3=>⟨b4,d2,e2,o2,v2,rfl,stw0.intro (g5.ext b4) sI λr3 j1 _ o9=>?_⟩));have q6:=c6.size;have m7:=b4.size;have w0:=j1.1;have u3:=g5.lt;exact i5 j0 d2 e2 o2 v2 r3 (j1.ext (c6.trans b4) oM) oM ((e3.but j1 λh=>by omega).mono λb hb=>by omega) o9
  clear l6;have pl:∀{w':Wd} {tp:Sl} {K:Sl->Int->Wp},Ext f1 w'->SlR packE w' (λb=>f1.heap.size<=b/\b<w'.heap.size) tp (CP L rs.ns)->(∀c T t g9,Ext w' g9->PlaceR rs.ns (CP L rs.ns) d4 Di P c T->SlR dirE g9 (λb=>b<g9.heap.size) t T->K t c g9)->SE.FY a0 tp D N Di P old w' K:=λ{w' tp K} hx hp hK=>by have q:=hx.size;refine Zgn (S0:=λb=>b<w'.heap.size) (hg.ext (f4.trans hx)).tab (λb hb=>hb) ((e4.ext (c5.trans hx)).mono λb hb=>by omega) (hp.mono λb hb=>hb.2) (OldR.mono (OldR.ext q0 (c5.trans hx)) λb hb=>by omega) (λh=>?_) p6 hK;rw[Vl]at h;rw[Vk h,if_pos rfl]
  refine⟨a0,d9,a0,d9,D,N,Di,P,(h3.ext (x6.trans (x8.trans f8))).at0 (r:=[]) xR rfl,?_,?_⟩
  .refine callX.intro (SE.HZ.go (TI (e1.ext f4) (e4.ext c5) m1 λtp r4 a6 hp=>⟨a6,tp,rfl,?_,?_⟩))
   .refine SE.FY.go (pl a6 hp λc T t d7 a9 c4 hT=>⟨t,c,rfl,newS.set rfl λc9 j9 a4 d1 i2=>?_⟩);have m8:=a6.size;have m9:=a9.size;have n0:=a4.size;exact e6 c T t c9 j9 (a6.trans (a9.trans a4)) oM c4 ((hT.ext a4).mono λb hb=>by omega) d1
   .refine newS.intro λc9 j9 a4 d1 i2 _=>SE.FY.go (pl (a6.trans a4) ((hp.ext a4).mono λb hb=>by have:=a4.size;omega) λc T t d7 a9 c4 hT=>⟨t,c,rfl,?_⟩);have m8:=a6.size;have m9:=a9.size;have n0:=a4.size;have u:Unf d7 c9.block:=Hx (d1.ext a9) (by simp[Sl.v]) (.inl sI);refine stw0.intro (d1.ext a9) sI λk0 d0 _ j2=>?_;have r6:=d0.1;exact e6 c T t c9 k0 (d0.ext (a6.trans (a4.trans a9)) oM) oM c4 (((Ms u hT).but d0 λh=>h.2 rfl).mono λb hb=>by have h1:b<d7.heap.size:=hb.1;omega) j2
  .refine newS.intro λc9 j9 a4 d1 i2 _=>callX.intro (SE.HZ.go (TI (e1.ext (f4.trans a4)) (e4.ext (c5.trans a4)) m1 λtp r4 a6 hp=>⟨a6,tp,rfl,?_⟩));refine SE.FY.go (pl (a4.trans a6) (hp.mono λb hb=>by have:=a4.size;omega) λc T t d7 a9 c4 hT=>⟨t,c,rfl,?_⟩);have m8:=a6.size;have m9:=a9.size;have n0:=a4.size;have u:Unf d7 c9.block:=Hx (d1.ext (a6.trans a9)) (by simp[Sl.v]) (.inl sI);refine stw0.intro (d1.ext (a6.trans a9)) sI λk0 d0 _ j2=>?_;have r6:=d0.1;exact e6 c T t c9 k0 (d0.ext (a4.trans (a6.trans a9)) oM) oM c4 (((Ms u hT).but d0 λh=>h.2 rfl).mono λb hb=>by have h1:b<d7.heap.size:=hb.1;omega) j2
 clear hJ;have p4:=(ha.ext (f5.trans c8));refine⟨j.keep,e0.at1 (k:=5) xR rfl,λhk=>key _ ?_,λhk=>key none ?_⟩
 .rw[<-e5,if_pos hk];exact⟨by show(a.add 5).block<_;rw[CL];omega,tS,p4.at1 (k:=5) xR rfl,((hs.ext o4).t).mono λb hb=>by have:=hS b hb;omega⟩
 .rw[<-e5,hk];trivial
end
def Su:Jq [42]= [[42]]:=by decide
def RK:Gu [42]= [[42]]:=by decide
def Zg1:RangeIs [42] [(0,999999999)]:=by
 refine⟨⟨by decide,λa ha=>?_⟩,?_,λn=>?_⟩
 .rw[Su,eh]at ha;subst ha;refine⟨by rw[RK];simp,λt ht=>?_⟩;rw[RK,eh]at ht;subst ht;exact⟨_,.all⟩
 .simp[Ed]
 .rw[Su];constructor
  .intro h;have h:0<=n/\n<=999999999:=by simpa[Ba]using h
   refine⟨[42],eh.2 rfl,h.1,h.2,λt ht a ha=>?_⟩;rw[RK,eh]at ht;subst ht;rw[<-WordR.one .all ha];exact h
  .rintro⟨a,ha,h1,h2,_⟩;simp[Ba];omega
def rgOf_star:RgOf (bm #[42]) (some (BO [(0,999999999)])):=.ok (l:=[(0,999999999)]) Zg1 sI dC
def JC:Dir:=⟨[],Az,0⟩
def s21:Stt:=⟨⟨[],[],[],[]⟩,[rootNode],[JC],false⟩
def add21:StepC:=⟨3,n11,⟨#[42]⟩,0,⟨#[]⟩,0⟩
def e21:Edge:=⟨n11,1⟩
def GN:LN:=[⟨⟨#[]⟩,⟨0,0,0⟩,[],[e21]⟩,⟨n11,Ow,[],[]⟩]
set_option maxRecDepth 100000 in
def UW:known11.ns=GN:=by decide+kernel
def UY{α:Type}{x y:α}(h: [x][i]?=some y)(h0:i≠0):False:=by have:=(fe.1 h).1;simp at this;omega
def tree21:TreeOk [JC]:=⟨by decide,rfl,λi d h h0=>(UY h h0).elim⟩
def Ze8:SttOk s21:=by
 refine⟨by decide+kernel,⟨by decide,⟨rootNode,rfl,rfl⟩,λi x hx h0=>(UY hx h0).elim,λx hx=>?_⟩,⟨tree21,⟨by decide,λx hx e he=>?_⟩,by decide+kernel,kf _ _⟩⟩
 .obtain rfl:=eh.1 hx;exact⟨List.Pairwise.nil,(λp hp=>nomatch hp),by decide,List.Pairwise.nil,(λe he=>nomatch he),by decide⟩
 .obtain rfl:=eh.1 hx;exact nomatch he
def Zf5:PinsAre s21.g []:=⟨List.Pairwise.nil,λy=>by simp[s21]⟩
def Zf6:PlaceOk GN [Az,k11]:=by
 refine⟨by decide,rfl,⟨_,rfl,rfl⟩,rfl,λi x hx=>?_⟩
 match i,hx with
 |0,hx=>cases hx;refine⟨λh=>absurd rfl h,List.Pairwise.nil,kf _ _,λe he=>?_,(λq hq=>nomatch hq)⟩;obtain rfl:=eh.1 he;exact⟨1,_,rfl,by decide,rfl,rfl⟩
 |1,hx=>cases hx;exact⟨λ_=>⟨k11,rfl,by decide+kernel,rfl,rfl⟩,List.Pairwise.nil,List.Pairwise.nil,(λe he=>nomatch he),(λq hq=>nomatch hq)⟩
 |i+2,hx=>exact absurd (fe.1 hx).1 (by simp[GN])
def i21:PlI:=DG GN [Az,k11] (some [JC]) 9 99
def f21:PlS:=⟨[⟨[],0⟩,⟨[n11],1⟩],[⟨0,n11,1⟩]⟩
def Zs:EdgeR i21 pl0 0 e21 (A4 i21.g 0 e21) 0 f21:=by
 have hk:A4 i21.g 0 e21=2:=by decide+kernel
 rw[hk];have a0:Ax pl0.dirs [n11]=none:=by decide+kernel
 exact .put 0 (λto h=>by
  have h1:=h.1;have h2:AF pl0.dirs (Ad pl0.dirs 0) e21.name (Ad pl0.dirs 0).length=none:=by decide+kernel
  rw[h2]at h1;cases h1) dC (λ_=>⟨⟨gl _,λk _ hk=>by
   have h0:k=0:=(by have:(Ad pl0.dirs 0).length=0:=rfl;omega);subst h0;exact a0,(λt ht=>nomatch ht)⟩,λm hm hl=>by
   have h0:m=0:=(by have:=hm.le;have:(Ad pl0.dirs 0).length=0:=rfl;omega);subst h0;exact hl,λm _ _=>gl m⟩) nO (by decide+kernel) dC
def Zj:DirsR i21 0 pl0 0 f21:=by
 have o0:Cb i21.g (nodeAt pl0.dirs 0)= [e21]:=by decide+kernel
 have o1:Cb i21.g (nodeAt f21.dirs 1)=[]:=by decide+kernel
 refine .next (t:=f21) dC ?_ (.next (t:=f21) dC ?_ (.fin dC))
 .rw[o0];exact .cons Zs (.nil _)
 .rw[o1];exact .nil _
def Zi4:SortedD f21.dirs f21.dirs:=⟨.refl _,by decide+kernel⟩
def do_add21:DoR [k11] s21 add21 (some (BO [(0,999999999)])) 9 9 9 99 ⟨0,1,2,1⟩ ⟨m11,GN,f21.dirs.map (AX [Az,k11]),false⟩:=by
 have hm:Fc s21.m add21.kind ⟨add21.name,BO [(0,999999999)]⟩=m11:=by decide+kernel
 have hk:A9 [k11] m11 true [] 9 9=known11:=rfl;obtain⟨k1,k2,k3,_,_⟩:=Zc5;have ha:AskR s21.m [] s21.pruned add21 (some (BO [(0,999999999)])) 0 ⟨m11,[],true,false⟩:=by have:=AskR.add (m:=s21.m) (pins:=[]) (pruned:=false) (x:=add21) (r:=some (BO [(0,999999999)])) rfl (by decide+kernel) rfl dC dC (by rw[hm];decide+kernel);rw[hm]at this;exact this
 have hp:CP [k11] GN= [Az,k11]:=by decide+kernel
 have h:=DoR.ok (L:=[k11]) (D:=9) (N:=9) (Di:=9) (P:=99) (T:=f21.dirs.map (AX [Az,k11])) ⟨by decide,by decide,by decide,by decide,by decide,by decide,by decide,by decide⟩ Ze8 Zf5 ha (by
  show(A9 [k11] m11 true [] 9 9).code=0;rw[hk];exact k1) (by
  show PlaceR (A9 [k11] m11 true [] 9 9).ns (CP [k11] (A9 [k11] m11 true [] 9 9).ns) (some [JC]) 9 99 0 _;rw[hk,UW,hp];exact .ok ⟨by decide,by decide,by decide,by decide⟩ (λT hT=>by cases hT;exact tree21) Zf6 Zj Zi4)
 have h:DoR [k11] s21 add21 (some (BO [(0,999999999)])) 9 9 9 99 ⟨0,(A9 [k11] m11 true [] 9 9).dec,((A9 [k11] m11 true [] 9 9).ns.length:Int),((f21.dirs.map (AX [Az,k11])).length:Int) - 1⟩ ⟨m11,(A9 [k11] m11 true [] 9 9).ns,f21.dirs.map (AX [Az,k11]),false⟩:=h;rw[hk,k2,k3,UW]at h;exact h
def Emp(w:Wd)(g t:Sl):Prop:=SttS w (λb=>b<w.heap.size) Sl.nil Sl.nil Sl.nil Sl.nil g t s21
def Emp.ext(h:Emp w g t)(hx:Ext w w'):Emp w' g t:=(SttS.ext h hx).mono λb hb=>jd hb hx.size
def SW{SA:Nat->Prop}{sP sS:Sl}{P:Int}{lp:List Pack}{R:Option Addr->Option Addr->Bool->Wp}(ht:Tab w)(hA:Old SA w)(hP:SlR packE w SA sP lp)
  (hR:∀p r q w',Ext w w'->Both w' w.heap.size SA p r q (CZ lp)->R (some p) (some q) true w'):SE.Ih sP D N Di P sS w R:=by
 unfold SE.Ih;have hl:=hP.len;refine newS.intro λa w1 x1 ha _ _=>SE.HJ.go (catNew_L λp r w2 x2 hC h1 h2=>⟨_,rfl,newS.intro λq w3 x3 hq e8 _=>⟨nO,λ_=>?_⟩⟩);have e0:=x1.trans (x2.trans x3);have s1:=x1.size;have s2:=x2.size;have s3:=x3.size;have e6:=hC.lt;refine loop1.up hP.max (λi w'=>Ext w w'/\BoxAt w' a [sP.v,vi D,vi N,vi Di,vi P,sS.v]/\a.block<w2.heap.size/\Both w' w1.heap.size SA p r q (CZ (lp.take i)))
  ⟨e0,ha.ext (x2.trans x3),by have:=ha.lt;omega,⟨None',hC.ext x3,λ_ h=>h.elim,λh=>h⟩,⟨None',⟨⟨Sl.nil,hq,SlR.nil trivial⟩,λh=>h,λ_ h=>h.elim,GoodL.nil⟩,λ_ h=>h.elim,λh=>h⟩,⟨h1,h2,oM⟩,oM,oM⟩ λi w4 d9 hi ⟨x4,c9,d5,hB⟩ hn=>⟨sP,c9.ldc.pre (r:=[_,_,_,_,_]) rfl,λe4=>bnd.drew λd4 xd=>?_,λe7=>?_⟩
 .have c4:i<lp.length:=oM;have a9:(i:Int)<(sP.len:Int):=oM;obtain⟨ad,d,e,o,c5,_,hN,hd,he,ho,hc⟩:=I7 hP c4;have a0:=x4.trans xd;have a8:=c9.ext xd;obtain⟨⟨S,b2,a6,c3⟩,⟨T,b4,a7,b7⟩,⟨d2,d0,d1⟩,b9,b0⟩:=hB.ext xd;have e3:=b2.lt;have e5:q.block<d4.heap.size:=by obtain⟨s,hb,_⟩:=b4.at_;exact hb.lt
  have e9:=xd.size;have tail:∀(k:Value->Wp),(∀w5 (_:Ext w w5),BoxAt w5 a [sP.v,vi D,vi N,vi Di,vi P,sS.v]->(∀k2:Value->Wp,(∀w6,d9 (Aa ((i:Int)+1)) w6->k2 (.int .i64 (BF (CZ (lp.take i)) lp[i]).1) w6)->callS prog 15 [.pointer (some q),.agg #[.string lp[i].name,.int .i64 lp[i].v.ma,.int .i64 lp[i].v.mi,.int .i64 lp[i].v.pa,d.v,e.v,o.v]] w5 k2)->k (.int .i64 (BF (CZ (lp.take i)) lp[i]).1) w5)->
    callS prog 14 [.pointer (some p),.agg #[.string lp[i].name,.int .i64 lp[i].v.ma,.int .i64 lp[i].v.mi,.int .i64 lp[i].v.pa,d.v,e.v,o.v]] d4 k:=λk hk=>by
   refine SE.HI.go (Yp (x:=lp[i]) (S2:=SA) (ht.ext a0) b2 hN (hA.ext a0.size) (hd.ext a0) (he.ext a0) (ho.ext a0) λS' w5 b5 c6 hs d3=>?_);have x5:Ext w w5:=b5.ext a0 oM;have s5:=b5.1;have a5:=b5.box a8 oM;have c7:RefR w5 T q (CZ (lp.take i)):=b4.stay b5.1 λb hb a4=>b5.2.2.2.2 b hb (by
    obtain a4|rfl:=a4
    .rintro rfl;exact b7 a4
    .exact b0)
   have b8: ¬S' q.block:=λh=>by
    obtain h|h:=d3 _ h
    .exact c3 h
    .omega
   have e2:=c6.lt;have d8: ¬SA q.block:=λh=>(by have:=hA _ h;omega);refine hk w5 x5 a5 λk2 d6=>?_;refine SE.Ku.go (Zgw (x:=lp[i]) (S2:=SA) c7 hN (hA.ext x5.size) d8 (hd.ext x5) (he.ext x5) (ho.ext x5) λw6 b6 c8=>d6 w6 (hn c4 w6 ?_));have x6:Ext w w6:=b6.ext x5 oM;have e1:CZ (lp.take (i+1))=(BF (CZ (lp.take i)) lp[i]).2:=(by rw[dw c4,Yo]);rw[e1];have s6:=b6.1;refine⟨x6,b6.box a5 oM,d5,⟨S',c6.stay b6.1 λb hb a4=>b6.2.2.2.2 b hb (by
    obtain a4|rfl|rfl:=a4
    .rintro rfl;exact b8 a4
    .exact Ne.symm b9
    .exact Ne.symm b0),λb hb=>?_,b8⟩,⟨_,c8,λb hb=>?_,λhb=>?_⟩,⟨d2,d0,d1⟩,b9,b0⟩
   .obtain h|h:=d3 b hb
    .exact a6 b h
    .omega
   .rcases hb with(hb|hb)|hb
    .exact a7 b hb
    .exact .inl hb
    .right;omega
   .rcases hb with(hb|hb)|hb
    .exact b7 hb
    .have:=hA _ hb;omega
    .omega
  clear hn;refine⟨sP,a8.ldc.pre rfl,ad,⟨c5,oM,a9⟩,_,_,_,_,_,_,_,(hc _ a0).pre rfl,?_,sP,a8.ldc.pre rfl,ad,⟨c5,oM,a9⟩,?_,_,_,_,_,_,_,_,(hc _ a0).pre rfl,?_⟩
  .refine tail _ λw5 x5 a5 hk=>⟨_,rfl,sP,a5.ldc.pre rfl,ad,⟨c5,oM,a9⟩,_,_,_,_,_,_,_,(hc _ x5).pre rfl,hk _ λw6 h6=>⟨_,rfl,λh=>absurd rfl h,λ_=>h6⟩⟩
  .refine tail _ λw5 x5 a5 hk=>⟨_,rfl,_,_,_,_,_,_,_,(hc _ x5).pre rfl,hk _ λw6 h6=>⟨_,rfl,λh=>absurd rfl h,λ_=>h6⟩⟩
  .refine tail _ λw5 x5 a5 hk=>⟨_,rfl,hk _ λw6 h6=>⟨_,rfl,λh=>absurd rfl h,λ_=>h6⟩⟩
 .have:i=lp.length:=oM;rw[this,eu]at hB;refine hR p r q w4 x4 ?_;obtain⟨⟨S,b2,a6,c3⟩,⟨T,b4,a7,b7⟩,⟨d2,d0,d1⟩,d7⟩:=hB;exact⟨⟨S,b2,λb hb=>by have:=a6 b hb;omega,c3⟩,⟨T,b4,λb hb=>(a7 b hb).imp id λh=>by omega,b7⟩,⟨oM,oM,oM⟩,d7⟩
def imgEmpty_se{R:Sl->Sl->Sl->Sl->Sl->Sl->Bool->Wp}(hR:∀g t w',Ext w w'->Emp w' g t->R Sl.nil Sl.nil Sl.nil Sl.nil g t false w'):SE.Im w R:=by
 unfold SE.Im;refine newS.intro λa w1 x1 h1 a0 _=>newS.intro λa2 w2 x2 h2 a4 _=>newS.intro λa3 w3 x3 h3 a5 _=>?_;have s1:=x1.size;have s2:=x2.size;have s3:=x3.size;refine stw0.intro (h1.ext (x2.trans x3)) sI λw4 b4 a6 h4=>⟨_,_,_,_,_,_,_,h4.at0 (r:=[]) xR rfl,?_⟩;have l1:=h1.lt;have k2:=b4.box (h2.ext x3) oM;have k3:=b4.box h3 oM;have l2:=k2.lt;have l3:=k3.lt;have hg:=Jz (E:=nodeE) (S:=None') (x:=rootNode) k2 ⟨by unfold Ac rootNode;rw[Ak];decide,Sl.nil,Sl.nil,rfl,SlR.nil trivial,SlR.nil trivial⟩ dC;have ht:=Jz (E:=dirE) (S:=None') (x:=JC) k3 QR dC;refine hR _ _ w4 (b4.ext (x1.trans (x2.trans x3)) oM) ⟨⟨SlR.nil trivial,SlR.nil trivial,SlR.nil trivial,SlR.nil trivial⟩,hg.mono λb hb=>?_,ht.mono λb hb=>?_⟩
 .obtain hb|rfl:=hb
  .exact hb.elim
  .exact l2
 .obtain hb|rfl:=hb
  .exact hb.elim
  .exact l3
def Z1{x:StepC}{e v gS tS:Sl}{P:Int}{R:DR}(hS:Old S w)(hs:SttS w S d e o v gS tS s)
  (hR:∀d' e' o' v' g' u' w',Ext w w'->R d' e' o' v' g' u' s.pruned 1 0 0 0 w'):SE.Fo d e o v gS tS s.pruned none x.op x.name x.range x.kind x.pack x.n D N Di P w R:=by
 unfold SE.Fo;refine newS.intro λa w1 x1 ha c3 _=>newS.intro λa1 w2 x2 h1 b6 _=>newS.intro λa3 w4 x4 h3 b7 _=>newS.intro λa5 w6 x6 h5 b8 _=>newS.intro λa7 w8 x8 h7 b9 _=>?_;have a8:=x2.trans (x4.trans (x6.trans x8));have a6:=x1.trans a8;have s1:=x1.size;have s2:=x2.size;have s4:=x4.size;have s6:=x6.size;have s8:=x8.size;have b4:=h5.lt;have b5:=h7.lt;refine bound ⟨D,N,Di,P,nO,gCall.no ⟨λ_=>?_,nO⟩⟩;refine SE.HX.go (TL (hS.ext a6.size) (hs.ext a6) (ha.ext a8) λd' e' o' v' g' t' w9 x9 h9=>⟨d',e',o',v',g',t',s.pruned,1,0,0,0,rfl,?_⟩);have q9:=x9.size;refine stw0.intro (h5.ext (x8.trans x9)) sI λc4 a0 _ a9=>stw0.intro (a0.box (h7.ext x9) oM) sI λb2 a4 _ b0=>?_;have c5:=a0.1;have c6:=a4.1;exact⟨d',e',o',v',g',t',s.pruned,(a4.box a9 oM).at0 (r:=[]) xR rfl,1,0,0,0,b0.at0 (r:=[]) xR rfl,hR d' e' o' v' g' t' b2 (a4.ext (a0.ext (a6.trans x9) oM) oM)⟩
def strN11:Ac n11:=by unfold Ac n11;rw[Ak];decide
def t21:Stt:=⟨m11,GN,f21.dirs.map (AX [Az,k11]),false⟩
def BW{e v:Sl}(h:SttS w (λb=>b<w.heap.size) d e o v g t s)(hx:Ext w w'):SttS w' (λb=>b<w'.heap.size) d e o v g t s:=(h.ext hx).mono λb hb=>jd hb hx.size
def SttS.off{q:Nat}{e v:Sl}(hq:Unf w q)(h:SttS w S d e o v g t s):SttS w (Eo S q) d e o v g t s:=⟨⟨Hw hq h.m.d,Hw hq h.m.e,Hw hq h.m.o,Hw hq h.m.v⟩,Zkl hq h.g,Ms hq h.t⟩
def Cw{wB:Wd}{b:Addr}{e v d0 e0 o0 v0 g0 t0:Sl}{p0:Bool}{st:Stt}{c1 c2 c3 c4 z1 z2 z3 z4:Int}{J:Wp}(x:Ext wB w)(ha:BoxAt w a [d0.v,e0.v,o0.v,v0.v,g0.v,t0.v,.bool p0])(hb:BoxAt w b [vi z1,vi z2,vi z3,vi z4])
  (h1:wB.heap.size<=a.block) (h2:wB.heap.size<=b.block) (a0:a.block≠b.block) (hs:SttS w (λb=>b<w.heap.size) d e o v g t st)
  (k:∀w',Ext wB w'->BoxAt w' a [d.v,e.v,o.v,v.v,g.v,t.v,.bool st.pruned]->BoxAt w' b [vi c1,vi c2,vi c3,vi c4]->SttS w' (λb=>b<w'.heap.size) d e o v g t st->J w'):
  stw w a [d.v,e.v,o.v,v.v,g.v,t.v,.bool st.pruned] λw1=>stw w1 b [vi c1,vi c2,vi c3,vi c4] J:=by
 have ua:Unf w a.block:=Hx ha (by simp[Sl.v]) (.inr (by simp[Sl.v]));have ub:Unf w b.block:=Hx hb sI (.inl sI);have h3:=(hs.off ua).off ub;refine stw0.intro ha sI λw1 b1 a4 k1=>?_;have y1:=b1.ext x h1;refine stw0.intro (b1.box hb (λe=>a0 e.symm)) sI λw2 b2 a5 k2=>?_;have q1:=b1.1;have q2:=b2.1;refine k w2 (b2.ext y1 h2) (b2.box k1 a0) k2 (((h3.but b1 λh=>h.1.2 rfl).but b2 λh=>h.2 rfl).mono λb hb=>?_);have:=hb.1.1;omega
def Zdl(hg:Gl w)(hR:∀w',Ext w w'->R true w'):SE.Kk w R:=by
 unfold SE.Kk;refine newS.intro λa w1 x1 ha l7 _=>newS.intro λa1 w2 x2 g2 j2 _=>stw0.intro g2 sI λw3 b3 l8 h3=>?_;have l1:=ha.lt;have l2:=g2.lt;have s1:=x1.size;have s2:=x2.size;have q3:=b3.1;have g5:Ext w1 w3:=b3.ext x2 oM;have k7:=x1.trans g5;have hp:=(Jz (E:=packE) (S:=None') (x:=k11) ha ⟨strN11,Sl.nil,Sl.nil,Sl.nil,rfl,SlR.nil trivial,SlR.nil trivial,SlR.nil trivial⟩ dC).ext g5;refine⟨_,_,_,_,_,_,h3.at0 (r:=[]) xR rfl,?_⟩;refine SE.Ih.go (SW (lp:=[k11]) (hg.ext k7).tab (λb hb=>?_) hp λp r q w4 x4 hB=>⟨_,_,_,rfl,nO,λ_=>newS.intro λa5 w6 x6 h5 l6 _=>stw0.intro h5 sI λw7 b7 l9 h7=>?_⟩)
 .obtain hb|rfl:=hb
  .exact hb.elim
  .omega
 have e6:CZ [k11]= [k11]:=by have:=Zc3;exact this
 rw[e6]at hB;obtain⟨⟨SC,f1,_,_⟩,_⟩:=hB;have s4:=x4.size;have s6:=x6.size;have g6:Ext w4 w7:=b7.ext x6 oM;have g3:=(k7.trans x4).trans g6;have j4:=hg.ext g3;have j3:=f1.ext g6;have h7:BoxAt w7 a5 [vi 9,vi 9,vi 9,vi 99]:=h7;clear ha l7 hp l1 l2 f1 h5 l6 g6 s1 s2 q3 s4 s6 x1 x2 x4 x6 b7 l9 e6 hg g2 j2 b3 l8 h3 g5;have b6:∀{wX:Wd} {K:Value->Wp},(∀g t w',Ext wX w'->Emp w' g t->wX.heap.size<=w'.heap.size->K (.agg #[Sl.nil.v,Sl.nil.v,Sl.nil.v,Sl.nil.v,Sl.v g,Sl.v t,.bool false]) w')->callX prog 7 [] wX K:=λhK=>callX.intro (SE.Im.go (imgEmpty_se λg t w' x h=>⟨x,hK g t w' x h x.size⟩));obtain⟨T,eT,eD,a0⟩:∃T:Stt,T.T.length=2/\T.m.deps.length=1/\∀{wX:Wd} {g t:Sl} {K:Value->Wp},Ext w7 wX->Emp wX g t->(∀d e o v g' u w',Ext wX w'->SttS w' (λb=>b<w'.heap.size) d e o v g' u T->wX.heap.size<=w'.heap.size->K (.tuple #[.agg #[Sl.v d,Sl.v e,Sl.v o,Sl.v v,Sl.v g',Sl.v u,.bool T.pruned],.agg #[vi 0,vi 1,vi 2,vi 1]]) w')->
   callS prog 8 [.agg #[Sl.nil.v,Sl.nil.v,Sl.nil.v,Sl.nil.v,g.v,t.v,.bool false],.pointer (some p),.agg #[vi 3,.string (bm #[97]),.string (bm #[42]),vi 0,.string (bm #[]),vi 0],.agg #[vi 9,vi 9,vi 9,vi 99]] wX K:=by
  refine⟨t21,rfl,rfl,λ{wX g t K} x hE hK=>SE.Fo.go (TC (s:=s21) (x:=add21) (S:=λb=>b<wX.heap.size) (j4.ext x) strN11 (λb hb=>hb) hE (j3.ext x) (λd hd=>by obtain rfl:=eh.1 hd;decide) λA t' d e o v g' u w' x' ⟨rr,hr,hd⟩ hs=>?_)⟩;obtain rfl:=rgOf_star.one hr;obtain⟨rfl,rfl⟩:=do_add21.one hd;exact hK d e o v g' u w' x' hs x'.size
 clear j4 j3;refine join.named λJ1 j1=>?_;have k1:∀(vs a8:Addr)(w9:Wd),Ext w7 w9->(∃(d e o v g t:Sl),BoxAt w9 vs [d.v,e.v,o.v,v.v,g.v,t.v,.bool T.pruned]/\SttS w9 (λb=>b<w9.heap.size) d e o v g t T)->BoxAt w9 a8 [vi 0,vi 1,vi 2,vi 1]->J1 vs a8 w9:=by subst j1;intro vs a8 w9 x9 ⟨d,e,o,v,g,t,hv,hs⟩ h8;refine⟨_,_,_,_,_,_,_,hv.at0 (r:=[]) xR rfl,_,_,_,_,(h7.ext x9).at0 (r:=[]) xR rfl,?_⟩;refine SE.Fo.go (Z1 (s:=T) (x:=⟨0,bm #[],bm #[],0,bm #[],0⟩) (λb hb=>hb) hs λd' e' o' v' g' u' dn k8=>⟨_,_,_,_,_,_,_,_,_,_,_,rfl,?_⟩);refine newS.intro λdh dp k9 g1 v2 _=>newS.intro λdi dq g4 l5 v3 _=>stw0.intro (g1.ext g4) sI λds g7 _ dj=>stw0.intro (g7.box l5 (by have:=g1.lt;omega)) sI λk6 l0 _ m0=>?_;have dk:=g1.lt;have dl:=k8.size;have s11:=k9.size;have dm:=g4.size;have c7:Ext w9 k6:=l0.ext (g7.ext (k8.trans (k9.trans g4)) oM) oM;refine⟨0,1,2,1,(h8.ext c7).at0 (r:=[]) xR rfl,bound ⟨t,λ_=>(hv.ext c7).at1 (k:=5) xR rfl,bound ⟨d,λ_=>(hv.ext c7).at0 xR rfl,bound ⟨1,λ_=>m0.at0 xR rfl,?_⟩⟩⟩⟩;have e1:t.len=2:=hs.t.len.trans eT;have e2:d.len=1:=hs.m.d.len.trans eD;have hr:=hR k6 (g3.trans (x9.trans c7));rw[e1,e2];exact hr
 clear j1 hR;refine bnd.drew λw8 x7=>⟨9,9,9,99,(h7.ext x7).at0 (r:=[]) xR rfl,?_⟩;have s7:=x7.size;clear h7 g3;exact⟨(b6 λu5 z5 bb a4 b5 x8=>⟨_,_,_,_,_,_,_,rfl,⟨(a0 (x7.trans (a4)) (b5.ext xR) λq6 r7 v4 am t4 aa bc f4 f2 y0=>⟨_,_,_,_,_,_,_,_,_,_,_,rfl,⟨(newS.intro λm1 bd f5 g8 o4 cm=>(newS.intro λm2 be d0 g9 o5 co=>(Cw (x7.trans (a4.trans (f4.trans (f5.trans (d0))))) (g8.ext (d0)) (g9.ext xR) oM oM oM (BW f2 (f5.trans (d0))) λw x ha hb hs=>k1 _ _ w x ⟨_,_,_,_,_,_,ha,hs⟩ hb))),(newS.intro λm3 bf f6 h0 o6 cq=>(newS.intro λm4 bg d1 h1 o7 cr=>(Cw (x7.trans (a4.trans (f4.trans (f6.trans (d1))))) (h1.ext xR) (h0.ext (d1)) oM oM oM (BW f2 (f6.trans (d1))) λw x ha hb hs=>k1 _ _ w x ⟨_,_,_,_,_,_,ha,hs⟩ hb)))⟩⟩),(newS.intro λm5 bh a6 e7 o8 ct=>⟨(a0 (x7.trans (a4.trans (a6))) (b5.ext (a6)) λq7 r8 v5 an t5 ab bi f7 j5 y1=>⟨_,_,_,_,_,_,_,_,_,_,_,rfl,(newS.intro λm6 bj d2 h2 o9 cu=>(Cw (x7.trans (a4.trans (a6.trans (f7.trans (d2))))) (e7.ext (f7.trans (d2))) (h2.ext xR) oM oM oM (BW j5 (d2)) λw x ha hb hs=>k1 _ _ w x ⟨_,_,_,_,_,_,ha,hs⟩ hb))⟩),(newS.intro λm7 bk b8 h4 p0 cv=>(a0 (x7.trans (a4.trans (a6.trans (b8)))) (b5.ext (a6.trans (b8))) λq8 r9 v6 aq t6 ac bl d3 j6 y2=>⟨_,_,_,_,_,_,_,_,_,_,_,rfl,(Cw (x7.trans (a4.trans (a6.trans (b8.trans (d3))))) (e7.ext (b8.trans (d3))) (h4.ext (d3)) oM oM oM (BW j6 xR) λw x ha hb hs=>k1 _ _ w x ⟨_,_,_,_,_,_,ha,hs⟩ hb)⟩))⟩),(newS.intro λm8 bm a7 e8 p4 cw=>⟨(a0 (x7.trans (a4.trans (a7))) (b5.ext (a7)) λq9 s0 v7 ar t7 ae bn f8 j7 y3=>⟨_,_,_,_,_,_,_,_,_,_,_,rfl,(newS.intro λm9 bo d4 h6 p5 cx=>(Cw (x7.trans (a4.trans (a7.trans (f8.trans (d4))))) (h6.ext xR) (e8.ext (f8.trans (d4))) oM oM oM (BW j7 (d4)) λw x ha hb hs=>k1 _ _ w x ⟨_,_,_,_,_,_,ha,hs⟩ hb))⟩),(newS.intro λn0 bp b9 h9 p6 cy=>(a0 (x7.trans (a4.trans (a7.trans (b9)))) (b5.ext (a7.trans (b9))) λr0 s3 v8 au t8 af bq d5 j8 y4=>⟨_,_,_,_,_,_,_,_,_,_,_,rfl,(Cw (x7.trans (a4.trans (a7.trans (b9.trans (d5))))) (h9.ext (d5)) (e8.ext (b9.trans (d5))) oM oM oM (BW j8 xR) λw x ha hb hs=>k1 _ _ w x ⟨_,_,_,_,_,_,ha,hs⟩ hb)⟩))⟩)⟩⟩),(newS.intro λn1 br a9 c8 p7 cz=>⟨(b6 λu6 z6 bs b0 e9 y5=>⟨_,_,_,_,_,_,_,rfl,⟨(a0 (x7.trans (a9.trans (b0))) (e9.ext xR) λr1 s5 v9 av t9 ag bu f9 j9 y6=>⟨_,_,_,_,_,_,_,_,_,_,_,rfl,(newS.intro λn2 bv d6 i2 p8 da=>(Cw (x7.trans (a9.trans (b0.trans (f9.trans (d6))))) (c8.ext (b0.trans (f9.trans (d6)))) (i2.ext xR) oM oM oM (BW j9 (d6)) λw x ha hb hs=>k1 _ _ w x ⟨_,_,_,_,_,_,ha,hs⟩ hb))⟩),(newS.intro λn4 bw c3 i3 p9 db=>(a0 (x7.trans (a9.trans (b0.trans (c3)))) (e9.ext (c3)) λr2 s8 w0 aw u0 ah bx d7 k0 y7=>⟨_,_,_,_,_,_,_,_,_,_,_,rfl,(Cw (x7.trans (a9.trans (b0.trans (c3.trans (d7))))) (c8.ext (b0.trans (c3.trans (d7)))) (i3.ext (d7)) oM oM oM (BW k0 xR) λw x ha hb hs=>k1 _ _ w x ⟨_,_,_,_,_,_,ha,hs⟩ hb)⟩))⟩⟩),(newS.intro λn5 bz d8 i4 q0 dc=>(b6 λu7 z7 ca c4 i5 y8=>⟨_,_,_,_,_,_,_,rfl,(a0 (x7.trans (a9.trans (d8.trans (c4)))) (i5.ext xR) λr3 s9 w5 ax u1 ai cb d9 k2 y9=>⟨_,_,_,_,_,_,_,_,_,_,_,rfl,(Cw (x7.trans (a9.trans (d8.trans (c4.trans (d9))))) (c8.ext (d8.trans (c4.trans (d9)))) (i4.ext (c4.trans (d9))) oM oM oM (BW k2 xR) λw x ha hb hs=>k1 _ _ w x ⟨_,_,_,_,_,_,ha,hs⟩ hb)⟩)⟩))⟩),(newS.intro λn7 cc b2 c9 q1 dd=>⟨(b6 λu9 z8 cd b4 f0 z0=>⟨_,_,_,_,_,_,_,rfl,⟨(a0 (x7.trans (b2.trans (b4))) (f0.ext xR) λr4 t0 x0 ay u2 aj ce g0 k3 z1=>⟨_,_,_,_,_,_,_,_,_,_,_,rfl,(newS.intro λn8 cf e0 i6 q2 de=>(Cw (x7.trans (b2.trans (b4.trans (g0.trans (e0))))) (i6.ext xR) (c9.ext (b4.trans (g0.trans (e0)))) oM oM oM (BW k3 (e0)) λw x ha hb hs=>k1 _ _ w x ⟨_,_,_,_,_,_,ha,hs⟩ hb))⟩),(newS.intro λn9 cg c5 i7 q4 df=>(a0 (x7.trans (b2.trans (b4.trans (c5)))) (f0.ext (c5)) λr5 t1 x3 az u3 ak ci e3 k4 z2=>⟨_,_,_,_,_,_,_,_,_,_,_,rfl,(Cw (x7.trans (b2.trans (b4.trans (c5.trans (e3))))) (i7.ext (e3)) (c9.ext (b4.trans (c5.trans (e3)))) oM oM oM (BW k4 xR) λw x ha hb hs=>k1 _ _ w x ⟨_,_,_,_,_,_,ha,hs⟩ hb)⟩))⟩⟩),(newS.intro λo0 cj e4 i9 q5 dg=>(b6 λv0 z9 ck c6 j0 z3=>⟨_,_,_,_,_,_,_,rfl,(a0 (x7.trans (b2.trans (e4.trans (c6)))) (j0.ext xR) λr6 t3 x5 ba u4 al cl e5 k5 z4=>⟨_,_,_,_,_,_,_,_,_,_,_,rfl,(Cw (x7.trans (b2.trans (e4.trans (c6.trans (e5))))) (i9.ext (c6.trans (e5))) (c9.ext (e4.trans (c6.trans (e5)))) oM oM oM (BW k5 xR) λw x ha hb hs=>k1 _ _ w x ⟨_,_,_,_,_,_,ha,hs⟩ hb)⟩)⟩))⟩)⟩
end Go.Hal
namespace Go.Hal
def PlaceR.short{old:Option (List Dir)}{c:Int}{T:List Dir}(h:PlaceR G P old D M c T):∀d∈T,d.path.length<=4000000000000:=by
 cases h with
 | @ok s es h1 h2 h3 h4 h5=>have hs:=DirsR.small h4 (VP (I:=DG G P old D M) (by have:=h1.1;show(0:Int)<=D;omega));intro d hd;obtain⟨e,he,rfl⟩:=gu.1 hd;obtain⟨n,hI,_⟩:=DirsR.inv (I:=DG G P old D M) h3.grPl h4 (PInv.start h3.grPl.pos) LInv.start (λu hu=>by cases hu) (λi hi=>by omega) rfl;obtain⟨i,hi⟩:=jf (h5.1.mem_iff.1 he);have a1:=hI.plen i e hi;have a2:=(fe.1 hi).1;have a3:(s.dirs.length:Int)<=D+1:=hs.2;have a4:=h1.2.1;show e.path.length<=_;omega
 |_=>intro d hd;cases hd
def DoR.short{t:Stt}{x:StepC}{r:Option (List Span)}{P:Int}{A:AnsC}(h:DoR L s x r D N Di P A t)(hb:∀d∈s.T,d.path.length<=4000000000000):∀d∈t.T,d.path.length<=4000000000000:=by
 cases h with
 |ok h1 h2 h3 h4 h5 h6=>exact h6.short
 |_=>exact hb
def R1(x:StepC):LV:=[vi x.op,.string x.name,.string x.range,vi x.kind,.string x.pack,vi x.n]
def Mm:Enc StepC:=DE 6 72 R1 (λx=>Ac x.name/\Ac x.range/\Ac x.pack) (λ_=>rfl) (λ_ v hv=>by simp[R1]at hv;rcases hv with rfl|rfl|rfl|rfl|rfl|rfl<;>rfl)
def Zjo{s:Sl}{l:List StepC}(h:SlR Mm w S s l)(hn:n<l.length):∃ad,s.a=some ad/\(Ac l[n].name/\Ac l[n].range/\Ac l[n].pack)/\∀w',Ext w w'->ldc w' (ad.add (n*6)) (R1 l[n]):=by obtain⟨ad,cs,h1,_,⟨rfl,hs⟩,h3⟩:=h.el hn;exact⟨ad,h1,hs,h3⟩
def Zil:∀d∈s21.T,d.path.length<=4000000000000:=λd hd=>by obtain rfl:=eh.1 hd;decide
def Zko{e v:Sl}{p:Bool}(h:BoxAt w a [d.v,e.v,o.v,v.v,g.v,t.v,.bool p]):Unf w a.block:=Hx h (by simp[Sl.v]) (.inr (by simp[Sl.v]))
def Wj{e v d' e' o' v' g' t':Sl}{p:Bool}{st:Stt}{J:Wp}(ha:BoxAt w a [d.v,e.v,o.v,v.v,g.v,t.v,.bool p])(hs:SttS w (λb=>b<w.heap.size) d' e' o' v' g' t' st)
  (k:∀w',But a.block w w'->BoxAt w' a [d'.v,e'.v,o'.v,v'.v,g'.v,t'.v,.bool st.pruned]->SttS w' (λb=>b<w'.heap.size) d' e' o' v' g' t' st->J w'):stw w a [d'.v,e'.v,o'.v,v'.v,g'.v,t'.v,.bool st.pruned] J:=by
 refine stw0.intro ha sI λw1 b1 a0 k1=>k w1 b1 k1 (((hs.off (Zko ha)).but b1 λh=>h.2 rfl).mono λb hb=>?_);have:=hb.1;have:=b1.1;omega
def ME(ns:LN)(k:Nat):Prop:=∀j,j≠0->j<ns.length->∃i,i<k/\i<j/\OC ns i j
def Q9{N:Nat}:∀{xs:LN} {ks:List En} {r:LN×LQ},Bb N ks xs=some r->∀j,ks.length<=j->j<ks.length+r.1.length->∃e∈r.2,e.to=(j:Int)
 | [],ks,r,h,j,h1,h2=>by rw[Bb]at h;cases h;simp at h2;omega
 |x::xs,ks,r,h,j,h1,h2=>by
  rw[Bb]at h;cases hf:ks.findIdx? λy=>decide (y=x.key)with
  |some i=>rw[hf]at h;obtain⟨r',h3,rfl⟩:=jh.1 h;obtain⟨e,he,ht⟩:=Q9 h3 j h1 h2;exact⟨e,.tail _ he,ht⟩
  |none=>
   rw[hf]at h;dsimp only at h;split at h
   .cases h
   .obtain⟨r',h3,rfl⟩:=jh.1 h;by_cases hj:j=ks.length
    .exact⟨_,.head _,by rw[hj]⟩
    .have h2:j<ks.length+(r'.1.length+1):=h2;obtain⟨e,he,ht⟩:=Q9 h3 j (by rw[du,gk];omega) (by rw[du,gk];omega);exact⟨e,.tail _ he,ht⟩
def XU{q:Quest}{ns ns':LN}{k:Nat}{e:LP}(h:ME ns k)(hk:k<ns.length)(hb:q.bind ns k e= .ok ns'):ME ns' (k+1)/\ns.length<=ns'.length:=by
 unfold Quest.bind at hb;split at hb
 .cases hb
 .split at hb
  .cases hb
  .rename_i r hp;cases hb;refine⟨λj h0 hj=>?_,by rw[du,F2];omega⟩;rw[du,F2]at hj;have a4:∀i,i<ns.length->(Cm ns k r.2++r.1)[i]?=(Cm ns k r.2)[i]? :=λi hi=>fu (by rw[F2];exact hi);by_cases a5:j<ns.length
   .obtain⟨i,h1,h2,ed,he,a0⟩:=h j h0 a5;refine⟨i,oM,h2,ed,?_,a0⟩;unfold Aw at he ⊢;rw[a4 i oM,Od oM];exact he
   .obtain⟨ed,he,a0⟩:=Q9 hp j (by rw[dx];omega) (by rw[dx];omega);refine⟨k,oM,oM,ed,?_,a0⟩;unfold Aw;rw[a4 k hk];unfold Cm;rw[mc];simp[hk,he]
def PV{q:Quest}:∀(f:Nat)(ns:LN)(k:Nat)(l:List Want)(e:LP)(t:Nat)(a0:LN)(n:Nat),q.go f ns k l e t= .done a0 n->ME ns k->k<ns.length->ME a0 a0.length
 |0,_,_,_,_,_,_,_,h,_,_=>by rw[Quest.go]at h;cases h
 |f+1,ns,k,[],e,t,a0,n,h,hl,hk=>by
  rw[Quest.go]at h;cases hb:q.bind ns k e with
  |graph=>rw[hb]at h;cases h
  |many=>rw[hb]at h;cases h
  |ok a4=>
   rw[hb]at h;dsimp only at h;obtain⟨h1,h2⟩:=XU hl hk hb;by_cases he:k+1=a4.length
   .rw[if_pos he]at h;cases h;rw[<-he];exact h1
   .rw[if_neg he]at h;exact PV f _ _ _ _ _ _ _ h h1 oM
 |f+1,ns,k,w::l,e,t,a0,n,h,hl,hk=>by rw[Quest.go]at h;obtain⟨o,t',h'⟩:=WA h;exact PV f _ _ _ _ _ _ _ h' hl hk
def Zdg{pins:LP}{ns:LN}{t:Nat}(h:A9 L m dev pins D N= .done ns t):∀j,j≠0->j<ns.length->∃i,i<j/\OC ns i j:=λj h0 hj=>by obtain⟨i,_,h1,h2⟩:=PV _ _ _ _ _ _ _ _ (V5 h).2 (λj h0 hj=>by simp at hj;omega) sI j h0 hj;exact⟨i,h1,h2⟩
def DoR.okay{t:Stt}{x:StepC}{r:Option (List Span)}{P:Int}{A:AnsC}(h:DoR L s x r D N Di P A t)(h0:A.code=0):∃(pins:LP) (j:JobC) (tt:Nat),AskR s.m pins s.pruned x r 0 j/\A9 L j.m (!j.pruned) j.pins D N= .done t.g tt/\PlaceR t.g (CP L t.g) (if j.keep then some s.T else none) Di P 0 t.T/\t.m=j.m/\SttOk s:=by
 cases h with
 |arg=>cases h0
 |ask _ _ _ _ h=>exact absurd h0 h
 |find _ _ _ _ h=>exact absurd h0 h
 |place _ _ _ _ _ _ h=>exact absurd h0 h
 | @ok pins j T h1 h2 h3 h4 h5 h6=>obtain⟨ns,tt,hr⟩:=Zl h5;rw[hr]at h6 ⊢;exact⟨pins,j,tt,h4,hr,h6,rfl,h2⟩
def E7(T:List Dir)(n:Int):Nat:=(T.filter λd=>decide (d.node=n)).length
def Placed.all{g:LN}{ds:List Dr}(h:Placed g ds)(hl:∀j,j≠0->j<g.length->∃i,i<j/\OC g i j):∀j,j<g.length->∃i,i<ds.length/\nodeAt ds i=j:=λj=>by
 induction j using Nat.strongRecOn with
 |ind j ih=>
  intro hj;by_cases h0:j=0
  .subst h0;exact⟨0,(fe.1 h.root).1,EA h.root⟩
  .obtain⟨i,a0,e,he,a4⟩:=hl j h0 hj;obtain⟨a,ha,hn⟩:=ih i a0 oM;obtain⟨b,h1,h2⟩:=h.look a ha e (by rw[hn];exact he);exact⟨b,KF h1,oM⟩
def Zfa{α:Type}{l:List α}(hn:l.Nodup)(h:∀a∈l,∀b∈l,a=b):l.length<=1:=by
 match l,hn,h with
 | [],_,_=>simp
 | [a],_,_=>simp
 |a::b::l,hn,h=>have:=h a (.head _) b (.tail _ (.head _));subst this;simp at hn
def Ze9{pins:LP}{T:List Dir}{t:Nat}(hr:A9 L m dev pins D N= .done G t)(h:PlaceR G P none Di M 0 T){x:Node}(h0:n≠0)(hx:G[n]?=some x):
  1<=E7 T n/\(x.ctx=[]->(∀k y,G[k]?=some y->k≠0->k≠n->y.name≠x.name)->E7 T n=1):=by
 have a7:=Zdg hr;have b5:=(fe.1 hx).1;generalize a0:(0:Int)=c at h;cases h with
 |arg=>cases a0
 |tree=>cases a0
 |graph=>cases a0
 |stop _ _ _ _ h=>exact absurd a0.symm h
 | @ok s es h1 h2 h3 h4 h5=>
  have hp:=DirsR.placed (I:=DG G P none Di M) h3.grPl h4;have a5:E7 (es.map (AX P)) n=(es.filter λd=>decide (d.node=n)).length:=by unfold E7;rw[List.filter_map,dx];congr 1;exact List.filter_congr λd _=>by simp[AX];omega
  rw[a5];have a9:1<=(es.filter λd=>decide (d.node=n)).length:=by obtain⟨i,hi,he⟩:=hp.all a7 n b5;rw[EA (dt hi)]at he;have hm:s.dirs[i]∈es.filter λd=>decide (d.node=n):=ik.2 ⟨h5.1.mem_iff.2 (fg hi),by simpa using he⟩;exact List.length_pos_of_mem hm
  refine⟨a9,λa6 a8=>?_⟩;have hO:Only G n x.name:=by
   refine⟨by unfold BA;rw[hx];exact a6,λk e he=>?_⟩;unfold Aw at he;split at he
   .rename_i z hz;obtain⟨j,y,a1,a2,a3,a4⟩:=(h3.node k z hz).edge e he;constructor
    .intro hn;have:j=n:=iq λhj=>a8 j y a3 oM hj (a4.trans hn);omega
    .intro ht;have:j=n:=oM;subst this;rw[hx]at a3;cases a3;exact a4.symm
   .cases he
  have hI:=DirsR.only (I:=DG G P none Di M) h3.grPl (λ_ _=>rfl) hO h4 (PInv.start h3.grPl.pos) LInv.start (λu hu=>by cases hu) (OnlyI.start h0);have b4:es.Nodup:=h5.1.nodup_iff.2 (hp.dirsOk h3).nodup;have:=Zfa (b4.filter (λd=>decide (d.node=n))) λa ha b hb=>by obtain⟨ha,b0⟩:=ik.1 ha;obtain⟨hb,b2⟩:=ik.1 hb;have ha:=h5.1.mem_iff.1 ha;have hb:=h5.1.mem_iff.1 hb;exact Zfb hp.one ha hb ((hI.node a ha (by simpa using b0)).trans (hI.node b hb (by simpa using b2)).symm)
  omega
end Go.Hal
