/- Lemmas for the claim K19b: how the program's functions run, and what they answer; no condition but those that each theorem names. -/
import Derived.Test.YtkndmcejjebjfaaGreatDoorK19bB5
set_option linter.unusedVariables false
set_option linter.unusedSimpArgs false
set_option linter.defProp false
set_option maxHeartbeats 16000000
open Go Go.RowKit Go.Proofs Go.Shelf Go.Hal Go.Proofs.Tryz
variable {a:Addr} {p:Bool} {R:Bool->Wp} {E:Enc Stl} {D Di M N:Int} {j:JobC} {la lb:LQ} {G:LN} {L P:List Pack} {dn:List Stl} {m:Mani} {i n src:Nat} {S:Nat->Prop} {r:Option (List Span)} {A O d g o t:Sl} {s:Stt} {w:Wd}
namespace Go.Hal
def YA{s:Sl}{l:LQ}{R:Sl->Wp}(hS:Old S w)(hs:SlR edgeE w S s l)(hR:∀t w',Ext w w'->OwnS edgeE 168 w' w.heap.size None' t l->R t w'):SE.LG s w R:=by
 unfold SE.LG;refine⟨λh=>?_,λh=>?_⟩
 .have:l=[]:=by
   rcases hs.2.2.2.2 with h0|⟨ad,h1,_⟩
   .exact h0
   .rw[h]at h1;cases h1
  subst this;exact hR _ _ xR (OwnS.nil _ _)
 .intro a w1 ha hw;subst ha;have x1:Ext w w1:=hw▸Ext.alloc _ _;have own:OwnS edgeE 168 w1 w.heap.size None' ⟨some ⟨w.heap.size,0,none⟩,0,0⟩ []:=hw▸OwnS.empty w;refine own.appAll MQ x1.size (hs.ext x1) (hS.ext x1.size) (λad ha hb=>?_) (by simpa using hs.2.2.2.1) (by simpa using hs.max) λr w2 a0 bel _ _=>?_
  .simp only[eu]at ha;subst ha;have:=hS _ hb;simp at this
  .exact hR r w2 (x1.trans' bel) (OwnS.flat (λh=>h) a0)
def Zfm{s:Sl}{g:LN}{R:Sl->Wp}(hS:Old S w)(hs:SlR nodeE w S s g)(hR:∀t w',Ext w w'->SlR nodeE w' (λb=>w.heap.size<=b/\b<w'.heap.size) t g->R t w'):SE.KU s w R:=by
 unfold SE.KU;have hl:=hs.len;have b9:=hs.2.2.2.1;have b4:nodeE.bytes=88:=rfl;have e1:=hs.max;refine newS.intro λa w1 x1 ha _ _=>newS.intro λa1 w2 x2 h1 _ _=>newS.intro λa3 w4 x4 h3 f1 _=>⟨s,ha.at0 (r:=[]) (x2.trans x4) rfl,?_⟩;have e7:=x1.trans (x2.trans x4);have s1:=x1.size;have s2:=x2.size;have s4:=x4.size;have l1:=h1.lt;have l3:=h3.lt;refine loop1.up hs.max (λi w'=>∃so Q,Ext w w'/\w4.heap.size<=w'.heap.size/\BoxAt w' a1 [Sl.nil.v]/\BoxAt w' a3 [Sl.v so]/\OwnS nodeE 72 w' w4.heap.size Q so (g.take i)/\∀b,Q b->w4.heap.size<=b) ⟨Sl.nil,None',e7,fm _,h1.ext x4,h3,OwnS.zero _,λ_ h=>h.elim⟩ λi w5 f5 hi ⟨so,Q,b5,z5,c5,c6,o5,hQ⟩ hn=>⟨λc9=>?_,λf4=>?_⟩
 .have a9:i<g.length:=oM;obtain⟨ad,cs,es,d9,e3,c7,c8,e0⟩:=C6 (hs.ext b5) a9;refine⟨ad,⟨d9,oM,c9⟩,_,_,_,_,cs,es,by rw[ec];exact e0 _ xR,newS.set rfl λa7 w6 x6 h7 f2=>bnd.drew λw7 x7=>⟨cs,h7.at1 (k:=4) x7 rfl,es,h7.at1 (k:=5) (r:=[]) x7 rfl,?_⟩⟩;have b7:=x6.trans x7;have d1:=b5.trans b7;have f8:=b7.size;have l7:=h7.lt;have s7:=x7.size;refine callX.intro (SE.IV.go (Tl (hS.ext d1.size) (c7.ext b7) λt8 w8 x8 o8=>⟨x8,_,rfl,?_⟩));refine SE.LG.go (YA (hS.ext (d1.trans x8).size) (c8.ext (b7.trans x8)) λt9 w9 x9 o9=>⟨_,rfl,?_⟩);have d2:=x7.trans (x8.trans x9);have s8:=x8.size;have s9:=x9.size;refine stw.intro (h7.ext d2) (o:=4) sI λf9 d3 _ d5=>stw.intro d5 (o:=5) sI λd0 d4 _ d6=>?_;have a6:But a7.block w9 d0:=d3.trans d4;have e9:=a6.1;have a0:Ext w5 d0:=a6.ext (x6.trans d2) oM;have b8:=c6.ext a0;refine⟨so,b8.at0 (r:=[]) xR rfl,_,_,_,_,t8,t9,d6.at0 (r:=[]) xR rfl,newS.intro λf0 a4 a5 d7 _ _=>?_⟩;have f6:=a5.size;have b0:(g.take i).length=i:=by rw[fb];omega
  have r8:SlR pinE a4 (λb=>w5.heap.size<=b/\b<a4.heap.size/\b≠a7.block) t8 g[i].ctx:=(((((o8.readF dC c7.2.2.2.1).bound (λh=>h) dC).ext x9).but a6 λh=>by omega).ext a5).mono λb hb=>by omega
  have r9:SlR edgeE a4 (λb=>w5.heap.size<=b/\b<a4.heap.size/\b≠a7.block) t9 g[i].edges:=((((o9.readF dC c8.2.2.2.1).bound (λh=>h) dC).but a6 λh=>by omega).ext a5).mono λb hb=>by omega
  refine(o5.ext (a0.trans a5)).push OW (by have:=a0.size;omega) (x:=g[i]) (S':=λb=>w5.heap.size<=b/\b<a4.heap.size/\b≠a7.block) ⟨e3,t8,t9,rfl,r8,r9⟩ (d7.ldc.pre (r:=[]) rfl) (λb hb=>hb.2.1) (λad ha hb=>by have:=(o5.block ha).2.1;have:=hb.1;omega) (by rw[b0,b4];rw[b4]at b9;omega) (by rw[b0];omega) λr e5 e4 a8 c3 c4=>?_;have f7:=Below.size a8;have e8:=a0.size;have e2:∀ad,so.a=some ad->a3.block≠ad.block:=λad h=>by have:=(o5.block h).1;omega
  have kb:∀{ad:Addr} {cs:LV},BoxAt a4 ad cs->ad.block<w4.heap.size->BoxAt e5 ad cs:=λh c9=>h.keep (S:=λb=>∀ad,so.a=some ad->b≠ad.block) (λad h=>by have:=(o5.block h).1;omega) λb hb hl=>c3 b hl hb;refine stw0.intro (kb (b8.ext a5) oM) sI λe6 b2 _ d8=>hn a9 e6 ⟨r,λb=>Q b\/(w5.heap.size<=b/\b<a4.heap.size/\b≠a7.block),?_,?_,b2.box (kb (c5.ext (a0.trans a5)) oM) oM,d8,?_,λb hb=>hb.elim (hQ b) λh=>by omega⟩
  .exact b2.ext ((b5.trans (a0.trans a5)).trans' (a8.mono oM)) oM
  .have:=b2.1;omega
  .rw[dw a9];refine e4.but b2 (λhb=>?_) λad ha=>?_
   .obtain hb|hb:=hb
    .have:=hQ _ hb;omega
    .omega
   .obtain q|q:=c4 ad ha
    .exact e2 ad q
    .omega
 .have a9:i=g.length:=oM;subst a9;rw[eh]at o5;have rd:=(o5.read (by rw[b4];rw[b4]at b9;omega) e1).mono (S':=λb=>w4.heap.size<=b/\b<w5.heap.size) λb hb=>by
   rcases hb with hb|⟨ad,ha,rfl⟩
   .exact⟨hQ b hb,o5.lt b hb⟩
   .have:=o5.block ha;exact⟨this.1,this.2.1⟩
  refine⟨so,c6.at0 (r:=[]) xR rfl,stw0.intro c5 sI λw6 b6 _ h6=>⟨so,h6.at0 (r:=[]) xR rfl,?_⟩⟩;have z6:=b6.1;exact hR so w6 (b6.ext b5 oM) ((rd.but b6 λh=>by omega).mono λb hb=>by omega)
def Zfo{s:Sl}{g:List Dir}{R:Sl->Wp}(hS:Old S w)(hs:SlR dirE w S s g)(hR:∀t w',Ext w w'->SlR dirE w' (λb=>w.heap.size<=b/\b<w'.heap.size) t g->R t w'):SE.KW s w R:=by
 unfold SE.KW;have hl:=hs.len;have b8:=hs.2.2.2.1;have b0:dirE.bytes=144:=rfl;have d5:=hs.max;refine newS.intro λa w1 x1 ha _ _=>newS.intro λa1 w2 x2 h1 _ _=>newS.intro λa3 w4 x4 h3 e5 _=>⟨s,ha.at0 (r:=[]) (x2.trans x4) rfl,?_⟩;have e2:=x1.trans (x2.trans x4);have s1:=x1.size;have s2:=x2.size;have s4:=x4.size;have l1:=h1.lt;have l3:=h3.lt;refine loop1.up hs.max (λi w'=>∃so Q,Ext w w'/\w4.heap.size<=w'.heap.size/\BoxAt w' a1 [Sl.nil.v]/\BoxAt w' a3 [Sl.v so]/\OwnS dirE 75 w' w4.heap.size Q so (g.take i)/\∀b,Q b->w4.heap.size<=b) ⟨Sl.nil,None',e2,fm _,h1.ext x4,h3,OwnS.zero _,λ_ h=>h.elim⟩ λi w5 e8 hi ⟨so,Q,b2,z5,c5,b9,o5,hQ⟩ hn=>⟨λc6=>?_,λe7=>?_⟩
 .have a6:i<g.length:=oM;obtain⟨ad,ps,d,e,o,d1,_,d8,c7,hd,he,ho,d4⟩:=dirEl (hs.ext b2) a6;refine⟨ad,⟨d1,oM,c6⟩,ps,g[i].pack.name,g[i].pack.v.ma,g[i].pack.v.mi,g[i].pack.v.pa,d,e,o,g[i].node,by rw[ec];exact d4 _ xR,newS.set rfl λa7 w6 x6 h7 e6=>bnd.drew λw7 x7=>⟨so,b9.at0 (r:=[]) (x6.trans x7) rfl,ps,h7.at0 x7 rfl,g[i].pack.name,g[i].pack.v.ma,g[i].pack.v.mi,g[i].pack.v.pa,d,e,o,h7.at1 (k:=1) x7 rfl,g[i].node,h7.at1 (k:=8) (r:=[]) x7 rfl,?_⟩⟩;have b5:=x6.trans x7;have c8:=b2.trans b5;have f1:=b5.size;have s7:=x7.size;refine callX.intro (SE.Gg.go (Nf (hS.ext c8.size) (c7.ext b5) λt8 w8 x8 o8=>⟨x8,_,rfl,?_⟩));have b7:=b5.trans x8;refine callX.intro (SE.ID.go (Vn (p:=g[i].pack) (hS.ext (c8.trans x8).size) (hd.ext b7) (he.ext b7) (ho.ext b7) λd' e' o' w9 x9 d2 d3 d7=>⟨x9,_,_,_,_,d',e',o',rfl,newS.intro λe4 a4 b4 c9 _ _=>?_⟩));have s8:=x8.size;have s9:=x9.size;have e9:=b4.size;have a0:=b7.trans (x9.trans b4);have e3:=a0.size;have a8:(g.take i).length=i:=by rw[fb];omega
  have r8:SlR strE a4 (λb=>w5.heap.size<=b/\b<a4.heap.size) t8 g[i].path:=(((o8.readF dC c7.2.2.2.1).bound (λh=>h) dC).ext (x9.trans b4)).mono λb hb=>by omega
  have up:∀{tt:Sl} {L:LD},SlP depP w9 (λb=>w8.heap.size<=b/\b<w9.heap.size) tt L->SlR depE a4 (λb=>w5.heap.size<=b/\b<a4.heap.size) tt L:=λh=>(h.dep.ext b4).mono λb hb=>by omega
  refine(o5.ext a0).push S6 oM (x:=g[i]) (S':=λb=>w5.heap.size<=b/\b<a4.heap.size) ⟨d8,t8,d',e',o',rfl,r8,up d2,up d3,up d7⟩ (c9.ldc.pre (r:=[]) rfl) (λb hb=>hb.2) (λad ha hb=>by have:=(o5.block ha).2.1;have:=hb.1;omega) (by rw[a8,b0];rw[b0]at b8;omega) (by rw[a8];omega) λr e0 d9 a5 c3 c4=>?_;have f0:=Below.size a5;have d6:∀ad,so.a=some ad->a3.block≠ad.block:=λad h=>by have:=(o5.block h).1;omega
  have kb:∀{ad:Addr} {cs:LV},BoxAt a4 ad cs->ad.block<w4.heap.size->BoxAt e0 ad cs:=λh c6=>h.keep (S:=λb=>∀ad,so.a=some ad->b≠ad.block) (λad h=>by have:=(o5.block h).1;omega) λb hb hl=>c3 b hl hb;refine stw0.intro (kb (b9.ext a0) oM) sI λe1 a9 _ d0=>hn a6 e1 ⟨r,λb=>Q b\/(w5.heap.size<=b/\b<a4.heap.size),?_,?_,a9.box (kb (c5.ext a0) oM) oM,d0,?_,λb hb=>hb.elim (hQ b) λh=>by omega⟩
  .exact a9.ext ((b2.trans a0).trans' (a5.mono oM)) oM
  .have:=a9.1;omega
  .rw[dw a6];refine d9.but a9 (λhb=>?_) λad ha=>?_
   .obtain hb|hb:=hb
    .have:=hQ _ hb;omega
    .omega
   .obtain q|q:=c4 ad ha
    .exact d6 ad q
    .omega
 .have a6:i=g.length:=oM;subst a6;rw[eh]at o5;have rd:=(o5.read (by rw[b0];rw[b0]at b8;omega) d5).mono (S':=λb=>w4.heap.size<=b/\b<w5.heap.size) λb hb=>by
   rcases hb with hb|⟨ad,ha,rfl⟩
   .exact⟨hQ b hb,o5.lt b hb⟩
   .have:=o5.block ha;exact⟨this.1,this.2.1⟩
  refine⟨so,b9.at0 (r:=[]) xR rfl,stw0.intro c5 sI λw6 b6 _ h6=>⟨so,h6.at0 (r:=[]) xR rfl,?_⟩⟩;have z6:=b6.1;exact hR so w6 (b6.ext b2 oM) ((rd.but b6 λh=>by omega).mono λb hb=>by omega)
def ownMan_se{e v:Sl}{R:Sl->Sl->Sl->Sl->Wp}(hS:Old S w)(hm:ManS w S d e o v m)(hR:∀d' e' o' v' w',Ext w w'->ManS w' (λb=>w.heap.size<=b/\b<w'.heap.size) d' e' o' v' m->R d' e' o' v' w'):SE.Hf d e o v w R:=by
 unfold SE.Hf;refine newS.intro λa w1 x1 ha _ _=>newS.intro λa1 w2 x2 h1 a7 _=>bnd.drew λw3 x3=>⟨d,ha.at0 (x2.trans x3) rfl,e,ha.at1 (k:=1) (x2.trans x3) rfl,o,ha.at1 (k:=2) (x2.trans x3) rfl,v,ha.at1 (k:=3) (r:=[]) (x2.trans x3) rfl,?_⟩;have a0:=x1.trans (x2.trans x3);refine callX.intro (SE.EF.go (He (hS.ext a0.size) (hm.d.ext a0) λt1 w4 x4 r1=>⟨x4,_,rfl,?_⟩));have a4:=a0.trans x4;refine callX.intro (SE.EF.go (He (hS.ext a4.size) (hm.e.ext a4) λt2 w5 x5 r2=>⟨x5,_,rfl,?_⟩));have a5:=a4.trans x5;refine callX.intro (SE.EF.go (He (hS.ext a5.size) (hm.o.ext a5) λt3 w6 x6 r3=>⟨x6,_,rfl,?_⟩));have a6:=a5.trans x6;refine SE.EF.go (He (hS.ext a6.size) (hm.v.ext a6) λt4 w7 x7 r4=>⟨_,rfl,stw0.intro (h1.ext (x3.trans (x4.trans (x5.trans (x6.trans x7))))) sI λw8 b8 _ h8=>⟨t1,t2,t3,t4,h8.at0 (r:=[]) xR rfl,?_⟩⟩);have s1:=x1.size;have s2:=x2.size;have s3:=x3.size;have s4:=x4.size;have s5:=x5.size;have s6:=x6.size;have s7:=x7.size;have z8:=b8.1;have l1:=h1.lt;have up:∀{tt:Sl} {L:LD} {wa wb:Wd},SlP depP wb (λb=>wa.heap.size<=b/\b<wb.heap.size) tt L->Ext wb w7->w3.heap.size<=wa.heap.size->SlR depE w8 (λb=>w.heap.size<=b/\b<w8.heap.size) tt L:=λh hx a8=>by have:=hx.size;exact((h.dep.ext hx).but b8 λh=>by omega).mono λb hb=>by omega
 exact hR t1 t2 t3 t4 w8 (b8.ext (a6.trans x7) oM) ⟨up r1 (x5.trans (x6.trans x7)) nR,up r2 (x6.trans x7) oM,up r3 x7 oM,up r4 xR oM⟩
def Zfn{e v:Sl}{R:Sl->Sl->Sl->Sl->Sl->Sl->Bool->Wp}(hS:Old S w)(hs:SttS w S d e o v g t s)(hR:∀d' e' o' v' g' t' w',Ext w w'->SttS w' (λb=>w.heap.size<=b/\b<w'.heap.size) d' e' o' v' g' t' s->R d' e' o' v' g' t' s.pruned w'):SE.KV d e o v g t s.pruned w R:=by unfold SE.KV;refine newS.intro λa w1 x1 ha _ _=>newS.intro λa1 w2 x2 h1 a6 _=>bnd.drew λw3 x3=>⟨d,e,o,v,ha.at0 (x2.trans x3) rfl,g,ha.at1 (k:=4) (x2.trans x3) rfl,t,ha.at1 (k:=5) (x2.trans x3) rfl,_,ha.at1 (k:=6) (r:=[]) (x2.trans x3) rfl,?_⟩;have a0:=x1.trans (x2.trans x3);refine callX.intro (SE.Hf.go (ownMan_se (hS.ext a0.size) (hs.m.ext a0) λd' e' o' v' w4 x4 hm=>⟨x4,d',e',o',v',rfl,?_⟩));have a4:=a0.trans x4;refine callX.intro (SE.KU.go (Zfm (hS.ext a4.size) (hs.g.ext a4) λg' w5 x5 hg=>⟨x5,g',rfl,?_⟩));have a5:=a4.trans x5;refine callX.intro (SE.KW.go (Zfo (hS.ext a5.size) (hs.t.ext a5) λt' w6 x6 ht=>⟨x6,t',rfl,?_⟩));refine stw0.intro (h1.ext (x3.trans (x4.trans (x5.trans x6)))) sI λw8 b8 _ h8=>⟨d',e',o',v',g',t',_,h8.at0 (r:=[]) xR rfl,?_⟩;have s1:=x1.size;have s2:=x2.size;have s3:=x3.size;have s4:=x4.size;have s5:=x5.size;have s6:=x6.size;have z8:=b8.1;have l1:=h1.lt;refine hR d' e' o' v' g' t' w8 (b8.ext (a5.trans x6) oM) ⟨((hm.ext (x5.trans x6)).but b8 λh=>by omega).mono λb hb=>by omega,((hg.ext x6).but b8 λh=>by omega).mono λb hb=>by omega,(ht.but b8 λh=>by omega).mono λb hb=>by omega⟩
def Ww(t:Stl):LV:=[vi (t.src:Int),.string t.label,vi (t.dst:Int)]
def BN:Enc Stl:=DG 3 32 Ww (λt=>Ac t.label) (λ_=>rfl) (λ_ v hv=>by simp[Ww]at hv;rcases hv with rfl|rfl|rfl<;>rfl)
def Wx{s:Sl}{l:List Stl}(h:SlR BN w S s l)(hn:n<l.length):∃ad,s.a=some ad/\Ac l[n].label/\∀w',Ext w w'->ldc w' (ad.add (n*3)) [vi (l[n].src:Int),.string l[n].label,vi (l[n].dst:Int)]:=by obtain⟨ad,cs,h1,h2,⟨rfl,h3⟩,h4⟩:=h.el hn;exact⟨ad,h1,h3,h4⟩
section
variable {w:Wd} {p:Addr} {S:Nat->Prop} {c:PC} {G:LN} {P:List Pack} {old:Option (List Dir)} {s:PlS}
def Zgj{x:Bs}{R:Int->Wp}(h:PlV BN w p S c G P old s)(hR:∀w',Ext w w'->R (Ce (ER s src x)) w'):SE.Lj (some p) (src:Int) x w R:=by
 unfold SE.Lj;have a5:=h.st;have hl:=a5.len;refine⟨p,rfl,c.st,h.ld xR 8 (r:=[]) rfl,?_⟩;refine loop1.up a5.max (λi w'=>Ext w w'/\∀j (hj:j<s.done.length),j<i-> ¬(s.done[j].src=src/\s.done[j].label=x)) ⟨Ext.refl _,λ_ _ h=>by omega⟩ λi w1 b0 hi ⟨x1,hI⟩ hn=>⟨λa8=>?_,λa9=>?_⟩
 .have a4:i<s.done.length:=oM;obtain⟨ad,ha,_,a7⟩:=Wx a5 a4;refine⟨ad,⟨ha,oM,a8⟩,(s.done[i].src:Int),s.done[i].label,(s.done[i].dst:Int),by rw[ec];exact a7 _ x1,newS.set rfl λa w2 x2 a0 _=>⟨_,a0.at0 xR rfl,bound ⟨_,λ_=>a0.at1 (k:=1) xR rfl,λhc=>⟨_,a0.at1 (k:=2) (r:=[]) xR rfl,?_⟩,λhc=>?_⟩⟩⟩
  .simp only[dx,beq_iff_eq,AH]at hc;have e:ER s src x=some s.done[i].dst:=by unfold ER;rw[List.find?_eq_some_iff_getElem.2 ⟨by simp only[decide_eq_true_eq];exact⟨oM,hc.2⟩,i,a4,rfl,λj hj=>by rw[kh,decide_eq_false_iff_not];exact hI j oM hj⟩];rfl
   have:=hR w2 (x1.trans x2);rw[e]at this;exact this
  .refine hn a4 w2 ⟨x1.trans x2,λj hj a6=>?_⟩;obtain h'|h':=ik.1 a6
   .exact hI j hj h'
   .subst h';rintro⟨h1,h2⟩;rw[h1,h2,AH.2 rfl]at hc;simp at hc
 .have e:ER s src x=none:=by
   unfold ER;rw[kq.2 λt ht=>?_]
   .rfl
   .obtain⟨j,hj,rfl⟩:=fp.1 ht;rw[decide_eq_true_eq];exact hI j hj oM
  have:=hR w1 x1;rw[e]at this;exact this
def Zgq{j:Nat}(h:PlV E w p S c G P old s)(hi:i<s.dirs.length)(hj:j<s.dirs.length)(hR:∀w',Ext w w'->R (decide (Ae s.dirs j<+:Ae s.dirs i)) w'):SE.Lq (some p) (i:Int) (j:Int) w R:=by
 unfold SE.Lq;have b4:=Fs h;obtain⟨ad,qi,_,_,_,ha,_,_,a4,_,_,_,a8⟩:=h.dirEl hi;obtain⟨a6,qj,_,_,_,a7,_,_,a5,_,_,_,a9⟩:=h.dirEl hj;have e1:Ae s.dirs i=s.dirs[i].path:=Co (dt hi);have e2:Ae s.dirs j=s.dirs[j].path:=Co (dt hj);rw[e1,e2]at hR;generalize s.dirs[i].path=pi at*;generalize s.dirs[j].path=pj at*;have b5:=a4.len;have b0:=a5.len;have b2:pi.length<=qi.cap:=a4.2.1;refine bnd.drew λw1 x1=>⟨p,rfl,c.dr,h.ld x1 7 rfl,ad,⟨ha,oM,oM⟩,qi,by rw[ec];exact(a8 _ x1).pre rfl,p,rfl,c.dr,h.ld x1 7 rfl,a6,⟨a7,oM,oM⟩,qj,by rw[ec];exact(a9 _ x1).pre rfl,bound ⟨λhg=>?_,gCall.intro (decide (pi.take pj.length=pj)) (λhg q hq=>?_) λt w2 x2 ht=>?_⟩⟩
 .have:=of_decide_eq_true hg;exact⟨oM,oM⟩
 .have:=of_decide_eq_true hg;have a0:=(a4.ext x1).cut (a:=0) (b:=pj.length) (gn _) oM;rw[jv]at a0;rw[ec,b0];exact SE.Ht.go (PK a0 (a5.ext x1) λw2 x2=>⟨_,rfl,hq w2 x2⟩)
 .have:=hR w2 (x1.trans x2);have e:(decide ((qj.len:Int)<=(qi.len:Int))&&t)=decide (pj<+:pi):=by
   rw[gk,dx,decide_eq_true_iff,decide_eq_true_iff];constructor
   .rintro⟨h1,h2⟩;rw[ht (decide_eq_true h1),decide_eq_true_iff]at h2;rw[<-h2];exact List.take_prefix _ _
   .intro h1;have h2:=h1.length_le;have h3:(qj.len:Int)<=(qi.len:Int):=oM;refine⟨h3,?_⟩;rw[ht (decide_eq_true h3),decide_eq_true_iff];exact(List.prefix_iff_eq_take.1 h1).symm
  rw[e];exact this
def MK(s:PlS)(j:Nat)(x:Bs):Prop:=∃t∈s.done,t.label=x/\Ae s.dirs j<+:Ae s.dirs t.src/\(Ae s.dirs t.dst).length<=(Ae s.dirs j).length
def Zgp{j:Nat}{x:Bs}(h:PlV BN w p S c G P old s)(hd:OE s)(hj:j<s.dirs.length)(hR:∀(b:Bool) w',Ext w w'->(b=true↔MK s j x)->R b w'):SE.Lo (some p) (j:Int) x w R:=by
 unfold SE.Lo;have d1:=Fs h;obtain⟨b0,qj,_,_,_,b4,_,_,c6,_,_,_,b6⟩:=h.dirEl hj;have e2:Ae s.dirs j=s.dirs[j].path:=Co (dt hj);have a6:=h.st;have hl:=a6.len;have b8:=c6.len;rw[<-e2]at b8;refine⟨p,rfl,c.dr,h.ld xR 7 rfl,b0,⟨b4,oM,oM⟩,qj,by rw[ec];exact(b6 _ xR).pre rfl,p,rfl,c.st,h.ld xR 8 (r:=[]) rfl,?_⟩;refine loop1.up a6.max (λi w'=>Ext w w'/\∀k (hk:k<s.done.length),k<i-> ¬(s.done[k].label=x/\Ae s.dirs j<+:Ae s.dirs s.done[k].src/\(Ae s.dirs s.done[k].dst).length<=(Ae s.dirs j).length)) ⟨Ext.refl _,λ_ _ h=>by omega⟩ λi w1 d0 hi ⟨x1,hI⟩ hn=>⟨λc4=>?_,λd2=>?_⟩
 .have a4:i<s.done.length:=oM;obtain⟨ad,ha,_,c3⟩:=Wx a6 a4;obtain⟨c8,a8⟩:=hd _ (ff a4);obtain⟨b2,qt,_,_,_,b5,_,_,c7,_,_,_,b7⟩:=h.dirEl a8;have e3:Ae s.dirs s.done[i].dst=s.dirs[s.done[i].dst].path:=Co (dt a8);have c9:=c7.len;rw[<-e3]at c9;have a9:(s.done[i].label=x/\Ae s.dirs j<+:Ae s.dirs s.done[i].src/\(Ae s.dirs s.done[i].dst).length<=(Ae s.dirs j).length)->MK s j x:=λh=>⟨_,ff a4,h⟩;have a7: ¬(s.done[i].label=x/\Ae s.dirs j<+:Ae s.dirs s.done[i].src/\(Ae s.dirs s.done[i].dst).length<=(Ae s.dirs j).length)->∀w',Ext w w'->d0 (Aa ((i:Int)+1)) w':=λc5 w' hx=>hn a4 w' ⟨hx,λk hk b9=>by
   obtain h'|h':=ik.1 b9
   .exact hI k hk h'
   .subst h';exact c5⟩
  generalize s.done[i]=d at*;refine⟨ad,⟨ha,oM,c4⟩,(d.src:Int),d.label,(d.dst:Int),by rw[ec];exact c3 _ x1,newS.set rfl λa w2 x2 a5 _=>bnd.drew λw3 x3=>⟨_,a5.at1 (k:=1) x3 rfl,bound ⟨(d.src:Int),λ_=>a5.at0 x3 rfl,?_⟩⟩⟩;have a0:=x1.trans (x2.trans x3);refine gCall.intro (decide (Ae s.dirs j<+:Ae s.dirs d.src)) (λ_ q hq=>SE.Lq.go (Zgq (h.ext a0) c8 hj λw4 x4=>⟨_,rfl,hq w4 x4⟩)) λt w4 x4 ht=>bound ⟨p,λ_=>rfl,c.dr,λ_=>h.ld (a0.trans x4) 7 rfl,(d.dst:Int),λ_=>a5.at1 (k:=2) (r:=[]) (x3.trans x4) rfl,b2,λ_=>⟨b5,oM,oM⟩,qt,λ_=>by rw[ec];exact(b7 _ (a0.trans x4)).pre rfl,λhc=>?_,λhc=>?_⟩
  .simp only[dx,decide_eq_true_eq]at hc;obtain⟨⟨h1,h2⟩,h3⟩:=hc;rw[ht h1,decide_eq_true_iff]at h2;exact hR true w4 (a0.trans x4) ⟨λ_=>a9 ⟨AH.1 h1,h2,oM⟩,λ_=>rfl⟩
  .refine a7 (λ⟨h1,h2,h3⟩=>?_) w4 (a0.trans x4);have h1:=AH.2 h1;rw[ht h1,h1,decide_eq_true h2,decide_eq_true (show(qt.len:Int)<=(qj.len:Int) by omega)]at hc;cases hc
 .refine hR false w1 x1 ⟨nO,λ⟨t,ht,hq⟩=>?_⟩;obtain⟨k,hk,rfl⟩:=fp.1 ht;exact absurd hq (hI k hk oM)
end
def LeastO(Q:Nat->Prop):Option Nat->Prop
 |none=>∀n,¬Q n
 |some n=>Q n/\∀m,Q m->n<=m
def LeastO.iff{Q Q':Nat->Prop}{o:Option Nat}(h:LeastO Q o)(e:∀n,Q n↔Q' n):LeastO Q' o:=by
 cases o with
 |none=>exact λn hn=>h n ((e n).2 hn)
 |some n=>exact⟨(e n).1 h.1,λm hm=>h.2 m ((e m).2 hm)⟩
def XZ{s:PlS}{q:Aq}{x:Bs}{like:Nat->Bool}{bo lo:Option Nat}(hb:LeastO (Spot s q x) bo)(hl:LeastO (λn=>Spot s q x n/\like n=true) lo)(a0:∃n,Spot s q x n):∃n,Best s q x like n/\(match lo with|some m=>m=n|none=>bo=some n):=by
 cases lo with
 |some m=>exact⟨m,⟨hl.1.1,λ_ _ _=>hl.1.2,λk hk e=>hl.2 k ⟨hk,e.trans hl.1.2⟩⟩,rfl⟩
 |none=>
  cases bo with
  |none=>obtain⟨n,hn⟩:=a0;exact absurd hn (hb n)
  |some n=>
   have a4:∀k,Spot s q x k->like k=false:=λk hk=>by
    cases hlk:like k with
    |false=>rfl
    |true=>exact absurd ⟨hk,hlk⟩ (hl k)
   exact⟨n,⟨hb.1,(λm hm h=>by rw[a4 m hm]at h;cases h),λm hm _=>hb.2 m hm⟩,rfl⟩
section
variable {w:Wd} {p:Addr} {S:Nat->Prop} {c:PC} {G:LN} {P:List Pack} {old:Option (List Dir)} {s:PlS}
def Dq(s:PlS)(q:Aq)(o:Option Nat):Int:=Ce (o.bind λn=>Ax s.dirs (q.take n))
def Zgo{k:Nat}{R:Int->Wp}(h:PlV BN w p S c G P old s)(hd:OE s)(d8:src<s.dirs.length)(h8:k<G.length)(f1:k<P.length)(hx:Ac G[k].name)(hb:(Ae s.dirs src).length<=4000000)
  (b8:∀n,n<=(Ae s.dirs src).length->∃h,Ax s.dirs ((Ae s.dirs src).take n)=some h) (e9:∃n,Spot s (Ae s.dirs src) G[k].name n)
  (hR:∀n j w',Ext w w'->Best s (Ae s.dirs src) G[k].name (λn=>KB old P ((Ae s.dirs src).take n++[G[k].name]) k) n->Ax s.dirs ((Ae s.dirs src).take n)=some j->R (j:Int) w'):SE.Ln (some p) (src:Int) (k:Int) w R:=by
 unfold SE.Ln;have j7:=Fs h;have j9:=h.g.len;have k1:=h.pk.len;obtain⟨f9,_,_,g3,_,_,_,f2⟩:=C6 h.g h8;obtain⟨ad,t,_,_,_,ha,_,_,ht,_,_,_,hc⟩:=h.dirEl d8;have e1:Ae s.dirs src=s.dirs[src].path:=Co (dt d8);rw[e1]at hb b8 e9 hR;generalize s.dirs[src].path=q at*;generalize G[k].name=x at*;have k2:=ht.len;have j4:q.length<=t.cap:=ht.2.1;refine⟨p,rfl,c.u,h.ld0 xR,f9,⟨g3,oM,oM⟩,x,by rw[ec];exact(f2 _ xR).pre rfl,p,rfl,c.dr,h.ld xR 7 rfl,ad,⟨ha,oM,oM⟩,t,by rw[ec];exact(hc _ xR).pre rfl,join.named λJ hJ=>?_⟩;let like:=λn=>KB old P (q.take n++[x]) k;have d4:∀bo lo w',Ext w w'->LeastO (Spot s q x) bo->LeastO (λn=>Spot s q x n/\like n=true) lo->J (Dq s q bo) (Dq s q lo) w':=λbo lo w' hx b6 a6=>by
  rw[hJ];obtain⟨n,b5,hm⟩:=XZ b6 a6 e9;obtain⟨j,hj⟩:=b8 n b5.spot.le;have hr:=hR n j w' hx b5 hj;cases lo with
  |some m=>
   obtain rfl:m=n:=hm;have e:Dq s q (some m)=(j:Int):=by unfold Dq;rw[my,hj];rfl
   rw[e];exact⟨λ_=>hr,λh=>by omega⟩
  |none=>have hm:bo=some n:=hm;subst hm;have e:Dq s q (some n)=(j:Int):=(by unfold Dq;rw[my,hj];rfl);rw[e];exact⟨nO,λ_=>hr⟩
 clear hJ;refine loop3.ghost (λi d2 c5 vk w'=>∃bo lo:Option Nat,vk=(i:Int) - 1/\i<=q.length+1/\Ext w w'/\d2=Dq s q bo/\c5=Dq s q lo/\(∀m,i<=m->m<=q.length->Ax s.dirs (q.take m++[x])=none)/\LeastO (λn=>i<=n/\Spot s q x n) bo/\LeastO (λn=>i<=n/\Spot s q x n/\like n=true) lo) (q.length+1)
  ⟨none,none,oM,fm _,Ext.refl _,rfl,rfl,λm h1 h2=>by omega,λn hn=>by have:=hn.2.le;omega,λn hn=>by have:=hn.2.1.le;omega⟩ λi d2 c5 vk w1 k4 ⟨bo,lo,k3,hi,x1,g5,h9,d3,b6,a6⟩ i4=>?_
 subst g5 h9;refine⟨λj8=>join.named λJ2 e5=>bnd.drew λw2 x2=>?_,λi2=>?_⟩
 rotate_left
 .obtain rfl:i=0:=oM;exact d4 bo lo w1 x1 (b6.iff λn=>⟨λh=>h.2,λh=>⟨gn _,h⟩⟩) (a6.iff λn=>⟨λh=>h.2,λh=>⟨gn _,h⟩⟩)
 obtain⟨m,rfl⟩:∃m,i=m+1:=⟨i - 1,oM⟩;have j0:vk=(m:Int):=oM;subst j0;have c8:m<=q.length:=oM;have b4:∀c6 c9 w',Ext w w'->Ax s.dirs (q.take m++[x])=none->LeastO (λn=>m<=n/\Spot s q x n) c6->LeastO (λn=>m<=n/\Spot s q x n/\like n=true) c9->J2 (Dq s q c6) (Dq s q c9) w':=λc6 c9 w' hx hm h1 h2=>by
  rw[e5];refine i4 m _ _ _ w' oM ⟨c6,c9,?_,oM,hx,rfl,rfl,λn h3 h4=>?_,h1,h2⟩
  .rw[Ag oM oM]
  .by_cases hn:n=m
   .rw[hn];exact hm
   .exact d3 n oM h4
 clear e5;have d0:=x1.trans x2;obtain⟨j,hj⟩:=b8 m c8;obtain⟨dj,e8,i9⟩:=E5 hj;have h7:j<s.dirs.length:=(fh.1 e8).1;have d9:Ae s.dirs j=q.take m:=by rw[Co e8];exact i9
 have d6:(q.take m).length=m:=by rw[fb];omega
 have b7:=(ht.ext d0).cut (a:=0) (b:=m) (gn _) c8;rw[jv]at b7;refine⟨p,rfl,c.dr,h.ld d0 7 rfl,⟨oM,oM⟩,?_⟩;rw[ec];refine SE.EX.go (Jf (h.dr.ext d0) b7 λw3 x3=>⟨_,rfl,⟨oM,oM⟩,?_⟩);rw[Kc,NK,hj];have f7:=d0.trans x3;refine SE.Gg.go (Nf (h.lt.ext f7.size) (b7.ext x3) λt4 w4 x4 o4=>⟨_,rfl,newS.intro λa w5 x5 g4 _ _=>?_⟩);refine(o4.ext x5).pushF (x4.trans x5) GA (x:=x) ⟨rfl,hx⟩ (g4.ldc.pre (r:=[]) rfl) dC (by show _*16<=Ab;unfold Ab;omega) λt6 w6 o6 x6=>?_;have e3:=f7.trans x6;have f0:SlR strE w6 (λb=>w3.heap.size<=b) t6 (q.take m++[x]):=o6.strs (by rw[du,d6,gl];omega);refine⟨p,rfl,c.dr,h.ld e3 7 rfl,SE.EX.go (Jf (h.dr.ext e3) f0 λw7 x7=>⟨_,rfl,λhc=>?_,λhc=>?_⟩)⟩
 all_goals
  rw[Kc,NK]at hc;have d1:=e3.trans x7
 .have e2:Ax s.dirs (q.take m++[x])≠none:=λe=>by rw[e]at hc;exact absurd hc dC
  have d5:∀n,Spot s q x n->m+1<=n:=λn hn=>iw λi2=>e2 (hn.clear m oM c8);exact d4 bo lo w7 d1 (b6.iff λn=>⟨λh=>h.2,λh=>⟨d5 n h,h⟩⟩) (a6.iff λn=>⟨λh=>h.2,λh=>⟨d5 n h.1,h⟩⟩)
 have a5:Ax s.dirs (q.take m++[x])=none:=by
  cases hf:Ax s.dirs (q.take m++[x])with
  |none=>rfl
  |some i=>rw[hf]at hc;exact absurd (KS.2 ⟨i,rfl⟩) hc
 have c4:MK s j x↔ ¬Spot s q x m:=by
  unfold MK;rw[d9,d6];constructor
  .rintro⟨u,h1,h2,h3,h4⟩ c3;have:=c3.keep u h1 h2 h3;omega
  .intro a7;refine iw λi3=>a7 ⟨c8,λn h1 h2=>?_,λu h1 h2 h3=>iw λh4=>i3 ⟨u,h1,h2,h3,oM⟩⟩;by_cases hn:n=m
   .rw[hn];exact a5
   .exact d3 n oM h2
 have up:∀{Q:Nat->Prop} {o:Option Nat},LeastO (λn=>m+1<=n/\Q n) o-> ¬Q m->LeastO (λn=>m<=n/\Q n) o:=λho hq=>ho.iff λn=>⟨λh=>⟨oM,h.2⟩,λh=>⟨by
  obtain e|e:=Nat.eq_or_lt_of_le h.1
  .rw[e]at hq;exact absurd h.2 hq
  .omega,h.2⟩⟩
 have new:∀{Q:Nat->Prop},Q m->LeastO (λn=>m<=n/\Q n) (some m):=λhq=>⟨⟨fm _,hq⟩,λn h=>h.1⟩;refine SE.Lo.go (Zgp (h.ext d1) hd h7 λb w8 x8 e7=>⟨b,rfl,λc7=>?_,λc7=>?_⟩)
 .have a7: ¬Spot s q x m:=c4.1 (e7.1 c7);exact b4 bo lo w8 (d1.trans x8) a5 (up b6 a7) (up a6 λh=>a7 h.1)
 have c3:Spot s q x m:=iw λa7=>by rw[e7.2 (c4.2 a7)]at c7;cases c7
 have a9:=d1.trans x8;have b2:Dq s q (some m)=(j:Int):=by unfold Dq;rw[my,hj];rfl
 have k0:Ce (some j)=(j:Int):=rfl;have no:∀w',Ext w w'->like m=false->J2 (j:Int) (Dq s q lo) w':=λw' hx hl=>by rw[<-b2];exact b4 (some m) lo w' hx a5 (new c3) (up a6 λh=>by rw[hl]at h;cases h.2)
 refine⟨p,rfl,c.ol,h.ld a9 6 rfl,λh0=>?_,λh0=>?_⟩
 .have i7:old=none:=by have:=h.old;rw[h0]at this;exact this.none_
  exact no w8 a9 (by show KB old P _ k=false;rw[i7];rfl)
 obtain⟨ao,T,e6,i6,j6,f6,d7,b9⟩:=h.old.some_ h0;refine⟨p,rfl,c.ol,h.ld a9 6 rfl,ao,e6,f6,d7.ext a9,SE.EX.go (Jf (b9.ext a9) (f0.ext (x7.trans x8)) λw9 x9=>⟨_,rfl,bnd.drew λj2 j3=>bound ?_⟩)⟩;have a0:=a9.trans (x9.trans j3);rw[Kc];have a4:like m=match Ax (T.map AJ) (q.take m++[x])with
  |none=>false
  |some i=>decide (T[i]?.map Dir.pack=P[k]?):=by show KB old P _ k=_;rw[i6];rfl
 have j5:=b9.len;cases hf:Ax (T.map AJ) (q.take m++[x])with
 |none=>rw[hf]at a4;refine⟨p,nO,none,nO,p,nO,t,nO,ad,nO,⟨#[]⟩,0,0,0,t,t,t,nO,p,nO,t,nO,ad,nO,⟨#[]⟩,0,0,0,t,t,t,nO,?_⟩;exact gCall.intro true nO λj1 a8 b0 _=>⟨λh=>(by cases h),λ_=>no a8 (a0.trans b0) a4⟩
 |some v=>
  rw[hf]at a4;have f5:v<T.length:=by obtain⟨d,h1,_⟩:=E5 hf;have:=(fh.1 h1).1;rwa [dz]at this
  have a4:like m=decide (T[v].pack=P[k]):=by rw[a4];show decide (T[v]?.map Dir.pack=P[k]?)=_;rw[dt f5,dt f1,je];simp only[eu]
  obtain⟨e4,qT,dT,eT,oT,g2,_,_,_,g9,h6,f4,g7⟩:=dirEl b9 f5;obtain⟨f8,dP,eP,oP,g1,_,_,g8,h5,i5,g6⟩:=IE h.pk f1;have e0:decide (0<=Ce (some v))=true:=decide_eq_true (by show(0:Int)<=(v:Int);omega);rw[e0];refine⟨p,λ_=>rfl,c.ol,λ_=>h.ld a0 6 rfl,ao,λ_=>e6,f6,λ_=>d7.ext a0,e4,λ_=>⟨g2,by show(0:Int)<=(v:Int);omega,by show(v:Int)<_;omega⟩,T[v].pack.name,T[v].pack.v.ma,T[v].pack.v.mi,T[v].pack.v.pa,dT,eT,oT,λ_=>?_,p,λ_=>rfl,c.ps,λ_=>h.ld a0 1 rfl,f8,λ_=>⟨g1,oM,oM⟩,P[k].name,P[k].v.ma,P[k].v.mi,P[k].v.pa,dP,eP,oP,λ_=>by rw[ec];exact g6 _ a0,?_⟩
  .show ldc j2 ((e4.add (v*9)).add 1) _;exact(g7 _ a0).mid (k:=1) rfl
  refine gCall.intro (decide (T[v].pack=P[k])) (λ_ r hr=>SE.F2.go (KX (p:=T[v].pack) (q:=P[k]) (g9.ext a0) (h6.ext a0) (f4.ext a0) (g8.ext a0) (h5.ext a0) (i5.ext a0) λa8 b0=>⟨_,rfl,hr a8 b0⟩)) λj1 a8 b0 g0=>?_;rw[g0 rfl,<-a4];refine⟨λhl=>?_,λhl=>no a8 (a0.trans b0) (by simpa using hl)⟩;have hl:like m=true:=by simpa using hl
  have:=b4 (some m) (some m) a8 (a0.trans b0) a5 (new c3) (new ⟨c3,hl⟩);rw[b2]at this;exact this
end
end Go.Hal
namespace Go.Hal
def gCall.yes{τ:Sort _}{k:τ}{A B:τ->Prop}(h:A k):gCall true k A B:=⟨λ_=>h,nO⟩
def gCall.no{τ:Sort _}{k:τ}{A B:τ->Prop}(h:B k):gCall false k A B:=⟨nO,λ_=>h⟩
def Ff{α:Type}(nm:α->Bs)(l:List α)(i:Nat):Prop:=RiseN nm (l.take i)/\∀q∈l.take i,Af (nm q)=true
def UZ{α:Type}{nm:α->Bs}{l:List α}:Ff nm l 0:=⟨.nil,λ_ h=>nomatch h⟩
def UY{α:Type}{nm:α->Bs}{l:List α}(hi:i<l.length){t:Bs}(ht:0<i->t=nm (l[i - 1]'oM)):
  ((!Af (nm l[i])||(decide (0<(i:Int))&& !Ao t (nm l[i])))=false->Ff nm l i->Ff nm l (i+1))/\((!Af (nm l[i])||(decide (0<(i:Int))&& !Ao t (nm l[i])))=true-> ¬Ff nm l l.length):=by
 constructor
 .intro hc ⟨h1,h2⟩;simp only[gb,ox,mh,decide_eq_false_iff_not]at hc;refine⟨?_,λq hq=>?_⟩
  .by_cases h0:i=0
   .subst h0;exact QQ
   .refine QR oM hi h1 ?_;obtain h3|h3:=hc.2
    .omega
    .rw[ht oM]at h3;exact h3
  .rw[dw hi]at hq;obtain hq|hq:=fk.1 hq
   .exact h2 q hq
   .rw[ep.1 hq];exact hc.1
 .intro hc ⟨h1,h2⟩;rw[eh]at h1 h2;simp only[ni,kh,dx,decide_eq_true_eq]at hc;rcases hc with h3|⟨h3,h4⟩
  .rw[h2 _ (ff hi)]at h3;cases h3
  .rw[ht oM]at h4;exact QP oM hi h4 h1
structure NodeR(G:LN)(P:List Pack)(i:Nat)(x:Node):Prop where
 root:i=0->x.key=rootNode.key/\P[0]?=some Ay
 pl:NodePl G P i x
 cn:∀q∈x.ctx,Af q.name=true
 en:∀e∈x.edges,Af e.name=true
def PlaceOk.ctxName(h:PlaceOk G P){x:Node}(hx:G[i]?=some x):∀q∈x.ctx,Af q.name=true:=λq hq=>by obtain⟨y,hy,_⟩:=(h.node i x hx).full q hq;obtain⟨ed,h1,h2,_⟩:=Zz hy;rw[<-h2];exact h.name hx h1
def PlaceOk.nodeR(h:PlaceOk G P){x:Node}(hx:G[i]?=some x):NodeR G P i x:=
 ⟨λh0=>by subst h0;obtain⟨y,h1,h2⟩:=h.root;rw[hx]at h1;cases h1;exact⟨h2,h.zero⟩,h.node i x hx,h.ctxName hx,λe he=>h.name hx he⟩
def YK(h:PlaceOk G P)(k:Nat):∀q∈BR G k,Af q.name=true:=λq hq=>by
 unfold BR at hq;split at hq
 .rename_i x hx;exact h.ctxName hx q hq
 .cases hq
def PlaceOk.edgeAt(h:PlaceOk G P){k:Nat}{e:Edge}(he:e∈Az G k):Af e.name=true/\∀y,G[e.to.toNat]?=some y->y.name=e.name:=by
 unfold Az at he;split at he
 .rename_i x hx;refine⟨h.name hx he,λy hy=>?_⟩;obtain⟨j,z,h1,_,h3,h4⟩:=(h.node k x hx).edge e he;rw[h1,ec,h3]at hy;cases hy;exact h4
 .cases he
def PlaceOk.packAt(h:PlaceOk G P){k:Nat}{e:Edge}(he:e∈Az G k):∀y,P[e.to.toNat]?=some y->y.name=e.name:=λy hy=>by
 unfold Az at he;split at he
 .rename_i x hx;obtain⟨j,z,h1,h2,h3,h4⟩:=(h.node k x hx).edge e he;obtain⟨q,q1,_,q3,_⟩:=(h.node j z h3).pack oM;rw[h1,ec,q1]at hy;cases hy;rw[q3,h4]
 .cases he
def Vt{s:PlS}(hb:∀d∈s.dirs,d.path.length<=n)(hi:i<s.dirs.length):(Ae s.dirs i).length<=n:=by rw[Co (dt hi)];exact hb _ (ff hi)
def XH:B0 prog 145 295 3 32:=CD (z:=.agg #[vi 0,.string ⟨#[]⟩,vi 0]) kR kR rfl dC
section
variable {w:Wd} {lo:Nat} {p:Addr} {S:Nat->Prop} {c:PC} {G:LN} {P:List Pack} {old:Option (List Dir)} {s:PlS}
def PlV.at_(h:PlV E w p S c G P old s)(hi:i<s.dirs.length):
  ∃ad q,c.dr.a=some ad/\((0:Int)<=(i:Int)/\(i:Int)<(c.dr.len:Int))/\SlR strE w S q (Ae s.dirs i)/\(∀w',Ext w w'->ldc w' (ad.add (i*9)) [q.v])/\∀w',Ext w w'->ldc w' ((ad.add (i*9)).add 8) [vi (nodeAt s.dirs i:Int)]:=by
 obtain⟨ad,q,d,e,o,h1,_,_,h2,_,_,_,h3⟩:=h.dirEl hi;rw[Co (dt hi),Hc (dt hi)];have:=Fs h;exact⟨ad,q,h1,⟨oM,oM⟩,h2,λw' hx=>(h3 w' hx).pre rfl,λw' hx=>(h3 w' hx).mid (k:=8) (r:=[]) rfl⟩
def Qj{x:Bs}(hi:i<s.dirs.length)(hx:Af x=true):FV (s.dirs.map (Bh P)) i x=Ce (AM s.dirs (Ae s.dirs i) x (Ae s.dirs i).length):=by
 have hl:i<(s.dirs.map (Bh P)).length:=by simpa using hi
 rw[UC hl,hx,if_pos rfl,NK];have:((s.dirs.map (Bh P))[i]).path=Ae s.dirs i:=by rw[na,Co (dt hi)];rfl
 rw[this]
def Q9(hb:∀d∈s.dirs,d.path.length<=4000000):∀d∈s.dirs.map (Bh P),d.path.length<=4000000000000:=λd hd=>by obtain⟨y,hy,rfl⟩:=gq.1 hd;have:=hb y hy;show y.path.length<=_;omega
def Zd5{o:Option Nat}{d:Nat}:(Ce o==Ce (some d))=decide (o=some d):=by
 rw[gk,beq_iff_eq,decide_eq_true_iff];constructor
 .intro h;cases o with
  |none=>have h:(-1:Int)=(d:Int):=h;omega
  |some m=>have h:(m:Int)=(d:Int):=h;congr 1;omega
 .intro h;rw[h]
def Zgg{I:PlI}(hG:I.g=G){to:Nat}(hv:PlV BN w p S c G P old s)(a6:to<s.dirs.length)(d0:∀d∈s.dirs,d.node<G.length)(hb:∀d∈s.dirs,d.path.length<=4000000)(a8:∀k,∀q∈BR G k,Af q.name=true)
  (hR:∀(b:Bool) w',Ext w w'->(b=true↔HB I s src to)->R b w'):SE.Le (some p) (to:Int) (src:Int) w R:=by
 unfold SE.Le;have d6:=Fs hv;have d8:=hv.g.len;obtain⟨ad,qs,ha,hl,_,_,c7⟩:=hv.at_ a6;have hn:nodeAt s.dirs to<G.length:=by rw[Hc (dt a6)];exact d0 _ (ff a6)
 have a0:∀w',Ext w w'-> ¬HB I s src to->R false w':=λw' hx h=>hR false w' hx ⟨nO,λhf=>absurd hf h⟩;have a8:=a8 (nodeAt s.dirs to);unfold HB at a0 hR;rw[hG]at a0 hR;obtain⟨b9,cg,eg,c5,_,b0,_,b5⟩:=C6 hv.g hn;have d5:=b0.len;have c4:BR G (nodeAt s.dirs to)=G[nodeAt s.dirs to].ctx:=by unfold BR;rw[dt hn]
 rw[c4]at a0 hR a8;generalize d9:nodeAt s.dirs to=nd at*;refine bnd.drew λw1 x1=>⟨p,rfl,c.u,hv.ld0 x1,p,rfl,c.dr,hv.ld x1 7 rfl,ad,⟨ha,hl⟩,(nd:Int),by rw[ec];exact c7 _ x1,b9,⟨c5,oM,oM⟩,cg,by rw[ec];exact(b5 _ x1).mid (k:=4) rfl,?_⟩;generalize G[nd].ctx=cx at*;refine loop1.up b0.max (λk w'=>Ext w1 w'/\∀q∈cx.take k,∃d,ER s src q.name=some d/\AM s.dirs (Ae s.dirs to) q.name (Ae s.dirs to).length=some d) ⟨Ext.refl _,(λ_ h=>by cases h)⟩ λk w3 d4 hk ⟨x3,hI⟩ c9=>⟨λc8=>?_,λd7=>?_⟩
 .have a4:k<cx.length:=oM;obtain⟨c3,c6,_,d2,b6⟩:=Dg b0 a4;have a9:=ff a4;have d3:cx.take (k+1)=cx.take k++[cx[k]]:=dw a4;have b7:=x1.trans x3;have hq:=a8 _ a9;have b4:∀w',Ext w1 w'->(∃d,ER s src cx[k].name=some d/\AM s.dirs (Ae s.dirs to) cx[k].name (Ae s.dirs to).length=some d)->d4 (Aa ((k:Int)+1)) w':=λw' x' hd=>c9 a4 w' ⟨x',λq hq=>by
   rw[d3]at hq;obtain hq|hq:=fk.1 hq
   .exact hI q hq
   .rw[ep.1 hq];exact hd⟩
  have a5:∀w',Ext w w'-> ¬(∃d,ER s src cx[k].name=some d/\AM s.dirs (Ae s.dirs to) cx[k].name (Ae s.dirs to).length=some d)->R false w':=λw' hx d1=>a0 w' hx λhF=>d1 (hF _ a9);generalize cx[k]=q at*;refine⟨c3,⟨c6,oM,c8⟩,q.name,q.v.ma,q.v.mi,q.v.pa,by rw[ec];exact b6 _ b7,newS.set rfl λa w4 x4 b2 _=>⟨q.name,b2.at0 xR rfl,SE.Lj.go (Zgj (hv.ext (b7.trans x4)) λw5 x5=>⟨_,rfl,bnd.drew λw6 x6=>bound ?_⟩)⟩⟩;have b8:=x3.trans (x4.trans (x5.trans x6));have a7:=x1.trans b8;cases hst:ER s src q.name with
  |none=>exact⟨p,nO,Sl.nil,nO,q.name,nO,gCall.no ⟨λ_=>a5 w6 a7 (λ⟨d,h1,_⟩=>by rw[hst]at h1;cases h1),nO⟩⟩
  |some d=>have e0:decide (Ce (some d)<0)=false:=decide_eq_false (by show ¬(d:Int)<0;omega);rw[e0];refine⟨p,λ_=>rfl,c.dr,λ_=>hv.ld a7 7 rfl,q.name,λ_=>b2.at0 (x5.trans x6) rfl,gCall.yes (SE.Gv.go (NH (hv.lt.ext a7.size) (hv.dr.ext a7) (by simpa using a6) d2 (Q9 hb) λw7 x7=>⟨_,rfl,?_⟩))⟩;rw[Qj a6 hq];dsimp only;rw[Zd5,pq];refine⟨λhc=>a5 w7 (a7.trans x7) λ⟨d',h1,h2⟩=>?_,λhc=>b4 w7 (b8.trans x7) ⟨d,hst,by simpa using hc⟩⟩;rw[hst]at h1;cases h1;rw[decide_eq_true h2]at hc;cases hc
 .have a4:k=cx.length:=oM;rw[a4,eh]at hI;exact hR true w3 (x1.trans x3) ⟨λ_=>hI,λ_=>rfl⟩
def V3{to:Nat}{x:Bs}{R:Wp}(h:MlV BN 295 w lo p S c G P old s)(a4:Ac x)(hs:s.done.length<=1000000)
  (hR:∀r w',MlV BN 295 w' lo p S {c with st:=r} G P old ⟨s.dirs,s.done++[⟨src,x,to⟩]⟩->Mv lo p c w {c with st:=r} w'->(∀b,b<w.heap.size->b≠p.block->(∀ad,c.st.a=some ad->b≠ad.block)->w'.heap[b]?=w.heap[b]?)->R w'):SE.IG (some p) (src:Int) x (to:Int) w R:=by
 unfold SE.IG;refine⟨p,rfl,c.st,h.box.at1 (k:=8) (r:=[]) xR rfl,newS.intro λa w1 x1 a0 _ _=>?_⟩;exact(h.ext x1).pushSO XH (x:=⟨src,x,to⟩) (λw=>⟨rfl,a4⟩) (λh=>h) (a0.ldc.pre (r:=[]) rfl) ⟨by show _*32<=Ab;unfold Ab;omega,by rw[Al];omega⟩ λr w2 h2 m2 o2=>hR r w2 h2 ((Mv.of x1 h.lo_le).trans m2) λb hb h1 h3=>(o2 b (by have:=x1.size;omega) h1 h3).trans (x1.block hb)
def Zgm{hm k:Nat}{x:Bs}{R:Int->Int->Wp}(hv:MlV BN 295 w lo p S c G P old s)(hd:s.dirs.length<=1000)(hs:s.done.length<=1000000)(hb:∀d∈s.dirs,d.path.length<=1000)(hh:hm<s.dirs.length)(hP:k<P.length)(hn:P[k].name=x)
  (h1:∀w',Ext w w'->c.l4<((A5 (Ae s.dirs hm++[x])).length:Int)->R 0 40 w')
  (h2:∀w',Ext w w'->((A5 (Ae s.dirs hm++[x])).length:Int)<=c.l4->c.l3<(s.dirs.length:Int)->R 0 41 w')
  (h3:∀r w',((A5 (Ae s.dirs hm++[x])).length:Int)<=c.l4->(s.dirs.length:Int)<=c.l3->MlV BN 295 w' lo p S {c with dr:=r} G P old ⟨s.dirs++[⟨Ae s.dirs hm++[x],k⟩],s.done⟩->Mv lo p c w {c with dr:=r} w'->R (s.dirs.length:Int) 0 w'):
  SE.Lm (some p) (hm:Int) (k:Int) w R:=by
 unfold SE.Lm;have a5:=hv.read hd ⟨by show _*32<=Ab;unfold Ab;omega,by rw[Al];omega⟩;have f6:=Vt hb hh;have f2:=Fs a5;have f1:=hv.pk.len;have e3:=hv.lo_le;obtain⟨c8,qh,d0,e2,b9,d5,_⟩:=a5.at_ hh;obtain⟨c7,dP,eP,oP,c9,_,b5,d7,e0,e5,d4⟩:=IE hv.pk hP;have e1:P.getD k Ay=P[k]:=by rw[ko,dt hP];rfl
 have c4:Ac x:=by rw[<-hn];exact b5
 refine⟨p,rfl,c.ps,a5.ld xR 1 rfl,c7,⟨c9,oM,oM⟩,_,_,_,_,dP,eP,oP,by rw[ec];exact d4 _ xR,newS.set rfl λa w1 x1 b6 _=>?_⟩;generalize hq:Ae s.dirs hm=q at*;refine join.named λJ hJ=>?_;have key:∀(np:Sl)(w2:Wd),Ext w1 w2->SlR strE w2 (λb=>w.heap.size<=b/\b<w2.heap.size) np (q++[x])->J np w2:=by
  subst hJ;intro np w2 e8 b7;have f7:(q++[x]).length<=1001:=by rw[du,gl];omega
  refine bnd.drew λw3 x3=>?_;have c5:=e8.trans x3;have b2:=x1.trans c5;refine⟨p,rfl,c.l4,by rw[CX];exact hv.box.at1 (k:=5) b2 rfl,callX.intro (SE.Eh.go (Hy (b7.ext x3) oM λw4 x4=>⟨x4,_,rfl,λa6=>?_,λe6=>bnd.drew λw5 x5=>?_⟩))⟩
  .rw[Ad]at a6;exact h1 w4 (b2.trans x4) a6
  rw[Ad]at e6;have a9:=b2.trans (x4.trans x5);have ew:Aa ((c.dr.len:Int) - 1)=(s.dirs.length:Int) - 1:=by rw[Ag oM oM];omega
  refine⟨p,rfl,c.dr,a5.ld a9 7 rfl,p,rfl,c.l3,by rw[CX];exact hv.box.at1 (k:=4) a9 rfl,?_⟩;rw[ew];refine⟨λd8=>h2 w5 a9 oM oM,λe7=>bnd.drew λw6 x6=>?_⟩;have a0:=a9.trans x6;have f0:=c5.trans (x4.trans (x5.trans x6));refine⟨p,rfl,c.dr,a5.ld a0 7 rfl,_,_,_,_,dP,eP,oP,b6.at0 (r:=[]) f0 rfl,callX.intro (SE.ID.go (Vn (p:=P[k]) (hv.lt.ext a0.size) (d7.ext a0) (e0.ext a0) (e5.ext a0) λd' e' o' w7 x7 d6 d9 e4=>⟨x7,_,_,_,_,d',e',o',rfl,newS.intro λa8 w8 x8 d3 _ _=>?_⟩))⟩;have b4:=a0.trans (x7.trans x8);have c6:=x3.trans (x4.trans (x5.trans (x6.trans (x7.trans x8))));have f9:=a0.size;have g0:=b4.size;have g1:=c6.size;have s8:=x8.size;have c3:dirE.rep w8 (λb=>w.heap.size<=b/\b<w8.heap.size) (Bh P ⟨q++[x],k⟩) [np.v,.string P[k].name,.int .i64 P[k].v.ma,.int .i64 P[k].v.mi,.int .i64 P[k].v.pa,d'.v,e'.v,o'.v,vi (k:Int)]:=by have b8:(Bh P ⟨q++[x],k⟩)=⟨q++[x],P[k],(k:Int)⟩:=(by unfold Bh;rw[e1]);rw[b8];exact⟨b5,np,d',e',o',rfl,(b7.ext c6).mono λb hb=>⟨hb.1,oM⟩,(d6.dep.ext x8).mono λb hb=>⟨oM,oM⟩,(d9.dep.ext x8).mono λb hb=>⟨oM,oM⟩,(e4.dep.ext x8).mono λb hb=>⟨oM,oM⟩⟩
  refine(hv.ext b4).pushD (x:=⟨q++[x],k⟩) c3 (d3.ldc.pre (r:=[]) rfl) (λb hb=>?_) hd λr w9 h9 m9=>?_
  .have f5:=hv.box.lt;refine⟨hb.2,oM,λad ha e=>?_,λad ha e=>?_,.inr oM⟩
   .obtain⟨D,o,_⟩:=hv.dr;have:=(o.block ha).2.1;omega
   .have:=(hv.st.block ha).2.1;omega
  .have f4:r.len=s.dirs.length+1:=(by obtain⟨D,o,_⟩:=h9.dr;have:r.len=((s.dirs++[(⟨q++[x],k⟩:Dr)]).map (Bh P)).length:=o.len;simpa using this);refine⟨p,rfl,r,h9.box.at1 (k:=7) xR rfl,?_⟩;have e9:Aa ((r.len:Int) - 1)=(s.dirs.length:Int):=(by rw[Ag oM oM];omega);rw[e9];exact h3 r w9 oM oM h9 ((Mv.of b4 e3).trans m9)
 clear hJ;refine bnd.drew λw2 x2=>?_;have a7:=x1.trans x2;have f8:=a7.size;have b0:Old (λb=>b<w.heap.size) w2:=λb hb=>by have:b<w.heap.size:=hb;omega
 refine⟨p,rfl,c.dr,a5.ld a7 7 rfl,c8,⟨d0,e2⟩,qh,by rw[ec];exact d5 _ a7,x,by rw[<-hn];exact b6.at0 x2 rfl,?_,?_⟩
 .refine callX.intro (SE.Gg.go (Nf b0 (b9.ext a7) λt w3 x3 o3=>⟨x3,_,rfl,newS.intro λa4 w4 x4 d2 _ _=>?_⟩));exact(o3.ext x4).pushF (x3.trans x4) GA (x:=x) ⟨rfl,c4⟩ (d2.ldc.pre (r:=[]) rfl) dC (by show _*16<=Ab;unfold Ab;omega) λr w5 o5 x5=>key r w5 (x2.trans x5) ((o5.strsB (by rw[du,gl];omega)).mono λb hb=>⟨oM,hb.2⟩)
 .refine newS.intro λa3 w3 x3 d1 _ _=>callX.intro (SE.Gg.go (Nf (b0.ext x3.size) (b9.ext (a7.trans x3)) λt w4 x4 o4=>⟨x4,_,rfl,?_⟩));have s3:=x3.size;exact o4.pushF x4 GA (x:=x) ⟨rfl,c4⟩ ((d1.ext x4).ldc.pre (r:=[]) rfl) dC (by show _*16<=Ab;unfold Ab;omega) λr w5 o5 x5=>key r w5 (x2.trans (x3.trans x5)) ((o5.strsB (by rw[du,gl];omega)).mono λb hb=>⟨oM,hb.2⟩)
end
section
variable {w:Wd} {lo:Nat} {p:Addr} {S:Nat->Prop} {c:PC} {G:LN} {P:List Pack} {old:Option (List Dir)} {s:PlS}
def Zgl{k:Nat}{e:Edge}{R:Int->Wp}(h:MlV BN 295 w lo p S c G P old s)(hI:PInv G s src)(ha:src<s.dirs.length)(hx:D4 s src e.name)(e5:Ac e.name)(k7:0<=e.to/\e.to<(G.length:Int))(hP:P.length=G.length)
  (j0:Af e.name=true) (i9:∀k,∀q∈BR G k,Af q.name=true) (j1:∀y,G[e.to.toNat]?=some y->y.name=e.name) (j3:∀y,P[e.to.toNat]?=some y->y.name=e.name)
  (hk:k=2/\(BR G e.to.toNat).length=0\/k=3/\(BR G e.to.toNat).length≠0) (hd:s.dirs.length<=1000) (hs:s.done.length<=1000000) (i2:c.l3=D) (i3:c.l4=M)
  (hR:∀c' w' code s',EdgeR (EG G P old D M) s src e k code s'->MlV BN 295 w' lo p S c' G P old s'->Mv lo p c w c' w'->R code w'):SE.Ll (some p) (src:Int) e.name e.to w R:=by
 unfold SE.Ll;subst i2 i3;have a5:=h.read hd ⟨by show _*32<=Ab;unfold Ab;omega,by rw[Al];omega⟩;have d5:OE s:=λt ht=>(hI.src t ht).2;have a9:∀d∈s.dirs,d.path.length<=1000:=λd hm=>by obtain⟨i,hi⟩:=jo hm;have:=hI.plen i d hi;have:=(fh.1 hi).1;omega
 have d1:∀d∈s.dirs,d.path.length<=4000000:=λd hm=>fe (a9 d hm) dC;have k2:=Fs a5;have k5:=h.pk.len;have k3:=h.g.len;have i6:=h.lo_le;have k4:=h.box.lt;obtain⟨en,d8⟩:∃en:Nat,e.to=(en:Int):=⟨e.to.toNat,oM⟩;have b0:en<G.length:=oM;have b7:en<P.length:=oM;have a6:e.to.toNat=en:=oM;have c3:G[en].name=e.name:=j1 _ (by rw[a6];exact dt b0);have f9:P[en].name=e.name:=j3 _ (by rw[a6];exact dt b7);obtain⟨g6,ct,et,g9,_,h5,_,f7⟩:=C6 h.g b0;have k0:=h5.len;have g7:BR G e.to.toNat=G[en].ctx:=by rw[a6];unfold BR;rw[dt b0]
 rw[g7]at hk;have e4:s.dirs[src]?=some s.dirs[src]:=dt ha;have f8:Ae s.dirs src=s.dirs[src].path:=Co e4;have j5:Spot s (Ae s.dirs src) e.name (Ae s.dirs src).length:=by rw[f8];exact hI.spot e4 hx
 have c5:∀n,n<=(Ae s.dirs src).length->∃h,Ax s.dirs ((Ae s.dirs src).take n)=some h:=λn hn=>by rw[f8]at hn ⊢;obtain⟨j,_,hj⟩:=hI.above _ src _ e4 rfl n hn;exact⟨j,hj⟩
 have k6:(Ae s.dirs src).length<=1000:=Vt a9 ha;generalize hq:Ae s.dirs src=q at*;generalize b5:EG G P old c.l3 c.l4=I at*;have g8:I.g=G:=by rw[<-b5];rfl
 have a8:I.maxP=c.l4:=by rw[<-b5];rfl
 have b9:I.maxD=c.l3:=by rw[<-b5];rfl
 have e6:∀q',I.tlen q'=(A5 q').length:=λq'=>by rw[<-b5];rfl
 have d9:k≠1:=oM;have a4:∀to,Right I s src e k to↔AM s.dirs q e.name q.length=some to/\(nodeAt s.dirs to:Int)=e.to/\(k=3->HB I s src to):=λto=>by unfold Right;rw[hq]
 have c7:∀w',Ext w w'->Mv lo p c w c w':=λw' x=>Mv.of x i6;refine newS.intro λa w1 x1 b2 k1 _=>bnd.drew λw2 x2=>?_;have e7:=x1.trans x2;refine⟨p,rfl,c.u,a5.ld0 e7,e.to,b2.at1 (k:=1) (r:=[]) x2 rfl,g6,⟨g9,oM,oM⟩,ct,by rw[d8,ec];exact(f7 _ e7).mid (k:=4) rfl,bnd.drew λw3 x3=>?_⟩;have e8:=e7.trans x3;have g4:=x2.trans x3;refine⟨p,rfl,c.dr,a5.ld e8 7 rfl,e.name,b2.at0 g4 rfl,SE.Gv.go (NH (a5.lt.ext e8.size) (a5.dr.ext e8) (by simpa using ha) e5 (Q9 d1) λw4 x4=>⟨_,rfl,join.named λJ hJ=>bnd.drew λw5 x5=>bound ?_⟩)⟩;rw[Qj ha j0,hq];have j8:=g4.trans x4;have e9:=j8.trans x5;have c8:=x1.trans e9;have fin:∀(to:Nat)(c9:PC)(s9:PlS)(w9:Wd),MlV BN 295 w9 lo p S c9 G P old s9->Mv lo p c w c9 w9->BoxAt w9 a [.string e.name,vi e.to]->s9.done=s.done->EdgeR I s src e k 0 ⟨s9.dirs,s.done++[⟨src,e.name,to⟩]⟩->J (to:Int) w9:=by subst hJ;intro to c9 s9 w9 h9 m9 h0 f5 hE;refine⟨e.name,h0.at0 xR rfl,SE.IG.go (V3 h9 e5 (by rw[f5];exact hs) λr j7 f0 j6 _=>⟨rfl,?_⟩)⟩;rw[f5]at f0;exact hR _ j7 0 _ hE f0 (m9.trans j6)
 clear hJ;generalize i5:AM s.dirs q e.name q.length=lk at*;obtain⟨i,hi,g0⟩:∃i,i<s.dirs.length/\∀j,lk=some j->j=i:=by
  cases hl:lk with
  |none=>exact⟨src,ha,(λ_ h=>by cases h)⟩
  |some j=>exact⟨j,NF (i5.trans hl),λk hk=>by cases hk;rfl⟩
 obtain⟨g5,_,f2,i4,_,_,h4⟩:=a5.at_ hi;have c6:decide (Ce lk<0)=false->lk=some i/\Ce lk=(i:Int):=λhg=>by obtain⟨j,hj⟩:=KS.1 (Int.not_lt.1 (of_decide_eq_false hg));have:=g0 j hj;subst this;exact⟨hj,by rw[hj];rfl⟩
 have f6:∀{b:Bool},(!b)=true->b=false:=λ{b} h=>by simpa using h
 refine⟨p,λ_=>rfl,c.dr,λ_=>a5.ld c8 7 rfl,g5,λhg=>⟨f2,by rw[(c6 (f6 hg)).2];exact i4⟩,(nodeAt s.dirs i:Int),λhg=>by rw[(c6 (f6 hg)).2,ec];exact h4 _ c8,e.to,λ_=>b2.at1 (k:=1) (r:=[]) e9 rfl,bound (bound ?_)⟩;have h7:(!((ct.len:Int)==0))=decide (k=3):=by rw[gk,kh,beq_eq_false_iff_ne,decide_eq_true_iff];omega
 rw[h7];refine gCall.holds (λt=>t=true↔HB I s src i) (λhg q' j4=>?_) λt w6 x6 ht=>?_
 .simp only[dx,kh,gb]at hg;rw[(c6 hg.1.1).2];exact SE.Le.go (Zgg (I:=I) g8 (a5.ext c8) hi hI.node d1 i9 λb w7 x7 hb=>⟨b,rfl,j4 b w7 x7 hb⟩)
 have c4:=c8.trans x6;have d0:=e9.trans x6;have hf:((decide (Ce lk<0)|| !((nodeAt s.dirs i:Int)==e.to))||(decide (k=3)&& !t))=false↔∃to,Right I s src e k to:=by
  constructor
  .intro hg;rw[gb]at hg;obtain⟨g1,g3⟩:=hg;have d3:=g1;rw[gb]at d3;refine⟨i,(a4 i).2 ⟨(c6 d3.1).1,by simpa using d3.2,λh3=>?_⟩⟩;rw[decide_eq_true h3]at g3;exact(ht (by rw[g1,decide_eq_true h3];rfl)).1 (by simpa using g3)
  .rintro⟨to,hr⟩;obtain⟨g1,g2,g3⟩:=(a4 to).1 hr;have:=g0 to g1;subst this;have h1:(decide (Ce lk<0)|| !((nodeAt s.dirs to:Int)==e.to))=false:=by rw[gb,decide_eq_false_iff_not,g1];refine⟨by show ¬(to:Int)<0;omega,by rw[g2];simp⟩
   rw[h1,pq];by_cases h3:k=3
   .rw[h1,decide_eq_true h3]at ht;rw[(ht rfl).2 (g3 h3),decide_eq_true h3];rfl
   .rw[decide_eq_false h3];rfl
 refine⟨λhc=>join.named λJ2 f1=>?_,λhc=>?_⟩
 rotate_left
 .obtain⟨to,hr⟩:=hf.1 hc;have g1:=((a4 to).1 hr).1;have e3:Ce lk=(to:Int):=by rw[g1];rfl
  rw[e3];exact fin to c s w6 (h.ext c4) (c7 w6 c4) (b2.ext d0) rfl (.found to hr)
 have e0:∀to,¬Right I s src e k to:=λto hr=>by rw[hf.2 ⟨to,hr⟩]at hc;cases hc
 have d2:∀(hm n:Nat) w7,Ext w w7->Ext w1 w7->hm<s.dirs.length->Ae s.dirs hm=q.take n->(k=2->Best s q e.name (λn=>I.like (q.take n++[e.name]) e.to.toNat) n)->(k=3->n=q.length)->J2 (hm:Int) w7:=by
  subst f1;intro hm n w7 b4 j9 i7 e1 a0 h3;have d6:k=2->Best s (Ae s.dirs src) e.name (λn=>I.like ((Ae s.dirs src).take n++[e.name]) e.to.toNat) n:=by rw[hq];exact a0
  have d4:k=3->n=(Ae s.dirs src).length:=by rw[hq];exact h3
  have b6:BoxAt w7 a [.string e.name,vi e.to]:=b2.ext j9;refine⟨e.to,b6.at1 (k:=1) (r:=[]) xR rfl,?_⟩;rw[d8];refine SE.Lm.go (Zgm (x:=e.name) (h.ext b4) hd hs a9 i7 b7 f9 (λw8 x8 b8=>⟨_,_,rfl,λ_=>?_,λh=>absurd dC h⟩) (λw8 x8 a7 d7=>⟨_,_,rfl,λ_=>?_,λh=>absurd dC h⟩) λr w8 a7 e2 h8 m8=>⟨_,_,rfl,λh=>absurd rfl h,λ_=>?_⟩)
  .rw[e1]at b8;exact hR c w8 40 s (.long n e0 d9 d6 d4 (by rw[hq,a8,e6];exact b8)) (h.ext (b4.trans x8)) (c7 _ (b4.trans x8))
  .rw[e1]at a7;exact hR c w8 41 s (.deep n e0 d9 d6 d4 (by rw[hq,a8,e6];exact a7) (by rw[b9];exact d7)) (h.ext (b4.trans x8)) (c7 _ (b4.trans x8))
  .rw[e1]at a7 h8;refine fin s.dirs.length _ ⟨s.dirs++[⟨q.take n++[e.name],en⟩],s.done⟩ w8 h8 ((c7 w7 b4).trans m8) (m8.box b6 oM (λad ha e=>?_) λad ha e=>?_) rfl ?_
   .obtain⟨D,o,_⟩:=h.dr;have:=(o.block ha).2.1;omega
   .have:=(h.st.block ha).2.1;omega
   .have:=EdgeR.put (I:=I) n e0 d9 d6 d4 (by rw[hq,a8,e6];exact a7) (by rw[b9];exact e2);rw[hq,a6]at this;exact this
 clear f1;refine⟨λh6=>⟨e.to,b2.at1 (k:=1) (r:=[]) d0 rfl,?_⟩,λh6=>?_⟩
 .rw[d8];refine SE.Ln.go (Zgo (a5.ext c4) d5 ha b0 b7 (by rw[c3];exact e5) (by rw[hq];omega) (by rw[hq];exact c5) (by rw[hq,c3];exact⟨_,j5⟩) λn j w7 x7 a0 hj=>⟨_,rfl,?_⟩);rw[hq,c3]at a0;rw[hq]at hj;obtain⟨dj,f4,j2⟩:=E5 hj;refine d2 j n w7 (c4.trans x7) (d0.trans x7) (fh.1 f4).1 (by rw[Co f4];exact j2) (λ_=>?_) (λh3=>by omega);rw[a6,<-b5];exact a0
 .exact d2 src q.length w6 c4 d0 ha (by rw[eh];exact hq) (λh2=>by omega) λ_=>rfl
end
section
variable {w w':Wd} {lo:Nat} {p:Addr} {S:Nat->Prop} {c:PC} {G:LN} {P:List Pack} {old:Option (List Dir)} {s:PlS}
def MlV.re{T:TypeId}{r:Sl}(h:MlV E T w lo p S c G P old s)(bel:Below lo w w')(oth:∀b,b<w.heap.size->b≠p.block->(∀ad,c.st.a=some ad->b≠ad.block)->w'.heap[b]?=w.heap[b]?)
  (box:BoxAt w' p (PC.c {c with st:=r})) (st:OwnS E T w' lo None' r dn) (hr:∀ad,r.a=some ad->c.st.a=some ad\/w.heap.size<=ad.block):MlV E T w' lo p S {c with st:=r} G P old ⟨s.dirs,dn⟩/\Mv lo p c w {c with st:=r} w':=by
 obtain⟨D,o,a0,a4,a5⟩:=h.dr;have a6:=Below.size bel;have a7:=h.box.lt;have mv:Mv lo p c w {c with st:=r} w':=⟨bel,λb hb h1 _ h3=>oth b hb h1 h3,λ_ h=>.inl h,hr,rfl⟩;have hk:=h.mv mv;refine⟨⟨box,h.plo,h.g.keep hk,h.pk.keep hk,h.old.keep hk,λb hb=>by have:=h.lt b hb;omega,h.nS,⟨D,o.keep a6 λb hb hq=>?_,a0,λad ha hb=>?_,a5⟩,st,h.drP,λad ha=>?_,λu v hu hv=>?_⟩,mv⟩
 .rcases hq with hq|⟨ad,ha,rfl⟩
  .exact oth b hb (λe=>a0 (e▸hq)) λd hd e=>a4 d hd (e▸hq)
  .exact oth _ hb (h.drP ad ha).1 λd hd e=>h.apart ad d ha hd e
 .obtain q|q:=hr ad ha
  .exact a4 ad q hb
  .have:=o.lt _ hb;omega
 .obtain q|q:=hr ad ha
  .exact h.stP ad q
  .exact⟨oM,λhS=>by have:=h.lt _ hS;omega⟩
 .obtain q|q:=hr v hv
  .exact h.apart u v hu q
  .have:=(o.block hu).2.1;omega
structure Gath(w:Wd)(lo:Nat)(p:Addr)(c:PC)(w':Wd)(r A O:Sl)(dn:List Stl)(la lb:LQ):Prop where
 bel:Below lo w w'
 oth:∀b,b<w.heap.size->b≠p.block->(∀ad,c.st.a=some ad->b≠ad.block)->w'.heap[b]?=w.heap[b]?
 box:BoxAt w' p (PC.c {c with st:=r})
 st:OwnS BN 295 w' lo None' r dn
 hr:∀ad,r.a=some ad->c.st.a=some ad\/w.heap.size<=ad.block
 a:OwnS edgeE 168 w' w.heap.size None' A la
 o:OwnS edgeE 168 w' w.heap.size None' O lb
 ao:∀x y,A.a=some x->O.a=some y->x.block≠y.block
 ra:∀x y,A.a=some x->r.a=some y->x.block≠y.block
 ro:∀x y,O.a=some x->r.a=some y->x.block≠y.block
def Gath.ext{w'':Wd}{r:Sl}(h:Gath w lo p c w' r A O dn la lb)(hl:lo<=w.heap.size)(hx:Ext w' w''):Gath w lo p c w'' r A O dn la lb:=by have:=Below.size h.bel;exact⟨Below.trans h.bel (Below.mono hx oM),λb hb h1 h2=>(hx.block oM).trans (h.oth b hb h1 h2),h.box.ext hx,h.st.ext hx,h.hr,h.a.ext hx,h.o.ext hx,h.ao,h.ra,h.ro⟩
def Gath.swap{r:Sl}(h:Gath w lo p c w' r A O dn la lb):Gath w lo p c w' r O A dn lb la:=⟨h.bel,h.oth,h.box,h.st,h.hr,h.o,h.a,λx y hx hy=>Ne.symm (h.ao y x hy hx),h.ro,h.ra⟩
def Gath.push{r:Sl}{e:Edge}{K:Sl->Wp}(h:Gath w lo p c w' r A O dn la lb)(hp:p.block<w.heap.size)(hl:lo<=w.heap.size)(hn:la.length<1000)(a8:Ac e.name)(hc:ldc w' a [.string e.name,vi e.to])
  (hk:∀t a7,Gath w lo p c a7 r t O dn (la++[e]) lb->K t a7):appS prog 70 70 A (Sl.v ⟨some a,1,1⟩) w' K:=by
 have hs:=Below.size h.bel;refine h.a.push MQ hs (x:=e) (S':=None') ⟨rfl,a8⟩ hc (λ_ h=>h.elim) (λ_ _ h=>h.elim) (by show(la.length+1)*24<=Ab;unfold Ab;omega) (by rw[Al];omega) λt w2 o2 a4 a0 a5=>hk t w2 ?_;have a6:=Below.size a4;have hA:∀ad,A.a=some ad->w.heap.size<=ad.block:=λad ha=>(h.a.block ha).1;refine⟨Below.trans h.bel (Below.mono a4 hl),λb hb h1 h2=>(a0 b oM λad ha=>by have:=hA ad ha;omega).trans (h.oth b hb h1 h2),h.box.keep (S:=λb=>b<w.heap.size) hp λb hb hl=>a0 b hl λad ha=>by have:=hA ad ha;omega,h.st.keep a6 λb hb hq=>?_,h.hr,OwnS.flat (λh=>h) o2,h.o.keep a6 λb hb hq=>?_,λx y hx hy=>?_,λx y hx hy=>?_,h.ro⟩
 .rcases hq with hq|⟨ad,ha,rfl⟩
  .exact hq.elim
  .exact a0 _ hb λx hx e=>h.ra x ad hx ha e.symm
 .rcases hq with hq|⟨ad,ha,rfl⟩
  .exact hq.elim
  .exact a0 _ hb λx hx e=>h.ao x ad hx ha e.symm
 .obtain q|q:=a5 x hx
  .exact h.ao x y q hy
  .have:=(h.o.block hy).2.1;omega
 .obtain q|q:=a5 x hx
  .exact h.ra x y q hy
  .have:=(h.st.block hy).2.1;omega
end
def ZL:Bn prog 139:=enters_of func139 kR rfl
def TW{g:LN}{nd k j:Nat}{es:LQ}(hj:j<es.length):(es.take (j+1)).filter (λe=>AB g nd e==k)=(es.take j).filter (λe=>AB g nd e==k)++if AB g nd es[j]=k then [es[j]]else []:=by
 rw[dw hj,jk];congr 1;by_cases h:AB g nd es[j]=k
 .rw[if_pos h,List.filter_cons_of_pos (by rw[h];exact beq_self_eq_true _),List.filter_nil]
 .rw[if_neg h,List.filter_cons_of_neg (by simpa using h),List.filter_nil]
section
variable {w:Wd} {lo:Nat} {p:Addr} {S:Nat->Prop} {c:PC} {G:LN} {P:List Pack} {old:Option (List Dir)} {s:PlS}
def Zgh{nd:Nat}{I:PlI}{R:Int->Wp}(d7:EG G P old D M=I)(h:MlV BN 295 w lo p S c G P old s)(b9:PlaceOk G P)(hI:PInv G s src)(ha:src<s.dirs.length)(k7:nodeAt s.dirs src=nd)(f0:nd<G.length)(hD:D<=256)(hs:s.done.length<=100000)(q6:c.l3=D)(q7:c.l4=M)(l6:DL I s)(l7:∀u∈s.done,u.src<src)
  (j4:∀c' w' s',Turn I src nd s [] s'->MlV BN 295 w' lo p S c' G P old s'->Mv lo p c w c' w'->R 0 w')
  (g9:∀c' w' code t,code≠0->EdgesR I src nd s (Cn I.g nd) code t->Mv lo p c w c' w'->R code w'):SE.Lg (some p) (src:Int) w R:=by
 unfold SE.Lg;have hg:=b9.grPl;have b5:I.g=G:=by rw[<-d7];rfl
 have t9:I.maxD=D:=by rw[<-d7];rfl
 have g3:GrPl I.g:=by rw[b5];exact hg
 have v2:s.dirs.length<=257:=by have:=l6.2;omega
 have d8:=h.read oM ⟨by show _*32<=Ab;unfold Ab;omega,by rw[Al];omega⟩;have u5:=Fs d8;have u6:=h.g.len;have r2:=h.lo_le;have u9:=h.box.lt;have t8:=b9.len;have m2:G[nd]?=some G[nd]:=dt f0;have c8:Az G nd=G[nd].edges:=Z0 m2;have p8:G[nd].edges.length<=128:=by have:=b9.edges_le nd;rw[c8]at this;omega
 have u7:(Cn I.g nd).length<=128:=by rw[Vj,b5,c8];exact p8
 obtain⟨ad,_,o7,q9,_,_,i6⟩:=d8.at_ ha;rw[k7]at i6;obtain⟨n1,cg,eg,o8,_,p5,j1,k1⟩:=C6 h.g f0;have s8:=j1.len;have n5:BR G nd=G[nd].ctx:=by unfold BR;rw[m2]
 refine bnd.drew λw1 x1=>⟨p,rfl,c.u,d8.ld0 x1,p,rfl,c.dr,d8.ld x1 7 rfl,ad,⟨o7,q9⟩,(nd:Int),by rw[ec];exact i6 _ x1,n1,⟨o8,oM,oM⟩,_,_,_,_,cg,eg,by rw[ec];exact k1 _ x1,newS.set rfl λa w2 x2 f6 u1=>⟨eg,f6.at1 (k:=5) (r:=[]) xR rfl,?_⟩⟩;have e0:=x1.trans x2;have s1:=x1.size;have s2:=x2.size;have f1:Mv lo p c w c w2:=Mv.of e0 r2;have h2:=h.ext e0;have g7:p.block<w2.heap.size:=oM;have b2:=h2.lo_le;have u0:a.block<w2.heap.size:=f6.lt;have l8:∀b,c.st.a=some b->b.block<w.heap.size:=λb hb=>(h.st.block hb).2.1;have i7:=p5.ext e0;have e7:=j1.ext e0;generalize t0:G[nd].edges=es at*;generalize s6:G[nd].ctx=cx at*;have h8:∀{w' r A O dn la lb},Gath w2 lo p c w' r A O dn la lb->BoxAt w' a [.string G[nd].name,.int .i64 G[nd].v.ma,.int .i64 G[nd].v.mi,.int .i64 G[nd].v.pa,cg.v,eg.v]/\SlR pinE w' S cg cx/\SlR edgeE w' S eg es:=λ{w' r A O dn la lb} hG=>by have hk:Keep S w2 w':=λb hb hl=>hG.oth b hl (λe=>h.nS (e▸hb)) λad ha e=>(h.stP ad ha).2 (e▸hb);exact⟨f6.keep (S:=λb=>b=a.block) rfl λb hb hl=>hG.oth b hl oM λad ha=>by have:=l8 ad ha;omega,i7.keep hk,e7.keep hk⟩
 have j8:∀e,AB G nd e=if cx.any (Aw e.name)then 1 else if(BR G e.to.toNat).length=0 then 2 else 3:=λe=>by unfold AB;rw[n5]
 have stop:∀{c' w' s' code t e r},Mv lo p c w2 c' w'->Turn I src nd s (e::r) s'->EdgeR I s' src e (AB I.g nd e) code t->code≠0->R code w':=λ{c' w' s' code t e r} m ht hE hc=>g9 c' w' code t hc (ht.stop hE hc) (f1.trans m);have e9:∀e∈es,e∈Az G nd:=λe he=>by rw[c8];exact he
 refine loop3.up e7.max (λA O j w'=>∃(r:Sl) (s4:PlS),Gath w2 lo p c w' r A O s4.done ((es.take j).filter (λe=>AB G nd e==2)) ((es.take j).filter (λe=>AB G nd e==3))/\s4.dirs=s.dirs/\Turn I src nd s (Dx G nd 1 j) s4)
  ⟨c.st,s,⟨Below.refl _ _,λ_ _ _ _=>rfl,h2.box,h2.st,λ_ h=>.inl h,OwnS.zero _,OwnS.zero _,(λ_ _ h=>by cases h),(λ_ _ h=>by cases h),λ_ _ h=>by cases h⟩,rfl,by have:=Turn.start (nd:=nd) g3 (by rw[b5];exact hI) l6 l7;rw[b5]at this;exact this⟩ λA O j w3 v3 hj ⟨r,s4,a0,b8,b4⟩ l0=>⟨λr3=>join.named λJ hJ=>?_,λg4=>?_⟩
 .have a8:j<es.length:=oM;have k4:es[j]∈es:=ff a8;have a9:=e9 _ k4;have g4:=hg.edge a9;have d1:=b9.edgeAt a9;obtain⟨p4,i9,j2⟩:=h8 a0;obtain⟨f2,d2,b7,d3⟩:=Dn j2 a8;have f9:=TW (g:=G) (nd:=nd) (k:=2) a8;have g0:=TW (g:=G) (nd:=nd) (k:=3) a8;have j6:j<(Az G nd).length:=by rw[c8];exact a8
  have q4:(Az G nd)[j]=es[j]:=by simp only[c8]
  have d4:=Zhk (g:=G) (nd:=nd) (k:=1) j6;have e8:=Zhi (g:=G) (nd:=nd) (k:=1) j6;rw[q4]at d4 e8;have f5:∀(A' O':Sl)(w5:Wd)(r5:Sl)(s5:PlS),Gath w2 lo p c w5 r5 A' O' s5.done ((es.take (j+1)).filter (λe=>AB G nd e==2)) ((es.take (j+1)).filter (λe=>AB G nd e==3))->s5.dirs=s.dirs->Turn I src nd s (Dx G nd 1 (j+1)) s5->J A' O' w5:=λA' O' w5 r5 s5 q1 q2 q3=>by rw[hJ];exact l0 a8 _ _ w5 ⟨r5,s5,q1,q2,q3⟩
  clear hJ l0;have j9:((es.take j).filter (λe=>AB G nd e==2)).length<1000:=nf (ix _ _) (by rw[fb];omega);have k0:((es.take j).filter (λe=>AB G nd e==3)).length<1000:=nf (ix _ _) (by rw[fb];omega);have u2:=b4.cnt;have u4:s4.done.length<=200000:=oM;have c9:src<s4.dirs.length:=by rw[b8];exact ha
  have t4:nodeAt s4.dirs src=nd:=by rw[b8];exact k7
  have n8:PInv G s4 src:=by have:=b4.inv;rw[b5]at this;exact this
  have a5:=j8 es[j];generalize es[j]=e at*;obtain⟨h3,m3⟩:=h2.re a0.bel a0.oth a0.box a0.st a0.hr;have h3:MlV BN 295 w3 lo p S {c with st:=r} G P old s4:=by rw[<-b8]at h3;exact h3
  refine⟨f2,⟨d2,oM,r3⟩,e.name,e.to,by rw[ec];exact d3 _ xR,newS.set rfl λa4 w4 x4 c6 _=>⟨cg,p4.at1 (k:=4) x4 rfl,?_⟩⟩;refine SE.Hs.go (Pv (p:=Aw e.name) (i9.ext x4) (λq _ w5 k5 x5 j7=>⟨_,_,rfl,ZL,SE.NO.go ?_⟩) λw5 x5=>⟨_,rfl,λg5=>bnd.drew λw6 x6=>?_,λg5=>bnd.drew λw6 x6=>?_⟩)
  .unfold SE.NO;refine newS.intro λa6 w6 x6 f7 _ _=>⟨_,f7.at0 xR rfl,e.name,c6.at0 (x5.trans x6) rfl,?_⟩;rw[SJ];exact j7 w6 x6
  .
   rw[if_pos g5]at a5;have c4:=x5.trans x6;have d6:=x4.trans c4;rw[e8 a5]at b4;have h6:=h3.ext d6;have c3:=h6.read (by rw[b8];omega) ⟨by show _*32<=Ab;unfold Ab;omega,by rw[Al];omega⟩;have i5:∀d∈s4.dirs,d.path.length<=4000000:=λd hm=>by obtain⟨i,hi⟩:=jo hm;have:=n8.plen i d hi;have:=(fh.1 hi).1;rw[b8]at this;omega
   refine⟨p,rfl,c.dr,c3.ld xR 7 rfl,e.name,c6.at0 c4 rfl,SE.Gv.go (NH c3.lt c3.dr (by simpa using c9) b7 (Q9 i5) λw7 x7=>⟨_,rfl,bnd.drew λw8 x8=>bound ?_⟩)⟩;rw[Qj c9 d1.1];have e2:=x7.trans x8;have n0:=c4.trans e2;have e1:=d6.trans e2;have d0:∀to,Right I s4 src e 1 to↔AM s4.dirs (Ae s4.dirs src) e.name (Ae s4.dirs src).length=some to/\(nodeAt s4.dirs to:Int)=e.to:=λto=>(by unfold Right;simp);generalize r1:AM s4.dirs (Ae s4.dirs src) e.name (Ae s4.dirs src).length=lk at*;obtain⟨i,hi,m1⟩:∃i,i<s4.dirs.length/\∀j,lk=some j->j=i:=by
    cases hl:lk with
    |none=>exact⟨src,c9,(λ_ h=>by cases h)⟩
    |some j=>exact⟨j,NF (r1.trans hl),λk hk=>by cases hk;rfl⟩
   obtain⟨n2,_,i4,r0,_,_,p6⟩:=c3.at_ hi;have g6:decide (Ce lk<0)=false->lk=some i/\Ce lk=(i:Int):=λhg=>by obtain⟨j,hj⟩:=KS.1 (Int.not_lt.1 (of_decide_eq_false hg));have:=m1 j hj;subst this;exact⟨hj,by rw[hj];rfl⟩
   have j5:∀{b:Bool},(!b)=true->b=false:=λ{b} h=>(by simpa using h);refine⟨p,λ_=>rfl,c.dr,λ_=>c3.ld e2 7 rfl,n2,λhg=>⟨i4,by rw[(g6 (j5 hg)).2];exact r0⟩,(nodeAt s4.dirs i:Int),λhg=>by rw[(g6 (j5 hg)).2,ec];exact p6 _ e2,e.to,λ_=>c6.at1 (k:=1) (r:=[]) n0 rfl,λhc=>?_,λhc=>?_⟩
   .have hl:∀to,¬Right I s4 src e 1 to:=λto hr=>by obtain⟨g1,g2⟩:=(d0 to).1 hr;have:=m1 to g1;subst this;rw[g1,g2]at hc;rw[decide_eq_false (show ¬Ce (some to)<0 by show ¬(to:Int)<0;omega)]at hc;simp at hc
    exact stop (m3.trans (Mv.of e1 h3.lo_le)) b4 (by rw[b5,a5];exact .lost hl rfl) dC
   .rw[gb]at hc;obtain⟨g1,g2⟩:=g6 hc.1;have o6:Right I s4 src e 1 i:=(d0 i).2 ⟨g1,by simpa using hc.2⟩;rw[g2];refine⟨e.name,c6.at0 n0 rfl,SE.IG.go (V3 (h3.ext e1) b7 oM λr9 w9 h9 m9 o9=>⟨rfl,?_⟩)⟩;have b0:=a0.ext b2 e1;have v4:=e1.size;have s9:=m9.size;have t6:=Below.size a0.bel;have i2:∀{B:Sl} {l:LQ},OwnS edgeE 168 w8 w2.heap.size None' B l->(∀x y,B.a=some x->r.a=some y->x.block≠y.block)->OwnS edgeE 168 w9 w2.heap.size None' B l/\∀x y,B.a=some x->r9.a=some y->x.block≠y.block:=λ{B l} hB k8=>by
     refine⟨hB.keep s9 λb hb hq=>?_,λx y hx hy=>?_⟩
     .rcases hq with hq|⟨ad,ha,rfl⟩
      .exact hq.elim
      .exact o9 _ hb (by have:=(hB.block ha).1;omega) λd hd=>k8 ad d ha hd
     .obtain q|q:=m9.st y hy
      .exact k8 x y hx q
      .have:=(hB.block hx).2.1;omega
    obtain⟨qA,r6⟩:=i2 b0.a b0.ra;obtain⟨qO,r7⟩:=i2 b0.o b0.ro;have hE:EdgeR I s4 src e 1 0 ⟨s4.dirs,s4.done++[⟨src,e.name,i⟩]⟩:=.found i o6;refine f5 A O w9 r9 ⟨s4.dirs,s4.done++[⟨src,e.name,i⟩]⟩ ⟨Below.trans b0.bel m9.bel,λb hb h1 h2=>?_,h9.box,h9.st,λad ha=>?_,?_,?_,b0.ao,r6,r7⟩ b8 (b4.step g3 c9 (by rw[b5,a5];exact hE))
    .refine(o9 b oM h1 λad ha=>?_).trans (b0.oth b hb h1 h2);obtain q|q:=a0.hr ad ha
     .exact h2 ad q
     .omega
    .obtain q|q:=m9.st ad ha
     .exact a0.hr ad q
     .right;omega
    .rw[f9,if_neg oM,gd];exact qA
    .rw[g0,if_neg oM,gd];exact qO
  .
   rw[if_neg (by rw[g5];decide)]at a5;have k9:AB G nd e≠1:=by rw[a5];split<;>decide
   rw[d4 k9]at b4;have c4:=x5.trans x6;have d6:=x4.trans c4;have h6:=h3.ext d6;obtain⟨en,p9⟩:∃en:Nat,e.to=(en:Int):=⟨e.to.toNat,oM⟩;have e6:en<G.length:=oM;have j0:e.to.toNat=en:=oM;obtain⟨n4,ct,et,p0,_,p7,_,k2⟩:=C6 h6.g e6;have s3:=p7.len;have t3:=h6.g.len;have n7:BR G e.to.toNat=G[en].ctx:=by rw[j0];unfold BR;rw[dt e6]
   rw[n7]at a5;have i3:=a0.ext b2 d6;refine⟨p,rfl,c.u,h6.box.at0 xR rfl,e.to,c6.at1 (k:=1) (r:=[]) c4 rfl,n4,⟨p0,oM,oM⟩,ct,by rw[p9,ec];exact(k2 _ xR).mid (k:=4) rfl,λh0=>?_,λh0=>?_⟩
   .rw[if_pos oM]at a5;refine⟨e.name,e.to,c6.at0 (r:=[]) c4 rfl,newS.intro λa7 w7 x7 f8 _ _=>?_⟩;refine(i3.ext b2 x7).push g7 b2 j9 b7 (f8.ldc.pre (r:=[]) rfl) λt w8 b0=>f5 t O w8 r s4 ?_ b8 b4;rw[f9,g0,if_pos a5,if_neg oM,gd];exact b0
   .rw[if_neg oM]at a5;refine⟨e.name,e.to,c6.at0 (r:=[]) c4 rfl,newS.intro λa7 w7 x7 f8 _ _=>?_⟩;refine(i3.ext b2 x7).swap.push g7 b2 k0 b7 (f8.ldc.pre (r:=[]) rfl) λt w8 b0=>f5 A t w8 r s4 ?_ b8 b4;rw[f9,g0,if_pos a5,if_neg oM,gd];exact b0.swap
 .have a8:j=es.length:=oM;subst a8;rw[eh]at a0;rw[Zhj (by rw[c8];exact fm _) (.inl rfl)]at b4;obtain⟨L,hL⟩:∃L,L=es.filter (λe=>AB G nd e==2)++es.filter (λe=>AB G nd e==3):=⟨_,rfl⟩;have g8:Dx G nd 2 0=L:=by unfold Dx;rw[c8,hL];rfl
  rw[g8]at b4;have o0:L.length<=256:=by rw[hL,du];have:=ix (λe=>AB G nd e==2) es;have:=ix (λe=>AB G nd e==3) es;omega
  have o5:∀e∈L,e∈es/\(AB G nd e=2\/AB G nd e=3):=λe he=>by
   rw[hL]at he;obtain he|he:=fk.1 he
   .rw[io]at he;exact⟨he.1,.inl (by simpa using he.2)⟩
   .rw[io]at he;exact⟨he.1,.inr (by simpa using he.2)⟩
  have q8:=o0;rw[hL,du]at q8;have f4:edgeE.bytes=24:=rfl;have m0:=Below.size a0.bel;have r4:=(a0.o.read (by rw[f4];unfold Ab;omega) (by rw[Al];omega)).mono (S':=λb=>∃ad,O.a=some ad/\b=ad.block) λb hb=>hb.elim (λh=>h.elim) id;refine a0.a.appAll MQ m0 r4 (λb ⟨ad,ha,e⟩=>e▸(a0.o.block ha).2.1) (λad ha ⟨x,hx,e⟩=>a0.ao ad x ha hx e) (by rw[f4];unfold Ab;omega) (by rw[Al];omega) λt w4 o4 e3 d5 m8=>?_;rw[<-hL]at o4;have o4:=OwnS.flat (λh=>h) o4;have s0:=Below.size e3;have hA:∀ad,A.a=some ad->w2.heap.size<=ad.block:=λad ha=>(a0.a.block ha).1;have l9:OwnS BN 295 w4 lo None' r s4.done:=a0.st.keep s0 λb hb hq=>by
   rcases hq with hq|⟨ad,ha,rfl⟩
   .exact hq.elim
   .exact d5 _ hb λx hx e=>a0.ra x ad hx ha e.symm
  obtain⟨h4,m4⟩:=h2.re (Below.trans a0.bel (Below.mono e3 b2)) (λb hb h1 h3=>(d5 b oM λad ha=>by have:=hA ad ha;omega).trans (a0.oth b hb h1 h3)) (a0.box.keep (S:=λb=>b<w2.heap.size) g7 λb hb hl=>d5 b hl λad ha=>by have:=hA ad ha;omega) l9 a0.hr;have h4:MlV BN 295 w4 lo p S {c with st:=r} G P old s4:=by rw[<-b8]at h4;exact h4
  have r8:=(o4.read (by rw[f4];unfold Ab;omega) (by rw[Al];omega)).mono (S':=λb=>∃ad,t.a=some ad/\b=ad.block) λb hb=>hb.elim (λh=>h.elim) id;refine loop1.up (N:=L.length) (by rw[Al];omega) (λj w'=>∃(c5:PC) (s5:PlS),MlV BN 295 w' lo p S c5 G P old s5/\Mv lo p c w2 c5 w'/\SlR edgeE w' (λb=>∃ad,t.a=some ad/\b=ad.block) t L/\(∀ad,t.a=some ad->ad.block<w'.heap.size/\ad.block≠p.block/\(∀x,c5.dr.a=some x->ad.block≠x.block)/\∀x,c5.st.a=some x->ad.block≠x.block)/\Turn I src nd s (L.drop j) s5) ⟨_,s4,h4,m4,r8,λad ha=>⟨(o4.block ha).2.1,by have:=(o4.block ha).1;omega,λx hx e=>?_,λx hx e=>?_⟩,by rw[jv];exact b4⟩ λj w5 t7 hj ⟨c5,s5,h5,m5,d9,e4,b6⟩ k6=>⟨λk3=>?_,λt1=>?_⟩
  .obtain⟨D',o',_⟩:=h.dr;have:=(o'.block hx).2.1;have:=(o4.block ha).1;omega
  .obtain q|q:=m8 ad ha
   .exact a0.ra ad x q hx e
   .have:=(a0.st.block hx).2.1;omega
  .have a8:j<L.length:=(by have:=d9.len;omega);obtain⟨f2,d2,b7,d3⟩:=Dn d9 a8;obtain⟨j3,j7⟩:=o5 _ (ff a8);rw[fu a8]at b6;have l5:=k6 a8;clear k6;generalize L[j]=e at*;have a9:=e9 e j3;have g4:=hg.edge a9;have d1:=b9.edgeAt a9;have u3:=b6.cnt;obtain⟨e5,t5⟩:=b6.node ha;have n9:PInv G s5 src:=(by have:=b6.inv;rw[b5]at this;exact this);have v0:=b6.small.2;have q5:AB G nd e=2/\(BR G e.to.toNat).length=0\/AB G nd e=3/\(BR G e.to.toNat).length≠0:=by
    have:=j8 e;by_cases h1:cx.any (Aw e.name)=true
    .rw[if_pos h1]at this;omega
    .rw[if_neg h1]at this;by_cases h2:(BR G e.to.toNat).length=0
     .rw[if_pos h2]at this;exact .inl ⟨this,h2⟩
     .rw[if_neg h2]at this;exact .inr ⟨this,h2⟩
   refine⟨f2,⟨d2,oM,k3⟩,e.name,e.to,by rw[ec];exact d3 _ xR,newS.set rfl λa6 w6 x6 f7 _=>⟨e.name,e.to,f7.at0 (r:=[]) xR rfl,?_⟩⟩;have m6:=m5.trans (Mv.of x6 h5.lo_le);refine SE.Ll.go (Zgl (k:=AB G nd e) (D:=D) (M:=M) (h5.ext x6) n9 e5 (b6.new e (.head _)) b7 g4 b9.packs d1.1 (YK b9) d1.2 (b9.packAt a9) q5 oM oM (by rw[m5.same];exact q6) (by rw[m5.same];exact q7) λc7 w7 code s7 hE h7 m7=>⟨code,rfl,λhc=>?_,λhc=>?_⟩)
   .rw[d7]at hE;exact stop (m6.trans m7) b6 (by rw[b5];exact hE) hc
   .rw[d7]at hE;have hc:=ji.1 hc;subst hc;have z6:=x6.size;have z7:=m7.size;refine l5 w7 ⟨c7,s7,h7,m6.trans m7,(d9.ext x6).keep λb ⟨ad,ha,e⟩ hl=>?_,λad ha=>?_,b6.step g3 e5 (by rw[b5];exact hE)⟩
    .subst e;obtain⟨_,q1,q2,q3⟩:=e4 ad ha;exact m7.oth _ hl q1 q2 q3
    .obtain⟨q0,q1,q2,q3⟩:=e4 ad ha;refine⟨oM,q1,λx hx=>?_,λx hx=>?_⟩
     .obtain q|q:=m7.dr x hx
      .exact q2 x q
      .omega
     .obtain q|q:=m7.st x hx
      .exact q3 x q
      .omega
  .have a8:j=L.length:=(by have:=d9.len;omega);rw[a8,li]at b6;exact j4 c5 w5 s5 b6 h5 (f1.trans m5)
end
def VG{nm:Bool}{d:Bool}{t u t' u':Bs}(h:(nm&&d)=true->t=t'/\u=u'):((!nm)||(d&& !Ao t u))=((!nm)||(d&& !Ao t' u')):=by
 cases nm<;>cases d<;>try rfl
 obtain⟨rfl,rfl⟩:=h rfl;rfl
def Zhp{l:Sl}{cx:LP}{f:Value}(hs:SlR pinE w S l cx)(hf:∀(q:Pin)(w':Wd)(k:Value->Wp),(∀b2,Ext w' b2->k (.string q.name) b2)->callV prog f [.agg #[.string q.name,vi q.v.ma,vi q.v.mi,vi q.v.pa]] w' k)
  (hR:∀(b:Bool) w',Ext w w'->(b=true↔Ff Pin.name cx cx.length)->R b w'):SE.Lu l f w R:=by
 unfold SE.Lu;have hl:=hs.len;have hm:=hs.max;rw[Al]at hm;refine loop1.up hs.max (λk w'=>Ext w w'/\Ff Pin.name cx k) ⟨Ext.refl _,UZ⟩ λk w2 b7 hk ⟨x2,hI⟩ hn=>⟨λb0=>bnd.drew λw3 x3=>?_,λb6=>?_⟩
 .have a4:k<cx.length:=oM;obtain⟨ad,ha,_,a6,a9⟩:=Dg hs a4;have b4:=x2.trans x3;refine⟨ad,⟨ha,oM,b0⟩,_,_,_,_,by rw[ec];exact a9 _ b4,hf _ _ _ λw4 x4=>⟨_,rfl,SE.CA.go (scanName_se a6 λw5 x5=>⟨_,rfl,bound (bound ?_)⟩)⟩⟩;have a8:=b4.trans (x4.trans x5);obtain⟨q,a0,a7,hq,a5⟩:∃(q:Pin) (a0:Addr),(decide (0<(k:Int))=true->l.a=some a0/\(0:Int)<=Aa ((k:Int) - 1)/\Aa ((k:Int) - 1)<(l.len:Int))/\(∀h:0<k,q=cx[k - 1]'oM)/\(decide (0<(k:Int))=true->ldc w5 (a0.add ((Aa ((k:Int) - 1)).toNat*4)) [.string q.name,vi q.v.ma,vi q.v.mi,vi q.v.pa]):=by
   by_cases h0:k=0
   .subst h0;exact⟨cx[0],ad,λh=>absurd h dC,λh=>absurd h dC,λh=>absurd h dC⟩
   .obtain⟨a0,a7,_,_,a5⟩:=Dg hs (show k - 1<cx.length by omega);have e:Aa ((k:Int) - 1)=((k - 1:Nat):Int):=by rw[Ag oM oM];omega
    rw[e];exact⟨_,a0,λ_=>⟨a7,oM,oM⟩,λ_=>rfl,λ_=>by rw[ec];exact a5 _ a8⟩
  have hg:∀{b c:Bool},((!b)&&c)=true->c=true:=λ{b c} h=>by cases b<;>simp at h;exact h
  have a6:=UY (nm:=Pin.name) a4 (t:=q.name) λh=>by rw[hq h]
  refine⟨a0,λh=>a7 (hg h),q.name,q.v.ma,q.v.mi,q.v.pa,λh=>a5 (hg h),ad,λ_=>⟨ha,oM,b0⟩,cx[k].name,cx[k].v.ma,cx[k].v.mi,cx[k].v.pa,λ_=>by rw[ec];exact a9 _ a8,?_⟩;refine gCall.intro q.name (λ_ r hr=>hf q _ _ λw6 x6=>⟨x6,_,rfl,hr w6 x6⟩) λt6 w6 x6 h6=>gCall.intro cx[k].name (λ_ r hr=>hf _ _ _ λw7 x7=>⟨_,rfl,hr w7 x7⟩) λt7 w7 x7 h7=>?_;rw[Bool.not_not]at h6 h7;rw[VG (t':=q.name) (u':=cx[k].name) λh=>⟨h6 h,h7 h⟩];have b5:=a8.trans (x6.trans x7);exact⟨λhq=>hR false w7 b5 ⟨nO,λhF=>absurd hF (a6.2 hq)⟩,λhq=>hn a4 w7 ⟨b5,a6.1 hq hI⟩⟩
 .have a4:k=cx.length:=oM;rw[a4]at hI;exact hR true w2 x2 ⟨λ_=>hI,λ_=>rfl⟩
def Zhn{l:Sl}{cx:LQ}{f:Value}(hs:SlR edgeE w S l cx)(hf:∀(q:Edge)(w':Wd)(k:Value->Wp),(∀b2,Ext w' b2->k (.string q.name) b2)->callV prog f [.agg #[.string q.name,vi q.to]] w' k)
  (hR:∀(b:Bool) w',Ext w w'->(b=true↔Ff Edge.name cx cx.length)->R b w'):SE.Lr l f w R:=by
 unfold SE.Lr;have hl:=hs.len;have hm:=hs.max;rw[Al]at hm;refine loop1.up hs.max (λk w'=>Ext w w'/\Ff Edge.name cx k) ⟨Ext.refl _,UZ⟩ λk w2 b7 hk ⟨x2,hI⟩ hn=>⟨λb0=>bnd.drew λw3 x3=>?_,λb6=>?_⟩
 .have a4:k<cx.length:=oM;obtain⟨ad,ha,a6,a9⟩:=Dn hs a4;have b4:=x2.trans x3;refine⟨ad,⟨ha,oM,b0⟩,_,_,by rw[ec];exact a9 _ b4,hf _ _ _ λw4 x4=>⟨_,rfl,SE.CA.go (scanName_se a6 λw5 x5=>⟨_,rfl,bound (bound ?_)⟩)⟩⟩;have a8:=b4.trans (x4.trans x5);obtain⟨q,a0,a7,hq,a5⟩:∃(q:Edge) (a0:Addr),(decide (0<(k:Int))=true->l.a=some a0/\(0:Int)<=Aa ((k:Int) - 1)/\Aa ((k:Int) - 1)<(l.len:Int))/\(∀h:0<k,q=cx[k - 1]'oM)/\(decide (0<(k:Int))=true->ldc w5 (a0.add ((Aa ((k:Int) - 1)).toNat*2)) [.string q.name,vi q.to]):=by
   by_cases h0:k=0
   .subst h0;exact⟨cx[0],ad,λh=>absurd h dC,λh=>absurd h dC,λh=>absurd h dC⟩
   .obtain⟨a0,a7,_,a5⟩:=Dn hs (show k - 1<cx.length by omega);have e:Aa ((k:Int) - 1)=((k - 1:Nat):Int):=by rw[Ag oM oM];omega
    rw[e];exact⟨_,a0,λ_=>⟨a7,oM,oM⟩,λ_=>rfl,λ_=>by rw[ec];exact a5 _ a8⟩
  have hg:∀{b c:Bool},((!b)&&c)=true->c=true:=λ{b c} h=>by cases b<;>simp at h;exact h
  have a6:=UY (nm:=Edge.name) a4 (t:=q.name) λh=>by rw[hq h]
  refine⟨a0,λh=>a7 (hg h),q.name,q.to,λh=>a5 (hg h),ad,λ_=>⟨ha,oM,b0⟩,cx[k].name,cx[k].to,λ_=>by rw[ec];exact a9 _ a8,?_⟩;refine gCall.intro q.name (λ_ r hr=>hf q _ _ λw6 x6=>⟨x6,_,rfl,hr w6 x6⟩) λt6 w6 x6 h6=>gCall.intro cx[k].name (λ_ r hr=>hf _ _ _ λw7 x7=>⟨_,rfl,hr w7 x7⟩) λt7 w7 x7 h7=>?_;rw[Bool.not_not]at h6 h7;rw[VG (t':=q.name) (u':=cx[k].name) λh=>⟨h6 h,h7 h⟩];have b5:=a8.trans (x6.trans x7);exact⟨λhq=>hR false w7 b5 ⟨nO,λhF=>absurd hF (a6.2 hq)⟩,λhq=>hn a4 w7 ⟨b5,a6.1 hq hI⟩⟩
 .have a4:k=cx.length:=oM;rw[a4]at hI;exact hR true w2 x2 ⟨λ_=>hI,λ_=>rfl⟩
def ZO:Bn prog 220:=enters_of func220 kR rfl
def ZP:Bn prog 222:=enters_of func222 kR rfl
def ZQ:Bn prog 224:=enters_of func224 kR rfl
section
variable {w:Wd} {p:Addr} {S:Nat->Prop} {c:PC} {G:LN} {P:List Pack} {old:Option (List Dir)} {s:PlS}
def Zgi(ht:Tab w)(h:PlV BN w p S c G P old s)(hi:i<G.length)(hP:P.length=G.length)(hR:∀(b:Bool) w',Ext w w'->(b=true↔NodeR G P i G[i])->R b w'):SE.Lh (some p) (i:Int) w R:=by
 unfold SE.Lh;have m5:=h.g.len;have m7:=h.pk.len;have f1:i<P.length:=oM;have j8:0<G.length:=oM;have b4:∀w',Ext w w'-> ¬NodeR G P i G[i]->R false w':=λw' hx h=>hR false w' hx ⟨nO,λhf=>absurd hf h⟩;obtain⟨ad,cs,es,k4,m8,e5,d1,l0⟩:=C6 h.g hi;obtain⟨b7,dP,eP,oP,k0,_,j9,h7,h8,j2,k9⟩:=IE h.pk f1;have f7:P[i]?=some P[i]:=dt f1;have g8:i=0->P[0]?=some P[i]:=λh=>by subst h;exact f7
 generalize G[i]=x at*;generalize P[i]=pk at*;have h4:=e5.len;have m4:=d1.len;refine join.named λJ hJ=>bnd.drew λw1 x1=>?_;have key:∀(n q:Addr) w2,Ext w w2->BoxAt w2 n [.string x.name,vi x.v.ma,vi x.v.mi,vi x.v.pa,cs.v,es.v]->BoxAt w2 q [.string pk.name,vi pk.v.ma,vi pk.v.mi,vi pk.v.pa,dP.v,eP.v,oP.v]->J n q w2:=by
  subst hJ;intro n q w2 e7 a5 b0;have g6:((x.v.ma==0)&&((x.v.mi==0)&&((x.v.pa==0)&&true)))=decide (x.v=⟨0,0,0⟩):=Mw;have g7:((pk.v.ma==x.v.ma)&&((pk.v.mi==x.v.mi)&&((pk.v.pa==x.v.pa)&&true)))=decide (pk.v=x.v):=Mw;have ek:x.key=rootNode.key↔x.name=⟨#[]⟩/\x.v=⟨0,0,0⟩/\x.ctx=[]:=by unfold Node.key rootNode;simp only[Prod.mk.injEq]
  have d7: ¬0<(cs.len:Int)↔x.ctx=[]:=⟨λh=>fj oM,λh=>by rw[h]at h4;simp at h4;omega⟩;refine bound ⟨x.name,λ_=>a5.at0 xR rfl,bound ⟨x.v.ma,x.v.mi,x.v.pa,λ_=>a5.at1 (k:=1) xR rfl,bound ⟨cs,λ_=>a5.at1 (k:=4) xR rfl,bound ⟨pk.name,pk.v.ma,pk.v.mi,pk.v.pa,dP,eP,oP,λ_=>b0.at0 (r:=[]) xR rfl,?_⟩⟩⟩⟩;refine gCall.intro (decide (pk=Ay)) (λ_ r hr=>SE.F2.go (KX (p:=pk) (q:=Ay) (T:=None') (h7.ext e7) (h8.ext e7) (j2.ext e7) (SlR.nil trivial) (SlR.nil trivial) (SlR.nil trivial) λw3 x3=>⟨_,rfl,hr w3 x3⟩)) λl7 w3 x3 d4=>?_;have d3:=e7.trans x3;have a5:=a5.ext x3;have b0:=b0.ext x3;rw[g6]at d4 ⊢;have b8:(((i:Int)==0)&&(((!Ai x.name (bm #[])|| !decide (x.v=⟨0,0,0⟩))||decide (0<(cs.len:Int)))|| !l7))=false↔(i=0->x.key=rootNode.key/\pk=Ay):=by
   rw[ek,<-d7];by_cases h0:i=0
   .subst h0;have e0:(((0:Nat):Int)==0)=true:=rfl;rw[e0]at d4 ⊢;by_cases hb:((!Ai x.name (bm #[])|| !decide (x.v=⟨0,0,0⟩))||decide (0<(cs.len:Int)))=true
    .rw[hb];simp only[ni,kh,decide_eq_true_eq,decide_eq_false_iff_not]at hb;refine⟨nO,λhF=>?_⟩;obtain⟨⟨q1,q2,q3⟩,_⟩:=hF rfl;rcases hb with(hb|hb)|hb
     .rw[AH.2 q1]at hb;cases hb
     .exact absurd q2 hb
     .exact absurd hb q3
    .rw[Bool.not_eq_true]at hb;rw[hb]at d4 ⊢;rw[d4 rfl];simp only[gb,ox,decide_eq_true_eq,decide_eq_false_iff_not,AH]at hb;simp[hb];intro _;omega
   .have e9:((i:Int)==0)=false:=(by rw[beq_eq_false_iff_ne];omega);rw[e9];simp[h0]
  refine⟨λhq=>b4 w3 d3 λhF=>?_,λhq=>bound ⟨pk.name,pk.v.ma,pk.v.mi,pk.v.pa,dP,eP,oP,λ_=>b0.at0 (r:=[]) xR rfl,?_⟩⟩
  .rw[b8.2 λh0=>⟨(hF.root h0).1,by have:=(hF.root h0).2;rw[g8 h0]at this;exact jm this⟩]at hq;cases hq
  have d9:=b8.1 hq;clear b8 hq g6 ek d7 d4;refine gCall.intro (AQ pk) (λ_ r hr=>SE.Gc.go (NM (ht.ext d3) j9 (h7.ext d3) (h8.ext d3) (j2.ext d3) λw4 x4=>⟨_,rfl,hr w4 x4⟩)) λl8 w4 x4 f5=>bound ?_;have g4:=d3.trans x4;have a5:=a5.ext x4;have b0:=b0.ext x4;refine⟨pk.name,λ_=>b0.at0 xR rfl,x.name,λ_=>a5.at0 xR rfl,bound ⟨pk.v.ma,pk.v.mi,pk.v.pa,λ_=>b0.at1 (k:=1) xR rfl,x.v.ma,x.v.mi,x.v.pa,λ_=>a5.at1 (k:=1) xR rfl,?_⟩⟩;rw[g7];have b9:(decide (0<(i:Int))&&(((!l8)|| !Ai pk.name x.name)|| !decide (pk.v=x.v)))=false↔(i≠0->AQ pk=true/\pk.name=x.name/\pk.v=x.v):=by
   by_cases h0:i=0
   .subst h0;simp
   .rw[decide_eq_true (show(0:Int)<(i:Int) by omega)]at f5 ⊢;rw[f5 rfl];simp[h0,AH,and_assoc]
  refine⟨λhq=>b4 w4 g4 λhF=>?_,λhq=>?_⟩
  .rw[b9.2 λh0=>by obtain⟨y,q1,q2,q3,q4⟩:=hF.pl.pack h0;rw[f7]at q1;cases q1;exact⟨q2,q3,q4⟩]at hq;cases hq
  have f9:=b9.1 hq;clear b9 hq g7 f5;refine⟨cs,a5.at1 (k:=4) xR rfl,SE.Lu.go (Zhp (e5.ext g4) (λq w' k hk=>⟨_,_,rfl,ZO,SE.NP.go ?_⟩) λb5 w5 x5 d6=>⟨_,rfl,bound ?_⟩)⟩
  .unfold SE.NP;exact newS.intro λa w1 x1 f8 _ _=>⟨_,f8.at0 xR rfl,hk w1 x1⟩
  have j4:=g4.trans x5;refine⟨es,λ_=>a5.at1 (k:=5) (r:=[]) x5 rfl,gCall.holds (λt=>t=true↔Ff Edge.name x.edges x.edges.length) (λ_ r hr=>SE.Lr.go (Zhn (d1.ext j4) (λq w' k hk=>⟨_,_,rfl,ZP,SE.NQ.go ?_⟩) λb6 w6 x6 c9=>⟨_,rfl,hr b6 w6 x6 c9⟩)) λl9 w6 x6 f6=>?_⟩
  .unfold SE.NQ;exact newS.intro λa w1 x1 f8 _ _=>⟨_,f8.at0 xR rfl,hk w1 x1⟩
  have g5:=j4.trans x6;have c9:=a5.ext (x5.trans x6);refine⟨λhq=>b4 w6 g5 λhF=>?_,λhq=>?_⟩
  .have d6:=d6.2 ⟨by rw[eh];exact hF.pl.ctx,by rw[eh];exact hF.cn⟩;subst d6;rw[(f6 rfl).2 ⟨by rw[eh];exact hF.pl.edges,by rw[eh];exact hF.en⟩]at hq;cases hq
  rw[gb]at hq;have h3:b5=true:=by simpa using hq.1
  have j3:l9=true:=by simpa using hq.2
  subst h3 j3;obtain⟨h6,h5⟩:=d6.1 rfl;obtain⟨i3,i2⟩:=(f6 rfl).1 rfl;rw[eh]at h6 h5 i3 i2;clear hq d6 f6;refine⟨es,c9.at1 (k:=5) (r:=[]) xR rfl,?_⟩;refine loop1.up d1.max (λj w'=>Ext w6 w'/\∀e∈x.edges.take j,∃(m:Nat) (y:Node),e.to=(m:Int)/\1<=m/\G[m]?=some y/\y.name=e.name) ⟨Ext.refl _,(λ_ h=>by cases h)⟩ λj w7 m2 hj ⟨x7,hJ⟩ l5=>⟨λi7=>?_,λm0=>?_⟩
  .have a6:j<x.edges.length:=oM;obtain⟨j6,g9,_,i4⟩:=Dn d1 a6;have c8:=ff a6;have g0:x.edges.take (j+1)=x.edges.take j++[x.edges[j]]:=dw a6;have e3:=g5.trans x7;generalize x.edges[j]=e at*;refine⟨j6,⟨g9,oM,i7⟩,e.name,e.to,by rw[ec];exact i4 _ e3,newS.set rfl λa8 w8 x8 k8 _=>bnd.drew λw9 x9=>?_⟩;have c7:=e3.trans (x8.trans x9);have c4:=k8.ext x9;obtain⟨m,hm,j0⟩:∃m,m<G.length/\(0<=e.to/\e.to<(G.length:Int)->e.to=(m:Int)):=by
    by_cases hq:0<=e.to/\e.to<(G.length:Int)
    .exact⟨e.to.toNat,oM,λ_=>by omega⟩
    .exact⟨0,j8,λh=>absurd h hq⟩
   obtain⟨f2,_,_,d5,_,_,_,d8⟩:=C6 h.g hm;have e6:((!(decide (e.to<1)||decide ((c.u.len:Int)<=e.to)))=true)->e.to=(m:Int)/\1<=m:=λhg=>by simp only[kh,gb,decide_eq_false_iff_not]at hg;have:=j0 ⟨oM,oM⟩;exact⟨this,oM⟩
   refine⟨e.to,c4.at1 (k:=1) (r:=[]) xR rfl,bound ⟨e.to,λ_=>c4.at1 (k:=1) (r:=[]) xR rfl,p,λ_=>rfl,c.u,λ_=>h.ld0 c7,bound ⟨p,λ_=>rfl,c.u,λ_=>h.ld0 c7,e.to,λ_=>c4.at1 (k:=1) (r:=[]) xR rfl,f2,λhg=>⟨d5,by have:=(e6 hg).1;omega,by have:=(e6 hg).1;omega⟩,G[m].name,λhg=>by rw[(e6 hg).1,ec];exact(d8 _ c7).pre rfl,e.name,λ_=>c4.at0 xR rfl,λhq=>?_,λhq=>?_⟩⟩⟩
   .refine b4 w9 c7 λhF=>?_;obtain⟨m',y,q1,q2,q3,q4⟩:=hF.pl.edge e c8;have m6:=(fh.1 q3).1;have:m=m':=(by have:=j0 ⟨oM,oM⟩;omega);subst this;rw[dt hm]at q3;cases q3;rw[decide_eq_false oM,decide_eq_false oM,AH.2 q4]at hq;cases hq
   .rw[gb]at hq;obtain⟨g1,g2⟩:=e6 (by rw[hq.1];rfl);refine l5 a6 w9 ⟨x7.trans (x8.trans x9),λe' d0=>?_⟩;rw[g0]at d0;obtain d0|d0:=fk.1 d0
    .exact hJ e' d0
    .rw[ep.1 d0];exact⟨m,G[m],g1,g2,dt hm,AH.1 (by simpa using hq.2)⟩
  .have a6:j=x.edges.length:=oM;rw[a6,eh]at hJ;have e3:=g5.trans x7;refine⟨cs,c9.at1 (k:=4) x7 rfl,?_⟩;refine loop1.up e5.max (λj w'=>Ext w7 w'/\∀q∈x.ctx.take j,∃y,HY G x q.name=some y/\y.v=q.v) ⟨Ext.refl _,(λ_ h=>by cases h)⟩ λj w8 m3 hj ⟨x8,hK⟩ l6=>⟨λi9=>?_,λm1=>?_⟩
   .have a6:j<x.ctx.length:=oM;obtain⟨f4,h2,_,_,i6⟩:=Dg e5 a6;have c8:=ff a6;have g0:x.ctx.take (j+1)=x.ctx.take j++[x.ctx[j]]:=dw a6;have j5:=e3.trans x8;generalize x.ctx[j]=q at*;refine⟨f4,⟨h2,oM,i9⟩,q.name,q.v.ma,q.v.mi,q.v.pa,by rw[ec];exact i6 _ j5,newS.set rfl λa9 w9 x9 c4 _=>⟨es,c9.at1 (k:=5) (r:=[]) (x7.trans (x8.trans x9)) rfl,?_⟩⟩;have c7:=j5.trans x9;refine SE.LX.go (Zb9 (q:=λe=>decide (e.name=q.name)) (d1.ext c7) (λe he w' k x' hk=>⟨_,_,rfl,ZQ,SE.NR.go ?_⟩) λm9 e8=>⟨_,rfl,bnd.drew λg3 f0=>bound ?_⟩)
    .unfold SE.NR;refine newS.intro λa4 w4 x4 k7 _ _=>⟨_,k7.at0 xR rfl,q.name,c4.at0 (x'.trans x4) rfl,?_⟩;have:Ai e.name q.name=decide (e.name=q.name):=by rw[gk,AH,decide_eq_true_iff]
     rw[this];exact hk w4 x4
    have c3:=c7.trans (e8.trans f0);rcases Zce (λe:Edge=>decide (e.name=q.name)) x.edges with⟨e1,e2⟩|⟨k,hk,e1,e2⟩
    .rw[e1];refine⟨p,nO,c.u,nO,es,nO,f4,nO,0,nO,f4,nO,0,0,0,nO,0,0,0,nO,λ_=>b4 g3 c3 λhF=>?_,λhq=>?_⟩
     .obtain⟨y,q1,_⟩:=hF.pl.full q c8;rw[TG,e2]at q1;cases q1
     .exact absurd hq sI
    .rw[e1];obtain⟨j7,h1,_,i5⟩:=Dn d1 hk;obtain⟨m,y,q1,q2,q3,q4⟩:=hJ _ (ff hk);have hm:=(fh.1 q3).1;obtain⟨f2,_,_,d5,_,_,_,d8⟩:=C6 h.g hm;rw[dt hm]at q3;cases q3;have h9:HY G x q.name=some G[m]:=by rw[TG,e2,my,q1,ec];exact dt hm
     refine⟨p,λ_=>rfl,c.u,λ_=>h.ld0 c3,es,λ_=>c9.at1 (k:=5) (r:=[]) (x7.trans (x8.trans (x9.trans (e8.trans f0)))) rfl,j7,λ_=>⟨h1,oM,oM⟩,x.edges[k].to,λ_=>by rw[ec];exact(i5 _ c3).mid (k:=1) (r:=[]) rfl,f2,λ_=>⟨d5,oM,oM⟩,G[m].v.ma,G[m].v.mi,G[m].v.pa,λ_=>by rw[q1,ec];exact(d8 _ c3).mid (k:=1) rfl,q.v.ma,q.v.mi,q.v.pa,λ_=>c4.at1 (k:=1) (r:=[]) (e8.trans f0) rfl,?_⟩;have ev:((G[m].v.ma==q.v.ma)&&((G[m].v.mi==q.v.mi)&&((G[m].v.pa==q.v.pa)&&true)))=decide (G[m].v=q.v):=Mw;rw[ev,decide_eq_false (show ¬((k:Int)<0) by omega)];refine⟨λhq=>b4 g3 c3 λhF=>?_,λhq=>l6 a6 g3 ⟨x8.trans (x9.trans (e8.trans f0)),λq' d2=>?_⟩⟩
     .obtain⟨y,r1,r2⟩:=hF.pl.full q c8;rw[h9]at r1;cases r1;rw[decide_eq_true r2]at hq;cases hq
     .rw[g0]at d2;obtain d2|d2:=fk.1 d2
      .exact hK q' d2
      .rw[ep.1 d2];exact⟨_,h9,of_decide_eq_true (by simpa using hq)⟩
   .have a6:j=x.ctx.length:=oM;rw[a6,eh]at hK;exact hR true w8 (e3.trans x8) ⟨λ_=>⟨λh0=>⟨(d9 h0).1,by rw[g8 h0,(d9 h0).2]⟩,⟨λh0=>⟨pk,f7,f9 h0⟩,h6,i3,hJ,hK⟩,h5,i2⟩,λ_=>rfl⟩
 clear hJ;have c6:∀{w'},Ext w1 w'->ldc w' (p.add 1) [c.ps.v]:=λx=>h.ld (x1.trans x) 1 rfl;have a0:∀{w'},Ext w1 w'->ldc w' (b7.add ((i:Int).toNat*7)) [.string pk.name,vi pk.v.ma,vi pk.v.mi,vi pk.v.pa,dP.v,eP.v,oP.v]:=λx=>by rw[ec];exact k9 _ (x1.trans x)
 have c5:c.ps.a=some b7/\(0:Int)<=(i:Int)/\(i:Int)<(c.ps.len:Int):=⟨k0,oM,oM⟩;have F:∀{n q:Addr} {w':Wd},Ext w1 w'->n.block≠q.block->w1.heap.size<=n.block->w1.heap.size<=q.block->∀{z1 z2 z3 z4 z5 z6 y1 y2 y3 y4 y5 y6 y7:Value},BoxAt w' n [z1,z2,z3,z4,z5,z6]->BoxAt w' q [y1,y2,y3,y4,y5,y6,y7]->∀K:Wp,(∀w2,Ext w1 w2->stw w2 q [.string pk.name,vi pk.v.ma,vi pk.v.mi,vi pk.v.pa,dP.v,eP.v,oP.v] (J n q)->K w2)->stw w' n [.string x.name,vi x.v.ma,vi x.v.mi,vi x.v.pa,cs.v,es.v] K:=λ{n q w'} x' j1 hn hq {_ _ _ _ _ _ _ _ _ _ _ _ _} a5 b0 K hK=>by have s1:=x'.size;refine stw0.intro a5 sI λw2 b2 z2 k5=>hK w2 (b2.ext x' hn) (stw0.intro (b2.box b0 (Ne.symm j1)) sI λw3 b3 z3 k6=>key n q w3 (x1.trans (b3.ext (b2.ext x' hn) hq)) (b3.box k5 j1) k6)
 refine⟨p,rfl,c.u,h.ld0 x1,ad,⟨k4,oM,oM⟩,_,_,_,_,cs,es,by rw[ec];exact l0 _ x1,p,rfl,?_⟩;have N2:∀{w':Wd} {zs ys:LV} {t u:TypeId} {K:Addr->Addr->Wp},Ext w1 w'->(∀a b w2,Ext w1 w2->w1.heap.size<=a.block->w1.heap.size<=b.block->a.block≠b.block->BoxAt w2 a zs->BoxAt w2 b ys->K a b w2)->newS w' zs t λa w2=>newS w2 ys u λb w3=>K a b w3:=λ{w' zs ys t u K} x' hK=>newS.intro λa w2 x2 ha e4 _=>newS.intro λb w3 x3 hb a7 _=>by have:=x'.size;have:=ha.lt;exact hK a b w3 (x'.trans (x2.trans x3)) oM oM oM (ha.ext x3) hb
 have x0:Ext w1 w1:=Ext.refl _;refine⟨⟨c.ps,c6 x0,b7,c5,⟨_,_,_,_,dP,eP,oP,a0 x0,N2 x0 λa b w2 x2 k1 k2 k3 ha hb=>F x2 k3 k1 k2 ha hb _ λ_ _ h=>h,N2 x0 λa b w2 x2 k1 k2 k3 ha hb=>F x2 (Ne.symm k3) k2 k1 hb ha _ λ_ _ h=>h⟩,?_,?_⟩,?_,?_⟩
 .refine newS.intro λa w2 x2 ha e4 _=>⟨⟨_,_,_,_,dP,eP,oP,a0 x2,newS.intro λb w3 x3 hb a7 _=>?_⟩,newS.intro λb w3 x3 hb a7 _=>⟨⟨_,_,_,_,dP,eP,oP,a0 (x2.trans x3),?_⟩,?_⟩⟩
  all_goals have:=x2.size
  all_goals have:=ha.lt
  .exact F (x2.trans x3) oM oM oM (ha.ext x3) hb _ λ_ _ h=>h
  .exact F (x2.trans x3) oM oM oM (ha.ext x3) hb _ λ_ _ h=>h
  .exact F (x2.trans x3) oM oM oM (ha.ext x3) hb _ λ_ x h=>⟨_,_,_,_,dP,eP,oP,a0 x,h⟩
 .refine newS.intro λa w2 x2 ha e4 _=>⟨⟨_,_,_,_,dP,eP,oP,a0 x2,newS.intro λb w3 x3 hb a7 _=>?_⟩,newS.intro λb w3 x3 hb a7 _=>⟨⟨_,_,_,_,dP,eP,oP,a0 (x2.trans x3),?_⟩,?_⟩⟩
  all_goals have:=x2.size
  all_goals have:=ha.lt
  .exact F (x2.trans x3) oM oM oM hb (ha.ext x3) _ λ_ _ h=>h
  .exact F (x2.trans x3) oM oM oM hb (ha.ext x3) _ λ_ _ h=>h
  .exact F (x2.trans x3) oM oM oM hb (ha.ext x3) _ λ_ x h=>⟨_,_,_,_,dP,eP,oP,a0 x,h⟩
 .refine newS.intro λa w2 x2 ha e4 _=>⟨⟨c.ps,c6 x2,b7,c5,⟨_,_,_,_,dP,eP,oP,a0 x2,newS.intro λb w3 x3 hb a7 _=>?_⟩,newS.intro λb w3 x3 hb a7 _=>⟨⟨_,_,_,_,dP,eP,oP,a0 (x2.trans x3),?_⟩,?_⟩⟩,newS.intro λb w3 x3 hb a7 _=>⟨⟨c.ps,c6 (x2.trans x3),b7,c5,⟨_,_,_,_,dP,eP,oP,a0 (x2.trans x3),?_⟩,?_⟩,?_⟩⟩
  all_goals have:=x2.size
  all_goals have:=ha.lt
  .exact F (x2.trans x3) oM oM oM (ha.ext x3) hb _ λ_ _ h=>h
  .exact F (x2.trans x3) oM oM oM (ha.ext x3) hb _ λ_ _ h=>h
  .exact F (x2.trans x3) oM oM oM (ha.ext x3) hb _ λ_ x h=>⟨_,_,_,_,dP,eP,oP,a0 x,h⟩
  .exact F (x2.trans x3) oM oM oM (ha.ext x3) hb _ λ_ _ h=>h
  .exact F (x2.trans x3) oM oM oM (ha.ext x3) hb _ λ_ x h=>⟨_,_,_,_,dP,eP,oP,a0 x,h⟩
  .exact F (x2.trans x3) oM oM oM (ha.ext x3) hb _ λ_ x h=>⟨c.ps,c6 x,b7,c5,_,_,_,_,dP,eP,oP,a0 x,h⟩
 .refine newS.intro λa w2 x2 ha e4 _=>⟨⟨c.ps,c6 x2,b7,c5,⟨_,_,_,_,dP,eP,oP,a0 x2,newS.intro λb w3 x3 hb a7 _=>?_⟩,newS.intro λb w3 x3 hb a7 _=>⟨⟨_,_,_,_,dP,eP,oP,a0 (x2.trans x3),?_⟩,?_⟩⟩,newS.intro λb w3 x3 hb a7 _=>⟨⟨c.ps,c6 (x2.trans x3),b7,c5,⟨_,_,_,_,dP,eP,oP,a0 (x2.trans x3),?_⟩,?_⟩,?_⟩⟩
  all_goals have:=x2.size
  all_goals have:=ha.lt
  .exact F (x2.trans x3) oM oM oM hb (ha.ext x3) _ λ_ _ h=>h
  .exact F (x2.trans x3) oM oM oM hb (ha.ext x3) _ λ_ _ h=>h
  .exact F (x2.trans x3) oM oM oM hb (ha.ext x3) _ λ_ x h=>⟨_,_,_,_,dP,eP,oP,a0 x,h⟩
  .exact F (x2.trans x3) oM oM oM hb (ha.ext x3) _ λ_ _ h=>h
  .exact F (x2.trans x3) oM oM oM hb (ha.ext x3) _ λ_ x h=>⟨_,_,_,_,dP,eP,oP,a0 x,h⟩
  .exact F (x2.trans x3) oM oM oM hb (ha.ext x3) _ λ_ x h=>⟨c.ps,c6 x,b7,c5,_,_,_,_,dP,eP,oP,a0 x,h⟩
def Zgk(ht:Tab w)(h:PlV BN w p S c G P old s)(hR:∀(b:Bool) w',Ext w w'->(b=true↔PlaceOk G P)->R b w'):SE.Lk (some p) w R:=by
 unfold SE.Lk;have a8:=h.g.len;have b0:=h.pk.len;have a5:∀w',Ext w w'-> ¬PlaceOk G P->R false w':=λw' hx h=>hR false w' hx ⟨nO,λhf=>absurd hf h⟩;refine⟨p,rfl,c.u,h.ld0 xR,bound (bound ⟨p,λ_=>rfl,c.ps,λ_=>h.ld xR 1 rfl,λhc=>a5 w xR λhF=>?_,λhc=>?_⟩)⟩
 .have h1:=hF.len;have h2:=hF.packs;rw[decide_eq_false oM,decide_eq_false oM,show((c.ps.len:Int)==(c.u.len:Int))=true by rw[beq_iff_eq];omega]at hc;cases hc
 simp only[gb,decide_eq_false_iff_not,ox,beq_iff_eq]at hc;have a0:0<G.length:=oM;have hP:P.length=G.length:=oM;refine loop1.up h.g.max (λi w'=>Ext w w'/\∀j (hj:j<G.length),j<i->NodeR G P j G[j]) ⟨Ext.refl _,λj _ h=>by omega⟩ λi w1 b2 hi ⟨x1,hI⟩ hn=>⟨λa9=>?_,λa7=>?_⟩
 .have a4:i<G.length:=oM;refine SE.Lh.go (Zgi (ht.ext x1) (h.ext x1) a4 hP λb w2 x2 hb=>⟨b,rfl,λhq=>a5 w2 (x1.trans x2) λhF=>?_,λhq=>hn a4 w2 ⟨x1.trans x2,λj hj a6=>?_⟩⟩)
  .rw[hb.2 (hF.nodeR (dt a4))]at hq;cases hq
  .obtain h'|h':=ik.1 a6
   .exact hI j hj h'
   .subst h';exact hb.1 (by simpa using hq)
 .have a4:i=G.length:=oM;subst a4;refine hR true w1 x1 ⟨λ_=>⟨oM,hP,⟨G[0],dt a0,((hI 0 a0 a0).root rfl).1⟩,((hI 0 a0 a0).root rfl).2,λj y hy=>?_⟩,λ_=>rfl⟩;obtain⟨hj,rfl⟩:=fh.1 hy;exact(hI j hj hj).pl
end
def ZW:Bn prog 68:=enters_of func68 kR rfl
def Zh5{x y:DirC×Dir}(hx:DirRp w S x)(hy:DirRp w S y):Calls prog 68 #[.agg (E3 x.1).toArray,.agg (E3 y.1).toArray] w λe w'=>e= .returned (.int .i64 (HJ x.2 y.2))/\Ext w w':=by have h1:=hx.path;have h2:=hy.path;obtain⟨⟨ps,nm,ma,mi,pa,d,e,o,nd⟩,x⟩:=x;obtain⟨⟨a0,a8,a5,a6,a9,d',e',o',a7⟩,y⟩:=y;have h:callS prog 68 [.agg #[ps.v,.string nm,vi ma,vi mi,vi pa,d.v,e.v,o.v,vi nd],.agg #[a0.v,.string a8,vi a5,vi a6,vi a9,d'.v,e'.v,o'.v,vi a7]] w (λv w'=>v= .int .i64 (HJ x y)/\Ext w w'):=SE.NN.go (by unfold SE.NN;refine newS.intro λa w1 x1 hb _ _=>newS.intro λa1 w2 x2 a4 _ _=>bnd.drew λw3 x3=>⟨ps,hb.at0 (x2.trans x3) rfl,a0,a4.at0 x3 rfl,callX.intro (SE.Eh.go (Hy (h1.ext (x1.trans (x2.trans x3))) hx.2 λw4 x4=>⟨x4,_,rfl,SE.Eh.go (Hy (h2.ext (x1.trans (x2.trans (x3.trans x4)))) hy.2 λw5 x5=>⟨_,rfl,ET ⟨_,rfl,rfl,x1.trans (x2.trans (x3.trans (x4.trans x5)))⟩⟩)⟩))⟩);exact Calls.mono h λe w' ⟨v,he,hv,hg⟩=>⟨by rw[he,hv],hg⟩
def Zgn{S0:Nat->Prop}{u pks:Sl}{ol:Option Addr}{old:Option (List Dir)}{l1 l2:Int}{R:Sl->Int->Wp}(ht:Tab w)(hS:Old S0 w)(hg:SlR nodeE w S0 u G)(i5:SlR packE w S0 pks P)(f6:OldR w S0 old ol)(hz:0<P.length->P[0]?=some Ay)
  (hb:∀T,old=some T->∀d∈T,d.path.length<=4000000000000)
  (hR:∀c T t w',Ext w w'->PlaceR G P old D M c T->SlR dirE w' (λb=>b<w'.heap.size) t T->R t c w'):SE.Gd u pks l1 l2 D M ol w R:=by
 unfold SE.Gd;refine newS.intro λa w1 x1 ha k4 _=>newS.intro λa1 w2 x2 b2 j5 _=>newS.intro λa3 w3 x3 b5 j6 _=>⟨D,b2.at1 (k:=2) x3 rfl,bound ⟨D,λ_=>b2.at1 (k:=2) x3 rfl,bound ⟨M,λ_=>b2.at1 (k:=3) (r:=[]) x3 rfl,bound ⟨M,λ_=>b2.at1 (k:=3) (r:=[]) x3 rfl,λhc=>?_,λhc=>bound ?_⟩⟩⟩⟩
 .have a6:=x1.trans (x2.trans x3);have d9: ¬Fd D M:=λ⟨h1,h2,h3,h4⟩=>by rw[decide_eq_false oM,decide_eq_false oM,decide_eq_false oM,decide_eq_false oM]at hc;cases hc
  exact stw0.intro b5 sI λw4 b4 _ d6=>⟨Sl.nil,d6.ldc.pre (r:=[]) rfl,hR 1 [] Sl.nil w4 (b4.ext a6 (by have:=x1.size;have:=x2.size;omega)) (.arg d9) (SlR.nil trivial)⟩
 have b9:Fd D M:=by simp only[gb,decide_eq_false_iff_not]at hc;obtain⟨⟨⟨h2,h3⟩,h4⟩,h5⟩:=hc;exact⟨oM,oM,oM,oM⟩
 clear hc;have a6:=x1.trans (x2.trans x3);have s1:=x1.size;have s2:=x2.size;have s3:=x3.size;obtain⟨p0,t0,T0,i4,i9,g5,a5⟩:∃(p0:Addr) (t0:Sl) (T0:List Dir),((!Option.isNone ol)=true->ol=some p0)/\((!Option.isNone ol)=true->ldc w3 p0 [t0.v])/\((!Option.isNone ol)=true->SlR dirE w3 S0 t0 T0)/\(((!Option.isNone ol)=true/\old=some T0)\/((!Option.isNone ol)=false/\old=none)):=by
  rcases f6.ok with⟨rfl,h⟩|⟨ao,T,so,rfl,h2,h3,h4⟩
  .exact⟨⟨0,0,none⟩,Sl.nil,[],nO,nO,nO,.inr ⟨rfl,h⟩⟩
  .exact⟨ao,so,T,λ_=>rfl,λ_=>h3.ext a6,λ_=>h4.ext a6,.inl ⟨rfl,h2⟩⟩
 refine⟨p0,i4,t0,i9,gCall.named λJ hJ=>?_⟩;have c9:∀(e1:Int)(c7:Wd),Ext w3 c7->((!Option.isNone ol)=true->e1=GL T0)->J e1 c7:=by
  subst hJ;intro e1 c7 b0 d1;have x0:=a6.trans b0;refine⟨λhc=>?_,λhc=>?_⟩
  .have d9: ¬H9 old:=λhO=>by
    rcases a5 with⟨h1,h2⟩|⟨h1,h2⟩
    .rw[h1,d1 h1,Pp (hO T0 h2)]at hc;cases hc
    .rw[h1]at hc;cases hc
   exact stw0.intro (b5.ext b0) sI λw4 b4 _ d6=>⟨Sl.nil,d6.ldc.pre (r:=[]) rfl,hR 42 [] Sl.nil w4 (b4.ext x0 oM) (.tree b9 d9) (SlR.nil trivial)⟩
  have hO:H9 old:=λT hT=>by
   rcases a5 with⟨h1,h2⟩|⟨h1,h2⟩
   .rw[h1,d1 h1]at hc;rw[h2]at hT;cases hT;exact Pq.1 (by simpa using hc)
   .rw[h2]at hT;cases hT
  clear hc d1;refine⟨u,ha.at0 (r:=[]) (x2.trans (x3.trans b0)) rfl,l1,l2,D,M,b2.at0 (r:=[]) (x3.trans b0) rfl,?_⟩;refine newS.ownL (E:=dirE) (f:=λ_=> [Sl.nil.v,.string ⟨#[]⟩,vi 0,vi 0,vi 0,Sl.nil.v,Sl.nil.v,Sl.nil.v,vi 0]) (l:=[⟨[],Ay,0⟩]) (λx hx w S=>by rw[ep.1 hx];exact QT) rfl sI λc5 w4 x4 o4 g6=>newS.intro λa4 w5 x5 f1 g7 j8=>?_;have e3:=b0.trans (x4.trans x5);have a7:=a6.trans e3;have m2:=b0.size;have s4:=x4.size;have s5:=x5.size;have l3:=b5.lt;have l8:=ha.lt;have m0:=f1.lt;have l9:c5.block<w4.heap.size:=(o4.block rfl).2.1;have eD:pl0.dirs.map (Bh P)= [⟨[],Ay,0⟩]:=Zo hz;have g4:∀b,S0 b->b<w5.heap.size:=λb hb=>by have:=hS b hb;have:=a7.size;omega
  have oD:OwnS dirE 75 w5 w.heap.size None' ⟨some c5,1,1⟩ (pl0.dirs.map (Bh P)):=by rw[eD];exact OwnS.low (lo:=c7.heap.size) (o4.ext x5) (by have:=x0.size;omega)
  have h0:MlV BN 295 w5 w.heap.size a4 S0 ⟨u,pks,l1,l2,D,M,ol,⟨some c5,1,1⟩,Sl.nil⟩ G P old pl0:=by have e8:∀b,S0 b->b<w.heap.size:=hS;refine⟨f1,oM,hg.ext a7,i5.ext a7,f6.ext a7,g4,λh=>by have:=e8 _ h;omega,⟨None',oD,(λh=>h),(λ_ h=>by cases h),(λ_ h=>h.elim)⟩,OwnS.nil _ _,λad d4=>?_,(λad d4=>by cases d4),(λ_ _ _ h=>by cases h)⟩;cases d4;exact⟨oM,λh=>by have:=e8 _ h;omega⟩
  have f7:=h0.read (by show 1<=1000;decide) ⟨by show 0*32<=Ab;omega,by show 0<=maxLen;omega⟩;generalize c6:(⟨u,pks,l1,l2,D,M,ol,⟨some c5,1,1⟩,Sl.nil⟩:PC)=c0 at*;have k6:c0.l3=D:=by rw[<-c6]
  have k7:c0.l4=M:=by rw[<-c6]
  have c8:∀ad,c0.dr.a=some ad->a3.block<ad.block/\ad.block≠a4.block:=λad h=>by rw[<-c6]at h;cases h;exact⟨oM,oM⟩
  have g0:∀ad,c0.st.a=some ad->False:=λad h=>by rw[<-c6]at h;cases h
  refine SE.Lk.go (Zgk (ht.ext a7) f7 λb w7 x7 f2=>⟨b,rfl,λhq=>?_,λhq=>?_⟩)
  .have e2:=a7.trans x7;exact stw0.intro (b5.ext (e3.trans x7)) sI λw8 b8 _ g8=>⟨Sl.nil,g8.ldc.pre (r:=[]) rfl,hR 33 [] Sl.nil w8 (b8.ext e2 oM) (.graph b9 hO λhp=>by rw[f2.2 hp]at hq;cases hq) (SlR.nil trivial)⟩
  have a8:PlaceOk G P:=f2.1 (by simpa using hq);have h7:=a8.grPl;have s7:=x7.size;have h1:=h0.ext x7;have e2:=a7.trans x7;have f0:=b5.ext (e3.trans x7);generalize hI:EG G P old D M=I;have e5:I.g=G:=by rw[<-hI];rfl
  have k3:I.maxD=D:=by rw[<-hI];rfl
  obtain⟨e4,d2,e6,e7⟩:=b9;have keep:∀{c w'},Mv w.heap.size a4 c0 w7 c w'->Ext w w'/\BoxAt w' a3 [Sl.nil.v]/\c.l3=D/\c.l4=M:=λ{c w'} m=>by refine⟨e2.trans' m.bel,m.box f0 oM (λad h=>by have:=c8 ad h;omega) (λad h=>(g0 ad h).elim),?_,?_⟩<;>rw[m.same]<;>assumption
  have fin:∀{c w' c4 code T t},Mv w.heap.size a4 c0 w7 c w'->Ext w' c4->PlaceR G P old D M code T->SlR dirE c4 (λb=>b<c4.heap.size/\b≠a3.block) t T->stw c4 a3 [t.v] λd0=>∃r:Sl,ldc d0 a3 [r.v]/\R r code d0:=λ{c w' c4 code T t} m x hP ht=>by obtain⟨k1,k2,_⟩:=keep m;exact stw0.intro (k2.ext x) sI λw3 b3 j0 d5=>⟨t,d5.ldc.pre (r:=[]) rfl,hR code T t w3 (b3.ext (k1.trans x) oM) hP ((ht.but b3 λh=>h.2 rfl).mono λb hb=>by have:=hb.1;have:=b3.1;omega)⟩
  refine loop1.ghost (λn g2 w1=>∃(a0:Nat) (c:PC) (s:PlS),g2=(a0:Int)/\n=400 - a0/\MlV BN 295 w1 w.heap.size a4 S0 c G P old s/\Mv w.heap.size a4 c0 w7 c w1/\PInv G s a0/\(∀u∈s.done,u.src<a0)/\DL I s/\s.done.length<=a0*128/\a0<=s.dirs.length/\∀code t,DirsR I a0 s code t->DirsR I 0 pl0 code t) 400
   ⟨0,c0,pl0,rfl,rfl,h1,Mv.of xR h1.lo_le,PInv.start h7.pos,(λu hu=>by cases hu),VX oM,fm _,gn _,λ_ _ h=>h⟩ λn g2 w8 m1 ⟨a0,c,s,hv,hn,h8,m8,d3,f9,f8,j7,k5,d8⟩ i2=>?_
  subst hv;have l6:s.dirs.length<=257:=by have:=f8.2;omega
  have k8:c.dr.len=s.dirs.length:=Fs (h8.read oM ⟨by show _*32<=Ab;unfold Ab;omega,by rw[Al];omega⟩);obtain⟨j4,j1,j2,j3⟩:=keep m8;refine⟨c.dr,h8.box.at1 (k:=7) xR rfl,λl0=>?_,λk9=>?_⟩
  .have a9:a0<s.dirs.length:=oM;have f5:nodeAt s.dirs a0<G.length:=(by rw[Hc (dt a9)];exact d3.node _ (ff a9));have l5:(Cn I.g (nodeAt s.dirs a0)).length<=128:=(by rw[Vj,e5];have:=a8.edges_le (nodeAt s.dirs a0);have:=a8.len;omega);refine SE.Lg.go (Zgh hI h8 a8 d3 a9 rfl f5 d2 oM j2 j3 f8 f9 (λc' w' s' c3 h' m'=>⟨0,rfl,λh=>absurd rfl h,λ_=>?_⟩) λc' w' code t hc he m'=>⟨code,rfl,λ_=>fin (m8.trans m') xR (.stop ⟨e4,d2,e6,e7⟩ hO a8 (by rw[hI];exact d8 code t (.stop a9 he hc)) hc) (SlR.nil trivial),λh=>absurd hc h⟩);obtain⟨e9,_⟩:=c3.node a9;have g9:=c3.cnt;have h6:=c3.done;have b7:=c3.inv;rw[e5]at b7;simp only[ia,jz]at g9;refine i2 (400 - (a0+1)) _ w' oM ⟨a0+1,c',s',?_,rfl,h',m8.trans m',b7.next,λu hu=>by have:=(b7.src u hu).1;omega,c3.small,oM,e9,λcode t ht=>d8 code t (.next a9 h6 ht)⟩;rw[Ag oM oM];omega
  .have d7:DirsR I 0 pl0 0 s:=d8 0 s (.fin oM);obtain⟨DD,o,j9,k0,g3⟩:=h8.dr;have e0:∀d∈s.dirs,d.path.length<=257:=λd hm=>(by obtain⟨i,hi⟩:=jo hm;have:=d3.plen i d hi;have:=(fh.1 hi).1;omega);refine⟨c.dr,h8.box.at1 (k:=7) xR rfl,?_⟩;refine Ziv o h8.lo_le (by rw[dz];omega) (λd hd=>?_) ZW (λw' S' x y hx hy=>Zh5 hx hy) λl' w2 hp hs bel oth i6=>⟨rfl,c.dr,?_,?_⟩
   .obtain⟨b,hb,rfl⟩:=gq.1 hd;have:=e0 b hb;show b.path.length<=_;omega
   .have:BoxAt w2 a4 c.c:=h8.box.keep (S:=λb=>∀ad,c.dr.a=some ad->b≠ad.block) (λad ha e=>(h8.drP ad ha).1 e.symm) λb hb hl=>oth b hl hb;exact this.at1 (k:=7) xR rfl
   .have f4:∀ad,c.dr.a=some ad->a3.block≠ad.block:=λad ha=>by
     obtain q|q:=m8.dr ad ha
     .have:=(c8 ad q).1;omega
     .omega
    have g1:BoxAt w2 a3 [Sl.nil.v]:=j1.keep (S:=λb=>∀ad,c.dr.a=some ad->b≠ad.block) f4 λb hb hl=>oth b hl hb;have i7:SortedD s.dirs (l'.map AJ):=by
     refine⟨?_,?_⟩
     .have:=hp.map AJ;rwa [NK]at this
     .rw[iq];exact hs
    have h9:(l'.map AJ).map (Bh P)=l':=by
     rw[iy]
     conv=>rhs;rw[<-List.map_id l']
     refine mr λx hx=>?_;obtain⟨b,_,rfl⟩:=gq.1 (hp.mem_iff.1 hx);show Bh P (AJ (Bh P b))=_;rw[T8];rfl
    have i3:PlaceR G P old D M 0 l':=by have:=PlaceR.ok (old:=old) (D:=D) (M:=M) ⟨e4,d2,e6,e7⟩ hO a8 (by rw[hI];exact d7) i7;rwa [h9]at this
    have l7:=Below.size bel;refine stw0.intro g1 sI λw3 b3 j0 d5=>⟨c.dr,d5.ldc.pre (r:=[]) rfl,hR 0 l' c.dr w3 (b3.ext (j4.trans' bel) oM) i3 ?_⟩;refine(i6.but b3 λhb=>?_).mono λb hb=>?_
    .rcases hb with hb|⟨ad,ha,e⟩
     .obtain q|q:=g3 _ hb
      .have:=hS _ q;omega
      .omega
     .exact f4 ad ha e
    .have:=b3.1;rcases hb with hb|⟨ad,ha,rfl⟩
     .have:=o.lt b hb;omega
     .have:=(o.block ha).2.1;omega
 refine⟨λb6=>?_,λb6=>c9 0 w3 xR λh=>by rw[b6]at h;cases h⟩;refine SE.Jg.go (WF (ht.ext a6) (g5 b6) (λd hd=>?_) λw4 x4=>⟨_,rfl,c9 _ w4 x4 λ_=>rfl⟩);rcases a5 with⟨_,h2⟩|⟨h1,_⟩
 .exact hb T0 h2 d hd
 .rw[h1]at b6;cases b6
def OT{a b c:Bool}(h:a=true->b=c):(a&&b)=(a&&c):=by
 cases a
 .rfl
 .rw[h rfl]
def ewithin_se{n m:Int}(hR:R (decide (1<=n)&&decide (n<=m)) w):SE.GP n m w R:=bound hR
def emay_se{P:Int}(hR:∀b w',Ext w w'->(b=true↔Er D N Di P)->R b w'):SE.JQ D N Di P w R:=by unfold SE.JQ;refine newS.intro λa w1 x1 ha _ _=>⟨D,ha.at0 xR rfl,SE.GP.go (ewithin_se ⟨_,rfl,N,λ_=>ha.at1 (k:=1) xR rfl,?_⟩)⟩;refine gCall.intro (decide (1<=N)&&decide (N<=128)) (λ_ q hq=>SE.GP.go (ewithin_se ⟨_,rfl,hq _ xR⟩)) λa6 w2 x2 a0=>bound ⟨Di,λ_=>ha.at1 (k:=2) x2 rfl,?_⟩;refine gCall.intro (decide (1<=Di)&&decide (Di<=256)) (λ_ q hq=>SE.GP.go (ewithin_se ⟨_,rfl,hq _ xR⟩)) λa7 w3 x3 a4=>bound ⟨P,λ_=>ha.at1 (k:=3) (r:=[]) (x2.trans x3) rfl,?_⟩;refine gCall.intro (decide (1<=P)&&decide (P<=1024)) (λ_ q hq=>SE.GP.go (ewithin_se ⟨_,rfl,hq _ xR⟩)) λa8 w4 x4 a5=>hR _ w4 (x1.trans (x2.trans (x3.trans x4))) ?_;rw[OT a5,OT a4,OT a0];unfold Er Fd;simp only[dx,decide_eq_true_eq,and_assoc]
structure PkC where
 nm:Bs
 v:Ver
 d:Sl
 e:Sl
 o:Sl
def C8(x:PkC):LV:=[.string x.nm,vi x.v.ma,vi x.v.mi,vi x.v.pa,x.d.v,x.e.v,x.o.v]
def Dh:PkC:=⟨⟨#[]⟩,⟨0,0,0⟩,Sl.nil,Sl.nil,Sl.nil⟩
def Zd9(n:Nat):(madeCells (Value.agg (C8 Dh).toArray).cells (n*7))=(((List.replicate n Dh).map C8).flatten).toArray:=by
 have hf:∀x:PkC,(C8 x).length=7:=λ_=>rfl;unfold madeCells;have hc:(Value.agg (C8 Dh).toArray).cells=(C8 Dh).toArray:=rfl;rw[hc];apply Array.ext
 .simp[CE C8 hf,hf]
 .intro i h1 h2;have hi:i<n*7:=by simpa using h1
  have hq:i/7<n:=oM;have hm:i%7<7:=Nat.mod_lt _ dC;simp only[Array.getElem_map,Array.getElem_range,List.getElem_toArray];have e:∀(n i:Nat),i<n*7->(((List.replicate n Dh).map C8).flatten)[i]?=(C8 Dh)[i%7]? :=λn=>by
   induction n with
   |zero=>intro i h;omega
   |succ n ih=>
    intro i h;rw[qc,ib,jc];by_cases hl:i<7
    .rw[fy (by rw[hf];exact hl),Nat.mod_eq_of_lt hl]
    .rw[gp (by rw[hf];omega),hf,ih (i - 7) oM];congr 1;omega
  have e1:=e n i hi;have h7:(C8 Dh).toArray.size=7:=rfl;rw[h7];rw[dt (by simpa using h2),dt (by rw[hf];exact hm),eu]at e1;rw[e1,getElem!_pos _ _ (by rw[h7];exact hm)];rfl
def Zch:(prog.info? 68).map (λi=>(i.zero,i.size,i.bytes))=some (some (.agg (C8 Dh).toArray),7,112):=kR
def Zeb{R:Sl->Wp}(hn:n<=1000000000)(hR:∀g w',Ext w w'->g=w.heap.size->RowB C8 w' g (List.replicate n Dh) []->R ⟨some ⟨g,0,none⟩,n,n⟩ w'):
  semS prog (Instr.makeSlice 22 (Value.int .i64 (n:Int)) (Value.int .i64 (n:Int))) w λv w'=>∃t:Sl,v=t.v/\R t w':=by
 obtain⟨i,h2,hi⟩:=jy.1 Zch;simp only[Prod.mk.injEq]at hi;obtain⟨h3,h5,h6⟩:=hi;refine⟨_,_,run_make w 22 68 i (.agg (C8 Dh).toArray) underlying22 h2 h3 .i64 .i64 n n oM (mo _) (by rw[h6];omega) oM,⟨some ⟨w.heap.size,0,none⟩,n,n⟩,by simp[Sl.v],?_⟩;refine newS.intro (cs:=((List.replicate n Dh).map C8).flatten++[]) (t:=68) (k:=λa w'=>R ⟨some a,n,n⟩ w') (λa w' hx hb ha hs=>?_) _ _ rfl ?_
 .have a4:=hb;obtain⟨t,h0,a0,_⟩:=a4;obtain⟨b,o,s⟩:=a;simp only at h0 a0 ha;subst h0 a0;exact hR b w' hx ha hb
 .rw[gd,<-Zd9,ec,h5]
def Zg1{α:Type}{c:Nat->α}{y:α}:((List.range n).map c).set i y=(List.range n).map λj=>if j=i then y else c j:=by
 apply po sI;intro j h1 h2;rw[List.getElem_set,na,na,List.getElem_range];by_cases h:i=j
 .rw[if_pos h,if_pos h.symm]
 .rw[if_neg h,if_neg λe=>h e.symm]
def TN{SC S0:Nat->Prop}{cp:Addr}{r:Nat}{u:Sl}{R:Sl->Wp}(b7:CatL w SC cp r L)(hg:SlR nodeE w S0 u G)(hG:G.length<=1000000000)
  (hR:∀t w',Ext w w'->SlR packE w' (λb=>w.heap.size<=b/\b<w'.heap.size) t (Df L G)->R t w'):SE.Ic u (some cp) w R:=by
 unfold SE.Ic;have c6:=hg.len;refine newS.intro λa w1 x1 ha _ _=>⟨u,ha.at0 (r:=[]) xR rfl,?_⟩;rw[c6];refine Zeb hG λg w2 x2 d4 a7=>⟨u,ha.at0 (r:=[]) x2 rfl,?_⟩;have d2:=x1.trans x2;have s1:=x1.size;have s2:=x2.size;have lg:=a7.lt;generalize b4:Df L G=P at*;have c4:P.length=G.length:=by rw[<-b4,Vr]
 have b5:∀i (hi:i<G.length),P[i]?=some (if i=0 then Ay else getD L G[i].name G[i].v):=λi hi=>by rw[<-b4];exact Vq hi
 let Q:Wd->Nat->Prop:=λw' b=>w.heap.size<=b/\b<w'.heap.size/\b≠g;refine loop1.up hg.max (λi w'=>∃c:Nat->PkC,Ext w w'/\w2.heap.size<=w'.heap.size/\RowB C8 w' g ((List.range G.length).map c) []/\∀j,j<G.length->packE.rep w' (Q w') (if j<i then P.getD j Ay else Ay) (C8 (c j)))
  ⟨λ_=>Dh,d2,fm _,?_,λj _=>?_⟩ λi w3 d7 hi ⟨c,a4,d8,b0,a9⟩ hn=>⟨λc9=>join.named λJ hJ=>?_,λd5=>?_⟩
 .have:(List.range G.length).map (λ_=>Dh)=List.replicate G.length Dh:=by apply po sI;intro j h1 h2;simp
  rw[this];exact a7
 .rw[if_neg (Nat.not_lt_zero _)];exact Zl1
 .have a0:i<G.length:=oM;obtain⟨ad,cs,es,c5,d6,_,_,c8⟩:=C6 (hg.ext a4) a0;refine⟨ad,⟨c5,oM,c9⟩,_,_,_,_,cs,es,by rw[ec];exact c8 _ xR,newS.set rfl λa6 w4 x4 h6 d3=>⟨λh0=>?_,λh0=>?_⟩⟩
  all_goals have s4:=x4.size
  .have a8: ¬i=0:=oM;refine⟨_,h6.at0 xR rfl,_,_,_,h6.at1 (k:=1) xR rfl,?_⟩;refine SE.Fm.go (J7 (n:=G[i].name) (v:=G[i].v) (b7.ext (a4.trans x4)) λd e o w5 x5 hN hd he ho=>⟨_,_,_,_,d,e,o,_,rfl,⟨g,0,none⟩,⟨rfl,oM,by show(i:Int)<(G.length:Int);omega⟩,?_⟩);have s5:=x5.size;have b2:=x4.trans x5;have d0:=b0.ext b2;rw[ec];refine d0.st (k:=7) (x:=⟨(getD L G[i].name G[i].v).name,(getD L G[i].name G[i].v).v,d,e,o⟩) (λ_=>rfl) (by simpa using a0) λw6 b6 b9=>?_;rw[Zg1]at b9;rw[hJ];have z6:=b6.1;refine hn a0 w6 ⟨_,b6.ext (a4.trans b2) oM,oM,b9,λj hj=>?_⟩;have c3:∀{p:Pack} {cs:LV},packE.rep w5 (Q w5) p cs->packE.rep w6 (Q w6) p cs:=λh=>packE.mono (packE.keep h (b6.keep λh=>h.2.2 rfl)) λb hb=>⟨hb.1,by have:=hb.2.1;omega,hb.2.2⟩;by_cases b8:j=i
   .subst b8;rw[if_pos rfl,if_pos (mz _)];have:P.getD j Ay=getD L G[j].name G[j].v:=by rw[ko,b5 j hj,if_neg a8];rfl
    rw[this];have up:∀{tt:Sl} {l:LD},SlP depP w5 (λb=>w4.heap.size<=b/\b<w5.heap.size) tt l->SlR depE w5 (Q w5) tt l:=λh=>h.dep.mono λb hb=>⟨oM,hb.2,oM⟩;exact c3 ⟨hN,d,e,o,rfl,up hd,up he,up ho⟩
   .rw[if_neg b8];have h1:packE.rep w5 (Q w5) _ (C8 (c j)):=packE.mono (packE.keep (a9 j hj) (b2.keep _)) λb hb=>⟨hb.1,by have:=hb.2.1;omega,hb.2.2⟩;have:=c3 h1;by_cases a5:j<i
    .rw[if_pos a5]at this;rw[if_pos oM];exact this
    .rw[if_neg a5]at this;rw[if_neg oM];exact this
  .have a8:i=0:=oM;rw[hJ];refine hn a0 w4 ⟨c,a4.trans x4,oM,b0.ext x4,λj hj=>?_⟩;have h1:packE.rep w4 (Q w4) _ (C8 (c j)):=packE.mono (packE.keep (a9 j hj) (x4.keep _)) λb hb=>⟨hb.1,by have:=hb.2.1;omega,hb.2.2⟩;by_cases c7:j=0
   .subst c7 a8;rw[if_neg (Nat.lt_irrefl 0)]at h1;rw[if_pos (mz _)];have:P.getD 0 Ay=Ay:=by rw[ko,b5 0 hj,if_pos rfl];rfl
    rw[this];exact h1
   .rw[if_neg oM]at h1;rw[if_neg oM];exact h1
 .have a0:i=G.length:=oM;subst a0;have hz:((List.range G.length).map λj=>(c j,P.getD j Ay)).map Prod.fst=(List.range G.length).map c:=by rw[iy];rfl
  have d1:((List.range G.length).map λj=>(c j,P.getD j Ay)).map Prod.snd=P:=by rw[iy];apply po (by simp[c4]);intro j h1 h2;simp[dt h2]
  have:=RowB.read (E:=packE) (S:=Q w3) (cap:=G.length) (z:=(List.range G.length).map λj=>(c j,P.getD j Ay)) (by rw[hz];exact b0) (λ_=>rfl) (λp hp=>by obtain⟨j,hj,rfl⟩:=gq.1 hp;have hj:=mf.1 hj;have:=a9 j hj;rw[if_pos hj]at this;exact this) sI (by rw[Al];omega) (by simp;show _*112<=Ab;unfold Ab;omega);rw[d1]at this;simp only[dz,List.length_range]at this;refine hR _ w3 a4 (this.mono λb hb=>?_);obtain hb|rfl:=hb
  .exact⟨hb.1,hb.2.1⟩
  .exact⟨oM,oM⟩
end Go.Hal
namespace Go.Hal
open Go.MapKept
def intCmd:KeyT prog 82 It .nilFunc where
 und:=⟨3,80,underlying82,(λw=>kR),λk ⟨x,h⟩ e w=>by subst h;exact run_checkKey (d:=.int .i64) (k:=.int .i64 x) underlying3 rfl e 9999,λk ⟨x,h⟩ l hl w=>by
  subst h;rcases findNow_spec (d:=.int .i64) (k:=.int .i64 x) rfl l 0 (λy hy=>by obtain⟨t,ht⟩:=hl y hy;rw[ht];rfl)with⟨h1,h2⟩|⟨j,e,h1,h2,h3⟩
  .exact .inl ⟨h2,run_findKey underlying3 h1⟩
  .exact .inr ⟨j,e,h2,h3,run_findKey underlying3 (by rw[ke]at h1;exact h1)⟩⟩
 stay:=λk ⟨x,h⟩=>by subst h;exact sameBits_self (d:=.int .i64) (k:=.int .i64 x) rfl _
def fV(n:FuncId):Value:=.func (.func n) #[] #[]
def DO:List (Value×Value):=[(.int .i64 2,fV 52),(.int .i64 3,fV 53),(.int .i64 4,fV 54),(.int .i64 5,fV 55),(.int .i64 6,fV 56),(.int .i64 7,fV 57),(.int .i64 8,fV 58)]
def ecmds_se{R:Option Nat->Wp}(hR:∀r w',Ext w w'->MapR It w' r DO->R (some r) w'):SE.JM w R:=by
 unfold SE.JM;refine NI (K:=It) λr w1 x1 a0 h1=>⟨some r,rfl,?_⟩;have ne:∀{m:List (Value×Value)} {k:Int},(∀p∈m,∃i:Int,p.1= .int .i64 i/\i≠k)->∀p∈m,p.1≠Value.int .i64 k:=λh p hp e=>by obtain⟨i,h1,h2⟩:=h p hp;rw[h1]at e;cases e;exact h2 rfl
 have k0:∀i:Int,It (.int .i64 i):=λi=>⟨i,rfl⟩;refine EY intCmd h1 (k0 2) (ne sI) λw2 b2 _ h2=>EY intCmd h2 (k0 3) (ne sI) λw3 b3 _ h3=>EY intCmd h3 (k0 4) (ne sI) λw4 b4 _ h4=>EY intCmd h4 (k0 5) (ne sI) λw5 b5 _ h5=>EY intCmd h5 (k0 6) (ne sI) λw6 b6 _ h6=>EY intCmd h6 (k0 7) (ne sI) λw7 b7 _ h7=>EY intCmd h7 (k0 8) (ne sI) λw8 b8 _ h8=>?_;have b:But r w1 w8:=b2.trans (b3.trans (b4.trans (b5.trans (b6.trans (b7.trans b8)))));exact hR r w8 (b.ext x1 oM) h8
section
variable {s:Stt} {x:StepC} {d e o v gS tS:Sl} {S:Nat->Prop} {w:Wd}
def Zw{r:Nat}{w0:Wd}{K:Value->Wp}{J:Value->Bool->Prop}(hM:MapR It w0 r DO)(a9:Ext w0 w)(hg:Gl w)(hn:Ac x.name)(hm:ManS w S d e o v s.m)(hS:Old S w)(hl:Jq s.m)(a6:MJ s.m)(hG:SlR nodeE w S gS s.g)(a5:s.g≠[])
  (a7:∀f,(x.op<2\/8<x.op)->Cz prog (Instr.lookup 82 (.map (some r)) (.int .i64 x.op) true) w0 (.tuple #[f,.bool false])->J f false)
  (a0:∀f,Cz prog (Instr.lookup 82 (.map (some r)) (.int .i64 x.op) true) w0 (.tuple #[f,.bool true])->(Fc s x S w (λd e o v p k pr c w'=>K (.tuple #[.agg #[d.v,e.v,o.v,v.v,p.v,.bool k,.bool pr],vi c]) w')->callV prog f [.agg #[d.v,e.v,o.v,v.v,gS.v,tS.v,.bool s.pruned],.agg #[vi x.op,.string x.name,.string x.range,vi x.kind,.string x.pack,vi x.n]] w K)->J f true):
  ∃f ok,J f ok:=by
 have hk:It (.int .i64 x.op):=⟨_,rfl⟩;have a4:∀{g:FuncId},(.int .i64 x.op,fV g)∈DO->Cz prog (Instr.lookup 82 (.map (some r)) (.int .i64 x.op) true) w0 (.tuple #[fV g,.bool true]):=λh=>Qk intCmd hM hk h;by_cases a8:x.op<2\/8<x.op
 .refine⟨_,_,a7 .nilFunc a8 (lookup_no intCmd hM hk λp hp he=>?_)⟩;have:∃i:Int,p.1= .int .i64 i/\2<=i/\i<=8:=by unfold DO at hp;simp only[ga,List.not_mem_nil,or_false]at hp;rcases hp with rfl|rfl|rfl|rfl|rfl|rfl|rfl<;>exact⟨_,rfl,by decide,by decide⟩
  obtain⟨i,h1,h2,h3⟩:=this;rw[h1]at he;injection he with _ he;omega
 .have h7:x.op=2\/x.op=3\/x.op=4\/x.op=5\/x.op=6\/x.op=7\/x.op=8:=oM;obtain h|h|h|h|h|h|h:=h7
  .exact⟨_,_,a0 (fV 52) (a4 (by rw[h];unfold DO;simp)) λhK=>⟨_,_,rfl,enters_of func52 kR rfl,SE.JO.go (Z9 hm hS h hK)⟩⟩
  .exact⟨_,_,a0 (fV 53) (a4 (by rw[h];unfold DO;simp)) λhK=>⟨_,_,rfl,enters_of func53 kR rfl,SE.JL.go (Zu hg hn hm hS hl a6 hG a5 h hK)⟩⟩
  .exact⟨_,_,a0 (fV 54) (a4 (by rw[h];unfold DO;simp)) λhK=>⟨_,_,rfl,enters_of func54 kR rfl,SE.JU.go (Zal hn hm hS hl hG a5 h hK)⟩⟩
  .exact⟨_,_,a0 (fV 55) (a4 (by rw[h];unfold DO;simp)) λhK=>⟨_,_,rfl,enters_of func55 kR rfl,SE.JV.go (Zam hn hm hS hG a5 h hK)⟩⟩
  .exact⟨_,_,a0 (fV 56) (a4 (by rw[h];unfold DO;simp)) λhK=>⟨_,_,rfl,enters_of func56 kR rfl,SE.JN.go (Zx hm hS hG a5 h hK)⟩⟩
  .exact⟨_,_,a0 (fV 57) (a4 (by rw[h];unfold DO;simp)) λhK=>⟨_,_,rfl,enters_of func57 kR rfl,SE.JT.go (Zaf hm hS hG a5 h hK)⟩⟩
  .exact⟨_,_,a0 (fV 58) (a4 (by rw[h];unfold DO;simp)) λhK=>⟨_,_,rfl,enters_of func58 kR rfl,SE.JS.go (Zae hg hn hm hS hl a6 hG a5 h hK)⟩⟩
end
abbrev DR:Type:=Sl->Sl->Sl->Sl->Sl->Sl->Bool->Int->Int->Int->Int->Wp
def Xp(w:Wd)(a5 a7:Addr)(R:DR):Prop:=∃(d e o v g t:Sl) (pr:Bool),ldc w a5 [d.v,e.v,o.v,v.v,g.v,t.v,.bool pr]/\∃(c n q r:Int),ldc w a7 [vi c,vi n,vi q,vi r]/\R d e o v g t pr c n q r w
def Xo(w:Wd)(a a5 a7:Addr)(c:Int)(R:DR):Prop:=callS prog 17 [vi c,.pointer (some a)] w λx w'=>∃(d e o v g t:Sl) (pr:Bool) (c1 n q r:Int),x= .tuple #[.agg #[d.v,e.v,o.v,v.v,g.v,t.v,.bool pr],.agg #[vi c1,vi n,vi q,vi r]]/\
 stw w' a5 [d.v,e.v,o.v,v.v,g.v,t.v,.bool pr] λw1=>stw w1 a7 [vi c1,vi n,vi q,vi r] λw2=>Xp w2 a5 a7 R
section
variable {s:Stt} {x:StepC} {d e o v gS tS:Sl} {S:Nat->Prop} {w:Wd}
def TQ{c:Int}{R:DR}(hS:Old S w)(hs:SttS w S d e o v gS tS s)(ha:BoxAt w a [d.v,e.v,o.v,v.v,gS.v,tS.v,.bool s.pruned])
  (hR:∀d' e' o' v' g' t' w',Ext w w'->SttS w' (λb=>w.heap.size<=b/\b<w'.heap.size) d' e' o' v' g' t' s->R d' e' o' v' g' t' s.pruned c 0 0 0 w'):SE.HZ c a w R:=by
 unfold SE.HZ;refine newS.intro λa1 w1 x1 h1 a4 _=>newS.intro λa2 w2 x2 h2 a5 _=>⟨d,e,o,v,gS,tS,s.pruned,ha.at0 (r:=[]) (x1.trans x2) rfl,?_⟩;have a0:=x1.trans x2;refine SE.KV.go (Zfn (s:=s) (hS.ext a0.size) (hs.ext a0) λd' e' o' v' g' t' w3 x3 h3=>⟨d',e',o',v',g',t',s.pruned,rfl,stw0.intro (h1.ext (x2.trans x3)) sI λw4 b4 _ h4=>stw0.intro (b4.box (h2.ext x3) (by have:=h1.lt;omega)) sI λw5 b5 _ h5=>?_⟩);have s1:=x1.size;have s2:=x2.size;have s3:=x3.size;have z4:=b4.1;have z5:=b5.1;have l1:=h1.lt;have l2:=h2.lt;refine⟨d',e',o',v',g',t',s.pruned,(b5.box h4 oM).at0 (r:=[]) xR rfl,_,_,_,_,h5.at0 (r:=[]) xR rfl,hR d' e' o' v' g' t' w5 (b5.ext (b4.ext (a0.trans x3) oM) oM) ?_⟩;exact((h3.but b4 λh=>by omega).but b5 λh=>by omega).mono λb hb=>by omega
def TH{SC:Nat->Prop}{cp:Addr}{r:Nat}{P:Int}{R:DR}
  (hg:Gl w) (hn:Ac x.name) (hS:Old S w) (hs:SttS w S d e o v gS tS s) (e1:CatL w SC cp r L) (hb:∀d∈s.T,d.path.length<=4000000000000)
  (hR:∀(A:AnsC) (t:Stt) d' e' o' v' g' u' w',Ext w w'->(∃rr,RgOf x.range rr/\DoR L s x rr D N Di P A t)->SttS w' (λb=>b<w'.heap.size) d' e' o' v' g' u' t->R d' e' o' v' g' u' t.pruned A.code A.dec A.nodes A.dirs w'):
  SE.Ft d e o v gS tS s.pruned (some cp) x.op x.name x.range x.kind x.pack x.n D N Di P w R:=by
 classical
 unfold SE.Ft;refine newS.intro λa w1 x1 ha u1 _=>newS.intro λa1 w2 x2 h1 t7 _=>newS.intro λa3 w4 x4 h3 t8 _=>newS.intro λa5 w6 x6 h5 t9 _=>newS.intro λa7 w8 x8 h7 u0 _=>?_;have k6:=x4.trans (x6.trans x8);have f5:=x2.trans k6;have b0:=x1.trans f5;have s1:=x1.size;have s2:=x2.size;have s4:=x4.size;have s6:=x6.size;have s8:=x8.size;have ab:=ha.lt;have t0:=h1.lt;have t3:=h3.lt;have t4:=h5.lt;have t5:=h7.lt;obtain⟨r0,j6⟩:=RgOf.ex x.range;have nS:∀{b:Nat},w.heap.size<=b-> ¬S b:=λh hb=>by have:=hS _ hb;omega
 have refuse:∀{w':Wd} {c:Int},Ext w8 w'->(∃rr,RgOf x.range rr/\DoR L s x rr D N Di P ⟨c,0,0,0⟩ s)->Xo w' a a5 a7 c R:=λ{w' c} hx hd=>by have q:=hx.size;refine SE.HZ.go (TQ (hS.ext (b0.trans hx).size) (hs.ext (b0.trans hx)) (ha.ext (f5.trans hx)) λd' e' o' v' g' t' w9 x9 h9=>⟨d',e',o',v',g',t',s.pruned,c,0,0,0,rfl,?_⟩);have q9:=x9.size;refine stw0.intro (h5.ext (x8.trans (hx.trans x9))) sI λn4 g1 _ o7=>stw0.intro (g1.box (h7.ext (hx.trans x9)) oM) sI λn5 g2 _ o8=>?_;have v8:=g1.1;have v9:=g2.1;refine⟨d',e',o',v',g',t',s.pruned,(g2.box o7 oM).at0 (r:=[]) xR rfl,c,0,0,0,o8.at0 (r:=[]) xR rfl,?_⟩;exact hR ⟨c,0,0,0⟩ s d' e' o' v' g' t' n5 (g2.ext (g1.ext ((b0.trans hx).trans x9) oM) oM) hd (((h9.but g1 λh=>by omega).but g2 λh=>by omega).mono λb hb=>by omega)
 refine bound ⟨D,N,Di,P,λ_=>(h3.ext (x6.trans x8)).at0 (r:=[]) xR rfl,gCall.intro (decide (Er D N Di P)) (λ_ k hk=>SE.JQ.go (emay_se λb w' hx p5=>⟨b,rfl,?_⟩)) λv7 w9 x9 ht=>⟨λhc=>?_,λhc=>?_⟩⟩
 .have:b=decide (Er D N Di P):=by rw[gk,p5,decide_eq_true_iff]
  rw[this];exact hk w' hx
 .have ht:=ht rfl;subst ht;exact refuse x9 ⟨r0,j6,.arg λhh=>by simp[hh.1]at hc⟩
 have ht:=ht rfl;subst ht;have c3:Er D N Di P:=by simpa using hc
 clear hc;have h2:=b0.trans x9;have d6:=hs.ext h2;refine⟨d,e,o,v,gS,tS,s.pruned,(ha.ext (f5.trans x9)).at0 (r:=[]) xR rfl,SE.K0.go (Zbb (m:=s.m) (T:=s.T) (g:=s.g) (pr:=s.pruned) (hg.ext h2).tab (hS.ext h2.size) d6.m.d d6.m.e d6.m.o d6.m.v (hS.ext h2.size) d6.t d6.g hb (λt l n4 k5 b8 _ _ _=>⟨_,_,rfl,λh=>absurd rfl h,λ_=>bnd.drew λn5 r5=>?_⟩) λn4 k5 p9=>⟨_,_,rfl,λ_=>refuse (x9.trans k5) ⟨r0,j6,.arg λh=>p9 h.2⟩,λh=>absurd dC h⟩)⟩;have b8:SttOk s:=b8;obtain⟨j5,m3⟩:=Zee b8.mani;have p8:s.g≠[]:=λhh=>by have:=b8.lock.len.1;rw[hh]at this;simp at this
 obtain⟨q4,q2⟩:=PinsAre.ex s.g;have f7:=x9.trans (k5.trans r5);have s7:=b0.trans f7;refine⟨x.op,(h1.ext (k6.trans f7)).at0 xR rfl,callX.intro (SE.JM.go (ecmds_se λrm n7 o5 hM=>⟨o5,some rm,rfl,?_⟩))⟩;have b7:=f7.trans o5;have f2:=b0.trans b7;have i4:=hs.ext f2;have s0:=b7.size;refine Zw (s:=s) (x:=x) (w:=n7) (S:=S) (J:=λf ok=>_) hM xR (hg.ext f2) hn i4.m (hS.ext f2.size) j5 m3 i4.g p8 (λf q1 j7=>⟨j7,λ_=>refuse b7 ⟨r0,j6,.ask (j:=B8) c3 b8 q2 (.op q1) dC⟩,nO⟩) λf j7 j4=>⟨j7,λh=>(by cases h),λ_=>⟨d,e,o,v,gS,tS,s.pruned,(ha.ext (f5.trans b7)).at0 (r:=[]) xR rfl,_,_,_,_,_,_,(h1.ext (k6.trans b7)).at0 (r:=[]) xR rfl,j4 λc j d' e' o' v' pt k pr r1 o6 b6 m2=>⟨d',e',o',v',pt,k,pr,c,rfl,newS.set rfl λt1 j8 h4 g3 r7=>⟨λhc=>?_,λhc=>?_⟩⟩⟩⟩
 all_goals
  obtain⟨pins,rr,g7,g8,b6⟩:=b6;have c7:=(b7.trans o6).trans h4
 .exact refuse c7 ⟨rr,g8,.ask c3 b8 g7 b6 hc⟩
 have g6:c=0:=iw hc;subst g6;obtain⟨k1,k2,k3,k4⟩:=m2 rfl;subst k3 k4;have u4:=o6.size;have u6:=h4.size;have s3:=c7.size;have i6:=b0.trans c7;let S2:=λb=>S b\/(n7.heap.size<=b/\b<r1.heap.size);have hO:Old S2 j8:=λb hb=>hb.elim (λh=>by have:=hS b h;omega) λh=>by omega
 have e7:=k1.ext h4;refine⟨d',e',o',v',g3.at0 xR rfl,j.pruned,g3.at1 (k:=6) (r:=[]) xR rfl,pt,g3.at1 (k:=4) xR rfl,D,N,Di,P,(h3.ext (x6.trans (x8.trans c7))).at0 (r:=[]) xR rfl,SE.IH.go (Zh4 (hg.ext i6).tab hO (e1.ext i6) e7.d e7.e e7.o e7.v (k2.ext h4) λa0 n8 k7 m0=>⟨a0,_,_,rfl,newS.set rfl λg0 f0 h6 g4 r8=>⟨λhc=>?_,λhc=>?_⟩⟩)⟩
 all_goals
  have c8:=(c7.trans k7).trans h6
 .exact refuse c8 ⟨rr,g8,.find c3 b8 g7 b6 hc⟩
 have g6:(AF L j.m (!j.pruned) j.pins D N).code=0:=iw hc;have v0:=h6.size;have u9:=k7.size;have s5:=c8.size;have o4:=b0.trans c8;have d3:Ext j8 f0:=k7.trans h6;have e0:=g3.ext d3;generalize a8:AF L j.m (!j.pruned) j.pins D N=rs at*;have m1:rs.ns.length<=1000000000:=by rw[<-a8];exact Zhf _ _ _ _ _ _
 have e4:SlR nodeE f0 (λb=>j8.heap.size<=b/\b<n8.heap.size) a0 rs.ns:=m0.ext h6;generalize e5:(if j.keep then some s.T else none)=d4;have p6:∀T,d4=some T->∀d∈T,d.path.length<=4000000000000:=λT h=>by
  rw[<-e5]at h;split at h
  .cases h;exact hb
  .cases h
 refine join.named λJ hJ=>?_;have key:∀(old:Option Addr),OldR f0 (λb=>b<n8.heap.size) d4 old->J old f0:=by
  subst hJ;intro old q0;refine join.named λJ2 l6=>bnd.drew λf1 c5=>?_;have f8:=c8.trans c5;have f4:=b0.trans f8;have v3:=c5.size;have d9:ldc f1 g0 [a0.v]:=(g4.ext c5).at0 (r:=[]) xR rfl;have e6:∀(c:Int)(T:List Dir)(t:Sl)(d5:Addr)(w':Wd),Ext f1 w'->f1.heap.size<=d5.block->PlaceR rs.ns (Df L rs.ns) d4 Di P c T->SlR dirE w' (λb=>b<w'.heap.size) t T->BoxAt w' d5 [t.v]->J2 c d5 w':=by
   subst l6;intro c T t d5 r2 k8 u2 c4 j3 l9;have i7:=f8.trans k8;refine⟨λhc=>refuse i7 ⟨rr,g8,.place c3 b8 g7 b6 (by rw[a8];exact g6) (by rw[a8,e5];exact c4) hc⟩,λhc=>?_⟩;have p7:c=0:=iw hc;subst p7;refine join.named λJ3 l7=>bnd.drew λh0 d8=>?_;have i9:=i7.trans d8;have s9:=b0.trans i9;have b2:=c5.trans (k8.trans d8);have v4:=k8.size;have v5:=d8.size;have i3:Old S2 h0:=hO.ext (d3.trans b2).size;have m6:=e7.ext (d3.trans b2);have i5:∀(out:Addr)(d2 e2 o2 v2:Sl)(w':Wd),Ext h0 w'->h0.heap.size<=out.block->ManS w' (λb=>h0.heap.size<=b/\b<w'.heap.size/\b≠out.block) d2 e2 o2 v2 j.m->BoxAt w' out [d2.v,e2.v,o2.v,v2.v,a0.v,t.v,.bool j.pruned]->J3 out w':=by
    subst l7;intro out d2 e2 o2 v2 n9 b4 r9 e3 l8;refine join.named λJ4 p0=>bnd.drew λb5 h8=>?_;have b9:=b4.trans h8;have f9:=i9.trans b9;have f6:=b2.trans b9;have m7:=b4.size;have v6:=h8.size;have q5:=h5.ext (x8.trans f9);have q7:=h7.ext f9;have u5:Unf b5 a5.block:=H0 q5 (by simp[Sl.v]) (.inr (by simp[Sl.v]));have u7:Unf b5 a7.block:=H0 q7 sI (.inl sI);have q8:=Mt u7 (Mt u5 (j3.ext (d8.trans b9)));have q3:=e4.ext f6;have nl:=e4.len;have tl:=j3.len;have hA:(⟨0,rs.dec,(a0.len:Int),Aa ((t.len:Int) - 1)⟩:AnsC)=⟨0,rs.dec,(rs.ns.length:Int),(T.length:Int) - 1⟩:=by have hm:=j3.max;rw[Al]at hm;rw[nl,tl,Ag oM oM]
    have fin:∀{wb wc:Wd},But a5.block b5 wb->BoxAt wb a5 [d2.v,e2.v,o2.v,v2.v,a0.v,t.v,.bool j.pruned]->But a7.block wb wc->BoxAt wc a7 [vi 0,vi rs.dec,vi (a0.len:Int),.int .i64 (Aa ((t.len:Int) - 1))]->J4 wc:=by
     subst p0;intro wb wc bb kb bc kc;have zb:=bb.1;have zc:=bc.1;refine⟨_,_,_,_,_,_,_,(bc.box kb oM).at0 (r:=[]) xR rfl,_,_,_,_,kc.at0 (r:=[]) xR rfl,?_⟩;have hd:DoR L s x rr D N Di P ⟨0,rs.dec,(a0.len:Int),Aa ((t.len:Int) - 1)⟩ ⟨j.m,rs.ns,T,j.pruned⟩:=by rw[hA];have:=DoR.ok (L:=L) (s:=s) c3 b8 g7 b6 (by rw[a8];exact g6) (by rw[a8,e5];exact c4);rw[a8]at this;exact this
     refine hR _ ⟨j.m,rs.ns,T,j.pruned⟩ _ _ _ _ _ _ wc (bc.ext (bb.ext (b0.trans f9) oM) oM) ⟨rr,g8,hd⟩ ⟨?_,?_,?_⟩
     .exact(((e3.ext h8).but bb λh=>by omega).but bc λh=>by omega).mono λb hb=>by omega
     .exact((q3.but bb λh=>by omega).but bc λh=>by omega).mono λb hb=>by omega
     .exact((q8.but bb λh=>h.1.2 rfl).but bc λh=>h.2 rfl).mono λb hb=>by have h1:b<r2.heap.size:=hb.1.1;omega
    have m4:=g4.ext f6;have m5:=l9.ext (d8.trans b9);have t6:g0.block<f0.heap.size:=g4.lt;have n1:∀{wb:Wd},But a5.block b5 wb->ldc wb g0 [a0.v]:=λb=>(b.box m4 oM).at0 (r:=[]) xR rfl;have n2:∀{wb:Wd},But a5.block b5 wb->ldc wb d5 [t.v]:=λb=>(b.box m5 oM).at0 (r:=[]) xR rfl;have e8:∀{K:Wp},(∀wb,But a5.block b5 wb->BoxAt wb a5 [d2.v,e2.v,o2.v,v2.v,a0.v,t.v,.bool j.pruned]->K wb)->stw b5 a5 [d2.v,e2.v,o2.v,v2.v,a0.v,t.v,.bool j.pruned] K:=λhK=>stw0.intro q5 sI λwb b _ hb=>hK wb b hb;have e9:∀{wb:Wd},But a5.block b5 wb->BoxAt wb a5 [d2.v,e2.v,o2.v,v2.v,a0.v,t.v,.bool j.pruned]->stw wb a7 [vi 0,vi rs.dec,vi (a0.len:Int),.int .i64 (Aa ((t.len:Int) - 1))] λwc=>J4 wc:=λb hb=>stw0.intro (b.box q7 oM) sI λwc bc _ hc=>fin b hb bc hc;have d9:ldc b5 g0 [a0.v]:=m4.at0 (r:=[]) xR rfl;have k9:ldc b5 d5 [t.v]:=m5.at0 (r:=[]) xR rfl;refine⟨d2,e2,o2,v2,a0,t,j.pruned,(l8.ext h8).at0 (r:=[]) xR rfl,?_⟩;refine⟨⟨a0,d9,⟨t,k9,e8 λwb b hb=>e9 b hb⟩,e8 λwb b hb=>⟨t,n2 b,e9 b hb⟩⟩,⟨t,k9,⟨a0,d9,e8 λwb b hb=>e9 b hb⟩,e8 λwb b hb=>⟨a0,n1 b,e9 b hb⟩⟩,e8 λwb b hb=>?_⟩;exact⟨a0,n1 b,t,n2 b,e9 b hb⟩
   clear l7;have l0:=e0.ext b2;refine⟨d',e',o',v',l0.at0 xR rfl,a0,(g4.ext b2).at0 (r:=[]) xR rfl,t,(l9.ext d8).at0 (r:=[]) xR rfl,j.pruned,l0.at1 (k:=6) (r:=[]) xR rfl,?_,?_⟩
   .refine callX.intro (SE.Hf.go (ownMan_se i3 m6 λd2 e2 o2 v2 n9 b4 e3=>⟨b4,d2,e2,o2,v2,rfl,newS.set rfl λj0 o0 c6 g5 l5=>?_⟩));have q6:=c6.size;have m7:=b4.size;exact i5 j0 d2 e2 o2 v2 o0 (b4.trans c6) oM ((e3.ext c6).mono λb hb=>by omega) g5
   .refine newS.intro λj0 o0 c6 g5 l5 _=>callX.intro (SE.Hf.go (ownMan_se (i3.ext c6.size) (m6.ext c6) λd2 e2 o2 v2 n9 b4 e3=>⟨b4,d2,e2,o2,v2,rfl,stw0.intro (g5.ext b4) sI λr3 j1 _ o9=>?_⟩));have q6:=c6.size;have m7:=b4.size;have w0:=j1.1;have u3:=g5.lt;exact i5 j0 d2 e2 o2 v2 r3 (j1.ext (c6.trans b4) oM) oM ((e3.but j1 λh=>by omega).mono λb hb=>by omega) o9
  clear l6;have pl:∀{w':Wd} {tp:Sl} {K:Sl->Int->Wp},Ext f1 w'->SlR packE w' (λb=>f1.heap.size<=b/\b<w'.heap.size) tp (Df L rs.ns)->(∀c T t g9,Ext w' g9->PlaceR rs.ns (Df L rs.ns) d4 Di P c T->SlR dirE g9 (λb=>b<g9.heap.size) t T->K t c g9)->SE.Gd a0 tp D N Di P old w' K:=λ{w' tp K} hx hp hK=>by have q:=hx.size;refine Zgn (S0:=λb=>b<w'.heap.size) (hg.ext (f4.trans hx)).tab (λb hb=>hb) ((e4.ext (c5.trans hx)).mono λb hb=>by omega) (hp.mono λb hb=>hb.2) (OldR.mono (OldR.ext q0 (c5.trans hx)) λb hb=>by omega) (λh=>?_) p6 hK;rw[Vr]at h;rw[Vq h,if_pos rfl]
  refine⟨a0,d9,a0,d9,D,N,Di,P,(h3.ext (x6.trans (x8.trans f8))).at0 (r:=[]) xR rfl,?_,?_⟩
  .refine callX.intro (SE.Ic.go (TN (e1.ext f4) (e4.ext c5) m1 λtp r4 a6 hp=>⟨a6,tp,rfl,?_,?_⟩))
   .refine SE.Gd.go (pl a6 hp λc T t d7 a9 c4 hT=>⟨t,c,rfl,newS.set rfl λc9 j9 a4 d1 i2=>?_⟩);have m8:=a6.size;have m9:=a9.size;have n0:=a4.size;exact e6 c T t c9 j9 (a6.trans (a9.trans a4)) oM c4 ((hT.ext a4).mono λb hb=>by omega) d1
   .refine newS.intro λc9 j9 a4 d1 i2 _=>SE.Gd.go (pl (a6.trans a4) ((hp.ext a4).mono λb hb=>by have:=a4.size;omega) λc T t d7 a9 c4 hT=>⟨t,c,rfl,?_⟩);have m8:=a6.size;have m9:=a9.size;have n0:=a4.size;have u:Unf d7 c9.block:=H0 (d1.ext a9) (by simp[Sl.v]) (.inl sI);refine stw0.intro (d1.ext a9) sI λk0 d0 _ j2=>?_;have r6:=d0.1;exact e6 c T t c9 k0 (d0.ext (a6.trans (a4.trans a9)) oM) oM c4 (((Mt u hT).but d0 λh=>h.2 rfl).mono λb hb=>by have h1:b<d7.heap.size:=hb.1;omega) j2
  .refine newS.intro λc9 j9 a4 d1 i2 _=>callX.intro (SE.Ic.go (TN (e1.ext (f4.trans a4)) (e4.ext (c5.trans a4)) m1 λtp r4 a6 hp=>⟨a6,tp,rfl,?_⟩));refine SE.Gd.go (pl (a4.trans a6) (hp.mono λb hb=>by have:=a4.size;omega) λc T t d7 a9 c4 hT=>⟨t,c,rfl,?_⟩);have m8:=a6.size;have m9:=a9.size;have n0:=a4.size;have u:Unf d7 c9.block:=H0 (d1.ext (a6.trans a9)) (by simp[Sl.v]) (.inl sI);refine stw0.intro (d1.ext (a6.trans a9)) sI λk0 d0 _ j2=>?_;have r6:=d0.1;exact e6 c T t c9 k0 (d0.ext (a4.trans (a6.trans a9)) oM) oM c4 (((Mt u hT).but d0 λh=>h.2 rfl).mono λb hb=>by have h1:b<d7.heap.size:=hb.1;omega) j2
 clear hJ;have p4:=(ha.ext (f5.trans c8));refine⟨j.keep,e0.at1 (k:=5) xR rfl,λhk=>key _ ?_,λhk=>key none ?_⟩
 .rw[<-e5,if_pos hk];exact⟨by show(a.add 5).block<_;rw[CO];omega,tS,p4.at1 (k:=5) xR rfl,((hs.ext o4).t).mono λb hb=>by have:=hS b hb;omega⟩
 .rw[<-e5,hk];trivial
end
def Sz:Ju [42]= [[42]]:=by decide
def RN:Gy [42]= [[42]]:=by decide
def Zg2:RangeIs [42] [(0,999999999)]:=by
 refine⟨⟨by decide,λa ha=>?_⟩,?_,λn=>?_⟩
 .rw[Sz,ep]at ha;subst ha;refine⟨by rw[RN];simp,λt ht=>?_⟩;rw[RN,ep]at ht;subst ht;exact⟨_,.all⟩
 .simp[Ef]
 .rw[Sz];constructor
  .intro h;have h:0<=n/\n<=999999999:=by simpa[Bc]using h
   refine⟨[42],ep.2 rfl,h.1,h.2,λt ht a ha=>?_⟩;rw[RN,ep]at ht;subst ht;rw[<-WordR.one .all ha];exact h
  .rintro⟨a,ha,h1,h2,_⟩;simp[Bc];omega
def rgOf_star:RgOf (bm #[42]) (some (BU [(0,999999999)])):=.ok (l:=[(0,999999999)]) Zg2 sI dC
def JE:Dir:=⟨[],Ay,0⟩
def s21:Stt:=⟨⟨[],[],[],[]⟩,[rootNode],[JE],false⟩
def add21:StepC:=⟨3,n11,⟨#[42]⟩,0,⟨#[]⟩,0⟩
def e21:Edge:=⟨n11,1⟩
def GR:LN:=[⟨⟨#[]⟩,⟨0,0,0⟩,[],[e21]⟩,⟨n11,Ox,[],[]⟩]
set_option maxRecDepth 100000 in
def Vb:known11.ns=GR:=by decide+kernel
def Ve{α:Type}{x y:α}(h: [x][i]?=some y)(h0:i≠0):False:=by have:=(fh.1 h).1;simp at this;omega
def tree21:TreeOk [JE]:=⟨by decide,rfl,λi d h h0=>(Ve h h0).elim⟩
def Zfb:SttOk s21:=by
 refine⟨by decide+kernel,⟨by decide,⟨rootNode,rfl,rfl⟩,λi x hx h0=>(Ve hx h0).elim,λx hx=>?_⟩,⟨tree21,⟨by decide,λx hx e he=>?_⟩,by decide+kernel,kj _ _⟩⟩
 .obtain rfl:=ep.1 hx;exact⟨List.Pairwise.nil,(λp hp=>nomatch hp),by decide,List.Pairwise.nil,(λe he=>nomatch he),by decide⟩
 .obtain rfl:=ep.1 hx;exact nomatch he
def Zf5:PinsAre s21.g []:=⟨List.Pairwise.nil,λy=>by simp[s21]⟩
def Zf6:PlaceOk GR [Ay,k11]:=by
 refine⟨by decide,rfl,⟨_,rfl,rfl⟩,rfl,λi x hx=>?_⟩
 match i,hx with
 |0,hx=>cases hx;refine⟨λh=>absurd rfl h,List.Pairwise.nil,kj _ _,λe he=>?_,(λq hq=>nomatch hq)⟩;obtain rfl:=ep.1 he;exact⟨1,_,rfl,by decide,rfl,rfl⟩
 |1,hx=>cases hx;exact⟨λ_=>⟨k11,rfl,by decide+kernel,rfl,rfl⟩,List.Pairwise.nil,List.Pairwise.nil,(λe he=>nomatch he),(λq hq=>nomatch hq)⟩
 |i+2,hx=>exact absurd (fh.1 hx).1 (by simp[GR])
def i21:PlI:=EG GR [Ay,k11] (some [JE]) 9 99
def f21:PlS:=⟨[⟨[],0⟩,⟨[n11],1⟩],[⟨0,n11,1⟩]⟩
def Zy:EdgeR i21 pl0 0 e21 (AB i21.g 0 e21) 0 f21:=by
 have hk:AB i21.g 0 e21=2:=by decide+kernel
 rw[hk];have a0:Ax pl0.dirs [n11]=none:=by decide+kernel
 exact .put 0 (λto h=>by
  have h1:=h.1;have h2:AM pl0.dirs (Ae pl0.dirs 0) e21.name (Ae pl0.dirs 0).length=none:=by decide+kernel
  rw[h2]at h1;cases h1) dC (λ_=>⟨⟨gn _,λk _ hk=>by
   have h0:k=0:=(by have:(Ae pl0.dirs 0).length=0:=rfl;omega);subst h0;exact a0,(λt ht=>nomatch ht)⟩,λm hm hl=>by
   have h0:m=0:=(by have:=hm.le;have:(Ae pl0.dirs 0).length=0:=rfl;omega);subst h0;exact hl,λm _ _=>gn m⟩) nO (by decide+kernel) dC
def Zp:DirsR i21 0 pl0 0 f21:=by
 have o0:Cn i21.g (nodeAt pl0.dirs 0)= [e21]:=by decide+kernel
 have o1:Cn i21.g (nodeAt f21.dirs 1)=[]:=by decide+kernel
 refine .next (t:=f21) dC ?_ (.next (t:=f21) dC ?_ (.fin dC))
 .rw[o0];exact .cons Zy (.nil _)
 .rw[o1];exact .nil _
def Zi4:SortedD f21.dirs f21.dirs:=⟨.refl _,by decide+kernel⟩
def do_add21:DoR [k11] s21 add21 (some (BU [(0,999999999)])) 9 9 9 99 ⟨0,1,2,1⟩ ⟨m11,GR,f21.dirs.map (Bh [Ay,k11]),false⟩:=by
 have hm:D6 s21.m add21.kind ⟨add21.name,BU [(0,999999999)]⟩=m11:=by decide+kernel
 have hk:AF [k11] m11 true [] 9 9=known11:=rfl;obtain⟨k1,k2,k3,_,_⟩:=Zdc;have ha:AskR s21.m [] s21.pruned add21 (some (BU [(0,999999999)])) 0 ⟨m11,[],true,false⟩:=by have:=AskR.add (m:=s21.m) (pins:=[]) (pruned:=false) (x:=add21) (r:=some (BU [(0,999999999)])) rfl (by decide+kernel) rfl dC dC (by rw[hm];decide+kernel);rw[hm]at this;exact this
 have hp:Df [k11] GR= [Ay,k11]:=by decide+kernel
 have h:=DoR.ok (L:=[k11]) (D:=9) (N:=9) (Di:=9) (P:=99) (T:=f21.dirs.map (Bh [Ay,k11])) ⟨by decide,by decide,by decide,by decide,by decide,by decide,by decide,by decide⟩ Zfb Zf5 ha (by
  show(AF [k11] m11 true [] 9 9).code=0;rw[hk];exact k1) (by
  show PlaceR (AF [k11] m11 true [] 9 9).ns (Df [k11] (AF [k11] m11 true [] 9 9).ns) (some [JE]) 9 99 0 _;rw[hk,Vb,hp];exact .ok ⟨by decide,by decide,by decide,by decide⟩ (λT hT=>by cases hT;exact tree21) Zf6 Zp Zi4)
 have h:DoR [k11] s21 add21 (some (BU [(0,999999999)])) 9 9 9 99 ⟨0,(AF [k11] m11 true [] 9 9).dec,((AF [k11] m11 true [] 9 9).ns.length:Int),((f21.dirs.map (Bh [Ay,k11])).length:Int) - 1⟩ ⟨m11,(AF [k11] m11 true [] 9 9).ns,f21.dirs.map (Bh [Ay,k11]),false⟩:=h;rw[hk,k2,k3,Vb]at h;exact h
def Emp(w:Wd)(g t:Sl):Prop:=SttS w (λb=>b<w.heap.size) Sl.nil Sl.nil Sl.nil Sl.nil g t s21
def Emp.ext{w':Wd}(h:Emp w g t)(hx:Ext w w'):Emp w' g t:=(SttS.ext h hx).mono λb hb=>jd hb hx.size
def Tb{SA:Nat->Prop}{sP sS:Sl}{P:Int}{lp:List Pack}{R:Option Addr->Option Addr->Bool->Wp}(ht:Tab w)(hA:Old SA w)(hP:SlR packE w SA sP lp)
  (hR:∀p r q w',Ext w w'->Both w' w.heap.size SA p r q (DA lp)->R (some p) (some q) true w'):SE.Ij sP D N Di P sS w R:=by
 unfold SE.Ij;have hl:=hP.len;refine newS.intro λa w1 x1 ha _ _=>SE.HM.go (catNew_L λp r w2 x2 hC h1 h2=>⟨_,rfl,newS.intro λq w3 x3 hq e8 _=>⟨nO,λ_=>?_⟩⟩);have e0:=x1.trans (x2.trans x3);have s1:=x1.size;have s2:=x2.size;have s3:=x3.size;have e6:=hC.lt;refine loop1.up hP.max (λi w'=>Ext w w'/\BoxAt w' a [sP.v,vi D,vi N,vi Di,vi P,sS.v]/\a.block<w2.heap.size/\Both w' w1.heap.size SA p r q (DA (lp.take i)))
  ⟨e0,ha.ext (x2.trans x3),by have:=ha.lt;omega,⟨None',hC.ext x3,λ_ h=>h.elim,λh=>h⟩,⟨None',⟨⟨Sl.nil,hq,SlR.nil trivial⟩,λh=>h,λ_ h=>h.elim,GoodL.nil⟩,λ_ h=>h.elim,λh=>h⟩,⟨h1,h2,oM⟩,oM,oM⟩ λi w4 d9 hi ⟨x4,c9,d5,hB⟩ hn=>⟨sP,c9.ldc.pre (r:=[_,_,_,_,_]) rfl,λe4=>bnd.drew λd4 xd=>?_,λe7=>?_⟩
 .have c4:i<lp.length:=oM;have a9:(i:Int)<(sP.len:Int):=oM;obtain⟨ad,d,e,o,c5,_,hN,hd,he,ho,hc⟩:=IE hP c4;have a0:=x4.trans xd;have a8:=c9.ext xd;obtain⟨⟨S,b2,a6,c3⟩,⟨T,b4,a7,b7⟩,⟨d2,d0,d1⟩,b9,b0⟩:=hB.ext xd;have e3:=b2.lt;have e5:q.block<d4.heap.size:=by obtain⟨s,hb,_⟩:=b4.at_;exact hb.lt
  have e9:=xd.size;have tail:∀(k:Value->Wp),(∀w5 (_:Ext w w5),BoxAt w5 a [sP.v,vi D,vi N,vi Di,vi P,sS.v]->(∀k2:Value->Wp,(∀w6,d9 (Aa ((i:Int)+1)) w6->k2 (.int .i64 (BK (DA (lp.take i)) lp[i]).1) w6)->callS prog 16 [.pointer (some q),.agg #[.string lp[i].name,.int .i64 lp[i].v.ma,.int .i64 lp[i].v.mi,.int .i64 lp[i].v.pa,d.v,e.v,o.v]] w5 k2)->k (.int .i64 (BK (DA (lp.take i)) lp[i]).1) w5)->
    callS prog 15 [.pointer (some p),.agg #[.string lp[i].name,.int .i64 lp[i].v.ma,.int .i64 lp[i].v.mi,.int .i64 lp[i].v.pa,d.v,e.v,o.v]] d4 k:=λk hk=>by
   refine SE.HL.go (Yw (x:=lp[i]) (S2:=SA) (ht.ext a0) b2 hN (hA.ext a0.size) (hd.ext a0) (he.ext a0) (ho.ext a0) λS' w5 b5 c6 hs d3=>?_);have x5:Ext w w5:=b5.ext a0 oM;have s5:=b5.1;have a5:=b5.box a8 oM;have c7:RefR w5 T q (DA (lp.take i)):=b4.stay b5.1 λb hb a4=>b5.2.2.2.2 b hb (by
    obtain a4|rfl:=a4
    .rintro rfl;exact b7 a4
    .exact b0)
   have b8: ¬S' q.block:=λh=>by
    obtain h|h:=d3 _ h
    .exact c3 h
    .omega
   have e2:=c6.lt;have d8: ¬SA q.block:=λh=>(by have:=hA _ h;omega);refine hk w5 x5 a5 λk2 d6=>?_;refine SE.Kx.go (Zgx (x:=lp[i]) (S2:=SA) c7 hN (hA.ext x5.size) d8 (hd.ext x5) (he.ext x5) (ho.ext x5) λw6 b6 c8=>d6 w6 (hn c4 w6 ?_));have x6:Ext w w6:=b6.ext x5 oM;have e1:DA (lp.take (i+1))=(BK (DA (lp.take i)) lp[i]).2:=(by rw[dw c4,Yv]);rw[e1];have s6:=b6.1;refine⟨x6,b6.box a5 oM,d5,⟨S',c6.stay b6.1 λb hb a4=>b6.2.2.2.2 b hb (by
    obtain a4|rfl|rfl:=a4
    .rintro rfl;exact b8 a4
    .exact Ne.symm b9
    .exact Ne.symm b0),λb hb=>?_,b8⟩,⟨_,c8,λb hb=>?_,λhb=>?_⟩,⟨d2,d0,d1⟩,b9,b0⟩
   .obtain h|h:=d3 b hb
    .exact a6 b h
    .omega
   .rcases hb with(hb|hb)|hb
    .exact a7 b hb
    .exact .inl hb
    .right;omega
   .rcases hb with(hb|hb)|hb
    .exact b7 hb
    .have:=hA _ hb;omega
    .omega
  clear hn;refine⟨sP,a8.ldc.pre rfl,ad,⟨c5,oM,a9⟩,_,_,_,_,_,_,_,(hc _ a0).pre rfl,?_,sP,a8.ldc.pre rfl,ad,⟨c5,oM,a9⟩,?_,_,_,_,_,_,_,_,(hc _ a0).pre rfl,?_⟩
  .refine tail _ λw5 x5 a5 hk=>⟨_,rfl,sP,a5.ldc.pre rfl,ad,⟨c5,oM,a9⟩,_,_,_,_,_,_,_,(hc _ x5).pre rfl,hk _ λw6 h6=>⟨_,rfl,λh=>absurd rfl h,λ_=>h6⟩⟩
  .refine tail _ λw5 x5 a5 hk=>⟨_,rfl,_,_,_,_,_,_,_,(hc _ x5).pre rfl,hk _ λw6 h6=>⟨_,rfl,λh=>absurd rfl h,λ_=>h6⟩⟩
  .refine tail _ λw5 x5 a5 hk=>⟨_,rfl,hk _ λw6 h6=>⟨_,rfl,λh=>absurd rfl h,λ_=>h6⟩⟩
 .have:i=lp.length:=oM;rw[this,eh]at hB;refine hR p r q w4 x4 ?_;obtain⟨⟨S,b2,a6,c3⟩,⟨T,b4,a7,b7⟩,⟨d2,d0,d1⟩,d7⟩:=hB;exact⟨⟨S,b2,λb hb=>by have:=a6 b hb;omega,c3⟩,⟨T,b4,λb hb=>(a7 b hb).imp id λh=>by omega,b7⟩,⟨oM,oM,oM⟩,d7⟩
def imgEmpty_se{R:Sl->Sl->Sl->Sl->Sl->Sl->Bool->Wp}(hR:∀g t w',Ext w w'->Emp w' g t->R Sl.nil Sl.nil Sl.nil Sl.nil g t false w'):SE.Iq w R:=by
 unfold SE.Iq;refine newS.intro λa w1 x1 h1 a0 _=>newS.intro λa2 w2 x2 h2 a4 _=>newS.intro λa3 w3 x3 h3 a5 _=>?_;have s1:=x1.size;have s2:=x2.size;have s3:=x3.size;refine stw0.intro (h1.ext (x2.trans x3)) sI λw4 b4 a6 h4=>⟨_,_,_,_,_,_,_,h4.at0 (r:=[]) xR rfl,?_⟩;have l1:=h1.lt;have k2:=b4.box (h2.ext x3) oM;have k3:=b4.box h3 oM;have l2:=k2.lt;have l3:=k3.lt;have hg:=J6 (E:=nodeE) (S:=None') (x:=rootNode) k2 ⟨by unfold Ac rootNode;rw[Al];decide,Sl.nil,Sl.nil,rfl,SlR.nil trivial,SlR.nil trivial⟩ dC;have ht:=J6 (E:=dirE) (S:=None') (x:=JE) k3 QT dC;refine hR _ _ w4 (b4.ext (x1.trans (x2.trans x3)) oM) ⟨⟨SlR.nil trivial,SlR.nil trivial,SlR.nil trivial,SlR.nil trivial⟩,hg.mono λb hb=>?_,ht.mono λb hb=>?_⟩
 .obtain hb|rfl:=hb
  .exact hb.elim
  .exact l2
 .obtain hb|rfl:=hb
  .exact hb.elim
  .exact l3
def Z7{x:StepC}{e v gS tS:Sl}{P:Int}{R:DR}(hS:Old S w)(hs:SttS w S d e o v gS tS s)
  (hR:∀d' e' o' v' g' u' w',Ext w w'->R d' e' o' v' g' u' s.pruned 1 0 0 0 w'):SE.Ft d e o v gS tS s.pruned none x.op x.name x.range x.kind x.pack x.n D N Di P w R:=by
 unfold SE.Ft;refine newS.intro λa w1 x1 ha c3 _=>newS.intro λa1 w2 x2 h1 b6 _=>newS.intro λa3 w4 x4 h3 b7 _=>newS.intro λa5 w6 x6 h5 b8 _=>newS.intro λa7 w8 x8 h7 b9 _=>?_;have a8:=x2.trans (x4.trans (x6.trans x8));have a6:=x1.trans a8;have s1:=x1.size;have s2:=x2.size;have s4:=x4.size;have s6:=x6.size;have s8:=x8.size;have b4:=h5.lt;have b5:=h7.lt;refine bound ⟨D,N,Di,P,nO,gCall.no ⟨λ_=>?_,nO⟩⟩;refine SE.HZ.go (TQ (hS.ext a6.size) (hs.ext a6) (ha.ext a8) λd' e' o' v' g' t' w9 x9 h9=>⟨d',e',o',v',g',t',s.pruned,1,0,0,0,rfl,?_⟩);have q9:=x9.size;refine stw0.intro (h5.ext (x8.trans x9)) sI λc4 a0 _ a9=>stw0.intro (a0.box (h7.ext x9) oM) sI λb2 a4 _ b0=>?_;have c5:=a0.1;have c6:=a4.1;exact⟨d',e',o',v',g',t',s.pruned,(a4.box a9 oM).at0 (r:=[]) xR rfl,1,0,0,0,b0.at0 (r:=[]) xR rfl,hR d' e' o' v' g' t' b2 (a4.ext (a0.ext (a6.trans x9) oM) oM)⟩
def strN11:Ac n11:=by unfold Ac n11;rw[Al];decide
def t21:Stt:=⟨m11,GR,f21.dirs.map (Bh [Ay,k11]),false⟩
def BO{w':Wd}{e v:Sl}(h:SttS w (λb=>b<w.heap.size) d e o v g t s)(hx:Ext w w'):SttS w' (λb=>b<w'.heap.size) d e o v g t s:=(h.ext hx).mono λb hb=>jd hb hx.size
def SttS.off{q:Nat}{e v:Sl}(hq:Unf w q)(h:SttS w S d e o v g t s):SttS w (Es S q) d e o v g t s:=⟨⟨Hz hq h.m.d,Hz hq h.m.e,Hz hq h.m.o,Hz hq h.m.v⟩,Zki hq h.g,Mt hq h.t⟩
def CL{wB:Wd}{b:Addr}{e v d0 e0 o0 v0 g0 t0:Sl}{p0:Bool}{st:Stt}{c1 c2 c3 c4 z1 z2 z3 z4:Int}{J:Wp}(x:Ext wB w)(ha:BoxAt w a [d0.v,e0.v,o0.v,v0.v,g0.v,t0.v,.bool p0])(hb:BoxAt w b [vi z1,vi z2,vi z3,vi z4])
  (h1:wB.heap.size<=a.block) (h2:wB.heap.size<=b.block) (a0:a.block≠b.block) (hs:SttS w (λb=>b<w.heap.size) d e o v g t st)
  (k:∀w',Ext wB w'->BoxAt w' a [d.v,e.v,o.v,v.v,g.v,t.v,.bool st.pruned]->BoxAt w' b [vi c1,vi c2,vi c3,vi c4]->SttS w' (λb=>b<w'.heap.size) d e o v g t st->J w'):
  stw w a [d.v,e.v,o.v,v.v,g.v,t.v,.bool st.pruned] λw1=>stw w1 b [vi c1,vi c2,vi c3,vi c4] J:=by
 have ua:Unf w a.block:=H0 ha (by simp[Sl.v]) (.inr (by simp[Sl.v]));have ub:Unf w b.block:=H0 hb sI (.inl sI);have h3:=(hs.off ua).off ub;refine stw0.intro ha sI λw1 b1 a4 k1=>?_;have y1:=b1.ext x h1;refine stw0.intro (b1.box hb (λe=>a0 e.symm)) sI λw2 b2 a5 k2=>?_;have q1:=b1.1;have q2:=b2.1;refine k w2 (b2.ext y1 h2) (b2.box k1 a0) k2 (((h3.but b1 λh=>h.1.2 rfl).but b2 λh=>h.2 rfl).mono λb hb=>?_);have:=hb.1.1;omega
def Zdr(hg:Gl w)(hR:∀w',Ext w w'->R true w'):SE.Km w R:=by
 unfold SE.Km;refine newS.intro λa w1 x1 ha l7 _=>newS.intro λa1 w2 x2 g2 j2 _=>stw0.intro g2 sI λw3 b3 l8 h3=>?_;have l1:=ha.lt;have l2:=g2.lt;have s1:=x1.size;have s2:=x2.size;have q3:=b3.1;have g5:Ext w1 w3:=b3.ext x2 oM;have k7:=x1.trans g5;have hp:=(J6 (E:=packE) (S:=None') (x:=k11) ha ⟨strN11,Sl.nil,Sl.nil,Sl.nil,rfl,SlR.nil trivial,SlR.nil trivial,SlR.nil trivial⟩ dC).ext g5;refine⟨_,_,_,_,_,_,h3.at0 (r:=[]) xR rfl,?_⟩;refine SE.Ij.go (Tb (lp:=[k11]) (hg.ext k7).tab (λb hb=>?_) hp λp r q w4 x4 hB=>⟨_,_,_,rfl,nO,λ_=>newS.intro λa5 w6 x6 h5 l6 _=>stw0.intro h5 sI λw7 b7 l9 h7=>?_⟩)
 .obtain hb|rfl:=hb
  .exact hb.elim
  .omega
 have e6:DA [k11]= [k11]:=by have:=Zda;exact this
 rw[e6]at hB;obtain⟨⟨SC,f1,_,_⟩,_⟩:=hB;have s4:=x4.size;have s6:=x6.size;have g6:Ext w4 w7:=b7.ext x6 oM;have g3:=(k7.trans x4).trans g6;have j4:=hg.ext g3;have j3:=f1.ext g6;have h7:BoxAt w7 a5 [vi 9,vi 9,vi 9,vi 99]:=h7;clear ha l7 hp l1 l2 f1 h5 l6 g6 s1 s2 q3 s4 s6 x1 x2 x4 x6 b7 l9 e6 hg g2 j2 b3 l8 h3 g5;have b6:∀{wX:Wd} {K:Value->Wp},(∀g t w',Ext wX w'->Emp w' g t->wX.heap.size<=w'.heap.size->K (.agg #[Sl.nil.v,Sl.nil.v,Sl.nil.v,Sl.nil.v,Sl.v g,Sl.v t,.bool false]) w')->callX prog 6 [] wX K:=λhK=>callX.intro (SE.Iq.go (imgEmpty_se λg t w' x h=>⟨x,hK g t w' x h x.size⟩));obtain⟨T,eT,eD,a0⟩:∃T:Stt,T.T.length=2/\T.m.deps.length=1/\∀{wX:Wd} {g t:Sl} {K:Value->Wp},Ext w7 wX->Emp wX g t->(∀d e o v g' u w',Ext wX w'->SttS w' (λb=>b<w'.heap.size) d e o v g' u T->wX.heap.size<=w'.heap.size->K (.tuple #[.agg #[Sl.v d,Sl.v e,Sl.v o,Sl.v v,Sl.v g',Sl.v u,.bool T.pruned],.agg #[vi 0,vi 1,vi 2,vi 1]]) w')->
   callS prog 7 [.agg #[Sl.nil.v,Sl.nil.v,Sl.nil.v,Sl.nil.v,g.v,t.v,.bool false],.pointer (some p),.agg #[vi 3,.string (bm #[97]),.string (bm #[42]),vi 0,.string (bm #[]),vi 0],.agg #[vi 9,vi 9,vi 9,vi 99]] wX K:=by
  refine⟨t21,rfl,rfl,λ{wX g t K} x hE hK=>SE.Ft.go (TH (s:=s21) (x:=add21) (S:=λb=>b<wX.heap.size) (j4.ext x) strN11 (λb hb=>hb) hE (j3.ext x) (λd hd=>by obtain rfl:=ep.1 hd;decide) λA t' d e o v g' u w' x' ⟨rr,hr,hd⟩ hs=>?_)⟩;obtain rfl:=rgOf_star.one hr;obtain⟨rfl,rfl⟩:=do_add21.one hd;exact hK d e o v g' u w' x' hs x'.size
 clear j4 j3;refine join.named λJ1 j1=>?_;have k1:∀(vs a8:Addr)(w9:Wd),Ext w7 w9->(∃(d e o v g t:Sl),BoxAt w9 vs [d.v,e.v,o.v,v.v,g.v,t.v,.bool T.pruned]/\SttS w9 (λb=>b<w9.heap.size) d e o v g t T)->BoxAt w9 a8 [vi 0,vi 1,vi 2,vi 1]->J1 vs a8 w9:=by subst j1;intro vs a8 w9 x9 ⟨d,e,o,v,g,t,hv,hs⟩ h8;refine⟨_,_,_,_,_,_,_,hv.at0 (r:=[]) xR rfl,_,_,_,_,(h7.ext x9).at0 (r:=[]) xR rfl,?_⟩;refine SE.Ft.go (Z7 (s:=T) (x:=⟨0,bm #[],bm #[],0,bm #[],0⟩) (λb hb=>hb) hs λd' e' o' v' g' u' dn k8=>⟨_,_,_,_,_,_,_,_,_,_,_,rfl,?_⟩);refine newS.intro λdh dp k9 g1 v2 _=>newS.intro λdi dq g4 l5 v3 _=>stw0.intro (g1.ext g4) sI λds g7 _ dj=>stw0.intro (g7.box l5 (by have:=g1.lt;omega)) sI λk6 l0 _ m0=>?_;have dk:=g1.lt;have dl:=k8.size;have s11:=k9.size;have dm:=g4.size;have c7:Ext w9 k6:=l0.ext (g7.ext (k8.trans (k9.trans g4)) oM) oM;refine⟨0,1,2,1,(h8.ext c7).at0 (r:=[]) xR rfl,bound ⟨t,λ_=>(hv.ext c7).at1 (k:=5) xR rfl,bound ⟨d,λ_=>(hv.ext c7).at0 xR rfl,bound ⟨1,λ_=>m0.at0 xR rfl,?_⟩⟩⟩⟩;have e1:t.len=2:=hs.t.len.trans eT;have e2:d.len=1:=hs.m.d.len.trans eD;have hr:=hR k6 (g3.trans (x9.trans c7));rw[e1,e2];exact hr
 clear j1 hR;refine bnd.drew λw8 x7=>⟨9,9,9,99,(h7.ext x7).at0 (r:=[]) xR rfl,?_⟩;have s7:=x7.size;clear h7 g3;exact⟨(b6 λu5 z5 bb a4 b5 x8=>⟨_,_,_,_,_,_,_,rfl,⟨(a0 (x7.trans (a4)) (b5.ext xR) λq6 r7 v4 am t4 aa bc f4 f2 y0=>⟨_,_,_,_,_,_,_,_,_,_,_,rfl,⟨(newS.intro λm1 bd f5 g8 o4 cm=>(newS.intro λm2 be d0 g9 o5 co=>(CL (x7.trans (a4.trans (f4.trans (f5.trans (d0))))) (g8.ext (d0)) (g9.ext xR) oM oM oM (BO f2 (f5.trans (d0))) λw x ha hb hs=>k1 _ _ w x ⟨_,_,_,_,_,_,ha,hs⟩ hb))),(newS.intro λm3 bf f6 h0 o6 cq=>(newS.intro λm4 bg d1 h1 o7 cr=>(CL (x7.trans (a4.trans (f4.trans (f6.trans (d1))))) (h1.ext xR) (h0.ext (d1)) oM oM oM (BO f2 (f6.trans (d1))) λw x ha hb hs=>k1 _ _ w x ⟨_,_,_,_,_,_,ha,hs⟩ hb)))⟩⟩),(newS.intro λm5 bh a6 e7 o8 ct=>⟨(a0 (x7.trans (a4.trans (a6))) (b5.ext (a6)) λq7 r8 v5 an t5 ab bi f7 j5 y1=>⟨_,_,_,_,_,_,_,_,_,_,_,rfl,(newS.intro λm6 bj d2 h2 o9 cu=>(CL (x7.trans (a4.trans (a6.trans (f7.trans (d2))))) (e7.ext (f7.trans (d2))) (h2.ext xR) oM oM oM (BO j5 (d2)) λw x ha hb hs=>k1 _ _ w x ⟨_,_,_,_,_,_,ha,hs⟩ hb))⟩),(newS.intro λm7 bk b8 h4 p0 cv=>(a0 (x7.trans (a4.trans (a6.trans (b8)))) (b5.ext (a6.trans (b8))) λq8 r9 v6 aq t6 ac bl d3 j6 y2=>⟨_,_,_,_,_,_,_,_,_,_,_,rfl,(CL (x7.trans (a4.trans (a6.trans (b8.trans (d3))))) (e7.ext (b8.trans (d3))) (h4.ext (d3)) oM oM oM (BO j6 xR) λw x ha hb hs=>k1 _ _ w x ⟨_,_,_,_,_,_,ha,hs⟩ hb)⟩))⟩),(newS.intro λm8 bm a7 e8 p4 cw=>⟨(a0 (x7.trans (a4.trans (a7))) (b5.ext (a7)) λq9 s0 v7 ar t7 ae bn f8 j7 y3=>⟨_,_,_,_,_,_,_,_,_,_,_,rfl,(newS.intro λm9 bo d4 h6 p5 cx=>(CL (x7.trans (a4.trans (a7.trans (f8.trans (d4))))) (h6.ext xR) (e8.ext (f8.trans (d4))) oM oM oM (BO j7 (d4)) λw x ha hb hs=>k1 _ _ w x ⟨_,_,_,_,_,_,ha,hs⟩ hb))⟩),(newS.intro λn0 bp b9 h9 p6 cy=>(a0 (x7.trans (a4.trans (a7.trans (b9)))) (b5.ext (a7.trans (b9))) λr0 s3 v8 au t8 af bq d5 j8 y4=>⟨_,_,_,_,_,_,_,_,_,_,_,rfl,(CL (x7.trans (a4.trans (a7.trans (b9.trans (d5))))) (h9.ext (d5)) (e8.ext (b9.trans (d5))) oM oM oM (BO j8 xR) λw x ha hb hs=>k1 _ _ w x ⟨_,_,_,_,_,_,ha,hs⟩ hb)⟩))⟩)⟩⟩),(newS.intro λn1 br a9 c8 p7 cz=>⟨(b6 λu6 z6 bs b0 e9 y5=>⟨_,_,_,_,_,_,_,rfl,⟨(a0 (x7.trans (a9.trans (b0))) (e9.ext xR) λr1 s5 v9 av t9 ag bu f9 j9 y6=>⟨_,_,_,_,_,_,_,_,_,_,_,rfl,(newS.intro λn2 bv d6 i2 p8 da=>(CL (x7.trans (a9.trans (b0.trans (f9.trans (d6))))) (c8.ext (b0.trans (f9.trans (d6)))) (i2.ext xR) oM oM oM (BO j9 (d6)) λw x ha hb hs=>k1 _ _ w x ⟨_,_,_,_,_,_,ha,hs⟩ hb))⟩),(newS.intro λn4 bw c3 i3 p9 db=>(a0 (x7.trans (a9.trans (b0.trans (c3)))) (e9.ext (c3)) λr2 s8 w0 aw u0 ah bx d7 k0 y7=>⟨_,_,_,_,_,_,_,_,_,_,_,rfl,(CL (x7.trans (a9.trans (b0.trans (c3.trans (d7))))) (c8.ext (b0.trans (c3.trans (d7)))) (i3.ext (d7)) oM oM oM (BO k0 xR) λw x ha hb hs=>k1 _ _ w x ⟨_,_,_,_,_,_,ha,hs⟩ hb)⟩))⟩⟩),(newS.intro λn5 bz d8 i4 q0 dc=>(b6 λu7 z7 ca c4 i5 y8=>⟨_,_,_,_,_,_,_,rfl,(a0 (x7.trans (a9.trans (d8.trans (c4)))) (i5.ext xR) λr3 s9 w5 ax u1 ai cb d9 k2 y9=>⟨_,_,_,_,_,_,_,_,_,_,_,rfl,(CL (x7.trans (a9.trans (d8.trans (c4.trans (d9))))) (c8.ext (d8.trans (c4.trans (d9)))) (i4.ext (c4.trans (d9))) oM oM oM (BO k2 xR) λw x ha hb hs=>k1 _ _ w x ⟨_,_,_,_,_,_,ha,hs⟩ hb)⟩)⟩))⟩),(newS.intro λn7 cc b2 c9 q1 dd=>⟨(b6 λu9 z8 cd b4 f0 z0=>⟨_,_,_,_,_,_,_,rfl,⟨(a0 (x7.trans (b2.trans (b4))) (f0.ext xR) λr4 t0 x0 ay u2 aj ce g0 k3 z1=>⟨_,_,_,_,_,_,_,_,_,_,_,rfl,(newS.intro λn8 cf e0 i6 q2 de=>(CL (x7.trans (b2.trans (b4.trans (g0.trans (e0))))) (i6.ext xR) (c9.ext (b4.trans (g0.trans (e0)))) oM oM oM (BO k3 (e0)) λw x ha hb hs=>k1 _ _ w x ⟨_,_,_,_,_,_,ha,hs⟩ hb))⟩),(newS.intro λn9 cg c5 i7 q4 df=>(a0 (x7.trans (b2.trans (b4.trans (c5)))) (f0.ext (c5)) λr5 t1 x3 az u3 ak ci e3 k4 z2=>⟨_,_,_,_,_,_,_,_,_,_,_,rfl,(CL (x7.trans (b2.trans (b4.trans (c5.trans (e3))))) (i7.ext (e3)) (c9.ext (b4.trans (c5.trans (e3)))) oM oM oM (BO k4 xR) λw x ha hb hs=>k1 _ _ w x ⟨_,_,_,_,_,_,ha,hs⟩ hb)⟩))⟩⟩),(newS.intro λo0 cj e4 i9 q5 dg=>(b6 λv0 z9 ck c6 j0 z3=>⟨_,_,_,_,_,_,_,rfl,(a0 (x7.trans (b2.trans (e4.trans (c6)))) (j0.ext xR) λr6 t3 x5 ba u4 al cl e5 k5 z4=>⟨_,_,_,_,_,_,_,_,_,_,_,rfl,(CL (x7.trans (b2.trans (e4.trans (c6.trans (e5))))) (i9.ext (c6.trans (e5))) (c9.ext (e4.trans (c6.trans (e5)))) oM oM oM (BO k5 xR) λw x ha hb hs=>k1 _ _ w x ⟨_,_,_,_,_,_,ha,hs⟩ hb)⟩)⟩))⟩)⟩
end Go.Hal
namespace Go.Hal
def PlaceR.short{old:Option (List Dir)}{c:Int}{T:List Dir}(h:PlaceR G P old D M c T):∀d∈T,d.path.length<=4000000000000:=by
 cases h with
 | @ok s es h1 h2 h3 h4 h5=>have hs:=DirsR.small h4 (VX (I:=EG G P old D M) (by have:=h1.1;show(0:Int)<=D;omega));intro d hd;obtain⟨e,he,rfl⟩:=gq.1 hd;obtain⟨n,hI,_⟩:=DirsR.inv (I:=EG G P old D M) h3.grPl h4 (PInv.start h3.grPl.pos) LInv.start (λu hu=>by cases hu) (λi hi=>by omega) rfl;obtain⟨i,hi⟩:=jo (h5.1.mem_iff.1 he);have a1:=hI.plen i e hi;have a2:=(fh.1 hi).1;have a3:(s.dirs.length:Int)<=D+1:=hs.2;have a4:=h1.2.1;show e.path.length<=_;omega
 |_=>intro d hd;cases hd
def DoR.short{t:Stt}{x:StepC}{P:Int}{A:AnsC}(h:DoR L s x r D N Di P A t)(hb:∀d∈s.T,d.path.length<=4000000000000):∀d∈t.T,d.path.length<=4000000000000:=by
 cases h with
 |ok h1 h2 h3 h4 h5 h6=>exact h6.short
 |_=>exact hb
def R4(x:StepC):LV:=[vi x.op,.string x.name,.string x.range,vi x.kind,.string x.pack,vi x.n]
def Mn:Enc StepC:=DG 6 72 R4 (λx=>Ac x.name/\Ac x.range/\Ac x.pack) (λ_=>rfl) (λ_ v hv=>by simp[R4]at hv;rcases hv with rfl|rfl|rfl|rfl|rfl|rfl<;>rfl)
def Zjn{s:Sl}{l:List StepC}(h:SlR Mn w S s l)(hn:n<l.length):∃ad,s.a=some ad/\(Ac l[n].name/\Ac l[n].range/\Ac l[n].pack)/\∀w',Ext w w'->ldc w' (ad.add (n*6)) (R4 l[n]):=by obtain⟨ad,cs,h1,_,⟨rfl,hs⟩,h3⟩:=h.el hn;exact⟨ad,h1,hs,h3⟩
def Zil:∀d∈s21.T,d.path.length<=4000000000000:=λd hd=>by obtain rfl:=ep.1 hd;decide
def Zkl{e v:Sl}(h:BoxAt w a [d.v,e.v,o.v,v.v,g.v,t.v,.bool p]):Unf w a.block:=H0 h (by simp[Sl.v]) (.inr (by simp[Sl.v]))
def Wt{e v d' e' o' v' g' t':Sl}{st:Stt}{J:Wp}(ha:BoxAt w a [d.v,e.v,o.v,v.v,g.v,t.v,.bool p])(hs:SttS w (λb=>b<w.heap.size) d' e' o' v' g' t' st)
  (k:∀w',But a.block w w'->BoxAt w' a [d'.v,e'.v,o'.v,v'.v,g'.v,t'.v,.bool st.pruned]->SttS w' (λb=>b<w'.heap.size) d' e' o' v' g' t' st->J w'):stw w a [d'.v,e'.v,o'.v,v'.v,g'.v,t'.v,.bool st.pruned] J:=by
 refine stw0.intro ha sI λw1 b1 a0 k1=>k w1 b1 k1 (((hs.off (Zkl ha)).but b1 λh=>h.2 rfl).mono λb hb=>?_);have:=hb.1;have:=b1.1;omega
def DoR.okay{t:Stt}{x:StepC}{P:Int}{A:AnsC}(h:DoR L s x r D N Di P A t)(h0:A.code=0):∃(pins:LP) (j:JobC) (tt:Nat),AskR s.m pins s.pruned x r 0 j/\AF L j.m (!j.pruned) j.pins D N= .done t.g tt/\PlaceR t.g (Df L t.g) (if j.keep then some s.T else none) Di P 0 t.T/\t.m=j.m/\SttOk s:=by
 cases h with
 |arg=>cases h0
 |ask _ _ _ _ h=>exact absurd h0 h
 |find _ _ _ _ h=>exact absurd h0 h
 |place _ _ _ _ _ _ h=>exact absurd h0 h
 | @ok pins j T h1 h2 h3 h4 h5 h6=>obtain⟨ns,tt,hr⟩:=Zr h5;rw[hr]at h6 ⊢;exact⟨pins,j,tt,h4,hr,h6,rfl,h2⟩
def XY{k:Int}{d:Dep}(h1:AK m.deps d.name=false)(h2:AK m.dev d.name=false)(h3:AK m.opt d.name=false):D7 (D6 m k d) d.name=m:=by
 obtain⟨a,b,c,e⟩:=m;have hb:D7 ⟨a,b,c,e⟩ d.name=⟨a,b,c,e⟩:=by unfold D7;rw[Em h1,Em h2,Em h3]
 unfold D6;dsimp only;rw[hb];split
 .unfold D7;dsimp only at*;rw[O6 h1,Em h2,Em h3]
 .split
  .unfold D7;dsimp only at*;rw[O6 h2,Em h1,Em h3]
  .unfold D7;dsimp only at*;rw[O6 h3,Em h1,Em h2]
def V4{k:Mani}{e v d' e' o' v':Sl}{U:Nat->Prop}(hd:SlR depE w S d m.deps)(he:SlR depE w S e m.dev)(ho:SlR depE w S o m.opt)(hv:SlR depE w S v m.over)(a8:SlR depE w U d' k.deps)(a9:SlR depE w U e' k.dev)(b0:SlR depE w U o' k.opt)(b8:SlR depE w U v' k.over)
  (hR:∀w',Ext w w'->R (decide (m=k)) w'):SE.Im d e o v d' e' o' v' w R:=by
 unfold SE.Im;have up:∀{q:Nat->Prop} {t:Sl} {l:LD} {w':Wd},SlR depE w q t l->Ext w w'->SlR depE w' (λ_=>True) t l:=λh hx=>(h.ext hx).mono λ_ _=>trivial;refine newS.intro λa w1 x1 hb _ _=>newS.intro λa1 w2 x2 a0 _ _=>⟨d,hb.at0 x2 rfl,d',a0.at0 xR rfl,SE.FS.go (NW (up hd (x1.trans x2)) (up a8 (x1.trans x2)) λw3 x3=>⟨_,rfl,e,λ_=>hb.at1 (k:=1) (x2.trans x3) rfl,e',λ_=>a0.at1 (k:=1) x3 rfl,?_⟩)⟩;have a5:=(x1.trans x2).trans x3;refine gCall.intro (decide (m.dev=k.dev)) (λ_ q hq=>SE.FS.go (NW (up he a5) (up a9 a5) λw' hx=>⟨_,rfl,hq _ hx⟩)) λt2 w4 x4 b5=>bound ⟨o,λ_=>hb.at1 (k:=2) (x2.trans (x3.trans x4)) rfl,o',λ_=>a0.at1 (k:=2) (x3.trans x4) rfl,?_⟩;have a6:=a5.trans x4;refine gCall.intro (decide (m.opt=k.opt)) (λ_ q hq=>SE.FS.go (NW (up ho a6) (up b0 a6) λw' hx=>⟨_,rfl,hq _ hx⟩)) λt3 w5 x5 b6=>bound ⟨v,λ_=>hb.at1 (k:=3) (r:=[]) (x2.trans (x3.trans (x4.trans x5))) rfl,v',λ_=>a0.at1 (k:=3) (r:=[]) (x3.trans (x4.trans x5)) rfl,?_⟩;have a7:=a6.trans x5;refine gCall.intro (decide (m.over=k.over)) (λ_ q hq=>SE.FS.go (NW (up hv a7) (up b8 a7) λw' hx=>⟨_,rfl,hq _ hx⟩)) λt4 w6 x6 b7=>?_;have e2:∀{a b c:Bool},(a=true->b=c)->(a&&b)=(a&&c):=λ{a b c} h=>by cases a;rfl;rw[h rfl]
 have hr:=hR w6 (a7.trans x6);have:(((decide (m.deps=k.deps)&&t2)&&t3)&&t4)=decide (m=k):=by rw[e2 b7,e2 b6,e2 b5];obtain⟨a1,a2,a3,a4⟩:=m;obtain⟨b1,b2,b3,b4⟩:=k;rw[gk];simp only[dx,decide_eq_true_eq,Mani.mk.injEq,and_assoc]
 rw[this];exact hr
def AskR.added{pins:LP}{x:StepC}(h:AskR m pins p x r 0 j)(h3:x.op=3):∃l,j.m=D6 m x.kind ⟨x.name,l⟩:=by generalize hc:(0:Int)=c at h;cases h<;>first|(exfalso;omega)|exact⟨_,rfl⟩
def AskR.removed{pins:LP}{x:StepC}(h:AskR m pins p x r 0 j)(h4:x.op=4):j.m=D7 m x.name:=by generalize hc:(0:Int)=c at h;cases h<;>first|(exfalso;omega)|rfl
def AskR.laid{pins:LP}{x:StepC}(h:AskR m pins p x r 0 j)(h8:x.op=8)(hr:x.range≠⟨#[]⟩):∃l,j.m=⟨m.deps,m.dev,m.opt,withD m.over ⟨x.name,l⟩⟩:=by generalize hc:(0:Int)=c at h;cases h<;>first|(exfalso;omega)|contradiction|exact⟨_,rfl⟩
def AskR.lifted{pins:LP}{x:StepC}(h:AskR m pins p x r 0 j)(h8:x.op=8)(hr:x.range=⟨#[]⟩):j.m=⟨m.deps,m.dev,m.opt,Bk m.over x.name⟩:=by generalize hc:(0:Int)=c at h;cases h<;>first|(exfalso;omega)|contradiction|rfl
section
variable {L:List Pack} {s t u:Stt} {nm rg:Bs} {kd D N Di P:Int} {A B:AnsC}
def XW{q:Option (List Span)}(h:DoR L s ⟨3,nm,rg,kd,⟨#[]⟩,0⟩ r D N Di P A t)(ha:A.code=0)(k:DoR L t ⟨4,nm,⟨#[]⟩,0,⟨#[]⟩,0⟩ q D N Di P B u)(hb:B.code=0)
  (h1:AK s.m.deps nm=false) (h2:AK s.m.dev nm=false) (h3:AK s.m.opt nm=false):u.m=s.m:=by
 obtain⟨_,j,_,a1,_,_,a2,_⟩:=h.okay ha;obtain⟨_,i,_,b1,_,_,b2,_⟩:=k.okay hb;obtain⟨l,hl⟩:=a1.added rfl;rw[b2,b1.removed rfl,a2,hl];exact XY (d:=⟨nm,l⟩) h1 h2 h3
def XX{q:Option (List Span)}(h:DoR L s ⟨8,nm,rg,0,⟨#[]⟩,0⟩ r D N Di P A t)(ha:A.code=0)(k:DoR L t ⟨8,nm,⟨#[]⟩,0,⟨#[]⟩,0⟩ q D N Di P B u)(hb:B.code=0)
  (hr:rg≠⟨#[]⟩) (h1:AK s.m.over nm=false):u.m=s.m:=by
 obtain⟨_,j,_,a1,_,_,a2,_⟩:=h.okay ha;obtain⟨_,i,_,b1,_,_,b2,_⟩:=k.okay hb;obtain⟨l,hl⟩:=a1.laid rfl hr;rw[b2,b1.lifted rfl rfl,a2,hl];dsimp only;rw[O6 (d:=⟨nm,l⟩) h1]
end
def ND{s:Sl}{l:LD}{n:Bs}(hs:SlR depE w S s l)(hR:∀w',Ext w w'->R (AK l n) w'):SE.FQ s n w R:=by
 unfold SE.FQ;have hl:=hs.len;refine loop1.up hs.max (λi w'=>Ext w w'/\AK (l.take i) n=false) ⟨Ext.refl _,rfl⟩ λi w1 a6 hi ⟨x1,hI⟩ hn=>⟨λa4=>?_,λa5=>?_⟩
 .have a0:i<l.length:=oM;obtain⟨ad,t,ha,_,_,_,hc⟩:=BD hs a0;refine⟨ad,⟨ha,oM,a4⟩,_,(hc _ x1).pre rfl,λhe=>?_,λhe=>?_⟩
  .have:AK l n=true:=jg.2 ⟨_,ff a0,by simpa[EA]using he⟩;rw[<-this];exact hR _ x1
  .refine hn a0 _ ⟨x1,?_⟩;unfold AK at hI ⊢;rw[dw a0,List.any_append,hI];simpa[EA]using he
 .have:i=l.length:=oM;rw[this,eh]at hI;rw[<-hI];exact hR _ x1
def Z5{SA:Nat->Prop}{sP sS:Sl}{P:Int}{lp:List Pack}{ls:List StepC}{x:StepC}(hg:Gl w)(hA:Old SA w)(hP:SlR packE w SA sP lp)(hS:SlR Mn w SA sS ls)(hx:Ac x.name)
  (hR:∀w',Ext w w'->R true w'):SE.Kl sP D N Di P sS x.op x.name x.range x.kind x.pack x.n w R:=by
 unfold SE.Kl;refine newS.intro λa w1 x1 ha p5 _=>newS.intro λa1 w2 x2 h1 o7 _=>⟨x.name,h1.at1 (k:=1) xR rfl,x.range,h1.at1 (k:=2) xR rfl,x.kind,h1.at1 (k:=3) xR rfl,_,_,_,_,_,_,ha.at0 (r:=[]) x2 rfl,?_⟩;have e6:=x1.trans x2;refine SE.Ij.go (Tb (hg.ext e6).tab (hA.ext e6.size) (hP.ext e6) λp r q w3 x3 hB=>⟨_,_,_,rfl,nO,λ_=>?_⟩);obtain⟨⟨SC,i4,_,_⟩,_⟩:=hB;have e7:=e6.trans x3;have d0:=x2.trans x3;have al:=ha.lt;have q1:=x1.size;have q2:=x2.size;have q3:=x3.size;have o6:=hS.len;refine SE.Iq.go (imgEmpty_se λg0 t0 w4 x4 hE=>⟨_,_,_,_,_,_,_,rfl,newS.intro λa5 w6 x6 h5 o8 _=>?_⟩);have q4:=x4.size;have q6:=x6.size;have l5:=h5.lt;refine Wt (st:=s21) h5 (BO hE x6) λw7 b7 k9 m3=>?_;have o5:Ext w3 w7:=b7.ext (x4.trans x6) oM;have d6:∀{s:Stt} {y:StepC} {d e o v g t:Sl} {wX:Wd} {K:Value->Wp},Ext w3 wX->Ac y.name->SttS wX (λb=>b<wX.heap.size) d e o v g t s->(∀d∈s.T,d.path.length<=4000000000000)->(∀B u d e o v g t w',Ext wX w'->(∃q,DoR (DA lp) s y q D N Di P B u)->SttS w' (λb=>b<w'.heap.size) d e o v g t u->K (.tuple #[.agg #[Sl.v d,Sl.v e,Sl.v o,Sl.v v,Sl.v g,Sl.v t,.bool u.pruned],.agg #[vi B.code,vi B.dec,vi B.nodes,vi B.dirs]]) w')->
   callS prog 7 [.agg #[d.v,e.v,o.v,v.v,g.v,t.v,.bool s.pruned],.pointer (some p),.agg #[vi y.op,.string y.name,.string y.range,vi y.kind,.string y.pack,vi y.n],.agg #[vi D,vi N,vi Di,vi P]] wX K:=λ{s y d e o v g t wX K} hX hy hs c6 hK=>
  SE.Ft.go (TH (s:=s) (x:=y) (S:=λb=>b<wX.heap.size) (hg.ext (e7.trans hX)) hy (λb hb=>hb) hs (i4.ext hX) c6 λB u d e o v g t w' x' ⟨q,_,hd⟩ hs=>hK B u d e o v g t w' x' ⟨q,hd⟩ hs)
 refine loop1.up hS.max (λ_ w'=>∃(s:Stt) (d e o v g t:Sl),Ext w3 w'/\BoxAt w' a5 [d.v,e.v,o.v,v.v,g.v,t.v,.bool s.pruned]/\SttS w' (λb=>b<w'.heap.size) d e o v g t s/\∀d∈s.T,d.path.length<=4000000000000)
  ⟨s21,_,_,_,_,_,_,o5,k9,m3,Zil⟩ λi w8 p7 hi ⟨s,d,e,o,v,g,t,x8,h5,hs,c6⟩ hn=>⟨sS,ha.at1 (k:=5) (r:=[]) (d0.trans x8) rfl,λm1=>bnd.drew λw9 x9=>?_,λ_=>?_⟩
 .have i7:i<ls.length:=oM;obtain⟨ad,m0,⟨sn,sr,sp⟩,hc⟩:=Zjn hS i7;generalize p6:ls[i]=y at*;have e4:=x8.trans x9;refine⟨_,_,_,_,_,_,_,(h5.ext x9).at0 (r:=[]) xR rfl,sS,ha.at1 (k:=5) (r:=[]) (d0.trans e4) rfl,ad,⟨m0,oM,m1⟩,_,_,_,_,_,_,by rw[ec];exact hc _ (e7.trans e4),D,N,Di,P,ha.at1 (k:=1) (d0.trans e4) rfl,?_⟩;refine d6 (y:=y) e4 sn (BO hs x9) c6 λB u d2 e2 o2 v2 g2 t2 e5 j7 ⟨q,hd⟩ g6=>⟨_,_,_,_,_,_,_,_,_,_,_,rfl,?_⟩;have b2:=e4.trans j7;have b4:=x9.trans j7;refine Wt (h5.ext b4) g6 λj5 k4 k5 i9=>hn i7 j5 ⟨u,_,_,_,_,_,_,k4.ext b2 oM,k5,i9,hd.short c6⟩
 clear hn;refine⟨_,_,_,_,h5.at0 (r:=[_,_,_]) xR rfl,newS.intro λa6 w9 x9 h6 o9 _=>stw0.intro h6 sI λe5 h3 _ k6=>⟨d,k6.at0 xR rfl,?_⟩⟩;have l6:=h6.lt;have l8:=h5.lt;have q8:=x8.size;have q9:=x9.size;have b4:Ext w8 e5:=h3.ext x9 oM;have k6:BoxAt e5 a6 [d.v,e.v,o.v,v.v]:=k6;have hs:=BO hs b4;have h5:=h5.ext b4;have b2:=x8.trans b4;clear x8 x9 b4 h3 h6 l6;refine SE.FQ.go (ND hs.m.d λj5 e8=>⟨_,rfl,e,λ_=>k6.at1 (k:=1) e8 rfl,?_⟩);refine gCall.intro (AK s.m.dev x.name) (λ_ q hq=>SE.FQ.go (ND (hs.m.e.ext e8) λw' hx=>⟨_,rfl,hq _ hx⟩)) λt1 q5 j9 j3=>bound ⟨o,λ_=>k6.at1 (k:=2) (e8.trans j9) rfl,?_⟩;have d7:=e8.trans j9;refine gCall.intro (AK s.m.opt x.name) (λ_ q hq=>SE.FQ.go (ND (hs.m.o.ext d7) λw' hx=>⟨_,rfl,hq _ hx⟩)) λt2 q7 k0 j4=>?_;have a4:=d7.trans k0;have f6:=b2.trans a4;have n9:((AK s.m.deps x.name||t1)||t2)=false->AK s.m.deps x.name=false/\AK s.m.dev x.name=false/\AK s.m.opt x.name=false:=by intro h;rw[gb,gb]at h;obtain⟨⟨e1,e2⟩,e3⟩:=h;have f1:=j3 (by rw[e1];rfl);have f2:=j4 (by rw[e1,e2];rfl);exact⟨e1,f1▸e2,f2▸e3⟩
 clear j3 j4;generalize (AK s.m.deps x.name||t1)=c1 at*;have j8:=d0.trans f6;refine⟨_,_,_,_,_,_,_,(h5.ext a4).at0 (r:=[]) xR rfl,D,N,Di,P,ha.at1 (k:=1) j8 rfl,?_⟩;refine d6 (y:=⟨3,x.name,x.range,x.kind,⟨#[]⟩,0⟩) f6 hx (BO hs a4) c6 λA1 t d1 e1 o1 v1 g1 u1 r0 h0 ⟨r1,i5⟩ m2=>⟨_,_,_,_,_,_,_,_,_,_,_,rfl,newS.intro λa7 r4 h2 h7 p0 _=>newS.intro λa8 r5 e9 h8 p4 _=>?_⟩;have p8:=h0.size;have p9:=h2.size;have q0:=e9.size;have l7:=h7.lt;refine CL (h2.trans e9) (h7.ext e9) h8 oM oM oM (BO m2 (h2.trans e9)) λn1 k1 k7 k8 j0=>?_;have c8:=(a4.trans h0).trans k1;have f7:=b2.trans c8;refine join.named λJ1 i2=>?_;have f4:∀w',Ext n1 w'->J1 w':=by
  subst i2;intro r6 k2;have c9:=c8.trans k2;have f8:=b2.trans c9;refine⟨_,_,_,_,_,_,_,(h5.ext c9).at0 (r:=[]) xR rfl,D,N,Di,P,ha.at1 (k:=1) (d0.trans f8) rfl,?_⟩;refine d6 (y:=⟨8,x.name,x.range,0,⟨#[]⟩,0⟩) f8 hx (BO hs c9) c6 λA2 t2 d2 e2 o2 v2 g2 u2 r7 o0 ⟨r2,i6⟩ g6=>⟨_,_,_,_,_,_,_,_,_,_,_,rfl,?_⟩;have d4:=k2.trans o0;refine CL (k1.trans d4) (k7.ext d4) (k8.ext d4) oM oM oM g6 λj6 o4 m7 m8 j1=>?_;have b6:Ext e5 j6:=(a4.trans h0).trans o4;have e0:=b2.trans b6;refine join.named λJ2 i3=>?_;have f5:∀w',Ext j6 w'->J2 w':=by subst i3;intro n2 b8;exact SE.Km.go (Zdr (hg.ext (e7.trans (e0.trans b8))) λg9 c7=>⟨true,rfl,hR g9 (e7.trans ((e0.trans b8).trans c7))⟩)
  clear i3;refine⟨A2.code,m8.at0 xR rfl,bound (bound ⟨v,λ_=>k6.at1 (k:=3) (r:=[]) b6 rfl,?_⟩)⟩;refine gCall.intro (AK s.m.over x.name) (λ_ q hq=>SE.FQ.go (ND (hs.m.v.ext b6) λw' hx=>⟨_,rfl,hq _ hx⟩)) λt3 n2 b8 m4=>⟨λhc=>?_,λ_=>f5 _ b8⟩;have f9:=e0.trans b8;refine⟨_,_,_,_,_,_,_,(m7.ext b8).at0 (r:=[]) xR rfl,D,N,Di,P,ha.at1 (k:=1) (d0.trans f9) rfl,?_⟩;have j2:=i6.short c6;refine d6 (y:=⟨8,x.name,⟨#[]⟩,0,⟨#[]⟩,0⟩) f9 hx (BO j1 b8) j2 λA3 u d3 e3 o3 v3 g3 u3 g9 c7 ⟨r3,g5⟩ g7=>⟨_,_,_,_,_,_,_,_,_,_,_,rfl,newS.intro λa9 n4 d5 h9 l0 _=>newS.intro λk3 n5 b9 g4 h4 _=>?_⟩;have m5:=c7.size;have m6:=d5.size;have n0:=b9.size;have l9:=h9.lt;refine CL (d5.trans b9) (h9.ext b9) g4 oM oM oM (BO g7 (d5.trans b9)) λn7 f0 m9 g8 a0=>?_;have b0:=b6.trans ((b8.trans c7).trans f0);have b5:=BO hs b0;refine⟨_,_,_,_,m9.at0 (r:=[_,_,_]) xR rfl,_,_,_,_,k6.at0 (r:=[]) b0 rfl,?_⟩;refine SE.Im.go (V4 a0.m.d a0.m.e a0.m.o a0.m.v b5.m.d b5.m.e b5.m.o b5.m.v λn8 d9=>⟨_,rfl,A3.code,g8.at0 d9 rfl,bound ⟨λhb=>?_,λ_=>f5 _ (((b8.trans c7).trans f0).trans d9)⟩⟩);exfalso;simp only[dx,beq_iff_eq,kh,decide_eq_false_iff_not,AH,<-Bool.not_eq_true]at hc hb;obtain⟨⟨c1,c2⟩,c3⟩:=hc;obtain⟨c4,c5⟩:=hb;have e2:Ai x.range ⟨#[]⟩=false:=by rw[<-Bool.not_eq_true,AH];exact c2
  have:=m4 (by simp[c1,e2]);rw[this]at c3;exact c5 (decide_eq_true (XX i6 c1 g5 c4 c2 (by simpa using c3)))
 clear i2;refine⟨A1.code,k8.at0 xR rfl,bound ⟨λhc=>?_,λ_=>f4 _ xR⟩⟩;refine⟨_,_,_,_,_,_,_,k7.at0 (r:=[]) xR rfl,D,N,Di,P,ha.at1 (k:=1) (d0.trans f7) rfl,?_⟩;refine d6 (y:=⟨4,x.name,⟨#[]⟩,0,⟨#[]⟩,0⟩) f7 hx j0 (i5.short c6) λA3 u d3 e3 o3 v3 g3 u3 g9 c7 ⟨r3,g5⟩ g7=>⟨_,_,_,_,_,_,_,_,_,_,_,rfl,newS.intro λa9 n4 d5 h9 l0 _=>newS.intro λk3 n5 b9 g4 h4 _=>?_⟩;have m5:=c7.size;have m6:=d5.size;have n0:=b9.size;have l9:=h9.lt;refine CL (d5.trans b9) (h9.ext b9) g4 oM oM oM (BO g7 (d5.trans b9)) λn7 f0 m9 g8 a0=>?_;have d8:=c7.trans f0;have b0:=c8.trans d8;have b5:=BO hs b0;refine⟨_,_,_,_,m9.at0 (r:=[_,_,_]) xR rfl,_,_,_,_,k6.at0 (r:=[]) b0 rfl,?_⟩;refine SE.Im.go (V4 a0.m.d a0.m.e a0.m.o a0.m.v b5.m.d b5.m.e b5.m.o b5.m.v λn8 d9=>⟨_,rfl,A3.code,g8.at0 d9 rfl,bound ⟨λhb=>?_,λ_=>f4 _ (d8.trans d9)⟩⟩);exfalso;simp only[dx,beq_iff_eq,kh,decide_eq_false_iff_not]at hc hb;obtain⟨f1,f2,f3⟩:=n9 hc.2;exact hb.2 (XW i5 hc.1 g5 hb.1 f1 f2 f3)
end Go.Hal
namespace Go.Hal
open Go.ChangeShapes Go.WideShapes Go.ChangeAt Go.Proofs.YtkndmcejjebjfaaGreatDoor
section
variable {H:Type} {W:Wd} {enc:TypeId×Value->H}
def Zg4{cs:LV}{x:DataW H×List MemPlace}(h1:Tr enc prog W n 24 cs x)(w1:small (x.1.weights prog 24)):
  ∃a b c d:Int,cs= [vi a,vi b,vi c,vi d]:=by
 have hl:=Hl underlying24 h1;have hc:prog.cellsOf 24=4:=kR;rw[hc]at hl;obtain⟨z0,k0,g0,v0⟩:=B9 underlying24 h1 w1 0 3 0 1 ⟨_,rfl,rfl,rfl⟩ kR;obtain⟨z1,k1,g1,v1⟩:=B9 underlying24 h1 w1 1 3 1 1 ⟨_,rfl,rfl,rfl⟩ kR;obtain⟨z2,k2,g2,v2⟩:=B9 underlying24 h1 w1 2 3 2 1 ⟨_,rfl,rfl,rfl⟩ kR;obtain⟨z3,k3,g3,v3⟩:=B9 underlying24 h1 w1 3 3 3 1 ⟨_,rfl,rfl,rfl⟩ kR;obtain⟨a,f0⟩:=EH g0;obtain⟨b,f1⟩:=EH g1;obtain⟨c,f2⟩:=EH g2;obtain⟨d,f3⟩:=EH g3
 match cs,hl with
 | [c1,c2,c3,c4],_=>simp at f0 f1 f2 f3;exact⟨a,b,c,d,by rw[f0,f1,f2,f3]⟩
end
def Zcm{P:Program}{g:Nat}{t:TypeId}{k:IntKind}{zero:Array Value}(h:w.ShapedOpen P)(hg:g<P.globals.size)
  (h0:((begin P (λ_ _=>0) default).world.heap[g]?).bind Obj.row? =some (zero,t)) (hz:zero.size=1)
  (hb:P.buildable t=true) (hc:P.cellTypes P.depth t=some [t]) (hu:P.underlying t=some (.int k)):∃n,w.cell? ⟨g,0,none⟩=some (.int k n):=by
 obtain⟨cs,hh,hs,hr⟩:=h.1 g zero t hg h0;obtain⟨ts,a6,_,a5⟩:=hr hb;rw[hc]at a6;cases a6;have h1:0<cs.size:=oM;obtain⟨u,a7,a0⟩:=a5 0 cs[0] (by simp[h1]);have:u=t:=by simpa using a7.symm
 subst this;have a4:w.cell? ⟨g,0,none⟩=some cs[0]:=by simp[World.cell?,hh,h1]
 rw[a4];unfold Cell.ok at a0;rw[hu]at a0;cases hv:cs[0]<;>rw[hv]at a0<;>first|(obtain⟨rfl,_⟩:=a0;exact⟨_,rfl⟩)|simp at a0
def gMx:prog.globals.size>0/\((begin prog (λ_ _=>0) default).world.heap[0]?).bind Obj.row? =some (#[vi 0],3)/\prog.buildable 3=true/\prog.cellTypes prog.depth 3=some [3]/\prog.underlying 3=some (.int .i64):=
 ⟨of_decide_eq_true kR,kR,kR,kR,kR⟩
def TR{P:Program}{n nm:String}{text:LU}{r:List (String×DataW Unit)}{W:Wd}{g:Nat}
  (h:laidMet P ((n,.iface nm (.ptr (.agg [.lit (.string text)])))::r) W) (hg:P.globalNamed n=some g) {ti tp te ts:TypeId} {ms:Array (String×TypeId)} {f:Field}
  (ht:(P.globals[g]?).map (·.type)=some ti) (hi:P.underlying ti=some (.interface ms)) (a0:∀u,P.typeName? 3 u=some nm->u=tp)
  (hp:P.underlying tp=some (.pointer te)) (he:P.underlying te=some (.struct #[f])) (a6:f.type=ts) (a5:f.offset=0) (hs:P.underlying ts=some .string) (hc:P.cellsOf te=1) (a4:P.cellsOf ts=1):
  ∃ev,W.cell? ⟨g,0,none⟩=some ev/\(ev= .nilIface\/∃te pe,ev= .iface te pe):=by
 obtain⟨a,s,hv,_⟩:=laid_sentinel h hg ht hi a0 hp he a6 a5 hs hc a4;exact⟨_,World.var?_cell hg hv 0,.inr ⟨_,_,rfl⟩⟩
def Ws: "*" ++ "errors.errorString" = "*errors.errorString" :=by decide
def VL(u:TypeId)(h:prog.typeName? 3 u=some "*errors.errorString"):u=465:=
 typeName_ptr_named (nm:= "errors.errorString") (by rw[Ws]; kernel_rfl) kR dC u (by rw[Ws]; exact h)
def Zbw{W:Wd}(h:laidMetH prog K8 W)(a0:W.ShapedOpen prog):Gl W:=by
 refine⟨tab_of h,?_,?_,?_⟩
 .obtain⟨h1,h2,h3,h4,h5⟩:=gMx;exact Zcm a0 h1 h2 rfl h3 h4 h5
 .rw[MakeChecks.laidMetH_plain _ _ _ kR]at h;exact TR (g:=6) (laidMet.tail (laidMet.tail (laidMet.tail (laidMet.tail (laidMet.tail h))))) kR (ti:=161) kR underlying161 VL underlying465 underlying467 rfl rfl underlying9 kR kR
 .rw[MakeChecks.laidMetH_plain _ _ _ kR]at h;exact TR (g:=7) (laidMet.tail (laidMet.tail (laidMet.tail (laidMet.tail h)))) kR (ti:=161) kR underlying161 VL underlying465 underlying467 rfl rfl underlying9 kR kR
section
variable {H:Type} {W:Wd} {enc:TypeId×Value->H}
def Tf:prog.cellsOf 29=6:=kR
def Y3:prog.cellsOf 25=1:=kR
def V8:Rd H prog W Mn 29:=by
 intro enc n cs x h hw;have hl:=Hl underlying29 h;rw[Tf]at hl;obtain⟨y0,m0,h0,w0⟩:=B9 underlying29 h hw 0 3 0 1 ⟨_,rfl,rfl,rfl⟩ kR;obtain⟨y1,m1,h1,w1⟩:=B9 underlying29 h hw 1 9 1 1 ⟨_,rfl,rfl,rfl⟩ JC;obtain⟨y2,m2,h2,w2⟩:=B9 underlying29 h hw 2 9 2 1 ⟨_,rfl,rfl,rfl⟩ JC;obtain⟨y3,m3,h3,w3⟩:=B9 underlying29 h hw 3 3 3 1 ⟨_,rfl,rfl,rfl⟩ kR;obtain⟨y4,m4,h4,w4⟩:=B9 underlying29 h hw 4 9 4 1 ⟨_,rfl,rfl,rfl⟩ JC;obtain⟨y5,m5,h5,w5⟩:=B9 underlying29 h hw 5 3 5 1 ⟨_,rfl,rfl,rfl⟩ kR;obtain⟨a,e0⟩:=EH h0;obtain⟨b,e1,hb⟩:=Lx h1;obtain⟨c,e2,hc⟩:=Lx h2;obtain⟨d,e3⟩:=EH h3;obtain⟨e,e4,he⟩:=Lx h4;obtain⟨f,e5⟩:=EH h5
 match cs,hl with
 | [c0,c1,c2,c3,c4,c5],_=>simp at e0 e1 e2 e3 e4 e5;exact⟨⟨a,b,c,d,e,f⟩,by rw[e0,e1,e2,e3,e4,e5];rfl,hb,hc,he⟩
def Zg9:Js H prog W Mn 25:=NZ underlying25 Tf kR dC V8
def Zha{cs:LV}{x:DataW H×List MemPlace}(h:Tr enc prog W n 27 cs x)(hw:small (x.1.weights prog 27)):
  ∃(sP sS:Sl) (D N Di P:Int) (lp:List Pack) (ls:List StepC),cs= [sP.v,vi D,vi N,vi Di,vi P,sS.v]/\SlR packE W (Here W) sP lp/\SlR Mn W (Here W) sS ls:=by
 have hl:=Hl underlying27 h;have hc:prog.cellsOf 27=6:=kR;rw[hc]at hl;obtain⟨y0,m0,h0,w0⟩:=B9 underlying27 h hw 0 22 0 1 ⟨_,rfl,rfl,rfl⟩ Yz;obtain⟨y1,m1,h1,w1⟩:=B9 underlying27 h hw 1 24 1 4 ⟨_,rfl,rfl,rfl⟩ kR;obtain⟨y2,m2,h2,w2⟩:=B9 underlying27 h hw 2 25 5 1 ⟨_,rfl,rfl,rfl⟩ Y3;obtain⟨a,lp,e0,hp,_⟩:=Zg6 enc m0 _ _ h0 w0;obtain⟨D,N,d3,d4,e1⟩:=Zg4 h1 w1;obtain⟨b,ls,e2,hs,_⟩:=Zg9 enc m2 _ _ h2 w2
 match cs,hl with
 | [c0,c1,c2,c3,c4,c5],_=>simp at e0 e1 e2;exact⟨a,b,D,N,d3,d4,lp,ls,by rw[e0,e1.1,e1.2.1,e1.2.2.1,e1.2.2.2,e2],hp,hs⟩
end
end Go.Hal
